import Derived.Test.YthjfindbamdacaaGreatDoorAuditTellsFb
open List renaming getD->aK,getElem?_eq_none->aM,getElem?_append_left->aZ,getElem?_eq_getElem->cG,mem_of_getElem?->fX,mem_append->bX,mapM_cons->gO,mem_append_right->gP,mem_append_left->gQ,getElem?_map->fM,range'->bK,all_eq_true->gR
open Nat renaming le_refl->aO,beq->bT,lt_of_lt_of_le->bI,ble->gT
open Bool renaming not_eq_true'->aS,false_eq_true->aN
open Array renaming replicate->gN,toArray_toList->bS,getD_eq_getD_getElem?->aF,getElem?_setIfInBounds_ne->aQ
set_option linter.all false
namespace Go.GD
open Go
theorem ft.kK{N M:Nat}{c0:Ctx}{w0:World}{c:Ctx}{w:World}{st:St}{a:Act}(h:ft N M c0 w0 c w st a){x:Operand}{b:Bool}(hb:cb st.env x=.bool b):ft N M c0 w0 c w (st.kK x b) a:=by
 cases x with
 |tmp t=>exact⟨h.mem,h.rows,λs=>by rw[SH hb];exact h.env s,h.size,h.defers,h.gb,h.gq,h.reach⟩
 |_=>exact h
theorem ft.HK{N M:Nat}{c0:Ctx}{w0:World}{c:Ctx}{w:World}{st:St}{a:Act}(h:ft N M c0 w0 c w st a){x:Operand}{b:Bool}(hb:a.eval x=.bool b):ft N M c0 w0 c w (st.kK x b) a:=by
 cases x with
 |tmp t=>
  refine⟨h.mem,h.rows,λs=>?_,h.size,h.defers,h.gb,h.gq,h.reach⟩
  simp only[St.kK,Bp]
  split
  ·rename_i e;subst e;exact hb
  ·exact h.env s
 |_=>exact h
theorem vt{P:Program}{T:fj}(hT:jF P T){G:List bb}(hG:j5 P G){N M:Nat}{ro:Option Nat}{id:Nat}{ops:Array Oper}{st:St}{Q:Ex->St->Prop}(h:mf T G N M ops ops.toList st λst=>Q .normal st):ub ro P N M (.region id ops false) st Q:=by
 intro c0 w0 c w a hs
 refine Zfr ?_
 have:=yT (P:=P) (ops:=ops) hT hG (Q:=λe a' w'=>∃ex jC c',mX e=some ex/\Q ex jC/\ft N M c0 w0 c' w' jC a') (λst c w a hK hs=>⟨_,st,c,rfl,hK,hs⟩) ops.toList 0 st c w a (by simp) h hs
 rwa [<-List.range_eq_range',Array.length_toList]at this
theorem Qyu{c:Ctx}{w:World}{i n:Nat}{row:Row}(hn:c.R n=some row)(hb:row.box=false)(hV:c.V n):∀{e e':List D},HL i n e=some e'->e'.length=e.length/\∀arr off,kU c w e arr off->kU c w e' arr off
 |[],e',h=>by simp[HL]at h
 |d ::l,e',h=>by
  unfold HL at h
  split at h
  ·cases h
   refine⟨rfl,λarr off hc=>?_⟩
   obtain⟨⟨v,hv,h1⟩,⟨u,hu,h2⟩,h3⟩:=hc
   exact⟨⟨v,hv,.inl h1⟩,⟨u,hu,row,hn,hb,.inl ⟨hV,none,h2,Ny⟩⟩,h3⟩
  ·split at h
   ·rename_i l' tF
    cases h
    obtain⟨g1,g2⟩:=Qyu hn hb hV tF
    exact⟨by simp[g1],λarr off hc=>⟨hc.1,g2 arr _ hc.2⟩⟩
   ·cases h
theorem Qyp{n:Nat}:∀{R:Rows} {k i:Nat} {ty:TypeId} {sz:Nat} {e':List D},JS n R k=some (i,ty,sz,e')->∃e j,i=k+j/\R[j]?=some (some ⟨true,ty,sz,.gen [e]⟩)/\HL i n e=some e'
 |[],k,i,ty,sz,e',h=>by simp[JS]at h
 |x ::l,k,i,ty,sz,e',h=>by
  have next:JS n l (k+1)=some (i,ty,sz,e')->∃e j,i=k+j/\(x::l)[j]?=some (some ⟨true,ty,sz,.gen [e]⟩)/\HL i n e=some e':=λh=>by
   obtain⟨e,j,h1,h2,h3⟩:=Qyp h
   exact⟨e,j+1,by omega,by simpa using h2,h3⟩
  unfold JS at h
  split at h
  ·split at h
   ·rename_i e1 he
    cases h
    exact⟨_,0,rfl,rfl,he⟩
   ·exact next h
  ·exact next h
theorem xam{N M:Nat}{c0:Ctx}{w0:World}{c:Ctx}{w:World}{st:St}{a:Act}{T:fj}{code:Code}{K:St->Prop}(h:JT T code st K)(hs:ft N M c0 w0 c w st a): ∃jC c',K jC/\ft N M c0 w0 c' w jC a:=by
  unfold JT at h
  split at h
  . exact⟨st,c,h,hs⟩
  . rename_i u hu
    split at h
    . exact⟨st,c,h,hs⟩
    . rename_i i ty sz e' hf
      simp only[D.fh,nm]at h
      obtain⟨e,j,h1,h2,h3⟩:=Qyp hf
      rw[Nat.zero_add]at h1
      subst h1
      have cq:=(List.getElem?_eq_some_iff.1 h2).1
      have hi:c.R i=some ⟨true,ty,sz, .gen [e]⟩:=by rw[hs.rows,aK,h2];rfl
      have hn:c.R st.rows.length=none:=by rw[hs.rows,aK,aM (aO _)];rfl
      have gl:i≠st.rows.length:=by omega
      have IC:=Wv hs.mem hn (row:=⟨false,u,1, .ints .u8 []⟩) rfl rfl Nat.one_pos
      have Ww:=SM (w:=w) hn ⟨false,u,1, .ints .u8 []⟩
      have Wx:(c.jB st.rows.length ⟨false,u,1, .ints .u8 []⟩).R i=some ⟨true,ty,sz, .gen [e]⟩:=by simp [Ctx.jB,gl,hi]
      obtain⟨q1,q2⟩:=Qyu (c:=c.jB st.rows.length ⟨false,u,1, .ints .u8 []⟩) (w:=w) (row:=⟨false,u,1, .ints .u8 []⟩) (by simp [Ctx.jB]) rfl (.inl rfl) h3
      obtain⟨Wy,Ce⟩:=qc IC Wx q1 (λarr=>q2 arr 0)
      have hg:=Ww.trans Wy
      have nF:lU c w ((c.jB st.rows.length ⟨false,u,1, .ints .u8 []⟩).jI i ⟨true,ty,sz, .gen [e']⟩) w:=by
        refine⟨Ce,hg,Fr.refl _ w,λb hb=> .inl hb,λr aq hr hv=> .inl ?_⟩
        have Ax:r≠st.rows.length:=λe=>hv (.inl e)
        by_cases er:r=i
        . subst er;exact⟨⟨_,hi⟩,λe=>hv (.inr e),rfl⟩
        . exact⟨⟨aq,by simpa [Ctx.jI,Ctx.jB,er,Ax] using hr⟩,λe=>hv (.inr e),rfl⟩
      refine⟨_,_,h,Ce,λr=> ?_,λt=>Ao hg (hs.env t),hs.size,hs.defers,hs.gb,hs.gq,hs.reach.step (ks:=[]) (λk hk=>by simp [cf]at hk) hs.gq nF.toK⟩
      simp only[Ctx.jI,Ctx.jB]
      by_cases er:r=i
      . subst er
        simp [aK,aZ (show r<(st.rows.set r _).length by simpa using cq),cq]
      . rw [if_neg er]
        by_cases en:r=st.rows.length
        . subst en
          simp [aK]
        . rw[if_neg en,hs.rows]
          by_cases hl:r<st.rows.length
          . simp [aK,aZ (show r<(st.rows.set i _).length by simpa using hl),List.getElem?_set_ne (Ne.symm er)]
          . have h1:st.rows.getD r none=none:=by rw[aK,aM (by omega)];rfl
            rw[h1,aK,aM (by simp;omega)];rfl
def sj(P:Program):Prop:=∀(ro:Option Nat) (T:fj) (G:List bb) (N M id:Nat) (ops:Array Oper) (st:St) (Q:Ex->St->Prop),jF P T->j5 P G->u5 T G N M ops st Q->ub ro P N M (.region id ops true) st Q
def HM(y:Array Tmp×Code×Code):Code->Prop
 |.seq a b=>HM y a/\HM y b
 |.cond _ a b=>HM y a/\HM y b
 |.block _ a=>HM y a
 |.loop a=>HM y a
 |.scope a=>HM y a
 |.rangeFunc _ ps x b=>(ps,x,b)=y
 |_=>True
def RF(o:Option Nat)(n:Nat)(c:Code):Prop:=match o with|none=>True|some f=>∃y,(F3 f=some y/\y.n<=n/\y.ts=yTs f/\YB<=f/\y.ps.size=1)/\HM (y.ps,y.assign,y.body) c
theorem qP{P:Program}{ro:Option Nat}{c:Code}{Q:Exit->Act->World->Prop}{a:Act}{w:World}(h:c.wpIn (Bs ro) 0 P (Exit.noGoto Q) a w):(Code.scope c).wpIn (Bs ro) 0 P Q a w:=by
 intro b k cs DZ hb hr
 have s1:step P (lone (b.atR a (.code (.scope c)::k)) cs w)=.next (lone (b.atR a (.code c:: .inScope c::k)) cs w):=step_lone_go (by simp[stepG,stepG.exec,Frame.atR])
 have h0:(lone (b.atR a (.code (.scope c)::k)) cs w).fenced P (Bs ro):=fenced_calm hb hr rfl
 obtain⟨e,Dp,Dq,hq,my⟩:=h b (.inScope c::k) cs DZ hb hr
 cases e with
 |normal=>exact⟨.normal,Dp,Dq,hq,.head h0 s1 (StepsIn.trans my (.one (fenced_calm hb hr rfl) (step_lone_go (by simp[stepG,stepG.exec,Frame.atR]))))⟩
 |exit id=>
  have hx:exitTo id (.inScope c::k)=exitTo id k:=by simp[exitTo]
  exact⟨.exit id,Dp,Dq,hq,λk' hk=>.head h0 s1 (my.1 k' (by rw[hx];exact hk)),λnB hk=>let⟨k₁,h1,h2⟩:=my.2 nB (by rw[hx];exact hk);⟨k₁,h1,.head h0 s1 h2⟩⟩
 |goto l=>exact hq.elim
 |ret=>exact⟨_,Dp,Dq,hq,.of_steps (.one h0 s1) my⟩
 |panic ch=>exact⟨_,Dp,Dq,hq,.of_steps (.one h0 s1) my⟩
 |outgrown=>exact⟨_,Dp,Dq,hq,.of_steps (.one h0 s1) my⟩
theorem ND{P:Program}(hD:sj P){T:fj}(hT:jF P T){G:List bb}(hG:j5 P G){ro:Option Nat}{N M:Nat}{L:Code->St->(Ex->St->Prop)->Prop}{S:Code->Prop}(hS:(∀a b,S (.seq a b)->S a/\S b)/\(∀c a b,S (.cond c a b)->S a/\S b)/\(∀i a,S (.block i a)->S a)/\(∀a,S (.scope a)->S a))(hL:∀code st Q,S code->L code st Q->ub ro P N M code st Q):∀(code:Code) (st:St) (Q:Ex->St->Prop),S code->pk T G N M L code st Q->ub ro P N M code st Q:=by
 intro code
 induction code with
 |skip=>exactλst Q _ h c0 w0 c w a hs=>wpIn_skip ⟨_,st,c,rfl,h,hs⟩
 |label l=>exactλst Q _ h c0 w0 c w a hs=>wpIn_label ⟨_,st,c,rfl,h,hs⟩
 |region id ops draw=>
  intro st Q hc h c0 w0 c w a hs
  simp only[pk]at h
  obtain⟨R1,c1,h,mL⟩:=Gn h hs
  obtain⟨jC,c',h,jn⟩:=y4 h mL
  cases draw with
  |false=>exact vt hT hG h c0 w0 c' w a jn
  |true=>exact hD ro T G N M id ops jC Q hT hG h c0 w0 c' w a jn
 |seq x y ihx U7=>
  intro st Q hc h c0 w0 c w a hs
  simp only[pk]at h
  refine wpIn_seq (wpIn_mono (ihx st _ (hS.1 _ _ hc).1 h c0 w0 c w a hs) λe a' w' hq=>?_)
  obtain⟨ex,jC,c',he,hq,jn⟩:=hq
  cases e<;>simp only[mX,Option.some.injEq,reduceCtorEq]at he
  ·subst he
   obtain⟨Uo,c2,hq,PX⟩:=xam hq jn
   exact U7 Uo Q (hS.1 _ _ hc).2 hq c0 w0 c2 w' a' PX
  ·subst he;exact⟨_,jC,c',rfl,hq,jn⟩
  ·subst he;exact⟨_,jC,c',rfl,hq,jn⟩
 |cond x y z U7 ihz=>
  intro st Q hc h c0 w0 c w a hs
  simp only[pk]at h
  split at h
  ·rename_i b hb
   have hv:=Nr hs.env x
   rw[hb]at hv
   have hv:=Rep.bool.1 hv
   cases b with
   |true=>exact wpIn_cond_true hv (U7 _ Q (hS.2.1 _ _ _ hc).1 h c0 w0 c w a (hs.kK hb))
   |false=>exact wpIn_cond_false hv (ihz _ Q (hS.2.1 _ _ _ hc).2 h c0 w0 c w a (hs.kK hb))
  ·rename_i es hb
   have hv:=Nr hs.env x
   rw[hb]at hv
   obtain⟨b,hv,gx⟩:=hv
   cases b with
   |true=>exact wpIn_cond_true hv (U7 _ Q (hS.2.1 _ _ _ hc).1 (h.1 (ai.ow.2 (gx rfl))) c0 w0 c w a (hs.HK hv))
   |false=>exact wpIn_cond_false hv (ihz _ Q (hS.2.1 _ _ _ hc).2 h.2 c0 w0 c w a (hs.HK hv))
  ·exact h.elim
 |block id x ih=>
  intro st Q hc h c0 w0 c w a hs
  simp only[pk]at h
  refine wpIn_block (wpIn_mono (ih st _ (hS.2.2.1 _ _ hc) h c0 w0 c w a hs) λe a' w' hq=>?_)
  obtain⟨ex,jC,c',he,hq,jn⟩:=hq
  cases e<;>simp only[mX,Option.some.injEq,reduceCtorEq]at he
  ·subst he;exact⟨_,jC,c',rfl,hq,jn⟩
  ·rename_i i
   subst he
   simp only[Exit.inBlock]
   simp only at hq
   cases hb:bT i id with
   |true=>
    simp only[hb]at hq
    rw[if_pos (bE hb)]
    exact⟨_,jC,c',rfl,hq,jn⟩
   |false=>
    simp only[hb]at hq
    rw[if_neg (λe=>by rw[e]at hb;simp at hb)]
    exact⟨_,jC,c',rfl,hq,jn⟩
  ·subst he;exact⟨_,jC,c',rfl,hq,jn⟩
 |exit id=>exactλst Q _ h c0 w0 c w a hs=>wpIn_exit ⟨_,st,c,rfl,h,hs⟩
 |ret=>exactλst Q _ h c0 w0 c w a hs=>wpIn_ret ⟨_,st,c,rfl,h,hs⟩
 |loop x ih=>exactλst Q hc h=>hL _ _ _ hc h
 |rangeFunc g ps x y _ _=>exactλst Q hc h=>hL _ _ _ hc h
 |scope x ih=>
  intro st Q hc h c0 w0 c w a hs
  simp only[pk]at h
  refine qP (wpIn_mono (ih st _ (hS.2.2.2 _ hc) h c0 w0 c w a hs) λe a' w' hq=>?_)
  obtain⟨ex,jC,c',he,hq,jn⟩:=hq
  cases e<;>simp only[mX,Option.some.injEq,reduceCtorEq]at he
  all_goals(subst he;exact⟨_,jC,c',rfl,hq,jn⟩)
 |goto l=>exactλst Q hc h=>hL _ _ _ hc h
 |refuse y=>exactλst Q hc h=>hL _ _ _ hc h
theorem NF(o:Option Nat)(n:Nat):(∀a b,RF o n (.seq a b)->RF o n a/\RF o n b)/\(∀c a b,RF o n (.cond c a b)->RF o n a/\RF o n b)/\(∀i a,RF o n (.block i a)->RF o n a)/\(∀a,RF o n (.scope a)->RF o n a):=by
 cases o with
 |none=>exact⟨λ_ _ _=>⟨trivial,trivial⟩,λ_ _ _ _=>⟨trivial,trivial⟩,λ_ _ _=>trivial,λ_ _=>trivial⟩
 |some f=>exact⟨λ_ _ ⟨y,h,h1,h2⟩=>⟨⟨y,h,h1⟩,⟨y,h,h2⟩⟩,λ_ _ _ ⟨y,h,h1,h2⟩=>⟨⟨y,h,h1⟩,⟨y,h,h2⟩⟩,λ_ _ ⟨y,h,h1⟩=>⟨y,h,h1⟩,λ_ ⟨y,h,h1⟩=>⟨y,h,h1⟩⟩
def Ctx.out(c:Ctx)(ex:List Nat)(rows:List Row):Ctx:=
 { ρ:=λi=>match ex[i]? with|some r=>c.ρ r|none=>c.ρ i,R:=λi=>rows[i]?,V:=λi=>match ex[i]? with|some r=>c.R r=none\/c.V r|none=>True,
   I:=λb=>c.I b\/ ∃r row,c.R r=some row/\ ¬c.V r/\row.box=false/\KN ex r=true/\c.ρ r=b,base:=c.base,top:=c.top,X:=c.X}
theorem U8{ex:List Nat}{i r:Nat}(h:kL ex i r=true):ex[i]?=some r:=by
 unfold kL at h
 split at h
 ·rename_i x hx;rw[hx,bE h]
 ·cases h
theorem Zq5{ex:List Nat}{R:Rows}{i:Nat}(h:IQ ex R i=true):∃r,ex[i]?=some r/\R.getD r none=none:=by
 unfold IQ at h
 split at h
 ·rename_i r hr
  refine⟨r,hr,?_⟩
  split at h
  ·assumption
  ·cases h
 ·cases h
theorem Z8q{ex:List Nat}{r:Nat}(h:KN ex r=true):r∉ex:=by
 intro hm
 have:=List.all_eq_true.1 h r hm
 simp at this
theorem QU{ex:List Nat}{m:Nat}{R:Rows}:∀{rs:List Nat} {ps:List Row},nc ex m R rs ps->rs.length=ps.length/\∀(i r:Nat) (p:Row),rs[i]?=some r->ps[i]?=some p->
 (∃row,R.getD r none=some row/\row.box=p.box/\row.ty=p.ty/\row.sz=p.sz/\(if p.box then∃e e',row.es=.gen [e]/\p.es=.gen [e']/\Fi ex m R e e' else row.es.l=p.es.l))\/(R.getD r none=none/\p.box=false/\p.es.l=[]/\0<p.sz)
 |[],[],_=>⟨rfl,λi r p h=>by simp at h⟩
 |[],_::_,h=>h.elim
 |_::_,[],h=>h.elim
 |r ::rs,⟨box,ty,sz,es⟩::ps,h=>by
  simp only[nc]at h
  obtain⟨h1,h2⟩:=h
  obtain⟨g1,g2⟩:=QU h2
  refine⟨by simp[g1],λi q p hq hp=>?_⟩
  cases i with
  |succ i=>exact g2 i q p (by simpa using hq) (by simpa using hp)
  |zero=>
   simp at hq hp
   subst hq;subst hp
   split at h1
   ·rename_i AE j6 kE ji hR
    simp only[c9,aE]at h1
    obtain⟨⟨⟨e1,e2⟩,e3⟩,h1⟩:=h1
    refine .inl ⟨_,hR,by cases box<;>cases AE<;>simp_all,(bE e2).symm,(bE e3).symm,?_⟩
    cases box with
    |false=>simpa using ai.AA h1
    |true=>
     simp only[if_true]
     simp only at h1
     split at h1
     ·exact⟨_,_,rfl,rfl,h1⟩
     ·exact h1.elim
   ·rename_i hR
    simp only[c9,aE,aS]at h1
    exact .inr ⟨hR,h1.1.1,ai.ow.1 h1.2,lE h1.1.2⟩
theorem SN{c:Ctx}{w:World}{ex:List Nat}{m:Nat}{R:Rows}{rows:List Row}(hR:∀r,c.R r=R.getD r none)(c6:nc ex m R ex rows){i r o f:Nat}{v:Value}(hx:kL ex i r=true)(hr:cz c w (.ptr r o f) v):cz (c.out ex rows) w (.ptr i o f) v:=by
 obtain⟨row,g1,gV,g2,hv⟩:=hr
 have hi:=U8 hx
 obtain⟨hl,jb⟩:=QU c6
 have cq:=(List.getElem?_eq_some_iff.1 hi).1
 have hp:rows[i]?=some rows[i]:=cG (by omega)
 rcases jb i r _ hi hp with⟨aq,k1,k2,k3,k4,k5⟩|⟨k1,_⟩
 ·have:aq=row:=by rw[hR,k1]at g1;exact Option.some.inj g1
  subst this
  refine⟨_,hp,by simp[Ctx.out,hi,g1,gV],?_,by simp only[Ctx.out,hi];rw[hv,k4]⟩
  split at k5
  ·obtain⟨e,e',q1,q2,_⟩:=k5
   rw[q1]at g2;rw[q2];exact g2
  ·rw[<-k5];exact g2
 ·rw[hR,k1]at g1;cases g1
theorem Znk{c:Ctx}{w:World}{ex:List Nat}{m:Nat}{R:Rows}{rows:List Row}(hR:∀r,c.R r=R.getD r none)(c6:nc ex m R ex rows):∀{ps qs:List (Nat×Nat×Nat)} {us:List Value},sJ ex ps qs=true->MQ c qs us->MQ (c.out ex rows) ps us
 |[],[],_,_,h=>by rename_i us _;cases us<;>exact h
 |(i,b,d)::l,(r,y,z)::q,u::us,h,hr=>by
  simp only[sJ,aE]at h
  obtain⟨h1,h2,h3,h4⟩:=h
  have e2:=bE h2;have e3:=bE h3
  subst e2;subst e3
  exact⟨SN (w:=w) hR c6 h1 hr.1,Znk (w:=w) hR c6 h4 hr.2⟩
 |(_,_,_)::_,(_,_,_)::_,[],_,h=>h.elim
 |[],_::_,_,h,_=>by simp[sJ]at h
 |_::_,[],_,h,_=>by simp[sJ]at h
theorem xP{c:Ctx}{w:World}{ex:List Nat}{m:Nat}{R:Rows}{rows:List Row}(hR:∀r,c.R r=R.getD r none)(c6:nc ex m R ex rows):∀{cs ds:List iz} {us:List Value},pn ex cs ds=true->oR c w ds us->oR (c.out ex rows) w cs us:=by
 intro cs
 induction cs with
 |nil=>intro ds us h hr;cases ds<;>cases us<;>first|exact hr|(simp[pn]at h;done)
 |cons x cs ih=>
  intro ds us h hr
  cases ds with
  |nil=>cases x<;>simp[pn]at h
  |cons y ds=>
   cases us with
   |nil=>exact hr.elim
   |cons u us=>
    cases x<;>cases y<;>simp only[pn,aE,aN]at h
    ·obtain⟨h1,h2,h3,h4⟩:=h
     have e2:=bE h2;have e3:=bE h3
     subst e2;subst e3
     exact⟨SN (w:=w) hR c6 h1 hr.1,ih h4 hr.2⟩
    ·obtain⟨h1,h2,h3⟩:=h
     have e1:=bE h1
     subst e1
     obtain⟨⟨ws,hv,hw⟩,Uz⟩:=hr
     exact⟨⟨ws,MF (c:=c) (c':=c.out ex rows) (w':=w) (λb hb=>⟨Or.inl hb,rfl⟩) hv,Znk (w:=w) hR c6 h2 hw⟩,ih h3 Uz⟩
section
variable {c:Ctx} {w:World} {ex:List Nat} {m:Nat} {R:Rows} {rows:List Row}
theorem ZS(hm:Mem c w)(hR:∀r,c.R r=R.getD r none)(c6:nc ex m R ex rows)(fg:∀r row,c.R r=some row->¬c.V r->m<=r->c.base<=c.ρ r){d p:D}{v:Value}(h:jD ex m R d p)(hr:cz c w d v):cz (c.out ex rows) w p v:=by
 have nG:∀b,c.I b->(c.out ex rows).I b/\w.heap[b]?=w.heap[b]? :=λb hb=>⟨.inl hb,rfl⟩
 obtain⟨hl,jb⟩:=QU c6
 have rowOf:∀i r row,ex[i]?=some r->c.R r=some row->∃p,rows[i]?=some p/\row.box=p.box/\row.ty=p.ty/\row.sz=p.sz/\row.es.l.length=p.es.l.length/\(c.out ex rows).ρ i=c.ρ r/\((c.out ex rows).V i↔c.V r):=by
  intro i r row hi cr
  have cq:=(List.getElem?_eq_some_iff.1 hi).1
  have hp:rows[i]?=some rows[i]:=cG (by omega)
  rcases jb i r _ hi hp with⟨aq,g1,g2,g3,g4,g5⟩|⟨g1,_⟩
  ·have:aq=row:=by rw[hR,g1]at cr;exact Option.some.inj cr
   subst this
   refine⟨_,hp,g2,g3,g4,?_,by simp[Ctx.out,hi],by simp[Ctx.out,hi,cr]⟩
   split at g5
   ·obtain⟨e,e',k1,k2,_⟩:=g5
    rw[k1,k2];rfl
   ·rw[g5]
  ·rw[hR,g1]at cr;cases cr
 have NH:∀i a,IQ ex R i=true->v=.slice a 0 0->AI c.top a->cz (c.out ex rows) w (.all i) v:=by
  intro i a hv Es dw
  obtain⟨r,hi,hrn⟩:=Zq5 hv
  have cq:=(List.getElem?_eq_some_iff.1 hi).1
  have hp:rows[i]?=some rows[i]:=cG (by omega)
  rcases jb i r _ hi hp with⟨aq,g1,_⟩|⟨g1,g2,g3,g4⟩
  ·rw[hrn]at g1;cases g1
  ·exact⟨_,hp,g2,.inl ⟨by simp only[Ctx.out,hi];exact .inl (by rw[hR];exact g1),a,Es,dw⟩⟩
 cases p<;>simp only[jD]at h
 case int k n=>
  split at h
  ·simp only[c9,decide_eq_true_eq]at h;obtain⟨rfl,rfl⟩:=h;exact hr
  ·exact h.elim
 case bool b=>
  split at h
  ·subst h;exact hr
  ·exact h.elim
 case str s=>
  split at h
  ·subst h;exact hr
  ·exact h.elim
 case iQ=>
  split at h
  ·exact hr
  ·exact h.elim
 case du=>
  split at h
  ·exact hr
  ·exact h.elim
 case emp=>
  split at h
  ·exact⟨none,hr,Ny⟩
  ·exact hr
  ·exact h.elim
 case jQ=>
  split at h
  ·exact hr
  ·exact h.elim
 case gj f cs=>
  split at h
  ·simp only[c9,aE]at h
   obtain⟨⟨h1,h2⟩,_⟩:=h
   have e1:=bE h1
   subst e1
   obtain⟨us,hv,hu⟩:=hr
   exact⟨us,MF (c:=c) (c':=c.out ex rows) (w':=w) (λb hb=>⟨Or.inl hb,rfl⟩) hv,xP hR c6 h2 hu⟩
  ·exact h.elim
 case ptr i o f=>
  split at h
  ·simp only[c9,aE]at h
   obtain⟨⟨h1,h2,h3⟩,_⟩:=h
   have e2:=bE h2;have e3:=bE h3
   subst e2;subst e3
   exact SN (w:=w) hR c6 h1 hr
  ·exact h.elim
 case c8 i=>
  have go:∀r,kL ex i r=true->cz c w (.c8 r) v->cz (c.out ex rows) w (.c8 i) v:=by
   intro r hx hr
   rcases hr with hr|⟨row,g1,gV,g2,hv⟩
   ·exact .inl hr
   ·have hi:=U8 hx
    obtain⟨p,hp,q1,q2,q3,q4,q5,q6⟩:=rowOf i r row hi g1
    exact .inr ⟨p,hp,λe=>gV (q6.1 e),by rw[<-q4];exact g2,by rw[hv,q5,q3]⟩
  split at h
  ·exact .inl hr
  ·simp only[c9]at h;exact go _ h.1 hr
  ·simp only[c9,aE]at h
   obtain⟨⟨h1,h2,h3⟩,_⟩:=h
   have e2:=bE h2;have e3:=bE h3
   subst e2;subst e3
   exact go _ h1 (.inr hr)
  ·exact h.elim
 case dead=>exact cz.one hr
 case sl sz es fr=>
  split at h
  ·have h:=ai.ow.1 h;exact⟨none,0,by rw[h];exact hr,by rw[h];exact aO _,.inl h⟩
  ·have h:=ai.ow.1 h;obtain⟨a,hr,_⟩:=hr;exact⟨a,0,by rw[h];exact hr,by rw[h];exact aO _,.inl h⟩
  ·rename_i kE ji fr'
   simp only[c9,Bool.or_eq_true,aS]at h
   obtain⟨hf,hs,he⟩:=h
   have he:=ai.AA he
   obtain⟨a,cap,hv,hc,gx⟩:=hr
   rw[he]at hv hc gx
   refine⟨a,cap,hv,hc,?_⟩
   rcases gx with gx|⟨b,off,arr,ty,fz,ha,hI,hf',hh,hE⟩
   ·exact .inl gx
   ·rcases hs with hs|rfl
    ·exact .inl (by rw[<-he];exact ai.ow.1 hs)
    ·exact .inr ⟨b,off,arr,ty,fz,ha,.inl hI,λe=>hf' (by rcases hf with hf|hf<;>simp_all),hh,oh nG _ _ _ _ hE⟩
  ·rename_i r
   split at h
   ·rename_i box ty kE ji ZT
    simp only[c9,aE,aS]at h
    obtain⟨⟨⟨⟨hb,hs⟩,ho⟩,JU⟩,Bh⟩:=h
    have Bh:=ai.AA Bh
    have hs:=bE hs
    have JU:=lE JU
    obtain⟨row,g1,g2,hv⟩:=hr
    have:row=⟨box,ty,kE,ji⟩:=by rw[hR,ZT]at g1;exact(Option.some.inj g1).symm
    subst this
    subst hs
    rcases hv with⟨hV,a,hv,_⟩|⟨hV,cap,arr,hv,g3,g4,g5,g6⟩
    ·have he:=(hm.oi g1 hV).2.1
     simp only at he
     rw[he]at Bh
     exact⟨a,0,by rw[<-Bh];exact hv,by rw[<-Bh];exact aO _,.inl Bh.symm⟩
    obtain⟨iS,jJ,jn,hx⟩:=hm.real g1 hV
    rw[g5]at jJ;cases jJ
    simp only[hb,aN,if_false]at hx
    simp only at hv g3 hx
    rw[Bh]at hv g3 hx
    exact⟨_,cap,hv,g3,.inr ⟨_,0,arr,_,_,rfl,.inr ⟨r,_,g1,hV,hb,ho,rfl⟩,λ_=>fg r _ g1 hV JU,g5,oh nG _ _ _ _ hx⟩⟩
   ·exact h.elim
  ·rename_i r o n
   split at h
   ·rename_i box ty kE ji ZT
    simp only[c9,aE,aS]at h
    obtain⟨⟨⟨⟨hb,hs⟩,ho⟩,JU⟩,Bh⟩:=h
    have Bh:=ai.AA Bh
    rw[ai.jf,ai.kv]at Bh
    have hs:=bE hs
    have JU:=lE JU
    obtain⟨row,g1,g2,g5,hv⟩:=hr
    have:row=⟨box,ty,kE,ji⟩:=by rw[hR,ZT]at g1;exact(Option.some.inj g1).symm
    subst this
    subst hs
    simp only at g5
    have tF:((ji.l.drop o).take n).length=n:=by simp only[List.length_take,List.length_drop];omega
    rw[Bh]at tF
    rcases hv with⟨h0,a,hv,_⟩|⟨hV,cap,arr,g3,g4,g6,hv,g7⟩
    ·subst h0
     have h0:=List.eq_nil_of_length_eq_zero tF
     exact⟨a,0,by rw[tF];exact hv,by omega,.inl h0⟩
    obtain⟨iS,jJ,jn,hx⟩:=hm.real g1 hV
    rw[g6]at jJ;cases jJ
    simp only[hb,aN,if_false]at hx
    have hE:=Mx (n:=n) (KB (l:=o) hx)
    rw[Bh]at hE
    exact⟨_,cap,by rw[tF];exact hv,by omega,.inr ⟨_,o*kE,arr,_,_,rfl,.inr ⟨r,_,g1,hV,hb,ho,rfl⟩,λ_=>fg r _ g1 hV JU,g6,oh nG _ _ _ _ (by simpa using hE)⟩⟩
   ·exact h.elim
  ·exact h.elim
 case all i=>
  split at h
  ·rename_i r
   simp only[c9]at h
   obtain⟨row,g1,g2,hv⟩:=hr
   obtain⟨p,k1,k2,k3,k4,k5,k6,k7⟩:=rowOf i r row (U8 h.1) g1
   refine⟨p,k1,by rw[<-k2];exact g2,?_⟩
   rcases hv with⟨hV,hv⟩|⟨hV,cap,arr,hv,g3,g4,g5,g6⟩
   ·exact .inl ⟨k7.2 hV,hv⟩
   ·exact .inr ⟨λe=>hV (k7.1 e),cap,arr,by rw[hv,k5,k6],by rw[<-k5];exact g3,g4,by rw[k6,<-k3];exact g5,by rw[<-k4];exact g6⟩
  ·simp only[c9]at h
   exact NH i none h.1 hr Ny
  ·simp only[c9]at h
   obtain⟨a,hr,ho⟩:=hr
   exact NH i a h.1 hr ho
  ·exact h.elim
 case own i o n=>
  split at h
  ·rename_i r o' n'
   simp only[c9]at h
   obtain⟨hx,rfl,rfl⟩:=h
   obtain⟨row,g1,g2,g5,hv⟩:=hr
   obtain⟨p,k1,k2,k3,k4,k5,k6,k7⟩:=rowOf i r row (U8 hx) g1
   refine⟨p,k1,by rw[<-k2];exact g2,by rw[<-k5];exact g5,?_⟩
   rcases hv with⟨h0,a,hv,jd⟩|⟨hV,cap,arr,g3,g4,g6,hv,g7⟩
   ·exact .inl ⟨h0,a,hv,jd.mono (aO _) k7 k6⟩
   ·exact .inr ⟨λe=>hV (k7.1 e),cap,arr,g3,g4,by rw[k6,<-k3];exact g6,by rw[k6,<-k4];exact hv,by rw[<-k4];exact g7⟩
  ·exact h.elim
theorem Zey(hm:Mem c w)(hR:∀r,c.R r=R.getD r none)(c6:nc ex m R ex rows)(fg:∀r row,c.R r=some row->¬c.V r->m<=r->c.base<=c.ρ r):∀{ds ps:List D} {vs:List Value},Fi ex m R ds ps->jt c w ds vs->jt (c.out ex rows) w ps vs
 |[],[],[],_,_=>trivial
 |[],[],_::_,_,h=>h.elim
 |[],_::_,_,h,_=>h.elim
 |_::_,[],_,h,_=>h.elim
 |_::_,_::_,[],_,h=>h.elim
 |d::ds,p::ps,v::vs,h,hr=>⟨ZS hm hR c6 fg h.1 hr.1,Zey hm hR c6 fg h.2 hr.2⟩
theorem Zms(hm:Mem c w)(hR:∀r,c.R r=R.getD r none)(c6:nc ex m R ex rows)(fg:∀r row,c.R r=some row->¬c.V r->m<=r->c.base<=c.ρ r){d p:D}{v:Value}(h:ry ex m R d p)(hr:VRep c w d v):VRep (c.out ex rows) w p v:=by
 cases p with
 |agg ps=>
  simp only[ry]at h
  cases d<;>simp only at h
  obtain⟨vs,hv,hx⟩:=hr
  exact⟨vs,hv,Zey hm hR c6 fg h hx⟩
 |_=>
  simp only[ry]at h
  refine VRep.EW (ZS hm hR c6 fg h (VRep.toC ?_ hr))
  intro cs e
  subst e
  simp[jD,cw,D.HN]at h
theorem Zfx(hm:Mem c w)(hR:∀r,c.R r=R.getD r none)(c6:nc ex m R ex rows)(fg:∀r row,c.R r=some row->¬c.V r->m<=r->c.base<=c.ρ r):∀{ds ps:List D} {vs:List Value},wM ex m R ds ps->kr c w ds vs->kr (c.out ex rows) w ps vs
 |[],[],[],_,_=>trivial
 |[],[],_::_,_,h=>h.elim
 |[],_::_,_,h,_=>h.elim
 |_::_,[],_,h,_=>h.elim
 |_::_,_::_,[],_,h=>h.elim
 |d::ds,p::ps,v::vs,h,hr=>⟨Zms hm hR c6 fg h.1 hr.1,Zfx hm hR c6 fg h.2 hr.2⟩
theorem SO(hm:Mem c w)(hR:∀r,c.R r=R.getD r none)(c6:nc ex m R ex rows)(fg:∀r row,c.R r=some row->¬c.V r->m<=r->c.base<=c.ρ r){d p:D}{v:Value}(h:Ay ex m R d p)(hr:Rep c w d v):Rep (c.out ex rows) w p v:=by
 cases p with
 |dt ps=>
  simp only[Ay]at h
  cases d<;>simp only at h
  obtain⟨vs,hv,hx⟩:=hr
  exact⟨vs,hv,Zfx hm hR c6 fg h hx⟩
 |dead=>trivial
 |_=>
  simp only[Ay]at h
  refine Rep.KF (Zms hm hR c6 fg h (Rep.toV ?_ ?_ hr))
  ·intro ds e;subst e;simp[ry,jD]at h
  ·intro e;subst e;simp[ry,jD]at h
theorem Z47(hm:Mem c w)(hR:∀r,c.R r=R.getD r none)(c6:nc ex m R ex rows)(fg:∀r row,c.R r=some row->¬c.V r->m<=r->c.base<=c.ρ r):∀{ds ps:List D} {arr:Array Value} {off:Nat},Fi ex m R ds ps->kU c w ds arr off->kU (c.out ex rows) w ps arr off
 |[],[],_,_,_,_=>trivial
 |[],_::_,_,_,h,_=>h.elim
 |_::_,[],_,_,h,_=>h.elim
 |d::ds,p::ps,arr,off,h,hr=>⟨by obtain⟨⟨v,hv,hx⟩,_⟩:=hr;exact⟨v,hv,ZS hm hR c6 fg h.1 hx⟩,Z47 hm hR c6 fg h.2 hr.2⟩
theorem Qyr:∀{ds ps:List D},Fi ex m R ds ps->ds.length=ps.length
 |[],[],_=>rfl
 |[],_::_,h=>h.elim
 |_::_,[],h=>h.elim
 |_::_,_::_,h=>by simp[Qyr h.2]
theorem qan(hm:Mem c w)(hR:∀r,c.R r=R.getD r none)(c6:nc ex m R ex rows)(fg:∀r row,c.R r=some row->¬c.V r->m<=r->c.base<=c.ρ r)(ly:ex.Nodup):Mem (c.out ex rows) w:=by
 have nG:∀b,c.I b->(c.out ex rows).I b/\w.heap[b]?=w.heap[b]? :=λb hb=>⟨.inl hb,rfl⟩
 obtain⟨hl,jb⟩:=QU c6
 have inv:∀i p,(c.out ex rows).R i=some p->∃r,ex[i]?=some r/\(c.out ex rows).ρ i=c.ρ r/\((∃row,c.R r=some row/\row.box=p.box/\row.ty=p.ty/\row.sz=p.sz/\((c.out ex rows).V i↔c.V r)/\(if p.box then∃e e',row.es=.gen [e]/\p.es=.gen [e']/\Fi ex m R e e' else row.es.l=p.es.l))\/((c.out ex rows).V i/\p.box=false/\p.es.l=[]/\0<p.sz)):=by
  intro i p hp
  have QV:rows[i]?=some p:=hp
  have cq:=(List.getElem?_eq_some_iff.1 QV).1
  have hi:ex[i]?=some ex[i]:=cG (by omega)
  refine⟨_,hi,by simp[Ctx.out,hi],?_⟩
  rcases jb i _ p hi QV with⟨row,g1,g2,g3,g4,g5⟩|⟨g1,g2⟩
  ·have cr:c.R ex[i]=some row:=by rw[hR];exact g1
   exact .inl ⟨row,cr,g2,g3,g4,by simp[Ctx.out,hi,cr],g5⟩
  ·exact .inr ⟨by simp only[Ctx.out,hi];exact .inl (by rw[hR];exact g1),g2⟩
 refine⟨λi p hp=>?_,λi j p q hp hq v1 v2 he=>?_,λb hb=>?_,hm.top,hm.kX.mono nG⟩
 ·obtain⟨r,g1,g6,⟨row,g2,g3,g4,g5,gV,g7⟩|⟨gV,g2⟩⟩:=inv i p hp
  ·rcases hm.row r row g2 with⟨h0,h1,h2,h3⟩|⟨h0,arr,ha,hs,hx⟩
   ·refine .inl ⟨gV.2 h0,by rw[<-g3];exact h1,?_,by rw[<-g5];exact h3⟩
    rw[if_neg (by rw[<-g3,h1];simp)]at g7
    rw[<-g7];exact h2
   refine .inr ⟨λe=>h0 (gV.1 e),arr,by rw[g6,<-g4];exact ha,by rw[<-g5];exact hs,?_⟩
   split
   ·rename_i hb
    rw[if_pos hb]at g7
    rw[if_pos (g3.trans hb)]at hx
    obtain⟨e,e',k1,k2,k3⟩:=g7
    obtain⟨e0,q1,q2,q3,q4⟩:=hx
    rw[k1]at q1;cases q1
    exact⟨e',k2,by rw[<-Qyr k3,<-g5];exact q2,by rw[<-g5];exact q3,Z47 hm hR c6 fg k3 q4⟩
   ·rename_i hb
    rw[if_neg hb]at g7
    rw[if_neg (by rw[g3];exact hb)]at hx
    rw[<-g7,<-g5]
    exact oh nG _ _ _ _ hx
  ·exact .inl ⟨gV,g2⟩
 ·obtain⟨r,g1,g6,⟨row,g2,_,_,_,gV,_⟩|⟨gV,_⟩⟩:=inv i p hp
  ·obtain⟨s,k1,k6,⟨aq,k2,_,_,_,kV,_⟩|⟨kV,_⟩⟩:=inv j q hq
   ·rw[g6,k6]at he
    have:r=s:=hm.inj r s _ _ g2 k2 (λe=>v1 (gV.2 e)) (λe=>v2 (kV.2 e)) he
    subst this
    exact(List.getElem?_inj (List.getElem?_eq_some_iff.1 g1).1 ly).1 (g1.trans k1.symm)
   ·exact(v2 kV).elim
  ·exact(v1 gV).elim
 ·rcases hb with hb|⟨r,row,hr,hV,w6,ho,rfl⟩
  ·refine⟨(hm.fk b hb).1,λi p hp v=>?_⟩
   obtain⟨r,g1,g6,⟨row,g2,_,_,_,gV,_⟩|⟨gV,_⟩⟩:=inv i p hp
   ·rw[g6]
    exact(hm.fk b hb).2 r row g2 (λe=>v (gV.2 e))
   ·exact(v gV).elim
  ·refine⟨hm.lt hr hV,λi p hp v=>?_⟩
   obtain⟨s,g1,g6,⟨aq,g2,_,_,_,gV,_⟩|⟨gV,_⟩⟩:=inv i p hp
   ·rw[g6]
    intro e
    have:=hm.inj s r _ _ g2 hr (λe=>v (gV.2 e)) hV e
    subst this
    exact Z8q ho (fX g1)
   ·exact(v gV).elim
end
theorem Zmg:∀{l m:List Nat},Af l m=true->l=m
 |[],[],_=>rfl
 |x::l,y::m,h=>by
  simp only[Af,aE]at h
  rw[bE h.1,Zmg h.2]
 |[],_::_,h=>by cases h
 |_::_,[],h=>by cases h
theorem zan{M:Nat}{ex:List Nat}(h:Az M ex=true):ex.Nodup/\(∀i,i<M->ex[i]?=some i)/\∀i r,ex[i]?=some r->(i=r/\i<M)\/M<=r:=by
 unfold Az at h
 simp only[aE]at h
 obtain⟨⟨h1,h2⟩,h3⟩:=h
 replace h1:=Zmg h1
 replace h2:∀r∈ex.drop M,M<=r:=λr hr=>lE (List.all_eq_true.1 h2 r hr)
 replace h3:=MB.1 h3
 have he:ex=List.range M++ex.drop M:=by rw[<-h1,List.take_append_drop]
 generalize hq:ex.drop M=q at he h2 h3
 subst he
 refine⟨?_,λi hi=>by rw[aZ (by simpa using hi)];simp[hi],λi r hr=>?_⟩
 ·rw[List.nodup_append]
  exact⟨List.nodup_range,h3,λx hx y hy=>by simp at hx;have:=h2 y hy;omega⟩
 ·by_cases cq:i<M
  ·rw[aZ (by simpa using cq)]at hr
   simp[cq]at hr
   exact .inl ⟨hr,cq⟩
  ·rw[List.getElem?_append_right (by simpa using cq)]at hr
   exact .inr (h2 r (fX hr))
theorem SP{N M:Nat}{c0:Ctx}{w0:World}{c:Ctx}{w:World}{st:St}{a:Act}(hs:ft N M c0 w0 c w st a){ex:List Nat}{ak:List Row}(hex:Az M ex=true)(c6:nc ex M st.rows ex ak):
 (∀r row,c.R r=some row->¬c.V r->M<=r->c.base<=c.ρ r)/\Mem (c.out ex ak) w/\An c0 w0 (c.out ex ak) w:=by
 obtain⟨ly,hid,hinv⟩:=zan hex
 obtain⟨hl,jb⟩:=QU c6
 have hb1:c.base=c0.base:=hs.reach.cj.base
 have Dr:∀r row,c.R r=some row->¬c.V r->M<=r->c0.X (c.ρ r)\/w0.heap.size<=c.ρ r:=λr row h1 v h2=>by
  rcases hs.reach.oj r row h1 v with⟨⟨x,hx⟩,_⟩|h3
  ·have:=hs.gq r x hx;omega
  ·exact h3
 have fg:∀r row,c.R r=some row->¬c.V r->M<=r->c.base<=c.ρ r:=λr row h1 v h2=>by
  have:=hs.gb
  rcases Dr r row h1 v h2 with h|h
  ·have:=hs.reach.xb _ h;omega
  ·omega
 refine⟨fg,qan hs.mem hs.rows c6 fg ly,⟨hs.reach.cj.base,hs.reach.cj.top,λb iL=>?_,λr row hr=>?_⟩,hs.reach.fr,λb iL=>?_,λi p hp v=>?_,hs.reach.xb⟩
 ·obtain⟨h1,h2⟩:=hs.reach.cj.I b iL
  exact⟨.inl h1,h2⟩
 ·have cq:r<M:=hs.gq r row hr
  obtain⟨Fj,g1,g2,g3,g4,g5,g6,gV,g7⟩:=hs.reach.cj.R r row hr
  have hi:=hid r cq
  have mV:=(List.getElem?_eq_some_iff.1 hi).1
  have hp:ak[r]?=some ak[r]:=cG (by omega)
  rcases jb r r _ hi hp with⟨jE,k1,k2,k3,k4,k5⟩|⟨k1,_⟩
  ·have:jE=Fj:=by rw[hs.rows,k1]at g1;exact Option.some.inj g1
   subst this
   refine⟨_,hp,k2.symm.trans g2,k3.symm.trans g3,k4.symm.trans g4,?_,by simp[Ctx.out,hi,g6],by simp[Ctx.out,hi,g1,gV],g7⟩
   rw[<-g5]
   split at k5
   ·obtain⟨e,e',q1,q2,_⟩:=k5
    rw[q1,q2];rfl
   ·rw[k5]
  ·rw[hs.rows,k1]at g1;cases g1
 ·rcases iL with h1|⟨r,row,hr,hV,w6,ho,rfl⟩
  ·exact hs.reach.fk b h1
  ·refine .inr ?_
   have:M<=r:=by
    by_cases cq:r<M
    ·exact(Z8q ho (fX (hid r cq))).elim
    ·omega
   exact Dr r row hr hV this
 ·have QV:ak[i]?=some p:=hp
  have cq:=(List.getElem?_eq_some_iff.1 QV).1
  have hi:ex[i]?=some ex[i]:=cG (by omega)
  simp only[Ctx.out,hi,not_or]at v⊢
  obtain⟨v1,v2⟩:=v
  rcases jb i _ _ hi QV with⟨jE,k1,k2,k3,k4,k5⟩|⟨k1,_⟩
  ·have HO:c.R ex[i]=some jE:=by rw[hs.rows];exact k1
   rcases hinv i _ hi with⟨h1,h2⟩|h1
   ·rcases hs.reach.oj _ _ HO v2 with⟨h3,h4,h5⟩|h3
    ·left
     rw[<-h1]at h3 h4
     refine⟨h3,h4,h5.trans ?_⟩
     rw[<-h1]
    ·exact .inr h3
   ·exact .inr (Dr _ _ HO v2 h1)
  ·exact(v1 (by rw[hs.rows];exact k1)).elim
theorem WE:∀{env:List (Nat×D)} {t k:Nat},k∈De (look env t)->k∈AB env
 |[],t,k,h=>by simp[look,De,FU,Bb]at h
 |(u,d)::l,t,k,h=>by
  rw[Bp]at h
  simp only[AB,bX]
  split at h
  ·exact .inl h
  ·exact .inr (WE h)
theorem WG:∀{R:Rows} {r:Nat} {x:Row} {k:Nat},R.getD r none=some x->k∈lr [x]->k∈Gr R
 |some y::l,0,x,k,h,hk=>by
  simp at h;subst h
  simp only[Gr,bX];exact .inl hk
 |none::l,0,x,k,h,hk=>by simp at h
 |y::l,r+1,x,k,h,hk=>by
  have:=WG (R:=l) (r:=r) (by simpa[aK]using h) hk
  cases y<;>simp[Gr,this]
 |[],r,x,k,h,_=>by simp[aK]at h
theorem VRep.toRep{c:Ctx}{w:World}{d:D}{v:Value}(h:VRep c w d v):Rep c w d v:=by
 cases d<;>first|exact h|trivial|exact h.elim
theorem Rep.toVRep{c:Ctx}{w:World}{d:D}{v:Value}(hv:d.isVal=true)(h:Rep c w d v):VRep c w d v:=by
 cases d<;>first|exact h|(simp[D.isVal]at hv)
theorem kr.length{c:Ctx}{w:World}:∀{ds:List D} {vs:List Value},kr c w ds vs->ds.length=vs.length
 |[],[],_=>rfl
 |_::_,_::_,h=>by simp[kr.length h.2]
 |[],_::_,h=>h.elim
 |_::_,[],h=>h.elim
theorem Z3s:∀{ds:List D} {i t:Nat},(∃j,t=i+j/\j<ds.length/\look (F4 ds i) t=ds.getD j .dead)\/look (F4 ds i) t=.dead
 |[],i,t=>.inr rfl
 |d ::ds,i,t=>by
  simp only[F4,Bp]
  by_cases e:i=t
  ·left;exact⟨0,by omega,by simp,by rw[if_pos e];rfl⟩
  ·rw[if_neg e]
   rcases Z3s (ds:=ds) (i:=i+1) (t:=t)with⟨j,h1,h2,h3⟩|h
   ·left;exact⟨j+1,by omega,by simpa using h2,by simpa using h3⟩
   ·right;exact h
theorem Zn2{c:Ctx}{w:World}{ds:List D}{vs:List Value}(h:kr c w ds vs)(n t:Nat):Rep c w (look (F4 ds 0) t) ((vs.toArray++gN n undef).getD t undef):=by
 rcases Z3s (ds:=ds) (i:=0) (t:=t)with⟨j,h1,h2,h3⟩|h1
 ·obtain⟨v,hv,hr⟩:=Zy h j h2
  rw[h3]
  have:t=j:=by omega
  subst this
  have hx:(vs.toArray++gN n undef).getD t undef=v:=by
   have cq:=(List.getElem?_eq_some_iff.1 hv).1
   have hvv:=(List.getElem?_eq_some_iff.1 hv).2
   simp[Array.getElem?_append,cq,hvv]
  rw[hx]
  exact hr.toRep
 ·rw[h1];trivial
theorem Zoj{T:fj}{t:TypeId}{x:D}{R:Rows}{K:D->Rows->Prop}(h:Ab T t x R K){c:Ctx}{w:World}{v:Value}(hr:Rep c w x v):∃a,v=.pointer (some a):=by
 unfold Ab at h
 split at h
 ·exact h.elim
 ·cases x<;>simp only at h
  case ptr r i off=>obtain⟨_,_,_,_,hv⟩:=hr;exact⟨_,hv⟩
  case pa r i off len k n=>obtain⟨_,_,_,_,_,hv⟩:=hr;exact⟨_,hv⟩
  case iw sz es i off=>obtain⟨_,_,_,_,_,hv,_⟩:=hr;exact⟨_,hv⟩
def MR(tmps:Array Value):ResultVar->Sem Value
 |.tmp t=>pure (tmps.getD t undef)
 |.cell a t=>do loadVar t (<-asAddr (tmps.getD a undef))
theorem U9{P:Program}{T:fj}(hT:jF P T){R:Rows}{env:List (Nat×D)}:∀{l:List ResultVar} {K:List D->Prop},F5 T R env l K->
 ∃ds,K ds/\∀c w (tmps:Array Value),Mem c w->mK c R->(∀t,Rep c w (look env t) (tmps.getD t undef))->∃vs,(l.mapM (MR tmps)).run P w=.ok vs w/\kr c w ds vs
 |[],K,h=>⟨[],h,λc w tmps _ _ _=>⟨[],rfl,trivial⟩⟩
 |.tmp t::l,K,h=>by
  simp only[F5,D.cv,c9]at h
  obtain⟨hv,h⟩:=h
  obtain⟨ds,hK,hr⟩:=U9 hT h
  refine⟨_,hK,λc w tmps hm hA he=>?_⟩
  obtain⟨vs,h1,h2⟩:=hr c w tmps hm hA he
  refine⟨tmps.getD t undef::vs,?_,(he t).toVRep hv,h2⟩
  simp only[gO,Sem.run_bind,MR,Sem.run_pure,Result.andThen_ok,h1]
 |.cell a t::l,K,h=>by
  simp only[F5]at h
  obtain⟨val,Va,DT⟩:=Zhl hT h
  simp only[c9]at Va
  obtain⟨hv,Va⟩:=Va
  obtain⟨ds,hK,hr⟩:=U9 hT Va
  refine⟨_,hK,λc w tmps hm hA he=>?_⟩
  obtain⟨vs,h1,h2⟩:=hr c w tmps hm hA he
  obtain⟨u,hu,hx⟩:=DT c w _ hm hA (he a)
  obtain⟨ad,had⟩:=Zoj h (he a)
  rw[had,UP]at hu
  refine⟨u::vs,?_,hx.toVRep hv,h2⟩
  simp only[gO,Sem.run_bind,MR,had,asAddr,Sem.run_pure,Result.andThen_ok,hu,h1]
def Dt:List Value->Value
 |[v]=>v
 |vs=>.tuple vs.toArray
theorem Z3j{P:Program}{fn:Func}{tmps:Array Value}{w:World}{vs:List Value}(h:(fn.results.toList.mapM (MR tmps)).run P w=.ok vs w):(results fn tmps).run P w=.ok (Dt vs) w:=by
 have h2:(fn.results.mapM (MR tmps)).run P w=.ok vs.toArray w:=by
  rw[<-bS (xs:=fn.results),List.mapM_toArray]
  simp only[Sem.run_map,h,Result.andThen_ok]
 have h3:(results fn tmps)=(fn.results.mapM (MR tmps))>>=λvs=>pure (if h:vs.size=1 then vs[0]else .tuple vs):=by
  unfold results
  congr 1
 rw[h3,Sem.run_bind,h2]
 simp only[Result.andThen_ok,Sem.run_pure]
 congr 1
 match vs with
 |[]=>rfl
 |[v]=>rfl
 |_::_::_=>rfl
theorem ft.NB{N M:Nat}{c0:Ctx}{w0:World}{c:Ctx}{w:World}{st:St}{a:Act}(hs:ft N M c0 w0 c w st a){b:Nat}(hb:w0.heap.size<=b){o o':Obj}(ho:w.heap[b]?=some o)(hc:∀arr ty fz,o≠.cells arr ty fz)
 {Fk:Nat->Prop} (gF:∀k ws v,Fk k->sf c w k ws v->sf {c with I:=λx=>c.I x/\x≠b} (w.putObj b o') k ws v) (hE:∀t,∀k∈De (look st.env t),Fk k) (hR:∀r x,c.R r=some x->∀k∈lr [x],Fk k) {ds:List Deferred} (hd:mg w0.heap.size (w.putObj b o') ds):
 ft N M c0 w0 {c with I:=λx=>c.I x/\x≠b} (w.putObj b o') st {a with defers:=ds}:=by
 have cr:∀r x,c.R r=some x->¬c.V r->c.ρ r≠b:=λr x hr hV e=>by
  rcases hs.mem.row r x hr with h|⟨_,arr,h,_⟩
  ·exact hV h.1
  ·rw[e,ho]at h;exact hc _ _ _ (Option.some.inj h)
 have hh:∀r x,c.R r=some x->¬c.V r->(w.putObj b o').heap[c.ρ r]?=w.heap[c.ρ r]? :=λr x hr hV=>World.putObj_heap_other (cr r x hr hV)
 have hg:JM c w {c with I:=λx=>c.I x/\x≠b} (w.putObj b o'):=by
  refine⟨rfl,aO _,λx arr ty fz hI hx=>?_,λr x hr=>⟨x,hr,rfl,rfl,rfl,rfl,rfl,Iff.rfl,λhV arr ha=>⟨arr,(hh r x hr hV).trans ha,rfl⟩⟩⟩
  have gl:x≠b:=λe=>by subst e;rw[ho]at hx;exact hc _ _ _ (Option.some.inj hx)
  exact⟨⟨hI,gl⟩,(World.putObj_heap_other gl).trans hx⟩
 have jG:∀x,c0.I x->x≠b:=λx hx e=>by
  obtain⟨h1,h2⟩:=hs.reach.cj.I x hx
  have h3:=(hs.mem.fk x h1).1
  rw[e,ho]at h2
  have:=(Array.getElem?_eq_some_iff.1 h2.symm).1
  omega
 refine⟨Zv hs.mem hg hh gF hR (λx hx=>⟨by simpa using(hs.mem.fk x hx.1).1,(hs.mem.fk x hx.1).2⟩) (by simp),hs.rows,λt=>Zny hg gF (hE t) (hs.env t),hs.size,hd,hs.gb,hs.gq,?_⟩
 refine⟨⟨hs.reach.cj.base,hs.reach.cj.top,λx hx=>?_,λr row hr=>?_⟩,⟨hs.reach.fr.os,hs.reach.fr.tape,hs.reach.fr.output,by simpa using hs.reach.fr.size,λx hx hn=>?_⟩,λx hx=>hs.reach.fk x hx.1,hs.reach.oj,hs.reach.xb⟩
 ·obtain⟨h1,h2⟩:=hs.reach.cj.I x hx
  exact⟨⟨h1,jG x hx⟩,(World.putObj_heap_other (jG x hx)).trans h2⟩
 ·obtain⟨aq,h1,h2,h3,h4,h5,h6,hV,h7⟩:=hs.reach.cj.R r row hr
  refine⟨aq,h1,h2,h3,h4,h5,h6,hV,λnv arr ha=>?_⟩
  obtain⟨iS,g1,g2⟩:=h7 nv arr ha
  refine⟨iS,?_,g2⟩
  rw[World.putObj_heap_other]
  ·exact g1
  ·intro e;rw[e,ho]at g1;exact hc _ _ _ (Option.some.inj g1)
 ·rw[World.putObj_heap_other (by omega)];exact hs.reach.fr.heap x hx hn
theorem ft.edit{N M:Nat}{c0:Ctx}{w0:World}{c:Ctx}{w:World}{st:St}{a:Act}(hs:ft N M c0 w0 c w st a){l:Nat}(hI:c0.I l){rec:Loop}{o':Obj}(ho:w0.heap[l]?=some (.loop rec))(Du:∀r x,c0.R r=some x->¬c0.V r->c0.ρ r≠l)
 (oQ:sI (AB st.env++Gr st.rows)=true):ft N M {c0 with I:=λx=>c0.I x/\x≠l} (w0.putObj l o') {c with I:=λx=>c.I x/\x≠l} (w.putObj l o') st a:=by
 have hl:w.heap[l]?=some (.loop rec):=(hs.reach.cj.I l hI).2.trans ho
 have ZU:=(Array.getElem?_eq_some_iff.1 ho).1
 have cq:=(Array.getElem?_eq_some_iff.1 hl).1
 have cr:∀r x,c.R r=some x->¬c.V r->c.ρ r≠l:=λr x hr hV=>(hs.mem.fk l (hs.reach.cj.I l hI).1).2 r x hr hV
 have hh:∀r x,c.R r=some x->¬c.V r->(w.putObj l o').heap[c.ρ r]?=w.heap[c.ρ r]? :=λr x hr hV=>World.putObj_heap_other (cr r x hr hV)
 have gF:∀k ws v,k<YB->sf c w k ws v->sf {c with I:=λx=>c.I x/\x≠l} (w.putObj l o') k ws v:=λk ws v hk hv=>by
  rcases hv with hv|⟨hv,_⟩
  ·exact .inl hv
  ·omega
 have hg:JM c w {c with I:=λx=>c.I x/\x≠l} (w.putObj l o'):=by
  refine⟨rfl,aO _,λx arr ty fz hI hx=>?_,λr x hr=>⟨x,hr,rfl,rfl,rfl,rfl,rfl,Iff.rfl,λhV arr ha=>⟨arr,(hh r x hr hV).trans ha,rfl⟩⟩⟩
  have gl:x≠l:=λe=>by subst e;rw[hl]at hx;cases hx
  exact⟨⟨hI,gl⟩,(World.putObj_heap_other gl).trans hx⟩
 refine⟨Zv hs.mem hg hh gF (λr x hr k hk=>NC oQ (gP _ (WG (by rw[<-hs.rows];exact hr) hk))) (λx hx=>⟨by simpa using(hs.mem.fk x hx.1).1,(hs.mem.fk x hx.1).2⟩) (by simp),hs.rows,λt=>Zny hg gF (λk hk=>NC oQ (gQ _ (WE hk))) (hs.env t),hs.size,?_,by simpa using hs.gb,hs.gq,?_⟩
 ·have:=hs.defers.to (w':=w.putObj l o') λb hb=>(World.putObj_heap_other λe=>by rw[e,hl]at hb;cases hb).trans hb
  simpa using this
 refine⟨⟨hs.reach.cj.base,hs.reach.cj.top,λx hx=>?_,λr row hr=>?_⟩,⟨hs.reach.fr.os,hs.reach.fr.tape,hs.reach.fr.output,by simpa using hs.reach.fr.size,λx hx hn=>?_⟩,λx hx=>?_,λr row hr hv=>?_,hs.reach.xb⟩
 ·obtain⟨h1,h2⟩:=hs.reach.cj.I x hx.1
  exact⟨⟨h1,hx.2⟩,(World.putObj_heap_other hx.2).trans (h2.trans (World.putObj_heap_other hx.2).symm)⟩
 ·obtain⟨aq,h1,h2,h3,h4,h5,h6,hV,h7⟩:=hs.reach.cj.R r row hr
  refine⟨aq,h1,h2,h3,h4,h5,h6,hV,λnv arr ha=>?_⟩
  rw[World.putObj_heap_other (Du r row hr nv)]at ha
  obtain⟨iS,g1,g2⟩:=h7 nv arr ha
  refine⟨iS,?_,g2⟩
  rw[World.putObj_heap_other]
  ·exact g1
  ·intro e;rw[e,hl]at g1;cases g1
 ·by_cases e:x=l
  ·subst e;rw[World.putObj_heap_same cq,World.putObj_heap_same ZU]
  ·rw[World.putObj_heap_other e,World.putObj_heap_other e]
   exact hs.reach.fr.heap x (by simpa using hx) hn
 ·rcases hs.reach.fk x hx.1 with g|g|g
  ·exact .inl ⟨g,hx.2⟩
  ·exact .inr (.inl g)
  ·exact .inr (.inr (by simpa using g))
 ·rcases hs.reach.oj r row hr hv with g|g|g
  ·exact .inl g
  ·exact .inr (.inl g)
  ·exact .inr (.inr (by simpa using g))
theorem leaves{P:Program}{fn:Func}{R:Ending->World->Prop}{N M:Nat}{c0:Ctx}{w0:World}{c:Ctx}{w:World}{st:St}{a:Act}(hs:ft N M c0 w0 c w st a)
 (h:∀c' w' a',a'.tmps=a.tmps->ft N M c0 w0 c' w' st a'->∃v,(results fn a'.tmps).run P w'=.ok v w'/\R (.returned v) w'):LeavesInM Fence.wide 0 P fn a.tmps R a.defers .returning w:=by
 obtain⟨bs,ly,ED,Vb⟩:=hs.defers
 revert c w a
 induction bs with
 |nil=>
  intro c w a hs h ED Vb
  rw[ED]
  obtain⟨v,h1,h2⟩:=h c w a rfl hs
  exact⟨v,h1,h2⟩
 |cons b bs ih=>
  intro c w a hs h ED Vb
  obtain⟨h1,h2⟩:=Vb b (by simp)
  rw[List.nodup_cons]at ly
  rw[ED]
  refine⟨by simp,.inl ⟨b,_,rfl,run_takeDeferred h2,?_⟩⟩
  have QW:∀x∈bs,w0.heap.size<=x/\(w.putObj b (.deferred none)).heap[x]?=some (.deferred (some [])):=λx hx=>by
   obtain⟨g1,g2⟩:=Vb x (by simp[hx])
   exact⟨g1,(World.putObj_heap_other (λe=>ly.1 (by rw[<-e];exact hx))).trans g2⟩
  refine ih ly.2 (a:={a with defers:=bs.map λb=>({target:=.collected b,args:= #[]}:Deferred)}) (hs.NB h1 h2 (λ_ _ _ e=>by cases e) (Fk:=λ_=>True) (λk ws v _ hv=>?_) (λ_ _ _=>trivial) (λ_ _ _ _ _=>trivial) ⟨bs,ly.2,rfl,QW⟩) h rfl QW
  rcases hv with hv|⟨g1,l,rec,g2,g3,g4,g5⟩
  ·exact .inl hv
  ·have gl:l≠b:=λe=>by rw[e,h2]at g4;cases g4
   exact .inr ⟨g1,l,rec,g2,⟨g3,gl⟩,(World.putObj_heap_other gl).trans g4,g5⟩
theorem xaC{P:Program}(hD:sj P){T:fj}(hT:jF P T){G:List bb}(hG:j5 P G){f:FuncId}{fn:Func}(hf:P.funcs[f]?=some fn){args:List D}{rows:List Row}{res:D}{ak:List Row}
 {rf:Option Nat} (nq:∀code,fn.body=some code->RF rf fn.ntmps code) {L:Code->St->(Ex->St->Prop)->Prop} (hL:∀code st Q,RF rf fn.ntmps code->L code st Q->Tr P fn.ntmps rows.length code st Q) {Q0:D->Rows->Prop} (Dv:∀d R,Q0 d R->AG rows.length res ak d R) (h:nz T G L fn args rows Q0):kq P f args rows res ak:=by
 intro c w vs hm jo hR fx
 unfold nz at h
 split at h
 ·rename_i code hb
  have hs:ft fn.ntmps rows.length {c with X:=λ_=>False} w c w ⟨F4 args 0,rows.map some⟩ {tmps:=vs.toArray++gN (fn.ntmps-vs.toArray.size) undef,defers:=[]}:=
   ⟨hm,λr=>by
    rw[hR]
    simp only[aK,fM]
    cases rows[r]? <;>rfl,λt=>Zn2 fx _ t,by simp;omega,mg.nil,Nat.le_of_eq jo,λr row h=>by have h:c.R r=some row:=h;rw[hR]at h;exact(List.getElem?_eq_some_iff.1 h).1,An.refl c w⟩
  refine callsIn_wide.1 (callsIn_of_wp_marks (F:=Fence.wide) (n:=0) hf hb trivial (wpIn_mono (ND (ro:=none) hD hT hG (NF rf fn.ntmps) hL code _ _ (nq _ hb) h _ w c w _ hs) λe a' w' hq=>?_))
  obtain⟨ex,st,c1,he,hq,mL⟩:=hq
  have fin:(F5 T st.rows st.env fn.results.toList λds=>match ds with|[d]=>Q0 d st.rows|ds=>Q0 (.dt ds) st.rows)->
   LeavesInM Fence.wide 0 P fn a'.tmps (λe w'=>∃v' c',e=.returned v'/\lU c w c' w'/\(∀r,c'.R r=ak[r]?)/\Rep c' w' res v') a'.defers .returning w':=by
   intro k9
   refine leaves mL λc1 w' a' jJ mL=>?_
   obtain⟨ds,hK,hr⟩:=U9 hT k9
   have pb:mK c1 st.rows:=λr row aq h1 h2=>by rw[mL.rows,h2]at h1;exact(Option.some.inj h1).symm
   obtain⟨us,iu,Dw⟩:=hr c1 w' a'.tmps mL.mem pb mL.env
   have tn:=Z3j iu
   obtain⟨d,v,JV,hv,oG⟩:∃d v,AG rows.length res ak d st.rows/\Dt us=v/\Rep c1 w' d v:=by
    match ds,us,Dw with
    |[d],[u],hx=>exact⟨d,u,Dv _ _ hK,rfl,hx.1.toRep⟩
    |[],[],hx=>exact⟨.dt [],_,Dv _ _ hK,rfl,[],rfl,trivial⟩
    |d::e::ds,u::v::us,hx=>exact⟨.dt (d::e::ds),_,Dv _ _ hK,rfl,_,rfl,hx⟩
    |[],_::_,hx=>exact hx.elim
    |[_],[],hx=>exact hx.elim
    |[_],_::_::_,hx=>exact hx.2.elim
    |_::_::_,[],hx=>exact hx.elim
    |_::_::_,[_],hx=>exact hx.2.elim
   rw[hv]at tn
   obtain⟨ex,hex,hd,c6⟩:=JV
   obtain⟨fg,gv,ga⟩:=SP mL hex c6
   exact⟨v,tn,v,c1.out _ ak,rfl,⟨gv,⟨ga.cj.base,ga.cj.top,ga.cj.I,ga.cj.R⟩,ga.fr.mono (λb _ hb=>hb.elim id False.elim),λb hb=>(ga.fk b hb).imp id (λh=>h.elim False.elim id),λr aq h1 h2=>(ga.oj r aq h1 h2).imp id (λh=>h.elim False.elim id)⟩,λr=>rfl,SO mL.mem mL.rows c6 fg hd oG⟩
  cases e<;>simp only[mX,Option.some.injEq,reduceCtorEq]at he
  ·subst he;exact fin hq
  ·subst he;exact hq.elim
  ·subst he;exact fin hq
 ·exact h.elim
theorem xY{k:Nat}{rows:List Row}{c:Ctx}{w:World}{c':Ctx}{w':World}(gv:Mem c' w')(ga:An {c.kill (bK k (rows.length-k))with X:=λb=>∃s row,cf s (bK k (rows.length-k))=true/\c.R s=some row/\¬c.V s/\c.ρ s=b} w c' w'):
 jM (bK k (rows.length-k)) c w c' w':=by
 refine⟨gv,⟨ga.cj.base,ga.cj.top,ga.cj.I,ga.cj.R⟩,ga.fr.mono (λb _ hb=>?_),λb hb=>ga.fk b hb,λr aq h1 h2=>?_⟩
 ·rcases hb with⟨r,x,h1,h2,h3⟩|⟨r,x,_,h1,h2,h3⟩
  ·obtain⟨_,row,g1,_⟩:=om (c:=c) (ks:=bK k (rows.length-k)) h1
   exact⟨r,row,g1,h2,h3⟩
  ·exact⟨r,x,h1,h2,h3⟩
 ·rcases ga.oj r aq h1 h2 with⟨⟨x,g1⟩,g2,g3⟩|⟨s,x,q1,q2,q3,q4⟩|g
  ·obtain⟨_,row,p1,_⟩:=om (c:=c) (ks:=bK k (rows.length-k)) g1
   exact .inl ⟨⟨row,p1⟩,g2,g3⟩
  ·exact .inr (.inl ⟨s,x,q1,q2,q3,q4.symm⟩)
  ·exact .inr (.inr g)
theorem Zob:∀{rows:List Row} {r:Nat} {x:Row} {k:Nat},rows[r]?=some x->k∈lr [x]->k∈lr rows
 |y::l,0,x,k,h,hk=>by
  simp at h;subst h
  unfold lr at hk⊢
  split<;>simp_all [lr]
 |y::l,r+1,x,k,h,hk=>by
  have:=Zob (rows:=l) (by simpa using h) hk
  unfold lr
  split<;>simp_all
 |[],r,x,k,h,_=>by simp at h
theorem Zn6{c:Ctx}{w:World}{tm o4:Array Value}:∀{ts:List Nat} {ds:List D},kr c w ds (ts.map λt=>tm.getD t undef)->(∀t∈ts,o4.getD t undef=tm.getD t undef)->∀t,Rep c w (look (oJ ts ds) t) (o4.getD t undef)
 |[],ds,_,_,t=>by cases ds<;>trivial
 |u::ts,[],h,_,t=>h.elim
 |u::ts,d::ds,h,ht,t=>by
  simp only[oJ,Bp]
  split
  ·rename_i e;rw[<-e,ht u (by simp)];exact h.1.toRep
  ·exact Zn6 h.2 (λt h=>ht t (by simp[h])) t
theorem qu{P:Program}{F:Fence}{y:YK}{d:Nat}(hd:y.pos=some d){x:Value}{tm:Array Value}(hn:y.n<=tm.size){w:World}{K:Act->World->Prop}{l:Nat}
 (hK:∀o4,o4.size=tm.size->o4.getD d undef=x->(∀t∈y.ts,o4.getD t undef=tm.getD t undef)->K {tmps:=o4,defers:=[]} w):
 y.assign.wpIn (Bs (some l)) 0 P (Exit.then K λ_ _ _=>False) {tmps:=(y.ps.zip #[x]).foldl (λtmps (t,a)=>tmps.setIfInBounds t a) tm,defers:=[]} w:=by
 have cy:∀(p:Nat) (JW:Array Value) (t:Nat),t≠p->(JW.setIfInBounds p x).getD t undef=JW.getD t undef:=λp JW t h=>by
  simp[aF,aQ (Ne.symm h)]
 have here:∀(p:Nat) (JW:Array Value),p<JW.size->(JW.setIfInBounds p x).getD p undef=x:=λp JW h=>by
  simp[aF,h]
 unfold YK.pos at hd
 split at hd
 ·rename_i p mj has
  have mj:y.ps= #[p]:=by rw[<-bS (xs:=y.ps),mj]
  split at hd
  ·rename_i hc
   cases hd
   simp only[aE,gR,aS]at hc
   have hp:d<tm.size:=bI (lE hc.1) hn
   rw[has,mj]
   refine wpIn_skip (hK _ (by simp) ?_ λt ht=>?_)
   ·simpa using here d tm hp
   ·have:=cy d tm t (λe=>by have:=(hc.2 t ht).1;rw[e]at this;simp at this)
    simpa using this
  ·cases hd
 ·rename_i p id ops mj has
  have mj:y.ps= #[p]:=by rw[<-bS (xs:=y.ps),mj]
  split at hd
  ·rename_i e q ty po af Dx
   have Dx:ops= #[⟨some e,.assign (.tmp q),ty,po,af,none⟩]:=by rw[<-bS (xs:=ops),Dx]
   split at hd
   ·rename_i hc
    cases hd
    simp only[aE,gR,aS]at hc
    obtain⟨⟨hq,hp,hd⟩,Fb⟩:=hc
    have hq:=bE hq
    subst hq
    have hp:q<tm.size:=bI (lE hp) hn
    have hd:d<tm.size:=bI (lE hd) hn
    rw[has,mj,Dx]
    refine Zfr ?_
    show wpOp P _ _ 0 _ _ _
    unfold wpOp
    simp only[List.getElem?_toArray,List.getElem?_cons_zero]
    rw[if_pos (by simp[Region.wanted])]
    refine Gm (u:=x) (w':=w) ?_ ?_
    ·have:(tm.setIfInBounds q x).getD q undef=x:=here q tm hp
     simp only[execOp,Act.eval]
     simp[aF,hp]
    ·show K {tmps:=Array.setIfInBounds _ d x,defers:=[]} w
     refine hK _ (by simp) ?_ λt ht=>?_
     ·exact here d _ (by simpa using hd)
     ·have h1:=(Fb t ht).1
      rw[cy d _ t (λh=>by rw[h]at h1;simp at h1)]
      have:=cy q tm t (λh=>by rw[h]at h1;simp at h1)
      simpa using this
   ·cases hd
  ·cases hd
 ·cases hd
inductive u6(P:Program)(f:FuncId)(fn:Func)(cl:Prop):Prop where
 |real (h:f<YB) (hf:P.funcs[f]?=some fn) (hb:gT YB fn.nfree=false)
 |yield (h:YB<=f) (y:YK) (d:Nat) (hy:F3 f=some y) (hd:y.pos=some d) (hb:fn.body=some y.body) (hn:gT YB fn.nfree=true) (QX:bT fn.nfree YB=true) (hp:fn.params.toList=d::y.ts) (ht:fn.ntmps=y.n) (hc:cl)
 |u7 (h:YB<=f) (y:YK) (q:Nat) (hy:F3 f=some y) (mj:y.ps= #[q]) (hq:(Nat.blt q y.n&&y.ts.all λt=>!(bT t q))=true) (hb:fn.body=some (.seq y.assign y.body)) (hn:gT YB fn.nfree=true) (QX:bT fn.nfree YB=false) (hp:fn.params.toList=q::y.ts) (ht:fn.ntmps=y.n) (hc:cl)
theorem JX{N k:Nat}{rows:List Row}{c:Ctx}{w:World}{env:List (Nat×D)}{tm:Array Value}(hm:Mem c w)(jo:c.base=0)(hR:∀r,c.R r=rows[r]?)(tp:∀t,Rep c w (look env t) (tm.getD t undef))(fv:N<=tm.size):
 ft N k {c.kill (bK k (rows.length-k))with X:=λb=>∃s row,cf s (bK k (rows.length-k))=true/\c.R s=some row/\¬c.V s/\c.ρ s=b} w c w ⟨env,rows.map some⟩ {tmps:=tm,defers:=[]}:=by
 refine⟨hm,λr=>by
  rw[hR]
  simp only[aK,fM]
  cases rows[r]? <;>rfl,tp,fv,mg.nil,by simp[Ctx.kill,jo],λr row h=>?_,⟨⟨rfl,aO _,λ_ h=>⟨h,rfl⟩,λr x hx=>?_⟩,Fr.refl _ w,λ_ h=>.inl h,λr row hr hv=>?_,λ_ _=>by simp[Ctx.kill,jo]⟩⟩
 ·obtain⟨h1,aq,h2,_⟩:=om (c:=c) (ks:=bK k (rows.length-k)) h
  rw[hR]at h2
  have cq:=(List.getElem?_eq_some_iff.1 h2).1
  by_cases hk:r<k
  ·exact hk
  ·rw[Mz.2 (by omega)]at h1;cases h1
 ·obtain⟨_,row,h2,rfl⟩:=om (c:=c) (ks:=bK k (rows.length-k)) hx
  obtain⟨s1,s2,s3,s4⟩:=wF (bK k (rows.length-k)) row
  exact⟨row,h2,s1.symm,s2.symm,s3.symm,s4.symm,rfl,Iff.rfl,λ_ arr ha=>⟨arr,by rw[s2]at ha⊢;exact ha,rfl⟩⟩
 ·cases hb:cf r (bK k (rows.length-k))with
  |true=>exact .inr (.inl ⟨r,row,hb,hr,hv,rfl⟩)
  |false=>exact .inl ⟨⟨row.kill (bK k (rows.length-k)),by simp[Ctx.kill,hb,hr]⟩,hv,rfl⟩
theorem Zgh{c:Ctx}{w:World}{tm o4:Array Value}{ps:List Nat}{d:Nat}{ts:List Nat}(Dy:ps=d::ts){args:List D}{vs us:List Value}{x:Value}(Cb:vs=[x]++us)(w4:us=ts.map λt=>tm.getD t undef)(fx:kr c w args vs)(hx:o4.getD d undef=x)(Fb:∀t∈ts,o4.getD t undef=tm.getD t undef):
 ∀t,Rep c w (look (oJ ps args) t) (o4.getD t undef):=by
 subst Dy
 subst Cb
 match args,fx with
 |[],hx=>exact hx.elim
 |A::As,⟨hA,hAs⟩=>
  intro t
  simp only[oJ,Bp]
  split
  ·rename_i e;rw[<-e,hx];exact hA.toRep
  ·exact Zn6 (by rw[w4]at hAs;exact hAs) Fb t
theorem Z8z{P:Program}(hD:sj P){T:fj}(hT:jF P T){G:List bb}(hG:j5 P G){n k:Nat}{rows:List Row}{res:D}{ak:List Row}{code:Code}{L:Code->St->(Ex->St->Prop)->Prop}(hL:∀ro code st Q,L code st Q->ub ro P n k code st Q){Q0:D->Rows->Prop}(Dv:∀d R,Q0 d R->AG k res ak d R)
 {c:Ctx} {w:World} {l:Nat} {rec:Loop} (hm:Mem c w) (hI:c.I l) (hl:w.heap[l]?=some (.loop rec)) (j0:rec.state=.ready) (DY:rec.pending=none) {st:St} {c2:Ctx} {w2:World} {a:Act}
 (hs:ft n k {({c with I:=λb=>c.I b/\b≠l}:Ctx).kill (bK k (rows.length-k))with X:=λb=>∃s row,cf s (bK k (rows.length-k))=true/\c.R s=some row/\¬c.V s/\c.ρ s=b} (w.putObj l (.loop {rec with state:=.busy})) c2 w2 st a)
 (h:pk T G n k L code st λe st=>match e with|.normal=>Q0 (.bool true) st.rows|_=>False):
 code.wpIn (Bs (some l)) 0 P (roundPost P l λe w'=>∃v' c',e=.returned v'/\jM (bK k (rows.length-k)) c w c' w'/\(∀r,c'.R r=ak[r]?)/\Rep c' w' res v') a w2:=by
 have cq:=(Array.getElem?_eq_some_iff.1 hl).1
 obtain⟨ĉ,hĉ⟩:∃ĉ:Ctx,ĉ={c with I:=λb=>c.I b/\b≠l}:=⟨_,rfl⟩
 obtain⟨wb,JY⟩:∃wb,wb=w.putObj l (.loop {rec with state:=.busy}):=⟨_,rfl⟩
 have cr:∀r x,c.R r=some x->¬c.V r->c.ρ r≠l:=λr x hr hV=>(hm.fk l hI).2 r x hr hV
 have JZ:∀b,b≠l->wb.heap[b]?=w.heap[b]? :=λb hb=>by rw[JY];exact World.putObj_heap_other hb
 have h2l:wb.heap[l]?=some (.loop {rec with state:=.busy}):=by rw[JY];exact World.putObj_heap_same cq
 have F6:wb.heap.size=w.heap.size:=by rw[JY];simp
 have hs:ft n k {ĉ.kill (bK k (rows.length-k))with X:=λb=>∃s row,cf s (bK k (rows.length-k))=true/\ĉ.R s=some row/\¬ĉ.V s/\ĉ.ρ s=b} wb c2 w2 st a:=by rw[hĉ,JY];exact hs
 refine wpIn_mono (ND (ro:=some l) hD hT hG (NF none n) (λcode st Q _ hl=>hL (some l) code st Q hl) code _ _ trivial h _ wb c2 w2 _ hs) λe a' w3 hq=>?_
 obtain⟨ex,st,c1,he,hq,mL⟩:=hq
 cases e<;>simp only[mX,Option.some.injEq,reduceCtorEq]at he<;>subst he
 rotate_left
 ·exact hq.elim
 ·exact hq.elim
 obtain⟨ex,hex,tq,c6⟩:=Dv _ _ hq
 obtain⟨fg,gv,ga⟩:=SP mL hex c6
 have hX:¬({ĉ.kill (bK k (rows.length-k))with X:=λb=>∃s row,cf s (bK k (rows.length-k))=true/\ĉ.R s=some row/\¬ĉ.V s/\ĉ.ρ s=b}:Ctx).X l:=fun⟨s,row,_,g1,g2,g3⟩=>by
  rw[hĉ]at g1 g2 g3;exact cr s row g1 g2 g3
 have ZV:w3.heap[l]?=some (.loop {rec with state:=.busy}):=by
  refine(mL.reach.fr.heap l (by rw[F6];exact cq) λhx=>?_).trans h2l
  rcases hx with⟨r,row,g1,g2,g3⟩|hx
  ·obtain⟨_,aq,g4,_⟩:=om (c:=ĉ) g1
   rw[hĉ]at g2 g3 g4;exact cr r aq g4 g2 g3
  ·exact hX hx
 have IJ:=(Array.getElem?_eq_some_iff.1 ZV).1
 have Fe:=run_endRound (P:=P) none ZV
 refine⟨_,_,Fe,_,{c1.out ex ak with I:=λb=>(c1.out ex ak).I b\/b=l},rfl,?_⟩
 have QY:({({rec with state:=.busy}:Loop)with state:=if(none:Option Code).isNone then .ready else .done,pending:=none}:Loop)=rec:=by
  cases rec;simp only at j0 DY;subst j0;subst DY;rfl
 rw[QY]
 have nl:¬(c1.out ex ak).I l:=λhx=>by
  rcases ga.fk l hx with h|h|h
  ·obtain⟨h,_⟩:ĉ.I l/\True:=⟨h,trivial⟩
   rw[hĉ]at h;exact h.2 rfl
  ·exact hX h
  ·rw[F6]at h;omega
 have Dz:∀r x,(c1.out ex ak).R r=some x->¬(c1.out ex ak).V r->(c1.out ex ak).ρ r≠l:=λr x hr hV e=>by
  rcases gv.row r x hr with g|⟨_,arr,g,_⟩
  ·exact hV g.1
  ·rw[e,ZV]at g;cases g
 have MS:∀b,b≠l->(w3.putObj l (.loop rec)).heap[b]?=w3.heap[b]? :=λb hb=>World.putObj_heap_other hb
 have wI:jq (c1.out ex ak) w3 {c1.out ex ak with I:=λb=>(c1.out ex ak).I b\/b=l} (w3.putObj l (.loop rec)):=
  ⟨rfl,aO _,λb hb=>⟨.inl hb,MS b (λe=>nl (by rw[<-e];exact hb))⟩,λr x hr=>⟨x,hr,rfl,rfl,rfl,rfl,rfl,Iff.rfl,λhV arr ha=>⟨arr,(MS _ (Dz r x hr hV)).trans ha,rfl⟩⟩⟩
 have hN:=xY gv ga
 refine⟨⟨⟨λr x hr=>ue wI rfl Iff.rfl (λnv=>MS _ (Dz r x hr nv)) (gv.row r x hr),gv.inj,λb hb=>?_,by simpa using gv.top,gv.kX.mono wI.I⟩,⟨?_,?_,λb hb=>?_,λr x hr=>?_⟩,⟨?_,?_,?_,?_,λb hb hn=>?_⟩,λb hb=>?_,λr row hr hv=>?_⟩,λr=>rfl,Ao wI (SO mL.mem mL.rows c6 fg tq rfl)⟩
 ·rcases hb with hb|hb
  ·simpa using gv.fk b hb
  ·subst hb;exact⟨by simpa using IJ,λr x hr hV=>Dz r x hr hV⟩
 ·have:=hN.cj.base;rw[hĉ]at this;exact this
 ·have:=hN.cj.top;rw[hĉ]at this;exact this
 ·by_cases e:b=l
  ·subst e;exact⟨.inr rfl,by rw[World.putObj_heap_same IJ,hl]⟩
  ·have:=hN.cj.I b (by rw[hĉ];exact⟨hb,e⟩)
   exact⟨.inl this.1,(MS b e).trans (this.2.trans (JZ b e))⟩
 ·have:=hN.cj.R r x (by rw[hĉ];exact hr)
  obtain⟨x',g1,g2,g3,g4,g5,g6,gV,g7⟩:=this
  rw[hĉ]at g6 gV g7
  refine⟨x',g1,g2,g3,g4,g5,g6,gV,λhV arr ha=>?_⟩
  obtain⟨_,x0,q1,_⟩:=om (c:=c) hr
  have gl:c.ρ r≠l:=cr r x0 q1 hV
  obtain⟨iS,k1,k2⟩:=g7 hV arr ((JZ _ gl).trans ha)
  exact⟨iS,(MS _ gl).trans k1,k2⟩
 ·rw[JY]at hN;exact hN.fr.os
 ·rw[JY]at hN;exact hN.fr.tape
 ·rw[JY]at hN;exact hN.fr.output
 ·have:=hN.fr.size;rw[F6]at this;simpa using this
 ·by_cases e:b=l
  ·subst e;rw[World.putObj_heap_same IJ,hl]
  ·rw[MS b e,hN.fr.heap b (by rw[F6];exact hb) (by rw[hĉ];exact hn),JZ b e]
 ·rcases hb with hb|hb
  ·rcases hN.fk b hb with g|g|g
   ·rw[hĉ]at g;exact .inl g.1
   ·rw[hĉ]at g;exact .inr (.inl g)
   ·rw[F6]at g;exact .inr (.inr g)
  ·subst hb;exact .inl hI
 ·rcases hN.oj r row hr hv with g|g|g
  ·rw[hĉ]at g;exact .inl g
  ·rw[hĉ]at g;exact .inr (.inl g)
  ·rw[F6]at g;exact .inr (.inr g)
theorem qaD{P:Program}(hD:sj P){T:fj}(hT:jF P T){G:List bb}(hG:j5 P G){f:FuncId}{fn:Func}{k:Nat}{args:List D}{rows:List Row}{res:D}{ak:List Row}{rf:Option Nat}(hf:u6 P f fn (sI (pI args++lr rows)=true/\rf=none))(nq:∀code,fn.body=some code->RF rf fn.ntmps code)
 {L:Code->St->(Ex->St->Prop)->Prop} (hL:∀ro,(ro=none\/rf=none)->∀code st Q,RF rf fn.ntmps code->L code st Q->ub ro P fn.ntmps k code st Q) {Q0:D->Rows->Prop} (Dv:∀d R,Q0 d R->AG k res ak d R) (h:J0 T G L fn args rows Q0 k):sN P f k args rows res ak:=by
 intro c w vs hm jo hR fx
 unfold J0 at h
 split at h
 rotate_left
 ·exact h.elim
 rename_i code hb
 cases hf with
 |real cq hf pE=>
  simp only[pE]at h
  refine⟨λ_=>?_,λpQ=>absurd cq (Nat.not_lt.2 pQ)⟩
  have hs:=JX (N:=fn.ntmps) (k:=k) (env:=F4 args 0) (tm:=vs.toArray++gN (fn.ntmps-vs.toArray.size) undef) hm jo hR (λt=>Zn2 fx _ t) (by simp;omega)
  refine callsIn_wide.1 (callsIn_of_wp_marks (F:=Fence.wide) (n:=0) hf hb trivial (wpIn_mono (ND (ro:=none) hD hT hG (NF rf fn.ntmps) (hL none (.inl rfl)) code _ _ (nq _ hb) h _ w c w _ hs) λe a' w' hq=>?_))
  obtain⟨ex,st,c1,he,hq,mL⟩:=hq
  have fin:(F5 T st.rows st.env fn.results.toList λds=>match ds with|[d]=>Q0 d st.rows|ds=>Q0 (.dt ds) st.rows)->
   LeavesInM Fence.wide 0 P fn a'.tmps (λe w'=>∃v' c',e=.returned v'/\jM (bK k (rows.length-k)) c w c' w'/\(∀r,c'.R r=ak[r]?)/\Rep c' w' res v') a'.defers .returning w':=by
   intro k9
   refine leaves mL λc1 w' a' jJ mL=>?_
   obtain⟨ds,hK,hr⟩:=U9 hT k9
   have pb:mK c1 st.rows:=λr row aq h1 h2=>by rw[mL.rows,h2]at h1;exact(Option.some.inj h1).symm
   obtain⟨us,iu,Dw⟩:=hr c1 w' a'.tmps mL.mem pb mL.env
   have tn:=Z3j iu
   obtain⟨d,v,JV,hv,oG⟩:∃d v,AG k res ak d st.rows/\Dt us=v/\Rep c1 w' d v:=by
    match ds,us,Dw with
    |[d],[u],hx=>exact⟨d,u,Dv _ _ hK,rfl,hx.1.toRep⟩
    |[],[],hx=>exact⟨.dt [],_,Dv _ _ hK,rfl,[],rfl,trivial⟩
    |d::e::ds,u::v::us,hx=>exact⟨.dt (d::e::ds),_,Dv _ _ hK,rfl,_,rfl,hx⟩
    |[],_::_,hx=>exact hx.elim
    |[_],[],hx=>exact hx.elim
    |[_],_::_::_,hx=>exact hx.2.elim
    |_::_::_,[],hx=>exact hx.elim
    |_::_::_,[_],hx=>exact hx.2.elim
   rw[hv]at tn
   obtain⟨ex,hex,hd,c6⟩:=JV
   obtain⟨fg,gv,ga⟩:=SP mL hex c6
   refine⟨v,tn,v,c1.out _ ak,rfl,xY gv ga,λr=>rfl,SO mL.mem mL.rows c6 fg hd oG⟩
  cases e<;>simp only[mX,Option.some.injEq,reduceCtorEq]at he
  ·subst he;exact fin hq
  ·subst he;exact hq.elim
  ·subst he;exact fin hq
 |yield pQ y d hy hd uS ZW J1 Dy ZX hc=>
  simp only[ZW,J1]at h
  obtain⟨oQ,J2⟩:=hc
  rw[uS]at hb
  cases hb
  refine⟨λcq=>absurd cq (Nat.not_lt.2 pQ),λ_ l rec xs us Cb hI hl na jc=>?_⟩
  obtain⟨j0,DY,y',Au,mj,has,ZY,QZ,h1,w4⟩:=na
  rw[hy]at Au;cases Au
  obtain⟨x,rfl⟩:∃x,xs=[x]:=by
   match xs,jc with
   |[x],_=>exact⟨x,rfl⟩
  rw[mj,has,ZY]
  have real:∀k,k∈pI args++lr rows->k<YB:=λk hk=>NC oQ hk
  have cq:=(Array.getElem?_eq_some_iff.1 hl).1
  have mz:∀arr ty fz,(Obj.loop rec)≠.cells arr ty fz:=λ_ _ _ e=>by cases e
  obtain⟨ĉ,hĉ⟩:∃ĉ:Ctx,ĉ={c with I:=λb=>c.I b/\b≠l}:=⟨_,rfl⟩
  obtain⟨w2,Ra⟩:∃w2,w2=w.putObj l (.loop {rec with state:=.busy}):=⟨_,rfl⟩
  have cr:∀r x,c.R r=some x->¬c.V r->c.ρ r≠l:=λr x hr hV=>(hm.fk l hI).2 r x hr hV
  have JZ:∀b,b≠l->w2.heap[b]?=w.heap[b]? :=λb hb=>by rw[Ra];exact World.putObj_heap_other hb
  have h2l:w2.heap[l]?=some (.loop {rec with state:=.busy}):=by rw[Ra];exact World.putObj_heap_same cq
  have F6:w2.heap.size=w.heap.size:=by rw[Ra];simp
  have hg:JM c w ĉ w2:=by
   rw[hĉ]
   refine⟨rfl,aO _,λb arr ty fz iL hb=>?_,λr x hr=>⟨x,hr,rfl,rfl,rfl,rfl,rfl,Iff.rfl,λhV arr ha=>⟨arr,(JZ _ (cr r x hr hV)).trans ha,rfl⟩⟩⟩
   have gl:b≠l:=λe=>by subst e;rw[hl]at hb;cases hb
   exact⟨⟨iL,gl⟩,(JZ b gl).trans hb⟩
  have gF:∀k ws v,k<YB->sf c w k ws v->sf ĉ w2 k ws v:=λk ws v hk hv=>by
   rcases hv with hv|⟨hv,_⟩
   ·exact .inl hv
   ·omega
  have Ce:Mem ĉ w2:=by
   rw[hĉ]at hg gF⊢
   refine Zv hm hg (λr x hr hV=>JZ _ (cr r x hr hV)) (Fk:=λk=>k<YB) gF (λr x hr k hk=>real k ?_) (λb hb=>⟨by rw[F6];exact(hm.fk b hb.1).1,(hm.fk b hb.1).2⟩) (by rw[F6];exact aO _)
   rw[hR]at hr
   exact gP _ (Zob hr hk)
  have J3:kr ĉ w2 args vs:=Zu hg (Fk:=λk=>k<YB) gF (λk hk=>real k (gQ _ hk)) fx
  refine roundIn_of_wpIn (F:=Fence.wide) (n:=0) trivial (qu (F:=Fence.wide) hd (tm:=rec.tmps) QZ λo4 fv hx Fb=>?_)
  refine⟨w2,by rw[Ra];exact run_beginRound hl j0,?_⟩
  have tp:∀t,Rep ĉ w2 (look (oJ fn.params.toList args) t) (o4.getD t undef):=Zgh Dy Cb w4 J3 hx Fb
  have hs:=JX (N:=fn.ntmps) (k:=k) (env:=oJ fn.params.toList args) (tm:=o4) Ce (by rw[hĉ];exact jo) (by rw[hĉ];exact hR) tp (by rw[fv,ZX];exact QZ)
  subst J2
  subst Ra
  subst hĉ
  exact Z8z hD hT hG (λro code st Q hl=>hL ro (.inr rfl) code st Q trivial hl) Dv hm hI hl j0 DY hs h
 |u7 pQ y q hy mj hq uS ZW J1 Dy ZX hc=>
  simp only[ZW,J1]at h
  obtain⟨oQ,J2⟩:=hc
  subst J2
  rw[uS]at hb
  cases hb
  simp only at h
  refine⟨λcq=>absurd cq (Nat.not_lt.2 pQ),λ_ l rec xs us Cb hI hl na jc=>?_⟩
  obtain⟨j0,DY,y',Au,ZZ,has,ZY,QZ,h1,w4⟩:=na
  rw[hy]at Au;cases Au
  obtain⟨x,rfl⟩:∃x,xs=[x]:=by
   match xs,jc with
   |[x],_=>exact⟨x,rfl⟩
  rw[ZZ,has,ZY]
  obtain⟨o4,Vc⟩:∃o4,o4=rec.tmps.setIfInBounds q x:=⟨_,rfl⟩
  have hz:((y.ps.zip [x].toArray).foldl (λtmps (t,a)=>tmps.setIfInBounds t a) rec.tmps)=o4:=by rw[mj,Vc];simp
  rw[hz]
  simp only[aE,gR,aS]at hq
  have hqs:q<rec.tmps.size:=bI (lE hq.1) QZ
  have hx:o4.getD q undef=x:=by rw[Vc];simp[aF,hqs]
  have Fb:∀t∈y.ts,o4.getD t undef=rec.tmps.getD t undef:=λt ht=>by
   have gl:q≠t:=λe=>by have:=hq.2 t ht;rw[e]at this;simp at this
   rw[Vc];simp[aF,aQ gl]
  have tp:∀t,Rep c w (look (oJ fn.params.toList args) t) (o4.getD t undef):=Zgh Dy Cb w4 fx hx Fb
  have hs:=JX (N:=fn.ntmps) (k:=k) (env:=oJ fn.params.toList args) (tm:=o4) hm jo hR tp (by rw[Vc,ZX];simpa using QZ)
  refine roundIn_of_wpIn (F:=Fence.wide) (n:=0) trivial (wpIn_mono (ND (ro:=some l) hD hT hG (NF none fn.ntmps) (λcode st Q _ hl=>hL (some l) (.inr rfl) code st Q trivial hl) y.assign _ _ trivial h _ w c w _ hs) λe a1 w1 hq=>?_)
  obtain⟨ex,st1,c1,he,hq,mL⟩:=hq
  cases e<;>simp only[mX,Option.some.injEq,reduceCtorEq]at he<;>subst he
  rotate_left
  ·exact hq.elim
  ·exact hq.elim
  simp only[c9]at hq
  obtain⟨Jaa,hq⟩:=hq
  have NA:w1.heap[l]?=some (.loop rec):=(mL.reach.cj.I l hI).2.trans hl
  have cr:∀r x,(c.kill (bK k (rows.length-k))).R r=some x->¬c.V r->c.ρ r≠l:=λr x hr hV=>by
   obtain⟨_,x0,q1,_⟩:=om (c:=c) hr
   exact(hm.fk l hI).2 r x0 q1 hV
  exact⟨_,run_beginRound NA j0,Z8z hD hT hG (λro code st Q hl=>hL ro (.inr rfl) code st Q trivial hl) Dv hm hI hl j0 DY (mL.edit hI hl cr Jaa) hq⟩

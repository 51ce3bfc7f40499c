import Derived.Test.YthjfindbamdacaaGreatDoorAuditAcceptsFb
open List renaming getD->aK,getElem?_eq_none->aM,getElem?_append_left->aZ,getElem?_eq_getElem->cG,mem_of_getElem?->fV,mem_append->bX,mapM_cons->gL,mem_append_right->gN,mem_append_left->gO,getElem?_map->fM,range'->bK,all_eq_true->gP
open Nat renaming le_refl->aO,beq->bT,lt_of_lt_of_le->bI,ble->gQ
open Bool renaming not_eq_true'->aS,false_eq_true->aN
open Array renaming replicate->gK,toArray_toList->bS,getD_eq_getD_getElem?->aF,getElem?_setIfInBounds_ne->aQ
set_option linter.all false
namespace Go.GD
open Go
variable {G:List bf}{M N d i k l m r:Nat}{P:Program}{R:Rows}{T:iM}{a:Act}{args:List D}{b:Bool}{code:Code}{ex:List Nat}{f:FuncId}{fn:Func}{o':Obj}{res:D}{ro:Option Nat}{rows aj:List Row}{st:St}{tm:Array Value}{v:Value}{vs:List Value}{w w0:World}{x:Operand}
theorem fw.kN{c0:Ctx}{c:Ctx}(h:fw N M c0 w0 c w st a)(hb:cb st.env x=.bool b):fw N M c0 w0 c w (st.kN x b) a:=by
 cases x with
 |tmp t=>exact⟨h.mem,h.rows,λs=>by rw[S7 hb];exact h.env s,h.size,h.defers,h.gh,h.gy,h.reach⟩
 |_=>exact h
theorem fw.HX{c0:Ctx}{c:Ctx}(h:fw N M c0 w0 c w st a)(hb:a.eval x=.bool b):fw N M c0 w0 c w (st.kN x b) a:=by
 cases x with
 |tmp t=>
  refine⟨h.mem,h.rows,λs=>?_,h.size,h.defers,h.gh,h.gy,h.reach⟩
  simp only[St.kN,Bx]
  split
  ·rename_i e;subst e;exact hb
  ·exact h.env s
 |_=>exact h
theorem yx(hT:jD P T)(hG:j5 P G){id:Nat}{ops:Array Oper}{Q:Ex->St->Prop}(h:mn T G N M ops ops.toList st λst=>Q .normal st):ui ro P N M (.region id ops false) st Q:=by
 intro c0 w0 c w a hs
 refine Zjv ?_
 have:=yX (P:=P) (ops:=ops) hT hG (Q:=λe a' w'=>∃ex jx c',nd e=some ex/\Q ex jx/\fw N M c0 w0 c' w' jx a') (λst c w a hK hs=>⟨_,st,c,rfl,hK,hs⟩) ops.toList 0 st c w a (by simp) h hs
 rwa [<-List.range_eq_range',Array.length_toList]at this
theorem Qzx{c:Ctx}{w:World}{i n:Nat}{row:Row}(hn:c.R n=some row)(hb:row.box=false)(hV:c.V n):∀{e e':List D},HY i n e=some e'->e'.length=e.length/\∀arr off,kU c w e arr off->kU c w e' arr off
 |[],e',h=>by simp[HY]at h
 |d ::l,e',h=>by
  unfold HY at h
  split at h
  ·cases h
   refine⟨rfl,λarr off hc=>?_⟩
   obtain⟨⟨v,hv,h1⟩,⟨u,hu,h2⟩,h3⟩:=hc
   exact⟨⟨v,hv,.inl h1⟩,⟨u,hu,row,hn,hb,.inl ⟨hV,none,h2,NN⟩⟩,h3⟩
  ·split at h
   ·rename_i l' tM
    cases h
    obtain⟨g1,g2⟩:=Qzx hn hb hV tM
    exact⟨by simp[g1],λarr off hc=>⟨hc.1,g2 arr _ hc.2⟩⟩
   ·cases h
theorem Z0n{n:Nat}:∀{R:Rows} {k i:Nat} {ty:TypeId} {sz:Nat} {e':List D},J9 n R k=some (i,ty,sz,e')->∃e j,i=k+j/\R[j]?=some (some ⟨true,ty,sz,.gen [e]⟩)/\HY i n e=some e'
 |[],k,i,ty,sz,e',h=>by simp[J9]at h
 |x ::l,k,i,ty,sz,e',h=>by
  have next:J9 n l (k+1)=some (i,ty,sz,e')->∃e j,i=k+j/\(x::l)[j]?=some (some ⟨true,ty,sz,.gen [e]⟩)/\HY i n e=some e':=λh=>by
   obtain⟨e,j,h1,h2,h3⟩:=Z0n h
   exact⟨e,j+1,by omega,by simpa using h2,h3⟩
  unfold J9 at h
  split at h
  ·split at h
   ·rename_i e1 he
    cases h
    exact⟨_,0,rfl,rfl,he⟩
   ·exact next h
  ·exact next h
theorem zay{c0:Ctx}{c:Ctx}{K:St->Prop}(h:Ka T code st K)(hs:fw N M c0 w0 c w st a): ∃jx c',K jx/\fw N M c0 w0 c' w jx a:=by
  unfold Ka at h
  split at h
  . exact⟨st,c,h,hs⟩
  . rename_i u hu
    split at h
    . exact⟨st,c,h,hs⟩
    . rename_i i ty sz e' hf
      simp only[D.fp,ny]at h
      obtain⟨e,j,h1,h2,h3⟩:=Z0n hf
      rw[Nat.zero_add]at h1
      subst h1
      have bz:=(List.getElem?_eq_some_iff.1 h2).1
      have hi:c.R i=some ⟨true,ty,sz, .gen [e]⟩:=by rw[hs.rows,aK,h2];rfl
      have hn:c.R st.rows.length=none:=by rw[hs.rows,aK,aM (aO _)];rfl
      have gv:i≠st.rows.length:=by omega
      have IK:=W6 hs.mem hn (row:=⟨false,u,1, .ints .u8 []⟩) rfl rfl Nat.one_pos
      have W7:=Tc (w:=w) hn ⟨false,u,1, .ints .u8 []⟩
      have W8:(c.jv st.rows.length ⟨false,u,1, .ints .u8 []⟩).R i=some ⟨true,ty,sz, .gen [e]⟩:=by simp [Ctx.jv,gv,hi]
      obtain⟨q1,q2⟩:=Qzx (c:=c.jv st.rows.length ⟨false,u,1, .ints .u8 []⟩) (w:=w) (row:=⟨false,u,1, .ints .u8 []⟩) (by simp [Ctx.jv]) rfl (.inl rfl) h3
      obtain⟨W9,Cn⟩:=qc IK W8 q1 (λarr=>q2 arr 0)
      have hg:=W7.trans W9
      have nJ:lY c w ((c.jv st.rows.length ⟨false,u,1, .ints .u8 []⟩).jF i ⟨true,ty,sz, .gen [e']⟩) w:=by
        refine⟨Cn,hg,Fr.refl _ w,λb hb=> .inl hb,λr ao hr hv=> .inl ?_⟩
        have AF:r≠st.rows.length:=λe=>hv (.inl e)
        by_cases er:r=i
        . subst er;exact⟨⟨_,hi⟩,λe=>hv (.inr e),rfl⟩
        . exact⟨⟨ao,by simpa [Ctx.jF,Ctx.jv,er,AF] using hr⟩,λe=>hv (.inr e),rfl⟩
      refine⟨_,_,h,Cn,λr=> ?_,λt=>Ax hg (hs.env t),hs.size,hs.defers,hs.gh,hs.gy,hs.reach.step (ks:=[]) (λk hk=>by simp [cf]at hk) hs.gy nJ.toK⟩
      simp only[Ctx.jF,Ctx.jv]
      by_cases er:r=i
      . subst er
        simp [aK,aZ (show r<(st.rows.set r _).length by simpa using bz),bz]
      . rw [if_neg er]
        by_cases en:r=st.rows.length
        . subst en
          simp [aK]
        . rw[if_neg en,hs.rows]
          by_cases hl:r<st.rows.length
          . simp [aK,aZ (show r<(st.rows.set i _).length by simpa using hl),List.getElem?_set_ne (Ne.symm er)]
          . have h1:st.rows.getD r none=none:=by rw[aK,aM (by omega)];rfl
            rw[h1,aK,aM (by simp;omega)];rfl
def sB(P:Program):Prop:=∀(ro:Option Nat) (T:iM) (G:List bf) (N M id:Nat) (ops:Array Oper) (st:St) (Q:Ex->St->Prop),jD P T->j5 P G->wc T G N M ops st Q->ui ro P N M (.region id ops true) st Q
def HZ(y:Array Tmp×Code×Code):Code->Prop
 |.seq a b=>HZ y a/\HZ y b
 |.cond _ a b=>HZ y a/\HZ y b
 |.block _ a=>HZ y a
 |.loop a=>HZ y a
 |.scope a=>HZ y a
 |.rangeFunc _ ps x b=>(ps,x,b)=y
 |_=>True
def RF(o:Option Nat)(n:Nat)(c:Code):Prop:=match o with|none=>True|some f=>∃y,(Gj f=some y/\y.n<=n/\y.ts=yTs f/\YB<=f/\y.ps.size=1)/\HZ (y.ps,y.assign,y.body) c
theorem xT{c:Code}{Q:Exit->Act->World->Prop}(h:c.wpIn (BA ro) 0 P (Exit.noGoto Q) a w):(Code.scope c).wpIn (BA ro) 0 P Q a w:=by
 intro b k cs Ee hb hr
 have s1:step P (lone (b.atR a (.code (.scope c)::k)) cs w)=.next (lone (b.atR a (.code c:: .inScope c::k)) cs w):=step_lone_go (by simp[stepG,stepG.exec,Frame.atR])
 have h0:(lone (b.atR a (.code (.scope c)::k)) cs w).fenced P (BA ro):=fenced_calm hb hr rfl
 obtain⟨e,Dw,Dx,hq,mH⟩:=h b (.inScope c::k) cs Ee hb hr
 cases e with
 |normal=>exact⟨.normal,Dw,Dx,hq,.head h0 s1 (StepsIn.trans mH (.one (fenced_calm hb hr rfl) (step_lone_go (by simp[stepG,stepG.exec,Frame.atR]))))⟩
 |exit id=>
  have hx:exitTo id (.inScope c::k)=exitTo id k:=by simp[exitTo]
  exact⟨.exit id,Dw,Dx,hq,λk' hk=>.head h0 s1 (mH.1 k' (by rw[hx];exact hk)),λnF hk=>let⟨k₁,h1,h2⟩:=mH.2 nF (by rw[hx];exact hk);⟨k₁,h1,.head h0 s1 h2⟩⟩
 |goto l=>exact hq.elim
 |ret=>exact⟨_,Dw,Dx,hq,.of_steps (.one h0 s1) mH⟩
 |panic ch=>exact⟨_,Dw,Dx,hq,.of_steps (.one h0 s1) mH⟩
 |outgrown=>exact⟨_,Dw,Dx,hq,.of_steps (.one h0 s1) mH⟩
theorem NR(hD:sB P)(hT:jD P T)(hG:j5 P G){L:Code->St->(Ex->St->Prop)->Prop}{S:Code->Prop}(hS:(∀a b,S (.seq a b)->S a/\S b)/\(∀c a b,S (.cond c a b)->S a/\S b)/\(∀i a,S (.block i a)->S a)/\(∀a,S (.scope a)->S a))(hL:∀code st Q,S code->L code st Q->ui ro P N M code st Q):∀(code:Code) (st:St) (Q:Ex->St->Prop),S code->px T G N M L code st Q->ui ro P N M code st Q:=by
 intro code
 induction code with
 |skip=>exactλst Q _ h c0 w0 c w a hs=>wpIn_skip ⟨_,st,c,rfl,h,hs⟩
 |label l=>exactλst Q _ h c0 w0 c w a hs=>wpIn_label ⟨_,st,c,rfl,h,hs⟩
 |region id ops draw=>
  intro st Q hc h c0 w0 c w a hs
  simp only[px]at h
  obtain⟨R1,c1,h,mW⟩:=GG h hs
  obtain⟨jx,c',h,jl⟩:=xaf h mW
  cases draw with
  |false=>exact yx hT hG h c0 w0 c' w a jl
  |true=>exact hD ro T G N M id ops jx Q hT hG h c0 w0 c' w a jl
 |seq x y ihx Vt=>
  intro st Q hc h c0 w0 c w a hs
  simp only[px]at h
  refine wpIn_seq (wpIn_mono (ihx st _ (hS.1 _ _ hc).1 h c0 w0 c w a hs) λe a' w' hq=>?_)
  obtain⟨ex,jx,c',he,hq,jl⟩:=hq
  cases e<;>simp only[nd,Option.some.injEq,reduceCtorEq]at he
  ·subst he
   obtain⟨UO,c2,hq,QE⟩:=zay hq jl
   exact Vt UO Q (hS.1 _ _ hc).2 hq c0 w0 c2 w' a' QE
  ·subst he;exact⟨_,jx,c',rfl,hq,jl⟩
  ·subst he;exact⟨_,jx,c',rfl,hq,jl⟩
 |cond x y z Vt ihz=>
  intro st Q hc h c0 w0 c w a hs
  simp only[px]at h
  split at h
  ·rename_i b hb
   have hv:=NH hs.env x
   rw[hb]at hv
   have hv:=Rep.bool.1 hv
   cases b with
   |true=>exact wpIn_cond_true hv (Vt _ Q (hS.2.1 _ _ _ hc).1 h c0 w0 c w a (hs.kN hb))
   |false=>exact wpIn_cond_false hv (ihz _ Q (hS.2.1 _ _ _ hc).2 h c0 w0 c w a (hs.kN hb))
  ·rename_i es hb
   have hv:=NH hs.env x
   rw[hb]at hv
   obtain⟨b,hv,iq⟩:=hv
   cases b with
   |true=>exact wpIn_cond_true hv (Vt _ Q (hS.2.1 _ _ _ hc).1 (h.1 (ak.oD.2 (iq rfl))) c0 w0 c w a (hs.HX hv))
   |false=>exact wpIn_cond_false hv (ihz _ Q (hS.2.1 _ _ _ hc).2 h.2 c0 w0 c w a (hs.HX hv))
  ·exact h.elim
 |block id x ih=>
  intro st Q hc h c0 w0 c w a hs
  simp only[px]at h
  refine wpIn_block (wpIn_mono (ih st _ (hS.2.2.1 _ _ hc) h c0 w0 c w a hs) λe a' w' hq=>?_)
  obtain⟨ex,jx,c',he,hq,jl⟩:=hq
  cases e<;>simp only[nd,Option.some.injEq,reduceCtorEq]at he
  ·subst he;exact⟨_,jx,c',rfl,hq,jl⟩
  ·rename_i i
   subst he
   simp only[Exit.inBlock]
   simp only at hq
   cases hb:bT i id with
   |true=>
    simp only[hb]at hq
    rw[if_pos (bE hb)]
    exact⟨_,jx,c',rfl,hq,jl⟩
   |false=>
    simp only[hb]at hq
    rw[if_neg (λe=>by rw[e]at hb;simp at hb)]
    exact⟨_,jx,c',rfl,hq,jl⟩
  ·subst he;exact⟨_,jx,c',rfl,hq,jl⟩
 |exit id=>exactλst Q _ h c0 w0 c w a hs=>wpIn_exit ⟨_,st,c,rfl,h,hs⟩
 |ret=>exactλst Q _ h c0 w0 c w a hs=>wpIn_ret ⟨_,st,c,rfl,h,hs⟩
 |loop x ih=>exactλst Q hc h=>hL _ _ _ hc h
 |rangeFunc g ps x y _ _=>exactλst Q hc h=>hL _ _ _ hc h
 |scope x ih=>
  intro st Q hc h c0 w0 c w a hs
  simp only[px]at h
  refine xT (wpIn_mono (ih st _ (hS.2.2.2 _ hc) h c0 w0 c w a hs) λe a' w' hq=>?_)
  obtain⟨ex,jx,c',he,hq,jl⟩:=hq
  cases e<;>simp only[nd,Option.some.injEq,reduceCtorEq]at he
  all_goals(subst he;exact⟨_,jx,c',rfl,hq,jl⟩)
 |goto l=>exactλst Q hc h=>hL _ _ _ hc h
 |refuse y=>exactλst Q hc h=>hL _ _ _ hc h
theorem NS(o:Option Nat)(n:Nat):(∀a b,RF o n (.seq a b)->RF o n a/\RF o n b)/\(∀c a b,RF o n (.cond c a b)->RF o n a/\RF o n b)/\(∀i a,RF o n (.block i a)->RF o n a)/\(∀a,RF o n (.scope a)->RF o n a):=by
 cases o with
 |none=>exact⟨λ_ _ _=>⟨trivial,trivial⟩,λ_ _ _ _=>⟨trivial,trivial⟩,λ_ _ _=>trivial,λ_ _=>trivial⟩
 |some f=>exact⟨λ_ _ ⟨y,h,h1,h2⟩=>⟨⟨y,h,h1⟩,⟨y,h,h2⟩⟩,λ_ _ _ ⟨y,h,h1,h2⟩=>⟨⟨y,h,h1⟩,⟨y,h,h2⟩⟩,λ_ _ ⟨y,h,h1⟩=>⟨y,h,h1⟩,λ_ ⟨y,h,h1⟩=>⟨y,h,h1⟩⟩
def Ctx.out(c:Ctx)(ex:List Nat)(rows:List Row):Ctx:=
 { ρ:=λi=>match ex[i]? with|some r=>c.ρ r|none=>c.ρ i,R:=λi=>rows[i]?,V:=λi=>match ex[i]? with|some r=>c.R r=none\/c.V r|none=>True,
   I:=λb=>c.I b\/ ∃r row,c.R r=some row/\ ¬c.V r/\row.box=false/\K4 ex r=true/\c.ρ r=b,base:=c.base,top:=c.top,X:=c.X}
theorem Vu(h:kO ex i r=true):ex[i]?=some r:=by
 unfold kO at h
 split at h
 ·rename_i x hx;rw[hx,bE h]
 ·cases h
theorem Zs3(h:I0 ex R i=true):∃r,ex[i]?=some r/\R.getD r none=none:=by
 unfold I0 at h
 split at h
 ·rename_i r hr
  refine⟨r,hr,?_⟩
  split at h
  ·assumption
  ·cases h
 ·cases h
theorem Zb9(h:K4 ex r=true):r∉ex:=by
 intro hm
 have:=List.all_eq_true.1 h r hm
 simp at this
theorem Rk{ex:List Nat}{m:Nat}{R:Rows}:∀{rs:List Nat} {ps:List Row},nk ex m R rs ps->rs.length=ps.length/\∀(i r:Nat) (p:Row),rs[i]?=some r->ps[i]?=some p->
 (∃row,R.getD r none=some row/\row.box=p.box/\row.ty=p.ty/\row.sz=p.sz/\(if p.box then∃e e',row.es=.gen [e]/\p.es=.gen [e']/\Fv ex m R e e' else row.es.l=p.es.l))\/(R.getD r none=none/\p.box=false/\p.es.l=[]/\0<p.sz)
 |[],[],_=>⟨rfl,λi r p h=>by simp at h⟩
 |[],_::_,h=>h.elim
 |_::_,[],h=>h.elim
 |r ::rs,⟨box,ty,sz,es⟩::ps,h=>by
  simp only[nk]at h
  obtain⟨h1,h2⟩:=h
  obtain⟨g1,g2⟩:=Rk h2
  refine⟨by simp[g1],λi q p hq hp=>?_⟩
  cases i with
  |succ i=>exact g2 i q p (by simpa using hq) (by simpa using hp)
  |zero=>
   simp at hq hp
   subst hq;subst hp
   split at h1
   ·rename_i AL j6 kJ jh hR
    simp only[db,aE]at h1
    obtain⟨⟨⟨e1,e2⟩,e3⟩,h1⟩:=h1
    refine .inl ⟨_,hR,by cases box<;>cases AL<;>simp_all,(bE e2).symm,(bE e3).symm,?_⟩
    cases box with
    |false=>simpa using ak.AI h1
    |true=>
     simp only[if_true]
     simp only at h1
     split at h1
     ·exact⟨_,_,rfl,rfl,h1⟩
     ·exact h1.elim
   ·rename_i hR
    simp only[db,aE,aS]at h1
    exact .inr ⟨hR,h1.1.1,ak.oD.1 h1.2,lE h1.1.2⟩
theorem Td{c:Ctx}(hR:∀r,c.R r=R.getD r none)(c6:nk ex m R ex rows){i r o f:Nat}(hx:kO ex i r=true)(hr:cz c w (.ptr r o f) v):cz (c.out ex rows) w (.ptr i o f) v:=by
 obtain⟨row,g1,gV,g2,hv⟩:=hr
 have hi:=Vu hx
 obtain⟨hl,ja⟩:=Rk c6
 have bz:=(List.getElem?_eq_some_iff.1 hi).1
 have hp:rows[i]?=some rows[i]:=cG (by omega)
 rcases ja i r _ hi hp with⟨ao,k1,k2,k3,k4,k5⟩|⟨k1,_⟩
 ·have:ao=row:=by rw[hR,k1]at g1;exact Option.some.inj g1
  subst this
  refine⟨_,hp,by simp[Ctx.out,hi,g1,gV],?_,by simp only[Ctx.out,hi];rw[hv,k4]⟩
  split at k5
  ·obtain⟨e,e',q1,q2,_⟩:=k5
   rw[q1]at g2;rw[q2];exact g2
  ·rw[<-k5];exact g2
 ·rw[hR,k1]at g1;cases g1
theorem Zqj{c:Ctx}{w:World}{ex:List Nat}{m:Nat}{R:Rows}{rows:List Row}(hR:∀r,c.R r=R.getD r none)(c6:nk ex m R ex rows):∀{ps qs:List (Nat×Nat×Nat)} {us:List Value},sR ex ps qs=true->M1 c qs us->M1 (c.out ex rows) ps us
 |[],[],_,_,h=>by rename_i us _;cases us<;>exact h
 |(i,b,d)::l,(r,y,z)::q,u::us,h,hr=>by
  simp only[sR,aE]at h
  obtain⟨h1,h2,h3,h4⟩:=h
  have e2:=bE h2;have e3:=bE h3
  subst e2;subst e3
  exact⟨Td (w:=w) hR c6 h1 hr.1,Zqj (w:=w) hR c6 h4 hr.2⟩
 |(_,_,_)::_,(_,_,_)::_,[],_,h=>h.elim
 |[],_::_,_,h,_=>by simp[sR]at h
 |_::_,[],_,h,_=>by simp[sR]at h
theorem zT{c:Ctx}(hR:∀r,c.R r=R.getD r none)(c6:nk ex m R ex rows):∀{cs ds:List iJ} {us:List Value},py ex cs ds=true->oX c w ds us->oX (c.out ex rows) w cs us:=by
 intro cs
 induction cs with
 |nil=>intro ds us h hr;cases ds<;>cases us<;>first|exact hr|(simp[py]at h;done)
 |cons x cs ih=>
  intro ds us h hr
  cases ds with
  |nil=>cases x<;>simp[py]at h
  |cons y ds=>
   cases us with
   |nil=>exact hr.elim
   |cons u us=>
    cases x<;>cases y<;>simp only[py,aE,aN]at h
    ·obtain⟨h1,h2,h3,h4⟩:=h
     have e2:=bE h2;have e3:=bE h3
     subst e2;subst e3
     exact⟨Td (w:=w) hR c6 h1 hr.1,ih h4 hr.2⟩
    ·obtain⟨h1,h2,h3⟩:=h
     have e1:=bE h1
     subst e1
     obtain⟨⟨ws,hv,hw⟩,UW⟩:=hr
     exact⟨⟨ws,MQ (c:=c) (c':=c.out ex rows) (w':=w) (λb hb=>⟨Or.inl hb,rfl⟩) hv,Zqj (w:=w) hR c6 h2 hw⟩,ih h3 UW⟩
section
variable {c:Ctx} {w:World} {ex:List Nat} {m:Nat} {R:Rows} {rows:List Row}
theorem Zdc(hm:Mem c w)(hR:∀r,c.R r=R.getD r none)(c6:nk ex m R ex rows)(fk:∀r row,c.R r=some row->¬c.V r->m<=r->c.base<=c.ρ r){d p:D}(h:jy ex m R d p)(hr:cz c w d v):cz (c.out ex rows) w p v:=by
 have nK:∀b,c.I b->(c.out ex rows).I b/\w.heap[b]?=w.heap[b]? :=λb hb=>⟨.inl hb,rfl⟩
 obtain⟨hl,ja⟩:=Rk c6
 have rowOf:∀i r row,ex[i]?=some r->c.R r=some row->∃p,rows[i]?=some p/\row.box=p.box/\row.ty=p.ty/\row.sz=p.sz/\row.es.l.length=p.es.l.length/\(c.out ex rows).ρ i=c.ρ r/\((c.out ex rows).V i↔c.V r):=by
  intro i r row hi cq
  have bz:=(List.getElem?_eq_some_iff.1 hi).1
  have hp:rows[i]?=some rows[i]:=cG (by omega)
  rcases ja i r _ hi hp with⟨ao,g1,g2,g3,g4,g5⟩|⟨g1,_⟩
  ·have:ao=row:=by rw[hR,g1]at cq;exact Option.some.inj cq
   subst this
   refine⟨_,hp,g2,g3,g4,?_,by simp[Ctx.out,hi],by simp[Ctx.out,hi,cq]⟩
   split at g5
   ·obtain⟨e,e',k1,k2,_⟩:=g5
    rw[k1,k2];rfl
   ·rw[g5]
  ·rw[hR,g1]at cq;cases cq
 have NU:∀i a,I0 ex R i=true->v=.slice a 0 0->AP c.top a->cz (c.out ex rows) w (.all i) v:=by
  intro i a hv Ez dz
  obtain⟨r,hi,hrn⟩:=Zs3 hv
  have bz:=(List.getElem?_eq_some_iff.1 hi).1
  have hp:rows[i]?=some rows[i]:=cG (by omega)
  rcases ja i r _ hi hp with⟨ao,g1,_⟩|⟨g1,g2,g3,g4⟩
  ·rw[hrn]at g1;cases g1
  ·exact⟨_,hp,g2,.inl ⟨by simp only[Ctx.out,hi];exact .inl (by rw[hR];exact g1),a,Ez,dz⟩⟩
 cases p<;>simp only[jy]at h
 case int k n=>
  split at h
  ·simp only[db,decide_eq_true_eq]at h;obtain⟨rfl,rfl⟩:=h;exact hr
  ·exact h.elim
 case bool b=>
  split at h
  ·subst h;exact hr
  ·exact h.elim
 case str s=>
  split at h
  ·subst h;exact hr
  ·exact h.elim
 case iO=>
  split at h
  ·exact hr
  ·exact h.elim
 case dx=>
  split at h
  ·exact hr
  ·exact h.elim
 case emp=>
  split at h
  ·exact⟨none,hr,NN⟩
  ·exact hr
  ·exact h.elim
 case jP=>
  split at h
  ·exact hr
  ·exact h.elim
 case gq f cs=>
  split at h
  ·simp only[db,aE]at h
   obtain⟨⟨h1,h2⟩,_⟩:=h
   have e1:=bE h1
   subst e1
   obtain⟨us,hv,hu⟩:=hr
   exact⟨us,MQ (c:=c) (c':=c.out ex rows) (w':=w) (λb hb=>⟨Or.inl hb,rfl⟩) hv,zT hR c6 h2 hu⟩
  ·exact h.elim
 case ptr i o f=>
  split at h
  ·simp only[db,aE]at h
   obtain⟨⟨h1,h2,h3⟩,_⟩:=h
   have e2:=bE h2;have e3:=bE h3
   subst e2;subst e3
   exact Td (w:=w) hR c6 h1 hr
  ·exact h.elim
 case c9 i=>
  have go:∀r,kO ex i r=true->cz c w (.c9 r) v->cz (c.out ex rows) w (.c9 i) v:=by
   intro r hx hr
   rcases hr with hr|⟨row,g1,gV,g2,hv⟩
   ·exact .inl hr
   ·have hi:=Vu hx
    obtain⟨p,hp,q1,q2,q3,q4,q5,q6⟩:=rowOf i r row hi g1
    exact .inr ⟨p,hp,λe=>gV (q6.1 e),by rw[<-q4];exact g2,by rw[hv,q5,q3]⟩
  split at h
  ·exact .inl hr
  ·simp only[db]at h;exact go _ h.1 hr
  ·simp only[db,aE]at h
   obtain⟨⟨h1,h2,h3⟩,_⟩:=h
   have e2:=bE h2;have e3:=bE h3
   subst e2;subst e3
   exact go _ h1 (.inr hr)
  ·exact h.elim
 case dead=>exact cz.one hr
 case sl sz es fr=>
  split at h
  ·have h:=ak.oD.1 h;exact⟨none,0,by rw[h];exact hr,by rw[h];exact aO _,.inl h⟩
  ·have h:=ak.oD.1 h;obtain⟨a,hr,_⟩:=hr;exact⟨a,0,by rw[h];exact hr,by rw[h];exact aO _,.inl h⟩
  ·rename_i kJ jh fr'
   simp only[db,Bool.or_eq_true,aS]at h
   obtain⟨hf,hs,he⟩:=h
   have he:=ak.AI he
   obtain⟨a,cap,hv,hc,iq⟩:=hr
   rw[he]at hv hc iq
   refine⟨a,cap,hv,hc,?_⟩
   rcases iq with iq|⟨b,off,arr,ty,fz,ha,hI,hf',hh,hE⟩
   ·exact .inl iq
   ·rcases hs with hs|rfl
    ·exact .inl (by rw[<-he];exact ak.oD.1 hs)
    ·exact .inr ⟨b,off,arr,ty,fz,ha,.inl hI,λe=>hf' (by rcases hf with hf|hf<;>simp_all),hh,ou nK _ _ _ _ hE⟩
  ·rename_i r
   split at h
   ·rename_i box ty kJ jh hRr
    simp only[db,aE,aS]at h
    obtain⟨⟨⟨⟨hb,hs⟩,ho⟩,Kb⟩,Bp⟩:=h
    have Bp:=ak.AI Bp
    have hs:=bE hs
    have Kb:=lE Kb
    obtain⟨row,g1,g2,hv⟩:=hr
    have:row=⟨box,ty,kJ,jh⟩:=by rw[hR,hRr]at g1;exact(Option.some.inj g1).symm
    subst this
    subst hs
    rcases hv with⟨hV,a,hv,_⟩|⟨hV,cap,arr,hv,g3,g4,g5,g6⟩
    ·have he:=(hm.ov g1 hV).2.1
     simp only at he
     rw[he]at Bp
     exact⟨a,0,by rw[<-Bp];exact hv,by rw[<-Bp];exact aO _,.inl Bp.symm⟩
    obtain⟨iQ,jG,jl,hx⟩:=hm.real g1 hV
    rw[g5]at jG;cases jG
    simp only[hb,aN,if_false]at hx
    simp only at hv g3 hx
    rw[Bp]at hv g3 hx
    exact⟨_,cap,hv,g3,.inr ⟨_,0,arr,_,_,rfl,.inr ⟨r,_,g1,hV,hb,ho,rfl⟩,λ_=>fk r _ g1 hV Kb,g5,ou nK _ _ _ _ hx⟩⟩
   ·exact h.elim
  ·rename_i r o n
   split at h
   ·rename_i box ty kJ jh hRr
    simp only[db,aE,aS]at h
    obtain⟨⟨⟨⟨hb,hs⟩,ho⟩,Kb⟩,Bp⟩:=h
    have Bp:=ak.AI Bp
    rw[ak.je,ak.kC]at Bp
    have hs:=bE hs
    have Kb:=lE Kb
    obtain⟨row,g1,g2,g5,hv⟩:=hr
    have:row=⟨box,ty,kJ,jh⟩:=by rw[hR,hRr]at g1;exact(Option.some.inj g1).symm
    subst this
    subst hs
    simp only at g5
    have tM:((jh.l.drop o).take n).length=n:=by simp only[List.length_take,List.length_drop];omega
    rw[Bp]at tM
    rcases hv with⟨h0,a,hv,_⟩|⟨hV,cap,arr,g3,g4,g6,hv,g7⟩
    ·subst h0
     have h0:=List.eq_nil_of_length_eq_zero tM
     exact⟨a,0,by rw[tM];exact hv,by omega,.inl h0⟩
    obtain⟨iQ,jG,jl,hx⟩:=hm.real g1 hV
    rw[g6]at jG;cases jG
    simp only[hb,aN,if_false]at hx
    have hE:=MI (n:=n) (KS (l:=o) hx)
    rw[Bp]at hE
    exact⟨_,cap,by rw[tM];exact hv,by omega,.inr ⟨_,o*kJ,arr,_,_,rfl,.inr ⟨r,_,g1,hV,hb,ho,rfl⟩,λ_=>fk r _ g1 hV Kb,g6,ou nK _ _ _ _ (by simpa using hE)⟩⟩
   ·exact h.elim
  ·exact h.elim
 case all i=>
  split at h
  ·rename_i r
   simp only[db]at h
   obtain⟨row,g1,g2,hv⟩:=hr
   obtain⟨p,k1,k2,k3,k4,k5,k6,k7⟩:=rowOf i r row (Vu h.1) g1
   refine⟨p,k1,by rw[<-k2];exact g2,?_⟩
   rcases hv with⟨hV,hv⟩|⟨hV,cap,arr,hv,g3,g4,g5,g6⟩
   ·exact .inl ⟨k7.2 hV,hv⟩
   ·exact .inr ⟨λe=>hV (k7.1 e),cap,arr,by rw[hv,k5,k6],by rw[<-k5];exact g3,g4,by rw[k6,<-k3];exact g5,by rw[<-k4];exact g6⟩
  ·simp only[db]at h
   exact NU i none h.1 hr NN
  ·simp only[db]at h
   obtain⟨a,hr,ho⟩:=hr
   exact NU i a h.1 hr ho
  ·exact h.elim
 case own i o n=>
  split at h
  ·rename_i r o' n'
   simp only[db]at h
   obtain⟨hx,rfl,rfl⟩:=h
   obtain⟨row,g1,g2,g5,hv⟩:=hr
   obtain⟨p,k1,k2,k3,k4,k5,k6,k7⟩:=rowOf i r row (Vu hx) g1
   refine⟨p,k1,by rw[<-k2];exact g2,by rw[<-k5];exact g5,?_⟩
   rcases hv with⟨h0,a,hv,jd⟩|⟨hV,cap,arr,g3,g4,g6,hv,g7⟩
   ·exact .inl ⟨h0,a,hv,jd.mono (aO _) k7 k6⟩
   ·exact .inr ⟨λe=>hV (k7.1 e),cap,arr,g3,g4,by rw[k6,<-k3];exact g6,by rw[k6,<-k4];exact hv,by rw[<-k4];exact g7⟩
  ·exact h.elim
theorem Zgq(hm:Mem c w)(hR:∀r,c.R r=R.getD r none)(c6:nk ex m R ex rows)(fk:∀r row,c.R r=some row->¬c.V r->m<=r->c.base<=c.ρ r):∀{ds ps:List D} {vs:List Value},Fv ex m R ds ps->jq c w ds vs->jq (c.out ex rows) w ps vs
 |[],[],[],_,_=>trivial
 |[],[],_::_,_,h=>h.elim
 |[],_::_,_,h,_=>h.elim
 |_::_,[],_,h,_=>h.elim
 |_::_,_::_,[],_,h=>h.elim
 |d::ds,p::ps,v::vs,h,hr=>⟨Zdc hm hR c6 fk h.1 hr.1,Zgq hm hR c6 fk h.2 hr.2⟩
theorem Zqh(hm:Mem c w)(hR:∀r,c.R r=R.getD r none)(c6:nk ex m R ex rows)(fk:∀r row,c.R r=some row->¬c.V r->m<=r->c.base<=c.ρ r){d p:D}(h:rD ex m R d p)(hr:VRep c w d v):VRep (c.out ex rows) w p v:=by
 cases p with
 |agg ps=>
  simp only[rD]at h
  cases d<;>simp only at h
  obtain⟨vs,hv,hx⟩:=hr
  exact⟨vs,hv,Zgq hm hR c6 fk h hx⟩
 |_=>
  simp only[rD]at h
  refine VRep.Fi (Zdc hm hR c6 fk h (VRep.toC ?_ hr))
  intro cs e
  subst e
  simp[jy,cv,D.H0]at h
theorem Zkx(hm:Mem c w)(hR:∀r,c.R r=R.getD r none)(c6:nk ex m R ex rows)(fk:∀r row,c.R r=some row->¬c.V r->m<=r->c.base<=c.ρ r):∀{ds ps:List D} {vs:List Value},wQ ex m R ds ps->kp c w ds vs->kp (c.out ex rows) w ps vs
 |[],[],[],_,_=>trivial
 |[],[],_::_,_,h=>h.elim
 |[],_::_,_,h,_=>h.elim
 |_::_,[],_,h,_=>h.elim
 |_::_,_::_,[],_,h=>h.elim
 |d::ds,p::ps,v::vs,h,hr=>⟨Zqh hm hR c6 fk h.1 hr.1,Zkx hm hR c6 fk h.2 hr.2⟩
theorem Te(hm:Mem c w)(hR:∀r,c.R r=R.getD r none)(c6:nk ex m R ex rows)(fk:∀r row,c.R r=some row->¬c.V r->m<=r->c.base<=c.ρ r){d p:D}(h:AG ex m R d p)(hr:Rep c w d v):Rep (c.out ex rows) w p v:=by
 cases p with
 |dt ps=>
  simp only[AG]at h
  cases d<;>simp only at h
  obtain⟨vs,hv,hx⟩:=hr
  exact⟨vs,hv,Zkx hm hR c6 fk h hx⟩
 |dead=>trivial
 |_=>
  simp only[AG]at h
  refine Rep.KW (Zqh hm hR c6 fk h (Rep.toV ?_ ?_ hr))
  ·intro ds e;subst e;simp[rD,jy]at h
  ·intro e;subst e;simp[rD,jy]at h
theorem Z6b(hm:Mem c w)(hR:∀r,c.R r=R.getD r none)(c6:nk ex m R ex rows)(fk:∀r row,c.R r=some row->¬c.V r->m<=r->c.base<=c.ρ r):∀{ds ps:List D} {arr:Array Value} {off:Nat},Fv ex m R ds ps->kU c w ds arr off->kU (c.out ex rows) w ps arr off
 |[],[],_,_,_,_=>trivial
 |[],_::_,_,_,h,_=>h.elim
 |_::_,[],_,_,h,_=>h.elim
 |d::ds,p::ps,arr,off,h,hr=>⟨by obtain⟨⟨v,hv,hx⟩,_⟩:=hr;exact⟨v,hv,Zdc hm hR c6 fk h.1 hx⟩,Z6b hm hR c6 fk h.2 hr.2⟩
theorem Z02:∀{ds ps:List D},Fv ex m R ds ps->ds.length=ps.length
 |[],[],_=>rfl
 |[],_::_,h=>h.elim
 |_::_,[],h=>h.elim
 |_::_,_::_,h=>by simp[Z02 h.2]
theorem xay(hm:Mem c w)(hR:∀r,c.R r=R.getD r none)(c6:nk ex m R ex rows)(fk:∀r row,c.R r=some row->¬c.V r->m<=r->c.base<=c.ρ r)(ly:ex.Nodup):Mem (c.out ex rows) w:=by
 have nK:∀b,c.I b->(c.out ex rows).I b/\w.heap[b]?=w.heap[b]? :=λb hb=>⟨.inl hb,rfl⟩
 obtain⟨hl,ja⟩:=Rk c6
 have inv:∀i p,(c.out ex rows).R i=some p->∃r,ex[i]?=some r/\(c.out ex rows).ρ i=c.ρ r/\((∃row,c.R r=some row/\row.box=p.box/\row.ty=p.ty/\row.sz=p.sz/\((c.out ex rows).V i↔c.V r)/\(if p.box then∃e e',row.es=.gen [e]/\p.es=.gen [e']/\Fv ex m R e e' else row.es.l=p.es.l))\/((c.out ex rows).V i/\p.box=false/\p.es.l=[]/\0<p.sz)):=by
  intro i p hp
  have Rl:rows[i]?=some p:=hp
  have bz:=(List.getElem?_eq_some_iff.1 Rl).1
  have hi:ex[i]?=some ex[i]:=cG (by omega)
  refine⟨_,hi,by simp[Ctx.out,hi],?_⟩
  rcases ja i _ p hi Rl with⟨row,g1,g2,g3,g4,g5⟩|⟨g1,g2⟩
  ·have cq:c.R ex[i]=some row:=by rw[hR];exact g1
   exact .inl ⟨row,cq,g2,g3,g4,by simp[Ctx.out,hi,cq],g5⟩
  ·exact .inr ⟨by simp only[Ctx.out,hi];exact .inl (by rw[hR];exact g1),g2⟩
 refine⟨λi p hp=>?_,λi j p q hp hq v1 v2 he=>?_,λb hb=>?_,hm.top,hm.kY.mono nK⟩
 ·obtain⟨r,g1,g6,⟨row,g2,g3,g4,g5,gV,g7⟩|⟨gV,g2⟩⟩:=inv i p hp
  ·rcases hm.row r row g2 with⟨h0,h1,h2,h3⟩|⟨h0,arr,ha,hs,hx⟩
   ·refine .inl ⟨gV.2 h0,by rw[<-g3];exact h1,?_,by rw[<-g5];exact h3⟩
    rw[if_neg (by rw[<-g3,h1];simp)]at g7
    rw[<-g7];exact h2
   refine .inr ⟨λe=>h0 (gV.1 e),arr,by rw[g6,<-g4];exact ha,by rw[<-g5];exact hs,?_⟩
   split
   ·rename_i hb
    rw[if_pos hb]at g7
    rw[if_pos (g3.trans hb)]at hx
    obtain⟨e,e',k1,k2,k3⟩:=g7
    obtain⟨e0,q1,q2,q3,q4⟩:=hx
    rw[k1]at q1;cases q1
    exact⟨e',k2,by rw[<-Z02 k3,<-g5];exact q2,by rw[<-g5];exact q3,Z6b hm hR c6 fk k3 q4⟩
   ·rename_i hb
    rw[if_neg hb]at g7
    rw[if_neg (by rw[g3];exact hb)]at hx
    rw[<-g7,<-g5]
    exact ou nK _ _ _ _ hx
  ·exact .inl ⟨gV,g2⟩
 ·obtain⟨r,g1,g6,⟨row,g2,_,_,_,gV,_⟩|⟨gV,_⟩⟩:=inv i p hp
  ·obtain⟨s,k1,k6,⟨ao,k2,_,_,_,kV,_⟩|⟨kV,_⟩⟩:=inv j q hq
   ·rw[g6,k6]at he
    have:r=s:=hm.inj r s _ _ g2 k2 (λe=>v1 (gV.2 e)) (λe=>v2 (kV.2 e)) he
    subst this
    exact(List.getElem?_inj (List.getElem?_eq_some_iff.1 g1).1 ly).1 (g1.trans k1.symm)
   ·exact(v2 kV).elim
  ·exact(v1 gV).elim
 ·rcases hb with hb|⟨r,row,hr,hV,Ad,ho,rfl⟩
  ·refine⟨(hm.fu b hb).1,λi p hp v=>?_⟩
   obtain⟨r,g1,g6,⟨row,g2,_,_,_,gV,_⟩|⟨gV,_⟩⟩:=inv i p hp
   ·rw[g6]
    exact(hm.fu b hb).2 r row g2 (λe=>v (gV.2 e))
   ·exact(v gV).elim
  ·refine⟨hm.lt hr hV,λi p hp v=>?_⟩
   obtain⟨s,g1,g6,⟨ao,g2,_,_,_,gV,_⟩|⟨gV,_⟩⟩:=inv i p hp
   ·rw[g6]
    intro e
    have:=hm.inj s r _ _ g2 hr (λe=>v (gV.2 e)) hV e
    subst this
    exact Zb9 ho (fV g1)
   ·exact(v gV).elim
end
theorem Zou:∀{l m:List Nat},Al l m=true->l=m
 |[],[],_=>rfl
 |x::l,y::m,h=>by
  simp only[Al,aE]at h
  rw[bE h.1,Zou h.2]
 |[],_::_,h=>by cases h
 |_::_,[],h=>by cases h
theorem qaz(h:AH M ex=true):ex.Nodup/\(∀i,i<M->ex[i]?=some i)/\∀i r,ex[i]?=some r->(i=r/\i<M)\/M<=r:=by
 unfold AH at h
 simp only[aE]at h
 obtain⟨⟨h1,h2⟩,h3⟩:=h
 replace h1:=Zou h1
 replace h2:∀r∈ex.drop M,M<=r:=λr hr=>lE (List.all_eq_true.1 h2 r hr)
 replace h3:=MN.1 h3
 have he:ex=List.range M++ex.drop M:=by rw[<-h1,List.take_append_drop]
 generalize hq:ex.drop M=q at he h2 h3
 subst he
 refine⟨?_,λi hi=>by rw[aZ (by simpa using hi)];simp[hi],λi r hr=>?_⟩
 ·rw[List.nodup_append]
  exact⟨List.nodup_range,h3,λx hx y hy=>by simp at hx;have:=h2 y hy;omega⟩
 ·by_cases bz:i<M
  ·rw[aZ (by simpa using bz)]at hr
   simp[bz]at hr
   exact .inl ⟨hr,bz⟩
  ·rw[List.getElem?_append_right (by simpa using bz)]at hr
   exact .inr (h2 r (fV hr))
theorem Tf{c0:Ctx}{c:Ctx}(hs:fw N M c0 w0 c w st a)(hex:AH M ex=true)(c6:nk ex M st.rows ex aj):
 (∀r row,c.R r=some row->¬c.V r->M<=r->c.base<=c.ρ r)/\Mem (c.out ex aj) w/\Aw c0 w0 (c.out ex aj) w:=by
 obtain⟨ly,hid,hinv⟩:=qaz hex
 obtain⟨hl,ja⟩:=Rk c6
 have hb1:c.base=c0.base:=hs.reach.cg.base
 have Dy:∀r row,c.R r=some row->¬c.V r->M<=r->c0.X (c.ρ r)\/w0.heap.size<=c.ρ r:=λr row h1 v h2=>by
  rcases hs.reach.oy r row h1 v with⟨⟨x,hx⟩,_⟩|h3
  ·have:=hs.gy r x hx;omega
  ·exact h3
 have fk:∀r row,c.R r=some row->¬c.V r->M<=r->c.base<=c.ρ r:=λr row h1 v h2=>by
  have:=hs.gh
  rcases Dy r row h1 v h2 with h|h
  ·have:=hs.reach.xb _ h;omega
  ·omega
 refine⟨fk,xay hs.mem hs.rows c6 fk ly,⟨hs.reach.cg.base,hs.reach.cg.top,λb iH=>?_,λr row hr=>?_⟩,hs.reach.fr,λb iH=>?_,λi p hp v=>?_,hs.reach.xb⟩
 ·obtain⟨h1,h2⟩:=hs.reach.cg.I b iH
  exact⟨.inl h1,h2⟩
 ·have bz:r<M:=hs.gy r row hr
  obtain⟨Fw,g1,g2,g3,g4,g5,g6,gV,g7⟩:=hs.reach.cg.R r row hr
  have hi:=hid r bz
  have nb:=(List.getElem?_eq_some_iff.1 hi).1
  have hp:aj[r]?=some aj[r]:=cG (by omega)
  rcases ja r r _ hi hp with⟨jC,k1,k2,k3,k4,k5⟩|⟨k1,_⟩
  ·have:jC=Fw:=by rw[hs.rows,k1]at g1;exact Option.some.inj g1
   subst this
   refine⟨_,hp,k2.symm.trans g2,k3.symm.trans g3,k4.symm.trans g4,?_,by simp[Ctx.out,hi,g6],by simp[Ctx.out,hi,g1,gV],g7⟩
   rw[<-g5]
   split at k5
   ·obtain⟨e,e',q1,q2,_⟩:=k5
    rw[q1,q2];rfl
   ·rw[k5]
  ·rw[hs.rows,k1]at g1;cases g1
 ·rcases iH with h1|⟨r,row,hr,hV,Ad,ho,rfl⟩
  ·exact hs.reach.fu b h1
  ·refine .inr ?_
   have:M<=r:=by
    by_cases bz:r<M
    ·exact(Zb9 ho (fV (hid r bz))).elim
    ·omega
   exact Dy r row hr hV this
 ·have Rl:aj[i]?=some p:=hp
  have bz:=(List.getElem?_eq_some_iff.1 Rl).1
  have hi:ex[i]?=some ex[i]:=cG (by omega)
  simp only[Ctx.out,hi,not_or]at v⊢
  obtain⟨v1,v2⟩:=v
  rcases ja i _ _ hi Rl with⟨jC,k1,k2,k3,k4,k5⟩|⟨k1,_⟩
  ·have H2:c.R ex[i]=some jC:=by rw[hs.rows];exact k1
   rcases hinv i _ hi with⟨h1,h2⟩|h1
   ·rcases hs.reach.oy _ _ H2 v2 with⟨h3,h4,h5⟩|h3
    ·left
     rw[<-h1]at h3 h4
     refine⟨h3,h4,h5.trans ?_⟩
     rw[<-h1]
    ·exact .inr h3
   ·exact .inr (Dy _ _ H2 v2 h1)
  ·exact(v1 (by rw[hs.rows];exact k1)).elim
theorem Xf:∀{env:List (Nat×D)} {t k:Nat},k∈Dk (look env t)->k∈AJ env
 |[],t,k,h=>by simp[look,Dk,Gb,Bj]at h
 |(u,d)::l,t,k,h=>by
  rw[Bx]at h
  simp only[AJ,bX]
  split at h
  ·exact .inl h
  ·exact .inr (Xf h)
theorem Xg:∀{R:Rows} {r:Nat} {x:Row} {k:Nat},R.getD r none=some x->k∈lr [x]->k∈GI R
 |some y::l,0,x,k,h,hk=>by
  simp at h;subst h
  simp only[GI,bX];exact .inl hk
 |none::l,0,x,k,h,hk=>by simp at h
 |y::l,r+1,x,k,h,hk=>by
  have:=Xg (R:=l) (r:=r) (by simpa[aK]using h) hk
  cases y<;>simp[GI,this]
 |[],r,x,k,h,_=>by simp[aK]at h
theorem VRep.toRep{c:Ctx}{d:D}(h:VRep c w d v):Rep c w d v:=by
 cases d<;>first|exact h|trivial|exact h.elim
theorem Rep.toVRep{c:Ctx}{d:D}(hv:d.isVal=true)(h:Rep c w d v):VRep c w d v:=by
 cases d<;>first|exact h|(simp[D.isVal]at hv)
theorem kp.length{c:Ctx}{w:World}:∀{ds:List D} {vs:List Value},kp c w ds vs->ds.length=vs.length
 |[],[],_=>rfl
 |_::_,_::_,h=>by simp[kp.length h.2]
 |[],_::_,h=>h.elim
 |_::_,[],h=>h.elim
theorem Z6h:∀{ds:List D} {i t:Nat},(∃j,t=i+j/\j<ds.length/\look (Gk ds i) t=ds.getD j .dead)\/look (Gk ds i) t=.dead
 |[],i,t=>.inr rfl
 |d ::ds,i,t=>by
  simp only[Gk,Bx]
  by_cases e:i=t
  ·left;exact⟨0,by omega,by simp,by rw[if_pos e];rfl⟩
  ·rw[if_neg e]
   rcases Z6h (ds:=ds) (i:=i+1) (t:=t)with⟨j,h1,h2,h3⟩|h
   ·left;exact⟨j+1,by omega,by simpa using h2,by simpa using h3⟩
   ·right;exact h
theorem Zp{c:Ctx}{ds:List D}(h:kp c w ds vs)(n t:Nat):Rep c w (look (Gk ds 0) t) ((vs.toArray++gK n undef).getD t undef):=by
 rcases Z6h (ds:=ds) (i:=0) (t:=t)with⟨j,h1,h2,h3⟩|h1
 ·obtain⟨v,hv,hr⟩:=Z7c h j h2
  rw[h3]
  have:t=j:=by omega
  subst this
  have hx:(vs.toArray++gK n undef).getD t undef=v:=by
   have bz:=(List.getElem?_eq_some_iff.1 hv).1
   have hvv:=(List.getElem?_eq_some_iff.1 hv).2
   simp[Array.getElem?_append,bz,hvv]
  rw[hx]
  exact hr.toRep
 ·rw[h1];trivial
theorem Zsd{t:TypeId}{x:D}{K:D->Rows->Prop}(h:Ah T t x R K){c:Ctx}(hr:Rep c w x v):∃a,v=.pointer (some a):=by
 unfold Ah at h
 split at h
 ·exact h.elim
 ·cases x<;>simp only at h
  case ptr r i off=>obtain⟨_,_,_,_,hv⟩:=hr;exact⟨_,hv⟩
  case pa r i off len k n=>obtain⟨_,_,_,_,_,hv⟩:=hr;exact⟨_,hv⟩
  case iv sz es i off=>obtain⟨_,_,_,_,_,hv,_⟩:=hr;exact⟨_,hv⟩
def M3(tmps:Array Value):ResultVar->Sem Value
 |.tmp t=>pure (tmps.getD t undef)
 |.cell a t=>do loadVar t (<-asAddr (tmps.getD a undef))
theorem Vv{P:Program}{T:iM}(hT:jD P T){R:Rows}{env:List (Nat×D)}:∀{l:List ResultVar} {K:List D->Prop},Gl T R env l K->
 ∃ds,K ds/\∀c w (tmps:Array Value),Mem c w->mV c R->(∀t,Rep c w (look env t) (tmps.getD t undef))->∃vs,(l.mapM (M3 tmps)).run P w=.ok vs w/\kp c w ds vs
 |[],K,h=>⟨[],h,λc w tmps _ _ _=>⟨[],rfl,trivial⟩⟩
 |.tmp t::l,K,h=>by
  simp only[Gl,D.cu,db]at h
  obtain⟨hv,h⟩:=h
  obtain⟨ds,hK,hr⟩:=Vv hT h
  refine⟨_,hK,λc w tmps hm hA he=>?_⟩
  obtain⟨vs,h1,h2⟩:=hr c w tmps hm hA he
  refine⟨tmps.getD t undef::vs,?_,(he t).toVRep hv,h2⟩
  simp only[gL,Sem.run_bind,M3,Sem.run_pure,Result.andThen_ok,h1]
 |.cell a t::l,K,h=>by
  simp only[Gl]at h
  obtain⟨val,Vw,DY⟩:=Zi hT h
  simp only[db]at Vw
  obtain⟨hv,Vw⟩:=Vw
  obtain⟨ds,hK,hr⟩:=Vv hT Vw
  refine⟨_,hK,λc w tmps hm hA he=>?_⟩
  obtain⟨vs,h1,h2⟩:=hr c w tmps hm hA he
  obtain⟨u,hu,hx⟩:=DY c w _ hm hA (he a)
  obtain⟨ad,had⟩:=Zsd h (he a)
  rw[had,Ve]at hu
  refine⟨u::vs,?_,hx.toVRep hv,h2⟩
  simp only[gL,Sem.run_bind,M3,had,asAddr,Sem.run_pure,Result.andThen_ok,hu,h1]
def Dz:List Value->Value
 |[v]=>v
 |vs=>.tuple vs.toArray
theorem Z4i{tmps:Array Value}(h:(fn.results.toList.mapM (M3 tmps)).run P w=.ok vs w):(results fn tmps).run P w=.ok (Dz vs) w:=by
 have h2:(fn.results.mapM (M3 tmps)).run P w=.ok vs.toArray w:=by
  rw[<-bS (xs:=fn.results),List.mapM_toArray]
  simp only[Sem.run_map,h,Result.andThen_ok]
 have h3:(results fn tmps)=(fn.results.mapM (M3 tmps))>>=λvs=>pure (if h:vs.size=1 then vs[0]else .tuple vs):=by
  unfold results
  congr 1
 rw[h3,Sem.run_bind,h2]
 simp only[Result.andThen_ok,Sem.run_pure]
 congr 1
 match vs with
 |[]=>rfl
 |[v]=>rfl
 |_::_::_=>rfl
theorem fw.NP{c0:Ctx}{c:Ctx}(hs:fw N M c0 w0 c w st a){b:Nat}(hb:w0.heap.size<=b){o o':Obj}(ho:w.heap[b]?=some o)(hc:∀arr ty fz,o≠.cells arr ty fz)
 {Fk:Nat->Prop} (gF:∀k ws v,Fk k->sw c w k ws v->sw {c with I:=λx=>c.I x/\x≠b} (w.putObj b o') k ws v) (hE:∀t,∀k∈Dk (look st.env t),Fk k) (hR:∀r x,c.R r=some x->∀k∈lr [x],Fk k) {ds:List Deferred} (hd:mo w0.heap.size (w.putObj b o') ds):
 fw N M c0 w0 {c with I:=λx=>c.I x/\x≠b} (w.putObj b o') st {a with defers:=ds}:=by
 have cq:∀r x,c.R r=some x->¬c.V r->c.ρ r≠b:=λr x hr hV e=>by
  rcases hs.mem.row r x hr with h|⟨_,arr,h,_⟩
  ·exact hV h.1
  ·rw[e,ho]at h;exact hc _ _ _ (Option.some.inj h)
 have hh:∀r x,c.R r=some x->¬c.V r->(w.putObj b o').heap[c.ρ r]?=w.heap[c.ρ r]? :=λr x hr hV=>World.putObj_heap_other (cq r x hr hV)
 have hg:J3 c w {c with I:=λx=>c.I x/\x≠b} (w.putObj b o'):=by
  refine⟨rfl,aO _,λx arr ty fz hI hx=>?_,λr x hr=>⟨x,hr,rfl,rfl,rfl,rfl,rfl,Iff.rfl,λhV arr ha=>⟨arr,(hh r x hr hV).trans ha,rfl⟩⟩⟩
  have gv:x≠b:=λe=>by subst e;rw[ho]at hx;exact hc _ _ _ (Option.some.inj hx)
  exact⟨⟨hI,gv⟩,(World.putObj_heap_other gv).trans hx⟩
 have jE:∀x,c0.I x->x≠b:=λx hx e=>by
  obtain⟨h1,h2⟩:=hs.reach.cg.I x hx
  have h3:=(hs.mem.fu x h1).1
  rw[e,ho]at h2
  have:=(Array.getElem?_eq_some_iff.1 h2.symm).1
  omega
 refine⟨Zfh hs.mem hg hh gF hR (λx hx=>⟨by simpa using(hs.mem.fu x hx.1).1,(hs.mem.fu x hx.1).2⟩) (by simp),hs.rows,λt=>Zoy hg gF (hE t) (hs.env t),hs.size,hd,hs.gh,hs.gy,?_⟩
 refine⟨⟨hs.reach.cg.base,hs.reach.cg.top,λx hx=>?_,λr row hr=>?_⟩,⟨hs.reach.fr.os,hs.reach.fr.tape,hs.reach.fr.output,by simpa using hs.reach.fr.size,λx hx hn=>?_⟩,λx hx=>hs.reach.fu x hx.1,hs.reach.oy,hs.reach.xb⟩
 ·obtain⟨h1,h2⟩:=hs.reach.cg.I x hx
  exact⟨⟨h1,jE x hx⟩,(World.putObj_heap_other (jE x hx)).trans h2⟩
 ·obtain⟨ao,h1,h2,h3,h4,h5,h6,hV,h7⟩:=hs.reach.cg.R r row hr
  refine⟨ao,h1,h2,h3,h4,h5,h6,hV,λnv arr ha=>?_⟩
  obtain⟨iQ,g1,g2⟩:=h7 nv arr ha
  refine⟨iQ,?_,g2⟩
  rw[World.putObj_heap_other]
  ·exact g1
  ·intro e;rw[e,ho]at g1;exact hc _ _ _ (Option.some.inj g1)
 ·rw[World.putObj_heap_other (by omega)];exact hs.reach.fr.heap x hx hn
theorem fw.edit{c0:Ctx}{c:Ctx}(hs:fw N M c0 w0 c w st a)(hI:c0.I l){rec:Loop}(ho:w0.heap[l]?=some (.loop rec))(DA:∀r x,c0.R r=some x->¬c0.V r->c0.ρ r≠l)
 (oW:sQ (AJ st.env++GI st.rows)=true):fw N M {c0 with I:=λx=>c0.I x/\x≠l} (w0.putObj l o') {c with I:=λx=>c.I x/\x≠l} (w.putObj l o') st a:=by
 have hl:w.heap[l]?=some (.loop rec):=(hs.reach.cg.I l hI).2.trans ho
 have Jad:=(Array.getElem?_eq_some_iff.1 ho).1
 have bz:=(Array.getElem?_eq_some_iff.1 hl).1
 have cq:∀r x,c.R r=some x->¬c.V r->c.ρ r≠l:=λr x hr hV=>(hs.mem.fu l (hs.reach.cg.I l hI).1).2 r x hr hV
 have hh:∀r x,c.R r=some x->¬c.V r->(w.putObj l o').heap[c.ρ r]?=w.heap[c.ρ r]? :=λr x hr hV=>World.putObj_heap_other (cq r x hr hV)
 have gF:∀k ws v,k<YB->sw c w k ws v->sw {c with I:=λx=>c.I x/\x≠l} (w.putObj l o') k ws v:=λk ws v hk hv=>by
  rcases hv with hv|⟨hv,_⟩
  ·exact .inl hv
  ·omega
 have hg:J3 c w {c with I:=λx=>c.I x/\x≠l} (w.putObj l o'):=by
  refine⟨rfl,aO _,λx arr ty fz hI hx=>?_,λr x hr=>⟨x,hr,rfl,rfl,rfl,rfl,rfl,Iff.rfl,λhV arr ha=>⟨arr,(hh r x hr hV).trans ha,rfl⟩⟩⟩
  have gv:x≠l:=λe=>by subst e;rw[hl]at hx;cases hx
  exact⟨⟨hI,gv⟩,(World.putObj_heap_other gv).trans hx⟩
 refine⟨Zfh hs.mem hg hh gF (λr x hr k hk=>NQ oW (gN _ (Xg (by rw[<-hs.rows];exact hr) hk))) (λx hx=>⟨by simpa using(hs.mem.fu x hx.1).1,(hs.mem.fu x hx.1).2⟩) (by simp),hs.rows,λt=>Zoy hg gF (λk hk=>NQ oW (gO _ (Xf hk))) (hs.env t),hs.size,?_,by simpa using hs.gh,hs.gy,?_⟩
 ·have:=hs.defers.to (w':=w.putObj l o') λb hb=>(World.putObj_heap_other λe=>by rw[e,hl]at hb;cases hb).trans hb
  simpa using this
 refine⟨⟨hs.reach.cg.base,hs.reach.cg.top,λx hx=>?_,λr row hr=>?_⟩,⟨hs.reach.fr.os,hs.reach.fr.tape,hs.reach.fr.output,by simpa using hs.reach.fr.size,λx hx hn=>?_⟩,λx hx=>?_,λr row hr hv=>?_,hs.reach.xb⟩
 ·obtain⟨h1,h2⟩:=hs.reach.cg.I x hx.1
  exact⟨⟨h1,hx.2⟩,(World.putObj_heap_other hx.2).trans (h2.trans (World.putObj_heap_other hx.2).symm)⟩
 ·obtain⟨ao,h1,h2,h3,h4,h5,h6,hV,h7⟩:=hs.reach.cg.R r row hr
  refine⟨ao,h1,h2,h3,h4,h5,h6,hV,λnv arr ha=>?_⟩
  rw[World.putObj_heap_other (DA r row hr nv)]at ha
  obtain⟨iQ,g1,g2⟩:=h7 nv arr ha
  refine⟨iQ,?_,g2⟩
  rw[World.putObj_heap_other]
  ·exact g1
  ·intro e;rw[e,hl]at g1;cases g1
 ·by_cases e:x=l
  ·subst e;rw[World.putObj_heap_same bz,World.putObj_heap_same Jad]
  ·rw[World.putObj_heap_other e,World.putObj_heap_other e]
   exact hs.reach.fr.heap x (by simpa using hx) hn
 ·rcases hs.reach.fu x hx.1 with g|g|g
  ·exact .inl ⟨g,hx.2⟩
  ·exact .inr (.inl g)
  ·exact .inr (.inr (by simpa using g))
 ·rcases hs.reach.oy r row hr hv with g|g|g
  ·exact .inl g
  ·exact .inr (.inl g)
  ·exact .inr (.inr (by simpa using g))
theorem leaves{P:Program}{fn:Func}{R:Ending->World->Prop}{N M:Nat}{c0:Ctx}{w0:World}{c:Ctx}{w:World}{st:St}{a:Act}(hs:fw N M c0 w0 c w st a)
 (h:∀c' w' a',a'.tmps=a.tmps->fw N M c0 w0 c' w' st a'->∃v,(results fn a'.tmps).run P w'=.ok v w'/\R (.returned v) w'):LeavesInM Fence.wide 0 P fn a.tmps R a.defers .returning w:=by
 obtain⟨bs,ly,EM,Vx⟩:=hs.defers
 revert c w a
 induction bs with
 |nil=>
  intro c w a hs h EM Vx
  rw[EM]
  obtain⟨v,h1,h2⟩:=h c w a rfl hs
  exact⟨v,h1,h2⟩
 |cons b bs ih=>
  intro c w a hs h EM Vx
  obtain⟨h1,h2⟩:=Vx b (by simp)
  rw[List.nodup_cons]at ly
  rw[EM]
  refine⟨by simp,.inl ⟨b,_,rfl,run_takeDeferred h2,?_⟩⟩
  have Rm:∀x∈bs,w0.heap.size<=x/\(w.putObj b (.deferred none)).heap[x]?=some (.deferred (some [])):=λx hx=>by
   obtain⟨g1,g2⟩:=Vx x (by simp[hx])
   exact⟨g1,(World.putObj_heap_other (λe=>ly.1 (by rw[<-e];exact hx))).trans g2⟩
  refine ih ly.2 (a:={a with defers:=bs.map λb=>({target:=.collected b,args:= #[]}:Deferred)}) (hs.NP h1 h2 (λ_ _ _ e=>by cases e) (Fk:=λ_=>True) (λk ws v _ hv=>?_) (λ_ _ _=>trivial) (λ_ _ _ _ _=>trivial) ⟨bs,ly.2,rfl,Rm⟩) h rfl Rm
  rcases hv with hv|⟨g1,l,rec,g2,g3,g4,g5⟩
  ·exact .inl hv
  ·have gv:l≠b:=λe=>by rw[e,h2]at g4;cases g4
   exact .inr ⟨g1,l,rec,g2,⟨g3,gv⟩,(World.putObj_heap_other gv).trans g4,g5⟩
theorem qaR(hD:sB P)(hT:jD P T)(hG:j5 P G)(hf:P.funcs[f]?=some fn)
 {rf:Option Nat} (nA:∀code,fn.body=some code->RF rf fn.ntmps code) {L:Code->St->(Ex->St->Prop)->Prop} (hL:∀code st Q,RF rf fn.ntmps code->L code st Q->Tr P fn.ntmps rows.length code st Q) {Q0:D->Rows->Prop} (DB:∀d R,Q0 d R->AN rows.length res aj d R) (h:nD T G L fn args rows Q0):kr P f args rows res aj:=by
 intro c w vs hm jm hR gb
 unfold nD at h
 split at h
 ·rename_i code hb
  have hs:fw fn.ntmps rows.length {c with X:=λ_=>False} w c w ⟨Gk args 0,rows.map some⟩ {tmps:=vs.toArray++gK (fn.ntmps-vs.toArray.size) undef,defers:=[]}:=
   ⟨hm,λr=>by
    rw[hR]
    simp only[aK,fM]
    cases rows[r]? <;>rfl,λt=>Zp gb _ t,by simp;omega,mo.nil,Nat.le_of_eq jm,λr row h=>by have h:c.R r=some row:=h;rw[hR]at h;exact(List.getElem?_eq_some_iff.1 h).1,Aw.refl c w⟩
  refine callsIn_wide.1 (callsIn_of_wp_marks (F:=Fence.wide) (n:=0) hf hb trivial (wpIn_mono (NR (ro:=none) hD hT hG (NS rf fn.ntmps) hL code _ _ (nA _ hb) h _ w c w _ hs) λe a' w' hq=>?_))
  obtain⟨ex,st,c1,he,hq,mW⟩:=hq
  have fin:(Gl T st.rows st.env fn.results.toList λds=>match ds with|[d]=>Q0 d st.rows|ds=>Q0 (.dt ds) st.rows)->
   LeavesInM Fence.wide 0 P fn a'.tmps (λe w'=>∃v' c',e=.returned v'/\lY c w c' w'/\(∀r,c'.R r=aj[r]?)/\Rep c' w' res v') a'.defers .returning w':=by
   intro lg
   refine leaves mW λc1 w' a' jG mW=>?_
   obtain⟨ds,hK,hr⟩:=Vv hT lg
   have pn:mV c1 st.rows:=λr row ao h1 h2=>by rw[mW.rows,h2]at h1;exact(Option.some.inj h1).symm
   obtain⟨us,il,DC⟩:=hr c1 w' a'.tmps mW.mem pn mW.env
   have tw:=Z4i il
   obtain⟨d,v,Kc,hv,oL⟩:∃d v,AN rows.length res aj d st.rows/\Dz us=v/\Rep c1 w' d v:=by
    match ds,us,DC with
    |[d],[u],hx=>exact⟨d,u,DB _ _ hK,rfl,hx.1.toRep⟩
    |[],[],hx=>exact⟨.dt [],_,DB _ _ hK,rfl,[],rfl,trivial⟩
    |d::e::ds,u::v::us,hx=>exact⟨.dt (d::e::ds),_,DB _ _ hK,rfl,_,rfl,hx⟩
    |[],_::_,hx=>exact hx.elim
    |[_],[],hx=>exact hx.elim
    |[_],_::_::_,hx=>exact hx.2.elim
    |_::_::_,[],hx=>exact hx.elim
    |_::_::_,[_],hx=>exact hx.2.elim
   rw[hv]at tw
   obtain⟨ex,hex,hd,c6⟩:=Kc
   obtain⟨fk,gz,gg⟩:=Tf mW hex c6
   exact⟨v,tw,v,c1.out _ aj,rfl,⟨gz,⟨gg.cg.base,gg.cg.top,gg.cg.I,gg.cg.R⟩,gg.fr.mono (λb _ hb=>hb.elim id False.elim),λb hb=>(gg.fu b hb).imp id (λh=>h.elim False.elim id),λr ao h1 h2=>(gg.oy r ao h1 h2).imp id (λh=>h.elim False.elim id)⟩,λr=>rfl,Te mW.mem mW.rows c6 fk hd oL⟩
  cases e<;>simp only[nd,Option.some.injEq,reduceCtorEq]at he
  ·subst he;exact fin hq
  ·subst he;exact hq.elim
  ·subst he;exact fin hq
 ·exact h.elim
theorem zab{c:Ctx}{c':Ctx}{w':World}(gz:Mem c' w')(gg:Aw {c.kill (bK k (rows.length-k))with X:=λb=>∃s row,cf s (bK k (rows.length-k))=true/\c.R s=some row/\¬c.V s/\c.ρ s=b} w c' w'):
 jJ (bK k (rows.length-k)) c w c' w':=by
 refine⟨gz,⟨gg.cg.base,gg.cg.top,gg.cg.I,gg.cg.R⟩,gg.fr.mono (λb _ hb=>?_),λb hb=>gg.fu b hb,λr ao h1 h2=>?_⟩
 ·rcases hb with⟨r,x,h1,h2,h3⟩|⟨r,x,_,h1,h2,h3⟩
  ·obtain⟨_,row,g1,_⟩:=Q3 (c:=c) (ks:=bK k (rows.length-k)) h1
   exact⟨r,row,g1,h2,h3⟩
  ·exact⟨r,x,h1,h2,h3⟩
 ·rcases gg.oy r ao h1 h2 with⟨⟨x,g1⟩,g2,g3⟩|⟨s,x,q1,q2,q3,q4⟩|g
  ·obtain⟨_,row,p1,_⟩:=Q3 (c:=c) (ks:=bK k (rows.length-k)) g1
   exact .inl ⟨⟨row,p1⟩,g2,g3⟩
  ·exact .inr (.inl ⟨s,x,q1,q2,q3,q4.symm⟩)
  ·exact .inr (.inr g)
theorem Zog:∀{rows:List Row} {r:Nat} {x:Row} {k:Nat},rows[r]?=some x->k∈lr [x]->k∈lr rows
 |y::l,0,x,k,h,hk=>by
  simp at h;subst h
  unfold lr at hk⊢
  split<;>simp_all [lr]
 |y::l,r+1,x,k,h,hk=>by
  have:=Zog (rows:=l) (by simpa using h) hk
  unfold lr
  split<;>simp_all
 |[],r,x,k,h,_=>by simp at h
theorem Zq{c:Ctx}{w:World}{tm ph:Array Value}:∀{ts:List Nat} {ds:List D},kp c w ds (ts.map λt=>tm.getD t undef)->(∀t∈ts,ph.getD t undef=tm.getD t undef)->∀t,Rep c w (look (oP ts ds) t) (ph.getD t undef)
 |[],ds,_,_,t=>by cases ds<;>trivial
 |u::ts,[],h,_,t=>h.elim
 |u::ts,d::ds,h,ht,t=>by
  simp only[oP,Bx]
  split
  ·rename_i e;rw[<-e,ht u (by simp)];exact h.1.toRep
  ·exact Zq h.2 (λt h=>ht t (by simp[h])) t
theorem qy{F:Fence}{y:YK}(hd:y.pos=some d){x:Value}(hn:y.n<=tm.size){K:Act->World->Prop}
 (hK:∀ph,ph.size=tm.size->ph.getD d undef=x->(∀t∈y.ts,ph.getD t undef=tm.getD t undef)->K {tmps:=ph,defers:=[]} w):
 y.assign.wpIn (BA (some l)) 0 P (Exit.then K λ_ _ _=>False) {tmps:=(y.ps.zip #[x]).foldl (λtmps (t,a)=>tmps.setIfInBounds t a) tm,defers:=[]} w:=by
 have cy:∀(p:Nat) (Kd:Array Value) (t:Nat),t≠p->(Kd.setIfInBounds p x).getD t undef=Kd.getD t undef:=λp Kd t h=>by
  simp[aF,aQ (Ne.symm h)]
 have here:∀(p:Nat) (Kd:Array Value),p<Kd.size->(Kd.setIfInBounds p x).getD p undef=x:=λp Kd h=>by
  simp[aF,h]
 unfold YK.pos at hd
 split at hd
 ·rename_i p mr has
  have mr:y.ps= #[p]:=by rw[<-bS (xs:=y.ps),mr]
  split at hd
  ·rename_i hc
   cases hd
   simp only[aE,gP,aS]at hc
   have hp:d<tm.size:=bI (lE hc.1) hn
   rw[has,mr]
   refine wpIn_skip (hK _ (by simp) ?_ λt ht=>?_)
   ·simpa using here d tm hp
   ·have:=cy d tm t (λe=>by have:=(hc.2 t ht).1;rw[e]at this;simp at this)
    simpa using this
  ·cases hd
 ·rename_i p id ops mr has
  have mr:y.ps= #[p]:=by rw[<-bS (xs:=y.ps),mr]
  split at hd
  ·rename_i e q ty po af DD
   have DD:ops= #[⟨some e,.assign (.tmp q),ty,po,af,none⟩]:=by rw[<-bS (xs:=ops),DD]
   split at hd
   ·rename_i hc
    cases hd
    simp only[aE,gP,aS]at hc
    obtain⟨⟨hq,hp,hd⟩,Fo⟩:=hc
    have hq:=bE hq
    subst hq
    have hp:q<tm.size:=bI (lE hp) hn
    have hd:d<tm.size:=bI (lE hd) hn
    rw[has,mr,DD]
    refine Zjv ?_
    show wpOp P _ _ 0 _ _ _
    unfold wpOp
    simp only[List.getElem?_toArray,List.getElem?_cons_zero]
    rw[if_pos (by simp[Region.wanted])]
    refine Qk (u:=x) (w':=w) ?_ ?_
    ·have:(tm.setIfInBounds q x).getD q undef=x:=here q tm hp
     simp only[execOp,Act.eval]
     simp[aF,hp]
    ·show K {tmps:=Array.setIfInBounds _ d x,defers:=[]} w
     refine hK _ (by simp) ?_ λt ht=>?_
     ·exact here d _ (by simpa using hd)
     ·have h1:=(Fo t ht).1
      rw[cy d _ t (λh=>by rw[h]at h1;simp at h1)]
      have:=cy q tm t (λh=>by rw[h]at h1;simp at h1)
      simpa using this
   ·cases hd
  ·cases hd
 ·cases hd
inductive we(P:Program)(f:FuncId)(fn:Func)(cl:Prop):Prop where
 |real (h:f<YB) (hf:P.funcs[f]?=some fn) (hb:gQ YB fn.nfree=false)
 |yield (h:YB<=f) (y:YK) (d:Nat) (hy:Gj f=some y) (hd:y.pos=some d) (hb:fn.body=some y.body) (hn:gQ YB fn.nfree=true) (Rn:bT fn.nfree YB=true) (hp:fn.params.toList=d::y.ts) (ht:fn.ntmps=y.n) (hc:cl)
 |wg (h:YB<=f) (y:YK) (q:Nat) (hy:Gj f=some y) (mr:y.ps= #[q]) (hq:(Nat.blt q y.n&&y.ts.all λt=>!(bT t q))=true) (hb:fn.body=some (.seq y.assign y.body)) (hn:gQ YB fn.nfree=true) (Rn:bT fn.nfree YB=false) (hp:fn.params.toList=q::y.ts) (ht:fn.ntmps=y.n) (hc:cl)
theorem Ke{c:Ctx}{env:List (Nat×D)}(hm:Mem c w)(jm:c.base=0)(hR:∀r,c.R r=rows[r]?)(tz:∀t,Rep c w (look env t) (tm.getD t undef))(fy:N<=tm.size):
 fw N k {c.kill (bK k (rows.length-k))with X:=λb=>∃s row,cf s (bK k (rows.length-k))=true/\c.R s=some row/\¬c.V s/\c.ρ s=b} w c w ⟨env,rows.map some⟩ {tmps:=tm,defers:=[]}:=by
 refine⟨hm,λr=>by
  rw[hR]
  simp only[aK,fM]
  cases rows[r]? <;>rfl,tz,fy,mo.nil,by simp[Ctx.kill,jm],λr row h=>?_,⟨⟨rfl,aO _,λ_ h=>⟨h,rfl⟩,λr x hx=>?_⟩,Fr.refl _ w,λ_ h=>.inl h,λr row hr hv=>?_,λ_ _=>by simp[Ctx.kill,jm]⟩⟩
 ·obtain⟨h1,ao,h2,_⟩:=Q3 (c:=c) (ks:=bK k (rows.length-k)) h
  rw[hR]at h2
  have bz:=(List.getElem?_eq_some_iff.1 h2).1
  by_cases hk:r<k
  ·exact hk
  ·rw[ML.2 (by omega)]at h1;cases h1
 ·obtain⟨_,row,h2,rfl⟩:=Q3 (c:=c) (ks:=bK k (rows.length-k)) hx
  obtain⟨s1,s2,s3,s4⟩:=wJ (bK k (rows.length-k)) row
  exact⟨row,h2,s1.symm,s2.symm,s3.symm,s4.symm,rfl,Iff.rfl,λ_ arr ha=>⟨arr,by rw[s2]at ha⊢;exact ha,rfl⟩⟩
 ·cases hb:cf r (bK k (rows.length-k))with
  |true=>exact .inr (.inl ⟨r,row,hb,hr,hv,rfl⟩)
  |false=>exact .inl ⟨⟨row.kill (bK k (rows.length-k)),by simp[Ctx.kill,hb,hr]⟩,hv,rfl⟩
theorem Zkh{c:Ctx}{tm ph:Array Value}{ps:List Nat}{ts:List Nat}(DE:ps=d::ts){vs us:List Value}{x:Value}(Cj:vs=[x]++us)(Ab:us=ts.map λt=>tm.getD t undef)(gb:kp c w args vs)(hx:ph.getD d undef=x)(Fo:∀t∈ts,ph.getD t undef=tm.getD t undef):
 ∀t,Rep c w (look (oP ps args) t) (ph.getD t undef):=by
 subst DE
 subst Cj
 match args,gb with
 |[],hx=>exact hx.elim
 |A::As,⟨hA,hAs⟩=>
  intro t
  simp only[oP,Bx]
  split
  ·rename_i e;rw[<-e,hx];exact hA.toRep
  ·exact Zq (by rw[Ab]at hAs;exact hAs) Fo t
theorem Zbw(hD:sB P)(hT:jD P T)(hG:j5 P G){n k:Nat}{L:Code->St->(Ex->St->Prop)->Prop}(hL:∀ro code st Q,L code st Q->ui ro P n k code st Q){Q0:D->Rows->Prop}(DB:∀d R,Q0 d R->AN k res aj d R)
 {c:Ctx} {w:World} {l:Nat} {rec:Loop} (hm:Mem c w) (hI:c.I l) (hl:w.heap[l]?=some (.loop rec)) (jZ:rec.state=.ready) (Ed:rec.pending=none) {st:St} {c2:Ctx} {w2:World} {a:Act}
 (hs:fw n k {({c with I:=λb=>c.I b/\b≠l}:Ctx).kill (bK k (rows.length-k))with X:=λb=>∃s row,cf s (bK k (rows.length-k))=true/\c.R s=some row/\¬c.V s/\c.ρ s=b} (w.putObj l (.loop {rec with state:=.busy})) c2 w2 st a)
 (h:px T G n k L code st λe st=>match e with|.normal=>Q0 (.bool true) st.rows|_=>False):
 code.wpIn (BA (some l)) 0 P (roundPost P l λe w'=>∃v' c',e=.returned v'/\jJ (bK k (rows.length-k)) c w c' w'/\(∀r,c'.R r=aj[r]?)/\Rep c' w' res v') a w2:=by
 have bz:=(Array.getElem?_eq_some_iff.1 hl).1
 obtain⟨ĉ,hĉ⟩:∃ĉ:Ctx,ĉ={c with I:=λb=>c.I b/\b≠l}:=⟨_,rfl⟩
 obtain⟨wb,Kf⟩:∃wb,wb=w.putObj l (.loop {rec with state:=.busy}):=⟨_,rfl⟩
 have cq:∀r x,c.R r=some x->¬c.V r->c.ρ r≠l:=λr x hr hV=>(hm.fu l hI).2 r x hr hV
 have Kg:∀b,b≠l->wb.heap[b]?=w.heap[b]? :=λb hb=>by rw[Kf];exact World.putObj_heap_other hb
 have h2l:wb.heap[l]?=some (.loop {rec with state:=.busy}):=by rw[Kf];exact World.putObj_heap_same bz
 have Gm:wb.heap.size=w.heap.size:=by rw[Kf];simp
 have hs:fw n k {ĉ.kill (bK k (rows.length-k))with X:=λb=>∃s row,cf s (bK k (rows.length-k))=true/\ĉ.R s=some row/\¬ĉ.V s/\ĉ.ρ s=b} wb c2 w2 st a:=by rw[hĉ,Kf];exact hs
 refine wpIn_mono (NR (ro:=some l) hD hT hG (NS none n) (λcode st Q _ hl=>hL (some l) code st Q hl) code _ _ trivial h _ wb c2 w2 _ hs) λe a' w3 hq=>?_
 obtain⟨ex,st,c1,he,hq,mW⟩:=hq
 cases e<;>simp only[nd,Option.some.injEq,reduceCtorEq]at he<;>subst he
 rotate_left
 ·exact hq.elim
 ·exact hq.elim
 obtain⟨ex,hex,tA,c6⟩:=DB _ _ hq
 obtain⟨fk,gz,gg⟩:=Tf mW hex c6
 have hX:¬({ĉ.kill (bK k (rows.length-k))with X:=λb=>∃s row,cf s (bK k (rows.length-k))=true/\ĉ.R s=some row/\¬ĉ.V s/\ĉ.ρ s=b}:Ctx).X l:=fun⟨s,row,_,g1,g2,g3⟩=>by
  rw[hĉ]at g1 g2 g3;exact cq s row g1 g2 g3
 have h3l:w3.heap[l]?=some (.loop {rec with state:=.busy}):=by
  refine(mW.reach.fr.heap l (by rw[Gm];exact bz) λhx=>?_).trans h2l
  rcases hx with⟨r,row,g1,g2,g3⟩|hx
  ·obtain⟨_,ao,g4,_⟩:=Q3 (c:=ĉ) g1
   rw[hĉ]at g2 g3 g4;exact cq r ao g4 g2 g3
  ·exact hX hx
 have IT:=(Array.getElem?_eq_some_iff.1 h3l).1
 have Fq:=run_endRound (P:=P) none h3l
 refine⟨_,_,Fq,_,{c1.out ex aj with I:=λb=>(c1.out ex aj).I b\/b=l},rfl,?_⟩
 have Ro:({({rec with state:=.busy}:Loop)with state:=if(none:Option Code).isNone then .ready else .done,pending:=none}:Loop)=rec:=by
  cases rec;simp only at jZ Ed;subst jZ;subst Ed;rfl
 rw[Ro]
 have nl:¬(c1.out ex aj).I l:=λhx=>by
  rcases gg.fu l hx with h|h|h
  ·obtain⟨h,_⟩:ĉ.I l/\True:=⟨h,trivial⟩
   rw[hĉ]at h;exact h.2 rfl
  ·exact hX h
  ·rw[Gm]at h;omega
 have DF:∀r x,(c1.out ex aj).R r=some x->¬(c1.out ex aj).V r->(c1.out ex aj).ρ r≠l:=λr x hr hV e=>by
  rcases gz.row r x hr with g|⟨_,arr,g,_⟩
  ·exact hV g.1
  ·rw[e,h3l]at g;cases g
 have M4:∀b,b≠l->(w3.putObj l (.loop rec)).heap[b]?=w3.heap[b]? :=λb hb=>World.putObj_heap_other hb
 have wN:jn (c1.out ex aj) w3 {c1.out ex aj with I:=λb=>(c1.out ex aj).I b\/b=l} (w3.putObj l (.loop rec)):=
  ⟨rfl,aO _,λb hb=>⟨.inl hb,M4 b (λe=>nl (by rw[<-e];exact hb))⟩,λr x hr=>⟨x,hr,rfl,rfl,rfl,rfl,rfl,Iff.rfl,λhV arr ha=>⟨arr,(M4 _ (DF r x hr hV)).trans ha,rfl⟩⟩⟩
 have hN:=zab gz gg
 refine⟨⟨⟨λr x hr=>um wN rfl Iff.rfl (λnv=>M4 _ (DF r x hr nv)) (gz.row r x hr),gz.inj,λb hb=>?_,by simpa using gz.top,gz.kY.mono wN.I⟩,⟨?_,?_,λb hb=>?_,λr x hr=>?_⟩,⟨?_,?_,?_,?_,λb hb hn=>?_⟩,λb hb=>?_,λr row hr hv=>?_⟩,λr=>rfl,Ax wN (Te mW.mem mW.rows c6 fk tA rfl)⟩
 ·rcases hb with hb|hb
  ·simpa using gz.fu b hb
  ·subst hb;exact⟨by simpa using IT,λr x hr hV=>DF r x hr hV⟩
 ·have:=hN.cg.base;rw[hĉ]at this;exact this
 ·have:=hN.cg.top;rw[hĉ]at this;exact this
 ·by_cases e:b=l
  ·subst e;exact⟨.inr rfl,by rw[World.putObj_heap_same IT,hl]⟩
  ·have:=hN.cg.I b (by rw[hĉ];exact⟨hb,e⟩)
   exact⟨.inl this.1,(M4 b e).trans (this.2.trans (Kg b e))⟩
 ·have:=hN.cg.R r x (by rw[hĉ];exact hr)
  obtain⟨x',g1,g2,g3,g4,g5,g6,gV,g7⟩:=this
  rw[hĉ]at g6 gV g7
  refine⟨x',g1,g2,g3,g4,g5,g6,gV,λhV arr ha=>?_⟩
  obtain⟨_,x0,q1,_⟩:=Q3 (c:=c) hr
  have gv:c.ρ r≠l:=cq r x0 q1 hV
  obtain⟨iQ,k1,k2⟩:=g7 hV arr ((Kg _ gv).trans ha)
  exact⟨iQ,(M4 _ gv).trans k1,k2⟩
 ·rw[Kf]at hN;exact hN.fr.os
 ·rw[Kf]at hN;exact hN.fr.tape
 ·rw[Kf]at hN;exact hN.fr.output
 ·have:=hN.fr.size;rw[Gm]at this;simpa using this
 ·by_cases e:b=l
  ·subst e;rw[World.putObj_heap_same IT,hl]
  ·rw[M4 b e,hN.fr.heap b (by rw[Gm];exact hb) (by rw[hĉ];exact hn),Kg b e]
 ·rcases hb with hb|hb
  ·rcases hN.fu b hb with g|g|g
   ·rw[hĉ]at g;exact .inl g.1
   ·rw[hĉ]at g;exact .inr (.inl g)
   ·rw[Gm]at g;exact .inr (.inr g)
  ·subst hb;exact .inl hI
 ·rcases hN.oy r row hr hv with g|g|g
  ·rw[hĉ]at g;exact .inl g
  ·rw[hĉ]at g;exact .inr (.inl g)
  ·rw[Gm]at g;exact .inr (.inr g)
theorem zaR(hD:sB P)(hT:jD P T)(hG:j5 P G){rf:Option Nat}(hf:we P f fn (sQ (pN args++lr rows)=true/\rf=none))(nA:∀code,fn.body=some code->RF rf fn.ntmps code)
 {L:Code->St->(Ex->St->Prop)->Prop} (hL:∀ro,(ro=none\/rf=none)->∀code st Q,RF rf fn.ntmps code->L code st Q->ui ro P fn.ntmps k code st Q) {Q0:D->Rows->Prop} (DB:∀d R,Q0 d R->AN k res aj d R) (h:Kh T G L fn args rows Q0 k):sV P f k args rows res aj:=by
 intro c w vs hm jm hR gb
 unfold Kh at h
 split at h
 rotate_left
 ·exact h.elim
 rename_i code hb
 cases hf with
 |real bz hf pL=>
  simp only[pL]at h
  refine⟨λ_=>?_,λpV=>absurd bz (Nat.not_lt.2 pV)⟩
  have hs:=Ke (N:=fn.ntmps) (k:=k) (env:=Gk args 0) (tm:=vs.toArray++gK (fn.ntmps-vs.toArray.size) undef) hm jm hR (λt=>Zp gb _ t) (by simp;omega)
  refine callsIn_wide.1 (callsIn_of_wp_marks (F:=Fence.wide) (n:=0) hf hb trivial (wpIn_mono (NR (ro:=none) hD hT hG (NS rf fn.ntmps) (hL none (.inl rfl)) code _ _ (nA _ hb) h _ w c w _ hs) λe a' w' hq=>?_))
  obtain⟨ex,st,c1,he,hq,mW⟩:=hq
  have fin:(Gl T st.rows st.env fn.results.toList λds=>match ds with|[d]=>Q0 d st.rows|ds=>Q0 (.dt ds) st.rows)->
   LeavesInM Fence.wide 0 P fn a'.tmps (λe w'=>∃v' c',e=.returned v'/\jJ (bK k (rows.length-k)) c w c' w'/\(∀r,c'.R r=aj[r]?)/\Rep c' w' res v') a'.defers .returning w':=by
   intro lg
   refine leaves mW λc1 w' a' jG mW=>?_
   obtain⟨ds,hK,hr⟩:=Vv hT lg
   have pn:mV c1 st.rows:=λr row ao h1 h2=>by rw[mW.rows,h2]at h1;exact(Option.some.inj h1).symm
   obtain⟨us,il,DC⟩:=hr c1 w' a'.tmps mW.mem pn mW.env
   have tw:=Z4i il
   obtain⟨d,v,Kc,hv,oL⟩:∃d v,AN k res aj d st.rows/\Dz us=v/\Rep c1 w' d v:=by
    match ds,us,DC with
    |[d],[u],hx=>exact⟨d,u,DB _ _ hK,rfl,hx.1.toRep⟩
    |[],[],hx=>exact⟨.dt [],_,DB _ _ hK,rfl,[],rfl,trivial⟩
    |d::e::ds,u::v::us,hx=>exact⟨.dt (d::e::ds),_,DB _ _ hK,rfl,_,rfl,hx⟩
    |[],_::_,hx=>exact hx.elim
    |[_],[],hx=>exact hx.elim
    |[_],_::_::_,hx=>exact hx.2.elim
    |_::_::_,[],hx=>exact hx.elim
    |_::_::_,[_],hx=>exact hx.2.elim
   rw[hv]at tw
   obtain⟨ex,hex,hd,c6⟩:=Kc
   obtain⟨fk,gz,gg⟩:=Tf mW hex c6
   refine⟨v,tw,v,c1.out _ aj,rfl,zab gz gg,λr=>rfl,Te mW.mem mW.rows c6 fk hd oL⟩
  cases e<;>simp only[nd,Option.some.injEq,reduceCtorEq]at he
  ·subst he;exact fin hq
  ·subst he;exact hq.elim
  ·subst he;exact fin hq
 |yield pV y d hy hd uY hnf Ki DE hnt hc=>
  simp only[hnf,Ki]at h
  obtain⟨oW,Kj⟩:=hc
  rw[uY]at hb
  cases hb
  refine⟨λbz=>absurd bz (Nat.not_lt.2 pV),λ_ l rec xs us Cj hI hl nh jb=>?_⟩
  obtain⟨jZ,Ed,y',AB,mr,has,hbo,Rp,h1,Ab⟩:=nh
  rw[hy]at AB;cases AB
  obtain⟨x,rfl⟩:∃x,xs=[x]:=by
   match xs,jb with
   |[x],_=>exact⟨x,rfl⟩
  rw[mr,has,hbo]
  have real:∀k,k∈pN args++lr rows->k<YB:=λk hk=>NQ oW hk
  have bz:=(Array.getElem?_eq_some_iff.1 hl).1
  have mI:∀arr ty fz,(Obj.loop rec)≠.cells arr ty fz:=λ_ _ _ e=>by cases e
  obtain⟨ĉ,hĉ⟩:∃ĉ:Ctx,ĉ={c with I:=λb=>c.I b/\b≠l}:=⟨_,rfl⟩
  obtain⟨w2,Rq⟩:∃w2,w2=w.putObj l (.loop {rec with state:=.busy}):=⟨_,rfl⟩
  have cq:∀r x,c.R r=some x->¬c.V r->c.ρ r≠l:=λr x hr hV=>(hm.fu l hI).2 r x hr hV
  have Kg:∀b,b≠l->w2.heap[b]?=w.heap[b]? :=λb hb=>by rw[Rq];exact World.putObj_heap_other hb
  have h2l:w2.heap[l]?=some (.loop {rec with state:=.busy}):=by rw[Rq];exact World.putObj_heap_same bz
  have Gm:w2.heap.size=w.heap.size:=by rw[Rq];simp
  have hg:J3 c w ĉ w2:=by
   rw[hĉ]
   refine⟨rfl,aO _,λb arr ty fz iH hb=>?_,λr x hr=>⟨x,hr,rfl,rfl,rfl,rfl,rfl,Iff.rfl,λhV arr ha=>⟨arr,(Kg _ (cq r x hr hV)).trans ha,rfl⟩⟩⟩
   have gv:b≠l:=λe=>by subst e;rw[hl]at hb;cases hb
   exact⟨⟨iH,gv⟩,(Kg b gv).trans hb⟩
  have gF:∀k ws v,k<YB->sw c w k ws v->sw ĉ w2 k ws v:=λk ws v hk hv=>by
   rcases hv with hv|⟨hv,_⟩
   ·exact .inl hv
   ·omega
  have Cn:Mem ĉ w2:=by
   rw[hĉ]at hg gF⊢
   refine Zfh hm hg (λr x hr hV=>Kg _ (cq r x hr hV)) (Fk:=λk=>k<YB) gF (λr x hr k hk=>real k ?_) (λb hb=>⟨by rw[Gm];exact(hm.fu b hb.1).1,(hm.fu b hb.1).2⟩) (by rw[Gm];exact aO _)
   rw[hR]at hr
   exact gN _ (Zog hr hk)
  have Kk:kp ĉ w2 args vs:=Qyy hg (Fk:=λk=>k<YB) gF (λk hk=>real k (gO _ hk)) gb
  refine roundIn_of_wpIn (F:=Fence.wide) (n:=0) trivial (qy (F:=Fence.wide) hd (tm:=rec.tmps) Rp λph fy hx Fo=>?_)
  refine⟨w2,by rw[Rq];exact run_beginRound hl jZ,?_⟩
  have tz:∀t,Rep ĉ w2 (look (oP fn.params.toList args) t) (ph.getD t undef):=Zkh DE Cj Ab Kk hx Fo
  have hs:=Ke (N:=fn.ntmps) (k:=k) (env:=oP fn.params.toList args) (tm:=ph) Cn (by rw[hĉ];exact jm) (by rw[hĉ];exact hR) tz (by rw[fy,hnt];exact Rp)
  subst Kj
  subst Rq
  subst hĉ
  exact Zbw hD hT hG (λro code st Q hl=>hL ro (.inr rfl) code st Q trivial hl) DB hm hI hl jZ Ed hs h
 |wg pV y q hy mr hq uY hnf Ki DE hnt hc=>
  simp only[hnf,Ki]at h
  obtain⟨oW,Kj⟩:=hc
  subst Kj
  rw[uY]at hb
  cases hb
  simp only at h
  refine⟨λbz=>absurd bz (Nat.not_lt.2 pV),λ_ l rec xs us Cj hI hl nh jb=>?_⟩
  obtain⟨jZ,Ed,y',AB,Jae,has,hbo,Rp,h1,Ab⟩:=nh
  rw[hy]at AB;cases AB
  obtain⟨x,rfl⟩:∃x,xs=[x]:=by
   match xs,jb with
   |[x],_=>exact⟨x,rfl⟩
  rw[Jae,has,hbo]
  obtain⟨ph,Vy⟩:∃ph,ph=rec.tmps.setIfInBounds q x:=⟨_,rfl⟩
  have hz:((y.ps.zip [x].toArray).foldl (λtmps (t,a)=>tmps.setIfInBounds t a) rec.tmps)=ph:=by rw[mr,Vy];simp
  rw[hz]
  simp only[aE,gP,aS]at hq
  have hqs:q<rec.tmps.size:=bI (lE hq.1) Rp
  have hx:ph.getD q undef=x:=by rw[Vy];simp[aF,hqs]
  have Fo:∀t∈y.ts,ph.getD t undef=rec.tmps.getD t undef:=λt ht=>by
   have gv:q≠t:=λe=>by have:=hq.2 t ht;rw[e]at this;simp at this
   rw[Vy];simp[aF,aQ gv]
  have tz:∀t,Rep c w (look (oP fn.params.toList args) t) (ph.getD t undef):=Zkh DE Cj Ab gb hx Fo
  have hs:=Ke (N:=fn.ntmps) (k:=k) (env:=oP fn.params.toList args) (tm:=ph) hm jm hR tz (by rw[Vy,hnt];simpa using Rp)
  refine roundIn_of_wpIn (F:=Fence.wide) (n:=0) trivial (wpIn_mono (NR (ro:=some l) hD hT hG (NS none fn.ntmps) (λcode st Q _ hl=>hL (some l) (.inr rfl) code st Q trivial hl) y.assign _ _ trivial h _ w c w _ hs) λe a1 w1 hq=>?_)
  obtain⟨ex,st1,c1,he,hq,mW⟩:=hq
  cases e<;>simp only[nd,Option.some.injEq,reduceCtorEq]at he<;>subst he
  rotate_left
  ·exact hq.elim
  ·exact hq.elim
  simp only[db]at hq
  obtain⟨Jaf,hq⟩:=hq
  have Tj:w1.heap[l]?=some (.loop rec):=(mW.reach.cg.I l hI).2.trans hl
  have cq:∀r x,(c.kill (bK k (rows.length-k))).R r=some x->¬c.V r->c.ρ r≠l:=λr x hr hV=>by
   obtain⟨_,x0,q1,_⟩:=Q3 (c:=c) hr
   exact(hm.fu l hI).2 r x0 q1 hV
  exact⟨_,run_beginRound Tj jZ,Zbw hD hT hG (λro code st Q hl=>hL ro (.inr rfl) code st Q trivial hl) DB hm hI hl jZ Ed (mW.edit hI hl cq Jaf) hq⟩

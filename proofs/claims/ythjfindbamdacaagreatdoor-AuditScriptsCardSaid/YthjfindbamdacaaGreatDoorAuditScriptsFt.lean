import Derived.Test.YthjfindbamdacaaGreatDoorAuditScriptsFb
open List renaming getD->aK,getElem?_eq_none->aM,getElem?_append_left->aZ,getElem?_eq_getElem->cG,mem_of_getElem?->fW,mem_append->bX,mapM_cons->gN,mem_append_right->gO,mem_append_left->gP,getElem?_map->fL,range'->bK,all_eq_true->gQ
open Nat renaming le_refl->aO,beq->bT,lt_of_lt_of_le->bI,ble->gR
open Bool renaming not_eq_true'->aS,false_eq_true->aN
open Array renaming replicate->gL,toArray_toList->bS,getD_eq_getD_getElem?->aF,getElem?_setIfInBounds_ne->aQ
set_option linter.all false
namespace Go.GD
open Go
theorem fw.kG{N M:Nat}{c0:Ctx}{w0:World}{c:Ctx}{w:World}{st:St}{a:Act}(h:fw N M c0 w0 c w st a){x:Operand}{b:Bool}(hb:bq st.env x=.bool b):fw N M c0 w0 c w (st.kG x b) a:=by
 cases x with
 |tmp t=>exact⟨h.mem,h.rows,λs=>by rw[SJ hb];exact h.env s,h.size,h.defers,h.gh,h.gw,h.reach⟩
 |_=>exact h
theorem fw.HJ{N M:Nat}{c0:Ctx}{w0:World}{c:Ctx}{w:World}{st:St}{a:Act}(h:fw N M c0 w0 c w st a){x:Operand}{b:Bool}(hb:a.eval x=.bool b):fw N M c0 w0 c w (st.kG x b) a:=by
 cases x with
 |tmp t=>
  refine⟨h.mem,h.rows,λs=>?_,h.size,h.defers,h.gh,h.gw,h.reach⟩
  simp only[St.kG,Bl]
  split
  ·rename_i e;subst e;exact hb
  ·exact h.env s
 |_=>exact h
theorem zw{P:Program}{T:fq}(hT:jz P T){G:List bc}(hG:jT P G){N M:Nat}{ro:Option Nat}{id:Nat}{ops:Array Oper}{st:St}{Q:Ex->St->Prop}(h:mb T G N M ops ops.toList st λst=>Q .normal st):tU ro P N M (.region id ops false) st Q:=by
 intro c0 w0 c w a hs
 refine Zi6 ?_
 have:=zW (P:=P) (ops:=ops) hT hG (Q:=λe a' w'=>∃ex ju c',mW e=some ex/\Q ex ju/\fw N M c0 w0 c' w' ju a') (λst c w a hK hs=>⟨_,st,c,rfl,hK,hs⟩) ops.toList 0 st c w a (by simp) h hs
 rwa [<-List.range_eq_range',Array.length_toList]at this
theorem Qyh{c:Ctx}{w:World}{i n:Nat}{row:Row}(hn:c.R n=some row)(hb:row.box=false)(hV:c.V n):∀{e e':List D},HK i n e=some e'->e'.length=e.length/\∀arr off,kK c w e arr off->kK c w e' arr off
 |[],e',h=>by simp[HK]at h
 |d ::l,e',h=>by
  unfold HK at h
  split at h
  ·cases h
   refine⟨rfl,λarr off hc=>?_⟩
   obtain⟨⟨v,hv,h1⟩,⟨u,hu,h2⟩,h3⟩:=hc
   exact⟨⟨v,hv,.inl h1⟩,⟨u,hu,row,hn,hb,.inl ⟨hV,none,h2,Nu⟩⟩,h3⟩
  ·split at h
   ·rename_i l' tC
    cases h
    obtain⟨g1,g2⟩:=Qyh hn hb hV tC
    exact⟨by simp[g1],λarr off hc=>⟨hc.1,g2 arr _ hc.2⟩⟩
   ·cases h
theorem Qzm{n:Nat}:∀{R:Rows} {k i:Nat} {ty:TypeId} {sz:Nat} {e':List D},JR n R k=some (i,ty,sz,e')->∃e j,i=k+j/\R[j]?=some (some ⟨true,ty,sz,.gen [e]⟩)/\HK i n e=some e'
 |[],k,i,ty,sz,e',h=>by simp[JR]at h
 |x ::l,k,i,ty,sz,e',h=>by
  have next:JR n l (k+1)=some (i,ty,sz,e')->∃e j,i=k+j/\(x::l)[j]?=some (some ⟨true,ty,sz,.gen [e]⟩)/\HK i n e=some e':=λh=>by
   obtain⟨e,j,h1,h2,h3⟩:=Qzm h
   exact⟨e,j+1,by omega,by simpa using h2,h3⟩
  unfold JR at h
  split at h
  ·split at h
   ·rename_i e1 he
    cases h
    exact⟨_,0,rfl,rfl,he⟩
   ·exact next h
  ·exact next h
theorem qay{N M:Nat}{c0:Ctx}{w0:World}{c:Ctx}{w:World}{st:St}{a:Act}{T:fq}{code:Code}{K:St->Prop}(h:JS T code st K)(hs:fw N M c0 w0 c w st a): ∃ju c',K ju/\fw N M c0 w0 c' w ju a:=by
  unfold JS at h
  split at h
  . exact⟨st,c,h,hs⟩
  . rename_i u hu
    split at h
    . exact⟨st,c,h,hs⟩
    . rename_i i ty sz e' hf
      simp only[D.fk,nn]at h
      obtain⟨e,j,h1,h2,h3⟩:=Qzm hf
      rw[Nat.zero_add]at h1
      subst h1
      have cg:=(List.getElem?_eq_some_iff.1 h2).1
      have hi:c.R i=some ⟨true,ty,sz, .gen [e]⟩:=by rw[hs.rows,aK,h2];rfl
      have hn:c.R st.rows.length=none:=by rw[hs.rows,aK,aM (aO _)];rfl
      have gl:i≠st.rows.length:=by omega
      have Iw:=WE hs.mem hn (row:=⟨false,u,1, .ints .u8 []⟩) rfl rfl Nat.one_pos
      have WG:=SO (w:=w) hn ⟨false,u,1, .ints .u8 []⟩
      have WH:(c.jr st.rows.length ⟨false,u,1, .ints .u8 []⟩).R i=some ⟨true,ty,sz, .gen [e]⟩:=by simp [Ctx.jr,gl,hi]
      obtain⟨q1,q2⟩:=Qyh (c:=c.jr st.rows.length ⟨false,u,1, .ints .u8 []⟩) (w:=w) (row:=⟨false,u,1, .ints .u8 []⟩) (by simp [Ctx.jr]) rfl (.inl rfl) h3
      obtain⟨WI,Ca⟩:=vb Iw WH q1 (λarr=>q2 arr 0)
      have hg:=WG.trans WI
      have nF:lP c w ((c.jr st.rows.length ⟨false,u,1, .ints .u8 []⟩).jB i ⟨true,ty,sz, .gen [e']⟩) w:=by
        refine⟨Ca,hg,Fr.refl _ w,λb hb=> .inl hb,λr ak hr hv=> .inl ?_⟩
        have Ar:r≠st.rows.length:=λe=>hv (.inl e)
        by_cases er:r=i
        . subst er;exact⟨⟨_,hi⟩,λe=>hv (.inr e),rfl⟩
        . exact⟨⟨ak,by simpa [Ctx.jB,Ctx.jr,er,Ar] using hr⟩,λe=>hv (.inr e),rfl⟩
      refine⟨_,_,h,Ca,λr=> ?_,λt=>Ak hg (hs.env t),hs.size,hs.defers,hs.gh,hs.gw,hs.reach.step (ks:=[]) (λk hk=>by simp [bw]at hk) hs.gw nF.toK⟩
      simp only[Ctx.jB,Ctx.jr]
      by_cases er:r=i
      . subst er
        simp [aK,aZ (show r<(st.rows.set r _).length by simpa using cg),cg]
      . rw [if_neg er]
        by_cases en:r=st.rows.length
        . subst en
          simp [aK]
        . rw[if_neg en,hs.rows]
          by_cases hl:r<st.rows.length
          . simp [aK,aZ (show r<(st.rows.set i _).length by simpa using hl),List.getElem?_set_ne (Ne.symm er)]
          . have h1:st.rows.getD r none=none:=by rw[aK,aM (by omega)];rfl
            rw[h1,aK,aM (by simp;omega)];rfl
def Qf(P:Program):Prop:=∀(ro:Option Nat) (T:fq) (G:List bc) (N M id:Nat) (ops:Array Oper) (st:St) (Q:Ex->St->Prop),jz P T->jT P G->uS T G N M ops st Q->tU ro P N M (.region id ops true) st Q
def HL(y:Array Tmp×Code×Code):Code->Prop
 |.seq a b=>HL y a/\HL y b
 |.cond _ a b=>HL y a/\HL y b
 |.block _ a=>HL y a
 |.loop a=>HL y a
 |.scope a=>HL y a
 |.rangeFunc _ ps x b=>(ps,x,b)=y
 |_=>True
def RF(o:Option Nat)(n:Nat)(c:Code):Prop:=match o with|none=>True|some f=>∃y,(FV f=some y/\y.n<=n/\y.ts=yTs f/\YB<=f/\y.ps.size=1)/\HL (y.ps,y.assign,y.body) c
theorem zS{P:Program}{ro:Option Nat}{c:Code}{Q:Exit->Act->World->Prop}{a:Act}{w:World}(h:c.wpIn (Bo ro) 0 P (Exit.noGoto Q) a w):(Code.scope c).wpIn (Bo ro) 0 P Q a w:=by
 intro b k cs DL hb hr
 have s1:step P (lone (b.atR a (.code (.scope c)::k)) cs w)=.next (lone (b.atR a (.code c:: .inScope c::k)) cs w):=step_lone_go (by simp[stepG,stepG.exec,Frame.atR])
 have h0:(lone (b.atR a (.code (.scope c)::k)) cs w).fenced P (Bo ro):=fenced_calm hb hr rfl
 obtain⟨e,Db,Dc,hq,mr⟩:=h b (.inScope c::k) cs DL hb hr
 cases e with
 |normal=>exact⟨.normal,Db,Dc,hq,.head h0 s1 (StepsIn.trans mr (.one (fenced_calm hb hr rfl) (step_lone_go (by simp[stepG,stepG.exec,Frame.atR]))))⟩
 |exit id=>
  have hx:exitTo id (.inScope c::k)=exitTo id k:=by simp[exitTo]
  exact⟨.exit id,Db,Dc,hq,λk' hk=>.head h0 s1 (mr.1 k' (by rw[hx];exact hk)),λnB hk=>let⟨k₁,h1,h2⟩:=mr.2 nB (by rw[hx];exact hk);⟨k₁,h1,.head h0 s1 h2⟩⟩
 |goto l=>exact hq.elim
 |ret=>exact⟨_,Db,Dc,hq,.of_steps (.one h0 s1) mr⟩
 |panic ch=>exact⟨_,Db,Dc,hq,.of_steps (.one h0 s1) mr⟩
 |outgrown=>exact⟨_,Db,Dc,hq,.of_steps (.one h0 s1) mr⟩
theorem Ny{P:Program}(hD:Qf P){T:fq}(hT:jz P T){G:List bc}(hG:jT P G){ro:Option Nat}{N M:Nat}{L:Code->St->(Ex->St->Prop)->Prop}{S:Code->Prop}(hS:(∀a b,S (.seq a b)->S a/\S b)/\(∀c a b,S (.cond c a b)->S a/\S b)/\(∀i a,S (.block i a)->S a)/\(∀a,S (.scope a)->S a))(hL:∀code st Q,S code->L code st Q->tU ro P N M code st Q):∀(code:Code) (st:St) (Q:Ex->St->Prop),S code->ph T G N M L code st Q->tU ro P N M code st Q:=by
 intro code
 induction code with
 |skip=>exactλst Q _ h c0 w0 c w a hs=>wpIn_skip ⟨_,st,c,rfl,h,hs⟩
 |label l=>exactλst Q _ h c0 w0 c w a hs=>wpIn_label ⟨_,st,c,rfl,h,hs⟩
 |region id ops draw=>
  intro st Q hc h c0 w0 c w a hs
  simp only[ph]at h
  obtain⟨R1,c1,h,mK⟩:=Gj h hs
  obtain⟨ju,c',h,ji⟩:=qaf h mK
  cases draw with
  |false=>exact zw hT hG h c0 w0 c' w a ji
  |true=>exact hD ro T G N M id ops ju Q hT hG h c0 w0 c' w a ji
 |seq x y ihx U9=>
  intro st Q hc h c0 w0 c w a hs
  simp only[ph]at h
  refine wpIn_seq (wpIn_mono (ihx st _ (hS.1 _ _ hc).1 h c0 w0 c w a hs) λe a' w' hq=>?_)
  obtain⟨ex,ju,c',he,hq,ji⟩:=hq
  cases e<;>simp only[mW,Option.some.injEq,reduceCtorEq]at he
  ·subst he
   obtain⟨st2,c2,hq,PS⟩:=qay hq ji
   exact U9 st2 Q (hS.1 _ _ hc).2 hq c0 w0 c2 w' a' PS
  ·subst he;exact⟨_,ju,c',rfl,hq,ji⟩
  ·subst he;exact⟨_,ju,c',rfl,hq,ji⟩
 |cond x y z U9 ihz=>
  intro st Q hc h c0 w0 c w a hs
  simp only[ph]at h
  split at h
  ·rename_i b hb
   have hv:=Nn hs.env x
   rw[hb]at hv
   have hv:=Rep.bool.1 hv
   cases b with
   |true=>exact wpIn_cond_true hv (U9 _ Q (hS.2.1 _ _ _ hc).1 h c0 w0 c w a (hs.kG hb))
   |false=>exact wpIn_cond_false hv (ihz _ Q (hS.2.1 _ _ _ hc).2 h c0 w0 c w a (hs.kG hb))
  ·rename_i es hb
   have hv:=Nn hs.env x
   rw[hb]at hv
   obtain⟨b,hv,ij⟩:=hv
   cases b with
   |true=>exact wpIn_cond_true hv (U9 _ Q (hS.2.1 _ _ _ hc).1 (h.1 (ao.ot.2 (ij rfl))) c0 w0 c w a (hs.HJ hv))
   |false=>exact wpIn_cond_false hv (ihz _ Q (hS.2.1 _ _ _ hc).2 h.2 c0 w0 c w a (hs.HJ hv))
  ·exact h.elim
 |block id x ih=>
  intro st Q hc h c0 w0 c w a hs
  simp only[ph]at h
  refine wpIn_block (wpIn_mono (ih st _ (hS.2.2.1 _ _ hc) h c0 w0 c w a hs) λe a' w' hq=>?_)
  obtain⟨ex,ju,c',he,hq,ji⟩:=hq
  cases e<;>simp only[mW,Option.some.injEq,reduceCtorEq]at he
  ·subst he;exact⟨_,ju,c',rfl,hq,ji⟩
  ·rename_i i
   subst he
   simp only[Exit.inBlock]
   simp only at hq
   cases hb:bT i id with
   |true=>
    simp only[hb]at hq
    rw[if_pos (bE hb)]
    exact⟨_,ju,c',rfl,hq,ji⟩
   |false=>
    simp only[hb]at hq
    rw[if_neg (λe=>by rw[e]at hb;simp at hb)]
    exact⟨_,ju,c',rfl,hq,ji⟩
  ·subst he;exact⟨_,ju,c',rfl,hq,ji⟩
 |exit id=>exactλst Q _ h c0 w0 c w a hs=>wpIn_exit ⟨_,st,c,rfl,h,hs⟩
 |ret=>exactλst Q _ h c0 w0 c w a hs=>wpIn_ret ⟨_,st,c,rfl,h,hs⟩
 |loop x ih=>exactλst Q hc h=>hL _ _ _ hc h
 |rangeFunc g ps x y _ _=>exactλst Q hc h=>hL _ _ _ hc h
 |scope x ih=>
  intro st Q hc h c0 w0 c w a hs
  simp only[ph]at h
  refine zS (wpIn_mono (ih st _ (hS.2.2.2 _ hc) h c0 w0 c w a hs) λe a' w' hq=>?_)
  obtain⟨ex,ju,c',he,hq,ji⟩:=hq
  cases e<;>simp only[mW,Option.some.injEq,reduceCtorEq]at he
  all_goals(subst he;exact⟨_,ju,c',rfl,hq,ji⟩)
 |goto l=>exactλst Q hc h=>hL _ _ _ hc h
 |refuse y=>exactλst Q hc h=>hL _ _ _ hc h
theorem Nz(o:Option Nat)(n:Nat):(∀a b,RF o n (.seq a b)->RF o n a/\RF o n b)/\(∀c a b,RF o n (.cond c a b)->RF o n a/\RF o n b)/\(∀i a,RF o n (.block i a)->RF o n a)/\(∀a,RF o n (.scope a)->RF o n a):=by
 cases o with
 |none=>exact⟨λ_ _ _=>⟨trivial,trivial⟩,λ_ _ _ _=>⟨trivial,trivial⟩,λ_ _ _=>trivial,λ_ _=>trivial⟩
 |some f=>exact⟨λ_ _ ⟨y,h,h1,h2⟩=>⟨⟨y,h,h1⟩,⟨y,h,h2⟩⟩,λ_ _ _ ⟨y,h,h1,h2⟩=>⟨⟨y,h,h1⟩,⟨y,h,h2⟩⟩,λ_ _ ⟨y,h,h1⟩=>⟨y,h,h1⟩,λ_ ⟨y,h,h1⟩=>⟨y,h,h1⟩⟩
def Ctx.out(c:Ctx)(ex:List Nat)(rows:List Row):Ctx:=
 { ρ:=λi=>match ex[i]? with|some r=>c.ρ r|none=>c.ρ i,R:=λi=>rows[i]?,V:=λi=>match ex[i]? with|some r=>c.R r=none\/c.V r|none=>True,
   I:=λb=>c.I b\/ ∃r row,c.R r=some row/\ ¬c.V r/\row.box=false/\KM ex r=true/\c.ρ r=b,base:=c.base,top:=c.top,X:=c.X}
theorem Va{ex:List Nat}{i r:Nat}(h:kH ex i r=true):ex[i]?=some r:=by
 unfold kH at h
 split at h
 ·rename_i x hx;rw[hx,bE h]
 ·cases h
theorem Zoi{ex:List Nat}{R:Rows}{i:Nat}(h:IJ ex R i=true):∃r,ex[i]?=some r/\R.getD r none=none:=by
 unfold IJ at h
 split at h
 ·rename_i r hr
  refine⟨r,hr,?_⟩
  split at h
  ·assumption
  ·cases h
 ·cases h
theorem Z84{ex:List Nat}{r:Nat}(h:KM ex r=true):r∉ex:=by
 intro hm
 have:=List.all_eq_true.1 h r hm
 simp at this
theorem QO{ex:List Nat}{m:Nat}{R:Rows}:∀{rs:List Nat} {ps:List Row},na ex m R rs ps->rs.length=ps.length/\∀(i r:Nat) (p:Row),rs[i]?=some r->ps[i]?=some p->
 (∃row,R.getD r none=some row/\row.box=p.box/\row.ty=p.ty/\row.sz=p.sz/\(if p.box then∃e e',row.es=.gen [e]/\p.es=.gen [e']/\EV ex m R e e' else row.es.l=p.es.l))\/(R.getD r none=none/\p.box=false/\p.es.l=[]/\0<p.sz)
 |[],[],_=>⟨rfl,λi r p h=>by simp at h⟩
 |[],_::_,h=>h.elim
 |_::_,[],h=>h.elim
 |r ::rs,⟨box,ty,sz,es⟩::ps,h=>by
  simp only[na]at h
  obtain⟨h1,h2⟩:=h
  obtain⟨g1,g2⟩:=QO h2
  refine⟨by simp[g1],λi q p hq hp=>?_⟩
  cases i with
  |succ i=>exact g2 i q p (by simpa using hq) (by simpa using hp)
  |zero=>
   simp at hq hp
   subst hq;subst hp
   split at h1
   ·rename_i Az jU kB jc hR
    simp only[da,aE]at h1
    obtain⟨⟨⟨e1,e2⟩,e3⟩,h1⟩:=h1
    refine .inl ⟨_,hR,by cases box<;>cases Az<;>simp_all,(bE e2).symm,(bE e3).symm,?_⟩
    cases box with
    |false=>simpa using ao.Aw h1
    |true=>
     simp only[if_true]
     simp only at h1
     split at h1
     ·exact⟨_,_,rfl,rfl,h1⟩
     ·exact h1.elim
   ·rename_i hR
    simp only[da,aE,aS]at h1
    exact .inr ⟨hR,h1.1.1,ao.ot.1 h1.2,lE h1.1.2⟩
theorem SP{c:Ctx}{w:World}{ex:List Nat}{m:Nat}{R:Rows}{rows:List Row}(hR:∀r,c.R r=R.getD r none)(cw:na ex m R ex rows){i r o f:Nat}{v:Value}(hx:kH ex i r=true)(hr:cv c w (.ptr r o f) v):cv (c.out ex rows) w (.ptr i o f) v:=by
 obtain⟨row,g1,gV,g2,hv⟩:=hr
 have hi:=Va hx
 obtain⟨hl,iX⟩:=QO cw
 have cg:=(List.getElem?_eq_some_iff.1 hi).1
 have hp:rows[i]?=some rows[i]:=cG (by omega)
 rcases iX i r _ hi hp with⟨ak,k1,k2,k3,k4,k5⟩|⟨k1,_⟩
 ·have:ak=row:=by rw[hR,k1]at g1;exact Option.some.inj g1
  subst this
  refine⟨_,hp,by simp[Ctx.out,hi,g1,gV],?_,by simp only[Ctx.out,hi];rw[hv,k4]⟩
  split at k5
  ·obtain⟨e,e',q1,q2,_⟩:=k5
   rw[q1]at g2;rw[q2];exact g2
  ·rw[<-k5];exact g2
 ·rw[hR,k1]at g1;cases g1
theorem Zm3{c:Ctx}{w:World}{ex:List Nat}{m:Nat}{R:Rows}{rows:List Row}(hR:∀r,c.R r=R.getD r none)(cw:na ex m R ex rows):∀{ps qs:List (Nat×Nat×Nat)} {us:List Value},sE ex ps qs=true->MH c qs us->MH (c.out ex rows) ps us
 |[],[],_,_,h=>by rename_i us _;cases us<;>exact h
 |(i,b,d)::l,(r,y,z)::q,u::us,h,hr=>by
  simp only[sE,aE]at h
  obtain⟨h1,h2,h3,h4⟩:=h
  have e2:=bE h2;have e3:=bE h3
  subst e2;subst e3
  exact⟨SP (w:=w) hR cw h1 hr.1,Zm3 (w:=w) hR cw h4 hr.2⟩
 |(_,_,_)::_,(_,_,_)::_,[],_,h=>h.elim
 |[],_::_,_,h,_=>by simp[sE]at h
 |_::_,[],_,h,_=>by simp[sE]at h
theorem yS{c:Ctx}{w:World}{ex:List Nat}{m:Nat}{R:Rows}{rows:List Row}(hR:∀r,c.R r=R.getD r none)(cw:na ex m R ex rows):∀{cs ds:List iv} {us:List Value},pk ex cs ds=true->oM c w ds us->oM (c.out ex rows) w cs us:=by
 intro cs
 induction cs with
 |nil=>intro ds us h hr;cases ds<;>cases us<;>first|exact hr|(simp[pk]at h;done)
 |cons x cs ih=>
  intro ds us h hr
  cases ds with
  |nil=>cases x<;>simp[pk]at h
  |cons y ds=>
   cases us with
   |nil=>exact hr.elim
   |cons u us=>
    cases x<;>cases y<;>simp only[pk,aE,aN]at h
    ·obtain⟨h1,h2,h3,h4⟩:=h
     have e2:=bE h2;have e3:=bE h3
     subst e2;subst e3
     exact⟨SP (w:=w) hR cw h1 hr.1,ih h4 hr.2⟩
    ·obtain⟨h1,h2,h3⟩:=h
     have e1:=bE h1
     subst e1
     obtain⟨⟨ws,hv,hw⟩,UB⟩:=hr
     exact⟨⟨ws,Mx (c:=c) (c':=c.out ex rows) (w':=w) (λb hb=>⟨Or.inl hb,rfl⟩) hv,Zm3 (w:=w) hR cw h2 hw⟩,ih h3 UB⟩
section
variable {c:Ctx} {w:World} {ex:List Nat} {m:Nat} {R:Rows} {rows:List Row}
theorem ZZ(hm:Mem c w)(hR:∀r,c.R r=R.getD r none)(cw:na ex m R ex rows)(fi:∀r row,c.R r=some row->¬c.V r->m<=r->c.base<=c.ρ r){d p:D}{v:Value}(h:jv ex m R d p)(hr:cv c w d v):cv (c.out ex rows) w p v:=by
 have nG:∀b,c.I b->(c.out ex rows).I b/\w.heap[b]?=w.heap[b]? :=λb hb=>⟨.inl hb,rfl⟩
 obtain⟨hl,iX⟩:=QO cw
 have rowOf:∀i r row,ex[i]?=some r->c.R r=some row->∃p,rows[i]?=some p/\row.box=p.box/\row.ty=p.ty/\row.sz=p.sz/\row.es.l.length=p.es.l.length/\(c.out ex rows).ρ i=c.ρ r/\((c.out ex rows).V i↔c.V r):=by
  intro i r row hi cb
  have cg:=(List.getElem?_eq_some_iff.1 hi).1
  have hp:rows[i]?=some rows[i]:=cG (by omega)
  rcases iX i r _ hi hp with⟨ak,g1,g2,g3,g4,g5⟩|⟨g1,_⟩
  ·have:ak=row:=by rw[hR,g1]at cb;exact Option.some.inj cb
   subst this
   refine⟨_,hp,g2,g3,g4,?_,by simp[Ctx.out,hi],by simp[Ctx.out,hi,cb]⟩
   split at g5
   ·obtain⟨e,e',k1,k2,_⟩:=g5
    rw[k1,k2];rfl
   ·rw[g5]
  ·rw[hR,g1]at cb;cases cb
 have NC:∀i a,IJ ex R i=true->v=.slice a 0 0->AE c.top a->cv (c.out ex rows) w (.all i) v:=by
  intro i a hv Ee dw
  obtain⟨r,hi,hrn⟩:=Zoi hv
  have cg:=(List.getElem?_eq_some_iff.1 hi).1
  have hp:rows[i]?=some rows[i]:=cG (by omega)
  rcases iX i r _ hi hp with⟨ak,g1,_⟩|⟨g1,g2,g3,g4⟩
  ·rw[hrn]at g1;cases g1
  ·exact⟨_,hp,g2,.inl ⟨by simp only[Ctx.out,hi];exact .inl (by rw[hR];exact g1),a,Ee,dw⟩⟩
 cases p<;>simp only[jv]at h
 case int k n=>
  split at h
  ·simp only[da,decide_eq_true_eq]at h;obtain⟨rfl,rfl⟩:=h;exact hr
  ·exact h.elim
 case bool b=>
  split at h
  ·subst h;exact hr
  ·exact h.elim
 case str s=>
  split at h
  ·subst h;exact hr
  ·exact h.elim
 case iM=>
  split at h
  ·exact hr
  ·exact h.elim
 case du=>
  split at h
  ·exact hr
  ·exact h.elim
 case emp=>
  split at h
  ·exact⟨none,hr,Nu⟩
  ·exact hr
  ·exact h.elim
 case jJ=>
  split at h
  ·exact hr
  ·exact h.elim
 case gq f cs=>
  split at h
  ·simp only[da,aE]at h
   obtain⟨⟨h1,h2⟩,_⟩:=h
   have e1:=bE h1
   subst e1
   obtain⟨us,hv,hu⟩:=hr
   exact⟨us,Mx (c:=c) (c':=c.out ex rows) (w':=w) (λb hb=>⟨Or.inl hb,rfl⟩) hv,yS hR cw h2 hu⟩
  ·exact h.elim
 case ptr i o f=>
  split at h
  ·simp only[da,aE]at h
   obtain⟨⟨h1,h2,h3⟩,_⟩:=h
   have e2:=bE h2;have e3:=bE h3
   subst e2;subst e3
   exact SP (w:=w) hR cw h1 hr
  ·exact h.elim
 case c8 i=>
  have go:∀r,kH ex i r=true->cv c w (.c8 r) v->cv (c.out ex rows) w (.c8 i) v:=by
   intro r hx hr
   rcases hr with hr|⟨row,g1,gV,g2,hv⟩
   ·exact .inl hr
   ·have hi:=Va hx
    obtain⟨p,hp,q1,q2,q3,q4,q5,q6⟩:=rowOf i r row hi g1
    exact .inr ⟨p,hp,λe=>gV (q6.1 e),by rw[<-q4];exact g2,by rw[hv,q5,q3]⟩
  split at h
  ·exact .inl hr
  ·simp only[da]at h;exact go _ h.1 hr
  ·simp only[da,aE]at h
   obtain⟨⟨h1,h2,h3⟩,_⟩:=h
   have e2:=bE h2;have e3:=bE h3
   subst e2;subst e3
   exact go _ h1 (.inr hr)
  ·exact h.elim
 case dead=>exact cv.one hr
 case sl sz es fr=>
  split at h
  ·have h:=ao.ot.1 h;exact⟨none,0,by rw[h];exact hr,by rw[h];exact aO _,.inl h⟩
  ·have h:=ao.ot.1 h;obtain⟨a,hr,_⟩:=hr;exact⟨a,0,by rw[h];exact hr,by rw[h];exact aO _,.inl h⟩
  ·rename_i kB jc fr'
   simp only[da,Bool.or_eq_true,aS]at h
   obtain⟨hf,hs,he⟩:=h
   have he:=ao.Aw he
   obtain⟨a,cap,hv,hc,ij⟩:=hr
   rw[he]at hv hc ij
   refine⟨a,cap,hv,hc,?_⟩
   rcases ij with ij|⟨b,off,arr,ty,fz,ha,hI,hf',hh,hE⟩
   ·exact .inl ij
   ·rcases hs with hs|rfl
    ·exact .inl (by rw[<-he];exact ao.ot.1 hs)
    ·exact .inr ⟨b,off,arr,ty,fz,ha,.inl hI,λe=>hf' (by rcases hf with hf|hf<;>simp_all),hh,od nG _ _ _ _ hE⟩
  ·rename_i r
   split at h
   ·rename_i box ty kB jc hRr
    simp only[da,aE,aS]at h
    obtain⟨⟨⟨⟨hb,hs⟩,ho⟩,JT⟩,Be⟩:=h
    have Be:=ao.Aw Be
    have hs:=bE hs
    have JT:=lE JT
    obtain⟨row,g1,g2,hv⟩:=hr
    have:row=⟨box,ty,kB,jc⟩:=by rw[hR,hRr]at g1;exact(Option.some.inj g1).symm
    subst this
    subst hs
    rcases hv with⟨hV,a,hv,_⟩|⟨hV,cap,arr,hv,g3,g4,g5,g6⟩
    ·have he:=(hm.oe g1 hV).2.1
     simp only at he
     rw[he]at Be
     exact⟨a,0,by rw[<-Be];exact hv,by rw[<-Be];exact aO _,.inl Be.symm⟩
    obtain⟨iO,jC,ji,hx⟩:=hm.real g1 hV
    rw[g5]at jC;cases jC
    simp only[hb,aN,if_false]at hx
    simp only at hv g3 hx
    rw[Be]at hv g3 hx
    exact⟨_,cap,hv,g3,.inr ⟨_,0,arr,_,_,rfl,.inr ⟨r,_,g1,hV,hb,ho,rfl⟩,λ_=>fi r _ g1 hV JT,g5,od nG _ _ _ _ hx⟩⟩
   ·exact h.elim
  ·rename_i r o n
   split at h
   ·rename_i box ty kB jc hRr
    simp only[da,aE,aS]at h
    obtain⟨⟨⟨⟨hb,hs⟩,ho⟩,JT⟩,Be⟩:=h
    have Be:=ao.Aw Be
    rw[ao.iZ,ao.kb]at Be
    have hs:=bE hs
    have JT:=lE JT
    obtain⟨row,g1,g2,g5,hv⟩:=hr
    have:row=⟨box,ty,kB,jc⟩:=by rw[hR,hRr]at g1;exact(Option.some.inj g1).symm
    subst this
    subst hs
    simp only at g5
    have tC:((jc.l.drop o).take n).length=n:=by simp only[List.length_take,List.length_drop];omega
    rw[Be]at tC
    rcases hv with⟨h0,a,hv,_⟩|⟨hV,cap,arr,g3,g4,g6,hv,g7⟩
    ·subst h0
     have h0:=List.eq_nil_of_length_eq_zero tC
     exact⟨a,0,by rw[tC];exact hv,by omega,.inl h0⟩
    obtain⟨iO,jC,ji,hx⟩:=hm.real g1 hV
    rw[g6]at jC;cases jC
    simp only[hb,aN,if_false]at hx
    have hE:=Mo (n:=n) (KA (l:=o) hx)
    rw[Be]at hE
    exact⟨_,cap,by rw[tC];exact hv,by omega,.inr ⟨_,o*kB,arr,_,_,rfl,.inr ⟨r,_,g1,hV,hb,ho,rfl⟩,λ_=>fi r _ g1 hV JT,g6,od nG _ _ _ _ (by simpa using hE)⟩⟩
   ·exact h.elim
  ·exact h.elim
 case all i=>
  split at h
  ·rename_i r
   simp only[da]at h
   obtain⟨row,g1,g2,hv⟩:=hr
   obtain⟨p,k1,k2,k3,k4,k5,k6,k7⟩:=rowOf i r row (Va h.1) g1
   refine⟨p,k1,by rw[<-k2];exact g2,?_⟩
   rcases hv with⟨hV,hv⟩|⟨hV,cap,arr,hv,g3,g4,g5,g6⟩
   ·exact .inl ⟨k7.2 hV,hv⟩
   ·exact .inr ⟨λe=>hV (k7.1 e),cap,arr,by rw[hv,k5,k6],by rw[<-k5];exact g3,g4,by rw[k6,<-k3];exact g5,by rw[<-k4];exact g6⟩
  ·simp only[da]at h
   exact NC i none h.1 hr Nu
  ·simp only[da]at h
   obtain⟨a,hr,ho⟩:=hr
   exact NC i a h.1 hr ho
  ·exact h.elim
 case own i o n=>
  split at h
  ·rename_i r o' n'
   simp only[da]at h
   obtain⟨hx,rfl,rfl⟩:=h
   obtain⟨row,g1,g2,g5,hv⟩:=hr
   obtain⟨p,k1,k2,k3,k4,k5,k6,k7⟩:=rowOf i r row (Va hx) g1
   refine⟨p,k1,by rw[<-k2];exact g2,by rw[<-k5];exact g5,?_⟩
   rcases hv with⟨h0,a,hv,je⟩|⟨hV,cap,arr,g3,g4,g6,hv,g7⟩
   ·exact .inl ⟨h0,a,hv,je.mono (aO _) k7 k6⟩
   ·exact .inr ⟨λe=>hV (k7.1 e),cap,arr,g3,g4,by rw[k6,<-k3];exact g6,by rw[k6,<-k4];exact hv,by rw[<-k4];exact g7⟩
  ·exact h.elim
theorem Zed(hm:Mem c w)(hR:∀r,c.R r=R.getD r none)(cw:na ex m R ex rows)(fi:∀r row,c.R r=some row->¬c.V r->m<=r->c.base<=c.ρ r):∀{ds ps:List D} {vs:List Value},EV ex m R ds ps->jm c w ds vs->jm (c.out ex rows) w ps vs
 |[],[],[],_,_=>trivial
 |[],[],_::_,_,h=>h.elim
 |[],_::_,_,h,_=>h.elim
 |_::_,[],_,h,_=>h.elim
 |_::_,_::_,[],_,h=>h.elim
 |d::ds,p::ps,v::vs,h,hr=>⟨ZZ hm hR cw fi h.1 hr.1,Zed hm hR cw fi h.2 hr.2⟩
theorem Zmu(hm:Mem c w)(hR:∀r,c.R r=R.getD r none)(cw:na ex m R ex rows)(fi:∀r row,c.R r=some row->¬c.V r->m<=r->c.base<=c.ρ r){d p:D}{v:Value}(h:rh ex m R d p)(hr:VRep c w d v):VRep (c.out ex rows) w p v:=by
 cases p with
 |agg ps=>
  simp only[rh]at h
  cases d<;>simp only at h
  obtain⟨vs,hv,hx⟩:=hr
  exact⟨vs,hv,Zed hm hR cw fi h hx⟩
 |_=>
  simp only[rh]at h
  refine VRep.EK (ZZ hm hR cw fi h (VRep.toC ?_ hr))
  intro cs e
  subst e
  simp[jv,cr,D.HM]at h
theorem Zgy(hm:Mem c w)(hR:∀r,c.R r=R.getD r none)(cw:na ex m R ex rows)(fi:∀r row,c.R r=some row->¬c.V r->m<=r->c.base<=c.ρ r):∀{ds ps:List D} {vs:List Value},wA ex m R ds ps->j8 c w ds vs->j8 (c.out ex rows) w ps vs
 |[],[],[],_,_=>trivial
 |[],[],_::_,_,h=>h.elim
 |[],_::_,_,h,_=>h.elim
 |_::_,[],_,h,_=>h.elim
 |_::_,_::_,[],_,h=>h.elim
 |d::ds,p::ps,v::vs,h,hr=>⟨Zmu hm hR cw fi h.1 hr.1,Zgy hm hR cw fi h.2 hr.2⟩
theorem SQ(hm:Mem c w)(hR:∀r,c.R r=R.getD r none)(cw:na ex m R ex rows)(fi:∀r row,c.R r=some row->¬c.V r->m<=r->c.base<=c.ρ r){d p:D}{v:Value}(h:Au ex m R d p)(hr:Rep c w d v):Rep (c.out ex rows) w p v:=by
 cases p with
 |dt ps=>
  simp only[Au]at h
  cases d<;>simp only at h
  obtain⟨vs,hv,hx⟩:=hr
  exact⟨vs,hv,Zgy hm hR cw fi h hx⟩
 |dead=>trivial
 |_=>
  simp only[Au]at h
  refine Rep.KE (Zmu hm hR cw fi h (Rep.toV ?_ ?_ hr))
  ·intro ds e;subst e;simp[rh,jv]at h
  ·intro e;subst e;simp[rh,jv]at h
theorem Z48(hm:Mem c w)(hR:∀r,c.R r=R.getD r none)(cw:na ex m R ex rows)(fi:∀r row,c.R r=some row->¬c.V r->m<=r->c.base<=c.ρ r):∀{ds ps:List D} {arr:Array Value} {off:Nat},EV ex m R ds ps->kK c w ds arr off->kK (c.out ex rows) w ps arr off
 |[],[],_,_,_,_=>trivial
 |[],_::_,_,_,h,_=>h.elim
 |_::_,[],_,_,h,_=>h.elim
 |d::ds,p::ps,arr,off,h,hr=>⟨by obtain⟨⟨v,hv,hx⟩,_⟩:=hr;exact⟨v,hv,ZZ hm hR cw fi h.1 hx⟩,Z48 hm hR cw fi h.2 hr.2⟩
theorem Qyt:∀{ds ps:List D},EV ex m R ds ps->ds.length=ps.length
 |[],[],_=>rfl
 |[],_::_,h=>h.elim
 |_::_,[],h=>h.elim
 |_::_,_::_,h=>by simp[Qyt h.2]
theorem zay(hm:Mem c w)(hR:∀r,c.R r=R.getD r none)(cw:na ex m R ex rows)(fi:∀r row,c.R r=some row->¬c.V r->m<=r->c.base<=c.ρ r)(kZ:ex.Nodup):Mem (c.out ex rows) w:=by
 have nG:∀b,c.I b->(c.out ex rows).I b/\w.heap[b]?=w.heap[b]? :=λb hb=>⟨.inl hb,rfl⟩
 obtain⟨hl,iX⟩:=QO cw
 have inv:∀i p,(c.out ex rows).R i=some p->∃r,ex[i]?=some r/\(c.out ex rows).ρ i=c.ρ r/\((∃row,c.R r=some row/\row.box=p.box/\row.ty=p.ty/\row.sz=p.sz/\((c.out ex rows).V i↔c.V r)/\(if p.box then∃e e',row.es=.gen [e]/\p.es=.gen [e']/\EV ex m R e e' else row.es.l=p.es.l))\/((c.out ex rows).V i/\p.box=false/\p.es.l=[]/\0<p.sz)):=by
  intro i p hp
  have QP:rows[i]?=some p:=hp
  have cg:=(List.getElem?_eq_some_iff.1 QP).1
  have hi:ex[i]?=some ex[i]:=cG (by omega)
  refine⟨_,hi,by simp[Ctx.out,hi],?_⟩
  rcases iX i _ p hi QP with⟨row,g1,g2,g3,g4,g5⟩|⟨g1,g2⟩
  ·have cb:c.R ex[i]=some row:=by rw[hR];exact g1
   exact .inl ⟨row,cb,g2,g3,g4,by simp[Ctx.out,hi,cb],g5⟩
  ·exact .inr ⟨by simp only[Ctx.out,hi];exact .inl (by rw[hR];exact g1),g2⟩
 refine⟨λi p hp=>?_,λi j p q hp hq v1 v2 he=>?_,λb hb=>?_,hm.top,hm.kN.mono nG⟩
 ·obtain⟨r,g1,g6,⟨row,g2,g3,g4,g5,gV,g7⟩|⟨gV,g2⟩⟩:=inv i p hp
  ·rcases hm.row r row g2 with⟨h0,h1,h2,h3⟩|⟨h0,arr,ha,hs,hx⟩
   ·refine .inl ⟨gV.2 h0,by rw[<-g3];exact h1,?_,by rw[<-g5];exact h3⟩
    rw[if_neg (by rw[<-g3,h1];simp)]at g7
    rw[<-g7];exact h2
   refine .inr ⟨λe=>h0 (gV.1 e),arr,by rw[g6,<-g4];exact ha,by rw[<-g5];exact hs,?_⟩
   split
   ·rename_i hb
    rw[if_pos hb]at g7
    rw[if_pos (g3.trans hb)]at hx
    obtain⟨e,e',k1,k2,k3⟩:=g7
    obtain⟨e0,q1,q2,q3,q4⟩:=hx
    rw[k1]at q1;cases q1
    exact⟨e',k2,by rw[<-Qyt k3,<-g5];exact q2,by rw[<-g5];exact q3,Z48 hm hR cw fi k3 q4⟩
   ·rename_i hb
    rw[if_neg hb]at g7
    rw[if_neg (by rw[g3];exact hb)]at hx
    rw[<-g7,<-g5]
    exact od nG _ _ _ _ hx
  ·exact .inl ⟨gV,g2⟩
 ·obtain⟨r,g1,g6,⟨row,g2,_,_,_,gV,_⟩|⟨gV,_⟩⟩:=inv i p hp
  ·obtain⟨s,k1,k6,⟨ak,k2,_,_,_,kV,_⟩|⟨kV,_⟩⟩:=inv j q hq
   ·rw[g6,k6]at he
    have:r=s:=hm.inj r s _ _ g2 k2 (λe=>v1 (gV.2 e)) (λe=>v2 (kV.2 e)) he
    subst this
    exact(List.getElem?_inj (List.getElem?_eq_some_iff.1 g1).1 kZ).1 (g1.trans k1.symm)
   ·exact(v2 kV).elim
  ·exact(v1 gV).elim
 ·rcases hb with hb|⟨r,row,hr,hV,wX,ho,rfl⟩
  ·refine⟨(hm.fu b hb).1,λi p hp v=>?_⟩
   obtain⟨r,g1,g6,⟨row,g2,_,_,_,gV,_⟩|⟨gV,_⟩⟩:=inv i p hp
   ·rw[g6]
    exact(hm.fu b hb).2 r row g2 (λe=>v (gV.2 e))
   ·exact(v gV).elim
  ·refine⟨hm.lt hr hV,λi p hp v=>?_⟩
   obtain⟨s,g1,g6,⟨ak,g2,_,_,_,gV,_⟩|⟨gV,_⟩⟩:=inv i p hp
   ·rw[g6]
    intro e
    have:=hm.inj s r _ _ g2 hr (λe=>v (gV.2 e)) hV e
    subst this
    exact Z84 ho (fW g1)
   ·exact(v gV).elim
end
theorem Zny:∀{l m:List Nat},Aa l m=true->l=m
 |[],[],_=>rfl
 |x::l,y::m,h=>by
  simp only[Aa,aE]at h
  rw[bE h.1,Zny h.2]
 |[],_::_,h=>by cases h
 |_::_,[],h=>by cases h
theorem xay{M:Nat}{ex:List Nat}(h:Av M ex=true):ex.Nodup/\(∀i,i<M->ex[i]?=some i)/\∀i r,ex[i]?=some r->(i=r/\i<M)\/M<=r:=by
 unfold Av at h
 simp only[aE]at h
 obtain⟨⟨h1,h2⟩,h3⟩:=h
 replace h1:=Zny h1
 replace h2:∀r∈ex.drop M,M<=r:=λr hr=>lE (List.all_eq_true.1 h2 r hr)
 replace h3:=Mt.1 h3
 have he:ex=List.range M++ex.drop M:=by rw[<-h1,List.take_append_drop]
 generalize hq:ex.drop M=q at he h2 h3
 subst he
 refine⟨?_,λi hi=>by rw[aZ (by simpa using hi)];simp[hi],λi r hr=>?_⟩
 ·rw[List.nodup_append]
  exact⟨List.nodup_range,h3,λx hx y hy=>by simp at hx;have:=h2 y hy;omega⟩
 ·by_cases cg:i<M
  ·rw[aZ (by simpa using cg)]at hr
   simp[cg]at hr
   exact .inl ⟨hr,cg⟩
  ·rw[List.getElem?_append_right (by simpa using cg)]at hr
   exact .inr (h2 r (fW hr))
theorem SR{N M:Nat}{c0:Ctx}{w0:World}{c:Ctx}{w:World}{st:St}{a:Act}(hs:fw N M c0 w0 c w st a){ex:List Nat}{aj:List Row}(hex:Av M ex=true)(cw:na ex M st.rows ex aj):
 (∀r row,c.R r=some row->¬c.V r->M<=r->c.base<=c.ρ r)/\Mem (c.out ex aj) w/\Aj c0 w0 (c.out ex aj) w:=by
 obtain⟨kZ,hid,hinv⟩:=xay hex
 obtain⟨hl,iX⟩:=QO cw
 have hb1:c.base=c0.base:=hs.reach.bz.base
 have Dd:∀r row,c.R r=some row->¬c.V r->M<=r->c0.X (c.ρ r)\/w0.heap.size<=c.ρ r:=λr row h1 v h2=>by
  rcases hs.reach.og r row h1 v with⟨⟨x,hx⟩,_⟩|h3
  ·have:=hs.gw r x hx;omega
  ·exact h3
 have fi:∀r row,c.R r=some row->¬c.V r->M<=r->c.base<=c.ρ r:=λr row h1 v h2=>by
  have:=hs.gh
  rcases Dd r row h1 v h2 with h|h
  ·have:=hs.reach.xb _ h;omega
  ·omega
 refine⟨fi,zay hs.mem hs.rows cw fi kZ,⟨hs.reach.bz.base,hs.reach.bz.top,λb iI=>?_,λr row hr=>?_⟩,hs.reach.fr,λb iI=>?_,λi p hp v=>?_,hs.reach.xb⟩
 ·obtain⟨h1,h2⟩:=hs.reach.bz.I b iI
  exact⟨.inl h1,h2⟩
 ·have cg:r<M:=hs.gw r row hr
  obtain⟨EW,g1,g2,g3,g4,g5,g6,gV,g7⟩:=hs.reach.bz.R r row hr
  have hi:=hid r cg
  have mU:=(List.getElem?_eq_some_iff.1 hi).1
  have hp:aj[r]?=some aj[r]:=cG (by omega)
  rcases iX r r _ hi hp with⟨jy,k1,k2,k3,k4,k5⟩|⟨k1,_⟩
  ·have:jy=EW:=by rw[hs.rows,k1]at g1;exact Option.some.inj g1
   subst this
   refine⟨_,hp,k2.symm.trans g2,k3.symm.trans g3,k4.symm.trans g4,?_,by simp[Ctx.out,hi,g6],by simp[Ctx.out,hi,g1,gV],g7⟩
   rw[<-g5]
   split at k5
   ·obtain⟨e,e',q1,q2,_⟩:=k5
    rw[q1,q2];rfl
   ·rw[k5]
  ·rw[hs.rows,k1]at g1;cases g1
 ·rcases iI with h1|⟨r,row,hr,hV,wX,ho,rfl⟩
  ·exact hs.reach.fu b h1
  ·refine .inr ?_
   have:M<=r:=by
    by_cases cg:r<M
    ·exact(Z84 ho (fW (hid r cg))).elim
    ·omega
   exact Dd r row hr hV this
 ·have QP:aj[i]?=some p:=hp
  have cg:=(List.getElem?_eq_some_iff.1 QP).1
  have hi:ex[i]?=some ex[i]:=cG (by omega)
  simp only[Ctx.out,hi,not_or]at v⊢
  obtain⟨v1,v2⟩:=v
  rcases iX i _ _ hi QP with⟨jy,k1,k2,k3,k4,k5⟩|⟨k1,_⟩
  ·have HN:c.R ex[i]=some jy:=by rw[hs.rows];exact k1
   rcases hinv i _ hi with⟨h1,h2⟩|h1
   ·rcases hs.reach.og _ _ HN v2 with⟨h3,h4,h5⟩|h3
    ·left
     rw[<-h1]at h3 h4
     refine⟨h3,h4,h5.trans ?_⟩
     rw[<-h1]
    ·exact .inr h3
   ·exact .inr (Dd _ _ HN v2 h1)
  ·exact(v1 (by rw[hs.rows];exact k1)).elim
theorem WO:∀{env:List (Nat×D)} {t k:Nat},k∈CQ (look env t)->k∈Ax env
 |[],t,k,h=>by simp[look,CQ,FN,AY]at h
 |(u,d)::l,t,k,h=>by
  rw[Bl]at h
  simp only[Ax,bX]
  split at h
  ·exact .inl h
  ·exact .inr (WO h)
theorem WQ:∀{R:Rows} {r:Nat} {x:Row} {k:Nat},R.getD r none=some x->k∈kX [x]->k∈Gm R
 |some y::l,0,x,k,h,hk=>by
  simp at h;subst h
  simp only[Gm,bX];exact .inl hk
 |none::l,0,x,k,h,hk=>by simp at h
 |y::l,r+1,x,k,h,hk=>by
  have:=WQ (R:=l) (r:=r) (by simpa[aK]using h) hk
  cases y<;>simp[Gm,this]
 |[],r,x,k,h,_=>by simp[aK]at h
theorem VRep.toRep{c:Ctx}{w:World}{d:D}{v:Value}(h:VRep c w d v):Rep c w d v:=by
 cases d<;>first|exact h|trivial|exact h.elim
theorem Rep.toVRep{c:Ctx}{w:World}{d:D}{v:Value}(hv:d.isVal=true)(h:Rep c w d v):VRep c w d v:=by
 cases d<;>first|exact h|(simp[D.isVal]at hv)
theorem j8.length{c:Ctx}{w:World}:∀{ds:List D} {vs:List Value},j8 c w ds vs->ds.length=vs.length
 |[],[],_=>rfl
 |_::_,_::_,h=>by simp[j8.length h.2]
 |[],_::_,h=>h.elim
 |_::_,[],h=>h.elim
theorem Z2z:∀{ds:List D} {i t:Nat},(∃j,t=i+j/\j<ds.length/\look (FW ds i) t=ds.getD j .dead)\/look (FW ds i) t=.dead
 |[],i,t=>.inr rfl
 |d ::ds,i,t=>by
  simp only[FW,Bl]
  by_cases e:i=t
  ·left;exact⟨0,by omega,by simp,by rw[if_pos e];rfl⟩
  ·rw[if_neg e]
   rcases Z2z (ds:=ds) (i:=i+1) (t:=t)with⟨j,h1,h2,h3⟩|h
   ·left;exact⟨j+1,by omega,by simpa using h2,by simpa using h3⟩
   ·right;exact h
theorem Zm0{c:Ctx}{w:World}{ds:List D}{vs:List Value}(h:j8 c w ds vs)(n t:Nat):Rep c w (look (FW ds 0) t) ((vs.toArray++gL n undef).getD t undef):=by
 rcases Z2z (ds:=ds) (i:=0) (t:=t)with⟨j,h1,h2,h3⟩|h1
 ·obtain⟨v,hv,hr⟩:=ZE h j h2
  rw[h3]
  have:t=j:=by omega
  subst this
  have hx:(vs.toArray++gL n undef).getD t undef=v:=by
   have cg:=(List.getElem?_eq_some_iff.1 hv).1
   have hvv:=(List.getElem?_eq_some_iff.1 hv).2
   simp[Array.getElem?_append,cg,hvv]
  rw[hx]
  exact hr.toRep
 ·rw[h1];trivial
theorem Zo4{T:fq}{t:TypeId}{x:D}{R:Rows}{K:D->Rows->Prop}(h:w5 T t x R K){c:Ctx}{w:World}{v:Value}(hr:Rep c w x v):∃a,v=.pointer (some a):=by
 unfold w5 at h
 split at h
 ·exact h.elim
 ·cases x<;>simp only at h
  case ptr r i off=>obtain⟨_,_,_,_,hv⟩:=hr;exact⟨_,hv⟩
  case pa r i off len k n=>obtain⟨_,_,_,_,_,hv⟩:=hr;exact⟨_,hv⟩
  case iu sz es i off=>obtain⟨_,_,_,_,_,hv,_⟩:=hr;exact⟨_,hv⟩
def MI(tmps:Array Value):ResultVar->Sem Value
 |.tmp t=>pure (tmps.getD t undef)
 |.cell a t=>do loadVar t (<-asAddr (tmps.getD a undef))
theorem Vb{P:Program}{T:fq}(hT:jz P T){R:Rows}{env:List (Nat×D)}:∀{l:List ResultVar} {K:List D->Prop},FX T R env l K->
 ∃ds,K ds/\∀c w (tmps:Array Value),Mem c w->mJ c R->(∀t,Rep c w (look env t) (tmps.getD t undef))->∃vs,(l.mapM (MI tmps)).run P w=.ok vs w/\j8 c w ds vs
 |[],K,h=>⟨[],h,λc w tmps _ _ _=>⟨[],rfl,trivial⟩⟩
 |.tmp t::l,K,h=>by
  simp only[FX,D.cq,da]at h
  obtain⟨hv,h⟩:=h
  obtain⟨ds,hK,hr⟩:=Vb hT h
  refine⟨_,hK,λc w tmps hm hA he=>?_⟩
  obtain⟨vs,h1,h2⟩:=hr c w tmps hm hA he
  refine⟨tmps.getD t undef::vs,?_,(he t).toVRep hv,h2⟩
  simp only[gN,Sem.run_bind,MI,Sem.run_pure,Result.andThen_ok,h1]
 |.cell a t::l,K,h=>by
  simp only[FX]at h
  obtain⟨val,Vc,DF⟩:=Zev hT h
  simp only[da]at Vc
  obtain⟨hv,Vc⟩:=Vc
  obtain⟨ds,hK,hr⟩:=Vb hT Vc
  refine⟨_,hK,λc w tmps hm hA he=>?_⟩
  obtain⟨vs,h1,h2⟩:=hr c w tmps hm hA he
  obtain⟨u,hu,hx⟩:=DF c w _ hm hA (he a)
  obtain⟨ad,had⟩:=Zo4 h (he a)
  rw[had,UR]at hu
  refine⟨u::vs,?_,hx.toVRep hv,h2⟩
  simp only[gN,Sem.run_bind,MI,had,asAddr,Sem.run_pure,Result.andThen_ok,hu,h1]
def De:List Value->Value
 |[v]=>v
 |vs=>.tuple vs.toArray
theorem Z25{P:Program}{fn:Func}{tmps:Array Value}{w:World}{vs:List Value}(h:(fn.results.toList.mapM (MI tmps)).run P w=.ok vs w):(results fn tmps).run P w=.ok (De vs) w:=by
 have h2:(fn.results.mapM (MI tmps)).run P w=.ok vs.toArray w:=by
  rw[<-bS (xs:=fn.results),List.mapM_toArray]
  simp only[Sem.run_map,h,Result.andThen_ok]
 have h3:(results fn tmps)=(fn.results.mapM (MI tmps))>>=λvs=>pure (if h:vs.size=1 then vs[0]else .tuple vs):=by
  unfold results
  congr 1
 rw[h3,Sem.run_bind,h2]
 simp only[Result.andThen_ok,Sem.run_pure]
 congr 1
 match vs with
 |[]=>rfl
 |[v]=>rfl
 |_::_::_=>rfl
theorem fw.Nw{N M:Nat}{c0:Ctx}{w0:World}{c:Ctx}{w:World}{st:St}{a:Act}(hs:fw N M c0 w0 c w st a){b:Nat}(hb:w0.heap.size<=b){o o':Obj}(ho:w.heap[b]?=some o)(hc:∀arr ty fz,o≠.cells arr ty fz)
 {Fk:Nat->Prop} (gF:∀k ws v,Fk k->r7 c w k ws v->r7 {c with I:=λx=>c.I x/\x≠b} (w.putObj b o') k ws v) (hE:∀t,∀k∈CQ (look st.env t),Fk k) (hR:∀r x,c.R r=some x->∀k∈kX [x],Fk k) {ds:List Deferred} (hd:mc w0.heap.size (w.putObj b o') ds):
 fw N M c0 w0 {c with I:=λx=>c.I x/\x≠b} (w.putObj b o') st {a with defers:=ds}:=by
 have cb:∀r x,c.R r=some x->¬c.V r->c.ρ r≠b:=λr x hr hV e=>by
  rcases hs.mem.row r x hr with h|⟨_,arr,h,_⟩
  ·exact hV h.1
  ·rw[e,ho]at h;exact hc _ _ _ (Option.some.inj h)
 have hh:∀r x,c.R r=some x->¬c.V r->(w.putObj b o').heap[c.ρ r]?=w.heap[c.ρ r]? :=λr x hr hV=>World.putObj_heap_other (cb r x hr hV)
 have hg:JL c w {c with I:=λx=>c.I x/\x≠b} (w.putObj b o'):=by
  refine⟨rfl,aO _,λx arr ty fz hI hx=>?_,λr x hr=>⟨x,hr,rfl,rfl,rfl,rfl,rfl,Iff.rfl,λhV arr ha=>⟨arr,(hh r x hr hV).trans ha,rfl⟩⟩⟩
  have gl:x≠b:=λe=>by subst e;rw[ho]at hx;exact hc _ _ _ (Option.some.inj hx)
  exact⟨⟨hI,gl⟩,(World.putObj_heap_other gl).trans hx⟩
 have jA:∀x,c0.I x->x≠b:=λx hx e=>by
  obtain⟨h1,h2⟩:=hs.reach.bz.I x hx
  have h3:=(hs.mem.fu x h1).1
  rw[e,ho]at h2
  have:=(Array.getElem?_eq_some_iff.1 h2.symm).1
  omega
 refine⟨ZB hs.mem hg hh gF hR (λx hx=>⟨by simpa using(hs.mem.fu x hx.1).1,(hs.mem.fu x hx.1).2⟩) (by simp),hs.rows,λt=>Zn1 hg gF (hE t) (hs.env t),hs.size,hd,hs.gh,hs.gw,?_⟩
 refine⟨⟨hs.reach.bz.base,hs.reach.bz.top,λx hx=>?_,λr row hr=>?_⟩,⟨hs.reach.fr.os,hs.reach.fr.tape,hs.reach.fr.output,by simpa using hs.reach.fr.size,λx hx hn=>?_⟩,λx hx=>hs.reach.fu x hx.1,hs.reach.og,hs.reach.xb⟩
 ·obtain⟨h1,h2⟩:=hs.reach.bz.I x hx
  exact⟨⟨h1,jA x hx⟩,(World.putObj_heap_other (jA x hx)).trans h2⟩
 ·obtain⟨ak,h1,h2,h3,h4,h5,h6,hV,h7⟩:=hs.reach.bz.R r row hr
  refine⟨ak,h1,h2,h3,h4,h5,h6,hV,λnv arr ha=>?_⟩
  obtain⟨iO,g1,g2⟩:=h7 nv arr ha
  refine⟨iO,?_,g2⟩
  rw[World.putObj_heap_other]
  ·exact g1
  ·intro e;rw[e,ho]at g1;exact hc _ _ _ (Option.some.inj g1)
 ·rw[World.putObj_heap_other (by omega)];exact hs.reach.fr.heap x hx hn
theorem fw.edit{N M:Nat}{c0:Ctx}{w0:World}{c:Ctx}{w:World}{st:St}{a:Act}(hs:fw N M c0 w0 c w st a){l:Nat}(hI:c0.I l){rec:Loop}{o':Obj}(ho:w0.heap[l]?=some (.loop rec))(Df:∀r x,c0.R r=some x->¬c0.V r->c0.ρ r≠l)
 (oL:sD (Ax st.env++Gm st.rows)=true):fw N M {c0 with I:=λx=>c0.I x/\x≠l} (w0.putObj l o') {c with I:=λx=>c.I x/\x≠l} (w.putObj l o') st a:=by
 have hl:w.heap[l]?=some (.loop rec):=(hs.reach.bz.I l hI).2.trans ho
 have Jaa:=(Array.getElem?_eq_some_iff.1 ho).1
 have cg:=(Array.getElem?_eq_some_iff.1 hl).1
 have cb:∀r x,c.R r=some x->¬c.V r->c.ρ r≠l:=λr x hr hV=>(hs.mem.fu l (hs.reach.bz.I l hI).1).2 r x hr hV
 have hh:∀r x,c.R r=some x->¬c.V r->(w.putObj l o').heap[c.ρ r]?=w.heap[c.ρ r]? :=λr x hr hV=>World.putObj_heap_other (cb r x hr hV)
 have gF:∀k ws v,k<YB->r7 c w k ws v->r7 {c with I:=λx=>c.I x/\x≠l} (w.putObj l o') k ws v:=λk ws v hk hv=>by
  rcases hv with hv|⟨hv,_⟩
  ·exact .inl hv
  ·omega
 have hg:JL c w {c with I:=λx=>c.I x/\x≠l} (w.putObj l o'):=by
  refine⟨rfl,aO _,λx arr ty fz hI hx=>?_,λr x hr=>⟨x,hr,rfl,rfl,rfl,rfl,rfl,Iff.rfl,λhV arr ha=>⟨arr,(hh r x hr hV).trans ha,rfl⟩⟩⟩
  have gl:x≠l:=λe=>by subst e;rw[hl]at hx;cases hx
  exact⟨⟨hI,gl⟩,(World.putObj_heap_other gl).trans hx⟩
 refine⟨ZB hs.mem hg hh gF (λr x hr k hk=>Nx oL (gO _ (WQ (by rw[<-hs.rows];exact hr) hk))) (λx hx=>⟨by simpa using(hs.mem.fu x hx.1).1,(hs.mem.fu x hx.1).2⟩) (by simp),hs.rows,λt=>Zn1 hg gF (λk hk=>Nx oL (gP _ (WO hk))) (hs.env t),hs.size,?_,by simpa using hs.gh,hs.gw,?_⟩
 ·have:=hs.defers.to (w':=w.putObj l o') λb hb=>(World.putObj_heap_other λe=>by rw[e,hl]at hb;cases hb).trans hb
  simpa using this
 refine⟨⟨hs.reach.bz.base,hs.reach.bz.top,λx hx=>?_,λr row hr=>?_⟩,⟨hs.reach.fr.os,hs.reach.fr.tape,hs.reach.fr.output,by simpa using hs.reach.fr.size,λx hx hn=>?_⟩,λx hx=>?_,λr row hr hv=>?_,hs.reach.xb⟩
 ·obtain⟨h1,h2⟩:=hs.reach.bz.I x hx.1
  exact⟨⟨h1,hx.2⟩,(World.putObj_heap_other hx.2).trans (h2.trans (World.putObj_heap_other hx.2).symm)⟩
 ·obtain⟨ak,h1,h2,h3,h4,h5,h6,hV,h7⟩:=hs.reach.bz.R r row hr
  refine⟨ak,h1,h2,h3,h4,h5,h6,hV,λnv arr ha=>?_⟩
  rw[World.putObj_heap_other (Df r row hr nv)]at ha
  obtain⟨iO,g1,g2⟩:=h7 nv arr ha
  refine⟨iO,?_,g2⟩
  rw[World.putObj_heap_other]
  ·exact g1
  ·intro e;rw[e,hl]at g1;cases g1
 ·by_cases e:x=l
  ·subst e;rw[World.putObj_heap_same cg,World.putObj_heap_same Jaa]
  ·rw[World.putObj_heap_other e,World.putObj_heap_other e]
   exact hs.reach.fr.heap x (by simpa using hx) hn
 ·rcases hs.reach.fu x hx.1 with g|g|g
  ·exact .inl ⟨g,hx.2⟩
  ·exact .inr (.inl g)
  ·exact .inr (.inr (by simpa using g))
 ·rcases hs.reach.og r row hr hv with g|g|g
  ·exact .inl g
  ·exact .inr (.inl g)
  ·exact .inr (.inr (by simpa using g))
theorem leaves{P:Program}{fn:Func}{R:Ending->World->Prop}{N M:Nat}{c0:Ctx}{w0:World}{c:Ctx}{w:World}{st:St}{a:Act}(hs:fw N M c0 w0 c w st a)
 (h:∀c' w' a',a'.tmps=a.tmps->fw N M c0 w0 c' w' st a'->∃v,(results fn a'.tmps).run P w'=.ok v w'/\R (.returned v) w'):LeavesInM Fence.wide 0 P fn a.tmps R a.defers .returning w:=by
 obtain⟨bs,kZ,Eo,Vd⟩:=hs.defers
 revert c w a
 induction bs with
 |nil=>
  intro c w a hs h Eo Vd
  rw[Eo]
  obtain⟨v,h1,h2⟩:=h c w a rfl hs
  exact⟨v,h1,h2⟩
 |cons b bs ih=>
  intro c w a hs h Eo Vd
  obtain⟨h1,h2⟩:=Vd b (by simp)
  rw[List.nodup_cons]at kZ
  rw[Eo]
  refine⟨by simp,.inl ⟨b,_,rfl,run_takeDeferred h2,?_⟩⟩
  have QQ:∀x∈bs,w0.heap.size<=x/\(w.putObj b (.deferred none)).heap[x]?=some (.deferred (some [])):=λx hx=>by
   obtain⟨g1,g2⟩:=Vd x (by simp[hx])
   exact⟨g1,(World.putObj_heap_other (λe=>kZ.1 (by rw[<-e];exact hx))).trans g2⟩
  refine ih kZ.2 (a:={a with defers:=bs.map λb=>({target:=.collected b,args:= #[]}:Deferred)}) (hs.Nw h1 h2 (λ_ _ _ e=>by cases e) (Fk:=λ_=>True) (λk ws v _ hv=>?_) (λ_ _ _=>trivial) (λ_ _ _ _ _=>trivial) ⟨bs,kZ.2,rfl,QQ⟩) h rfl QQ
  rcases hv with hv|⟨g1,l,rec,g2,g3,g4,g5⟩
  ·exact .inl hv
  ·have gl:l≠b:=λe=>by rw[e,h2]at g4;cases g4
   exact .inr ⟨g1,l,rec,g2,⟨g3,gl⟩,(World.putObj_heap_other gl).trans g4,g5⟩
theorem qaQ{P:Program}(hD:Qf P){T:fq}(hT:jz P T){G:List bc}(hG:jT P G){f:FuncId}{fn:Func}(hf:P.funcs[f]?=some fn){args:List D}{rows:List Row}{res:D}{aj:List Row}
 {rf:Option Nat} (nt:∀code,fn.body=some code->RF rf fn.ntmps code) {L:Code->St->(Ex->St->Prop)->Prop} (hL:∀code st Q,RF rf fn.ntmps code->L code st Q->Tr P fn.ntmps rows.length code st Q) {Q0:D->Rows->Prop} (Dg:∀d R,Q0 d R->AB rows.length res aj d R) (h:nz T G L fn args rows Q0):j9 P f args rows res aj:=by
 intro c w vs hm jj hR gb
 unfold nz at h
 split at h
 ·rename_i code hb
  have hs:fw fn.ntmps rows.length {c with X:=λ_=>False} w c w ⟨FW args 0,rows.map some⟩ {tmps:=vs.toArray++gL (fn.ntmps-vs.toArray.size) undef,defers:=[]}:=
   ⟨hm,λr=>by
    rw[hR]
    simp only[aK,fL]
    cases rows[r]? <;>rfl,λt=>Zm0 gb _ t,by simp;omega,mc.nil,Nat.le_of_eq jj,λr row h=>by have h:c.R r=some row:=h;rw[hR]at h;exact(List.getElem?_eq_some_iff.1 h).1,Aj.refl c w⟩
  refine callsIn_wide.1 (callsIn_of_wp_marks (F:=Fence.wide) (n:=0) hf hb trivial (wpIn_mono (Ny (ro:=none) hD hT hG (Nz rf fn.ntmps) hL code _ _ (nt _ hb) h _ w c w _ hs) λe a' w' hq=>?_))
  obtain⟨ex,st,c1,he,hq,mK⟩:=hq
  have fin:(FX T st.rows st.env fn.results.toList λds=>match ds with|[d]=>Q0 d st.rows|ds=>Q0 (.dt ds) st.rows)->
   LeavesInM Fence.wide 0 P fn a'.tmps (λe w'=>∃v' c',e=.returned v'/\lP c w c' w'/\(∀r,c'.R r=aj[r]?)/\Rep c' w' res v') a'.defers .returning w':=by
   intro kQ
   refine leaves mK λc1 w' a' jC mK=>?_
   obtain⟨ds,hK,hr⟩:=Vb hT kQ
   have o7:mJ c1 st.rows:=λr row ak h1 h2=>by rw[mK.rows,h2]at h1;exact(Option.some.inj h1).symm
   obtain⟨us,ig,Dh⟩:=hr c1 w' a'.tmps mK.mem o7 mK.env
   have tf:=Z25 ig
   obtain⟨d,v,JU,hv,oB⟩:∃d v,AB rows.length res aj d st.rows/\De us=v/\Rep c1 w' d v:=by
    match ds,us,Dh with
    |[d],[u],hx=>exact⟨d,u,Dg _ _ hK,rfl,hx.1.toRep⟩
    |[],[],hx=>exact⟨.dt [],_,Dg _ _ hK,rfl,[],rfl,trivial⟩
    |d::e::ds,u::v::us,hx=>exact⟨.dt (d::e::ds),_,Dg _ _ hK,rfl,_,rfl,hx⟩
    |[],_::_,hx=>exact hx.elim
    |[_],[],hx=>exact hx.elim
    |[_],_::_::_,hx=>exact hx.2.elim
    |_::_::_,[],hx=>exact hx.elim
    |_::_::_,[_],hx=>exact hx.2.elim
   rw[hv]at tf
   obtain⟨ex,hex,hd,cw⟩:=JU
   obtain⟨fi,gy,gd⟩:=SR mK hex cw
   exact⟨v,tf,v,c1.out _ aj,rfl,⟨gy,⟨gd.bz.base,gd.bz.top,gd.bz.I,gd.bz.R⟩,gd.fr.mono (λb _ hb=>hb.elim id False.elim),λb hb=>(gd.fu b hb).imp id (λh=>h.elim False.elim id),λr ak h1 h2=>(gd.og r ak h1 h2).imp id (λh=>h.elim False.elim id)⟩,λr=>rfl,SQ mK.mem mK.rows cw fi hd oB⟩
  cases e<;>simp only[mW,Option.some.injEq,reduceCtorEq]at he
  ·subst he;exact fin hq
  ·subst he;exact hq.elim
  ·subst he;exact fin hq
 ·exact h.elim
theorem zaa{k:Nat}{rows:List Row}{c:Ctx}{w:World}{c':Ctx}{w':World}(gy:Mem c' w')(gd:Aj {c.kill (bK k (rows.length-k))with X:=λb=>∃s row,bw s (bK k (rows.length-k))=true/\c.R s=some row/\¬c.V s/\c.ρ s=b} w c' w'):
 jF (bK k (rows.length-k)) c w c' w':=by
 refine⟨gy,⟨gd.bz.base,gd.bz.top,gd.bz.I,gd.bz.R⟩,gd.fr.mono (λb _ hb=>?_),λb hb=>gd.fu b hb,λr ak h1 h2=>?_⟩
 ·rcases hb with⟨r,x,h1,h2,h3⟩|⟨r,x,_,h1,h2,h3⟩
  ·obtain⟨_,row,g1,_⟩:=oh (c:=c) (ks:=bK k (rows.length-k)) h1
   exact⟨r,row,g1,h2,h3⟩
  ·exact⟨r,x,h1,h2,h3⟩
 ·rcases gd.og r ak h1 h2 with⟨⟨x,g1⟩,g2,g3⟩|⟨s,x,q1,q2,q3,q4⟩|g
  ·obtain⟨_,row,p1,_⟩:=oh (c:=c) (ks:=bK k (rows.length-k)) g1
   exact .inl ⟨⟨row,p1⟩,g2,g3⟩
  ·exact .inr (.inl ⟨s,x,q1,q2,q3,q4.symm⟩)
  ·exact .inr (.inr g)
theorem Zms:∀{rows:List Row} {r:Nat} {x:Row} {k:Nat},rows[r]?=some x->k∈kX [x]->k∈kX rows
 |y::l,0,x,k,h,hk=>by
  simp at h;subst h
  unfold kX at hk⊢
  split<;>simp_all [kX]
 |y::l,r+1,x,k,h,hk=>by
  have:=Zms (rows:=l) (by simpa using h) hk
  unfold kX
  split<;>simp_all
 |[],r,x,k,h,_=>by simp at h
theorem Zlq{c:Ctx}{w:World}{tm oW:Array Value}:∀{ts:List Nat} {ds:List D},j8 c w ds (ts.map λt=>tm.getD t undef)->(∀t∈ts,oW.getD t undef=tm.getD t undef)->∀t,Rep c w (look (oE ts ds) t) (oW.getD t undef)
 |[],ds,_,_,t=>by cases ds<;>trivial
 |u::ts,[],h,_,t=>h.elim
 |u::ts,d::ds,h,ht,t=>by
  simp only[oE,Bl]
  split
  ·rename_i e;rw[<-e,ht u (by simp)];exact h.1.toRep
  ·exact Zlq h.2 (λt h=>ht t (by simp[h])) t
theorem yw{P:Program}{F:Fence}{y:YK}{d:Nat}(hd:y.pos=some d){x:Value}{tm:Array Value}(hn:y.n<=tm.size){w:World}{K:Act->World->Prop}{l:Nat}
 (hK:∀oW,oW.size=tm.size->oW.getD d undef=x->(∀t∈y.ts,oW.getD t undef=tm.getD t undef)->K {tmps:=oW,defers:=[]} w):
 y.assign.wpIn (Bo (some l)) 0 P (Exit.then K λ_ _ _=>False) {tmps:=(y.ps.zip #[x]).foldl (λtmps (t,a)=>tmps.setIfInBounds t a) tm,defers:=[]} w:=by
 have cu:∀(p:Nat) (JV:Array Value) (t:Nat),t≠p->(JV.setIfInBounds p x).getD t undef=JV.getD t undef:=λp JV t h=>by
  simp[aF,aQ (Ne.symm h)]
 have here:∀(p:Nat) (JV:Array Value),p<JV.size->(JV.setIfInBounds p x).getD p undef=x:=λp JV h=>by
  simp[aF,h]
 unfold YK.pos at hd
 split at hd
 ·rename_i p mh has
  have mh:y.ps= #[p]:=by rw[<-bS (xs:=y.ps),mh]
  split at hd
  ·rename_i hc
   cases hd
   simp only[aE,gQ,aS]at hc
   have hp:d<tm.size:=bI (lE hc.1) hn
   rw[has,mh]
   refine wpIn_skip (hK _ (by simp) ?_ λt ht=>?_)
   ·simpa using here d tm hp
   ·have:=cu d tm t (λe=>by have:=(hc.2 t ht).1;rw[e]at this;simp at this)
    simpa using this
  ·cases hd
 ·rename_i p id ops mh has
  have mh:y.ps= #[p]:=by rw[<-bS (xs:=y.ps),mh]
  split at hd
  ·rename_i e q ty po af Di
   have Di:ops= #[⟨some e,.assign (.tmp q),ty,po,af,none⟩]:=by rw[<-bS (xs:=ops),Di]
   split at hd
   ·rename_i hc
    cases hd
    simp only[aE,gQ,aS]at hc
    obtain⟨⟨hq,hp,hd⟩,EO⟩:=hc
    have hq:=bE hq
    subst hq
    have hp:q<tm.size:=bI (lE hp) hn
    have hd:d<tm.size:=bI (lE hd) hn
    rw[has,mh,Di]
    refine Zi6 ?_
    show wpOp P _ _ 0 _ _ _
    unfold wpOp
    simp only[List.getElem?_toArray,List.getElem?_cons_zero]
    rw[if_pos (by simp[Region.wanted])]
    refine Gi (u:=x) (w':=w) ?_ ?_
    ·have:(tm.setIfInBounds q x).getD q undef=x:=here q tm hp
     simp only[execOp,Act.eval]
     simp[aF,hp]
    ·show K {tmps:=Array.setIfInBounds _ d x,defers:=[]} w
     refine hK _ (by simp) ?_ λt ht=>?_
     ·exact here d _ (by simpa using hd)
     ·have h1:=(EO t ht).1
      rw[cu d _ t (λh=>by rw[h]at h1;simp at h1)]
      have:=cu q tm t (λh=>by rw[h]at h1;simp at h1)
      simpa using this
   ·cases hd
  ·cases hd
 ·cases hd
inductive uT(P:Program)(f:FuncId)(fn:Func)(cl:Prop):Prop where
 |real (h:f<YB) (hf:P.funcs[f]?=some fn) (hb:gR YB fn.nfree=false)
 |yield (h:YB<=f) (y:YK) (d:Nat) (hy:FV f=some y) (hd:y.pos=some d) (hb:fn.body=some y.body) (hn:gR YB fn.nfree=true) (QR:bT fn.nfree YB=true) (hp:fn.params.toList=d::y.ts) (ht:fn.ntmps=y.n) (hc:cl)
 |uU (h:YB<=f) (y:YK) (q:Nat) (hy:FV f=some y) (mh:y.ps= #[q]) (hq:(Nat.blt q y.n&&y.ts.all λt=>!(bT t q))=true) (hb:fn.body=some (.seq y.assign y.body)) (hn:gR YB fn.nfree=true) (QR:bT fn.nfree YB=false) (hp:fn.params.toList=q::y.ts) (ht:fn.ntmps=y.n) (hc:cl)
theorem JW{N k:Nat}{rows:List Row}{c:Ctx}{w:World}{env:List (Nat×D)}{tm:Array Value}(hm:Mem c w)(jj:c.base=0)(hR:∀r,c.R r=rows[r]?)(tg:∀t,Rep c w (look env t) (tm.getD t undef))(fx:N<=tm.size):
 fw N k {c.kill (bK k (rows.length-k))with X:=λb=>∃s row,bw s (bK k (rows.length-k))=true/\c.R s=some row/\¬c.V s/\c.ρ s=b} w c w ⟨env,rows.map some⟩ {tmps:=tm,defers:=[]}:=by
 refine⟨hm,λr=>by
  rw[hR]
  simp only[aK,fL]
  cases rows[r]? <;>rfl,tg,fx,mc.nil,by simp[Ctx.kill,jj],λr row h=>?_,⟨⟨rfl,aO _,λ_ h=>⟨h,rfl⟩,λr x hx=>?_⟩,Fr.refl _ w,λ_ h=>.inl h,λr row hr hv=>?_,λ_ _=>by simp[Ctx.kill,jj]⟩⟩
 ·obtain⟨h1,ak,h2,_⟩:=oh (c:=c) (ks:=bK k (rows.length-k)) h
  rw[hR]at h2
  have cg:=(List.getElem?_eq_some_iff.1 h2).1
  by_cases hk:r<k
  ·exact hk
  ·rw[Mr.2 (by omega)]at h1;cases h1
 ·obtain⟨_,row,h2,rfl⟩:=oh (c:=c) (ks:=bK k (rows.length-k)) hx
  obtain⟨s1,s2,s3,s4⟩:=wq (bK k (rows.length-k)) row
  exact⟨row,h2,s1.symm,s2.symm,s3.symm,s4.symm,rfl,Iff.rfl,λ_ arr ha=>⟨arr,by rw[s2]at ha⊢;exact ha,rfl⟩⟩
 ·cases hb:bw r (bK k (rows.length-k))with
  |true=>exact .inr (.inl ⟨r,row,hb,hr,hv,rfl⟩)
  |false=>exact .inl ⟨⟨row.kill (bK k (rows.length-k)),by simp[Ctx.kill,hb,hr]⟩,hv,rfl⟩
theorem Zif{c:Ctx}{w:World}{tm oW:Array Value}{ps:List Nat}{d:Nat}{ts:List Nat}(Dj:ps=d::ts){args:List D}{vs us:List Value}{x:Value}(BX:vs=[x]++us)(wV:us=ts.map λt=>tm.getD t undef)(gb:j8 c w args vs)(hx:oW.getD d undef=x)(EO:∀t∈ts,oW.getD t undef=tm.getD t undef):
 ∀t,Rep c w (look (oE ps args) t) (oW.getD t undef):=by
 subst Dj
 subst BX
 match args,gb with
 |[],hx=>exact hx.elim
 |A::As,⟨hA,hAs⟩=>
  intro t
  simp only[oE,Bl]
  split
  ·rename_i e;rw[<-e,hx];exact hA.toRep
  ·exact Zlq (by rw[wV]at hAs;exact hAs) EO t
theorem Z9v{P:Program}(hD:Qf P){T:fq}(hT:jz P T){G:List bc}(hG:jT P G){n k:Nat}{rows:List Row}{res:D}{aj:List Row}{code:Code}{L:Code->St->(Ex->St->Prop)->Prop}(hL:∀ro code st Q,L code st Q->tU ro P n k code st Q){Q0:D->Rows->Prop}(Dg:∀d R,Q0 d R->AB k res aj d R)
 {c:Ctx} {w:World} {l:Nat} {rec:Loop} (hm:Mem c w) (hI:c.I l) (hl:w.heap[l]?=some (.loop rec)) (jQ:rec.state=.ready) (DK:rec.pending=none) {st:St} {c2:Ctx} {w2:World} {a:Act}
 (hs:fw n k {({c with I:=λb=>c.I b/\b≠l}:Ctx).kill (bK k (rows.length-k))with X:=λb=>∃s row,bw s (bK k (rows.length-k))=true/\c.R s=some row/\¬c.V s/\c.ρ s=b} (w.putObj l (.loop {rec with state:=.busy})) c2 w2 st a)
 (h:ph T G n k L code st λe st=>match e with|.normal=>Q0 (.bool true) st.rows|_=>False):
 code.wpIn (Bo (some l)) 0 P (roundPost P l λe w'=>∃v' c',e=.returned v'/\jF (bK k (rows.length-k)) c w c' w'/\(∀r,c'.R r=aj[r]?)/\Rep c' w' res v') a w2:=by
 have cg:=(Array.getElem?_eq_some_iff.1 hl).1
 obtain⟨ĉ,hĉ⟩:∃ĉ:Ctx,ĉ={c with I:=λb=>c.I b/\b≠l}:=⟨_,rfl⟩
 obtain⟨wb,JX⟩:∃wb,wb=w.putObj l (.loop {rec with state:=.busy}):=⟨_,rfl⟩
 have cb:∀r x,c.R r=some x->¬c.V r->c.ρ r≠l:=λr x hr hV=>(hm.fu l hI).2 r x hr hV
 have JY:∀b,b≠l->wb.heap[b]?=w.heap[b]? :=λb hb=>by rw[JX];exact World.putObj_heap_other hb
 have h2l:wb.heap[l]?=some (.loop {rec with state:=.busy}):=by rw[JX];exact World.putObj_heap_same cg
 have FY:wb.heap.size=w.heap.size:=by rw[JX];simp
 have hs:fw n k {ĉ.kill (bK k (rows.length-k))with X:=λb=>∃s row,bw s (bK k (rows.length-k))=true/\ĉ.R s=some row/\¬ĉ.V s/\ĉ.ρ s=b} wb c2 w2 st a:=by rw[hĉ,JX];exact hs
 refine wpIn_mono (Ny (ro:=some l) hD hT hG (Nz none n) (λcode st Q _ hl=>hL (some l) code st Q hl) code _ _ trivial h _ wb c2 w2 _ hs) λe a' w3 hq=>?_
 obtain⟨ex,st,c1,he,hq,mK⟩:=hq
 cases e<;>simp only[mW,Option.some.injEq,reduceCtorEq]at he<;>subst he
 rotate_left
 ·exact hq.elim
 ·exact hq.elim
 obtain⟨ex,hex,th,cw⟩:=Dg _ _ hq
 obtain⟨fi,gy,gd⟩:=SR mK hex cw
 have hX:¬({ĉ.kill (bK k (rows.length-k))with X:=λb=>∃s row,bw s (bK k (rows.length-k))=true/\ĉ.R s=some row/\¬ĉ.V s/\ĉ.ρ s=b}:Ctx).X l:=fun⟨s,row,_,g1,g2,g3⟩=>by
  rw[hĉ]at g1 g2 g3;exact cb s row g1 g2 g3
 have h3l:w3.heap[l]?=some (.loop {rec with state:=.busy}):=by
  refine(mK.reach.fr.heap l (by rw[FY];exact cg) λhx=>?_).trans h2l
  rcases hx with⟨r,row,g1,g2,g3⟩|hx
  ·obtain⟨_,ak,g4,_⟩:=oh (c:=ĉ) g1
   rw[hĉ]at g2 g3 g4;exact cb r ak g4 g2 g3
  ·exact hX hx
 have ID:=(Array.getElem?_eq_some_iff.1 h3l).1
 have ER:=run_endRound (P:=P) none h3l
 refine⟨_,_,ER,_,{c1.out ex aj with I:=λb=>(c1.out ex aj).I b\/b=l},rfl,?_⟩
 have QS:({({rec with state:=.busy}:Loop)with state:=if(none:Option Code).isNone then .ready else .done,pending:=none}:Loop)=rec:=by
  cases rec;simp only at jQ DK;subst jQ;subst DK;rfl
 rw[QS]
 have nl:¬(c1.out ex aj).I l:=λhx=>by
  rcases gd.fu l hx with h|h|h
  ·obtain⟨h,_⟩:ĉ.I l/\True:=⟨h,trivial⟩
   rw[hĉ]at h;exact h.2 rfl
  ·exact hX h
  ·rw[FY]at h;omega
 have Dk:∀r x,(c1.out ex aj).R r=some x->¬(c1.out ex aj).V r->(c1.out ex aj).ρ r≠l:=λr x hr hV e=>by
  rcases gy.row r x hr with g|⟨_,arr,g,_⟩
  ·exact hV g.1
  ·rw[e,h3l]at g;cases g
 have MJ:∀b,b≠l->(w3.putObj l (.loop rec)).heap[b]?=w3.heap[b]? :=λb hb=>World.putObj_heap_other hb
 have wx:jk (c1.out ex aj) w3 {c1.out ex aj with I:=λb=>(c1.out ex aj).I b\/b=l} (w3.putObj l (.loop rec)):=
  ⟨rfl,aO _,λb hb=>⟨.inl hb,MJ b (λe=>nl (by rw[<-e];exact hb))⟩,λr x hr=>⟨x,hr,rfl,rfl,rfl,rfl,rfl,Iff.rfl,λhV arr ha=>⟨arr,(MJ _ (Dk r x hr hV)).trans ha,rfl⟩⟩⟩
 have hN:=zaa gy gd
 refine⟨⟨⟨λr x hr=>tX wx rfl Iff.rfl (λnv=>MJ _ (Dk r x hr nv)) (gy.row r x hr),gy.inj,λb hb=>?_,by simpa using gy.top,gy.kN.mono wx.I⟩,⟨?_,?_,λb hb=>?_,λr x hr=>?_⟩,⟨?_,?_,?_,?_,λb hb hn=>?_⟩,λb hb=>?_,λr row hr hv=>?_⟩,λr=>rfl,Ak wx (SQ mK.mem mK.rows cw fi th rfl)⟩
 ·rcases hb with hb|hb
  ·simpa using gy.fu b hb
  ·subst hb;exact⟨by simpa using ID,λr x hr hV=>Dk r x hr hV⟩
 ·have:=hN.bz.base;rw[hĉ]at this;exact this
 ·have:=hN.bz.top;rw[hĉ]at this;exact this
 ·by_cases e:b=l
  ·subst e;exact⟨.inr rfl,by rw[World.putObj_heap_same ID,hl]⟩
  ·have:=hN.bz.I b (by rw[hĉ];exact⟨hb,e⟩)
   exact⟨.inl this.1,(MJ b e).trans (this.2.trans (JY b e))⟩
 ·have:=hN.bz.R r x (by rw[hĉ];exact hr)
  obtain⟨x',g1,g2,g3,g4,g5,g6,gV,g7⟩:=this
  rw[hĉ]at g6 gV g7
  refine⟨x',g1,g2,g3,g4,g5,g6,gV,λhV arr ha=>?_⟩
  obtain⟨_,x0,q1,_⟩:=oh (c:=c) hr
  have gl:c.ρ r≠l:=cb r x0 q1 hV
  obtain⟨iO,k1,k2⟩:=g7 hV arr ((JY _ gl).trans ha)
  exact⟨iO,(MJ _ gl).trans k1,k2⟩
 ·rw[JX]at hN;exact hN.fr.os
 ·rw[JX]at hN;exact hN.fr.tape
 ·rw[JX]at hN;exact hN.fr.output
 ·have:=hN.fr.size;rw[FY]at this;simpa using this
 ·by_cases e:b=l
  ·subst e;rw[World.putObj_heap_same ID,hl]
  ·rw[MJ b e,hN.fr.heap b (by rw[FY];exact hb) (by rw[hĉ];exact hn),JY b e]
 ·rcases hb with hb|hb
  ·rcases hN.fu b hb with g|g|g
   ·rw[hĉ]at g;exact .inl g.1
   ·rw[hĉ]at g;exact .inr (.inl g)
   ·rw[FY]at g;exact .inr (.inr g)
  ·subst hb;exact .inl hI
 ·rcases hN.og r row hr hv with g|g|g
  ·rw[hĉ]at g;exact .inl g
  ·rw[hĉ]at g;exact .inr (.inl g)
  ·rw[FY]at g;exact .inr (.inr g)
theorem zaQ{P:Program}(hD:Qf P){T:fq}(hT:jz P T){G:List bc}(hG:jT P G){f:FuncId}{fn:Func}{k:Nat}{args:List D}{rows:List Row}{res:D}{aj:List Row}{rf:Option Nat}(hf:uT P f fn (sD (pC args++kX rows)=true/\rf=none))(nt:∀code,fn.body=some code->RF rf fn.ntmps code)
 {L:Code->St->(Ex->St->Prop)->Prop} (hL:∀ro,(ro=none\/rf=none)->∀code st Q,RF rf fn.ntmps code->L code st Q->tU ro P fn.ntmps k code st Q) {Q0:D->Rows->Prop} (Dg:∀d R,Q0 d R->AB k res aj d R) (h:JZ T G L fn args rows Q0 k):sI P f k args rows res aj:=by
 intro c w vs hm jj hR gb
 unfold JZ at h
 split at h
 rotate_left
 ·exact h.elim
 rename_i code hb
 cases hf with
 |real cg hf pA=>
  simp only[pA]at h
  refine⟨λ_=>?_,λpK=>absurd cg (Nat.not_lt.2 pK)⟩
  have hs:=JW (N:=fn.ntmps) (k:=k) (env:=FW args 0) (tm:=vs.toArray++gL (fn.ntmps-vs.toArray.size) undef) hm jj hR (λt=>Zm0 gb _ t) (by simp;omega)
  refine callsIn_wide.1 (callsIn_of_wp_marks (F:=Fence.wide) (n:=0) hf hb trivial (wpIn_mono (Ny (ro:=none) hD hT hG (Nz rf fn.ntmps) (hL none (.inl rfl)) code _ _ (nt _ hb) h _ w c w _ hs) λe a' w' hq=>?_))
  obtain⟨ex,st,c1,he,hq,mK⟩:=hq
  have fin:(FX T st.rows st.env fn.results.toList λds=>match ds with|[d]=>Q0 d st.rows|ds=>Q0 (.dt ds) st.rows)->
   LeavesInM Fence.wide 0 P fn a'.tmps (λe w'=>∃v' c',e=.returned v'/\jF (bK k (rows.length-k)) c w c' w'/\(∀r,c'.R r=aj[r]?)/\Rep c' w' res v') a'.defers .returning w':=by
   intro kQ
   refine leaves mK λc1 w' a' jC mK=>?_
   obtain⟨ds,hK,hr⟩:=Vb hT kQ
   have o7:mJ c1 st.rows:=λr row ak h1 h2=>by rw[mK.rows,h2]at h1;exact(Option.some.inj h1).symm
   obtain⟨us,ig,Dh⟩:=hr c1 w' a'.tmps mK.mem o7 mK.env
   have tf:=Z25 ig
   obtain⟨d,v,JU,hv,oB⟩:∃d v,AB k res aj d st.rows/\De us=v/\Rep c1 w' d v:=by
    match ds,us,Dh with
    |[d],[u],hx=>exact⟨d,u,Dg _ _ hK,rfl,hx.1.toRep⟩
    |[],[],hx=>exact⟨.dt [],_,Dg _ _ hK,rfl,[],rfl,trivial⟩
    |d::e::ds,u::v::us,hx=>exact⟨.dt (d::e::ds),_,Dg _ _ hK,rfl,_,rfl,hx⟩
    |[],_::_,hx=>exact hx.elim
    |[_],[],hx=>exact hx.elim
    |[_],_::_::_,hx=>exact hx.2.elim
    |_::_::_,[],hx=>exact hx.elim
    |_::_::_,[_],hx=>exact hx.2.elim
   rw[hv]at tf
   obtain⟨ex,hex,hd,cw⟩:=JU
   obtain⟨fi,gy,gd⟩:=SR mK hex cw
   refine⟨v,tf,v,c1.out _ aj,rfl,zaa gy gd,λr=>rfl,SQ mK.mem mK.rows cw fi hd oB⟩
  cases e<;>simp only[mW,Option.some.injEq,reduceCtorEq]at he
  ·subst he;exact fin hq
  ·subst he;exact hq.elim
  ·subst he;exact fin hq
 |yield pK y d hy hd uJ hnf J0 Dj hnt hc=>
  simp only[hnf,J0]at h
  obtain⟨oL,J1⟩:=hc
  rw[uJ]at hb
  cases hb
  refine⟨λcg=>absurd cg (Nat.not_lt.2 pK),λ_ l rec xs us BX hI hl mY iY=>?_⟩
  obtain⟨jQ,DK,y',Ao,mh,has,hbo,QT,h1,wV⟩:=mY
  rw[hy]at Ao;cases Ao
  obtain⟨x,rfl⟩:∃x,xs=[x]:=by
   match xs,iY with
   |[x],_=>exact⟨x,rfl⟩
  rw[mh,has,hbo]
  have real:∀k,k∈pC args++kX rows->k<YB:=λk hk=>Nx oL hk
  have cg:=(Array.getElem?_eq_some_iff.1 hl).1
  have mv:∀arr ty fz,(Obj.loop rec)≠.cells arr ty fz:=λ_ _ _ e=>by cases e
  obtain⟨ĉ,hĉ⟩:∃ĉ:Ctx,ĉ={c with I:=λb=>c.I b/\b≠l}:=⟨_,rfl⟩
  obtain⟨w2,QU⟩:∃w2,w2=w.putObj l (.loop {rec with state:=.busy}):=⟨_,rfl⟩
  have cb:∀r x,c.R r=some x->¬c.V r->c.ρ r≠l:=λr x hr hV=>(hm.fu l hI).2 r x hr hV
  have JY:∀b,b≠l->w2.heap[b]?=w.heap[b]? :=λb hb=>by rw[QU];exact World.putObj_heap_other hb
  have h2l:w2.heap[l]?=some (.loop {rec with state:=.busy}):=by rw[QU];exact World.putObj_heap_same cg
  have FY:w2.heap.size=w.heap.size:=by rw[QU];simp
  have hg:JL c w ĉ w2:=by
   rw[hĉ]
   refine⟨rfl,aO _,λb arr ty fz iI hb=>?_,λr x hr=>⟨x,hr,rfl,rfl,rfl,rfl,rfl,Iff.rfl,λhV arr ha=>⟨arr,(JY _ (cb r x hr hV)).trans ha,rfl⟩⟩⟩
   have gl:b≠l:=λe=>by subst e;rw[hl]at hb;cases hb
   exact⟨⟨iI,gl⟩,(JY b gl).trans hb⟩
  have gF:∀k ws v,k<YB->r7 c w k ws v->r7 ĉ w2 k ws v:=λk ws v hk hv=>by
   rcases hv with hv|⟨hv,_⟩
   ·exact .inl hv
   ·omega
  have Ca:Mem ĉ w2:=by
   rw[hĉ]at hg gF⊢
   refine ZB hm hg (λr x hr hV=>JY _ (cb r x hr hV)) (Fk:=λk=>k<YB) gF (λr x hr k hk=>real k ?_) (λb hb=>⟨by rw[FY];exact(hm.fu b hb.1).1,(hm.fu b hb.1).2⟩) (by rw[FY];exact aO _)
   rw[hR]at hr
   exact gO _ (Zms hr hk)
  have J2:j8 ĉ w2 args vs:=ZA hg (Fk:=λk=>k<YB) gF (λk hk=>real k (gP _ hk)) gb
  refine roundIn_of_wpIn (F:=Fence.wide) (n:=0) trivial (yw (F:=Fence.wide) hd (tm:=rec.tmps) QT λoW fx hx EO=>?_)
  refine⟨w2,by rw[QU];exact run_beginRound hl jQ,?_⟩
  have tg:∀t,Rep ĉ w2 (look (oE fn.params.toList args) t) (oW.getD t undef):=Zif Dj BX wV J2 hx EO
  have hs:=JW (N:=fn.ntmps) (k:=k) (env:=oE fn.params.toList args) (tm:=oW) Ca (by rw[hĉ];exact jj) (by rw[hĉ];exact hR) tg (by rw[fx,hnt];exact QT)
  subst J1
  subst QU
  subst hĉ
  exact Z9v hD hT hG (λro code st Q hl=>hL ro (.inr rfl) code st Q trivial hl) Dg hm hI hl jQ DK hs h
 |uU pK y q hy mh hq uJ hnf J0 Dj hnt hc=>
  simp only[hnf,J0]at h
  obtain⟨oL,J1⟩:=hc
  subst J1
  rw[uJ]at hb
  cases hb
  simp only at h
  refine⟨λcg=>absurd cg (Nat.not_lt.2 pK),λ_ l rec xs us BX hI hl mY iY=>?_⟩
  obtain⟨jQ,DK,y',Ao,Jab,has,hbo,QT,h1,wV⟩:=mY
  rw[hy]at Ao;cases Ao
  obtain⟨x,rfl⟩:∃x,xs=[x]:=by
   match xs,iY with
   |[x],_=>exact⟨x,rfl⟩
  rw[Jab,has,hbo]
  obtain⟨oW,Ve⟩:∃oW,oW=rec.tmps.setIfInBounds q x:=⟨_,rfl⟩
  have hz:((y.ps.zip [x].toArray).foldl (λtmps (t,a)=>tmps.setIfInBounds t a) rec.tmps)=oW:=by rw[mh,Ve];simp
  rw[hz]
  simp only[aE,gQ,aS]at hq
  have hqs:q<rec.tmps.size:=bI (lE hq.1) QT
  have hx:oW.getD q undef=x:=by rw[Ve];simp[aF,hqs]
  have EO:∀t∈y.ts,oW.getD t undef=rec.tmps.getD t undef:=λt ht=>by
   have gl:q≠t:=λe=>by have:=hq.2 t ht;rw[e]at this;simp at this
   rw[Ve];simp[aF,aQ gl]
  have tg:∀t,Rep c w (look (oE fn.params.toList args) t) (oW.getD t undef):=Zif Dj BX wV gb hx EO
  have hs:=JW (N:=fn.ntmps) (k:=k) (env:=oE fn.params.toList args) (tm:=oW) hm jj hR tg (by rw[Ve,hnt];simpa using QT)
  refine roundIn_of_wpIn (F:=Fence.wide) (n:=0) trivial (wpIn_mono (Ny (ro:=some l) hD hT hG (Nz none fn.ntmps) (λcode st Q _ hl=>hL (some l) (.inr rfl) code st Q trivial hl) y.assign _ _ trivial h _ w c w _ hs) λe a1 w1 hq=>?_)
  obtain⟨ex,st1,c1,he,hq,mK⟩:=hq
  cases e<;>simp only[mW,Option.some.injEq,reduceCtorEq]at he<;>subst he
  rotate_left
  ·exact hq.elim
  ·exact hq.elim
  simp only[da]at hq
  obtain⟨Jac,hq⟩:=hq
  have SW:w1.heap[l]?=some (.loop rec):=(mK.reach.bz.I l hI).2.trans hl
  have cb:∀r x,(c.kill (bK k (rows.length-k))).R r=some x->¬c.V r->c.ρ r≠l:=λr x hr hV=>by
   obtain⟨_,x0,q1,_⟩:=oh (c:=c) hr
   exact(hm.fu l hI).2 r x0 q1 hV
  exact⟨_,run_beginRound SW jQ,Z9v hD hT hG (λro code st Q hl=>hL ro (.inr rfl) code st Q trivial hl) Dg hm hI hl jQ DK (mK.edit hI hl cb Jac) hq⟩

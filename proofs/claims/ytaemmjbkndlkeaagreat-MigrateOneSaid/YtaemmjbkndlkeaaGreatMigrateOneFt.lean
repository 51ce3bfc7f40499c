import Derived.Test.YtaemmjbkndlkeaaGreatMigrateOneFb
open List renaming range_eq_range'->gC,getD->aV,getElem?_eq_none->aJ,getElem?_append_left->bI,getElem?_eq_getElem->aI,mem_of_getElem?->fL,range->cW,mem_append->cB,mapM_cons->gG,mem_append_right->eX,mem_append_left->eS,getElem?_map->gH,range'->bO,all_eq_true->gI,all_cons->gJ
open Nat renaming le_refl->aX,beq->bX,ble->gD,lt_of_lt_of_le->bM
open Bool renaming not_eq_true'->bB,false_eq_true->aA
open Array renaming replicate->gE,toArray_toList->bW,getD_eq_getD_getElem?->aQ,getElem?_setIfInBounds_ne->aZ
set_option linter.all false
namespace Go.GD
open Go
theorem fg.jN{N M:Nat}{c0:Ctx}{w0:World}{c:Ctx}{w:World}{st:St}{a:Act}(h:fg N M c0 w0 c w st a){x:Operand}{b:Bool}(hb:cj st.env x=.bool b):fg N M c0 w0 c w (st.jN x b) a:=by
 cases x with
 |tmp t=>exact⟨h.mem,h.rows,λs=>by rw[R7 hb];exact h.env s,h.size,h.defers,h.fw,h.gp,h.reach⟩
 |_=>exact h
theorem fg.G3{N M:Nat}{c0:Ctx}{w0:World}{c:Ctx}{w:World}{st:St}{a:Act}(h:fg N M c0 w0 c w st a){x:Operand}{b:Bool}(hb:a.eval x=.bool b):fg N M c0 w0 c w (st.jN x b) a:=by
 cases x with
 |tmp t=>
  refine⟨h.mem,h.rows,λs=>?_,h.size,h.defers,h.fw,h.gp,h.reach⟩
  simp only[St.jN,Qc]
  split
  ·rename_i e;subst e;exact hb
  ·exact h.env s
 |_=>exact h
theorem zv{P:Program}{T:e7}(hT:jb P T){G:List ba}(hG:jr P G){N M:Nat}{ro:Option Nat}{id:Nat}{ops:Array Oper}{st:St}{Q:Ex->St->Prop}(h:lI T G N M ops ops.toList st λst=>Q .normal st):tF ro P N M (.region id ops false) st Q:=by
 intro c0 w0 c w a hs
 refine Zgu ?_
 have:=qY (P:=P) (ops:=ops) hT hG (Q:=λe a' w'=>∃ex jh c',mC e=some ex/\Q ex jh/\fg N M c0 w0 c' w' jh a') (λst c w a hK hs=>⟨_,st,c,rfl,hK,hs⟩) ops.toList 0 st c w a (by simp) h hs
 rwa [<-gC,Array.length_toList]at this
theorem Z1j{c:Ctx}{w:World}{i n:Nat}{row:Row}(hn:c.R n=some row)(hb:row.box=false)(hV:c.V n):∀{e e':List D},G4 i n e=some e'->e'.length=e.length/\∀arr off,ku c w e arr off->ku c w e' arr off
 |[],e',h=>by simp[G4]at h
 |d ::l,e',h=>by
  unfold G4 at h
  split at h
  ·cases h
   refine⟨rfl,λarr off hc=>?_⟩
   obtain⟨⟨v,hv,h1⟩,⟨u,hu,h2⟩,h3⟩:=hc
   exact⟨⟨v,hv,.inl h1⟩,⟨u,hu,row,hn,hb,.inl ⟨hV,none,h2,MJ⟩⟩,h3⟩
  ·split at h
   ·rename_i l' pq
    cases h
    obtain⟨g1,g2⟩:=Z1j hn hb hV pq
    exact⟨by simp[g1],λarr off hc=>⟨hc.1,g2 arr _ hc.2⟩⟩
   ·cases h
theorem Z14{n:Nat}:∀{R:Rows} {k i:Nat} {ty:TypeId} {sz:Nat} {e':List D},I4 n R k=some (i,ty,sz,e')->∃e j,i=k+j/\R[j]?=some (some ⟨true,ty,sz,.gen [e]⟩)/\G4 i n e=some e'
 |[],k,i,ty,sz,e',h=>by simp[I4]at h
 |x ::l,k,i,ty,sz,e',h=>by
  have next:I4 n l (k+1)=some (i,ty,sz,e')->∃e j,i=k+j/\(x::l)[j]?=some (some ⟨true,ty,sz,.gen [e]⟩)/\G4 i n e=some e':=λh=>by
   obtain⟨e,j,h1,h2,h3⟩:=Z14 h
   exact⟨e,j+1,by omega,by simpa using h2,h3⟩
  unfold I4 at h
  split at h
  ·split at h
   ·rename_i e1 he
    cases h
    exact⟨_,0,rfl,rfl,he⟩
   ·exact next h
  ·exact next h
theorem qat{N M:Nat}{c0:Ctx}{w0:World}{c:Ctx}{w:World}{st:St}{a:Act}{T:e7}{code:Code}{K:St->Prop}(h:I5 T code st K)(hs:fg N M c0 w0 c w st a): ∃jh c',K jh/\fg N M c0 w0 c' w jh a:=by
  unfold I5 at h
  split at h
  . exact⟨st,c,h,hs⟩
  . rename_i u hu
    split at h
    . exact⟨st,c,h,hs⟩
    . rename_i i ty sz e' hf
      simp only[D.e9,mV]at h
      obtain⟨e,j,h1,h2,h3⟩:=Z14 hf
      rw[Nat.zero_add]at h1
      subst h1
      have bg:=(List.getElem?_eq_some_iff.1 h2).1
      have hi:c.R i=some ⟨true,ty,sz, .gen [e]⟩:=by rw[hs.rows,aV,h2];rfl
      have hn:c.R st.rows.length=none:=by rw[hs.rows,aV,aJ (aX _)];rfl
      have gm:i≠st.rows.length:=by omega
      have HL:=VU hs.mem hn (row:=⟨false,u,1, .ints .u8 []⟩) rfl rfl Nat.one_pos
      have VV:=Sd (w:=w) hn ⟨false,u,1, .ints .u8 []⟩
      have VW:(c.jl st.rows.length ⟨false,u,1, .ints .u8 []⟩).R i=some ⟨true,ty,sz, .gen [e]⟩:=by simp [Ctx.jl,gm,hi]
      obtain⟨q1,q2⟩:=Z1j (c:=c.jl st.rows.length ⟨false,u,1, .ints .u8 []⟩) (w:=w) (row:=⟨false,u,1, .ints .u8 []⟩) (by simp [Ctx.jl]) rfl (.inl rfl) h3
      obtain⟨VX,Bw⟩:=vb HL VW q1 (λarr=>q2 arr 0)
      have hg:=VV.trans VX
      have nn:lu c w ((c.jl st.rows.length ⟨false,u,1, .ints .u8 []⟩).jJ i ⟨true,ty,sz, .gen [e']⟩) w:=by
        refine⟨Bw,hg,Fr.refl _ w,λb hb=> .inl hb,λr ao hr hv=> .inl ?_⟩
        have VY:r≠st.rows.length:=λe=>hv (.inl e)
        by_cases er:r=i
        . subst er;exact⟨⟨_,hi⟩,λe=>hv (.inr e),rfl⟩
        . exact⟨⟨ao,by simpa [Ctx.jJ,Ctx.jl,er,VY] using hr⟩,λe=>hv (.inr e),rfl⟩
      refine⟨_,_,h,Bw,λr=> ?_,λt=>wM hg (hs.env t),hs.size,hs.defers,hs.fw,hs.gp,hs.reach.step (ks:=[]) (λk hk=>by simp [cv]at hk) hs.gp nn.toK⟩
      simp only[Ctx.jJ,Ctx.jl]
      by_cases er:r=i
      . subst er
        simp [aV,bI (show r<(st.rows.set r _).length by simpa using bg),bg]
      . rw [if_neg er]
        by_cases en:r=st.rows.length
        . subst en
          simp [aV]
        . rw[if_neg en,hs.rows]
          by_cases hl:r<st.rows.length
          . simp [aV,bI (show r<(st.rows.set i _).length by simpa using hl),List.getElem?_set_ne (Ne.symm er)]
          . have h1:st.rows.getD r none=none:=by rw[aV,aJ (by omega)];rfl
            rw[h1,aV,aJ (by simp;omega)];rfl
def pk(P:Program):Prop:=∀(ro:Option Nat) (T:e7) (G:List ba) (N M id:Nat) (ops:Array Oper) (st:St) (Q:Ex->St->Prop),jb P T->jr P G->uz T G N M ops st Q->tF ro P N M (.region id ops true) st Q
def wy(y:Array Tmp×Code×Code):Code->Prop
 |.seq a b=>wy y a/\wy y b
 |.cond _ a b=>wy y a/\wy y b
 |.block _ a=>wy y a
 |.loop a=>wy y a
 |.scope a=>wy y a
 |.rangeFunc _ ps x b=>(ps,x,b)=y
 |_=>True
def RF(o:Option Nat)(n:Nat)(c:Code):Prop:=match o with|none=>True|some f=>∃y,(Al f=some y/\y.n<=n/\y.ts=V0 f/\YB<=f/\y.ps.size=1)/\wy (y.ps,y.assign,y.body) c
theorem vT{P:Program}{ro:Option Nat}{c:Code}{Q:Exit->Act->World->Prop}{a:Act}{w:World}(h:c.wpIn (AA ro) 0 P (Exit.noGoto Q) a w):(Code.scope c).wpIn (AA ro) 0 P Q a w:=by
 intro b k cs Di hb hr
 have s1:step P (lone (b.atR a (.code (.scope c)::k)) cs w)=.next (lone (b.atR a (.code c:: .inScope c::k)) cs w):=step_lone_go (by simp[stepG,stepG.exec,Frame.atR])
 have h0:(lone (b.atR a (.code (.scope c)::k)) cs w).fenced P (AA ro):=fenced_calm hb hr rfl
 obtain⟨e,CA,CB,hq,o9⟩:=h b (.inScope c::k) cs Di hb hr
 cases e with
 |normal=>exact⟨.normal,CA,CB,hq,.head h0 s1 (StepsIn.trans o9 (.one (fenced_calm hb hr rfl) (step_lone_go (by simp[stepG,stepG.exec,Frame.atR]))))⟩
 |exit id=>
  have hx:exitTo id (.inScope c::k)=exitTo id k:=by simp[exitTo]
  exact⟨.exit id,CA,CB,hq,λk' hk=>.head h0 s1 (o9.1 k' (by rw[hx];exact hk)),λpw hk=>let⟨k₁,h1,h2⟩:=o9.2 pw (by rw[hx];exact hk);⟨k₁,h1,.head h0 s1 h2⟩⟩
 |goto l=>exact hq.elim
 |ret=>exact⟨_,CA,CB,hq,.of_steps (.one h0 s1) o9⟩
 |panic ch=>exact⟨_,CA,CB,hq,.of_steps (.one h0 s1) o9⟩
 |outgrown=>exact⟨_,CA,CB,hq,.of_steps (.one h0 s1) o9⟩
theorem yv{N M:Nat}{c0:Ctx}{w0:World}{c:Ctx}{w:World}{st:St}{a:Act}{ops:List Oper}{K:St->Prop}(h:uA ops st K)(hs:fg N M c0 w0 c w st a):∃jh,K jh/\fg N M c0 w0 c w jh a:=by
 unfold uA at h
 split at h
 ·exact⟨st,h,hs⟩
 ·rename_i x _
  split at h
  ·rename_i b hb
   cases b with
   |true=>exact⟨_,h,hs.jN hb⟩
   |false=>exact⟨_,h,hs.jN hb⟩
  ·exact⟨st,h,hs⟩
theorem MN{P:Program}(hD:pk P){T:e7}(hT:jb P T){G:List ba}(hG:jr P G){ro:Option Nat}{N M:Nat}{L:Code->St->(Ex->St->Prop)->Prop}{S:Code->Prop}(hS:(∀a b,S (.seq a b)->S a/\S b)/\(∀c a b,S (.cond c a b)->S a/\S b)/\(∀i a,S (.block i a)->S a)/\(∀a,S (.scope a)->S a))(hL:∀code st Q,S code->L code st Q->tF ro P N M code st Q):∀(code:Code) (st:St) (Q:Ex->St->Prop),S code->oO T G N M L code st Q->tF ro P N M code st Q:=by
 intro code
 induction code with
 |skip=>exactλst Q _ h c0 w0 c w a hs=>wpIn_skip ⟨_,st,c,rfl,h,hs⟩
 |label l=>exactλst Q _ h c0 w0 c w a hs=>wpIn_label ⟨_,st,c,rfl,h,hs⟩
 |region id ops draw=>
  intro st Q hc h c0 w0 c w a hs
  simp only[oO]at h
  obtain⟨st0,h,Bm⟩:=yv h hs
  obtain⟨R1,c1,h,lr⟩:=FP h Bm
  obtain⟨jh,c',h,iP⟩:=xac h lr
  cases draw with
  |false=>exact zv hT hG h c0 w0 c' w a iP
  |true=>exact hD ro T G N M id ops jh Q hT hG h c0 w0 c' w a iP
 |seq x y ihx Uq=>
  intro st Q hc h c0 w0 c w a hs
  simp only[oO]at h
  refine wpIn_seq (wpIn_mono (ihx st _ (hS.1 _ _ hc).1 h c0 w0 c w a hs) λe a' w' hq=>?_)
  obtain⟨ex,jh,c',he,hq,iP⟩:=hq
  cases e<;>simp only[mC,Option.some.injEq,reduceCtorEq]at he
  ·subst he
   obtain⟨st2,c2,hq,Ms⟩:=qat hq iP
   exact Uq st2 Q (hS.1 _ _ hc).2 hq c0 w0 c2 w' a' Ms
  ·subst he;exact⟨_,jh,c',rfl,hq,iP⟩
  ·subst he;exact⟨_,jh,c',rfl,hq,iP⟩
 |cond x y z Uq ihz=>
  intro st Q hc h c0 w0 c w a hs
  simp only[oO]at h
  split at h
  ·rename_i b hb
   have hv:=ME hs.env x
   rw[hb]at hv
   have hv:=Rep.bool.1 hv
   cases b with
   |true=>exact wpIn_cond_true hv (Uq _ Q (hS.2.1 _ _ _ hc).1 h c0 w0 c w a (hs.jN hb))
   |false=>exact wpIn_cond_false hv (ihz _ Q (hS.2.1 _ _ _ hc).2 h c0 w0 c w a (hs.jN hb))
  ·rename_i es hb
   have hv:=ME hs.env x
   rw[hb]at hv
   obtain⟨b,hv,gx⟩:=hv
   cases b with
   |true=>exact wpIn_cond_true hv (Uq _ Q (hS.2.1 _ _ _ hc).1 (h.1 (ah.nX.2 (gx rfl))) c0 w0 c w a (hs.G3 hv))
   |false=>exact wpIn_cond_false hv (ihz _ Q (hS.2.1 _ _ _ hc).2 h.2 c0 w0 c w a (hs.G3 hv))
  ·exact h.elim
 |block id x ih=>
  intro st Q hc h c0 w0 c w a hs
  simp only[oO]at h
  refine wpIn_block (wpIn_mono (ih st _ (hS.2.2.1 _ _ hc) h c0 w0 c w a hs) λe a' w' hq=>?_)
  obtain⟨ex,jh,c',he,hq,iP⟩:=hq
  cases e<;>simp only[mC,Option.some.injEq,reduceCtorEq]at he
  ·subst he;exact⟨_,jh,c',rfl,hq,iP⟩
  ·rename_i i
   subst he
   simp only[Exit.inBlock]
   simp only at hq
   cases hb:bX i id with
   |true=>
    simp only[hb]at hq
    rw[if_pos (bE hb)]
    exact⟨_,jh,c',rfl,hq,iP⟩
   |false=>
    simp only[hb]at hq
    rw[if_neg (λe=>by rw[e]at hb;simp at hb)]
    exact⟨_,jh,c',rfl,hq,iP⟩
  ·subst he;exact⟨_,jh,c',rfl,hq,iP⟩
 |exit id=>exactλst Q _ h c0 w0 c w a hs=>wpIn_exit ⟨_,st,c,rfl,h,hs⟩
 |ret=>exactλst Q _ h c0 w0 c w a hs=>wpIn_ret ⟨_,st,c,rfl,h,hs⟩
 |loop x ih=>exactλst Q hc h=>hL _ _ _ hc h
 |rangeFunc g ps x y _ _=>exactλst Q hc h=>hL _ _ _ hc h
 |scope x ih=>
  intro st Q hc h c0 w0 c w a hs
  simp only[oO]at h
  refine vT (wpIn_mono (ih st _ (hS.2.2.2 _ hc) h c0 w0 c w a hs) λe a' w' hq=>?_)
  obtain⟨ex,jh,c',he,hq,iP⟩:=hq
  cases e<;>simp only[mC,Option.some.injEq,reduceCtorEq]at he
  all_goals(subst he;exact⟨_,jh,c',rfl,hq,iP⟩)
 |goto l=>exactλst Q hc h=>hL _ _ _ hc h
 |refuse y=>exactλst Q hc h=>hL _ _ _ hc h
theorem MO(o:Option Nat)(n:Nat):(∀a b,RF o n (.seq a b)->RF o n a/\RF o n b)/\(∀c a b,RF o n (.cond c a b)->RF o n a/\RF o n b)/\(∀i a,RF o n (.block i a)->RF o n a)/\(∀a,RF o n (.scope a)->RF o n a):=by
 cases o with
 |none=>exact⟨λ_ _ _=>⟨trivial,trivial⟩,λ_ _ _ _=>⟨trivial,trivial⟩,λ_ _ _=>trivial,λ_ _=>trivial⟩
 |some f=>exact⟨λ_ _ ⟨y,h,h1,h2⟩=>⟨⟨y,h,h1⟩,⟨y,h,h2⟩⟩,λ_ _ _ ⟨y,h,h1,h2⟩=>⟨⟨y,h,h1⟩,⟨y,h,h2⟩⟩,λ_ _ ⟨y,h,h1⟩=>⟨y,h,h1⟩,λ_ ⟨y,h,h1⟩=>⟨y,h,h1⟩⟩
def oG:Code->Nat
 |.seq a b=>oG a+oG b
 |.cond _ a b=>oG a+oG b
 |.block _ a=>oG a
 |.loop a=>oG a
 |.scope a=>oG a
 |.rangeFunc _ _ _ _=>1
 |_=>0
theorem Zhu:∀{c:Code} (y:Array Tmp×Code×Code),oG c=0->wy y c:=by
 intro c
 induction c with
 |seq a b EZ Fa=>intro y h;simp only[oG]at h;exact⟨EZ y (by omega),Fa y (by omega)⟩
 |cond x a b EZ Fa=>intro y h;simp only[oG]at h;exact⟨EZ y (by omega),Fa y (by omega)⟩
 |block i a ih=>intro y h;exact ih y h
 |loop a ih=>intro y h;exact ih y h
 |scope a ih=>intro y h;exact ih y h
 |rangeFunc g ps x b _ _=>intro y h;simp[oG]at h
 |_=>intro y h;trivial
theorem qU:∀{c:Code} {y:Array Tmp×Code×Code},oG c<=1->sH c=some y->wy y c/\1<=oG c:=by
 intro c
 have two:∀{a b:Code} {y:Array Tmp×Code×Code},(∀{y},oG a<=1->sH a=some y->wy y a/\1<=oG a)->(∀{y},oG b<=1->sH b=some y->wy y b/\1<=oG b)->oG a+oG b<=1->(match sH a with|some x=>some x|none=>sH b)=some y->(wy y a/\wy y b)/\1<=oG a+oG b:=by
  intro a b y EZ Fa h hy
  cases ha:sH a with
  |some x=>
   rw[ha]at hy
   cases hy
   obtain⟨h1,h2⟩:=EZ (by omega) ha
   exact⟨⟨h1,Zhu _ (by omega)⟩,by omega⟩
  |none=>
   rw[ha]at hy
   obtain⟨h1,h2⟩:=Fa (by omega) hy
   exact⟨⟨Zhu _ (by omega),h1⟩,by omega⟩
 induction c with
 |seq a b EZ Fa=>intro y h hy;exact two EZ Fa h hy
 |cond x a b EZ Fa=>intro y h hy;exact two EZ Fa h hy
 |block i a ih=>intro y h hy;exact ih h hy
 |loop a ih=>intro y h hy;exact ih h hy
 |scope a ih=>intro y h hy;exact ih h hy
 |rangeFunc g ps x b _ _=>intro y h hy;simp only[sH,Option.some.injEq]at hy;exact⟨hy,aX _⟩
 |_=>intro y h hy;simp[sH]at hy
def rfB(f:Nat)(fn:Func):Bool:=match fn.body with
 |some c=>gD (oG c) 1&&(gD YB f&&(match sH c with|some y=>bX y.1.size 1|none=>false))
 |none=>false
theorem G5{f:Nat}{fn:Func}(h:rfB f fn=true)(hy:Al f=Fb (V0 f) fn):∀code,fn.body=some code->RF (some f) fn.ntmps code:=by
 intro code hb
 unfold rfB at h
 unfold Fb at hy
 simp only[hb,aE]at h hy
 obtain⟨h1,h2,h3⟩:=h
 split at h3
 ·rename_i y hf
  rw[hf]at hy
  exact⟨_,⟨hy,aX _,rfl,lE h2,bE h3⟩,(qU (lE h1) hf).1⟩
 ·cases h3
def Ctx.out(c:Ctx)(ex:List Nat)(rows:List Row):Ctx:=
 { ρ:=λi=>match ex[i]? with|some r=>c.ρ r|none=>c.ρ i,R:=λi=>rows[i]?,V:=λi=>match ex[i]? with|some r=>c.R r=none\/c.V r|none=>True,
   I:=λb=>c.I b\/ ∃r row,c.R r=some row/\ ¬c.V r/\row.box=false/\J3 ex r=true/\c.ρ r=b,base:=c.base,top:=c.top,X:=c.X}
theorem Ur{ex:List Nat}{i r:Nat}(h:jW ex i r=true):ex[i]?=some r:=by
 unfold jW at h
 split at h
 ·rename_i x hx;rw[hx,bE h]
 ·cases h
theorem Zr{ex:List Nat}{R:Rows}{i:Nat}(h:HY ex R i=true):∃r,ex[i]?=some r/\R.getD r none=none:=by
 unfold HY at h
 split at h
 ·rename_i r hr
  refine⟨r,hr,?_⟩
  split at h
  ·assumption
  ·cases h
 ·cases h
theorem Zca{ex:List Nat}{r:Nat}(h:J3 ex r=true):r∉ex:=by
 intro hm
 have:=List.all_eq_true.1 h r hm
 simp at this
theorem PN{ex:List Nat}{m:Nat}{R:Rows}:∀{rs:List Nat} {ps:List Row},lB ex m R rs ps->rs.length=ps.length/\∀(i r:Nat) (p:Row),rs[i]?=some r->ps[i]?=some p->
 (∃row,R.getD r none=some row/\row.box=p.box/\row.ty=p.ty/\row.sz=p.sz/\(if p.box then∃e e',row.es=.gen [e]/\p.es=.gen [e']/\Dj ex m R e e' else row.es.l=p.es.l))\/(R.getD r none=none/\p.box=false/\p.es.l=[]/\0<p.sz)
 |[],[],_=>⟨rfl,λi r p h=>by simp at h⟩
 |[],_::_,h=>h.elim
 |_::_,[],h=>h.elim
 |r ::rs,⟨box,ty,sz,es⟩::ps,h=>by
  simp only[lB]at h
  obtain⟨h1,h2⟩:=h
  obtain⟨g1,g2⟩:=PN h2
  refine⟨by simp[g1],λi q p hq hp=>?_⟩
  cases i with
  |succ i=>exact g2 i q p (by simpa using hq) (by simpa using hp)
  |zero=>
   simp at hq hp
   subst hq;subst hp
   split at h1
   ·rename_i wW jM jV iQ hR
    simp only[de,aE]at h1
    obtain⟨⟨⟨e1,e2⟩,e3⟩,h1⟩:=h1
    refine .inl ⟨_,hR,by cases box<;>cases wW<;>simp_all,(bE e2).symm,(bE e3).symm,?_⟩
    cases box with
    |false=>simpa using ah.wT h1
    |true=>
     simp only[if_true]
     simp only at h1
     split at h1
     ·exact⟨_,_,rfl,rfl,h1⟩
     ·exact h1.elim
   ·rename_i hR
    simp only[de,aE,bB]at h1
    exact .inr ⟨hR,h1.1.1,ah.nX.1 h1.2,lE h1.1.2⟩
theorem Se{c:Ctx}{w:World}{ex:List Nat}{m:Nat}{R:Rows}{rows:List Row}(hR:∀r,c.R r=R.getD r none)(dc:lB ex m R ex rows){i r o f:Nat}{v:Value}(hx:jW ex i r=true)(hr:dd c w (.ptr r o f) v):dd (c.out ex rows) w (.ptr i o f) v:=by
 obtain⟨row,g1,gV,g2,hv⟩:=hr
 have hi:=Ur hx
 obtain⟨hl,iu⟩:=PN dc
 have bg:=(List.getElem?_eq_some_iff.1 hi).1
 have hp:rows[i]?=some rows[i]:=aI (by omega)
 rcases iu i r _ hi hp with⟨ao,k1,k2,k3,k4,k5⟩|⟨k1,_⟩
 ·have:ao=row:=by rw[hR,k1]at g1;exact Option.some.inj g1
  subst this
  refine⟨_,hp,by simp[Ctx.out,hi,g1,gV],?_,by simp only[Ctx.out,hi];rw[hv,k4]⟩
  split at k5
  ·obtain⟨e,e',q1,q2,_⟩:=k5
   rw[q1]at g2;rw[q2];exact g2
  ·rw[<-k5];exact g2
 ·rw[hR,k1]at g1;cases g1
theorem Zof{c:Ctx}{w:World}{ex:List Nat}{m:Nat}{R:Rows}{rows:List Row}(hR:∀r,c.R r=R.getD r none)(dc:lB ex m R ex rows):∀{ps qs:List (Nat×Nat×Nat)} {us:List Value},r8 ex ps qs=true->LY c qs us->LY (c.out ex rows) ps us
 |[],[],_,_,h=>by rename_i us _;cases us<;>exact h
 |(i,b,d)::l,(r,y,z)::q,u::us,h,hr=>by
  simp only[r8,aE]at h
  obtain⟨h1,h2,h3,h4⟩:=h
  have e2:=bE h2;have e3:=bE h3
  subst e2;subst e3
  exact⟨Se (w:=w) hR dc h1 hr.1,Zof (w:=w) hR dc h4 hr.2⟩
 |(_,_,_)::_,(_,_,_)::_,[],_,h=>h.elim
 |[],_::_,_,h,_=>by simp[r8]at h
 |_::_,[],_,h,_=>by simp[r8]at h
theorem xU{c:Ctx}{w:World}{ex:List Nat}{m:Nat}{R:Rows}{rows:List Row}(hR:∀r,c.R r=R.getD r none)(dc:lB ex m R ex rows):∀{cs ds:List iq} {us:List Value},oP ex cs ds=true->oy c w ds us->oy (c.out ex rows) w cs us:=by
 intro cs
 induction cs with
 |nil=>intro ds us h hr;cases ds<;>cases us<;>first|exact hr|(simp[oP]at h;done)
 |cons x cs ih=>
  intro ds us h hr
  cases ds with
  |nil=>cases x<;>simp[oP]at h
  |cons y ds=>
   cases us with
   |nil=>exact hr.elim
   |cons u us=>
    cases x<;>cases y<;>simp only[oP,aE,aA]at h
    ·obtain⟨h1,h2,h3,h4⟩:=h
     have e2:=bE h2;have e3:=bE h3
     subst e2;subst e3
     exact⟨Se (w:=w) hR dc h1 hr.1,ih h4 hr.2⟩
    ·obtain⟨h1,h2,h3⟩:=h
     have e1:=bE h1
     subst e1
     obtain⟨⟨ws,hv,hw⟩,TQ⟩:=hr
     exact⟨⟨ws,LN (c:=c) (c':=c.out ex rows) (w':=w) (λb hb=>⟨Or.inl hb,rfl⟩) hv,Zof (w:=w) hR dc h2 hw⟩,ih h3 TQ⟩
section
variable {c:Ctx} {w:World} {ex:List Nat} {m:Nat} {R:Rows} {rows:List Row}
theorem YV(hm:Mem c w)(hR:∀r,c.R r=R.getD r none)(dc:lB ex m R ex rows)(ez:∀r row,c.R r=some row->¬c.V r->m<=r->c.base<=c.ρ r){d p:D}{v:Value}(h:iF ex m R d p)(hr:dd c w d v):dd (c.out ex rows) w p v:=by
 have nq:∀b,c.I b->(c.out ex rows).I b/\w.heap[b]?=w.heap[b]? :=λb hb=>⟨.inl hb,rfl⟩
 obtain⟨hl,iu⟩:=PN dc
 have rowOf:∀i r row,ex[i]?=some r->c.R r=some row->∃p,rows[i]?=some p/\row.box=p.box/\row.ty=p.ty/\row.sz=p.sz/\row.es.l.length=p.es.l.length/\(c.out ex rows).ρ i=c.ρ r/\((c.out ex rows).V i↔c.V r):=by
  intro i r row hi cz
  have bg:=(List.getElem?_eq_some_iff.1 hi).1
  have hp:rows[i]?=some rows[i]:=aI (by omega)
  rcases iu i r _ hi hp with⟨ao,g1,g2,g3,g4,g5⟩|⟨g1,_⟩
  ·have:ao=row:=by rw[hR,g1]at cz;exact Option.some.inj cz
   subst this
   refine⟨_,hp,g2,g3,g4,?_,by simp[Ctx.out,hi],by simp[Ctx.out,hi,cz]⟩
   split at g5
   ·obtain⟨e,e',k1,k2,_⟩:=g5
    rw[k1,k2];rfl
   ·rw[g5]
  ·rw[hR,g1]at cz;cases cz
 have MQ:∀i a,HY ex R i=true->v=.slice a 0 0->Cg c.top a->dd (c.out ex rows) w (.all i) v:=by
  intro i a hv Dx dy
  obtain⟨r,hi,hrn⟩:=Zr hv
  have bg:=(List.getElem?_eq_some_iff.1 hi).1
  have hp:rows[i]?=some rows[i]:=aI (by omega)
  rcases iu i r _ hi hp with⟨ao,g1,_⟩|⟨g1,g2,g3,g4⟩
  ·rw[hrn]at g1;cases g1
  ·exact⟨_,hp,g2,.inl ⟨by simp only[Ctx.out,hi];exact .inl (by rw[hR];exact g1),a,Dx,dy⟩⟩
 cases p<;>simp only[iF]at h
 case int k n=>
  split at h
  ·simp only[de,decide_eq_true_eq]at h;obtain⟨rfl,rfl⟩:=h;exact hr
  ·exact h.elim
 case bool b=>
  split at h
  ·subst h;exact hr
  ·exact h.elim
 case str s=>
  split at h
  ·subst h;exact hr
  ·exact h.elim
 case iB=>
  split at h
  ·exact hr
  ·exact h.elim
 case c8=>
  split at h
  ·exact hr
  ·exact h.elim
 case emp=>
  split at h
  ·exact⟨none,hr,MJ⟩
  ·exact hr
  ·exact h.elim
 case jC=>
  split at h
  ·exact hr
  ·exact h.elim
 case gk f cs=>
  split at h
  ·simp only[de,aE]at h
   obtain⟨⟨h1,h2⟩,_⟩:=h
   have e1:=bE h1
   subst e1
   obtain⟨us,hv,hu⟩:=hr
   exact⟨us,LN (c:=c) (c':=c.out ex rows) (w':=w) (λb hb=>⟨Or.inl hb,rfl⟩) hv,xU hR dc h2 hu⟩
  ·exact h.elim
 case ptr i o f=>
  split at h
  ·simp only[de,aE]at h
   obtain⟨⟨h1,h2,h3⟩,_⟩:=h
   have e2:=bE h2;have e3:=bE h3
   subst e2;subst e3
   exact Se (w:=w) hR dc h1 hr
  ·exact h.elim
 case gd i=>
  have go:∀r,jW ex i r=true->dd c w (.gd r) v->dd (c.out ex rows) w (.gd i) v:=by
   intro r hx hr
   rcases hr with hr|⟨row,g1,gV,g2,hv⟩
   ·exact .inl hr
   ·have hi:=Ur hx
    obtain⟨p,hp,q1,q2,q3,q4,q5,q6⟩:=rowOf i r row hi g1
    exact .inr ⟨p,hp,λe=>gV (q6.1 e),by rw[<-q4];exact g2,by rw[hv,q5,q3]⟩
  split at h
  ·exact .inl hr
  ·simp only[de]at h;exact go _ h.1 hr
  ·simp only[de,aE]at h
   obtain⟨⟨h1,h2,h3⟩,_⟩:=h
   have e2:=bE h2;have e3:=bE h3
   subst e2;subst e3
   exact go _ h1 (.inr hr)
  ·exact h.elim
 case dead=>exact dd.one hr
 case sl sz es fr=>
  split at h
  ·have h:=ah.nX.1 h;exact⟨none,0,by rw[h];exact hr,by rw[h];exact aX _,.inl h⟩
  ·have h:=ah.nX.1 h;obtain⟨a,hr,_⟩:=hr;exact⟨a,0,by rw[h];exact hr,by rw[h];exact aX _,.inl h⟩
  ·rename_i jV iQ fr'
   simp only[de,Bool.or_eq_true,bB]at h
   obtain⟨hf,hs,he⟩:=h
   have he:=ah.wT he
   obtain⟨a,cap,hv,hc,gx⟩:=hr
   rw[he]at hv hc gx
   refine⟨a,cap,hv,hc,?_⟩
   rcases gx with gx|⟨b,off,arr,ty,fz,ha,hI,Ty,hh,hE⟩
   ·exact .inl gx
   ·rcases hs with hs|rfl
    ·exact .inl (by rw[<-he];exact ah.nX.1 hs)
    ·exact .inr ⟨b,off,arr,ty,fz,ha,.inl hI,λe=>Ty (by rcases hf with hf|hf<;>simp_all),hh,nh nq _ _ _ _ hE⟩
  ·rename_i r
   split at h
   ·rename_i box ty jV iQ YW
    simp only[de,aE,bB]at h
    obtain⟨⟨⟨⟨hb,hs⟩,ho⟩,I6⟩,Am⟩:=h
    have Am:=ah.wT Am
    have hs:=bE hs
    have I6:=lE I6
    obtain⟨row,g1,g2,hv⟩:=hr
    have:row=⟨box,ty,jV,iQ⟩:=by rw[hR,YW]at g1;exact(Option.some.inj g1).symm
    subst this
    subst hs
    rcases hv with⟨hV,a,hv,_⟩|⟨hV,cap,arr,hv,g3,g4,g5,g6⟩
    ·have he:=(hm.nf g1 hV).2.1
     simp only at he
     rw[he]at Am
     exact⟨a,0,by rw[<-Am];exact hv,by rw[<-Am];exact aX _,.inl Am.symm⟩
    obtain⟨iD,ju,iP,hx⟩:=hm.real g1 hV
    rw[g5]at ju;cases ju
    simp only[hb,aA,if_false]at hx
    simp only at hv g3 hx
    rw[Am]at hv g3 hx
    exact⟨_,cap,hv,g3,.inr ⟨_,0,arr,_,_,rfl,.inr ⟨r,_,g1,hV,hb,ho,rfl⟩,λ_=>ez r _ g1 hV I6,g5,nh nq _ _ _ _ hx⟩⟩
   ·exact h.elim
  ·rename_i r o n
   split at h
   ·rename_i box ty jV iQ YW
    simp only[de,aE,bB]at h
    obtain⟨⟨⟨⟨hb,hs⟩,ho⟩,I6⟩,Am⟩:=h
    have Am:=ah.wT Am
    rw[ah.iT,ah.j8]at Am
    have hs:=bE hs
    have I6:=lE I6
    obtain⟨row,g1,g2,g5,hv⟩:=hr
    have:row=⟨box,ty,jV,iQ⟩:=by rw[hR,YW]at g1;exact(Option.some.inj g1).symm
    subst this
    subst hs
    simp only at g5
    have pq:((iQ.l.drop o).take n).length=n:=by simp only[List.length_take,List.length_drop];omega
    rw[Am]at pq
    rcases hv with⟨h0,a,hv,_⟩|⟨hV,cap,arr,g3,g4,g6,hv,g7⟩
    ·subst h0
     have h0:=List.eq_nil_of_length_eq_zero pq
     exact⟨a,0,by rw[pq];exact hv,by omega,.inl h0⟩
    obtain⟨iD,ju,iP,hx⟩:=hm.real g1 hV
    rw[g6]at ju;cases ju
    simp only[hb,aA,if_false]at hx
    have hE:=LC (n:=n) (JP (l:=o) hx)
    rw[Am]at hE
    exact⟨_,cap,by rw[pq];exact hv,by omega,.inr ⟨_,o*jV,arr,_,_,rfl,.inr ⟨r,_,g1,hV,hb,ho,rfl⟩,λ_=>ez r _ g1 hV I6,g6,nh nq _ _ _ _ (by simpa using hE)⟩⟩
   ·exact h.elim
  ·exact h.elim
 case all i=>
  split at h
  ·rename_i r
   simp only[de]at h
   obtain⟨row,g1,g2,hv⟩:=hr
   obtain⟨p,k1,k2,k3,k4,k5,k6,k7⟩:=rowOf i r row (Ur h.1) g1
   refine⟨p,k1,by rw[<-k2];exact g2,?_⟩
   rcases hv with⟨hV,hv⟩|⟨hV,cap,arr,hv,g3,g4,g5,g6⟩
   ·exact .inl ⟨k7.2 hV,hv⟩
   ·exact .inr ⟨λe=>hV (k7.1 e),cap,arr,by rw[hv,k5,k6],by rw[<-k5];exact g3,g4,by rw[k6,<-k3];exact g5,by rw[<-k4];exact g6⟩
  ·simp only[de]at h
   exact MQ i none h.1 hr MJ
  ·simp only[de]at h
   obtain⟨a,hr,ho⟩:=hr
   exact MQ i a h.1 hr ho
  ·exact h.elim
 case own i o n=>
  split at h
  ·rename_i r o' n'
   simp only[de]at h
   obtain⟨hx,rfl,rfl⟩:=h
   obtain⟨row,g1,g2,g5,hv⟩:=hr
   obtain⟨p,k1,k2,k3,k4,k5,k6,k7⟩:=rowOf i r row (Ur hx) g1
   refine⟨p,k1,by rw[<-k2];exact g2,by rw[<-k5];exact g5,?_⟩
   rcases hv with⟨h0,a,hv,jg⟩|⟨hV,cap,arr,g3,g4,g6,hv,g7⟩
   ·exact .inl ⟨h0,a,hv,jg.mono (aX _) k7 k6⟩
   ·exact .inr ⟨λe=>hV (k7.1 e),cap,arr,g3,g4,by rw[k6,<-k3];exact g6,by rw[k6,<-k4];exact hv,by rw[<-k4];exact g7⟩
  ·exact h.elim
theorem Zh7(hm:Mem c w)(hR:∀r,c.R r=R.getD r none)(dc:lB ex m R ex rows)(ez:∀r row,c.R r=some row->¬c.V r->m<=r->c.base<=c.ρ r):∀{ds ps:List D} {vs:List Value},Dj ex m R ds ps->je c w ds vs->je (c.out ex rows) w ps vs
 |[],[],[],_,_=>trivial
 |[],[],_::_,_,h=>h.elim
 |[],_::_,_,h,_=>h.elim
 |_::_,[],_,h,_=>h.elim
 |_::_,_::_,[],_,h=>h.elim
 |d::ds,p::ps,v::vs,h,hr=>⟨YV hm hR dc ez h.1 hr.1,Zh7 hm hR dc ez h.2 hr.2⟩
theorem Zov(hm:Mem c w)(hR:∀r,c.R r=R.getD r none)(dc:lB ex m R ex rows)(ez:∀r row,c.R r=some row->¬c.V r->m<=r->c.base<=c.ρ r){d p:D}{v:Value}(h:oQ ex m R d p)(hr:VRep c w d v):VRep (c.out ex rows) w p v:=by
 cases p with
 |agg ps=>
  simp only[oQ]at h
  cases d<;>simp only at h
  obtain⟨vs,hv,hx⟩:=hr
  exact⟨vs,hv,Zh7 hm hR dc ez h hx⟩
 |_=>
  simp only[oQ]at h
  refine VRep.DU (YV hm hR dc ez h (VRep.toC ?_ hr))
  intro cs e
  subst e
  simp[iF,cu,D.G6]at h
theorem Zjp(hm:Mem c w)(hR:∀r,c.R r=R.getD r none)(dc:lB ex m R ex rows)(ez:∀r row,c.R r=some row->¬c.V r->m<=r->c.base<=c.ρ r):∀{ds ps:List D} {vs:List Value},uW ex m R ds ps->j4 c w ds vs->j4 (c.out ex rows) w ps vs
 |[],[],[],_,_=>trivial
 |[],[],_::_,_,h=>h.elim
 |[],_::_,_,h,_=>h.elim
 |_::_,[],_,h,_=>h.elim
 |_::_,_::_,[],_,h=>h.elim
 |d::ds,p::ps,v::vs,h,hr=>⟨Zov hm hR dc ez h.1 hr.1,Zjp hm hR dc ez h.2 hr.2⟩
theorem Sf(hm:Mem c w)(hR:∀r,c.R r=R.getD r none)(dc:lB ex m R ex rows)(ez:∀r row,c.R r=some row->¬c.V r->m<=r->c.base<=c.ρ r){d p:D}{v:Value}(h:r6 ex m R d p)(hr:Rep c w d v):Rep (c.out ex rows) w p v:=by
 cases p with
 |dw ps=>
  simp only[r6]at h
  cases d<;>simp only at h
  obtain⟨vs,hv,hx⟩:=hr
  exact⟨vs,hv,Zjp hm hR dc ez h hx⟩
 |dead=>trivial
 |_=>
  simp only[r6]at h
  refine Rep.JU (Zov hm hR dc ez h (Rep.toV ?_ ?_ hr))
  ·intro ds e;subst e;simp[oQ,iF]at h
  ·intro e;subst e;simp[oQ,iF]at h
theorem Z87(hm:Mem c w)(hR:∀r,c.R r=R.getD r none)(dc:lB ex m R ex rows)(ez:∀r row,c.R r=some row->¬c.V r->m<=r->c.base<=c.ρ r):∀{ds ps:List D} {arr:Array Value} {off:Nat},Dj ex m R ds ps->ku c w ds arr off->ku (c.out ex rows) w ps arr off
 |[],[],_,_,_,_=>trivial
 |[],_::_,_,_,h,_=>h.elim
 |_::_,[],_,_,h,_=>h.elim
 |d::ds,p::ps,arr,off,h,hr=>⟨by obtain⟨⟨v,hv,hx⟩,_⟩:=hr;exact⟨v,hv,YV hm hR dc ez h.1 hx⟩,Z87 hm hR dc ez h.2 hr.2⟩
theorem Z19:∀{ds ps:List D},Dj ex m R ds ps->ds.length=ps.length
 |[],[],_=>rfl
 |[],_::_,h=>h.elim
 |_::_,[],h=>h.elim
 |_::_,_::_,h=>by simp[Z19 h.2]
theorem zat(hm:Mem c w)(hR:∀r,c.R r=R.getD r none)(dc:lB ex m R ex rows)(ez:∀r row,c.R r=some row->¬c.V r->m<=r->c.base<=c.ρ r)(kI:ex.Nodup):Mem (c.out ex rows) w:=by
 have nq:∀b,c.I b->(c.out ex rows).I b/\w.heap[b]?=w.heap[b]? :=λb hb=>⟨.inl hb,rfl⟩
 obtain⟨hl,iu⟩:=PN dc
 have inv:∀i p,(c.out ex rows).R i=some p->∃r,ex[i]?=some r/\(c.out ex rows).ρ i=c.ρ r/\((∃row,c.R r=some row/\row.box=p.box/\row.ty=p.ty/\row.sz=p.sz/\((c.out ex rows).V i↔c.V r)/\(if p.box then∃e e',row.es=.gen [e]/\p.es=.gen [e']/\Dj ex m R e e' else row.es.l=p.es.l))\/((c.out ex rows).V i/\p.box=false/\p.es.l=[]/\0<p.sz)):=by
  intro i p hp
  have PO:rows[i]?=some p:=hp
  have bg:=(List.getElem?_eq_some_iff.1 PO).1
  have hi:ex[i]?=some ex[i]:=aI (by omega)
  refine⟨_,hi,by simp[Ctx.out,hi],?_⟩
  rcases iu i _ p hi PO with⟨row,g1,g2,g3,g4,g5⟩|⟨g1,g2⟩
  ·have cz:c.R ex[i]=some row:=by rw[hR];exact g1
   exact .inl ⟨row,cz,g2,g3,g4,by simp[Ctx.out,hi,cz],g5⟩
  ·exact .inr ⟨by simp only[Ctx.out,hi];exact .inl (by rw[hR];exact g1),g2⟩
 refine⟨λi p hp=>?_,λi j p q hp hq v1 v2 he=>?_,λb hb=>?_,hm.top,hm.jP.mono nq⟩
 ·obtain⟨r,g1,g6,⟨row,g2,g3,g4,g5,gV,g7⟩|⟨gV,g2⟩⟩:=inv i p hp
  ·rcases hm.row r row g2 with⟨h0,h1,h2,h3⟩|⟨h0,arr,ha,hs,hx⟩
   ·refine .inl ⟨gV.2 h0,by rw[<-g3];exact h1,?_,by rw[<-g5];exact h3⟩
    rw[if_neg (by rw[<-g3,h1];simp)]at g7
    rw[<-g7];exact h2
   refine .inr ⟨λe=>h0 (gV.1 e),arr,by rw[g6,<-g4];exact ha,by rw[<-g5];exact hs,?_⟩
   split
   ·rename_i hb
    rw[if_pos hb]at g7
    rw[if_pos (g3.trans hb)]at hx
    obtain⟨e,e',k1,k2,k3⟩:=g7
    obtain⟨e0,q1,q2,q3,q4⟩:=hx
    rw[k1]at q1;cases q1
    exact⟨e',k2,by rw[<-Z19 k3,<-g5];exact q2,by rw[<-g5];exact q3,Z87 hm hR dc ez k3 q4⟩
   ·rename_i hb
    rw[if_neg hb]at g7
    rw[if_neg (by rw[g3];exact hb)]at hx
    rw[<-g7,<-g5]
    exact nh nq _ _ _ _ hx
  ·exact .inl ⟨gV,g2⟩
 ·obtain⟨r,g1,g6,⟨row,g2,_,_,_,gV,_⟩|⟨gV,_⟩⟩:=inv i p hp
  ·obtain⟨s,k1,k6,⟨ao,k2,_,_,_,kV,_⟩|⟨kV,_⟩⟩:=inv j q hq
   ·rw[g6,k6]at he
    have:r=s:=hm.inj r s _ _ g2 k2 (λe=>v1 (gV.2 e)) (λe=>v2 (kV.2 e)) he
    subst this
    exact(List.getElem?_inj (List.getElem?_eq_some_iff.1 g1).1 kI).1 (g1.trans k1.symm)
   ·exact(v2 kV).elim
  ·exact(v1 gV).elim
 ·rcases hb with hb|⟨r,row,hr,hV,wg,ho,rfl⟩
  ·refine⟨(hm.ff b hb).1,λi p hp v=>?_⟩
   obtain⟨r,g1,g6,⟨row,g2,_,_,_,gV,_⟩|⟨gV,_⟩⟩:=inv i p hp
   ·rw[g6]
    exact(hm.ff b hb).2 r row g2 (λe=>v (gV.2 e))
   ·exact(v gV).elim
  ·refine⟨hm.lt hr hV,λi p hp v=>?_⟩
   obtain⟨s,g1,g6,⟨ao,g2,_,_,_,gV,_⟩|⟨gV,_⟩⟩:=inv i p hp
   ·rw[g6]
    intro e
    have:=hm.inj s r _ _ g2 hr (λe=>v (gV.2 e)) hV e
    subst this
    exact Zca ho (fL g1)
   ·exact(v gV).elim
end
theorem Zox:∀{l m:List Nat},Zs l m=true->l=m
 |[],[],_=>rfl
 |x::l,y::m,h=>by
  simp only[Zs,aE]at h
  rw[bE h.1,Zox h.2]
 |[],_::_,h=>by cases h
 |_::_,[],h=>by cases h
theorem xat{M:Nat}{ex:List Nat}(h:r7 M ex=true):ex.Nodup/\(∀i,i<M->ex[i]?=some i)/\∀i r,ex[i]?=some r->(i=r/\i<M)\/M<=r:=by
 unfold r7 at h
 simp only[aE]at h
 obtain⟨⟨h1,h2⟩,h3⟩:=h
 replace h1:=Zox h1
 replace h2:∀r∈ex.drop M,M<=r:=λr hr=>lE (List.all_eq_true.1 h2 r hr)
 replace h3:=LI.1 h3
 have he:ex=cW M++ex.drop M:=by rw[<-h1,List.take_append_drop]
 generalize hq:ex.drop M=q at he h2 h3
 subst he
 refine⟨?_,λi hi=>by rw[bI (by simpa using hi)];simp[hi],λi r hr=>?_⟩
 ·rw[List.nodup_append]
  exact⟨List.nodup_range,h3,λx hx y hy=>by simp at hx;have:=h2 y hy;omega⟩
 ·by_cases bg:i<M
  ·rw[bI (by simpa using bg)]at hr
   simp[bg]at hr
   exact .inl ⟨hr,bg⟩
  ·rw[List.getElem?_append_right (by simpa using bg)]at hr
   exact .inr (h2 r (fL hr))
theorem Sg{N M:Nat}{c0:Ctx}{w0:World}{c:Ctx}{w:World}{st:St}{a:Act}(hs:fg N M c0 w0 c w st a){ex:List Nat}{aj:List Row}(hex:r7 M ex=true)(dc:lB ex M st.rows ex aj):
 (∀r row,c.R r=some row->¬c.V r->M<=r->c.base<=c.ρ r)/\Mem (c.out ex aj) w/\wK c0 w0 (c.out ex aj) w:=by
 obtain⟨kI,hid,hinv⟩:=xat hex
 obtain⟨hl,iu⟩:=PN dc
 have AO:c.base=c0.base:=hs.reach.cy.base
 have CC:∀r row,c.R r=some row->¬c.V r->M<=r->c0.X (c.ρ r)\/w0.heap.size<=c.ρ r:=λr row h1 v h2=>by
  rcases hs.reach.nU r row h1 v with⟨⟨x,hx⟩,_⟩|h3
  ·have:=hs.gp r x hx;omega
  ·exact h3
 have ez:∀r row,c.R r=some row->¬c.V r->M<=r->c.base<=c.ρ r:=λr row h1 v h2=>by
  have:=hs.fw
  rcases CC r row h1 v h2 with h|h
  ·have:=hs.reach.xb _ h;omega
  ·omega
 refine⟨ez,zat hs.mem hs.rows dc ez kI,⟨hs.reach.cy.base,hs.reach.cy.top,λb ib=>?_,λr row hr=>?_⟩,hs.reach.fr,λb ib=>?_,λi p hp v=>?_,hs.reach.xb⟩
 ·obtain⟨h1,h2⟩:=hs.reach.cy.I b ib
  exact⟨.inl h1,h2⟩
 ·have bg:r<M:=hs.gp r row hr
  obtain⟨PQ,g1,g2,g3,g4,g5,g6,gV,g7⟩:=hs.reach.cy.R r row hr
  have hi:=hid r bg
  have mz:=(List.getElem?_eq_some_iff.1 hi).1
  have hp:aj[r]?=some aj[r]:=aI (by omega)
  rcases iu r r _ hi hp with⟨jq,k1,k2,k3,k4,k5⟩|⟨k1,_⟩
  ·have:jq=PQ:=by rw[hs.rows,k1]at g1;exact Option.some.inj g1
   subst this
   refine⟨_,hp,k2.symm.trans g2,k3.symm.trans g3,k4.symm.trans g4,?_,by simp[Ctx.out,hi,g6],by simp[Ctx.out,hi,g1,gV],g7⟩
   rw[<-g5]
   split at k5
   ·obtain⟨e,e',q1,q2,_⟩:=k5
    rw[q1,q2];rfl
   ·rw[k5]
  ·rw[hs.rows,k1]at g1;cases g1
 ·rcases ib with h1|⟨r,row,hr,hV,wg,ho,rfl⟩
  ·exact hs.reach.ff b h1
  ·refine .inr ?_
   have:M<=r:=by
    by_cases bg:r<M
    ·exact(Zca ho (fL (hid r bg))).elim
    ·omega
   exact CC r row hr hV this
 ·have PO:aj[i]?=some p:=hp
  have bg:=(List.getElem?_eq_some_iff.1 PO).1
  have hi:ex[i]?=some ex[i]:=aI (by omega)
  simp only[Ctx.out,hi,not_or]at v⊢
  obtain⟨v1,v2⟩:=v
  rcases iu i _ _ hi PO with⟨jq,k1,k2,k3,k4,k5⟩|⟨k1,_⟩
  ·have G7:c.R ex[i]=some jq:=by rw[hs.rows];exact k1
   rcases hinv i _ hi with⟨h1,h2⟩|h1
   ·rcases hs.reach.nU _ _ G7 v2 with⟨h3,h4,h5⟩|h3
    ·left
     rw[<-h1]at h3 h4
     refine⟨h3,h4,h5.trans ?_⟩
     rw[<-h1]
    ·exact .inr h3
   ·exact .inr (CC _ _ G7 v2 h1)
  ·exact(v1 (by rw[hs.rows];exact k1)).elim
theorem V5:∀{env:List (Nat×D)} {t k:Nat},k∈Cp (look env t)->k∈wU env
 |[],t,k,h=>by simp[look,Cp,EN,Af]at h
 |(u,d)::l,t,k,h=>by
  rw[Qc]at h
  simp only[wU,cB]
  split at h
  ·exact .inl h
  ·exact .inr (V5 h)
theorem V6:∀{R:Rows} {r:Nat} {x:Row} {k:Nat},R.getD r none=some x->k∈kp [x]->k∈FT R
 |some y::l,0,x,k,h,hk=>by
  simp at h;subst h
  simp only[FT,cB];exact .inl hk
 |none::l,0,x,k,h,hk=>by simp at h
 |y::l,r+1,x,k,h,hk=>by
  have:=V6 (R:=l) (r:=r) (by simpa[aV]using h) hk
  cases y<;>simp[FT,this]
 |[],r,x,k,h,_=>by simp[aV]at h
theorem VRep.toRep{c:Ctx}{w:World}{d:D}{v:Value}(h:VRep c w d v):Rep c w d v:=by
 cases d<;>first|exact h|trivial|exact h.elim
theorem Rep.toVRep{c:Ctx}{w:World}{d:D}{v:Value}(hv:d.isVal=true)(h:Rep c w d v):VRep c w d v:=by
 cases d<;>first|exact h|(simp[D.isVal]at hv)
theorem j4.length{c:Ctx}{w:World}:∀{ds:List D} {vs:List Value},j4 c w ds vs->ds.length=vs.length
 |[],[],_=>rfl
 |_::_,_::_,h=>by simp[j4.length h.2]
 |[],_::_,h=>h.elim
 |_::_,[],h=>h.elim
theorem Z6g:∀{ds:List D} {i t:Nat},(∃j,t=i+j/\j<ds.length/\look (Fc ds i) t=ds.getD j .dead)\/look (Fc ds i) t=.dead
 |[],i,t=>.inr rfl
 |d ::ds,i,t=>by
  simp only[Fc,Qc]
  by_cases e:i=t
  ·left;exact⟨0,by omega,by simp,by rw[if_pos e];rfl⟩
  ·rw[if_neg e]
   rcases Z6g (ds:=ds) (i:=i+1) (t:=t)with⟨j,h1,h2,h3⟩|h
   ·left;exact⟨j+1,by omega,by simpa using h2,by simpa using h3⟩
   ·right;exact h
theorem Zoa{c:Ctx}{w:World}{ds:List D}{vs:List Value}(h:j4 c w ds vs)(n t:Nat):Rep c w (look (Fc ds 0) t) ((vs.toArray++gE n undef).getD t undef):=by
 rcases Z6g (ds:=ds) (i:=0) (t:=t)with⟨j,h1,h2,h3⟩|h1
 ·obtain⟨v,hv,hr⟩:=Yt h j h2
  rw[h3]
  have:t=j:=by omega
  subst this
  have hx:(vs.toArray++gE n undef).getD t undef=v:=by
   have bg:=(List.getElem?_eq_some_iff.1 hv).1
   have hvv:=(List.getElem?_eq_some_iff.1 hv).2
   simp[Array.getElem?_append,bg,hvv]
  rw[hx]
  exact hr.toRep
 ·rw[h1];trivial
theorem Zqv{T:e7}{t:TypeId}{x:D}{R:Rows}{K:D->Rows->Prop}(h:wq T t x R K){c:Ctx}{w:World}{v:Value}(hr:Rep c w x v):∃a,v=.pointer (some a):=by
 unfold wq at h
 split at h
 ·exact h.elim
 ·cases x<;>simp only at h
  case ptr r i off=>obtain⟨_,_,_,_,hv⟩:=hr;exact⟨_,hv⟩
  case pa r i off len k n=>obtain⟨_,_,_,_,_,hv⟩:=hr;exact⟨_,hv⟩
  case im sz es i off=>obtain⟨_,_,_,_,_,hv,_⟩:=hr;exact⟨_,hv⟩
def LZ(tmps:Array Value):ResultVar->Sem Value
 |.tmp t=>pure (tmps.getD t undef)
 |.cell a t=>do loadVar t (<-asAddr (tmps.getD a undef))
theorem Us{P:Program}{T:e7}(hT:jb P T){R:Rows}{env:List (Nat×D)}:∀{l:List ResultVar} {K:List D->Prop},Fe T R env l K->
 ∃ds,K ds/\∀c w (tmps:Array Value),Mem c w->lR c R->(∀t,Rep c w (look env t) (tmps.getD t undef))->∃vs,(l.mapM (LZ tmps)).run P w=.ok vs w/\j4 c w ds vs
 |[],K,h=>⟨[],h,λc w tmps _ _ _=>⟨[],rfl,trivial⟩⟩
 |.tmp t::l,K,h=>by
  simp only[Fe,D.c7,de]at h
  obtain⟨hv,h⟩:=h
  obtain⟨ds,hK,hr⟩:=Us hT h
  refine⟨_,hK,λc w tmps hm hA he=>?_⟩
  obtain⟨vs,h1,h2⟩:=hr c w tmps hm hA he
  refine⟨tmps.getD t undef::vs,?_,(he t).toVRep hv,h2⟩
  simp only[gG,Sem.run_bind,LZ,Sem.run_pure,Result.andThen_ok,h1]
 |.cell a t::l,K,h=>by
  simp only[Fe]at h
  obtain⟨val,Ut,Dc⟩:=Zio hT h
  simp only[de]at Ut
  obtain⟨hv,Ut⟩:=Ut
  obtain⟨ds,hK,hr⟩:=Us hT Ut
  refine⟨_,hK,λc w tmps hm hA he=>?_⟩
  obtain⟨vs,h1,h2⟩:=hr c w tmps hm hA he
  obtain⟨u,hu,hx⟩:=Dc c w _ hm hA (he a)
  obtain⟨ad,had⟩:=Zqv h (he a)
  rw[had,Uc]at hu
  refine⟨u::vs,?_,hx.toVRep hv,h2⟩
  simp only[gG,Sem.run_bind,LZ,had,asAddr,Sem.run_pure,Result.andThen_ok,hu,h1]
def CD:List Value->Value
 |[v]=>v
 |vs=>.tuple vs.toArray
theorem Z4m{P:Program}{fn:Func}{tmps:Array Value}{w:World}{vs:List Value}(h:(fn.results.toList.mapM (LZ tmps)).run P w=.ok vs w):(results fn tmps).run P w=.ok (CD vs) w:=by
 have h2:(fn.results.mapM (LZ tmps)).run P w=.ok vs.toArray w:=by
  rw[<-bW (xs:=fn.results),List.mapM_toArray]
  simp only[Sem.run_map,h,Result.andThen_ok]
 have h3:(results fn tmps)=(fn.results.mapM (LZ tmps))>>=λvs=>pure (if h:vs.size=1 then vs[0]else .tuple vs):=by
  unfold results
  congr 1
 rw[h3,Sem.run_bind,h2]
 simp only[Result.andThen_ok,Sem.run_pure]
 congr 1
 match vs with
 |[]=>rfl
 |[v]=>rfl
 |_::_::_=>rfl
theorem fg.ML{N M:Nat}{c0:Ctx}{w0:World}{c:Ctx}{w:World}{st:St}{a:Act}(hs:fg N M c0 w0 c w st a){b:Nat}(hb:w0.heap.size<=b){o o':Obj}(ho:w.heap[b]?=some o)(hc:∀arr ty fz,o≠.cells arr ty fz)
 {Fk:Nat->Prop} (gF:∀k ws v,Fk k->rF c w k ws v->rF {c with I:=λx=>c.I x/\x≠b} (w.putObj b o') k ws v) (hE:∀t,∀k∈Cp (look st.env t),Fk k) (hR:∀r x,c.R r=some x->∀k∈kp [x],Fk k) {ds:List Deferred} (hd:lK w0.heap.size (w.putObj b o') ds):
 fg N M c0 w0 {c with I:=λx=>c.I x/\x≠b} (w.putObj b o') st {a with defers:=ds}:=by
 have cz:∀r x,c.R r=some x->¬c.V r->c.ρ r≠b:=λr x hr hV e=>by
  rcases hs.mem.row r x hr with h|⟨_,arr,h,_⟩
  ·exact hV h.1
  ·rw[e,ho]at h;exact hc _ _ _ (Option.some.inj h)
 have hh:∀r x,c.R r=some x->¬c.V r->(w.putObj b o').heap[c.ρ r]?=w.heap[c.ρ r]? :=λr x hr hV=>World.putObj_heap_other (cz r x hr hV)
 have hg:IW c w {c with I:=λx=>c.I x/\x≠b} (w.putObj b o'):=by
  refine⟨rfl,aX _,λx arr ty fz hI hx=>?_,λr x hr=>⟨x,hr,rfl,rfl,rfl,rfl,rfl,Iff.rfl,λhV arr ha=>⟨arr,(hh r x hr hV).trans ha,rfl⟩⟩⟩
  have gm:x≠b:=λe=>by subst e;rw[ho]at hx;exact hc _ _ _ (Option.some.inj hx)
  exact⟨⟨hI,gm⟩,(World.putObj_heap_other gm).trans hx⟩
 have jv:∀x,c0.I x->x≠b:=λx hx e=>by
  obtain⟨h1,h2⟩:=hs.reach.cy.I x hx
  have h3:=(hs.mem.ff x h1).1
  rw[e,ho]at h2
  have:=(Array.getElem?_eq_some_iff.1 h2.symm).1
  omega
 refine⟨Yq hs.mem hg hh gF hR (λx hx=>⟨by simpa using(hs.mem.ff x hx.1).1,(hs.mem.ff x hx.1).2⟩) (by simp),hs.rows,λt=>Zp4 hg gF (hE t) (hs.env t),hs.size,hd,hs.fw,hs.gp,?_⟩
 refine⟨⟨hs.reach.cy.base,hs.reach.cy.top,λx hx=>?_,λr row hr=>?_⟩,⟨hs.reach.fr.os,hs.reach.fr.tape,hs.reach.fr.output,by simpa using hs.reach.fr.size,λx hx hn=>?_⟩,λx hx=>hs.reach.ff x hx.1,hs.reach.nU,hs.reach.xb⟩
 ·obtain⟨h1,h2⟩:=hs.reach.cy.I x hx
  exact⟨⟨h1,jv x hx⟩,(World.putObj_heap_other (jv x hx)).trans h2⟩
 ·obtain⟨ao,h1,h2,h3,h4,h5,h6,hV,h7⟩:=hs.reach.cy.R r row hr
  refine⟨ao,h1,h2,h3,h4,h5,h6,hV,λnv arr ha=>?_⟩
  obtain⟨iD,g1,g2⟩:=h7 nv arr ha
  refine⟨iD,?_,g2⟩
  rw[World.putObj_heap_other]
  ·exact g1
  ·intro e;rw[e,ho]at g1;exact hc _ _ _ (Option.some.inj g1)
 ·rw[World.putObj_heap_other (by omega)];exact hs.reach.fr.heap x hx hn
theorem fg.edit{N M:Nat}{c0:Ctx}{w0:World}{c:Ctx}{w:World}{st:St}{a:Act}(hs:fg N M c0 w0 c w st a){l:Nat}(hI:c0.I l){rec:Loop}{o':Obj}(ho:w0.heap[l]?=some (.loop rec))(CE:∀r x,c0.R r=some x->¬c0.V r->c0.ρ r≠l)
 (mO:pR (wU st.env++FT st.rows)=true):fg N M {c0 with I:=λx=>c0.I x/\x≠l} (w0.putObj l o') {c with I:=λx=>c.I x/\x≠l} (w.putObj l o') st a:=by
 have hl:w.heap[l]?=some (.loop rec):=(hs.reach.cy.I l hI).2.trans ho
 have YX:=(Array.getElem?_eq_some_iff.1 ho).1
 have bg:=(Array.getElem?_eq_some_iff.1 hl).1
 have cz:∀r x,c.R r=some x->¬c.V r->c.ρ r≠l:=λr x hr hV=>(hs.mem.ff l (hs.reach.cy.I l hI).1).2 r x hr hV
 have hh:∀r x,c.R r=some x->¬c.V r->(w.putObj l o').heap[c.ρ r]?=w.heap[c.ρ r]? :=λr x hr hV=>World.putObj_heap_other (cz r x hr hV)
 have gF:∀k ws v,k<YB->rF c w k ws v->rF {c with I:=λx=>c.I x/\x≠l} (w.putObj l o') k ws v:=λk ws v hk hv=>by
  rcases hv with hv|⟨hv,_⟩
  ·exact .inl hv
  ·omega
 have hg:IW c w {c with I:=λx=>c.I x/\x≠l} (w.putObj l o'):=by
  refine⟨rfl,aX _,λx arr ty fz hI hx=>?_,λr x hr=>⟨x,hr,rfl,rfl,rfl,rfl,rfl,Iff.rfl,λhV arr ha=>⟨arr,(hh r x hr hV).trans ha,rfl⟩⟩⟩
  have gm:x≠l:=λe=>by subst e;rw[hl]at hx;cases hx
  exact⟨⟨hI,gm⟩,(World.putObj_heap_other gm).trans hx⟩
 refine⟨Yq hs.mem hg hh gF (λr x hr k hk=>MM mO (eX _ (V6 (by rw[<-hs.rows];exact hr) hk))) (λx hx=>⟨by simpa using(hs.mem.ff x hx.1).1,(hs.mem.ff x hx.1).2⟩) (by simp),hs.rows,λt=>Zp4 hg gF (λk hk=>MM mO (eS _ (V5 hk))) (hs.env t),hs.size,?_,by simpa using hs.fw,hs.gp,?_⟩
 ·have:=hs.defers.to (w':=w.putObj l o') λb hb=>(World.putObj_heap_other λe=>by rw[e,hl]at hb;cases hb).trans hb
  simpa using this
 refine⟨⟨hs.reach.cy.base,hs.reach.cy.top,λx hx=>?_,λr row hr=>?_⟩,⟨hs.reach.fr.os,hs.reach.fr.tape,hs.reach.fr.output,by simpa using hs.reach.fr.size,λx hx hn=>?_⟩,λx hx=>?_,λr row hr hv=>?_,hs.reach.xb⟩
 ·obtain⟨h1,h2⟩:=hs.reach.cy.I x hx.1
  exact⟨⟨h1,hx.2⟩,(World.putObj_heap_other hx.2).trans (h2.trans (World.putObj_heap_other hx.2).symm)⟩
 ·obtain⟨ao,h1,h2,h3,h4,h5,h6,hV,h7⟩:=hs.reach.cy.R r row hr
  refine⟨ao,h1,h2,h3,h4,h5,h6,hV,λnv arr ha=>?_⟩
  rw[World.putObj_heap_other (CE r row hr nv)]at ha
  obtain⟨iD,g1,g2⟩:=h7 nv arr ha
  refine⟨iD,?_,g2⟩
  rw[World.putObj_heap_other]
  ·exact g1
  ·intro e;rw[e,hl]at g1;cases g1
 ·by_cases e:x=l
  ·subst e;rw[World.putObj_heap_same bg,World.putObj_heap_same YX]
  ·rw[World.putObj_heap_other e,World.putObj_heap_other e]
   exact hs.reach.fr.heap x (by simpa using hx) hn
 ·rcases hs.reach.ff x hx.1 with g|g|g
  ·exact .inl ⟨g,hx.2⟩
  ·exact .inr (.inl g)
  ·exact .inr (.inr (by simpa using g))
 ·rcases hs.reach.nU r row hr hv with g|g|g
  ·exact .inl g
  ·exact .inr (.inl g)
  ·exact .inr (.inr (by simpa using g))
theorem leaves{P:Program}{fn:Func}{R:Ending->World->Prop}{N M:Nat}{c0:Ctx}{w0:World}{c:Ctx}{w:World}{st:St}{a:Act}(hs:fg N M c0 w0 c w st a)
 (h:∀c' w' a',a'.tmps=a.tmps->fg N M c0 w0 c' w' st a'->∃v,(results fn a'.tmps).run P w'=.ok v w'/\R (.returned v) w'):LeavesInM Fence.wide 0 P fn a.tmps R a.defers .returning w:=by
 obtain⟨bs,kI,DI,Uu⟩:=hs.defers
 revert c w a
 induction bs with
 |nil=>
  intro c w a hs h DI Uu
  rw[DI]
  obtain⟨v,h1,h2⟩:=h c w a rfl hs
  exact⟨v,h1,h2⟩
 |cons b bs ih=>
  intro c w a hs h DI Uu
  obtain⟨h1,h2⟩:=Uu b (by simp)
  rw[List.nodup_cons]at kI
  rw[DI]
  refine⟨by simp,.inl ⟨b,_,rfl,run_takeDeferred h2,?_⟩⟩
  have PR:∀x∈bs,w0.heap.size<=x/\(w.putObj b (.deferred none)).heap[x]?=some (.deferred (some [])):=λx hx=>by
   obtain⟨g1,g2⟩:=Uu x (by simp[hx])
   exact⟨g1,(World.putObj_heap_other (λe=>kI.1 (by rw[<-e];exact hx))).trans g2⟩
  refine ih kI.2 (a:={a with defers:=bs.map λb=>({target:=.collected b,args:= #[]}:Deferred)}) (hs.ML h1 h2 (λ_ _ _ e=>by cases e) (Fk:=λ_=>True) (λk ws v _ hv=>?_) (λ_ _ _=>trivial) (λ_ _ _ _ _=>trivial) ⟨bs,kI.2,rfl,PR⟩) h rfl PR
  rcases hv with hv|⟨g1,l,rec,g2,g3,g4,g5⟩
  ·exact .inl hv
  ·have gm:l≠b:=λe=>by rw[e,h2]at g4;cases g4
   exact .inr ⟨g1,l,rec,g2,⟨g3,gm⟩,(World.putObj_heap_other gm).trans g4,g5⟩
theorem vv{P:Program}(hD:pk P){T:e7}(hT:jb P T){G:List ba}(hG:jr P G){f:FuncId}{fn:Func}(hf:P.funcs[f]?=some fn){args:List D}{rows:List Row}{res:D}{aj:List Row}
 {rf:Option Nat} (mo:∀code,fn.body=some code->RF rf fn.ntmps code) {L:Code->St->(Ex->St->Prop)->Prop} (hL:∀code st Q,RF rf fn.ntmps code->L code st Q->Tr P fn.ntmps rows.length code st Q) {Q0:D->Rows->Prop} (CF:∀d R,Q0 d R->wY rows.length res aj d R) (h:j5 T G L fn args rows Q0):kg P f args rows res aj:=by
 intro c w vs hm jc hR ft
 unfold j5 at h
 split at h
 ·rename_i code hb
  have hs:fg fn.ntmps rows.length {c with X:=λ_=>False} w c w ⟨Fc args 0,rows.map some⟩ {tmps:=vs.toArray++gE (fn.ntmps-vs.toArray.size) undef,defers:=[]}:=
   ⟨hm,λr=>by
    rw[hR]
    simp only[aV,gH]
    cases rows[r]? <;>rfl,λt=>Zoa ft _ t,by simp;omega,lK.nil,Nat.le_of_eq jc,λr row h=>by have h:c.R r=some row:=h;rw[hR]at h;exact(List.getElem?_eq_some_iff.1 h).1,wK.refl c w⟩
  refine callsIn_wide.1 (callsIn_of_wp_marks (F:=Fence.wide) (n:=0) hf hb trivial (wpIn_mono (MN (ro:=none) hD hT hG (MO rf fn.ntmps) hL code _ _ (mo _ hb) h _ w c w _ hs) λe a' w' hq=>?_))
  obtain⟨ex,st,c1,he,hq,lr⟩:=hq
  have fin:(Fe T st.rows st.env fn.results.toList λds=>match ds with|[d]=>Q0 d st.rows|ds=>Q0 (.dw ds) st.rows)->
   LeavesInM Fence.wide 0 P fn a'.tmps (λe w'=>∃v' c',e=.returned v'/\lu c w c' w'/\(∀r,c'.R r=aj[r]?)/\Rep c' w' res v') a'.defers .returning w':=by
   intro kD
   refine leaves lr λc1 w' a' ju lr=>?_
   obtain⟨ds,hK,hr⟩:=Us hT kD
   have oK:lR c1 st.rows:=λr row ao h1 h2=>by rw[lr.rows,h2]at h1;exact(Option.some.inj h1).symm
   obtain⟨us,ie,CG⟩:=hr c1 w' a'.tmps lr.mem oK lr.env
   have sI:=Z4m ie
   obtain⟨d,v,I7,hv,og⟩:∃d v,wY rows.length res aj d st.rows/\CD us=v/\Rep c1 w' d v:=by
    match ds,us,CG with
    |[d],[u],hx=>exact⟨d,u,CF _ _ hK,rfl,hx.1.toRep⟩
    |[],[],hx=>exact⟨.dw [],_,CF _ _ hK,rfl,[],rfl,trivial⟩
    |d::e::ds,u::v::us,hx=>exact⟨.dw (d::e::ds),_,CF _ _ hK,rfl,_,rfl,hx⟩
    |[],_::_,hx=>exact hx.elim
    |[_],[],hx=>exact hx.elim
    |[_],_::_::_,hx=>exact hx.2.elim
    |_::_::_,[],hx=>exact hx.elim
    |_::_::_,[_],hx=>exact hx.2.elim
   rw[hv]at sI
   obtain⟨ex,hex,hd,dc⟩:=I7
   obtain⟨ez,iY,fv⟩:=Sg lr hex dc
   exact⟨v,sI,v,c1.out _ aj,rfl,⟨iY,⟨fv.cy.base,fv.cy.top,fv.cy.I,fv.cy.R⟩,fv.fr.mono (λb _ hb=>hb.elim id False.elim),λb hb=>(fv.ff b hb).imp id (λh=>h.elim False.elim id),λr ao h1 h2=>(fv.nU r ao h1 h2).imp id (λh=>h.elim False.elim id)⟩,λr=>rfl,Sf lr.mem lr.rows dc ez hd og⟩
  cases e<;>simp only[mC,Option.some.injEq,reduceCtorEq]at he
  ·subst he;exact fin hq
  ·subst he;exact hq.elim
  ·subst he;exact fin hq
 ·exact h.elim
theorem y9{k:Nat}{rows:List Row}{c:Ctx}{w:World}{c':Ctx}{w':World}(iY:Mem c' w')(fv:wK {c.kill (bO k (rows.length-k))with X:=λb=>∃s row,cv s (bO k (rows.length-k))=true/\c.R s=some row/\¬c.V s/\c.ρ s=b} w c' w'):
 jE (bO k (rows.length-k)) c w c' w':=by
 refine⟨iY,⟨fv.cy.base,fv.cy.top,fv.cy.I,fv.cy.R⟩,fv.fr.mono (λb _ hb=>?_),λb hb=>fv.ff b hb,λr ao h1 h2=>?_⟩
 ·rcases hb with⟨r,x,h1,h2,h3⟩|⟨r,x,_,h1,h2,h3⟩
  ·obtain⟨_,row,g1,_⟩:=mP (c:=c) (ks:=bO k (rows.length-k)) h1
   exact⟨r,row,g1,h2,h3⟩
  ·exact⟨r,x,h1,h2,h3⟩
 ·rcases fv.nU r ao h1 h2 with⟨⟨x,g1⟩,g2,g3⟩|⟨s,x,q1,q2,q3,q4⟩|g
  ·obtain⟨_,row,p1,_⟩:=mP (c:=c) (ks:=bO k (rows.length-k)) g1
   exact .inl ⟨⟨row,p1⟩,g2,g3⟩
  ·exact .inr (.inl ⟨s,x,q1,q2,q3,q4.symm⟩)
  ·exact .inr (.inr g)
theorem Zph:∀{rows:List Row} {r:Nat} {x:Row} {k:Nat},rows[r]?=some x->k∈kp [x]->k∈kp rows
 |y::l,0,x,k,h,hk=>by
  simp at h;subst h
  unfold kp at hk⊢
  split<;>simp_all [kp]
 |y::l,r+1,x,k,h,hk=>by
  have:=Zph (rows:=l) (by simpa using h) hk
  unfold kp
  split<;>simp_all
 |[],r,x,k,h,_=>by simp at h
theorem Zo8{c:Ctx}{w:World}{tm oH:Array Value}:∀{ts:List Nat} {ds:List D},j4 c w ds (ts.map λt=>tm.getD t undef)->(∀t∈ts,oH.getD t undef=tm.getD t undef)->∀t,Rep c w (look (om ts ds) t) (oH.getD t undef)
 |[],ds,_,_,t=>by cases ds<;>trivial
 |u::ts,[],h,_,t=>h.elim
 |u::ts,d::ds,h,ht,t=>by
  simp only[om,Qc]
  split
  ·rename_i e;rw[<-e,ht u (by simp)];exact h.1.toRep
  ·exact Zo8 h.2 (λt h=>ht t (by simp[h])) t
theorem qw{P:Program}{F:Fence}{y:YK}{d:Nat}(hd:y.pos=some d){x:Value}{tm:Array Value}(hn:y.n<=tm.size){w:World}{K:Act->World->Prop}{l:Nat}
 (hK:∀oH,oH.size=tm.size->oH.getD d undef=x->(∀t∈y.ts,oH.getD t undef=tm.getD t undef)->K {tmps:=oH,defers:=[]} w):
 y.assign.wpIn (AA (some l)) 0 P (Exit.then K λ_ _ _=>False) {tmps:=(y.ps.zip #[x]).foldl (λtmps (t,a)=>tmps.setIfInBounds t a) tm,defers:=[]} w:=by
 have dv:∀(p:Nat) (I8:Array Value) (t:Nat),t≠p->(I8.setIfInBounds p x).getD t undef=I8.getD t undef:=λp I8 t h=>by
  simp[aQ,aZ (Ne.symm h)]
 have here:∀(p:Nat) (I8:Array Value),p<I8.size->(I8.setIfInBounds p x).getD p undef=x:=λp I8 h=>by
  simp[aQ,h]
 unfold YK.pos at hd
 split at hd
 ·rename_i p kK has
  have kK:y.ps= #[p]:=by rw[<-bW (xs:=y.ps),kK]
  split at hd
  ·rename_i hc
   cases hd
   simp only[aE,gI,bB]at hc
   have hp:d<tm.size:=bM (lE hc.1) hn
   rw[has,kK]
   refine wpIn_skip (hK _ (by simp) ?_ λt ht=>?_)
   ·simpa using here d tm hp
   ·have:=dv d tm t (λe=>by have:=(hc.2 t ht).1;rw[e]at this;simp at this)
    simpa using this
  ·cases hd
 ·rename_i p id ops kK has
  have kK:y.ps= #[p]:=by rw[<-bW (xs:=y.ps),kK]
  split at hd
  ·rename_i e q ty po af CH
   have CH:ops= #[⟨some e,.assign (.tmp q),ty,po,af,none⟩]:=by rw[<-bW (xs:=ops),CH]
   split at hd
   ·rename_i hc
    cases hd
    simp only[aE,gI,bB]at hc
    obtain⟨⟨hq,hp,hd⟩,DZ⟩:=hc
    have hq:=bE hq
    subst hq
    have hp:q<tm.size:=bM (lE hp) hn
    have hd:d<tm.size:=bM (lE hd) hn
    rw[has,kK,CH]
    refine Zgu ?_
    show wpOp P _ _ 0 _ _ _
    unfold wpOp
    simp only[List.getElem?_toArray,List.getElem?_cons_zero]
    rw[if_pos (by simp[Region.wanted])]
    refine FO (u:=x) (w':=w) ?_ ?_
    ·have:(tm.setIfInBounds q x).getD q undef=x:=here q tm hp
     simp only[execOp,Act.eval]
     simp[aQ,hp]
    ·show K {tmps:=Array.setIfInBounds _ d x,defers:=[]} w
     refine hK _ (by simp) ?_ λt ht=>?_
     ·exact here d _ (by simpa using hd)
     ·have h1:=(DZ t ht).1
      rw[dv d _ t (λh=>by rw[h]at h1;simp at h1)]
      have:=dv q tm t (λh=>by rw[h]at h1;simp at h1)
      simpa using this
   ·cases hd
  ·cases hd
 ·cases hd
inductive oJ(P:Program)(f:FuncId)(fn:Func)(cl:Prop):Prop where
 |real (h:f<YB) (hf:P.funcs[f]?=some fn) (hb:gD YB fn.nfree=false)
 |yield (h:YB<=f) (y:YK) (d:Nat) (hy:Al f=some y) (hd:y.pos=some d) (hb:fn.body=some y.body) (hn:gD YB fn.nfree=true) (PS:bX fn.nfree YB=true) (hp:fn.params.toList=d::y.ts) (ht:fn.ntmps=y.n) (hc:cl)
 |uB (h:YB<=f) (y:YK) (q:Nat) (hy:Al f=some y) (kK:y.ps= #[q]) (hq:(Nat.blt q y.n&&y.ts.all λt=>!(bX t q))=true) (hb:fn.body=some (.seq y.assign y.body)) (hn:gD YB fn.nfree=true) (PS:bX fn.nfree YB=false) (hp:fn.params.toList=q::y.ts) (ht:fn.ntmps=y.n) (hc:cl)
theorem I9{N k:Nat}{rows:List Row}{c:Ctx}{w:World}{env:List (Nat×D)}{tm:Array Value}(hm:Mem c w)(jc:c.base=0)(hR:∀r,c.R r=rows[r]?)(sJ:∀t,Rep c w (look env t) (tm.getD t undef))(fq:N<=tm.size):
 fg N k {c.kill (bO k (rows.length-k))with X:=λb=>∃s row,cv s (bO k (rows.length-k))=true/\c.R s=some row/\¬c.V s/\c.ρ s=b} w c w ⟨env,rows.map some⟩ {tmps:=tm,defers:=[]}:=by
 refine⟨hm,λr=>by
  rw[hR]
  simp only[aV,gH]
  cases rows[r]? <;>rfl,sJ,fq,lK.nil,by simp[Ctx.kill,jc],λr row h=>?_,⟨⟨rfl,aX _,λ_ h=>⟨h,rfl⟩,λr x hx=>?_⟩,Fr.refl _ w,λ_ h=>.inl h,λr row hr hv=>?_,λ_ _=>by simp[Ctx.kill,jc]⟩⟩
 ·obtain⟨h1,ao,h2,_⟩:=mP (c:=c) (ks:=bO k (rows.length-k)) h
  rw[hR]at h2
  have bg:=(List.getElem?_eq_some_iff.1 h2).1
  by_cases hk:r<k
  ·exact hk
  ·rw[LG.2 (by omega)]at h1;cases h1
 ·obtain⟨_,row,h2,rfl⟩:=mP (c:=c) (ks:=bO k (rows.length-k)) hx
  obtain⟨s1,s2,s3,s4⟩:=Q5 (bO k (rows.length-k)) row
  exact⟨row,h2,s1.symm,s2.symm,s3.symm,s4.symm,rfl,Iff.rfl,λ_ arr ha=>⟨arr,by rw[s2]at ha⊢;exact ha,rfl⟩⟩
 ·cases hb:cv r (bO k (rows.length-k))with
  |true=>exact .inr (.inl ⟨r,row,hb,hr,hv,rfl⟩)
  |false=>exact .inl ⟨⟨row.kill (bO k (rows.length-k)),by simp[Ctx.kill,hb,hr]⟩,hv,rfl⟩
theorem Zgq{c:Ctx}{w:World}{tm oH:Array Value}{ps:List Nat}{d:Nat}{ts:List Nat}(CI:ps=d::ts){args:List D}{vs us:List Value}{x:Value}(Bt:vs=[x]++us)(tu:us=ts.map λt=>tm.getD t undef)(ft:j4 c w args vs)(hx:oH.getD d undef=x)(DZ:∀t∈ts,oH.getD t undef=tm.getD t undef):
 ∀t,Rep c w (look (om ps args) t) (oH.getD t undef):=by
 subst CI
 subst Bt
 match args,ft with
 |[],hx=>exact hx.elim
 |A::As,⟨hA,hAs⟩=>
  intro t
  simp only[om,Qc]
  split
  ·rename_i e;rw[<-e,hx];exact hA.toRep
  ·exact Zo8 (by rw[tu]at hAs;exact hAs) DZ t
theorem Zbm{P:Program}(hD:pk P){T:e7}(hT:jb P T){G:List ba}(hG:jr P G){n k:Nat}{rows:List Row}{res:D}{aj:List Row}{code:Code}{L:Code->St->(Ex->St->Prop)->Prop}(hL:∀ro code st Q,L code st Q->tF ro P n k code st Q){Q0:D->Rows->Prop}(CF:∀d R,Q0 d R->wY k res aj d R)
 {c:Ctx} {w:World} {l:Nat} {rec:Loop} (hm:Mem c w) (hI:c.I l) (hl:w.heap[l]?=some (.loop rec)) (jQ:rec.state=.ready) (Dh:rec.pending=none) {st:St} {c2:Ctx} {w2:World} {a:Act}
 (hs:fg n k {({c with I:=λb=>c.I b/\b≠l}:Ctx).kill (bO k (rows.length-k))with X:=λb=>∃s row,cv s (bO k (rows.length-k))=true/\c.R s=some row/\¬c.V s/\c.ρ s=b} (w.putObj l (.loop {rec with state:=.busy})) c2 w2 st a)
 (h:oO T G n k L code st λe st=>match e with|.normal=>Q0 (.bool true) st.rows|_=>False):
 code.wpIn (AA (some l)) 0 P (roundPost P l λe w'=>∃v' c',e=.returned v'/\jE (bO k (rows.length-k)) c w c' w'/\(∀r,c'.R r=aj[r]?)/\Rep c' w' res v') a w2:=by
 have bg:=(Array.getElem?_eq_some_iff.1 hl).1
 obtain⟨ĉ,hĉ⟩:∃ĉ:Ctx,ĉ={c with I:=λb=>c.I b/\b≠l}:=⟨_,rfl⟩
 obtain⟨wb,Ja⟩:∃wb,wb=w.putObj l (.loop {rec with state:=.busy}):=⟨_,rfl⟩
 have cz:∀r x,c.R r=some x->¬c.V r->c.ρ r≠l:=λr x hr hV=>(hm.ff l hI).2 r x hr hV
 have Jb:∀b,b≠l->wb.heap[b]?=w.heap[b]? :=λb hb=>by rw[Ja];exact World.putObj_heap_other hb
 have h2l:wb.heap[l]?=some (.loop {rec with state:=.busy}):=by rw[Ja];exact World.putObj_heap_same bg
 have Ff:wb.heap.size=w.heap.size:=by rw[Ja];simp
 have hs:fg n k {ĉ.kill (bO k (rows.length-k))with X:=λb=>∃s row,cv s (bO k (rows.length-k))=true/\ĉ.R s=some row/\¬ĉ.V s/\ĉ.ρ s=b} wb c2 w2 st a:=by rw[hĉ,Ja];exact hs
 refine wpIn_mono (MN (ro:=some l) hD hT hG (MO none n) (λcode st Q _ hl=>hL (some l) code st Q hl) code _ _ trivial h _ wb c2 w2 _ hs) λe a' w3 hq=>?_
 obtain⟨ex,st,c1,he,hq,lr⟩:=hq
 cases e<;>simp only[mC,Option.some.injEq,reduceCtorEq]at he<;>subst he
 rotate_left
 ·exact hq.elim
 ·exact hq.elim
 obtain⟨ex,hex,o7,dc⟩:=CF _ _ hq
 obtain⟨ez,iY,fv⟩:=Sg lr hex dc
 have hX:¬({ĉ.kill (bO k (rows.length-k))with X:=λb=>∃s row,cv s (bO k (rows.length-k))=true/\ĉ.R s=some row/\¬ĉ.V s/\ĉ.ρ s=b}:Ctx).X l:=fun⟨s,row,_,g1,g2,g3⟩=>by
  rw[hĉ]at g1 g2 g3;exact cz s row g1 g2 g3
 have YY:w3.heap[l]?=some (.loop {rec with state:=.busy}):=by
  refine(lr.reach.fr.heap l (by rw[Ff];exact bg) λhx=>?_).trans h2l
  rcases hx with⟨r,row,g1,g2,g3⟩|hx
  ·obtain⟨_,ao,g4,_⟩:=mP (c:=ĉ) g1
   rw[hĉ]at g2 g3 g4;exact cz r ao g4 g2 g3
  ·exact hX hx
 have HS:=(Array.getElem?_eq_some_iff.1 YY).1
 have Ea:=run_endRound (P:=P) none YY
 refine⟨_,_,Ea,_,{c1.out ex aj with I:=λb=>(c1.out ex aj).I b\/b=l},rfl,?_⟩
 have PU:({({rec with state:=.busy}:Loop)with state:=if(none:Option Code).isNone then .ready else .done,pending:=none}:Loop)=rec:=by
  cases rec;simp only at jQ Dh;subst jQ;subst Dh;rfl
 rw[PU]
 have nl:¬(c1.out ex aj).I l:=λhx=>by
  rcases fv.ff l hx with h|h|h
  ·obtain⟨h,_⟩:ĉ.I l/\True:=⟨h,trivial⟩
   rw[hĉ]at h;exact h.2 rfl
  ·exact hX h
  ·rw[Ff]at h;omega
 have CJ:∀r x,(c1.out ex aj).R r=some x->¬(c1.out ex aj).V r->(c1.out ex aj).ρ r≠l:=λr x hr hV e=>by
  rcases iY.row r x hr with g|⟨_,arr,g,_⟩
  ·exact hV g.1
  ·rw[e,YY]at g;cases g
 have L0:∀b,b≠l->(w3.putObj l (.loop rec)).heap[b]?=w3.heap[b]? :=λb hb=>World.putObj_heap_other hb
 have uU:iW (c1.out ex aj) w3 {c1.out ex aj with I:=λb=>(c1.out ex aj).I b\/b=l} (w3.putObj l (.loop rec)):=
  ⟨rfl,aX _,λb hb=>⟨.inl hb,L0 b (λe=>nl (by rw[<-e];exact hb))⟩,λr x hr=>⟨x,hr,rfl,rfl,rfl,rfl,rfl,Iff.rfl,λhV arr ha=>⟨arr,(L0 _ (CJ r x hr hV)).trans ha,rfl⟩⟩⟩
 have hN:=y9 iY fv
 refine⟨⟨⟨λr x hr=>sV uU rfl Iff.rfl (λnv=>L0 _ (CJ r x hr nv)) (iY.row r x hr),iY.inj,λb hb=>?_,by simpa using iY.top,iY.jP.mono uU.I⟩,⟨?_,?_,λb hb=>?_,λr x hr=>?_⟩,⟨?_,?_,?_,?_,λb hb hn=>?_⟩,λb hb=>?_,λr row hr hv=>?_⟩,λr=>rfl,wM uU (Sf lr.mem lr.rows dc ez o7 rfl)⟩
 ·rcases hb with hb|hb
  ·simpa using iY.ff b hb
  ·subst hb;exact⟨by simpa using HS,λr x hr hV=>CJ r x hr hV⟩
 ·have:=hN.cy.base;rw[hĉ]at this;exact this
 ·have:=hN.cy.top;rw[hĉ]at this;exact this
 ·by_cases e:b=l
  ·subst e;exact⟨.inr rfl,by rw[World.putObj_heap_same HS,hl]⟩
  ·have:=hN.cy.I b (by rw[hĉ];exact⟨hb,e⟩)
   exact⟨.inl this.1,(L0 b e).trans (this.2.trans (Jb b e))⟩
 ·have:=hN.cy.R r x (by rw[hĉ];exact hr)
  obtain⟨x',g1,g2,g3,g4,g5,g6,gV,g7⟩:=this
  rw[hĉ]at g6 gV g7
  refine⟨x',g1,g2,g3,g4,g5,g6,gV,λhV arr ha=>?_⟩
  obtain⟨_,x0,q1,_⟩:=mP (c:=c) hr
  have gm:c.ρ r≠l:=cz r x0 q1 hV
  obtain⟨iD,k1,k2⟩:=g7 hV arr ((Jb _ gm).trans ha)
  exact⟨iD,(L0 _ gm).trans k1,k2⟩
 ·rw[Ja]at hN;exact hN.fr.os
 ·rw[Ja]at hN;exact hN.fr.tape
 ·rw[Ja]at hN;exact hN.fr.output
 ·have:=hN.fr.size;rw[Ff]at this;simpa using this
 ·by_cases e:b=l
  ·subst e;rw[World.putObj_heap_same HS,hl]
  ·rw[L0 b e,hN.fr.heap b (by rw[Ff];exact hb) (by rw[hĉ];exact hn),Jb b e]
 ·rcases hb with hb|hb
  ·rcases hN.ff b hb with g|g|g
   ·rw[hĉ]at g;exact .inl g.1
   ·rw[hĉ]at g;exact .inr (.inl g)
   ·rw[Ff]at g;exact .inr (.inr g)
  ·subst hb;exact .inl hI
 ·rcases hN.nU r row hr hv with g|g|g
  ·rw[hĉ]at g;exact .inl g
  ·rw[hĉ]at g;exact .inr (.inl g)
  ·rw[Ff]at g;exact .inr (.inr g)
theorem qaJ{P:Program}(hD:pk P){T:e7}(hT:jb P T){G:List ba}(hG:jr P G){f:FuncId}{fn:Func}{k:Nat}{args:List D}{rows:List Row}{res:D}{aj:List Row}{rf:Option Nat}(hf:oJ P f fn (pR (oh args++kp rows)=true/\rf=none))(mo:∀code,fn.body=some code->RF rf fn.ntmps code)
 {L:Code->St->(Ex->St->Prop)->Prop} (hL:∀ro,(ro=none\/rf=none)->∀code st Q,RF rf fn.ntmps code->L code st Q->tF ro P fn.ntmps k code st Q) {Q0:D->Rows->Prop} (CF:∀d R,Q0 d R->wY k res aj d R) (h:Fg T G L fn args rows Q0 k):tB P f k args rows res aj:=by
 intro c w vs hm jc hR ft
 unfold Fg at h
 split at h
 rotate_left
 ·exact h.elim
 rename_i code hb
 cases hf with
 |real bg hf so=>
  simp only[so]at h
  refine⟨λ_=>?_,λgu=>absurd bg (Nat.not_lt.2 gu)⟩
  have hs:=I9 (N:=fn.ntmps) (k:=k) (env:=Fc args 0) (tm:=vs.toArray++gE (fn.ntmps-vs.toArray.size) undef) hm jc hR (λt=>Zoa ft _ t) (by simp;omega)
  refine callsIn_wide.1 (callsIn_of_wp_marks (F:=Fence.wide) (n:=0) hf hb trivial (wpIn_mono (MN (ro:=none) hD hT hG (MO rf fn.ntmps) (hL none (.inl rfl)) code _ _ (mo _ hb) h _ w c w _ hs) λe a' w' hq=>?_))
  obtain⟨ex,st,c1,he,hq,lr⟩:=hq
  have fin:(Fe T st.rows st.env fn.results.toList λds=>match ds with|[d]=>Q0 d st.rows|ds=>Q0 (.dw ds) st.rows)->
   LeavesInM Fence.wide 0 P fn a'.tmps (λe w'=>∃v' c',e=.returned v'/\jE (bO k (rows.length-k)) c w c' w'/\(∀r,c'.R r=aj[r]?)/\Rep c' w' res v') a'.defers .returning w':=by
   intro kD
   refine leaves lr λc1 w' a' ju lr=>?_
   obtain⟨ds,hK,hr⟩:=Us hT kD
   have oK:lR c1 st.rows:=λr row ao h1 h2=>by rw[lr.rows,h2]at h1;exact(Option.some.inj h1).symm
   obtain⟨us,ie,CG⟩:=hr c1 w' a'.tmps lr.mem oK lr.env
   have sI:=Z4m ie
   obtain⟨d,v,I7,hv,og⟩:∃d v,wY k res aj d st.rows/\CD us=v/\Rep c1 w' d v:=by
    match ds,us,CG with
    |[d],[u],hx=>exact⟨d,u,CF _ _ hK,rfl,hx.1.toRep⟩
    |[],[],hx=>exact⟨.dw [],_,CF _ _ hK,rfl,[],rfl,trivial⟩
    |d::e::ds,u::v::us,hx=>exact⟨.dw (d::e::ds),_,CF _ _ hK,rfl,_,rfl,hx⟩
    |[],_::_,hx=>exact hx.elim
    |[_],[],hx=>exact hx.elim
    |[_],_::_::_,hx=>exact hx.2.elim
    |_::_::_,[],hx=>exact hx.elim
    |_::_::_,[_],hx=>exact hx.2.elim
   rw[hv]at sI
   obtain⟨ex,hex,hd,dc⟩:=I7
   obtain⟨ez,iY,fv⟩:=Sg lr hex dc
   refine⟨v,sI,v,c1.out _ aj,rfl,y9 iY fv,λr=>rfl,Sf lr.mem lr.rows dc ez hd og⟩
  cases e<;>simp only[mC,Option.some.injEq,reduceCtorEq]at he
  ·subst he;exact fin hq
  ·subst he;exact hq.elim
  ·subst he;exact fin hq
 |yield gu y d hy hd uj YZ Jc CI Y0 hc=>
  simp only[YZ,Jc]at h
  obtain⟨mO,Jd⟩:=hc
  rw[uj]at hb
  cases hb
  refine⟨λbg=>absurd bg (Nat.not_lt.2 gu),λ_ l rec xs us Bt hI hl mG iR=>?_⟩
  obtain⟨jQ,Dh,y',wQ,kK,has,Y1,PV,h1,tu⟩:=mG
  rw[hy]at wQ;cases wQ
  obtain⟨x,rfl⟩:∃x,xs=[x]:=by
   match xs,iR with
   |[x],_=>exact⟨x,rfl⟩
  rw[kK,has,Y1]
  have real:∀k,k∈oh args++kp rows->k<YB:=λk hk=>MM mO hk
  have bg:=(Array.getElem?_eq_some_iff.1 hl).1
  have wo:∀arr ty fz,(Obj.loop rec)≠.cells arr ty fz:=λ_ _ _ e=>by cases e
  obtain⟨ĉ,hĉ⟩:∃ĉ:Ctx,ĉ={c with I:=λb=>c.I b/\b≠l}:=⟨_,rfl⟩
  obtain⟨w2,PW⟩:∃w2,w2=w.putObj l (.loop {rec with state:=.busy}):=⟨_,rfl⟩
  have cz:∀r x,c.R r=some x->¬c.V r->c.ρ r≠l:=λr x hr hV=>(hm.ff l hI).2 r x hr hV
  have Jb:∀b,b≠l->w2.heap[b]?=w.heap[b]? :=λb hb=>by rw[PW];exact World.putObj_heap_other hb
  have h2l:w2.heap[l]?=some (.loop {rec with state:=.busy}):=by rw[PW];exact World.putObj_heap_same bg
  have Ff:w2.heap.size=w.heap.size:=by rw[PW];simp
  have hg:IW c w ĉ w2:=by
   rw[hĉ]
   refine⟨rfl,aX _,λb arr ty fz ib hb=>?_,λr x hr=>⟨x,hr,rfl,rfl,rfl,rfl,rfl,Iff.rfl,λhV arr ha=>⟨arr,(Jb _ (cz r x hr hV)).trans ha,rfl⟩⟩⟩
   have gm:b≠l:=λe=>by subst e;rw[hl]at hb;cases hb
   exact⟨⟨ib,gm⟩,(Jb b gm).trans hb⟩
  have gF:∀k ws v,k<YB->rF c w k ws v->rF ĉ w2 k ws v:=λk ws v hk hv=>by
   rcases hv with hv|⟨hv,_⟩
   ·exact .inl hv
   ·omega
  have Bw:Mem ĉ w2:=by
   rw[hĉ]at hg gF⊢
   refine Yq hm hg (λr x hr hV=>Jb _ (cz r x hr hV)) (Fk:=λk=>k<YB) gF (λr x hr k hk=>real k ?_) (λb hb=>⟨by rw[Ff];exact(hm.ff b hb.1).1,(hm.ff b hb.1).2⟩) (by rw[Ff];exact aX _)
   rw[hR]at hr
   exact eX _ (Zph hr hk)
  have Je:j4 ĉ w2 args vs:=Yp hg (Fk:=λk=>k<YB) gF (λk hk=>real k (eS _ hk)) ft
  refine roundIn_of_wpIn (F:=Fence.wide) (n:=0) trivial (qw (F:=Fence.wide) hd (tm:=rec.tmps) PV λoH fq hx DZ=>?_)
  refine⟨w2,by rw[PW];exact run_beginRound hl jQ,?_⟩
  have sJ:∀t,Rep ĉ w2 (look (om fn.params.toList args) t) (oH.getD t undef):=Zgq CI Bt tu Je hx DZ
  have hs:=I9 (N:=fn.ntmps) (k:=k) (env:=om fn.params.toList args) (tm:=oH) Bw (by rw[hĉ];exact jc) (by rw[hĉ];exact hR) sJ (by rw[fq,Y0];exact PV)
  subst Jd
  subst PW
  subst hĉ
  exact Zbm hD hT hG (λro code st Q hl=>hL ro (.inr rfl) code st Q trivial hl) CF hm hI hl jQ Dh hs h
 |uB gu y q hy kK hq uj YZ Jc CI Y0 hc=>
  simp only[YZ,Jc]at h
  obtain⟨mO,Jd⟩:=hc
  subst Jd
  rw[uj]at hb
  cases hb
  simp only at h
  refine⟨λbg=>absurd bg (Nat.not_lt.2 gu),λ_ l rec xs us Bt hI hl mG iR=>?_⟩
  obtain⟨jQ,Dh,y',wQ,Y2,has,Y1,PV,h1,tu⟩:=mG
  rw[hy]at wQ;cases wQ
  obtain⟨x,rfl⟩:∃x,xs=[x]:=by
   match xs,iR with
   |[x],_=>exact⟨x,rfl⟩
  rw[Y2,has,Y1]
  obtain⟨oH,Uv⟩:∃oH,oH=rec.tmps.setIfInBounds q x:=⟨_,rfl⟩
  have hz:((y.ps.zip [x].toArray).foldl (λtmps (t,a)=>tmps.setIfInBounds t a) rec.tmps)=oH:=by rw[kK,Uv];simp
  rw[hz]
  simp only[aE,gI,bB]at hq
  have hqs:q<rec.tmps.size:=bM (lE hq.1) PV
  have hx:oH.getD q undef=x:=by rw[Uv];simp[aQ,hqs]
  have DZ:∀t∈y.ts,oH.getD t undef=rec.tmps.getD t undef:=λt ht=>by
   have gm:q≠t:=λe=>by have:=hq.2 t ht;rw[e]at this;simp at this
   rw[Uv];simp[aQ,aZ gm]
  have sJ:∀t,Rep c w (look (om fn.params.toList args) t) (oH.getD t undef):=Zgq CI Bt tu ft hx DZ
  have hs:=I9 (N:=fn.ntmps) (k:=k) (env:=om fn.params.toList args) (tm:=oH) hm jc hR sJ (by rw[Uv,Y0];simpa using PV)
  refine roundIn_of_wpIn (F:=Fence.wide) (n:=0) trivial (wpIn_mono (MN (ro:=some l) hD hT hG (MO none fn.ntmps) (λcode st Q _ hl=>hL (some l) (.inr rfl) code st Q trivial hl) y.assign _ _ trivial h _ w c w _ hs) λe a1 w1 hq=>?_)
  obtain⟨ex,st1,c1,he,hq,lr⟩:=hq
  cases e<;>simp only[mC,Option.some.injEq,reduceCtorEq]at he<;>subst he
  rotate_left
  ·exact hq.elim
  ·exact hq.elim
  simp only[de]at hq
  obtain⟨Y3,hq⟩:=hq
  have Sk:w1.heap[l]?=some (.loop rec):=(lr.reach.cy.I l hI).2.trans hl
  have cz:∀r x,(c.kill (bO k (rows.length-k))).R r=some x->¬c.V r->c.ρ r≠l:=λr x hr hV=>by
   obtain⟨_,x0,q1,_⟩:=mP (c:=c) hr
   exact(hm.ff l hI).2 r x0 q1 hV
  exact⟨_,run_beginRound Sk jQ,Zbm hD hT hG (λro code st Q hl=>hL ro (.inr rfl) code st Q trivial hl) CF hm hI hl jQ Dh (lr.edit hI hl cz Y3) hq⟩
def D.G8:D->Bool|.int _ _=>true|.bool _=>true|.str _=>true|.sl _ _ _=>true|.iB=>true|.jC=>true|_=>false
theorem ah.wz(E:ah):ah.Eq E E:=by
 cases E with
 |gen es=>cases es<;>simp[ah.Eq]
 |ai k l=>simp[ah.Eq,VH]
 |_=>simp[ah.Eq]
theorem xw{ex:List Nat}{m:Nat}{R:Rows}{d:D}(h:d.G8=true):iF ex m R d d:=by
 cases d<;>first|(cases h;done)|simp[iF,de,ah.wz]
def D.mf(n:Nat):D->Bool|.all i=>Nat.blt i n|.c8=>true|.emp=>true|d=>d.G8
def Row.mf(n:Nat):Row->Bool|⟨false,_,_,_⟩=>true|⟨true,_,_,.gen [e]⟩=>e.all (D.mf n)|_=>false
theorem Zbx{n i:Nat}(h:i<n):jW (cW n) i i=true:=by
 simp[jW,List.getElem?_range h]
theorem Zs2{n m:Nat}{R:Rows}{d:D}(h:d.mf n=true):iF (cW n) m R d d:=by
 cases d with
 |all i=>
  simp only[D.mf,Nat.blt_eq]at h
  simp[iF,de,Zbx h]
 |c8=>simp[iF]
 |emp=>simp[iF]
 |_=>exact xw h
theorem Z42{n m:Nat}{R:Rows}:∀{e:List D},e.all (D.mf n)=true->Dj (cW n) m R e e
 |[],_=>trivial
 |d::e,h=>by
  simp only[gJ,aE]at h
  exact⟨Zs2 h.1,Z42 h.2⟩
theorem Qvs{m n:Nat}:∀{post pre:List Row},post.all (Row.mf n)=true->lB (cW n) m ((pre++post).map some) (bO pre.length post.length) post
 |[],_,_=>trivial
 |⟨box,ty,sz,es⟩::post,pre,h=>by
  simp only[gJ,aE]at h
  rw[List.length_cons,List.range'_succ]
  have hR:(((pre++⟨box,ty,sz,es⟩::post).map some:Rows)).getD pre.length none=some ⟨box,ty,sz,es⟩:=by
   simp[aV]
  simp only[lB,hR,de]
  refine⟨⟨by cases box<;>simp,?_⟩,?_⟩
  ·cases box with
   |false=>exact ah.wz es
   |true=>
    obtain⟨h,_⟩:=h
    cases es with
    |gen l=>
     match l,h with
     |[e],h=>exact Z42 h
    |_=>cases h
  ·have:=Qvs (m:=m) (n:=n) (post:=post) (pre:=pre++[⟨box,ty,sz,es⟩]) h.2
   simpa using this
theorem Zri{m:Nat}{rows:List Row}(h:rows.all (Row.mf rows.length)=true):lB (cW rows.length) m (rows.map some) (cW rows.length) rows:=by
 have:=Qvs (m:=m) (n:=rows.length) (post:=rows) (pre:=[]) h
 rwa [List.nil_append,List.length_nil,<-gC]at this
theorem Zcb:∀l:List Nat,Zs l l=true
 |[]=>rfl
 |x::l=>by simp[Zs,Zcb l]
theorem Zso(M:Nat):r7 M (cW M)=true:=by
 have h1:(cW M).take M=cW M:=List.take_of_length_le (by simp)
 have h2:(cW M).drop M=[]:=List.drop_of_length_le (by simp)
 simp[r7,h1,h2,Zcb,Cv]
theorem Zb9{P:Program}(hD:pk P){T:e7}(hT:jb P T){f:FuncId}{fn:Func}(hf:P.funcs[f]?=some fn){args:List D}{rows:List Row}{off:Nat}(h:rows.all (Row.mf rows.length)=true)(h0:0<rows.length)
 (e1:∀Q0:D->GD.Rows->Prop,j5 T [] (λ_ _ _=>False) fn args rows (λd R=>Q0 d R)=Q0 (.ptr 0 0 off) (rows.map some)):kg P f args rows (.ptr 0 0 off) rows:=by
 have hG:jr P []:=λx hx=>by cases hx
 have h2:j5 T [] (λ_ _ _=>False) fn args rows (λd R=>d=.ptr 0 0 off/\R=rows.map some):=(e1 (λd R=>d=.ptr 0 0 off/\R=rows.map some)).symm▸⟨rfl,rfl⟩
 refine vv hD hT hG hf (rf:=none) (L:=λ_ _ _=>False) (λ_ _=>trivial) (λ_ _ _ _ h=>h.elim) (Q0:=λd R=>d=.ptr 0 0 off/\R=rows.map some) (λd R h=>?_) h2
 obtain⟨rfl,rfl⟩:=h
 refine⟨cW rows.length,Zso _,?_,Zri ‹_›⟩
 simp[r6,oQ,iF,de,Zbx h0]

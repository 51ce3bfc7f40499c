import Derived.Test.YtaemmjbkndlkeaaGreatMigrateTellsFb
open List renaming range_eq_range'->gU,getD->aV,getElem?_eq_none->aJ,getElem?_append_left->bI,getElem?_eq_getElem->aI,mem_of_getElem?->gC,range->cW,mem_append->cB,mapM_cons->gY,mem_append_right->fK,mem_append_left->fF,getElem?_map->gZ,range'->bO,all_eq_true->hH,all_cons->hJ
open Nat renaming le_refl->aX,beq->bX,ble->gW,lt_of_lt_of_le->bM
open Bool renaming not_eq_true'->bB,false_eq_true->aA
open Array renaming replicate->gX,toArray_toList->bW,getD_eq_getD_getElem?->aQ,getElem?_setIfInBounds_ne->aZ
set_option linter.all false
namespace Go.GD
open Go
variable {G:List bd}{K:St->Prop}{M N d i k l m n r:Nat}{P:Program}{R:Rows}{T:iz}{a:Act}{b:Bool}{code:Code}{ex:List Nat}{f:FuncId}{fn:Func}{o':Obj}{ro:Option Nat}{st:St}{tm:Array Value}{v:Value}{vs:List Value}{w w0:World}{x:Operand}
theorem fq.kh{c0:Ctx}{c:Ctx}(h:fq N M c0 w0 c w st a)(hb:cw st.env x=.bool b):fq N M c0 w0 c w (st.kh x b) a:=by
 cases x with
 |tmp t=>exact⟨h.mem,h.rows,λs=>by rw[UH hb];exact h.env s,h.size,h.defers,h.gg,h.ib,h.reach⟩
 |_=>exact h
theorem fq.IA{c0:Ctx}{c:Ctx}(h:fq N M c0 w0 c w st a)(hb:a.eval x=.bool b):fq N M c0 w0 c w (st.kh x b) a:=by
 cases x with
 |tmp t=>
  refine⟨h.mem,h.rows,λs=>?_,h.size,h.defers,h.gg,h.ib,h.reach⟩
  simp only[St.kh,BF]
  split
  ·rename_i e;subst e;exact hb
  ·exact h.env s
 |_=>exact h
theorem vw(hT:jC P T)(hG:jU P G){id:Nat}{ops:Array Oper}{Q:Ex->St->Prop}(h:mG T G N M ops ops.toList st λst=>Q .normal st):uL ro P N M (.region id ops false) st Q:=by
 intro c0 w0 c w a hs
 refine Zpv ?_
 have:=z7 (P:=P) (ops:=ops) hT hG (Q:=λe a' w'=>∃ex jJ c',nz e=some ex/\Q ex jJ/\fq N M c0 w0 c' w' jJ a') (λst c w a hK hs=>⟨_,st,c,rfl,hK,hs⟩) ops.toList 0 st c w a (by simp) h hs
 rwa [<-gU,Array.length_toList]at this
theorem Z62{c:Ctx}{w:World}{i n:Nat}{row:Row}(hn:c.R n=some row)(hb:row.box=false)(hV:c.V n):∀{e e':List D},IB i n e=some e'->e'.length=e.length/\∀arr off,lg c w e arr off->lg c w e' arr off
 |[],e',h=>by simp[IB]at h
 |d ::l,e',h=>by
  unfold IB at h
  split at h
  ·cases h
   refine⟨rfl,λarr off hc=>?_⟩
   obtain⟨⟨v,hv,h1⟩,⟨u,hu,h2⟩,h3⟩:=hc
   exact⟨⟨v,hv,.inl h1⟩,⟨u,hu,row,hn,hb,.inl ⟨hV,none,h2,OF⟩⟩,h3⟩
  ·split at h
   ·rename_i l' rr
    cases h
    obtain⟨g1,g2⟩:=Z62 hn hb hV rr
    exact⟨by simp[g1],λarr off hc=>⟨hc.1,g2 arr _ hc.2⟩⟩
   ·cases h
theorem Z6h{n:Nat}:∀{R:Rows} {k i:Nat} {ty:TypeId} {sz:Nat} {e':List D},KI n R k=some (i,ty,sz,e')->∃e j,i=k+j/\R[j]?=some (some ⟨true,ty,sz,.gen [e]⟩)/\IB i n e=some e'
 |[],k,i,ty,sz,e',h=>by simp[KI]at h
 |x ::l,k,i,ty,sz,e',h=>by
  have next:KI n l (k+1)=some (i,ty,sz,e')->∃e j,i=k+j/\(x::l)[j]?=some (some ⟨true,ty,sz,.gen [e]⟩)/\IB i n e=some e':=λh=>by
   obtain⟨e,j,h1,h2,h3⟩:=Z6h h
   exact⟨e,j+1,by omega,by simpa using h2,h3⟩
  unfold KI at h
  split at h
  ·split at h
   ·rename_i e1 he
    cases h
    exact⟨_,0,rfl,rfl,he⟩
   ·exact next h
  ·exact next h
theorem xaB{c0:Ctx}{c:Ctx}(h:KJ T code st K)(hs:fq N M c0 w0 c w st a): ∃jJ c',K jJ/\fq N M c0 w0 c' w jJ a:=by
  unfold KJ at h
  split at h
  . exact⟨st,c,h,hs⟩
  . rename_i u hu
    split at h
    . exact⟨st,c,h,hs⟩
    . rename_i i ty sz e' hf
      simp only[D.ff,nP]at h
      obtain⟨e,j,h1,h2,h3⟩:=Z6h hf
      rw[Nat.zero_add]at h1
      subst h1
      have bc:=(List.getElem?_eq_some_iff.1 h2).1
      have hi:c.R i=some ⟨true,ty,sz, .gen [e]⟩:=by rw[hs.rows,aV,h2];rfl
      have hn:c.R st.rows.length=none:=by rw[hs.rows,aV,aJ (aX _)];rfl
      have ia:i≠st.rows.length:=by omega
      have Jl:=YF hs.mem hn (row:=⟨false,u,1, .ints .u8 []⟩) rfl rfl Nat.one_pos
      have YG:=UN (w:=w) hn ⟨false,u,1, .ints .u8 []⟩
      have YH:(c.jN st.rows.length ⟨false,u,1, .ints .u8 []⟩).R i=some ⟨true,ty,sz, .gen [e]⟩:=by simp [Ctx.jN,ia,hi]
      obtain⟨q1,q2⟩:=Z62 (c:=c.jN st.rows.length ⟨false,u,1, .ints .u8 []⟩) (w:=w) (row:=⟨false,u,1, .ints .u8 []⟩) (by simp [Ctx.jN]) rfl (.inl rfl) h3
      obtain⟨YI,CI⟩:=vb Jl YH q1 (λarr=>q2 arr 0)
      have hg:=YG.trans YI
      have oh:mn c w ((c.jN st.rows.length ⟨false,u,1, .ints .u8 []⟩).kd i ⟨true,ty,sz, .gen [e']⟩) w:=by
        refine⟨CI,hg,Fr.refl _ w,λb hb=> .inl hb,λr aq hr hv=> .inl ?_⟩
        have YJ:r≠st.rows.length:=λe=>hv (.inl e)
        by_cases er:r=i
        . subst er;exact⟨⟨_,hi⟩,λe=>hv (.inr e),rfl⟩
        . exact⟨⟨aq,by simpa [Ctx.kd,Ctx.jN,er,YJ] using hr⟩,λe=>hv (.inr e),rfl⟩
      refine⟨_,_,h,CI,λr=> ?_,λt=>AN hg (hs.env t),hs.size,hs.defers,hs.gg,hs.ib,hs.reach.step (ks:=[]) (λk hk=>by simp [da]at hk) hs.ib oh.toK⟩
      simp only[Ctx.kd,Ctx.jN]
      by_cases er:r=i
      . subst er
        simp [aV,bI (show r<(st.rows.set r _).length by simpa using bc),bc]
      . rw [if_neg er]
        by_cases en:r=st.rows.length
        . subst en
          simp [aV]
        . rw[if_neg en,hs.rows]
          by_cases hl:r<st.rows.length
          . simp [aV,bI (show r<(st.rows.set i _).length by simpa using hl),List.getElem?_set_ne (Ne.symm er)]
          . have h1:st.rows.getD r none=none:=by rw[aV,aJ (by omega)];rfl
            rw[h1,aV,aJ (by simp;omega)];rfl
def rm(P:Program):Prop:=∀(ro:Option Nat) (T:iz) (G:List bd) (N M id:Nat) (ops:Array Oper) (st:St) (Q:Ex->St->Prop),jC P T->jU P G->wG T G N M ops st Q->uL ro P N M (.region id ops true) st Q
def AA(y:Array Tmp×Code×Code):Code->Prop
 |.seq a b=>AA y a/\AA y b
 |.cond _ a b=>AA y a/\AA y b
 |.block _ a=>AA y a
 |.loop a=>AA y a
 |.scope a=>AA y a
 |.rangeFunc _ ps x b=>(ps,x,b)=y
 |_=>True
def RF(o:Option Nat)(n:Nat)(c:Code):Prop:=match o with|none=>True|some f=>∃y,(Bv f=some y/\y.n<=n/\y.ts=YM f/\YB<=f/\y.ps.size=1)/\AA (y.ps,y.assign,y.body) c
theorem xX{c:Code}{Q:Exit->Act->World->Prop}(h:c.wpIn (BI ro) 0 P (Exit.noGoto Q) a w):(Code.scope c).wpIn (BI ro) 0 P Q a w:=by
 intro b k cs ED hb hr
 have s1:step P (lone (b.atR a (.code (.scope c)::k)) cs w)=.next (lone (b.atR a (.code c:: .inScope c::k)) cs w):=step_lone_go (by simp[stepG,stepG.exec,Frame.atR])
 have h0:(lone (b.atR a (.code (.scope c)::k)) cs w).fenced P (BI ro):=fenced_calm hb hr rfl
 obtain⟨e,DT,DU,hq,rh⟩:=h b (.inScope c::k) cs ED hb hr
 cases e with
 |normal=>exact⟨.normal,DT,DU,hq,.head h0 s1 (StepsIn.trans rh (.one (fenced_calm hb hr rfl) (step_lone_go (by simp[stepG,stepG.exec,Frame.atR]))))⟩
 |exit id=>
  have hx:exitTo id (.inScope c::k)=exitTo id k:=by simp[exitTo]
  exact⟨.exit id,DT,DU,hq,λk' hk=>.head h0 s1 (rh.1 k' (by rw[hx];exact hk)),λrz hk=>let⟨k₁,h1,h2⟩:=rh.2 rz (by rw[hx];exact hk);⟨k₁,h1,.head h0 s1 h2⟩⟩
 |goto l=>exact hq.elim
 |ret=>exact⟨_,DT,DU,hq,.of_steps (.one h0 s1) rh⟩
 |panic ch=>exact⟨_,DT,DU,hq,.of_steps (.one h0 s1) rh⟩
 |outgrown=>exact⟨_,DT,DU,hq,.of_steps (.one h0 s1) rh⟩
theorem qx{c0:Ctx}{c:Ctx}{ops:List Oper}(h:wH ops st K)(hs:fq N M c0 w0 c w st a):∃jJ,K jJ/\fq N M c0 w0 c w jJ a:=by
 unfold wH at h
 split at h
 ·exact⟨st,h,hs⟩
 ·rename_i x _
  split at h
  ·rename_i b hb
   cases b with
   |true=>exact⟨_,h,hs.kh hb⟩
   |false=>exact⟨_,h,hs.kh hb⟩
  ·exact⟨st,h,hs⟩
theorem OJ(hD:rm P)(hT:jC P T)(hG:jU P G){L:Code->St->(Ex->St->Prop)->Prop}{S:Code->Prop}(hS:(∀a b,S (.seq a b)->S a/\S b)/\(∀c a b,S (.cond c a b)->S a/\S b)/\(∀i a,S (.block i a)->S a)/\(∀a,S (.scope a)->S a))(hL:∀code st Q,S code->L code st Q->uL ro P N M code st Q):∀(code:Code) (st:St) (Q:Ex->St->Prop),S code->pM T G N M L code st Q->uL ro P N M code st Q:=by
 intro code
 induction code with
 |skip=>exactλst Q _ h c0 w0 c w a hs=>wpIn_skip ⟨_,st,c,rfl,h,hs⟩
 |label l=>exactλst Q _ h c0 w0 c w a hs=>wpIn_label ⟨_,st,c,rfl,h,hs⟩
 |region id ops draw=>
  intro st Q hc h c0 w0 c w a hs
  simp only[pM]at h
  obtain⟨st0,h,Cy⟩:=qx h hs
  obtain⟨R1,c1,h,mj⟩:=Hh h Cy
  obtain⟨jJ,c',h,jk⟩:=qai h mj
  cases draw with
  |false=>exact vw hT hG h c0 w0 c' w a jk
  |true=>exact hD ro T G N M id ops jJ Q hT hG h c0 w0 c' w a jk
 |seq x y ihx W8=>
  intro st Q hc h c0 w0 c w a hs
  simp only[pM]at h
  refine wpIn_seq (wpIn_mono (ihx st _ (hS.1 _ _ hc).1 h c0 w0 c w a hs) λe a' w' hq=>?_)
  obtain⟨ex,jJ,c',he,hq,jk⟩:=hq
  cases e<;>simp only[nz,Option.some.injEq,reduceCtorEq]at he
  ·subst he
   obtain⟨st2,c2,hq,Ol⟩:=xaB hq jk
   exact W8 st2 Q (hS.1 _ _ hc).2 hq c0 w0 c2 w' a' Ol
  ·subst he;exact⟨_,jJ,c',rfl,hq,jk⟩
  ·subst he;exact⟨_,jJ,c',rfl,hq,jk⟩
 |cond x y z W8 ihz=>
  intro st Q hc h c0 w0 c w a hs
  simp only[pM]at h
  split at h
  ·rename_i b hb
   have hv:=OA hs.env x
   rw[hb]at hv
   have hv:=Rep.bool.1 hv
   cases b with
   |true=>exact wpIn_cond_true hv (W8 _ Q (hS.2.1 _ _ _ hc).1 h c0 w0 c w a (hs.kh hb))
   |false=>exact wpIn_cond_false hv (ihz _ Q (hS.2.1 _ _ _ hc).2 h c0 w0 c w a (hs.kh hb))
  ·rename_i es hb
   have hv:=OA hs.env x
   rw[hb]at hv
   obtain⟨b,hv,gz⟩:=hv
   cases b with
   |true=>exact wpIn_cond_true hv (W8 _ Q (hS.2.1 _ _ _ hc).1 (h.1 (ag.oR.2 (gz rfl))) c0 w0 c w a (hs.IA hv))
   |false=>exact wpIn_cond_false hv (ihz _ Q (hS.2.1 _ _ _ hc).2 h.2 c0 w0 c w a (hs.IA hv))
  ·exact h.elim
 |block id x ih=>
  intro st Q hc h c0 w0 c w a hs
  simp only[pM]at h
  refine wpIn_block (wpIn_mono (ih st _ (hS.2.2.1 _ _ hc) h c0 w0 c w a hs) λe a' w' hq=>?_)
  obtain⟨ex,jJ,c',he,hq,jk⟩:=hq
  cases e<;>simp only[nz,Option.some.injEq,reduceCtorEq]at he
  ·subst he;exact⟨_,jJ,c',rfl,hq,jk⟩
  ·rename_i i
   subst he
   simp only[Exit.inBlock]
   simp only at hq
   cases hb:bX i id with
   |true=>
    simp only[hb]at hq
    rw[if_pos (bE hb)]
    exact⟨_,jJ,c',rfl,hq,jk⟩
   |false=>
    simp only[hb]at hq
    rw[if_neg (λe=>by rw[e]at hb;simp at hb)]
    exact⟨_,jJ,c',rfl,hq,jk⟩
  ·subst he;exact⟨_,jJ,c',rfl,hq,jk⟩
 |exit id=>exactλst Q _ h c0 w0 c w a hs=>wpIn_exit ⟨_,st,c,rfl,h,hs⟩
 |ret=>exactλst Q _ h c0 w0 c w a hs=>wpIn_ret ⟨_,st,c,rfl,h,hs⟩
 |loop x ih=>exactλst Q hc h=>hL _ _ _ hc h
 |rangeFunc g ps x y _ _=>exactλst Q hc h=>hL _ _ _ hc h
 |scope x ih=>
  intro st Q hc h c0 w0 c w a hs
  simp only[pM]at h
  refine xX (wpIn_mono (ih st _ (hS.2.2.2 _ hc) h c0 w0 c w a hs) λe a' w' hq=>?_)
  obtain⟨ex,jJ,c',he,hq,jk⟩:=hq
  cases e<;>simp only[nz,Option.some.injEq,reduceCtorEq]at he
  all_goals(subst he;exact⟨_,jJ,c',rfl,hq,jk⟩)
 |goto l=>exactλst Q hc h=>hL _ _ _ hc h
 |refuse y=>exactλst Q hc h=>hL _ _ _ hc h
theorem OK(o:Option Nat)(n:Nat):(∀a b,RF o n (.seq a b)->RF o n a/\RF o n b)/\(∀c a b,RF o n (.cond c a b)->RF o n a/\RF o n b)/\(∀i a,RF o n (.block i a)->RF o n a)/\(∀a,RF o n (.scope a)->RF o n a):=by
 cases o with
 |none=>exact⟨λ_ _ _=>⟨trivial,trivial⟩,λ_ _ _ _=>⟨trivial,trivial⟩,λ_ _ _=>trivial,λ_ _=>trivial⟩
 |some f=>exact⟨λ_ _ ⟨y,h,h1,h2⟩=>⟨⟨y,h,h1⟩,⟨y,h,h2⟩⟩,λ_ _ _ ⟨y,h,h1,h2⟩=>⟨⟨y,h,h1⟩,⟨y,h,h2⟩⟩,λ_ _ ⟨y,h,h1⟩=>⟨y,h,h1⟩,λ_ ⟨y,h,h1⟩=>⟨y,h,h1⟩⟩
def pE:Code->Nat
 |.seq a b=>pE a+pE b
 |.cond _ a b=>pE a+pE b
 |.block _ a=>pE a
 |.loop a=>pE a
 |.scope a=>pE a
 |.rangeFunc _ _ _ _=>1
 |_=>0
theorem Zr6:∀{c:Code} (y:Array Tmp×Code×Code),pE c=0->AA y c:=by
 intro c
 induction c with
 |seq a b GB GC=>intro y h;simp only[pE]at h;exact⟨GB y (by omega),GC y (by omega)⟩
 |cond x a b GB GC=>intro y h;simp only[pE]at h;exact⟨GB y (by omega),GC y (by omega)⟩
 |block i a ih=>intro y h;exact ih y h
 |loop a ih=>intro y h;exact ih y h
 |scope a ih=>intro y h;exact ih y h
 |rangeFunc g ps x b _ _=>intro y h;simp[pE]at h
 |_=>intro y h;trivial
theorem zX:∀{c:Code} {y:Array Tmp×Code×Code},pE c<=1->tP c=some y->AA y c/\1<=pE c:=by
 intro c
 have two:∀{a b:Code} {y:Array Tmp×Code×Code},(∀{y},pE a<=1->tP a=some y->AA y a/\1<=pE a)->(∀{y},pE b<=1->tP b=some y->AA y b/\1<=pE b)->pE a+pE b<=1->(match tP a with|some x=>some x|none=>tP b)=some y->(AA y a/\AA y b)/\1<=pE a+pE b:=by
  intro a b y GB GC h hy
  cases ha:tP a with
  |some x=>
   rw[ha]at hy
   cases hy
   obtain⟨h1,h2⟩:=GB (by omega) ha
   exact⟨⟨h1,Zr6 _ (by omega)⟩,by omega⟩
  |none=>
   rw[ha]at hy
   obtain⟨h1,h2⟩:=GC (by omega) hy
   exact⟨⟨Zr6 _ (by omega),h1⟩,by omega⟩
 induction c with
 |seq a b GB GC=>intro y h hy;exact two GB GC h hy
 |cond x a b GB GC=>intro y h hy;exact two GB GC h hy
 |block i a ih=>intro y h hy;exact ih h hy
 |loop a ih=>intro y h hy;exact ih h hy
 |scope a ih=>intro y h hy;exact ih h hy
 |rangeFunc g ps x b _ _=>intro y h hy;simp only[tP,Option.some.injEq]at hy;exact⟨hy,aX _⟩
 |_=>intro y h hy;simp[tP]at hy
def rfB(f:Nat)(fn:Func):Bool:=match fn.body with
 |some c=>gW (pE c) 1&&(gW YB f&&(match tP c with|some y=>bX y.1.size 1|none=>false))
 |none=>false
theorem IC{f:Nat}(h:rfB f fn=true)(hy:Bv f=GF (YM f) fn):∀code,fn.body=some code->RF (some f) fn.ntmps code:=by
 intro code hb
 unfold rfB at h
 unfold GF at hy
 simp only[hb,aE]at h hy
 obtain⟨h1,h2,h3⟩:=h
 split at h3
 ·rename_i y hf
  rw[hf]at hy
  exact⟨_,⟨hy,aX _,rfl,lE h2,bE h3⟩,(zX (lE h1) hf).1⟩
 ·cases h3
def Ctx.out(c:Ctx)(ex:List Nat)(rows:List Row):Ctx:=
 { ρ:=λi=>match ex[i]? with|some r=>c.ρ r|none=>c.ρ i,R:=λi=>rows[i]?,V:=λi=>match ex[i]? with|some r=>c.R r=none\/c.V r|none=>True,
   I:=λb=>c.I b\/ ∃r row,c.R r=some row/\ ¬c.V r/\row.box=false/\LM ex r=true/\c.ρ r=b,base:=c.base,top:=c.top,X:=c.X}
theorem W9(h:kD ex i r=true):ex[i]?=some r:=by
 unfold kD at h
 split at h
 ·rename_i x hx;rw[hx,bE h]
 ·cases h
theorem Zxv(h:Jz ex R i=true):∃r,ex[i]?=some r/\R.getD r none=none:=by
 unfold Jz at h
 split at h
 ·rename_i r hr
  refine⟨r,hr,?_⟩
  split at h
  ·assumption
  ·cases h
 ·cases h
theorem Zhh(h:LM ex r=true):r∉ex:=by
 intro hm
 have:=List.all_eq_true.1 h r hm
 simp at this
theorem SO{ex:List Nat}{m:Nat}{R:Rows}:∀{rs:List Nat} {ps:List Row},mr ex m R rs ps->rs.length=ps.length/\∀(i r:Nat) (p:Row),rs[i]?=some r->ps[i]?=some p->
 (∃row,R.getD r none=some row/\row.box=p.box/\row.ty=p.ty/\row.sz=p.sz/\(if p.box then∃e e',row.es=.gen [e]/\p.es=.gen [e']/\EE ex m R e e' else row.es.l=p.es.l))\/(R.getD r none=none/\p.box=false/\p.es.l=[]/\0<p.sz)
 |[],[],_=>⟨rfl,λi r p h=>by simp at h⟩
 |[],_::_,h=>h.elim
 |_::_,[],h=>h.elim
 |r ::rs,⟨box,ty,sz,es⟩::ps,h=>by
  simp only[mr]at h
  obtain⟨h1,h2⟩:=h
  obtain⟨g1,g2⟩:=SO h2
  refine⟨by simp[g1],λi q p hq hp=>?_⟩
  cases i with
  |succ i=>exact g2 i q p (by simpa using hq) (by simpa using hp)
  |zero=>
   simp at hq hp
   subst hq;subst hp
   split at h1
   ·rename_i AX kg kC jl hR
    simp only[de,aE]at h1
    obtain⟨⟨⟨e1,e2⟩,e3⟩,h1⟩:=h1
    refine .inl ⟨_,hR,by cases box<;>cases AX<;>simp_all,(bE e2).symm,(bE e3).symm,?_⟩
    cases box with
    |false=>simpa using ag.AU h1
    |true=>
     simp only[if_true]
     simp only at h1
     split at h1
     ·exact⟨_,_,rfl,rfl,h1⟩
     ·exact h1.elim
   ·rename_i hR
    simp only[de,aE,bB]at h1
    exact .inr ⟨hR,h1.1.1,ag.oR.1 h1.2,lE h1.1.2⟩
theorem UO{c:Ctx}{rows:List Row}(hR:∀r,c.R r=R.getD r none)(db:mr ex m R ex rows){i r o f:Nat}(hx:kD ex i r=true)(hr:dc c w (.ptr r o f) v):dc (c.out ex rows) w (.ptr i o f) v:=by
 obtain⟨row,g1,gV,g2,hv⟩:=hr
 have hi:=W9 hx
 obtain⟨hl,iy⟩:=SO db
 have bc:=(List.getElem?_eq_some_iff.1 hi).1
 have hp:rows[i]?=some rows[i]:=aI (by omega)
 rcases iy i r _ hi hp with⟨aq,k1,k2,k3,k4,k5⟩|⟨k1,_⟩
 ·have:aq=row:=by rw[hR,k1]at g1;exact Option.some.inj g1
  subst this
  refine⟨_,hp,by simp[Ctx.out,hi,g1,gV],?_,by simp only[Ctx.out,hi];rw[hv,k4]⟩
  split at k5
  ·obtain⟨e,e',q1,q2,_⟩:=k5
   rw[q1]at g2;rw[q2];exact g2
  ·rw[<-k5];exact g2
 ·rw[hR,k1]at g1;cases g1
theorem Zvv{c:Ctx}{w:World}{ex:List Nat}{m:Nat}{R:Rows}{rows:List Row}(hR:∀r,c.R r=R.getD r none)(db:mr ex m R ex rows):∀{ps qs:List (Nat×Nat×Nat)} {us:List Value},tj ex ps qs=true->NO c qs us->NO (c.out ex rows) ps us
 |[],[],_,_,h=>by rename_i us _;cases us<;>exact h
 |(i,b,d)::l,(r,y,z)::q,u::us,h,hr=>by
  simp only[tj,aE]at h
  obtain⟨h1,h2,h3,h4⟩:=h
  have e2:=bE h2;have e3:=bE h3
  subst e2;subst e3
  exact⟨UO (w:=w) hR db h1 hr.1,Zvv (w:=w) hR db h4 hr.2⟩
 |(_,_,_)::_,(_,_,_)::_,[],_,h=>h.elim
 |[],_::_,_,h,_=>by simp[tj]at h
 |_::_,[],_,h,_=>by simp[tj]at h
theorem yX{c:Ctx}{rows:List Row}(hR:∀r,c.R r=R.getD r none)(db:mr ex m R ex rows):∀{cs ds:List iS} {us:List Value},pN ex cs ds=true->pr c w ds us->pr (c.out ex rows) w cs us:=by
 intro cs
 induction cs with
 |nil=>intro ds us h hr;cases ds<;>cases us<;>first|exact hr|(simp[pN]at h;done)
 |cons x cs ih=>
  intro ds us h hr
  cases ds with
  |nil=>cases x<;>simp[pN]at h
  |cons y ds=>
   cases us with
   |nil=>exact hr.elim
   |cons u us=>
    cases x<;>cases y<;>simp only[pN,aE,aA]at h
    ·obtain⟨h1,h2,h3,h4⟩:=h
     have e2:=bE h2;have e3:=bE h3
     subst e2;subst e3
     exact⟨UO (w:=w) hR db h1 hr.1,ih h4 hr.2⟩
    ·obtain⟨h1,h2,h3⟩:=h
     have e1:=bE h1
     subst e1
     obtain⟨⟨ws,hv,hw⟩,WA⟩:=hr
     exact⟨⟨ws,NF (c:=c) (c':=c.out ex rows) (w':=w) (λb hb=>⟨Or.inl hb,rfl⟩) hv,Zvv (w:=w) hR db h2 hw⟩,ih h3 WA⟩
section
variable {c:Ctx} {w:World} {ex:List Nat} {m:Nat} {R:Rows} {rows:List Row}
theorem Zlf(hm:Mem c w)(hR:∀r,c.R r=R.getD r none)(db:mr ex m R ex rows)(fe:∀r row,c.R r=some row->¬c.V r->m<=r->c.base<=c.ρ r){d p:D}(h:iZ ex m R d p)(hr:dc c w d v):dc (c.out ex rows) w p v:=by
 have oi:∀b,c.I b->(c.out ex rows).I b/\w.heap[b]?=w.heap[b]? :=λb hb=>⟨.inl hb,rfl⟩
 obtain⟨hl,iy⟩:=SO db
 have rowOf:∀i r row,ex[i]?=some r->c.R r=some row->∃p,rows[i]?=some p/\row.box=p.box/\row.ty=p.ty/\row.sz=p.sz/\row.es.l.length=p.es.l.length/\(c.out ex rows).ρ i=c.ρ r/\((c.out ex rows).V i↔c.V r):=by
  intro i r row hi c6
  have bc:=(List.getElem?_eq_some_iff.1 hi).1
  have hp:rows[i]?=some rows[i]:=aI (by omega)
  rcases iy i r _ hi hp with⟨aq,g1,g2,g3,g4,g5⟩|⟨g1,_⟩
  ·have:aq=row:=by rw[hR,g1]at c6;exact Option.some.inj c6
   subst this
   refine⟨_,hp,g2,g3,g4,?_,by simp[Ctx.out,hi],by simp[Ctx.out,hi,c6]⟩
   split at g5
   ·obtain⟨e,e',k1,k2,_⟩:=g5
    rw[k1,k2];rfl
   ·rw[g5]
  ·rw[hR,g1]at c6;cases c6
 have OM:∀i a,Jz ex R i=true->v=.slice a 0 0->DA c.top a->dc (c.out ex rows) w (.all i) v:=by
  intro i a hv ES dx
  obtain⟨r,hi,hrn⟩:=Zxv hv
  have bc:=(List.getElem?_eq_some_iff.1 hi).1
  have hp:rows[i]?=some rows[i]:=aI (by omega)
  rcases iy i r _ hi hp with⟨aq,g1,_⟩|⟨g1,g2,g3,g4⟩
  ·rw[hrn]at g1;cases g1
  ·exact⟨_,hp,g2,.inl ⟨by simp only[Ctx.out,hi];exact .inl (by rw[hR];exact g1),a,ES,dx⟩⟩
 cases p<;>simp only[iZ]at h
 case int k n=>
  split at h
  ·simp only[de,decide_eq_true_eq]at h;obtain⟨rfl,rfl⟩:=h;exact hr
  ·exact h.elim
 case bool b=>
  split at h
  ·subst h;exact hr
  ·exact h.elim
 case str s=>
  split at h
  ·subst h;exact hr
  ·exact h.elim
 case iQ=>
  split at h
  ·exact hr
  ·exact h.elim
 case c8=>
  split at h
  ·exact hr
  ·exact h.elim
 case emp=>
  split at h
  ·exact⟨none,hr,OF⟩
  ·exact hr
  ·exact h.elim
 case j4=>
  split at h
  ·exact hr
  ·exact h.elim
 case gv f cs=>
  split at h
  ·simp only[de,aE]at h
   obtain⟨⟨h1,h2⟩,_⟩:=h
   have e1:=bE h1
   subst e1
   obtain⟨us,hv,hu⟩:=hr
   exact⟨us,NF (c:=c) (c':=c.out ex rows) (w':=w) (λb hb=>⟨Or.inl hb,rfl⟩) hv,yX hR db h2 hu⟩
  ·exact h.elim
 case ptr i o f=>
  split at h
  ·simp only[de,aE]at h
   obtain⟨⟨h1,h2,h3⟩,_⟩:=h
   have e2:=bE h2;have e3:=bE h3
   subst e2;subst e3
   exact UO (w:=w) hR db h1 hr
  ·exact h.elim
 case gw i=>
  have go:∀r,kD ex i r=true->dc c w (.gw r) v->dc (c.out ex rows) w (.gw i) v:=by
   intro r hx hr
   rcases hr with hr|⟨row,g1,gV,g2,hv⟩
   ·exact .inl hr
   ·have hi:=W9 hx
    obtain⟨p,hp,q1,q2,q3,q4,q5,q6⟩:=rowOf i r row hi g1
    exact .inr ⟨p,hp,λe=>gV (q6.1 e),by rw[<-q4];exact g2,by rw[hv,q5,q3]⟩
  split at h
  ·exact .inl hr
  ·simp only[de]at h;exact go _ h.1 hr
  ·simp only[de,aE]at h
   obtain⟨⟨h1,h2,h3⟩,_⟩:=h
   have e2:=bE h2;have e3:=bE h3
   subst e2;subst e3
   exact go _ h1 (.inr hr)
  ·exact h.elim
 case dead=>exact dc.one hr
 case sl sz es fr=>
  split at h
  ·have h:=ag.oR.1 h;exact⟨none,0,by rw[h];exact hr,by rw[h];exact aX _,.inl h⟩
  ·have h:=ag.oR.1 h;obtain⟨a,hr,_⟩:=hr;exact⟨a,0,by rw[h];exact hr,by rw[h];exact aX _,.inl h⟩
  ·rename_i kC jl fr'
   simp only[de,Bool.or_eq_true,bB]at h
   obtain⟨hf,hs,he⟩:=h
   have he:=ag.AU he
   obtain⟨a,cap,hv,hc,gz⟩:=hr
   rw[he]at hv hc gz
   refine⟨a,cap,hv,hc,?_⟩
   rcases gz with gz|⟨b,off,arr,ty,fz,ha,hI,V6,hh,hE⟩
   ·exact .inl gz
   ·rcases hs with hs|rfl
    ·exact .inl (by rw[<-he];exact ag.oR.1 hs)
    ·exact .inr ⟨b,off,arr,ty,fz,ha,.inl hI,λe=>V6 (by rcases hf with hf|hf<;>simp_all),hh,ob oi _ _ _ _ hE⟩
  ·rename_i r
   split at h
   ·rename_i box ty kC jl hRr
    simp only[de,aE,bB]at h
    obtain⟨⟨⟨⟨hb,hs⟩,ho⟩,KK⟩,Bw⟩:=h
    have Bw:=ag.AU Bw
    have hs:=bE hs
    have KK:=lE KK
    obtain⟨row,g1,g2,hv⟩:=hr
    have:row=⟨box,ty,kC,jl⟩:=by rw[hR,hRr]at g1;exact(Option.some.inj g1).symm
    subst this
    subst hs
    rcases hv with⟨hV,a,hv,_⟩|⟨hV,cap,arr,hv,g3,g4,g5,g6⟩
    ·have he:=(hm.nZ g1 hV).2.1
     simp only at he
     rw[he]at Bw
     exact⟨a,0,by rw[<-Bw];exact hv,by rw[<-Bw];exact aX _,.inl Bw.symm⟩
    obtain⟨iX,jV,jk,hx⟩:=hm.real g1 hV
    rw[g5]at jV;cases jV
    simp only[hb,aA,if_false]at hx
    simp only at hv g3 hx
    rw[Bw]at hv g3 hx
    exact⟨_,cap,hv,g3,.inr ⟨_,0,arr,_,_,rfl,.inr ⟨r,_,g1,hV,hb,ho,rfl⟩,λ_=>fe r _ g1 hV KK,g5,ob oi _ _ _ _ hx⟩⟩
   ·exact h.elim
  ·rename_i r o n
   split at h
   ·rename_i box ty kC jl hRr
    simp only[de,aE,bB]at h
    obtain⟨⟨⟨⟨hb,hs⟩,ho⟩,KK⟩,Bw⟩:=h
    have Bw:=ag.AU Bw
    rw[ag.jo,ag.kL]at Bw
    have hs:=bE hs
    have KK:=lE KK
    obtain⟨row,g1,g2,g5,hv⟩:=hr
    have:row=⟨box,ty,kC,jl⟩:=by rw[hR,hRr]at g1;exact(Option.some.inj g1).symm
    subst this
    subst hs
    simp only at g5
    have rr:((jl.l.drop o).take n).length=n:=by simp only[List.length_take,List.length_drop];omega
    rw[Bw]at rr
    rcases hv with⟨h0,a,hv,_⟩|⟨hV,cap,arr,g3,g4,g6,hv,g7⟩
    ·subst h0
     have h0:=List.eq_nil_of_length_eq_zero rr
     exact⟨a,0,by rw[rr];exact hv,by omega,.inl h0⟩
    obtain⟨iX,jV,jk,hx⟩:=hm.real g1 hV
    rw[g6]at jV;cases jV
    simp only[hb,aA,if_false]at hx
    have hE:=Nw (n:=n) (Lw (l:=o) hx)
    rw[Bw]at hE
    exact⟨_,cap,by rw[rr];exact hv,by omega,.inr ⟨_,o*kC,arr,_,_,rfl,.inr ⟨r,_,g1,hV,hb,ho,rfl⟩,λ_=>fe r _ g1 hV KK,g6,ob oi _ _ _ _ (by simpa using hE)⟩⟩
   ·exact h.elim
  ·exact h.elim
 case all i=>
  split at h
  ·rename_i r
   simp only[de]at h
   obtain⟨row,g1,g2,hv⟩:=hr
   obtain⟨p,k1,k2,k3,k4,k5,k6,k7⟩:=rowOf i r row (W9 h.1) g1
   refine⟨p,k1,by rw[<-k2];exact g2,?_⟩
   rcases hv with⟨hV,hv⟩|⟨hV,cap,arr,hv,g3,g4,g5,g6⟩
   ·exact .inl ⟨k7.2 hV,hv⟩
   ·exact .inr ⟨λe=>hV (k7.1 e),cap,arr,by rw[hv,k5,k6],by rw[<-k5];exact g3,g4,by rw[k6,<-k3];exact g5,by rw[<-k4];exact g6⟩
  ·simp only[de]at h
   exact OM i none h.1 hr OF
  ·simp only[de]at h
   obtain⟨a,hr,ho⟩:=hr
   exact OM i a h.1 hr ho
  ·exact h.elim
 case own i o n=>
  split at h
  ·rename_i r o' n'
   simp only[de]at h
   obtain⟨hx,rfl,rfl⟩:=h
   obtain⟨row,g1,g2,g5,hv⟩:=hr
   obtain⟨p,k1,k2,k3,k4,k5,k6,k7⟩:=rowOf i r row (W9 hx) g1
   refine⟨p,k1,by rw[<-k2];exact g2,by rw[<-k5];exact g5,?_⟩
   rcases hv with⟨h0,a,hv,jI⟩|⟨hV,cap,arr,g3,g4,g6,hv,g7⟩
   ·exact .inl ⟨h0,a,hv,jI.mono (aX _) k7 k6⟩
   ·exact .inr ⟨λe=>hV (k7.1 e),cap,arr,g3,g4,by rw[k6,<-k3];exact g6,by rw[k6,<-k4];exact hv,by rw[<-k4];exact g7⟩
  ·exact h.elim
theorem Zrb(hm:Mem c w)(hR:∀r,c.R r=R.getD r none)(db:mr ex m R ex rows)(fe:∀r row,c.R r=some row->¬c.V r->m<=r->c.base<=c.ρ r):∀{ds ps:List D} {vs:List Value},EE ex m R ds ps->jG c w ds vs->jG (c.out ex rows) w ps vs
 |[],[],[],_,_=>trivial
 |[],[],_::_,_,h=>h.elim
 |[],_::_,_,h,_=>h.elim
 |_::_,[],_,h,_=>h.elim
 |_::_,_::_,[],_,h=>h.elim
 |d::ds,p::ps,v::vs,h,hr=>⟨Zlf hm hR db fe h.1 hr.1,Zrb hm hR db fe h.2 hr.2⟩
theorem Zv0(hm:Mem c w)(hR:∀r,c.R r=R.getD r none)(db:mr ex m R ex rows)(fe:∀r row,c.R r=some row->¬c.V r->m<=r->c.base<=c.ρ r){d p:D}(h:pO ex m R d p)(hr:VRep c w d v):VRep (c.out ex rows) w p v:=by
 cases p with
 |agg ps=>
  simp only[pO]at h
  cases d<;>simp only at h
  obtain⟨vs,hv,hx⟩:=hr
  exact⟨vs,hv,Zrb hm hR db fe h hx⟩
 |_=>
  simp only[pO]at h
  refine VRep.Fs (Zlf hm hR db fe h (VRep.toC ?_ hr))
  intro cs e
  subst e
  simp[iZ,cy,D.ID]at h
theorem Zpq(hm:Mem c w)(hR:∀r,c.R r=R.getD r none)(db:mr ex m R ex rows)(fe:∀r row,c.R r=some row->¬c.V r->m<=r->c.base<=c.ρ r):∀{ds ps:List D} {vs:List Value},w9 ex m R ds ps->kJ c w ds vs->kJ (c.out ex rows) w ps vs
 |[],[],[],_,_=>trivial
 |[],[],_::_,_,h=>h.elim
 |[],_::_,_,h,_=>h.elim
 |_::_,[],_,h,_=>h.elim
 |_::_,_::_,[],_,h=>h.elim
 |d::ds,p::ps,v::vs,h,hr=>⟨Zv0 hm hR db fe h.1 hr.1,Zpq hm hR db fe h.2 hr.2⟩
theorem UP(hm:Mem c w)(hR:∀r,c.R r=R.getD r none)(db:mr ex m R ex rows)(fe:∀r row,c.R r=some row->¬c.V r->m<=r->c.base<=c.ρ r){d p:D}(h:te ex m R d p)(hr:Rep c w d v):Rep (c.out ex rows) w p v:=by
 cases p with
 |dw ps=>
  simp only[te]at h
  cases d<;>simp only at h
  obtain⟨vs,hv,hx⟩:=hr
  exact⟨vs,hv,Zpq hm hR db fe h hx⟩
 |dead=>trivial
 |_=>
  simp only[te]at h
  refine Rep.LB (Zv0 hm hR db fe h (Rep.toV ?_ ?_ hr))
  ·intro ds e;subst e;simp[pO,iZ]at h
  ·intro e;subst e;simp[pO,iZ]at h
theorem Zbd(hm:Mem c w)(hR:∀r,c.R r=R.getD r none)(db:mr ex m R ex rows)(fe:∀r row,c.R r=some row->¬c.V r->m<=r->c.base<=c.ρ r):∀{ds ps:List D} {arr:Array Value} {off:Nat},EE ex m R ds ps->lg c w ds arr off->lg (c.out ex rows) w ps arr off
 |[],[],_,_,_,_=>trivial
 |[],_::_,_,_,h,_=>h.elim
 |_::_,[],_,_,h,_=>h.elim
 |d::ds,p::ps,arr,off,h,hr=>⟨by obtain⟨⟨v,hv,hx⟩,_⟩:=hr;exact⟨v,hv,Zlf hm hR db fe h.1 hx⟩,Zbd hm hR db fe h.2 hr.2⟩
theorem Z6y:∀{ds ps:List D},EE ex m R ds ps->ds.length=ps.length
 |[],[],_=>rfl
 |[],_::_,h=>h.elim
 |_::_,[],h=>h.elim
 |_::_,_::_,h=>by simp[Z6y h.2]
theorem qaC(hm:Mem c w)(hR:∀r,c.R r=R.getD r none)(db:mr ex m R ex rows)(fe:∀r row,c.R r=some row->¬c.V r->m<=r->c.base<=c.ρ r)(lH:ex.Nodup):Mem (c.out ex rows) w:=by
 have oi:∀b,c.I b->(c.out ex rows).I b/\w.heap[b]?=w.heap[b]? :=λb hb=>⟨.inl hb,rfl⟩
 obtain⟨hl,iy⟩:=SO db
 have inv:∀i p,(c.out ex rows).R i=some p->∃r,ex[i]?=some r/\(c.out ex rows).ρ i=c.ρ r/\((∃row,c.R r=some row/\row.box=p.box/\row.ty=p.ty/\row.sz=p.sz/\((c.out ex rows).V i↔c.V r)/\(if p.box then∃e e',row.es=.gen [e]/\p.es=.gen [e']/\EE ex m R e e' else row.es.l=p.es.l))\/((c.out ex rows).V i/\p.box=false/\p.es.l=[]/\0<p.sz)):=by
  intro i p hp
  have SP:rows[i]?=some p:=hp
  have bc:=(List.getElem?_eq_some_iff.1 SP).1
  have hi:ex[i]?=some ex[i]:=aI (by omega)
  refine⟨_,hi,by simp[Ctx.out,hi],?_⟩
  rcases iy i _ p hi SP with⟨row,g1,g2,g3,g4,g5⟩|⟨g1,g2⟩
  ·have c6:c.R ex[i]=some row:=by rw[hR];exact g1
   exact .inl ⟨row,c6,g2,g3,g4,by simp[Ctx.out,hi,c6],g5⟩
  ·exact .inr ⟨by simp only[Ctx.out,hi];exact .inl (by rw[hR];exact g1),g2⟩
 refine⟨λi p hp=>?_,λi j p q hp hq v1 v2 he=>?_,λb hb=>?_,hm.top,hm.kb.mono oi⟩
 ·obtain⟨r,g1,g6,⟨row,g2,g3,g4,g5,gV,g7⟩|⟨gV,g2⟩⟩:=inv i p hp
  ·rcases hm.row r row g2 with⟨h0,h1,h2,h3⟩|⟨h0,arr,ha,hs,hx⟩
   ·refine .inl ⟨gV.2 h0,by rw[<-g3];exact h1,?_,by rw[<-g5];exact h3⟩
    rw[if_neg (by rw[<-g3,h1];simp)]at g7
    rw[<-g7];exact h2
   refine .inr ⟨λe=>h0 (gV.1 e),arr,by rw[g6,<-g4];exact ha,by rw[<-g5];exact hs,?_⟩
   split
   ·rename_i hb
    rw[if_pos hb]at g7
    rw[if_pos (g3.trans hb)]at hx
    obtain⟨e,e',k1,k2,k3⟩:=g7
    obtain⟨e0,q1,q2,q3,q4⟩:=hx
    rw[k1]at q1;cases q1
    exact⟨e',k2,by rw[<-Z6y k3,<-g5];exact q2,by rw[<-g5];exact q3,Zbd hm hR db fe k3 q4⟩
   ·rename_i hb
    rw[if_neg hb]at g7
    rw[if_neg (by rw[g3];exact hb)]at hx
    rw[<-g7,<-g5]
    exact ob oi _ _ _ _ hx
  ·exact .inl ⟨gV,g2⟩
 ·obtain⟨r,g1,g6,⟨row,g2,_,_,_,gV,_⟩|⟨gV,_⟩⟩:=inv i p hp
  ·obtain⟨s,k1,k6,⟨aq,k2,_,_,_,kV,_⟩|⟨kV,_⟩⟩:=inv j q hq
   ·rw[g6,k6]at he
    have:r=s:=hm.inj r s _ _ g2 k2 (λe=>v1 (gV.2 e)) (λe=>v2 (kV.2 e)) he
    subst this
    exact(List.getElem?_inj (List.getElem?_eq_some_iff.1 g1).1 lH).1 (g1.trans k1.symm)
   ·exact(v2 kV).elim
  ·exact(v1 gV).elim
 ·rcases hb with hb|⟨r,row,hr,hV,Ap,ho,rfl⟩
  ·refine⟨(hm.fk b hb).1,λi p hp v=>?_⟩
   obtain⟨r,g1,g6,⟨row,g2,_,_,_,gV,_⟩|⟨gV,_⟩⟩:=inv i p hp
   ·rw[g6]
    exact(hm.fk b hb).2 r row g2 (λe=>v (gV.2 e))
   ·exact(v gV).elim
  ·refine⟨hm.lt hr hV,λi p hp v=>?_⟩
   obtain⟨s,g1,g6,⟨aq,g2,_,_,_,gV,_⟩|⟨gV,_⟩⟩:=inv i p hp
   ·rw[g6]
    intro e
    have:=hm.inj s r _ _ g2 hr (λe=>v (gV.2 e)) hV e
    subst this
    exact Zhh ho (gC g1)
   ·exact(v gV).elim
end
theorem Zv9:∀{l m:List Nat},NP l m=true->l=m
 |[],[],_=>rfl
 |x::l,y::m,h=>by
  simp only[NP,aE]at h
  rw[bE h.1,Zv9 h.2]
 |[],_::_,h=>by cases h
 |_::_,[],h=>by cases h
theorem zaC(h:th M ex=true):ex.Nodup/\(∀i,i<M->ex[i]?=some i)/\∀i r,ex[i]?=some r->(i=r/\i<M)\/M<=r:=by
 unfold th at h
 simp only[aE]at h
 obtain⟨⟨h1,h2⟩,h3⟩:=h
 replace h1:=Zv9 h1
 replace h2:∀r∈ex.drop M,M<=r:=λr hr=>lE (List.all_eq_true.1 h2 r hr)
 replace h3:=NA.1 h3
 have he:ex=cW M++ex.drop M:=by rw[<-h1,List.take_append_drop]
 generalize hq:ex.drop M=q at he h2 h3
 subst he
 refine⟨?_,λi hi=>by rw[bI (by simpa using hi)];simp[hi],λi r hr=>?_⟩
 ·rw[List.nodup_append]
  exact⟨List.nodup_range,h3,λx hx y hy=>by simp at hx;have:=h2 y hy;omega⟩
 ·by_cases bc:i<M
  ·rw[bI (by simpa using bc)]at hr
   simp[bc]at hr
   exact .inl ⟨hr,bc⟩
  ·rw[List.getElem?_append_right (by simpa using bc)]at hr
   exact .inr (h2 r (gC hr))
theorem UQ{c0:Ctx}{c:Ctx}(hs:fq N M c0 w0 c w st a){aj:List Row}(hex:th M ex=true)(db:mr ex M st.rows ex aj):
 (∀r row,c.R r=some row->¬c.V r->M<=r->c.base<=c.ρ r)/\Mem (c.out ex aj) w/\AM c0 w0 (c.out ex aj) w:=by
 obtain⟨lH,hid,hinv⟩:=zaC hex
 obtain⟨hl,iy⟩:=SO db
 have sA:c.base=c0.base:=hs.reach.cz.base
 have DV:∀r row,c.R r=some row->¬c.V r->M<=r->c0.X (c.ρ r)\/w0.heap.size<=c.ρ r:=λr row h1 v h2=>by
  rcases hs.reach.oO r row h1 v with⟨⟨x,hx⟩,_⟩|h3
  ·have:=hs.ib r x hx;omega
  ·exact h3
 have fe:∀r row,c.R r=some row->¬c.V r->M<=r->c.base<=c.ρ r:=λr row h1 v h2=>by
  have:=hs.gg
  rcases DV r row h1 v h2 with h|h
  ·have:=hs.reach.xb _ h;omega
  ·omega
 refine⟨fe,qaC hs.mem hs.rows db fe lH,⟨hs.reach.cz.base,hs.reach.cz.top,λb ik=>?_,λr row hr=>?_⟩,hs.reach.fr,λb ik=>?_,λi p hp v=>?_,hs.reach.xb⟩
 ·obtain⟨h1,h2⟩:=hs.reach.cz.I b ik
  exact⟨.inl h1,h2⟩
 ·have bc:r<M:=hs.ib r row hr
  obtain⟨SQ,g1,g2,g3,g4,g5,g6,gV,g7⟩:=hs.reach.cz.R r row hr
  have hi:=hid r bc
  have nu:=(List.getElem?_eq_some_iff.1 hi).1
  have hp:aj[r]?=some aj[r]:=aI (by omega)
  rcases iy r r _ hi hp with⟨jS,k1,k2,k3,k4,k5⟩|⟨k1,_⟩
  ·have:jS=SQ:=by rw[hs.rows,k1]at g1;exact Option.some.inj g1
   subst this
   refine⟨_,hp,k2.symm.trans g2,k3.symm.trans g3,k4.symm.trans g4,?_,by simp[Ctx.out,hi,g6],by simp[Ctx.out,hi,g1,gV],g7⟩
   rw[<-g5]
   split at k5
   ·obtain⟨e,e',q1,q2,_⟩:=k5
    rw[q1,q2];rfl
   ·rw[k5]
  ·rw[hs.rows,k1]at g1;cases g1
 ·rcases ik with h1|⟨r,row,hr,hV,Ap,ho,rfl⟩
  ·exact hs.reach.fk b h1
  ·refine .inr ?_
   have:M<=r:=by
    by_cases bc:r<M
    ·exact(Zhh ho (gC (hid r bc))).elim
    ·omega
   exact DV r row hr hV this
 ·have SP:aj[i]?=some p:=hp
  have bc:=(List.getElem?_eq_some_iff.1 SP).1
  have hi:ex[i]?=some ex[i]:=aI (by omega)
  simp only[Ctx.out,hi,not_or]at v⊢
  obtain⟨v1,v2⟩:=v
  rcases iy i _ _ hi SP with⟨jS,k1,k2,k3,k4,k5⟩|⟨k1,_⟩
  ·have IE:c.R ex[i]=some jS:=by rw[hs.rows];exact k1
   rcases hinv i _ hi with⟨h1,h2⟩|h1
   ·rcases hs.reach.oO _ _ IE v2 with⟨h3,h4,h5⟩|h3
    ·left
     rw[<-h1]at h3 h4
     refine⟨h3,h4,h5.trans ?_⟩
     rw[<-h1]
    ·exact .inr h3
   ·exact .inr (DV _ _ IE v2 h1)
  ·exact(v1 (by rw[hs.rows];exact k1)).elim
theorem YR:∀{env:List (Nat×D)} {t k:Nat},k∈DI (look env t)->k∈AV env
 |[],t,k,h=>by simp[look,DI,Gr,Bp]at h
 |(u,d)::l,t,k,h=>by
  rw[BF]at h
  simp only[AV,cB]
  split at h
  ·exact .inl h
  ·exact .inr (YR h)
theorem YS:∀{R:Rows} {r:Nat} {x:Row} {k:Nat},R.getD r none=some x->k∈kY [x]->k∈Hk R
 |some y::l,0,x,k,h,hk=>by
  simp at h;subst h
  simp only[Hk,cB];exact .inl hk
 |none::l,0,x,k,h,hk=>by simp at h
 |y::l,r+1,x,k,h,hk=>by
  have:=YS (R:=l) (r:=r) (by simpa[aV]using h) hk
  cases y<;>simp[Hk,this]
 |[],r,x,k,h,_=>by simp[aV]at h
theorem VRep.toRep{c:Ctx}{d:D}(h:VRep c w d v):Rep c w d v:=by
 cases d<;>first|exact h|trivial|exact h.elim
theorem Rep.toVRep{c:Ctx}{d:D}(hv:d.isVal=true)(h:Rep c w d v):VRep c w d v:=by
 cases d<;>first|exact h|(simp[D.isVal]at hv)
theorem kJ.length{c:Ctx}{w:World}:∀{ds:List D} {vs:List Value},kJ c w ds vs->ds.length=vs.length
 |[],[],_=>rfl
 |_::_,_::_,h=>by simp[kJ.length h.2]
 |[],_::_,h=>h.elim
 |_::_,[],h=>h.elim
theorem Zbq:∀{ds:List D} {i t:Nat},(∃j,t=i+j/\j<ds.length/\look (GG ds i) t=ds.getD j .dead)\/look (GG ds i) t=.dead
 |[],i,t=>.inr rfl
 |d ::ds,i,t=>by
  simp only[GG,BF]
  by_cases e:i=t
  ·left;exact⟨0,by omega,by simp,by rw[if_pos e];rfl⟩
  ·rw[if_neg e]
   rcases Zbq (ds:=ds) (i:=i+1) (t:=t)with⟨j,h1,h2,h3⟩|h
   ·left;exact⟨j+1,by omega,by simpa using h2,by simpa using h3⟩
   ·right;exact h
theorem Zux{c:Ctx}{ds:List D}(h:kJ c w ds vs)(n t:Nat):Rep c w (look (GG ds 0) t) ((vs.toArray++gX n undef).getD t undef):=by
 rcases Zbq (ds:=ds) (i:=0) (t:=t)with⟨j,h1,h2,h3⟩|h1
 ·obtain⟨v,hv,hr⟩:=Zau h j h2
  rw[h3]
  have:t=j:=by omega
  subst this
  have hx:(vs.toArray++gX n undef).getD t undef=v:=by
   have bc:=(List.getElem?_eq_some_iff.1 hv).1
   have hvv:=(List.getElem?_eq_some_iff.1 hv).2
   simp[Array.getElem?_append,bc,hvv]
  rw[hx]
  exact hr.toRep
 ·rw[h1];trivial
theorem Zxd{t:TypeId}{x:D}{K:D->Rows->Prop}(h:Aw T t x R K){c:Ctx}(hr:Rep c w x v):∃a,v=.pointer (some a):=by
 unfold Aw at h
 split at h
 ·exact h.elim
 ·cases x<;>simp only at h
  case ptr r i off=>obtain⟨_,_,_,_,hv⟩:=hr;exact⟨_,hv⟩
  case pa r i off len k n=>obtain⟨_,_,_,_,_,hv⟩:=hr;exact⟨_,hv⟩
  case iu sz es i off=>obtain⟨_,_,_,_,_,hv,_⟩:=hr;exact⟨_,hv⟩
def NQ(tmps:Array Value):ResultVar->Sem Value
 |.tmp t=>pure (tmps.getD t undef)
 |.cell a t=>do loadVar t (<-asAddr (tmps.getD a undef))
theorem Xa{P:Program}{T:iz}(hT:jC P T){R:Rows}{env:List (Nat×D)}:∀{l:List ResultVar} {K:List D->Prop},GH T R env l K->
 ∃ds,K ds/\∀c w (tmps:Array Value),Mem c w->mN c R->(∀t,Rep c w (look env t) (tmps.getD t undef))->∃vs,(l.mapM (NQ tmps)).run P w=.ok vs w/\kJ c w ds vs
 |[],K,h=>⟨[],h,λc w tmps _ _ _=>⟨[],rfl,trivial⟩⟩
 |.tmp t::l,K,h=>by
  simp only[GH,D.c7,de]at h
  obtain⟨hv,h⟩:=h
  obtain⟨ds,hK,hr⟩:=Xa hT h
  refine⟨_,hK,λc w tmps hm hA he=>?_⟩
  obtain⟨vs,h1,h2⟩:=hr c w tmps hm hA he
  refine⟨tmps.getD t undef::vs,?_,(he t).toVRep hv,h2⟩
  simp only[gY,Sem.run_bind,NQ,Sem.run_pure,Result.andThen_ok,h1]
 |.cell a t::l,K,h=>by
  simp only[GH]at h
  obtain⟨val,Xb,Ew⟩:=Zq2 hT h
  simp only[de]at Xb
  obtain⟨hv,Xb⟩:=Xb
  obtain⟨ds,hK,hr⟩:=Xa hT Xb
  refine⟨_,hK,λc w tmps hm hA he=>?_⟩
  obtain⟨vs,h1,h2⟩:=hr c w tmps hm hA he
  obtain⟨u,hu,hx⟩:=Ew c w _ hm hA (he a)
  obtain⟨ad,had⟩:=Zxd h (he a)
  rw[had,WS]at hu
  refine⟨u::vs,?_,hx.toVRep hv,h2⟩
  simp only[gY,Sem.run_bind,NQ,had,asAddr,Sem.run_pure,Result.andThen_ok,hu,h1]
def DW:List Value->Value
 |[v]=>v
 |vs=>.tuple vs.toArray
theorem Zdh{tmps:Array Value}(h:(fn.results.toList.mapM (NQ tmps)).run P w=.ok vs w):(results fn tmps).run P w=.ok (DW vs) w:=by
 have h2:(fn.results.mapM (NQ tmps)).run P w=.ok vs.toArray w:=by
  rw[<-bW (xs:=fn.results),List.mapM_toArray]
  simp only[Sem.run_map,h,Result.andThen_ok]
 have h3:(results fn tmps)=(fn.results.mapM (NQ tmps))>>=λvs=>pure (if h:vs.size=1 then vs[0]else .tuple vs):=by
  unfold results
  congr 1
 rw[h3,Sem.run_bind,h2]
 simp only[Result.andThen_ok,Sem.run_pure]
 congr 1
 match vs with
 |[]=>rfl
 |[v]=>rfl
 |_::_::_=>rfl
theorem fq.OH{c0:Ctx}{c:Ctx}(hs:fq N M c0 w0 c w st a){b:Nat}(hb:w0.heap.size<=b){o o':Obj}(ho:w.heap[b]?=some o)(hc:∀arr ty fz,o≠.cells arr ty fz)
 {Fk:Nat->Prop} (gF:∀k ws v,Fk k->sD c w k ws v->sD {c with I:=λx=>c.I x/\x≠b} (w.putObj b o') k ws v) (hE:∀t,∀k∈DI (look st.env t),Fk k) (hR:∀r x,c.R r=some x->∀k∈kY [x],Fk k) {ds:List Deferred} (hd:mH w0.heap.size (w.putObj b o') ds):
 fq N M c0 w0 {c with I:=λx=>c.I x/\x≠b} (w.putObj b o') st {a with defers:=ds}:=by
 have c6:∀r x,c.R r=some x->¬c.V r->c.ρ r≠b:=λr x hr hV e=>by
  rcases hs.mem.row r x hr with h|⟨_,arr,h,_⟩
  ·exact hV h.1
  ·rw[e,ho]at h;exact hc _ _ _ (Option.some.inj h)
 have hh:∀r x,c.R r=some x->¬c.V r->(w.putObj b o').heap[c.ρ r]?=w.heap[c.ρ r]? :=λr x hr hV=>World.putObj_heap_other (c6 r x hr hV)
 have hg:KC c w {c with I:=λx=>c.I x/\x≠b} (w.putObj b o'):=by
  refine⟨rfl,aX _,λx arr ty fz hI hx=>?_,λr x hr=>⟨x,hr,rfl,rfl,rfl,rfl,rfl,Iff.rfl,λhV arr ha=>⟨arr,(hh r x hr hV).trans ha,rfl⟩⟩⟩
  have ia:x≠b:=λe=>by subst e;rw[ho]at hx;exact hc _ _ _ (Option.some.inj hx)
  exact⟨⟨hI,ia⟩,(World.putObj_heap_other ia).trans hx⟩
 have jW:∀x,c0.I x->x≠b:=λx hx e=>by
  obtain⟨h1,h2⟩:=hs.reach.cz.I x hx
  have h3:=(hs.mem.fk x h1).1
  rw[e,ho]at h2
  have:=(Array.getElem?_eq_some_iff.1 h2.symm).1
  omega
 refine⟨Zjo hs.mem hg hh gF hR (λx hx=>⟨by simpa using(hs.mem.fk x hx.1).1,(hs.mem.fk x hx.1).2⟩) (by simp),hs.rows,λt=>Zvh hg gF (hE t) (hs.env t),hs.size,hd,hs.gg,hs.ib,?_⟩
 refine⟨⟨hs.reach.cz.base,hs.reach.cz.top,λx hx=>?_,λr row hr=>?_⟩,⟨hs.reach.fr.os,hs.reach.fr.tape,hs.reach.fr.output,by simpa using hs.reach.fr.size,λx hx hn=>?_⟩,λx hx=>hs.reach.fk x hx.1,hs.reach.oO,hs.reach.xb⟩
 ·obtain⟨h1,h2⟩:=hs.reach.cz.I x hx
  exact⟨⟨h1,jW x hx⟩,(World.putObj_heap_other (jW x hx)).trans h2⟩
 ·obtain⟨aq,h1,h2,h3,h4,h5,h6,hV,h7⟩:=hs.reach.cz.R r row hr
  refine⟨aq,h1,h2,h3,h4,h5,h6,hV,λnv arr ha=>?_⟩
  obtain⟨iX,g1,g2⟩:=h7 nv arr ha
  refine⟨iX,?_,g2⟩
  rw[World.putObj_heap_other]
  ·exact g1
  ·intro e;rw[e,ho]at g1;exact hc _ _ _ (Option.some.inj g1)
 ·rw[World.putObj_heap_other (by omega)];exact hs.reach.fr.heap x hx hn
theorem fq.edit{c0:Ctx}{c:Ctx}(hs:fq N M c0 w0 c w st a)(hI:c0.I l){rec:Loop}(ho:w0.heap[l]?=some (.loop rec))(DX:∀r x,c0.R r=some x->¬c0.V r->c0.ρ r≠l)
 (nJ:rW (AV st.env++Hk st.rows)=true):fq N M {c0 with I:=λx=>c0.I x/\x≠l} (w0.putObj l o') {c with I:=λx=>c.I x/\x≠l} (w.putObj l o') st a:=by
 have hl:w.heap[l]?=some (.loop rec):=(hs.reach.cz.I l hI).2.trans ho
 have Jam:=(Array.getElem?_eq_some_iff.1 ho).1
 have bc:=(Array.getElem?_eq_some_iff.1 hl).1
 have c6:∀r x,c.R r=some x->¬c.V r->c.ρ r≠l:=λr x hr hV=>(hs.mem.fk l (hs.reach.cz.I l hI).1).2 r x hr hV
 have hh:∀r x,c.R r=some x->¬c.V r->(w.putObj l o').heap[c.ρ r]?=w.heap[c.ρ r]? :=λr x hr hV=>World.putObj_heap_other (c6 r x hr hV)
 have gF:∀k ws v,k<YB->sD c w k ws v->sD {c with I:=λx=>c.I x/\x≠l} (w.putObj l o') k ws v:=λk ws v hk hv=>by
  rcases hv with hv|⟨hv,_⟩
  ·exact .inl hv
  ·omega
 have hg:KC c w {c with I:=λx=>c.I x/\x≠l} (w.putObj l o'):=by
  refine⟨rfl,aX _,λx arr ty fz hI hx=>?_,λr x hr=>⟨x,hr,rfl,rfl,rfl,rfl,rfl,Iff.rfl,λhV arr ha=>⟨arr,(hh r x hr hV).trans ha,rfl⟩⟩⟩
  have ia:x≠l:=λe=>by subst e;rw[hl]at hx;cases hx
  exact⟨⟨hI,ia⟩,(World.putObj_heap_other ia).trans hx⟩
 refine⟨Zjo hs.mem hg hh gF (λr x hr k hk=>OI nJ (fK _ (YS (by rw[<-hs.rows];exact hr) hk))) (λx hx=>⟨by simpa using(hs.mem.fk x hx.1).1,(hs.mem.fk x hx.1).2⟩) (by simp),hs.rows,λt=>Zvh hg gF (λk hk=>OI nJ (fF _ (YR hk))) (hs.env t),hs.size,?_,by simpa using hs.gg,hs.ib,?_⟩
 ·have:=hs.defers.to (w':=w.putObj l o') λb hb=>(World.putObj_heap_other λe=>by rw[e,hl]at hb;cases hb).trans hb
  simpa using this
 refine⟨⟨hs.reach.cz.base,hs.reach.cz.top,λx hx=>?_,λr row hr=>?_⟩,⟨hs.reach.fr.os,hs.reach.fr.tape,hs.reach.fr.output,by simpa using hs.reach.fr.size,λx hx hn=>?_⟩,λx hx=>?_,λr row hr hv=>?_,hs.reach.xb⟩
 ·obtain⟨h1,h2⟩:=hs.reach.cz.I x hx.1
  exact⟨⟨h1,hx.2⟩,(World.putObj_heap_other hx.2).trans (h2.trans (World.putObj_heap_other hx.2).symm)⟩
 ·obtain⟨aq,h1,h2,h3,h4,h5,h6,hV,h7⟩:=hs.reach.cz.R r row hr
  refine⟨aq,h1,h2,h3,h4,h5,h6,hV,λnv arr ha=>?_⟩
  rw[World.putObj_heap_other (DX r row hr nv)]at ha
  obtain⟨iX,g1,g2⟩:=h7 nv arr ha
  refine⟨iX,?_,g2⟩
  rw[World.putObj_heap_other]
  ·exact g1
  ·intro e;rw[e,hl]at g1;cases g1
 ·by_cases e:x=l
  ·subst e;rw[World.putObj_heap_same bc,World.putObj_heap_same Jam]
  ·rw[World.putObj_heap_other e,World.putObj_heap_other e]
   exact hs.reach.fr.heap x (by simpa using hx) hn
 ·rcases hs.reach.fk x hx.1 with g|g|g
  ·exact .inl ⟨g,hx.2⟩
  ·exact .inr (.inl g)
  ·exact .inr (.inr (by simpa using g))
 ·rcases hs.reach.oO r row hr hv with g|g|g
  ·exact .inl g
  ·exact .inr (.inl g)
  ·exact .inr (.inr (by simpa using g))
theorem leaves{P:Program}{fn:Func}{R:Ending->World->Prop}{N M:Nat}{c0:Ctx}{w0:World}{c:Ctx}{w:World}{st:St}{a:Act}(hs:fq N M c0 w0 c w st a)
 (h:∀c' w' a',a'.tmps=a.tmps->fq N M c0 w0 c' w' st a'->∃v,(results fn a'.tmps).run P w'=.ok v w'/\R (.returned v) w'):LeavesInM Fence.wide 0 P fn a.tmps R a.defers .returning w:=by
 obtain⟨bs,lH,Fc,Xc⟩:=hs.defers
 revert c w a
 induction bs with
 |nil=>
  intro c w a hs h Fc Xc
  rw[Fc]
  obtain⟨v,h1,h2⟩:=h c w a rfl hs
  exact⟨v,h1,h2⟩
 |cons b bs ih=>
  intro c w a hs h Fc Xc
  obtain⟨h1,h2⟩:=Xc b (by simp)
  rw[List.nodup_cons]at lH
  rw[Fc]
  refine⟨by simp,.inl ⟨b,_,rfl,run_takeDeferred h2,?_⟩⟩
  have SR:∀x∈bs,w0.heap.size<=x/\(w.putObj b (.deferred none)).heap[x]?=some (.deferred (some [])):=λx hx=>by
   obtain⟨g1,g2⟩:=Xc x (by simp[hx])
   exact⟨g1,(World.putObj_heap_other (λe=>lH.1 (by rw[<-e];exact hx))).trans g2⟩
  refine ih lH.2 (a:={a with defers:=bs.map λb=>({target:=.collected b,args:= #[]}:Deferred)}) (hs.OH h1 h2 (λ_ _ _ e=>by cases e) (Fk:=λ_=>True) (λk ws v _ hv=>?_) (λ_ _ _=>trivial) (λ_ _ _ _ _=>trivial) ⟨bs,lH.2,rfl,SR⟩) h rfl SR
  rcases hv with hv|⟨g1,l,rec,g2,g3,g4,g5⟩
  ·exact .inl hv
  ·have ia:l≠b:=λe=>by rw[e,h2]at g4;cases g4
   exact .inr ⟨g1,l,rec,g2,⟨g3,ia⟩,(World.putObj_heap_other ia).trans g4,g5⟩
theorem xx(hD:rm P)(hT:jC P T)(hG:jU P G)(hf:P.funcs[f]?=some fn){args:List D}{rows:List Row}{res:D}{aj:List Row}
 {rf:Option Nat} (nm:∀code,fn.body=some code->RF rf fn.ntmps code) {L:Code->St->(Ex->St->Prop)->Prop} (hL:∀code st Q,RF rf fn.ntmps code->L code st Q->Tr P fn.ntmps rows.length code st Q) {Q0:D->Rows->Prop} (DY:∀d R,Q0 d R->AZ rows.length res aj d R) (h:ky T G L fn args rows Q0):kM P f args rows res aj:=by
 intro c w vs hm jD hR gb
 unfold ky at h
 split at h
 ·rename_i code hb
  have hs:fq fn.ntmps rows.length {c with X:=λ_=>False} w c w ⟨GG args 0,rows.map some⟩ {tmps:=vs.toArray++gX (fn.ntmps-vs.toArray.size) undef,defers:=[]}:=
   ⟨hm,λr=>by
    rw[hR]
    simp only[aV,gZ]
    cases rows[r]? <;>rfl,λt=>Zux gb _ t,by simp;omega,mH.nil,Nat.le_of_eq jD,λr row h=>by have h:c.R r=some row:=h;rw[hR]at h;exact(List.getElem?_eq_some_iff.1 h).1,AM.refl c w⟩
  refine callsIn_wide.1 (callsIn_of_wp_marks (F:=Fence.wide) (n:=0) hf hb trivial (wpIn_mono (OJ (ro:=none) hD hT hG (OK rf fn.ntmps) hL code _ _ (nm _ hb) h _ w c w _ hs) λe a' w' hq=>?_))
  obtain⟨ex,st,c1,he,hq,mj⟩:=hq
  have fin:(GH T st.rows st.env fn.results.toList λds=>match ds with|[d]=>Q0 d st.rows|ds=>Q0 (.dw ds) st.rows)->
   LeavesInM Fence.wide 0 P fn a'.tmps (λe w'=>∃v' c',e=.returned v'/\mn c w c' w'/\(∀r,c'.R r=aj[r]?)/\Rep c' w' res v') a'.defers .returning w':=by
   intro lr
   refine leaves mj λc1 w' a' jV mj=>?_
   obtain⟨ds,hK,hr⟩:=Xa hT lr
   have pJ:mN c1 st.rows:=λr row aq h1 h2=>by rw[mj.rows,h2]at h1;exact(Option.some.inj h1).symm
   obtain⟨us,il,DZ⟩:=hr c1 w' a'.tmps mj.mem pJ mj.env
   have tQ:=Zdh il
   obtain⟨d,v,KL,hv,o5⟩:∃d v,AZ rows.length res aj d st.rows/\DW us=v/\Rep c1 w' d v:=by
    match ds,us,DZ with
    |[d],[u],hx=>exact⟨d,u,DY _ _ hK,rfl,hx.1.toRep⟩
    |[],[],hx=>exact⟨.dw [],_,DY _ _ hK,rfl,[],rfl,trivial⟩
    |d::e::ds,u::v::us,hx=>exact⟨.dw (d::e::ds),_,DY _ _ hK,rfl,_,rfl,hx⟩
    |[],_::_,hx=>exact hx.elim
    |[_],[],hx=>exact hx.elim
    |[_],_::_::_,hx=>exact hx.2.elim
    |_::_::_,[],hx=>exact hx.elim
    |_::_::_,[_],hx=>exact hx.2.elim
   rw[hv]at tQ
   obtain⟨ex,hex,hd,db⟩:=KL
   obtain⟨fe,jy,gd⟩:=UQ mj hex db
   exact⟨v,tQ,v,c1.out _ aj,rfl,⟨jy,⟨gd.cz.base,gd.cz.top,gd.cz.I,gd.cz.R⟩,gd.fr.mono (λb _ hb=>hb.elim id False.elim),λb hb=>(gd.fk b hb).imp id (λh=>h.elim False.elim id),λr aq h1 h2=>(gd.oO r aq h1 h2).imp id (λh=>h.elim False.elim id)⟩,λr=>rfl,UP mj.mem mj.rows db fe hd o5⟩
  cases e<;>simp only[nz,Option.some.injEq,reduceCtorEq]at he
  ·subst he;exact fin hq
  ·subst he;exact hq.elim
  ·subst he;exact fin hq
 ·exact h.elim
theorem xae{rows:List Row}{c:Ctx}{c':Ctx}{w':World}(jy:Mem c' w')(gd:AM {c.kill (bO k (rows.length-k))with X:=λb=>∃s row,da s (bO k (rows.length-k))=true/\c.R s=some row/\¬c.V s/\c.ρ s=b} w c' w'):
 j6 (bO k (rows.length-k)) c w c' w':=by
 refine⟨jy,⟨gd.cz.base,gd.cz.top,gd.cz.I,gd.cz.R⟩,gd.fr.mono (λb _ hb=>?_),λb hb=>gd.fk b hb,λr aq h1 h2=>?_⟩
 ·rcases hb with⟨r,x,h1,h2,h3⟩|⟨r,x,_,h1,h2,h3⟩
  ·obtain⟨_,row,g1,_⟩:=nK (c:=c) (ks:=bO k (rows.length-k)) h1
   exact⟨r,row,g1,h2,h3⟩
  ·exact⟨r,x,h1,h2,h3⟩
 ·rcases gd.oO r aq h1 h2 with⟨⟨x,g1⟩,g2,g3⟩|⟨s,x,q1,q2,q3,q4⟩|g
  ·obtain⟨_,row,p1,_⟩:=nK (c:=c) (ks:=bO k (rows.length-k)) g1
   exact .inl ⟨⟨row,p1⟩,g2,g3⟩
  ·exact .inr (.inl ⟨s,x,q1,q2,q3,q4.symm⟩)
  ·exact .inr (.inr g)
theorem Zvn:∀{rows:List Row} {r:Nat} {x:Row} {k:Nat},rows[r]?=some x->k∈kY [x]->k∈kY rows
 |y::l,0,x,k,h,hk=>by
  simp at h;subst h
  unfold kY at hk⊢
  split<;>simp_all [kY]
 |y::l,r+1,x,k,h,hk=>by
  have:=Zvn (rows:=l) (by simpa using h) hk
  unfold kY
  split<;>simp_all
 |[],r,x,k,h,_=>by simp at h
theorem Zwj{c:Ctx}{w:World}{tm pF:Array Value}:∀{ts:List Nat} {ds:List D},kJ c w ds (ts.map λt=>tm.getD t undef)->(∀t∈ts,pF.getD t undef=tm.getD t undef)->∀t,Rep c w (look (o9 ts ds) t) (pF.getD t undef)
 |[],ds,_,_,t=>by cases ds<;>trivial
 |u::ts,[],h,_,t=>h.elim
 |u::ts,d::ds,h,ht,t=>by
  simp only[o9,BF]
  split
  ·rename_i e;rw[<-e,ht u (by simp)];exact h.1.toRep
  ·exact Zwj h.2 (λt h=>ht t (by simp[h])) t
theorem zx{F:Fence}{y:YK}(hd:y.pos=some d){x:Value}(hn:y.n<=tm.size){K:Act->World->Prop}
 (hK:∀pF,pF.size=tm.size->pF.getD d undef=x->(∀t∈y.ts,pF.getD t undef=tm.getD t undef)->K {tmps:=pF,defers:=[]} w):
 y.assign.wpIn (BI (some l)) 0 P (Exit.then K λ_ _ _=>False) {tmps:=(y.ps.zip #[x]).foldl (λtmps (t,a)=>tmps.setIfInBounds t a) tm,defers:=[]} w:=by
 have dv:∀(p:Nat) (KM:Array Value) (t:Nat),t≠p->(KM.setIfInBounds p x).getD t undef=KM.getD t undef:=λp KM t h=>by
  simp[aQ,aZ (Ne.symm h)]
 have here:∀(p:Nat) (KM:Array Value),p<KM.size->(KM.setIfInBounds p x).getD p undef=x:=λp KM h=>by
  simp[aQ,h]
 unfold YK.pos at hd
 split at hd
 ·rename_i p lL has
  have lL:y.ps= #[p]:=by rw[<-bW (xs:=y.ps),lL]
  split at hd
  ·rename_i hc
   cases hd
   simp only[aE,hH,bB]at hc
   have hp:d<tm.size:=bM (lE hc.1) hn
   rw[has,lL]
   refine wpIn_skip (hK _ (by simp) ?_ λt ht=>?_)
   ·simpa using here d tm hp
   ·have:=dv d tm t (λe=>by have:=(hc.2 t ht).1;rw[e]at this;simp at this)
    simpa using this
  ·cases hd
 ·rename_i p id ops lL has
  have lL:y.ps= #[p]:=by rw[<-bW (xs:=y.ps),lL]
  split at hd
  ·rename_i e q ty po af Ea
   have Ea:ops= #[⟨some e,.assign (.tmp q),ty,po,af,none⟩]:=by rw[<-bW (xs:=ops),Ea]
   split at hd
   ·rename_i hc
    cases hd
    simp only[aE,hH,bB]at hc
    obtain⟨⟨hq,hp,hd⟩,Fx⟩:=hc
    have hq:=bE hq
    subst hq
    have hp:q<tm.size:=bM (lE hp) hn
    have hd:d<tm.size:=bM (lE hd) hn
    rw[has,lL,Ea]
    refine Zpv ?_
    show wpOp P _ _ 0 _ _ _
    unfold wpOp
    simp only[List.getElem?_toArray,List.getElem?_cons_zero]
    rw[if_pos (by simp[Region.wanted])]
    refine Hg (u:=x) (w':=w) ?_ ?_
    ·have:(tm.setIfInBounds q x).getD q undef=x:=here q tm hp
     simp only[execOp,Act.eval]
     simp[aQ,hp]
    ·show K {tmps:=Array.setIfInBounds _ d x,defers:=[]} w
     refine hK _ (by simp) ?_ λt ht=>?_
     ·exact here d _ (by simpa using hd)
     ·have h1:=(Fx t ht).1
      rw[dv d _ t (λh=>by rw[h]at h1;simp at h1)]
      have:=dv q tm t (λh=>by rw[h]at h1;simp at h1)
      simpa using this
   ·cases hd
  ·cases hd
 ·cases hd
inductive pI(P:Program)(f:FuncId)(fn:Func)(cl:Prop):Prop where
 |real (h:f<YB) (hf:P.funcs[f]?=some fn) (hb:gW YB fn.nfree=false)
 |yield (h:YB<=f) (y:YK) (d:Nat) (hy:Bv f=some y) (hd:y.pos=some d) (hb:fn.body=some y.body) (hn:gW YB fn.nfree=true) (SS:bX fn.nfree YB=true) (hp:fn.params.toList=d::y.ts) (ht:fn.ntmps=y.n) (hc:cl)
 |wI (h:YB<=f) (y:YK) (q:Nat) (hy:Bv f=some y) (lL:y.ps= #[q]) (hq:(Nat.blt q y.n&&y.ts.all λt=>!(bX t q))=true) (hb:fn.body=some (.seq y.assign y.body)) (hn:gW YB fn.nfree=true) (SS:bX fn.nfree YB=false) (hp:fn.params.toList=q::y.ts) (ht:fn.ntmps=y.n) (hc:cl)
theorem KN{rows:List Row}{c:Ctx}{env:List (Nat×D)}(hm:Mem c w)(jD:c.base=0)(hR:∀r,c.R r=rows[r]?)(tR:∀t,Rep c w (look env t) (tm.getD t undef))(ga:N<=tm.size):
 fq N k {c.kill (bO k (rows.length-k))with X:=λb=>∃s row,da s (bO k (rows.length-k))=true/\c.R s=some row/\¬c.V s/\c.ρ s=b} w c w ⟨env,rows.map some⟩ {tmps:=tm,defers:=[]}:=by
 refine⟨hm,λr=>by
  rw[hR]
  simp only[aV,gZ]
  cases rows[r]? <;>rfl,tR,ga,mH.nil,by simp[Ctx.kill,jD],λr row h=>?_,⟨⟨rfl,aX _,λ_ h=>⟨h,rfl⟩,λr x hx=>?_⟩,Fr.refl _ w,λ_ h=>.inl h,λr row hr hv=>?_,λ_ _=>by simp[Ctx.kill,jD]⟩⟩
 ·obtain⟨h1,aq,h2,_⟩:=nK (c:=c) (ks:=bO k (rows.length-k)) h
  rw[hR]at h2
  have bc:=(List.getElem?_eq_some_iff.1 h2).1
  by_cases hk:r<k
  ·exact hk
  ·rw[Ny.2 (by omega)]at h1;cases h1
 ·obtain⟨_,row,h2,rfl⟩:=nK (c:=c) (ks:=bO k (rows.length-k)) hx
  obtain⟨s1,s2,s3,s4⟩:=wZ (bO k (rows.length-k)) row
  exact⟨row,h2,s1.symm,s2.symm,s3.symm,s4.symm,rfl,Iff.rfl,λ_ arr ha=>⟨arr,by rw[s2]at ha⊢;exact ha,rfl⟩⟩
 ·cases hb:da r (bO k (rows.length-k))with
  |true=>exact .inr (.inl ⟨r,row,hb,hr,hv,rfl⟩)
  |false=>exact .inl ⟨⟨row.kill (bO k (rows.length-k)),by simp[Ctx.kill,hb,hr]⟩,hv,rfl⟩
theorem Zo3{c:Ctx}{tm pF:Array Value}{ps:List Nat}{ts:List Nat}(Eb:ps=d::ts){args:List D}{vs us:List Value}{x:Value}(CF:vs=[x]++us)(uA:us=ts.map λt=>tm.getD t undef)(gb:kJ c w args vs)(hx:pF.getD d undef=x)(Fx:∀t∈ts,pF.getD t undef=tm.getD t undef):
 ∀t,Rep c w (look (o9 ps args) t) (pF.getD t undef):=by
 subst Eb
 subst CF
 match args,gb with
 |[],hx=>exact hx.elim
 |A::As,⟨hA,hAs⟩=>
  intro t
  simp only[o9,BF]
  split
  ·rename_i e;rw[<-e,hx];exact hA.toRep
  ·exact Zwj (by rw[uA]at hAs;exact hAs) Fx t
theorem Zir(hD:rm P)(hT:jC P T)(hG:jU P G){rows:List Row}{res:D}{aj:List Row}{L:Code->St->(Ex->St->Prop)->Prop}(hL:∀ro code st Q,L code st Q->uL ro P n k code st Q){Q0:D->Rows->Prop}(DY:∀d R,Q0 d R->AZ k res aj d R)
 {c:Ctx} {w:World} {l:Nat} {rec:Loop} (hm:Mem c w) (hI:c.I l) (hl:w.heap[l]?=some (.loop rec)) (kj:rec.state=.ready) (EC:rec.pending=none) {st:St} {c2:Ctx} {w2:World} {a:Act}
 (hs:fq n k {({c with I:=λb=>c.I b/\b≠l}:Ctx).kill (bO k (rows.length-k))with X:=λb=>∃s row,da s (bO k (rows.length-k))=true/\c.R s=some row/\¬c.V s/\c.ρ s=b} (w.putObj l (.loop {rec with state:=.busy})) c2 w2 st a)
 (h:pM T G n k L code st λe st=>match e with|.normal=>Q0 (.bool true) st.rows|_=>False):
 code.wpIn (BI (some l)) 0 P (roundPost P l λe w'=>∃v' c',e=.returned v'/\j6 (bO k (rows.length-k)) c w c' w'/\(∀r,c'.R r=aj[r]?)/\Rep c' w' res v') a w2:=by
 have bc:=(Array.getElem?_eq_some_iff.1 hl).1
 obtain⟨ĉ,hĉ⟩:∃ĉ:Ctx,ĉ={c with I:=λb=>c.I b/\b≠l}:=⟨_,rfl⟩
 obtain⟨wb,KO⟩:∃wb,wb=w.putObj l (.loop {rec with state:=.busy}):=⟨_,rfl⟩
 have c6:∀r x,c.R r=some x->¬c.V r->c.ρ r≠l:=λr x hr hV=>(hm.fk l hI).2 r x hr hV
 have KP:∀b,b≠l->wb.heap[b]?=w.heap[b]? :=λb hb=>by rw[KO];exact World.putObj_heap_other hb
 have h2l:wb.heap[l]?=some (.loop {rec with state:=.busy}):=by rw[KO];exact World.putObj_heap_same bc
 have GI:wb.heap.size=w.heap.size:=by rw[KO];simp
 have hs:fq n k {ĉ.kill (bO k (rows.length-k))with X:=λb=>∃s row,da s (bO k (rows.length-k))=true/\ĉ.R s=some row/\¬ĉ.V s/\ĉ.ρ s=b} wb c2 w2 st a:=by rw[hĉ,KO];exact hs
 refine wpIn_mono (OJ (ro:=some l) hD hT hG (OK none n) (λcode st Q _ hl=>hL (some l) code st Q hl) code _ _ trivial h _ wb c2 w2 _ hs) λe a' w3 hq=>?_
 obtain⟨ex,st,c1,he,hq,mj⟩:=hq
 cases e<;>simp only[nz,Option.some.injEq,reduceCtorEq]at he<;>subst he
 rotate_left
 ·exact hq.elim
 ·exact hq.elim
 obtain⟨ex,hex,ra,db⟩:=DY _ _ hq
 obtain⟨fe,jy,gd⟩:=UQ mj hex db
 have hX:¬({ĉ.kill (bO k (rows.length-k))with X:=λb=>∃s row,da s (bO k (rows.length-k))=true/\ĉ.R s=some row/\¬ĉ.V s/\ĉ.ρ s=b}:Ctx).X l:=fun⟨s,row,_,g1,g2,g3⟩=>by
  rw[hĉ]at g1 g2 g3;exact c6 s row g1 g2 g3
 have h3l:w3.heap[l]?=some (.loop {rec with state:=.busy}):=by
  refine(mj.reach.fr.heap l (by rw[GI];exact bc) λhx=>?_).trans h2l
  rcases hx with⟨r,row,g1,g2,g3⟩|hx
  ·obtain⟨_,aq,g4,_⟩:=nK (c:=ĉ) g1
   rw[hĉ]at g2 g3 g4;exact c6 r aq g4 g2 g3
  ·exact hX hx
 have Js:=(Array.getElem?_eq_some_iff.1 h3l).1
 have Fy:=run_endRound (P:=P) none h3l
 refine⟨_,_,Fy,_,{c1.out ex aj with I:=λb=>(c1.out ex aj).I b\/b=l},rfl,?_⟩
 have SU:({({rec with state:=.busy}:Loop)with state:=if(none:Option Code).isNone then .ready else .done,pending:=none}:Loop)=rec:=by
  cases rec;simp only at kj EC;subst kj;subst EC;rfl
 rw[SU]
 have nl:¬(c1.out ex aj).I l:=λhx=>by
  rcases gd.fk l hx with h|h|h
  ·obtain⟨h,_⟩:ĉ.I l/\True:=⟨h,trivial⟩
   rw[hĉ]at h;exact h.2 rfl
  ·exact hX h
  ·rw[GI]at h;omega
 have Ec:∀r x,(c1.out ex aj).R r=some x->¬(c1.out ex aj).V r->(c1.out ex aj).ρ r≠l:=λr x hr hV e=>by
  rcases jy.row r x hr with g|⟨_,arr,g,_⟩
  ·exact hV g.1
  ·rw[e,h3l]at g;cases g
 have NR:∀b,b≠l->(w3.putObj l (.loop rec)).heap[b]?=w3.heap[b]? :=λb hb=>World.putObj_heap_other hb
 have w6:ju (c1.out ex aj) w3 {c1.out ex aj with I:=λb=>(c1.out ex aj).I b\/b=l} (w3.putObj l (.loop rec)):=
  ⟨rfl,aX _,λb hb=>⟨.inl hb,NR b (λe=>nl (by rw[<-e];exact hb))⟩,λr x hr=>⟨x,hr,rfl,rfl,rfl,rfl,rfl,Iff.rfl,λhV arr ha=>⟨arr,(NR _ (Ec r x hr hV)).trans ha,rfl⟩⟩⟩
 have hN:=xae jy gd
 refine⟨⟨⟨λr x hr=>uf w6 rfl Iff.rfl (λnv=>NR _ (Ec r x hr nv)) (jy.row r x hr),jy.inj,λb hb=>?_,by simpa using jy.top,jy.kb.mono w6.I⟩,⟨?_,?_,λb hb=>?_,λr x hr=>?_⟩,⟨?_,?_,?_,?_,λb hb hn=>?_⟩,λb hb=>?_,λr row hr hv=>?_⟩,λr=>rfl,AN w6 (UP mj.mem mj.rows db fe ra rfl)⟩
 ·rcases hb with hb|hb
  ·simpa using jy.fk b hb
  ·subst hb;exact⟨by simpa using Js,λr x hr hV=>Ec r x hr hV⟩
 ·have:=hN.cz.base;rw[hĉ]at this;exact this
 ·have:=hN.cz.top;rw[hĉ]at this;exact this
 ·by_cases e:b=l
  ·subst e;exact⟨.inr rfl,by rw[World.putObj_heap_same Js,hl]⟩
  ·have:=hN.cz.I b (by rw[hĉ];exact⟨hb,e⟩)
   exact⟨.inl this.1,(NR b e).trans (this.2.trans (KP b e))⟩
 ·have:=hN.cz.R r x (by rw[hĉ];exact hr)
  obtain⟨x',g1,g2,g3,g4,g5,g6,gV,g7⟩:=this
  rw[hĉ]at g6 gV g7
  refine⟨x',g1,g2,g3,g4,g5,g6,gV,λhV arr ha=>?_⟩
  obtain⟨_,x0,q1,_⟩:=nK (c:=c) hr
  have ia:c.ρ r≠l:=c6 r x0 q1 hV
  obtain⟨iX,k1,k2⟩:=g7 hV arr ((KP _ ia).trans ha)
  exact⟨iX,(NR _ ia).trans k1,k2⟩
 ·rw[KO]at hN;exact hN.fr.os
 ·rw[KO]at hN;exact hN.fr.tape
 ·rw[KO]at hN;exact hN.fr.output
 ·have:=hN.fr.size;rw[GI]at this;simpa using this
 ·by_cases e:b=l
  ·subst e;rw[World.putObj_heap_same Js,hl]
  ·rw[NR b e,hN.fr.heap b (by rw[GI];exact hb) (by rw[hĉ];exact hn),KP b e]
 ·rcases hb with hb|hb
  ·rcases hN.fk b hb with g|g|g
   ·rw[hĉ]at g;exact .inl g.1
   ·rw[hĉ]at g;exact .inr (.inl g)
   ·rw[GI]at g;exact .inr (.inr g)
  ·subst hb;exact .inl hI
 ·rcases hN.oO r row hr hv with g|g|g
  ·rw[hĉ]at g;exact .inl g
  ·rw[hĉ]at g;exact .inr (.inl g)
  ·rw[GI]at g;exact .inr (.inr g)
theorem zaS(hD:rm P)(hT:jC P T)(hG:jU P G){args:List D}{rows:List Row}{res:D}{aj:List Row}{rf:Option Nat}(hf:pI P f fn (rW (o6 args++kY rows)=true/\rf=none))(nm:∀code,fn.body=some code->RF rf fn.ntmps code)
 {L:Code->St->(Ex->St->Prop)->Prop} (hL:∀ro,(ro=none\/rf=none)->∀code st Q,RF rf fn.ntmps code->L code st Q->uL ro P fn.ntmps k code st Q) {Q0:D->Rows->Prop} (DY:∀d R,Q0 d R->AZ k res aj d R) (h:GJ T G L fn args rows Q0 k):uG P f k args rows res aj:=by
 intro c w vs hm jD hR gb
 unfold GJ at h
 split at h
 rotate_left
 ·exact h.elim
 rename_i code hb
 cases hf with
 |real bc hf tB=>
  simp only[tB]at h
  refine⟨λ_=>?_,λe6=>absurd bc (Nat.not_lt.2 e6)⟩
  have hs:=KN (N:=fn.ntmps) (k:=k) (env:=GG args 0) (tm:=vs.toArray++gX (fn.ntmps-vs.toArray.size) undef) hm jD hR (λt=>Zux gb _ t) (by simp;omega)
  refine callsIn_wide.1 (callsIn_of_wp_marks (F:=Fence.wide) (n:=0) hf hb trivial (wpIn_mono (OJ (ro:=none) hD hT hG (OK rf fn.ntmps) (hL none (.inl rfl)) code _ _ (nm _ hb) h _ w c w _ hs) λe a' w' hq=>?_))
  obtain⟨ex,st,c1,he,hq,mj⟩:=hq
  have fin:(GH T st.rows st.env fn.results.toList λds=>match ds with|[d]=>Q0 d st.rows|ds=>Q0 (.dw ds) st.rows)->
   LeavesInM Fence.wide 0 P fn a'.tmps (λe w'=>∃v' c',e=.returned v'/\j6 (bO k (rows.length-k)) c w c' w'/\(∀r,c'.R r=aj[r]?)/\Rep c' w' res v') a'.defers .returning w':=by
   intro lr
   refine leaves mj λc1 w' a' jV mj=>?_
   obtain⟨ds,hK,hr⟩:=Xa hT lr
   have pJ:mN c1 st.rows:=λr row aq h1 h2=>by rw[mj.rows,h2]at h1;exact(Option.some.inj h1).symm
   obtain⟨us,il,DZ⟩:=hr c1 w' a'.tmps mj.mem pJ mj.env
   have tQ:=Zdh il
   obtain⟨d,v,KL,hv,o5⟩:∃d v,AZ k res aj d st.rows/\DW us=v/\Rep c1 w' d v:=by
    match ds,us,DZ with
    |[d],[u],hx=>exact⟨d,u,DY _ _ hK,rfl,hx.1.toRep⟩
    |[],[],hx=>exact⟨.dw [],_,DY _ _ hK,rfl,[],rfl,trivial⟩
    |d::e::ds,u::v::us,hx=>exact⟨.dw (d::e::ds),_,DY _ _ hK,rfl,_,rfl,hx⟩
    |[],_::_,hx=>exact hx.elim
    |[_],[],hx=>exact hx.elim
    |[_],_::_::_,hx=>exact hx.2.elim
    |_::_::_,[],hx=>exact hx.elim
    |_::_::_,[_],hx=>exact hx.2.elim
   rw[hv]at tQ
   obtain⟨ex,hex,hd,db⟩:=KL
   obtain⟨fe,jy,gd⟩:=UQ mj hex db
   refine⟨v,tQ,v,c1.out _ aj,rfl,xae jy gd,λr=>rfl,UP mj.mem mj.rows db fe hd o5⟩
  cases e<;>simp only[nz,Option.some.injEq,reduceCtorEq]at he
  ·subst he;exact fin hq
  ·subst he;exact hq.elim
  ·subst he;exact fin hq
 |yield e6 y d hy hd wu hnf KQ Eb hnt hc=>
  simp only[hnf,KQ]at h
  obtain⟨nJ,KR⟩:=hc
  rw[wu]at hb
  cases hb
  refine⟨λbc=>absurd bc (Nat.not_lt.2 e6),λ_ l rec xs us CF hI hl nB jm=>?_⟩
  obtain⟨kj,EC,y',AR,lL,has,hbo,SV,h1,uA⟩:=nB
  rw[hy]at AR;cases AR
  obtain⟨x,rfl⟩:∃x,xs=[x]:=by
   match xs,jm with
   |[x],_=>exact⟨x,rfl⟩
  rw[lL,has,hbo]
  have real:∀k,k∈o6 args++kY rows->k<YB:=λk hk=>OI nJ hk
  have bc:=(Array.getElem?_eq_some_iff.1 hl).1
  have Av:∀arr ty fz,(Obj.loop rec)≠.cells arr ty fz:=λ_ _ _ e=>by cases e
  obtain⟨ĉ,hĉ⟩:∃ĉ:Ctx,ĉ={c with I:=λb=>c.I b/\b≠l}:=⟨_,rfl⟩
  obtain⟨w2,SW⟩:∃w2,w2=w.putObj l (.loop {rec with state:=.busy}):=⟨_,rfl⟩
  have c6:∀r x,c.R r=some x->¬c.V r->c.ρ r≠l:=λr x hr hV=>(hm.fk l hI).2 r x hr hV
  have KP:∀b,b≠l->w2.heap[b]?=w.heap[b]? :=λb hb=>by rw[SW];exact World.putObj_heap_other hb
  have h2l:w2.heap[l]?=some (.loop {rec with state:=.busy}):=by rw[SW];exact World.putObj_heap_same bc
  have GI:w2.heap.size=w.heap.size:=by rw[SW];simp
  have hg:KC c w ĉ w2:=by
   rw[hĉ]
   refine⟨rfl,aX _,λb arr ty fz ik hb=>?_,λr x hr=>⟨x,hr,rfl,rfl,rfl,rfl,rfl,Iff.rfl,λhV arr ha=>⟨arr,(KP _ (c6 r x hr hV)).trans ha,rfl⟩⟩⟩
   have ia:b≠l:=λe=>by subst e;rw[hl]at hb;cases hb
   exact⟨⟨ik,ia⟩,(KP b ia).trans hb⟩
  have gF:∀k ws v,k<YB->sD c w k ws v->sD ĉ w2 k ws v:=λk ws v hk hv=>by
   rcases hv with hv|⟨hv,_⟩
   ·exact .inl hv
   ·omega
  have CI:Mem ĉ w2:=by
   rw[hĉ]at hg gF⊢
   refine Zjo hm hg (λr x hr hV=>KP _ (c6 r x hr hV)) (Fk:=λk=>k<YB) gF (λr x hr k hk=>real k ?_) (λb hb=>⟨by rw[GI];exact(hm.fk b hb.1).1,(hm.fk b hb.1).2⟩) (by rw[GI];exact aX _)
   rw[hR]at hr
   exact fK _ (Zvn hr hk)
  have KS:kJ ĉ w2 args vs:=Z5f hg (Fk:=λk=>k<YB) gF (λk hk=>real k (fF _ hk)) gb
  refine roundIn_of_wpIn (F:=Fence.wide) (n:=0) trivial (zx (F:=Fence.wide) hd (tm:=rec.tmps) SV λpF ga hx Fx=>?_)
  refine⟨w2,by rw[SW];exact run_beginRound hl kj,?_⟩
  have tR:∀t,Rep ĉ w2 (look (o9 fn.params.toList args) t) (pF.getD t undef):=Zo3 Eb CF uA KS hx Fx
  have hs:=KN (N:=fn.ntmps) (k:=k) (env:=o9 fn.params.toList args) (tm:=pF) CI (by rw[hĉ];exact jD) (by rw[hĉ];exact hR) tR (by rw[ga,hnt];exact SV)
  subst KR
  subst SW
  subst hĉ
  exact Zir hD hT hG (λro code st Q hl=>hL ro (.inr rfl) code st Q trivial hl) DY hm hI hl kj EC hs h
 |wI e6 y q hy lL hq wu hnf KQ Eb hnt hc=>
  simp only[hnf,KQ]at h
  obtain⟨nJ,KR⟩:=hc
  subst KR
  rw[wu]at hb
  cases hb
  simp only at h
  refine⟨λbc=>absurd bc (Nat.not_lt.2 e6),λ_ l rec xs us CF hI hl nB jm=>?_⟩
  obtain⟨kj,EC,y',AR,Jan,has,hbo,SV,h1,uA⟩:=nB
  rw[hy]at AR;cases AR
  obtain⟨x,rfl⟩:∃x,xs=[x]:=by
   match xs,jm with
   |[x],_=>exact⟨x,rfl⟩
  rw[Jan,has,hbo]
  obtain⟨pF,Xd⟩:∃pF,pF=rec.tmps.setIfInBounds q x:=⟨_,rfl⟩
  have hz:((y.ps.zip [x].toArray).foldl (λtmps (t,a)=>tmps.setIfInBounds t a) rec.tmps)=pF:=by rw[lL,Xd];simp
  rw[hz]
  simp only[aE,hH,bB]at hq
  have hqs:q<rec.tmps.size:=bM (lE hq.1) SV
  have hx:pF.getD q undef=x:=by rw[Xd];simp[aQ,hqs]
  have Fx:∀t∈y.ts,pF.getD t undef=rec.tmps.getD t undef:=λt ht=>by
   have ia:q≠t:=λe=>by have:=hq.2 t ht;rw[e]at this;simp at this
   rw[Xd];simp[aQ,aZ ia]
  have tR:∀t,Rep c w (look (o9 fn.params.toList args) t) (pF.getD t undef):=Zo3 Eb CF uA gb hx Fx
  have hs:=KN (N:=fn.ntmps) (k:=k) (env:=o9 fn.params.toList args) (tm:=pF) hm jD hR tR (by rw[Xd,hnt];simpa using SV)
  refine roundIn_of_wpIn (F:=Fence.wide) (n:=0) trivial (wpIn_mono (OJ (ro:=some l) hD hT hG (OK none fn.ntmps) (λcode st Q _ hl=>hL (some l) (.inr rfl) code st Q trivial hl) y.assign _ _ trivial h _ w c w _ hs) λe a1 w1 hq=>?_)
  obtain⟨ex,st1,c1,he,hq,mj⟩:=hq
  cases e<;>simp only[nz,Option.some.injEq,reduceCtorEq]at he<;>subst he
  rotate_left
  ·exact hq.elim
  ·exact hq.elim
  simp only[de]at hq
  obtain⟨Jao,hq⟩:=hq
  have UU:w1.heap[l]?=some (.loop rec):=(mj.reach.cz.I l hI).2.trans hl
  have c6:∀r x,(c.kill (bO k (rows.length-k))).R r=some x->¬c.V r->c.ρ r≠l:=λr x hr hV=>by
   obtain⟨_,x0,q1,_⟩:=nK (c:=c) hr
   exact(hm.fk l hI).2 r x0 q1 hV
  exact⟨_,run_beginRound UU kj,Zir hD hT hG (λro code st Q hl=>hL ro (.inr rfl) code st Q trivial hl) DY hm hI hl kj EC (mj.edit hI hl c6 Jao) hq⟩
def D.IF:D->Bool|.int _ _=>true|.bool _=>true|.str _=>true|.sl _ _ _=>true|.iQ=>true|.j4=>true|_=>false
theorem ag.AB(E:ag):ag.Eq E E:=by
 cases E with
 |gen es=>cases es<;>simp[ag.Eq]
 |ao k l=>simp[ag.Eq,Yr]
 |_=>simp[ag.Eq]
theorem yx{d:D}(h:d.IF=true):iZ ex m R d d:=by
 cases d<;>first|(cases h;done)|simp[iZ,de,ag.AB]
def D.nd(n:Nat):D->Bool|.all i=>Nat.blt i n|.c8=>true|.emp=>true|d=>d.IF
def Row.nd(n:Nat):Row->Bool|⟨false,_,_,_⟩=>true|⟨true,_,_,.gen [e]⟩=>e.all (D.nd n)|_=>false
theorem Ziw(h:i<n):kD (cW n) i i=true:=by
 simp[kD,List.getElem?_range h]
theorem Zxn{d:D}(h:d.nd n=true):iZ (cW n) m R d d:=by
 cases d with
 |all i=>
  simp only[D.nd,Nat.blt_eq]at h
  simp[iZ,de,Ziw h]
 |c8=>simp[iZ]
 |emp=>simp[iZ]
 |_=>exact yx h
theorem Zdq{n m:Nat}{R:Rows}:∀{e:List D},e.all (D.nd n)=true->EE (cW n) m R e e
 |[],_=>trivial
 |d::e,h=>by
  simp only[hJ,aE]at h
  exact⟨Zxn h.1,Zdq h.2⟩
theorem Z12{m n:Nat}:∀{post pre:List Row},post.all (Row.nd n)=true->mr (cW n) m ((pre++post).map some) (bO pre.length post.length) post
 |[],_,_=>trivial
 |⟨box,ty,sz,es⟩::post,pre,h=>by
  simp only[hJ,aE]at h
  rw[List.length_cons,List.range'_succ]
  have hR:(((pre++⟨box,ty,sz,es⟩::post).map some:Rows)).getD pre.length none=some ⟨box,ty,sz,es⟩:=by
   simp[aV]
  simp only[mr,hR,de]
  refine⟨⟨by cases box<;>simp,?_⟩,?_⟩
  ·cases box with
   |false=>exact ag.AB es
   |true=>
    obtain⟨h,_⟩:=h
    cases es with
    |gen l=>
     match l,h with
     |[e],h=>exact Zdq h
    |_=>cases h
  ·have:=Z12 (m:=m) (n:=n) (post:=post) (pre:=pre++[⟨box,ty,sz,es⟩]) h.2
   simpa using this
theorem Zzl{rows:List Row}(h:rows.all (Row.nd rows.length)=true):mr (cW rows.length) m (rows.map some) (cW rows.length) rows:=by
 have:=Z12 (m:=m) (n:=rows.length) (post:=rows) (pre:=[]) h
 rwa [List.nil_append,List.length_nil,<-gU]at this
theorem Zil:∀l:List Nat,NP l l=true
 |[]=>rfl
 |x::l=>by simp[NP,Zil l]
theorem Zyd(M:Nat):th M (cW M)=true:=by
 have h1:(cW M).take M=cW M:=List.take_of_length_le (by simp)
 have h2:(cW M).drop M=[]:=List.drop_of_length_le (by simp)
 simp[th,h1,h2,Zil,DO]
theorem Zha(hD:rm P)(hT:jC P T)(hf:P.funcs[f]?=some fn){args:List D}{rows:List Row}{off:Nat}(h:rows.all (Row.nd rows.length)=true)(h0:0<rows.length)
 (e1:∀Q0:D->GD.Rows->Prop,ky T [] (λ_ _ _=>False) fn args rows (λd R=>Q0 d R)=Q0 (.ptr 0 0 off) (rows.map some)):kM P f args rows (.ptr 0 0 off) rows:=by
 have hG:jU P []:=λx hx=>by cases hx
 have h2:ky T [] (λ_ _ _=>False) fn args rows (λd R=>d=.ptr 0 0 off/\R=rows.map some):=(e1 (λd R=>d=.ptr 0 0 off/\R=rows.map some)).symm▸⟨rfl,rfl⟩
 refine xx hD hT hG hf (rf:=none) (L:=λ_ _ _=>False) (λ_ _=>trivial) (λ_ _ _ _ h=>h.elim) (Q0:=λd R=>d=.ptr 0 0 off/\R=rows.map some) (λd R h=>?_) h2
 obtain⟨rfl,rfl⟩:=h
 refine⟨cW rows.length,Zyd _,?_,Zzl ‹_›⟩
 simp[te,pO,iZ,de,Ziw h0]

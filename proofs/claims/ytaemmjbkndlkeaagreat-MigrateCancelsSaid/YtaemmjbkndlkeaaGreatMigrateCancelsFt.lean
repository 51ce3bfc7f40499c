import Derived.Test.YtaemmjbkndlkeaaGreatMigrateCancelsFb
open List renaming range_eq_range'->gC,getD->aV,getElem?_eq_none->aJ,getElem?_append_left->bI,getElem?_eq_getElem->aI,mem_of_getElem?->fL,range->cW,mem_append->cB,mapM_cons->gG,mem_append_right->eX,mem_append_left->eS,getElem?_map->gH,range'->bO,all_eq_true->gI,all_cons->gJ
open Nat renaming le_refl->aX,beq->bX,ble->gD,lt_of_lt_of_le->bM
open Bool renaming not_eq_true'->bB,false_eq_true->aA
open Array renaming replicate->gE,toArray_toList->bW,getD_eq_getD_getElem?->aQ,getElem?_setIfInBounds_ne->aZ
set_option linter.all false
namespace Go.GD
open Go
variable {G:List bc}{K:St->Prop}{M N d i k l m n r:Nat}{P:Program}{R:Rows}{T:iG}{a:Act}{b:Bool}{code:Code}{ex:List Nat}{f:FuncId}{fn:Func}{o':Obj}{ro:Option Nat}{st:St}{tm:Array Value}{v:Value}{vs:List Value}{w w0:World}{x:Operand}
theorem fu.j0{c0:Ctx}{c:Ctx}(h:fu N M c0 w0 c w st a)(hb:cq st.env x=.bool b):fu N M c0 w0 c w (st.j0 x b) a:=by
 cases x with
 |tmp t=>exact⟨h.mem,h.rows,λs=>by rw[SN hb];exact h.env s,h.size,h.defers,h.gk,h.ib,h.reach⟩
 |_=>exact h
theorem fu.Hr{c0:Ctx}{c:Ctx}(h:fu N M c0 w0 c w st a)(hb:a.eval x=.bool b):fu N M c0 w0 c w (st.j0 x b) a:=by
 cases x with
 |tmp t=>
  refine⟨h.mem,h.rows,λs=>?_,h.size,h.defers,h.gk,h.ib,h.reach⟩
  simp only[St.j0,AV]
  split
  ·rename_i e;subst e;exact hb
  ·exact h.env s
 |_=>exact h
theorem zv(hT:jm P T)(hG:jF P G){id:Nat}{ops:Array Oper}{Q:Ex->St->Prop}(h:mb T G N M ops ops.toList st λst=>Q .normal st):tZ ro P N M (.region id ops false) st Q:=by
 intro c0 w0 c w a hs
 refine Zkk ?_
 have:=qY (P:=P) (ops:=ops) hT hG (Q:=λe a' w'=>∃ex jx c',mX e=some ex/\Q ex jx/\fu N M c0 w0 c' w' jx a') (λst c w a hK hs=>⟨_,st,c,rfl,hK,hs⟩) ops.toList 0 st c w a (by simp) h hs
 rwa [<-gC,Array.length_toList]at this
theorem Z1g{c:Ctx}{w:World}{i n:Nat}{row:Row}(hn:c.R n=some row)(hb:row.box=false)(hV:c.V n):∀{e e':List D},Hs i n e=some e'->e'.length=e.length/\∀arr off,kN c w e arr off->kN c w e' arr off
 |[],e',h=>by simp[Hs]at h
 |d ::l,e',h=>by
  unfold Hs at h
  split at h
  ·cases h
   refine⟨rfl,λarr off hc=>?_⟩
   obtain⟨⟨v,hv,h1⟩,⟨u,hu,h2⟩,h3⟩:=hc
   exact⟨⟨v,hv,.inl h1⟩,⟨u,hu,row,hn,hb,.inl ⟨hV,none,h2,Nr⟩⟩,h3⟩
  ·split at h
   ·rename_i l' pR
    cases h
    obtain⟨g1,g2⟩:=Z1g hn hb hV pR
    exact⟨by simp[g1],λarr off hc=>⟨hc.1,g2 arr _ hc.2⟩⟩
   ·cases h
theorem Z2g{n:Nat}:∀{R:Rows} {k i:Nat} {ty:TypeId} {sz:Nat} {e':List D},JE n R k=some (i,ty,sz,e')->∃e j,i=k+j/\R[j]?=some (some ⟨true,ty,sz,.gen [e]⟩)/\Hs i n e=some e'
 |[],k,i,ty,sz,e',h=>by simp[JE]at h
 |x ::l,k,i,ty,sz,e',h=>by
  have next:JE n l (k+1)=some (i,ty,sz,e')->∃e j,i=k+j/\(x::l)[j]?=some (some ⟨true,ty,sz,.gen [e]⟩)/\Hs i n e=some e':=λh=>by
   obtain⟨e,j,h1,h2,h3⟩:=Z2g h
   exact⟨e,j+1,by omega,by simpa using h2,h3⟩
  unfold JE at h
  split at h
  ·split at h
   ·rename_i e1 he
    cases h
    exact⟨_,0,rfl,rfl,he⟩
   ·exact next h
  ·exact next h
theorem xas{c0:Ctx}{c:Ctx}(h:JF T code st K)(hs:fu N M c0 w0 c w st a): ∃jx c',K jx/\fu N M c0 w0 c' w jx a:=by
  unfold JF at h
  split at h
  . exact⟨st,c,h,hs⟩
  . rename_i u hu
    split at h
    . exact⟨st,c,h,hs⟩
    . rename_i i ty sz e' hf
      simp only[D.fk,nA]at h
      obtain⟨e,j,h1,h2,h3⟩:=Z2g hf
      rw[Nat.zero_add]at h1
      subst h1
      have bg:=(List.getElem?_eq_some_iff.1 h2).1
      have hi:c.R i=some ⟨true,ty,sz, .gen [e]⟩:=by rw[hs.rows,aV,h2];rfl
      have hn:c.R st.rows.length=none:=by rw[hs.rows,aV,aJ (aX _)];rfl
      have ia:i≠st.rows.length:=by omega
      have Ia:=WC hs.mem hn (row:=⟨false,u,1, .ints .u8 []⟩) rfl rfl Nat.one_pos
      have WD:=SU (w:=w) hn ⟨false,u,1, .ints .u8 []⟩
      have WE:(c.jA st.rows.length ⟨false,u,1, .ints .u8 []⟩).R i=some ⟨true,ty,sz, .gen [e]⟩:=by simp [Ctx.jA,ia,hi]
      obtain⟨q1,q2⟩:=Z1g (c:=c.jA st.rows.length ⟨false,u,1, .ints .u8 []⟩) (w:=w) (row:=⟨false,u,1, .ints .u8 []⟩) (by simp [Ctx.jA]) rfl (.inl rfl) h3
      obtain⟨WG,BU⟩:=vb Ia WE q1 (λarr=>q2 arr 0)
      have hg:=WD.trans WG
      have nN:lO c w ((c.jA st.rows.length ⟨false,u,1, .ints .u8 []⟩).jV i ⟨true,ty,sz, .gen [e']⟩) w:=by
        refine⟨BU,hg,Fr.refl _ w,λb hb=> .inl hb,λr ao hr hv=> .inl ?_⟩
        have WH:r≠st.rows.length:=λe=>hv (.inl e)
        by_cases er:r=i
        . subst er;exact⟨⟨_,hi⟩,λe=>hv (.inr e),rfl⟩
        . exact⟨⟨ao,by simpa [Ctx.jV,Ctx.jA,er,WH] using hr⟩,λe=>hv (.inr e),rfl⟩
      refine⟨_,_,h,BU,λr=> ?_,λt=>Ad hg (hs.env t),hs.size,hs.defers,hs.gk,hs.ib,hs.reach.step (ks:=[]) (λk hk=>by simp [cw]at hk) hs.ib nN.toK⟩
      simp only[Ctx.jV,Ctx.jA]
      by_cases er:r=i
      . subst er
        simp [aV,bI (show r<(st.rows.set r _).length by simpa using bg),bg]
      . rw [if_neg er]
        by_cases en:r=st.rows.length
        . subst en
          simp [aV]
        . rw[if_neg en,hs.rows]
          by_cases hl:r<st.rows.length
          . simp [aV,bI (show r<(st.rows.set i _).length by simpa using hl),List.getElem?_set_ne (Ne.symm er)]
          . have h1:st.rows.getD r none=none:=by rw[aV,aJ (by omega)];rfl
            rw[h1,aV,aJ (by simp;omega)];rfl
def pP(P:Program):Prop:=∀(ro:Option Nat) (T:iG) (G:List bc) (N M id:Nat) (ops:Array Oper) (st:St) (Q:Ex->St->Prop),jm P T->jF P G->uV T G N M ops st Q->tZ ro P N M (.region id ops true) st Q
def wW(y:Array Tmp×Code×Code):Code->Prop
 |.seq a b=>wW y a/\wW y b
 |.cond _ a b=>wW y a/\wW y b
 |.block _ a=>wW y a
 |.loop a=>wW y a
 |.scope a=>wW y a
 |.rangeFunc _ ps x b=>(ps,x,b)=y
 |_=>True
def RF(o:Option Nat)(n:Nat)(c:Code):Prop:=match o with|none=>True|some f=>∃y,(AL f=some y/\y.n<=n/\y.ts=WJ f/\YB<=f/\y.ps.size=1)/\wW (y.ps,y.assign,y.body) c
theorem vT{c:Code}{Q:Exit->Act->World->Prop}(h:c.wpIn (AY ro) 0 P (Exit.noGoto Q) a w):(Code.scope c).wpIn (AY ro) 0 P Q a w:=by
 intro b k cs DK hb hr
 have s1:step P (lone (b.atR a (.code (.scope c)::k)) cs w)=.next (lone (b.atR a (.code c:: .inScope c::k)) cs w):=step_lone_go (by simp[stepG,stepG.exec,Frame.atR])
 have h0:(lone (b.atR a (.code (.scope c)::k)) cs w).fenced P (AY ro):=fenced_calm hb hr rfl
 obtain⟨e,CZ,Da,hq,pK⟩:=h b (.inScope c::k) cs DK hb hr
 cases e with
 |normal=>exact⟨.normal,CZ,Da,hq,.head h0 s1 (StepsIn.trans pK (.one (fenced_calm hb hr rfl) (step_lone_go (by simp[stepG,stepG.exec,Frame.atR]))))⟩
 |exit id=>
  have hx:exitTo id (.inScope c::k)=exitTo id k:=by simp[exitTo]
  exact⟨.exit id,CZ,Da,hq,λk' hk=>.head h0 s1 (pK.1 k' (by rw[hx];exact hk)),λpT hk=>let⟨k₁,h1,h2⟩:=pK.2 pT (by rw[hx];exact hk);⟨k₁,h1,.head h0 s1 h2⟩⟩
 |goto l=>exact hq.elim
 |ret=>exact⟨_,CZ,Da,hq,.of_steps (.one h0 s1) pK⟩
 |panic ch=>exact⟨_,CZ,Da,hq,.of_steps (.one h0 s1) pK⟩
 |outgrown=>exact⟨_,CZ,Da,hq,.of_steps (.one h0 s1) pK⟩
theorem yv{c0:Ctx}{c:Ctx}{ops:List Oper}(h:uW ops st K)(hs:fu N M c0 w0 c w st a):∃jx,K jx/\fu N M c0 w0 c w jx a:=by
 unfold uW at h
 split at h
 ·exact⟨st,h,hs⟩
 ·rename_i x _
  split at h
  ·rename_i b hb
   cases b with
   |true=>exact⟨_,h,hs.j0 hb⟩
   |false=>exact⟨_,h,hs.j0 hb⟩
  ·exact⟨st,h,hs⟩
theorem Nv(hD:pP P)(hT:jm P T)(hG:jF P G){L:Code->St->(Ex->St->Prop)->Prop}{S:Code->Prop}(hS:(∀a b,S (.seq a b)->S a/\S b)/\(∀c a b,S (.cond c a b)->S a/\S b)/\(∀i a,S (.block i a)->S a)/\(∀a,S (.scope a)->S a))(hL:∀code st Q,S code->L code st Q->tZ ro P N M code st Q):∀(code:Code) (st:St) (Q:Ex->St->Prop),S code->px T G N M L code st Q->tZ ro P N M code st Q:=by
 intro code
 induction code with
 |skip=>exactλst Q _ h c0 w0 c w a hs=>wpIn_skip ⟨_,st,c,rfl,h,hs⟩
 |label l=>exactλst Q _ h c0 w0 c w a hs=>wpIn_label ⟨_,st,c,rfl,h,hs⟩
 |region id ops draw=>
  intro st Q hc h c0 w0 c w a hs
  simp only[px]at h
  obtain⟨st0,h,BK⟩:=yv h hs
  obtain⟨R1,c1,h,lN⟩:=Gn h BK
  obtain⟨jx,c',h,jb⟩:=zac h lN
  cases draw with
  |false=>exact zv hT hG h c0 w0 c' w a jb
  |true=>exact hD ro T G N M id ops jx Q hT hG h c0 w0 c' w a jb
 |seq x y ihx Vb=>
  intro st Q hc h c0 w0 c w a hs
  simp only[px]at h
  refine wpIn_seq (wpIn_mono (ihx st _ (hS.1 _ _ hc).1 h c0 w0 c w a hs) λe a' w' hq=>?_)
  obtain⟨ex,jx,c',he,hq,jb⟩:=hq
  cases e<;>simp only[mX,Option.some.injEq,reduceCtorEq]at he
  ·subst he
   obtain⟨st2,c2,hq,M8⟩:=xas hq jb
   exact Vb st2 Q (hS.1 _ _ hc).2 hq c0 w0 c2 w' a' M8
  ·subst he;exact⟨_,jx,c',rfl,hq,jb⟩
  ·subst he;exact⟨_,jx,c',rfl,hq,jb⟩
 |cond x y z Vb ihz=>
  intro st Q hc h c0 w0 c w a hs
  simp only[px]at h
  split at h
  ·rename_i b hb
   have hv:=Nl hs.env x
   rw[hb]at hv
   have hv:=Rep.bool.1 hv
   cases b with
   |true=>exact wpIn_cond_true hv (Vb _ Q (hS.2.1 _ _ _ hc).1 h c0 w0 c w a (hs.j0 hb))
   |false=>exact wpIn_cond_false hv (ihz _ Q (hS.2.1 _ _ _ hc).2 h c0 w0 c w a (hs.j0 hb))
  ·rename_i es hb
   have hv:=Nl hs.env x
   rw[hb]at hv
   obtain⟨b,hv,il⟩:=hv
   cases b with
   |true=>exact wpIn_cond_true hv (Vb _ Q (hS.2.1 _ _ _ hc).1 (h.1 (ai.oz.2 (il rfl))) c0 w0 c w a (hs.Hr hv))
   |false=>exact wpIn_cond_false hv (ihz _ Q (hS.2.1 _ _ _ hc).2 h.2 c0 w0 c w a (hs.Hr hv))
  ·exact h.elim
 |block id x ih=>
  intro st Q hc h c0 w0 c w a hs
  simp only[px]at h
  refine wpIn_block (wpIn_mono (ih st _ (hS.2.2.1 _ _ hc) h c0 w0 c w a hs) λe a' w' hq=>?_)
  obtain⟨ex,jx,c',he,hq,jb⟩:=hq
  cases e<;>simp only[mX,Option.some.injEq,reduceCtorEq]at he
  ·subst he;exact⟨_,jx,c',rfl,hq,jb⟩
  ·rename_i i
   subst he
   simp only[Exit.inBlock]
   simp only at hq
   cases hb:bX i id with
   |true=>
    simp only[hb]at hq
    rw[if_pos (bE hb)]
    exact⟨_,jx,c',rfl,hq,jb⟩
   |false=>
    simp only[hb]at hq
    rw[if_neg (λe=>by rw[e]at hb;simp at hb)]
    exact⟨_,jx,c',rfl,hq,jb⟩
  ·subst he;exact⟨_,jx,c',rfl,hq,jb⟩
 |exit id=>exactλst Q _ h c0 w0 c w a hs=>wpIn_exit ⟨_,st,c,rfl,h,hs⟩
 |ret=>exactλst Q _ h c0 w0 c w a hs=>wpIn_ret ⟨_,st,c,rfl,h,hs⟩
 |loop x ih=>exactλst Q hc h=>hL _ _ _ hc h
 |rangeFunc g ps x y _ _=>exactλst Q hc h=>hL _ _ _ hc h
 |scope x ih=>
  intro st Q hc h c0 w0 c w a hs
  simp only[px]at h
  refine vT (wpIn_mono (ih st _ (hS.2.2.2 _ hc) h c0 w0 c w a hs) λe a' w' hq=>?_)
  obtain⟨ex,jx,c',he,hq,jb⟩:=hq
  cases e<;>simp only[mX,Option.some.injEq,reduceCtorEq]at he
  all_goals(subst he;exact⟨_,jx,c',rfl,hq,jb⟩)
 |goto l=>exactλst Q hc h=>hL _ _ _ hc h
 |refuse y=>exactλst Q hc h=>hL _ _ _ hc h
theorem Nw(o:Option Nat)(n:Nat):(∀a b,RF o n (.seq a b)->RF o n a/\RF o n b)/\(∀c a b,RF o n (.cond c a b)->RF o n a/\RF o n b)/\(∀i a,RF o n (.block i a)->RF o n a)/\(∀a,RF o n (.scope a)->RF o n a):=by
 cases o with
 |none=>exact⟨λ_ _ _=>⟨trivial,trivial⟩,λ_ _ _ _=>⟨trivial,trivial⟩,λ_ _ _=>trivial,λ_ _=>trivial⟩
 |some f=>exact⟨λ_ _ ⟨y,h,h1,h2⟩=>⟨⟨y,h,h1⟩,⟨y,h,h2⟩⟩,λ_ _ _ ⟨y,h,h1,h2⟩=>⟨⟨y,h,h1⟩,⟨y,h,h2⟩⟩,λ_ _ ⟨y,h,h1⟩=>⟨y,h,h1⟩,λ_ ⟨y,h,h1⟩=>⟨y,h,h1⟩⟩
def pd:Code->Nat
 |.seq a b=>pd a+pd b
 |.cond _ a b=>pd a+pd b
 |.block _ a=>pd a
 |.loop a=>pd a
 |.scope a=>pd a
 |.rangeFunc _ _ _ _=>1
 |_=>0
theorem Zir:∀{c:Code} (y:Array Tmp×Code×Code),pd c=0->wW y c:=by
 intro c
 induction c with
 |seq a b FC FD=>intro y h;simp only[pd]at h;exact⟨FC y (by omega),FD y (by omega)⟩
 |cond x a b FC FD=>intro y h;simp only[pd]at h;exact⟨FC y (by omega),FD y (by omega)⟩
 |block i a ih=>intro y h;exact ih y h
 |loop a ih=>intro y h;exact ih y h
 |scope a ih=>intro y h;exact ih y h
 |rangeFunc g ps x b _ _=>intro y h;simp[pd]at h
 |_=>intro y h;trivial
theorem qU:∀{c:Code} {y:Array Tmp×Code×Code},pd c<=1->th c=some y->wW y c/\1<=pd c:=by
 intro c
 have two:∀{a b:Code} {y:Array Tmp×Code×Code},(∀{y},pd a<=1->th a=some y->wW y a/\1<=pd a)->(∀{y},pd b<=1->th b=some y->wW y b/\1<=pd b)->pd a+pd b<=1->(match th a with|some x=>some x|none=>th b)=some y->(wW y a/\wW y b)/\1<=pd a+pd b:=by
  intro a b y FC FD h hy
  cases ha:th a with
  |some x=>
   rw[ha]at hy
   cases hy
   obtain⟨h1,h2⟩:=FC (by omega) ha
   exact⟨⟨h1,Zir _ (by omega)⟩,by omega⟩
  |none=>
   rw[ha]at hy
   obtain⟨h1,h2⟩:=FD (by omega) hy
   exact⟨⟨Zir _ (by omega),h1⟩,by omega⟩
 induction c with
 |seq a b FC FD=>intro y h hy;exact two FC FD h hy
 |cond x a b FC FD=>intro y h hy;exact two FC FD h hy
 |block i a ih=>intro y h hy;exact ih h hy
 |loop a ih=>intro y h hy;exact ih h hy
 |scope a ih=>intro y h hy;exact ih h hy
 |rangeFunc g ps x b _ _=>intro y h hy;simp only[th,Option.some.injEq]at hy;exact⟨hy,aX _⟩
 |_=>intro y h hy;simp[th]at hy
def rfB(f:Nat)(fn:Func):Bool:=match fn.body with
 |some c=>gD (pd c) 1&&(gD YB f&&(match th c with|some y=>bX y.1.size 1|none=>false))
 |none=>false
theorem Ht{f:Nat}(h:rfB f fn=true)(hy:AL f=FE (WJ f) fn):∀code,fn.body=some code->RF (some f) fn.ntmps code:=by
 intro code hb
 unfold rfB at h
 unfold FE at hy
 simp only[hb,aE]at h hy
 obtain⟨h1,h2,h3⟩:=h
 split at h3
 ·rename_i y hf
  rw[hf]at hy
  exact⟨_,⟨hy,aX _,rfl,lE h2,bE h3⟩,(qU (lE h1) hf).1⟩
 ·cases h3
def Ctx.out(c:Ctx)(ex:List Nat)(rows:List Row):Ctx:=
 { ρ:=λi=>match ex[i]? with|some r=>c.ρ r|none=>c.ρ i,R:=λi=>rows[i]?,V:=λi=>match ex[i]? with|some r=>c.R r=none\/c.V r|none=>True,
   I:=λb=>c.I b\/ ∃r row,c.R r=some row/\ ¬c.V r/\row.box=false/\KE ex r=true/\c.ρ r=b,base:=c.base,top:=c.top,X:=c.X}
theorem Vc(h:kb ex i r=true):ex[i]?=some r:=by
 unfold kb at h
 split at h
 ·rename_i x hx;rw[hx,bE h]
 ·cases h
theorem Zrg(h:Is ex R i=true):∃r,ex[i]?=some r/\R.getD r none=none:=by
 unfold Is at h
 split at h
 ·rename_i r hr
  refine⟨r,hr,?_⟩
  split at h
  ·assumption
  ·cases h
 ·cases h
theorem Zbn(h:KE ex r=true):r∉ex:=by
 intro hm
 have:=List.all_eq_true.1 h r hm
 simp at this
theorem QO{ex:List Nat}{m:Nat}{R:Rows}:∀{rs:List Nat} {ps:List Row},lT ex m R rs ps->rs.length=ps.length/\∀(i r:Nat) (p:Row),rs[i]?=some r->ps[i]?=some p->
 (∃row,R.getD r none=some row/\row.box=p.box/\row.ty=p.ty/\row.sz=p.sz/\(if p.box then∃e e',row.es=.gen [e]/\p.es=.gen [e']/\DL ex m R e e' else row.es.l=p.es.l))\/(R.getD r none=none/\p.box=false/\p.es.l=[]/\0<p.sz)
 |[],[],_=>⟨rfl,λi r p h=>by simp at h⟩
 |[],_::_,h=>h.elim
 |_::_,[],h=>h.elim
 |r ::rs,⟨box,ty,sz,es⟩::ps,h=>by
  simp only[lT]at h
  obtain⟨h1,h2⟩:=h
  obtain⟨g1,g2⟩:=QO h2
  refine⟨by simp[g1],λi q p hq hp=>?_⟩
  cases i with
  |succ i=>exact g2 i q p (by simpa using hq) (by simpa using hp)
  |zero=>
   simp at hq hp
   subst hq;subst hp
   split at h1
   ·rename_i An jZ ka jc hR
    simp only[dm,aE]at h1
    obtain⟨⟨⟨e1,e2⟩,e3⟩,h1⟩:=h1
    refine .inl ⟨_,hR,by cases box<;>cases An<;>simp_all,(bE e2).symm,(bE e3).symm,?_⟩
    cases box with
    |false=>simpa using ai.Ak h1
    |true=>
     simp only[if_true]
     simp only at h1
     split at h1
     ·exact⟨_,_,rfl,rfl,h1⟩
     ·exact h1.elim
   ·rename_i hR
    simp only[dm,aE,bB]at h1
    exact .inr ⟨hR,h1.1.1,ai.oz.1 h1.2,lE h1.1.2⟩
theorem SV{c:Ctx}{rows:List Row}(hR:∀r,c.R r=R.getD r none)(dj:lT ex m R ex rows){i r o f:Nat}(hx:kb ex i r=true)(hr:dk c w (.ptr r o f) v):dk (c.out ex rows) w (.ptr i o f) v:=by
 obtain⟨row,g1,gV,g2,hv⟩:=hr
 have hi:=Vc hx
 obtain⟨hl,iF⟩:=QO dj
 have bg:=(List.getElem?_eq_some_iff.1 hi).1
 have hp:rows[i]?=some rows[i]:=aI (by omega)
 rcases iF i r _ hi hp with⟨ao,k1,k2,k3,k4,k5⟩|⟨k1,_⟩
 ·have:ao=row:=by rw[hR,k1]at g1;exact Option.some.inj g1
  subst this
  refine⟨_,hp,by simp[Ctx.out,hi,g1,gV],?_,by simp only[Ctx.out,hi];rw[hv,k4]⟩
  split at k5
  ·obtain⟨e,e',q1,q2,_⟩:=k5
   rw[q1]at g2;rw[q2];exact g2
  ·rw[<-k5];exact g2
 ·rw[hR,k1]at g1;cases g1
theorem Zpe{c:Ctx}{w:World}{ex:List Nat}{m:Nat}{R:Rows}{rows:List Row}(hR:∀r,c.R r=R.getD r none)(dj:lT ex m R ex rows):∀{ps qs:List (Nat×Nat×Nat)} {us:List Value},sG ex ps qs=true->MB c qs us->MB (c.out ex rows) ps us
 |[],[],_,_,h=>by rename_i us _;cases us<;>exact h
 |(i,b,d)::l,(r,y,z)::q,u::us,h,hr=>by
  simp only[sG,aE]at h
  obtain⟨h1,h2,h3,h4⟩:=h
  have e2:=bE h2;have e3:=bE h3
  subst e2;subst e3
  exact⟨SV (w:=w) hR dj h1 hr.1,Zpe (w:=w) hR dj h4 hr.2⟩
 |(_,_,_)::_,(_,_,_)::_,[],_,h=>h.elim
 |[],_::_,_,h,_=>by simp[sG]at h
 |_::_,[],_,h,_=>by simp[sG]at h
theorem xU{c:Ctx}{rows:List Row}(hR:∀r,c.R r=R.getD r none)(dj:lT ex m R ex rows):∀{cs ds:List iJ} {us:List Value},py ex cs ds=true->oR c w ds us->oR (c.out ex rows) w cs us:=by
 intro cs
 induction cs with
 |nil=>intro ds us h hr;cases ds<;>cases us<;>first|exact hr|(simp[py]at h;done)
 |cons x cs ih=>
  intro ds us h hr
  cases ds with
  |nil=>cases x<;>simp[py]at h
  |cons y ds=>
   cases us with
   |nil=>exact hr.elim
   |cons u us=>
    cases x<;>cases y<;>simp only[py,aE,aA]at h
    ·obtain⟨h1,h2,h3,h4⟩:=h
     have e2:=bE h2;have e3:=bE h3
     subst e2;subst e3
     exact⟨SV (w:=w) hR dj h1 hr.1,ih h4 hr.2⟩
    ·obtain⟨h1,h2,h3⟩:=h
     have e1:=bE h1
     subst e1
     obtain⟨⟨ws,hv,hw⟩,UG⟩:=hr
     exact⟨⟨ws,Mr (c:=c) (c':=c.out ex rows) (w':=w) (λb hb=>⟨Or.inl hb,rfl⟩) hv,Zpe (w:=w) hR dj h2 hw⟩,ih h3 UG⟩
section
variable {c:Ctx} {w:World} {ex:List Nat} {m:Nat} {R:Rows} {rows:List Row}
theorem Zen(hm:Mem c w)(hR:∀r,c.R r=R.getD r none)(dj:lT ex m R ex rows)(fj:∀r row,c.R r=some row->¬c.V r->m<=r->c.base<=c.ρ r){d p:D}(h:iT ex m R d p)(hr:dk c w d v):dk (c.out ex rows) w p v:=by
 have nO:∀b,c.I b->(c.out ex rows).I b/\w.heap[b]?=w.heap[b]? :=λb hb=>⟨.inl hb,rfl⟩
 obtain⟨hl,iF⟩:=QO dj
 have rowOf:∀i r row,ex[i]?=some r->c.R r=some row->∃p,rows[i]?=some p/\row.box=p.box/\row.ty=p.ty/\row.sz=p.sz/\row.es.l.length=p.es.l.length/\(c.out ex rows).ρ i=c.ρ r/\((c.out ex rows).V i↔c.V r):=by
  intro i r row hi dc
  have bg:=(List.getElem?_eq_some_iff.1 hi).1
  have hp:rows[i]?=some rows[i]:=aI (by omega)
  rcases iF i r _ hi hp with⟨ao,g1,g2,g3,g4,g5⟩|⟨g1,_⟩
  ·have:ao=row:=by rw[hR,g1]at dc;exact Option.some.inj dc
   subst this
   refine⟨_,hp,g2,g3,g4,?_,by simp[Ctx.out,hi],by simp[Ctx.out,hi,dc]⟩
   split at g5
   ·obtain⟨e,e',k1,k2,_⟩:=g5
    rw[k1,k2];rfl
   ·rw[g5]
  ·rw[hR,g1]at dc;cases dc
 have Ny:∀i a,Is ex R i=true->v=.slice a 0 0->CH c.top a->dk (c.out ex rows) w (.all i) v:=by
  intro i a hv DX eh
  obtain⟨r,hi,hrn⟩:=Zrg hv
  have bg:=(List.getElem?_eq_some_iff.1 hi).1
  have hp:rows[i]?=some rows[i]:=aI (by omega)
  rcases iF i r _ hi hp with⟨ao,g1,_⟩|⟨g1,g2,g3,g4⟩
  ·rw[hrn]at g1;cases g1
  ·exact⟨_,hp,g2,.inl ⟨by simp only[Ctx.out,hi];exact .inl (by rw[hR];exact g1),a,DX,eh⟩⟩
 cases p<;>simp only[iT]at h
 case int k n=>
  split at h
  ·simp only[dm,decide_eq_true_eq]at h;obtain⟨rfl,rfl⟩:=h;exact hr
  ·exact h.elim
 case bool b=>
  split at h
  ·subst h;exact hr
  ·exact h.elim
 case str s=>
  split at h
  ·subst h;exact hr
  ·exact h.elim
 case iO=>
  split at h
  ·exact hr
  ·exact h.elim
 case de=>
  split at h
  ·exact hr
  ·exact h.elim
 case emp=>
  split at h
  ·exact⟨none,hr,Nr⟩
  ·exact hr
  ·exact h.elim
 case jN=>
  split at h
  ·exact hr
  ·exact h.elim
 case gx f cs=>
  split at h
  ·simp only[dm,aE]at h
   obtain⟨⟨h1,h2⟩,_⟩:=h
   have e1:=bE h1
   subst e1
   obtain⟨us,hv,hu⟩:=hr
   exact⟨us,Mr (c:=c) (c':=c.out ex rows) (w':=w) (λb hb=>⟨Or.inl hb,rfl⟩) hv,xU hR dj h2 hu⟩
  ·exact h.elim
 case ptr i o f=>
  split at h
  ·simp only[dm,aE]at h
   obtain⟨⟨h1,h2,h3⟩,_⟩:=h
   have e2:=bE h2;have e3:=bE h3
   subst e2;subst e3
   exact SV (w:=w) hR dj h1 hr
  ·exact h.elim
 case gr i=>
  have go:∀r,kb ex i r=true->dk c w (.gr r) v->dk (c.out ex rows) w (.gr i) v:=by
   intro r hx hr
   rcases hr with hr|⟨row,g1,gV,g2,hv⟩
   ·exact .inl hr
   ·have hi:=Vc hx
    obtain⟨p,hp,q1,q2,q3,q4,q5,q6⟩:=rowOf i r row hi g1
    exact .inr ⟨p,hp,λe=>gV (q6.1 e),by rw[<-q4];exact g2,by rw[hv,q5,q3]⟩
  split at h
  ·exact .inl hr
  ·simp only[dm]at h;exact go _ h.1 hr
  ·simp only[dm,aE]at h
   obtain⟨⟨h1,h2,h3⟩,_⟩:=h
   have e2:=bE h2;have e3:=bE h3
   subst e2;subst e3
   exact go _ h1 (.inr hr)
  ·exact h.elim
 case dead=>exact dk.one hr
 case sl sz es fr=>
  split at h
  ·have h:=ai.oz.1 h;exact⟨none,0,by rw[h];exact hr,by rw[h];exact aX _,.inl h⟩
  ·have h:=ai.oz.1 h;obtain⟨a,hr,_⟩:=hr;exact⟨a,0,by rw[h];exact hr,by rw[h];exact aX _,.inl h⟩
  ·rename_i ka jc fr'
   simp only[dm,Bool.or_eq_true,bB]at h
   obtain⟨hf,hs,he⟩:=h
   have he:=ai.Ak he
   obtain⟨a,cap,hv,hc,il⟩:=hr
   rw[he]at hv hc il
   refine⟨a,cap,hv,hc,?_⟩
   rcases il with il|⟨b,off,arr,ty,fz,ha,hI,Ul,hh,hE⟩
   ·exact .inl il
   ·rcases hs with hs|rfl
    ·exact .inl (by rw[<-he];exact ai.oz.1 hs)
    ·exact .inr ⟨b,off,arr,ty,fz,ha,.inl hI,λe=>Ul (by rcases hf with hf|hf<;>simp_all),hh,nJ nO _ _ _ _ hE⟩
  ·rename_i r
   split at h
   ·rename_i box ty ka jc hRr
    simp only[dm,aE,bB]at h
    obtain⟨⟨⟨⟨hb,hs⟩,ho⟩,JG⟩,AM⟩:=h
    have AM:=ai.Ak AM
    have hs:=bE hs
    have JG:=lE JG
    obtain⟨row,g1,g2,hv⟩:=hr
    have:row=⟨box,ty,ka,jc⟩:=by rw[hR,hRr]at g1;exact(Option.some.inj g1).symm
    subst this
    subst hs
    rcases hv with⟨hV,a,hv,_⟩|⟨hV,cap,arr,hv,g3,g4,g5,g6⟩
    ·have he:=(hm.nH g1 hV).2.1
     simp only at he
     rw[he]at AM
     exact⟨a,0,by rw[<-AM];exact hv,by rw[<-AM];exact aX _,.inl AM.symm⟩
    obtain⟨iR,jH,jb,hx⟩:=hm.real g1 hV
    rw[g5]at jH;cases jH
    simp only[hb,aA,if_false]at hx
    simp only at hv g3 hx
    rw[AM]at hv g3 hx
    exact⟨_,cap,hv,g3,.inr ⟨_,0,arr,_,_,rfl,.inr ⟨r,_,g1,hV,hb,ho,rfl⟩,λ_=>fj r _ g1 hV JG,g5,nJ nO _ _ _ _ hx⟩⟩
   ·exact h.elim
  ·rename_i r o n
   split at h
   ·rename_i box ty ka jc hRr
    simp only[dm,aE,bB]at h
    obtain⟨⟨⟨⟨hb,hs⟩,ho⟩,JG⟩,AM⟩:=h
    have AM:=ai.Ak AM
    rw[ai.je,ai.kz]at AM
    have hs:=bE hs
    have JG:=lE JG
    obtain⟨row,g1,g2,g5,hv⟩:=hr
    have:row=⟨box,ty,ka,jc⟩:=by rw[hR,hRr]at g1;exact(Option.some.inj g1).symm
    subst this
    subst hs
    simp only at g5
    have pR:((jc.l.drop o).take n).length=n:=by simp only[List.length_take,List.length_drop];omega
    rw[AM]at pR
    rcases hv with⟨h0,a,hv,_⟩|⟨hV,cap,arr,g3,g4,g6,hv,g7⟩
    ·subst h0
     have h0:=List.eq_nil_of_length_eq_zero pR
     exact⟨a,0,by rw[pR];exact hv,by omega,.inl h0⟩
    obtain⟨iR,jH,jb,hx⟩:=hm.real g1 hV
    rw[g6]at jH;cases jH
    simp only[hb,aA,if_false]at hx
    have hE:=Mi (n:=n) (Kq (l:=o) hx)
    rw[AM]at hE
    exact⟨_,cap,by rw[pR];exact hv,by omega,.inr ⟨_,o*ka,arr,_,_,rfl,.inr ⟨r,_,g1,hV,hb,ho,rfl⟩,λ_=>fj r _ g1 hV JG,g6,nJ nO _ _ _ _ (by simpa using hE)⟩⟩
   ·exact h.elim
  ·exact h.elim
 case all i=>
  split at h
  ·rename_i r
   simp only[dm]at h
   obtain⟨row,g1,g2,hv⟩:=hr
   obtain⟨p,k1,k2,k3,k4,k5,k6,k7⟩:=rowOf i r row (Vc h.1) g1
   refine⟨p,k1,by rw[<-k2];exact g2,?_⟩
   rcases hv with⟨hV,hv⟩|⟨hV,cap,arr,hv,g3,g4,g5,g6⟩
   ·exact .inl ⟨k7.2 hV,hv⟩
   ·exact .inr ⟨λe=>hV (k7.1 e),cap,arr,by rw[hv,k5,k6],by rw[<-k5];exact g3,g4,by rw[k6,<-k3];exact g5,by rw[<-k4];exact g6⟩
  ·simp only[dm]at h
   exact Ny i none h.1 hr Nr
  ·simp only[dm]at h
   obtain⟨a,hr,ho⟩:=hr
   exact Ny i a h.1 hr ho
  ·exact h.elim
 case own i o n=>
  split at h
  ·rename_i r o' n'
   simp only[dm]at h
   obtain⟨hx,rfl,rfl⟩:=h
   obtain⟨row,g1,g2,g5,hv⟩:=hr
   obtain⟨p,k1,k2,k3,k4,k5,k6,k7⟩:=rowOf i r row (Vc hx) g1
   refine⟨p,k1,by rw[<-k2];exact g2,by rw[<-k5];exact g5,?_⟩
   rcases hv with⟨h0,a,hv,jv⟩|⟨hV,cap,arr,g3,g4,g6,hv,g7⟩
   ·exact .inl ⟨h0,a,hv,jv.mono (aX _) k7 k6⟩
   ·exact .inr ⟨λe=>hV (k7.1 e),cap,arr,g3,g4,by rw[k6,<-k3];exact g6,by rw[k6,<-k4];exact hv,by rw[<-k4];exact g7⟩
  ·exact h.elim
theorem Ziq(hm:Mem c w)(hR:∀r,c.R r=R.getD r none)(dj:lT ex m R ex rows)(fj:∀r row,c.R r=some row->¬c.V r->m<=r->c.base<=c.ρ r):∀{ds ps:List D} {vs:List Value},DL ex m R ds ps->jr c w ds vs->jr (c.out ex rows) w ps vs
 |[],[],[],_,_=>trivial
 |[],[],_::_,_,h=>h.elim
 |[],_::_,_,h,_=>h.elim
 |_::_,[],_,h,_=>h.elim
 |_::_,_::_,[],_,h=>h.elim
 |d::ds,p::ps,v::vs,h,hr=>⟨Zen hm hR dj fj h.1 hr.1,Ziq hm hR dj fj h.2 hr.2⟩
theorem Zox(hm:Mem c w)(hR:∀r,c.R r=R.getD r none)(dj:lT ex m R ex rows)(fj:∀r row,c.R r=some row->¬c.V r->m<=r->c.base<=c.ρ r){d p:D}(h:pz ex m R d p)(hr:VRep c w d v):VRep (c.out ex rows) w p v:=by
 cases p with
 |agg ps=>
  simp only[pz]at h
  cases d<;>simp only at h
  obtain⟨vs,hv,hx⟩:=hr
  exact⟨vs,hv,Ziq hm hR dj fj h hx⟩
 |_=>
  simp only[pz]at h
  refine VRep.Eu (Zen hm hR dj fj h (VRep.toC ?_ hr))
  intro cs e
  subst e
  simp[iT,cv,D.Hu]at h
theorem Zkf(hm:Mem c w)(hR:∀r,c.R r=R.getD r none)(dj:lT ex m R ex rows)(fj:∀r row,c.R r=some row->¬c.V r->m<=r->c.base<=c.ρ r):∀{ds ps:List D} {vs:List Value},wy ex m R ds ps->ki c w ds vs->ki (c.out ex rows) w ps vs
 |[],[],[],_,_=>trivial
 |[],[],_::_,_,h=>h.elim
 |[],_::_,_,h,_=>h.elim
 |_::_,[],_,h,_=>h.elim
 |_::_,_::_,[],_,h=>h.elim
 |d::ds,p::ps,v::vs,h,hr=>⟨Zox hm hR dj fj h.1 hr.1,Zkf hm hR dj fj h.2 hr.2⟩
theorem SW(hm:Mem c w)(hR:∀r,c.R r=R.getD r none)(dj:lT ex m R ex rows)(fj:∀r row,c.R r=some row->¬c.V r->m<=r->c.base<=c.ρ r){d p:D}(h:sE ex m R d p)(hr:Rep c w d v):Rep (c.out ex rows) w p v:=by
 cases p with
 |ee ps=>
  simp only[sE]at h
  cases d<;>simp only at h
  obtain⟨vs,hv,hx⟩:=hr
  exact⟨vs,hv,Zkf hm hR dj fj h hx⟩
 |dead=>trivial
 |_=>
  simp only[sE]at h
  refine Rep.Kv (Zox hm hR dj fj h (Rep.toV ?_ ?_ hr))
  ·intro ds e;subst e;simp[pz,iT]at h
  ·intro e;subst e;simp[pz,iT]at h
theorem Z7c(hm:Mem c w)(hR:∀r,c.R r=R.getD r none)(dj:lT ex m R ex rows)(fj:∀r row,c.R r=some row->¬c.V r->m<=r->c.base<=c.ρ r):∀{ds ps:List D} {arr:Array Value} {off:Nat},DL ex m R ds ps->kN c w ds arr off->kN (c.out ex rows) w ps arr off
 |[],[],_,_,_,_=>trivial
 |[],_::_,_,_,h,_=>h.elim
 |_::_,[],_,_,h,_=>h.elim
 |d::ds,p::ps,arr,off,h,hr=>⟨by obtain⟨⟨v,hv,hx⟩,_⟩:=hr;exact⟨v,hv,Zen hm hR dj fj h.1 hx⟩,Z7c hm hR dj fj h.2 hr.2⟩
theorem Z1r:∀{ds ps:List D},DL ex m R ds ps->ds.length=ps.length
 |[],[],_=>rfl
 |[],_::_,h=>h.elim
 |_::_,[],h=>h.elim
 |_::_,_::_,h=>by simp[Z1r h.2]
theorem qat(hm:Mem c w)(hR:∀r,c.R r=R.getD r none)(dj:lT ex m R ex rows)(fj:∀r row,c.R r=some row->¬c.V r->m<=r->c.base<=c.ρ r)(kU:ex.Nodup):Mem (c.out ex rows) w:=by
 have nO:∀b,c.I b->(c.out ex rows).I b/\w.heap[b]?=w.heap[b]? :=λb hb=>⟨.inl hb,rfl⟩
 obtain⟨hl,iF⟩:=QO dj
 have inv:∀i p,(c.out ex rows).R i=some p->∃r,ex[i]?=some r/\(c.out ex rows).ρ i=c.ρ r/\((∃row,c.R r=some row/\row.box=p.box/\row.ty=p.ty/\row.sz=p.sz/\((c.out ex rows).V i↔c.V r)/\(if p.box then∃e e',row.es=.gen [e]/\p.es=.gen [e']/\DL ex m R e e' else row.es.l=p.es.l))\/((c.out ex rows).V i/\p.box=false/\p.es.l=[]/\0<p.sz)):=by
  intro i p hp
  have QP:rows[i]?=some p:=hp
  have bg:=(List.getElem?_eq_some_iff.1 QP).1
  have hi:ex[i]?=some ex[i]:=aI (by omega)
  refine⟨_,hi,by simp[Ctx.out,hi],?_⟩
  rcases iF i _ p hi QP with⟨row,g1,g2,g3,g4,g5⟩|⟨g1,g2⟩
  ·have dc:c.R ex[i]=some row:=by rw[hR];exact g1
   exact .inl ⟨row,dc,g2,g3,g4,by simp[Ctx.out,hi,dc],g5⟩
  ·exact .inr ⟨by simp only[Ctx.out,hi];exact .inl (by rw[hR];exact g1),g2⟩
 refine⟨λi p hp=>?_,λi j p q hp hq v1 v2 he=>?_,λb hb=>?_,hm.top,hm.j4.mono nO⟩
 ·obtain⟨r,g1,g6,⟨row,g2,g3,g4,g5,gV,g7⟩|⟨gV,g2⟩⟩:=inv i p hp
  ·rcases hm.row r row g2 with⟨h0,h1,h2,h3⟩|⟨h0,arr,ha,hs,hx⟩
   ·refine .inl ⟨gV.2 h0,by rw[<-g3];exact h1,?_,by rw[<-g5];exact h3⟩
    rw[if_neg (by rw[<-g3,h1];simp)]at g7
    rw[<-g7];exact h2
   refine .inr ⟨λe=>h0 (gV.1 e),arr,by rw[g6,<-g4];exact ha,by rw[<-g5];exact hs,?_⟩
   split
   ·rename_i hb
    rw[if_pos hb]at g7
    rw[if_pos (g3.trans hb)]at hx
    obtain⟨e,e',k1,k2,k3⟩:=g7
    obtain⟨e0,q1,q2,q3,q4⟩:=hx
    rw[k1]at q1;cases q1
    exact⟨e',k2,by rw[<-Z1r k3,<-g5];exact q2,by rw[<-g5];exact q3,Z7c hm hR dj fj k3 q4⟩
   ·rename_i hb
    rw[if_neg hb]at g7
    rw[if_neg (by rw[g3];exact hb)]at hx
    rw[<-g7,<-g5]
    exact nJ nO _ _ _ _ hx
  ·exact .inl ⟨gV,g2⟩
 ·obtain⟨r,g1,g6,⟨row,g2,_,_,_,gV,_⟩|⟨gV,_⟩⟩:=inv i p hp
  ·obtain⟨s,k1,k6,⟨ao,k2,_,_,_,kV,_⟩|⟨kV,_⟩⟩:=inv j q hq
   ·rw[g6,k6]at he
    have:r=s:=hm.inj r s _ _ g2 k2 (λe=>v1 (gV.2 e)) (λe=>v2 (kV.2 e)) he
    subst this
    exact(List.getElem?_inj (List.getElem?_eq_some_iff.1 g1).1 kU).1 (g1.trans k1.symm)
   ·exact(v2 kV).elim
  ·exact(v1 gV).elim
 ·rcases hb with hb|⟨r,row,hr,hV,wN,ho,rfl⟩
  ·refine⟨(hm.fq b hb).1,λi p hp v=>?_⟩
   obtain⟨r,g1,g6,⟨row,g2,_,_,_,gV,_⟩|⟨gV,_⟩⟩:=inv i p hp
   ·rw[g6]
    exact(hm.fq b hb).2 r row g2 (λe=>v (gV.2 e))
   ·exact(v gV).elim
  ·refine⟨hm.lt hr hV,λi p hp v=>?_⟩
   obtain⟨s,g1,g6,⟨ao,g2,_,_,_,gV,_⟩|⟨gV,_⟩⟩:=inv i p hp
   ·rw[g6]
    intro e
    have:=hm.inj s r _ _ g2 hr (λe=>v (gV.2 e)) hV e
    subst this
    exact Zbn ho (fL g1)
   ·exact(v gV).elim
end
theorem Zq3:∀{l m:List Nat},MC l m=true->l=m
 |[],[],_=>rfl
 |x::l,y::m,h=>by
  simp only[MC,aE]at h
  rw[bE h.1,Zq3 h.2]
 |[],_::_,h=>by cases h
 |_::_,[],h=>by cases h
theorem zat(h:sF M ex=true):ex.Nodup/\(∀i,i<M->ex[i]?=some i)/\∀i r,ex[i]?=some r->(i=r/\i<M)\/M<=r:=by
 unfold sF at h
 simp only[aE]at h
 obtain⟨⟨h1,h2⟩,h3⟩:=h
 replace h1:=Zq3 h1
 replace h2:∀r∈ex.drop M,M<=r:=λr hr=>lE (List.all_eq_true.1 h2 r hr)
 replace h3:=Mn.1 h3
 have he:ex=cW M++ex.drop M:=by rw[<-h1,List.take_append_drop]
 generalize hq:ex.drop M=q at he h2 h3
 subst he
 refine⟨?_,λi hi=>by rw[bI (by simpa using hi)];simp[hi],λi r hr=>?_⟩
 ·rw[List.nodup_append]
  exact⟨List.nodup_range,h3,λx hx y hy=>by simp at hx;have:=h2 y hy;omega⟩
 ·by_cases bg:i<M
  ·rw[bI (by simpa using bg)]at hr
   simp[bg]at hr
   exact .inl ⟨hr,bg⟩
  ·rw[List.getElem?_append_right (by simpa using bg)]at hr
   exact .inr (h2 r (fL hr))
theorem Zr{c0:Ctx}{c:Ctx}(hs:fu N M c0 w0 c w st a){aj:List Row}(hex:sF M ex=true)(dj:lT ex M st.rows ex aj):
 (∀r row,c.R r=some row->¬c.V r->M<=r->c.base<=c.ρ r)/\Mem (c.out ex aj) w/\Ac c0 w0 (c.out ex aj) w:=by
 obtain⟨kU,hid,hinv⟩:=zat hex
 obtain⟨hl,iF⟩:=QO dj
 have Bk:c.base=c0.base:=hs.reach.db.base
 have Db:∀r row,c.R r=some row->¬c.V r->M<=r->c0.X (c.ρ r)\/w0.heap.size<=c.ρ r:=λr row h1 v h2=>by
  rcases hs.reach.ov r row h1 v with⟨⟨x,hx⟩,_⟩|h3
  ·have:=hs.ib r x hx;omega
  ·exact h3
 have fj:∀r row,c.R r=some row->¬c.V r->M<=r->c.base<=c.ρ r:=λr row h1 v h2=>by
  have:=hs.gk
  rcases Db r row h1 v h2 with h|h
  ·have:=hs.reach.xb _ h;omega
  ·omega
 refine⟨fj,qat hs.mem hs.rows dj fj kU,⟨hs.reach.db.base,hs.reach.db.top,λb iu=>?_,λr row hr=>?_⟩,hs.reach.fr,λb iu=>?_,λi p hp v=>?_,hs.reach.xb⟩
 ·obtain⟨h1,h2⟩:=hs.reach.db.I b iu
  exact⟨.inl h1,h2⟩
 ·have bg:r<M:=hs.ib r row hr
  obtain⟨QQ,g1,g2,g3,g4,g5,g6,gV,g7⟩:=hs.reach.db.R r row hr
  have hi:=hid r bg
  have mV:=(List.getElem?_eq_some_iff.1 hi).1
  have hp:aj[r]?=some aj[r]:=aI (by omega)
  rcases iF r r _ hi hp with⟨jE,k1,k2,k3,k4,k5⟩|⟨k1,_⟩
  ·have:jE=QQ:=by rw[hs.rows,k1]at g1;exact Option.some.inj g1
   subst this
   refine⟨_,hp,k2.symm.trans g2,k3.symm.trans g3,k4.symm.trans g4,?_,by simp[Ctx.out,hi,g6],by simp[Ctx.out,hi,g1,gV],g7⟩
   rw[<-g5]
   split at k5
   ·obtain⟨e,e',q1,q2,_⟩:=k5
    rw[q1,q2];rfl
   ·rw[k5]
  ·rw[hs.rows,k1]at g1;cases g1
 ·rcases iu with h1|⟨r,row,hr,hV,wN,ho,rfl⟩
  ·exact hs.reach.fq b h1
  ·refine .inr ?_
   have:M<=r:=by
    by_cases bg:r<M
    ·exact(Zbn ho (fL (hid r bg))).elim
    ·omega
   exact Db r row hr hV this
 ·have QP:aj[i]?=some p:=hp
  have bg:=(List.getElem?_eq_some_iff.1 QP).1
  have hi:ex[i]?=some ex[i]:=aI (by omega)
  simp only[Ctx.out,hi,not_or]at v⊢
  obtain⟨v1,v2⟩:=v
  rcases iF i _ _ hi QP with⟨jE,k1,k2,k3,k4,k5⟩|⟨k1,_⟩
  ·have Hv:c.R ex[i]=some jE:=by rw[hs.rows];exact k1
   rcases hinv i _ hi with⟨h1,h2⟩|h1
   ·rcases hs.reach.ov _ _ Hv v2 with⟨h3,h4,h5⟩|h3
    ·left
     rw[<-h1]at h3 h4
     refine⟨h3,h4,h5.trans ?_⟩
     rw[<-h1]
    ·exact .inr h3
   ·exact .inr (Db _ _ Hv v2 h1)
  ·exact(v1 (by rw[hs.rows];exact k1)).elim
theorem WO:∀{env:List (Nat×D)} {t k:Nat},k∈CO (look env t)->k∈Al env
 |[],t,k,h=>by simp[look,CO,Fs,AF]at h
 |(u,d)::l,t,k,h=>by
  rw[AV]at h
  simp only[Al,cB]
  split at h
  ·exact .inl h
  ·exact .inr (WO h)
theorem WQ:∀{R:Rows} {r:Nat} {x:Row} {k:Nat},R.getD r none=some x->k∈kL [x]->k∈Gr R
 |some y::l,0,x,k,h,hk=>by
  simp at h;subst h
  simp only[Gr,cB];exact .inl hk
 |none::l,0,x,k,h,hk=>by simp at h
 |y::l,r+1,x,k,h,hk=>by
  have:=WQ (R:=l) (r:=r) (by simpa[aV]using h) hk
  cases y<;>simp[Gr,this]
 |[],r,x,k,h,_=>by simp[aV]at h
theorem VRep.toRep{c:Ctx}{d:D}(h:VRep c w d v):Rep c w d v:=by
 cases d<;>first|exact h|trivial|exact h.elim
theorem Rep.toVRep{c:Ctx}{d:D}(hv:d.isVal=true)(h:Rep c w d v):VRep c w d v:=by
 cases d<;>first|exact h|(simp[D.isVal]at hv)
theorem ki.length{c:Ctx}{w:World}:∀{ds:List D} {vs:List Value},ki c w ds vs->ds.length=vs.length
 |[],[],_=>rfl
 |_::_,_::_,h=>by simp[ki.length h.2]
 |[],_::_,h=>h.elim
 |_::_,[],h=>h.elim
theorem Z8m:∀{ds:List D} {i t:Nat},(∃j,t=i+j/\j<ds.length/\look (FG ds i) t=ds.getD j .dead)\/look (FG ds i) t=.dead
 |[],i,t=>.inr rfl
 |d ::ds,i,t=>by
  simp only[FG,AV]
  by_cases e:i=t
  ·left;exact⟨0,by omega,by simp,by rw[if_pos e];rfl⟩
  ·rw[if_neg e]
   rcases Z8m (ds:=ds) (i:=i+1) (t:=t)with⟨j,h1,h2,h3⟩|h
   ·left;exact⟨j+1,by omega,by simpa using h2,by simpa using h3⟩
   ·right;exact h
theorem Zqm{c:Ctx}{ds:List D}(h:ki c w ds vs)(n t:Nat):Rep c w (look (FG ds 0) t) ((vs.toArray++gE n undef).getD t undef):=by
 rcases Z8m (ds:=ds) (i:=0) (t:=t)with⟨j,h1,h2,h3⟩|h1
 ·obtain⟨v,hv,hr⟩:=ZG h j h2
  rw[h3]
  have:t=j:=by omega
  subst this
  have hx:(vs.toArray++gE n undef).getD t undef=v:=by
   have bg:=(List.getElem?_eq_some_iff.1 hv).1
   have hvv:=(List.getElem?_eq_some_iff.1 hv).2
   simp[Array.getElem?_append,bg,hvv]
  rw[hx]
  exact hr.toRep
 ·rw[h1];trivial
theorem Zsi{t:TypeId}{x:D}{K:D->Rows->Prop}(h:wS T t x R K){c:Ctx}(hr:Rep c w x v):∃a,v=.pointer (some a):=by
 unfold wS at h
 split at h
 ·exact h.elim
 ·cases x<;>simp only at h
  case ptr r i off=>obtain⟨_,_,_,_,hv⟩:=hr;exact⟨_,hv⟩
  case pa r i off len k n=>obtain⟨_,_,_,_,_,hv⟩:=hr;exact⟨_,hv⟩
  case iC sz es i off=>obtain⟨_,_,_,_,_,hv,_⟩:=hr;exact⟨_,hv⟩
def MD(tmps:Array Value):ResultVar->Sem Value
 |.tmp t=>pure (tmps.getD t undef)
 |.cell a t=>do loadVar t (<-asAddr (tmps.getD a undef))
theorem Vd{P:Program}{T:iG}(hT:jm P T){R:Rows}{env:List (Nat×D)}:∀{l:List ResultVar} {K:List D->Prop},FH T R env l K->
 ∃ds,K ds/\∀c w (tmps:Array Value),Mem c w->mn c R->(∀t,Rep c w (look env t) (tmps.getD t undef))->∃vs,(l.mapM (MD tmps)).run P w=.ok vs w/\ki c w ds vs
 |[],K,h=>⟨[],h,λc w tmps _ _ _=>⟨[],rfl,trivial⟩⟩
 |.tmp t::l,K,h=>by
  simp only[FH,D.dd,dm]at h
  obtain⟨hv,h⟩:=h
  obtain⟨ds,hK,hr⟩:=Vd hT h
  refine⟨_,hK,λc w tmps hm hA he=>?_⟩
  obtain⟨vs,h1,h2⟩:=hr c w tmps hm hA he
  refine⟨tmps.getD t undef::vs,?_,(he t).toVRep hv,h2⟩
  simp only[gG,Sem.run_bind,MD,Sem.run_pure,Result.andThen_ok,h1]
 |.cell a t::l,K,h=>by
  simp only[FH]at h
  obtain⟨val,Ve,DE⟩:=Zhd hT h
  simp only[dm]at Ve
  obtain⟨hv,Ve⟩:=Ve
  obtain⟨ds,hK,hr⟩:=Vd hT Ve
  refine⟨_,hK,λc w tmps hm hA he=>?_⟩
  obtain⟨vs,h1,h2⟩:=hr c w tmps hm hA he
  obtain⟨u,hu,hx⟩:=DE c w _ hm hA (he a)
  obtain⟨ad,had⟩:=Zsi h (he a)
  rw[had,UX]at hu
  refine⟨u::vs,?_,hx.toVRep hv,h2⟩
  simp only[gG,Sem.run_bind,MD,had,asAddr,Sem.run_pure,Result.andThen_ok,hu,h1]
def Dc:List Value->Value
 |[v]=>v
 |vs=>.tuple vs.toArray
theorem Z7s{tmps:Array Value}(h:(fn.results.toList.mapM (MD tmps)).run P w=.ok vs w):(results fn tmps).run P w=.ok (Dc vs) w:=by
 have h2:(fn.results.mapM (MD tmps)).run P w=.ok vs.toArray w:=by
  rw[<-bW (xs:=fn.results),List.mapM_toArray]
  simp only[Sem.run_map,h,Result.andThen_ok]
 have h3:(results fn tmps)=(fn.results.mapM (MD tmps))>>=λvs=>pure (if h:vs.size=1 then vs[0]else .tuple vs):=by
  unfold results
  congr 1
 rw[h3,Sem.run_bind,h2]
 simp only[Result.andThen_ok,Sem.run_pure]
 congr 1
 match vs with
 |[]=>rfl
 |[v]=>rfl
 |_::_::_=>rfl
theorem fu.Nt{c0:Ctx}{c:Ctx}(hs:fu N M c0 w0 c w st a){b:Nat}(hb:w0.heap.size<=b){o o':Obj}(ho:w.heap[b]?=some o)(hc:∀arr ty fz,o≠.cells arr ty fz)
 {Fk:Nat->Prop} (gF:∀k ws v,Fk k->r7 c w k ws v->r7 {c with I:=λx=>c.I x/\x≠b} (w.putObj b o') k ws v) (hE:∀t,∀k∈CO (look st.env t),Fk k) (hR:∀r x,c.R r=some x->∀k∈kL [x],Fk k) {ds:List Deferred} (hd:mf w0.heap.size (w.putObj b o') ds):
 fu N M c0 w0 {c with I:=λx=>c.I x/\x≠b} (w.putObj b o') st {a with defers:=ds}:=by
 have dc:∀r x,c.R r=some x->¬c.V r->c.ρ r≠b:=λr x hr hV e=>by
  rcases hs.mem.row r x hr with h|⟨_,arr,h,_⟩
  ·exact hV h.1
  ·rw[e,ho]at h;exact hc _ _ _ (Option.some.inj h)
 have hh:∀r x,c.R r=some x->¬c.V r->(w.putObj b o').heap[c.ρ r]?=w.heap[c.ρ r]? :=λr x hr hV=>World.putObj_heap_other (dc r x hr hV)
 have hg:Jx c w {c with I:=λx=>c.I x/\x≠b} (w.putObj b o'):=by
  refine⟨rfl,aX _,λx arr ty fz hI hx=>?_,λr x hr=>⟨x,hr,rfl,rfl,rfl,rfl,rfl,Iff.rfl,λhV arr ha=>⟨arr,(hh r x hr hV).trans ha,rfl⟩⟩⟩
  have ia:x≠b:=λe=>by subst e;rw[ho]at hx;exact hc _ _ _ (Option.some.inj hx)
  exact⟨⟨hI,ia⟩,(World.putObj_heap_other ia).trans hx⟩
 have jI:∀x,c0.I x->x≠b:=λx hx e=>by
  obtain⟨h1,h2⟩:=hs.reach.db.I x hx
  have h3:=(hs.mem.fq x h1).1
  rw[e,ho]at h2
  have:=(Array.getElem?_eq_some_iff.1 h2.symm).1
  omega
 refine⟨ZD hs.mem hg hh gF hR (λx hx=>⟨by simpa using(hs.mem.fq x hx.1).1,(hs.mem.fq x hx.1).2⟩) (by simp),hs.rows,λt=>Zqk hg gF (hE t) (hs.env t),hs.size,hd,hs.gk,hs.ib,?_⟩
 refine⟨⟨hs.reach.db.base,hs.reach.db.top,λx hx=>?_,λr row hr=>?_⟩,⟨hs.reach.fr.os,hs.reach.fr.tape,hs.reach.fr.output,by simpa using hs.reach.fr.size,λx hx hn=>?_⟩,λx hx=>hs.reach.fq x hx.1,hs.reach.ov,hs.reach.xb⟩
 ·obtain⟨h1,h2⟩:=hs.reach.db.I x hx
  exact⟨⟨h1,jI x hx⟩,(World.putObj_heap_other (jI x hx)).trans h2⟩
 ·obtain⟨ao,h1,h2,h3,h4,h5,h6,hV,h7⟩:=hs.reach.db.R r row hr
  refine⟨ao,h1,h2,h3,h4,h5,h6,hV,λnv arr ha=>?_⟩
  obtain⟨iR,g1,g2⟩:=h7 nv arr ha
  refine⟨iR,?_,g2⟩
  rw[World.putObj_heap_other]
  ·exact g1
  ·intro e;rw[e,ho]at g1;exact hc _ _ _ (Option.some.inj g1)
 ·rw[World.putObj_heap_other (by omega)];exact hs.reach.fr.heap x hx hn
theorem fu.edit{c0:Ctx}{c:Ctx}(hs:fu N M c0 w0 c w st a)(hI:c0.I l){rec:Loop}(ho:w0.heap[l]?=some (.loop rec))(Dd:∀r x,c0.R r=some x->¬c0.V r->c0.ρ r≠l)
 (nm:rA (Al st.env++Gr st.rows)=true):fu N M {c0 with I:=λx=>c0.I x/\x≠l} (w0.putObj l o') {c with I:=λx=>c.I x/\x≠l} (w.putObj l o') st a:=by
 have hl:w.heap[l]?=some (.loop rec):=(hs.reach.db.I l hI).2.trans ho
 have Jab:=(Array.getElem?_eq_some_iff.1 ho).1
 have bg:=(Array.getElem?_eq_some_iff.1 hl).1
 have dc:∀r x,c.R r=some x->¬c.V r->c.ρ r≠l:=λr x hr hV=>(hs.mem.fq l (hs.reach.db.I l hI).1).2 r x hr hV
 have hh:∀r x,c.R r=some x->¬c.V r->(w.putObj l o').heap[c.ρ r]?=w.heap[c.ρ r]? :=λr x hr hV=>World.putObj_heap_other (dc r x hr hV)
 have gF:∀k ws v,k<YB->r7 c w k ws v->r7 {c with I:=λx=>c.I x/\x≠l} (w.putObj l o') k ws v:=λk ws v hk hv=>by
  rcases hv with hv|⟨hv,_⟩
  ·exact .inl hv
  ·omega
 have hg:Jx c w {c with I:=λx=>c.I x/\x≠l} (w.putObj l o'):=by
  refine⟨rfl,aX _,λx arr ty fz hI hx=>?_,λr x hr=>⟨x,hr,rfl,rfl,rfl,rfl,rfl,Iff.rfl,λhV arr ha=>⟨arr,(hh r x hr hV).trans ha,rfl⟩⟩⟩
  have ia:x≠l:=λe=>by subst e;rw[hl]at hx;cases hx
  exact⟨⟨hI,ia⟩,(World.putObj_heap_other ia).trans hx⟩
 refine⟨ZD hs.mem hg hh gF (λr x hr k hk=>Nu nm (eX _ (WQ (by rw[<-hs.rows];exact hr) hk))) (λx hx=>⟨by simpa using(hs.mem.fq x hx.1).1,(hs.mem.fq x hx.1).2⟩) (by simp),hs.rows,λt=>Zqk hg gF (λk hk=>Nu nm (eS _ (WO hk))) (hs.env t),hs.size,?_,by simpa using hs.gk,hs.ib,?_⟩
 ·have:=hs.defers.to (w':=w.putObj l o') λb hb=>(World.putObj_heap_other λe=>by rw[e,hl]at hb;cases hb).trans hb
  simpa using this
 refine⟨⟨hs.reach.db.base,hs.reach.db.top,λx hx=>?_,λr row hr=>?_⟩,⟨hs.reach.fr.os,hs.reach.fr.tape,hs.reach.fr.output,by simpa using hs.reach.fr.size,λx hx hn=>?_⟩,λx hx=>?_,λr row hr hv=>?_,hs.reach.xb⟩
 ·obtain⟨h1,h2⟩:=hs.reach.db.I x hx.1
  exact⟨⟨h1,hx.2⟩,(World.putObj_heap_other hx.2).trans (h2.trans (World.putObj_heap_other hx.2).symm)⟩
 ·obtain⟨ao,h1,h2,h3,h4,h5,h6,hV,h7⟩:=hs.reach.db.R r row hr
  refine⟨ao,h1,h2,h3,h4,h5,h6,hV,λnv arr ha=>?_⟩
  rw[World.putObj_heap_other (Dd r row hr nv)]at ha
  obtain⟨iR,g1,g2⟩:=h7 nv arr ha
  refine⟨iR,?_,g2⟩
  rw[World.putObj_heap_other]
  ·exact g1
  ·intro e;rw[e,hl]at g1;cases g1
 ·by_cases e:x=l
  ·subst e;rw[World.putObj_heap_same bg,World.putObj_heap_same Jab]
  ·rw[World.putObj_heap_other e,World.putObj_heap_other e]
   exact hs.reach.fr.heap x (by simpa using hx) hn
 ·rcases hs.reach.fq x hx.1 with g|g|g
  ·exact .inl ⟨g,hx.2⟩
  ·exact .inr (.inl g)
  ·exact .inr (.inr (by simpa using g))
 ·rcases hs.reach.ov r row hr hv with g|g|g
  ·exact .inl g
  ·exact .inr (.inl g)
  ·exact .inr (.inr (by simpa using g))
theorem leaves{P:Program}{fn:Func}{R:Ending->World->Prop}{N M:Nat}{c0:Ctx}{w0:World}{c:Ctx}{w:World}{st:St}{a:Act}(hs:fu N M c0 w0 c w st a)
 (h:∀c' w' a',a'.tmps=a.tmps->fu N M c0 w0 c' w' st a'->∃v,(results fn a'.tmps).run P w'=.ok v w'/\R (.returned v) w'):LeavesInM Fence.wide 0 P fn a.tmps R a.defers .returning w:=by
 obtain⟨bs,kU,Eh,Vf⟩:=hs.defers
 revert c w a
 induction bs with
 |nil=>
  intro c w a hs h Eh Vf
  rw[Eh]
  obtain⟨v,h1,h2⟩:=h c w a rfl hs
  exact⟨v,h1,h2⟩
 |cons b bs ih=>
  intro c w a hs h Eh Vf
  obtain⟨h1,h2⟩:=Vf b (by simp)
  rw[List.nodup_cons]at kU
  rw[Eh]
  refine⟨by simp,.inl ⟨b,_,rfl,run_takeDeferred h2,?_⟩⟩
  have QR:∀x∈bs,w0.heap.size<=x/\(w.putObj b (.deferred none)).heap[x]?=some (.deferred (some [])):=λx hx=>by
   obtain⟨g1,g2⟩:=Vf x (by simp[hx])
   exact⟨g1,(World.putObj_heap_other (λe=>kU.1 (by rw[<-e];exact hx))).trans g2⟩
  refine ih kU.2 (a:={a with defers:=bs.map λb=>({target:=.collected b,args:= #[]}:Deferred)}) (hs.Nt h1 h2 (λ_ _ _ e=>by cases e) (Fk:=λ_=>True) (λk ws v _ hv=>?_) (λ_ _ _=>trivial) (λ_ _ _ _ _=>trivial) ⟨bs,kU.2,rfl,QR⟩) h rfl QR
  rcases hv with hv|⟨g1,l,rec,g2,g3,g4,g5⟩
  ·exact .inl hv
  ·have ia:l≠b:=λe=>by rw[e,h2]at g4;cases g4
   exact .inr ⟨g1,l,rec,g2,⟨g3,ia⟩,(World.putObj_heap_other ia).trans g4,g5⟩
theorem vv(hD:pP P)(hT:jm P T)(hG:jF P G)(hf:P.funcs[f]?=some fn){args:List D}{rows:List Row}{res:D}{aj:List Row}
 {rf:Option Nat} (mL:∀code,fn.body=some code->RF rf fn.ntmps code) {L:Code->St->(Ex->St->Prop)->Prop} (hL:∀code st Q,RF rf fn.ntmps code->L code st Q->Tr P fn.ntmps rows.length code st Q) {Q0:D->Rows->Prop} (De:∀d R,Q0 d R->Ap rows.length res aj d R) (h:ko T G L fn args rows Q0):kG P f args rows res aj:=by
 intro c w vs hm jn hR gh
 unfold ko at h
 split at h
 ·rename_i code hb
  have hs:fu fn.ntmps rows.length {c with X:=λ_=>False} w c w ⟨FG args 0,rows.map some⟩ {tmps:=vs.toArray++gE (fn.ntmps-vs.toArray.size) undef,defers:=[]}:=
   ⟨hm,λr=>by
    rw[hR]
    simp only[aV,gH]
    cases rows[r]? <;>rfl,λt=>Zqm gh _ t,by simp;omega,mf.nil,Nat.le_of_eq jn,λr row h=>by have h:c.R r=some row:=h;rw[hR]at h;exact(List.getElem?_eq_some_iff.1 h).1,Ac.refl c w⟩
  refine callsIn_wide.1 (callsIn_of_wp_marks (F:=Fence.wide) (n:=0) hf hb trivial (wpIn_mono (Nv (ro:=none) hD hT hG (Nw rf fn.ntmps) hL code _ _ (mL _ hb) h _ w c w _ hs) λe a' w' hq=>?_))
  obtain⟨ex,st,c1,he,hq,lN⟩:=hq
  have fin:(FH T st.rows st.env fn.results.toList λds=>match ds with|[d]=>Q0 d st.rows|ds=>Q0 (.ee ds) st.rows)->
   LeavesInM Fence.wide 0 P fn a'.tmps (λe w'=>∃v' c',e=.returned v'/\lO c w c' w'/\(∀r,c'.R r=aj[r]?)/\Rep c' w' res v') a'.defers .returning w':=by
   intro kP
   refine leaves lN λc1 w' a' jH lN=>?_
   obtain⟨ds,hK,hr⟩:=Vd hT kP
   have pq:mn c1 st.rows:=λr row ao h1 h2=>by rw[lN.rows,h2]at h1;exact(Option.some.inj h1).symm
   obtain⟨us,iy,Df⟩:=hr c1 w' a'.tmps lN.mem pq lN.env
   have tj:=Z7s iy
   obtain⟨d,v,JH,hv,oG⟩:∃d v,Ap rows.length res aj d st.rows/\Dc us=v/\Rep c1 w' d v:=by
    match ds,us,Df with
    |[d],[u],hx=>exact⟨d,u,De _ _ hK,rfl,hx.1.toRep⟩
    |[],[],hx=>exact⟨.ee [],_,De _ _ hK,rfl,[],rfl,trivial⟩
    |d::e::ds,u::v::us,hx=>exact⟨.ee (d::e::ds),_,De _ _ hK,rfl,_,rfl,hx⟩
    |[],_::_,hx=>exact hx.elim
    |[_],[],hx=>exact hx.elim
    |[_],_::_::_,hx=>exact hx.2.elim
    |_::_::_,[],hx=>exact hx.elim
    |_::_::_,[_],hx=>exact hx.2.elim
   rw[hv]at tj
   obtain⟨ex,hex,hd,dj⟩:=JH
   obtain⟨fj,jj,gj⟩:=Zr lN hex dj
   exact⟨v,tj,v,c1.out _ aj,rfl,⟨jj,⟨gj.db.base,gj.db.top,gj.db.I,gj.db.R⟩,gj.fr.mono (λb _ hb=>hb.elim id False.elim),λb hb=>(gj.fq b hb).imp id (λh=>h.elim False.elim id),λr ao h1 h2=>(gj.ov r ao h1 h2).imp id (λh=>h.elim False.elim id)⟩,λr=>rfl,SW lN.mem lN.rows dj fj hd oG⟩
  cases e<;>simp only[mX,Option.some.injEq,reduceCtorEq]at he
  ·subst he;exact fin hq
  ·subst he;exact hq.elim
  ·subst he;exact fin hq
 ·exact h.elim
theorem v8{rows:List Row}{c:Ctx}{c':Ctx}{w':World}(jj:Mem c' w')(gj:Ac {c.kill (bO k (rows.length-k))with X:=λb=>∃s row,cw s (bO k (rows.length-k))=true/\c.R s=some row/\¬c.V s/\c.ρ s=b} w c' w'):
 jP (bO k (rows.length-k)) c w c' w':=by
 refine⟨jj,⟨gj.db.base,gj.db.top,gj.db.I,gj.db.R⟩,gj.fr.mono (λb _ hb=>?_),λb hb=>gj.fq b hb,λr ao h1 h2=>?_⟩
 ·rcases hb with⟨r,x,h1,h2,h3⟩|⟨r,x,_,h1,h2,h3⟩
  ·obtain⟨_,row,g1,_⟩:=nn (c:=c) (ks:=bO k (rows.length-k)) h1
   exact⟨r,row,g1,h2,h3⟩
  ·exact⟨r,x,h1,h2,h3⟩
 ·rcases gj.ov r ao h1 h2 with⟨⟨x,g1⟩,g2,g3⟩|⟨s,x,q1,q2,q3,q4⟩|g
  ·obtain⟨_,row,p1,_⟩:=nn (c:=c) (ks:=bO k (rows.length-k)) g1
   exact .inl ⟨⟨row,p1⟩,g2,g3⟩
  ·exact .inr (.inl ⟨s,x,q1,q2,q3,q4.symm⟩)
  ·exact .inr (.inr g)
theorem Zqp:∀{rows:List Row} {r:Nat} {x:Row} {k:Nat},rows[r]?=some x->k∈kL [x]->k∈kL rows
 |y::l,0,x,k,h,hk=>by
  simp at h;subst h
  unfold kL at hk⊢
  split<;>simp_all [kL]
 |y::l,r+1,x,k,h,hk=>by
  have:=Zqp (rows:=l) (by simpa using h) hk
  unfold kL
  split<;>simp_all
 |[],r,x,k,h,_=>by simp at h
theorem Zqy{c:Ctx}{w:World}{tm pf:Array Value}:∀{ts:List Nat} {ds:List D},ki c w ds (ts.map λt=>tm.getD t undef)->(∀t∈ts,pf.getD t undef=tm.getD t undef)->∀t,Rep c w (look (oK ts ds) t) (pf.getD t undef)
 |[],ds,_,_,t=>by cases ds<;>trivial
 |u::ts,[],h,_,t=>h.elim
 |u::ts,d::ds,h,ht,t=>by
  simp only[oK,AV]
  split
  ·rename_i e;rw[<-e,ht u (by simp)];exact h.1.toRep
  ·exact Zqy h.2 (λt h=>ht t (by simp[h])) t
theorem qw{F:Fence}{y:YK}(hd:y.pos=some d){x:Value}(hn:y.n<=tm.size){K:Act->World->Prop}
 (hK:∀pf,pf.size=tm.size->pf.getD d undef=x->(∀t∈y.ts,pf.getD t undef=tm.getD t undef)->K {tmps:=pf,defers:=[]} w):
 y.assign.wpIn (AY (some l)) 0 P (Exit.then K λ_ _ _=>False) {tmps:=(y.ps.zip #[x]).foldl (λtmps (t,a)=>tmps.setIfInBounds t a) tm,defers:=[]} w:=by
 have ed:∀(p:Nat) (JI:Array Value) (t:Nat),t≠p->(JI.setIfInBounds p x).getD t undef=JI.getD t undef:=λp JI t h=>by
  simp[aQ,aZ (Ne.symm h)]
 have here:∀(p:Nat) (JI:Array Value),p<JI.size->(JI.setIfInBounds p x).getD p undef=x:=λp JI h=>by
  simp[aQ,h]
 unfold YK.pos at hd
 split at hd
 ·rename_i p kY has
  have kY:y.ps= #[p]:=by rw[<-bW (xs:=y.ps),kY]
  split at hd
  ·rename_i hc
   cases hd
   simp only[aE,gI,bB]at hc
   have hp:d<tm.size:=bM (lE hc.1) hn
   rw[has,kY]
   refine wpIn_skip (hK _ (by simp) ?_ λt ht=>?_)
   ·simpa using here d tm hp
   ·have:=ed d tm t (λe=>by have:=(hc.2 t ht).1;rw[e]at this;simp at this)
    simpa using this
  ·cases hd
 ·rename_i p id ops kY has
  have kY:y.ps= #[p]:=by rw[<-bW (xs:=y.ps),kY]
  split at hd
  ·rename_i e q ty po af Dg
   have Dg:ops= #[⟨some e,.assign (.tmp q),ty,po,af,none⟩]:=by rw[<-bW (xs:=ops),Dg]
   split at hd
   ·rename_i hc
    cases hd
    simp only[aE,gI,bB]at hc
    obtain⟨⟨hq,hp,hd⟩,EA⟩:=hc
    have hq:=bE hq
    subst hq
    have hp:q<tm.size:=bM (lE hp) hn
    have hd:d<tm.size:=bM (lE hd) hn
    rw[has,kY,Dg]
    refine Zkk ?_
    show wpOp P _ _ 0 _ _ _
    unfold wpOp
    simp only[List.getElem?_toArray,List.getElem?_cons_zero]
    rw[if_pos (by simp[Region.wanted])]
    refine Gm (u:=x) (w':=w) ?_ ?_
    ·have:(tm.setIfInBounds q x).getD q undef=x:=here q tm hp
     simp only[execOp,Act.eval]
     simp[aQ,hp]
    ·show K {tmps:=Array.setIfInBounds _ d x,defers:=[]} w
     refine hK _ (by simp) ?_ λt ht=>?_
     ·exact here d _ (by simpa using hd)
     ·have h1:=(EA t ht).1
      rw[ed d _ t (λh=>by rw[h]at h1;simp at h1)]
      have:=ed q tm t (λh=>by rw[h]at h1;simp at h1)
      simpa using this
   ·cases hd
  ·cases hd
 ·cases hd
inductive pn(P:Program)(f:FuncId)(fn:Func)(cl:Prop):Prop where
 |real (h:f<YB) (hf:P.funcs[f]?=some fn) (hb:gD YB fn.nfree=false)
 |yield (h:YB<=f) (y:YK) (d:Nat) (hy:AL f=some y) (hd:y.pos=some d) (hb:fn.body=some y.body) (hn:gD YB fn.nfree=true) (QS:bX fn.nfree YB=true) (hp:fn.params.toList=d::y.ts) (ht:fn.ntmps=y.n) (hc:cl)
 |uX (h:YB<=f) (y:YK) (q:Nat) (hy:AL f=some y) (kY:y.ps= #[q]) (hq:(Nat.blt q y.n&&y.ts.all λt=>!(bX t q))=true) (hb:fn.body=some (.seq y.assign y.body)) (hn:gD YB fn.nfree=true) (QS:bX fn.nfree YB=false) (hp:fn.params.toList=q::y.ts) (ht:fn.ntmps=y.n) (hc:cl)
theorem JJ{rows:List Row}{c:Ctx}{env:List (Nat×D)}(hm:Mem c w)(jn:c.base=0)(hR:∀r,c.R r=rows[r]?)(tk:∀t,Rep c w (look env t) (tm.getD t undef))(gd:N<=tm.size):
 fu N k {c.kill (bO k (rows.length-k))with X:=λb=>∃s row,cw s (bO k (rows.length-k))=true/\c.R s=some row/\¬c.V s/\c.ρ s=b} w c w ⟨env,rows.map some⟩ {tmps:=tm,defers:=[]}:=by
 refine⟨hm,λr=>by
  rw[hR]
  simp only[aV,gH]
  cases rows[r]? <;>rfl,tk,gd,mf.nil,by simp[Ctx.kill,jn],λr row h=>?_,⟨⟨rfl,aX _,λ_ h=>⟨h,rfl⟩,λr x hx=>?_⟩,Fr.refl _ w,λ_ h=>.inl h,λr row hr hv=>?_,λ_ _=>by simp[Ctx.kill,jn]⟩⟩
 ·obtain⟨h1,ao,h2,_⟩:=nn (c:=c) (ks:=bO k (rows.length-k)) h
  rw[hR]at h2
  have bg:=(List.getElem?_eq_some_iff.1 h2).1
  by_cases hk:r<k
  ·exact hk
  ·rw[Ml.2 (by omega)]at h1;cases h1
 ·obtain⟨_,row,h2,rfl⟩:=nn (c:=c) (ks:=bO k (rows.length-k)) hx
  obtain⟨s1,s2,s3,s4⟩:=wo (bO k (rows.length-k)) row
  exact⟨row,h2,s1.symm,s2.symm,s3.symm,s4.symm,rfl,Iff.rfl,λ_ arr ha=>⟨arr,by rw[s2]at ha⊢;exact ha,rfl⟩⟩
 ·cases hb:cw r (bO k (rows.length-k))with
  |true=>exact .inr (.inl ⟨r,row,hb,hr,hv,rfl⟩)
  |false=>exact .inl ⟨⟨row.kill (bO k (rows.length-k)),by simp[Ctx.kill,hb,hr]⟩,hv,rfl⟩
theorem Zjl{c:Ctx}{tm pf:Array Value}{ps:List Nat}{ts:List Nat}(Dh:ps=d::ts){args:List D}{vs us:List Value}{x:Value}(BR:vs=[x]++us)(tQ:us=ts.map λt=>tm.getD t undef)(gh:ki c w args vs)(hx:pf.getD d undef=x)(EA:∀t∈ts,pf.getD t undef=tm.getD t undef):
 ∀t,Rep c w (look (oK ps args) t) (pf.getD t undef):=by
 subst Dh
 subst BR
 match args,gh with
 |[],hx=>exact hx.elim
 |A::As,⟨hA,hAs⟩=>
  intro t
  simp only[oK,AV]
  split
  ·rename_i e;rw[<-e,hx];exact hA.toRep
  ·exact Zqy (by rw[tQ]at hAs;exact hAs) EA t
theorem Zc6(hD:pP P)(hT:jm P T)(hG:jF P G){rows:List Row}{res:D}{aj:List Row}{L:Code->St->(Ex->St->Prop)->Prop}(hL:∀ro code st Q,L code st Q->tZ ro P n k code st Q){Q0:D->Rows->Prop}(De:∀d R,Q0 d R->Ap k res aj d R)
 {c:Ctx} {w:World} {l:Nat} {rec:Loop} (hm:Mem c w) (hI:c.I l) (hl:w.heap[l]?=some (.loop rec)) (j5:rec.state=.ready) (DJ:rec.pending=none) {st:St} {c2:Ctx} {w2:World} {a:Act}
 (hs:fu n k {({c with I:=λb=>c.I b/\b≠l}:Ctx).kill (bO k (rows.length-k))with X:=λb=>∃s row,cw s (bO k (rows.length-k))=true/\c.R s=some row/\¬c.V s/\c.ρ s=b} (w.putObj l (.loop {rec with state:=.busy})) c2 w2 st a)
 (h:px T G n k L code st λe st=>match e with|.normal=>Q0 (.bool true) st.rows|_=>False):
 code.wpIn (AY (some l)) 0 P (roundPost P l λe w'=>∃v' c',e=.returned v'/\jP (bO k (rows.length-k)) c w c' w'/\(∀r,c'.R r=aj[r]?)/\Rep c' w' res v') a w2:=by
 have bg:=(Array.getElem?_eq_some_iff.1 hl).1
 obtain⟨ĉ,hĉ⟩:∃ĉ:Ctx,ĉ={c with I:=λb=>c.I b/\b≠l}:=⟨_,rfl⟩
 obtain⟨wb,JK⟩:∃wb,wb=w.putObj l (.loop {rec with state:=.busy}):=⟨_,rfl⟩
 have dc:∀r x,c.R r=some x->¬c.V r->c.ρ r≠l:=λr x hr hV=>(hm.fq l hI).2 r x hr hV
 have JL:∀b,b≠l->wb.heap[b]?=w.heap[b]? :=λb hb=>by rw[JK];exact World.putObj_heap_other hb
 have h2l:wb.heap[l]?=some (.loop {rec with state:=.busy}):=by rw[JK];exact World.putObj_heap_same bg
 have FI:wb.heap.size=w.heap.size:=by rw[JK];simp
 have hs:fu n k {ĉ.kill (bO k (rows.length-k))with X:=λb=>∃s row,cw s (bO k (rows.length-k))=true/\ĉ.R s=some row/\¬ĉ.V s/\ĉ.ρ s=b} wb c2 w2 st a:=by rw[hĉ,JK];exact hs
 refine wpIn_mono (Nv (ro:=some l) hD hT hG (Nw none n) (λcode st Q _ hl=>hL (some l) code st Q hl) code _ _ trivial h _ wb c2 w2 _ hs) λe a' w3 hq=>?_
 obtain⟨ex,st,c1,he,hq,lN⟩:=hq
 cases e<;>simp only[mX,Option.some.injEq,reduceCtorEq]at he<;>subst he
 rotate_left
 ·exact hq.elim
 ·exact hq.elim
 obtain⟨ex,hex,pH,dj⟩:=De _ _ hq
 obtain⟨fj,jj,gj⟩:=Zr lN hex dj
 have hX:¬({ĉ.kill (bO k (rows.length-k))with X:=λb=>∃s row,cw s (bO k (rows.length-k))=true/\ĉ.R s=some row/\¬ĉ.V s/\ĉ.ρ s=b}:Ctx).X l:=fun⟨s,row,_,g1,g2,g3⟩=>by
  rw[hĉ]at g1 g2 g3;exact dc s row g1 g2 g3
 have h3l:w3.heap[l]?=some (.loop {rec with state:=.busy}):=by
  refine(lN.reach.fr.heap l (by rw[FI];exact bg) λhx=>?_).trans h2l
  rcases hx with⟨r,row,g1,g2,g3⟩|hx
  ·obtain⟨_,ao,g4,_⟩:=nn (c:=ĉ) g1
   rw[hĉ]at g2 g3 g4;exact dc r ao g4 g2 g3
  ·exact hX hx
 have Ij:=(Array.getElem?_eq_some_iff.1 h3l).1
 have EB:=run_endRound (P:=P) none h3l
 refine⟨_,_,EB,_,{c1.out ex aj with I:=λb=>(c1.out ex aj).I b\/b=l},rfl,?_⟩
 have QT:({({rec with state:=.busy}:Loop)with state:=if(none:Option Code).isNone then .ready else .done,pending:=none}:Loop)=rec:=by
  cases rec;simp only at j5 DJ;subst j5;subst DJ;rfl
 rw[QT]
 have nl:¬(c1.out ex aj).I l:=λhx=>by
  rcases gj.fq l hx with h|h|h
  ·obtain⟨h,_⟩:ĉ.I l/\True:=⟨h,trivial⟩
   rw[hĉ]at h;exact h.2 rfl
  ·exact hX h
  ·rw[FI]at h;omega
 have Di:∀r x,(c1.out ex aj).R r=some x->¬(c1.out ex aj).V r->(c1.out ex aj).ρ r≠l:=λr x hr hV e=>by
  rcases jj.row r x hr with g|⟨_,arr,g,_⟩
  ·exact hV g.1
  ·rw[e,h3l]at g;cases g
 have ME:∀b,b≠l->(w3.putObj l (.loop rec)).heap[b]?=w3.heap[b]? :=λb hb=>World.putObj_heap_other hb
 have wv:jh (c1.out ex aj) w3 {c1.out ex aj with I:=λb=>(c1.out ex aj).I b\/b=l} (w3.putObj l (.loop rec)):=
  ⟨rfl,aX _,λb hb=>⟨.inl hb,ME b (λe=>nl (by rw[<-e];exact hb))⟩,λr x hr=>⟨x,hr,rfl,rfl,rfl,rfl,rfl,Iff.rfl,λhV arr ha=>⟨arr,(ME _ (Di r x hr hV)).trans ha,rfl⟩⟩⟩
 have hN:=v8 jj gj
 refine⟨⟨⟨λr x hr=>tE wv rfl Iff.rfl (λnv=>ME _ (Di r x hr nv)) (jj.row r x hr),jj.inj,λb hb=>?_,by simpa using jj.top,jj.j4.mono wv.I⟩,⟨?_,?_,λb hb=>?_,λr x hr=>?_⟩,⟨?_,?_,?_,?_,λb hb hn=>?_⟩,λb hb=>?_,λr row hr hv=>?_⟩,λr=>rfl,Ad wv (SW lN.mem lN.rows dj fj pH rfl)⟩
 ·rcases hb with hb|hb
  ·simpa using jj.fq b hb
  ·subst hb;exact⟨by simpa using Ij,λr x hr hV=>Di r x hr hV⟩
 ·have:=hN.db.base;rw[hĉ]at this;exact this
 ·have:=hN.db.top;rw[hĉ]at this;exact this
 ·by_cases e:b=l
  ·subst e;exact⟨.inr rfl,by rw[World.putObj_heap_same Ij,hl]⟩
  ·have:=hN.db.I b (by rw[hĉ];exact⟨hb,e⟩)
   exact⟨.inl this.1,(ME b e).trans (this.2.trans (JL b e))⟩
 ·have:=hN.db.R r x (by rw[hĉ];exact hr)
  obtain⟨x',g1,g2,g3,g4,g5,g6,gV,g7⟩:=this
  rw[hĉ]at g6 gV g7
  refine⟨x',g1,g2,g3,g4,g5,g6,gV,λhV arr ha=>?_⟩
  obtain⟨_,x0,q1,_⟩:=nn (c:=c) hr
  have ia:c.ρ r≠l:=dc r x0 q1 hV
  obtain⟨iR,k1,k2⟩:=g7 hV arr ((JL _ ia).trans ha)
  exact⟨iR,(ME _ ia).trans k1,k2⟩
 ·rw[JK]at hN;exact hN.fr.os
 ·rw[JK]at hN;exact hN.fr.tape
 ·rw[JK]at hN;exact hN.fr.output
 ·have:=hN.fr.size;rw[FI]at this;simpa using this
 ·by_cases e:b=l
  ·subst e;rw[World.putObj_heap_same Ij,hl]
  ·rw[ME b e,hN.fr.heap b (by rw[FI];exact hb) (by rw[hĉ];exact hn),JL b e]
 ·rcases hb with hb|hb
  ·rcases hN.fq b hb with g|g|g
   ·rw[hĉ]at g;exact .inl g.1
   ·rw[hĉ]at g;exact .inr (.inl g)
   ·rw[FI]at g;exact .inr (.inr g)
  ·subst hb;exact .inl hI
 ·rcases hN.ov r row hr hv with g|g|g
  ·rw[hĉ]at g;exact .inl g
  ·rw[hĉ]at g;exact .inr (.inl g)
  ·rw[FI]at g;exact .inr (.inr g)
theorem zaJ(hD:pP P)(hT:jm P T)(hG:jF P G){args:List D}{rows:List Row}{res:D}{aj:List Row}{rf:Option Nat}(hf:pn P f fn (rA (oH args++kL rows)=true/\rf=none))(mL:∀code,fn.body=some code->RF rf fn.ntmps code)
 {L:Code->St->(Ex->St->Prop)->Prop} (hL:∀ro,(ro=none\/rf=none)->∀code st Q,RF rf fn.ntmps code->L code st Q->tZ ro P fn.ntmps k code st Q) {Q0:D->Rows->Prop} (De:∀d R,Q0 d R->Ap k res aj d R) (h:FJ T G L fn args rows Q0 k):tV P f k args rows res aj:=by
 intro c w vs hm jn hR gh
 unfold FJ at h
 split at h
 rotate_left
 ·exact h.elim
 rename_i code hb
 cases hf with
 |real bg hf sO=>
  simp only[sO]at h
  refine⟨λ_=>?_,λgz=>absurd bg (Nat.not_lt.2 gz)⟩
  have hs:=JJ (N:=fn.ntmps) (k:=k) (env:=FG args 0) (tm:=vs.toArray++gE (fn.ntmps-vs.toArray.size) undef) hm jn hR (λt=>Zqm gh _ t) (by simp;omega)
  refine callsIn_wide.1 (callsIn_of_wp_marks (F:=Fence.wide) (n:=0) hf hb trivial (wpIn_mono (Nv (ro:=none) hD hT hG (Nw rf fn.ntmps) (hL none (.inl rfl)) code _ _ (mL _ hb) h _ w c w _ hs) λe a' w' hq=>?_))
  obtain⟨ex,st,c1,he,hq,lN⟩:=hq
  have fin:(FH T st.rows st.env fn.results.toList λds=>match ds with|[d]=>Q0 d st.rows|ds=>Q0 (.ee ds) st.rows)->
   LeavesInM Fence.wide 0 P fn a'.tmps (λe w'=>∃v' c',e=.returned v'/\jP (bO k (rows.length-k)) c w c' w'/\(∀r,c'.R r=aj[r]?)/\Rep c' w' res v') a'.defers .returning w':=by
   intro kP
   refine leaves lN λc1 w' a' jH lN=>?_
   obtain⟨ds,hK,hr⟩:=Vd hT kP
   have pq:mn c1 st.rows:=λr row ao h1 h2=>by rw[lN.rows,h2]at h1;exact(Option.some.inj h1).symm
   obtain⟨us,iy,Df⟩:=hr c1 w' a'.tmps lN.mem pq lN.env
   have tj:=Z7s iy
   obtain⟨d,v,JH,hv,oG⟩:∃d v,Ap k res aj d st.rows/\Dc us=v/\Rep c1 w' d v:=by
    match ds,us,Df with
    |[d],[u],hx=>exact⟨d,u,De _ _ hK,rfl,hx.1.toRep⟩
    |[],[],hx=>exact⟨.ee [],_,De _ _ hK,rfl,[],rfl,trivial⟩
    |d::e::ds,u::v::us,hx=>exact⟨.ee (d::e::ds),_,De _ _ hK,rfl,_,rfl,hx⟩
    |[],_::_,hx=>exact hx.elim
    |[_],[],hx=>exact hx.elim
    |[_],_::_::_,hx=>exact hx.2.elim
    |_::_::_,[],hx=>exact hx.elim
    |_::_::_,[_],hx=>exact hx.2.elim
   rw[hv]at tj
   obtain⟨ex,hex,hd,dj⟩:=JH
   obtain⟨fj,jj,gj⟩:=Zr lN hex dj
   refine⟨v,tj,v,c1.out _ aj,rfl,v8 jj gj,λr=>rfl,SW lN.mem lN.rows dj fj hd oG⟩
  cases e<;>simp only[mX,Option.some.injEq,reduceCtorEq]at he
  ·subst he;exact fin hq
  ·subst he;exact hq.elim
  ·subst he;exact fin hq
 |yield gz y d hy hd uL hnf JM Dh hnt hc=>
  simp only[hnf,JM]at h
  obtain⟨nm,JN⟩:=hc
  rw[uL]at hb
  cases hb
  refine⟨λbg=>absurd bg (Nat.not_lt.2 gz),λ_ l rec xs us BR hI hl mZ jd=>?_⟩
  obtain⟨j5,DJ,y',Ah,kY,has,hbo,QU,h1,tQ⟩:=mZ
  rw[hy]at Ah;cases Ah
  obtain⟨x,rfl⟩:∃x,xs=[x]:=by
   match xs,jd with
   |[x],_=>exact⟨x,rfl⟩
  rw[kY,has,hbo]
  have real:∀k,k∈oH args++kL rows->k<YB:=λk hk=>Nu nm hk
  have bg:=(Array.getElem?_eq_some_iff.1 hl).1
  have wR:∀arr ty fz,(Obj.loop rec)≠.cells arr ty fz:=λ_ _ _ e=>by cases e
  obtain⟨ĉ,hĉ⟩:∃ĉ:Ctx,ĉ={c with I:=λb=>c.I b/\b≠l}:=⟨_,rfl⟩
  obtain⟨w2,QV⟩:∃w2,w2=w.putObj l (.loop {rec with state:=.busy}):=⟨_,rfl⟩
  have dc:∀r x,c.R r=some x->¬c.V r->c.ρ r≠l:=λr x hr hV=>(hm.fq l hI).2 r x hr hV
  have JL:∀b,b≠l->w2.heap[b]?=w.heap[b]? :=λb hb=>by rw[QV];exact World.putObj_heap_other hb
  have h2l:w2.heap[l]?=some (.loop {rec with state:=.busy}):=by rw[QV];exact World.putObj_heap_same bg
  have FI:w2.heap.size=w.heap.size:=by rw[QV];simp
  have hg:Jx c w ĉ w2:=by
   rw[hĉ]
   refine⟨rfl,aX _,λb arr ty fz iu hb=>?_,λr x hr=>⟨x,hr,rfl,rfl,rfl,rfl,rfl,Iff.rfl,λhV arr ha=>⟨arr,(JL _ (dc r x hr hV)).trans ha,rfl⟩⟩⟩
   have ia:b≠l:=λe=>by subst e;rw[hl]at hb;cases hb
   exact⟨⟨iu,ia⟩,(JL b ia).trans hb⟩
  have gF:∀k ws v,k<YB->r7 c w k ws v->r7 ĉ w2 k ws v:=λk ws v hk hv=>by
   rcases hv with hv|⟨hv,_⟩
   ·exact .inl hv
   ·omega
  have BU:Mem ĉ w2:=by
   rw[hĉ]at hg gF⊢
   refine ZD hm hg (λr x hr hV=>JL _ (dc r x hr hV)) (Fk:=λk=>k<YB) gF (λr x hr k hk=>real k ?_) (λb hb=>⟨by rw[FI];exact(hm.fq b hb.1).1,(hm.fq b hb.1).2⟩) (by rw[FI];exact aX _)
   rw[hR]at hr
   exact eX _ (Zqp hr hk)
  have JO:ki ĉ w2 args vs:=ZC hg (Fk:=λk=>k<YB) gF (λk hk=>real k (eS _ hk)) gh
  refine roundIn_of_wpIn (F:=Fence.wide) (n:=0) trivial (qw (F:=Fence.wide) hd (tm:=rec.tmps) QU λpf gd hx EA=>?_)
  refine⟨w2,by rw[QV];exact run_beginRound hl j5,?_⟩
  have tk:∀t,Rep ĉ w2 (look (oK fn.params.toList args) t) (pf.getD t undef):=Zjl Dh BR tQ JO hx EA
  have hs:=JJ (N:=fn.ntmps) (k:=k) (env:=oK fn.params.toList args) (tm:=pf) BU (by rw[hĉ];exact jn) (by rw[hĉ];exact hR) tk (by rw[gd,hnt];exact QU)
  subst JN
  subst QV
  subst hĉ
  exact Zc6 hD hT hG (λro code st Q hl=>hL ro (.inr rfl) code st Q trivial hl) De hm hI hl j5 DJ hs h
 |uX gz y q hy kY hq uL hnf JM Dh hnt hc=>
  simp only[hnf,JM]at h
  obtain⟨nm,JN⟩:=hc
  subst JN
  rw[uL]at hb
  cases hb
  simp only at h
  refine⟨λbg=>absurd bg (Nat.not_lt.2 gz),λ_ l rec xs us BR hI hl mZ jd=>?_⟩
  obtain⟨j5,DJ,y',Ah,Jac,has,hbo,QU,h1,tQ⟩:=mZ
  rw[hy]at Ah;cases Ah
  obtain⟨x,rfl⟩:∃x,xs=[x]:=by
   match xs,jd with
   |[x],_=>exact⟨x,rfl⟩
  rw[Jac,has,hbo]
  obtain⟨pf,Vg⟩:∃pf,pf=rec.tmps.setIfInBounds q x:=⟨_,rfl⟩
  have hz:((y.ps.zip [x].toArray).foldl (λtmps (t,a)=>tmps.setIfInBounds t a) rec.tmps)=pf:=by rw[kY,Vg];simp
  rw[hz]
  simp only[aE,gI,bB]at hq
  have hqs:q<rec.tmps.size:=bM (lE hq.1) QU
  have hx:pf.getD q undef=x:=by rw[Vg];simp[aQ,hqs]
  have EA:∀t∈y.ts,pf.getD t undef=rec.tmps.getD t undef:=λt ht=>by
   have ia:q≠t:=λe=>by have:=hq.2 t ht;rw[e]at this;simp at this
   rw[Vg];simp[aQ,aZ ia]
  have tk:∀t,Rep c w (look (oK fn.params.toList args) t) (pf.getD t undef):=Zjl Dh BR tQ gh hx EA
  have hs:=JJ (N:=fn.ntmps) (k:=k) (env:=oK fn.params.toList args) (tm:=pf) hm jn hR tk (by rw[Vg,hnt];simpa using QU)
  refine roundIn_of_wpIn (F:=Fence.wide) (n:=0) trivial (wpIn_mono (Nv (ro:=some l) hD hT hG (Nw none fn.ntmps) (λcode st Q _ hl=>hL (some l) (.inr rfl) code st Q trivial hl) y.assign _ _ trivial h _ w c w _ hs) λe a1 w1 hq=>?_)
  obtain⟨ex,st1,c1,he,hq,lN⟩:=hq
  cases e<;>simp only[mX,Option.some.injEq,reduceCtorEq]at he<;>subst he
  rotate_left
  ·exact hq.elim
  ·exact hq.elim
  simp only[dm]at hq
  obtain⟨Jad,hq⟩:=hq
  have S0:w1.heap[l]?=some (.loop rec):=(lN.reach.db.I l hI).2.trans hl
  have dc:∀r x,(c.kill (bO k (rows.length-k))).R r=some x->¬c.V r->c.ρ r≠l:=λr x hr hV=>by
   obtain⟨_,x0,q1,_⟩:=nn (c:=c) hr
   exact(hm.fq l hI).2 r x0 q1 hV
  exact⟨_,run_beginRound S0 j5,Zc6 hD hT hG (λro code st Q hl=>hL ro (.inr rfl) code st Q trivial hl) De hm hI hl j5 DJ (lN.edit hI hl dc Jad) hq⟩
def D.Hw:D->Bool|.int _ _=>true|.bool _=>true|.str _=>true|.sl _ _ _=>true|.iO=>true|.jN=>true|_=>false
theorem ai.wX(E:ai):ai.Eq E E:=by
 cases E with
 |gen es=>cases es<;>simp[ai.Eq]
 |ah k l=>simp[ai.Eq,Wq]
 |_=>simp[ai.Eq]
theorem xw{d:D}(h:d.Hw=true):iT ex m R d d:=by
 cases d<;>first|(cases h;done)|simp[iT,dm,ai.wX]
def D.mG(n:Nat):D->Bool|.all i=>Nat.blt i n|.de=>true|.emp=>true|d=>d.Hw
def Row.mG(n:Nat):Row->Bool|⟨false,_,_,_⟩=>true|⟨true,_,_,.gen [e]⟩=>e.all (D.mG n)|_=>false
theorem Zd6(h:i<n):kb (cW n) i i=true:=by
 simp[kb,List.getElem?_range h]
theorem Zrm{d:D}(h:d.mG n=true):iT (cW n) m R d d:=by
 cases d with
 |all i=>
  simp only[D.mG,Nat.blt_eq]at h
  simp[iT,dm,Zd6 h]
 |de=>simp[iT]
 |emp=>simp[iT]
 |_=>exact xw h
theorem Z75{n m:Nat}{R:Rows}:∀{e:List D},e.all (D.mG n)=true->DL (cW n) m R e e
 |[],_=>trivial
 |d::e,h=>by
  simp only[gJ,aE]at h
  exact⟨Zrm h.1,Z75 h.2⟩
theorem Qyp{m n:Nat}:∀{post pre:List Row},post.all (Row.mG n)=true->lT (cW n) m ((pre++post).map some) (bO pre.length post.length) post
 |[],_,_=>trivial
 |⟨box,ty,sz,es⟩::post,pre,h=>by
  simp only[gJ,aE]at h
  rw[List.length_cons,List.range'_succ]
  have hR:(((pre++⟨box,ty,sz,es⟩::post).map some:Rows)).getD pre.length none=some ⟨box,ty,sz,es⟩:=by
   simp[aV]
  simp only[lT,hR,dm]
  refine⟨⟨by cases box<;>simp,?_⟩,?_⟩
  ·cases box with
   |false=>exact ai.wX es
   |true=>
    obtain⟨h,_⟩:=h
    cases es with
    |gen l=>
     match l,h with
     |[e],h=>exact Z75 h
    |_=>cases h
  ·have:=Qyp (m:=m) (n:=n) (post:=post) (pre:=pre++[⟨box,ty,sz,es⟩]) h.2
   simpa using this
theorem Zrs{rows:List Row}(h:rows.all (Row.mG rows.length)=true):lT (cW rows.length) m (rows.map some) (cW rows.length) rows:=by
 have:=Qyp (m:=m) (n:=rows.length) (post:=rows) (pre:=[]) h
 rwa [List.nil_append,List.length_nil,<-gC]at this
theorem Zbg:∀l:List Nat,MC l l=true
 |[]=>rfl
 |x::l=>by simp[MC,Zbg l]
theorem Zts(M:Nat):sF M (cW M)=true:=by
 have h1:(cW M).take M=cW M:=List.take_of_length_le (by simp)
 have h2:(cW M).drop M=[]:=List.drop_of_length_le (by simp)
 simp[sF,h1,h2,Zbg,CV]
theorem Zcj(hD:pP P)(hT:jm P T)(hf:P.funcs[f]?=some fn){args:List D}{rows:List Row}{off:Nat}(h:rows.all (Row.mG rows.length)=true)(h0:0<rows.length)
 (e1:∀Q0:D->GD.Rows->Prop,ko T [] (λ_ _ _=>False) fn args rows (λd R=>Q0 d R)=Q0 (.ptr 0 0 off) (rows.map some)):kG P f args rows (.ptr 0 0 off) rows:=by
 have hG:jF P []:=λx hx=>by cases hx
 have h2:ko T [] (λ_ _ _=>False) fn args rows (λd R=>d=.ptr 0 0 off/\R=rows.map some):=(e1 (λd R=>d=.ptr 0 0 off/\R=rows.map some)).symm▸⟨rfl,rfl⟩
 refine vv hD hT hG hf (rf:=none) (L:=λ_ _ _=>False) (λ_ _=>trivial) (λ_ _ _ _ h=>h.elim) (Q0:=λd R=>d=.ptr 0 0 off/\R=rows.map some) (λd R h=>?_) h2
 obtain⟨rfl,rfl⟩:=h
 refine⟨cW rows.length,Zts _,?_,Zrs ‹_›⟩
 simp[sE,pz,iT,dm,Zd6 h0]

import Derived.Test.YtaemmjbkndlkeaaGreatMigrateEndsFp
open List renaming getD->aV,getElem?_eq_none->aJ,getElem?_append_left->bI,getElem?_take->aF,getElem?_drop->fK,getElem?_eq_getElem->aI,getElem?_toArray->bH,map_cons->fI,map_toArray->bV,mem_cons->cQ,mem_map->fT,mem_of_getElem?->fN,length_nil->dE,drop_zero->fU
open Nat renaming le_refl->aX,zero_add->bG,add_assoc->fR
open Option renaming getD_some->aR
open Bool renaming false_eq_true->aA
open Array renaming toArray_toList->bW,extract_eq_self_of_le->fS
set_option linter.all false
namespace Go.GD
open Go
variable {G:List bd}{I I':ae}{K:Act->World->Prop}{P:Program}{Q:Exit->Act->World->Prop}{a:Act}{after:Array Edge}{args:Array Operand}{d d' val:D}{dst:Option Tmp}{ev:Operand->D}{i:Nat}{pos':String}{row:Row}{type:TypeId}{dj:Array TypeId}{v:Value}{vs:List Value}{w w':World}
structure J0(c:Ctx)(w:World)(R R':Rows)(c':Ctx)(w':World):Prop where
 mem:Mem c' w'
 cy:jc c w c' w'
 fr:Fr (λ_=>False) w w'
 fg:∀b,c'.I b->c.I b\/w.heap.size<=b
 rows:∀r,c'.R r=if R.length<=r/\r<R'.length then R'.getD r none else c.R r
 jF:∀r,r<R.length\/R'.length<=r->c'.ρ r=c.ρ r/\(c'.V r↔c.V r)
 new:∀r,R.length<=r->r<R'.length->¬c'.V r->w.heap.size<=c'.ρ r
structure lL(c:Ctx)(w:World)(c':Ctx)(w':World):Prop where
 mem:Mem c' w'
 cy:jc c w c' w'
 fr:Fr (λb=>∃r x,c.R r=some x/\¬c.V r/\c.ρ r=b) w w'
 fg:∀b,c'.I b->c.I b\/w.heap.size<=b
 ob:∀r ao,c'.R r=some ao->¬c'.V r->((∃row,c.R r=some row)/\¬c.V r/\c'.ρ r=c.ρ r)\/w.heap.size<=c'.ρ r
def PM(P:Program)(o:Oper)(a:Act)(next:Act->World->Prop):Result Next->Prop
 |.ok (.value v) w'=>next (a.put o.dst v) w'
 |.ok .skip w'=>next (a.put o.dst undef) w'
 |.ok (.enter f args) w'=>Calls P f args w' λe G2=>∃v,e=.returned v/\next (a.put o.dst v) G2
 |.ok (.round l f tmps assign body) w'=>RoundIn Fence.wide 0 P l f tmps assign body w' λe G2=>∃v,e=.returned v/\next (a.put o.dst v) G2
 |_=>False
def _root_.Go.Oper.nd(P:Program)(o:Oper)(a:Act)(w:World)(next:Act->World->Prop)(_:Exit->Act->World->Prop):Prop:=PM P o a next ((execOp a.eval o).run P w)
theorem Gb{o:Oper}{u:Value}(h:(execOp a.eval o).run P w=.ok (.value u) w')(hK:K (a.put o.dst u) w'):o.nd P a w K Q:=by
 unfold Oper.nd;rw[h];exact hK
theorem vS{o:Oper}(h:(execOp a.eval o).run P w=.ok .skip w')(hK:K (a.put o.dst undef) w'):o.nd P a w K Q:=by
 unfold Oper.nd;rw[h];exact hK
theorem Wl{P:Program}{o:Oper}{a:Act}{w:World}{K K':Act->World->Prop}{Q Q':Exit->Act->World->Prop}(h:∀a w,K a w->K' a w)(hh:o.nd P a w K Q):o.nd P a w K' Q':=by
 unfold Oper.nd at hh⊢
 revert hh
 generalize(execOp a.eval o).run P w=r
 intro hh
 cases r with
 |halt _ _=>exact hh.elim
 |ok n w'=>
  cases n with
  |value v=>exact h _ _ hh
  |skip=>exact h _ _ hh
  |enter f args=>exact Calls.mono hh λe w' ⟨v,he,hk⟩=>⟨v,he,h _ _ hk⟩
  |round l f tmps assign body=>exact RoundIn.mono hh λe w' ⟨v,he,hk⟩=>⟨v,he,h _ _ hk⟩
  |_=>exact hh.elim
def pI(P:Program)(o:Oper)(ev:Operand->D)(R:Rows)(val:D)(R':Rows):Prop:=
 (∃news,R'=R++news)/\∀(c:Ctx) (w:World) (a:Act),Mem c w->c.base<=w.heap.size->mf c R->(∀r,R.length<=r->r<R'.length->c.R r=none)->(∀x∈o.op.operands,Rep c w (ev x) (a.eval x))->
  ∀K Q,(∀v w' c',J0 c w R R' c' w'->Rep c' w' val v->K (a.put o.dst v) w')->o.nd P a w K Q
def Ek(P:Program)(o:Oper)(ev:Operand->D)(R:Rows)(val:D)(R':Rows):Prop:=
 ∀ (c:Ctx) (w:World) (a:Act),Mem c w->c.base<=w.heap.size->(∀r,c.R r=R.getD r none)->(∀x∈o.op.operands,Rep c w (ev x) (a.eval x))->
  ∀K Q,(∀v w' c',lL c w c' w'->(∀r,c'.R r=R'.getD r none)->Rep c' w' val v->K (a.put o.dst v) w')->o.nd P a w K Q
theorem pI.toW{o:Oper}{R:Rows}{R':Rows}(h:pI P o ev R val R'):Ek P o ev R val R':=by
 obtain⟨⟨news,hn⟩,h⟩:=h
 intro c w a hm hb hR eh K Q hK
 refine h c w a hm hb (λr row ao h1 h2=>by rw[hR,h2]at h1;exact(Option.some.inj h1).symm) (λr h1 _=>by rw[hR];simp[aV,aJ h1]) eh K Q λv w' c' hs hr=>?_
 refine hK v w' c' ⟨hs.mem,hs.cy,hs.fr.mono (λb _ hf=>hf.elim),hs.fg,λr ao pE hv=>?_⟩ (λr=>?_) hr
 ·by_cases h1:R.length<=r/\r<R'.length
  ·exact .inr (hs.new r h1.1 h1.2 hv)
  ·rw[hs.rows,if_neg h1]at pE
   obtain⟨h2,h3⟩:=hs.jF r (by omega)
   exact .inl ⟨⟨_,pE⟩,λe=>hv (h3.2 e),h2⟩
 ·rw [hs.rows,hR]
  split
  ·rfl
  ·rename_i h1
   subst hn
   by_cases h2:r<R.length
   ·simp[aV,bI h2]
   ·have h3:(R++news).length<=r:=by omega
    simp[aV,aJ h3,aJ (show R.length<=r by omega)]
theorem mG{o:Oper}{R:Rows}(h:∀(c:Ctx) (w:World) (a:Act),Mem c w->mf c R->(∀x∈o.op.operands,Rep c w (ev x) (a.eval x))->∃u,(execOp a.eval o).run P w=.ok (.value u) w/\Rep c w val u):pI P o ev R val R:=by
 refine⟨⟨[],by simp⟩,λc w a hm hb hA _ eh K Q hK=>?_⟩
 obtain⟨u,hu,hr⟩:=h c w a hm hA eh
 exact Gb hu (hK u w c ⟨hm,jc.refl c w,Fr.refl _ w,λb hb=>.inl hb,λr=>by rw[if_neg (by omega)],λ_ _=>⟨rfl,Iff.rfl⟩,λr h1 h2=>by omega⟩ hr)
theorem PN{o:Oper}{R:Rows}(h:∀(c:Ctx) (w:World) (a:Act),Mem c w->mf c R->(∀x∈o.op.operands,Rep c w (ev x) (a.eval x))->
 ∃x:Sem Value,execOp a.eval o=(do pure (.value (<-x)))/\PO P x w c R.length row val):pI P o ev R val (R++[some row]):=by
 refine⟨⟨[some row],rfl⟩,λc w a hm hb hA e6 eh K Q hK=>?_⟩
 obtain⟨x,hx,u,arr,hu,hi,hr⟩:=h c w a hm hA eh
 have hk:c.R R.length=none:=e6 R.length (aX _) (by simp)
 have il:(execOp a.eval o).run P w=.ok (.value u) (w.alloc (.cells arr row.ty)):=by
  rw[hx,Sem.run_bind,hu];rfl
 refine Gb il (hK u _ (c.add R.length row w.heap.size) ⟨hm.alloc hk row arr hi.1 hi.2,jc.alloc hm hk row _,Fr.alloc _ w _,λb hb=>.inl hb,λr=>?_,λr hr=>?_,λr h1 h2 _=>?_⟩ (hr hk hm))
 ·by_cases e:r=R.length
  ·subst e
   simp[Ctx.add,aV]
  ·have:¬(R.length<=r/\r<(R++[some row]).length):=by simp;omega
   rw[if_neg this]
   simp[Ctx.add,e]
 ·have:r≠R.length:=by simp at hr;omega
  simp[Ctx.add,this]
 ·have:r=R.length:=by simp at h2;omega
  simp[Ctx.add,this]
def Ga:Op->Bool|.store _ _ _=>true|_=>false
theorem Zs{c:Ctx}{cs:List D}(h:jl c w cs vs)(o n:Nat):jl c w ((cs.drop o).take n) ((vs.drop o).take n):=by
 rw[DU]at h⊢
 obtain⟨h1,h2⟩:=h
 refine⟨by simp[h1],λj v hv=>?_⟩
 simp only[aF,fK]at hv
 split at hv
 ·rename_i hj
  have:=h2 (o+j) v hv
  simp only[aV,aF,fK,hj,if_true]at this⊢
  exact this
 ·cases hv
theorem v8{c:Ctx}:∀{dj:List se} {az:List D} {vs:List Value},jl c w az vs->fits dj az=true->pR vs.toArray 0 az
 |dj,az,vs,h,hf=>by
  intro j d hj
  have bh:=(List.getElem?_eq_some_iff.1 hj).1
  have hl:=h.length
  have hv:vs[j]?=some vs[j]:=aI (by omega)
  have hr:=(DU.1 h).2 j _ hv
  simp only[aV,hj,aR]at hr
  have hs :∀{dj:List se} {az:List D} {j:Nat},fits dj az=true->az[j]?=some d->(∃k n,d=.int k n)\/(∃b,d=.bool b)\/∃s,d=.str s:=by
   intro dj
   induction dj with
   |nil=>intro az j hf hj;cases az<;>simp[fits]at hf;simp at hj
   |cons t ts ih=>
    intro az j hf hj
    cases az with
    |nil=>cases t<;>simp[fits]at hf
    |cons e es=>
     cases t<;>simp only[fits,aE,aA]at hf
     all_goals
      cases j with
      |succ j=>exact ih hf.2 (by simpa using hj)
      |zero=>
       simp at hj
       subst hj
       cases e<;>simp[D.isInt,D.isBool,D.isStr]at hf⊢
  simp only[bG,bH,hv]
  rcases hs hf hj with⟨k,n,rfl⟩|⟨b,rfl⟩|⟨s,rfl⟩<;>(simp only[dc]at hr;rw[hr];rfl)
theorem Y9{c:Ctx}{w:World}:∀{ds:List D} {vs:List Value},kg c w ds vs->∀i,i<ds.length->∃v,vs[i]?=some v/\VRep c w (ds.getD i .dead) v
 |[],[],_,i,h=>by simp at h
 |d::ds,v::vs,h,0,_=>⟨v,rfl,h.1⟩
 |d::ds,v::vs,h,i+1,hi=>by
  obtain⟨u,hu,hr⟩:=Y9 h.2 i (by simpa using hi)
  exact⟨u,by simpa using hu,by simpa using hr⟩
 |[],_::_,h,_,_=>h.elim
 |_::_,[],h,_,_=>h.elim
theorem qat{x:iD}(h:CG d=some x):x.d=d:=by
 have go:∀{cs:List iD} {ps:List (Nat×Nat×Nat)},PQ cs=some ps->ps.map HM=cs:=by
  intro cs
  induction cs with
  |nil=>intro ps h;simp[PQ]at h;subst h;rfl
  |cons y l ih=>
   intro ps h
   simp only[PQ]at h
   split at h
   ·rename_i p qs h1 h2
    cases h
    simp only[fI,ih h2]
    cases y<;>simp[G6]at h1
    subst h1;rfl
   ·cases h
 cases d<;>simp only[CG]at h<;>first|(cases h;done)|skip
 case gp f cs=>
  split at h
  ·rename_i ps hp;cases h;simp only[iD.d,go hp]
  ·cases h
 all_goals(cases h;rfl)
theorem Wx{c:Ctx}{w:World}{ev:Operand->D}{ρ:Operand->Value}:∀{xs:List Operand} {cs:List iD},Zd (xs.map ev)=some cs->(∀x∈xs,Rep c w (ev x) (ρ x))->oD c w cs (xs.map ρ)
 |[],cs,h,_=>by simp[Zd]at h;subst h;trivial
 |x ::xs,cs,h,hr=>by
  simp only[fI,Zd]at h
  split at h
  ·rename_i y ys h1 h2
   cases h
   refine⟨?_,Wx h2 λz hz=>hr z (by simp[hz])⟩
   have:=hr x (by simp)
   rw[<-qat h1]at this
   rw[Wg]
   cases y<;>exact this
  ·cases h
theorem M5{T:iy}(hT:Q4 P T)(o:Oper)(ev:Operand->D)(R:Rows)(K:D->Rows->Prop)(h:gr T o.op ev R K):
 ∃val R',K val R'/\(if Ga o.op then Ek P o ev R val R' else pI P o ev R val R'):=by
 obtain⟨dst,op,type,pos,after,guard⟩:=o
 simp only at h
 cases op<;>(try simp only[gr]at h)<;>try(exact h.elim)
 case makeFunc fn first captured=>
  cases fn<;>simp only at h<;>try(exact h.elim)
  rename_i f
  simp only[dd,aE]at h
  obtain⟨⟨h0,hy⟩,h⟩:=h
  split at h
  ·rename_i cs hc
   refine⟨_,_,h,mG λc w a hm hA eh=>?_⟩
   have hf:first= #[]:=Array.eq_empty_of_size_eq_zero (bE h0)
   subst hf
   refine⟨.func (.func f) #[] (captured.map a.eval),?_,captured.toList.map a.eval,?_,Wx hc λx hx=>eh x (by simp[Op.operands];simpa using hx)⟩
   ·simp only[execOp,Instr.makeFunc,Sem.run_bind,Sem.run_pure,Array.map_empty];rfl
   ·exact .inl ⟨lE hy,by rw[<-bV,bW]⟩
  ·exact h.elim
 case move x=>
  rw[D.c7]at h
  exact⟨_,_,h,mG λc w a hm hA eh=>⟨_,rfl,eh x (by simp[Op.operands])⟩⟩
 case assign x=>
  rw[D.c7]at h
  exact⟨_,_,h,mG λc w a hm hA eh=>⟨_,rfl,eh x (by simp[Op.operands])⟩⟩
 case alloc t=>
  split at h
  ·rename_i ht
   simp only[dd,aE,Ke]at h
   obtain⟨⟨h0,hl⟩,h⟩:=h
   exact⟨_,_,h,PN λc w a hm hA eh=>⟨_,rfl,Zps hT ht (lE h0) (bE hl) R.length c w⟩⟩
  ·exact h.elim
 case box t x=>
  split at h
  ·rename_i ht
   simp only[dd,aE,Ke,D.e7]at h
   obtain⟨⟨⟨h0,hv⟩,hl⟩,h⟩:=h
   exact⟨_,_,h,PN λc w a hm hA eh=>⟨_,rfl,zaK (lE h0) hv (bE hl) R.length c w (eh x (by simp[Op.operands]))⟩⟩
  ·exact h.elim
 case build t parts=>
  obtain⟨val,hK,hr⟩:=vT hT h
  refine⟨_,_,hK,mG λc w a hm hA eh=>?_⟩
  obtain⟨u,hu,hx⟩:=hr c w a.eval (λp hp=>eh p.2 (by simp[Op.operands];exact⟨p.1,by simpa using hp⟩))
  refine⟨u,?_,hx⟩
  simp only[execOp]
  rw[Sem.run_bind,show parts.map (λx=>(x.1,a.eval x.2))=(parts.toList.map λp=>(p.1,a.eval p.2)).toArray from by rw[<-bV,bW],hu]
  rfl
 case buildSlice t len parts=>
  obtain⟨h1,h2⟩:=Zv.1 h
  cases hl:UJ t len
  rotate_left
  ·obtain⟨row,val,hK,hr⟩:=Zn4 hT (h1 hl)
   refine⟨_,_,hK,PN λc w a hm hA eh=>⟨_,?_,hr c w a.eval (λp hp=>eh p.2 (by simp[Op.operands];exact⟨p.1,by simpa using hp⟩))⟩⟩
   simp only[execOp]
   rw[show parts.map (λx=>(x.1,a.eval x.2))=(parts.toList.map λp=>(p.1,a.eval p.2)).toArray from by rw[<-bV,bW]]
  have h:=h2 hl
  obtain⟨val,hK,hr⟩:=Zsp hT h
  refine⟨_,_,hK,⟨[],by simp⟩,λc w a hm hb hA _ eh K Q hK=>?_⟩
  obtain⟨u,arr,ty,hu,hx⟩:=hr c w a.eval hb (λp hp=>eh p.2 (by simp[Op.operands];exact⟨p.1,by simpa using hp⟩))
  have il:(execOp a.eval (⟨dst,.buildSlice t len parts,type,pos,after,guard⟩:Oper)).run P w=.ok (.value u) (w.alloc (.cells arr ty)):=by
   simp only[execOp]
   rw[Sem.run_bind,show parts.map (λx=>(x.1,a.eval x.2))=(parts.toList.map λp=>(p.1,a.eval p.2)).toArray from by rw[<-bV,bW],hu]
   rfl
  exact Gb il (hK u _ (c.fg w.heap.size) ⟨xas hm _,UI hm _,Fr.alloc _ w _,λb hb=>hb.elim .inl (λe=>.inr (by omega)),λr=>by rw[if_neg (by omega)];rfl,λ_ _=>⟨rfl,Iff.rfl⟩,λr h1 h2=>by omega⟩ (hx hm))
 case load t x=>
  obtain⟨val,hK,hr⟩:=Zi1 hT h
  refine⟨_,_,hK,mG λc w a hm hA eh=>?_⟩
  obtain⟨u,hu,hx⟩:=hr c w _ hm hA (eh x (by simp[Op.operands]))
  exact⟨u,by simp only[execOp];rw[Sem.run_bind,hu];rfl,hx⟩
 case store t x y=>
  obtain⟨R',hK,hr⟩:=Zsa hT h
  refine⟨_,_,hK,?_⟩
  simp only[Ga,if_true]
  intro c w a hm hb hR eh K Q hK
  obtain⟨r,ao,arr,w',il,YI,⟨row,cz⟩,hV,hg,mm,j7⟩:=hr c w _ _ hm hR (eh x (by simp[Op.operands])) (eh y (by simp[Op.operands]))
  refine vS (w':=w') ?_ (hK undef w' _ ⟨mm,hg,?_,λb hb=>.inl hb,λs sE hs hv=>?_⟩ j7 trivial)
  ·simp only[execOp];rw[Sem.run_bind,il];rfl
  rotate_left
  ·by_cases e:s=r
   ·exact .inl ⟨⟨row,by rw[e];exact cz⟩,hv,rfl⟩
   ·exact .inl ⟨⟨sE,by simpa[Ctx.jT,e]using hs⟩,hv,rfl⟩
  ·rw[YI]
   exact(Qm w _ arr).mono λb _ e=>⟨r,row,cz,hV,e.symm⟩
 case nilCheck x=>
  have go:∀d,ev x=d->(∃a b c,d=.ptr a b c)\/(∃a b c e,d=.iu a b c e)->K d R->∃val R',K val R'/\pI P ⟨dst,.nilCheck x,type,pos,after,guard⟩ ev R val R':=by
   intro d hd PR hK
   refine⟨_,_,hK,mG λc w a hm hA eh=>?_⟩
   have hx:=eh x (by simp[Op.operands])
   rw[hd]at hx
   have hp:∃q,a.eval x=.pointer (some q):=by
    rcases PR with⟨r,i,off,rfl⟩|⟨sz,es,i,off,rfl⟩
    ·obtain⟨_,_,_,_,hv⟩:=hx;exact⟨_,hv⟩
    ·obtain⟨_,_,_,_,_,hv,_⟩:=hx;exact⟨_,hv⟩
   obtain⟨q,hq⟩:=hp
   refine⟨a.eval x,?_,hx⟩
   simp only[execOp,hq,Sem.run_pure]
  split at h
  ·rename_i hd;exact go _ hd (.inl ⟨_,_,_,rfl⟩) h
  ·rename_i hd;exact go _ hd (.inr ⟨_,_,_,_,rfl⟩) h
  ·exact h.elim
 case binOp op t x y ty=>
  have fin:∀(val:D),(∀c w u v,Rep c w (ev x) u->Rep c w (ev y) v->∃z,(do eqGuard op t x y u v;binOp op t u v).run P w=.ok z w/\Rep c w val z)->pI P ⟨dst,.binOp op t x y ty,type,pos,after,guard⟩ ev R val R:=λval hv=>
   mG λc w a hm hA eh=>by
    obtain⟨z,hz,hr⟩:=hv c w _ _ (eh x (by simp[Op.operands])) (eh y (by simp[Op.operands]))
    refine⟨z,?_,hr⟩
    simp only[execOp]
    rw[Sem.run_bind,hz];rfl
  unfold sJ at h
  split at h
  ·rename_i k a k' b hx hy
   split at h
   ·simp only[dd,decide_eq_true_eq]at h
    refine⟨_,_,h.2,fin _ λc w u v hu hv=>?_⟩
    rw[hx]at hu;rw[hy]at hv
    rw[Rep.int.1 hu,Rep.int.1 hv]
    exact⟨_,by rw[Sem.run_bind,Zw];exact(Zj7 h.1 w).1,rfl⟩
   ·simp only[dd,decide_eq_true_eq]at h
    refine⟨_,_,h.2,fin _ λc w u v hu hv=>?_⟩
    rw[hx]at hu;rw[hy]at hv
    rw[Rep.int.1 hu,Rep.int.1 hv]
    exact⟨_,by rw[Sem.run_bind,Zw];exact(Zj7 h.1 w).2,rfl⟩
   ·rename_i h1 h2
    simp only[dd,decide_eq_true_eq]at h
    obtain⟨rfl,h⟩:=h
    obtain⟨d,hK,hr⟩:=zat (P:=P) (t:=t) ⟨λe=>h1 e,λe=>h2 e⟩ h
    refine⟨_,_,hK,fin _ λc w u v hu hv=>?_⟩
    rw[hx]at hu;rw[hy]at hv
    rw[Rep.int.1 hu,Rep.int.1 hv]
    obtain⟨z,hz,Zx⟩:=hr w
    exact⟨z,by rw[Sem.run_bind,Zw];exact hz,Zx c⟩
  ·rename_i a b hx hy
   obtain⟨d,hK,hr⟩:=xat (P:=P) (t:=t) (op:=op) (a:=a) (b:=b) (K:=λd=>K d R) h
   refine⟨_,_,hK,fin _ λc w u v hu hv=>?_⟩
   rw[hx]at hu;rw[hy]at hv
   rw[Rep.str.1 hu,Rep.str.1 hv]
   obtain⟨z,hz,Zx⟩:=hr w
   exact⟨z,by rw[Sem.run_bind,Zmt];exact hz,Zx c⟩
  ·rename_i a b hx hy
   split at h
   ·rename_i ht
    have hd:=mF hT ht
    simp only at hd
    split at h
    ·refine⟨_,_,h,fin _ λc w u v hu hv=>?_⟩
     rw[hx]at hu;rw[hy]at hv
     rw[Rep.bool.1 hu,Rep.bool.1 hv]
     refine⟨_,?_,rfl⟩
     rw[Sem.run_bind,Z1n]
     simp only[binOp]
     simp[Op.equal,Op.maxDepth,run_equalIn_bool' w 9999 t a b hd]
    ·refine⟨_,_,h,fin _ λc w u v hu hv=>?_⟩
     rw[hx]at hu;rw[hy]at hv
     rw[Rep.bool.1 hu,Rep.bool.1 hv]
     refine⟨_,?_,rfl⟩
     rw[Sem.run_bind,Z1n]
     simp only[binOp]
     simp[Op.equal,Op.maxDepth,run_equalIn_bool' w 9999 t a b hd]
    ·exact h.elim
   ·exact h.elim
  ·rename_i a b hx hy
   split at h
   ·rename_i ti ht
    simp only[dd,aE]at h
    obtain⟨⟨⟨⟨⟨CF,h0⟩,he⟩,fa⟩,fb⟩,h⟩:=h
    obtain⟨i0,pB,By,_,J5,w6,_,heq,hc,d0,Fg⟩:=Qc (hT.get ht)
    have h0:0<ti.size:=lE h0
    rw[heq]at he
    simp only[aE,Bool.not_eq_true']at he
    rw[hc]at fa fb
    have kq:P.cellsOf t=(lZ P 8 t).length:=by rw[<-hc,J5];simp[Program.cellsOf,pB,By]
    have uj:0<P.cellsOf t:=by simp[Program.cellsOf,pB,By,h0]
    have PS:∀c w u v,Rep c w (ev x) u->Rep c w (ev y) v->∃us vs:Array Value,u=.agg us/\v=.agg vs/\(Op.equalIn 10000 t (.agg us) (.agg vs)).run P w=.ok (eqs a b) w:=by
     intro c w u v hu hv
     rw[hx]at hu;rw[hy]at hv
     obtain⟨us,hu,ru⟩:=hu
     obtain⟨vs,hv,rv⟩:=hv
     refine⟨us.toArray,vs.toArray,hu,hv,?_⟩
     have Jg:=Zy (P:=P) 8 t 10000 (by omega) he.2 kq uj us.toArray vs.toArray 0 a b w fa fb (v8 ru fa) (v8 rv fb)
     have hlu:=ru.length;have hlv:=rv.length
     have hla:=sK fa;have Zz:=sK fb
     have uf:PK d0=true:=by rw[<-L8 Fg,<-w6];exact CF
     simp only[ou,Sem.run_bind,UK Fg uf uj,Result.andThen_ok]at Jg
     rw[show us.toArray.extract 0 (0+P.cellsOf t)=us.toArray from by apply fS;simp;omega,show vs.toArray.extract 0 (0+P.cellsOf t)=vs.toArray from by apply fS;simp;omega]at Jg
     exact Jg
    split at h
    ·refine⟨_,_,h,fin _ λc w u v hu hv=>?_⟩
     obtain⟨us,vs,rfl,rfl,hr⟩:=PS c w u v hu hv
     refine⟨_,?_,rfl⟩
     rw[Sem.run_bind,run_eqGuard_agg w _ _ _ _ _ _ he.1,Result.andThen_ok,run_eql_struct,hr];rfl
    ·refine⟨_,_,h,fin _ λc w u v hu hv=>?_⟩
     obtain⟨us,vs,rfl,rfl,hr⟩:=PS c w u v hu hv
     refine⟨_,?_,rfl⟩
     rw[Sem.run_bind,run_eqGuard_agg w _ _ _ _ _ _ he.1,Result.andThen_ok,run_neq_struct,hr];rfl
    ·exact h.elim
   ·exact h.elim
  ·exact h.elim
 case unOp op t x=>
  split at h
  ·rename_i k n hx
   refine⟨_,_,h,mG λc w a hm hA eh=>?_⟩
   have:=eh x (by simp[Op.operands])
   rw[hx]at this
   exact⟨_,by simp only[execOp,Rep.int.1 this,Op.unary,Op.intArith,Sem.run_bind,Sem.run_pure];rfl,rfl⟩
  ·rename_i k n hx
   refine⟨_,_,h,mG λc w a hm hA eh=>?_⟩
   have:=eh x (by simp[Op.operands])
   rw[hx]at this
   exact⟨_,by simp only[execOp,Rep.int.1 this,Op.unary,Op.intBits,Sem.run_bind,Sem.run_pure];rfl,rfl⟩
  ·rename_i b hx
   refine⟨_,_,h,mG λc w a hm hA eh=>?_⟩
   have:=eh x (by simp[Op.operands])
   rw[hx]at this
   exact⟨_,by simp only[execOp,Rep.bool.1 this,Op.unary,Sem.run_bind,Sem.run_pure];rfl,rfl⟩
  ·exact h.elim
 case convert s d x=>
  obtain⟨val,hK,hr⟩:=qau hT h
  refine⟨_,_,hK,mG λc w a hm hA eh=>?_⟩
  obtain⟨u,hu,hx⟩:=hr c w _ (eh x (by simp[Op.operands]))
  exact⟨u,by simp only[execOp];rw[Sem.run_bind,hu];rfl,hx⟩
 case makeSlice t l cp=>
  split at h
  ·rename_i kl n kc m hl hc
   obtain⟨row,val,hK,hr⟩:=yv (kl:=kl) (kc:=kc) hT h
   refine⟨_,_,hK,PN λc w a hm hA eh=>⟨_,rfl,?_⟩⟩
   have h1:=eh l (by simp[Op.operands]);have h2:=eh cp (by simp[Op.operands])
   rw[hl]at h1;rw[hc]at h2
   rw[Rep.int.1 h1,Rep.int.1 h2]
   exact hr c w
  ·exact h.elim
 case slice t x lo hi mx=>
  cases mx with
  |some m=>simp only at h
  |none=>
   simp only at h
   obtain⟨val,hK,hr⟩:=yT hT h
   refine⟨_,_,hK,mG λc w a hm hA eh=>?_⟩
   obtain⟨u,hu,hx⟩:=hr c w _ a.eval hm hA (eh x (by simp[Op.operands])) (λy hy=>eh y (by simp[Op.operands,hy])) (λy hy=>eh y (by simp[Op.operands,hy]))
   exact⟨u,by simp only[execOp];rw[Sem.run_bind];simp only[Option.map_none];rw[hu];rfl,hx⟩
 case fieldAddr s x f=>
  split at h
  ·rename_i o q n hf
   simp only[dd]at h
   obtain⟨h0,h⟩:=h
   have h0:0<n:=lE h0
   obtain⟨fs,fd,g1,g2,g3,g4,g5⟩:=Z2j hT hf
   split at h
   ·rename_i r i off hx
    refine⟨_,_,h,mG λc w a hm hA eh=>?_⟩
    have:=eh x (by simp[Op.operands])
    rw[hx]at this
    obtain⟨row,k1,kV,k2,hv⟩:=this
    refine⟨_,by simp only[execOp,hv];rw[Sem.run_bind,Z5w g1 g2 (by simp only at g5;omega)];rfl,row,k1,kV,k2,by rw[g3,fR]⟩
   ·rename_i sz es i off hx
    refine⟨_,_,h,mG λc w a hm hA eh=>?_⟩
    have:=eh x (by simp[Op.operands])
    rw[hx]at this
    obtain⟨b,oo,arr,ty,fz,hv,hI,hi,hh,hE⟩:=this
    refine⟨_,by simp only[execOp,hv];rw[Sem.run_bind,Z5w g1 g2 (by simp only at g5;omega)];rfl,b,oo,arr,ty,fz,by rw[g3,fR],hI,hi,hh,hE⟩
   ·exact h.elim
  ·exact h.elim
 case field s x f=>
  split at h
  ·rename_i o q n hf
   obtain⟨fs,fd,g1,g2,g3,g4,g5⟩:=Z2j hT hf
   simp only at g4 g5
   split at h
   ·rename_i cs ti hx ht
    simp only[dd,aE]at h
    obtain⟨⟨h0,hle⟩,h⟩:=h
    have h0:0<n:=lE h0
    have hle:=lE hle
    obtain⟨_,_,_,_,_,w6,_,_,_,d0,Fg⟩:=Qc (hT.get ht)
    have run:∀(vs:List Value) (w:World) (r:Value),(part q vs.toArray o).run P w=.ok r w->(Instr.field s (.agg vs.toArray) f).run P w=.ok r w:=λvs w r hr=>by
     simp only[Instr.field,Sem.run_bind,run_underlying g1,Result.andThen_ok,g2,asAgg,Sem.run_pure,g4,g3,hr]
    split at h
    ·rename_i CF
     rw[D.e7]at h
     refine⟨_,_,h,mG λc w a hm hA eh=>?_⟩
     have:=eh x (by simp[Op.operands])
     rw[hx]at this
     obtain⟨vs,hv,hr⟩:=this
     have hp:=UK (P:=P) Fg (by rw[<-L8 Fg,<-w6];exact CF) (by rw[<-g4,g5];exact h0) vs.toArray o w
     refine⟨_,by simp only[execOp,hv];rw[Sem.run_bind,run vs w _ hp];rfl,(vs.drop o).take n,?_,Zs hr o n⟩
     rw[<-g4,g5]
     congr 1
     simp[List.extract_toArray,List.extract_eq_take_drop]
    ·rename_i CF
     simp only[D.c7]at h
     obtain⟨wG,h⟩:=h
     refine⟨_,_,h,mG λc w a hm hA eh=>?_⟩
     have:=eh x (by simp[Op.operands])
     rw[hx]at this
     obtain⟨vs,hv,hr⟩:=this
     have hl:=hr.length
     have iw:vs[o]?=some vs[o]:=aI (by omega)
     have hp:=G7 (P:=P) (t:=q) Fg (by rw[<-L8 Fg,<-w6];exact CF) (xs:=vs.toArray) (o:=o) (v:=vs[o]) (by rw[bH];exact iw) w
     refine⟨_,by simp only[execOp,hv];rw[Sem.run_bind,run vs w _ hp];rfl,?_⟩
     have hc:=(DU.1 hr).2 o _ iw
     generalize cs.getD o .dead=d at*
     cases d<;>first|exact hc|trivial|exact hc.elim
   ·exact h.elim
  ·exact h.elim
 case indexAddr t x ix=>
  split at h
  ·rename_i k n hn
   obtain⟨val,hK,hr⟩:=Zrk (k:=k) hT h
   refine⟨_,_,hK,mG λc w a hm hA eh=>?_⟩
   have h2:=eh ix (by simp[Op.operands])
   rw[hn]at h2
   obtain⟨u,hu,hx⟩:=hr c w _ hm hA (eh x (by simp[Op.operands]))
   exact⟨u,by simp only[execOp,Rep.int.1 h2];rw[Sem.run_bind,hu];rfl,hx⟩
  ·exact h.elim
 case index t x ix=>
  split at h
  ·rename_i s k n ht hx hn
   have hd:=mF hT ht
   simp only at hd
   simp only[dd,decide_eq_true_eq]at h
   obtain⟨⟨h1,h2⟩,h⟩:=h
   refine⟨_,_,h,mG λc w a hm hA eh=>?_⟩
   have e1:=eh x (by simp[Op.operands]);have e2:=eh ix (by simp[Op.operands])
   rw[hx]at e1;rw[hn]at e2
   refine⟨_,?_,rfl⟩
   have bh:n.toNat<s.length:=by omega
   have hg:(ByteArray.mk s.toArray)[n.toNat]?=some (s.getD n.toNat 0):=by
    have h3:n.toNat<(ByteArray.mk s.toArray).size:=by simpa[ByteArray.size]using bh
    rw[getElem?_pos (ByteArray.mk s.toArray) n.toNat h3]
    simp only[aV,aI bh,aR]
    rfl
   simp only[execOp,Rep.str.1 e1,Rep.int.1 e2,Instr.index,asIntOf,Sem.run_bind,Sem.run_pure,Result.andThen_ok,run_underlying hd,h1,if_true,hg]
  ·rename_i len e iI _ _ _ _ _ cs k n ht hx hn
   have hd:=mF hT ht
   simp only at hd
   obtain⟨hd,ft⟩:=hd
   simp only[dd,aE,decide_eq_true_eq]at h
   obtain⟨⟨q1,q2,q3,q4⟩,h⟩:=h
   have q1:=bE q1
   have q2:=bE q2
   have run:∀(vs:List Value) (v:Value) (w:World) (d:TypeDesc),P.underlying e=some d->PK d=false->vs[n.toNat]?=some v->(Instr.index t (.agg vs.toArray) (.int k n)).run P w=.ok v w:=λvs v w d hu hda hv=>by
    have h0:0<P.cellsOf e:=by omega
    simp only[Instr.index,asIntOf,Sem.run_bind,Sem.run_pure,Result.andThen_ok,run_underlying hd,Sem.run_ite,q3,q4,and_self,if_true,Av h0]
    rw[ft,q1,Nat.mul_one]
    exact G7 hu hda (by rw[bH];exact hv) w
   have cell:∀(c:Ctx) (w:World) (a:Act),Rep c w (.agg cs) (a.eval x)->∃vs:List Value,a.eval x=.agg vs.toArray/\∃v,vs[n.toNat]?=some v/\dc c w (cs.getD n.toNat .dead) v:=λc w a hr=>by
    obtain⟨vs,hv,hr⟩:=hr
    have hl:=hr.length
    have iw:vs[n.toNat]?=some vs[n.toNat]:=aI (by omega)
    exact⟨vs,hv,_,iw,(DU.1 hr).2 _ _ iw⟩
   split at h
   ·rename_i kk _ _ _ _ _ he
    have hu:=mF hT he
    simp only at hu
    obtain⟨h1,h⟩:=h
    refine⟨_,_,h,mG λc w a hm hA eh=>?_⟩
    have e1:=eh x (by simp[Op.operands]);have e2:=eh ix (by simp[Op.operands])
    rw[hx]at e1;rw[hn]at e2
    obtain⟨vs,hv,v,g1,g2⟩:=cell c w a e1
    have hi:=UE h1 (n:=n.toNat) (by omega)
    rw[bG]at hi
    rw[D.kd hi]at g2
    refine⟨v,?_,?_⟩
    ·simp only[execOp,Rep.int.1 e2,hv]
     rw[Sem.run_bind,run vs v w _ hu rfl g1];rfl
    ·rw[UC (show n.toNat<len by omega),bG]
     exact g2
   ·rename_i he
    have hu:=mF hT he
    simp only at hu
    obtain⟨h1,h⟩:=h
    refine⟨_,_,h,mG λc w a hm hA eh=>?_⟩
    have e1:=eh x (by simp[Op.operands]);have e2:=eh ix (by simp[Op.operands])
    rw[hx]at e1;rw[hn]at e2
    obtain⟨vs,hv,v,g1,g2⟩:=cell c w a e1
    have hi:=UF h1 (n:=n.toNat) (by omega)
    rw[bG]at hi
    rw[D.kf hi]at g2
    refine⟨v,?_,?_⟩
    ·simp only[execOp,Rep.int.1 e2,hv]
     rw[Sem.run_bind,run vs v w _ hu rfl g1];rfl
    ·rw[UD (show n.toNat<len by omega),bG]
     exact g2
   ·exact h.elim
  ·exact h.elim
 case extract x i=>
  split at h
  ·rename_i ds hx
   simp only[dd,D.c7]at h
   obtain⟨hv,h⟩:=h
   refine⟨_,_,h,mG λc w a hm hA eh=>?_⟩
   have:=eh x (by simp[Op.operands])
   rw[hx]at this
   obtain⟨vs,BE,hr⟩:=this
   have bh:i<ds.length:=by
    by_cases hl:i<ds.length
    ·exact hl
    ·rw[aV,aJ (by omega)]at hv;simp[D.isVal]at hv
   obtain⟨v,VX,hvr⟩:=Y9 hr i bh
   refine⟨v,?_,?_⟩
   ·simp only[execOp,BE,Instr.extract,bH,VX];rfl
   ·generalize ds.getD i .dead=d at*
    cases d<;>first|exact hvr|trivial|exact hvr.elim
  ·exact h.elim
 case call cl=>
  obtain⟨callee,args,dj⟩:=cl
  cases callee<;>try(simp only at h)
  case builtin b=>
  cases b<;>try(simp only at h)
  case len=>
   split at h
   ·rename_i x t hx ht
    obtain⟨val,hK,hr⟩:=qaK (t':=type) hT h
    refine⟨_,_,hK,mG λc w a hm hA eh=>?_⟩
    have fu:args= #[x]:=by rw[<-bW (xs:=args),hx]
    have ua:dj= #[t]:=by rw[<-bW (xs:=dj),ht]
    subst fu;subst ua
    obtain⟨u,hu,hx⟩:=hr c w _ hm hA (eh x (by simp[Op.operands,Call.operands]))
    refine⟨u,?_,hx⟩
    simp only[execOp,resolve,Sem.run_bind,Sem.run_pure,Result.andThen_ok,invoke,builtin]
    have:(#[x]:Array Operand).map a.eval= #[a.eval x]:=by simp
    rw[this,hu];rfl
   ·exact h.elim
def Ctx.kill(c:Ctx)(ks:List Nat):Ctx:={c with R:=λr=>if da r ks=true then none else(c.R r).map (Row.kill ks)}
structure jN(ks:List Nat)(c:Ctx)(w:World)(c':Ctx)(w':World):Prop where
 mem:Mem c' w'
 cy:jc (c.kill ks) w c' w'
 fr:Fr (λb=>∃r x,c.R r=some x/\¬c.V r/\c.ρ r=b) w w'
 fg:∀b,c'.I b->c.I b\/(∃s row,da s ks=true/\c.R s=some row/\¬c.V s/\c.ρ s=b)\/w.heap.size<=b
 ob:∀r ao,c'.R r=some ao->¬c'.V r->((∃row,c.R r=some row)/\¬c.V r/\c'.ρ r=c.ρ r)\/(∃s row,da s ks=true/\c.R s=some row/\¬c.V s/\c'.ρ r=c.ρ s)\/w.heap.size<=c'.ρ r
def ku(P:Program)(f:FuncId)(args:List D)(rows:List Row)(res:D)(aj:List Row):Prop:=
 ∀ (c:Ctx) (w:World) (vs:List Value),Mem c w->c.base=w.heap.size->(∀r,c.R r=rows[r]?)->kg c w args vs->
  Calls P f vs.toArray w λe w'=>∃v c',e=.returned v/\lL c w c' w'/\(∀r,c'.R r=aj[r]?)/\Rep c' w' res v
def FQ(P:Program)(I:ae)(f:FuncId)(vs:List Value)(w:World)(R:Ending->World->Prop):Prop:=
 (f<YB->Calls P f vs.toArray w R)/\
 (YB<=f->∀l rec xs us,vs=xs++us->I l->w.heap[l]?=some (.loop rec)->PU f us rec->xs.length=1->
  RoundIn Fence.wide 0 P l rec.fn ((rec.params.zip xs.toArray).foldl (λtmps (t,a)=>tmps.setIfInBounds t a) rec.tmps) rec.assign rec.body w R)
theorem FQ.mono{f:FuncId}{R R':Ending->World->Prop}(h:FQ P I f vs w R)(hI:∀b,I' b->I b)(hR:∀e w',R e w'->R' e w'):FQ P I' f vs w R':=
 ⟨λhf=>(h.1 hf).mono hR,λhf l rec xs us h1 h2 h3 h4 h5=>(h.2 hf l rec xs us h1 (hI l h2) h3 h4 h5).mono hR⟩
theorem FQ.real{f:FuncId}{R:Ending->World->Prop}(hf:f<YB)(h:Calls P f vs.toArray w R):FQ P I f vs w R:=⟨λ_=>h,λhg=>absurd hf (Nat.not_lt.2 hg)⟩
def tJ(P:Program)(f:FuncId)(k:Nat)(args:List D)(rows:List Row)(res:D)(aj:List Row):Prop:=
 ∀ (c:Ctx) (w:World) (vs:List Value),Mem c w->c.base=0->(∀r,c.R r=rows[r]?)->kg c w args vs->
  FQ P c.I f vs w λe w'=>∃v c',e=.returned v/\jN (List.range' k (rows.length-k)) c w c' w'/\(∀r,c'.R r=aj[r]?)/\Rep c' w' res v
def mV:D->Prop|.int _ _=>True|.bool _=>True|.str _=>True|.c8=>True|.iz=>True|.emp=>True|_=>False
def CT.mV:CT->Bool|.int _=>true|.bool=>true|.str=>true|_=>false
def RK.mV(k:RK):Bool:=k.sig.all CT.mV
def ai.Fh:ai->Prop
 |.gen es=>∀e∈es,∀d∈e,mV d
 |.ah k _=>k.mV=true
 |_=>True
theorem Zdc:∀{ts:List CT} {cs:List D} {j:Nat},ts.all CT.mV=true->∀d∈uX ts cs j,mV d
 |[],_,_,_,d,h=>by simp[uX]at h
 |t ::ts,cs,j,ht,d,h=>by
  simp only[List.all_cons,aE]at ht
  simp only[uX,cQ]at h
  rcases h with h|h
  ·subst h
   cases t<;>first|trivial|(simp[CT.mV]at ht)
  ·exact Zdc ht.2 d h
theorem ai.CH{E:ai}(h:E.Fh):∀e∈E.l,∀d∈e,mV d:=by
 cases E with
 |gen es=>exact h
 |ints k l=>
  intro e he d hd
  simp only[ai.l,fT]at he
  obtain⟨n,_,rfl⟩:=he
  simp at hd
  subst hd;trivial
 |ag l=>
  intro e he d hd
  simp only[ai.l,fT]at he
  obtain⟨n,_,rfl⟩:=he
  simp at hd
  subst hd;trivial
 |ah k l=>
  intro e he d hd
  simp only[ai.l,fT]at he
  obtain⟨x,_,rfl⟩:=he
  rw[<-RK.oa]at hd
  exact Zdc h d hd
def PV:D->Prop
 |.sl _ es fr=>(es.Nil\/fr=true)/\es.Fh
 |.iu _ _ _ _=>False
 |.gp _ _=>False
 |_=>True
def Mb:List D->Prop
 |[]=>True
 |d::ds=>PV d/\Mb ds
def UL:D->Prop
 |.agg cs=>Mb cs
 |d=>PV d
def Fi:List D->Prop
 |[]=>True
 |d::ds=>UL d/\Fi ds
def FF:D->Prop
 |.dw ds=>Fi ds
 |d=>UL d
def Jh(row:Row):Prop:=if row.box then∀e∈row.es.l,Mb e else row.es.Fh
def rA:List Row->Prop
 |[]=>True
 |r::l=>Jh r/\rA l
structure bn(P:Program)(x:bd):Prop where
 enters:x.f<YB->∀args w,(callFunc x.f args).run P w=.ok (.enter x.f args) w
 real:x.gone=none->x.f<YB
 ok:x.gone=none->∀args rows res aj,x.m args rows=.ok res aj->ku P x.f args rows res aj/\(x.flat=true->FF res/\rA aj)
 when:x.gone=none->∀args rows p res aj,x.m args rows=.when p res aj->p->ku P x.f args rows res aj/\(x.flat=true->FF res/\rA aj)
 abs:x.gone=none->∀args rows α v res aj,x.m args rows=.abs α v res aj->ku P x.f args rows (res v) (aj v)/\(x.flat=true->FF (res v)/\rA (aj v))
 lr:x.gone=none->∀args rows p α v res aj,x.m args rows=.lr p α v res aj->p->ku P x.f args rows (res v) (aj v)/\(x.flat=true->FF (res v)/\rA (aj v))
 PH:∀k,x.gone=some k->∀args rows α v res aj,x.m args rows=.abs α v res aj->tJ P x.f k args rows (res v) (aj v)
 GZ:∀k,x.gone=some k->∀args rows p α v res aj,x.m args rows=.lr p α v res aj->p->tJ P x.f k args rows (res v) (aj v)
def jD(P:Program)(G:List bd):Prop:=∀x∈G,bn P x
theorem FZ{P:Program}:∀{G:List bd} {f:FuncId} {x:bd},jD P G->oF G f=some x->bn P x/\x.f=f
 |[],f,x,_,h=>by simp[oF]at h
 |y ::l,f,x,hG,h=>by
  simp only[oF]at h
  split at h
  ·rename_i hb
   simp at h;subst h
   exact⟨hG y (by simp),bE hb⟩
  ·exact FZ (λz hz=>hG z (by simp[hz])) h
theorem Zqr:∀{rows:List Row} {i:Nat} {row:Row},rA rows->rows[i]?=some row->Jh row
 |r::l,0,row,h,hi=>by simp at hi;subst hi;exact h.1
 |r::l,i+1,row,h,hi=>Zqr h.2 (by simpa using hi)
 |[],i,row,_,hi=>by simp at hi
theorem nN{r:Nat}:∀{l:List Nat},da r l=true↔r∈l
 |[]=>by simp[da]
 |x ::l=>by
  simp only[da]
  cases hb:Nat.beq x r with
  |true=>have:=bE hb;subst this;simp
  |false=>
   have gu:¬r=x:=λe=>by rw[e]at hb;simp at hb
   simp[nN (l:=l),gu]
theorem L2:∀{l m:List Nat},px l m=true↔ ∀r∈l,r∈m
 |[],m=>by simp[px]
 |x::l,m=>by
  simp only[px]
  cases hb:da x m with
  |true=>simp[L2 (l:=l),nN.1 hb]
  |false=>simp[show¬x∈m fromλe=>by rw[nN.2 e]at hb;cases hb]
theorem Un:∀{l m:List Nat},pq l m=true↔ ∀r∈l,¬r∈m
 |[],m=>by simp[pq]
 |x::l,m=>by
  simp only[pq]
  cases hb:da x m with
  |true=>simp[nN.1 hb]
  |false=>simp[Un (l:=l),show¬x∈m fromλe=>by rw[nN.2 e]at hb;cases hb]
theorem L3:∀{l:List Nat},CI l=true↔l.Nodup
 |[]=>by simp[CI]
 |x::l=>by
  simp only[CI,List.nodup_cons]
  cases hb:da x l with
  |true=>simp[nN.1 hb]
  |false=>simp[L3 (l:=l),show¬x∈l fromλe=>by rw[nN.2 e]at hb;cases hb]
theorem Zp9{r:Nat}:∀{l:List Nat} {k:Nat},r∈l->∃j,pos r l k=k+j/\l[j]?=some r
 |x ::l,k,h=>by
  simp only[pos]
  cases hb:Nat.beq x r with
  |true=>exact⟨0,rfl,by simp[bE hb]⟩
  |false=>
   have gu:¬r=x:=λe=>by rw[e]at hb;simp at hb
   have hm:r∈l:=by simpa[gu]using h
   obtain⟨j,h1,h2⟩:=Zp9 (k:=k+1) hm
   exact⟨j+1,by show pos r l (k+1)=_;rw[h1];omega,by simpa using h2⟩
theorem Be{r:Nat}{l:List Nat}(h:r∈l):l[pos r l 0]?=some r:=by
 obtain⟨j,h1,h2⟩:=Zp9 (k:=0) h
 rw[h1,bG];exact h2
structure DT(S:Nat->Prop)(f:Nat->Nat)(dv:Bool)(c1 c2:Ctx):Prop where
 row:∀i row,S i->c1.R i=some row->∃ao,c2.R (f i)=some ao/\ao.box=row.box/\ao.ty=row.ty/\ao.sz=row.sz/\ao.es.l.length=row.es.l.length/\c2.ρ (f i)=c1.ρ i/\(c2.V (f i)↔c1.V i)
 base:dv=true->c2.base<=c1.base
 top:c1.top<=c2.top
theorem qT(hs:mV d)(h:fy I w d v):fy I' w d v:=by
 cases h<;>first|exact hs.elim|constructor
theorem Zdj{I I':ae}{w:World}:∀{cs:List D} {arr:Array Value} {off:Nat},(∀d∈cs,mV d)->oG I w cs arr off->oG I' w cs arr off
 |[],_,_,_,_=>by simp[Du,Dv]
 |d::cs,arr,off,hs,h=>by
  simp only[Du,Dv]at h⊢
  obtain⟨⟨v,hv,hp⟩,hr⟩:=h
  exact⟨⟨v,hv,qT (hs d (by simp)) hp⟩,Zdj (λe he=>hs e (by simp[he])) hr⟩
theorem ZA{I I':ae}{w:World}:∀{es:List (List D)} {arr:Array Value} {off sz:Nat},(∀e∈es,∀d∈e,mV d)->im I w es arr off sz->im I' w es arr off sz
 |[],_,_,_,_,_=>by simp[pY,pK]
 |e::es,arr,off,sz,hs,h=>by
  simp only[pY,pK]at h⊢
  exact⟨h.1,Zdj (hs e (by simp)) h.2.1,ZA (λf hf=>hs f (by simp[hf])) h.2.2⟩
theorem VRep.Ei{c:Ctx}(h:dc c w d v):VRep c w d v:=by cases d<;>first|exact h|exact h.elim
theorem VRep.toC{c:Ctx}(hd:∀cs,d≠.agg cs)(h:VRep c w d v):dc c w d v:=by cases d<;>first|exact h|exact absurd rfl (hd _)
theorem Rep.J9{c:Ctx}(h:VRep c w d v):Rep c w d v:=by cases d<;>first|exact h|exact h.elim|trivial
theorem Rep.toV{c:Ctx}(hd:∀ds,d≠.dw ds)(h0:d≠.dead)(h:Rep c w d v):VRep c w d v:=by cases d<;>first|exact h|exact absurd rfl (hd _)|exact absurd rfl h0
theorem Z6a{f:Nat->Nat}{dv:Bool}:∀{e:List D},(D.my f dv e).length=e.length
 |[]=>rfl
 |d::l=>by simp[D.my,Z6a (e:=l)]
section
variable {S:Nat->Prop} {f:Nat->Nat} {dv:Bool} {c1 c2:Ctx} {w:World} (hn:DT S f dv c1 c2) {flat:Prop} (hI:(∀b,c1.I b->c2.I b)\/(flat/\∀b,c1.I b->c1.base<=b->c2.I b))
include hn hI
theorem Zlz(gu:∀f cs,d≠.gp f cs)(hS:∀r∈nJ d,S r)(jx:flat->PV d)(h:dc c1 w d v):dc c2 w (d.mw f dv) v:=by
 cases d with
 |sl sz es fr=>
  obtain⟨a,cap,hv,hc,ie⟩:=h
  refine⟨a,cap,hv,hc,?_⟩
  rcases ie with ie|⟨b,off,arr,ty,fz,ha,ij,hf,hh,hE⟩
  ·exact .inl ie
  ·have hb:(fr&&dv)=true->c2.base<=b:=λe=>by
    simp only[aE]at e
    exact Nat.le_trans (hn.base e.2) (hf e.1)
   rcases hI with hi|⟨Fj,hi⟩
   ·exact .inr ⟨b,off,arr,ty,fz,ha,hi b ij,hb,hh,nq (λb hb=>⟨hi b hb,rfl⟩) _ _ _ _ hE⟩
   ·obtain⟨h1,h2⟩:=jx Fj
    rcases h1 with h1|h1
    ·exact .inl (ai.oe.1 h1)
    ·exact .inr ⟨b,off,arr,ty,fz,ha,hi b ij (hf h1),hb,hh,ZA (ai.CH h2) hE⟩
 |all r=>
  obtain⟨row,hr,hb,h⟩:=h
  obtain⟨ao,g1,g2,g3,g4,g5,g6,gV⟩:=hn.row r row (hS r (by simp[nJ])) hr
  refine⟨ao,g1,g2.trans hb,?_⟩
  rcases h with⟨hV,hv⟩|⟨hV,cap,arr,hv,h1,h2,h3,h4⟩
  ·obtain⟨a,hv,ho⟩:=hv;exact .inl ⟨gV.2 hV,a,hv,ho.mono hn.top⟩
  ·exact .inr ⟨λe=>hV (gV.1 e),cap,arr,by rw[hv,g5,g6],by rw[g5];exact h1,h2,by rw[g6,g3];exact h3,by rw[g4];exact h4⟩
 |own r o n=>
  obtain⟨row,hr,hb,ho,h⟩:=h
  obtain⟨ao,g1,g2,g3,g4,g5,g6,gV⟩:=hn.row r row (hS r (by simp[nJ])) hr
  refine⟨ao,g1,g2.trans hb,by rw[g5];exact ho,?_⟩
  rcases h with⟨h0,a,hv,jo⟩|⟨hV,cap,arr,h1,h2,h3,h4,h5⟩
  ·exact .inl ⟨h0,a,hv,jo.mono hn.top gV g6⟩
  ·exact .inr ⟨λe=>hV (gV.1 e),cap,arr,h1,h2,by rw[g6,g3];exact h3,by rw[g4,g6];exact h4,by rw[g4];exact h5⟩
 |ptr r i off=>
  obtain⟨row,hr,hV,hi,hv⟩:=h
  obtain⟨ao,g1,g2,g3,g4,g5,g6,gV⟩:=hn.row r row (hS r (by simp[nJ])) hr
  exact⟨ao,g1,λe=>hV (gV.1 e),by rw[g5];exact hi,by rw[hv,g6,g4]⟩
 |pa r i off len k n=>
  obtain⟨bh,row,hr,hV,hi,hv⟩:=h
  obtain⟨ao,g1,g2,g3,g4,g5,g6,gV⟩:=hn.row r row (hS r (by simp[nJ])) hr
  exact⟨bh,ao,g1,λe=>hV (gV.1 e),by rw[g5];exact hi,by rw[hv,g6,g4]⟩
 |iu sz es i off=>
  obtain⟨b,o,arr,ty,fz,hv,ij,iF,hh,hE⟩:=h
  rcases hI with hi|⟨Fj,hi⟩
  ·exact⟨b,o,arr,ty,fz,hv,hi b ij,iF,hh,nq (λb hb=>⟨hi b hb,rfl⟩) _ _ _ _ hE⟩
  ·exact(jx Fj).elim
 |gq r=>
  rcases h with h|⟨row,hr,hV,hi,hv⟩
  ·exact .inl h
  ·obtain⟨ao,g1,g2,g3,g4,g5,g6,gV⟩:=hn.row r row (hS r (by simp[nJ])) hr
   exact .inr ⟨ao,g1,λe=>hV (gV.1 e),by rw[g5];exact hi,by rw[hv,g6,g4]⟩
 |gp f cs=>exact absurd rfl (gu f cs)
 |emp=>obtain⟨a,hv,ho⟩:=h;exact⟨a,hv,ho.mono hn.top⟩
 |_=>exact h
theorem ZB(hS:∀r∈nJ d,S r)(jx:flat->PV d)(h:dc c1 w d v):dc c2 w (d.mw f dv) v:=by
 by_cases e:∃g cs,d=.gp g cs
 ·obtain⟨g,cs,rfl⟩:=e
  obtain⟨us,hv,hu⟩:=h
  have hi:∀b,c1.I b->c2.I b/\w.heap[b]?=w.heap[b]? :=by
   rcases hI with hi|⟨Fj,_⟩
   ·exactλb hb=>⟨hi b hb,rfl⟩
   ·exact(jx Fj).elim
  exact⟨us,L7 hi hv,Y2 (Fk:=λ_=>True) (λd v h1 h2 h3=>Zlz hn (flat:=False) (.inl λb hb=>(hi b hb).1) h1 h2 (λe=>e.elim) h3) (λ_ _ _ _=>L7 hi) (λ_ _ _=>trivial) hS hu⟩
 ·exact Zlz hn hI (λf cs e'=>e ⟨f,cs,e'⟩) hS jx h
theorem Zq9:∀{ds:List D} {vs:List Value},(∀r∈pQ ds,S r)->(flat->Mb ds)->jl c1 w ds vs->jl c2 w (D.my f dv ds) vs
 |[],[],_,_,_=>trivial
 |d::ds,v::vs,hS,jx,h=>⟨ZB hn hI (λr hr=>hS r (by simp[pQ,hr])) (λe=>(jx e).1) h.1,Zq9 (λr hr=>hS r (by simp[pQ,hr])) (λe=>(jx e).2) h.2⟩
 |[],_::_,_,_,h=>h.elim
 |_::_,[],_,_,h=>h.elim
theorem PW(hS:∀r∈Fc d,S r)(jx:flat->UL d)(h:VRep c1 w d v):VRep c2 w (d.jg f dv) v:=by
 cases d with
 |agg cs=>obtain⟨vs,hv,hr⟩:=h;exact⟨vs,hv,Zq9 hn hI hS jx hr⟩
 |dw ds=>exact h.elim
 |_=>
  refine VRep.Ei (ZB hn hI ?_ ?_ (VRep.toC ?_ h))
  ·exact hS
  ·exact jx
  ·intro cs e;cases e
theorem Zql:∀{ds:List D} {vs:List Value},(∀d∈ds,∀r∈Fc d,S r)->(flat->Fi ds)->kg c1 w ds vs->kg c2 w (D.Aw f dv ds) vs
 |[],[],_,_,_=>trivial
 |d::ds,v::vs,hS,jx,h=>⟨PW hn hI (hS d (by simp)) (λe=>(jx e).1) h.1,Zql (λd hd=>hS d (by simp[hd])) (λe=>(jx e).2) h.2⟩
 |[],_::_,_,_,h=>h.elim
 |_::_,[],_,_,h=>h.elim
theorem YU(hS:∀r,S r)(jx:flat->FF d)(h:Rep c1 w d v):Rep c2 w (d.sL f dv) v:=by
 cases d with
 |dw ds=>obtain⟨vs,hv,hr⟩:=h;exact⟨vs,hv,Zql hn hI (λ_ _ r _=>hS r) jx hr⟩
 |agg cs=>exact PW hn hI (d:=.agg cs) (λr _=>hS r) jx h
 |dead=>trivial
 |_=>
  have h':=Rep.toV (λds e=>by cases e) (λe=>by cases e) h
  have h2:=PW hn hI (λr _=>hS r) (λe=>by have:=jx e;exact this) h'
  exact Rep.J9 h2
theorem UM:∀{ds:List D} {arr:Array Value} {off:Nat},(∀r∈pQ ds,S r)->(flat->Mb ds)->kJ c1 w ds arr off->kJ c2 w (D.my f dv ds) arr off
 |[],_,_,_,_,_=>trivial
 |d::ds,arr,off,hS,jx,⟨⟨v,hv,h1⟩,h2⟩=>⟨⟨v,hv,ZB hn hI (λr hr=>hS r (by simp[pQ,hr])) (λe=>(jx e).1) h1⟩,UM (λr hr=>hS r (by simp[pQ,hr])) (λe=>(jx e).2) h2⟩
theorem YS{i j:Nat}(PL:c2.ρ j=c1.ρ i)(hV:c2.V j↔c1.V i)(hS:row.box=true->∀e,row.es=.gen [e]->∀r∈pQ e,S r)(jx:flat->Jh row)(h:El c1 w i row):El c2 w j (row.jg f dv):=by
 have sh:(row.jg f dv).box=row.box/\(row.jg f dv).ty=row.ty/\(row.jg f dv).sz=row.sz:=by
  unfold Row.jg;split<;>exact⟨rfl,rfl,rfl⟩
 rcases h with⟨h0,h1,h2,h3⟩|⟨h0,arr,ha,hs,hx⟩
 ·refine .inl ⟨hV.2 h0,?_⟩
  unfold Row.jg
  split
  ·simp at h1
  ·exact⟨h1,h2,h3⟩
 ·refine .inr ⟨λe=>h0 (hV.1 e),arr,by rw[PL,sh.2.1];exact ha,by rw[sh.2.2];exact hs,?_⟩
  rw[sh.1,sh.2.2]
  split
  ·rename_i hb
   simp only[hb,if_true]at hx
   obtain⟨e,k1,k2,k3,k4⟩:=hx
   obtain⟨box,ty,sz,es⟩:=row
   simp only at hb k1 k2 k3 k4
   subst hb;subst k1
   refine⟨D.my f dv e,rfl,?_,k3,UM hn hI (hS rfl e rfl) (λe'=>?_) k4⟩
   ·rw[Z6a];exact k2
   ·have:=jx e'
    simp only[Jh,if_true]at this
    exact this e (by simp[ai.l])
  ·rename_i hb
   simp only[hb,aA,if_false]at hx
   have he:(row.jg f dv).es=row.es:=by
    unfold Row.jg
    split
    ·simp at hb
    ·rfl
   rw[he]
   rcases hI with hi|⟨Fj,hi⟩
   ·exact nq (λb hb=>⟨hi b hb,rfl⟩) _ _ _ _ hx
   ·have:=jx Fj
    simp only[Jh,hb,aA,if_false]at this
    exact ZA (ai.CH this) hx
end
def Ctx.pass(c:Ctx)(w:World)(ids:List Nat)(rows:List Row)(len:Bool):Ctx:=
 { ρ:=λi=>match ids[i]? with|some r=>c.ρ r|none=>0,R:=λi=>rows[i]?,V:=λi=>match ids[i]? with|some r=>c.V r|none=>False,
   I:=λb=>c.I b\/(len=true/\ ∃r row,c.R r=some row/\ ¬c.V r/\row.box=false/\r∉ids/\c.ρ r=b),base:=w.heap.size,top:=c.top,X:=λ_=>False}
section
variable {c:Ctx} {w:World} {R:Rows} {ids:List Nat} {dy:List Row} {len:Bool}
theorem Zra(hm:Mem c w)(hA:mf c R)(h:Fb R d=some d')(hl:nJ d≠[]->len=true)(hd:∀r∈nJ d,r∉ids)(hr:dc c w d v):dc (c.pass w ids dy len) w d' v:=by
 have nB:∀b,c.I b->(c.pass w ids dy len).I b/\w.heap[b]?=w.heap[b]? :=λb hb=>⟨.inl hb,rfl⟩
 cases d<;>simp only[Fb]at h<;>try(cases h;done)
 case bool b=>cases h;exact hr
 case int k n=>cases h;exact hr
 case str s=>cases h;exact hr
 case iz=>cases h;exact hr
 case jL=>cases h;exact hr
 case c8=>cases h;exact⟨none,0,hr,aX _,.inl rfl⟩
 case emp=>cases h;obtain⟨a,hv,_⟩:=hr;exact⟨a,0,hv,aX _,.inl rfl⟩
 case sl sz es fr=>
  cases h
  obtain⟨a,cap,hv,hc,ie⟩:=hr
  refine⟨a,cap,hv,hc,?_⟩
  rcases ie with ie|⟨b,off,arr,ty,fz,ha,hI,hf,hh,hE⟩
  ·exact .inl ie
  ·exact .inr ⟨b,off,arr,ty,fz,ha,.inl hI,by simp,hh,nq nB _ _ _ _ hE⟩
 case all r=>
  split at h
  ·rename_i row hR
   split at h
   ·rename_i hb
    cases h
    obtain⟨ao,g1,g2,hv⟩:=hr
    have:=hA r ao _ g1 hR
    subst this
    rcases hv with⟨hV,a,hv,_⟩|⟨hV,cap,arr,hv,g3,g4,g5,g6⟩
    ·have he:=(hm.nm g1 hV).2.1
     exact⟨a,0,by rw[he];exact hv,by rw[he];exact aX _,.inl he⟩
    refine⟨_,cap,hv,g3,?_⟩
    obtain⟨iJ,jE,hs,hx⟩:=hm.real g1 hV
    rw[g5]at jE;cases jE
    simp only[hb,aA,if_false]at hx
    exact .inr ⟨_,0,arr,_,_,rfl,.inr ⟨hl (by simp[nJ]),r,_,g1,hV,hb,hd r (by simp[nJ]),rfl⟩,by simp,g5,nq nB _ _ _ _ hx⟩
   ·cases h
  ·cases h
 case own r o n=>
  split at h
  ·rename_i row hR
   split at h
   ·rename_i hb
    cases h
    obtain⟨ao,g1,g2,g5,hv⟩:=hr
    have:=hA r ao _ g1 hR
    subst this
    have hlen:((ao.es.drop o).take n).l.length=n:=by rw[ai.iY,ai.kj];simp only[List.length_take,List.length_drop];omega
    rcases hv with⟨g7,a,hv,_⟩|⟨hV,cap,arr,g3,g4,g6,hv,g7⟩
    ·subst g7
     exact⟨a,0,by rw[hlen];exact hv,by omega,.inl (by rw[ai.iY];simp)⟩
    obtain⟨iJ,jE,hs,hx⟩:=hm.real g1 hV
    rw[g6]at jE;cases jE
    simp only[hb,aA,if_false]at hx
    refine⟨_,cap,by rw[hlen];exact hv,by omega,.inr ⟨_,o*ao.sz,arr,_,_,rfl,.inr ⟨hl (by simp[nJ]),r,_,g1,hV,hb,hd r (by simp[nJ]),rfl⟩,by simp,g6,nq nB _ _ _ _ ?_⟩⟩
    have:=LY (n:=n) (J4 (l:=o) hx)
    rw[ai.iY,ai.kj]
    simpa using this
   ·cases h
  ·cases h
theorem Zr9(hm:Mem c w)(hA:mf c R):∀{ds oc:List D} {vs:List Value},Jd R ds=some oc->(pQ ds≠[]->len=true)->(∀r∈pQ ds,r∉ids)->jl c w ds vs->jl (c.pass w ids dy len) w oc vs
 |[],oc,[],h,_,_,_=>by simp[Jd]at h;subst h;trivial
 |[],_,_::_,_,_,_,hr=>hr.elim
 |_::_,_,[],_,_,_,hr=>hr.elim
 |d ::ds,oc,v::vs,h,hl,hd,hr=>by
  simp only[Jd]at h
  split at h
  ·rename_i x xs h1 h2
   cases h
   exact⟨Zra hm hA h1 (λe=>hl (by simp[pQ,e])) (λr e=>hd r (by simp[pQ,e])) hr.1,Zr9 hm hA h2 (λe=>hl (by simp[pQ,e])) (λr e=>hd r (by simp[pQ,e])) hr.2⟩
  ·cases h
theorem Zrd(hm:Mem c w)(hA:mf c R)(h:conv R d=some d')(hl:Fc d≠[]->len=true)(hd:∀r∈Fc d,r∉ids)(hr:Rep c w d v):VRep (c.pass w ids dy len) w d' v:=by
 cases d with
 |agg cs=>
  simp only[conv,Option.map_eq_some_iff]at h
  obtain⟨rH,h1,rfl⟩:=h
  obtain⟨vs,hv,hx⟩:=hr
  exact⟨vs,hv,Zr9 hm hA h1 hl hd hx⟩
 |dw ds=>simp[conv,Fb]at h
 |dead=>simp[conv,Fb]at h
 |_=>
  simp only[conv]at h
  simp only[Rep,VRep]at hr
  exact VRep.Ei (Zra hm hA h hl hd hr)
theorem Fa{f:Nat->Nat}:∀{ids:List Nat} {rows:List Row},Bd R f ids=some rows->rows.length=ids.length/\∀(i r:Nat),ids[i]?=some r->∃row,R.getD r none=some row/\rows[i]?=some (row.jg f false)
 |[],rows,h=>by simp[Bd]at h;subst h;exact⟨rfl,λi r h=>by simp at h⟩
 |r ::l,rows,h=>by
  simp only[Bd]at h
  split at h
  ·rename_i row rs h1 h2
   cases h
   obtain⟨g1,g2⟩:=Fa h2
   refine⟨by simp[g1],λi q hq=>?_⟩
   cases i with
   |zero=>simp at hq;subst hq;exact⟨row,h1,rfl⟩
   |succ i=>exact g2 i q (by simpa using hq)
  ·cases h
theorem Jb(f:Nat->Nat)(dv:Bool)(row:Row):(row.jg f dv).box=row.box/\(row.jg f dv).ty=row.ty/\(row.jg f dv).sz=row.sz/\(row.jg f dv).es.l.length=row.es.l.length:=by
 unfold Row.jg;split<;>exact⟨rfl,rfl,rfl,rfl⟩
theorem Z72{r:Nat}:∀{l:List Nat},r∈CA R l↔ ∃q∈l,∃ty sz e,R.getD q none=some ⟨true,ty,sz,.gen [e]⟩/\r∈pQ e
 |[]=>by simp[CA]
 |q ::l=>by
  simp only[CA,List.mem_append,Z72 (l:=l),cQ]
  constructor
  ·rintro(h|⟨q',h1,h2⟩)
   ·split at h
    ·rename_i ty sz e he
     exact⟨q,.inl rfl,ty,sz,e,he,h⟩
    ·simp at h
   ·exact⟨q',.inr h1,h2⟩
  ·rintro⟨q',h1|h1,ty,sz,e,h2,h3⟩
   ·subst h1
    left
    rw[h2];exact h3
   ·exact .inr ⟨q',h1,ty,sz,e,h2,h3⟩
theorem Ut(hR:∀r row,r∈ids->R.getD r none=some row->c.R r=some row)(db:Bd R (λr=>pos r ids 0) ids=some dy):DT (λr=>r∈ids) (λr=>pos r ids 0) false c (c.pass w ids dy len):=by
 obtain⟨hl,hg⟩:=Fa db
 refine⟨λr row hr cz=>?_,(λh=>by cases h),aX _⟩
 have hp:=Be hr
 obtain⟨jK,h1,h2⟩:=hg _ r hp
 have:row=jK:=by have:=hR r jK hr h1;rw[cz]at this;exact Option.some.inj this
 subst this
 obtain⟨s1,s2,s3,s4⟩:=Jb (λr=>pos r ids 0) false row
 exact⟨_,h2,s1,s2,s3,s4,by simp[Ctx.pass,hp],by simp[Ctx.pass,hp]⟩
theorem YT(hm:Mem c w)(hR:∀r row,r∈ids->R.getD r none=some row->c.R r=some row)(kQ:ids.Nodup)(jn:∀r∈CA R ids,r∈ids)(db:Bd R (λr=>pos r ids 0) ids=some dy):Mem (c.pass w ids dy len) w:=by
 have hn:=Ut (len:=len) (w:=w) hR db
 obtain⟨hl,hg⟩:=Fa db
 have inv:∀i x,(c.pass w ids dy len).R i=some x->∃r row,ids[i]?=some r/\c.R r=some row/\R.getD r none=some row/\x=row.jg (λr=>pos r ids 0) false/\(c.pass w ids dy len).ρ i=c.ρ r/\((c.pass w ids dy len).V i↔c.V r):=by
  intro i x hx
  have jM:dy[i]?=some x:=hx
  have bh:=(List.getElem?_eq_some_iff.1 jM).1
  have hi:ids[i]?=some ids[i]:=aI (by omega)
  obtain⟨row,h1,h2⟩:=hg i _ hi
  rw[jM]at h2
  exact⟨_,row,hi,hR _ row (fN hi) h1,h1,Option.some.inj h2,by simp[Ctx.pass,hi],by simp[Ctx.pass,hi]⟩
 refine⟨λi x hx=>?_,λi j x y hx hy v1 v2 he=>?_,λb hb=>?_,hm.top,hm.jZ.mono λb hb=>⟨.inl hb,rfl⟩⟩
 ·obtain⟨r,row,g1,g2,g3,rfl,g5,g6⟩:=inv i x hx
  refine YS hn (flat:=False) (.inl λb hb=>.inl hb) g5 g6 (λFl e he q hq=>?_) (λe=>e.elim) (hm.row r row g2)
  obtain⟨box,ty,sz,es⟩:=row
  simp only at Fl he
  subst Fl
  have h1:∃e0,es=.gen [e0]:=by
   rcases hm.row r _ g2 with⟨_,hh,_⟩|⟨_,arr,_,_,hx⟩
   ·cases hh
   ·simp only[if_true]at hx;obtain⟨e0,h,_⟩:=hx;exact⟨e0,h⟩
  obtain⟨e0,rfl⟩:=h1
  cases he
  exact jn q (Z72.2 ⟨r,fN g1,ty,sz,e,g3,hq⟩)
 ·obtain⟨r,row,g1,g2,g3,_,g5,g6⟩:=inv i x hx
  obtain⟨s,ao,k1,k2,k3,_,k5,k6⟩:=inv j y hy
  rw[g5,k5]at he
  have:r=s:=hm.inj r s _ _ g2 k2 (λe=>v1 (g6.2 e)) (λe=>v2 (k6.2 e)) he
  subst this
  exact(List.getElem?_inj (List.getElem?_eq_some_iff.1 g1).1 kQ).1 (g1.trans k1.symm)
 ·rcases hb with hb|⟨_,r,row,hr,hV,wC,H6,rfl⟩
  ·refine⟨(hm.fg b hb).1,λi x hx v=>?_⟩
   obtain⟨r,row,g1,g2,g3,_,g5,g6⟩:=inv i x hx
   rw[g5];exact(hm.fg b hb).2 r row g2 (λe=>v (g6.2 e))
  ·refine⟨hm.lt hr hV,λi x hx v=>?_⟩
   obtain⟨s,ao,g1,g2,g3,_,g5,g6⟩:=inv i x hx
   rw[g5]
   intro e
   have:=hm.inj s r _ _ g2 hr (λe=>v (g6.2 e)) hV e
   subst this
   exact H6 (fN g1)
theorem L4(hm:Mem c w)(hA:mf c R)(hn:DT (λr=>r∈ids) (λr=>pos r ids 0) false c (c.pass w ids dy len)){ρ:Operand->Value}{ev:Operand->D}:
 ∀{bs:List Bool} {xs:List Operand} {oc:List D},sH R (λr=>pos r ids 0) bs (xs.map ev)=some oc->(lH bs (xs.map ev)≠[]->len=true)->(∀r∈lH bs (xs.map ev),r∉ids)->(∀r∈CJ bs (xs.map ev),r∈ids)->(∀x∈xs,Rep c w (ev x) (ρ x))->kg (c.pass w ids dy len) w oc (xs.map ρ)
 |bs,[],oc,h,_,_,_,_=>by cases bs<;>(try(rename_i b bs;cases b))<;>(simp[sH]at h;subst h;trivial)
 |true::bs,x::xs,oc,h,hl,hd,hi,hr=>by
  simp only[fI,sH]at h
  simp only[fI,lH,CJ]at hl hd hi
  split at h
  ·rename_i ys hv h2
   cases h
   have hx:VRep c w (ev x) (ρ x):=Rep.toV (λds e=>by rw[e]at hv;simp[D.isVal]at hv) (λe=>by rw[e]at hv;simp[D.isVal]at hv) (hr x (by simp))
   exact⟨PW hn (flat:=False) (.inl λb hb=>.inl hb) (λr e=>hi r (by simp[e])) (λe=>e.elim) hx,L4 hm hA hn h2 hl hd (λr e=>hi r (by simp[e])) λy hy=>hr y (by simp[hy])⟩
  ·cases h
 |false::bs,x::xs,oc,h,hl,hd,hi,hr=>by
  simp only[fI,sH]at h
  simp only[fI,lH,CJ]at hl hd hi
  split at h
  ·rename_i y ys h1 h2
   cases h
   exact⟨Zrd hm hA h1 (λe=>hl (by simp[e])) (λr e=>hd r (by simp[e])) (hr x (by simp)),L4 hm hA hn h2 (λe=>hl (by simp[e])) (λr e=>hd r (by simp[e])) hi λy hy=>hr y (by simp[hy])⟩
  ·cases h
 |[],x::xs,oc,h,hl,hd,hi,hr=>by
  simp only[fI,sH]at h
  simp only[fI,lH,CJ]at hl hd hi
  split at h
  ·rename_i y ys h1 h2
   cases h
   refine⟨Zrd hm hA h1 (λe=>hl (by simp[e])) (λr e=>hd r (by simp[e])) (hr x (by simp)),L4 hm hA hn h2 (λe=>hl (by simp[e])) (λr e=>hd r (by simp[e])) (λr e=>?_) λy hy=>hr y (by simp[hy])⟩
   cases xs<;>simp[CJ]at e
  ·cases h
end
theorem UN{f:Nat->Nat}:∀{ids:List Nat} {rows:List Row} {R:Rows},ids.Nodup->ids.length<=rows.length->(∀r∈ids,r<R.length)->
 (tF f ids rows R).length=R.length/\(∀(i r:Nat),ids[i]?=some r->∃row,rows[i]?=some row/\(tF f ids rows R).getD r none=some (row.jg f true))/\∀r,r∉ids->(tF f ids rows R).getD r none=R.getD r none
 |[],rows,R,_,_,_=>by
  have:tF f [] rows R=R:=by cases rows<;>rfl
  rw[this]
  exact⟨rfl,λi r h=>by simp at h,λ_ _=>rfl⟩
 |r::ids,[],R,_,hl,_=>by simp at hl
 |r ::ids,row::rows,R,kQ,hl,bh=>by
  obtain⟨H6,Ja⟩:=List.nodup_cons.1 kQ
  obtain⟨g1,g2,g3⟩:=UN (f:=f) (ids:=ids) (rows:=rows) (R:=R.set r (some (row.jg f true))) Ja (by simpa using hl) (λq hq=>by simpa using bh q (by simp[hq]))
  have hr:=bh r (by simp)
  have YO:(R.set r (some (row.jg f true))).getD r none=some (row.jg f true):=by simp[aV,hr]
  have gu:∀q,q≠r->(R.set r (some (row.jg f true))).getD q none=R.getD q none:=λq hq=>by simp[aV,List.getElem?_set_ne (Ne.symm hq)]
  simp only[tF]
  refine⟨by simpa using g1,λi q hq=>?_,λq hq=>?_⟩
  ·cases i with
   |zero=>
    simp at hq;subst hq
    exact⟨row,rfl,by rw[g3 _ H6];exact YO⟩
   |succ i=>simpa using g2 i q (by simpa using hq)
  ·have h1:q≠r:=λe=>hq (by simp[e])
   rw[g3 q (λe=>hq (by simp[e])),gu q h1]
def Ctx.behind(c:Ctx)(w:World)(c':Ctx)(ids:List Nat)(n0:Nat)(R2:Rows):Ctx:=
 { ρ:=λr=>if n0<=r/\r<R2.length then c'.ρ (ids.length+(r-n0)) else c.ρ r,
   R:=λr=>if r∈ids\/(n0<=r/\r<R2.length) then R2.getD r none else c.R r,
   V:=λr=>if n0<=r/\r<R2.length then c'.V (ids.length+(r-n0)) else c.V r,
   I:=λb=>c.I b\/(c'.I b/\w.heap.size<=b),base:=c.base,top:=c'.top,X:=c.X}
theorem Zo5{f:Nat->Nat}{rows:List Row}:(Bh f rows)[i]?=rows[i]?.map λrow=>some (row.jg f true):=by simp[Bh]
theorem ZC{c c':Ctx}{R:Rows}{ids:List Nat}{dy aj:List Row}{len:Bool}(hm:Mem c w)(hb:c.base<=w.heap.size)(nQ:∀r row,r∈ids->R.getD r none=some row->c.R r=some row)(e6:∀r,R.length<=r->r<R.length+(aj.length-ids.length)->c.R r=none)
 (kQ:ids.Nodup) (db:Bd R (λr=>pos r ids 0) ids=some dy) (hle:ids.length<=aj.length) (hx:lL (c.pass w ids dy len) w c' w') (j7:∀i,c'.R i=aj[i]?)
 (hI:len=true->rA aj) {R2:Rows} (uw:R2=tF (bk ids R.length) ids aj R++Bh (bk ids R.length) (aj.drop ids.length)):
 (DT (λ_=>True) (bk ids R.length) true c' (c.behind w c' ids R.length R2))/\((∀b,c'.I b->(c.behind w c' ids R.length R2).I b)\/(len=true/\∀b,c'.I b->c'.base<=b->(c.behind w c' ids R.length R2).I b))/\
 Mem (c.behind w c' ids R.length R2) w'/\jc c w (c.behind w c' ids R.length R2) w'/\Fr (λb=>∃r x,c.R r=some x/\¬c.V r/\r∈ids/\c.ρ r=b) w w'/\
 (∀b,(c.behind w c' ids R.length R2).I b->c.I b\/w.heap.size<=b)/\
 (∀r,R.length<=r->r<R2.length->¬(c.behind w c' ids R.length R2).V r->w.heap.size<=(c.behind w c' ids R.length R2).ρ r):=by
 obtain⟨jn,Ao⟩:=Fa db
 have bh:∀r∈ids,r<R.length:=λr hr=>by
  obtain⟨row,h1,_⟩:=Ao _ r (Be hr)
  by_cases hl:r<R.length
  ·exact hl
  ·rw[aV,aJ (by omega)]at h1;cases h1
 obtain⟨k1,k2,k3⟩:=UN (f:=bk ids R.length) kQ hle bh
 have uY:R2.length=R.length+(aj.length-ids.length):=by rw[uw];simp[k1,Bh]
 have PG:∀r,r<R.length->R2.getD r none=(tF (bk ids R.length) ids aj R).getD r none:=λr hr=>by
  rw[uw,aV,aV,bI (by omega)]
 have YR:∀i,ids.length<=i->i<aj.length->R2.getD (R.length+(i-ids.length)) none=aj[i]?.map λrow=>row.jg (bk ids R.length) true:=λi h1 h2=>by
  rw[uw,aV,List.getElem?_append_right (by omega),Zo5,k1,show R.length+(i-ids.length)-R.length=i-ids.length by omega,fK,show ids.length+(i-ids.length)=i by omega]
  rw[aI h2];rfl
 have jh:c'.base=w.heap.size:=hx.cy.base
 have jF:∀i r ao,ids[i]?=some r->c'.R i=some ao->∃row,c.R r=some row/\ao.box=row.box/\ao.ty=row.ty/\ao.sz=row.sz/\ao.es.l.length=row.es.l.length/\c'.ρ i=c.ρ r/\(c'.V i↔c.V r)/\r<R.length/\R2.getD r none=some (ao.jg (bk ids R.length) true)/\bk ids R.length i=r/\
  (¬c.V r->∀arr,w.heap[c.ρ r]?=some (.cells arr row.ty (0,0))->∃iJ,w'.heap[c.ρ r]?=some (.cells iJ row.ty (0,0))/\iJ.size=arr.size):=by
  intro i r ao hi jk
  obtain⟨row,h1,h2⟩:=Ao i r hi
  have mm:=fN hi
  have h3:=nQ r row mm h1
  obtain⟨sE,g1,g2,g3,g4,g5,g6,gV,g7⟩:=hx.cy.R i _ (show(c.pass w ids dy len).R i=some _ from h2)
  rw[jk]at g1;cases g1
  obtain⟨s1,s2,s3,s4⟩:=Jb (λr=>pos r ids 0) false row
  obtain⟨kN,q1,q2⟩:=k2 i r hi
  rw[j7,q1]at jk;cases jk
  refine⟨row,h3,g2.trans s1,g3.trans s2,g4.trans s3,g5.trans s4,by simpa[Ctx.pass,hi]using g6,by simpa[Ctx.pass,hi]using gV,bh r mm,by rw[PG r (bh r mm)];exact q2,by simp[bk,hi],λnv arr ha=>?_⟩
  have:=g7 (by simpa[Ctx.pass,hi]using nv) arr (by simpa[Ctx.pass,hi,s2]using ha)
  simpa[Ctx.pass,hi,s2]using this
 have fresh:∀i ao,ids.length<=i->c'.R i=some ao->i<aj.length/\R2.getD (R.length+(i-ids.length)) none=some (ao.jg (bk ids R.length) true)/\bk ids R.length i=R.length+(i-ids.length)/\(¬c'.V i->w.heap.size<=c'.ρ i):=by
  intro i ao hi jk
  have h1:aj[i]?=some ao:=by rw[<-j7];exact jk
  have h2:=(List.getElem?_eq_some_iff.1 h1).1
  refine⟨h2,by rw[YR i hi h2,h1];rfl,by simp[bk,aJ hi],λnv=>?_⟩
  rcases hx.ob i ao jk nv with⟨⟨x,o7⟩,_⟩|h3
  ·have:dy[i]?=some x:=o7
   rw[aJ (by omega)]at this;cases this
  ·exact h3
 have Cy:DT (λ_=>True) (bk ids R.length) true c' (c.behind w c' ids R.length R2):=by
  refine⟨λi ao _ jk=>?_,λ_=>by rw[jh];exact hb,aX _⟩
  obtain⟨s1,s2,s3,s4⟩:=Jb (bk ids R.length) true ao
  by_cases hi:i<ids.length
  ·have iF:ids[i]?=some ids[i]:=aI hi
   obtain⟨row,g1,g2,g3,g4,g5,g6,g7,g8,g9,g10,_⟩:=jF i _ ao iF jk
   rw[g10]
   exact⟨_,by simp only[Ctx.behind];rw[if_pos (.inl (fN iF))];exact g9,s1,s2,s3,s4,by simp only[Ctx.behind];rw[if_neg (by omega),g6],by simp only[Ctx.behind];rw[if_neg (by omega)];exact g7.symm⟩
  ·obtain⟨h1,h2,h3,h4⟩:=fresh i ao (by omega) jk
   rw[h3]
   have hc:R.length<=R.length+(i-ids.length)/\R.length+(i-ids.length)<R2.length:=by omega
   have he:ids.length+(R.length+(i-ids.length)-R.length)=i:=by omega
   exact⟨_,by simp only[Ctx.behind];rw[if_pos (.inr hc)];exact h2,s1,s2,s3,s4,by simp only[Ctx.behind];rw[if_pos hc,he],by simp only[Ctx.behind];rw[if_pos hc,he]⟩
 have CK:(∀b,c'.I b->(c.behind w c' ids R.length R2).I b)\/(len=true/\∀b,c'.I b->c'.base<=b->(c.behind w c' ids R.length R2).I b):=by
  cases hl:len with
  |false=>
   refine .inl λb ij=>?_
   rcases hx.fg b ij with h1|h1
   ·rcases h1 with h1|⟨h1,_⟩
    ·exact .inl h1
    ·rw[hl]at h1;cases h1
   ·exact .inr ⟨ij,h1⟩
  |true=>exact .inr ⟨rfl,λb ij hbb=>.inr ⟨ij,by omega⟩⟩
 have BL:Fr (λb=>∃r x,c.R r=some x/\¬c.V r/\r∈ids/\c.ρ r=b) w w':=hx.fr.mono λb _ ⟨i,x,h1,h2,h3⟩=>by
  have rU:dy[i]?=some x:=h1
  have hi:i<ids.length:=by have:=(List.getElem?_eq_some_iff.1 rU).1;omega
  have iF:ids[i]?=some ids[i]:=aI hi
  obtain⟨row,g1,g2⟩:=Ao i _ iF
  exact⟨_,row,nQ _ row (fN iF) g1,by simpa[Ctx.pass,iF]using h2,fN iF,by simpa[Ctx.pass,iF]using h3⟩
 have inv:∀r x,(c.behind w c' ids R.length R2).R r=some x->(∃i ao,c'.R i=some ao/\x=ao.jg (bk ids R.length) true/\(c.behind w c' ids R.length R2).ρ r=c'.ρ i/\((c.behind w c' ids R.length R2).V r↔c'.V i)/\(r∈ids/\ids[i]?=some r/\(c.behind w c' ids R.length R2).ρ r=c.ρ r/\((c.behind w c' ids R.length R2).V r↔c.V r)\/R.length<=r/\ids.length<=i/\r=R.length+(i-ids.length)))\/
  (c.R r=some x/\r∉ids/\(c.behind w c' ids R.length R2).ρ r=c.ρ r/\((c.behind w c' ids R.length R2).V r↔c.V r)/\¬(R.length<=r/\r<R2.length)):=by
  intro r x jM
  by_cases mm:r∈ids
  ·left
   have hp:=Be mm
   obtain⟨kN,q1,q2⟩:=k2 _ r hp
   have sF:c'.R (pos r ids 0)=some kN:=by rw[j7];exact q1
   obtain⟨row,g1,g2,g3,g4,g5,g6,g7,g8,g9,g10,_⟩:=jF _ r kN hp sF
   simp only[Ctx.behind]at jM
   rw[if_pos (.inl mm),g9]at jM
   cases jM
   have e1:(c.behind w c' ids R.length R2).ρ r=c.ρ r:=by simp only[Ctx.behind];rw[if_neg (by omega)]
   have e2:(c.behind w c' ids R.length R2).V r↔c.V r:=by simp only[Ctx.behind];rw[if_neg (by omega)]
   exact⟨_,kN,sF,rfl,by rw[e1,g6],by rw[e2,g7],.inl ⟨mm,hp,e1,e2⟩⟩
  ·by_cases hc:R.length<=r/\r<R2.length
   ·left
    have hi:ids.length+(r-R.length)<aj.length:=by omega
    have sF:c'.R (ids.length+(r-R.length))=some aj[ids.length+(r-R.length)]:=by rw[j7];exact aI hi
    obtain⟨h1,h2,h3,h4⟩:=fresh _ _ (by omega) sF
    simp only[Ctx.behind]at jM
    rw[if_pos (.inr hc)]at jM
    rw[show R.length+(ids.length+(r-R.length)-ids.length)=r by omega]at h2
    rw[h2]at jM
    cases jM
    exact⟨_,_,sF,rfl,by simp only[Ctx.behind];rw[if_pos hc],by simp only[Ctx.behind];rw[if_pos hc],.inr ⟨hc.1,by omega,by omega⟩⟩
   ·right
    simp only[Ctx.behind]at jM
    rw[if_neg (by rintro(h|h)<;>contradiction)]at jM
    exact⟨jM,mm,by simp only[Ctx.behind];rw[if_neg hc],by simp only[Ctx.behind];rw[if_neg hc],hc⟩
 have pP:jc c w (c.behind w c' ids R.length R2) w':=by
  refine⟨rfl,hx.cy.top,λb ij=>⟨.inl ij,?_⟩,λr row hr=>?_⟩
  ·exact(hx.cy.I b (.inl ij)).2
  ·by_cases mm:r∈ids
   ·have hp:=Be mm
    obtain⟨kN,q1,q2⟩:=k2 _ r hp
    have sF:c'.R (pos r ids 0)=some kN:=by rw[j7];exact q1
    obtain⟨jK,g1,g2,g3,g4,g5,g6,g7,g8,g9,g10,g11⟩:=jF _ r kN hp sF
    rw[hr]at g1;cases g1
    obtain⟨s1,s2,s3,s4⟩:=Jb (bk ids R.length) true kN
    exact⟨_,by simp only[Ctx.behind];rw[if_pos (.inl mm)];exact g9,s1.trans g2,s2.trans g3,s3.trans g4,s4.trans g5,by simp only[Ctx.behind];rw[if_neg (by omega)],by simp only[Ctx.behind];rw[if_neg (by omega)],g11⟩
   ·have hc:¬(R.length<=r/\r<R2.length):=λhc=>by rw[e6 r hc.1 (by omega)]at hr;cases hr
    refine⟨row,by simp only[Ctx.behind];rw[if_neg (by rintro(h|h)<;>contradiction)];exact hr,rfl,rfl,rfl,rfl,by simp only[Ctx.behind];rw[if_neg hc],by simp only[Ctx.behind];rw[if_neg hc],λnv arr ha=>⟨arr,?_,rfl⟩⟩
    rw[BL.heap _ (hm.lt hr nv) fun⟨s,x,h1,h2,h3,h4⟩=>mm (by rw[<-hm.inj s r x row h1 hr h2 nv h4];exact h3)]
    exact ha
 refine⟨Cy,CK,⟨λr x jM=>?_,λr s x y hr hs v1 v2 he=>?_,λb ij=>?_,hx.mem.top,hm.jZ.mono pP.I⟩,pP,BL,λb ij=>?_,λr h1 h2 h3=>?_⟩
 ·rcases inv r x jM with⟨i,ao,h1,rfl,h3,h4,_⟩|⟨h1,h2,h3,h4,h5⟩
  ·refine YS Cy CK h3 h4 (λ_ _ _ _ _=>trivial) (λhf=>?_) (hx.mem.row i ao h1)
   exact Zqr (hI hf) (by rw[<-j7];exact h1)
  ·exact tk pP h3 h4 (λnv=>BL.heap _ (hm.lt h1 nv) fun⟨s,x',g1,g2,g3,g4⟩=>h2 (by rw[<-hm.inj s r x' x g1 h1 g2 nv g4];exact g3)) (hm.row r x h1)
 ·have G8:∀i ao,c'.R i=some ao->¬c'.V i->(∃q,q∈ids/\ids[i]?=some q/\(∃y,c.R q=some y)/\¬c.V q/\c'.ρ i=c.ρ q)\/w.heap.size<=c'.ρ i:=λi ao h1 nv=>by
   by_cases hi:i<ids.length
   ·have iF:ids[i]?=some ids[i]:=aI hi
    obtain⟨row,g1,g2,g3,g4,g5,g6,g7,_⟩:=jF i _ ao iF h1
    exact .inl ⟨_,fN iF,iF,⟨row,g1⟩,λe=>nv (g7.2 e),g6⟩
   ·exact .inr ((fresh i ao (by omega) h1).2.2.2 nv)
  rcases inv r x hr with⟨i,x',h1,_,h3,h4,h5⟩|⟨h1,h2,h3,h4,h5⟩<;>rcases inv s y hs with⟨j,y',g1,_,g3,g4,g5⟩|⟨g1,g2,g3,g4,g5⟩
  ·have:i=j:=hx.mem.inj i j x' y' h1 g1 (λe=>v1 (h4.2 e)) (λe=>v2 (g4.2 e)) (by rw[<-h3,<-g3];exact he)
   subst this
   rcases h5 with⟨_,q1,_⟩|⟨_,q1,q2⟩<;>rcases g5 with⟨_,p1,_⟩|⟨_,p1,p2⟩
   ·rw[q1]at p1;exact Option.some.inj p1
   ·have:=(List.getElem?_eq_some_iff.1 q1).1;omega
   ·have:=(List.getElem?_eq_some_iff.1 p1).1;omega
   ·omega
  ·exfalso
   have nv:=λe=>v1 (h4.2 e)
   have ns:=λe=>v2 (g4.2 e)
   rw[h3,g3]at he
   rcases G8 i x' h1 nv with⟨q,q1,q2,⟨z,q3⟩,q4,q5⟩|q
   ·exact g2 (by rw[<-hm.inj q s z y q3 g1 q4 ns (by rw[<-q5];exact he)];exact q1)
   ·have:=hm.lt g1 ns;omega
  ·exfalso
   have nv:=λe=>v2 (g4.2 e)
   have ns:=λe=>v1 (h4.2 e)
   rw[h3,g3]at he
   rcases G8 j y' g1 nv with⟨q,q1,q2,⟨z,q3⟩,q4,q5⟩|q
   ·exact h2 (by rw[<-hm.inj q r z x q3 h1 q4 ns (by rw[<-q5];exact he.symm)];exact q1)
   ·have:=hm.lt h1 ns;omega
  ·exact hm.inj r s x y h1 g1 (λe=>v1 (h4.2 e)) (λe=>v2 (g4.2 e)) (by rw[<-h3,<-g3];exact he)
 ·rcases ij with ij|⟨ij,gl⟩
  ·refine⟨Nat.lt_of_lt_of_le (hm.fg b ij).1 BL.size,λr x hr v=>?_⟩
   rcases inv r x hr with⟨i,x',h1,_,h3,h4,h5⟩|⟨h1,h2,h3,h4,h5⟩
   ·have:=(hx.mem.fg b ((hx.cy.I b (.inl ij)).1)).2 i x' h1 (λe=>v (h4.2 e))
    rw[h3];exact this
   ·rw[h3];exact(hm.fg b ij).2 r x h1 (λe=>v (h4.2 e))
  ·refine⟨(hx.mem.fg b ij).1,λr x hr v=>?_⟩
   rcases inv r x hr with⟨i,x',h1,_,h3,h4,h5⟩|⟨h1,h2,h3,h4,h5⟩
   ·rw[h3];exact(hx.mem.fg b ij).2 i x' h1 (λe=>v (h4.2 e))
   ·have:=hm.lt h1 (λe=>v (h4.2 e))
    rw[h3];omega
 ·rcases ij with h|⟨_,h⟩
  ·exact .inl h
  ·exact .inr h
 ·have hi:ids.length+(r-R.length)<aj.length:=by omega
  have sF:c'.R (ids.length+(r-R.length))=some aj[ids.length+(r-R.length)]:=by rw[j7];exact aI hi
  obtain⟨_,_,_,h4⟩:=fresh _ _ (by omega) sF
  simp only[Ctx.behind,if_pos (show R.length<=r/\r<R2.length from⟨h1,h2⟩)]at h3⊢
  exact h4 h3
theorem YZ(args:List D):CJ [] args=[]:=by cases args<;>rfl
theorem Zlu(R:Rows)(args:List D):mu R [] args=[]:=by
 unfold mu;rw[YZ];rfl
theorem YV{x:bd}(dx:bn P x){f:FuncId}(hf:x.f=f)(hy:x.f<YB){pos:String}{guard:Option (Nat×Bool)}
 (h:Calls P x.f (args.toList.map a.eval).toArray w λe w'=>∃v,e=.returned v/\K (a.put dst v) w'):(⟨dst,.call ⟨.value (.func f),args,dj⟩,type,pos,after,guard⟩:Oper).nd P a w K Q:=by
 have il:(execOp a.eval (⟨dst,.call ⟨.value (.func f),args,dj⟩,type,pos,after,guard⟩:Oper)).run P w=.ok (.enter f (args.toList.map a.eval).toArray) w:=by
  simp only[execOp,resolve,Act.eval,Deferred.ofValue,Sem.run_bind,Sem.run_pure,Result.andThen_ok,invoke,Array.empty_append,Array.append_empty]
  rw[<-hf,dx.enters hy,<-bV,bW]
 unfold Oper.nd
 rw[il]
 show Calls P f _ w _
 rw[<-hf]
 exact h
theorem xT (hG:jD P G){f:FuncId}{guard:Option (Nat×Bool)}{R:Rows}{K:D->Rows->Prop}
    (lM:oX G f=none) (h:sM G f (args.toList.map ev) R K): ∃val R' x,K val R'/\oF G f=some x/\Ek P ⟨dst, .call ⟨.value (.func f),args,dj⟩,type,pos',after,guard⟩ ev R val R'/\(x.refs=[]->pI P ⟨dst, .call ⟨.value (.func f),args,dj⟩,type,pos',after,guard⟩ ev R val R'):=by
  unfold sM at h
  split at h
  . rename_i x hx
    have u6:x.gone=none:=by simpa [oX,hx] using lM
    obtain⟨dx,hf⟩:=FZ hG hx
    split at h
    . rename_i az dy has iS
      simp only[dd,Bool.or_eq_true,aE]at h
      obtain⟨⟨⟨Fj,h1,h2⟩,h3,h4⟩,h⟩:=h
      generalize Jc:mu R x.refs (args.toList.map ev)=ids at*
      have uy:=L2.1 h1
      have jn:=L2.1 h2
      have kQ:=L3.1 h3
      have ov:=Un.1 h4
      have main : ∀res aj,ids.length<=aj.length->K (res.sL (bk ids R.length) true) (tF (bk ids R.length) ids aj R++Bh (bk ids R.length) (aj.drop ids.length))->ku P x.f az dy res aj->(x.flat=true->FF res/\rA aj)->
          ∃val R' y,K val R'/\oF G f=some y/\Ek P ⟨dst, .call ⟨.value (.func f),args,dj⟩,type,pos',after,guard⟩ ev R val R'/\(y.refs=[]->pI P ⟨dst, .call ⟨.value (.func f),args,dj⟩,type,pos',after,guard⟩ ev R val R'):=by
        intro res aj hle hK hA jx
        let len:=match lH x.refs (args.toList.map ev) with|[]=>false|_=>true
        have hlen:lH x.refs (args.toList.map ev)≠[]->len=true:=by
          intro gu
          show(match lH x.refs (args.toList.map ev) with|[]=>false|_=>true)=true
          split
          . contradiction
          . rfl
        have wI:len=true->x.flat=true:=by
          intro hl
          rcases Fj with h|h
          . exact h.1
          . exfalso
            have hl:(match lH x.refs (args.toList.map ev) with|[]=>false|_=>true)=true:=hl
            split at h
            . rename_i e;rw[e]at hl;cases hl
            . cases h
        have core: ∀(c:Ctx) (w:World) (a:Act),Mem c w->c.base<=w.heap.size->mf c R->(∀r row,r∈ids->R.getD r none=some row->c.R r=some row)->(∀r,R.length<=r->r<R.length+(aj.length-ids.length)->c.R r=none)->(∀y∈args.toList,Rep c w (ev y) (a.eval y))->
            ∀(K':Act->World->Prop) (Q:Exit->Act->World->Prop),(∀v w' c',lL (c.pass w ids dy len) w c' w'->(∀i,c'.R i=aj[i]?)->Rep (c.behind w c' ids R.length (tF (bk ids R.length) ids aj R++Bh (bk ids R.length) (aj.drop ids.length))) w' (res.sL (bk ids R.length) true) v->K' (a.put dst v) w')->
            (⟨dst, .call ⟨.value (.func f),args,dj⟩,type,pos',after,guard⟩:Oper).nd P a w K' Q:=by
          intro c w a hm hb oW nQ e6 eh K' Q pX
          have hn:=Ut (len:=len) (w:=w) nQ iS
          have fu:=L4 (len:=len) (ρ:=a.eval) hm oW hn has hlen ov uy eh
          have mj:=hA (c.pass w ids dy len) w _ (YT hm nQ kQ jn iS) rfl (λr=>rfl) fu
          refine YV dx hf (dx.real u6) (mj.mono λe w' sG=> ?_)
          obtain⟨v,c',he,nA,j7,kL⟩:=sG
          obtain⟨g1,g2,_⟩:=ZC hm hb nQ e6 kQ iS hle nA j7 (λe=>(jx (wI e)).2) rfl
          exact⟨v,he,pX v w' c' nA j7 (YU g1 g2 (λ_=>trivial) (λe=>(jx (wI e)).1) kL)⟩
        have je: ∀(c:Ctx) (w:World) (a:Act),(∀y∈(⟨dst, .call ⟨.value (.func f),args,dj⟩,type,pos',after,guard⟩:Oper).op.operands,Rep c w (ev y) (a.eval y))-> ∀y∈args.toList,Rep c w (ev y) (a.eval y):=λc w a eh y hy=>eh y (by simp [Op.operands,Call.operands];exact .inr (by simpa using hy))
        refine⟨_,_,x,hK,hx,λc w a hm hb hR eh K' Q pX=> ?_,λhrefs=> ?_⟩
        . have oW:mf c R:=λr row ao g1 g2=>by rw[hR,g2]at g1;exact(Option.some.inj g1).symm
          have nQ: ∀r row,r∈ids->R.getD r none=some row->c.R r=some row:=λr row _ e=>by rw[hR];exact e
          have e6: ∀r,R.length<=r->r<R.length+(aj.length-ids.length)->c.R r=none:=λr e _=>by rw[hR,aV,aJ e];rfl
          refine core c w a hm hb oW nQ e6 (je c w a eh) K' Q λv w' c' nA j7 kL=> ?_
          obtain⟨g1,g2,g3,g4,g5,g6,g7⟩:=ZC hm hb nQ e6 kQ iS hle nA j7 (λe=>(jx (wI e)).2) rfl
          have uY:(tF (bk ids R.length) ids aj R).length=R.length:=(UN kQ hle (λr hr=>by
            obtain⟨row,q1,_⟩:=(Fa iS).2 _ r (Be hr)
            by_cases hl:r<R.length
            . exact hl
            . rw[aV,aJ (by omega)]at q1;cases q1)).1
          have iw:=UN (f:=bk ids R.length) kQ hle (λr hr=>by
            obtain⟨row,q1,_⟩:=(Fa iS).2 _ r (Be hr)
            by_cases hl:r<R.length
            . exact hl
            . rw[aV,aJ (by omega)]at q1;cases q1)
          refine pX v w' _ ⟨g3,g4,g5.mono λb _ ⟨r,y,k1,k2,_,k4⟩=>⟨r,y,k1,k2,k4⟩,g6,λr ao hr hv=> ?_⟩ (λr=> ?_) kL
          . by_cases hc:R.length<=r/\r<(tF (bk ids R.length) ids aj R++Bh (bk ids R.length) (aj.drop ids.length)).length
            . exact .inr (g7 r hc.1 hc.2 hv)
            . left
              simp only[Ctx.behind,if_neg hc]at hv⊢
              refine⟨?_,hv,trivial⟩
              simp only[Ctx.behind]at hr
              split at hr
              . rename_i G9
                rcases G9 with G9|G9
                . obtain⟨row,q1,_⟩:=(Fa iS).2 _ r (Be G9)
                  exact⟨row,nQ r row G9 q1⟩
                . contradiction
              . exact⟨_,hr⟩
          . simp only[Ctx.behind]
            split
            . rfl
            . rename_i G9
              have h1:r∉ids:=λe=>G9 (.inl e)
              by_cases bh:r<R.length
              . rw[aV,bI (by omega),<-aV,iw.2.2 r h1,hR]
              . rw[hR,aV,aJ (by omega),aV,aJ (by
                  by_cases h2:r<(tF (bk ids R.length) ids aj R++Bh (bk ids R.length) (aj.drop ids.length)).length
                  . exact(G9 (.inr ⟨by omega,h2⟩)).elim
                  . omega)]
        . have PX:ids=[]:=by rw[<-Jc,hrefs];exact Zlu R _
          subst PX
          have uD:tF (bk [] R.length) [] aj R=R:=by cases aj<;>rfl
          rw[uD]
          simp only[dE,fU]at*
          refine⟨⟨_,rfl⟩,λc w a hm hb oW e6 eh K' Q pX=> ?_⟩
          have nQ: ∀r row,r∈([]:List Nat)->R.getD r none=some row->c.R r=some row:=λr row e=>by cases e
          have Ha: ∀r,R.length<=r->r<R.length+(aj.length-0)->c.R r=none:=λr e1 e2=>e6 r e1 (by simp [Bh];omega)
          refine core c w a hm hb oW nQ Ha (je c w a eh) K' Q λv w' c' nA j7 kL=> ?_
          obtain⟨g1,g2,g3,g4,g5,g6,g7⟩:=ZC hm hb nQ Ha kQ iS hle nA j7 (λe=>(jx (wI e)).2) rfl
          rw[uD]at g3 g4 g6 g7 kL
          simp only[dE,fU]at g3 g4 g6 g7 kL
          refine pX v w' _ ⟨g3,g4,g5.mono (λb _ ⟨r,y,k1,k2,k3,k4⟩=>(by cases k3)),g6,λr=> ?_,λr hr=> ?_,λr k1 k2=>g7 r k1 k2⟩ kL
          . simp [Ctx.behind]
          . simp only[Ctx.behind]
            rw[if_neg (by omega),if_neg (by omega)]
            exact⟨rfl,Iff.rfl⟩
      split at h
      . rename_i res aj hm
        simp only[DX,dd,D.c7,nf]at h
        obtain⟨h5,h6⟩:=dx.ok u6 _ _ _ _ hm
        exact main res aj (lE h.1) h.2 h5 h6
      . rename_i p res aj hm
        simp only[DX,dd,D.c7,nf]at h
        obtain⟨h5,h6⟩:=dx.when u6 _ _ _ _ _ hm h.1
        exact main res aj (lE h.2.1) h.2.2 h5 h6
      . rename_i α v res aj hm
        have h:=h v rfl
        simp only[DX,dd,D.c7,nf]at h
        obtain⟨h5,h6⟩:=dx.abs u6 _ _ _ _ _ _ hm
        exact main (res v) (aj v) (lE h.1) h.2 h5 h6
      . rename_i p α v res aj hm
        obtain⟨hp,h⟩:=h
        have h:=h v rfl
        simp only[DX,dd,D.c7,nf]at h
        obtain⟨h5,h6⟩:=dx.lr u6 _ _ _ _ _ _ _ hm hp
        exact main (res v) (aj v) (lE h.1) h.2 h5 h6
      . exact h.elim
    . exact h.elim
  . exact h.elim
theorem Zcl{f:Nat->Nat}:∀{ds:List D},UO ds=true->D.my f true ds=ds
 |[],_=>rfl
 |d ::l,h=>by
  simp only[UO]at h
  split at h
  ·rename_i hd
   simp only[D.my,Zcl h]
   cases d<;>first|(simp[PY]at hd;done)|simp[D.mw]
  ·cases h
theorem Zkj{f:Nat->Nat}(h:sN d=true):d.jg f true=d:=by
 cases d with
 |agg cs=>show D.agg (D.my f true cs)=_;rw[Zcl h]
 |_=>first|(simp[sN,PY]at h;done)|simp[D.jg,D.mw]
theorem Zc3{f:Nat->Nat}:∀{ds:List D},UP ds=true->D.Aw f true ds=ds
 |[],_=>rfl
 |d ::l,h=>by
  simp only[UP]at h
  split at h
  ·rename_i hd
   simp only[D.Aw,Zc3 h,Zkj hd]
  ·cases h
theorem Zt5{f:Nat->Nat}(h:uE d=true):d.sL f true=d:=by
 cases d with
 |dw ds=>show D.dw (D.Aw f true ds)=_;rw[Zc3 h]
 |agg cs=>exact Zkj (d:=.agg cs) h
 |_=>first|(simp[uE,sN,PY]at h;done)|simp[D.sL,D.jg,D.mw]
theorem YY{R:Rows}(f g:Nat->Nat):∀{ds:List D},sH R f [] ds=sH R g [] ds
 |[]=>rfl
 |d::l=>by simp only[sH,YY f g (ds:=l)]
theorem zT{G:List bd}{f:FuncId}{args:List D}{R:Rows}{K:D->Rows->Prop}(h:Ka G f args R K):sM G f args R K:=by
 unfold Ka at h
 split at h
 ·rename_i x hx
  split at h
  ·rename_i hrefs
   split at h
   ·rename_i az has
    simp only[dd]at h
    have hv:∀{res:D} {aj:List Row},Mc R res aj K->DX R [] res aj K:=by
     intro res aj h
     have uD:tF (bk [] R.length) [] aj R=R:=by cases aj<;>rfl
     simp only[DX,dd,dE,fU,uD]
     refine⟨by simp,?_⟩
     unfold Mc at h
     split at h
     ·simp only[dd,D.c7]at h
      rw[Zt5 h.1]
      simp only[D.c7,nf,Bh,List.map_nil,List.append_nil]
      exact h.2
     ·exact h
    unfold sM
    simp only[hx,hrefs,Zlu]
    rw[YY _ (λr=>r),has]
    simp only[Bd,dd,YZ]
    refine⟨?_,?_⟩
    ·have:∀l:List Nat,pq l []=true:=λl=>by
      rw[Un];intro r _ hr;cases hr
     simp only[px,CA,CI,this,Bool.and_true]
     have h1:=h.1
     revert h1
     cases lH [] args<;>simp[CL]
    ·revert h
     cases x.m az []with
     |no=>exactλh=>h.2
     |ok res aj=>exactλh=>hv h.2
     |«when»p res aj=>exactλh=>⟨h.2.1,hv h.2.2⟩
     |abs α v res aj=>exactλh X hX=>hv (h.2 X hX)
     |lr p α v res aj=>exactλh=>⟨h.2.1,λX hX=>hv (h.2.2 X hX)⟩
   ·exact h.elim
  ·exact h
 ·exact h.elim
theorem Wh(hG:jD P G){f:FuncId}{guard:Option (Nat×Bool)}{R:Rows}{K:D->Rows->Prop}
 (lM:oX G f=none) (h:Ka G f (args.toList.map ev) R K):∃val R' x,K val R'/\oF G f=some x/\Ek P ⟨dst,.call ⟨.value (.func f),args,dj⟩,type,pos',after,guard⟩ ev R val R'/\(x.refs=[]->pI P ⟨dst,.call ⟨.value (.func f),args,dj⟩,type,pos',after,guard⟩ ev R val R'):=
 xT hG lM (zT h)

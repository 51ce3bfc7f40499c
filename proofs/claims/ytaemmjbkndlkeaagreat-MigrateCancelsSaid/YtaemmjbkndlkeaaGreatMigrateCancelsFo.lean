import Derived.Test.YtaemmjbkndlkeaaGreatMigrateCancelsFp
open List renaming getD->aV,getElem?_eq_none->aJ,getElem?_append_left->bI,getElem?_take->aF,getElem?_drop->fI,getElem?_eq_getElem->aI,getElem?_toArray->bH,map_cons->fG,map_toArray->bV,mem_cons->cQ,mem_map->fR,mem_of_getElem?->fL,length_nil->dE,drop_zero->fS
open Nat renaming le_refl->aX,zero_add->bG,add_assoc->fP
open Option renaming getD_some->aR
open Bool renaming false_eq_true->aA
open Array renaming toArray_toList->bW,extract_eq_self_of_le->fQ
set_option linter.all false
namespace Go.GD
open Go
variable {G:List bc}{I I':ab}{K:Act->World->Prop}{P:Program}{Q:Exit->Act->World->Prop}{a:Act}{after:Array Edge}{args:Array Operand}{d d' val:D}{dst:Option Tmp}{ev:Operand->D}{i:Nat}{pos':String}{row:Row}{type:TypeId}{dv:Array TypeId}{v:Value}{vs:List Value}{w w':World}
structure Km(c:Ctx)(w:World)(R R':Rows)(c':Ctx)(w':World):Prop where
 mem:Mem c' w'
 db:jh c w c' w'
 fr:Fr (λ_=>False) w w'
 fq:∀b,c'.I b->c.I b\/w.heap.size<=b
 rows:∀r,c'.R r=if R.length<=r/\r<R'.length then R'.getD r none else c.R r
 jI:∀r,r<R.length\/R'.length<=r->c'.ρ r=c.ρ r/\(c'.V r↔c.V r)
 new:∀r,R.length<=r->r<R'.length->¬c'.V r->w.heap.size<=c'.ρ r
structure lO(c:Ctx)(w:World)(c':Ctx)(w':World):Prop where
 mem:Mem c' w'
 db:jh c w c' w'
 fr:Fr (λb=>∃r x,c.R r=some x/\¬c.V r/\c.ρ r=b) w w'
 fq:∀b,c'.I b->c.I b\/w.heap.size<=b
 ov:∀r ao,c'.R r=some ao->¬c'.V r->((∃row,c.R r=some row)/\¬c.V r/\c'.ρ r=c.ρ r)\/w.heap.size<=c'.ρ r
def P2(P:Program)(o:Oper)(a:Act)(next:Act->World->Prop):Result Next->Prop
 |.ok (.value v) w'=>next (a.put o.dst v) w'
 |.ok .skip w'=>next (a.put o.dst undef) w'
 |.ok (.enter f args) w'=>Calls P f args w' λe Hd=>∃v,e=.returned v/\next (a.put o.dst v) Hd
 |.ok (.round l f tmps assign body) w'=>RoundIn Fence.wide 0 P l f tmps assign body w' λe Hd=>∃v,e=.returned v/\next (a.put o.dst v) Hd
 |_=>False
def _root_.Go.Oper.nu(P:Program)(o:Oper)(a:Act)(w:World)(next:Act->World->Prop)(_:Exit->Act->World->Prop):Prop:=P2 P o a next ((execOp a.eval o).run P w)
theorem Gm{o:Oper}{u:Value}(h:(execOp a.eval o).run P w=.ok (.value u) w')(hK:K (a.put o.dst u) w'):o.nu P a w K Q:=by
 unfold Oper.nu;rw[h];exact hK
theorem yS{o:Oper}(h:(execOp a.eval o).run P w=.ok .skip w')(hK:K (a.put o.dst undef) w'):o.nu P a w K Q:=by
 unfold Oper.nu;rw[h];exact hK
theorem Zh{P:Program}{o:Oper}{a:Act}{w:World}{K K':Act->World->Prop}{Q Q':Exit->Act->World->Prop}(h:∀a w,K a w->K' a w)(hh:o.nu P a w K Q):o.nu P a w K' Q':=by
 unfold Oper.nu at hh⊢
 revert hh
 generalize(execOp a.eval o).run P w=r
 intro hh
 cases r with
 |halt _ _=>exact hh.elim
 |ok n w'=>
  cases n with
  |value v=>exact h _ _ hh
  |skip=>exact h _ _ hh
  |enter f args=>exact Calls.mono hh λe w' ⟨v,he,hk⟩=>⟨v,he,h _ _ hk⟩
  |round l f tmps assign body=>exact RoundIn.mono hh λe w' ⟨v,he,hk⟩=>⟨v,he,h _ _ hk⟩
  |_=>exact hh.elim
def pW(P:Program)(o:Oper)(ev:Operand->D)(R:Rows)(val:D)(R':Rows):Prop:=
 (∃news,R'=R++news)/\∀(c:Ctx) (w:World) (a:Act),Mem c w->c.base<=w.heap.size->mn c R->(∀r,R.length<=r->r<R'.length->c.R r=none)->(∀x∈o.op.operands,Rep c w (ev x) (a.eval x))->
  ∀K Q,(∀v w' c',Km c w R R' c' w'->Rep c' w' val v->K (a.put o.dst v) w')->o.nu P a w K Q
def Ew(P:Program)(o:Oper)(ev:Operand->D)(R:Rows)(val:D)(R':Rows):Prop:=
 ∀ (c:Ctx) (w:World) (a:Act),Mem c w->c.base<=w.heap.size->(∀r,c.R r=R.getD r none)->(∀x∈o.op.operands,Rep c w (ev x) (a.eval x))->
  ∀K Q,(∀v w' c',lO c w c' w'->(∀r,c'.R r=R'.getD r none)->Rep c' w' val v->K (a.put o.dst v) w')->o.nu P a w K Q
theorem pW.toW{o:Oper}{R:Rows}{R':Rows}(h:pW P o ev R val R'):Ew P o ev R val R':=by
 obtain⟨⟨news,hn⟩,h⟩:=h
 intro c w a hm hb hR fe K Q hK
 refine h c w a hm hb (λr row ao h1 h2=>by rw[hR,h2]at h1;exact(Option.some.inj h1).symm) (λr h1 _=>by rw[hR];simp[aV,aJ h1]) fe K Q λv w' c' hs hr=>?_
 refine hK v w' c' ⟨hs.mem,hs.db,hs.fr.mono (λb _ hf=>hf.elim),hs.fq,λr ao pT hv=>?_⟩ (λr=>?_) hr
 ·by_cases h1:R.length<=r/\r<R'.length
  ·exact .inr (hs.new r h1.1 h1.2 hv)
  ·rw[hs.rows,if_neg h1]at pT
   obtain⟨h2,h3⟩:=hs.jI r (by omega)
   exact .inl ⟨⟨_,pT⟩,λe=>hv (h3.2 e),h2⟩
 ·rw [hs.rows,hR]
  split
  ·rfl
  ·rename_i h1
   subst hn
   by_cases h2:r<R.length
   ·simp[aV,bI h2]
   ·have h3:(R++news).length<=r:=by omega
    simp[aV,aJ h3,aJ (show R.length<=r by omega)]
theorem mK{o:Oper}{R:Rows}(h:∀(c:Ctx) (w:World) (a:Act),Mem c w->mn c R->(∀x∈o.op.operands,Rep c w (ev x) (a.eval x))->∃u,(execOp a.eval o).run P w=.ok (.value u) w/\Rep c w val u):pW P o ev R val R:=by
 refine⟨⟨[],by simp⟩,λc w a hm hb hA _ fe K Q hK=>?_⟩
 obtain⟨u,hu,hr⟩:=h c w a hm hA fe
 exact Gm hu (hK u w c ⟨hm,jh.refl c w,Fr.refl _ w,λb hb=>.inl hb,λr=>by rw[if_neg (by omega)],λ_ _=>⟨rfl,Iff.rfl⟩,λr h1 h2=>by omega⟩ hr)
theorem P3{o:Oper}{R:Rows}(h:∀(c:Ctx) (w:World) (a:Act),Mem c w->mn c R->(∀x∈o.op.operands,Rep c w (ev x) (a.eval x))->
 ∃x:Sem Value,execOp a.eval o=(do pure (.value (<-x)))/\P4 P x w c R.length row val):pW P o ev R val (R++[some row]):=by
 refine⟨⟨[some row],rfl⟩,λc w a hm hb hA fj fe K Q hK=>?_⟩
 obtain⟨x,hx,u,arr,hu,hi,hr⟩:=h c w a hm hA fe
 have hk:c.R R.length=none:=fj R.length (aX _) (by simp)
 have iy:(execOp a.eval o).run P w=.ok (.value u) (w.alloc (.cells arr row.ty)):=by
  rw[hx,Sem.run_bind,hu];rfl
 refine Gm iy (hK u _ (c.add R.length row w.heap.size) ⟨hm.alloc hk row arr hi.1 hi.2,jh.alloc hm hk row _,Fr.alloc _ w _,λb hb=>.inl hb,λr=>?_,λr hr=>?_,λr h1 h2 _=>?_⟩ (hr hk hm))
 ·by_cases e:r=R.length
  ·subst e
   simp[Ctx.add,aV]
  ·have:¬(R.length<=r/\r<(R++[some row]).length):=by simp;omega
   rw[if_neg this]
   simp[Ctx.add,e]
 ·have:r≠R.length:=by simp at hr;omega
  simp[Ctx.add,this]
 ·have:r=R.length:=by simp at h2;omega
  simp[Ctx.add,this]
def Gl:Op->Bool|.store _ _ _=>true|_=>false
theorem Zsx{c:Ctx}{cs:List D}(h:jr c w cs vs)(o n:Nat):jr c w ((cs.drop o).take n) ((vs.drop o).take n):=by
 rw[Eg]at h⊢
 obtain⟨h1,h2⟩:=h
 refine⟨by simp[h1],λj v hv=>?_⟩
 simp only[aF,fI]at hv
 split at hv
 ·rename_i hj
  have:=h2 (o+j) v hv
  simp only[aV,aF,fI,hj,if_true]at this⊢
  exact this
 ·cases hv
theorem z8{c:Ctx}:∀{dv:List tI} {az:List D} {vs:List Value},jr c w az vs->fits dv az=true->rj vs.toArray 0 az
 |dv,az,vs,h,hf=>by
  intro j d hj
  have bg:=(List.getElem?_eq_some_iff.1 hj).1
  have hl:=h.length
  have hv:vs[j]?=some vs[j]:=aI (by omega)
  have hr:=(Eg.1 h).2 j _ hv
  simp only[aV,hj,aR]at hr
  have hs :∀{dv:List tI} {az:List D} {j:Nat},fits dv az=true->az[j]?=some d->(∃k n,d=.int k n)\/(∃b,d=.bool b)\/∃s,d=.str s:=by
   intro dv
   induction dv with
   |nil=>intro az j hf hj;cases az<;>simp[fits]at hf;simp at hj
   |cons t ts ih=>
    intro az j hf hj
    cases az with
    |nil=>cases t<;>simp[fits]at hf
    |cons e es=>
     cases t<;>simp only[fits,aE,aA]at hf
     all_goals
      cases j with
      |succ j=>exact ih hf.2 (by simpa using hj)
      |zero=>
       simp at hj
       subst hj
       cases e<;>simp[D.isInt,D.isBool,D.isStr]at hf⊢
  simp only[bG,bH,hv]
  rcases hs hf hj with⟨k,n,rfl⟩|⟨b,rfl⟩|⟨s,rfl⟩<;>(simp only[dk]at hr;rw[hr];rfl)
theorem ZG{c:Ctx}{w:World}:∀{ds:List D} {vs:List Value},ki c w ds vs->∀i,i<ds.length->∃v,vs[i]?=some v/\VRep c w (ds.getD i .dead) v
 |[],[],_,i,h=>by simp at h
 |d::ds,v::vs,h,0,_=>⟨v,rfl,h.1⟩
 |d::ds,v::vs,h,i+1,hi=>by
  obtain⟨u,hu,hr⟩:=ZG h.2 i (by simpa using hi)
  exact⟨u,by simpa using hu,by simpa using hr⟩
 |[],_::_,h,_,_=>h.elim
 |_::_,[],h,_,_=>h.elim
theorem qar{x:iJ}(h:CS d=some x):x.d=d:=by
 have go:∀{cs:List iJ} {ps:List (Nat×Nat×Nat)},P5 cs=some ps->ps.map HY=cs:=by
  intro cs
  induction cs with
  |nil=>intro ps h;simp[P5]at h;subst h;rfl
  |cons y l ih=>
   intro ps h
   simp only[P5]at h
   split at h
   ·rename_i p qs h1 h2
    cases h
    simp only[fG,ih h2]
    cases y<;>simp[Hh]at h1
    subst h1;rfl
   ·cases h
 cases d<;>simp only[CS]at h<;>first|(cases h;done)|skip
 case gx f cs=>
  split at h
  ·rename_i ps hp;cases h;simp only[iJ.d,go hp]
  ·cases h
 all_goals(cases h;rfl)
theorem WL{c:Ctx}{w:World}{ev:Operand->D}{ρ:Operand->Value}:∀{xs:List Operand} {cs:List iJ},KB (xs.map ev)=some cs->(∀x∈xs,Rep c w (ev x) (ρ x))->oR c w cs (xs.map ρ)
 |[],cs,h,_=>by simp[KB]at h;subst h;trivial
 |x ::xs,cs,h,hr=>by
  simp only[fG,KB]at h
  split at h
  ·rename_i y ys h1 h2
   cases h
   refine⟨?_,WL h2 λz hz=>hr z (by simp[hz])⟩
   have:=hr x (by simp)
   rw[<-qar h1]at this
   rw[Wu]
   cases y<;>exact this
  ·cases h
theorem Np{T:iG}(hT:jm P T)(o:Oper)(ev:Operand->D)(R:Rows)(K:D->Rows->Prop)(h:im T o.op ev R K):
 ∃val R',K val R'/\(if Gl o.op then Ew P o ev R val R' else pW P o ev R val R'):=by
 obtain⟨dst,op,type,pos,after,guard⟩:=o
 simp only at h
 cases op<;>(try simp only[im]at h)<;>try(exact h.elim)
 case makeFunc fn first captured=>
  cases fn<;>simp only at h<;>try(exact h.elim)
  rename_i f
  simp only[dm,aE]at h
  obtain⟨⟨h0,hy⟩,h⟩:=h
  split at h
  ·rename_i cs hc
   refine⟨_,_,h,mK λc w a hm hA fe=>?_⟩
   have hf:first= #[]:=Array.eq_empty_of_size_eq_zero (bE h0)
   subst hf
   refine⟨.func (.func f) #[] (captured.map a.eval),?_,captured.toList.map a.eval,?_,WL hc λx hx=>fe x (by simp[Op.operands];simpa using hx)⟩
   ·simp only[execOp,Instr.makeFunc,Sem.run_bind,Sem.run_pure,Array.map_empty];rfl
   ·exact .inl ⟨lE hy,by rw[<-bV,bW]⟩
  ·exact h.elim
 case move x=>
  rw[D.dd]at h
  exact⟨_,_,h,mK λc w a hm hA fe=>⟨_,rfl,fe x (by simp[Op.operands])⟩⟩
 case assign x=>
  rw[D.dd]at h
  exact⟨_,_,h,mK λc w a hm hA fe=>⟨_,rfl,fe x (by simp[Op.operands])⟩⟩
 case alloc t=>
  split at h
  ·rename_i ht
   simp only[dm,aE,KA]at h
   obtain⟨⟨h0,hl⟩,h⟩:=h
   exact⟨_,_,h,P3 λc w a hm hA fe=>⟨_,rfl,Zq6 hT ht (lE h0) (bE hl) R.length c w⟩⟩
  ·exact h.elim
 case box t x=>
  split at h
  ·rename_i ht
   simp only[dm,aE,KA,D.fk]at h
   obtain⟨⟨⟨h0,hv⟩,hl⟩,h⟩:=h
   exact⟨_,_,h,P3 λc w a hm hA fe=>⟨_,rfl,xaI (lE h0) hv (bE hl) R.length c w (fe x (by simp[Op.operands]))⟩⟩
  ·exact h.elim
 case build t parts=>
  obtain⟨val,hK,hr⟩:=yT hT h
  refine⟨_,_,hK,mK λc w a hm hA fe=>?_⟩
  obtain⟨u,hu,hx⟩:=hr c w a.eval (λp hp=>fe p.2 (by simp[Op.operands];exact⟨p.1,by simpa using hp⟩))
  refine⟨u,?_,hx⟩
  simp only[execOp]
  rw[Sem.run_bind,show parts.map (λx=>(x.1,a.eval x.2))=(parts.toList.map λp=>(p.1,a.eval p.2)).toArray from by rw[<-bV,bW],hu]
  rfl
 case buildSlice t len parts=>
  obtain⟨h1,h2⟩:=ZH.1 h
  cases hl:UZ t len
  rotate_left
  ·obtain⟨row,val,hK,hr⟩:=Zog hT (h1 hl)
   refine⟨_,_,hK,P3 λc w a hm hA fe=>⟨_,?_,hr c w a.eval (λp hp=>fe p.2 (by simp[Op.operands];exact⟨p.1,by simpa using hp⟩))⟩⟩
   simp only[execOp]
   rw[show parts.map (λx=>(x.1,a.eval x.2))=(parts.toList.map λp=>(p.1,a.eval p.2)).toArray from by rw[<-bV,bW]]
  have h:=h2 hl
  obtain⟨val,hK,hr⟩:=Zrw hT h
  refine⟨_,_,hK,⟨[],by simp⟩,λc w a hm hb hA _ fe K Q hK=>?_⟩
  obtain⟨u,arr,ty,hu,hx⟩:=hr c w a.eval hb (λp hp=>fe p.2 (by simp[Op.operands];exact⟨p.1,by simpa using hp⟩))
  have iy:(execOp a.eval (⟨dst,.buildSlice t len parts,type,pos,after,guard⟩:Oper)).run P w=.ok (.value u) (w.alloc (.cells arr ty)):=by
   simp only[execOp]
   rw[Sem.run_bind,show parts.map (λx=>(x.1,a.eval x.2))=(parts.toList.map λp=>(p.1,a.eval p.2)).toArray from by rw[<-bV,bW],hu]
   rfl
  exact Gm iy (hK u _ (c.fq w.heap.size) ⟨xaq hm _,UY hm _,Fr.alloc _ w _,λb hb=>hb.elim .inl (λe=>.inr (by omega)),λr=>by rw[if_neg (by omega)];rfl,λ_ _=>⟨rfl,Iff.rfl⟩,λr h1 h2=>by omega⟩ (hx hm))
 case load t x=>
  obtain⟨val,hK,hr⟩:=Zhd hT h
  refine⟨_,_,hK,mK λc w a hm hA fe=>?_⟩
  obtain⟨u,hu,hx⟩:=hr c w _ hm hA (fe x (by simp[Op.operands]))
  exact⟨u,by simp only[execOp];rw[Sem.run_bind,hu];rfl,hx⟩
 case store t x y=>
  obtain⟨R',hK,hr⟩:=Zsr hT h
  refine⟨_,_,hK,?_⟩
  simp only[Gl,if_true]
  intro c w a hm hb hR fe K Q hK
  obtain⟨r,ao,arr,w',iy,YW,⟨row,dc⟩,hV,hg,mu,j8⟩:=hr c w _ _ hm hR (fe x (by simp[Op.operands])) (fe y (by simp[Op.operands]))
  refine yS (w':=w') ?_ (hK undef w' _ ⟨mu,hg,?_,λb hb=>.inl hb,λs sQ hs hv=>?_⟩ j8 trivial)
  ·simp only[execOp];rw[Sem.run_bind,iy];rfl
  rotate_left
  ·by_cases e:s=r
   ·exact .inl ⟨⟨row,by rw[e];exact dc⟩,hv,rfl⟩
   ·exact .inl ⟨⟨sQ,by simpa[Ctx.jV,e]using hs⟩,hv,rfl⟩
  ·rw[YW]
   exact(Sy w _ arr).mono λb _ e=>⟨r,row,dc,hV,e.symm⟩
 case nilCheck x=>
  have go:∀d,ev x=d->(∃a b c,d=.ptr a b c)\/(∃a b c e,d=.iC a b c e)->K d R->∃val R',K val R'/\pW P ⟨dst,.nilCheck x,type,pos,after,guard⟩ ev R val R':=by
   intro d hd P6 hK
   refine⟨_,_,hK,mK λc w a hm hA fe=>?_⟩
   have hx:=fe x (by simp[Op.operands])
   rw[hd]at hx
   have hp:∃q,a.eval x=.pointer (some q):=by
    rcases P6 with⟨r,i,off,rfl⟩|⟨sz,es,i,off,rfl⟩
    ·obtain⟨_,_,_,_,hv⟩:=hx;exact⟨_,hv⟩
    ·obtain⟨_,_,_,_,_,hv,_⟩:=hx;exact⟨_,hv⟩
   obtain⟨q,hq⟩:=hp
   refine⟨a.eval x,?_,hx⟩
   simp only[execOp,hq,Sem.run_pure]
  split at h
  ·rename_i hd;exact go _ hd (.inl ⟨_,_,_,rfl⟩) h
  ·rename_i hd;exact go _ hd (.inr ⟨_,_,_,_,rfl⟩) h
  ·exact h.elim
 case binOp op t x y ty=>
  have fin:∀(val:D),(∀c w u v,Rep c w (ev x) u->Rep c w (ev y) v->∃z,(do eqGuard op t x y u v;binOp op t u v).run P w=.ok z w/\Rep c w val z)->pW P ⟨dst,.binOp op t x y ty,type,pos,after,guard⟩ ev R val R:=λval hv=>
   mK λc w a hm hA fe=>by
    obtain⟨z,hz,hr⟩:=hv c w _ _ (fe x (by simp[Op.operands])) (fe y (by simp[Op.operands]))
    refine⟨z,?_,hr⟩
    simp only[execOp]
    rw[Sem.run_bind,hz];rfl
  unfold sV at h
  split at h
  ·rename_i k a k' b hx hy
   split at h
   ·simp only[dm,decide_eq_true_eq]at h
    refine⟨_,_,h.2,fin _ λc w u v hu hv=>?_⟩
    rw[hx]at hu;rw[hy]at hv
    rw[Rep.int.1 hu,Rep.int.1 hv]
    exact⟨_,by rw[Sem.run_bind,ZI];exact(Zk1 h.1 w).1,rfl⟩
   ·simp only[dm,decide_eq_true_eq]at h
    refine⟨_,_,h.2,fin _ λc w u v hu hv=>?_⟩
    rw[hx]at hu;rw[hy]at hv
    rw[Rep.int.1 hu,Rep.int.1 hv]
    exact⟨_,by rw[Sem.run_bind,ZI];exact(Zk1 h.1 w).2,rfl⟩
   ·rename_i h1 h2
    simp only[dm,decide_eq_true_eq]at h
    obtain⟨rfl,h⟩:=h
    obtain⟨d,hK,hr⟩:=zar (P:=P) (t:=t) ⟨λe=>h1 e,λe=>h2 e⟩ h
    refine⟨_,_,hK,fin _ λc w u v hu hv=>?_⟩
    rw[hx]at hu;rw[hy]at hv
    rw[Rep.int.1 hu,Rep.int.1 hv]
    obtain⟨z,hz,ZJ⟩:=hr w
    exact⟨z,by rw[Sem.run_bind,ZI];exact hz,ZJ c⟩
  ·rename_i a b hx hy
   obtain⟨d,hK,hr⟩:=xar (P:=P) (t:=t) (op:=op) (a:=a) (b:=b) (K:=λd=>K d R) h
   refine⟨_,_,hK,fin _ λc w u v hu hv=>?_⟩
   rw[hx]at hu;rw[hy]at hv
   rw[Rep.str.1 hu,Rep.str.1 hv]
   obtain⟨z,hz,ZJ⟩:=hr w
   exact⟨z,by rw[Sem.run_bind,Znh];exact hz,ZJ c⟩
  ·rename_i a b hx hy
   split at h
   ·rename_i ht
    have hd:=mJ hT ht
    simp only at hd
    split at h
    ·refine⟨_,_,h,fin _ λc w u v hu hv=>?_⟩
     rw[hx]at hu;rw[hy]at hv
     rw[Rep.bool.1 hu,Rep.bool.1 hv]
     refine⟨_,?_,rfl⟩
     rw[Sem.run_bind,Z2h]
     simp only[binOp]
     simp[Op.equal,Op.maxDepth,run_equalIn_bool' w 9999 t a b hd]
    ·refine⟨_,_,h,fin _ λc w u v hu hv=>?_⟩
     rw[hx]at hu;rw[hy]at hv
     rw[Rep.bool.1 hu,Rep.bool.1 hv]
     refine⟨_,?_,rfl⟩
     rw[Sem.run_bind,Z2h]
     simp only[binOp]
     simp[Op.equal,Op.maxDepth,run_equalIn_bool' w 9999 t a b hd]
    ·exact h.elim
   ·exact h.elim
  ·rename_i a b hx hy
   split at h
   ·rename_i ti ht
    simp only[dm,aE]at h
    obtain⟨⟨⟨⟨⟨CR,h0⟩,he⟩,fa⟩,fb⟩,h⟩:=h
    obtain⟨i0,pQ,BK,_,Kr,Ai,_,heq,hc,d0,Fu⟩:=DG (hT.get ht)
    have h0:0<ti.size:=lE h0
    rw[heq]at he
    simp only[aE,Bool.not_eq_true']at he
    rw[hc]at fa fb
    have kC:P.cellsOf t=(mi P 8 t).length:=by rw[<-hc,Kr];simp[Program.cellsOf,pQ,BK]
    have uB:0<P.cellsOf t:=by simp[Program.cellsOf,pQ,BK,h0]
    have P7:∀c w u v,Rep c w (ev x) u->Rep c w (ev y) v->∃us vs:Array Value,u=.agg us/\v=.agg vs/\(Op.equalIn 10000 t (.agg us) (.agg vs)).run P w=.ok (eqs a b) w:=by
     intro c w u v hu hv
     rw[hx]at hu;rw[hy]at hv
     obtain⟨us,hu,ru⟩:=hu
     obtain⟨vs,hv,rv⟩:=hv
     refine⟨us.toArray,vs.toArray,hu,hv,?_⟩
     have JA:=ZK (P:=P) 8 t 10000 (by omega) he.2 kC uB us.toArray vs.toArray 0 a b w fa fb (z8 ru fa) (z8 rv fb)
     have hlu:=ru.length;have hlv:=rv.length
     have hla:=sW fa;have ZL:=sW fb
     have uw:P0 d0=true:=by rw[<-Ms Fu,<-Ai];exact CR
     simp only[oI,Sem.run_bind,U0 Fu uw uB,Result.andThen_ok]at JA
     rw[show us.toArray.extract 0 (0+P.cellsOf t)=us.toArray from by apply fQ;simp;omega,show vs.toArray.extract 0 (0+P.cellsOf t)=vs.toArray from by apply fQ;simp;omega]at JA
     exact JA
    split at h
    ·refine⟨_,_,h,fin _ λc w u v hu hv=>?_⟩
     obtain⟨us,vs,rfl,rfl,hr⟩:=P7 c w u v hu hv
     refine⟨_,?_,rfl⟩
     rw[Sem.run_bind,run_eqGuard_agg w _ _ _ _ _ _ he.1,Result.andThen_ok,run_eql_struct,hr];rfl
    ·refine⟨_,_,h,fin _ λc w u v hu hv=>?_⟩
     obtain⟨us,vs,rfl,rfl,hr⟩:=P7 c w u v hu hv
     refine⟨_,?_,rfl⟩
     rw[Sem.run_bind,run_eqGuard_agg w _ _ _ _ _ _ he.1,Result.andThen_ok,run_neq_struct,hr];rfl
    ·exact h.elim
   ·exact h.elim
  ·exact h.elim
 case unOp op t x=>
  split at h
  ·rename_i k n hx
   refine⟨_,_,h,mK λc w a hm hA fe=>?_⟩
   have:=fe x (by simp[Op.operands])
   rw[hx]at this
   exact⟨_,by simp only[execOp,Rep.int.1 this,Op.unary,Op.intArith,Sem.run_bind,Sem.run_pure];rfl,rfl⟩
  ·rename_i k n hx
   refine⟨_,_,h,mK λc w a hm hA fe=>?_⟩
   have:=fe x (by simp[Op.operands])
   rw[hx]at this
   exact⟨_,by simp only[execOp,Rep.int.1 this,Op.unary,Op.intBits,Sem.run_bind,Sem.run_pure];rfl,rfl⟩
  ·rename_i b hx
   refine⟨_,_,h,mK λc w a hm hA fe=>?_⟩
   have:=fe x (by simp[Op.operands])
   rw[hx]at this
   exact⟨_,by simp only[execOp,Rep.bool.1 this,Op.unary,Sem.run_bind,Sem.run_pure];rfl,rfl⟩
  ·exact h.elim
 case convert s d x=>
  obtain⟨val,hK,hr⟩:=qas hT h
  refine⟨_,_,hK,mK λc w a hm hA fe=>?_⟩
  obtain⟨u,hu,hx⟩:=hr c w _ (fe x (by simp[Op.operands]))
  exact⟨u,by simp only[execOp];rw[Sem.run_bind,hu];rfl,hx⟩
 case makeSlice t l cp=>
  split at h
  ·rename_i kl n kc m hl hc
   obtain⟨row,val,hK,hr⟩:=qv (kl:=kl) (kc:=kc) hT h
   refine⟨_,_,hK,P3 λc w a hm hA fe=>⟨_,rfl,?_⟩⟩
   have h1:=fe l (by simp[Op.operands]);have h2:=fe cp (by simp[Op.operands])
   rw[hl]at h1;rw[hc]at h2
   rw[Rep.int.1 h1,Rep.int.1 h2]
   exact hr c w
  ·exact h.elim
 case slice t x lo hi mx=>
  cases mx with
  |some m=>simp only at h
  |none=>
   simp only at h
   obtain⟨val,hK,hr⟩:=zT hT h
   refine⟨_,_,hK,mK λc w a hm hA fe=>?_⟩
   obtain⟨u,hu,hx⟩:=hr c w _ a.eval hm hA (fe x (by simp[Op.operands])) (λy hy=>fe y (by simp[Op.operands,hy])) (λy hy=>fe y (by simp[Op.operands,hy]))
   exact⟨u,by simp only[execOp];rw[Sem.run_bind];simp only[Option.map_none];rw[hu];rfl,hx⟩
 case fieldAddr s x f=>
  split at h
  ·rename_i o q n hf
   simp only[dm]at h
   obtain⟨h0,h⟩:=h
   have h0:0<n:=lE h0
   obtain⟨fs,fd,g1,g2,g3,g4,g5⟩:=Z1c hT hf
   split at h
   ·rename_i r i off hx
    refine⟨_,_,h,mK λc w a hm hA fe=>?_⟩
    have:=fe x (by simp[Op.operands])
    rw[hx]at this
    obtain⟨row,k1,kV,k2,hv⟩:=this
    refine⟨_,by simp only[execOp,hv];rw[Sem.run_bind,Z7t g1 g2 (by simp only at g5;omega)];rfl,row,k1,kV,k2,by rw[g3,fP]⟩
   ·rename_i sz es i off hx
    refine⟨_,_,h,mK λc w a hm hA fe=>?_⟩
    have:=fe x (by simp[Op.operands])
    rw[hx]at this
    obtain⟨b,oo,arr,ty,fz,hv,hI,hi,hh,hE⟩:=this
    refine⟨_,by simp only[execOp,hv];rw[Sem.run_bind,Z7t g1 g2 (by simp only at g5;omega)];rfl,b,oo,arr,ty,fz,by rw[g3,fP],hI,hi,hh,hE⟩
   ·exact h.elim
  ·exact h.elim
 case field s x f=>
  split at h
  ·rename_i o q n hf
   obtain⟨fs,fd,g1,g2,g3,g4,g5⟩:=Z1c hT hf
   simp only at g4 g5
   split at h
   ·rename_i cs ti hx ht
    simp only[dm,aE]at h
    obtain⟨⟨h0,hle⟩,h⟩:=h
    have h0:0<n:=lE h0
    have hle:=lE hle
    obtain⟨_,_,_,_,_,Ai,_,_,_,d0,Fu⟩:=DG (hT.get ht)
    have run:∀(vs:List Value) (w:World) (r:Value),(part q vs.toArray o).run P w=.ok r w->(Instr.field s (.agg vs.toArray) f).run P w=.ok r w:=λvs w r hr=>by
     simp only[Instr.field,Sem.run_bind,run_underlying g1,Result.andThen_ok,g2,asAgg,Sem.run_pure,g4,g3,hr]
    split at h
    ·rename_i CR
     rw[D.fk]at h
     refine⟨_,_,h,mK λc w a hm hA fe=>?_⟩
     have:=fe x (by simp[Op.operands])
     rw[hx]at this
     obtain⟨vs,hv,hr⟩:=this
     have hp:=U0 (P:=P) Fu (by rw[<-Ms Fu,<-Ai];exact CR) (by rw[<-g4,g5];exact h0) vs.toArray o w
     refine⟨_,by simp only[execOp,hv];rw[Sem.run_bind,run vs w _ hp];rfl,(vs.drop o).take n,?_,Zsx hr o n⟩
     rw[<-g4,g5]
     congr 1
     simp[List.extract_toArray,List.extract_eq_take_drop]
    ·rename_i CR
     simp only[D.dd]at h
     obtain⟨wR,h⟩:=h
     refine⟨_,_,h,mK λc w a hm hA fe=>?_⟩
     have:=fe x (by simp[Op.operands])
     rw[hx]at this
     obtain⟨vs,hv,hr⟩:=this
     have hl:=hr.length
     have iF:vs[o]?=some vs[o]:=aI (by omega)
     have hp:=Hi (P:=P) (t:=q) Fu (by rw[<-Ms Fu,<-Ai];exact CR) (xs:=vs.toArray) (o:=o) (v:=vs[o]) (by rw[bH];exact iF) w
     refine⟨_,by simp only[execOp,hv];rw[Sem.run_bind,run vs w _ hp];rfl,?_⟩
     have hc:=(Eg.1 hr).2 o _ iF
     generalize cs.getD o .dead=d at*
     cases d<;>first|exact hc|trivial|exact hc.elim
   ·exact h.elim
  ·exact h.elim
 case indexAddr t x ix=>
  split at h
  ·rename_i k n hn
   obtain⟨val,hK,hr⟩:=Ztd (k:=k) hT h
   refine⟨_,_,hK,mK λc w a hm hA fe=>?_⟩
   have h2:=fe ix (by simp[Op.operands])
   rw[hn]at h2
   obtain⟨u,hu,hx⟩:=hr c w _ hm hA (fe x (by simp[Op.operands]))
   exact⟨u,by simp only[execOp,Rep.int.1 h2];rw[Sem.run_bind,hu];rfl,hx⟩
  ·exact h.elim
 case index t x ix=>
  split at h
  ·rename_i s k n ht hx hn
   have hd:=mJ hT ht
   simp only at hd
   simp only[dm,decide_eq_true_eq]at h
   obtain⟨⟨h1,h2⟩,h⟩:=h
   refine⟨_,_,h,mK λc w a hm hA fe=>?_⟩
   have e1:=fe x (by simp[Op.operands]);have e2:=fe ix (by simp[Op.operands])
   rw[hx]at e1;rw[hn]at e2
   refine⟨_,?_,rfl⟩
   have bg:n.toNat<s.length:=by omega
   have hg:(ByteArray.mk s.toArray)[n.toNat]?=some (s.getD n.toNat 0):=by
    have h3:n.toNat<(ByteArray.mk s.toArray).size:=by simpa[ByteArray.size]using bg
    rw[getElem?_pos (ByteArray.mk s.toArray) n.toNat h3]
    simp only[aV,aI bg,aR]
    rfl
   simp only[execOp,Rep.str.1 e1,Rep.int.1 e2,Instr.index,asIntOf,Sem.run_bind,Sem.run_pure,Result.andThen_ok,run_underlying hd,h1,if_true,hg]
  ·rename_i len e iQ _ _ _ _ _ cs k n ht hx hn
   have hd:=mJ hT ht
   simp only at hd
   obtain⟨hd,gd⟩:=hd
   simp only[dm,aE,decide_eq_true_eq]at h
   obtain⟨⟨q1,q2,q3,q4⟩,h⟩:=h
   have q1:=bE q1
   have q2:=bE q2
   have run:∀(vs:List Value) (v:Value) (w:World) (d:TypeDesc),P.underlying e=some d->P0 d=false->vs[n.toNat]?=some v->(Instr.index t (.agg vs.toArray) (.int k n)).run P w=.ok v w:=λvs v w d hu hda hv=>by
    have h0:0<P.cellsOf e:=by omega
    simp only[Instr.index,asIntOf,Sem.run_bind,Sem.run_pure,Result.andThen_ok,run_underlying hd,Sem.run_ite,q3,q4,and_self,if_true,AI h0]
    rw[gd,q1,Nat.mul_one]
    exact Hi hu hda (by rw[bH];exact hv) w
   have cell:∀(c:Ctx) (w:World) (a:Act),Rep c w (.agg cs) (a.eval x)->∃vs:List Value,a.eval x=.agg vs.toArray/\∃v,vs[n.toNat]?=some v/\dk c w (cs.getD n.toNat .dead) v:=λc w a hr=>by
    obtain⟨vs,hv,hr⟩:=hr
    have hl:=hr.length
    have iF:vs[n.toNat]?=some vs[n.toNat]:=aI (by omega)
    exact⟨vs,hv,_,iF,(Eg.1 hr).2 _ _ iF⟩
   split at h
   ·rename_i kk _ _ _ _ _ he
    have hu:=mJ hT he
    simp only at hu
    obtain⟨h1,h⟩:=h
    refine⟨_,_,h,mK λc w a hm hA fe=>?_⟩
    have e1:=fe x (by simp[Op.operands]);have e2:=fe ix (by simp[Op.operands])
    rw[hx]at e1;rw[hn]at e2
    obtain⟨vs,hv,v,g1,g2⟩:=cell c w a e1
    have hi:=UT h1 (n:=n.toNat) (by omega)
    rw[bG]at hi
    rw[D.kf hi]at g2
    refine⟨v,?_,?_⟩
    ·simp only[execOp,Rep.int.1 e2,hv]
     rw[Sem.run_bind,run vs v w _ hu rfl g1];rfl
    ·rw[UR (show n.toNat<len by omega),bG]
     exact g2
   ·rename_i he
    have hu:=mJ hT he
    simp only at hu
    obtain⟨h1,h⟩:=h
    refine⟨_,_,h,mK λc w a hm hA fe=>?_⟩
    have e1:=fe x (by simp[Op.operands]);have e2:=fe ix (by simp[Op.operands])
    rw[hx]at e1;rw[hn]at e2
    obtain⟨vs,hv,v,g1,g2⟩:=cell c w a e1
    have hi:=UU h1 (n:=n.toNat) (by omega)
    rw[bG]at hi
    rw[D.kg hi]at g2
    refine⟨v,?_,?_⟩
    ·simp only[execOp,Rep.int.1 e2,hv]
     rw[Sem.run_bind,run vs v w _ hu rfl g1];rfl
    ·rw[US (show n.toNat<len by omega),bG]
     exact g2
   ·exact h.elim
  ·exact h.elim
 case extract x i=>
  split at h
  ·rename_i ds hx
   simp only[dm,D.dd]at h
   obtain⟨hv,h⟩:=h
   refine⟨_,_,h,mK λc w a hm hA fe=>?_⟩
   have:=fe x (by simp[Op.operands])
   rw[hx]at this
   obtain⟨vs,BR,hr⟩:=this
   have bg:i<ds.length:=by
    by_cases hl:i<ds.length
    ·exact hl
    ·rw[aV,aJ (by omega)]at hv;simp[D.isVal]at hv
   obtain⟨v,Wb,hvr⟩:=ZG hr i bg
   refine⟨v,?_,?_⟩
   ·simp only[execOp,BR,Instr.extract,bH,Wb];rfl
   ·generalize ds.getD i .dead=d at*
    cases d<;>first|exact hvr|trivial|exact hvr.elim
  ·exact h.elim
 case call cl=>
  obtain⟨callee,args,dv⟩:=cl
  cases callee<;>try(simp only at h)
  case builtin b=>
  cases b<;>try(simp only at h)
  case len=>
   split at h
   ·rename_i x t hx ht
    obtain⟨val,hK,hr⟩:=zaI (t':=type) hT h
    refine⟨_,_,hK,mK λc w a hm hA fe=>?_⟩
    have gh:args= #[x]:=by rw[<-bW (xs:=args),hx]
    have uo:dv= #[t]:=by rw[<-bW (xs:=dv),ht]
    subst gh;subst uo
    obtain⟨u,hu,hx⟩:=hr c w _ hm hA (fe x (by simp[Op.operands,Call.operands]))
    refine⟨u,?_,hx⟩
    simp only[execOp,resolve,Sem.run_bind,Sem.run_pure,Result.andThen_ok,invoke,builtin]
    have:(#[x]:Array Operand).map a.eval= #[a.eval x]:=by simp
    rw[this,hu];rfl
   ·exact h.elim
def Ctx.kill(c:Ctx)(ks:List Nat):Ctx:={c with R:=λr=>if cw r ks=true then none else(c.R r).map (Row.kill ks)}
structure jP(ks:List Nat)(c:Ctx)(w:World)(c':Ctx)(w':World):Prop where
 mem:Mem c' w'
 db:jh (c.kill ks) w c' w'
 fr:Fr (λb=>∃r x,c.R r=some x/\¬c.V r/\c.ρ r=b) w w'
 fq:∀b,c'.I b->c.I b\/(∃s row,cw s ks=true/\c.R s=some row/\¬c.V s/\c.ρ s=b)\/w.heap.size<=b
 ov:∀r ao,c'.R r=some ao->¬c'.V r->((∃row,c.R r=some row)/\¬c.V r/\c'.ρ r=c.ρ r)\/(∃s row,cw s ks=true/\c.R s=some row/\¬c.V s/\c'.ρ r=c.ρ s)\/w.heap.size<=c'.ρ r
def kG(P:Program)(f:FuncId)(args:List D)(rows:List Row)(res:D)(aj:List Row):Prop:=
 ∀ (c:Ctx) (w:World) (vs:List Value),Mem c w->c.base=w.heap.size->(∀r,c.R r=rows[r]?)->ki c w args vs->
  Calls P f vs.toArray w λe w'=>∃v c',e=.returned v/\lO c w c' w'/\(∀r,c'.R r=aj[r]?)/\Rep c' w' res v
def Gc(P:Program)(I:ab)(f:FuncId)(vs:List Value)(w:World)(R:Ending->World->Prop):Prop:=
 (f<YB->Calls P f vs.toArray w R)/\
 (YB<=f->∀l rec xs us,vs=xs++us->I l->w.heap[l]?=some (.loop rec)->P8 f us rec->xs.length=1->
  RoundIn Fence.wide 0 P l rec.fn ((rec.params.zip xs.toArray).foldl (λtmps (t,a)=>tmps.setIfInBounds t a) rec.tmps) rec.assign rec.body w R)
theorem Gc.mono{f:FuncId}{R R':Ending->World->Prop}(h:Gc P I f vs w R)(hI:∀b,I' b->I b)(hR:∀e w',R e w'->R' e w'):Gc P I' f vs w R':=
 ⟨λhf=>(h.1 hf).mono hR,λhf l rec xs us h1 h2 h3 h4 h5=>(h.2 hf l rec xs us h1 (hI l h2) h3 h4 h5).mono hR⟩
theorem Gc.real{f:FuncId}{R:Ending->World->Prop}(hf:f<YB)(h:Calls P f vs.toArray w R):Gc P I f vs w R:=⟨λ_=>h,λhg=>absurd hf (Nat.not_lt.2 hg)⟩
def tV(P:Program)(f:FuncId)(k:Nat)(args:List D)(rows:List Row)(res:D)(aj:List Row):Prop:=
 ∀ (c:Ctx) (w:World) (vs:List Value),Mem c w->c.base=0->(∀r,c.R r=rows[r]?)->ki c w args vs->
  Gc P c.I f vs w λe w'=>∃v c',e=.returned v/\jP (List.range' k (rows.length-k)) c w c' w'/\(∀r,c'.R r=aj[r]?)/\Rep c' w' res v
def ng:D->Prop|.int _ _=>True|.bool _=>True|.str _=>True|.de=>True|.iO=>True|.emp=>True|_=>False
def CT.ng:CT->Bool|.int _=>true|.bool=>true|.str=>true|_=>false
def RK.ng(k:RK):Bool:=k.sig.all CT.ng
def ai.Fv:ai->Prop
 |.gen es=>∀e∈es,∀d∈e,ng d
 |.ah k _=>k.ng=true
 |_=>True
theorem Zcm:∀{ts:List CT} {cs:List D} {j:Nat},ts.all CT.ng=true->∀d∈wg ts cs j,ng d
 |[],_,_,_,d,h=>by simp[wg]at h
 |t ::ts,cs,j,ht,d,h=>by
  simp only[List.all_cons,aE]at ht
  simp only[wg,cQ]at h
  rcases h with h|h
  ·subst h
   cases t<;>first|trivial|(simp[CT.ng]at ht)
  ·exact Zcm ht.2 d h
theorem ai.CU{E:ai}(h:E.Fv):∀e∈E.l,∀d∈e,ng d:=by
 cases E with
 |gen es=>exact h
 |ints k l=>
  intro e he d hd
  simp only[ai.l,fR]at he
  obtain⟨n,_,rfl⟩:=he
  simp at hd
  subst hd;trivial
 |ag l=>
  intro e he d hd
  simp only[ai.l,fR]at he
  obtain⟨n,_,rfl⟩:=he
  simp at hd
  subst hd;trivial
 |ah k l=>
  intro e he d hd
  simp only[ai.l,fR]at he
  obtain⟨x,_,rfl⟩:=he
  rw[<-RK.ou]at hd
  exact Zcm h d hd
def P9:D->Prop
 |.sl _ es fr=>(es.Nil\/fr=true)/\es.Fv
 |.iC _ _ _ _=>False
 |.gx _ _=>False
 |_=>True
def Mv:List D->Prop
 |[]=>True
 |d::ds=>P9 d/\Mv ds
def U1:D->Prop
 |.agg cs=>Mv cs
 |d=>P9 d
def Fw:List D->Prop
 |[]=>True
 |d::ds=>U1 d/\Fw ds
def FF:D->Prop
 |.ee ds=>Fw ds
 |d=>U1 d
def JB(row:Row):Prop:=if row.box then∀e∈row.es.l,Mv e else row.es.Fv
def rM:List Row->Prop
 |[]=>True
 |r::l=>JB r/\rM l
structure bm(P:Program)(x:bc):Prop where
 enters:x.f<YB->∀args w,(callFunc x.f args).run P w=.ok (.enter x.f args) w
 real:x.gone=none->x.f<YB
 ok:x.gone=none->∀args rows res aj,x.m args rows=.ok res aj->kG P x.f args rows res aj/\(x.flat=true->FF res/\rM aj)
 when:x.gone=none->∀args rows p res aj,x.m args rows=.when p res aj->p->kG P x.f args rows res aj/\(x.flat=true->FF res/\rM aj)
 abs:x.gone=none->∀args rows α v res aj,x.m args rows=.abs α v res aj->kG P x.f args rows (res v) (aj v)/\(x.flat=true->FF (res v)/\rM (aj v))
 lB:x.gone=none->∀args rows p α v res aj,x.m args rows=.lB p α v res aj->p->kG P x.f args rows (res v) (aj v)/\(x.flat=true->FF (res v)/\rM (aj v))
 PX:∀k,x.gone=some k->∀args rows α v res aj,x.m args rows=.abs α v res aj->tV P x.f k args rows (res v) (aj v)
 Hc:∀k,x.gone=some k->∀args rows p α v res aj,x.m args rows=.lB p α v res aj->p->tV P x.f k args rows (res v) (aj v)
def jF(P:Program)(G:List bc):Prop:=∀x∈G,bm P x
theorem Gk{P:Program}:∀{G:List bc} {f:FuncId} {x:bc},jF P G->oV G f=some x->bm P x/\x.f=f
 |[],f,x,_,h=>by simp[oV]at h
 |y ::l,f,x,hG,h=>by
  simp only[oV]at h
  split at h
  ·rename_i hb
   simp at h;subst h
   exact⟨hG y (by simp),bE hb⟩
  ·exact Gk (λz hz=>hG z (by simp[hz])) h
theorem Zpg:∀{rows:List Row} {i:Nat} {row:Row},rM rows->rows[i]?=some row->JB row
 |r::l,0,row,h,hi=>by simp at hi;subst hi;exact h.1
 |r::l,i+1,row,h,hi=>Zpg h.2 (by simpa using hi)
 |[],i,row,_,hi=>by simp at hi
theorem oa{r:Nat}:∀{l:List Nat},cw r l=true↔r∈l
 |[]=>by simp[cw]
 |x ::l=>by
  simp only[cw]
  cases hb:Nat.beq x r with
  |true=>have:=bE hb;subst this;simp
  |false=>
   have ia:¬r=x:=λe=>by rw[e]at hb;simp at hb
   simp[oa (l:=l),ia]
theorem Mm:∀{l m:List Nat},pL l m=true↔ ∀r∈l,r∈m
 |[],m=>by simp[pL]
 |x::l,m=>by
  simp only[pL]
  cases hb:cw x m with
  |true=>simp[Mm (l:=l),oa.1 hb]
  |false=>simp[show¬x∈m fromλe=>by rw[oa.2 e]at hb;cases hb]
theorem Z4:∀{l m:List Nat},nW l m=true↔ ∀r∈l,¬r∈m
 |[],m=>by simp[nW]
 |x::l,m=>by
  simp only[nW]
  cases hb:cw x m with
  |true=>simp[oa.1 hb]
  |false=>simp[Z4 (l:=l),show¬x∈m fromλe=>by rw[oa.2 e]at hb;cases hb]
theorem Mn:∀{l:List Nat},CV l=true↔l.Nodup
 |[]=>by simp[CV]
 |x::l=>by
  simp only[CV,List.nodup_cons]
  cases hb:cw x l with
  |true=>simp[oa.1 hb]
  |false=>simp[Mn (l:=l),show¬x∈l fromλe=>by rw[oa.2 e]at hb;cases hb]
theorem Zqb{r:Nat}:∀{l:List Nat} {k:Nat},r∈l->∃j,pos r l k=k+j/\l[j]?=some r
 |x ::l,k,h=>by
  simp only[pos]
  cases hb:Nat.beq x r with
  |true=>exact⟨0,rfl,by simp[bE hb]⟩
  |false=>
   have ia:¬r=x:=λe=>by rw[e]at hb;simp at hb
   have hm:r∈l:=by simpa[ia]using h
   obtain⟨j,h1,h2⟩:=Zqb (k:=k+1) hm
   exact⟨j+1,by show pos r l (k+1)=_;rw[h1];omega,by simpa using h2⟩
theorem Bp{r:Nat}{l:List Nat}(h:r∈l):l[pos r l 0]?=some r:=by
 obtain⟨j,h1,h2⟩:=Zqb (k:=0) h
 rw[h1,bG];exact h2
structure Ef(S:Nat->Prop)(f:Nat->Nat)(ed:Bool)(c1 c2:Ctx):Prop where
 row:∀i row,S i->c1.R i=some row->∃ao,c2.R (f i)=some ao/\ao.box=row.box/\ao.ty=row.ty/\ao.sz=row.sz/\ao.es.l.length=row.es.l.length/\c2.ρ (f i)=c1.ρ i/\(c2.V (f i)↔c1.V i)
 base:ed=true->c2.base<=c1.base
 top:c1.top<=c2.top
theorem vS(hs:ng d)(h:gm I w d v):gm I' w d v:=by
 cases h<;>first|exact hs.elim|constructor
theorem Zcb{I I':ab}{w:World}:∀{cs:List D} {arr:Array Value} {off:Nat},(∀d∈cs,ng d)->oW I w cs arr off->oW I' w cs arr off
 |[],_,_,_,_=>by simp[DH,DI]
 |d::cs,arr,off,hs,h=>by
  simp only[DH,DI]at h⊢
  obtain⟨⟨v,hv,hp⟩,hr⟩:=h
  exact⟨⟨v,hv,vS (hs d (by simp)) hp⟩,Zcb (λe he=>hs e (by simp[he])) hr⟩
theorem ZM{I I':ab}{w:World}:∀{es:List (List D)} {arr:Array Value} {off sz:Nat},(∀e∈es,∀d∈e,ng d)->iA I w es arr off sz->iA I' w es arr off sz
 |[],_,_,_,_,_=>by simp[rz,pY]
 |e::es,arr,off,sz,hs,h=>by
  simp only[rz,pY]at h⊢
  exact⟨h.1,Zcb (hs e (by simp)) h.2.1,ZM (λf hf=>hs f (by simp[hf])) h.2.2⟩
theorem VRep.Eu{c:Ctx}(h:dk c w d v):VRep c w d v:=by cases d<;>first|exact h|exact h.elim
theorem VRep.toC{c:Ctx}(hd:∀cs,d≠.agg cs)(h:VRep c w d v):dk c w d v:=by cases d<;>first|exact h|exact absurd rfl (hd _)
theorem Rep.Kv{c:Ctx}(h:VRep c w d v):Rep c w d v:=by cases d<;>first|exact h|exact h.elim|trivial
theorem Rep.toV{c:Ctx}(hd:∀ds,d≠.ee ds)(h0:d≠.dead)(h:Rep c w d v):VRep c w d v:=by cases d<;>first|exact h|exact absurd rfl (hd _)|exact absurd rfl h0
theorem Z7h{f:Nat->Nat}{ed:Bool}:∀{e:List D},(D.mF f ed e).length=e.length
 |[]=>rfl
 |d::l=>by simp[D.mF,Z7h (e:=l)]
section
variable {S:Nat->Prop} {f:Nat->Nat} {ed:Bool} {c1 c2:Ctx} {w:World} (hn:Ef S f ed c1 c2) {flat:Prop} (hI:(∀b,c1.I b->c2.I b)\/(flat/\∀b,c1.I b->c1.base<=b->c2.I b))
include hn hI
theorem Zjm(ia:∀f cs,d≠.gx f cs)(hS:∀r∈nV d,S r)(jB:flat->P9 d)(h:dk c1 w d v):dk c2 w (d.mC f ed) v:=by
 cases d with
 |sl sz es fr=>
  obtain⟨a,cap,hv,hc,il⟩:=h
  refine⟨a,cap,hv,hc,?_⟩
  rcases il with il|⟨b,off,arr,ty,fz,ha,iu,hf,hh,hE⟩
  ·exact .inl il
  ·have hb:(fr&&ed)=true->c2.base<=b:=λe=>by
    simp only[aE]at e
    exact Nat.le_trans (hn.base e.2) (hf e.1)
   rcases hI with hi|⟨Fx,hi⟩
   ·exact .inr ⟨b,off,arr,ty,fz,ha,hi b iu,hb,hh,nJ (λb hb=>⟨hi b hb,rfl⟩) _ _ _ _ hE⟩
   ·obtain⟨h1,h2⟩:=jB Fx
    rcases h1 with h1|h1
    ·exact .inl (ai.oz.1 h1)
    ·exact .inr ⟨b,off,arr,ty,fz,ha,hi b iu (hf h1),hb,hh,ZM (ai.CU h2) hE⟩
 |all r=>
  obtain⟨row,hr,hb,h⟩:=h
  obtain⟨ao,g1,g2,g3,g4,g5,g6,gV⟩:=hn.row r row (hS r (by simp[nV])) hr
  refine⟨ao,g1,g2.trans hb,?_⟩
  rcases h with⟨hV,hv⟩|⟨hV,cap,arr,hv,h1,h2,h3,h4⟩
  ·obtain⟨a,hv,ho⟩:=hv;exact .inl ⟨gV.2 hV,a,hv,ho.mono hn.top⟩
  ·exact .inr ⟨λe=>hV (gV.1 e),cap,arr,by rw[hv,g5,g6],by rw[g5];exact h1,h2,by rw[g6,g3];exact h3,by rw[g4];exact h4⟩
 |own r o n=>
  obtain⟨row,hr,hb,ho,h⟩:=h
  obtain⟨ao,g1,g2,g3,g4,g5,g6,gV⟩:=hn.row r row (hS r (by simp[nV])) hr
  refine⟨ao,g1,g2.trans hb,by rw[g5];exact ho,?_⟩
  rcases h with⟨h0,a,hv,jv⟩|⟨hV,cap,arr,h1,h2,h3,h4,h5⟩
  ·exact .inl ⟨h0,a,hv,jv.mono hn.top gV g6⟩
  ·exact .inr ⟨λe=>hV (gV.1 e),cap,arr,h1,h2,by rw[g6,g3];exact h3,by rw[g4,g6];exact h4,by rw[g4];exact h5⟩
 |ptr r i off=>
  obtain⟨row,hr,hV,hi,hv⟩:=h
  obtain⟨ao,g1,g2,g3,g4,g5,g6,gV⟩:=hn.row r row (hS r (by simp[nV])) hr
  exact⟨ao,g1,λe=>hV (gV.1 e),by rw[g5];exact hi,by rw[hv,g6,g4]⟩
 |pa r i off len k n=>
  obtain⟨bg,row,hr,hV,hi,hv⟩:=h
  obtain⟨ao,g1,g2,g3,g4,g5,g6,gV⟩:=hn.row r row (hS r (by simp[nV])) hr
  exact⟨bg,ao,g1,λe=>hV (gV.1 e),by rw[g5];exact hi,by rw[hv,g6,g4]⟩
 |iC sz es i off=>
  obtain⟨b,o,arr,ty,fz,hv,iu,iL,hh,hE⟩:=h
  rcases hI with hi|⟨Fx,hi⟩
  ·exact⟨b,o,arr,ty,fz,hv,hi b iu,iL,hh,nJ (λb hb=>⟨hi b hb,rfl⟩) _ _ _ _ hE⟩
  ·exact(jB Fx).elim
 |gr r=>
  rcases h with h|⟨row,hr,hV,hi,hv⟩
  ·exact .inl h
  ·obtain⟨ao,g1,g2,g3,g4,g5,g6,gV⟩:=hn.row r row (hS r (by simp[nV])) hr
   exact .inr ⟨ao,g1,λe=>hV (gV.1 e),by rw[g5];exact hi,by rw[hv,g6,g4]⟩
 |gx f cs=>exact absurd rfl (ia f cs)
 |emp=>obtain⟨a,hv,ho⟩:=h;exact⟨a,hv,ho.mono hn.top⟩
 |_=>exact h
theorem ZN(hS:∀r∈nV d,S r)(jB:flat->P9 d)(h:dk c1 w d v):dk c2 w (d.mC f ed) v:=by
 by_cases e:∃g cs,d=.gx g cs
 ·obtain⟨g,cs,rfl⟩:=e
  obtain⟨us,hv,hu⟩:=h
  have hi:∀b,c1.I b->c2.I b/\w.heap[b]?=w.heap[b]? :=by
   rcases hI with hi|⟨Fx,_⟩
   ·exactλb hb=>⟨hi b hb,rfl⟩
   ·exact(jB Fx).elim
  exact⟨us,Mr hi hv,Zz (Fk:=λ_=>True) (λd v h1 h2 h3=>Zjm hn (flat:=False) (.inl λb hb=>(hi b hb).1) h1 h2 (λe=>e.elim) h3) (λ_ _ _ _=>Mr hi) (λ_ _ _=>trivial) hS hu⟩
 ·exact Zjm hn hI (λf cs e'=>e ⟨f,cs,e'⟩) hS jB h
theorem Zp2:∀{ds:List D} {vs:List Value},(∀r∈Qd ds,S r)->(flat->Mv ds)->jr c1 w ds vs->jr c2 w (D.mF f ed ds) vs
 |[],[],_,_,_=>trivial
 |d::ds,v::vs,hS,jB,h=>⟨ZN hn hI (λr hr=>hS r (by simp[Qd,hr])) (λe=>(jB e).1) h.1,Zp2 (λr hr=>hS r (by simp[Qd,hr])) (λe=>(jB e).2) h.2⟩
 |[],_::_,_,_,h=>h.elim
 |_::_,[],_,_,h=>h.elim
theorem QA(hS:∀r∈Fq d,S r)(jB:flat->U1 d)(h:VRep c1 w d v):VRep c2 w (d.jl f ed) v:=by
 cases d with
 |agg cs=>obtain⟨vs,hv,hr⟩:=h;exact⟨vs,hv,Zp2 hn hI hS jB hr⟩
 |ee ds=>exact h.elim
 |_=>
  refine VRep.Eu (ZN hn hI ?_ ?_ (VRep.toC ?_ h))
  ·exact hS
  ·exact jB
  ·intro cs e;cases e
theorem Zq2:∀{ds:List D} {vs:List Value},(∀d∈ds,∀r∈Fq d,S r)->(flat->Fw ds)->ki c1 w ds vs->ki c2 w (D.AJ f ed ds) vs
 |[],[],_,_,_=>trivial
 |d::ds,v::vs,hS,jB,h=>⟨QA hn hI (hS d (by simp)) (λe=>(jB e).1) h.1,Zq2 (λd hd=>hS d (by simp[hd])) (λe=>(jB e).2) h.2⟩
 |[],_::_,_,_,h=>h.elim
 |_::_,[],_,_,h=>h.elim
theorem Y7(hS:∀r,S r)(jB:flat->FF d)(h:Rep c1 w d v):Rep c2 w (d.sX f ed) v:=by
 cases d with
 |ee ds=>obtain⟨vs,hv,hr⟩:=h;exact⟨vs,hv,Zq2 hn hI (λ_ _ r _=>hS r) jB hr⟩
 |agg cs=>exact QA hn hI (d:=.agg cs) (λr _=>hS r) jB h
 |dead=>trivial
 |_=>
  have h':=Rep.toV (λds e=>by cases e) (λe=>by cases e) h
  have h2:=QA hn hI (λr _=>hS r) (λe=>by have:=jB e;exact this) h'
  exact Rep.Kv h2
theorem U2:∀{ds:List D} {arr:Array Value} {off:Nat},(∀r∈Qd ds,S r)->(flat->Mv ds)->kN c1 w ds arr off->kN c2 w (D.mF f ed ds) arr off
 |[],_,_,_,_,_=>trivial
 |d::ds,arr,off,hS,jB,⟨⟨v,hv,h1⟩,h2⟩=>⟨⟨v,hv,ZN hn hI (λr hr=>hS r (by simp[Qd,hr])) (λe=>(jB e).1) h1⟩,U2 (λr hr=>hS r (by simp[Qd,hr])) (λe=>(jB e).2) h2⟩
theorem Y5{i j:Nat}(P1:c2.ρ j=c1.ρ i)(hV:c2.V j↔c1.V i)(hS:row.box=true->∀e,row.es=.gen [e]->∀r∈Qd e,S r)(jB:flat->JB row)(h:Ey c1 w i row):Ey c2 w j (row.jl f ed):=by
 have sh:(row.jl f ed).box=row.box/\(row.jl f ed).ty=row.ty/\(row.jl f ed).sz=row.sz:=by
  unfold Row.jl;split<;>exact⟨rfl,rfl,rfl⟩
 rcases h with⟨h0,h1,h2,h3⟩|⟨h0,arr,ha,hs,hx⟩
 ·refine .inl ⟨hV.2 h0,?_⟩
  unfold Row.jl
  split
  ·simp at h1
  ·exact⟨h1,h2,h3⟩
 ·refine .inr ⟨λe=>h0 (hV.1 e),arr,by rw[P1,sh.2.1];exact ha,by rw[sh.2.2];exact hs,?_⟩
  rw[sh.1,sh.2.2]
  split
  ·rename_i hb
   simp only[hb,if_true]at hx
   obtain⟨e,k1,k2,k3,k4⟩:=hx
   obtain⟨box,ty,sz,es⟩:=row
   simp only at hb k1 k2 k3 k4
   subst hb;subst k1
   refine⟨D.mF f ed e,rfl,?_,k3,U2 hn hI (hS rfl e rfl) (λe'=>?_) k4⟩
   ·rw[Z7h];exact k2
   ·have:=jB e'
    simp only[JB,if_true]at this
    exact this e (by simp[ai.l])
  ·rename_i hb
   simp only[hb,aA,if_false]at hx
   have he:(row.jl f ed).es=row.es:=by
    unfold Row.jl
    split
    ·simp at hb
    ·rfl
   rw[he]
   rcases hI with hi|⟨Fx,hi⟩
   ·exact nJ (λb hb=>⟨hi b hb,rfl⟩) _ _ _ _ hx
   ·have:=jB Fx
    simp only[JB,hb,aA,if_false]at this
    exact ZM (ai.CU this) hx
end
def Ctx.pass(c:Ctx)(w:World)(ids:List Nat)(rows:List Row)(len:Bool):Ctx:=
 { ρ:=λi=>match ids[i]? with|some r=>c.ρ r|none=>0,R:=λi=>rows[i]?,V:=λi=>match ids[i]? with|some r=>c.V r|none=>False,
   I:=λb=>c.I b\/(len=true/\ ∃r row,c.R r=some row/\ ¬c.V r/\row.box=false/\r∉ids/\c.ρ r=b),base:=w.heap.size,top:=c.top,X:=λ_=>False}
section
variable {c:Ctx} {w:World} {R:Rows} {ids:List Nat} {ei:List Row} {len:Bool}
theorem Zq8(hm:Mem c w)(hA:mn c R)(h:Fp R d=some d')(hl:nV d≠[]->len=true)(hd:∀r∈nV d,r∉ids)(hr:dk c w d v):dk (c.pass w ids ei len) w d' v:=by
 have nO:∀b,c.I b->(c.pass w ids ei len).I b/\w.heap[b]?=w.heap[b]? :=λb hb=>⟨.inl hb,rfl⟩
 cases d<;>simp only[Fp]at h<;>try(cases h;done)
 case bool b=>cases h;exact hr
 case int k n=>cases h;exact hr
 case str s=>cases h;exact hr
 case iO=>cases h;exact hr
 case jN=>cases h;exact hr
 case de=>cases h;exact⟨none,0,hr,aX _,.inl rfl⟩
 case emp=>cases h;obtain⟨a,hv,_⟩:=hr;exact⟨a,0,hv,aX _,.inl rfl⟩
 case sl sz es fr=>
  cases h
  obtain⟨a,cap,hv,hc,il⟩:=hr
  refine⟨a,cap,hv,hc,?_⟩
  rcases il with il|⟨b,off,arr,ty,fz,ha,hI,hf,hh,hE⟩
  ·exact .inl il
  ·exact .inr ⟨b,off,arr,ty,fz,ha,.inl hI,by simp,hh,nJ nO _ _ _ _ hE⟩
 case all r=>
  split at h
  ·rename_i row hR
   split at h
   ·rename_i hb
    cases h
    obtain⟨ao,g1,g2,hv⟩:=hr
    have:=hA r ao _ g1 hR
    subst this
    rcases hv with⟨hV,a,hv,_⟩|⟨hV,cap,arr,hv,g3,g4,g5,g6⟩
    ·have he:=(hm.nH g1 hV).2.1
     exact⟨a,0,by rw[he];exact hv,by rw[he];exact aX _,.inl he⟩
    refine⟨_,cap,hv,g3,?_⟩
    obtain⟨iR,jH,hs,hx⟩:=hm.real g1 hV
    rw[g5]at jH;cases jH
    simp only[hb,aA,if_false]at hx
    exact .inr ⟨_,0,arr,_,_,rfl,.inr ⟨hl (by simp[nV]),r,_,g1,hV,hb,hd r (by simp[nV]),rfl⟩,by simp,g5,nJ nO _ _ _ _ hx⟩
   ·cases h
  ·cases h
 case own r o n=>
  split at h
  ·rename_i row hR
   split at h
   ·rename_i hb
    cases h
    obtain⟨ao,g1,g2,g5,hv⟩:=hr
    have:=hA r ao _ g1 hR
    subst this
    have hlen:((ao.es.drop o).take n).l.length=n:=by rw[ai.je,ai.kz];simp only[List.length_take,List.length_drop];omega
    rcases hv with⟨g7,a,hv,_⟩|⟨hV,cap,arr,g3,g4,g6,hv,g7⟩
    ·subst g7
     exact⟨a,0,by rw[hlen];exact hv,by omega,.inl (by rw[ai.je];simp)⟩
    obtain⟨iR,jH,hs,hx⟩:=hm.real g1 hV
    rw[g6]at jH;cases jH
    simp only[hb,aA,if_false]at hx
    refine⟨_,cap,by rw[hlen];exact hv,by omega,.inr ⟨_,o*ao.sz,arr,_,_,rfl,.inr ⟨hl (by simp[nV]),r,_,g1,hV,hb,hd r (by simp[nV]),rfl⟩,by simp,g6,nJ nO _ _ _ _ ?_⟩⟩
    have:=Mi (n:=n) (Kq (l:=o) hx)
    rw[ai.je,ai.kz]
    simpa using this
   ·cases h
  ·cases h
theorem Zqz(hm:Mem c w)(hA:mn c R):∀{ds ow:List D} {vs:List Value},Jw R ds=some ow->(Qd ds≠[]->len=true)->(∀r∈Qd ds,r∉ids)->jr c w ds vs->jr (c.pass w ids ei len) w ow vs
 |[],ow,[],h,_,_,_=>by simp[Jw]at h;subst h;trivial
 |[],_,_::_,_,_,_,hr=>hr.elim
 |_::_,_,[],_,_,_,hr=>hr.elim
 |d ::ds,ow,v::vs,h,hl,hd,hr=>by
  simp only[Jw]at h
  split at h
  ·rename_i x xs h1 h2
   cases h
   exact⟨Zq8 hm hA h1 (λe=>hl (by simp[Qd,e])) (λr e=>hd r (by simp[Qd,e])) hr.1,Zqz hm hA h2 (λe=>hl (by simp[Qd,e])) (λr e=>hd r (by simp[Qd,e])) hr.2⟩
  ·cases h
theorem Zqi(hm:Mem c w)(hA:mn c R)(h:conv R d=some d')(hl:Fq d≠[]->len=true)(hd:∀r∈Fq d,r∉ids)(hr:Rep c w d v):VRep (c.pass w ids ei len) w d' v:=by
 cases d with
 |agg cs=>
  simp only[conv,Option.map_eq_some_iff]at h
  obtain⟨rT,h1,rfl⟩:=h
  obtain⟨vs,hv,hx⟩:=hr
  exact⟨vs,hv,Zqz hm hA h1 hl hd hx⟩
 |ee ds=>simp[conv,Fp]at h
 |dead=>simp[conv,Fp]at h
 |_=>
  simp only[conv]at h
  simp only[Rep,VRep]at hr
  exact VRep.Eu (Zq8 hm hA h hl hd hr)
theorem Fo{f:Nat->Nat}:∀{ids:List Nat} {rows:List Row},Bo R f ids=some rows->rows.length=ids.length/\∀(i r:Nat),ids[i]?=some r->∃row,R.getD r none=some row/\rows[i]?=some (row.jl f false)
 |[],rows,h=>by simp[Bo]at h;subst h;exact⟨rfl,λi r h=>by simp at h⟩
 |r ::l,rows,h=>by
  simp only[Bo]at h
  split at h
  ·rename_i row rs h1 h2
   cases h
   obtain⟨g1,g2⟩:=Fo h2
   refine⟨by simp[g1],λi q hq=>?_⟩
   cases i with
   |zero=>simp at hq;subst hq;exact⟨row,h1,rfl⟩
   |succ i=>exact g2 i q (by simpa using hq)
  ·cases h
theorem Ju(f:Nat->Nat)(ed:Bool)(row:Row):(row.jl f ed).box=row.box/\(row.jl f ed).ty=row.ty/\(row.jl f ed).sz=row.sz/\(row.jl f ed).es.l.length=row.es.l.length:=by
 unfold Row.jl;split<;>exact⟨rfl,rfl,rfl,rfl⟩
theorem Z6v{r:Nat}:∀{l:List Nat},r∈CM R l↔ ∃q∈l,∃ty sz e,R.getD q none=some ⟨true,ty,sz,.gen [e]⟩/\r∈Qd e
 |[]=>by simp[CM]
 |q ::l=>by
  simp only[CM,List.mem_append,Z6v (l:=l),cQ]
  constructor
  ·rintro(h|⟨q',h1,h2⟩)
   ·split at h
    ·rename_i ty sz e he
     exact⟨q,.inl rfl,ty,sz,e,he,h⟩
    ·simp at h
   ·exact⟨q',.inr h1,h2⟩
  ·rintro⟨q',h1|h1,ty,sz,e,h2,h3⟩
   ·subst h1
    left
    rw[h2];exact h3
   ·exact .inr ⟨q',h1,ty,sz,e,h2,h3⟩
theorem UI(hR:∀r row,r∈ids->R.getD r none=some row->c.R r=some row)(dj:Bo R (λr=>pos r ids 0) ids=some ei):Ef (λr=>r∈ids) (λr=>pos r ids 0) false c (c.pass w ids ei len):=by
 obtain⟨hl,hg⟩:=Fo dj
 refine⟨λr row hr dc=>?_,(λh=>by cases h),aX _⟩
 have hp:=Bp hr
 obtain⟨jM,h1,h2⟩:=hg _ r hp
 have:row=jM:=by have:=hR r jM hr h1;rw[dc]at this;exact Option.some.inj this
 subst this
 obtain⟨s1,s2,s3,s4⟩:=Ju (λr=>pos r ids 0) false row
 exact⟨_,h2,s1,s2,s3,s4,by simp[Ctx.pass,hp],by simp[Ctx.pass,hp]⟩
theorem Y6(hm:Mem c w)(hR:∀r row,r∈ids->R.getD r none=some row->c.R r=some row)(kU:ids.Nodup)(ju:∀r∈CM R ids,r∈ids)(dj:Bo R (λr=>pos r ids 0) ids=some ei):Mem (c.pass w ids ei len) w:=by
 have hn:=UI (len:=len) (w:=w) hR dj
 obtain⟨hl,hg⟩:=Fo dj
 have inv:∀i x,(c.pass w ids ei len).R i=some x->∃r row,ids[i]?=some r/\c.R r=some row/\R.getD r none=some row/\x=row.jl (λr=>pos r ids 0) false/\(c.pass w ids ei len).ρ i=c.ρ r/\((c.pass w ids ei len).V i↔c.V r):=by
  intro i x hx
  have jO:ei[i]?=some x:=hx
  have bg:=(List.getElem?_eq_some_iff.1 jO).1
  have hi:ids[i]?=some ids[i]:=aI (by omega)
  obtain⟨row,h1,h2⟩:=hg i _ hi
  rw[jO]at h2
  exact⟨_,row,hi,hR _ row (fL hi) h1,h1,Option.some.inj h2,by simp[Ctx.pass,hi],by simp[Ctx.pass,hi]⟩
 refine⟨λi x hx=>?_,λi j x y hx hy v1 v2 he=>?_,λb hb=>?_,hm.top,hm.j4.mono λb hb=>⟨.inl hb,rfl⟩⟩
 ·obtain⟨r,row,g1,g2,g3,rfl,g5,g6⟩:=inv i x hx
  refine Y5 hn (flat:=False) (.inl λb hb=>.inl hb) g5 g6 (λFy e he q hq=>?_) (λe=>e.elim) (hm.row r row g2)
  obtain⟨box,ty,sz,es⟩:=row
  simp only at Fy he
  subst Fy
  have h1:∃e0,es=.gen [e0]:=by
   rcases hm.row r _ g2 with⟨_,hh,_⟩|⟨_,arr,_,_,hx⟩
   ·cases hh
   ·simp only[if_true]at hx;obtain⟨e0,h,_⟩:=hx;exact⟨e0,h⟩
  obtain⟨e0,rfl⟩:=h1
  cases he
  exact ju q (Z6v.2 ⟨r,fL g1,ty,sz,e,g3,hq⟩)
 ·obtain⟨r,row,g1,g2,g3,_,g5,g6⟩:=inv i x hx
  obtain⟨s,ao,k1,k2,k3,_,k5,k6⟩:=inv j y hy
  rw[g5,k5]at he
  have:r=s:=hm.inj r s _ _ g2 k2 (λe=>v1 (g6.2 e)) (λe=>v2 (k6.2 e)) he
  subst this
  exact(List.getElem?_inj (List.getElem?_eq_some_iff.1 g1).1 kU).1 (g1.trans k1.symm)
 ·rcases hb with hb|⟨_,r,row,hr,hV,wN,Ik,rfl⟩
  ·refine⟨(hm.fq b hb).1,λi x hx v=>?_⟩
   obtain⟨r,row,g1,g2,g3,_,g5,g6⟩:=inv i x hx
   rw[g5];exact(hm.fq b hb).2 r row g2 (λe=>v (g6.2 e))
  ·refine⟨hm.lt hr hV,λi x hx v=>?_⟩
   obtain⟨s,ao,g1,g2,g3,_,g5,g6⟩:=inv i x hx
   rw[g5]
   intro e
   have:=hm.inj s r _ _ g2 hr (λe=>v (g6.2 e)) hV e
   subst this
   exact Ik (fL g1)
theorem Mo(hm:Mem c w)(hA:mn c R)(hn:Ef (λr=>r∈ids) (λr=>pos r ids 0) false c (c.pass w ids ei len)){ρ:Operand->Value}{ev:Operand->D}:
 ∀{bs:List Bool} {xs:List Operand} {ow:List D},sT R (λr=>pos r ids 0) bs (xs.map ev)=some ow->(lM bs (xs.map ev)≠[]->len=true)->(∀r∈lM bs (xs.map ev),r∉ids)->(∀r∈Qr bs (xs.map ev),r∈ids)->(∀x∈xs,Rep c w (ev x) (ρ x))->ki (c.pass w ids ei len) w ow (xs.map ρ)
 |bs,[],ow,h,_,_,_,_=>by cases bs<;>(try(rename_i b bs;cases b))<;>(simp[sT]at h;subst h;trivial)
 |true::bs,x::xs,ow,h,hl,hd,hi,hr=>by
  simp only[fG,sT]at h
  simp only[fG,lM,Qr]at hl hd hi
  split at h
  ·rename_i ys hv h2
   cases h
   have hx:VRep c w (ev x) (ρ x):=Rep.toV (λds e=>by rw[e]at hv;simp[D.isVal]at hv) (λe=>by rw[e]at hv;simp[D.isVal]at hv) (hr x (by simp))
   exact⟨QA hn (flat:=False) (.inl λb hb=>.inl hb) (λr e=>hi r (by simp[e])) (λe=>e.elim) hx,Mo hm hA hn h2 hl hd (λr e=>hi r (by simp[e])) λy hy=>hr y (by simp[hy])⟩
  ·cases h
 |false::bs,x::xs,ow,h,hl,hd,hi,hr=>by
  simp only[fG,sT]at h
  simp only[fG,lM,Qr]at hl hd hi
  split at h
  ·rename_i y ys h1 h2
   cases h
   exact⟨Zqi hm hA h1 (λe=>hl (by simp[e])) (λr e=>hd r (by simp[e])) (hr x (by simp)),Mo hm hA hn h2 (λe=>hl (by simp[e])) (λr e=>hd r (by simp[e])) hi λy hy=>hr y (by simp[hy])⟩
  ·cases h
 |[],x::xs,ow,h,hl,hd,hi,hr=>by
  simp only[fG,sT]at h
  simp only[fG,lM,Qr]at hl hd hi
  split at h
  ·rename_i y ys h1 h2
   cases h
   refine⟨Zqi hm hA h1 (λe=>hl (by simp[e])) (λr e=>hd r (by simp[e])) (hr x (by simp)),Mo hm hA hn h2 (λe=>hl (by simp[e])) (λr e=>hd r (by simp[e])) (λr e=>?_) λy hy=>hr y (by simp[hy])⟩
   cases xs<;>simp[Qr]at e
  ·cases h
end
theorem U3{f:Nat->Nat}:∀{ids:List Nat} {rows:List Row} {R:Rows},ids.Nodup->ids.length<=rows.length->(∀r∈ids,r<R.length)->
 (tS f ids rows R).length=R.length/\(∀(i r:Nat),ids[i]?=some r->∃row,rows[i]?=some row/\(tS f ids rows R).getD r none=some (row.jl f true))/\∀r,r∉ids->(tS f ids rows R).getD r none=R.getD r none
 |[],rows,R,_,_,_=>by
  have:tS f [] rows R=R:=by cases rows<;>rfl
  rw[this]
  exact⟨rfl,λi r h=>by simp at h,λ_ _=>rfl⟩
 |r::ids,[],R,_,hl,_=>by simp at hl
 |r ::ids,row::rows,R,kU,hl,bg=>by
  obtain⟨Ik,Jt⟩:=List.nodup_cons.1 kU
  obtain⟨g1,g2,g3⟩:=U3 (f:=f) (ids:=ids) (rows:=rows) (R:=R.set r (some (row.jl f true))) Jt (by simpa using hl) (λq hq=>by simpa using bg q (by simp[hq]))
  have hr:=bg r (by simp)
  have Y1:(R.set r (some (row.jl f true))).getD r none=some (row.jl f true):=by simp[aV,hr]
  have ia:∀q,q≠r->(R.set r (some (row.jl f true))).getD q none=R.getD q none:=λq hq=>by simp[aV,List.getElem?_set_ne (Ne.symm hq)]
  simp only[tS]
  refine⟨by simpa using g1,λi q hq=>?_,λq hq=>?_⟩
  ·cases i with
   |zero=>
    simp at hq;subst hq
    exact⟨row,rfl,by rw[g3 _ Ik];exact Y1⟩
   |succ i=>simpa using g2 i q (by simpa using hq)
  ·have h1:q≠r:=λe=>hq (by simp[e])
   rw[g3 q (λe=>hq (by simp[e])),ia q h1]
def Ctx.behind(c:Ctx)(w:World)(c':Ctx)(ids:List Nat)(n0:Nat)(R2:Rows):Ctx:=
 { ρ:=λr=>if n0<=r/\r<R2.length then c'.ρ (ids.length+(r-n0)) else c.ρ r,
   R:=λr=>if r∈ids\/(n0<=r/\r<R2.length) then R2.getD r none else c.R r,
   V:=λr=>if n0<=r/\r<R2.length then c'.V (ids.length+(r-n0)) else c.V r,
   I:=λb=>c.I b\/(c'.I b/\w.heap.size<=b),base:=c.base,top:=c'.top,X:=c.X}
theorem Znc{f:Nat->Nat}{rows:List Row}:(Bs f rows)[i]?=rows[i]?.map λrow=>some (row.jl f true):=by simp[Bs]
theorem ZO{c c':Ctx}{R:Rows}{ids:List Nat}{ei aj:List Row}{len:Bool}(hm:Mem c w)(hb:c.base<=w.heap.size)(od:∀r row,r∈ids->R.getD r none=some row->c.R r=some row)(fj:∀r,R.length<=r->r<R.length+(aj.length-ids.length)->c.R r=none)
 (kU:ids.Nodup) (dj:Bo R (λr=>pos r ids 0) ids=some ei) (hle:ids.length<=aj.length) (hx:lO (c.pass w ids ei len) w c' w') (j8:∀i,c'.R i=aj[i]?)
 (hI:len=true->rM aj) {R2:Rows} (uM:R2=tS (bk ids R.length) ids aj R++Bs (bk ids R.length) (aj.drop ids.length)):
 (Ef (λ_=>True) (bk ids R.length) true c' (c.behind w c' ids R.length R2))/\((∀b,c'.I b->(c.behind w c' ids R.length R2).I b)\/(len=true/\∀b,c'.I b->c'.base<=b->(c.behind w c' ids R.length R2).I b))/\
 Mem (c.behind w c' ids R.length R2) w'/\jh c w (c.behind w c' ids R.length R2) w'/\Fr (λb=>∃r x,c.R r=some x/\¬c.V r/\r∈ids/\c.ρ r=b) w w'/\
 (∀b,(c.behind w c' ids R.length R2).I b->c.I b\/w.heap.size<=b)/\
 (∀r,R.length<=r->r<R2.length->¬(c.behind w c' ids R.length R2).V r->w.heap.size<=(c.behind w c' ids R.length R2).ρ r):=by
 obtain⟨ju,AD⟩:=Fo dj
 have bg:∀r∈ids,r<R.length:=λr hr=>by
  obtain⟨row,h1,_⟩:=AD _ r (Bp hr)
  by_cases hl:r<R.length
  ·exact hl
  ·rw[aV,aJ (by omega)]at h1;cases h1
 obtain⟨k1,k2,k3⟩:=U3 (f:=bk ids R.length) kU hle bg
 have wh:R2.length=R.length+(aj.length-ids.length):=by rw[uM];simp[k1,Bs]
 have PW:∀r,r<R.length->R2.getD r none=(tS (bk ids R.length) ids aj R).getD r none:=λr hr=>by
  rw[uM,aV,aV,bI (by omega)]
 have Y4:∀i,ids.length<=i->i<aj.length->R2.getD (R.length+(i-ids.length)) none=aj[i]?.map λrow=>row.jl (bk ids R.length) true:=λi h1 h2=>by
  rw[uM,aV,List.getElem?_append_right (by omega),Znc,k1,show R.length+(i-ids.length)-R.length=i-ids.length by omega,fI,show ids.length+(i-ids.length)=i by omega]
  rw[aI h2];rfl
 have jn:c'.base=w.heap.size:=hx.db.base
 have jI:∀i r ao,ids[i]?=some r->c'.R i=some ao->∃row,c.R r=some row/\ao.box=row.box/\ao.ty=row.ty/\ao.sz=row.sz/\ao.es.l.length=row.es.l.length/\c'.ρ i=c.ρ r/\(c'.V i↔c.V r)/\r<R.length/\R2.getD r none=some (ao.jl (bk ids R.length) true)/\bk ids R.length i=r/\
  (¬c.V r->∀arr,w.heap[c.ρ r]?=some (.cells arr row.ty (0,0))->∃iR,w'.heap[c.ρ r]?=some (.cells iR row.ty (0,0))/\iR.size=arr.size):=by
  intro i r ao hi jq
  obtain⟨row,h1,h2⟩:=AD i r hi
  have mu:=fL hi
  have h3:=od r row mu h1
  obtain⟨sQ,g1,g2,g3,g4,g5,g6,gV,g7⟩:=hx.db.R i _ (show(c.pass w ids ei len).R i=some _ from h2)
  rw[jq]at g1;cases g1
  obtain⟨s1,s2,s3,s4⟩:=Ju (λr=>pos r ids 0) false row
  obtain⟨kR,q1,q2⟩:=k2 i r hi
  rw[j8,q1]at jq;cases jq
  refine⟨row,h3,g2.trans s1,g3.trans s2,g4.trans s3,g5.trans s4,by simpa[Ctx.pass,hi]using g6,by simpa[Ctx.pass,hi]using gV,bg r mu,by rw[PW r (bg r mu)];exact q2,by simp[bk,hi],λnv arr ha=>?_⟩
  have:=g7 (by simpa[Ctx.pass,hi]using nv) arr (by simpa[Ctx.pass,hi,s2]using ha)
  simpa[Ctx.pass,hi,s2]using this
 have fresh:∀i ao,ids.length<=i->c'.R i=some ao->i<aj.length/\R2.getD (R.length+(i-ids.length)) none=some (ao.jl (bk ids R.length) true)/\bk ids R.length i=R.length+(i-ids.length)/\(¬c'.V i->w.heap.size<=c'.ρ i):=by
  intro i ao hi jq
  have h1:aj[i]?=some ao:=by rw[<-j8];exact jq
  have h2:=(List.getElem?_eq_some_iff.1 h1).1
  refine⟨h2,by rw[Y4 i hi h2,h1];rfl,by simp[bk,aJ hi],λnv=>?_⟩
  rcases hx.ov i ao jq nv with⟨⟨x,pA⟩,_⟩|h3
  ·have:ei[i]?=some x:=pA
   rw[aJ (by omega)]at this;cases this
  ·exact h3
 have CK:Ef (λ_=>True) (bk ids R.length) true c' (c.behind w c' ids R.length R2):=by
  refine⟨λi ao _ jq=>?_,λ_=>by rw[jn];exact hb,aX _⟩
  obtain⟨s1,s2,s3,s4⟩:=Ju (bk ids R.length) true ao
  by_cases hi:i<ids.length
  ·have iL:ids[i]?=some ids[i]:=aI hi
   obtain⟨row,g1,g2,g3,g4,g5,g6,g7,g8,g9,g10,_⟩:=jI i _ ao iL jq
   rw[g10]
   exact⟨_,by simp only[Ctx.behind];rw[if_pos (.inl (fL iL))];exact g9,s1,s2,s3,s4,by simp only[Ctx.behind];rw[if_neg (by omega),g6],by simp only[Ctx.behind];rw[if_neg (by omega)];exact g7.symm⟩
  ·obtain⟨h1,h2,h3,h4⟩:=fresh i ao (by omega) jq
   rw[h3]
   have hc:R.length<=R.length+(i-ids.length)/\R.length+(i-ids.length)<R2.length:=by omega
   have he:ids.length+(R.length+(i-ids.length)-R.length)=i:=by omega
   exact⟨_,by simp only[Ctx.behind];rw[if_pos (.inr hc)];exact h2,s1,s2,s3,s4,by simp only[Ctx.behind];rw[if_pos hc,he],by simp only[Ctx.behind];rw[if_pos hc,he]⟩
 have CW:(∀b,c'.I b->(c.behind w c' ids R.length R2).I b)\/(len=true/\∀b,c'.I b->c'.base<=b->(c.behind w c' ids R.length R2).I b):=by
  cases hl:len with
  |false=>
   refine .inl λb iu=>?_
   rcases hx.fq b iu with h1|h1
   ·rcases h1 with h1|⟨h1,_⟩
    ·exact .inl h1
    ·rw[hl]at h1;cases h1
   ·exact .inr ⟨iu,h1⟩
  |true=>exact .inr ⟨rfl,λb iu hbb=>.inr ⟨iu,by omega⟩⟩
 have BY:Fr (λb=>∃r x,c.R r=some x/\¬c.V r/\r∈ids/\c.ρ r=b) w w':=hx.fr.mono λb _ ⟨i,x,h1,h2,h3⟩=>by
  have se:ei[i]?=some x:=h1
  have hi:i<ids.length:=by have:=(List.getElem?_eq_some_iff.1 se).1;omega
  have iL:ids[i]?=some ids[i]:=aI hi
  obtain⟨row,g1,g2⟩:=AD i _ iL
  exact⟨_,row,od _ row (fL iL) g1,by simpa[Ctx.pass,iL]using h2,fL iL,by simpa[Ctx.pass,iL]using h3⟩
 have inv:∀r x,(c.behind w c' ids R.length R2).R r=some x->(∃i ao,c'.R i=some ao/\x=ao.jl (bk ids R.length) true/\(c.behind w c' ids R.length R2).ρ r=c'.ρ i/\((c.behind w c' ids R.length R2).V r↔c'.V i)/\(r∈ids/\ids[i]?=some r/\(c.behind w c' ids R.length R2).ρ r=c.ρ r/\((c.behind w c' ids R.length R2).V r↔c.V r)\/R.length<=r/\ids.length<=i/\r=R.length+(i-ids.length)))\/
  (c.R r=some x/\r∉ids/\(c.behind w c' ids R.length R2).ρ r=c.ρ r/\((c.behind w c' ids R.length R2).V r↔c.V r)/\¬(R.length<=r/\r<R2.length)):=by
  intro r x jO
  by_cases mu:r∈ids
  ·left
   have hp:=Bp mu
   obtain⟨kR,q1,q2⟩:=k2 _ r hp
   have sR:c'.R (pos r ids 0)=some kR:=by rw[j8];exact q1
   obtain⟨row,g1,g2,g3,g4,g5,g6,g7,g8,g9,g10,_⟩:=jI _ r kR hp sR
   simp only[Ctx.behind]at jO
   rw[if_pos (.inl mu),g9]at jO
   cases jO
   have e1:(c.behind w c' ids R.length R2).ρ r=c.ρ r:=by simp only[Ctx.behind];rw[if_neg (by omega)]
   have e2:(c.behind w c' ids R.length R2).V r↔c.V r:=by simp only[Ctx.behind];rw[if_neg (by omega)]
   exact⟨_,kR,sR,rfl,by rw[e1,g6],by rw[e2,g7],.inl ⟨mu,hp,e1,e2⟩⟩
  ·by_cases hc:R.length<=r/\r<R2.length
   ·left
    have hi:ids.length+(r-R.length)<aj.length:=by omega
    have sR:c'.R (ids.length+(r-R.length))=some aj[ids.length+(r-R.length)]:=by rw[j8];exact aI hi
    obtain⟨h1,h2,h3,h4⟩:=fresh _ _ (by omega) sR
    simp only[Ctx.behind]at jO
    rw[if_pos (.inr hc)]at jO
    rw[show R.length+(ids.length+(r-R.length)-ids.length)=r by omega]at h2
    rw[h2]at jO
    cases jO
    exact⟨_,_,sR,rfl,by simp only[Ctx.behind];rw[if_pos hc],by simp only[Ctx.behind];rw[if_pos hc],.inr ⟨hc.1,by omega,by omega⟩⟩
   ·right
    simp only[Ctx.behind]at jO
    rw[if_neg (by rintro(h|h)<;>contradiction)]at jO
    exact⟨jO,mu,by simp only[Ctx.behind];rw[if_neg hc],by simp only[Ctx.behind];rw[if_neg hc],hc⟩
 have ri:jh c w (c.behind w c' ids R.length R2) w':=by
  refine⟨rfl,hx.db.top,λb iu=>⟨.inl iu,?_⟩,λr row hr=>?_⟩
  ·exact(hx.db.I b (.inl iu)).2
  ·by_cases mu:r∈ids
   ·have hp:=Bp mu
    obtain⟨kR,q1,q2⟩:=k2 _ r hp
    have sR:c'.R (pos r ids 0)=some kR:=by rw[j8];exact q1
    obtain⟨jM,g1,g2,g3,g4,g5,g6,g7,g8,g9,g10,g11⟩:=jI _ r kR hp sR
    rw[hr]at g1;cases g1
    obtain⟨s1,s2,s3,s4⟩:=Ju (bk ids R.length) true kR
    exact⟨_,by simp only[Ctx.behind];rw[if_pos (.inl mu)];exact g9,s1.trans g2,s2.trans g3,s3.trans g4,s4.trans g5,by simp only[Ctx.behind];rw[if_neg (by omega)],by simp only[Ctx.behind];rw[if_neg (by omega)],g11⟩
   ·have hc:¬(R.length<=r/\r<R2.length):=λhc=>by rw[fj r hc.1 (by omega)]at hr;cases hr
    refine⟨row,by simp only[Ctx.behind];rw[if_neg (by rintro(h|h)<;>contradiction)];exact hr,rfl,rfl,rfl,rfl,by simp only[Ctx.behind];rw[if_neg hc],by simp only[Ctx.behind];rw[if_neg hc],λnv arr ha=>⟨arr,?_,rfl⟩⟩
    rw[BY.heap _ (hm.lt hr nv) fun⟨s,x,h1,h2,h3,h4⟩=>mu (by rw[<-hm.inj s r x row h1 hr h2 nv h4];exact h3)]
    exact ha
 refine⟨CK,CW,⟨λr x jO=>?_,λr s x y hr hs v1 v2 he=>?_,λb iu=>?_,hx.mem.top,hm.j4.mono ri.I⟩,ri,BY,λb iu=>?_,λr h1 h2 h3=>?_⟩
 ·rcases inv r x jO with⟨i,ao,h1,rfl,h3,h4,_⟩|⟨h1,h2,h3,h4,h5⟩
  ·refine Y5 CK CW h3 h4 (λ_ _ _ _ _=>trivial) (λhf=>?_) (hx.mem.row i ao h1)
   exact Zpg (hI hf) (by rw[<-j8];exact h1)
  ·exact tE ri h3 h4 (λnv=>BY.heap _ (hm.lt h1 nv) fun⟨s,x',g1,g2,g3,g4⟩=>h2 (by rw[<-hm.inj s r x' x g1 h1 g2 nv g4];exact g3)) (hm.row r x h1)
 ·have Hj:∀i ao,c'.R i=some ao->¬c'.V i->(∃q,q∈ids/\ids[i]?=some q/\(∃y,c.R q=some y)/\¬c.V q/\c'.ρ i=c.ρ q)\/w.heap.size<=c'.ρ i:=λi ao h1 nv=>by
   by_cases hi:i<ids.length
   ·have iL:ids[i]?=some ids[i]:=aI hi
    obtain⟨row,g1,g2,g3,g4,g5,g6,g7,_⟩:=jI i _ ao iL h1
    exact .inl ⟨_,fL iL,iL,⟨row,g1⟩,λe=>nv (g7.2 e),g6⟩
   ·exact .inr ((fresh i ao (by omega) h1).2.2.2 nv)
  rcases inv r x hr with⟨i,x',h1,_,h3,h4,h5⟩|⟨h1,h2,h3,h4,h5⟩<;>rcases inv s y hs with⟨j,y',g1,_,g3,g4,g5⟩|⟨g1,g2,g3,g4,g5⟩
  ·have:i=j:=hx.mem.inj i j x' y' h1 g1 (λe=>v1 (h4.2 e)) (λe=>v2 (g4.2 e)) (by rw[<-h3,<-g3];exact he)
   subst this
   rcases h5 with⟨_,q1,_⟩|⟨_,q1,q2⟩<;>rcases g5 with⟨_,p1,_⟩|⟨_,p1,p2⟩
   ·rw[q1]at p1;exact Option.some.inj p1
   ·have:=(List.getElem?_eq_some_iff.1 q1).1;omega
   ·have:=(List.getElem?_eq_some_iff.1 p1).1;omega
   ·omega
  ·exfalso
   have nv:=λe=>v1 (h4.2 e)
   have ns:=λe=>v2 (g4.2 e)
   rw[h3,g3]at he
   rcases Hj i x' h1 nv with⟨q,q1,q2,⟨z,q3⟩,q4,q5⟩|q
   ·exact g2 (by rw[<-hm.inj q s z y q3 g1 q4 ns (by rw[<-q5];exact he)];exact q1)
   ·have:=hm.lt g1 ns;omega
  ·exfalso
   have nv:=λe=>v2 (g4.2 e)
   have ns:=λe=>v1 (h4.2 e)
   rw[h3,g3]at he
   rcases Hj j y' g1 nv with⟨q,q1,q2,⟨z,q3⟩,q4,q5⟩|q
   ·exact h2 (by rw[<-hm.inj q r z x q3 h1 q4 ns (by rw[<-q5];exact he.symm)];exact q1)
   ·have:=hm.lt h1 ns;omega
  ·exact hm.inj r s x y h1 g1 (λe=>v1 (h4.2 e)) (λe=>v2 (g4.2 e)) (by rw[<-h3,<-g3];exact he)
 ·rcases iu with iu|⟨iu,gz⟩
  ·refine⟨Nat.lt_of_lt_of_le (hm.fq b iu).1 BY.size,λr x hr v=>?_⟩
   rcases inv r x hr with⟨i,x',h1,_,h3,h4,h5⟩|⟨h1,h2,h3,h4,h5⟩
   ·have:=(hx.mem.fq b ((hx.db.I b (.inl iu)).1)).2 i x' h1 (λe=>v (h4.2 e))
    rw[h3];exact this
   ·rw[h3];exact(hm.fq b iu).2 r x h1 (λe=>v (h4.2 e))
  ·refine⟨(hx.mem.fq b iu).1,λr x hr v=>?_⟩
   rcases inv r x hr with⟨i,x',h1,_,h3,h4,h5⟩|⟨h1,h2,h3,h4,h5⟩
   ·rw[h3];exact(hx.mem.fq b iu).2 i x' h1 (λe=>v (h4.2 e))
   ·have:=hm.lt h1 (λe=>v (h4.2 e))
    rw[h3];omega
 ·rcases iu with h|⟨_,h⟩
  ·exact .inl h
  ·exact .inr h
 ·have hi:ids.length+(r-R.length)<aj.length:=by omega
  have sR:c'.R (ids.length+(r-R.length))=some aj[ids.length+(r-R.length)]:=by rw[j8];exact aI hi
  obtain⟨_,_,_,h4⟩:=fresh _ _ (by omega) sR
  simp only[Ctx.behind,if_pos (show R.length<=r/\r<R2.length from⟨h1,h2⟩)]at h3⊢
  exact h4 h3
theorem Zw(args:List D):Qr [] args=[]:=by cases args<;>rfl
theorem Zkm(R:Rows)(args:List D):mA R [] args=[]:=by
 unfold mA;rw[Zw];rfl
theorem Y8{x:bc}(eh:bm P x){f:FuncId}(hf:x.f=f)(hy:x.f<YB){pos:String}{guard:Option (Nat×Bool)}
 (h:Calls P x.f (args.toList.map a.eval).toArray w λe w'=>∃v,e=.returned v/\K (a.put dst v) w'):(⟨dst,.call ⟨.value (.func f),args,dv⟩,type,pos,after,guard⟩:Oper).nu P a w K Q:=by
 have iy:(execOp a.eval (⟨dst,.call ⟨.value (.func f),args,dv⟩,type,pos,after,guard⟩:Oper)).run P w=.ok (.enter f (args.toList.map a.eval).toArray) w:=by
  simp only[execOp,resolve,Act.eval,Deferred.ofValue,Sem.run_bind,Sem.run_pure,Result.andThen_ok,invoke,Array.empty_append,Array.append_empty]
  rw[<-hf,eh.enters hy,<-bV,bW]
 unfold Oper.nu
 rw[iy]
 show Calls P f _ w _
 rw[<-hf]
 exact h
theorem qT (hG:jF P G){f:FuncId}{guard:Option (Nat×Bool)}{R:Rows}{K:D->Rows->Prop}
    (lQ:pr G f=none) (h:sY G f (args.toList.map ev) R K): ∃val R' x,K val R'/\oV G f=some x/\Ew P ⟨dst, .call ⟨.value (.func f),args,dv⟩,type,pos',after,guard⟩ ev R val R'/\(x.refs=[]->pW P ⟨dst, .call ⟨.value (.func f),args,dv⟩,type,pos',after,guard⟩ ev R val R'):=by
  unfold sY at h
  split at h
  . rename_i x hx
    have wq:x.gone=none:=by simpa [pr,hx] using lQ
    obtain⟨eh,hf⟩:=Gk hG hx
    split at h
    . rename_i az ei has iZ
      simp only[dm,Bool.or_eq_true,aE]at h
      obtain⟨⟨⟨Fx,h1,h2⟩,h3,h4⟩,h⟩:=h
      generalize Jv:mA R x.refs (args.toList.map ev)=ids at*
      have uN:=Mm.1 h1
      have ju:=Mm.1 h2
      have kU:=Mn.1 h3
      have oJ:=Z4.1 h4
      have main : ∀res aj,ids.length<=aj.length->K (res.sX (bk ids R.length) true) (tS (bk ids R.length) ids aj R++Bs (bk ids R.length) (aj.drop ids.length))->kG P x.f az ei res aj->(x.flat=true->FF res/\rM aj)->
          ∃val R' y,K val R'/\oV G f=some y/\Ew P ⟨dst, .call ⟨.value (.func f),args,dv⟩,type,pos',after,guard⟩ ev R val R'/\(y.refs=[]->pW P ⟨dst, .call ⟨.value (.func f),args,dv⟩,type,pos',after,guard⟩ ev R val R'):=by
        intro res aj hle hK hA jB
        let len:=match lM x.refs (args.toList.map ev) with|[]=>false|_=>true
        have hlen:lM x.refs (args.toList.map ev)≠[]->len=true:=by
          intro ia
          show(match lM x.refs (args.toList.map ev) with|[]=>false|_=>true)=true
          split
          . contradiction
          . rfl
        have wT:len=true->x.flat=true:=by
          intro hl
          rcases Fx with h|h
          . exact h.1
          . exfalso
            have hl:(match lM x.refs (args.toList.map ev) with|[]=>false|_=>true)=true:=hl
            split at h
            . rename_i e;rw[e]at hl;cases hl
            . cases h
        have core: ∀(c:Ctx) (w:World) (a:Act),Mem c w->c.base<=w.heap.size->mn c R->(∀r row,r∈ids->R.getD r none=some row->c.R r=some row)->(∀r,R.length<=r->r<R.length+(aj.length-ids.length)->c.R r=none)->(∀y∈args.toList,Rep c w (ev y) (a.eval y))->
            ∀(K':Act->World->Prop) (Q:Exit->Act->World->Prop),(∀v w' c',lO (c.pass w ids ei len) w c' w'->(∀i,c'.R i=aj[i]?)->Rep (c.behind w c' ids R.length (tS (bk ids R.length) ids aj R++Bs (bk ids R.length) (aj.drop ids.length))) w' (res.sX (bk ids R.length) true) v->K' (a.put dst v) w')->
            (⟨dst, .call ⟨.value (.func f),args,dv⟩,type,pos',after,guard⟩:Oper).nu P a w K' Q:=by
          intro c w a hm hb pq od fj fe K' Q ry
          have hn:=UI (len:=len) (w:=w) od iZ
          have gh:=Mo (len:=len) (ρ:=a.eval) hm pq hn has hlen oJ uN fe
          have mr:=hA (c.pass w ids ei len) w _ (Y6 hm od kU ju iZ) rfl (λr=>rfl) gh
          refine Y8 eh hf (eh.real wq) (mr.mono λe w' sS=> ?_)
          obtain⟨v,c',he,nN,j8,kP⟩:=sS
          obtain⟨g1,g2,_⟩:=ZO hm hb od fj kU iZ hle nN j8 (λe=>(jB (wT e)).2) rfl
          exact⟨v,he,ry v w' c' nN j8 (Y7 g1 g2 (λ_=>trivial) (λe=>(jB (wT e)).1) kP)⟩
        have jj: ∀(c:Ctx) (w:World) (a:Act),(∀y∈(⟨dst, .call ⟨.value (.func f),args,dv⟩,type,pos',after,guard⟩:Oper).op.operands,Rep c w (ev y) (a.eval y))-> ∀y∈args.toList,Rep c w (ev y) (a.eval y):=λc w a fe y hy=>fe y (by simp [Op.operands,Call.operands];exact .inr (by simpa using hy))
        refine⟨_,_,x,hK,hx,λc w a hm hb hR fe K' Q ry=> ?_,λhrefs=> ?_⟩
        . have pq:mn c R:=λr row ao g1 g2=>by rw[hR,g2]at g1;exact(Option.some.inj g1).symm
          have od: ∀r row,r∈ids->R.getD r none=some row->c.R r=some row:=λr row _ e=>by rw[hR];exact e
          have fj: ∀r,R.length<=r->r<R.length+(aj.length-ids.length)->c.R r=none:=λr e _=>by rw[hR,aV,aJ e];rfl
          refine core c w a hm hb pq od fj (jj c w a fe) K' Q λv w' c' nN j8 kP=> ?_
          obtain⟨g1,g2,g3,g4,g5,g6,g7⟩:=ZO hm hb od fj kU iZ hle nN j8 (λe=>(jB (wT e)).2) rfl
          have wh:(tS (bk ids R.length) ids aj R).length=R.length:=(U3 kU hle (λr hr=>by
            obtain⟨row,q1,_⟩:=(Fo iZ).2 _ r (Bp hr)
            by_cases hl:r<R.length
            . exact hl
            . rw[aV,aJ (by omega)]at q1;cases q1)).1
          have iF:=U3 (f:=bk ids R.length) kU hle (λr hr=>by
            obtain⟨row,q1,_⟩:=(Fo iZ).2 _ r (Bp hr)
            by_cases hl:r<R.length
            . exact hl
            . rw[aV,aJ (by omega)]at q1;cases q1)
          refine ry v w' _ ⟨g3,g4,g5.mono λb _ ⟨r,y,k1,k2,_,k4⟩=>⟨r,y,k1,k2,k4⟩,g6,λr ao hr hv=> ?_⟩ (λr=> ?_) kP
          . by_cases hc:R.length<=r/\r<(tS (bk ids R.length) ids aj R++Bs (bk ids R.length) (aj.drop ids.length)).length
            . exact .inr (g7 r hc.1 hc.2 hv)
            . left
              simp only[Ctx.behind,if_neg hc]at hv⊢
              refine⟨?_,hv,trivial⟩
              simp only[Ctx.behind]at hr
              split at hr
              . rename_i Hk
                rcases Hk with Hk|Hk
                . obtain⟨row,q1,_⟩:=(Fo iZ).2 _ r (Bp Hk)
                  exact⟨row,od r row Hk q1⟩
                . contradiction
              . exact⟨_,hr⟩
          . simp only[Ctx.behind]
            split
            . rfl
            . rename_i Hk
              have h1:r∉ids:=λe=>Hk (.inl e)
              by_cases bg:r<R.length
              . rw[aV,bI (by omega),<-aV,iF.2.2 r h1,hR]
              . rw[hR,aV,aJ (by omega),aV,aJ (by
                  by_cases h2:r<(tS (bk ids R.length) ids aj R++Bs (bk ids R.length) (aj.drop ids.length)).length
                  . exact(Hk (.inr ⟨by omega,h2⟩)).elim
                  . omega)]
        . have QB:ids=[]:=by rw[<-Jv,hrefs];exact Zkm R _
          subst QB
          have uR:tS (bk [] R.length) [] aj R=R:=by cases aj<;>rfl
          rw[uR]
          simp only[dE,fS]at*
          refine⟨⟨_,rfl⟩,λc w a hm hb pq fj fe K' Q ry=> ?_⟩
          have od: ∀r row,r∈([]:List Nat)->R.getD r none=some row->c.R r=some row:=λr row e=>by cases e
          have Hl: ∀r,R.length<=r->r<R.length+(aj.length-0)->c.R r=none:=λr e1 e2=>fj r e1 (by simp [Bs];omega)
          refine core c w a hm hb pq od Hl (jj c w a fe) K' Q λv w' c' nN j8 kP=> ?_
          obtain⟨g1,g2,g3,g4,g5,g6,g7⟩:=ZO hm hb od Hl kU iZ hle nN j8 (λe=>(jB (wT e)).2) rfl
          rw[uR]at g3 g4 g6 g7 kP
          simp only[dE,fS]at g3 g4 g6 g7 kP
          refine ry v w' _ ⟨g3,g4,g5.mono (λb _ ⟨r,y,k1,k2,k3,k4⟩=>(by cases k3)),g6,λr=> ?_,λr hr=> ?_,λr k1 k2=>g7 r k1 k2⟩ kP
          . simp [Ctx.behind]
          . simp only[Ctx.behind]
            rw[if_neg (by omega),if_neg (by omega)]
            exact⟨rfl,Iff.rfl⟩
      split at h
      . rename_i res aj hm
        simp only[Ei,dm,D.dd,nA]at h
        obtain⟨h5,h6⟩:=eh.ok wq _ _ _ _ hm
        exact main res aj (lE h.1) h.2 h5 h6
      . rename_i p res aj hm
        simp only[Ei,dm,D.dd,nA]at h
        obtain⟨h5,h6⟩:=eh.when wq _ _ _ _ _ hm h.1
        exact main res aj (lE h.2.1) h.2.2 h5 h6
      . rename_i α v res aj hm
        have h:=h v rfl
        simp only[Ei,dm,D.dd,nA]at h
        obtain⟨h5,h6⟩:=eh.abs wq _ _ _ _ _ _ hm
        exact main (res v) (aj v) (lE h.1) h.2 h5 h6
      . rename_i p α v res aj hm
        obtain⟨hp,h⟩:=h
        have h:=h v rfl
        simp only[Ei,dm,D.dd,nA]at h
        obtain⟨h5,h6⟩:=eh.lB wq _ _ _ _ _ _ _ hm hp
        exact main (res v) (aj v) (lE h.1) h.2 h5 h6
      . exact h.elim
    . exact h.elim
  . exact h.elim
theorem Zb8{f:Nat->Nat}:∀{ds:List D},U4 ds=true->D.mF f true ds=ds
 |[],_=>rfl
 |d ::l,h=>by
  simp only[U4]at h
  split at h
  ·rename_i hd
   simp only[D.mF,Zb8 h]
   cases d<;>first|(simp[QC]at hd;done)|simp[D.mC]
  ·cases h
theorem Zkg{f:Nat->Nat}(h:sZ d=true):d.jl f true=d:=by
 cases d with
 |agg cs=>show D.agg (D.mF f true cs)=_;rw[Zb8 h]
 |_=>first|(simp[sZ,QC]at h;done)|simp[D.jl,D.mC]
theorem Zbd{f:Nat->Nat}:∀{ds:List D},U5 ds=true->D.AJ f true ds=ds
 |[],_=>rfl
 |d ::l,h=>by
  simp only[U5]at h
  split at h
  ·rename_i hd
   simp only[D.AJ,Zbd h,Zkg hd]
  ·cases h
theorem Zss{f:Nat->Nat}(h:uS d=true):d.sX f true=d:=by
 cases d with
 |ee ds=>show D.ee (D.AJ f true ds)=_;rw[Zbd h]
 |agg cs=>exact Zkg (d:=.agg cs) h
 |_=>first|(simp[uS,sZ,QC]at h;done)|simp[D.sX,D.jl,D.mC]
theorem Zv{R:Rows}(f g:Nat->Nat):∀{ds:List D},sT R f [] ds=sT R g [] ds
 |[]=>rfl
 |d::l=>by simp only[sT,Zv f g (ds:=l)]
theorem xT{G:List bc}{f:FuncId}{args:List D}{R:Rows}{K:D->Rows->Prop}(h:Kw G f args R K):sY G f args R K:=by
 unfold Kw at h
 split at h
 ·rename_i x hx
  split at h
  ·rename_i hrefs
   split at h
   ·rename_i az has
    simp only[dm]at h
    have hv:∀{res:D} {aj:List Row},Mw R res aj K->Ei R [] res aj K:=by
     intro res aj h
     have uR:tS (bk [] R.length) [] aj R=R:=by cases aj<;>rfl
     simp only[Ei,dm,dE,fS,uR]
     refine⟨by simp,?_⟩
     unfold Mw at h
     split at h
     ·simp only[dm,D.dd]at h
      rw[Zss h.1]
      simp only[D.dd,nA,Bs,List.map_nil,List.append_nil]
      exact h.2
     ·exact h
    unfold sY
    simp only[hx,hrefs,Zkm]
    rw[Zv _ (λr=>r),has]
    simp only[Bo,dm,Zw]
    refine⟨?_,?_⟩
    ·have:∀l:List Nat,nW l []=true:=λl=>by
      rw[Z4];intro r _ hr;cases hr
     simp only[pL,CM,CV,this,Bool.and_true]
     have h1:=h.1
     revert h1
     cases lM [] args<;>simp[CX]
    ·revert h
     cases x.m az []with
     |no=>exactλh=>h.2
     |ok res aj=>exactλh=>hv h.2
     |«when»p res aj=>exactλh=>⟨h.2.1,hv h.2.2⟩
     |abs α v res aj=>exactλh X hX=>hv (h.2 X hX)
     |lB p α v res aj=>exactλh=>⟨h.2.1,λX hX=>hv (h.2.2 X hX)⟩
   ·exact h.elim
  ·exact h
 ·exact h.elim
theorem Wv(hG:jF P G){f:FuncId}{guard:Option (Nat×Bool)}{R:Rows}{K:D->Rows->Prop}
 (lQ:pr G f=none) (h:Kw G f (args.toList.map ev) R K):∃val R' x,K val R'/\oV G f=some x/\Ew P ⟨dst,.call ⟨.value (.func f),args,dv⟩,type,pos',after,guard⟩ ev R val R'/\(x.refs=[]->pW P ⟨dst,.call ⟨.value (.func f),args,dv⟩,type,pos',after,guard⟩ ev R val R'):=
 qT hG lQ (xT h)

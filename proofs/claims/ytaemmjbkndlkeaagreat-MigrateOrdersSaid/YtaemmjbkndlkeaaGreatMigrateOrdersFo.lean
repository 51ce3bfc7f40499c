import Derived.Test.YtaemmjbkndlkeaaGreatMigrateOrdersFp
open List renaming getD->aV,getElem?_eq_none->aJ,getElem?_append_left->bI,getElem?_take->aF,getElem?_drop->fI,getElem?_eq_getElem->aI,getElem?_toArray->bH,map_cons->fG,map_toArray->bV,mem_cons->cQ,mem_map->fR,mem_of_getElem?->fL,length_nil->dE,drop_zero->fS
open Nat renaming le_refl->aX,zero_add->bG,add_assoc->fP
open Option renaming getD_some->aR
open Bool renaming false_eq_true->aA
open Array renaming toArray_toList->bW,extract_eq_self_of_le->fQ
set_option linter.all false
namespace Go.GD
open Go
variable {G:List ba}{I I':ae}{K:Act->World->Prop}{P:Program}{Q:Exit->Act->World->Prop}{a:Act}{after:Array Edge}{args:Array Operand}{d d' val:D}{dst:Option Tmp}{ev:Operand->D}{i:Nat}{pos':String}{row:Row}{type:TypeId}{dj:Array TypeId}{v:Value}{vs:List Value}{w w':World}
structure Ev(c:Ctx)(w:World)(R R':Rows)(c':Ctx)(w':World):Prop where
 mem:Mem c' w'
 cy:ja c w c' w'
 fr:Fr (λ_=>False) w w'
 fe:∀b,c'.I b->c.I b\/w.heap.size<=b
 rows:∀r,c'.R r=if R.length<=r/\r<R'.length then R'.getD r none else c.R r
 jD:∀r,r<R.length\/R'.length<=r->c'.ρ r=c.ρ r/\(c'.V r↔c.V r)
 new:∀r,R.length<=r->r<R'.length->¬c'.V r->w.heap.size<=c'.ρ r
structure lT(c:Ctx)(w:World)(c':Ctx)(w':World):Prop where
 mem:Mem c' w'
 cy:ja c w c' w'
 fr:Fr (λb=>∃r x,c.R r=some x/\¬c.V r/\c.ρ r=b) w w'
 fe:∀b,c'.I b->c.I b\/w.heap.size<=b
 om:∀r ao,c'.R r=some ao->¬c'.V r->((∃row,c.R r=some row)/\¬c.V r/\c'.ρ r=c.ρ r)\/w.heap.size<=c'.ρ r
def P1(P:Program)(o:Oper)(a:Act)(next:Act->World->Prop):Result Next->Prop
 |.ok (.value v) w'=>next (a.put o.dst v) w'
 |.ok .skip w'=>next (a.put o.dst undef) w'
 |.ok (.enter f args) w'=>Calls P f args w' λe Hr=>∃v,e=.returned v/\next (a.put o.dst v) Hr
 |.ok (.round l f tmps assign body) w'=>RoundIn Fence.wide 0 P l f tmps assign body w' λe Hr=>∃v,e=.returned v/\next (a.put o.dst v) Hr
 |_=>False
def _root_.Go.Oper.nk(P:Program)(o:Oper)(a:Act)(w:World)(next:Act->World->Prop)(_:Exit->Act->World->Prop):Prop:=P1 P o a next ((execOp a.eval o).run P w)
theorem Gx{o:Oper}{u:Value}(h:(execOp a.eval o).run P w=.ok (.value u) w')(hK:K (a.put o.dst u) w'):o.nk P a w K Q:=by
 unfold Oper.nk;rw[h];exact hK
theorem xS{o:Oper}(h:(execOp a.eval o).run P w=.ok .skip w')(hK:K (a.put o.dst undef) w'):o.nk P a w K Q:=by
 unfold Oper.nk;rw[h];exact hK
theorem Ws{P:Program}{o:Oper}{a:Act}{w:World}{K K':Act->World->Prop}{Q Q':Exit->Act->World->Prop}(h:∀a w,K a w->K' a w)(hh:o.nk P a w K Q):o.nk P a w K' Q':=by
 unfold Oper.nk at hh⊢
 revert hh
 generalize(execOp a.eval o).run P w=r
 intro hh
 cases r with
 |halt _ _=>exact hh.elim
 |ok n w'=>
  cases n with
  |value v=>exact h _ _ hh
  |skip=>exact h _ _ hh
  |enter f args=>exact Calls.mono hh λe w' ⟨v,he,hk⟩=>⟨v,he,h _ _ hk⟩
  |round l f tmps assign body=>exact RoundIn.mono hh λe w' ⟨v,he,hk⟩=>⟨v,he,h _ _ hk⟩
  |_=>exact hh.elim
def pL(P:Program)(o:Oper)(ev:Operand->D)(R:Rows)(val:D)(R':Rows):Prop:=
 (∃news,R'=R++news)/\∀(c:Ctx) (w:World) (a:Act),Mem c w->c.base<=w.heap.size->mn c R->(∀r,R.length<=r->r<R'.length->c.R r=none)->(∀x∈o.op.operands,Rep c w (ev x) (a.eval x))->
  ∀K Q,(∀v w' c',Ev c w R R' c' w'->Rep c' w' val v->K (a.put o.dst v) w')->o.nk P a w K Q
def EC(P:Program)(o:Oper)(ev:Operand->D)(R:Rows)(val:D)(R':Rows):Prop:=
 ∀ (c:Ctx) (w:World) (a:Act),Mem c w->c.base<=w.heap.size->(∀r,c.R r=R.getD r none)->(∀x∈o.op.operands,Rep c w (ev x) (a.eval x))->
  ∀K Q,(∀v w' c',lT c w c' w'->(∀r,c'.R r=R'.getD r none)->Rep c' w' val v->K (a.put o.dst v) w')->o.nk P a w K Q
theorem pL.toW{o:Oper}{R:Rows}{R':Rows}(h:pL P o ev R val R'):EC P o ev R val R':=by
 obtain⟨⟨news,hn⟩,h⟩:=h
 intro c w a hm hb hR eh K Q hK
 refine h c w a hm hb (λr row ao h1 h2=>by rw[hR,h2]at h1;exact(Option.some.inj h1).symm) (λr h1 _=>by rw[hR];simp[aV,aJ h1]) eh K Q λv w' c' hs hr=>?_
 refine hK v w' c' ⟨hs.mem,hs.cy,hs.fr.mono (λb _ hf=>hf.elim),hs.fe,λr ao pI hv=>?_⟩ (λr=>?_) hr
 ·by_cases h1:R.length<=r/\r<R'.length
  ·exact .inr (hs.new r h1.1 h1.2 hv)
  ·rw[hs.rows,if_neg h1]at pI
   obtain⟨h2,h3⟩:=hs.jD r (by omega)
   exact .inl ⟨⟨_,pI⟩,λe=>hv (h3.2 e),h2⟩
 ·rw [hs.rows,hR]
  split
  ·rfl
  ·rename_i h1
   subst hn
   by_cases h2:r<R.length
   ·simp[aV,bI h2]
   ·have h3:(R++news).length<=r:=by omega
    simp[aV,aJ h3,aJ (show R.length<=r by omega)]
theorem mL{o:Oper}{R:Rows}(h:∀(c:Ctx) (w:World) (a:Act),Mem c w->mn c R->(∀x∈o.op.operands,Rep c w (ev x) (a.eval x))->∃u,(execOp a.eval o).run P w=.ok (.value u) w/\Rep c w val u):pL P o ev R val R:=by
 refine⟨⟨[],by simp⟩,λc w a hm hb hA _ eh K Q hK=>?_⟩
 obtain⟨u,hu,hr⟩:=h c w a hm hA eh
 exact Gx hu (hK u w c ⟨hm,ja.refl c w,Fr.refl _ w,λb hb=>.inl hb,λr=>by rw[if_neg (by omega)],λ_ _=>⟨rfl,Iff.rfl⟩,λr h1 h2=>by omega⟩ hr)
theorem P2{o:Oper}{R:Rows}(h:∀(c:Ctx) (w:World) (a:Act),Mem c w->mn c R->(∀x∈o.op.operands,Rep c w (ev x) (a.eval x))->
 ∃x:Sem Value,execOp a.eval o=(do pure (.value (<-x)))/\P3 P x w c R.length row val):pL P o ev R val (R++[some row]):=by
 refine⟨⟨[some row],rfl⟩,λc w a hm hb hA eu eh K Q hK=>?_⟩
 obtain⟨x,hx,u,arr,hu,hi,hr⟩:=h c w a hm hA eh
 have hk:c.R R.length=none:=eu R.length (aX _) (by simp)
 have ij:(execOp a.eval o).run P w=.ok (.value u) (w.alloc (.cells arr row.ty)):=by
  rw[hx,Sem.run_bind,hu];rfl
 refine Gx ij (hK u _ (c.add R.length row w.heap.size) ⟨hm.alloc hk row arr hi.1 hi.2,ja.alloc hm hk row _,Fr.alloc _ w _,λb hb=>.inl hb,λr=>?_,λr hr=>?_,λr h1 h2 _=>?_⟩ (hr hk hm))
 ·by_cases e:r=R.length
  ·subst e
   simp[Ctx.add,aV]
  ·have:¬(R.length<=r/\r<(R++[some row]).length):=by simp;omega
   rw[if_neg this]
   simp[Ctx.add,e]
 ·have:r≠R.length:=by simp at hr;omega
  simp[Ctx.add,this]
 ·have:r=R.length:=by simp at h2;omega
  simp[Ctx.add,this]
def Gw:Op->Bool|.store _ _ _=>true|_=>false
theorem Zqs{c:Ctx}{cs:List D}(h:jk c w cs vs)(o n:Nat):jk c w ((cs.drop o).take n) ((vs.drop o).take n):=by
 rw[Ei]at h⊢
 obtain⟨h1,h2⟩:=h
 refine⟨by simp[h1],λj v hv=>?_⟩
 simp only[aF,fI]at hv
 split at hv
 ·rename_i hj
  have:=h2 (o+j) v hv
  simp only[aV,aF,fI,hj,if_true]at this⊢
  exact this
 ·cases hv
theorem v7{c:Ctx}:∀{dj:List sq} {az:List D} {vs:List Value},jk c w az vs->fits dj az=true->pU vs.toArray 0 az
 |dj,az,vs,h,hf=>by
  intro j d hj
  have bd:=(List.getElem?_eq_some_iff.1 hj).1
  have hl:=h.length
  have hv:vs[j]?=some vs[j]:=aI (by omega)
  have hr:=(Ei.1 h).2 j _ hv
  simp only[aV,hj,aR]at hr
  have hs :∀{dj:List sq} {az:List D} {j:Nat},fits dj az=true->az[j]?=some d->(∃k n,d=.int k n)\/(∃b,d=.bool b)\/∃s,d=.str s:=by
   intro dj
   induction dj with
   |nil=>intro az j hf hj;cases az<;>simp[fits]at hf;simp at hj
   |cons t ts ih=>
    intro az j hf hj
    cases az with
    |nil=>cases t<;>simp[fits]at hf
    |cons e es=>
     cases t<;>simp only[fits,aE,aA]at hf
     all_goals
      cases j with
      |succ j=>exact ih hf.2 (by simpa using hj)
      |zero=>
       simp at hj
       subst hj
       cases e<;>simp[D.isInt,D.isBool,D.isStr]at hf⊢
  simp only[bG,bH,hv]
  rcases hs hf hj with⟨k,n,rfl⟩|⟨b,rfl⟩|⟨s,rfl⟩<;>(simp only[dc]at hr;rw[hr];rfl)
theorem Y4{c:Ctx}{w:World}:∀{ds:List D} {vs:List Value},kd c w ds vs->∀i,i<ds.length->∃v,vs[i]?=some v/\VRep c w (ds.getD i .dead) v
 |[],[],_,i,h=>by simp at h
 |d::ds,v::vs,h,0,_=>⟨v,rfl,h.1⟩
 |d::ds,v::vs,h,i+1,hi=>by
  obtain⟨u,hu,hr⟩:=Y4 h.2 i (by simpa using hi)
  exact⟨u,by simpa using hu,by simpa using hr⟩
 |[],_::_,h,_,_=>h.elim
 |_::_,[],h,_,_=>h.elim
theorem xap{x:iB}(h:CV d=some x):x.d=d:=by
 have go:∀{cs:List iB} {ps:List (Nat×Nat×Nat)},P4 cs=some ps->ps.map Ib=cs:=by
  intro cs
  induction cs with
  |nil=>intro ps h;simp[P4]at h;subst h;rfl
  |cons y l ih=>
   intro ps h
   simp only[P4]at h
   split at h
   ·rename_i p qs h1 h2
    cases h
    simp only[fG,ih h2]
    cases y<;>simp[Hv]at h1
    subst h1;rfl
   ·cases h
 cases d<;>simp only[CV]at h<;>first|(cases h;done)|skip
 case gj f cs=>
  split at h
  ·rename_i ps hp;cases h;simp only[iB.d,go hp]
  ·cases h
 all_goals(cases h;rfl)
theorem WE{c:Ctx}{w:World}{ev:Operand->D}{ρ:Operand->Value}:∀{xs:List Operand} {cs:List iB},Ky (xs.map ev)=some cs->(∀x∈xs,Rep c w (ev x) (ρ x))->oL c w cs (xs.map ρ)
 |[],cs,h,_=>by simp[Ky]at h;subst h;trivial
 |x ::xs,cs,h,hr=>by
  simp only[fG,Ky]at h
  split at h
  ·rename_i y ys h1 h2
   cases h
   refine⟨?_,WE h2 λz hz=>hr z (by simp[hz])⟩
   have:=hr x (by simp)
   rw[<-xap h1]at this
   rw[Wn]
   cases y<;>exact this
  ·cases h
theorem Nk{T:iu}(hT:jg P T)(o:Oper)(ev:Operand->D)(R:Rows)(K:D->Rows->Prop)(h:gp T o.op ev R K):
 ∃val R',K val R'/\(if Gw o.op then EC P o ev R val R' else pL P o ev R val R'):=by
 obtain⟨dst,op,type,pos,after,guard⟩:=o
 simp only at h
 cases op<;>(try simp only[gp]at h)<;>try(exact h.elim)
 case makeFunc fn first captured=>
  cases fn<;>simp only at h<;>try(exact h.elim)
  rename_i f
  simp only[dd,aE]at h
  obtain⟨⟨h0,hy⟩,h⟩:=h
  split at h
  ·rename_i cs hc
   refine⟨_,_,h,mL λc w a hm hA eh=>?_⟩
   have hf:first= #[]:=Array.eq_empty_of_size_eq_zero (bE h0)
   subst hf
   refine⟨.func (.func f) #[] (captured.map a.eval),?_,captured.toList.map a.eval,?_,WE hc λx hx=>eh x (by simp[Op.operands];simpa using hx)⟩
   ·simp only[execOp,Instr.makeFunc,Sem.run_bind,Sem.run_pure,Array.map_empty];rfl
   ·exact .inl ⟨lE hy,by rw[<-bV,bW]⟩
  ·exact h.elim
 case move x=>
  rw[D.c6]at h
  exact⟨_,_,h,mL λc w a hm hA eh=>⟨_,rfl,eh x (by simp[Op.operands])⟩⟩
 case assign x=>
  rw[D.c6]at h
  exact⟨_,_,h,mL λc w a hm hA eh=>⟨_,rfl,eh x (by simp[Op.operands])⟩⟩
 case alloc t=>
  split at h
  ·rename_i ht
   simp only[dd,aE,Kx]at h
   obtain⟨⟨h0,hl⟩,h⟩:=h
   exact⟨_,_,h,P2 λc w a hm hA eh=>⟨_,rfl,Zom hT ht (lE h0) (bE hl) R.length c w⟩⟩
  ·exact h.elim
 case box t x=>
  split at h
  ·rename_i ht
   simp only[dd,aE,Kx,D.ey]at h
   obtain⟨⟨⟨h0,hv⟩,hl⟩,h⟩:=h
   exact⟨_,_,h,P2 λc w a hm hA eh=>⟨_,rfl,xaG (lE h0) hv (bE hl) R.length c w (eh x (by simp[Op.operands]))⟩⟩
  ·exact h.elim
 case build t parts=>
  obtain⟨val,hK,hr⟩:=xT hT h
  refine⟨_,_,hK,mL λc w a hm hA eh=>?_⟩
  obtain⟨u,hu,hx⟩:=hr c w a.eval (λp hp=>eh p.2 (by simp[Op.operands];exact⟨p.1,by simpa using hp⟩))
  refine⟨u,?_,hx⟩
  simp only[execOp]
  rw[Sem.run_bind,show parts.map (λx=>(x.1,a.eval x.2))=(parts.toList.map λp=>(p.1,a.eval p.2)).toArray from by rw[<-bV,bW],hu]
  rfl
 case buildSlice t len parts=>
  obtain⟨h1,h2⟩:=Y5.1 h
  cases hl:US t len
  rotate_left
  ·obtain⟨row,val,hK,hr⟩:=Znk hT (h1 hl)
   refine⟨_,_,hK,P2 λc w a hm hA eh=>⟨_,?_,hr c w a.eval (λp hp=>eh p.2 (by simp[Op.operands];exact⟨p.1,by simpa using hp⟩))⟩⟩
   simp only[execOp]
   rw[show parts.map (λx=>(x.1,a.eval x.2))=(parts.toList.map λp=>(p.1,a.eval p.2)).toArray from by rw[<-bV,bW]]
  have h:=h2 hl
  obtain⟨val,hK,hr⟩:=Zry hT h
  refine⟨_,_,hK,⟨[],by simp⟩,λc w a hm hb hA _ eh K Q hK=>?_⟩
  obtain⟨u,arr,ty,hu,hx⟩:=hr c w a.eval hb (λp hp=>eh p.2 (by simp[Op.operands];exact⟨p.1,by simpa using hp⟩))
  have ij:(execOp a.eval (⟨dst,.buildSlice t len parts,type,pos,after,guard⟩:Oper)).run P w=.ok (.value u) (w.alloc (.cells arr ty)):=by
   simp only[execOp]
   rw[Sem.run_bind,show parts.map (λx=>(x.1,a.eval x.2))=(parts.toList.map λp=>(p.1,a.eval p.2)).toArray from by rw[<-bV,bW],hu]
   rfl
  exact Gx ij (hK u _ (c.fe w.heap.size) ⟨zap hm _,UR hm _,Fr.alloc _ w _,λb hb=>hb.elim .inl (λe=>.inr (by omega)),λr=>by rw[if_neg (by omega)];rfl,λ_ _=>⟨rfl,Iff.rfl⟩,λr h1 h2=>by omega⟩ (hx hm))
 case load t x=>
  obtain⟨val,hK,hr⟩:=Zil hT h
  refine⟨_,_,hK,mL λc w a hm hA eh=>?_⟩
  obtain⟨u,hu,hx⟩:=hr c w _ hm hA (eh x (by simp[Op.operands]))
  exact⟨u,by simp only[execOp];rw[Sem.run_bind,hu];rfl,hx⟩
 case store t x y=>
  obtain⟨R',hK,hr⟩:=Zs5 hT h
  refine⟨_,_,hK,?_⟩
  simp only[Gw,if_true]
  intro c w a hm hb hR eh K Q hK
  obtain⟨r,ao,arr,w',ij,YE,⟨row,cz⟩,hV,hg,mw,jZ⟩:=hr c w _ _ hm hR (eh x (by simp[Op.operands])) (eh y (by simp[Op.operands]))
  refine xS (w':=w') ?_ (hK undef w' _ ⟨mw,hg,?_,λb hb=>.inl hb,λs sM hs hv=>?_⟩ jZ trivial)
  ·simp only[execOp];rw[Sem.run_bind,ij];rfl
  rotate_left
  ·by_cases e:s=r
   ·exact .inl ⟨⟨row,by rw[e];exact cz⟩,hv,rfl⟩
   ·exact .inl ⟨⟨sM,by simpa[Ctx.jP,e]using hs⟩,hv,rfl⟩
  ·rw[YE]
   exact(Sv w _ arr).mono λb _ e=>⟨r,row,cz,hV,e.symm⟩
 case nilCheck x=>
  have go:∀d,ev x=d->(∃a b c,d=.ptr a b c)\/(∃a b c e,d=.im a b c e)->K d R->∃val R',K val R'/\pL P ⟨dst,.nilCheck x,type,pos,after,guard⟩ ev R val R':=by
   intro d hd P5 hK
   refine⟨_,_,hK,mL λc w a hm hA eh=>?_⟩
   have hx:=eh x (by simp[Op.operands])
   rw[hd]at hx
   have hp:∃q,a.eval x=.pointer (some q):=by
    rcases P5 with⟨r,i,off,rfl⟩|⟨sz,es,i,off,rfl⟩
    ·obtain⟨_,_,_,_,hv⟩:=hx;exact⟨_,hv⟩
    ·obtain⟨_,_,_,_,_,hv,_⟩:=hx;exact⟨_,hv⟩
   obtain⟨q,hq⟩:=hp
   refine⟨a.eval x,?_,hx⟩
   simp only[execOp,hq,Sem.run_pure]
  split at h
  ·rename_i hd;exact go _ hd (.inl ⟨_,_,_,rfl⟩) h
  ·rename_i hd;exact go _ hd (.inr ⟨_,_,_,_,rfl⟩) h
  ·exact h.elim
 case binOp op t x y ty=>
  have fin:∀(val:D),(∀c w u v,Rep c w (ev x) u->Rep c w (ev y) v->∃z,(do eqGuard op t x y u v;binOp op t u v).run P w=.ok z w/\Rep c w val z)->pL P ⟨dst,.binOp op t x y ty,type,pos,after,guard⟩ ev R val R:=λval hv=>
   mL λc w a hm hA eh=>by
    obtain⟨z,hz,hr⟩:=hv c w _ _ (eh x (by simp[Op.operands])) (eh y (by simp[Op.operands]))
    refine⟨z,?_,hr⟩
    simp only[execOp]
    rw[Sem.run_bind,hz];rfl
  unfold sR at h
  split at h
  ·rename_i k a k' b hx hy
   split at h
   ·simp only[dd,decide_eq_true_eq]at h
    refine⟨_,_,h.2,fin _ λc w u v hu hv=>?_⟩
    rw[hx]at hu;rw[hy]at hv
    rw[Rep.int.1 hu,Rep.int.1 hv]
    exact⟨_,by rw[Sem.run_bind,Y6];exact(Zky h.1 w).1,rfl⟩
   ·simp only[dd,decide_eq_true_eq]at h
    refine⟨_,_,h.2,fin _ λc w u v hu hv=>?_⟩
    rw[hx]at hu;rw[hy]at hv
    rw[Rep.int.1 hu,Rep.int.1 hv]
    exact⟨_,by rw[Sem.run_bind,Y6];exact(Zky h.1 w).2,rfl⟩
   ·rename_i h1 h2
    simp only[dd,decide_eq_true_eq]at h
    obtain⟨rfl,h⟩:=h
    obtain⟨d,hK,hr⟩:=qaq (P:=P) (t:=t) ⟨λe=>h1 e,λe=>h2 e⟩ h
    refine⟨_,_,hK,fin _ λc w u v hu hv=>?_⟩
    rw[hx]at hu;rw[hy]at hv
    rw[Rep.int.1 hu,Rep.int.1 hv]
    obtain⟨z,hz,Y7⟩:=hr w
    exact⟨z,by rw[Sem.run_bind,Y6];exact hz,Y7 c⟩
  ·rename_i a b hx hy
   obtain⟨d,hK,hr⟩:=zaq (P:=P) (t:=t) (op:=op) (a:=a) (b:=b) (K:=λd=>K d R) h
   refine⟨_,_,hK,fin _ λc w u v hu hv=>?_⟩
   rw[hx]at hu;rw[hy]at hv
   rw[Rep.str.1 hu,Rep.str.1 hv]
   obtain⟨z,hz,Y7⟩:=hr w
   exact⟨z,by rw[Sem.run_bind,Zmi];exact hz,Y7 c⟩
  ·rename_i a b hx hy
   split at h
   ·rename_i ht
    have hd:=mK hT ht
    simp only at hd
    split at h
    ·refine⟨_,_,h,fin _ λc w u v hu hv=>?_⟩
     rw[hx]at hu;rw[hy]at hv
     rw[Rep.bool.1 hu,Rep.bool.1 hv]
     refine⟨_,?_,rfl⟩
     rw[Sem.run_bind,Z1j]
     simp only[binOp]
     simp[Op.equal,Op.maxDepth,run_equalIn_bool' w 9999 t a b hd]
    ·refine⟨_,_,h,fin _ λc w u v hu hv=>?_⟩
     rw[hx]at hu;rw[hy]at hv
     rw[Rep.bool.1 hu,Rep.bool.1 hv]
     refine⟨_,?_,rfl⟩
     rw[Sem.run_bind,Z1j]
     simp only[binOp]
     simp[Op.equal,Op.maxDepth,run_equalIn_bool' w 9999 t a b hd]
    ·exact h.elim
   ·exact h.elim
  ·rename_i a b hx hy
   split at h
   ·rename_i ti ht
    simp only[dd,aE]at h
    obtain⟨⟨⟨⟨⟨CU,h0⟩,he⟩,fa⟩,fb⟩,h⟩:=h
    obtain⟨i0,pE,BJ,_,Ko,Ah,_,heq,hc,d0,FB⟩:=Qc (hT.get ht)
    have h0:0<ti.size:=lE h0
    rw[heq]at he
    simp only[aE,Bool.not_eq_true']at he
    rw[hc]at fa fb
    have ko:P.cellsOf t=(mh P 8 t).length:=by rw[<-hc,Ko];simp[Program.cellsOf,pE,BJ]
    have uw:0<P.cellsOf t:=by simp[Program.cellsOf,pE,BJ,h0]
    have P6:∀c w u v,Rep c w (ev x) u->Rep c w (ev y) v->∃us vs:Array Value,u=.agg us/\v=.agg vs/\(Op.equalIn 10000 t (.agg us) (.agg vs)).run P w=.ok (eqs a b) w:=by
     intro c w u v hu hv
     rw[hx]at hu;rw[hy]at hv
     obtain⟨us,hu,ru⟩:=hu
     obtain⟨vs,hv,rv⟩:=hv
     refine⟨us.toArray,vs.toArray,hu,hv,?_⟩
     have JA:=Y8 (P:=P) 8 t 10000 (by omega) he.2 ko uw us.toArray vs.toArray 0 a b w fa fb (v7 ru fa) (v7 rv fb)
     have hlu:=ru.length;have hlv:=rv.length
     have hla:=sS fa;have Y9:=sS fb
     have uq:PZ d0=true:=by rw[<-Ml FB,<-Ah];exact CU
     simp only[oD,Sem.run_bind,UT FB uq uw,Result.andThen_ok]at JA
     rw[show us.toArray.extract 0 (0+P.cellsOf t)=us.toArray from by apply fQ;simp;omega,show vs.toArray.extract 0 (0+P.cellsOf t)=vs.toArray from by apply fQ;simp;omega]at JA
     exact JA
    split at h
    ·refine⟨_,_,h,fin _ λc w u v hu hv=>?_⟩
     obtain⟨us,vs,rfl,rfl,hr⟩:=P6 c w u v hu hv
     refine⟨_,?_,rfl⟩
     rw[Sem.run_bind,run_eqGuard_agg w _ _ _ _ _ _ he.1,Result.andThen_ok,run_eql_struct,hr];rfl
    ·refine⟨_,_,h,fin _ λc w u v hu hv=>?_⟩
     obtain⟨us,vs,rfl,rfl,hr⟩:=P6 c w u v hu hv
     refine⟨_,?_,rfl⟩
     rw[Sem.run_bind,run_eqGuard_agg w _ _ _ _ _ _ he.1,Result.andThen_ok,run_neq_struct,hr];rfl
    ·exact h.elim
   ·exact h.elim
  ·exact h.elim
 case unOp op t x=>
  split at h
  ·rename_i k n hx
   refine⟨_,_,h,mL λc w a hm hA eh=>?_⟩
   have:=eh x (by simp[Op.operands])
   rw[hx]at this
   exact⟨_,by simp only[execOp,Rep.int.1 this,Op.unary,Op.intArith,Sem.run_bind,Sem.run_pure];rfl,rfl⟩
  ·rename_i k n hx
   refine⟨_,_,h,mL λc w a hm hA eh=>?_⟩
   have:=eh x (by simp[Op.operands])
   rw[hx]at this
   exact⟨_,by simp only[execOp,Rep.int.1 this,Op.unary,Op.intBits,Sem.run_bind,Sem.run_pure];rfl,rfl⟩
  ·rename_i b hx
   refine⟨_,_,h,mL λc w a hm hA eh=>?_⟩
   have:=eh x (by simp[Op.operands])
   rw[hx]at this
   exact⟨_,by simp only[execOp,Rep.bool.1 this,Op.unary,Sem.run_bind,Sem.run_pure];rfl,rfl⟩
  ·exact h.elim
 case convert s d x=>
  obtain⟨val,hK,hr⟩:=xaq hT h
  refine⟨_,_,hK,mL λc w a hm hA eh=>?_⟩
  obtain⟨u,hu,hx⟩:=hr c w _ (eh x (by simp[Op.operands]))
  exact⟨u,by simp only[execOp];rw[Sem.run_bind,hu];rfl,hx⟩
 case makeSlice t l cp=>
  split at h
  ·rename_i kl n kc m hl hc
   obtain⟨row,val,hK,hr⟩:=vu (kl:=kl) (kc:=kc) hT h
   refine⟨_,_,hK,P2 λc w a hm hA eh=>⟨_,rfl,?_⟩⟩
   have h1:=eh l (by simp[Op.operands]);have h2:=eh cp (by simp[Op.operands])
   rw[hl]at h1;rw[hc]at h2
   rw[Rep.int.1 h1,Rep.int.1 h2]
   exact hr c w
  ·exact h.elim
 case slice t x lo hi mx=>
  cases mx with
  |some m=>simp only at h
  |none=>
   simp only at h
   obtain⟨val,hK,hr⟩:=qT hT h
   refine⟨_,_,hK,mL λc w a hm hA eh=>?_⟩
   obtain⟨u,hu,hx⟩:=hr c w _ a.eval hm hA (eh x (by simp[Op.operands])) (λy hy=>eh y (by simp[Op.operands,hy])) (λy hy=>eh y (by simp[Op.operands,hy]))
   exact⟨u,by simp only[execOp];rw[Sem.run_bind];simp only[Option.map_none];rw[hu];rfl,hx⟩
 case fieldAddr s x f=>
  split at h
  ·rename_i o q n hf
   simp only[dd]at h
   obtain⟨h0,h⟩:=h
   have h0:0<n:=lE h0
   obtain⟨fs,fd,g1,g2,g3,g4,g5⟩:=Z22 hT hf
   split at h
   ·rename_i r i off hx
    refine⟨_,_,h,mL λc w a hm hA eh=>?_⟩
    have:=eh x (by simp[Op.operands])
    rw[hx]at this
    obtain⟨row,k1,kV,k2,hv⟩:=this
    refine⟨_,by simp only[execOp,hv];rw[Sem.run_bind,Z6n g1 g2 (by simp only at g5;omega)];rfl,row,k1,kV,k2,by rw[g3,fP]⟩
   ·rename_i sz es i off hx
    refine⟨_,_,h,mL λc w a hm hA eh=>?_⟩
    have:=eh x (by simp[Op.operands])
    rw[hx]at this
    obtain⟨b,oo,arr,ty,fz,hv,hI,hi,hh,hE⟩:=this
    refine⟨_,by simp only[execOp,hv];rw[Sem.run_bind,Z6n g1 g2 (by simp only at g5;omega)];rfl,b,oo,arr,ty,fz,by rw[g3,fP],hI,hi,hh,hE⟩
   ·exact h.elim
  ·exact h.elim
 case field s x f=>
  split at h
  ·rename_i o q n hf
   obtain⟨fs,fd,g1,g2,g3,g4,g5⟩:=Z22 hT hf
   simp only at g4 g5
   split at h
   ·rename_i cs ti hx ht
    simp only[dd,aE]at h
    obtain⟨⟨h0,hle⟩,h⟩:=h
    have h0:0<n:=lE h0
    have hle:=lE hle
    obtain⟨_,_,_,_,_,Ah,_,_,_,d0,FB⟩:=Qc (hT.get ht)
    have run:∀(vs:List Value) (w:World) (r:Value),(part q vs.toArray o).run P w=.ok r w->(Instr.field s (.agg vs.toArray) f).run P w=.ok r w:=λvs w r hr=>by
     simp only[Instr.field,Sem.run_bind,run_underlying g1,Result.andThen_ok,g2,asAgg,Sem.run_pure,g4,g3,hr]
    split at h
    ·rename_i CU
     rw[D.ey]at h
     refine⟨_,_,h,mL λc w a hm hA eh=>?_⟩
     have:=eh x (by simp[Op.operands])
     rw[hx]at this
     obtain⟨vs,hv,hr⟩:=this
     have hp:=UT (P:=P) FB (by rw[<-Ml FB,<-Ah];exact CU) (by rw[<-g4,g5];exact h0) vs.toArray o w
     refine⟨_,by simp only[execOp,hv];rw[Sem.run_bind,run vs w _ hp];rfl,(vs.drop o).take n,?_,Zqs hr o n⟩
     rw[<-g4,g5]
     congr 1
     simp[List.extract_toArray,List.extract_eq_take_drop]
    ·rename_i CU
     simp only[D.c6]at h
     obtain⟨wQ,h⟩:=h
     refine⟨_,_,h,mL λc w a hm hA eh=>?_⟩
     have:=eh x (by simp[Op.operands])
     rw[hx]at this
     obtain⟨vs,hv,hr⟩:=this
     have hl:=hr.length
     have ir:vs[o]?=some vs[o]:=aI (by omega)
     have hp:=Q7 (P:=P) (t:=q) FB (by rw[<-Ml FB,<-Ah];exact CU) (xs:=vs.toArray) (o:=o) (v:=vs[o]) (by rw[bH];exact ir) w
     refine⟨_,by simp only[execOp,hv];rw[Sem.run_bind,run vs w _ hp];rfl,?_⟩
     have hc:=(Ei.1 hr).2 o _ ir
     generalize cs.getD o .dead=d at*
     cases d<;>first|exact hc|trivial|exact hc.elim
   ·exact h.elim
  ·exact h.elim
 case indexAddr t x ix=>
  split at h
  ·rename_i k n hn
   obtain⟨val,hK,hr⟩:=Zrv (k:=k) hT h
   refine⟨_,_,hK,mL λc w a hm hA eh=>?_⟩
   have h2:=eh ix (by simp[Op.operands])
   rw[hn]at h2
   obtain⟨u,hu,hx⟩:=hr c w _ hm hA (eh x (by simp[Op.operands]))
   exact⟨u,by simp only[execOp,Rep.int.1 h2];rw[Sem.run_bind,hu];rfl,hx⟩
  ·exact h.elim
 case index t x ix=>
  split at h
  ·rename_i s k n ht hx hn
   have hd:=mK hT ht
   simp only at hd
   simp only[dd,decide_eq_true_eq]at h
   obtain⟨⟨h1,h2⟩,h⟩:=h
   refine⟨_,_,h,mL λc w a hm hA eh=>?_⟩
   have e1:=eh x (by simp[Op.operands]);have e2:=eh ix (by simp[Op.operands])
   rw[hx]at e1;rw[hn]at e2
   refine⟨_,?_,rfl⟩
   have bd:n.toNat<s.length:=by omega
   have hg:(ByteArray.mk s.toArray)[n.toNat]?=some (s.getD n.toNat 0):=by
    have h3:n.toNat<(ByteArray.mk s.toArray).size:=by simpa[ByteArray.size]using bd
    rw[getElem?_pos (ByteArray.mk s.toArray) n.toNat h3]
    simp only[aV,aI bd,aR]
    rfl
   simp only[execOp,Rep.str.1 e1,Rep.int.1 e2,Instr.index,asIntOf,Sem.run_bind,Sem.run_pure,Result.andThen_ok,run_underlying hd,h1,if_true,hg]
  ·rename_i len e iF _ _ _ _ _ cs k n ht hx hn
   have hd:=mK hT ht
   simp only at hd
   obtain⟨hd,fp⟩:=hd
   simp only[dd,aE,decide_eq_true_eq]at h
   obtain⟨⟨q1,q2,q3,q4⟩,h⟩:=h
   have q1:=bE q1
   have q2:=bE q2
   have run:∀(vs:List Value) (v:Value) (w:World) (d:TypeDesc),P.underlying e=some d->PZ d=false->vs[n.toNat]?=some v->(Instr.index t (.agg vs.toArray) (.int k n)).run P w=.ok v w:=λvs v w d hu hda hv=>by
    have h0:0<P.cellsOf e:=by omega
    simp only[Instr.index,asIntOf,Sem.run_bind,Sem.run_pure,Result.andThen_ok,run_underlying hd,Sem.run_ite,q3,q4,and_self,if_true,AF h0]
    rw[fp,q1,Nat.mul_one]
    exact Q7 hu hda (by rw[bH];exact hv) w
   have cell:∀(c:Ctx) (w:World) (a:Act),Rep c w (.agg cs) (a.eval x)->∃vs:List Value,a.eval x=.agg vs.toArray/\∃v,vs[n.toNat]?=some v/\dc c w (cs.getD n.toNat .dead) v:=λc w a hr=>by
    obtain⟨vs,hv,hr⟩:=hr
    have hl:=hr.length
    have ir:vs[n.toNat]?=some vs[n.toNat]:=aI (by omega)
    exact⟨vs,hv,_,ir,(Ei.1 hr).2 _ _ ir⟩
   split at h
   ·rename_i kk _ _ _ _ _ he
    have hu:=mK hT he
    simp only at hu
    obtain⟨h1,h⟩:=h
    refine⟨_,_,h,mL λc w a hm hA eh=>?_⟩
    have e1:=eh x (by simp[Op.operands]);have e2:=eh ix (by simp[Op.operands])
    rw[hx]at e1;rw[hn]at e2
    obtain⟨vs,hv,v,g1,g2⟩:=cell c w a e1
    have hi:=UN h1 (n:=n.toNat) (by omega)
    rw[bG]at hi
    rw[D.ka hi]at g2
    refine⟨v,?_,?_⟩
    ·simp only[execOp,Rep.int.1 e2,hv]
     rw[Sem.run_bind,run vs v w _ hu rfl g1];rfl
    ·rw[UL (show n.toNat<len by omega),bG]
     exact g2
   ·rename_i he
    have hu:=mK hT he
    simp only at hu
    obtain⟨h1,h⟩:=h
    refine⟨_,_,h,mL λc w a hm hA eh=>?_⟩
    have e1:=eh x (by simp[Op.operands]);have e2:=eh ix (by simp[Op.operands])
    rw[hx]at e1;rw[hn]at e2
    obtain⟨vs,hv,v,g1,g2⟩:=cell c w a e1
    have hi:=UO h1 (n:=n.toNat) (by omega)
    rw[bG]at hi
    rw[D.kb hi]at g2
    refine⟨v,?_,?_⟩
    ·simp only[execOp,Rep.int.1 e2,hv]
     rw[Sem.run_bind,run vs v w _ hu rfl g1];rfl
    ·rw[UM (show n.toNat<len by omega),bG]
     exact g2
   ·exact h.elim
  ·exact h.elim
 case extract x i=>
  split at h
  ·rename_i ds hx
   simp only[dd,D.c6]at h
   obtain⟨hv,h⟩:=h
   refine⟨_,_,h,mL λc w a hm hA eh=>?_⟩
   have:=eh x (by simp[Op.operands])
   rw[hx]at this
   obtain⟨vs,BQ,hr⟩:=this
   have bd:i<ds.length:=by
    by_cases hl:i<ds.length
    ·exact hl
    ·rw[aV,aJ (by omega)]at hv;simp[D.isVal]at hv
   obtain⟨v,V5,hvr⟩:=Y4 hr i bd
   refine⟨v,?_,?_⟩
   ·simp only[execOp,BQ,Instr.extract,bH,V5];rfl
   ·generalize ds.getD i .dead=d at*
    cases d<;>first|exact hvr|trivial|exact hvr.elim
  ·exact h.elim
 case call cl=>
  obtain⟨callee,args,dj⟩:=cl
  cases callee<;>try(simp only at h)
  case builtin b=>
  cases b<;>try(simp only at h)
  case len=>
   split at h
   ·rename_i x t hx ht
    obtain⟨val,hK,hr⟩:=zaG (t':=type) hT h
    refine⟨_,_,hK,mL λc w a hm hA eh=>?_⟩
    have ft:args= #[x]:=by rw[<-bW (xs:=args),hx]
    have ui:dj= #[t]:=by rw[<-bW (xs:=dj),ht]
    subst ft;subst ui
    obtain⟨u,hu,hx⟩:=hr c w _ hm hA (eh x (by simp[Op.operands,Call.operands]))
    refine⟨u,?_,hx⟩
    simp only[execOp,resolve,Sem.run_bind,Sem.run_pure,Result.andThen_ok,invoke,builtin]
    have:(#[x]:Array Operand).map a.eval= #[a.eval x]:=by simp
    rw[this,hu];rfl
   ·exact h.elim
def Ctx.kill(c:Ctx)(ks:List Nat):Ctx:={c with R:=λr=>if da r ks=true then none else(c.R r).map (Row.kill ks)}
structure jK(ks:List Nat)(c:Ctx)(w:World)(c':Ctx)(w':World):Prop where
 mem:Mem c' w'
 cy:ja (c.kill ks) w c' w'
 fr:Fr (λb=>∃r x,c.R r=some x/\¬c.V r/\c.ρ r=b) w w'
 fe:∀b,c'.I b->c.I b\/(∃s row,da s ks=true/\c.R s=some row/\¬c.V s/\c.ρ s=b)\/w.heap.size<=b
 om:∀r ao,c'.R r=some ao->¬c'.V r->((∃row,c.R r=some row)/\¬c.V r/\c'.ρ r=c.ρ r)\/(∃s row,da s ks=true/\c.R s=some row/\¬c.V s/\c'.ρ r=c.ρ s)\/w.heap.size<=c'.ρ r
def kq(P:Program)(f:FuncId)(args:List D)(rows:List Row)(res:D)(aj:List Row):Prop:=
 ∀ (c:Ctx) (w:World) (vs:List Value),Mem c w->c.base=w.heap.size->(∀r,c.R r=rows[r]?)->kd c w args vs->
  Calls P f vs.toArray w λe w'=>∃v c',e=.returned v/\lT c w c' w'/\(∀r,c'.R r=aj[r]?)/\Rep c' w' res v
def Gn(P:Program)(I:ae)(f:FuncId)(vs:List Value)(w:World)(R:Ending->World->Prop):Prop:=
 (f<YB->Calls P f vs.toArray w R)/\
 (YB<=f->∀l rec xs us,vs=xs++us->I l->w.heap[l]?=some (.loop rec)->P7 f us rec->xs.length=1->
  RoundIn Fence.wide 0 P l rec.fn ((rec.params.zip xs.toArray).foldl (λtmps (t,a)=>tmps.setIfInBounds t a) rec.tmps) rec.assign rec.body w R)
theorem Gn.mono{f:FuncId}{R R':Ending->World->Prop}(h:Gn P I f vs w R)(hI:∀b,I' b->I b)(hR:∀e w',R e w'->R' e w'):Gn P I' f vs w R':=
 ⟨λhf=>(h.1 hf).mono hR,λhf l rec xs us h1 h2 h3 h4 h5=>(h.2 hf l rec xs us h1 (hI l h2) h3 h4 h5).mono hR⟩
theorem Gn.real{f:FuncId}{R:Ending->World->Prop}(hf:f<YB)(h:Calls P f vs.toArray w R):Gn P I f vs w R:=⟨λ_=>h,λhg=>absurd hf (Nat.not_lt.2 hg)⟩
def tR(P:Program)(f:FuncId)(k:Nat)(args:List D)(rows:List Row)(res:D)(aj:List Row):Prop:=
 ∀ (c:Ctx) (w:World) (vs:List Value),Mem c w->c.base=0->(∀r,c.R r=rows[r]?)->kd c w args vs->
  Gn P c.I f vs w λe w'=>∃v c',e=.returned v/\jK (List.range' k (rows.length-k)) c w c' w'/\(∀r,c'.R r=aj[r]?)/\Rep c' w' res v
def nb:D->Prop|.int _ _=>True|.bool _=>True|.str _=>True|.c7=>True|.iw=>True|.emp=>True|_=>False
def CT.nb:CT->Bool|.int _=>true|.bool=>true|.str=>true|_=>false
def RK.nb(k:RK):Bool:=k.sig.all CT.nb
def ai.FC:ai->Prop
 |.gen es=>∀e∈es,∀d∈e,nb d
 |.ah k _=>k.nb=true
 |_=>True
theorem Zcf:∀{ts:List CT} {cs:List D} {j:Nat},ts.all CT.nb=true->∀d∈wh ts cs j,nb d
 |[],_,_,_,d,h=>by simp[wh]at h
 |t ::ts,cs,j,ht,d,h=>by
  simp only[List.all_cons,aE]at ht
  simp only[wh,cQ]at h
  rcases h with h|h
  ·subst h
   cases t<;>first|trivial|(simp[CT.nb]at ht)
  ·exact Zcf ht.2 d h
theorem ai.CW{E:ai}(h:E.FC):∀e∈E.l,∀d∈e,nb d:=by
 cases E with
 |gen es=>exact h
 |ints k l=>
  intro e he d hd
  simp only[ai.l,fR]at he
  obtain⟨n,_,rfl⟩:=he
  simp at hd
  subst hd;trivial
 |ag l=>
  intro e he d hd
  simp only[ai.l,fR]at he
  obtain⟨n,_,rfl⟩:=he
  simp at hd
  subst hd;trivial
 |ah k l=>
  intro e he d hd
  simp only[ai.l,fR]at he
  obtain⟨x,_,rfl⟩:=he
  rw[<-RK.oj]at hd
  exact Zcf h d hd
def P8:D->Prop
 |.sl _ es fr=>(es.Nil\/fr=true)/\es.FC
 |.im _ _ _ _=>False
 |.gj _ _=>False
 |_=>True
def Mo:List D->Prop
 |[]=>True
 |d::ds=>P8 d/\Mo ds
def UU:D->Prop
 |.agg cs=>Mo cs
 |d=>P8 d
def FD:List D->Prop
 |[]=>True
 |d::ds=>UU d/\FD ds
def FF:D->Prop
 |.dw ds=>FD ds
 |d=>UU d
def JB(row:Row):Prop:=if row.box then∀e∈row.es.l,Mo e else row.es.FC
def rC:List Row->Prop
 |[]=>True
 |r::l=>JB r/\rC l
structure bm(P:Program)(x:ba):Prop where
 enters:x.f<YB->∀args w,(callFunc x.f args).run P w=.ok (.enter x.f args) w
 real:x.gone=none->x.f<YB
 ok:x.gone=none->∀args rows res aj,x.m args rows=.ok res aj->kq P x.f args rows res aj/\(x.flat=true->FF res/\rC aj)
 when:x.gone=none->∀args rows p res aj,x.m args rows=.when p res aj->p->kq P x.f args rows res aj/\(x.flat=true->FF res/\rC aj)
 abs:x.gone=none->∀args rows α v res aj,x.m args rows=.abs α v res aj->kq P x.f args rows (res v) (aj v)/\(x.flat=true->FF (res v)/\rC (aj v))
 lH:x.gone=none->∀args rows p α v res aj,x.m args rows=.lH p α v res aj->p->kq P x.f args rows (res v) (aj v)/\(x.flat=true->FF (res v)/\rC (aj v))
 PW:∀k,x.gone=some k->∀args rows α v res aj,x.m args rows=.abs α v res aj->tR P x.f k args rows (res v) (aj v)
 Hq:∀k,x.gone=some k->∀args rows p α v res aj,x.m args rows=.lH p α v res aj->p->tR P x.f k args rows (res v) (aj v)
def jA(P:Program)(G:List ba):Prop:=∀x∈G,bm P x
theorem Gv{P:Program}:∀{G:List ba} {f:FuncId} {x:ba},jA P G->oO G f=some x->bm P x/\x.f=f
 |[],f,x,_,h=>by simp[oO]at h
 |y ::l,f,x,hG,h=>by
  simp only[oO]at h
  split at h
  ·rename_i hb
   simp at h;subst h
   exact⟨hG y (by simp),bE hb⟩
  ·exact Gv (λz hz=>hG z (by simp[hz])) h
theorem Zoz:∀{rows:List Row} {i:Nat} {row:Row},rC rows->rows[i]?=some row->JB row
 |r::l,0,row,h,hi=>by simp at hi;subst hi;exact h.1
 |r::l,i+1,row,h,hi=>Zoz h.2 (by simpa using hi)
 |[],i,row,_,hi=>by simp at hi
theorem nU{r:Nat}:∀{l:List Nat},da r l=true↔r∈l
 |[]=>by simp[da]
 |x ::l=>by
  simp only[da]
  cases hb:Nat.beq x r with
  |true=>have:=bE hb;subst this;simp
  |false=>
   have gq:¬r=x:=λe=>by rw[e]at hb;simp at hb
   simp[nU (l:=l),gq]
theorem Mf:∀{l m:List Nat},pA l m=true↔ ∀r∈l,r∈m
 |[],m=>by simp[pA]
 |x::l,m=>by
  simp only[pA]
  cases hb:da x m with
  |true=>simp[Mf (l:=l),nU.1 hb]
  |false=>simp[show¬x∈m fromλe=>by rw[nU.2 e]at hb;cases hb]
theorem Uw:∀{l m:List Nat},px l m=true↔ ∀r∈l,¬r∈m
 |[],m=>by simp[px]
 |x::l,m=>by
  simp only[px]
  cases hb:da x m with
  |true=>simp[nU.1 hb]
  |false=>simp[Uw (l:=l),show¬x∈m fromλe=>by rw[nU.2 e]at hb;cases hb]
theorem Mg:∀{l:List Nat},CX l=true↔l.Nodup
 |[]=>by simp[CX]
 |x::l=>by
  simp only[CX,List.nodup_cons]
  cases hb:da x l with
  |true=>simp[nU.1 hb]
  |false=>simp[Mg (l:=l),show¬x∈l fromλe=>by rw[nU.2 e]at hb;cases hb]
theorem Zq8{r:Nat}:∀{l:List Nat} {k:Nat},r∈l->∃j,pos r l k=k+j/\l[j]?=some r
 |x ::l,k,h=>by
  simp only[pos]
  cases hb:Nat.beq x r with
  |true=>exact⟨0,rfl,by simp[bE hb]⟩
  |false=>
   have gq:¬r=x:=λe=>by rw[e]at hb;simp at hb
   have hm:r∈l:=by simpa[gq]using h
   obtain⟨j,h1,h2⟩:=Zq8 (k:=k+1) hm
   exact⟨j+1,by show pos r l (k+1)=_;rw[h1];omega,by simpa using h2⟩
theorem Bn{r:Nat}{l:List Nat}(h:r∈l):l[pos r l 0]?=some r:=by
 obtain⟨j,h1,h2⟩:=Zq8 (k:=0) h
 rw[h1,bG];exact h2
structure Eh(S:Nat->Prop)(f:Nat->Nat)(dv:Bool)(c1 c2:Ctx):Prop where
 row:∀i row,S i->c1.R i=some row->∃ao,c2.R (f i)=some ao/\ao.box=row.box/\ao.ty=row.ty/\ao.sz=row.sz/\ao.es.l.length=row.es.l.length/\c2.ρ (f i)=c1.ρ i/\(c2.V (f i)↔c1.V i)
 base:dv=true->c2.base<=c1.base
 top:c1.top<=c2.top
theorem zS(hs:nb d)(h:fy I w d v):fy I' w d v:=by
 cases h<;>first|exact hs.elim|constructor
theorem Zb4{I I':ae}{w:World}:∀{cs:List D} {arr:Array Value} {off:Nat},(∀d∈cs,nb d)->oP I w cs arr off->oP I' w cs arr off
 |[],_,_,_,_=>by simp[DJ,DK]
 |d::cs,arr,off,hs,h=>by
  simp only[DJ,DK]at h⊢
  obtain⟨⟨v,hv,hp⟩,hr⟩:=h
  exact⟨⟨v,hv,zS (hs d (by simp)) hp⟩,Zb4 (λe he=>hs e (by simp[he])) hr⟩
theorem Zu{I I':ae}{w:World}:∀{es:List (List D)} {arr:Array Value} {off sz:Nat},(∀e∈es,∀d∈e,nb d)->ik I w es arr off sz->ik I' w es arr off sz
 |[],_,_,_,_,_=>by simp[ra,pN]
 |e::es,arr,off,sz,hs,h=>by
  simp only[ra,pN]at h⊢
  exact⟨h.1,Zb4 (hs e (by simp)) h.2.1,Zu (λf hf=>hs f (by simp[hf])) h.2.2⟩
theorem VRep.EA{c:Ctx}(h:dc c w d v):VRep c w d v:=by cases d<;>first|exact h|exact h.elim
theorem VRep.toC{c:Ctx}(hd:∀cs,d≠.agg cs)(h:VRep c w d v):dc c w d v:=by cases d<;>first|exact h|exact absurd rfl (hd _)
theorem Rep.Ks{c:Ctx}(h:VRep c w d v):Rep c w d v:=by cases d<;>first|exact h|exact h.elim|trivial
theorem Rep.toV{c:Ctx}(hd:∀ds,d≠.dw ds)(h0:d≠.dead)(h:Rep c w d v):VRep c w d v:=by cases d<;>first|exact h|exact absurd rfl (hd _)|exact absurd rfl h0
theorem Z8d{f:Nat->Nat}{dv:Bool}:∀{e:List D},(D.mG f dv e).length=e.length
 |[]=>rfl
 |d::l=>by simp[D.mG,Z8d (e:=l)]
section
variable {S:Nat->Prop} {f:Nat->Nat} {dv:Bool} {c1 c2:Ctx} {w:World} (hn:Eh S f dv c1 c2) {flat:Prop} (hI:(∀b,c1.I b->c2.I b)\/(flat/\∀b,c1.I b->c1.base<=b->c2.I b))
include hn hI
theorem Zk9(gq:∀f cs,d≠.gj f cs)(hS:∀r∈nO d,S r)(ju:flat->P8 d)(h:dc c1 w d v):dc c2 w (d.mF f dv) v:=by
 cases d with
 |sl sz es fr=>
  obtain⟨a,cap,hv,hc,gy⟩:=h
  refine⟨a,cap,hv,hc,?_⟩
  rcases gy with gy|⟨b,off,arr,ty,fz,ha,ie,hf,hh,hE⟩
  ·exact .inl gy
  ·have hb:(fr&&dv)=true->c2.base<=b:=λe=>by
    simp only[aE]at e
    exact Nat.le_trans (hn.base e.2) (hf e.1)
   rcases hI with hi|⟨FE,hi⟩
   ·exact .inr ⟨b,off,arr,ty,fz,ha,hi b ie,hb,hh,nC (λb hb=>⟨hi b hb,rfl⟩) _ _ _ _ hE⟩
   ·obtain⟨h1,h2⟩:=ju FE
    rcases h1 with h1|h1
    ·exact .inl (ai.ov.1 h1)
    ·exact .inr ⟨b,off,arr,ty,fz,ha,hi b ie (hf h1),hb,hh,Zu (ai.CW h2) hE⟩
 |all r=>
  obtain⟨row,hr,hb,h⟩:=h
  obtain⟨ao,g1,g2,g3,g4,g5,g6,gV⟩:=hn.row r row (hS r (by simp[nO])) hr
  refine⟨ao,g1,g2.trans hb,?_⟩
  rcases h with⟨hV,hv⟩|⟨hV,cap,arr,hv,h1,h2,h3,h4⟩
  ·obtain⟨a,hv,ho⟩:=hv;exact .inl ⟨gV.2 hV,a,hv,ho.mono hn.top⟩
  ·exact .inr ⟨λe=>hV (gV.1 e),cap,arr,by rw[hv,g5,g6],by rw[g5];exact h1,h2,by rw[g6,g3];exact h3,by rw[g4];exact h4⟩
 |own r o n=>
  obtain⟨row,hr,hb,ho,h⟩:=h
  obtain⟨ao,g1,g2,g3,g4,g5,g6,gV⟩:=hn.row r row (hS r (by simp[nO])) hr
  refine⟨ao,g1,g2.trans hb,by rw[g5];exact ho,?_⟩
  rcases h with⟨h0,a,hv,jn⟩|⟨hV,cap,arr,h1,h2,h3,h4,h5⟩
  ·exact .inl ⟨h0,a,hv,jn.mono hn.top gV g6⟩
  ·exact .inr ⟨λe=>hV (gV.1 e),cap,arr,h1,h2,by rw[g6,g3];exact h3,by rw[g4,g6];exact h4,by rw[g4];exact h5⟩
 |ptr r i off=>
  obtain⟨row,hr,hV,hi,hv⟩:=h
  obtain⟨ao,g1,g2,g3,g4,g5,g6,gV⟩:=hn.row r row (hS r (by simp[nO])) hr
  exact⟨ao,g1,λe=>hV (gV.1 e),by rw[g5];exact hi,by rw[hv,g6,g4]⟩
 |pa r i off len k n=>
  obtain⟨bd,row,hr,hV,hi,hv⟩:=h
  obtain⟨ao,g1,g2,g3,g4,g5,g6,gV⟩:=hn.row r row (hS r (by simp[nO])) hr
  exact⟨bd,ao,g1,λe=>hV (gV.1 e),by rw[g5];exact hi,by rw[hv,g6,g4]⟩
 |im sz es i off=>
  obtain⟨b,o,arr,ty,fz,hv,ie,iD,hh,hE⟩:=h
  rcases hI with hi|⟨FE,hi⟩
  ·exact⟨b,o,arr,ty,fz,hv,hi b ie,iD,hh,nC (λb hb=>⟨hi b hb,rfl⟩) _ _ _ _ hE⟩
  ·exact(ju FE).elim
 |gk r=>
  rcases h with h|⟨row,hr,hV,hi,hv⟩
  ·exact .inl h
  ·obtain⟨ao,g1,g2,g3,g4,g5,g6,gV⟩:=hn.row r row (hS r (by simp[nO])) hr
   exact .inr ⟨ao,g1,λe=>hV (gV.1 e),by rw[g5];exact hi,by rw[hv,g6,g4]⟩
 |gj f cs=>exact absurd rfl (gq f cs)
 |emp=>obtain⟨a,hv,ho⟩:=h;exact⟨a,hv,ho.mono hn.top⟩
 |_=>exact h
theorem Zv(hS:∀r∈nO d,S r)(ju:flat->P8 d)(h:dc c1 w d v):dc c2 w (d.mF f dv) v:=by
 by_cases e:∃g cs,d=.gj g cs
 ·obtain⟨g,cs,rfl⟩:=e
  obtain⟨us,hv,hu⟩:=h
  have hi:∀b,c1.I b->c2.I b/\w.heap[b]?=w.heap[b]? :=by
   rcases hI with hi|⟨FE,_⟩
   ·exactλb hb=>⟨hi b hb,rfl⟩
   ·exact(ju FE).elim
  exact⟨us,Mk hi hv,YY (Fk:=λ_=>True) (λd v h1 h2 h3=>Zk9 hn (flat:=False) (.inl λb hb=>(hi b hb).1) h1 h2 (λe=>e.elim) h3) (λ_ _ _ _=>Mk hi) (λ_ _ _=>trivial) hS hu⟩
 ·exact Zk9 hn hI (λf cs e'=>e ⟨f,cs,e'⟩) hS ju h
theorem Zow:∀{ds:List D} {vs:List Value},(∀r∈pT ds,S r)->(flat->Mo ds)->jk c1 w ds vs->jk c2 w (D.mG f dv ds) vs
 |[],[],_,_,_=>trivial
 |d::ds,v::vs,hS,ju,h=>⟨Zv hn hI (λr hr=>hS r (by simp[pT,hr])) (λe=>(ju e).1) h.1,Zow (λr hr=>hS r (by simp[pT,hr])) (λe=>(ju e).2) h.2⟩
 |[],_::_,_,_,h=>h.elim
 |_::_,[],_,_,h=>h.elim
theorem P9(hS:∀r∈Fy d,S r)(ju:flat->UU d)(h:VRep c1 w d v):VRep c2 w (d.je f dv) v:=by
 cases d with
 |agg cs=>obtain⟨vs,hv,hr⟩:=h;exact⟨vs,hv,Zow hn hI hS ju hr⟩
 |dw ds=>exact h.elim
 |_=>
  refine VRep.EA (Zv hn hI ?_ ?_ (VRep.toC ?_ h))
  ·exact hS
  ·exact ju
  ·intro cs e;cases e
theorem Zp1:∀{ds:List D} {vs:List Value},(∀d∈ds,∀r∈Fy d,S r)->(flat->FD ds)->kd c1 w ds vs->kd c2 w (D.AG f dv ds) vs
 |[],[],_,_,_=>trivial
 |d::ds,v::vs,hS,ju,h=>⟨P9 hn hI (hS d (by simp)) (λe=>(ju e).1) h.1,Zp1 (λd hd=>hS d (by simp[hd])) (λe=>(ju e).2) h.2⟩
 |[],_::_,_,_,h=>h.elim
 |_::_,[],_,_,h=>h.elim
theorem YQ(hS:∀r,S r)(ju:flat->FF d)(h:Rep c1 w d v):Rep c2 w (d.sT f dv) v:=by
 cases d with
 |dw ds=>obtain⟨vs,hv,hr⟩:=h;exact⟨vs,hv,Zp1 hn hI (λ_ _ r _=>hS r) ju hr⟩
 |agg cs=>exact P9 hn hI (d:=.agg cs) (λr _=>hS r) ju h
 |dead=>trivial
 |_=>
  have h':=Rep.toV (λds e=>by cases e) (λe=>by cases e) h
  have h2:=P9 hn hI (λr _=>hS r) (λe=>by have:=ju e;exact this) h'
  exact Rep.Ks h2
theorem UW:∀{ds:List D} {arr:Array Value} {off:Nat},(∀r∈pT ds,S r)->(flat->Mo ds)->kF c1 w ds arr off->kF c2 w (D.mG f dv ds) arr off
 |[],_,_,_,_,_=>trivial
 |d::ds,arr,off,hS,ju,⟨⟨v,hv,h1⟩,h2⟩=>⟨⟨v,hv,Zv hn hI (λr hr=>hS r (by simp[pT,hr])) (λe=>(ju e).1) h1⟩,UW (λr hr=>hS r (by simp[pT,hr])) (λe=>(ju e).2) h2⟩
theorem YO{i j:Nat}(P0:c2.ρ j=c1.ρ i)(hV:c2.V j↔c1.V i)(hS:row.box=true->∀e,row.es=.gen [e]->∀r∈pT e,S r)(ju:flat->JB row)(h:ED c1 w i row):ED c2 w j (row.je f dv):=by
 have sh:(row.je f dv).box=row.box/\(row.je f dv).ty=row.ty/\(row.je f dv).sz=row.sz:=by
  unfold Row.je;split<;>exact⟨rfl,rfl,rfl⟩
 rcases h with⟨h0,h1,h2,h3⟩|⟨h0,arr,ha,hs,hx⟩
 ·refine .inl ⟨hV.2 h0,?_⟩
  unfold Row.je
  split
  ·simp at h1
  ·exact⟨h1,h2,h3⟩
 ·refine .inr ⟨λe=>h0 (hV.1 e),arr,by rw[P0,sh.2.1];exact ha,by rw[sh.2.2];exact hs,?_⟩
  rw[sh.1,sh.2.2]
  split
  ·rename_i hb
   simp only[hb,if_true]at hx
   obtain⟨e,k1,k2,k3,k4⟩:=hx
   obtain⟨box,ty,sz,es⟩:=row
   simp only at hb k1 k2 k3 k4
   subst hb;subst k1
   refine⟨D.mG f dv e,rfl,?_,k3,UW hn hI (hS rfl e rfl) (λe'=>?_) k4⟩
   ·rw[Z8d];exact k2
   ·have:=ju e'
    simp only[JB,if_true]at this
    exact this e (by simp[ai.l])
  ·rename_i hb
   simp only[hb,aA,if_false]at hx
   have he:(row.je f dv).es=row.es:=by
    unfold Row.je
    split
    ·simp at hb
    ·rfl
   rw[he]
   rcases hI with hi|⟨FE,hi⟩
   ·exact nC (λb hb=>⟨hi b hb,rfl⟩) _ _ _ _ hx
   ·have:=ju FE
    simp only[JB,hb,aA,if_false]at this
    exact Zu (ai.CW this) hx
end
def Ctx.pass(c:Ctx)(w:World)(ids:List Nat)(rows:List Row)(len:Bool):Ctx:=
 { ρ:=λi=>match ids[i]? with|some r=>c.ρ r|none=>0,R:=λi=>rows[i]?,V:=λi=>match ids[i]? with|some r=>c.V r|none=>False,
   I:=λb=>c.I b\/(len=true/\ ∃r row,c.R r=some row/\ ¬c.V r/\row.box=false/\r∉ids/\c.ρ r=b),base:=w.heap.size,top:=c.top,X:=λ_=>False}
section
variable {c:Ctx} {w:World} {R:Rows} {ids:List Nat} {dy:List Row} {len:Bool}
theorem Zoi(hm:Mem c w)(hA:mn c R)(h:Fx R d=some d')(hl:nO d≠[]->len=true)(hd:∀r∈nO d,r∉ids)(hr:dc c w d v):dc (c.pass w ids dy len) w d' v:=by
 have nH:∀b,c.I b->(c.pass w ids dy len).I b/\w.heap[b]?=w.heap[b]? :=λb hb=>⟨.inl hb,rfl⟩
 cases d<;>simp only[Fx]at h<;>try(cases h;done)
 case bool b=>cases h;exact hr
 case int k n=>cases h;exact hr
 case str s=>cases h;exact hr
 case iw=>cases h;exact hr
 case jI=>cases h;exact hr
 case c7=>cases h;exact⟨none,0,hr,aX _,.inl rfl⟩
 case emp=>cases h;obtain⟨a,hv,_⟩:=hr;exact⟨a,0,hv,aX _,.inl rfl⟩
 case sl sz es fr=>
  cases h
  obtain⟨a,cap,hv,hc,gy⟩:=hr
  refine⟨a,cap,hv,hc,?_⟩
  rcases gy with gy|⟨b,off,arr,ty,fz,ha,hI,hf,hh,hE⟩
  ·exact .inl gy
  ·exact .inr ⟨b,off,arr,ty,fz,ha,.inl hI,by simp,hh,nC nH _ _ _ _ hE⟩
 case all r=>
  split at h
  ·rename_i row hR
   split at h
   ·rename_i hb
    cases h
    obtain⟨ao,g1,g2,hv⟩:=hr
    have:=hA r ao _ g1 hR
    subst this
    rcases hv with⟨hV,a,hv,_⟩|⟨hV,cap,arr,hv,g3,g4,g5,g6⟩
    ·have he:=(hm.nA g1 hV).2.1
     exact⟨a,0,by rw[he];exact hv,by rw[he];exact aX _,.inl he⟩
    refine⟨_,cap,hv,g3,?_⟩
    obtain⟨iG,jC,hs,hx⟩:=hm.real g1 hV
    rw[g5]at jC;cases jC
    simp only[hb,aA,if_false]at hx
    exact .inr ⟨_,0,arr,_,_,rfl,.inr ⟨hl (by simp[nO]),r,_,g1,hV,hb,hd r (by simp[nO]),rfl⟩,by simp,g5,nC nH _ _ _ _ hx⟩
   ·cases h
  ·cases h
 case own r o n=>
  split at h
  ·rename_i row hR
   split at h
   ·rename_i hb
    cases h
    obtain⟨ao,g1,g2,g5,hv⟩:=hr
    have:=hA r ao _ g1 hR
    subst this
    have hlen:((ao.es.drop o).take n).l.length=n:=by rw[ai.iW,ai.kh];simp only[List.length_take,List.length_drop];omega
    rcases hv with⟨g7,a,hv,_⟩|⟨hV,cap,arr,g3,g4,g6,hv,g7⟩
    ·subst g7
     exact⟨a,0,by rw[hlen];exact hv,by omega,.inl (by rw[ai.iW];simp)⟩
    obtain⟨iG,jC,hs,hx⟩:=hm.real g1 hV
    rw[g6]at jC;cases jC
    simp only[hb,aA,if_false]at hx
    refine⟨_,cap,by rw[hlen];exact hv,by omega,.inr ⟨_,o*ao.sz,arr,_,_,rfl,.inr ⟨hl (by simp[nO]),r,_,g1,hV,hb,hd r (by simp[nO]),rfl⟩,by simp,g6,nC nH _ _ _ _ ?_⟩⟩
    have:=Mb (n:=n) (Kn (l:=o) hx)
    rw[ai.iW,ai.kh]
    simpa using this
   ·cases h
  ·cases h
theorem Zoq(hm:Mem c w)(hA:mn c R):∀{ds ot:List D} {vs:List Value},Jx R ds=some ot->(pT ds≠[]->len=true)->(∀r∈pT ds,r∉ids)->jk c w ds vs->jk (c.pass w ids dy len) w ot vs
 |[],ot,[],h,_,_,_=>by simp[Jx]at h;subst h;trivial
 |[],_,_::_,_,_,_,hr=>hr.elim
 |_::_,_,[],_,_,_,hr=>hr.elim
 |d ::ds,ot,v::vs,h,hl,hd,hr=>by
  simp only[Jx]at h
  split at h
  ·rename_i x xs h1 h2
   cases h
   exact⟨Zoi hm hA h1 (λe=>hl (by simp[pT,e])) (λr e=>hd r (by simp[pT,e])) hr.1,Zoq hm hA h2 (λe=>hl (by simp[pT,e])) (λr e=>hd r (by simp[pT,e])) hr.2⟩
  ·cases h
theorem Zpi(hm:Mem c w)(hA:mn c R)(h:conv R d=some d')(hl:Fy d≠[]->len=true)(hd:∀r∈Fy d,r∉ids)(hr:Rep c w d v):VRep (c.pass w ids dy len) w d' v:=by
 cases d with
 |agg cs=>
  simp only[conv,Option.map_eq_some_iff]at h
  obtain⟨rL,h1,rfl⟩:=h
  obtain⟨vs,hv,hx⟩:=hr
  exact⟨vs,hv,Zoq hm hA h1 hl hd hx⟩
 |dw ds=>simp[conv,Fx]at h
 |dead=>simp[conv,Fx]at h
 |_=>
  simp only[conv]at h
  simp only[Rep,VRep]at hr
  exact VRep.EA (Zoi hm hA h hl hd hr)
theorem Fw{f:Nat->Nat}:∀{ids:List Nat} {rows:List Row},Bm R f ids=some rows->rows.length=ids.length/\∀(i r:Nat),ids[i]?=some r->∃row,R.getD r none=some row/\rows[i]?=some (row.je f false)
 |[],rows,h=>by simp[Bm]at h;subst h;exact⟨rfl,λi r h=>by simp at h⟩
 |r ::l,rows,h=>by
  simp only[Bm]at h
  split at h
  ·rename_i row rs h1 h2
   cases h
   obtain⟨g1,g2⟩:=Fw h2
   refine⟨by simp[g1],λi q hq=>?_⟩
   cases i with
   |zero=>simp at hq;subst hq;exact⟨row,h1,rfl⟩
   |succ i=>exact g2 i q (by simpa using hq)
  ·cases h
theorem Jv(f:Nat->Nat)(dv:Bool)(row:Row):(row.je f dv).box=row.box/\(row.je f dv).ty=row.ty/\(row.je f dv).sz=row.sz/\(row.je f dv).es.l.length=row.es.l.length:=by
 unfold Row.je;split<;>exact⟨rfl,rfl,rfl,rfl⟩
theorem Z84{r:Nat}:∀{l:List Nat},r∈CO R l↔ ∃q∈l,∃ty sz e,R.getD q none=some ⟨true,ty,sz,.gen [e]⟩/\r∈pT e
 |[]=>by simp[CO]
 |q ::l=>by
  simp only[CO,List.mem_append,Z84 (l:=l),cQ]
  constructor
  ·rintro(h|⟨q',h1,h2⟩)
   ·split at h
    ·rename_i ty sz e he
     exact⟨q,.inl rfl,ty,sz,e,he,h⟩
    ·simp at h
   ·exact⟨q',.inr h1,h2⟩
  ·rintro⟨q',h1|h1,ty,sz,e,h2,h3⟩
   ·subst h1
    left
    rw[h2];exact h3
   ·exact .inr ⟨q',h1,ty,sz,e,h2,h3⟩
theorem UC(hR:∀r row,r∈ids->R.getD r none=some row->c.R r=some row)(db:Bm R (λr=>pos r ids 0) ids=some dy):Eh (λr=>r∈ids) (λr=>pos r ids 0) false c (c.pass w ids dy len):=by
 obtain⟨hl,hg⟩:=Fw db
 refine⟨λr row hr cz=>?_,(λh=>by cases h),aX _⟩
 have hp:=Bn hr
 obtain⟨jH,h1,h2⟩:=hg _ r hp
 have:row=jH:=by have:=hR r jH hr h1;rw[cz]at this;exact Option.some.inj this
 subst this
 obtain⟨s1,s2,s3,s4⟩:=Jv (λr=>pos r ids 0) false row
 exact⟨_,h2,s1,s2,s3,s4,by simp[Ctx.pass,hp],by simp[Ctx.pass,hp]⟩
theorem YP(hm:Mem c w)(hR:∀r row,r∈ids->R.getD r none=some row->c.R r=some row)(kW:ids.Nodup)(jm:∀r∈CO R ids,r∈ids)(db:Bm R (λr=>pos r ids 0) ids=some dy):Mem (c.pass w ids dy len) w:=by
 have hn:=UC (len:=len) (w:=w) hR db
 obtain⟨hl,hg⟩:=Fw db
 have inv:∀i x,(c.pass w ids dy len).R i=some x->∃r row,ids[i]?=some r/\c.R r=some row/\R.getD r none=some row/\x=row.je (λr=>pos r ids 0) false/\(c.pass w ids dy len).ρ i=c.ρ r/\((c.pass w ids dy len).V i↔c.V r):=by
  intro i x hx
  have jJ:dy[i]?=some x:=hx
  have bd:=(List.getElem?_eq_some_iff.1 jJ).1
  have hi:ids[i]?=some ids[i]:=aI (by omega)
  obtain⟨row,h1,h2⟩:=hg i _ hi
  rw[jJ]at h2
  exact⟨_,row,hi,hR _ row (fL hi) h1,h1,Option.some.inj h2,by simp[Ctx.pass,hi],by simp[Ctx.pass,hi]⟩
 refine⟨λi x hx=>?_,λi j x y hx hy v1 v2 he=>?_,λb hb=>?_,hm.top,hm.jU.mono λb hb=>⟨.inl hb,rfl⟩⟩
 ·obtain⟨r,row,g1,g2,g3,rfl,g5,g6⟩:=inv i x hx
  refine YO hn (flat:=False) (.inl λb hb=>.inl hb) g5 g6 (λFG e he q hq=>?_) (λe=>e.elim) (hm.row r row g2)
  obtain⟨box,ty,sz,es⟩:=row
  simp only at FG he
  subst FG
  have h1:∃e0,es=.gen [e0]:=by
   rcases hm.row r _ g2 with⟨_,hh,_⟩|⟨_,arr,_,_,hx⟩
   ·cases hh
   ·simp only[if_true]at hx;obtain⟨e0,h,_⟩:=hx;exact⟨e0,h⟩
  obtain⟨e0,rfl⟩:=h1
  cases he
  exact jm q (Z84.2 ⟨r,fL g1,ty,sz,e,g3,hq⟩)
 ·obtain⟨r,row,g1,g2,g3,_,g5,g6⟩:=inv i x hx
  obtain⟨s,ao,k1,k2,k3,_,k5,k6⟩:=inv j y hy
  rw[g5,k5]at he
  have:r=s:=hm.inj r s _ _ g2 k2 (λe=>v1 (g6.2 e)) (λe=>v2 (k6.2 e)) he
  subst this
  exact(List.getElem?_inj (List.getElem?_eq_some_iff.1 g1).1 kW).1 (g1.trans k1.symm)
 ·rcases hb with hb|⟨_,r,row,hr,hV,wM,Ix,rfl⟩
  ·refine⟨(hm.fe b hb).1,λi x hx v=>?_⟩
   obtain⟨r,row,g1,g2,g3,_,g5,g6⟩:=inv i x hx
   rw[g5];exact(hm.fe b hb).2 r row g2 (λe=>v (g6.2 e))
  ·refine⟨hm.lt hr hV,λi x hx v=>?_⟩
   obtain⟨s,ao,g1,g2,g3,_,g5,g6⟩:=inv i x hx
   rw[g5]
   intro e
   have:=hm.inj s r _ _ g2 hr (λe=>v (g6.2 e)) hV e
   subst this
   exact Ix (fL g1)
theorem Mh(hm:Mem c w)(hA:mn c R)(hn:Eh (λr=>r∈ids) (λr=>pos r ids 0) false c (c.pass w ids dy len)){ρ:Operand->Value}{ev:Operand->D}:
 ∀{bs:List Bool} {xs:List Operand} {ot:List D},sP R (λr=>pos r ids 0) bs (xs.map ev)=some ot->(lQ bs (xs.map ev)≠[]->len=true)->(∀r∈lQ bs (xs.map ev),r∉ids)->(∀r∈CY bs (xs.map ev),r∈ids)->(∀x∈xs,Rep c w (ev x) (ρ x))->kd (c.pass w ids dy len) w ot (xs.map ρ)
 |bs,[],ot,h,_,_,_,_=>by cases bs<;>(try(rename_i b bs;cases b))<;>(simp[sP]at h;subst h;trivial)
 |true::bs,x::xs,ot,h,hl,hd,hi,hr=>by
  simp only[fG,sP]at h
  simp only[fG,lQ,CY]at hl hd hi
  split at h
  ·rename_i ys hv h2
   cases h
   have hx:VRep c w (ev x) (ρ x):=Rep.toV (λds e=>by rw[e]at hv;simp[D.isVal]at hv) (λe=>by rw[e]at hv;simp[D.isVal]at hv) (hr x (by simp))
   exact⟨P9 hn (flat:=False) (.inl λb hb=>.inl hb) (λr e=>hi r (by simp[e])) (λe=>e.elim) hx,Mh hm hA hn h2 hl hd (λr e=>hi r (by simp[e])) λy hy=>hr y (by simp[hy])⟩
  ·cases h
 |false::bs,x::xs,ot,h,hl,hd,hi,hr=>by
  simp only[fG,sP]at h
  simp only[fG,lQ,CY]at hl hd hi
  split at h
  ·rename_i y ys h1 h2
   cases h
   exact⟨Zpi hm hA h1 (λe=>hl (by simp[e])) (λr e=>hd r (by simp[e])) (hr x (by simp)),Mh hm hA hn h2 (λe=>hl (by simp[e])) (λr e=>hd r (by simp[e])) hi λy hy=>hr y (by simp[hy])⟩
  ·cases h
 |[],x::xs,ot,h,hl,hd,hi,hr=>by
  simp only[fG,sP]at h
  simp only[fG,lQ,CY]at hl hd hi
  split at h
  ·rename_i y ys h1 h2
   cases h
   refine⟨Zpi hm hA h1 (λe=>hl (by simp[e])) (λr e=>hd r (by simp[e])) (hr x (by simp)),Mh hm hA hn h2 (λe=>hl (by simp[e])) (λr e=>hd r (by simp[e])) (λr e=>?_) λy hy=>hr y (by simp[hy])⟩
   cases xs<;>simp[CY]at e
  ·cases h
end
theorem UX{f:Nat->Nat}:∀{ids:List Nat} {rows:List Row} {R:Rows},ids.Nodup->ids.length<=rows.length->(∀r∈ids,r<R.length)->
 (tO f ids rows R).length=R.length/\(∀(i r:Nat),ids[i]?=some r->∃row,rows[i]?=some row/\(tO f ids rows R).getD r none=some (row.je f true))/\∀r,r∉ids->(tO f ids rows R).getD r none=R.getD r none
 |[],rows,R,_,_,_=>by
  have:tO f [] rows R=R:=by cases rows<;>rfl
  rw[this]
  exact⟨rfl,λi r h=>by simp at h,λ_ _=>rfl⟩
 |r::ids,[],R,_,hl,_=>by simp at hl
 |r ::ids,row::rows,R,kW,hl,bd=>by
  obtain⟨Ix,Ju⟩:=List.nodup_cons.1 kW
  obtain⟨g1,g2,g3⟩:=UX (f:=f) (ids:=ids) (rows:=rows) (R:=R.set r (some (row.je f true))) Ju (by simpa using hl) (λq hq=>by simpa using bd q (by simp[hq]))
  have hr:=bd r (by simp)
  have YJ:(R.set r (some (row.je f true))).getD r none=some (row.je f true):=by simp[aV,hr]
  have gq:∀q,q≠r->(R.set r (some (row.je f true))).getD q none=R.getD q none:=λq hq=>by simp[aV,List.getElem?_set_ne (Ne.symm hq)]
  simp only[tO]
  refine⟨by simpa using g1,λi q hq=>?_,λq hq=>?_⟩
  ·cases i with
   |zero=>
    simp at hq;subst hq
    exact⟨row,rfl,by rw[g3 _ Ix];exact YJ⟩
   |succ i=>simpa using g2 i q (by simpa using hq)
  ·have h1:q≠r:=λe=>hq (by simp[e])
   rw[g3 q (λe=>hq (by simp[e])),gq q h1]
def Ctx.behind(c:Ctx)(w:World)(c':Ctx)(ids:List Nat)(n0:Nat)(R2:Rows):Ctx:=
 { ρ:=λr=>if n0<=r/\r<R2.length then c'.ρ (ids.length+(r-n0)) else c.ρ r,
   R:=λr=>if r∈ids\/(n0<=r/\r<R2.length) then R2.getD r none else c.R r,
   V:=λr=>if n0<=r/\r<R2.length then c'.V (ids.length+(r-n0)) else c.V r,
   I:=λb=>c.I b\/(c'.I b/\w.heap.size<=b),base:=c.base,top:=c'.top,X:=c.X}
theorem Zo6{f:Nat->Nat}{rows:List Row}:(Bq f rows)[i]?=rows[i]?.map λrow=>some (row.je f true):=by simp[Bq]
theorem Zw{c c':Ctx}{R:Rows}{ids:List Nat}{dy aj:List Row}{len:Bool}(hm:Mem c w)(hb:c.base<=w.heap.size)(nZ:∀r row,r∈ids->R.getD r none=some row->c.R r=some row)(eu:∀r,R.length<=r->r<R.length+(aj.length-ids.length)->c.R r=none)
 (kW:ids.Nodup) (db:Bm R (λr=>pos r ids 0) ids=some dy) (hle:ids.length<=aj.length) (hx:lT (c.pass w ids dy len) w c' w') (jZ:∀i,c'.R i=aj[i]?)
 (hI:len=true->rC aj) {R2:Rows} (uL:R2=tO (bk ids R.length) ids aj R++Bq (bk ids R.length) (aj.drop ids.length)):
 (Eh (λ_=>True) (bk ids R.length) true c' (c.behind w c' ids R.length R2))/\((∀b,c'.I b->(c.behind w c' ids R.length R2).I b)\/(len=true/\∀b,c'.I b->c'.base<=b->(c.behind w c' ids R.length R2).I b))/\
 Mem (c.behind w c' ids R.length R2) w'/\ja c w (c.behind w c' ids R.length R2) w'/\Fr (λb=>∃r x,c.R r=some x/\¬c.V r/\r∈ids/\c.ρ r=b) w w'/\
 (∀b,(c.behind w c' ids R.length R2).I b->c.I b\/w.heap.size<=b)/\
 (∀r,R.length<=r->r<R2.length->¬(c.behind w c' ids R.length R2).V r->w.heap.size<=(c.behind w c' ids R.length R2).ρ r):=by
 obtain⟨jm,Az⟩:=Fw db
 have bd:∀r∈ids,r<R.length:=λr hr=>by
  obtain⟨row,h1,_⟩:=Az _ r (Bn hr)
  by_cases hl:r<R.length
  ·exact hl
  ·rw[aV,aJ (by omega)]at h1;cases h1
 obtain⟨k1,k2,k3⟩:=UX (f:=bk ids R.length) kW hle bd
 have wj:R2.length=R.length+(aj.length-ids.length):=by rw[uL];simp[k1,Bq]
 have PV:∀r,r<R.length->R2.getD r none=(tO (bk ids R.length) ids aj R).getD r none:=λr hr=>by
  rw[uL,aV,aV,bI (by omega)]
 have YN:∀i,ids.length<=i->i<aj.length->R2.getD (R.length+(i-ids.length)) none=aj[i]?.map λrow=>row.je (bk ids R.length) true:=λi h1 h2=>by
  rw[uL,aV,List.getElem?_append_right (by omega),Zo6,k1,show R.length+(i-ids.length)-R.length=i-ids.length by omega,fI,show ids.length+(i-ids.length)=i by omega]
  rw[aI h2];rfl
 have jh:c'.base=w.heap.size:=hx.cy.base
 have jD:∀i r ao,ids[i]?=some r->c'.R i=some ao->∃row,c.R r=some row/\ao.box=row.box/\ao.ty=row.ty/\ao.sz=row.sz/\ao.es.l.length=row.es.l.length/\c'.ρ i=c.ρ r/\(c'.V i↔c.V r)/\r<R.length/\R2.getD r none=some (ao.je (bk ids R.length) true)/\bk ids R.length i=r/\
  (¬c.V r->∀arr,w.heap[c.ρ r]?=some (.cells arr row.ty (0,0))->∃iG,w'.heap[c.ρ r]?=some (.cells iG row.ty (0,0))/\iG.size=arr.size):=by
  intro i r ao hi jj
  obtain⟨row,h1,h2⟩:=Az i r hi
  have mw:=fL hi
  have h3:=nZ r row mw h1
  obtain⟨sM,g1,g2,g3,g4,g5,g6,gV,g7⟩:=hx.cy.R i _ (show(c.pass w ids dy len).R i=some _ from h2)
  rw[jj]at g1;cases g1
  obtain⟨s1,s2,s3,s4⟩:=Jv (λr=>pos r ids 0) false row
  obtain⟨kR,q1,q2⟩:=k2 i r hi
  rw[jZ,q1]at jj;cases jj
  refine⟨row,h3,g2.trans s1,g3.trans s2,g4.trans s3,g5.trans s4,by simpa[Ctx.pass,hi]using g6,by simpa[Ctx.pass,hi]using gV,bd r mw,by rw[PV r (bd r mw)];exact q2,by simp[bk,hi],λnv arr ha=>?_⟩
  have:=g7 (by simpa[Ctx.pass,hi]using nv) arr (by simpa[Ctx.pass,hi,s2]using ha)
  simpa[Ctx.pass,hi,s2]using this
 have fresh:∀i ao,ids.length<=i->c'.R i=some ao->i<aj.length/\R2.getD (R.length+(i-ids.length)) none=some (ao.je (bk ids R.length) true)/\bk ids R.length i=R.length+(i-ids.length)/\(¬c'.V i->w.heap.size<=c'.ρ i):=by
  intro i ao hi jj
  have h1:aj[i]?=some ao:=by rw[<-jZ];exact jj
  have h2:=(List.getElem?_eq_some_iff.1 h1).1
  refine⟨h2,by rw[YN i hi h2,h1];rfl,by simp[bk,aJ hi],λnv=>?_⟩
  rcases hx.om i ao jj nv with⟨⟨x,pd⟩,_⟩|h3
  ·have:dy[i]?=some x:=pd
   rw[aJ (by omega)]at this;cases this
  ·exact h3
 have CM:Eh (λ_=>True) (bk ids R.length) true c' (c.behind w c' ids R.length R2):=by
  refine⟨λi ao _ jj=>?_,λ_=>by rw[jh];exact hb,aX _⟩
  obtain⟨s1,s2,s3,s4⟩:=Jv (bk ids R.length) true ao
  by_cases hi:i<ids.length
  ·have iD:ids[i]?=some ids[i]:=aI hi
   obtain⟨row,g1,g2,g3,g4,g5,g6,g7,g8,g9,g10,_⟩:=jD i _ ao iD jj
   rw[g10]
   exact⟨_,by simp only[Ctx.behind];rw[if_pos (.inl (fL iD))];exact g9,s1,s2,s3,s4,by simp only[Ctx.behind];rw[if_neg (by omega),g6],by simp only[Ctx.behind];rw[if_neg (by omega)];exact g7.symm⟩
  ·obtain⟨h1,h2,h3,h4⟩:=fresh i ao (by omega) jj
   rw[h3]
   have hc:R.length<=R.length+(i-ids.length)/\R.length+(i-ids.length)<R2.length:=by omega
   have he:ids.length+(R.length+(i-ids.length)-R.length)=i:=by omega
   exact⟨_,by simp only[Ctx.behind];rw[if_pos (.inr hc)];exact h2,s1,s2,s3,s4,by simp only[Ctx.behind];rw[if_pos hc,he],by simp only[Ctx.behind];rw[if_pos hc,he]⟩
 have CZ:(∀b,c'.I b->(c.behind w c' ids R.length R2).I b)\/(len=true/\∀b,c'.I b->c'.base<=b->(c.behind w c' ids R.length R2).I b):=by
  cases hl:len with
  |false=>
   refine .inl λb ie=>?_
   rcases hx.fe b ie with h1|h1
   ·rcases h1 with h1|⟨h1,_⟩
    ·exact .inl h1
    ·rw[hl]at h1;cases h1
   ·exact .inr ⟨ie,h1⟩
  |true=>exact .inr ⟨rfl,λb ie hbb=>.inr ⟨ie,by omega⟩⟩
 have BX:Fr (λb=>∃r x,c.R r=some x/\¬c.V r/\r∈ids/\c.ρ r=b) w w':=hx.fr.mono λb _ ⟨i,x,h1,h2,h3⟩=>by
  have r5:dy[i]?=some x:=h1
  have hi:i<ids.length:=by have:=(List.getElem?_eq_some_iff.1 r5).1;omega
  have iD:ids[i]?=some ids[i]:=aI hi
  obtain⟨row,g1,g2⟩:=Az i _ iD
  exact⟨_,row,nZ _ row (fL iD) g1,by simpa[Ctx.pass,iD]using h2,fL iD,by simpa[Ctx.pass,iD]using h3⟩
 have inv:∀r x,(c.behind w c' ids R.length R2).R r=some x->(∃i ao,c'.R i=some ao/\x=ao.je (bk ids R.length) true/\(c.behind w c' ids R.length R2).ρ r=c'.ρ i/\((c.behind w c' ids R.length R2).V r↔c'.V i)/\(r∈ids/\ids[i]?=some r/\(c.behind w c' ids R.length R2).ρ r=c.ρ r/\((c.behind w c' ids R.length R2).V r↔c.V r)\/R.length<=r/\ids.length<=i/\r=R.length+(i-ids.length)))\/
  (c.R r=some x/\r∉ids/\(c.behind w c' ids R.length R2).ρ r=c.ρ r/\((c.behind w c' ids R.length R2).V r↔c.V r)/\¬(R.length<=r/\r<R2.length)):=by
  intro r x jJ
  by_cases mw:r∈ids
  ·left
   have hp:=Bn mw
   obtain⟨kR,q1,q2⟩:=k2 _ r hp
   have sN:c'.R (pos r ids 0)=some kR:=by rw[jZ];exact q1
   obtain⟨row,g1,g2,g3,g4,g5,g6,g7,g8,g9,g10,_⟩:=jD _ r kR hp sN
   simp only[Ctx.behind]at jJ
   rw[if_pos (.inl mw),g9]at jJ
   cases jJ
   have e1:(c.behind w c' ids R.length R2).ρ r=c.ρ r:=by simp only[Ctx.behind];rw[if_neg (by omega)]
   have e2:(c.behind w c' ids R.length R2).V r↔c.V r:=by simp only[Ctx.behind];rw[if_neg (by omega)]
   exact⟨_,kR,sN,rfl,by rw[e1,g6],by rw[e2,g7],.inl ⟨mw,hp,e1,e2⟩⟩
  ·by_cases hc:R.length<=r/\r<R2.length
   ·left
    have hi:ids.length+(r-R.length)<aj.length:=by omega
    have sN:c'.R (ids.length+(r-R.length))=some aj[ids.length+(r-R.length)]:=by rw[jZ];exact aI hi
    obtain⟨h1,h2,h3,h4⟩:=fresh _ _ (by omega) sN
    simp only[Ctx.behind]at jJ
    rw[if_pos (.inr hc)]at jJ
    rw[show R.length+(ids.length+(r-R.length)-ids.length)=r by omega]at h2
    rw[h2]at jJ
    cases jJ
    exact⟨_,_,sN,rfl,by simp only[Ctx.behind];rw[if_pos hc],by simp only[Ctx.behind];rw[if_pos hc],.inr ⟨hc.1,by omega,by omega⟩⟩
   ·right
    simp only[Ctx.behind]at jJ
    rw[if_neg (by rintro(h|h)<;>contradiction)]at jJ
    exact⟨jJ,mw,by simp only[Ctx.behind];rw[if_neg hc],by simp only[Ctx.behind];rw[if_neg hc],hc⟩
 have pS:ja c w (c.behind w c' ids R.length R2) w':=by
  refine⟨rfl,hx.cy.top,λb ie=>⟨.inl ie,?_⟩,λr row hr=>?_⟩
  ·exact(hx.cy.I b (.inl ie)).2
  ·by_cases mw:r∈ids
   ·have hp:=Bn mw
    obtain⟨kR,q1,q2⟩:=k2 _ r hp
    have sN:c'.R (pos r ids 0)=some kR:=by rw[jZ];exact q1
    obtain⟨jH,g1,g2,g3,g4,g5,g6,g7,g8,g9,g10,g11⟩:=jD _ r kR hp sN
    rw[hr]at g1;cases g1
    obtain⟨s1,s2,s3,s4⟩:=Jv (bk ids R.length) true kR
    exact⟨_,by simp only[Ctx.behind];rw[if_pos (.inl mw)];exact g9,s1.trans g2,s2.trans g3,s3.trans g4,s4.trans g5,by simp only[Ctx.behind];rw[if_neg (by omega)],by simp only[Ctx.behind];rw[if_neg (by omega)],g11⟩
   ·have hc:¬(R.length<=r/\r<R2.length):=λhc=>by rw[eu r hc.1 (by omega)]at hr;cases hr
    refine⟨row,by simp only[Ctx.behind];rw[if_neg (by rintro(h|h)<;>contradiction)];exact hr,rfl,rfl,rfl,rfl,by simp only[Ctx.behind];rw[if_neg hc],by simp only[Ctx.behind];rw[if_neg hc],λnv arr ha=>⟨arr,?_,rfl⟩⟩
    rw[BX.heap _ (hm.lt hr nv) fun⟨s,x,h1,h2,h3,h4⟩=>mw (by rw[<-hm.inj s r x row h1 hr h2 nv h4];exact h3)]
    exact ha
 refine⟨CM,CZ,⟨λr x jJ=>?_,λr s x y hr hs v1 v2 he=>?_,λb ie=>?_,hx.mem.top,hm.jU.mono pS.I⟩,pS,BX,λb ie=>?_,λr h1 h2 h3=>?_⟩
 ·rcases inv r x jJ with⟨i,ao,h1,rfl,h3,h4,_⟩|⟨h1,h2,h3,h4,h5⟩
  ·refine YO CM CZ h3 h4 (λ_ _ _ _ _=>trivial) (λhf=>?_) (hx.mem.row i ao h1)
   exact Zoz (hI hf) (by rw[<-jZ];exact h1)
  ·exact tz pS h3 h4 (λnv=>BX.heap _ (hm.lt h1 nv) fun⟨s,x',g1,g2,g3,g4⟩=>h2 (by rw[<-hm.inj s r x' x g1 h1 g2 nv g4];exact g3)) (hm.row r x h1)
 ·have Hw:∀i ao,c'.R i=some ao->¬c'.V i->(∃q,q∈ids/\ids[i]?=some q/\(∃y,c.R q=some y)/\¬c.V q/\c'.ρ i=c.ρ q)\/w.heap.size<=c'.ρ i:=λi ao h1 nv=>by
   by_cases hi:i<ids.length
   ·have iD:ids[i]?=some ids[i]:=aI hi
    obtain⟨row,g1,g2,g3,g4,g5,g6,g7,_⟩:=jD i _ ao iD h1
    exact .inl ⟨_,fL iD,iD,⟨row,g1⟩,λe=>nv (g7.2 e),g6⟩
   ·exact .inr ((fresh i ao (by omega) h1).2.2.2 nv)
  rcases inv r x hr with⟨i,x',h1,_,h3,h4,h5⟩|⟨h1,h2,h3,h4,h5⟩<;>rcases inv s y hs with⟨j,y',g1,_,g3,g4,g5⟩|⟨g1,g2,g3,g4,g5⟩
  ·have:i=j:=hx.mem.inj i j x' y' h1 g1 (λe=>v1 (h4.2 e)) (λe=>v2 (g4.2 e)) (by rw[<-h3,<-g3];exact he)
   subst this
   rcases h5 with⟨_,q1,_⟩|⟨_,q1,q2⟩<;>rcases g5 with⟨_,p1,_⟩|⟨_,p1,p2⟩
   ·rw[q1]at p1;exact Option.some.inj p1
   ·have:=(List.getElem?_eq_some_iff.1 q1).1;omega
   ·have:=(List.getElem?_eq_some_iff.1 p1).1;omega
   ·omega
  ·exfalso
   have nv:=λe=>v1 (h4.2 e)
   have ns:=λe=>v2 (g4.2 e)
   rw[h3,g3]at he
   rcases Hw i x' h1 nv with⟨q,q1,q2,⟨z,q3⟩,q4,q5⟩|q
   ·exact g2 (by rw[<-hm.inj q s z y q3 g1 q4 ns (by rw[<-q5];exact he)];exact q1)
   ·have:=hm.lt g1 ns;omega
  ·exfalso
   have nv:=λe=>v2 (g4.2 e)
   have ns:=λe=>v1 (h4.2 e)
   rw[h3,g3]at he
   rcases Hw j y' g1 nv with⟨q,q1,q2,⟨z,q3⟩,q4,q5⟩|q
   ·exact h2 (by rw[<-hm.inj q r z x q3 h1 q4 ns (by rw[<-q5];exact he.symm)];exact q1)
   ·have:=hm.lt h1 ns;omega
  ·exact hm.inj r s x y h1 g1 (λe=>v1 (h4.2 e)) (λe=>v2 (g4.2 e)) (by rw[<-h3,<-g3];exact he)
 ·rcases ie with ie|⟨ie,gh⟩
  ·refine⟨Nat.lt_of_lt_of_le (hm.fe b ie).1 BX.size,λr x hr v=>?_⟩
   rcases inv r x hr with⟨i,x',h1,_,h3,h4,h5⟩|⟨h1,h2,h3,h4,h5⟩
   ·have:=(hx.mem.fe b ((hx.cy.I b (.inl ie)).1)).2 i x' h1 (λe=>v (h4.2 e))
    rw[h3];exact this
   ·rw[h3];exact(hm.fe b ie).2 r x h1 (λe=>v (h4.2 e))
  ·refine⟨(hx.mem.fe b ie).1,λr x hr v=>?_⟩
   rcases inv r x hr with⟨i,x',h1,_,h3,h4,h5⟩|⟨h1,h2,h3,h4,h5⟩
   ·rw[h3];exact(hx.mem.fe b ie).2 i x' h1 (λe=>v (h4.2 e))
   ·have:=hm.lt h1 (λe=>v (h4.2 e))
    rw[h3];omega
 ·rcases ie with h|⟨_,h⟩
  ·exact .inl h
  ·exact .inr h
 ·have hi:ids.length+(r-R.length)<aj.length:=by omega
  have sN:c'.R (ids.length+(r-R.length))=some aj[ids.length+(r-R.length)]:=by rw[jZ];exact aI hi
  obtain⟨_,_,_,h4⟩:=fresh _ _ (by omega) sN
  simp only[Ctx.behind,if_pos (show R.length<=r/\r<R2.length from⟨h1,h2⟩)]at h3⊢
  exact h4 h3
theorem YV(args:List D):CY [] args=[]:=by cases args<;>rfl
theorem Zjl(R:Rows)(args:List D):mC R [] args=[]:=by
 unfold mC;rw[YV];rfl
theorem YR{x:ba}(dx:bm P x){f:FuncId}(hf:x.f=f)(hy:x.f<YB){pos:String}{guard:Option (Nat×Bool)}
 (h:Calls P x.f (args.toList.map a.eval).toArray w λe w'=>∃v,e=.returned v/\K (a.put dst v) w'):(⟨dst,.call ⟨.value (.func f),args,dj⟩,type,pos,after,guard⟩:Oper).nk P a w K Q:=by
 have ij:(execOp a.eval (⟨dst,.call ⟨.value (.func f),args,dj⟩,type,pos,after,guard⟩:Oper)).run P w=.ok (.enter f (args.toList.map a.eval).toArray) w:=by
  simp only[execOp,resolve,Act.eval,Deferred.ofValue,Sem.run_bind,Sem.run_pure,Result.andThen_ok,invoke,Array.empty_append,Array.append_empty]
  rw[<-hf,dx.enters hy,<-bV,bW]
 unfold Oper.nk
 rw[ij]
 show Calls P f _ w _
 rw[<-hf]
 exact h
theorem yS (hG:jA P G){f:FuncId}{guard:Option (Nat×Bool)}{R:Rows}{K:D->Rows->Prop}
    (lU:o6 G f=none) (h:sU G f (args.toList.map ev) R K): ∃val R' x,K val R'/\oO G f=some x/\EC P ⟨dst, .call ⟨.value (.func f),args,dj⟩,type,pos',after,guard⟩ ev R val R'/\(x.refs=[]->pL P ⟨dst, .call ⟨.value (.func f),args,dj⟩,type,pos',after,guard⟩ ev R val R'):=by
  unfold sU at h
  split at h
  . rename_i x hx
    have wu:x.gone=none:=by simpa [o6,hx] using lU
    obtain⟨dx,hf⟩:=Gv hG hx
    split at h
    . rename_i az dy has iQ
      simp only[dd,Bool.or_eq_true,aE]at h
      obtain⟨⟨⟨FE,h1,h2⟩,h3,h4⟩,h⟩:=h
      generalize Jw:mC R x.refs (args.toList.map ev)=ids at*
      have uM:=Mf.1 h1
      have jm:=Mf.1 h2
      have kW:=Mg.1 h3
      have oE:=Uw.1 h4
      have main : ∀res aj,ids.length<=aj.length->K (res.sT (bk ids R.length) true) (tO (bk ids R.length) ids aj R++Bq (bk ids R.length) (aj.drop ids.length))->kq P x.f az dy res aj->(x.flat=true->FF res/\rC aj)->
          ∃val R' y,K val R'/\oO G f=some y/\EC P ⟨dst, .call ⟨.value (.func f),args,dj⟩,type,pos',after,guard⟩ ev R val R'/\(y.refs=[]->pL P ⟨dst, .call ⟨.value (.func f),args,dj⟩,type,pos',after,guard⟩ ev R val R'):=by
        intro res aj hle hK hA ju
        let len:=match lQ x.refs (args.toList.map ev) with|[]=>false|_=>true
        have hlen:lQ x.refs (args.toList.map ev)≠[]->len=true:=by
          intro gq
          show(match lQ x.refs (args.toList.map ev) with|[]=>false|_=>true)=true
          split
          . contradiction
          . rfl
        have wS:len=true->x.flat=true:=by
          intro hl
          rcases FE with h|h
          . exact h.1
          . exfalso
            have hl:(match lQ x.refs (args.toList.map ev) with|[]=>false|_=>true)=true:=hl
            split at h
            . rename_i e;rw[e]at hl;cases hl
            . cases h
        have core: ∀(c:Ctx) (w:World) (a:Act),Mem c w->c.base<=w.heap.size->mn c R->(∀r row,r∈ids->R.getD r none=some row->c.R r=some row)->(∀r,R.length<=r->r<R.length+(aj.length-ids.length)->c.R r=none)->(∀y∈args.toList,Rep c w (ev y) (a.eval y))->
            ∀(K':Act->World->Prop) (Q:Exit->Act->World->Prop),(∀v w' c',lT (c.pass w ids dy len) w c' w'->(∀i,c'.R i=aj[i]?)->Rep (c.behind w c' ids R.length (tO (bk ids R.length) ids aj R++Bq (bk ids R.length) (aj.drop ids.length))) w' (res.sT (bk ids R.length) true) v->K' (a.put dst v) w')->
            (⟨dst, .call ⟨.value (.func f),args,dj⟩,type,pos',after,guard⟩:Oper).nk P a w K' Q:=by
          intro c w a hm hb o5 nZ eu eh K' Q pZ
          have hn:=UC (len:=len) (w:=w) nZ iQ
          have ft:=Mh (len:=len) (ρ:=a.eval) hm o5 hn has hlen oE uM eh
          have mr:=hA (c.pass w ids dy len) w _ (YP hm nZ kW jm iQ) rfl (λr=>rfl) ft
          refine YR dx hf (dx.real wu) (mr.mono λe w' sO=> ?_)
          obtain⟨v,c',he,nG,jZ,kP⟩:=sO
          obtain⟨g1,g2,_⟩:=Zw hm hb nZ eu kW iQ hle nG jZ (λe=>(ju (wS e)).2) rfl
          exact⟨v,he,pZ v w' c' nG jZ (YQ g1 g2 (λ_=>trivial) (λe=>(ju (wS e)).1) kP)⟩
        have jc: ∀(c:Ctx) (w:World) (a:Act),(∀y∈(⟨dst, .call ⟨.value (.func f),args,dj⟩,type,pos',after,guard⟩:Oper).op.operands,Rep c w (ev y) (a.eval y))-> ∀y∈args.toList,Rep c w (ev y) (a.eval y):=λc w a eh y hy=>eh y (by simp [Op.operands,Call.operands];exact .inr (by simpa using hy))
        refine⟨_,_,x,hK,hx,λc w a hm hb hR eh K' Q pZ=> ?_,λhrefs=> ?_⟩
        . have o5:mn c R:=λr row ao g1 g2=>by rw[hR,g2]at g1;exact(Option.some.inj g1).symm
          have nZ: ∀r row,r∈ids->R.getD r none=some row->c.R r=some row:=λr row _ e=>by rw[hR];exact e
          have eu: ∀r,R.length<=r->r<R.length+(aj.length-ids.length)->c.R r=none:=λr e _=>by rw[hR,aV,aJ e];rfl
          refine core c w a hm hb o5 nZ eu (jc c w a eh) K' Q λv w' c' nG jZ kP=> ?_
          obtain⟨g1,g2,g3,g4,g5,g6,g7⟩:=Zw hm hb nZ eu kW iQ hle nG jZ (λe=>(ju (wS e)).2) rfl
          have wj:(tO (bk ids R.length) ids aj R).length=R.length:=(UX kW hle (λr hr=>by
            obtain⟨row,q1,_⟩:=(Fw iQ).2 _ r (Bn hr)
            by_cases hl:r<R.length
            . exact hl
            . rw[aV,aJ (by omega)]at q1;cases q1)).1
          have ir:=UX (f:=bk ids R.length) kW hle (λr hr=>by
            obtain⟨row,q1,_⟩:=(Fw iQ).2 _ r (Bn hr)
            by_cases hl:r<R.length
            . exact hl
            . rw[aV,aJ (by omega)]at q1;cases q1)
          refine pZ v w' _ ⟨g3,g4,g5.mono λb _ ⟨r,y,k1,k2,_,k4⟩=>⟨r,y,k1,k2,k4⟩,g6,λr ao hr hv=> ?_⟩ (λr=> ?_) kP
          . by_cases hc:R.length<=r/\r<(tO (bk ids R.length) ids aj R++Bq (bk ids R.length) (aj.drop ids.length)).length
            . exact .inr (g7 r hc.1 hc.2 hv)
            . left
              simp only[Ctx.behind,if_neg hc]at hv⊢
              refine⟨?_,hv,trivial⟩
              simp only[Ctx.behind]at hr
              split at hr
              . rename_i Hx
                rcases Hx with Hx|Hx
                . obtain⟨row,q1,_⟩:=(Fw iQ).2 _ r (Bn Hx)
                  exact⟨row,nZ r row Hx q1⟩
                . contradiction
              . exact⟨_,hr⟩
          . simp only[Ctx.behind]
            split
            . rfl
            . rename_i Hx
              have h1:r∉ids:=λe=>Hx (.inl e)
              by_cases bd:r<R.length
              . rw[aV,bI (by omega),<-aV,ir.2.2 r h1,hR]
              . rw[hR,aV,aJ (by omega),aV,aJ (by
                  by_cases h2:r<(tO (bk ids R.length) ids aj R++Bq (bk ids R.length) (aj.drop ids.length)).length
                  . exact(Hx (.inr ⟨by omega,h2⟩)).elim
                  . omega)]
        . have QA:ids=[]:=by rw[<-Jw,hrefs];exact Zjl R _
          subst QA
          have uQ:tO (bk [] R.length) [] aj R=R:=by cases aj<;>rfl
          rw[uQ]
          simp only[dE,fS]at*
          refine⟨⟨_,rfl⟩,λc w a hm hb o5 eu eh K' Q pZ=> ?_⟩
          have nZ: ∀r row,r∈([]:List Nat)->R.getD r none=some row->c.R r=some row:=λr row e=>by cases e
          have Hy: ∀r,R.length<=r->r<R.length+(aj.length-0)->c.R r=none:=λr e1 e2=>eu r e1 (by simp [Bq];omega)
          refine core c w a hm hb o5 nZ Hy (jc c w a eh) K' Q λv w' c' nG jZ kP=> ?_
          obtain⟨g1,g2,g3,g4,g5,g6,g7⟩:=Zw hm hb nZ Hy kW iQ hle nG jZ (λe=>(ju (wS e)).2) rfl
          rw[uQ]at g3 g4 g6 g7 kP
          simp only[dE,fS]at g3 g4 g6 g7 kP
          refine pZ v w' _ ⟨g3,g4,g5.mono (λb _ ⟨r,y,k1,k2,k3,k4⟩=>(by cases k3)),g6,λr=> ?_,λr hr=> ?_,λr k1 k2=>g7 r k1 k2⟩ kP
          . simp [Ctx.behind]
          . simp only[Ctx.behind]
            rw[if_neg (by omega),if_neg (by omega)]
            exact⟨rfl,Iff.rfl⟩
      split at h
      . rename_i res aj hm
        simp only[El,dd,D.c6,nm]at h
        obtain⟨h5,h6⟩:=dx.ok wu _ _ _ _ hm
        exact main res aj (lE h.1) h.2 h5 h6
      . rename_i p res aj hm
        simp only[El,dd,D.c6,nm]at h
        obtain⟨h5,h6⟩:=dx.when wu _ _ _ _ _ hm h.1
        exact main res aj (lE h.2.1) h.2.2 h5 h6
      . rename_i α v res aj hm
        have h:=h v rfl
        simp only[El,dd,D.c6,nm]at h
        obtain⟨h5,h6⟩:=dx.abs wu _ _ _ _ _ _ hm
        exact main (res v) (aj v) (lE h.1) h.2 h5 h6
      . rename_i p α v res aj hm
        obtain⟨hp,h⟩:=h
        have h:=h v rfl
        simp only[El,dd,D.c6,nm]at h
        obtain⟨h5,h6⟩:=dx.lH wu _ _ _ _ _ _ _ hm hp
        exact main (res v) (aj v) (lE h.1) h.2 h5 h6
      . exact h.elim
    . exact h.elim
  . exact h.elim
theorem Zc{f:Nat->Nat}:∀{ds:List D},UY ds=true->D.mG f true ds=ds
 |[],_=>rfl
 |d ::l,h=>by
  simp only[UY]at h
  split at h
  ·rename_i hd
   simp only[D.mG,Zc h]
   cases d<;>first|(simp[QB]at hd;done)|simp[D.mF]
  ·cases h
theorem Zir{f:Nat->Nat}(h:sV d=true):d.je f true=d:=by
 cases d with
 |agg cs=>show D.agg (D.mG f true cs)=_;rw[Zc h]
 |_=>first|(simp[sV,QB]at h;done)|simp[D.je,D.mF]
theorem Zcb{f:Nat->Nat}:∀{ds:List D},UZ ds=true->D.AG f true ds=ds
 |[],_=>rfl
 |d ::l,h=>by
  simp only[UZ]at h
  split at h
  ·rename_i hd
   simp only[D.AG,Zcb h,Zir hd]
  ·cases h
theorem Zrz{f:Nat->Nat}(h:uR d=true):d.sT f true=d:=by
 cases d with
 |dw ds=>show D.dw (D.AG f true ds)=_;rw[Zcb h]
 |agg cs=>exact Zir (d:=.agg cs) h
 |_=>first|(simp[uR,sV,QB]at h;done)|simp[D.sT,D.je,D.mF]
theorem YU{R:Rows}(f g:Nat->Nat):∀{ds:List D},sP R f [] ds=sP R g [] ds
 |[]=>rfl
 |d::l=>by simp only[sP,YU f g (ds:=l)]
theorem vS{G:List ba}{f:FuncId}{args:List D}{R:Rows}{K:D->Rows->Prop}(h:Kt G f args R K):sU G f args R K:=by
 unfold Kt at h
 split at h
 ·rename_i x hx
  split at h
  ·rename_i hrefs
   split at h
   ·rename_i az has
    simp only[dd]at h
    have hv:∀{res:D} {aj:List Row},Mp R res aj K->El R [] res aj K:=by
     intro res aj h
     have uQ:tO (bk [] R.length) [] aj R=R:=by cases aj<;>rfl
     simp only[El,dd,dE,fS,uQ]
     refine⟨by simp,?_⟩
     unfold Mp at h
     split at h
     ·simp only[dd,D.c6]at h
      rw[Zrz h.1]
      simp only[D.c6,nm,Bq,List.map_nil,List.append_nil]
      exact h.2
     ·exact h
    unfold sU
    simp only[hx,hrefs,Zjl]
    rw[YU _ (λr=>r),has]
    simp only[Bm,dd,YV]
    refine⟨?_,?_⟩
    ·have:∀l:List Nat,px l []=true:=λl=>by
      rw[Uw];intro r _ hr;cases hr
     simp only[pA,CO,CX,this,Bool.and_true]
     have h1:=h.1
     revert h1
     cases lQ [] args<;>simp[Da]
    ·revert h
     cases x.m az []with
     |no=>exactλh=>h.2
     |ok res aj=>exactλh=>hv h.2
     |«when»p res aj=>exactλh=>⟨h.2.1,hv h.2.2⟩
     |abs α v res aj=>exactλh X hX=>hv (h.2 X hX)
     |lH p α v res aj=>exactλh=>⟨h.2.1,λX hX=>hv (h.2.2 X hX)⟩
   ·exact h.elim
  ·exact h
 ·exact h.elim
theorem Wo(hG:jA P G){f:FuncId}{guard:Option (Nat×Bool)}{R:Rows}{K:D->Rows->Prop}
 (lU:o6 G f=none) (h:Kt G f (args.toList.map ev) R K):∃val R' x,K val R'/\oO G f=some x/\EC P ⟨dst,.call ⟨.value (.func f),args,dj⟩,type,pos',after,guard⟩ ev R val R'/\(x.refs=[]->pL P ⟨dst,.call ⟨.value (.func f),args,dj⟩,type,pos',after,guard⟩ ev R val R'):=
 yS hG lU (vS h)

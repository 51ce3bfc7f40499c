import Derived.Test.YthjfindbamdacaaGreatDoorAuditTellsFp
open List renaming getD->aK,getElem?_eq_none->aM,getElem?_append_left->aZ,getElem?_take->aU,getElem?_drop->fU,getElem?_eq_getElem->cG,getElem?_toArray->aY,map_cons->fS,map_toArray->bR,mem_cons->cR,mem_map->gB,mem_of_getElem?->fX,length_nil->dI,drop_zero->gC
open Nat renaming le_refl->aO,zero_add->aX,add_assoc->fZ
open Option renaming getD_some->aG
open Bool renaming false_eq_true->aN
open Array renaming toArray_toList->bS,extract_eq_self_of_le->gA
set_option linter.all false
namespace Go.GD
open Go
structure Kv(c:Ctx)(w:World)(R R':Rows)(c':Ctx)(w':World):Prop where
 mem:Mem c' w'
 cj:jq c w c' w'
 fr:Fr (λ_=>False) w w'
 fk:∀b,c'.I b->c.I b\/w.heap.size<=b
 rows:∀r,c'.R r=if R.length<=r/\r<R'.length then R'.getD r none else c.R r
 jG:∀r,r<R.length\/R'.length<=r->c'.ρ r=c.ρ r/\(c'.V r↔c.V r)
 new:∀r,R.length<=r->r<R'.length->¬c'.V r->w.heap.size<=c'.ρ r
structure lU(c:Ctx)(w:World)(c':Ctx)(w':World):Prop where
 mem:Mem c' w'
 cj:jq c w c' w'
 fr:Fr (λb=>∃r x,c.R r=some x/\¬c.V r/\c.ρ r=b) w w'
 fk:∀b,c'.I b->c.I b\/w.heap.size<=b
 oj:∀r aq,c'.R r=some aq->¬c'.V r->((∃row,c.R r=some row)/\¬c.V r/\c'.ρ r=c.ρ r)\/w.heap.size<=c'.ρ r
def QA(P:Program)(o:Oper)(a:Act)(next:Act->World->Prop):Result Next->Prop
 |.ok (.value v) w'=>next (a.put o.dst v) w'
 |.ok .skip w'=>next (a.put o.dst undef) w'
 |.ok (.enter f args) w'=>Calls P f args w' λe FT=>∃v,e=.returned v/\next (a.put o.dst v) FT
 |.ok (.round l f tmps assign body) w'=>RoundIn Fence.wide 0 P l f tmps assign body w' λe FT=>∃v,e=.returned v/\next (a.put o.dst v) FT
 |_=>False
def _root_.Go.Oper.nk(P:Program)(o:Oper)(a:Act)(w:World)(next:Act->World->Prop)(_:Exit->Act->World->Prop):Prop:=QA P o a next ((execOp a.eval o).run P w)
theorem Gm{P:Program}{o:Oper}{a:Act}{w w':World}{u:Value}{K:Act->World->Prop}{Q:Exit->Act->World->Prop}(h:(execOp a.eval o).run P w=.ok (.value u) w')(hK:K (a.put o.dst u) w'):o.nk P a w K Q:=by
 unfold Oper.nk;rw[h];exact hK
theorem vN{P:Program}{o:Oper}{a:Act}{w w':World}{K:Act->World->Prop}{Q:Exit->Act->World->Prop}(h:(execOp a.eval o).run P w=.ok .skip w')(hK:K (a.put o.dst undef) w'):o.nk P a w K Q:=by
 unfold Oper.nk;rw[h];exact hK
theorem Wr{P:Program}{o:Oper}{a:Act}{w:World}{K K':Act->World->Prop}{Q Q':Exit->Act->World->Prop}(h:∀a w,K a w->K' a w)(hh:o.nk P a w K Q):o.nk P a w K' Q':=by
 unfold Oper.nk at hh⊢
 revert hh
 generalize(execOp a.eval o).run P w=r
 intro hh
 cases r with
 |halt _ _=>exact hh.elim
 |ok n w'=>
  cases n with
  |value v=>exact h _ _ hh
  |skip=>exact h _ _ hh
  |enter f args=>exact Calls.mono hh λe w' ⟨v,he,hk⟩=>⟨v,he,h _ _ hk⟩
  |round l f tmps assign body=>exact RoundIn.mono hh λe w' ⟨v,he,hk⟩=>⟨v,he,h _ _ hk⟩
  |_=>exact hh.elim
def pR(P:Program)(o:Oper)(ev:Operand->D)(R:Rows)(val:D)(R':Rows):Prop:=
 (∃news,R'=R++news)/\∀(c:Ctx) (w:World) (a:Act),Mem c w->c.base<=w.heap.size->mK c R->(∀r,R.length<=r->r<R'.length->c.R r=none)->(∀x∈o.op.operands,Rep c w (ev x) (a.eval x))->
  ∀K Q,(∀v w' c',Kv c w R R' c' w'->Rep c' w' val v->K (a.put o.dst v) w')->o.nk P a w K Q
def EY(P:Program)(o:Oper)(ev:Operand->D)(R:Rows)(val:D)(R':Rows):Prop:=
 ∀ (c:Ctx) (w:World) (a:Act),Mem c w->c.base<=w.heap.size->(∀r,c.R r=R.getD r none)->(∀x∈o.op.operands,Rep c w (ev x) (a.eval x))->
  ∀K Q,(∀v w' c',lU c w c' w'->(∀r,c'.R r=R'.getD r none)->Rep c' w' val v->K (a.put o.dst v) w')->o.nk P a w K Q
theorem pR.toW{P:Program}{o:Oper}{ev:Operand->D}{R:Rows}{val:D}{R':Rows}(h:pR P o ev R val R'):EY P o ev R val R':=by
 obtain⟨⟨news,hn⟩,h⟩:=h
 intro c w a hm hb hR eu K Q hK
 refine h c w a hm hb (λr row aq h1 h2=>by rw[hR,h2]at h1;exact(Option.some.inj h1).symm) (λr h1 _=>by rw[hR];simp[aK,aM h1]) eu K Q λv w' c' hs hr=>?_
 refine hK v w' c' ⟨hs.mem,hs.cj,hs.fr.mono (λb _ hf=>hf.elim),hs.fk,λr aq nB hv=>?_⟩ (λr=>?_) hr
 ·by_cases h1:R.length<=r/\r<R'.length
  ·exact .inr (hs.new r h1.1 h1.2 hv)
  ·rw[hs.rows,if_neg h1]at nB
   obtain⟨h2,h3⟩:=hs.jG r (by omega)
   exact .inl ⟨⟨_,nB⟩,λe=>hv (h3.2 e),h2⟩
 ·rw [hs.rows,hR]
  split
  ·rfl
  ·rename_i h1
   subst hn
   by_cases h2:r<R.length
   ·simp[aK,aZ h2]
   ·have h3:(R++news).length<=r:=by omega
    simp[aK,aM h3,aM (show R.length<=r by omega)]
theorem nb{P:Program}{o:Oper}{ev:Operand->D}{R:Rows}{val:D}(h:∀(c:Ctx) (w:World) (a:Act),Mem c w->mK c R->(∀x∈o.op.operands,Rep c w (ev x) (a.eval x))->∃u,(execOp a.eval o).run P w=.ok (.value u) w/\Rep c w val u):pR P o ev R val R:=by
 refine⟨⟨[],by simp⟩,λc w a hm hb hA _ eu K Q hK=>?_⟩
 obtain⟨u,hu,hr⟩:=h c w a hm hA eu
 exact Gm hu (hK u w c ⟨hm,jq.refl c w,Fr.refl _ w,λb hb=>.inl hb,λr=>by rw[if_neg (by omega)],λ_ _=>⟨rfl,Iff.rfl⟩,λr h1 h2=>by omega⟩ hr)
theorem UR{P:Program}{o:Oper}{ev:Operand->D}{R:Rows}{val:D}{row:Row}(h:∀(c:Ctx) (w:World) (a:Act),Mem c w->mK c R->(∀x∈o.op.operands,Rep c w (ev x) (a.eval x))->
 ∃x:Sem Value,execOp a.eval o=(do pure (.value (<-x)))/\US P x w c R.length row val):pR P o ev R val (R++[some row]):=by
 refine⟨⟨[some row],rfl⟩,λc w a hm hb hA fg eu K Q hK=>?_⟩
 obtain⟨x,hx,u,arr,hu,hi,hr⟩:=h c w a hm hA eu
 have hk:c.R R.length=none:=fg R.length (aO _) (by simp)
 have iu:(execOp a.eval o).run P w=.ok (.value u) (w.alloc (.cells arr row.ty)):=by
  rw[hx,Sem.run_bind,hu];rfl
 refine Gm iu (hK u _ (c.add R.length row w.heap.size) ⟨hm.alloc hk row arr hi.1 hi.2,jq.alloc hm hk row _,Fr.alloc _ w _,λb hb=>.inl hb,λr=>?_,λr hr=>?_,λr h1 h2 _=>?_⟩ (hr hk hm))
 ·by_cases e:r=R.length
  ·subst e
   simp[Ctx.add,aK]
  ·have:¬(R.length<=r/\r<(R++[some row]).length):=by simp;omega
   rw[if_neg this]
   simp[Ctx.add,e]
 ·have:r≠R.length:=by simp at hr;omega
  simp[Ctx.add,this]
 ·have:r=R.length:=by simp at h2;omega
  simp[Ctx.add,this]
def Gl:Op->Bool|.store _ _ _=>true|_=>false
theorem Zpc{c:Ctx}{w:World}{cs:List D}{vs:List Value}(h:jt c w cs vs)(o n:Nat):jt c w ((cs.drop o).take n) ((vs.drop o).take n):=by
 rw[EC]at h⊢
 obtain⟨h1,h2⟩:=h
 refine⟨by simp[h1],λj v hv=>?_⟩
 simp only[aU,fU]at hv
 split at hv
 ·rename_i hj
  have:=h2 (o+j) v hv
  simp only[aK,aU,fU,hj,if_true]at this⊢
  exact this
 ·cases hv
theorem vX{c:Ctx}{w:World}:∀{da:List rm} {az:List D} {vs:List Value},jt c w az vs->fits da az=true->rh vs.toArray 0 az
 |da,az,vs,h,hf=>by
  intro j d hj
  have cq:=(List.getElem?_eq_some_iff.1 hj).1
  have hl:=h.length
  have hv:vs[j]?=some vs[j]:=cG (by omega)
  have hr:=(EC.1 h).2 j _ hv
  simp only[aK,hj,aG]at hr
  have hs :∀{da:List rm} {az:List D} {j:Nat},fits da az=true->az[j]?=some d->(∃k n,d=.int k n)\/(∃b,d=.bool b)\/∃s,d=.str s:=by
   intro da
   induction da with
   |nil=>intro az j hf hj;cases az<;>simp[fits]at hf;simp at hj
   |cons t ts ih=>
    intro az j hf hj
    cases az with
    |nil=>cases t<;>simp[fits]at hf
    |cons e es=>
     cases t<;>simp only[fits,aE,aN]at hf
     all_goals
      cases j with
      |succ j=>exact ih hf.2 (by simpa using hj)
      |zero=>
       simp at hj
       subst hj
       cases e<;>simp[D.isInt,D.isBool,D.isStr]at hf⊢
  simp only[aX,aY,hv]
  rcases hs hf hj with⟨k,n,rfl⟩|⟨b,rfl⟩|⟨s,rfl⟩<;>(simp only[cz]at hr;rw[hr];rfl)
theorem Zy{c:Ctx}{w:World}:∀{ds:List D} {vs:List Value},kr c w ds vs->∀i,i<ds.length->∃v,vs[i]?=some v/\VRep c w (ds.getD i .dead) v
 |[],[],_,i,h=>by simp at h
 |d::ds,v::vs,h,0,_=>⟨v,rfl,h.1⟩
 |d::ds,v::vs,h,i+1,hi=>by
  obtain⟨u,hu,hr⟩:=Zy h.2 i (by simpa using hi)
  exact⟨u,by simpa using hu,by simpa using hr⟩
 |[],_::_,h,_,_=>h.elim
 |_::_,[],h,_,_=>h.elim
theorem qal{d:D}{x:iz}(h:Dh d=some x):x.d=d:=by
 have go:∀{cs:List iz} {ps:List (Nat×Nat×Nat)},QB cs=some ps->ps.map Ir=cs:=by
  intro cs
  induction cs with
  |nil=>intro ps h;simp[QB]at h;subst h;rfl
  |cons y l ih=>
   intro ps h
   simp only[QB]at h
   split at h
   ·rename_i p qs h1 h2
    cases h
    simp only[fS,ih h2]
    cases y<;>simp[Hz]at h1
    subst h1;rfl
   ·cases h
 cases d<;>simp only[Dh]at h<;>first|(cases h;done)|skip
 case gj f cs=>
  split at h
  ·rename_i ps hp;cases h;simp only[iz.d,go hp]
  ·cases h
 all_goals(cases h;rfl)
theorem WB{c:Ctx}{w:World}{ev:Operand->D}{ρ:Operand->Value}:∀{xs:List Operand} {cs:List iz},KK (xs.map ev)=some cs->(∀x∈xs,Rep c w (ev x) (ρ x))->oR c w cs (xs.map ρ)
 |[],cs,h,_=>by simp[KK]at h;subst h;trivial
 |x ::xs,cs,h,hr=>by
  simp only[fS,KK]at h
  split at h
  ·rename_i y ys h1 h2
   cases h
   refine⟨?_,WB h2 λz hz=>hr z (by simp[hz])⟩
   have:=hr x (by simp)
   rw[<-qal h1]at this
   rw[Wm]
   cases y<;>exact this
  ·cases h
theorem Nu{P:Program}{T:fj}(hT:jF P T)(o:Oper)(ev:Operand->D)(R:Rows)(K:D->Rows->Prop)(h:ik T o.op ev R K):
 ∃val R',K val R'/\(if Gl o.op then EY P o ev R val R' else pR P o ev R val R'):=by
 obtain⟨dst,op,type,pos,after,guard⟩:=o
 simp only at h
 cases op<;>(try simp only[ik]at h)<;>try(exact h.elim)
 case makeFunc fn first captured=>
  cases fn<;>simp only at h<;>try(exact h.elim)
  rename_i f
  simp only[c9,aE]at h
  obtain⟨⟨h0,hy⟩,h⟩:=h
  split at h
  ·rename_i cs hc
   refine⟨_,_,h,nb λc w a hm hA eu=>?_⟩
   have hf:first= #[]:=Array.eq_empty_of_size_eq_zero (bE h0)
   subst hf
   refine⟨.func (.func f) #[] (captured.map a.eval),?_,captured.toList.map a.eval,?_,WB hc λx hx=>eu x (by simp[Op.operands];simpa using hx)⟩
   ·simp only[execOp,Instr.makeFunc,Sem.run_bind,Sem.run_pure,Array.map_empty];rfl
   ·exact .inl ⟨lE hy,by rw[<-bR,bS]⟩
  ·exact h.elim
 case move x=>
  rw[D.cv]at h
  exact⟨_,_,h,nb λc w a hm hA eu=>⟨_,rfl,eu x (by simp[Op.operands])⟩⟩
 case assign x=>
  rw[D.cv]at h
  exact⟨_,_,h,nb λc w a hm hA eu=>⟨_,rfl,eu x (by simp[Op.operands])⟩⟩
 case alloc t=>
  split at h
  ·rename_i ht
   simp only[c9,aE,Nx]at h
   obtain⟨⟨h0,hl⟩,h⟩:=h
   exact⟨_,_,h,UR λc w a hm hA eu=>⟨_,rfl,Zo3 hT ht (lE h0) (bE hl) R.length c w⟩⟩
  ·exact h.elim
 case box t x=>
  split at h
  ·rename_i ht
   simp only[c9,aE,Nx,D.fh]at h
   obtain⟨⟨⟨h0,hv⟩,hl⟩,h⟩:=h
   exact⟨_,_,h,UR λc w a hm hA eu=>⟨_,rfl,qaC (lE h0) hv (bE hl) R.length c w (eu x (by simp[Op.operands]))⟩⟩
  ·exact h.elim
 case build t parts=>
  obtain⟨val,hK,hr⟩:=vO hT h
  refine⟨_,_,hK,nb λc w a hm hA eu=>?_⟩
  obtain⟨u,hu,hx⟩:=hr c w a.eval (λp hp=>eu p.2 (by simp[Op.operands];exact⟨p.1,by simpa using hp⟩))
  refine⟨u,?_,hx⟩
  simp only[execOp]
  rw[Sem.run_bind,show parts.map (λx=>(x.1,a.eval x.2))=(parts.toList.map λp=>(p.1,a.eval p.2)).toArray from by rw[<-bR,bS],hu]
  rfl
 case buildSlice t len parts=>
  obtain⟨val,hK,hr⟩:=Zqj hT h
  refine⟨_,_,hK,⟨[],by simp⟩,λc w a hm hb hA _ eu K Q hK=>?_⟩
  obtain⟨u,arr,ty,hu,hx⟩:=hr c w a.eval hb (λp hp=>eu p.2 (by simp[Op.operands];exact⟨p.1,by simpa using hp⟩))
  have iu:(execOp a.eval (⟨dst,.buildSlice t len parts,type,pos,after,guard⟩:Oper)).run P w=.ok (.value u) (w.alloc (.cells arr ty)):=by
   simp only[execOp]
   rw[Sem.run_bind,show parts.map (λx=>(x.1,a.eval x.2))=(parts.toList.map λp=>(p.1,a.eval p.2)).toArray from by rw[<-bR,bS],hu]
   rfl
  exact Gm iu (hK u _ (c.fk w.heap.size) ⟨xak hm _,UQ hm _,Fr.alloc _ w _,λb hb=>hb.elim .inl (λe=>.inr (by omega)),λr=>by rw[if_neg (by omega)];rfl,λ_ _=>⟨rfl,Iff.rfl⟩,λr h1 h2=>by omega⟩ (hx hm))
 case load t x=>
  obtain⟨val,hK,hr⟩:=Zhl hT h
  refine⟨_,_,hK,nb λc w a hm hA eu=>?_⟩
  obtain⟨u,hu,hx⟩:=hr c w _ hm hA (eu x (by simp[Op.operands]))
  exact⟨u,by simp only[execOp];rw[Sem.run_bind,hu];rfl,hx⟩
 case store t x y=>
  obtain⟨R',hK,hr⟩:=Zoq hT h
  refine⟨_,_,hK,?_⟩
  simp only[Gl,if_true]
  intro c w a hm hb hR eu K Q hK
  obtain⟨r,aq,arr,w',iu,YP,⟨row,cr⟩,hV,hg,jT,j7⟩:=hr c w _ _ hm hR (eu x (by simp[Op.operands])) (eu y (by simp[Op.operands]))
  refine vN (w':=w') ?_ (hK undef w' _ ⟨jT,hg,?_,λb hb=>.inl hb,λs oz hs hv=>?_⟩ j7 trivial)
  ·simp only[execOp];rw[Sem.run_bind,iu];rfl
  rotate_left
  ·by_cases e:s=r
   ·exact .inl ⟨⟨row,by rw[e];exact cr⟩,hv,rfl⟩
   ·exact .inl ⟨⟨oz,by simpa[Ctx.jI,e]using hs⟩,hv,rfl⟩
  ·rw[YP]
   exact(SE w _ arr).mono λb _ e=>⟨r,row,cr,hV,e.symm⟩
 case nilCheck x=>
  have go:∀d,ev x=d->(∃a b c,d=.ptr a b c)\/(∃a b c e,d=.iw a b c e)->K d R->∃val R',K val R'/\pR P ⟨dst,.nilCheck x,type,pos,after,guard⟩ ev R val R':=by
   intro d hd QC hK
   refine⟨_,_,hK,nb λc w a hm hA eu=>?_⟩
   have hx:=eu x (by simp[Op.operands])
   rw[hd]at hx
   have hp:∃q,a.eval x=.pointer (some q):=by
    rcases QC with⟨r,i,off,rfl⟩|⟨sz,es,i,off,rfl⟩
    ·obtain⟨_,_,_,_,hv⟩:=hx;exact⟨_,hv⟩
    ·obtain⟨_,_,_,_,_,hv,_⟩:=hx;exact⟨_,hv⟩
   obtain⟨q,hq⟩:=hp
   refine⟨a.eval x,?_,hx⟩
   simp only[execOp,hq,Sem.run_pure]
  split at h
  ·rename_i hd;exact go _ hd (.inl ⟨_,_,_,rfl⟩) h
  ·rename_i hd;exact go _ hd (.inr ⟨_,_,_,_,rfl⟩) h
  ·exact h.elim
 case binOp op t x y ty=>
  have fin:∀(val:D),(∀c w u v,Rep c w (ev x) u->Rep c w (ev y) v->∃z,(do eqGuard op t x y u v;binOp op t u v).run P w=.ok z w/\Rep c w val z)->pR P ⟨dst,.binOp op t x y ty,type,pos,after,guard⟩ ev R val R:=λval hv=>
   nb λc w a hm hA eu=>by
    obtain⟨z,hz,hr⟩:=hv c w _ _ (eu x (by simp[Op.operands])) (eu y (by simp[Op.operands]))
    refine⟨z,?_,hr⟩
    simp only[execOp]
    rw[Sem.run_bind,hz];rfl
  unfold ta at h
  split at h
  ·rename_i k a k' b hx hy
   split at h
   ·simp only[c9,decide_eq_true_eq]at h
    refine⟨_,_,h.2,fin _ λc w u v hu hv=>?_⟩
    rw[hx]at hu;rw[hy]at hv
    rw[Rep.int.1 hu,Rep.int.1 hv]
    exact⟨_,by rw[Sem.run_bind,Qt];exact(Zet h.1 w).1,rfl⟩
   ·simp only[c9,decide_eq_true_eq]at h
    refine⟨_,_,h.2,fin _ λc w u v hu hv=>?_⟩
    rw[hx]at hu;rw[hy]at hv
    rw[Rep.int.1 hu,Rep.int.1 hv]
    exact⟨_,by rw[Sem.run_bind,Qt];exact(Zet h.1 w).2,rfl⟩
   ·rename_i h1 h2
    simp only[c9,decide_eq_true_eq]at h
    obtain⟨rfl,h⟩:=h
    obtain⟨d,hK,hr⟩:=zal (P:=P) (t:=t) ⟨λe=>h1 e,λe=>h2 e⟩ h
    refine⟨_,_,hK,fin _ λc w u v hu hv=>?_⟩
    rw[hx]at hu;rw[hy]at hv
    rw[Rep.int.1 hu,Rep.int.1 hv]
    obtain⟨z,hz,Zz⟩:=hr w
    exact⟨z,by rw[Sem.run_bind,Qt];exact hz,Zz c⟩
  ·rename_i a b hx hy
   obtain⟨d,hK,hr⟩:=xal (P:=P) (t:=t) (op:=op) (a:=a) (b:=b) (K:=λd=>K d R) h
   refine⟨_,_,hK,fin _ λc w u v hu hv=>?_⟩
   rw[hx]at hu;rw[hy]at hv
   rw[Rep.str.1 hu,Rep.str.1 hv]
   obtain⟨z,hz,Zz⟩:=hr w
   exact⟨z,by rw[Sem.run_bind,Zly];exact hz,Zz c⟩
  ·rename_i a b hx hy
   split at h
   ·rename_i ht
    have hd:=mY hT ht
    simp only at hd
    split at h
    ·refine⟨_,_,h,fin _ λc w u v hu hv=>?_⟩
     rw[hx]at hu;rw[hy]at hv
     rw[Rep.bool.1 hu,Rep.bool.1 hv]
     refine⟨_,?_,rfl⟩
     rw[Sem.run_bind,Qyw]
     simp only[binOp]
     simp[Op.equal,Op.maxDepth,run_equalIn_bool' w 9999 t a b hd]
    ·refine⟨_,_,h,fin _ λc w u v hu hv=>?_⟩
     rw[hx]at hu;rw[hy]at hv
     rw[Rep.bool.1 hu,Rep.bool.1 hv]
     refine⟨_,?_,rfl⟩
     rw[Sem.run_bind,Qyw]
     simp only[binOp]
     simp[Op.equal,Op.maxDepth,run_equalIn_bool' w 9999 t a b hd]
    ·exact h.elim
   ·exact h.elim
  ·rename_i a b hx hy
   split at h
   ·rename_i ti ht
    simp only[c9,aE]at h
    obtain⟨⟨⟨⟨⟨Dg,h0⟩,he⟩,fa⟩,fb⟩,h⟩:=h
    obtain⟨i0,rU,ET,_,Br,Av,_,heq,hc,d0,FW⟩:=DV (hT.get ht)
    have h0:0<ti.size:=lE h0
    rw[heq]at he
    simp only[aE,Bool.not_eq_true']at he
    rw[hc]at fa fb
    have kB:P.cellsOf t=(mi P 8 t).length:=by rw[<-hc,Br];simp[Program.cellsOf,rU,ET]
    have uH:0<P.cellsOf t:=by simp[Program.cellsOf,rU,ET,h0]
    have QD:∀c w u v,Rep c w (ev x) u->Rep c w (ev y) v->∃us vs:Array Value,u=.agg us/\v=.agg vs/\(Op.equalIn 10000 t (.agg us) (.agg vs)).run P w=.ok (eqs a b) w:=by
     intro c w u v hu hv
     rw[hx]at hu;rw[hy]at hv
     obtain⟨us,hu,ru⟩:=hu
     obtain⟨vs,hv,rv⟩:=hv
     refine⟨us.toArray,vs.toArray,hu,hv,?_⟩
     have JP:=ZA (P:=P) 8 t 10000 (by omega) he.2 kB uH us.toArray vs.toArray 0 a b w fa fb (vX ru fa) (vX rv fb)
     have hlu:=ru.length;have hlv:=rv.length
     have hla:=te fa;have NN:=te fb
     have uD:P8 d0=true:=by rw[<-MG FW,<-Av];exact Dg
     simp only[oH,Sem.run_bind,UT FW uD uH,Result.andThen_ok]at JP
     rw[show us.toArray.extract 0 (0+P.cellsOf t)=us.toArray from by apply gA;simp;omega,show vs.toArray.extract 0 (0+P.cellsOf t)=vs.toArray from by apply gA;simp;omega]at JP
     exact JP
    split at h
    ·refine⟨_,_,h,fin _ λc w u v hu hv=>?_⟩
     obtain⟨us,vs,rfl,rfl,hr⟩:=QD c w u v hu hv
     refine⟨_,?_,rfl⟩
     rw[Sem.run_bind,run_eqGuard_agg w _ _ _ _ _ _ he.1,Result.andThen_ok,run_eql_struct,hr];rfl
    ·refine⟨_,_,h,fin _ λc w u v hu hv=>?_⟩
     obtain⟨us,vs,rfl,rfl,hr⟩:=QD c w u v hu hv
     refine⟨_,?_,rfl⟩
     rw[Sem.run_bind,run_eqGuard_agg w _ _ _ _ _ _ he.1,Result.andThen_ok,run_neq_struct,hr];rfl
    ·exact h.elim
   ·exact h.elim
  ·exact h.elim
 case unOp op t x=>
  split at h
  ·rename_i k n hx
   refine⟨_,_,h,nb λc w a hm hA eu=>?_⟩
   have:=eu x (by simp[Op.operands])
   rw[hx]at this
   exact⟨_,by simp only[execOp,Rep.int.1 this,Op.unary,Op.intArith,Sem.run_bind,Sem.run_pure];rfl,rfl⟩
  ·rename_i k n hx
   refine⟨_,_,h,nb λc w a hm hA eu=>?_⟩
   have:=eu x (by simp[Op.operands])
   rw[hx]at this
   exact⟨_,by simp only[execOp,Rep.int.1 this,Op.unary,Op.intBits,Sem.run_bind,Sem.run_pure];rfl,rfl⟩
  ·rename_i b hx
   refine⟨_,_,h,nb λc w a hm hA eu=>?_⟩
   have:=eu x (by simp[Op.operands])
   rw[hx]at this
   exact⟨_,by simp only[execOp,Rep.bool.1 this,Op.unary,Sem.run_bind,Sem.run_pure];rfl,rfl⟩
  ·exact h.elim
 case convert s d x=>
  obtain⟨val,hK,hr⟩:=qam hT h
  refine⟨_,_,hK,nb λc w a hm hA eu=>?_⟩
  obtain⟨u,hu,hx⟩:=hr c w _ (eu x (by simp[Op.operands]))
  exact⟨u,by simp only[execOp];rw[Sem.run_bind,hu];rfl,hx⟩
 case makeSlice t l cp=>
  split at h
  ·rename_i kl n kc m hl hc
   obtain⟨row,val,hK,hr⟩:=xt (kl:=kl) (kc:=kc) hT h
   refine⟨_,_,hK,UR λc w a hm hA eu=>⟨_,rfl,?_⟩⟩
   have h1:=eu l (by simp[Op.operands]);have h2:=eu cp (by simp[Op.operands])
   rw[hl]at h1;rw[hc]at h2
   rw[Rep.int.1 h1,Rep.int.1 h2]
   exact hr c w
  ·exact h.elim
 case slice t x lo hi mx=>
  cases mx with
  |some m=>simp only at h
  |none=>
   simp only at h
   obtain⟨val,hK,hr⟩:=yO hT h
   refine⟨_,_,hK,nb λc w a hm hA eu=>?_⟩
   obtain⟨u,hu,hx⟩:=hr c w _ a.eval hm hA (eu x (by simp[Op.operands])) (λy hy=>eu y (by simp[Op.operands,hy])) (λy hy=>eu y (by simp[Op.operands,hy]))
   exact⟨u,by simp only[execOp];rw[Sem.run_bind];simp only[Option.map_none];rw[hu];rfl,hx⟩
 case fieldAddr s x f=>
  split at h
  ·rename_i o q n hf
   simp only[c9]at h
   obtain⟨h0,h⟩:=h
   have h0:0<n:=lE h0
   obtain⟨fs,fd,g1,g2,g3,g4,g5⟩:=Qyk hT hf
   split at h
   ·rename_i r i off hx
    refine⟨_,_,h,nb λc w a hm hA eu=>?_⟩
    have:=eu x (by simp[Op.operands])
    rw[hx]at this
    obtain⟨row,k1,kV,k2,hv⟩:=this
    refine⟨_,by simp only[execOp,hv];rw[Sem.run_bind,Z22 g1 g2 (by simp only at g5;omega)];rfl,row,k1,kV,k2,by rw[g3,fZ]⟩
   ·rename_i sz es i off hx
    refine⟨_,_,h,nb λc w a hm hA eu=>?_⟩
    have:=eu x (by simp[Op.operands])
    rw[hx]at this
    obtain⟨b,oo,arr,ty,fz,hv,hI,hi,hh,hE⟩:=this
    refine⟨_,by simp only[execOp,hv];rw[Sem.run_bind,Z22 g1 g2 (by simp only at g5;omega)];rfl,b,oo,arr,ty,fz,by rw[g3,fZ],hI,hi,hh,hE⟩
   ·exact h.elim
  ·exact h.elim
 case field s x f=>
  split at h
  ·rename_i o q n hf
   obtain⟨fs,fd,g1,g2,g3,g4,g5⟩:=Qyk hT hf
   simp only at g4 g5
   split at h
   ·rename_i cs ti hx ht
    simp only[c9,aE]at h
    obtain⟨⟨h0,hle⟩,h⟩:=h
    have h0:0<n:=lE h0
    have hle:=lE hle
    obtain⟨_,_,_,_,_,Av,_,_,_,d0,FW⟩:=DV (hT.get ht)
    have run:∀(vs:List Value) (w:World) (r:Value),(part q vs.toArray o).run P w=.ok r w->(Instr.field s (.agg vs.toArray) f).run P w=.ok r w:=λvs w r hr=>by
     simp only[Instr.field,Sem.run_bind,run_underlying g1,Result.andThen_ok,g2,asAgg,Sem.run_pure,g4,g3,hr]
    split at h
    ·rename_i Dg
     rw[D.fh]at h
     refine⟨_,_,h,nb λc w a hm hA eu=>?_⟩
     have:=eu x (by simp[Op.operands])
     rw[hx]at this
     obtain⟨vs,hv,hr⟩:=this
     have hp:=UT (P:=P) FW (by rw[<-MG FW,<-Av];exact Dg) (by rw[<-g4,g5];exact h0) vs.toArray o w
     refine⟨_,by simp only[execOp,hv];rw[Sem.run_bind,run vs w _ hp];rfl,(vs.drop o).take n,?_,Zpc hr o n⟩
     rw[<-g4,g5]
     congr 1
     simp[List.extract_toArray,List.extract_eq_take_drop]
    ·rename_i Dg
     simp only[D.cv]at h
     obtain⟨mz,h⟩:=h
     refine⟨_,_,h,nb λc w a hm hA eu=>?_⟩
     have:=eu x (by simp[Op.operands])
     rw[hx]at this
     obtain⟨vs,hv,hr⟩:=this
     have hl:=hr.length
     have jb:vs[o]?=some vs[o]:=cG (by omega)
     have hp:=HA (P:=P) (t:=q) FW (by rw[<-MG FW,<-Av];exact Dg) (xs:=vs.toArray) (o:=o) (v:=vs[o]) (by rw[aY];exact jb) w
     refine⟨_,by simp only[execOp,hv];rw[Sem.run_bind,run vs w _ hp];rfl,?_⟩
     have hc:=(EC.1 hr).2 o _ jb
     generalize cs.getD o .dead=d at*
     cases d<;>first|exact hc|trivial|exact hc.elim
   ·exact h.elim
  ·exact h.elim
 case indexAddr t x ix=>
  split at h
  ·rename_i k n hn
   obtain⟨val,hK,hr⟩:=Zqk (k:=k) hT h
   refine⟨_,_,hK,nb λc w a hm hA eu=>?_⟩
   have h2:=eu ix (by simp[Op.operands])
   rw[hn]at h2
   obtain⟨u,hu,hx⟩:=hr c w _ hm hA (eu x (by simp[Op.operands]))
   exact⟨u,by simp only[execOp,Rep.int.1 h2];rw[Sem.run_bind,hu];rfl,hx⟩
  ·exact h.elim
 case index t x ix=>
  split at h
  ·rename_i s k n ht hx hn
   have hd:=mY hT ht
   simp only at hd
   simp only[c9,decide_eq_true_eq]at h
   obtain⟨⟨h1,h2⟩,h⟩:=h
   refine⟨_,_,h,nb λc w a hm hA eu=>?_⟩
   have e1:=eu x (by simp[Op.operands]);have e2:=eu ix (by simp[Op.operands])
   rw[hx]at e1;rw[hn]at e2
   refine⟨_,?_,rfl⟩
   have cq:n.toNat<s.length:=by omega
   have hg:(ByteArray.mk s.toArray)[n.toNat]?=some (s.getD n.toNat 0):=by
    have h3:n.toNat<(ByteArray.mk s.toArray).size:=by simpa[ByteArray.size]using cq
    rw[getElem?_pos (ByteArray.mk s.toArray) n.toNat h3]
    simp only[aK,cG cq,aG]
    rfl
   simp only[execOp,Rep.str.1 e1,Rep.int.1 e2,Instr.index,asIntOf,Sem.run_bind,Sem.run_pure,Result.andThen_ok,run_underlying hd,h1,if_true,hg]
  ·rename_i len e iR _ _ _ _ _ cs k n ht hx hn
   have hd:=mY hT ht
   simp only at hd
   obtain⟨hd,fv⟩:=hd
   simp only[c9,aE,decide_eq_true_eq]at h
   obtain⟨⟨q1,q2,q3,q4⟩,h⟩:=h
   have q1:=bE q1
   have q2:=bE q2
   have run:∀(vs:List Value) (v:Value) (w:World) (d:TypeDesc),P.underlying e=some d->P8 d=false->vs[n.toNat]?=some v->(Instr.index t (.agg vs.toArray) (.int k n)).run P w=.ok v w:=λvs v w d hu hda hv=>by
    have h0:0<P.cellsOf e:=by omega
    simp only[Instr.index,asIntOf,Sem.run_bind,Sem.run_pure,Result.andThen_ok,run_underlying hd,Sem.run_ite,q3,q4,and_self,if_true,BE h0]
    rw[fv,q1,Nat.mul_one]
    exact HA hu hda (by rw[aY];exact hv) w
   have cell:∀(c:Ctx) (w:World) (a:Act),Rep c w (.agg cs) (a.eval x)->∃vs:List Value,a.eval x=.agg vs.toArray/\∃v,vs[n.toNat]?=some v/\cz c w (cs.getD n.toNat .dead) v:=λc w a hr=>by
    obtain⟨vs,hv,hr⟩:=hr
    have hl:=hr.length
    have jb:vs[n.toNat]?=some vs[n.toNat]:=cG (by omega)
    exact⟨vs,hv,_,jb,(EC.1 hr).2 _ _ jb⟩
   split at h
   ·rename_i kk _ _ _ _ _ he
    have hu:=mY hT he
    simp only at hu
    obtain⟨h1,h⟩:=h
    refine⟨_,_,h,nb λc w a hm hA eu=>?_⟩
    have e1:=eu x (by simp[Op.operands]);have e2:=eu ix (by simp[Op.operands])
    rw[hx]at e1;rw[hn]at e2
    obtain⟨vs,hv,v,g1,g2⟩:=cell c w a e1
    have hi:=UM h1 (n:=n.toNat) (by omega)
    rw[aX]at hi
    rw[D.ko hi]at g2
    refine⟨v,?_,?_⟩
    ·simp only[execOp,Rep.int.1 e2,hv]
     rw[Sem.run_bind,run vs v w _ hu rfl g1];rfl
    ·rw[UK (show n.toNat<len by omega),aX]
     exact g2
   ·rename_i he
    have hu:=mY hT he
    simp only at hu
    obtain⟨h1,h⟩:=h
    refine⟨_,_,h,nb λc w a hm hA eu=>?_⟩
    have e1:=eu x (by simp[Op.operands]);have e2:=eu ix (by simp[Op.operands])
    rw[hx]at e1;rw[hn]at e2
    obtain⟨vs,hv,v,g1,g2⟩:=cell c w a e1
    have hi:=UN h1 (n:=n.toNat) (by omega)
    rw[aX]at hi
    rw[D.kp hi]at g2
    refine⟨v,?_,?_⟩
    ·simp only[execOp,Rep.int.1 e2,hv]
     rw[Sem.run_bind,run vs v w _ hu rfl g1];rfl
    ·rw[UL (show n.toNat<len by omega),aX]
     exact g2
   ·exact h.elim
  ·exact h.elim
 case extract x i=>
  split at h
  ·rename_i ds hx
   simp only[c9,D.cv]at h
   obtain⟨hv,h⟩:=h
   refine⟨_,_,h,nb λc w a hm hA eu=>?_⟩
   have:=eu x (by simp[Op.operands])
   rw[hx]at this
   obtain⟨vs,Cb,hr⟩:=this
   have cq:i<ds.length:=by
    by_cases hl:i<ds.length
    ·exact hl
    ·rw[aK,aM (by omega)]at hv;simp[D.isVal]at hv
   obtain⟨v,hvi,hvr⟩:=Zy hr i cq
   refine⟨v,?_,?_⟩
   ·simp only[execOp,Cb,Instr.extract,aY,hvi];rfl
   ·generalize ds.getD i .dead=d at*
    cases d<;>first|exact hvr|trivial|exact hvr.elim
  ·exact h.elim
 case call cl=>
  obtain⟨callee,args,da⟩:=cl
  cases callee<;>try(simp only at h)
  case builtin b=>
  cases b<;>try(simp only at h)
  case len=>
   split at h
   ·rename_i x t hx ht
    obtain⟨val,hK,hr⟩:=xaB (t':=type) hT h
    refine⟨_,_,hK,nb λc w a hm hA eu=>?_⟩
    have fx:args= #[x]:=by rw[<-bS (xs:=args),hx]
    have uv:da= #[t]:=by rw[<-bS (xs:=da),ht]
    subst fx;subst uv
    obtain⟨u,hu,hx⟩:=hr c w _ hm hA (eu x (by simp[Op.operands,Call.operands]))
    refine⟨u,?_,hx⟩
    simp only[execOp,resolve,Sem.run_bind,Sem.run_pure,Result.andThen_ok,invoke,builtin]
    have:(#[x]:Array Operand).map a.eval= #[a.eval x]:=by simp
    rw[this,hu];rfl
   ·exact h.elim
def Ctx.kill(c:Ctx)(ks:List Nat):Ctx:={c with R:=λr=>if cf r ks=true then none else(c.R r).map (Row.kill ks)}
structure jM(ks:List Nat)(c:Ctx)(w:World)(c':Ctx)(w':World):Prop where
 mem:Mem c' w'
 cj:jq (c.kill ks) w c' w'
 fr:Fr (λb=>∃r x,c.R r=some x/\¬c.V r/\c.ρ r=b) w w'
 fk:∀b,c'.I b->c.I b\/(∃s row,cf s ks=true/\c.R s=some row/\¬c.V s/\c.ρ s=b)\/w.heap.size<=b
 oj:∀r aq,c'.R r=some aq->¬c'.V r->((∃row,c.R r=some row)/\¬c.V r/\c'.ρ r=c.ρ r)\/(∃s row,cf s ks=true/\c.R s=some row/\¬c.V s/\c'.ρ r=c.ρ s)\/w.heap.size<=c'.ρ r
def kq(P:Program)(f:FuncId)(args:List D)(rows:List Row)(res:D)(ak:List Row):Prop:=
 ∀ (c:Ctx) (w:World) (vs:List Value),Mem c w->c.base=w.heap.size->(∀r,c.R r=rows[r]?)->kr c w args vs->
  Calls P f vs.toArray w λe w'=>∃v c',e=.returned v/\lU c w c' w'/\(∀r,c'.R r=ak[r]?)/\Rep c' w' res v
def Gz(P:Program)(I:ag)(f:FuncId)(vs:List Value)(w:World)(R:Ending->World->Prop):Prop:=
 (f<YB->Calls P f vs.toArray w R)/\
 (YB<=f->∀l rec xs us,vs=xs++us->I l->w.heap[l]?=some (.loop rec)->QE f us rec->xs.length=1->
  RoundIn Fence.wide 0 P l rec.fn ((rec.params.zip xs.toArray).foldl (λtmps (t,a)=>tmps.setIfInBounds t a) rec.tmps) rec.assign rec.body w R)
theorem Gz.mono{P:Program}{I I':ag}{f:FuncId}{vs:List Value}{w:World}{R R':Ending->World->Prop}(h:Gz P I f vs w R)(hI:∀b,I' b->I b)(hR:∀e w',R e w'->R' e w'):Gz P I' f vs w R':=
 ⟨λhf=>(h.1 hf).mono hR,λhf l rec xs us h1 h2 h3 h4 h5=>(h.2 hf l rec xs us h1 (hI l h2) h3 h4 h5).mono hR⟩
theorem Gz.real{P:Program}{I:ag}{f:FuncId}{vs:List Value}{w:World}{R:Ending->World->Prop}(hf:f<YB)(h:Calls P f vs.toArray w R):Gz P I f vs w R:=⟨λ_=>h,λhg=>absurd hf (Nat.not_lt.2 hg)⟩
def sN(P:Program)(f:FuncId)(k:Nat)(args:List D)(rows:List Row)(res:D)(ak:List Row):Prop:=
 ∀ (c:Ctx) (w:World) (vs:List Value),Mem c w->c.base=0->(∀r,c.R r=rows[r]?)->kr c w args vs->
  Gz P c.I f vs w λe w'=>∃v c',e=.returned v/\jM (List.range' k (rows.length-k)) c w c' w'/\(∀r,c'.R r=ak[r]?)/\Rep c' w' res v
def lg:D->Prop|.int _ _=>True|.bool _=>True|.str _=>True|.du=>True|.iQ=>True|.emp=>True|_=>False
def CT.lg:CT->Bool|.int _=>true|.bool=>true|.str=>true|_=>false
def RK.lg(k:RK):Bool:=k.sig.all CT.lg
def ai.FX:ai->Prop
 |.gen es=>∀e∈es,∀d∈e,lg d
 |.ba k _=>k.lg=true
 |_=>True
theorem Z9u:∀{ts:List CT} {cs:List D} {j:Nat},ts.all CT.lg=true->∀d∈wz ts cs j,lg d
 |[],_,_,_,d,h=>by simp[wz]at h
 |t ::ts,cs,j,ht,d,h=>by
  simp only[List.all_cons,aE]at ht
  simp only[wz,cR]at h
  rcases h with h|h
  ·subst h
   cases t<;>first|trivial|(simp[CT.lg]at ht)
  ·exact Z9u ht.2 d h
theorem ai.Di{E:ai}(h:E.FX):∀e∈E.l,∀d∈e,lg d:=by
 cases E with
 |gen es=>exact h
 |ints k l=>
  intro e he d hd
  simp only[ai.l,gB]at he
  obtain⟨n,_,rfl⟩:=he
  simp at hd
  subst hd;trivial
 |bz l=>
  intro e he d hd
  simp only[ai.l,gB]at he
  obtain⟨n,_,rfl⟩:=he
  simp at hd
  subst hd;trivial
 |ba k l=>
  intro e he d hd
  simp only[ai.l,gB]at he
  obtain⟨x,_,rfl⟩:=he
  rw[<-RK.og]at hd
  exact Z9u h d hd
def QF:D->Prop
 |.sl _ es fr=>(es.Nil\/fr=true)/\es.FX
 |.iw _ _ _ _=>False
 |.gj _ _=>False
 |_=>True
def MK:List D->Prop
 |[]=>True
 |d::ds=>QF d/\MK ds
def UU:D->Prop
 |.agg cs=>MK cs
 |d=>QF d
def FY:List D->Prop
 |[]=>True
 |d::ds=>UU d/\FY ds
def FF:D->Prop
 |.dt ds=>FY ds
 |d=>UU d
def JQ(row:Row):Prop:=if row.box then∀e∈row.es.l,MK e else row.es.FX
def rL:List Row->Prop
 |[]=>True
 |r::l=>JQ r/\rL l
structure bj(P:Program)(x:bb):Prop where
 enters:x.f<YB->∀args w,(callFunc x.f args).run P w=.ok (.enter x.f args) w
 real:x.gone=none->x.f<YB
 ok:x.gone=none->∀args rows res ak,x.m args rows=.ok res ak->kq P x.f args rows res ak/\(x.flat=true->FF res/\rL ak)
 when:x.gone=none->∀args rows p res ak,x.m args rows=.when p res ak->p->kq P x.f args rows res ak/\(x.flat=true->FF res/\rL ak)
 abs:x.gone=none->∀args rows α v res ak,x.m args rows=.abs α v res ak->kq P x.f args rows (res v) (ak v)/\(x.flat=true->FF (res v)/\rL (ak v))
 lT:x.gone=none->∀args rows p α v res ak,x.m args rows=.lT p α v res ak->p->kq P x.f args rows (res v) (ak v)/\(x.flat=true->FF (res v)/\rL (ak v))
 P5:∀k,x.gone=some k->∀args rows α v res ak,x.m args rows=.abs α v res ak->sN P x.f k args rows (res v) (ak v)
 Hv:∀k,x.gone=some k->∀args rows p α v res ak,x.m args rows=.lT p α v res ak->p->sN P x.f k args rows (res v) (ak v)
def j5(P:Program)(G:List bb):Prop:=∀x∈G,bj P x
theorem Gk{P:Program}:∀{G:List bb} {f:FuncId} {x:bb},j5 P G->oU G f=some x->bj P x/\x.f=f
 |[],f,x,_,h=>by simp[oU]at h
 |y ::l,f,x,hG,h=>by
  simp only[oU]at h
  split at h
  ·rename_i hb
   simp at h;subst h
   exact⟨hG y (by simp),bE hb⟩
  ·exact Gk (λz hz=>hG z (by simp[hz])) h
theorem Zmi:∀{rows:List Row} {i:Nat} {row:Row},rL rows->rows[i]?=some row->JQ row
 |r::l,0,row,h,hi=>by simp at hi;subst hi;exact h.1
 |r::l,i+1,row,h,hi=>Zmi h.2 (by simpa using hi)
 |[],i,row,_,hi=>by simp at hi
theorem ot{r:Nat}:∀{l:List Nat},cf r l=true↔r∈l
 |[]=>by simp[cf]
 |x ::l=>by
  simp only[cf]
  cases hb:Nat.beq x r with
  |true=>have:=bE hb;subst this;simp
  |false=>
   have gl:¬r=x:=λe=>by rw[e]at hb;simp at hb
   simp[ot (l:=l),gl]
theorem MA:∀{l m:List Nat},pJ l m=true↔ ∀r∈l,r∈m
 |[],m=>by simp[pJ]
 |x::l,m=>by
  simp only[pJ]
  cases hb:cf x m with
  |true=>simp[MA (l:=l),ot.1 hb]
  |false=>simp[show¬x∈m fromλe=>by rw[ot.2 e]at hb;cases hb]
theorem Uv:∀{l m:List Nat},nQ l m=true↔ ∀r∈l,¬r∈m
 |[],m=>by simp[nQ]
 |x::l,m=>by
  simp only[nQ]
  cases hb:cf x m with
  |true=>simp[ot.1 hb]
  |false=>simp[Uv (l:=l),show¬x∈m fromλe=>by rw[ot.2 e]at hb;cases hb]
theorem MB:∀{l:List Nat},EE l=true↔l.Nodup
 |[]=>by simp[EE]
 |x::l=>by
  simp only[EE,List.nodup_cons]
  cases hb:cf x l with
  |true=>simp[ot.1 hb]
  |false=>simp[MB (l:=l),show¬x∈l fromλe=>by rw[ot.2 e]at hb;cases hb]
theorem Zn1{r:Nat}:∀{l:List Nat} {k:Nat},r∈l->∃j,pos r l k=k+j/\l[j]?=some r
 |x ::l,k,h=>by
  simp only[pos]
  cases hb:Nat.beq x r with
  |true=>exact⟨0,rfl,by simp[bE hb]⟩
  |false=>
   have gl:¬r=x:=λe=>by rw[e]at hb;simp at hb
   have hm:r∈l:=by simpa[gl]using h
   obtain⟨j,h1,h2⟩:=Zn1 (k:=k+1) hm
   exact⟨j+1,by show pos r l (k+1)=_;rw[h1];omega,by simpa using h2⟩
theorem BB{r:Nat}{l:List Nat}(h:r∈l):l[pos r l 0]?=some r:=by
 obtain⟨j,h1,h2⟩:=Zn1 (k:=0) h
 rw[h1,aX];exact h2
structure EB(S:Nat->Prop)(f:Nat->Nat)(cy:Bool)(c1 c2:Ctx):Prop where
 row:∀i row,S i->c1.R i=some row->∃aq,c2.R (f i)=some aq/\aq.box=row.box/\aq.ty=row.ty/\aq.sz=row.sz/\aq.es.l.length=row.es.l.length/\c2.ρ (f i)=c1.ρ i/\(c2.V (f i)↔c1.V i)
 base:cy=true->c2.base<=c1.base
 top:c1.top<=c2.top
theorem qO{I I':ag}{w:World}{d:D}{v:Value}(hs:lg d)(h:fw I w d v):fw I' w d v:=by
 cases h<;>first|exact hs.elim|constructor
theorem Z96{I I':ag}{w:World}:∀{cs:List D} {arr:Array Value} {off:Nat},(∀d∈cs,lg d)->nT I w cs arr off->nT I' w cs arr off
 |[],_,_,_,_=>by simp[BU,Aw]
 |d::cs,arr,off,hs,h=>by
  simp only[BU,Aw]at h⊢
  obtain⟨⟨v,hv,hp⟩,hr⟩:=h
  exact⟨⟨v,hv,qO (hs d (by simp)) hp⟩,Z96 (λe he=>hs e (by simp[he])) hr⟩
theorem ZB{I I':ag}{w:World}:∀{es:List (List D)} {arr:Array Value} {off sz:Nat},(∀e∈es,∀d∈e,lg d)->iN I w es arr off sz->iN I' w es arr off sz
 |[],_,_,_,_,_=>by simp[pT,oq]
 |e::es,arr,off,sz,hs,h=>by
  simp only[pT,oq]at h⊢
  exact⟨h.1,Z96 (hs e (by simp)) h.2.1,ZB (λf hf=>hs f (by simp[hf])) h.2.2⟩
theorem VRep.EW{c:Ctx}{w:World}{d:D}{v:Value}(h:cz c w d v):VRep c w d v:=by cases d<;>first|exact h|exact h.elim
theorem VRep.toC{c:Ctx}{w:World}{d:D}{v:Value}(hd:∀cs,d≠.agg cs)(h:VRep c w d v):cz c w d v:=by cases d<;>first|exact h|exact absurd rfl (hd _)
theorem Rep.KF{c:Ctx}{w:World}{d:D}{v:Value}(h:VRep c w d v):Rep c w d v:=by cases d<;>first|exact h|exact h.elim|trivial
theorem Rep.toV{c:Ctx}{w:World}{d:D}{v:Value}(hd:∀ds,d≠.dt ds)(h0:d≠.dead)(h:Rep c w d v):VRep c w d v:=by cases d<;>first|exact h|exact absurd rfl (hd _)|exact absurd rfl h0
theorem Z3m{f:Nat->Nat}{cy:Bool}:∀{e:List D},(D.mG f cy e).length=e.length
 |[]=>rfl
 |d::l=>by simp[D.mG,Z3m (e:=l)]
section
variable {S:Nat->Prop} {f:Nat->Nat} {cy:Bool} {c1 c2:Ctx} {w:World} (hn:EB S f cy c1 c2) {flat:Prop} (hI:(∀b,c1.I b->c2.I b)\/(flat/\∀b,c1.I b->c1.base<=b->c2.I b))
include hn hI
theorem Zes{d:D}{v:Value}(gl:∀f cs,d≠.gj f cs)(hS:∀r∈nP d,S r)(jZ:flat->QF d)(h:cz c1 w d v):cz c2 w (d.mF f cy) v:=by
 cases d with
 |sl sz es fr=>
  obtain⟨a,cap,hv,hc,gx⟩:=h
  refine⟨a,cap,hv,hc,?_⟩
  rcases gx with gx|⟨b,off,arr,ty,fz,ha,iL,hf,hh,hE⟩
  ·exact .inl gx
  ·have hb:(fr&&cy)=true->c2.base<=b:=λe=>by
    simp only[aE]at e
    exact Nat.le_trans (hn.base e.2) (hf e.1)
   rcases hI with hi|⟨FZ,hi⟩
   ·exact .inr ⟨b,off,arr,ty,fz,ha,hi b iL,hb,hh,oh (λb hb=>⟨hi b hb,rfl⟩) _ _ _ _ hE⟩
   ·obtain⟨h1,h2⟩:=jZ FZ
    rcases h1 with h1|h1
    ·exact .inl (ai.ow.1 h1)
    ·exact .inr ⟨b,off,arr,ty,fz,ha,hi b iL (hf h1),hb,hh,ZB (ai.Di h2) hE⟩
 |all r=>
  obtain⟨row,hr,hb,h⟩:=h
  obtain⟨aq,g1,g2,g3,g4,g5,g6,gV⟩:=hn.row r row (hS r (by simp[nP])) hr
  refine⟨aq,g1,g2.trans hb,?_⟩
  rcases h with⟨hV,hv⟩|⟨hV,cap,arr,hv,h1,h2,h3,h4⟩
  ·obtain⟨a,hv,ho⟩:=hv;exact .inl ⟨gV.2 hV,a,hv,ho.mono hn.top⟩
  ·exact .inr ⟨λe=>hV (gV.1 e),cap,arr,by rw[hv,g5,g6],by rw[g5];exact h1,h2,by rw[g6,g3];exact h3,by rw[g4];exact h4⟩
 |own r o n=>
  obtain⟨row,hr,hb,ho,h⟩:=h
  obtain⟨aq,g1,g2,g3,g4,g5,g6,gV⟩:=hn.row r row (hS r (by simp[nP])) hr
  refine⟨aq,g1,g2.trans hb,by rw[g5];exact ho,?_⟩
  rcases h with⟨h0,a,hv,jd⟩|⟨hV,cap,arr,h1,h2,h3,h4,h5⟩
  ·exact .inl ⟨h0,a,hv,jd.mono hn.top gV g6⟩
  ·exact .inr ⟨λe=>hV (gV.1 e),cap,arr,h1,h2,by rw[g6,g3];exact h3,by rw[g4,g6];exact h4,by rw[g4];exact h5⟩
 |ptr r i off=>
  obtain⟨row,hr,hV,hi,hv⟩:=h
  obtain⟨aq,g1,g2,g3,g4,g5,g6,gV⟩:=hn.row r row (hS r (by simp[nP])) hr
  exact⟨aq,g1,λe=>hV (gV.1 e),by rw[g5];exact hi,by rw[hv,g6,g4]⟩
 |pa r i off len k n=>
  obtain⟨cq,row,hr,hV,hi,hv⟩:=h
  obtain⟨aq,g1,g2,g3,g4,g5,g6,gV⟩:=hn.row r row (hS r (by simp[nP])) hr
  exact⟨cq,aq,g1,λe=>hV (gV.1 e),by rw[g5];exact hi,by rw[hv,g6,g4]⟩
 |iw sz es i off=>
  obtain⟨b,o,arr,ty,fz,hv,iL,iJ,hh,hE⟩:=h
  rcases hI with hi|⟨FZ,hi⟩
  ·exact⟨b,o,arr,ty,fz,hv,hi b iL,iJ,hh,oh (λb hb=>⟨hi b hb,rfl⟩) _ _ _ _ hE⟩
  ·exact(jZ FZ).elim
 |c8 r=>
  rcases h with h|⟨row,hr,hV,hi,hv⟩
  ·exact .inl h
  ·obtain⟨aq,g1,g2,g3,g4,g5,g6,gV⟩:=hn.row r row (hS r (by simp[nP])) hr
   exact .inr ⟨aq,g1,λe=>hV (gV.1 e),by rw[g5];exact hi,by rw[hv,g6,g4]⟩
 |gj f cs=>exact absurd rfl (gl f cs)
 |emp=>obtain⟨a,hv,ho⟩:=h;exact⟨a,hv,ho.mono hn.top⟩
 |_=>exact h
theorem ZC{d:D}{v:Value}(hS:∀r∈nP d,S r)(jZ:flat->QF d)(h:cz c1 w d v):cz c2 w (d.mF f cy) v:=by
 by_cases e:∃g cs,d=.gj g cs
 ·obtain⟨g,cs,rfl⟩:=e
  obtain⟨us,hv,hu⟩:=h
  have hi:∀b,c1.I b->c2.I b/\w.heap[b]?=w.heap[b]? :=by
   rcases hI with hi|⟨FZ,_⟩
   ·exactλb hb=>⟨hi b hb,rfl⟩
   ·exact(jZ FZ).elim
  exact⟨us,MF hi hv,Y9 (Fk:=λ_=>True) (λd v h1 h2 h3=>Zes hn (flat:=False) (.inl λb hb=>(hi b hb).1) h1 h2 (λe=>e.elim) h3) (λ_ _ _ _=>MF hi) (λ_ _ _=>trivial) hS hu⟩
 ·exact Zes hn hI (λf cs e'=>e ⟨f,cs,e'⟩) hS jZ h
theorem Zne:∀{ds:List D} {vs:List Value},(∀r∈re ds,S r)->(flat->MK ds)->jt c1 w ds vs->jt c2 w (D.mG f cy ds) vs
 |[],[],_,_,_=>trivial
 |d::ds,v::vs,hS,jZ,h=>⟨ZC hn hI (λr hr=>hS r (by simp[re,hr])) (λe=>(jZ e).1) h.1,Zne (λr hr=>hS r (by simp[re,hr])) (λe=>(jZ e).2) h.2⟩
 |[],_::_,_,_,h=>h.elim
 |_::_,[],_,_,h=>h.elim
theorem QG{d:D}{v:Value}(hS:∀r∈FR d,S r)(jZ:flat->UU d)(h:VRep c1 w d v):VRep c2 w (d.jm f cy) v:=by
 cases d with
 |agg cs=>obtain⟨vs,hv,hr⟩:=h;exact⟨vs,hv,Zne hn hI hS jZ hr⟩
 |dt ds=>exact h.elim
 |_=>
  refine VRep.EW (ZC hn hI ?_ ?_ (VRep.toC ?_ h))
  ·exact hS
  ·exact jZ
  ·intro cs e;cases e
theorem Zo1:∀{ds:List D} {vs:List Value},(∀d∈ds,∀r∈FR d,S r)->(flat->FY ds)->kr c1 w ds vs->kr c2 w (D.Bf f cy ds) vs
 |[],[],_,_,_=>trivial
 |d::ds,v::vs,hS,jZ,h=>⟨QG hn hI (hS d (by simp)) (λe=>(jZ e).1) h.1,Zo1 (λd hd=>hS d (by simp[hd])) (λe=>(jZ e).2) h.2⟩
 |[],_::_,_,_,h=>h.elim
 |_::_,[],_,_,h=>h.elim
theorem Y1{d:D}{v:Value}(hS:∀r,S r)(jZ:flat->FF d)(h:Rep c1 w d v):Rep c2 w (d.tf f cy) v:=by
 cases d with
 |dt ds=>obtain⟨vs,hv,hr⟩:=h;exact⟨vs,hv,Zo1 hn hI (λ_ _ r _=>hS r) jZ hr⟩
 |agg cs=>exact QG hn hI (d:=.agg cs) (λr _=>hS r) jZ h
 |dead=>trivial
 |_=>
  have h':=Rep.toV (λds e=>by cases e) (λe=>by cases e) h
  have h2:=QG hn hI (λr _=>hS r) (λe=>by have:=jZ e;exact this) h'
  exact Rep.KF h2
theorem UW:∀{ds:List D} {arr:Array Value} {off:Nat},(∀r∈re ds,S r)->(flat->MK ds)->kU c1 w ds arr off->kU c2 w (D.mG f cy ds) arr off
 |[],_,_,_,_,_=>trivial
 |d::ds,arr,off,hS,jZ,⟨⟨v,hv,h1⟩,h2⟩=>⟨⟨v,hv,ZC hn hI (λr hr=>hS r (by simp[re,hr])) (λe=>(jZ e).1) h1⟩,UW (λr hr=>hS r (by simp[re,hr])) (λe=>(jZ e).2) h2⟩
theorem YZ{i j:Nat}{row:Row}(P9:c2.ρ j=c1.ρ i)(hV:c2.V j↔c1.V i)(hS:row.box=true->∀e,row.es=.gen [e]->∀r∈re e,S r)(jZ:flat->JQ row)(h:EZ c1 w i row):EZ c2 w j (row.jm f cy):=by
 have sh:(row.jm f cy).box=row.box/\(row.jm f cy).ty=row.ty/\(row.jm f cy).sz=row.sz:=by
  unfold Row.jm;split<;>exact⟨rfl,rfl,rfl⟩
 rcases h with⟨h0,h1,h2,h3⟩|⟨h0,arr,ha,hs,hx⟩
 ·refine .inl ⟨hV.2 h0,?_⟩
  unfold Row.jm
  split
  ·simp at h1
  ·exact⟨h1,h2,h3⟩
 ·refine .inr ⟨λe=>h0 (hV.1 e),arr,by rw[P9,sh.2.1];exact ha,by rw[sh.2.2];exact hs,?_⟩
  rw[sh.1,sh.2.2]
  split
  ·rename_i hb
   simp only[hb,if_true]at hx
   obtain⟨e,k1,k2,k3,k4⟩:=hx
   obtain⟨box,ty,sz,es⟩:=row
   simp only at hb k1 k2 k3 k4
   subst hb;subst k1
   refine⟨D.mG f cy e,rfl,?_,k3,UW hn hI (hS rfl e rfl) (λe'=>?_) k4⟩
   ·rw[Z3m];exact k2
   ·have:=jZ e'
    simp only[JQ,if_true]at this
    exact this e (by simp[ai.l])
  ·rename_i hb
   simp only[hb,aN,if_false]at hx
   have he:(row.jm f cy).es=row.es:=by
    unfold Row.jm
    split
    ·simp at hb
    ·rfl
   rw[he]
   rcases hI with hi|⟨FZ,hi⟩
   ·exact oh (λb hb=>⟨hi b hb,rfl⟩) _ _ _ _ hx
   ·have:=jZ FZ
    simp only[JQ,hb,aN,if_false]at this
    exact ZB (ai.Di this) hx
end
def Ctx.pass(c:Ctx)(w:World)(ids:List Nat)(rows:List Row)(len:Bool):Ctx:=
 { ρ:=λi=>match ids[i]? with|some r=>c.ρ r|none=>0,R:=λi=>rows[i]?,V:=λi=>match ids[i]? with|some r=>c.V r|none=>False,
   I:=λb=>c.I b\/(len=true/\ ∃r row,c.R r=some row/\ ¬c.V r/\row.box=false/\r∉ids/\c.ρ r=b),base:=w.heap.size,top:=c.top,X:=λ_=>False}
section
variable {c:Ctx} {w:World} {R:Rows} {ids:List Nat} {dx:List Row} {len:Bool}
theorem Znx(hm:Mem c w)(hA:mK c R){d d':D}{v:Value}(h:FQ R d=some d')(hl:nP d≠[]->len=true)(hd:∀r∈nP d,r∉ids)(hr:cz c w d v):cz (c.pass w ids dx len) w d' v:=by
 have nG:∀b,c.I b->(c.pass w ids dx len).I b/\w.heap[b]?=w.heap[b]? :=λb hb=>⟨.inl hb,rfl⟩
 cases d<;>simp only[FQ]at h<;>try(cases h;done)
 case bool b=>cases h;exact hr
 case int k n=>cases h;exact hr
 case str s=>cases h;exact hr
 case iQ=>cases h;exact hr
 case jQ=>cases h;exact hr
 case du=>cases h;exact⟨none,0,hr,aO _,.inl rfl⟩
 case emp=>cases h;obtain⟨a,hv,_⟩:=hr;exact⟨a,0,hv,aO _,.inl rfl⟩
 case sl sz es fr=>
  cases h
  obtain⟨a,cap,hv,hc,gx⟩:=hr
  refine⟨a,cap,hv,hc,?_⟩
  rcases gx with gx|⟨b,off,arr,ty,fz,ha,hI,hf,hh,hE⟩
  ·exact .inl gx
  ·exact .inr ⟨b,off,arr,ty,fz,ha,.inl hI,by simp,hh,oh nG _ _ _ _ hE⟩
 case all r=>
  split at h
  ·rename_i row hR
   split at h
   ·rename_i hb
    cases h
    obtain⟨aq,g1,g2,hv⟩:=hr
    have:=hA r aq _ g1 hR
    subst this
    rcases hv with⟨hV,a,hv,_⟩|⟨hV,cap,arr,hv,g3,g4,g5,g6⟩
    ·have he:=(hm.oi g1 hV).2.1
     exact⟨a,0,by rw[he];exact hv,by rw[he];exact aO _,.inl he⟩
    refine⟨_,cap,hv,g3,?_⟩
    obtain⟨iS,jJ,hs,hx⟩:=hm.real g1 hV
    rw[g5]at jJ;cases jJ
    simp only[hb,aN,if_false]at hx
    exact .inr ⟨_,0,arr,_,_,rfl,.inr ⟨hl (by simp[nP]),r,_,g1,hV,hb,hd r (by simp[nP]),rfl⟩,by simp,g5,oh nG _ _ _ _ hx⟩
   ·cases h
  ·cases h
 case own r o n=>
  split at h
  ·rename_i row hR
   split at h
   ·rename_i hb
    cases h
    obtain⟨aq,g1,g2,g5,hv⟩:=hr
    have:=hA r aq _ g1 hR
    subst this
    have hlen:((aq.es.drop o).take n).l.length=n:=by rw[ai.jf,ai.kv];simp only[List.length_take,List.length_drop];omega
    rcases hv with⟨g7,a,hv,_⟩|⟨hV,cap,arr,g3,g4,g6,hv,g7⟩
    ·subst g7
     exact⟨a,0,by rw[hlen];exact hv,by omega,.inl (by rw[ai.jf];simp)⟩
    obtain⟨iS,jJ,hs,hx⟩:=hm.real g1 hV
    rw[g6]at jJ;cases jJ
    simp only[hb,aN,if_false]at hx
    refine⟨_,cap,by rw[hlen];exact hv,by omega,.inr ⟨_,o*aq.sz,arr,_,_,rfl,.inr ⟨hl (by simp[nP]),r,_,g1,hV,hb,hd r (by simp[nP]),rfl⟩,by simp,g6,oh nG _ _ _ _ ?_⟩⟩
    have:=Mx (n:=n) (KB (l:=o) hx)
    rw[ai.jf,ai.kv]
    simpa using this
   ·cases h
  ·cases h
theorem Znm(hm:Mem c w)(hA:mK c R):∀{ds ou:List D} {vs:List Value},JL R ds=some ou->(re ds≠[]->len=true)->(∀r∈re ds,r∉ids)->jt c w ds vs->jt (c.pass w ids dx len) w ou vs
 |[],ou,[],h,_,_,_=>by simp[JL]at h;subst h;trivial
 |[],_,_::_,_,_,_,hr=>hr.elim
 |_::_,_,[],_,_,_,hr=>hr.elim
 |d ::ds,ou,v::vs,h,hl,hd,hr=>by
  simp only[JL]at h
  split at h
  ·rename_i x xs h1 h2
   cases h
   exact⟨Znx hm hA h1 (λe=>hl (by simp[re,e])) (λr e=>hd r (by simp[re,e])) hr.1,Znm hm hA h2 (λe=>hl (by simp[re,e])) (λr e=>hd r (by simp[re,e])) hr.2⟩
  ·cases h
theorem Znh(hm:Mem c w)(hA:mK c R){d d':D}{v:Value}(h:conv R d=some d')(hl:FR d≠[]->len=true)(hd:∀r∈FR d,r∉ids)(hr:Rep c w d v):VRep (c.pass w ids dx len) w d' v:=by
 cases d with
 |agg cs=>
  simp only[conv,Option.map_eq_some_iff]at h
  obtain⟨rY,h1,rfl⟩:=h
  obtain⟨vs,hv,hx⟩:=hr
  exact⟨vs,hv,Znm hm hA h1 hl hd hx⟩
 |dt ds=>simp[conv,FQ]at h
 |dead=>simp[conv,FQ]at h
 |_=>
  simp only[conv]at h
  simp only[Rep,VRep]at hr
  exact VRep.EW (Znx hm hA h hl hd hr)
theorem FP{f:Nat->Nat}:∀{ids:List Nat} {rows:List Row},BA R f ids=some rows->rows.length=ids.length/\∀(i r:Nat),ids[i]?=some r->∃row,R.getD r none=some row/\rows[i]?=some (row.jm f false)
 |[],rows,h=>by simp[BA]at h;subst h;exact⟨rfl,λi r h=>by simp at h⟩
 |r ::l,rows,h=>by
  simp only[BA]at h
  split at h
  ·rename_i row rs h1 h2
   cases h
   obtain⟨g1,g2⟩:=FP h2
   refine⟨by simp[g1],λi q hq=>?_⟩
   cases i with
   |zero=>simp at hq;subst hq;exact⟨row,h1,rfl⟩
   |succ i=>exact g2 i q (by simpa using hq)
  ·cases h
theorem JJ(f:Nat->Nat)(cy:Bool)(row:Row):(row.jm f cy).box=row.box/\(row.jm f cy).ty=row.ty/\(row.jm f cy).sz=row.sz/\(row.jm f cy).es.l.length=row.es.l.length:=by
 unfold Row.jm;split<;>exact⟨rfl,rfl,rfl,rfl⟩
theorem Z3z{r:Nat}:∀{l:List Nat},r∈Dc R l↔ ∃q∈l,∃ty sz e,R.getD q none=some ⟨true,ty,sz,.gen [e]⟩/\r∈re e
 |[]=>by simp[Dc]
 |q ::l=>by
  simp only[Dc,List.mem_append,Z3z (l:=l),cR]
  constructor
  ·rintro(h|⟨q',h1,h2⟩)
   ·split at h
    ·rename_i ty sz e he
     exact⟨q,.inl rfl,ty,sz,e,he,h⟩
    ·simp at h
   ·exact⟨q',.inr h1,h2⟩
  ·rintro⟨q',h1|h1,ty,sz,e,h2,h3⟩
   ·subst h1
    left
    rw[h2];exact h3
   ·exact .inr ⟨q',h1,ty,sz,e,h2,h3⟩
theorem UB(hR:∀r row,r∈ids->R.getD r none=some row->c.R r=some row)(c6:BA R (λr=>pos r ids 0) ids=some dx):EB (λr=>r∈ids) (λr=>pos r ids 0) false c (c.pass w ids dx len):=by
 obtain⟨hl,hg⟩:=FP c6
 refine⟨λr row hr cr=>?_,(λh=>by cases h),aO _⟩
 have hp:=BB hr
 obtain⟨kd,h1,h2⟩:=hg _ r hp
 have:row=kd:=by have:=hR r kd hr h1;rw[cr]at this;exact Option.some.inj this
 subst this
 obtain⟨s1,s2,s3,s4⟩:=JJ (λr=>pos r ids 0) false row
 exact⟨_,h2,s1,s2,s3,s4,by simp[Ctx.pass,hp],by simp[Ctx.pass,hp]⟩
theorem Y0(hm:Mem c w)(hR:∀r row,r∈ids->R.getD r none=some row->c.R r=some row)(ly:ids.Nodup)(gz:∀r∈Dc R ids,r∈ids)(c6:BA R (λr=>pos r ids 0) ids=some dx):Mem (c.pass w ids dx len) w:=by
 have hn:=UB (len:=len) (w:=w) hR c6
 obtain⟨hl,hg⟩:=FP c6
 have inv:∀i x,(c.pass w ids dx len).R i=some x->∃r row,ids[i]?=some r/\c.R r=some row/\R.getD r none=some row/\x=row.jm (λr=>pos r ids 0) false/\(c.pass w ids dx len).ρ i=c.ρ r/\((c.pass w ids dx len).V i↔c.V r):=by
  intro i x hx
  have jL:dx[i]?=some x:=hx
  have cq:=(List.getElem?_eq_some_iff.1 jL).1
  have hi:ids[i]?=some ids[i]:=cG (by omega)
  obtain⟨row,h1,h2⟩:=hg i _ hi
  rw[jL]at h2
  exact⟨_,row,hi,hR _ row (fX hi) h1,h1,Option.some.inj h2,by simp[Ctx.pass,hi],by simp[Ctx.pass,hi]⟩
 refine⟨λi x hx=>?_,λi j x y hx hy v1 v2 he=>?_,λb hb=>?_,hm.top,hm.kX.mono λb hb=>⟨.inl hb,rfl⟩⟩
 ·obtain⟨r,row,g1,g2,g3,rfl,g5,g6⟩:=inv i x hx
  refine YZ hn (flat:=False) (.inl λb hb=>.inl hb) g5 g6 (λpq e he q hq=>?_) (λe=>e.elim) (hm.row r row g2)
  obtain⟨box,ty,sz,es⟩:=row
  simp only at pq he
  subst pq
  have h1:∃e0,es=.gen [e0]:=by
   rcases hm.row r _ g2 with⟨_,hh,_⟩|⟨_,arr,_,_,hx⟩
   ·cases hh
   ·simp only[if_true]at hx;obtain⟨e0,h,_⟩:=hx;exact⟨e0,h⟩
  obtain⟨e0,rfl⟩:=h1
  cases he
  exact gz q (Z3z.2 ⟨r,fX g1,ty,sz,e,g3,hq⟩)
 ·obtain⟨r,row,g1,g2,g3,_,g5,g6⟩:=inv i x hx
  obtain⟨s,aq,k1,k2,k3,_,k5,k6⟩:=inv j y hy
  rw[g5,k5]at he
  have:r=s:=hm.inj r s _ _ g2 k2 (λe=>v1 (g6.2 e)) (λe=>v2 (k6.2 e)) he
  subst this
  exact(List.getElem?_inj (List.getElem?_eq_some_iff.1 g1).1 ly).1 (g1.trans k1.symm)
 ·rcases hb with hb|⟨_,r,row,hr,hV,w6,IK,rfl⟩
  ·refine⟨(hm.fk b hb).1,λi x hx v=>?_⟩
   obtain⟨r,row,g1,g2,g3,_,g5,g6⟩:=inv i x hx
   rw[g5];exact(hm.fk b hb).2 r row g2 (λe=>v (g6.2 e))
  ·refine⟨hm.lt hr hV,λi x hx v=>?_⟩
   obtain⟨s,aq,g1,g2,g3,_,g5,g6⟩:=inv i x hx
   rw[g5]
   intro e
   have:=hm.inj s r _ _ g2 hr (λe=>v (g6.2 e)) hV e
   subst this
   exact IK (fX g1)
theorem MC(hm:Mem c w)(hA:mK c R)(hn:EB (λr=>r∈ids) (λr=>pos r ids 0) false c (c.pass w ids dx len)){ρ:Operand->Value}{ev:Operand->D}:
 ∀{bs:List Bool} {xs:List Operand} {ou:List D},s7 R (λr=>pos r ids 0) bs (xs.map ev)=some ou->(lS bs (xs.map ev)≠[]->len=true)->(∀r∈lS bs (xs.map ev),r∉ids)->(∀r∈Dj bs (xs.map ev),r∈ids)->(∀x∈xs,Rep c w (ev x) (ρ x))->kr (c.pass w ids dx len) w ou (xs.map ρ)
 |bs,[],ou,h,_,_,_,_=>by cases bs<;>(try(rename_i b bs;cases b))<;>(simp[s7]at h;subst h;trivial)
 |true::bs,x::xs,ou,h,hl,hd,hi,hr=>by
  simp only[fS,s7]at h
  simp only[fS,lS,Dj]at hl hd hi
  split at h
  ·rename_i ys hv h2
   cases h
   have hx:VRep c w (ev x) (ρ x):=Rep.toV (λds e=>by rw[e]at hv;simp[D.isVal]at hv) (λe=>by rw[e]at hv;simp[D.isVal]at hv) (hr x (by simp))
   exact⟨QG hn (flat:=False) (.inl λb hb=>.inl hb) (λr e=>hi r (by simp[e])) (λe=>e.elim) hx,MC hm hA hn h2 hl hd (λr e=>hi r (by simp[e])) λy hy=>hr y (by simp[hy])⟩
  ·cases h
 |false::bs,x::xs,ou,h,hl,hd,hi,hr=>by
  simp only[fS,s7]at h
  simp only[fS,lS,Dj]at hl hd hi
  split at h
  ·rename_i y ys h1 h2
   cases h
   exact⟨Znh hm hA h1 (λe=>hl (by simp[e])) (λr e=>hd r (by simp[e])) (hr x (by simp)),MC hm hA hn h2 (λe=>hl (by simp[e])) (λr e=>hd r (by simp[e])) hi λy hy=>hr y (by simp[hy])⟩
  ·cases h
 |[],x::xs,ou,h,hl,hd,hi,hr=>by
  simp only[fS,s7]at h
  simp only[fS,lS,Dj]at hl hd hi
  split at h
  ·rename_i y ys h1 h2
   cases h
   refine⟨Znh hm hA h1 (λe=>hl (by simp[e])) (λr e=>hd r (by simp[e])) (hr x (by simp)),MC hm hA hn h2 (λe=>hl (by simp[e])) (λr e=>hd r (by simp[e])) (λr e=>?_) λy hy=>hr y (by simp[hy])⟩
   cases xs<;>simp[Dj]at e
  ·cases h
end
theorem UX{f:Nat->Nat}:∀{ids:List Nat} {rows:List Row} {R:Rows},ids.Nodup->ids.length<=rows.length->(∀r∈ids,r<R.length)->
 (tX f ids rows R).length=R.length/\(∀(i r:Nat),ids[i]?=some r->∃row,rows[i]?=some row/\(tX f ids rows R).getD r none=some (row.jm f true))/\∀r,r∉ids->(tX f ids rows R).getD r none=R.getD r none
 |[],rows,R,_,_,_=>by
  have:tX f [] rows R=R:=by cases rows<;>rfl
  rw[this]
  exact⟨rfl,λi r h=>by simp at h,λ_ _=>rfl⟩
 |r::ids,[],R,_,hl,_=>by simp at hl
 |r ::ids,row::rows,R,ly,hl,cq=>by
  obtain⟨IK,JI⟩:=List.nodup_cons.1 ly
  obtain⟨g1,g2,g3⟩:=UX (f:=f) (ids:=ids) (rows:=rows) (R:=R.set r (some (row.jm f true))) JI (by simpa using hl) (λq hq=>by simpa using cq q (by simp[hq]))
  have hr:=cq r (by simp)
  have YV:(R.set r (some (row.jm f true))).getD r none=some (row.jm f true):=by simp[aK,hr]
  have gl:∀q,q≠r->(R.set r (some (row.jm f true))).getD q none=R.getD q none:=λq hq=>by simp[aK,List.getElem?_set_ne (Ne.symm hq)]
  simp only[tX]
  refine⟨by simpa using g1,λi q hq=>?_,λq hq=>?_⟩
  ·cases i with
   |zero=>
    simp at hq;subst hq
    exact⟨row,rfl,by rw[g3 _ IK];exact YV⟩
   |succ i=>simpa using g2 i q (by simpa using hq)
  ·have h1:q≠r:=λe=>hq (by simp[e])
   rw[g3 q (λe=>hq (by simp[e])),gl q h1]
def Ctx.behind(c:Ctx)(w:World)(c':Ctx)(ids:List Nat)(n0:Nat)(R2:Rows):Ctx:=
 { ρ:=λr=>if n0<=r/\r<R2.length then c'.ρ (ids.length+(r-n0)) else c.ρ r,
   R:=λr=>if r∈ids\/(n0<=r/\r<R2.length) then R2.getD r none else c.R r,
   V:=λr=>if n0<=r/\r<R2.length then c'.V (ids.length+(r-n0)) else c.V r,
   I:=λb=>c.I b\/(c'.I b/\w.heap.size<=b),base:=c.base,top:=c'.top,X:=c.X}
theorem Zjt{f:Nat->Nat}{rows:List Row}{i:Nat}:(BF f rows)[i]?=rows[i]?.map λrow=>some (row.jm f true):=by simp[BF]
theorem ZD{c c':Ctx}{w w':World}{R:Rows}{ids:List Nat}{dx ak:List Row}{len:Bool}(hm:Mem c w)(hb:c.base<=w.heap.size)(nX:∀r row,r∈ids->R.getD r none=some row->c.R r=some row)(fg:∀r,R.length<=r->r<R.length+(ak.length-ids.length)->c.R r=none)
 (ly:ids.Nodup) (c6:BA R (λr=>pos r ids 0) ids=some dx) (hle:ids.length<=ak.length) (hx:lU (c.pass w ids dx len) w c' w') (j7:∀i,c'.R i=ak[i]?)
 (hI:len=true->rL ak) {R2:Rows} (uT:R2=tX (bk ids R.length) ids ak R++BF (bk ids R.length) (ak.drop ids.length)):
 (EB (λ_=>True) (bk ids R.length) true c' (c.behind w c' ids R.length R2))/\((∀b,c'.I b->(c.behind w c' ids R.length R2).I b)\/(len=true/\∀b,c'.I b->c'.base<=b->(c.behind w c' ids R.length R2).I b))/\
 Mem (c.behind w c' ids R.length R2) w'/\jq c w (c.behind w c' ids R.length R2) w'/\Fr (λb=>∃r x,c.R r=some x/\¬c.V r/\r∈ids/\c.ρ r=b) w w'/\
 (∀b,(c.behind w c' ids R.length R2).I b->c.I b\/w.heap.size<=b)/\
 (∀r,R.length<=r->r<R2.length->¬(c.behind w c' ids R.length R2).V r->w.heap.size<=(c.behind w c' ids R.length R2).ρ r):=by
 obtain⟨gz,AZ⟩:=FP c6
 have cq:∀r∈ids,r<R.length:=λr hr=>by
  obtain⟨row,h1,_⟩:=AZ _ r (BB hr)
  by_cases hl:r<R.length
  ·exact hl
  ·rw[aK,aM (by omega)]at h1;cases h1
 obtain⟨k1,k2,k3⟩:=UX (f:=bk ids R.length) ly hle cq
 have wC:R2.length=R.length+(ak.length-ids.length):=by rw[uT];simp[k1,BF]
 have P4:∀r,r<R.length->R2.getD r none=(tX (bk ids R.length) ids ak R).getD r none:=λr hr=>by
  rw[uT,aK,aK,aZ (by omega)]
 have YY:∀i,ids.length<=i->i<ak.length->R2.getD (R.length+(i-ids.length)) none=ak[i]?.map λrow=>row.jm (bk ids R.length) true:=λi h1 h2=>by
  rw[uT,aK,List.getElem?_append_right (by omega),Zjt,k1,show R.length+(i-ids.length)-R.length=i-ids.length by omega,fU,show ids.length+(i-ids.length)=i by omega]
  rw[cG h2];rfl
 have jo:c'.base=w.heap.size:=hx.cj.base
 have jG:∀i r aq,ids[i]?=some r->c'.R i=some aq->∃row,c.R r=some row/\aq.box=row.box/\aq.ty=row.ty/\aq.sz=row.sz/\aq.es.l.length=row.es.l.length/\c'.ρ i=c.ρ r/\(c'.V i↔c.V r)/\r<R.length/\R2.getD r none=some (aq.jm (bk ids R.length) true)/\bk ids R.length i=r/\
  (¬c.V r->∀arr,w.heap[c.ρ r]?=some (.cells arr row.ty (0,0))->∃iS,w'.heap[c.ρ r]?=some (.cells iS row.ty (0,0))/\iS.size=arr.size):=by
  intro i r aq hi jr
  obtain⟨row,h1,h2⟩:=AZ i r hi
  have jT:=fX hi
  have h3:=nX r row jT h1
  obtain⟨oz,g1,g2,g3,g4,g5,g6,gV,g7⟩:=hx.cj.R i _ (show(c.pass w ids dx len).R i=some _ from h2)
  rw[jr]at g1;cases g1
  obtain⟨s1,s2,s3,s4⟩:=JJ (λr=>pos r ids 0) false row
  obtain⟨lq,q1,q2⟩:=k2 i r hi
  rw[j7,q1]at jr;cases jr
  refine⟨row,h3,g2.trans s1,g3.trans s2,g4.trans s3,g5.trans s4,by simpa[Ctx.pass,hi]using g6,by simpa[Ctx.pass,hi]using gV,cq r jT,by rw[P4 r (cq r jT)];exact q2,by simp[bk,hi],λnv arr ha=>?_⟩
  have:=g7 (by simpa[Ctx.pass,hi]using nv) arr (by simpa[Ctx.pass,hi,s2]using ha)
  simpa[Ctx.pass,hi,s2]using this
 have fresh:∀i aq,ids.length<=i->c'.R i=some aq->i<ak.length/\R2.getD (R.length+(i-ids.length)) none=some (aq.jm (bk ids R.length) true)/\bk ids R.length i=R.length+(i-ids.length)/\(¬c'.V i->w.heap.size<=c'.ρ i):=by
  intro i aq hi jr
  have h1:ak[i]?=some aq:=by rw[<-j7];exact jr
  have h2:=(List.getElem?_eq_some_iff.1 h1).1
  refine⟨h2,by rw[YY i hi h2,h1];rfl,by simp[bk,aM hi],λnv=>?_⟩
  rcases hx.oj i aq jr nv with⟨⟨x,nL⟩,_⟩|h3
  ·have:dx[i]?=some x:=nL
   rw[aM (by omega)]at this;cases this
  ·exact h3
 have Da:EB (λ_=>True) (bk ids R.length) true c' (c.behind w c' ids R.length R2):=by
  refine⟨λi aq _ jr=>?_,λ_=>by rw[jo];exact hb,aO _⟩
  obtain⟨s1,s2,s3,s4⟩:=JJ (bk ids R.length) true aq
  by_cases hi:i<ids.length
  ·have iJ:ids[i]?=some ids[i]:=cG hi
   obtain⟨row,g1,g2,g3,g4,g5,g6,g7,g8,g9,g10,_⟩:=jG i _ aq iJ jr
   rw[g10]
   exact⟨_,by simp only[Ctx.behind];rw[if_pos (.inl (fX iJ))];exact g9,s1,s2,s3,s4,by simp only[Ctx.behind];rw[if_neg (by omega),g6],by simp only[Ctx.behind];rw[if_neg (by omega)];exact g7.symm⟩
  ·obtain⟨h1,h2,h3,h4⟩:=fresh i aq (by omega) jr
   rw[h3]
   have hc:R.length<=R.length+(i-ids.length)/\R.length+(i-ids.length)<R2.length:=by omega
   have he:ids.length+(R.length+(i-ids.length)-R.length)=i:=by omega
   exact⟨_,by simp only[Ctx.behind];rw[if_pos (.inr hc)];exact h2,s1,s2,s3,s4,by simp only[Ctx.behind];rw[if_pos hc,he],by simp only[Ctx.behind];rw[if_pos hc,he]⟩
 have Dk:(∀b,c'.I b->(c.behind w c' ids R.length R2).I b)\/(len=true/\∀b,c'.I b->c'.base<=b->(c.behind w c' ids R.length R2).I b):=by
  cases hl:len with
  |false=>
   refine .inl λb iL=>?_
   rcases hx.fk b iL with h1|h1
   ·rcases h1 with h1|⟨h1,_⟩
    ·exact .inl h1
    ·rw[hl]at h1;cases h1
   ·exact .inr ⟨iL,h1⟩
  |true=>exact .inr ⟨rfl,λb iL hbb=>.inr ⟨iL,by omega⟩⟩
 have Ch:Fr (λb=>∃r x,c.R r=some x/\¬c.V r/\r∈ids/\c.ρ r=b) w w':=hx.fr.mono λb _ ⟨i,x,h1,h2,h3⟩=>by
  have mZ:dx[i]?=some x:=h1
  have hi:i<ids.length:=by have:=(List.getElem?_eq_some_iff.1 mZ).1;omega
  have iJ:ids[i]?=some ids[i]:=cG hi
  obtain⟨row,g1,g2⟩:=AZ i _ iJ
  exact⟨_,row,nX _ row (fX iJ) g1,by simpa[Ctx.pass,iJ]using h2,fX iJ,by simpa[Ctx.pass,iJ]using h3⟩
 have inv:∀r x,(c.behind w c' ids R.length R2).R r=some x->(∃i aq,c'.R i=some aq/\x=aq.jm (bk ids R.length) true/\(c.behind w c' ids R.length R2).ρ r=c'.ρ i/\((c.behind w c' ids R.length R2).V r↔c'.V i)/\(r∈ids/\ids[i]?=some r/\(c.behind w c' ids R.length R2).ρ r=c.ρ r/\((c.behind w c' ids R.length R2).V r↔c.V r)\/R.length<=r/\ids.length<=i/\r=R.length+(i-ids.length)))\/
  (c.R r=some x/\r∉ids/\(c.behind w c' ids R.length R2).ρ r=c.ρ r/\((c.behind w c' ids R.length R2).V r↔c.V r)/\¬(R.length<=r/\r<R2.length)):=by
  intro r x jL
  by_cases jT:r∈ids
  ·left
   have hp:=BB jT
   obtain⟨lq,q1,q2⟩:=k2 _ r hp
   have rG:c'.R (pos r ids 0)=some lq:=by rw[j7];exact q1
   obtain⟨row,g1,g2,g3,g4,g5,g6,g7,g8,g9,g10,_⟩:=jG _ r lq hp rG
   simp only[Ctx.behind]at jL
   rw[if_pos (.inl jT),g9]at jL
   cases jL
   have e1:(c.behind w c' ids R.length R2).ρ r=c.ρ r:=by simp only[Ctx.behind];rw[if_neg (by omega)]
   have e2:(c.behind w c' ids R.length R2).V r↔c.V r:=by simp only[Ctx.behind];rw[if_neg (by omega)]
   exact⟨_,lq,rG,rfl,by rw[e1,g6],by rw[e2,g7],.inl ⟨jT,hp,e1,e2⟩⟩
  ·by_cases hc:R.length<=r/\r<R2.length
   ·left
    have hi:ids.length+(r-R.length)<ak.length:=by omega
    have rG:c'.R (ids.length+(r-R.length))=some ak[ids.length+(r-R.length)]:=by rw[j7];exact cG hi
    obtain⟨h1,h2,h3,h4⟩:=fresh _ _ (by omega) rG
    simp only[Ctx.behind]at jL
    rw[if_pos (.inr hc)]at jL
    rw[show R.length+(ids.length+(r-R.length)-ids.length)=r by omega]at h2
    rw[h2]at jL
    cases jL
    exact⟨_,_,rG,rfl,by simp only[Ctx.behind];rw[if_pos hc],by simp only[Ctx.behind];rw[if_pos hc],.inr ⟨hc.1,by omega,by omega⟩⟩
   ·right
    simp only[Ctx.behind]at jL
    rw[if_neg (by rintro(h|h)<;>contradiction)]at jL
    exact⟨jL,jT,by simp only[Ctx.behind];rw[if_neg hc],by simp only[Ctx.behind];rw[if_neg hc],hc⟩
 have rb:jq c w (c.behind w c' ids R.length R2) w':=by
  refine⟨rfl,hx.cj.top,λb iL=>⟨.inl iL,?_⟩,λr row hr=>?_⟩
  ·exact(hx.cj.I b (.inl iL)).2
  ·by_cases jT:r∈ids
   ·have hp:=BB jT
    obtain⟨lq,q1,q2⟩:=k2 _ r hp
    have rG:c'.R (pos r ids 0)=some lq:=by rw[j7];exact q1
    obtain⟨kd,g1,g2,g3,g4,g5,g6,g7,g8,g9,g10,g11⟩:=jG _ r lq hp rG
    rw[hr]at g1;cases g1
    obtain⟨s1,s2,s3,s4⟩:=JJ (bk ids R.length) true lq
    exact⟨_,by simp only[Ctx.behind];rw[if_pos (.inl jT)];exact g9,s1.trans g2,s2.trans g3,s3.trans g4,s4.trans g5,by simp only[Ctx.behind];rw[if_neg (by omega)],by simp only[Ctx.behind];rw[if_neg (by omega)],g11⟩
   ·have hc:¬(R.length<=r/\r<R2.length):=λhc=>by rw[fg r hc.1 (by omega)]at hr;cases hr
    refine⟨row,by simp only[Ctx.behind];rw[if_neg (by rintro(h|h)<;>contradiction)];exact hr,rfl,rfl,rfl,rfl,by simp only[Ctx.behind];rw[if_neg hc],by simp only[Ctx.behind];rw[if_neg hc],λnv arr ha=>⟨arr,?_,rfl⟩⟩
    rw[Ch.heap _ (hm.lt hr nv) fun⟨s,x,h1,h2,h3,h4⟩=>jT (by rw[<-hm.inj s r x row h1 hr h2 nv h4];exact h3)]
    exact ha
 refine⟨Da,Dk,⟨λr x jL=>?_,λr s x y hr hs v1 v2 he=>?_,λb iL=>?_,hx.mem.top,hm.kX.mono rb.I⟩,rb,Ch,λb iL=>?_,λr h1 h2 h3=>?_⟩
 ·rcases inv r x jL with⟨i,aq,h1,rfl,h3,h4,_⟩|⟨h1,h2,h3,h4,h5⟩
  ·refine YZ Da Dk h3 h4 (λ_ _ _ _ _=>trivial) (λhf=>?_) (hx.mem.row i aq h1)
   exact Zmi (hI hf) (by rw[<-j7];exact h1)
  ·exact ue rb h3 h4 (λnv=>Ch.heap _ (hm.lt h1 nv) fun⟨s,x',g1,g2,g3,g4⟩=>h2 (by rw[<-hm.inj s r x' x g1 h1 g2 nv g4];exact g3)) (hm.row r x h1)
 ·have HB:∀i aq,c'.R i=some aq->¬c'.V i->(∃q,q∈ids/\ids[i]?=some q/\(∃y,c.R q=some y)/\¬c.V q/\c'.ρ i=c.ρ q)\/w.heap.size<=c'.ρ i:=λi aq h1 nv=>by
   by_cases hi:i<ids.length
   ·have iJ:ids[i]?=some ids[i]:=cG hi
    obtain⟨row,g1,g2,g3,g4,g5,g6,g7,_⟩:=jG i _ aq iJ h1
    exact .inl ⟨_,fX iJ,iJ,⟨row,g1⟩,λe=>nv (g7.2 e),g6⟩
   ·exact .inr ((fresh i aq (by omega) h1).2.2.2 nv)
  rcases inv r x hr with⟨i,x',h1,_,h3,h4,h5⟩|⟨h1,h2,h3,h4,h5⟩<;>rcases inv s y hs with⟨j,y',g1,_,g3,g4,g5⟩|⟨g1,g2,g3,g4,g5⟩
  ·have:i=j:=hx.mem.inj i j x' y' h1 g1 (λe=>v1 (h4.2 e)) (λe=>v2 (g4.2 e)) (by rw[<-h3,<-g3];exact he)
   subst this
   rcases h5 with⟨_,q1,_⟩|⟨_,q1,q2⟩<;>rcases g5 with⟨_,p1,_⟩|⟨_,p1,p2⟩
   ·rw[q1]at p1;exact Option.some.inj p1
   ·have:=(List.getElem?_eq_some_iff.1 q1).1;omega
   ·have:=(List.getElem?_eq_some_iff.1 p1).1;omega
   ·omega
  ·exfalso
   have nv:=λe=>v1 (h4.2 e)
   have ns:=λe=>v2 (g4.2 e)
   rw[h3,g3]at he
   rcases HB i x' h1 nv with⟨q,q1,q2,⟨z,q3⟩,q4,q5⟩|q
   ·exact g2 (by rw[<-hm.inj q s z y q3 g1 q4 ns (by rw[<-q5];exact he)];exact q1)
   ·have:=hm.lt g1 ns;omega
  ·exfalso
   have nv:=λe=>v2 (g4.2 e)
   have ns:=λe=>v1 (h4.2 e)
   rw[h3,g3]at he
   rcases HB j y' g1 nv with⟨q,q1,q2,⟨z,q3⟩,q4,q5⟩|q
   ·exact h2 (by rw[<-hm.inj q r z x q3 h1 q4 ns (by rw[<-q5];exact he.symm)];exact q1)
   ·have:=hm.lt h1 ns;omega
  ·exact hm.inj r s x y h1 g1 (λe=>v1 (h4.2 e)) (λe=>v2 (g4.2 e)) (by rw[<-h3,<-g3];exact he)
 ·rcases iL with iL|⟨iL,pQ⟩
  ·refine⟨Nat.lt_of_lt_of_le (hm.fk b iL).1 Ch.size,λr x hr v=>?_⟩
   rcases inv r x hr with⟨i,x',h1,_,h3,h4,h5⟩|⟨h1,h2,h3,h4,h5⟩
   ·have:=(hx.mem.fk b ((hx.cj.I b (.inl iL)).1)).2 i x' h1 (λe=>v (h4.2 e))
    rw[h3];exact this
   ·rw[h3];exact(hm.fk b iL).2 r x h1 (λe=>v (h4.2 e))
  ·refine⟨(hx.mem.fk b iL).1,λr x hr v=>?_⟩
   rcases inv r x hr with⟨i,x',h1,_,h3,h4,h5⟩|⟨h1,h2,h3,h4,h5⟩
   ·rw[h3];exact(hx.mem.fk b iL).2 i x' h1 (λe=>v (h4.2 e))
   ·have:=hm.lt h1 (λe=>v (h4.2 e))
    rw[h3];omega
 ·rcases iL with h|⟨_,h⟩
  ·exact .inl h
  ·exact .inr h
 ·have hi:ids.length+(r-R.length)<ak.length:=by omega
  have rG:c'.R (ids.length+(r-R.length))=some ak[ids.length+(r-R.length)]:=by rw[j7];exact cG hi
  obtain⟨_,_,_,h4⟩:=fresh _ _ (by omega) rG
  simp only[Ctx.behind,if_pos (show R.length<=r/\r<R2.length from⟨h1,h2⟩)]at h3⊢
  exact h4 h3
theorem Y6(args:List D):Dj [] args=[]:=by cases args<;>rfl
theorem Zg7(R:Rows)(args:List D):mC R [] args=[]:=by
 unfold mC;rw[Y6];rfl
theorem Y2{P:Program}{x:bb}(dw:bj P x){f:FuncId}(hf:x.f=f)(hy:x.f<YB){dst:Option Tmp}{args:Array Operand}{da:Array TypeId}{type:TypeId}{pos:String}{after:Array Edge}{guard:Option (Nat×Bool)}{a:Act}{w:World}{K:Act->World->Prop}{Q:Exit->Act->World->Prop}
 (h:Calls P x.f (args.toList.map a.eval).toArray w λe w'=>∃v,e=.returned v/\K (a.put dst v) w'):(⟨dst,.call ⟨.value (.func f),args,da⟩,type,pos,after,guard⟩:Oper).nk P a w K Q:=by
 have iu:(execOp a.eval (⟨dst,.call ⟨.value (.func f),args,da⟩,type,pos,after,guard⟩:Oper)).run P w=.ok (.enter f (args.toList.map a.eval).toArray) w:=by
  simp only[execOp,resolve,Act.eval,Deferred.ofValue,Sem.run_bind,Sem.run_pure,Result.andThen_ok,invoke,Array.empty_append,Array.append_empty]
  rw[<-hf,dw.enters hy,<-bR,bS]
 unfold Oper.nk
 rw[iu]
 show Calls P f _ w _
 rw[<-hf]
 exact h
theorem xO {P:Program}{G:List bb}(hG:j5 P G){dst:Option Tmp}{f:FuncId}{args:Array Operand}{da:Array TypeId}{type:TypeId}{pos':String}{after:Array Edge}{guard:Option (Nat×Bool)}{ev:Operand->D}{R:Rows}{K:D->Rows->Prop}
    (lW:pf G f=none) (h:tg G f (args.toList.map ev) R K): ∃val R' x,K val R'/\oU G f=some x/\EY P ⟨dst, .call ⟨.value (.func f),args,da⟩,type,pos',after,guard⟩ ev R val R'/\(x.refs=[]->pR P ⟨dst, .call ⟨.value (.func f),args,da⟩,type,pos',after,guard⟩ ev R val R'):=by
  unfold tg at h
  split at h
  . rename_i x hx
    have wG:x.gone=none:=by simpa [pf,hx] using lW
    obtain⟨dw,hf⟩:=Gk hG hx
    split at h
    . rename_i az dx has iZ
      simp only[c9,Bool.or_eq_true,aE]at h
      obtain⟨⟨⟨FZ,h1,h2⟩,h3,h4⟩,h⟩:=h
      generalize JK:mC R x.refs (args.toList.map ev)=ids at*
      have uU:=MA.1 h1
      have gz:=MA.1 h2
      have ly:=MB.1 h3
      have oI:=Uv.1 h4
      have main : ∀res ak,ids.length<=ak.length->K (res.tf (bk ids R.length) true) (tX (bk ids R.length) ids ak R++BF (bk ids R.length) (ak.drop ids.length))->kq P x.f az dx res ak->(x.flat=true->FF res/\rL ak)->
          ∃val R' y,K val R'/\oU G f=some y/\EY P ⟨dst, .call ⟨.value (.func f),args,da⟩,type,pos',after,guard⟩ ev R val R'/\(y.refs=[]->pR P ⟨dst, .call ⟨.value (.func f),args,da⟩,type,pos',after,guard⟩ ev R val R'):=by
        intro res ak hle hK hA jZ
        let len:=match lS x.refs (args.toList.map ev) with|[]=>false|_=>true
        have hlen:lS x.refs (args.toList.map ev)≠[]->len=true:=by
          intro gl
          show(match lS x.refs (args.toList.map ev) with|[]=>false|_=>true)=true
          split
          . contradiction
          . rfl
        have Ac:len=true->x.flat=true:=by
          intro hl
          rcases FZ with h|h
          . exact h.1
          . exfalso
            have hl:(match lS x.refs (args.toList.map ev) with|[]=>false|_=>true)=true:=hl
            split at h
            . rename_i e;rw[e]at hl;cases hl
            . cases h
        have core: ∀(c:Ctx) (w:World) (a:Act),Mem c w->c.base<=w.heap.size->mK c R->(∀r row,r∈ids->R.getD r none=some row->c.R r=some row)->(∀r,R.length<=r->r<R.length+(ak.length-ids.length)->c.R r=none)->(∀y∈args.toList,Rep c w (ev y) (a.eval y))->
            ∀(K':Act->World->Prop) (Q:Exit->Act->World->Prop),(∀v w' c',lU (c.pass w ids dx len) w c' w'->(∀i,c'.R i=ak[i]?)->Rep (c.behind w c' ids R.length (tX (bk ids R.length) ids ak R++BF (bk ids R.length) (ak.drop ids.length))) w' (res.tf (bk ids R.length) true) v->K' (a.put dst v) w')->
            (⟨dst, .call ⟨.value (.func f),args,da⟩,type,pos',after,guard⟩:Oper).nk P a w K' Q:=by
          intro c w a hm hb pb nX fg eu K' Q rp
          have hn:=UB (len:=len) (w:=w) nX iZ
          have fx:=MC (len:=len) (ρ:=a.eval) hm pb hn has hlen oI uU eu
          have mw:=hA (c.pass w ids dx len) w _ (Y0 hm nX ly gz iZ) rfl (λr=>rfl) fx
          refine Y2 dw hf (dw.real wG) (mw.mono λe w' sZ=> ?_)
          obtain⟨v,c',he,nF,j7,k9⟩:=sZ
          obtain⟨g1,g2,_⟩:=ZD hm hb nX fg ly iZ hle nF j7 (λe=>(jZ (Ac e)).2) rfl
          exact⟨v,he,rp v w' c' nF j7 (Y1 g1 g2 (λ_=>trivial) (λe=>(jZ (Ac e)).1) k9)⟩
        have gv: ∀(c:Ctx) (w:World) (a:Act),(∀y∈(⟨dst, .call ⟨.value (.func f),args,da⟩,type,pos',after,guard⟩:Oper).op.operands,Rep c w (ev y) (a.eval y))-> ∀y∈args.toList,Rep c w (ev y) (a.eval y):=λc w a eu y hy=>eu y (by simp [Op.operands,Call.operands];exact .inr (by simpa using hy))
        refine⟨_,_,x,hK,hx,λc w a hm hb hR eu K' Q rp=> ?_,λhrefs=> ?_⟩
        . have pb:mK c R:=λr row aq g1 g2=>by rw[hR,g2]at g1;exact(Option.some.inj g1).symm
          have nX: ∀r row,r∈ids->R.getD r none=some row->c.R r=some row:=λr row _ e=>by rw[hR];exact e
          have fg: ∀r,R.length<=r->r<R.length+(ak.length-ids.length)->c.R r=none:=λr e _=>by rw[hR,aK,aM e];rfl
          refine core c w a hm hb pb nX fg (gv c w a eu) K' Q λv w' c' nF j7 k9=> ?_
          obtain⟨g1,g2,g3,g4,g5,g6,g7⟩:=ZD hm hb nX fg ly iZ hle nF j7 (λe=>(jZ (Ac e)).2) rfl
          have wC:(tX (bk ids R.length) ids ak R).length=R.length:=(UX ly hle (λr hr=>by
            obtain⟨row,q1,_⟩:=(FP iZ).2 _ r (BB hr)
            by_cases hl:r<R.length
            . exact hl
            . rw[aK,aM (by omega)]at q1;cases q1)).1
          have jb:=UX (f:=bk ids R.length) ly hle (λr hr=>by
            obtain⟨row,q1,_⟩:=(FP iZ).2 _ r (BB hr)
            by_cases hl:r<R.length
            . exact hl
            . rw[aK,aM (by omega)]at q1;cases q1)
          refine rp v w' _ ⟨g3,g4,g5.mono λb _ ⟨r,y,k1,k2,_,k4⟩=>⟨r,y,k1,k2,k4⟩,g6,λr aq hr hv=> ?_⟩ (λr=> ?_) k9
          . by_cases hc:R.length<=r/\r<(tX (bk ids R.length) ids ak R++BF (bk ids R.length) (ak.drop ids.length)).length
            . exact .inr (g7 r hc.1 hc.2 hv)
            . left
              simp only[Ctx.behind,if_neg hc]at hv⊢
              refine⟨?_,hv,trivial⟩
              simp only[Ctx.behind]at hr
              split at hr
              . rename_i HC
                rcases HC with HC|HC
                . obtain⟨row,q1,_⟩:=(FP iZ).2 _ r (BB HC)
                  exact⟨row,nX r row HC q1⟩
                . contradiction
              . exact⟨_,hr⟩
          . simp only[Ctx.behind]
            split
            . rfl
            . rename_i HC
              have h1:r∉ids:=λe=>HC (.inl e)
              by_cases cq:r<R.length
              . rw[aK,aZ (by omega),<-aK,jb.2.2 r h1,hR]
              . rw[hR,aK,aM (by omega),aK,aM (by
                  by_cases h2:r<(tX (bk ids R.length) ids ak R++BF (bk ids R.length) (ak.drop ids.length)).length
                  . exact(HC (.inr ⟨by omega,h2⟩)).elim
                  . omega)]
        . have QH:ids=[]:=by rw[<-JK,hrefs];exact Zg7 R _
          subst QH
          have rz:tX (bk [] R.length) [] ak R=R:=by cases ak<;>rfl
          rw[rz]
          simp only[dI,gC]at*
          refine⟨⟨_,rfl⟩,λc w a hm hb pb fg eu K' Q rp=> ?_⟩
          have nX: ∀r row,r∈([]:List Nat)->R.getD r none=some row->c.R r=some row:=λr row e=>by cases e
          have HD: ∀r,R.length<=r->r<R.length+(ak.length-0)->c.R r=none:=λr e1 e2=>fg r e1 (by simp [BF];omega)
          refine core c w a hm hb pb nX HD (gv c w a eu) K' Q λv w' c' nF j7 k9=> ?_
          obtain⟨g1,g2,g3,g4,g5,g6,g7⟩:=ZD hm hb nX HD ly iZ hle nF j7 (λe=>(jZ (Ac e)).2) rfl
          rw[rz]at g3 g4 g6 g7 k9
          simp only[dI,gC]at g3 g4 g6 g7 k9
          refine rp v w' _ ⟨g3,g4,g5.mono (λb _ ⟨r,y,k1,k2,k3,k4⟩=>(by cases k3)),g6,λr=> ?_,λr hr=> ?_,λr k1 k2=>g7 r k1 k2⟩ k9
          . simp [Ctx.behind]
          . simp only[Ctx.behind]
            rw[if_neg (by omega),if_neg (by omega)]
            exact⟨rfl,Iff.rfl⟩
      split at h
      . rename_i res ak hm
        simp only[EF,c9,D.cv,nm]at h
        obtain⟨h5,h6⟩:=dw.ok wG _ _ _ _ hm
        exact main res ak (lE h.1) h.2 h5 h6
      . rename_i p res ak hm
        simp only[EF,c9,D.cv,nm]at h
        obtain⟨h5,h6⟩:=dw.when wG _ _ _ _ _ hm h.1
        exact main res ak (lE h.2.1) h.2.2 h5 h6
      . rename_i α v res ak hm
        have h:=h v rfl
        simp only[EF,c9,D.cv,nm]at h
        obtain⟨h5,h6⟩:=dw.abs wG _ _ _ _ _ _ hm
        exact main (res v) (ak v) (lE h.1) h.2 h5 h6
      . rename_i p α v res ak hm
        obtain⟨hp,h⟩:=h
        have h:=h v rfl
        simp only[EF,c9,D.cv,nm]at h
        obtain⟨h5,h6⟩:=dw.lT wG _ _ _ _ _ _ _ hm hp
        exact main (res v) (ak v) (lE h.1) h.2 h5 h6
      . exact h.elim
    . exact h.elim
  . exact h.elim
theorem Z9r{f:Nat->Nat}:∀{ds:List D},UY ds=true->D.mG f true ds=ds
 |[],_=>rfl
 |d ::l,h=>by
  simp only[UY]at h
  split at h
  ·rename_i hd
   simp only[D.mG,Z9r h]
   cases d<;>first|(simp[QI]at hd;done)|simp[D.mF]
  ·cases h
theorem Zel{f:Nat->Nat}{d:D}(h:th d=true):d.jm f true=d:=by
 cases d with
 |agg cs=>show D.agg (D.mG f true cs)=_;rw[Z9r h]
 |_=>first|(simp[th,QI]at h;done)|simp[D.jm,D.mF]
theorem Z8h{f:Nat->Nat}:∀{ds:List D},UZ ds=true->D.Bf f true ds=ds
 |[],_=>rfl
 |d ::l,h=>by
  simp only[UZ]at h
  split at h
  ·rename_i hd
   simp only[D.Bf,Z8h h,Zel hd]
  ·cases h
theorem Zqv{f:Nat->Nat}{d:D}(h:uX d=true):d.tf f true=d:=by
 cases d with
 |dt ds=>show D.dt (D.Bf f true ds)=_;rw[Z8h h]
 |agg cs=>exact Zel (d:=.agg cs) h
 |_=>first|(simp[uX,th,QI]at h;done)|simp[D.tf,D.jm,D.mF]
theorem Y5{R:Rows}(f g:Nat->Nat):∀{ds:List D},s7 R f [] ds=s7 R g [] ds
 |[]=>rfl
 |d::l=>by simp only[s7,Y5 f g (ds:=l)]
theorem zO{G:List bb}{f:FuncId}{args:List D}{R:Rows}{K:D->Rows->Prop}(h:KG G f args R K):tg G f args R K:=by
 unfold KG at h
 split at h
 ·rename_i x hx
  split at h
  ·rename_i hrefs
   split at h
   ·rename_i az has
    simp only[c9]at h
    have hv:∀{res:D} {ak:List Row},ML R res ak K->EF R [] res ak K:=by
     intro res ak h
     have rz:tX (bk [] R.length) [] ak R=R:=by cases ak<;>rfl
     simp only[EF,c9,dI,gC,rz]
     refine⟨by simp,?_⟩
     unfold ML at h
     split at h
     ·simp only[c9,D.cv]at h
      rw[Zqv h.1]
      simp only[D.cv,nm,BF,List.map_nil,List.append_nil]
      exact h.2
     ·exact h
    unfold tg
    simp only[hx,hrefs,Zg7]
    rw[Y5 _ (λr=>r),has]
    simp only[BA,c9,Y6]
    refine⟨?_,?_⟩
    ·have:∀l:List Nat,nQ l []=true:=λl=>by
      rw[Uv];intro r _ hr;cases hr
     simp only[pJ,Dc,EE,this,Bool.and_true]
     have h1:=h.1
     revert h1
     cases lS [] args<;>simp[Dl]
    ·revert h
     cases x.m az []with
     |no=>exactλh=>h.2
     |ok res ak=>exactλh=>hv h.2
     |«when»p res ak=>exactλh=>⟨h.2.1,hv h.2.2⟩
     |abs α v res ak=>exactλh X hX=>hv (h.2 X hX)
     |lT p α v res ak=>exactλh=>⟨h.2.1,λX hX=>hv (h.2.2 X hX)⟩
   ·exact h.elim
  ·exact h
 ·exact h.elim
theorem Wn{P:Program}{G:List bb}(hG:j5 P G){dst:Option Tmp}{f:FuncId}{args:Array Operand}{da:Array TypeId}{type:TypeId}{pos':String}{after:Array Edge}{guard:Option (Nat×Bool)}{ev:Operand->D}{R:Rows}{K:D->Rows->Prop}
 (lW:pf G f=none) (h:KG G f (args.toList.map ev) R K):∃val R' x,K val R'/\oU G f=some x/\EY P ⟨dst,.call ⟨.value (.func f),args,da⟩,type,pos',after,guard⟩ ev R val R'/\(x.refs=[]->pR P ⟨dst,.call ⟨.value (.func f),args,da⟩,type,pos',after,guard⟩ ev R val R'):=
 xO hG lW (zO h)

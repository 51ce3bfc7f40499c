import Derived.Test.YthjfindbamdacaaGreatDoorAuditFindsFp
open List renaming getD->aK,getElem?_eq_none->aM,getElem?_append_left->aZ,getElem?_take->aU,getElem?_drop->fT,getElem?_eq_getElem->cG,getElem?_toArray->aY,map_cons->fR,map_toArray->bR,mem_cons->cS,mem_map->gA,mem_of_getElem?->fW,length_nil->dJ,drop_zero->gB
open Nat renaming le_refl->aO,zero_add->aX,add_assoc->fY
open Option renaming getD_some->aG
open Bool renaming false_eq_true->aN
open Array renaming toArray_toList->bS,extract_eq_self_of_le->fZ
set_option linter.all false
namespace Go.GD
open Go
structure Ko(c:Ctx)(w:World)(R R':Rows)(c':Ctx)(w':World):Prop where
 mem:Mem c' w'
 bz:jk c w c' w'
 fr:Fr (λ_=>False) w w'
 fu:∀b,c'.I b->c.I b\/w.heap.size<=b
 rows:∀r,c'.R r=if R.length<=r/\r<R'.length then R'.getD r none else c.R r
 jz:∀r,r<R.length\/R'.length<=r->c'.ρ r=c.ρ r/\(c'.V r↔c.V r)
 new:∀r,R.length<=r->r<R'.length->¬c'.V r->w.heap.size<=c'.ρ r
structure lN(c:Ctx)(w:World)(c':Ctx)(w':World):Prop where
 mem:Mem c' w'
 bz:jk c w c' w'
 fr:Fr (λb=>∃r x,c.R r=some x/\¬c.V r/\c.ρ r=b) w w'
 fu:∀b,c'.I b->c.I b\/w.heap.size<=b
 og:∀r ak,c'.R r=some ak->¬c'.V r->((∃row,c.R r=some row)/\¬c.V r/\c'.ρ r=c.ρ r)\/w.heap.size<=c'.ρ r
def PY(P:Program)(o:Oper)(a:Act)(next:Act->World->Prop):Result Next->Prop
 |.ok (.value v) w'=>next (a.put o.dst v) w'
 |.ok .skip w'=>next (a.put o.dst undef) w'
 |.ok (.enter f args) w'=>Calls P f args w' λe FN=>∃v,e=.returned v/\next (a.put o.dst v) FN
 |.ok (.round l f tmps assign body) w'=>RoundIn Fence.wide 0 P l f tmps assign body w' λe FN=>∃v,e=.returned v/\next (a.put o.dst v) FN
 |_=>False
def _root_.Go.Oper.nj(P:Program)(o:Oper)(a:Act)(w:World)(next:Act->World->Prop)(_:Exit->Act->World->Prop):Prop:=PY P o a next ((execOp a.eval o).run P w)
theorem Gj{P:Program}{o:Oper}{a:Act}{w w':World}{u:Value}{K:Act->World->Prop}{Q:Exit->Act->World->Prop}(h:(execOp a.eval o).run P w=.ok (.value u) w')(hK:K (a.put o.dst u) w'):o.nj P a w K Q:=by
 unfold Oper.nj;rw[h];exact hK
theorem vQ{P:Program}{o:Oper}{a:Act}{w w':World}{K:Act->World->Prop}{Q:Exit->Act->World->Prop}(h:(execOp a.eval o).run P w=.ok .skip w')(hK:K (a.put o.dst undef) w'):o.nj P a w K Q:=by
 unfold Oper.nj;rw[h];exact hK
theorem Wr{P:Program}{o:Oper}{a:Act}{w:World}{K K':Act->World->Prop}{Q Q':Exit->Act->World->Prop}(h:∀a w,K a w->K' a w)(hh:o.nj P a w K Q):o.nj P a w K' Q':=by
 unfold Oper.nj at hh⊢
 revert hh
 generalize(execOp a.eval o).run P w=r
 intro hh
 cases r with
 |halt _ _=>exact hh.elim
 |ok n w'=>
  cases n with
  |value v=>exact h _ _ hh
  |skip=>exact h _ _ hh
  |enter f args=>exact Calls.mono hh λe w' ⟨v,he,hk⟩=>⟨v,he,h _ _ hk⟩
  |round l f tmps assign body=>exact RoundIn.mono hh λe w' ⟨v,he,hk⟩=>⟨v,he,h _ _ hk⟩
  |_=>exact hh.elim
def pK(P:Program)(o:Oper)(ev:Operand->D)(R:Rows)(val:D)(R':Rows):Prop:=
 (∃news,R'=R++news)/\∀(c:Ctx) (w:World) (a:Act),Mem c w->c.base<=w.heap.size->mH c R->(∀r,R.length<=r->r<R'.length->c.R r=none)->(∀x∈o.op.operands,Rep c w (ev x) (a.eval x))->
  ∀K Q,(∀v w' c',Ko c w R R' c' w'->Rep c' w' val v->K (a.put o.dst v) w')->o.nj P a w K Q
def EM(P:Program)(o:Oper)(ev:Operand->D)(R:Rows)(val:D)(R':Rows):Prop:=
 ∀ (c:Ctx) (w:World) (a:Act),Mem c w->c.base<=w.heap.size->(∀r,c.R r=R.getD r none)->(∀x∈o.op.operands,Rep c w (ev x) (a.eval x))->
  ∀K Q,(∀v w' c',lN c w c' w'->(∀r,c'.R r=R'.getD r none)->Rep c' w' val v->K (a.put o.dst v) w')->o.nj P a w K Q
theorem pK.toW{P:Program}{o:Oper}{ev:Operand->D}{R:Rows}{val:D}{R':Rows}(h:pK P o ev R val R'):EM P o ev R val R':=by
 obtain⟨⟨news,hn⟩,h⟩:=h
 intro c w a hm hb hR ep K Q hK
 refine h c w a hm hb (λr row ak h1 h2=>by rw[hR,h2]at h1;exact(Option.some.inj h1).symm) (λr h1 _=>by rw[hR];simp[aK,aM h1]) ep K Q λv w' c' hs hr=>?_
 refine hK v w' c' ⟨hs.mem,hs.bz,hs.fr.mono (λb _ hf=>hf.elim),hs.fu,λr ak nA hv=>?_⟩ (λr=>?_) hr
 ·by_cases h1:R.length<=r/\r<R'.length
  ·exact .inr (hs.new r h1.1 h1.2 hv)
  ·rw[hs.rows,if_neg h1]at nA
   obtain⟨h2,h3⟩:=hs.jz r (by omega)
   exact .inl ⟨⟨_,nA⟩,λe=>hv (h3.2 e),h2⟩
 ·rw [hs.rows,hR]
  split
  ·rfl
  ·rename_i h1
   subst hn
   by_cases h2:r<R.length
   ·simp[aK,aZ h2]
   ·have h3:(R++news).length<=r:=by omega
    simp[aK,aM h3,aM (show R.length<=r by omega)]
theorem mW{P:Program}{o:Oper}{ev:Operand->D}{R:Rows}{val:D}(h:∀(c:Ctx) (w:World) (a:Act),Mem c w->mH c R->(∀x∈o.op.operands,Rep c w (ev x) (a.eval x))->∃u,(execOp a.eval o).run P w=.ok (.value u) w/\Rep c w val u):pK P o ev R val R:=by
 refine⟨⟨[],by simp⟩,λc w a hm hb hA _ ep K Q hK=>?_⟩
 obtain⟨u,hu,hr⟩:=h c w a hm hA ep
 exact Gj hu (hK u w c ⟨hm,jk.refl c w,Fr.refl _ w,λb hb=>.inl hb,λr=>by rw[if_neg (by omega)],λ_ _=>⟨rfl,Iff.rfl⟩,λr h1 h2=>by omega⟩ hr)
theorem UK{P:Program}{o:Oper}{ev:Operand->D}{R:Rows}{val:D}{row:Row}(h:∀(c:Ctx) (w:World) (a:Act),Mem c w->mH c R->(∀x∈o.op.operands,Rep c w (ev x) (a.eval x))->
 ∃x:Sem Value,execOp a.eval o=(do pure (.value (<-x)))/\UL P x w c R.length row val):pK P o ev R val (R++[some row]):=by
 refine⟨⟨[some row],rfl⟩,λc w a hm hb hA fh ep K Q hK=>?_⟩
 obtain⟨x,hx,u,arr,hu,hi,hr⟩:=h c w a hm hA ep
 have hk:c.R R.length=none:=fh R.length (aO _) (by simp)
 have ig:(execOp a.eval o).run P w=.ok (.value u) (w.alloc (.cells arr row.ty)):=by
  rw[hx,Sem.run_bind,hu];rfl
 refine Gj ig (hK u _ (c.add R.length row w.heap.size) ⟨hm.alloc hk row arr hi.1 hi.2,jk.alloc hm hk row _,Fr.alloc _ w _,λb hb=>.inl hb,λr=>?_,λr hr=>?_,λr h1 h2 _=>?_⟩ (hr hk hm))
 ·by_cases e:r=R.length
  ·subst e
   simp[Ctx.add,aK]
  ·have:¬(R.length<=r/\r<(R++[some row]).length):=by simp;omega
   rw[if_neg this]
   simp[Ctx.add,e]
 ·have:r≠R.length:=by simp at hr;omega
  simp[Ctx.add,this]
 ·have:r=R.length:=by simp at h2;omega
  simp[Ctx.add,this]
def Gi:Op->Bool|.store _ _ _=>true|_=>false
theorem Zq4{c:Ctx}{w:World}{cs:List D}{vs:List Value}(h:jm c w cs vs)(o n:Nat):jm c w ((cs.drop o).take n) ((vs.drop o).take n):=by
 rw[En]at h⊢
 obtain⟨h1,h2⟩:=h
 refine⟨by simp[h1],λj v hv=>?_⟩
 simp only[aU,fT]at hv
 split at hv
 ·rename_i hj
  have:=h2 (o+j) v hv
  simp only[aK,aU,fT,hj,if_true]at this⊢
  exact this
 ·cases hv
theorem y7{c:Ctx}{w:World}:∀{dc:List rb} {az:List D} {vs:List Value},jm c w az vs->fits dc az=true->pV vs.toArray 0 az
 |dc,az,vs,h,hf=>by
  intro j d hj
  have cf:=(List.getElem?_eq_some_iff.1 hj).1
  have hl:=h.length
  have hv:vs[j]?=some vs[j]:=cG (by omega)
  have hr:=(En.1 h).2 j _ hv
  simp only[aK,hj,aG]at hr
  have hs :∀{dc:List rb} {az:List D} {j:Nat},fits dc az=true->az[j]?=some d->(∃k n,d=.int k n)\/(∃b,d=.bool b)\/∃s,d=.str s:=by
   intro dc
   induction dc with
   |nil=>intro az j hf hj;cases az<;>simp[fits]at hf;simp at hj
   |cons t ts ih=>
    intro az j hf hj
    cases az with
    |nil=>cases t<;>simp[fits]at hf
    |cons e es=>
     cases t<;>simp only[fits,aE,aN]at hf
     all_goals
      cases j with
      |succ j=>exact ih hf.2 (by simpa using hj)
      |zero=>
       simp at hj
       subst hj
       cases e<;>simp[D.isInt,D.isBool,D.isStr]at hf⊢
  simp only[aX,aY,hv]
  rcases hs hf hj with⟨k,n,rfl⟩|⟨b,rfl⟩|⟨s,rfl⟩<;>(simp only[cu]at hr;rw[hr];rfl)
theorem Zy{c:Ctx}{w:World}:∀{ds:List D} {vs:List Value},kb c w ds vs->∀i,i<ds.length->∃v,vs[i]?=some v/\VRep c w (ds.getD i .dead) v
 |[],[],_,i,h=>by simp at h
 |d::ds,v::vs,h,0,_=>⟨v,rfl,h.1⟩
 |d::ds,v::vs,h,i+1,hi=>by
  obtain⟨u,hu,hr⟩:=Zy h.2 i (by simpa using hi)
  exact⟨u,by simpa using hu,by simpa using hr⟩
 |[],_::_,h,_,_=>h.elim
 |_::_,[],h,_,_=>h.elim
theorem qav{d:D}{x:iu}(h:CQ d=some x):x.d=d:=by
 have go:∀{cs:List iu} {ps:List (Nat×Nat×Nat)},PZ cs=some ps->ps.map Ij=cs:=by
  intro cs
  induction cs with
  |nil=>intro ps h;simp[PZ]at h;subst h;rfl
  |cons y l ih=>
   intro ps h
   simp only[PZ]at h
   split at h
   ·rename_i p qs h1 h2
    cases h
    simp only[fR,ih h2]
    cases y<;>simp[Hx]at h1
    subst h1;rfl
   ·cases h
 cases d<;>simp only[CQ]at h<;>first|(cases h;done)|skip
 case gn f cs=>
  split at h
  ·rename_i ps hp;cases h;simp only[iu.d,go hp]
  ·cases h
 all_goals(cases h;rfl)
theorem WB{c:Ctx}{w:World}{ev:Operand->D}{ρ:Operand->Value}:∀{xs:List Operand} {cs:List iu},KD (xs.map ev)=some cs->(∀x∈xs,Rep c w (ev x) (ρ x))->oM c w cs (xs.map ρ)
 |[],cs,h,_=>by simp[KD]at h;subst h;trivial
 |x ::xs,cs,h,hr=>by
  simp only[fR,KD]at h
  split at h
  ·rename_i y ys h1 h2
   cases h
   refine⟨?_,WB h2 λz hz=>hr z (by simp[hz])⟩
   have:=hr x (by simp)
   rw[<-qav h1]at this
   rw[Wm]
   cases y<;>exact this
  ·cases h
theorem Ng{P:Program}{T:fq}(hT:jy P T)(o:Oper)(ev:Operand->D)(R:Rows)(K:D->Rows->Prop)(h:ie T o.op ev R K):
 ∃val R',K val R'/\(if Gi o.op then EM P o ev R val R' else pK P o ev R val R'):=by
 obtain⟨dst,op,type,pos,after,guard⟩:=o
 simp only at h
 cases op<;>(try simp only[ie]at h)<;>try(exact h.elim)
 case makeFunc fn first captured=>
  cases fn<;>simp only at h<;>try(exact h.elim)
  rename_i f
  simp only[da,aE]at h
  obtain⟨⟨h0,hy⟩,h⟩:=h
  split at h
  ·rename_i cs hc
   refine⟨_,_,h,mW λc w a hm hA ep=>?_⟩
   have hf:first= #[]:=Array.eq_empty_of_size_eq_zero (bE h0)
   subst hf
   refine⟨.func (.func f) #[] (captured.map a.eval),?_,captured.toList.map a.eval,?_,WB hc λx hx=>ep x (by simp[Op.operands];simpa using hx)⟩
   ·simp only[execOp,Instr.makeFunc,Sem.run_bind,Sem.run_pure,Array.map_empty];rfl
   ·exact .inl ⟨lE hy,by rw[<-bR,bS]⟩
  ·exact h.elim
 case move x=>
  rw[D.cg]at h
  exact⟨_,_,h,mW λc w a hm hA ep=>⟨_,rfl,ep x (by simp[Op.operands])⟩⟩
 case assign x=>
  rw[D.cg]at h
  exact⟨_,_,h,mW λc w a hm hA ep=>⟨_,rfl,ep x (by simp[Op.operands])⟩⟩
 case alloc t=>
  split at h
  ·rename_i ht
   simp only[da,aE,Nj]at h
   obtain⟨⟨h0,hl⟩,h⟩:=h
   exact⟨_,_,h,UK λc w a hm hA ep=>⟨_,rfl,Zlp hT ht (lE h0) (bE hl) R.length c w⟩⟩
  ·exact h.elim
 case box t x=>
  split at h
  ·rename_i ht
   simp only[da,aE,Nj,D.fj]at h
   obtain⟨⟨⟨h0,hv⟩,hl⟩,h⟩:=h
   exact⟨_,_,h,UK λc w a hm hA ep=>⟨_,rfl,xaO (lE h0) hv (bE hl) R.length c w (ep x (by simp[Op.operands]))⟩⟩
  ·exact h.elim
 case build t parts=>
  obtain⟨val,hK,hr⟩:=vR hT h
  refine⟨_,_,hK,mW λc w a hm hA ep=>?_⟩
  obtain⟨u,hu,hx⟩:=hr c w a.eval (λp hp=>ep p.2 (by simp[Op.operands];exact⟨p.1,by simpa using hp⟩))
  refine⟨u,?_,hx⟩
  simp only[execOp]
  rw[Sem.run_bind,show parts.map (λx=>(x.1,a.eval x.2))=(parts.toList.map λp=>(p.1,a.eval p.2)).toArray from by rw[<-bR,bS],hu]
  rfl
 case buildSlice t len parts=>
  obtain⟨val,hK,hr⟩:=Zo8 hT h
  refine⟨_,_,hK,⟨[],by simp⟩,λc w a hm hb hA _ ep K Q hK=>?_⟩
  obtain⟨u,arr,ty,hu,hx⟩:=hr c w a.eval hb (λp hp=>ep p.2 (by simp[Op.operands];exact⟨p.1,by simpa using hp⟩))
  have ig:(execOp a.eval (⟨dst,.buildSlice t len parts,type,pos,after,guard⟩:Oper)).run P w=.ok (.value u) (w.alloc (.cells arr ty)):=by
   simp only[execOp]
   rw[Sem.run_bind,show parts.map (λx=>(x.1,a.eval x.2))=(parts.toList.map λp=>(p.1,a.eval p.2)).toArray from by rw[<-bR,bS],hu]
   rfl
  exact Gj ig (hK u _ (c.fu w.heap.size) ⟨xau hm _,UJ hm _,Fr.alloc _ w _,λb hb=>hb.elim .inl (λe=>.inr (by omega)),λr=>by rw[if_neg (by omega)];rfl,λ_ _=>⟨rfl,Iff.rfl⟩,λr h1 h2=>by omega⟩ (hx hm))
 case load t x=>
  obtain⟨val,hK,hr⟩:=Zgx hT h
  refine⟨_,_,hK,mW λc w a hm hA ep=>?_⟩
  obtain⟨u,hu,hx⟩:=hr c w _ hm hA (ep x (by simp[Op.operands]))
  exact⟨u,by simp only[execOp];rw[Sem.run_bind,hu];rfl,hx⟩
 case store t x y=>
  obtain⟨R',hK,hr⟩:=Zpv hT h
  refine⟨_,_,hK,?_⟩
  simp only[Gi,if_true]
  intro c w a hm hb hR ep K Q hK
  obtain⟨r,ak,arr,w',ig,YQ,⟨row,cb⟩,hV,hg,kC,jY⟩:=hr c w _ _ hm hR (ep x (by simp[Op.operands])) (ep y (by simp[Op.operands]))
  refine vQ (w':=w') ?_ (hK undef w' _ ⟨kC,hg,?_,λb hb=>.inl hb,λs ov hs hv=>?_⟩ jY trivial)
  ·simp only[execOp];rw[Sem.run_bind,ig];rfl
  rotate_left
  ·by_cases e:s=r
   ·exact .inl ⟨⟨row,by rw[e];exact cb⟩,hv,rfl⟩
   ·exact .inl ⟨⟨ov,by simpa[Ctx.jA,e]using hs⟩,hv,rfl⟩
  ·rw[YQ]
   exact(SB w _ arr).mono λb _ e=>⟨r,row,cb,hV,e.symm⟩
 case nilCheck x=>
  have go:∀d,ev x=d->(∃a b c,d=.ptr a b c)\/(∃a b c e,d=.ir a b c e)->K d R->∃val R',K val R'/\pK P ⟨dst,.nilCheck x,type,pos,after,guard⟩ ev R val R':=by
   intro d hd P0 hK
   refine⟨_,_,hK,mW λc w a hm hA ep=>?_⟩
   have hx:=ep x (by simp[Op.operands])
   rw[hd]at hx
   have hp:∃q,a.eval x=.pointer (some q):=by
    rcases P0 with⟨r,i,off,rfl⟩|⟨sz,es,i,off,rfl⟩
    ·obtain⟨_,_,_,_,hv⟩:=hx;exact⟨_,hv⟩
    ·obtain⟨_,_,_,_,_,hv,_⟩:=hx;exact⟨_,hv⟩
   obtain⟨q,hq⟩:=hp
   refine⟨a.eval x,?_,hx⟩
   simp only[execOp,hq,Sem.run_pure]
  split at h
  ·rename_i hd;exact go _ hd (.inl ⟨_,_,_,rfl⟩) h
  ·rename_i hd;exact go _ hd (.inr ⟨_,_,_,_,rfl⟩) h
  ·exact h.elim
 case binOp op t x y ty=>
  have fin:∀(val:D),(∀c w u v,Rep c w (ev x) u->Rep c w (ev y) v->∃z,(do eqGuard op t x y u v;binOp op t u v).run P w=.ok z w/\Rep c w val z)->pK P ⟨dst,.binOp op t x y ty,type,pos,after,guard⟩ ev R val R:=λval hv=>
   mW λc w a hm hA ep=>by
    obtain⟨z,hz,hr⟩:=hv c w _ _ (ep x (by simp[Op.operands])) (ep y (by simp[Op.operands]))
    refine⟨z,?_,hr⟩
    simp only[execOp]
    rw[Sem.run_bind,hz];rfl
  unfold sS at h
  split at h
  ·rename_i k a k' b hx hy
   split at h
   ·simp only[da,decide_eq_true_eq]at h
    refine⟨_,_,h.2,fin _ λc w u v hu hv=>?_⟩
    rw[hx]at hu;rw[hy]at hv
    rw[Rep.int.1 hu,Rep.int.1 hv]
    exact⟨_,by rw[Sem.run_bind,Zz];exact(Zff h.1 w).1,rfl⟩
   ·simp only[da,decide_eq_true_eq]at h
    refine⟨_,_,h.2,fin _ λc w u v hu hv=>?_⟩
    rw[hx]at hu;rw[hy]at hv
    rw[Rep.int.1 hu,Rep.int.1 hv]
    exact⟨_,by rw[Sem.run_bind,Zz];exact(Zff h.1 w).2,rfl⟩
   ·rename_i h1 h2
    simp only[da,decide_eq_true_eq]at h
    obtain⟨rfl,h⟩:=h
    obtain⟨d,hK,hr⟩:=zav (P:=P) (t:=t) ⟨λe=>h1 e,λe=>h2 e⟩ h
    refine⟨_,_,hK,fin _ λc w u v hu hv=>?_⟩
    rw[hx]at hu;rw[hy]at hv
    rw[Rep.int.1 hu,Rep.int.1 hv]
    obtain⟨z,hz,ZA⟩:=hr w
    exact⟨z,by rw[Sem.run_bind,Zz];exact hz,ZA c⟩
  ·rename_i a b hx hy
   obtain⟨d,hK,hr⟩:=xav (P:=P) (t:=t) (op:=op) (a:=a) (b:=b) (K:=λd=>K d R) h
   refine⟨_,_,hK,fin _ λc w u v hu hv=>?_⟩
   rw[hx]at hu;rw[hy]at hv
   rw[Rep.str.1 hu,Rep.str.1 hv]
   obtain⟨z,hz,ZA⟩:=hr w
   exact⟨z,by rw[Sem.run_bind,Zj7];exact hz,ZA c⟩
  ·rename_i a b hx hy
   split at h
   ·rename_i ht
    have hd:=mU hT ht
    simp only at hd
    split at h
    ·refine⟨_,_,h,fin _ λc w u v hu hv=>?_⟩
     rw[hx]at hu;rw[hy]at hv
     rw[Rep.bool.1 hu,Rep.bool.1 hv]
     refine⟨_,?_,rfl⟩
     rw[Sem.run_bind,Qyv]
     simp only[binOp]
     simp[Op.equal,Op.maxDepth,run_equalIn_bool' w 9999 t a b hd]
    ·refine⟨_,_,h,fin _ λc w u v hu hv=>?_⟩
     rw[hx]at hu;rw[hy]at hv
     rw[Rep.bool.1 hu,Rep.bool.1 hv]
     refine⟨_,?_,rfl⟩
     rw[Sem.run_bind,Qyv]
     simp only[binOp]
     simp[Op.equal,Op.maxDepth,run_equalIn_bool' w 9999 t a b hd]
    ·exact h.elim
   ·exact h.elim
  ·rename_i a b hx hy
   split at h
   ·rename_i ti ht
    simp only[da,aE]at h
    obtain⟨⟨⟨⟨⟨CP,h0⟩,he⟩,fa⟩,fb⟩,h⟩:=h
    obtain⟨i0,rK,EI,_,Bi,Aj,_,heq,hc,d0,FQ⟩:=DE (hT.get ht)
    have h0:0<ti.size:=lE h0
    rw[heq]at he
    simp only[aE,Bool.not_eq_true']at he
    rw[hc]at fa fb
    have kp:P.cellsOf t=(lZ P 8 t).length:=by rw[<-hc,Bi];simp[Program.cellsOf,rK,EI]
    have uo:0<P.cellsOf t:=by simp[Program.cellsOf,rK,EI,h0]
    have P1:∀c w u v,Rep c w (ev x) u->Rep c w (ev y) v->∃us vs:Array Value,u=.agg us/\v=.agg vs/\(Op.equalIn 10000 t (.agg us) (.agg vs)).run P w=.ok (eqs a b) w:=by
     intro c w u v hu hv
     rw[hx]at hu;rw[hy]at hv
     obtain⟨us,hu,ru⟩:=hu
     obtain⟨vs,hv,rv⟩:=hv
     refine⟨us.toArray,vs.toArray,hu,hv,?_⟩
     have JH:=ZB (P:=P) 8 t 10000 (by omega) he.2 kp uo us.toArray vs.toArray 0 a b w fa fb (y7 ru fa) (y7 rv fb)
     have hlu:=ru.length;have hlv:=rv.length
     have hla:=sT fa;have Ny:=sT fb
     have ui:PW d0=true:=by rw[<-Mr FQ,<-Aj];exact CP
     simp only[oC,Sem.run_bind,UM FQ ui uo,Result.andThen_ok]at JH
     rw[show us.toArray.extract 0 (0+P.cellsOf t)=us.toArray from by apply fZ;simp;omega,show vs.toArray.extract 0 (0+P.cellsOf t)=vs.toArray from by apply fZ;simp;omega]at JH
     exact JH
    split at h
    ·refine⟨_,_,h,fin _ λc w u v hu hv=>?_⟩
     obtain⟨us,vs,rfl,rfl,hr⟩:=P1 c w u v hu hv
     refine⟨_,?_,rfl⟩
     rw[Sem.run_bind,run_eqGuard_agg w _ _ _ _ _ _ he.1,Result.andThen_ok,run_eql_struct,hr];rfl
    ·refine⟨_,_,h,fin _ λc w u v hu hv=>?_⟩
     obtain⟨us,vs,rfl,rfl,hr⟩:=P1 c w u v hu hv
     refine⟨_,?_,rfl⟩
     rw[Sem.run_bind,run_eqGuard_agg w _ _ _ _ _ _ he.1,Result.andThen_ok,run_neq_struct,hr];rfl
    ·exact h.elim
   ·exact h.elim
  ·exact h.elim
 case unOp op t x=>
  split at h
  ·rename_i k n hx
   refine⟨_,_,h,mW λc w a hm hA ep=>?_⟩
   have:=ep x (by simp[Op.operands])
   rw[hx]at this
   exact⟨_,by simp only[execOp,Rep.int.1 this,Op.unary,Op.intArith,Sem.run_bind,Sem.run_pure];rfl,rfl⟩
  ·rename_i k n hx
   refine⟨_,_,h,mW λc w a hm hA ep=>?_⟩
   have:=ep x (by simp[Op.operands])
   rw[hx]at this
   exact⟨_,by simp only[execOp,Rep.int.1 this,Op.unary,Op.intBits,Sem.run_bind,Sem.run_pure];rfl,rfl⟩
  ·rename_i b hx
   refine⟨_,_,h,mW λc w a hm hA ep=>?_⟩
   have:=ep x (by simp[Op.operands])
   rw[hx]at this
   exact⟨_,by simp only[execOp,Rep.bool.1 this,Op.unary,Sem.run_bind,Sem.run_pure];rfl,rfl⟩
  ·exact h.elim
 case convert s d x=>
  obtain⟨val,hK,hr⟩:=qaw hT h
  refine⟨_,_,hK,mW λc w a hm hA ep=>?_⟩
  obtain⟨u,hu,hx⟩:=hr c w _ (ep x (by simp[Op.operands]))
  exact⟨u,by simp only[execOp];rw[Sem.run_bind,hu];rfl,hx⟩
 case makeSlice t l cp=>
  split at h
  ·rename_i kl n kc m hl hc
   obtain⟨row,val,hK,hr⟩:=yv (kl:=kl) (kc:=kc) hT h
   refine⟨_,_,hK,UK λc w a hm hA ep=>⟨_,rfl,?_⟩⟩
   have h1:=ep l (by simp[Op.operands]);have h2:=ep cp (by simp[Op.operands])
   rw[hl]at h1;rw[hc]at h2
   rw[Rep.int.1 h1,Rep.int.1 h2]
   exact hr c w
  ·exact h.elim
 case slice t x lo hi mx=>
  cases mx with
  |some m=>simp only at h
  |none=>
   simp only at h
   obtain⟨val,hK,hr⟩:=yR hT h
   refine⟨_,_,hK,mW λc w a hm hA ep=>?_⟩
   obtain⟨u,hu,hx⟩:=hr c w _ a.eval hm hA (ep x (by simp[Op.operands])) (λy hy=>ep y (by simp[Op.operands,hy])) (λy hy=>ep y (by simp[Op.operands,hy]))
   exact⟨u,by simp only[execOp];rw[Sem.run_bind];simp only[Option.map_none];rw[hu];rfl,hx⟩
 case fieldAddr s x f=>
  split at h
  ·rename_i o q n hf
   simp only[da]at h
   obtain⟨h0,h⟩:=h
   have h0:0<n:=lE h0
   obtain⟨fs,fd,g1,g2,g3,g4,g5⟩:=Qz6 hT hf
   split at h
   ·rename_i r i off hx
    refine⟨_,_,h,mW λc w a hm hA ep=>?_⟩
    have:=ep x (by simp[Op.operands])
    rw[hx]at this
    obtain⟨row,k1,kV,k2,hv⟩:=this
    refine⟨_,by simp only[execOp,hv];rw[Sem.run_bind,Z3c g1 g2 (by simp only at g5;omega)];rfl,row,k1,kV,k2,by rw[g3,fY]⟩
   ·rename_i sz es i off hx
    refine⟨_,_,h,mW λc w a hm hA ep=>?_⟩
    have:=ep x (by simp[Op.operands])
    rw[hx]at this
    obtain⟨b,oo,arr,ty,fz,hv,hI,hi,hh,hE⟩:=this
    refine⟨_,by simp only[execOp,hv];rw[Sem.run_bind,Z3c g1 g2 (by simp only at g5;omega)];rfl,b,oo,arr,ty,fz,by rw[g3,fY],hI,hi,hh,hE⟩
   ·exact h.elim
  ·exact h.elim
 case field s x f=>
  split at h
  ·rename_i o q n hf
   obtain⟨fs,fd,g1,g2,g3,g4,g5⟩:=Qz6 hT hf
   simp only at g4 g5
   split at h
   ·rename_i cs ti hx ht
    simp only[da,aE]at h
    obtain⟨⟨h0,hle⟩,h⟩:=h
    have h0:0<n:=lE h0
    have hle:=lE hle
    obtain⟨_,_,_,_,_,Aj,_,_,_,d0,FQ⟩:=DE (hT.get ht)
    have run:∀(vs:List Value) (w:World) (r:Value),(part q vs.toArray o).run P w=.ok r w->(Instr.field s (.agg vs.toArray) f).run P w=.ok r w:=λvs w r hr=>by
     simp only[Instr.field,Sem.run_bind,run_underlying g1,Result.andThen_ok,g2,asAgg,Sem.run_pure,g4,g3,hr]
    split at h
    ·rename_i CP
     rw[D.fj]at h
     refine⟨_,_,h,mW λc w a hm hA ep=>?_⟩
     have:=ep x (by simp[Op.operands])
     rw[hx]at this
     obtain⟨vs,hv,hr⟩:=this
     have hp:=UM (P:=P) FQ (by rw[<-Mr FQ,<-Aj];exact CP) (by rw[<-g4,g5];exact h0) vs.toArray o w
     refine⟨_,by simp only[execOp,hv];rw[Sem.run_bind,run vs w _ hp];rfl,(vs.drop o).take n,?_,Zq4 hr o n⟩
     rw[<-g4,g5]
     congr 1
     simp[List.extract_toArray,List.extract_eq_take_drop]
    ·rename_i CP
     simp only[D.cg]at h
     obtain⟨mn,h⟩:=h
     refine⟨_,_,h,mW λc w a hm hA ep=>?_⟩
     have:=ep x (by simp[Op.operands])
     rw[hx]at this
     obtain⟨vs,hv,hr⟩:=this
     have hl:=hr.length
     have iV:vs[o]?=some vs[o]:=cG (by omega)
     have hp:=Hy (P:=P) (t:=q) FQ (by rw[<-Mr FQ,<-Aj];exact CP) (xs:=vs.toArray) (o:=o) (v:=vs[o]) (by rw[aY];exact iV) w
     refine⟨_,by simp only[execOp,hv];rw[Sem.run_bind,run vs w _ hp];rfl,?_⟩
     have hc:=(En.1 hr).2 o _ iV
     generalize cs.getD o .dead=d at*
     cases d<;>first|exact hc|trivial|exact hc.elim
   ·exact h.elim
  ·exact h.elim
 case indexAddr t x ix=>
  split at h
  ·rename_i k n hn
   obtain⟨val,hK,hr⟩:=Zpf (k:=k) hT h
   refine⟨_,_,hK,mW λc w a hm hA ep=>?_⟩
   have h2:=ep ix (by simp[Op.operands])
   rw[hn]at h2
   obtain⟨u,hu,hx⟩:=hr c w _ hm hA (ep x (by simp[Op.operands]))
   exact⟨u,by simp only[execOp,Rep.int.1 h2];rw[Sem.run_bind,hu];rfl,hx⟩
  ·exact h.elim
 case index t x ix=>
  split at h
  ·rename_i s k n ht hx hn
   have hd:=mU hT ht
   simp only at hd
   simp only[da,decide_eq_true_eq]at h
   obtain⟨⟨h1,h2⟩,h⟩:=h
   refine⟨_,_,h,mW λc w a hm hA ep=>?_⟩
   have e1:=ep x (by simp[Op.operands]);have e2:=ep ix (by simp[Op.operands])
   rw[hx]at e1;rw[hn]at e2
   refine⟨_,?_,rfl⟩
   have cf:n.toNat<s.length:=by omega
   have hg:(ByteArray.mk s.toArray)[n.toNat]?=some (s.getD n.toNat 0):=by
    have h3:n.toNat<(ByteArray.mk s.toArray).size:=by simpa[ByteArray.size]using cf
    rw[getElem?_pos (ByteArray.mk s.toArray) n.toNat h3]
    simp only[aK,cG cf,aG]
    rfl
   simp only[execOp,Rep.str.1 e1,Rep.int.1 e2,Instr.index,asIntOf,Sem.run_bind,Sem.run_pure,Result.andThen_ok,run_underlying hd,h1,if_true,hg]
  ·rename_i len e iL _ _ _ _ _ cs k n ht hx hn
   have hd:=mU hT ht
   simp only at hd
   obtain⟨hd,fw⟩:=hd
   simp only[da,aE,decide_eq_true_eq]at h
   obtain⟨⟨q1,q2,q3,q4⟩,h⟩:=h
   have q1:=bE q1
   have q2:=bE q2
   have run:∀(vs:List Value) (v:Value) (w:World) (d:TypeDesc),P.underlying e=some d->PW d=false->vs[n.toNat]?=some v->(Instr.index t (.agg vs.toArray) (.int k n)).run P w=.ok v w:=λvs v w d hu hda hv=>by
    have h0:0<P.cellsOf e:=by omega
    simp only[Instr.index,asIntOf,Sem.run_bind,Sem.run_pure,Result.andThen_ok,run_underlying hd,Sem.run_ite,q3,q4,and_self,if_true,Bu h0]
    rw[fw,q1,Nat.mul_one]
    exact Hy hu hda (by rw[aY];exact hv) w
   have cell:∀(c:Ctx) (w:World) (a:Act),Rep c w (.agg cs) (a.eval x)->∃vs:List Value,a.eval x=.agg vs.toArray/\∃v,vs[n.toNat]?=some v/\cu c w (cs.getD n.toNat .dead) v:=λc w a hr=>by
    obtain⟨vs,hv,hr⟩:=hr
    have hl:=hr.length
    have iV:vs[n.toNat]?=some vs[n.toNat]:=cG (by omega)
    exact⟨vs,hv,_,iV,(En.1 hr).2 _ _ iV⟩
   split at h
   ·rename_i kk _ _ _ _ _ he
    have hu:=mU hT he
    simp only at hu
    obtain⟨h1,h⟩:=h
    refine⟨_,_,h,mW λc w a hm hA ep=>?_⟩
    have e1:=ep x (by simp[Op.operands]);have e2:=ep ix (by simp[Op.operands])
    rw[hx]at e1;rw[hn]at e2
    obtain⟨vs,hv,v,g1,g2⟩:=cell c w a e1
    have hi:=UF h1 (n:=n.toNat) (by omega)
    rw[aX]at hi
    rw[D.j9 hi]at g2
    refine⟨v,?_,?_⟩
    ·simp only[execOp,Rep.int.1 e2,hv]
     rw[Sem.run_bind,run vs v w _ hu rfl g1];rfl
    ·rw[UD (show n.toNat<len by omega),aX]
     exact g2
   ·rename_i he
    have hu:=mU hT he
    simp only at hu
    obtain⟨h1,h⟩:=h
    refine⟨_,_,h,mW λc w a hm hA ep=>?_⟩
    have e1:=ep x (by simp[Op.operands]);have e2:=ep ix (by simp[Op.operands])
    rw[hx]at e1;rw[hn]at e2
    obtain⟨vs,hv,v,g1,g2⟩:=cell c w a e1
    have hi:=UG h1 (n:=n.toNat) (by omega)
    rw[aX]at hi
    rw[D.ka hi]at g2
    refine⟨v,?_,?_⟩
    ·simp only[execOp,Rep.int.1 e2,hv]
     rw[Sem.run_bind,run vs v w _ hu rfl g1];rfl
    ·rw[UE (show n.toNat<len by omega),aX]
     exact g2
   ·exact h.elim
  ·exact h.elim
 case extract x i=>
  split at h
  ·rename_i ds hx
   simp only[da,D.cg]at h
   obtain⟨hv,h⟩:=h
   refine⟨_,_,h,mW λc w a hm hA ep=>?_⟩
   have:=ep x (by simp[Op.operands])
   rw[hx]at this
   obtain⟨vs,BS,hr⟩:=this
   have cf:i<ds.length:=by
    by_cases hl:i<ds.length
    ·exact hl
    ·rw[aK,aM (by omega)]at hv;simp[D.isVal]at hv
   obtain⟨v,hvi,hvr⟩:=Zy hr i cf
   refine⟨v,?_,?_⟩
   ·simp only[execOp,BS,Instr.extract,aY,hvi];rfl
   ·generalize ds.getD i .dead=d at*
    cases d<;>first|exact hvr|trivial|exact hvr.elim
  ·exact h.elim
 case call cl=>
  obtain⟨callee,args,dc⟩:=cl
  cases callee<;>try(simp only at h)
  case builtin b=>
  cases b<;>try(simp only at h)
  case len=>
   split at h
   ·rename_i x t hx ht
    obtain⟨val,hK,hr⟩:=zaO (t':=type) hT h
    refine⟨_,_,hK,mW λc w a hm hA ep=>?_⟩
    have gb:args= #[x]:=by rw[<-bS (xs:=args),hx]
    have ud:dc= #[t]:=by rw[<-bS (xs:=dc),ht]
    subst gb;subst ud
    obtain⟨u,hu,hx⟩:=hr c w _ hm hA (ep x (by simp[Op.operands,Call.operands]))
    refine⟨u,?_,hx⟩
    simp only[execOp,resolve,Sem.run_bind,Sem.run_pure,Result.andThen_ok,invoke,builtin]
    have:(#[x]:Array Operand).map a.eval= #[a.eval x]:=by simp
    rw[this,hu];rfl
   ·exact h.elim
def Ctx.kill(c:Ctx)(ks:List Nat):Ctx:={c with R:=λr=>if bw r ks=true then none else(c.R r).map (Row.kill ks)}
structure jE(ks:List Nat)(c:Ctx)(w:World)(c':Ctx)(w':World):Prop where
 mem:Mem c' w'
 bz:jk (c.kill ks) w c' w'
 fr:Fr (λb=>∃r x,c.R r=some x/\¬c.V r/\c.ρ r=b) w w'
 fu:∀b,c'.I b->c.I b\/(∃s row,bw s ks=true/\c.R s=some row/\¬c.V s/\c.ρ s=b)\/w.heap.size<=b
 og:∀r ak,c'.R r=some ak->¬c'.V r->((∃row,c.R r=some row)/\¬c.V r/\c'.ρ r=c.ρ r)\/(∃s row,bw s ks=true/\c.R s=some row/\¬c.V s/\c'.ρ r=c.ρ s)\/w.heap.size<=c'.ρ r
def Q3(P:Program)(f:FuncId)(args:List D)(rows:List Row)(res:D)(aj:List Row):Prop:=
 ∀ (c:Ctx) (w:World) (vs:List Value),Mem c w->c.base=w.heap.size->(∀r,c.R r=rows[r]?)->kb c w args vs->
  Calls P f vs.toArray w λe w'=>∃v c',e=.returned v/\lN c w c' w'/\(∀r,c'.R r=aj[r]?)/\Rep c' w' res v
def Gw(P:Program)(I:ag)(f:FuncId)(vs:List Value)(w:World)(R:Ending->World->Prop):Prop:=
 (f<YB->Calls P f vs.toArray w R)/\
 (YB<=f->∀l rec xs us,vs=xs++us->I l->w.heap[l]?=some (.loop rec)->P2 f us rec->xs.length=1->
  RoundIn Fence.wide 0 P l rec.fn ((rec.params.zip xs.toArray).foldl (λtmps (t,a)=>tmps.setIfInBounds t a) rec.tmps) rec.assign rec.body w R)
theorem Gw.mono{P:Program}{I I':ag}{f:FuncId}{vs:List Value}{w:World}{R R':Ending->World->Prop}(h:Gw P I f vs w R)(hI:∀b,I' b->I b)(hR:∀e w',R e w'->R' e w'):Gw P I' f vs w R':=
 ⟨λhf=>(h.1 hf).mono hR,λhf l rec xs us h1 h2 h3 h4 h5=>(h.2 hf l rec xs us h1 (hI l h2) h3 h4 h5).mono hR⟩
theorem Gw.real{P:Program}{I:ag}{f:FuncId}{vs:List Value}{w:World}{R:Ending->World->Prop}(hf:f<YB)(h:Calls P f vs.toArray w R):Gw P I f vs w R:=⟨λ_=>h,λhg=>absurd hf (Nat.not_lt.2 hg)⟩
def sF(P:Program)(f:FuncId)(k:Nat)(args:List D)(rows:List Row)(res:D)(aj:List Row):Prop:=
 ∀ (c:Ctx) (w:World) (vs:List Value),Mem c w->c.base=0->(∀r,c.R r=rows[r]?)->kb c w args vs->
  Gw P c.I f vs w λe w'=>∃v c',e=.returned v/\jE (List.range' k (rows.length-k)) c w c' w'/\(∀r,c'.R r=aj[r]?)/\Rep c' w' res v
def kQ:D->Prop|.int _ _=>True|.bool _=>True|.str _=>True|.du=>True|.iK=>True|.emp=>True|_=>False
def CT.kQ:CT->Bool|.int _=>true|.bool=>true|.str=>true|_=>false
def RK.kQ(k:RK):Bool:=k.sig.all CT.kQ
def ao.FR:ao->Prop
 |.gen es=>∀e∈es,∀d∈e,kQ d
 |.av k _=>k.kQ=true
 |_=>True
theorem Z8t:∀{ts:List CT} {cs:List D} {j:Nat},ts.all CT.kQ=true->∀d∈u9 ts cs j,kQ d
 |[],_,_,_,d,h=>by simp[u9]at h
 |t ::ts,cs,j,ht,d,h=>by
  simp only[List.all_cons,aE]at ht
  simp only[u9,cS]at h
  rcases h with h|h
  ·subst h
   cases t<;>first|trivial|(simp[CT.kQ]at ht)
  ·exact Z8t ht.2 d h
theorem ao.CR{E:ao}(h:E.FR):∀e∈E.l,∀d∈e,kQ d:=by
 cases E with
 |gen es=>exact h
 |ints k l=>
  intro e he d hd
  simp only[ao.l,gA]at he
  obtain⟨n,_,rfl⟩:=he
  simp at hd
  subst hd;trivial
 |bo l=>
  intro e he d hd
  simp only[ao.l,gA]at he
  obtain⟨n,_,rfl⟩:=he
  simp at hd
  subst hd;trivial
 |av k l=>
  intro e he d hd
  simp only[ao.l,gA]at he
  obtain⟨x,_,rfl⟩:=he
  rw[<-RK.oc]at hd
  exact Z8t h d hd
def P3:D->Prop
 |.sl _ es fr=>(es.Nil\/fr=true)/\es.FR
 |.ir _ _ _ _=>False
 |.gn _ _=>False
 |_=>True
def Mv:List D->Prop
 |[]=>True
 |d::ds=>P3 d/\Mv ds
def UN:D->Prop
 |.agg cs=>Mv cs
 |d=>P3 d
def FT:List D->Prop
 |[]=>True
 |d::ds=>UN d/\FT ds
def FF:D->Prop
 |.dt ds=>FT ds
 |d=>UN d
def JI(row:Row):Prop:=if row.box then∀e∈row.es.l,Mv e else row.es.FR
def rC:List Row->Prop
 |[]=>True
 |r::l=>JI r/\rC l
structure bj(P:Program)(x:bc):Prop where
 enters:x.f<YB->∀args w,(callFunc x.f args).run P w=.ok (.enter x.f args) w
 real:x.gone=none->x.f<YB
 ok:x.gone=none->∀args rows res aj,x.m args rows=.ok res aj->Q3 P x.f args rows res aj/\(x.flat=true->FF res/\rC aj)
 when:x.gone=none->∀args rows p res aj,x.m args rows=.when p res aj->p->Q3 P x.f args rows res aj/\(x.flat=true->FF res/\rC aj)
 abs:x.gone=none->∀args rows α v res aj,x.m args rows=.abs α v res aj->Q3 P x.f args rows (res v) (aj v)/\(x.flat=true->FF (res v)/\rC (aj v))
 lM:x.gone=none->∀args rows p α v res aj,x.m args rows=.lM p α v res aj->p->Q3 P x.f args rows (res v) (aj v)/\(x.flat=true->FF (res v)/\rC (aj v))
 PS:∀k,x.gone=some k->∀args rows α v res aj,x.m args rows=.abs α v res aj->sF P x.f k args rows (res v) (aj v)
 Ht:∀k,x.gone=some k->∀args rows p α v res aj,x.m args rows=.lM p α v res aj->p->sF P x.f k args rows (res v) (aj v)
def jW(P:Program)(G:List bc):Prop:=∀x∈G,bj P x
theorem Gh{P:Program}:∀{G:List bc} {f:FuncId} {x:bc},jW P G->oO G f=some x->bj P x/\x.f=f
 |[],f,x,_,h=>by simp[oO]at h
 |y ::l,f,x,hG,h=>by
  simp only[oO]at h
  split at h
  ·rename_i hb
   simp at h;subst h
   exact⟨hG y (by simp),bE hb⟩
  ·exact Gh (λz hz=>hG z (by simp[hz])) h
theorem Znl:∀{rows:List Row} {i:Nat} {row:Row},rC rows->rows[i]?=some row->JI row
 |r::l,0,row,h,hi=>by simp at hi;subst hi;exact h.1
 |r::l,i+1,row,h,hi=>Znl h.2 (by simpa using hi)
 |[],i,row,_,hi=>by simp at hi
theorem oj{r:Nat}:∀{l:List Nat},bw r l=true↔r∈l
 |[]=>by simp[bw]
 |x ::l=>by
  simp only[bw]
  cases hb:Nat.beq x r with
  |true=>have:=bE hb;subst this;simp
  |false=>
   have gr:¬r=x:=λe=>by rw[e]at hb;simp at hb
   simp[oj (l:=l),gr]
theorem Ml:∀{l m:List Nat},pC l m=true↔ ∀r∈l,r∈m
 |[],m=>by simp[pC]
 |x::l,m=>by
  simp only[pC]
  cases hb:bw x m with
  |true=>simp[Ml (l:=l),oj.1 hb]
  |false=>simp[show¬x∈m fromλe=>by rw[oj.2 e]at hb;cases hb]
theorem Uo:∀{l m:List Nat},nN l m=true↔ ∀r∈l,¬r∈m
 |[],m=>by simp[nN]
 |x::l,m=>by
  simp only[nN]
  cases hb:bw x m with
  |true=>simp[oj.1 hb]
  |false=>simp[Uo (l:=l),show¬x∈m fromλe=>by rw[oj.2 e]at hb;cases hb]
theorem Mm:∀{l:List Nat},Ep l=true↔l.Nodup
 |[]=>by simp[Ep]
 |x::l=>by
  simp only[Ep,List.nodup_cons]
  cases hb:bw x l with
  |true=>simp[oj.1 hb]
  |false=>simp[Mm (l:=l),show¬x∈l fromλe=>by rw[oj.2 e]at hb;cases hb]
theorem Zlz{r:Nat}:∀{l:List Nat} {k:Nat},r∈l->∃j,pos r l k=k+j/\l[j]?=some r
 |x ::l,k,h=>by
  simp only[pos]
  cases hb:Nat.beq x r with
  |true=>exact⟨0,rfl,by simp[bE hb]⟩
  |false=>
   have gr:¬r=x:=λe=>by rw[e]at hb;simp at hb
   have hm:r∈l:=by simpa[gr]using h
   obtain⟨j,h1,h2⟩:=Zlz (k:=k+1) hm
   exact⟨j+1,by show pos r l (k+1)=_;rw[h1];omega,by simpa using h2⟩
theorem Br{r:Nat}{l:List Nat}(h:r∈l):l[pos r l 0]?=some r:=by
 obtain⟨j,h1,h2⟩:=Zlz (k:=0) h
 rw[h1,aX];exact h2
structure Em(S:Nat->Prop)(f:Nat->Nat)(cr:Bool)(c1 c2:Ctx):Prop where
 row:∀i row,S i->c1.R i=some row->∃ak,c2.R (f i)=some ak/\ak.box=row.box/\ak.ty=row.ty/\ak.sz=row.sz/\ak.es.l.length=row.es.l.length/\c2.ρ (f i)=c1.ρ i/\(c2.V (f i)↔c1.V i)
 base:cr=true->c2.base<=c1.base
 top:c1.top<=c2.top
theorem qR{I I':ag}{w:World}{d:D}{v:Value}(hs:kQ d)(h:fx I w d v):fx I' w d v:=by
 cases h<;>first|exact hs.elim|constructor
theorem Z9l{I I':ag}{w:World}:∀{cs:List D} {arr:Array Value} {off:Nat},(∀d∈cs,kQ d)->nP I w cs arr off->nP I' w cs arr off
 |[],_,_,_,_=>by simp[BK,Ak]
 |d::cs,arr,off,hs,h=>by
  simp only[BK,Ak]at h⊢
  obtain⟨⟨v,hv,hp⟩,hr⟩:=h
  exact⟨⟨v,hv,qR (hs d (by simp)) hp⟩,Z9l (λe he=>hs e (by simp[he])) hr⟩
theorem ZC{I I':ag}{w:World}:∀{es:List (List D)} {arr:Array Value} {off sz:Nat},(∀e∈es,∀d∈e,kQ d)->iI I w es arr off sz->iI I' w es arr off sz
 |[],_,_,_,_,_=>by simp[pM,oi]
 |e::es,arr,off,sz,hs,h=>by
  simp only[pM,oi]at h⊢
  exact⟨h.1,Z9l (hs e (by simp)) h.2.1,ZC (λf hf=>hs f (by simp[hf])) h.2.2⟩
theorem VRep.EL{c:Ctx}{w:World}{d:D}{v:Value}(h:cu c w d v):VRep c w d v:=by cases d<;>first|exact h|exact h.elim
theorem VRep.toC{c:Ctx}{w:World}{d:D}{v:Value}(hd:∀cs,d≠.agg cs)(h:VRep c w d v):cu c w d v:=by cases d<;>first|exact h|exact absurd rfl (hd _)
theorem Rep.Ky{c:Ctx}{w:World}{d:D}{v:Value}(h:VRep c w d v):Rep c w d v:=by cases d<;>first|exact h|exact h.elim|trivial
theorem Rep.toV{c:Ctx}{w:World}{d:D}{v:Value}(hd:∀ds,d≠.dt ds)(h0:d≠.dead)(h:Rep c w d v):VRep c w d v:=by cases d<;>first|exact h|exact absurd rfl (hd _)|exact absurd rfl h0
theorem Z3i{f:Nat->Nat}{cr:Bool}:∀{e:List D},(D.mC f cr e).length=e.length
 |[]=>rfl
 |d::l=>by simp[D.mC,Z3i (e:=l)]
section
variable {S:Nat->Prop} {f:Nat->Nat} {cr:Bool} {c1 c2:Ctx} {w:World} (hn:Em S f cr c1 c2) {flat:Prop} (hI:(∀b,c1.I b->c2.I b)\/(flat/\∀b,c1.I b->c1.base<=b->c2.I b))
include hn hI
theorem Zf3{d:D}{v:Value}(gr:∀f cs,d≠.gn f cs)(hS:∀r∈nM d,S r)(jS:flat->P3 d)(h:cu c1 w d v):cu c2 w (d.mz f cr) v:=by
 cases d with
 |sl sz es fr=>
  obtain⟨a,cap,hv,hc,ij⟩:=h
  refine⟨a,cap,hv,hc,?_⟩
  rcases ij with ij|⟨b,off,arr,ty,fz,ha,iz,hf,hh,hE⟩
  ·exact .inl ij
  ·have hb:(fr&&cr)=true->c2.base<=b:=λe=>by
    simp only[aE]at e
    exact Nat.le_trans (hn.base e.2) (hf e.1)
   rcases hI with hi|⟨FU,hi⟩
   ·exact .inr ⟨b,off,arr,ty,fz,ha,hi b iz,hb,hh,od (λb hb=>⟨hi b hb,rfl⟩) _ _ _ _ hE⟩
   ·obtain⟨h1,h2⟩:=jS FU
    rcases h1 with h1|h1
    ·exact .inl (ao.ot.1 h1)
    ·exact .inr ⟨b,off,arr,ty,fz,ha,hi b iz (hf h1),hb,hh,ZC (ao.CR h2) hE⟩
 |all r=>
  obtain⟨row,hr,hb,h⟩:=h
  obtain⟨ak,g1,g2,g3,g4,g5,g6,gV⟩:=hn.row r row (hS r (by simp[nM])) hr
  refine⟨ak,g1,g2.trans hb,?_⟩
  rcases h with⟨hV,hv⟩|⟨hV,cap,arr,hv,h1,h2,h3,h4⟩
  ·obtain⟨a,hv,ho⟩:=hv;exact .inl ⟨gV.2 hV,a,hv,ho.mono hn.top⟩
  ·exact .inr ⟨λe=>hV (gV.1 e),cap,arr,by rw[hv,g5,g6],by rw[g5];exact h1,h2,by rw[g6,g3];exact h3,by rw[g4];exact h4⟩
 |own r o n=>
  obtain⟨row,hr,hb,ho,h⟩:=h
  obtain⟨ak,g1,g2,g3,g4,g5,g6,gV⟩:=hn.row r row (hS r (by simp[nM])) hr
  refine⟨ak,g1,g2.trans hb,by rw[g5];exact ho,?_⟩
  rcases h with⟨h0,a,hv,je⟩|⟨hV,cap,arr,h1,h2,h3,h4,h5⟩
  ·exact .inl ⟨h0,a,hv,je.mono hn.top gV g6⟩
  ·exact .inr ⟨λe=>hV (gV.1 e),cap,arr,h1,h2,by rw[g6,g3];exact h3,by rw[g4,g6];exact h4,by rw[g4];exact h5⟩
 |ptr r i off=>
  obtain⟨row,hr,hV,hi,hv⟩:=h
  obtain⟨ak,g1,g2,g3,g4,g5,g6,gV⟩:=hn.row r row (hS r (by simp[nM])) hr
  exact⟨ak,g1,λe=>hV (gV.1 e),by rw[g5];exact hi,by rw[hv,g6,g4]⟩
 |pa r i off len k n=>
  obtain⟨cf,row,hr,hV,hi,hv⟩:=h
  obtain⟨ak,g1,g2,g3,g4,g5,g6,gV⟩:=hn.row r row (hS r (by simp[nM])) hr
  exact⟨cf,ak,g1,λe=>hV (gV.1 e),by rw[g5];exact hi,by rw[hv,g6,g4]⟩
 |ir sz es i off=>
  obtain⟨b,o,arr,ty,fz,hv,iz,iy,hh,hE⟩:=h
  rcases hI with hi|⟨FU,hi⟩
  ·exact⟨b,o,arr,ty,fz,hv,hi b iz,iy,hh,od (λb hb=>⟨hi b hb,rfl⟩) _ _ _ _ hE⟩
  ·exact(jS FU).elim
 |c8 r=>
  rcases h with h|⟨row,hr,hV,hi,hv⟩
  ·exact .inl h
  ·obtain⟨ak,g1,g2,g3,g4,g5,g6,gV⟩:=hn.row r row (hS r (by simp[nM])) hr
   exact .inr ⟨ak,g1,λe=>hV (gV.1 e),by rw[g5];exact hi,by rw[hv,g6,g4]⟩
 |gn f cs=>exact absurd rfl (gr f cs)
 |emp=>obtain⟨a,hv,ho⟩:=h;exact⟨a,hv,ho.mono hn.top⟩
 |_=>exact h
theorem ZD{d:D}{v:Value}(hS:∀r∈nM d,S r)(jS:flat->P3 d)(h:cu c1 w d v):cu c2 w (d.mz f cr) v:=by
 by_cases e:∃g cs,d=.gn g cs
 ·obtain⟨g,cs,rfl⟩:=e
  obtain⟨us,hv,hu⟩:=h
  have hi:∀b,c1.I b->c2.I b/\w.heap[b]?=w.heap[b]? :=by
   rcases hI with hi|⟨FU,_⟩
   ·exactλb hb=>⟨hi b hb,rfl⟩
   ·exact(jS FU).elim
  exact⟨us,Mq hi hv,Zr (Fk:=λ_=>True) (λd v h1 h2 h3=>Zf3 hn (flat:=False) (.inl λb hb=>(hi b hb).1) h1 h2 (λe=>e.elim) h3) (λ_ _ _ _=>Mq hi) (λ_ _ _=>trivial) hS hu⟩
 ·exact Zf3 hn hI (λf cs e'=>e ⟨f,cs,e'⟩) hS jS h
theorem Zml:∀{ds:List D} {vs:List Value},(∀r∈pU ds,S r)->(flat->Mv ds)->jm c1 w ds vs->jm c2 w (D.mC f cr ds) vs
 |[],[],_,_,_=>trivial
 |d::ds,v::vs,hS,jS,h=>⟨ZD hn hI (λr hr=>hS r (by simp[pU,hr])) (λe=>(jS e).1) h.1,Zml (λr hr=>hS r (by simp[pU,hr])) (λe=>(jS e).2) h.2⟩
 |[],_::_,_,_,h=>h.elim
 |_::_,[],_,_,h=>h.elim
theorem P4{d:D}{v:Value}(hS:∀r∈FM d,S r)(jS:flat->UN d)(h:VRep c1 w d v):VRep c2 w (d.jg f cr) v:=by
 cases d with
 |agg cs=>obtain⟨vs,hv,hr⟩:=h;exact⟨vs,hv,Zml hn hI hS jS hr⟩
 |dt ds=>exact h.elim
 |_=>
  refine VRep.EL (ZD hn hI ?_ ?_ (VRep.toC ?_ h))
  ·exact hS
  ·exact jS
  ·intro cs e;cases e
theorem Zmd:∀{ds:List D} {vs:List Value},(∀d∈ds,∀r∈FM d,S r)->(flat->FT ds)->kb c1 w ds vs->kb c2 w (D.AW f cr ds) vs
 |[],[],_,_,_=>trivial
 |d::ds,v::vs,hS,jS,h=>⟨P4 hn hI (hS d (by simp)) (λe=>(jS e).1) h.1,Zmd (λd hd=>hS d (by simp[hd])) (λe=>(jS e).2) h.2⟩
 |[],_::_,_,_,h=>h.elim
 |_::_,[],_,_,h=>h.elim
theorem Y2{d:D}{v:Value}(hS:∀r,S r)(jS:flat->FF d)(h:Rep c1 w d v):Rep c2 w (d.sU f cr) v:=by
 cases d with
 |dt ds=>obtain⟨vs,hv,hr⟩:=h;exact⟨vs,hv,Zmd hn hI (λ_ _ r _=>hS r) jS hr⟩
 |agg cs=>exact P4 hn hI (d:=.agg cs) (λr _=>hS r) jS h
 |dead=>trivial
 |_=>
  have h':=Rep.toV (λds e=>by cases e) (λe=>by cases e) h
  have h2:=P4 hn hI (λr _=>hS r) (λe=>by have:=jS e;exact this) h'
  exact Rep.Ky h2
theorem UO:∀{ds:List D} {arr:Array Value} {off:Nat},(∀r∈pU ds,S r)->(flat->Mv ds)->kJ c1 w ds arr off->kJ c2 w (D.mC f cr ds) arr off
 |[],_,_,_,_,_=>trivial
 |d::ds,arr,off,hS,jS,⟨⟨v,hv,h1⟩,h2⟩=>⟨⟨v,hv,ZD hn hI (λr hr=>hS r (by simp[pU,hr])) (λe=>(jS e).1) h1⟩,UO (λr hr=>hS r (by simp[pU,hr])) (λe=>(jS e).2) h2⟩
theorem Y0{i j:Nat}{row:Row}(PX:c2.ρ j=c1.ρ i)(hV:c2.V j↔c1.V i)(hS:row.box=true->∀e,row.es=.gen [e]->∀r∈pU e,S r)(jS:flat->JI row)(h:EN c1 w i row):EN c2 w j (row.jg f cr):=by
 have sh:(row.jg f cr).box=row.box/\(row.jg f cr).ty=row.ty/\(row.jg f cr).sz=row.sz:=by
  unfold Row.jg;split<;>exact⟨rfl,rfl,rfl⟩
 rcases h with⟨h0,h1,h2,h3⟩|⟨h0,arr,ha,hs,hx⟩
 ·refine .inl ⟨hV.2 h0,?_⟩
  unfold Row.jg
  split
  ·simp at h1
  ·exact⟨h1,h2,h3⟩
 ·refine .inr ⟨λe=>h0 (hV.1 e),arr,by rw[PX,sh.2.1];exact ha,by rw[sh.2.2];exact hs,?_⟩
  rw[sh.1,sh.2.2]
  split
  ·rename_i hb
   simp only[hb,if_true]at hx
   obtain⟨e,k1,k2,k3,k4⟩:=hx
   obtain⟨box,ty,sz,es⟩:=row
   simp only at hb k1 k2 k3 k4
   subst hb;subst k1
   refine⟨D.mC f cr e,rfl,?_,k3,UO hn hI (hS rfl e rfl) (λe'=>?_) k4⟩
   ·rw[Z3i];exact k2
   ·have:=jS e'
    simp only[JI,if_true]at this
    exact this e (by simp[ao.l])
  ·rename_i hb
   simp only[hb,aN,if_false]at hx
   have he:(row.jg f cr).es=row.es:=by
    unfold Row.jg
    split
    ·simp at hb
    ·rfl
   rw[he]
   rcases hI with hi|⟨FU,hi⟩
   ·exact od (λb hb=>⟨hi b hb,rfl⟩) _ _ _ _ hx
   ·have:=jS FU
    simp only[JI,hb,aN,if_false]at this
    exact ZC (ao.CR this) hx
end
def Ctx.pass(c:Ctx)(w:World)(ids:List Nat)(rows:List Row)(len:Bool):Ctx:=
 { ρ:=λi=>match ids[i]? with|some r=>c.ρ r|none=>0,R:=λi=>rows[i]?,V:=λi=>match ids[i]? with|some r=>c.V r|none=>False,
   I:=λb=>c.I b\/(len=true/\ ∃r row,c.R r=some row/\ ¬c.V r/\row.box=false/\r∉ids/\c.ρ r=b),base:=w.heap.size,top:=c.top,X:=λ_=>False}
section
variable {c:Ctx} {w:World} {R:Rows} {ids:List Nat} {dz:List Row} {len:Bool}
theorem Zmw(hm:Mem c w)(hA:mH c R){d d':D}{v:Value}(h:FL R d=some d')(hl:nM d≠[]->len=true)(hd:∀r∈nM d,r∉ids)(hr:cu c w d v):cu (c.pass w ids dz len) w d' v:=by
 have nF:∀b,c.I b->(c.pass w ids dz len).I b/\w.heap[b]?=w.heap[b]? :=λb hb=>⟨.inl hb,rfl⟩
 cases d<;>simp only[FL]at h<;>try(cases h;done)
 case bool b=>cases h;exact hr
 case int k n=>cases h;exact hr
 case str s=>cases h;exact hr
 case iK=>cases h;exact hr
 case jI=>cases h;exact hr
 case du=>cases h;exact⟨none,0,hr,aO _,.inl rfl⟩
 case emp=>cases h;obtain⟨a,hv,_⟩:=hr;exact⟨a,0,hv,aO _,.inl rfl⟩
 case sl sz es fr=>
  cases h
  obtain⟨a,cap,hv,hc,ij⟩:=hr
  refine⟨a,cap,hv,hc,?_⟩
  rcases ij with ij|⟨b,off,arr,ty,fz,ha,hI,hf,hh,hE⟩
  ·exact .inl ij
  ·exact .inr ⟨b,off,arr,ty,fz,ha,.inl hI,by simp,hh,od nF _ _ _ _ hE⟩
 case all r=>
  split at h
  ·rename_i row hR
   split at h
   ·rename_i hb
    cases h
    obtain⟨ak,g1,g2,hv⟩:=hr
    have:=hA r ak _ g1 hR
    subst this
    rcases hv with⟨hV,a,hv,_⟩|⟨hV,cap,arr,hv,g3,g4,g5,g6⟩
    ·have he:=(hm.oe g1 hV).2.1
     exact⟨a,0,by rw[he];exact hv,by rw[he];exact aO _,.inl he⟩
    refine⟨_,cap,hv,g3,?_⟩
    obtain⟨iM,jB,hs,hx⟩:=hm.real g1 hV
    rw[g5]at jB;cases jB
    simp only[hb,aN,if_false]at hx
    exact .inr ⟨_,0,arr,_,_,rfl,.inr ⟨hl (by simp[nM]),r,_,g1,hV,hb,hd r (by simp[nM]),rfl⟩,by simp,g5,od nF _ _ _ _ hx⟩
   ·cases h
  ·cases h
 case own r o n=>
  split at h
  ·rename_i row hR
   split at h
   ·rename_i hb
    cases h
    obtain⟨ak,g1,g2,g5,hv⟩:=hr
    have:=hA r ak _ g1 hR
    subst this
    have hlen:((ak.es.drop o).take n).l.length=n:=by rw[ao.iY,ao.kh];simp only[List.length_take,List.length_drop];omega
    rcases hv with⟨g7,a,hv,_⟩|⟨hV,cap,arr,g3,g4,g6,hv,g7⟩
    ·subst g7
     exact⟨a,0,by rw[hlen];exact hv,by omega,.inl (by rw[ao.iY];simp)⟩
    obtain⟨iM,jB,hs,hx⟩:=hm.real g1 hV
    rw[g6]at jB;cases jB
    simp only[hb,aN,if_false]at hx
    refine⟨_,cap,by rw[hlen];exact hv,by omega,.inr ⟨_,o*ak.sz,arr,_,_,rfl,.inr ⟨hl (by simp[nM]),r,_,g1,hV,hb,hd r (by simp[nM]),rfl⟩,by simp,g6,od nF _ _ _ _ ?_⟩⟩
    have:=Mh (n:=n) (Ku (l:=o) hx)
    rw[ao.iY,ao.kh]
    simpa using this
   ·cases h
  ·cases h
theorem Zmb(hm:Mem c w)(hA:mH c R):∀{ds om:List D} {vs:List Value},JD R ds=some om->(pU ds≠[]->len=true)->(∀r∈pU ds,r∉ids)->jm c w ds vs->jm (c.pass w ids dz len) w om vs
 |[],om,[],h,_,_,_=>by simp[JD]at h;subst h;trivial
 |[],_,_::_,_,_,_,hr=>hr.elim
 |_::_,_,[],_,_,_,hr=>hr.elim
 |d ::ds,om,v::vs,h,hl,hd,hr=>by
  simp only[JD]at h
  split at h
  ·rename_i x xs h1 h2
   cases h
   exact⟨Zmw hm hA h1 (λe=>hl (by simp[pU,e])) (λr e=>hd r (by simp[pU,e])) hr.1,Zmb hm hA h2 (λe=>hl (by simp[pU,e])) (λr e=>hd r (by simp[pU,e])) hr.2⟩
  ·cases h
theorem Zn5(hm:Mem c w)(hA:mH c R){d d':D}{v:Value}(h:conv R d=some d')(hl:FM d≠[]->len=true)(hd:∀r∈FM d,r∉ids)(hr:Rep c w d v):VRep (c.pass w ids dz len) w d' v:=by
 cases d with
 |agg cs=>
  simp only[conv,Option.map_eq_some_iff]at h
  obtain⟨rO,h1,rfl⟩:=h
  obtain⟨vs,hv,hx⟩:=hr
  exact⟨vs,hv,Zmb hm hA h1 hl hd hx⟩
 |dt ds=>simp[conv,FL]at h
 |dead=>simp[conv,FL]at h
 |_=>
  simp only[conv]at h
  simp only[Rep,VRep]at hr
  exact VRep.EL (Zmw hm hA h hl hd hr)
theorem FK{f:Nat->Nat}:∀{ids:List Nat} {rows:List Row},Bq R f ids=some rows->rows.length=ids.length/\∀(i r:Nat),ids[i]?=some r->∃row,R.getD r none=some row/\rows[i]?=some (row.jg f false)
 |[],rows,h=>by simp[Bq]at h;subst h;exact⟨rfl,λi r h=>by simp at h⟩
 |r ::l,rows,h=>by
  simp only[Bq]at h
  split at h
  ·rename_i row rs h1 h2
   cases h
   obtain⟨g1,g2⟩:=FK h2
   refine⟨by simp[g1],λi q hq=>?_⟩
   cases i with
   |zero=>simp at hq;subst hq;exact⟨row,h1,rfl⟩
   |succ i=>exact g2 i q (by simpa using hq)
  ·cases h
theorem JB(f:Nat->Nat)(cr:Bool)(row:Row):(row.jg f cr).box=row.box/\(row.jg f cr).ty=row.ty/\(row.jg f cr).sz=row.sz/\(row.jg f cr).es.l.length=row.es.l.length:=by
 unfold Row.jg;split<;>exact⟨rfl,rfl,rfl,rfl⟩
theorem Z4u{r:Nat}:∀{l:List Nat},r∈CL R l↔ ∃q∈l,∃ty sz e,R.getD q none=some ⟨true,ty,sz,.gen [e]⟩/\r∈pU e
 |[]=>by simp[CL]
 |q ::l=>by
  simp only[CL,List.mem_append,Z4u (l:=l),cS]
  constructor
  ·rintro(h|⟨q',h1,h2⟩)
   ·split at h
    ·rename_i ty sz e he
     exact⟨q,.inl rfl,ty,sz,e,he,h⟩
    ·simp at h
   ·exact⟨q',.inr h1,h2⟩
  ·rintro⟨q',h1|h1,ty,sz,e,h2,h3⟩
   ·subst h1
    left
    rw[h2];exact h3
   ·exact .inr ⟨q',h1,ty,sz,e,h2,h3⟩
theorem Uu(hR:∀r row,r∈ids->R.getD r none=some row->c.R r=some row)(cv:Bq R (λr=>pos r ids 0) ids=some dz):Em (λr=>r∈ids) (λr=>pos r ids 0) false c (c.pass w ids dz len):=by
 obtain⟨hl,hg⟩:=FK cv
 refine⟨λr row hr cb=>?_,(λh=>by cases h),aO _⟩
 have hp:=Br hr
 obtain⟨j5,h1,h2⟩:=hg _ r hp
 have:row=j5:=by have:=hR r j5 hr h1;rw[cb]at this;exact Option.some.inj this
 subst this
 obtain⟨s1,s2,s3,s4⟩:=JB (λr=>pos r ids 0) false row
 exact⟨_,h2,s1,s2,s3,s4,by simp[Ctx.pass,hp],by simp[Ctx.pass,hp]⟩
theorem Y1(hm:Mem c w)(hR:∀r row,r∈ids->R.getD r none=some row->c.R r=some row)(kZ:ids.Nodup)(gm:∀r∈CL R ids,r∈ids)(cv:Bq R (λr=>pos r ids 0) ids=some dz):Mem (c.pass w ids dz len) w:=by
 have hn:=Uu (len:=len) (w:=w) hR cv
 obtain⟨hl,hg⟩:=FK cv
 have inv:∀i x,(c.pass w ids dz len).R i=some x->∃r row,ids[i]?=some r/\c.R r=some row/\R.getD r none=some row/\x=row.jg (λr=>pos r ids 0) false/\(c.pass w ids dz len).ρ i=c.ρ r/\((c.pass w ids dz len).V i↔c.V r):=by
  intro i x hx
  have jD:dz[i]?=some x:=hx
  have cf:=(List.getElem?_eq_some_iff.1 jD).1
  have hi:ids[i]?=some ids[i]:=cG (by omega)
  obtain⟨row,h1,h2⟩:=hg i _ hi
  rw[jD]at h2
  exact⟨_,row,hi,hR _ row (fW hi) h1,h1,Option.some.inj h2,by simp[Ctx.pass,hi],by simp[Ctx.pass,hi]⟩
 refine⟨λi x hx=>?_,λi j x y hx hy v1 v2 he=>?_,λb hb=>?_,hm.top,hm.kM.mono λb hb=>⟨.inl hb,rfl⟩⟩
 ·obtain⟨r,row,g1,g2,g3,rfl,g5,g6⟩:=inv i x hx
  refine Y0 hn (flat:=False) (.inl λb hb=>.inl hb) g5 g6 (λpk e he q hq=>?_) (λe=>e.elim) (hm.row r row g2)
  obtain⟨box,ty,sz,es⟩:=row
  simp only at pk he
  subst pk
  have h1:∃e0,es=.gen [e0]:=by
   rcases hm.row r _ g2 with⟨_,hh,_⟩|⟨_,arr,_,_,hx⟩
   ·cases hh
   ·simp only[if_true]at hx;obtain⟨e0,h,_⟩:=hx;exact⟨e0,h⟩
  obtain⟨e0,rfl⟩:=h1
  cases he
  exact gm q (Z4u.2 ⟨r,fW g1,ty,sz,e,g3,hq⟩)
 ·obtain⟨r,row,g1,g2,g3,_,g5,g6⟩:=inv i x hx
  obtain⟨s,ak,k1,k2,k3,_,k5,k6⟩:=inv j y hy
  rw[g5,k5]at he
  have:r=s:=hm.inj r s _ _ g2 k2 (λe=>v1 (g6.2 e)) (λe=>v2 (k6.2 e)) he
  subst this
  exact(List.getElem?_inj (List.getElem?_eq_some_iff.1 g1).1 kZ).1 (g1.trans k1.symm)
 ·rcases hb with hb|⟨_,r,row,hr,hV,wS,ID,rfl⟩
  ·refine⟨(hm.fu b hb).1,λi x hx v=>?_⟩
   obtain⟨r,row,g1,g2,g3,_,g5,g6⟩:=inv i x hx
   rw[g5];exact(hm.fu b hb).2 r row g2 (λe=>v (g6.2 e))
  ·refine⟨hm.lt hr hV,λi x hx v=>?_⟩
   obtain⟨s,ak,g1,g2,g3,_,g5,g6⟩:=inv i x hx
   rw[g5]
   intro e
   have:=hm.inj s r _ _ g2 hr (λe=>v (g6.2 e)) hV e
   subst this
   exact ID (fW g1)
theorem Mn(hm:Mem c w)(hA:mH c R)(hn:Em (λr=>r∈ids) (λr=>pos r ids 0) false c (c.pass w ids dz len)){ρ:Operand->Value}{ev:Operand->D}:
 ∀{bs:List Bool} {xs:List Operand} {om:List D},sQ R (λr=>pos r ids 0) bs (xs.map ev)=some om->(lL bs (xs.map ev)≠[]->len=true)->(∀r∈lL bs (xs.map ev),r∉ids)->(∀r∈CS bs (xs.map ev),r∈ids)->(∀x∈xs,Rep c w (ev x) (ρ x))->kb (c.pass w ids dz len) w om (xs.map ρ)
 |bs,[],om,h,_,_,_,_=>by cases bs<;>(try(rename_i b bs;cases b))<;>(simp[sQ]at h;subst h;trivial)
 |true::bs,x::xs,om,h,hl,hd,hi,hr=>by
  simp only[fR,sQ]at h
  simp only[fR,lL,CS]at hl hd hi
  split at h
  ·rename_i ys hv h2
   cases h
   have hx:VRep c w (ev x) (ρ x):=Rep.toV (λds e=>by rw[e]at hv;simp[D.isVal]at hv) (λe=>by rw[e]at hv;simp[D.isVal]at hv) (hr x (by simp))
   exact⟨P4 hn (flat:=False) (.inl λb hb=>.inl hb) (λr e=>hi r (by simp[e])) (λe=>e.elim) hx,Mn hm hA hn h2 hl hd (λr e=>hi r (by simp[e])) λy hy=>hr y (by simp[hy])⟩
  ·cases h
 |false::bs,x::xs,om,h,hl,hd,hi,hr=>by
  simp only[fR,sQ]at h
  simp only[fR,lL,CS]at hl hd hi
  split at h
  ·rename_i y ys h1 h2
   cases h
   exact⟨Zn5 hm hA h1 (λe=>hl (by simp[e])) (λr e=>hd r (by simp[e])) (hr x (by simp)),Mn hm hA hn h2 (λe=>hl (by simp[e])) (λr e=>hd r (by simp[e])) hi λy hy=>hr y (by simp[hy])⟩
  ·cases h
 |[],x::xs,om,h,hl,hd,hi,hr=>by
  simp only[fR,sQ]at h
  simp only[fR,lL,CS]at hl hd hi
  split at h
  ·rename_i y ys h1 h2
   cases h
   refine⟨Zn5 hm hA h1 (λe=>hl (by simp[e])) (λr e=>hd r (by simp[e])) (hr x (by simp)),Mn hm hA hn h2 (λe=>hl (by simp[e])) (λr e=>hd r (by simp[e])) (λr e=>?_) λy hy=>hr y (by simp[hy])⟩
   cases xs<;>simp[CS]at e
  ·cases h
end
theorem UP{f:Nat->Nat}:∀{ids:List Nat} {rows:List Row} {R:Rows},ids.Nodup->ids.length<=rows.length->(∀r∈ids,r<R.length)->
 (tL f ids rows R).length=R.length/\(∀(i r:Nat),ids[i]?=some r->∃row,rows[i]?=some row/\(tL f ids rows R).getD r none=some (row.jg f true))/\∀r,r∉ids->(tL f ids rows R).getD r none=R.getD r none
 |[],rows,R,_,_,_=>by
  have:tL f [] rows R=R:=by cases rows<;>rfl
  rw[this]
  exact⟨rfl,λi r h=>by simp at h,λ_ _=>rfl⟩
 |r::ids,[],R,_,hl,_=>by simp at hl
 |r ::ids,row::rows,R,kZ,hl,cf=>by
  obtain⟨ID,JA⟩:=List.nodup_cons.1 kZ
  obtain⟨g1,g2,g3⟩:=UP (f:=f) (ids:=ids) (rows:=rows) (R:=R.set r (some (row.jg f true))) JA (by simpa using hl) (λq hq=>by simpa using cf q (by simp[hq]))
  have hr:=cf r (by simp)
  have YW:(R.set r (some (row.jg f true))).getD r none=some (row.jg f true):=by simp[aK,hr]
  have gr:∀q,q≠r->(R.set r (some (row.jg f true))).getD q none=R.getD q none:=λq hq=>by simp[aK,List.getElem?_set_ne (Ne.symm hq)]
  simp only[tL]
  refine⟨by simpa using g1,λi q hq=>?_,λq hq=>?_⟩
  ·cases i with
   |zero=>
    simp at hq;subst hq
    exact⟨row,rfl,by rw[g3 _ ID];exact YW⟩
   |succ i=>simpa using g2 i q (by simpa using hq)
  ·have h1:q≠r:=λe=>hq (by simp[e])
   rw[g3 q (λe=>hq (by simp[e])),gr q h1]
def Ctx.behind(c:Ctx)(w:World)(c':Ctx)(ids:List Nat)(n0:Nat)(R2:Rows):Ctx:=
 { ρ:=λr=>if n0<=r/\r<R2.length then c'.ρ (ids.length+(r-n0)) else c.ρ r,
   R:=λr=>if r∈ids\/(n0<=r/\r<R2.length) then R2.getD r none else c.R r,
   V:=λr=>if n0<=r/\r<R2.length then c'.V (ids.length+(r-n0)) else c.V r,
   I:=λb=>c.I b\/(c'.I b/\w.heap.size<=b),base:=c.base,top:=c'.top,X:=c.X}
theorem Zjc{f:Nat->Nat}{rows:List Row}{i:Nat}:(Bv f rows)[i]?=rows[i]?.map λrow=>some (row.jg f true):=by simp[Bv]
theorem ZE{c c':Ctx}{w w':World}{R:Rows}{ids:List Nat}{dz aj:List Row}{len:Bool}(hm:Mem c w)(hb:c.base<=w.heap.size)(nU:∀r row,r∈ids->R.getD r none=some row->c.R r=some row)(fh:∀r,R.length<=r->r<R.length+(aj.length-ids.length)->c.R r=none)
 (kZ:ids.Nodup) (cv:Bq R (λr=>pos r ids 0) ids=some dz) (hle:ids.length<=aj.length) (hx:lN (c.pass w ids dz len) w c' w') (jY:∀i,c'.R i=aj[i]?)
 (hI:len=true->rC aj) {R2:Rows} (uE:R2=tL (bk ids R.length) ids aj R++Bv (bk ids R.length) (aj.drop ids.length)):
 (Em (λ_=>True) (bk ids R.length) true c' (c.behind w c' ids R.length R2))/\((∀b,c'.I b->(c.behind w c' ids R.length R2).I b)\/(len=true/\∀b,c'.I b->c'.base<=b->(c.behind w c' ids R.length R2).I b))/\
 Mem (c.behind w c' ids R.length R2) w'/\jk c w (c.behind w c' ids R.length R2) w'/\Fr (λb=>∃r x,c.R r=some x/\¬c.V r/\r∈ids/\c.ρ r=b) w w'/\
 (∀b,(c.behind w c' ids R.length R2).I b->c.I b\/w.heap.size<=b)/\
 (∀r,R.length<=r->r<R2.length->¬(c.behind w c' ids R.length R2).V r->w.heap.size<=(c.behind w c' ids R.length R2).ρ r):=by
 obtain⟨gm,AQ⟩:=FK cv
 have cf:∀r∈ids,r<R.length:=λr hr=>by
  obtain⟨row,h1,_⟩:=AQ _ r (Br hr)
  by_cases hl:r<R.length
  ·exact hl
  ·rw[aK,aM (by omega)]at h1;cases h1
 obtain⟨k1,k2,k3⟩:=UP (f:=bk ids R.length) kZ hle cf
 have wc:R2.length=R.length+(aj.length-ids.length):=by rw[uE];simp[k1,Bv]
 have PR:∀r,r<R.length->R2.getD r none=(tL (bk ids R.length) ids aj R).getD r none:=λr hr=>by
  rw[uE,aK,aK,aZ (by omega)]
 have YZ:∀i,ids.length<=i->i<aj.length->R2.getD (R.length+(i-ids.length)) none=aj[i]?.map λrow=>row.jg (bk ids R.length) true:=λi h1 h2=>by
  rw[uE,aK,List.getElem?_append_right (by omega),Zjc,k1,show R.length+(i-ids.length)-R.length=i-ids.length by omega,fT,show ids.length+(i-ids.length)=i by omega]
  rw[cG h2];rfl
 have jj:c'.base=w.heap.size:=hx.bz.base
 have jz:∀i r ak,ids[i]?=some r->c'.R i=some ak->∃row,c.R r=some row/\ak.box=row.box/\ak.ty=row.ty/\ak.sz=row.sz/\ak.es.l.length=row.es.l.length/\c'.ρ i=c.ρ r/\(c'.V i↔c.V r)/\r<R.length/\R2.getD r none=some (ak.jg (bk ids R.length) true)/\bk ids R.length i=r/\
  (¬c.V r->∀arr,w.heap[c.ρ r]?=some (.cells arr row.ty (0,0))->∃iM,w'.heap[c.ρ r]?=some (.cells iM row.ty (0,0))/\iM.size=arr.size):=by
  intro i r ak hi jl
  obtain⟨row,h1,h2⟩:=AQ i r hi
  have kC:=fW hi
  have h3:=nU r row kC h1
  obtain⟨ov,g1,g2,g3,g4,g5,g6,gV,g7⟩:=hx.bz.R i _ (show(c.pass w ids dz len).R i=some _ from h2)
  rw[jl]at g1;cases g1
  obtain⟨s1,s2,s3,s4⟩:=JB (λr=>pos r ids 0) false row
  obtain⟨kW,q1,q2⟩:=k2 i r hi
  rw[jY,q1]at jl;cases jl
  refine⟨row,h3,g2.trans s1,g3.trans s2,g4.trans s3,g5.trans s4,by simpa[Ctx.pass,hi]using g6,by simpa[Ctx.pass,hi]using gV,cf r kC,by rw[PR r (cf r kC)];exact q2,by simp[bk,hi],λnv arr ha=>?_⟩
  have:=g7 (by simpa[Ctx.pass,hi]using nv) arr (by simpa[Ctx.pass,hi,s2]using ha)
  simpa[Ctx.pass,hi,s2]using this
 have fresh:∀i ak,ids.length<=i->c'.R i=some ak->i<aj.length/\R2.getD (R.length+(i-ids.length)) none=some (ak.jg (bk ids R.length) true)/\bk ids R.length i=R.length+(i-ids.length)/\(¬c'.V i->w.heap.size<=c'.ρ i):=by
  intro i ak hi jl
  have h1:aj[i]?=some ak:=by rw[<-jY];exact jl
  have h2:=(List.getElem?_eq_some_iff.1 h1).1
  refine⟨h2,by rw[YZ i hi h2,h1];rfl,by simp[bk,aM hi],λnv=>?_⟩
  rcases hx.og i ak jl nv with⟨⟨x,nJ⟩,_⟩|h3
  ·have:dz[i]?=some x:=nJ
   rw[aM (by omega)]at this;cases this
  ·exact h3
 have CJ:Em (λ_=>True) (bk ids R.length) true c' (c.behind w c' ids R.length R2):=by
  refine⟨λi ak _ jl=>?_,λ_=>by rw[jj];exact hb,aO _⟩
  obtain⟨s1,s2,s3,s4⟩:=JB (bk ids R.length) true ak
  by_cases hi:i<ids.length
  ·have iy:ids[i]?=some ids[i]:=cG hi
   obtain⟨row,g1,g2,g3,g4,g5,g6,g7,g8,g9,g10,_⟩:=jz i _ ak iy jl
   rw[g10]
   exact⟨_,by simp only[Ctx.behind];rw[if_pos (.inl (fW iy))];exact g9,s1,s2,s3,s4,by simp only[Ctx.behind];rw[if_neg (by omega),g6],by simp only[Ctx.behind];rw[if_neg (by omega)];exact g7.symm⟩
  ·obtain⟨h1,h2,h3,h4⟩:=fresh i ak (by omega) jl
   rw[h3]
   have hc:R.length<=R.length+(i-ids.length)/\R.length+(i-ids.length)<R2.length:=by omega
   have he:ids.length+(R.length+(i-ids.length)-R.length)=i:=by omega
   exact⟨_,by simp only[Ctx.behind];rw[if_pos (.inr hc)];exact h2,s1,s2,s3,s4,by simp only[Ctx.behind];rw[if_pos hc,he],by simp only[Ctx.behind];rw[if_pos hc,he]⟩
 have CU:(∀b,c'.I b->(c.behind w c' ids R.length R2).I b)\/(len=true/\∀b,c'.I b->c'.base<=b->(c.behind w c' ids R.length R2).I b):=by
  cases hl:len with
  |false=>
   refine .inl λb iz=>?_
   rcases hx.fu b iz with h1|h1
   ·rcases h1 with h1|⟨h1,_⟩
    ·exact .inl h1
    ·rw[hl]at h1;cases h1
   ·exact .inr ⟨iz,h1⟩
  |true=>exact .inr ⟨rfl,λb iz hbb=>.inr ⟨iz,by omega⟩⟩
 have BY:Fr (λb=>∃r x,c.R r=some x/\¬c.V r/\r∈ids/\c.ρ r=b) w w':=hx.fr.mono λb _ ⟨i,x,h1,h2,h3⟩=>by
  have o8:dz[i]?=some x:=h1
  have hi:i<ids.length:=by have:=(List.getElem?_eq_some_iff.1 o8).1;omega
  have iy:ids[i]?=some ids[i]:=cG hi
  obtain⟨row,g1,g2⟩:=AQ i _ iy
  exact⟨_,row,nU _ row (fW iy) g1,by simpa[Ctx.pass,iy]using h2,fW iy,by simpa[Ctx.pass,iy]using h3⟩
 have inv:∀r x,(c.behind w c' ids R.length R2).R r=some x->(∃i ak,c'.R i=some ak/\x=ak.jg (bk ids R.length) true/\(c.behind w c' ids R.length R2).ρ r=c'.ρ i/\((c.behind w c' ids R.length R2).V r↔c'.V i)/\(r∈ids/\ids[i]?=some r/\(c.behind w c' ids R.length R2).ρ r=c.ρ r/\((c.behind w c' ids R.length R2).V r↔c.V r)\/R.length<=r/\ids.length<=i/\r=R.length+(i-ids.length)))\/
  (c.R r=some x/\r∉ids/\(c.behind w c' ids R.length R2).ρ r=c.ρ r/\((c.behind w c' ids R.length R2).V r↔c.V r)/\¬(R.length<=r/\r<R2.length)):=by
  intro r x jD
  by_cases kC:r∈ids
  ·left
   have hp:=Br kC
   obtain⟨kW,q1,q2⟩:=k2 _ r hp
   have ry:c'.R (pos r ids 0)=some kW:=by rw[jY];exact q1
   obtain⟨row,g1,g2,g3,g4,g5,g6,g7,g8,g9,g10,_⟩:=jz _ r kW hp ry
   simp only[Ctx.behind]at jD
   rw[if_pos (.inl kC),g9]at jD
   cases jD
   have e1:(c.behind w c' ids R.length R2).ρ r=c.ρ r:=by simp only[Ctx.behind];rw[if_neg (by omega)]
   have e2:(c.behind w c' ids R.length R2).V r↔c.V r:=by simp only[Ctx.behind];rw[if_neg (by omega)]
   exact⟨_,kW,ry,rfl,by rw[e1,g6],by rw[e2,g7],.inl ⟨kC,hp,e1,e2⟩⟩
  ·by_cases hc:R.length<=r/\r<R2.length
   ·left
    have hi:ids.length+(r-R.length)<aj.length:=by omega
    have ry:c'.R (ids.length+(r-R.length))=some aj[ids.length+(r-R.length)]:=by rw[jY];exact cG hi
    obtain⟨h1,h2,h3,h4⟩:=fresh _ _ (by omega) ry
    simp only[Ctx.behind]at jD
    rw[if_pos (.inr hc)]at jD
    rw[show R.length+(ids.length+(r-R.length)-ids.length)=r by omega]at h2
    rw[h2]at jD
    cases jD
    exact⟨_,_,ry,rfl,by simp only[Ctx.behind];rw[if_pos hc],by simp only[Ctx.behind];rw[if_pos hc],.inr ⟨hc.1,by omega,by omega⟩⟩
   ·right
    simp only[Ctx.behind]at jD
    rw[if_neg (by rintro(h|h)<;>contradiction)]at jD
    exact⟨jD,kC,by simp only[Ctx.behind];rw[if_neg hc],by simp only[Ctx.behind];rw[if_neg hc],hc⟩
 have pT:jk c w (c.behind w c' ids R.length R2) w':=by
  refine⟨rfl,hx.bz.top,λb iz=>⟨.inl iz,?_⟩,λr row hr=>?_⟩
  ·exact(hx.bz.I b (.inl iz)).2
  ·by_cases kC:r∈ids
   ·have hp:=Br kC
    obtain⟨kW,q1,q2⟩:=k2 _ r hp
    have ry:c'.R (pos r ids 0)=some kW:=by rw[jY];exact q1
    obtain⟨j5,g1,g2,g3,g4,g5,g6,g7,g8,g9,g10,g11⟩:=jz _ r kW hp ry
    rw[hr]at g1;cases g1
    obtain⟨s1,s2,s3,s4⟩:=JB (bk ids R.length) true kW
    exact⟨_,by simp only[Ctx.behind];rw[if_pos (.inl kC)];exact g9,s1.trans g2,s2.trans g3,s3.trans g4,s4.trans g5,by simp only[Ctx.behind];rw[if_neg (by omega)],by simp only[Ctx.behind];rw[if_neg (by omega)],g11⟩
   ·have hc:¬(R.length<=r/\r<R2.length):=λhc=>by rw[fh r hc.1 (by omega)]at hr;cases hr
    refine⟨row,by simp only[Ctx.behind];rw[if_neg (by rintro(h|h)<;>contradiction)];exact hr,rfl,rfl,rfl,rfl,by simp only[Ctx.behind];rw[if_neg hc],by simp only[Ctx.behind];rw[if_neg hc],λnv arr ha=>⟨arr,?_,rfl⟩⟩
    rw[BY.heap _ (hm.lt hr nv) fun⟨s,x,h1,h2,h3,h4⟩=>kC (by rw[<-hm.inj s r x row h1 hr h2 nv h4];exact h3)]
    exact ha
 refine⟨CJ,CU,⟨λr x jD=>?_,λr s x y hr hs v1 v2 he=>?_,λb iz=>?_,hx.mem.top,hm.kM.mono pT.I⟩,pT,BY,λb iz=>?_,λr h1 h2 h3=>?_⟩
 ·rcases inv r x jD with⟨i,ak,h1,rfl,h3,h4,_⟩|⟨h1,h2,h3,h4,h5⟩
  ·refine Y0 CJ CU h3 h4 (λ_ _ _ _ _=>trivial) (λhf=>?_) (hx.mem.row i ak h1)
   exact Znl (hI hf) (by rw[<-jY];exact h1)
  ·exact tS pT h3 h4 (λnv=>BY.heap _ (hm.lt h1 nv) fun⟨s,x',g1,g2,g3,g4⟩=>h2 (by rw[<-hm.inj s r x' x g1 h1 g2 nv g4];exact g3)) (hm.row r x h1)
 ·have Hz:∀i ak,c'.R i=some ak->¬c'.V i->(∃q,q∈ids/\ids[i]?=some q/\(∃y,c.R q=some y)/\¬c.V q/\c'.ρ i=c.ρ q)\/w.heap.size<=c'.ρ i:=λi ak h1 nv=>by
   by_cases hi:i<ids.length
   ·have iy:ids[i]?=some ids[i]:=cG hi
    obtain⟨row,g1,g2,g3,g4,g5,g6,g7,_⟩:=jz i _ ak iy h1
    exact .inl ⟨_,fW iy,iy,⟨row,g1⟩,λe=>nv (g7.2 e),g6⟩
   ·exact .inr ((fresh i ak (by omega) h1).2.2.2 nv)
  rcases inv r x hr with⟨i,x',h1,_,h3,h4,h5⟩|⟨h1,h2,h3,h4,h5⟩<;>rcases inv s y hs with⟨j,y',g1,_,g3,g4,g5⟩|⟨g1,g2,g3,g4,g5⟩
  ·have:i=j:=hx.mem.inj i j x' y' h1 g1 (λe=>v1 (h4.2 e)) (λe=>v2 (g4.2 e)) (by rw[<-h3,<-g3];exact he)
   subst this
   rcases h5 with⟨_,q1,_⟩|⟨_,q1,q2⟩<;>rcases g5 with⟨_,p1,_⟩|⟨_,p1,p2⟩
   ·rw[q1]at p1;exact Option.some.inj p1
   ·have:=(List.getElem?_eq_some_iff.1 q1).1;omega
   ·have:=(List.getElem?_eq_some_iff.1 p1).1;omega
   ·omega
  ·exfalso
   have nv:=λe=>v1 (h4.2 e)
   have ns:=λe=>v2 (g4.2 e)
   rw[h3,g3]at he
   rcases Hz i x' h1 nv with⟨q,q1,q2,⟨z,q3⟩,q4,q5⟩|q
   ·exact g2 (by rw[<-hm.inj q s z y q3 g1 q4 ns (by rw[<-q5];exact he)];exact q1)
   ·have:=hm.lt g1 ns;omega
  ·exfalso
   have nv:=λe=>v2 (g4.2 e)
   have ns:=λe=>v1 (h4.2 e)
   rw[h3,g3]at he
   rcases Hz j y' g1 nv with⟨q,q1,q2,⟨z,q3⟩,q4,q5⟩|q
   ·exact h2 (by rw[<-hm.inj q r z x q3 h1 q4 ns (by rw[<-q5];exact he.symm)];exact q1)
   ·have:=hm.lt h1 ns;omega
  ·exact hm.inj r s x y h1 g1 (λe=>v1 (h4.2 e)) (λe=>v2 (g4.2 e)) (by rw[<-h3,<-g3];exact he)
 ·rcases iz with iz|⟨iz,pJ⟩
  ·refine⟨Nat.lt_of_lt_of_le (hm.fu b iz).1 BY.size,λr x hr v=>?_⟩
   rcases inv r x hr with⟨i,x',h1,_,h3,h4,h5⟩|⟨h1,h2,h3,h4,h5⟩
   ·have:=(hx.mem.fu b ((hx.bz.I b (.inl iz)).1)).2 i x' h1 (λe=>v (h4.2 e))
    rw[h3];exact this
   ·rw[h3];exact(hm.fu b iz).2 r x h1 (λe=>v (h4.2 e))
  ·refine⟨(hx.mem.fu b iz).1,λr x hr v=>?_⟩
   rcases inv r x hr with⟨i,x',h1,_,h3,h4,h5⟩|⟨h1,h2,h3,h4,h5⟩
   ·rw[h3];exact(hx.mem.fu b iz).2 i x' h1 (λe=>v (h4.2 e))
   ·have:=hm.lt h1 (λe=>v (h4.2 e))
    rw[h3];omega
 ·rcases iz with h|⟨_,h⟩
  ·exact .inl h
  ·exact .inr h
 ·have hi:ids.length+(r-R.length)<aj.length:=by omega
  have ry:c'.R (ids.length+(r-R.length))=some aj[ids.length+(r-R.length)]:=by rw[jY];exact cG hi
  obtain⟨_,_,_,h4⟩:=fresh _ _ (by omega) ry
  simp only[Ctx.behind,if_pos (show R.length<=r/\r<R2.length from⟨h1,h2⟩)]at h3⊢
  exact h4 h3
theorem Y7(args:List D):CS [] args=[]:=by cases args<;>rfl
theorem Zg2(R:Rows)(args:List D):my R [] args=[]:=by
 unfold my;rw[Y7];rfl
theorem Y3{P:Program}{x:bc}(dw:bj P x){f:FuncId}(hf:x.f=f)(hy:x.f<YB){dst:Option Tmp}{args:Array Operand}{dc:Array TypeId}{type:TypeId}{pos:String}{after:Array Edge}{guard:Option (Nat×Bool)}{a:Act}{w:World}{K:Act->World->Prop}{Q:Exit->Act->World->Prop}
 (h:Calls P x.f (args.toList.map a.eval).toArray w λe w'=>∃v,e=.returned v/\K (a.put dst v) w'):(⟨dst,.call ⟨.value (.func f),args,dc⟩,type,pos,after,guard⟩:Oper).nj P a w K Q:=by
 have ig:(execOp a.eval (⟨dst,.call ⟨.value (.func f),args,dc⟩,type,pos,after,guard⟩:Oper)).run P w=.ok (.enter f (args.toList.map a.eval).toArray) w:=by
  simp only[execOp,resolve,Act.eval,Deferred.ofValue,Sem.run_bind,Sem.run_pure,Result.andThen_ok,invoke,Array.empty_append,Array.append_empty]
  rw[<-hf,dw.enters hy,<-bR,bS]
 unfold Oper.nj
 rw[ig]
 show Calls P f _ w _
 rw[<-hf]
 exact h
theorem xR {P:Program}{G:List bc}(hG:jW P G){dst:Option Tmp}{f:FuncId}{args:Array Operand}{dc:Array TypeId}{type:TypeId}{pos':String}{after:Array Edge}{guard:Option (Nat×Bool)}{ev:Operand->D}{R:Rows}{K:D->Rows->Prop}
    (lP:o7 G f=none) (h:sV G f (args.toList.map ev) R K): ∃val R' x,K val R'/\oO G f=some x/\EM P ⟨dst, .call ⟨.value (.func f),args,dc⟩,type,pos',after,guard⟩ ev R val R'/\(x.refs=[]->pK P ⟨dst, .call ⟨.value (.func f),args,dc⟩,type,pos',after,guard⟩ ev R val R'):=by
  unfold sV at h
  split at h
  . rename_i x hx
    have wj:x.gone=none:=by simpa [o7,hx] using lP
    obtain⟨dw,hf⟩:=Gh hG hx
    split at h
    . rename_i az dz has iR
      simp only[da,Bool.or_eq_true,aE]at h
      obtain⟨⟨⟨FU,h1,h2⟩,h3,h4⟩,h⟩:=h
      generalize JC:my R x.refs (args.toList.map ev)=ids at*
      have uF:=Ml.1 h1
      have gm:=Ml.1 h2
      have kZ:=Mm.1 h3
      have oD:=Uo.1 h4
      have main : ∀res aj,ids.length<=aj.length->K (res.sU (bk ids R.length) true) (tL (bk ids R.length) ids aj R++Bv (bk ids R.length) (aj.drop ids.length))->Q3 P x.f az dz res aj->(x.flat=true->FF res/\rC aj)->
          ∃val R' y,K val R'/\oO G f=some y/\EM P ⟨dst, .call ⟨.value (.func f),args,dc⟩,type,pos',after,guard⟩ ev R val R'/\(y.refs=[]->pK P ⟨dst, .call ⟨.value (.func f),args,dc⟩,type,pos',after,guard⟩ ev R val R'):=by
        intro res aj hle hK hA jS
        let len:=match lL x.refs (args.toList.map ev) with|[]=>false|_=>true
        have hlen:lL x.refs (args.toList.map ev)≠[]->len=true:=by
          intro gr
          show(match lL x.refs (args.toList.map ev) with|[]=>false|_=>true)=true
          split
          . contradiction
          . rfl
        have wX:len=true->x.flat=true:=by
          intro hl
          rcases FU with h|h
          . exact h.1
          . exfalso
            have hl:(match lL x.refs (args.toList.map ev) with|[]=>false|_=>true)=true:=hl
            split at h
            . rename_i e;rw[e]at hl;cases hl
            . cases h
        have core: ∀(c:Ctx) (w:World) (a:Act),Mem c w->c.base<=w.heap.size->mH c R->(∀r row,r∈ids->R.getD r none=some row->c.R r=some row)->(∀r,R.length<=r->r<R.length+(aj.length-ids.length)->c.R r=none)->(∀y∈args.toList,Rep c w (ev y) (a.eval y))->
            ∀(K':Act->World->Prop) (Q:Exit->Act->World->Prop),(∀v w' c',lN (c.pass w ids dz len) w c' w'->(∀i,c'.R i=aj[i]?)->Rep (c.behind w c' ids R.length (tL (bk ids R.length) ids aj R++Bv (bk ids R.length) (aj.drop ids.length))) w' (res.sU (bk ids R.length) true) v->K' (a.put dst v) w')->
            (⟨dst, .call ⟨.value (.func f),args,dc⟩,type,pos',after,guard⟩:Oper).nj P a w K' Q:=by
          intro c w a hm hb o4 nU fh ep K' Q re
          have hn:=Uu (len:=len) (w:=w) nU iR
          have gb:=Mn (len:=len) (ρ:=a.eval) hm o4 hn has hlen oD uF ep
          have mi:=hA (c.pass w ids dz len) w _ (Y1 hm nU kZ gm iR) rfl (λr=>rfl) gb
          refine Y3 dw hf (dw.real wj) (mi.mono λe w' sP=> ?_)
          obtain⟨v,c',he,nE,jY,kP⟩:=sP
          obtain⟨g1,g2,_⟩:=ZE hm hb nU fh kZ iR hle nE jY (λe=>(jS (wX e)).2) rfl
          exact⟨v,he,re v w' c' nE jY (Y2 g1 g2 (λ_=>trivial) (λe=>(jS (wX e)).1) kP)⟩
        have gy: ∀(c:Ctx) (w:World) (a:Act),(∀y∈(⟨dst, .call ⟨.value (.func f),args,dc⟩,type,pos',after,guard⟩:Oper).op.operands,Rep c w (ev y) (a.eval y))-> ∀y∈args.toList,Rep c w (ev y) (a.eval y):=λc w a ep y hy=>ep y (by simp [Op.operands,Call.operands];exact .inr (by simpa using hy))
        refine⟨_,_,x,hK,hx,λc w a hm hb hR ep K' Q re=> ?_,λhrefs=> ?_⟩
        . have o4:mH c R:=λr row ak g1 g2=>by rw[hR,g2]at g1;exact(Option.some.inj g1).symm
          have nU: ∀r row,r∈ids->R.getD r none=some row->c.R r=some row:=λr row _ e=>by rw[hR];exact e
          have fh: ∀r,R.length<=r->r<R.length+(aj.length-ids.length)->c.R r=none:=λr e _=>by rw[hR,aK,aM e];rfl
          refine core c w a hm hb o4 nU fh (gy c w a ep) K' Q λv w' c' nE jY kP=> ?_
          obtain⟨g1,g2,g3,g4,g5,g6,g7⟩:=ZE hm hb nU fh kZ iR hle nE jY (λe=>(jS (wX e)).2) rfl
          have wc:(tL (bk ids R.length) ids aj R).length=R.length:=(UP kZ hle (λr hr=>by
            obtain⟨row,q1,_⟩:=(FK iR).2 _ r (Br hr)
            by_cases hl:r<R.length
            . exact hl
            . rw[aK,aM (by omega)]at q1;cases q1)).1
          have iV:=UP (f:=bk ids R.length) kZ hle (λr hr=>by
            obtain⟨row,q1,_⟩:=(FK iR).2 _ r (Br hr)
            by_cases hl:r<R.length
            . exact hl
            . rw[aK,aM (by omega)]at q1;cases q1)
          refine re v w' _ ⟨g3,g4,g5.mono λb _ ⟨r,y,k1,k2,_,k4⟩=>⟨r,y,k1,k2,k4⟩,g6,λr ak hr hv=> ?_⟩ (λr=> ?_) kP
          . by_cases hc:R.length<=r/\r<(tL (bk ids R.length) ids aj R++Bv (bk ids R.length) (aj.drop ids.length)).length
            . exact .inr (g7 r hc.1 hc.2 hv)
            . left
              simp only[Ctx.behind,if_neg hc]at hv⊢
              refine⟨?_,hv,trivial⟩
              simp only[Ctx.behind]at hr
              split at hr
              . rename_i HA
                rcases HA with HA|HA
                . obtain⟨row,q1,_⟩:=(FK iR).2 _ r (Br HA)
                  exact⟨row,nU r row HA q1⟩
                . contradiction
              . exact⟨_,hr⟩
          . simp only[Ctx.behind]
            split
            . rfl
            . rename_i HA
              have h1:r∉ids:=λe=>HA (.inl e)
              by_cases cf:r<R.length
              . rw[aK,aZ (by omega),<-aK,iV.2.2 r h1,hR]
              . rw[hR,aK,aM (by omega),aK,aM (by
                  by_cases h2:r<(tL (bk ids R.length) ids aj R++Bv (bk ids R.length) (aj.drop ids.length)).length
                  . exact(HA (.inr ⟨by omega,h2⟩)).elim
                  . omega)]
        . have P5:ids=[]:=by rw[<-JC,hrefs];exact Zg2 R _
          subst P5
          have ri:tL (bk [] R.length) [] aj R=R:=by cases aj<;>rfl
          rw[ri]
          simp only[dJ,gB]at*
          refine⟨⟨_,rfl⟩,λc w a hm hb o4 fh ep K' Q re=> ?_⟩
          have nU: ∀r row,r∈([]:List Nat)->R.getD r none=some row->c.R r=some row:=λr row e=>by cases e
          have HB: ∀r,R.length<=r->r<R.length+(aj.length-0)->c.R r=none:=λr e1 e2=>fh r e1 (by simp [Bv];omega)
          refine core c w a hm hb o4 nU HB (gy c w a ep) K' Q λv w' c' nE jY kP=> ?_
          obtain⟨g1,g2,g3,g4,g5,g6,g7⟩:=ZE hm hb nU HB kZ iR hle nE jY (λe=>(jS (wX e)).2) rfl
          rw[ri]at g3 g4 g6 g7 kP
          simp only[dJ,gB]at g3 g4 g6 g7 kP
          refine re v w' _ ⟨g3,g4,g5.mono (λb _ ⟨r,y,k1,k2,k3,k4⟩=>(by cases k3)),g6,λr=> ?_,λr hr=> ?_,λr k1 k2=>g7 r k1 k2⟩ kP
          . simp [Ctx.behind]
          . simp only[Ctx.behind]
            rw[if_neg (by omega),if_neg (by omega)]
            exact⟨rfl,Iff.rfl⟩
      split at h
      . rename_i res aj hm
        simp only[Er,da,D.cg,nk]at h
        obtain⟨h5,h6⟩:=dw.ok wj _ _ _ _ hm
        exact main res aj (lE h.1) h.2 h5 h6
      . rename_i p res aj hm
        simp only[Er,da,D.cg,nk]at h
        obtain⟨h5,h6⟩:=dw.when wj _ _ _ _ _ hm h.1
        exact main res aj (lE h.2.1) h.2.2 h5 h6
      . rename_i α v res aj hm
        have h:=h v rfl
        simp only[Er,da,D.cg,nk]at h
        obtain⟨h5,h6⟩:=dw.abs wj _ _ _ _ _ _ hm
        exact main (res v) (aj v) (lE h.1) h.2 h5 h6
      . rename_i p α v res aj hm
        obtain⟨hp,h⟩:=h
        have h:=h v rfl
        simp only[Er,da,D.cg,nk]at h
        obtain⟨h5,h6⟩:=dw.lM wj _ _ _ _ _ _ _ hm hp
        exact main (res v) (aj v) (lE h.1) h.2 h5 h6
      . exact h.elim
    . exact h.elim
  . exact h.elim
theorem Za8{f:Nat->Nat}:∀{ds:List D},UQ ds=true->D.mC f true ds=ds
 |[],_=>rfl
 |d ::l,h=>by
  simp only[UQ]at h
  split at h
  ·rename_i hd
   simp only[D.mC,Za8 h]
   cases d<;>first|(simp[P6]at hd;done)|simp[D.mz]
  ·cases h
theorem Zhh{f:Nat->Nat}{d:D}(h:sW d=true):d.jg f true=d:=by
 cases d with
 |agg cs=>show D.agg (D.mC f true cs)=_;rw[Za8 h]
 |_=>first|(simp[sW,P6]at h;done)|simp[D.jg,D.mz]
theorem Z88{f:Nat->Nat}:∀{ds:List D},UR ds=true->D.AW f true ds=ds
 |[],_=>rfl
 |d ::l,h=>by
  simp only[UR]at h
  split at h
  ·rename_i hd
   simp only[D.AW,Z88 h,Zhh hd]
  ·cases h
theorem Zqg{f:Nat->Nat}{d:D}(h:uJ d=true):d.sU f true=d:=by
 cases d with
 |dt ds=>show D.dt (D.AW f true ds)=_;rw[Z88 h]
 |agg cs=>exact Zhh (d:=.agg cs) h
 |_=>first|(simp[uJ,sW,P6]at h;done)|simp[D.sU,D.jg,D.mz]
theorem Y6{R:Rows}(f g:Nat->Nat):∀{ds:List D},sQ R f [] ds=sQ R g [] ds
 |[]=>rfl
 |d::l=>by simp only[sQ,Y6 f g (ds:=l)]
theorem zR{G:List bc}{f:FuncId}{args:List D}{R:Rows}{K:D->Rows->Prop}(h:Kz G f args R K):sV G f args R K:=by
 unfold Kz at h
 split at h
 ·rename_i x hx
  split at h
  ·rename_i hrefs
   split at h
   ·rename_i az has
    simp only[da]at h
    have hv:∀{res:D} {aj:List Row},Mw R res aj K->Er R [] res aj K:=by
     intro res aj h
     have ri:tL (bk [] R.length) [] aj R=R:=by cases aj<;>rfl
     simp only[Er,da,dJ,gB,ri]
     refine⟨by simp,?_⟩
     unfold Mw at h
     split at h
     ·simp only[da,D.cg]at h
      rw[Zqg h.1]
      simp only[D.cg,nk,Bv,List.map_nil,List.append_nil]
      exact h.2
     ·exact h
    unfold sV
    simp only[hx,hrefs,Zg2]
    rw[Y6 _ (λr=>r),has]
    simp only[Bq,da,Y7]
    refine⟨?_,?_⟩
    ·have:∀l:List Nat,nN l []=true:=λl=>by
      rw[Uo];intro r _ hr;cases hr
     simp only[pC,CL,Ep,this,Bool.and_true]
     have h1:=h.1
     revert h1
     cases lL [] args<;>simp[CV]
    ·revert h
     cases x.m az []with
     |no=>exactλh=>h.2
     |ok res aj=>exactλh=>hv h.2
     |«when»p res aj=>exactλh=>⟨h.2.1,hv h.2.2⟩
     |abs α v res aj=>exactλh X hX=>hv (h.2 X hX)
     |lM p α v res aj=>exactλh=>⟨h.2.1,λX hX=>hv (h.2.2 X hX)⟩
   ·exact h.elim
  ·exact h
 ·exact h.elim
theorem Wn{P:Program}{G:List bc}(hG:jW P G){dst:Option Tmp}{f:FuncId}{args:Array Operand}{dc:Array TypeId}{type:TypeId}{pos':String}{after:Array Edge}{guard:Option (Nat×Bool)}{ev:Operand->D}{R:Rows}{K:D->Rows->Prop}
 (lP:o7 G f=none) (h:Kz G f (args.toList.map ev) R K):∃val R' x,K val R'/\oO G f=some x/\EM P ⟨dst,.call ⟨.value (.func f),args,dc⟩,type,pos',after,guard⟩ ev R val R'/\(x.refs=[]->pK P ⟨dst,.call ⟨.value (.func f),args,dc⟩,type,pos',after,guard⟩ ev R val R'):=
 xR hG lP (zR h)

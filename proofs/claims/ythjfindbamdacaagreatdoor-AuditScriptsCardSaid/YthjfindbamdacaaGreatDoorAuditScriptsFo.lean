import Derived.Test.YthjfindbamdacaaGreatDoorAuditScriptsFp
open List renaming getD->aK,getElem?_eq_none->aM,getElem?_append_left->aZ,getElem?_take->aU,getElem?_drop->fT,getElem?_eq_getElem->cG,getElem?_toArray->aY,map_cons->fR,map_toArray->bR,mem_cons->cS,mem_map->gA,mem_of_getElem?->fW,length_nil->dJ,drop_zero->gB
open Nat renaming le_refl->aO,zero_add->aX,add_assoc->fY
open Option renaming getD_some->aG
open Bool renaming false_eq_true->aN
open Array renaming toArray_toList->bS,extract_eq_self_of_le->fZ
set_option linter.all false
namespace Go.GD
open Go
structure Ku(c:Ctx)(w:World)(R R':Rows)(c':Ctx)(w':World):Prop where
 mem:Mem c' w'
 bz:jk c w c' w'
 fr:Fr (λ_=>False) w w'
 fu:∀b,c'.I b->c.I b\/w.heap.size<=b
 rows:∀r,c'.R r=if R.length<=r/\r<R'.length then R'.getD r none else c.R r
 jA:∀r,r<R.length\/R'.length<=r->c'.ρ r=c.ρ r/\(c'.V r↔c.V r)
 new:∀r,R.length<=r->r<R'.length->¬c'.V r->w.heap.size<=c'.ρ r
structure lP(c:Ctx)(w:World)(c':Ctx)(w':World):Prop where
 mem:Mem c' w'
 bz:jk c w c' w'
 fr:Fr (λb=>∃r x,c.R r=some x/\¬c.V r/\c.ρ r=b) w w'
 fu:∀b,c'.I b->c.I b\/w.heap.size<=b
 og:∀r ak,c'.R r=some ak->¬c'.V r->((∃row,c.R r=some row)/\¬c.V r/\c'.ρ r=c.ρ r)\/w.heap.size<=c'.ρ r
def P4(P:Program)(o:Oper)(a:Act)(next:Act->World->Prop):Result Next->Prop
 |.ok (.value v) w'=>next (a.put o.dst v) w'
 |.ok .skip w'=>next (a.put o.dst undef) w'
 |.ok (.enter f args) w'=>Calls P f args w' λe FM=>∃v,e=.returned v/\next (a.put o.dst v) FM
 |.ok (.round l f tmps assign body) w'=>RoundIn Fence.wide 0 P l f tmps assign body w' λe FM=>∃v,e=.returned v/\next (a.put o.dst v) FM
 |_=>False
def _root_.Go.Oper.nm(P:Program)(o:Oper)(a:Act)(w:World)(next:Act->World->Prop)(_:Exit->Act->World->Prop):Prop:=P4 P o a next ((execOp a.eval o).run P w)
theorem Gi{P:Program}{o:Oper}{a:Act}{w w':World}{u:Value}{K:Act->World->Prop}{Q:Exit->Act->World->Prop}(h:(execOp a.eval o).run P w=.ok (.value u) w')(hK:K (a.put o.dst u) w'):o.nm P a w K Q:=by
 unfold Oper.nm;rw[h];exact hK
theorem xR{P:Program}{o:Oper}{a:Act}{w w':World}{K:Act->World->Prop}{Q:Exit->Act->World->Prop}(h:(execOp a.eval o).run P w=.ok .skip w')(hK:K (a.put o.dst undef) w'):o.nm P a w K Q:=by
 unfold Oper.nm;rw[h];exact hK
theorem WA{P:Program}{o:Oper}{a:Act}{w:World}{K K':Act->World->Prop}{Q Q':Exit->Act->World->Prop}(h:∀a w,K a w->K' a w)(hh:o.nm P a w K Q):o.nm P a w K' Q':=by
 unfold Oper.nm at hh⊢
 revert hh
 generalize(execOp a.eval o).run P w=r
 intro hh
 cases r with
 |halt _ _=>exact hh.elim
 |ok n w'=>
  cases n with
  |value v=>exact h _ _ hh
  |skip=>exact h _ _ hh
  |enter f args=>exact Calls.mono hh λe w' ⟨v,he,hk⟩=>⟨v,he,h _ _ hk⟩
  |round l f tmps assign body=>exact RoundIn.mono hh λe w' ⟨v,he,hk⟩=>⟨v,he,h _ _ hk⟩
  |_=>exact hh.elim
def pL(P:Program)(o:Oper)(ev:Operand->D)(R:Rows)(val:D)(R':Rows):Prop:=
 (∃news,R'=R++news)/\∀(c:Ctx) (w:World) (a:Act),Mem c w->c.base<=w.heap.size->mJ c R->(∀r,R.length<=r->r<R'.length->c.R r=none)->(∀x∈o.op.operands,Rep c w (ev x) (a.eval x))->
  ∀K Q,(∀v w' c',Ku c w R R' c' w'->Rep c' w' val v->K (a.put o.dst v) w')->o.nm P a w K Q
def EL(P:Program)(o:Oper)(ev:Operand->D)(R:Rows)(val:D)(R':Rows):Prop:=
 ∀ (c:Ctx) (w:World) (a:Act),Mem c w->c.base<=w.heap.size->(∀r,c.R r=R.getD r none)->(∀x∈o.op.operands,Rep c w (ev x) (a.eval x))->
  ∀K Q,(∀v w' c',lP c w c' w'->(∀r,c'.R r=R'.getD r none)->Rep c' w' val v->K (a.put o.dst v) w')->o.nm P a w K Q
theorem pL.toW{P:Program}{o:Oper}{ev:Operand->D}{R:Rows}{val:D}{R':Rows}(h:pL P o ev R val R'):EL P o ev R val R':=by
 obtain⟨⟨news,hn⟩,h⟩:=h
 intro c w a hm hb hR eu K Q hK
 refine h c w a hm hb (λr row ak h1 h2=>by rw[hR,h2]at h1;exact(Option.some.inj h1).symm) (λr h1 _=>by rw[hR];simp[aK,aM h1]) eu K Q λv w' c' hs hr=>?_
 refine hK v w' c' ⟨hs.mem,hs.bz,hs.fr.mono (λb _ hf=>hf.elim),hs.fu,λr ak nB hv=>?_⟩ (λr=>?_) hr
 ·by_cases h1:R.length<=r/\r<R'.length
  ·exact .inr (hs.new r h1.1 h1.2 hv)
  ·rw[hs.rows,if_neg h1]at nB
   obtain⟨h2,h3⟩:=hs.jA r (by omega)
   exact .inl ⟨⟨_,nB⟩,λe=>hv (h3.2 e),h2⟩
 ·rw [hs.rows,hR]
  split
  ·rfl
  ·rename_i h1
   subst hn
   by_cases h2:r<R.length
   ·simp[aK,aZ h2]
   ·have h3:(R++news).length<=r:=by omega
    simp[aK,aM h3,aM (show R.length<=r by omega)]
theorem mZ{P:Program}{o:Oper}{ev:Operand->D}{R:Rows}{val:D}(h:∀(c:Ctx) (w:World) (a:Act),Mem c w->mJ c R->(∀x∈o.op.operands,Rep c w (ev x) (a.eval x))->∃u,(execOp a.eval o).run P w=.ok (.value u) w/\Rep c w val u):pL P o ev R val R:=by
 refine⟨⟨[],by simp⟩,λc w a hm hb hA _ eu K Q hK=>?_⟩
 obtain⟨u,hu,hr⟩:=h c w a hm hA eu
 exact Gi hu (hK u w c ⟨hm,jk.refl c w,Fr.refl _ w,λb hb=>.inl hb,λr=>by rw[if_neg (by omega)],λ_ _=>⟨rfl,Iff.rfl⟩,λr h1 h2=>by omega⟩ hr)
theorem UT{P:Program}{o:Oper}{ev:Operand->D}{R:Rows}{val:D}{row:Row}(h:∀(c:Ctx) (w:World) (a:Act),Mem c w->mJ c R->(∀x∈o.op.operands,Rep c w (ev x) (a.eval x))->
 ∃x:Sem Value,execOp a.eval o=(do pure (.value (<-x)))/\UU P x w c R.length row val):pL P o ev R val (R++[some row]):=by
 refine⟨⟨[some row],rfl⟩,λc w a hm hb hA fi eu K Q hK=>?_⟩
 obtain⟨x,hx,u,arr,hu,hi,hr⟩:=h c w a hm hA eu
 have hk:c.R R.length=none:=fi R.length (aO _) (by simp)
 have ig:(execOp a.eval o).run P w=.ok (.value u) (w.alloc (.cells arr row.ty)):=by
  rw[hx,Sem.run_bind,hu];rfl
 refine Gi ig (hK u _ (c.add R.length row w.heap.size) ⟨hm.alloc hk row arr hi.1 hi.2,jk.alloc hm hk row _,Fr.alloc _ w _,λb hb=>.inl hb,λr=>?_,λr hr=>?_,λr h1 h2 _=>?_⟩ (hr hk hm))
 ·by_cases e:r=R.length
  ·subst e
   simp[Ctx.add,aK]
  ·have:¬(R.length<=r/\r<(R++[some row]).length):=by simp;omega
   rw[if_neg this]
   simp[Ctx.add,e]
 ·have:r≠R.length:=by simp at hr;omega
  simp[Ctx.add,this]
 ·have:r=R.length:=by simp at h2;omega
  simp[Ctx.add,this]
def Gh:Op->Bool|.store _ _ _=>true|_=>false
theorem Zqj{c:Ctx}{w:World}{cs:List D}{vs:List Value}(h:jm c w cs vs)(o n:Nat):jm c w ((cs.drop o).take n) ((vs.drop o).take n):=by
 rw[En]at h⊢
 obtain⟨h1,h2⟩:=h
 refine⟨by simp[h1],λj v hv=>?_⟩
 simp only[aU,fT]at hv
 split at hv
 ·rename_i hj
  have:=h2 (o+j) v hv
  simp only[aK,aU,fT,hj,if_true]at this⊢
  exact this
 ·cases hv
theorem y9{c:Ctx}{w:World}:∀{dc:List rb} {az:List D} {vs:List Value},jm c w az vs->fits dc az=true->pV vs.toArray 0 az
 |dc,az,vs,h,hf=>by
  intro j d hj
  have cg:=(List.getElem?_eq_some_iff.1 hj).1
  have hl:=h.length
  have hv:vs[j]?=some vs[j]:=cG (by omega)
  have hr:=(En.1 h).2 j _ hv
  simp only[aK,hj,aG]at hr
  have hs :∀{dc:List rb} {az:List D} {j:Nat},fits dc az=true->az[j]?=some d->(∃k n,d=.int k n)\/(∃b,d=.bool b)\/∃s,d=.str s:=by
   intro dc
   induction dc with
   |nil=>intro az j hf hj;cases az<;>simp[fits]at hf;simp at hj
   |cons t ts ih=>
    intro az j hf hj
    cases az with
    |nil=>cases t<;>simp[fits]at hf
    |cons e es=>
     cases t<;>simp only[fits,aE,aN]at hf
     all_goals
      cases j with
      |succ j=>exact ih hf.2 (by simpa using hj)
      |zero=>
       simp at hj
       subst hj
       cases e<;>simp[D.isInt,D.isBool,D.isStr]at hf⊢
  simp only[aX,aY,hv]
  rcases hs hf hj with⟨k,n,rfl⟩|⟨b,rfl⟩|⟨s,rfl⟩<;>(simp only[cv]at hr;rw[hr];rfl)
theorem ZE{c:Ctx}{w:World}:∀{ds:List D} {vs:List Value},j8 c w ds vs->∀i,i<ds.length->∃v,vs[i]?=some v/\VRep c w (ds.getD i .dead) v
 |[],[],_,i,h=>by simp at h
 |d::ds,v::vs,h,0,_=>⟨v,rfl,h.1⟩
 |d::ds,v::vs,h,i+1,hi=>by
  obtain⟨u,hu,hr⟩:=ZE h.2 i (by simpa using hi)
  exact⟨u,by simpa using hu,by simpa using hr⟩
 |[],_::_,h,_,_=>h.elim
 |_::_,[],h,_,_=>h.elim
theorem zaw{d:D}{x:iv}(h:CU d=some x):x.d=d:=by
 have go:∀{cs:List iv} {ps:List (Nat×Nat×Nat)},P5 cs=some ps->ps.map Ik=cs:=by
  intro cs
  induction cs with
  |nil=>intro ps h;simp[P5]at h;subst h;rfl
  |cons y l ih=>
   intro ps h
   simp only[P5]at h
   split at h
   ·rename_i p qs h1 h2
    cases h
    simp only[fR,ih h2]
    cases y<;>simp[Hy]at h1
    subst h1;rfl
   ·cases h
 cases d<;>simp only[CU]at h<;>first|(cases h;done)|skip
 case gq f cs=>
  split at h
  ·rename_i ps hp;cases h;simp only[iv.d,go hp]
  ·cases h
 all_goals(cases h;rfl)
theorem WL{c:Ctx}{w:World}{ev:Operand->D}{ρ:Operand->Value}:∀{xs:List Operand} {cs:List iv},KJ (xs.map ev)=some cs->(∀x∈xs,Rep c w (ev x) (ρ x))->oM c w cs (xs.map ρ)
 |[],cs,h,_=>by simp[KJ]at h;subst h;trivial
 |x ::xs,cs,h,hr=>by
  simp only[fR,KJ]at h
  split at h
  ·rename_i y ys h1 h2
   cases h
   refine⟨?_,WL h2 λz hz=>hr z (by simp[hz])⟩
   have:=hr x (by simp)
   rw[<-zaw h1]at this
   rw[Wv]
   cases y<;>exact this
  ·cases h
theorem Nq{P:Program}{T:fq}(hT:jz P T)(o:Oper)(ev:Operand->D)(R:Rows)(K:D->Rows->Prop)(h:ie T o.op ev R K):
 ∃val R',K val R'/\(if Gh o.op then EL P o ev R val R' else pL P o ev R val R'):=by
 obtain⟨dst,op,type,pos,after,guard⟩:=o
 simp only at h
 cases op<;>(try simp only[ie]at h)<;>try(exact h.elim)
 case makeFunc fn first captured=>
  cases fn<;>simp only at h<;>try(exact h.elim)
  rename_i f
  simp only[da,aE]at h
  obtain⟨⟨h0,hy⟩,h⟩:=h
  split at h
  ·rename_i cs hc
   refine⟨_,_,h,mZ λc w a hm hA eu=>?_⟩
   have hf:first= #[]:=Array.eq_empty_of_size_eq_zero (bE h0)
   subst hf
   refine⟨.func (.func f) #[] (captured.map a.eval),?_,captured.toList.map a.eval,?_,WL hc λx hx=>eu x (by simp[Op.operands];simpa using hx)⟩
   ·simp only[execOp,Instr.makeFunc,Sem.run_bind,Sem.run_pure,Array.map_empty];rfl
   ·exact .inl ⟨lE hy,by rw[<-bR,bS]⟩
  ·exact h.elim
 case move x=>
  rw[D.cq]at h
  exact⟨_,_,h,mZ λc w a hm hA eu=>⟨_,rfl,eu x (by simp[Op.operands])⟩⟩
 case assign x=>
  rw[D.cq]at h
  exact⟨_,_,h,mZ λc w a hm hA eu=>⟨_,rfl,eu x (by simp[Op.operands])⟩⟩
 case alloc t=>
  split at h
  ·rename_i ht
   simp only[da,aE,Nt]at h
   obtain⟨⟨h0,hl⟩,h⟩:=h
   exact⟨_,_,h,UT λc w a hm hA eu=>⟨_,rfl,Znl hT ht (lE h0) (bE hl) R.length c w⟩⟩
  ·exact h.elim
 case box t x=>
  split at h
  ·rename_i ht
   simp only[da,aE,Nt,D.fk]at h
   obtain⟨⟨⟨h0,hv⟩,hl⟩,h⟩:=h
   exact⟨_,_,h,UT λc w a hm hA eu=>⟨_,rfl,zaP (lE h0) hv (bE hl) R.length c w (eu x (by simp[Op.operands]))⟩⟩
  ·exact h.elim
 case build t parts=>
  obtain⟨val,hK,hr⟩:=xS hT h
  refine⟨_,_,hK,mZ λc w a hm hA eu=>?_⟩
  obtain⟨u,hu,hx⟩:=hr c w a.eval (λp hp=>eu p.2 (by simp[Op.operands];exact⟨p.1,by simpa using hp⟩))
  refine⟨u,?_,hx⟩
  simp only[execOp]
  rw[Sem.run_bind,show parts.map (λx=>(x.1,a.eval x.2))=(parts.toList.map λp=>(p.1,a.eval p.2)).toArray from by rw[<-bR,bS],hu]
  rfl
 case buildSlice t len parts=>
  obtain⟨val,hK,hr⟩:=Zox hT h
  refine⟨_,_,hK,⟨[],by simp⟩,λc w a hm hb hA _ eu K Q hK=>?_⟩
  obtain⟨u,arr,ty,hu,hx⟩:=hr c w a.eval hb (λp hp=>eu p.2 (by simp[Op.operands];exact⟨p.1,by simpa using hp⟩))
  have ig:(execOp a.eval (⟨dst,.buildSlice t len parts,type,pos,after,guard⟩:Oper)).run P w=.ok (.value u) (w.alloc (.cells arr ty)):=by
   simp only[execOp]
   rw[Sem.run_bind,show parts.map (λx=>(x.1,a.eval x.2))=(parts.toList.map λp=>(p.1,a.eval p.2)).toArray from by rw[<-bR,bS],hu]
   rfl
  exact Gi ig (hK u _ (c.fu w.heap.size) ⟨qaw hm _,US hm _,Fr.alloc _ w _,λb hb=>hb.elim .inl (λe=>.inr (by omega)),λr=>by rw[if_neg (by omega)];rfl,λ_ _=>⟨rfl,Iff.rfl⟩,λr h1 h2=>by omega⟩ (hx hm))
 case load t x=>
  obtain⟨val,hK,hr⟩:=Zev hT h
  refine⟨_,_,hK,mZ λc w a hm hA eu=>?_⟩
  obtain⟨u,hu,hx⟩:=hr c w _ hm hA (eu x (by simp[Op.operands]))
  exact⟨u,by simp only[execOp];rw[Sem.run_bind,hu];rfl,hx⟩
 case store t x y=>
  obtain⟨R',hK,hr⟩:=Zp9 hT h
  refine⟨_,_,hK,?_⟩
  simp only[Gh,if_true]
  intro c w a hm hb hR eu K Q hK
  obtain⟨r,ak,arr,w',ig,YW,⟨row,cb⟩,hV,hg,kC,jV⟩:=hr c w _ _ hm hR (eu x (by simp[Op.operands])) (eu y (by simp[Op.operands]))
  refine xR (w':=w') ?_ (hK undef w' _ ⟨kC,hg,?_,λb hb=>.inl hb,λs ov hs hv=>?_⟩ jV trivial)
  ·simp only[execOp];rw[Sem.run_bind,ig];rfl
  rotate_left
  ·by_cases e:s=r
   ·exact .inl ⟨⟨row,by rw[e];exact cb⟩,hv,rfl⟩
   ·exact .inl ⟨⟨ov,by simpa[Ctx.jB,e]using hs⟩,hv,rfl⟩
  ·rw[YW]
   exact(SG w _ arr).mono λb _ e=>⟨r,row,cb,hV,e.symm⟩
 case nilCheck x=>
  have go:∀d,ev x=d->(∃a b c,d=.ptr a b c)\/(∃a b c e,d=.iu a b c e)->K d R->∃val R',K val R'/\pL P ⟨dst,.nilCheck x,type,pos,after,guard⟩ ev R val R':=by
   intro d hd P6 hK
   refine⟨_,_,hK,mZ λc w a hm hA eu=>?_⟩
   have hx:=eu x (by simp[Op.operands])
   rw[hd]at hx
   have hp:∃q,a.eval x=.pointer (some q):=by
    rcases P6 with⟨r,i,off,rfl⟩|⟨sz,es,i,off,rfl⟩
    ·obtain⟨_,_,_,_,hv⟩:=hx;exact⟨_,hv⟩
    ·obtain⟨_,_,_,_,_,hv,_⟩:=hx;exact⟨_,hv⟩
   obtain⟨q,hq⟩:=hp
   refine⟨a.eval x,?_,hx⟩
   simp only[execOp,hq,Sem.run_pure]
  split at h
  ·rename_i hd;exact go _ hd (.inl ⟨_,_,_,rfl⟩) h
  ·rename_i hd;exact go _ hd (.inr ⟨_,_,_,_,rfl⟩) h
  ·exact h.elim
 case binOp op t x y ty=>
  have fin:∀(val:D),(∀c w u v,Rep c w (ev x) u->Rep c w (ev y) v->∃z,(do eqGuard op t x y u v;binOp op t u v).run P w=.ok z w/\Rep c w val z)->pL P ⟨dst,.binOp op t x y ty,type,pos,after,guard⟩ ev R val R:=λval hv=>
   mZ λc w a hm hA eu=>by
    obtain⟨z,hz,hr⟩:=hv c w _ _ (eu x (by simp[Op.operands])) (eu y (by simp[Op.operands]))
    refine⟨z,?_,hr⟩
    simp only[execOp]
    rw[Sem.run_bind,hz];rfl
  unfold sX at h
  split at h
  ·rename_i k a k' b hx hy
   split at h
   ·simp only[da,decide_eq_true_eq]at h
    refine⟨_,_,h.2,fin _ λc w u v hu hv=>?_⟩
    rw[hx]at hu;rw[hy]at hv
    rw[Rep.int.1 hu,Rep.int.1 hv]
    exact⟨_,by rw[Sem.run_bind,ZF];exact(Zfs h.1 w).1,rfl⟩
   ·simp only[da,decide_eq_true_eq]at h
    refine⟨_,_,h.2,fin _ λc w u v hu hv=>?_⟩
    rw[hx]at hu;rw[hy]at hv
    rw[Rep.int.1 hu,Rep.int.1 hv]
    exact⟨_,by rw[Sem.run_bind,ZF];exact(Zfs h.1 w).2,rfl⟩
   ·rename_i h1 h2
    simp only[da,decide_eq_true_eq]at h
    obtain⟨rfl,h⟩:=h
    obtain⟨d,hK,hr⟩:=xaw (P:=P) (t:=t) ⟨λe=>h1 e,λe=>h2 e⟩ h
    refine⟨_,_,hK,fin _ λc w u v hu hv=>?_⟩
    rw[hx]at hu;rw[hy]at hv
    rw[Rep.int.1 hu,Rep.int.1 hv]
    obtain⟨z,hz,ZG⟩:=hr w
    exact⟨z,by rw[Sem.run_bind,ZF];exact hz,ZG c⟩
  ·rename_i a b hx hy
   obtain⟨d,hK,hr⟩:=qax (P:=P) (t:=t) (op:=op) (a:=a) (b:=b) (K:=λd=>K d R) h
   refine⟨_,_,hK,fin _ λc w u v hu hv=>?_⟩
   rw[hx]at hu;rw[hy]at hv
   rw[Rep.str.1 hu,Rep.str.1 hv]
   obtain⟨z,hz,ZG⟩:=hr w
   exact⟨z,by rw[Sem.run_bind,Zju];exact hz,ZG c⟩
  ·rename_i a b hx hy
   split at h
   ·rename_i ht
    have hd:=mX hT ht
    simp only at hd
    split at h
    ·refine⟨_,_,h,fin _ λc w u v hu hv=>?_⟩
     rw[hx]at hu;rw[hy]at hv
     rw[Rep.bool.1 hu,Rep.bool.1 hv]
     refine⟨_,?_,rfl⟩
     rw[Sem.run_bind,Qzc]
     simp only[binOp]
     simp[Op.equal,Op.maxDepth,run_equalIn_bool' w 9999 t a b hd]
    ·refine⟨_,_,h,fin _ λc w u v hu hv=>?_⟩
     rw[hx]at hu;rw[hy]at hv
     rw[Rep.bool.1 hu,Rep.bool.1 hv]
     refine⟨_,?_,rfl⟩
     rw[Sem.run_bind,Qzc]
     simp only[binOp]
     simp[Op.equal,Op.maxDepth,run_equalIn_bool' w 9999 t a b hd]
    ·exact h.elim
   ·exact h.elim
  ·rename_i a b hx hy
   split at h
   ·rename_i ti ht
    simp only[da,aE]at h
    obtain⟨⟨⟨⟨⟨CS,h0⟩,he⟩,fa⟩,fb⟩,h⟩:=h
    obtain⟨i0,rO,EH,_,Bn,Ap,_,heq,hc,d0,FP⟩:=DH (hT.get ht)
    have h0:0<ti.size:=lE h0
    rw[heq]at he
    simp only[aE,Bool.not_eq_true']at he
    rw[hc]at fa fb
    have ko:P.cellsOf t=(mg P 8 t).length:=by rw[<-hc,Bn];simp[Program.cellsOf,rO,EH]
    have uw:0<P.cellsOf t:=by simp[Program.cellsOf,rO,EH,h0]
    have P7:∀c w u v,Rep c w (ev x) u->Rep c w (ev y) v->∃us vs:Array Value,u=.agg us/\v=.agg vs/\(Op.equalIn 10000 t (.agg us) (.agg vs)).run P w=.ok (eqs a b) w:=by
     intro c w u v hu hv
     rw[hx]at hu;rw[hy]at hv
     obtain⟨us,hu,ru⟩:=hu
     obtain⟨vs,hv,rv⟩:=hv
     refine⟨us.toArray,vs.toArray,hu,hv,?_⟩
     have JO:=ZH (P:=P) 8 t 10000 (by omega) he.2 ko uw us.toArray vs.toArray 0 a b w fa fb (y9 ru fa) (y9 rv fb)
     have hlu:=ru.length;have hlv:=rv.length
     have hla:=sY fa;have NJ:=sY fb
     have uq:P2 d0=true:=by rw[<-My FP,<-Ap];exact CS
     simp only[oC,Sem.run_bind,UW FP uq uw,Result.andThen_ok]at JO
     rw[show us.toArray.extract 0 (0+P.cellsOf t)=us.toArray from by apply fZ;simp;omega,show vs.toArray.extract 0 (0+P.cellsOf t)=vs.toArray from by apply fZ;simp;omega]at JO
     exact JO
    split at h
    ·refine⟨_,_,h,fin _ λc w u v hu hv=>?_⟩
     obtain⟨us,vs,rfl,rfl,hr⟩:=P7 c w u v hu hv
     refine⟨_,?_,rfl⟩
     rw[Sem.run_bind,run_eqGuard_agg w _ _ _ _ _ _ he.1,Result.andThen_ok,run_eql_struct,hr];rfl
    ·refine⟨_,_,h,fin _ λc w u v hu hv=>?_⟩
     obtain⟨us,vs,rfl,rfl,hr⟩:=P7 c w u v hu hv
     refine⟨_,?_,rfl⟩
     rw[Sem.run_bind,run_eqGuard_agg w _ _ _ _ _ _ he.1,Result.andThen_ok,run_neq_struct,hr];rfl
    ·exact h.elim
   ·exact h.elim
  ·exact h.elim
 case unOp op t x=>
  split at h
  ·rename_i k n hx
   refine⟨_,_,h,mZ λc w a hm hA eu=>?_⟩
   have:=eu x (by simp[Op.operands])
   rw[hx]at this
   exact⟨_,by simp only[execOp,Rep.int.1 this,Op.unary,Op.intArith,Sem.run_bind,Sem.run_pure];rfl,rfl⟩
  ·rename_i k n hx
   refine⟨_,_,h,mZ λc w a hm hA eu=>?_⟩
   have:=eu x (by simp[Op.operands])
   rw[hx]at this
   exact⟨_,by simp only[execOp,Rep.int.1 this,Op.unary,Op.intBits,Sem.run_bind,Sem.run_pure];rfl,rfl⟩
  ·rename_i b hx
   refine⟨_,_,h,mZ λc w a hm hA eu=>?_⟩
   have:=eu x (by simp[Op.operands])
   rw[hx]at this
   exact⟨_,by simp only[execOp,Rep.bool.1 this,Op.unary,Sem.run_bind,Sem.run_pure];rfl,rfl⟩
  ·exact h.elim
 case convert s d x=>
  obtain⟨val,hK,hr⟩:=zax hT h
  refine⟨_,_,hK,mZ λc w a hm hA eu=>?_⟩
  obtain⟨u,hu,hx⟩:=hr c w _ (eu x (by simp[Op.operands]))
  exact⟨u,by simp only[execOp];rw[Sem.run_bind,hu];rfl,hx⟩
 case makeSlice t l cp=>
  split at h
  ·rename_i kl n kc m hl hc
   obtain⟨row,val,hK,hr⟩:=qw (kl:=kl) (kc:=kc) hT h
   refine⟨_,_,hK,UT λc w a hm hA eu=>⟨_,rfl,?_⟩⟩
   have h1:=eu l (by simp[Op.operands]);have h2:=eu cp (by simp[Op.operands])
   rw[hl]at h1;rw[hc]at h2
   rw[Rep.int.1 h1,Rep.int.1 h2]
   exact hr c w
  ·exact h.elim
 case slice t x lo hi mx=>
  cases mx with
  |some m=>simp only at h
  |none=>
   simp only at h
   obtain⟨val,hK,hr⟩:=qS hT h
   refine⟨_,_,hK,mZ λc w a hm hA eu=>?_⟩
   obtain⟨u,hu,hx⟩:=hr c w _ a.eval hm hA (eu x (by simp[Op.operands])) (λy hy=>eu y (by simp[Op.operands,hy])) (λy hy=>eu y (by simp[Op.operands,hy]))
   exact⟨u,by simp only[execOp];rw[Sem.run_bind];simp only[Option.map_none];rw[hu];rfl,hx⟩
 case fieldAddr s x f=>
  split at h
  ·rename_i o q n hf
   simp only[da]at h
   obtain⟨h0,h⟩:=h
   have h0:0<n:=lE h0
   obtain⟨fs,fd,g1,g2,g3,g4,g5⟩:=Qyq hT hf
   split at h
   ·rename_i r i off hx
    refine⟨_,_,h,mZ λc w a hm hA eu=>?_⟩
    have:=eu x (by simp[Op.operands])
    rw[hx]at this
    obtain⟨row,k1,kV,k2,hv⟩:=this
    refine⟨_,by simp only[execOp,hv];rw[Sem.run_bind,Z1s g1 g2 (by simp only at g5;omega)];rfl,row,k1,kV,k2,by rw[g3,fY]⟩
   ·rename_i sz es i off hx
    refine⟨_,_,h,mZ λc w a hm hA eu=>?_⟩
    have:=eu x (by simp[Op.operands])
    rw[hx]at this
    obtain⟨b,oo,arr,ty,fz,hv,hI,hi,hh,hE⟩:=this
    refine⟨_,by simp only[execOp,hv];rw[Sem.run_bind,Z1s g1 g2 (by simp only at g5;omega)];rfl,b,oo,arr,ty,fz,by rw[g3,fY],hI,hi,hh,hE⟩
   ·exact h.elim
  ·exact h.elim
 case field s x f=>
  split at h
  ·rename_i o q n hf
   obtain⟨fs,fd,g1,g2,g3,g4,g5⟩:=Qyq hT hf
   simp only at g4 g5
   split at h
   ·rename_i cs ti hx ht
    simp only[da,aE]at h
    obtain⟨⟨h0,hle⟩,h⟩:=h
    have h0:0<n:=lE h0
    have hle:=lE hle
    obtain⟨_,_,_,_,_,Ap,_,_,_,d0,FP⟩:=DH (hT.get ht)
    have run:∀(vs:List Value) (w:World) (r:Value),(part q vs.toArray o).run P w=.ok r w->(Instr.field s (.agg vs.toArray) f).run P w=.ok r w:=λvs w r hr=>by
     simp only[Instr.field,Sem.run_bind,run_underlying g1,Result.andThen_ok,g2,asAgg,Sem.run_pure,g4,g3,hr]
    split at h
    ·rename_i CS
     rw[D.fk]at h
     refine⟨_,_,h,mZ λc w a hm hA eu=>?_⟩
     have:=eu x (by simp[Op.operands])
     rw[hx]at this
     obtain⟨vs,hv,hr⟩:=this
     have hp:=UW (P:=P) FP (by rw[<-My FP,<-Ap];exact CS) (by rw[<-g4,g5];exact h0) vs.toArray o w
     refine⟨_,by simp only[execOp,hv];rw[Sem.run_bind,run vs w _ hp];rfl,(vs.drop o).take n,?_,Zqj hr o n⟩
     rw[<-g4,g5]
     congr 1
     simp[List.extract_toArray,List.extract_eq_take_drop]
    ·rename_i CS
     simp only[D.cq]at h
     obtain⟨mv,h⟩:=h
     refine⟨_,_,h,mZ λc w a hm hA eu=>?_⟩
     have:=eu x (by simp[Op.operands])
     rw[hx]at this
     obtain⟨vs,hv,hr⟩:=this
     have hl:=hr.length
     have iX:vs[o]?=some vs[o]:=cG (by omega)
     have hp:=Hz (P:=P) (t:=q) FP (by rw[<-My FP,<-Ap];exact CS) (xs:=vs.toArray) (o:=o) (v:=vs[o]) (by rw[aY];exact iX) w
     refine⟨_,by simp only[execOp,hv];rw[Sem.run_bind,run vs w _ hp];rfl,?_⟩
     have hc:=(En.1 hr).2 o _ iX
     generalize cs.getD o .dead=d at*
     cases d<;>first|exact hc|trivial|exact hc.elim
   ·exact h.elim
  ·exact h.elim
 case indexAddr t x ix=>
  split at h
  ·rename_i k n hn
   obtain⟨val,hK,hr⟩:=Zp2 (k:=k) hT h
   refine⟨_,_,hK,mZ λc w a hm hA eu=>?_⟩
   have h2:=eu ix (by simp[Op.operands])
   rw[hn]at h2
   obtain⟨u,hu,hx⟩:=hr c w _ hm hA (eu x (by simp[Op.operands]))
   exact⟨u,by simp only[execOp,Rep.int.1 h2];rw[Sem.run_bind,hu];rfl,hx⟩
  ·exact h.elim
 case index t x ix=>
  split at h
  ·rename_i s k n ht hx hn
   have hd:=mX hT ht
   simp only at hd
   simp only[da,decide_eq_true_eq]at h
   obtain⟨⟨h1,h2⟩,h⟩:=h
   refine⟨_,_,h,mZ λc w a hm hA eu=>?_⟩
   have e1:=eu x (by simp[Op.operands]);have e2:=eu ix (by simp[Op.operands])
   rw[hx]at e1;rw[hn]at e2
   refine⟨_,?_,rfl⟩
   have cg:n.toNat<s.length:=by omega
   have hg:(ByteArray.mk s.toArray)[n.toNat]?=some (s.getD n.toNat 0):=by
    have h3:n.toNat<(ByteArray.mk s.toArray).size:=by simpa[ByteArray.size]using cg
    rw[getElem?_pos (ByteArray.mk s.toArray) n.toNat h3]
    simp only[aK,cG cg,aG]
    rfl
   simp only[execOp,Rep.str.1 e1,Rep.int.1 e2,Instr.index,asIntOf,Sem.run_bind,Sem.run_pure,Result.andThen_ok,run_underlying hd,h1,if_true,hg]
  ·rename_i len e iN _ _ _ _ _ cs k n ht hx hn
   have hd:=mX hT ht
   simp only at hd
   obtain⟨hd,fx⟩:=hd
   simp only[da,aE,decide_eq_true_eq]at h
   obtain⟨⟨q1,q2,q3,q4⟩,h⟩:=h
   have q1:=bE q1
   have q2:=bE q2
   have run:∀(vs:List Value) (v:Value) (w:World) (d:TypeDesc),P.underlying e=some d->P2 d=false->vs[n.toNat]?=some v->(Instr.index t (.agg vs.toArray) (.int k n)).run P w=.ok v w:=λvs v w d hu hda hv=>by
    have h0:0<P.cellsOf e:=by omega
    simp only[Instr.index,asIntOf,Sem.run_bind,Sem.run_pure,Result.andThen_ok,run_underlying hd,Sem.run_ite,q3,q4,and_self,if_true,Bz h0]
    rw[fx,q1,Nat.mul_one]
    exact Hz hu hda (by rw[aY];exact hv) w
   have cell:∀(c:Ctx) (w:World) (a:Act),Rep c w (.agg cs) (a.eval x)->∃vs:List Value,a.eval x=.agg vs.toArray/\∃v,vs[n.toNat]?=some v/\cv c w (cs.getD n.toNat .dead) v:=λc w a hr=>by
    obtain⟨vs,hv,hr⟩:=hr
    have hl:=hr.length
    have iX:vs[n.toNat]?=some vs[n.toNat]:=cG (by omega)
    exact⟨vs,hv,_,iX,(En.1 hr).2 _ _ iX⟩
   split at h
   ·rename_i kk _ _ _ _ _ he
    have hu:=mX hT he
    simp only at hu
    obtain⟨h1,h⟩:=h
    refine⟨_,_,h,mZ λc w a hm hA eu=>?_⟩
    have e1:=eu x (by simp[Op.operands]);have e2:=eu ix (by simp[Op.operands])
    rw[hx]at e1;rw[hn]at e2
    obtain⟨vs,hv,v,g1,g2⟩:=cell c w a e1
    have hi:=UO h1 (n:=n.toNat) (by omega)
    rw[aX]at hi
    rw[D.j6 hi]at g2
    refine⟨v,?_,?_⟩
    ·simp only[execOp,Rep.int.1 e2,hv]
     rw[Sem.run_bind,run vs v w _ hu rfl g1];rfl
    ·rw[UM (show n.toNat<len by omega),aX]
     exact g2
   ·rename_i he
    have hu:=mX hT he
    simp only at hu
    obtain⟨h1,h⟩:=h
    refine⟨_,_,h,mZ λc w a hm hA eu=>?_⟩
    have e1:=eu x (by simp[Op.operands]);have e2:=eu ix (by simp[Op.operands])
    rw[hx]at e1;rw[hn]at e2
    obtain⟨vs,hv,v,g1,g2⟩:=cell c w a e1
    have hi:=UP h1 (n:=n.toNat) (by omega)
    rw[aX]at hi
    rw[D.j7 hi]at g2
    refine⟨v,?_,?_⟩
    ·simp only[execOp,Rep.int.1 e2,hv]
     rw[Sem.run_bind,run vs v w _ hu rfl g1];rfl
    ·rw[UN (show n.toNat<len by omega),aX]
     exact g2
   ·exact h.elim
  ·exact h.elim
 case extract x i=>
  split at h
  ·rename_i ds hx
   simp only[da,D.cq]at h
   obtain⟨hv,h⟩:=h
   refine⟨_,_,h,mZ λc w a hm hA eu=>?_⟩
   have:=eu x (by simp[Op.operands])
   rw[hx]at this
   obtain⟨vs,BX,hr⟩:=this
   have cg:i<ds.length:=by
    by_cases hl:i<ds.length
    ·exact hl
    ·rw[aK,aM (by omega)]at hv;simp[D.isVal]at hv
   obtain⟨v,hvi,hvr⟩:=ZE hr i cg
   refine⟨v,?_,?_⟩
   ·simp only[execOp,BX,Instr.extract,aY,hvi];rfl
   ·generalize ds.getD i .dead=d at*
    cases d<;>first|exact hvr|trivial|exact hvr.elim
  ·exact h.elim
 case call cl=>
  obtain⟨callee,args,dc⟩:=cl
  cases callee<;>try(simp only at h)
  case builtin b=>
  cases b<;>try(simp only at h)
  case len=>
   split at h
   ·rename_i x t hx ht
    obtain⟨val,hK,hr⟩:=qaP (t':=type) hT h
    refine⟨_,_,hK,mZ λc w a hm hA eu=>?_⟩
    have gb:args= #[x]:=by rw[<-bS (xs:=args),hx]
    have ui:dc= #[t]:=by rw[<-bS (xs:=dc),ht]
    subst gb;subst ui
    obtain⟨u,hu,hx⟩:=hr c w _ hm hA (eu x (by simp[Op.operands,Call.operands]))
    refine⟨u,?_,hx⟩
    simp only[execOp,resolve,Sem.run_bind,Sem.run_pure,Result.andThen_ok,invoke,builtin]
    have:(#[x]:Array Operand).map a.eval= #[a.eval x]:=by simp
    rw[this,hu];rfl
   ·exact h.elim
def Ctx.kill(c:Ctx)(ks:List Nat):Ctx:={c with R:=λr=>if bw r ks=true then none else(c.R r).map (Row.kill ks)}
structure jF(ks:List Nat)(c:Ctx)(w:World)(c':Ctx)(w':World):Prop where
 mem:Mem c' w'
 bz:jk (c.kill ks) w c' w'
 fr:Fr (λb=>∃r x,c.R r=some x/\¬c.V r/\c.ρ r=b) w w'
 fu:∀b,c'.I b->c.I b\/(∃s row,bw s ks=true/\c.R s=some row/\¬c.V s/\c.ρ s=b)\/w.heap.size<=b
 og:∀r ak,c'.R r=some ak->¬c'.V r->((∃row,c.R r=some row)/\¬c.V r/\c'.ρ r=c.ρ r)\/(∃s row,bw s ks=true/\c.R s=some row/\¬c.V s/\c'.ρ r=c.ρ s)\/w.heap.size<=c'.ρ r
def j9(P:Program)(f:FuncId)(args:List D)(rows:List Row)(res:D)(aj:List Row):Prop:=
 ∀ (c:Ctx) (w:World) (vs:List Value),Mem c w->c.base=w.heap.size->(∀r,c.R r=rows[r]?)->j8 c w args vs->
  Calls P f vs.toArray w λe w'=>∃v c',e=.returned v/\lP c w c' w'/\(∀r,c'.R r=aj[r]?)/\Rep c' w' res v
def Gv(P:Program)(I:ae)(f:FuncId)(vs:List Value)(w:World)(R:Ending->World->Prop):Prop:=
 (f<YB->Calls P f vs.toArray w R)/\
 (YB<=f->∀l rec xs us,vs=xs++us->I l->w.heap[l]?=some (.loop rec)->P8 f us rec->xs.length=1->
  RoundIn Fence.wide 0 P l rec.fn ((rec.params.zip xs.toArray).foldl (λtmps (t,a)=>tmps.setIfInBounds t a) rec.tmps) rec.assign rec.body w R)
theorem Gv.mono{P:Program}{I I':ae}{f:FuncId}{vs:List Value}{w:World}{R R':Ending->World->Prop}(h:Gv P I f vs w R)(hI:∀b,I' b->I b)(hR:∀e w',R e w'->R' e w'):Gv P I' f vs w R':=
 ⟨λhf=>(h.1 hf).mono hR,λhf l rec xs us h1 h2 h3 h4 h5=>(h.2 hf l rec xs us h1 (hI l h2) h3 h4 h5).mono hR⟩
theorem Gv.real{P:Program}{I:ae}{f:FuncId}{vs:List Value}{w:World}{R:Ending->World->Prop}(hf:f<YB)(h:Calls P f vs.toArray w R):Gv P I f vs w R:=⟨λ_=>h,λhg=>absurd hf (Nat.not_lt.2 hg)⟩
def sI(P:Program)(f:FuncId)(k:Nat)(args:List D)(rows:List Row)(res:D)(aj:List Row):Prop:=
 ∀ (c:Ctx) (w:World) (vs:List Value),Mem c w->c.base=0->(∀r,c.R r=rows[r]?)->j8 c w args vs->
  Gv P c.I f vs w λe w'=>∃v c',e=.returned v/\jF (List.range' k (rows.length-k)) c w c' w'/\(∀r,c'.R r=aj[r]?)/\Rep c' w' res v
def kR:D->Prop|.int _ _=>True|.bool _=>True|.str _=>True|.du=>True|.iM=>True|.emp=>True|_=>False
def CT.kR:CT->Bool|.int _=>true|.bool=>true|.str=>true|_=>false
def RK.kR(k:RK):Bool:=k.sig.all CT.kR
def ao.FQ:ao->Prop
 |.gen es=>∀e∈es,∀d∈e,kR d
 |.av k _=>k.kR=true
 |_=>True
theorem Zad:∀{ts:List CT} {cs:List D} {j:Nat},ts.all CT.kR=true->∀d∈wg ts cs j,kR d
 |[],_,_,_,d,h=>by simp[wg]at h
 |t ::ts,cs,j,ht,d,h=>by
  simp only[List.all_cons,aE]at ht
  simp only[wg,cS]at h
  rcases h with h|h
  ·subst h
   cases t<;>first|trivial|(simp[CT.kR]at ht)
  ·exact Zad ht.2 d h
theorem ao.CV{E:ao}(h:E.FQ):∀e∈E.l,∀d∈e,kR d:=by
 cases E with
 |gen es=>exact h
 |ints k l=>
  intro e he d hd
  simp only[ao.l,gA]at he
  obtain⟨n,_,rfl⟩:=he
  simp at hd
  subst hd;trivial
 |bo l=>
  intro e he d hd
  simp only[ao.l,gA]at he
  obtain⟨n,_,rfl⟩:=he
  simp at hd
  subst hd;trivial
 |av k l=>
  intro e he d hd
  simp only[ao.l,gA]at he
  obtain⟨x,_,rfl⟩:=he
  rw[<-RK.oc]at hd
  exact Zad h d hd
def P9:D->Prop
 |.sl _ es fr=>(es.Nil\/fr=true)/\es.FQ
 |.iu _ _ _ _=>False
 |.gq _ _=>False
 |_=>True
def MC:List D->Prop
 |[]=>True
 |d::ds=>P9 d/\MC ds
def UX:D->Prop
 |.agg cs=>MC cs
 |d=>P9 d
def FR:List D->Prop
 |[]=>True
 |d::ds=>UX d/\FR ds
def FF:D->Prop
 |.dt ds=>FR ds
 |d=>UX d
def JP(row:Row):Prop:=if row.box then∀e∈row.es.l,MC e else row.es.FQ
def rG:List Row->Prop
 |[]=>True
 |r::l=>JP r/\rG l
structure bj(P:Program)(x:bc):Prop where
 enters:x.f<YB->∀args w,(callFunc x.f args).run P w=.ok (.enter x.f args) w
 real:x.gone=none->x.f<YB
 ok:x.gone=none->∀args rows res aj,x.m args rows=.ok res aj->j9 P x.f args rows res aj/\(x.flat=true->FF res/\rG aj)
 when:x.gone=none->∀args rows p res aj,x.m args rows=.when p res aj->p->j9 P x.f args rows res aj/\(x.flat=true->FF res/\rG aj)
 abs:x.gone=none->∀args rows α v res aj,x.m args rows=.abs α v res aj->j9 P x.f args rows (res v) (aj v)/\(x.flat=true->FF (res v)/\rG (aj v))
 lO:x.gone=none->∀args rows p α v res aj,x.m args rows=.lO p α v res aj->p->j9 P x.f args rows (res v) (aj v)/\(x.flat=true->FF (res v)/\rG (aj v))
 PZ:∀k,x.gone=some k->∀args rows α v res aj,x.m args rows=.abs α v res aj->sI P x.f k args rows (res v) (aj v)
 Hv:∀k,x.gone=some k->∀args rows p α v res aj,x.m args rows=.lO p α v res aj->p->sI P x.f k args rows (res v) (aj v)
def jT(P:Program)(G:List bc):Prop:=∀x∈G,bj P x
theorem Gg{P:Program}:∀{G:List bc} {f:FuncId} {x:bc},jT P G->oO G f=some x->bj P x/\x.f=f
 |[],f,x,_,h=>by simp[oO]at h
 |y ::l,f,x,hG,h=>by
  simp only[oO]at h
  split at h
  ·rename_i hb
   simp at h;subst h
   exact⟨hG y (by simp),bE hb⟩
  ·exact Gg (λz hz=>hG z (by simp[hz])) h
theorem Zn:∀{rows:List Row} {i:Nat} {row:Row},rG rows->rows[i]?=some row->JP row
 |r::l,0,row,h,hi=>by simp at hi;subst hi;exact h.1
 |r::l,i+1,row,h,hi=>Zn h.2 (by simpa using hi)
 |[],i,row,_,hi=>by simp at hi
theorem oj{r:Nat}:∀{l:List Nat},bw r l=true↔r∈l
 |[]=>by simp[bw]
 |x ::l=>by
  simp only[bw]
  cases hb:Nat.beq x r with
  |true=>have:=bE hb;subst this;simp
  |false=>
   have gl:¬r=x:=λe=>by rw[e]at hb;simp at hb
   simp[oj (l:=l),gl]
theorem Ms:∀{l m:List Nat},pD l m=true↔ ∀r∈l,r∈m
 |[],m=>by simp[pD]
 |x::l,m=>by
  simp only[pD]
  cases hb:bw x m with
  |true=>simp[Ms (l:=l),oj.1 hb]
  |false=>simp[show¬x∈m fromλe=>by rw[oj.2 e]at hb;cases hb]
theorem Ux:∀{l m:List Nat},nO l m=true↔ ∀r∈l,¬r∈m
 |[],m=>by simp[nO]
 |x::l,m=>by
  simp only[nO]
  cases hb:bw x m with
  |true=>simp[oj.1 hb]
  |false=>simp[Ux (l:=l),show¬x∈m fromλe=>by rw[oj.2 e]at hb;cases hb]
theorem Mt:∀{l:List Nat},Ep l=true↔l.Nodup
 |[]=>by simp[Ep]
 |x::l=>by
  simp only[Ep,List.nodup_cons]
  cases hb:bw x l with
  |true=>simp[oj.1 hb]
  |false=>simp[Mt (l:=l),show¬x∈l fromλe=>by rw[oj.2 e]at hb;cases hb]
theorem Znz{r:Nat}:∀{l:List Nat} {k:Nat},r∈l->∃j,pos r l k=k+j/\l[j]?=some r
 |x ::l,k,h=>by
  simp only[pos]
  cases hb:Nat.beq x r with
  |true=>exact⟨0,rfl,by simp[bE hb]⟩
  |false=>
   have gl:¬r=x:=λe=>by rw[e]at hb;simp at hb
   have hm:r∈l:=by simpa[gl]using h
   obtain⟨j,h1,h2⟩:=Znz (k:=k+1) hm
   exact⟨j+1,by show pos r l (k+1)=_;rw[h1];omega,by simpa using h2⟩
theorem Bw{r:Nat}{l:List Nat}(h:r∈l):l[pos r l 0]?=some r:=by
 obtain⟨j,h1,h2⟩:=Znz (k:=0) h
 rw[h1,aX];exact h2
structure Em(S:Nat->Prop)(f:Nat->Nat)(cu:Bool)(c1 c2:Ctx):Prop where
 row:∀i row,S i->c1.R i=some row->∃ak,c2.R (f i)=some ak/\ak.box=row.box/\ak.ty=row.ty/\ak.sz=row.sz/\ak.es.l.length=row.es.l.length/\c2.ρ (f i)=c1.ρ i/\(c2.V (f i)↔c1.V i)
 base:cu=true->c2.base<=c1.base
 top:c1.top<=c2.top
theorem zR{I I':ae}{w:World}{d:D}{v:Value}(hs:kR d)(h:fy I w d v):fy I' w d v:=by
 cases h<;>first|exact hs.elim|constructor
theorem Z8d{I I':ae}{w:World}:∀{cs:List D} {arr:Array Value} {off:Nat},(∀d∈cs,kR d)->nQ I w cs arr off->nQ I' w cs arr off
 |[],_,_,_,_=>by simp[BP,Aq]
 |d::cs,arr,off,hs,h=>by
  simp only[BP,Aq]at h⊢
  obtain⟨⟨v,hv,hp⟩,hr⟩:=h
  exact⟨⟨v,hv,zR (hs d (by simp)) hp⟩,Z8d (λe he=>hs e (by simp[he])) hr⟩
theorem ZI{I I':ae}{w:World}:∀{es:List (List D)} {arr:Array Value} {off sz:Nat},(∀e∈es,∀d∈e,kR d)->iJ I w es arr off sz->iJ I' w es arr off sz
 |[],_,_,_,_,_=>by simp[pN,oi]
 |e::es,arr,off,sz,hs,h=>by
  simp only[pN,oi]at h⊢
  exact⟨h.1,Z8d (hs e (by simp)) h.2.1,ZI (λf hf=>hs f (by simp[hf])) h.2.2⟩
theorem VRep.EK{c:Ctx}{w:World}{d:D}{v:Value}(h:cv c w d v):VRep c w d v:=by cases d<;>first|exact h|exact h.elim
theorem VRep.toC{c:Ctx}{w:World}{d:D}{v:Value}(hd:∀cs,d≠.agg cs)(h:VRep c w d v):cv c w d v:=by cases d<;>first|exact h|exact absurd rfl (hd _)
theorem Rep.KE{c:Ctx}{w:World}{d:D}{v:Value}(h:VRep c w d v):Rep c w d v:=by cases d<;>first|exact h|exact h.elim|trivial
theorem Rep.toV{c:Ctx}{w:World}{d:D}{v:Value}(hd:∀ds,d≠.dt ds)(h0:d≠.dead)(h:Rep c w d v):VRep c w d v:=by cases d<;>first|exact h|exact absurd rfl (hd _)|exact absurd rfl h0
theorem Z39{f:Nat->Nat}{cu:Bool}:∀{e:List D},(D.mG f cu e).length=e.length
 |[]=>rfl
 |d::l=>by simp[D.mG,Z39 (e:=l)]
section
variable {S:Nat->Prop} {f:Nat->Nat} {cu:Bool} {c1 c2:Ctx} {w:World} (hn:Em S f cu c1 c2) {flat:Prop} (hI:(∀b,c1.I b->c2.I b)\/(flat/\∀b,c1.I b->c1.base<=b->c2.I b))
include hn hI
theorem Zg1{d:D}{v:Value}(gl:∀f cs,d≠.gq f cs)(hS:∀r∈nN d,S r)(jP:flat->P9 d)(h:cv c1 w d v):cv c2 w (d.mF f cu) v:=by
 cases d with
 |sl sz es fr=>
  obtain⟨a,cap,hv,hc,ij⟩:=h
  refine⟨a,cap,hv,hc,?_⟩
  rcases ij with ij|⟨b,off,arr,ty,fz,ha,iI,hf,hh,hE⟩
  ·exact .inl ij
  ·have hb:(fr&&cu)=true->c2.base<=b:=λe=>by
    simp only[aE]at e
    exact Nat.le_trans (hn.base e.2) (hf e.1)
   rcases hI with hi|⟨FT,hi⟩
   ·exact .inr ⟨b,off,arr,ty,fz,ha,hi b iI,hb,hh,od (λb hb=>⟨hi b hb,rfl⟩) _ _ _ _ hE⟩
   ·obtain⟨h1,h2⟩:=jP FT
    rcases h1 with h1|h1
    ·exact .inl (ao.ot.1 h1)
    ·exact .inr ⟨b,off,arr,ty,fz,ha,hi b iI (hf h1),hb,hh,ZI (ao.CV h2) hE⟩
 |all r=>
  obtain⟨row,hr,hb,h⟩:=h
  obtain⟨ak,g1,g2,g3,g4,g5,g6,gV⟩:=hn.row r row (hS r (by simp[nN])) hr
  refine⟨ak,g1,g2.trans hb,?_⟩
  rcases h with⟨hV,hv⟩|⟨hV,cap,arr,hv,h1,h2,h3,h4⟩
  ·obtain⟨a,hv,ho⟩:=hv;exact .inl ⟨gV.2 hV,a,hv,ho.mono hn.top⟩
  ·exact .inr ⟨λe=>hV (gV.1 e),cap,arr,by rw[hv,g5,g6],by rw[g5];exact h1,h2,by rw[g6,g3];exact h3,by rw[g4];exact h4⟩
 |own r o n=>
  obtain⟨row,hr,hb,ho,h⟩:=h
  obtain⟨ak,g1,g2,g3,g4,g5,g6,gV⟩:=hn.row r row (hS r (by simp[nN])) hr
  refine⟨ak,g1,g2.trans hb,by rw[g5];exact ho,?_⟩
  rcases h with⟨h0,a,hv,je⟩|⟨hV,cap,arr,h1,h2,h3,h4,h5⟩
  ·exact .inl ⟨h0,a,hv,je.mono hn.top gV g6⟩
  ·exact .inr ⟨λe=>hV (gV.1 e),cap,arr,h1,h2,by rw[g6,g3];exact h3,by rw[g4,g6];exact h4,by rw[g4];exact h5⟩
 |ptr r i off=>
  obtain⟨row,hr,hV,hi,hv⟩:=h
  obtain⟨ak,g1,g2,g3,g4,g5,g6,gV⟩:=hn.row r row (hS r (by simp[nN])) hr
  exact⟨ak,g1,λe=>hV (gV.1 e),by rw[g5];exact hi,by rw[hv,g6,g4]⟩
 |pa r i off len k n=>
  obtain⟨cg,row,hr,hV,hi,hv⟩:=h
  obtain⟨ak,g1,g2,g3,g4,g5,g6,gV⟩:=hn.row r row (hS r (by simp[nN])) hr
  exact⟨cg,ak,g1,λe=>hV (gV.1 e),by rw[g5];exact hi,by rw[hv,g6,g4]⟩
 |iu sz es i off=>
  obtain⟨b,o,arr,ty,fz,hv,iI,iz,hh,hE⟩:=h
  rcases hI with hi|⟨FT,hi⟩
  ·exact⟨b,o,arr,ty,fz,hv,hi b iI,iz,hh,od (λb hb=>⟨hi b hb,rfl⟩) _ _ _ _ hE⟩
  ·exact(jP FT).elim
 |c8 r=>
  rcases h with h|⟨row,hr,hV,hi,hv⟩
  ·exact .inl h
  ·obtain⟨ak,g1,g2,g3,g4,g5,g6,gV⟩:=hn.row r row (hS r (by simp[nN])) hr
   exact .inr ⟨ak,g1,λe=>hV (gV.1 e),by rw[g5];exact hi,by rw[hv,g6,g4]⟩
 |gq f cs=>exact absurd rfl (gl f cs)
 |emp=>obtain⟨a,hv,ho⟩:=h;exact⟨a,hv,ho.mono hn.top⟩
 |_=>exact h
theorem ZJ{d:D}{v:Value}(hS:∀r∈nN d,S r)(jP:flat->P9 d)(h:cv c1 w d v):cv c2 w (d.mF f cu) v:=by
 by_cases e:∃g cs,d=.gq g cs
 ·obtain⟨g,cs,rfl⟩:=e
  obtain⟨us,hv,hu⟩:=h
  have hi:∀b,c1.I b->c2.I b/\w.heap[b]?=w.heap[b]? :=by
   rcases hI with hi|⟨FT,_⟩
   ·exactλb hb=>⟨hi b hb,rfl⟩
   ·exact(jP FT).elim
  exact⟨us,Mx hi hv,Zx (Fk:=λ_=>True) (λd v h1 h2 h3=>Zg1 hn (flat:=False) (.inl λb hb=>(hi b hb).1) h1 h2 (λe=>e.elim) h3) (λ_ _ _ _=>Mx hi) (λ_ _ _=>trivial) hS hu⟩
 ·exact Zg1 hn hI (λf cs e'=>e ⟨f,cs,e'⟩) hS jP h
theorem Znc:∀{ds:List D} {vs:List Value},(∀r∈pU ds,S r)->(flat->MC ds)->jm c1 w ds vs->jm c2 w (D.mG f cu ds) vs
 |[],[],_,_,_=>trivial
 |d::ds,v::vs,hS,jP,h=>⟨ZJ hn hI (λr hr=>hS r (by simp[pU,hr])) (λe=>(jP e).1) h.1,Znc (λr hr=>hS r (by simp[pU,hr])) (λe=>(jP e).2) h.2⟩
 |[],_::_,_,_,h=>h.elim
 |_::_,[],_,_,h=>h.elim
theorem QA{d:D}{v:Value}(hS:∀r∈FL d,S r)(jP:flat->UX d)(h:VRep c1 w d v):VRep c2 w (d.jg f cu) v:=by
 cases d with
 |agg cs=>obtain⟨vs,hv,hr⟩:=h;exact⟨vs,hv,Znc hn hI hS jP hr⟩
 |dt ds=>exact h.elim
 |_=>
  refine VRep.EK (ZJ hn hI ?_ ?_ (VRep.toC ?_ h))
  ·exact hS
  ·exact jP
  ·intro cs e;cases e
theorem Zo0:∀{ds:List D} {vs:List Value},(∀d∈ds,∀r∈FL d,S r)->(flat->FR ds)->j8 c1 w ds vs->j8 c2 w (D.Bc f cu ds) vs
 |[],[],_,_,_=>trivial
 |d::ds,v::vs,hS,jP,h=>⟨QA hn hI (hS d (by simp)) (λe=>(jP e).1) h.1,Zo0 (λd hd=>hS d (by simp[hd])) (λe=>(jP e).2) h.2⟩
 |[],_::_,_,_,h=>h.elim
 |_::_,[],_,_,h=>h.elim
theorem Y8{d:D}{v:Value}(hS:∀r,S r)(jP:flat->FF d)(h:Rep c1 w d v):Rep c2 w (d.sZ f cu) v:=by
 cases d with
 |dt ds=>obtain⟨vs,hv,hr⟩:=h;exact⟨vs,hv,Zo0 hn hI (λ_ _ r _=>hS r) jP hr⟩
 |agg cs=>exact QA hn hI (d:=.agg cs) (λr _=>hS r) jP h
 |dead=>trivial
 |_=>
  have h':=Rep.toV (λds e=>by cases e) (λe=>by cases e) h
  have h2:=QA hn hI (λr _=>hS r) (λe=>by have:=jP e;exact this) h'
  exact Rep.KE h2
theorem UY:∀{ds:List D} {arr:Array Value} {off:Nat},(∀r∈pU ds,S r)->(flat->MC ds)->kK c1 w ds arr off->kK c2 w (D.mG f cu ds) arr off
 |[],_,_,_,_,_=>trivial
 |d::ds,arr,off,hS,jP,⟨⟨v,hv,h1⟩,h2⟩=>⟨⟨v,hv,ZJ hn hI (λr hr=>hS r (by simp[pU,hr])) (λe=>(jP e).1) h1⟩,UY (λr hr=>hS r (by simp[pU,hr])) (λe=>(jP e).2) h2⟩
theorem Y6{i j:Nat}{row:Row}(P3:c2.ρ j=c1.ρ i)(hV:c2.V j↔c1.V i)(hS:row.box=true->∀e,row.es=.gen [e]->∀r∈pU e,S r)(jP:flat->JP row)(h:EM c1 w i row):EM c2 w j (row.jg f cu):=by
 have sh:(row.jg f cu).box=row.box/\(row.jg f cu).ty=row.ty/\(row.jg f cu).sz=row.sz:=by
  unfold Row.jg;split<;>exact⟨rfl,rfl,rfl⟩
 rcases h with⟨h0,h1,h2,h3⟩|⟨h0,arr,ha,hs,hx⟩
 ·refine .inl ⟨hV.2 h0,?_⟩
  unfold Row.jg
  split
  ·simp at h1
  ·exact⟨h1,h2,h3⟩
 ·refine .inr ⟨λe=>h0 (hV.1 e),arr,by rw[P3,sh.2.1];exact ha,by rw[sh.2.2];exact hs,?_⟩
  rw[sh.1,sh.2.2]
  split
  ·rename_i hb
   simp only[hb,if_true]at hx
   obtain⟨e,k1,k2,k3,k4⟩:=hx
   obtain⟨box,ty,sz,es⟩:=row
   simp only at hb k1 k2 k3 k4
   subst hb;subst k1
   refine⟨D.mG f cu e,rfl,?_,k3,UY hn hI (hS rfl e rfl) (λe'=>?_) k4⟩
   ·rw[Z39];exact k2
   ·have:=jP e'
    simp only[JP,if_true]at this
    exact this e (by simp[ao.l])
  ·rename_i hb
   simp only[hb,aN,if_false]at hx
   have he:(row.jg f cu).es=row.es:=by
    unfold Row.jg
    split
    ·simp at hb
    ·rfl
   rw[he]
   rcases hI with hi|⟨FT,hi⟩
   ·exact od (λb hb=>⟨hi b hb,rfl⟩) _ _ _ _ hx
   ·have:=jP FT
    simp only[JP,hb,aN,if_false]at this
    exact ZI (ao.CV this) hx
end
def Ctx.pass(c:Ctx)(w:World)(ids:List Nat)(rows:List Row)(len:Bool):Ctx:=
 { ρ:=λi=>match ids[i]? with|some r=>c.ρ r|none=>0,R:=λi=>rows[i]?,V:=λi=>match ids[i]? with|some r=>c.V r|none=>False,
   I:=λb=>c.I b\/(len=true/\ ∃r row,c.R r=some row/\ ¬c.V r/\row.box=false/\r∉ids/\c.ρ r=b),base:=w.heap.size,top:=c.top,X:=λ_=>False}
section
variable {c:Ctx} {w:World} {R:Rows} {ids:List Nat} {dz:List Row} {len:Bool}
theorem Znb(hm:Mem c w)(hA:mJ c R){d d':D}{v:Value}(h:FK R d=some d')(hl:nN d≠[]->len=true)(hd:∀r∈nN d,r∉ids)(hr:cv c w d v):cv (c.pass w ids dz len) w d' v:=by
 have nG:∀b,c.I b->(c.pass w ids dz len).I b/\w.heap[b]?=w.heap[b]? :=λb hb=>⟨.inl hb,rfl⟩
 cases d<;>simp only[FK]at h<;>try(cases h;done)
 case bool b=>cases h;exact hr
 case int k n=>cases h;exact hr
 case str s=>cases h;exact hr
 case iM=>cases h;exact hr
 case jJ=>cases h;exact hr
 case du=>cases h;exact⟨none,0,hr,aO _,.inl rfl⟩
 case emp=>cases h;obtain⟨a,hv,_⟩:=hr;exact⟨a,0,hv,aO _,.inl rfl⟩
 case sl sz es fr=>
  cases h
  obtain⟨a,cap,hv,hc,ij⟩:=hr
  refine⟨a,cap,hv,hc,?_⟩
  rcases ij with ij|⟨b,off,arr,ty,fz,ha,hI,hf,hh,hE⟩
  ·exact .inl ij
  ·exact .inr ⟨b,off,arr,ty,fz,ha,.inl hI,by simp,hh,od nG _ _ _ _ hE⟩
 case all r=>
  split at h
  ·rename_i row hR
   split at h
   ·rename_i hb
    cases h
    obtain⟨ak,g1,g2,hv⟩:=hr
    have:=hA r ak _ g1 hR
    subst this
    rcases hv with⟨hV,a,hv,_⟩|⟨hV,cap,arr,hv,g3,g4,g5,g6⟩
    ·have he:=(hm.oe g1 hV).2.1
     exact⟨a,0,by rw[he];exact hv,by rw[he];exact aO _,.inl he⟩
    refine⟨_,cap,hv,g3,?_⟩
    obtain⟨iO,jC,hs,hx⟩:=hm.real g1 hV
    rw[g5]at jC;cases jC
    simp only[hb,aN,if_false]at hx
    exact .inr ⟨_,0,arr,_,_,rfl,.inr ⟨hl (by simp[nN]),r,_,g1,hV,hb,hd r (by simp[nN]),rfl⟩,by simp,g5,od nG _ _ _ _ hx⟩
   ·cases h
  ·cases h
 case own r o n=>
  split at h
  ·rename_i row hR
   split at h
   ·rename_i hb
    cases h
    obtain⟨ak,g1,g2,g5,hv⟩:=hr
    have:=hA r ak _ g1 hR
    subst this
    have hlen:((ak.es.drop o).take n).l.length=n:=by rw[ao.iZ,ao.kb];simp only[List.length_take,List.length_drop];omega
    rcases hv with⟨g7,a,hv,_⟩|⟨hV,cap,arr,g3,g4,g6,hv,g7⟩
    ·subst g7
     exact⟨a,0,by rw[hlen];exact hv,by omega,.inl (by rw[ao.iZ];simp)⟩
    obtain⟨iO,jC,hs,hx⟩:=hm.real g1 hV
    rw[g6]at jC;cases jC
    simp only[hb,aN,if_false]at hx
    refine⟨_,cap,by rw[hlen];exact hv,by omega,.inr ⟨_,o*ak.sz,arr,_,_,rfl,.inr ⟨hl (by simp[nN]),r,_,g1,hV,hb,hd r (by simp[nN]),rfl⟩,by simp,g6,od nG _ _ _ _ ?_⟩⟩
    have:=Mo (n:=n) (KA (l:=o) hx)
    rw[ao.iZ,ao.kb]
    simpa using this
   ·cases h
  ·cases h
theorem Zn5(hm:Mem c w)(hA:mJ c R):∀{ds om:List D} {vs:List Value},JK R ds=some om->(pU ds≠[]->len=true)->(∀r∈pU ds,r∉ids)->jm c w ds vs->jm (c.pass w ids dz len) w om vs
 |[],om,[],h,_,_,_=>by simp[JK]at h;subst h;trivial
 |[],_,_::_,_,_,_,hr=>hr.elim
 |_::_,_,[],_,_,_,hr=>hr.elim
 |d ::ds,om,v::vs,h,hl,hd,hr=>by
  simp only[JK]at h
  split at h
  ·rename_i x xs h1 h2
   cases h
   exact⟨Znb hm hA h1 (λe=>hl (by simp[pU,e])) (λr e=>hd r (by simp[pU,e])) hr.1,Zn5 hm hA h2 (λe=>hl (by simp[pU,e])) (λr e=>hd r (by simp[pU,e])) hr.2⟩
  ·cases h
theorem Znj(hm:Mem c w)(hA:mJ c R){d d':D}{v:Value}(h:conv R d=some d')(hl:FL d≠[]->len=true)(hd:∀r∈FL d,r∉ids)(hr:Rep c w d v):VRep (c.pass w ids dz len) w d' v:=by
 cases d with
 |agg cs=>
  simp only[conv,Option.map_eq_some_iff]at h
  obtain⟨rR,h1,rfl⟩:=h
  obtain⟨vs,hv,hx⟩:=hr
  exact⟨vs,hv,Zn5 hm hA h1 hl hd hx⟩
 |dt ds=>simp[conv,FK]at h
 |dead=>simp[conv,FK]at h
 |_=>
  simp only[conv]at h
  simp only[Rep,VRep]at hr
  exact VRep.EK (Znb hm hA h hl hd hr)
theorem FJ{f:Nat->Nat}:∀{ids:List Nat} {rows:List Row},Bv R f ids=some rows->rows.length=ids.length/\∀(i r:Nat),ids[i]?=some r->∃row,R.getD r none=some row/\rows[i]?=some (row.jg f false)
 |[],rows,h=>by simp[Bv]at h;subst h;exact⟨rfl,λi r h=>by simp at h⟩
 |r ::l,rows,h=>by
  simp only[Bv]at h
  split at h
  ·rename_i row rs h1 h2
   cases h
   obtain⟨g1,g2⟩:=FJ h2
   refine⟨by simp[g1],λi q hq=>?_⟩
   cases i with
   |zero=>simp at hq;subst hq;exact⟨row,h1,rfl⟩
   |succ i=>exact g2 i q (by simpa using hq)
  ·cases h
theorem JI(f:Nat->Nat)(cu:Bool)(row:Row):(row.jg f cu).box=row.box/\(row.jg f cu).ty=row.ty/\(row.jg f cu).sz=row.sz/\(row.jg f cu).es.l.length=row.es.l.length:=by
 unfold Row.jg;split<;>exact⟨rfl,rfl,rfl,rfl⟩
theorem Z44{r:Nat}:∀{l:List Nat},r∈CO R l↔ ∃q∈l,∃ty sz e,R.getD q none=some ⟨true,ty,sz,.gen [e]⟩/\r∈pU e
 |[]=>by simp[CO]
 |q ::l=>by
  simp only[CO,List.mem_append,Z44 (l:=l),cS]
  constructor
  ·rintro(h|⟨q',h1,h2⟩)
   ·split at h
    ·rename_i ty sz e he
     exact⟨q,.inl rfl,ty,sz,e,he,h⟩
    ·simp at h
   ·exact⟨q',.inr h1,h2⟩
  ·rintro⟨q',h1|h1,ty,sz,e,h2,h3⟩
   ·subst h1
    left
    rw[h2];exact h3
   ·exact .inr ⟨q',h1,ty,sz,e,h2,h3⟩
theorem UD(hR:∀r row,r∈ids->R.getD r none=some row->c.R r=some row)(cw:Bv R (λr=>pos r ids 0) ids=some dz):Em (λr=>r∈ids) (λr=>pos r ids 0) false c (c.pass w ids dz len):=by
 obtain⟨hl,hg⟩:=FJ cw
 refine⟨λr row hr cb=>?_,(λh=>by cases h),aO _⟩
 have hp:=Bw hr
 obtain⟨jY,h1,h2⟩:=hg _ r hp
 have:row=jY:=by have:=hR r jY hr h1;rw[cb]at this;exact Option.some.inj this
 subst this
 obtain⟨s1,s2,s3,s4⟩:=JI (λr=>pos r ids 0) false row
 exact⟨_,h2,s1,s2,s3,s4,by simp[Ctx.pass,hp],by simp[Ctx.pass,hp]⟩
theorem Y7(hm:Mem c w)(hR:∀r row,r∈ids->R.getD r none=some row->c.R r=some row)(kZ:ids.Nodup)(gn:∀r∈CO R ids,r∈ids)(cw:Bv R (λr=>pos r ids 0) ids=some dz):Mem (c.pass w ids dz len) w:=by
 have hn:=UD (len:=len) (w:=w) hR cw
 obtain⟨hl,hg⟩:=FJ cw
 have inv:∀i x,(c.pass w ids dz len).R i=some x->∃r row,ids[i]?=some r/\c.R r=some row/\R.getD r none=some row/\x=row.jg (λr=>pos r ids 0) false/\(c.pass w ids dz len).ρ i=c.ρ r/\((c.pass w ids dz len).V i↔c.V r):=by
  intro i x hx
  have jE:dz[i]?=some x:=hx
  have cg:=(List.getElem?_eq_some_iff.1 jE).1
  have hi:ids[i]?=some ids[i]:=cG (by omega)
  obtain⟨row,h1,h2⟩:=hg i _ hi
  rw[jE]at h2
  exact⟨_,row,hi,hR _ row (fW hi) h1,h1,Option.some.inj h2,by simp[Ctx.pass,hi],by simp[Ctx.pass,hi]⟩
 refine⟨λi x hx=>?_,λi j x y hx hy v1 v2 he=>?_,λb hb=>?_,hm.top,hm.kN.mono λb hb=>⟨.inl hb,rfl⟩⟩
 ·obtain⟨r,row,g1,g2,g3,rfl,g5,g6⟩:=inv i x hx
  refine Y6 hn (flat:=False) (.inl λb hb=>.inl hb) g5 g6 (λpn e he q hq=>?_) (λe=>e.elim) (hm.row r row g2)
  obtain⟨box,ty,sz,es⟩:=row
  simp only at pn he
  subst pn
  have h1:∃e0,es=.gen [e0]:=by
   rcases hm.row r _ g2 with⟨_,hh,_⟩|⟨_,arr,_,_,hx⟩
   ·cases hh
   ·simp only[if_true]at hx;obtain⟨e0,h,_⟩:=hx;exact⟨e0,h⟩
  obtain⟨e0,rfl⟩:=h1
  cases he
  exact gn q (Z44.2 ⟨r,fW g1,ty,sz,e,g3,hq⟩)
 ·obtain⟨r,row,g1,g2,g3,_,g5,g6⟩:=inv i x hx
  obtain⟨s,ak,k1,k2,k3,_,k5,k6⟩:=inv j y hy
  rw[g5,k5]at he
  have:r=s:=hm.inj r s _ _ g2 k2 (λe=>v1 (g6.2 e)) (λe=>v2 (k6.2 e)) he
  subst this
  exact(List.getElem?_inj (List.getElem?_eq_some_iff.1 g1).1 kZ).1 (g1.trans k1.symm)
 ·rcases hb with hb|⟨_,r,row,hr,hV,wX,IE,rfl⟩
  ·refine⟨(hm.fu b hb).1,λi x hx v=>?_⟩
   obtain⟨r,row,g1,g2,g3,_,g5,g6⟩:=inv i x hx
   rw[g5];exact(hm.fu b hb).2 r row g2 (λe=>v (g6.2 e))
  ·refine⟨hm.lt hr hV,λi x hx v=>?_⟩
   obtain⟨s,ak,g1,g2,g3,_,g5,g6⟩:=inv i x hx
   rw[g5]
   intro e
   have:=hm.inj s r _ _ g2 hr (λe=>v (g6.2 e)) hV e
   subst this
   exact IE (fW g1)
theorem Mu(hm:Mem c w)(hA:mJ c R)(hn:Em (λr=>r∈ids) (λr=>pos r ids 0) false c (c.pass w ids dz len)){ρ:Operand->Value}{ev:Operand->D}:
 ∀{bs:List Bool} {xs:List Operand} {om:List D},sV R (λr=>pos r ids 0) bs (xs.map ev)=some om->(lN bs (xs.map ev)≠[]->len=true)->(∀r∈lN bs (xs.map ev),r∉ids)->(∀r∈CW bs (xs.map ev),r∈ids)->(∀x∈xs,Rep c w (ev x) (ρ x))->j8 (c.pass w ids dz len) w om (xs.map ρ)
 |bs,[],om,h,_,_,_,_=>by cases bs<;>(try(rename_i b bs;cases b))<;>(simp[sV]at h;subst h;trivial)
 |true::bs,x::xs,om,h,hl,hd,hi,hr=>by
  simp only[fR,sV]at h
  simp only[fR,lN,CW]at hl hd hi
  split at h
  ·rename_i ys hv h2
   cases h
   have hx:VRep c w (ev x) (ρ x):=Rep.toV (λds e=>by rw[e]at hv;simp[D.isVal]at hv) (λe=>by rw[e]at hv;simp[D.isVal]at hv) (hr x (by simp))
   exact⟨QA hn (flat:=False) (.inl λb hb=>.inl hb) (λr e=>hi r (by simp[e])) (λe=>e.elim) hx,Mu hm hA hn h2 hl hd (λr e=>hi r (by simp[e])) λy hy=>hr y (by simp[hy])⟩
  ·cases h
 |false::bs,x::xs,om,h,hl,hd,hi,hr=>by
  simp only[fR,sV]at h
  simp only[fR,lN,CW]at hl hd hi
  split at h
  ·rename_i y ys h1 h2
   cases h
   exact⟨Znj hm hA h1 (λe=>hl (by simp[e])) (λr e=>hd r (by simp[e])) (hr x (by simp)),Mu hm hA hn h2 (λe=>hl (by simp[e])) (λr e=>hd r (by simp[e])) hi λy hy=>hr y (by simp[hy])⟩
  ·cases h
 |[],x::xs,om,h,hl,hd,hi,hr=>by
  simp only[fR,sV]at h
  simp only[fR,lN,CW]at hl hd hi
  split at h
  ·rename_i y ys h1 h2
   cases h
   refine⟨Znj hm hA h1 (λe=>hl (by simp[e])) (λr e=>hd r (by simp[e])) (hr x (by simp)),Mu hm hA hn h2 (λe=>hl (by simp[e])) (λr e=>hd r (by simp[e])) (λr e=>?_) λy hy=>hr y (by simp[hy])⟩
   cases xs<;>simp[CW]at e
  ·cases h
end
theorem UZ{f:Nat->Nat}:∀{ids:List Nat} {rows:List Row} {R:Rows},ids.Nodup->ids.length<=rows.length->(∀r∈ids,r<R.length)->
 (tQ f ids rows R).length=R.length/\(∀(i r:Nat),ids[i]?=some r->∃row,rows[i]?=some row/\(tQ f ids rows R).getD r none=some (row.jg f true))/\∀r,r∉ids->(tQ f ids rows R).getD r none=R.getD r none
 |[],rows,R,_,_,_=>by
  have:tQ f [] rows R=R:=by cases rows<;>rfl
  rw[this]
  exact⟨rfl,λi r h=>by simp at h,λ_ _=>rfl⟩
 |r::ids,[],R,_,hl,_=>by simp at hl
 |r ::ids,row::rows,R,kZ,hl,cg=>by
  obtain⟨IE,JH⟩:=List.nodup_cons.1 kZ
  obtain⟨g1,g2,g3⟩:=UZ (f:=f) (ids:=ids) (rows:=rows) (R:=R.set r (some (row.jg f true))) JH (by simpa using hl) (λq hq=>by simpa using cg q (by simp[hq]))
  have hr:=cg r (by simp)
  have JA:(R.set r (some (row.jg f true))).getD r none=some (row.jg f true):=by simp[aK,hr]
  have gl:∀q,q≠r->(R.set r (some (row.jg f true))).getD q none=R.getD q none:=λq hq=>by simp[aK,List.getElem?_set_ne (Ne.symm hq)]
  simp only[tQ]
  refine⟨by simpa using g1,λi q hq=>?_,λq hq=>?_⟩
  ·cases i with
   |zero=>
    simp at hq;subst hq
    exact⟨row,rfl,by rw[g3 _ IE];exact JA⟩
   |succ i=>simpa using g2 i q (by simpa using hq)
  ·have h1:q≠r:=λe=>hq (by simp[e])
   rw[g3 q (λe=>hq (by simp[e])),gl q h1]
def Ctx.behind(c:Ctx)(w:World)(c':Ctx)(ids:List Nat)(n0:Nat)(R2:Rows):Ctx:=
 { ρ:=λr=>if n0<=r/\r<R2.length then c'.ρ (ids.length+(r-n0)) else c.ρ r,
   R:=λr=>if r∈ids\/(n0<=r/\r<R2.length) then R2.getD r none else c.R r,
   V:=λr=>if n0<=r/\r<R2.length then c'.V (ids.length+(r-n0)) else c.V r,
   I:=λb=>c.I b\/(c'.I b/\w.heap.size<=b),base:=c.base,top:=c'.top,X:=c.X}
theorem Zkb{f:Nat->Nat}{rows:List Row}{i:Nat}:(BA f rows)[i]?=rows[i]?.map λrow=>some (row.jg f true):=by simp[BA]
theorem ZK{c c':Ctx}{w w':World}{R:Rows}{ids:List Nat}{dz aj:List Row}{len:Bool}(hm:Mem c w)(hb:c.base<=w.heap.size)(nU:∀r row,r∈ids->R.getD r none=some row->c.R r=some row)(fi:∀r,R.length<=r->r<R.length+(aj.length-ids.length)->c.R r=none)
 (kZ:ids.Nodup) (cw:Bv R (λr=>pos r ids 0) ids=some dz) (hle:ids.length<=aj.length) (hx:lP (c.pass w ids dz len) w c' w') (jV:∀i,c'.R i=aj[i]?)
 (hI:len=true->rG aj) {R2:Rows} (uK:R2=tQ (bk ids R.length) ids aj R++BA (bk ids R.length) (aj.drop ids.length)):
 (Em (λ_=>True) (bk ids R.length) true c' (c.behind w c' ids R.length R2))/\((∀b,c'.I b->(c.behind w c' ids R.length R2).I b)\/(len=true/\∀b,c'.I b->c'.base<=b->(c.behind w c' ids R.length R2).I b))/\
 Mem (c.behind w c' ids R.length R2) w'/\jk c w (c.behind w c' ids R.length R2) w'/\Fr (λb=>∃r x,c.R r=some x/\¬c.V r/\r∈ids/\c.ρ r=b) w w'/\
 (∀b,(c.behind w c' ids R.length R2).I b->c.I b\/w.heap.size<=b)/\
 (∀r,R.length<=r->r<R2.length->¬(c.behind w c' ids R.length R2).V r->w.heap.size<=(c.behind w c' ids R.length R2).ρ r):=by
 obtain⟨gn,AW⟩:=FJ cw
 have cg:∀r∈ids,r<R.length:=λr hr=>by
  obtain⟨row,h1,_⟩:=AW _ r (Bw hr)
  by_cases hl:r<R.length
  ·exact hl
  ·rw[aK,aM (by omega)]at h1;cases h1
 obtain⟨k1,k2,k3⟩:=UZ (f:=bk ids R.length) kZ hle cg
 have wj:R2.length=R.length+(aj.length-ids.length):=by rw[uK];simp[k1,BA]
 have PY:∀r,r<R.length->R2.getD r none=(tQ (bk ids R.length) ids aj R).getD r none:=λr hr=>by
  rw[uK,aK,aK,aZ (by omega)]
 have Y5:∀i,ids.length<=i->i<aj.length->R2.getD (R.length+(i-ids.length)) none=aj[i]?.map λrow=>row.jg (bk ids R.length) true:=λi h1 h2=>by
  rw[uK,aK,List.getElem?_append_right (by omega),Zkb,k1,show R.length+(i-ids.length)-R.length=i-ids.length by omega,fT,show ids.length+(i-ids.length)=i by omega]
  rw[cG h2];rfl
 have jj:c'.base=w.heap.size:=hx.bz.base
 have jA:∀i r ak,ids[i]?=some r->c'.R i=some ak->∃row,c.R r=some row/\ak.box=row.box/\ak.ty=row.ty/\ak.sz=row.sz/\ak.es.l.length=row.es.l.length/\c'.ρ i=c.ρ r/\(c'.V i↔c.V r)/\r<R.length/\R2.getD r none=some (ak.jg (bk ids R.length) true)/\bk ids R.length i=r/\
  (¬c.V r->∀arr,w.heap[c.ρ r]?=some (.cells arr row.ty (0,0))->∃iO,w'.heap[c.ρ r]?=some (.cells iO row.ty (0,0))/\iO.size=arr.size):=by
  intro i r ak hi jl
  obtain⟨row,h1,h2⟩:=AW i r hi
  have kC:=fW hi
  have h3:=nU r row kC h1
  obtain⟨ov,g1,g2,g3,g4,g5,g6,gV,g7⟩:=hx.bz.R i _ (show(c.pass w ids dz len).R i=some _ from h2)
  rw[jl]at g1;cases g1
  obtain⟨s1,s2,s3,s4⟩:=JI (λr=>pos r ids 0) false row
  obtain⟨kW,q1,q2⟩:=k2 i r hi
  rw[jV,q1]at jl;cases jl
  refine⟨row,h3,g2.trans s1,g3.trans s2,g4.trans s3,g5.trans s4,by simpa[Ctx.pass,hi]using g6,by simpa[Ctx.pass,hi]using gV,cg r kC,by rw[PY r (cg r kC)];exact q2,by simp[bk,hi],λnv arr ha=>?_⟩
  have:=g7 (by simpa[Ctx.pass,hi]using nv) arr (by simpa[Ctx.pass,hi,s2]using ha)
  simpa[Ctx.pass,hi,s2]using this
 have fresh:∀i ak,ids.length<=i->c'.R i=some ak->i<aj.length/\R2.getD (R.length+(i-ids.length)) none=some (ak.jg (bk ids R.length) true)/\bk ids R.length i=R.length+(i-ids.length)/\(¬c'.V i->w.heap.size<=c'.ρ i):=by
  intro i ak hi jl
  have h1:aj[i]?=some ak:=by rw[<-jV];exact jl
  have h2:=(List.getElem?_eq_some_iff.1 h1).1
  refine⟨h2,by rw[Y5 i hi h2,h1];rfl,by simp[bk,aM hi],λnv=>?_⟩
  rcases hx.og i ak jl nv with⟨⟨x,nK⟩,_⟩|h3
  ·have:dz[i]?=some x:=nK
   rw[aM (by omega)]at this;cases this
  ·exact h3
 have CM:Em (λ_=>True) (bk ids R.length) true c' (c.behind w c' ids R.length R2):=by
  refine⟨λi ak _ jl=>?_,λ_=>by rw[jj];exact hb,aO _⟩
  obtain⟨s1,s2,s3,s4⟩:=JI (bk ids R.length) true ak
  by_cases hi:i<ids.length
  ·have iz:ids[i]?=some ids[i]:=cG hi
   obtain⟨row,g1,g2,g3,g4,g5,g6,g7,g8,g9,g10,_⟩:=jA i _ ak iz jl
   rw[g10]
   exact⟨_,by simp only[Ctx.behind];rw[if_pos (.inl (fW iz))];exact g9,s1,s2,s3,s4,by simp only[Ctx.behind];rw[if_neg (by omega),g6],by simp only[Ctx.behind];rw[if_neg (by omega)];exact g7.symm⟩
  ·obtain⟨h1,h2,h3,h4⟩:=fresh i ak (by omega) jl
   rw[h3]
   have hc:R.length<=R.length+(i-ids.length)/\R.length+(i-ids.length)<R2.length:=by omega
   have he:ids.length+(R.length+(i-ids.length)-R.length)=i:=by omega
   exact⟨_,by simp only[Ctx.behind];rw[if_pos (.inr hc)];exact h2,s1,s2,s3,s4,by simp only[Ctx.behind];rw[if_pos hc,he],by simp only[Ctx.behind];rw[if_pos hc,he]⟩
 have CX:(∀b,c'.I b->(c.behind w c' ids R.length R2).I b)\/(len=true/\∀b,c'.I b->c'.base<=b->(c.behind w c' ids R.length R2).I b):=by
  cases hl:len with
  |false=>
   refine .inl λb iI=>?_
   rcases hx.fu b iI with h1|h1
   ·rcases h1 with h1|⟨h1,_⟩
    ·exact .inl h1
    ·rw[hl]at h1;cases h1
   ·exact .inr ⟨iI,h1⟩
  |true=>exact .inr ⟨rfl,λb iI hbb=>.inr ⟨iI,by omega⟩⟩
 have Cd:Fr (λb=>∃r x,c.R r=some x/\¬c.V r/\r∈ids/\c.ρ r=b) w w':=hx.fr.mono λb _ ⟨i,x,h1,h2,h3⟩=>by
  have o9:dz[i]?=some x:=h1
  have hi:i<ids.length:=by have:=(List.getElem?_eq_some_iff.1 o9).1;omega
  have iz:ids[i]?=some ids[i]:=cG hi
  obtain⟨row,g1,g2⟩:=AW i _ iz
  exact⟨_,row,nU _ row (fW iz) g1,by simpa[Ctx.pass,iz]using h2,fW iz,by simpa[Ctx.pass,iz]using h3⟩
 have inv:∀r x,(c.behind w c' ids R.length R2).R r=some x->(∃i ak,c'.R i=some ak/\x=ak.jg (bk ids R.length) true/\(c.behind w c' ids R.length R2).ρ r=c'.ρ i/\((c.behind w c' ids R.length R2).V r↔c'.V i)/\(r∈ids/\ids[i]?=some r/\(c.behind w c' ids R.length R2).ρ r=c.ρ r/\((c.behind w c' ids R.length R2).V r↔c.V r)\/R.length<=r/\ids.length<=i/\r=R.length+(i-ids.length)))\/
  (c.R r=some x/\r∉ids/\(c.behind w c' ids R.length R2).ρ r=c.ρ r/\((c.behind w c' ids R.length R2).V r↔c.V r)/\¬(R.length<=r/\r<R2.length)):=by
  intro r x jE
  by_cases kC:r∈ids
  ·left
   have hp:=Bw kC
   obtain⟨kW,q1,q2⟩:=k2 _ r hp
   have rB:c'.R (pos r ids 0)=some kW:=by rw[jV];exact q1
   obtain⟨row,g1,g2,g3,g4,g5,g6,g7,g8,g9,g10,_⟩:=jA _ r kW hp rB
   simp only[Ctx.behind]at jE
   rw[if_pos (.inl kC),g9]at jE
   cases jE
   have e1:(c.behind w c' ids R.length R2).ρ r=c.ρ r:=by simp only[Ctx.behind];rw[if_neg (by omega)]
   have e2:(c.behind w c' ids R.length R2).V r↔c.V r:=by simp only[Ctx.behind];rw[if_neg (by omega)]
   exact⟨_,kW,rB,rfl,by rw[e1,g6],by rw[e2,g7],.inl ⟨kC,hp,e1,e2⟩⟩
  ·by_cases hc:R.length<=r/\r<R2.length
   ·left
    have hi:ids.length+(r-R.length)<aj.length:=by omega
    have rB:c'.R (ids.length+(r-R.length))=some aj[ids.length+(r-R.length)]:=by rw[jV];exact cG hi
    obtain⟨h1,h2,h3,h4⟩:=fresh _ _ (by omega) rB
    simp only[Ctx.behind]at jE
    rw[if_pos (.inr hc)]at jE
    rw[show R.length+(ids.length+(r-R.length)-ids.length)=r by omega]at h2
    rw[h2]at jE
    cases jE
    exact⟨_,_,rB,rfl,by simp only[Ctx.behind];rw[if_pos hc],by simp only[Ctx.behind];rw[if_pos hc],.inr ⟨hc.1,by omega,by omega⟩⟩
   ·right
    simp only[Ctx.behind]at jE
    rw[if_neg (by rintro(h|h)<;>contradiction)]at jE
    exact⟨jE,kC,by simp only[Ctx.behind];rw[if_neg hc],by simp only[Ctx.behind];rw[if_neg hc],hc⟩
 have pT:jk c w (c.behind w c' ids R.length R2) w':=by
  refine⟨rfl,hx.bz.top,λb iI=>⟨.inl iI,?_⟩,λr row hr=>?_⟩
  ·exact(hx.bz.I b (.inl iI)).2
  ·by_cases kC:r∈ids
   ·have hp:=Bw kC
    obtain⟨kW,q1,q2⟩:=k2 _ r hp
    have rB:c'.R (pos r ids 0)=some kW:=by rw[jV];exact q1
    obtain⟨jY,g1,g2,g3,g4,g5,g6,g7,g8,g9,g10,g11⟩:=jA _ r kW hp rB
    rw[hr]at g1;cases g1
    obtain⟨s1,s2,s3,s4⟩:=JI (bk ids R.length) true kW
    exact⟨_,by simp only[Ctx.behind];rw[if_pos (.inl kC)];exact g9,s1.trans g2,s2.trans g3,s3.trans g4,s4.trans g5,by simp only[Ctx.behind];rw[if_neg (by omega)],by simp only[Ctx.behind];rw[if_neg (by omega)],g11⟩
   ·have hc:¬(R.length<=r/\r<R2.length):=λhc=>by rw[fi r hc.1 (by omega)]at hr;cases hr
    refine⟨row,by simp only[Ctx.behind];rw[if_neg (by rintro(h|h)<;>contradiction)];exact hr,rfl,rfl,rfl,rfl,by simp only[Ctx.behind];rw[if_neg hc],by simp only[Ctx.behind];rw[if_neg hc],λnv arr ha=>⟨arr,?_,rfl⟩⟩
    rw[Cd.heap _ (hm.lt hr nv) fun⟨s,x,h1,h2,h3,h4⟩=>kC (by rw[<-hm.inj s r x row h1 hr h2 nv h4];exact h3)]
    exact ha
 refine⟨CM,CX,⟨λr x jE=>?_,λr s x y hr hs v1 v2 he=>?_,λb iI=>?_,hx.mem.top,hm.kN.mono pT.I⟩,pT,Cd,λb iI=>?_,λr h1 h2 h3=>?_⟩
 ·rcases inv r x jE with⟨i,ak,h1,rfl,h3,h4,_⟩|⟨h1,h2,h3,h4,h5⟩
  ·refine Y6 CM CX h3 h4 (λ_ _ _ _ _=>trivial) (λhf=>?_) (hx.mem.row i ak h1)
   exact Zn (hI hf) (by rw[<-jV];exact h1)
  ·exact tX pT h3 h4 (λnv=>Cd.heap _ (hm.lt h1 nv) fun⟨s,x',g1,g2,g3,g4⟩=>h2 (by rw[<-hm.inj s r x' x g1 h1 g2 nv g4];exact g3)) (hm.row r x h1)
 ·have HA:∀i ak,c'.R i=some ak->¬c'.V i->(∃q,q∈ids/\ids[i]?=some q/\(∃y,c.R q=some y)/\¬c.V q/\c'.ρ i=c.ρ q)\/w.heap.size<=c'.ρ i:=λi ak h1 nv=>by
   by_cases hi:i<ids.length
   ·have iz:ids[i]?=some ids[i]:=cG hi
    obtain⟨row,g1,g2,g3,g4,g5,g6,g7,_⟩:=jA i _ ak iz h1
    exact .inl ⟨_,fW iz,iz,⟨row,g1⟩,λe=>nv (g7.2 e),g6⟩
   ·exact .inr ((fresh i ak (by omega) h1).2.2.2 nv)
  rcases inv r x hr with⟨i,x',h1,_,h3,h4,h5⟩|⟨h1,h2,h3,h4,h5⟩<;>rcases inv s y hs with⟨j,y',g1,_,g3,g4,g5⟩|⟨g1,g2,g3,g4,g5⟩
  ·have:i=j:=hx.mem.inj i j x' y' h1 g1 (λe=>v1 (h4.2 e)) (λe=>v2 (g4.2 e)) (by rw[<-h3,<-g3];exact he)
   subst this
   rcases h5 with⟨_,q1,_⟩|⟨_,q1,q2⟩<;>rcases g5 with⟨_,p1,_⟩|⟨_,p1,p2⟩
   ·rw[q1]at p1;exact Option.some.inj p1
   ·have:=(List.getElem?_eq_some_iff.1 q1).1;omega
   ·have:=(List.getElem?_eq_some_iff.1 p1).1;omega
   ·omega
  ·exfalso
   have nv:=λe=>v1 (h4.2 e)
   have ns:=λe=>v2 (g4.2 e)
   rw[h3,g3]at he
   rcases HA i x' h1 nv with⟨q,q1,q2,⟨z,q3⟩,q4,q5⟩|q
   ·exact g2 (by rw[<-hm.inj q s z y q3 g1 q4 ns (by rw[<-q5];exact he)];exact q1)
   ·have:=hm.lt g1 ns;omega
  ·exfalso
   have nv:=λe=>v2 (g4.2 e)
   have ns:=λe=>v1 (h4.2 e)
   rw[h3,g3]at he
   rcases HA j y' g1 nv with⟨q,q1,q2,⟨z,q3⟩,q4,q5⟩|q
   ·exact h2 (by rw[<-hm.inj q r z x q3 h1 q4 ns (by rw[<-q5];exact he.symm)];exact q1)
   ·have:=hm.lt h1 ns;omega
  ·exact hm.inj r s x y h1 g1 (λe=>v1 (h4.2 e)) (λe=>v2 (g4.2 e)) (by rw[<-h3,<-g3];exact he)
 ·rcases iI with iI|⟨iI,pK⟩
  ·refine⟨Nat.lt_of_lt_of_le (hm.fu b iI).1 Cd.size,λr x hr v=>?_⟩
   rcases inv r x hr with⟨i,x',h1,_,h3,h4,h5⟩|⟨h1,h2,h3,h4,h5⟩
   ·have:=(hx.mem.fu b ((hx.bz.I b (.inl iI)).1)).2 i x' h1 (λe=>v (h4.2 e))
    rw[h3];exact this
   ·rw[h3];exact(hm.fu b iI).2 r x h1 (λe=>v (h4.2 e))
  ·refine⟨(hx.mem.fu b iI).1,λr x hr v=>?_⟩
   rcases inv r x hr with⟨i,x',h1,_,h3,h4,h5⟩|⟨h1,h2,h3,h4,h5⟩
   ·rw[h3];exact(hx.mem.fu b iI).2 i x' h1 (λe=>v (h4.2 e))
   ·have:=hm.lt h1 (λe=>v (h4.2 e))
    rw[h3];omega
 ·rcases iI with h|⟨_,h⟩
  ·exact .inl h
  ·exact .inr h
 ·have hi:ids.length+(r-R.length)<aj.length:=by omega
  have rB:c'.R (ids.length+(r-R.length))=some aj[ids.length+(r-R.length)]:=by rw[jV];exact cG hi
  obtain⟨_,_,_,h4⟩:=fresh _ _ (by omega) rB
  simp only[Ctx.behind,if_pos (show R.length<=r/\r<R2.length from⟨h1,h2⟩)]at h3⊢
  exact h4 h3
theorem Zu(args:List D):CW [] args=[]:=by cases args<;>rfl
theorem Zha(R:Rows)(args:List D):mC R [] args=[]:=by
 unfold mC;rw[Zu];rfl
theorem Y9{P:Program}{x:bc}(dw:bj P x){f:FuncId}(hf:x.f=f)(hy:x.f<YB){dst:Option Tmp}{args:Array Operand}{dc:Array TypeId}{type:TypeId}{pos:String}{after:Array Edge}{guard:Option (Nat×Bool)}{a:Act}{w:World}{K:Act->World->Prop}{Q:Exit->Act->World->Prop}
 (h:Calls P x.f (args.toList.map a.eval).toArray w λe w'=>∃v,e=.returned v/\K (a.put dst v) w'):(⟨dst,.call ⟨.value (.func f),args,dc⟩,type,pos,after,guard⟩:Oper).nm P a w K Q:=by
 have ig:(execOp a.eval (⟨dst,.call ⟨.value (.func f),args,dc⟩,type,pos,after,guard⟩:Oper)).run P w=.ok (.enter f (args.toList.map a.eval).toArray) w:=by
  simp only[execOp,resolve,Act.eval,Deferred.ofValue,Sem.run_bind,Sem.run_pure,Result.andThen_ok,invoke,Array.empty_append,Array.append_empty]
  rw[<-hf,dw.enters hy,<-bR,bS]
 unfold Oper.nm
 rw[ig]
 show Calls P f _ w _
 rw[<-hf]
 exact h
theorem yR {P:Program}{G:List bc}(hG:jT P G){dst:Option Tmp}{f:FuncId}{args:Array Operand}{dc:Array TypeId}{type:TypeId}{pos':String}{after:Array Edge}{guard:Option (Nat×Bool)}{ev:Operand->D}{R:Rows}{K:D->Rows->Prop}
    (lR:o8 G f=none) (h:s7 G f (args.toList.map ev) R K): ∃val R' x,K val R'/\oO G f=some x/\EL P ⟨dst, .call ⟨.value (.func f),args,dc⟩,type,pos',after,guard⟩ ev R val R'/\(x.refs=[]->pL P ⟨dst, .call ⟨.value (.func f),args,dc⟩,type,pos',after,guard⟩ ev R val R'):=by
  unfold s7 at h
  split at h
  . rename_i x hx
    have wu:x.gone=none:=by simpa [o8,hx] using lR
    obtain⟨dw,hf⟩:=Gg hG hx
    split at h
    . rename_i az dz has iT
      simp only[da,Bool.or_eq_true,aE]at h
      obtain⟨⟨⟨FT,h1,h2⟩,h3,h4⟩,h⟩:=h
      generalize JJ:mC R x.refs (args.toList.map ev)=ids at*
      have uL:=Ms.1 h1
      have gn:=Ms.1 h2
      have kZ:=Mt.1 h3
      have oD:=Ux.1 h4
      have main : ∀res aj,ids.length<=aj.length->K (res.sZ (bk ids R.length) true) (tQ (bk ids R.length) ids aj R++BA (bk ids R.length) (aj.drop ids.length))->j9 P x.f az dz res aj->(x.flat=true->FF res/\rG aj)->
          ∃val R' y,K val R'/\oO G f=some y/\EL P ⟨dst, .call ⟨.value (.func f),args,dc⟩,type,pos',after,guard⟩ ev R val R'/\(y.refs=[]->pL P ⟨dst, .call ⟨.value (.func f),args,dc⟩,type,pos',after,guard⟩ ev R val R'):=by
        intro res aj hle hK hA jP
        let len:=match lN x.refs (args.toList.map ev) with|[]=>false|_=>true
        have hlen:lN x.refs (args.toList.map ev)≠[]->len=true:=by
          intro gl
          show(match lN x.refs (args.toList.map ev) with|[]=>false|_=>true)=true
          split
          . contradiction
          . rfl
        have w6:len=true->x.flat=true:=by
          intro hl
          rcases FT with h|h
          . exact h.1
          . exfalso
            have hl:(match lN x.refs (args.toList.map ev) with|[]=>false|_=>true)=true:=hl
            split at h
            . rename_i e;rw[e]at hl;cases hl
            . cases h
        have core: ∀(c:Ctx) (w:World) (a:Act),Mem c w->c.base<=w.heap.size->mJ c R->(∀r row,r∈ids->R.getD r none=some row->c.R r=some row)->(∀r,R.length<=r->r<R.length+(aj.length-ids.length)->c.R r=none)->(∀y∈args.toList,Rep c w (ev y) (a.eval y))->
            ∀(K':Act->World->Prop) (Q:Exit->Act->World->Prop),(∀v w' c',lP (c.pass w ids dz len) w c' w'->(∀i,c'.R i=aj[i]?)->Rep (c.behind w c' ids R.length (tQ (bk ids R.length) ids aj R++BA (bk ids R.length) (aj.drop ids.length))) w' (res.sZ (bk ids R.length) true) v->K' (a.put dst v) w')->
            (⟨dst, .call ⟨.value (.func f),args,dc⟩,type,pos',after,guard⟩:Oper).nm P a w K' Q:=by
          intro c w a hm hb o7 nU fi eu K' Q re
          have hn:=UD (len:=len) (w:=w) nU iT
          have gb:=Mu (len:=len) (ρ:=a.eval) hm o7 hn has hlen oD uL eu
          have mq:=hA (c.pass w ids dz len) w _ (Y7 hm nU kZ gn iT) rfl (λr=>rfl) gb
          refine Y9 dw hf (dw.real wu) (mq.mono λe w' sU=> ?_)
          obtain⟨v,c',he,nF,jV,kQ⟩:=sU
          obtain⟨g1,g2,_⟩:=ZK hm hb nU fi kZ iT hle nF jV (λe=>(jP (w6 e)).2) rfl
          exact⟨v,he,re v w' c' nF jV (Y8 g1 g2 (λ_=>trivial) (λe=>(jP (w6 e)).1) kQ)⟩
        have gy: ∀(c:Ctx) (w:World) (a:Act),(∀y∈(⟨dst, .call ⟨.value (.func f),args,dc⟩,type,pos',after,guard⟩:Oper).op.operands,Rep c w (ev y) (a.eval y))-> ∀y∈args.toList,Rep c w (ev y) (a.eval y):=λc w a eu y hy=>eu y (by simp [Op.operands,Call.operands];exact .inr (by simpa using hy))
        refine⟨_,_,x,hK,hx,λc w a hm hb hR eu K' Q re=> ?_,λhrefs=> ?_⟩
        . have o7:mJ c R:=λr row ak g1 g2=>by rw[hR,g2]at g1;exact(Option.some.inj g1).symm
          have nU: ∀r row,r∈ids->R.getD r none=some row->c.R r=some row:=λr row _ e=>by rw[hR];exact e
          have fi: ∀r,R.length<=r->r<R.length+(aj.length-ids.length)->c.R r=none:=λr e _=>by rw[hR,aK,aM e];rfl
          refine core c w a hm hb o7 nU fi (gy c w a eu) K' Q λv w' c' nF jV kQ=> ?_
          obtain⟨g1,g2,g3,g4,g5,g6,g7⟩:=ZK hm hb nU fi kZ iT hle nF jV (λe=>(jP (w6 e)).2) rfl
          have wj:(tQ (bk ids R.length) ids aj R).length=R.length:=(UZ kZ hle (λr hr=>by
            obtain⟨row,q1,_⟩:=(FJ iT).2 _ r (Bw hr)
            by_cases hl:r<R.length
            . exact hl
            . rw[aK,aM (by omega)]at q1;cases q1)).1
          have iX:=UZ (f:=bk ids R.length) kZ hle (λr hr=>by
            obtain⟨row,q1,_⟩:=(FJ iT).2 _ r (Bw hr)
            by_cases hl:r<R.length
            . exact hl
            . rw[aK,aM (by omega)]at q1;cases q1)
          refine re v w' _ ⟨g3,g4,g5.mono λb _ ⟨r,y,k1,k2,_,k4⟩=>⟨r,y,k1,k2,k4⟩,g6,λr ak hr hv=> ?_⟩ (λr=> ?_) kQ
          . by_cases hc:R.length<=r/\r<(tQ (bk ids R.length) ids aj R++BA (bk ids R.length) (aj.drop ids.length)).length
            . exact .inr (g7 r hc.1 hc.2 hv)
            . left
              simp only[Ctx.behind,if_neg hc]at hv⊢
              refine⟨?_,hv,trivial⟩
              simp only[Ctx.behind]at hr
              split at hr
              . rename_i HB
                rcases HB with HB|HB
                . obtain⟨row,q1,_⟩:=(FJ iT).2 _ r (Bw HB)
                  exact⟨row,nU r row HB q1⟩
                . contradiction
              . exact⟨_,hr⟩
          . simp only[Ctx.behind]
            split
            . rfl
            . rename_i HB
              have h1:r∉ids:=λe=>HB (.inl e)
              by_cases cg:r<R.length
              . rw[aK,aZ (by omega),<-aK,iX.2.2 r h1,hR]
              . rw[hR,aK,aM (by omega),aK,aM (by
                  by_cases h2:r<(tQ (bk ids R.length) ids aj R++BA (bk ids R.length) (aj.drop ids.length)).length
                  . exact(HB (.inr ⟨by omega,h2⟩)).elim
                  . omega)]
        . have QB:ids=[]:=by rw[<-JJ,hrefs];exact Zha R _
          subst QB
          have ri:tQ (bk [] R.length) [] aj R=R:=by cases aj<;>rfl
          rw[ri]
          simp only[dJ,gB]at*
          refine⟨⟨_,rfl⟩,λc w a hm hb o7 fi eu K' Q re=> ?_⟩
          have nU: ∀r row,r∈([]:List Nat)->R.getD r none=some row->c.R r=some row:=λr row e=>by cases e
          have HC: ∀r,R.length<=r->r<R.length+(aj.length-0)->c.R r=none:=λr e1 e2=>fi r e1 (by simp [BA];omega)
          refine core c w a hm hb o7 nU HC (gy c w a eu) K' Q λv w' c' nF jV kQ=> ?_
          obtain⟨g1,g2,g3,g4,g5,g6,g7⟩:=ZK hm hb nU HC kZ iT hle nF jV (λe=>(jP (w6 e)).2) rfl
          rw[ri]at g3 g4 g6 g7 kQ
          simp only[dJ,gB]at g3 g4 g6 g7 kQ
          refine re v w' _ ⟨g3,g4,g5.mono (λb _ ⟨r,y,k1,k2,k3,k4⟩=>(by cases k3)),g6,λr=> ?_,λr hr=> ?_,λr k1 k2=>g7 r k1 k2⟩ kQ
          . simp [Ctx.behind]
          . simp only[Ctx.behind]
            rw[if_neg (by omega),if_neg (by omega)]
            exact⟨rfl,Iff.rfl⟩
      split at h
      . rename_i res aj hm
        simp only[Er,da,D.cq,nn]at h
        obtain⟨h5,h6⟩:=dw.ok wu _ _ _ _ hm
        exact main res aj (lE h.1) h.2 h5 h6
      . rename_i p res aj hm
        simp only[Er,da,D.cq,nn]at h
        obtain⟨h5,h6⟩:=dw.when wu _ _ _ _ _ hm h.1
        exact main res aj (lE h.2.1) h.2.2 h5 h6
      . rename_i α v res aj hm
        have h:=h v rfl
        simp only[Er,da,D.cq,nn]at h
        obtain⟨h5,h6⟩:=dw.abs wu _ _ _ _ _ _ hm
        exact main (res v) (aj v) (lE h.1) h.2 h5 h6
      . rename_i p α v res aj hm
        obtain⟨hp,h⟩:=h
        have h:=h v rfl
        simp only[Er,da,D.cq,nn]at h
        obtain⟨h5,h6⟩:=dw.lO wu _ _ _ _ _ _ _ hm hp
        exact main (res v) (aj v) (lE h.1) h.2 h5 h6
      . exact h.elim
    . exact h.elim
  . exact h.elim
theorem Z9i{f:Nat->Nat}:∀{ds:List D},U0 ds=true->D.mG f true ds=ds
 |[],_=>rfl
 |d ::l,h=>by
  simp only[U0]at h
  split at h
  ·rename_i hd
   simp only[D.mG,Z9i h]
   cases d<;>first|(simp[QC]at hd;done)|simp[D.mF]
  ·cases h
theorem Zil{f:Nat->Nat}{d:D}(h:s9 d=true):d.jg f true=d:=by
 cases d with
 |agg cs=>show D.agg (D.mG f true cs)=_;rw[Z9i h]
 |_=>first|(simp[s9,QC]at h;done)|simp[D.jg,D.mF]
theorem Z8k{f:Nat->Nat}:∀{ds:List D},U1 ds=true->D.Bc f true ds=ds
 |[],_=>rfl
 |d ::l,h=>by
  simp only[U1]at h
  split at h
  ·rename_i hd
   simp only[D.Bc,Z8k h,Zil hd]
  ·cases h
theorem Zqn{f:Nat->Nat}{d:D}(h:uP d=true):d.sZ f true=d:=by
 cases d with
 |dt ds=>show D.dt (D.Bc f true ds)=_;rw[Z8k h]
 |agg cs=>exact Zil (d:=.agg cs) h
 |_=>first|(simp[uP,s9,QC]at h;done)|simp[D.sZ,D.jg,D.mF]
theorem Zt{R:Rows}(f g:Nat->Nat):∀{ds:List D},sV R f [] ds=sV R g [] ds
 |[]=>rfl
 |d::l=>by simp only[sV,Zt f g (ds:=l)]
theorem vR{G:List bc}{f:FuncId}{args:List D}{R:Rows}{K:D->Rows->Prop}(h:KF G f args R K):s7 G f args R K:=by
 unfold KF at h
 split at h
 ·rename_i x hx
  split at h
  ·rename_i hrefs
   split at h
   ·rename_i az has
    simp only[da]at h
    have hv:∀{res:D} {aj:List Row},MD R res aj K->Er R [] res aj K:=by
     intro res aj h
     have ri:tQ (bk [] R.length) [] aj R=R:=by cases aj<;>rfl
     simp only[Er,da,dJ,gB,ri]
     refine⟨by simp,?_⟩
     unfold MD at h
     split at h
     ·simp only[da,D.cq]at h
      rw[Zqn h.1]
      simp only[D.cq,nn,BA,List.map_nil,List.append_nil]
      exact h.2
     ·exact h
    unfold s7
    simp only[hx,hrefs,Zha]
    rw[Zt _ (λr=>r),has]
    simp only[Bv,da,Zu]
    refine⟨?_,?_⟩
    ·have:∀l:List Nat,nO l []=true:=λl=>by
      rw[Ux];intro r _ hr;cases hr
     simp only[pD,CO,Ep,this,Bool.and_true]
     have h1:=h.1
     revert h1
     cases lN [] args<;>simp[CY]
    ·revert h
     cases x.m az []with
     |no=>exactλh=>h.2
     |ok res aj=>exactλh=>hv h.2
     |«when»p res aj=>exactλh=>⟨h.2.1,hv h.2.2⟩
     |abs α v res aj=>exactλh X hX=>hv (h.2 X hX)
     |lO p α v res aj=>exactλh=>⟨h.2.1,λX hX=>hv (h.2.2 X hX)⟩
   ·exact h.elim
  ·exact h
 ·exact h.elim
theorem Ww{P:Program}{G:List bc}(hG:jT P G){dst:Option Tmp}{f:FuncId}{args:Array Operand}{dc:Array TypeId}{type:TypeId}{pos':String}{after:Array Edge}{guard:Option (Nat×Bool)}{ev:Operand->D}{R:Rows}{K:D->Rows->Prop}
 (lR:o8 G f=none) (h:KF G f (args.toList.map ev) R K):∃val R' x,K val R'/\oO G f=some x/\EL P ⟨dst,.call ⟨.value (.func f),args,dc⟩,type,pos',after,guard⟩ ev R val R'/\(x.refs=[]->pL P ⟨dst,.call ⟨.value (.func f),args,dc⟩,type,pos',after,guard⟩ ev R val R'):=
 yR hG lR (vR h)

import Derived.Test.YtoijmgbahaekiaaGreatTopJournalFp
open List renaming getD->aK,getElem?_eq_none->aM,getElem?_append_left->aZ,getElem?_take->aU,getElem?_drop->cR,getElem?_eq_getElem->cI,getElem?_toArray->aY,map_cons->eJ,map_toArray->bS,mem_cons->fG,mem_map->fQ,mem_of_getElem?->fM,length_nil->fB,drop_zero->fR
open Nat renaming le_refl->aO,zero_add->aX,add_assoc->fO
open Option renaming getD_some->aG
open Bool renaming false_eq_true->aN
open Array renaming toArray_toList->bU,extract_eq_self_of_le->fP
set_option linter.all false
namespace Go.GD
open Go
structure Nxt(c:Ctx)(w:World)(R R':Rows)(c':Ctx)(w':World):Prop where
 mem:Mem c' w'
 grows:Q2n c w c' w'
 fr:Fr (λ_=>False) w w'
 imm:∀b,c'.I b->c.I b\/w.heap.size<=b
 rows:∀r,c'.R r=if R.length<=r/\r<R'.length then R'.getD r none else c.R r
 old:∀r,r<R.length\/R'.length<=r->c'.ρ r=c.ρ r/\(c'.V r↔c.V r)
 new:∀r,R.length<=r->r<R'.length->¬c'.V r->w.heap.size<=c'.ρ r
structure NxtW(c:Ctx)(w:World)(c':Ctx)(w':World):Prop where
 mem:Mem c' w'
 grows:Q2n c w c' w'
 fr:Fr (λb=>∃r x,c.R r=some x/\¬c.V r/\c.ρ r=b) w w'
 imm:∀b,c'.I b->c.I b\/w.heap.size<=b
 rho:∀r row',c'.R r=some row'->¬c'.V r->((∃row,c.R r=some row)/\¬c.V r/\c'.ρ r=c.ρ r)\/w.heap.size<=c'.ρ r
def uponR(P:Program)(o:Oper)(a:Act)(next:Act->World->Prop):Result Next->Prop
 |.ok (.value v) w'=>next (a.put o.dst v) w'
 |.ok .skip w'=>next (a.put o.dst undef) w'
 |.ok (.enter f args) w'=>Calls P f args w' λe w''=>∃v,e=.returned v/\next (a.put o.dst v) w''
 |.ok (.round l f tmps assign body) w'=>RoundIn Fence.wide 0 P l f tmps assign body w' λe w''=>∃v,e=.returned v/\next (a.put o.dst v) w''
 |_=>False
def _root_.Go.Oper.wpR(P:Program)(o:Oper)(a:Act)(w:World)(next:Act->World->Prop)(_:Exit->Act->World->Prop):Prop:=uponR P o a next ((execOp a.eval o).run P w)
theorem Qf5{P:Program}{o:Oper}{a:Act}{w w':World}{u:Value}{K:Act->World->Prop}{Q:Exit->Act->World->Prop}(h:(execOp a.eval o).run P w=.ok (.value u) w')(hK:K (a.put o.dst u) w'):o.wpR P a w K Q:=by
 unfold Oper.wpR;rw[h];exact hK
theorem xF{P:Program}{o:Oper}{a:Act}{w w':World}{K:Act->World->Prop}{Q:Exit->Act->World->Prop}(h:(execOp a.eval o).run P w=.ok .skip w')(hK:K (a.put o.dst undef) w'):o.wpR P a w K Q:=by
 unfold Oper.wpR;rw[h];exact hK
theorem Z2w{P:Program}{o:Oper}{a:Act}{w:World}{K K':Act->World->Prop}{Q Q':Exit->Act->World->Prop}(h:∀a w,K a w->K' a w)(hh:o.wpR P a w K Q):o.wpR P a w K' Q':=by
 unfold Oper.wpR at hh⊢
 revert hh
 generalize(execOp a.eval o).run P w=r
 intro hh
 cases r with
 |halt _ _=>exact hh.elim
 |ok n w'=>
  cases n with
  |value v=>exact h _ _ hh
  |skip=>exact h _ _ hh
  |enter f args=>exact Calls.mono hh λe w' ⟨v,he,hk⟩=>⟨v,he,h _ _ hk⟩
  |round l f tmps assign body=>exact RoundIn.mono hh λe w' ⟨v,he,hk⟩=>⟨v,he,h _ _ hk⟩
  |_=>exact hh.elim
def OpN(P:Program)(o:Oper)(ev:Operand->D)(R:Rows)(val:D)(R':Rows):Prop:=
 (∃news,R'=R++news)/\∀(c:Ctx) (w:World) (a:Act),Mem c w->c.base<=w.heap.size->Q4w c R->(∀r,R.length<=r->r<R'.length->c.R r=none)->(∀x∈o.op.operands,Rep c w (ev x) (a.eval x))->
  ∀K Q,(∀v w' c',Nxt c w R R' c' w'->Rep c' w' val v->K (a.put o.dst v) w')->o.wpR P a w K Q
def OpW(P:Program)(o:Oper)(ev:Operand->D)(R:Rows)(val:D)(R':Rows):Prop:=
 ∀ (c:Ctx) (w:World) (a:Act),Mem c w->c.base<=w.heap.size->(∀r,c.R r=R.getD r none)->(∀x∈o.op.operands,Rep c w (ev x) (a.eval x))->
  ∀K Q,(∀v w' c',NxtW c w c' w'->(∀r,c'.R r=R'.getD r none)->Rep c' w' val v->K (a.put o.dst v) w')->o.wpR P a w K Q
theorem OpN.toW{P:Program}{o:Oper}{ev:Operand->D}{R:Rows}{val:D}{R':Rows}(h:OpN P o ev R val R'):OpW P o ev R val R':=by
 obtain⟨⟨news,hn⟩,h⟩:=h
 intro c w a hm hb hR hev K Q hK
 refine h c w a hm hb (λr row row' h1 h2=>by rw[hR,h2]at h1;exact(Option.some.inj h1).symm) (λr h1 _=>by rw[hR];simp[aK,aM h1]) hev K Q λv w' c' hs hr=>?_
 refine hK v w' c' ⟨hs.mem,hs.grows,hs.fr.mono (λb _ hf=>hf.elim),hs.imm,λr row' hr' hv=>?_⟩ (λr=>?_) hr
 ·by_cases h1:R.length<=r/\r<R'.length
  ·exact .inr (hs.new r h1.1 h1.2 hv)
  ·rw[hs.rows,if_neg h1]at hr'
   obtain⟨h2,h3⟩:=hs.old r (by omega)
   exact .inl ⟨⟨_,hr'⟩,λe=>hv (h3.2 e),h2⟩
 ·rw [hs.rows,hR]
  split
  ·rfl
  ·rename_i h1
   subst hn
   by_cases h2:r<R.length
   ·simp[aK,aZ h2]
   ·have h3:(R++news).length<=r:=by omega
    simp[aK,aM h3,aM (show R.length<=r by omega)]
theorem Q18{P:Program}{o:Oper}{ev:Operand->D}{R:Rows}{val:D}(h:∀(c:Ctx) (w:World) (a:Act),Mem c w->Q4w c R->(∀x∈o.op.operands,Rep c w (ev x) (a.eval x))->∃u,(execOp a.eval o).run P w=.ok (.value u) w/\Rep c w val u):OpN P o ev R val R:=by
 refine⟨⟨[],by simp⟩,λc w a hm hb hA _ hev K Q hK=>?_⟩
 obtain⟨u,hu,hr⟩:=h c w a hm hA hev
 exact Qf5 hu (hK u w c ⟨hm,Q2n.refl c w,Fr.refl _ w,λb hb=>.inl hb,λr=>by rw[if_neg (by omega)],λ_ _=>⟨rfl,Iff.rfl⟩,λr h1 h2=>by omega⟩ hr)
theorem Qgk{P:Program}{o:Oper}{ev:Operand->D}{R:Rows}{val:D}{row:Row}(h:∀(c:Ctx) (w:World) (a:Act),Mem c w->Q4w c R->(∀x∈o.op.operands,Rep c w (ev x) (a.eval x))->
 ∃x:Sem Value,execOp a.eval o=(do pure (.value (<-x)))/\Z3y P x w c R.length row val):OpN P o ev R val (R++[some row]):=by
 refine⟨⟨[some row],rfl⟩,λc w a hm hb hA hnew hev K Q hK=>?_⟩
 obtain⟨x,hx,u,arr,hu,hi,hr⟩:=h c w a hm hA hev
 have hk:c.R R.length=none:=hnew R.length (aO _) (by simp)
 have hrun:(execOp a.eval o).run P w=.ok (.value u) (w.alloc (.cells arr row.ty)):=by
  rw[hx,Sem.run_bind,hu];rfl
 refine Qf5 hrun (hK u _ (c.add R.length row w.heap.size) ⟨hm.alloc hk row arr hi.1 hi.2,Q2n.alloc hm hk row _,Fr.alloc _ w _,λb hb=>.inl hb,λr=>?_,λr hr=>?_,λr h1 h2 _=>?_⟩ (hr hk hm))
 ·by_cases e:r=R.length
  ·subst e
   simp[Ctx.add,aK]
  ·have:¬(R.length<=r/\r<(R++[some row]).length):=by simp;omega
   rw[if_neg this]
   simp[Ctx.add,e]
 ·have:r≠R.length:=by simp at hr;omega
  simp[Ctx.add,this]
 ·have:r=R.length:=by simp at h2;omega
  simp[Ctx.add,this]
def Qjz:Op->Bool|.store _ _ _=>true|_=>false
theorem Zc7{c:Ctx}{w:World}{cs:List D}{vs:List Value}(h:Q2y c w cs vs)(o n:Nat):Q2y c w ((cs.drop o).take n) ((vs.drop o).take n):=by
 rw[Q97]at h⊢
 obtain⟨h1,h2⟩:=h
 refine⟨by simp[h1],λj v hv=>?_⟩
 simp only[aU,cR]at hv
 split at hv
 ·rename_i hj
  have:=h2 (o+j) v hv
  simp only[aK,aU,cR,hj,if_true]at this⊢
  exact this
 ·cases hv
theorem zN{c:Ctx}{w:World}:∀{tys:List CTy} {az:List D} {vs:List Value},Q2y c w az vs->fits tys az=true->Seg vs.toArray 0 az
 |tys,az,vs,h,hf=>by
  intro j d hj
  have hlt:=(List.getElem?_eq_some_iff.1 hj).1
  have hl:=h.length
  have hv:vs[j]?=some vs[j]:=cI (by omega)
  have hr:=(Q97.1 h).2 j _ hv
  simp only[aK,hj,aG]at hr
  have hs :∀{tys:List CTy} {az:List D} {j:Nat},fits tys az=true->az[j]?=some d->(∃k n,d=.int k n)\/(∃b,d=.bool b)\/∃s,d=.str s:=by
   intro tys
   induction tys with
   |nil=>intro az j hf hj;cases az<;>simp[fits]at hf;simp at hj
   |cons t ts ih=>
    intro az j hf hj
    cases az with
    |nil=>cases t<;>simp[fits]at hf
    |cons e es=>
     cases t<;>simp only[fits,aE,aN]at hf
     all_goals
      cases j with
      |succ j=>exact ih hf.2 (by simpa using hj)
      |zero=>
       simp at hj
       subst hj
       cases e<;>simp[D.isInt,D.isBool,D.isStr]at hf⊢
  simp only[aX,aY,hv]
  rcases hs hf hj with⟨k,n,rfl⟩|⟨b,rfl⟩|⟨s,rfl⟩<;>(simp only[CRep]at hr;rw[hr];rfl)
theorem Qvv{c:Ctx}{w:World}:∀{ds:List D} {vs:List Value},Q5p c w ds vs->∀i,i<ds.length->∃v,vs[i]?=some v/\VRep c w (ds.getD i .dead) v
 |[],[],_,i,h=>by simp at h
 |d::ds,v::vs,h,0,_=>⟨v,rfl,h.1⟩
 |d::ds,v::vs,h,i+1,hi=>by
  obtain⟨u,hu,hr⟩:=Qvv h.2 i (by simpa using hi)
  exact⟨u,by simpa using hu,by simpa using hr⟩
 |[],_::_,h,_,_=>h.elim
 |_::_,[],h,_,_=>h.elim
theorem yV{d:D}{x:Cap}(h:capOf d=some x):x.d=d:=by
 have go:∀{cs:List Cap} {ps:List (Nat×Nat×Nat)},Z3k cs=some ps->ps.map ptrC=cs:=by
  intro cs
  induction cs with
  |nil=>intro ps h;simp[Z3k]at h;subst h;rfl
  |cons y l ih=>
   intro ps h
   simp only[Z3k]at h
   split at h
   ·rename_i p qs h1 h2
    cases h
    simp only[eJ,ih h2]
    cases y<;>simp[ptrOf]at h1
    subst h1;rfl
   ·cases h
 cases d<;>simp only[capOf]at h<;>first|(cases h;done)|skip
 case clo f cs=>
  split at h
  ·rename_i ps hp;cases h;simp only[Cap.d,go hp]
  ·cases h
 all_goals(cases h;rfl)
theorem Qwj{c:Ctx}{w:World}{ev:Operand->D}{ρ:Operand->Value}:∀{xs:List Operand} {cs:List Cap},Z0u (xs.map ev)=some cs->(∀x∈xs,Rep c w (ev x) (ρ x))->Q4e c w cs (xs.map ρ)
 |[],cs,h,_=>by simp[Z0u]at h;subst h;trivial
 |x ::xs,cs,h,hr=>by
  simp only[eJ,Z0u]at h
  split at h
  ·rename_i y ys h1 h2
   cases h
   refine⟨?_,Qwj h2 λz hz=>hr z (by simp[hz])⟩
   have:=hr x (by simp)
   rw[<-yV h1]at this
   rw[Z2h]
   cases y<;>exact this
  ·cases h
theorem Quu{P:Program}{T:Tab}(hT:Q34 P T)(o:Oper)(ev:Operand->D)(R:Rows)(K:D->Rows->Prop)(h:opVC T o.op ev R K):
    ∃val R',K val R'/\(if Qjz o.op then OpW P o ev R val R' else OpN P o ev R val R'):=by
  obtain⟨dst,op,type,pos,after,guard⟩:=o
  simp only at h
  cases op<;>(try simp only[opVC]at h)<;>try(exact h.elim)
  case makeFunc fn first captured=>
    cases fn<;>simp only at h<;>try(exact h.elim)
    rename_i f
    simp only[Q02,aE]at h
    obtain⟨⟨h0,hy⟩,h⟩:=h
    split at h
    . rename_i cs hc
      refine⟨_,_,h,Q18 λc w a hm hA hev=> ?_⟩
      have hf:first= #[]:=Array.eq_empty_of_size_eq_zero (bE h0)
      subst hf
      refine⟨.func (.func f) #[] (captured.map a.eval),?_,captured.toList.map a.eval,?_,Qwj hc λx hx=>hev x (by simp [Op.operands];simpa using hx)⟩
      . simp only[execOp,Instr.makeFunc,Sem.run_bind,Sem.run_pure,Array.map_empty];rfl
      . exact .inl ⟨lE hy,by rw[<-bS,bU]⟩
    . exact h.elim
  case move x=>
    rw[D.force_iff]at h
    exact⟨_,_,h,Q18 λc w a hm hA hev=>⟨_,rfl,hev x (by simp [Op.operands])⟩⟩
  case assign x=>
    rw[D.force_iff]at h
    exact⟨_,_,h,Q18 λc w a hm hA hev=>⟨_,rfl,hev x (by simp [Op.operands])⟩⟩
  case alloc t=>
    split at h
    . rename_i ht
      simp only[Q02,aE,Qkk]at h
      obtain⟨⟨h0,hl⟩,h⟩:=h
      exact⟨_,_,h,Qgk λc w a hm hA hev=>⟨_,rfl,Z9a hT ht (lE h0) (bE hl) R.length c w⟩⟩
    . exact h.elim
  case box t x=>
    split at h
    . rename_i ht
      simp only[Q02,aE,Qkk,D.forceL_iff]at h
      obtain⟨⟨⟨h0,hv⟩,hl⟩,h⟩:=h
      exact⟨_,_,h,Qgk λc w a hm hA hev=>⟨_,rfl,qad (lE h0) hv (bE hl) R.length c w (hev x (by simp [Op.operands]))⟩⟩
    . exact h.elim
  case build t parts=>
    obtain⟨val,hK,hr⟩:=xG hT h
    refine⟨_,_,hK,Q18 λc w a hm hA hev=> ?_⟩
    obtain⟨u,hu,hx⟩:=hr c w a.eval (λp hp=>hev p.2 (by simp [Op.operands];exact⟨p.1,by simpa using hp⟩))
    refine⟨u,?_,hx⟩
    simp only[execOp]
    rw[Sem.run_bind,show parts.map (λx=>(x.1,a.eval x.2))=(parts.toList.map λp=>(p.1,a.eval p.2)).toArray from by rw[<-bS,bU],hu]
    rfl
  case buildSlice t len parts=>
    obtain⟨h1,h2⟩:=Qwb.1 h
    cases hl:Zad t len
    rotate_left
    . obtain⟨row,val,hK,hr⟩:=Z7i hT (h1 hl)
      refine⟨_,_,hK,Qgk λc w a hm hA hev=>⟨_,?_,hr c w a.eval (λp hp=>hev p.2 (by simp [Op.operands];exact⟨p.1,by simpa using hp⟩))⟩⟩
      simp only[execOp]
      rw[show parts.map (λx=>(x.1,a.eval x.2))=(parts.toList.map λp=>(p.1,a.eval p.2)).toArray from by rw[<-bS,bU]]
    have h:=h2 hl
    obtain⟨val,hK,hr⟩:=Zbg hT h
    refine⟨_,_,hK,⟨[],by simp⟩,λc w a hm hb hA _ hev K Q hK=> ?_⟩
    obtain⟨u,arr,ty,hu,hx⟩:=hr c w a.eval hb (λp hp=>hev p.2 (by simp [Op.operands];exact⟨p.1,by simpa using hp⟩))
    have hrun:(execOp a.eval (⟨dst, .buildSlice t len parts,type,pos,after,guard⟩:Oper)).run P w= .ok (.value u) (w.alloc (.cells arr ty)):=by
      simp only[execOp]
      rw[Sem.run_bind,show parts.map (λx=>(x.1,a.eval x.2))=(parts.toList.map λp=>(p.1,a.eval p.2)).toArray from by rw[<-bS,bU],hu]
      rfl
    exact Qf5 hrun (hK u _ (c.imm w.heap.size) ⟨zV hm _,Qoq hm _,Fr.alloc _ w _,λb hb=>hb.elim .inl (λe=> .inr (by omega)),λr=>by rw[if_neg (by omega)];rfl,λ_ _=>⟨rfl,Iff.rfl⟩,λr h1 h2=>by omega⟩ (hx hm))
  case load t x=>
    obtain⟨val,hK,hr⟩:=Z68 hT h
    refine⟨_,_,hK,Q18 λc w a hm hA hev=> ?_⟩
    obtain⟨u,hu,hx⟩:=hr c w _ hm hA (hev x (by simp [Op.operands]))
    exact⟨u,by simp only[execOp];rw[Sem.run_bind,hu];rfl,hx⟩
  case store t x y=>
    obtain⟨R',hK,hr⟩:=Zb4 hT h
    refine⟨_,_,hK,?_⟩
    simp only[Qjz,if_true]
    intro c w a hm hb hR hev K Q hK
    obtain⟨r,row',arr,w',hrun,hw',⟨row,hrow⟩,hV,hg,hm',hR'⟩:=hr c w _ _ hm hR (hev x (by simp [Op.operands])) (hev y (by simp [Op.operands]))
    refine xF (w':=w') ?_ (hK undef w' _ ⟨hm',hg,?_,λb hb=> .inl hb,λs row'' hs hv=> ?_⟩ hR' trivial)
    . simp only[execOp];rw[Sem.run_bind,hrun];rfl
    rotate_left
    . by_cases e:s=r
      . exact .inl ⟨⟨row,by rw[e];exact hrow⟩,hv,rfl⟩
      . exact .inl ⟨⟨row'',by simpa [Ctx.upd,e] using hs⟩,hv,rfl⟩
    . rw[hw']
      exact(Qc6 w _ arr).mono λb _ e=>⟨r,row,hrow,hV,e.symm⟩
  case nilCheck x=>
    have go: ∀d,ev x=d->(∃a b c,d= .ptr a b c)\/(∃a b c e,d= .iptr a b c e)->K d R-> ∃val R',K val R'/\OpN P ⟨dst, .nilCheck x,type,pos,after,guard⟩ ev R val R':=by
      intro d hd hform hK
      refine⟨_,_,hK,Q18 λc w a hm hA hev=> ?_⟩
      have hx:=hev x (by simp [Op.operands])
      rw[hd]at hx
      have hp: ∃q,a.eval x= .pointer (some q):=by
        rcases hform with⟨r,i,off,rfl⟩|⟨sz,es,i,off,rfl⟩
        . obtain⟨_,_,_,_,hv⟩:=hx;exact⟨_,hv⟩
        . obtain⟨_,_,_,_,_,hv,_⟩:=hx;exact⟨_,hv⟩
      obtain⟨q,hq⟩:=hp
      refine⟨a.eval x,?_,hx⟩
      simp only[execOp,hq,Sem.run_pure]
    split at h
    . rename_i hd;exact go _ hd (.inl ⟨_,_,_,rfl⟩) h
    . rename_i hd;exact go _ hd (.inr ⟨_,_,_,_,rfl⟩) h
    . exact h.elim
  case binOp op t x y ty=>
    have fin: ∀(val:D),(∀c w u v,Rep c w (ev x) u->Rep c w (ev y) v-> ∃z,(do eqGuard op t x y u v;binOp op t u v).run P w= .ok z w/\Rep c w val z)->OpN P ⟨dst, .binOp op t x y ty,type,pos,after,guard⟩ ev R val R:=λval hv=>
      Q18 λc w a hm hA hev=>by
        obtain⟨z,hz,hr⟩:=hv c w _ _ (hev x (by simp [Op.operands])) (hev y (by simp [Op.operands]))
        refine⟨z,?_,hr⟩
        simp only[execOp]
        rw[Sem.run_bind,hz];rfl
    unfold binVC at h
    split at h
    . rename_i k a k' b hx hy
      split at h
      . simp only[Q02,decide_eq_true_eq]at h
        refine⟨_,_,h.2,fin _ λc w u v hu hv=> ?_⟩
        rw[hx]at hu;rw[hy]at hv
        rw[Rep.int.1 hu,Rep.int.1 hv]
        exact⟨_,by rw[Sem.run_bind,Qmo];exact(Z42 h.1 w).1,rfl⟩
      . simp only[Q02,decide_eq_true_eq]at h
        refine⟨_,_,h.2,fin _ λc w u v hu hv=> ?_⟩
        rw[hx]at hu;rw[hy]at hv
        rw[Rep.int.1 hu,Rep.int.1 hv]
        exact⟨_,by rw[Sem.run_bind,Qmo];exact(Z42 h.1 w).2,rfl⟩
      . rename_i h1 h2
        simp only[Q02,decide_eq_true_eq]at h
        obtain⟨rfl,h⟩:=h
        obtain⟨d,hK,hr⟩:=vV (P:=P) (t:=t) ⟨λe=>h1 e,λe=>h2 e⟩ h
        refine⟨_,_,hK,fin _ λc w u v hu hv=> ?_⟩
        rw[hx]at hu;rw[hy]at hv
        rw[Rep.int.1 hu,Rep.int.1 hv]
        obtain⟨z,hz,hz'⟩:=hr w
        exact⟨z,by rw[Sem.run_bind,Qmo];exact hz,hz' c⟩
    . rename_i a b hx hy
      obtain⟨d,hK,hr⟩:=qW (P:=P) (t:=t) (op:=op) (a:=a) (b:=b) (K:=λd=>K d R) h
      refine⟨_,_,hK,fin _ λc w u v hu hv=> ?_⟩
      rw[hx]at hu;rw[hy]at hv
      rw[Rep.str.1 hu,Rep.str.1 hv]
      obtain⟨z,hz,hz'⟩:=hr w
      exact⟨z,by rw[Sem.run_bind,Z6r];exact hz,hz' c⟩
    . rename_i a b hx hy
      split at h
      . rename_i ht
        have hd:=Q1q hT ht
        simp only at hd
        split at h
        . refine⟨_,_,h,fin _ λc w u v hu hv=> ?_⟩
          rw[hx]at hu;rw[hy]at hv
          rw[Rep.bool.1 hu,Rep.bool.1 hv]
          refine⟨_,?_,rfl⟩
          rw[Sem.run_bind,Qrk]
          simp only[binOp]
          simp [Op.equal,Op.maxDepth,run_equalIn_bool' w 9999 t a b hd]
        . refine⟨_,_,h,fin _ λc w u v hu hv=> ?_⟩
          rw[hx]at hu;rw[hy]at hv
          rw[Rep.bool.1 hu,Rep.bool.1 hv]
          refine⟨_,?_,rfl⟩
          rw[Sem.run_bind,Qrk]
          simp only[binOp]
          simp [Op.equal,Op.maxDepth,run_equalIn_bool' w 9999 t a b hd]
        . exact h.elim
      . exact h.elim
    . rename_i a b hx hy
      split at h
      . rename_i ti ht
        simp only[Q02,aE]at h
        obtain⟨⟨⟨⟨⟨hag,h0⟩,he⟩,fa⟩,fb⟩,h⟩:=h
        obtain⟨i0,hi0,hs0,_,hl0,hk0,_,heq,hc,d0,hd0⟩:=Q7k (hT.get ht)
        have h0:0<ti.size:=lE h0
        rw[heq]at he
        simp only[aE,Bool.not_eq_true']at he
        rw[hc]at fa fb
        have hcells:P.cellsOf t=(Q4b P 8 t).length:=by rw[<-hc,hl0];simp [Program.cellsOf,hi0,hs0]
        have hpos:0<P.cellsOf t:=by simp [Program.cellsOf,hi0,hs0,h0]
        have heqv: ∀c w u v,Rep c w (ev x) u->Rep c w (ev y) v-> ∃us vs:Array Value,u= .agg us/\v= .agg vs/\(Op.equalIn 10000 t (.agg us) (.agg vs)).run P w= .ok (eqs a b) w:=by
          intro c w u v hu hv
          rw[hx]at hu;rw[hy]at hv
          obtain⟨us,hu,ru⟩:=hu
          obtain⟨vs,hv,rv⟩:=hv
          refine⟨us.toArray,vs.toArray,hu,hv,?_⟩
          have hcmp:=Z76 (P:=P) 8 t 10000 (by omega) he.2 hcells hpos us.toArray vs.toArray 0 a b w fa fb (zN ru fa) (zN rv fb)
          have hlu:=ru.length;have hlv:=rv.length
          have hla:=Q24 fa;have hlb:=Q24 fb
          have hagg:Qx0 d0=true:=by rw[<-Qb5 hd0,<-hk0];exact hag
          simp only[cmpT,Sem.run_bind,Qfv hd0 hagg hpos,Result.andThen_ok]at hcmp
          rw[show us.toArray.extract 0 (0+P.cellsOf t)=us.toArray from by apply fP;simp;omega,show vs.toArray.extract 0 (0+P.cellsOf t)=vs.toArray from by apply fP;simp;omega]at hcmp
          exact hcmp
        split at h
        . refine⟨_,_,h,fin _ λc w u v hu hv=> ?_⟩
          obtain⟨us,vs,rfl,rfl,hr⟩:=heqv c w u v hu hv
          refine⟨_,?_,rfl⟩
          rw[Sem.run_bind,run_eqGuard_agg w _ _ _ _ _ _ he.1,Result.andThen_ok,run_eql_struct,hr];rfl
        . refine⟨_,_,h,fin _ λc w u v hu hv=> ?_⟩
          obtain⟨us,vs,rfl,rfl,hr⟩:=heqv c w u v hu hv
          refine⟨_,?_,rfl⟩
          rw[Sem.run_bind,run_eqGuard_agg w _ _ _ _ _ _ he.1,Result.andThen_ok,run_neq_struct,hr];rfl
        . exact h.elim
      . exact h.elim
    . exact h.elim
  case unOp op t x=>
    split at h
    . rename_i k n hx
      refine⟨_,_,h,Q18 λc w a hm hA hev=> ?_⟩
      have:=hev x (by simp [Op.operands])
      rw[hx]at this
      exact⟨_,by simp only[execOp,Rep.int.1 this,Op.unary,Op.intArith,Sem.run_bind,Sem.run_pure];rfl,rfl⟩
    . rename_i k n hx
      refine⟨_,_,h,Q18 λc w a hm hA hev=> ?_⟩
      have:=hev x (by simp [Op.operands])
      rw[hx]at this
      exact⟨_,by simp only[execOp,Rep.int.1 this,Op.unary,Op.intBits,Sem.run_bind,Sem.run_pure];rfl,rfl⟩
    . rename_i b hx
      refine⟨_,_,h,Q18 λc w a hm hA hev=> ?_⟩
      have:=hev x (by simp [Op.operands])
      rw[hx]at this
      exact⟨_,by simp only[execOp,Rep.bool.1 this,Op.unary,Sem.run_bind,Sem.run_pure];rfl,rfl⟩
    . exact h.elim
  case convert s d x=>
    obtain⟨val,hK,hr⟩:=xW hT h
    refine⟨_,_,hK,Q18 λc w a hm hA hev=> ?_⟩
    obtain⟨u,hu,hx⟩:=hr c w _ (hev x (by simp [Op.operands]))
    exact⟨u,by simp only[execOp];rw[Sem.run_bind,hu];rfl,hx⟩
  case makeSlice t l cp=>
    split at h
    . rename_i kl n kc m hl hc
      obtain⟨row,val,hK,hr⟩:=vm (kl:=kl) (kc:=kc) hT h
      refine⟨_,_,hK,Qgk λc w a hm hA hev=>⟨_,rfl,?_⟩⟩
      have h1:=hev l (by simp [Op.operands]);have h2:=hev cp (by simp [Op.operands])
      rw[hl]at h1;rw[hc]at h2
      rw[Rep.int.1 h1,Rep.int.1 h2]
      exact hr c w
    . exact h.elim
  case slice t x lo hi mx=>
    cases mx with
    |some m=>simp only at h
    | none=>
      simp only at h
      obtain⟨val,hK,hr⟩:=qG hT h
      refine⟨_,_,hK,Q18 λc w a hm hA hev=> ?_⟩
      obtain⟨u,hu,hx⟩:=hr c w _ a.eval hm hA (hev x (by simp [Op.operands])) (λy hy=>hev y (by simp [Op.operands,hy])) (λy hy=>hev y (by simp [Op.operands,hy]))
      exact⟨u,by simp only[execOp];rw[Sem.run_bind];simp only[Option.map_none];rw[hu];rfl,hx⟩
  case fieldAddr s x f=>
    split at h
    . rename_i o q n hf
      simp only[Q02]at h
      obtain⟨h0,h⟩:=h
      have h0:0<n:=lE h0
      obtain⟨fs,fd,g1,g2,g3,g4,g5⟩:=Qrj hT hf
      split at h
      . rename_i r i off hx
        refine⟨_,_,h,Q18 λc w a hm hA hev=> ?_⟩
        have:=hev x (by simp [Op.operands])
        rw[hx]at this
        obtain⟨row,k1,kV,k2,hv⟩:=this
        refine⟨_,by simp only[execOp,hv];rw[Sem.run_bind,Quv g1 g2 (by simp only at g5;omega)];rfl,row,k1,kV,k2,by rw[g3,fO]⟩
      . rename_i sz es i off hx
        refine⟨_,_,h,Q18 λc w a hm hA hev=> ?_⟩
        have:=hev x (by simp [Op.operands])
        rw[hx]at this
        obtain⟨b,oo,arr,ty,fz,hv,hI,hi,hh,hE⟩:=this
        refine⟨_,by simp only[execOp,hv];rw[Sem.run_bind,Quv g1 g2 (by simp only at g5;omega)];rfl,b,oo,arr,ty,fz,by rw[g3,fO],hI,hi,hh,hE⟩
      . exact h.elim
    . exact h.elim
  case field s x f=>
    split at h
    . rename_i o q n hf
      obtain⟨fs,fd,g1,g2,g3,g4,g5⟩:=Qrj hT hf
      simp only at g4 g5
      split at h
      . rename_i cs ti hx ht
        simp only[Q02,aE]at h
        obtain⟨⟨h0,hle⟩,h⟩:=h
        have h0:0<n:=lE h0
        have hle:=lE hle
        obtain⟨_,_,_,_,_,hk0,_,_,_,d0,hd0⟩:=Q7k (hT.get ht)
        have run: ∀(vs:List Value) (w:World) (r:Value),(part q vs.toArray o).run P w= .ok r w->(Instr.field s (.agg vs.toArray) f).run P w= .ok r w:=λvs w r hr=>by
          simp only[Instr.field,Sem.run_bind,run_underlying g1,Result.andThen_ok,g2,asAgg,Sem.run_pure,g4,g3,hr]
        split at h
        . rename_i hag
          rw[D.forceL_iff]at h
          refine⟨_,_,h,Q18 λc w a hm hA hev=> ?_⟩
          have:=hev x (by simp [Op.operands])
          rw[hx]at this
          obtain⟨vs,hv,hr⟩:=this
          have hp:=Qfv (P:=P) hd0 (by rw[<-Qb5 hd0,<-hk0];exact hag) (by rw[<-g4,g5];exact h0) vs.toArray o w
          refine⟨_,by simp only[execOp,hv];rw[Sem.run_bind,run vs w _ hp];rfl,(vs.drop o).take n,?_,Zc7 hr o n⟩
          rw[<-g4,g5]
          congr 1
          simp [List.extract_toArray,List.extract_eq_take_drop]
        . rename_i hag
          simp only[D.force_iff]at h
          obtain⟨hcell,h⟩:=h
          refine⟨_,_,h,Q18 λc w a hm hA hev=> ?_⟩
          have:=hev x (by simp [Op.operands])
          rw[hx]at this
          obtain⟨vs,hv,hr⟩:=this
          have hl:=hr.length
          have hget:vs[o]? =some vs[o]:=cI (by omega)
          have hp:=Q4q (P:=P) (t:=q) hd0 (by rw[<-Qb5 hd0,<-hk0];exact hag) (xs:=vs.toArray) (o:=o) (v:=vs[o]) (by rw[aY];exact hget) w
          refine⟨_,by simp only[execOp,hv];rw[Sem.run_bind,run vs w _ hp];rfl,?_⟩
          have hc:=(Q97.1 hr).2 o _ hget
          generalize cs.getD o .dead=d at*
          cases d<;>first|exact hc|trivial|exact hc.elim
      . exact h.elim
    . exact h.elim
  case indexAddr t x ix=>
    split at h
    . rename_i k n hn
      obtain⟨val,hK,hr⟩:=Zbe (k:=k) hT h
      refine⟨_,_,hK,Q18 λc w a hm hA hev=> ?_⟩
      have h2:=hev ix (by simp [Op.operands])
      rw[hn]at h2
      obtain⟨u,hu,hx⟩:=hr c w _ hm hA (hev x (by simp [Op.operands]))
      exact⟨u,by simp only[execOp,Rep.int.1 h2];rw[Sem.run_bind,hu];rfl,hx⟩
    . exact h.elim
  case index t x ix=>
    split at h
    . rename_i s k n ht hx hn
      have hd:=Q1q hT ht
      simp only at hd
      simp only[Q02,decide_eq_true_eq]at h
      obtain⟨⟨h1,h2⟩,h⟩:=h
      refine⟨_,_,h,Q18 λc w a hm hA hev=> ?_⟩
      have e1:=hev x (by simp [Op.operands]);have e2:=hev ix (by simp [Op.operands])
      rw[hx]at e1;rw[hn]at e2
      refine⟨_,?_,rfl⟩
      have hlt:n.toNat<s.length:=by omega
      have hg:(ByteArray.mk s.toArray)[n.toNat]? =some (s.getD n.toNat 0):=by
        have h3:n.toNat<(ByteArray.mk s.toArray).size:=by simpa [ByteArray.size] using hlt
        rw[getElem?_pos (ByteArray.mk s.toArray) n.toNat h3]
        simp only[aK,cI hlt,aG]
        rfl
      simp only[execOp,Rep.str.1 e1,Rep.int.1 e2,Instr.index,asIntOf,Sem.run_bind,Sem.run_pure,Result.andThen_ok,run_underlying hd,h1,if_true,hg]
    . rename_i len e esz _ _ _ _ _ cs k n ht hx hn
      have hd:=Q1q hT ht
      simp only at hd
      obtain⟨hd,hsz⟩:=hd
      simp only[Q02,aE,decide_eq_true_eq]at h
      obtain⟨⟨q1,q2,q3,q4⟩,h⟩:=h
      have q1:=bE q1
      have q2:=bE q2
      have run: ∀(vs:List Value) (v:Value) (w:World) (d:TypeDesc),P.underlying e=some d->Qx0 d=false->vs[n.toNat]? =some v->(Instr.index t (.agg vs.toArray) (.int k n)).run P w= .ok v w:=λvs v w d hu hda hv=>by
        have h0:0<P.cellsOf e:=by omega
        simp only[Instr.index,asIntOf,Sem.run_bind,Sem.run_pure,Result.andThen_ok,run_underlying hd,Sem.run_ite,q3,q4,and_self,if_true,Q88 h0]
        rw[hsz,q1,Nat.mul_one]
        exact Q4q hu hda (by rw[aY];exact hv) w
      have cell: ∀(c:Ctx) (w:World) (a:Act),Rep c w (.agg cs) (a.eval x)-> ∃vs:List Value,a.eval x= .agg vs.toArray/\ ∃v,vs[n.toNat]? =some v/\CRep c w (cs.getD n.toNat .dead) v:=λc w a hr=>by
        obtain⟨vs,hv,hr⟩:=hr
        have hl:=hr.length
        have hget:vs[n.toNat]? =some vs[n.toNat]:=cI (by omega)
        exact⟨vs,hv,_,hget,(Q97.1 hr).2 _ _ hget⟩
      split at h
      . rename_i kk _ _ _ _ _ he
        have hu:=Q1q hT he
        simp only at hu
        obtain⟨h1,h⟩:=h
        refine⟨_,_,h,Q18 λc w a hm hA hev=> ?_⟩
        have e1:=hev x (by simp [Op.operands]);have e2:=hev ix (by simp [Op.operands])
        rw[hx]at e1;rw[hn]at e2
        obtain⟨vs,hv,v,g1,g2⟩:=cell c w a e1
        have hi:=Qgm h1 (n:=n.toNat) (by omega)
        rw[aX]at hi
        rw[D.isInt_eq hi]at g2
        refine⟨v,?_,?_⟩
        . simp only[execOp,Rep.int.1 e2,hv]
          rw[Sem.run_bind,run vs v w _ hu rfl g1];rfl
        . rw[Qti (show n.toNat<len by omega),aX]
          exact g2
      . rename_i he
        have hu:=Q1q hT he
        simp only at hu
        obtain⟨h1,h⟩:=h
        refine⟨_,_,h,Q18 λc w a hm hA hev=> ?_⟩
        have e1:=hev x (by simp [Op.operands]);have e2:=hev ix (by simp [Op.operands])
        rw[hx]at e1;rw[hn]at e2
        obtain⟨vs,hv,v,g1,g2⟩:=cell c w a e1
        have hi:=Qdl h1 (n:=n.toNat) (by omega)
        rw[aX]at hi
        rw[D.isBool_eq hi]at g2
        refine⟨v,?_,?_⟩
        . simp only[execOp,Rep.int.1 e2,hv]
          rw[Sem.run_bind,run vs v w _ hu rfl g1];rfl
        . rw[Qmv (show n.toNat<len by omega),aX]
          exact g2
      . rename_i ti he1 he2 he
        split at h
        . rename_i hag
          obtain⟨_,_,_,_,_,hk0,_,_,_,d0,hd0⟩:=Q7k (hT.get he)
          simp only[D.force_iff]at h
          obtain⟨hcell,h⟩:=h
          refine⟨_,_,h,Q18 λc w a hm hA hev=> ?_⟩
          have e1:=hev x (by simp [Op.operands]);have e2:=hev ix (by simp [Op.operands])
          rw[hx]at e1;rw[hn]at e2
          obtain⟨vs,hv,v,g1,g2⟩:=cell c w a e1
          refine⟨v,?_,?_⟩
          . simp only[execOp,Rep.int.1 e2,hv]
            rw[Sem.run_bind,run vs v w _ hd0 (by rw[<-Qb5 hd0,<-hk0];exact hag) g1];rfl
          . generalize cs.getD n.toNat .dead=d at*
            cases d<;>first|exact g2|trivial|exact g2.elim
        . exact h.elim
      . exact h.elim
    . exact h.elim
  case extract x i=>
    split at h
    . rename_i ds hx
      simp only[Q02,D.force_iff]at h
      obtain⟨hv,h⟩:=h
      refine⟨_,_,h,Q18 λc w a hm hA hev=> ?_⟩
      have:=hev x (by simp [Op.operands])
      rw[hx]at this
      obtain⟨vs,hvs,hr⟩:=this
      have hlt:i<ds.length:=by
        by_cases hl:i<ds.length
        . exact hl
        . rw[aK,aM (by omega)]at hv;simp [D.isVal]at hv
      obtain⟨v,hvi,hvr⟩:=Qvv hr i hlt
      refine⟨v,?_,?_⟩
      . simp only[execOp,hvs,Instr.extract,aY,hvi];rfl
      . generalize ds.getD i .dead=d at*
        cases d<;>first|exact hvr|trivial|exact hvr.elim
    . exact h.elim
  case call cl=>
    obtain⟨callee,args,tys⟩:=cl
    cases callee<;>try(simp only at h)
    case builtin b=>
    cases b<;>try(simp only at h)
    case len=>
      split at h
      . rename_i x t hx ht
        obtain⟨val,hK,hr⟩:=xac (t':=type) hT h
        refine⟨_,_,hK,Q18 λc w a hm hA hev=> ?_⟩
        have hargs:args= #[x]:=by rw[<-bU (xs:=args),hx]
        have htys:tys= #[t]:=by rw[<-bU (xs:=tys),ht]
        subst hargs;subst htys
        obtain⟨u,hu,hx⟩:=hr c w _ hm hA (hev x (by simp [Op.operands,Call.operands]))
        refine⟨u,?_,hx⟩
        simp only[execOp,resolve,Sem.run_bind,Sem.run_pure,Result.andThen_ok,invoke,builtin]
        have:(#[x]:Array Operand).map a.eval= #[a.eval x]:=by simp
        rw[this,hu];rfl
      . exact h.elim
def Ctx.kill(c:Ctx)(ks:List Nat):Ctx:={c with R:=λr=>if memB r ks=true then none else(c.R r).map (Row.kill ks)}
structure NxtK(ks:List Nat)(c:Ctx)(w:World)(c':Ctx)(w':World):Prop where
 mem:Mem c' w'
 grows:Q2n (c.kill ks) w c' w'
 fr:Fr (λb=>∃r x,c.R r=some x/\¬c.V r/\c.ρ r=b) w w'
 imm:∀b,c'.I b->c.I b\/(∃s row,memB s ks=true/\c.R s=some row/\¬c.V s/\c.ρ s=b)\/w.heap.size<=b
 rho:∀r row',c'.R r=some row'->¬c'.V r->((∃row,c.R r=some row)/\¬c.V r/\c'.ρ r=c.ρ r)\/(∃s row,memB s ks=true/\c.R s=some row/\¬c.V s/\c'.ρ r=c.ρ s)\/w.heap.size<=c'.ρ r
def Q2f(P:Program)(f:FuncId)(args:List D)(rows:List Row)(res:D)(rows':List Row):Prop:=
 ∀ (c:Ctx) (w:World) (vs:List Value),Mem c w->c.base=w.heap.size->(∀r,c.R r=rows[r]?)->Q5p c w args vs->
  Calls P f vs.toArray w λe w'=>∃v c',e=.returned v/\NxtW c w c' w'/\(∀r,c'.R r=rows'[r]?)/\Rep c' w' res v
def Qgy(P:Program)(I:Blocks)(f:FuncId)(vs:List Value)(w:World)(R:Ending->World->Prop):Prop:=
 (f<YB->Calls P f vs.toArray w R)/\
 (YB<=f->∀l rec xs us,vs=xs++us->I l->w.heap[l]?=some (.loop rec)->YRec f us rec->xs.length=1->
  RoundIn Fence.wide 0 P l rec.fn ((rec.params.zip xs.toArray).foldl (λtmps (t,a)=>tmps.setIfInBounds t a) rec.tmps) rec.assign rec.body w R)
theorem Qgy.mono{P:Program}{I I':Blocks}{f:FuncId}{vs:List Value}{w:World}{R R':Ending->World->Prop}(h:Qgy P I f vs w R)(hI:∀b,I' b->I b)(hR:∀e w',R e w'->R' e w'):Qgy P I' f vs w R':=
 ⟨λhf=>(h.1 hf).mono hR,λhf l rec xs us h1 h2 h3 h4 h5=>(h.2 hf l rec xs us h1 (hI l h2) h3 h4 h5).mono hR⟩
theorem Qgy.real{P:Program}{I:Blocks}{f:FuncId}{vs:List Value}{w:World}{R:Ending->World->Prop}(hf:f<YB)(h:Calls P f vs.toArray w R):Qgy P I f vs w R:=⟨λ_=>h,λhg=>absurd hf (Nat.not_lt.2 hg)⟩
def Q9l(P:Program)(f:FuncId)(k:Nat)(args:List D)(rows:List Row)(res:D)(rows':List Row):Prop:=
 ∀ (c:Ctx) (w:World) (vs:List Value),Mem c w->c.base=0->(∀r,c.R r=rows[r]?)->Q5p c w args vs->
  Qgy P c.I f vs w λe w'=>∃v c',e=.returned v/\NxtK (List.range' k (rows.length-k)) c w c' w'/\(∀r,c'.R r=rows'[r]?)/\Rep c' w' res v
def scal:D->Prop|.int _ _=>True|.bool _=>True|.str _=>True|.nils=>True|.nilp=>True|.emp=>True|_=>False
def CT.scal:CT->Bool|.int _=>true|.bool=>true|.str=>true|_=>false
def RK.scal(k:RK):Bool:=k.sig.all CT.scal
def Els.Scal:Els->Prop
 |.gen es=>∀e∈es,∀d∈e,scal d
 |.recs k _=>k.scal=true
 |_=>True
theorem Qzo:∀{ts:List CT} {cs:List D} {j:Nat},ts.all CT.scal=true->∀d∈Qn5 ts cs j,scal d
 |[],_,_,_,d,h=>by simp[Qn5]at h
 |t ::ts,cs,j,ht,d,h=>by
  simp only[List.all_cons,aE]at ht
  simp only[Qn5,fG]at h
  rcases h with h|h
  ·subst h
   cases t<;>first|trivial|(simp[CT.scal]at ht)
  ·exact Qzo ht.2 d h
theorem Els.Scal_l{E:Els}(h:E.Scal):∀e∈E.l,∀d∈e,scal d:=by
 cases E with
 |gen es=>exact h
 |ints k l=>
  intro e he d hd
  simp only[Els.l,fQ]at he
  obtain⟨n,_,rfl⟩:=he
  simp at hd
  subst hd;trivial
 |bools l=>
  intro e he d hd
  simp only[Els.l,fQ]at he
  obtain⟨n,_,rfl⟩:=he
  simp at hd
  subst hd;trivial
 |recs k l=>
  intro e he d hd
  simp only[Els.l,fQ]at he
  obtain⟨x,_,rfl⟩:=he
  rw[<-RK.conv_cells]at hd
  exact Qzo h d hd
def FF1:D->Prop
 |.sl _ es fr=>(es.Nil\/fr=true)/\es.Scal
 |.iptr _ _ _ _=>False
 |.clo _ _=>False
 |_=>True
def FFs:List D->Prop
 |[]=>True
 |d::ds=>FF1 d/\FFs ds
def FF2:D->Prop
 |.agg cs=>FFs cs
 |d=>FF1 d
def FF2s:List D->Prop
 |[]=>True
 |d::ds=>FF2 d/\FF2s ds
def FF:D->Prop
 |.tup ds=>FF2s ds
 |d=>FF2 d
def FFR(row:Row):Prop:=if row.box then∀e∈row.es.l,FFs e else row.es.Scal
def FFRs:List Row->Prop
 |[]=>True
 |r::l=>FFR r/\FFRs l
structure Q05(P:Program)(x:Q09):Prop where
 enters:x.f<YB->∀args w,(callFunc x.f args).run P w=.ok (.enter x.f args) w
 real:x.gone=none->x.f<YB
 ok:x.gone=none->∀args rows res rows',x.m args rows=.ok res rows'->Q2f P x.f args rows res rows'/\(x.flat=true->FF res/\FFRs rows')
 when:x.gone=none->∀args rows p res rows',x.m args rows=.when p res rows'->p->Q2f P x.f args rows res rows'/\(x.flat=true->FF res/\FFRs rows')
 abs:x.gone=none->∀args rows α v res rows',x.m args rows=.abs α v res rows'->Q2f P x.f args rows (res v) (rows' v)/\(x.flat=true->FF (res v)/\FFRs (rows' v))
 absW:x.gone=none->∀args rows p α v res rows',x.m args rows=.absW p α v res rows'->p->Q2f P x.f args rows (res v) (rows' v)/\(x.flat=true->FF (res v)/\FFRs (rows' v))
 kabs:∀k,x.gone=some k->∀args rows α v res rows',x.m args rows=.abs α v res rows'->Q9l P x.f k args rows (res v) (rows' v)
 kabsW:∀k,x.gone=some k->∀args rows p α v res rows',x.m args rows=.absW p α v res rows'->p->Q9l P x.f k args rows (res v) (rows' v)
def Q09.or(x y:Q09):Q09:={x with m:=λa r=>match x.m a r with|.no=>y.m a r|z=>z}
theorem Q05.or{P:Program}{x y:Q09}(hf:y.f=x.f)(hg:y.gone=x.gone)(hl:x.flat=true->y.flat=true)(hx:Q05 P x)(hy:Q05 P y):Q05 P (x.or y):=by
 have key:∀{a r z},(x.or y).m a r=z->z≠.no->x.m a r=z\/y.m a r=z:=fun{a r z} h hz=>by
  simp only[Q09.or]at h
  split at h
  ·exact .inr h
  ·exact .inl h
 refine⟨hx.enters,hx.real,λh0 a r res rows' h=>?_,λh0 a r p res rows' h hp=>?_,λh0 a r α v res rows' h=>?_,λh0 a r p α v res rows' h hp=>?_,λk h0 a r α v res rows' h=>?_,λk h0 a r p α v res rows' h hp=>?_⟩
 ·rcases key h (by simp)with h|h
  ·exact hx.ok h0 _ _ _ _ h
  ·obtain⟨q1,q2⟩:=hy.ok (hg.trans h0) _ _ _ _ h
   exact⟨by show Q2f P x.f _ _ _ _;rw[<-hf];exact q1,λe=>q2 (hl e)⟩
 ·rcases key h (by simp)with h|h
  ·exact hx.when h0 _ _ _ _ _ h hp
  ·obtain⟨q1,q2⟩:=hy.when (hg.trans h0) _ _ _ _ _ h hp
   exact⟨by show Q2f P x.f _ _ _ _;rw[<-hf];exact q1,λe=>q2 (hl e)⟩
 ·rcases key h (by simp)with h|h
  ·exact hx.abs h0 _ _ _ _ _ _ h
  ·obtain⟨q1,q2⟩:=hy.abs (hg.trans h0) _ _ _ _ _ _ h
   exact⟨by show Q2f P x.f _ _ _ _;rw[<-hf];exact q1,λe=>q2 (hl e)⟩
 ·rcases key h (by simp)with h|h
  ·exact hx.absW h0 _ _ _ _ _ _ _ h hp
  ·obtain⟨q1,q2⟩:=hy.absW (hg.trans h0) _ _ _ _ _ _ _ h hp
   exact⟨by show Q2f P x.f _ _ _ _;rw[<-hf];exact q1,λe=>q2 (hl e)⟩
 ·rcases key h (by simp)with h|h
  ·exact hx.kabs k h0 _ _ _ _ _ _ h
  ·have:=hy.kabs k (hg.trans h0) _ _ _ _ _ _ h
   rw[hf]at this;exact this
 ·rcases key h (by simp)with h|h
  ·exact hx.kabsW k h0 _ _ _ _ _ _ _ h hp
  ·have:=hy.kabsW k (hg.trans h0) _ _ _ _ _ _ _ h hp
   rw[hf]at this;exact this
def Q57(P:Program)(G:List Q09):Prop:=∀x∈G,Q05 P x
theorem Qf1{P:Program}:∀{G:List Q09} {f:FuncId} {x:Q09},Q57 P G->Qf0 G f=some x->Q05 P x/\x.f=f
 |[],f,x,_,h=>by simp[Qf0]at h
 |y ::l,f,x,hG,h=>by
  simp only[Qf0]at h
  split at h
  ·rename_i hb
   simp at h;subst h
   exact⟨hG y (by simp),bE hb⟩
  ·exact Qf1 (λz hz=>hG z (by simp[hz])) h
theorem Z9l:∀{rows:List Row} {i:Nat} {row:Row},FFRs rows->rows[i]?=some row->FFR row
 |r::l,0,row,h,hi=>by simp at hi;subst hi;exact h.1
 |r::l,i+1,row,h,hi=>Z9l h.2 (by simpa using hi)
 |[],i,row,_,hi=>by simp at hi
theorem Q2i{r:Nat}:∀{l:List Nat},memB r l=true↔r∈l
 |[]=>by simp[memB]
 |x ::l=>by
  simp only[memB]
  cases hb:Nat.beq x r with
  |true=>have:=bE hb;subst this;simp
  |false=>
   have hne:¬r=x:=λe=>by rw[e]at hb;simp at hb
   simp[Q2i (l:=l),hne]
theorem Qki:∀{l m:List Nat},subB l m=true↔ ∀r∈l,r∈m
 |[],m=>by simp[subB]
 |x::l,m=>by
  simp only[subB]
  cases hb:memB x m with
  |true=>simp[Qki (l:=l),Q2i.1 hb]
  |false=>simp[show¬x∈m fromλe=>by rw[Q2i.2 e]at hb;cases hb]
theorem Qth:∀{l m:List Nat},disB l m=true↔ ∀r∈l,¬r∈m
 |[],m=>by simp[disB]
 |x::l,m=>by
  simp only[disB]
  cases hb:memB x m with
  |true=>simp[Q2i.1 hb]
  |false=>simp[Qth (l:=l),show¬x∈m fromλe=>by rw[Q2i.2 e]at hb;cases hb]
theorem Qdj:∀{l:List Nat},Qlr l=true↔l.Nodup
 |[]=>by simp[Qlr]
 |x::l=>by
  simp only[Qlr,List.nodup_cons]
  cases hb:memB x l with
  |true=>simp[Q2i.1 hb]
  |false=>simp[Qdj (l:=l),show¬x∈l fromλe=>by rw[Q2i.2 e]at hb;cases hb]
theorem Zab{r:Nat}:∀{l:List Nat} {k:Nat},r∈l->∃j,pos r l k=k+j/\l[j]?=some r
 |x ::l,k,h=>by
  simp only[pos]
  cases hb:Nat.beq x r with
  |true=>exact⟨0,rfl,by simp[bE hb]⟩
  |false=>
   have hne:¬r=x:=λe=>by rw[e]at hb;simp at hb
   have hm:r∈l:=by simpa[hne]using h
   obtain⟨j,h1,h2⟩:=Zab (k:=k+1) hm
   exact⟨j+1,by show pos r l (k+1)=_;rw[h1];omega,by simpa using h2⟩
theorem Qck{r:Nat}{l:List Nat}(h:r∈l):l[pos r l 0]?=some r:=by
 obtain⟨j,h1,h2⟩:=Zab (k:=0) h
 rw[h1,aX];exact h2
structure Qyt(S:Nat->Prop)(f:Nat->Nat)(keep:Bool)(c1 c2:Ctx):Prop where
 row:∀i row,S i->c1.R i=some row->∃row',c2.R (f i)=some row'/\row'.box=row.box/\row'.ty=row.ty/\row'.sz=row.sz/\row'.es.l.length=row.es.l.length/\c2.ρ (f i)=c1.ρ i/\(c2.V (f i)↔c1.V i)
 base:keep=true->c2.base<=c1.base
 top:c1.top<=c2.top
theorem zF{I I':Blocks}{w:World}{d:D}{v:Value}(hs:scal d)(h:PRep I w d v):PRep I' w d v:=by
 cases h<;>first|exact hs.elim|constructor
theorem Z05{I I':Blocks}{w:World}:∀{cs:List D} {arr:Array Value} {off:Nat},(∀d∈cs,scal d)->Q8i I w cs arr off->Q8i I' w cs arr off
 |[],_,_,_,_=>by simp[Q6o,Q5]
 |d::cs,arr,off,hs,h=>by
  simp only[Q6o,Q5]at h⊢
  obtain⟨⟨v,hv,hp⟩,hr⟩:=h
  exact⟨⟨v,hv,zF (hs d (by simp)) hp⟩,Z05 (λe he=>hs e (by simp[he])) hr⟩
theorem Qp7{I I':Blocks}{w:World}:∀{es:List (List D)} {arr:Array Value} {off sz:Nat},(∀e∈es,∀d∈e,scal d)->Q15 I w es arr off sz->Q15 I' w es arr off sz
 |[],_,_,_,_,_=>by simp[Q25,Q1u]
 |e::es,arr,off,sz,hs,h=>by
  simp only[Q25,Q1u]at h⊢
  exact⟨h.1,Z05 (hs e (by simp)) h.2.1,Qp7 (λf hf=>hs f (by simp[hf])) h.2.2⟩
theorem VRep.ofC{c:Ctx}{w:World}{d:D}{v:Value}(h:CRep c w d v):VRep c w d v:=by cases d<;>first|exact h|exact h.elim
theorem VRep.toC{c:Ctx}{w:World}{d:D}{v:Value}(hd:∀cs,d≠.agg cs)(h:VRep c w d v):CRep c w d v:=by cases d<;>first|exact h|exact absurd rfl (hd _)
theorem Rep.ofV{c:Ctx}{w:World}{d:D}{v:Value}(h:VRep c w d v):Rep c w d v:=by cases d<;>first|exact h|exact h.elim|trivial
theorem Rep.toV{c:Ctx}{w:World}{d:D}{v:Value}(hd:∀ds,d≠.tup ds)(h0:d≠.dead)(h:Rep c w d v):VRep c w d v:=by cases d<;>first|exact h|exact absurd rfl (hd _)|exact absurd rfl h0
theorem Qvs{f:Nat->Nat}{keep:Bool}:∀{e:List D},(D.rens f keep e).length=e.length
 |[]=>rfl
 |d::l=>by simp[D.rens,Qvs (e:=l)]
section
variable {S:Nat->Prop} {f:Nat->Nat} {keep:Bool} {c1 c2:Ctx} {w:World} (hn:Qyt S f keep c1 c2) {flat:Prop} (hI:(∀b,c1.I b->c2.I b)\/(flat/\∀b,c1.I b->c1.base<=b->c2.I b))
include hn hI
theorem Z4s{d:D}{v:Value}(hne:∀f cs,d≠.clo f cs)(hS:∀r∈Q6i d,S r)(hff:flat->FF1 d)(h:CRep c1 w d v):CRep c2 w (d.ren1 f keep) v:=by
 cases d with
 |sl sz es fr=>
  obtain⟨a,cap,hv,hc,hes⟩:=h
  refine⟨a,cap,hv,hc,?_⟩
  rcases hes with hes|⟨b,off,arr,ty,fz,ha,hbI,hf,hh,hE⟩
  ·exact .inl hes
  ·have hb:(fr&&keep)=true->c2.base<=b:=λe=>by
    simp only[aE]at e
    exact Nat.le_trans (hn.base e.2) (hf e.1)
   rcases hI with hi|⟨hfl,hi⟩
   ·exact .inr ⟨b,off,arr,ty,fz,ha,hi b hbI,hb,hh,Q11 (λb hb=>⟨hi b hb,rfl⟩) _ _ _ _ hE⟩
   ·obtain⟨h1,h2⟩:=hff hfl
    rcases h1 with h1|h1
    ·exact .inl (Els.Nil_l.1 h1)
    ·exact .inr ⟨b,off,arr,ty,fz,ha,hi b hbI (hf h1),hb,hh,Qp7 (Els.Scal_l h2) hE⟩
 |all r=>
  obtain⟨row,hr,hb,h⟩:=h
  obtain⟨row',g1,g2,g3,g4,g5,g6,gV⟩:=hn.row r row (hS r (by simp[Q6i])) hr
  refine⟨row',g1,g2.trans hb,?_⟩
  rcases h with⟨hV,hv⟩|⟨hV,cap,arr,hv,h1,h2,h3,h4⟩
  ·obtain⟨a,hv,ho⟩:=hv;exact .inl ⟨gV.2 hV,a,hv,ho.mono hn.top⟩
  ·exact .inr ⟨λe=>hV (gV.1 e),cap,arr,by rw[hv,g5,g6],by rw[g5];exact h1,h2,by rw[g6,g3];exact h3,by rw[g4];exact h4⟩
 |own r o n=>
  obtain⟨row,hr,hb,ho,h⟩:=h
  obtain⟨row',g1,g2,g3,g4,g5,g6,gV⟩:=hn.row r row (hS r (by simp[Q6i])) hr
  refine⟨row',g1,g2.trans hb,by rw[g5];exact ho,?_⟩
  rcases h with⟨h0,a,hv,ho'⟩|⟨hV,cap,arr,h1,h2,h3,h4,h5⟩
  ·exact .inl ⟨h0,a,hv,ho'.mono hn.top gV g6⟩
  ·exact .inr ⟨λe=>hV (gV.1 e),cap,arr,h1,h2,by rw[g6,g3];exact h3,by rw[g4,g6];exact h4,by rw[g4];exact h5⟩
 |ptr r i off=>
  obtain⟨row,hr,hV,hi,hv⟩:=h
  obtain⟨row',g1,g2,g3,g4,g5,g6,gV⟩:=hn.row r row (hS r (by simp[Q6i])) hr
  exact⟨row',g1,λe=>hV (gV.1 e),by rw[g5];exact hi,by rw[hv,g6,g4]⟩
 |pa r i off len k n=>
  obtain⟨hlt,row,hr,hV,hi,hv⟩:=h
  obtain⟨row',g1,g2,g3,g4,g5,g6,gV⟩:=hn.row r row (hS r (by simp[Q6i])) hr
  exact⟨hlt,row',g1,λe=>hV (gV.1 e),by rw[g5];exact hi,by rw[hv,g6,g4]⟩
 |iptr sz es i off=>
  obtain⟨b,o,arr,ty,fz,hv,hbI,hi',hh,hE⟩:=h
  rcases hI with hi|⟨hfl,hi⟩
  ·exact⟨b,o,arr,ty,fz,hv,hi b hbI,hi',hh,Q11 (λb hb=>⟨hi b hb,rfl⟩) _ _ _ _ hE⟩
  ·exact(hff hfl).elim
 |selfp r=>
  rcases h with h|⟨row,hr,hV,hi,hv⟩
  ·exact .inl h
  ·obtain⟨row',g1,g2,g3,g4,g5,g6,gV⟩:=hn.row r row (hS r (by simp[Q6i])) hr
   exact .inr ⟨row',g1,λe=>hV (gV.1 e),by rw[g5];exact hi,by rw[hv,g6,g4]⟩
 |clo f cs=>exact absurd rfl (hne f cs)
 |emp=>obtain⟨a,hv,ho⟩:=h;exact⟨a,hv,ho.mono hn.top⟩
 |_=>exact h
theorem Z2n{d:D}{v:Value}(hS:∀r∈Q6i d,S r)(hff:flat->FF1 d)(h:CRep c1 w d v):CRep c2 w (d.ren1 f keep) v:=by
 by_cases e:∃g cs,d=.clo g cs
 ·obtain⟨g,cs,rfl⟩:=e
  obtain⟨us,hv,hu⟩:=h
  have hi:∀b,c1.I b->c2.I b/\w.heap[b]?=w.heap[b]? :=by
   rcases hI with hi|⟨hfl,_⟩
   ·exactλb hb=>⟨hi b hb,rfl⟩
   ·exact(hff hfl).elim
  exact⟨us,Qkh hi hv,Z24 (Fk:=λ_=>True) (λd v h1 h2 h3=>Z4s hn (flat:=False) (.inl λb hb=>(hi b hb).1) h1 h2 (λe=>e.elim) h3) (λ_ _ _ _=>Qkh hi) (λ_ _ _=>trivial) hS hu⟩
 ·exact Z4s hn hI (λf cs e'=>e ⟨f,cs,e'⟩) hS hff h
theorem Z95:∀{ds:List D} {vs:List Value},(∀r∈Q9y ds,S r)->(flat->FFs ds)->Q2y c1 w ds vs->Q2y c2 w (D.rens f keep ds) vs
 |[],[],_,_,_=>trivial
 |d::ds,v::vs,hS,hff,h=>⟨Z2n hn hI (λr hr=>hS r (by simp[Q9y,hr])) (λe=>(hff e).1) h.1,Z95 (λr hr=>hS r (by simp[Q9y,hr])) (λe=>(hff e).2) h.2⟩
 |[],_::_,_,_,h=>h.elim
 |_::_,[],_,_,h=>h.elim
theorem Qv1{d:D}{v:Value}(hS:∀r∈Z1q d,S r)(hff:flat->FF2 d)(h:VRep c1 w d v):VRep c2 w (d.ren f keep) v:=by
 cases d with
 |agg cs=>obtain⟨vs,hv,hr⟩:=h;exact⟨vs,hv,Z95 hn hI hS hff hr⟩
 |tup ds=>exact h.elim
 |_=>
  refine VRep.ofC (Z2n hn hI ?_ ?_ (VRep.toC ?_ h))
  ·exact hS
  ·exact hff
  ·intro cs e;cases e
theorem Za7:∀{ds:List D} {vs:List Value},(∀d∈ds,∀r∈Z1q d,S r)->(flat->FF2s ds)->Q5p c1 w ds vs->Q5p c2 w (D.renT f keep ds) vs
 |[],[],_,_,_=>trivial
 |d::ds,v::vs,hS,hff,h=>⟨Qv1 hn hI (hS d (by simp)) (λe=>(hff e).1) h.1,Za7 (λd hd=>hS d (by simp[hd])) (λe=>(hff e).2) h.2⟩
 |[],_::_,_,_,h=>h.elim
 |_::_,[],_,_,h=>h.elim
theorem Z1b{d:D}{v:Value}(hS:∀r,S r)(hff:flat->FF d)(h:Rep c1 w d v):Rep c2 w (d.renV f keep) v:=by
 cases d with
 |tup ds=>obtain⟨vs,hv,hr⟩:=h;exact⟨vs,hv,Za7 hn hI (λ_ _ r _=>hS r) hff hr⟩
 |agg cs=>exact Qv1 hn hI (d:=.agg cs) (λr _=>hS r) hff h
 |dead=>trivial
 |_=>
  have h':=Rep.toV (λds e=>by cases e) (λe=>by cases e) h
  have h2:=Qv1 hn hI (λr _=>hS r) (λe=>by have:=hff e;exact this) h'
  exact Rep.ofV h2
theorem Qmu:∀{ds:List D} {arr:Array Value} {off:Nat},(∀r∈Q9y ds,S r)->(flat->FFs ds)->Q32 c1 w ds arr off->Q32 c2 w (D.rens f keep ds) arr off
 |[],_,_,_,_,_=>trivial
 |d::ds,arr,off,hS,hff,⟨⟨v,hv,h1⟩,h2⟩=>⟨⟨v,hv,Z2n hn hI (λr hr=>hS r (by simp[Q9y,hr])) (λe=>(hff e).1) h1⟩,Qmu (λr hr=>hS r (by simp[Q9y,hr])) (λe=>(hff e).2) h2⟩
theorem Z7o{i j:Nat}{row:Row}(hρ:c2.ρ j=c1.ρ i)(hV:c2.V j↔c1.V i)(hS:row.box=true->∀e,row.es=.gen [e]->∀r∈Q9y e,S r)(hff:flat->FFR row)(h:Qol c1 w i row):Qol c2 w j (row.ren f keep):=by
 have sh:(row.ren f keep).box=row.box/\(row.ren f keep).ty=row.ty/\(row.ren f keep).sz=row.sz:=by
  unfold Row.ren;split<;>exact⟨rfl,rfl,rfl⟩
 rcases h with⟨h0,h1,h2,h3⟩|⟨h0,arr,ha,hs,hx⟩
 ·refine .inl ⟨hV.2 h0,?_⟩
  unfold Row.ren
  split
  ·simp at h1
  ·exact⟨h1,h2,h3⟩
 ·refine .inr ⟨λe=>h0 (hV.1 e),arr,by rw[hρ,sh.2.1];exact ha,by rw[sh.2.2];exact hs,?_⟩
  rw[sh.1,sh.2.2]
  split
  ·rename_i hb
   simp only[hb,if_true]at hx
   obtain⟨e,k1,k2,k3,k4⟩:=hx
   obtain⟨box,ty,sz,es⟩:=row
   simp only at hb k1 k2 k3 k4
   subst hb;subst k1
   refine⟨D.rens f keep e,rfl,?_,k3,Qmu hn hI (hS rfl e rfl) (λe'=>?_) k4⟩
   ·rw[Qvs];exact k2
   ·have:=hff e'
    simp only[FFR,if_true]at this
    exact this e (by simp[Els.l])
  ·rename_i hb
   simp only[hb,aN,if_false]at hx
   have he:(row.ren f keep).es=row.es:=by
    unfold Row.ren
    split
    ·simp at hb
    ·rfl
   rw[he]
   rcases hI with hi|⟨hfl,hi⟩
   ·exact Q11 (λb hb=>⟨hi b hb,rfl⟩) _ _ _ _ hx
   ·have:=hff hfl
    simp only[FFR,hb,aN,if_false]at this
    exact Qp7 (Els.Scal_l this) hx
end
def Ctx.pass(c:Ctx)(w:World)(ids:List Nat)(rows:List Row)(len:Bool):Ctx:=
 { ρ:=λi=>match ids[i]? with|some r=>c.ρ r|none=>0,R:=λi=>rows[i]?,V:=λi=>match ids[i]? with|some r=>c.V r|none=>False,
   I:=λb=>c.I b\/(len=true/\ ∃r row,c.R r=some row/\ ¬c.V r/\row.box=false/\r∉ids/\c.ρ r=b),base:=w.heap.size,top:=c.top,X:=λ_=>False}
section
variable {c:Ctx} {w:World} {R:Rows} {ids:List Nat} {crows:List Row} {len:Bool}
theorem Z8z(hm:Mem c w)(hA:Q4w c R){d d':D}{v:Value}(h:Z2j R d=some d')(hl:Q6i d≠[]->len=true)(hd:∀r∈Q6i d,r∉ids)(hr:CRep c w d v):CRep (c.pass w ids crows len) w d' v:=by
 have himm:∀b,c.I b->(c.pass w ids crows len).I b/\w.heap[b]?=w.heap[b]? :=λb hb=>⟨.inl hb,rfl⟩
 cases d<;>simp only[Z2j]at h<;>try(cases h;done)
 case bool b=>cases h;exact hr
 case int k n=>cases h;exact hr
 case str s=>cases h;exact hr
 case nilp=>cases h;exact hr
 case nilif=>cases h;exact hr
 case nils=>cases h;exact⟨none,0,hr,aO _,.inl rfl⟩
 case emp=>cases h;obtain⟨a,hv,_⟩:=hr;exact⟨a,0,hv,aO _,.inl rfl⟩
 case sl sz es fr=>
  cases h
  obtain⟨a,cap,hv,hc,hes⟩:=hr
  refine⟨a,cap,hv,hc,?_⟩
  rcases hes with hes|⟨b,off,arr,ty,fz,ha,hI,hf,hh,hE⟩
  ·exact .inl hes
  ·exact .inr ⟨b,off,arr,ty,fz,ha,.inl hI,by simp,hh,Q11 himm _ _ _ _ hE⟩
 case all r=>
  split at h
  ·rename_i row hR
   split at h
   ·rename_i hb
    cases h
    obtain⟨row',g1,g2,hv⟩:=hr
    have:=hA r row' _ g1 hR
    subst this
    rcases hv with⟨hV,a,hv,_⟩|⟨hV,cap,arr,hv,g3,g4,g5,g6⟩
    ·have he:=(hm.virt g1 hV).2.1
     exact⟨a,0,by rw[he];exact hv,by rw[he];exact aO _,.inl he⟩
    refine⟨_,cap,hv,g3,?_⟩
    obtain⟨arr',ha',hs,hx⟩:=hm.real g1 hV
    rw[g5]at ha';cases ha'
    simp only[hb,aN,if_false]at hx
    exact .inr ⟨_,0,arr,_,_,rfl,.inr ⟨hl (by simp[Q6i]),r,_,g1,hV,hb,hd r (by simp[Q6i]),rfl⟩,by simp,g5,Q11 himm _ _ _ _ hx⟩
   ·cases h
  ·cases h
 case own r o n=>
  split at h
  ·rename_i row hR
   split at h
   ·rename_i hb
    cases h
    obtain⟨row',g1,g2,g5,hv⟩:=hr
    have:=hA r row' _ g1 hR
    subst this
    have hlen:((row'.es.drop o).take n).l.length=n:=by rw[Els.take_l,Els.drop_l];simp only[List.length_take,List.length_drop];omega
    rcases hv with⟨g7,a,hv,_⟩|⟨hV,cap,arr,g3,g4,g6,hv,g7⟩
    ·subst g7
     exact⟨a,0,by rw[hlen];exact hv,by omega,.inl (by rw[Els.take_l];simp)⟩
    obtain⟨arr',ha',hs,hx⟩:=hm.real g1 hV
    rw[g6]at ha';cases ha'
    simp only[hb,aN,if_false]at hx
    refine⟨_,cap,by rw[hlen];exact hv,by omega,.inr ⟨_,o*row'.sz,arr,_,_,rfl,.inr ⟨hl (by simp[Q6i]),r,_,g1,hV,hb,hd r (by simp[Q6i]),rfl⟩,by simp,g6,Q11 himm _ _ _ _ ?_⟩⟩
    have:=Qbg (n:=n) (Qba (l:=o) hx)
    rw[Els.take_l,Els.drop_l]
    simpa using this
   ·cases h
  ·cases h
theorem Z9p(hm:Mem c w)(hA:Q4w c R):∀{ds ds':List D} {vs:List Value},Z7w R ds=some ds'->(Q9y ds≠[]->len=true)->(∀r∈Q9y ds,r∉ids)->Q2y c w ds vs->Q2y (c.pass w ids crows len) w ds' vs
 |[],ds',[],h,_,_,_=>by simp[Z7w]at h;subst h;trivial
 |[],_,_::_,_,_,_,hr=>hr.elim
 |_::_,_,[],_,_,_,hr=>hr.elim
 |d ::ds,ds',v::vs,h,hl,hd,hr=>by
  simp only[Z7w]at h
  split at h
  ·rename_i x xs h1 h2
   cases h
   exact⟨Z8z hm hA h1 (λe=>hl (by simp[Q9y,e])) (λr e=>hd r (by simp[Q9y,e])) hr.1,Z9p hm hA h2 (λe=>hl (by simp[Q9y,e])) (λr e=>hd r (by simp[Q9y,e])) hr.2⟩
  ·cases h
theorem Zaf(hm:Mem c w)(hA:Q4w c R){d d':D}{v:Value}(h:conv R d=some d')(hl:Z1q d≠[]->len=true)(hd:∀r∈Z1q d,r∉ids)(hr:Rep c w d v):VRep (c.pass w ids crows len) w d' v:=by
 cases d with
 |agg cs=>
  simp only[conv,Option.map_eq_some_iff]at h
  obtain⟨cs',h1,rfl⟩:=h
  obtain⟨vs,hv,hx⟩:=hr
  exact⟨vs,hv,Z9p hm hA h1 hl hd hx⟩
 |tup ds=>simp[conv,Z2j]at h
 |dead=>simp[conv,Z2j]at h
 |_=>
  simp only[conv]at h
  simp only[Rep,VRep]at hr
  exact VRep.ofC (Z8z hm hA h hl hd hr)
theorem Q8g{f:Nat->Nat}:∀{ids:List Nat} {rows:List Row},Qif R f ids=some rows->rows.length=ids.length/\∀(i r:Nat),ids[i]?=some r->∃row,R.getD r none=some row/\rows[i]?=some (row.ren f false)
 |[],rows,h=>by simp[Qif]at h;subst h;exact⟨rfl,λi r h=>by simp at h⟩
 |r ::l,rows,h=>by
  simp only[Qif]at h
  split at h
  ·rename_i row rs h1 h2
   cases h
   obtain⟨g1,g2⟩:=Q8g h2
   refine⟨by simp[g1],λi q hq=>?_⟩
   cases i with
   |zero=>simp at hq;subst hq;exact⟨row,h1,rfl⟩
   |succ i=>exact g2 i q (by simpa using hq)
  ·cases h
theorem Qe4(f:Nat->Nat)(keep:Bool)(row:Row):(row.ren f keep).box=row.box/\(row.ren f keep).ty=row.ty/\(row.ren f keep).sz=row.sz/\(row.ren f keep).es.l.length=row.es.l.length:=by
 unfold Row.ren;split<;>exact⟨rfl,rfl,rfl,rfl⟩
theorem Qvu{r:Nat}:∀{l:List Nat},r∈Qe R l↔ ∃q∈l,∃ty sz e,R.getD q none=some ⟨true,ty,sz,.gen [e]⟩/\r∈Q9y e
 |[]=>by simp[Qe]
 |q ::l=>by
  simp only[Qe,List.mem_append,Qvu (l:=l),fG]
  constructor
  ·rintro(h|⟨q',h1,h2⟩)
   ·split at h
    ·rename_i ty sz e he
     exact⟨q,.inl rfl,ty,sz,e,he,h⟩
    ·simp at h
   ·exact⟨q',.inr h1,h2⟩
  ·rintro⟨q',h1|h1,ty,sz,e,h2,h3⟩
   ·subst h1
    left
    rw[h2];exact h3
   ·exact .inr ⟨q',h1,ty,sz,e,h2,h3⟩
theorem Qkt(hR:∀r row,r∈ids->R.getD r none=some row->c.R r=some row)(hrows:Qif R (λr=>pos r ids 0) ids=some crows):Qyt (λr=>r∈ids) (λr=>pos r ids 0) false c (c.pass w ids crows len):=by
 obtain⟨hl,hg⟩:=Q8g hrows
 refine⟨λr row hr hrow=>?_,(λh=>by cases h),aO _⟩
 have hp:=Qck hr
 obtain⟨row0,h1,h2⟩:=hg _ r hp
 have:row=row0:=by have:=hR r row0 hr h1;rw[hrow]at this;exact Option.some.inj this
 subst this
 obtain⟨s1,s2,s3,s4⟩:=Qe4 (λr=>pos r ids 0) false row
 exact⟨_,h2,s1,s2,s3,s4,by simp[Ctx.pass,hp],by simp[Ctx.pass,hp]⟩
theorem Z15(hm:Mem c w)(hR:∀r row,r∈ids->R.getD r none=some row->c.R r=some row)(hnd:ids.Nodup)(hcl:∀r∈Qe R ids,r∈ids)(hrows:Qif R (λr=>pos r ids 0) ids=some crows):Mem (c.pass w ids crows len) w:=by
 have hn:=Qkt (len:=len) (w:=w) hR hrows
 obtain⟨hl,hg⟩:=Q8g hrows
 have inv:∀i x,(c.pass w ids crows len).R i=some x->∃r row,ids[i]?=some r/\c.R r=some row/\R.getD r none=some row/\x=row.ren (λr=>pos r ids 0) false/\(c.pass w ids crows len).ρ i=c.ρ r/\((c.pass w ids crows len).V i↔c.V r):=by
  intro i x hx
  have hx':crows[i]?=some x:=hx
  have hlt:=(List.getElem?_eq_some_iff.1 hx').1
  have hi:ids[i]?=some ids[i]:=cI (by omega)
  obtain⟨row,h1,h2⟩:=hg i _ hi
  rw[hx']at h2
  exact⟨_,row,hi,hR _ row (fM hi) h1,h1,Option.some.inj h2,by simp[Ctx.pass,hi],by simp[Ctx.pass,hi]⟩
 refine⟨λi x hx=>?_,λi j x y hx hy v1 v2 he=>?_,λb hb=>?_,hm.top,hm.tab.mono λb hb=>⟨.inl hb,rfl⟩⟩
 ·obtain⟨r,row,g1,g2,g3,rfl,g5,g6⟩:=inv i x hx
  refine Z7o hn (flat:=False) (.inl λb hb=>.inl hb) g5 g6 (λhbox e he q hq=>?_) (λe=>e.elim) (hm.row r row g2)
  obtain⟨box,ty,sz,es⟩:=row
  simp only at hbox he
  subst hbox
  have h1:∃e0,es=.gen [e0]:=by
   rcases hm.row r _ g2 with⟨_,hh,_⟩|⟨_,arr,_,_,hx⟩
   ·cases hh
   ·simp only[if_true]at hx;obtain⟨e0,h,_⟩:=hx;exact⟨e0,h⟩
  obtain⟨e0,rfl⟩:=h1
  cases he
  exact hcl q (Qvu.2 ⟨r,fM g1,ty,sz,e,g3,hq⟩)
 ·obtain⟨r,row,g1,g2,g3,_,g5,g6⟩:=inv i x hx
  obtain⟨s,row',k1,k2,k3,_,k5,k6⟩:=inv j y hy
  rw[g5,k5]at he
  have:r=s:=hm.inj r s _ _ g2 k2 (λe=>v1 (g6.2 e)) (λe=>v2 (k6.2 e)) he
  subst this
  exact(List.getElem?_inj (List.getElem?_eq_some_iff.1 g1).1 hnd).1 (g1.trans k1.symm)
 ·rcases hb with hb|⟨_,r,row,hr,hV,hbx,hni,rfl⟩
  ·refine⟨(hm.imm b hb).1,λi x hx v=>?_⟩
   obtain⟨r,row,g1,g2,g3,_,g5,g6⟩:=inv i x hx
   rw[g5];exact(hm.imm b hb).2 r row g2 (λe=>v (g6.2 e))
  ·refine⟨hm.lt hr hV,λi x hx v=>?_⟩
   obtain⟨s,row',g1,g2,g3,_,g5,g6⟩:=inv i x hx
   rw[g5]
   intro e
   have:=hm.inj s r _ _ g2 hr (λe=>v (g6.2 e)) hV e
   subst this
   exact hni (fM g1)
theorem Qkq(hm:Mem c w)(hA:Q4w c R)(hn:Qyt (λr=>r∈ids) (λr=>pos r ids 0) false c (c.pass w ids crows len)){ρ:Operand->Value}{ev:Operand->D}:
 ∀{bs:List Bool} {xs:List Operand} {ds':List D},Qj9 R (λr=>pos r ids 0) bs (xs.map ev)=some ds'->(Q3x bs (xs.map ev)≠[]->len=true)->(∀r∈Q3x bs (xs.map ev),r∉ids)->(∀r∈Qj1 bs (xs.map ev),r∈ids)->(∀x∈xs,Rep c w (ev x) (ρ x))->Q5p (c.pass w ids crows len) w ds' (xs.map ρ)
 |bs,[],ds',h,_,_,_,_=>by cases bs<;>(try(rename_i b bs;cases b))<;>(simp[Qj9]at h;subst h;trivial)
 |true::bs,x::xs,ds',h,hl,hd,hi,hr=>by
  simp only[eJ,Qj9]at h
  simp only[eJ,Q3x,Qj1]at hl hd hi
  split at h
  ·rename_i ys hv h2
   cases h
   have hx:VRep c w (ev x) (ρ x):=Rep.toV (λds e=>by rw[e]at hv;simp[D.isVal]at hv) (λe=>by rw[e]at hv;simp[D.isVal]at hv) (hr x (by simp))
   exact⟨Qv1 hn (flat:=False) (.inl λb hb=>.inl hb) (λr e=>hi r (by simp[e])) (λe=>e.elim) hx,Qkq hm hA hn h2 hl hd (λr e=>hi r (by simp[e])) λy hy=>hr y (by simp[hy])⟩
  ·cases h
 |false::bs,x::xs,ds',h,hl,hd,hi,hr=>by
  simp only[eJ,Qj9]at h
  simp only[eJ,Q3x,Qj1]at hl hd hi
  split at h
  ·rename_i y ys h1 h2
   cases h
   exact⟨Zaf hm hA h1 (λe=>hl (by simp[e])) (λr e=>hd r (by simp[e])) (hr x (by simp)),Qkq hm hA hn h2 (λe=>hl (by simp[e])) (λr e=>hd r (by simp[e])) hi λy hy=>hr y (by simp[hy])⟩
  ·cases h
 |[],x::xs,ds',h,hl,hd,hi,hr=>by
  simp only[eJ,Qj9]at h
  simp only[eJ,Q3x,Qj1]at hl hd hi
  split at h
  ·rename_i y ys h1 h2
   cases h
   refine⟨Zaf hm hA h1 (λe=>hl (by simp[e])) (λr e=>hd r (by simp[e])) (hr x (by simp)),Qkq hm hA hn h2 (λe=>hl (by simp[e])) (λr e=>hd r (by simp[e])) (λr e=>?_) λy hy=>hr y (by simp[hy])⟩
   cases xs<;>simp[Qj1]at e
  ·cases h
end
theorem Qhk{f:Nat->Nat}:∀{ids:List Nat} {rows:List Row} {R:Rows},ids.Nodup->ids.length<=rows.length->(∀r∈ids,r<R.length)->
 (Q8o f ids rows R).length=R.length/\(∀(i r:Nat),ids[i]?=some r->∃row,rows[i]?=some row/\(Q8o f ids rows R).getD r none=some (row.ren f true))/\∀r,r∉ids->(Q8o f ids rows R).getD r none=R.getD r none
 |[],rows,R,_,_,_=>by
  have:Q8o f [] rows R=R:=by cases rows<;>rfl
  rw[this]
  exact⟨rfl,λi r h=>by simp at h,λ_ _=>rfl⟩
 |r::ids,[],R,_,hl,_=>by simp at hl
 |r ::ids,row::rows,R,hnd,hl,hlt=>by
  obtain⟨hni,hnd'⟩:=List.nodup_cons.1 hnd
  obtain⟨g1,g2,g3⟩:=Qhk (f:=f) (ids:=ids) (rows:=rows) (R:=R.set r (some (row.ren f true))) hnd' (by simpa using hl) (λq hq=>by simpa using hlt q (by simp[hq]))
  have hr:=hlt r (by simp)
  have hat:(R.set r (some (row.ren f true))).getD r none=some (row.ren f true):=by simp[aK,hr]
  have hne:∀q,q≠r->(R.set r (some (row.ren f true))).getD q none=R.getD q none:=λq hq=>by simp[aK,List.getElem?_set_ne (Ne.symm hq)]
  simp only[Q8o]
  refine⟨by simpa using g1,λi q hq=>?_,λq hq=>?_⟩
  ·cases i with
   |zero=>
    simp at hq;subst hq
    exact⟨row,rfl,by rw[g3 _ hni];exact hat⟩
   |succ i=>simpa using g2 i q (by simpa using hq)
  ·have h1:q≠r:=λe=>hq (by simp[e])
   rw[g3 q (λe=>hq (by simp[e])),hne q h1]
def Ctx.behind(c:Ctx)(w:World)(c':Ctx)(ids:List Nat)(n0:Nat)(R2:Rows):Ctx:=
 { ρ:=λr=>if n0<=r/\r<R2.length then c'.ρ (ids.length+(r-n0)) else c.ρ r,
   R:=λr=>if r∈ids\/(n0<=r/\r<R2.length) then R2.getD r none else c.R r,
   V:=λr=>if n0<=r/\r<R2.length then c'.V (ids.length+(r-n0)) else c.V r,
   I:=λb=>c.I b\/(c'.I b/\w.heap.size<=b),base:=c.base,top:=c'.top,X:=c.X}
theorem Z7b{f:Nat->Nat}{rows:List Row}{i:Nat}:(Qcj f rows)[i]?=rows[i]?.map λrow=>some (row.ren f true):=by simp[Qcj]
theorem Qu1{c c':Ctx}{w w':World}{R:Rows}{ids:List Nat}{crows rows':List Row}{len:Bool}(hm:Mem c w)(hb:c.base<=w.heap.size)(hRi:∀r row,r∈ids->R.getD r none=some row->c.R r=some row)(hnew:∀r,R.length<=r->r<R.length+(rows'.length-ids.length)->c.R r=none)
 (hnd:ids.Nodup) (hrows:Qif R (λr=>pos r ids 0) ids=some crows) (hle:ids.length<=rows'.length) (hx:NxtW (c.pass w ids crows len) w c' w') (hR':∀i,c'.R i=rows'[i]?)
 (hI:len=true->FFRs rows') {R2:Rows} (hR2:R2=Q8o (bk ids R.length) ids rows' R++Qcj (bk ids R.length) (rows'.drop ids.length)):
 (Qyt (λ_=>True) (bk ids R.length) true c' (c.behind w c' ids R.length R2))/\((∀b,c'.I b->(c.behind w c' ids R.length R2).I b)\/(len=true/\∀b,c'.I b->c'.base<=b->(c.behind w c' ids R.length R2).I b))/\
 Mem (c.behind w c' ids R.length R2) w'/\Q2n c w (c.behind w c' ids R.length R2) w'/\Fr (λb=>∃r x,c.R r=some x/\¬c.V r/\r∈ids/\c.ρ r=b) w w'/\
 (∀b,(c.behind w c' ids R.length R2).I b->c.I b\/w.heap.size<=b)/\
 (∀r,R.length<=r->r<R2.length->¬(c.behind w c' ids R.length R2).V r->w.heap.size<=(c.behind w c' ids R.length R2).ρ r):=by
 obtain⟨hcl,hcg⟩:=Q8g hrows
 have hlt:∀r∈ids,r<R.length:=λr hr=>by
  obtain⟨row,h1,_⟩:=hcg _ r (Qck hr)
  by_cases hl:r<R.length
  ·exact hl
  ·rw[aK,aM (by omega)]at h1;cases h1
 obtain⟨k1,k2,k3⟩:=Qhk (f:=bk ids R.length) hnd hle hlt
 have hlen2:R2.length=R.length+(rows'.length-ids.length):=by rw[hR2];simp[k1,Qcj]
 have hlo:∀r,r<R.length->R2.getD r none=(Q8o (bk ids R.length) ids rows' R).getD r none:=λr hr=>by
  rw[hR2,aK,aK,aZ (by omega)]
 have hhi:∀i,ids.length<=i->i<rows'.length->R2.getD (R.length+(i-ids.length)) none=rows'[i]?.map λrow=>row.ren (bk ids R.length) true:=λi h1 h2=>by
  rw[hR2,aK,List.getElem?_append_right (by omega),Z7b,k1,show R.length+(i-ids.length)-R.length=i-ids.length by omega,cR,show ids.length+(i-ids.length)=i by omega]
  rw[cI h2];rfl
 have hbase:c'.base=w.heap.size:=hx.grows.base
 have old:∀i r row',ids[i]?=some r->c'.R i=some row'->∃row,c.R r=some row/\row'.box=row.box/\row'.ty=row.ty/\row'.sz=row.sz/\row'.es.l.length=row.es.l.length/\c'.ρ i=c.ρ r/\(c'.V i↔c.V r)/\r<R.length/\R2.getD r none=some (row'.ren (bk ids R.length) true)/\bk ids R.length i=r/\
  (¬c.V r->∀arr,w.heap[c.ρ r]?=some (.cells arr row.ty (0,0))->∃arr',w'.heap[c.ρ r]?=some (.cells arr' row.ty (0,0))/\arr'.size=arr.size):=by
  intro i r row' hi hrow'
  obtain⟨row,h1,h2⟩:=hcg i r hi
  have hm':=fM hi
  have h3:=hRi r row hm' h1
  obtain⟨row'',g1,g2,g3,g4,g5,g6,gV,g7⟩:=hx.grows.R i _ (show(c.pass w ids crows len).R i=some _ from h2)
  rw[hrow']at g1;cases g1
  obtain⟨s1,s2,s3,s4⟩:=Qe4 (λr=>pos r ids 0) false row
  obtain⟨row3,q1,q2⟩:=k2 i r hi
  rw[hR',q1]at hrow';cases hrow'
  refine⟨row,h3,g2.trans s1,g3.trans s2,g4.trans s3,g5.trans s4,by simpa[Ctx.pass,hi]using g6,by simpa[Ctx.pass,hi]using gV,hlt r hm',by rw[hlo r (hlt r hm')];exact q2,by simp[bk,hi],λnv arr ha=>?_⟩
  have:=g7 (by simpa[Ctx.pass,hi]using nv) arr (by simpa[Ctx.pass,hi,s2]using ha)
  simpa[Ctx.pass,hi,s2]using this
 have fresh:∀i row',ids.length<=i->c'.R i=some row'->i<rows'.length/\R2.getD (R.length+(i-ids.length)) none=some (row'.ren (bk ids R.length) true)/\bk ids R.length i=R.length+(i-ids.length)/\(¬c'.V i->w.heap.size<=c'.ρ i):=by
  intro i row' hi hrow'
  have h1:rows'[i]?=some row':=by rw[<-hR'];exact hrow'
  have h2:=(List.getElem?_eq_some_iff.1 h1).1
  refine⟨h2,by rw[hhi i hi h2,h1];rfl,by simp[bk,aM hi],λnv=>?_⟩
  rcases hx.rho i row' hrow' nv with⟨⟨x,hx1⟩,_⟩|h3
  ·have:crows[i]?=some x:=hx1
   rw[aM (by omega)]at this;cases this
  ·exact h3
 have hren:Qyt (λ_=>True) (bk ids R.length) true c' (c.behind w c' ids R.length R2):=by
  refine⟨λi row' _ hrow'=>?_,λ_=>by rw[hbase];exact hb,aO _⟩
  obtain⟨s1,s2,s3,s4⟩:=Qe4 (bk ids R.length) true row'
  by_cases hi:i<ids.length
  ·have hi':ids[i]?=some ids[i]:=cI hi
   obtain⟨row,g1,g2,g3,g4,g5,g6,g7,g8,g9,g10,_⟩:=old i _ row' hi' hrow'
   rw[g10]
   exact⟨_,by simp only[Ctx.behind];rw[if_pos (.inl (fM hi'))];exact g9,s1,s2,s3,s4,by simp only[Ctx.behind];rw[if_neg (by omega),g6],by simp only[Ctx.behind];rw[if_neg (by omega)];exact g7.symm⟩
  ·obtain⟨h1,h2,h3,h4⟩:=fresh i row' (by omega) hrow'
   rw[h3]
   have hc:R.length<=R.length+(i-ids.length)/\R.length+(i-ids.length)<R2.length:=by omega
   have he:ids.length+(R.length+(i-ids.length)-R.length)=i:=by omega
   exact⟨_,by simp only[Ctx.behind];rw[if_pos (.inr hc)];exact h2,s1,s2,s3,s4,by simp only[Ctx.behind];rw[if_pos hc,he],by simp only[Ctx.behind];rw[if_pos hc,he]⟩
 have hImono:(∀b,c'.I b->(c.behind w c' ids R.length R2).I b)\/(len=true/\∀b,c'.I b->c'.base<=b->(c.behind w c' ids R.length R2).I b):=by
  cases hl:len with
  |false=>
   refine .inl λb hbI=>?_
   rcases hx.imm b hbI with h1|h1
   ·rcases h1 with h1|⟨h1,_⟩
    ·exact .inl h1
    ·rw[hl]at h1;cases h1
   ·exact .inr ⟨hbI,h1⟩
  |true=>exact .inr ⟨rfl,λb hbI hbb=>.inr ⟨hbI,by omega⟩⟩
 have hfr:Fr (λb=>∃r x,c.R r=some x/\¬c.V r/\r∈ids/\c.ρ r=b) w w':=hx.fr.mono λb _ ⟨i,x,h1,h2,h3⟩=>by
  have h1':crows[i]?=some x:=h1
  have hi:i<ids.length:=by have:=(List.getElem?_eq_some_iff.1 h1').1;omega
  have hi':ids[i]?=some ids[i]:=cI hi
  obtain⟨row,g1,g2⟩:=hcg i _ hi'
  exact⟨_,row,hRi _ row (fM hi') g1,by simpa[Ctx.pass,hi']using h2,fM hi',by simpa[Ctx.pass,hi']using h3⟩
 have inv:∀r x,(c.behind w c' ids R.length R2).R r=some x->(∃i row',c'.R i=some row'/\x=row'.ren (bk ids R.length) true/\(c.behind w c' ids R.length R2).ρ r=c'.ρ i/\((c.behind w c' ids R.length R2).V r↔c'.V i)/\(r∈ids/\ids[i]?=some r/\(c.behind w c' ids R.length R2).ρ r=c.ρ r/\((c.behind w c' ids R.length R2).V r↔c.V r)\/R.length<=r/\ids.length<=i/\r=R.length+(i-ids.length)))\/
  (c.R r=some x/\r∉ids/\(c.behind w c' ids R.length R2).ρ r=c.ρ r/\((c.behind w c' ids R.length R2).V r↔c.V r)/\¬(R.length<=r/\r<R2.length)):=by
  intro r x hx'
  by_cases hm':r∈ids
  ·left
   have hp:=Qck hm'
   obtain⟨row3,q1,q2⟩:=k2 _ r hp
   have hc':c'.R (pos r ids 0)=some row3:=by rw[hR'];exact q1
   obtain⟨row,g1,g2,g3,g4,g5,g6,g7,g8,g9,g10,_⟩:=old _ r row3 hp hc'
   simp only[Ctx.behind]at hx'
   rw[if_pos (.inl hm'),g9]at hx'
   cases hx'
   have e1:(c.behind w c' ids R.length R2).ρ r=c.ρ r:=by simp only[Ctx.behind];rw[if_neg (by omega)]
   have e2:(c.behind w c' ids R.length R2).V r↔c.V r:=by simp only[Ctx.behind];rw[if_neg (by omega)]
   exact⟨_,row3,hc',rfl,by rw[e1,g6],by rw[e2,g7],.inl ⟨hm',hp,e1,e2⟩⟩
  ·by_cases hc:R.length<=r/\r<R2.length
   ·left
    have hi:ids.length+(r-R.length)<rows'.length:=by omega
    have hc':c'.R (ids.length+(r-R.length))=some rows'[ids.length+(r-R.length)]:=by rw[hR'];exact cI hi
    obtain⟨h1,h2,h3,h4⟩:=fresh _ _ (by omega) hc'
    simp only[Ctx.behind]at hx'
    rw[if_pos (.inr hc)]at hx'
    rw[show R.length+(ids.length+(r-R.length)-ids.length)=r by omega]at h2
    rw[h2]at hx'
    cases hx'
    exact⟨_,_,hc',rfl,by simp only[Ctx.behind];rw[if_pos hc],by simp only[Ctx.behind];rw[if_pos hc],.inr ⟨hc.1,by omega,by omega⟩⟩
   ·right
    simp only[Ctx.behind]at hx'
    rw[if_neg (by rintro(h|h)<;>contradiction)]at hx'
    exact⟨hx',hm',by simp only[Ctx.behind];rw[if_neg hc],by simp only[Ctx.behind];rw[if_neg hc],hc⟩
 have hgrow:Q2n c w (c.behind w c' ids R.length R2) w':=by
  refine⟨rfl,hx.grows.top,λb hbI=>⟨.inl hbI,?_⟩,λr row hr=>?_⟩
  ·exact(hx.grows.I b (.inl hbI)).2
  ·by_cases hm':r∈ids
   ·have hp:=Qck hm'
    obtain⟨row3,q1,q2⟩:=k2 _ r hp
    have hc':c'.R (pos r ids 0)=some row3:=by rw[hR'];exact q1
    obtain⟨row0,g1,g2,g3,g4,g5,g6,g7,g8,g9,g10,g11⟩:=old _ r row3 hp hc'
    rw[hr]at g1;cases g1
    obtain⟨s1,s2,s3,s4⟩:=Qe4 (bk ids R.length) true row3
    exact⟨_,by simp only[Ctx.behind];rw[if_pos (.inl hm')];exact g9,s1.trans g2,s2.trans g3,s3.trans g4,s4.trans g5,by simp only[Ctx.behind];rw[if_neg (by omega)],by simp only[Ctx.behind];rw[if_neg (by omega)],g11⟩
   ·have hc:¬(R.length<=r/\r<R2.length):=λhc=>by rw[hnew r hc.1 (by omega)]at hr;cases hr
    refine⟨row,by simp only[Ctx.behind];rw[if_neg (by rintro(h|h)<;>contradiction)];exact hr,rfl,rfl,rfl,rfl,by simp only[Ctx.behind];rw[if_neg hc],by simp only[Ctx.behind];rw[if_neg hc],λnv arr ha=>⟨arr,?_,rfl⟩⟩
    rw[hfr.heap _ (hm.lt hr nv) fun⟨s,x,h1,h2,h3,h4⟩=>hm' (by rw[<-hm.inj s r x row h1 hr h2 nv h4];exact h3)]
    exact ha
 refine⟨hren,hImono,⟨λr x hx'=>?_,λr s x y hr hs v1 v2 he=>?_,λb hbI=>?_,hx.mem.top,hm.tab.mono hgrow.I⟩,hgrow,hfr,λb hbI=>?_,λr h1 h2 h3=>?_⟩
 ·rcases inv r x hx' with⟨i,row',h1,rfl,h3,h4,_⟩|⟨h1,h2,h3,h4,h5⟩
  ·refine Z7o hren hImono h3 h4 (λ_ _ _ _ _=>trivial) (λhf=>?_) (hx.mem.row i row' h1)
   exact Z9l (hI hf) (by rw[<-hR'];exact h1)
  ·exact Q2a hgrow h3 h4 (λnv=>hfr.heap _ (hm.lt h1 nv) fun⟨s,x',g1,g2,g3,g4⟩=>h2 (by rw[<-hm.inj s r x' x g1 h1 g2 nv g4];exact g3)) (hm.row r x h1)
 ·have oldlt:∀i row',c'.R i=some row'->¬c'.V i->(∃q,q∈ids/\ids[i]?=some q/\(∃y,c.R q=some y)/\¬c.V q/\c'.ρ i=c.ρ q)\/w.heap.size<=c'.ρ i:=λi row' h1 nv=>by
   by_cases hi:i<ids.length
   ·have hi':ids[i]?=some ids[i]:=cI hi
    obtain⟨row,g1,g2,g3,g4,g5,g6,g7,_⟩:=old i _ row' hi' h1
    exact .inl ⟨_,fM hi',hi',⟨row,g1⟩,λe=>nv (g7.2 e),g6⟩
   ·exact .inr ((fresh i row' (by omega) h1).2.2.2 nv)
  rcases inv r x hr with⟨i,x',h1,_,h3,h4,h5⟩|⟨h1,h2,h3,h4,h5⟩<;>rcases inv s y hs with⟨j,y',g1,_,g3,g4,g5⟩|⟨g1,g2,g3,g4,g5⟩
  ·have:i=j:=hx.mem.inj i j x' y' h1 g1 (λe=>v1 (h4.2 e)) (λe=>v2 (g4.2 e)) (by rw[<-h3,<-g3];exact he)
   subst this
   rcases h5 with⟨_,q1,_⟩|⟨_,q1,q2⟩<;>rcases g5 with⟨_,p1,_⟩|⟨_,p1,p2⟩
   ·rw[q1]at p1;exact Option.some.inj p1
   ·have:=(List.getElem?_eq_some_iff.1 q1).1;omega
   ·have:=(List.getElem?_eq_some_iff.1 p1).1;omega
   ·omega
  ·exfalso
   have nv:=λe=>v1 (h4.2 e)
   have ns:=λe=>v2 (g4.2 e)
   rw[h3,g3]at he
   rcases oldlt i x' h1 nv with⟨q,q1,q2,⟨z,q3⟩,q4,q5⟩|q
   ·exact g2 (by rw[<-hm.inj q s z y q3 g1 q4 ns (by rw[<-q5];exact he)];exact q1)
   ·have:=hm.lt g1 ns;omega
  ·exfalso
   have nv:=λe=>v2 (g4.2 e)
   have ns:=λe=>v1 (h4.2 e)
   rw[h3,g3]at he
   rcases oldlt j y' g1 nv with⟨q,q1,q2,⟨z,q3⟩,q4,q5⟩|q
   ·exact h2 (by rw[<-hm.inj q r z x q3 h1 q4 ns (by rw[<-q5];exact he.symm)];exact q1)
   ·have:=hm.lt h1 ns;omega
  ·exact hm.inj r s x y h1 g1 (λe=>v1 (h4.2 e)) (λe=>v2 (g4.2 e)) (by rw[<-h3,<-g3];exact he)
 ·rcases hbI with hbI|⟨hbI,hge⟩
  ·refine⟨Nat.lt_of_lt_of_le (hm.imm b hbI).1 hfr.size,λr x hr v=>?_⟩
   rcases inv r x hr with⟨i,x',h1,_,h3,h4,h5⟩|⟨h1,h2,h3,h4,h5⟩
   ·have:=(hx.mem.imm b ((hx.grows.I b (.inl hbI)).1)).2 i x' h1 (λe=>v (h4.2 e))
    rw[h3];exact this
   ·rw[h3];exact(hm.imm b hbI).2 r x h1 (λe=>v (h4.2 e))
  ·refine⟨(hx.mem.imm b hbI).1,λr x hr v=>?_⟩
   rcases inv r x hr with⟨i,x',h1,_,h3,h4,h5⟩|⟨h1,h2,h3,h4,h5⟩
   ·rw[h3];exact(hx.mem.imm b hbI).2 i x' h1 (λe=>v (h4.2 e))
   ·have:=hm.lt h1 (λe=>v (h4.2 e))
    rw[h3];omega
 ·rcases hbI with h|⟨_,h⟩
  ·exact .inl h
  ·exact .inr h
 ·have hi:ids.length+(r-R.length)<rows'.length:=by omega
  have hc':c'.R (ids.length+(r-R.length))=some rows'[ids.length+(r-R.length)]:=by rw[hR'];exact cI hi
  obtain⟨_,_,_,h4⟩:=fresh _ _ (by omega) hc'
  simp only[Ctx.behind,if_pos (show R.length<=r/\r<R2.length from⟨h1,h2⟩)]at h3⊢
  exact h4 h3
theorem Qqf(args:List D):Qj1 [] args=[]:=by cases args<;>rfl
theorem Z6f(R:Rows)(args:List D):Qas R [] args=[]:=by
 unfold Qas;rw[Qqf];rfl
theorem Z1h{P:Program}{x:Q09}(hok:Q05 P x){f:FuncId}(hf:x.f=f)(hy:x.f<YB){dst:Option Tmp}{args:Array Operand}{tys:Array TypeId}{type:TypeId}{pos:String}{after:Array Edge}{guard:Option (Nat×Bool)}{a:Act}{w:World}{K:Act->World->Prop}{Q:Exit->Act->World->Prop}
 (h:Calls P x.f (args.toList.map a.eval).toArray w λe w'=>∃v,e=.returned v/\K (a.put dst v) w'):(⟨dst,.call ⟨.value (.func f),args,tys⟩,type,pos,after,guard⟩:Oper).wpR P a w K Q:=by
 have hrun:(execOp a.eval (⟨dst,.call ⟨.value (.func f),args,tys⟩,type,pos,after,guard⟩:Oper)).run P w=.ok (.enter f (args.toList.map a.eval).toArray) w:=by
  simp only[execOp,resolve,Act.eval,Deferred.ofValue,Sem.run_bind,Sem.run_pure,Result.andThen_ok,invoke,Array.empty_append,Array.append_empty]
  rw[<-hf,hok.enters hy,<-bS,bU]
 unfold Oper.wpR
 rw[hrun]
 show Calls P f _ w _
 rw[<-hf]
 exact h
theorem yF {P:Program}{G:List Q09}(hG:Q57 P G){dst:Option Tmp}{f:FuncId}{args:Array Operand}{tys:Array TypeId}{type:TypeId}{pos':String}{after:Array Edge}{guard:Option (Nat×Bool)}{ev:Operand->D}{R:Rows}{K:D->Rows->Prop}
    (hgo:Q8t G f=none) (h:callG G f (args.toList.map ev) R K): ∃val R' x,K val R'/\Qf0 G f=some x/\OpW P ⟨dst, .call ⟨.value (.func f),args,tys⟩,type,pos',after,guard⟩ ev R val R'/\(x.refs=[]->OpN P ⟨dst, .call ⟨.value (.func f),args,tys⟩,type,pos',after,guard⟩ ev R val R'):=by
  unfold callG at h
  split at h
  . rename_i x hx
    have hgn:x.gone=none:=by simpa [Q8t,hx] using hgo
    obtain⟨hok,hf⟩:=Qf1 hG hx
    split at h
    . rename_i az crows has hcrows
      simp only[Q02,Bool.or_eq_true,aE]at h
      obtain⟨⟨⟨hfl,h1,h2⟩,h3,h4⟩,h⟩:=h
      generalize hids:Qas R x.refs (args.toList.map ev)=ids at*
      have hsub:=Qki.1 h1
      have hcl:=Qki.1 h2
      have hnd:=Qdj.1 h3
      have hdis:=Qth.1 h4
      have main : ∀res rows',ids.length<=rows'.length->K (res.renV (bk ids R.length) true) (Q8o (bk ids R.length) ids rows' R++Qcj (bk ids R.length) (rows'.drop ids.length))->Q2f P x.f az crows res rows'->(x.flat=true->FF res/\FFRs rows')->
          ∃val R' y,K val R'/\Qf0 G f=some y/\OpW P ⟨dst, .call ⟨.value (.func f),args,tys⟩,type,pos',after,guard⟩ ev R val R'/\(y.refs=[]->OpN P ⟨dst, .call ⟨.value (.func f),args,tys⟩,type,pos',after,guard⟩ ev R val R'):=by
        intro res rows' hle hK hA hff
        let len:=match Q3x x.refs (args.toList.map ev) with|[]=>false|_=>true
        have hlen:Q3x x.refs (args.toList.map ev)≠[]->len=true:=by
          intro hne
          show(match Q3x x.refs (args.toList.map ev) with|[]=>false|_=>true)=true
          split
          . contradiction
          . rfl
        have hflat:len=true->x.flat=true:=by
          intro hl
          rcases hfl with h|h
          . exact h.1
          . exfalso
            have hl:(match Q3x x.refs (args.toList.map ev) with|[]=>false|_=>true)=true:=hl
            split at h
            . rename_i e;rw[e]at hl;cases hl
            . cases h
        have core: ∀(c:Ctx) (w:World) (a:Act),Mem c w->c.base<=w.heap.size->Q4w c R->(∀r row,r∈ids->R.getD r none=some row->c.R r=some row)->(∀r,R.length<=r->r<R.length+(rows'.length-ids.length)->c.R r=none)->(∀y∈args.toList,Rep c w (ev y) (a.eval y))->
            ∀(K':Act->World->Prop) (Q:Exit->Act->World->Prop),(∀v w' c',NxtW (c.pass w ids crows len) w c' w'->(∀i,c'.R i=rows'[i]?)->Rep (c.behind w c' ids R.length (Q8o (bk ids R.length) ids rows' R++Qcj (bk ids R.length) (rows'.drop ids.length))) w' (res.renV (bk ids R.length) true) v->K' (a.put dst v) w')->
            (⟨dst, .call ⟨.value (.func f),args,tys⟩,type,pos',after,guard⟩:Oper).wpR P a w K' Q:=by
          intro c w a hm hb hAg hRi hnew hev K' Q hK'
          have hn:=Qkt (len:=len) (w:=w) hRi hcrows
          have hargs:=Qkq (len:=len) (ρ:=a.eval) hm hAg hn has hlen hdis hsub hev
          have hcall:=hA (c.pass w ids crows len) w _ (Z15 hm hRi hnd hcl hcrows) rfl (λr=>rfl) hargs
          refine Z1h hok hf (hok.real hgn) (hcall.mono λe w' hpost=> ?_)
          obtain⟨v,c',he,hnx,hR',hres⟩:=hpost
          obtain⟨g1,g2,_⟩:=Qu1 hm hb hRi hnew hnd hcrows hle hnx hR' (λe=>(hff (hflat e)).2) rfl
          exact⟨v,he,hK' v w' c' hnx hR' (Z1b g1 g2 (λ_=>trivial) (λe=>(hff (hflat e)).1) hres)⟩
        have hmem: ∀(c:Ctx) (w:World) (a:Act),(∀y∈(⟨dst, .call ⟨.value (.func f),args,tys⟩,type,pos',after,guard⟩:Oper).op.operands,Rep c w (ev y) (a.eval y))-> ∀y∈args.toList,Rep c w (ev y) (a.eval y):=λc w a hev y hy=>hev y (by simp [Op.operands,Call.operands];exact .inr (by simpa using hy))
        refine⟨_,_,x,hK,hx,λc w a hm hb hR hev K' Q hK'=> ?_,λhrefs=> ?_⟩
        . have hAg:Q4w c R:=λr row row' g1 g2=>by rw[hR,g2]at g1;exact(Option.some.inj g1).symm
          have hRi: ∀r row,r∈ids->R.getD r none=some row->c.R r=some row:=λr row _ e=>by rw[hR];exact e
          have hnew: ∀r,R.length<=r->r<R.length+(rows'.length-ids.length)->c.R r=none:=λr e _=>by rw[hR,aK,aM e];rfl
          refine core c w a hm hb hAg hRi hnew (hmem c w a hev) K' Q λv w' c' hnx hR' hres=> ?_
          obtain⟨g1,g2,g3,g4,g5,g6,g7⟩:=Qu1 hm hb hRi hnew hnd hcrows hle hnx hR' (λe=>(hff (hflat e)).2) rfl
          have hlen2:(Q8o (bk ids R.length) ids rows' R).length=R.length:=(Qhk hnd hle (λr hr=>by
            obtain⟨row,q1,_⟩:=(Q8g hcrows).2 _ r (Qck hr)
            by_cases hl:r<R.length
            . exact hl
            . rw[aK,aM (by omega)]at q1;cases q1)).1
          have hget:=Qhk (f:=bk ids R.length) hnd hle (λr hr=>by
            obtain⟨row,q1,_⟩:=(Q8g hcrows).2 _ r (Qck hr)
            by_cases hl:r<R.length
            . exact hl
            . rw[aK,aM (by omega)]at q1;cases q1)
          refine hK' v w' _ ⟨g3,g4,g5.mono λb _ ⟨r,y,k1,k2,_,k4⟩=>⟨r,y,k1,k2,k4⟩,g6,λr row' hr hv=> ?_⟩ (λr=> ?_) hres
          . by_cases hc:R.length<=r/\r<(Q8o (bk ids R.length) ids rows' R++Qcj (bk ids R.length) (rows'.drop ids.length)).length
            . exact .inr (g7 r hc.1 hc.2 hv)
            . left
              simp only[Ctx.behind,if_neg hc]at hv⊢
              refine⟨?_,hv,trivial⟩
              simp only[Ctx.behind]at hr
              split at hr
              . rename_i hor
                rcases hor with hor|hor
                . obtain⟨row,q1,_⟩:=(Q8g hcrows).2 _ r (Qck hor)
                  exact⟨row,hRi r row hor q1⟩
                . contradiction
              . exact⟨_,hr⟩
          . simp only[Ctx.behind]
            split
            . rfl
            . rename_i hor
              have h1:r∉ids:=λe=>hor (.inl e)
              by_cases hlt:r<R.length
              . rw[aK,aZ (by omega),<-aK,hget.2.2 r h1,hR]
              . rw[hR,aK,aM (by omega),aK,aM (by
                  by_cases h2:r<(Q8o (bk ids R.length) ids rows' R++Qcj (bk ids R.length) (rows'.drop ids.length)).length
                  . exact(hor (.inr ⟨by omega,h2⟩)).elim
                  . omega)]
        . have hids':ids=[]:=by rw[<-hids,hrefs];exact Z6f R _
          subst hids'
          have hset:Q8o (bk [] R.length) [] rows' R=R:=by cases rows'<;>rfl
          rw[hset]
          simp only[fB,fR]at*
          refine⟨⟨_,rfl⟩,λc w a hm hb hAg hnew hev K' Q hK'=> ?_⟩
          have hRi: ∀r row,r∈([]:List Nat)->R.getD r none=some row->c.R r=some row:=λr row e=>by cases e
          have hnew': ∀r,R.length<=r->r<R.length+(rows'.length-0)->c.R r=none:=λr e1 e2=>hnew r e1 (by simp [Qcj];omega)
          refine core c w a hm hb hAg hRi hnew' (hmem c w a hev) K' Q λv w' c' hnx hR' hres=> ?_
          obtain⟨g1,g2,g3,g4,g5,g6,g7⟩:=Qu1 hm hb hRi hnew' hnd hcrows hle hnx hR' (λe=>(hff (hflat e)).2) rfl
          rw[hset]at g3 g4 g6 g7 hres
          simp only[fB,fR]at g3 g4 g6 g7 hres
          refine hK' v w' _ ⟨g3,g4,g5.mono (λb _ ⟨r,y,k1,k2,k3,k4⟩=>(by cases k3)),g6,λr=> ?_,λr hr=> ?_,λr k1 k2=>g7 r k1 k2⟩ hres
          . simp [Ctx.behind]
          . simp only[Ctx.behind]
            rw[if_neg (by omega),if_neg (by omega)]
            exact⟨rfl,Iff.rfl⟩
      split at h
      . rename_i res rows' hm
        simp only[Qxv,Q02,D.force_iff,Q1h]at h
        obtain⟨h5,h6⟩:=hok.ok hgn _ _ _ _ hm
        exact main res rows' (lE h.1) h.2 h5 h6
      . rename_i p res rows' hm
        simp only[Qxv,Q02,D.force_iff,Q1h]at h
        obtain⟨h5,h6⟩:=hok.when hgn _ _ _ _ _ hm h.1
        exact main res rows' (lE h.2.1) h.2.2 h5 h6
      . rename_i α v res rows' hm
        have h:=h v rfl
        simp only[Qxv,Q02,D.force_iff,Q1h]at h
        obtain⟨h5,h6⟩:=hok.abs hgn _ _ _ _ _ _ hm
        exact main (res v) (rows' v) (lE h.1) h.2 h5 h6
      . rename_i p α v res rows' hm
        obtain⟨hp,h⟩:=h
        have h:=h v rfl
        simp only[Qxv,Q02,D.force_iff,Q1h]at h
        obtain⟨h5,h6⟩:=hok.absW hgn _ _ _ _ _ _ _ hm hp
        exact main (res v) (rows' v) (lE h.1) h.2 h5 h6
      . exact h.elim
    . exact h.elim
  . exact h.elim
theorem Z0n{f:Nat->Nat}:∀{ds:List D},Z9g ds=true->D.rens f true ds=ds
 |[],_=>rfl
 |d ::l,h=>by
  simp only[Z9g]at h
  split at h
  ·rename_i hd
   simp only[D.rens,Z0n h]
   cases d<;>first|(simp[Z5s]at hd;done)|simp[D.ren1]
  ·cases h
theorem Z4n{f:Nat->Nat}{d:D}(h:noRef d=true):d.ren f true=d:=by
 cases d with
 |agg cs=>show D.agg (D.rens f true cs)=_;rw[Z0n h]
 |_=>first|(simp[noRef,Z5s]at h;done)|simp[D.ren,D.ren1]
theorem Qz{f:Nat->Nat}:∀{ds:List D},Z8j ds=true->D.renT f true ds=ds
 |[],_=>rfl
 |d ::l,h=>by
  simp only[Z8j]at h
  split at h
  ·rename_i hd
   simp only[D.renT,Qz h,Z4n hd]
  ·cases h
theorem Zap{f:Nat->Nat}{d:D}(h:noRefV d=true):d.renV f true=d:=by
 cases d with
 |tup ds=>show D.tup (D.renT f true ds)=_;rw[Qz h]
 |agg cs=>exact Z4n (d:=.agg cs) h
 |_=>first|(simp[noRefV,noRef,Z5s]at h;done)|simp[D.renV,D.ren,D.ren1]
theorem Qwo{R:Rows}(f g:Nat->Nat):∀{ds:List D},Qj9 R f [] ds=Qj9 R g [] ds
 |[]=>rfl
 |d::l=>by simp only[Qj9,Qwo f g (ds:=l)]
theorem vF{G:List Q09}{f:FuncId}{args:List D}{R:Rows}{K:D->Rows->Prop}(h:Z00 G f args R K):callG G f args R K:=by
 unfold Z00 at h
 split at h
 ·rename_i x hx
  split at h
  ·rename_i hrefs
   split at h
   ·rename_i az has
    simp only[Q02]at h
    have hv:∀{res:D} {rows':List Row},Qz2 R res rows' K->Qxv R [] res rows' K:=by
     intro res rows' h
     have hset:Q8o (bk [] R.length) [] rows' R=R:=by cases rows'<;>rfl
     simp only[Qxv,Q02,fB,fR,hset]
     refine⟨by simp,?_⟩
     unfold Qz2 at h
     split at h
     ·simp only[Q02,D.force_iff]at h
      rw[Zap h.1]
      simp only[D.force_iff,Q1h,Qcj,List.map_nil,List.append_nil]
      exact h.2
     ·exact h
    unfold callG
    simp only[hx,hrefs,Z6f]
    rw[Qwo _ (λr=>r),has]
    simp only[Qif,Q02,Qqf]
    refine⟨?_,?_⟩
    ·have:∀l:List Nat,disB l []=true:=λl=>by
      rw[Qth];intro r _ hr;cases hr
     simp only[subB,Qe,Qlr,this,Bool.and_true]
     have h1:=h.1
     revert h1
     cases Q3x [] args<;>simp[isNilN]
    ·revert h
     cases x.m az []with
     |no=>exactλh=>h.2
     |ok res rows'=>exactλh=>hv h.2
     |«when»p res rows'=>exactλh=>⟨h.2.1,hv h.2.2⟩
     |abs α v res rows'=>exactλh X hX=>hv (h.2 X hX)
     |absW p α v res rows'=>exactλh=>⟨h.2.1,λX hX=>hv (h.2.2 X hX)⟩
   ·exact h.elim
  ·exact h
 ·exact h.elim
theorem Qxa{P:Program}{G:List Q09}(hG:Q57 P G){dst:Option Tmp}{f:FuncId}{args:Array Operand}{tys:Array TypeId}{type:TypeId}{pos':String}{after:Array Edge}{guard:Option (Nat×Bool)}{ev:Operand->D}{R:Rows}{K:D->Rows->Prop}
 (hgo:Q8t G f=none) (h:Z00 G f (args.toList.map ev) R K):∃val R' x,K val R'/\Qf0 G f=some x/\OpW P ⟨dst,.call ⟨.value (.func f),args,tys⟩,type,pos',after,guard⟩ ev R val R'/\(x.refs=[]->OpN P ⟨dst,.call ⟨.value (.func f),args,tys⟩,type,pos',after,guard⟩ ev R val R'):=
 yF hG hgo (vF h)

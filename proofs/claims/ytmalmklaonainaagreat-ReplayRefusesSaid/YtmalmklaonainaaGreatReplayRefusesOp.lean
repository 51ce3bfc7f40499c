import Derived.Test.YtmalmklaonainaaGreatReplayRefusesSlice
set_option linter.all false
namespace Go.GD
open Go
structure Nxt(c:Ctx)(w:World)(R R':Rows)(c':Ctx)(w':World):Prop where
 mem:Mem c' w'
 grows:Q3s c w c' w'
 fr:Fr (λ_=>False) w w'
 imm: ∀b,c'.I b->c.I b\/w.heap.size<=b
 rows: ∀r,c'.R r=if R.length<=r/\r<R'.length then R'.getD r none else c.R r
 old: ∀r,r<R.length\/R'.length<=r->c'.ρ r=c.ρ r/\(c'.V r↔c.V r)
 new: ∀r,R.length<=r->r<R'.length-> ¬c'.V r->w.heap.size<=c'.ρ r
structure NxtW(c:Ctx)(w:World)(c':Ctx)(w':World):Prop where
 mem:Mem c' w'
 grows:Q3s c w c' w'
 fr:Fr (λb=> ∃r x,c.R r=some x/\ ¬c.V r/\c.ρ r=b) w w'
 imm: ∀b,c'.I b->c.I b\/w.heap.size<=b
 rho: ∀r row',c'.R r=some row'-> ¬c'.V r->((∃row,c.R r=some row)/\ ¬c.V r/\c'.ρ r=c.ρ r)\/w.heap.size<=c'.ρ r
def uponR(P:Program)(o:Oper)(a:Act)(next:Act->World->Prop):Result Next->Prop
 | .ok (.value v) w'=>next (a.put o.dst v) w'
 | .ok .skip w'=>next (a.put o.dst undef) w'
 | .ok (.enter f args) w'=>Calls P f args w' λe w''=> ∃v,e= .returned v/\next (a.put o.dst v) w''
 | .ok (.round l f tmps assign body) w'=>RoundIn Fence.wide 0 P l f tmps assign body w' λe w''=> ∃v,e= .returned v/\next (a.put o.dst v) w''
 |_=>False
def _root_.Go.Oper.wpR(P:Program)(o:Oper)(a:Act)(w:World)(next:Act->World->Prop)(_:Exit->Act->World->Prop):Prop:=uponR P o a next ((execOp a.eval o).run P w)
theorem Qkb{P:Program}{o:Oper}{a:Act}{w w':World}{u:Value}{K:Act->World->Prop}{Q:Exit->Act->World->Prop}(h:(execOp a.eval o).run P w= .ok (.value u) w')(hK:K (a.put o.dst u) w'):o.wpR P a w K Q:=by
 unfold Oper.wpR;rw[h];exact hK
theorem zX{P:Program}{o:Oper}{a:Act}{w w':World}{K:Act->World->Prop}{Q:Exit->Act->World->Prop}(h:(execOp a.eval o).run P w= .ok .skip w')(hK:K (a.put o.dst undef) w'):o.wpR P a w K Q:=by
 unfold Oper.wpR;rw[h];exact hK
theorem Za7{P:Program}{o:Oper}{a:Act}{w:World}{K K':Act->World->Prop}{Q Q':Exit->Act->World->Prop}(h: ∀a w,K a w->K' a w)(hh:o.wpR P a w K Q):o.wpR P a w K' Q':=by
 unfold Oper.wpR at hh⊢
 revert hh
 generalize(execOp a.eval o).run P w=r
 intro hh
 cases r with
 |halt _ _=>exact hh.elim
 | ok n w'=>
   cases n with
   |value v=>exact h _ _ hh
   |skip=>exact h _ _ hh
   |enter f args=>exact Calls.mono hh λe w' ⟨v,he,hk⟩=>⟨v,he,h _ _ hk⟩
   |round l f tmps assign body=>exact RoundIn.mono hh λe w' ⟨v,he,hk⟩=>⟨v,he,h _ _ hk⟩
   |_=>exact hh.elim
def OpN(P:Program)(o:Oper)(ev:Operand->D)(R:Rows)(val:D)(R':Rows):Prop:=
 (∃news,R'=R++news)/\ ∀(c:Ctx) (w:World) (a:Act),Mem c w->c.base<=w.heap.size->Q7p c R->(∀r,R.length<=r->r<R'.length->c.R r=none)->(∀x∈o.op.operands,Rep c w (ev x) (a.eval x))->
   ∀K Q,(∀v w' c',Nxt c w R R' c' w'->Rep c' w' val v->K (a.put o.dst v) w')->o.wpR P a w K Q
def OpW(P:Program)(o:Oper)(ev:Operand->D)(R:Rows)(val:D)(R':Rows):Prop:=
 ∀ (c:Ctx) (w:World) (a:Act),Mem c w->c.base<=w.heap.size->(∀r,c.R r=R.getD r none)->(∀x∈o.op.operands,Rep c w (ev x) (a.eval x))->
   ∀K Q,(∀v w' c',NxtW c w c' w'->(∀r,c'.R r=R'.getD r none)->Rep c' w' val v->K (a.put o.dst v) w')->o.wpR P a w K Q
theorem OpN.toW{P:Program}{o:Oper}{ev:Operand->D}{R:Rows}{val:D}{R':Rows}(h:OpN P o ev R val R'):OpW P o ev R val R':=by
  obtain⟨⟨news,hn⟩,h⟩:=h
  intro c w a hm hb hR hev K Q hK
  refine h c w a hm hb (λr row row' h1 h2=>by rw[hR,h2]at h1;exact(Option.some.inj h1).symm) (λr h1 _=>by rw[hR];simp [List.getD,List.getElem?_eq_none h1]) hev K Q λv w' c' hs hr=> ?_
  refine hK v w' c' ⟨hs.mem,hs.grows,hs.fr.mono (λb _ hf=>hf.elim),hs.imm,λr row' hr' hv=> ?_⟩ (λr=> ?_) hr
  . by_cases h1:R.length<=r/\r<R'.length
    . exact .inr (hs.new r h1.1 h1.2 hv)
    . rw[hs.rows,if_neg h1]at hr'
      obtain⟨h2,h3⟩:=hs.old r (by omega)
      exact .inl ⟨⟨_,hr'⟩,λe=>hv (h3.2 e),h2⟩
  . rw [hs.rows,hR]
    split
    . rfl
    . rename_i h1
      subst hn
      by_cases h2:r<R.length
      . simp [List.getD,List.getElem?_append_left h2]
      . have h3:(R++news).length<=r:=by omega
        simp [List.getD,List.getElem?_eq_none h3,List.getElem?_eq_none (show R.length<=r by omega)]
theorem Q1l{P:Program}{o:Oper}{ev:Operand->D}{R:Rows}{val:D}(h: ∀(c:Ctx) (w:World) (a:Act),Mem c w->Q7p c R->(∀x∈o.op.operands,Rep c w (ev x) (a.eval x))-> ∃u,(execOp a.eval o).run P w= .ok (.value u) w/\Rep c w val u):OpN P o ev R val R:=by
 refine⟨⟨[],by simp⟩,λc w a hm hb hA _ hev K Q hK=> ?_⟩
 obtain⟨u,hu,hr⟩:=h c w a hm hA hev
 exact Qkb hu (hK u w c ⟨hm,Q3s.refl c w,Fr.refl _ w,λb hb=> .inl hb,λr=>by rw[if_neg (by omega)],λ_ _=>⟨rfl,Iff.rfl⟩,λr h1 h2=>by omega⟩ hr)
theorem Qpz{P:Program}{o:Oper}{ev:Operand->D}{R:Rows}{val:D}{row:Row}(h: ∀(c:Ctx) (w:World) (a:Act),Mem c w->Q7p c R->(∀x∈o.op.operands,Rep c w (ev x) (a.eval x))->
   ∃x:Sem Value,execOp a.eval o=(do pure (.value (<-x)))/\Zmc P x w c R.length row val):OpN P o ev R val (R++[some row]):=by
 refine⟨⟨[some row],rfl⟩,λc w a hm hb hA hnew hev K Q hK=> ?_⟩
 obtain⟨x,hx,u,arr,hu,hi,hr⟩:=h c w a hm hA hev
 have hk:c.R R.length=none:=hnew R.length (Nat.le_refl _) (by simp)
 have hrun:(execOp a.eval o).run P w= .ok (.value u) (w.alloc (.cells arr row.ty)):=by
   rw[hx,Sem.run_bind,hu];rfl
 refine Qkb hrun (hK u _ (c.add R.length row w.heap.size) ⟨hm.alloc hk row arr hi.1 hi.2,Q3s.alloc hm hk row _,Fr.alloc _ w _,λb hb=> .inl hb,λr=> ?_,λr hr=> ?_,λr h1 h2 _=> ?_⟩ (hr hk hm))
 . by_cases e:r=R.length
   . subst e
     simp [Ctx.add,List.getD]
   . have: ¬(R.length<=r/\r<(R++[some row]).length):=by simp;omega
     rw[if_neg this]
     simp [Ctx.add,e]
 . have:r≠R.length:=by simp at hr;omega
   simp [Ctx.add,this]
 . have:r=R.length:=by simp at h2;omega
   simp [Ctx.add,this]
def Qpj:Op->Bool| .store _ _ _=>true|_=>false
theorem Zmi{c:Ctx}{w:World}{cs:List D}{vs:List Value}(h:Q3v c w cs vs)(o n:Nat):Q3v c w ((cs.drop o).take n) ((vs.drop o).take n):=by
 rw[Qc0]at h⊢
 obtain⟨h1,h2⟩:=h
 refine⟨by simp [h1],λj v hv=> ?_⟩
 simp only[List.getElem?_take,List.getElem?_drop]at hv
 split at hv
 . rename_i hj
   have:=h2 (o+j) v hv
   simp only[List.getD,List.getElem?_take,List.getElem?_drop,hj,if_true]at this⊢
   exact this
 . cases hv
theorem zae{c:Ctx}{w:World}: ∀{tys:List CTy} {az:List D} {vs:List Value},Q3v c w az vs->fits tys az=true->Seg vs.toArray 0 az
  | tys,az,vs,h,hf=>by
    intro j d hj
    have hlt:=(List.getElem?_eq_some_iff.1 hj).1
    have hl:=h.length
    have hv:vs[j]? =some vs[j]:=List.getElem?_eq_getElem (by omega)
    have hr:=(Qc0.1 h).2 j _ hv
    simp only[List.getD,hj,Option.getD_some]at hr
    have hs : ∀{tys:List CTy} {az:List D} {j:Nat},fits tys az=true->az[j]? =some d->(∃k n,d= .int k n)\/(∃b,d= .bool b)\/ ∃s,d= .str s:=by
      intro tys
      induction tys with
      |nil=>intro az j hf hj;cases az<;>simp [fits]at hf;simp at hj
      | cons t ts ih=>
        intro az j hf hj
        cases az with
        |nil=>cases t<;>simp [fits]at hf
        | cons e es=>
          cases t<;>simp only[fits,aE,Bool.false_eq_true]at hf
          all_goals
            cases j with
            |succ j=>exact ih hf.2 (by simpa using hj)
            | zero=>
              simp at hj
              subst hj
              cases e<;>simp [D.isInt,D.isBool,D.isStr]at hf⊢
    simp only[Nat.zero_add,List.getElem?_toArray,hv]
    rcases hs hf hj with⟨k,n,rfl⟩|⟨b,rfl⟩|⟨s,rfl⟩<;>(simp only[CRep]at hr;rw[hr];rfl)
theorem Z35{c:Ctx}{w:World}: ∀{ds:List D} {vs:List Value},Q8a c w ds vs-> ∀i,i<ds.length-> ∃v,vs[i]? =some v/\VRep c w (ds.getD i .dead) v
 |[],[],_,i,h=>by simp at h
 |d::ds,v::vs,h,0,_=>⟨v,rfl,h.1⟩
 | d::ds,v::vs,h,i+1,hi=>by
   obtain⟨u,hu,hr⟩:=Z35 h.2 i (by simpa using hi)
   exact⟨u,by simpa using hu,by simpa using hr⟩
 |[],_::_,h,_,_=>h.elim
 |_::_,[],h,_,_=>h.elim
theorem qaH{d:D}{x:Cap}(h:capOf d=some x):x.d=d:=by
  have go: ∀{cs:List Cap} {ps:List (Nat×Nat×Nat)},Zgi cs=some ps->ps.map ptrC=cs:=by
    intro cs
    induction cs with
    |nil=>intro ps h;simp [Zgi]at h;subst h;rfl
    | cons y l ih=>
      intro ps h
      simp only[Zgi]at h
      split at h
      . rename_i p qs h1 h2
        cases h
        simp only[List.map_cons,ih h2]
        cases y<;>simp [ptrOf]at h1
        subst h1;rfl
      . cases h
  cases d<;>simp only[capOf]at h<;>first|(cases h;done)|skip
  case clo f cs=>
    split at h
    . rename_i ps hp;cases h;simp only[Cap.d,go hp]
    . cases h
  all_goals(cases h;rfl)
theorem Z1e{c:Ctx}{w:World}{ev:Operand->D}{ρ:Operand->Value}: ∀{xs:List Operand} {cs:List Cap},Z72 (xs.map ev)=some cs->(∀x∈xs,Rep c w (ev x) (ρ x))->Q6g c w cs (xs.map ρ)
 |[],cs,h,_=>by simp [Z72]at h;subst h;trivial
 | x ::xs,cs,h,hr=>by
   simp only[List.map_cons,Z72]at h
   split at h
   . rename_i y ys h1 h2
     cases h
     refine⟨?_,Z1e h2 λz hz=>hr z (by simp [hz])⟩
     have:=hr x (by simp)
     rw[<-qaH h1]at this
     rw[Z9b]
     cases y<;>exact this
   . cases h
theorem Z16{P:Program}{T:Tab}(hT:Q52 P T)(o:Oper)(ev:Operand->D)(R:Rows)(K:D->Rows->Prop)(h:opVC T o.op ev R K):
    ∃val R',K val R'/\(if Qpj o.op then OpW P o ev R val R' else OpN P o ev R val R'):=by
  obtain⟨dst,op,type,pos,after,guard⟩:=o
  simp only at h
  cases op<;>(try simp only[opVC]at h)<;>try(exact h.elim)
  case makeFunc fn first captured=>
    cases fn<;>simp only at h<;>try(exact h.elim)
    rename_i f
    simp only[Q08,aE]at h
    obtain⟨⟨h0,hy⟩,h⟩:=h
    split at h
    . rename_i cs hc
      refine⟨_,_,h,Q1l λc w a hm hA hev=> ?_⟩
      have hf:first= #[]:=Array.eq_empty_of_size_eq_zero (bE h0)
      subst hf
      refine⟨.func (.func f) #[] (captured.map a.eval),?_,captured.toList.map a.eval,?_,Z1e hc λx hx=>hev x (by simp [Op.operands];simpa using hx)⟩
      . simp only[execOp,Instr.makeFunc,Sem.run_bind,Sem.run_pure,Array.map_empty];rfl
      . exact .inl ⟨lE hy,by rw[<-List.map_toArray,Array.toArray_toList]⟩
    . exact h.elim
  case move x=>
    rw[D.force_iff]at h
    exact⟨_,_,h,Q1l λc w a hm hA hev=>⟨_,rfl,hev x (by simp [Op.operands])⟩⟩
  case assign x=>
    rw[D.force_iff]at h
    exact⟨_,_,h,Q1l λc w a hm hA hev=>⟨_,rfl,hev x (by simp [Op.operands])⟩⟩
  case alloc t=>
    split at h
    . rename_i ht
      simp only[Q08,aE,Qu4]at h
      obtain⟨⟨h0,hl⟩,h⟩:=h
      exact⟨_,_,h,Qpz λc w a hm hA hev=>⟨_,rfl,Zm hT ht (lE h0) (bE hl) R.length c w⟩⟩
    . exact h.elim
  case box t x=>
    split at h
    . rename_i ht
      simp only[Q08,aE,Qu4,D.forceL_iff]at h
      obtain⟨⟨⟨h0,hv⟩,hl⟩,h⟩:=h
      exact⟨_,_,h,Qpz λc w a hm hA hev=>⟨_,rfl,zaU (lE h0) hv (bE hl) R.length c w (hev x (by simp [Op.operands]))⟩⟩
    . exact h.elim
  case build t parts=>
    obtain⟨val,hK,hr⟩:=vW hT h
    refine⟨_,_,hK,Q1l λc w a hm hA hev=> ?_⟩
    obtain⟨u,hu,hx⟩:=hr c w a.eval (λp hp=>hev p.2 (by simp [Op.operands];exact⟨p.1,by simpa using hp⟩))
    refine⟨u,?_,hx⟩
    simp only[execOp]
    rw[Sem.run_bind,show parts.map (λx=>(x.1,a.eval x.2))=(parts.toList.map λp=>(p.1,a.eval p.2)).toArray from by rw[<-List.map_toArray,Array.toArray_toList],hu]
    rfl
  case buildSlice t len parts=>
    obtain⟨val,hK,hr⟩:=Zos hT h
    refine⟨_,_,hK,⟨[],by simp⟩,λc w a hm hb hA _ hev K Q hK=> ?_⟩
    obtain⟨u,arr,ty,hu,hx⟩:=hr c w a.eval hb (λp hp=>hev p.2 (by simp [Op.operands];exact⟨p.1,by simpa using hp⟩))
    have hrun:(execOp a.eval (⟨dst, .buildSlice t len parts,type,pos,after,guard⟩:Oper)).run P w= .ok (.value u) (w.alloc (.cells arr ty)):=by
      simp only[execOp]
      rw[Sem.run_bind,show parts.map (λx=>(x.1,a.eval x.2))=(parts.toList.map λp=>(p.1,a.eval p.2)).toArray from by rw[<-List.map_toArray,Array.toArray_toList],hu]
      rfl
    exact Qkb hrun (hK u _ (c.imm w.heap.size) ⟨zaH hm _,Z0z hm _,Fr.alloc _ w _,λb hb=>hb.elim .inl (λe=> .inr (by omega)),λr=>by rw[if_neg (by omega)];rfl,λ_ _=>⟨rfl,Iff.rfl⟩,λr h1 h2=>by omega⟩ (hx hm))
  case load t x=>
    obtain⟨val,hK,hr⟩:=Zgd hT h
    refine⟨_,_,hK,Q1l λc w a hm hA hev=> ?_⟩
    obtain⟨u,hu,hx⟩:=hr c w _ hm hA (hev x (by simp [Op.operands]))
    exact⟨u,by simp only[execOp];rw[Sem.run_bind,hu];rfl,hx⟩
  case store t x y=>
    obtain⟨R',hK,hr⟩:=Zmr hT h
    refine⟨_,_,hK,?_⟩
    simp only[Qpj,if_true]
    intro c w a hm hb hR hev K Q hK
    obtain⟨r,row',arr,w',hrun,hw',⟨row,hrow⟩,hV,hg,hm',hR'⟩:=hr c w _ _ hm hR (hev x (by simp [Op.operands])) (hev y (by simp [Op.operands]))
    refine zX (w':=w') ?_ (hK undef w' _ ⟨hm',hg,?_,λb hb=> .inl hb,λs row'' hs hv=> ?_⟩ hR' trivial)
    . simp only[execOp];rw[Sem.run_bind,hrun];rfl
    rotate_left
    . by_cases e:s=r
      . exact .inl ⟨⟨row,by rw[e];exact hrow⟩,hv,rfl⟩
      . exact .inl ⟨⟨row'',by simpa [Ctx.upd,e] using hs⟩,hv,rfl⟩
    . rw[hw']
      exact(Qot w _ arr).mono λb _ e=>⟨r,row,hrow,hV,e.symm⟩
  case nilCheck x=>
    have go: ∀d,ev x=d->(∃a b c,d= .ptr a b c)\/(∃a b c e,d= .iptr a b c e)->K d R-> ∃val R',K val R'/\OpN P ⟨dst, .nilCheck x,type,pos,after,guard⟩ ev R val R':=by
      intro d hd hform hK
      refine⟨_,_,hK,Q1l λc w a hm hA hev=> ?_⟩
      have hx:=hev x (by simp [Op.operands])
      rw[hd]at hx
      have hp: ∃q,a.eval x= .pointer (some q):=by
        rcases hform with⟨r,i,off,rfl⟩|⟨sz,es,i,off,rfl⟩
        . obtain⟨_,_,_,_,hv⟩:=hx;exact⟨_,hv⟩
        . obtain⟨_,_,_,_,_,hv,_⟩:=hx;exact⟨_,hv⟩
      obtain⟨q,hq⟩:=hp
      refine⟨a.eval x,?_,hx⟩
      simp only[execOp,hq,Sem.run_pure]
    split at h
    . rename_i hd;exact go _ hd (.inl ⟨_,_,_,rfl⟩) h
    . rename_i hd;exact go _ hd (.inr ⟨_,_,_,_,rfl⟩) h
    . exact h.elim
  case binOp op t x y ty=>
    have fin: ∀(val:D),(∀c w u v,Rep c w (ev x) u->Rep c w (ev y) v-> ∃z,(do eqGuard op t x y u v;binOp op t u v).run P w= .ok z w/\Rep c w val z)->OpN P ⟨dst, .binOp op t x y ty,type,pos,after,guard⟩ ev R val R:=λval hv=>
      Q1l λc w a hm hA hev=>by
        obtain⟨z,hz,hr⟩:=hv c w _ _ (hev x (by simp [Op.operands])) (hev y (by simp [Op.operands]))
        refine⟨z,?_,hr⟩
        simp only[execOp]
        rw[Sem.run_bind,hz];rfl
    unfold binVC at h
    split at h
    . rename_i k a k' b hx hy
      split at h
      . simp only[Q08,decide_eq_true_eq]at h
        refine⟨_,_,h.2,fin _ λc w u v hu hv=> ?_⟩
        rw[hx]at hu;rw[hy]at hv
        rw[Rep.int.1 hu,Rep.int.1 hv]
        exact⟨_,by rw[Sem.run_bind,Qsn];exact(Zdn h.1 w).1,rfl⟩
      . simp only[Q08,decide_eq_true_eq]at h
        refine⟨_,_,h.2,fin _ λc w u v hu hv=> ?_⟩
        rw[hx]at hu;rw[hy]at hv
        rw[Rep.int.1 hu,Rep.int.1 hv]
        exact⟨_,by rw[Sem.run_bind,Qsn];exact(Zdn h.1 w).2,rfl⟩
      . rename_i h1 h2
        simp only[Q08,decide_eq_true_eq]at h
        obtain⟨rfl,h⟩:=h
        obtain⟨d,hK,hr⟩:=xaH (P:=P) (t:=t) ⟨λe=>h1 e,λe=>h2 e⟩ h
        refine⟨_,_,hK,fin _ λc w u v hu hv=> ?_⟩
        rw[hx]at hu;rw[hy]at hv
        rw[Rep.int.1 hu,Rep.int.1 hv]
        obtain⟨z,hz,hz'⟩:=hr w
        exact⟨z,by rw[Sem.run_bind,Qsn];exact hz,hz' c⟩
    . rename_i a b hx hy
      obtain⟨d,hK,hr⟩:=qaI (P:=P) (t:=t) (op:=op) (a:=a) (b:=b) (K:=λd=>K d R) h
      refine⟨_,_,hK,fin _ λc w u v hu hv=> ?_⟩
      rw[hx]at hu;rw[hy]at hv
      rw[Rep.str.1 hu,Rep.str.1 hv]
      obtain⟨z,hz,hz'⟩:=hr w
      exact⟨z,by rw[Sem.run_bind,Zj];exact hz,hz' c⟩
    . rename_i a b hx hy
      split at h
      . rename_i ht
        have hd:=Q23 hT ht
        simp only at hd
        split at h
        . refine⟨_,_,h,fin _ λc w u v hu hv=> ?_⟩
          rw[hx]at hu;rw[hy]at hv
          rw[Rep.bool.1 hu,Rep.bool.1 hv]
          refine⟨_,?_,rfl⟩
          rw[Sem.run_bind,Qy9]
          simp only[binOp]
          simp [Op.equal,Op.maxDepth,run_equalIn_bool' w 9999 t a b hd]
        . refine⟨_,_,h,fin _ λc w u v hu hv=> ?_⟩
          rw[hx]at hu;rw[hy]at hv
          rw[Rep.bool.1 hu,Rep.bool.1 hv]
          refine⟨_,?_,rfl⟩
          rw[Sem.run_bind,Qy9]
          simp only[binOp]
          simp [Op.equal,Op.maxDepth,run_equalIn_bool' w 9999 t a b hd]
        . exact h.elim
      . exact h.elim
    . rename_i a b hx hy
      split at h
      . rename_i ti ht
        simp only[Q08,aE]at h
        obtain⟨⟨⟨⟨⟨hag,h0⟩,he⟩,fa⟩,fb⟩,h⟩:=h
        obtain⟨i0,hi0,hs0,_,hl0,hk0,_,heq,hc,d0,hd0⟩:=Qc4 (hT.get ht)
        have h0:0<ti.size:=lE h0
        rw[heq]at he
        simp only[aE,Bool.not_eq_true']at he
        rw[hc]at fa fb
        have hcells:P.cellsOf t=(Q6e P 8 t).length:=by rw[<-hc,hl0];simp [Program.cellsOf,hi0,hs0]
        have hpos:0<P.cellsOf t:=by simp [Program.cellsOf,hi0,hs0,h0]
        have heqv: ∀c w u v,Rep c w (ev x) u->Rep c w (ev y) v-> ∃us vs:Array Value,u= .agg us/\v= .agg vs/\(Op.equalIn 10000 t (.agg us) (.agg vs)).run P w= .ok (eqs a b) w:=by
          intro c w u v hu hv
          rw[hx]at hu;rw[hy]at hv
          obtain⟨us,hu,ru⟩:=hu
          obtain⟨vs,hv,rv⟩:=hv
          refine⟨us.toArray,vs.toArray,hu,hv,?_⟩
          have hcmp:=Zjq (P:=P) 8 t 10000 (by omega) he.2 hcells hpos us.toArray vs.toArray 0 a b w fa fb (zae ru fa) (zae rv fb)
          have hlu:=ru.length;have hlv:=rv.length
          have hla:=Q2d fa;have hlb:=Q2d fb
          have hagg:Z47 d0=true:=by rw[<-Qi7 hd0,<-hk0];exact hag
          simp only[cmpT,Sem.run_bind,Qkl hd0 hagg hpos,Result.andThen_ok]at hcmp
          rw[show us.toArray.extract 0 (0+P.cellsOf t)=us.toArray from by apply Array.extract_eq_self_of_le;simp;omega,show vs.toArray.extract 0 (0+P.cellsOf t)=vs.toArray from by apply Array.extract_eq_self_of_le;simp;omega]at hcmp
          exact hcmp
        split at h
        . refine⟨_,_,h,fin _ λc w u v hu hv=> ?_⟩
          obtain⟨us,vs,rfl,rfl,hr⟩:=heqv c w u v hu hv
          refine⟨_,?_,rfl⟩
          rw[Sem.run_bind,run_eqGuard_agg w _ _ _ _ _ _ he.1,Result.andThen_ok,run_eql_struct,hr];rfl
        . refine⟨_,_,h,fin _ λc w u v hu hv=> ?_⟩
          obtain⟨us,vs,rfl,rfl,hr⟩:=heqv c w u v hu hv
          refine⟨_,?_,rfl⟩
          rw[Sem.run_bind,run_eqGuard_agg w _ _ _ _ _ _ he.1,Result.andThen_ok,run_neq_struct,hr];rfl
        . exact h.elim
      . exact h.elim
    . exact h.elim
  case unOp op t x=>
    split at h
    . rename_i k n hx
      refine⟨_,_,h,Q1l λc w a hm hA hev=> ?_⟩
      have:=hev x (by simp [Op.operands])
      rw[hx]at this
      exact⟨_,by simp only[execOp,Rep.int.1 this,Op.unary,Op.intArith,Sem.run_bind,Sem.run_pure];rfl,rfl⟩
    . rename_i k n hx
      refine⟨_,_,h,Q1l λc w a hm hA hev=> ?_⟩
      have:=hev x (by simp [Op.operands])
      rw[hx]at this
      exact⟨_,by simp only[execOp,Rep.int.1 this,Op.unary,Op.intBits,Sem.run_bind,Sem.run_pure];rfl,rfl⟩
    . rename_i b hx
      refine⟨_,_,h,Q1l λc w a hm hA hev=> ?_⟩
      have:=hev x (by simp [Op.operands])
      rw[hx]at this
      exact⟨_,by simp only[execOp,Rep.bool.1 this,Op.unary,Sem.run_bind,Sem.run_pure];rfl,rfl⟩
    . exact h.elim
  case convert s d x=>
    obtain⟨val,hK,hr⟩:=zaI hT h
    refine⟨_,_,hK,Q1l λc w a hm hA hev=> ?_⟩
    obtain⟨u,hu,hx⟩:=hr c w _ (hev x (by simp [Op.operands]))
    exact⟨u,by simp only[execOp];rw[Sem.run_bind,hu];rfl,hx⟩
  case makeSlice t l cp=>
    split at h
    . rename_i kl n kc m hl hc
      obtain⟨row,val,hK,hr⟩:=qz (kl:=kl) (kc:=kc) hT h
      refine⟨_,_,hK,Qpz λc w a hm hA hev=>⟨_,rfl,?_⟩⟩
      have h1:=hev l (by simp [Op.operands]);have h2:=hev cp (by simp [Op.operands])
      rw[hl]at h1;rw[hc]at h2
      rw[Rep.int.1 h1,Rep.int.1 h2]
      exact hr c w
    . exact h.elim
  case slice t x lo hi mx=>
    cases mx with
    |some m=>simp only at h
    | none=>
      simp only at h
      obtain⟨val,hK,hr⟩:=yX hT h
      refine⟨_,_,hK,Q1l λc w a hm hA hev=> ?_⟩
      obtain⟨u,hu,hx⟩:=hr c w _ a.eval hm hA (hev x (by simp [Op.operands])) (λy hy=>hev y (by simp [Op.operands,hy])) (λy hy=>hev y (by simp [Op.operands,hy]))
      exact⟨u,by simp only[execOp];rw[Sem.run_bind];simp only[Option.map_none];rw[hu];rfl,hx⟩
  case fieldAddr s x f=>
    split at h
    . rename_i o q n hf
      simp only[Q08]at h
      obtain⟨h0,h⟩:=h
      have h0:0<n:=lE h0
      obtain⟨fs,fd,g1,g2,g3,g4,g5⟩:=Qyw hT hf
      split at h
      . rename_i r i off hx
        refine⟨_,_,h,Q1l λc w a hm hA hev=> ?_⟩
        have:=hev x (by simp [Op.operands])
        rw[hx]at this
        obtain⟨row,k1,kV,k2,hv⟩:=this
        refine⟨_,by simp only[execOp,hv];rw[Sem.run_bind,Z49 g1 g2 (by simp only at g5;omega)];rfl,row,k1,kV,k2,by rw[g3,Nat.add_assoc]⟩
      . rename_i sz es i off hx
        refine⟨_,_,h,Q1l λc w a hm hA hev=> ?_⟩
        have:=hev x (by simp [Op.operands])
        rw[hx]at this
        obtain⟨b,oo,arr,ty,fz,hv,hI,hi,hh,hE⟩:=this
        refine⟨_,by simp only[execOp,hv];rw[Sem.run_bind,Z49 g1 g2 (by simp only at g5;omega)];rfl,b,oo,arr,ty,fz,by rw[g3,Nat.add_assoc],hI,hi,hh,hE⟩
      . exact h.elim
    . exact h.elim
  case field s x f=>
    split at h
    . rename_i o q n hf
      obtain⟨fs,fd,g1,g2,g3,g4,g5⟩:=Qyw hT hf
      simp only at g4 g5
      split at h
      . rename_i cs ti hx ht
        simp only[Q08,aE]at h
        obtain⟨⟨h0,hle⟩,h⟩:=h
        have h0:0<n:=lE h0
        have hle:=lE hle
        obtain⟨_,_,_,_,_,hk0,_,_,_,d0,hd0⟩:=Qc4 (hT.get ht)
        have run: ∀(vs:List Value) (w:World) (r:Value),(part q vs.toArray o).run P w= .ok r w->(Instr.field s (.agg vs.toArray) f).run P w= .ok r w:=λvs w r hr=>by
          simp only[Instr.field,Sem.run_bind,run_underlying g1,Result.andThen_ok,g2,asAgg,Sem.run_pure,g4,g3,hr]
        split at h
        . rename_i hag
          rw[D.forceL_iff]at h
          refine⟨_,_,h,Q1l λc w a hm hA hev=> ?_⟩
          have:=hev x (by simp [Op.operands])
          rw[hx]at this
          obtain⟨vs,hv,hr⟩:=this
          have hp:=Qkl (P:=P) hd0 (by rw[<-Qi7 hd0,<-hk0];exact hag) (by rw[<-g4,g5];exact h0) vs.toArray o w
          refine⟨_,by simp only[execOp,hv];rw[Sem.run_bind,run vs w _ hp];rfl,(vs.drop o).take n,?_,Zmi hr o n⟩
          rw[<-g4,g5]
          congr 1
          simp [List.extract_toArray,List.extract_eq_take_drop]
        . rename_i hag
          simp only[D.force_iff]at h
          obtain⟨hcell,h⟩:=h
          refine⟨_,_,h,Q1l λc w a hm hA hev=> ?_⟩
          have:=hev x (by simp [Op.operands])
          rw[hx]at this
          obtain⟨vs,hv,hr⟩:=this
          have hl:=hr.length
          have hget:vs[o]? =some vs[o]:=List.getElem?_eq_getElem (by omega)
          have hp:=Q6z (P:=P) (t:=q) hd0 (by rw[<-Qi7 hd0,<-hk0];exact hag) (xs:=vs.toArray) (o:=o) (v:=vs[o]) (by rw[List.getElem?_toArray];exact hget) w
          refine⟨_,by simp only[execOp,hv];rw[Sem.run_bind,run vs w _ hp];rfl,?_⟩
          have hc:=(Qc0.1 hr).2 o _ hget
          generalize cs.getD o .dead=d at*
          cases d<;>first|exact hc|trivial|exact hc.elim
      . exact h.elim
    . exact h.elim
  case indexAddr t x ix=>
    split at h
    . rename_i k n hn
      obtain⟨val,hK,hr⟩:=Zny (k:=k) hT h
      refine⟨_,_,hK,Q1l λc w a hm hA hev=> ?_⟩
      have h2:=hev ix (by simp [Op.operands])
      rw[hn]at h2
      obtain⟨u,hu,hx⟩:=hr c w _ hm hA (hev x (by simp [Op.operands]))
      exact⟨u,by simp only[execOp,Rep.int.1 h2];rw[Sem.run_bind,hu];rfl,hx⟩
    . exact h.elim
  case index t x ix=>
    split at h
    . rename_i s k n ht hx hn
      have hd:=Q23 hT ht
      simp only at hd
      simp only[Q08,decide_eq_true_eq]at h
      obtain⟨⟨h1,h2⟩,h⟩:=h
      refine⟨_,_,h,Q1l λc w a hm hA hev=> ?_⟩
      have e1:=hev x (by simp [Op.operands]);have e2:=hev ix (by simp [Op.operands])
      rw[hx]at e1;rw[hn]at e2
      refine⟨_,?_,rfl⟩
      have hlt:n.toNat<s.length:=by omega
      have hg:(ByteArray.mk s.toArray)[n.toNat]? =some (s.getD n.toNat 0):=by
        have h3:n.toNat<(ByteArray.mk s.toArray).size:=by simpa [ByteArray.size] using hlt
        rw[getElem?_pos (ByteArray.mk s.toArray) n.toNat h3]
        simp only[List.getD,List.getElem?_eq_getElem hlt,Option.getD_some]
        rfl
      simp only[execOp,Rep.str.1 e1,Rep.int.1 e2,Instr.index,asIntOf,Sem.run_bind,Sem.run_pure,Result.andThen_ok,run_underlying hd,h1,if_true,hg]
    . rename_i len e esz _ _ _ _ _ cs k n ht hx hn
      have hd:=Q23 hT ht
      simp only at hd
      obtain⟨hd,hsz⟩:=hd
      simp only[Q08,aE,decide_eq_true_eq]at h
      obtain⟨⟨q1,q2,q3,q4⟩,h⟩:=h
      have q1:=bE q1
      have q2:=bE q2
      have run: ∀(vs:List Value) (v:Value) (w:World) (d:TypeDesc),P.underlying e=some d->Z47 d=false->vs[n.toNat]? =some v->(Instr.index t (.agg vs.toArray) (.int k n)).run P w= .ok v w:=λvs v w d hu hda hv=>by
        have h0:0<P.cellsOf e:=by omega
        simp only[Instr.index,asIntOf,Sem.run_bind,Sem.run_pure,Result.andThen_ok,run_underlying hd,Sem.run_ite,q3,q4,and_self,if_true,Qem h0]
        rw[hsz,q1,Nat.mul_one]
        exact Q6z hu hda (by rw[List.getElem?_toArray];exact hv) w
      have cell: ∀(c:Ctx) (w:World) (a:Act),Rep c w (.agg cs) (a.eval x)-> ∃vs:List Value,a.eval x= .agg vs.toArray/\ ∃v,vs[n.toNat]? =some v/\CRep c w (cs.getD n.toNat .dead) v:=λc w a hr=>by
        obtain⟨vs,hv,hr⟩:=hr
        have hl:=hr.length
        have hget:vs[n.toNat]? =some vs[n.toNat]:=List.getElem?_eq_getElem (by omega)
        exact⟨vs,hv,_,hget,(Qc0.1 hr).2 _ _ hget⟩
      split at h
      . rename_i kk _ _ _ _ _ he
        have hu:=Q23 hT he
        simp only at hu
        obtain⟨h1,h⟩:=h
        refine⟨_,_,h,Q1l λc w a hm hA hev=> ?_⟩
        have e1:=hev x (by simp [Op.operands]);have e2:=hev ix (by simp [Op.operands])
        rw[hx]at e1;rw[hn]at e2
        obtain⟨vs,hv,v,g1,g2⟩:=cell c w a e1
        have hi:=Qqf h1 (n:=n.toNat) (by omega)
        rw[Nat.zero_add]at hi
        rw[D.isInt_eq hi]at g2
        refine⟨v,?_,?_⟩
        . simp only[execOp,Rep.int.1 e2,hv]
          rw[Sem.run_bind,run vs v w _ hu rfl g1];rfl
        . rw[Z0f (show n.toNat<len by omega),Nat.zero_add]
          exact g2
      . rename_i he
        have hu:=Q23 hT he
        simp only at hu
        obtain⟨h1,h⟩:=h
        refine⟨_,_,h,Q1l λc w a hm hA hev=> ?_⟩
        have e1:=hev x (by simp [Op.operands]);have e2:=hev ix (by simp [Op.operands])
        rw[hx]at e1;rw[hn]at e2
        obtain⟨vs,hv,v,g1,g2⟩:=cell c w a e1
        have hi:=Qn7 h1 (n:=n.toNat) (by omega)
        rw[Nat.zero_add]at hi
        rw[D.isBool_eq hi]at g2
        refine⟨v,?_,?_⟩
        . simp only[execOp,Rep.int.1 e2,hv]
          rw[Sem.run_bind,run vs v w _ hu rfl g1];rfl
        . rw[Qv2 (show n.toNat<len by omega),Nat.zero_add]
          exact g2
      . exact h.elim
    . exact h.elim
  case extract x i=>
    split at h
    . rename_i ds hx
      simp only[Q08,D.force_iff]at h
      obtain⟨hv,h⟩:=h
      refine⟨_,_,h,Q1l λc w a hm hA hev=> ?_⟩
      have:=hev x (by simp [Op.operands])
      rw[hx]at this
      obtain⟨vs,hvs,hr⟩:=this
      have hlt:i<ds.length:=by
        by_cases hl:i<ds.length
        . exact hl
        . rw[List.getD,List.getElem?_eq_none (by omega)]at hv;simp [D.isVal]at hv
      obtain⟨v,hvi,hvr⟩:=Z35 hr i hlt
      refine⟨v,?_,?_⟩
      . simp only[execOp,hvs,Instr.extract,List.getElem?_toArray,hvi];rfl
      . generalize ds.getD i .dead=d at*
        cases d<;>first|exact hvr|trivial|exact hvr.elim
    . exact h.elim
  case call cl=>
    obtain⟨callee,args,tys⟩:=cl
    cases callee<;>try(simp only at h)
    case builtin b=>
    cases b<;>try(simp only at h)
    case len=>
      split at h
      . rename_i x t hx ht
        obtain⟨val,hK,hr⟩:=qaW (t':=type) hT h
        refine⟨_,_,hK,Q1l λc w a hm hA hev=> ?_⟩
        have hargs:args= #[x]:=by rw[<-Array.toArray_toList (xs:=args),hx]
        have htys:tys= #[t]:=by rw[<-Array.toArray_toList (xs:=tys),ht]
        subst hargs;subst htys
        obtain⟨u,hu,hx⟩:=hr c w _ hm hA (hev x (by simp [Op.operands,Call.operands]))
        refine⟨u,?_,hx⟩
        simp only[execOp,resolve,Sem.run_bind,Sem.run_pure,Result.andThen_ok,invoke,builtin]
        have:(#[x]:Array Operand).map a.eval= #[a.eval x]:=by simp
        rw[this,hu];rfl
      . exact h.elim

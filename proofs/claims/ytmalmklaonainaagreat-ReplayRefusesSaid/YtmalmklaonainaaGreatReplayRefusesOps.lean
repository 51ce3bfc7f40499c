import Derived.Test.YtmalmklaonainaaGreatReplayRefusesRead
set_option linter.all false
namespace Go.GD
open Go
def Q7p(c:Ctx)(R:Rows):Prop:= ∀r row row',c.R r=some row->R.getD r none=some row'->row=row'
theorem Q80(w:World)(o:Obj)(b:Nat)(h:b<w.heap.size):(w.alloc o).heap[b]? =w.heap[b]? :=by
 show(w.heap.push o)[b]? =w.heap[b]?
 rw[Array.getElem?_push,if_neg (Nat.ne_of_lt h)]
theorem Z0n(w:World)(o:Obj):(w.alloc o).heap[w.heap.size]? =some o:=by
 show(w.heap.push o)[w.heap.size]? =some o
 simp
def Ctx.add(c:Ctx)(k:Nat)(row:Row)(b:Nat):Ctx:={c with R:=λr=>if r=k then some row else c.R r,ρ:=λr=>if r=k then b else c.ρ r,V:=λr=>r≠k/\c.V r}
theorem Ctx.add_self(c:Ctx)(k:Nat)(row:Row)(b:Nat):(c.add k row b).R k=some row/\(c.add k row b).ρ k=b:=by simp [Ctx.add]
theorem Q3s.alloc{c:Ctx}{w:World}(hm:Mem c w){k:Nat}(hk:c.R k=none)(row:Row)(o:Obj):Q3s c w (c.add k row w.heap.size) (w.alloc o):=by
 refine⟨rfl,Nat.le_refl _,λb hb=>⟨hb,Q80 w o b (hm.imm b hb).1⟩,λr x hr=> ?_⟩
 have hne:r≠k:=λe=>by rw[e,hk]at hr;cases hr
 refine⟨x,by simp [Ctx.add,hne,hr],rfl,rfl,rfl,rfl,by simp [Ctx.add,hne],by simp [Ctx.add,hne],λnv arr ha=>⟨arr,?_,rfl⟩⟩
 rw[Q80 w o _ (hm.lt hr nv)];exact ha
theorem Fr.alloc(X:Blocks)(w:World)(o:Obj):Fr X w (w.alloc o):=
 ⟨rfl,rfl,rfl,by show w.heap.size<=(w.heap.push o).size;simp,λb hb _=>Q80 w o b hb⟩
theorem Q3{c c':Ctx}{w w':World}(h:Q3s c w c' w'){r:Nat}{row:Row}(hρ:c'.ρ r=c.ρ r)(hV:c'.V r↔c.V r)(hh: ¬c.V r->w'.heap[c.ρ r]? =w.heap[c.ρ r]?)(hr:Quy c w r row):Quy c' w' r row:=by
 rcases hr with⟨h0,hr⟩|⟨h0,hr⟩
 . exact .inl ⟨hV.2 h0,hr⟩
 refine .inr ⟨λe=>h0 (hV.1 e),?_⟩
 obtain⟨arr,ha,hs,hx⟩:=hr
 refine⟨arr,by rw[hρ,hh h0];exact ha,hs,?_⟩
 split
 . rename_i hb
   simp only[hb,if_true]at hx
   obtain⟨e,h1,h2,h3,h4⟩:=hx
   exact⟨e,h1,h2,h3,Qju h h4⟩
 . rename_i hb
   simp only[hb,if_false,Bool.false_eq_true]at hx
   exact Q1m h.I _ _ _ _ hx
theorem Mem.alloc{c:Ctx}{w:World}(hm:Mem c w){k:Nat}(hk:c.R k=none)(row:Row)(arr:Array Value)(hs:0<row.sz)
    (hx:if row.box then∃e,row.es= .gen [e]/\e.length=row.sz/\arr.size=row.sz/\Q4g c w e arr 0 else Q1r c.I w row.es.l arr 0 row.sz):
    Mem (c.add k row w.heap.size) (w.alloc (.cells arr row.ty)):=by
  have hg:=Q3s.alloc hm hk row (.cells arr row.ty)
  refine⟨λr x hr=> ?_,λr s x y hr hs' hv1 hv2 he=> ?_,λb hb=> ?_,Nat.le_trans hm.top (by show w.heap.size<=(w.heap.push _).size;simp)⟩
  . by_cases e:r=k
    . subst e
      simp only[Ctx.add,if_true,Option.some.injEq]at hr
      subst hr
      refine .inr ⟨by simp [Ctx.add],arr,by simp only[Ctx.add,if_true];exact Z0n w _,hs,?_⟩
      split
      . rename_i hb
        simp only[hb,if_true]at hx
        obtain⟨e,h1,h2,h3,h4⟩:=hx
        exact⟨e,h1,h2,h3,Qju hg h4⟩
      . rename_i hb
        simp only[hb,if_false,Bool.false_eq_true]at hx
        exact Q1m hg.I _ _ _ _ hx
    . have hr':c.R r=some x:=by simpa [Ctx.add,e] using hr
      exact Q3 hg (by simp [Ctx.add,e]) (by simp [Ctx.add,e]) (λnv=>Q80 w _ _ (hm.lt hr' nv)) (hm.row r x hr')
  . by_cases e1:r=k<;>by_cases e2:s=k
    . exact e1.trans e2.symm
    . exfalso
      have h2:c.R s=some y:=by simpa [Ctx.add,e2] using hs'
      have:=hm.lt h2 (by simpa [Ctx.add,e2] using hv2)
      simp [Ctx.add,e1,e2]at he
      omega
    . exfalso
      have h1:c.R r=some x:=by simpa [Ctx.add,e1] using hr
      have:=hm.lt h1 (by simpa [Ctx.add,e1] using hv1)
      simp [Ctx.add,e1,e2]at he
      omega
    . exact hm.inj r s x y (by simpa [Ctx.add,e1] using hr) (by simpa [Ctx.add,e2] using hs') (by simpa [Ctx.add,e1] using hv1) (by simpa [Ctx.add,e2] using hv2) (by simpa [Ctx.add,e1,e2] using he)
  . have hb':c.I b:=hb
    obtain⟨h1,h2⟩:=hm.imm b hb'
    refine⟨by show b<(w.heap.push _).size;simp;omega,λr x hr hv=> ?_⟩
    by_cases e:r=k
    . simp only[Ctx.add,e,if_true];omega
    . simpa [Ctx.add,e] using h2 r x (by simpa [Ctx.add,e] using hr) (by simpa [Ctx.add,e] using hv)
theorem RowIn.get{c:Ctx}{w:World}{r:Nat}{row:Row}(h:RowIn c w r row){i off n:Nat}(hi:i<row.es.l.length)(hn:off+n<=row.sz):
   ∃arr,w.heap[c.ρ r]? =some (.cells arr row.ty (0,0))/\ ∀j,j<n-> ∃v,arr[i*row.sz+off+j]? =some v/\XRep (!row.box) c w ((row.es.l.getD i []).getD (off+j) .dead) v:=by
 obtain⟨arr,ha,hs,hx⟩:=h
 refine⟨arr,ha,λj hj=> ?_⟩
 cases hb:row.box with
 | true=>
   simp only[hb,if_true]at hx
   obtain⟨e,h1,h2,h3,h4⟩:=hx
   have hi0:i=0:=by rw[h1]at hi;simpa [Els.l] using hi
   subst hi0
   obtain⟨v,hv,hp⟩:=Z88 h4 (j:=off+j) (by omega)
   exact⟨v,by simpa using hv,by simpa [XRep,h1,Els.l] using hp⟩
 | false=>
   simp only[hb,if_false,Bool.false_eq_true]at hx
   obtain⟨h1,h2⟩:=Qx0 hx hi
   obtain⟨v,hv,hp⟩:=Qvs h2 (j:=off+j) (by omega)
   exact⟨v,by simpa [Nat.add_assoc] using hv,by simpa [XRep] using hp⟩
theorem Z0f: ∀{e:List D} {len off n:Nat},n<len->(ints e off len).getD n 0=(e.getD (off+n) .dead).toInt
 |e,len+1,off,0,_=>by simp [ints]
 | e,len+1,off,n+1,h=>by
   have:=Z0f (e:=e) (len:=len) (off:=off+1) (n:=n) (by omega)
   rw[show off+1+n=off+(n+1) by omega]at this
   simpa [ints] using this
theorem Qv2: ∀{e:List D} {len off n:Nat},n<len->(bools e off len).getD n false=(e.getD (off+n) .dead).toBool
 |e,len+1,off,0,_=>by simp [bools]
 | e,len+1,off,n+1,h=>by
   have:=Qv2 (e:=e) (len:=len) (off:=off+1) (n:=n) (by omega)
   rw[show off+1+n=off+(n+1) by omega]at this
   simpa [bools] using this
theorem Qqf{k:IntKind}: ∀{e:List D} {len off n:Nat},Qyz k e off len=true->n<len->(e.getD (off+n) .dead).isInt k=true
 |e,len+1,off,0,h,_=>by simp only[Qyz,aE]at h;exact h.1
 | e,len+1,off,n+1,h,hn=>by
   simp only[Qyz,aE]at h
   have:=Qqf h.2 (n:=n) (by omega)
   rwa [show off+1+n=off+(n+1) by omega]at this
theorem Qn7: ∀{e:List D} {len off n:Nat},Qp6 e off len=true->n<len->(e.getD (off+n) .dead).isBool=true
 |e,len+1,off,0,h,_=>by simp only[Qp6,aE]at h;exact h.1
 | e,len+1,off,n+1,h,hn=>by
   simp only[Qp6,aE]at h
   have:=Qn7 h.2 (n:=n) (by omega)
   rwa [show off+1+n=off+(n+1) by omega]at this
theorem D.isInt_eq{k:IntKind}{d:D}(h:d.isInt k=true):d= .int k d.toInt:=by
 cases d<;>simp [D.isInt]at h
 subst h;rfl
theorem D.isBool_eq{d:D}(h:d.isBool=true):d= .bool d.toBool:=by
 cases d<;>simp [D.isBool]at h
 rfl
theorem XRep.int{pl:Bool}{c:Ctx}{w:World}{k:IntKind}{n:Int}{v:Value}(h:XRep pl c w (.int k n) v):v= .int k n:=by
 cases pl<;>simpa [XRep,Q4o,Q72,Q6v,Q4q,Q4j,Q7a,Qbm,Q8e,Q8s,Q89,Qcm,Q62,Q67,Q66,Q8m,Q8b,CRep] using h
theorem XRep.bool{pl:Bool}{c:Ctx}{w:World}{b:Bool}{v:Value}(h:XRep pl c w (.bool b) v):v= .bool b:=by
 cases pl<;>simpa [XRep,Q4o,Q72,Q6v,Q4q,Q4j,Q7a,Qbm,Q8e,Q8s,Q89,Qcm,Q62,Q67,Q66,Q8m,Q8b,CRep] using h
theorem Z0q{P:Program}{t:TypeId}{ti:TI}(ht:tiOf P t=some ti)(hk:(ti.kind.isAgg||match ti.kind with| .other=>true|_=>false)=false):ti.size=1:=by
 obtain⟨_,_,_,_,hl,hk1,_,_,hc,_⟩:=Qc4 ht
 rw[<-hl,hc]
 rw[hk1]at hk
 unfold Qyr at hk
 unfold Q6e
 split at hk<;>first|rfl|(simp [TK.isAgg]at hk)
theorem Qpy{P:Program}{t:TypeId}{w:World}{a:Addr}:(Instr.loadAt t (.pointer (some a))).run P w=(loadVar t a).run P w:=by
 simp [Instr.loadAt,Instr.sureAddr]
theorem Zgd{P:Program}{T:Tab}(hT:Q52 P T){t:TypeId}{x:D}{R:Rows}{K:D->Rows->Prop}(h:Qko T t x R K):
    ∃val,K val R/\ ∀c w v,Mem c w->Q7p c R->Rep c w x v-> ∃u,(Instr.loadAt t v).run P w= .ok u w/\Rep c w val u:=by
  unfold Qko at h
  cases ht:T.get t with
  |none=>simp only[ht]at h
  | some ti=>
    simp only[ht]at h
    have hti:=hT.get ht
    obtain⟨i0,hi0,hs0,_,hl0,hk0,_⟩:=Qc4 hti
    cases x<;>simp only at h
    case ptr r i off=>
      cases hR:R.getD r none with
      |none=>simp only[hR]at h
      | some row=>
        obtain⟨box,ty,sz,es⟩:=row
        simp only[hR,Q08]at h
        obtain⟨hle,h⟩:=h
        have hle:=lE hle
        obtain⟨val,hK,hagg,hr⟩:=Zeb hl0 h
        refine⟨val,hK,λc w v hm hA hv=> ?_⟩
        obtain⟨row,h1,hV,h2,h3⟩:=hv
        have hrow:=hA r row _ h1 hR
        subst hrow
        obtain⟨arr,ha,hx⟩:=(hm.real h1 hV).get h2 hle
        simp only[Els.get_l es (show i<es.len by simpa using h2)]at hx
        subst h3
        refine⟨_,Qpy.trans (Ql5 hti ha (λj hj=>by obtain⟨v,hv,_⟩:=hx j hj;exact⟨v,hv⟩) hagg),hr c w arr _ hx⟩
    case pa r i off len k n=>
      cases hR:R.getD r none with
      |none=>simp only[hR]at h
      | some row=>
        obtain⟨box,ty,sz,es⟩:=row
        simp only[hR,Q08]at h
        obtain⟨hle,h⟩:=h
        have hle:=lE hle
        have one:(ti.kind.isAgg=false)->ti.size=1-> ∀c w v,Mem c w->Q7p c R->Rep c w (.pa r i off len k n) v-> ∃u,(Instr.loadAt t v).run P w= .ok u w/\XRep (!box) c w ((es.get i).getD (off+n) .dead) u/\n<len:=by
          intro hag hsz c w v hm hA hv
          obtain⟨hn,row,h1,hV,h2,h3⟩:=hv
          have hrow:=hA r row _ h1 hR
          subst hrow
          obtain⟨arr,ha,hx⟩:=(hm.real h1 hV).get h2 hle
          simp only[Els.get_l es (show i<es.len by simpa using h2)]at hx
          subst h3
          obtain⟨u,hu,hxr⟩:=hx n hn
          have hu':arr[i*sz+(off+n)]? =some u:=by rw[<-Nat.add_assoc];exact hu
          refine⟨u,?_,hxr,hn⟩
          rw[Qpy,Ql5 hti ha (λj hj=>⟨u,by rw[show j=0 by omega];exact hu'⟩) (.inr hsz),hag]
          simp [hu']
        split at h
        . rename_i j k' hk
          simp only[aE,decide_eq_true_eq]at h
          obtain⟨⟨rfl,hall⟩,h⟩:=h
          have hsz:ti.size=1:=Z0q hti (by rw[hk];simp [TK.isAgg])
          refine⟨_,h,λc w v hm hA hv=> ?_⟩
          obtain⟨u,hu,hxr,hn⟩:=one (by rw[hk];rfl) hsz c w v hm hA hv
          rw[D.isInt_eq (Qqf hall hn)]at hxr
          have:=XRep.int hxr
          subst this
          exact⟨_,hu,by simp only[Rep,VRep,CRep];rw[Z0f hn]⟩
        . rename_i hk
          obtain⟨hall,h⟩:=h
          have hsz:ti.size=1:=Z0q hti (by rw[hk];simp [TK.isAgg])
          refine⟨_,h,λc w v hm hA hv=> ?_⟩
          obtain⟨u,hu,hxr,hn⟩:=one (by rw[hk];rfl) hsz c w v hm hA hv
          rw[D.isBool_eq (Qn7 hall hn)]at hxr
          have:=XRep.bool hxr
          subst this
          exact⟨_,hu,by simp only[Rep,VRep,CRep];rw[Qv2 hn]⟩
        . exact h.elim
    case iptr sz es i off=>
      simp only[Q08]at h
      obtain⟨hle,h⟩:=h
      have hle:=lE hle
      obtain⟨val,hK,hagg,hr⟩:=Zeb hl0 h
      refine⟨val,hK,λc w v hm hA hv=> ?_⟩
      obtain⟨b,o,arr,ty,fz,h3,hI,hi,ha,hE⟩:=hv
      subst h3
      obtain⟨h1,h2⟩:=Qx0 hE hi
      rw[Els.get_l es (show i<es.len by simpa using hi)]at h1 h2
      have hx: ∀j,j<ti.size-> ∃v,arr[o+i*sz+off+j]? =some v/\XRep true c w ((es.get i).getD (off+j) .dead) v:=λj hj=>by
        obtain⟨v,hv,hp⟩:=Qvs h2 (j:=off+j) (by omega)
        exact⟨v,by rw[<-hv];congr 1;omega,hp⟩
      exact⟨_,Qpy.trans (Ql5 hti ha (λj hj=>by obtain⟨v,hv,_⟩:=hx j hj;exact⟨v,hv⟩) hagg),hr c w arr _ hx⟩
def Ctx.imm(c:Ctx)(b:Nat):Ctx:={c with I:=λx=>c.I x\/x=b,top:=max c.top (b+1)}
theorem Z0z{c:Ctx}{w:World}(hm:Mem c w)(o:Obj):Q3s c w (c.imm w.heap.size) (w.alloc o):=
 ⟨rfl,Nat.le_max_left _ _,λb hb=>⟨.inl hb,Q80 w o b (hm.imm b hb).1⟩,λr x hr=>⟨x,hr,rfl,rfl,rfl,rfl,rfl,Iff.rfl,λnv arr ha=>⟨arr,by rw[Q80 w o _ (hm.lt hr nv)];exact ha,rfl⟩⟩⟩
theorem zaH{c:Ctx}{w:World}(hm:Mem c w)(o:Obj):Mem (c.imm w.heap.size) (w.alloc o):=by
 refine⟨λr x hr=>Q3 (Z0z hm o) rfl Iff.rfl (λnv=>Q80 w _ _ (hm.lt hr nv)) (hm.row r x hr),hm.inj,λb hb=> ?_,?_⟩
 all_goals have hsz:(w.alloc o).heap.size=w.heap.size+1:=by show(w.heap.push o).size=_;simp
 rotate_left
 . have:=hm.top;rw[hsz];exact Nat.max_le.2 ⟨by omega,Nat.le_refl _⟩
 rcases hb with hb|hb
 . exact⟨by have:=(hm.imm b hb).1;omega,(hm.imm b hb).2⟩
 . subst hb
   exact⟨by omega,λr x hr v=>by have:=hm.lt hr v;show c.ρ r≠w.heap.size;omega⟩

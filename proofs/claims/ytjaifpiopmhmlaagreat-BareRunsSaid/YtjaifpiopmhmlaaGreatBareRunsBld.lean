import Derived.Test.YtjaifpiopmhmlaaGreatBareRunsMod
set_option linter.all false
namespace Go.GD
open Go
theorem Z73{I:Blocks}{w:World}{k:IntKind}: ∀{l:List Int} {arr:Array Value} {off:Nat},Q1k I w (Els.ints k l).l arr off 1-> ∀j x,l[j]? =some x->arr[off+j]? =some (.int k x)
 |[],_,_,_,j,x,h=>by simp at h
 | n ::l,arr,off,h,j,x,hx=>by
   have h':=Q1w.1 h
   obtain⟨_,h1,h2⟩:=h'
   obtain⟨⟨v,hv,hp⟩,_⟩:=Q5h.1 h1
   cases j with
   | zero=>
     have e:n=x:=by simpa using hx
     rw[Nat.add_zero,hv,Q5q.1 hp,e]
   | succ j=>
     have:=Z73 (l:=l) h2 j x (by simpa using hx)
     rw[show off+(j+1)=off+1+j by omega];exact this
theorem qa{I I':Blocks}{w w':World}{d:D}{v:Value}(hs:scal d)(h:PRep I w d v):PRep I' w' d v:=by
 cases h<;>first|exact hs.elim|constructor
theorem Z0n{I I':Blocks}{w w':World}: ∀{cs:List D} {arr:Array Value} {off:Nat},(∀d∈cs,scal d)->Qbo I w cs arr off->Qbo I' w' cs arr off
 |[],_,_,_,_=>Qa4.2 trivial
 | d::cs,arr,off,hs,h=>by
   obtain⟨⟨v,hv,hp⟩,hr⟩:=Q5h.1 h
   exact Q5h.2 ⟨⟨v,hv,qa (hs d (by simp)) hp⟩,Z0n (λe he=>hs e (by simp [he])) hr⟩
theorem Z2l{I I':Blocks}{w w':World}: ∀{es:List (List D)} {arr:Array Value} {off sz:Nat},(∀e∈es,∀d∈e,scal d)->Q1k I w es arr off sz->Q1k I' w' es arr off sz
 |[],_,_,_,_,_=>Q2p.2 trivial
 | e::es,arr,off,sz,hs,h=>by
   obtain⟨h1,h2,h3⟩:=Q1w.1 h
   exact Q1w.2 ⟨h1,Z0n (hs e (by simp)) h2,Z2l (λf hf=>hs f (by simp [hf])) h3⟩
theorem Zc5{P:Program}{f:FuncId}{ty u:TypeId}
    (h0: ∀(b:Nat) (w:World) (x:Value),w.heap[b]? =some (.cells #[.pointer none,x] ty (0,0))->Calls P f #[.pointer (some ⟨b,0,none⟩)] w λe w'=>e= .returned (.tuple #[])/\w'=w.setCell ⟨b,0,none⟩ (.pointer (some ⟨b,0,none⟩)))
    (h1: ∀(b:Nat) (w:World) (x:Value),w.heap[b]? =some (.cells #[.pointer (some ⟨b,0,none⟩),x] ty (0,0))->Calls P f #[.pointer (some ⟨b,0,none⟩)] w λe w'=>e= .returned (.tuple #[])/\w'=w)
    (E:Els):Q3w P f [.ptr 0 0 0] [⟨true,ty,2, .gen [[.selfp 0, .all 1]]⟩,⟨false,u,1,E⟩] (.tup []) [⟨true,ty,2, .gen [[.selfp 0, .all 1]]⟩,⟨false,u,1,E⟩]:=by
  intro c w vs hm hb hR ha
  match vs,ha with
  | [v],ha=>
    obtain⟨⟨row,g1,gV,g2,rfl⟩,_⟩:=ha
    have hr0:c.R 0=some ⟨true,ty,2, .gen [[.selfp 0, .all 1]]⟩:=by rw[hR];rfl
    obtain⟨arr,hh,_,hbox⟩:=hm.real hr0 gV
    simp only[if_true]at hbox
    obtain⟨e,k1,k2,k3,k4⟩:=hbox
    have he:[.selfp 0, .all 1]=e:=by injection k1 with k1;exact(List.cons.inj k1).1
    subst he
    obtain⟨⟨p,hp,hpr⟩,⟨x,hx,hxr⟩,_⟩:=k4
    have harr:arr= #[p,x]:=by
      apply Array.ext_getElem?
      intro i
      match i with
      |0=>simpa using hp
      |1=>simpa using hx
      |n+2=>rw[Array.getElem?_eq_none (by omega),Array.getElem?_eq_none (by simp)]
    subst harr
    simp only[Nat.zero_mul,Nat.add_zero]at hpr g1⊢
    have hrow:row.sz=2:=by rw[hr0]at g1;rw[<-Option.some.inj g1]
    rcases hpr with rfl|⟨row',r1,r2,r3,rfl⟩
    . refine(h0 _ w x hh).mono ?_
      rintro e w' ⟨rfl,rfl⟩
      have hset:w.setCell ⟨c.ρ 0,0,none⟩ (.pointer (some ⟨c.ρ 0,0,none⟩))=w.setRow (c.ρ 0) #[.pointer (some ⟨c.ρ 0,0,none⟩),x]:=by
        rw[setCell_eq_setRow w (c.ρ 0) 0 _ ty (0,0) _ hh];rfl
      rw[hset]
      obtain⟨hg,hw⟩:=hm.write (row':=⟨true,ty,2, .gen [[.selfp 0, .all 1]]⟩) (arr:= #[.pointer (some ⟨c.ρ 0,0,none⟩),x]) hr0 gV hh rfl rfl rfl rfl rfl
      have hm':=hw ⟨Nat.two_pos,by
        simp only[if_true]
        exact⟨_,rfl,rfl,rfl,⟨_,rfl, .inr ⟨⟨true,ty,2, .gen [[.selfp 0, .all 1]]⟩,by simp [Ctx.upd],gV,Nat.one_pos,rfl⟩⟩,⟨x,rfl,Qof hg hxr⟩,trivial⟩⟩
      refine⟨_,c.upd 0 ⟨true,ty,2, .gen [[.selfp 0, .all 1]]⟩,rfl,⟨hm',hg,(Qj8 w _ _).mono λb _ e=>⟨0,_,hr0,gV,e.symm⟩,λb hb=> .inl hb,λs row'' hs hv=> .inl ?_⟩,λr=> ?_,[],rfl,trivial⟩
      . by_cases e:s=0
        . subst e;exact⟨⟨_,hr0⟩,hv,rfl⟩
        . exact⟨⟨row'',by simpa [Ctx.upd,e] using hs⟩,hv,rfl⟩
      . simp only[Ctx.upd]
        by_cases e:r=0
        . subst e;rfl
        . rw[if_neg e,hR]
    . simp only[Nat.zero_mul,Nat.add_zero]at hh⊢
      refine(h1 _ w x hh).mono ?_
      rintro e w' ⟨rfl,rfl⟩
      exact⟨_,c,rfl,⟨hm,Q4e.refl _ _,Fr.refl _ _,λb hb=> .inl hb,λr row' hr hv=> .inl ⟨⟨row',hr⟩,hv,rfl⟩⟩,hR,[],rfl,trivial⟩
def Qcb(w:World)(g:Option Nat)(s:List UInt8)(e:Ending)(w':World):Prop:=
 e = .returned (.string ⟨s.toArray⟩)/\w'.os=w.os/\w'.tape=w.tape/\w'.output=w.output/\w.heap.size<=w'.heap.size/\(∀k,k<w.heap.size->g≠some k->w'.heap[k]? =w.heap[k]?)/\
   ∀k arr t fz,g=some k->w.heap[k]? =some (.cells arr t fz)-> ∃fz',w'.heap[k]? =some (.cells arr t fz')
theorem xa{P:Program}{f:FuncId}{ty u:TypeId}
    (h0: ∀(b:Nat) (w:World) (p:Value) (a:Option Addr),okA w.heap.size a->w.heap[b]? =some (.cells #[p, .slice a 0 0] ty (0,0))->Calls P f #[.pointer (some ⟨b,0,none⟩)] w (Qcb w none []))
    (h1: ∀(b g:Nat) (w:World) (p:Value) (cur:Array Value) (l:List Int),w.heap[b]? =some (.cells #[p, .slice (some ⟨g,0,none⟩) l.length cur.size] ty (0,0))->w.heap[g]? =some (.cells cur u (0,0))->l.length<=cur.size->cur.size<=maxLen->(∀(j:Nat) (x:Int),l[j]? =some x->cur[j]? =some (Value.int .u8 x))->
      Calls P f #[.pointer (some ⟨b,0,none⟩)] w (Qcb w (some g) (bytesOf l)))
    (l:List Int):Q9i P f 1 [.ptr 0 0 0] [⟨true,ty,2, .gen [[.selfp 0, .all 1]]⟩,⟨false,u,1, .ints .u8 l⟩] (.str (bytesOf l)) [⟨true,ty,2, .gen [[.selfp 0, .sl 1 (.ints .u8 l) false]]⟩]:=by
  intro c w vs hm hb hR ha
  match vs,ha with
  | [v], ha =>
    obtain⟨⟨row,g1,gV,g2,rfl⟩,_⟩:=ha
    have hr0:c.R 0=some ⟨true,ty,2, .gen [[.selfp 0, .all 1]]⟩:=by rw[hR];rfl
    have hr1:c.R 1=some ⟨false,u,1, .ints .u8 l⟩:=by rw[hR];rfl
    obtain⟨arr,hh,_,hbox⟩:=hm.real hr0 gV
    simp only[if_true]at hbox
    obtain⟨e,k1,k2,k3,k4⟩:=hbox
    have he:[.selfp 0, .all 1]=e:=by injection k1 with k1;exact(List.cons.inj k1).1
    subst he
    obtain⟨⟨p,hp,hpr⟩,⟨x,hx,hxr⟩,_⟩:=k4
    have harr:arr= #[p,x]:=by
      apply Array.ext_getElem?
      intro i
      match i with
      |0=>simpa using hp
      |1=>simpa using hx
      |n+2=>rw[Array.getElem?_eq_none (by omega),Array.getElem?_eq_none (by simp)]
    subst harr
    simp only[Nat.zero_mul,Nat.add_zero]at g1⊢
    have hrow:row.sz=2:=by rw[hr0]at g1;rw[<-Option.some.inj g1]
    have lt0:=hm.lt hr0 gV
    obtain⟨row1,q1,q2,hv⟩:=hxr
    have hrow1:row1=⟨false,u,1, .ints .u8 l⟩:=by rw[hr1]at q1;exact(Option.some.inj q1).symm
    subst hrow1
    have fin: ∀(g:Option Nat) (e:Ending) (w':World),Qcb w g (bytesOf l) e w'->(∀k,g=some k-> ¬c.V 1/\k=c.ρ 1)->(∀c':Ctx,(¬c.V 1->c'.I (c.ρ 1))->c'.base=0->CRep c' w' (.sl 1 (.ints .u8 l) false) x)->
        ∃v c',e= .returned v/\NxtK (List.range' 1 1) c w c' w'/\(∀r,c'.R r=([⟨true,ty,2, .gen [[.selfp 0, .sl 1 (.ints .u8 l) false]]⟩]:List Row)[r]?)/\Rep c' w' (.str (bytesOf l)) v:=by
      intro g e w' ⟨he,s1,s2,s3,s4,s5,s6⟩ hg hx'
      have hI: ∀b,c.I b->w'.heap[b]? =w.heap[b]? :=λb hb=>s5 b (hm.imm b hb).1 λe=>by
        obtain⟨nv,e2⟩:=hg b e
        exact(hm.imm b hb).2 1 _ hr1 nv e2.symm
      have h00:w'.heap[c.ρ 0]? =w.heap[c.ρ 0]? :=s5 _ lt0 λe=>by
        obtain⟨nv,e2⟩:=hg _ e
        exact absurd (hm.inj 0 1 _ _ hr0 hr1 gV nv e2) (by decide)
      refine⟨_,{c with R:=λr=>([⟨true,ty,2, .gen [[.selfp 0, .sl 1 (.ints .u8 l) false]]⟩]:List Row)[r]?,I:=λb=>c.I b\/(¬c.V 1/\b=c.ρ 1)},he,⟨⟨?_,?_,?_,?_⟩,⟨rfl,Nat.le_refl _,λb hb=>⟨.inl hb,hI b hb⟩,?_⟩,?_,?_,?_⟩,λr=>rfl,rfl⟩
      . intro r row hr
        match r with
        | 0 =>
          have hr:(⟨true,ty,2, .gen [[.selfp 0, .sl 1 (.ints .u8 l) false]]⟩:Row)=row:=by simpa using hr
          subst hr
          refine .inr ⟨gV, #[p,x],by rw[h00];exact hh,Nat.two_pos,?_⟩
          simp only[if_true]
          refine⟨_,rfl,rfl,rfl,⟨p,rfl,?_⟩,⟨x,rfl,hx' _ (λnv=> .inr ⟨nv,rfl⟩) hb⟩,trivial⟩
          rcases hpr with hp|⟨row',r1,r2,r3,hp⟩
          . exact .inl hp
          . refine .inr ⟨⟨true,ty,2, .gen [[.selfp 0, .sl 1 (.ints .u8 l) false]]⟩,rfl,gV,Nat.one_pos,?_⟩
            rw[hp];simp
        |r+1=>simp at hr
      . intro r s x y hr hs v1 v2 he
        match r,s with
        |0,0=>rfl
        |r+1,_=>simp at hr
        |0,s+1=>simp at hs
      . intro b hb
        rcases hb with hb|⟨nv,rfl⟩
        . refine⟨Nat.lt_of_lt_of_le (hm.imm b hb).1 s4,λr x hr v=> ?_⟩
          match r with
          |0=>exact(hm.imm b hb).2 0 _ hr0 gV
          |r+1=>simp at hr
        . refine⟨Nat.lt_of_lt_of_le (hm.lt hr1 nv) s4,λr x hr v=> ?_⟩
          match r with
          |0=>exact λe=>absurd (hm.inj 0 1 _ _ hr0 hr1 gV nv e) (by decide)
          |r+1=>simp at hr
      . exact Nat.le_trans hm.top s4
      . intro r row hr
        obtain⟨hk,row0,hr',rfl⟩:=Q4j hr
        match r with
        | 0=>
          have:(⟨true,ty,2, .gen [[.selfp 0, .all 1]]⟩:Row)=row0:=by rw[hr0]at hr';exact Option.some.inj hr'
          subst this
          exact⟨_,rfl,rfl,rfl,rfl,rfl,rfl,Iff.rfl,λ_ a ha=>⟨a,by show w'.heap[c.ρ 0]? =_;rw[h00];exact ha,rfl⟩⟩
        |1=>simp [memB]at hk
        |r+2=>rw[hR]at hr';simp at hr'
      . exact⟨s1,s2,s3,s4,λb hb hn=>s5 b hb λe=>by
          obtain⟨nv,e2⟩:=hg b e
          exact hn ⟨1,_,hr1,nv,e2.symm⟩⟩
      . intro b hb
        rcases hb with hb|⟨nv,rfl⟩
        . exact .inl hb
        . exact .inr (.inl ⟨1,_,by simp [memB],hr1,nv,rfl⟩)
      . intro r row' hr hv
        match r with
        |0=>exact .inl ⟨⟨_,hr0⟩,gV,rfl⟩
        |r+1=>simp at hr
    rcases hv with⟨hV,a,rfl,hoa⟩|⟨hV,cap,cur,rfl,c1,c2,c3,c4⟩
    . have hl:l=[]:=by have:=(hm.virt hr1 hV).2.1;simpa [Els.l] using this
      subst hl
      refine(h0 _ w p a (hoa.mono hm.top) hh).mono λe w' hp=>fin none e w' hp (λk e=>by cases e) λc' hi hb=> ?_
      exact⟨a,0,rfl,Nat.le_refl _, .inl rfl⟩
    . obtain⟨cur',ha',_,hE⟩:=hm.real hr1 hV
      simp only at ha' c1 c3 c4
      rw[c3]at ha';cases ha'
      simp only[Bool.false_eq_true,if_false]at hE
      have hl:(Els.ints IntKind.u8 l).l.length=l.length:=by simp [Els.l]
      rw[hl]at c1
      simp only[Nat.mul_one]at c4
      subst c4
      have hh':w.heap[c.ρ 0]? =some (.cells #[p, .slice (some ⟨c.ρ 1,0,none⟩) l.length cur.size] ty (0,0)):=by rw[<-hl];exact hh
      have hcell:=Z73 hE
      simp only[Nat.zero_add]at hcell
      refine(h1 _ _ w p cur l hh' c3 c1 c2 hcell).mono λe w' hp=>fin (some (c.ρ 1)) e w' hp (λk e=>⟨hV,(Option.some.inj e).symm⟩) λc' hi hb=> ?_
      obtain⟨fz',hz⟩:=hp.2.2.2.2.2.2 _ _ _ _ rfl c3
      refine⟨some ⟨c.ρ 1,0,none⟩,cur.size,by simp only[hl],by rw[hl];exact c1, .inr ⟨c.ρ 1,0,cur,u,fz',rfl,hi hV,(λe=>by cases e),hz,?_⟩⟩
      have pl: ∀e∈(Els.ints IntKind.u8 l).l,∀d∈e,scal d:=by
        intro e he d hd
        simp only[Els.l,List.mem_map]at he
        obtain⟨n,_,rfl⟩:=he
        simp only[List.mem_singleton]at hd
        subst hd;trivial
      exact Z2l pl hE
end Go.GD

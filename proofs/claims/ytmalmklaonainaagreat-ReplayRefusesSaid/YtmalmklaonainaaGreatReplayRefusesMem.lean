import Derived.Test.YtmalmklaonainaaGreatReplayRefusesVc
set_option linter.all false
namespace Go.GD
open Go
mutual
theorem Zn1{I I':Blocks}{w w':World}(h: ∀b arr ty fz,I b->w.heap[b]? =some (.cells arr ty fz)->I' b/\w'.heap[b]? =some (.cells arr ty fz)): ∀(d:D) (v:Value),PRep I w d v->PRep I' w' d v
 |_,_, .bool b=> .bool b
 |_,_, .int k n=> .int k n
 |_,_, .str s=> .str s
 |_,_, .nilp=> .nilp
 |_,_, .nils=> .nils
 |_,_, .emp a=> .emp a
 |_,_, .sl0 sz es fr a cap h0=> .sl0 sz es fr a cap h0
 |_,_, .sl1 sz es fr cap hc b off arr ty fz hI hh hE=> .sl1 sz es fr cap hc b off arr ty fz (h b arr ty fz hI hh).1 (h b arr ty fz hI hh).2 (Qdk h es.l arr off sz hE)
theorem Qxt{I I':Blocks}{w w':World}(h: ∀b arr ty fz,I b->w.heap[b]? =some (.cells arr ty fz)->I' b/\w'.heap[b]? =some (.cells arr ty fz)): ∀(cs:List D) (arr:Array Value) (off:Nat),Qev I w cs arr off->Qev I' w' cs arr off
 |_,_,_, .nil arr off=> .nil arr off
 |_,_,_, .cons c cs arr off v hv hp hr=> .cons c cs arr off v hv (Zn1 h c v hp) (Qxt h cs arr (off+1) hr)
theorem Qdk{I I':Blocks}{w w':World}(h: ∀b arr ty fz,I b->w.heap[b]? =some (.cells arr ty fz)->I' b/\w'.heap[b]? =some (.cells arr ty fz)): ∀(es:List (List D)) (arr:Array Value) (off sz:Nat),Q1r I w es arr off sz->Q1r I' w' es arr off sz
 |_,_,_,_, .nil arr off sz=> .nil arr off sz
 |_,_,_,_, .cons e es arr off sz hl hc hr=> .cons e es arr off sz hl (Qxt h e arr off hc) (Qdk h es arr (off+sz) sz hr)
end
theorem monoC{I I':Blocks}{w w':World}(h: ∀b,I b->I' b/\w'.heap[b]? =w.heap[b]?)(b:Nat)(arr:Array Value)(ty:TypeId)(fz:Nat×Nat)(hI:I b)(hh:w.heap[b]? =some (.cells arr ty fz)):I' b/\w'.heap[b]? =some (.cells arr ty fz):=⟨(h b hI).1,(h b hI).2.trans hh⟩
theorem Q1m{I I':Blocks}{w w':World}(h: ∀b,I b->I' b/\w'.heap[b]? =w.heap[b]?)(es:List (List D))(arr:Array Value)(off sz:Nat)(hp:Q1r I w es arr off sz):Q1r I' w' es arr off sz:=Qdk (monoC h) es arr off sz hp
structure Q3s(c:Ctx)(w:World)(c':Ctx)(w':World):Prop where
 base:c'.base=c.base
 top:c.top<=c'.top
 I: ∀b,c.I b->c'.I b/\w'.heap[b]? =w.heap[b]?
 R : ∀r row,c.R r=some row-> ∃row',c'.R r=some row'/\row'.box=row.box/\row'.ty=row.ty/\row'.sz=row.sz/\row'.es.l.length=row.es.l.length/\c'.ρ r=c.ρ r/\(c'.V r↔c.V r)/\
   (¬c.V r-> ∀arr,w.heap[c.ρ r]? =some (.cells arr row.ty (0,0))-> ∃arr',w'.heap[c.ρ r]? =some (.cells arr' row.ty (0,0))/\arr'.size=arr.size)
structure Z14(c:Ctx)(w:World)(c':Ctx)(w':World):Prop where
 base:c'.base=c.base
 top:c.top<=c'.top
 I: ∀b arr ty fz,c.I b->w.heap[b]? =some (.cells arr ty fz)->c'.I b/\w'.heap[b]? =some (.cells arr ty fz)
 R : ∀r row,c.R r=some row-> ∃row',c'.R r=some row'/\row'.box=row.box/\row'.ty=row.ty/\row'.sz=row.sz/\row'.es.l.length=row.es.l.length/\c'.ρ r=c.ρ r/\(c'.V r↔c.V r)/\
   (¬c.V r-> ∀arr,w.heap[c.ρ r]? =some (.cells arr row.ty (0,0))-> ∃arr',w'.heap[c.ρ r]? =some (.cells arr' row.ty (0,0))/\arr'.size=arr.size)
theorem Q3s.to0{c c':Ctx}{w w':World}(h:Q3s c w c' w'):Z14 c w c' w':=⟨h.base,h.top,monoC h.I,h.R⟩
theorem Qqc{c c':Ctx}{w w':World}(h: ∀b,c.I b->c'.I b/\w'.heap[b]? =w.heap[b]?){f:Nat}{us:List Value}{v:Value}(hf:FnV c w f us v):FnV c' w' f us v:=by
 rcases hf with hf|⟨h1,l,rec,h2,h3,h4,h5⟩
 . exact .inl hf
 . exact .inr ⟨h1,l,rec,h2,(h l h3).1,(h l h3).2.trans h4,h5⟩
theorem Q3s.refl(c:Ctx)(w:World):Q3s c w c w:=
 ⟨rfl,Nat.le_refl _,λ_ h=>⟨h,rfl⟩,λ_ row h=>⟨row,h,rfl,rfl,rfl,rfl,rfl,Iff.rfl,λ_ arr h=>⟨arr,h,rfl⟩⟩⟩
theorem Q3s.trans{c c' c'':Ctx}{w w' w'':World}(h:Q3s c w c' w')(g:Q3s c' w' c'' w''):Q3s c w c'' w'':=by
 refine⟨g.base.trans h.base,Nat.le_trans h.top g.top,λb hb=>⟨(g.I b (h.I b hb).1).1,(g.I b (h.I b hb).1).2.trans (h.I b hb).2⟩,λr row hr=> ?_⟩
 obtain⟨row',h1,h2,h3,h4,h5,h6,hV,h7⟩:=h.R r row hr
 obtain⟨row'',g1,g2,g3,g4,g5,g6,gV,g7⟩:=g.R r row' h1
 refine⟨row'',g1,g2.trans h2,g3.trans h3,g4.trans h4,g5.trans h5,g6.trans h6,gV.trans hV,λnv arr ha=> ?_⟩
 obtain⟨arr',ha',hs⟩:=h7 nv arr ha
 obtain⟨arr'',ha'',hs'⟩:=g7 (λe=>nv (hV.1 e)) arr' (by rw[h6,h3];exact ha')
 exact⟨arr'',by rw[h6,h3]at ha'';exact ha'',hs'.trans hs⟩
theorem Qvh{c c':Ctx}{w w':World}(h:Z14 c w c' w'): ∀{d:D} {v:Value},(∀f cs,d≠ .clo f cs)->CRep c w d v->CRep c' w' d v:=by
 intro d v hne hd
 cases d with
 | sl sz es fr=>
   simp only[CRep]at hd⊢
   obtain⟨a,cap,hv,hc,hes⟩:=hd
   refine⟨a,cap,hv,hc,?_⟩
   rcases hes with hes|⟨b,off,arr,ty,fz,ha,hI,hf,hh,hE⟩
   . exact .inl hes
   . exact .inr ⟨b,off,arr,ty,fz,ha,(h.I b arr ty fz hI hh).1,λe=>by rw[h.base];exact hf e,(h.I b arr ty fz hI hh).2,Qdk h.I _ arr off sz hE⟩
 | all r=>
   simp only[CRep]at hd⊢
   obtain⟨row,hr,hb,hd⟩:=hd
   obtain⟨row',g1,g2,g3,g4,g5,g6,gV,g7⟩:=h.R r row hr
   refine⟨row',g1,g2.trans hb,?_⟩
   rcases hd with⟨hV,hv⟩|⟨hV,cap,arr,hv,h1,h2,h3,h4⟩
   . obtain⟨a,hv,ho⟩:=hv
     exact .inl ⟨gV.2 hV,a,hv,ho.mono h.top⟩
   . obtain⟨arr',ha',hs⟩:=g7 hV arr h3
     exact .inr ⟨λe=>hV (gV.1 e),cap,arr',by rw[hv,g5,g6],by rw[g5];exact h1,h2,by rw[g6,g3];exact ha',by rw[g4,hs];exact h4⟩
 | emp=>
   obtain⟨a,hv,ho⟩:=hd
   exact⟨a,hv,ho.mono h.top⟩
 | own r o n=>
   simp only[CRep]at hd⊢
   obtain⟨row,hr,hb,ho,hd⟩:=hd
   obtain⟨row',g1,g2,g3,g4,g5,g6,gV,g7⟩:=h.R r row hr
   refine⟨row',g1,g2.trans hb,by rw[g5];exact ho,?_⟩
   rcases hd with⟨h0,a,hv,ho'⟩|⟨hV,cap,arr,h1,h2,h3,h4,h5⟩
   . exact .inl ⟨h0,a,hv,ho'.mono h.top gV g6⟩
   . obtain⟨arr',ha',hs⟩:=g7 hV arr h3
     exact .inr ⟨λe=>hV (gV.1 e),cap,arr',h1,h2,by rw[g6,g3];exact ha',by rw[g4,g6];exact h4,by rw[g4,hs];exact h5⟩
 | ptr r i off=>
   simp only[CRep]at hd⊢
   obtain⟨row,hr,hV,hi,hv⟩:=hd
   obtain⟨row',g1,g2,g3,g4,g5,g6,gV,g7⟩:=h.R r row hr
   exact⟨row',g1,λe=>hV (gV.1 e),by rw[g5];exact hi,by rw[hv,g6,g4]⟩
 | pa r i off len k n=>
   simp only[CRep]at hd⊢
   obtain⟨hn,row,hr,hV,hi,hv⟩:=hd
   obtain⟨row',g1,g2,g3,g4,g5,g6,gV,g7⟩:=h.R r row hr
   exact⟨hn,row',g1,λe=>hV (gV.1 e),by rw[g5];exact hi,by rw[hv,g6,g4]⟩
 | iptr sz es i off=>
   simp only[CRep]at hd⊢
   obtain⟨b,o,arr,ty,fz,hv,hI,hi,hh,hE⟩:=hd
   exact⟨b,o,arr,ty,fz,hv,(h.I b arr ty fz hI hh).1,hi,(h.I b arr ty fz hI hh).2,Qdk h.I _ arr o sz hE⟩
 | selfp r=>
   rcases hd with hd|⟨row,hr,hV,hi,hv⟩
   . exact .inl hd
   . obtain⟨row',g1,g2,g3,g4,g5,g6,gV,g7⟩:=h.R r row hr
     exact .inr ⟨row',g1,λe=>hV (gV.1 e),by rw[g5];exact hi,by rw[hv,g6,g4]⟩
 |clo f cs=>exact absurd rfl (hne f cs)
 |_=>exact hd
theorem Z89{c c':Ctx}{w w':World}(h:Q3s c w c' w'){d:D}{v:Value}(hne: ∀f cs,d≠ .clo f cs)(hd:CRep c w d v):CRep c' w' d v:=Qvh h.to0 hne hd
theorem Zam{c c':Ctx}{w w':World}{S:Nat->Prop}{f:Nat->Nat}{keep:Bool}{Fk:Nat->Prop}(g: ∀d v,(∀f cs,d≠ .clo f cs)->(∀r∈Q8x d,S r)->CRep c w d v->CRep c' w' (d.ren1 f keep) v)(gF: ∀k ws v,Fk k->FnV c w k ws v->FnV c' w' k ws v):
    ∀{cs:List Cap} {us:List Value},(∀k ps,Cap.fn k ps∈cs->Fk k)->(∀r∈capL cs,S r)->Q6g c w cs us->Q6g c' w' (cs.map (Cap.ren f keep)) us
  |[],[],_,_,_=>trivial
  | x ::cs,u::us,hF,hS,⟨h1,h2⟩=>by
    refine⟨?_,Zam g gF (λk ps hm=>hF k ps (by simp [hm])) (λr hr=>hS r (by simp [capL,hr])) h2⟩
    have hS1: ∀r∈capL1 x,S r:=λr hr=>hS r (by simp [capL,hr])
    cases x with
    | fn k ps=>
      obtain⟨ws,hv,hw⟩:=h1
      refine⟨ws,gF k ws u (hF k ps (by simp)) hv,?_⟩
      have hS2: ∀p∈ps,S p.1:=λp hp=>hS1 _ (by simp only[capL1,List.mem_map];exact⟨p,hp,rfl⟩)
      clear hv hS1 hS h2 hF
      induction ps generalizing ws with
      |nil=>cases ws<;>exact hw
      | cons p ps ih=>
        cases ws with
        |nil=>exact hw.elim
        |cons v ws=>exact⟨g (.ptr p.1 p.2.1 p.2.2) v (λ_ _ e=>by cases e) (λr hr=>by simp [Q8x]at hr;subst hr;exact hS2 p (by simp)) hw.1,ih ws hw.2 (λq hq=>hS2 q (by simp [hq]))⟩
    |ptr r i off=>exact g (.ptr r i off) u (λ_ _ e=>by cases e) hS1 h1
    |int k n=>exact h1
    |arr r=>exact g (.all r) u (λ_ _ e=>by cases e) hS1 h1
    |sl a b fr=>exact g (.sl a b fr) u (λ_ _ e=>by cases e) (λr hr=>by simp [Q8x]at hr) h1
  |[],_::_,_,_,h=>h.elim
  |_::_,[],_,_,h=>h.elim
theorem qw{d:D}(h: ∀f cs,d≠ .clo f cs):d.ren1 (λr=>r) true=d:=by cases d<;>first|(simp [D.ren1];done)|exact absurd rfl (h _ _)
theorem Z3i: ∀{cs:List Cap},cs.map (Cap.ren (λr=>r) true)=cs
 |[]=>rfl
 | x::l=>by
   simp only[List.map_cons,Z3i (cs:=l)]
   congr 1
   cases x<;>simp [Cap.ren]
theorem Z7u{c c':Ctx}{w w':World}{S:Nat->Prop}{Fk:Nat->Prop}(g: ∀d v,(∀f cs,d≠ .clo f cs)->(∀r∈Q8x d,S r)->CRep c w d v->CRep c' w' d v)(gF: ∀k ws v,Fk k->FnV c w k ws v->FnV c' w' k ws v){cs:List Cap}{us:List Value}(hF: ∀k ps,Cap.fn k ps∈cs->Fk k)(hS: ∀r∈capL cs,S r)(h:Q6g c w cs us):Q6g c' w' cs us:=by
 have:=Zam (f:=λr=>r) (keep:=true) (λd v h1 h2 h3=>by rw[qw h1];exact g d v h1 h2 h3) gF hF hS h
 rwa [Z3i]at this
theorem Z30{c c':Ctx}{w w':World}{S:Nat->Prop}(g: ∀d v,(∀f cs,d≠ .clo f cs)->(∀r∈Q8x d,S r)->CRep c w d v->CRep c' w' d v)(gF: ∀b,c.I b->c'.I b/\w'.heap[b]? =w.heap[b]?){cs:List Cap}{us:List Value}(hS: ∀r∈capL cs,S r)(h:Q6g c w cs us):Q6g c' w' cs us:=
 Z7u (Fk:=λ_=>True) g (λ_ _ _ _=>Qqc gF) (λ_ _ _=>trivial) hS h
theorem Qtk{c c':Ctx}{w w':World}(h:Q3s c w c' w'){d:D}{v:Value}(hd:CRep c w d v):CRep c' w' d v:=by
 by_cases e: ∃f cs,d= .clo f cs
 . obtain⟨f,cs,rfl⟩:=e
   obtain⟨us,hv,hu⟩:=hd
   exact⟨us,Qqc h.I hv,Z30 (S:=λ_=>True) (λd v h1 _ h2=>Z89 h h1 h2) h.I (λ_ _=>trivial) hu⟩
 . exact Z89 h (λf cs e'=>e ⟨f,cs,e'⟩) hd
theorem Qt6{l:List Nat}(h:noYs l=true){k:Nat}(hk:k∈l):k<YB:=lE (List.all_eq_true.1 h k hk)
theorem Zl9: ∀{cs:List Cap} {k:Nat} {ps:List (Nat×Nat×Nat)},Cap.fn k ps∈cs->k∈fnsC cs
 | x ::l,k,ps,hm=>by
   rcases List.mem_cons.1 hm with e|e
   . subst e;simp [fnsC]
   . have:=Zl9 e
     cases x<;>simp [fnsC,this]
 |[],_,_,hm=>by simp at hm
section
variable {c c':Ctx} {w w':World} (h:Z14 c w c' w') {Fk:Nat->Prop} (gF: ∀k ws v,Fk k->FnV c w k ws v->FnV c' w' k ws v)
include h gF
theorem Z3g{d:D}{v:Value}(hn: ∀k∈fns1 d,Fk k)(hd:CRep c w d v):CRep c' w' d v:=by
 by_cases e: ∃f cs,d= .clo f cs
 . obtain⟨f,cs,rfl⟩:=e
   obtain⟨us,hv,hu⟩:=hd
   exact⟨us,gF _ _ _ (hn f (by simp [fns1])) hv,Z7u (S:=λ_=>True) (Fk:=Fk) (λd v h1 _ h2=>Qvh h h1 h2) gF (λk ps hm=>hn k (by simp [fns1,Zl9 hm])) (λ_ _=>trivial) hu⟩
 . exact Qvh h (λf cs e'=>e ⟨f,cs,e'⟩) hd
theorem Z8b: ∀{ds:List D} {vs:List Value},(∀k∈fnsL ds,Fk k)->Q3v c w ds vs->Q3v c' w' ds vs
 |[],[],_,_=>trivial
 |_::_,_::_,hn,⟨h1,h2⟩=>⟨Z3g h gF (λk hk=>hn k (by simp [fnsL,hk])) h1,Z8b (λk hk=>hn k (by simp [fnsL,hk])) h2⟩
 |[],_::_,_,h=>h.elim
 |_::_,[],_,h=>h.elim
theorem Zes{d:D}{v:Value}(hn: ∀k∈fnsD d,Fk k)(hd:VRep c w d v):VRep c' w' d v:=by
 cases d with
 |agg cs=>obtain⟨vs,hv,hr⟩:=hd;exact⟨vs,hv,Z8b h gF hn hr⟩
 |_=>simp only[VRep]at hd⊢;exact Z3g h gF hn hd
theorem Qwe: ∀{ds:List D} {vs:List Value},(∀k∈fnsT ds,Fk k)->Q8a c w ds vs->Q8a c' w' ds vs
 |[],[],_,_=>trivial
 |_::_,_::_,hn,⟨h1,h2⟩=>⟨Zes h gF (λk hk=>hn k (by simp [fnsT,hk])) h1,Qwe (λk hk=>hn k (by simp [fnsT,hk])) h2⟩
 |[],_::_,_,h=>h.elim
 |_::_,[],_,h=>h.elim
theorem Zkn{d:D}{v:Value}(hn: ∀k∈fnsV d,Fk k)(hd:Rep c w d v):Rep c' w' d v:=by
 cases d with
 |tup ds=>obtain⟨vs,hv,hr⟩:=hd;exact⟨vs,hv,Qwe h gF hn hr⟩
 |dead=>trivial
 |_=>simp only[Rep]at hd⊢;exact Zes h gF hn hd
theorem Z1w: ∀{ds:List D} {arr:Array Value} {off:Nat},(∀k∈fnsL ds,Fk k)->Q4g c w ds arr off->Q4g c' w' ds arr off
 |[],_,_,_,_=>trivial
 |_::_,_,_,hn,⟨⟨v,hv,h1⟩,h2⟩=>⟨⟨v,hv,Z3g h gF (λk hk=>hn k (by simp [fnsL,hk])) h1⟩,Z1w (λk hk=>hn k (by simp [fnsL,hk])) h2⟩
end
theorem Z86{c c':Ctx}{w w':World}(h:Q3s c w c' w'): ∀{ds:List D} {vs:List Value},Q3v c w ds vs->Q3v c' w' ds vs
 |[],[],_=>trivial
 |_::_,_::_,⟨h1,h2⟩=>⟨Qtk h h1,Z86 h h2⟩
theorem Zf0{c c':Ctx}{w w':World}(h:Q3s c w c' w'): ∀{d:D} {v:Value},VRep c w d v->VRep c' w' d v:=by
 intro d v hd
 cases d with
 |agg cs=>obtain⟨vs,hv,hr⟩:=hd;exact⟨vs,hv,Z86 h hr⟩
 |_=>simp only[VRep]at hd⊢;exact Qtk h hd
theorem Qwo{c c':Ctx}{w w':World}(h:Q3s c w c' w'): ∀{ds:List D} {vs:List Value},Q8a c w ds vs->Q8a c' w' ds vs
 |[],[],_=>trivial
 |_::_,_::_,⟨h1,h2⟩=>⟨Zf0 h h1,Qwo h h2⟩
theorem Qb4{c c':Ctx}{w w':World}(h:Q3s c w c' w'): ∀{d:D} {v:Value},Rep c w d v->Rep c' w' d v:=by
 intro d v hd
 cases d with
 |tup ds=>obtain⟨vs,hv,hr⟩:=hd;exact⟨vs,hv,Qwo h hr⟩
 |dead=>trivial
 |_=>simp only[Rep]at hd⊢;exact Zf0 h hd
theorem Qju{c c':Ctx}{w w':World}(h:Q3s c w c' w'): ∀{ds:List D} {arr:Array Value} {off:Nat},Q4g c w ds arr off->Q4g c' w' ds arr off
 |[],_,_,_=>trivial
 |_::_,_,_,⟨⟨v,hv,h1⟩,h2⟩=>⟨⟨v,hv,Qtk h h1⟩,Qju h h2⟩
structure Mem(c:Ctx)(w:World):Prop where
 row: ∀r row,c.R r=some row->Quy c w r row
 inj: ∀r s x y,c.R r=some x->c.R s=some y-> ¬c.V r-> ¬c.V s->c.ρ r=c.ρ s->r=s
 imm: ∀b,c.I b->b<w.heap.size/\ ∀r x,c.R r=some x-> ¬c.V r->c.ρ r≠b
 top:c.top<=w.heap.size
theorem Z9n{c:Ctx}{w w':World}{I:Blocks}(hm:Mem c w)(h:Z14 c w {c with I:=I} w')(hh: ∀r x,c.R r=some x-> ¬c.V r->w'.heap[c.ρ r]? =w.heap[c.ρ r]?){Fk:Nat->Prop}(gF: ∀k ws v,Fk k->FnV c w k ws v->FnV {c with I:=I} w' k ws v)
   (hn: ∀r x,c.R r=some x-> ∀k∈fnsR [x],Fk k) (hI: ∀b,I b->b<w'.heap.size/\ ∀r x,c.R r=some x-> ¬c.V r->c.ρ r≠b) (hs:w.heap.size<=w'.heap.size):Mem {c with I:=I} w':=by
 refine⟨λr row hr=> ?_,hm.inj,λb hb=>hI b hb,Nat.le_trans hm.top hs⟩
 rcases hm.row r row hr with g|⟨g0,arr,g1,g2,g3⟩
 . exact .inl g
 . refine .inr ⟨g0,arr,(hh r row hr g0).trans g1,g2,?_⟩
   split at g3
   . rename_i hb
     rw[if_pos hb]
     obtain⟨e,k1,k2,k3,k4⟩:=g3
     refine⟨e,k1,k2,k3,Z1w h gF (λk hk=>hn r row hr k ?_) k4⟩
     obtain⟨bx,ty,sz,es⟩:=row
     simp only at hb k1
     subst hb;subst k1
     simpa [fnsR] using hk
   . rename_i hb
     rw[if_neg hb]
     exact Qdk h.I _ _ _ _ g3
theorem Mem.real{c:Ctx}{w:World}(h:Mem c w){r:Nat}{row:Row}(hr:c.R r=some row)(hV: ¬c.V r):RowIn c w r row:=by
 rcases h.row r row hr with h1|h1
 . exact(hV h1.1).elim
 . exact h1.2
theorem Mem.virt{c:Ctx}{w:World}(h:Mem c w){r:Nat}{row:Row}(hr:c.R r=some row)(hV:c.V r):row.box=false/\row.es.l=[]/\0<row.sz:=by
 rcases h.row r row hr with h1|h1
 . exact h1.2
 . exact(h1.1 hV).elim
theorem Mem.lt{c:Ctx}{w:World}(h:Mem c w){r:Nat}{row:Row}(hr:c.R r=some row)(hV: ¬c.V r):c.ρ r<w.heap.size:=by
 obtain⟨arr,ha,_⟩:=h.real hr hV
 by_cases hlt:c.ρ r<w.heap.size
 . exact hlt
 . rw[Array.getElem?_eq_none (by omega)]at ha;cases ha
structure Fr(X:Blocks)(w w':World):Prop where
 os:w'.os=w.os
 tape:w'.tape=w.tape
 output:w'.output=w.output
 size:w.heap.size<=w'.heap.size
 heap: ∀b,b<w.heap.size-> ¬X b->w'.heap[b]? =w.heap[b]?
theorem Fr.refl(X:Blocks)(w:World):Fr X w w:=⟨rfl,rfl,rfl,Nat.le_refl _,λ_ _ _=>rfl⟩
theorem Fr.trans{X:Blocks}{w w' w'':World}(h:Fr X w w')(g:Fr X w' w''):Fr X w w'':=
 ⟨g.os.trans h.os,g.tape.trans h.tape,g.output.trans h.output,Nat.le_trans h.size g.size,λb hb hx=>(g.heap b (Nat.lt_of_lt_of_le hb h.size) hx).trans (h.heap b hb hx)⟩
theorem Fr.mono{X Y:Blocks}{w w':World}(h:Fr X w w')(hxy: ∀b,b<w.heap.size->X b->Y b):Fr Y w w':=
 ⟨h.os,h.tape,h.output,h.size,λb hb hy=>h.heap b hb λhx=>hy (hxy b hb hx)⟩

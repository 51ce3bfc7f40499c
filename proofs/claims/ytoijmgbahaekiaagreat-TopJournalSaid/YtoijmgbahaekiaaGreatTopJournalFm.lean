import Derived.Test.YtoijmgbahaekiaaGreatTopJournalVc
open Nat renaming le_refl->aO,le_trans->bI,beq->bV,lt_of_succ_lt_succ->fN,add_assoc->fO
open List renaming map_cons->eJ,length_cons->cZ
open Bool renaming false_eq_true->aN
set_option linter.all false
namespace Go.GD
open Go
mutual
theorem Zam{I I':Blocks}{w w':World}(h:∀b arr ty fz,I b->w.heap[b]?=some (.cells arr ty fz)->I' b/\w'.heap[b]?=some (.cells arr ty fz)):∀(d:D) (v:Value),PRep I w d v->PRep I' w' d v
 |_,_,.bool b=>.bool b
 |_,_,.int k n=>.int k n
 |_,_,.str s=>.str s
 |_,_,.nilp=>.nilp
 |_,_,.nils=>.nils
 |_,_,.emp a=>.emp a
 |_,_,.sl0 sz es fr a cap h0=>.sl0 sz es fr a cap h0
 |_,_,.sl1 sz es fr cap hc b off arr ty fz hI hh hE=>.sl1 sz es fr cap hc b off arr ty fz (h b arr ty fz hI hh).1 (h b arr ty fz hI hh).2 (Q9v h es.l arr off sz hE)
theorem Qjv{I I':Blocks}{w w':World}(h:∀b arr ty fz,I b->w.heap[b]?=some (.cells arr ty fz)->I' b/\w'.heap[b]?=some (.cells arr ty fz)):∀(cs:List D) (arr:Array Value) (off:Nat),Q8i I w cs arr off->Q8i I' w' cs arr off
 |_,_,_,.nil arr off=>.nil arr off
 |_,_,_,.cons c cs arr off v hv hp hr=>.cons c cs arr off v hv (Zam h c v hp) (Qjv h cs arr (off+1) hr)
theorem Q9v{I I':Blocks}{w w':World}(h:∀b arr ty fz,I b->w.heap[b]?=some (.cells arr ty fz)->I' b/\w'.heap[b]?=some (.cells arr ty fz)):∀(es:List (List D)) (arr:Array Value) (off sz:Nat),Q15 I w es arr off sz->Q15 I' w' es arr off sz
 |_,_,_,_,.nil arr off sz=>.nil arr off sz
 |_,_,_,_,.cons e es arr off sz hl hc hr=>.cons e es arr off sz hl (Qjv h e arr off hc) (Q9v h es arr (off+sz) sz hr)
end
theorem monoC{I I':Blocks}{w w':World}(h:∀b,I b->I' b/\w'.heap[b]?=w.heap[b]?)(b:Nat)(arr:Array Value)(ty:TypeId)(fz:Nat×Nat)(hI:I b)(hh:w.heap[b]?=some (.cells arr ty fz)):I' b/\w'.heap[b]?=some (.cells arr ty fz):=⟨(h b hI).1,(h b hI).2.trans hh⟩
theorem Z7s{I I':Blocks}{w w':World}(h:∀b,I b->I' b/\w'.heap[b]?=w.heap[b]?)(cs:List D)(arr:Array Value)(off:Nat)(hp:Q8i I w cs arr off):Q8i I' w' cs arr off:=Qjv (monoC h) cs arr off hp
theorem Q11{I I':Blocks}{w w':World}(h:∀b,I b->I' b/\w'.heap[b]?=w.heap[b]?)(es:List (List D))(arr:Array Value)(off sz:Nat)(hp:Q15 I w es arr off sz):Q15 I' w' es arr off sz:=Q9v (monoC h) es arr off sz hp
structure Q2n(c:Ctx)(w:World)(c':Ctx)(w':World):Prop where
 base:c'.base=c.base
 top:c.top<=c'.top
 I:∀b,c.I b->c'.I b/\w'.heap[b]?=w.heap[b]?
 R :∀r row,c.R r=some row->∃row',c'.R r=some row'/\row'.box=row.box/\row'.ty=row.ty/\row'.sz=row.sz/\row'.es.l.length=row.es.l.length/\c'.ρ r=c.ρ r/\(c'.V r↔c.V r)/\
  (¬c.V r->∀arr,w.heap[c.ρ r]?=some (.cells arr row.ty (0,0))->∃arr',w'.heap[c.ρ r]?=some (.cells arr' row.ty (0,0))/\arr'.size=arr.size)
structure Qvt(c:Ctx)(w:World)(c':Ctx)(w':World):Prop where
 base:c'.base=c.base
 top:c.top<=c'.top
 I:∀b arr ty fz,c.I b->w.heap[b]?=some (.cells arr ty fz)->c'.I b/\w'.heap[b]?=some (.cells arr ty fz)
 R :∀r row,c.R r=some row->∃row',c'.R r=some row'/\row'.box=row.box/\row'.ty=row.ty/\row'.sz=row.sz/\row'.es.l.length=row.es.l.length/\c'.ρ r=c.ρ r/\(c'.V r↔c.V r)/\
  (¬c.V r->∀arr,w.heap[c.ρ r]?=some (.cells arr row.ty (0,0))->∃arr',w'.heap[c.ρ r]?=some (.cells arr' row.ty (0,0))/\arr'.size=arr.size)
theorem Q2n.to0{c c':Ctx}{w w':World}(h:Q2n c w c' w'):Qvt c w c' w':=⟨h.base,h.top,monoC h.I,h.R⟩
theorem Qkh{c c':Ctx}{w w':World}(h:∀b,c.I b->c'.I b/\w'.heap[b]?=w.heap[b]?){f:Nat}{us:List Value}{v:Value}(hf:FnV c w f us v):FnV c' w' f us v:=by
 rcases hf with hf|⟨h1,l,rec,h2,h3,h4,h5⟩
 ·exact .inl hf
 ·exact .inr ⟨h1,l,rec,h2,(h l h3).1,(h l h3).2.trans h4,h5⟩
theorem Q2n.refl(c:Ctx)(w:World):Q2n c w c w:=
 ⟨rfl,aO _,λ_ h=>⟨h,rfl⟩,λ_ row h=>⟨row,h,rfl,rfl,rfl,rfl,rfl,Iff.rfl,λ_ arr h=>⟨arr,h,rfl⟩⟩⟩
theorem Q2n.trans{c c' c'':Ctx}{w w' w'':World}(h:Q2n c w c' w')(g:Q2n c' w' c'' w''):Q2n c w c'' w'':=by
 refine⟨g.base.trans h.base,bI h.top g.top,λb hb=>⟨(g.I b (h.I b hb).1).1,(g.I b (h.I b hb).1).2.trans (h.I b hb).2⟩,λr row hr=>?_⟩
 obtain⟨row',h1,h2,h3,h4,h5,h6,hV,h7⟩:=h.R r row hr
 obtain⟨row'',g1,g2,g3,g4,g5,g6,gV,g7⟩:=g.R r row' h1
 refine⟨row'',g1,g2.trans h2,g3.trans h3,g4.trans h4,g5.trans h5,g6.trans h6,gV.trans hV,λnv arr ha=>?_⟩
 obtain⟨arr',ha',hs⟩:=h7 nv arr ha
 obtain⟨arr'',ha'',hs'⟩:=g7 (λe=>nv (hV.1 e)) arr' (by rw[h6,h3];exact ha')
 exact⟨arr'',by rw[h6,h3]at ha'';exact ha'',hs'.trans hs⟩
theorem Qp{c c':Ctx}{w w':World}(h:Qvt c w c' w'):∀{d:D} {v:Value},(∀f cs,d≠.clo f cs)->CRep c w d v->CRep c' w' d v:=by
 intro d v hne hd
 cases d with
 |sl sz es fr=>
  simp only[CRep]at hd⊢
  obtain⟨a,cap,hv,hc,hes⟩:=hd
  refine⟨a,cap,hv,hc,?_⟩
  rcases hes with hes|⟨b,off,arr,ty,fz,ha,hI,hf,hh,hE⟩
  ·exact .inl hes
  ·exact .inr ⟨b,off,arr,ty,fz,ha,(h.I b arr ty fz hI hh).1,λe=>by rw[h.base];exact hf e,(h.I b arr ty fz hI hh).2,Q9v h.I _ arr off sz hE⟩
 |all r=>
  simp only[CRep]at hd⊢
  obtain⟨row,hr,hb,hd⟩:=hd
  obtain⟨row',g1,g2,g3,g4,g5,g6,gV,g7⟩:=h.R r row hr
  refine⟨row',g1,g2.trans hb,?_⟩
  rcases hd with⟨hV,hv⟩|⟨hV,cap,arr,hv,h1,h2,h3,h4⟩
  ·obtain⟨a,hv,ho⟩:=hv
   exact .inl ⟨gV.2 hV,a,hv,ho.mono h.top⟩
  ·obtain⟨arr',ha',hs⟩:=g7 hV arr h3
   exact .inr ⟨λe=>hV (gV.1 e),cap,arr',by rw[hv,g5,g6],by rw[g5];exact h1,h2,by rw[g6,g3];exact ha',by rw[g4,hs];exact h4⟩
 |emp=>
  obtain⟨a,hv,ho⟩:=hd
  exact⟨a,hv,ho.mono h.top⟩
 |own r o n=>
  simp only[CRep]at hd⊢
  obtain⟨row,hr,hb,ho,hd⟩:=hd
  obtain⟨row',g1,g2,g3,g4,g5,g6,gV,g7⟩:=h.R r row hr
  refine⟨row',g1,g2.trans hb,by rw[g5];exact ho,?_⟩
  rcases hd with⟨h0,a,hv,ho'⟩|⟨hV,cap,arr,h1,h2,h3,h4,h5⟩
  ·exact .inl ⟨h0,a,hv,ho'.mono h.top gV g6⟩
  ·obtain⟨arr',ha',hs⟩:=g7 hV arr h3
   exact .inr ⟨λe=>hV (gV.1 e),cap,arr',h1,h2,by rw[g6,g3];exact ha',by rw[g4,g6];exact h4,by rw[g4,hs];exact h5⟩
 |ptr r i off=>
  simp only[CRep]at hd⊢
  obtain⟨row,hr,hV,hi,hv⟩:=hd
  obtain⟨row',g1,g2,g3,g4,g5,g6,gV,g7⟩:=h.R r row hr
  exact⟨row',g1,λe=>hV (gV.1 e),by rw[g5];exact hi,by rw[hv,g6,g4]⟩
 |pa r i off len k n=>
  simp only[CRep]at hd⊢
  obtain⟨hn,row,hr,hV,hi,hv⟩:=hd
  obtain⟨row',g1,g2,g3,g4,g5,g6,gV,g7⟩:=h.R r row hr
  exact⟨hn,row',g1,λe=>hV (gV.1 e),by rw[g5];exact hi,by rw[hv,g6,g4]⟩
 |iptr sz es i off=>
  simp only[CRep]at hd⊢
  obtain⟨b,o,arr,ty,fz,hv,hI,hi,hh,hE⟩:=hd
  exact⟨b,o,arr,ty,fz,hv,(h.I b arr ty fz hI hh).1,hi,(h.I b arr ty fz hI hh).2,Q9v h.I _ arr o sz hE⟩
 |selfp r=>
  rcases hd with hd|⟨row,hr,hV,hi,hv⟩
  ·exact .inl hd
  ·obtain⟨row',g1,g2,g3,g4,g5,g6,gV,g7⟩:=h.R r row hr
   exact .inr ⟨row',g1,λe=>hV (gV.1 e),by rw[g5];exact hi,by rw[hv,g6,g4]⟩
 |clo f cs=>exact absurd rfl (hne f cs)
 |_=>exact hd
theorem Z0v{c c':Ctx}{w w':World}(h:Q2n c w c' w'){d:D}{v:Value}(hne:∀f cs,d≠.clo f cs)(hd:CRep c w d v):CRep c' w' d v:=Qp h.to0 hne hd
theorem Z24{c c':Ctx}{w w':World}{S:Nat->Prop}{f:Nat->Nat}{keep:Bool}{Fk:Nat->Prop}(g:∀d v,(∀f cs,d≠.clo f cs)->(∀r∈Q6i d,S r)->CRep c w d v->CRep c' w' (d.ren1 f keep) v)(gF:∀k ws v,Fk k->FnV c w k ws v->FnV c' w' k ws v):
 ∀{cs:List Cap} {us:List Value},(∀k ps,Cap.fn k ps∈cs->Fk k)->(∀r∈capL cs,S r)->Q4e c w cs us->Q4e c' w' (cs.map (Cap.ren f keep)) us
 |[],[],_,_,_=>trivial
 |x ::cs,u::us,hF,hS,⟨h1,h2⟩=>by
  refine⟨?_,Z24 g gF (λk ps hm=>hF k ps (by simp[hm])) (λr hr=>hS r (by simp[capL,hr])) h2⟩
  have hS1:∀r∈capL1 x,S r:=λr hr=>hS r (by simp[capL,hr])
  cases x with
  |fn k ps=>
   obtain⟨ws,hv,hw⟩:=h1
   refine⟨ws,gF k ws u (hF k ps (by simp)) hv,?_⟩
   have hS2:∀p∈ps,S p.1:=λp hp=>hS1 _ (by simp only[capL1,List.mem_map];exact⟨p,hp,rfl⟩)
   clear hv hS1 hS h2 hF
   induction ps generalizing ws with
   |nil=>cases ws<;>exact hw
   |cons p ps ih=>
    cases ws with
    |nil=>exact hw.elim
    |cons v ws=>exact⟨g (.ptr p.1 p.2.1 p.2.2) v (λ_ _ e=>by cases e) (λr hr=>by simp[Q6i]at hr;subst hr;exact hS2 p (by simp)) hw.1,ih ws hw.2 (λq hq=>hS2 q (by simp[hq]))⟩
  |ptr r i off=>exact g (.ptr r i off) u (λ_ _ e=>by cases e) hS1 h1
  |int k n=>exact h1
  |arr r=>exact g (.all r) u (λ_ _ e=>by cases e) hS1 h1
  |sl a b fr=>exact g (.sl a b fr) u (λ_ _ e=>by cases e) (λr hr=>by simp[Q6i]at hr) h1
 |[],_::_,_,_,h=>h.elim
 |_::_,[],_,_,h=>h.elim
theorem ym{d:D}(h:∀f cs,d≠.clo f cs):d.ren1 (λr=>r) true=d:=by cases d<;>first|(simp[D.ren1];done)|exact absurd rfl (h _ _)
theorem Qws:∀{cs:List Cap},cs.map (Cap.ren (λr=>r) true)=cs
 |[]=>rfl
 |x::l=>by
  simp only[eJ,Qws (cs:=l)]
  congr 1
  cases x<;>simp[Cap.ren]
theorem Qzu{c c':Ctx}{w w':World}{S:Nat->Prop}{Fk:Nat->Prop}(g:∀d v,(∀f cs,d≠.clo f cs)->(∀r∈Q6i d,S r)->CRep c w d v->CRep c' w' d v)(gF:∀k ws v,Fk k->FnV c w k ws v->FnV c' w' k ws v){cs:List Cap}{us:List Value}(hF:∀k ps,Cap.fn k ps∈cs->Fk k)(hS:∀r∈capL cs,S r)(h:Q4e c w cs us):Q4e c' w' cs us:=by
 have:=Z24 (f:=λr=>r) (keep:=true) (λd v h1 h2 h3=>by rw[ym h1];exact g d v h1 h2 h3) gF hF hS h
 rwa [Qws]at this
theorem Qtv{c c':Ctx}{w w':World}{S:Nat->Prop}(g:∀d v,(∀f cs,d≠.clo f cs)->(∀r∈Q6i d,S r)->CRep c w d v->CRep c' w' d v)(gF:∀b,c.I b->c'.I b/\w'.heap[b]?=w.heap[b]?){cs:List Cap}{us:List Value}(hS:∀r∈capL cs,S r)(h:Q4e c w cs us):Q4e c' w' cs us:=
 Qzu (Fk:=λ_=>True) g (λ_ _ _ _=>Qkh gF) (λ_ _ _=>trivial) hS h
theorem Qnd{c c':Ctx}{w w':World}(h:Q2n c w c' w'){d:D}{v:Value}(hd:CRep c w d v):CRep c' w' d v:=by
 by_cases e:∃f cs,d=.clo f cs
 ·obtain⟨f,cs,rfl⟩:=e
  obtain⟨us,hv,hu⟩:=hd
  exact⟨us,Qkh h.I hv,Qtv (S:=λ_=>True) (λd v h1 _ h2=>Z0v h h1 h2) h.I (λ_ _=>trivial) hu⟩
 ·exact Z0v h (λf cs e'=>e ⟨f,cs,e'⟩) hd
theorem Qo8{l:List Nat}(h:noYs l=true){k:Nat}(hk:k∈l):k<YB:=lE (List.all_eq_true.1 h k hk)
theorem Za6:∀{cs:List Cap} {k:Nat} {ps:List (Nat×Nat×Nat)},Cap.fn k ps∈cs->k∈fnsC cs
 |x ::l,k,ps,hm=>by
  rcases List.mem_cons.1 hm with e|e
  ·subst e;simp[fnsC]
  ·have:=Za6 e
   cases x<;>simp[fnsC,this]
 |[],_,_,hm=>by simp at hm
section
variable {c c':Ctx} {w w':World} (h:Qvt c w c' w') {Fk:Nat->Prop} (gF:∀k ws v,Fk k->FnV c w k ws v->FnV c' w' k ws v)
include h gF
theorem Qw{d:D}{v:Value}(hn:∀k∈fns1 d,Fk k)(hd:CRep c w d v):CRep c' w' d v:=by
 by_cases e:∃f cs,d=.clo f cs
 ·obtain⟨f,cs,rfl⟩:=e
  obtain⟨us,hv,hu⟩:=hd
  exact⟨us,gF _ _ _ (hn f (by simp[fns1])) hv,Qzu (S:=λ_=>True) (Fk:=Fk) (λd v h1 _ h2=>Qp h h1 h2) gF (λk ps hm=>hn k (by simp[fns1,Za6 hm])) (λ_ _=>trivial) hu⟩
 ·exact Qp h (λf cs e'=>e ⟨f,cs,e'⟩) hd
theorem Qz8:∀{ds:List D} {vs:List Value},(∀k∈fnsL ds,Fk k)->Q2y c w ds vs->Q2y c' w' ds vs
 |[],[],_,_=>trivial
 |_::_,_::_,hn,⟨h1,h2⟩=>⟨Qw h gF (λk hk=>hn k (by simp[fnsL,hk])) h1,Qz8 (λk hk=>hn k (by simp[fnsL,hk])) h2⟩
 |[],_::_,_,h=>h.elim
 |_::_,[],_,h=>h.elim
theorem Z3w{d:D}{v:Value}(hn:∀k∈fnsD d,Fk k)(hd:VRep c w d v):VRep c' w' d v:=by
 cases d with
 |agg cs=>obtain⟨vs,hv,hr⟩:=hd;exact⟨vs,hv,Qz8 h gF hn hr⟩
 |_=>simp only[VRep]at hd⊢;exact Qw h gF hn hd
theorem Qqg:∀{ds:List D} {vs:List Value},(∀k∈fnsT ds,Fk k)->Q5p c w ds vs->Q5p c' w' ds vs
 |[],[],_,_=>trivial
 |_::_,_::_,hn,⟨h1,h2⟩=>⟨Z3w h gF (λk hk=>hn k (by simp[fnsT,hk])) h1,Qqg (λk hk=>hn k (by simp[fnsT,hk])) h2⟩
 |[],_::_,_,h=>h.elim
 |_::_,[],_,h=>h.elim
theorem Zah{d:D}{v:Value}(hn:∀k∈fnsV d,Fk k)(hd:Rep c w d v):Rep c' w' d v:=by
 cases d with
 |tup ds=>obtain⟨vs,hv,hr⟩:=hd;exact⟨vs,hv,Qqg h gF hn hr⟩
 |dead=>trivial
 |_=>simp only[Rep]at hd⊢;exact Z3w h gF hn hd
theorem Qw5:∀{ds:List D} {arr:Array Value} {off:Nat},(∀k∈fnsL ds,Fk k)->Q32 c w ds arr off->Q32 c' w' ds arr off
 |[],_,_,_,_=>trivial
 |_::_,_,_,hn,⟨⟨v,hv,h1⟩,h2⟩=>⟨⟨v,hv,Qw h gF (λk hk=>hn k (by simp[fnsL,hk])) h1⟩,Qw5 (λk hk=>hn k (by simp[fnsL,hk])) h2⟩
end
theorem Qzx{c c':Ctx}{w w':World}(h:Q2n c w c' w'):∀{ds:List D} {vs:List Value},Q2y c w ds vs->Q2y c' w' ds vs
 |[],[],_=>trivial
 |_::_,_::_,⟨h1,h2⟩=>⟨Qnd h h1,Qzx h h2⟩
theorem Z4j{c c':Ctx}{w w':World}(h:Q2n c w c' w'):∀{d:D} {v:Value},VRep c w d v->VRep c' w' d v:=by
 intro d v hd
 cases d with
 |agg cs=>obtain⟨vs,hv,hr⟩:=hd;exact⟨vs,hv,Qzx h hr⟩
 |_=>simp only[VRep]at hd⊢;exact Qnd h hd
theorem Qpk{c c':Ctx}{w w':World}(h:Q2n c w c' w'):∀{ds:List D} {vs:List Value},Q5p c w ds vs->Q5p c' w' ds vs
 |[],[],_=>trivial
 |_::_,_::_,⟨h1,h2⟩=>⟨Z4j h h1,Qpk h h2⟩
theorem Q8b{c c':Ctx}{w w':World}(h:Q2n c w c' w'):∀{d:D} {v:Value},Rep c w d v->Rep c' w' d v:=by
 intro d v hd
 cases d with
 |tup ds=>obtain⟨vs,hv,hr⟩:=hd;exact⟨vs,hv,Qpk h hr⟩
 |dead=>trivial
 |_=>simp only[Rep]at hd⊢;exact Z4j h hd
theorem Qet{c c':Ctx}{w w':World}(h:Q2n c w c' w'):∀{ds:List D} {arr:Array Value} {off:Nat},Q32 c w ds arr off->Q32 c' w' ds arr off
 |[],_,_,_=>trivial
 |_::_,_,_,⟨⟨v,hv,h1⟩,h2⟩=>⟨⟨v,hv,Qnd h h1⟩,Qet h h2⟩
def Qh3(I:Blocks)(w:World):Prop:=∀x∈gtabs,I x.1/\∃ty fz,w.heap[x.1]?=some (.cells (x.2.2.map λz=>Value.int x.2.1 z).toArray ty fz)
theorem Qh3.mono0{I I':Blocks}{w w':World}(h:Qh3 I w)(g:∀b arr ty fz,I b->w.heap[b]?=some (.cells arr ty fz)->I' b/\w'.heap[b]?=some (.cells arr ty fz)):Qh3 I' w':=λx hx=>by
 obtain⟨h1,ty,fz,h2⟩:=h x hx
 exact⟨(g _ _ _ _ h1 h2).1,ty,fz,(g _ _ _ _ h1 h2).2⟩
theorem Qh3.mono{I I':Blocks}{w w':World}(h:Qh3 I w)(g:∀b,I b->I' b/\w'.heap[b]?=w.heap[b]?):Qh3 I' w':=h.mono0 (monoC g)
structure Mem(c:Ctx)(w:World):Prop where
 row:∀r row,c.R r=some row->Qol c w r row
 inj:∀r s x y,c.R r=some x->c.R s=some y->¬c.V r->¬c.V s->c.ρ r=c.ρ s->r=s
 imm:∀b,c.I b->b<w.heap.size/\∀r x,c.R r=some x->¬c.V r->c.ρ r≠b
 top:c.top<=w.heap.size
 tab:Qh3 c.I w
theorem Z1g{c:Ctx}{w w':World}{I:Blocks}(hm:Mem c w)(h:Qvt c w {c with I:=I} w')(hh:∀r x,c.R r=some x->¬c.V r->w'.heap[c.ρ r]?=w.heap[c.ρ r]?){Fk:Nat->Prop}(gF:∀k ws v,Fk k->FnV c w k ws v->FnV {c with I:=I} w' k ws v)
 (hn:∀r x,c.R r=some x->∀k∈fnsR [x],Fk k) (hI:∀b,I b->b<w'.heap.size/\∀r x,c.R r=some x->¬c.V r->c.ρ r≠b) (hs:w.heap.size<=w'.heap.size):Mem {c with I:=I} w':=by
 refine⟨λr row hr=>?_,hm.inj,λb hb=>hI b hb,bI hm.top hs,hm.tab.mono0 h.I⟩
 rcases hm.row r row hr with g|⟨g0,arr,g1,g2,g3⟩
 ·exact .inl g
 ·refine .inr ⟨g0,arr,(hh r row hr g0).trans g1,g2,?_⟩
  split at g3
  ·rename_i hb
   rw[if_pos hb]
   obtain⟨e,k1,k2,k3,k4⟩:=g3
   refine⟨e,k1,k2,k3,Qw5 h gF (λk hk=>hn r row hr k ?_) k4⟩
   obtain⟨bx,ty,sz,es⟩:=row
   simp only at hb k1
   subst hb;subst k1
   simpa[fnsR]using hk
  ·rename_i hb
   rw[if_neg hb]
   exact Q9v h.I _ _ _ _ g3
theorem Mem.real{c:Ctx}{w:World}(h:Mem c w){r:Nat}{row:Row}(hr:c.R r=some row)(hV:¬c.V r):RowIn c w r row:=by
 rcases h.row r row hr with h1|h1
 ·exact(hV h1.1).elim
 ·exact h1.2
theorem Mem.virt{c:Ctx}{w:World}(h:Mem c w){r:Nat}{row:Row}(hr:c.R r=some row)(hV:c.V r):row.box=false/\row.es.l=[]/\0<row.sz:=by
 rcases h.row r row hr with h1|h1
 ·exact h1.2
 ·exact(h1.1 hV).elim
theorem Mem.lt{c:Ctx}{w:World}(h:Mem c w){r:Nat}{row:Row}(hr:c.R r=some row)(hV:¬c.V r):c.ρ r<w.heap.size:=by
 obtain⟨arr,ha,_⟩:=h.real hr hV
 by_cases hlt:c.ρ r<w.heap.size
 ·exact hlt
 ·rw[Array.getElem?_eq_none (by omega)]at ha;cases ha
structure Fr(X:Blocks)(w w':World):Prop where
 os:w'.os=w.os
 tape:w'.tape=w.tape
 output:w'.output=w.output
 size:w.heap.size<=w'.heap.size
 heap:∀b,b<w.heap.size->¬X b->w'.heap[b]?=w.heap[b]?
theorem Fr.refl(X:Blocks)(w:World):Fr X w w:=⟨rfl,rfl,rfl,aO _,λ_ _ _=>rfl⟩
theorem Fr.trans{X:Blocks}{w w' w'':World}(h:Fr X w w')(g:Fr X w' w''):Fr X w w'':=
 ⟨g.os.trans h.os,g.tape.trans h.tape,g.output.trans h.output,bI h.size g.size,λb hb hx=>(g.heap b (Nat.lt_of_lt_of_le hb h.size) hx).trans (h.heap b hb hx)⟩
theorem Fr.mono{X Y:Blocks}{w w':World}(h:Fr X w w')(hxy:∀b,b<w.heap.size->X b->Y b):Fr Y w w':=
 ⟨h.os,h.tape,h.output,h.size,λb hb hy=>h.heap b hb λhx=>hy (hxy b hb hx)⟩
def Q4b(P:Program):Nat->TypeId->List CTy
 |0,_=>[]
 |n+1,t=>match P.underlying t with
  |some (.int k)=>[.int k]
  |some .bool=>[.bool]
  |some .string=>[.str]
  |some (.slice e)=>[.sl (P.cellsOf e)]
  |some (.struct fs)=>fs.toList.flatMap λf=>Q4b P n f.type
  |some (.array m e)=>(List.replicate m (Q4b P n e)).flatten
  |_=>[.other]
def Qre(P:Program)(t:TypeId):TK:=
 match P.underlying t with
 |some (.int k)=>.int k
 |some .bool=>.bool
 |some .string=>.string
 |some (.slice e)=>.slice e (P.cellsOf e)
 |some (.struct fs)=>.struct (fs.toList.map λf=>(f.offset,f.type,P.cellsOf f.type))
 |some (.array n e)=>.array n e (P.cellsOf e)
 |_=>.other
def Z9m(P:Program)(g:TypeId->Bool)(l:TypeId->Nat):List Field->Nat->Bool
 |[],_=>true
 |f::fs,o=>f.name != "_" &&bV f.offset o&&bV (P.cellsOf f.type) (l f.type)&&Nat.blt 0 (l f.type)&&g f.type&&Z9m P g l fs (o+l f.type)
def eqOf(P:Program):Nat->TypeId->Bool
 |0,_=>false
 |n+1,t=>match P.underlying t with
  |some (.int _)=>true
  |some .bool=>true
  |some .string=>true
  |some (.struct fs)=>!P.stoodInHeld t&&Z9m P (eqOf P n) (λu=>(Q4b P n u).length) fs.toList 0
  |some (.array _ e)=>bV (P.cellsOf e) (Q4b P n e).length&&Nat.blt 0 (P.cellsOf e)&&eqOf P n e
  |_=>false
def tiOf(P:Program)(t:TypeId):Option TI:=
 match P.info? t with
 |some i=>if(Q4b P 8 t).length=i.size/\(P.underlying t).isSome=true then
  some ⟨Qre P t,i.size,i.bytes,Q4b P 8 t,i.zero.bind λz=>Qi9 z.cells.toList,!(P.eqGuardType P.depth t)&&eqOf P 8 t⟩else none
 |none=>none
def Q34(P:Program)(T:Tab):Prop:=T.map (λx=>tiOf P x.1)=T.map (λx=>some x.2)
theorem Q34.get{P:Program}{T:Tab}(h:Q34 P T){t:TypeId}{i:TI}(hi:T.get t=some i):tiOf P t=some i:=by
 induction T with
 |nil=>simp[Tab.get]at hi
 |cons x l ih=>
  obtain⟨u,j⟩:=x
  simp only[Q34,eJ,List.cons.injEq]at h
  simp only[Tab.get]at hi
  cases hb:bV u t with
  |true=>
   simp only[hb,Option.some.injEq]at hi
   have:=bE hb
   subst this;subst hi
   exact h.1
  |false=>simp only[hb]at hi;exact ih h.2 hi
theorem Q1h{K:Rows->Prop}:∀{R:Rows},Qcs R K↔K R
 |[]=>Iff.rfl
 |d::l=>by unfold Qcs;exact Q1h (R:=l) (K:=λl=>K (d::l))
theorem D.force_iff{K:D->Prop}{d:D}:d.force K↔K d:=by cases d<;>rfl
theorem D.forceL_iff:∀{l:List D} {K:List D->Prop},D.forceL l K↔K l
 |[],_=>Iff.rfl
 |d::l,K=>by unfold D.forceL;rw[D.force_iff];exact D.forceL_iff (l:=l) (K:=λl=>K (d::l))
theorem Z61{row:Row}:∀{R:Rows} {n:Nat} {K:Nat->Rows->Prop},addR1 row R n K↔K (n+R.length) (R++[some row])
 |[],_,_=>Iff.rfl
 |x::l,n,K=>by
  unfold addR1
  rw[Z61 (R:=l) (K:=λk l=>K k (x::l))]
  simp only[cZ,List.cons_append]
  rw[show n+1+l.length=n+(l.length+1) by omega]
theorem Qkk{row:Row}{R:Rows}{K:Nat->Rows->Prop}:addR R row K↔K R.length (R++[some row]):=by
 unfold addR;rw[Z61];simp
theorem PRep.one{I:Blocks}{w:World}{d:D}{v:Value}(h:PRep I w d v):v.oneCell'=true:=by
 cases d<;>simp only[Q38,Q4u,Q4s,Q39,Q3c,Q4p,Q8n,Q5v,Q5w,Q61,Q9m,Q41,Q46,Q44,Q60,Q5z,vG,Zas,Zbx]at h
 case sl sz es fr=>obtain⟨a,cap,hv,_⟩:=h;subst hv;rfl
 case emp=>obtain⟨a,hv⟩:=h;subst hv;rfl
 all_goals first|(subst h;rfl)|exact h.elim
theorem CRep.one{c:Ctx}{w:World}{d:D}{v:Value}(h:CRep c w d v):v.oneCell'=true:=by
 cases d<;>simp only[CRep]at h
 case sl sz es fr=>obtain⟨a,cap,hv,_⟩:=h;subst hv;rfl
 case emp=>obtain⟨a,hv,_⟩:=h;subst hv;rfl
 case nilq es=>obtain⟨b,hv,_⟩:=h;subst hv;rfl
 case all r=>obtain⟨row,_,_,⟨_,a,hv,_⟩|⟨_,cap,arr,hv,_⟩⟩:=h<;>(subst hv;rfl)
 case own r o n=>
  obtain⟨row,_,_,_,⟨_,a,hv,_⟩|⟨_,cap,arr,_,_,_,hv,_⟩⟩:=h<;>(subst hv;rfl)
 case ptr r i off=>obtain⟨row,_,_,_,hv⟩:=h;subst hv;rfl
 case pa r i off len k n=>obtain⟨_,row,_,_,_,hv⟩:=h;subst hv;rfl
 case iptr sz es i off=>obtain⟨b,o,arr,ty,fz,hv,_⟩:=h;subst hv;rfl
 case clo f cs=>obtain⟨us,⟨_,hv⟩|⟨_,l,rec,hv,_⟩,_⟩:=h<;>(subst hv;rfl)
 case selfp r=>obtain hv|⟨row,_,_,_,hv⟩:=h<;>(subst hv;rfl)
 all_goals first|exact h|(subst h;rfl)|exact h.elim
theorem Qkj{I:Blocks}{w:World}:∀{cs:List D} {arr:Array Value} {off j:Nat},Q8i I w cs arr off->j<cs.length->∃v,arr[off+j]?=some v/\PRep I w (cs.getD j .dead) v
 |c::cs,arr,off,0,h,_=>by
  simp only[Q6o,Q5]at h
  simpa using h.1
 |c::cs,arr,off,j+1,h,hj=>by
  simp only[Q6o,Q5]at h
  obtain⟨v,hv,hp⟩:=Qkj h.2 (fN (by simpa using hj))
  exact⟨v,by rw[show off+(j+1)=off+1+j by omega];exact hv,by simpa using hp⟩
theorem Qke{I:Blocks}{w:World}:∀{es:List (List D)} {arr:Array Value} {off sz i:Nat},Q15 I w es arr off sz->i<es.length->(es.getD i []).length=sz/\Q8i I w (es.getD i []) arr (off+i*sz)
 |e::es,arr,off,sz,0,h,_=>by
  simp only[Q25,Q1u]at h
  simpa using⟨h.1,h.2.1⟩
 |e::es,arr,off,sz,i+1,h,hi=>by
  simp only[Q25,Q1u]at h
  obtain⟨h1,h2⟩:=Qke h.2.2 (fN (by simpa using hi))
  exact⟨by simpa using h1,by rw[show off+(i+1)*sz=off+sz+i*sz by rw[Nat.succ_mul];omega];simpa using h2⟩
theorem Qzv{c:Ctx}{w:World}:∀{cs:List D} {arr:Array Value} {off j:Nat},Q32 c w cs arr off->j<cs.length->∃v,arr[off+j]?=some v/\CRep c w (cs.getD j .dead) v
 |d::cs,arr,off,0,h,_=>by
  simp only[Q32]at h
  simpa using h.1
 |d::cs,arr,off,j+1,h,hj=>by
  simp only[Q32]at h
  obtain⟨v,hv,hp⟩:=Qzv h.2 (fN (by simpa using hj))
  exact⟨v,by rw[show off+(j+1)=off+1+j by omega];exact hv,by simpa using hp⟩
theorem Q97{c:Ctx}{w:World}:∀{ds:List D} {vs:List Value},(Q2y c w ds vs↔ds.length=vs.length/\∀j v,vs[j]?=some v->CRep c w (ds.getD j .dead) v)
 |[],[]=>by simp[Q2y]
 |[],v::vs=>by simp[Q2y]
 |d::ds,[]=>by simp[Q2y]
 |d ::ds,v::vs=>by
  simp only[Q2y,Q97 (ds:=ds) (vs:=vs),cZ,Nat.add_right_cancel_iff]
  constructor
  ·rintro⟨h1,h2,h3⟩
   refine⟨h2,λj u hu=>?_⟩
   cases j with
   |zero=>simp at hu;subst hu;simpa using h1
   |succ j=>simpa using h3 j u (by simpa using hu)
  ·rintro⟨h1,h2⟩
   exact⟨by simpa using h2 0 v (by simp),h1,λj u hu=>by simpa using h2 (j+1) u (by simpa using hu)⟩
def XRep(pl:Bool)(c:Ctx)(w:World)(d:D)(v:Value):Prop:=match pl with|true=>PRep c.I w d v|false=>CRep c w d v
theorem Z5a{pl:Bool}{ty:CTy}{d:D}{K:D->Prop}(h:Qec pl ty d K):∃d',K d'/\∀c w v,XRep pl c w d v->CRep c w d' v:=by
 cases ty with
 |int k=>
  simp only[Qec,Q02]at h
  refine⟨_,h.2,λc w v hx=>?_⟩
  cases d<;>simp[D.isInt]at h
  obtain⟨rfl,_⟩:=h
  cases pl<;>simpa[XRep,Q38,Q4u,Q4s,Q39,Q3c,Q4p,Q8n,Q5v,Q5w,Q61,Q9m,Q41,Q46,Q44,Q60,Q5z,CRep,D.toInt]using hx
 |bool=>
  simp only[Qec,Q02]at h
  refine⟨_,h.2,λc w v hx=>?_⟩
  cases d<;>simp[D.isBool]at h
  cases pl<;>simpa[XRep,Q38,Q4u,Q4s,Q39,Q3c,Q4p,Q8n,Q5v,Q5w,Q61,Q9m,Q41,Q46,Q44,Q60,Q5z,CRep,D.toBool]using hx
 |str=>
  simp only[Qec,Q02]at h
  refine⟨_,h.2,λc w v hx=>?_⟩
  cases d<;>simp[D.isStr]at h
  cases pl<;>simpa[XRep,Q38,Q4u,Q4s,Q39,Q3c,Q4p,Q8n,Q5v,Q5w,Q61,Q9m,Q41,Q46,Q44,Q60,Q5z,CRep,D.toStr]using hx
 |sl n=>
  cases pl with
  |true=>
   simp only[Qec,Q02]at h
   refine⟨_,h.2,λc w v hx=>?_⟩
   cases d<;>(try(simp[D.isSl]at h;done))
   case nils=>exact⟨none,0,Q3c.1 hx,Nat.zero_le _,.inl rfl⟩
   case emp=>obtain⟨a,ha⟩:=Q4p.1 hx;exact⟨a,0,ha,Nat.zero_le _,.inl rfl⟩
   simp only[D.isSl]at h
   have hh:=bE h.1
   subst hh
   simp only[XRep,Q38,Q4u,Q4s,Q39,Q3c,Q4p,Q8n,Q5v,Q5w,Q61,Q9m,Q41,Q46,Q44,Q60,Q5z]at hx
   simp only[CRep,D.toEs]
   obtain⟨a,cap,hv,hc,hes⟩:=hx
   refine⟨a,cap,hv,hc,?_⟩
   rcases hes with hes|⟨b,off,arr,ty,fz,ha,hI,hh,hE⟩
   ·exact .inl hes
   ·exact .inr ⟨b,off,arr,ty,fz,ha,hI,by simp,hh,Qtl.1 hE⟩
  |false=>
   simp only[Qec,Q02,D.force_iff]at h
   exact⟨_,h.2,λc w v hx=>hx⟩
 |other=>
  cases pl with
  |false=>
   simp only[Qec,Q02,D.force_iff]at h
   exact⟨_,h.2,λc w v hx=>hx⟩
  |true=>
   simp only[Qec]at h
   cases d<;>simp only at h
   case nilp=>exact⟨_,h,λc w v hx=>Q39.1 hx⟩
theorem Qzr{pl:Bool}{e:List D}:∀{tys:List CTy} {off:Nat} {K:List D->Prop},Qg8 pl e tys off K->
 ∃ds,K ds/\ds.length=tys.length/\∀j,j<tys.length->∀c w v,XRep pl c w (e.getD (off+j) .dead) v->CRep c w (ds.getD j .dead) v
 |[],off,K,h=>⟨[],h,rfl,λj hj=>by simp at hj⟩
 |t::ts,off,K,h=>by
  simp only[Qg8]at h
  obtain⟨d,hd,h1⟩:=Z5a h
  obtain⟨ds,hds,hl,h2⟩:=Qzr hd
  refine⟨d::ds,hds,by simp[hl],λj hj c w v hx=>?_⟩
  cases j with
  |zero=>simpa using h1 c w v (by simpa using hx)
  |succ j=>simpa using h2 j (by simpa using hj) c w v (by rw[show off+1+j=off+(j+1) by omega];exact hx)
theorem Q7k{P:Program}{t:TypeId}{ti:TI}(h:tiOf P t=some ti):∃i,P.info? t=some i/\i.size=ti.size/\i.bytes=ti.bytes/\ti.ctys.length=ti.size/\ti.kind=Qre P t/\
 ti.zero=(i.zero.bind λz=>Qi9 z.cells.toList)/\ti.eq=(!(P.eqGuardType P.depth t)&&eqOf P 8 t)/\ti.ctys=Q4b P 8 t/\∃d,P.underlying t=some d:=by
 unfold tiOf at h
 cases hi:P.info? t with
 |none=>simp[hi]at h
 |some i=>
  simp only[hi]at h
  split at h
  ·rename_i hl
   simp only[Option.some.injEq]at h
   subst h
   exact⟨i,rfl,rfl,rfl,hl.1,rfl,rfl,rfl,rfl,Option.isSome_iff_exists.1 hl.2⟩
  ·cases h
def Qx0:TypeDesc->Bool|.struct _=>true|.array _ _=>true|_=>false
theorem Qb5{P:Program}{t:TypeId}{d:TypeDesc}(hd:P.underlying t=some d):(Qre P t).isAgg=Qx0 d:=by
 unfold Qre
 rw[hd]
 cases d<;>rfl
theorem Qx9{P:Program}{t:TypeId}{d:TypeDesc}(hd:P.underlying t=some d)(w:World):(isAgg t).run P w=.ok (Qre P t).isAgg w:=by
 rw[Qb5 hd]
 unfold isAgg
 rw[Sem.run_bind,run_underlying hd w]
 cases d<;>rfl
def vsAt(arr:Array Value)(o n:Nat):List Value:=(List.range n).map λj=>(arr[o+j]?).getD undef
theorem Qdd(b o j:Nat):(⟨b,o,none⟩:Addr).add j=⟨b,o+j,none⟩:=by
 unfold Addr.add;split<;>simp_all
theorem Qg0{P:Program}{t:TypeId}{ti:TI}(ht:tiOf P t=some ti){w:World}{b o:Nat}{arr:Array Value}{ty:TypeId}{fz:Nat×Nat}(hb:w.heap[b]?=some (.cells arr ty fz))
 (hin:∀j,j<ti.size->∃v,arr[o+j]?=some v) (h1:ti.kind.isAgg=true\/ti.size=1):
 (loadVar t ⟨b,o,none⟩).run P w=.ok (if ti.kind.isAgg then .agg (vsAt arr o ti.size).toArray else(arr[o]?).getD undef) w:=by
 obtain⟨i,hi,hs,_,_,hk,_,_,_,d,hd⟩:=Q7k ht
 have hcell:∀j,w.cell? ⟨b,o+j,none⟩=arr[o+j]? :=λj=>by simp[World.cell?,hb]
 have hl:(loadCells ⟨b,o,none⟩ ti.size).run P w=.ok (vsAt arr o ti.size).toArray w:=
  run_loadCells w _ _ _ λj hj=>by
   rw[Qdd,hcell]
   obtain⟨v,hv⟩:=hin j hj
   simp[hv]
 unfold loadVar
 rw[Sem.run_bind,Qx9 hd,Result.andThen_ok,<-hk]
 cases hg:ti.kind.isAgg with
 |true=>
  simp only[if_true,Sem.run_bind,sizeOf,typeInfo,run_program,Result.andThen_ok,hi,Sem.run_pure,hs,hl]
 |false=>
  have hsz:ti.size=1:=by simpa[hg]using h1
  obtain⟨v,hv⟩:=hin 0 (by omega)
  have hv':arr[o]?=some v:=by simpa using hv
  have hc:w.cell? ⟨b,o,none⟩=some v:=by simpa[hv']using hcell 0
  simp[hc,hv']
theorem Z5m{pl:Bool}{ti:TI}{e:List D}{off:Nat}{K:D->Prop}(hl:ti.ctys.length=ti.size)(h:Qez pl ti e off K):
 ∃ val,K val/\(ti.kind.isAgg=true\/ti.size=1)/\∀c w arr o,(∀j,j<ti.size->∃v,arr[o+j]?=some v/\XRep pl c w (e.getD (off+j) .dead) v)->
  Rep c w val (if ti.kind.isAgg then .agg (vsAt arr o ti.size).toArray else(arr[o]?).getD undef):=by
 unfold Qez at h
 cases hg:ti.kind.isAgg with
 |true=>
  simp only[hg]at h
  obtain⟨ds,hK,hlen,hr⟩:=Qzr h
  refine⟨_,hK,.inl rfl,λc w arr o hx=>?_⟩
  simp only[if_true]
  refine⟨_,rfl,Q97.2 ⟨by simp[vsAt,hlen,hl],λj v hv=>?_⟩⟩
  have hj:j<ti.size:=by
   have:=(List.getElem?_eq_some_iff.1 hv).1
   simpa[vsAt]using this
  obtain⟨u,hu,hxr⟩:=hx j hj
  have:u=v:=by simpa[vsAt,hj,hu]using hv
  subst this
  exact hr j (by omega) c w u hxr
 |false=>
  simp only[hg]at h
  match hc:ti.ctys with
  |[y]=>
   simp only[hc]at h
   obtain⟨d,hK,hr⟩:=Z5a h
   have hsz:ti.size=1:=by rw[<-hl,hc];rfl
   refine⟨d,hK,.inr hsz,λc w arr o hx=>?_⟩
   obtain⟨u,hu,hxr⟩:=hx 0 (by omega)
   have hu':arr[o]?=some u:=by simpa using hu
   simp only[aN,if_false,hu',Option.getD_some]
   have:=hr c w u (by simpa using hxr)
   cases d<;>first|exact this|trivial|exact this.elim
  |[]=>simp only[hc]at h
  |_::_::_=>simp only[hc]at h
def Q4w(c:Ctx)(R:Rows):Prop:=∀r row row',c.R r=some row->R.getD r none=some row'->row=row'
theorem Q5j(w:World)(o:Obj)(b:Nat)(h:b<w.heap.size):(w.alloc o).heap[b]?=w.heap[b]? :=by
 show(w.heap.push o)[b]?=w.heap[b]?
 rw[Array.getElem?_push,if_neg (Nat.ne_of_lt h)]
theorem Qnm(w:World)(o:Obj):(w.alloc o).heap[w.heap.size]?=some o:=by
 show(w.heap.push o)[w.heap.size]?=some o
 simp
def Ctx.add(c:Ctx)(k:Nat)(row:Row)(b:Nat):Ctx:={c with R:=λr=>if r=k then some row else c.R r,ρ:=λr=>if r=k then b else c.ρ r,V:=λr=>r≠k/\c.V r}
theorem Ctx.add_self(c:Ctx)(k:Nat)(row:Row)(b:Nat):(c.add k row b).R k=some row/\(c.add k row b).ρ k=b:=by simp[Ctx.add]
theorem Q2n.alloc{c:Ctx}{w:World}(hm:Mem c w){k:Nat}(hk:c.R k=none)(row:Row)(o:Obj):Q2n c w (c.add k row w.heap.size) (w.alloc o):=by
 refine⟨rfl,aO _,λb hb=>⟨hb,Q5j w o b (hm.imm b hb).1⟩,λr x hr=>?_⟩
 have hne:r≠k:=λe=>by rw[e,hk]at hr;cases hr
 refine⟨x,by simp[Ctx.add,hne,hr],rfl,rfl,rfl,rfl,by simp[Ctx.add,hne],by simp[Ctx.add,hne],λnv arr ha=>⟨arr,?_,rfl⟩⟩
 rw[Q5j w o _ (hm.lt hr nv)];exact ha
theorem Fr.alloc(X:Blocks)(w:World)(o:Obj):Fr X w (w.alloc o):=
 ⟨rfl,rfl,rfl,by show w.heap.size<=(w.heap.push o).size;simp,λb hb _=>Q5j w o b hb⟩
theorem Q2a{c c':Ctx}{w w':World}(h:Q2n c w c' w'){r:Nat}{row:Row}(hρ:c'.ρ r=c.ρ r)(hV:c'.V r↔c.V r)(hh:¬c.V r->w'.heap[c.ρ r]?=w.heap[c.ρ r]?)(hr:Qol c w r row):Qol c' w' r row:=by
 rcases hr with⟨h0,hr⟩|⟨h0,hr⟩
 ·exact .inl ⟨hV.2 h0,hr⟩
 refine .inr ⟨λe=>h0 (hV.1 e),?_⟩
 obtain⟨arr,ha,hs,hx⟩:=hr
 refine⟨arr,by rw[hρ,hh h0];exact ha,hs,?_⟩
 split
 ·rename_i hb
  simp only[hb,if_true]at hx
  obtain⟨e,h1,h2,h3,h4⟩:=hx
  exact⟨e,h1,h2,h3,Qet h h4⟩
 ·rename_i hb
  simp only[hb,if_false,aN]at hx
  exact Q11 h.I _ _ _ _ hx
theorem Mem.alloc{c:Ctx}{w:World}(hm:Mem c w){k:Nat}(hk:c.R k=none)(row:Row)(arr:Array Value)(hs:0<row.sz)
 (hx:if row.box then∃e,row.es=.gen [e]/\e.length=row.sz/\arr.size=row.sz/\Q32 c w e arr 0 else Q15 c.I w row.es.l arr 0 row.sz):
 Mem (c.add k row w.heap.size) (w.alloc (.cells arr row.ty)):=by
 have hg:=Q2n.alloc hm hk row (.cells arr row.ty)
 refine⟨λr x hr=>?_,λr s x y hr hs' hv1 hv2 he=>?_,λb hb=>?_,bI hm.top (by show w.heap.size<=(w.heap.push _).size;simp),hm.tab.mono hg.I⟩
 ·by_cases e:r=k
  ·subst e
   simp only[Ctx.add,if_true,Option.some.injEq]at hr
   subst hr
   refine .inr ⟨by simp[Ctx.add],arr,by simp only[Ctx.add,if_true];exact Qnm w _,hs,?_⟩
   split
   ·rename_i hb
    simp only[hb,if_true]at hx
    obtain⟨e,h1,h2,h3,h4⟩:=hx
    exact⟨e,h1,h2,h3,Qet hg h4⟩
   ·rename_i hb
    simp only[hb,if_false,aN]at hx
    exact Q11 hg.I _ _ _ _ hx
  ·have hr':c.R r=some x:=by simpa[Ctx.add,e]using hr
   exact Q2a hg (by simp[Ctx.add,e]) (by simp[Ctx.add,e]) (λnv=>Q5j w _ _ (hm.lt hr' nv)) (hm.row r x hr')
 ·by_cases e1:r=k<;>by_cases e2:s=k
  ·exact e1.trans e2.symm
  ·exfalso
   have h2:c.R s=some y:=by simpa[Ctx.add,e2]using hs'
   have:=hm.lt h2 (by simpa[Ctx.add,e2]using hv2)
   simp[Ctx.add,e1,e2]at he
   omega
  ·exfalso
   have h1:c.R r=some x:=by simpa[Ctx.add,e1]using hr
   have:=hm.lt h1 (by simpa[Ctx.add,e1]using hv1)
   simp[Ctx.add,e1,e2]at he
   omega
  ·exact hm.inj r s x y (by simpa[Ctx.add,e1]using hr) (by simpa[Ctx.add,e2]using hs') (by simpa[Ctx.add,e1]using hv1) (by simpa[Ctx.add,e2]using hv2) (by simpa[Ctx.add,e1,e2]using he)
 ·have hb':c.I b:=hb
  obtain⟨h1,h2⟩:=hm.imm b hb'
  refine⟨by show b<(w.heap.push _).size;simp;omega,λr x hr hv=>?_⟩
  by_cases e:r=k
  ·simp only[Ctx.add,e,if_true];omega
  ·simpa[Ctx.add,e]using h2 r x (by simpa[Ctx.add,e]using hr) (by simpa[Ctx.add,e]using hv)
theorem RowIn.get{c:Ctx}{w:World}{r:Nat}{row:Row}(h:RowIn c w r row){i off n:Nat}(hi:i<row.es.l.length)(hn:off+n<=row.sz):
 ∃arr,w.heap[c.ρ r]?=some (.cells arr row.ty (0,0))/\∀j,j<n->∃v,arr[i*row.sz+off+j]?=some v/\XRep (!row.box) c w ((row.es.l.getD i []).getD (off+j) .dead) v:=by
 obtain⟨arr,ha,hs,hx⟩:=h
 refine⟨arr,ha,λj hj=>?_⟩
 cases hb:row.box with
 |true=>
  simp only[hb,if_true]at hx
  obtain⟨e,h1,h2,h3,h4⟩:=hx
  have hi0:i=0:=by rw[h1]at hi;simpa[Els.l]using hi
  subst hi0
  obtain⟨v,hv,hp⟩:=Qzv h4 (j:=off+j) (by omega)
  exact⟨v,by simpa using hv,by simpa[XRep,h1,Els.l]using hp⟩
 |false=>
  simp only[hb,if_false,aN]at hx
  obtain⟨h1,h2⟩:=Qke hx hi
  obtain⟨v,hv,hp⟩:=Qkj h2 (j:=off+j) (by omega)
  exact⟨v,by simpa[fO]using hv,by simpa[XRep]using hp⟩
theorem Qti:∀{e:List D} {len off n:Nat},n<len->(ints e off len).getD n 0=(e.getD (off+n) .dead).toInt
 |e,len+1,off,0,_=>by simp[ints]
 |e,len+1,off,n+1,h=>by
  have:=Qti (e:=e) (len:=len) (off:=off+1) (n:=n) (by omega)
  rw[show off+1+n=off+(n+1) by omega]at this
  simpa[ints]using this
theorem Qmv:∀{e:List D} {len off n:Nat},n<len->(bools e off len).getD n false=(e.getD (off+n) .dead).toBool
 |e,len+1,off,0,_=>by simp[bools]
 |e,len+1,off,n+1,h=>by
  have:=Qmv (e:=e) (len:=len) (off:=off+1) (n:=n) (by omega)
  rw[show off+1+n=off+(n+1) by omega]at this
  simpa[bools]using this
theorem Qgm{k:IntKind}:∀{e:List D} {len off n:Nat},Qia k e off len=true->n<len->(e.getD (off+n) .dead).isInt k=true
 |e,len+1,off,0,h,_=>by simp only[Qia,aE]at h;exact h.1
 |e,len+1,off,n+1,h,hn=>by
  simp only[Qia,aE]at h
  have:=Qgm h.2 (n:=n) (by omega)
  rwa [show off+1+n=off+(n+1) by omega]at this
theorem Qdl:∀{e:List D} {len off n:Nat},Qh4 e off len=true->n<len->(e.getD (off+n) .dead).isBool=true
 |e,len+1,off,0,h,_=>by simp only[Qh4,aE]at h;exact h.1
 |e,len+1,off,n+1,h,hn=>by
  simp only[Qh4,aE]at h
  have:=Qdl h.2 (n:=n) (by omega)
  rwa [show off+1+n=off+(n+1) by omega]at this
theorem D.isInt_eq{k:IntKind}{d:D}(h:d.isInt k=true):d=.int k d.toInt:=by
 cases d<;>simp[D.isInt]at h
 subst h;rfl
theorem D.isBool_eq{d:D}(h:d.isBool=true):d=.bool d.toBool:=by
 cases d<;>simp[D.isBool]at h
 rfl
theorem XRep.int{pl:Bool}{c:Ctx}{w:World}{k:IntKind}{n:Int}{v:Value}(h:XRep pl c w (.int k n) v):v=.int k n:=by
 cases pl<;>simpa[XRep,Q38,Q4u,Q4s,Q39,Q3c,Q4p,Q8n,Q5v,Q5w,Q61,Q9m,Q41,Q46,Q44,Q60,Q5z,CRep]using h
theorem XRep.bool{pl:Bool}{c:Ctx}{w:World}{b:Bool}{v:Value}(h:XRep pl c w (.bool b) v):v=.bool b:=by
 cases pl<;>simpa[XRep,Q38,Q4u,Q4s,Q39,Q3c,Q4p,Q8n,Q5v,Q5w,Q61,Q9m,Q41,Q46,Q44,Q60,Q5z,CRep]using h
theorem Qtq{P:Program}{t:TypeId}{ti:TI}(ht:tiOf P t=some ti)(hk:(ti.kind.isAgg||match ti.kind with|.other=>true|_=>false)=false):ti.size=1:=by
 obtain⟨_,_,_,_,hl,hk1,_,_,hc,_⟩:=Q7k ht
 rw[<-hl,hc]
 rw[hk1]at hk
 unfold Qre at hk
 unfold Q4b
 split at hk<;>first|rfl|(simp[TK.isAgg]at hk)
theorem Qkp{P:Program}{t:TypeId}{w:World}{a:Addr}:(Instr.loadAt t (.pointer (some a))).run P w=(loadVar t a).run P w:=by
 simp[Instr.loadAt,Instr.sureAddr]
theorem Z68{P:Program}{T:Tab}(hT:Q34 P T){t:TypeId}{x:D}{R:Rows}{K:D->Rows->Prop}(h:Qfi T t x R K):
 ∃val,K val R/\∀c w v,Mem c w->Q4w c R->Rep c w x v->∃u,(Instr.loadAt t v).run P w=.ok u w/\Rep c w val u:=by
 unfold Qfi at h
 cases ht:T.get t with
 |none=>simp only[ht]at h
 |some ti=>
  simp only[ht]at h
  have hti:=hT.get ht
  obtain⟨i0,hi0,hs0,_,hl0,hk0,_⟩:=Q7k hti
  cases x<;>simp only at h
  case ptr r i off=>
   cases hR:R.getD r none with
   |none=>simp only[hR]at h
   |some row=>
    obtain⟨box,ty,sz,es⟩:=row
    simp only[hR,Q02]at h
    obtain⟨hle,h⟩:=h
    have hle:=lE hle
    obtain⟨val,hK,hagg,hr⟩:=Z5m hl0 h
    refine⟨val,hK,λc w v hm hA hv=>?_⟩
    obtain⟨row,h1,hV,h2,h3⟩:=hv
    have hrow:=hA r row _ h1 hR
    subst hrow
    obtain⟨arr,ha,hx⟩:=(hm.real h1 hV).get h2 hle
    simp only[Els.get_l es (show i<es.len by simpa using h2)]at hx
    subst h3
    refine⟨_,Qkp.trans (Qg0 hti ha (λj hj=>by obtain⟨v,hv,_⟩:=hx j hj;exact⟨v,hv⟩) hagg),hr c w arr _ hx⟩
  case pa r i off len k n=>
   cases hR:R.getD r none with
   |none=>simp only[hR]at h
   |some row=>
    obtain⟨box,ty,sz,es⟩:=row
    simp only[hR,Q02]at h
    obtain⟨hle,h⟩:=h
    have hle:=lE hle
    have one:(ti.kind.isAgg=false)->ti.size=1->∀c w v,Mem c w->Q4w c R->Rep c w (.pa r i off len k n) v->∃u,(Instr.loadAt t v).run P w=.ok u w/\XRep (!box) c w ((es.get i).getD (off+n) .dead) u/\n<len:=by
     intro hag hsz c w v hm hA hv
     obtain⟨hn,row,h1,hV,h2,h3⟩:=hv
     have hrow:=hA r row _ h1 hR
     subst hrow
     obtain⟨arr,ha,hx⟩:=(hm.real h1 hV).get h2 hle
     simp only[Els.get_l es (show i<es.len by simpa using h2)]at hx
     subst h3
     obtain⟨u,hu,hxr⟩:=hx n hn
     have hu':arr[i*sz+(off+n)]?=some u:=by rw[<-fO];exact hu
     refine⟨u,?_,hxr,hn⟩
     rw[Qkp,Qg0 hti ha (λj hj=>⟨u,by rw[show j=0 by omega];exact hu'⟩) (.inr hsz),hag]
     simp[hu']
    split at h
    ·rename_i j k' hk
     simp only[aE,decide_eq_true_eq]at h
     obtain⟨⟨rfl,hall⟩,h⟩:=h
     have hsz:ti.size=1:=Qtq hti (by rw[hk];simp[TK.isAgg])
     refine⟨_,h,λc w v hm hA hv=>?_⟩
     obtain⟨u,hu,hxr,hn⟩:=one (by rw[hk];rfl) hsz c w v hm hA hv
     rw[D.isInt_eq (Qgm hall hn)]at hxr
     have:=XRep.int hxr
     subst this
     exact⟨_,hu,by simp only[Rep,VRep,CRep];rw[Qti hn]⟩
    ·rename_i hk
     obtain⟨hall,h⟩:=h
     have hsz:ti.size=1:=Qtq hti (by rw[hk];simp[TK.isAgg])
     refine⟨_,h,λc w v hm hA hv=>?_⟩
     obtain⟨u,hu,hxr,hn⟩:=one (by rw[hk];rfl) hsz c w v hm hA hv
     rw[D.isBool_eq (Qdl hall hn)]at hxr
     have:=XRep.bool hxr
     subst this
     exact⟨_,hu,by simp only[Rep,VRep,CRep];rw[Qmv hn]⟩
    ·exact h.elim
  case iptr sz es i off=>
   simp only[Q02]at h
   obtain⟨hle,h⟩:=h
   have hle:=lE hle
   obtain⟨val,hK,hagg,hr⟩:=Z5m hl0 h
   refine⟨val,hK,λc w v hm hA hv=>?_⟩
   obtain⟨b,o,arr,ty,fz,h3,hI,hi,ha,hE⟩:=hv
   subst h3
   obtain⟨h1,h2⟩:=Qke hE hi
   rw[Els.get_l es (show i<es.len by simpa using hi)]at h1 h2
   have hx:∀j,j<ti.size->∃v,arr[o+i*sz+off+j]?=some v/\XRep true c w ((es.get i).getD (off+j) .dead) v:=λj hj=>by
    obtain⟨v,hv,hp⟩:=Qkj h2 (j:=off+j) (by omega)
    exact⟨v,by rw[<-hv];congr 1;omega,hp⟩
   exact⟨_,Qkp.trans (Qg0 hti ha (λj hj=>by obtain⟨v,hv,_⟩:=hx j hj;exact⟨v,hv⟩) hagg),hr c w arr _ hx⟩
def Ctx.imm(c:Ctx)(b:Nat):Ctx:={c with I:=λx=>c.I x\/x=b,top:=max c.top (b+1)}
theorem Qoq{c:Ctx}{w:World}(hm:Mem c w)(o:Obj):Q2n c w (c.imm w.heap.size) (w.alloc o):=
 ⟨rfl,Nat.le_max_left _ _,λb hb=>⟨.inl hb,Q5j w o b (hm.imm b hb).1⟩,λr x hr=>⟨x,hr,rfl,rfl,rfl,rfl,rfl,Iff.rfl,λnv arr ha=>⟨arr,by rw[Q5j w o _ (hm.lt hr nv)];exact ha,rfl⟩⟩⟩
theorem zV{c:Ctx}{w:World}(hm:Mem c w)(o:Obj):Mem (c.imm w.heap.size) (w.alloc o):=by
 refine⟨λr x hr=>Q2a (Qoq hm o) rfl Iff.rfl (λnv=>Q5j w _ _ (hm.lt hr nv)) (hm.row r x hr),hm.inj,λb hb=>?_,?_,hm.tab.mono (Qoq hm o).I⟩
 all_goals have hsz:(w.alloc o).heap.size=w.heap.size+1:=by show(w.heap.push o).size=_;simp
 rotate_left
 ·have:=hm.top;rw[hsz];exact Nat.max_le.2 ⟨by omega,aO _⟩
 rcases hb with hb|hb
 ·exact⟨by have:=(hm.imm b hb).1;omega,(hm.imm b hb).2⟩
 ·subst hb
  exact⟨by omega,λr x hr v=>by have:=hm.lt hr v;show c.ρ r≠w.heap.size;omega⟩

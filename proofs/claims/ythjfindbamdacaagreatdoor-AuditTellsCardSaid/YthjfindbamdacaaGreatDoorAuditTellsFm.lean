import Derived.Test.YthjfindbamdacaaGreatDoorAuditTellsVc
open Nat renaming le_refl->aO,le_trans->bH,beq->bT,lt_of_succ_lt_succ->fY,add_assoc->fZ
open List renaming map_cons->fS,length_cons->dH
open Bool renaming false_eq_true->aN
set_option linter.all false
namespace Go.GD
open Go
mutual
theorem Zqr{I I':ag}{w w':World}(h:∀b arr ty fz,I b->w.heap[b]?=some (.cells arr ty fz)->I' b/\w'.heap[b]?=some (.cells arr ty fz)):∀(d:D) (v:Value),fw I w d v->fw I' w' d v
 |_,_,.bool b=>.bool b
 |_,_,.int k n=>.int k n
 |_,_,.str s=>.str s
 |_,_,.iQ=>.iQ
 |_,_,.du=>.du
 |_,_,.emp a=>.emp a
 |_,_,.UC sz es fr a cap h0=>.UC sz es fr a cap h0
 |_,_,.UD sz es fr cap hc b off arr ty fz hI hh hE=>.UD sz es fr cap hc b off arr ty fz (h b arr ty fz hI hh).1 (h b arr ty fz hI hh).2 (ME h es.l arr off sz hE)
theorem Y7{I I':ag}{w w':World}(h:∀b arr ty fz,I b->w.heap[b]?=some (.cells arr ty fz)->I' b/\w'.heap[b]?=some (.cells arr ty fz)):∀(cs:List D) (arr:Array Value) (off:Nat),nT I w cs arr off->nT I' w' cs arr off
 |_,_,_,.nil arr off=>.nil arr off
 |_,_,_,.cons c cs arr off v hv hp hr=>.cons c cs arr off v hv (Zqr h c v hp) (Y7 h cs arr (off+1) hr)
theorem ME{I I':ag}{w w':World}(h:∀b arr ty fz,I b->w.heap[b]?=some (.cells arr ty fz)->I' b/\w'.heap[b]?=some (.cells arr ty fz)):∀(es:List (List D)) (arr:Array Value) (off sz:Nat),iN I w es arr off sz->iN I' w' es arr off sz
 |_,_,_,_,.nil arr off sz=>.nil arr off sz
 |_,_,_,_,.cons e es arr off sz hl hc hr=>.cons e es arr off sz hl (Y7 h e arr off hc) (ME h es arr (off+sz) sz hr)
end
theorem w7{I I':ag}{w w':World}(h:∀b,I b->I' b/\w'.heap[b]?=w.heap[b]?)(b:Nat)(arr:Array Value)(ty:TypeId)(fz:Nat×Nat)(hI:I b)(hh:w.heap[b]?=some (.cells arr ty fz)):I' b/\w'.heap[b]?=some (.cells arr ty fz):=⟨(h b hI).1,(h b hI).2.trans hh⟩
theorem Zkw{I I':ag}{w w':World}(h:∀b,I b->I' b/\w'.heap[b]?=w.heap[b]?)(cs:List D)(arr:Array Value)(off:Nat)(hp:nT I w cs arr off):nT I' w' cs arr off:=Y7 (w7 h) cs arr off hp
theorem oh{I I':ag}{w w':World}(h:∀b,I b->I' b/\w'.heap[b]?=w.heap[b]?)(es:List (List D))(arr:Array Value)(off sz:Nat)(hp:iN I w es arr off sz):iN I' w' es arr off sz:=ME (w7 h) es arr off sz hp
structure jq(c:Ctx)(w:World)(c':Ctx)(w':World):Prop where
 base:c'.base=c.base
 top:c.top<=c'.top
 I:∀b,c.I b->c'.I b/\w'.heap[b]?=w.heap[b]?
 R :∀r row,c.R r=some row->∃aq,c'.R r=some aq/\aq.box=row.box/\aq.ty=row.ty/\aq.sz=row.sz/\aq.es.l.length=row.es.l.length/\c'.ρ r=c.ρ r/\(c'.V r↔c.V r)/\
  (¬c.V r->∀arr,w.heap[c.ρ r]?=some (.cells arr row.ty (0,0))->∃iS,w'.heap[c.ρ r]?=some (.cells iS row.ty (0,0))/\iS.size=arr.size)
structure JM(c:Ctx)(w:World)(c':Ctx)(w':World):Prop where
 base:c'.base=c.base
 top:c.top<=c'.top
 I:∀b arr ty fz,c.I b->w.heap[b]?=some (.cells arr ty fz)->c'.I b/\w'.heap[b]?=some (.cells arr ty fz)
 R :∀r row,c.R r=some row->∃aq,c'.R r=some aq/\aq.box=row.box/\aq.ty=row.ty/\aq.sz=row.sz/\aq.es.l.length=row.es.l.length/\c'.ρ r=c.ρ r/\(c'.V r↔c.V r)/\
  (¬c.V r->∀arr,w.heap[c.ρ r]?=some (.cells arr row.ty (0,0))->∃iS,w'.heap[c.ρ r]?=some (.cells iS row.ty (0,0))/\iS.size=arr.size)
theorem jq.to0{c c':Ctx}{w w':World}(h:jq c w c' w'):JM c w c' w':=⟨h.base,h.top,w7 h.I,h.R⟩
theorem MF{c c':Ctx}{w w':World}(h:∀b,c.I b->c'.I b/\w'.heap[b]?=w.heap[b]?){f:Nat}{us:List Value}{v:Value}(hf:sf c w f us v):sf c' w' f us v:=by
 rcases hf with hf|⟨h1,l,rec,h2,h3,h4,h5⟩
 ·exact .inl hf
 ·exact .inr ⟨h1,l,rec,h2,(h l h3).1,(h l h3).2.trans h4,h5⟩
theorem jq.refl(c:Ctx)(w:World):jq c w c w:=
 ⟨rfl,aO _,λ_ h=>⟨h,rfl⟩,λ_ row h=>⟨row,h,rfl,rfl,rfl,rfl,rfl,Iff.rfl,λ_ arr h=>⟨arr,h,rfl⟩⟩⟩
theorem jq.trans{c c' SQ:Ctx}{w w' FT:World}(h:jq c w c' w')(g:jq c' w' SQ FT):jq c w SQ FT:=by
 refine⟨g.base.trans h.base,bH h.top g.top,λb hb=>⟨(g.I b (h.I b hb).1).1,(g.I b (h.I b hb).1).2.trans (h.I b hb).2⟩,λr row hr=>?_⟩
 obtain⟨aq,h1,h2,h3,h4,h5,h6,hV,h7⟩:=h.R r row hr
 obtain⟨oz,g1,g2,g3,g4,g5,g6,gV,g7⟩:=g.R r aq h1
 refine⟨oz,g1,g2.trans h2,g3.trans h3,g4.trans h4,g5.trans h5,g6.trans h6,gV.trans hV,λnv arr ha=>?_⟩
 obtain⟨iS,jJ,hs⟩:=h7 nv arr ha
 obtain⟨P6,P7,jn⟩:=g7 (λe=>nv (hV.1 e)) iS (by rw[h6,h3];exact jJ)
 exact⟨P6,by rw[h6,h3]at P7;exact P7,jn.trans hs⟩
theorem Y8{c c':Ctx}{w w':World}(h:JM c w c' w'):∀{d:D} {v:Value},(∀f cs,d≠.gj f cs)->cz c w d v->cz c' w' d v:=by
 intro d v gl hd
 cases d with
 |sl sz es fr=>
  simp only[cz]at hd⊢
  obtain⟨a,cap,hv,hc,gx⟩:=hd
  refine⟨a,cap,hv,hc,?_⟩
  rcases gx with gx|⟨b,off,arr,ty,fz,ha,hI,hf,hh,hE⟩
  ·exact .inl gx
  ·exact .inr ⟨b,off,arr,ty,fz,ha,(h.I b arr ty fz hI hh).1,λe=>by rw[h.base];exact hf e,(h.I b arr ty fz hI hh).2,ME h.I _ arr off sz hE⟩
 |all r=>
  simp only[cz]at hd⊢
  obtain⟨row,hr,hb,hd⟩:=hd
  obtain⟨aq,g1,g2,g3,g4,g5,g6,gV,g7⟩:=h.R r row hr
  refine⟨aq,g1,g2.trans hb,?_⟩
  rcases hd with⟨hV,hv⟩|⟨hV,cap,arr,hv,h1,h2,h3,h4⟩
  ·obtain⟨a,hv,ho⟩:=hv
   exact .inl ⟨gV.2 hV,a,hv,ho.mono h.top⟩
  ·obtain⟨iS,jJ,hs⟩:=g7 hV arr h3
   exact .inr ⟨λe=>hV (gV.1 e),cap,iS,by rw[hv,g5,g6],by rw[g5];exact h1,h2,by rw[g6,g3];exact jJ,by rw[g4,hs];exact h4⟩
 |emp=>
  obtain⟨a,hv,ho⟩:=hd
  exact⟨a,hv,ho.mono h.top⟩
 |own r o n=>
  simp only[cz]at hd⊢
  obtain⟨row,hr,hb,ho,hd⟩:=hd
  obtain⟨aq,g1,g2,g3,g4,g5,g6,gV,g7⟩:=h.R r row hr
  refine⟨aq,g1,g2.trans hb,by rw[g5];exact ho,?_⟩
  rcases hd with⟨h0,a,hv,jd⟩|⟨hV,cap,arr,h1,h2,h3,h4,h5⟩
  ·exact .inl ⟨h0,a,hv,jd.mono h.top gV g6⟩
  ·obtain⟨iS,jJ,hs⟩:=g7 hV arr h3
   exact .inr ⟨λe=>hV (gV.1 e),cap,iS,h1,h2,by rw[g6,g3];exact jJ,by rw[g4,g6];exact h4,by rw[g4,hs];exact h5⟩
 |ptr r i off=>
  simp only[cz]at hd⊢
  obtain⟨row,hr,hV,hi,hv⟩:=hd
  obtain⟨aq,g1,g2,g3,g4,g5,g6,gV,g7⟩:=h.R r row hr
  exact⟨aq,g1,λe=>hV (gV.1 e),by rw[g5];exact hi,by rw[hv,g6,g4]⟩
 |pa r i off len k n=>
  simp only[cz]at hd⊢
  obtain⟨hn,row,hr,hV,hi,hv⟩:=hd
  obtain⟨aq,g1,g2,g3,g4,g5,g6,gV,g7⟩:=h.R r row hr
  exact⟨hn,aq,g1,λe=>hV (gV.1 e),by rw[g5];exact hi,by rw[hv,g6,g4]⟩
 |iw sz es i off=>
  simp only[cz]at hd⊢
  obtain⟨b,o,arr,ty,fz,hv,hI,hi,hh,hE⟩:=hd
  exact⟨b,o,arr,ty,fz,hv,(h.I b arr ty fz hI hh).1,hi,(h.I b arr ty fz hI hh).2,ME h.I _ arr o sz hE⟩
 |c8 r=>
  rcases hd with hd|⟨row,hr,hV,hi,hv⟩
  ·exact .inl hd
  ·obtain⟨aq,g1,g2,g3,g4,g5,g6,gV,g7⟩:=h.R r row hr
   exact .inr ⟨aq,g1,λe=>hV (gV.1 e),by rw[g5];exact hi,by rw[hv,g6,g4]⟩
 |gj f cs=>exact absurd rfl (gl f cs)
 |_=>exact hd
theorem Z91{c c':Ctx}{w w':World}(h:jq c w c' w'){d:D}{v:Value}(gl:∀f cs,d≠.gj f cs)(hd:cz c w d v):cz c' w' d v:=Y8 h.to0 gl hd
theorem Y9{c c':Ctx}{w w':World}{S:Nat->Prop}{f:Nat->Nat}{cy:Bool}{Fk:Nat->Prop}(g:∀d v,(∀f cs,d≠.gj f cs)->(∀r∈nP d,S r)->cz c w d v->cz c' w' (d.mF f cy) v)(gF:∀k ws v,Fk k->sf c w k ws v->sf c' w' k ws v):
 ∀{cs:List iz} {us:List Value},(∀k ps,iz.fn k ps∈cs->Fk k)->(∀r∈oE cs,S r)->oR c w cs us->oR c' w' (cs.map (iz.jm f cy)) us
 |[],[],_,_,_=>trivial
 |x ::cs,u::us,hF,hS,⟨h1,h2⟩=>by
  refine⟨?_,Y9 g gF (λk ps hm=>hF k ps (by simp[hm])) (λr hr=>hS r (by simp[oE,hr])) h2⟩
  have UE:∀r∈Dd x,S r:=λr hr=>hS r (by simp[oE,hr])
  cases x with
  |fn k ps=>
   obtain⟨ws,hv,hw⟩:=h1
   refine⟨ws,gF k ws u (hF k ps (by simp)) hv,?_⟩
   have hS2:∀p∈ps,S p.1:=λp hp=>UE _ (by simp only[Dd,List.mem_map];exact⟨p,hp,rfl⟩)
   clear hv UE hS h2 hF
   induction ps generalizing ws with
   |nil=>cases ws<;>exact hw
   |cons p ps ih=>
    cases ws with
    |nil=>exact hw.elim
    |cons v ws=>exact⟨g (.ptr p.1 p.2.1 p.2.2) v (λ_ _ e=>by cases e) (λr hr=>by simp[nP]at hr;subst hr;exact hS2 p (by simp)) hw.1,ih ws hw.2 (λq hq=>hS2 q (by simp[hq]))⟩
  |ptr r i off=>exact g (.ptr r i off) u (λ_ _ e=>by cases e) UE h1
  |int k n=>exact h1
  |arr r=>exact g (.all r) u (λ_ _ e=>by cases e) UE h1
  |sl a b fr=>exact g (.sl a b fr) u (λ_ _ e=>by cases e) (λr hr=>by simp[nP]at hr) h1
 |[],_::_,_,_,h=>h.elim
 |_::_,[],_,_,h=>h.elim
theorem qt{d:D}(h:∀f cs,d≠.gj f cs):d.mF (λr=>r) true=d:=by cases d<;>first|(simp[D.mF];done)|exact absurd rfl (h _ _)
theorem Zs:∀{cs:List iz},cs.map (iz.jm (λr=>r) true)=cs
 |[]=>rfl
 |x::l=>by
  simp only[fS,Zs (cs:=l)]
  congr 1
  cases x<;>simp[iz.jm]
theorem Z97{c c':Ctx}{w w':World}{S:Nat->Prop}{Fk:Nat->Prop}(g:∀d v,(∀f cs,d≠.gj f cs)->(∀r∈nP d,S r)->cz c w d v->cz c' w' d v)(gF:∀k ws v,Fk k->sf c w k ws v->sf c' w' k ws v){cs:List iz}{us:List Value}(hF:∀k ps,iz.fn k ps∈cs->Fk k)(hS:∀r∈oE cs,S r)(h:oR c w cs us):oR c' w' cs us:=by
 have:=Y9 (f:=λr=>r) (cy:=true) (λd v h1 h2 h3=>by rw[qt h1];exact g d v h1 h2 h3) gF hF hS h
 rwa [Zs]at this
theorem YM{c c':Ctx}{w w':World}{S:Nat->Prop}(g:∀d v,(∀f cs,d≠.gj f cs)->(∀r∈nP d,S r)->cz c w d v->cz c' w' d v)(gF:∀b,c.I b->c'.I b/\w'.heap[b]?=w.heap[b]?){cs:List iz}{us:List Value}(hS:∀r∈oE cs,S r)(h:oR c w cs us):oR c' w' cs us:=
 Z97 (Fk:=λ_=>True) g (λ_ _ _ _=>MF gF) (λ_ _ _=>trivial) hS h
theorem Nv{c c':Ctx}{w w':World}(h:jq c w c' w'){d:D}{v:Value}(hd:cz c w d v):cz c' w' d v:=by
 by_cases e:∃f cs,d=.gj f cs
 ·obtain⟨f,cs,rfl⟩:=e
  obtain⟨us,hv,hu⟩:=hd
  exact⟨us,MF h.I hv,YM (S:=λ_=>True) (λd v h1 _ h2=>Z91 h h1 h2) h.I (λ_ _=>trivial) hu⟩
 ·exact Z91 h (λf cs e'=>e ⟨f,cs,e'⟩) hd
theorem NC{l:List Nat}(h:sI l=true){k:Nat}(hk:k∈l):k<YB:=lE (List.all_eq_true.1 h k hk)
theorem Zml:∀{cs:List iz} {k:Nat} {ps:List (Nat×Nat×Nat)},iz.fn k ps∈cs->k∈Ba cs
 |x ::l,k,ps,hm=>by
  rcases List.mem_cons.1 hm with e|e
  ·subst e;simp[Ba]
  ·have:=Zml e
   cases x<;>simp[Ba,this]
 |[],_,_,hm=>by simp at hm
section
variable {c c':Ctx} {w w':World} (h:JM c w c' w') {Fk:Nat->Prop} (gF:∀k ws v,Fk k->sf c w k ws v->sf c' w' k ws v)
include h gF
theorem Zt{d:D}{v:Value}(hn:∀k∈Bb d,Fk k)(hd:cz c w d v):cz c' w' d v:=by
 by_cases e:∃f cs,d=.gj f cs
 ·obtain⟨f,cs,rfl⟩:=e
  obtain⟨us,hv,hu⟩:=hd
  exact⟨us,gF _ _ _ (hn f (by simp[Bb])) hv,Z97 (S:=λ_=>True) (Fk:=Fk) (λd v h1 _ h2=>Y8 h h1 h2) gF (λk ps hm=>hn k (by simp[Bb,Zml hm])) (λ_ _=>trivial) hu⟩
 ·exact Y8 h (λf cs e'=>e ⟨f,cs,e'⟩) hd
theorem Zad:∀{ds:List D} {vs:List Value},(∀k∈rJ ds,Fk k)->jt c w ds vs->jt c' w' ds vs
 |[],[],_,_=>trivial
 |_::_,_::_,hn,⟨h1,h2⟩=>⟨Zt h gF (λk hk=>hn k (by simp[rJ,hk])) h1,Zad (λk hk=>hn k (by simp[rJ,hk])) h2⟩
 |[],_::_,_,h=>h.elim
 |_::_,[],_,h=>h.elim
theorem Zhp{d:D}{v:Value}(hn:∀k∈FU d,Fk k)(hd:VRep c w d v):VRep c' w' d v:=by
 cases d with
 |agg cs=>obtain⟨vs,hv,hr⟩:=hd;exact⟨vs,hv,Zad h gF hn hr⟩
 |_=>simp only[VRep]at hd⊢;exact Zt h gF hn hd
theorem Zu:∀{ds:List D} {vs:List Value},(∀k∈pI ds,Fk k)->kr c w ds vs->kr c' w' ds vs
 |[],[],_,_=>trivial
 |_::_,_::_,hn,⟨h1,h2⟩=>⟨Zhp h gF (λk hk=>hn k (by simp[pI,hk])) h1,Zu (λk hk=>hn k (by simp[pI,hk])) h2⟩
 |[],_::_,_,h=>h.elim
 |_::_,[],_,h=>h.elim
theorem Zny{d:D}{v:Value}(hn:∀k∈De d,Fk k)(hd:Rep c w d v):Rep c' w' d v:=by
 cases d with
 |dt ds=>obtain⟨vs,hv,hr⟩:=hd;exact⟨vs,hv,Zu h gF hn hr⟩
 |dead=>trivial
 |_=>simp only[Rep]at hd⊢;exact Zhp h gF hn hd
theorem Z3h:∀{ds:List D} {arr:Array Value} {off:Nat},(∀k∈rJ ds,Fk k)->kU c w ds arr off->kU c' w' ds arr off
 |[],_,_,_,_=>trivial
 |_::_,_,_,hn,⟨⟨v,hv,h1⟩,h2⟩=>⟨⟨v,hv,Zt h gF (λk hk=>hn k (by simp[rJ,hk])) h1⟩,Z3h (λk hk=>hn k (by simp[rJ,hk])) h2⟩
end
theorem Z8f{c c':Ctx}{w w':World}(h:jq c w c' w'):∀{ds:List D} {vs:List Value},jt c w ds vs->jt c' w' ds vs
 |[],[],_=>trivial
 |_::_,_::_,⟨h1,h2⟩=>⟨Nv h h1,Z8f h h2⟩
theorem Zho{c c':Ctx}{w w':World}(h:jq c w c' w'):∀{d:D} {v:Value},VRep c w d v->VRep c' w' d v:=by
 intro d v hd
 cases d with
 |agg cs=>obtain⟨vs,hv,hr⟩:=hd;exact⟨vs,hv,Z8f h hr⟩
 |_=>simp only[VRep]at hd⊢;exact Nv h hd
theorem WD{c c':Ctx}{w w':World}(h:jq c w c' w'):∀{ds:List D} {vs:List Value},kr c w ds vs->kr c' w' ds vs
 |[],[],_=>trivial
 |_::_,_::_,⟨h1,h2⟩=>⟨Zho h h1,WD h h2⟩
theorem Ao{c c':Ctx}{w w':World}(h:jq c w c' w'):∀{d:D} {v:Value},Rep c w d v->Rep c' w' d v:=by
 intro d v hd
 cases d with
 |dt ds=>obtain⟨vs,hv,hr⟩:=hd;exact⟨vs,hv,WD h hr⟩
 |dead=>trivial
 |_=>simp only[Rep]at hd⊢;exact Zho h hd
theorem Nw{c c':Ctx}{w w':World}(h:jq c w c' w'):∀{ds:List D} {arr:Array Value} {off:Nat},kU c w ds arr off->kU c' w' ds arr off
 |[],_,_,_=>trivial
 |_::_,_,_,⟨⟨v,hv,h1⟩,h2⟩=>⟨⟨v,hv,Nv h h1⟩,Nw h h2⟩
def tD(I:ag)(w:World):Prop:=∀x∈Ku,I x.1/\∃ty fz,w.heap[x.1]?=some (.cells (x.2.2.map λz=>Value.int x.2.1 z).toArray ty fz)
theorem tD.Hw{I I':ag}{w w':World}(h:tD I w)(g:∀b arr ty fz,I b->w.heap[b]?=some (.cells arr ty fz)->I' b/\w'.heap[b]?=some (.cells arr ty fz)):tD I' w':=λx hx=>by
 obtain⟨h1,ty,fz,h2⟩:=h x hx
 exact⟨(g _ _ _ _ h1 h2).1,ty,fz,(g _ _ _ _ h1 h2).2⟩
theorem tD.mono{I I':ag}{w w':World}(h:tD I w)(g:∀b,I b->I' b/\w'.heap[b]?=w.heap[b]?):tD I' w':=h.Hw (w7 g)
structure Mem(c:Ctx)(w:World):Prop where
 row:∀r row,c.R r=some row->EZ c w r row
 inj:∀r s x y,c.R r=some x->c.R s=some y->¬c.V r->¬c.V s->c.ρ r=c.ρ s->r=s
 fk:∀b,c.I b->b<w.heap.size/\∀r x,c.R r=some x->¬c.V r->c.ρ r≠b
 top:c.top<=w.heap.size
 kX:tD c.I w
theorem Zv{c:Ctx}{w w':World}{I:ag}(hm:Mem c w)(h:JM c w {c with I:=I} w')(hh:∀r x,c.R r=some x->¬c.V r->w'.heap[c.ρ r]?=w.heap[c.ρ r]?){Fk:Nat->Prop}(gF:∀k ws v,Fk k->sf c w k ws v->sf {c with I:=I} w' k ws v)
 (hn:∀r x,c.R r=some x->∀k∈lr [x],Fk k) (hI:∀b,I b->b<w'.heap.size/\∀r x,c.R r=some x->¬c.V r->c.ρ r≠b) (hs:w.heap.size<=w'.heap.size):Mem {c with I:=I} w':=by
 refine⟨λr row hr=>?_,hm.inj,λb hb=>hI b hb,bH hm.top hs,hm.kX.Hw h.I⟩
 rcases hm.row r row hr with g|⟨g0,arr,g1,g2,g3⟩
 ·exact .inl g
 ·refine .inr ⟨g0,arr,(hh r row hr g0).trans g1,g2,?_⟩
  split at g3
  ·rename_i hb
   rw[if_pos hb]
   obtain⟨e,k1,k2,k3,k4⟩:=g3
   refine⟨e,k1,k2,k3,Z3h h gF (λk hk=>hn r row hr k ?_) k4⟩
   obtain⟨bx,ty,sz,es⟩:=row
   simp only at hb k1
   subst hb;subst k1
   simpa[lr]using hk
  ·rename_i hb
   rw[if_neg hb]
   exact ME h.I _ _ _ _ g3
theorem Mem.real{c:Ctx}{w:World}(h:Mem c w){r:Nat}{row:Row}(hr:c.R r=some row)(hV:¬c.V r):w9 c w r row:=by
 rcases h.row r row hr with h1|h1
 ·exact(hV h1.1).elim
 ·exact h1.2
theorem Mem.oi{c:Ctx}{w:World}(h:Mem c w){r:Nat}{row:Row}(hr:c.R r=some row)(hV:c.V r):row.box=false/\row.es.l=[]/\0<row.sz:=by
 rcases h.row r row hr with h1|h1
 ·exact h1.2
 ·exact(h1.1 hV).elim
theorem Mem.lt{c:Ctx}{w:World}(h:Mem c w){r:Nat}{row:Row}(hr:c.R r=some row)(hV:¬c.V r):c.ρ r<w.heap.size:=by
 obtain⟨arr,ha,_⟩:=h.real hr hV
 by_cases cq:c.ρ r<w.heap.size
 ·exact cq
 ·rw[Array.getElem?_eq_none (by omega)]at ha;cases ha
structure Fr(X:ag)(w w':World):Prop where
 os:w'.os=w.os
 tape:w'.tape=w.tape
 output:w'.output=w.output
 size:w.heap.size<=w'.heap.size
 heap:∀b,b<w.heap.size->¬X b->w'.heap[b]?=w.heap[b]?
theorem Fr.refl(X:ag)(w:World):Fr X w w:=⟨rfl,rfl,rfl,aO _,λ_ _ _=>rfl⟩
theorem Fr.trans{X:ag}{w w' FT:World}(h:Fr X w w')(g:Fr X w' FT):Fr X w FT:=
 ⟨g.os.trans h.os,g.tape.trans h.tape,g.output.trans h.output,bH h.size g.size,λb hb hx=>(g.heap b (Nat.lt_of_lt_of_le hb h.size) hx).trans (h.heap b hb hx)⟩
theorem Fr.mono{X Y:ag}{w w':World}(h:Fr X w w')(hxy:∀b,b<w.heap.size->X b->Y b):Fr Y w w':=
 ⟨h.os,h.tape,h.output,h.size,λb hb hy=>h.heap b hb λhx=>hy (hxy b hb hx)⟩
def mi(P:Program):Nat->TypeId->List rm
 |0,_=>[]
 |n+1,t=>match P.underlying t with
  |some (.int k)=>[.int k]
  |some .bool=>[.bool]
  |some .string=>[.str]
  |some (.slice e)=>[.sl (P.cellsOf e)]
  |some (.struct fs)=>fs.toList.flatMap λf=>mi P n f.type
  |some (.array m e)=>(List.replicate m (mi P n e)).flatten
  |_=>[.other]
def Hx(P:Program)(t:TypeId):TK:=
 match P.underlying t with
 |some (.int k)=>.int k
 |some .bool=>.bool
 |some .string=>.string
 |some (.slice e)=>.slice e (P.cellsOf e)
 |some (.struct fs)=>.struct (fs.toList.map λf=>(f.offset,f.type,P.cellsOf f.type))
 |some (.array n e)=>.array n e (P.cellsOf e)
 |_=>.other
def UF(P:Program)(g:TypeId->Bool)(l:TypeId->Nat):List Field->Nat->Bool
 |[],_=>true
 |f::fs,o=>f.name != "_" &&bT f.offset o&&bT (P.cellsOf f.type) (l f.type)&&Nat.blt 0 (l f.type)&&g f.type&&UF P g l fs (o+l f.type)
def rK(P:Program):Nat->TypeId->Bool
 |0,_=>false
 |n+1,t=>match P.underlying t with
  |some (.int _)=>true
  |some .bool=>true
  |some .string=>true
  |some (.struct fs)=>!P.stoodInHeld t&&UF P (rK P n) (λu=>(mi P n u).length) fs.toList 0
  |some (.array _ e)=>bT (P.cellsOf e) (mi P n e).length&&Nat.blt 0 (P.cellsOf e)&&rK P n e
  |_=>false
def Bc(P:Program)(t:TypeId):Option TI:=
 match P.info? t with
 |some i=>if(mi P 8 t).length=i.size/\(P.underlying t).isSome=true then
  some ⟨Hx P t,i.size,i.bytes,mi P 8 t,i.zero.bind λz=>BD z.cells.toList,!(P.eqGuardType P.depth t)&&rK P 8 t⟩else none
 |none=>none
def jF(P:Program)(T:fj):Prop:=T.map (λx=>Bc P x.1)=T.map (λx=>some x.2)
theorem jF.get{P:Program}{T:fj}(h:jF P T){t:TypeId}{i:TI}(hi:T.get t=some i):Bc P t=some i:=by
 induction T with
 |nil=>simp[fj.get]at hi
 |cons x l ih=>
  obtain⟨u,j⟩:=x
  simp only[jF,fS,List.cons.injEq]at h
  simp only[fj.get]at hi
  cases hb:bT u t with
  |true=>
   simp only[hb,Option.some.injEq]at hi
   have:=bE hb
   subst this;subst hi
   exact h.1
  |false=>simp only[hb]at hi;exact ih h.2 hi
theorem nm{K:Rows->Prop}:∀{R:Rows},tW R K↔K R
 |[]=>Iff.rfl
 |d::l=>by unfold tW;exact nm (R:=l) (K:=λl=>K (d::l))
theorem D.cv{K:D->Prop}{d:D}:d.force K↔K d:=by cases d<;>rfl
theorem D.fh:∀{l:List D} {K:List D->Prop},D.j4 l K↔K l
 |[],_=>Iff.rfl
 |d::l,K=>by unfold D.j4;rw[D.cv];exact D.fh (l:=l) (K:=λl=>K (d::l))
theorem Zfl{row:Row}:∀{R:Rows} {n:Nat} {K:Nat->Rows->Prop},Aa row R n K↔K (n+R.length) (R++[some row])
 |[],_,_=>Iff.rfl
 |x::l,n,K=>by
  unfold Aa
  rw[Zfl (R:=l) (K:=λk l=>K k (x::l))]
  simp only[dH,List.cons_append]
  rw[show n+1+l.length=n+(l.length+1) by omega]
theorem Nx{row:Row}{R:Rows}{K:Nat->Rows->Prop}:Bd R row K↔K R.length (R++[some row]):=by
 unfold Bd;rw[Zfl];simp
theorem fw.one{I:ag}{w:World}{d:D}{v:Value}(h:fw I w d v):v.oneCell'=true:=by
 cases d<;>simp only[sB,rV,sC,sD,Q4,sE,tG,ug,uh,ui,uj,uk,um,uo,uq,ur,zP,Zov,Zof]at h
 case sl sz es fr=>obtain⟨a,cap,hv,_⟩:=h;subst hv;rfl
 case emp=>obtain⟨a,hv⟩:=h;subst hv;rfl
 all_goals first|(subst h;rfl)|exact h.elim
theorem cz.one{c:Ctx}{w:World}{d:D}{v:Value}(h:cz c w d v):v.oneCell'=true:=by
 cases d<;>simp only[cz]at h
 case sl sz es fr=>obtain⟨a,cap,hv,_⟩:=h;subst hv;rfl
 case emp=>obtain⟨a,hv,_⟩:=h;subst hv;rfl
 case rk es=>obtain⟨b,hv,_⟩:=h;subst hv;rfl
 case all r=>obtain⟨row,_,_,⟨_,a,hv,_⟩|⟨_,cap,arr,hv,_⟩⟩:=h<;>(subst hv;rfl)
 case own r o n=>
  obtain⟨row,_,_,_,⟨_,a,hv,_⟩|⟨_,cap,arr,_,_,_,hv,_⟩⟩:=h<;>(subst hv;rfl)
 case ptr r i off=>obtain⟨row,_,_,_,hv⟩:=h;subst hv;rfl
 case pa r i off len k n=>obtain⟨_,row,_,_,_,hv⟩:=h;subst hv;rfl
 case iw sz es i off=>obtain⟨b,o,arr,ty,fz,hv,_⟩:=h;subst hv;rfl
 case gj f cs=>obtain⟨us,⟨_,hv⟩|⟨_,l,rec,hv,_⟩,_⟩:=h<;>(subst hv;rfl)
 case c8 r=>obtain hv|⟨row,_,_,_,hv⟩:=h<;>(subst hv;rfl)
 all_goals first|exact h|(subst h;rfl)|exact h.elim
theorem UG{I:ag}{w:World}:∀{cs:List D} {arr:Array Value} {off j:Nat},nT I w cs arr off->j<cs.length->∃v,arr[off+j]?=some v/\fw I w (cs.getD j .dead) v
 |c::cs,arr,off,0,h,_=>by
  simp only[BU,Aw]at h
  simpa using h.1
 |c::cs,arr,off,j+1,h,hj=>by
  simp only[BU,Aw]at h
  obtain⟨v,hv,hp⟩:=UG h.2 (fY (by simpa using hj))
  exact⟨v,by rw[show off+(j+1)=off+1+j by omega];exact hv,by simpa using hp⟩
theorem UH{I:ag}{w:World}:∀{es:List (List D)} {arr:Array Value} {off sz i:Nat},iN I w es arr off sz->i<es.length->(es.getD i []).length=sz/\nT I w (es.getD i []) arr (off+i*sz)
 |e::es,arr,off,sz,0,h,_=>by
  simp only[pT,oq]at h
  simpa using⟨h.1,h.2.1⟩
 |e::es,arr,off,sz,i+1,h,hi=>by
  simp only[pT,oq]at h
  obtain⟨h1,h2⟩:=UH h.2.2 (fY (by simpa using hi))
  exact⟨by simpa using h1,by rw[show off+(i+1)*sz=off+sz+i*sz by rw[Nat.succ_mul];omega];simpa using h2⟩
theorem Z8u{c:Ctx}{w:World}:∀{cs:List D} {arr:Array Value} {off j:Nat},kU c w cs arr off->j<cs.length->∃v,arr[off+j]?=some v/\cz c w (cs.getD j .dead) v
 |d::cs,arr,off,0,h,_=>by
  simp only[kU]at h
  simpa using h.1
 |d::cs,arr,off,j+1,h,hj=>by
  simp only[kU]at h
  obtain⟨v,hv,hp⟩:=Z8u h.2 (fY (by simpa using hj))
  exact⟨v,by rw[show off+(j+1)=off+1+j by omega];exact hv,by simpa using hp⟩
theorem EC{c:Ctx}{w:World}:∀{ds:List D} {vs:List Value},(jt c w ds vs↔ds.length=vs.length/\∀j v,vs[j]?=some v->cz c w (ds.getD j .dead) v)
 |[],[]=>by simp[jt]
 |[],v::vs=>by simp[jt]
 |d::ds,[]=>by simp[jt]
 |d ::ds,v::vs=>by
  simp only[jt,EC (ds:=ds) (vs:=vs),dH,Nat.add_right_cancel_iff]
  constructor
  ·rintro⟨h1,h2,h3⟩
   refine⟨h2,λj u hu=>?_⟩
   cases j with
   |zero=>simp at hu;subst hu;simpa using h1
   |succ j=>simpa using h3 j u (by simpa using hu)
  ·rintro⟨h1,h2⟩
   exact⟨by simpa using h2 0 v (by simp),h1,λj u hu=>by simpa using h2 (j+1) u (by simpa using hu)⟩
def kj(pl:Bool)(c:Ctx)(w:World)(d:D)(v:Value):Prop:=match pl with|true=>fw c.I w d v|false=>cz c w d v
theorem Zgp{pl:Bool}{ty:rm}{d:D}{K:D->Prop}(h:uV pl ty d K):∃d',K d'/\∀c w v,kj pl c w d v->cz c w d' v:=by
 cases ty with
 |int k=>
  simp only[uV,c9]at h
  refine⟨_,h.2,λc w v hx=>?_⟩
  cases d<;>simp[D.isInt]at h
  obtain⟨rfl,_⟩:=h
  cases pl<;>simpa[kj,sB,rV,sC,sD,Q4,sE,tG,ug,uh,ui,uj,uk,um,uo,uq,ur,cz,D.toInt]using hx
 |bool=>
  simp only[uV,c9]at h
  refine⟨_,h.2,λc w v hx=>?_⟩
  cases d<;>simp[D.isBool]at h
  cases pl<;>simpa[kj,sB,rV,sC,sD,Q4,sE,tG,ug,uh,ui,uj,uk,um,uo,uq,ur,cz,D.toBool]using hx
 |str=>
  simp only[uV,c9]at h
  refine⟨_,h.2,λc w v hx=>?_⟩
  cases d<;>simp[D.isStr]at h
  cases pl<;>simpa[kj,sB,rV,sC,sD,Q4,sE,tG,ug,uh,ui,uj,uk,um,uo,uq,ur,cz,D.toStr]using hx
 |sl n=>
  cases pl with
  |true=>
   simp only[uV,c9]at h
   refine⟨_,h.2,λc w v hx=>?_⟩
   cases d<;>(try(simp[D.FV]at h;done))
   case du=>exact⟨none,0,Q4.1 hx,Nat.zero_le _,.inl rfl⟩
   case emp=>obtain⟨a,ha⟩:=sE.1 hx;exact⟨a,0,ha,Nat.zero_le _,.inl rfl⟩
   simp only[D.FV]at h
   have hh:=bE h.1
   subst hh
   simp only[kj,sB,rV,sC,sD,Q4,sE,tG,ug,uh,ui,uj,uk,um,uo,uq,ur]at hx
   simp only[cz,D.toEs]
   obtain⟨a,cap,hv,hc,gx⟩:=hx
   refine⟨a,cap,hv,hc,?_⟩
   rcases gx with gx|⟨b,off,arr,ty,fz,ha,hI,hh,hE⟩
   ·exact .inl gx
   ·exact .inr ⟨b,off,arr,ty,fz,ha,hI,by simp,hh,SX.1 hE⟩
  |false=>
   simp only[uV,c9,D.cv]at h
   exact⟨_,h.2,λc w v hx=>hx⟩
 |other=>
  cases pl with
  |false=>
   simp only[uV,c9,D.cv]at h
   exact⟨_,h.2,λc w v hx=>hx⟩
  |true=>
   simp only[uV]at h
   cases d<;>simp only at h
   case iQ=>exact⟨_,h,λc w v hx=>sD.1 hx⟩
theorem Z86{pl:Bool}{e:List D}:∀{da:List rm} {off:Nat} {K:List D->Prop},JN pl e da off K->
 ∃ds,K ds/\ds.length=da.length/\∀j,j<da.length->∀c w v,kj pl c w (e.getD (off+j) .dead) v->cz c w (ds.getD j .dead) v
 |[],off,K,h=>⟨[],h,rfl,λj hj=>by simp at hj⟩
 |t::ts,off,K,h=>by
  simp only[JN]at h
  obtain⟨d,hd,h1⟩:=Zgp h
  obtain⟨ds,ED,hl,h2⟩:=Z86 hd
  refine⟨d::ds,ED,by simp[hl],λj hj c w v hx=>?_⟩
  cases j with
  |zero=>simpa using h1 c w v (by simpa using hx)
  |succ j=>simpa using h2 j (by simpa using hj) c w v (by rw[show off+1+j=off+(j+1) by omega];exact hx)
theorem DV{P:Program}{t:TypeId}{ti:TI}(h:Bc P t=some ti):∃i,P.info? t=some i/\i.size=ti.size/\i.bytes=ti.bytes/\ti.s9.length=ti.size/\ti.kind=Hx P t/\
 ti.zero=(i.zero.bind λz=>BD z.cells.toList)/\ti.eq=(!(P.eqGuardType P.depth t)&&rK P 8 t)/\ti.s9=mi P 8 t/\∃d,P.underlying t=some d:=by
 unfold Bc at h
 cases hi:P.info? t with
 |none=>simp[hi]at h
 |some i=>
  simp only[hi]at h
  split at h
  ·rename_i hl
   simp only[Option.some.injEq]at h
   subst h
   exact⟨i,rfl,rfl,rfl,hl.1,rfl,rfl,rfl,rfl,Option.isSome_iff_exists.1 hl.2⟩
  ·cases h
def P8:TypeDesc->Bool|.struct _=>true|.array _ _=>true|_=>false
theorem MG{P:Program}{t:TypeId}{d:TypeDesc}(hd:P.underlying t=some d):(Hx P t).isAgg=P8 d:=by
 unfold Hx
 rw[hd]
 cases d<;>rfl
theorem Zw{P:Program}{t:TypeId}{d:TypeDesc}(hd:P.underlying t=some d)(w:World):(isAgg t).run P w=.ok (Hx P t).isAgg w:=by
 rw[MG hd]
 unfold isAgg
 rw[Sem.run_bind,run_underlying hd w]
 cases d<;>rfl
def Be(arr:Array Value)(o n:Nat):List Value:=(List.range n).map λj=>(arr[o+j]?).getD undef
theorem FL(b o j:Nat):(⟨b,o,none⟩:Addr).add j=⟨b,o+j,none⟩:=by
 unfold Addr.add;split<;>simp_all
theorem Zx{P:Program}{t:TypeId}{ti:TI}(ht:Bc P t=some ti){w:World}{b o:Nat}{arr:Array Value}{ty:TypeId}{fz:Nat×Nat}(hb:w.heap[b]?=some (.cells arr ty fz))
 (Tw:∀j,j<ti.size->∃v,arr[o+j]?=some v) (h1:ti.kind.isAgg=true\/ti.size=1):
 (loadVar t ⟨b,o,none⟩).run P w=.ok (if ti.kind.isAgg then .agg (Be arr o ti.size).toArray else(arr[o]?).getD undef) w:=by
 obtain⟨i,hi,hs,_,_,hk,_,_,_,d,hd⟩:=DV ht
 have mz:∀j,w.cell? ⟨b,o+j,none⟩=arr[o+j]? :=λj=>by simp[World.cell?,hb]
 have hl:(loadCells ⟨b,o,none⟩ ti.size).run P w=.ok (Be arr o ti.size).toArray w:=
  run_loadCells w _ _ _ λj hj=>by
   rw[FL,mz]
   obtain⟨v,hv⟩:=Tw j hj
   simp[hv]
 unfold loadVar
 rw[Sem.run_bind,Zw hd,Result.andThen_ok,<-hk]
 cases hg:ti.kind.isAgg with
 |true=>
  simp only[if_true,Sem.run_bind,sizeOf,typeInfo,run_program,Result.andThen_ok,hi,Sem.run_pure,hs,hl]
 |false=>
  have fv:ti.size=1:=by simpa[hg]using h1
  obtain⟨v,hv⟩:=Tw 0 (by omega)
  have MH:arr[o]?=some v:=by simpa using hv
  have hc:w.cell? ⟨b,o,none⟩=some v:=by simpa[MH]using mz 0
  simp[hc,MH]
theorem Zi5{pl:Bool}{ti:TI}{e:List D}{off:Nat}{K:D->Prop}(hl:ti.s9.length=ti.size)(h:uW pl ti e off K):
 ∃ val,K val/\(ti.kind.isAgg=true\/ti.size=1)/\∀c w arr o,(∀j,j<ti.size->∃v,arr[o+j]?=some v/\kj pl c w (e.getD (off+j) .dead) v)->
  Rep c w val (if ti.kind.isAgg then .agg (Be arr o ti.size).toArray else(arr[o]?).getD undef):=by
 unfold uW at h
 cases hg:ti.kind.isAgg with
 |true=>
  simp only[hg]at h
  obtain⟨ds,hK,hlen,hr⟩:=Z86 h
  refine⟨_,hK,.inl rfl,λc w arr o hx=>?_⟩
  simp only[if_true]
  refine⟨_,rfl,EC.2 ⟨by simp[Be,hlen,hl],λj v hv=>?_⟩⟩
  have hj:j<ti.size:=by
   have:=(List.getElem?_eq_some_iff.1 hv).1
   simpa[Be]using this
  obtain⟨u,hu,uE⟩:=hx j hj
  have:u=v:=by simpa[Be,hj,hu]using hv
  subst this
  exact hr j (by omega) c w u uE
 |false=>
  simp only[hg]at h
  match hc:ti.s9 with
  |[y]=>
   simp only[hc]at h
   obtain⟨d,hK,hr⟩:=Zgp h
   have fv:ti.size=1:=by rw[<-hl,hc];rfl
   refine⟨d,hK,.inr fv,λc w arr o hx=>?_⟩
   obtain⟨u,hu,uE⟩:=hx 0 (by omega)
   have UI:arr[o]?=some u:=by simpa using hu
   simp only[aN,if_false,UI,Option.getD_some]
   have:=hr c w u (by simpa using uE)
   cases d<;>first|exact this|trivial|exact this.elim
  |[]=>simp only[hc]at h
  |_::_::_=>simp only[hc]at h
def mK(c:Ctx)(R:Rows):Prop:=∀r row aq,c.R r=some row->R.getD r none=some aq->row=aq
theorem AD(w:World)(o:Obj)(b:Nat)(h:b<w.heap.size):(w.alloc o).heap[b]?=w.heap[b]? :=by
 show(w.heap.push o)[b]?=w.heap[b]?
 rw[Array.getElem?_push,if_neg (Nat.ne_of_lt h)]
theorem UJ(w:World)(o:Obj):(w.alloc o).heap[w.heap.size]?=some o:=by
 show(w.heap.push o)[w.heap.size]?=some o
 simp
def Ctx.add(c:Ctx)(k:Nat)(row:Row)(b:Nat):Ctx:={c with R:=λr=>if r=k then some row else c.R r,ρ:=λr=>if r=k then b else c.ρ r,V:=λr=>r≠k/\c.V r}
theorem Ctx.jg(c:Ctx)(k:Nat)(row:Row)(b:Nat):(c.add k row b).R k=some row/\(c.add k row b).ρ k=b:=by simp[Ctx.add]
theorem jq.alloc{c:Ctx}{w:World}(hm:Mem c w){k:Nat}(hk:c.R k=none)(row:Row)(o:Obj):jq c w (c.add k row w.heap.size) (w.alloc o):=by
 refine⟨rfl,aO _,λb hb=>⟨hb,AD w o b (hm.fk b hb).1⟩,λr x hr=>?_⟩
 have gl:r≠k:=λe=>by rw[e,hk]at hr;cases hr
 refine⟨x,by simp[Ctx.add,gl,hr],rfl,rfl,rfl,rfl,by simp[Ctx.add,gl],by simp[Ctx.add,gl],λnv arr ha=>⟨arr,?_,rfl⟩⟩
 rw[AD w o _ (hm.lt hr nv)];exact ha
theorem Fr.alloc(X:ag)(w:World)(o:Obj):Fr X w (w.alloc o):=
 ⟨rfl,rfl,rfl,by show w.heap.size<=(w.heap.push o).size;simp,λb hb _=>AD w o b hb⟩
theorem ue{c c':Ctx}{w w':World}(h:jq c w c' w'){r:Nat}{row:Row}(P9:c'.ρ r=c.ρ r)(hV:c'.V r↔c.V r)(hh:¬c.V r->w'.heap[c.ρ r]?=w.heap[c.ρ r]?)(hr:EZ c w r row):EZ c' w' r row:=by
 rcases hr with⟨h0,hr⟩|⟨h0,hr⟩
 ·exact .inl ⟨hV.2 h0,hr⟩
 refine .inr ⟨λe=>h0 (hV.1 e),?_⟩
 obtain⟨arr,ha,hs,hx⟩:=hr
 refine⟨arr,by rw[P9,hh h0];exact ha,hs,?_⟩
 split
 ·rename_i hb
  simp only[hb,if_true]at hx
  obtain⟨e,h1,h2,h3,h4⟩:=hx
  exact⟨e,h1,h2,h3,Nw h h4⟩
 ·rename_i hb
  simp only[hb,if_false,aN]at hx
  exact oh h.I _ _ _ _ hx
theorem Mem.alloc{c:Ctx}{w:World}(hm:Mem c w){k:Nat}(hk:c.R k=none)(row:Row)(arr:Array Value)(hs:0<row.sz)
 (hx:if row.box then∃e,row.es=.gen [e]/\e.length=row.sz/\arr.size=row.sz/\kU c w e arr 0 else iN c.I w row.es.l arr 0 row.sz):
 Mem (c.add k row w.heap.size) (w.alloc (.cells arr row.ty)):=by
 have hg:=jq.alloc hm hk row (.cells arr row.ty)
 refine⟨λr x hr=>?_,λr s x y hr jn JO MI he=>?_,λb hb=>?_,bH hm.top (by show w.heap.size<=(w.heap.push _).size;simp),hm.kX.mono hg.I⟩
 ·by_cases e:r=k
  ·subst e
   simp only[Ctx.add,if_true,Option.some.injEq]at hr
   subst hr
   refine .inr ⟨by simp[Ctx.add],arr,by simp only[Ctx.add,if_true];exact UJ w _,hs,?_⟩
   split
   ·rename_i hb
    simp only[hb,if_true]at hx
    obtain⟨e,h1,h2,h3,h4⟩:=hx
    exact⟨e,h1,h2,h3,Nw hg h4⟩
   ·rename_i hb
    simp only[hb,if_false,aN]at hx
    exact oh hg.I _ _ _ _ hx
  ·have nB:c.R r=some x:=by simpa[Ctx.add,e]using hr
   exact ue hg (by simp[Ctx.add,e]) (by simp[Ctx.add,e]) (λnv=>AD w _ _ (hm.lt nB nv)) (hm.row r x nB)
 ·by_cases e1:r=k<;>by_cases e2:s=k
  ·exact e1.trans e2.symm
  ·exfalso
   have h2:c.R s=some y:=by simpa[Ctx.add,e2]using jn
   have:=hm.lt h2 (by simpa[Ctx.add,e2]using MI)
   simp[Ctx.add,e1,e2]at he
   omega
  ·exfalso
   have h1:c.R r=some x:=by simpa[Ctx.add,e1]using hr
   have:=hm.lt h1 (by simpa[Ctx.add,e1]using JO)
   simp[Ctx.add,e1,e2]at he
   omega
  ·exact hm.inj r s x y (by simpa[Ctx.add,e1]using hr) (by simpa[Ctx.add,e2]using jn) (by simpa[Ctx.add,e1]using JO) (by simpa[Ctx.add,e2]using MI) (by simpa[Ctx.add,e1,e2]using he)
 ·have tI:c.I b:=hb
  obtain⟨h1,h2⟩:=hm.fk b tI
  refine⟨by show b<(w.heap.push _).size;simp;omega,λr x hr hv=>?_⟩
  by_cases e:r=k
  ·simp only[Ctx.add,e,if_true];omega
  ·simpa[Ctx.add,e]using h2 r x (by simpa[Ctx.add,e]using hr) (by simpa[Ctx.add,e]using hv)
theorem w9.get{c:Ctx}{w:World}{r:Nat}{row:Row}(h:w9 c w r row){i off n:Nat}(hi:i<row.es.l.length)(hn:off+n<=row.sz):
 ∃arr,w.heap[c.ρ r]?=some (.cells arr row.ty (0,0))/\∀j,j<n->∃v,arr[i*row.sz+off+j]?=some v/\kj (!row.box) c w ((row.es.l.getD i []).getD (off+j) .dead) v:=by
 obtain⟨arr,ha,hs,hx⟩:=h
 refine⟨arr,ha,λj hj=>?_⟩
 cases hb:row.box with
 |true=>
  simp only[hb,if_true]at hx
  obtain⟨e,h1,h2,h3,h4⟩:=hx
  have rU:i=0:=by rw[h1]at hi;simpa[ai.l]using hi
  subst rU
  obtain⟨v,hv,hp⟩:=Z8u h4 (j:=off+j) (by omega)
  exact⟨v,by simpa using hv,by simpa[kj,h1,ai.l]using hp⟩
 |false=>
  simp only[hb,if_false,aN]at hx
  obtain⟨h1,h2⟩:=UH hx hi
  obtain⟨v,hv,hp⟩:=UG h2 (j:=off+j) (by omega)
  exact⟨v,by simpa[fZ]using hv,by simpa[kj]using hp⟩
theorem UK:∀{e:List D} {len off n:Nat},n<len->(ints e off len).getD n 0=(e.getD (off+n) .dead).toInt
 |e,len+1,off,0,_=>by simp[ints]
 |e,len+1,off,n+1,h=>by
  have:=UK (e:=e) (len:=len) (off:=off+1) (n:=n) (by omega)
  rw[show off+1+n=off+(n+1) by omega]at this
  simpa[ints]using this
theorem UL:∀{e:List D} {len off n:Nat},n<len->(bz e off len).getD n false=(e.getD (off+n) .dead).toBool
 |e,len+1,off,0,_=>by simp[bz]
 |e,len+1,off,n+1,h=>by
  have:=UL (e:=e) (len:=len) (off:=off+1) (n:=n) (by omega)
  rw[show off+1+n=off+(n+1) by omega]at this
  simpa[bz]using this
theorem UM{k:IntKind}:∀{e:List D} {len off n:Nat},Df k e off len=true->n<len->(e.getD (off+n) .dead).isInt k=true
 |e,len+1,off,0,h,_=>by simp only[Df,aE]at h;exact h.1
 |e,len+1,off,n+1,h,hn=>by
  simp only[Df,aE]at h
  have:=UM h.2 (n:=n) (by omega)
  rwa [show off+1+n=off+(n+1) by omega]at this
theorem UN:∀{e:List D} {len off n:Nat},Hy e off len=true->n<len->(e.getD (off+n) .dead).isBool=true
 |e,len+1,off,0,h,_=>by simp only[Hy,aE]at h;exact h.1
 |e,len+1,off,n+1,h,hn=>by
  simp only[Hy,aE]at h
  have:=UN h.2 (n:=n) (by omega)
  rwa [show off+1+n=off+(n+1) by omega]at this
theorem D.ko{k:IntKind}{d:D}(h:d.isInt k=true):d=.int k d.toInt:=by
 cases d<;>simp[D.isInt]at h
 subst h;rfl
theorem D.kp{d:D}(h:d.isBool=true):d=.bool d.toBool:=by
 cases d<;>simp[D.isBool]at h
 rfl
theorem kj.int{pl:Bool}{c:Ctx}{w:World}{k:IntKind}{n:Int}{v:Value}(h:kj pl c w (.int k n) v):v=.int k n:=by
 cases pl<;>simpa[kj,sB,rV,sC,sD,Q4,sE,tG,ug,uh,ui,uj,uk,um,uo,uq,ur,cz]using h
theorem kj.bool{pl:Bool}{c:Ctx}{w:World}{b:Bool}{v:Value}(h:kj pl c w (.bool b) v):v=.bool b:=by
 cases pl<;>simpa[kj,sB,rV,sC,sD,Q4,sE,tG,ug,uh,ui,uj,uk,um,uo,uq,ur,cz]using h
theorem UO{P:Program}{t:TypeId}{ti:TI}(ht:Bc P t=some ti)(hk:(ti.kind.isAgg||match ti.kind with|.other=>true|_=>false)=false):ti.size=1:=by
 obtain⟨_,_,_,_,hl,od,_,_,hc,_⟩:=DV ht
 rw[<-hl,hc]
 rw[od]at hk
 unfold Hx at hk
 unfold mi
 split at hk<;>first|rfl|(simp[TK.isAgg]at hk)
theorem UP{P:Program}{t:TypeId}{w:World}{a:Addr}:(Instr.loadAt t (.pointer (some a))).run P w=(loadVar t a).run P w:=by
 simp[Instr.loadAt,Instr.sureAddr]
theorem Zhl{P:Program}{T:fj}(hT:jF P T){t:TypeId}{x:D}{R:Rows}{K:D->Rows->Prop}(h:Ab T t x R K):
 ∃val,K val R/\∀c w v,Mem c w->mK c R->Rep c w x v->∃u,(Instr.loadAt t v).run P w=.ok u w/\Rep c w val u:=by
 unfold Ab at h
 cases ht:T.get t with
 |none=>simp only[ht]at h
 |some ti=>
  simp only[ht]at h
  have MJ:=hT.get ht
  obtain⟨i0,rU,ET,_,Br,Av,_⟩:=DV MJ
  cases x<;>simp only at h
  case ptr r i off=>
   cases hR:R.getD r none with
   |none=>simp only[hR]at h
   |some row=>
    obtain⟨box,ty,sz,es⟩:=row
    simp only[hR,c9]at h
    obtain⟨hle,h⟩:=h
    have hle:=lE hle
    obtain⟨val,hK,uD,hr⟩:=Zi5 Br h
    refine⟨val,hK,λc w v hm hA hv=>?_⟩
    obtain⟨row,h1,hV,h2,h3⟩:=hv
    have cr:=hA r row _ h1 hR
    subst cr
    obtain⟨arr,ha,hx⟩:=(hm.real h1 hV).get h2 hle
    simp only[ai.nn es (show i<es.len by simpa using h2)]at hx
    subst h3
    refine⟨_,UP.trans (Zx MJ ha (λj hj=>by obtain⟨v,hv,_⟩:=hx j hj;exact⟨v,hv⟩) uD),hr c w arr _ hx⟩
  case pa r i off len k n=>
   cases hR:R.getD r none with
   |none=>simp only[hR]at h
   |some row=>
    obtain⟨box,ty,sz,es⟩:=row
    simp only[hR,c9]at h
    obtain⟨hle,h⟩:=h
    have hle:=lE hle
    have one:(ti.kind.isAgg=false)->ti.size=1->∀c w v,Mem c w->mK c R->Rep c w (.pa r i off len k n) v->∃u,(Instr.loadAt t v).run P w=.ok u w/\kj (!box) c w ((es.get i).getD (off+n) .dead) u/\n<len:=by
     intro Dg fv c w v hm hA hv
     obtain⟨hn,row,h1,hV,h2,h3⟩:=hv
     have cr:=hA r row _ h1 hR
     subst cr
     obtain⟨arr,ha,hx⟩:=(hm.real h1 hV).get h2 hle
     simp only[ai.nn es (show i<es.len by simpa using h2)]at hx
     subst h3
     obtain⟨u,hu,uE⟩:=hx n hn
     have UI:arr[i*sz+(off+n)]?=some u:=by rw[<-fZ];exact hu
     refine⟨u,?_,uE,hn⟩
     rw[UP,Zx MJ ha (λj hj=>⟨u,by rw[show j=0 by omega];exact UI⟩) (.inr fv),Dg]
     simp[UI]
    split at h
    ·rename_i j k' hk
     simp only[aE,decide_eq_true_eq]at h
     obtain⟨⟨rfl,iV⟩,h⟩:=h
     have fv:ti.size=1:=UO MJ (by rw[hk];simp[TK.isAgg])
     refine⟨_,h,λc w v hm hA hv=>?_⟩
     obtain⟨u,hu,uE,hn⟩:=one (by rw[hk];rfl) fv c w v hm hA hv
     rw[D.ko (UM iV hn)]at uE
     have:=kj.int uE
     subst this
     exact⟨_,hu,by simp only[Rep,VRep,cz];rw[UK hn]⟩
    ·rename_i hk
     obtain⟨iV,h⟩:=h
     have fv:ti.size=1:=UO MJ (by rw[hk];simp[TK.isAgg])
     refine⟨_,h,λc w v hm hA hv=>?_⟩
     obtain⟨u,hu,uE,hn⟩:=one (by rw[hk];rfl) fv c w v hm hA hv
     rw[D.kp (UN iV hn)]at uE
     have:=kj.bool uE
     subst this
     exact⟨_,hu,by simp only[Rep,VRep,cz];rw[UL hn]⟩
    ·exact h.elim
  case iw sz es i off=>
   simp only[c9]at h
   obtain⟨hle,h⟩:=h
   have hle:=lE hle
   obtain⟨val,hK,uD,hr⟩:=Zi5 Br h
   refine⟨val,hK,λc w v hm hA hv=>?_⟩
   obtain⟨b,o,arr,ty,fz,h3,hI,hi,ha,hE⟩:=hv
   subst h3
   obtain⟨h1,h2⟩:=UH hE hi
   rw[ai.nn es (show i<es.len by simpa using hi)]at h1 h2
   have hx:∀j,j<ti.size->∃v,arr[o+i*sz+off+j]?=some v/\kj true c w ((es.get i).getD (off+j) .dead) v:=λj hj=>by
    obtain⟨v,hv,hp⟩:=UG h2 (j:=off+j) (by omega)
    exact⟨v,by rw[<-hv];congr 1;omega,hp⟩
   exact⟨_,UP.trans (Zx MJ ha (λj hj=>by obtain⟨v,hv,_⟩:=hx j hj;exact⟨v,hv⟩) uD),hr c w arr _ hx⟩
def Ctx.fk(c:Ctx)(b:Nat):Ctx:={c with I:=λx=>c.I x\/x=b,top:=max c.top (b+1)}
theorem UQ{c:Ctx}{w:World}(hm:Mem c w)(o:Obj):jq c w (c.fk w.heap.size) (w.alloc o):=
 ⟨rfl,Nat.le_max_left _ _,λb hb=>⟨.inl hb,AD w o b (hm.fk b hb).1⟩,λr x hr=>⟨x,hr,rfl,rfl,rfl,rfl,rfl,Iff.rfl,λnv arr ha=>⟨arr,by rw[AD w o _ (hm.lt hr nv)];exact ha,rfl⟩⟩⟩
theorem xak{c:Ctx}{w:World}(hm:Mem c w)(o:Obj):Mem (c.fk w.heap.size) (w.alloc o):=by
 refine⟨λr x hr=>ue (UQ hm o) rfl Iff.rfl (λnv=>AD w _ _ (hm.lt hr nv)) (hm.row r x hr),hm.inj,λb hb=>?_,?_,hm.kX.mono (UQ hm o).I⟩
 all_goals have fv:(w.alloc o).heap.size=w.heap.size+1:=by show(w.heap.push o).size=_;simp
 rotate_left
 ·have:=hm.top;rw[fv];exact Nat.max_le.2 ⟨by omega,aO _⟩
 rcases hb with hb|hb
 ·exact⟨by have:=(hm.fk b hb).1;omega,(hm.fk b hb).2⟩
 ·subst hb
  exact⟨by omega,λr x hr v=>by have:=hm.lt hr v;show c.ρ r≠w.heap.size;omega⟩

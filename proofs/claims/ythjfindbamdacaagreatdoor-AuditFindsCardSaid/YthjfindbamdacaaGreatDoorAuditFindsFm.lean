import Derived.Test.YthjfindbamdacaaGreatDoorAuditFindsVc
open Nat renaming le_refl->aO,le_trans->bH,beq->bT,lt_of_succ_lt_succ->fX,add_assoc->fY
open List renaming map_cons->fR,length_cons->dI
open Bool renaming false_eq_true->aN
set_option linter.all false
namespace Go.GD
open Go
mutual
theorem Zq7{I I':ag}{w w':World}(h:∀b arr ty fz,I b->w.heap[b]?=some (.cells arr ty fz)->I' b/\w'.heap[b]?=some (.cells arr ty fz)):∀(d:D) (v:Value),fx I w d v->fx I' w' d v
 |_,_,.bool b=>.bool b
 |_,_,.int k n=>.int k n
 |_,_,.str s=>.str s
 |_,_,.iK=>.iK
 |_,_,.du=>.du
 |_,_,.emp a=>.emp a
 |_,_,.Uv sz es fr a cap h0=>.Uv sz es fr a cap h0
 |_,_,.Uw sz es fr cap hc b off arr ty fz hI hh hE=>.Uw sz es fr cap hc b off arr ty fz (h b arr ty fz hI hh).1 (h b arr ty fz hI hh).2 (Mp h es.l arr off sz hE)
theorem Y8{I I':ag}{w w':World}(h:∀b arr ty fz,I b->w.heap[b]?=some (.cells arr ty fz)->I' b/\w'.heap[b]?=some (.cells arr ty fz)):∀(cs:List D) (arr:Array Value) (off:Nat),nP I w cs arr off->nP I' w' cs arr off
 |_,_,_,.nil arr off=>.nil arr off
 |_,_,_,.cons c cs arr off v hv hp hr=>.cons c cs arr off v hv (Zq7 h c v hp) (Y8 h cs arr (off+1) hr)
theorem Mp{I I':ag}{w w':World}(h:∀b arr ty fz,I b->w.heap[b]?=some (.cells arr ty fz)->I' b/\w'.heap[b]?=some (.cells arr ty fz)):∀(es:List (List D)) (arr:Array Value) (off sz:Nat),iI I w es arr off sz->iI I' w' es arr off sz
 |_,_,_,_,.nil arr off sz=>.nil arr off sz
 |_,_,_,_,.cons e es arr off sz hl hc hr=>.cons e es arr off sz hl (Y8 h e arr off hc) (Mp h es arr (off+sz) sz hr)
end
theorem wT{I I':ag}{w w':World}(h:∀b,I b->I' b/\w'.heap[b]?=w.heap[b]?)(b:Nat)(arr:Array Value)(ty:TypeId)(fz:Nat×Nat)(hI:I b)(hh:w.heap[b]?=some (.cells arr ty fz)):I' b/\w'.heap[b]?=some (.cells arr ty fz):=⟨(h b hI).1,(h b hI).2.trans hh⟩
theorem Zkd{I I':ag}{w w':World}(h:∀b,I b->I' b/\w'.heap[b]?=w.heap[b]?)(cs:List D)(arr:Array Value)(off:Nat)(hp:nP I w cs arr off):nP I' w' cs arr off:=Y8 (wT h) cs arr off hp
theorem od{I I':ag}{w w':World}(h:∀b,I b->I' b/\w'.heap[b]?=w.heap[b]?)(es:List (List D))(arr:Array Value)(off sz:Nat)(hp:iI I w es arr off sz):iI I' w' es arr off sz:=Mp (wT h) es arr off sz hp
structure jk(c:Ctx)(w:World)(c':Ctx)(w':World):Prop where
 base:c'.base=c.base
 top:c.top<=c'.top
 I:∀b,c.I b->c'.I b/\w'.heap[b]?=w.heap[b]?
 R :∀r row,c.R r=some row->∃ak,c'.R r=some ak/\ak.box=row.box/\ak.ty=row.ty/\ak.sz=row.sz/\ak.es.l.length=row.es.l.length/\c'.ρ r=c.ρ r/\(c'.V r↔c.V r)/\
  (¬c.V r->∀arr,w.heap[c.ρ r]?=some (.cells arr row.ty (0,0))->∃iM,w'.heap[c.ρ r]?=some (.cells iM row.ty (0,0))/\iM.size=arr.size)
structure JE(c:Ctx)(w:World)(c':Ctx)(w':World):Prop where
 base:c'.base=c.base
 top:c.top<=c'.top
 I:∀b arr ty fz,c.I b->w.heap[b]?=some (.cells arr ty fz)->c'.I b/\w'.heap[b]?=some (.cells arr ty fz)
 R :∀r row,c.R r=some row->∃ak,c'.R r=some ak/\ak.box=row.box/\ak.ty=row.ty/\ak.sz=row.sz/\ak.es.l.length=row.es.l.length/\c'.ρ r=c.ρ r/\(c'.V r↔c.V r)/\
  (¬c.V r->∀arr,w.heap[c.ρ r]?=some (.cells arr row.ty (0,0))->∃iM,w'.heap[c.ρ r]?=some (.cells iM row.ty (0,0))/\iM.size=arr.size)
theorem jk.to0{c c':Ctx}{w w':World}(h:jk c w c' w'):JE c w c' w':=⟨h.base,h.top,wT h.I,h.R⟩
theorem Mq{c c':Ctx}{w w':World}(h:∀b,c.I b->c'.I b/\w'.heap[b]?=w.heap[b]?){f:Nat}{us:List Value}{v:Value}(hf:rW c w f us v):rW c' w' f us v:=by
 rcases hf with hf|⟨h1,l,rec,h2,h3,h4,h5⟩
 ·exact .inl hf
 ·exact .inr ⟨h1,l,rec,h2,(h l h3).1,(h l h3).2.trans h4,h5⟩
theorem jk.refl(c:Ctx)(w:World):jk c w c w:=
 ⟨rfl,aO _,λ_ h=>⟨h,rfl⟩,λ_ row h=>⟨row,h,rfl,rfl,rfl,rfl,rfl,Iff.rfl,λ_ arr h=>⟨arr,h,rfl⟩⟩⟩
theorem jk.trans{c c' SM:Ctx}{w w' FN:World}(h:jk c w c' w')(g:jk c' w' SM FN):jk c w SM FN:=by
 refine⟨g.base.trans h.base,bH h.top g.top,λb hb=>⟨(g.I b (h.I b hb).1).1,(g.I b (h.I b hb).1).2.trans (h.I b hb).2⟩,λr row hr=>?_⟩
 obtain⟨ak,h1,h2,h3,h4,h5,h6,hV,h7⟩:=h.R r row hr
 obtain⟨ov,g1,g2,g3,g4,g5,g6,gV,g7⟩:=g.R r ak h1
 refine⟨ov,g1,g2.trans h2,g3.trans h3,g4.trans h4,g5.trans h5,g6.trans h6,gV.trans hV,λnv arr ha=>?_⟩
 obtain⟨iM,jB,hs⟩:=h7 nv arr ha
 obtain⟨PU,PV,ji⟩:=g7 (λe=>nv (hV.1 e)) iM (by rw[h6,h3];exact jB)
 exact⟨PU,by rw[h6,h3]at PV;exact PV,ji.trans hs⟩
theorem Y9{c c':Ctx}{w w':World}(h:JE c w c' w'):∀{d:D} {v:Value},(∀f cs,d≠.gn f cs)->cu c w d v->cu c' w' d v:=by
 intro d v gr hd
 cases d with
 |sl sz es fr=>
  simp only[cu]at hd⊢
  obtain⟨a,cap,hv,hc,ij⟩:=hd
  refine⟨a,cap,hv,hc,?_⟩
  rcases ij with ij|⟨b,off,arr,ty,fz,ha,hI,hf,hh,hE⟩
  ·exact .inl ij
  ·exact .inr ⟨b,off,arr,ty,fz,ha,(h.I b arr ty fz hI hh).1,λe=>by rw[h.base];exact hf e,(h.I b arr ty fz hI hh).2,Mp h.I _ arr off sz hE⟩
 |all r=>
  simp only[cu]at hd⊢
  obtain⟨row,hr,hb,hd⟩:=hd
  obtain⟨ak,g1,g2,g3,g4,g5,g6,gV,g7⟩:=h.R r row hr
  refine⟨ak,g1,g2.trans hb,?_⟩
  rcases hd with⟨hV,hv⟩|⟨hV,cap,arr,hv,h1,h2,h3,h4⟩
  ·obtain⟨a,hv,ho⟩:=hv
   exact .inl ⟨gV.2 hV,a,hv,ho.mono h.top⟩
  ·obtain⟨iM,jB,hs⟩:=g7 hV arr h3
   exact .inr ⟨λe=>hV (gV.1 e),cap,iM,by rw[hv,g5,g6],by rw[g5];exact h1,h2,by rw[g6,g3];exact jB,by rw[g4,hs];exact h4⟩
 |emp=>
  obtain⟨a,hv,ho⟩:=hd
  exact⟨a,hv,ho.mono h.top⟩
 |own r o n=>
  simp only[cu]at hd⊢
  obtain⟨row,hr,hb,ho,hd⟩:=hd
  obtain⟨ak,g1,g2,g3,g4,g5,g6,gV,g7⟩:=h.R r row hr
  refine⟨ak,g1,g2.trans hb,by rw[g5];exact ho,?_⟩
  rcases hd with⟨h0,a,hv,je⟩|⟨hV,cap,arr,h1,h2,h3,h4,h5⟩
  ·exact .inl ⟨h0,a,hv,je.mono h.top gV g6⟩
  ·obtain⟨iM,jB,hs⟩:=g7 hV arr h3
   exact .inr ⟨λe=>hV (gV.1 e),cap,iM,h1,h2,by rw[g6,g3];exact jB,by rw[g4,g6];exact h4,by rw[g4,hs];exact h5⟩
 |ptr r i off=>
  simp only[cu]at hd⊢
  obtain⟨row,hr,hV,hi,hv⟩:=hd
  obtain⟨ak,g1,g2,g3,g4,g5,g6,gV,g7⟩:=h.R r row hr
  exact⟨ak,g1,λe=>hV (gV.1 e),by rw[g5];exact hi,by rw[hv,g6,g4]⟩
 |pa r i off len k n=>
  simp only[cu]at hd⊢
  obtain⟨hn,row,hr,hV,hi,hv⟩:=hd
  obtain⟨ak,g1,g2,g3,g4,g5,g6,gV,g7⟩:=h.R r row hr
  exact⟨hn,ak,g1,λe=>hV (gV.1 e),by rw[g5];exact hi,by rw[hv,g6,g4]⟩
 |ir sz es i off=>
  simp only[cu]at hd⊢
  obtain⟨b,o,arr,ty,fz,hv,hI,hi,hh,hE⟩:=hd
  exact⟨b,o,arr,ty,fz,hv,(h.I b arr ty fz hI hh).1,hi,(h.I b arr ty fz hI hh).2,Mp h.I _ arr o sz hE⟩
 |c8 r=>
  rcases hd with hd|⟨row,hr,hV,hi,hv⟩
  ·exact .inl hd
  ·obtain⟨ak,g1,g2,g3,g4,g5,g6,gV,g7⟩:=h.R r row hr
   exact .inr ⟨ak,g1,λe=>hV (gV.1 e),by rw[g5];exact hi,by rw[hv,g6,g4]⟩
 |gn f cs=>exact absurd rfl (gr f cs)
 |_=>exact hd
theorem Z7x{c c':Ctx}{w w':World}(h:jk c w c' w'){d:D}{v:Value}(gr:∀f cs,d≠.gn f cs)(hd:cu c w d v):cu c' w' d v:=Y9 h.to0 gr hd
theorem Zr{c c':Ctx}{w w':World}{S:Nat->Prop}{f:Nat->Nat}{cr:Bool}{Fk:Nat->Prop}(g:∀d v,(∀f cs,d≠.gn f cs)->(∀r∈nM d,S r)->cu c w d v->cu c' w' (d.mz f cr) v)(gF:∀k ws v,Fk k->rW c w k ws v->rW c' w' k ws v):
 ∀{cs:List iu} {us:List Value},(∀k ps,iu.fn k ps∈cs->Fk k)->(∀r∈oz cs,S r)->oM c w cs us->oM c' w' (cs.map (iu.jg f cr)) us
 |[],[],_,_,_=>trivial
 |x ::cs,u::us,hF,hS,⟨h1,h2⟩=>by
  refine⟨?_,Zr g gF (λk ps hm=>hF k ps (by simp[hm])) (λr hr=>hS r (by simp[oz,hr])) h2⟩
  have Ux:∀r∈CM x,S r:=λr hr=>hS r (by simp[oz,hr])
  cases x with
  |fn k ps=>
   obtain⟨ws,hv,hw⟩:=h1
   refine⟨ws,gF k ws u (hF k ps (by simp)) hv,?_⟩
   have hS2:∀p∈ps,S p.1:=λp hp=>Ux _ (by simp only[CM,List.mem_map];exact⟨p,hp,rfl⟩)
   clear hv Ux hS h2 hF
   induction ps generalizing ws with
   |nil=>cases ws<;>exact hw
   |cons p ps ih=>
    cases ws with
    |nil=>exact hw.elim
    |cons v ws=>exact⟨g (.ptr p.1 p.2.1 p.2.2) v (λ_ _ e=>by cases e) (λr hr=>by simp[nM]at hr;subst hr;exact hS2 p (by simp)) hw.1,ih ws hw.2 (λq hq=>hS2 q (by simp[hq]))⟩
  |ptr r i off=>exact g (.ptr r i off) u (λ_ _ e=>by cases e) Ux h1
  |int k n=>exact h1
  |arr r=>exact g (.all r) u (λ_ _ e=>by cases e) Ux h1
  |sl a b fr=>exact g (.sl a b fr) u (λ_ _ e=>by cases e) (λr hr=>by simp[nM]at hr) h1
 |[],_::_,_,_,h=>h.elim
 |_::_,[],_,_,h=>h.elim
theorem zv{d:D}(h:∀f cs,d≠.gn f cs):d.mz (λr=>r) true=d:=by cases d<;>first|(simp[D.mz];done)|exact absurd rfl (h _ _)
theorem Zs:∀{cs:List iu},cs.map (iu.jg (λr=>r) true)=cs
 |[]=>rfl
 |x::l=>by
  simp only[fR,Zs (cs:=l)]
  congr 1
  cases x<;>simp[iu.jg]
theorem Z8h{c c':Ctx}{w w':World}{S:Nat->Prop}{Fk:Nat->Prop}(g:∀d v,(∀f cs,d≠.gn f cs)->(∀r∈nM d,S r)->cu c w d v->cu c' w' d v)(gF:∀k ws v,Fk k->rW c w k ws v->rW c' w' k ws v){cs:List iu}{us:List Value}(hF:∀k ps,iu.fn k ps∈cs->Fk k)(hS:∀r∈oz cs,S r)(h:oM c w cs us):oM c' w' cs us:=by
 have:=Zr (f:=λr=>r) (cr:=true) (λd v h1 h2 h3=>by rw[zv h1];exact g d v h1 h2 h3) gF hF hS h
 rwa [Zs]at this
theorem YN{c c':Ctx}{w w':World}{S:Nat->Prop}(g:∀d v,(∀f cs,d≠.gn f cs)->(∀r∈nM d,S r)->cu c w d v->cu c' w' d v)(gF:∀b,c.I b->c'.I b/\w'.heap[b]?=w.heap[b]?){cs:List iu}{us:List Value}(hS:∀r∈oz cs,S r)(h:oM c w cs us):oM c' w' cs us:=
 Z8h (Fk:=λ_=>True) g (λ_ _ _ _=>Mq gF) (λ_ _ _=>trivial) hS h
theorem Nh{c c':Ctx}{w w':World}(h:jk c w c' w'){d:D}{v:Value}(hd:cu c w d v):cu c' w' d v:=by
 by_cases e:∃f cs,d=.gn f cs
 ·obtain⟨f,cs,rfl⟩:=e
  obtain⟨us,hv,hu⟩:=hd
  exact⟨us,Mq h.I hv,YN (S:=λ_=>True) (λd v h1 _ h2=>Z7x h h1 h2) h.I (λ_ _=>trivial) hu⟩
 ·exact Z7x h (λf cs e'=>e ⟨f,cs,e'⟩) hd
theorem Nn{l:List Nat}(h:sA l=true){k:Nat}(hk:k∈l):k<YB:=lE (List.all_eq_true.1 h k hk)
theorem Zmz:∀{cs:List iu} {k:Nat} {ps:List (Nat×Nat×Nat)},iu.fn k ps∈cs->k∈AR cs
 |x ::l,k,ps,hm=>by
  rcases List.mem_cons.1 hm with e|e
  ·subst e;simp[AR]
  ·have:=Zmz e
   cases x<;>simp[AR,this]
 |[],_,_,hm=>by simp at hm
section
variable {c c':Ctx} {w w':World} (h:JE c w c' w') {Fk:Nat->Prop} (gF:∀k ws v,Fk k->rW c w k ws v->rW c' w' k ws v)
include h gF
theorem Zt{d:D}{v:Value}(hn:∀k∈AS d,Fk k)(hd:cu c w d v):cu c' w' d v:=by
 by_cases e:∃f cs,d=.gn f cs
 ·obtain⟨f,cs,rfl⟩:=e
  obtain⟨us,hv,hu⟩:=hd
  exact⟨us,gF _ _ _ (hn f (by simp[AS])) hv,Z8h (S:=λ_=>True) (Fk:=Fk) (λd v h1 _ h2=>Y9 h h1 h2) gF (λk ps hm=>hn k (by simp[AS,Zmz hm])) (λ_ _=>trivial) hu⟩
 ·exact Y9 h (λf cs e'=>e ⟨f,cs,e'⟩) hd
theorem Z8m:∀{ds:List D} {vs:List Value},(∀k∈rA ds,Fk k)->jm c w ds vs->jm c' w' ds vs
 |[],[],_,_=>trivial
 |_::_,_::_,hn,⟨h1,h2⟩=>⟨Zt h gF (λk hk=>hn k (by simp[rA,hk])) h1,Z8m (λk hk=>hn k (by simp[rA,hk])) h2⟩
 |[],_::_,_,h=>h.elim
 |_::_,[],_,h=>h.elim
theorem Zf7{d:D}{v:Value}(hn:∀k∈FO d,Fk k)(hd:VRep c w d v):VRep c' w' d v:=by
 cases d with
 |agg cs=>obtain⟨vs,hv,hr⟩:=hd;exact⟨vs,hv,Z8m h gF hn hr⟩
 |_=>simp only[VRep]at hd⊢;exact Zt h gF hn hd
theorem Zu:∀{ds:List D} {vs:List Value},(∀k∈pB ds,Fk k)->kb c w ds vs->kb c' w' ds vs
 |[],[],_,_=>trivial
 |_::_,_::_,hn,⟨h1,h2⟩=>⟨Zf7 h gF (λk hk=>hn k (by simp[pB,hk])) h1,Zu (λk hk=>hn k (by simp[pB,hk])) h2⟩
 |[],_::_,_,h=>h.elim
 |_::_,[],_,h=>h.elim
theorem Znm{d:D}{v:Value}(hn:∀k∈CN d,Fk k)(hd:Rep c w d v):Rep c' w' d v:=by
 cases d with
 |dt ds=>obtain⟨vs,hv,hr⟩:=hd;exact⟨vs,hv,Zu h gF hn hr⟩
 |dead=>trivial
 |_=>simp only[Rep]at hd⊢;exact Zf7 h gF hn hd
theorem Z2i:∀{ds:List D} {arr:Array Value} {off:Nat},(∀k∈rA ds,Fk k)->kJ c w ds arr off->kJ c' w' ds arr off
 |[],_,_,_,_=>trivial
 |_::_,_,_,hn,⟨⟨v,hv,h1⟩,h2⟩=>⟨⟨v,hv,Zt h gF (λk hk=>hn k (by simp[rA,hk])) h1⟩,Z2i (λk hk=>hn k (by simp[rA,hk])) h2⟩
end
theorem Z80{c c':Ctx}{w w':World}(h:jk c w c' w'):∀{ds:List D} {vs:List Value},jm c w ds vs->jm c' w' ds vs
 |[],[],_=>trivial
 |_::_,_::_,⟨h1,h2⟩=>⟨Nh h h1,Z80 h h2⟩
theorem Zfz{c c':Ctx}{w w':World}(h:jk c w c' w'):∀{d:D} {v:Value},VRep c w d v->VRep c' w' d v:=by
 intro d v hd
 cases d with
 |agg cs=>obtain⟨vs,hv,hr⟩:=hd;exact⟨vs,hv,Z80 h hr⟩
 |_=>simp only[VRep]at hd⊢;exact Nh h hd
theorem WD{c c':Ctx}{w w':World}(h:jk c w c' w'):∀{ds:List D} {vs:List Value},kb c w ds vs->kb c' w' ds vs
 |[],[],_=>trivial
 |_::_,_::_,⟨h1,h2⟩=>⟨Zfz h h1,WD h h2⟩
theorem Ae{c c':Ctx}{w w':World}(h:jk c w c' w'):∀{d:D} {v:Value},Rep c w d v->Rep c' w' d v:=by
 intro d v hd
 cases d with
 |dt ds=>obtain⟨vs,hv,hr⟩:=hd;exact⟨vs,hv,WD h hr⟩
 |dead=>trivial
 |_=>simp only[Rep]at hd⊢;exact Zfz h hd
theorem Ni{c c':Ctx}{w w':World}(h:jk c w c' w'):∀{ds:List D} {arr:Array Value} {off:Nat},kJ c w ds arr off->kJ c' w' ds arr off
 |[],_,_,_=>trivial
 |_::_,_,_,⟨⟨v,hv,h1⟩,h2⟩=>⟨⟨v,hv,Nh h h1⟩,Ni h h2⟩
def tp(I:ag)(w:World):Prop:=∀x∈Kn,I x.1/\∃ty fz,w.heap[x.1]?=some (.cells (x.2.2.map λz=>Value.int x.2.1 z).toArray ty fz)
theorem tp.Hu{I I':ag}{w w':World}(h:tp I w)(g:∀b arr ty fz,I b->w.heap[b]?=some (.cells arr ty fz)->I' b/\w'.heap[b]?=some (.cells arr ty fz)):tp I' w':=λx hx=>by
 obtain⟨h1,ty,fz,h2⟩:=h x hx
 exact⟨(g _ _ _ _ h1 h2).1,ty,fz,(g _ _ _ _ h1 h2).2⟩
theorem tp.mono{I I':ag}{w w':World}(h:tp I w)(g:∀b,I b->I' b/\w'.heap[b]?=w.heap[b]?):tp I' w':=h.Hu (wT g)
structure Mem(c:Ctx)(w:World):Prop where
 row:∀r row,c.R r=some row->EN c w r row
 inj:∀r s x y,c.R r=some x->c.R s=some y->¬c.V r->¬c.V s->c.ρ r=c.ρ s->r=s
 fu:∀b,c.I b->b<w.heap.size/\∀r x,c.R r=some x->¬c.V r->c.ρ r≠b
 top:c.top<=w.heap.size
 kM:tp c.I w
theorem Zv{c:Ctx}{w w':World}{I:ag}(hm:Mem c w)(h:JE c w {c with I:=I} w')(hh:∀r x,c.R r=some x->¬c.V r->w'.heap[c.ρ r]?=w.heap[c.ρ r]?){Fk:Nat->Prop}(gF:∀k ws v,Fk k->rW c w k ws v->rW {c with I:=I} w' k ws v)
 (hn:∀r x,c.R r=some x->∀k∈kX [x],Fk k) (hI:∀b,I b->b<w'.heap.size/\∀r x,c.R r=some x->¬c.V r->c.ρ r≠b) (hs:w.heap.size<=w'.heap.size):Mem {c with I:=I} w':=by
 refine⟨λr row hr=>?_,hm.inj,λb hb=>hI b hb,bH hm.top hs,hm.kM.Hu h.I⟩
 rcases hm.row r row hr with g|⟨g0,arr,g1,g2,g3⟩
 ·exact .inl g
 ·refine .inr ⟨g0,arr,(hh r row hr g0).trans g1,g2,?_⟩
  split at g3
  ·rename_i hb
   rw[if_pos hb]
   obtain⟨e,k1,k2,k3,k4⟩:=g3
   refine⟨e,k1,k2,k3,Z2i h gF (λk hk=>hn r row hr k ?_) k4⟩
   obtain⟨bx,ty,sz,es⟩:=row
   simp only at hb k1
   subst hb;subst k1
   simpa[kX]using hk
  ·rename_i hb
   rw[if_neg hb]
   exact Mp h.I _ _ _ _ g3
theorem Mem.real{c:Ctx}{w:World}(h:Mem c w){r:Nat}{row:Row}(hr:c.R r=some row)(hV:¬c.V r):wU c w r row:=by
 rcases h.row r row hr with h1|h1
 ·exact(hV h1.1).elim
 ·exact h1.2
theorem Mem.oe{c:Ctx}{w:World}(h:Mem c w){r:Nat}{row:Row}(hr:c.R r=some row)(hV:c.V r):row.box=false/\row.es.l=[]/\0<row.sz:=by
 rcases h.row r row hr with h1|h1
 ·exact h1.2
 ·exact(h1.1 hV).elim
theorem Mem.lt{c:Ctx}{w:World}(h:Mem c w){r:Nat}{row:Row}(hr:c.R r=some row)(hV:¬c.V r):c.ρ r<w.heap.size:=by
 obtain⟨arr,ha,_⟩:=h.real hr hV
 by_cases cf:c.ρ r<w.heap.size
 ·exact cf
 ·rw[Array.getElem?_eq_none (by omega)]at ha;cases ha
structure Fr(X:ag)(w w':World):Prop where
 os:w'.os=w.os
 tape:w'.tape=w.tape
 output:w'.output=w.output
 size:w.heap.size<=w'.heap.size
 heap:∀b,b<w.heap.size->¬X b->w'.heap[b]?=w.heap[b]?
theorem Fr.refl(X:ag)(w:World):Fr X w w:=⟨rfl,rfl,rfl,aO _,λ_ _ _=>rfl⟩
theorem Fr.trans{X:ag}{w w' FN:World}(h:Fr X w w')(g:Fr X w' FN):Fr X w FN:=
 ⟨g.os.trans h.os,g.tape.trans h.tape,g.output.trans h.output,bH h.size g.size,λb hb hx=>(g.heap b (Nat.lt_of_lt_of_le hb h.size) hx).trans (h.heap b hb hx)⟩
theorem Fr.mono{X Y:ag}{w w':World}(h:Fr X w w')(hxy:∀b,b<w.heap.size->X b->Y b):Fr Y w w':=
 ⟨h.os,h.tape,h.output,h.size,λb hb hy=>h.heap b hb λhx=>hy (hxy b hb hx)⟩
def lZ(P:Program):Nat->TypeId->List rb
 |0,_=>[]
 |n+1,t=>match P.underlying t with
  |some (.int k)=>[.int k]
  |some .bool=>[.bool]
  |some .string=>[.str]
  |some (.slice e)=>[.sl (P.cellsOf e)]
  |some (.struct fs)=>fs.toList.flatMap λf=>lZ P n f.type
  |some (.array m e)=>(List.replicate m (lZ P n e)).flatten
  |_=>[.other]
def Hv(P:Program)(t:TypeId):TK:=
 match P.underlying t with
 |some (.int k)=>.int k
 |some .bool=>.bool
 |some .string=>.string
 |some (.slice e)=>.slice e (P.cellsOf e)
 |some (.struct fs)=>.struct (fs.toList.map λf=>(f.offset,f.type,P.cellsOf f.type))
 |some (.array n e)=>.array n e (P.cellsOf e)
 |_=>.other
def Uy(P:Program)(g:TypeId->Bool)(l:TypeId->Nat):List Field->Nat->Bool
 |[],_=>true
 |f::fs,o=>f.name != "_" &&bT f.offset o&&bT (P.cellsOf f.type) (l f.type)&&Nat.blt 0 (l f.type)&&g f.type&&Uy P g l fs (o+l f.type)
def rB(P:Program):Nat->TypeId->Bool
 |0,_=>false
 |n+1,t=>match P.underlying t with
  |some (.int _)=>true
  |some .bool=>true
  |some .string=>true
  |some (.struct fs)=>!P.stoodInHeld t&&Uy P (rB P n) (λu=>(lZ P n u).length) fs.toList 0
  |some (.array _ e)=>bT (P.cellsOf e) (lZ P n e).length&&Nat.blt 0 (P.cellsOf e)&&rB P n e
  |_=>false
def AT(P:Program)(t:TypeId):Option TI:=
 match P.info? t with
 |some i=>if(lZ P 8 t).length=i.size/\(P.underlying t).isSome=true then
  some ⟨Hv P t,i.size,i.bytes,lZ P 8 t,i.zero.bind λz=>Bt z.cells.toList,!(P.eqGuardType P.depth t)&&rB P 8 t⟩else none
 |none=>none
def jy(P:Program)(T:fq):Prop:=T.map (λx=>AT P x.1)=T.map (λx=>some x.2)
theorem jy.get{P:Program}{T:fq}(h:jy P T){t:TypeId}{i:TI}(hi:T.get t=some i):AT P t=some i:=by
 induction T with
 |nil=>simp[fq.get]at hi
 |cons x l ih=>
  obtain⟨u,j⟩:=x
  simp only[jy,fR,List.cons.injEq]at h
  simp only[fq.get]at hi
  cases hb:bT u t with
  |true=>
   simp only[hb,Option.some.injEq]at hi
   have:=bE hb
   subst this;subst hi
   exact h.1
  |false=>simp only[hb]at hi;exact ih h.2 hi
theorem nk{K:Rows->Prop}:∀{R:Rows},tK R K↔K R
 |[]=>Iff.rfl
 |d::l=>by unfold tK;exact nk (R:=l) (K:=λl=>K (d::l))
theorem D.cg{K:D->Prop}{d:D}:d.force K↔K d:=by cases d<;>rfl
theorem D.fj:∀{l:List D} {K:List D->Prop},D.jV l K↔K l
 |[],_=>Iff.rfl
 |d::l,K=>by unfold D.jV;rw[D.cg];exact D.fj (l:=l) (K:=λl=>K (d::l))
theorem Zfb{row:Row}:∀{R:Rows} {n:Nat} {K:Nat->Rows->Prop},wV row R n K↔K (n+R.length) (R++[some row])
 |[],_,_=>Iff.rfl
 |x::l,n,K=>by
  unfold wV
  rw[Zfb (R:=l) (K:=λk l=>K k (x::l))]
  simp only[dI,List.cons_append]
  rw[show n+1+l.length=n+(l.length+1) by omega]
theorem Nj{row:Row}{R:Rows}{K:Nat->Rows->Prop}:AU R row K↔K R.length (R++[some row]):=by
 unfold AU;rw[Zfb];simp
theorem fx.one{I:ag}{w:World}{d:D}{v:Value}(h:fx I w d v):v.oneCell'=true:=by
 cases d<;>simp only[si,rL,sj,sq,sr,ss,tv,tU,tV,tW,tX,tY,tZ,ua,ub,uc,zS,Zp,Zo4]at h
 case sl sz es fr=>obtain⟨a,cap,hv,_⟩:=h;subst hv;rfl
 case emp=>obtain⟨a,hv⟩:=h;subst hv;rfl
 all_goals first|(subst h;rfl)|exact h.elim
theorem cu.one{c:Ctx}{w:World}{d:D}{v:Value}(h:cu c w d v):v.oneCell'=true:=by
 cases d<;>simp only[cu]at h
 case sl sz es fr=>obtain⟨a,cap,hv,_⟩:=h;subst hv;rfl
 case emp=>obtain⟨a,hv,_⟩:=h;subst hv;rfl
 case pY es=>obtain⟨b,hv,_⟩:=h;subst hv;rfl
 case all r=>obtain⟨row,_,_,⟨_,a,hv,_⟩|⟨_,cap,arr,hv,_⟩⟩:=h<;>(subst hv;rfl)
 case own r o n=>
  obtain⟨row,_,_,_,⟨_,a,hv,_⟩|⟨_,cap,arr,_,_,_,hv,_⟩⟩:=h<;>(subst hv;rfl)
 case ptr r i off=>obtain⟨row,_,_,_,hv⟩:=h;subst hv;rfl
 case pa r i off len k n=>obtain⟨_,row,_,_,_,hv⟩:=h;subst hv;rfl
 case ir sz es i off=>obtain⟨b,o,arr,ty,fz,hv,_⟩:=h;subst hv;rfl
 case gn f cs=>obtain⟨us,⟨_,hv⟩|⟨_,l,rec,hv,_⟩,_⟩:=h<;>(subst hv;rfl)
 case c8 r=>obtain hv|⟨row,_,_,_,hv⟩:=h<;>(subst hv;rfl)
 all_goals first|exact h|(subst h;rfl)|exact h.elim
theorem Uz{I:ag}{w:World}:∀{cs:List D} {arr:Array Value} {off j:Nat},nP I w cs arr off->j<cs.length->∃v,arr[off+j]?=some v/\fx I w (cs.getD j .dead) v
 |c::cs,arr,off,0,h,_=>by
  simp only[BK,Ak]at h
  simpa using h.1
 |c::cs,arr,off,j+1,h,hj=>by
  simp only[BK,Ak]at h
  obtain⟨v,hv,hp⟩:=Uz h.2 (fX (by simpa using hj))
  exact⟨v,by rw[show off+(j+1)=off+1+j by omega];exact hv,by simpa using hp⟩
theorem UA{I:ag}{w:World}:∀{es:List (List D)} {arr:Array Value} {off sz i:Nat},iI I w es arr off sz->i<es.length->(es.getD i []).length=sz/\nP I w (es.getD i []) arr (off+i*sz)
 |e::es,arr,off,sz,0,h,_=>by
  simp only[pM,oi]at h
  simpa using⟨h.1,h.2.1⟩
 |e::es,arr,off,sz,i+1,h,hi=>by
  simp only[pM,oi]at h
  obtain⟨h1,h2⟩:=UA h.2.2 (fX (by simpa using hi))
  exact⟨by simpa using h1,by rw[show off+(i+1)*sz=off+sz+i*sz by rw[Nat.succ_mul];omega];simpa using h2⟩
theorem Z99{c:Ctx}{w:World}:∀{cs:List D} {arr:Array Value} {off j:Nat},kJ c w cs arr off->j<cs.length->∃v,arr[off+j]?=some v/\cu c w (cs.getD j .dead) v
 |d::cs,arr,off,0,h,_=>by
  simp only[kJ]at h
  simpa using h.1
 |d::cs,arr,off,j+1,h,hj=>by
  simp only[kJ]at h
  obtain⟨v,hv,hp⟩:=Z99 h.2 (fX (by simpa using hj))
  exact⟨v,by rw[show off+(j+1)=off+1+j by omega];exact hv,by simpa using hp⟩
theorem En{c:Ctx}{w:World}:∀{ds:List D} {vs:List Value},(jm c w ds vs↔ds.length=vs.length/\∀j v,vs[j]?=some v->cu c w (ds.getD j .dead) v)
 |[],[]=>by simp[jm]
 |[],v::vs=>by simp[jm]
 |d::ds,[]=>by simp[jm]
 |d ::ds,v::vs=>by
  simp only[jm,En (ds:=ds) (vs:=vs),dI,Nat.add_right_cancel_iff]
  constructor
  ·rintro⟨h1,h2,h3⟩
   refine⟨h2,λj u hu=>?_⟩
   cases j with
   |zero=>simp at hu;subst hu;simpa using h1
   |succ j=>simpa using h3 j u (by simpa using hu)
  ·rintro⟨h1,h2⟩
   exact⟨by simpa using h2 0 v (by simp),h1,λj u hu=>by simpa using h2 (j+1) u (by simpa using hu)⟩
def j8(pl:Bool)(c:Ctx)(w:World)(d:D)(v:Value):Prop:=match pl with|true=>fx c.I w d v|false=>cu c w d v
theorem Zfn{pl:Bool}{ty:rb}{d:D}{K:D->Prop}(h:uG pl ty d K):∃d',K d'/\∀c w v,j8 pl c w d v->cu c w d' v:=by
 cases ty with
 |int k=>
  simp only[uG,da]at h
  refine⟨_,h.2,λc w v hx=>?_⟩
  cases d<;>simp[D.isInt]at h
  obtain⟨rfl,_⟩:=h
  cases pl<;>simpa[j8,si,rL,sj,sq,sr,ss,tv,tU,tV,tW,tX,tY,tZ,ua,ub,uc,cu,D.toInt]using hx
 |bool=>
  simp only[uG,da]at h
  refine⟨_,h.2,λc w v hx=>?_⟩
  cases d<;>simp[D.isBool]at h
  cases pl<;>simpa[j8,si,rL,sj,sq,sr,ss,tv,tU,tV,tW,tX,tY,tZ,ua,ub,uc,cu,D.toBool]using hx
 |str=>
  simp only[uG,da]at h
  refine⟨_,h.2,λc w v hx=>?_⟩
  cases d<;>simp[D.isStr]at h
  cases pl<;>simpa[j8,si,rL,sj,sq,sr,ss,tv,tU,tV,tW,tX,tY,tZ,ua,ub,uc,cu,D.toStr]using hx
 |sl n=>
  cases pl with
  |true=>
   simp only[uG,da]at h
   refine⟨_,h.2,λc w v hx=>?_⟩
   cases d<;>(try(simp[D.FP]at h;done))
   case du=>exact⟨none,0,sr.1 hx,Nat.zero_le _,.inl rfl⟩
   case emp=>obtain⟨a,ha⟩:=ss.1 hx;exact⟨a,0,ha,Nat.zero_le _,.inl rfl⟩
   simp only[D.FP]at h
   have hh:=bE h.1
   subst hh
   simp only[j8,si,rL,sj,sq,sr,ss,tv,tU,tV,tW,tX,tY,tZ,ua,ub,uc]at hx
   simp only[cu,D.toEs]
   obtain⟨a,cap,hv,hc,ij⟩:=hx
   refine⟨a,cap,hv,hc,?_⟩
   rcases ij with ij|⟨b,off,arr,ty,fz,ha,hI,hh,hE⟩
   ·exact .inl ij
   ·exact .inr ⟨b,off,arr,ty,fz,ha,hI,by simp,hh,SU.1 hE⟩
  |false=>
   simp only[uG,da,D.cg]at h
   exact⟨_,h.2,λc w v hx=>hx⟩
 |other=>
  cases pl with
  |false=>
   simp only[uG,da,D.cg]at h
   exact⟨_,h.2,λc w v hx=>hx⟩
  |true=>
   simp only[uG]at h
   cases d<;>simp only at h
   case iK=>exact⟨_,h,λc w v hx=>sq.1 hx⟩
theorem Zaa{pl:Bool}{e:List D}:∀{dc:List rb} {off:Nat} {K:List D->Prop},JF pl e dc off K->
 ∃ds,K ds/\ds.length=dc.length/\∀j,j<dc.length->∀c w v,j8 pl c w (e.getD (off+j) .dead) v->cu c w (ds.getD j .dead) v
 |[],off,K,h=>⟨[],h,rfl,λj hj=>by simp at hj⟩
 |t::ts,off,K,h=>by
  simp only[JF]at h
  obtain⟨d,hd,h1⟩:=Zfn h
  obtain⟨ds,Eo,hl,h2⟩:=Zaa hd
  refine⟨d::ds,Eo,by simp[hl],λj hj c w v hx=>?_⟩
  cases j with
  |zero=>simpa using h1 c w v (by simpa using hx)
  |succ j=>simpa using h2 j (by simpa using hj) c w v (by rw[show off+1+j=off+(j+1) by omega];exact hx)
theorem DE{P:Program}{t:TypeId}{ti:TI}(h:AT P t=some ti):∃i,P.info? t=some i/\i.size=ti.size/\i.bytes=ti.bytes/\ti.sR.length=ti.size/\ti.kind=Hv P t/\
 ti.zero=(i.zero.bind λz=>Bt z.cells.toList)/\ti.eq=(!(P.eqGuardType P.depth t)&&rB P 8 t)/\ti.sR=lZ P 8 t/\∃d,P.underlying t=some d:=by
 unfold AT at h
 cases hi:P.info? t with
 |none=>simp[hi]at h
 |some i=>
  simp only[hi]at h
  split at h
  ·rename_i hl
   simp only[Option.some.injEq]at h
   subst h
   exact⟨i,rfl,rfl,rfl,hl.1,rfl,rfl,rfl,rfl,Option.isSome_iff_exists.1 hl.2⟩
  ·cases h
def PW:TypeDesc->Bool|.struct _=>true|.array _ _=>true|_=>false
theorem Mr{P:Program}{t:TypeId}{d:TypeDesc}(hd:P.underlying t=some d):(Hv P t).isAgg=PW d:=by
 unfold Hv
 rw[hd]
 cases d<;>rfl
theorem Zw{P:Program}{t:TypeId}{d:TypeDesc}(hd:P.underlying t=some d)(w:World):(isAgg t).run P w=.ok (Hv P t).isAgg w:=by
 rw[Mr hd]
 unfold isAgg
 rw[Sem.run_bind,run_underlying hd w]
 cases d<;>rfl
def AV(arr:Array Value)(o n:Nat):List Value:=(List.range n).map λj=>(arr[o+j]?).getD undef
theorem FG(b o j:Nat):(⟨b,o,none⟩:Addr).add j=⟨b,o+j,none⟩:=by
 unfold Addr.add;split<;>simp_all
theorem Zx{P:Program}{t:TypeId}{ti:TI}(ht:AT P t=some ti){w:World}{b o:Nat}{arr:Array Value}{ty:TypeId}{fz:Nat×Nat}(hb:w.heap[b]?=some (.cells arr ty fz))
 (Tw:∀j,j<ti.size->∃v,arr[o+j]?=some v) (h1:ti.kind.isAgg=true\/ti.size=1):
 (loadVar t ⟨b,o,none⟩).run P w=.ok (if ti.kind.isAgg then .agg (AV arr o ti.size).toArray else(arr[o]?).getD undef) w:=by
 obtain⟨i,hi,hs,_,_,hk,_,_,_,d,hd⟩:=DE ht
 have mn:∀j,w.cell? ⟨b,o+j,none⟩=arr[o+j]? :=λj=>by simp[World.cell?,hb]
 have hl:(loadCells ⟨b,o,none⟩ ti.size).run P w=.ok (AV arr o ti.size).toArray w:=
  run_loadCells w _ _ _ λj hj=>by
   rw[FG,mn]
   obtain⟨v,hv⟩:=Tw j hj
   simp[hv]
 unfold loadVar
 rw[Sem.run_bind,Zw hd,Result.andThen_ok,<-hk]
 cases hg:ti.kind.isAgg with
 |true=>
  simp only[if_true,Sem.run_bind,sizeOf,typeInfo,run_program,Result.andThen_ok,hi,Sem.run_pure,hs,hl]
 |false=>
  have fw:ti.size=1:=by simpa[hg]using h1
  obtain⟨v,hv⟩:=Tw 0 (by omega)
  have Ms:arr[o]?=some v:=by simpa using hv
  have hc:w.cell? ⟨b,o,none⟩=some v:=by simpa[Ms]using mn 0
  simp[hc,Ms]
theorem Zfi{pl:Bool}{ti:TI}{e:List D}{off:Nat}{K:D->Prop}(hl:ti.sR.length=ti.size)(h:uH pl ti e off K):
 ∃ val,K val/\(ti.kind.isAgg=true\/ti.size=1)/\∀c w arr o,(∀j,j<ti.size->∃v,arr[o+j]?=some v/\j8 pl c w (e.getD (off+j) .dead) v)->
  Rep c w val (if ti.kind.isAgg then .agg (AV arr o ti.size).toArray else(arr[o]?).getD undef):=by
 unfold uH at h
 cases hg:ti.kind.isAgg with
 |true=>
  simp only[hg]at h
  obtain⟨ds,hK,hlen,hr⟩:=Zaa h
  refine⟨_,hK,.inl rfl,λc w arr o hx=>?_⟩
  simp only[if_true]
  refine⟨_,rfl,En.2 ⟨by simp[AV,hlen,hl],λj v hv=>?_⟩⟩
  have hj:j<ti.size:=by
   have:=(List.getElem?_eq_some_iff.1 hv).1
   simpa[AV]using this
  obtain⟨u,hu,uj⟩:=hx j hj
  have:u=v:=by simpa[AV,hj,hu]using hv
  subst this
  exact hr j (by omega) c w u uj
 |false=>
  simp only[hg]at h
  match hc:ti.sR with
  |[y]=>
   simp only[hc]at h
   obtain⟨d,hK,hr⟩:=Zfn h
   have fw:ti.size=1:=by rw[<-hl,hc];rfl
   refine⟨d,hK,.inr fw,λc w arr o hx=>?_⟩
   obtain⟨u,hu,uj⟩:=hx 0 (by omega)
   have UB:arr[o]?=some u:=by simpa using hu
   simp only[aN,if_false,UB,Option.getD_some]
   have:=hr c w u (by simpa using uj)
   cases d<;>first|exact this|trivial|exact this.elim
  |[]=>simp only[hc]at h
  |_::_::_=>simp only[hc]at h
def mH(c:Ctx)(R:Rows):Prop:=∀r row ak,c.R r=some row->R.getD r none=some ak->row=ak
theorem Aq(w:World)(o:Obj)(b:Nat)(h:b<w.heap.size):(w.alloc o).heap[b]?=w.heap[b]? :=by
 show(w.heap.push o)[b]?=w.heap[b]?
 rw[Array.getElem?_push,if_neg (Nat.ne_of_lt h)]
theorem UC(w:World)(o:Obj):(w.alloc o).heap[w.heap.size]?=some o:=by
 show(w.heap.push o)[w.heap.size]?=some o
 simp
def Ctx.add(c:Ctx)(k:Nat)(row:Row)(b:Nat):Ctx:={c with R:=λr=>if r=k then some row else c.R r,ρ:=λr=>if r=k then b else c.ρ r,V:=λr=>r≠k/\c.V r}
theorem Ctx.iZ(c:Ctx)(k:Nat)(row:Row)(b:Nat):(c.add k row b).R k=some row/\(c.add k row b).ρ k=b:=by simp[Ctx.add]
theorem jk.alloc{c:Ctx}{w:World}(hm:Mem c w){k:Nat}(hk:c.R k=none)(row:Row)(o:Obj):jk c w (c.add k row w.heap.size) (w.alloc o):=by
 refine⟨rfl,aO _,λb hb=>⟨hb,Aq w o b (hm.fu b hb).1⟩,λr x hr=>?_⟩
 have gr:r≠k:=λe=>by rw[e,hk]at hr;cases hr
 refine⟨x,by simp[Ctx.add,gr,hr],rfl,rfl,rfl,rfl,by simp[Ctx.add,gr],by simp[Ctx.add,gr],λnv arr ha=>⟨arr,?_,rfl⟩⟩
 rw[Aq w o _ (hm.lt hr nv)];exact ha
theorem Fr.alloc(X:ag)(w:World)(o:Obj):Fr X w (w.alloc o):=
 ⟨rfl,rfl,rfl,by show w.heap.size<=(w.heap.push o).size;simp,λb hb _=>Aq w o b hb⟩
theorem tS{c c':Ctx}{w w':World}(h:jk c w c' w'){r:Nat}{row:Row}(PX:c'.ρ r=c.ρ r)(hV:c'.V r↔c.V r)(hh:¬c.V r->w'.heap[c.ρ r]?=w.heap[c.ρ r]?)(hr:EN c w r row):EN c' w' r row:=by
 rcases hr with⟨h0,hr⟩|⟨h0,hr⟩
 ·exact .inl ⟨hV.2 h0,hr⟩
 refine .inr ⟨λe=>h0 (hV.1 e),?_⟩
 obtain⟨arr,ha,hs,hx⟩:=hr
 refine⟨arr,by rw[PX,hh h0];exact ha,hs,?_⟩
 split
 ·rename_i hb
  simp only[hb,if_true]at hx
  obtain⟨e,h1,h2,h3,h4⟩:=hx
  exact⟨e,h1,h2,h3,Ni h h4⟩
 ·rename_i hb
  simp only[hb,if_false,aN]at hx
  exact od h.I _ _ _ _ hx
theorem Mem.alloc{c:Ctx}{w:World}(hm:Mem c w){k:Nat}(hk:c.R k=none)(row:Row)(arr:Array Value)(hs:0<row.sz)
 (hx:if row.box then∃e,row.es=.gen [e]/\e.length=row.sz/\arr.size=row.sz/\kJ c w e arr 0 else iI c.I w row.es.l arr 0 row.sz):
 Mem (c.add k row w.heap.size) (w.alloc (.cells arr row.ty)):=by
 have hg:=jk.alloc hm hk row (.cells arr row.ty)
 refine⟨λr x hr=>?_,λr s x y hr ji JG Mt he=>?_,λb hb=>?_,bH hm.top (by show w.heap.size<=(w.heap.push _).size;simp),hm.kM.mono hg.I⟩
 ·by_cases e:r=k
  ·subst e
   simp only[Ctx.add,if_true,Option.some.injEq]at hr
   subst hr
   refine .inr ⟨by simp[Ctx.add],arr,by simp only[Ctx.add,if_true];exact UC w _,hs,?_⟩
   split
   ·rename_i hb
    simp only[hb,if_true]at hx
    obtain⟨e,h1,h2,h3,h4⟩:=hx
    exact⟨e,h1,h2,h3,Ni hg h4⟩
   ·rename_i hb
    simp only[hb,if_false,aN]at hx
    exact od hg.I _ _ _ _ hx
  ·have nA:c.R r=some x:=by simpa[Ctx.add,e]using hr
   exact tS hg (by simp[Ctx.add,e]) (by simp[Ctx.add,e]) (λnv=>Aq w _ _ (hm.lt nA nv)) (hm.row r x nA)
 ·by_cases e1:r=k<;>by_cases e2:s=k
  ·exact e1.trans e2.symm
  ·exfalso
   have h2:c.R s=some y:=by simpa[Ctx.add,e2]using ji
   have:=hm.lt h2 (by simpa[Ctx.add,e2]using Mt)
   simp[Ctx.add,e1,e2]at he
   omega
  ·exfalso
   have h1:c.R r=some x:=by simpa[Ctx.add,e1]using hr
   have:=hm.lt h1 (by simpa[Ctx.add,e1]using JG)
   simp[Ctx.add,e1,e2]at he
   omega
  ·exact hm.inj r s x y (by simpa[Ctx.add,e1]using hr) (by simpa[Ctx.add,e2]using ji) (by simpa[Ctx.add,e1]using JG) (by simpa[Ctx.add,e2]using Mt) (by simpa[Ctx.add,e1,e2]using he)
 ·have tA:c.I b:=hb
  obtain⟨h1,h2⟩:=hm.fu b tA
  refine⟨by show b<(w.heap.push _).size;simp;omega,λr x hr hv=>?_⟩
  by_cases e:r=k
  ·simp only[Ctx.add,e,if_true];omega
  ·simpa[Ctx.add,e]using h2 r x (by simpa[Ctx.add,e]using hr) (by simpa[Ctx.add,e]using hv)
theorem wU.get{c:Ctx}{w:World}{r:Nat}{row:Row}(h:wU c w r row){i off n:Nat}(hi:i<row.es.l.length)(hn:off+n<=row.sz):
 ∃arr,w.heap[c.ρ r]?=some (.cells arr row.ty (0,0))/\∀j,j<n->∃v,arr[i*row.sz+off+j]?=some v/\j8 (!row.box) c w ((row.es.l.getD i []).getD (off+j) .dead) v:=by
 obtain⟨arr,ha,hs,hx⟩:=h
 refine⟨arr,ha,λj hj=>?_⟩
 cases hb:row.box with
 |true=>
  simp only[hb,if_true]at hx
  obtain⟨e,h1,h2,h3,h4⟩:=hx
  have rK:i=0:=by rw[h1]at hi;simpa[ao.l]using hi
  subst rK
  obtain⟨v,hv,hp⟩:=Z99 h4 (j:=off+j) (by omega)
  exact⟨v,by simpa using hv,by simpa[j8,h1,ao.l]using hp⟩
 |false=>
  simp only[hb,if_false,aN]at hx
  obtain⟨h1,h2⟩:=UA hx hi
  obtain⟨v,hv,hp⟩:=Uz h2 (j:=off+j) (by omega)
  exact⟨v,by simpa[fY]using hv,by simpa[j8]using hp⟩
theorem UD:∀{e:List D} {len off n:Nat},n<len->(ints e off len).getD n 0=(e.getD (off+n) .dead).toInt
 |e,len+1,off,0,_=>by simp[ints]
 |e,len+1,off,n+1,h=>by
  have:=UD (e:=e) (len:=len) (off:=off+1) (n:=n) (by omega)
  rw[show off+1+n=off+(n+1) by omega]at this
  simpa[ints]using this
theorem UE:∀{e:List D} {len off n:Nat},n<len->(bo e off len).getD n false=(e.getD (off+n) .dead).toBool
 |e,len+1,off,0,_=>by simp[bo]
 |e,len+1,off,n+1,h=>by
  have:=UE (e:=e) (len:=len) (off:=off+1) (n:=n) (by omega)
  rw[show off+1+n=off+(n+1) by omega]at this
  simpa[bo]using this
theorem UF{k:IntKind}:∀{e:List D} {len off n:Nat},CO k e off len=true->n<len->(e.getD (off+n) .dead).isInt k=true
 |e,len+1,off,0,h,_=>by simp only[CO,aE]at h;exact h.1
 |e,len+1,off,n+1,h,hn=>by
  simp only[CO,aE]at h
  have:=UF h.2 (n:=n) (by omega)
  rwa [show off+1+n=off+(n+1) by omega]at this
theorem UG:∀{e:List D} {len off n:Nat},Hw e off len=true->n<len->(e.getD (off+n) .dead).isBool=true
 |e,len+1,off,0,h,_=>by simp only[Hw,aE]at h;exact h.1
 |e,len+1,off,n+1,h,hn=>by
  simp only[Hw,aE]at h
  have:=UG h.2 (n:=n) (by omega)
  rwa [show off+1+n=off+(n+1) by omega]at this
theorem D.j9{k:IntKind}{d:D}(h:d.isInt k=true):d=.int k d.toInt:=by
 cases d<;>simp[D.isInt]at h
 subst h;rfl
theorem D.ka{d:D}(h:d.isBool=true):d=.bool d.toBool:=by
 cases d<;>simp[D.isBool]at h
 rfl
theorem j8.int{pl:Bool}{c:Ctx}{w:World}{k:IntKind}{n:Int}{v:Value}(h:j8 pl c w (.int k n) v):v=.int k n:=by
 cases pl<;>simpa[j8,si,rL,sj,sq,sr,ss,tv,tU,tV,tW,tX,tY,tZ,ua,ub,uc,cu]using h
theorem j8.bool{pl:Bool}{c:Ctx}{w:World}{b:Bool}{v:Value}(h:j8 pl c w (.bool b) v):v=.bool b:=by
 cases pl<;>simpa[j8,si,rL,sj,sq,sr,ss,tv,tU,tV,tW,tX,tY,tZ,ua,ub,uc,cu]using h
theorem UH{P:Program}{t:TypeId}{ti:TI}(ht:AT P t=some ti)(hk:(ti.kind.isAgg||match ti.kind with|.other=>true|_=>false)=false):ti.size=1:=by
 obtain⟨_,_,_,_,hl,oa,_,_,hc,_⟩:=DE ht
 rw[<-hl,hc]
 rw[oa]at hk
 unfold Hv at hk
 unfold lZ
 split at hk<;>first|rfl|(simp[TK.isAgg]at hk)
theorem UI{P:Program}{t:TypeId}{w:World}{a:Addr}:(Instr.loadAt t (.pointer (some a))).run P w=(loadVar t a).run P w:=by
 simp[Instr.loadAt,Instr.sureAddr]
theorem Zgx{P:Program}{T:fq}(hT:jy P T){t:TypeId}{x:D}{R:Rows}{K:D->Rows->Prop}(h:wW T t x R K):
 ∃val,K val R/\∀c w v,Mem c w->mH c R->Rep c w x v->∃u,(Instr.loadAt t v).run P w=.ok u w/\Rep c w val u:=by
 unfold wW at h
 cases ht:T.get t with
 |none=>simp only[ht]at h
 |some ti=>
  simp only[ht]at h
  have Mu:=hT.get ht
  obtain⟨i0,rK,EI,_,Bi,Aj,_⟩:=DE Mu
  cases x<;>simp only at h
  case ptr r i off=>
   cases hR:R.getD r none with
   |none=>simp only[hR]at h
   |some row=>
    obtain⟨box,ty,sz,es⟩:=row
    simp only[hR,da]at h
    obtain⟨hle,h⟩:=h
    have hle:=lE hle
    obtain⟨val,hK,ui,hr⟩:=Zfi Bi h
    refine⟨val,hK,λc w v hm hA hv=>?_⟩
    obtain⟨row,h1,hV,h2,h3⟩:=hv
    have cb:=hA r row _ h1 hR
    subst cb
    obtain⟨arr,ha,hx⟩:=(hm.real h1 hV).get h2 hle
    simp only[ao.nm es (show i<es.len by simpa using h2)]at hx
    subst h3
    refine⟨_,UI.trans (Zx Mu ha (λj hj=>by obtain⟨v,hv,_⟩:=hx j hj;exact⟨v,hv⟩) ui),hr c w arr _ hx⟩
  case pa r i off len k n=>
   cases hR:R.getD r none with
   |none=>simp only[hR]at h
   |some row=>
    obtain⟨box,ty,sz,es⟩:=row
    simp only[hR,da]at h
    obtain⟨hle,h⟩:=h
    have hle:=lE hle
    have one:(ti.kind.isAgg=false)->ti.size=1->∀c w v,Mem c w->mH c R->Rep c w (.pa r i off len k n) v->∃u,(Instr.loadAt t v).run P w=.ok u w/\j8 (!box) c w ((es.get i).getD (off+n) .dead) u/\n<len:=by
     intro CP fw c w v hm hA hv
     obtain⟨hn,row,h1,hV,h2,h3⟩:=hv
     have cb:=hA r row _ h1 hR
     subst cb
     obtain⟨arr,ha,hx⟩:=(hm.real h1 hV).get h2 hle
     simp only[ao.nm es (show i<es.len by simpa using h2)]at hx
     subst h3
     obtain⟨u,hu,uj⟩:=hx n hn
     have UB:arr[i*sz+(off+n)]?=some u:=by rw[<-fY];exact hu
     refine⟨u,?_,uj,hn⟩
     rw[UI,Zx Mu ha (λj hj=>⟨u,by rw[show j=0 by omega];exact UB⟩) (.inr fw),CP]
     simp[UB]
    split at h
    ·rename_i j k' hk
     simp only[aE,decide_eq_true_eq]at h
     obtain⟨⟨rfl,iP⟩,h⟩:=h
     have fw:ti.size=1:=UH Mu (by rw[hk];simp[TK.isAgg])
     refine⟨_,h,λc w v hm hA hv=>?_⟩
     obtain⟨u,hu,uj,hn⟩:=one (by rw[hk];rfl) fw c w v hm hA hv
     rw[D.j9 (UF iP hn)]at uj
     have:=j8.int uj
     subst this
     exact⟨_,hu,by simp only[Rep,VRep,cu];rw[UD hn]⟩
    ·rename_i hk
     obtain⟨iP,h⟩:=h
     have fw:ti.size=1:=UH Mu (by rw[hk];simp[TK.isAgg])
     refine⟨_,h,λc w v hm hA hv=>?_⟩
     obtain⟨u,hu,uj,hn⟩:=one (by rw[hk];rfl) fw c w v hm hA hv
     rw[D.ka (UG iP hn)]at uj
     have:=j8.bool uj
     subst this
     exact⟨_,hu,by simp only[Rep,VRep,cu];rw[UE hn]⟩
    ·exact h.elim
  case ir sz es i off=>
   simp only[da]at h
   obtain⟨hle,h⟩:=h
   have hle:=lE hle
   obtain⟨val,hK,ui,hr⟩:=Zfi Bi h
   refine⟨val,hK,λc w v hm hA hv=>?_⟩
   obtain⟨b,o,arr,ty,fz,h3,hI,hi,ha,hE⟩:=hv
   subst h3
   obtain⟨h1,h2⟩:=UA hE hi
   rw[ao.nm es (show i<es.len by simpa using hi)]at h1 h2
   have hx:∀j,j<ti.size->∃v,arr[o+i*sz+off+j]?=some v/\j8 true c w ((es.get i).getD (off+j) .dead) v:=λj hj=>by
    obtain⟨v,hv,hp⟩:=Uz h2 (j:=off+j) (by omega)
    exact⟨v,by rw[<-hv];congr 1;omega,hp⟩
   exact⟨_,UI.trans (Zx Mu ha (λj hj=>by obtain⟨v,hv,_⟩:=hx j hj;exact⟨v,hv⟩) ui),hr c w arr _ hx⟩
def Ctx.fu(c:Ctx)(b:Nat):Ctx:={c with I:=λx=>c.I x\/x=b,top:=max c.top (b+1)}
theorem UJ{c:Ctx}{w:World}(hm:Mem c w)(o:Obj):jk c w (c.fu w.heap.size) (w.alloc o):=
 ⟨rfl,Nat.le_max_left _ _,λb hb=>⟨.inl hb,Aq w o b (hm.fu b hb).1⟩,λr x hr=>⟨x,hr,rfl,rfl,rfl,rfl,rfl,Iff.rfl,λnv arr ha=>⟨arr,by rw[Aq w o _ (hm.lt hr nv)];exact ha,rfl⟩⟩⟩
theorem xau{c:Ctx}{w:World}(hm:Mem c w)(o:Obj):Mem (c.fu w.heap.size) (w.alloc o):=by
 refine⟨λr x hr=>tS (UJ hm o) rfl Iff.rfl (λnv=>Aq w _ _ (hm.lt hr nv)) (hm.row r x hr),hm.inj,λb hb=>?_,?_,hm.kM.mono (UJ hm o).I⟩
 all_goals have fw:(w.alloc o).heap.size=w.heap.size+1:=by show(w.heap.push o).size=_;simp
 rotate_left
 ·have:=hm.top;rw[fw];exact Nat.max_le.2 ⟨by omega,aO _⟩
 rcases hb with hb|hb
 ·exact⟨by have:=(hm.fu b hb).1;omega,(hm.fu b hb).2⟩
 ·subst hb
  exact⟨by omega,λr x hr v=>by have:=hm.lt hr v;show c.ρ r≠w.heap.size;omega⟩

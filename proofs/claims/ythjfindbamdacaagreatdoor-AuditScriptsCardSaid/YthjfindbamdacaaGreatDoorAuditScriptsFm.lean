import Derived.Test.YthjfindbamdacaaGreatDoorAuditScriptsVc
open Nat renaming le_refl->aO,le_trans->bH,beq->bT,lt_of_succ_lt_succ->fX,add_assoc->fY
open List renaming map_cons->fR,length_cons->dI
open Bool renaming false_eq_true->aN
set_option linter.all false
namespace Go.GD
open Go
mutual
theorem Zoz{I I':ae}{w w':World}(h:∀b arr ty fz,I b->w.heap[b]?=some (.cells arr ty fz)->I' b/\w'.heap[b]?=some (.cells arr ty fz)):∀(d:D) (v:Value),fy I w d v->fy I' w' d v
 |_,_,.bool b=>.bool b
 |_,_,.int k n=>.int k n
 |_,_,.str s=>.str s
 |_,_,.iM=>.iM
 |_,_,.du=>.du
 |_,_,.emp a=>.emp a
 |_,_,.UE sz es fr a cap h0=>.UE sz es fr a cap h0
 |_,_,.UF sz es fr cap hc b off arr ty fz hI hh hE=>.UF sz es fr cap hc b off arr ty fz (h b arr ty fz hI hh).1 (h b arr ty fz hI hh).2 (Mw h es.l arr off sz hE)
theorem Zv{I I':ae}{w w':World}(h:∀b arr ty fz,I b->w.heap[b]?=some (.cells arr ty fz)->I' b/\w'.heap[b]?=some (.cells arr ty fz)):∀(cs:List D) (arr:Array Value) (off:Nat),nQ I w cs arr off->nQ I' w' cs arr off
 |_,_,_,.nil arr off=>.nil arr off
 |_,_,_,.cons c cs arr off v hv hp hr=>.cons c cs arr off v hv (Zoz h c v hp) (Zv h cs arr (off+1) hr)
theorem Mw{I I':ae}{w w':World}(h:∀b arr ty fz,I b->w.heap[b]?=some (.cells arr ty fz)->I' b/\w'.heap[b]?=some (.cells arr ty fz)):∀(es:List (List D)) (arr:Array Value) (off sz:Nat),iJ I w es arr off sz->iJ I' w' es arr off sz
 |_,_,_,_,.nil arr off sz=>.nil arr off sz
 |_,_,_,_,.cons e es arr off sz hl hc hr=>.cons e es arr off sz hl (Zv h e arr off hc) (Mw h es arr (off+sz) sz hr)
end
theorem wY{I I':ae}{w w':World}(h:∀b,I b->I' b/\w'.heap[b]?=w.heap[b]?)(b:Nat)(arr:Array Value)(ty:TypeId)(fz:Nat×Nat)(hI:I b)(hh:w.heap[b]?=some (.cells arr ty fz)):I' b/\w'.heap[b]?=some (.cells arr ty fz):=⟨(h b hI).1,(h b hI).2.trans hh⟩
theorem Zjj{I I':ae}{w w':World}(h:∀b,I b->I' b/\w'.heap[b]?=w.heap[b]?)(cs:List D)(arr:Array Value)(off:Nat)(hp:nQ I w cs arr off):nQ I' w' cs arr off:=Zv (wY h) cs arr off hp
theorem od{I I':ae}{w w':World}(h:∀b,I b->I' b/\w'.heap[b]?=w.heap[b]?)(es:List (List D))(arr:Array Value)(off sz:Nat)(hp:iJ I w es arr off sz):iJ I' w' es arr off sz:=Mw (wY h) es arr off sz hp
structure jk(c:Ctx)(w:World)(c':Ctx)(w':World):Prop where
 base:c'.base=c.base
 top:c.top<=c'.top
 I:∀b,c.I b->c'.I b/\w'.heap[b]?=w.heap[b]?
 R :∀r row,c.R r=some row->∃ak,c'.R r=some ak/\ak.box=row.box/\ak.ty=row.ty/\ak.sz=row.sz/\ak.es.l.length=row.es.l.length/\c'.ρ r=c.ρ r/\(c'.V r↔c.V r)/\
  (¬c.V r->∀arr,w.heap[c.ρ r]?=some (.cells arr row.ty (0,0))->∃iO,w'.heap[c.ρ r]?=some (.cells iO row.ty (0,0))/\iO.size=arr.size)
structure JL(c:Ctx)(w:World)(c':Ctx)(w':World):Prop where
 base:c'.base=c.base
 top:c.top<=c'.top
 I:∀b arr ty fz,c.I b->w.heap[b]?=some (.cells arr ty fz)->c'.I b/\w'.heap[b]?=some (.cells arr ty fz)
 R :∀r row,c.R r=some row->∃ak,c'.R r=some ak/\ak.box=row.box/\ak.ty=row.ty/\ak.sz=row.sz/\ak.es.l.length=row.es.l.length/\c'.ρ r=c.ρ r/\(c'.V r↔c.V r)/\
  (¬c.V r->∀arr,w.heap[c.ρ r]?=some (.cells arr row.ty (0,0))->∃iO,w'.heap[c.ρ r]?=some (.cells iO row.ty (0,0))/\iO.size=arr.size)
theorem jk.to0{c c':Ctx}{w w':World}(h:jk c w c' w'):JL c w c' w':=⟨h.base,h.top,wY h.I,h.R⟩
theorem Mx{c c':Ctx}{w w':World}(h:∀b,c.I b->c'.I b/\w'.heap[b]?=w.heap[b]?){f:Nat}{us:List Value}{v:Value}(hf:r7 c w f us v):r7 c' w' f us v:=by
 rcases hf with hf|⟨h1,l,rec,h2,h3,h4,h5⟩
 ·exact .inl hf
 ·exact .inr ⟨h1,l,rec,h2,(h l h3).1,(h l h3).2.trans h4,h5⟩
theorem jk.refl(c:Ctx)(w:World):jk c w c w:=
 ⟨rfl,aO _,λ_ h=>⟨h,rfl⟩,λ_ row h=>⟨row,h,rfl,rfl,rfl,rfl,rfl,Iff.rfl,λ_ arr h=>⟨arr,h,rfl⟩⟩⟩
theorem jk.trans{c c' SS:Ctx}{w w' FM:World}(h:jk c w c' w')(g:jk c' w' SS FM):jk c w SS FM:=by
 refine⟨g.base.trans h.base,bH h.top g.top,λb hb=>⟨(g.I b (h.I b hb).1).1,(g.I b (h.I b hb).1).2.trans (h.I b hb).2⟩,λr row hr=>?_⟩
 obtain⟨ak,h1,h2,h3,h4,h5,h6,hV,h7⟩:=h.R r row hr
 obtain⟨ov,g1,g2,g3,g4,g5,g6,gV,g7⟩:=g.R r ak h1
 refine⟨ov,g1,g2.trans h2,g3.trans h3,g4.trans h4,g5.trans h5,g6.trans h6,gV.trans hV,λnv arr ha=>?_⟩
 obtain⟨iO,jC,hs⟩:=h7 nv arr ha
 obtain⟨P0,P1,ji⟩:=g7 (λe=>nv (hV.1 e)) iO (by rw[h6,h3];exact jC)
 exact⟨P0,by rw[h6,h3]at P1;exact P1,ji.trans hs⟩
theorem Zw{c c':Ctx}{w w':World}(h:JL c w c' w'):∀{d:D} {v:Value},(∀f cs,d≠.gq f cs)->cv c w d v->cv c' w' d v:=by
 intro d v gl hd
 cases d with
 |sl sz es fr=>
  simp only[cv]at hd⊢
  obtain⟨a,cap,hv,hc,ij⟩:=hd
  refine⟨a,cap,hv,hc,?_⟩
  rcases ij with ij|⟨b,off,arr,ty,fz,ha,hI,hf,hh,hE⟩
  ·exact .inl ij
  ·exact .inr ⟨b,off,arr,ty,fz,ha,(h.I b arr ty fz hI hh).1,λe=>by rw[h.base];exact hf e,(h.I b arr ty fz hI hh).2,Mw h.I _ arr off sz hE⟩
 |all r=>
  simp only[cv]at hd⊢
  obtain⟨row,hr,hb,hd⟩:=hd
  obtain⟨ak,g1,g2,g3,g4,g5,g6,gV,g7⟩:=h.R r row hr
  refine⟨ak,g1,g2.trans hb,?_⟩
  rcases hd with⟨hV,hv⟩|⟨hV,cap,arr,hv,h1,h2,h3,h4⟩
  ·obtain⟨a,hv,ho⟩:=hv
   exact .inl ⟨gV.2 hV,a,hv,ho.mono h.top⟩
  ·obtain⟨iO,jC,hs⟩:=g7 hV arr h3
   exact .inr ⟨λe=>hV (gV.1 e),cap,iO,by rw[hv,g5,g6],by rw[g5];exact h1,h2,by rw[g6,g3];exact jC,by rw[g4,hs];exact h4⟩
 |emp=>
  obtain⟨a,hv,ho⟩:=hd
  exact⟨a,hv,ho.mono h.top⟩
 |own r o n=>
  simp only[cv]at hd⊢
  obtain⟨row,hr,hb,ho,hd⟩:=hd
  obtain⟨ak,g1,g2,g3,g4,g5,g6,gV,g7⟩:=h.R r row hr
  refine⟨ak,g1,g2.trans hb,by rw[g5];exact ho,?_⟩
  rcases hd with⟨h0,a,hv,je⟩|⟨hV,cap,arr,h1,h2,h3,h4,h5⟩
  ·exact .inl ⟨h0,a,hv,je.mono h.top gV g6⟩
  ·obtain⟨iO,jC,hs⟩:=g7 hV arr h3
   exact .inr ⟨λe=>hV (gV.1 e),cap,iO,h1,h2,by rw[g6,g3];exact jC,by rw[g4,g6];exact h4,by rw[g4,hs];exact h5⟩
 |ptr r i off=>
  simp only[cv]at hd⊢
  obtain⟨row,hr,hV,hi,hv⟩:=hd
  obtain⟨ak,g1,g2,g3,g4,g5,g6,gV,g7⟩:=h.R r row hr
  exact⟨ak,g1,λe=>hV (gV.1 e),by rw[g5];exact hi,by rw[hv,g6,g4]⟩
 |pa r i off len k n=>
  simp only[cv]at hd⊢
  obtain⟨hn,row,hr,hV,hi,hv⟩:=hd
  obtain⟨ak,g1,g2,g3,g4,g5,g6,gV,g7⟩:=h.R r row hr
  exact⟨hn,ak,g1,λe=>hV (gV.1 e),by rw[g5];exact hi,by rw[hv,g6,g4]⟩
 |iu sz es i off=>
  simp only[cv]at hd⊢
  obtain⟨b,o,arr,ty,fz,hv,hI,hi,hh,hE⟩:=hd
  exact⟨b,o,arr,ty,fz,hv,(h.I b arr ty fz hI hh).1,hi,(h.I b arr ty fz hI hh).2,Mw h.I _ arr o sz hE⟩
 |c8 r=>
  rcases hd with hd|⟨row,hr,hV,hi,hv⟩
  ·exact .inl hd
  ·obtain⟨ak,g1,g2,g3,g4,g5,g6,gV,g7⟩:=h.R r row hr
   exact .inr ⟨ak,g1,λe=>hV (gV.1 e),by rw[g5];exact hi,by rw[hv,g6,g4]⟩
 |gq f cs=>exact absurd rfl (gl f cs)
 |_=>exact hd
theorem Z8e{c c':Ctx}{w w':World}(h:jk c w c' w'){d:D}{v:Value}(gl:∀f cs,d≠.gq f cs)(hd:cv c w d v):cv c' w' d v:=Zw h.to0 gl hd
theorem Zx{c c':Ctx}{w w':World}{S:Nat->Prop}{f:Nat->Nat}{cu:Bool}{Fk:Nat->Prop}(g:∀d v,(∀f cs,d≠.gq f cs)->(∀r∈nN d,S r)->cv c w d v->cv c' w' (d.mF f cu) v)(gF:∀k ws v,Fk k->r7 c w k ws v->r7 c' w' k ws v):
 ∀{cs:List iv} {us:List Value},(∀k ps,iv.fn k ps∈cs->Fk k)->(∀r∈oz cs,S r)->oM c w cs us->oM c' w' (cs.map (iv.jg f cu)) us
 |[],[],_,_,_=>trivial
 |x ::cs,u::us,hF,hS,⟨h1,h2⟩=>by
  refine⟨?_,Zx g gF (λk ps hm=>hF k ps (by simp[hm])) (λr hr=>hS r (by simp[oz,hr])) h2⟩
  have UG:∀r∈CP x,S r:=λr hr=>hS r (by simp[oz,hr])
  cases x with
  |fn k ps=>
   obtain⟨ws,hv,hw⟩:=h1
   refine⟨ws,gF k ws u (hF k ps (by simp)) hv,?_⟩
   have hS2:∀p∈ps,S p.1:=λp hp=>UG _ (by simp only[CP,List.mem_map];exact⟨p,hp,rfl⟩)
   clear hv UG hS h2 hF
   induction ps generalizing ws with
   |nil=>cases ws<;>exact hw
   |cons p ps ih=>
    cases ws with
    |nil=>exact hw.elim
    |cons v ws=>exact⟨g (.ptr p.1 p.2.1 p.2.2) v (λ_ _ e=>by cases e) (λr hr=>by simp[nN]at hr;subst hr;exact hS2 p (by simp)) hw.1,ih ws hw.2 (λq hq=>hS2 q (by simp[hq]))⟩
  |ptr r i off=>exact g (.ptr r i off) u (λ_ _ e=>by cases e) UG h1
  |int k n=>exact h1
  |arr r=>exact g (.all r) u (λ_ _ e=>by cases e) UG h1
  |sl a b fr=>exact g (.sl a b fr) u (λ_ _ e=>by cases e) (λr hr=>by simp[nN]at hr) h1
 |[],_::_,_,_,h=>h.elim
 |_::_,[],_,_,h=>h.elim
theorem yv{d:D}(h:∀f cs,d≠.gq f cs):d.mF (λr=>r) true=d:=by cases d<;>first|(simp[D.mF];done)|exact absurd rfl (h _ _)
theorem Zy:∀{cs:List iv},cs.map (iv.jg (λr=>r) true)=cs
 |[]=>rfl
 |x::l=>by
  simp only[fR,Zy (cs:=l)]
  congr 1
  cases x<;>simp[iv.jg]
theorem Z97{c c':Ctx}{w w':World}{S:Nat->Prop}{Fk:Nat->Prop}(g:∀d v,(∀f cs,d≠.gq f cs)->(∀r∈nN d,S r)->cv c w d v->cv c' w' d v)(gF:∀k ws v,Fk k->r7 c w k ws v->r7 c' w' k ws v){cs:List iv}{us:List Value}(hF:∀k ps,iv.fn k ps∈cs->Fk k)(hS:∀r∈oz cs,S r)(h:oM c w cs us):oM c' w' cs us:=by
 have:=Zx (f:=λr=>r) (cu:=true) (λd v h1 h2 h3=>by rw[yv h1];exact g d v h1 h2 h3) gF hF hS h
 rwa [Zy]at this
theorem YT{c c':Ctx}{w w':World}{S:Nat->Prop}(g:∀d v,(∀f cs,d≠.gq f cs)->(∀r∈nN d,S r)->cv c w d v->cv c' w' d v)(gF:∀b,c.I b->c'.I b/\w'.heap[b]?=w.heap[b]?){cs:List iv}{us:List Value}(hS:∀r∈oz cs,S r)(h:oM c w cs us):oM c' w' cs us:=
 Z97 (Fk:=λ_=>True) g (λ_ _ _ _=>Mx gF) (λ_ _ _=>trivial) hS h
theorem Nr{c c':Ctx}{w w':World}(h:jk c w c' w'){d:D}{v:Value}(hd:cv c w d v):cv c' w' d v:=by
 by_cases e:∃f cs,d=.gq f cs
 ·obtain⟨f,cs,rfl⟩:=e
  obtain⟨us,hv,hu⟩:=hd
  exact⟨us,Mx h.I hv,YT (S:=λ_=>True) (λd v h1 _ h2=>Z8e h h1 h2) h.I (λ_ _=>trivial) hu⟩
 ·exact Z8e h (λf cs e'=>e ⟨f,cs,e'⟩) hd
theorem Nx{l:List Nat}(h:sD l=true){k:Nat}(hk:k∈l):k<YB:=lE (List.all_eq_true.1 h k hk)
theorem Zm2:∀{cs:List iv} {k:Nat} {ps:List (Nat×Nat×Nat)},iv.fn k ps∈cs->k∈AX cs
 |x ::l,k,ps,hm=>by
  rcases List.mem_cons.1 hm with e|e
  ·subst e;simp[AX]
  ·have:=Zm2 e
   cases x<;>simp[AX,this]
 |[],_,_,hm=>by simp at hm
section
variable {c c':Ctx} {w w':World} (h:JL c w c' w') {Fk:Nat->Prop} (gF:∀k ws v,Fk k->r7 c w k ws v->r7 c' w' k ws v)
include h gF
theorem Zz{d:D}{v:Value}(hn:∀k∈AY d,Fk k)(hd:cv c w d v):cv c' w' d v:=by
 by_cases e:∃f cs,d=.gq f cs
 ·obtain⟨f,cs,rfl⟩:=e
  obtain⟨us,hv,hu⟩:=hd
  exact⟨us,gF _ _ _ (hn f (by simp[AY])) hv,Z97 (S:=λ_=>True) (Fk:=Fk) (λd v h1 _ h2=>Zw h h1 h2) gF (λk ps hm=>hn k (by simp[AY,Zm2 hm])) (λ_ _=>trivial) hu⟩
 ·exact Zw h (λf cs e'=>e ⟨f,cs,e'⟩) hd
theorem Z8f:∀{ds:List D} {vs:List Value},(∀k∈rD ds,Fk k)->jm c w ds vs->jm c' w' ds vs
 |[],[],_,_=>trivial
 |_::_,_::_,hn,⟨h1,h2⟩=>⟨Zz h gF (λk hk=>hn k (by simp[rD,hk])) h1,Z8f (λk hk=>hn k (by simp[rD,hk])) h2⟩
 |[],_::_,_,h=>h.elim
 |_::_,[],_,h=>h.elim
theorem Zhg{d:D}{v:Value}(hn:∀k∈FN d,Fk k)(hd:VRep c w d v):VRep c' w' d v:=by
 cases d with
 |agg cs=>obtain⟨vs,hv,hr⟩:=hd;exact⟨vs,hv,Z8f h gF hn hr⟩
 |_=>simp only[VRep]at hd⊢;exact Zz h gF hn hd
theorem ZA:∀{ds:List D} {vs:List Value},(∀k∈pC ds,Fk k)->j8 c w ds vs->j8 c' w' ds vs
 |[],[],_,_=>trivial
 |_::_,_::_,hn,⟨h1,h2⟩=>⟨Zhg h gF (λk hk=>hn k (by simp[pC,hk])) h1,ZA (λk hk=>hn k (by simp[pC,hk])) h2⟩
 |[],_::_,_,h=>h.elim
 |_::_,[],_,h=>h.elim
theorem Zn1{d:D}{v:Value}(hn:∀k∈CQ d,Fk k)(hd:Rep c w d v):Rep c' w' d v:=by
 cases d with
 |dt ds=>obtain⟨vs,hv,hr⟩:=hd;exact⟨vs,hv,ZA h gF hn hr⟩
 |dead=>trivial
 |_=>simp only[Rep]at hd⊢;exact Zhg h gF hn hd
theorem Z4j:∀{ds:List D} {arr:Array Value} {off:Nat},(∀k∈rD ds,Fk k)->kK c w ds arr off->kK c' w' ds arr off
 |[],_,_,_,_=>trivial
 |_::_,_,_,hn,⟨⟨v,hv,h1⟩,h2⟩=>⟨⟨v,hv,Zz h gF (λk hk=>hn k (by simp[rD,hk])) h1⟩,Z4j (λk hk=>hn k (by simp[rD,hk])) h2⟩
end
theorem Z81{c c':Ctx}{w w':World}(h:jk c w c' w'):∀{ds:List D} {vs:List Value},jm c w ds vs->jm c' w' ds vs
 |[],[],_=>trivial
 |_::_,_::_,⟨h1,h2⟩=>⟨Nr h h1,Z81 h h2⟩
theorem Zim{c c':Ctx}{w w':World}(h:jk c w c' w'):∀{d:D} {v:Value},VRep c w d v->VRep c' w' d v:=by
 intro d v hd
 cases d with
 |agg cs=>obtain⟨vs,hv,hr⟩:=hd;exact⟨vs,hv,Z81 h hr⟩
 |_=>simp only[VRep]at hd⊢;exact Nr h hd
theorem WN{c c':Ctx}{w w':World}(h:jk c w c' w'):∀{ds:List D} {vs:List Value},j8 c w ds vs->j8 c' w' ds vs
 |[],[],_=>trivial
 |_::_,_::_,⟨h1,h2⟩=>⟨Zim h h1,WN h h2⟩
theorem Ak{c c':Ctx}{w w':World}(h:jk c w c' w'):∀{d:D} {v:Value},Rep c w d v->Rep c' w' d v:=by
 intro d v hd
 cases d with
 |dt ds=>obtain⟨vs,hv,hr⟩:=hd;exact⟨vs,hv,WN h hr⟩
 |dead=>trivial
 |_=>simp only[Rep]at hd⊢;exact Zim h hd
theorem Ns{c c':Ctx}{w w':World}(h:jk c w c' w'):∀{ds:List D} {arr:Array Value} {off:Nat},kK c w ds arr off->kK c' w' ds arr off
 |[],_,_,_=>trivial
 |_::_,_,_,⟨⟨v,hv,h1⟩,h2⟩=>⟨⟨v,hv,Nr h h1⟩,Ns h h2⟩
def tz(I:ae)(w:World):Prop:=∀x∈Kt,I x.1/\∃ty fz,w.heap[x.1]?=some (.cells (x.2.2.map λz=>Value.int x.2.1 z).toArray ty fz)
theorem tz.Hw{I I':ae}{w w':World}(h:tz I w)(g:∀b arr ty fz,I b->w.heap[b]?=some (.cells arr ty fz)->I' b/\w'.heap[b]?=some (.cells arr ty fz)):tz I' w':=λx hx=>by
 obtain⟨h1,ty,fz,h2⟩:=h x hx
 exact⟨(g _ _ _ _ h1 h2).1,ty,fz,(g _ _ _ _ h1 h2).2⟩
theorem tz.mono{I I':ae}{w w':World}(h:tz I w)(g:∀b,I b->I' b/\w'.heap[b]?=w.heap[b]?):tz I' w':=h.Hw (wY g)
structure Mem(c:Ctx)(w:World):Prop where
 row:∀r row,c.R r=some row->EM c w r row
 inj:∀r s x y,c.R r=some x->c.R s=some y->¬c.V r->¬c.V s->c.ρ r=c.ρ s->r=s
 fu:∀b,c.I b->b<w.heap.size/\∀r x,c.R r=some x->¬c.V r->c.ρ r≠b
 top:c.top<=w.heap.size
 kN:tz c.I w
theorem ZB{c:Ctx}{w w':World}{I:ae}(hm:Mem c w)(h:JL c w {c with I:=I} w')(hh:∀r x,c.R r=some x->¬c.V r->w'.heap[c.ρ r]?=w.heap[c.ρ r]?){Fk:Nat->Prop}(gF:∀k ws v,Fk k->r7 c w k ws v->r7 {c with I:=I} w' k ws v)
 (hn:∀r x,c.R r=some x->∀k∈kX [x],Fk k) (hI:∀b,I b->b<w'.heap.size/\∀r x,c.R r=some x->¬c.V r->c.ρ r≠b) (hs:w.heap.size<=w'.heap.size):Mem {c with I:=I} w':=by
 refine⟨λr row hr=>?_,hm.inj,λb hb=>hI b hb,bH hm.top hs,hm.kN.Hw h.I⟩
 rcases hm.row r row hr with g|⟨g0,arr,g1,g2,g3⟩
 ·exact .inl g
 ·refine .inr ⟨g0,arr,(hh r row hr g0).trans g1,g2,?_⟩
  split at g3
  ·rename_i hb
   rw[if_pos hb]
   obtain⟨e,k1,k2,k3,k4⟩:=g3
   refine⟨e,k1,k2,k3,Z4j h gF (λk hk=>hn r row hr k ?_) k4⟩
   obtain⟨bx,ty,sz,es⟩:=row
   simp only at hb k1
   subst hb;subst k1
   simpa[kX]using hk
  ·rename_i hb
   rw[if_neg hb]
   exact Mw h.I _ _ _ _ g3
theorem Mem.real{c:Ctx}{w:World}(h:Mem c w){r:Nat}{row:Row}(hr:c.R r=some row)(hV:¬c.V r):wZ c w r row:=by
 rcases h.row r row hr with h1|h1
 ·exact(hV h1.1).elim
 ·exact h1.2
theorem Mem.oe{c:Ctx}{w:World}(h:Mem c w){r:Nat}{row:Row}(hr:c.R r=some row)(hV:c.V r):row.box=false/\row.es.l=[]/\0<row.sz:=by
 rcases h.row r row hr with h1|h1
 ·exact h1.2
 ·exact(h1.1 hV).elim
theorem Mem.lt{c:Ctx}{w:World}(h:Mem c w){r:Nat}{row:Row}(hr:c.R r=some row)(hV:¬c.V r):c.ρ r<w.heap.size:=by
 obtain⟨arr,ha,_⟩:=h.real hr hV
 by_cases cg:c.ρ r<w.heap.size
 ·exact cg
 ·rw[Array.getElem?_eq_none (by omega)]at ha;cases ha
structure Fr(X:ae)(w w':World):Prop where
 os:w'.os=w.os
 tape:w'.tape=w.tape
 output:w'.output=w.output
 size:w.heap.size<=w'.heap.size
 heap:∀b,b<w.heap.size->¬X b->w'.heap[b]?=w.heap[b]?
theorem Fr.refl(X:ae)(w:World):Fr X w w:=⟨rfl,rfl,rfl,aO _,λ_ _ _=>rfl⟩
theorem Fr.trans{X:ae}{w w' FM:World}(h:Fr X w w')(g:Fr X w' FM):Fr X w FM:=
 ⟨g.os.trans h.os,g.tape.trans h.tape,g.output.trans h.output,bH h.size g.size,λb hb hx=>(g.heap b (Nat.lt_of_lt_of_le hb h.size) hx).trans (h.heap b hb hx)⟩
theorem Fr.mono{X Y:ae}{w w':World}(h:Fr X w w')(hxy:∀b,b<w.heap.size->X b->Y b):Fr Y w w':=
 ⟨h.os,h.tape,h.output,h.size,λb hb hy=>h.heap b hb λhx=>hy (hxy b hb hx)⟩
def mg(P:Program):Nat->TypeId->List rb
 |0,_=>[]
 |n+1,t=>match P.underlying t with
  |some (.int k)=>[.int k]
  |some .bool=>[.bool]
  |some .string=>[.str]
  |some (.slice e)=>[.sl (P.cellsOf e)]
  |some (.struct fs)=>fs.toList.flatMap λf=>mg P n f.type
  |some (.array m e)=>(List.replicate m (mg P n e)).flatten
  |_=>[.other]
def Qz(P:Program)(t:TypeId):TK:=
 match P.underlying t with
 |some (.int k)=>.int k
 |some .bool=>.bool
 |some .string=>.string
 |some (.slice e)=>.slice e (P.cellsOf e)
 |some (.struct fs)=>.struct (fs.toList.map λf=>(f.offset,f.type,P.cellsOf f.type))
 |some (.array n e)=>.array n e (P.cellsOf e)
 |_=>.other
def UH(P:Program)(g:TypeId->Bool)(l:TypeId->Nat):List Field->Nat->Bool
 |[],_=>true
 |f::fs,o=>f.name != "_" &&bT f.offset o&&bT (P.cellsOf f.type) (l f.type)&&Nat.blt 0 (l f.type)&&g f.type&&UH P g l fs (o+l f.type)
def rF(P:Program):Nat->TypeId->Bool
 |0,_=>false
 |n+1,t=>match P.underlying t with
  |some (.int _)=>true
  |some .bool=>true
  |some .string=>true
  |some (.struct fs)=>!P.stoodInHeld t&&UH P (rF P n) (λu=>(mg P n u).length) fs.toList 0
  |some (.array _ e)=>bT (P.cellsOf e) (mg P n e).length&&Nat.blt 0 (P.cellsOf e)&&rF P n e
  |_=>false
def AZ(P:Program)(t:TypeId):Option TI:=
 match P.info? t with
 |some i=>if(mg P 8 t).length=i.size/\(P.underlying t).isSome=true then
  some ⟨Qz P t,i.size,i.bytes,mg P 8 t,i.zero.bind λz=>By z.cells.toList,!(P.eqGuardType P.depth t)&&rF P 8 t⟩else none
 |none=>none
def jz(P:Program)(T:fq):Prop:=T.map (λx=>AZ P x.1)=T.map (λx=>some x.2)
theorem jz.get{P:Program}{T:fq}(h:jz P T){t:TypeId}{i:TI}(hi:T.get t=some i):AZ P t=some i:=by
 induction T with
 |nil=>simp[fq.get]at hi
 |cons x l ih=>
  obtain⟨u,j⟩:=x
  simp only[jz,fR,List.cons.injEq]at h
  simp only[fq.get]at hi
  cases hb:bT u t with
  |true=>
   simp only[hb,Option.some.injEq]at hi
   have:=bE hb
   subst this;subst hi
   exact h.1
  |false=>simp only[hb]at hi;exact ih h.2 hi
theorem nn{K:Rows->Prop}:∀{R:Rows},Qg R K↔K R
 |[]=>Iff.rfl
 |d::l=>by unfold Qg;exact nn (R:=l) (K:=λl=>K (d::l))
theorem D.cq{K:D->Prop}{d:D}:d.force K↔K d:=by cases d<;>rfl
theorem D.fk:∀{l:List D} {K:List D->Prop},D.jS l K↔K l
 |[],_=>Iff.rfl
 |d::l,K=>by unfold D.jS;rw[D.cq];exact D.fk (l:=l) (K:=λl=>K (d::l))
theorem Zge{row:Row}:∀{R:Rows} {n:Nat} {K:Nat->Rows->Prop},w4 row R n K↔K (n+R.length) (R++[some row])
 |[],_,_=>Iff.rfl
 |x::l,n,K=>by
  unfold w4
  rw[Zge (R:=l) (K:=λk l=>K k (x::l))]
  simp only[dI,List.cons_append]
  rw[show n+1+l.length=n+(l.length+1) by omega]
theorem Nt{row:Row}{R:Rows}{K:Nat->Rows->Prop}:Ba R row K↔K R.length (R++[some row]):=by
 unfold Ba;rw[Zge];simp
theorem fy.one{I:ae}{w:World}{d:D}{v:Value}(h:fy I w d v):v.oneCell'=true:=by
 cases d<;>simp only[sr,rP,ss,su,sw,sx,tD,tZ,ua,ub,uc,ud,ue,uf,ug,uh,vS,Zq1,Zol]at h
 case sl sz es fr=>obtain⟨a,cap,hv,_⟩:=h;subst hv;rfl
 case emp=>obtain⟨a,hv⟩:=h;subst hv;rfl
 all_goals first|(subst h;rfl)|exact h.elim
theorem cv.one{c:Ctx}{w:World}{d:D}{v:Value}(h:cv c w d v):v.oneCell'=true:=by
 cases d<;>simp only[cv]at h
 case sl sz es fr=>obtain⟨a,cap,hv,_⟩:=h;subst hv;rfl
 case emp=>obtain⟨a,hv,_⟩:=h;subst hv;rfl
 case pY es=>obtain⟨b,hv,_⟩:=h;subst hv;rfl
 case all r=>obtain⟨row,_,_,⟨_,a,hv,_⟩|⟨_,cap,arr,hv,_⟩⟩:=h<;>(subst hv;rfl)
 case own r o n=>
  obtain⟨row,_,_,_,⟨_,a,hv,_⟩|⟨_,cap,arr,_,_,_,hv,_⟩⟩:=h<;>(subst hv;rfl)
 case ptr r i off=>obtain⟨row,_,_,_,hv⟩:=h;subst hv;rfl
 case pa r i off len k n=>obtain⟨_,row,_,_,_,hv⟩:=h;subst hv;rfl
 case iu sz es i off=>obtain⟨b,o,arr,ty,fz,hv,_⟩:=h;subst hv;rfl
 case gq f cs=>obtain⟨us,⟨_,hv⟩|⟨_,l,rec,hv,_⟩,_⟩:=h<;>(subst hv;rfl)
 case c8 r=>obtain hv|⟨row,_,_,_,hv⟩:=h<;>(subst hv;rfl)
 all_goals first|exact h|(subst h;rfl)|exact h.elim
theorem UI{I:ae}{w:World}:∀{cs:List D} {arr:Array Value} {off j:Nat},nQ I w cs arr off->j<cs.length->∃v,arr[off+j]?=some v/\fy I w (cs.getD j .dead) v
 |c::cs,arr,off,0,h,_=>by
  simp only[BP,Aq]at h
  simpa using h.1
 |c::cs,arr,off,j+1,h,hj=>by
  simp only[BP,Aq]at h
  obtain⟨v,hv,hp⟩:=UI h.2 (fX (by simpa using hj))
  exact⟨v,by rw[show off+(j+1)=off+1+j by omega];exact hv,by simpa using hp⟩
theorem UJ{I:ae}{w:World}:∀{es:List (List D)} {arr:Array Value} {off sz i:Nat},iJ I w es arr off sz->i<es.length->(es.getD i []).length=sz/\nQ I w (es.getD i []) arr (off+i*sz)
 |e::es,arr,off,sz,0,h,_=>by
  simp only[pN,oi]at h
  simpa using⟨h.1,h.2.1⟩
 |e::es,arr,off,sz,i+1,h,hi=>by
  simp only[pN,oi]at h
  obtain⟨h1,h2⟩:=UJ h.2.2 (fX (by simpa using hi))
  exact⟨by simpa using h1,by rw[show off+(i+1)*sz=off+sz+i*sz by rw[Nat.succ_mul];omega];simpa using h2⟩
theorem Z88{c:Ctx}{w:World}:∀{cs:List D} {arr:Array Value} {off j:Nat},kK c w cs arr off->j<cs.length->∃v,arr[off+j]?=some v/\cv c w (cs.getD j .dead) v
 |d::cs,arr,off,0,h,_=>by
  simp only[kK]at h
  simpa using h.1
 |d::cs,arr,off,j+1,h,hj=>by
  simp only[kK]at h
  obtain⟨v,hv,hp⟩:=Z88 h.2 (fX (by simpa using hj))
  exact⟨v,by rw[show off+(j+1)=off+1+j by omega];exact hv,by simpa using hp⟩
theorem En{c:Ctx}{w:World}:∀{ds:List D} {vs:List Value},(jm c w ds vs↔ds.length=vs.length/\∀j v,vs[j]?=some v->cv c w (ds.getD j .dead) v)
 |[],[]=>by simp[jm]
 |[],v::vs=>by simp[jm]
 |d::ds,[]=>by simp[jm]
 |d ::ds,v::vs=>by
  simp only[jm,En (ds:=ds) (vs:=vs),dI,Nat.add_right_cancel_iff]
  constructor
  ·rintro⟨h1,h2,h3⟩
   refine⟨h2,λj u hu=>?_⟩
   cases j with
   |zero=>simp at hu;subst hu;simpa using h1
   |succ j=>simpa using h3 j u (by simpa using hu)
  ·rintro⟨h1,h2⟩
   exact⟨by simpa using h2 0 v (by simp),h1,λj u hu=>by simpa using h2 (j+1) u (by simpa using hu)⟩
def j5(pl:Bool)(c:Ctx)(w:World)(d:D)(v:Value):Prop:=match pl with|true=>fy c.I w d v|false=>cv c w d v
theorem Zfi{pl:Bool}{ty:rb}{d:D}{K:D->Prop}(h:uM pl ty d K):∃d',K d'/\∀c w v,j5 pl c w d v->cv c w d' v:=by
 cases ty with
 |int k=>
  simp only[uM,da]at h
  refine⟨_,h.2,λc w v hx=>?_⟩
  cases d<;>simp[D.isInt]at h
  obtain⟨rfl,_⟩:=h
  cases pl<;>simpa[j5,sr,rP,ss,su,sw,sx,tD,tZ,ua,ub,uc,ud,ue,uf,ug,uh,cv,D.toInt]using hx
 |bool=>
  simp only[uM,da]at h
  refine⟨_,h.2,λc w v hx=>?_⟩
  cases d<;>simp[D.isBool]at h
  cases pl<;>simpa[j5,sr,rP,ss,su,sw,sx,tD,tZ,ua,ub,uc,ud,ue,uf,ug,uh,cv,D.toBool]using hx
 |str=>
  simp only[uM,da]at h
  refine⟨_,h.2,λc w v hx=>?_⟩
  cases d<;>simp[D.isStr]at h
  cases pl<;>simpa[j5,sr,rP,ss,su,sw,sx,tD,tZ,ua,ub,uc,ud,ue,uf,ug,uh,cv,D.toStr]using hx
 |sl n=>
  cases pl with
  |true=>
   simp only[uM,da]at h
   refine⟨_,h.2,λc w v hx=>?_⟩
   cases d<;>(try(simp[D.FO]at h;done))
   case du=>exact⟨none,0,sw.1 hx,Nat.zero_le _,.inl rfl⟩
   case emp=>obtain⟨a,ha⟩:=sx.1 hx;exact⟨a,0,ha,Nat.zero_le _,.inl rfl⟩
   simp only[D.FO]at h
   have hh:=bE h.1
   subst hh
   simp only[j5,sr,rP,ss,su,sw,sx,tD,tZ,ua,ub,uc,ud,ue,uf,ug,uh]at hx
   simp only[cv,D.toEs]
   obtain⟨a,cap,hv,hc,ij⟩:=hx
   refine⟨a,cap,hv,hc,?_⟩
   rcases ij with ij|⟨b,off,arr,ty,fz,ha,hI,hh,hE⟩
   ·exact .inl ij
   ·exact .inr ⟨b,off,arr,ty,fz,ha,hI,by simp,hh,S0.1 hE⟩
  |false=>
   simp only[uM,da,D.cq]at h
   exact⟨_,h.2,λc w v hx=>hx⟩
 |other=>
  cases pl with
  |false=>
   simp only[uM,da,D.cq]at h
   exact⟨_,h.2,λc w v hx=>hx⟩
  |true=>
   simp only[uM]at h
   cases d<;>simp only at h
   case iM=>exact⟨_,h,λc w v hx=>su.1 hx⟩
theorem Z9z{pl:Bool}{e:List D}:∀{dc:List rb} {off:Nat} {K:List D->Prop},JM pl e dc off K->
 ∃ds,K ds/\ds.length=dc.length/\∀j,j<dc.length->∀c w v,j5 pl c w (e.getD (off+j) .dead) v->cv c w (ds.getD j .dead) v
 |[],off,K,h=>⟨[],h,rfl,λj hj=>by simp at hj⟩
 |t::ts,off,K,h=>by
  simp only[JM]at h
  obtain⟨d,hd,h1⟩:=Zfi h
  obtain⟨ds,Eo,hl,h2⟩:=Z9z hd
  refine⟨d::ds,Eo,by simp[hl],λj hj c w v hx=>?_⟩
  cases j with
  |zero=>simpa using h1 c w v (by simpa using hx)
  |succ j=>simpa using h2 j (by simpa using hj) c w v (by rw[show off+1+j=off+(j+1) by omega];exact hx)
theorem DH{P:Program}{t:TypeId}{ti:TI}(h:AZ P t=some ti):∃i,P.info? t=some i/\i.size=ti.size/\i.bytes=ti.bytes/\ti.sW.length=ti.size/\ti.kind=Qz P t/\
 ti.zero=(i.zero.bind λz=>By z.cells.toList)/\ti.eq=(!(P.eqGuardType P.depth t)&&rF P 8 t)/\ti.sW=mg P 8 t/\∃d,P.underlying t=some d:=by
 unfold AZ at h
 cases hi:P.info? t with
 |none=>simp[hi]at h
 |some i=>
  simp only[hi]at h
  split at h
  ·rename_i hl
   simp only[Option.some.injEq]at h
   subst h
   exact⟨i,rfl,rfl,rfl,hl.1,rfl,rfl,rfl,rfl,Option.isSome_iff_exists.1 hl.2⟩
  ·cases h
def P2:TypeDesc->Bool|.struct _=>true|.array _ _=>true|_=>false
theorem My{P:Program}{t:TypeId}{d:TypeDesc}(hd:P.underlying t=some d):(Qz P t).isAgg=P2 d:=by
 unfold Qz
 rw[hd]
 cases d<;>rfl
theorem ZC{P:Program}{t:TypeId}{d:TypeDesc}(hd:P.underlying t=some d)(w:World):(isAgg t).run P w=.ok (Qz P t).isAgg w:=by
 rw[My hd]
 unfold isAgg
 rw[Sem.run_bind,run_underlying hd w]
 cases d<;>rfl
def Bb(arr:Array Value)(o n:Nat):List Value:=(List.range n).map λj=>(arr[o+j]?).getD undef
theorem FE(b o j:Nat):(⟨b,o,none⟩:Addr).add j=⟨b,o+j,none⟩:=by
 unfold Addr.add;split<;>simp_all
theorem ZD{P:Program}{t:TypeId}{ti:TI}(ht:AZ P t=some ti){w:World}{b o:Nat}{arr:Array Value}{ty:TypeId}{fz:Nat×Nat}(hb:w.heap[b]?=some (.cells arr ty fz))
 (TA:∀j,j<ti.size->∃v,arr[o+j]?=some v) (h1:ti.kind.isAgg=true\/ti.size=1):
 (loadVar t ⟨b,o,none⟩).run P w=.ok (if ti.kind.isAgg then .agg (Bb arr o ti.size).toArray else(arr[o]?).getD undef) w:=by
 obtain⟨i,hi,hs,_,_,hk,_,_,_,d,hd⟩:=DH ht
 have mv:∀j,w.cell? ⟨b,o+j,none⟩=arr[o+j]? :=λj=>by simp[World.cell?,hb]
 have hl:(loadCells ⟨b,o,none⟩ ti.size).run P w=.ok (Bb arr o ti.size).toArray w:=
  run_loadCells w _ _ _ λj hj=>by
   rw[FE,mv]
   obtain⟨v,hv⟩:=TA j hj
   simp[hv]
 unfold loadVar
 rw[Sem.run_bind,ZC hd,Result.andThen_ok,<-hk]
 cases hg:ti.kind.isAgg with
 |true=>
  simp only[if_true,Sem.run_bind,sizeOf,typeInfo,run_program,Result.andThen_ok,hi,Sem.run_pure,hs,hl]
 |false=>
  have fx:ti.size=1:=by simpa[hg]using h1
  obtain⟨v,hv⟩:=TA 0 (by omega)
  have Mz:arr[o]?=some v:=by simpa using hv
  have hc:w.cell? ⟨b,o,none⟩=some v:=by simpa[Mz]using mv 0
  simp[hc,Mz]
theorem Zfk{pl:Bool}{ti:TI}{e:List D}{off:Nat}{K:D->Prop}(hl:ti.sW.length=ti.size)(h:uO pl ti e off K):
 ∃ val,K val/\(ti.kind.isAgg=true\/ti.size=1)/\∀c w arr o,(∀j,j<ti.size->∃v,arr[o+j]?=some v/\j5 pl c w (e.getD (off+j) .dead) v)->
  Rep c w val (if ti.kind.isAgg then .agg (Bb arr o ti.size).toArray else(arr[o]?).getD undef):=by
 unfold uO at h
 cases hg:ti.kind.isAgg with
 |true=>
  simp only[hg]at h
  obtain⟨ds,hK,hlen,hr⟩:=Z9z h
  refine⟨_,hK,.inl rfl,λc w arr o hx=>?_⟩
  simp only[if_true]
  refine⟨_,rfl,En.2 ⟨by simp[Bb,hlen,hl],λj v hv=>?_⟩⟩
  have hj:j<ti.size:=by
   have:=(List.getElem?_eq_some_iff.1 hv).1
   simpa[Bb]using this
  obtain⟨u,hu,ur⟩:=hx j hj
  have:u=v:=by simpa[Bb,hj,hu]using hv
  subst this
  exact hr j (by omega) c w u ur
 |false=>
  simp only[hg]at h
  match hc:ti.sW with
  |[y]=>
   simp only[hc]at h
   obtain⟨d,hK,hr⟩:=Zfi h
   have fx:ti.size=1:=by rw[<-hl,hc];rfl
   refine⟨d,hK,.inr fx,λc w arr o hx=>?_⟩
   obtain⟨u,hu,ur⟩:=hx 0 (by omega)
   have UK:arr[o]?=some u:=by simpa using hu
   simp only[aN,if_false,UK,Option.getD_some]
   have:=hr c w u (by simpa using ur)
   cases d<;>first|exact this|trivial|exact this.elim
  |[]=>simp only[hc]at h
  |_::_::_=>simp only[hc]at h
def mJ(c:Ctx)(R:Rows):Prop:=∀r row ak,c.R r=some row->R.getD r none=some ak->row=ak
theorem Ay(w:World)(o:Obj)(b:Nat)(h:b<w.heap.size):(w.alloc o).heap[b]?=w.heap[b]? :=by
 show(w.heap.push o)[b]?=w.heap[b]?
 rw[Array.getElem?_push,if_neg (Nat.ne_of_lt h)]
theorem UL(w:World)(o:Obj):(w.alloc o).heap[w.heap.size]?=some o:=by
 show(w.heap.push o)[w.heap.size]?=some o
 simp
def Ctx.add(c:Ctx)(k:Nat)(row:Row)(b:Nat):Ctx:={c with R:=λr=>if r=k then some row else c.R r,ρ:=λr=>if r=k then b else c.ρ r,V:=λr=>r≠k/\c.V r}
theorem Ctx.ja(c:Ctx)(k:Nat)(row:Row)(b:Nat):(c.add k row b).R k=some row/\(c.add k row b).ρ k=b:=by simp[Ctx.add]
theorem jk.alloc{c:Ctx}{w:World}(hm:Mem c w){k:Nat}(hk:c.R k=none)(row:Row)(o:Obj):jk c w (c.add k row w.heap.size) (w.alloc o):=by
 refine⟨rfl,aO _,λb hb=>⟨hb,Ay w o b (hm.fu b hb).1⟩,λr x hr=>?_⟩
 have gl:r≠k:=λe=>by rw[e,hk]at hr;cases hr
 refine⟨x,by simp[Ctx.add,gl,hr],rfl,rfl,rfl,rfl,by simp[Ctx.add,gl],by simp[Ctx.add,gl],λnv arr ha=>⟨arr,?_,rfl⟩⟩
 rw[Ay w o _ (hm.lt hr nv)];exact ha
theorem Fr.alloc(X:ae)(w:World)(o:Obj):Fr X w (w.alloc o):=
 ⟨rfl,rfl,rfl,by show w.heap.size<=(w.heap.push o).size;simp,λb hb _=>Ay w o b hb⟩
theorem tX{c c':Ctx}{w w':World}(h:jk c w c' w'){r:Nat}{row:Row}(P3:c'.ρ r=c.ρ r)(hV:c'.V r↔c.V r)(hh:¬c.V r->w'.heap[c.ρ r]?=w.heap[c.ρ r]?)(hr:EM c w r row):EM c' w' r row:=by
 rcases hr with⟨h0,hr⟩|⟨h0,hr⟩
 ·exact .inl ⟨hV.2 h0,hr⟩
 refine .inr ⟨λe=>h0 (hV.1 e),?_⟩
 obtain⟨arr,ha,hs,hx⟩:=hr
 refine⟨arr,by rw[P3,hh h0];exact ha,hs,?_⟩
 split
 ·rename_i hb
  simp only[hb,if_true]at hx
  obtain⟨e,h1,h2,h3,h4⟩:=hx
  exact⟨e,h1,h2,h3,Ns h h4⟩
 ·rename_i hb
  simp only[hb,if_false,aN]at hx
  exact od h.I _ _ _ _ hx
theorem Mem.alloc{c:Ctx}{w:World}(hm:Mem c w){k:Nat}(hk:c.R k=none)(row:Row)(arr:Array Value)(hs:0<row.sz)
 (hx:if row.box then∃e,row.es=.gen [e]/\e.length=row.sz/\arr.size=row.sz/\kK c w e arr 0 else iJ c.I w row.es.l arr 0 row.sz):
 Mem (c.add k row w.heap.size) (w.alloc (.cells arr row.ty)):=by
 have hg:=jk.alloc hm hk row (.cells arr row.ty)
 refine⟨λr x hr=>?_,λr s x y hr ji JN MA he=>?_,λb hb=>?_,bH hm.top (by show w.heap.size<=(w.heap.push _).size;simp),hm.kN.mono hg.I⟩
 ·by_cases e:r=k
  ·subst e
   simp only[Ctx.add,if_true,Option.some.injEq]at hr
   subst hr
   refine .inr ⟨by simp[Ctx.add],arr,by simp only[Ctx.add,if_true];exact UL w _,hs,?_⟩
   split
   ·rename_i hb
    simp only[hb,if_true]at hx
    obtain⟨e,h1,h2,h3,h4⟩:=hx
    exact⟨e,h1,h2,h3,Ns hg h4⟩
   ·rename_i hb
    simp only[hb,if_false,aN]at hx
    exact od hg.I _ _ _ _ hx
  ·have nB:c.R r=some x:=by simpa[Ctx.add,e]using hr
   exact tX hg (by simp[Ctx.add,e]) (by simp[Ctx.add,e]) (λnv=>Ay w _ _ (hm.lt nB nv)) (hm.row r x nB)
 ·by_cases e1:r=k<;>by_cases e2:s=k
  ·exact e1.trans e2.symm
  ·exfalso
   have h2:c.R s=some y:=by simpa[Ctx.add,e2]using ji
   have:=hm.lt h2 (by simpa[Ctx.add,e2]using MA)
   simp[Ctx.add,e1,e2]at he
   omega
  ·exfalso
   have h1:c.R r=some x:=by simpa[Ctx.add,e1]using hr
   have:=hm.lt h1 (by simpa[Ctx.add,e1]using JN)
   simp[Ctx.add,e1,e2]at he
   omega
  ·exact hm.inj r s x y (by simpa[Ctx.add,e1]using hr) (by simpa[Ctx.add,e2]using ji) (by simpa[Ctx.add,e1]using JN) (by simpa[Ctx.add,e2]using MA) (by simpa[Ctx.add,e1,e2]using he)
 ·have tG:c.I b:=hb
  obtain⟨h1,h2⟩:=hm.fu b tG
  refine⟨by show b<(w.heap.push _).size;simp;omega,λr x hr hv=>?_⟩
  by_cases e:r=k
  ·simp only[Ctx.add,e,if_true];omega
  ·simpa[Ctx.add,e]using h2 r x (by simpa[Ctx.add,e]using hr) (by simpa[Ctx.add,e]using hv)
theorem wZ.get{c:Ctx}{w:World}{r:Nat}{row:Row}(h:wZ c w r row){i off n:Nat}(hi:i<row.es.l.length)(hn:off+n<=row.sz):
 ∃arr,w.heap[c.ρ r]?=some (.cells arr row.ty (0,0))/\∀j,j<n->∃v,arr[i*row.sz+off+j]?=some v/\j5 (!row.box) c w ((row.es.l.getD i []).getD (off+j) .dead) v:=by
 obtain⟨arr,ha,hs,hx⟩:=h
 refine⟨arr,ha,λj hj=>?_⟩
 cases hb:row.box with
 |true=>
  simp only[hb,if_true]at hx
  obtain⟨e,h1,h2,h3,h4⟩:=hx
  have rO:i=0:=by rw[h1]at hi;simpa[ao.l]using hi
  subst rO
  obtain⟨v,hv,hp⟩:=Z88 h4 (j:=off+j) (by omega)
  exact⟨v,by simpa using hv,by simpa[j5,h1,ao.l]using hp⟩
 |false=>
  simp only[hb,if_false,aN]at hx
  obtain⟨h1,h2⟩:=UJ hx hi
  obtain⟨v,hv,hp⟩:=UI h2 (j:=off+j) (by omega)
  exact⟨v,by simpa[fY]using hv,by simpa[j5]using hp⟩
theorem UM:∀{e:List D} {len off n:Nat},n<len->(ints e off len).getD n 0=(e.getD (off+n) .dead).toInt
 |e,len+1,off,0,_=>by simp[ints]
 |e,len+1,off,n+1,h=>by
  have:=UM (e:=e) (len:=len) (off:=off+1) (n:=n) (by omega)
  rw[show off+1+n=off+(n+1) by omega]at this
  simpa[ints]using this
theorem UN:∀{e:List D} {len off n:Nat},n<len->(bo e off len).getD n false=(e.getD (off+n) .dead).toBool
 |e,len+1,off,0,_=>by simp[bo]
 |e,len+1,off,n+1,h=>by
  have:=UN (e:=e) (len:=len) (off:=off+1) (n:=n) (by omega)
  rw[show off+1+n=off+(n+1) by omega]at this
  simpa[bo]using this
theorem UO{k:IntKind}:∀{e:List D} {len off n:Nat},CR k e off len=true->n<len->(e.getD (off+n) .dead).isInt k=true
 |e,len+1,off,0,h,_=>by simp only[CR,aE]at h;exact h.1
 |e,len+1,off,n+1,h,hn=>by
  simp only[CR,aE]at h
  have:=UO h.2 (n:=n) (by omega)
  rwa [show off+1+n=off+(n+1) by omega]at this
theorem UP:∀{e:List D} {len off n:Nat},Hx e off len=true->n<len->(e.getD (off+n) .dead).isBool=true
 |e,len+1,off,0,h,_=>by simp only[Hx,aE]at h;exact h.1
 |e,len+1,off,n+1,h,hn=>by
  simp only[Hx,aE]at h
  have:=UP h.2 (n:=n) (by omega)
  rwa [show off+1+n=off+(n+1) by omega]at this
theorem D.j6{k:IntKind}{d:D}(h:d.isInt k=true):d=.int k d.toInt:=by
 cases d<;>simp[D.isInt]at h
 subst h;rfl
theorem D.j7{d:D}(h:d.isBool=true):d=.bool d.toBool:=by
 cases d<;>simp[D.isBool]at h
 rfl
theorem j5.int{pl:Bool}{c:Ctx}{w:World}{k:IntKind}{n:Int}{v:Value}(h:j5 pl c w (.int k n) v):v=.int k n:=by
 cases pl<;>simpa[j5,sr,rP,ss,su,sw,sx,tD,tZ,ua,ub,uc,ud,ue,uf,ug,uh,cv]using h
theorem j5.bool{pl:Bool}{c:Ctx}{w:World}{b:Bool}{v:Value}(h:j5 pl c w (.bool b) v):v=.bool b:=by
 cases pl<;>simpa[j5,sr,rP,ss,su,sw,sx,tD,tZ,ua,ub,uc,ud,ue,uf,ug,uh,cv]using h
theorem UQ{P:Program}{t:TypeId}{ti:TI}(ht:AZ P t=some ti)(hk:(ti.kind.isAgg||match ti.kind with|.other=>true|_=>false)=false):ti.size=1:=by
 obtain⟨_,_,_,_,hl,oa,_,_,hc,_⟩:=DH ht
 rw[<-hl,hc]
 rw[oa]at hk
 unfold Qz at hk
 unfold mg
 split at hk<;>first|rfl|(simp[TK.isAgg]at hk)
theorem UR{P:Program}{t:TypeId}{w:World}{a:Addr}:(Instr.loadAt t (.pointer (some a))).run P w=(loadVar t a).run P w:=by
 simp[Instr.loadAt,Instr.sureAddr]
theorem Zev{P:Program}{T:fq}(hT:jz P T){t:TypeId}{x:D}{R:Rows}{K:D->Rows->Prop}(h:w5 T t x R K):
 ∃val,K val R/\∀c w v,Mem c w->mJ c R->Rep c w x v->∃u,(Instr.loadAt t v).run P w=.ok u w/\Rep c w val u:=by
 unfold w5 at h
 cases ht:T.get t with
 |none=>simp only[ht]at h
 |some ti=>
  simp only[ht]at h
  have MB:=hT.get ht
  obtain⟨i0,rO,EH,_,Bn,Ap,_⟩:=DH MB
  cases x<;>simp only at h
  case ptr r i off=>
   cases hR:R.getD r none with
   |none=>simp only[hR]at h
   |some row=>
    obtain⟨box,ty,sz,es⟩:=row
    simp only[hR,da]at h
    obtain⟨hle,h⟩:=h
    have hle:=lE hle
    obtain⟨val,hK,uq,hr⟩:=Zfk Bn h
    refine⟨val,hK,λc w v hm hA hv=>?_⟩
    obtain⟨row,h1,hV,h2,h3⟩:=hv
    have cb:=hA r row _ h1 hR
    subst cb
    obtain⟨arr,ha,hx⟩:=(hm.real h1 hV).get h2 hle
    simp only[ao.nq es (show i<es.len by simpa using h2)]at hx
    subst h3
    refine⟨_,UR.trans (ZD MB ha (λj hj=>by obtain⟨v,hv,_⟩:=hx j hj;exact⟨v,hv⟩) uq),hr c w arr _ hx⟩
  case pa r i off len k n=>
   cases hR:R.getD r none with
   |none=>simp only[hR]at h
   |some row=>
    obtain⟨box,ty,sz,es⟩:=row
    simp only[hR,da]at h
    obtain⟨hle,h⟩:=h
    have hle:=lE hle
    have one:(ti.kind.isAgg=false)->ti.size=1->∀c w v,Mem c w->mJ c R->Rep c w (.pa r i off len k n) v->∃u,(Instr.loadAt t v).run P w=.ok u w/\j5 (!box) c w ((es.get i).getD (off+n) .dead) u/\n<len:=by
     intro CS fx c w v hm hA hv
     obtain⟨hn,row,h1,hV,h2,h3⟩:=hv
     have cb:=hA r row _ h1 hR
     subst cb
     obtain⟨arr,ha,hx⟩:=(hm.real h1 hV).get h2 hle
     simp only[ao.nq es (show i<es.len by simpa using h2)]at hx
     subst h3
     obtain⟨u,hu,ur⟩:=hx n hn
     have UK:arr[i*sz+(off+n)]?=some u:=by rw[<-fY];exact hu
     refine⟨u,?_,ur,hn⟩
     rw[UR,ZD MB ha (λj hj=>⟨u,by rw[show j=0 by omega];exact UK⟩) (.inr fx),CS]
     simp[UK]
    split at h
    ·rename_i j k' hk
     simp only[aE,decide_eq_true_eq]at h
     obtain⟨⟨rfl,iR⟩,h⟩:=h
     have fx:ti.size=1:=UQ MB (by rw[hk];simp[TK.isAgg])
     refine⟨_,h,λc w v hm hA hv=>?_⟩
     obtain⟨u,hu,ur,hn⟩:=one (by rw[hk];rfl) fx c w v hm hA hv
     rw[D.j6 (UO iR hn)]at ur
     have:=j5.int ur
     subst this
     exact⟨_,hu,by simp only[Rep,VRep,cv];rw[UM hn]⟩
    ·rename_i hk
     obtain⟨iR,h⟩:=h
     have fx:ti.size=1:=UQ MB (by rw[hk];simp[TK.isAgg])
     refine⟨_,h,λc w v hm hA hv=>?_⟩
     obtain⟨u,hu,ur,hn⟩:=one (by rw[hk];rfl) fx c w v hm hA hv
     rw[D.j7 (UP iR hn)]at ur
     have:=j5.bool ur
     subst this
     exact⟨_,hu,by simp only[Rep,VRep,cv];rw[UN hn]⟩
    ·exact h.elim
  case iu sz es i off=>
   simp only[da]at h
   obtain⟨hle,h⟩:=h
   have hle:=lE hle
   obtain⟨val,hK,uq,hr⟩:=Zfk Bn h
   refine⟨val,hK,λc w v hm hA hv=>?_⟩
   obtain⟨b,o,arr,ty,fz,h3,hI,hi,ha,hE⟩:=hv
   subst h3
   obtain⟨h1,h2⟩:=UJ hE hi
   rw[ao.nq es (show i<es.len by simpa using hi)]at h1 h2
   have hx:∀j,j<ti.size->∃v,arr[o+i*sz+off+j]?=some v/\j5 true c w ((es.get i).getD (off+j) .dead) v:=λj hj=>by
    obtain⟨v,hv,hp⟩:=UI h2 (j:=off+j) (by omega)
    exact⟨v,by rw[<-hv];congr 1;omega,hp⟩
   exact⟨_,UR.trans (ZD MB ha (λj hj=>by obtain⟨v,hv,_⟩:=hx j hj;exact⟨v,hv⟩) uq),hr c w arr _ hx⟩
def Ctx.fu(c:Ctx)(b:Nat):Ctx:={c with I:=λx=>c.I x\/x=b,top:=max c.top (b+1)}
theorem US{c:Ctx}{w:World}(hm:Mem c w)(o:Obj):jk c w (c.fu w.heap.size) (w.alloc o):=
 ⟨rfl,Nat.le_max_left _ _,λb hb=>⟨.inl hb,Ay w o b (hm.fu b hb).1⟩,λr x hr=>⟨x,hr,rfl,rfl,rfl,rfl,rfl,Iff.rfl,λnv arr ha=>⟨arr,by rw[Ay w o _ (hm.lt hr nv)];exact ha,rfl⟩⟩⟩
theorem qaw{c:Ctx}{w:World}(hm:Mem c w)(o:Obj):Mem (c.fu w.heap.size) (w.alloc o):=by
 refine⟨λr x hr=>tX (US hm o) rfl Iff.rfl (λnv=>Ay w _ _ (hm.lt hr nv)) (hm.row r x hr),hm.inj,λb hb=>?_,?_,hm.kN.mono (US hm o).I⟩
 all_goals have fx:(w.alloc o).heap.size=w.heap.size+1:=by show(w.heap.push o).size=_;simp
 rotate_left
 ·have:=hm.top;rw[fx];exact Nat.max_le.2 ⟨by omega,aO _⟩
 rcases hb with hb|hb
 ·exact⟨by have:=(hm.fu b hb).1;omega,(hm.fu b hb).2⟩
 ·subst hb
  exact⟨by omega,λr x hr v=>by have:=hm.lt hr v;show c.ρ r≠w.heap.size;omega⟩

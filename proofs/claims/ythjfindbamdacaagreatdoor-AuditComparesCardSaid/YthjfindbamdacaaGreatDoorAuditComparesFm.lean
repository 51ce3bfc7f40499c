import Derived.Test.YthjfindbamdacaaGreatDoorAuditComparesVc
open Nat renaming le_refl->aO,le_trans->bH,beq->bT,lt_of_succ_lt_succ->fY,add_assoc->fZ
open List renaming map_cons->fS,length_cons->dI
open Bool renaming false_eq_true->aN
set_option linter.all false
namespace Go.GD
open Go
mutual
theorem Znt{I I':ab}{w w':World}(h:∀b arr ty fz,I b->w.heap[b]?=some (.cells arr ty fz)->I' b/\w'.heap[b]?=some (.cells arr ty fz)):∀(d:D) (v:Value),fq I w d v->fq I' w' d v
 |_,_,.bool b=>.bool b
 |_,_,.int k n=>.int k n
 |_,_,.str s=>.str s
 |_,_,.iy=>.iy
 |_,_,.dq=>.dq
 |_,_,.emp a=>.emp a
 |_,_,.Tv sz es fr a cap h0=>.Tv sz es fr a cap h0
 |_,_,.Tw sz es fr cap hc b off arr ty fz hI hh hE=>.Tw sz es fr cap hc b off arr ty fz (h b arr ty fz hI hh).1 (h b arr ty fz hI hh).2 (LN h es.l arr off sz hE)
theorem X1{I I':ab}{w w':World}(h:∀b arr ty fz,I b->w.heap[b]?=some (.cells arr ty fz)->I' b/\w'.heap[b]?=some (.cells arr ty fz)):∀(cs:List D) (arr:Array Value) (off:Nat),nB I w cs arr off->nB I' w' cs arr off
 |_,_,_,.nil arr off=>.nil arr off
 |_,_,_,.cons c cs arr off v hv hp hr=>.cons c cs arr off v hv (Znt h c v hp) (X1 h cs arr (off+1) hr)
theorem LN{I I':ab}{w w':World}(h:∀b arr ty fz,I b->w.heap[b]?=some (.cells arr ty fz)->I' b/\w'.heap[b]?=some (.cells arr ty fz)):∀(es:List (List D)) (arr:Array Value) (off sz:Nat),iu I w es arr off sz->iu I' w' es arr off sz
 |_,_,_,_,.nil arr off sz=>.nil arr off sz
 |_,_,_,_,.cons e es arr off sz hl hc hr=>.cons e es arr off sz hl (X1 h e arr off hc) (LN h es arr (off+sz) sz hr)
end
theorem wy{I I':ab}{w w':World}(h:∀b,I b->I' b/\w'.heap[b]?=w.heap[b]?)(b:Nat)(arr:Array Value)(ty:TypeId)(fz:Nat×Nat)(hI:I b)(hh:w.heap[b]?=some (.cells arr ty fz)):I' b/\w'.heap[b]?=some (.cells arr ty fz):=⟨(h b hI).1,(h b hI).2.trans hh⟩
theorem Ziw{I I':ab}{w w':World}(h:∀b,I b->I' b/\w'.heap[b]?=w.heap[b]?)(cs:List D)(arr:Array Value)(off:Nat)(hp:nB I w cs arr off):nB I' w' cs arr off:=X1 (wy h) cs arr off hp
theorem nP{I I':ab}{w w':World}(h:∀b,I b->I' b/\w'.heap[b]?=w.heap[b]?)(es:List (List D))(arr:Array Value)(off sz:Nat)(hp:iu I w es arr off sz):iu I' w' es arr off sz:=LN (wy h) es arr off sz hp
structure jf(c:Ctx)(w:World)(c':Ctx)(w':World):Prop where
 base:c'.base=c.base
 top:c.top<=c'.top
 I:∀b,c.I b->c'.I b/\w'.heap[b]?=w.heap[b]?
 R :∀r row,c.R r=some row->∃ao,c'.R r=some ao/\ao.box=row.box/\ao.ty=row.ty/\ao.sz=row.sz/\ao.es.l.length=row.es.l.length/\c'.ρ r=c.ρ r/\(c'.V r↔c.V r)/\
  (¬c.V r->∀arr,w.heap[c.ρ r]?=some (.cells arr row.ty (0,0))->∃iJ,w'.heap[c.ρ r]?=some (.cells iJ row.ty (0,0))/\iJ.size=arr.size)
structure I5(c:Ctx)(w:World)(c':Ctx)(w':World):Prop where
 base:c'.base=c.base
 top:c.top<=c'.top
 I:∀b arr ty fz,c.I b->w.heap[b]?=some (.cells arr ty fz)->c'.I b/\w'.heap[b]?=some (.cells arr ty fz)
 R :∀r row,c.R r=some row->∃ao,c'.R r=some ao/\ao.box=row.box/\ao.ty=row.ty/\ao.sz=row.sz/\ao.es.l.length=row.es.l.length/\c'.ρ r=c.ρ r/\(c'.V r↔c.V r)/\
  (¬c.V r->∀arr,w.heap[c.ρ r]?=some (.cells arr row.ty (0,0))->∃iJ,w'.heap[c.ρ r]?=some (.cells iJ row.ty (0,0))/\iJ.size=arr.size)
theorem jf.to0{c c':Ctx}{w w':World}(h:jf c w c' w'):I5 c w c' w':=⟨h.base,h.top,wy h.I,h.R⟩
theorem LO{c c':Ctx}{w w':World}(h:∀b,c.I b->c'.I b/\w'.heap[b]?=w.heap[b]?){f:Nat}{us:List Value}{v:Value}(hf:rB c w f us v):rB c' w' f us v:=by
 rcases hf with hf|⟨h1,l,rec,h2,h3,h4,h5⟩
 ·exact .inl hf
 ·exact .inr ⟨h1,l,rec,h2,(h l h3).1,(h l h3).2.trans h4,h5⟩
theorem jf.refl(c:Ctx)(w:World):jf c w c w:=
 ⟨rfl,aO _,λ_ h=>⟨h,rfl⟩,λ_ row h=>⟨row,h,rfl,rfl,rfl,rfl,rfl,Iff.rfl,λ_ arr h=>⟨arr,h,rfl⟩⟩⟩
theorem jf.trans{c c' RY:Ctx}{w w' EY:World}(h:jf c w c' w')(g:jf c' w' RY EY):jf c w RY EY:=by
 refine⟨g.base.trans h.base,bH h.top g.top,λb hb=>⟨(g.I b (h.I b hb).1).1,(g.I b (h.I b hb).1).2.trans (h.I b hb).2⟩,λr row hr=>?_⟩
 obtain⟨ao,h1,h2,h3,h4,h5,h6,hV,h7⟩:=h.R r row hr
 obtain⟨ob,g1,g2,g3,g4,g5,g6,gV,g7⟩:=g.R r ao h1
 refine⟨ob,g1,g2.trans h2,g3.trans h3,g4.trans h4,g5.trans h5,g6.trans h6,gV.trans hV,λnv arr ha=>?_⟩
 obtain⟨iJ,jx,hs⟩:=h7 nv arr ha
 obtain⟨Pa,Pb,jd⟩:=g7 (λe=>nv (hV.1 e)) iJ (by rw[h6,h3];exact jx)
 exact⟨Pa,by rw[h6,h3]at Pb;exact Pb,jd.trans hs⟩
theorem X2{c c':Ctx}{w w':World}(h:I5 c w c' w'):∀{d:D} {v:Value},(∀f cs,d≠.gb f cs)->cu c w d v->cu c' w' d v:=by
 intro d v gg hd
 cases d with
 |sl sz es fr=>
  simp only[cu]at hd⊢
  obtain⟨a,cap,hv,hc,ia⟩:=hd
  refine⟨a,cap,hv,hc,?_⟩
  rcases ia with ia|⟨b,off,arr,ty,fz,ha,hI,hf,hh,hE⟩
  ·exact .inl ia
  ·exact .inr ⟨b,off,arr,ty,fz,ha,(h.I b arr ty fz hI hh).1,λe=>by rw[h.base];exact hf e,(h.I b arr ty fz hI hh).2,LN h.I _ arr off sz hE⟩
 |all r=>
  simp only[cu]at hd⊢
  obtain⟨row,hr,hb,hd⟩:=hd
  obtain⟨ao,g1,g2,g3,g4,g5,g6,gV,g7⟩:=h.R r row hr
  refine⟨ao,g1,g2.trans hb,?_⟩
  rcases hd with⟨hV,hv⟩|⟨hV,cap,arr,hv,h1,h2,h3,h4⟩
  ·obtain⟨a,hv,ho⟩:=hv
   exact .inl ⟨gV.2 hV,a,hv,ho.mono h.top⟩
  ·obtain⟨iJ,jx,hs⟩:=g7 hV arr h3
   exact .inr ⟨λe=>hV (gV.1 e),cap,iJ,by rw[hv,g5,g6],by rw[g5];exact h1,h2,by rw[g6,g3];exact jx,by rw[g4,hs];exact h4⟩
 |emp=>
  obtain⟨a,hv,ho⟩:=hd
  exact⟨a,hv,ho.mono h.top⟩
 |own r o n=>
  simp only[cu]at hd⊢
  obtain⟨row,hr,hb,ho,hd⟩:=hd
  obtain⟨ao,g1,g2,g3,g4,g5,g6,gV,g7⟩:=h.R r row hr
  refine⟨ao,g1,g2.trans hb,by rw[g5];exact ho,?_⟩
  rcases hd with⟨h0,a,hv,iZ⟩|⟨hV,cap,arr,h1,h2,h3,h4,h5⟩
  ·exact .inl ⟨h0,a,hv,iZ.mono h.top gV g6⟩
  ·obtain⟨iJ,jx,hs⟩:=g7 hV arr h3
   exact .inr ⟨λe=>hV (gV.1 e),cap,iJ,h1,h2,by rw[g6,g3];exact jx,by rw[g4,g6];exact h4,by rw[g4,hs];exact h5⟩
 |ptr r i off=>
  simp only[cu]at hd⊢
  obtain⟨row,hr,hV,hi,hv⟩:=hd
  obtain⟨ao,g1,g2,g3,g4,g5,g6,gV,g7⟩:=h.R r row hr
  exact⟨ao,g1,λe=>hV (gV.1 e),by rw[g5];exact hi,by rw[hv,g6,g4]⟩
 |pa r i off len k n=>
  simp only[cu]at hd⊢
  obtain⟨hn,row,hr,hV,hi,hv⟩:=hd
  obtain⟨ao,g1,g2,g3,g4,g5,g6,gV,g7⟩:=h.R r row hr
  exact⟨hn,ao,g1,λe=>hV (gV.1 e),by rw[g5];exact hi,by rw[hv,g6,g4]⟩
 |ig sz es i off=>
  simp only[cu]at hd⊢
  obtain⟨b,o,arr,ty,fz,hv,hI,hi,hh,hE⟩:=hd
  exact⟨b,o,arr,ty,fz,hv,(h.I b arr ty fz hI hh).1,hi,(h.I b arr ty fz hI hh).2,LN h.I _ arr o sz hE⟩
 |cy r=>
  rcases hd with hd|⟨row,hr,hV,hi,hv⟩
  ·exact .inl hd
  ·obtain⟨ao,g1,g2,g3,g4,g5,g6,gV,g7⟩:=h.R r row hr
   exact .inr ⟨ao,g1,λe=>hV (gV.1 e),by rw[g5];exact hi,by rw[hv,g6,g4]⟩
 |gb f cs=>exact absurd rfl (gg f cs)
 |_=>exact hd
theorem Z6c{c c':Ctx}{w w':World}(h:jf c w c' w'){d:D}{v:Value}(gg:∀f cs,d≠.gb f cs)(hd:cu c w d v):cu c' w' d v:=X2 h.to0 gg hd
theorem X3{c c':Ctx}{w w':World}{S:Nat->Prop}{f:Nat->Nat}{cq:Bool}{Fk:Nat->Prop}(g:∀d v,(∀f cs,d≠.gb f cs)->(∀r∈nu d,S r)->cu c w d v->cu c' w' (d.lY f cq) v)(gF:∀k ws v,Fk k->rB c w k ws v->rB c' w' k ws v):
 ∀{cs:List ij} {us:List Value},(∀k ps,ij.fn k ps∈cs->Fk k)->(∀r∈oe cs,S r)->oz c w cs us->oz c' w' (cs.map (ij.jb f cq)) us
 |[],[],_,_,_=>trivial
 |x ::cs,u::us,hF,hS,⟨h1,h2⟩=>by
  refine⟨?_,X3 g gF (λk ps hm=>hF k ps (by simp[hm])) (λr hr=>hS r (by simp[oe,hr])) h2⟩
  have Tx:∀r∈Cp x,S r:=λr hr=>hS r (by simp[oe,hr])
  cases x with
  |fn k ps=>
   obtain⟨ws,hv,hw⟩:=h1
   refine⟨ws,gF k ws u (hF k ps (by simp)) hv,?_⟩
   have hS2:∀p∈ps,S p.1:=λp hp=>Tx _ (by simp only[Cp,List.mem_map];exact⟨p,hp,rfl⟩)
   clear hv Tx hS h2 hF
   induction ps generalizing ws with
   |nil=>cases ws<;>exact hw
   |cons p ps ih=>
    cases ws with
    |nil=>exact hw.elim
    |cons v ws=>exact⟨g (.ptr p.1 p.2.1 p.2.2) v (λ_ _ e=>by cases e) (λr hr=>by simp[nu]at hr;subst hr;exact hS2 p (by simp)) hw.1,ih ws hw.2 (λq hq=>hS2 q (by simp[hq]))⟩
  |ptr r i off=>exact g (.ptr r i off) u (λ_ _ e=>by cases e) Tx h1
  |int k n=>exact h1
  |arr r=>exact g (.all r) u (λ_ _ e=>by cases e) Tx h1
  |sl a b fr=>exact g (.sl a b fr) u (λ_ _ e=>by cases e) (λr hr=>by simp[nu]at hr) h1
 |[],_::_,_,_,h=>h.elim
 |_::_,[],_,_,h=>h.elim
theorem xt{d:D}(h:∀f cs,d≠.gb f cs):d.lY (λr=>r) true=d:=by cases d<;>first|(simp[D.lY];done)|exact absurd rfl (h _ _)
theorem X4:∀{cs:List ij},cs.map (ij.jb (λr=>r) true)=cs
 |[]=>rfl
 |x::l=>by
  simp only[fS,X4 (cs:=l)]
  congr 1
  cases x<;>simp[ij.jb]
theorem Z7t{c c':Ctx}{w w':World}{S:Nat->Prop}{Fk:Nat->Prop}(g:∀d v,(∀f cs,d≠.gb f cs)->(∀r∈nu d,S r)->cu c w d v->cu c' w' d v)(gF:∀k ws v,Fk k->rB c w k ws v->rB c' w' k ws v){cs:List ij}{us:List Value}(hF:∀k ps,ij.fn k ps∈cs->Fk k)(hS:∀r∈oe cs,S r)(h:oz c w cs us):oz c' w' cs us:=by
 have:=X3 (f:=λr=>r) (cq:=true) (λd v h1 h2 h3=>by rw[xt h1];exact g d v h1 h2 h3) gF hF hS h
 rwa [X4]at this
theorem XG{c c':Ctx}{w w':World}{S:Nat->Prop}(g:∀d v,(∀f cs,d≠.gb f cs)->(∀r∈nu d,S r)->cu c w d v->cu c' w' d v)(gF:∀b,c.I b->c'.I b/\w'.heap[b]?=w.heap[b]?){cs:List ij}{us:List Value}(hS:∀r∈oe cs,S r)(h:oz c w cs us):oz c' w' cs us:=
 Z7t (Fk:=λ_=>True) g (λ_ _ _ _=>LO gF) (λ_ _ _=>trivial) hS h
theorem MD{c c':Ctx}{w w':World}(h:jf c w c' w'){d:D}{v:Value}(hd:cu c w d v):cu c' w' d v:=by
 by_cases e:∃f cs,d=.gb f cs
 ·obtain⟨f,cs,rfl⟩:=e
  obtain⟨us,hv,hu⟩:=hd
  exact⟨us,LO h.I hv,XG (S:=λ_=>True) (λd v h1 _ h2=>Z6c h h1 h2) h.I (λ_ _=>trivial) hu⟩
 ·exact Z6c h (λf cs e'=>e ⟨f,cs,e'⟩) hd
theorem MJ{l:List Nat}(h:rW l=true){k:Nat}(hk:k∈l):k<YB:=lE (List.all_eq_true.1 h k hk)
theorem Zk9:∀{cs:List ij} {k:Nat} {ps:List (Nat×Nat×Nat)},ij.fn k ps∈cs->k∈Ar cs
 |x ::l,k,ps,hm=>by
  rcases List.mem_cons.1 hm with e|e
  ·subst e;simp[Ar]
  ·have:=Zk9 e
   cases x<;>simp[Ar,this]
 |[],_,_,hm=>by simp at hm
section
variable {c c':Ctx} {w w':World} (h:I5 c w c' w') {Fk:Nat->Prop} (gF:∀k ws v,Fk k->rB c w k ws v->rB c' w' k ws v)
include h gF
theorem X5{d:D}{v:Value}(hn:∀k∈Au d,Fk k)(hd:cu c w d v):cu c' w' d v:=by
 by_cases e:∃f cs,d=.gb f cs
 ·obtain⟨f,cs,rfl⟩:=e
  obtain⟨us,hv,hu⟩:=hd
  exact⟨us,gF _ _ _ (hn f (by simp[Au])) hv,Z7t (S:=λ_=>True) (Fk:=Fk) (λd v h1 _ h2=>X2 h h1 h2) gF (λk ps hm=>hn k (by simp[Au,Zk9 hm])) (λ_ _=>trivial) hu⟩
 ·exact X2 h (λf cs e'=>e ⟨f,cs,e'⟩) hd
theorem Z7z:∀{ds:List D} {vs:List Value},(∀k∈pU ds,Fk k)->jh c w ds vs->jh c' w' ds vs
 |[],[],_,_=>trivial
 |_::_,_::_,hn,⟨h1,h2⟩=>⟨X5 h gF (λk hk=>hn k (by simp[pU,hk])) h1,Z7z (λk hk=>hn k (by simp[pU,hk])) h2⟩
 |[],_::_,_,h=>h.elim
 |_::_,[],_,h=>h.elim
theorem Zd5{d:D}{v:Value}(hn:∀k∈EZ d,Fk k)(hd:VRep c w d v):VRep c' w' d v:=by
 cases d with
 |agg cs=>obtain⟨vs,hv,hr⟩:=hd;exact⟨vs,hv,Z7z h gF hn hr⟩
 |_=>simp only[VRep]at hd⊢;exact X5 h gF hn hd
theorem X6:∀{ds:List D} {vs:List Value},(∀k∈o4 ds,Fk k)->jY c w ds vs->jY c' w' ds vs
 |[],[],_,_=>trivial
 |_::_,_::_,hn,⟨h1,h2⟩=>⟨Zd5 h gF (λk hk=>hn k (by simp[o4,hk])) h1,X6 (λk hk=>hn k (by simp[o4,hk])) h2⟩
 |[],_::_,_,h=>h.elim
 |_::_,[],_,h=>h.elim
theorem Zko{d:D}{v:Value}(hn:∀k∈Cq d,Fk k)(hd:Rep c w d v):Rep c' w' d v:=by
 cases d with
 |dt ds=>obtain⟨vs,hv,hr⟩:=hd;exact⟨vs,hv,X6 h gF hn hr⟩
 |dead=>trivial
 |_=>simp only[Rep]at hd⊢;exact Zd5 h gF hn hd
theorem Z2u:∀{ds:List D} {arr:Array Value} {off:Nat},(∀k∈pU ds,Fk k)->kA c w ds arr off->kA c' w' ds arr off
 |[],_,_,_,_=>trivial
 |_::_,_,_,hn,⟨⟨v,hv,h1⟩,h2⟩=>⟨⟨v,hv,X5 h gF (λk hk=>hn k (by simp[pU,hk])) h1⟩,Z2u (λk hk=>hn k (by simp[pU,hk])) h2⟩
end
theorem Z74{c c':Ctx}{w w':World}(h:jf c w c' w'):∀{ds:List D} {vs:List Value},jh c w ds vs->jh c' w' ds vs
 |[],[],_=>trivial
 |_::_,_::_,⟨h1,h2⟩=>⟨MD h h1,Z74 h h2⟩
theorem Ze4{c c':Ctx}{w w':World}(h:jf c w c' w'):∀{d:D} {v:Value},VRep c w d v->VRep c' w' d v:=by
 intro d v hd
 cases d with
 |agg cs=>obtain⟨vs,hv,hr⟩:=hd;exact⟨vs,hv,Z74 h hr⟩
 |_=>simp only[VRep]at hd⊢;exact MD h hd
theorem VL{c c':Ctx}{w w':World}(h:jf c w c' w'):∀{ds:List D} {vs:List Value},jY c w ds vs->jY c' w' ds vs
 |[],[],_=>trivial
 |_::_,_::_,⟨h1,h2⟩=>⟨Ze4 h h1,VL h h2⟩
theorem wQ{c c':Ctx}{w w':World}(h:jf c w c' w'):∀{d:D} {v:Value},Rep c w d v->Rep c' w' d v:=by
 intro d v hd
 cases d with
 |dt ds=>obtain⟨vs,hv,hr⟩:=hd;exact⟨vs,hv,VL h hr⟩
 |dead=>trivial
 |_=>simp only[Rep]at hd⊢;exact Ze4 h hd
theorem ME{c c':Ctx}{w w':World}(h:jf c w c' w'):∀{ds:List D} {arr:Array Value} {off:Nat},kA c w ds arr off->kA c' w' ds arr off
 |[],_,_,_=>trivial
 |_::_,_,_,⟨⟨v,hv,h1⟩,h2⟩=>⟨⟨v,hv,MD h h1⟩,ME h h2⟩
def sT(I:ab)(w:World):Prop:=∀x∈JM,I x.1/\∃ty fz,w.heap[x.1]?=some (.cells (x.2.2.map λz=>Value.int x.2.1 z).toArray ty fz)
theorem sT.GY{I I':ab}{w w':World}(h:sT I w)(g:∀b arr ty fz,I b->w.heap[b]?=some (.cells arr ty fz)->I' b/\w'.heap[b]?=some (.cells arr ty fz)):sT I' w':=λx hx=>by
 obtain⟨h1,ty,fz,h2⟩:=h x hx
 exact⟨(g _ _ _ _ h1 h2).1,ty,fz,(g _ _ _ _ h1 h2).2⟩
theorem sT.mono{I I':ab}{w w':World}(h:sT I w)(g:∀b,I b->I' b/\w'.heap[b]?=w.heap[b]?):sT I' w':=h.GY (wy g)
structure Mem(c:Ctx)(w:World):Prop where
 row:∀r row,c.R r=some row->Ef c w r row
 inj:∀r s x y,c.R r=some x->c.R s=some y->¬c.V r->¬c.V s->c.ρ r=c.ρ s->r=s
 fh:∀b,c.I b->b<w.heap.size/\∀r x,c.R r=some x->¬c.V r->c.ρ r≠b
 top:c.top<=w.heap.size
 kC:sT c.I w
theorem X7{c:Ctx}{w w':World}{I:ab}(hm:Mem c w)(h:I5 c w {c with I:=I} w')(hh:∀r x,c.R r=some x->¬c.V r->w'.heap[c.ρ r]?=w.heap[c.ρ r]?){Fk:Nat->Prop}(gF:∀k ws v,Fk k->rB c w k ws v->rB {c with I:=I} w' k ws v)
 (hn:∀r x,c.R r=some x->∀k∈kN [x],Fk k) (hI:∀b,I b->b<w'.heap.size/\∀r x,c.R r=some x->¬c.V r->c.ρ r≠b) (hs:w.heap.size<=w'.heap.size):Mem {c with I:=I} w':=by
 refine⟨λr row hr=>?_,hm.inj,λb hb=>hI b hb,bH hm.top hs,hm.kC.GY h.I⟩
 rcases hm.row r row hr with g|⟨g0,arr,g1,g2,g3⟩
 ·exact .inl g
 ·refine .inr ⟨g0,arr,(hh r row hr g0).trans g1,g2,?_⟩
  split at g3
  ·rename_i hb
   rw[if_pos hb]
   obtain⟨e,k1,k2,k3,k4⟩:=g3
   refine⟨e,k1,k2,k3,Z2u h gF (λk hk=>hn r row hr k ?_) k4⟩
   obtain⟨bx,ty,sz,es⟩:=row
   simp only at hb k1
   subst hb;subst k1
   simpa[kN]using hk
  ·rename_i hb
   rw[if_neg hb]
   exact LN h.I _ _ _ _ g3
theorem Mem.real{c:Ctx}{w:World}(h:Mem c w){r:Nat}{row:Row}(hr:c.R r=some row)(hV:¬c.V r):wz c w r row:=by
 rcases h.row r row hr with h1|h1
 ·exact(hV h1.1).elim
 ·exact h1.2
theorem Mem.nQ{c:Ctx}{w:World}(h:Mem c w){r:Nat}{row:Row}(hr:c.R r=some row)(hV:c.V r):row.box=false/\row.es.l=[]/\0<row.sz:=by
 rcases h.row r row hr with h1|h1
 ·exact h1.2
 ·exact(h1.1 hV).elim
theorem Mem.lt{c:Ctx}{w:World}(h:Mem c w){r:Nat}{row:Row}(hr:c.R r=some row)(hV:¬c.V r):c.ρ r<w.heap.size:=by
 obtain⟨arr,ha,_⟩:=h.real hr hV
 by_cases cj:c.ρ r<w.heap.size
 ·exact cj
 ·rw[Array.getElem?_eq_none (by omega)]at ha;cases ha
structure Fr(X:ab)(w w':World):Prop where
 os:w'.os=w.os
 tape:w'.tape=w.tape
 output:w'.output=w.output
 size:w.heap.size<=w'.heap.size
 heap:∀b,b<w.heap.size->¬X b->w'.heap[b]?=w.heap[b]?
theorem Fr.refl(X:ab)(w:World):Fr X w w:=⟨rfl,rfl,rfl,aO _,λ_ _ _=>rfl⟩
theorem Fr.trans{X:ab}{w w' EY:World}(h:Fr X w w')(g:Fr X w' EY):Fr X w EY:=
 ⟨g.os.trans h.os,g.tape.trans h.tape,g.output.trans h.output,bH h.size g.size,λb hb hx=>(g.heap b (Nat.lt_of_lt_of_le hb h.size) hx).trans (h.heap b hb hx)⟩
theorem Fr.mono{X Y:ab}{w w':World}(h:Fr X w w')(hxy:∀b,b<w.heap.size->X b->Y b):Fr Y w w':=
 ⟨h.os,h.tape,h.output,h.size,λb hb hy=>h.heap b hb λhx=>hy (hxy b hb hx)⟩
def lI(P:Program):Nat->TypeId->List pI
 |0,_=>[]
 |n+1,t=>match P.underlying t with
  |some (.int k)=>[.int k]
  |some .bool=>[.bool]
  |some .string=>[.str]
  |some (.slice e)=>[.sl (P.cellsOf e)]
  |some (.struct fs)=>fs.toList.flatMap λf=>lI P n f.type
  |some (.array m e)=>(List.replicate m (lI P n e)).flatten
  |_=>[.other]
def GZ(P:Program)(t:TypeId):TK:=
 match P.underlying t with
 |some (.int k)=>.int k
 |some .bool=>.bool
 |some .string=>.string
 |some (.slice e)=>.slice e (P.cellsOf e)
 |some (.struct fs)=>.struct (fs.toList.map λf=>(f.offset,f.type,P.cellsOf f.type))
 |some (.array n e)=>.array n e (P.cellsOf e)
 |_=>.other
def Ty(P:Program)(g:TypeId->Bool)(l:TypeId->Nat):List Field->Nat->Bool
 |[],_=>true
 |f::fs,o=>f.name != "_" &&bT f.offset o&&bT (P.cellsOf f.type) (l f.type)&&Nat.blt 0 (l f.type)&&g f.type&&Ty P g l fs (o+l f.type)
def pV(P:Program):Nat->TypeId->Bool
 |0,_=>false
 |n+1,t=>match P.underlying t with
  |some (.int _)=>true
  |some .bool=>true
  |some .string=>true
  |some (.struct fs)=>!P.stoodInHeld t&&Ty P (pV P n) (λu=>(lI P n u).length) fs.toList 0
  |some (.array _ e)=>bT (P.cellsOf e) (lI P n e).length&&Nat.blt 0 (P.cellsOf e)&&pV P n e
  |_=>false
def Av(P:Program)(t:TypeId):Option TI:=
 match P.info? t with
 |some i=>if(lI P 8 t).length=i.size/\(P.underlying t).isSome=true then
  some ⟨GZ P t,i.size,i.bytes,lI P 8 t,i.zero.bind λz=>AW z.cells.toList,!(P.eqGuardType P.depth t)&&pV P 8 t⟩else none
 |none=>none
def jt(P:Program)(T:ff):Prop:=T.map (λx=>Av P x.1)=T.map (λx=>some x.2)
theorem jt.get{P:Program}{T:ff}(h:jt P T){t:TypeId}{i:TI}(hi:T.get t=some i):Av P t=some i:=by
 induction T with
 |nil=>simp[ff.get]at hi
 |cons x l ih=>
  obtain⟨u,j⟩:=x
  simp only[jt,fS,List.cons.injEq]at h
  simp only[ff.get]at hi
  cases hb:bT u t with
  |true=>
   simp only[hb,Option.some.injEq]at hi
   have:=bE hb
   subst this;subst hi
   exact h.1
  |false=>simp only[hb]at hi;exact ih h.2 hi
theorem mO{K:Rows->Prop}:∀{R:Rows},tq R K↔K R
 |[]=>Iff.rfl
 |d::l=>by unfold tq;exact mO (R:=l) (K:=λl=>K (d::l))
theorem D.cf{K:D->Prop}{d:D}:d.force K↔K d:=by cases d<;>rfl
theorem D.ez:∀{l:List D} {K:List D->Prop},D.jN l K↔K l
 |[],_=>Iff.rfl
 |d::l,K=>by unfold D.jN;rw[D.cf];exact D.ez (l:=l) (K:=λl=>K (d::l))
theorem Zdu{row:Row}:∀{R:Rows} {n:Nat} {K:Nat->Rows->Prop},wA row R n K↔K (n+R.length) (R++[some row])
 |[],_,_=>Iff.rfl
 |x::l,n,K=>by
  unfold wA
  rw[Zdu (R:=l) (K:=λk l=>K k (x::l))]
  simp only[dI,List.cons_append]
  rw[show n+1+l.length=n+(l.length+1) by omega]
theorem MF{row:Row}{R:Rows}{K:Nat->Rows->Prop}:Aw R row K↔K R.length (R++[some row]):=by
 unfold Aw;rw[Zdu];simp
theorem fq.one{I:ab}{w:World}{d:D}{v:Value}(h:fq I w d v):v.oneCell'=true:=by
 cases d<;>simp only[rO,ri,rP,rQ,rR,rS,sX,tE,tF,tG,tH,tI,tJ,tK,tL,tM,qS,Zni,Zmp]at h
 case sl sz es fr=>obtain⟨a,cap,hv,_⟩:=h;subst hv;rfl
 case emp=>obtain⟨a,hv⟩:=h;subst hv;rfl
 all_goals first|(subst h;rfl)|exact h.elim
theorem cu.one{c:Ctx}{w:World}{d:D}{v:Value}(h:cu c w d v):v.oneCell'=true:=by
 cases d<;>simp only[cu]at h
 case sl sz es fr=>obtain⟨a,cap,hv,_⟩:=h;subst hv;rfl
 case emp=>obtain⟨a,hv,_⟩:=h;subst hv;rfl
 case pF es=>obtain⟨b,hv,_⟩:=h;subst hv;rfl
 case all r=>obtain⟨row,_,_,⟨_,a,hv,_⟩|⟨_,cap,arr,hv,_⟩⟩:=h<;>(subst hv;rfl)
 case own r o n=>
  obtain⟨row,_,_,_,⟨_,a,hv,_⟩|⟨_,cap,arr,_,_,_,hv,_⟩⟩:=h<;>(subst hv;rfl)
 case ptr r i off=>obtain⟨row,_,_,_,hv⟩:=h;subst hv;rfl
 case pa r i off len k n=>obtain⟨_,row,_,_,_,hv⟩:=h;subst hv;rfl
 case ig sz es i off=>obtain⟨b,o,arr,ty,fz,hv,_⟩:=h;subst hv;rfl
 case gb f cs=>obtain⟨us,⟨_,hv⟩|⟨_,l,rec,hv,_⟩,_⟩:=h<;>(subst hv;rfl)
 case cy r=>obtain hv|⟨row,_,_,_,hv⟩:=h<;>(subst hv;rfl)
 all_goals first|exact h|(subst h;rfl)|exact h.elim
theorem Tz{I:ab}{w:World}:∀{cs:List D} {arr:Array Value} {off j:Nat},nB I w cs arr off->j<cs.length->∃v,arr[off+j]?=some v/\fq I w (cs.getD j .dead) v
 |c::cs,arr,off,0,h,_=>by
  simp only[Bo,wW]at h
  simpa using h.1
 |c::cs,arr,off,j+1,h,hj=>by
  simp only[Bo,wW]at h
  obtain⟨v,hv,hp⟩:=Tz h.2 (fY (by simpa using hj))
  exact⟨v,by rw[show off+(j+1)=off+1+j by omega];exact hv,by simpa using hp⟩
theorem TA{I:ab}{w:World}:∀{es:List (List D)} {arr:Array Value} {off sz i:Nat},iu I w es arr off sz->i<es.length->(es.getD i []).length=sz/\nB I w (es.getD i []) arr (off+i*sz)
 |e::es,arr,off,sz,0,h,_=>by
  simp only[pr,nU]at h
  simpa using⟨h.1,h.2.1⟩
 |e::es,arr,off,sz,i+1,h,hi=>by
  simp only[pr,nU]at h
  obtain⟨h1,h2⟩:=TA h.2.2 (fY (by simpa using hi))
  exact⟨by simpa using h1,by rw[show off+(i+1)*sz=off+sz+i*sz by rw[Nat.succ_mul];omega];simpa using h2⟩
theorem Z84{c:Ctx}{w:World}:∀{cs:List D} {arr:Array Value} {off j:Nat},kA c w cs arr off->j<cs.length->∃v,arr[off+j]?=some v/\cu c w (cs.getD j .dead) v
 |d::cs,arr,off,0,h,_=>by
  simp only[kA]at h
  simpa using h.1
 |d::cs,arr,off,j+1,h,hj=>by
  simp only[kA]at h
  obtain⟨v,hv,hp⟩:=Z84 h.2 (fY (by simpa using hj))
  exact⟨v,by rw[show off+(j+1)=off+1+j by omega];exact hv,by simpa using hp⟩
theorem DL{c:Ctx}{w:World}:∀{ds:List D} {vs:List Value},(jh c w ds vs↔ds.length=vs.length/\∀j v,vs[j]?=some v->cu c w (ds.getD j .dead) v)
 |[],[]=>by simp[jh]
 |[],v::vs=>by simp[jh]
 |d::ds,[]=>by simp[jh]
 |d ::ds,v::vs=>by
  simp only[jh,DL (ds:=ds) (vs:=vs),dI,Nat.add_right_cancel_iff]
  constructor
  ·rintro⟨h1,h2,h3⟩
   refine⟨h2,λj u hu=>?_⟩
   cases j with
   |zero=>simp at hu;subst hu;simpa using h1
   |succ j=>simpa using h3 j u (by simpa using hu)
  ·rintro⟨h1,h2⟩
   exact⟨by simpa using h2 0 v (by simp),h1,λj u hu=>by simpa using h2 (j+1) u (by simpa using hu)⟩
def jU(pl:Bool)(c:Ctx)(w:World)(d:D)(v:Value):Prop:=match pl with|true=>fq c.I w d v|false=>cu c w d v
theorem Zcz{pl:Bool}{ty:pI}{d:D}{K:D->Prop}(h:uk pl ty d K):∃d',K d'/\∀c w v,jU pl c w d v->cu c w d' v:=by
 cases ty with
 |int k=>
  simp only[uk,c7]at h
  refine⟨_,h.2,λc w v hx=>?_⟩
  cases d<;>simp[D.isInt]at h
  obtain⟨rfl,_⟩:=h
  cases pl<;>simpa[jU,rO,ri,rP,rQ,rR,rS,sX,tE,tF,tG,tH,tI,tJ,tK,tL,tM,cu,D.toInt]using hx
 |bool=>
  simp only[uk,c7]at h
  refine⟨_,h.2,λc w v hx=>?_⟩
  cases d<;>simp[D.isBool]at h
  cases pl<;>simpa[jU,rO,ri,rP,rQ,rR,rS,sX,tE,tF,tG,tH,tI,tJ,tK,tL,tM,cu,D.toBool]using hx
 |str=>
  simp only[uk,c7]at h
  refine⟨_,h.2,λc w v hx=>?_⟩
  cases d<;>simp[D.isStr]at h
  cases pl<;>simpa[jU,rO,ri,rP,rQ,rR,rS,sX,tE,tF,tG,tH,tI,tJ,tK,tL,tM,cu,D.toStr]using hx
 |sl n=>
  cases pl with
  |true=>
   simp only[uk,c7]at h
   refine⟨_,h.2,λc w v hx=>?_⟩
   cases d<;>(try(simp[D.Fa]at h;done))
   case dq=>exact⟨none,0,rR.1 hx,Nat.zero_le _,.inl rfl⟩
   case emp=>obtain⟨a,ha⟩:=rS.1 hx;exact⟨a,0,ha,Nat.zero_le _,.inl rfl⟩
   simp only[D.Fa]at h
   have hh:=bE h.1
   subst hh
   simp only[jU,rO,ri,rP,rQ,rR,rS,sX,tE,tF,tG,tH,tI,tJ,tK,tL,tM]at hx
   simp only[cu,D.toEs]
   obtain⟨a,cap,hv,hc,ia⟩:=hx
   refine⟨a,cap,hv,hc,?_⟩
   rcases ia with ia|⟨b,off,arr,ty,fz,ha,hI,hh,hE⟩
   ·exact .inl ia
   ·exact .inr ⟨b,off,arr,ty,fz,ha,hI,by simp,hh,R8.1 hE⟩
  |false=>
   simp only[uk,c7,D.cf]at h
   exact⟨_,h.2,λc w v hx=>hx⟩
 |other=>
  cases pl with
  |false=>
   simp only[uk,c7,D.cf]at h
   exact⟨_,h.2,λc w v hx=>hx⟩
  |true=>
   simp only[uk]at h
   cases d<;>simp only at h
   case iy=>exact⟨_,h,λc w v hx=>rQ.1 hx⟩
theorem Z7w{pl:Bool}{e:List D}:∀{c9:List pI} {off:Nat} {K:List D->Prop},I6 pl e c9 off K->
 ∃ds,K ds/\ds.length=c9.length/\∀j,j<c9.length->∀c w v,jU pl c w (e.getD (off+j) .dead) v->cu c w (ds.getD j .dead) v
 |[],off,K,h=>⟨[],h,rfl,λj hj=>by simp at hj⟩
 |t::ts,off,K,h=>by
  simp only[I6]at h
  obtain⟨d,hd,h1⟩:=Zcz h
  obtain⟨ds,DM,hl,h2⟩:=Z7w hd
  refine⟨d::ds,DM,by simp[hl],λj hj c w v hx=>?_⟩
  cases j with
  |zero=>simpa using h1 c w v (by simpa using hx)
  |succ j=>simpa using h2 j (by simpa using hj) c w v (by rw[show off+1+j=off+(j+1) by omega];exact hx)
theorem Qa{P:Program}{t:TypeId}{ti:TI}(h:Av P t=some ti):∃i,P.info? t=some i/\i.size=ti.size/\i.bytes=ti.bytes/\ti.sA.length=ti.size/\ti.kind=GZ P t/\
 ti.zero=(i.zero.bind λz=>AW z.cells.toList)/\ti.eq=(!(P.eqGuardType P.depth t)&&pV P 8 t)/\ti.sA=lI P 8 t/\∃d,P.underlying t=some d:=by
 unfold Av at h
 cases hi:P.info? t with
 |none=>simp[hi]at h
 |some i=>
  simp only[hi]at h
  split at h
  ·rename_i hl
   simp only[Option.some.injEq]at h
   subst h
   exact⟨i,rfl,rfl,rfl,hl.1,rfl,rfl,rfl,rfl,Option.isSome_iff_exists.1 hl.2⟩
  ·cases h
def Pd:TypeDesc->Bool|.struct _=>true|.array _ _=>true|_=>false
theorem LP{P:Program}{t:TypeId}{d:TypeDesc}(hd:P.underlying t=some d):(GZ P t).isAgg=Pd d:=by
 unfold GZ
 rw[hd]
 cases d<;>rfl
theorem X8{P:Program}{t:TypeId}{d:TypeDesc}(hd:P.underlying t=some d)(w:World):(isAgg t).run P w=.ok (GZ P t).isAgg w:=by
 rw[LP hd]
 unfold isAgg
 rw[Sem.run_bind,run_underlying hd w]
 cases d<;>rfl
def Ax(arr:Array Value)(o n:Nat):List Value:=(List.range n).map λj=>(arr[o+j]?).getD undef
theorem EP(b o j:Nat):(⟨b,o,none⟩:Addr).add j=⟨b,o+j,none⟩:=by
 unfold Addr.add;split<;>simp_all
theorem X9{P:Program}{t:TypeId}{ti:TI}(ht:Av P t=some ti){w:World}{b o:Nat}{arr:Array Value}{ty:TypeId}{fz:Nat×Nat}(hb:w.heap[b]?=some (.cells arr ty fz))
 (SA:∀j,j<ti.size->∃v,arr[o+j]?=some v) (h1:ti.kind.isAgg=true\/ti.size=1):
 (loadVar t ⟨b,o,none⟩).run P w=.ok (if ti.kind.isAgg then .agg (Ax arr o ti.size).toArray else(arr[o]?).getD undef) w:=by
 obtain⟨i,hi,hs,_,_,hk,_,_,_,d,hd⟩:=Qa ht
 have lR:∀j,w.cell? ⟨b,o+j,none⟩=arr[o+j]? :=λj=>by simp[World.cell?,hb]
 have hl:(loadCells ⟨b,o,none⟩ ti.size).run P w=.ok (Ax arr o ti.size).toArray w:=
  run_loadCells w _ _ _ λj hj=>by
   rw[EP,lR]
   obtain⟨v,hv⟩:=SA j hj
   simp[hv]
 unfold loadVar
 rw[Sem.run_bind,X8 hd,Result.andThen_ok,<-hk]
 cases hg:ti.kind.isAgg with
 |true=>
  simp only[if_true,Sem.run_bind,sizeOf,typeInfo,run_program,Result.andThen_ok,hi,Sem.run_pure,hs,hl]
 |false=>
  have fp:ti.size=1:=by simpa[hg]using h1
  obtain⟨v,hv⟩:=SA 0 (by omega)
  have LQ:arr[o]?=some v:=by simpa using hv
  have hc:w.cell? ⟨b,o,none⟩=some v:=by simpa[LQ]using lR 0
  simp[hc,LQ]
theorem Ze{pl:Bool}{ti:TI}{e:List D}{off:Nat}{K:D->Prop}(hl:ti.sA.length=ti.size)(h:um pl ti e off K):
 ∃ val,K val/\(ti.kind.isAgg=true\/ti.size=1)/\∀c w arr o,(∀j,j<ti.size->∃v,arr[o+j]?=some v/\jU pl c w (e.getD (off+j) .dead) v)->
  Rep c w val (if ti.kind.isAgg then .agg (Ax arr o ti.size).toArray else(arr[o]?).getD undef):=by
 unfold um at h
 cases hg:ti.kind.isAgg with
 |true=>
  simp only[hg]at h
  obtain⟨ds,hK,hlen,hr⟩:=Z7w h
  refine⟨_,hK,.inl rfl,λc w arr o hx=>?_⟩
  simp only[if_true]
  refine⟨_,rfl,DL.2 ⟨by simp[Ax,hlen,hl],λj v hv=>?_⟩⟩
  have hj:j<ti.size:=by
   have:=(List.getElem?_eq_some_iff.1 hv).1
   simpa[Ax]using this
  obtain⟨u,hu,tU⟩:=hx j hj
  have:u=v:=by simpa[Ax,hj,hu]using hv
  subst this
  exact hr j (by omega) c w u tU
 |false=>
  simp only[hg]at h
  match hc:ti.sA with
  |[y]=>
   simp only[hc]at h
   obtain⟨d,hK,hr⟩:=Zcz h
   have fp:ti.size=1:=by rw[<-hl,hc];rfl
   refine⟨d,hK,.inr fp,λc w arr o hx=>?_⟩
   obtain⟨u,hu,tU⟩:=hx 0 (by omega)
   have TB:arr[o]?=some u:=by simpa using hu
   simp only[aN,if_false,TB,Option.getD_some]
   have:=hr c w u (by simpa using tU)
   cases d<;>first|exact this|trivial|exact this.elim
  |[]=>simp only[hc]at h
  |_::_::_=>simp only[hc]at h
def mf(c:Ctx)(R:Rows):Prop:=∀r row ao,c.R r=some row->R.getD r none=some ao->row=ao
theorem w6(w:World)(o:Obj)(b:Nat)(h:b<w.heap.size):(w.alloc o).heap[b]?=w.heap[b]? :=by
 show(w.heap.push o)[b]?=w.heap[b]?
 rw[Array.getElem?_push,if_neg (Nat.ne_of_lt h)]
theorem TC(w:World)(o:Obj):(w.alloc o).heap[w.heap.size]?=some o:=by
 show(w.heap.push o)[w.heap.size]?=some o
 simp
def Ctx.add(c:Ctx)(k:Nat)(row:Row)(b:Nat):Ctx:={c with R:=λr=>if r=k then some row else c.R r,ρ:=λr=>if r=k then b else c.ρ r,V:=λr=>r≠k/\c.V r}
theorem Ctx.iU(c:Ctx)(k:Nat)(row:Row)(b:Nat):(c.add k row b).R k=some row/\(c.add k row b).ρ k=b:=by simp[Ctx.add]
theorem jf.alloc{c:Ctx}{w:World}(hm:Mem c w){k:Nat}(hk:c.R k=none)(row:Row)(o:Obj):jf c w (c.add k row w.heap.size) (w.alloc o):=by
 refine⟨rfl,aO _,λb hb=>⟨hb,w6 w o b (hm.fh b hb).1⟩,λr x hr=>?_⟩
 have gg:r≠k:=λe=>by rw[e,hk]at hr;cases hr
 refine⟨x,by simp[Ctx.add,gg,hr],rfl,rfl,rfl,rfl,by simp[Ctx.add,gg],by simp[Ctx.add,gg],λnv arr ha=>⟨arr,?_,rfl⟩⟩
 rw[w6 w o _ (hm.lt hr nv)];exact ha
theorem Fr.alloc(X:ab)(w:World)(o:Obj):Fr X w (w.alloc o):=
 ⟨rfl,rfl,rfl,by show w.heap.size<=(w.heap.push o).size;simp,λb hb _=>w6 w o b hb⟩
theorem tC{c c':Ctx}{w w':World}(h:jf c w c' w'){r:Nat}{row:Row}(Pe:c'.ρ r=c.ρ r)(hV:c'.V r↔c.V r)(hh:¬c.V r->w'.heap[c.ρ r]?=w.heap[c.ρ r]?)(hr:Ef c w r row):Ef c' w' r row:=by
 rcases hr with⟨h0,hr⟩|⟨h0,hr⟩
 ·exact .inl ⟨hV.2 h0,hr⟩
 refine .inr ⟨λe=>h0 (hV.1 e),?_⟩
 obtain⟨arr,ha,hs,hx⟩:=hr
 refine⟨arr,by rw[Pe,hh h0];exact ha,hs,?_⟩
 split
 ·rename_i hb
  simp only[hb,if_true]at hx
  obtain⟨e,h1,h2,h3,h4⟩:=hx
  exact⟨e,h1,h2,h3,ME h h4⟩
 ·rename_i hb
  simp only[hb,if_false,aN]at hx
  exact nP h.I _ _ _ _ hx
theorem Mem.alloc{c:Ctx}{w:World}(hm:Mem c w){k:Nat}(hk:c.R k=none)(row:Row)(arr:Array Value)(hs:0<row.sz)
 (hx:if row.box then∃e,row.es=.gen [e]/\e.length=row.sz/\arr.size=row.sz/\kA c w e arr 0 else iu c.I w row.es.l arr 0 row.sz):
 Mem (c.add k row w.heap.size) (w.alloc (.cells arr row.ty)):=by
 have hg:=jf.alloc hm hk row (.cells arr row.ty)
 refine⟨λr x hr=>?_,λr s x y hr jd I7 LR he=>?_,λb hb=>?_,bH hm.top (by show w.heap.size<=(w.heap.push _).size;simp),hm.kC.mono hg.I⟩
 ·by_cases e:r=k
  ·subst e
   simp only[Ctx.add,if_true,Option.some.injEq]at hr
   subst hr
   refine .inr ⟨by simp[Ctx.add],arr,by simp only[Ctx.add,if_true];exact TC w _,hs,?_⟩
   split
   ·rename_i hb
    simp only[hb,if_true]at hx
    obtain⟨e,h1,h2,h3,h4⟩:=hx
    exact⟨e,h1,h2,h3,ME hg h4⟩
   ·rename_i hb
    simp only[hb,if_false,aN]at hx
    exact nP hg.I _ _ _ _ hx
  ·have nc:c.R r=some x:=by simpa[Ctx.add,e]using hr
   exact tC hg (by simp[Ctx.add,e]) (by simp[Ctx.add,e]) (λnv=>w6 w _ _ (hm.lt nc nv)) (hm.row r x nc)
 ·by_cases e1:r=k<;>by_cases e2:s=k
  ·exact e1.trans e2.symm
  ·exfalso
   have h2:c.R s=some y:=by simpa[Ctx.add,e2]using jd
   have:=hm.lt h2 (by simpa[Ctx.add,e2]using LR)
   simp[Ctx.add,e1,e2]at he
   omega
  ·exfalso
   have h1:c.R r=some x:=by simpa[Ctx.add,e1]using hr
   have:=hm.lt h1 (by simpa[Ctx.add,e1]using I7)
   simp[Ctx.add,e1,e2]at he
   omega
  ·exact hm.inj r s x y (by simpa[Ctx.add,e1]using hr) (by simpa[Ctx.add,e2]using jd) (by simpa[Ctx.add,e1]using I7) (by simpa[Ctx.add,e2]using LR) (by simpa[Ctx.add,e1,e2]using he)
 ·have s7:c.I b:=hb
  obtain⟨h1,h2⟩:=hm.fh b s7
  refine⟨by show b<(w.heap.push _).size;simp;omega,λr x hr hv=>?_⟩
  by_cases e:r=k
  ·simp only[Ctx.add,e,if_true];omega
  ·simpa[Ctx.add,e]using h2 r x (by simpa[Ctx.add,e]using hr) (by simpa[Ctx.add,e]using hv)
theorem wz.get{c:Ctx}{w:World}{r:Nat}{row:Row}(h:wz c w r row){i off n:Nat}(hi:i<row.es.l.length)(hn:off+n<=row.sz):
 ∃arr,w.heap[c.ρ r]?=some (.cells arr row.ty (0,0))/\∀j,j<n->∃v,arr[i*row.sz+off+j]?=some v/\jU (!row.box) c w ((row.es.l.getD i []).getD (off+j) .dead) v:=by
 obtain⟨arr,ha,hs,hx⟩:=h
 refine⟨arr,ha,λj hj=>?_⟩
 cases hb:row.box with
 |true=>
  simp only[hb,if_true]at hx
  obtain⟨e,h1,h2,h3,h4⟩:=hx
  have rh:i=0:=by rw[h1]at hi;simpa[ak.l]using hi
  subst rh
  obtain⟨v,hv,hp⟩:=Z84 h4 (j:=off+j) (by omega)
  exact⟨v,by simpa using hv,by simpa[jU,h1,ak.l]using hp⟩
 |false=>
  simp only[hb,if_false,aN]at hx
  obtain⟨h1,h2⟩:=TA hx hi
  obtain⟨v,hv,hp⟩:=Tz h2 (j:=off+j) (by omega)
  exact⟨v,by simpa[fZ]using hv,by simpa[jU]using hp⟩
theorem TE:∀{e:List D} {len off n:Nat},n<len->(ints e off len).getD n 0=(e.getD (off+n) .dead).toInt
 |e,len+1,off,0,_=>by simp[ints]
 |e,len+1,off,n+1,h=>by
  have:=TE (e:=e) (len:=len) (off:=off+1) (n:=n) (by omega)
  rw[show off+1+n=off+(n+1) by omega]at this
  simpa[ints]using this
theorem TF:∀{e:List D} {len off n:Nat},n<len->(bn e off len).getD n false=(e.getD (off+n) .dead).toBool
 |e,len+1,off,0,_=>by simp[bn]
 |e,len+1,off,n+1,h=>by
  have:=TF (e:=e) (len:=len) (off:=off+1) (n:=n) (by omega)
  rw[show off+1+n=off+(n+1) by omega]at this
  simpa[bn]using this
theorem TG{k:IntKind}:∀{e:List D} {len off n:Nat},Cr k e off len=true->n<len->(e.getD (off+n) .dead).isInt k=true
 |e,len+1,off,0,h,_=>by simp only[Cr,aE]at h;exact h.1
 |e,len+1,off,n+1,h,hn=>by
  simp only[Cr,aE]at h
  have:=TG h.2 (n:=n) (by omega)
  rwa [show off+1+n=off+(n+1) by omega]at this
theorem TH:∀{e:List D} {len off n:Nat},G0 e off len=true->n<len->(e.getD (off+n) .dead).isBool=true
 |e,len+1,off,0,h,_=>by simp only[G0,aE]at h;exact h.1
 |e,len+1,off,n+1,h,hn=>by
  simp only[G0,aE]at h
  have:=TH h.2 (n:=n) (by omega)
  rwa [show off+1+n=off+(n+1) by omega]at this
theorem D.jV{k:IntKind}{d:D}(h:d.isInt k=true):d=.int k d.toInt:=by
 cases d<;>simp[D.isInt]at h
 subst h;rfl
theorem D.jW{d:D}(h:d.isBool=true):d=.bool d.toBool:=by
 cases d<;>simp[D.isBool]at h
 rfl
theorem jU.int{pl:Bool}{c:Ctx}{w:World}{k:IntKind}{n:Int}{v:Value}(h:jU pl c w (.int k n) v):v=.int k n:=by
 cases pl<;>simpa[jU,rO,ri,rP,rQ,rR,rS,sX,tE,tF,tG,tH,tI,tJ,tK,tL,tM,cu]using h
theorem jU.bool{pl:Bool}{c:Ctx}{w:World}{b:Bool}{v:Value}(h:jU pl c w (.bool b) v):v=.bool b:=by
 cases pl<;>simpa[jU,rO,ri,rP,rQ,rR,rS,sX,tE,tF,tG,tH,tI,tJ,tK,tL,tM,cu]using h
theorem TJ{P:Program}{t:TypeId}{ti:TI}(ht:Av P t=some ti)(hk:(ti.kind.isAgg||match ti.kind with|.other=>true|_=>false)=false):ti.size=1:=by
 obtain⟨_,_,_,_,hl,nL,_,_,hc,_⟩:=Qa ht
 rw[<-hl,hc]
 rw[nL]at hk
 unfold GZ at hk
 unfold lI
 split at hk<;>first|rfl|(simp[TK.isAgg]at hk)
theorem TL{P:Program}{t:TypeId}{w:World}{a:Addr}:(Instr.loadAt t (.pointer (some a))).run P w=(loadVar t a).run P w:=by
 simp[Instr.loadAt,Instr.sureAddr]
theorem Ze7{P:Program}{T:ff}(hT:jt P T){t:TypeId}{x:D}{R:Rows}{K:D->Rows->Prop}(h:wC T t x R K):
 ∃val,K val R/\∀c w v,Mem c w->mf c R->Rep c w x v->∃u,(Instr.loadAt t v).run P w=.ok u w/\Rep c w val u:=by
 unfold wC at h
 cases ht:T.get t with
 |none=>simp only[ht]at h
 |some ti=>
  simp only[ht]at h
  have LS:=hT.get ht
  obtain⟨i0,rh,Ea,_,AL,wV,_⟩:=Qa LS
  cases x<;>simp only at h
  case ptr r i off=>
   cases hR:R.getD r none with
   |none=>simp only[hR]at h
   |some row=>
    obtain⟨box,ty,sz,es⟩:=row
    simp only[hR,c7]at h
    obtain⟨hle,h⟩:=h
    have hle:=lE hle
    obtain⟨val,hK,tT,hr⟩:=Ze AL h
    refine⟨val,hK,λc w v hm hA hv=>?_⟩
    obtain⟨row,h1,hV,h2,h3⟩:=hv
    have cb:=hA r row _ h1 hR
    subst cb
    obtain⟨arr,ha,hx⟩:=(hm.real h1 hV).get h2 hle
    simp only[ak.mP es (show i<es.len by simpa using h2)]at hx
    subst h3
    refine⟨_,TL.trans (X9 LS ha (λj hj=>by obtain⟨v,hv,_⟩:=hx j hj;exact⟨v,hv⟩) tT),hr c w arr _ hx⟩
  case pa r i off len k n=>
   cases hR:R.getD r none with
   |none=>simp only[hR]at h
   |some row=>
    obtain⟨box,ty,sz,es⟩:=row
    simp only[hR,c7]at h
    obtain⟨hle,h⟩:=h
    have hle:=lE hle
    have one:(ti.kind.isAgg=false)->ti.size=1->∀c w v,Mem c w->mf c R->Rep c w (.pa r i off len k n) v->∃u,(Instr.loadAt t v).run P w=.ok u w/\jU (!box) c w ((es.get i).getD (off+n) .dead) u/\n<len:=by
     intro Cs fp c w v hm hA hv
     obtain⟨hn,row,h1,hV,h2,h3⟩:=hv
     have cb:=hA r row _ h1 hR
     subst cb
     obtain⟨arr,ha,hx⟩:=(hm.real h1 hV).get h2 hle
     simp only[ak.mP es (show i<es.len by simpa using h2)]at hx
     subst h3
     obtain⟨u,hu,tU⟩:=hx n hn
     have TB:arr[i*sz+(off+n)]?=some u:=by rw[<-fZ];exact hu
     refine⟨u,?_,tU,hn⟩
     rw[TL,X9 LS ha (λj hj=>⟨u,by rw[show j=0 by omega];exact TB⟩) (.inr fp),Cs]
     simp[TB]
    split at h
    ·rename_i j k' hk
     simp only[aE,decide_eq_true_eq]at h
     obtain⟨⟨rfl,iL⟩,h⟩:=h
     have fp:ti.size=1:=TJ LS (by rw[hk];simp[TK.isAgg])
     refine⟨_,h,λc w v hm hA hv=>?_⟩
     obtain⟨u,hu,tU,hn⟩:=one (by rw[hk];rfl) fp c w v hm hA hv
     rw[D.jV (TG iL hn)]at tU
     have:=jU.int tU
     subst this
     exact⟨_,hu,by simp only[Rep,VRep,cu];rw[TE hn]⟩
    ·rename_i hk
     obtain⟨iL,h⟩:=h
     have fp:ti.size=1:=TJ LS (by rw[hk];simp[TK.isAgg])
     refine⟨_,h,λc w v hm hA hv=>?_⟩
     obtain⟨u,hu,tU,hn⟩:=one (by rw[hk];rfl) fp c w v hm hA hv
     rw[D.jW (TH iL hn)]at tU
     have:=jU.bool tU
     subst this
     exact⟨_,hu,by simp only[Rep,VRep,cu];rw[TF hn]⟩
    ·exact h.elim
  case ig sz es i off=>
   simp only[c7]at h
   obtain⟨hle,h⟩:=h
   have hle:=lE hle
   obtain⟨val,hK,tT,hr⟩:=Ze AL h
   refine⟨val,hK,λc w v hm hA hv=>?_⟩
   obtain⟨b,o,arr,ty,fz,h3,hI,hi,ha,hE⟩:=hv
   subst h3
   obtain⟨h1,h2⟩:=TA hE hi
   rw[ak.mP es (show i<es.len by simpa using hi)]at h1 h2
   have hx:∀j,j<ti.size->∃v,arr[o+i*sz+off+j]?=some v/\jU true c w ((es.get i).getD (off+j) .dead) v:=λj hj=>by
    obtain⟨v,hv,hp⟩:=Tz h2 (j:=off+j) (by omega)
    exact⟨v,by rw[<-hv];congr 1;omega,hp⟩
   exact⟨_,TL.trans (X9 LS ha (λj hj=>by obtain⟨v,hv,_⟩:=hx j hj;exact⟨v,hv⟩) tT),hr c w arr _ hx⟩
def Ctx.fh(c:Ctx)(b:Nat):Ctx:={c with I:=λx=>c.I x\/x=b,top:=max c.top (b+1)}
theorem TM{c:Ctx}{w:World}(hm:Mem c w)(o:Obj):jf c w (c.fh w.heap.size) (w.alloc o):=
 ⟨rfl,Nat.le_max_left _ _,λb hb=>⟨.inl hb,w6 w o b (hm.fh b hb).1⟩,λr x hr=>⟨x,hr,rfl,rfl,rfl,rfl,rfl,Iff.rfl,λnv arr ha=>⟨arr,by rw[w6 w o _ (hm.lt hr nv)];exact ha,rfl⟩⟩⟩
theorem xaq{c:Ctx}{w:World}(hm:Mem c w)(o:Obj):Mem (c.fh w.heap.size) (w.alloc o):=by
 refine⟨λr x hr=>tC (TM hm o) rfl Iff.rfl (λnv=>w6 w _ _ (hm.lt hr nv)) (hm.row r x hr),hm.inj,λb hb=>?_,?_,hm.kC.mono (TM hm o).I⟩
 all_goals have fp:(w.alloc o).heap.size=w.heap.size+1:=by show(w.heap.push o).size=_;simp
 rotate_left
 ·have:=hm.top;rw[fp];exact Nat.max_le.2 ⟨by omega,aO _⟩
 rcases hb with hb|hb
 ·exact⟨by have:=(hm.fh b hb).1;omega,(hm.fh b hb).2⟩
 ·subst hb
  exact⟨by omega,λr x hr v=>by have:=hm.lt hr v;show c.ρ r≠w.heap.size;omega⟩

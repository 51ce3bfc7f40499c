import Derived.Test.YthjfindbamdacaaGreatDoorAuditAcceptsVc
open Nat renaming le_refl->aO,le_trans->bH,beq->bT,lt_of_succ_lt_succ->fW,add_assoc->fX
open List renaming map_cons->fQ,length_cons->dI
open Bool renaming false_eq_true->aN
set_option linter.all false
namespace Go.GD
open Go
variable {Fk S:Nat->Prop}{I I' X:ag}{K:D->Prop}{P:Program}{R:Rows}{T:iM}{cs:List iJ}{d:TypeDesc}{k:IntKind}{off r:Nat}{pl:Bool}{row:Row}{t:TypeId}{ti:TI}{us:List Value}{v:Value}{w w' HJ:World}
mutual
theorem Zsr{I I':ag}{w w':World}(h:∀b arr ty fz,I b->w.heap[b]?=some (.cells arr ty fz)->I' b/\w'.heap[b]?=some (.cells arr ty fz)):∀(d:D) (v:Value),ga I w d v->ga I' w' d v
 |_,_,.bool b=>.bool b
 |_,_,.int k n=>.int k n
 |_,_,.str s=>.str s
 |_,_,.iO=>.iO
 |_,_,.dx=>.dx
 |_,_,.emp a=>.emp a
 |_,_,.UZ sz es fr a cap h0=>.UZ sz es fr a cap h0
 |_,_,.U0 sz es fr cap hc b off arr ty fz hI hh hE=>.U0 sz es fr cap hc b off arr ty fz (h b arr ty fz hI hh).1 (h b arr ty fz hI hh).2 (Qc h es.l arr off sz hE)
theorem Qpd{I I':ag}{w w':World}(h:∀b arr ty fz,I b->w.heap[b]?=some (.cells arr ty fz)->I' b/\w'.heap[b]?=some (.cells arr ty fz)):∀(cs:List D) (arr:Array Value) (off:Nat),nZ I w cs arr off->nZ I' w' cs arr off
 |_,_,_,.nil arr off=>.nil arr off
 |_,_,_,.cons c cs arr off v hv hp hr=>.cons c cs arr off v hv (Zsr h c v hp) (Qpd h cs arr (off+1) hr)
theorem Qc{I I':ag}{w w':World}(h:∀b arr ty fz,I b->w.heap[b]?=some (.cells arr ty fz)->I' b/\w'.heap[b]?=some (.cells arr ty fz)):∀(es:List (List D)) (arr:Array Value) (off sz:Nat),iK I w es arr off sz->iK I' w' es arr off sz
 |_,_,_,_,.nil arr off sz=>.nil arr off sz
 |_,_,_,_,.cons e es arr off sz hl hc hr=>.cons e es arr off sz hl (Qpd h e arr off hc) (Qc h es arr (off+sz) sz hr)
end
theorem Ae(h:∀b,I b->I' b/\w'.heap[b]?=w.heap[b]?)(b:Nat)(arr:Array Value)(ty:TypeId)(fz:Nat×Nat)(hI:I b)(hh:w.heap[b]?=some (.cells arr ty fz)):I' b/\w'.heap[b]?=some (.cells arr ty fz):=⟨(h b hI).1,(h b hI).2.trans hh⟩
theorem Znl(h:∀b,I b->I' b/\w'.heap[b]?=w.heap[b]?)(cs:List D)(arr:Array Value)(off:Nat)(hp:nZ I w cs arr off):nZ I' w' cs arr off:=Qpd (Ae h) cs arr off hp
theorem ou(h:∀b,I b->I' b/\w'.heap[b]?=w.heap[b]?)(es:List (List D))(arr:Array Value)(off sz:Nat)(hp:iK I w es arr off sz):iK I' w' es arr off sz:=Qc (Ae h) es arr off sz hp
structure jn(c:Ctx)(w:World)(c':Ctx)(w':World):Prop where
 base:c'.base=c.base
 top:c.top<=c'.top
 I:∀b,c.I b->c'.I b/\w'.heap[b]?=w.heap[b]?
 R :∀r row,c.R r=some row->∃ao,c'.R r=some ao/\ao.box=row.box/\ao.ty=row.ty/\ao.sz=row.sz/\ao.es.l.length=row.es.l.length/\c'.ρ r=c.ρ r/\(c'.V r↔c.V r)/\
  (¬c.V r->∀arr,w.heap[c.ρ r]?=some (.cells arr row.ty (0,0))->∃iQ,w'.heap[c.ρ r]?=some (.cells iQ row.ty (0,0))/\iQ.size=arr.size)
structure J3(c:Ctx)(w:World)(c':Ctx)(w':World):Prop where
 base:c'.base=c.base
 top:c.top<=c'.top
 I:∀b arr ty fz,c.I b->w.heap[b]?=some (.cells arr ty fz)->c'.I b/\w'.heap[b]?=some (.cells arr ty fz)
 R :∀r row,c.R r=some row->∃ao,c'.R r=some ao/\ao.box=row.box/\ao.ty=row.ty/\ao.sz=row.sz/\ao.es.l.length=row.es.l.length/\c'.ρ r=c.ρ r/\(c'.V r↔c.V r)/\
  (¬c.V r->∀arr,w.heap[c.ρ r]?=some (.cells arr row.ty (0,0))->∃iQ,w'.heap[c.ρ r]?=some (.cells iQ row.ty (0,0))/\iQ.size=arr.size)
theorem jn.to0{c c':Ctx}(h:jn c w c' w'):J3 c w c' w':=⟨h.base,h.top,Ae h.I,h.R⟩
theorem MQ{c c':Ctx}(h:∀b,c.I b->c'.I b/\w'.heap[b]?=w.heap[b]?){f:Nat}(hf:sw c w f us v):sw c' w' f us v:=by
 rcases hf with hf|⟨h1,l,rec,h2,h3,h4,h5⟩
 ·exact .inl hf
 ·exact .inr ⟨h1,l,rec,h2,(h l h3).1,(h l h3).2.trans h4,h5⟩
theorem jn.refl(c:Ctx)(w:World):jn c w c w:=
 ⟨rfl,aO _,λ_ h=>⟨h,rfl⟩,λ_ row h=>⟨row,h,rfl,rfl,rfl,rfl,rfl,Iff.rfl,λ_ arr h=>⟨arr,h,rfl⟩⟩⟩
theorem jn.trans{c c' Tg:Ctx}(h:jn c w c' w')(g:jn c' w' Tg HJ):jn c w Tg HJ:=by
 refine⟨g.base.trans h.base,bH h.top g.top,λb hb=>⟨(g.I b (h.I b hb).1).1,(g.I b (h.I b hb).1).2.trans (h.I b hb).2⟩,λr row hr=>?_⟩
 obtain⟨ao,h1,h2,h3,h4,h5,h6,hV,h7⟩:=h.R r row hr
 obtain⟨oF,g1,g2,g3,g4,g5,g6,gV,g7⟩:=g.R r ao h1
 refine⟨oF,g1,g2.trans h2,g3.trans h3,g4.trans h4,g5.trans h5,g6.trans h6,gV.trans hV,λnv arr ha=>?_⟩
 obtain⟨iQ,jG,hs⟩:=h7 nv arr ha
 obtain⟨QM,QN,jl⟩:=g7 (λe=>nv (hV.1 e)) iQ (by rw[h6,h3];exact jG)
 exact⟨QM,by rw[h6,h3]at QN;exact QN,jl.trans hs⟩
theorem Qyw{c c':Ctx}(h:J3 c w c' w'):∀{d:D} {v:Value},(∀f cs,d≠.gq f cs)->cz c w d v->cz c' w' d v:=by
 intro d v gv hd
 cases d with
 |sl sz es fr=>
  simp only[cz]at hd⊢
  obtain⟨a,cap,hv,hc,iq⟩:=hd
  refine⟨a,cap,hv,hc,?_⟩
  rcases iq with iq|⟨b,off,arr,ty,fz,ha,hI,hf,hh,hE⟩
  ·exact .inl iq
  ·exact .inr ⟨b,off,arr,ty,fz,ha,(h.I b arr ty fz hI hh).1,λe=>by rw[h.base];exact hf e,(h.I b arr ty fz hI hh).2,Qc h.I _ arr off sz hE⟩
 |all r=>
  simp only[cz]at hd⊢
  obtain⟨row,hr,hb,hd⟩:=hd
  obtain⟨ao,g1,g2,g3,g4,g5,g6,gV,g7⟩:=h.R r row hr
  refine⟨ao,g1,g2.trans hb,?_⟩
  rcases hd with⟨hV,hv⟩|⟨hV,cap,arr,hv,h1,h2,h3,h4⟩
  ·obtain⟨a,hv,ho⟩:=hv
   exact .inl ⟨gV.2 hV,a,hv,ho.mono h.top⟩
  ·obtain⟨iQ,jG,hs⟩:=g7 hV arr h3
   exact .inr ⟨λe=>hV (gV.1 e),cap,iQ,by rw[hv,g5,g6],by rw[g5];exact h1,h2,by rw[g6,g3];exact jG,by rw[g4,hs];exact h4⟩
 |emp=>
  obtain⟨a,hv,ho⟩:=hd
  exact⟨a,hv,ho.mono h.top⟩
 |own r o n=>
  simp only[cz]at hd⊢
  obtain⟨row,hr,hb,ho,hd⟩:=hd
  obtain⟨ao,g1,g2,g3,g4,g5,g6,gV,g7⟩:=h.R r row hr
  refine⟨ao,g1,g2.trans hb,by rw[g5];exact ho,?_⟩
  rcases hd with⟨h0,a,hv,jd⟩|⟨hV,cap,arr,h1,h2,h3,h4,h5⟩
  ·exact .inl ⟨h0,a,hv,jd.mono h.top gV g6⟩
  ·obtain⟨iQ,jG,hs⟩:=g7 hV arr h3
   exact .inr ⟨λe=>hV (gV.1 e),cap,iQ,h1,h2,by rw[g6,g3];exact jG,by rw[g4,g6];exact h4,by rw[g4,hs];exact h5⟩
 |ptr r i off=>
  simp only[cz]at hd⊢
  obtain⟨row,hr,hV,hi,hv⟩:=hd
  obtain⟨ao,g1,g2,g3,g4,g5,g6,gV,g7⟩:=h.R r row hr
  exact⟨ao,g1,λe=>hV (gV.1 e),by rw[g5];exact hi,by rw[hv,g6,g4]⟩
 |pa r i off len k n=>
  simp only[cz]at hd⊢
  obtain⟨hn,row,hr,hV,hi,hv⟩:=hd
  obtain⟨ao,g1,g2,g3,g4,g5,g6,gV,g7⟩:=h.R r row hr
  exact⟨hn,ao,g1,λe=>hV (gV.1 e),by rw[g5];exact hi,by rw[hv,g6,g4]⟩
 |iv sz es i off=>
  simp only[cz]at hd⊢
  obtain⟨b,o,arr,ty,fz,hv,hI,hi,hh,hE⟩:=hd
  exact⟨b,o,arr,ty,fz,hv,(h.I b arr ty fz hI hh).1,hi,(h.I b arr ty fz hI hh).2,Qc h.I _ arr o sz hE⟩
 |c9 r=>
  rcases hd with hd|⟨row,hr,hV,hi,hv⟩
  ·exact .inl hd
  ·obtain⟨ao,g1,g2,g3,g4,g5,g6,gV,g7⟩:=h.R r row hr
   exact .inr ⟨ao,g1,λe=>hV (gV.1 e),by rw[g5];exact hi,by rw[hv,g6,g4]⟩
 |gq f cs=>exact absurd rfl (gv f cs)
 |_=>exact hd
theorem Zc6{c c':Ctx}(h:jn c w c' w'){d:D}(gv:∀f cs,d≠.gq f cs)(hd:cz c w d v):cz c' w' d v:=Qyw h.to0 gv hd
theorem Zde{c c':Ctx}{w w':World}{S:Nat->Prop}{f:Nat->Nat}{cy:Bool}{Fk:Nat->Prop}(g:∀d v,(∀f cs,d≠.gq f cs)->(∀r∈nU d,S r)->cz c w d v->cz c' w' (d.mM f cy) v)(gF:∀k ws v,Fk k->sw c w k ws v->sw c' w' k ws v):
 ∀{cs:List iJ} {us:List Value},(∀k ps,iJ.fn k ps∈cs->Fk k)->(∀r∈oJ cs,S r)->oX c w cs us->oX c' w' (cs.map (iJ.jk f cy)) us
 |[],[],_,_,_=>trivial
 |x ::cs,u::us,hF,hS,⟨h1,h2⟩=>by
  refine⟨?_,Zde g gF (λk ps hm=>hF k ps (by simp[hm])) (λr hr=>hS r (by simp[oJ,hr])) h2⟩
  have U1:∀r∈Dj x,S r:=λr hr=>hS r (by simp[oJ,hr])
  cases x with
  |fn k ps=>
   obtain⟨ws,hv,hw⟩:=h1
   refine⟨ws,gF k ws u (hF k ps (by simp)) hv,?_⟩
   have hS2:∀p∈ps,S p.1:=λp hp=>U1 _ (by simp only[Dj,List.mem_map];exact⟨p,hp,rfl⟩)
   clear hv U1 hS h2 hF
   induction ps generalizing ws with
   |nil=>cases ws<;>exact hw
   |cons p ps ih=>
    cases ws with
    |nil=>exact hw.elim
    |cons v ws=>exact⟨g (.ptr p.1 p.2.1 p.2.2) v (λ_ _ e=>by cases e) (λr hr=>by simp[nU]at hr;subst hr;exact hS2 p (by simp)) hw.1,ih ws hw.2 (λq hq=>hS2 q (by simp[hq]))⟩
  |ptr r i off=>exact g (.ptr r i off) u (λ_ _ e=>by cases e) U1 h1
  |int k n=>exact h1
  |arr r=>exact g (.all r) u (λ_ _ e=>by cases e) U1 h1
  |sl a b fr=>exact g (.sl a b fr) u (λ_ _ e=>by cases e) (λr hr=>by simp[nU]at hr) h1
 |[],_::_,_,_,h=>h.elim
 |_::_,[],_,_,h=>h.elim
theorem qx{d:D}(h:∀f cs,d≠.gq f cs):d.mM (λr=>r) true=d:=by cases d<;>first|(simp[D.mM];done)|exact absurd rfl (h _ _)
theorem Z5n:∀{cs:List iJ},cs.map (iJ.jk (λr=>r) true)=cs
 |[]=>rfl
 |x::l=>by
  simp only[fQ,Z5n (cs:=l)]
  congr 1
  cases x<;>simp[iJ.jk]
theorem Zb7{c c':Ctx}(g:∀d v,(∀f cs,d≠.gq f cs)->(∀r∈nU d,S r)->cz c w d v->cz c' w' d v)(gF:∀k ws v,Fk k->sw c w k ws v->sw c' w' k ws v)(hF:∀k ps,iJ.fn k ps∈cs->Fk k)(hS:∀r∈oJ cs,S r)(h:oX c w cs us):oX c' w' cs us:=by
 have:=Zde (f:=λr=>r) (cy:=true) (λd v h1 h2 h3=>by rw[qx h1];exact g d v h1 h2 h3) gF hF hS h
 rwa [Z5n]at this
theorem ZI{c c':Ctx}(g:∀d v,(∀f cs,d≠.gq f cs)->(∀r∈nU d,S r)->cz c w d v->cz c' w' d v)(gF:∀b,c.I b->c'.I b/\w'.heap[b]?=w.heap[b]?)(hS:∀r∈oJ cs,S r)(h:oX c w cs us):oX c' w' cs us:=
 Zb7 (Fk:=λ_=>True) g (λ_ _ _ _=>MQ gF) (λ_ _ _=>trivial) hS h
theorem NL{c c':Ctx}(h:jn c w c' w'){d:D}(hd:cz c w d v):cz c' w' d v:=by
 by_cases e:∃f cs,d=.gq f cs
 ·obtain⟨f,cs,rfl⟩:=e
  obtain⟨us,hv,hu⟩:=hd
  exact⟨us,MQ h.I hv,ZI (S:=λ_=>True) (λd v h1 _ h2=>Zc6 h h1 h2) h.I (λ_ _=>trivial) hu⟩
 ·exact Zc6 h (λf cs e'=>e ⟨f,cs,e'⟩) hd
theorem NQ{l:List Nat}(h:sQ l=true){k:Nat}(hk:k∈l):k<YB:=lE (List.all_eq_true.1 h k hk)
theorem Zpi:∀{cs:List iJ} {k:Nat} {ps:List (Nat×Nat×Nat)},iJ.fn k ps∈cs->k∈Bi cs
 |x ::l,k,ps,hm=>by
  rcases List.mem_cons.1 hm with e|e
  ·subst e;simp[Bi]
  ·have:=Zpi e
   cases x<;>simp[Bi,this]
 |[],_,_,hm=>by simp at hm
section
variable {c c':Ctx} {w w':World} (h:J3 c w c' w') {Fk:Nat->Prop} (gF:∀k ws v,Fk k->sw c w k ws v->sw c' w' k ws v)
include h gF
theorem Z4n{d:D}(hn:∀k∈Bj d,Fk k)(hd:cz c w d v):cz c' w' d v:=by
 by_cases e:∃f cs,d=.gq f cs
 ·obtain⟨f,cs,rfl⟩:=e
  obtain⟨us,hv,hu⟩:=hd
  exact⟨us,gF _ _ _ (hn f (by simp[Bj])) hv,Zb7 (S:=λ_=>True) (Fk:=Fk) (λd v h1 _ h2=>Qyw h h1 h2) gF (λk ps hm=>hn k (by simp[Bj,Zpi hm])) (λ_ _=>trivial) hu⟩
 ·exact Qyw h (λf cs e'=>e ⟨f,cs,e'⟩) hd
theorem Zc0:∀{ds:List D} {vs:List Value},(∀k∈rP ds,Fk k)->jq c w ds vs->jq c' w' ds vs
 |[],[],_,_=>trivial
 |_::_,_::_,hn,⟨h1,h2⟩=>⟨Z4n h gF (λk hk=>hn k (by simp[rP,hk])) h1,Zc0 (λk hk=>hn k (by simp[rP,hk])) h2⟩
 |[],_::_,_,h=>h.elim
 |_::_,[],_,h=>h.elim
theorem Zkl{d:D}(hn:∀k∈Gb d,Fk k)(hd:VRep c w d v):VRep c' w' d v:=by
 cases d with
 |agg cs=>obtain⟨vs,hv,hr⟩:=hd;exact⟨vs,hv,Zc0 h gF hn hr⟩
 |_=>simp only[VRep]at hd⊢;exact Z4n h gF hn hd
theorem Qyy:∀{ds:List D} {vs:List Value},(∀k∈pN ds,Fk k)->kp c w ds vs->kp c' w' ds vs
 |[],[],_,_=>trivial
 |_::_,_::_,hn,⟨h1,h2⟩=>⟨Zkl h gF (λk hk=>hn k (by simp[pN,hk])) h1,Qyy (λk hk=>hn k (by simp[pN,hk])) h2⟩
 |[],_::_,_,h=>h.elim
 |_::_,[],_,h=>h.elim
theorem Zoy{d:D}(hn:∀k∈Dk d,Fk k)(hd:Rep c w d v):Rep c' w' d v:=by
 cases d with
 |dt ds=>obtain⟨vs,hv,hr⟩:=hd;exact⟨vs,hv,Qyy h gF hn hr⟩
 |dead=>trivial
 |_=>simp only[Rep]at hd⊢;exact Zkl h gF hn hd
theorem Z45:∀{ds:List D} {arr:Array Value} {off:Nat},(∀k∈rP ds,Fk k)->kU c w ds arr off->kU c' w' ds arr off
 |[],_,_,_,_=>trivial
 |_::_,_,_,hn,⟨⟨v,hv,h1⟩,h2⟩=>⟨⟨v,hv,Z4n h gF (λk hk=>hn k (by simp[rP,hk])) h1⟩,Z45 (λk hk=>hn k (by simp[rP,hk])) h2⟩
end
theorem Zbz{c c':Ctx}{w w':World}(h:jn c w c' w'):∀{ds:List D} {vs:List Value},jq c w ds vs->jq c' w' ds vs
 |[],[],_=>trivial
 |_::_,_::_,⟨h1,h2⟩=>⟨NL h h1,Zbz h h2⟩
theorem Zl0{c c':Ctx}(h:jn c w c' w'):∀{d:D} {v:Value},VRep c w d v->VRep c' w' d v:=by
 intro d v hd
 cases d with
 |agg cs=>obtain⟨vs,hv,hr⟩:=hd;exact⟨vs,hv,Zbz h hr⟩
 |_=>simp only[VRep]at hd⊢;exact NL h hd
theorem Xe{c c':Ctx}{w w':World}(h:jn c w c' w'):∀{ds:List D} {vs:List Value},kp c w ds vs->kp c' w' ds vs
 |[],[],_=>trivial
 |_::_,_::_,⟨h1,h2⟩=>⟨Zl0 h h1,Xe h h2⟩
theorem Ax{c c':Ctx}(h:jn c w c' w'):∀{d:D} {v:Value},Rep c w d v->Rep c' w' d v:=by
 intro d v hd
 cases d with
 |dt ds=>obtain⟨vs,hv,hr⟩:=hd;exact⟨vs,hv,Xe h hr⟩
 |dead=>trivial
 |_=>simp only[Rep]at hd⊢;exact Zl0 h hd
theorem NM{c c':Ctx}{w w':World}(h:jn c w c' w'):∀{ds:List D} {arr:Array Value} {off:Nat},kU c w ds arr off->kU c' w' ds arr off
 |[],_,_,_=>trivial
 |_::_,_,_,⟨⟨v,hv,h1⟩,h2⟩=>⟨⟨v,hv,NL h h1⟩,NM h h2⟩
def tK(I:ag)(w:World):Prop:=∀x∈KL,I x.1/\∃ty fz,w.heap[x.1]?=some (.cells (x.2.2.map λz=>Value.int x.2.1 z).toArray ty fz)
theorem tK.HK(h:tK I w)(g:∀b arr ty fz,I b->w.heap[b]?=some (.cells arr ty fz)->I' b/\w'.heap[b]?=some (.cells arr ty fz)):tK I' w':=λx hx=>by
 obtain⟨h1,ty,fz,h2⟩:=h x hx
 exact⟨(g _ _ _ _ h1 h2).1,ty,fz,(g _ _ _ _ h1 h2).2⟩
theorem tK.mono(h:tK I w)(g:∀b,I b->I' b/\w'.heap[b]?=w.heap[b]?):tK I' w':=h.HK (Ae g)
structure Mem(c:Ctx)(w:World):Prop where
 row:∀r row,c.R r=some row->Fl c w r row
 inj:∀r s x y,c.R r=some x->c.R s=some y->¬c.V r->¬c.V s->c.ρ r=c.ρ s->r=s
 fu:∀b,c.I b->b<w.heap.size/\∀r x,c.R r=some x->¬c.V r->c.ρ r≠b
 top:c.top<=w.heap.size
 kY:tK c.I w
theorem Zfh{c:Ctx}(hm:Mem c w)(h:J3 c w {c with I:=I} w')(hh:∀r x,c.R r=some x->¬c.V r->w'.heap[c.ρ r]?=w.heap[c.ρ r]?)(gF:∀k ws v,Fk k->sw c w k ws v->sw {c with I:=I} w' k ws v)
 (hn:∀r x,c.R r=some x->∀k∈lr [x],Fk k) (hI:∀b,I b->b<w'.heap.size/\∀r x,c.R r=some x->¬c.V r->c.ρ r≠b) (hs:w.heap.size<=w'.heap.size):Mem {c with I:=I} w':=by
 refine⟨λr row hr=>?_,hm.inj,λb hb=>hI b hb,bH hm.top hs,hm.kY.HK h.I⟩
 rcases hm.row r row hr with g|⟨g0,arr,g1,g2,g3⟩
 ·exact .inl g
 ·refine .inr ⟨g0,arr,(hh r row hr g0).trans g1,g2,?_⟩
  split at g3
  ·rename_i hb
   rw[if_pos hb]
   obtain⟨e,k1,k2,k3,k4⟩:=g3
   refine⟨e,k1,k2,k3,Z45 h gF (λk hk=>hn r row hr k ?_) k4⟩
   obtain⟨bx,ty,sz,es⟩:=row
   simp only at hb k1
   subst hb;subst k1
   simpa[lr]using hk
  ·rename_i hb
   rw[if_neg hb]
   exact Qc h.I _ _ _ _ g3
theorem Mem.real{c:Ctx}(h:Mem c w)(hr:c.R r=some row)(hV:¬c.V r):Af c w r row:=by
 rcases h.row r row hr with h1|h1
 ·exact(hV h1.1).elim
 ·exact h1.2
theorem Mem.ov{c:Ctx}(h:Mem c w)(hr:c.R r=some row)(hV:c.V r):row.box=false/\row.es.l=[]/\0<row.sz:=by
 rcases h.row r row hr with h1|h1
 ·exact h1.2
 ·exact(h1.1 hV).elim
theorem Mem.lt{c:Ctx}(h:Mem c w)(hr:c.R r=some row)(hV:¬c.V r):c.ρ r<w.heap.size:=by
 obtain⟨arr,ha,_⟩:=h.real hr hV
 by_cases bz:c.ρ r<w.heap.size
 ·exact bz
 ·rw[Array.getElem?_eq_none (by omega)]at ha;cases ha
structure Fr(X:ag)(w w':World):Prop where
 os:w'.os=w.os
 tape:w'.tape=w.tape
 output:w'.output=w.output
 size:w.heap.size<=w'.heap.size
 heap:∀b,b<w.heap.size->¬X b->w'.heap[b]?=w.heap[b]?
theorem Fr.refl(X:ag)(w:World):Fr X w w:=⟨rfl,rfl,rfl,aO _,λ_ _ _=>rfl⟩
theorem Fr.trans(h:Fr X w w')(g:Fr X w' HJ):Fr X w HJ:=
 ⟨g.os.trans h.os,g.tape.trans h.tape,g.output.trans h.output,bH h.size g.size,λb hb hx=>(g.heap b (Nat.lt_of_lt_of_le hb h.size) hx).trans (h.heap b hb hx)⟩
theorem Fr.mono{X Y:ag}(h:Fr X w w')(hxy:∀b,b<w.heap.size->X b->Y b):Fr Y w w':=
 ⟨h.os,h.tape,h.output,h.size,λb hb hy=>h.heap b hb λhx=>hy (hxy b hb hx)⟩
def mq(P:Program):Nat->TypeId->List tO
 |0,_=>[]
 |n+1,t=>match P.underlying t with
  |some (.int k)=>[.int k]
  |some .bool=>[.bool]
  |some .string=>[.str]
  |some (.slice e)=>[.sl (P.cellsOf e)]
  |some (.struct fs)=>fs.toList.flatMap λf=>mq P n f.type
  |some (.array m e)=>(List.replicate m (mq P n e)).flatten
  |_=>[.other]
def HL(P:Program)(t:TypeId):TK:=
 match P.underlying t with
 |some (.int k)=>.int k
 |some .bool=>.bool
 |some .string=>.string
 |some (.slice e)=>.slice e (P.cellsOf e)
 |some (.struct fs)=>.struct (fs.toList.map λf=>(f.offset,f.type,P.cellsOf f.type))
 |some (.array n e)=>.array n e (P.cellsOf e)
 |_=>.other
def U4(P:Program)(g:TypeId->Bool)(l:TypeId->Nat):List Field->Nat->Bool
 |[],_=>true
 |f::fs,o=>f.name != "_" &&bT f.offset o&&bT (P.cellsOf f.type) (l f.type)&&Nat.blt 0 (l f.type)&&g f.type&&U4 P g l fs (o+l f.type)
def rQ(P:Program):Nat->TypeId->Bool
 |0,_=>false
 |n+1,t=>match P.underlying t with
  |some (.int _)=>true
  |some .bool=>true
  |some .string=>true
  |some (.struct fs)=>!P.stoodInHeld t&&U4 P (rQ P n) (λu=>(mq P n u).length) fs.toList 0
  |some (.array _ e)=>bT (P.cellsOf e) (mq P n e).length&&Nat.blt 0 (P.cellsOf e)&&rQ P n e
  |_=>false
def Bk(P:Program)(t:TypeId):Option TI:=
 match P.info? t with
 |some i=>if(mq P 8 t).length=i.size/\(P.underlying t).isSome=true then
  some ⟨HL P t,i.size,i.bytes,mq P 8 t,i.zero.bind λz=>BK z.cells.toList,!(P.eqGuardType P.depth t)&&rQ P 8 t⟩else none
 |none=>none
def jD(P:Program)(T:iM):Prop:=T.map (λx=>Bk P x.1)=T.map (λx=>some x.2)
theorem jD.get(h:jD P T){i:TI}(hi:T.get t=some i):Bk P t=some i:=by
 induction T with
 |nil=>simp[iM.get]at hi
 |cons x l ih=>
  obtain⟨u,j⟩:=x
  simp only[jD,fQ,List.cons.injEq]at h
  simp only[iM.get]at hi
  cases hb:bT u t with
  |true=>
   simp only[hb,Option.some.injEq]at hi
   have:=bE hb
   subst this;subst hi
   exact h.1
  |false=>simp only[hb]at hi;exact ih h.2 hi
theorem ny{K:Rows->Prop}:∀{R:Rows},uc R K↔K R
 |[]=>Iff.rfl
 |d::l=>by unfold uc;exact ny (R:=l) (K:=λl=>K (d::l))
theorem D.cu{d:D}:d.force K↔K d:=by cases d<;>rfl
theorem D.fp:∀{l:List D} {K:List D->Prop},D.j4 l K↔K l
 |[],_=>Iff.rfl
 |d::l,K=>by unfold D.j4;rw[D.cu];exact D.fp (l:=l) (K:=λl=>K (d::l))
theorem Ziu{row:Row}:∀{R:Rows} {n:Nat} {K:Nat->Rows->Prop},Ag row R n K↔K (n+R.length) (R++[some row])
 |[],_,_=>Iff.rfl
 |x::l,n,K=>by
  unfold Ag
  rw[Ziu (R:=l) (K:=λk l=>K k (x::l))]
  simp only[dI,List.cons_append]
  rw[show n+1+l.length=n+(l.length+1) by omega]
theorem Qx{K:Nat->Rows->Prop}:Bl R row K↔K R.length (R++[some row]):=by
 unfold Bl;rw[Ziu];simp
theorem ga.one{d:D}(h:ga I w d v):v.oneCell'=true:=by
 cases d<;>simp only[sK,r7,Q6,sL,Q4,sM,tN,uq,ur,uv,uw,uy,uz,uA,uB,uD,yT,Zt1,Zsi]at h
 case sl sz es fr=>obtain⟨a,cap,hv,_⟩:=h;subst hv;rfl
 case emp=>obtain⟨a,hv⟩:=h;subst hv;rfl
 all_goals first|(subst h;rfl)|exact h.elim
theorem cz.one{c:Ctx}{d:D}(h:cz c w d v):v.oneCell'=true:=by
 cases d<;>simp only[cz]at h
 case sl sz es fr=>obtain⟨a,cap,hv,_⟩:=h;subst hv;rfl
 case emp=>obtain⟨a,hv,_⟩:=h;subst hv;rfl
 case rz es=>obtain⟨b,hv,_⟩:=h;subst hv;rfl
 case all r=>obtain⟨row,_,_,⟨_,a,hv,_⟩|⟨_,cap,arr,hv,_⟩⟩:=h<;>(subst hv;rfl)
 case own r o n=>
  obtain⟨row,_,_,_,⟨_,a,hv,_⟩|⟨_,cap,arr,_,_,_,hv,_⟩⟩:=h<;>(subst hv;rfl)
 case ptr r i off=>obtain⟨row,_,_,_,hv⟩:=h;subst hv;rfl
 case pa r i off len k n=>obtain⟨_,row,_,_,_,hv⟩:=h;subst hv;rfl
 case iv sz es i off=>obtain⟨b,o,arr,ty,fz,hv,_⟩:=h;subst hv;rfl
 case gq f cs=>obtain⟨us,⟨_,hv⟩|⟨_,l,rec,hv,_⟩,_⟩:=h<;>(subst hv;rfl)
 case c9 r=>obtain hv|⟨row,_,_,_,hv⟩:=h<;>(subst hv;rfl)
 all_goals first|exact h|(subst h;rfl)|exact h.elim
theorem U5{I:ag}{w:World}:∀{cs:List D} {arr:Array Value} {off j:Nat},nZ I w cs arr off->j<cs.length->∃v,arr[off+j]?=some v/\ga I w (cs.getD j .dead) v
 |c::cs,arr,off,0,h,_=>by
  simp only[Cb,AE]at h
  simpa using h.1
 |c::cs,arr,off,j+1,h,hj=>by
  simp only[Cb,AE]at h
  obtain⟨v,hv,hp⟩:=U5 h.2 (fW (by simpa using hj))
  exact⟨v,by rw[show off+(j+1)=off+1+j by omega];exact hv,by simpa using hp⟩
theorem U6{I:ag}{w:World}:∀{es:List (List D)} {arr:Array Value} {off sz i:Nat},iK I w es arr off sz->i<es.length->(es.getD i []).length=sz/\nZ I w (es.getD i []) arr (off+i*sz)
 |e::es,arr,off,sz,0,h,_=>by
  simp only[pY,oz]at h
  simpa using⟨h.1,h.2.1⟩
 |e::es,arr,off,sz,i+1,h,hi=>by
  simp only[pY,oz]at h
  obtain⟨h1,h2⟩:=U6 h.2.2 (fW (by simpa using hi))
  exact⟨by simpa using h1,by rw[show off+(i+1)*sz=off+sz+i*sz by rw[Nat.succ_mul];omega];simpa using h2⟩
theorem Za{c:Ctx}{w:World}:∀{cs:List D} {arr:Array Value} {off j:Nat},kU c w cs arr off->j<cs.length->∃v,arr[off+j]?=some v/\cz c w (cs.getD j .dead) v
 |d::cs,arr,off,0,h,_=>by
  simp only[kU]at h
  simpa using h.1
 |d::cs,arr,off,j+1,h,hj=>by
  simp only[kU]at h
  obtain⟨v,hv,hp⟩:=Za h.2 (fW (by simpa using hj))
  exact⟨v,by rw[show off+(j+1)=off+1+j by omega];exact hv,by simpa using hp⟩
theorem EL{c:Ctx}{w:World}:∀{ds:List D} {vs:List Value},(jq c w ds vs↔ds.length=vs.length/\∀j v,vs[j]?=some v->cz c w (ds.getD j .dead) v)
 |[],[]=>by simp[jq]
 |[],v::vs=>by simp[jq]
 |d::ds,[]=>by simp[jq]
 |d ::ds,v::vs=>by
  simp only[jq,EL (ds:=ds) (vs:=vs),dI,Nat.add_right_cancel_iff]
  constructor
  ·rintro⟨h1,h2,h3⟩
   refine⟨h2,λj u hu=>?_⟩
   cases j with
   |zero=>simp at hu;subst hu;simpa using h1
   |succ j=>simpa using h3 j u (by simpa using hu)
  ·rintro⟨h1,h2⟩
   exact⟨by simpa using h2 0 v (by simp),h1,λj u hu=>by simpa using h2 (j+1) u (by simpa using hu)⟩
def ki(pl:Bool)(c:Ctx)(w:World)(d:D)(v:Value):Prop:=match pl with|true=>ga c.I w d v|false=>cz c w d v
theorem Zhr{ty:tO}{d:D}(h:u6 pl ty d K):∃d',K d'/\∀c w v,ki pl c w d v->cz c w d' v:=by
 cases ty with
 |int k=>
  simp only[u6,db]at h
  refine⟨_,h.2,λc w v hx=>?_⟩
  cases d<;>simp[D.isInt]at h
  obtain⟨rfl,_⟩:=h
  cases pl<;>simpa[ki,sK,r7,Q6,sL,Q4,sM,tN,uq,ur,uv,uw,uy,uz,uA,uB,uD,cz,D.toInt]using hx
 |bool=>
  simp only[u6,db]at h
  refine⟨_,h.2,λc w v hx=>?_⟩
  cases d<;>simp[D.isBool]at h
  cases pl<;>simpa[ki,sK,r7,Q6,sL,Q4,sM,tN,uq,ur,uv,uw,uy,uz,uA,uB,uD,cz,D.toBool]using hx
 |str=>
  simp only[u6,db]at h
  refine⟨_,h.2,λc w v hx=>?_⟩
  cases d<;>simp[D.isStr]at h
  cases pl<;>simpa[ki,sK,r7,Q6,sL,Q4,sM,tN,uq,ur,uv,uw,uy,uz,uA,uB,uD,cz,D.toStr]using hx
 |sl n=>
  cases pl with
  |true=>
   simp only[u6,db]at h
   refine⟨_,h.2,λc w v hx=>?_⟩
   cases d<;>(try(simp[D.Gc]at h;done))
   case dx=>exact⟨none,0,Q4.1 hx,Nat.zero_le _,.inl rfl⟩
   case emp=>obtain⟨a,ha⟩:=sM.1 hx;exact⟨a,0,ha,Nat.zero_le _,.inl rfl⟩
   simp only[D.Gc]at h
   have hh:=bE h.1
   subst hh
   simp only[ki,sK,r7,Q6,sL,Q4,sM,tN,uq,ur,uv,uw,uy,uz,uA,uB,uD]at hx
   simp only[cz,D.toEs]
   obtain⟨a,cap,hv,hc,iq⟩:=hx
   refine⟨a,cap,hv,hc,?_⟩
   rcases iq with iq|⟨b,off,arr,ty,fz,ha,hI,hh,hE⟩
   ·exact .inl iq
   ·exact .inr ⟨b,off,arr,ty,fz,ha,hI,by simp,hh,Tm.1 hE⟩
  |false=>
   simp only[u6,db,D.cu]at h
   exact⟨_,h.2,λc w v hx=>hx⟩
 |other=>
  cases pl with
  |false=>
   simp only[u6,db,D.cu]at h
   exact⟨_,h.2,λc w v hx=>hx⟩
  |true=>
   simp only[u6]at h
   cases d<;>simp only at h
   case iO=>exact⟨_,h,λc w v hx=>sL.1 hx⟩
theorem Za0{pl:Bool}{e:List D}:∀{dh:List tO} {off:Nat} {K:List D->Prop},J4 pl e dh off K->
 ∃ds,K ds/\ds.length=dh.length/\∀j,j<dh.length->∀c w v,ki pl c w (e.getD (off+j) .dead) v->cz c w (ds.getD j .dead) v
 |[],off,K,h=>⟨[],h,rfl,λj hj=>by simp at hj⟩
 |t::ts,off,K,h=>by
  simp only[J4]at h
  obtain⟨d,hd,h1⟩:=Zhr h
  obtain⟨ds,EM,hl,h2⟩:=Za0 hd
  refine⟨d::ds,EM,by simp[hl],λj hj c w v hx=>?_⟩
  cases j with
  |zero=>simpa using h1 c w v (by simpa using hx)
  |succ j=>simpa using h2 j (by simpa using hj) c w v (by rw[show off+1+j=off+(j+1) by omega];exact hx)
theorem Ea(h:Bk P t=some ti):∃i,P.info? t=some i/\i.size=ti.size/\i.bytes=ti.bytes/\ti.tj.length=ti.size/\ti.kind=HL P t/\
 ti.zero=(i.zero.bind λz=>BK z.cells.toList)/\ti.eq=(!(P.eqGuardType P.depth t)&&rQ P 8 t)/\ti.tj=mq P 8 t/\∃d,P.underlying t=some d:=by
 unfold Bk at h
 cases hi:P.info? t with
 |none=>simp[hi]at h
 |some i=>
  simp only[hi]at h
  split at h
  ·rename_i hl
   simp only[Option.some.injEq]at h
   subst h
   exact⟨i,rfl,rfl,rfl,hl.1,rfl,rfl,rfl,rfl,Option.isSome_iff_exists.1 hl.2⟩
  ·cases h
def QO:TypeDesc->Bool|.struct _=>true|.array _ _=>true|_=>false
theorem MR(hd:P.underlying t=some d):(HL P t).isAgg=QO d:=by
 unfold HL
 rw[hd]
 cases d<;>rfl
theorem Z5c(hd:P.underlying t=some d)(w:World):(isAgg t).run P w=.ok (HL P t).isAgg w:=by
 rw[MR hd]
 unfold isAgg
 rw[Sem.run_bind,run_underlying hd w]
 cases d<;>rfl
def Bm(arr:Array Value)(o n:Nat):List Value:=(List.range n).map λj=>(arr[o+j]?).getD undef
theorem F4(b o j:Nat):(⟨b,o,none⟩:Addr).add j=⟨b,o+j,none⟩:=by
 unfold Addr.add;split<;>simp_all
theorem Qko(ht:Bk P t=some ti){b o:Nat}{arr:Array Value}{ty:TypeId}{fz:Nat×Nat}(hb:w.heap[b]?=some (.cells arr ty fz))
 (T8:∀j,j<ti.size->∃v,arr[o+j]?=some v) (h1:ti.kind.isAgg=true\/ti.size=1):
 (loadVar t ⟨b,o,none⟩).run P w=.ok (if ti.kind.isAgg then .agg (Bm arr o ti.size).toArray else(arr[o]?).getD undef) w:=by
 obtain⟨i,hi,hs,_,_,hk,_,_,_,d,hd⟩:=Ea ht
 have mI:∀j,w.cell? ⟨b,o+j,none⟩=arr[o+j]? :=λj=>by simp[World.cell?,hb]
 have hl:(loadCells ⟨b,o,none⟩ ti.size).run P w=.ok (Bm arr o ti.size).toArray w:=
  run_loadCells w _ _ _ λj hj=>by
   rw[F4,mI]
   obtain⟨v,hv⟩:=T8 j hj
   simp[hv]
 unfold loadVar
 rw[Sem.run_bind,Z5c hd,Result.andThen_ok,<-hk]
 cases hg:ti.kind.isAgg with
 |true=>
  simp only[if_true,Sem.run_bind,sizeOf,typeInfo,run_program,Result.andThen_ok,hi,Sem.run_pure,hs,hl]
 |false=>
  have fy:ti.size=1:=by simpa[hg]using h1
  obtain⟨v,hv⟩:=T8 0 (by omega)
  have MS:arr[o]?=some v:=by simpa using hv
  have hc:w.cell? ⟨b,o,none⟩=some v:=by simpa[MS]using mI 0
  simp[hc,MS]
theorem Zgp{e:List D}(hl:ti.tj.length=ti.size)(h:Qi pl ti e off K):
 ∃ val,K val/\(ti.kind.isAgg=true\/ti.size=1)/\∀c w arr o,(∀j,j<ti.size->∃v,arr[o+j]?=some v/\ki pl c w (e.getD (off+j) .dead) v)->
  Rep c w val (if ti.kind.isAgg then .agg (Bm arr o ti.size).toArray else(arr[o]?).getD undef):=by
 unfold Qi at h
 cases hg:ti.kind.isAgg with
 |true=>
  simp only[hg]at h
  obtain⟨ds,hK,hlen,hr⟩:=Za0 h
  refine⟨_,hK,.inl rfl,λc w arr o hx=>?_⟩
  simp only[if_true]
  refine⟨_,rfl,EL.2 ⟨by simp[Bm,hlen,hl],λj v hv=>?_⟩⟩
  have hj:j<ti.size:=by
   have:=(List.getElem?_eq_some_iff.1 hv).1
   simpa[Bm]using this
  obtain⟨u,hu,uL⟩:=hx j hj
  have:u=v:=by simpa[Bm,hj,hu]using hv
  subst this
  exact hr j (by omega) c w u uL
 |false=>
  simp only[hg]at h
  match hc:ti.tj with
  |[y]=>
   simp only[hc]at h
   obtain⟨d,hK,hr⟩:=Zhr h
   have fy:ti.size=1:=by rw[<-hl,hc];rfl
   refine⟨d,hK,.inr fy,λc w arr o hx=>?_⟩
   obtain⟨u,hu,uL⟩:=hx 0 (by omega)
   have U7:arr[o]?=some u:=by simpa using hu
   simp only[aN,if_false,U7,Option.getD_some]
   have:=hr c w u (by simpa using uL)
   cases d<;>first|exact this|trivial|exact this.elim
  |[]=>simp only[hc]at h
  |_::_::_=>simp only[hc]at h
def mV(c:Ctx)(R:Rows):Prop:=∀r row ao,c.R r=some row->R.getD r none=some ao->row=ao
theorem AK(w:World)(o:Obj)(b:Nat)(h:b<w.heap.size):(w.alloc o).heap[b]?=w.heap[b]? :=by
 show(w.heap.push o)[b]?=w.heap[b]?
 rw[Array.getElem?_push,if_neg (Nat.ne_of_lt h)]
theorem U8(w:World)(o:Obj):(w.alloc o).heap[w.heap.size]?=some o:=by
 show(w.heap.push o)[w.heap.size]?=some o
 simp
def Ctx.add(c:Ctx)(k:Nat)(row:Row)(b:Nat):Ctx:={c with R:=λr=>if r=k then some row else c.R r,ρ:=λr=>if r=k then b else c.ρ r,V:=λr=>r≠k/\c.V r}
theorem Ctx.jf(c:Ctx)(k:Nat)(row:Row)(b:Nat):(c.add k row b).R k=some row/\(c.add k row b).ρ k=b:=by simp[Ctx.add]
theorem jn.alloc{c:Ctx}(hm:Mem c w){k:Nat}(hk:c.R k=none)(row:Row)(o:Obj):jn c w (c.add k row w.heap.size) (w.alloc o):=by
 refine⟨rfl,aO _,λb hb=>⟨hb,AK w o b (hm.fu b hb).1⟩,λr x hr=>?_⟩
 have gv:r≠k:=λe=>by rw[e,hk]at hr;cases hr
 refine⟨x,by simp[Ctx.add,gv,hr],rfl,rfl,rfl,rfl,by simp[Ctx.add,gv],by simp[Ctx.add,gv],λnv arr ha=>⟨arr,?_,rfl⟩⟩
 rw[AK w o _ (hm.lt hr nv)];exact ha
theorem Fr.alloc(X:ag)(w:World)(o:Obj):Fr X w (w.alloc o):=
 ⟨rfl,rfl,rfl,by show w.heap.size<=(w.heap.push o).size;simp,λb hb _=>AK w o b hb⟩
theorem um{c c':Ctx}(h:jn c w c' w')(QP:c'.ρ r=c.ρ r)(hV:c'.V r↔c.V r)(hh:¬c.V r->w'.heap[c.ρ r]?=w.heap[c.ρ r]?)(hr:Fl c w r row):Fl c' w' r row:=by
 rcases hr with⟨h0,hr⟩|⟨h0,hr⟩
 ·exact .inl ⟨hV.2 h0,hr⟩
 refine .inr ⟨λe=>h0 (hV.1 e),?_⟩
 obtain⟨arr,ha,hs,hx⟩:=hr
 refine⟨arr,by rw[QP,hh h0];exact ha,hs,?_⟩
 split
 ·rename_i hb
  simp only[hb,if_true]at hx
  obtain⟨e,h1,h2,h3,h4⟩:=hx
  exact⟨e,h1,h2,h3,NM h h4⟩
 ·rename_i hb
  simp only[hb,if_false,aN]at hx
  exact ou h.I _ _ _ _ hx
theorem Mem.alloc{c:Ctx}(hm:Mem c w){k:Nat}(hk:c.R k=none)(row:Row)(arr:Array Value)(hs:0<row.sz)
 (hx:if row.box then∃e,row.es=.gen [e]/\e.length=row.sz/\arr.size=row.sz/\kU c w e arr 0 else iK c.I w row.es.l arr 0 row.sz):
 Mem (c.add k row w.heap.size) (w.alloc (.cells arr row.ty)):=by
 have hg:=jn.alloc hm hk row (.cells arr row.ty)
 refine⟨λr x hr=>?_,λr s x y hr jl J5 MT he=>?_,λb hb=>?_,bH hm.top (by show w.heap.size<=(w.heap.push _).size;simp),hm.kY.mono hg.I⟩
 ·by_cases e:r=k
  ·subst e
   simp only[Ctx.add,if_true,Option.some.injEq]at hr
   subst hr
   refine .inr ⟨by simp[Ctx.add],arr,by simp only[Ctx.add,if_true];exact U8 w _,hs,?_⟩
   split
   ·rename_i hb
    simp only[hb,if_true]at hx
    obtain⟨e,h1,h2,h3,h4⟩:=hx
    exact⟨e,h1,h2,h3,NM hg h4⟩
   ·rename_i hb
    simp only[hb,if_false,aN]at hx
    exact ou hg.I _ _ _ _ hx
  ·have nF:c.R r=some x:=by simpa[Ctx.add,e]using hr
   exact um hg (by simp[Ctx.add,e]) (by simp[Ctx.add,e]) (λnv=>AK w _ _ (hm.lt nF nv)) (hm.row r x nF)
 ·by_cases e1:r=k<;>by_cases e2:s=k
  ·exact e1.trans e2.symm
  ·exfalso
   have h2:c.R s=some y:=by simpa[Ctx.add,e2]using jl
   have:=hm.lt h2 (by simpa[Ctx.add,e2]using MT)
   simp[Ctx.add,e1,e2]at he
   omega
  ·exfalso
   have h1:c.R r=some x:=by simpa[Ctx.add,e1]using hr
   have:=hm.lt h1 (by simpa[Ctx.add,e1]using J5)
   simp[Ctx.add,e1,e2]at he
   omega
  ·exact hm.inj r s x y (by simpa[Ctx.add,e1]using hr) (by simpa[Ctx.add,e2]using jl) (by simpa[Ctx.add,e1]using J5) (by simpa[Ctx.add,e2]using MT) (by simpa[Ctx.add,e1,e2]using he)
 ·have tQ:c.I b:=hb
  obtain⟨h1,h2⟩:=hm.fu b tQ
  refine⟨by show b<(w.heap.push _).size;simp;omega,λr x hr hv=>?_⟩
  by_cases e:r=k
  ·simp only[Ctx.add,e,if_true];omega
  ·simpa[Ctx.add,e]using h2 r x (by simpa[Ctx.add,e]using hr) (by simpa[Ctx.add,e]using hv)
theorem Af.get{c:Ctx}(h:Af c w r row){i off n:Nat}(hi:i<row.es.l.length)(hn:off+n<=row.sz):
 ∃arr,w.heap[c.ρ r]?=some (.cells arr row.ty (0,0))/\∀j,j<n->∃v,arr[i*row.sz+off+j]?=some v/\ki (!row.box) c w ((row.es.l.getD i []).getD (off+j) .dead) v:=by
 obtain⟨arr,ha,hs,hx⟩:=h
 refine⟨arr,ha,λj hj=>?_⟩
 cases hb:row.box with
 |true=>
  simp only[hb,if_true]at hx
  obtain⟨e,h1,h2,h3,h4⟩:=hx
  have r6:i=0:=by rw[h1]at hi;simpa[ak.l]using hi
  subst r6
  obtain⟨v,hv,hp⟩:=Za h4 (j:=off+j) (by omega)
  exact⟨v,by simpa using hv,by simpa[ki,h1,ak.l]using hp⟩
 |false=>
  simp only[hb,if_false,aN]at hx
  obtain⟨h1,h2⟩:=U6 hx hi
  obtain⟨v,hv,hp⟩:=U5 h2 (j:=off+j) (by omega)
  exact⟨v,by simpa[fX]using hv,by simpa[ki]using hp⟩
theorem U9:∀{e:List D} {len off n:Nat},n<len->(ints e off len).getD n 0=(e.getD (off+n) .dead).toInt
 |e,len+1,off,0,_=>by simp[ints]
 |e,len+1,off,n+1,h=>by
  have:=U9 (e:=e) (len:=len) (off:=off+1) (n:=n) (by omega)
  rw[show off+1+n=off+(n+1) by omega]at this
  simpa[ints]using this
theorem Va:∀{e:List D} {len off n:Nat},n<len->(bw e off len).getD n false=(e.getD (off+n) .dead).toBool
 |e,len+1,off,0,_=>by simp[bw]
 |e,len+1,off,n+1,h=>by
  have:=Va (e:=e) (len:=len) (off:=off+1) (n:=n) (by omega)
  rw[show off+1+n=off+(n+1) by omega]at this
  simpa[bw]using this
theorem Vb{k:IntKind}:∀{e:List D} {len off n:Nat},Dl k e off len=true->n<len->(e.getD (off+n) .dead).isInt k=true
 |e,len+1,off,0,h,_=>by simp only[Dl,aE]at h;exact h.1
 |e,len+1,off,n+1,h,hn=>by
  simp only[Dl,aE]at h
  have:=Vb h.2 (n:=n) (by omega)
  rwa [show off+1+n=off+(n+1) by omega]at this
theorem Vc:∀{e:List D} {len off n:Nat},HM e off len=true->n<len->(e.getD (off+n) .dead).isBool=true
 |e,len+1,off,0,h,_=>by simp only[HM,aE]at h;exact h.1
 |e,len+1,off,n+1,h,hn=>by
  simp only[HM,aE]at h
  have:=Vc h.2 (n:=n) (by omega)
  rwa [show off+1+n=off+(n+1) by omega]at this
theorem D.kj{d:D}(h:d.isInt k=true):d=.int k d.toInt:=by
 cases d<;>simp[D.isInt]at h
 subst h;rfl
theorem D.ko{d:D}(h:d.isBool=true):d=.bool d.toBool:=by
 cases d<;>simp[D.isBool]at h
 rfl
theorem ki.int{c:Ctx}{n:Int}(h:ki pl c w (.int k n) v):v=.int k n:=by
 cases pl<;>simpa[ki,sK,r7,Q6,sL,Q4,sM,tN,uq,ur,uv,uw,uy,uz,uA,uB,uD,cz]using h
theorem ki.bool{c:Ctx}{b:Bool}(h:ki pl c w (.bool b) v):v=.bool b:=by
 cases pl<;>simpa[ki,sK,r7,Q6,sL,Q4,sM,tN,uq,ur,uv,uw,uy,uz,uA,uB,uD,cz]using h
theorem Vd(ht:Bk P t=some ti)(hk:(ti.kind.isAgg||match ti.kind with|.other=>true|_=>false)=false):ti.size=1:=by
 obtain⟨_,_,_,_,hl,om,_,_,hc,_⟩:=Ea ht
 rw[<-hl,hc]
 rw[om]at hk
 unfold HL at hk
 unfold mq
 split at hk<;>first|rfl|(simp[TK.isAgg]at hk)
theorem Ve{a:Addr}:(Instr.loadAt t (.pointer (some a))).run P w=(loadVar t a).run P w:=by
 simp[Instr.loadAt,Instr.sureAddr]
theorem Zi(hT:jD P T){x:D}{K:D->Rows->Prop}(h:Ah T t x R K):
 ∃val,K val R/\∀c w v,Mem c w->mV c R->Rep c w x v->∃u,(Instr.loadAt t v).run P w=.ok u w/\Rep c w val u:=by
 unfold Ah at h
 cases ht:T.get t with
 |none=>simp only[ht]at h
 |some ti=>
  simp only[ht]at h
  have MU:=hT.get ht
  obtain⟨i0,r6,Ff,_,Bz,AD,_⟩:=Ea MU
  cases x<;>simp only at h
  case ptr r i off=>
   cases hR:R.getD r none with
   |none=>simp only[hR]at h
   |some row=>
    obtain⟨box,ty,sz,es⟩:=row
    simp only[hR,db]at h
    obtain⟨hle,h⟩:=h
    have hle:=lE hle
    obtain⟨val,hK,uK,hr⟩:=Zgp Bz h
    refine⟨val,hK,λc w v hm hA hv=>?_⟩
    obtain⟨row,h1,hV,h2,h3⟩:=hv
    have cq:=hA r row _ h1 hR
    subst cq
    obtain⟨arr,ha,hx⟩:=(hm.real h1 hV).get h2 hle
    simp only[ak.nz es (show i<es.len by simpa using h2)]at hx
    subst h3
    refine⟨_,Ve.trans (Qko MU ha (λj hj=>by obtain⟨v,hv,_⟩:=hx j hj;exact⟨v,hv⟩) uK),hr c w arr _ hx⟩
  case pa r i off len k n=>
   cases hR:R.getD r none with
   |none=>simp only[hR]at h
   |some row=>
    obtain⟨box,ty,sz,es⟩:=row
    simp only[hR,db]at h
    obtain⟨hle,h⟩:=h
    have hle:=lE hle
    have one:(ti.kind.isAgg=false)->ti.size=1->∀c w v,Mem c w->mV c R->Rep c w (.pa r i off len k n) v->∃u,(Instr.loadAt t v).run P w=.ok u w/\ki (!box) c w ((es.get i).getD (off+n) .dead) u/\n<len:=by
     intro Dm fy c w v hm hA hv
     obtain⟨hn,row,h1,hV,h2,h3⟩:=hv
     have cq:=hA r row _ h1 hR
     subst cq
     obtain⟨arr,ha,hx⟩:=(hm.real h1 hV).get h2 hle
     simp only[ak.nz es (show i<es.len by simpa using h2)]at hx
     subst h3
     obtain⟨u,hu,uL⟩:=hx n hn
     have U7:arr[i*sz+(off+n)]?=some u:=by rw[<-fX];exact hu
     refine⟨u,?_,uL,hn⟩
     rw[Ve,Qko MU ha (λj hj=>⟨u,by rw[show j=0 by omega];exact U7⟩) (.inr fy),Dm]
     simp[U7]
    split at h
    ·rename_i j k' hk
     simp only[aE,decide_eq_true_eq]at h
     obtain⟨⟨rfl,iU⟩,h⟩:=h
     have fy:ti.size=1:=Vd MU (by rw[hk];simp[TK.isAgg])
     refine⟨_,h,λc w v hm hA hv=>?_⟩
     obtain⟨u,hu,uL,hn⟩:=one (by rw[hk];rfl) fy c w v hm hA hv
     rw[D.kj (Vb iU hn)]at uL
     have:=ki.int uL
     subst this
     exact⟨_,hu,by simp only[Rep,VRep,cz];rw[U9 hn]⟩
    ·rename_i hk
     obtain⟨iU,h⟩:=h
     have fy:ti.size=1:=Vd MU (by rw[hk];simp[TK.isAgg])
     refine⟨_,h,λc w v hm hA hv=>?_⟩
     obtain⟨u,hu,uL,hn⟩:=one (by rw[hk];rfl) fy c w v hm hA hv
     rw[D.ko (Vc iU hn)]at uL
     have:=ki.bool uL
     subst this
     exact⟨_,hu,by simp only[Rep,VRep,cz];rw[Va hn]⟩
    ·exact h.elim
  case iv sz es i off=>
   simp only[db]at h
   obtain⟨hle,h⟩:=h
   have hle:=lE hle
   obtain⟨val,hK,uK,hr⟩:=Zgp Bz h
   refine⟨val,hK,λc w v hm hA hv=>?_⟩
   obtain⟨b,o,arr,ty,fz,h3,hI,hi,ha,hE⟩:=hv
   subst h3
   obtain⟨h1,h2⟩:=U6 hE hi
   rw[ak.nz es (show i<es.len by simpa using hi)]at h1 h2
   have hx:∀j,j<ti.size->∃v,arr[o+i*sz+off+j]?=some v/\ki true c w ((es.get i).getD (off+j) .dead) v:=λj hj=>by
    obtain⟨v,hv,hp⟩:=U5 h2 (j:=off+j) (by omega)
    exact⟨v,by rw[<-hv];congr 1;omega,hp⟩
   exact⟨_,Ve.trans (Qko MU ha (λj hj=>by obtain⟨v,hv,_⟩:=hx j hj;exact⟨v,hv⟩) uK),hr c w arr _ hx⟩
def Ctx.fu(c:Ctx)(b:Nat):Ctx:={c with I:=λx=>c.I x\/x=b,top:=max c.top (b+1)}
theorem Vf{c:Ctx}(hm:Mem c w)(o:Obj):jn c w (c.fu w.heap.size) (w.alloc o):=
 ⟨rfl,Nat.le_max_left _ _,λb hb=>⟨.inl hb,AK w o b (hm.fu b hb).1⟩,λr x hr=>⟨x,hr,rfl,rfl,rfl,rfl,rfl,Iff.rfl,λnv arr ha=>⟨arr,by rw[AK w o _ (hm.lt hr nv)];exact ha,rfl⟩⟩⟩
theorem zaw{c:Ctx}(hm:Mem c w)(o:Obj):Mem (c.fu w.heap.size) (w.alloc o):=by
 refine⟨λr x hr=>um (Vf hm o) rfl Iff.rfl (λnv=>AK w _ _ (hm.lt hr nv)) (hm.row r x hr),hm.inj,λb hb=>?_,?_,hm.kY.mono (Vf hm o).I⟩
 all_goals have fy:(w.alloc o).heap.size=w.heap.size+1:=by show(w.heap.push o).size=_;simp
 rotate_left
 ·have:=hm.top;rw[fy];exact Nat.max_le.2 ⟨by omega,aO _⟩
 rcases hb with hb|hb
 ·exact⟨by have:=(hm.fu b hb).1;omega,(hm.fu b hb).2⟩
 ·subst hb
  exact⟨by omega,λr x hr v=>by have:=hm.lt hr v;show c.ρ r≠w.heap.size;omega⟩

import Derived.Test.YthjfindbamdacaaGreatDoorAuditFewerVc
open Nat renaming le_refl->aO,le_trans->bH,beq->bT,lt_of_succ_lt_succ->fY,add_assoc->fZ
open List renaming map_cons->fT,length_cons->dI
open Bool renaming false_eq_true->aN
set_option linter.all false
namespace Go.GD
open Go
mutual
theorem Zol{I I':ag}{w w':World}(h:∀b arr ty fz,I b->w.heap[b]?=some (.cells arr ty fz)->I' b/\w'.heap[b]?=some (.cells arr ty fz)):∀(d:D) (v:Value),gb I w d v->gb I' w' d v
 |_,_,.bool b=>.bool b
 |_,_,.int k n=>.int k n
 |_,_,.str s=>.str s
 |_,_,.iN=>.iN
 |_,_,.dx=>.dx
 |_,_,.emp a=>.emp a
 |_,_,.US sz es fr a cap h0=>.US sz es fr a cap h0
 |_,_,.UT sz es fr cap hc b off arr ty fz hI hh hE=>.UT sz es fr cap hc b off arr ty fz (h b arr ty fz hI hh).1 (h b arr ty fz hI hh).2 (MH h es.l arr off sz hE)
theorem ZN{I I':ag}{w w':World}(h:∀b arr ty fz,I b->w.heap[b]?=some (.cells arr ty fz)->I' b/\w'.heap[b]?=some (.cells arr ty fz)):∀(cs:List D) (arr:Array Value) (off:Nat),nX I w cs arr off->nX I' w' cs arr off
 |_,_,_,.nil arr off=>.nil arr off
 |_,_,_,.cons c cs arr off v hv hp hr=>.cons c cs arr off v hv (Zol h c v hp) (ZN h cs arr (off+1) hr)
theorem MH{I I':ag}{w w':World}(h:∀b arr ty fz,I b->w.heap[b]?=some (.cells arr ty fz)->I' b/\w'.heap[b]?=some (.cells arr ty fz)):∀(es:List (List D)) (arr:Array Value) (off sz:Nat),iL I w es arr off sz->iL I' w' es arr off sz
 |_,_,_,_,.nil arr off sz=>.nil arr off sz
 |_,_,_,_,.cons e es arr off sz hl hc hr=>.cons e es arr off sz hl (ZN h e arr off hc) (MH h es arr (off+sz) sz hr)
end
theorem w9{I I':ag}{w w':World}(h:∀b,I b->I' b/\w'.heap[b]?=w.heap[b]?)(b:Nat)(arr:Array Value)(ty:TypeId)(fz:Nat×Nat)(hI:I b)(hh:w.heap[b]?=some (.cells arr ty fz)):I' b/\w'.heap[b]?=some (.cells arr ty fz):=⟨(h b hI).1,(h b hI).2.trans hh⟩
theorem Zjh{I I':ag}{w w':World}(h:∀b,I b->I' b/\w'.heap[b]?=w.heap[b]?)(cs:List D)(arr:Array Value)(off:Nat)(hp:nX I w cs arr off):nX I' w' cs arr off:=ZN (w9 h) cs arr off hp
theorem ot{I I':ag}{w w':World}(h:∀b,I b->I' b/\w'.heap[b]?=w.heap[b]?)(es:List (List D))(arr:Array Value)(off sz:Nat)(hp:iL I w es arr off sz):iL I' w' es arr off sz:=MH (w9 h) es arr off sz hp
structure jn(c:Ctx)(w:World)(c':Ctx)(w':World):Prop where
 base:c'.base=c.base
 top:c.top<=c'.top
 I:∀b,c.I b->c'.I b/\w'.heap[b]?=w.heap[b]?
 R :∀r row,c.R r=some row->∃ak,c'.R r=some ak/\ak.box=row.box/\ak.ty=row.ty/\ak.sz=row.sz/\ak.es.l.length=row.es.l.length/\c'.ρ r=c.ρ r/\(c'.V r↔c.V r)/\
  (¬c.V r->∀arr,w.heap[c.ρ r]?=some (.cells arr row.ty (0,0))->∃iP,w'.heap[c.ρ r]?=some (.cells iP row.ty (0,0))/\iP.size=arr.size)
structure JW(c:Ctx)(w:World)(c':Ctx)(w':World):Prop where
 base:c'.base=c.base
 top:c.top<=c'.top
 I:∀b arr ty fz,c.I b->w.heap[b]?=some (.cells arr ty fz)->c'.I b/\w'.heap[b]?=some (.cells arr ty fz)
 R :∀r row,c.R r=some row->∃ak,c'.R r=some ak/\ak.box=row.box/\ak.ty=row.ty/\ak.sz=row.sz/\ak.es.l.length=row.es.l.length/\c'.ρ r=c.ρ r/\(c'.V r↔c.V r)/\
  (¬c.V r->∀arr,w.heap[c.ρ r]?=some (.cells arr row.ty (0,0))->∃iP,w'.heap[c.ρ r]?=some (.cells iP row.ty (0,0))/\iP.size=arr.size)
theorem jn.to0{c c':Ctx}{w w':World}(h:jn c w c' w'):JW c w c' w':=⟨h.base,h.top,w9 h.I,h.R⟩
theorem MI{c c':Ctx}{w w':World}(h:∀b,c.I b->c'.I b/\w'.heap[b]?=w.heap[b]?){f:Nat}{us:List Value}{v:Value}(hf:sf c w f us v):sf c' w' f us v:=by
 rcases hf with hf|⟨h1,l,rec,h2,h3,h4,h5⟩
 ·exact .inl hf
 ·exact .inr ⟨h1,l,rec,h2,(h l h3).1,(h l h3).2.trans h4,h5⟩
theorem jn.refl(c:Ctx)(w:World):jn c w c w:=
 ⟨rfl,aO _,λ_ h=>⟨h,rfl⟩,λ_ row h=>⟨row,h,rfl,rfl,rfl,rfl,rfl,Iff.rfl,λ_ arr h=>⟨arr,h,rfl⟩⟩⟩
theorem jn.trans{c c' S5:Ctx}{w w' FZ:World}(h:jn c w c' w')(g:jn c' w' S5 FZ):jn c w S5 FZ:=by
 refine⟨g.base.trans h.base,bH h.top g.top,λb hb=>⟨(g.I b (h.I b hb).1).1,(g.I b (h.I b hb).1).2.trans (h.I b hb).2⟩,λr row hr=>?_⟩
 obtain⟨ak,h1,h2,h3,h4,h5,h6,hV,h7⟩:=h.R r row hr
 obtain⟨oE,g1,g2,g3,g4,g5,g6,gV,g7⟩:=g.R r ak h1
 refine⟨oE,g1,g2.trans h2,g3.trans h3,g4.trans h4,g5.trans h5,g6.trans h6,gV.trans hV,λnv arr ha=>?_⟩
 obtain⟨iP,jE,hs⟩:=h7 nv arr ha
 obtain⟨QD,QE,jl⟩:=g7 (λe=>nv (hV.1 e)) iP (by rw[h6,h3];exact jE)
 exact⟨QD,by rw[h6,h3]at QE;exact QE,jl.trans hs⟩
theorem ZO{c c':Ctx}{w w':World}(h:JW c w c' w'):∀{d:D} {v:Value},(∀f cs,d≠.gn f cs)->cv c w d v->cv c' w' d v:=by
 intro d v gr hd
 cases d with
 |sl sz es fr=>
  simp only[cv]at hd⊢
  obtain⟨a,cap,hv,hc,ij⟩:=hd
  refine⟨a,cap,hv,hc,?_⟩
  rcases ij with ij|⟨b,off,arr,ty,fz,ha,hI,hf,hh,hE⟩
  ·exact .inl ij
  ·exact .inr ⟨b,off,arr,ty,fz,ha,(h.I b arr ty fz hI hh).1,λe=>by rw[h.base];exact hf e,(h.I b arr ty fz hI hh).2,MH h.I _ arr off sz hE⟩
 |all r=>
  simp only[cv]at hd⊢
  obtain⟨row,hr,hb,hd⟩:=hd
  obtain⟨ak,g1,g2,g3,g4,g5,g6,gV,g7⟩:=h.R r row hr
  refine⟨ak,g1,g2.trans hb,?_⟩
  rcases hd with⟨hV,hv⟩|⟨hV,cap,arr,hv,h1,h2,h3,h4⟩
  ·obtain⟨a,hv,ho⟩:=hv
   exact .inl ⟨gV.2 hV,a,hv,ho.mono h.top⟩
  ·obtain⟨iP,jE,hs⟩:=g7 hV arr h3
   exact .inr ⟨λe=>hV (gV.1 e),cap,iP,by rw[hv,g5,g6],by rw[g5];exact h1,h2,by rw[g6,g3];exact jE,by rw[g4,hs];exact h4⟩
 |emp=>
  obtain⟨a,hv,ho⟩:=hd
  exact⟨a,hv,ho.mono h.top⟩
 |own r o n=>
  simp only[cv]at hd⊢
  obtain⟨row,hr,hb,ho,hd⟩:=hd
  obtain⟨ak,g1,g2,g3,g4,g5,g6,gV,g7⟩:=h.R r row hr
  refine⟨ak,g1,g2.trans hb,by rw[g5];exact ho,?_⟩
  rcases hd with⟨h0,a,hv,jg⟩|⟨hV,cap,arr,h1,h2,h3,h4,h5⟩
  ·exact .inl ⟨h0,a,hv,jg.mono h.top gV g6⟩
  ·obtain⟨iP,jE,hs⟩:=g7 hV arr h3
   exact .inr ⟨λe=>hV (gV.1 e),cap,iP,h1,h2,by rw[g6,g3];exact jE,by rw[g4,g6];exact h4,by rw[g4,hs];exact h5⟩
 |ptr r i off=>
  simp only[cv]at hd⊢
  obtain⟨row,hr,hV,hi,hv⟩:=hd
  obtain⟨ak,g1,g2,g3,g4,g5,g6,gV,g7⟩:=h.R r row hr
  exact⟨ak,g1,λe=>hV (gV.1 e),by rw[g5];exact hi,by rw[hv,g6,g4]⟩
 |pa r i off len k n=>
  simp only[cv]at hd⊢
  obtain⟨hn,row,hr,hV,hi,hv⟩:=hd
  obtain⟨ak,g1,g2,g3,g4,g5,g6,gV,g7⟩:=h.R r row hr
  exact⟨hn,ak,g1,λe=>hV (gV.1 e),by rw[g5];exact hi,by rw[hv,g6,g4]⟩
 |iv sz es i off=>
  simp only[cv]at hd⊢
  obtain⟨b,o,arr,ty,fz,hv,hI,hi,hh,hE⟩:=hd
  exact⟨b,o,arr,ty,fz,hv,(h.I b arr ty fz hI hh).1,hi,(h.I b arr ty fz hI hh).2,MH h.I _ arr o sz hE⟩
 |c9 r=>
  rcases hd with hd|⟨row,hr,hV,hi,hv⟩
  ·exact .inl hd
  ·obtain⟨ak,g1,g2,g3,g4,g5,g6,gV,g7⟩:=h.R r row hr
   exact .inr ⟨ak,g1,λe=>hV (gV.1 e),by rw[g5];exact hi,by rw[hv,g6,g4]⟩
 |gn f cs=>exact absurd rfl (gr f cs)
 |_=>exact hd
theorem Z8o{c c':Ctx}{w w':World}(h:jn c w c' w'){d:D}{v:Value}(gr:∀f cs,d≠.gn f cs)(hd:cv c w d v):cv c' w' d v:=ZO h.to0 gr hd
theorem ZP{c c':Ctx}{w w':World}{S:Nat->Prop}{f:Nat->Nat}{bf:Bool}{Fk:Nat->Prop}(g:∀d v,(∀f cs,d≠.gn f cs)->(∀r∈nU d,S r)->cv c w d v->cv c' w' (d.mK f bf) v)(gF:∀k ws v,Fk k->sf c w k ws v->sf c' w' k ws v):
 ∀{cs:List iw} {us:List Value},(∀k ps,iw.fn k ps∈cs->Fk k)->(∀r∈oH cs,S r)->oX c w cs us->oX c' w' (cs.map (iw.ji f bf)) us
 |[],[],_,_,_=>trivial
 |x ::cs,u::us,hF,hS,⟨h1,h2⟩=>by
  refine⟨?_,ZP g gF (λk ps hm=>hF k ps (by simp[hm])) (λr hr=>hS r (by simp[oH,hr])) h2⟩
  have UU:∀r∈Da x,S r:=λr hr=>hS r (by simp[oH,hr])
  cases x with
  |fn k ps=>
   obtain⟨ws,hv,hw⟩:=h1
   refine⟨ws,gF k ws u (hF k ps (by simp)) hv,?_⟩
   have hS2:∀p∈ps,S p.1:=λp hp=>UU _ (by simp only[Da,List.mem_map];exact⟨p,hp,rfl⟩)
   clear hv UU hS h2 hF
   induction ps generalizing ws with
   |nil=>cases ws<;>exact hw
   |cons p ps ih=>
    cases ws with
    |nil=>exact hw.elim
    |cons v ws=>exact⟨g (.ptr p.1 p.2.1 p.2.2) v (λ_ _ e=>by cases e) (λr hr=>by simp[nU]at hr;subst hr;exact hS2 p (by simp)) hw.1,ih ws hw.2 (λq hq=>hS2 q (by simp[hq]))⟩
  |ptr r i off=>exact g (.ptr r i off) u (λ_ _ e=>by cases e) UU h1
  |int k n=>exact h1
  |arr r=>exact g (.all r) u (λ_ _ e=>by cases e) UU h1
  |sl a b fr=>exact g (.sl a b fr) u (λ_ _ e=>by cases e) (λr hr=>by simp[nU]at hr) h1
 |[],_::_,_,_,h=>h.elim
 |_::_,[],_,_,h=>h.elim
theorem zv{d:D}(h:∀f cs,d≠.gn f cs):d.mK (λr=>r) true=d:=by cases d<;>first|(simp[D.mK];done)|exact absurd rfl (h _ _)
theorem ZQ:∀{cs:List iw},cs.map (iw.ji (λr=>r) true)=cs
 |[]=>rfl
 |x::l=>by
  simp only[fT,ZQ (cs:=l)]
  congr 1
  cases x<;>simp[iw.ji]
theorem Z8p{c c':Ctx}{w w':World}{S:Nat->Prop}{Fk:Nat->Prop}(g:∀d v,(∀f cs,d≠.gn f cs)->(∀r∈nU d,S r)->cv c w d v->cv c' w' d v)(gF:∀k ws v,Fk k->sf c w k ws v->sf c' w' k ws v){cs:List iw}{us:List Value}(hF:∀k ps,iw.fn k ps∈cs->Fk k)(hS:∀r∈oH cs,S r)(h:oX c w cs us):oX c' w' cs us:=by
 have:=ZP (f:=λr=>r) (bf:=true) (λd v h1 h2 h3=>by rw[zv h1];exact g d v h1 h2 h3) gF hF hS h
 rwa [ZQ]at this
theorem Y9{c c':Ctx}{w w':World}{S:Nat->Prop}(g:∀d v,(∀f cs,d≠.gn f cs)->(∀r∈nU d,S r)->cv c w d v->cv c' w' d v)(gF:∀b,c.I b->c'.I b/\w'.heap[b]?=w.heap[b]?){cs:List iw}{us:List Value}(hS:∀r∈oH cs,S r)(h:oX c w cs us):oX c' w' cs us:=
 Z8p (Fk:=λ_=>True) g (λ_ _ _ _=>MI gF) (λ_ _ _=>trivial) hS h
theorem NC{c c':Ctx}{w w':World}(h:jn c w c' w'){d:D}{v:Value}(hd:cv c w d v):cv c' w' d v:=by
 by_cases e:∃f cs,d=.gn f cs
 ·obtain⟨f,cs,rfl⟩:=e
  obtain⟨us,hv,hu⟩:=hd
  exact⟨us,MI h.I hv,Y9 (S:=λ_=>True) (λd v h1 _ h2=>Z8o h h1 h2) h.I (λ_ _=>trivial) hu⟩
 ·exact Z8o h (λf cs e'=>e ⟨f,cs,e'⟩) hd
theorem NJ{l:List Nat}(h:sL l=true){k:Nat}(hk:k∈l):k<YB:=lE (List.all_eq_true.1 h k hk)
theorem Zm4:∀{cs:List iw} {k:Nat} {ps:List (Nat×Nat×Nat)},iw.fn k ps∈cs->k∈Bb cs
 |x ::l,k,ps,hm=>by
  rcases List.mem_cons.1 hm with e|e
  ·subst e;simp[Bb]
  ·have:=Zm4 e
   cases x<;>simp[Bb,this]
 |[],_,_,hm=>by simp at hm
section
variable {c c':Ctx} {w w':World} (h:JW c w c' w') {Fk:Nat->Prop} (gF:∀k ws v,Fk k->sf c w k ws v->sf c' w' k ws v)
include h gF
theorem ZR{d:D}{v:Value}(hn:∀k∈Bc d,Fk k)(hd:cv c w d v):cv c' w' d v:=by
 by_cases e:∃f cs,d=.gn f cs
 ·obtain⟨f,cs,rfl⟩:=e
  obtain⟨us,hv,hu⟩:=hd
  exact⟨us,gF _ _ _ (hn f (by simp[Bc])) hv,Z8p (S:=λ_=>True) (Fk:=Fk) (λd v h1 _ h2=>ZO h h1 h2) gF (λk ps hm=>hn k (by simp[Bc,Zm4 hm])) (λ_ _=>trivial) hu⟩
 ·exact ZO h (λf cs e'=>e ⟨f,cs,e'⟩) hd
theorem Za9:∀{ds:List D} {vs:List Value},(∀k∈rJ ds,Fk k)->jr c w ds vs->jr c' w' ds vs
 |[],[],_,_=>trivial
 |_::_,_::_,hn,⟨h1,h2⟩=>⟨ZR h gF (λk hk=>hn k (by simp[rJ,hk])) h1,Za9 (λk hk=>hn k (by simp[rJ,hk])) h2⟩
 |[],_::_,_,h=>h.elim
 |_::_,[],_,h=>h.elim
theorem Zid{d:D}{v:Value}(hn:∀k∈F7 d,Fk k)(hd:VRep c w d v):VRep c' w' d v:=by
 cases d with
 |agg cs=>obtain⟨vs,hv,hr⟩:=hd;exact⟨vs,hv,Za9 h gF hn hr⟩
 |_=>simp only[VRep]at hd⊢;exact ZR h gF hn hd
theorem ZS:∀{ds:List D} {vs:List Value},(∀k∈pL ds,Fk k)->kh c w ds vs->kh c' w' ds vs
 |[],[],_,_=>trivial
 |_::_,_::_,hn,⟨h1,h2⟩=>⟨Zid h gF (λk hk=>hn k (by simp[pL,hk])) h1,ZS (λk hk=>hn k (by simp[pL,hk])) h2⟩
 |[],_::_,_,h=>h.elim
 |_::_,[],_,h=>h.elim
theorem Zmy{d:D}{v:Value}(hn:∀k∈Db d,Fk k)(hd:Rep c w d v):Rep c' w' d v:=by
 cases d with
 |du ds=>obtain⟨vs,hv,hr⟩:=hd;exact⟨vs,hv,ZS h gF hn hr⟩
 |dead=>trivial
 |_=>simp only[Rep]at hd⊢;exact Zid h gF hn hd
theorem Z2s:∀{ds:List D} {arr:Array Value} {off:Nat},(∀k∈rJ ds,Fk k)->kO c w ds arr off->kO c' w' ds arr off
 |[],_,_,_,_=>trivial
 |_::_,_,_,hn,⟨⟨v,hv,h1⟩,h2⟩=>⟨⟨v,hv,ZR h gF (λk hk=>hn k (by simp[rJ,hk])) h1⟩,Z2s (λk hk=>hn k (by simp[rJ,hk])) h2⟩
end
theorem Z9y{c c':Ctx}{w w':World}(h:jn c w c' w'):∀{ds:List D} {vs:List Value},jr c w ds vs->jr c' w' ds vs
 |[],[],_=>trivial
 |_::_,_::_,⟨h1,h2⟩=>⟨NC h h1,Z9y h h2⟩
theorem Zg3{c c':Ctx}{w w':World}(h:jn c w c' w'):∀{d:D} {v:Value},VRep c w d v->VRep c' w' d v:=by
 intro d v hd
 cases d with
 |agg cs=>obtain⟨vs,hv,hr⟩:=hd;exact⟨vs,hv,Z9y h hr⟩
 |_=>simp only[VRep]at hd⊢;exact NC h hd
theorem W5{c c':Ctx}{w w':World}(h:jn c w c' w'):∀{ds:List D} {vs:List Value},kh c w ds vs->kh c' w' ds vs
 |[],[],_=>trivial
 |_::_,_::_,⟨h1,h2⟩=>⟨Zg3 h h1,W5 h h2⟩
theorem Ap{c c':Ctx}{w w':World}(h:jn c w c' w'):∀{d:D} {v:Value},Rep c w d v->Rep c' w' d v:=by
 intro d v hd
 cases d with
 |du ds=>obtain⟨vs,hv,hr⟩:=hd;exact⟨vs,hv,W5 h hr⟩
 |dead=>trivial
 |_=>simp only[Rep]at hd⊢;exact Zg3 h hd
theorem ND{c c':Ctx}{w w':World}(h:jn c w c' w'):∀{ds:List D} {arr:Array Value} {off:Nat},kO c w ds arr off->kO c' w' ds arr off
 |[],_,_,_=>trivial
 |_::_,_,_,⟨⟨v,hv,h1⟩,h2⟩=>⟨⟨v,hv,NC h h1⟩,ND h h2⟩
def tG(I:ag)(w:World):Prop:=∀x∈KF,I x.1/\∃ty fz,w.heap[x.1]?=some (.cells (x.2.2.map λz=>Value.int x.2.1 z).toArray ty fz)
theorem tG.HL{I I':ag}{w w':World}(h:tG I w)(g:∀b arr ty fz,I b->w.heap[b]?=some (.cells arr ty fz)->I' b/\w'.heap[b]?=some (.cells arr ty fz)):tG I' w':=λx hx=>by
 obtain⟨h1,ty,fz,h2⟩:=h x hx
 exact⟨(g _ _ _ _ h1 h2).1,ty,fz,(g _ _ _ _ h1 h2).2⟩
theorem tG.mono{I I':ag}{w w':World}(h:tG I w)(g:∀b,I b->I' b/\w'.heap[b]?=w.heap[b]?):tG I' w':=h.HL (w9 g)
structure Mem(c:Ctx)(w:World):Prop where
 row:∀r row,c.R r=some row->EZ c w r row
 inj:∀r s x y,c.R r=some x->c.R s=some y->¬c.V r->¬c.V s->c.ρ r=c.ρ s->r=s
 fu:∀b,c.I b->b<w.heap.size/\∀r x,c.R r=some x->¬c.V r->c.ρ r≠b
 top:c.top<=w.heap.size
 kR:tG c.I w
theorem ZT{c:Ctx}{w w':World}{I:ag}(hm:Mem c w)(h:JW c w {c with I:=I} w')(hh:∀r x,c.R r=some x->¬c.V r->w'.heap[c.ρ r]?=w.heap[c.ρ r]?){Fk:Nat->Prop}(gF:∀k ws v,Fk k->sf c w k ws v->sf {c with I:=I} w' k ws v)
 (hn:∀r x,c.R r=some x->∀k∈lj [x],Fk k) (hI:∀b,I b->b<w'.heap.size/\∀r x,c.R r=some x->¬c.V r->c.ρ r≠b) (hs:w.heap.size<=w'.heap.size):Mem {c with I:=I} w':=by
 refine⟨λr row hr=>?_,hm.inj,λb hb=>hI b hb,bH hm.top hs,hm.kR.HL h.I⟩
 rcases hm.row r row hr with g|⟨g0,arr,g1,g2,g3⟩
 ·exact .inl g
 ·refine .inr ⟨g0,arr,(hh r row hr g0).trans g1,g2,?_⟩
  split at g3
  ·rename_i hb
   rw[if_pos hb]
   obtain⟨e,k1,k2,k3,k4⟩:=g3
   refine⟨e,k1,k2,k3,Z2s h gF (λk hk=>hn r row hr k ?_) k4⟩
   obtain⟨bx,ty,sz,es⟩:=row
   simp only at hb k1
   subst hb;subst k1
   simpa[lj]using hk
  ·rename_i hb
   rw[if_neg hb]
   exact MH h.I _ _ _ _ g3
theorem Mem.real{c:Ctx}{w:World}(h:Mem c w){r:Nat}{row:Row}(hr:c.R r=some row)(hV:¬c.V r):Aa c w r row:=by
 rcases h.row r row hr with h1|h1
 ·exact(hV h1.1).elim
 ·exact h1.2
theorem Mem.ou{c:Ctx}{w:World}(h:Mem c w){r:Nat}{row:Row}(hr:c.R r=some row)(hV:c.V r):row.box=false/\row.es.l=[]/\0<row.sz:=by
 rcases h.row r row hr with h1|h1
 ·exact h1.2
 ·exact(h1.1 hV).elim
theorem Mem.lt{c:Ctx}{w:World}(h:Mem c w){r:Nat}{row:Row}(hr:c.R r=some row)(hV:¬c.V r):c.ρ r<w.heap.size:=by
 obtain⟨arr,ha,_⟩:=h.real hr hV
 by_cases cj:c.ρ r<w.heap.size
 ·exact cj
 ·rw[Array.getElem?_eq_none (by omega)]at ha;cases ha
structure Fr(X:ag)(w w':World):Prop where
 os:w'.os=w.os
 tape:w'.tape=w.tape
 output:w'.output=w.output
 size:w.heap.size<=w'.heap.size
 heap:∀b,b<w.heap.size->¬X b->w'.heap[b]?=w.heap[b]?
theorem Fr.refl(X:ag)(w:World):Fr X w w:=⟨rfl,rfl,rfl,aO _,λ_ _ _=>rfl⟩
theorem Fr.trans{X:ag}{w w' FZ:World}(h:Fr X w w')(g:Fr X w' FZ):Fr X w FZ:=
 ⟨g.os.trans h.os,g.tape.trans h.tape,g.output.trans h.output,bH h.size g.size,λb hb hx=>(g.heap b (Nat.lt_of_lt_of_le hb h.size) hx).trans (h.heap b hb hx)⟩
theorem Fr.mono{X Y:ag}{w w':World}(h:Fr X w w')(hxy:∀b,b<w.heap.size->X b->Y b):Fr Y w w':=
 ⟨h.os,h.tape,h.output,h.size,λb hb hy=>h.heap b hb λhx=>hy (hxy b hb hx)⟩
def mn(P:Program):Nat->TypeId->List rp
 |0,_=>[]
 |n+1,t=>match P.underlying t with
  |some (.int k)=>[.int k]
  |some .bool=>[.bool]
  |some .string=>[.str]
  |some (.slice e)=>[.sl (P.cellsOf e)]
  |some (.struct fs)=>fs.toList.flatMap λf=>mn P n f.type
  |some (.array m e)=>(List.replicate m (mn P n e)).flatten
  |_=>[.other]
def HM(P:Program)(t:TypeId):TK:=
 match P.underlying t with
 |some (.int k)=>.int k
 |some .bool=>.bool
 |some .string=>.string
 |some (.slice e)=>.slice e (P.cellsOf e)
 |some (.struct fs)=>.struct (fs.toList.map λf=>(f.offset,f.type,P.cellsOf f.type))
 |some (.array n e)=>.array n e (P.cellsOf e)
 |_=>.other
def UW(P:Program)(g:TypeId->Bool)(l:TypeId->Nat):List Field->Nat->Bool
 |[],_=>true
 |f::fs,o=>f.name != "_" &&bT f.offset o&&bT (P.cellsOf f.type) (l f.type)&&Nat.blt 0 (l f.type)&&g f.type&&UW P g l fs (o+l f.type)
def rK(P:Program):Nat->TypeId->Bool
 |0,_=>false
 |n+1,t=>match P.underlying t with
  |some (.int _)=>true
  |some .bool=>true
  |some .string=>true
  |some (.struct fs)=>!P.stoodInHeld t&&UW P (rK P n) (λu=>(mn P n u).length) fs.toList 0
  |some (.array _ e)=>bT (P.cellsOf e) (mn P n e).length&&Nat.blt 0 (P.cellsOf e)&&rK P n e
  |_=>false
def Bd(P:Program)(t:TypeId):Option TI:=
 match P.info? t with
 |some i=>if(mn P 8 t).length=i.size/\(P.underlying t).isSome=true then
  some ⟨HM P t,i.size,i.bytes,mn P 8 t,i.zero.bind λz=>BD z.cells.toList,!(P.eqGuardType P.depth t)&&rK P 8 t⟩else none
 |none=>none
def jB(P:Program)(T:fq):Prop:=T.map (λx=>Bd P x.1)=T.map (λx=>some x.2)
theorem jB.get{P:Program}{T:fq}(h:jB P T){t:TypeId}{i:TI}(hi:T.get t=some i):Bd P t=some i:=by
 induction T with
 |nil=>simp[fq.get]at hi
 |cons x l ih=>
  obtain⟨u,j⟩:=x
  simp only[jB,fT,List.cons.injEq]at h
  simp only[fq.get]at hi
  cases hb:bT u t with
  |true=>
   simp only[hb,Option.some.injEq]at hi
   have:=bE hb
   subst this;subst hi
   exact h.1
  |false=>simp only[hb]at hi;exact ih h.2 hi
theorem nz{K:Rows->Prop}:∀{R:Rows},tW R K↔K R
 |[]=>Iff.rfl
 |d::l=>by unfold tW;exact nz (R:=l) (K:=λl=>K (d::l))
theorem D.cq{K:D->Prop}{d:D}:d.force K↔K d:=by cases d<;>rfl
theorem D.fk:∀{l:List D} {K:List D->Prop},D.jY l K↔K l
 |[],_=>Iff.rfl
 |d::l,K=>by unfold D.jY;rw[D.cq];exact D.fk (l:=l) (K:=λl=>K (d::l))
theorem Zgx{row:Row}:∀{R:Rows} {n:Nat} {K:Nat->Rows->Prop},Ab row R n K↔K (n+R.length) (R++[some row])
 |[],_,_=>Iff.rfl
 |x::l,n,K=>by
  unfold Ab
  rw[Zgx (R:=l) (K:=λk l=>K k (x::l))]
  simp only[dI,List.cons_append]
  rw[show n+1+l.length=n+(l.length+1) by omega]
theorem NF{row:Row}{R:Rows}{K:Nat->Rows->Prop}:Be R row K↔K R.length (R++[some row]):=by
 unfold Be;rw[Zgx];simp
theorem gb.one{I:ag}{w:World}{d:D}{v:Value}(h:gb I w d v):v.oneCell'=true:=by
 cases d<;>simp only[sD,rU,sE,sF,sG,sH,tK,ug,uh,ui,uj,uk,um,uo,uq,ur,qT,Zpv,Zp8]at h
 case sl sz es fr=>obtain⟨a,cap,hv,_⟩:=h;subst hv;rfl
 case emp=>obtain⟨a,hv⟩:=h;subst hv;rfl
 all_goals first|(subst h;rfl)|exact h.elim
theorem cv.one{c:Ctx}{w:World}{d:D}{v:Value}(h:cv c w d v):v.oneCell'=true:=by
 cases d<;>simp only[cv]at h
 case sl sz es fr=>obtain⟨a,cap,hv,_⟩:=h;subst hv;rfl
 case emp=>obtain⟨a,hv,_⟩:=h;subst hv;rfl
 case rk es=>obtain⟨b,hv,_⟩:=h;subst hv;rfl
 case all r=>obtain⟨row,_,_,⟨_,a,hv,_⟩|⟨_,cap,arr,hv,_⟩⟩:=h<;>(subst hv;rfl)
 case own r o n=>
  obtain⟨row,_,_,_,⟨_,a,hv,_⟩|⟨_,cap,arr,_,_,_,hv,_⟩⟩:=h<;>(subst hv;rfl)
 case ptr r i off=>obtain⟨row,_,_,_,hv⟩:=h;subst hv;rfl
 case pa r i off len k n=>obtain⟨_,row,_,_,_,hv⟩:=h;subst hv;rfl
 case iv sz es i off=>obtain⟨b,o,arr,ty,fz,hv,_⟩:=h;subst hv;rfl
 case gn f cs=>obtain⟨us,⟨_,hv⟩|⟨_,l,rec,hv,_⟩,_⟩:=h<;>(subst hv;rfl)
 case c9 r=>obtain hv|⟨row,_,_,_,hv⟩:=h<;>(subst hv;rfl)
 all_goals first|exact h|(subst h;rfl)|exact h.elim
theorem UX{I:ag}{w:World}:∀{cs:List D} {arr:Array Value} {off j:Nat},nX I w cs arr off->j<cs.length->∃v,arr[off+j]?=some v/\gb I w (cs.getD j .dead) v
 |c::cs,arr,off,0,h,_=>by
  simp only[BU,Aw]at h
  simpa using h.1
 |c::cs,arr,off,j+1,h,hj=>by
  simp only[BU,Aw]at h
  obtain⟨v,hv,hp⟩:=UX h.2 (fY (by simpa using hj))
  exact⟨v,by rw[show off+(j+1)=off+1+j by omega];exact hv,by simpa using hp⟩
theorem UY{I:ag}{w:World}:∀{es:List (List D)} {arr:Array Value} {off sz i:Nat},iL I w es arr off sz->i<es.length->(es.getD i []).length=sz/\nX I w (es.getD i []) arr (off+i*sz)
 |e::es,arr,off,sz,0,h,_=>by
  simp only[pV,oy]at h
  simpa using⟨h.1,h.2.1⟩
 |e::es,arr,off,sz,i+1,h,hi=>by
  simp only[pV,oy]at h
  obtain⟨h1,h2⟩:=UY h.2.2 (fY (by simpa using hi))
  exact⟨by simpa using h1,by rw[show off+(i+1)*sz=off+sz+i*sz by rw[Nat.succ_mul];omega];simpa using h2⟩
theorem Z9g{c:Ctx}{w:World}:∀{cs:List D} {arr:Array Value} {off j:Nat},kO c w cs arr off->j<cs.length->∃v,arr[off+j]?=some v/\cv c w (cs.getD j .dead) v
 |d::cs,arr,off,0,h,_=>by
  simp only[kO]at h
  simpa using h.1
 |d::cs,arr,off,j+1,h,hj=>by
  simp only[kO]at h
  obtain⟨v,hv,hp⟩:=Z9g h.2 (fY (by simpa using hj))
  exact⟨v,by rw[show off+(j+1)=off+1+j by omega];exact hv,by simpa using hp⟩
theorem Ez{c:Ctx}{w:World}:∀{ds:List D} {vs:List Value},(jr c w ds vs↔ds.length=vs.length/\∀j v,vs[j]?=some v->cv c w (ds.getD j .dead) v)
 |[],[]=>by simp[jr]
 |[],v::vs=>by simp[jr]
 |d::ds,[]=>by simp[jr]
 |d ::ds,v::vs=>by
  simp only[jr,Ez (ds:=ds) (vs:=vs),dI,Nat.add_right_cancel_iff]
  constructor
  ·rintro⟨h1,h2,h3⟩
   refine⟨h2,λj u hu=>?_⟩
   cases j with
   |zero=>simp at hu;subst hu;simpa using h1
   |succ j=>simpa using h3 j u (by simpa using hu)
  ·rintro⟨h1,h2⟩
   exact⟨by simpa using h2 0 v (by simp),h1,λj u hu=>by simpa using h2 (j+1) u (by simpa using hu)⟩
def ka(pl:Bool)(c:Ctx)(w:World)(d:D)(v:Value):Prop:=match pl with|true=>gb c.I w d v|false=>cv c w d v
theorem Zhn{pl:Bool}{ty:rp}{d:D}{K:D->Prop}(h:uT pl ty d K):∃d',K d'/\∀c w v,ka pl c w d v->cv c w d' v:=by
 cases ty with
 |int k=>
  simp only[uT,db]at h
  refine⟨_,h.2,λc w v hx=>?_⟩
  cases d<;>simp[D.isInt]at h
  obtain⟨rfl,_⟩:=h
  cases pl<;>simpa[ka,sD,rU,sE,sF,sG,sH,tK,ug,uh,ui,uj,uk,um,uo,uq,ur,cv,D.toInt]using hx
 |bool=>
  simp only[uT,db]at h
  refine⟨_,h.2,λc w v hx=>?_⟩
  cases d<;>simp[D.isBool]at h
  cases pl<;>simpa[ka,sD,rU,sE,sF,sG,sH,tK,ug,uh,ui,uj,uk,um,uo,uq,ur,cv,D.toBool]using hx
 |str=>
  simp only[uT,db]at h
  refine⟨_,h.2,λc w v hx=>?_⟩
  cases d<;>simp[D.isStr]at h
  cases pl<;>simpa[ka,sD,rU,sE,sF,sG,sH,tK,ug,uh,ui,uj,uk,um,uo,uq,ur,cv,D.toStr]using hx
 |sl n=>
  cases pl with
  |true=>
   simp only[uT,db]at h
   refine⟨_,h.2,λc w v hx=>?_⟩
   cases d<;>(try(simp[D.F8]at h;done))
   case dx=>exact⟨none,0,sG.1 hx,Nat.zero_le _,.inl rfl⟩
   case emp=>obtain⟨a,ha⟩:=sH.1 hx;exact⟨a,0,ha,Nat.zero_le _,.inl rfl⟩
   simp only[D.F8]at h
   have hh:=bE h.1
   subst hh
   simp only[ka,sD,rU,sE,sF,sG,sH,tK,ug,uh,ui,uj,uk,um,uo,uq,ur]at hx
   simp only[cv,D.toEs]
   obtain⟨a,cap,hv,hc,ij⟩:=hx
   refine⟨a,cap,hv,hc,?_⟩
   rcases ij with ij|⟨b,off,arr,ty,fz,ha,hI,hh,hE⟩
   ·exact .inl ij
   ·exact .inr ⟨b,off,arr,ty,fz,ha,hI,by simp,hh,Tc.1 hE⟩
  |false=>
   simp only[uT,db,D.cq]at h
   exact⟨_,h.2,λc w v hx=>hx⟩
 |other=>
  cases pl with
  |false=>
   simp only[uT,db,D.cq]at h
   exact⟨_,h.2,λc w v hx=>hx⟩
  |true=>
   simp only[uT]at h
   cases d<;>simp only at h
   case iN=>exact⟨_,h,λc w v hx=>sF.1 hx⟩
theorem Za5{pl:Bool}{e:List D}:∀{dd:List rp} {off:Nat} {K:List D->Prop},JX pl e dd off K->
 ∃ds,K ds/\ds.length=dd.length/\∀j,j<dd.length->∀c w v,ka pl c w (e.getD (off+j) .dead) v->cv c w (ds.getD j .dead) v
 |[],off,K,h=>⟨[],h,rfl,λj hj=>by simp at hj⟩
 |t::ts,off,K,h=>by
  simp only[JX]at h
  obtain⟨d,hd,h1⟩:=Zhn h
  obtain⟨ds,EA,hl,h2⟩:=Za5 hd
  refine⟨d::ds,EA,by simp[hl],λj hj c w v hx=>?_⟩
  cases j with
  |zero=>simpa using h1 c w v (by simpa using hx)
  |succ j=>simpa using h2 j (by simpa using hj) c w v (by rw[show off+1+j=off+(j+1) by omega];exact hx)
theorem DR{P:Program}{t:TypeId}{ti:TI}(h:Bd P t=some ti):∃i,P.info? t=some i/\i.size=ti.size/\i.bytes=ti.bytes/\ti.tf.length=ti.size/\ti.kind=HM P t/\
 ti.zero=(i.zero.bind λz=>BD z.cells.toList)/\ti.eq=(!(P.eqGuardType P.depth t)&&rK P 8 t)/\ti.tf=mn P 8 t/\∃d,P.underlying t=some d:=by
 unfold Bd at h
 cases hi:P.info? t with
 |none=>simp[hi]at h
 |some i=>
  simp only[hi]at h
  split at h
  ·rename_i hl
   simp only[Option.some.injEq]at h
   subst h
   exact⟨i,rfl,rfl,rfl,hl.1,rfl,rfl,rfl,rfl,Option.isSome_iff_exists.1 hl.2⟩
  ·cases h
def QF:TypeDesc->Bool|.struct _=>true|.array _ _=>true|_=>false
theorem MJ{P:Program}{t:TypeId}{d:TypeDesc}(hd:P.underlying t=some d):(HM P t).isAgg=QF d:=by
 unfold HM
 rw[hd]
 cases d<;>rfl
theorem ZU{P:Program}{t:TypeId}{d:TypeDesc}(hd:P.underlying t=some d)(w:World):(isAgg t).run P w=.ok (HM P t).isAgg w:=by
 rw[MJ hd]
 unfold isAgg
 rw[Sem.run_bind,run_underlying hd w]
 cases d<;>rfl
def Bf(arr:Array Value)(o n:Nat):List Value:=(List.range n).map λj=>(arr[o+j]?).getD undef
theorem FR(b o j:Nat):(⟨b,o,none⟩:Addr).add j=⟨b,o+j,none⟩:=by
 unfold Addr.add;split<;>simp_all
theorem ZV{P:Program}{t:TypeId}{ti:TI}(ht:Bd P t=some ti){w:World}{b o:Nat}{arr:Array Value}{ty:TypeId}{fz:Nat×Nat}(hb:w.heap[b]?=some (.cells arr ty fz))
 (TQ:∀j,j<ti.size->∃v,arr[o+j]?=some v) (h1:ti.kind.isAgg=true\/ti.size=1):
 (loadVar t ⟨b,o,none⟩).run P w=.ok (if ti.kind.isAgg then .agg (Bf arr o ti.size).toArray else(arr[o]?).getD undef) w:=by
 obtain⟨i,hi,hs,_,_,hk,_,_,_,d,hd⟩:=DR ht
 have mF:∀j,w.cell? ⟨b,o+j,none⟩=arr[o+j]? :=λj=>by simp[World.cell?,hb]
 have hl:(loadCells ⟨b,o,none⟩ ti.size).run P w=.ok (Bf arr o ti.size).toArray w:=
  run_loadCells w _ _ _ λj hj=>by
   rw[FR,mF]
   obtain⟨v,hv⟩:=TQ j hj
   simp[hv]
 unfold loadVar
 rw[Sem.run_bind,ZU hd,Result.andThen_ok,<-hk]
 cases hg:ti.kind.isAgg with
 |true=>
  simp only[if_true,Sem.run_bind,sizeOf,typeInfo,run_program,Result.andThen_ok,hi,Sem.run_pure,hs,hl]
 |false=>
  have ga:ti.size=1:=by simpa[hg]using h1
  obtain⟨v,hv⟩:=TQ 0 (by omega)
  have MK:arr[o]?=some v:=by simpa using hv
  have hc:w.cell? ⟨b,o,none⟩=some v:=by simpa[MK]using mF 0
  simp[hc,MK]
theorem Zia{pl:Bool}{ti:TI}{e:List D}{off:Nat}{K:D->Prop}(hl:ti.tf.length=ti.size)(h:uU pl ti e off K):
 ∃ val,K val/\(ti.kind.isAgg=true\/ti.size=1)/\∀c w arr o,(∀j,j<ti.size->∃v,arr[o+j]?=some v/\ka pl c w (e.getD (off+j) .dead) v)->
  Rep c w val (if ti.kind.isAgg then .agg (Bf arr o ti.size).toArray else(arr[o]?).getD undef):=by
 unfold uU at h
 cases hg:ti.kind.isAgg with
 |true=>
  simp only[hg]at h
  obtain⟨ds,hK,hlen,hr⟩:=Za5 h
  refine⟨_,hK,.inl rfl,λc w arr o hx=>?_⟩
  simp only[if_true]
  refine⟨_,rfl,Ez.2 ⟨by simp[Bf,hlen,hl],λj v hv=>?_⟩⟩
  have hj:j<ti.size:=by
   have:=(List.getElem?_eq_some_iff.1 hv).1
   simpa[Bf]using this
  obtain⟨u,hu,uB⟩:=hx j hj
  have:u=v:=by simpa[Bf,hj,hu]using hv
  subst this
  exact hr j (by omega) c w u uB
 |false=>
  simp only[hg]at h
  match hc:ti.tf with
  |[y]=>
   simp only[hc]at h
   obtain⟨d,hK,hr⟩:=Zhn h
   have ga:ti.size=1:=by rw[<-hl,hc];rfl
   refine⟨d,hK,.inr ga,λc w arr o hx=>?_⟩
   obtain⟨u,hu,uB⟩:=hx 0 (by omega)
   have UZ:arr[o]?=some u:=by simpa using hu
   simp only[aN,if_false,UZ,Option.getD_some]
   have:=hr c w u (by simpa using uB)
   cases d<;>first|exact this|trivial|exact this.elim
  |[]=>simp only[hc]at h
  |_::_::_=>simp only[hc]at h
def mO(c:Ctx)(R:Rows):Prop:=∀r row ak,c.R r=some row->R.getD r none=some ak->row=ak
theorem Q7(w:World)(o:Obj)(b:Nat)(h:b<w.heap.size):(w.alloc o).heap[b]?=w.heap[b]? :=by
 show(w.heap.push o)[b]?=w.heap[b]?
 rw[Array.getElem?_push,if_neg (Nat.ne_of_lt h)]
theorem U0(w:World)(o:Obj):(w.alloc o).heap[w.heap.size]?=some o:=by
 show(w.heap.push o)[w.heap.size]?=some o
 simp
def Ctx.add(c:Ctx)(k:Nat)(row:Row)(b:Nat):Ctx:={c with R:=λr=>if r=k then some row else c.R r,ρ:=λr=>if r=k then b else c.ρ r,V:=λr=>r≠k/\c.V r}
theorem Ctx.jc(c:Ctx)(k:Nat)(row:Row)(b:Nat):(c.add k row b).R k=some row/\(c.add k row b).ρ k=b:=by simp[Ctx.add]
theorem jn.alloc{c:Ctx}{w:World}(hm:Mem c w){k:Nat}(hk:c.R k=none)(row:Row)(o:Obj):jn c w (c.add k row w.heap.size) (w.alloc o):=by
 refine⟨rfl,aO _,λb hb=>⟨hb,Q7 w o b (hm.fu b hb).1⟩,λr x hr=>?_⟩
 have gr:r≠k:=λe=>by rw[e,hk]at hr;cases hr
 refine⟨x,by simp[Ctx.add,gr,hr],rfl,rfl,rfl,rfl,by simp[Ctx.add,gr],by simp[Ctx.add,gr],λnv arr ha=>⟨arr,?_,rfl⟩⟩
 rw[Q7 w o _ (hm.lt hr nv)];exact ha
theorem Fr.alloc(X:ag)(w:World)(o:Obj):Fr X w (w.alloc o):=
 ⟨rfl,rfl,rfl,by show w.heap.size<=(w.heap.push o).size;simp,λb hb _=>Q7 w o b hb⟩
theorem ue{c c':Ctx}{w w':World}(h:jn c w c' w'){r:Nat}{row:Row}(QG:c'.ρ r=c.ρ r)(hV:c'.V r↔c.V r)(hh:¬c.V r->w'.heap[c.ρ r]?=w.heap[c.ρ r]?)(hr:EZ c w r row):EZ c' w' r row:=by
 rcases hr with⟨h0,hr⟩|⟨h0,hr⟩
 ·exact .inl ⟨hV.2 h0,hr⟩
 refine .inr ⟨λe=>h0 (hV.1 e),?_⟩
 obtain⟨arr,ha,hs,hx⟩:=hr
 refine⟨arr,by rw[QG,hh h0];exact ha,hs,?_⟩
 split
 ·rename_i hb
  simp only[hb,if_true]at hx
  obtain⟨e,h1,h2,h3,h4⟩:=hx
  exact⟨e,h1,h2,h3,ND h h4⟩
 ·rename_i hb
  simp only[hb,if_false,aN]at hx
  exact ot h.I _ _ _ _ hx
theorem Mem.alloc{c:Ctx}{w:World}(hm:Mem c w){k:Nat}(hk:c.R k=none)(row:Row)(arr:Array Value)(hs:0<row.sz)
 (hx:if row.box then∃e,row.es=.gen [e]/\e.length=row.sz/\arr.size=row.sz/\kO c w e arr 0 else iL c.I w row.es.l arr 0 row.sz):
 Mem (c.add k row w.heap.size) (w.alloc (.cells arr row.ty)):=by
 have hg:=jn.alloc hm hk row (.cells arr row.ty)
 refine⟨λr x hr=>?_,λr s x y hr jl JY ML he=>?_,λb hb=>?_,bH hm.top (by show w.heap.size<=(w.heap.push _).size;simp),hm.kR.mono hg.I⟩
 ·by_cases e:r=k
  ·subst e
   simp only[Ctx.add,if_true,Option.some.injEq]at hr
   subst hr
   refine .inr ⟨by simp[Ctx.add],arr,by simp only[Ctx.add,if_true];exact U0 w _,hs,?_⟩
   split
   ·rename_i hb
    simp only[hb,if_true]at hx
    obtain⟨e,h1,h2,h3,h4⟩:=hx
    exact⟨e,h1,h2,h3,ND hg h4⟩
   ·rename_i hb
    simp only[hb,if_false,aN]at hx
    exact ot hg.I _ _ _ _ hx
  ·have nH:c.R r=some x:=by simpa[Ctx.add,e]using hr
   exact ue hg (by simp[Ctx.add,e]) (by simp[Ctx.add,e]) (λnv=>Q7 w _ _ (hm.lt nH nv)) (hm.row r x nH)
 ·by_cases e1:r=k<;>by_cases e2:s=k
  ·exact e1.trans e2.symm
  ·exfalso
   have h2:c.R s=some y:=by simpa[Ctx.add,e2]using jl
   have:=hm.lt h2 (by simpa[Ctx.add,e2]using ML)
   simp[Ctx.add,e1,e2]at he
   omega
  ·exfalso
   have h1:c.R r=some x:=by simpa[Ctx.add,e1]using hr
   have:=hm.lt h1 (by simpa[Ctx.add,e1]using JY)
   simp[Ctx.add,e1,e2]at he
   omega
  ·exact hm.inj r s x y (by simpa[Ctx.add,e1]using hr) (by simpa[Ctx.add,e2]using jl) (by simpa[Ctx.add,e1]using JY) (by simpa[Ctx.add,e2]using ML) (by simpa[Ctx.add,e1,e2]using he)
 ·have tM:c.I b:=hb
  obtain⟨h1,h2⟩:=hm.fu b tM
  refine⟨by show b<(w.heap.push _).size;simp;omega,λr x hr hv=>?_⟩
  by_cases e:r=k
  ·simp only[Ctx.add,e,if_true];omega
  ·simpa[Ctx.add,e]using h2 r x (by simpa[Ctx.add,e]using hr) (by simpa[Ctx.add,e]using hv)
theorem Aa.get{c:Ctx}{w:World}{r:Nat}{row:Row}(h:Aa c w r row){i off n:Nat}(hi:i<row.es.l.length)(hn:off+n<=row.sz):
 ∃arr,w.heap[c.ρ r]?=some (.cells arr row.ty (0,0))/\∀j,j<n->∃v,arr[i*row.sz+off+j]?=some v/\ka (!row.box) c w ((row.es.l.getD i []).getD (off+j) .dead) v:=by
 obtain⟨arr,ha,hs,hx⟩:=h
 refine⟨arr,ha,λj hj=>?_⟩
 cases hb:row.box with
 |true=>
  simp only[hb,if_true]at hx
  obtain⟨e,h1,h2,h3,h4⟩:=hx
  have rT:i=0:=by rw[h1]at hi;simpa[ao.l]using hi
  subst rT
  obtain⟨v,hv,hp⟩:=Z9g h4 (j:=off+j) (by omega)
  exact⟨v,by simpa using hv,by simpa[ka,h1,ao.l]using hp⟩
 |false=>
  simp only[hb,if_false,aN]at hx
  obtain⟨h1,h2⟩:=UY hx hi
  obtain⟨v,hv,hp⟩:=UX h2 (j:=off+j) (by omega)
  exact⟨v,by simpa[fZ]using hv,by simpa[ka]using hp⟩
theorem U1:∀{e:List D} {len off n:Nat},n<len->(ints e off len).getD n 0=(e.getD (off+n) .dead).toInt
 |e,len+1,off,0,_=>by simp[ints]
 |e,len+1,off,n+1,h=>by
  have:=U1 (e:=e) (len:=len) (off:=off+1) (n:=n) (by omega)
  rw[show off+1+n=off+(n+1) by omega]at this
  simpa[ints]using this
theorem U4:∀{e:List D} {len off n:Nat},n<len->(bu e off len).getD n false=(e.getD (off+n) .dead).toBool
 |e,len+1,off,0,_=>by simp[bu]
 |e,len+1,off,n+1,h=>by
  have:=U4 (e:=e) (len:=len) (off:=off+1) (n:=n) (by omega)
  rw[show off+1+n=off+(n+1) by omega]at this
  simpa[bu]using this
theorem U5{k:IntKind}:∀{e:List D} {len off n:Nat},Dc k e off len=true->n<len->(e.getD (off+n) .dead).isInt k=true
 |e,len+1,off,0,h,_=>by simp only[Dc,aE]at h;exact h.1
 |e,len+1,off,n+1,h,hn=>by
  simp only[Dc,aE]at h
  have:=U5 h.2 (n:=n) (by omega)
  rwa [show off+1+n=off+(n+1) by omega]at this
theorem U6:∀{e:List D} {len off n:Nat},HN e off len=true->n<len->(e.getD (off+n) .dead).isBool=true
 |e,len+1,off,0,h,_=>by simp only[HN,aE]at h;exact h.1
 |e,len+1,off,n+1,h,hn=>by
  simp only[HN,aE]at h
  have:=U6 h.2 (n:=n) (by omega)
  rwa [show off+1+n=off+(n+1) by omega]at this
theorem D.kb{k:IntKind}{d:D}(h:d.isInt k=true):d=.int k d.toInt:=by
 cases d<;>simp[D.isInt]at h
 subst h;rfl
theorem D.kd{d:D}(h:d.isBool=true):d=.bool d.toBool:=by
 cases d<;>simp[D.isBool]at h
 rfl
theorem ka.int{pl:Bool}{c:Ctx}{w:World}{k:IntKind}{n:Int}{v:Value}(h:ka pl c w (.int k n) v):v=.int k n:=by
 cases pl<;>simpa[ka,sD,rU,sE,sF,sG,sH,tK,ug,uh,ui,uj,uk,um,uo,uq,ur,cv]using h
theorem ka.bool{pl:Bool}{c:Ctx}{w:World}{b:Bool}{v:Value}(h:ka pl c w (.bool b) v):v=.bool b:=by
 cases pl<;>simpa[ka,sD,rU,sE,sF,sG,sH,tK,ug,uh,ui,uj,uk,um,uo,uq,ur,cv]using h
theorem U7{P:Program}{t:TypeId}{ti:TI}(ht:Bd P t=some ti)(hk:(ti.kind.isAgg||match ti.kind with|.other=>true|_=>false)=false):ti.size=1:=by
 obtain⟨_,_,_,_,hl,oj,_,_,hc,_⟩:=DR ht
 rw[<-hl,hc]
 rw[oj]at hk
 unfold HM at hk
 unfold mn
 split at hk<;>first|rfl|(simp[TK.isAgg]at hk)
theorem U8{P:Program}{t:TypeId}{w:World}{a:Addr}:(Instr.loadAt t (.pointer (some a))).run P w=(loadVar t a).run P w:=by
 simp[Instr.loadAt,Instr.sureAddr]
theorem Zgm{P:Program}{T:fq}(hT:jB P T){t:TypeId}{x:D}{R:Rows}{K:D->Rows->Prop}(h:Ac T t x R K):
 ∃val,K val R/\∀c w v,Mem c w->mO c R->Rep c w x v->∃u,(Instr.loadAt t v).run P w=.ok u w/\Rep c w val u:=by
 unfold Ac at h
 cases ht:T.get t with
 |none=>simp only[ht]at h
 |some ti=>
  simp only[ht]at h
  have MM:=hT.get ht
  obtain⟨i0,rT,ET,_,Bs,sC,_⟩:=DR MM
  cases x<;>simp only at h
  case ptr r i off=>
   cases hR:R.getD r none with
   |none=>simp only[hR]at h
   |some row=>
    obtain⟨box,ty,sz,es⟩:=row
    simp only[hR,db]at h
    obtain⟨hle,h⟩:=h
    have hle:=lE hle
    obtain⟨val,hK,uA,hr⟩:=Zia Bs h
    refine⟨val,hK,λc w v hm hA hv=>?_⟩
    obtain⟨row,h1,hV,h2,h3⟩:=hv
    have cg:=hA r row _ h1 hR
    subst cg
    obtain⟨arr,ha,hx⟩:=(hm.real h1 hV).get h2 hle
    simp only[ao.nA es (show i<es.len by simpa using h2)]at hx
    subst h3
    refine⟨_,U8.trans (ZV MM ha (λj hj=>by obtain⟨v,hv,_⟩:=hx j hj;exact⟨v,hv⟩) uA),hr c w arr _ hx⟩
  case pa r i off len k n=>
   cases hR:R.getD r none with
   |none=>simp only[hR]at h
   |some row=>
    obtain⟨box,ty,sz,es⟩:=row
    simp only[hR,db]at h
    obtain⟨hle,h⟩:=h
    have hle:=lE hle
    have one:(ti.kind.isAgg=false)->ti.size=1->∀c w v,Mem c w->mO c R->Rep c w (.pa r i off len k n) v->∃u,(Instr.loadAt t v).run P w=.ok u w/\ka (!box) c w ((es.get i).getD (off+n) .dead) u/\n<len:=by
     intro Dd ga c w v hm hA hv
     obtain⟨hn,row,h1,hV,h2,h3⟩:=hv
     have cg:=hA r row _ h1 hR
     subst cg
     obtain⟨arr,ha,hx⟩:=(hm.real h1 hV).get h2 hle
     simp only[ao.nA es (show i<es.len by simpa using h2)]at hx
     subst h3
     obtain⟨u,hu,uB⟩:=hx n hn
     have UZ:arr[i*sz+(off+n)]?=some u:=by rw[<-fZ];exact hu
     refine⟨u,?_,uB,hn⟩
     rw[U8,ZV MM ha (λj hj=>⟨u,by rw[show j=0 by omega];exact UZ⟩) (.inr ga),Dd]
     simp[UZ]
    split at h
    ·rename_i j k' hk
     simp only[aE,decide_eq_true_eq]at h
     obtain⟨⟨rfl,iS⟩,h⟩:=h
     have ga:ti.size=1:=U7 MM (by rw[hk];simp[TK.isAgg])
     refine⟨_,h,λc w v hm hA hv=>?_⟩
     obtain⟨u,hu,uB,hn⟩:=one (by rw[hk];rfl) ga c w v hm hA hv
     rw[D.kb (U5 iS hn)]at uB
     have:=ka.int uB
     subst this
     exact⟨_,hu,by simp only[Rep,VRep,cv];rw[U1 hn]⟩
    ·rename_i hk
     obtain⟨iS,h⟩:=h
     have ga:ti.size=1:=U7 MM (by rw[hk];simp[TK.isAgg])
     refine⟨_,h,λc w v hm hA hv=>?_⟩
     obtain⟨u,hu,uB,hn⟩:=one (by rw[hk];rfl) ga c w v hm hA hv
     rw[D.kd (U6 iS hn)]at uB
     have:=ka.bool uB
     subst this
     exact⟨_,hu,by simp only[Rep,VRep,cv];rw[U4 hn]⟩
    ·exact h.elim
  case iv sz es i off=>
   simp only[db]at h
   obtain⟨hle,h⟩:=h
   have hle:=lE hle
   obtain⟨val,hK,uA,hr⟩:=Zia Bs h
   refine⟨val,hK,λc w v hm hA hv=>?_⟩
   obtain⟨b,o,arr,ty,fz,h3,hI,hi,ha,hE⟩:=hv
   subst h3
   obtain⟨h1,h2⟩:=UY hE hi
   rw[ao.nA es (show i<es.len by simpa using hi)]at h1 h2
   have hx:∀j,j<ti.size->∃v,arr[o+i*sz+off+j]?=some v/\ka true c w ((es.get i).getD (off+j) .dead) v:=λj hj=>by
    obtain⟨v,hv,hp⟩:=UX h2 (j:=off+j) (by omega)
    exact⟨v,by rw[<-hv];congr 1;omega,hp⟩
   exact⟨_,U8.trans (ZV MM ha (λj hj=>by obtain⟨v,hv,_⟩:=hx j hj;exact⟨v,hv⟩) uA),hr c w arr _ hx⟩
def Ctx.fu(c:Ctx)(b:Nat):Ctx:={c with I:=λx=>c.I x\/x=b,top:=max c.top (b+1)}
theorem U9{c:Ctx}{w:World}(hm:Mem c w)(o:Obj):jn c w (c.fu w.heap.size) (w.alloc o):=
 ⟨rfl,Nat.le_max_left _ _,λb hb=>⟨.inl hb,Q7 w o b (hm.fu b hb).1⟩,λr x hr=>⟨x,hr,rfl,rfl,rfl,rfl,rfl,Iff.rfl,λnv arr ha=>⟨arr,by rw[Q7 w o _ (hm.lt hr nv)];exact ha,rfl⟩⟩⟩
theorem zaw{c:Ctx}{w:World}(hm:Mem c w)(o:Obj):Mem (c.fu w.heap.size) (w.alloc o):=by
 refine⟨λr x hr=>ue (U9 hm o) rfl Iff.rfl (λnv=>Q7 w _ _ (hm.lt hr nv)) (hm.row r x hr),hm.inj,λb hb=>?_,?_,hm.kR.mono (U9 hm o).I⟩
 all_goals have ga:(w.alloc o).heap.size=w.heap.size+1:=by show(w.heap.push o).size=_;simp
 rotate_left
 ·have:=hm.top;rw[ga];exact Nat.max_le.2 ⟨by omega,aO _⟩
 rcases hb with hb|hb
 ·exact⟨by have:=(hm.fu b hb).1;omega,(hm.fu b hb).2⟩
 ·subst hb
  exact⟨by omega,λr x hr v=>by have:=hm.lt hr v;show c.ρ r≠w.heap.size;omega⟩

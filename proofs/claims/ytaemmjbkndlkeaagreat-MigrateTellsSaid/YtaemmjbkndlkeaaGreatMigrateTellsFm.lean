import Derived.Test.YtaemmjbkndlkeaaGreatMigrateTellsVc
open Nat renaming le_refl->aX,le_trans->bL,beq->bX,lt_of_succ_lt_succ->gG,add_assoc->gH
open List renaming map_cons->fX,length_cons->dD
open Bool renaming false_eq_true->aA
set_option linter.all false
namespace Go.GD
open Go
variable {Fk S:Nat->Prop}{I I' X:ab}{K:D->Prop}{P:Program}{R:Rows}{T:iz}{cs:List iS}{d:TypeDesc}{k:IntKind}{off r:Nat}{pl:Bool}{row:Row}{t:TypeId}{ti:TI}{us:List Value}{v:Value}{w w' Il:World}
mutual
theorem Zyn{I I':ab}{w w':World}(h:∀b arr ty fz,I b->w.heap[b]?=some (.cells arr ty fz)->I' b/\w'.heap[b]?=some (.cells arr ty fz)):∀(d:D) (v:Value),gh I w d v->gh I' w' d v
 |_,_,.bool b=>.bool b
 |_,_,.int k n=>.int k n
 |_,_,.str s=>.str s
 |_,_,.iQ=>.iQ
 |_,_,.c8=>.c8
 |_,_,.emp a=>.emp a
 |_,_,.WD sz es fr a cap h0=>.WD sz es fr a cap h0
 |_,_,.WE sz es fr cap hc b off arr ty fz hI hh hE=>.WE sz es fr cap hc b off arr ty fz (h b arr ty fz hI hh).1 (h b arr ty fz hI hh).2 (ND h es.l arr off sz hE)
theorem Qvj{I I':ab}{w w':World}(h:∀b arr ty fz,I b->w.heap[b]?=some (.cells arr ty fz)->I' b/\w'.heap[b]?=some (.cells arr ty fz)):∀(cs:List D) (arr:Array Value) (off:Nat),py I w cs arr off->py I' w' cs arr off
 |_,_,_,.nil arr off=>.nil arr off
 |_,_,_,.cons c cs arr off v hv hp hr=>.cons c cs arr off v hv (Zyn h c v hp) (Qvj h cs arr (off+1) hr)
theorem ND{I I':ab}{w w':World}(h:∀b arr ty fz,I b->w.heap[b]?=some (.cells arr ty fz)->I' b/\w'.heap[b]?=some (.cells arr ty fz)):∀(es:List (List D)) (arr:Array Value) (off sz:Nat),im I w es arr off sz->im I' w' es arr off sz
 |_,_,_,_,.nil arr off sz=>.nil arr off sz
 |_,_,_,_,.cons e es arr off sz hl hc hr=>.cons e es arr off sz hl (Qvj h e arr off hc) (ND h es arr (off+sz) sz hr)
end
theorem Aq(h:∀b,I b->I' b/\w'.heap[b]?=w.heap[b]?)(b:Nat)(arr:Array Value)(ty:TypeId)(fz:Nat×Nat)(hI:I b)(hh:w.heap[b]?=some (.cells arr ty fz)):I' b/\w'.heap[b]?=some (.cells arr ty fz):=⟨(h b hI).1,(h b hI).2.trans hh⟩
theorem Zsl(h:∀b,I b->I' b/\w'.heap[b]?=w.heap[b]?)(cs:List D)(arr:Array Value)(off:Nat)(hp:py I w cs arr off):py I' w' cs arr off:=Qvj (Aq h) cs arr off hp
theorem ob(h:∀b,I b->I' b/\w'.heap[b]?=w.heap[b]?)(es:List (List D))(arr:Array Value)(off sz:Nat)(hp:im I w es arr off sz):im I' w' es arr off sz:=ND (Aq h) es arr off sz hp
structure ju(c:Ctx)(w:World)(c':Ctx)(w':World):Prop where
 base:c'.base=c.base
 top:c.top<=c'.top
 I:∀b,c.I b->c'.I b/\w'.heap[b]?=w.heap[b]?
 R :∀r row,c.R r=some row->∃aq,c'.R r=some aq/\aq.box=row.box/\aq.ty=row.ty/\aq.sz=row.sz/\aq.es.l.length=row.es.l.length/\c'.ρ r=c.ρ r/\(c'.V r↔c.V r)/\
  (¬c.V r->∀arr,w.heap[c.ρ r]?=some (.cells arr row.ty (0,0))->∃iX,w'.heap[c.ρ r]?=some (.cells iX row.ty (0,0))/\iX.size=arr.size)
structure KC(c:Ctx)(w:World)(c':Ctx)(w':World):Prop where
 base:c'.base=c.base
 top:c.top<=c'.top
 I:∀b arr ty fz,c.I b->w.heap[b]?=some (.cells arr ty fz)->c'.I b/\w'.heap[b]?=some (.cells arr ty fz)
 R :∀r row,c.R r=some row->∃aq,c'.R r=some aq/\aq.box=row.box/\aq.ty=row.ty/\aq.sz=row.sz/\aq.es.l.length=row.es.l.length/\c'.ρ r=c.ρ r/\(c'.V r↔c.V r)/\
  (¬c.V r->∀arr,w.heap[c.ρ r]?=some (.cells arr row.ty (0,0))->∃iX,w'.heap[c.ρ r]?=some (.cells iX row.ty (0,0))/\iX.size=arr.size)
theorem ju.to0{c c':Ctx}(h:ju c w c' w'):KC c w c' w':=⟨h.base,h.top,Aq h.I,h.R⟩
theorem NF{c c':Ctx}(h:∀b,c.I b->c'.I b/\w'.heap[b]?=w.heap[b]?){f:Nat}(hf:sD c w f us v):sD c' w' f us v:=by
 rcases hf with hf|⟨h1,l,rec,h2,h3,h4,h5⟩
 ·exact .inl hf
 ·exact .inr ⟨h1,l,rec,h2,(h l h3).1,(h l h3).2.trans h4,h5⟩
theorem ju.refl(c:Ctx)(w:World):ju c w c w:=
 ⟨rfl,aX _,λ_ h=>⟨h,rfl⟩,λ_ row h=>⟨row,h,rfl,rfl,rfl,rfl,rfl,Iff.rfl,λ_ arr h=>⟨arr,h,rfl⟩⟩⟩
theorem ju.trans{c c' UR:Ctx}(h:ju c w c' w')(g:ju c' w' UR Il):ju c w UR Il:=by
 refine⟨g.base.trans h.base,bL h.top g.top,λb hb=>⟨(g.I b (h.I b hb).1).1,(g.I b (h.I b hb).1).2.trans (h.I b hb).2⟩,λr row hr=>?_⟩
 obtain⟨aq,h1,h2,h3,h4,h5,h6,hV,h7⟩:=h.R r row hr
 obtain⟨tD,g1,g2,g3,g4,g5,g6,gV,g7⟩:=g.R r aq h1
 refine⟨tD,g1,g2.trans h2,g3.trans h3,g4.trans h4,g5.trans h5,g6.trans h6,gV.trans hV,λnv arr ha=>?_⟩
 obtain⟨iX,jV,hs⟩:=h7 nv arr ha
 obtain⟨Sp,Sq,jk⟩:=g7 (λe=>nv (hV.1 e)) iX (by rw[h6,h3];exact jV)
 exact⟨Sp,by rw[h6,h3]at Sq;exact Sq,jk.trans hs⟩
theorem Z59{c c':Ctx}(h:KC c w c' w'):∀{d:D} {v:Value},(∀f cs,d≠.gv f cs)->dc c w d v->dc c' w' d v:=by
 intro d v ia hd
 cases d with
 |sl sz es fr=>
  simp only[dc]at hd⊢
  obtain⟨a,cap,hv,hc,gz⟩:=hd
  refine⟨a,cap,hv,hc,?_⟩
  rcases gz with gz|⟨b,off,arr,ty,fz,ha,hI,hf,hh,hE⟩
  ·exact .inl gz
  ·exact .inr ⟨b,off,arr,ty,fz,ha,(h.I b arr ty fz hI hh).1,λe=>by rw[h.base];exact hf e,(h.I b arr ty fz hI hh).2,ND h.I _ arr off sz hE⟩
 |all r=>
  simp only[dc]at hd⊢
  obtain⟨row,hr,hb,hd⟩:=hd
  obtain⟨aq,g1,g2,g3,g4,g5,g6,gV,g7⟩:=h.R r row hr
  refine⟨aq,g1,g2.trans hb,?_⟩
  rcases hd with⟨hV,hv⟩|⟨hV,cap,arr,hv,h1,h2,h3,h4⟩
  ·obtain⟨a,hv,ho⟩:=hv
   exact .inl ⟨gV.2 hV,a,hv,ho.mono h.top⟩
  ·obtain⟨iX,jV,hs⟩:=g7 hV arr h3
   exact .inr ⟨λe=>hV (gV.1 e),cap,iX,by rw[hv,g5,g6],by rw[g5];exact h1,h2,by rw[g6,g3];exact jV,by rw[g4,hs];exact h4⟩
 |emp=>
  obtain⟨a,hv,ho⟩:=hd
  exact⟨a,hv,ho.mono h.top⟩
 |own r o n=>
  simp only[dc]at hd⊢
  obtain⟨row,hr,hb,ho,hd⟩:=hd
  obtain⟨aq,g1,g2,g3,g4,g5,g6,gV,g7⟩:=h.R r row hr
  refine⟨aq,g1,g2.trans hb,by rw[g5];exact ho,?_⟩
  rcases hd with⟨h0,a,hv,jI⟩|⟨hV,cap,arr,h1,h2,h3,h4,h5⟩
  ·exact .inl ⟨h0,a,hv,jI.mono h.top gV g6⟩
  ·obtain⟨iX,jV,hs⟩:=g7 hV arr h3
   exact .inr ⟨λe=>hV (gV.1 e),cap,iX,h1,h2,by rw[g6,g3];exact jV,by rw[g4,g6];exact h4,by rw[g4,hs];exact h5⟩
 |ptr r i off=>
  simp only[dc]at hd⊢
  obtain⟨row,hr,hV,hi,hv⟩:=hd
  obtain⟨aq,g1,g2,g3,g4,g5,g6,gV,g7⟩:=h.R r row hr
  exact⟨aq,g1,λe=>hV (gV.1 e),by rw[g5];exact hi,by rw[hv,g6,g4]⟩
 |pa r i off len k n=>
  simp only[dc]at hd⊢
  obtain⟨hn,row,hr,hV,hi,hv⟩:=hd
  obtain⟨aq,g1,g2,g3,g4,g5,g6,gV,g7⟩:=h.R r row hr
  exact⟨hn,aq,g1,λe=>hV (gV.1 e),by rw[g5];exact hi,by rw[hv,g6,g4]⟩
 |iu sz es i off=>
  simp only[dc]at hd⊢
  obtain⟨b,o,arr,ty,fz,hv,hI,hi,hh,hE⟩:=hd
  exact⟨b,o,arr,ty,fz,hv,(h.I b arr ty fz hI hh).1,hi,(h.I b arr ty fz hI hh).2,ND h.I _ arr o sz hE⟩
 |gw r=>
  rcases hd with hd|⟨row,hr,hV,hi,hv⟩
  ·exact .inl hd
  ·obtain⟨aq,g1,g2,g3,g4,g5,g6,gV,g7⟩:=h.R r row hr
   exact .inr ⟨aq,g1,λe=>hV (gV.1 e),by rw[g5];exact hi,by rw[hv,g6,g4]⟩
 |gv f cs=>exact absurd rfl (ia f cs)
 |_=>exact hd
theorem Zhc{c c':Ctx}(h:ju c w c' w'){d:D}(ia:∀f cs,d≠.gv f cs)(hd:dc c w d v):dc c' w' d v:=Z59 h.to0 ia hd
theorem Zlp{c c':Ctx}{w w':World}{S:Nat->Prop}{f:Nat->Nat}{dv:Bool}{Fk:Nat->Prop}(g:∀d v,(∀f cs,d≠.gv f cs)->(∀r∈ou d,S r)->dc c w d v->dc c' w' (d.na f dv) v)(gF:∀k ws v,Fk k->sD c w k ws v->sD c' w' k ws v):
 ∀{cs:List iS} {us:List Value},(∀k ps,iS.fn k ps∈cs->Fk k)->(∀r∈r9 cs,S r)->pr c w cs us->pr c' w' (cs.map (iS.jB f dv)) us
 |[],[],_,_,_=>trivial
 |x ::cs,u::us,hF,hS,⟨h1,h2⟩=>by
  refine⟨?_,Zlp g gF (λk ps hm=>hF k ps (by simp[hm])) (λr hr=>hS r (by simp[r9,hr])) h2⟩
  have WG:∀r∈DH x,S r:=λr hr=>hS r (by simp[r9,hr])
  cases x with
  |fn k ps=>
   obtain⟨ws,hv,hw⟩:=h1
   refine⟨ws,gF k ws u (hF k ps (by simp)) hv,?_⟩
   have hS2:∀p∈ps,S p.1:=λp hp=>WG _ (by simp only[DH,List.mem_map];exact⟨p,hp,rfl⟩)
   clear hv WG hS h2 hF
   induction ps generalizing ws with
   |nil=>cases ws<;>exact hw
   |cons p ps ih=>
    cases ws with
    |nil=>exact hw.elim
    |cons v ws=>exact⟨g (.ptr p.1 p.2.1 p.2.2) v (λ_ _ e=>by cases e) (λr hr=>by simp[ou]at hr;subst hr;exact hS2 p (by simp)) hw.1,ih ws hw.2 (λq hq=>hS2 q (by simp[hq]))⟩
  |ptr r i off=>exact g (.ptr r i off) u (λ_ _ e=>by cases e) WG h1
  |int k n=>exact h1
  |arr r=>exact g (.all r) u (λ_ _ e=>by cases e) WG h1
  |sl a b fr=>exact g (.sl a b fr) u (λ_ _ e=>by cases e) (λr hr=>by simp[ou]at hr) h1
 |[],_::_,_,_,h=>h.elim
 |_::_,[],_,_,h=>h.elim
theorem xw{d:D}(h:∀f cs,d≠.gv f cs):d.na (λr=>r) true=d:=by cases d<;>first|(simp[D.na];done)|exact absurd rfl (h _ _)
theorem Zb2:∀{cs:List iS},cs.map (iS.jB (λr=>r) true)=cs
 |[]=>rfl
 |x::l=>by
  simp only[fX,Zb2 (cs:=l)]
  congr 1
  cases x<;>simp[iS.jB]
theorem Zhi{c c':Ctx}(g:∀d v,(∀f cs,d≠.gv f cs)->(∀r∈ou d,S r)->dc c w d v->dc c' w' d v)(gF:∀k ws v,Fk k->sD c w k ws v->sD c' w' k ws v)(hF:∀k ps,iS.fn k ps∈cs->Fk k)(hS:∀r∈r9 cs,S r)(h:pr c w cs us):pr c' w' cs us:=by
 have:=Zlp (f:=λr=>r) (dv:=true) (λd v h1 h2 h3=>by rw[xw h1];exact g d v h1 h2 h3) gF hF hS h
 rwa [Zb2]at this
theorem Zdl{c c':Ctx}(g:∀d v,(∀f cs,d≠.gv f cs)->(∀r∈ou d,S r)->dc c w d v->dc c' w' d v)(gF:∀b,c.I b->c'.I b/\w'.heap[b]?=w.heap[b]?)(hS:∀r∈r9 cs,S r)(h:pr c w cs us):pr c' w' cs us:=
 Zhi (Fk:=λ_=>True) g (λ_ _ _ _=>NF gF) (λ_ _ _=>trivial) hS h
theorem UK{c c':Ctx}(h:ju c w c' w'){d:D}(hd:dc c w d v):dc c' w' d v:=by
 by_cases e:∃f cs,d=.gv f cs
 ·obtain⟨f,cs,rfl⟩:=e
  obtain⟨us,hv,hu⟩:=hd
  exact⟨us,NF h.I hv,Zdl (S:=λ_=>True) (λd v h1 _ h2=>Zhc h h1 h2) h.I (λ_ _=>trivial) hu⟩
 ·exact Zhc h (λf cs e'=>e ⟨f,cs,e'⟩) hd
theorem OI{l:List Nat}(h:rW l=true){k:Nat}(hk:k∈l):k<YB:=lE (List.all_eq_true.1 h k hk)
theorem Zuu:∀{cs:List iS} {k:Nat} {ps:List (Nat×Nat×Nat)},iS.fn k ps∈cs->k∈Bo cs
 |x ::l,k,ps,hm=>by
  rcases List.mem_cons.1 hm with e|e
  ·subst e;simp[Bo]
  ·have:=Zuu e
   cases x<;>simp[Bo,this]
 |[],_,_,hm=>by simp at hm
section
variable {c c':Ctx} {w w':World} (h:KC c w c' w') {Fk:Nat->Prop} (gF:∀k ws v,Fk k->sD c w k ws v->sD c' w' k ws v)
include h gF
theorem Zby{d:D}(hn:∀k∈Bp d,Fk k)(hd:dc c w d v):dc c' w' d v:=by
 by_cases e:∃f cs,d=.gv f cs
 ·obtain⟨f,cs,rfl⟩:=e
  obtain⟨us,hv,hu⟩:=hd
  exact⟨us,gF _ _ _ (hn f (by simp[Bp])) hv,Zhi (S:=λ_=>True) (Fk:=Fk) (λd v h1 _ h2=>Z59 h h1 h2) gF (λk ps hm=>hn k (by simp[Bp,Zuu hm])) (λ_ _=>trivial) hu⟩
 ·exact Z59 h (λf cs e'=>e ⟨f,cs,e'⟩) hd
theorem Zix:∀{ds:List D} {vs:List Value},(∀k∈sd ds,Fk k)->jG c w ds vs->jG c' w' ds vs
 |[],[],_,_=>trivial
 |_::_,_::_,hn,⟨h1,h2⟩=>⟨Zby h gF (λk hk=>hn k (by simp[sd,hk])) h1,Zix (λk hk=>hn k (by simp[sd,hk])) h2⟩
 |[],_::_,_,h=>h.elim
 |_::_,[],_,h=>h.elim
theorem Zn2{d:D}(hn:∀k∈Gr d,Fk k)(hd:VRep c w d v):VRep c' w' d v:=by
 cases d with
 |agg cs=>obtain⟨vs,hv,hr⟩:=hd;exact⟨vs,hv,Zix h gF hn hr⟩
 |_=>simp only[VRep]at hd⊢;exact Zby h gF hn hd
theorem Z5f:∀{ds:List D} {vs:List Value},(∀k∈o6 ds,Fk k)->kJ c w ds vs->kJ c' w' ds vs
 |[],[],_,_=>trivial
 |_::_,_::_,hn,⟨h1,h2⟩=>⟨Zn2 h gF (λk hk=>hn k (by simp[o6,hk])) h1,Z5f (λk hk=>hn k (by simp[o6,hk])) h2⟩
 |[],_::_,_,h=>h.elim
 |_::_,[],_,h=>h.elim
theorem Zvh{d:D}(hn:∀k∈DI d,Fk k)(hd:Rep c w d v):Rep c' w' d v:=by
 cases d with
 |dw ds=>obtain⟨vs,hv,hr⟩:=hd;exact⟨vs,hv,Z5f h gF hn hr⟩
 |dead=>trivial
 |_=>simp only[Rep]at hd⊢;exact Zn2 h gF hn hd
theorem Zce:∀{ds:List D} {arr:Array Value} {off:Nat},(∀k∈sd ds,Fk k)->lg c w ds arr off->lg c' w' ds arr off
 |[],_,_,_,_=>trivial
 |_::_,_,_,hn,⟨⟨v,hv,h1⟩,h2⟩=>⟨⟨v,hv,Zby h gF (λk hk=>hn k (by simp[sd,hk])) h1⟩,Zce (λk hk=>hn k (by simp[sd,hk])) h2⟩
end
theorem Zgq{c c':Ctx}{w w':World}(h:ju c w c' w'):∀{ds:List D} {vs:List Value},jG c w ds vs->jG c' w' ds vs
 |[],[],_=>trivial
 |_::_,_::_,⟨h1,h2⟩=>⟨UK h h1,Zgq h h2⟩
theorem Zoq{c c':Ctx}(h:ju c w c' w'):∀{d:D} {v:Value},VRep c w d v->VRep c' w' d v:=by
 intro d v hd
 cases d with
 |agg cs=>obtain⟨vs,hv,hr⟩:=hd;exact⟨vs,hv,Zgq h hr⟩
 |_=>simp only[VRep]at hd⊢;exact UK h hd
theorem YQ{c c':Ctx}{w w':World}(h:ju c w c' w'):∀{ds:List D} {vs:List Value},kJ c w ds vs->kJ c' w' ds vs
 |[],[],_=>trivial
 |_::_,_::_,⟨h1,h2⟩=>⟨Zoq h h1,YQ h h2⟩
theorem AN{c c':Ctx}(h:ju c w c' w'):∀{d:D} {v:Value},Rep c w d v->Rep c' w' d v:=by
 intro d v hd
 cases d with
 |dw ds=>obtain⟨vs,hv,hr⟩:=hd;exact⟨vs,hv,YQ h hr⟩
 |dead=>trivial
 |_=>simp only[Rep]at hd⊢;exact Zoq h hd
theorem OE{c c':Ctx}{w w':World}(h:ju c w c' w'):∀{ds:List D} {arr:Array Value} {off:Nat},lg c w ds arr off->lg c' w' ds arr off
 |[],_,_,_=>trivial
 |_::_,_,_,⟨⟨v,hv,h1⟩,h2⟩=>⟨⟨v,hv,UK h h1⟩,OE h h2⟩
def Ba(I:ab)(w:World):Prop:=∀x∈Hu,I x.1/\∃ty fz,w.heap[x.1]?=some (.cells (x.2.2.map λz=>Value.int x.2.1 z).toArray ty fz)
theorem Ba.Im(h:Ba I w)(g:∀b arr ty fz,I b->w.heap[b]?=some (.cells arr ty fz)->I' b/\w'.heap[b]?=some (.cells arr ty fz)):Ba I' w':=λx hx=>by
 obtain⟨h1,ty,fz,h2⟩:=h x hx
 exact⟨(g _ _ _ _ h1 h2).1,ty,fz,(g _ _ _ _ h1 h2).2⟩
theorem Ba.mono(h:Ba I w)(g:∀b,I b->I' b/\w'.heap[b]?=w.heap[b]?):Ba I' w':=h.Im (Aq g)
structure Mem(c:Ctx)(w:World):Prop where
 row:∀r row,c.R r=some row->Fv c w r row
 inj:∀r s x y,c.R r=some x->c.R s=some y->¬c.V r->¬c.V s->c.ρ r=c.ρ s->r=s
 fk:∀b,c.I b->b<w.heap.size/\∀r x,c.R r=some x->¬c.V r->c.ρ r≠b
 top:c.top<=w.heap.size
 kb:Ba c.I w
theorem Zjo{c:Ctx}(hm:Mem c w)(h:KC c w {c with I:=I} w')(hh:∀r x,c.R r=some x->¬c.V r->w'.heap[c.ρ r]?=w.heap[c.ρ r]?)(gF:∀k ws v,Fk k->sD c w k ws v->sD {c with I:=I} w' k ws v)
 (hn:∀r x,c.R r=some x->∀k∈kY [x],Fk k) (hI:∀b,I b->b<w'.heap.size/\∀r x,c.R r=some x->¬c.V r->c.ρ r≠b) (hs:w.heap.size<=w'.heap.size):Mem {c with I:=I} w':=by
 refine⟨λr row hr=>?_,hm.inj,λb hb=>hI b hb,bL hm.top hs,hm.kb.Im h.I⟩
 rcases hm.row r row hr with g|⟨g0,arr,g1,g2,g3⟩
 ·exact .inl g
 ·refine .inr ⟨g0,arr,(hh r row hr g0).trans g1,g2,?_⟩
  split at g3
  ·rename_i hb
   rw[if_pos hb]
   obtain⟨e,k1,k2,k3,k4⟩:=g3
   refine⟨e,k1,k2,k3,Zce h gF (λk hk=>hn r row hr k ?_) k4⟩
   obtain⟨bx,ty,sz,es⟩:=row
   simp only at hb k1
   subst hb;subst k1
   simpa[kY]using hk
  ·rename_i hb
   rw[if_neg hb]
   exact ND h.I _ _ _ _ g3
theorem Mem.real{c:Ctx}(h:Mem c w)(hr:c.R r=some row)(hV:¬c.V r):Ar c w r row:=by
 rcases h.row r row hr with h1|h1
 ·exact(hV h1.1).elim
 ·exact h1.2
theorem Mem.nZ{c:Ctx}(h:Mem c w)(hr:c.R r=some row)(hV:c.V r):row.box=false/\row.es.l=[]/\0<row.sz:=by
 rcases h.row r row hr with h1|h1
 ·exact h1.2
 ·exact(h1.1 hV).elim
theorem Mem.lt{c:Ctx}(h:Mem c w)(hr:c.R r=some row)(hV:¬c.V r):c.ρ r<w.heap.size:=by
 obtain⟨arr,ha,_⟩:=h.real hr hV
 by_cases bc:c.ρ r<w.heap.size
 ·exact bc
 ·rw[Array.getElem?_eq_none (by omega)]at ha;cases ha
structure Fr(X:ab)(w w':World):Prop where
 os:w'.os=w.os
 tape:w'.tape=w.tape
 output:w'.output=w.output
 size:w.heap.size<=w'.heap.size
 heap:∀b,b<w.heap.size->¬X b->w'.heap[b]?=w.heap[b]?
theorem Fr.refl(X:ab)(w:World):Fr X w w:=⟨rfl,rfl,rfl,aX _,λ_ _ _=>rfl⟩
theorem Fr.trans(h:Fr X w w')(g:Fr X w' Il):Fr X w Il:=
 ⟨g.os.trans h.os,g.tape.trans h.tape,g.output.trans h.output,bL h.size g.size,λb hb hx=>(g.heap b (Nat.lt_of_lt_of_le hb h.size) hx).trans (h.heap b hb hx)⟩
theorem Fr.mono{X Y:ab}(h:Fr X w w')(hxy:∀b,b<w.heap.size->X b->Y b):Fr Y w w':=
 ⟨h.os,h.tape,h.output,h.size,λb hb hy=>h.heap b hb λhx=>hy (hxy b hb hx)⟩
def mJ(P:Program):Nat->TypeId->List rT
 |0,_=>[]
 |n+1,t=>match P.underlying t with
  |some (.int k)=>[.int k]
  |some .bool=>[.bool]
  |some .string=>[.str]
  |some (.slice e)=>[.sl (P.cellsOf e)]
  |some (.struct fs)=>fs.toList.flatMap λf=>mJ P n f.type
  |some (.array m e)=>(List.replicate m (mJ P n e)).flatten
  |_=>[.other]
def Io(P:Program)(t:TypeId):TK:=
 match P.underlying t with
 |some (.int k)=>.int k
 |some .bool=>.bool
 |some .string=>.string
 |some (.slice e)=>.slice e (P.cellsOf e)
 |some (.struct fs)=>.struct (fs.toList.map λf=>(f.offset,f.type,P.cellsOf f.type))
 |some (.array n e)=>.array n e (P.cellsOf e)
 |_=>.other
def WH(P:Program)(g:TypeId->Bool)(l:TypeId->Nat):List Field->Nat->Bool
 |[],_=>true
 |f::fs,o=>f.name != "_" &&bX f.offset o&&bX (P.cellsOf f.type) (l f.type)&&Nat.blt 0 (l f.type)&&g f.type&&WH P g l fs (o+l f.type)
def se(P:Program):Nat->TypeId->Bool
 |0,_=>false
 |n+1,t=>match P.underlying t with
  |some (.int _)=>true
  |some .bool=>true
  |some .string=>true
  |some (.struct fs)=>!P.stoodInHeld t&&WH P (se P n) (λu=>(mJ P n u).length) fs.toList 0
  |some (.array _ e)=>bX (P.cellsOf e) (mJ P n e).length&&Nat.blt 0 (P.cellsOf e)&&se P n e
  |_=>false
def Bq(P:Program)(t:TypeId):Option TI:=
 match P.info? t with
 |some i=>if(mJ P 8 t).length=i.size/\(P.underlying t).isSome=true then
  some ⟨Io P t,i.size,i.bytes,mJ P 8 t,i.zero.bind λz=>Cc z.cells.toList,!(P.eqGuardType P.depth t)&&se P 8 t⟩else none
 |none=>none
def jC(P:Program)(T:iz):Prop:=T.map (λx=>Bq P x.1)=T.map (λx=>some x.2)
theorem jC.get(h:jC P T){i:TI}(hi:T.get t=some i):Bq P t=some i:=by
 induction T with
 |nil=>simp[iz.get]at hi
 |cons x l ih=>
  obtain⟨u,j⟩:=x
  simp only[jC,fX,List.cons.injEq]at h
  simp only[iz.get]at hi
  cases hb:bX u t with
  |true=>
   simp only[hb,Option.some.injEq]at hi
   have:=bE hb
   subst this;subst hi
   exact h.1
  |false=>simp only[hb]at hi;exact ih h.2 hi
theorem nP{K:Rows->Prop}:∀{R:Rows},uB R K↔K R
 |[]=>Iff.rfl
 |d::l=>by unfold uB;exact nP (R:=l) (K:=λl=>K (d::l))
theorem D.c7{d:D}:d.force K↔K d:=by cases d<;>rfl
theorem D.ff:∀{l:List D} {K:List D->Prop},D.kr l K↔K l
 |[],_=>Iff.rfl
 |d::l,K=>by unfold D.kr;rw[D.c7];exact D.ff (l:=l) (K:=λl=>K (d::l))
theorem Zn9{row:Row}:∀{R:Rows} {n:Nat} {K:Nat->Rows->Prop},Au row R n K↔K (n+R.length) (R++[some row])
 |[],_,_=>Iff.rfl
 |x::l,n,K=>by
  unfold Au
  rw[Zn9 (R:=l) (K:=λk l=>K k (x::l))]
  simp only[dD,List.cons_append]
  rw[show n+1+l.length=n+(l.length+1) by omega]
theorem LH{K:Nat->Rows->Prop}:wy R row K↔K R.length (R++[some row]):=by
 unfold wy;rw[Zn9];simp
theorem gh.one{d:D}(h:gh I w d v):v.oneCell'=true:=by
 cases d<;>simp only[sR,sS,sU,sV,sW,sX,uo,Q9,uP,uQ,uR,uS,uT,uU,uV,uW,vX,Zyf,Zz9]at h
 case sl sz es fr=>obtain⟨a,cap,hv,_⟩:=h;subst hv;rfl
 case emp=>obtain⟨a,hv⟩:=h;subst hv;rfl
 all_goals first|(subst h;rfl)|exact h.elim
theorem dc.one{c:Ctx}{d:D}(h:dc c w d v):v.oneCell'=true:=by
 cases d<;>simp only[dc]at h
 case sl sz es fr=>obtain⟨a,cap,hv,_⟩:=h;subst hv;rfl
 case emp=>obtain⟨a,hv,_⟩:=h;subst hv;rfl
 case nA es=>obtain⟨b,hv,_⟩:=h;subst hv;rfl
 case all r=>obtain⟨row,_,_,⟨_,a,hv,_⟩|⟨_,cap,arr,hv,_⟩⟩:=h<;>(subst hv;rfl)
 case own r o n=>
  obtain⟨row,_,_,_,⟨_,a,hv,_⟩|⟨_,cap,arr,_,_,_,hv,_⟩⟩:=h<;>(subst hv;rfl)
 case ptr r i off=>obtain⟨row,_,_,_,hv⟩:=h;subst hv;rfl
 case pa r i off len k n=>obtain⟨_,row,_,_,_,hv⟩:=h;subst hv;rfl
 case iu sz es i off=>obtain⟨b,o,arr,ty,fz,hv,_⟩:=h;subst hv;rfl
 case gv f cs=>obtain⟨us,⟨_,hv⟩|⟨_,l,rec,hv,_⟩,_⟩:=h<;>(subst hv;rfl)
 case gw r=>obtain hv|⟨row,_,_,_,hv⟩:=h<;>(subst hv;rfl)
 all_goals first|exact h|(subst h;rfl)|exact h.elim
theorem WI{I:ab}{w:World}:∀{cs:List D} {arr:Array Value} {off j:Nat},py I w cs arr off->j<cs.length->∃v,arr[off+j]?=some v/\gh I w (cs.getD j .dead) v
 |c::cs,arr,off,0,h,_=>by
  simp only[EA,EB]at h
  simpa using h.1
 |c::cs,arr,off,j+1,h,hj=>by
  simp only[EA,EB]at h
  obtain⟨v,hv,hp⟩:=WI h.2 (gG (by simpa using hj))
  exact⟨v,by rw[show off+(j+1)=off+1+j by omega];exact hv,by simpa using hp⟩
theorem WJ{I:ab}{w:World}:∀{es:List (List D)} {arr:Array Value} {off sz i:Nat},im I w es arr off sz->i<es.length->(es.getD i []).length=sz/\py I w (es.getD i []) arr (off+i*sz)
 |e::es,arr,off,sz,0,h,_=>by
  simp only[rV,rF]at h
  simpa using⟨h.1,h.2.1⟩
 |e::es,arr,off,sz,i+1,h,hi=>by
  simp only[rV,rF]at h
  obtain⟨h1,h2⟩:=WJ h.2.2 (gG (by simpa using hi))
  exact⟨by simpa using h1,by rw[show off+(i+1)*sz=off+sz+i*sz by rw[Nat.succ_mul];omega];simpa using h2⟩
theorem Zi2{c:Ctx}{w:World}:∀{cs:List D} {arr:Array Value} {off j:Nat},lg c w cs arr off->j<cs.length->∃v,arr[off+j]?=some v/\dc c w (cs.getD j .dead) v
 |d::cs,arr,off,0,h,_=>by
  simp only[lg]at h
  simpa using h.1
 |d::cs,arr,off,j+1,h,hj=>by
  simp only[lg]at h
  obtain⟨v,hv,hp⟩:=Zi2 h.2 (gG (by simpa using hj))
  exact⟨v,by rw[show off+(j+1)=off+1+j by omega];exact hv,by simpa using hp⟩
theorem Fa{c:Ctx}{w:World}:∀{ds:List D} {vs:List Value},(jG c w ds vs↔ds.length=vs.length/\∀j v,vs[j]?=some v->dc c w (ds.getD j .dead) v)
 |[],[]=>by simp[jG]
 |[],v::vs=>by simp[jG]
 |d::ds,[]=>by simp[jG]
 |d ::ds,v::vs=>by
  simp only[jG,Fa (ds:=ds) (vs:=vs),dD,Nat.add_right_cancel_iff]
  constructor
  ·rintro⟨h1,h2,h3⟩
   refine⟨h2,λj u hu=>?_⟩
   cases j with
   |zero=>simp at hu;subst hu;simpa using h1
   |succ j=>simpa using h3 j u (by simpa using hu)
  ·rintro⟨h1,h2⟩
   exact⟨by simpa using h2 0 v (by simp),h1,λj u hu=>by simpa using h2 (j+1) u (by simpa using hu)⟩
def kG(pl:Bool)(c:Ctx)(w:World)(d:D)(v:Value):Prop:=match pl with|true=>gh c.I w d v|false=>dc c w d v
theorem Zqd{ty:rT}{d:D}(h:wz pl ty d K):∃d',K d'/\∀c w v,kG pl c w d v->dc c w d' v:=by
 cases ty with
 |int k=>
  simp only[wz,de]at h
  refine⟨_,h.2,λc w v hx=>?_⟩
  cases d<;>simp[D.isInt]at h
  obtain⟨rfl,_⟩:=h
  cases pl<;>simpa[kG,sR,sS,sU,sV,sW,sX,uo,Q9,uP,uQ,uR,uS,uT,uU,uV,uW,dc,D.toInt]using hx
 |bool=>
  simp only[wz,de]at h
  refine⟨_,h.2,λc w v hx=>?_⟩
  cases d<;>simp[D.isBool]at h
  cases pl<;>simpa[kG,sR,sS,sU,sV,sW,sX,uo,Q9,uP,uQ,uR,uS,uT,uU,uV,uW,dc,D.toBool]using hx
 |str=>
  simp only[wz,de]at h
  refine⟨_,h.2,λc w v hx=>?_⟩
  cases d<;>simp[D.isStr]at h
  cases pl<;>simpa[kG,sR,sS,sU,sV,sW,sX,uo,Q9,uP,uQ,uR,uS,uT,uU,uV,uW,dc,D.toStr]using hx
 |sl n=>
  cases pl with
  |true=>
   simp only[wz,de]at h
   refine⟨_,h.2,λc w v hx=>?_⟩
   cases d<;>(try(simp[D.Gs]at h;done))
   case c8=>exact⟨none,0,sW.1 hx,Nat.zero_le _,.inl rfl⟩
   case emp=>obtain⟨a,ha⟩:=sX.1 hx;exact⟨a,0,ha,Nat.zero_le _,.inl rfl⟩
   simp only[D.Gs]at h
   have hh:=bE h.1
   subst hh
   simp only[kG,sR,sS,sU,sV,sW,sX,uo,Q9,uP,uQ,uR,uS,uT,uU,uV,uW]at hx
   simp only[dc,D.toEs]
   obtain⟨a,cap,hv,hc,gz⟩:=hx
   refine⟨a,cap,hv,hc,?_⟩
   rcases gz with gz|⟨b,off,arr,ty,fz,ha,hI,hh,hE⟩
   ·exact .inl gz
   ·exact .inr ⟨b,off,arr,ty,fz,ha,hI,by simp,hh,U0.1 hE⟩
  |false=>
   simp only[wz,de,D.c7]at h
   exact⟨_,h.2,λc w v hx=>hx⟩
 |other=>
  cases pl with
  |false=>
   simp only[wz,de,D.c7]at h
   exact⟨_,h.2,λc w v hx=>hx⟩
  |true=>
   simp only[wz]at h
   cases d<;>simp only at h
   case iQ=>exact⟨_,h,λc w v hx=>sV.1 hx⟩
theorem Zhq{pl:Bool}{e:List D}:∀{dh:List rT} {off:Nat} {K:List D->Prop},Fb pl e dh off K->
 ∃ds,K ds/\ds.length=dh.length/\∀j,j<dh.length->∀c w v,kG pl c w (e.getD (off+j) .dead) v->dc c w (ds.getD j .dead) v
 |[],off,K,h=>⟨[],h,rfl,λj hj=>by simp at hj⟩
 |t::ts,off,K,h=>by
  simp only[Fb]at h
  obtain⟨d,hd,h1⟩:=Zqd h
  obtain⟨ds,Fc,hl,h2⟩:=Zhq hd
  refine⟨d::ds,Fc,by simp[hl],λj hj c w v hx=>?_⟩
  cases j with
  |zero=>simpa using h1 c w v (by simpa using hx)
  |succ j=>simpa using h2 j (by simpa using hj) c w v (by rw[show off+1+j=off+(j+1) by omega];exact hx)
theorem Ez(h:Bq P t=some ti):∃i,P.info? t=some i/\i.size=ti.size/\i.bytes=ti.bytes/\ti.tH.length=ti.size/\ti.kind=Io P t/\
 ti.zero=(i.zero.bind λz=>Cc z.cells.toList)/\ti.eq=(!(P.eqGuardType P.depth t)&&se P 8 t)/\ti.tH=mJ P 8 t/\∃d,P.underlying t=some d:=by
 unfold Bq at h
 cases hi:P.info? t with
 |none=>simp[hi]at h
 |some i=>
  simp only[hi]at h
  split at h
  ·rename_i hl
   simp only[Option.some.injEq]at h
   subst h
   exact⟨i,rfl,rfl,rfl,hl.1,rfl,rfl,rfl,rfl,Option.isSome_iff_exists.1 hl.2⟩
  ·cases h
def Sr:TypeDesc->Bool|.struct _=>true|.array _ _=>true|_=>false
theorem NG(hd:P.underlying t=some d):(Io P t).isAgg=Sr d:=by
 unfold Io
 rw[hd]
 cases d<;>rfl
theorem Za(hd:P.underlying t=some d)(w:World):(isAgg t).run P w=.ok (Io P t).isAgg w:=by
 rw[NG hd]
 unfold isAgg
 rw[Sem.run_bind,run_underlying hd w]
 cases d<;>rfl
def Br(arr:Array Value)(o n:Nat):List Value:=(List.range n).map λj=>(arr[o+j]?).getD undef
theorem Gm(b o j:Nat):(⟨b,o,none⟩:Addr).add j=⟨b,o+j,none⟩:=by
 unfold Addr.add;split<;>simp_all
theorem Qpi(ht:Bq P t=some ti){b o:Nat}{arr:Array Value}{ty:TypeId}{fz:Nat×Nat}(hb:w.heap[b]?=some (.cells arr ty fz))
 (Vp:∀j,j<ti.size->∃v,arr[o+j]?=some v) (h1:ti.kind.isAgg=true\/ti.size=1):
 (loadVar t ⟨b,o,none⟩).run P w=.ok (if ti.kind.isAgg then .agg (Br arr o ti.size).toArray else(arr[o]?).getD undef) w:=by
 obtain⟨i,hi,hs,_,_,hk,_,_,_,d,hd⟩:=Ez ht
 have Av:∀j,w.cell? ⟨b,o+j,none⟩=arr[o+j]? :=λj=>by simp[World.cell?,hb]
 have hl:(loadCells ⟨b,o,none⟩ ti.size).run P w=.ok (Br arr o ti.size).toArray w:=
  run_loadCells w _ _ _ λj hj=>by
   rw[Gm,Av]
   obtain⟨v,hv⟩:=Vp j hj
   simp[hv]
 unfold loadVar
 rw[Sem.run_bind,Za hd,Result.andThen_ok,<-hk]
 cases hg:ti.kind.isAgg with
 |true=>
  simp only[if_true,Sem.run_bind,sizeOf,typeInfo,run_program,Result.andThen_ok,hi,Sem.run_pure,hs,hl]
 |false=>
  have ga:ti.size=1:=by simpa[hg]using h1
  obtain⟨v,hv⟩:=Vp 0 (by omega)
  have Fj:arr[o]?=some v:=by simpa using hv
  have hc:w.cell? ⟨b,o,none⟩=some v:=by simpa[Fj]using Av 0
  simp[hc,Fj]
theorem Zpa{e:List D}(hl:ti.tH.length=ti.size)(h:wA pl ti e off K):
 ∃ val,K val/\(ti.kind.isAgg=true\/ti.size=1)/\∀c w arr o,(∀j,j<ti.size->∃v,arr[o+j]?=some v/\kG pl c w (e.getD (off+j) .dead) v)->
  Rep c w val (if ti.kind.isAgg then .agg (Br arr o ti.size).toArray else(arr[o]?).getD undef):=by
 unfold wA at h
 cases hg:ti.kind.isAgg with
 |true=>
  simp only[hg]at h
  obtain⟨ds,hK,hlen,hr⟩:=Zhq h
  refine⟨_,hK,.inl rfl,λc w arr o hx=>?_⟩
  simp only[if_true]
  refine⟨_,rfl,Fa.2 ⟨by simp[Br,hlen,hl],λj v hv=>?_⟩⟩
  have hj:j<ti.size:=by
   have:=(List.getElem?_eq_some_iff.1 hv).1
   simpa[Br]using this
  obtain⟨u,hu,DJ⟩:=hx j hj
  have:u=v:=by simpa[Br,hj,hu]using hv
  subst this
  exact hr j (by omega) c w u DJ
 |false=>
  simp only[hg]at h
  match hc:ti.tH with
  |[y]=>
   simp only[hc]at h
   obtain⟨d,hK,hr⟩:=Zqd h
   have ga:ti.size=1:=by rw[<-hl,hc];rfl
   refine⟨d,hK,.inr ga,λc w arr o hx=>?_⟩
   obtain⟨u,hu,DJ⟩:=hx 0 (by omega)
   have WK:arr[o]?=some u:=by simpa using hu
   simp only[aA,if_false,WK,Option.getD_some]
   have:=hr c w u (by simpa using DJ)
   cases d<;>first|exact this|trivial|exact this.elim
  |[]=>simp only[hc]at h
  |_::_::_=>simp only[hc]at h
def mN(c:Ctx)(R:Rows):Prop:=∀r row aq,c.R r=some row->R.getD r none=some aq->row=aq
theorem AW(w:World)(o:Obj)(b:Nat)(h:b<w.heap.size):(w.alloc o).heap[b]?=w.heap[b]? :=by
 show(w.heap.push o)[b]?=w.heap[b]?
 rw[Array.getElem?_push,if_neg (Nat.ne_of_lt h)]
theorem WL(w:World)(o:Obj):(w.alloc o).heap[w.heap.size]?=some o:=by
 show(w.heap.push o)[w.heap.size]?=some o
 simp
def Ctx.add(c:Ctx)(k:Nat)(row:Row)(b:Nat):Ctx:={c with R:=λr=>if r=k then some row else c.R r,ρ:=λr=>if r=k then b else c.ρ r,V:=λr=>r≠k/\c.V r}
theorem Ctx.jr(c:Ctx)(k:Nat)(row:Row)(b:Nat):(c.add k row b).R k=some row/\(c.add k row b).ρ k=b:=by simp[Ctx.add]
theorem ju.alloc{c:Ctx}(hm:Mem c w){k:Nat}(hk:c.R k=none)(row:Row)(o:Obj):ju c w (c.add k row w.heap.size) (w.alloc o):=by
 refine⟨rfl,aX _,λb hb=>⟨hb,AW w o b (hm.fk b hb).1⟩,λr x hr=>?_⟩
 have ia:r≠k:=λe=>by rw[e,hk]at hr;cases hr
 refine⟨x,by simp[Ctx.add,ia,hr],rfl,rfl,rfl,rfl,by simp[Ctx.add,ia],by simp[Ctx.add,ia],λnv arr ha=>⟨arr,?_,rfl⟩⟩
 rw[AW w o _ (hm.lt hr nv)];exact ha
theorem Fr.alloc(X:ab)(w:World)(o:Obj):Fr X w (w.alloc o):=
 ⟨rfl,rfl,rfl,by show w.heap.size<=(w.heap.push o).size;simp,λb hb _=>AW w o b hb⟩
theorem uf{c c':Ctx}(h:ju c w c' w')(Ss:c'.ρ r=c.ρ r)(hV:c'.V r↔c.V r)(hh:¬c.V r->w'.heap[c.ρ r]?=w.heap[c.ρ r]?)(hr:Fv c w r row):Fv c' w' r row:=by
 rcases hr with⟨h0,hr⟩|⟨h0,hr⟩
 ·exact .inl ⟨hV.2 h0,hr⟩
 refine .inr ⟨λe=>h0 (hV.1 e),?_⟩
 obtain⟨arr,ha,hs,hx⟩:=hr
 refine⟨arr,by rw[Ss,hh h0];exact ha,hs,?_⟩
 split
 ·rename_i hb
  simp only[hb,if_true]at hx
  obtain⟨e,h1,h2,h3,h4⟩:=hx
  exact⟨e,h1,h2,h3,OE h h4⟩
 ·rename_i hb
  simp only[hb,if_false,aA]at hx
  exact ob h.I _ _ _ _ hx
theorem Mem.alloc{c:Ctx}(hm:Mem c w){k:Nat}(hk:c.R k=none)(row:Row)(arr:Array Value)(hs:0<row.sz)
 (hx:if row.box then∃e,row.es=.gen [e]/\e.length=row.sz/\arr.size=row.sz/\lg c w e arr 0 else im c.I w row.es.l arr 0 row.sz):
 Mem (c.add k row w.heap.size) (w.alloc (.cells arr row.ty)):=by
 have hg:=ju.alloc hm hk row (.cells arr row.ty)
 refine⟨λr x hr=>?_,λr s x y hr jk KD NH he=>?_,λb hb=>?_,bL hm.top (by show w.heap.size<=(w.heap.push _).size;simp),hm.kb.mono hg.I⟩
 ·by_cases e:r=k
  ·subst e
   simp only[Ctx.add,if_true,Option.some.injEq]at hr
   subst hr
   refine .inr ⟨by simp[Ctx.add],arr,by simp only[Ctx.add,if_true];exact WL w _,hs,?_⟩
   split
   ·rename_i hb
    simp only[hb,if_true]at hx
    obtain⟨e,h1,h2,h3,h4⟩:=hx
    exact⟨e,h1,h2,h3,OE hg h4⟩
   ·rename_i hb
    simp only[hb,if_false,aA]at hx
    exact ob hg.I _ _ _ _ hx
  ·have rz:c.R r=some x:=by simpa[Ctx.add,e]using hr
   exact uf hg (by simp[Ctx.add,e]) (by simp[Ctx.add,e]) (λnv=>AW w _ _ (hm.lt rz nv)) (hm.row r x rz)
 ·by_cases e1:r=k<;>by_cases e2:s=k
  ·exact e1.trans e2.symm
  ·exfalso
   have h2:c.R s=some y:=by simpa[Ctx.add,e2]using jk
   have:=hm.lt h2 (by simpa[Ctx.add,e2]using NH)
   simp[Ctx.add,e1,e2]at he
   omega
  ·exfalso
   have h1:c.R r=some x:=by simpa[Ctx.add,e1]using hr
   have:=hm.lt h1 (by simpa[Ctx.add,e1]using KD)
   simp[Ctx.add,e1,e2]at he
   omega
  ·exact hm.inj r s x y (by simpa[Ctx.add,e1]using hr) (by simpa[Ctx.add,e2]using jk) (by simpa[Ctx.add,e1]using KD) (by simpa[Ctx.add,e2]using NH) (by simpa[Ctx.add,e1,e2]using he)
 ·have su:c.I b:=hb
  obtain⟨h1,h2⟩:=hm.fk b su
  refine⟨by show b<(w.heap.push _).size;simp;omega,λr x hr hv=>?_⟩
  by_cases e:r=k
  ·simp only[Ctx.add,e,if_true];omega
  ·simpa[Ctx.add,e]using h2 r x (by simpa[Ctx.add,e]using hr) (by simpa[Ctx.add,e]using hv)
theorem Ar.get{c:Ctx}(h:Ar c w r row){i off n:Nat}(hi:i<row.es.l.length)(hn:off+n<=row.sz):
 ∃arr,w.heap[c.ρ r]?=some (.cells arr row.ty (0,0))/\∀j,j<n->∃v,arr[i*row.sz+off+j]?=some v/\kG (!row.box) c w ((row.es.l.getD i []).getD (off+j) .dead) v:=by
 obtain⟨arr,ha,hs,hx⟩:=h
 refine⟨arr,ha,λj hj=>?_⟩
 cases hb:row.box with
 |true=>
  simp only[hb,if_true]at hx
  obtain⟨e,h1,h2,h3,h4⟩:=hx
  have rp:i=0:=by rw[h1]at hi;simpa[ag.l]using hi
  subst rp
  obtain⟨v,hv,hp⟩:=Zi2 h4 (j:=off+j) (by omega)
  exact⟨v,by simpa using hv,by simpa[kG,h1,ag.l]using hp⟩
 |false=>
  simp only[hb,if_false,aA]at hx
  obtain⟨h1,h2⟩:=WJ hx hi
  obtain⟨v,hv,hp⟩:=WI h2 (j:=off+j) (by omega)
  exact⟨v,by simpa[gH]using hv,by simpa[kG]using hp⟩
theorem WM:∀{e:List D} {len off n:Nat},n<len->(ints e off len).getD n 0=(e.getD (off+n) .dead).toInt
 |e,len+1,off,0,_=>by simp[ints]
 |e,len+1,off,n+1,h=>by
  have:=WM (e:=e) (len:=len) (off:=off+1) (n:=n) (by omega)
  rw[show off+1+n=off+(n+1) by omega]at this
  simpa[ints]using this
theorem WN:∀{e:List D} {len off n:Nat},n<len->(ah e off len).getD n false=(e.getD (off+n) .dead).toBool
 |e,len+1,off,0,_=>by simp[ah]
 |e,len+1,off,n+1,h=>by
  have:=WN (e:=e) (len:=len) (off:=off+1) (n:=n) (by omega)
  rw[show off+1+n=off+(n+1) by omega]at this
  simpa[ah]using this
theorem WO{k:IntKind}:∀{e:List D} {len off n:Nat},DK k e off len=true->n<len->(e.getD (off+n) .dead).isInt k=true
 |e,len+1,off,0,h,_=>by simp only[DK,aE]at h;exact h.1
 |e,len+1,off,n+1,h,hn=>by
  simp only[DK,aE]at h
  have:=WO h.2 (n:=n) (by omega)
  rwa [show off+1+n=off+(n+1) by omega]at this
theorem WQ:∀{e:List D} {len off n:Nat},Ip e off len=true->n<len->(e.getD (off+n) .dead).isBool=true
 |e,len+1,off,0,h,_=>by simp only[Ip,aE]at h;exact h.1
 |e,len+1,off,n+1,h,hn=>by
  simp only[Ip,aE]at h
  have:=WQ h.2 (n:=n) (by omega)
  rwa [show off+1+n=off+(n+1) by omega]at this
theorem D.kH{d:D}(h:d.isInt k=true):d=.int k d.toInt:=by
 cases d<;>simp[D.isInt]at h
 subst h;rfl
theorem D.kI{d:D}(h:d.isBool=true):d=.bool d.toBool:=by
 cases d<;>simp[D.isBool]at h
 rfl
theorem kG.int{c:Ctx}{n:Int}(h:kG pl c w (.int k n) v):v=.int k n:=by
 cases pl<;>simpa[kG,sR,sS,sU,sV,sW,sX,uo,Q9,uP,uQ,uR,uS,uT,uU,uV,uW,dc]using h
theorem kG.bool{c:Ctx}{b:Bool}(h:kG pl c w (.bool b) v):v=.bool b:=by
 cases pl<;>simpa[kG,sR,sS,sU,sV,sW,sX,uo,Q9,uP,uQ,uR,uS,uT,uU,uV,uW,dc]using h
theorem WR(ht:Bq P t=some ti)(hk:(ti.kind.isAgg||match ti.kind with|.other=>true|_=>false)=false):ti.size=1:=by
 obtain⟨_,_,_,_,hl,nL,_,_,hc,_⟩:=Ez ht
 rw[<-hl,hc]
 rw[nL]at hk
 unfold Io at hk
 unfold mJ
 split at hk<;>first|rfl|(simp[TK.isAgg]at hk)
theorem WS{a:Addr}:(Instr.loadAt t (.pointer (some a))).run P w=(loadVar t a).run P w:=by
 simp[Instr.loadAt,Instr.sureAddr]
theorem Zq2(hT:jC P T){x:D}{K:D->Rows->Prop}(h:Aw T t x R K):
 ∃val,K val R/\∀c w v,Mem c w->mN c R->Rep c w x v->∃u,(Instr.loadAt t v).run P w=.ok u w/\Rep c w val u:=by
 unfold Aw at h
 cases ht:T.get t with
 |none=>simp only[ht]at h
 |some ti=>
  simp only[ht]at h
  have NI:=hT.get ht
  obtain⟨i0,rp,Cy,_,Lx,AS,_⟩:=Ez NI
  cases x<;>simp only at h
  case ptr r i off=>
   cases hR:R.getD r none with
   |none=>simp only[hR]at h
   |some row=>
    obtain⟨box,ty,sz,es⟩:=row
    simp only[hR,de]at h
    obtain⟨hle,h⟩:=h
    have hle:=lE hle
    obtain⟨val,hK,u6,hr⟩:=Zpa Lx h
    refine⟨val,hK,λc w v hm hA hv=>?_⟩
    obtain⟨row,h1,hV,h2,h3⟩:=hv
    have c6:=hA r row _ h1 hR
    subst c6
    obtain⟨arr,ha,hx⟩:=(hm.real h1 hV).get h2 hle
    simp only[ag.nQ es (show i<es.len by simpa using h2)]at hx
    subst h3
    refine⟨_,WS.trans (Qpi NI ha (λj hj=>by obtain⟨v,hv,_⟩:=hx j hj;exact⟨v,hv⟩) u6),hr c w arr _ hx⟩
  case pa r i off len k n=>
   cases hR:R.getD r none with
   |none=>simp only[hR]at h
   |some row=>
    obtain⟨box,ty,sz,es⟩:=row
    simp only[hR,de]at h
    obtain⟨hle,h⟩:=h
    have hle:=lE hle
    have one:(ti.kind.isAgg=false)->ti.size=1->∀c w v,Mem c w->mN c R->Rep c w (.pa r i off len k n) v->∃u,(Instr.loadAt t v).run P w=.ok u w/\kG (!box) c w ((es.get i).getD (off+n) .dead) u/\n<len:=by
     intro DL ga c w v hm hA hv
     obtain⟨hn,row,h1,hV,h2,h3⟩:=hv
     have c6:=hA r row _ h1 hR
     subst c6
     obtain⟨arr,ha,hx⟩:=(hm.real h1 hV).get h2 hle
     simp only[ag.nQ es (show i<es.len by simpa using h2)]at hx
     subst h3
     obtain⟨u,hu,DJ⟩:=hx n hn
     have WK:arr[i*sz+(off+n)]?=some u:=by rw[<-gH];exact hu
     refine⟨u,?_,DJ,hn⟩
     rw[WS,Qpi NI ha (λj hj=>⟨u,by rw[show j=0 by omega];exact WK⟩) (.inr ga),DL]
     simp[WK]
    split at h
    ·rename_i j k' hk
     simp only[aE,decide_eq_true_eq]at h
     obtain⟨⟨rfl,jf⟩,h⟩:=h
     have ga:ti.size=1:=WR NI (by rw[hk];simp[TK.isAgg])
     refine⟨_,h,λc w v hm hA hv=>?_⟩
     obtain⟨u,hu,DJ,hn⟩:=one (by rw[hk];rfl) ga c w v hm hA hv
     rw[D.kH (WO jf hn)]at DJ
     have:=kG.int DJ
     subst this
     exact⟨_,hu,by simp only[Rep,VRep,dc];rw[WM hn]⟩
    ·rename_i hk
     obtain⟨jf,h⟩:=h
     have ga:ti.size=1:=WR NI (by rw[hk];simp[TK.isAgg])
     refine⟨_,h,λc w v hm hA hv=>?_⟩
     obtain⟨u,hu,DJ,hn⟩:=one (by rw[hk];rfl) ga c w v hm hA hv
     rw[D.kI (WQ jf hn)]at DJ
     have:=kG.bool DJ
     subst this
     exact⟨_,hu,by simp only[Rep,VRep,dc];rw[WN hn]⟩
    ·exact h.elim
  case iu sz es i off=>
   simp only[de]at h
   obtain⟨hle,h⟩:=h
   have hle:=lE hle
   obtain⟨val,hK,u6,hr⟩:=Zpa Lx h
   refine⟨val,hK,λc w v hm hA hv=>?_⟩
   obtain⟨b,o,arr,ty,fz,h3,hI,hi,ha,hE⟩:=hv
   subst h3
   obtain⟨h1,h2⟩:=WJ hE hi
   rw[ag.nQ es (show i<es.len by simpa using hi)]at h1 h2
   have hx:∀j,j<ti.size->∃v,arr[o+i*sz+off+j]?=some v/\kG true c w ((es.get i).getD (off+j) .dead) v:=λj hj=>by
    obtain⟨v,hv,hp⟩:=WI h2 (j:=off+j) (by omega)
    exact⟨v,by rw[<-hv];congr 1;omega,hp⟩
   exact⟨_,WS.trans (Qpi NI ha (λj hj=>by obtain⟨v,hv,_⟩:=hx j hj;exact⟨v,hv⟩) u6),hr c w arr _ hx⟩
def Ctx.fk(c:Ctx)(b:Nat):Ctx:={c with I:=λx=>c.I x\/x=b,top:=max c.top (b+1)}
theorem WT{c:Ctx}(hm:Mem c w)(o:Obj):ju c w (c.fk w.heap.size) (w.alloc o):=
 ⟨rfl,Nat.le_max_left _ _,λb hb=>⟨.inl hb,AW w o b (hm.fk b hb).1⟩,λr x hr=>⟨x,hr,rfl,rfl,rfl,rfl,rfl,Iff.rfl,λnv arr ha=>⟨arr,by rw[AW w o _ (hm.lt hr nv)];exact ha,rfl⟩⟩⟩
theorem xaz{c:Ctx}(hm:Mem c w)(o:Obj):Mem (c.fk w.heap.size) (w.alloc o):=by
 refine⟨λr x hr=>uf (WT hm o) rfl Iff.rfl (λnv=>AW w _ _ (hm.lt hr nv)) (hm.row r x hr),hm.inj,λb hb=>?_,?_,hm.kb.mono (WT hm o).I⟩
 all_goals have ga:(w.alloc o).heap.size=w.heap.size+1:=by show(w.heap.push o).size=_;simp
 rotate_left
 ·have:=hm.top;rw[ga];exact Nat.max_le.2 ⟨by omega,aX _⟩
 rcases hb with hb|hb
 ·exact⟨by have:=(hm.fk b hb).1;omega,(hm.fk b hb).2⟩
 ·subst hb
  exact⟨by omega,λr x hr v=>by have:=hm.lt hr v;show c.ρ r≠w.heap.size;omega⟩

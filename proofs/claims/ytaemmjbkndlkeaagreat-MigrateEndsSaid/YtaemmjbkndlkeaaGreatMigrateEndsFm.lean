import Derived.Test.YtaemmjbkndlkeaaGreatMigrateEndsVc
open Nat renaming le_refl->aX,le_trans->bL,beq->bX,lt_of_succ_lt_succ->fQ,add_assoc->fR
open List renaming map_cons->fI,length_cons->dD
open Bool renaming false_eq_true->aA
set_option linter.all false
namespace Go.GD
open Go
variable {Fk S:Nat->Prop}{I I' X:ae}{K:D->Prop}{P:Program}{R:Rows}{T:iy}{cs:List iD}{d:TypeDesc}{k:IntKind}{off r:Nat}{pl:Bool}{row:Row}{t:TypeId}{ti:TI}{us:List Value}{v:Value}{w w' G2:World}
mutual
theorem Zss{I I':ae}{w w':World}(h:∀b arr ty fz,I b->w.heap[b]?=some (.cells arr ty fz)->I' b/\w'.heap[b]?=some (.cells arr ty fz)):∀(d:D) (v:Value),fy I w d v->fy I' w' d v
 |_,_,.bool b=>.bool b
 |_,_,.int k n=>.int k n
 |_,_,.str s=>.str s
 |_,_,.iz=>.iz
 |_,_,.c8=>.c8
 |_,_,.emp a=>.emp a
 |_,_,.Uu sz es fr a cap h0=>.Uu sz es fr a cap h0
 |_,_,.Uv sz es fr cap hc b off arr ty fz hI hh hE=>.Uv sz es fr cap hc b off arr ty fz (h b arr ty fz hI hh).1 (h b arr ty fz hI hh).2 (L6 h es.l arr off sz hE)
theorem Y0{I I':ae}{w w':World}(h:∀b arr ty fz,I b->w.heap[b]?=some (.cells arr ty fz)->I' b/\w'.heap[b]?=some (.cells arr ty fz)):∀(cs:List D) (arr:Array Value) (off:Nat),oG I w cs arr off->oG I' w' cs arr off
 |_,_,_,.nil arr off=>.nil arr off
 |_,_,_,.cons c cs arr off v hv hp hr=>.cons c cs arr off v hv (Zss h c v hp) (Y0 h cs arr (off+1) hr)
theorem L6{I I':ae}{w w':World}(h:∀b arr ty fz,I b->w.heap[b]?=some (.cells arr ty fz)->I' b/\w'.heap[b]?=some (.cells arr ty fz)):∀(es:List (List D)) (arr:Array Value) (off sz:Nat),im I w es arr off sz->im I' w' es arr off sz
 |_,_,_,_,.nil arr off sz=>.nil arr off sz
 |_,_,_,_,.cons e es arr off sz hl hc hr=>.cons e es arr off sz hl (Y0 h e arr off hc) (L6 h es arr (off+sz) sz hr)
end
theorem wD(h:∀b,I b->I' b/\w'.heap[b]?=w.heap[b]?)(b:Nat)(arr:Array Value)(ty:TypeId)(fz:Nat×Nat)(hI:I b)(hh:w.heap[b]?=some (.cells arr ty fz)):I' b/\w'.heap[b]?=some (.cells arr ty fz):=⟨(h b hI).1,(h b hI).2.trans hh⟩
theorem Znh(h:∀b,I b->I' b/\w'.heap[b]?=w.heap[b]?)(cs:List D)(arr:Array Value)(off:Nat)(hp:oG I w cs arr off):oG I' w' cs arr off:=Y0 (wD h) cs arr off hp
theorem nq(h:∀b,I b->I' b/\w'.heap[b]?=w.heap[b]?)(es:List (List D))(arr:Array Value)(off sz:Nat)(hp:im I w es arr off sz):im I' w' es arr off sz:=L6 (wD h) es arr off sz hp
structure jc(c:Ctx)(w:World)(c':Ctx)(w':World):Prop where
 base:c'.base=c.base
 top:c.top<=c'.top
 I:∀b,c.I b->c'.I b/\w'.heap[b]?=w.heap[b]?
 R :∀r row,c.R r=some row->∃ao,c'.R r=some ao/\ao.box=row.box/\ao.ty=row.ty/\ao.sz=row.sz/\ao.es.l.length=row.es.l.length/\c'.ρ r=c.ρ r/\(c'.V r↔c.V r)/\
  (¬c.V r->∀arr,w.heap[c.ρ r]?=some (.cells arr row.ty (0,0))->∃iJ,w'.heap[c.ρ r]?=some (.cells iJ row.ty (0,0))/\iJ.size=arr.size)
structure Je(c:Ctx)(w:World)(c':Ctx)(w':World):Prop where
 base:c'.base=c.base
 top:c.top<=c'.top
 I:∀b arr ty fz,c.I b->w.heap[b]?=some (.cells arr ty fz)->c'.I b/\w'.heap[b]?=some (.cells arr ty fz)
 R :∀r row,c.R r=some row->∃ao,c'.R r=some ao/\ao.box=row.box/\ao.ty=row.ty/\ao.sz=row.sz/\ao.es.l.length=row.es.l.length/\c'.ρ r=c.ρ r/\(c'.V r↔c.V r)/\
  (¬c.V r->∀arr,w.heap[c.ρ r]?=some (.cells arr row.ty (0,0))->∃iJ,w'.heap[c.ρ r]?=some (.cells iJ row.ty (0,0))/\iJ.size=arr.size)
theorem jc.to0{c c':Ctx}(h:jc c w c' w'):Je c w c' w':=⟨h.base,h.top,wD h.I,h.R⟩
theorem L7{c c':Ctx}(h:∀b,c.I b->c'.I b/\w'.heap[b]?=w.heap[b]?){f:Nat}(hf:rP c w f us v):rP c' w' f us v:=by
 rcases hf with hf|⟨h1,l,rec,h2,h3,h4,h5⟩
 ·exact .inl hf
 ·exact .inr ⟨h1,l,rec,h2,(h l h3).1,(h l h3).2.trans h4,h5⟩
theorem jc.refl(c:Ctx)(w:World):jc c w c w:=
 ⟨rfl,aX _,λ_ h=>⟨h,rfl⟩,λ_ row h=>⟨row,h,rfl,rfl,rfl,rfl,rfl,Iff.rfl,λ_ arr h=>⟨arr,h,rfl⟩⟩⟩
theorem jc.trans{c c' SI:Ctx}(h:jc c w c' w')(g:jc c' w' SI G2):jc c w SI G2:=by
 refine⟨g.base.trans h.base,bL h.top g.top,λb hb=>⟨(g.I b (h.I b hb).1).1,(g.I b (h.I b hb).1).2.trans (h.I b hb).2⟩,λr row hr=>?_⟩
 obtain⟨ao,h1,h2,h3,h4,h5,h6,hV,h7⟩:=h.R r row hr
 obtain⟨sE,g1,g2,g3,g4,g5,g6,gV,g7⟩:=g.R r ao h1
 refine⟨sE,g1,g2.trans h2,g3.trans h3,g4.trans h4,g5.trans h5,g6.trans h6,gV.trans hV,λnv arr ha=>?_⟩
 obtain⟨iJ,jE,hs⟩:=h7 nv arr ha
 obtain⟨PI,PJ,iU⟩:=g7 (λe=>nv (hV.1 e)) iJ (by rw[h6,h3];exact jE)
 exact⟨PI,by rw[h6,h3]at PJ;exact PJ,iU.trans hs⟩
theorem Y1{c c':Ctx}(h:Je c w c' w'):∀{d:D} {v:Value},(∀f cs,d≠.gp f cs)->dc c w d v->dc c' w' d v:=by
 intro d v gu hd
 cases d with
 |sl sz es fr=>
  simp only[dc]at hd⊢
  obtain⟨a,cap,hv,hc,ie⟩:=hd
  refine⟨a,cap,hv,hc,?_⟩
  rcases ie with ie|⟨b,off,arr,ty,fz,ha,hI,hf,hh,hE⟩
  ·exact .inl ie
  ·exact .inr ⟨b,off,arr,ty,fz,ha,(h.I b arr ty fz hI hh).1,λe=>by rw[h.base];exact hf e,(h.I b arr ty fz hI hh).2,L6 h.I _ arr off sz hE⟩
 |all r=>
  simp only[dc]at hd⊢
  obtain⟨row,hr,hb,hd⟩:=hd
  obtain⟨ao,g1,g2,g3,g4,g5,g6,gV,g7⟩:=h.R r row hr
  refine⟨ao,g1,g2.trans hb,?_⟩
  rcases hd with⟨hV,hv⟩|⟨hV,cap,arr,hv,h1,h2,h3,h4⟩
  ·obtain⟨a,hv,ho⟩:=hv
   exact .inl ⟨gV.2 hV,a,hv,ho.mono h.top⟩
  ·obtain⟨iJ,jE,hs⟩:=g7 hV arr h3
   exact .inr ⟨λe=>hV (gV.1 e),cap,iJ,by rw[hv,g5,g6],by rw[g5];exact h1,h2,by rw[g6,g3];exact jE,by rw[g4,hs];exact h4⟩
 |emp=>
  obtain⟨a,hv,ho⟩:=hd
  exact⟨a,hv,ho.mono h.top⟩
 |own r o n=>
  simp only[dc]at hd⊢
  obtain⟨row,hr,hb,ho,hd⟩:=hd
  obtain⟨ao,g1,g2,g3,g4,g5,g6,gV,g7⟩:=h.R r row hr
  refine⟨ao,g1,g2.trans hb,by rw[g5];exact ho,?_⟩
  rcases hd with⟨h0,a,hv,jo⟩|⟨hV,cap,arr,h1,h2,h3,h4,h5⟩
  ·exact .inl ⟨h0,a,hv,jo.mono h.top gV g6⟩
  ·obtain⟨iJ,jE,hs⟩:=g7 hV arr h3
   exact .inr ⟨λe=>hV (gV.1 e),cap,iJ,h1,h2,by rw[g6,g3];exact jE,by rw[g4,g6];exact h4,by rw[g4,hs];exact h5⟩
 |ptr r i off=>
  simp only[dc]at hd⊢
  obtain⟨row,hr,hV,hi,hv⟩:=hd
  obtain⟨ao,g1,g2,g3,g4,g5,g6,gV,g7⟩:=h.R r row hr
  exact⟨ao,g1,λe=>hV (gV.1 e),by rw[g5];exact hi,by rw[hv,g6,g4]⟩
 |pa r i off len k n=>
  simp only[dc]at hd⊢
  obtain⟨hn,row,hr,hV,hi,hv⟩:=hd
  obtain⟨ao,g1,g2,g3,g4,g5,g6,gV,g7⟩:=h.R r row hr
  exact⟨hn,ao,g1,λe=>hV (gV.1 e),by rw[g5];exact hi,by rw[hv,g6,g4]⟩
 |iu sz es i off=>
  simp only[dc]at hd⊢
  obtain⟨b,o,arr,ty,fz,hv,hI,hi,hh,hE⟩:=hd
  exact⟨b,o,arr,ty,fz,hv,(h.I b arr ty fz hI hh).1,hi,(h.I b arr ty fz hI hh).2,L6 h.I _ arr o sz hE⟩
 |gq r=>
  rcases hd with hd|⟨row,hr,hV,hi,hv⟩
  ·exact .inl hd
  ·obtain⟨ao,g1,g2,g3,g4,g5,g6,gV,g7⟩:=h.R r row hr
   exact .inr ⟨ao,g1,λe=>hV (gV.1 e),by rw[g5];exact hi,by rw[hv,g6,g4]⟩
 |gp f cs=>exact absurd rfl (gu f cs)
 |_=>exact hd
theorem Zdg{c c':Ctx}(h:jc c w c' w'){d:D}(gu:∀f cs,d≠.gp f cs)(hd:dc c w d v):dc c' w' d v:=Y1 h.to0 gu hd
theorem Y2{c c':Ctx}{w w':World}{S:Nat->Prop}{f:Nat->Nat}{dv:Bool}{Fk:Nat->Prop}(g:∀d v,(∀f cs,d≠.gp f cs)->(∀r∈nJ d,S r)->dc c w d v->dc c' w' (d.mw f dv) v)(gF:∀k ws v,Fk k->rP c w k ws v->rP c' w' k ws v):
 ∀{cs:List iD} {us:List Value},(∀k ps,iD.fn k ps∈cs->Fk k)->(∀r∈rp cs,S r)->oD c w cs us->oD c' w' (cs.map (iD.jg f dv)) us
 |[],[],_,_,_=>trivial
 |x ::cs,u::us,hF,hS,⟨h1,h2⟩=>by
  refine⟨?_,Y2 g gF (λk ps hm=>hF k ps (by simp[hm])) (λr hr=>hS r (by simp[rp,hr])) h2⟩
  have Uw:∀r∈CB x,S r:=λr hr=>hS r (by simp[rp,hr])
  cases x with
  |fn k ps=>
   obtain⟨ws,hv,hw⟩:=h1
   refine⟨ws,gF k ws u (hF k ps (by simp)) hv,?_⟩
   have hS2:∀p∈ps,S p.1:=λp hp=>Uw _ (by simp only[CB,List.mem_map];exact⟨p,hp,rfl⟩)
   clear hv Uw hS h2 hF
   induction ps generalizing ws with
   |nil=>cases ws<;>exact hw
   |cons p ps ih=>
    cases ws with
    |nil=>exact hw.elim
    |cons v ws=>exact⟨g (.ptr p.1 p.2.1 p.2.2) v (λ_ _ e=>by cases e) (λr hr=>by simp[nJ]at hr;subst hr;exact hS2 p (by simp)) hw.1,ih ws hw.2 (λq hq=>hS2 q (by simp[hq]))⟩
  |ptr r i off=>exact g (.ptr r i off) u (λ_ _ e=>by cases e) Uw h1
  |int k n=>exact h1
  |arr r=>exact g (.all r) u (λ_ _ e=>by cases e) Uw h1
  |sl a b fr=>exact g (.sl a b fr) u (λ_ _ e=>by cases e) (λr hr=>by simp[nJ]at hr) h1
 |[],_::_,_,_,h=>h.elim
 |_::_,[],_,_,h=>h.elim
theorem zv{d:D}(h:∀f cs,d≠.gp f cs):d.mw (λr=>r) true=d:=by cases d<;>first|(simp[D.mw];done)|exact absurd rfl (h _ _)
theorem Y3:∀{cs:List iD},cs.map (iD.jg (λr=>r) true)=cs
 |[]=>rfl
 |x::l=>by
  simp only[fI,Y3 (cs:=l)]
  congr 1
  cases x<;>simp[iD.jg]
theorem Zc2{c c':Ctx}(g:∀d v,(∀f cs,d≠.gp f cs)->(∀r∈nJ d,S r)->dc c w d v->dc c' w' d v)(gF:∀k ws v,Fk k->rP c w k ws v->rP c' w' k ws v)(hF:∀k ps,iD.fn k ps∈cs->Fk k)(hS:∀r∈rp cs,S r)(h:oD c w cs us):oD c' w' cs us:=by
 have:=Y2 (f:=λr=>r) (dv:=true) (λd v h1 h2 h3=>by rw[zv h1];exact g d v h1 h2 h3) gF hF hS h
 rwa [Y3]at this
theorem YF{c c':Ctx}(g:∀d v,(∀f cs,d≠.gp f cs)->(∀r∈nJ d,S r)->dc c w d v->dc c' w' d v)(gF:∀b,c.I b->c'.I b/\w'.heap[b]?=w.heap[b]?)(hS:∀r∈rp cs,S r)(h:oD c w cs us):oD c' w' cs us:=
 Zc2 (Fk:=λ_=>True) g (λ_ _ _ _=>L7 gF) (λ_ _ _=>trivial) hS h
theorem SB{c c':Ctx}(h:jc c w c' w'){d:D}(hd:dc c w d v):dc c' w' d v:=by
 by_cases e:∃f cs,d=.gp f cs
 ·obtain⟨f,cs,rfl⟩:=e
  obtain⟨us,hv,hu⟩:=hd
  exact⟨us,L7 h.I hv,YF (S:=λ_=>True) (λd v h1 _ h2=>Zdg h h1 h2) h.I (λ_ _=>trivial) hu⟩
 ·exact Zdg h (λf cs e'=>e ⟨f,cs,e'⟩) hd
theorem M9{l:List Nat}(h:pZ l=true){k:Nat}(hk:k∈l):k<YB:=lE (List.all_eq_true.1 h k hk)
theorem Zq5:∀{cs:List iD} {k:Nat} {ps:List (Nat×Nat×Nat)},iD.fn k ps∈cs->k∈Ap cs
 |x ::l,k,ps,hm=>by
  rcases List.mem_cons.1 hm with e|e
  ·subst e;simp[Ap]
  ·have:=Zq5 e
   cases x<;>simp[Ap,this]
 |[],_,_,hm=>by simp at hm
section
variable {c c':Ctx} {w w':World} (h:Je c w c' w') {Fk:Nat->Prop} (gF:∀k ws v,Fk k->rP c w k ws v->rP c' w' k ws v)
include h gF
theorem Y4{d:D}(hn:∀k∈Aq d,Fk k)(hd:dc c w d v):dc c' w' d v:=by
 by_cases e:∃f cs,d=.gp f cs
 ·obtain⟨f,cs,rfl⟩:=e
  obtain⟨us,hv,hu⟩:=hd
  exact⟨us,gF _ _ _ (hn f (by simp[Aq])) hv,Zc2 (S:=λ_=>True) (Fk:=Fk) (λd v h1 _ h2=>Y1 h h1 h2) gF (λk ps hm=>hn k (by simp[Aq,Zq5 hm])) (λ_ _=>trivial) hu⟩
 ·exact Y1 h (λf cs e'=>e ⟨f,cs,e'⟩) hd
theorem Zdk:∀{ds:List D} {vs:List Value},(∀k∈ry ds,Fk k)->jl c w ds vs->jl c' w' ds vs
 |[],[],_,_=>trivial
 |_::_,_::_,hn,⟨h1,h2⟩=>⟨Y4 h gF (λk hk=>hn k (by simp[ry,hk])) h1,Zdk (λk hk=>hn k (by simp[ry,hk])) h2⟩
 |[],_::_,_,h=>h.elim
 |_::_,[],_,h=>h.elim
theorem Zjy{d:D}(hn:∀k∈Fe d,Fk k)(hd:VRep c w d v):VRep c' w' d v:=by
 cases d with
 |agg cs=>obtain⟨vs,hv,hr⟩:=hd;exact⟨vs,hv,Zdk h gF hn hr⟩
 |_=>simp only[VRep]at hd⊢;exact Y4 h gF hn hd
theorem Y5:∀{ds:List D} {vs:List Value},(∀k∈ot ds,Fk k)->kg c w ds vs->kg c' w' ds vs
 |[],[],_,_=>trivial
 |_::_,_::_,hn,⟨h1,h2⟩=>⟨Zjy h gF (λk hk=>hn k (by simp[ot,hk])) h1,Y5 (λk hk=>hn k (by simp[ot,hk])) h2⟩
 |[],_::_,_,h=>h.elim
 |_::_,[],_,h=>h.elim
theorem Zr1{d:D}(hn:∀k∈CC d,Fk k)(hd:Rep c w d v):Rep c' w' d v:=by
 cases d with
 |dw ds=>obtain⟨vs,hv,hr⟩:=hd;exact⟨vs,hv,Y5 h gF hn hr⟩
 |dead=>trivial
 |_=>simp only[Rep]at hd⊢;exact Zjy h gF hn hd
theorem Z8f:∀{ds:List D} {arr:Array Value} {off:Nat},(∀k∈ry ds,Fk k)->kJ c w ds arr off->kJ c' w' ds arr off
 |[],_,_,_,_=>trivial
 |_::_,_,_,hn,⟨⟨v,hv,h1⟩,h2⟩=>⟨⟨v,hv,Y4 h gF (λk hk=>hn k (by simp[ry,hk])) h1⟩,Z8f (λk hk=>hn k (by simp[ry,hk])) h2⟩
end
theorem Zbw{c c':Ctx}{w w':World}(h:jc c w c' w'):∀{ds:List D} {vs:List Value},jl c w ds vs->jl c' w' ds vs
 |[],[],_=>trivial
 |_::_,_::_,⟨h1,h2⟩=>⟨SB h h1,Zbw h h2⟩
theorem Zla{c c':Ctx}(h:jc c w c' w'):∀{d:D} {v:Value},VRep c w d v->VRep c' w' d v:=by
 intro d v hd
 cases d with
 |agg cs=>obtain⟨vs,hv,hr⟩:=hd;exact⟨vs,hv,Zbw h hr⟩
 |_=>simp only[VRep]at hd⊢;exact SB h hd
theorem Wz{c c':Ctx}{w w':World}(h:jc c w c' w'):∀{ds:List D} {vs:List Value},kg c w ds vs->kg c' w' ds vs
 |[],[],_=>trivial
 |_::_,_::_,⟨h1,h2⟩=>⟨Zla h h1,Wz h h2⟩
theorem wX{c c':Ctx}(h:jc c w c' w'):∀{d:D} {v:Value},Rep c w d v->Rep c' w' d v:=by
 intro d v hd
 cases d with
 |dw ds=>obtain⟨vs,hv,hr⟩:=hd;exact⟨vs,hv,Wz h hr⟩
 |dead=>trivial
 |_=>simp only[Rep]at hd⊢;exact Zla h hd
theorem M6{c c':Ctx}{w w':World}(h:jc c w c' w'):∀{ds:List D} {arr:Array Value} {off:Nat},kJ c w ds arr off->kJ c' w' ds arr off
 |[],_,_,_=>trivial
 |_::_,_,_,⟨⟨v,hv,h1⟩,h2⟩=>⟨⟨v,hv,SB h h1⟩,M6 h h2⟩
def Af(I:ae)(w:World):Prop:=∀x∈Gq,I x.1/\∃ty fz,w.heap[x.1]?=some (.cells (x.2.2.map λz=>Value.int x.2.1 z).toArray ty fz)
theorem Af.G3(h:Af I w)(g:∀b arr ty fz,I b->w.heap[b]?=some (.cells arr ty fz)->I' b/\w'.heap[b]?=some (.cells arr ty fz)):Af I' w':=λx hx=>by
 obtain⟨h1,ty,fz,h2⟩:=h x hx
 exact⟨(g _ _ _ _ h1 h2).1,ty,fz,(g _ _ _ _ h1 h2).2⟩
theorem Af.mono(h:Af I w)(g:∀b,I b->I' b/\w'.heap[b]?=w.heap[b]?):Af I' w':=h.G3 (wD g)
structure Mem(c:Ctx)(w:World):Prop where
 row:∀r row,c.R r=some row->El c w r row
 inj:∀r s x y,c.R r=some x->c.R s=some y->¬c.V r->¬c.V s->c.ρ r=c.ρ s->r=s
 fg:∀b,c.I b->b<w.heap.size/\∀r x,c.R r=some x->¬c.V r->c.ρ r≠b
 top:c.top<=w.heap.size
 jZ:Af c.I w
theorem Y6{c:Ctx}(hm:Mem c w)(h:Je c w {c with I:=I} w')(hh:∀r x,c.R r=some x->¬c.V r->w'.heap[c.ρ r]?=w.heap[c.ρ r]?)(gF:∀k ws v,Fk k->rP c w k ws v->rP {c with I:=I} w' k ws v)
 (hn:∀r x,c.R r=some x->∀k∈kH [x],Fk k) (hI:∀b,I b->b<w'.heap.size/\∀r x,c.R r=some x->¬c.V r->c.ρ r≠b) (hs:w.heap.size<=w'.heap.size):Mem {c with I:=I} w':=by
 refine⟨λr row hr=>?_,hm.inj,λb hb=>hI b hb,bL hm.top hs,hm.jZ.G3 h.I⟩
 rcases hm.row r row hr with g|⟨g0,arr,g1,g2,g3⟩
 ·exact .inl g
 ·refine .inr ⟨g0,arr,(hh r row hr g0).trans g1,g2,?_⟩
  split at g3
  ·rename_i hb
   rw[if_pos hb]
   obtain⟨e,k1,k2,k3,k4⟩:=g3
   refine⟨e,k1,k2,k3,Z8f h gF (λk hk=>hn r row hr k ?_) k4⟩
   obtain⟨bx,ty,sz,es⟩:=row
   simp only at hb k1
   subst hb;subst k1
   simpa[kH]using hk
  ·rename_i hb
   rw[if_neg hb]
   exact L6 h.I _ _ _ _ g3
theorem Mem.real{c:Ctx}(h:Mem c w)(hr:c.R r=some row)(hV:¬c.V r):wE c w r row:=by
 rcases h.row r row hr with h1|h1
 ·exact(hV h1.1).elim
 ·exact h1.2
theorem Mem.nm{c:Ctx}(h:Mem c w)(hr:c.R r=some row)(hV:c.V r):row.box=false/\row.es.l=[]/\0<row.sz:=by
 rcases h.row r row hr with h1|h1
 ·exact h1.2
 ·exact(h1.1 hV).elim
theorem Mem.lt{c:Ctx}(h:Mem c w)(hr:c.R r=some row)(hV:¬c.V r):c.ρ r<w.heap.size:=by
 obtain⟨arr,ha,_⟩:=h.real hr hV
 by_cases bh:c.ρ r<w.heap.size
 ·exact bh
 ·rw[Array.getElem?_eq_none (by omega)]at ha;cases ha
structure Fr(X:ae)(w w':World):Prop where
 os:w'.os=w.os
 tape:w'.tape=w.tape
 output:w'.output=w.output
 size:w.heap.size<=w'.heap.size
 heap:∀b,b<w.heap.size->¬X b->w'.heap[b]?=w.heap[b]?
theorem Fr.refl(X:ae)(w:World):Fr X w w:=⟨rfl,rfl,rfl,aX _,λ_ _ _=>rfl⟩
theorem Fr.trans(h:Fr X w w')(g:Fr X w' G2):Fr X w G2:=
 ⟨g.os.trans h.os,g.tape.trans h.tape,g.output.trans h.output,bL h.size g.size,λb hb hx=>(g.heap b (Nat.lt_of_lt_of_le hb h.size) hx).trans (h.heap b hb hx)⟩
theorem Fr.mono{X Y:ae}(h:Fr X w w')(hxy:∀b,b<w.heap.size->X b->Y b):Fr Y w w':=
 ⟨h.os,h.tape,h.output,h.size,λb hb hy=>h.heap b hb λhx=>hy (hxy b hb hx)⟩
def lZ(P:Program):Nat->TypeId->List se
 |0,_=>[]
 |n+1,t=>match P.underlying t with
  |some (.int k)=>[.int k]
  |some .bool=>[.bool]
  |some .string=>[.str]
  |some (.slice e)=>[.sl (P.cellsOf e)]
  |some (.struct fs)=>fs.toList.flatMap λf=>lZ P n f.type
  |some (.array m e)=>(List.replicate m (lZ P n e)).flatten
  |_=>[.other]
def G4(P:Program)(t:TypeId):TK:=
 match P.underlying t with
 |some (.int k)=>.int k
 |some .bool=>.bool
 |some .string=>.string
 |some (.slice e)=>.slice e (P.cellsOf e)
 |some (.struct fs)=>.struct (fs.toList.map λf=>(f.offset,f.type,P.cellsOf f.type))
 |some (.array n e)=>.array n e (P.cellsOf e)
 |_=>.other
def Ux(P:Program)(g:TypeId->Bool)(l:TypeId->Nat):List Field->Nat->Bool
 |[],_=>true
 |f::fs,o=>f.name != "_" &&bX f.offset o&&bX (P.cellsOf f.type) (l f.type)&&Nat.blt 0 (l f.type)&&g f.type&&Ux P g l fs (o+l f.type)
def rz(P:Program):Nat->TypeId->Bool
 |0,_=>false
 |n+1,t=>match P.underlying t with
  |some (.int _)=>true
  |some .bool=>true
  |some .string=>true
  |some (.struct fs)=>!P.stoodInHeld t&&Ux P (rz P n) (λu=>(lZ P n u).length) fs.toList 0
  |some (.array _ e)=>bX (P.cellsOf e) (lZ P n e).length&&Nat.blt 0 (P.cellsOf e)&&rz P n e
  |_=>false
def Ar(P:Program)(t:TypeId):Option TI:=
 match P.info? t with
 |some i=>if(lZ P 8 t).length=i.size/\(P.underlying t).isSome=true then
  some ⟨G4 P t,i.size,i.bytes,lZ P 8 t,i.zero.bind λz=>Bg z.cells.toList,!(P.eqGuardType P.depth t)&&rz P 8 t⟩else none
 |none=>none
def Q4(P:Program)(T:iy):Prop:=T.map (λx=>Ar P x.1)=T.map (λx=>some x.2)
theorem Q4.get(h:Q4 P T){i:TI}(hi:T.get t=some i):Ar P t=some i:=by
 induction T with
 |nil=>simp[iy.get]at hi
 |cons x l ih=>
  obtain⟨u,j⟩:=x
  simp only[Q4,fI,List.cons.injEq]at h
  simp only[iy.get]at hi
  cases hb:bX u t with
  |true=>
   simp only[hb,Option.some.injEq]at hi
   have:=bE hb
   subst this;subst hi
   exact h.1
  |false=>simp only[hb]at hi;exact ih h.2 hi
theorem nf{K:Rows->Prop}:∀{R:Rows},tE R K↔K R
 |[]=>Iff.rfl
 |d::l=>by unfold tE;exact nf (R:=l) (K:=λl=>K (d::l))
theorem D.c7{d:D}:d.force K↔K d:=by cases d<;>rfl
theorem D.e7:∀{l:List D} {K:List D->Prop},D.j5 l K↔K l
 |[],_=>Iff.rfl
 |d::l,K=>by unfold D.j5;rw[D.c7];exact D.e7 (l:=l) (K:=λl=>K (d::l))
theorem Zkl{row:Row}:∀{R:Rows} {n:Nat} {K:Nat->Rows->Prop},wF row R n K↔K (n+R.length) (R++[some row])
 |[],_,_=>Iff.rfl
 |x::l,n,K=>by
  unfold wF
  rw[Zkl (R:=l) (K:=λk l=>K k (x::l))]
  simp only[dD,List.cons_append]
  rw[show n+1+l.length=n+(l.length+1) by omega]
theorem Ke{K:Nat->Rows->Prop}:uz R row K↔K R.length (R++[some row]):=by
 unfold uz;rw[Zkl];simp
theorem fy.one{d:D}(h:fy I w d v):v.oneCell'=true:=by
 cases d<;>simp only[r6,r7,r8,r9,sc,sd,tt,tR,tS,tT,tU,tV,tW,tX,tY,tZ,yU,Zu2,Zta]at h
 case sl sz es fr=>obtain⟨a,cap,hv,_⟩:=h;subst hv;rfl
 case emp=>obtain⟨a,hv⟩:=h;subst hv;rfl
 all_goals first|(subst h;rfl)|exact h.elim
theorem dc.one{c:Ctx}{d:D}(h:dc c w d v):v.oneCell'=true:=by
 cases d<;>simp only[dc]at h
 case sl sz es fr=>obtain⟨a,cap,hv,_⟩:=h;subst hv;rfl
 case emp=>obtain⟨a,hv,_⟩:=h;subst hv;rfl
 case mO es=>obtain⟨b,hv,_⟩:=h;subst hv;rfl
 case all r=>obtain⟨row,_,_,⟨_,a,hv,_⟩|⟨_,cap,arr,hv,_⟩⟩:=h<;>(subst hv;rfl)
 case own r o n=>
  obtain⟨row,_,_,_,⟨_,a,hv,_⟩|⟨_,cap,arr,_,_,_,hv,_⟩⟩:=h<;>(subst hv;rfl)
 case ptr r i off=>obtain⟨row,_,_,_,hv⟩:=h;subst hv;rfl
 case pa r i off len k n=>obtain⟨_,row,_,_,_,hv⟩:=h;subst hv;rfl
 case iu sz es i off=>obtain⟨b,o,arr,ty,fz,hv,_⟩:=h;subst hv;rfl
 case gp f cs=>obtain⟨us,⟨_,hv⟩|⟨_,l,rec,hv,_⟩,_⟩:=h<;>(subst hv;rfl)
 case gq r=>obtain hv|⟨row,_,_,_,hv⟩:=h<;>(subst hv;rfl)
 all_goals first|exact h|(subst h;rfl)|exact h.elim
theorem Uy{I:ae}{w:World}:∀{cs:List D} {arr:Array Value} {off j:Nat},oG I w cs arr off->j<cs.length->∃v,arr[off+j]?=some v/\fy I w (cs.getD j .dead) v
 |c::cs,arr,off,0,h,_=>by
  simp only[Du,Dv]at h
  simpa using h.1
 |c::cs,arr,off,j+1,h,hj=>by
  simp only[Du,Dv]at h
  obtain⟨v,hv,hp⟩:=Uy h.2 (fQ (by simpa using hj))
  exact⟨v,by rw[show off+(j+1)=off+1+j by omega];exact hv,by simpa using hp⟩
theorem Uz{I:ae}{w:World}:∀{es:List (List D)} {arr:Array Value} {off sz i:Nat},im I w es arr off sz->i<es.length->(es.getD i []).length=sz/\oG I w (es.getD i []) arr (off+i*sz)
 |e::es,arr,off,sz,0,h,_=>by
  simp only[pY,pK]at h
  simpa using⟨h.1,h.2.1⟩
 |e::es,arr,off,sz,i+1,h,hi=>by
  simp only[pY,pK]at h
  obtain⟨h1,h2⟩:=Uz h.2.2 (fQ (by simpa using hi))
  exact⟨by simpa using h1,by rw[show off+(i+1)*sz=off+sz+i*sz by rw[Nat.succ_mul];omega];simpa using h2⟩
theorem Zc8{c:Ctx}{w:World}:∀{cs:List D} {arr:Array Value} {off j:Nat},kJ c w cs arr off->j<cs.length->∃v,arr[off+j]?=some v/\dc c w (cs.getD j .dead) v
 |d::cs,arr,off,0,h,_=>by
  simp only[kJ]at h
  simpa using h.1
 |d::cs,arr,off,j+1,h,hj=>by
  simp only[kJ]at h
  obtain⟨v,hv,hp⟩:=Zc8 h.2 (fQ (by simpa using hj))
  exact⟨v,by rw[show off+(j+1)=off+1+j by omega];exact hv,by simpa using hp⟩
theorem DU{c:Ctx}{w:World}:∀{ds:List D} {vs:List Value},(jl c w ds vs↔ds.length=vs.length/\∀j v,vs[j]?=some v->dc c w (ds.getD j .dead) v)
 |[],[]=>by simp[jl]
 |[],v::vs=>by simp[jl]
 |d::ds,[]=>by simp[jl]
 |d ::ds,v::vs=>by
  simp only[jl,DU (ds:=ds) (vs:=vs),dD,Nat.add_right_cancel_iff]
  constructor
  ·rintro⟨h1,h2,h3⟩
   refine⟨h2,λj u hu=>?_⟩
   cases j with
   |zero=>simp at hu;subst hu;simpa using h1
   |succ j=>simpa using h3 j u (by simpa using hu)
  ·rintro⟨h1,h2⟩
   exact⟨by simpa using h2 0 v (by simp),h1,λj u hu=>by simpa using h2 (j+1) u (by simpa using hu)⟩
def kb(pl:Bool)(c:Ctx)(w:World)(d:D)(v:Value):Prop:=match pl with|true=>fy c.I w d v|false=>dc c w d v
theorem Zil{ty:se}{d:D}(h:uA pl ty d K):∃d',K d'/\∀c w v,kb pl c w d v->dc c w d' v:=by
 cases ty with
 |int k=>
  simp only[uA,dd]at h
  refine⟨_,h.2,λc w v hx=>?_⟩
  cases d<;>simp[D.isInt]at h
  obtain⟨rfl,_⟩:=h
  cases pl<;>simpa[kb,r6,r7,r8,r9,sc,sd,tt,tR,tS,tT,tU,tV,tW,tX,tY,tZ,dc,D.toInt]using hx
 |bool=>
  simp only[uA,dd]at h
  refine⟨_,h.2,λc w v hx=>?_⟩
  cases d<;>simp[D.isBool]at h
  cases pl<;>simpa[kb,r6,r7,r8,r9,sc,sd,tt,tR,tS,tT,tU,tV,tW,tX,tY,tZ,dc,D.toBool]using hx
 |str=>
  simp only[uA,dd]at h
  refine⟨_,h.2,λc w v hx=>?_⟩
  cases d<;>simp[D.isStr]at h
  cases pl<;>simpa[kb,r6,r7,r8,r9,sc,sd,tt,tR,tS,tT,tU,tV,tW,tX,tY,tZ,dc,D.toStr]using hx
 |sl n=>
  cases pl with
  |true=>
   simp only[uA,dd]at h
   refine⟨_,h.2,λc w v hx=>?_⟩
   cases d<;>(try(simp[D.Ff]at h;done))
   case c8=>exact⟨none,0,sc.1 hx,Nat.zero_le _,.inl rfl⟩
   case emp=>obtain⟨a,ha⟩:=sd.1 hx;exact⟨a,0,ha,Nat.zero_le _,.inl rfl⟩
   simp only[D.Ff]at h
   have hh:=bE h.1
   subst hh
   simp only[kb,r6,r7,r8,r9,sc,sd,tt,tR,tS,tT,tU,tV,tW,tX,tY,tZ]at hx
   simp only[dc,D.toEs]
   obtain⟨a,cap,hv,hc,ie⟩:=hx
   refine⟨a,cap,hv,hc,?_⟩
   rcases ie with ie|⟨b,off,arr,ty,fz,ha,hI,hh,hE⟩
   ·exact .inl ie
   ·exact .inr ⟨b,off,arr,ty,fz,ha,hI,by simp,hh,SP.1 hE⟩
  |false=>
   simp only[uA,dd,D.c7]at h
   exact⟨_,h.2,λc w v hx=>hx⟩
 |other=>
  cases pl with
  |false=>
   simp only[uA,dd,D.c7]at h
   exact⟨_,h.2,λc w v hx=>hx⟩
  |true=>
   simp only[uA]at h
   cases d<;>simp only at h
   case iz=>exact⟨_,h,λc w v hx=>r9.1 hx⟩
theorem Zd5{pl:Bool}{e:List D}:∀{dj:List se} {off:Nat} {K:List D->Prop},DV pl e dj off K->
 ∃ds,K ds/\ds.length=dj.length/\∀j,j<dj.length->∀c w v,kb pl c w (e.getD (off+j) .dead) v->dc c w (ds.getD j .dead) v
 |[],off,K,h=>⟨[],h,rfl,λj hj=>by simp at hj⟩
 |t::ts,off,K,h=>by
  simp only[DV]at h
  obtain⟨d,hd,h1⟩:=Zil h
  obtain⟨ds,DW,hl,h2⟩:=Zd5 hd
  refine⟨d::ds,DW,by simp[hl],λj hj c w v hx=>?_⟩
  cases j with
  |zero=>simpa using h1 c w v (by simpa using hx)
  |succ j=>simpa using h2 j (by simpa using hj) c w v (by rw[show off+1+j=off+(j+1) by omega];exact hx)
theorem Qc(h:Ar P t=some ti):∃i,P.info? t=some i/\i.size=ti.size/\i.bytes=ti.bytes/\ti.sI.length=ti.size/\ti.kind=G4 P t/\
 ti.zero=(i.zero.bind λz=>Bg z.cells.toList)/\ti.eq=(!(P.eqGuardType P.depth t)&&rz P 8 t)/\ti.sI=lZ P 8 t/\∃d,P.underlying t=some d:=by
 unfold Ar at h
 cases hi:P.info? t with
 |none=>simp[hi]at h
 |some i=>
  simp only[hi]at h
  split at h
  ·rename_i hl
   simp only[Option.some.injEq]at h
   subst h
   exact⟨i,rfl,rfl,rfl,hl.1,rfl,rfl,rfl,rfl,Option.isSome_iff_exists.1 hl.2⟩
  ·cases h
def PK:TypeDesc->Bool|.struct _=>true|.array _ _=>true|_=>false
theorem L8(hd:P.underlying t=some d):(G4 P t).isAgg=PK d:=by
 unfold G4
 rw[hd]
 cases d<;>rfl
theorem Y7(hd:P.underlying t=some d)(w:World):(isAgg t).run P w=.ok (G4 P t).isAgg w:=by
 rw[L8 hd]
 unfold isAgg
 rw[Sem.run_bind,run_underlying hd w]
 cases d<;>rfl
def Au(arr:Array Value)(o n:Nat):List Value:=(List.range n).map λj=>(arr[o+j]?).getD undef
theorem EY(b o j:Nat):(⟨b,o,none⟩:Addr).add j=⟨b,o+j,none⟩:=by
 unfold Addr.add;split<;>simp_all
theorem Y8(ht:Ar P t=some ti){b o:Nat}{arr:Array Value}{ty:TypeId}{fz:Nat×Nat}(hb:w.heap[b]?=some (.cells arr ty fz))
 (Tc:∀j,j<ti.size->∃v,arr[o+j]?=some v) (h1:ti.kind.isAgg=true\/ti.size=1):
 (loadVar t ⟨b,o,none⟩).run P w=.ok (if ti.kind.isAgg then .agg (Au arr o ti.size).toArray else(arr[o]?).getD undef) w:=by
 obtain⟨i,hi,hs,_,_,hk,_,_,_,d,hd⟩:=Qc ht
 have wG:∀j,w.cell? ⟨b,o+j,none⟩=arr[o+j]? :=λj=>by simp[World.cell?,hb]
 have hl:(loadCells ⟨b,o,none⟩ ti.size).run P w=.ok (Au arr o ti.size).toArray w:=
  run_loadCells w _ _ _ λj hj=>by
   rw[EY,wG]
   obtain⟨v,hv⟩:=Tc j hj
   simp[hv]
 unfold loadVar
 rw[Sem.run_bind,Y7 hd,Result.andThen_ok,<-hk]
 cases hg:ti.kind.isAgg with
 |true=>
  simp only[if_true,Sem.run_bind,sizeOf,typeInfo,run_program,Result.andThen_ok,hi,Sem.run_pure,hs,hl]
 |false=>
  have ft:ti.size=1:=by simpa[hg]using h1
  obtain⟨v,hv⟩:=Tc 0 (by omega)
  have Ed:arr[o]?=some v:=by simpa using hv
  have hc:w.cell? ⟨b,o,none⟩=some v:=by simpa[Ed]using wG 0
  simp[hc,Ed]
theorem Zhn{e:List D}(hl:ti.sI.length=ti.size)(h:uB pl ti e off K):
 ∃ val,K val/\(ti.kind.isAgg=true\/ti.size=1)/\∀c w arr o,(∀j,j<ti.size->∃v,arr[o+j]?=some v/\kb pl c w (e.getD (off+j) .dead) v)->
  Rep c w val (if ti.kind.isAgg then .agg (Au arr o ti.size).toArray else(arr[o]?).getD undef):=by
 unfold uB at h
 cases hg:ti.kind.isAgg with
 |true=>
  simp only[hg]at h
  obtain⟨ds,hK,hlen,hr⟩:=Zd5 h
  refine⟨_,hK,.inl rfl,λc w arr o hx=>?_⟩
  simp only[if_true]
  refine⟨_,rfl,DU.2 ⟨by simp[Au,hlen,hl],λj v hv=>?_⟩⟩
  have hj:j<ti.size:=by
   have:=(List.getElem?_eq_some_iff.1 hv).1
   simpa[Au]using this
  obtain⟨u,hu,CD⟩:=hx j hj
  have:u=v:=by simpa[Au,hj,hu]using hv
  subst this
  exact hr j (by omega) c w u CD
 |false=>
  simp only[hg]at h
  match hc:ti.sI with
  |[y]=>
   simp only[hc]at h
   obtain⟨d,hK,hr⟩:=Zil h
   have ft:ti.size=1:=by rw[<-hl,hc];rfl
   refine⟨d,hK,.inr ft,λc w arr o hx=>?_⟩
   obtain⟨u,hu,CD⟩:=hx 0 (by omega)
   have UA:arr[o]?=some u:=by simpa using hu
   simp only[aA,if_false,UA,Option.getD_some]
   have:=hr c w u (by simpa using CD)
   cases d<;>first|exact this|trivial|exact this.elim
  |[]=>simp only[hc]at h
  |_::_::_=>simp only[hc]at h
def mf(c:Ctx)(R:Rows):Prop:=∀r row ao,c.R r=some row->R.getD r none=some ao->row=ao
theorem Ab(w:World)(o:Obj)(b:Nat)(h:b<w.heap.size):(w.alloc o).heap[b]?=w.heap[b]? :=by
 show(w.heap.push o)[b]?=w.heap[b]?
 rw[Array.getElem?_push,if_neg (Nat.ne_of_lt h)]
theorem UB(w:World)(o:Obj):(w.alloc o).heap[w.heap.size]?=some o:=by
 show(w.heap.push o)[w.heap.size]?=some o
 simp
def Ctx.add(c:Ctx)(k:Nat)(row:Row)(b:Nat):Ctx:={c with R:=λr=>if r=k then some row else c.R r,ρ:=λr=>if r=k then b else c.ρ r,V:=λr=>r≠k/\c.V r}
theorem Ctx.iZ(c:Ctx)(k:Nat)(row:Row)(b:Nat):(c.add k row b).R k=some row/\(c.add k row b).ρ k=b:=by simp[Ctx.add]
theorem jc.alloc{c:Ctx}(hm:Mem c w){k:Nat}(hk:c.R k=none)(row:Row)(o:Obj):jc c w (c.add k row w.heap.size) (w.alloc o):=by
 refine⟨rfl,aX _,λb hb=>⟨hb,Ab w o b (hm.fg b hb).1⟩,λr x hr=>?_⟩
 have gu:r≠k:=λe=>by rw[e,hk]at hr;cases hr
 refine⟨x,by simp[Ctx.add,gu,hr],rfl,rfl,rfl,rfl,by simp[Ctx.add,gu],by simp[Ctx.add,gu],λnv arr ha=>⟨arr,?_,rfl⟩⟩
 rw[Ab w o _ (hm.lt hr nv)];exact ha
theorem Fr.alloc(X:ae)(w:World)(o:Obj):Fr X w (w.alloc o):=
 ⟨rfl,rfl,rfl,by show w.heap.size<=(w.heap.push o).size;simp,λb hb _=>Ab w o b hb⟩
theorem tk{c c':Ctx}(h:jc c w c' w')(PL:c'.ρ r=c.ρ r)(hV:c'.V r↔c.V r)(hh:¬c.V r->w'.heap[c.ρ r]?=w.heap[c.ρ r]?)(hr:El c w r row):El c' w' r row:=by
 rcases hr with⟨h0,hr⟩|⟨h0,hr⟩
 ·exact .inl ⟨hV.2 h0,hr⟩
 refine .inr ⟨λe=>h0 (hV.1 e),?_⟩
 obtain⟨arr,ha,hs,hx⟩:=hr
 refine⟨arr,by rw[PL,hh h0];exact ha,hs,?_⟩
 split
 ·rename_i hb
  simp only[hb,if_true]at hx
  obtain⟨e,h1,h2,h3,h4⟩:=hx
  exact⟨e,h1,h2,h3,M6 h h4⟩
 ·rename_i hb
  simp only[hb,if_false,aA]at hx
  exact nq h.I _ _ _ _ hx
theorem Mem.alloc{c:Ctx}(hm:Mem c w){k:Nat}(hk:c.R k=none)(row:Row)(arr:Array Value)(hs:0<row.sz)
 (hx:if row.box then∃e,row.es=.gen [e]/\e.length=row.sz/\arr.size=row.sz/\kJ c w e arr 0 else im c.I w row.es.l arr 0 row.sz):
 Mem (c.add k row w.heap.size) (w.alloc (.cells arr row.ty)):=by
 have hg:=jc.alloc hm hk row (.cells arr row.ty)
 refine⟨λr x hr=>?_,λr s x y hr iU Jf L9 he=>?_,λb hb=>?_,bL hm.top (by show w.heap.size<=(w.heap.push _).size;simp),hm.jZ.mono hg.I⟩
 ·by_cases e:r=k
  ·subst e
   simp only[Ctx.add,if_true,Option.some.injEq]at hr
   subst hr
   refine .inr ⟨by simp[Ctx.add],arr,by simp only[Ctx.add,if_true];exact UB w _,hs,?_⟩
   split
   ·rename_i hb
    simp only[hb,if_true]at hx
    obtain⟨e,h1,h2,h3,h4⟩:=hx
    exact⟨e,h1,h2,h3,M6 hg h4⟩
   ·rename_i hb
    simp only[hb,if_false,aA]at hx
    exact nq hg.I _ _ _ _ hx
  ·have pE:c.R r=some x:=by simpa[Ctx.add,e]using hr
   exact tk hg (by simp[Ctx.add,e]) (by simp[Ctx.add,e]) (λnv=>Ab w _ _ (hm.lt pE nv)) (hm.row r x pE)
 ·by_cases e1:r=k<;>by_cases e2:s=k
  ·exact e1.trans e2.symm
  ·exfalso
   have h2:c.R s=some y:=by simpa[Ctx.add,e2]using iU
   have:=hm.lt h2 (by simpa[Ctx.add,e2]using L9)
   simp[Ctx.add,e1,e2]at he
   omega
  ·exfalso
   have h1:c.R r=some x:=by simpa[Ctx.add,e1]using hr
   have:=hm.lt h1 (by simpa[Ctx.add,e1]using Jf)
   simp[Ctx.add,e1,e2]at he
   omega
  ·exact hm.inj r s x y (by simpa[Ctx.add,e1]using hr) (by simpa[Ctx.add,e2]using iU) (by simpa[Ctx.add,e1]using Jf) (by simpa[Ctx.add,e2]using L9) (by simpa[Ctx.add,e1,e2]using he)
 ·have rI:c.I b:=hb
  obtain⟨h1,h2⟩:=hm.fg b rI
  refine⟨by show b<(w.heap.push _).size;simp;omega,λr x hr hv=>?_⟩
  by_cases e:r=k
  ·simp only[Ctx.add,e,if_true];omega
  ·simpa[Ctx.add,e]using h2 r x (by simpa[Ctx.add,e]using hr) (by simpa[Ctx.add,e]using hv)
theorem wE.get{c:Ctx}(h:wE c w r row){i off n:Nat}(hi:i<row.es.l.length)(hn:off+n<=row.sz):
 ∃arr,w.heap[c.ρ r]?=some (.cells arr row.ty (0,0))/\∀j,j<n->∃v,arr[i*row.sz+off+j]?=some v/\kb (!row.box) c w ((row.es.l.getD i []).getD (off+j) .dead) v:=by
 obtain⟨arr,ha,hs,hx⟩:=h
 refine⟨arr,ha,λj hj=>?_⟩
 cases hb:row.box with
 |true=>
  simp only[hb,if_true]at hx
  obtain⟨e,h1,h2,h3,h4⟩:=hx
  have pB:i=0:=by rw[h1]at hi;simpa[ai.l]using hi
  subst pB
  obtain⟨v,hv,hp⟩:=Zc8 h4 (j:=off+j) (by omega)
  exact⟨v,by simpa using hv,by simpa[kb,h1,ai.l]using hp⟩
 |false=>
  simp only[hb,if_false,aA]at hx
  obtain⟨h1,h2⟩:=Uz hx hi
  obtain⟨v,hv,hp⟩:=Uy h2 (j:=off+j) (by omega)
  exact⟨v,by simpa[fR]using hv,by simpa[kb]using hp⟩
theorem UC:∀{e:List D} {len off n:Nat},n<len->(ints e off len).getD n 0=(e.getD (off+n) .dead).toInt
 |e,len+1,off,0,_=>by simp[ints]
 |e,len+1,off,n+1,h=>by
  have:=UC (e:=e) (len:=len) (off:=off+1) (n:=n) (by omega)
  rw[show off+1+n=off+(n+1) by omega]at this
  simpa[ints]using this
theorem UD:∀{e:List D} {len off n:Nat},n<len->(ag e off len).getD n false=(e.getD (off+n) .dead).toBool
 |e,len+1,off,0,_=>by simp[ag]
 |e,len+1,off,n+1,h=>by
  have:=UD (e:=e) (len:=len) (off:=off+1) (n:=n) (by omega)
  rw[show off+1+n=off+(n+1) by omega]at this
  simpa[ag]using this
theorem UE{k:IntKind}:∀{e:List D} {len off n:Nat},CE k e off len=true->n<len->(e.getD (off+n) .dead).isInt k=true
 |e,len+1,off,0,h,_=>by simp only[CE,aE]at h;exact h.1
 |e,len+1,off,n+1,h,hn=>by
  simp only[CE,aE]at h
  have:=UE h.2 (n:=n) (by omega)
  rwa [show off+1+n=off+(n+1) by omega]at this
theorem UF:∀{e:List D} {len off n:Nat},G5 e off len=true->n<len->(e.getD (off+n) .dead).isBool=true
 |e,len+1,off,0,h,_=>by simp only[G5,aE]at h;exact h.1
 |e,len+1,off,n+1,h,hn=>by
  simp only[G5,aE]at h
  have:=UF h.2 (n:=n) (by omega)
  rwa [show off+1+n=off+(n+1) by omega]at this
theorem D.kd{d:D}(h:d.isInt k=true):d=.int k d.toInt:=by
 cases d<;>simp[D.isInt]at h
 subst h;rfl
theorem D.kf{d:D}(h:d.isBool=true):d=.bool d.toBool:=by
 cases d<;>simp[D.isBool]at h
 rfl
theorem kb.int{c:Ctx}{n:Int}(h:kb pl c w (.int k n) v):v=.int k n:=by
 cases pl<;>simpa[kb,r6,r7,r8,r9,sc,sd,tt,tR,tS,tT,tU,tV,tW,tX,tY,tZ,dc]using h
theorem kb.bool{c:Ctx}{b:Bool}(h:kb pl c w (.bool b) v):v=.bool b:=by
 cases pl<;>simpa[kb,r6,r7,r8,r9,sc,sd,tt,tR,tS,tT,tU,tV,tW,tX,tY,tZ,dc]using h
theorem UG(ht:Ar P t=some ti)(hk:(ti.kind.isAgg||match ti.kind with|.other=>true|_=>false)=false):ti.size=1:=by
 obtain⟨_,_,_,_,hl,nb,_,_,hc,_⟩:=Qc ht
 rw[<-hl,hc]
 rw[nb]at hk
 unfold G4 at hk
 unfold lZ
 split at hk<;>first|rfl|(simp[TK.isAgg]at hk)
theorem UH{a:Addr}:(Instr.loadAt t (.pointer (some a))).run P w=(loadVar t a).run P w:=by
 simp[Instr.loadAt,Instr.sureAddr]
theorem Zi1(hT:Q4 P T){x:D}{K:D->Rows->Prop}(h:wH T t x R K):
 ∃val,K val R/\∀c w v,Mem c w->mf c R->Rep c w x v->∃u,(Instr.loadAt t v).run P w=.ok u w/\Rep c w val u:=by
 unfold wH at h
 cases ht:T.get t with
 |none=>simp only[ht]at h
 |some ti=>
  simp only[ht]at h
  have Ma:=hT.get ht
  obtain⟨i0,pB,By,_,J5,w6,_⟩:=Qc Ma
  cases x<;>simp only at h
  case ptr r i off=>
   cases hR:R.getD r none with
   |none=>simp only[hR]at h
   |some row=>
    obtain⟨box,ty,sz,es⟩:=row
    simp only[hR,dd]at h
    obtain⟨hle,h⟩:=h
    have hle:=lE hle
    obtain⟨val,hK,uf,hr⟩:=Zhn J5 h
    refine⟨val,hK,λc w v hm hA hv=>?_⟩
    obtain⟨row,h1,hV,h2,h3⟩:=hv
    have cz:=hA r row _ h1 hR
    subst cz
    obtain⟨arr,ha,hx⟩:=(hm.real h1 hV).get h2 hle
    simp only[ai.ng es (show i<es.len by simpa using h2)]at hx
    subst h3
    refine⟨_,UH.trans (Y8 Ma ha (λj hj=>by obtain⟨v,hv,_⟩:=hx j hj;exact⟨v,hv⟩) uf),hr c w arr _ hx⟩
  case pa r i off len k n=>
   cases hR:R.getD r none with
   |none=>simp only[hR]at h
   |some row=>
    obtain⟨box,ty,sz,es⟩:=row
    simp only[hR,dd]at h
    obtain⟨hle,h⟩:=h
    have hle:=lE hle
    have one:(ti.kind.isAgg=false)->ti.size=1->∀c w v,Mem c w->mf c R->Rep c w (.pa r i off len k n) v->∃u,(Instr.loadAt t v).run P w=.ok u w/\kb (!box) c w ((es.get i).getD (off+n) .dead) u/\n<len:=by
     intro CF ft c w v hm hA hv
     obtain⟨hn,row,h1,hV,h2,h3⟩:=hv
     have cz:=hA r row _ h1 hR
     subst cz
     obtain⟨arr,ha,hx⟩:=(hm.real h1 hV).get h2 hle
     simp only[ai.ng es (show i<es.len by simpa using h2)]at hx
     subst h3
     obtain⟨u,hu,CD⟩:=hx n hn
     have UA:arr[i*sz+(off+n)]?=some u:=by rw[<-fR];exact hu
     refine⟨u,?_,CD,hn⟩
     rw[UH,Y8 Ma ha (λj hj=>⟨u,by rw[show j=0 by omega];exact UA⟩) (.inr ft),CF]
     simp[UA]
    split at h
    ·rename_i j k' hk
     simp only[aE,decide_eq_true_eq]at h
     obtain⟨⟨rfl,iR⟩,h⟩:=h
     have ft:ti.size=1:=UG Ma (by rw[hk];simp[TK.isAgg])
     refine⟨_,h,λc w v hm hA hv=>?_⟩
     obtain⟨u,hu,CD,hn⟩:=one (by rw[hk];rfl) ft c w v hm hA hv
     rw[D.kd (UE iR hn)]at CD
     have:=kb.int CD
     subst this
     exact⟨_,hu,by simp only[Rep,VRep,dc];rw[UC hn]⟩
    ·rename_i hk
     obtain⟨iR,h⟩:=h
     have ft:ti.size=1:=UG Ma (by rw[hk];simp[TK.isAgg])
     refine⟨_,h,λc w v hm hA hv=>?_⟩
     obtain⟨u,hu,CD,hn⟩:=one (by rw[hk];rfl) ft c w v hm hA hv
     rw[D.kf (UF iR hn)]at CD
     have:=kb.bool CD
     subst this
     exact⟨_,hu,by simp only[Rep,VRep,dc];rw[UD hn]⟩
    ·exact h.elim
  case iu sz es i off=>
   simp only[dd]at h
   obtain⟨hle,h⟩:=h
   have hle:=lE hle
   obtain⟨val,hK,uf,hr⟩:=Zhn J5 h
   refine⟨val,hK,λc w v hm hA hv=>?_⟩
   obtain⟨b,o,arr,ty,fz,h3,hI,hi,ha,hE⟩:=hv
   subst h3
   obtain⟨h1,h2⟩:=Uz hE hi
   rw[ai.ng es (show i<es.len by simpa using hi)]at h1 h2
   have hx:∀j,j<ti.size->∃v,arr[o+i*sz+off+j]?=some v/\kb true c w ((es.get i).getD (off+j) .dead) v:=λj hj=>by
    obtain⟨v,hv,hp⟩:=Uy h2 (j:=off+j) (by omega)
    exact⟨v,by rw[<-hv];congr 1;omega,hp⟩
   exact⟨_,UH.trans (Y8 Ma ha (λj hj=>by obtain⟨v,hv,_⟩:=hx j hj;exact⟨v,hv⟩) uf),hr c w arr _ hx⟩
def Ctx.fg(c:Ctx)(b:Nat):Ctx:={c with I:=λx=>c.I x\/x=b,top:=max c.top (b+1)}
theorem UI{c:Ctx}(hm:Mem c w)(o:Obj):jc c w (c.fg w.heap.size) (w.alloc o):=
 ⟨rfl,Nat.le_max_left _ _,λb hb=>⟨.inl hb,Ab w o b (hm.fg b hb).1⟩,λr x hr=>⟨x,hr,rfl,rfl,rfl,rfl,rfl,Iff.rfl,λnv arr ha=>⟨arr,by rw[Ab w o _ (hm.lt hr nv)];exact ha,rfl⟩⟩⟩
theorem xas{c:Ctx}(hm:Mem c w)(o:Obj):Mem (c.fg w.heap.size) (w.alloc o):=by
 refine⟨λr x hr=>tk (UI hm o) rfl Iff.rfl (λnv=>Ab w _ _ (hm.lt hr nv)) (hm.row r x hr),hm.inj,λb hb=>?_,?_,hm.jZ.mono (UI hm o).I⟩
 all_goals have ft:(w.alloc o).heap.size=w.heap.size+1:=by show(w.heap.push o).size=_;simp
 rotate_left
 ·have:=hm.top;rw[ft];exact Nat.max_le.2 ⟨by omega,aX _⟩
 rcases hb with hb|hb
 ·exact⟨by have:=(hm.fg b hb).1;omega,(hm.fg b hb).2⟩
 ·subst hb
  exact⟨by omega,λr x hr v=>by have:=hm.lt hr v;show c.ρ r≠w.heap.size;omega⟩

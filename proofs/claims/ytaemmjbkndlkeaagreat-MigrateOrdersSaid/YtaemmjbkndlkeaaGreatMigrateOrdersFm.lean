import Derived.Test.YtaemmjbkndlkeaaGreatMigrateOrdersVc
open Nat renaming le_refl->aX,le_trans->bL,beq->bX,lt_of_succ_lt_succ->fO,add_assoc->fP
open List renaming map_cons->fG,length_cons->dD
open Bool renaming false_eq_true->aA
set_option linter.all false
namespace Go.GD
open Go
variable {Fk S:Nat->Prop}{I I' X:ae}{K:D->Prop}{P:Program}{R:Rows}{T:iu}{cs:List iB}{d:TypeDesc}{k:IntKind}{off r:Nat}{pl:Bool}{row:Row}{t:TypeId}{ti:TI}{us:List Value}{v:Value}{w w' Hr:World}
mutual
theorem Zs3{I I':ae}{w w':World}(h:∀b arr ty fz,I b->w.heap[b]?=some (.cells arr ty fz)->I' b/\w'.heap[b]?=some (.cells arr ty fz)):∀(d:D) (v:Value),fy I w d v->fy I' w' d v
 |_,_,.bool b=>.bool b
 |_,_,.int k n=>.int k n
 |_,_,.str s=>.str s
 |_,_,.iw=>.iw
 |_,_,.c7=>.c7
 |_,_,.emp a=>.emp a
 |_,_,.UD sz es fr a cap h0=>.UD sz es fr a cap h0
 |_,_,.UE sz es fr cap hc b off arr ty fz hI hh hE=>.UE sz es fr cap hc b off arr ty fz (h b arr ty fz hI hh).1 (h b arr ty fz hI hh).2 (Mj h es.l arr off sz hE)
theorem YW{I I':ae}{w w':World}(h:∀b arr ty fz,I b->w.heap[b]?=some (.cells arr ty fz)->I' b/\w'.heap[b]?=some (.cells arr ty fz)):∀(cs:List D) (arr:Array Value) (off:Nat),oP I w cs arr off->oP I' w' cs arr off
 |_,_,_,.nil arr off=>.nil arr off
 |_,_,_,.cons c cs arr off v hv hp hr=>.cons c cs arr off v hv (Zs3 h c v hp) (YW h cs arr (off+1) hr)
theorem Mj{I I':ae}{w w':World}(h:∀b arr ty fz,I b->w.heap[b]?=some (.cells arr ty fz)->I' b/\w'.heap[b]?=some (.cells arr ty fz)):∀(es:List (List D)) (arr:Array Value) (off sz:Nat),ik I w es arr off sz->ik I' w' es arr off sz
 |_,_,_,_,.nil arr off sz=>.nil arr off sz
 |_,_,_,_,.cons e es arr off sz hl hc hr=>.cons e es arr off sz hl (YW h e arr off hc) (Mj h es arr (off+sz) sz hr)
end
theorem wN(h:∀b,I b->I' b/\w'.heap[b]?=w.heap[b]?)(b:Nat)(arr:Array Value)(ty:TypeId)(fz:Nat×Nat)(hI:I b)(hh:w.heap[b]?=some (.cells arr ty fz)):I' b/\w'.heap[b]?=some (.cells arr ty fz):=⟨(h b hI).1,(h b hI).2.trans hh⟩
theorem Znc(h:∀b,I b->I' b/\w'.heap[b]?=w.heap[b]?)(cs:List D)(arr:Array Value)(off:Nat)(hp:oP I w cs arr off):oP I' w' cs arr off:=YW (wN h) cs arr off hp
theorem nC(h:∀b,I b->I' b/\w'.heap[b]?=w.heap[b]?)(es:List (List D))(arr:Array Value)(off sz:Nat)(hp:ik I w es arr off sz):ik I' w' es arr off sz:=Mj (wN h) es arr off sz hp
structure ja(c:Ctx)(w:World)(c':Ctx)(w':World):Prop where
 base:c'.base=c.base
 top:c.top<=c'.top
 I:∀b,c.I b->c'.I b/\w'.heap[b]?=w.heap[b]?
 R :∀r row,c.R r=some row->∃ao,c'.R r=some ao/\ao.box=row.box/\ao.ty=row.ty/\ao.sz=row.sz/\ao.es.l.length=row.es.l.length/\c'.ρ r=c.ρ r/\(c'.V r↔c.V r)/\
  (¬c.V r->∀arr,w.heap[c.ρ r]?=some (.cells arr row.ty (0,0))->∃iG,w'.heap[c.ρ r]?=some (.cells iG row.ty (0,0))/\iG.size=arr.size)
structure Jy(c:Ctx)(w:World)(c':Ctx)(w':World):Prop where
 base:c'.base=c.base
 top:c.top<=c'.top
 I:∀b arr ty fz,c.I b->w.heap[b]?=some (.cells arr ty fz)->c'.I b/\w'.heap[b]?=some (.cells arr ty fz)
 R :∀r row,c.R r=some row->∃ao,c'.R r=some ao/\ao.box=row.box/\ao.ty=row.ty/\ao.sz=row.sz/\ao.es.l.length=row.es.l.length/\c'.ρ r=c.ρ r/\(c'.V r↔c.V r)/\
  (¬c.V r->∀arr,w.heap[c.ρ r]?=some (.cells arr row.ty (0,0))->∃iG,w'.heap[c.ρ r]?=some (.cells iG row.ty (0,0))/\iG.size=arr.size)
theorem ja.to0{c c':Ctx}(h:ja c w c' w'):Jy c w c' w':=⟨h.base,h.top,wN h.I,h.R⟩
theorem Mk{c c':Ctx}(h:∀b,c.I b->c'.I b/\w'.heap[b]?=w.heap[b]?){f:Nat}(hf:rT c w f us v):rT c' w' f us v:=by
 rcases hf with hf|⟨h1,l,rec,h2,h3,h4,h5⟩
 ·exact .inl hf
 ·exact .inr ⟨h1,l,rec,h2,(h l h3).1,(h l h3).2.trans h4,h5⟩
theorem ja.refl(c:Ctx)(w:World):ja c w c w:=
 ⟨rfl,aX _,λ_ h=>⟨h,rfl⟩,λ_ row h=>⟨row,h,rfl,rfl,rfl,rfl,rfl,Iff.rfl,λ_ arr h=>⟨arr,h,rfl⟩⟩⟩
theorem ja.trans{c c' SV:Ctx}(h:ja c w c' w')(g:ja c' w' SV Hr):ja c w SV Hr:=by
 refine⟨g.base.trans h.base,bL h.top g.top,λb hb=>⟨(g.I b (h.I b hb).1).1,(g.I b (h.I b hb).1).2.trans (h.I b hb).2⟩,λr row hr=>?_⟩
 obtain⟨ao,h1,h2,h3,h4,h5,h6,hV,h7⟩:=h.R r row hr
 obtain⟨sM,g1,g2,g3,g4,g5,g6,gV,g7⟩:=g.R r ao h1
 refine⟨sM,g1,g2.trans h2,g3.trans h3,g4.trans h4,g5.trans h5,g6.trans h6,gV.trans hV,λnv arr ha=>?_⟩
 obtain⟨iG,jC,hs⟩:=h7 nv arr ha
 obtain⟨PX,PY,iS⟩:=g7 (λe=>nv (hV.1 e)) iG (by rw[h6,h3];exact jC)
 exact⟨PX,by rw[h6,h3]at PY;exact PY,iS.trans hs⟩
theorem YX{c c':Ctx}(h:Jy c w c' w'):∀{d:D} {v:Value},(∀f cs,d≠.gj f cs)->dc c w d v->dc c' w' d v:=by
 intro d v gq hd
 cases d with
 |sl sz es fr=>
  simp only[dc]at hd⊢
  obtain⟨a,cap,hv,hc,gy⟩:=hd
  refine⟨a,cap,hv,hc,?_⟩
  rcases gy with gy|⟨b,off,arr,ty,fz,ha,hI,hf,hh,hE⟩
  ·exact .inl gy
  ·exact .inr ⟨b,off,arr,ty,fz,ha,(h.I b arr ty fz hI hh).1,λe=>by rw[h.base];exact hf e,(h.I b arr ty fz hI hh).2,Mj h.I _ arr off sz hE⟩
 |all r=>
  simp only[dc]at hd⊢
  obtain⟨row,hr,hb,hd⟩:=hd
  obtain⟨ao,g1,g2,g3,g4,g5,g6,gV,g7⟩:=h.R r row hr
  refine⟨ao,g1,g2.trans hb,?_⟩
  rcases hd with⟨hV,hv⟩|⟨hV,cap,arr,hv,h1,h2,h3,h4⟩
  ·obtain⟨a,hv,ho⟩:=hv
   exact .inl ⟨gV.2 hV,a,hv,ho.mono h.top⟩
  ·obtain⟨iG,jC,hs⟩:=g7 hV arr h3
   exact .inr ⟨λe=>hV (gV.1 e),cap,iG,by rw[hv,g5,g6],by rw[g5];exact h1,h2,by rw[g6,g3];exact jC,by rw[g4,hs];exact h4⟩
 |emp=>
  obtain⟨a,hv,ho⟩:=hd
  exact⟨a,hv,ho.mono h.top⟩
 |own r o n=>
  simp only[dc]at hd⊢
  obtain⟨row,hr,hb,ho,hd⟩:=hd
  obtain⟨ao,g1,g2,g3,g4,g5,g6,gV,g7⟩:=h.R r row hr
  refine⟨ao,g1,g2.trans hb,by rw[g5];exact ho,?_⟩
  rcases hd with⟨h0,a,hv,jn⟩|⟨hV,cap,arr,h1,h2,h3,h4,h5⟩
  ·exact .inl ⟨h0,a,hv,jn.mono h.top gV g6⟩
  ·obtain⟨iG,jC,hs⟩:=g7 hV arr h3
   exact .inr ⟨λe=>hV (gV.1 e),cap,iG,h1,h2,by rw[g6,g3];exact jC,by rw[g4,g6];exact h4,by rw[g4,hs];exact h5⟩
 |ptr r i off=>
  simp only[dc]at hd⊢
  obtain⟨row,hr,hV,hi,hv⟩:=hd
  obtain⟨ao,g1,g2,g3,g4,g5,g6,gV,g7⟩:=h.R r row hr
  exact⟨ao,g1,λe=>hV (gV.1 e),by rw[g5];exact hi,by rw[hv,g6,g4]⟩
 |pa r i off len k n=>
  simp only[dc]at hd⊢
  obtain⟨hn,row,hr,hV,hi,hv⟩:=hd
  obtain⟨ao,g1,g2,g3,g4,g5,g6,gV,g7⟩:=h.R r row hr
  exact⟨hn,ao,g1,λe=>hV (gV.1 e),by rw[g5];exact hi,by rw[hv,g6,g4]⟩
 |im sz es i off=>
  simp only[dc]at hd⊢
  obtain⟨b,o,arr,ty,fz,hv,hI,hi,hh,hE⟩:=hd
  exact⟨b,o,arr,ty,fz,hv,(h.I b arr ty fz hI hh).1,hi,(h.I b arr ty fz hI hh).2,Mj h.I _ arr o sz hE⟩
 |gk r=>
  rcases hd with hd|⟨row,hr,hV,hi,hv⟩
  ·exact .inl hd
  ·obtain⟨ao,g1,g2,g3,g4,g5,g6,gV,g7⟩:=h.R r row hr
   exact .inr ⟨ao,g1,λe=>hV (gV.1 e),by rw[g5];exact hi,by rw[hv,g6,g4]⟩
 |gj f cs=>exact absurd rfl (gq f cs)
 |_=>exact hd
theorem Zd3{c c':Ctx}(h:ja c w c' w'){d:D}(gq:∀f cs,d≠.gj f cs)(hd:dc c w d v):dc c' w' d v:=YX h.to0 gq hd
theorem YY{c c':Ctx}{w w':World}{S:Nat->Prop}{f:Nat->Nat}{dv:Bool}{Fk:Nat->Prop}(g:∀d v,(∀f cs,d≠.gj f cs)->(∀r∈nO d,S r)->dc c w d v->dc c' w' (d.mF f dv) v)(gF:∀k ws v,Fk k->rT c w k ws v->rT c' w' k ws v):
 ∀{cs:List iB} {us:List Value},(∀k ps,iB.fn k ps∈cs->Fk k)->(∀r∈ry cs,S r)->oL c w cs us->oL c' w' (cs.map (iB.je f dv)) us
 |[],[],_,_,_=>trivial
 |x ::cs,u::us,hF,hS,⟨h1,h2⟩=>by
  refine⟨?_,YY g gF (λk ps hm=>hF k ps (by simp[hm])) (λr hr=>hS r (by simp[ry,hr])) h2⟩
  have UF:∀r∈CP x,S r:=λr hr=>hS r (by simp[ry,hr])
  cases x with
  |fn k ps=>
   obtain⟨ws,hv,hw⟩:=h1
   refine⟨ws,gF k ws u (hF k ps (by simp)) hv,?_⟩
   have hS2:∀p∈ps,S p.1:=λp hp=>UF _ (by simp only[CP,List.mem_map];exact⟨p,hp,rfl⟩)
   clear hv UF hS h2 hF
   induction ps generalizing ws with
   |nil=>cases ws<;>exact hw
   |cons p ps ih=>
    cases ws with
    |nil=>exact hw.elim
    |cons v ws=>exact⟨g (.ptr p.1 p.2.1 p.2.2) v (λ_ _ e=>by cases e) (λr hr=>by simp[nO]at hr;subst hr;exact hS2 p (by simp)) hw.1,ih ws hw.2 (λq hq=>hS2 q (by simp[hq]))⟩
  |ptr r i off=>exact g (.ptr r i off) u (λ_ _ e=>by cases e) UF h1
  |int k n=>exact h1
  |arr r=>exact g (.all r) u (λ_ _ e=>by cases e) UF h1
  |sl a b fr=>exact g (.sl a b fr) u (λ_ _ e=>by cases e) (λr hr=>by simp[nO]at hr) h1
 |[],_::_,_,_,h=>h.elim
 |_::_,[],_,_,h=>h.elim
theorem yu{d:D}(h:∀f cs,d≠.gj f cs):d.mF (λr=>r) true=d:=by cases d<;>first|(simp[D.mF];done)|exact absurd rfl (h _ _)
theorem Z5:∀{cs:List iB},cs.map (iB.je (λr=>r) true)=cs
 |[]=>rfl
 |x::l=>by
  simp only[fG,Z5 (cs:=l)]
  congr 1
  cases x<;>simp[iB.je]
theorem Zbm{c c':Ctx}(g:∀d v,(∀f cs,d≠.gj f cs)->(∀r∈nO d,S r)->dc c w d v->dc c' w' d v)(gF:∀k ws v,Fk k->rT c w k ws v->rT c' w' k ws v)(hF:∀k ps,iB.fn k ps∈cs->Fk k)(hS:∀r∈ry cs,S r)(h:oL c w cs us):oL c' w' cs us:=by
 have:=YY (f:=λr=>r) (dv:=true) (λd v h1 h2 h3=>by rw[yu h1];exact g d v h1 h2 h3) gF hF hS h
 rwa [Z5]at this
theorem YA{c c':Ctx}(g:∀d v,(∀f cs,d≠.gj f cs)->(∀r∈nO d,S r)->dc c w d v->dc c' w' d v)(gF:∀b,c.I b->c'.I b/\w'.heap[b]?=w.heap[b]?)(hS:∀r∈ry cs,S r)(h:oL c w cs us):oL c' w' cs us:=
 Zbm (Fk:=λ_=>True) g (λ_ _ _ _=>Mk gF) (λ_ _ _=>trivial) hS h
theorem SN{c c':Ctx}(h:ja c w c' w'){d:D}(hd:dc c w d v):dc c' w' d v:=by
 by_cases e:∃f cs,d=.gj f cs
 ·obtain⟨f,cs,rfl⟩:=e
  obtain⟨us,hv,hu⟩:=hd
  exact⟨us,Mk h.I hv,YA (S:=λ_=>True) (λd v h1 _ h2=>Zd3 h h1 h2) h.I (λ_ _=>trivial) hu⟩
 ·exact Zd3 h (λf cs e'=>e ⟨f,cs,e'⟩) hd
theorem Nq{l:List Nat}(h:rb l=true){k:Nat}(hk:k∈l):k<YB:=lE (List.all_eq_true.1 h k hk)
theorem Zqe:∀{cs:List iB} {k:Nat} {ps:List (Nat×Nat×Nat)},iB.fn k ps∈cs->k∈AA cs
 |x ::l,k,ps,hm=>by
  rcases List.mem_cons.1 hm with e|e
  ·subst e;simp[AA]
  ·have:=Zqe e
   cases x<;>simp[AA,this]
 |[],_,_,hm=>by simp at hm
section
variable {c c':Ctx} {w w':World} (h:Jy c w c' w') {Fk:Nat->Prop} (gF:∀k ws v,Fk k->rT c w k ws v->rT c' w' k ws v)
include h gF
theorem YZ{d:D}(hn:∀k∈AB d,Fk k)(hd:dc c w d v):dc c' w' d v:=by
 by_cases e:∃f cs,d=.gj f cs
 ·obtain⟨f,cs,rfl⟩:=e
  obtain⟨us,hv,hu⟩:=hd
  exact⟨us,gF _ _ _ (hn f (by simp[AB])) hv,Zbm (S:=λ_=>True) (Fk:=Fk) (λd v h1 _ h2=>YX h h1 h2) gF (λk ps hm=>hn k (by simp[AB,Zqe hm])) (λ_ _=>trivial) hu⟩
 ·exact YX h (λf cs e'=>e ⟨f,cs,e'⟩) hd
theorem Zd0:∀{ds:List D} {vs:List Value},(∀k∈rA ds,Fk k)->jk c w ds vs->jk c' w' ds vs
 |[],[],_,_=>trivial
 |_::_,_::_,hn,⟨h1,h2⟩=>⟨YZ h gF (λk hk=>hn k (by simp[rA,hk])) h1,Zd0 (λk hk=>hn k (by simp[rA,hk])) h2⟩
 |[],_::_,_,h=>h.elim
 |_::_,[],_,h=>h.elim
theorem Zj3{d:D}(hn:∀k∈Fz d,Fk k)(hd:VRep c w d v):VRep c' w' d v:=by
 cases d with
 |agg cs=>obtain⟨vs,hv,hr⟩:=hd;exact⟨vs,hv,Zd0 h gF hn hr⟩
 |_=>simp only[VRep]at hd⊢;exact YZ h gF hn hd
theorem Y0:∀{ds:List D} {vs:List Value},(∀k∈oC ds,Fk k)->kd c w ds vs->kd c' w' ds vs
 |[],[],_,_=>trivial
 |_::_,_::_,hn,⟨h1,h2⟩=>⟨Zj3 h gF (λk hk=>hn k (by simp[oC,hk])) h1,Y0 (λk hk=>hn k (by simp[oC,hk])) h2⟩
 |[],_::_,_,h=>h.elim
 |_::_,[],_,h=>h.elim
theorem Zpm{d:D}(hn:∀k∈CQ d,Fk k)(hd:Rep c w d v):Rep c' w' d v:=by
 cases d with
 |dw ds=>obtain⟨vs,hv,hr⟩:=hd;exact⟨vs,hv,Y0 h gF hn hr⟩
 |dead=>trivial
 |_=>simp only[Rep]at hd⊢;exact Zj3 h gF hn hd
theorem Z63:∀{ds:List D} {arr:Array Value} {off:Nat},(∀k∈rA ds,Fk k)->kF c w ds arr off->kF c' w' ds arr off
 |[],_,_,_,_=>trivial
 |_::_,_,_,hn,⟨⟨v,hv,h1⟩,h2⟩=>⟨⟨v,hv,YZ h gF (λk hk=>hn k (by simp[rA,hk])) h1⟩,Z63 (λk hk=>hn k (by simp[rA,hk])) h2⟩
end
theorem Zb0{c c':Ctx}{w w':World}(h:ja c w c' w'):∀{ds:List D} {vs:List Value},jk c w ds vs->jk c' w' ds vs
 |[],[],_=>trivial
 |_::_,_::_,⟨h1,h2⟩=>⟨SN h h1,Zb0 h h2⟩
theorem Zka{c c':Ctx}(h:ja c w c' w'):∀{d:D} {v:Value},VRep c w d v->VRep c' w' d v:=by
 intro d v hd
 cases d with
 |agg cs=>obtain⟨vs,hv,hr⟩:=hd;exact⟨vs,hv,Zb0 h hr⟩
 |_=>simp only[VRep]at hd⊢;exact SN h hd
theorem WH{c c':Ctx}{w w':World}(h:ja c w c' w'):∀{ds:List D} {vs:List Value},kd c w ds vs->kd c' w' ds vs
 |[],[],_=>trivial
 |_::_,_::_,⟨h1,h2⟩=>⟨Zka h h1,WH h h2⟩
theorem Ac{c c':Ctx}(h:ja c w c' w'):∀{d:D} {v:Value},Rep c w d v->Rep c' w' d v:=by
 intro d v hd
 cases d with
 |dw ds=>obtain⟨vs,hv,hr⟩:=hd;exact⟨vs,hv,WH h hr⟩
 |dead=>trivial
 |_=>simp only[Rep]at hd⊢;exact Zka h hd
theorem Nl{c c':Ctx}{w w':World}(h:ja c w c' w'):∀{ds:List D} {arr:Array Value} {off:Nat},kF c w ds arr off->kF c' w' ds arr off
 |[],_,_,_=>trivial
 |_::_,_,_,⟨⟨v,hv,h1⟩,h2⟩=>⟨⟨v,hv,SN h h1⟩,Nl h h2⟩
def Ap(I:ae)(w:World):Prop:=∀x∈GN,I x.1/\∃ty fz,w.heap[x.1]?=some (.cells (x.2.2.map λz=>Value.int x.2.1 z).toArray ty fz)
theorem Ap.Hs(h:Ap I w)(g:∀b arr ty fz,I b->w.heap[b]?=some (.cells arr ty fz)->I' b/\w'.heap[b]?=some (.cells arr ty fz)):Ap I' w':=λx hx=>by
 obtain⟨h1,ty,fz,h2⟩:=h x hx
 exact⟨(g _ _ _ _ h1 h2).1,ty,fz,(g _ _ _ _ h1 h2).2⟩
theorem Ap.mono(h:Ap I w)(g:∀b,I b->I' b/\w'.heap[b]?=w.heap[b]?):Ap I' w':=h.Hs (wN g)
structure Mem(c:Ctx)(w:World):Prop where
 row:∀r row,c.R r=some row->ED c w r row
 inj:∀r s x y,c.R r=some x->c.R s=some y->¬c.V r->¬c.V s->c.ρ r=c.ρ s->r=s
 fe:∀b,c.I b->b<w.heap.size/\∀r x,c.R r=some x->¬c.V r->c.ρ r≠b
 top:c.top<=w.heap.size
 jU:Ap c.I w
theorem Y1{c:Ctx}(hm:Mem c w)(h:Jy c w {c with I:=I} w')(hh:∀r x,c.R r=some x->¬c.V r->w'.heap[c.ρ r]?=w.heap[c.ρ r]?)(gF:∀k ws v,Fk k->rT c w k ws v->rT {c with I:=I} w' k ws v)
 (hn:∀r x,c.R r=some x->∀k∈kB [x],Fk k) (hI:∀b,I b->b<w'.heap.size/\∀r x,c.R r=some x->¬c.V r->c.ρ r≠b) (hs:w.heap.size<=w'.heap.size):Mem {c with I:=I} w':=by
 refine⟨λr row hr=>?_,hm.inj,λb hb=>hI b hb,bL hm.top hs,hm.jU.Hs h.I⟩
 rcases hm.row r row hr with g|⟨g0,arr,g1,g2,g3⟩
 ·exact .inl g
 ·refine .inr ⟨g0,arr,(hh r row hr g0).trans g1,g2,?_⟩
  split at g3
  ·rename_i hb
   rw[if_pos hb]
   obtain⟨e,k1,k2,k3,k4⟩:=g3
   refine⟨e,k1,k2,k3,Z63 h gF (λk hk=>hn r row hr k ?_) k4⟩
   obtain⟨bx,ty,sz,es⟩:=row
   simp only at hb k1
   subst hb;subst k1
   simpa[kB]using hk
  ·rename_i hb
   rw[if_neg hb]
   exact Mj h.I _ _ _ _ g3
theorem Mem.real{c:Ctx}(h:Mem c w)(hr:c.R r=some row)(hV:¬c.V r):wO c w r row:=by
 rcases h.row r row hr with h1|h1
 ·exact(hV h1.1).elim
 ·exact h1.2
theorem Mem.nA{c:Ctx}(h:Mem c w)(hr:c.R r=some row)(hV:c.V r):row.box=false/\row.es.l=[]/\0<row.sz:=by
 rcases h.row r row hr with h1|h1
 ·exact h1.2
 ·exact(h1.1 hV).elim
theorem Mem.lt{c:Ctx}(h:Mem c w)(hr:c.R r=some row)(hV:¬c.V r):c.ρ r<w.heap.size:=by
 obtain⟨arr,ha,_⟩:=h.real hr hV
 by_cases bd:c.ρ r<w.heap.size
 ·exact bd
 ·rw[Array.getElem?_eq_none (by omega)]at ha;cases ha
structure Fr(X:ae)(w w':World):Prop where
 os:w'.os=w.os
 tape:w'.tape=w.tape
 output:w'.output=w.output
 size:w.heap.size<=w'.heap.size
 heap:∀b,b<w.heap.size->¬X b->w'.heap[b]?=w.heap[b]?
theorem Fr.refl(X:ae)(w:World):Fr X w w:=⟨rfl,rfl,rfl,aX _,λ_ _ _=>rfl⟩
theorem Fr.trans(h:Fr X w w')(g:Fr X w' Hr):Fr X w Hr:=
 ⟨g.os.trans h.os,g.tape.trans h.tape,g.output.trans h.output,bL h.size g.size,λb hb hx=>(g.heap b (Nat.lt_of_lt_of_le hb h.size) hx).trans (h.heap b hb hx)⟩
theorem Fr.mono{X Y:ae}(h:Fr X w w')(hxy:∀b,b<w.heap.size->X b->Y b):Fr Y w w':=
 ⟨h.os,h.tape,h.output,h.size,λb hb hy=>h.heap b hb λhx=>hy (hxy b hb hx)⟩
def mh(P:Program):Nat->TypeId->List sq
 |0,_=>[]
 |n+1,t=>match P.underlying t with
  |some (.int k)=>[.int k]
  |some .bool=>[.bool]
  |some .string=>[.str]
  |some (.slice e)=>[.sl (P.cellsOf e)]
  |some (.struct fs)=>fs.toList.flatMap λf=>mh P n f.type
  |some (.array m e)=>(List.replicate m (mh P n e)).flatten
  |_=>[.other]
def Ht(P:Program)(t:TypeId):TK:=
 match P.underlying t with
 |some (.int k)=>.int k
 |some .bool=>.bool
 |some .string=>.string
 |some (.slice e)=>.slice e (P.cellsOf e)
 |some (.struct fs)=>.struct (fs.toList.map λf=>(f.offset,f.type,P.cellsOf f.type))
 |some (.array n e)=>.array n e (P.cellsOf e)
 |_=>.other
def UG(P:Program)(g:TypeId->Bool)(l:TypeId->Nat):List Field->Nat->Bool
 |[],_=>true
 |f::fs,o=>f.name != "_" &&bX f.offset o&&bX (P.cellsOf f.type) (l f.type)&&Nat.blt 0 (l f.type)&&g f.type&&UG P g l fs (o+l f.type)
def rB(P:Program):Nat->TypeId->Bool
 |0,_=>false
 |n+1,t=>match P.underlying t with
  |some (.int _)=>true
  |some .bool=>true
  |some .string=>true
  |some (.struct fs)=>!P.stoodInHeld t&&UG P (rB P n) (λu=>(mh P n u).length) fs.toList 0
  |some (.array _ e)=>bX (P.cellsOf e) (mh P n e).length&&Nat.blt 0 (P.cellsOf e)&&rB P n e
  |_=>false
def AD(P:Program)(t:TypeId):Option TI:=
 match P.info? t with
 |some i=>if(mh P 8 t).length=i.size/\(P.underlying t).isSome=true then
  some ⟨Ht P t,i.size,i.bytes,mh P 8 t,i.zero.bind λz=>Bp z.cells.toList,!(P.eqGuardType P.depth t)&&rB P 8 t⟩else none
 |none=>none
def jg(P:Program)(T:iu):Prop:=T.map (λx=>AD P x.1)=T.map (λx=>some x.2)
theorem jg.get(h:jg P T){i:TI}(hi:T.get t=some i):AD P t=some i:=by
 induction T with
 |nil=>simp[iu.get]at hi
 |cons x l ih=>
  obtain⟨u,j⟩:=x
  simp only[jg,fG,List.cons.injEq]at h
  simp only[iu.get]at hi
  cases hb:bX u t with
  |true=>
   simp only[hb,Option.some.injEq]at hi
   have:=bE hb
   subst this;subst hi
   exact h.1
  |false=>simp only[hb]at hi;exact ih h.2 hi
theorem nm{K:Rows->Prop}:∀{R:Rows},tN R K↔K R
 |[]=>Iff.rfl
 |d::l=>by unfold tN;exact nm (R:=l) (K:=λl=>K (d::l))
theorem D.c6{d:D}:d.force K↔K d:=by cases d<;>rfl
theorem D.ey:∀{l:List D} {K:List D->Prop},D.jY l K↔K l
 |[],_=>Iff.rfl
 |d::l,K=>by unfold D.jY;rw[D.c6];exact D.ey (l:=l) (K:=λl=>K (d::l))
theorem Zjs{row:Row}:∀{R:Rows} {n:Nat} {K:Nat->Rows->Prop},wP row R n K↔K (n+R.length) (R++[some row])
 |[],_,_=>Iff.rfl
 |x::l,n,K=>by
  unfold wP
  rw[Zjs (R:=l) (K:=λk l=>K k (x::l))]
  simp only[dD,List.cons_append]
  rw[show n+1+l.length=n+(l.length+1) by omega]
theorem Kx{K:Nat->Rows->Prop}:uN R row K↔K R.length (R++[some row]):=by
 unfold uN;rw[Zjs];simp
theorem fy.one{d:D}(h:fy I w d v):v.oneCell'=true:=by
 cases d<;>simp only[se,si,sj,sk,sn,so,tC,tZ,ua,ub,uc,ud,ue,uf,ug,uh,qU,Zrc,Zs4]at h
 case sl sz es fr=>obtain⟨a,cap,hv,_⟩:=h;subst hv;rfl
 case emp=>obtain⟨a,hv⟩:=h;subst hv;rfl
 all_goals first|(subst h;rfl)|exact h.elim
theorem dc.one{c:Ctx}{d:D}(h:dc c w d v):v.oneCell'=true:=by
 cases d<;>simp only[dc]at h
 case sl sz es fr=>obtain⟨a,cap,hv,_⟩:=h;subst hv;rfl
 case emp=>obtain⟨a,hv,_⟩:=h;subst hv;rfl
 case mW es=>obtain⟨b,hv,_⟩:=h;subst hv;rfl
 case all r=>obtain⟨row,_,_,⟨_,a,hv,_⟩|⟨_,cap,arr,hv,_⟩⟩:=h<;>(subst hv;rfl)
 case own r o n=>
  obtain⟨row,_,_,_,⟨_,a,hv,_⟩|⟨_,cap,arr,_,_,_,hv,_⟩⟩:=h<;>(subst hv;rfl)
 case ptr r i off=>obtain⟨row,_,_,_,hv⟩:=h;subst hv;rfl
 case pa r i off len k n=>obtain⟨_,row,_,_,_,hv⟩:=h;subst hv;rfl
 case im sz es i off=>obtain⟨b,o,arr,ty,fz,hv,_⟩:=h;subst hv;rfl
 case gj f cs=>obtain⟨us,⟨_,hv⟩|⟨_,l,rec,hv,_⟩,_⟩:=h<;>(subst hv;rfl)
 case gk r=>obtain hv|⟨row,_,_,_,hv⟩:=h<;>(subst hv;rfl)
 all_goals first|exact h|(subst h;rfl)|exact h.elim
theorem UH{I:ae}{w:World}:∀{cs:List D} {arr:Array Value} {off j:Nat},oP I w cs arr off->j<cs.length->∃v,arr[off+j]?=some v/\fy I w (cs.getD j .dead) v
 |c::cs,arr,off,0,h,_=>by
  simp only[DJ,DK]at h
  simpa using h.1
 |c::cs,arr,off,j+1,h,hj=>by
  simp only[DJ,DK]at h
  obtain⟨v,hv,hp⟩:=UH h.2 (fO (by simpa using hj))
  exact⟨v,by rw[show off+(j+1)=off+1+j by omega];exact hv,by simpa using hp⟩
theorem UI{I:ae}{w:World}:∀{es:List (List D)} {arr:Array Value} {off sz i:Nat},ik I w es arr off sz->i<es.length->(es.getD i []).length=sz/\oP I w (es.getD i []) arr (off+i*sz)
 |e::es,arr,off,sz,0,h,_=>by
  simp only[ra,pN]at h
  simpa using⟨h.1,h.2.1⟩
 |e::es,arr,off,sz,i+1,h,hi=>by
  simp only[ra,pN]at h
  obtain⟨h1,h2⟩:=UI h.2.2 (fO (by simpa using hi))
  exact⟨by simpa using h1,by rw[show off+(i+1)*sz=off+sz+i*sz by rw[Nat.succ_mul];omega];simpa using h2⟩
theorem Zb7{c:Ctx}{w:World}:∀{cs:List D} {arr:Array Value} {off j:Nat},kF c w cs arr off->j<cs.length->∃v,arr[off+j]?=some v/\dc c w (cs.getD j .dead) v
 |d::cs,arr,off,0,h,_=>by
  simp only[kF]at h
  simpa using h.1
 |d::cs,arr,off,j+1,h,hj=>by
  simp only[kF]at h
  obtain⟨v,hv,hp⟩:=Zb7 h.2 (fO (by simpa using hj))
  exact⟨v,by rw[show off+(j+1)=off+1+j by omega];exact hv,by simpa using hp⟩
theorem Ei{c:Ctx}{w:World}:∀{ds:List D} {vs:List Value},(jk c w ds vs↔ds.length=vs.length/\∀j v,vs[j]?=some v->dc c w (ds.getD j .dead) v)
 |[],[]=>by simp[jk]
 |[],v::vs=>by simp[jk]
 |d::ds,[]=>by simp[jk]
 |d ::ds,v::vs=>by
  simp only[jk,Ei (ds:=ds) (vs:=vs),dD,Nat.add_right_cancel_iff]
  constructor
  ·rintro⟨h1,h2,h3⟩
   refine⟨h2,λj u hu=>?_⟩
   cases j with
   |zero=>simp at hu;subst hu;simpa using h1
   |succ j=>simpa using h3 j u (by simpa using hu)
  ·rintro⟨h1,h2⟩
   exact⟨by simpa using h2 0 v (by simp),h1,λj u hu=>by simpa using h2 (j+1) u (by simpa using hu)⟩
def j9(pl:Bool)(c:Ctx)(w:World)(d:D)(v:Value):Prop:=match pl with|true=>fy c.I w d v|false=>dc c w d v
theorem Zko{ty:sq}{d:D}(h:uO pl ty d K):∃d',K d'/\∀c w v,j9 pl c w d v->dc c w d' v:=by
 cases ty with
 |int k=>
  simp only[uO,dd]at h
  refine⟨_,h.2,λc w v hx=>?_⟩
  cases d<;>simp[D.isInt]at h
  obtain⟨rfl,_⟩:=h
  cases pl<;>simpa[j9,se,si,sj,sk,sn,so,tC,tZ,ua,ub,uc,ud,ue,uf,ug,uh,dc,D.toInt]using hx
 |bool=>
  simp only[uO,dd]at h
  refine⟨_,h.2,λc w v hx=>?_⟩
  cases d<;>simp[D.isBool]at h
  cases pl<;>simpa[j9,se,si,sj,sk,sn,so,tC,tZ,ua,ub,uc,ud,ue,uf,ug,uh,dc,D.toBool]using hx
 |str=>
  simp only[uO,dd]at h
  refine⟨_,h.2,λc w v hx=>?_⟩
  cases d<;>simp[D.isStr]at h
  cases pl<;>simpa[j9,se,si,sj,sk,sn,so,tC,tZ,ua,ub,uc,ud,ue,uf,ug,uh,dc,D.toStr]using hx
 |sl n=>
  cases pl with
  |true=>
   simp only[uO,dd]at h
   refine⟨_,h.2,λc w v hx=>?_⟩
   cases d<;>(try(simp[D.FA]at h;done))
   case c7=>exact⟨none,0,sn.1 hx,Nat.zero_le _,.inl rfl⟩
   case emp=>obtain⟨a,ha⟩:=so.1 hx;exact⟨a,0,ha,Nat.zero_le _,.inl rfl⟩
   simp only[D.FA]at h
   have hh:=bE h.1
   subst hh
   simp only[j9,se,si,sj,sk,sn,so,tC,tZ,ua,ub,uc,ud,ue,uf,ug,uh]at hx
   simp only[dc,D.toEs]
   obtain⟨a,cap,hv,hc,gy⟩:=hx
   refine⟨a,cap,hv,hc,?_⟩
   rcases gy with gy|⟨b,off,arr,ty,fz,ha,hI,hh,hE⟩
   ·exact .inl gy
   ·exact .inr ⟨b,off,arr,ty,fz,ha,hI,by simp,hh,S2.1 hE⟩
  |false=>
   simp only[uO,dd,D.c6]at h
   exact⟨_,h.2,λc w v hx=>hx⟩
 |other=>
  cases pl with
  |false=>
   simp only[uO,dd,D.c6]at h
   exact⟨_,h.2,λc w v hx=>hx⟩
  |true=>
   simp only[uO]at h
   cases d<;>simp only at h
   case iw=>exact⟨_,h,λc w v hx=>sk.1 hx⟩
theorem Zc9{pl:Bool}{e:List D}:∀{dj:List sq} {off:Nat} {K:List D->Prop},Ej pl e dj off K->
 ∃ds,K ds/\ds.length=dj.length/\∀j,j<dj.length->∀c w v,j9 pl c w (e.getD (off+j) .dead) v->dc c w (ds.getD j .dead) v
 |[],off,K,h=>⟨[],h,rfl,λj hj=>by simp at hj⟩
 |t::ts,off,K,h=>by
  simp only[Ej]at h
  obtain⟨d,hd,h1⟩:=Zko h
  obtain⟨ds,Ek,hl,h2⟩:=Zc9 hd
  refine⟨d::ds,Ek,by simp[hl],λj hj c w v hx=>?_⟩
  cases j with
  |zero=>simpa using h1 c w v (by simpa using hx)
  |succ j=>simpa using h2 j (by simpa using hj) c w v (by rw[show off+1+j=off+(j+1) by omega];exact hx)
theorem Qc(h:AD P t=some ti):∃i,P.info? t=some i/\i.size=ti.size/\i.bytes=ti.bytes/\ti.sQ.length=ti.size/\ti.kind=Ht P t/\
 ti.zero=(i.zero.bind λz=>Bp z.cells.toList)/\ti.eq=(!(P.eqGuardType P.depth t)&&rB P 8 t)/\ti.sQ=mh P 8 t/\∃d,P.underlying t=some d:=by
 unfold AD at h
 cases hi:P.info? t with
 |none=>simp[hi]at h
 |some i=>
  simp only[hi]at h
  split at h
  ·rename_i hl
   simp only[Option.some.injEq]at h
   subst h
   exact⟨i,rfl,rfl,rfl,hl.1,rfl,rfl,rfl,rfl,Option.isSome_iff_exists.1 hl.2⟩
  ·cases h
def PZ:TypeDesc->Bool|.struct _=>true|.array _ _=>true|_=>false
theorem Ml(hd:P.underlying t=some d):(Ht P t).isAgg=PZ d:=by
 unfold Ht
 rw[hd]
 cases d<;>rfl
theorem Y2(hd:P.underlying t=some d)(w:World):(isAgg t).run P w=.ok (Ht P t).isAgg w:=by
 rw[Ml hd]
 unfold isAgg
 rw[Sem.run_bind,run_underlying hd w]
 cases d<;>rfl
def AE(arr:Array Value)(o n:Nat):List Value:=(List.range n).map λj=>(arr[o+j]?).getD undef
theorem Fu(b o j:Nat):(⟨b,o,none⟩:Addr).add j=⟨b,o+j,none⟩:=by
 unfold Addr.add;split<;>simp_all
theorem Y3(ht:AD P t=some ti){b o:Nat}{arr:Array Value}{ty:TypeId}{fz:Nat×Nat}(hb:w.heap[b]?=some (.cells arr ty fz))
 (Ts:∀j,j<ti.size->∃v,arr[o+j]?=some v) (h1:ti.kind.isAgg=true\/ti.size=1):
 (loadVar t ⟨b,o,none⟩).run P w=.ok (if ti.kind.isAgg then .agg (AE arr o ti.size).toArray else(arr[o]?).getD undef) w:=by
 obtain⟨i,hi,hs,_,_,hk,_,_,_,d,hd⟩:=Qc ht
 have wQ:∀j,w.cell? ⟨b,o+j,none⟩=arr[o+j]? :=λj=>by simp[World.cell?,hb]
 have hl:(loadCells ⟨b,o,none⟩ ti.size).run P w=.ok (AE arr o ti.size).toArray w:=
  run_loadCells w _ _ _ λj hj=>by
   rw[Fu,wQ]
   obtain⟨v,hv⟩:=Ts j hj
   simp[hv]
 unfold loadVar
 rw[Sem.run_bind,Y2 hd,Result.andThen_ok,<-hk]
 cases hg:ti.kind.isAgg with
 |true=>
  simp only[if_true,Sem.run_bind,sizeOf,typeInfo,run_program,Result.andThen_ok,hi,Sem.run_pure,hs,hl]
 |false=>
  have fp:ti.size=1:=by simpa[hg]using h1
  obtain⟨v,hv⟩:=Ts 0 (by omega)
  have Es:arr[o]?=some v:=by simpa using hv
  have hc:w.cell? ⟨b,o,none⟩=some v:=by simpa[Es]using wQ 0
  simp[hc,Es]
theorem Zkq{e:List D}(hl:ti.sQ.length=ti.size)(h:uP pl ti e off K):
 ∃ val,K val/\(ti.kind.isAgg=true\/ti.size=1)/\∀c w arr o,(∀j,j<ti.size->∃v,arr[o+j]?=some v/\j9 pl c w (e.getD (off+j) .dead) v)->
  Rep c w val (if ti.kind.isAgg then .agg (AE arr o ti.size).toArray else(arr[o]?).getD undef):=by
 unfold uP at h
 cases hg:ti.kind.isAgg with
 |true=>
  simp only[hg]at h
  obtain⟨ds,hK,hlen,hr⟩:=Zc9 h
  refine⟨_,hK,.inl rfl,λc w arr o hx=>?_⟩
  simp only[if_true]
  refine⟨_,rfl,Ei.2 ⟨by simp[AE,hlen,hl],λj v hv=>?_⟩⟩
  have hj:j<ti.size:=by
   have:=(List.getElem?_eq_some_iff.1 hv).1
   simpa[AE]using this
  obtain⟨u,hu,CR⟩:=hx j hj
  have:u=v:=by simpa[AE,hj,hu]using hv
  subst this
  exact hr j (by omega) c w u CR
 |false=>
  simp only[hg]at h
  match hc:ti.sQ with
  |[y]=>
   simp only[hc]at h
   obtain⟨d,hK,hr⟩:=Zko h
   have fp:ti.size=1:=by rw[<-hl,hc];rfl
   refine⟨d,hK,.inr fp,λc w arr o hx=>?_⟩
   obtain⟨u,hu,CR⟩:=hx 0 (by omega)
   have UJ:arr[o]?=some u:=by simpa using hu
   simp only[aA,if_false,UJ,Option.getD_some]
   have:=hr c w u (by simpa using CR)
   cases d<;>first|exact this|trivial|exact this.elim
  |[]=>simp only[hc]at h
  |_::_::_=>simp only[hc]at h
def mn(c:Ctx)(R:Rows):Prop:=∀r row ao,c.R r=some row->R.getD r none=some ao->row=ao
theorem Al(w:World)(o:Obj)(b:Nat)(h:b<w.heap.size):(w.alloc o).heap[b]?=w.heap[b]? :=by
 show(w.heap.push o)[b]?=w.heap[b]?
 rw[Array.getElem?_push,if_neg (Nat.ne_of_lt h)]
theorem UK(w:World)(o:Obj):(w.alloc o).heap[w.heap.size]?=some o:=by
 show(w.heap.push o)[w.heap.size]?=some o
 simp
def Ctx.add(c:Ctx)(k:Nat)(row:Row)(b:Nat):Ctx:={c with R:=λr=>if r=k then some row else c.R r,ρ:=λr=>if r=k then b else c.ρ r,V:=λr=>r≠k/\c.V r}
theorem Ctx.iY(c:Ctx)(k:Nat)(row:Row)(b:Nat):(c.add k row b).R k=some row/\(c.add k row b).ρ k=b:=by simp[Ctx.add]
theorem ja.alloc{c:Ctx}(hm:Mem c w){k:Nat}(hk:c.R k=none)(row:Row)(o:Obj):ja c w (c.add k row w.heap.size) (w.alloc o):=by
 refine⟨rfl,aX _,λb hb=>⟨hb,Al w o b (hm.fe b hb).1⟩,λr x hr=>?_⟩
 have gq:r≠k:=λe=>by rw[e,hk]at hr;cases hr
 refine⟨x,by simp[Ctx.add,gq,hr],rfl,rfl,rfl,rfl,by simp[Ctx.add,gq],by simp[Ctx.add,gq],λnv arr ha=>⟨arr,?_,rfl⟩⟩
 rw[Al w o _ (hm.lt hr nv)];exact ha
theorem Fr.alloc(X:ae)(w:World)(o:Obj):Fr X w (w.alloc o):=
 ⟨rfl,rfl,rfl,by show w.heap.size<=(w.heap.push o).size;simp,λb hb _=>Al w o b hb⟩
theorem tz{c c':Ctx}(h:ja c w c' w')(P0:c'.ρ r=c.ρ r)(hV:c'.V r↔c.V r)(hh:¬c.V r->w'.heap[c.ρ r]?=w.heap[c.ρ r]?)(hr:ED c w r row):ED c' w' r row:=by
 rcases hr with⟨h0,hr⟩|⟨h0,hr⟩
 ·exact .inl ⟨hV.2 h0,hr⟩
 refine .inr ⟨λe=>h0 (hV.1 e),?_⟩
 obtain⟨arr,ha,hs,hx⟩:=hr
 refine⟨arr,by rw[P0,hh h0];exact ha,hs,?_⟩
 split
 ·rename_i hb
  simp only[hb,if_true]at hx
  obtain⟨e,h1,h2,h3,h4⟩:=hx
  exact⟨e,h1,h2,h3,Nl h h4⟩
 ·rename_i hb
  simp only[hb,if_false,aA]at hx
  exact nC h.I _ _ _ _ hx
theorem Mem.alloc{c:Ctx}(hm:Mem c w){k:Nat}(hk:c.R k=none)(row:Row)(arr:Array Value)(hs:0<row.sz)
 (hx:if row.box then∃e,row.es=.gen [e]/\e.length=row.sz/\arr.size=row.sz/\kF c w e arr 0 else ik c.I w row.es.l arr 0 row.sz):
 Mem (c.add k row w.heap.size) (w.alloc (.cells arr row.ty)):=by
 have hg:=ja.alloc hm hk row (.cells arr row.ty)
 refine⟨λr x hr=>?_,λr s x y hr iS Jz Mm he=>?_,λb hb=>?_,bL hm.top (by show w.heap.size<=(w.heap.push _).size;simp),hm.jU.mono hg.I⟩
 ·by_cases e:r=k
  ·subst e
   simp only[Ctx.add,if_true,Option.some.injEq]at hr
   subst hr
   refine .inr ⟨by simp[Ctx.add],arr,by simp only[Ctx.add,if_true];exact UK w _,hs,?_⟩
   split
   ·rename_i hb
    simp only[hb,if_true]at hx
    obtain⟨e,h1,h2,h3,h4⟩:=hx
    exact⟨e,h1,h2,h3,Nl hg h4⟩
   ·rename_i hb
    simp only[hb,if_false,aA]at hx
    exact nC hg.I _ _ _ _ hx
  ·have pI:c.R r=some x:=by simpa[Ctx.add,e]using hr
   exact tz hg (by simp[Ctx.add,e]) (by simp[Ctx.add,e]) (λnv=>Al w _ _ (hm.lt pI nv)) (hm.row r x pI)
 ·by_cases e1:r=k<;>by_cases e2:s=k
  ·exact e1.trans e2.symm
  ·exfalso
   have h2:c.R s=some y:=by simpa[Ctx.add,e2]using iS
   have:=hm.lt h2 (by simpa[Ctx.add,e2]using Mm)
   simp[Ctx.add,e1,e2]at he
   omega
  ·exfalso
   have h1:c.R r=some x:=by simpa[Ctx.add,e1]using hr
   have:=hm.lt h1 (by simpa[Ctx.add,e1]using Jz)
   simp[Ctx.add,e1,e2]at he
   omega
  ·exact hm.inj r s x y (by simpa[Ctx.add,e1]using hr) (by simpa[Ctx.add,e2]using iS) (by simpa[Ctx.add,e1]using Jz) (by simpa[Ctx.add,e2]using Mm) (by simpa[Ctx.add,e1,e2]using he)
 ·have rM:c.I b:=hb
  obtain⟨h1,h2⟩:=hm.fe b rM
  refine⟨by show b<(w.heap.push _).size;simp;omega,λr x hr hv=>?_⟩
  by_cases e:r=k
  ·simp only[Ctx.add,e,if_true];omega
  ·simpa[Ctx.add,e]using h2 r x (by simpa[Ctx.add,e]using hr) (by simpa[Ctx.add,e]using hv)
theorem wO.get{c:Ctx}(h:wO c w r row){i off n:Nat}(hi:i<row.es.l.length)(hn:off+n<=row.sz):
 ∃arr,w.heap[c.ρ r]?=some (.cells arr row.ty (0,0))/\∀j,j<n->∃v,arr[i*row.sz+off+j]?=some v/\j9 (!row.box) c w ((row.es.l.getD i []).getD (off+j) .dead) v:=by
 obtain⟨arr,ha,hs,hx⟩:=h
 refine⟨arr,ha,λj hj=>?_⟩
 cases hb:row.box with
 |true=>
  simp only[hb,if_true]at hx
  obtain⟨e,h1,h2,h3,h4⟩:=hx
  have pE:i=0:=by rw[h1]at hi;simpa[ai.l]using hi
  subst pE
  obtain⟨v,hv,hp⟩:=Zb7 h4 (j:=off+j) (by omega)
  exact⟨v,by simpa using hv,by simpa[j9,h1,ai.l]using hp⟩
 |false=>
  simp only[hb,if_false,aA]at hx
  obtain⟨h1,h2⟩:=UI hx hi
  obtain⟨v,hv,hp⟩:=UH h2 (j:=off+j) (by omega)
  exact⟨v,by simpa[fP]using hv,by simpa[j9]using hp⟩
theorem UL:∀{e:List D} {len off n:Nat},n<len->(ints e off len).getD n 0=(e.getD (off+n) .dead).toInt
 |e,len+1,off,0,_=>by simp[ints]
 |e,len+1,off,n+1,h=>by
  have:=UL (e:=e) (len:=len) (off:=off+1) (n:=n) (by omega)
  rw[show off+1+n=off+(n+1) by omega]at this
  simpa[ints]using this
theorem UM:∀{e:List D} {len off n:Nat},n<len->(ag e off len).getD n false=(e.getD (off+n) .dead).toBool
 |e,len+1,off,0,_=>by simp[ag]
 |e,len+1,off,n+1,h=>by
  have:=UM (e:=e) (len:=len) (off:=off+1) (n:=n) (by omega)
  rw[show off+1+n=off+(n+1) by omega]at this
  simpa[ag]using this
theorem UN{k:IntKind}:∀{e:List D} {len off n:Nat},CS k e off len=true->n<len->(e.getD (off+n) .dead).isInt k=true
 |e,len+1,off,0,h,_=>by simp only[CS,aE]at h;exact h.1
 |e,len+1,off,n+1,h,hn=>by
  simp only[CS,aE]at h
  have:=UN h.2 (n:=n) (by omega)
  rwa [show off+1+n=off+(n+1) by omega]at this
theorem UO:∀{e:List D} {len off n:Nat},Hu e off len=true->n<len->(e.getD (off+n) .dead).isBool=true
 |e,len+1,off,0,h,_=>by simp only[Hu,aE]at h;exact h.1
 |e,len+1,off,n+1,h,hn=>by
  simp only[Hu,aE]at h
  have:=UO h.2 (n:=n) (by omega)
  rwa [show off+1+n=off+(n+1) by omega]at this
theorem D.ka{d:D}(h:d.isInt k=true):d=.int k d.toInt:=by
 cases d<;>simp[D.isInt]at h
 subst h;rfl
theorem D.kb{d:D}(h:d.isBool=true):d=.bool d.toBool:=by
 cases d<;>simp[D.isBool]at h
 rfl
theorem j9.int{c:Ctx}{n:Int}(h:j9 pl c w (.int k n) v):v=.int k n:=by
 cases pl<;>simpa[j9,se,si,sj,sk,sn,so,tC,tZ,ua,ub,uc,ud,ue,uf,ug,uh,dc]using h
theorem j9.bool{c:Ctx}{b:Bool}(h:j9 pl c w (.bool b) v):v=.bool b:=by
 cases pl<;>simpa[j9,se,si,sj,sk,sn,so,tC,tZ,ua,ub,uc,ud,ue,uf,ug,uh,dc]using h
theorem UP(ht:AD P t=some ti)(hk:(ti.kind.isAgg||match ti.kind with|.other=>true|_=>false)=false):ti.size=1:=by
 obtain⟨_,_,_,_,hl,kE,_,_,hc,_⟩:=Qc ht
 rw[<-hl,hc]
 rw[kE]at hk
 unfold Ht at hk
 unfold mh
 split at hk<;>first|rfl|(simp[TK.isAgg]at hk)
theorem UQ{a:Addr}:(Instr.loadAt t (.pointer (some a))).run P w=(loadVar t a).run P w:=by
 simp[Instr.loadAt,Instr.sureAddr]
theorem Zil(hT:jg P T){x:D}{K:D->Rows->Prop}(h:wR T t x R K):
 ∃val,K val R/\∀c w v,Mem c w->mn c R->Rep c w x v->∃u,(Instr.loadAt t v).run P w=.ok u w/\Rep c w val u:=by
 unfold wR at h
 cases ht:T.get t with
 |none=>simp only[ht]at h
 |some ti=>
  simp only[ht]at h
  have Mn:=hT.get ht
  obtain⟨i0,pE,BJ,_,Ko,Ah,_⟩:=Qc Mn
  cases x<;>simp only at h
  case ptr r i off=>
   cases hR:R.getD r none with
   |none=>simp only[hR]at h
   |some row=>
    obtain⟨box,ty,sz,es⟩:=row
    simp only[hR,dd]at h
    obtain⟨hle,h⟩:=h
    have hle:=lE hle
    obtain⟨val,hK,uq,hr⟩:=Zkq Ko h
    refine⟨val,hK,λc w v hm hA hv=>?_⟩
    obtain⟨row,h1,hV,h2,h3⟩:=hv
    have cz:=hA r row _ h1 hR
    subst cz
    obtain⟨arr,ha,hx⟩:=(hm.real h1 hV).get h2 hle
    simp only[ai.nn es (show i<es.len by simpa using h2)]at hx
    subst h3
    refine⟨_,UQ.trans (Y3 Mn ha (λj hj=>by obtain⟨v,hv,_⟩:=hx j hj;exact⟨v,hv⟩) uq),hr c w arr _ hx⟩
  case pa r i off len k n=>
   cases hR:R.getD r none with
   |none=>simp only[hR]at h
   |some row=>
    obtain⟨box,ty,sz,es⟩:=row
    simp only[hR,dd]at h
    obtain⟨hle,h⟩:=h
    have hle:=lE hle
    have one:(ti.kind.isAgg=false)->ti.size=1->∀c w v,Mem c w->mn c R->Rep c w (.pa r i off len k n) v->∃u,(Instr.loadAt t v).run P w=.ok u w/\j9 (!box) c w ((es.get i).getD (off+n) .dead) u/\n<len:=by
     intro CU fp c w v hm hA hv
     obtain⟨hn,row,h1,hV,h2,h3⟩:=hv
     have cz:=hA r row _ h1 hR
     subst cz
     obtain⟨arr,ha,hx⟩:=(hm.real h1 hV).get h2 hle
     simp only[ai.nn es (show i<es.len by simpa using h2)]at hx
     subst h3
     obtain⟨u,hu,CR⟩:=hx n hn
     have UJ:arr[i*sz+(off+n)]?=some u:=by rw[<-fP];exact hu
     refine⟨u,?_,CR,hn⟩
     rw[UQ,Y3 Mn ha (λj hj=>⟨u,by rw[show j=0 by omega];exact UJ⟩) (.inr fp),CU]
     simp[UJ]
    split at h
    ·rename_i j k' hk
     simp only[aE,decide_eq_true_eq]at h
     obtain⟨⟨rfl,iM⟩,h⟩:=h
     have fp:ti.size=1:=UP Mn (by rw[hk];simp[TK.isAgg])
     refine⟨_,h,λc w v hm hA hv=>?_⟩
     obtain⟨u,hu,CR,hn⟩:=one (by rw[hk];rfl) fp c w v hm hA hv
     rw[D.ka (UN iM hn)]at CR
     have:=j9.int CR
     subst this
     exact⟨_,hu,by simp only[Rep,VRep,dc];rw[UL hn]⟩
    ·rename_i hk
     obtain⟨iM,h⟩:=h
     have fp:ti.size=1:=UP Mn (by rw[hk];simp[TK.isAgg])
     refine⟨_,h,λc w v hm hA hv=>?_⟩
     obtain⟨u,hu,CR,hn⟩:=one (by rw[hk];rfl) fp c w v hm hA hv
     rw[D.kb (UO iM hn)]at CR
     have:=j9.bool CR
     subst this
     exact⟨_,hu,by simp only[Rep,VRep,dc];rw[UM hn]⟩
    ·exact h.elim
  case im sz es i off=>
   simp only[dd]at h
   obtain⟨hle,h⟩:=h
   have hle:=lE hle
   obtain⟨val,hK,uq,hr⟩:=Zkq Ko h
   refine⟨val,hK,λc w v hm hA hv=>?_⟩
   obtain⟨b,o,arr,ty,fz,h3,hI,hi,ha,hE⟩:=hv
   subst h3
   obtain⟨h1,h2⟩:=UI hE hi
   rw[ai.nn es (show i<es.len by simpa using hi)]at h1 h2
   have hx:∀j,j<ti.size->∃v,arr[o+i*sz+off+j]?=some v/\j9 true c w ((es.get i).getD (off+j) .dead) v:=λj hj=>by
    obtain⟨v,hv,hp⟩:=UH h2 (j:=off+j) (by omega)
    exact⟨v,by rw[<-hv];congr 1;omega,hp⟩
   exact⟨_,UQ.trans (Y3 Mn ha (λj hj=>by obtain⟨v,hv,_⟩:=hx j hj;exact⟨v,hv⟩) uq),hr c w arr _ hx⟩
def Ctx.fe(c:Ctx)(b:Nat):Ctx:={c with I:=λx=>c.I x\/x=b,top:=max c.top (b+1)}
theorem UR{c:Ctx}(hm:Mem c w)(o:Obj):ja c w (c.fe w.heap.size) (w.alloc o):=
 ⟨rfl,Nat.le_max_left _ _,λb hb=>⟨.inl hb,Al w o b (hm.fe b hb).1⟩,λr x hr=>⟨x,hr,rfl,rfl,rfl,rfl,rfl,Iff.rfl,λnv arr ha=>⟨arr,by rw[Al w o _ (hm.lt hr nv)];exact ha,rfl⟩⟩⟩
theorem zap{c:Ctx}(hm:Mem c w)(o:Obj):Mem (c.fe w.heap.size) (w.alloc o):=by
 refine⟨λr x hr=>tz (UR hm o) rfl Iff.rfl (λnv=>Al w _ _ (hm.lt hr nv)) (hm.row r x hr),hm.inj,λb hb=>?_,?_,hm.jU.mono (UR hm o).I⟩
 all_goals have fp:(w.alloc o).heap.size=w.heap.size+1:=by show(w.heap.push o).size=_;simp
 rotate_left
 ·have:=hm.top;rw[fp];exact Nat.max_le.2 ⟨by omega,aX _⟩
 rcases hb with hb|hb
 ·exact⟨by have:=(hm.fe b hb).1;omega,(hm.fe b hb).2⟩
 ·subst hb
  exact⟨by omega,λr x hr v=>by have:=hm.lt hr v;show c.ρ r≠w.heap.size;omega⟩

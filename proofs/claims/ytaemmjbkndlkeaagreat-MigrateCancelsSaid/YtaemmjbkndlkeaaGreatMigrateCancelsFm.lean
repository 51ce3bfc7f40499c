import Derived.Test.YtaemmjbkndlkeaaGreatMigrateCancelsVc
open Nat renaming le_refl->aX,le_trans->bL,beq->bX,lt_of_succ_lt_succ->fO,add_assoc->fP
open List renaming map_cons->fG,length_cons->dD
open Bool renaming false_eq_true->aA
set_option linter.all false
namespace Go.GD
open Go
variable {Fk S:Nat->Prop}{I I' X:ab}{K:D->Prop}{P:Program}{R:Rows}{T:iG}{cs:List iJ}{d:TypeDesc}{k:IntKind}{off r:Nat}{pl:Bool}{row:Row}{t:TypeId}{ti:TI}{us:List Value}{v:Value}{w w' Hd:World}
mutual
theorem Zrc{I I':ab}{w w':World}(h:∀b arr ty fz,I b->w.heap[b]?=some (.cells arr ty fz)->I' b/\w'.heap[b]?=some (.cells arr ty fz)):∀(d:D) (v:Value),gm I w d v->gm I' w' d v
 |_,_,.bool b=>.bool b
 |_,_,.int k n=>.int k n
 |_,_,.str s=>.str s
 |_,_,.iO=>.iO
 |_,_,.de=>.de
 |_,_,.emp a=>.emp a
 |_,_,.UJ sz es fr a cap h0=>.UJ sz es fr a cap h0
 |_,_,.UK sz es fr cap hc b off arr ty fz hI hh hE=>.UK sz es fr cap hc b off arr ty fz (h b arr ty fz hI hh).1 (h b arr ty fz hI hh).2 (Mq h es.l arr off sz hE)
theorem Zx{I I':ab}{w w':World}(h:∀b arr ty fz,I b->w.heap[b]?=some (.cells arr ty fz)->I' b/\w'.heap[b]?=some (.cells arr ty fz)):∀(cs:List D) (arr:Array Value) (off:Nat),oW I w cs arr off->oW I' w' cs arr off
 |_,_,_,.nil arr off=>.nil arr off
 |_,_,_,.cons c cs arr off v hv hp hr=>.cons c cs arr off v hv (Zrc h c v hp) (Zx h cs arr (off+1) hr)
theorem Mq{I I':ab}{w w':World}(h:∀b arr ty fz,I b->w.heap[b]?=some (.cells arr ty fz)->I' b/\w'.heap[b]?=some (.cells arr ty fz)):∀(es:List (List D)) (arr:Array Value) (off sz:Nat),iA I w es arr off sz->iA I' w' es arr off sz
 |_,_,_,_,.nil arr off sz=>.nil arr off sz
 |_,_,_,_,.cons e es arr off sz hl hc hr=>.cons e es arr off sz hl (Zx h e arr off hc) (Mq h es arr (off+sz) sz hr)
end
theorem wO(h:∀b,I b->I' b/\w'.heap[b]?=w.heap[b]?)(b:Nat)(arr:Array Value)(ty:TypeId)(fz:Nat×Nat)(hI:I b)(hh:w.heap[b]?=some (.cells arr ty fz)):I' b/\w'.heap[b]?=some (.cells arr ty fz):=⟨(h b hI).1,(h b hI).2.trans hh⟩
theorem Znn(h:∀b,I b->I' b/\w'.heap[b]?=w.heap[b]?)(cs:List D)(arr:Array Value)(off:Nat)(hp:oW I w cs arr off):oW I' w' cs arr off:=Zx (wO h) cs arr off hp
theorem nJ(h:∀b,I b->I' b/\w'.heap[b]?=w.heap[b]?)(es:List (List D))(arr:Array Value)(off sz:Nat)(hp:iA I w es arr off sz):iA I' w' es arr off sz:=Mq (wO h) es arr off sz hp
structure jh(c:Ctx)(w:World)(c':Ctx)(w':World):Prop where
 base:c'.base=c.base
 top:c.top<=c'.top
 I:∀b,c.I b->c'.I b/\w'.heap[b]?=w.heap[b]?
 R :∀r row,c.R r=some row->∃ao,c'.R r=some ao/\ao.box=row.box/\ao.ty=row.ty/\ao.sz=row.sz/\ao.es.l.length=row.es.l.length/\c'.ρ r=c.ρ r/\(c'.V r↔c.V r)/\
  (¬c.V r->∀arr,w.heap[c.ρ r]?=some (.cells arr row.ty (0,0))->∃iR,w'.heap[c.ρ r]?=some (.cells iR row.ty (0,0))/\iR.size=arr.size)
structure Jx(c:Ctx)(w:World)(c':Ctx)(w':World):Prop where
 base:c'.base=c.base
 top:c.top<=c'.top
 I:∀b arr ty fz,c.I b->w.heap[b]?=some (.cells arr ty fz)->c'.I b/\w'.heap[b]?=some (.cells arr ty fz)
 R :∀r row,c.R r=some row->∃ao,c'.R r=some ao/\ao.box=row.box/\ao.ty=row.ty/\ao.sz=row.sz/\ao.es.l.length=row.es.l.length/\c'.ρ r=c.ρ r/\(c'.V r↔c.V r)/\
  (¬c.V r->∀arr,w.heap[c.ρ r]?=some (.cells arr row.ty (0,0))->∃iR,w'.heap[c.ρ r]?=some (.cells iR row.ty (0,0))/\iR.size=arr.size)
theorem jh.to0{c c':Ctx}(h:jh c w c' w'):Jx c w c' w':=⟨h.base,h.top,wO h.I,h.R⟩
theorem Mr{c c':Ctx}(h:∀b,c.I b->c'.I b/\w'.heap[b]?=w.heap[b]?){f:Nat}(hf:r7 c w f us v):r7 c' w' f us v:=by
 rcases hf with hf|⟨h1,l,rec,h2,h3,h4,h5⟩
 ·exact .inl hf
 ·exact .inr ⟨h1,l,rec,h2,(h l h3).1,(h l h3).2.trans h4,h5⟩
theorem jh.refl(c:Ctx)(w:World):jh c w c w:=
 ⟨rfl,aX _,λ_ h=>⟨h,rfl⟩,λ_ row h=>⟨row,h,rfl,rfl,rfl,rfl,rfl,Iff.rfl,λ_ arr h=>⟨arr,h,rfl⟩⟩⟩
theorem jh.trans{c c' SX:Ctx}(h:jh c w c' w')(g:jh c' w' SX Hd):jh c w SX Hd:=by
 refine⟨g.base.trans h.base,bL h.top g.top,λb hb=>⟨(g.I b (h.I b hb).1).1,(g.I b (h.I b hb).1).2.trans (h.I b hb).2⟩,λr row hr=>?_⟩
 obtain⟨ao,h1,h2,h3,h4,h5,h6,hV,h7⟩:=h.R r row hr
 obtain⟨sQ,g1,g2,g3,g4,g5,g6,gV,g7⟩:=g.R r ao h1
 refine⟨sQ,g1,g2.trans h2,g3.trans h3,g4.trans h4,g5.trans h5,g6.trans h6,gV.trans hV,λnv arr ha=>?_⟩
 obtain⟨iR,jH,hs⟩:=h7 nv arr ha
 obtain⟨PY,PZ,jb⟩:=g7 (λe=>nv (hV.1 e)) iR (by rw[h6,h3];exact jH)
 exact⟨PY,by rw[h6,h3]at PZ;exact PZ,jb.trans hs⟩
theorem Zy{c c':Ctx}(h:Jx c w c' w'):∀{d:D} {v:Value},(∀f cs,d≠.gx f cs)->dk c w d v->dk c' w' d v:=by
 intro d v ia hd
 cases d with
 |sl sz es fr=>
  simp only[dk]at hd⊢
  obtain⟨a,cap,hv,hc,il⟩:=hd
  refine⟨a,cap,hv,hc,?_⟩
  rcases il with il|⟨b,off,arr,ty,fz,ha,hI,hf,hh,hE⟩
  ·exact .inl il
  ·exact .inr ⟨b,off,arr,ty,fz,ha,(h.I b arr ty fz hI hh).1,λe=>by rw[h.base];exact hf e,(h.I b arr ty fz hI hh).2,Mq h.I _ arr off sz hE⟩
 |all r=>
  simp only[dk]at hd⊢
  obtain⟨row,hr,hb,hd⟩:=hd
  obtain⟨ao,g1,g2,g3,g4,g5,g6,gV,g7⟩:=h.R r row hr
  refine⟨ao,g1,g2.trans hb,?_⟩
  rcases hd with⟨hV,hv⟩|⟨hV,cap,arr,hv,h1,h2,h3,h4⟩
  ·obtain⟨a,hv,ho⟩:=hv
   exact .inl ⟨gV.2 hV,a,hv,ho.mono h.top⟩
  ·obtain⟨iR,jH,hs⟩:=g7 hV arr h3
   exact .inr ⟨λe=>hV (gV.1 e),cap,iR,by rw[hv,g5,g6],by rw[g5];exact h1,h2,by rw[g6,g3];exact jH,by rw[g4,hs];exact h4⟩
 |emp=>
  obtain⟨a,hv,ho⟩:=hd
  exact⟨a,hv,ho.mono h.top⟩
 |own r o n=>
  simp only[dk]at hd⊢
  obtain⟨row,hr,hb,ho,hd⟩:=hd
  obtain⟨ao,g1,g2,g3,g4,g5,g6,gV,g7⟩:=h.R r row hr
  refine⟨ao,g1,g2.trans hb,by rw[g5];exact ho,?_⟩
  rcases hd with⟨h0,a,hv,jv⟩|⟨hV,cap,arr,h1,h2,h3,h4,h5⟩
  ·exact .inl ⟨h0,a,hv,jv.mono h.top gV g6⟩
  ·obtain⟨iR,jH,hs⟩:=g7 hV arr h3
   exact .inr ⟨λe=>hV (gV.1 e),cap,iR,h1,h2,by rw[g6,g3];exact jH,by rw[g4,g6];exact h4,by rw[g4,hs];exact h5⟩
 |ptr r i off=>
  simp only[dk]at hd⊢
  obtain⟨row,hr,hV,hi,hv⟩:=hd
  obtain⟨ao,g1,g2,g3,g4,g5,g6,gV,g7⟩:=h.R r row hr
  exact⟨ao,g1,λe=>hV (gV.1 e),by rw[g5];exact hi,by rw[hv,g6,g4]⟩
 |pa r i off len k n=>
  simp only[dk]at hd⊢
  obtain⟨hn,row,hr,hV,hi,hv⟩:=hd
  obtain⟨ao,g1,g2,g3,g4,g5,g6,gV,g7⟩:=h.R r row hr
  exact⟨hn,ao,g1,λe=>hV (gV.1 e),by rw[g5];exact hi,by rw[hv,g6,g4]⟩
 |iC sz es i off=>
  simp only[dk]at hd⊢
  obtain⟨b,o,arr,ty,fz,hv,hI,hi,hh,hE⟩:=hd
  exact⟨b,o,arr,ty,fz,hv,(h.I b arr ty fz hI hh).1,hi,(h.I b arr ty fz hI hh).2,Mq h.I _ arr o sz hE⟩
 |gr r=>
  rcases hd with hd|⟨row,hr,hV,hi,hv⟩
  ·exact .inl hd
  ·obtain⟨ao,g1,g2,g3,g4,g5,g6,gV,g7⟩:=h.R r row hr
   exact .inr ⟨ao,g1,λe=>hV (gV.1 e),by rw[g5];exact hi,by rw[hv,g6,g4]⟩
 |gx f cs=>exact absurd rfl (ia f cs)
 |_=>exact hd
theorem Zcd{c c':Ctx}(h:jh c w c' w'){d:D}(ia:∀f cs,d≠.gx f cs)(hd:dk c w d v):dk c' w' d v:=Zy h.to0 ia hd
theorem Zz{c c':Ctx}{w w':World}{S:Nat->Prop}{f:Nat->Nat}{ed:Bool}{Fk:Nat->Prop}(g:∀d v,(∀f cs,d≠.gx f cs)->(∀r∈nV d,S r)->dk c w d v->dk c' w' (d.mC f ed) v)(gF:∀k ws v,Fk k->r7 c w k ws v->r7 c' w' k ws v):
 ∀{cs:List iJ} {us:List Value},(∀k ps,iJ.fn k ps∈cs->Fk k)->(∀r∈oE cs,S r)->oR c w cs us->oR c' w' (cs.map (iJ.jl f ed)) us
 |[],[],_,_,_=>trivial
 |x ::cs,u::us,hF,hS,⟨h1,h2⟩=>by
  refine⟨?_,Zz g gF (λk ps hm=>hF k ps (by simp[hm])) (λr hr=>hS r (by simp[oE,hr])) h2⟩
  have UL:∀r∈CN x,S r:=λr hr=>hS r (by simp[oE,hr])
  cases x with
  |fn k ps=>
   obtain⟨ws,hv,hw⟩:=h1
   refine⟨ws,gF k ws u (hF k ps (by simp)) hv,?_⟩
   have hS2:∀p∈ps,S p.1:=λp hp=>UL _ (by simp only[CN,List.mem_map];exact⟨p,hp,rfl⟩)
   clear hv UL hS h2 hF
   induction ps generalizing ws with
   |nil=>cases ws<;>exact hw
   |cons p ps ih=>
    cases ws with
    |nil=>exact hw.elim
    |cons v ws=>exact⟨g (.ptr p.1 p.2.1 p.2.2) v (λ_ _ e=>by cases e) (λr hr=>by simp[nV]at hr;subst hr;exact hS2 p (by simp)) hw.1,ih ws hw.2 (λq hq=>hS2 q (by simp[hq]))⟩
  |ptr r i off=>exact g (.ptr r i off) u (λ_ _ e=>by cases e) UL h1
  |int k n=>exact h1
  |arr r=>exact g (.all r) u (λ_ _ e=>by cases e) UL h1
  |sl a b fr=>exact g (.sl a b fr) u (λ_ _ e=>by cases e) (λr hr=>by simp[nV]at hr) h1
 |[],_::_,_,_,h=>h.elim
 |_::_,[],_,_,h=>h.elim
theorem vu{d:D}(h:∀f cs,d≠.gx f cs):d.mC (λr=>r) true=d:=by cases d<;>first|(simp[D.mC];done)|exact absurd rfl (h _ _)
theorem ZA:∀{cs:List iJ},cs.map (iJ.jl (λr=>r) true)=cs
 |[]=>rfl
 |x::l=>by
  simp only[fG,ZA (cs:=l)]
  congr 1
  cases x<;>simp[iJ.jl]
theorem Zd0{c c':Ctx}(g:∀d v,(∀f cs,d≠.gx f cs)->(∀r∈nV d,S r)->dk c w d v->dk c' w' d v)(gF:∀k ws v,Fk k->r7 c w k ws v->r7 c' w' k ws v)(hF:∀k ps,iJ.fn k ps∈cs->Fk k)(hS:∀r∈oE cs,S r)(h:oR c w cs us):oR c' w' cs us:=by
 have:=Zz (f:=λr=>r) (ed:=true) (λd v h1 h2 h3=>by rw[vu h1];exact g d v h1 h2 h3) gF hF hS h
 rwa [ZA]at this
theorem YT{c c':Ctx}(g:∀d v,(∀f cs,d≠.gx f cs)->(∀r∈nV d,S r)->dk c w d v->dk c' w' d v)(gF:∀b,c.I b->c'.I b/\w'.heap[b]?=w.heap[b]?)(hS:∀r∈oE cs,S r)(h:oR c w cs us):oR c' w' cs us:=
 Zd0 (Fk:=λ_=>True) g (λ_ _ _ _=>Mr gF) (λ_ _ _=>trivial) hS h
theorem SQ{c c':Ctx}(h:jh c w c' w'){d:D}(hd:dk c w d v):dk c' w' d v:=by
 by_cases e:∃f cs,d=.gx f cs
 ·obtain⟨f,cs,rfl⟩:=e
  obtain⟨us,hv,hu⟩:=hd
  exact⟨us,Mr h.I hv,YT (S:=λ_=>True) (λd v h1 _ h2=>Zcd h h1 h2) h.I (λ_ _=>trivial) hu⟩
 ·exact Zcd h (λf cs e'=>e ⟨f,cs,e'⟩) hd
theorem Nu{l:List Nat}(h:rA l=true){k:Nat}(hk:k∈l):k<YB:=lE (List.all_eq_true.1 h k hk)
theorem Zp5:∀{cs:List iJ} {k:Nat} {ps:List (Nat×Nat×Nat)},iJ.fn k ps∈cs->k∈AE cs
 |x ::l,k,ps,hm=>by
  rcases List.mem_cons.1 hm with e|e
  ·subst e;simp[AE]
  ·have:=Zp5 e
   cases x<;>simp[AE,this]
 |[],_,_,hm=>by simp at hm
section
variable {c c':Ctx} {w w':World} (h:Jx c w c' w') {Fk:Nat->Prop} (gF:∀k ws v,Fk k->r7 c w k ws v->r7 c' w' k ws v)
include h gF
theorem ZB{d:D}(hn:∀k∈AF d,Fk k)(hd:dk c w d v):dk c' w' d v:=by
 by_cases e:∃f cs,d=.gx f cs
 ·obtain⟨f,cs,rfl⟩:=e
  obtain⟨us,hv,hu⟩:=hd
  exact⟨us,gF _ _ _ (hn f (by simp[AF])) hv,Zd0 (S:=λ_=>True) (Fk:=Fk) (λd v h1 _ h2=>Zy h h1 h2) gF (λk ps hm=>hn k (by simp[AF,Zp5 hm])) (λ_ _=>trivial) hu⟩
 ·exact Zy h (λf cs e'=>e ⟨f,cs,e'⟩) hd
theorem Zcx:∀{ds:List D} {vs:List Value},(∀k∈rK ds,Fk k)->jr c w ds vs->jr c' w' ds vs
 |[],[],_,_=>trivial
 |_::_,_::_,hn,⟨h1,h2⟩=>⟨ZB h gF (λk hk=>hn k (by simp[rK,hk])) h1,Zcx (λk hk=>hn k (by simp[rK,hk])) h2⟩
 |[],_::_,_,h=>h.elim
 |_::_,[],_,h=>h.elim
theorem Zk{d:D}(hn:∀k∈Fs d,Fk k)(hd:VRep c w d v):VRep c' w' d v:=by
 cases d with
 |agg cs=>obtain⟨vs,hv,hr⟩:=hd;exact⟨vs,hv,Zcx h gF hn hr⟩
 |_=>simp only[VRep]at hd⊢;exact ZB h gF hn hd
theorem ZC:∀{ds:List D} {vs:List Value},(∀k∈oH ds,Fk k)->ki c w ds vs->ki c' w' ds vs
 |[],[],_,_=>trivial
 |_::_,_::_,hn,⟨h1,h2⟩=>⟨Zk h gF (λk hk=>hn k (by simp[oH,hk])) h1,ZC (λk hk=>hn k (by simp[oH,hk])) h2⟩
 |[],_::_,_,h=>h.elim
 |_::_,[],_,h=>h.elim
theorem Zqk{d:D}(hn:∀k∈CO d,Fk k)(hd:Rep c w d v):Rep c' w' d v:=by
 cases d with
 |ee ds=>obtain⟨vs,hv,hr⟩:=hd;exact⟨vs,hv,ZC h gF hn hr⟩
 |dead=>trivial
 |_=>simp only[Rep]at hd⊢;exact Zk h gF hn hd
theorem Z6b:∀{ds:List D} {arr:Array Value} {off:Nat},(∀k∈rK ds,Fk k)->kN c w ds arr off->kN c' w' ds arr off
 |[],_,_,_,_=>trivial
 |_::_,_,_,hn,⟨⟨v,hv,h1⟩,h2⟩=>⟨⟨v,hv,ZB h gF (λk hk=>hn k (by simp[rK,hk])) h1⟩,Z6b (λk hk=>hn k (by simp[rK,hk])) h2⟩
end
theorem Zbq{c c':Ctx}{w w':World}(h:jh c w c' w'):∀{ds:List D} {vs:List Value},jr c w ds vs->jr c' w' ds vs
 |[],[],_=>trivial
 |_::_,_::_,⟨h1,h2⟩=>⟨SQ h h1,Zbq h h2⟩
theorem Zis{c c':Ctx}(h:jh c w c' w'):∀{d:D} {v:Value},VRep c w d v->VRep c' w' d v:=by
 intro d v hd
 cases d with
 |agg cs=>obtain⟨vs,hv,hr⟩:=hd;exact⟨vs,hv,Zbq h hr⟩
 |_=>simp only[VRep]at hd⊢;exact SQ h hd
theorem WN{c c':Ctx}{w w':World}(h:jh c w c' w'):∀{ds:List D} {vs:List Value},ki c w ds vs->ki c' w' ds vs
 |[],[],_=>trivial
 |_::_,_::_,⟨h1,h2⟩=>⟨Zis h h1,WN h h2⟩
theorem Ad{c c':Ctx}(h:jh c w c' w'):∀{d:D} {v:Value},Rep c w d v->Rep c' w' d v:=by
 intro d v hd
 cases d with
 |ee ds=>obtain⟨vs,hv,hr⟩:=hd;exact⟨vs,hv,WN h hr⟩
 |dead=>trivial
 |_=>simp only[Rep]at hd⊢;exact Zis h hd
theorem Nq{c c':Ctx}{w w':World}(h:jh c w c' w'):∀{ds:List D} {arr:Array Value} {off:Nat},kN c w ds arr off->kN c' w' ds arr off
 |[],_,_,_=>trivial
 |_::_,_,_,⟨⟨v,hv,h1⟩,h2⟩=>⟨⟨v,hv,SQ h h1⟩,Nq h h2⟩
def Aq(I:ab)(w:World):Prop:=∀x∈GB,I x.1/\∃ty fz,w.heap[x.1]?=some (.cells (x.2.2.map λz=>Value.int x.2.1 z).toArray ty fz)
theorem Aq.He(h:Aq I w)(g:∀b arr ty fz,I b->w.heap[b]?=some (.cells arr ty fz)->I' b/\w'.heap[b]?=some (.cells arr ty fz)):Aq I' w':=λx hx=>by
 obtain⟨h1,ty,fz,h2⟩:=h x hx
 exact⟨(g _ _ _ _ h1 h2).1,ty,fz,(g _ _ _ _ h1 h2).2⟩
theorem Aq.mono(h:Aq I w)(g:∀b,I b->I' b/\w'.heap[b]?=w.heap[b]?):Aq I' w':=h.He (wO g)
structure Mem(c:Ctx)(w:World):Prop where
 row:∀r row,c.R r=some row->Ey c w r row
 inj:∀r s x y,c.R r=some x->c.R s=some y->¬c.V r->¬c.V s->c.ρ r=c.ρ s->r=s
 fq:∀b,c.I b->b<w.heap.size/\∀r x,c.R r=some x->¬c.V r->c.ρ r≠b
 top:c.top<=w.heap.size
 j4:Aq c.I w
theorem ZD{c:Ctx}(hm:Mem c w)(h:Jx c w {c with I:=I} w')(hh:∀r x,c.R r=some x->¬c.V r->w'.heap[c.ρ r]?=w.heap[c.ρ r]?)(gF:∀k ws v,Fk k->r7 c w k ws v->r7 {c with I:=I} w' k ws v)
 (hn:∀r x,c.R r=some x->∀k∈kL [x],Fk k) (hI:∀b,I b->b<w'.heap.size/\∀r x,c.R r=some x->¬c.V r->c.ρ r≠b) (hs:w.heap.size<=w'.heap.size):Mem {c with I:=I} w':=by
 refine⟨λr row hr=>?_,hm.inj,λb hb=>hI b hb,bL hm.top hs,hm.j4.He h.I⟩
 rcases hm.row r row hr with g|⟨g0,arr,g1,g2,g3⟩
 ·exact .inl g
 ·refine .inr ⟨g0,arr,(hh r row hr g0).trans g1,g2,?_⟩
  split at g3
  ·rename_i hb
   rw[if_pos hb]
   obtain⟨e,k1,k2,k3,k4⟩:=g3
   refine⟨e,k1,k2,k3,Z6b h gF (λk hk=>hn r row hr k ?_) k4⟩
   obtain⟨bx,ty,sz,es⟩:=row
   simp only at hb k1
   subst hb;subst k1
   simpa[kL]using hk
  ·rename_i hb
   rw[if_neg hb]
   exact Mq h.I _ _ _ _ g3
theorem Mem.real{c:Ctx}(h:Mem c w)(hr:c.R r=some row)(hV:¬c.V r):wP c w r row:=by
 rcases h.row r row hr with h1|h1
 ·exact(hV h1.1).elim
 ·exact h1.2
theorem Mem.nH{c:Ctx}(h:Mem c w)(hr:c.R r=some row)(hV:c.V r):row.box=false/\row.es.l=[]/\0<row.sz:=by
 rcases h.row r row hr with h1|h1
 ·exact h1.2
 ·exact(h1.1 hV).elim
theorem Mem.lt{c:Ctx}(h:Mem c w)(hr:c.R r=some row)(hV:¬c.V r):c.ρ r<w.heap.size:=by
 obtain⟨arr,ha,_⟩:=h.real hr hV
 by_cases bg:c.ρ r<w.heap.size
 ·exact bg
 ·rw[Array.getElem?_eq_none (by omega)]at ha;cases ha
structure Fr(X:ab)(w w':World):Prop where
 os:w'.os=w.os
 tape:w'.tape=w.tape
 output:w'.output=w.output
 size:w.heap.size<=w'.heap.size
 heap:∀b,b<w.heap.size->¬X b->w'.heap[b]?=w.heap[b]?
theorem Fr.refl(X:ab)(w:World):Fr X w w:=⟨rfl,rfl,rfl,aX _,λ_ _ _=>rfl⟩
theorem Fr.trans(h:Fr X w w')(g:Fr X w' Hd):Fr X w Hd:=
 ⟨g.os.trans h.os,g.tape.trans h.tape,g.output.trans h.output,bL h.size g.size,λb hb hx=>(g.heap b (Nat.lt_of_lt_of_le hb h.size) hx).trans (h.heap b hb hx)⟩
theorem Fr.mono{X Y:ab}(h:Fr X w w')(hxy:∀b,b<w.heap.size->X b->Y b):Fr Y w w':=
 ⟨h.os,h.tape,h.output,h.size,λb hb hy=>h.heap b hb λhx=>hy (hxy b hb hx)⟩
def mi(P:Program):Nat->TypeId->List tI
 |0,_=>[]
 |n+1,t=>match P.underlying t with
  |some (.int k)=>[.int k]
  |some .bool=>[.bool]
  |some .string=>[.str]
  |some (.slice e)=>[.sl (P.cellsOf e)]
  |some (.struct fs)=>fs.toList.flatMap λf=>mi P n f.type
  |some (.array m e)=>(List.replicate m (mi P n e)).flatten
  |_=>[.other]
def Hf(P:Program)(t:TypeId):TK:=
 match P.underlying t with
 |some (.int k)=>.int k
 |some .bool=>.bool
 |some .string=>.string
 |some (.slice e)=>.slice e (P.cellsOf e)
 |some (.struct fs)=>.struct (fs.toList.map λf=>(f.offset,f.type,P.cellsOf f.type))
 |some (.array n e)=>.array n e (P.cellsOf e)
 |_=>.other
def UM(P:Program)(g:TypeId->Bool)(l:TypeId->Nat):List Field->Nat->Bool
 |[],_=>true
 |f::fs,o=>f.name != "_" &&bX f.offset o&&bX (P.cellsOf f.type) (l f.type)&&Nat.blt 0 (l f.type)&&g f.type&&UM P g l fs (o+l f.type)
def rL(P:Program):Nat->TypeId->Bool
 |0,_=>false
 |n+1,t=>match P.underlying t with
  |some (.int _)=>true
  |some .bool=>true
  |some .string=>true
  |some (.struct fs)=>!P.stoodInHeld t&&UM P (rL P n) (λu=>(mi P n u).length) fs.toList 0
  |some (.array _ e)=>bX (P.cellsOf e) (mi P n e).length&&Nat.blt 0 (P.cellsOf e)&&rL P n e
  |_=>false
def AG(P:Program)(t:TypeId):Option TI:=
 match P.info? t with
 |some i=>if(mi P 8 t).length=i.size/\(P.underlying t).isSome=true then
  some ⟨Hf P t,i.size,i.bytes,mi P 8 t,i.zero.bind λz=>Br z.cells.toList,!(P.eqGuardType P.depth t)&&rL P 8 t⟩else none
 |none=>none
def jm(P:Program)(T:iG):Prop:=T.map (λx=>AG P x.1)=T.map (λx=>some x.2)
theorem jm.get(h:jm P T){i:TI}(hi:T.get t=some i):AG P t=some i:=by
 induction T with
 |nil=>simp[iG.get]at hi
 |cons x l ih=>
  obtain⟨u,j⟩:=x
  simp only[jm,fG,List.cons.injEq]at h
  simp only[iG.get]at hi
  cases hb:bX u t with
  |true=>
   simp only[hb,Option.some.injEq]at hi
   have:=bE hb
   subst this;subst hi
   exact h.1
  |false=>simp only[hb]at hi;exact ih h.2 hi
theorem nA{K:Rows->Prop}:∀{R:Rows},tR R K↔K R
 |[]=>Iff.rfl
 |d::l=>by unfold tR;exact nA (R:=l) (K:=λl=>K (d::l))
theorem D.dd{d:D}:d.force K↔K d:=by cases d<;>rfl
theorem D.fk:∀{l:List D} {K:List D->Prop},D.j7 l K↔K l
 |[],_=>Iff.rfl
 |d::l,K=>by unfold D.j7;rw[D.dd];exact D.fk (l:=l) (K:=λl=>K (d::l))
theorem Zkl{row:Row}:∀{R:Rows} {n:Nat} {K:Nat->Rows->Prop},wQ row R n K↔K (n+R.length) (R++[some row])
 |[],_,_=>Iff.rfl
 |x::l,n,K=>by
  unfold wQ
  rw[Zkl (R:=l) (K:=λk l=>K k (x::l))]
  simp only[dD,List.cons_append]
  rw[show n+1+l.length=n+(l.length+1) by omega]
theorem KA{K:Nat->Rows->Prop}:uO R row K↔K R.length (R++[some row]):=by
 unfold uO;rw[Zkl];simp
theorem gm.one{d:D}(h:gm I w d v):v.oneCell'=true:=by
 cases d<;>simp only[sr,ss,su,sw,sx,sA,tH,ud,ue,uf,ug,uh,ui,uj,uk,um,zU,Zsb,Zr8]at h
 case sl sz es fr=>obtain⟨a,cap,hv,_⟩:=h;subst hv;rfl
 case emp=>obtain⟨a,hv⟩:=h;subst hv;rfl
 all_goals first|(subst h;rfl)|exact h.elim
theorem dk.one{c:Ctx}{d:D}(h:dk c w d v):v.oneCell'=true:=by
 cases d<;>simp only[dk]at h
 case sl sz es fr=>obtain⟨a,cap,hv,_⟩:=h;subst hv;rfl
 case emp=>obtain⟨a,hv,_⟩:=h;subst hv;rfl
 case mY es=>obtain⟨b,hv,_⟩:=h;subst hv;rfl
 case all r=>obtain⟨row,_,_,⟨_,a,hv,_⟩|⟨_,cap,arr,hv,_⟩⟩:=h<;>(subst hv;rfl)
 case own r o n=>
  obtain⟨row,_,_,_,⟨_,a,hv,_⟩|⟨_,cap,arr,_,_,_,hv,_⟩⟩:=h<;>(subst hv;rfl)
 case ptr r i off=>obtain⟨row,_,_,_,hv⟩:=h;subst hv;rfl
 case pa r i off len k n=>obtain⟨_,row,_,_,_,hv⟩:=h;subst hv;rfl
 case iC sz es i off=>obtain⟨b,o,arr,ty,fz,hv,_⟩:=h;subst hv;rfl
 case gx f cs=>obtain⟨us,⟨_,hv⟩|⟨_,l,rec,hv,_⟩,_⟩:=h<;>(subst hv;rfl)
 case gr r=>obtain hv|⟨row,_,_,_,hv⟩:=h<;>(subst hv;rfl)
 all_goals first|exact h|(subst h;rfl)|exact h.elim
theorem UN{I:ab}{w:World}:∀{cs:List D} {arr:Array Value} {off j:Nat},oW I w cs arr off->j<cs.length->∃v,arr[off+j]?=some v/\gm I w (cs.getD j .dead) v
 |c::cs,arr,off,0,h,_=>by
  simp only[DH,DI]at h
  simpa using h.1
 |c::cs,arr,off,j+1,h,hj=>by
  simp only[DH,DI]at h
  obtain⟨v,hv,hp⟩:=UN h.2 (fO (by simpa using hj))
  exact⟨v,by rw[show off+(j+1)=off+1+j by omega];exact hv,by simpa using hp⟩
theorem UO{I:ab}{w:World}:∀{es:List (List D)} {arr:Array Value} {off sz i:Nat},iA I w es arr off sz->i<es.length->(es.getD i []).length=sz/\oW I w (es.getD i []) arr (off+i*sz)
 |e::es,arr,off,sz,0,h,_=>by
  simp only[rz,pY]at h
  simpa using⟨h.1,h.2.1⟩
 |e::es,arr,off,sz,i+1,h,hi=>by
  simp only[rz,pY]at h
  obtain⟨h1,h2⟩:=UO h.2.2 (fO (by simpa using hi))
  exact⟨by simpa using h1,by rw[show off+(i+1)*sz=off+sz+i*sz by rw[Nat.succ_mul];omega];simpa using h2⟩
theorem Zd4{c:Ctx}{w:World}:∀{cs:List D} {arr:Array Value} {off j:Nat},kN c w cs arr off->j<cs.length->∃v,arr[off+j]?=some v/\dk c w (cs.getD j .dead) v
 |d::cs,arr,off,0,h,_=>by
  simp only[kN]at h
  simpa using h.1
 |d::cs,arr,off,j+1,h,hj=>by
  simp only[kN]at h
  obtain⟨v,hv,hp⟩:=Zd4 h.2 (fO (by simpa using hj))
  exact⟨v,by rw[show off+(j+1)=off+1+j by omega];exact hv,by simpa using hp⟩
theorem Eg{c:Ctx}{w:World}:∀{ds:List D} {vs:List Value},(jr c w ds vs↔ds.length=vs.length/\∀j v,vs[j]?=some v->dk c w (ds.getD j .dead) v)
 |[],[]=>by simp[jr]
 |[],v::vs=>by simp[jr]
 |d::ds,[]=>by simp[jr]
 |d ::ds,v::vs=>by
  simp only[jr,Eg (ds:=ds) (vs:=vs),dD,Nat.add_right_cancel_iff]
  constructor
  ·rintro⟨h1,h2,h3⟩
   refine⟨h2,λj u hu=>?_⟩
   cases j with
   |zero=>simp at hu;subst hu;simpa using h1
   |succ j=>simpa using h3 j u (by simpa using hu)
  ·rintro⟨h1,h2⟩
   exact⟨by simpa using h2 0 v (by simp),h1,λj u hu=>by simpa using h2 (j+1) u (by simpa using hu)⟩
def kd(pl:Bool)(c:Ctx)(w:World)(d:D)(v:Value):Prop:=match pl with|true=>gm c.I w d v|false=>dk c w d v
theorem Zhc{ty:tI}{d:D}(h:uP pl ty d K):∃d',K d'/\∀c w v,kd pl c w d v->dk c w d' v:=by
 cases ty with
 |int k=>
  simp only[uP,dm]at h
  refine⟨_,h.2,λc w v hx=>?_⟩
  cases d<;>simp[D.isInt]at h
  obtain⟨rfl,_⟩:=h
  cases pl<;>simpa[kd,sr,ss,su,sw,sx,sA,tH,ud,ue,uf,ug,uh,ui,uj,uk,um,dk,D.toInt]using hx
 |bool=>
  simp only[uP,dm]at h
  refine⟨_,h.2,λc w v hx=>?_⟩
  cases d<;>simp[D.isBool]at h
  cases pl<;>simpa[kd,sr,ss,su,sw,sx,sA,tH,ud,ue,uf,ug,uh,ui,uj,uk,um,dk,D.toBool]using hx
 |str=>
  simp only[uP,dm]at h
  refine⟨_,h.2,λc w v hx=>?_⟩
  cases d<;>simp[D.isStr]at h
  cases pl<;>simpa[kd,sr,ss,su,sw,sx,sA,tH,ud,ue,uf,ug,uh,ui,uj,uk,um,dk,D.toStr]using hx
 |sl n=>
  cases pl with
  |true=>
   simp only[uP,dm]at h
   refine⟨_,h.2,λc w v hx=>?_⟩
   cases d<;>(try(simp[D.Ft]at h;done))
   case de=>exact⟨none,0,sx.1 hx,Nat.zero_le _,.inl rfl⟩
   case emp=>obtain⟨a,ha⟩:=sA.1 hx;exact⟨a,0,ha,Nat.zero_le _,.inl rfl⟩
   simp only[D.Ft]at h
   have hh:=bE h.1
   subst hh
   simp only[kd,sr,ss,su,sw,sx,sA,tH,ud,ue,uf,ug,uh,ui,uj,uk,um]at hx
   simp only[dk,D.toEs]
   obtain⟨a,cap,hv,hc,il⟩:=hx
   refine⟨a,cap,hv,hc,?_⟩
   rcases il with il|⟨b,off,arr,ty,fz,ha,hI,hh,hE⟩
   ·exact .inl il
   ·exact .inr ⟨b,off,arr,ty,fz,ha,hI,by simp,hh,S4.1 hE⟩
  |false=>
   simp only[uP,dm,D.dd]at h
   exact⟨_,h.2,λc w v hx=>hx⟩
 |other=>
  cases pl with
  |false=>
   simp only[uP,dm,D.dd]at h
   exact⟨_,h.2,λc w v hx=>hx⟩
  |true=>
   simp only[uP]at h
   cases d<;>simp only at h
   case iO=>exact⟨_,h,λc w v hx=>sw.1 hx⟩
theorem Zb6{pl:Bool}{e:List D}:∀{dv:List tI} {off:Nat} {K:List D->Prop},Jy pl e dv off K->
 ∃ds,K ds/\ds.length=dv.length/\∀j,j<dv.length->∀c w v,kd pl c w (e.getD (off+j) .dead) v->dk c w (ds.getD j .dead) v
 |[],off,K,h=>⟨[],h,rfl,λj hj=>by simp at hj⟩
 |t::ts,off,K,h=>by
  simp only[Jy]at h
  obtain⟨d,hd,h1⟩:=Zhc h
  obtain⟨ds,Eh,hl,h2⟩:=Zb6 hd
  refine⟨d::ds,Eh,by simp[hl],λj hj c w v hx=>?_⟩
  cases j with
  |zero=>simpa using h1 c w v (by simpa using hx)
  |succ j=>simpa using h2 j (by simpa using hj) c w v (by rw[show off+1+j=off+(j+1) by omega];exact hx)
theorem DG(h:AG P t=some ti):∃i,P.info? t=some i/\i.size=ti.size/\i.bytes=ti.bytes/\ti.sU.length=ti.size/\ti.kind=Hf P t/\
 ti.zero=(i.zero.bind λz=>Br z.cells.toList)/\ti.eq=(!(P.eqGuardType P.depth t)&&rL P 8 t)/\ti.sU=mi P 8 t/\∃d,P.underlying t=some d:=by
 unfold AG at h
 cases hi:P.info? t with
 |none=>simp[hi]at h
 |some i=>
  simp only[hi]at h
  split at h
  ·rename_i hl
   simp only[Option.some.injEq]at h
   subst h
   exact⟨i,rfl,rfl,rfl,hl.1,rfl,rfl,rfl,rfl,Option.isSome_iff_exists.1 hl.2⟩
  ·cases h
def P0:TypeDesc->Bool|.struct _=>true|.array _ _=>true|_=>false
theorem Ms(hd:P.underlying t=some d):(Hf P t).isAgg=P0 d:=by
 unfold Hf
 rw[hd]
 cases d<;>rfl
theorem ZE(hd:P.underlying t=some d)(w:World):(isAgg t).run P w=.ok (Hf P t).isAgg w:=by
 rw[Ms hd]
 unfold isAgg
 rw[Sem.run_bind,run_underlying hd w]
 cases d<;>rfl
def AH(arr:Array Value)(o n:Nat):List Value:=(List.range n).map λj=>(arr[o+j]?).getD undef
theorem Fl(b o j:Nat):(⟨b,o,none⟩:Addr).add j=⟨b,o+j,none⟩:=by
 unfold Addr.add;split<;>simp_all
theorem ZF(ht:AG P t=some ti){b o:Nat}{arr:Array Value}{ty:TypeId}{fz:Nat×Nat}(hb:w.heap[b]?=some (.cells arr ty fz))
 (Tq:∀j,j<ti.size->∃v,arr[o+j]?=some v) (h1:ti.kind.isAgg=true\/ti.size=1):
 (loadVar t ⟨b,o,none⟩).run P w=.ok (if ti.kind.isAgg then .agg (AH arr o ti.size).toArray else(arr[o]?).getD undef) w:=by
 obtain⟨i,hi,hs,_,_,hk,_,_,_,d,hd⟩:=DG ht
 have wR:∀j,w.cell? ⟨b,o+j,none⟩=arr[o+j]? :=λj=>by simp[World.cell?,hb]
 have hl:(loadCells ⟨b,o,none⟩ ti.size).run P w=.ok (AH arr o ti.size).toArray w:=
  run_loadCells w _ _ _ λj hj=>by
   rw[Fl,wR]
   obtain⟨v,hv⟩:=Tq j hj
   simp[hv]
 unfold loadVar
 rw[Sem.run_bind,ZE hd,Result.andThen_ok,<-hk]
 cases hg:ti.kind.isAgg with
 |true=>
  simp only[if_true,Sem.run_bind,sizeOf,typeInfo,run_program,Result.andThen_ok,hi,Sem.run_pure,hs,hl]
 |false=>
  have gd:ti.size=1:=by simpa[hg]using h1
  obtain⟨v,hv⟩:=Tq 0 (by omega)
  have Eo:arr[o]?=some v:=by simpa using hv
  have hc:w.cell? ⟨b,o,none⟩=some v:=by simpa[Eo]using wR 0
  simp[hc,Eo]
theorem Zh6{e:List D}(hl:ti.sU.length=ti.size)(h:uQ pl ti e off K):
 ∃ val,K val/\(ti.kind.isAgg=true\/ti.size=1)/\∀c w arr o,(∀j,j<ti.size->∃v,arr[o+j]?=some v/\kd pl c w (e.getD (off+j) .dead) v)->
  Rep c w val (if ti.kind.isAgg then .agg (AH arr o ti.size).toArray else(arr[o]?).getD undef):=by
 unfold uQ at h
 cases hg:ti.kind.isAgg with
 |true=>
  simp only[hg]at h
  obtain⟨ds,hK,hlen,hr⟩:=Zb6 h
  refine⟨_,hK,.inl rfl,λc w arr o hx=>?_⟩
  simp only[if_true]
  refine⟨_,rfl,Eg.2 ⟨by simp[AH,hlen,hl],λj v hv=>?_⟩⟩
  have hj:j<ti.size:=by
   have:=(List.getElem?_eq_some_iff.1 hv).1
   simpa[AH]using this
  obtain⟨u,hu,CP⟩:=hx j hj
  have:u=v:=by simpa[AH,hj,hu]using hv
  subst this
  exact hr j (by omega) c w u CP
 |false=>
  simp only[hg]at h
  match hc:ti.sU with
  |[y]=>
   simp only[hc]at h
   obtain⟨d,hK,hr⟩:=Zhc h
   have gd:ti.size=1:=by rw[<-hl,hc];rfl
   refine⟨d,hK,.inr gd,λc w arr o hx=>?_⟩
   obtain⟨u,hu,CP⟩:=hx 0 (by omega)
   have UP:arr[o]?=some u:=by simpa using hu
   simp only[aA,if_false,UP,Option.getD_some]
   have:=hr c w u (by simpa using CP)
   cases d<;>first|exact this|trivial|exact this.elim
  |[]=>simp only[hc]at h
  |_::_::_=>simp only[hc]at h
def mn(c:Ctx)(R:Rows):Prop:=∀r row ao,c.R r=some row->R.getD r none=some ao->row=ao
theorem Am(w:World)(o:Obj)(b:Nat)(h:b<w.heap.size):(w.alloc o).heap[b]?=w.heap[b]? :=by
 show(w.heap.push o)[b]?=w.heap[b]?
 rw[Array.getElem?_push,if_neg (Nat.ne_of_lt h)]
theorem UQ(w:World)(o:Obj):(w.alloc o).heap[w.heap.size]?=some o:=by
 show(w.heap.push o)[w.heap.size]?=some o
 simp
def Ctx.add(c:Ctx)(k:Nat)(row:Row)(b:Nat):Ctx:={c with R:=λr=>if r=k then some row else c.R r,ρ:=λr=>if r=k then b else c.ρ r,V:=λr=>r≠k/\c.V r}
theorem Ctx.jf(c:Ctx)(k:Nat)(row:Row)(b:Nat):(c.add k row b).R k=some row/\(c.add k row b).ρ k=b:=by simp[Ctx.add]
theorem jh.alloc{c:Ctx}(hm:Mem c w){k:Nat}(hk:c.R k=none)(row:Row)(o:Obj):jh c w (c.add k row w.heap.size) (w.alloc o):=by
 refine⟨rfl,aX _,λb hb=>⟨hb,Am w o b (hm.fq b hb).1⟩,λr x hr=>?_⟩
 have ia:r≠k:=λe=>by rw[e,hk]at hr;cases hr
 refine⟨x,by simp[Ctx.add,ia,hr],rfl,rfl,rfl,rfl,by simp[Ctx.add,ia],by simp[Ctx.add,ia],λnv arr ha=>⟨arr,?_,rfl⟩⟩
 rw[Am w o _ (hm.lt hr nv)];exact ha
theorem Fr.alloc(X:ab)(w:World)(o:Obj):Fr X w (w.alloc o):=
 ⟨rfl,rfl,rfl,by show w.heap.size<=(w.heap.push o).size;simp,λb hb _=>Am w o b hb⟩
theorem tE{c c':Ctx}(h:jh c w c' w')(P1:c'.ρ r=c.ρ r)(hV:c'.V r↔c.V r)(hh:¬c.V r->w'.heap[c.ρ r]?=w.heap[c.ρ r]?)(hr:Ey c w r row):Ey c' w' r row:=by
 rcases hr with⟨h0,hr⟩|⟨h0,hr⟩
 ·exact .inl ⟨hV.2 h0,hr⟩
 refine .inr ⟨λe=>h0 (hV.1 e),?_⟩
 obtain⟨arr,ha,hs,hx⟩:=hr
 refine⟨arr,by rw[P1,hh h0];exact ha,hs,?_⟩
 split
 ·rename_i hb
  simp only[hb,if_true]at hx
  obtain⟨e,h1,h2,h3,h4⟩:=hx
  exact⟨e,h1,h2,h3,Nq h h4⟩
 ·rename_i hb
  simp only[hb,if_false,aA]at hx
  exact nJ h.I _ _ _ _ hx
theorem Mem.alloc{c:Ctx}(hm:Mem c w){k:Nat}(hk:c.R k=none)(row:Row)(arr:Array Value)(hs:0<row.sz)
 (hx:if row.box then∃e,row.es=.gen [e]/\e.length=row.sz/\arr.size=row.sz/\kN c w e arr 0 else iA c.I w row.es.l arr 0 row.sz):
 Mem (c.add k row w.heap.size) (w.alloc (.cells arr row.ty)):=by
 have hg:=jh.alloc hm hk row (.cells arr row.ty)
 refine⟨λr x hr=>?_,λr s x y hr jb Jz Mt he=>?_,λb hb=>?_,bL hm.top (by show w.heap.size<=(w.heap.push _).size;simp),hm.j4.mono hg.I⟩
 ·by_cases e:r=k
  ·subst e
   simp only[Ctx.add,if_true,Option.some.injEq]at hr
   subst hr
   refine .inr ⟨by simp[Ctx.add],arr,by simp only[Ctx.add,if_true];exact UQ w _,hs,?_⟩
   split
   ·rename_i hb
    simp only[hb,if_true]at hx
    obtain⟨e,h1,h2,h3,h4⟩:=hx
    exact⟨e,h1,h2,h3,Nq hg h4⟩
   ·rename_i hb
    simp only[hb,if_false,aA]at hx
    exact nJ hg.I _ _ _ _ hx
  ·have pT:c.R r=some x:=by simpa[Ctx.add,e]using hr
   exact tE hg (by simp[Ctx.add,e]) (by simp[Ctx.add,e]) (λnv=>Am w _ _ (hm.lt pT nv)) (hm.row r x pT)
 ·by_cases e1:r=k<;>by_cases e2:s=k
  ·exact e1.trans e2.symm
  ·exfalso
   have h2:c.R s=some y:=by simpa[Ctx.add,e2]using jb
   have:=hm.lt h2 (by simpa[Ctx.add,e2]using Mt)
   simp[Ctx.add,e1,e2]at he
   omega
  ·exfalso
   have h1:c.R r=some x:=by simpa[Ctx.add,e1]using hr
   have:=hm.lt h1 (by simpa[Ctx.add,e1]using Jz)
   simp[Ctx.add,e1,e2]at he
   omega
  ·exact hm.inj r s x y (by simpa[Ctx.add,e1]using hr) (by simpa[Ctx.add,e2]using jb) (by simpa[Ctx.add,e1]using Jz) (by simpa[Ctx.add,e2]using Mt) (by simpa[Ctx.add,e1,e2]using he)
 ·have rU:c.I b:=hb
  obtain⟨h1,h2⟩:=hm.fq b rU
  refine⟨by show b<(w.heap.push _).size;simp;omega,λr x hr hv=>?_⟩
  by_cases e:r=k
  ·simp only[Ctx.add,e,if_true];omega
  ·simpa[Ctx.add,e]using h2 r x (by simpa[Ctx.add,e]using hr) (by simpa[Ctx.add,e]using hv)
theorem wP.get{c:Ctx}(h:wP c w r row){i off n:Nat}(hi:i<row.es.l.length)(hn:off+n<=row.sz):
 ∃arr,w.heap[c.ρ r]?=some (.cells arr row.ty (0,0))/\∀j,j<n->∃v,arr[i*row.sz+off+j]?=some v/\kd (!row.box) c w ((row.es.l.getD i []).getD (off+j) .dead) v:=by
 obtain⟨arr,ha,hs,hx⟩:=h
 refine⟨arr,ha,λj hj=>?_⟩
 cases hb:row.box with
 |true=>
  simp only[hb,if_true]at hx
  obtain⟨e,h1,h2,h3,h4⟩:=hx
  have pQ:i=0:=by rw[h1]at hi;simpa[ai.l]using hi
  subst pQ
  obtain⟨v,hv,hp⟩:=Zd4 h4 (j:=off+j) (by omega)
  exact⟨v,by simpa using hv,by simpa[kd,h1,ai.l]using hp⟩
 |false=>
  simp only[hb,if_false,aA]at hx
  obtain⟨h1,h2⟩:=UO hx hi
  obtain⟨v,hv,hp⟩:=UN h2 (j:=off+j) (by omega)
  exact⟨v,by simpa[fP]using hv,by simpa[kd]using hp⟩
theorem UR:∀{e:List D} {len off n:Nat},n<len->(ints e off len).getD n 0=(e.getD (off+n) .dead).toInt
 |e,len+1,off,0,_=>by simp[ints]
 |e,len+1,off,n+1,h=>by
  have:=UR (e:=e) (len:=len) (off:=off+1) (n:=n) (by omega)
  rw[show off+1+n=off+(n+1) by omega]at this
  simpa[ints]using this
theorem US:∀{e:List D} {len off n:Nat},n<len->(ag e off len).getD n false=(e.getD (off+n) .dead).toBool
 |e,len+1,off,0,_=>by simp[ag]
 |e,len+1,off,n+1,h=>by
  have:=US (e:=e) (len:=len) (off:=off+1) (n:=n) (by omega)
  rw[show off+1+n=off+(n+1) by omega]at this
  simpa[ag]using this
theorem UT{k:IntKind}:∀{e:List D} {len off n:Nat},CQ k e off len=true->n<len->(e.getD (off+n) .dead).isInt k=true
 |e,len+1,off,0,h,_=>by simp only[CQ,aE]at h;exact h.1
 |e,len+1,off,n+1,h,hn=>by
  simp only[CQ,aE]at h
  have:=UT h.2 (n:=n) (by omega)
  rwa [show off+1+n=off+(n+1) by omega]at this
theorem UU:∀{e:List D} {len off n:Nat},Hg e off len=true->n<len->(e.getD (off+n) .dead).isBool=true
 |e,len+1,off,0,h,_=>by simp only[Hg,aE]at h;exact h.1
 |e,len+1,off,n+1,h,hn=>by
  simp only[Hg,aE]at h
  have:=UU h.2 (n:=n) (by omega)
  rwa [show off+1+n=off+(n+1) by omega]at this
theorem D.kf{d:D}(h:d.isInt k=true):d=.int k d.toInt:=by
 cases d<;>simp[D.isInt]at h
 subst h;rfl
theorem D.kg{d:D}(h:d.isBool=true):d=.bool d.toBool:=by
 cases d<;>simp[D.isBool]at h
 rfl
theorem kd.int{c:Ctx}{n:Int}(h:kd pl c w (.int k n) v):v=.int k n:=by
 cases pl<;>simpa[kd,sr,ss,su,sw,sx,sA,tH,ud,ue,uf,ug,uh,ui,uj,uk,um,dk]using h
theorem kd.bool{c:Ctx}{b:Bool}(h:kd pl c w (.bool b) v):v=.bool b:=by
 cases pl<;>simpa[kd,sr,ss,su,sw,sx,sA,tH,ud,ue,uf,ug,uh,ui,uj,uk,um,dk]using h
theorem UW(ht:AG P t=some ti)(hk:(ti.kind.isAgg||match ti.kind with|.other=>true|_=>false)=false):ti.size=1:=by
 obtain⟨_,_,_,_,hl,nq,_,_,hc,_⟩:=DG ht
 rw[<-hl,hc]
 rw[nq]at hk
 unfold Hf at hk
 unfold mi
 split at hk<;>first|rfl|(simp[TK.isAgg]at hk)
theorem UX{a:Addr}:(Instr.loadAt t (.pointer (some a))).run P w=(loadVar t a).run P w:=by
 simp[Instr.loadAt,Instr.sureAddr]
theorem Zhd(hT:jm P T){x:D}{K:D->Rows->Prop}(h:wS T t x R K):
 ∃val,K val R/\∀c w v,Mem c w->mn c R->Rep c w x v->∃u,(Instr.loadAt t v).run P w=.ok u w/\Rep c w val u:=by
 unfold wS at h
 cases ht:T.get t with
 |none=>simp only[ht]at h
 |some ti=>
  simp only[ht]at h
  have Mu:=hT.get ht
  obtain⟨i0,pQ,BK,_,Kr,Ai,_⟩:=DG Mu
  cases x<;>simp only at h
  case ptr r i off=>
   cases hR:R.getD r none with
   |none=>simp only[hR]at h
   |some row=>
    obtain⟨box,ty,sz,es⟩:=row
    simp only[hR,dm]at h
    obtain⟨hle,h⟩:=h
    have hle:=lE hle
    obtain⟨val,hK,uw,hr⟩:=Zh6 Kr h
    refine⟨val,hK,λc w v hm hA hv=>?_⟩
    obtain⟨row,h1,hV,h2,h3⟩:=hv
    have dc:=hA r row _ h1 hR
    subst dc
    obtain⟨arr,ha,hx⟩:=(hm.real h1 hV).get h2 hle
    simp only[ai.nB es (show i<es.len by simpa using h2)]at hx
    subst h3
    refine⟨_,UX.trans (ZF Mu ha (λj hj=>by obtain⟨v,hv,_⟩:=hx j hj;exact⟨v,hv⟩) uw),hr c w arr _ hx⟩
  case pa r i off len k n=>
   cases hR:R.getD r none with
   |none=>simp only[hR]at h
   |some row=>
    obtain⟨box,ty,sz,es⟩:=row
    simp only[hR,dm]at h
    obtain⟨hle,h⟩:=h
    have hle:=lE hle
    have one:(ti.kind.isAgg=false)->ti.size=1->∀c w v,Mem c w->mn c R->Rep c w (.pa r i off len k n) v->∃u,(Instr.loadAt t v).run P w=.ok u w/\kd (!box) c w ((es.get i).getD (off+n) .dead) u/\n<len:=by
     intro CR gd c w v hm hA hv
     obtain⟨hn,row,h1,hV,h2,h3⟩:=hv
     have dc:=hA r row _ h1 hR
     subst dc
     obtain⟨arr,ha,hx⟩:=(hm.real h1 hV).get h2 hle
     simp only[ai.nB es (show i<es.len by simpa using h2)]at hx
     subst h3
     obtain⟨u,hu,CP⟩:=hx n hn
     have UP:arr[i*sz+(off+n)]?=some u:=by rw[<-fP];exact hu
     refine⟨u,?_,CP,hn⟩
     rw[UX,ZF Mu ha (λj hj=>⟨u,by rw[show j=0 by omega];exact UP⟩) (.inr gd),CR]
     simp[UP]
    split at h
    ·rename_i j k' hk
     simp only[aE,decide_eq_true_eq]at h
     obtain⟨⟨rfl,iY⟩,h⟩:=h
     have gd:ti.size=1:=UW Mu (by rw[hk];simp[TK.isAgg])
     refine⟨_,h,λc w v hm hA hv=>?_⟩
     obtain⟨u,hu,CP,hn⟩:=one (by rw[hk];rfl) gd c w v hm hA hv
     rw[D.kf (UT iY hn)]at CP
     have:=kd.int CP
     subst this
     exact⟨_,hu,by simp only[Rep,VRep,dk];rw[UR hn]⟩
    ·rename_i hk
     obtain⟨iY,h⟩:=h
     have gd:ti.size=1:=UW Mu (by rw[hk];simp[TK.isAgg])
     refine⟨_,h,λc w v hm hA hv=>?_⟩
     obtain⟨u,hu,CP,hn⟩:=one (by rw[hk];rfl) gd c w v hm hA hv
     rw[D.kg (UU iY hn)]at CP
     have:=kd.bool CP
     subst this
     exact⟨_,hu,by simp only[Rep,VRep,dk];rw[US hn]⟩
    ·exact h.elim
  case iC sz es i off=>
   simp only[dm]at h
   obtain⟨hle,h⟩:=h
   have hle:=lE hle
   obtain⟨val,hK,uw,hr⟩:=Zh6 Kr h
   refine⟨val,hK,λc w v hm hA hv=>?_⟩
   obtain⟨b,o,arr,ty,fz,h3,hI,hi,ha,hE⟩:=hv
   subst h3
   obtain⟨h1,h2⟩:=UO hE hi
   rw[ai.nB es (show i<es.len by simpa using hi)]at h1 h2
   have hx:∀j,j<ti.size->∃v,arr[o+i*sz+off+j]?=some v/\kd true c w ((es.get i).getD (off+j) .dead) v:=λj hj=>by
    obtain⟨v,hv,hp⟩:=UN h2 (j:=off+j) (by omega)
    exact⟨v,by rw[<-hv];congr 1;omega,hp⟩
   exact⟨_,UX.trans (ZF Mu ha (λj hj=>by obtain⟨v,hv,_⟩:=hx j hj;exact⟨v,hv⟩) uw),hr c w arr _ hx⟩
def Ctx.fq(c:Ctx)(b:Nat):Ctx:={c with I:=λx=>c.I x\/x=b,top:=max c.top (b+1)}
theorem UY{c:Ctx}(hm:Mem c w)(o:Obj):jh c w (c.fq w.heap.size) (w.alloc o):=
 ⟨rfl,Nat.le_max_left _ _,λb hb=>⟨.inl hb,Am w o b (hm.fq b hb).1⟩,λr x hr=>⟨x,hr,rfl,rfl,rfl,rfl,rfl,Iff.rfl,λnv arr ha=>⟨arr,by rw[Am w o _ (hm.lt hr nv)];exact ha,rfl⟩⟩⟩
theorem xaq{c:Ctx}(hm:Mem c w)(o:Obj):Mem (c.fq w.heap.size) (w.alloc o):=by
 refine⟨λr x hr=>tE (UY hm o) rfl Iff.rfl (λnv=>Am w _ _ (hm.lt hr nv)) (hm.row r x hr),hm.inj,λb hb=>?_,?_,hm.j4.mono (UY hm o).I⟩
 all_goals have gd:(w.alloc o).heap.size=w.heap.size+1:=by show(w.heap.push o).size=_;simp
 rotate_left
 ·have:=hm.top;rw[gd];exact Nat.max_le.2 ⟨by omega,aX _⟩
 rcases hb with hb|hb
 ·exact⟨by have:=(hm.fq b hb).1;omega,(hm.fq b hb).2⟩
 ·subst hb
  exact⟨by omega,λr x hr v=>by have:=hm.lt hr v;show c.ρ r≠w.heap.size;omega⟩

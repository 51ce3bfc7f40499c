import Derived.Test.YtaemmjbkndlkeaaGreatMigrateStartsVc
open Nat renaming le_refl->aX,le_trans->bL,beq->bX,lt_of_succ_lt_succ->fR,add_assoc->fS
open List renaming map_cons->fJ,length_cons->dD
open Bool renaming false_eq_true->aA
set_option linter.all false
namespace Go.GD
open Go
variable {Fk S:Nat->Prop}{I I' X:ab}{K:D->Prop}{P:Program}{R:Rows}{T:iy}{cs:List iE}{d:TypeDesc}{k:IntKind}{off r:Nat}{pl:Bool}{row:Row}{t:TypeId}{ti:TI}{us:List Value}{v:Value}{w w' Hj:World}
mutual
theorem Zu8{I I':ab}{w w':World}(h:∀b arr ty fz,I b->w.heap[b]?=some (.cells arr ty fz)->I' b/\w'.heap[b]?=some (.cells arr ty fz)):∀(d:D) (v:Value),ga I w d v->ga I' w' d v
 |_,_,.bool b=>.bool b
 |_,_,.int k n=>.int k n
 |_,_,.str s=>.str s
 |_,_,.iz=>.iz
 |_,_,.c8=>.c8
 |_,_,.emp a=>.emp a
 |_,_,.UX sz es fr a cap h0=>.UX sz es fr a cap h0
 |_,_,.UY sz es fr cap hc b off arr ty fz hI hh hE=>.UY sz es fr cap hc b off arr ty fz (h b arr ty fz hI hh).1 (h b arr ty fz hI hh).2 (MA h es.l arr off sz hE)
theorem ZR{I I':ab}{w w':World}(h:∀b arr ty fz,I b->w.heap[b]?=some (.cells arr ty fz)->I' b/\w'.heap[b]?=some (.cells arr ty fz)):∀(cs:List D) (arr:Array Value) (off:Nat),oK I w cs arr off->oK I' w' cs arr off
 |_,_,_,.nil arr off=>.nil arr off
 |_,_,_,.cons c cs arr off v hv hp hr=>.cons c cs arr off v hv (Zu8 h c v hp) (ZR h cs arr (off+1) hr)
theorem MA{I I':ab}{w w':World}(h:∀b arr ty fz,I b->w.heap[b]?=some (.cells arr ty fz)->I' b/\w'.heap[b]?=some (.cells arr ty fz)):∀(es:List (List D)) (arr:Array Value) (off sz:Nat),iq I w es arr off sz->iq I' w' es arr off sz
 |_,_,_,_,.nil arr off sz=>.nil arr off sz
 |_,_,_,_,.cons e es arr off sz hl hc hr=>.cons e es arr off sz hl (ZR h e arr off hc) (MA h es arr (off+sz) sz hr)
end
theorem wI(h:∀b,I b->I' b/\w'.heap[b]?=w.heap[b]?)(b:Nat)(arr:Array Value)(ty:TypeId)(fz:Nat×Nat)(hI:I b)(hh:w.heap[b]?=some (.cells arr ty fz)):I' b/\w'.heap[b]?=some (.cells arr ty fz):=⟨(h b hI).1,(h b hI).2.trans hh⟩
theorem Zny(h:∀b,I b->I' b/\w'.heap[b]?=w.heap[b]?)(cs:List D)(arr:Array Value)(off:Nat)(hp:oK I w cs arr off):oK I' w' cs arr off:=ZR (wI h) cs arr off hp
theorem nB(h:∀b,I b->I' b/\w'.heap[b]?=w.heap[b]?)(es:List (List D))(arr:Array Value)(off sz:Nat)(hp:iq I w es arr off sz):iq I' w' es arr off sz:=MA (wI h) es arr off sz hp
structure Q4(c:Ctx)(w:World)(c':Ctx)(w':World):Prop where
 base:c'.base=c.base
 top:c.top<=c'.top
 I:∀b,c.I b->c'.I b/\w'.heap[b]?=w.heap[b]?
 R :∀r row,c.R r=some row->∃ao,c'.R r=some ao/\ao.box=row.box/\ao.ty=row.ty/\ao.sz=row.sz/\ao.es.l.length=row.es.l.length/\c'.ρ r=c.ρ r/\(c'.V r↔c.V r)/\
  (¬c.V r->∀arr,w.heap[c.ρ r]?=some (.cells arr row.ty (0,0))->∃iK,w'.heap[c.ρ r]?=some (.cells iK row.ty (0,0))/\iK.size=arr.size)
structure JH(c:Ctx)(w:World)(c':Ctx)(w':World):Prop where
 base:c'.base=c.base
 top:c.top<=c'.top
 I:∀b arr ty fz,c.I b->w.heap[b]?=some (.cells arr ty fz)->c'.I b/\w'.heap[b]?=some (.cells arr ty fz)
 R :∀r row,c.R r=some row->∃ao,c'.R r=some ao/\ao.box=row.box/\ao.ty=row.ty/\ao.sz=row.sz/\ao.es.l.length=row.es.l.length/\c'.ρ r=c.ρ r/\(c'.V r↔c.V r)/\
  (¬c.V r->∀arr,w.heap[c.ρ r]?=some (.cells arr row.ty (0,0))->∃iK,w'.heap[c.ρ r]?=some (.cells iK row.ty (0,0))/\iK.size=arr.size)
theorem Q4.to0{c c':Ctx}(h:Q4 c w c' w'):JH c w c' w':=⟨h.base,h.top,wI h.I,h.R⟩
theorem MB{c c':Ctx}(h:∀b,c.I b->c'.I b/\w'.heap[b]?=w.heap[b]?){f:Nat}(hf:rS c w f us v):rS c' w' f us v:=by
 rcases hf with hf|⟨h1,l,rec,h2,h3,h4,h5⟩
 ·exact .inl hf
 ·exact .inr ⟨h1,l,rec,h2,(h l h3).1,(h l h3).2.trans h4,h5⟩
theorem Q4.refl(c:Ctx)(w:World):Q4 c w c w:=
 ⟨rfl,aX _,λ_ h=>⟨h,rfl⟩,λ_ row h=>⟨row,h,rfl,rfl,rfl,rfl,rfl,Iff.rfl,λ_ arr h=>⟨arr,h,rfl⟩⟩⟩
theorem Q4.trans{c c' Tg:Ctx}(h:Q4 c w c' w')(g:Q4 c' w' Tg Hj):Q4 c w Tg Hj:=by
 refine⟨g.base.trans h.base,bL h.top g.top,λb hb=>⟨(g.I b (h.I b hb).1).1,(g.I b (h.I b hb).1).2.trans (h.I b hb).2⟩,λr row hr=>?_⟩
 obtain⟨ao,h1,h2,h3,h4,h5,h6,hV,h7⟩:=h.R r row hr
 obtain⟨sL,g1,g2,g3,g4,g5,g6,gV,g7⟩:=g.R r ao h1
 refine⟨sL,g1,g2.trans h2,g3.trans h3,g4.trans h4,g5.trans h5,g6.trans h6,gV.trans hV,λnv arr ha=>?_⟩
 obtain⟨iK,jC,hs⟩:=h7 nv arr ha
 obtain⟨QN,QO,iT⟩:=g7 (λe=>nv (hV.1 e)) iK (by rw[h6,h3];exact jC)
 exact⟨QN,by rw[h6,h3]at QO;exact QO,iT.trans hs⟩
theorem ZS{c c':Ctx}(h:JH c w c' w'):∀{d:D} {v:Value},(∀f cs,d≠.gm f cs)->dc c w d v->dc c' w' d v:=by
 intro d v gv hd
 cases d with
 |sl sz es fr=>
  simp only[dc]at hd⊢
  obtain⟨a,cap,hv,hc,gu⟩:=hd
  refine⟨a,cap,hv,hc,?_⟩
  rcases gu with gu|⟨b,off,arr,ty,fz,ha,hI,hf,hh,hE⟩
  ·exact .inl gu
  ·exact .inr ⟨b,off,arr,ty,fz,ha,(h.I b arr ty fz hI hh).1,λe=>by rw[h.base];exact hf e,(h.I b arr ty fz hI hh).2,MA h.I _ arr off sz hE⟩
 |all r=>
  simp only[dc]at hd⊢
  obtain⟨row,hr,hb,hd⟩:=hd
  obtain⟨ao,g1,g2,g3,g4,g5,g6,gV,g7⟩:=h.R r row hr
  refine⟨ao,g1,g2.trans hb,?_⟩
  rcases hd with⟨hV,hv⟩|⟨hV,cap,arr,hv,h1,h2,h3,h4⟩
  ·obtain⟨a,hv,ho⟩:=hv
   exact .inl ⟨gV.2 hV,a,hv,ho.mono h.top⟩
  ·obtain⟨iK,jC,hs⟩:=g7 hV arr h3
   exact .inr ⟨λe=>hV (gV.1 e),cap,iK,by rw[hv,g5,g6],by rw[g5];exact h1,h2,by rw[g6,g3];exact jC,by rw[g4,hs];exact h4⟩
 |emp=>
  obtain⟨a,hv,ho⟩:=hd
  exact⟨a,hv,ho.mono h.top⟩
 |own r o n=>
  simp only[dc]at hd⊢
  obtain⟨row,hr,hb,ho,hd⟩:=hd
  obtain⟨ao,g1,g2,g3,g4,g5,g6,gV,g7⟩:=h.R r row hr
  refine⟨ao,g1,g2.trans hb,by rw[g5];exact ho,?_⟩
  rcases hd with⟨h0,a,hv,jo⟩|⟨hV,cap,arr,h1,h2,h3,h4,h5⟩
  ·exact .inl ⟨h0,a,hv,jo.mono h.top gV g6⟩
  ·obtain⟨iK,jC,hs⟩:=g7 hV arr h3
   exact .inr ⟨λe=>hV (gV.1 e),cap,iK,h1,h2,by rw[g6,g3];exact jC,by rw[g4,g6];exact h4,by rw[g4,hs];exact h5⟩
 |ptr r i off=>
  simp only[dc]at hd⊢
  obtain⟨row,hr,hV,hi,hv⟩:=hd
  obtain⟨ao,g1,g2,g3,g4,g5,g6,gV,g7⟩:=h.R r row hr
  exact⟨ao,g1,λe=>hV (gV.1 e),by rw[g5];exact hi,by rw[hv,g6,g4]⟩
 |pa r i off len k n=>
  simp only[dc]at hd⊢
  obtain⟨hn,row,hr,hV,hi,hv⟩:=hd
  obtain⟨ao,g1,g2,g3,g4,g5,g6,gV,g7⟩:=h.R r row hr
  exact⟨hn,ao,g1,λe=>hV (gV.1 e),by rw[g5];exact hi,by rw[hv,g6,g4]⟩
 |iu sz es i off=>
  simp only[dc]at hd⊢
  obtain⟨b,o,arr,ty,fz,hv,hI,hi,hh,hE⟩:=hd
  exact⟨b,o,arr,ty,fz,hv,(h.I b arr ty fz hI hh).1,hi,(h.I b arr ty fz hI hh).2,MA h.I _ arr o sz hE⟩
 |gq r=>
  rcases hd with hd|⟨row,hr,hV,hi,hv⟩
  ·exact .inl hd
  ·obtain⟨ao,g1,g2,g3,g4,g5,g6,gV,g7⟩:=h.R r row hr
   exact .inr ⟨ao,g1,λe=>hV (gV.1 e),by rw[g5];exact hi,by rw[hv,g6,g4]⟩
 |gm f cs=>exact absurd rfl (gv f cs)
 |_=>exact hd
theorem Ze0{c c':Ctx}(h:Q4 c w c' w'){d:D}(gv:∀f cs,d≠.gm f cs)(hd:dc c w d v):dc c' w' d v:=ZS h.to0 gv hd
theorem ZT{c c':Ctx}{w w':World}{S:Nat->Prop}{f:Nat->Nat}{du:Bool}{Fk:Nat->Prop}(g:∀d v,(∀f cs,d≠.gm f cs)->(∀r∈nL d,S r)->dc c w d v->dc c' w' (d.my f du) v)(gF:∀k ws v,Fk k->rS c w k ws v->rS c' w' k ws v):
 ∀{cs:List iE} {us:List Value},(∀k ps,iE.fn k ps∈cs->Fk k)->(∀r∈rp cs,S r)->oH c w cs us->oH c' w' (cs.map (iE.jg f du)) us
 |[],[],_,_,_=>trivial
 |x ::cs,u::us,hF,hS,⟨h1,h2⟩=>by
  refine⟨?_,ZT g gF (λk ps hm=>hF k ps (by simp[hm])) (λr hr=>hS r (by simp[rp,hr])) h2⟩
  have UZ:∀r∈CK x,S r:=λr hr=>hS r (by simp[rp,hr])
  cases x with
  |fn k ps=>
   obtain⟨ws,hv,hw⟩:=h1
   refine⟨ws,gF k ws u (hF k ps (by simp)) hv,?_⟩
   have hS2:∀p∈ps,S p.1:=λp hp=>UZ _ (by simp only[CK,List.mem_map];exact⟨p,hp,rfl⟩)
   clear hv UZ hS h2 hF
   induction ps generalizing ws with
   |nil=>cases ws<;>exact hw
   |cons p ps ih=>
    cases ws with
    |nil=>exact hw.elim
    |cons v ws=>exact⟨g (.ptr p.1 p.2.1 p.2.2) v (λ_ _ e=>by cases e) (λr hr=>by simp[nL]at hr;subst hr;exact hS2 p (by simp)) hw.1,ih ws hw.2 (λq hq=>hS2 q (by simp[hq]))⟩
  |ptr r i off=>exact g (.ptr r i off) u (λ_ _ e=>by cases e) UZ h1
  |int k n=>exact h1
  |arr r=>exact g (.all r) u (λ_ _ e=>by cases e) UZ h1
  |sl a b fr=>exact g (.sl a b fr) u (λ_ _ e=>by cases e) (λr hr=>by simp[nL]at hr) h1
 |[],_::_,_,_,h=>h.elim
 |_::_,[],_,_,h=>h.elim
theorem zv{d:D}(h:∀f cs,d≠.gm f cs):d.my (λr=>r) true=d:=by cases d<;>first|(simp[D.my];done)|exact absurd rfl (h _ _)
theorem ZU:∀{cs:List iE},cs.map (iE.jg (λr=>r) true)=cs
 |[]=>rfl
 |x::l=>by
  simp only[fJ,ZU (cs:=l)]
  congr 1
  cases x<;>simp[iE.jg]
theorem Zcr{c c':Ctx}(g:∀d v,(∀f cs,d≠.gm f cs)->(∀r∈nL d,S r)->dc c w d v->dc c' w' d v)(gF:∀k ws v,Fk k->rS c w k ws v->rS c' w' k ws v)(hF:∀k ps,iE.fn k ps∈cs->Fk k)(hS:∀r∈rp cs,S r)(h:oH c w cs us):oH c' w' cs us:=by
 have:=ZT (f:=λr=>r) (du:=true) (λd v h1 h2 h3=>by rw[zv h1];exact g d v h1 h2 h3) gF hF hS h
 rwa [ZU]at this
theorem Zx{c c':Ctx}(g:∀d v,(∀f cs,d≠.gm f cs)->(∀r∈nL d,S r)->dc c w d v->dc c' w' d v)(gF:∀b,c.I b->c'.I b/\w'.heap[b]?=w.heap[b]?)(hS:∀r∈rp cs,S r)(h:oH c w cs us):oH c' w' cs us:=
 Zcr (Fk:=λ_=>True) g (λ_ _ _ _=>MB gF) (λ_ _ _=>trivial) hS h
theorem S9{c c':Ctx}(h:Q4 c w c' w'){d:D}(hd:dc c w d v):dc c' w' d v:=by
 by_cases e:∃f cs,d=.gm f cs
 ·obtain⟨f,cs,rfl⟩:=e
  obtain⟨us,hv,hu⟩:=hd
  exact⟨us,MB h.I hv,Zx (S:=λ_=>True) (λd v h1 _ h2=>Ze0 h h1 h2) h.I (λ_ _=>trivial) hu⟩
 ·exact Ze0 h (λf cs e'=>e ⟨f,cs,e'⟩) hd
theorem NC{l:List Nat}(h:pY l=true){k:Nat}(hk:k∈l):k<YB:=lE (List.all_eq_true.1 h k hk)
theorem Zqc:∀{cs:List iE} {k:Nat} {ps:List (Nat×Nat×Nat)},iE.fn k ps∈cs->k∈Az cs
 |x ::l,k,ps,hm=>by
  rcases List.mem_cons.1 hm with e|e
  ·subst e;simp[Az]
  ·have:=Zqc e
   cases x<;>simp[Az,this]
 |[],_,_,hm=>by simp at hm
section
variable {c c':Ctx} {w w':World} (h:JH c w c' w') {Fk:Nat->Prop} (gF:∀k ws v,Fk k->rS c w k ws v->rS c' w' k ws v)
include h gF
theorem ZV{d:D}(hn:∀k∈AA d,Fk k)(hd:dc c w d v):dc c' w' d v:=by
 by_cases e:∃f cs,d=.gm f cs
 ·obtain⟨f,cs,rfl⟩:=e
  obtain⟨us,hv,hu⟩:=hd
  exact⟨us,gF _ _ _ (hn f (by simp[AA])) hv,Zcr (S:=λ_=>True) (Fk:=Fk) (λd v h1 _ h2=>ZS h h1 h2) gF (λk ps hm=>hn k (by simp[AA,Zqc hm])) (λ_ _=>trivial) hu⟩
 ·exact ZS h (λf cs e'=>e ⟨f,cs,e'⟩) hd
theorem Zd8:∀{ds:List D} {vs:List Value},(∀k∈ry ds,Fk k)->jm c w ds vs->jm c' w' ds vs
 |[],[],_,_=>trivial
 |_::_,_::_,hn,⟨h1,h2⟩=>⟨ZV h gF (λk hk=>hn k (by simp[ry,hk])) h1,Zd8 (λk hk=>hn k (by simp[ry,hk])) h2⟩
 |[],_::_,_,h=>h.elim
 |_::_,[],_,h=>h.elim
theorem Zn4{d:D}(hn:∀k∈Fq d,Fk k)(hd:VRep c w d v):VRep c' w' d v:=by
 cases d with
 |agg cs=>obtain⟨vs,hv,hr⟩:=hd;exact⟨vs,hv,Zd8 h gF hn hr⟩
 |_=>simp only[VRep]at hd⊢;exact ZV h gF hn hd
theorem ZW:∀{ds:List D} {vs:List Value},(∀k∈ow ds,Fk k)->kj c w ds vs->kj c' w' ds vs
 |[],[],_,_=>trivial
 |_::_,_::_,hn,⟨h1,h2⟩=>⟨Zn4 h gF (λk hk=>hn k (by simp[ow,hk])) h1,ZW (λk hk=>hn k (by simp[ow,hk])) h2⟩
 |[],_::_,_,h=>h.elim
 |_::_,[],_,h=>h.elim
theorem Zs{d:D}(hn:∀k∈CL d,Fk k)(hd:Rep c w d v):Rep c' w' d v:=by
 cases d with
 |dw ds=>obtain⟨vs,hv,hr⟩:=hd;exact⟨vs,hv,ZW h gF hn hr⟩
 |dead=>trivial
 |_=>simp only[Rep]at hd⊢;exact Zn4 h gF hn hd
theorem Z6s:∀{ds:List D} {arr:Array Value} {off:Nat},(∀k∈ry ds,Fk k)->kG c w ds arr off->kG c' w' ds arr off
 |[],_,_,_,_=>trivial
 |_::_,_,_,hn,⟨⟨v,hv,h1⟩,h2⟩=>⟨⟨v,hv,ZV h gF (λk hk=>hn k (by simp[ry,hk])) h1⟩,Z6s (λk hk=>hn k (by simp[ry,hk])) h2⟩
end
theorem Zdf{c c':Ctx}{w w':World}(h:Q4 c w c' w'):∀{ds:List D} {vs:List Value},jm c w ds vs->jm c' w' ds vs
 |[],[],_=>trivial
 |_::_,_::_,⟨h1,h2⟩=>⟨S9 h h1,Zdf h h2⟩
theorem Ziw{c c':Ctx}(h:Q4 c w c' w'):∀{d:D} {v:Value},VRep c w d v->VRep c' w' d v:=by
 intro d v hd
 cases d with
 |agg cs=>obtain⟨vs,hv,hr⟩:=hd;exact⟨vs,hv,Zdf h hr⟩
 |_=>simp only[VRep]at hd⊢;exact S9 h hd
theorem W3{c c':Ctx}{w w':World}(h:Q4 c w c' w'):∀{ds:List D} {vs:List Value},kj c w ds vs->kj c' w' ds vs
 |[],[],_=>trivial
 |_::_,_::_,⟨h1,h2⟩=>⟨Ziw h h1,W3 h h2⟩
theorem w7{c c':Ctx}(h:Q4 c w c' w'):∀{d:D} {v:Value},Rep c w d v->Rep c' w' d v:=by
 intro d v hd
 cases d with
 |dw ds=>obtain⟨vs,hv,hr⟩:=hd;exact⟨vs,hv,W3 h hr⟩
 |dead=>trivial
 |_=>simp only[Rep]at hd⊢;exact Ziw h hd
theorem Ny{c c':Ctx}{w w':World}(h:Q4 c w c' w'):∀{ds:List D} {arr:Array Value} {off:Nat},kG c w ds arr off->kG c' w' ds arr off
 |[],_,_,_=>trivial
 |_::_,_,_,⟨⟨v,hv,h1⟩,h2⟩=>⟨⟨v,hv,S9 h h1⟩,Ny h h2⟩
def Al(I:ab)(w:World):Prop:=∀x∈GA,I x.1/\∃ty fz,w.heap[x.1]?=some (.cells (x.2.2.map λz=>Value.int x.2.1 z).toArray ty fz)
theorem Al.Hk(h:Al I w)(g:∀b arr ty fz,I b->w.heap[b]?=some (.cells arr ty fz)->I' b/\w'.heap[b]?=some (.cells arr ty fz)):Al I' w':=λx hx=>by
 obtain⟨h1,ty,fz,h2⟩:=h x hx
 exact⟨(g _ _ _ _ h1 h2).1,ty,fz,(g _ _ _ _ h1 h2).2⟩
theorem Al.mono(h:Al I w)(g:∀b,I b->I' b/\w'.heap[b]?=w.heap[b]?):Al I' w':=h.Hk (wI g)
structure Mem(c:Ctx)(w:World):Prop where
 row:∀r row,c.R r=some row->Et c w r row
 inj:∀r s x y,c.R r=some x->c.R s=some y->¬c.V r->¬c.V s->c.ρ r=c.ρ s->r=s
 fh:∀b,c.I b->b<w.heap.size/\∀r x,c.R r=some x->¬c.V r->c.ρ r≠b
 top:c.top<=w.heap.size
 jY:Al c.I w
theorem ZX{c:Ctx}(hm:Mem c w)(h:JH c w {c with I:=I} w')(hh:∀r x,c.R r=some x->¬c.V r->w'.heap[c.ρ r]?=w.heap[c.ρ r]?)(gF:∀k ws v,Fk k->rS c w k ws v->rS {c with I:=I} w' k ws v)
 (hn:∀r x,c.R r=some x->∀k∈kE [x],Fk k) (hI:∀b,I b->b<w'.heap.size/\∀r x,c.R r=some x->¬c.V r->c.ρ r≠b) (hs:w.heap.size<=w'.heap.size):Mem {c with I:=I} w':=by
 refine⟨λr row hr=>?_,hm.inj,λb hb=>hI b hb,bL hm.top hs,hm.jY.Hk h.I⟩
 rcases hm.row r row hr with g|⟨g0,arr,g1,g2,g3⟩
 ·exact .inl g
 ·refine .inr ⟨g0,arr,(hh r row hr g0).trans g1,g2,?_⟩
  split at g3
  ·rename_i hb
   rw[if_pos hb]
   obtain⟨e,k1,k2,k3,k4⟩:=g3
   refine⟨e,k1,k2,k3,Z6s h gF (λk hk=>hn r row hr k ?_) k4⟩
   obtain⟨bx,ty,sz,es⟩:=row
   simp only at hb k1
   subst hb;subst k1
   simpa[kE]using hk
  ·rename_i hb
   rw[if_neg hb]
   exact MA h.I _ _ _ _ g3
theorem Mem.real{c:Ctx}(h:Mem c w)(hr:c.R r=some row)(hV:¬c.V r):wJ c w r row:=by
 rcases h.row r row hr with h1|h1
 ·exact(hV h1.1).elim
 ·exact h1.2
theorem Mem.nz{c:Ctx}(h:Mem c w)(hr:c.R r=some row)(hV:c.V r):row.box=false/\row.es.l=[]/\0<row.sz:=by
 rcases h.row r row hr with h1|h1
 ·exact h1.2
 ·exact(h1.1 hV).elim
theorem Mem.lt{c:Ctx}(h:Mem c w)(hr:c.R r=some row)(hV:¬c.V r):c.ρ r<w.heap.size:=by
 obtain⟨arr,ha,_⟩:=h.real hr hV
 by_cases bd:c.ρ r<w.heap.size
 ·exact bd
 ·rw[Array.getElem?_eq_none (by omega)]at ha;cases ha
structure Fr(X:ab)(w w':World):Prop where
 os:w'.os=w.os
 tape:w'.tape=w.tape
 output:w'.output=w.output
 size:w.heap.size<=w'.heap.size
 heap:∀b,b<w.heap.size->¬X b->w'.heap[b]?=w.heap[b]?
theorem Fr.refl(X:ab)(w:World):Fr X w w:=⟨rfl,rfl,rfl,aX _,λ_ _ _=>rfl⟩
theorem Fr.trans(h:Fr X w w')(g:Fr X w' Hj):Fr X w Hj:=
 ⟨g.os.trans h.os,g.tape.trans h.tape,g.output.trans h.output,bL h.size g.size,λb hb hx=>(g.heap b (Nat.lt_of_lt_of_le hb h.size) hx).trans (h.heap b hb hx)⟩
theorem Fr.mono{X Y:ab}(h:Fr X w w')(hxy:∀b,b<w.heap.size->X b->Y b):Fr Y w w':=
 ⟨h.os,h.tape,h.output,h.size,λb hb hy=>h.heap b hb λhx=>hy (hxy b hb hx)⟩
def mb(P:Program):Nat->TypeId->List sk
 |0,_=>[]
 |n+1,t=>match P.underlying t with
  |some (.int k)=>[.int k]
  |some .bool=>[.bool]
  |some .string=>[.str]
  |some (.slice e)=>[.sl (P.cellsOf e)]
  |some (.struct fs)=>fs.toList.flatMap λf=>mb P n f.type
  |some (.array m e)=>(List.replicate m (mb P n e)).flatten
  |_=>[.other]
def Hl(P:Program)(t:TypeId):TK:=
 match P.underlying t with
 |some (.int k)=>.int k
 |some .bool=>.bool
 |some .string=>.string
 |some (.slice e)=>.slice e (P.cellsOf e)
 |some (.struct fs)=>.struct (fs.toList.map λf=>(f.offset,f.type,P.cellsOf f.type))
 |some (.array n e)=>.array n e (P.cellsOf e)
 |_=>.other
def U0(P:Program)(g:TypeId->Bool)(l:TypeId->Nat):List Field->Nat->Bool
 |[],_=>true
 |f::fs,o=>f.name != "_" &&bX f.offset o&&bX (P.cellsOf f.type) (l f.type)&&Nat.blt 0 (l f.type)&&g f.type&&U0 P g l fs (o+l f.type)
def rz(P:Program):Nat->TypeId->Bool
 |0,_=>false
 |n+1,t=>match P.underlying t with
  |some (.int _)=>true
  |some .bool=>true
  |some .string=>true
  |some (.struct fs)=>!P.stoodInHeld t&&U0 P (rz P n) (λu=>(mb P n u).length) fs.toList 0
  |some (.array _ e)=>bX (P.cellsOf e) (mb P n e).length&&Nat.blt 0 (P.cellsOf e)&&rz P n e
  |_=>false
def AB(P:Program)(t:TypeId):Option TI:=
 match P.info? t with
 |some i=>if(mb P 8 t).length=i.size/\(P.underlying t).isSome=true then
  some ⟨Hl P t,i.size,i.bytes,mb P 8 t,i.zero.bind λz=>Bn z.cells.toList,!(P.eqGuardType P.depth t)&&rz P 8 t⟩else none
 |none=>none
def ji(P:Program)(T:iy):Prop:=T.map (λx=>AB P x.1)=T.map (λx=>some x.2)
theorem ji.get(h:ji P T){i:TI}(hi:T.get t=some i):AB P t=some i:=by
 induction T with
 |nil=>simp[iy.get]at hi
 |cons x l ih=>
  obtain⟨u,j⟩:=x
  simp only[ji,fJ,List.cons.injEq]at h
  simp only[iy.get]at hi
  cases hb:bX u t with
  |true=>
   simp only[hb,Option.some.injEq]at hi
   have:=bE hb
   subst this;subst hi
   exact h.1
  |false=>simp only[hb]at hi;exact ih h.2 hi
theorem nk{K:Rows->Prop}:∀{R:Rows},tP R K↔K R
 |[]=>Iff.rfl
 |d::l=>by unfold tP;exact nk (R:=l) (K:=λl=>K (d::l))
theorem D.c7{d:D}:d.force K↔K d:=by cases d<;>rfl
theorem D.fc:∀{l:List D} {K:List D->Prop},D.j5 l K↔K l
 |[],_=>Iff.rfl
 |d::l,K=>by unfold D.j5;rw[D.c7];exact D.fc (l:=l) (K:=λl=>K (d::l))
theorem Zk1{row:Row}:∀{R:Rows} {n:Nat} {K:Nat->Rows->Prop},wK row R n K↔K (n+R.length) (R++[some row])
 |[],_,_=>Iff.rfl
 |x::l,n,K=>by
  unfold wK
  rw[Zk1 (R:=l) (K:=λk l=>K k (x::l))]
  simp only[dD,List.cons_append]
  rw[show n+1+l.length=n+(l.length+1) by omega]
theorem KH{K:Nat->Rows->Prop}:uK R row K↔K R.length (R++[some row]):=by
 unfold uK;rw[Zk1];simp
theorem ga.one{d:D}(h:ga I w d v):v.oneCell'=true:=by
 cases d<;>simp only[Q5,sc,sd,se,si,sj,tB,ua,ub,uc,ud,ue,uf,ug,uh,Q9,yW,Zuq,Zum]at h
 case sl sz es fr=>obtain⟨a,cap,hv,_⟩:=h;subst hv;rfl
 case emp=>obtain⟨a,hv⟩:=h;subst hv;rfl
 all_goals first|(subst h;rfl)|exact h.elim
theorem dc.one{c:Ctx}{d:D}(h:dc c w d v):v.oneCell'=true:=by
 cases d<;>simp only[dc]at h
 case sl sz es fr=>obtain⟨a,cap,hv,_⟩:=h;subst hv;rfl
 case emp=>obtain⟨a,hv,_⟩:=h;subst hv;rfl
 case mP es=>obtain⟨b,hv,_⟩:=h;subst hv;rfl
 case all r=>obtain⟨row,_,_,⟨_,a,hv,_⟩|⟨_,cap,arr,hv,_⟩⟩:=h<;>(subst hv;rfl)
 case own r o n=>
  obtain⟨row,_,_,_,⟨_,a,hv,_⟩|⟨_,cap,arr,_,_,_,hv,_⟩⟩:=h<;>(subst hv;rfl)
 case ptr r i off=>obtain⟨row,_,_,_,hv⟩:=h;subst hv;rfl
 case pa r i off len k n=>obtain⟨_,row,_,_,_,hv⟩:=h;subst hv;rfl
 case iu sz es i off=>obtain⟨b,o,arr,ty,fz,hv,_⟩:=h;subst hv;rfl
 case gm f cs=>obtain⟨us,⟨_,hv⟩|⟨_,l,rec,hv,_⟩,_⟩:=h<;>(subst hv;rfl)
 case gq r=>obtain hv|⟨row,_,_,_,hv⟩:=h<;>(subst hv;rfl)
 all_goals first|exact h|(subst h;rfl)|exact h.elim
theorem U1{I:ab}{w:World}:∀{cs:List D} {arr:Array Value} {off j:Nat},oK I w cs arr off->j<cs.length->∃v,arr[off+j]?=some v/\ga I w (cs.getD j .dead) v
 |c::cs,arr,off,0,h,_=>by
  simp only[DD,DE]at h
  simpa using h.1
 |c::cs,arr,off,j+1,h,hj=>by
  simp only[DD,DE]at h
  obtain⟨v,hv,hp⟩:=U1 h.2 (fR (by simpa using hj))
  exact⟨v,by rw[show off+(j+1)=off+1+j by omega];exact hv,by simpa using hp⟩
theorem U2{I:ab}{w:World}:∀{es:List (List D)} {arr:Array Value} {off sz i:Nat},iq I w es arr off sz->i<es.length->(es.getD i []).length=sz/\oK I w (es.getD i []) arr (off+i*sz)
 |e::es,arr,off,sz,0,h,_=>by
  simp only[pX,pL]at h
  simpa using⟨h.1,h.2.1⟩
 |e::es,arr,off,sz,i+1,h,hi=>by
  simp only[pX,pL]at h
  obtain⟨h1,h2⟩:=U2 h.2.2 (fR (by simpa using hi))
  exact⟨by simpa using h1,by rw[show off+(i+1)*sz=off+sz+i*sz by rw[Nat.succ_mul];omega];simpa using h2⟩
theorem Zdm{c:Ctx}{w:World}:∀{cs:List D} {arr:Array Value} {off j:Nat},kG c w cs arr off->j<cs.length->∃v,arr[off+j]?=some v/\dc c w (cs.getD j .dead) v
 |d::cs,arr,off,0,h,_=>by
  simp only[kG]at h
  simpa using h.1
 |d::cs,arr,off,j+1,h,hj=>by
  simp only[kG]at h
  obtain⟨v,hv,hp⟩:=Zdm h.2 (fR (by simpa using hj))
  exact⟨v,by rw[show off+(j+1)=off+1+j by omega];exact hv,by simpa using hp⟩
theorem Ed{c:Ctx}{w:World}:∀{ds:List D} {vs:List Value},(jm c w ds vs↔ds.length=vs.length/\∀j v,vs[j]?=some v->dc c w (ds.getD j .dead) v)
 |[],[]=>by simp[jm]
 |[],v::vs=>by simp[jm]
 |d::ds,[]=>by simp[jm]
 |d ::ds,v::vs=>by
  simp only[jm,Ed (ds:=ds) (vs:=vs),dD,Nat.add_right_cancel_iff]
  constructor
  ·rintro⟨h1,h2,h3⟩
   refine⟨h2,λj u hu=>?_⟩
   cases j with
   |zero=>simp at hu;subst hu;simpa using h1
   |succ j=>simpa using h3 j u (by simpa using hu)
  ·rintro⟨h1,h2⟩
   exact⟨by simpa using h2 0 v (by simp),h1,λj u hu=>by simpa using h2 (j+1) u (by simpa using hu)⟩
def kf(pl:Bool)(c:Ctx)(w:World)(d:D)(v:Value):Prop:=match pl with|true=>ga c.I w d v|false=>dc c w d v
theorem Zly{ty:sk}{d:D}(h:uL pl ty d K):∃d',K d'/\∀c w v,kf pl c w d v->dc c w d' v:=by
 cases ty with
 |int k=>
  simp only[uL,dd]at h
  refine⟨_,h.2,λc w v hx=>?_⟩
  cases d<;>simp[D.isInt]at h
  obtain⟨rfl,_⟩:=h
  cases pl<;>simpa[kf,Q5,sc,sd,se,si,sj,tB,ua,ub,uc,ud,ue,uf,ug,uh,Q9,dc,D.toInt]using hx
 |bool=>
  simp only[uL,dd]at h
  refine⟨_,h.2,λc w v hx=>?_⟩
  cases d<;>simp[D.isBool]at h
  cases pl<;>simpa[kf,Q5,sc,sd,se,si,sj,tB,ua,ub,uc,ud,ue,uf,ug,uh,Q9,dc,D.toBool]using hx
 |str=>
  simp only[uL,dd]at h
  refine⟨_,h.2,λc w v hx=>?_⟩
  cases d<;>simp[D.isStr]at h
  cases pl<;>simpa[kf,Q5,sc,sd,se,si,sj,tB,ua,ub,uc,ud,ue,uf,ug,uh,Q9,dc,D.toStr]using hx
 |sl n=>
  cases pl with
  |true=>
   simp only[uL,dd]at h
   refine⟨_,h.2,λc w v hx=>?_⟩
   cases d<;>(try(simp[D.Fs]at h;done))
   case c8=>exact⟨none,0,si.1 hx,Nat.zero_le _,.inl rfl⟩
   case emp=>obtain⟨a,ha⟩:=sj.1 hx;exact⟨a,0,ha,Nat.zero_le _,.inl rfl⟩
   simp only[D.Fs]at h
   have hh:=bE h.1
   subst hh
   simp only[kf,Q5,sc,sd,se,si,sj,tB,ua,ub,uc,ud,ue,uf,ug,uh,Q9]at hx
   simp only[dc,D.toEs]
   obtain⟨a,cap,hv,hc,gu⟩:=hx
   refine⟨a,cap,hv,hc,?_⟩
   rcases gu with gu|⟨b,off,arr,ty,fz,ha,hI,hh,hE⟩
   ·exact .inl gu
   ·exact .inr ⟨b,off,arr,ty,fz,ha,hI,by simp,hh,Tn.1 hE⟩
  |false=>
   simp only[uL,dd,D.c7]at h
   exact⟨_,h.2,λc w v hx=>hx⟩
 |other=>
  cases pl with
  |false=>
   simp only[uL,dd,D.c7]at h
   exact⟨_,h.2,λc w v hx=>hx⟩
  |true=>
   simp only[uL]at h
   cases d<;>simp only at h
   case iz=>exact⟨_,h,λc w v hx=>se.1 hx⟩
theorem Zee{pl:Bool}{e:List D}:∀{dj:List sk} {off:Nat} {K:List D->Prop},Ee pl e dj off K->
 ∃ds,K ds/\ds.length=dj.length/\∀j,j<dj.length->∀c w v,kf pl c w (e.getD (off+j) .dead) v->dc c w (ds.getD j .dead) v
 |[],off,K,h=>⟨[],h,rfl,λj hj=>by simp at hj⟩
 |t::ts,off,K,h=>by
  simp only[Ee]at h
  obtain⟨d,hd,h1⟩:=Zly h
  obtain⟨ds,Ef,hl,h2⟩:=Zee hd
  refine⟨d::ds,Ef,by simp[hl],λj hj c w v hx=>?_⟩
  cases j with
  |zero=>simpa using h1 c w v (by simpa using hx)
  |succ j=>simpa using h2 j (by simpa using hj) c w v (by rw[show off+1+j=off+(j+1) by omega];exact hx)
theorem DC(h:AB P t=some ti):∃i,P.info? t=some i/\i.size=ti.size/\i.bytes=ti.bytes/\ti.sP.length=ti.size/\ti.kind=Hl P t/\
 ti.zero=(i.zero.bind λz=>Bn z.cells.toList)/\ti.eq=(!(P.eqGuardType P.depth t)&&rz P 8 t)/\ti.sP=mb P 8 t/\∃d,P.underlying t=some d:=by
 unfold AB at h
 cases hi:P.info? t with
 |none=>simp[hi]at h
 |some i=>
  simp only[hi]at h
  split at h
  ·rename_i hl
   simp only[Option.some.injEq]at h
   subst h
   exact⟨i,rfl,rfl,rfl,hl.1,rfl,rfl,rfl,rfl,Option.isSome_iff_exists.1 hl.2⟩
  ·cases h
def QP:TypeDesc->Bool|.struct _=>true|.array _ _=>true|_=>false
theorem MC(hd:P.underlying t=some d):(Hl P t).isAgg=QP d:=by
 unfold Hl
 rw[hd]
 cases d<;>rfl
theorem ZY(hd:P.underlying t=some d)(w:World):(isAgg t).run P w=.ok (Hl P t).isAgg w:=by
 rw[MC hd]
 unfold isAgg
 rw[Sem.run_bind,run_underlying hd w]
 cases d<;>rfl
def AD(arr:Array Value)(o n:Nat):List Value:=(List.range n).map λj=>(arr[o+j]?).getD undef
theorem Fj(b o j:Nat):(⟨b,o,none⟩:Addr).add j=⟨b,o+j,none⟩:=by
 unfold Addr.add;split<;>simp_all
theorem ZZ(ht:AB P t=some ti){b o:Nat}{arr:Array Value}{ty:TypeId}{fz:Nat×Nat}(hb:w.heap[b]?=some (.cells arr ty fz))
 (TM:∀j,j<ti.size->∃v,arr[o+j]?=some v) (h1:ti.kind.isAgg=true\/ti.size=1):
 (loadVar t ⟨b,o,none⟩).run P w=.ok (if ti.kind.isAgg then .agg (AD arr o ti.size).toArray else(arr[o]?).getD undef) w:=by
 obtain⟨i,hi,hs,_,_,hk,_,_,_,d,hd⟩:=DC ht
 have wM:∀j,w.cell? ⟨b,o+j,none⟩=arr[o+j]? :=λj=>by simp[World.cell?,hb]
 have hl:(loadCells ⟨b,o,none⟩ ti.size).run P w=.ok (AD arr o ti.size).toArray w:=
  run_loadCells w _ _ _ λj hj=>by
   rw[Fj,wM]
   obtain⟨v,hv⟩:=TM j hj
   simp[hv]
 unfold loadVar
 rw[Sem.run_bind,ZY hd,Result.andThen_ok,<-hk]
 cases hg:ti.kind.isAgg with
 |true=>
  simp only[if_true,Sem.run_bind,sizeOf,typeInfo,run_program,Result.andThen_ok,hi,Sem.run_pure,hs,hl]
 |false=>
  have ft:ti.size=1:=by simpa[hg]using h1
  obtain⟨v,hv⟩:=TM 0 (by omega)
  have El:arr[o]?=some v:=by simpa using hv
  have hc:w.cell? ⟨b,o,none⟩=some v:=by simpa[El]using wM 0
  simp[hc,El]
theorem Zj8{e:List D}(hl:ti.sP.length=ti.size)(h:uM pl ti e off K):
 ∃ val,K val/\(ti.kind.isAgg=true\/ti.size=1)/\∀c w arr o,(∀j,j<ti.size->∃v,arr[o+j]?=some v/\kf pl c w (e.getD (off+j) .dead) v)->
  Rep c w val (if ti.kind.isAgg then .agg (AD arr o ti.size).toArray else(arr[o]?).getD undef):=by
 unfold uM at h
 cases hg:ti.kind.isAgg with
 |true=>
  simp only[hg]at h
  obtain⟨ds,hK,hlen,hr⟩:=Zee h
  refine⟨_,hK,.inl rfl,λc w arr o hx=>?_⟩
  simp only[if_true]
  refine⟨_,rfl,Ed.2 ⟨by simp[AD,hlen,hl],λj v hv=>?_⟩⟩
  have hj:j<ti.size:=by
   have:=(List.getElem?_eq_some_iff.1 hv).1
   simpa[AD]using this
  obtain⟨u,hu,CM⟩:=hx j hj
  have:u=v:=by simpa[AD,hj,hu]using hv
  subst this
  exact hr j (by omega) c w u CM
 |false=>
  simp only[hg]at h
  match hc:ti.sP with
  |[y]=>
   simp only[hc]at h
   obtain⟨d,hK,hr⟩:=Zly h
   have ft:ti.size=1:=by rw[<-hl,hc];rfl
   refine⟨d,hK,.inr ft,λc w arr o hx=>?_⟩
   obtain⟨u,hu,CM⟩:=hx 0 (by omega)
   have U3:arr[o]?=some u:=by simpa using hu
   simp only[aA,if_false,U3,Option.getD_some]
   have:=hr c w u (by simpa using CM)
   cases d<;>first|exact this|trivial|exact this.elim
  |[]=>simp only[hc]at h
  |_::_::_=>simp only[hc]at h
def mh(c:Ctx)(R:Rows):Prop:=∀r row ao,c.R r=some row->R.getD r none=some ao->row=ao
theorem Ah(w:World)(o:Obj)(b:Nat)(h:b<w.heap.size):(w.alloc o).heap[b]?=w.heap[b]? :=by
 show(w.heap.push o)[b]?=w.heap[b]?
 rw[Array.getElem?_push,if_neg (Nat.ne_of_lt h)]
theorem U4(w:World)(o:Obj):(w.alloc o).heap[w.heap.size]?=some o:=by
 show(w.heap.push o)[w.heap.size]?=some o
 simp
def Ctx.add(c:Ctx)(k:Nat)(row:Row)(b:Nat):Ctx:={c with R:=λr=>if r=k then some row else c.R r,ρ:=λr=>if r=k then b else c.ρ r,V:=λr=>r≠k/\c.V r}
theorem Ctx.ja(c:Ctx)(k:Nat)(row:Row)(b:Nat):(c.add k row b).R k=some row/\(c.add k row b).ρ k=b:=by simp[Ctx.add]
theorem Q4.alloc{c:Ctx}(hm:Mem c w){k:Nat}(hk:c.R k=none)(row:Row)(o:Obj):Q4 c w (c.add k row w.heap.size) (w.alloc o):=by
 refine⟨rfl,aX _,λb hb=>⟨hb,Ah w o b (hm.fh b hb).1⟩,λr x hr=>?_⟩
 have gv:r≠k:=λe=>by rw[e,hk]at hr;cases hr
 refine⟨x,by simp[Ctx.add,gv,hr],rfl,rfl,rfl,rfl,by simp[Ctx.add,gv],by simp[Ctx.add,gv],λnv arr ha=>⟨arr,?_,rfl⟩⟩
 rw[Ah w o _ (hm.lt hr nv)];exact ha
theorem Fr.alloc(X:ab)(w:World)(o:Obj):Fr X w (w.alloc o):=
 ⟨rfl,rfl,rfl,by show w.heap.size<=(w.heap.push o).size;simp,λb hb _=>Ah w o b hb⟩
theorem tw{c c':Ctx}(h:Q4 c w c' w')(QQ:c'.ρ r=c.ρ r)(hV:c'.V r↔c.V r)(hh:¬c.V r->w'.heap[c.ρ r]?=w.heap[c.ρ r]?)(hr:Et c w r row):Et c' w' r row:=by
 rcases hr with⟨h0,hr⟩|⟨h0,hr⟩
 ·exact .inl ⟨hV.2 h0,hr⟩
 refine .inr ⟨λe=>h0 (hV.1 e),?_⟩
 obtain⟨arr,ha,hs,hx⟩:=hr
 refine⟨arr,by rw[QQ,hh h0];exact ha,hs,?_⟩
 split
 ·rename_i hb
  simp only[hb,if_true]at hx
  obtain⟨e,h1,h2,h3,h4⟩:=hx
  exact⟨e,h1,h2,h3,Ny h h4⟩
 ·rename_i hb
  simp only[hb,if_false,aA]at hx
  exact nB h.I _ _ _ _ hx
theorem Mem.alloc{c:Ctx}(hm:Mem c w){k:Nat}(hk:c.R k=none)(row:Row)(arr:Array Value)(hs:0<row.sz)
 (hx:if row.box then∃e,row.es=.gen [e]/\e.length=row.sz/\arr.size=row.sz/\kG c w e arr 0 else iq c.I w row.es.l arr 0 row.sz):
 Mem (c.add k row w.heap.size) (w.alloc (.cells arr row.ty)):=by
 have hg:=Q4.alloc hm hk row (.cells arr row.ty)
 refine⟨λr x hr=>?_,λr s x y hr iT JI MD he=>?_,λb hb=>?_,bL hm.top (by show w.heap.size<=(w.heap.push _).size;simp),hm.jY.mono hg.I⟩
 ·by_cases e:r=k
  ·subst e
   simp only[Ctx.add,if_true,Option.some.injEq]at hr
   subst hr
   refine .inr ⟨by simp[Ctx.add],arr,by simp only[Ctx.add,if_true];exact U4 w _,hs,?_⟩
   split
   ·rename_i hb
    simp only[hb,if_true]at hx
    obtain⟨e,h1,h2,h3,h4⟩:=hx
    exact⟨e,h1,h2,h3,Ny hg h4⟩
   ·rename_i hb
    simp only[hb,if_false,aA]at hx
    exact nB hg.I _ _ _ _ hx
  ·have pF:c.R r=some x:=by simpa[Ctx.add,e]using hr
   exact tw hg (by simp[Ctx.add,e]) (by simp[Ctx.add,e]) (λnv=>Ah w _ _ (hm.lt pF nv)) (hm.row r x pF)
 ·by_cases e1:r=k<;>by_cases e2:s=k
  ·exact e1.trans e2.symm
  ·exfalso
   have h2:c.R s=some y:=by simpa[Ctx.add,e2]using iT
   have:=hm.lt h2 (by simpa[Ctx.add,e2]using MD)
   simp[Ctx.add,e1,e2]at he
   omega
  ·exfalso
   have h1:c.R r=some x:=by simpa[Ctx.add,e1]using hr
   have:=hm.lt h1 (by simpa[Ctx.add,e1]using JI)
   simp[Ctx.add,e1,e2]at he
   omega
  ·exact hm.inj r s x y (by simpa[Ctx.add,e1]using hr) (by simpa[Ctx.add,e2]using iT) (by simpa[Ctx.add,e1]using JI) (by simpa[Ctx.add,e2]using MD) (by simpa[Ctx.add,e1,e2]using he)
 ·have rJ:c.I b:=hb
  obtain⟨h1,h2⟩:=hm.fh b rJ
  refine⟨by show b<(w.heap.push _).size;simp;omega,λr x hr hv=>?_⟩
  by_cases e:r=k
  ·simp only[Ctx.add,e,if_true];omega
  ·simpa[Ctx.add,e]using h2 r x (by simpa[Ctx.add,e]using hr) (by simpa[Ctx.add,e]using hv)
theorem wJ.get{c:Ctx}(h:wJ c w r row){i off n:Nat}(hi:i<row.es.l.length)(hn:off+n<=row.sz):
 ∃arr,w.heap[c.ρ r]?=some (.cells arr row.ty (0,0))/\∀j,j<n->∃v,arr[i*row.sz+off+j]?=some v/\kf (!row.box) c w ((row.es.l.getD i []).getD (off+j) .dead) v:=by
 obtain⟨arr,ha,hs,hx⟩:=h
 refine⟨arr,ha,λj hj=>?_⟩
 cases hb:row.box with
 |true=>
  simp only[hb,if_true]at hx
  obtain⟨e,h1,h2,h3,h4⟩:=hx
  have pC:i=0:=by rw[h1]at hi;simpa[ai.l]using hi
  subst pC
  obtain⟨v,hv,hp⟩:=Zdm h4 (j:=off+j) (by omega)
  exact⟨v,by simpa using hv,by simpa[kf,h1,ai.l]using hp⟩
 |false=>
  simp only[hb,if_false,aA]at hx
  obtain⟨h1,h2⟩:=U2 hx hi
  obtain⟨v,hv,hp⟩:=U1 h2 (j:=off+j) (by omega)
  exact⟨v,by simpa[fS]using hv,by simpa[kf]using hp⟩
theorem U5:∀{e:List D} {len off n:Nat},n<len->(ints e off len).getD n 0=(e.getD (off+n) .dead).toInt
 |e,len+1,off,0,_=>by simp[ints]
 |e,len+1,off,n+1,h=>by
  have:=U5 (e:=e) (len:=len) (off:=off+1) (n:=n) (by omega)
  rw[show off+1+n=off+(n+1) by omega]at this
  simpa[ints]using this
theorem U6:∀{e:List D} {len off n:Nat},n<len->(ag e off len).getD n false=(e.getD (off+n) .dead).toBool
 |e,len+1,off,0,_=>by simp[ag]
 |e,len+1,off,n+1,h=>by
  have:=U6 (e:=e) (len:=len) (off:=off+1) (n:=n) (by omega)
  rw[show off+1+n=off+(n+1) by omega]at this
  simpa[ag]using this
theorem U7{k:IntKind}:∀{e:List D} {len off n:Nat},CN k e off len=true->n<len->(e.getD (off+n) .dead).isInt k=true
 |e,len+1,off,0,h,_=>by simp only[CN,aE]at h;exact h.1
 |e,len+1,off,n+1,h,hn=>by
  simp only[CN,aE]at h
  have:=U7 h.2 (n:=n) (by omega)
  rwa [show off+1+n=off+(n+1) by omega]at this
theorem U8:∀{e:List D} {len off n:Nat},Hm e off len=true->n<len->(e.getD (off+n) .dead).isBool=true
 |e,len+1,off,0,h,_=>by simp only[Hm,aE]at h;exact h.1
 |e,len+1,off,n+1,h,hn=>by
  simp only[Hm,aE]at h
  have:=U8 h.2 (n:=n) (by omega)
  rwa [show off+1+n=off+(n+1) by omega]at this
theorem D.kg{d:D}(h:d.isInt k=true):d=.int k d.toInt:=by
 cases d<;>simp[D.isInt]at h
 subst h;rfl
theorem D.kh{d:D}(h:d.isBool=true):d=.bool d.toBool:=by
 cases d<;>simp[D.isBool]at h
 rfl
theorem kf.int{c:Ctx}{n:Int}(h:kf pl c w (.int k n) v):v=.int k n:=by
 cases pl<;>simpa[kf,Q5,sc,sd,se,si,sj,tB,ua,ub,uc,ud,ue,uf,ug,uh,Q9,dc]using h
theorem kf.bool{c:Ctx}{b:Bool}(h:kf pl c w (.bool b) v):v=.bool b:=by
 cases pl<;>simpa[kf,Q5,sc,sd,se,si,sj,tB,ua,ub,uc,ud,ue,uf,ug,uh,Q9,dc]using h
theorem U9(ht:AB P t=some ti)(hk:(ti.kind.isAgg||match ti.kind with|.other=>true|_=>false)=false):ti.size=1:=by
 obtain⟨_,_,_,_,hl,nh,_,_,hc,_⟩:=DC ht
 rw[<-hl,hc]
 rw[nh]at hk
 unfold Hl at hk
 unfold mb
 split at hk<;>first|rfl|(simp[TK.isAgg]at hk)
theorem Va{a:Addr}:(Instr.loadAt t (.pointer (some a))).run P w=(loadVar t a).run P w:=by
 simp[Instr.loadAt,Instr.sureAddr]
theorem Zk2(hT:ji P T){x:D}{K:D->Rows->Prop}(h:wN T t x R K):
 ∃val,K val R/\∀c w v,Mem c w->mh c R->Rep c w x v->∃u,(Instr.loadAt t v).run P w=.ok u w/\Rep c w val u:=by
 unfold wN at h
 cases ht:T.get t with
 |none=>simp only[ht]at h
 |some ti=>
  simp only[ht]at h
  have ME:=hT.get ht
  obtain⟨i0,pC,BG,_,Ky,Ad,_⟩:=DC ME
  cases x<;>simp only at h
  case ptr r i off=>
   cases hR:R.getD r none with
   |none=>simp only[hR]at h
   |some row=>
    obtain⟨box,ty,sz,es⟩:=row
    simp only[hR,dd]at h
    obtain⟨hle,h⟩:=h
    have hle:=lE hle
    obtain⟨val,hK,uq,hr⟩:=Zj8 Ky h
    refine⟨val,hK,λc w v hm hA hv=>?_⟩
    obtain⟨row,h1,hV,h2,h3⟩:=hv
    have c6:=hA r row _ h1 hR
    subst c6
    obtain⟨arr,ha,hx⟩:=(hm.real h1 hV).get h2 hle
    simp only[ai.nm es (show i<es.len by simpa using h2)]at hx
    subst h3
    refine⟨_,Va.trans (ZZ ME ha (λj hj=>by obtain⟨v,hv,_⟩:=hx j hj;exact⟨v,hv⟩) uq),hr c w arr _ hx⟩
  case pa r i off len k n=>
   cases hR:R.getD r none with
   |none=>simp only[hR]at h
   |some row=>
    obtain⟨box,ty,sz,es⟩:=row
    simp only[hR,dd]at h
    obtain⟨hle,h⟩:=h
    have hle:=lE hle
    have one:(ti.kind.isAgg=false)->ti.size=1->∀c w v,Mem c w->mh c R->Rep c w (.pa r i off len k n) v->∃u,(Instr.loadAt t v).run P w=.ok u w/\kf (!box) c w ((es.get i).getD (off+n) .dead) u/\n<len:=by
     intro CO ft c w v hm hA hv
     obtain⟨hn,row,h1,hV,h2,h3⟩:=hv
     have c6:=hA r row _ h1 hR
     subst c6
     obtain⟨arr,ha,hx⟩:=(hm.real h1 hV).get h2 hle
     simp only[ai.nm es (show i<es.len by simpa using h2)]at hx
     subst h3
     obtain⟨u,hu,CM⟩:=hx n hn
     have U3:arr[i*sz+(off+n)]?=some u:=by rw[<-fS];exact hu
     refine⟨u,?_,CM,hn⟩
     rw[Va,ZZ ME ha (λj hj=>⟨u,by rw[show j=0 by omega];exact U3⟩) (.inr ft),CO]
     simp[U3]
    split at h
    ·rename_i j k' hk
     simp only[aE,decide_eq_true_eq]at h
     obtain⟨⟨rfl,iQ⟩,h⟩:=h
     have ft:ti.size=1:=U9 ME (by rw[hk];simp[TK.isAgg])
     refine⟨_,h,λc w v hm hA hv=>?_⟩
     obtain⟨u,hu,CM,hn⟩:=one (by rw[hk];rfl) ft c w v hm hA hv
     rw[D.kg (U7 iQ hn)]at CM
     have:=kf.int CM
     subst this
     exact⟨_,hu,by simp only[Rep,VRep,dc];rw[U5 hn]⟩
    ·rename_i hk
     obtain⟨iQ,h⟩:=h
     have ft:ti.size=1:=U9 ME (by rw[hk];simp[TK.isAgg])
     refine⟨_,h,λc w v hm hA hv=>?_⟩
     obtain⟨u,hu,CM,hn⟩:=one (by rw[hk];rfl) ft c w v hm hA hv
     rw[D.kh (U8 iQ hn)]at CM
     have:=kf.bool CM
     subst this
     exact⟨_,hu,by simp only[Rep,VRep,dc];rw[U6 hn]⟩
    ·exact h.elim
  case iu sz es i off=>
   simp only[dd]at h
   obtain⟨hle,h⟩:=h
   have hle:=lE hle
   obtain⟨val,hK,uq,hr⟩:=Zj8 Ky h
   refine⟨val,hK,λc w v hm hA hv=>?_⟩
   obtain⟨b,o,arr,ty,fz,h3,hI,hi,ha,hE⟩:=hv
   subst h3
   obtain⟨h1,h2⟩:=U2 hE hi
   rw[ai.nm es (show i<es.len by simpa using hi)]at h1 h2
   have hx:∀j,j<ti.size->∃v,arr[o+i*sz+off+j]?=some v/\kf true c w ((es.get i).getD (off+j) .dead) v:=λj hj=>by
    obtain⟨v,hv,hp⟩:=U1 h2 (j:=off+j) (by omega)
    exact⟨v,by rw[<-hv];congr 1;omega,hp⟩
   exact⟨_,Va.trans (ZZ ME ha (λj hj=>by obtain⟨v,hv,_⟩:=hx j hj;exact⟨v,hv⟩) uq),hr c w arr _ hx⟩
def Ctx.fh(c:Ctx)(b:Nat):Ctx:={c with I:=λx=>c.I x\/x=b,top:=max c.top (b+1)}
theorem Vb{c:Ctx}(hm:Mem c w)(o:Obj):Q4 c w (c.fh w.heap.size) (w.alloc o):=
 ⟨rfl,Nat.le_max_left _ _,λb hb=>⟨.inl hb,Ah w o b (hm.fh b hb).1⟩,λr x hr=>⟨x,hr,rfl,rfl,rfl,rfl,rfl,Iff.rfl,λnv arr ha=>⟨arr,by rw[Ah w o _ (hm.lt hr nv)];exact ha,rfl⟩⟩⟩
theorem xat{c:Ctx}(hm:Mem c w)(o:Obj):Mem (c.fh w.heap.size) (w.alloc o):=by
 refine⟨λr x hr=>tw (Vb hm o) rfl Iff.rfl (λnv=>Ah w _ _ (hm.lt hr nv)) (hm.row r x hr),hm.inj,λb hb=>?_,?_,hm.jY.mono (Vb hm o).I⟩
 all_goals have ft:(w.alloc o).heap.size=w.heap.size+1:=by show(w.heap.push o).size=_;simp
 rotate_left
 ·have:=hm.top;rw[ft];exact Nat.max_le.2 ⟨by omega,aX _⟩
 rcases hb with hb|hb
 ·exact⟨by have:=(hm.fh b hb).1;omega,(hm.fh b hb).2⟩
 ·subst hb
  exact⟨by omega,λr x hr v=>by have:=hm.lt hr v;show c.ρ r≠w.heap.size;omega⟩

import Derived.Test.YthjfindbamdacaaGreatDoorAuditAcceptsDraw
import Derived.IntWalk
open List renaming getD->aK,ext_getElem->bN,map_map->bU,prefix_refl->bV,suffix_refl->bW,mem_append->bX,mem_singleton->bY,prefix_append->bZ,suffix_cons->cA,getElem?_append_left->aZ,range'->bK,range'_succ->cB
open Nat renaming beq->bT,blt->bJ
set_option linter.all false
namespace Go.GD
open Go
variable {E:ak}{EX ex:List Nat}{M N m:Nat}{P:Program}{Q:Ex->St->Prop}{R:Rows}{c:Ctx}{code:Code}{d d':D}{ro:Option Nat}{st:St}{w:World}
def sP(ex:List Nat)(M:Nat)(R:Rows)(d p:D):Prop:=
 match p with
 |.dead=>True
 |.ptr i o f=>match d with|.ptr r o' f'=>cv (kO ex i r) (o'=o/\f'=f)|_=>False
 |.iv sz es i off=>match d with|.iv kJ jh i' iR=>kJ=sz/\ak.Eq jh es/\i'=i/\iR=off|_=>False
 |p=>AG ex M R d p
def Co(ex:List Nat)(M:Nat)(R:Rows)(env:List (Nat×D)):List (Nat×D)->Prop
 |[]=>True
 |(t,p)::l=>sP ex M R (look env t) p/\Co ex M R env l
def fold(M:Nat)(ex:List Nat)(st:St)(mz:List (Nat×D))(aj:List Row):Prop:=
 cv (AH M ex) (Co ex M st.rows st.env mz/\nk ex M st.rows ex aj)
theorem zc{rows:List Row}(hm:Mem c w)(hR:∀r,c.R r=R.getD r none)(c6:nk ex m R ex rows)(fk:∀r row,c.R r=some row->¬c.V r->m<=r->c.base<=c.ρ r){d p:D}{v:Value}(h:sP ex m R d p)(hr:Rep c w d v):Rep (c.out ex rows) w p v:=by
 have nK:∀b,c.I b->(c.out ex rows).I b/\w.heap[b]?=w.heap[b]? :=λb hb=>⟨.inl hb,rfl⟩
 cases p with
 |dead=>trivial
 |ptr i o f=>
  simp only[sP]at h
  split at h
  ·rename_i r o' f'
   simp only[db]at h
   obtain⟨hx,rfl,rfl⟩:=h
   exact Td (w:=w) hR c6 hx hr
  ·exact h.elim
 |iv sz es i off=>
  simp only[sP]at h
  split at h
  ·obtain⟨rfl,he,rfl,rfl⟩:=h
   have he:=ak.AI he
   obtain⟨b,o,arr,ty,fz,h1,h2,h3,h4,h5⟩:=hr
   rw[he]at h3 h5
   exact⟨b,o,arr,ty,fz,h1,.inl h2,h3,h4,ou nK _ _ _ _ h5⟩
  ·exact h.elim
 |_=>
  simp only[sP]at h
  exact Te hm hR c6 fk h hr
theorem Zho{c:Ctx}{w:World}{ex:List Nat}{m:Nat}{R:Rows}{rows:List Row}(hm:Mem c w)(hR:∀r,c.R r=R.getD r none)(c6:nk ex m R ex rows)(fk:∀r row,c.R r=some row->¬c.V r->m<=r->c.base<=c.ρ r){env:List (Nat×D)}{a:Act}(he:∀t,Rep c w (look env t) (a.tmps.getD t undef)):
 ∀{mz:List (Nat×D)},Co ex m R env mz->∀t,Rep (c.out ex rows) w (look mz t) (a.tmps.getD t undef)
 |[],_,t=>trivial
 |(u,p)::l,h,t=>by
  have:=Zho hm hR c6 fk he h.2 t
  rw[Bx]
  split
  ·rename_i e
   subst e
   exact zc hm hR c6 fk h.1 (he u)
  ·exact this
theorem yc{c0:Ctx}{w0:World}{a:Act}(hs:fw N M c0 w0 c w st a){mz:List (Nat×D)}{aj:List Row}(h:fold M ex st mz aj):∃c',fw N M c0 w0 c' w ⟨mz,aj.map some⟩ a:=by
 unfold fold at h
 simp only[db]at h
 obtain⟨hex,hE,c6⟩:=h
 obtain⟨fk,gz,gg⟩:=Tf hs hex c6
 refine⟨c.out ex aj,gz,λr=>?_,Zho hs.mem hs.rows c6 fk hs.env hE,hs.size,hs.defers,hs.gh,hs.gy,gg⟩
 simp only[Ctx.out,aK,List.getElem?_map]
 cases aj[r]? <;>rfl
theorem Tr.mono{Q Q':Ex->St->Prop}(hq:∀e st,Q e st->Q' e st)(h:ui ro P N M code st Q):ui ro P N M code st Q':=
 λc0 w0 c w a hs=>wpIn_mono (h c0 w0 c w a hs) λe a' w' ⟨ex,jx,c',h1,h2,h3⟩=>⟨ex,jx,c',h1,hq _ _ h2,h3⟩
theorem qag{α:Type}(F:α->List (Nat×D)×List Row)(wM:α->Prop)(μ:α->Nat)
 (a0:α) (iL:List Nat) (hp:wM a0) (h0:fold M iL st (F a0).1 (F a0).2)
 (round:∀a,wM a->ui ro P N M code ⟨(F a).1,(F a).2.map some⟩ λe jx=>match e with
  |.normal=>∃b ex,wM b/\μ b<μ a/\fold M ex jx (F b).1 (F b).2
  |.exit i=>Q (.exit i) jx
  |.ret=>Q .ret jx):ui ro P N M (.loop code) st Q:=by
 intro c0 w0 c w a hs
 have key:∀(n:Nat) (x:α),wM x->μ x<n->∀(c:Ctx) (w:World) (a:Act),fw N M c0 w0 c w ⟨(F x).1,(F x).2.map some⟩ a->
  Code.roundsIn (BA ro) 0 P code (λe a' w'=>∃ex jx c',nd e=some ex/\Q ex jx/\fw N M c0 w0 c' w' jx a') n a w:=by
  intro n
  induction n with
  |zero=>intro x _ h;omega
  |succ n ih=>
   intro x hx bz c w a hs
   rw[roundsIn_succ]
   refine wpIn_mono (round x hx c0 w0 c w a hs) λe a' w' hq=>?_
   obtain⟨ex,jx,c',he,hq,jl⟩:=hq
   cases e<;>simp only[nd,Option.some.injEq,reduceCtorEq]at he
   ·subst he
    obtain⟨b,ex,h1,h2,h3⟩:=hq
    obtain⟨Tg,Xa⟩:=yc jl h3
    exact ih b h1 (by omega) Tg w' a' Xa
   ·subst he;exact⟨_,jx,c',rfl,hq,jl⟩
   ·subst he;exact⟨_,jx,c',rfl,hq,jl⟩
 obtain⟨c',jl⟩:=yc hs h0
 exact wpIn_loop_rounds _ (key (μ a0+1) a0 hp (by omega) c' w a jl)
structure bn where
 α:Type
 F:St->α->List (Nat×D)×List Row
 a0:St->α
 iL:St->List Nat
 next:St->α:=a0
 ex:St->List Nat:=iL
structure Ask(p:Prop):Prop where
 ok:p
def keyOf:Code->Nat
 |.region id _ _=>id
 |.block id _=>id
 |.seq a _=>keyOf a
 |.loop a=>keyOf a
 |_=>0
def GH:List (Nat×bn)->Nat->Option bn
 |[],_=>none
 |(k,i)::l,n=>match bT k n with|true=>some i|false=>GH l n
def IL(T:iM)(G:List bf)(M f:Nat)(g:Operand)(st:St)(Q:Ex->St->Prop):Prop:=
 match cb st.env g with
 |.gq gf cs=>match K0 ((yTs f).map (look st.env)),pq G gf with
  |some ys,some k=>IJ T ys st.env st.rows λR=>cv (bJ gf YB)<|IC G M gf k (.gq f ys::cs.map iJ.d) R λks _ R=>Zj ks st.env λenv=>cv (sQ (AJ env++GI R)) (Q .normal ⟨env,R⟩)
  |_,_=>False
 |_=>False
def evL(ds:List D):Operand->D|.tmp i=>ds.getD i .dead|_=>.dead
def opsL(n:Nat):List Operand:=(List.range n).map Operand.tmp
theorem zag{ds:List D}:(opsL ds.length).map (evL ds)=ds:=by
 refine bN (by simp[opsL]) λi h1 h2=>?_
 simp[opsL,evL,aK,h2]
def IM(vs:List Value):Operand->Value|.tmp i=>vs.getD i undef|_=>undef
theorem xI{vs:List Value}{n:Nat}(h:n=vs.length):(opsL n).map (IM vs)=vs:=by
 subst h
 refine bN (by simp[opsL]) λi h1 h2=>?_
 simp[opsL,IM,aK,h2]
theorem vc{c:Ctx}{w:World}:∀{ds:List D} {vs:List Value},kp c w ds vs->∀i,Rep c w (ds.getD i .dead) (vs.getD i undef)
 |[],[],_,i=>by simp[aK];trivial
 |d::ds,v::vs,h,0=>by simpa using h.1.toRep
 |d::ds,v::vs,h,i+1=>by simpa using vc h.2 i
 |[],_::_,h,_=>h.elim
 |_::_,[],h,_=>h.elim
theorem Za2{c:Ctx}{w:World}:∀{cs:List iJ} {us:List Value},oX c w cs us->kp c w (cs.map iJ.d) us
 |[],[],_=>trivial
 |x::cs,u::us,h=>⟨VRep.Fi (WV.1 h.1),Za2 h.2⟩
 |[],_::_,h=>h.elim
 |_::_,[],h=>h.elim
theorem NO{G:List bf}(hG:j5 P G){N M f:Nat}{g:Operand}{ps:Array Tmp}{x b:Code}(nA:RF (some f) N (.rangeFunc g ps x b)){T:iM}(h:IL T G M f g st Q):Tr P N M (.rangeFunc g ps x b) st Q:=by
 intro c0 w0 c w a hs
 obtain⟨y,⟨hy,hn,Fo,pV,h1⟩,he⟩:=nA
 unfold IL at h
 split at h
 rotate_left
 ·exact h.elim
 rename_i gf cs hg
 split at h
 rotate_left
 ·exact h.elim
 rename_i ys k Th mb
 obtain⟨R0,c,h,hs⟩:=GG h hs
 simp only[db]at h
 obtain⟨IN,h⟩:=h
 have IN:=lE IN
 rw[<-zag (ds:=.gq f ys::cs.map iJ.d)]at h
 obtain⟨ks,val,R',X,h2,h3,h4,h5,h6⟩:=WX hG mb h
 obtain⟨dz,hf⟩:=GC hG h3
 rw[ID]at h2
 obtain⟨oW,hQ⟩:=h2
 have Ti:Rep c w (cb st.env g) (a.eval g):=NH hs.env g
 rw[hg]at Ti
 obtain⟨us,⟨_,Ti⟩|⟨Xb,_⟩,Fp⟩:=Ti
 rotate_left
 ·exact absurd IN (Nat.not_lt.2 Xb)
 refine wpIn_rangeFunc λfn _=>?_
 obtain⟨rec,nh⟩:∃rec:Loop,rec={state:=.ready,pending:=none,fn,tmps:=a.tmps,params:=ps,assign:=x,body:=b,defers:=w.heap.size}:=⟨_,rfl⟩
 obtain⟨wd,IP⟩:∃wd,wd=w.alloc (.deferred (some [])):=⟨_,rfl⟩
 obtain⟨w1,GJ⟩:∃w1,w1=wd.alloc (.loop rec):=⟨_,rfl⟩
 have hsd:wd.heap.size=w.heap.size+1:=by rw[IP];simp
 have mW:w1.heap.size=w.heap.size+2:=by rw[GJ];simp[hsd]
 have Tj:w1.heap[w.heap.size+1]?=some (.loop rec):=by rw[GJ,<-hsd];exact World.alloc_heap_new wd _
 have hD1:w1.heap[w.heap.size]?=some (.deferred (some [])):=by
  rw[GJ];refine(AK wd _ _ (by omega)).trans ?_;rw[IP];exact World.alloc_heap_new w _
 have GK:∀i,i<w.heap.size->w1.heap[i]?=w.heap[i]? :=λi hi=>by
  rw[GJ];refine(AK wd _ _ (by omega)).trans ?_;rw[IP];exact AK w _ _ hi
 obtain⟨c1,Cp⟩:∃c1:Ctx,c1={c with I:=λi=>c.I i\/i=w.heap.size+1}:=⟨_,rfl⟩
 have wN:jn c w c1 w1:=by
  rw[Cp]
  exact⟨rfl,Nat.le_refl _,λi hi=>⟨.inl hi,GK i (hs.mem.fu i hi).1⟩,λr z hr=>⟨z,hr,rfl,rfl,rfl,rfl,rfl,Iff.rfl,λhV arr ha=>⟨arr,(GK _ (Array.getElem?_eq_some_iff.1 ha).1).trans ha,rfl⟩⟩⟩
 have IQ:∀r z,c.R r=some z->¬c.V r->c.ρ r<w.heap.size:=λr z hr hV=>by
  rcases hs.mem.row r z hr with h|⟨_,arr,h,_⟩
  ·exact(hV h.1).elim
  ·exact(Array.getElem?_eq_some_iff.1 h).1
 have IK:Mem c1 w1:=by
  have wN:=wN
  rw[Cp]at wN⊢
  refine⟨λr z hr=>um wN rfl Iff.rfl (λnv=>GK _ (IQ r z hr nv)) (hs.mem.row r z hr),hs.mem.inj,λi hi=>?_,by have:=hs.mem.top;show c.top<=_;omega,hs.mem.kY.mono wN.I⟩
  rcases hi with hi|hi
  ·have:=(hs.mem.fu i hi).1;exact⟨by omega,(hs.mem.fu i hi).2⟩
  ·exact⟨by omega,λr z hr hV=>by have:=IQ r z hr hV;show c.ρ r≠i;omega⟩
 have IS:Rep c1 w1 (.gq f ys) (.func (.yield (w.heap.size+1)) #[] #[]):=by
  refine⟨y.ts.map λt=>a.tmps.getD t undef,.inr ⟨pV,w.heap.size+1,rec,rfl,by rw[Cp];exact .inr rfl,Tj,by rw[nh],by rw[nh],y,hy,?_⟩,?_⟩
  ·cases he
   rw[nh]
   exact⟨rfl,rfl,rfl,Nat.le_trans hn hs.size,h1,rfl⟩
  ·have:=Xc (c:=c1) (w:=w1) (ev:=cb st.env) (ρ:=a.eval) (xs:=y.ts.map Operand.tmp) (cs:=ys) (by rw[Fo,bU];exact Th) (λz hz=>Ax wN (NH hs.env z))
   rw[bU]at this
   exact this
 have Xd:kp c1 w1 (cs.map iJ.d) us:=Xe wN (Za2 Fp)
 have iU:kp c1 w1 (.gq f ys::cs.map iJ.d) (.func (.yield (w.heap.size+1)) #[] #[]::us):=⟨IS,Xd⟩
 have hlen:(D.gq f ys::cs.map iJ.d).length=(Value.func (.yield (w.heap.size+1)) #[] #[]::us).length:=by simp[Fp.length]
 have mF:=(h6 c1 w1 (IM (.func (.yield (w.heap.size+1)) #[] #[]::us)) IK (by rw[Cp];have:=hs.base;show c.base<=_;omega) (by rw[Cp];exact hs.rows) (λz hz=>by
  simp only[opsL,List.mem_map,List.mem_range]at hz
  obtain⟨i,_,rfl⟩:=hz
  exact vc iU i) (λv w'=>∃c',jJ ks c1 w1 c' w'/\(∀r,c'.R r=R'.getD r none)) λv w' c' hn hR _=>⟨c',hn,hR⟩).1 IN
 rw[xI hlen]at mF
 refine⟨w.heap.size+1,[{target:=.collected w.heap.size,args:= #[]}],w1,{target:=.fn (.func gf) us.toArray,args:= #[.func (.yield (w.heap.size+1)) #[] #[]]},w1,gf,(Value.func (.yield (w.heap.size+1)) #[] #[]::us).toArray,w1,?_,?_,?_,?_,λe=>(by cases e),?_⟩
 ·rw[GJ,IP,nh];exact run_enterLoop_outer _ _ _ _ _
 ·simp only[resolve,Ti]
  simp[go_sem]
 ·intro f' _;trivial
 ·simp only[invoke]
  rw[<-hf,dz.enters (by rw[hf];exact IN)]
  congr 2
  simp
 ·refine CallsIn.mono (callsIn_wide.2 mF) λe w3 ⟨v,he3,c3,GL,hR3⟩=>?_
  subst he3
  have IT:w3.heap[w.heap.size+1]?=some (.loop rec):=(GL.cg.I _ (by rw[Cp];exact .inr rfl)).2.trans Tj
  have Fq:=run_endLoop (P:=P) IT (by rw[nh];simp)
  have Ed:rec.pending=none:=by rw[nh]
  rw[Ed]at Fq
  refine⟨none,_,Fq,?_⟩
  have Cq:Fr (λi=>∃r z,c.R r=some z/\¬c.V r/\c.ρ r=i) w w3:=by
   have Fs:=GL.fr
   rw[Cp]at Fs
   refine⟨?_,?_,?_,by have:=Fs.size;omega,λi hi IU=>(Fs.heap i (by omega) IU).trans (GK i hi)⟩
   ·have:=Fs.os;rw[GJ,IP]at this;exact this
   ·have:=Fs.tape;rw[GJ,IP]at this;exact this
   ·have:=Fs.output;rw[GJ,IP]at this;exact this
  have hN:jJ ks c w c3 w3:=by
   refine⟨GL.mem,?_,Cq,λi hi=>?_,λr row hr hV=>?_⟩
   ·have g1:=GL.cg
    rw[Cp]at g1
    refine⟨g1.base,g1.top,λi hi=>⟨(g1.I i (.inl hi)).1,(g1.I i (.inl hi)).2.trans (GK i (hs.mem.fu i hi).1)⟩,λr row hr=>?_⟩
    obtain⟨ao,q1,q2,q3,q4,q5,q6,qV,q7⟩:=g1.R r row hr
    exact⟨ao,q1,q2,q3,q4,q5,q6,qV,λnv arr ha=>q7 nv arr ((GK _ (Array.getElem?_eq_some_iff.1 ha).1).trans ha)⟩
   ·have:=GL.fu i hi
    rw[Cp]at this
    rcases this with(g|g)|g|g
    ·exact .inl g
    ·exact .inr (.inr (by omega))
    ·exact .inr (.inl g)
    ·exact .inr (.inr (by omega))
   ·have:=GL.oy r row hr hV
    rw[Cp]at this
    rcases this with g|g|g
    ·exact .inl g
    ·exact .inr (.inl g)
    ·exact .inr (.inr (by omega))
  have Cr:mo w0.heap.size w3 ({target:=.collected w.heap.size,args:= #[]}::a.defers):=by
   obtain⟨bs,b1,b2,b3⟩:=hs.defers.step hs.mem Cq
   refine⟨w.heap.size::bs,List.nodup_cons.2 ⟨λhm=>?_,b1⟩,by rw[b2];rfl,λi hi=>?_⟩
   ·obtain⟨bs',c1',c2',c3'⟩:=hs.defers
    rw[c2']at b2
    have:bs'=bs:=by
     have:=congrArg (List.map λ(d:Deferred)=>match d.target with|.collected i=>i|_=>0) b2
     simpa[bU,Function.comp_def]using this
    subst this
    have:=(Array.getElem?_eq_some_iff.1 (c3' _ hm).2).1
    omega
   ·rcases List.mem_cons.1 hi with e|e
    ·subst e
     refine⟨hs.reach.fr.size,?_⟩
     have Fs:=GL.fr
     rw[Cp]at Fs
     exact(Fs.heap _ (by omega) fun⟨r,z,q1,q2,q3⟩=>by have:=IQ r z q1 q2;simp only at q3;omega).trans hD1
    ·exact b3 i e
  have hs3:fw N M c0 w0 c3 w3 ⟨sD ks st.env,R'⟩ {a with defers:={target:=.collected w.heap.size,args:= #[]}::a.defers}:=
   ⟨GL.mem,hR3,λt=>by rw[Ch];exact Ax hN.cg (W3 (hs.env t)),hs.size,Cr,hs.gh,hs.gy,hs.reach.step h5 hs.gy hN⟩
  refine⟨.normal,⟨sD ks st.env,R'⟩,_,rfl,hQ,hs3.NP (b:=w.heap.size+1) (o:=.loop rec) (by have:=hs.reach.fr.size;omega) IT (λ_ _ _ e=>by cases e) (Fk:=λk=>k<YB) (λk ws v hk hv=>?_) (λt k hk=>NQ oW (List.mem_append_left _ (Xf hk))) (λr z hr k hk=>NQ oW (List.mem_append_right _ (Xg (by rw[<-hR3];exact hr) hk))) ?_⟩
  ·rcases hv with hv|⟨hv,_⟩
   ·exact .inl hv
   ·exact absurd hk (Nat.not_lt.2 hv)
  ·refine Cr.to λi hi=>(World.putObj_heap_other λe=>?_).trans hi
   rw[e,IT]at hi;cases hi
def Cs (T:iM)(G:List bf)(N M:Nat)(ia:List (Nat×bn))(rf:Option Nat):Nat->Code->St->(Ex->St->Prop)->Prop
 |0,_,_,_=>False
 |d + 1,code,st,Q=>match code with
  |.rangeFunc g _ _ _=>match rf with|some f=>IL T G M f g st Q|none=>False
  |.loop c=>match GH ia (keyOf c)with
   |some i=>∃(wM:i.α->Prop) (μ:i.α->Nat),wM (i.a0 st)/\fold M (i.iL st) st (i.F st (i.a0 st)).1 (i.F st (i.a0 st)).2/\∀a:i.α,wM a->px T G N M (Cs T G N M ia rf d) c ⟨(i.F st a).1,(i.F st a).2.map some⟩ λe jx=>match e with
    |.normal=>(wM (i.next jx)/\μ (i.next jx)<μ a)/\fold M (i.ex jx) jx (i.F st (i.next jx)).1 (i.F st (i.next jx)).2
    |.exit j=>Q (.exit j) jx
    |.ret=>Q .ret jx
   |none=>False
  |_=>False
abbrev LL(T:iM)(G:List bf)(N M:Nat)(ia:List (Nat×bn)):=Cs T G N M ia none
theorem wO{P:Program}(hD:sB P){T:iM}(hT:jD P T){G:List bf}(hG:j5 P G){N M:Nat}{ia:List (Nat×bn)}{rf:Option Nat}{ro:Option Nat}(Ee:ro=none\/rf=none):∀(d:Nat) (code:Code) (st:St) (Q:Ex->St->Prop),RF rf N code->Cs T G N M ia rf d code st Q->ui ro P N M code st Q
 |0,_,_,_,_,h=>h.elim
 |d + 1,code,st,Q,nA,h=>by
  unfold Cs at h
  split at h
  ·split at h
   ·rename_i f
    rcases Ee with e|e
    ·subst e;exact NO hG nA h
    ·cases e
   ·exact h.elim
  ·rename_i c
   split at h
   ·rename_i i hi
    obtain⟨wM,μ,h2,h3,h4⟩:=h
    have hc:RF rf N c:=by
     cases rf with
     |none=>trivial
     |some f=>exact nA
    refine qag (i.F st) wM μ (i.a0 st) (i.iL st) h2 h3 λa ha=>Tr.mono (λe jx hq=>?_) (NR hD hT hG (NS rf N) (wO hD hT hG Ee d) c _ _ hc (h4 a ha))
    cases e with
    |normal=>exact⟨_,_,hq.1.1,hq.1.2,hq.2⟩
    |exit j=>exact hq
    |ret=>exact hq
   ·exact h.elim
  ·exact h.elim
def iV(R:Rows)(r j:Nat):D:=match R.getD r none with|some row=>(row.es.get 0).getD j .dead|none=>.dead
def nL(R:Rows)(r:Nat):ak:=match R.getD r none with|some row=>row.es|none=>.gen []
def mG(R:Rows)(r:Nat):List Int:=match R.getD r none with|some ⟨_,_,_,.ints _ l⟩=>l|_=>[]
def r9(k:RK)(R:Rows)(r:Nat):List (RK.T k):=match R.getD r none with|some ⟨_,_,_,.ax k' l⟩=>(match Gz k' k l with|some m=>m|none=>[])|_=>[]
def IV(k:IntKind)(R:Rows)(d:D):List Int:=match d with|.all r=>mG R r|.own r _ _=>mG R r|d=>nI k d
def kP(d:D)(n:Nat):Nat:=match d with|.all r=>r|.own r _ _=>r|.ptr r _ _=>r|.pa r _ _ _ _ _=>r|_=>n
theorem Ef{n:Int}(h1: -9223372036854775808<=n)(h2:n<=9223372036854775807):IntKind.wrap .i64 n=n:=by rw[IntKind.wrap_i64];omega
inductive pS where
 |sl (t:CT) (fr:Bool)
 |row (ty sz:Nat) (t:CT)
def GM:CT->ak
 |.ints k=>.ints k []
 |.bw=>.bw []
 |.ax k=>.ax k []
 |_=>.gen []
def CT.iP:CT->Nat
 |.ax k=>k.size
 |_=>1
def toCT:CT->ak->Option ak
 |.ints k,E=>match E.toI k with|some l=>some (.ints k l)|none=>none
 |.bw,E=>match E.toB with|some l=>some (.bw l)|none=>none
 |.ax k,E=>match E.toR k with|some l=>some (.ax k l)|none=>none
 |_,_=>none
theorem Xh(t:CT):(GM t).Nil:=by cases t<;>rfl
theorem NT{t:CT}{E E':ak}(h:toCT t E=some E'):ak.Eq E E':=by
 cases t with
 |ints k=>
  simp only[toCT]at h
  split at h
  ·rename_i l hl
   cases h
   cases E with
   |ints k' m=>
    simp only[ak.toI]at hl
    split at hl
    ·rename_i hk;cases hl;simp only[ak.Eq,hk]
    ·cases hl
   |gen es=>cases es<;>simp[ak.toI]at hl;subst hl;rfl
   |bw m=>simp[ak.toI]at hl
   |ax k m=>simp[ak.toI]at hl
  ·cases h
 |bw=>
  simp only[toCT]at h
  split at h
  ·rename_i l hl
   cases h
   cases E with
   |bw m=>simp[ak.toB]at hl;subst hl;rfl
   |gen es=>cases es<;>simp[ak.toB]at hl;subst hl;rfl
   |ints k m=>simp[ak.toB]at hl
   |ax k m=>simp[ak.toB]at hl
  ·cases h
 |ax k=>
  simp only[toCT]at h
  split at h
  ·rename_i l hl
   cases h
   cases E with
   |ax k' m=>simp only[ak.toR]at hl;simp only[ak.Eq,hl]
   |gen es=>cases es<;>simp[ak.toR]at hl;subst hl;rfl
   |ints k m=>simp[ak.toR]at hl
   |bw m=>simp[ak.toR]at hl
  ·cases h
 |_=>simp[toCT]at h
structure jQ where
 ds:List pS
 ex:List (Nat×Row)
 fz:List Nat
def wP(m:Nat):List (Nat×Nat×Nat)->Bool
 |[]=>true
 |p::l=>bJ p.1 m&&wP m l
def IW(m:Nat):List iJ->Bool
 |[]=>true
 |.ptr r _ _::l=>bJ r m&&IW m l
 |.fn _ ps::l=>wP m ps&&IW m l
 |_=>false
theorem qd{m:Nat}{EX:List Nat}(hE:∀i,i<m->EX[i]?=some i):∀{ps:List (Nat×Nat×Nat)},wP m ps=true->sR EX ps ps=true
 |[],_=>rfl
 |(r,a,b)::l,h=>by
  simp only[wP,aE]at h
  simp only[sR,kO,hE r (lE h.1),qd hE h.2]
  simp
theorem xag(hE:∀i,i<m->EX[i]?=some i):∀{cs:List iJ},IW m cs=true->py EX cs cs=true:=by
 intro cs
 induction cs with
 |nil=>intro _;rfl
 |cons x l ih=>
  intro h
  cases x with
  |ptr r a b=>
   simp only[IW,aE]at h
   simp only[py,kO,hE r (lE h.1),ih h.2]
   simp
  |fn f ps=>
   simp only[IW,aE]at h
   simp only[py,qd hE h.1,ih h.2]
   simp
  |_=>simp[IW]at h
def Tk(m:Nat)(R:Rows)(c:D)(s:jQ):Option (D×jQ):=
  match c with
  | .int k n=>some (.int k n,s)
  | .bool b=>some (.bool b,s)
  | .str x=>some (.str x,s)
  | .iO=>some (.iO,s)
  | .jP=>some (.jP,s)
  | .c9 r=>match bJ r m with|true=>some (.c9 r,s)|false=>none
  | .ptr r o f=>match bJ r m with|true=>some (.ptr r o f,s)|false=>none
  | .gq f cs=>match IW m cs with|true=>some (.gq f cs,s)|false=>none
  | .dx=>match s with
    |⟨.sl t f::ds,ex,fz⟩=>some (.sl t.iP (GM t) f,⟨ds,ex,fz⟩)
    |⟨.row ty sz t::ds,ex,fz⟩=>match bJ 0 sz with|true=>some (.all (m+ex.length),⟨ds,ex++[(R.length+ex.length,⟨false,ty,sz,GM t⟩)],fz⟩)|false=>none
    |_=>none
  | .emp=>match s with
    |⟨.sl t f::ds,ex,fz⟩=>some (.sl t.iP (GM t) f,⟨ds,ex,fz⟩)
    |⟨.row ty sz t::ds,ex,fz⟩=>match bJ 0 sz with|true=>some (.all (m+ex.length),⟨ds,ex++[(R.length+ex.length,⟨false,ty,sz,GM t⟩)],fz⟩)|false=>none
    |_=>none
  | .sl n E fr=>match s with
    | ⟨.sl t f::ds,ex,fz⟩=>match toCT t E,(!f||fr)&&(bT n t.iP||IX E) with
      |some E',true=>some (.sl t.iP E' f,⟨ds,ex,fz⟩)
      |_,_=>none
    |_=>none
  | .all r=>match s with
    | ⟨.sl t f::ds,ex,fz⟩=>match R.getD r none with
      | some ⟨box,_,kJ,E⟩=>match toCT t E,!box&&(bT kJ t.iP&&Nat.ble m r) with
        |some E',true=>some (.sl t.iP E' f,⟨ds,ex,r::fz⟩)
        |_,_=>none
      |none=>none
    | ⟨.row ty sz t::ds,ex,fz⟩=>match bJ r m with
      |true=>some (.all r,⟨ds,ex,fz⟩)
      | false=>match R.getD r none with
        | some ⟨box,j6,kJ,E⟩=>match toCT t E,!box&&(bT j6 ty&&bT kJ sz) with
          |some E',true=>some (.all (m+ex.length),⟨ds,ex++[(r,⟨false,ty,sz,E'⟩)],fz⟩)
          |_,_=>none
        |none=>none
    |_=>none
  | .own r o n=>match s with
    | ⟨.sl t f::ds,ex,fz⟩=>match R.getD r none with
      | some ⟨box,_,kJ,E⟩=>match toCT t ((E.drop o).take n),!box&&(bT kJ t.iP&&Nat.ble m r) with
        |some E',true=>some (.sl t.iP E' f,⟨ds,ex,r::fz⟩)
        |_,_=>none
      |none=>none
    |_=>none
  |_=>none
def K1(m:Nat)(R:Rows):List D->jQ->Option (List D×jQ)
 |[],s=>some ([],s)
 |c ::cs,s=>match Tk m R c s with
  |some (c',s')=>match K1 m R cs s' with
   |some (sd,IY)=>some (c'::sd,IY)
   |none=>none
  |none=>none
def Ft(m:Nat)(R:Rows)(d:D)(s:jQ):Option (D×jQ):=
 match d with
 |.agg cs=>match K1 m R cs s with|some (sd,s')=>some (.agg sd,s')|none=>none
 |d=>Tk m R d s
def sS(m:Nat)(R:Rows):List D->jQ->Option (List D×jQ)
 |[],s=>some ([],s)
 |c ::cs,s=>match Ft m R c s with
  |some (c',s')=>match sS m R cs s' with
   |some (sd,IY)=>some (c'::sd,IY)
   |none=>none
  |none=>none
def IZ(m:Nat)(R:Rows)(d:D)(s:jQ):Option (D×jQ):=
 match d with
 |.dt ds=>match sS m R ds s with|some (oB,s')=>some (.dt oB,s')|none=>none
 |d=>Ft m R d s
def K3(m:Nat)(R:Rows):Nat->Nat->jQ->Option (List Row×jQ)
 |0,_,s=>some ([],s)
 |n + 1,i,s=>match R.getD i none with
  |some ⟨true,ty,sz,.gen [e]⟩=>match K1 m R e s with
   |some (e',s')=>match K3 m R n (i+1) s' with
    |some (rs,IY)=>some (⟨true,ty,sz,.gen [e']⟩::rs,IY)
    |none=>none
   |none=>none
  |some ⟨false,ty,sz,E⟩=>match K3 m R n (i+1) s with
   |some (rs,IY)=>some (⟨false,ty,sz,E⟩::rs,IY)
   |none=>none
  |_=>none
def Fu(m:Nat)(ex:List (Nat×Row)):List Nat:=List.range m++ex.map (·.1)
def sC(m:Nat)(ds:List pS)(d:D)(R:Rows)(K:D->List Row->Prop):Prop:=
 match IZ m R d ⟨ds,[],[]⟩with
 |some (d',s)=>match K3 m R m 0 s with
  |some (rs,s')=>cv (AH m (Fu m s'.ex)&&s'.fz.all (K4 (Fu m s'.ex))) (K d' (rs++s'.ex.map (·.2)))
  |none=>False
 |none=>False
def sT(R:Rows)(x:Nat×Row):Prop:=
 x.2.box=false/\match R.getD x.1 none with
 |some ⟨AL,j6,kJ,jh⟩=>AL=false/\j6=x.2.ty/\kJ=x.2.sz/\ak.Eq jh x.2.es
 |none=>0<x.2.sz/\x.2.es.Nil
structure oC(m:Nat)(R:Rows)(EX:List Nat)(s:jQ):Prop where
 at_:∀(i:Nat) x,s.ex[i]?=some x->EX[m+i]?=some x.1
 eu:∀x∈s.ex,sT R x
 out:∀r∈s.fz,K4 EX r=true
def AM(s s':jQ):Prop:=s.ex<+:s'.ex/\s.fz<:+s'.fz
theorem AM.refl(s:jQ):AM s s:=⟨bV _,bW _⟩
theorem AM.trans{a b c:jQ}(h:AM a b)(g:AM b c):AM a c:=⟨h.1.trans g.1,h.2.trans g.2⟩
theorem xd(h:IX E=true):E.Nil:=ak.oD.2 (S3 h)
theorem Zi3{c c':D}{s s':jQ}(h:Tk m R c s=some (c',s')):
    AM s s'/\((∀x∈s.ex,sT R x)-> ∀x∈s'.ex,sT R x)/\ ∀EX:List Nat,(∀i,i<m->EX[i]? =some i)->oC m R EX s'->jy EX m R c c':=by
  have NU: ∀{ty sz t},bJ 0 sz=true->((∀x∈s.ex,sT R x)-> ∀x∈s.ex++[(R.length+s.ex.length,(⟨false,ty,sz,GM t⟩:Row))],sT R x)/\
      ∀(EX:List Nat) (ds:List pS) (fz:List Nat),oC m R EX ⟨ds,s.ex++[(R.length+s.ex.length,(⟨false,ty,sz,GM t⟩:Row))],fz⟩->I0 EX R (m+s.ex.length)=true:=by
    intro ty sz t fy
    have hn:R.getD (R.length+s.ex.length) none=none:=by rw[aK,List.getElem?_eq_none (by omega)];rfl
    refine⟨λhg x hx=> ?_,λEX ds fz hG=> ?_⟩
    . simp only[bX,bY]at hx
      rcases hx with hx|rfl
      . exact hg x hx
      . refine⟨rfl,?_⟩
        simp only[hn]
        exact⟨lE fy,Xh t⟩
    . have:=hG.at_ s.ex.length (R.length+s.ex.length,⟨false,ty,sz,GM t⟩) (by simp)
      simp only[I0,this,hn]
  cases c<;>simp only[Tk]at h<;>try(cases h;done)
  case int k n=>cases h;exact⟨.refl _,id,λEX _ _=>by simp [jy,cv]⟩
  case bool b=>cases h;exact⟨.refl _,id,λEX _ _=>by simp [jy]⟩
  case str x=>cases h;exact⟨.refl _,id,λEX _ _=>by simp [jy]⟩
  case iO=>cases h;exact⟨.refl _,id,λEX _ _=>by simp [jy]⟩
  case jP=>cases h;exact⟨.refl _,id,λEX _ _=>by simp [jy]⟩
  case c9 r=>
    split at h
    . rename_i hr
      cases h
      refine⟨.refl _,id,λEX hE _=> ?_⟩
      have:=hE r (lE hr)
      simp only[jy,db,kO,this]
      exact⟨by simp,trivial⟩
    . cases h
  case ptr r o f=>
    split at h
    . rename_i hr
      cases h
      refine⟨.refl _,id,λEX hE _=> ?_⟩
      have:=hE r (lE hr)
      simp only[jy,db,kO,this]
      exact⟨by simp,trivial⟩
    . cases h
  case gq f cs=>
    split at h
    . rename_i hr
      cases h
      refine⟨.refl _,id,λEX hE _=> ?_⟩
      simp only[jy,db,xag hE hr]
      exact⟨by simp,trivial⟩
    . cases h
  case dx=>
    split at h
    . cases h;exact⟨.refl _,id,λEX _ _=>Xh _⟩
    . split at h
      . rename_i fy
        cases h
        obtain⟨v1,v2⟩:=NU fy
        exact⟨⟨bZ _ _,bW _⟩,v1,λEX _ hG=>by simp only[jy,db];exact⟨v2 EX _ _ hG,trivial⟩⟩
      . cases h
    . cases h
  case emp=>
    split at h
    . cases h;exact⟨.refl _,id,λEX _ _=>Xh _⟩
    . split at h
      . rename_i fy
        cases h
        obtain⟨v1,v2⟩:=NU fy
        exact⟨⟨bZ _ _,bW _⟩,v1,λEX _ hG=>by simp only[jy,db];exact⟨v2 EX _ _ hG,trivial⟩⟩
      . cases h
    . cases h
  case sl n E fr=>
    split at h
    . rename_i t f ds ex fz
      split at h
      . rename_i E' hE hb
        cases h
        simp only[aE,Bool.or_eq_true]at hb
        refine⟨.refl _,id,λEX _ _=> ?_⟩
        simp only[jy,db]
        exact⟨by simpa using hb.1,hb.2.symm.imp xd bE,NT hE⟩
      . cases h
    . cases h
  case all r =>
    split at h
    . rename_i t f ds ex fz
      split at h
      . rename_i box ty kJ E hR
        split at h
        . rename_i E' hE hb
          cases h
          simp only[aE]at hb
          refine⟨⟨bV _,cA _ _⟩,id,λEX _ hG=> ?_⟩
          simp only[jy,hR,db,aE]
          exact⟨⟨⟨⟨hb.1,hb.2.1⟩,hG.out r (by simp)⟩,hb.2.2⟩,NT hE⟩
        . cases h
      . cases h
    . rename_i ty sz t ds ex fz
      split at h
      . rename_i bz
        cases h
        refine⟨.refl _,id,λEX pZ hG=> ?_⟩
        simp only[jy,db]
        have:=pZ r (lE bz)
        exact⟨by simp [kO,this],trivial⟩
      . split at h
        . rename_i box j6 kJ E hR
          split at h
          . rename_i E' hE hb
            cases h
            simp only[aE,Bool.not_eq_true']at hb
            refine⟨⟨bZ _ _,bW _⟩,λhg x hx=> ?_,λEX pZ hG=> ?_⟩
            . simp only[bX,bY]at hx
              rcases hx with hx|rfl
              . exact hg x hx
              . refine⟨rfl,?_⟩
                simp only[hR]
                exact⟨hb.1,bE hb.2.1,bE hb.2.2,NT hE⟩
            . have:=hG.at_ ex.length (r,⟨false,ty,sz,E'⟩) (by simp)
              simp only[jy,db]
              exact⟨by simp [kO,this],trivial⟩
          . cases h
        . cases h
    . cases h
  case own r o n=>
    split at h
    . rename_i t f ds ex fz
      split at h
      . rename_i box ty kJ E hR
        split at h
        . rename_i E' hE hb
          cases h
          simp only[aE]at hb
          refine⟨⟨bV _,cA _ _⟩,id,λEX _ hG=> ?_⟩
          simp only[jy,hR,db,aE]
          exact⟨⟨⟨⟨hb.1,hb.2.1⟩,hG.out r (by simp)⟩,hb.2.2⟩,NT hE⟩
        . cases h
      . cases h
    . cases h
theorem oC.mono{s s':jQ}(hl:AM s s')(h:oC m R EX s'):oC m R EX s:=
 ⟨λi x hx=>h.at_ i x (by
  obtain⟨t,ht⟩:=hl.1
  rw[<-ht,aZ (List.getElem?_eq_some_iff.1 hx).1];exact hx),λx hx=>h.eu x (hl.1.subset hx),λr hr=>h.out r (hl.2.subset hr)⟩
theorem Xi{m:Nat}{R:Rows}:∀{cs sd:List D} {s s':jQ},K1 m R cs s=some (sd,s')->
 AM s s'/\((∀x∈s.ex,sT R x)->∀x∈s'.ex,sT R x)/\∀EX:List Nat,(∀i,i<m->EX[i]?=some i)->oC m R EX s'->Fv EX m R cs sd
 |[],sd,s,s',h=>by simp only[K1]at h;cases h;exact⟨.refl _,id,λ_ _ _=>trivial⟩
 |c ::cs,sd,s,s',h=>by
  simp only[K1]at h
  split at h
  ·rename_i c1 s1 h1
   split at h
   ·rename_i cs1 s2 h2
    cases h
    obtain⟨a1,a2,a3⟩:=Zi3 h1
    obtain⟨b1,b2,b3⟩:=Xi h2
    exact⟨a1.trans b1,λh=>b2 (a2 h),λEX pZ hG=>⟨a3 EX pZ (hG.mono b1),b3 EX pZ hG⟩⟩
   ·cases h
  ·cases h
theorem zd{s s':jQ}(h:Ft m R d s=some (d',s')):
 AM s s'/\((∀x∈s.ex,sT R x)->∀x∈s'.ex,sT R x)/\∀EX:List Nat,(∀i,i<m->EX[i]?=some i)->oC m R EX s'->rD EX m R d d':=by
 unfold Ft at h
 split at h
 ·rename_i cs
  split at h
  ·rename_i sd s1 h1
   cases h
   exact Xi h1
  ·cases h
 ·rename_i gv
  obtain⟨a1,a2,a3⟩:=Zi3 h
  refine⟨a1,a2,λEX pZ hG=>?_⟩
  have h3:=a3 EX pZ hG
  cases d' with
  |agg ps=>simp[jy]at h3
  |_=>exact h3
theorem Zpj{m:Nat}{R:Rows}:∀{cs sd:List D} {s s':jQ},sS m R cs s=some (sd,s')->
 AM s s'/\((∀x∈s.ex,sT R x)->∀x∈s'.ex,sT R x)/\∀EX:List Nat,(∀i,i<m->EX[i]?=some i)->oC m R EX s'->wQ EX m R cs sd
 |[],sd,s,s',h=>by simp only[sS]at h;cases h;exact⟨.refl _,id,λ_ _ _=>trivial⟩
 |c ::cs,sd,s,s',h=>by
  simp only[sS]at h
  split at h
  ·rename_i c1 s1 h1
   split at h
   ·rename_i cs1 s2 h2
    cases h
    obtain⟨a1,a2,a3⟩:=zd h1
    obtain⟨b1,b2,b3⟩:=Zpj h2
    exact⟨a1.trans b1,λh=>b2 (a2 h),λEX pZ hG=>⟨a3 EX pZ (hG.mono b1),b3 EX pZ hG⟩⟩
   ·cases h
  ·cases h
theorem qah{s s':jQ}(h:IZ m R d s=some (d',s')):
 AM s s'/\((∀x∈s.ex,sT R x)->∀x∈s'.ex,sT R x)/\∀EX:List Nat,(∀i,i<m->EX[i]?=some i)->oC m R EX s'->AG EX m R d d':=by
 unfold IZ at h
 split at h
 ·rename_i cs
  split at h
  ·rename_i sd s1 h1
   cases h
   exact Zpj h1
  ·cases h
 ·rename_i gv
  obtain⟨a1,a2,a3⟩:=zd h
  refine⟨a1,a2,λEX pZ hG=>?_⟩
  have h3:=a3 EX pZ hG
  cases d' with
  |dt ps=>simp[rD,jy]at h3
  |_=>exact h3
theorem Xj{m:Nat}{R:Rows}:∀{n i:Nat} {rs:List Row} {s s':jQ},K3 m R n i s=some (rs,s')->
 AM s s'/\((∀x∈s.ex,sT R x)->∀x∈s'.ex,sT R x)/\∀EX:List Nat,(∀i,i<m->EX[i]?=some i)->oC m R EX s'->nk EX m R (bK i n) rs
 |0,i,rs,s,s',h=>by simp only[K3]at h;cases h;exact⟨.refl _,id,λ_ _ _=>trivial⟩
 |n + 1,i,rs,s,s',h=>by
  simp only[K3]at h
  split at h
  ·rename_i ty sz e hR
   split at h
   ·rename_i e1 s1 h1
    split at h
    ·rename_i rs1 s2 h2
     cases h
     obtain⟨a1,a2,a3⟩:=Xi h1
     obtain⟨b1,b2,b3⟩:=Xj h2
     refine⟨a1.trans b1,λh=>b2 (a2 h),λEX pZ hG=>?_⟩
     rw[cB]
     simp only[nk,hR,db]
     exact⟨⟨by simp,a3 EX pZ (hG.mono b1)⟩,b3 EX pZ hG⟩
    ·cases h
   ·cases h
  ·rename_i ty sz E hR
   split at h
   ·rename_i rs1 s2 h2
    cases h
    obtain⟨b1,b2,b3⟩:=Xj h2
    refine⟨b1,b2,λEX pZ hG=>?_⟩
    rw[cB]
    simp only[nk,hR,db]
    refine⟨⟨by simp,?_⟩,b3 EX pZ hG⟩
    cases E with
    |gen es=>cases es<;>simp[ak.Eq]
    |ax k l=>simp[ak.Eq,Zbt]
    |_=>simp[ak.Eq]
   ·cases h
  ·cases h
theorem Qsp{ex:List Nat}{m:Nat}{R:Rows}:∀{l1 l2:List Nat} {p1 p2:List Row},nk ex m R l1 p1->nk ex m R l2 p2->nk ex m R (l1++l2) (p1++p2)
 |[],l2,[],p2,_,h=>h
 |r::l1,l2,p::p1,p2,h1,h2=>by
  simp only[List.cons_append,nk]at h1⊢
  exact⟨h1.1,Qsp h1.2 h2⟩
 |[],_,_::_,_,h,_=>h.elim
 |_::_,_,[],_,h,_=>h.elim
theorem Zad{ex:List Nat}{m:Nat}{R:Rows}:∀{l:List (Nat×Row)},(∀x∈l,sT R x)->nk ex m R (l.map (·.1)) (l.map (·.2))
 |[],_=>trivial
 |(r,⟨box,ty,sz,es⟩)::l,h=>by
  simp only[List.map_cons,nk]
  refine⟨?_,Zad λx hx=>h x (by simp[hx])⟩
  obtain⟨h1,h2⟩:=h (r,⟨box,ty,sz,es⟩) (by simp)
  simp only at h1 h2
  subst h1
  split
  ·rename_i AL j6 kJ jh hR
   simp only[hR]at h2
   obtain⟨rfl,rfl,rfl,h2⟩:=h2
   simp only[db]
   exact⟨by simp,h2⟩
  ·rename_i hR
   simp only[hR]at h2
   simp only[db]
   exact⟨by simpa using h2.1,h2.2⟩
theorem Zal{ds:List pS}{K:D->List Row->Prop}(h:sC m ds d R K):∃res rows,K res rows/\AN m res rows d R:=by
 unfold sC at h
 split at h
 ·rename_i d' s h1
  split at h
  ·rename_i rs s' h2
   simp only[db,aE]at h
   obtain⟨⟨hx,hf⟩,hK⟩:=h
   obtain⟨a1,a2,a3⟩:=qah h1
   obtain⟨b1,b2,b3⟩:=Xj h2
   have GN:∀x∈s'.ex,sT R x:=b2 (a2 λx hx=>by simp at hx)
   have pZ:∀i,i<m->(Fu m s'.ex)[i]?=some i:=λi hi=>by
    unfold Fu
    rw[aZ (by simpa using hi)];simp[hi]
   have hG:oC m R (Fu m s'.ex) s':=⟨λi x hx=>by
    unfold Fu
    rw[List.getElem?_append_right (by simp)]
    simp[hx],GN,λr hr=>List.all_eq_true.1 hf r hr⟩
   refine⟨d',_,hK,Fu m s'.ex,hx,a3 _ pZ (hG.mono b1),?_⟩
   have h3:=b3 _ pZ hG
   have:Fu m s'.ex=bK 0 m++s'.ex.map (·.1):=by unfold Fu;rw[List.range_eq_range']
   refine Eq.mpr ?_ (Qsp h3 (Zad GN))
   rw[<-this]
  ·exact h.elim
 ·exact h.elim

import Derived.Test.YthjfindbamdacaaGreatDoorAuditComparesDraw
import Derived.IntWalk
open List renaming getD->aK,ext_getElem->bN,map_map->bU,prefix_refl->bV,suffix_refl->bW,mem_append->bX,mem_singleton->bY,prefix_append->bZ,suffix_cons->cA,getElem?_append_left->aZ,range'->bK,range'_succ->cB
open Nat renaming beq->bT,blt->bJ
set_option linter.all false
namespace Go.GD
open Go
def rV(ex:List Nat)(M:Nat)(R:Rows)(d p:D):Prop:=
 match p with
 |.dead=>True
 |.ptr i o f=>match d with|.ptr r o' f'=>cg (ky ex i r) (o'=o/\f'=f)|_=>False
 |.ig sz es i off=>match d with|.ig ka iW i' iK=>ka=sz/\ak.Eq iW es/\i'=i/\iK=off|_=>False
 |p=>wY ex M R d p
def Bz(ex:List Nat)(M:Nat)(R:Rows)(env:List (Nat×D)):List (Nat×D)->Prop
 |[]=>True
 |(t,p)::l=>rV ex M R (look env t) p/\Bz ex M R env l
def fold(M:Nat)(ex:List Nat)(st:St)(lN:List (Nat×D))(ai:List Row):Prop:=
 cg (wZ M ex) (Bz ex M st.rows st.env lN/\mz ex M st.rows ex ai)
theorem xc{c:Ctx}{w:World}{ex:List Nat}{m:Nat}{R:Rows}{rows:List Row}(hm:Mem c w)(hR:∀r,c.R r=R.getD r none)(cv:mz ex m R ex rows)(ey:∀r row,c.R r=some row->¬c.V r->m<=r->c.base<=c.ρ r){d p:D}{v:Value}(h:rV ex m R d p)(hr:Rep c w d v):Rep (c.out ex rows) w p v:=by
 have nj:∀b,c.I b->(c.out ex rows).I b/\w.heap[b]?=w.heap[b]? :=λb hb=>⟨.inl hb,rfl⟩
 cases p with
 |dead=>trivial
 |ptr i o f=>
  simp only[rV]at h
  split at h
  ·rename_i r o' f'
   simp only[c7]at h
   obtain⟨hx,rfl,rfl⟩:=h
   exact RV (w:=w) hR cv hx hr
  ·exact h.elim
 |ig sz es i off=>
  simp only[rV]at h
  split at h
  ·obtain⟨rfl,he,rfl,rfl⟩:=h
   have he:=ak.w4 he
   obtain⟨b,o,arr,ty,fz,h1,h2,h3,h4,h5⟩:=hr
   rw[he]at h3 h5
   exact⟨b,o,arr,ty,fz,h1,.inl h2,h3,h4,nP nj _ _ _ _ h5⟩
  ·exact h.elim
 |_=>
  simp only[rV]at h
  exact RW hm hR cv ey h hr
theorem Zdh{c:Ctx}{w:World}{ex:List Nat}{m:Nat}{R:Rows}{rows:List Row}(hm:Mem c w)(hR:∀r,c.R r=R.getD r none)(cv:mz ex m R ex rows)(ey:∀r row,c.R r=some row->¬c.V r->m<=r->c.base<=c.ρ r){env:List (Nat×D)}{a:Act}(he:∀t,Rep c w (look env t) (a.tmps.getD t undef)):
 ∀{lN:List (Nat×D)},Bz ex m R env lN->∀t,Rep (c.out ex rows) w (look lN t) (a.tmps.getD t undef)
 |[],_,t=>trivial
 |(u,p)::l,h,t=>by
  have:=Zdh hm hR cv ey he h.2 t
  rw[AJ]
  split
  ·rename_i e
   subst e
   exact xc hm hR cv ey h.1 (he u)
  ·exact this
theorem zc{N M:Nat}{c0:Ctx}{w0:World}{c:Ctx}{w:World}{st:St}{a:Act}(hs:fk N M c0 w0 c w st a){ex:List Nat}{lN:List (Nat×D)}{ai:List Row}(h:fold M ex st lN ai):∃c',fk N M c0 w0 c' w ⟨lN,ai.map some⟩ a:=by
 unfold fold at h
 simp only[c7]at h
 obtain⟨hex,hE,cv⟩:=h
 obtain⟨ey,gl,fu⟩:=RX hs hex cv
 refine⟨c.out ex ai,gl,λr=>?_,Zdh hs.mem hs.rows cv ey hs.env hE,hs.size,hs.defers,hs.fw,hs.gk,fu⟩
 simp only[Ctx.out,aK,List.getElem?_map]
 cases ai[r]? <;>rfl
theorem Tr.mono{ro:Option Nat}{P:Program}{N M:Nat}{code:Code}{st:St}{Q Q':Ex->St->Prop}(hq:∀e st,Q e st->Q' e st)(h:tz ro P N M code st Q):tz ro P N M code st Q':=
 λc0 w0 c w a hs=>wpIn_mono (h c0 w0 c w a hs) λe a' w' ⟨ex,jn,c',h1,h2,h3⟩=>⟨ex,jn,c',h1,hq _ _ h2,h3⟩
theorem xab{ro:Option Nat}{P:Program}{N M:Nat}{code:Code}{st:St}{Q:Ex->St->Prop}{α:Type}(F:α->List (Nat×D)×List Row)(uV:α->Prop)(μ:α->Nat)
 (a0:α) (ji:List Nat) (hp:uV a0) (h0:fold M ji st (F a0).1 (F a0).2)
 (round:∀a,uV a->tz ro P N M code ⟨(F a).1,(F a).2.map some⟩ λe jn=>match e with
  |.normal=>∃b ex,uV b/\μ b<μ a/\fold M ex jn (F b).1 (F b).2
  |.exit i=>Q (.exit i) jn
  |.ret=>Q .ret jn):tz ro P N M (.loop code) st Q:=by
 intro c0 w0 c w a hs
 have key:∀(n:Nat) (x:α),uV x->μ x<n->∀(c:Ctx) (w:World) (a:Act),fk N M c0 w0 c w ⟨(F x).1,(F x).2.map some⟩ a->
  Code.roundsIn (AM ro) 0 P code (λe a' w'=>∃ex jn c',mu e=some ex/\Q ex jn/\fk N M c0 w0 c' w' jn a') n a w:=by
  intro n
  induction n with
  |zero=>intro x _ h;omega
  |succ n ih=>
   intro x hx cj c w a hs
   rw[roundsIn_succ]
   refine wpIn_mono (round x hx c0 w0 c w a hs) λe a' w' hq=>?_
   obtain⟨ex,jn,c',he,hq,jd⟩:=hq
   cases e<;>simp only[mu,Option.some.injEq,reduceCtorEq]at he
   ·subst he
    obtain⟨b,ex,h1,h2,h3⟩:=hq
    obtain⟨RY,VH⟩:=zc jd h3
    exact ih b h1 (by omega) RY w' a' VH
   ·subst he;exact⟨_,jn,c',rfl,hq,jd⟩
   ·subst he;exact⟨_,jn,c',rfl,hq,jd⟩
 obtain⟨c',jd⟩:=zc hs h0
 exact wpIn_loop_rounds _ (key (μ a0+1) a0 hp (by omega) c' w a jd)
structure bw where
 α:Type
 F:St->α->List (Nat×D)×List Row
 a0:St->α
 ji:St->List Nat
 next:St->α:=a0
 ex:St->List Nat:=ji
structure Ask(p:Prop):Prop where
 ok:p
def keyOf:Code->Nat
 |.region id _ _=>id
 |.block id _=>id
 |.seq a _=>keyOf a
 |.loop a=>keyOf a
 |_=>0
def FJ:List (Nat×bw)->Nat->Option bw
 |[],_=>none
 |(k,i)::l,n=>match bT k n with|true=>some i|false=>FJ l n
def HS(T:ff)(G:List ba)(M f:Nat)(g:Operand)(st:St)(Q:Ex->St->Prop):Prop:=
 match bo st.env g with
 |.gb gf cs=>match J2 ((yTs f).map (look st.env)),oJ G gf with
  |some ys,some k=>HQ T ys st.env st.rows λR=>cg (bJ gf YB)<|HJ G M gf k (.gb f ys::cs.map ij.d) R λks _ R=>FK ks st.env λenv=>cg (rW (w5 env++FL R)) (Q .normal ⟨env,R⟩)
  |_,_=>False
 |_=>False
def evL(ds:List D):Operand->D|.tmp i=>ds.getD i .dead|_=>.dead
def opsL(n:Nat):List Operand:=(List.range n).map Operand.tmp
theorem qac{ds:List D}:(opsL ds.length).map (evL ds)=ds:=by
 refine bN (by simp[opsL]) λi h1 h2=>?_
 simp[opsL,evL,aK,h2]
def HT(vs:List Value):Operand->Value|.tmp i=>vs.getD i undef|_=>undef
theorem yE{vs:List Value}{n:Nat}(h:n=vs.length):(opsL n).map (HT vs)=vs:=by
 subst h
 refine bN (by simp[opsL]) λi h1 h2=>?_
 simp[opsL,HT,aK,h2]
theorem yc{c:Ctx}{w:World}:∀{ds:List D} {vs:List Value},jY c w ds vs->∀i,Rep c w (ds.getD i .dead) (vs.getD i undef)
 |[],[],_,i=>by simp[aK];trivial
 |d::ds,v::vs,h,0=>by simpa using h.1.toRep
 |d::ds,v::vs,h,i+1=>by simpa using yc h.2 i
 |[],_::_,h,_=>h.elim
 |_::_,[],h,_=>h.elim
theorem Z7y{c:Ctx}{w:World}:∀{cs:List ij} {us:List Value},oz c w cs us->jY c w (cs.map ij.d) us
 |[],[],_=>trivial
 |x::cs,u::us,h=>⟨VRep.Ed (Vu.1 h.1),Z7y h.2⟩
 |[],_::_,h=>h.elim
 |_::_,[],h=>h.elim
theorem MH{P:Program}{G:List ba}(hG:jO P G){N M f:Nat}{g:Operand}{ps:Array Tmp}{x b:Code}(mQ:RF (some f) N (.rangeFunc g ps x b)){st:St}{Q:Ex->St->Prop}{T:ff}(h:HS T G M f g st Q):Tr P N M (.rangeFunc g ps x b) st Q:=by
 intro c0 w0 c w a hs
 obtain⟨y,⟨hy,hn,Eh,pk,h1⟩,he⟩:=mQ
 unfold HS at h
 split at h
 rotate_left
 ·exact h.elim
 rename_i gf cs hg
 split at h
 rotate_left
 ·exact h.elim
 rename_i ys k RZ lz
 obtain⟨R0,c,h,hs⟩:=FI h hs
 simp only[c7]at h
 obtain⟨HU,h⟩:=h
 have HU:=lE HU
 rw[<-qac (ds:=.gb f ys::cs.map ij.d)]at h
 obtain⟨ks,val,R',X,h2,h3,h4,h5,h6⟩:=Vw hG lz h
 obtain⟨dr,hf⟩:=FE hG h3
 rw[HK]at h2
 obtain⟨oy,hQ⟩:=h2
 have R3:Rep c w (bo st.env g) (a.eval g):=Mz hs.env g
 rw[hg]at R3
 obtain⟨us,⟨_,R3⟩|⟨VI,_⟩,Ei⟩:=R3
 rotate_left
 ·exact absurd HU (Nat.not_lt.2 VI)
 refine wpIn_rangeFunc λfn _=>?_
 obtain⟨rec,mw⟩:∃rec:Loop,rec={state:=.ready,pending:=none,fn,tmps:=a.tmps,params:=ps,assign:=x,body:=b,defers:=w.heap.size}:=⟨_,rfl⟩
 obtain⟨wd,HV⟩:∃wd,wd=w.alloc (.deferred (some [])):=⟨_,rfl⟩
 obtain⟨w1,FM⟩:∃w1,w1=wd.alloc (.loop rec):=⟨_,rfl⟩
 have hsd:wd.heap.size=w.heap.size+1:=by rw[HV];simp
 have mg:w1.heap.size=w.heap.size+2:=by rw[FM];simp[hsd]
 have R4:w1.heap[w.heap.size+1]?=some (.loop rec):=by rw[FM,<-hsd];exact World.alloc_heap_new wd _
 have hD1:w1.heap[w.heap.size]?=some (.deferred (some [])):=by
  rw[FM];refine(w6 wd _ _ (by omega)).trans ?_;rw[HV];exact World.alloc_heap_new w _
 have FN:∀i,i<w.heap.size->w1.heap[i]?=w.heap[i]? :=λi hi=>by
  rw[FM];refine(w6 wd _ _ (by omega)).trans ?_;rw[HV];exact w6 w _ _ hi
 obtain⟨c1,BA⟩:∃c1:Ctx,c1={c with I:=λi=>c.I i\/i=w.heap.size+1}:=⟨_,rfl⟩
 have uW:jf c w c1 w1:=by
  rw[BA]
  exact⟨rfl,Nat.le_refl _,λi hi=>⟨.inl hi,FN i (hs.mem.fh i hi).1⟩,λr z hr=>⟨z,hr,rfl,rfl,rfl,rfl,rfl,Iff.rfl,λhV arr ha=>⟨arr,(FN _ (Array.getElem?_eq_some_iff.1 ha).1).trans ha,rfl⟩⟩⟩
 have HW:∀r z,c.R r=some z->¬c.V r->c.ρ r<w.heap.size:=λr z hr hV=>by
  rcases hs.mem.row r z hr with h|⟨_,arr,h,_⟩
  ·exact(hV h.1).elim
  ·exact(Array.getElem?_eq_some_iff.1 h).1
 have HR:Mem c1 w1:=by
  have uW:=uW
  rw[BA]at uW⊢
  refine⟨λr z hr=>tC uW rfl Iff.rfl (λnv=>FN _ (HW r z hr nv)) (hs.mem.row r z hr),hs.mem.inj,λi hi=>?_,by have:=hs.mem.top;show c.top<=_;omega,hs.mem.kC.mono uW.I⟩
  rcases hi with hi|hi
  ·have:=(hs.mem.fh i hi).1;exact⟨by omega,(hs.mem.fh i hi).2⟩
  ·exact⟨by omega,λr z hr hV=>by have:=HW r z hr hV;show c.ρ r≠i;omega⟩
 have HX:Rep c1 w1 (.gb f ys) (.func (.yield (w.heap.size+1)) #[] #[]):=by
  refine⟨y.ts.map λt=>a.tmps.getD t undef,.inr ⟨pk,w.heap.size+1,rec,rfl,by rw[BA];exact .inr rfl,R4,by rw[mw],by rw[mw],y,hy,?_⟩,?_⟩
  ·cases he
   rw[mw]
   exact⟨rfl,rfl,rfl,Nat.le_trans hn hs.size,h1,rfl⟩
  ·have:=VJ (c:=c1) (w:=w1) (ev:=bo st.env) (ρ:=a.eval) (xs:=y.ts.map Operand.tmp) (cs:=ys) (by rw[Eh,bU];exact RZ) (λz hz=>wQ uW (Mz hs.env z))
   rw[bU]at this
   exact this
 have VK:jY c1 w1 (cs.map ij.d) us:=VL uW (Z7y Ei)
 have iL:jY c1 w1 (.gb f ys::cs.map ij.d) (.func (.yield (w.heap.size+1)) #[] #[]::us):=⟨HX,VK⟩
 have hlen:(D.gb f ys::cs.map ij.d).length=(Value.func (.yield (w.heap.size+1)) #[] #[]::us).length:=by simp[Ei.length]
 have lP:=(h6 c1 w1 (HT (.func (.yield (w.heap.size+1)) #[] #[]::us)) HR (by rw[BA];have:=hs.base;show c.base<=_;omega) (by rw[BA];exact hs.rows) (λz hz=>by
  simp only[opsL,List.mem_map,List.mem_range]at hz
  obtain⟨i,_,rfl⟩:=hz
  exact yc iL i) (λv w'=>∃c',jA ks c1 w1 c' w'/\(∀r,c'.R r=R'.getD r none)) λv w' c' hn hR _=>⟨c',hn,hR⟩).1 HU
 rw[yE hlen]at lP
 refine⟨w.heap.size+1,[{target:=.collected w.heap.size,args:= #[]}],w1,{target:=.fn (.func gf) us.toArray,args:= #[.func (.yield (w.heap.size+1)) #[] #[]]},w1,gf,(Value.func (.yield (w.heap.size+1)) #[] #[]::us).toArray,w1,?_,?_,?_,?_,λe=>(by cases e),?_⟩
 ·rw[FM,HV,mw];exact run_enterLoop_outer _ _ _ _ _
 ·simp only[resolve,R3]
  simp[go_sem]
 ·intro f' _;trivial
 ·simp only[invoke]
  rw[<-hf,dr.enters (by rw[hf];exact HU)]
  congr 2
  simp
 ·refine CallsIn.mono (callsIn_wide.2 lP) λe w3 ⟨v,he3,c3,FO,hR3⟩=>?_
  subst he3
  have HY:w3.heap[w.heap.size+1]?=some (.loop rec):=(FO.bz.I _ (by rw[BA];exact .inr rfl)).2.trans R4
  have Ej:=run_endLoop (P:=P) HY (by rw[mw];simp)
  have Di:rec.pending=none:=by rw[mw]
  rw[Di]at Ej
  refine⟨none,_,Ej,?_⟩
  have BB:Fr (λi=>∃r z,c.R r=some z/\¬c.V r/\c.ρ r=i) w w3:=by
   have Ek:=FO.fr
   rw[BA]at Ek
   refine⟨?_,?_,?_,by have:=Ek.size;omega,λi hi HZ=>(Ek.heap i (by omega) HZ).trans (FN i hi)⟩
   ·have:=Ek.os;rw[FM,HV]at this;exact this
   ·have:=Ek.tape;rw[FM,HV]at this;exact this
   ·have:=Ek.output;rw[FM,HV]at this;exact this
  have hN:jA ks c w c3 w3:=by
   refine⟨FO.mem,?_,BB,λi hi=>?_,λr row hr hV=>?_⟩
   ·have g1:=FO.bz
    rw[BA]at g1
    refine⟨g1.base,g1.top,λi hi=>⟨(g1.I i (.inl hi)).1,(g1.I i (.inl hi)).2.trans (FN i (hs.mem.fh i hi).1)⟩,λr row hr=>?_⟩
    obtain⟨ao,q1,q2,q3,q4,q5,q6,qV,q7⟩:=g1.R r row hr
    exact⟨ao,q1,q2,q3,q4,q5,q6,qV,λnv arr ha=>q7 nv arr ((FN _ (Array.getElem?_eq_some_iff.1 ha).1).trans ha)⟩
   ·have:=FO.fh i hi
    rw[BA]at this
    rcases this with(g|g)|g|g
    ·exact .inl g
    ·exact .inr (.inr (by omega))
    ·exact .inr (.inl g)
    ·exact .inr (.inr (by omega))
   ·have:=FO.nS r row hr hV
    rw[BA]at this
    rcases this with g|g|g
    ·exact .inl g
    ·exact .inr (.inl g)
    ·exact .inr (.inr (by omega))
  have BC:lG w0.heap.size w3 ({target:=.collected w.heap.size,args:= #[]}::a.defers):=by
   obtain⟨bs,b1,b2,b3⟩:=hs.defers.step hs.mem BB
   refine⟨w.heap.size::bs,List.nodup_cons.2 ⟨λhm=>?_,b1⟩,by rw[b2];rfl,λi hi=>?_⟩
   ·obtain⟨bs',c1',c2',c3'⟩:=hs.defers
    rw[c2']at b2
    have:bs'=bs:=by
     have:=congrArg (List.map λ(d:Deferred)=>match d.target with|.collected i=>i|_=>0) b2
     simpa[bU,Function.comp_def]using this
    subst this
    have:=(Array.getElem?_eq_some_iff.1 (c3' _ hm).2).1
    omega
   ·rcases List.mem_cons.1 hi with e|e
    ·subst e
     refine⟨hs.reach.fr.size,?_⟩
     have Ek:=FO.fr
     rw[BA]at Ek
     exact(Ek.heap _ (by omega) fun⟨r,z,q1,q2,q3⟩=>by have:=HW r z q1 q2;simp only at q3;omega).trans hD1
    ·exact b3 i e
  have hs3:fk N M c0 w0 c3 w3 ⟨rH ks st.env,R'⟩ {a with defers:={target:=.collected w.heap.size,args:= #[]}::a.defers}:=
   ⟨FO.mem,hR3,λt=>by rw[Bu];exact wQ hN.bz (VA (hs.env t)),hs.size,BC,hs.fw,hs.gk,hs.reach.step h5 hs.gk hN⟩
  refine⟨.normal,⟨rH ks st.env,R'⟩,_,rfl,hQ,hs3.MI (b:=w.heap.size+1) (o:=.loop rec) (by have:=hs.reach.fr.size;omega) HY (λ_ _ _ e=>by cases e) (Fk:=λk=>k<YB) (λk ws v hk hv=>?_) (λt k hk=>MJ oy (List.mem_append_left _ (VM hk))) (λr z hr k hk=>MJ oy (List.mem_append_right _ (VN (by rw[<-hR3];exact hr) hk))) ?_⟩
  ·rcases hv with hv|⟨hv,_⟩
   ·exact .inl hv
   ·exact absurd hk (Nat.not_lt.2 hv)
  ·refine BC.to λi hi=>(World.putObj_heap_other λe=>?_).trans hi
   rw[e,HY]at hi;cases hi
def BD (T:ff)(G:List ba)(N M:Nat)(gn:List (Nat×bw))(rf:Option Nat):Nat->Code->St->(Ex->St->Prop)->Prop
 |0,_,_,_=>False
 |d + 1,code,st,Q=>match code with
  |.rangeFunc g _ _ _=>match rf with|some f=>HS T G M f g st Q|none=>False
  |.loop c=>match FJ gn (keyOf c)with
   |some i=>∃(uV:i.α->Prop) (μ:i.α->Nat),uV (i.a0 st)/\fold M (i.ji st) st (i.F st (i.a0 st)).1 (i.F st (i.a0 st)).2/\∀a:i.α,uV a->oO T G N M (BD T G N M gn rf d) c ⟨(i.F st a).1,(i.F st a).2.map some⟩ λe jn=>match e with
    |.normal=>(uV (i.next jn)/\μ (i.next jn)<μ a)/\fold M (i.ex jn) jn (i.F st (i.next jn)).1 (i.F st (i.next jn)).2
    |.exit j=>Q (.exit j) jn
    |.ret=>Q .ret jn
   |none=>False
  |_=>False
abbrev LL(T:ff)(G:List ba)(N M:Nat)(gn:List (Nat×bw)):=BD T G N M gn none
theorem uX{P:Program}(hD:rF P){T:ff}(hT:jt P T){G:List ba}(hG:jO P G){N M:Nat}{gn:List (Nat×bw)}{rf:Option Nat}{ro:Option Nat}(Dj:ro=none\/rf=none):∀(d:Nat) (code:Code) (st:St) (Q:Ex->St->Prop),RF rf N code->BD T G N M gn rf d code st Q->tz ro P N M code st Q
 |0,_,_,_,_,h=>h.elim
 |d + 1,code,st,Q,mQ,h=>by
  unfold BD at h
  split at h
  ·split at h
   ·rename_i f
    rcases Dj with e|e
    ·subst e;exact MH hG mQ h
    ·cases e
   ·exact h.elim
  ·rename_i c
   split at h
   ·rename_i i hi
    obtain⟨uV,μ,h2,h3,h4⟩:=h
    have hc:RF rf N c:=by
     cases rf with
     |none=>trivial
     |some f=>exact mQ
    refine xab (i.F st) uV μ (i.a0 st) (i.ji st) h2 h3 λa ha=>Tr.mono (λe jn hq=>?_) (MK hD hT hG (ML rf N) (uX hD hT hG Dj d) c _ _ hc (h4 a ha))
    cases e with
    |normal=>exact⟨_,_,hq.1.1,hq.1.2,hq.2⟩
    |exit j=>exact hq
    |ret=>exact hq
   ·exact h.elim
  ·exact h.elim
def iM(R:Rows)(r j:Nat):D:=match R.getD r none with|some row=>(row.es.get 0).getD j .dead|none=>.dead
def nW(R:Rows)(r:Nat):ak:=match R.getD r none with|some row=>row.es|none=>.gen []
def rY(R:Rows)(r:Nat):List Int:=match R.getD r none with|some ⟨_,_,_,.ints _ l⟩=>l|_=>[]
def Qf(k:RK)(R:Rows)(r:Nat):List (RK.T k):=match R.getD r none with|some ⟨_,_,_,.bc k' l⟩=>(match FB k' k l with|some m=>m|none=>[])|_=>[]
def H0(k:IntKind)(R:Rows)(d:D):List Int:=match d with|.all r=>rY R r|.own r _ _=>rY R r|d=>ng k d
def sZ(d:D)(n:Nat):Nat:=match d with|.all r=>r|.own r _ _=>r|.ptr r _ _=>r|.pa r _ _ _ _ _=>r|_=>n
theorem Dk{n:Int}(h1: -9223372036854775808<=n)(h2:n<=9223372036854775807):IntKind.wrap .i64 n=n:=by rw[IntKind.wrap_i64];omega
inductive oG where
 |sl (t:CT) (fr:Bool)
 |row (ty sz:Nat) (t:CT)
def FP:CT->ak
 |.ints k=>.ints k []
 |.bn=>.bn []
 |.bc k=>.bc k []
 |_=>.gen []
def CT.iz:CT->Nat
 |.bc k=>k.size
 |_=>1
def toCT:CT->ak->Option ak
 |.ints k,E=>match E.toI k with|some l=>some (.ints k l)|none=>none
 |.bn,E=>match E.toB with|some l=>some (.bn l)|none=>none
 |.bc k,E=>match E.toR k with|some l=>some (.bc k l)|none=>none
 |_,_=>none
theorem VO(t:CT):(FP t).Nil:=by cases t<;>rfl
theorem MM{t:CT}{E E':ak}(h:toCT t E=some E'):ak.Eq E E':=by
 cases t with
 |ints k=>
  simp only[toCT]at h
  split at h
  ·rename_i l hl
   cases h
   cases E with
   |ints k' m=>
    simp only[ak.toI]at hl
    split at hl
    ·rename_i hk;cases hl;simp only[ak.Eq,hk]
    ·cases hl
   |gen es=>cases es<;>simp[ak.toI]at hl;subst hl;rfl
   |bn m=>simp[ak.toI]at hl
   |bc k m=>simp[ak.toI]at hl
  ·cases h
 |bn=>
  simp only[toCT]at h
  split at h
  ·rename_i l hl
   cases h
   cases E with
   |bn m=>simp[ak.toB]at hl;subst hl;rfl
   |gen es=>cases es<;>simp[ak.toB]at hl;subst hl;rfl
   |ints k m=>simp[ak.toB]at hl
   |bc k m=>simp[ak.toB]at hl
  ·cases h
 |bc k=>
  simp only[toCT]at h
  split at h
  ·rename_i l hl
   cases h
   cases E with
   |bc k' m=>simp only[ak.toR]at hl;simp only[ak.Eq,hl]
   |gen es=>cases es<;>simp[ak.toR]at hl;subst hl;rfl
   |ints k m=>simp[ak.toR]at hl
   |bn m=>simp[ak.toR]at hl
  ·cases h
 |_=>simp[toCT]at h
structure jG where
 ds:List oG
 ex:List (Nat×Row)
 fz:List Nat
def uY(m:Nat):List (Nat×Nat×Nat)->Bool
 |[]=>true
 |p::l=>bJ p.1 m&&uY m l
def H2(m:Nat):List ij->Bool
 |[]=>true
 |.ptr r _ _::l=>bJ r m&&H2 m l
 |.fn _ ps::l=>uY m ps&&H2 m l
 |_=>false
theorem vc{m:Nat}{EX:List Nat}(hE:∀i,i<m->EX[i]?=some i):∀{ps:List (Nat×Nat×Nat)},uY m ps=true->r0 EX ps ps=true
 |[],_=>rfl
 |(r,a,b)::l,h=>by
  simp only[uY,aE]at h
  simp only[r0,ky,hE r (lE h.1),vc hE h.2]
  simp
theorem zac{m:Nat}{EX:List Nat}(hE:∀i,i<m->EX[i]?=some i):∀{cs:List ij},H2 m cs=true->oP EX cs cs=true:=by
 intro cs
 induction cs with
 |nil=>intro _;rfl
 |cons x l ih=>
  intro h
  cases x with
  |ptr r a b=>
   simp only[H2,aE]at h
   simp only[oP,ky,hE r (lE h.1),ih h.2]
   simp
  |fn f ps=>
   simp only[H2,aE]at h
   simp only[oP,vc hE h.1,ih h.2]
   simp
  |_=>simp[H2]at h
def R5(m:Nat)(R:Rows)(c:D)(s:jG):Option (D×jG):=
  match c with
  | .int k n=>some (.int k n,s)
  | .bool b=>some (.bool b,s)
  | .str x=>some (.str x,s)
  | .iy=>some (.iy,s)
  | .jF=>some (.jF,s)
  | .cy r=>match bJ r m with|true=>some (.cy r,s)|false=>none
  | .ptr r o f=>match bJ r m with|true=>some (.ptr r o f,s)|false=>none
  | .gb f cs=>match H2 m cs with|true=>some (.gb f cs,s)|false=>none
  | .dq=>match s with
    |⟨.sl t f::ds,ex,fz⟩=>some (.sl t.iz (FP t) f,⟨ds,ex,fz⟩)
    |⟨.row ty sz t::ds,ex,fz⟩=>match bJ 0 sz with|true=>some (.all (m+ex.length),⟨ds,ex++[(R.length+ex.length,⟨false,ty,sz,FP t⟩)],fz⟩)|false=>none
    |_=>none
  | .emp=>match s with
    |⟨.sl t f::ds,ex,fz⟩=>some (.sl t.iz (FP t) f,⟨ds,ex,fz⟩)
    |⟨.row ty sz t::ds,ex,fz⟩=>match bJ 0 sz with|true=>some (.all (m+ex.length),⟨ds,ex++[(R.length+ex.length,⟨false,ty,sz,FP t⟩)],fz⟩)|false=>none
    |_=>none
  | .sl n E fr=>match s with
    | ⟨.sl t f::ds,ex,fz⟩=>match toCT t E,(!f||fr)&&(bT n t.iz||H3 E) with
      |some E',true=>some (.sl t.iz E' f,⟨ds,ex,fz⟩)
      |_,_=>none
    |_=>none
  | .all r=>match s with
    | ⟨.sl t f::ds,ex,fz⟩=>match R.getD r none with
      | some ⟨box,_,ka,E⟩=>match toCT t E,!box&&(bT ka t.iz&&Nat.ble m r) with
        |some E',true=>some (.sl t.iz E' f,⟨ds,ex,r::fz⟩)
        |_,_=>none
      |none=>none
    | ⟨.row ty sz t::ds,ex,fz⟩=>match bJ r m with
      |true=>some (.all r,⟨ds,ex,fz⟩)
      | false=>match R.getD r none with
        | some ⟨box,jP,ka,E⟩=>match toCT t E,!box&&(bT jP ty&&bT ka sz) with
          |some E',true=>some (.all (m+ex.length),⟨ds,ex++[(r,⟨false,ty,sz,E'⟩)],fz⟩)
          |_,_=>none
        |none=>none
    |_=>none
  | .own r o n=>match s with
    | ⟨.sl t f::ds,ex,fz⟩=>match R.getD r none with
      | some ⟨box,_,ka,E⟩=>match toCT t ((E.drop o).take n),!box&&(bT ka t.iz&&Nat.ble m r) with
        |some E',true=>some (.sl t.iz E' f,⟨ds,ex,r::fz⟩)
        |_,_=>none
      |none=>none
    |_=>none
  |_=>none
def Zm(m:Nat)(R:Rows):List D->jG->Option (List D×jG)
 |[],s=>some ([],s)
 |c ::cs,s=>match R5 m R c s with
  |some (c',s')=>match Zm m R cs s' with
   |some (rk,H4)=>some (c'::rk,H4)
   |none=>none
  |none=>none
def El(m:Nat)(R:Rows)(d:D)(s:jG):Option (D×jG):=
 match d with
 |.agg cs=>match Zm m R cs s with|some (rk,s')=>some (.agg rk,s')|none=>none
 |d=>R5 m R d s
def r6(m:Nat)(R:Rows):List D->jG->Option (List D×jG)
 |[],s=>some ([],s)
 |c ::cs,s=>match El m R c s with
  |some (c',s')=>match r6 m R cs s' with
   |some (rk,H4)=>some (c'::rk,H4)
   |none=>none
  |none=>none
def H5(m:Nat)(R:Rows)(d:D)(s:jG):Option (D×jG):=
 match d with
 |.dt ds=>match r6 m R ds s with|some (nX,s')=>some (.dt nX,s')|none=>none
 |d=>El m R d s
def J3(m:Nat)(R:Rows):Nat->Nat->jG->Option (List Row×jG)
 |0,_,s=>some ([],s)
 |n + 1,i,s=>match R.getD i none with
  |some ⟨true,ty,sz,.gen [e]⟩=>match Zm m R e s with
   |some (e',s')=>match J3 m R n (i+1) s' with
    |some (rs,H4)=>some (⟨true,ty,sz,.gen [e']⟩::rs,H4)
    |none=>none
   |none=>none
  |some ⟨false,ty,sz,E⟩=>match J3 m R n (i+1) s with
   |some (rs,H4)=>some (⟨false,ty,sz,E⟩::rs,H4)
   |none=>none
  |_=>none
def Em(m:Nat)(ex:List (Nat×Row)):List Nat:=List.range m++ex.map (·.1)
def rG(m:Nat)(ds:List oG)(d:D)(R:Rows)(K:D->List Row->Prop):Prop:=
 match H5 m R d ⟨ds,[],[]⟩with
 |some (d',s)=>match J3 m R m 0 s with
  |some (rs,s')=>cg (wZ m (Em m s'.ex)&&s'.fz.all (J4 (Em m s'.ex))) (K d' (rs++s'.ex.map (·.2)))
  |none=>False
 |none=>False
def r7(R:Rows)(x:Nat×Row):Prop:=
 x.2.box=false/\match R.getD x.1 none with
 |some ⟨w7,jP,ka,iW⟩=>w7=false/\jP=x.2.ty/\ka=x.2.sz/\ak.Eq iW x.2.es
 |none=>0<x.2.sz/\x.2.es.Nil
structure nY(m:Nat)(R:Rows)(EX:List Nat)(s:jG):Prop where
 at_:∀(i:Nat) x,s.ex[i]?=some x->EX[m+i]?=some x.1
 e9:∀x∈s.ex,r7 R x
 out:∀r∈s.fz,J4 EX r=true
def w9(s s':jG):Prop:=s.ex<+:s'.ex/\s.fz<:+s'.fz
theorem w9.refl(s:jG):w9 s s:=⟨bV _,bW _⟩
theorem w9.trans{a b c:jG}(h:w9 a b)(g:w9 b c):w9 a c:=⟨h.1.trans g.1,h.2.trans g.2⟩
theorem qd{E:ak}(h:H3 E=true):E.Nil:=ak.nZ.2 (Z9 h)
theorem Zd7{m:Nat}{R:Rows}{c c':D}{s s':jG}(h:R5 m R c s=some (c',s')):
    w9 s s'/\((∀x∈s.ex,r7 R x)-> ∀x∈s'.ex,r7 R x)/\ ∀EX:List Nat,(∀i,i<m->EX[i]? =some i)->nY m R EX s'->jo EX m R c c':=by
  have MN: ∀{ty sz t},bJ 0 sz=true->((∀x∈s.ex,r7 R x)-> ∀x∈s.ex++[(R.length+s.ex.length,(⟨false,ty,sz,FP t⟩:Row))],r7 R x)/\
      ∀(EX:List Nat) (ds:List oG) (fz:List Nat),nY m R EX ⟨ds,s.ex++[(R.length+s.ex.length,(⟨false,ty,sz,FP t⟩:Row))],fz⟩->Zip EX R (m+s.ex.length)=true:=by
    intro ty sz t fp
    have hn:R.getD (R.length+s.ex.length) none=none:=by rw[aK,List.getElem?_eq_none (by omega)];rfl
    refine⟨λhg x hx=> ?_,λEX ds fz hG=> ?_⟩
    . simp only[bX,bY]at hx
      rcases hx with hx|rfl
      . exact hg x hx
      . refine⟨rfl,?_⟩
        simp only[hn]
        exact⟨lE fp,VO t⟩
    . have:=hG.at_ s.ex.length (R.length+s.ex.length,⟨false,ty,sz,FP t⟩) (by simp)
      simp only[Zip,this,hn]
  cases c<;>simp only[R5]at h<;>try(cases h;done)
  case int k n=>cases h;exact⟨.refl _,id,λEX _ _=>by simp [jo,cg]⟩
  case bool b=>cases h;exact⟨.refl _,id,λEX _ _=>by simp [jo]⟩
  case str x=>cases h;exact⟨.refl _,id,λEX _ _=>by simp [jo]⟩
  case iy=>cases h;exact⟨.refl _,id,λEX _ _=>by simp [jo]⟩
  case jF=>cases h;exact⟨.refl _,id,λEX _ _=>by simp [jo]⟩
  case cy r=>
    split at h
    . rename_i hr
      cases h
      refine⟨.refl _,id,λEX hE _=> ?_⟩
      have:=hE r (lE hr)
      simp only[jo,c7,ky,this]
      exact⟨by simp,trivial⟩
    . cases h
  case ptr r o f=>
    split at h
    . rename_i hr
      cases h
      refine⟨.refl _,id,λEX hE _=> ?_⟩
      have:=hE r (lE hr)
      simp only[jo,c7,ky,this]
      exact⟨by simp,trivial⟩
    . cases h
  case gb f cs=>
    split at h
    . rename_i hr
      cases h
      refine⟨.refl _,id,λEX hE _=> ?_⟩
      simp only[jo,c7,zac hE hr]
      exact⟨by simp,trivial⟩
    . cases h
  case dq=>
    split at h
    . cases h;exact⟨.refl _,id,λEX _ _=>VO _⟩
    . split at h
      . rename_i fp
        cases h
        obtain⟨v1,v2⟩:=MN fp
        exact⟨⟨bZ _ _,bW _⟩,v1,λEX _ hG=>by simp only[jo,c7];exact⟨v2 EX _ _ hG,trivial⟩⟩
      . cases h
    . cases h
  case emp=>
    split at h
    . cases h;exact⟨.refl _,id,λEX _ _=>VO _⟩
    . split at h
      . rename_i fp
        cases h
        obtain⟨v1,v2⟩:=MN fp
        exact⟨⟨bZ _ _,bW _⟩,v1,λEX _ hG=>by simp only[jo,c7];exact⟨v2 EX _ _ hG,trivial⟩⟩
      . cases h
    . cases h
  case sl n E fr=>
    split at h
    . rename_i t f ds ex fz
      split at h
      . rename_i E' hE hb
        cases h
        simp only[aE,Bool.or_eq_true]at hb
        refine⟨.refl _,id,λEX _ _=> ?_⟩
        simp only[jo,c7]
        exact⟨by simpa using hb.1,hb.2.symm.imp qd bE,MM hE⟩
      . cases h
    . cases h
  case all r =>
    split at h
    . rename_i t f ds ex fz
      split at h
      . rename_i box ty ka E hR
        split at h
        . rename_i E' hE hb
          cases h
          simp only[aE]at hb
          refine⟨⟨bV _,cA _ _⟩,id,λEX _ hG=> ?_⟩
          simp only[jo,hR,c7,aE]
          exact⟨⟨⟨⟨hb.1,hb.2.1⟩,hG.out r (by simp)⟩,hb.2.2⟩,MM hE⟩
        . cases h
      . cases h
    . rename_i ty sz t ds ex fz
      split at h
      . rename_i cj
        cases h
        refine⟨.refl _,id,λEX pw hG=> ?_⟩
        simp only[jo,c7]
        have:=pw r (lE cj)
        exact⟨by simp [ky,this],trivial⟩
      . split at h
        . rename_i box jP ka E hR
          split at h
          . rename_i E' hE hb
            cases h
            simp only[aE,Bool.not_eq_true']at hb
            refine⟨⟨bZ _ _,bW _⟩,λhg x hx=> ?_,λEX pw hG=> ?_⟩
            . simp only[bX,bY]at hx
              rcases hx with hx|rfl
              . exact hg x hx
              . refine⟨rfl,?_⟩
                simp only[hR]
                exact⟨hb.1,bE hb.2.1,bE hb.2.2,MM hE⟩
            . have:=hG.at_ ex.length (r,⟨false,ty,sz,E'⟩) (by simp)
              simp only[jo,c7]
              exact⟨by simp [ky,this],trivial⟩
          . cases h
        . cases h
    . cases h
  case own r o n=>
    split at h
    . rename_i t f ds ex fz
      split at h
      . rename_i box ty ka E hR
        split at h
        . rename_i E' hE hb
          cases h
          simp only[aE]at hb
          refine⟨⟨bV _,cA _ _⟩,id,λEX _ hG=> ?_⟩
          simp only[jo,hR,c7,aE]
          exact⟨⟨⟨⟨hb.1,hb.2.1⟩,hG.out r (by simp)⟩,hb.2.2⟩,MM hE⟩
        . cases h
      . cases h
    . cases h
theorem nY.mono{m:Nat}{R:Rows}{EX:List Nat}{s s':jG}(hl:w9 s s')(h:nY m R EX s'):nY m R EX s:=
 ⟨λi x hx=>h.at_ i x (by
  obtain⟨t,ht⟩:=hl.1
  rw[<-ht,aZ (List.getElem?_eq_some_iff.1 hx).1];exact hx),λx hx=>h.e9 x (hl.1.subset hx),λr hr=>h.out r (hl.2.subset hr)⟩
theorem VP{m:Nat}{R:Rows}:∀{cs rk:List D} {s s':jG},Zm m R cs s=some (rk,s')->
 w9 s s'/\((∀x∈s.ex,r7 R x)->∀x∈s'.ex,r7 R x)/\∀EX:List Nat,(∀i,i<m->EX[i]?=some i)->nY m R EX s'->En EX m R cs rk
 |[],rk,s,s',h=>by simp only[Zm]at h;cases h;exact⟨.refl _,id,λ_ _ _=>trivial⟩
 |c ::cs,rk,s,s',h=>by
  simp only[Zm]at h
  split at h
  ·rename_i c1 s1 h1
   split at h
   ·rename_i cs1 s2 h2
    cases h
    obtain⟨a1,a2,a3⟩:=Zd7 h1
    obtain⟨b1,b2,b3⟩:=VP h2
    exact⟨a1.trans b1,λh=>b2 (a2 h),λEX pw hG=>⟨a3 EX pw (hG.mono b1),b3 EX pw hG⟩⟩
   ·cases h
  ·cases h
theorem xd{m:Nat}{R:Rows}{d d':D}{s s':jG}(h:El m R d s=some (d',s')):
 w9 s s'/\((∀x∈s.ex,r7 R x)->∀x∈s'.ex,r7 R x)/\∀EX:List Nat,(∀i,i<m->EX[i]?=some i)->nY m R EX s'->pK EX m R d d':=by
 unfold El at h
 split at h
 ·rename_i cs
  split at h
  ·rename_i rk s1 h1
   cases h
   exact VP h1
  ·cases h
 ·rename_i gg
  obtain⟨a1,a2,a3⟩:=Zd7 h
  refine⟨a1,a2,λEX pw hG=>?_⟩
  have h3:=a3 EX pw hG
  cases d' with
  |agg ps=>simp[jo]at h3
  |_=>exact h3
theorem Zjn{m:Nat}{R:Rows}:∀{cs rk:List D} {s s':jG},r6 m R cs s=some (rk,s')->
 w9 s s'/\((∀x∈s.ex,r7 R x)->∀x∈s'.ex,r7 R x)/\∀EX:List Nat,(∀i,i<m->EX[i]?=some i)->nY m R EX s'->uZ EX m R cs rk
 |[],rk,s,s',h=>by simp only[r6]at h;cases h;exact⟨.refl _,id,λ_ _ _=>trivial⟩
 |c ::cs,rk,s,s',h=>by
  simp only[r6]at h
  split at h
  ·rename_i c1 s1 h1
   split at h
   ·rename_i cs1 s2 h2
    cases h
    obtain⟨a1,a2,a3⟩:=xd h1
    obtain⟨b1,b2,b3⟩:=Zjn h2
    exact⟨a1.trans b1,λh=>b2 (a2 h),λEX pw hG=>⟨a3 EX pw (hG.mono b1),b3 EX pw hG⟩⟩
   ·cases h
  ·cases h
theorem xac{m:Nat}{R:Rows}{d d':D}{s s':jG}(h:H5 m R d s=some (d',s')):
 w9 s s'/\((∀x∈s.ex,r7 R x)->∀x∈s'.ex,r7 R x)/\∀EX:List Nat,(∀i,i<m->EX[i]?=some i)->nY m R EX s'->wY EX m R d d':=by
 unfold H5 at h
 split at h
 ·rename_i cs
  split at h
  ·rename_i rk s1 h1
   cases h
   exact Zjn h1
  ·cases h
 ·rename_i gg
  obtain⟨a1,a2,a3⟩:=xd h
  refine⟨a1,a2,λEX pw hG=>?_⟩
  have h3:=a3 EX pw hG
  cases d' with
  |dt ps=>simp[pK,jo]at h3
  |_=>exact h3
theorem VQ{m:Nat}{R:Rows}:∀{n i:Nat} {rs:List Row} {s s':jG},J3 m R n i s=some (rs,s')->
 w9 s s'/\((∀x∈s.ex,r7 R x)->∀x∈s'.ex,r7 R x)/\∀EX:List Nat,(∀i,i<m->EX[i]?=some i)->nY m R EX s'->mz EX m R (bK i n) rs
 |0,i,rs,s,s',h=>by simp only[J3]at h;cases h;exact⟨.refl _,id,λ_ _ _=>trivial⟩
 |n + 1,i,rs,s,s',h=>by
  simp only[J3]at h
  split at h
  ·rename_i ty sz e hR
   split at h
   ·rename_i e1 s1 h1
    split at h
    ·rename_i rs1 s2 h2
     cases h
     obtain⟨a1,a2,a3⟩:=VP h1
     obtain⟨b1,b2,b3⟩:=VQ h2
     refine⟨a1.trans b1,λh=>b2 (a2 h),λEX pw hG=>?_⟩
     rw[cB]
     simp only[mz,hR,c7]
     exact⟨⟨by simp,a3 EX pw (hG.mono b1)⟩,b3 EX pw hG⟩
    ·cases h
   ·cases h
  ·rename_i ty sz E hR
   split at h
   ·rename_i rs1 s2 h2
    cases h
    obtain⟨b1,b2,b3⟩:=VQ h2
    refine⟨b1,b2,λEX pw hG=>?_⟩
    rw[cB]
    simp only[mz,hR,c7]
    refine⟨⟨by simp,?_⟩,b3 EX pw hG⟩
    cases E with
    |gen es=>cases es<;>simp[ak.Eq]
    |bc k l=>simp[ak.Eq,Z6m]
    |_=>simp[ak.Eq]
   ·cases h
  ·cases h
theorem Qq5{ex:List Nat}{m:Nat}{R:Rows}:∀{l1 l2:List Nat} {p1 p2:List Row},mz ex m R l1 p1->mz ex m R l2 p2->mz ex m R (l1++l2) (p1++p2)
 |[],l2,[],p2,_,h=>h
 |r::l1,l2,p::p1,p2,h1,h2=>by
  simp only[List.cons_append,mz]at h1⊢
  exact⟨h1.1,Qq5 h1.2 h2⟩
 |[],_,_::_,_,h,_=>h.elim
 |_::_,_,[],_,h,_=>h.elim
theorem Z6r{ex:List Nat}{m:Nat}{R:Rows}:∀{l:List (Nat×Row)},(∀x∈l,r7 R x)->mz ex m R (l.map (·.1)) (l.map (·.2))
 |[],_=>trivial
 |(r,⟨box,ty,sz,es⟩)::l,h=>by
  simp only[List.map_cons,mz]
  refine⟨?_,Z6r λx hx=>h x (by simp[hx])⟩
  obtain⟨h1,h2⟩:=h (r,⟨box,ty,sz,es⟩) (by simp)
  simp only at h1 h2
  subst h1
  split
  ·rename_i w7 jP ka iW hR
   simp only[hR]at h2
   obtain⟨rfl,rfl,rfl,h2⟩:=h2
   simp only[c7]
   exact⟨by simp,h2⟩
  ·rename_i hR
   simp only[hR]at h2
   simp only[c7]
   exact⟨by simpa using h2.1,h2.2⟩
theorem Z6n{m:Nat}{ds:List oG}{d:D}{R:Rows}{K:D->List Row->Prop}(h:rG m ds d R K):∃res rows,K res rows/\Aa m res rows d R:=by
 unfold rG at h
 split at h
 ·rename_i d' s h1
  split at h
  ·rename_i rs s' h2
   simp only[c7,aE]at h
   obtain⟨⟨hx,hf⟩,hK⟩:=h
   obtain⟨a1,a2,a3⟩:=xac h1
   obtain⟨b1,b2,b3⟩:=VQ h2
   have FQ:∀x∈s'.ex,r7 R x:=b2 (a2 λx hx=>by simp at hx)
   have pw:∀i,i<m->(Em m s'.ex)[i]?=some i:=λi hi=>by
    unfold Em
    rw[aZ (by simpa using hi)];simp[hi]
   have hG:nY m R (Em m s'.ex) s':=⟨λi x hx=>by
    unfold Em
    rw[List.getElem?_append_right (by simp)]
    simp[hx],FQ,λr hr=>List.all_eq_true.1 hf r hr⟩
   refine⟨d',_,hK,Em m s'.ex,hx,a3 _ pw (hG.mono b1),?_⟩
   have h3:=b3 _ pw hG
   have:Em m s'.ex=bK 0 m++s'.ex.map (·.1):=by unfold Em;rw[List.range_eq_range']
   refine Eq.mpr ?_ (Qq5 h3 (Z6r FQ))
   rw[<-this]
  ·exact h.elim
 ·exact h.elim

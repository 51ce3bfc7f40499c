import Derived.Test.YtaemmjbkndlkeaaGreatMigrateOrdersDraw
import Derived.IntWalk
open List renaming getD->aV,ext_getElem->bR,map_map->bY,prefix_refl->bZ,suffix_refl->cA,mem_append->cB,mem_singleton->cC,prefix_append->cD,suffix_cons->cE,getElem?_append_left->bI,range'->bO,range'_succ->cF
open Nat renaming beq->bX,blt->bN
set_option linter.all false
namespace Go.GD
open Go
variable {E:ai}{EX ex:List Nat}{M N m:Nat}{P:Program}{Q:Ex->St->Prop}{R:Rows}{c:Ctx}{code:Code}{d d':D}{ro:Option Nat}{st:St}{w:World}
def su(ex:List Nat)(M:Nat)(R:Rows)(d p:D):Prop:=
 match p with
 |.dead=>True
 |.ptr i o f=>match d with|.ptr r o' f'=>cu (j6 ex i r) (o'=o/\f'=f)|_=>False
 |.im sz es i off=>match d with|.im j5 iT i' iH=>j5=sz/\ai.Eq iT es/\i'=i/\iH=off|_=>False
 |p=>sw ex M R d p
def BU(ex:List Nat)(M:Nat)(R:Rows)(env:List (Nat×D)):List (Nat×D)->Prop
 |[]=>True
 |(t,p)::l=>su ex M R (look env t) p/\BU ex M R env l
def fold(M:Nat)(ex:List Nat)(st:St)(mo:List (Nat×D))(aj:List Row):Prop:=
 cu (sx M ex) (BU ex M st.rows st.env mo/\lW ex M st.rows ex aj)
theorem xc{rows:List Row}(hm:Mem c w)(hR:∀r,c.R r=R.getD r none)(db:lW ex m R ex rows)(eu:∀r row,c.R r=some row->¬c.V r->m<=r->c.base<=c.ρ r){d p:D}{v:Value}(h:su ex m R d p)(hr:Rep c w d v):Rep (c.out ex rows) w p v:=by
 have nH:∀b,c.I b->(c.out ex rows).I b/\w.heap[b]?=w.heap[b]? :=λb hb=>⟨.inl hb,rfl⟩
 cases p with
 |dead=>trivial
 |ptr i o f=>
  simp only[su]at h
  split at h
  ·rename_i r o' f'
   simp only[dd]at h
   obtain⟨hx,rfl,rfl⟩:=h
   exact SR (w:=w) hR db hx hr
  ·exact h.elim
 |im sz es i off=>
  simp only[su]at h
  split at h
  ·obtain⟨rfl,he,rfl,rfl⟩:=h
   have he:=ai.Aj he
   obtain⟨b,o,arr,ty,fz,h1,h2,h3,h4,h5⟩:=hr
   rw[he]at h3 h5
   exact⟨b,o,arr,ty,fz,h1,.inl h2,h3,h4,nC nH _ _ _ _ h5⟩
  ·exact h.elim
 |_=>
  simp only[su]at h
  exact SS hm hR db eu h hr
theorem Zl1{c:Ctx}{w:World}{ex:List Nat}{m:Nat}{R:Rows}{rows:List Row}(hm:Mem c w)(hR:∀r,c.R r=R.getD r none)(db:lW ex m R ex rows)(eu:∀r row,c.R r=some row->¬c.V r->m<=r->c.base<=c.ρ r){env:List (Nat×D)}{a:Act}(he:∀t,Rep c w (look env t) (a.tmps.getD t undef)):
 ∀{mo:List (Nat×D)},BU ex m R env mo->∀t,Rep (c.out ex rows) w (look mo t) (a.tmps.getD t undef)
 |[],_,t=>trivial
 |(u,p)::l,h,t=>by
  have:=Zl1 hm hR db eu he h.2 t
  rw[AT]
  split
  ·rename_i e
   subst e
   exact xc hm hR db eu h.1 (he u)
  ·exact this
theorem zc{c0:Ctx}{w0:World}{a:Act}(hs:ff N M c0 w0 c w st a){mo:List (Nat×D)}{aj:List Row}(h:fold M ex st mo aj):∃c',ff N M c0 w0 c' w ⟨mo,aj.map some⟩ a:=by
 unfold fold at h
 simp only[dd]at h
 obtain⟨hex,hE,db⟩:=h
 obtain⟨eu,jc,fu⟩:=SU hs hex db
 refine⟨c.out ex aj,jc,λr=>?_,Zl1 hs.mem hs.rows db eu hs.env hE,hs.size,hs.defers,hs.fw,hs.gr,fu⟩
 simp only[Ctx.out,aV,List.getElem?_map]
 cases aj[r]? <;>rfl
theorem Tr.mono{Q Q':Ex->St->Prop}(hq:∀e st,Q e st->Q' e st)(h:tV ro P N M code st Q):tV ro P N M code st Q':=
 λc0 w0 c w a hs=>wpIn_mono (h c0 w0 c w a hs) λe a' w' ⟨ex,jo,c',h1,h2,h3⟩=>⟨ex,jo,c',h1,hq _ _ h2,h3⟩
theorem zac{α:Type}(F:α->List (Nat×D)×List Row)(wv:α->Prop)(μ:α->Nat)
 (a0:α) (jl:List Nat) (hp:wv a0) (h0:fold M jl st (F a0).1 (F a0).2)
 (round:∀a,wv a->tV ro P N M code ⟨(F a).1,(F a).2.map some⟩ λe jo=>match e with
  |.normal=>∃b ex,wv b/\μ b<μ a/\fold M ex jo (F b).1 (F b).2
  |.exit i=>Q (.exit i) jo
  |.ret=>Q .ret jo):tV ro P N M (.loop code) st Q:=by
 intro c0 w0 c w a hs
 have key:∀(n:Nat) (x:α),wv x->μ x<n->∀(c:Ctx) (w:World) (a:Act),ff N M c0 w0 c w ⟨(F x).1,(F x).2.map some⟩ a->
  Code.roundsIn (AW ro) 0 P code (λe a' w'=>∃ex jo c',mV e=some ex/\Q ex jo/\ff N M c0 w0 c' w' jo a') n a w:=by
  intro n
  induction n with
  |zero=>intro x _ h;omega
  |succ n ih=>
   intro x hx bd c w a hs
   rw[roundsIn_succ]
   refine wpIn_mono (round x hx c0 w0 c w a hs) λe a' w' hq=>?_
   obtain⟨ex,jo,c',he,hq,iS⟩:=hq
   cases e<;>simp only[mV,Option.some.injEq,reduceCtorEq]at he
   ·subst he
    obtain⟨b,ex,h1,h2,h3⟩:=hq
    obtain⟨SV,WB⟩:=zc iS h3
    exact ih b h1 (by omega) SV w' a' WB
   ·subst he;exact⟨_,jo,c',rfl,hq,iS⟩
   ·subst he;exact⟨_,jo,c',rfl,hq,iS⟩
 obtain⟨c',iS⟩:=zc hs h0
 exact wpIn_loop_rounds _ (key (μ a0+1) a0 hp (by omega) c' w a iS)
structure cg where
 α:Type
 F:St->α->List (Nat×D)×List Row
 a0:St->α
 jl:St->List Nat
 next:St->α:=a0
 ex:St->List Nat:=jl
structure Ask(p:Prop):Prop where
 ok:p
def keyOf:Code->Nat
 |.region id _ _=>id
 |.block id _=>id
 |.seq a _=>keyOf a
 |.loop a=>keyOf a
 |_=>0
def Gz:List (Nat×cg)->Nat->Option cg
 |[],_=>none
 |(k,i)::l,n=>match bX k n with|true=>some i|false=>Gz l n
def Iq(T:iu)(G:List ba)(M f:Nat)(g:Operand)(st:St)(Q:Ex->St->Prop):Prop:=
 match cj st.env g with
 |.gj gf cs=>match Ky ((WC f).map (look st.env)),o6 G gf with
  |some ys,some k=>Io T ys st.env st.rows λR=>cu (bN gf YB)<|Ig G M gf k (.gj f ys::cs.map iB.d) R λks _ R=>GA ks st.env λenv=>cu (rb (Ak env++GB R)) (Q .normal ⟨env,R⟩)
  |_,_=>False
 |_=>False
def evL(ds:List D):Operand->D|.tmp i=>ds.getD i .dead|_=>.dead
def opsL(n:Nat):List Operand:=(List.range n).map Operand.tmp
theorem xac{ds:List D}:(opsL ds.length).map (evL ds)=ds:=by
 refine bR (by simp[opsL]) λi h1 h2=>?_
 simp[opsL,evL,aV,h2]
def Ir(vs:List Value):Operand->Value|.tmp i=>vs.getD i undef|_=>undef
theorem qH{vs:List Value}{n:Nat}(h:n=vs.length):(opsL n).map (Ir vs)=vs:=by
 subst h
 refine bR (by simp[opsL]) λi h1 h2=>?_
 simp[opsL,Ir,aV,h2]
theorem yc{c:Ctx}{w:World}:∀{ds:List D} {vs:List Value},kd c w ds vs->∀i,Rep c w (ds.getD i .dead) (vs.getD i undef)
 |[],[],_,i=>by simp[aV];trivial
 |d::ds,v::vs,h,0=>by simpa using h.1.toRep
 |d::ds,v::vs,h,i+1=>by simpa using yc h.2 i
 |[],_::_,h,_=>h.elim
 |_::_,[],h,_=>h.elim
theorem Zd2{c:Ctx}{w:World}:∀{cs:List iB} {us:List Value},oL c w cs us->kd c w (cs.map iB.d) us
 |[],[],_=>trivial
 |x::cs,u::us,h=>⟨VRep.EA (Wn.1 h.1),Zd2 h.2⟩
 |[],_::_,h=>h.elim
 |_::_,[],h=>h.elim
theorem No{G:List ba}(hG:jA P G){N M f:Nat}{g:Operand}{ps:Array Tmp}{x b:Code}(mM:RF (some f) N (.rangeFunc g ps x b)){T:iu}(h:Iq T G M f g st Q):Tr P N M (.rangeFunc g ps x b) st Q:=by
 intro c0 w0 c w a hs
 obtain⟨y,⟨hy,hn,EF,gh,h1⟩,he⟩:=mM
 unfold Iq at h
 split at h
 rotate_left
 ·exact h.elim
 rename_i gf cs hg
 split at h
 rotate_left
 ·exact h.elim
 rename_i ys k SW lU
 obtain⟨R0,c,h,hs⟩:=Gy h hs
 simp only[dd]at h
 obtain⟨Is,h⟩:=h
 have Is:=lE Is
 rw[<-xac (ds:=.gj f ys::cs.map iB.d)]at h
 obtain⟨ks,val,R',X,h2,h3,h4,h5,h6⟩:=Wp hG lU h
 obtain⟨dx,hf⟩:=Gv hG h3
 rw[Ih]at h2
 obtain⟨nh,hQ⟩:=h2
 have SX:Rep c w (cj st.env g) (a.eval g):=Nh hs.env g
 rw[hg]at SX
 obtain⟨us,⟨_,SX⟩|⟨WD,_⟩,BV⟩:=SX
 rotate_left
 ·exact absurd Is (Nat.not_lt.2 WD)
 refine wpIn_rangeFunc λfn _=>?_
 obtain⟨rec,mX⟩:∃rec:Loop,rec={state:=.ready,pending:=none,fn,tmps:=a.tmps,params:=ps,assign:=x,body:=b,defers:=w.heap.size}:=⟨_,rfl⟩
 obtain⟨wd,It⟩:∃wd,wd=w.alloc (.deferred (some [])):=⟨_,rfl⟩
 obtain⟨w1,GC⟩:∃w1,w1=wd.alloc (.loop rec):=⟨_,rfl⟩
 have hsd:wd.heap.size=w.heap.size+1:=by rw[It];simp
 have kv:w1.heap.size=w.heap.size+2:=by rw[GC];simp[hsd]
 have SY:w1.heap[w.heap.size+1]?=some (.loop rec):=by rw[GC,<-hsd];exact World.alloc_heap_new wd _
 have hD1:w1.heap[w.heap.size]?=some (.deferred (some [])):=by
  rw[GC];refine(Al wd _ _ (by omega)).trans ?_;rw[It];exact World.alloc_heap_new w _
 have GF:∀i,i<w.heap.size->w1.heap[i]?=w.heap[i]? :=λi hi=>by
  rw[GC];refine(Al wd _ _ (by omega)).trans ?_;rw[It];exact Al w _ _ hi
 obtain⟨c1,BW⟩:∃c1:Ctx,c1={c with I:=λi=>c.I i\/i=w.heap.size+1}:=⟨_,rfl⟩
 have wx:ja c w c1 w1:=by
  rw[BW]
  exact⟨rfl,Nat.le_refl _,λi hi=>⟨.inl hi,GF i (hs.mem.fe i hi).1⟩,λr z hr=>⟨z,hr,rfl,rfl,rfl,rfl,rfl,Iff.rfl,λhV arr ha=>⟨arr,(GF _ (Array.getElem?_eq_some_iff.1 ha).1).trans ha,rfl⟩⟩⟩
 have Iu:∀r z,c.R r=some z->¬c.V r->c.ρ r<w.heap.size:=λr z hr hV=>by
  rcases hs.mem.row r z hr with h|⟨_,arr,h,_⟩
  ·exact(hV h.1).elim
  ·exact(Array.getElem?_eq_some_iff.1 h).1
 have Ip:Mem c1 w1:=by
  have wx:=wx
  rw[BW]at wx⊢
  refine⟨λr z hr=>tz wx rfl Iff.rfl (λnv=>GF _ (Iu r z hr nv)) (hs.mem.row r z hr),hs.mem.inj,λi hi=>?_,by have:=hs.mem.top;show c.top<=_;omega,hs.mem.jU.mono wx.I⟩
  rcases hi with hi|hi
  ·have:=(hs.mem.fe i hi).1;exact⟨by omega,(hs.mem.fe i hi).2⟩
  ·exact⟨by omega,λr z hr hV=>by have:=Iu r z hr hV;show c.ρ r≠i;omega⟩
 have Iv:Rep c1 w1 (.gj f ys) (.func (.yield (w.heap.size+1)) #[] #[]):=by
  refine⟨y.ts.map λt=>a.tmps.getD t undef,.inr ⟨gh,w.heap.size+1,rec,rfl,by rw[BW];exact .inr rfl,SY,by rw[mX],by rw[mX],y,hy,?_⟩,?_⟩
  ·cases he
   rw[mX]
   exact⟨rfl,rfl,rfl,Nat.le_trans hn hs.size,h1,rfl⟩
  ·have:=WE (c:=c1) (w:=w1) (ev:=cj st.env) (ρ:=a.eval) (xs:=y.ts.map Operand.tmp) (cs:=ys) (by rw[EF,bY];exact SW) (λz hz=>Ac wx (Nh hs.env z))
   rw[bY]at this
   exact this
 have WG:kd c1 w1 (cs.map iB.d) us:=WH wx (Zd2 BV)
 have iM:kd c1 w1 (.gj f ys::cs.map iB.d) (.func (.yield (w.heap.size+1)) #[] #[]::us):=⟨Iv,WG⟩
 have hlen:(D.gj f ys::cs.map iB.d).length=(Value.func (.yield (w.heap.size+1)) #[] #[]::us).length:=by simp[BV.length]
 have mr:=(h6 c1 w1 (Ir (.func (.yield (w.heap.size+1)) #[] #[]::us)) Ip (by rw[BW];have:=hs.base;show c.base<=_;omega) (by rw[BW];exact hs.rows) (λz hz=>by
  simp only[opsL,List.mem_map,List.mem_range]at hz
  obtain⟨i,_,rfl⟩:=hz
  exact yc iM i) (λv w'=>∃c',jK ks c1 w1 c' w'/\(∀r,c'.R r=R'.getD r none)) λv w' c' hn hR _=>⟨c',hn,hR⟩).1 Is
 rw[qH hlen]at mr
 refine⟨w.heap.size+1,[{target:=.collected w.heap.size,args:= #[]}],w1,{target:=.fn (.func gf) us.toArray,args:= #[.func (.yield (w.heap.size+1)) #[] #[]]},w1,gf,(Value.func (.yield (w.heap.size+1)) #[] #[]::us).toArray,w1,?_,?_,?_,?_,λe=>(by cases e),?_⟩
 ·rw[GC,It,mX];exact run_enterLoop_outer _ _ _ _ _
 ·simp only[resolve,SX]
  simp[go_sem]
 ·intro f' _;trivial
 ·simp only[invoke]
  rw[<-hf,dx.enters (by rw[hf];exact Is)]
  congr 2
  simp
 ·refine CallsIn.mono (callsIn_wide.2 mr) λe w3 ⟨v,he3,c3,GG,hR3⟩=>?_
  subst he3
  have Iw:w3.heap[w.heap.size+1]?=some (.loop rec):=(GG.cy.I _ (by rw[BW];exact .inr rfl)).2.trans SY
  have EG:=run_endLoop (P:=P) Iw (by rw[mX];simp)
  have DL:rec.pending=none:=by rw[mX]
  rw[DL]at EG
  refine⟨none,_,EG,?_⟩
  have BX:Fr (λi=>∃r z,c.R r=some z/\¬c.V r/\c.ρ r=i) w w3:=by
   have EH:=GG.fr
   rw[BW]at EH
   refine⟨?_,?_,?_,by have:=EH.size;omega,λi hi Ix=>(EH.heap i (by omega) Ix).trans (GF i hi)⟩
   ·have:=EH.os;rw[GC,It]at this;exact this
   ·have:=EH.tape;rw[GC,It]at this;exact this
   ·have:=EH.output;rw[GC,It]at this;exact this
  have hN:jK ks c w c3 w3:=by
   refine⟨GG.mem,?_,BX,λi hi=>?_,λr row hr hV=>?_⟩
   ·have g1:=GG.cy
    rw[BW]at g1
    refine⟨g1.base,g1.top,λi hi=>⟨(g1.I i (.inl hi)).1,(g1.I i (.inl hi)).2.trans (GF i (hs.mem.fe i hi).1)⟩,λr row hr=>?_⟩
    obtain⟨ao,q1,q2,q3,q4,q5,q6,qV,q7⟩:=g1.R r row hr
    exact⟨ao,q1,q2,q3,q4,q5,q6,qV,λnv arr ha=>q7 nv arr ((GF _ (Array.getElem?_eq_some_iff.1 ha).1).trans ha)⟩
   ·have:=GG.fe i hi
    rw[BW]at this
    rcases this with(g|g)|g|g
    ·exact .inl g
    ·exact .inr (.inr (by omega))
    ·exact .inr (.inl g)
    ·exact .inr (.inr (by omega))
   ·have:=GG.om r row hr hV
    rw[BW]at this
    rcases this with g|g|g
    ·exact .inl g
    ·exact .inr (.inl g)
    ·exact .inr (.inr (by omega))
  have tQ:mf w0.heap.size w3 ({target:=.collected w.heap.size,args:= #[]}::a.defers):=by
   obtain⟨bs,b1,b2,b3⟩:=hs.defers.step hs.mem BX
   refine⟨w.heap.size::bs,List.nodup_cons.2 ⟨λhm=>?_,b1⟩,by rw[b2];rfl,λi hi=>?_⟩
   ·obtain⟨bs',c1',c2',c3'⟩:=hs.defers
    rw[c2']at b2
    have:bs'=bs:=by
     have:=congrArg (List.map λ(d:Deferred)=>match d.target with|.collected i=>i|_=>0) b2
     simpa[bY,Function.comp_def]using this
    subst this
    have:=(Array.getElem?_eq_some_iff.1 (c3' _ hm).2).1
    omega
   ·rcases List.mem_cons.1 hi with e|e
    ·subst e
     refine⟨hs.reach.fr.size,?_⟩
     have EH:=GG.fr
     rw[BW]at EH
     exact(EH.heap _ (by omega) fun⟨r,z,q1,q2,q3⟩=>by have:=Iu r z q1 q2;simp only at q3;omega).trans hD1
    ·exact b3 i e
  have hs3:ff N M c0 w0 c3 w3 ⟨r6 ks st.env,R'⟩ {a with defers:={target:=.collected w.heap.size,args:= #[]}::a.defers}:=
   ⟨GG.mem,hR3,λt=>by rw[BO];exact Ac hN.cy (Wt (hs.env t)),hs.size,tQ,hs.fw,hs.gr,hs.reach.step h5 hs.gr hN⟩
  refine⟨.normal,⟨r6 ks st.env,R'⟩,_,rfl,hQ,hs3.Np (b:=w.heap.size+1) (o:=.loop rec) (by have:=hs.reach.fr.size;omega) Iw (λ_ _ _ e=>by cases e) (Fk:=λk=>k<YB) (λk ws v hk hv=>?_) (λt k hk=>Nq nh (List.mem_append_left _ (WI hk))) (λr z hr k hk=>Nq nh (List.mem_append_right _ (WJ (by rw[<-hR3];exact hr) hk))) ?_⟩
  ·rcases hv with hv|⟨hv,_⟩
   ·exact .inl hv
   ·exact absurd hk (Nat.not_lt.2 hv)
  ·refine tQ.to λi hi=>(World.putObj_heap_other λe=>?_).trans hi
   rw[e,Iw]at hi;cases hi
def AX (T:iu)(G:List ba)(N M:Nat)(fm:List (Nat×cg))(rf:Option Nat):Nat->Code->St->(Ex->St->Prop)->Prop
 |0,_,_,_=>False
 |d + 1,code,st,Q=>match code with
  |.rangeFunc g _ _ _=>match rf with|some f=>Iq T G M f g st Q|none=>False
  |.loop c=>match Gz fm (keyOf c)with
   |some i=>∃(wv:i.α->Prop) (μ:i.α->Nat),wv (i.a0 st)/\fold M (i.jl st) st (i.F st (i.a0 st)).1 (i.F st (i.a0 st)).2/\∀a:i.α,wv a->o8 T G N M (AX T G N M fm rf d) c ⟨(i.F st a).1,(i.F st a).2.map some⟩ λe jo=>match e with
    |.normal=>(wv (i.next jo)/\μ (i.next jo)<μ a)/\fold M (i.ex jo) jo (i.F st (i.next jo)).1 (i.F st (i.next jo)).2
    |.exit j=>Q (.exit j) jo
    |.ret=>Q .ret jo
   |none=>False
  |_=>False
abbrev LL(T:iu)(G:List ba)(N M:Nat)(fm:List (Nat×cg)):=AX T G N M fm none
theorem GH{P:Program}(hD:pD P){T:iu}(hT:jg P T){G:List ba}(hG:jA P G){N M:Nat}{fm:List (Nat×cg)}{rf:Option Nat}{ro:Option Nat}(DM:ro=none\/rf=none):∀(d:Nat) (code:Code) (st:St) (Q:Ex->St->Prop),RF rf N code->AX T G N M fm rf d code st Q->tV ro P N M code st Q
 |0,_,_,_,_,h=>h.elim
 |d + 1,code,st,Q,mM,h=>by
  unfold AX at h
  split at h
  ·split at h
   ·rename_i f
    rcases DM with e|e
    ·subst e;exact No hG mM h
    ·cases e
   ·exact h.elim
  ·rename_i c
   split at h
   ·rename_i i hi
    obtain⟨wv,μ,h2,h3,h4⟩:=h
    have hc:RF rf N c:=by
     cases rf with
     |none=>trivial
     |some f=>exact mM
    refine zac (i.F st) wv μ (i.a0 st) (i.jl st) h2 h3 λa ha=>Tr.mono (λe jo hq=>?_) (Nr hD hT hG (Ns rf N) (GH hD hT hG DM d) c _ _ hc (h4 a ha))
    cases e with
    |normal=>exact⟨_,_,hq.1.1,hq.1.2,hq.2⟩
    |exit j=>exact hq
    |ret=>exact hq
   ·exact h.elim
  ·exact h.elim
def ay(R:Rows)(r j:Nat):D:=match R.getD r none with|some row=>(row.es.get 0).getD j .dead|none=>.dead
def j7(R:Rows)(r:Nat):ai:=match R.getD r none with|some row=>row.es|none=>.gen []
def oq(R:Rows)(r:Nat):List Int:=match R.getD r none with|some ⟨_,_,_,.ints _ l⟩=>l|_=>[]
def Zdz(R:Rows)(r:Nat):List Bool:=match R.getD r none with|some ⟨_,_,_,.ag l⟩=>l|_=>[]
def rK(k:RK)(R:Rows)(r:Nat):List (RK.T k):=match R.getD r none with|some ⟨_,_,_,.ah k' l⟩=>(match Gr k' k l with|some m=>m|none=>[])|_=>[]
def WK(k:IntKind)(R:Rows)(d:D):List Int:=match d with|.all r=>oq R r|.own r _ _=>oq R r|d=>cf k d
def Nt(R:Rows)(d:D):ai:=match d with|.all r=>j7 R r|.own r _ _=>j7 R r|.sl _ E _=>E|_=>.gen []
def iX(d:D)(n:Nat):Nat:=match d with|.all r=>r|.own r _ _=>r|.ptr r _ _=>r|.pa r _ _ _ _ _=>r|_=>n
theorem Iy{n:Int}(h1: -9223372036854775808<=n)(h2:n<=9223372036854775807):IntKind.wrap .i64 n=n:=by rw[IntKind.wrap_i64];omega
inductive ng where
 |sl (t:CT) (fr:Bool)
 |row (ty sz:Nat) (t:CT)
def GI:CT->ai
 |.ints k=>.ints k []
 |.ag=>.ag []
 |.ah k=>.ah k []
 |_=>.gen []
def CT.iF:CT->Nat
 |.ah k=>k.size
 |_=>1
def toCT:CT->ai->Option ai
 |.ints k,E=>match E.toI k with|some l=>some (.ints k l)|none=>none
 |.ag,E=>match E.toB with|some l=>some (.ag l)|none=>none
 |.ah k,E=>match E.toR k with|some l=>some (.ah k l)|none=>none
 |_,_=>none
theorem WL(t:CT):(GI t).Nil:=by cases t<;>rfl
theorem Nu{t:CT}{E E':ai}(h:toCT t E=some E'):ai.Eq E E':=by
 cases t with
 |ints k=>
  simp only[toCT]at h
  split at h
  ·rename_i l hl
   cases h
   cases E with
   |ints k' m=>
    simp only[ai.toI]at hl
    split at hl
    ·rename_i hk;cases hl;simp only[ai.Eq,hk]
    ·cases hl
   |gen es=>cases es<;>simp[ai.toI]at hl;subst hl;rfl
   |ag m=>simp[ai.toI]at hl
   |ah k m=>simp[ai.toI]at hl
  ·cases h
 |ag=>
  simp only[toCT]at h
  split at h
  ·rename_i l hl
   cases h
   cases E with
   |ag m=>simp[ai.toB]at hl;subst hl;rfl
   |gen es=>cases es<;>simp[ai.toB]at hl;subst hl;rfl
   |ints k m=>simp[ai.toB]at hl
   |ah k m=>simp[ai.toB]at hl
  ·cases h
 |ah k=>
  simp only[toCT]at h
  split at h
  ·rename_i l hl
   cases h
   cases E with
   |ah k' m=>simp only[ai.toR]at hl;simp only[ai.Eq,hl]
   |gen es=>cases es<;>simp[ai.toR]at hl;subst hl;rfl
   |ints k m=>simp[ai.toR]at hl
   |ag m=>simp[ai.toR]at hl
  ·cases h
 |_=>simp[toCT]at h
structure jL where
 ds:List ng
 ex:List (Nat×Row)
 fz:List Nat
def wy(m:Nat):List (Nat×Nat×Nat)->Bool
 |[]=>true
 |p::l=>bN p.1 m&&wy m l
def Iz(m:Nat):List iB->Bool
 |[]=>true
 |.ptr r _ _::l=>bN r m&&Iz m l
 |.fn _ ps::l=>wy m ps&&Iz m l
 |_=>false
theorem vc{m:Nat}{EX:List Nat}(hE:∀i,i<m->EX[i]?=some i):∀{ps:List (Nat×Nat×Nat)},wy m ps=true->sA EX ps ps=true
 |[],_=>rfl
 |(r,a,b)::l,h=>by
  simp only[wy,aE]at h
  simp only[sA,j6,hE r (lE h.1),vc hE h.2]
  simp
theorem qad(hE:∀i,i<m->EX[i]?=some i):∀{cs:List iB},Iz m cs=true->o9 EX cs cs=true:=by
 intro cs
 induction cs with
 |nil=>intro _;rfl
 |cons x l ih=>
  intro h
  cases x with
  |ptr r a b=>
   simp only[Iz,aE]at h
   simp only[o9,j6,hE r (lE h.1),ih h.2]
   simp
  |fn f ps=>
   simp only[Iz,aE]at h
   simp only[o9,vc hE h.1,ih h.2]
   simp
  |_=>simp[Iz]at h
def SZ(m:Nat)(R:Rows)(c:D)(s:jL):Option (D×jL):=
  match c with
  | .int k n=>some (.int k n,s)
  | .bool b=>some (.bool b,s)
  | .str x=>some (.str x,s)
  | .iw=>some (.iw,s)
  | .jI=>some (.jI,s)
  | .gk r=>match bN r m with|true=>some (.gk r,s)|false=>none
  | .ptr r o f=>match bN r m with|true=>some (.ptr r o f,s)|false=>none
  | .gj f cs=>match Iz m cs with|true=>some (.gj f cs,s)|false=>none
  | .c7=>match s with
    |⟨.sl t f::ds,ex,fz⟩=>some (.sl t.iF (GI t) f,⟨ds,ex,fz⟩)
    |⟨.row ty sz t::ds,ex,fz⟩=>match bN 0 sz with|true=>some (.all (m+ex.length),⟨ds,ex++[(R.length+ex.length,⟨false,ty,sz,GI t⟩)],fz⟩)|false=>none
    |_=>none
  | .emp=>match s with
    |⟨.sl t f::ds,ex,fz⟩=>some (.sl t.iF (GI t) f,⟨ds,ex,fz⟩)
    |⟨.row ty sz t::ds,ex,fz⟩=>match bN 0 sz with|true=>some (.all (m+ex.length),⟨ds,ex++[(R.length+ex.length,⟨false,ty,sz,GI t⟩)],fz⟩)|false=>none
    |_=>none
  | .sl n E fr=>match s with
    | ⟨.sl t f::ds,ex,fz⟩=>match toCT t E,(!f||fr)&&(bX n t.iF||IA E) with
      |some E',true=>some (.sl t.iF E' f,⟨ds,ex,fz⟩)
      |_,_=>none
    |_=>none
  | .all r=>match s with
    | ⟨.sl t f::ds,ex,fz⟩=>match R.getD r none with
      | some ⟨box,_,j5,E⟩=>match toCT t E,!box&&(bX j5 t.iF&&Nat.ble m r) with
        |some E',true=>some (.sl t.iF E' f,⟨ds,ex,r::fz⟩)
        |_,_=>none
      |none=>none
    | ⟨.row ty sz t::ds,ex,fz⟩=>match bN r m with
      |true=>some (.all r,⟨ds,ex,fz⟩)
      | false=>match R.getD r none with
        | some ⟨box,jS,j5,E⟩=>match toCT t E,!box&&(bX jS ty&&bX j5 sz) with
          |some E',true=>some (.all (m+ex.length),⟨ds,ex++[(r,⟨false,ty,sz,E'⟩)],fz⟩)
          |_,_=>none
        |none=>none
    |_=>none
  | .own r o n=>match s with
    | ⟨.sl t f::ds,ex,fz⟩=>match R.getD r none with
      | some ⟨box,_,j5,E⟩=>match toCT t ((E.drop o).take n),!box&&(bX j5 t.iF&&Nat.ble m r) with
        |some E',true=>some (.sl t.iF E' f,⟨ds,ex,r::fz⟩)
        |_,_=>none
      |none=>none
    |_=>none
  |_=>none
def Kz(m:Nat)(R:Rows):List D->jL->Option (List D×jL)
 |[],s=>some ([],s)
 |c ::cs,s=>match SZ m R c s with
  |some (c',s')=>match Kz m R cs s' with
   |some (rL,IB)=>some (c'::rL,IB)
   |none=>none
  |none=>none
def EI(m:Nat)(R:Rows)(d:D)(s:jL):Option (D×jL):=
 match d with
 |.agg cs=>match Kz m R cs s with|some (rL,s')=>some (.agg rL,s')|none=>none
 |d=>SZ m R d s
def sB(m:Nat)(R:Rows):List D->jL->Option (List D×jL)
 |[],s=>some ([],s)
 |c ::cs,s=>match EI m R c s with
  |some (c',s')=>match sB m R cs s' with
   |some (rL,IB)=>some (c'::rL,IB)
   |none=>none
  |none=>none
def IC(m:Nat)(R:Rows)(d:D)(s:jL):Option (D×jL):=
 match d with
 |.dw ds=>match sB m R ds s with|some (ot,s')=>some (.dw ot,s')|none=>none
 |d=>EI m R d s
def KA(m:Nat)(R:Rows):Nat->Nat->jL->Option (List Row×jL)
 |0,_,s=>some ([],s)
 |n + 1,i,s=>match R.getD i none with
  |some ⟨true,ty,sz,.gen [e]⟩=>match Kz m R e s with
   |some (e',s')=>match KA m R n (i+1) s' with
    |some (rs,IB)=>some (⟨true,ty,sz,.gen [e']⟩::rs,IB)
    |none=>none
   |none=>none
  |some ⟨false,ty,sz,E⟩=>match KA m R n (i+1) s with
   |some (rs,IB)=>some (⟨false,ty,sz,E⟩::rs,IB)
   |none=>none
  |_=>none
def EJ(m:Nat)(ex:List (Nat×Row)):List Nat:=List.range m++ex.map (·.1)
def ob(m:Nat)(ds:List ng)(d:D)(R:Rows)(K:D->List Row->Prop):Prop:=
 match IC m R d ⟨ds,[],[]⟩with
 |some (d',s)=>match KA m R m 0 s with
  |some (rs,s')=>cu (sx m (EJ m s'.ex)&&s'.fz.all (KB (EJ m s'.ex))) (K d' (rs++s'.ex.map (·.2)))
  |none=>False
 |none=>False
def sC(R:Rows)(x:Nat×Row):Prop:=
 x.2.box=false/\match R.getD x.1 none with
 |some ⟨Am,jS,j5,iT⟩=>Am=false/\jS=x.2.ty/\j5=x.2.sz/\ai.Eq iT x.2.es
 |none=>0<x.2.sz/\x.2.es.Nil
structure ou(m:Nat)(R:Rows)(EX:List Nat)(s:jL):Prop where
 at_:∀(i:Nat) x,s.ex[i]?=some x->EX[m+i]?=some x.1
 gz:∀x∈s.ex,sC R x
 out:∀r∈s.fz,KB EX r=true
def An(s s':jL):Prop:=s.ex<+:s'.ex/\s.fz<:+s'.fz
theorem An.refl(s:jL):An s s:=⟨bZ _,cA _⟩
theorem An.trans{a b c:jL}(h:An a b)(g:An b c):An a c:=⟨h.1.trans g.1,h.2.trans g.2⟩
theorem qd(h:IA E=true):E.Nil:=ai.ov.2 (SH h)
theorem Zhk{c c':D}{s s':jL}(h:SZ m R c s=some (c',s')):
    An s s'/\((∀x∈s.ex,sC R x)-> ∀x∈s'.ex,sC R x)/\ ∀EX:List Nat,(∀i,i<m->EX[i]? =some i)->ou m R EX s'->iI EX m R c c':=by
  have Nv: ∀{ty sz t},bN 0 sz=true->((∀x∈s.ex,sC R x)-> ∀x∈s.ex++[(R.length+s.ex.length,(⟨false,ty,sz,GI t⟩:Row))],sC R x)/\
      ∀(EX:List Nat) (ds:List ng) (fz:List Nat),ou m R EX ⟨ds,s.ex++[(R.length+s.ex.length,(⟨false,ty,sz,GI t⟩:Row))],fz⟩->ID EX R (m+s.ex.length)=true:=by
    intro ty sz t fp
    have hn:R.getD (R.length+s.ex.length) none=none:=by rw[aV,List.getElem?_eq_none (by omega)];rfl
    refine⟨λhg x hx=> ?_,λEX ds fz hG=> ?_⟩
    . simp only[cB,cC]at hx
      rcases hx with hx|rfl
      . exact hg x hx
      . refine⟨rfl,?_⟩
        simp only[hn]
        exact⟨lE fp,WL t⟩
    . have:=hG.at_ s.ex.length (R.length+s.ex.length,⟨false,ty,sz,GI t⟩) (by simp)
      simp only[ID,this,hn]
  cases c<;>simp only[SZ]at h<;>try(cases h;done)
  case int k n=>cases h;exact⟨.refl _,id,λEX _ _=>by simp [iI,cu]⟩
  case bool b=>cases h;exact⟨.refl _,id,λEX _ _=>by simp [iI]⟩
  case str x=>cases h;exact⟨.refl _,id,λEX _ _=>by simp [iI]⟩
  case iw=>cases h;exact⟨.refl _,id,λEX _ _=>by simp [iI]⟩
  case jI=>cases h;exact⟨.refl _,id,λEX _ _=>by simp [iI]⟩
  case gk r=>
    split at h
    . rename_i hr
      cases h
      refine⟨.refl _,id,λEX hE _=> ?_⟩
      have:=hE r (lE hr)
      simp only[iI,dd,j6,this]
      exact⟨by simp,trivial⟩
    . cases h
  case ptr r o f=>
    split at h
    . rename_i hr
      cases h
      refine⟨.refl _,id,λEX hE _=> ?_⟩
      have:=hE r (lE hr)
      simp only[iI,dd,j6,this]
      exact⟨by simp,trivial⟩
    . cases h
  case gj f cs=>
    split at h
    . rename_i hr
      cases h
      refine⟨.refl _,id,λEX hE _=> ?_⟩
      simp only[iI,dd,qad hE hr]
      exact⟨by simp,trivial⟩
    . cases h
  case c7=>
    split at h
    . cases h;exact⟨.refl _,id,λEX _ _=>WL _⟩
    . split at h
      . rename_i fp
        cases h
        obtain⟨v1,v2⟩:=Nv fp
        exact⟨⟨cD _ _,cA _⟩,v1,λEX _ hG=>by simp only[iI,dd];exact⟨v2 EX _ _ hG,trivial⟩⟩
      . cases h
    . cases h
  case emp=>
    split at h
    . cases h;exact⟨.refl _,id,λEX _ _=>WL _⟩
    . split at h
      . rename_i fp
        cases h
        obtain⟨v1,v2⟩:=Nv fp
        exact⟨⟨cD _ _,cA _⟩,v1,λEX _ hG=>by simp only[iI,dd];exact⟨v2 EX _ _ hG,trivial⟩⟩
      . cases h
    . cases h
  case sl n E fr=>
    split at h
    . rename_i t f ds ex fz
      split at h
      . rename_i E' hE hb
        cases h
        simp only[aE,Bool.or_eq_true]at hb
        refine⟨.refl _,id,λEX _ _=> ?_⟩
        simp only[iI,dd]
        exact⟨by simpa using hb.1,hb.2.symm.imp qd bE,Nu hE⟩
      . cases h
    . cases h
  case all r =>
    split at h
    . rename_i t f ds ex fz
      split at h
      . rename_i box ty j5 E hR
        split at h
        . rename_i E' hE hb
          cases h
          simp only[aE]at hb
          refine⟨⟨bZ _,cE _ _⟩,id,λEX _ hG=> ?_⟩
          simp only[iI,hR,dd,aE]
          exact⟨⟨⟨⟨hb.1,hb.2.1⟩,hG.out r (by simp)⟩,hb.2.2⟩,Nu hE⟩
        . cases h
      . cases h
    . rename_i ty sz t ds ex fz
      split at h
      . rename_i bd
        cases h
        refine⟨.refl _,id,λEX pO hG=> ?_⟩
        simp only[iI,dd]
        have:=pO r (lE bd)
        exact⟨by simp [j6,this],trivial⟩
      . split at h
        . rename_i box jS j5 E hR
          split at h
          . rename_i E' hE hb
            cases h
            simp only[aE,Bool.not_eq_true']at hb
            refine⟨⟨cD _ _,cA _⟩,λhg x hx=> ?_,λEX pO hG=> ?_⟩
            . simp only[cB,cC]at hx
              rcases hx with hx|rfl
              . exact hg x hx
              . refine⟨rfl,?_⟩
                simp only[hR]
                exact⟨hb.1,bE hb.2.1,bE hb.2.2,Nu hE⟩
            . have:=hG.at_ ex.length (r,⟨false,ty,sz,E'⟩) (by simp)
              simp only[iI,dd]
              exact⟨by simp [j6,this],trivial⟩
          . cases h
        . cases h
    . cases h
  case own r o n=>
    split at h
    . rename_i t f ds ex fz
      split at h
      . rename_i box ty j5 E hR
        split at h
        . rename_i E' hE hb
          cases h
          simp only[aE]at hb
          refine⟨⟨bZ _,cE _ _⟩,id,λEX _ hG=> ?_⟩
          simp only[iI,hR,dd,aE]
          exact⟨⟨⟨⟨hb.1,hb.2.1⟩,hG.out r (by simp)⟩,hb.2.2⟩,Nu hE⟩
        . cases h
      . cases h
    . cases h
theorem ou.mono{s s':jL}(hl:An s s')(h:ou m R EX s'):ou m R EX s:=
 ⟨λi x hx=>h.at_ i x (by
  obtain⟨t,ht⟩:=hl.1
  rw[<-ht,bI (List.getElem?_eq_some_iff.1 hx).1];exact hx),λx hx=>h.gz x (hl.1.subset hx),λr hr=>h.out r (hl.2.subset hr)⟩
theorem WM{m:Nat}{R:Rows}:∀{cs rL:List D} {s s':jL},Kz m R cs s=some (rL,s')->
 An s s'/\((∀x∈s.ex,sC R x)->∀x∈s'.ex,sC R x)/\∀EX:List Nat,(∀i,i<m->EX[i]?=some i)->ou m R EX s'->DN EX m R cs rL
 |[],rL,s,s',h=>by simp only[Kz]at h;cases h;exact⟨.refl _,id,λ_ _ _=>trivial⟩
 |c ::cs,rL,s,s',h=>by
  simp only[Kz]at h
  split at h
  ·rename_i c1 s1 h1
   split at h
   ·rename_i cs1 s2 h2
    cases h
    obtain⟨a1,a2,a3⟩:=Zhk h1
    obtain⟨b1,b2,b3⟩:=WM h2
    exact⟨a1.trans b1,λh=>b2 (a2 h),λEX pO hG=>⟨a3 EX pO (hG.mono b1),b3 EX pO hG⟩⟩
   ·cases h
  ·cases h
theorem xd{s s':jL}(h:EI m R d s=some (d',s')):
 An s s'/\((∀x∈s.ex,sC R x)->∀x∈s'.ex,sC R x)/\∀EX:List Nat,(∀i,i<m->EX[i]?=some i)->ou m R EX s'->pb EX m R d d':=by
 unfold EI at h
 split at h
 ·rename_i cs
  split at h
  ·rename_i rL s1 h1
   cases h
   exact WM h1
  ·cases h
 ·rename_i gq
  obtain⟨a1,a2,a3⟩:=Zhk h
  refine⟨a1,a2,λEX pO hG=>?_⟩
  have h3:=a3 EX pO hG
  cases d' with
  |agg ps=>simp[iI]at h3
  |_=>exact h3
theorem Zpa{m:Nat}{R:Rows}:∀{cs rL:List D} {s s':jL},sB m R cs s=some (rL,s')->
 An s s'/\((∀x∈s.ex,sC R x)->∀x∈s'.ex,sC R x)/\∀EX:List Nat,(∀i,i<m->EX[i]?=some i)->ou m R EX s'->wz EX m R cs rL
 |[],rL,s,s',h=>by simp only[sB]at h;cases h;exact⟨.refl _,id,λ_ _ _=>trivial⟩
 |c ::cs,rL,s,s',h=>by
  simp only[sB]at h
  split at h
  ·rename_i c1 s1 h1
   split at h
   ·rename_i cs1 s2 h2
    cases h
    obtain⟨a1,a2,a3⟩:=xd h1
    obtain⟨b1,b2,b3⟩:=Zpa h2
    exact⟨a1.trans b1,λh=>b2 (a2 h),λEX pO hG=>⟨a3 EX pO (hG.mono b1),b3 EX pO hG⟩⟩
   ·cases h
  ·cases h
theorem zad{s s':jL}(h:IC m R d s=some (d',s')):
 An s s'/\((∀x∈s.ex,sC R x)->∀x∈s'.ex,sC R x)/\∀EX:List Nat,(∀i,i<m->EX[i]?=some i)->ou m R EX s'->sw EX m R d d':=by
 unfold IC at h
 split at h
 ·rename_i cs
  split at h
  ·rename_i rL s1 h1
   cases h
   exact Zpa h1
  ·cases h
 ·rename_i gq
  obtain⟨a1,a2,a3⟩:=xd h
  refine⟨a1,a2,λEX pO hG=>?_⟩
  have h3:=a3 EX pO hG
  cases d' with
  |dw ps=>simp[pb,iI]at h3
  |_=>exact h3
theorem WN{m:Nat}{R:Rows}:∀{n i:Nat} {rs:List Row} {s s':jL},KA m R n i s=some (rs,s')->
 An s s'/\((∀x∈s.ex,sC R x)->∀x∈s'.ex,sC R x)/\∀EX:List Nat,(∀i,i<m->EX[i]?=some i)->ou m R EX s'->lW EX m R (bO i n) rs
 |0,i,rs,s,s',h=>by simp only[KA]at h;cases h;exact⟨.refl _,id,λ_ _ _=>trivial⟩
 |n + 1,i,rs,s,s',h=>by
  simp only[KA]at h
  split at h
  ·rename_i ty sz e hR
   split at h
   ·rename_i e1 s1 h1
    split at h
    ·rename_i rs1 s2 h2
     cases h
     obtain⟨a1,a2,a3⟩:=WM h1
     obtain⟨b1,b2,b3⟩:=WN h2
     refine⟨a1.trans b1,λh=>b2 (a2 h),λEX pO hG=>?_⟩
     rw[cF]
     simp only[lW,hR,dd]
     exact⟨⟨by simp,a3 EX pO (hG.mono b1)⟩,b3 EX pO hG⟩
    ·cases h
   ·cases h
  ·rename_i ty sz E hR
   split at h
   ·rename_i rs1 s2 h2
    cases h
    obtain⟨b1,b2,b3⟩:=WN h2
    refine⟨b1,b2,λEX pO hG=>?_⟩
    rw[cF]
    simp only[lW,hR,dd]
    refine⟨⟨by simp,?_⟩,b3 EX pO hG⟩
    cases E with
    |gen es=>cases es<;>simp[ai.Eq]
    |ah k l=>simp[ai.Eq,Wj]
    |_=>simp[ai.Eq]
   ·cases h
  ·cases h
theorem Quj{ex:List Nat}{m:Nat}{R:Rows}:∀{l1 l2:List Nat} {p1 p2:List Row},lW ex m R l1 p1->lW ex m R l2 p2->lW ex m R (l1++l2) (p1++p2)
 |[],l2,[],p2,_,h=>h
 |r::l1,l2,p::p1,p2,h1,h2=>by
  simp only[List.cons_append,lW]at h1⊢
  exact⟨h1.1,Quj h1.2 h2⟩
 |[],_,_::_,_,h,_=>h.elim
 |_::_,_,[],_,h,_=>h.elim
theorem Zci{ex:List Nat}{m:Nat}{R:Rows}:∀{l:List (Nat×Row)},(∀x∈l,sC R x)->lW ex m R (l.map (·.1)) (l.map (·.2))
 |[],_=>trivial
 |(r,⟨box,ty,sz,es⟩)::l,h=>by
  simp only[List.map_cons,lW]
  refine⟨?_,Zci λx hx=>h x (by simp[hx])⟩
  obtain⟨h1,h2⟩:=h (r,⟨box,ty,sz,es⟩) (by simp)
  simp only at h1 h2
  subst h1
  split
  ·rename_i Am jS j5 iT hR
   simp only[hR]at h2
   obtain⟨rfl,rfl,rfl,h2⟩:=h2
   simp only[dd]
   exact⟨by simp,h2⟩
  ·rename_i hR
   simp only[hR]at h2
   simp only[dd]
   exact⟨by simpa using h2.1,h2.2⟩
theorem Zbn{ds:List ng}{K:D->List Row->Prop}(h:ob m ds d R K):∃res rows,K res rows/\Ao m res rows d R:=by
 unfold ob at h
 split at h
 ·rename_i d' s h1
  split at h
  ·rename_i rs s' h2
   simp only[dd,aE]at h
   obtain⟨⟨hx,hf⟩,hK⟩:=h
   obtain⟨a1,a2,a3⟩:=zad h1
   obtain⟨b1,b2,b3⟩:=WN h2
   have GJ:∀x∈s'.ex,sC R x:=b2 (a2 λx hx=>by simp at hx)
   have pO:∀i,i<m->(EJ m s'.ex)[i]?=some i:=λi hi=>by
    unfold EJ
    rw[bI (by simpa using hi)];simp[hi]
   have hG:ou m R (EJ m s'.ex) s':=⟨λi x hx=>by
    unfold EJ
    rw[List.getElem?_append_right (by simp)]
    simp[hx],GJ,λr hr=>List.all_eq_true.1 hf r hr⟩
   refine⟨d',_,hK,EJ m s'.ex,hx,a3 _ pO (hG.mono b1),?_⟩
   have h3:=b3 _ pO hG
   have:EJ m s'.ex=bO 0 m++s'.ex.map (·.1):=by unfold EJ;rw[List.range_eq_range']
   refine Eq.mpr ?_ (Quj h3 (Zci GJ))
   rw[<-this]
  ·exact h.elim
 ·exact h.elim

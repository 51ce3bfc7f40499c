import Derived.Test.YtaemmjbkndlkeaaGreatMigrateStartsDraw
import Derived.IntWalk
open List renaming getD->aV,ext_getElem->bR,map_map->bY,prefix_refl->bZ,suffix_refl->cA,mem_append->cB,mem_singleton->cC,prefix_append->cD,suffix_cons->cE,getElem?_append_left->bI,range'->bO,range'_succ->cF
open Nat renaming beq->bX,blt->bN
set_option linter.all false
namespace Go.GD
open Go
variable {E:ai}{EX ex:List Nat}{M N m:Nat}{P:Program}{Q:Ex->St->Prop}{R:Rows}{c:Ctx}{code:Code}{d d':D}{ro:Option Nat}{st:St}{w:World}
def sq(ex:List Nat)(M:Nat)(R:Rows)(d p:D):Prop:=
 match p with
 |.dead=>True
 |.ptr i o f=>match d with|.ptr r o' f'=>cv (ka ex i r) (o'=o/\f'=f)|_=>False
 |.iu sz es i off=>match d with|.iu j9 iW i' iL=>j9=sz/\ai.Eq iW es/\i'=i/\iL=off|_=>False
 |p=>sr ex M R d p
def BQ(ex:List Nat)(M:Nat)(R:Rows)(env:List (Nat×D)):List (Nat×D)->Prop
 |[]=>True
 |(t,p)::l=>sq ex M R (look env t) p/\BQ ex M R env l
def fold(M:Nat)(ex:List Nat)(st:St)(mi:List (Nat×D))(aj:List Row):Prop:=
 cv (ss M ex) (BQ ex M st.rows st.env mi/\lQ ex M st.rows ex aj)
theorem xc{rows:List Row}(hm:Mem c w)(hR:∀r,c.R r=R.getD r none)(db:lQ ex m R ex rows)(ez:∀r row,c.R r=some row->¬c.V r->m<=r->c.base<=c.ρ r){d p:D}{v:Value}(h:sq ex m R d p)(hr:Rep c w d v):Rep (c.out ex rows) w p v:=by
 have nG:∀b,c.I b->(c.out ex rows).I b/\w.heap[b]?=w.heap[b]? :=λb hb=>⟨.inl hb,rfl⟩
 cases p with
 |dead=>trivial
 |ptr i o f=>
  simp only[sq]at h
  split at h
  ·rename_i r o' f'
   simp only[dd]at h
   obtain⟨hx,rfl,rfl⟩:=h
   exact Td (w:=w) hR db hx hr
  ·exact h.elim
 |iu sz es i off=>
  simp only[sq]at h
  split at h
  ·obtain⟨rfl,he,rfl,rfl⟩:=h
   have he:=ai.Af he
   obtain⟨b,o,arr,ty,fz,h1,h2,h3,h4,h5⟩:=hr
   rw[he]at h3 h5
   exact⟨b,o,arr,ty,fz,h1,.inl h2,h3,h4,nB nG _ _ _ _ h5⟩
  ·exact h.elim
 |_=>
  simp only[sq]at h
  exact Te hm hR db ez h hr
theorem Zj7{c:Ctx}{w:World}{ex:List Nat}{m:Nat}{R:Rows}{rows:List Row}(hm:Mem c w)(hR:∀r,c.R r=R.getD r none)(db:lQ ex m R ex rows)(ez:∀r row,c.R r=some row->¬c.V r->m<=r->c.base<=c.ρ r){env:List (Nat×D)}{a:Act}(he:∀t,Rep c w (look env t) (a.tmps.getD t undef)):
 ∀{mi:List (Nat×D)},BQ ex m R env mi->∀t,Rep (c.out ex rows) w (look mi t) (a.tmps.getD t undef)
 |[],_,t=>trivial
 |(u,p)::l,h,t=>by
  have:=Zj7 hm hR db ez he h.2 t
  rw[AR]
  split
  ·rename_i e
   subst e
   exact xc hm hR db ez h.1 (he u)
  ·exact this
theorem zc{c0:Ctx}{w0:World}{a:Act}(hs:fj N M c0 w0 c w st a){mi:List (Nat×D)}{aj:List Row}(h:fold M ex st mi aj):∃c',fj N M c0 w0 c' w ⟨mi,aj.map some⟩ a:=by
 unfold fold at h
 simp only[dd]at h
 obtain⟨hex,hE,db⟩:=h
 obtain⟨ez,je,fw⟩:=Tf hs hex db
 refine⟨c.out ex aj,je,λr=>?_,Zj7 hs.mem hs.rows db ez hs.env hE,hs.size,hs.defers,hs.fy,hs.gw,fw⟩
 simp only[Ctx.out,aV,List.getElem?_map]
 cases aj[r]? <;>rfl
theorem Tr.mono{Q Q':Ex->St->Prop}(hq:∀e st,Q e st->Q' e st)(h:tW ro P N M code st Q):tW ro P N M code st Q':=
 λc0 w0 c w a hs=>wpIn_mono (h c0 w0 c w a hs) λe a' w' ⟨ex,jq,c',h1,h2,h3⟩=>⟨ex,jq,c',h1,hq _ _ h2,h3⟩
theorem qag{α:Type}(F:α->List (Nat×D)×List Row)(wm:α->Prop)(μ:α->Nat)
 (a0:α) (iZ:List Nat) (hp:wm a0) (h0:fold M iZ st (F a0).1 (F a0).2)
 (round:∀a,wm a->tW ro P N M code ⟨(F a).1,(F a).2.map some⟩ λe jq=>match e with
  |.normal=>∃b ex,wm b/\μ b<μ a/\fold M ex jq (F b).1 (F b).2
  |.exit i=>Q (.exit i) jq
  |.ret=>Q .ret jq):tW ro P N M (.loop code) st Q:=by
 intro c0 w0 c w a hs
 have key:∀(n:Nat) (x:α),wm x->μ x<n->∀(c:Ctx) (w:World) (a:Act),fj N M c0 w0 c w ⟨(F x).1,(F x).2.map some⟩ a->
  Code.roundsIn (AT ro) 0 P code (λe a' w'=>∃ex jq c',mO e=some ex/\Q ex jq/\fj N M c0 w0 c' w' jq a') n a w:=by
  intro n
  induction n with
  |zero=>intro x _ h;omega
  |succ n ih=>
   intro x hx bd c w a hs
   rw[roundsIn_succ]
   refine wpIn_mono (round x hx c0 w0 c w a hs) λe a' w' hq=>?_
   obtain⟨ex,jq,c',he,hq,iT⟩:=hq
   cases e<;>simp only[mO,Option.some.injEq,reduceCtorEq]at he
   ·subst he
    obtain⟨b,ex,h1,h2,h3⟩:=hq
    obtain⟨Tg,WW⟩:=zc iT h3
    exact ih b h1 (by omega) Tg w' a' WW
   ·subst he;exact⟨_,jq,c',rfl,hq,iT⟩
   ·subst he;exact⟨_,jq,c',rfl,hq,iT⟩
 obtain⟨c',iT⟩:=zc hs h0
 exact wpIn_loop_rounds _ (key (μ a0+1) a0 hp (by omega) c' w a iT)
structure bu where
 α:Type
 F:St->α->List (Nat×D)×List Row
 a0:St->α
 iZ:St->List Nat
 next:St->α:=a0
 ex:St->List Nat:=iZ
structure Ask(p:Prop):Prop where
 ok:p
def keyOf:Code->Nat
 |.region id _ _=>id
 |.block id _=>id
 |.seq a _=>keyOf a
 |.loop a=>keyOf a
 |_=>0
def Gn:List (Nat×bu)->Nat->Option bu
 |[],_=>none
 |(k,i)::l,n=>match bX k n with|true=>some i|false=>Gn l n
def It(T:iy)(G:List bb)(M f:Nat)(g:Operand)(st:St)(Q:Ex->St->Prop):Prop:=
 match cu st.env g with
 |.gm gf cs=>match KI ((WX f).map (look st.env)),oX G gf with
  |some ys,some k=>Ir T ys st.env st.rows λR=>cv (bN gf YB)<|Ij G M gf k (.gm f ys::cs.map iE.d) R λks _ R=>Gp ks st.env λenv=>cv (pY (Ag env++Gq R)) (Q .normal ⟨env,R⟩)
  |_,_=>False
 |_=>False
def evL(ds:List D):Operand->D|.tmp i=>ds.getD i .dead|_=>.dead
def opsL(n:Nat):List Operand:=(List.range n).map Operand.tmp
theorem zag{ds:List D}:(opsL ds.length).map (evL ds)=ds:=by
 refine bR (by simp[opsL]) λi h1 h2=>?_
 simp[opsL,evL,aV,h2]
def Iu(vs:List Value):Operand->Value|.tmp i=>vs.getD i undef|_=>undef
theorem qI{vs:List Value}{n:Nat}(h:n=vs.length):(opsL n).map (Iu vs)=vs:=by
 subst h
 refine bR (by simp[opsL]) λi h1 h2=>?_
 simp[opsL,Iu,aV,h2]
theorem yc{c:Ctx}{w:World}:∀{ds:List D} {vs:List Value},kj c w ds vs->∀i,Rep c w (ds.getD i .dead) (vs.getD i undef)
 |[],[],_,i=>by simp[aV];trivial
 |d::ds,v::vs,h,0=>by simpa using h.1.toRep
 |d::ds,v::vs,h,i+1=>by simpa using yc h.2 i
 |[],_::_,h,_=>h.elim
 |_::_,[],h,_=>h.elim
theorem Zec{c:Ctx}{w:World}:∀{cs:List iE} {us:List Value},oH c w cs us->kj c w (cs.map iE.d) us
 |[],[],_=>trivial
 |x::cs,u::us,h=>⟨VRep.Ep (WI.1 h.1),Zec h.2⟩
 |[],_::_,h=>h.elim
 |_::_,[],h=>h.elim
theorem NA{G:List bb}(hG:jB P G){N M f:Nat}{g:Operand}{ps:Array Tmp}{x b:Code}(mI:RF (some f) N (.rangeFunc g ps x b)){T:iy}(h:It T G M f g st Q):Tr P N M (.rangeFunc g ps x b) st Q:=by
 intro c0 w0 c w a hs
 obtain⟨y,⟨hy,hn,Ev,fx,h1⟩,he⟩:=mI
 unfold It at h
 split at h
 rotate_left
 ·exact h.elim
 rename_i gf cs hg
 split at h
 rotate_left
 ·exact h.elim
 rename_i ys k Th lN
 obtain⟨R0,c,h,hs⟩:=Gm h hs
 simp only[dd]at h
 obtain⟨Iv,h⟩:=h
 have Iv:=lE Iv
 rw[<-zag (ds:=.gm f ys::cs.map iE.d)]at h
 obtain⟨ks,val,R',X,h2,h3,h4,h5,h6⟩:=WK hG lN h
 obtain⟨dy,hf⟩:=Gj hG h3
 rw[Ik]at h2
 obtain⟨nf,hQ⟩:=h2
 have Ti:Rep c w (cu st.env g) (a.eval g):=Nu hs.env g
 rw[hg]at Ti
 obtain⟨us,⟨_,Ti⟩|⟨WY,_⟩,BR⟩:=Ti
 rotate_left
 ·exact absurd Iv (Nat.not_lt.2 WY)
 refine wpIn_rangeFunc λfn _=>?_
 obtain⟨rec,mQ⟩:∃rec:Loop,rec={state:=.ready,pending:=none,fn,tmps:=a.tmps,params:=ps,assign:=x,body:=b,defers:=w.heap.size}:=⟨_,rfl⟩
 obtain⟨wd,Iw⟩:∃wd,wd=w.alloc (.deferred (some [])):=⟨_,rfl⟩
 obtain⟨w1,Gr⟩:∃w1,w1=wd.alloc (.loop rec):=⟨_,rfl⟩
 have hsd:wd.heap.size=w.heap.size+1:=by rw[Iw];simp
 have lL:w1.heap.size=w.heap.size+2:=by rw[Gr];simp[hsd]
 have Tj:w1.heap[w.heap.size+1]?=some (.loop rec):=by rw[Gr,<-hsd];exact World.alloc_heap_new wd _
 have hD1:w1.heap[w.heap.size]?=some (.deferred (some [])):=by
  rw[Gr];refine(Ah wd _ _ (by omega)).trans ?_;rw[Iw];exact World.alloc_heap_new w _
 have Gs:∀i,i<w.heap.size->w1.heap[i]?=w.heap[i]? :=λi hi=>by
  rw[Gr];refine(Ah wd _ _ (by omega)).trans ?_;rw[Iw];exact Ah w _ _ hi
 obtain⟨c1,BS⟩:∃c1:Ctx,c1={c with I:=λi=>c.I i\/i=w.heap.size+1}:=⟨_,rfl⟩
 have wo:Q4 c w c1 w1:=by
  rw[BS]
  exact⟨rfl,Nat.le_refl _,λi hi=>⟨.inl hi,Gs i (hs.mem.fh i hi).1⟩,λr z hr=>⟨z,hr,rfl,rfl,rfl,rfl,rfl,Iff.rfl,λhV arr ha=>⟨arr,(Gs _ (Array.getElem?_eq_some_iff.1 ha).1).trans ha,rfl⟩⟩⟩
 have Ix:∀r z,c.R r=some z->¬c.V r->c.ρ r<w.heap.size:=λr z hr hV=>by
  rcases hs.mem.row r z hr with h|⟨_,arr,h,_⟩
  ·exact(hV h.1).elim
  ·exact(Array.getElem?_eq_some_iff.1 h).1
 have Is:Mem c1 w1:=by
  have wo:=wo
  rw[BS]at wo⊢
  refine⟨λr z hr=>tw wo rfl Iff.rfl (λnv=>Gs _ (Ix r z hr nv)) (hs.mem.row r z hr),hs.mem.inj,λi hi=>?_,by have:=hs.mem.top;show c.top<=_;omega,hs.mem.jY.mono wo.I⟩
  rcases hi with hi|hi
  ·have:=(hs.mem.fh i hi).1;exact⟨by omega,(hs.mem.fh i hi).2⟩
  ·exact⟨by omega,λr z hr hV=>by have:=Ix r z hr hV;show c.ρ r≠i;omega⟩
 have Iy:Rep c1 w1 (.gm f ys) (.func (.yield (w.heap.size+1)) #[] #[]):=by
  refine⟨y.ts.map λt=>a.tmps.getD t undef,.inr ⟨fx,w.heap.size+1,rec,rfl,by rw[BS];exact .inr rfl,Tj,by rw[mQ],by rw[mQ],y,hy,?_⟩,?_⟩
  ·cases he
   rw[mQ]
   exact⟨rfl,rfl,rfl,Nat.le_trans hn hs.size,h1,rfl⟩
  ·have:=WZ (c:=c1) (w:=w1) (ev:=cu st.env) (ρ:=a.eval) (xs:=y.ts.map Operand.tmp) (cs:=ys) (by rw[Ev,bY];exact Th) (λz hz=>w7 wo (Nu hs.env z))
   rw[bY]at this
   exact this
 have W0:kj c1 w1 (cs.map iE.d) us:=W3 wo (Zec BR)
 have iQ:kj c1 w1 (.gm f ys::cs.map iE.d) (.func (.yield (w.heap.size+1)) #[] #[]::us):=⟨Iy,W0⟩
 have hlen:(D.gm f ys::cs.map iE.d).length=(Value.func (.yield (w.heap.size+1)) #[] #[]::us).length:=by simp[BR.length]
 have mm:=(h6 c1 w1 (Iu (.func (.yield (w.heap.size+1)) #[] #[]::us)) Is (by rw[BS];have:=hs.base;show c.base<=_;omega) (by rw[BS];exact hs.rows) (λz hz=>by
  simp only[opsL,List.mem_map,List.mem_range]at hz
  obtain⟨i,_,rfl⟩:=hz
  exact yc iQ i) (λv w'=>∃c',jL ks c1 w1 c' w'/\(∀r,c'.R r=R'.getD r none)) λv w' c' hn hR _=>⟨c',hn,hR⟩).1 Iv
 rw[qI hlen]at mm
 refine⟨w.heap.size+1,[{target:=.collected w.heap.size,args:= #[]}],w1,{target:=.fn (.func gf) us.toArray,args:= #[.func (.yield (w.heap.size+1)) #[] #[]]},w1,gf,(Value.func (.yield (w.heap.size+1)) #[] #[]::us).toArray,w1,?_,?_,?_,?_,λe=>(by cases e),?_⟩
 ·rw[Gr,Iw,mQ];exact run_enterLoop_outer _ _ _ _ _
 ·simp only[resolve,Ti]
  simp[go_sem]
 ·intro f' _;trivial
 ·simp only[invoke]
  rw[<-hf,dy.enters (by rw[hf];exact Iv)]
  congr 2
  simp
 ·refine CallsIn.mono (callsIn_wide.2 mm) λe w3 ⟨v,he3,c3,Gt,hR3⟩=>?_
  subst he3
  have Iz:w3.heap[w.heap.size+1]?=some (.loop rec):=(Gt.cz.I _ (by rw[BS];exact .inr rfl)).2.trans Tj
  have Ew:=run_endLoop (P:=P) Iz (by rw[mQ];simp)
  have DF:rec.pending=none:=by rw[mQ]
  rw[DF]at Ew
  refine⟨none,_,Ew,?_⟩
  have BT:Fr (λi=>∃r z,c.R r=some z/\¬c.V r/\c.ρ r=i) w w3:=by
   have BU:=Gt.fr
   rw[BS]at BU
   refine⟨?_,?_,?_,by have:=BU.size;omega,λi hi IA=>(BU.heap i (by omega) IA).trans (Gs i hi)⟩
   ·have:=BU.os;rw[Gr,Iw]at this;exact this
   ·have:=BU.tape;rw[Gr,Iw]at this;exact this
   ·have:=BU.output;rw[Gr,Iw]at this;exact this
  have hN:jL ks c w c3 w3:=by
   refine⟨Gt.mem,?_,BT,λi hi=>?_,λr row hr hV=>?_⟩
   ·have g1:=Gt.cz
    rw[BS]at g1
    refine⟨g1.base,g1.top,λi hi=>⟨(g1.I i (.inl hi)).1,(g1.I i (.inl hi)).2.trans (Gs i (hs.mem.fh i hi).1)⟩,λr row hr=>?_⟩
    obtain⟨ao,q1,q2,q3,q4,q5,q6,qV,q7⟩:=g1.R r row hr
    exact⟨ao,q1,q2,q3,q4,q5,q6,qV,λnv arr ha=>q7 nv arr ((Gs _ (Array.getElem?_eq_some_iff.1 ha).1).trans ha)⟩
   ·have:=Gt.fh i hi
    rw[BS]at this
    rcases this with(g|g)|g|g
    ·exact .inl g
    ·exact .inr (.inr (by omega))
    ·exact .inr (.inl g)
    ·exact .inr (.inr (by omega))
   ·have:=Gt.oc r row hr hV
    rw[BS]at this
    rcases this with g|g|g
    ·exact .inl g
    ·exact .inr (.inl g)
    ·exact .inr (.inr (by omega))
  have tS:lY w0.heap.size w3 ({target:=.collected w.heap.size,args:= #[]}::a.defers):=by
   obtain⟨bs,b1,b2,b3⟩:=hs.defers.step hs.mem BT
   refine⟨w.heap.size::bs,List.nodup_cons.2 ⟨λhm=>?_,b1⟩,by rw[b2];rfl,λi hi=>?_⟩
   ·obtain⟨bs',c1',c2',c3'⟩:=hs.defers
    rw[c2']at b2
    have:bs'=bs:=by
     have:=congrArg (List.map λ(d:Deferred)=>match d.target with|.collected i=>i|_=>0) b2
     simpa[bY,Function.comp_def]using this
    subst this
    have:=(Array.getElem?_eq_some_iff.1 (c3' _ hm).2).1
    omega
   ·rcases List.mem_cons.1 hi with e|e
    ·subst e
     refine⟨hs.reach.fr.size,?_⟩
     have BU:=Gt.fr
     rw[BS]at BU
     exact(BU.heap _ (by omega) fun⟨r,z,q1,q2,q3⟩=>by have:=Ix r z q1 q2;simp only at q3;omega).trans hD1
    ·exact b3 i e
  have hs3:fj N M c0 w0 c3 w3 ⟨r4 ks st.env,R'⟩ {a with defers:={target:=.collected w.heap.size,args:= #[]}::a.defers}:=
   ⟨Gt.mem,hR3,λt=>by rw[BK];exact w7 hN.cz (WO (hs.env t)),hs.size,tS,hs.fy,hs.gw,hs.reach.step h5 hs.gw hN⟩
  refine⟨.normal,⟨r4 ks st.env,R'⟩,_,rfl,hQ,hs3.NB (b:=w.heap.size+1) (o:=.loop rec) (by have:=hs.reach.fr.size;omega) Iz (λ_ _ _ e=>by cases e) (Fk:=λk=>k<YB) (λk ws v hk hv=>?_) (λt k hk=>NC nf (List.mem_append_left _ (W4 hk))) (λr z hr k hk=>NC nf (List.mem_append_right _ (W5 (by rw[<-hR3];exact hr) hk))) ?_⟩
  ·rcases hv with hv|⟨hv,_⟩
   ·exact .inl hv
   ·exact absurd hk (Nat.not_lt.2 hv)
  ·refine tS.to λi hi=>(World.putObj_heap_other λe=>?_).trans hi
   rw[e,Iz]at hi;cases hi
def AU (T:iy)(G:List bb)(N M:Nat)(fq:List (Nat×bu))(rf:Option Nat):Nat->Code->St->(Ex->St->Prop)->Prop
 |0,_,_,_=>False
 |d + 1,code,st,Q=>match code with
  |.rangeFunc g _ _ _=>match rf with|some f=>It T G M f g st Q|none=>False
  |.loop c=>match Gn fq (keyOf c)with
   |some i=>∃(wm:i.α->Prop) (μ:i.α->Nat),wm (i.a0 st)/\fold M (i.iZ st) st (i.F st (i.a0 st)).1 (i.F st (i.a0 st)).2/\∀a:i.α,wm a->o4 T G N M (AU T G N M fq rf d) c ⟨(i.F st a).1,(i.F st a).2.map some⟩ λe jq=>match e with
    |.normal=>(wm (i.next jq)/\μ (i.next jq)<μ a)/\fold M (i.ex jq) jq (i.F st (i.next jq)).1 (i.F st (i.next jq)).2
    |.exit j=>Q (.exit j) jq
    |.ret=>Q .ret jq
   |none=>False
  |_=>False
abbrev LL(T:iy)(G:List bb)(N M:Nat)(fq:List (Nat×bu)):=AU T G N M fq none
theorem Gu{P:Program}(hD:pB P){T:iy}(hT:ji P T){G:List bb}(hG:jB P G){N M:Nat}{fq:List (Nat×bu)}{rf:Option Nat}{ro:Option Nat}(DG:ro=none\/rf=none):∀(d:Nat) (code:Code) (st:St) (Q:Ex->St->Prop),RF rf N code->AU T G N M fq rf d code st Q->tW ro P N M code st Q
 |0,_,_,_,_,h=>h.elim
 |d + 1,code,st,Q,mI,h=>by
  unfold AU at h
  split at h
  ·split at h
   ·rename_i f
    rcases DG with e|e
    ·subst e;exact NA hG mI h
    ·cases e
   ·exact h.elim
  ·rename_i c
   split at h
   ·rename_i i hi
    obtain⟨wm,μ,h2,h3,h4⟩:=h
    have hc:RF rf N c:=by
     cases rf with
     |none=>trivial
     |some f=>exact mI
    refine qag (i.F st) wm μ (i.a0 st) (i.iZ st) h2 h3 λa ha=>Tr.mono (λe jq hq=>?_) (ND hD hT hG (NF rf N) (Gu hD hT hG DG d) c _ _ hc (h4 a ha))
    cases e with
    |normal=>exact⟨_,_,hq.1.1,hq.1.2,hq.2⟩
    |exit j=>exact hq
    |ret=>exact hq
   ·exact h.elim
  ·exact h.elim
def ay(R:Rows)(r j:Nat):D:=match R.getD r none with|some row=>(row.es.get 0).getD j .dead|none=>.dead
def mU(R:Rows)(r:Nat):ai:=match R.getD r none with|some row=>row.es|none=>.gen []
def pZ(R:Rows)(r:Nat):List Int:=match R.getD r none with|some ⟨_,_,_,.ints _ l⟩=>l|_=>[]
def W6(R:Rows)(r:Nat):List Bool:=match R.getD r none with|some ⟨_,_,_,.ag l⟩=>l|_=>[]
def tD(k:RK)(R:Rows)(r:Nat):List (RK.T k):=match R.getD r none with|some ⟨_,_,_,.ah k' l⟩=>(match Ge k' k l with|some m=>m|none=>[])|_=>[]
def jM(d:D)(n:Nat):Nat:=match d with|.all r=>r|.own r _ _=>r|.ptr r _ _=>r|.pa r _ _ _ _ _=>r|_=>n
theorem IB{n:Int}(h1: -9223372036854775808<=n)(h2:n<=9223372036854775807):IntKind.wrap .i64 n=n:=by rw[IntKind.wrap_i64];omega
inductive nd where
 |sl (t:CT) (fr:Bool)
 |row (ty sz:Nat) (t:CT)
def Gv:CT->ai
 |.ints k=>.ints k []
 |.ag=>.ag []
 |.ah k=>.ah k []
 |_=>.gen []
def CT.iJ:CT->Nat
 |.ah k=>k.size
 |_=>1
def toCT:CT->ai->Option ai
 |.ints k,E=>match E.toI k with|some l=>some (.ints k l)|none=>none
 |.ag,E=>match E.toB with|some l=>some (.ag l)|none=>none
 |.ah k,E=>match E.toR k with|some l=>some (.ah k l)|none=>none
 |_,_=>none
theorem W7(t:CT):(Gv t).Nil:=by cases t<;>rfl
theorem NG{t:CT}{E E':ai}(h:toCT t E=some E'):ai.Eq E E':=by
 cases t with
 |ints k=>
  simp only[toCT]at h
  split at h
  ·rename_i l hl
   cases h
   cases E with
   |ints k' m=>
    simp only[ai.toI]at hl
    split at hl
    ·rename_i hk;cases hl;simp only[ai.Eq,hk]
    ·cases hl
   |gen es=>cases es<;>simp[ai.toI]at hl;subst hl;rfl
   |ag m=>simp[ai.toI]at hl
   |ah k m=>simp[ai.toI]at hl
  ·cases h
 |ag=>
  simp only[toCT]at h
  split at h
  ·rename_i l hl
   cases h
   cases E with
   |ag m=>simp[ai.toB]at hl;subst hl;rfl
   |gen es=>cases es<;>simp[ai.toB]at hl;subst hl;rfl
   |ints k m=>simp[ai.toB]at hl
   |ah k m=>simp[ai.toB]at hl
  ·cases h
 |ah k=>
  simp only[toCT]at h
  split at h
  ·rename_i l hl
   cases h
   cases E with
   |ah k' m=>simp only[ai.toR]at hl;simp only[ai.Eq,hl]
   |gen es=>cases es<;>simp[ai.toR]at hl;subst hl;rfl
   |ints k m=>simp[ai.toR]at hl
   |ag m=>simp[ai.toR]at hl
  ·cases h
 |_=>simp[toCT]at h
structure jN where
 ds:List nd
 ex:List (Nat×Row)
 fz:List Nat
def wq(m:Nat):List (Nat×Nat×Nat)->Bool
 |[]=>true
 |p::l=>bN p.1 m&&wq m l
def IC(m:Nat):List iE->Bool
 |[]=>true
 |.ptr r _ _::l=>bN r m&&IC m l
 |.fn _ ps::l=>wq m ps&&IC m l
 |_=>false
theorem vc{m:Nat}{EX:List Nat}(hE:∀i,i<m->EX[i]?=some i):∀{ps:List (Nat×Nat×Nat)},wq m ps=true->su EX ps ps=true
 |[],_=>rfl
 |(r,a,b)::l,h=>by
  simp only[wq,aE]at h
  simp only[su,ka,hE r (lE h.1),vc hE h.2]
  simp
theorem xag(hE:∀i,i<m->EX[i]?=some i):∀{cs:List iE},IC m cs=true->o5 EX cs cs=true:=by
 intro cs
 induction cs with
 |nil=>intro _;rfl
 |cons x l ih=>
  intro h
  cases x with
  |ptr r a b=>
   simp only[IC,aE]at h
   simp only[o5,ka,hE r (lE h.1),ih h.2]
   simp
  |fn f ps=>
   simp only[IC,aE]at h
   simp only[o5,vc hE h.1,ih h.2]
   simp
  |_=>simp[IC]at h
def Tk(m:Nat)(R:Rows)(c:D)(s:jN):Option (D×jN):=
  match c with
  | .int k n=>some (.int k n,s)
  | .bool b=>some (.bool b,s)
  | .str x=>some (.str x,s)
  | .iz=>some (.iz,s)
  | .jJ=>some (.jJ,s)
  | .gq r=>match bN r m with|true=>some (.gq r,s)|false=>none
  | .ptr r o f=>match bN r m with|true=>some (.ptr r o f,s)|false=>none
  | .gm f cs=>match IC m cs with|true=>some (.gm f cs,s)|false=>none
  | .c8=>match s with
    |⟨.sl t f::ds,ex,fz⟩=>some (.sl t.iJ (Gv t) f,⟨ds,ex,fz⟩)
    |⟨.row ty sz t::ds,ex,fz⟩=>match bN 0 sz with|true=>some (.all (m+ex.length),⟨ds,ex++[(R.length+ex.length,⟨false,ty,sz,Gv t⟩)],fz⟩)|false=>none
    |_=>none
  | .emp=>match s with
    |⟨.sl t f::ds,ex,fz⟩=>some (.sl t.iJ (Gv t) f,⟨ds,ex,fz⟩)
    |⟨.row ty sz t::ds,ex,fz⟩=>match bN 0 sz with|true=>some (.all (m+ex.length),⟨ds,ex++[(R.length+ex.length,⟨false,ty,sz,Gv t⟩)],fz⟩)|false=>none
    |_=>none
  | .sl n E fr=>match s with
    | ⟨.sl t f::ds,ex,fz⟩=>match toCT t E,(!f||fr)&&(bX n t.iJ||ID E) with
      |some E',true=>some (.sl t.iJ E' f,⟨ds,ex,fz⟩)
      |_,_=>none
    |_=>none
  | .all r=>match s with
    | ⟨.sl t f::ds,ex,fz⟩=>match R.getD r none with
      | some ⟨box,_,j9,E⟩=>match toCT t E,!box&&(bX j9 t.iJ&&Nat.ble m r) with
        |some E',true=>some (.sl t.iJ E' f,⟨ds,ex,r::fz⟩)
        |_,_=>none
      |none=>none
    | ⟨.row ty sz t::ds,ex,fz⟩=>match bN r m with
      |true=>some (.all r,⟨ds,ex,fz⟩)
      | false=>match R.getD r none with
        | some ⟨box,jV,j9,E⟩=>match toCT t E,!box&&(bX jV ty&&bX j9 sz) with
          |some E',true=>some (.all (m+ex.length),⟨ds,ex++[(r,⟨false,ty,sz,E'⟩)],fz⟩)
          |_,_=>none
        |none=>none
    |_=>none
  | .own r o n=>match s with
    | ⟨.sl t f::ds,ex,fz⟩=>match R.getD r none with
      | some ⟨box,_,j9,E⟩=>match toCT t ((E.drop o).take n),!box&&(bX j9 t.iJ&&Nat.ble m r) with
        |some E',true=>some (.sl t.iJ E' f,⟨ds,ex,r::fz⟩)
        |_,_=>none
      |none=>none
    |_=>none
  |_=>none
def KJ(m:Nat)(R:Rows):List D->jN->Option (List D×jN)
 |[],s=>some ([],s)
 |c ::cs,s=>match Tk m R c s with
  |some (c',s')=>match KJ m R cs s' with
   |some (rI,IE)=>some (c'::rI,IE)
   |none=>none
  |none=>none
def Ey(m:Nat)(R:Rows)(d:D)(s:jN):Option (D×jN):=
 match d with
 |.agg cs=>match KJ m R cs s with|some (rI,s')=>some (.agg rI,s')|none=>none
 |d=>Tk m R d s
def sw(m:Nat)(R:Rows):List D->jN->Option (List D×jN)
 |[],s=>some ([],s)
 |c ::cs,s=>match Ey m R c s with
  |some (c',s')=>match sw m R cs s' with
   |some (rI,IE)=>some (c'::rI,IE)
   |none=>none
  |none=>none
def IF(m:Nat)(R:Rows)(d:D)(s:jN):Option (D×jN):=
 match d with
 |.dw ds=>match sw m R ds s with|some (od,s')=>some (.dw od,s')|none=>none
 |d=>Ey m R d s
def KK(m:Nat)(R:Rows):Nat->Nat->jN->Option (List Row×jN)
 |0,_,s=>some ([],s)
 |n + 1,i,s=>match R.getD i none with
  |some ⟨true,ty,sz,.gen [e]⟩=>match KJ m R e s with
   |some (e',s')=>match KK m R n (i+1) s' with
    |some (rs,IE)=>some (⟨true,ty,sz,.gen [e']⟩::rs,IE)
    |none=>none
   |none=>none
  |some ⟨false,ty,sz,E⟩=>match KK m R n (i+1) s with
   |some (rs,IE)=>some (⟨false,ty,sz,E⟩::rs,IE)
   |none=>none
  |_=>none
def Ez(m:Nat)(ex:List (Nat×Row)):List Nat:=List.range m++ex.map (·.1)
def nU(m:Nat)(ds:List nd)(d:D)(R:Rows)(K:D->List Row->Prop):Prop:=
 match IF m R d ⟨ds,[],[]⟩with
 |some (d',s)=>match KK m R m 0 s with
  |some (rs,s')=>cv (ss m (Ez m s'.ex)&&s'.fz.all (KL (Ez m s'.ex))) (K d' (rs++s'.ex.map (·.2)))
  |none=>False
 |none=>False
def sx(R:Rows)(x:Nat×Row):Prop:=
 x.2.box=false/\match R.getD x.1 none with
 |some ⟨Ai,jV,j9,iW⟩=>Ai=false/\jV=x.2.ty/\j9=x.2.sz/\ai.Eq iW x.2.es
 |none=>0<x.2.sz/\x.2.es.Nil
structure oe(m:Nat)(R:Rows)(EX:List Nat)(s:jN):Prop where
 at_:∀(i:Nat) x,s.ex[i]?=some x->EX[m+i]?=some x.1
 ic:∀x∈s.ex,sx R x
 out:∀r∈s.fz,KL EX r=true
def Aj(s s':jN):Prop:=s.ex<+:s'.ex/\s.fz<:+s'.fz
theorem Aj.refl(s:jN):Aj s s:=⟨bZ _,cA _⟩
theorem Aj.trans{a b c:jN}(h:Aj a b)(g:Aj b c):Aj a c:=⟨h.1.trans g.1,h.2.trans g.2⟩
theorem qd(h:ID E=true):E.Nil:=ai.og.2 (S3 h)
theorem Zk7{c c':D}{s s':jN}(h:Tk m R c s=some (c',s')):
    Aj s s'/\((∀x∈s.ex,sx R x)-> ∀x∈s'.ex,sx R x)/\ ∀EX:List Nat,(∀i,i<m->EX[i]? =some i)->oe m R EX s'->iM EX m R c c':=by
  have NH: ∀{ty sz t},bN 0 sz=true->((∀x∈s.ex,sx R x)-> ∀x∈s.ex++[(R.length+s.ex.length,(⟨false,ty,sz,Gv t⟩:Row))],sx R x)/\
      ∀(EX:List Nat) (ds:List nd) (fz:List Nat),oe m R EX ⟨ds,s.ex++[(R.length+s.ex.length,(⟨false,ty,sz,Gv t⟩:Row))],fz⟩->IG EX R (m+s.ex.length)=true:=by
    intro ty sz t ft
    have hn:R.getD (R.length+s.ex.length) none=none:=by rw[aV,List.getElem?_eq_none (by omega)];rfl
    refine⟨λhg x hx=> ?_,λEX ds fz hG=> ?_⟩
    . simp only[cB,cC]at hx
      rcases hx with hx|rfl
      . exact hg x hx
      . refine⟨rfl,?_⟩
        simp only[hn]
        exact⟨lE ft,W7 t⟩
    . have:=hG.at_ s.ex.length (R.length+s.ex.length,⟨false,ty,sz,Gv t⟩) (by simp)
      simp only[IG,this,hn]
  cases c<;>simp only[Tk]at h<;>try(cases h;done)
  case int k n=>cases h;exact⟨.refl _,id,λEX _ _=>by simp [iM,cv]⟩
  case bool b=>cases h;exact⟨.refl _,id,λEX _ _=>by simp [iM]⟩
  case str x=>cases h;exact⟨.refl _,id,λEX _ _=>by simp [iM]⟩
  case iz=>cases h;exact⟨.refl _,id,λEX _ _=>by simp [iM]⟩
  case jJ=>cases h;exact⟨.refl _,id,λEX _ _=>by simp [iM]⟩
  case gq r=>
    split at h
    . rename_i hr
      cases h
      refine⟨.refl _,id,λEX hE _=> ?_⟩
      have:=hE r (lE hr)
      simp only[iM,dd,ka,this]
      exact⟨by simp,trivial⟩
    . cases h
  case ptr r o f=>
    split at h
    . rename_i hr
      cases h
      refine⟨.refl _,id,λEX hE _=> ?_⟩
      have:=hE r (lE hr)
      simp only[iM,dd,ka,this]
      exact⟨by simp,trivial⟩
    . cases h
  case gm f cs=>
    split at h
    . rename_i hr
      cases h
      refine⟨.refl _,id,λEX hE _=> ?_⟩
      simp only[iM,dd,xag hE hr]
      exact⟨by simp,trivial⟩
    . cases h
  case c8=>
    split at h
    . cases h;exact⟨.refl _,id,λEX _ _=>W7 _⟩
    . split at h
      . rename_i ft
        cases h
        obtain⟨v1,v2⟩:=NH ft
        exact⟨⟨cD _ _,cA _⟩,v1,λEX _ hG=>by simp only[iM,dd];exact⟨v2 EX _ _ hG,trivial⟩⟩
      . cases h
    . cases h
  case emp=>
    split at h
    . cases h;exact⟨.refl _,id,λEX _ _=>W7 _⟩
    . split at h
      . rename_i ft
        cases h
        obtain⟨v1,v2⟩:=NH ft
        exact⟨⟨cD _ _,cA _⟩,v1,λEX _ hG=>by simp only[iM,dd];exact⟨v2 EX _ _ hG,trivial⟩⟩
      . cases h
    . cases h
  case sl n E fr=>
    split at h
    . rename_i t f ds ex fz
      split at h
      . rename_i E' hE hb
        cases h
        simp only[aE,Bool.or_eq_true]at hb
        refine⟨.refl _,id,λEX _ _=> ?_⟩
        simp only[iM,dd]
        exact⟨by simpa using hb.1,hb.2.symm.imp qd bE,NG hE⟩
      . cases h
    . cases h
  case all r =>
    split at h
    . rename_i t f ds ex fz
      split at h
      . rename_i box ty j9 E hR
        split at h
        . rename_i E' hE hb
          cases h
          simp only[aE]at hb
          refine⟨⟨bZ _,cE _ _⟩,id,λEX _ hG=> ?_⟩
          simp only[iM,hR,dd,aE]
          exact⟨⟨⟨⟨hb.1,hb.2.1⟩,hG.out r (by simp)⟩,hb.2.2⟩,NG hE⟩
        . cases h
      . cases h
    . rename_i ty sz t ds ex fz
      split at h
      . rename_i bd
        cases h
        refine⟨.refl _,id,λEX pM hG=> ?_⟩
        simp only[iM,dd]
        have:=pM r (lE bd)
        exact⟨by simp [ka,this],trivial⟩
      . split at h
        . rename_i box jV j9 E hR
          split at h
          . rename_i E' hE hb
            cases h
            simp only[aE,Bool.not_eq_true']at hb
            refine⟨⟨cD _ _,cA _⟩,λhg x hx=> ?_,λEX pM hG=> ?_⟩
            . simp only[cB,cC]at hx
              rcases hx with hx|rfl
              . exact hg x hx
              . refine⟨rfl,?_⟩
                simp only[hR]
                exact⟨hb.1,bE hb.2.1,bE hb.2.2,NG hE⟩
            . have:=hG.at_ ex.length (r,⟨false,ty,sz,E'⟩) (by simp)
              simp only[iM,dd]
              exact⟨by simp [ka,this],trivial⟩
          . cases h
        . cases h
    . cases h
  case own r o n=>
    split at h
    . rename_i t f ds ex fz
      split at h
      . rename_i box ty j9 E hR
        split at h
        . rename_i E' hE hb
          cases h
          simp only[aE]at hb
          refine⟨⟨bZ _,cE _ _⟩,id,λEX _ hG=> ?_⟩
          simp only[iM,hR,dd,aE]
          exact⟨⟨⟨⟨hb.1,hb.2.1⟩,hG.out r (by simp)⟩,hb.2.2⟩,NG hE⟩
        . cases h
      . cases h
    . cases h
theorem oe.mono{s s':jN}(hl:Aj s s')(h:oe m R EX s'):oe m R EX s:=
 ⟨λi x hx=>h.at_ i x (by
  obtain⟨t,ht⟩:=hl.1
  rw[<-ht,bI (List.getElem?_eq_some_iff.1 hx).1];exact hx),λx hx=>h.ic x (hl.1.subset hx),λr hr=>h.out r (hl.2.subset hr)⟩
theorem W8{m:Nat}{R:Rows}:∀{cs rI:List D} {s s':jN},KJ m R cs s=some (rI,s')->
 Aj s s'/\((∀x∈s.ex,sx R x)->∀x∈s'.ex,sx R x)/\∀EX:List Nat,(∀i,i<m->EX[i]?=some i)->oe m R EX s'->DH EX m R cs rI
 |[],rI,s,s',h=>by simp only[KJ]at h;cases h;exact⟨.refl _,id,λ_ _ _=>trivial⟩
 |c ::cs,rI,s,s',h=>by
  simp only[KJ]at h
  split at h
  ·rename_i c1 s1 h1
   split at h
   ·rename_i cs1 s2 h2
    cases h
    obtain⟨a1,a2,a3⟩:=Zk7 h1
    obtain⟨b1,b2,b3⟩:=W8 h2
    exact⟨a1.trans b1,λh=>b2 (a2 h),λEX pM hG=>⟨a3 EX pM (hG.mono b1),b3 EX pM hG⟩⟩
   ·cases h
  ·cases h
theorem xd{s s':jN}(h:Ey m R d s=some (d',s')):
 Aj s s'/\((∀x∈s.ex,sx R x)->∀x∈s'.ex,sx R x)/\∀EX:List Nat,(∀i,i<m->EX[i]?=some i)->oe m R EX s'->o6 EX m R d d':=by
 unfold Ey at h
 split at h
 ·rename_i cs
  split at h
  ·rename_i rI s1 h1
   cases h
   exact W8 h1
  ·cases h
 ·rename_i gv
  obtain⟨a1,a2,a3⟩:=Zk7 h
  refine⟨a1,a2,λEX pM hG=>?_⟩
  have h3:=a3 EX pM hG
  cases d' with
  |agg ps=>simp[iM]at h3
  |_=>exact h3
theorem Zrg{m:Nat}{R:Rows}:∀{cs rI:List D} {s s':jN},sw m R cs s=some (rI,s')->
 Aj s s'/\((∀x∈s.ex,sx R x)->∀x∈s'.ex,sx R x)/\∀EX:List Nat,(∀i,i<m->EX[i]?=some i)->oe m R EX s'->wu EX m R cs rI
 |[],rI,s,s',h=>by simp only[sw]at h;cases h;exact⟨.refl _,id,λ_ _ _=>trivial⟩
 |c ::cs,rI,s,s',h=>by
  simp only[sw]at h
  split at h
  ·rename_i c1 s1 h1
   split at h
   ·rename_i cs1 s2 h2
    cases h
    obtain⟨a1,a2,a3⟩:=xd h1
    obtain⟨b1,b2,b3⟩:=Zrg h2
    exact⟨a1.trans b1,λh=>b2 (a2 h),λEX pM hG=>⟨a3 EX pM (hG.mono b1),b3 EX pM hG⟩⟩
   ·cases h
  ·cases h
theorem qah{s s':jN}(h:IF m R d s=some (d',s')):
 Aj s s'/\((∀x∈s.ex,sx R x)->∀x∈s'.ex,sx R x)/\∀EX:List Nat,(∀i,i<m->EX[i]?=some i)->oe m R EX s'->sr EX m R d d':=by
 unfold IF at h
 split at h
 ·rename_i cs
  split at h
  ·rename_i rI s1 h1
   cases h
   exact Zrg h1
  ·cases h
 ·rename_i gv
  obtain⟨a1,a2,a3⟩:=xd h
  refine⟨a1,a2,λEX pM hG=>?_⟩
  have h3:=a3 EX pM hG
  cases d' with
  |dw ps=>simp[o6,iM]at h3
  |_=>exact h3
theorem W9{m:Nat}{R:Rows}:∀{n i:Nat} {rs:List Row} {s s':jN},KK m R n i s=some (rs,s')->
 Aj s s'/\((∀x∈s.ex,sx R x)->∀x∈s'.ex,sx R x)/\∀EX:List Nat,(∀i,i<m->EX[i]?=some i)->oe m R EX s'->lQ EX m R (bO i n) rs
 |0,i,rs,s,s',h=>by simp only[KK]at h;cases h;exact⟨.refl _,id,λ_ _ _=>trivial⟩
 |n + 1,i,rs,s,s',h=>by
  simp only[KK]at h
  split at h
  ·rename_i ty sz e hR
   split at h
   ·rename_i e1 s1 h1
    split at h
    ·rename_i rs1 s2 h2
     cases h
     obtain⟨a1,a2,a3⟩:=W8 h1
     obtain⟨b1,b2,b3⟩:=W9 h2
     refine⟨a1.trans b1,λh=>b2 (a2 h),λEX pM hG=>?_⟩
     rw[cF]
     simp only[lQ,hR,dd]
     exact⟨⟨by simp,a3 EX pM (hG.mono b1)⟩,b3 EX pM hG⟩
    ·cases h
   ·cases h
  ·rename_i ty sz E hR
   split at h
   ·rename_i rs1 s2 h2
    cases h
    obtain⟨b1,b2,b3⟩:=W9 h2
    refine⟨b1,b2,λEX pM hG=>?_⟩
    rw[cF]
    simp only[lQ,hR,dd]
    refine⟨⟨by simp,?_⟩,b3 EX pM hG⟩
    cases E with
    |gen es=>cases es<;>simp[ai.Eq]
    |ah k l=>simp[ai.Eq,WD]
    |_=>simp[ai.Eq]
   ·cases h
  ·cases h
theorem Qvi{ex:List Nat}{m:Nat}{R:Rows}:∀{l1 l2:List Nat} {p1 p2:List Row},lQ ex m R l1 p1->lQ ex m R l2 p2->lQ ex m R (l1++l2) (p1++p2)
 |[],l2,[],p2,_,h=>h
 |r::l1,l2,p::p1,p2,h1,h2=>by
  simp only[List.cons_append,lQ]at h1⊢
  exact⟨h1.1,Qvi h1.2 h2⟩
 |[],_,_::_,_,h,_=>h.elim
 |_::_,_,[],_,h,_=>h.elim
theorem Zeu{ex:List Nat}{m:Nat}{R:Rows}:∀{l:List (Nat×Row)},(∀x∈l,sx R x)->lQ ex m R (l.map (·.1)) (l.map (·.2))
 |[],_=>trivial
 |(r,⟨box,ty,sz,es⟩)::l,h=>by
  simp only[List.map_cons,lQ]
  refine⟨?_,Zeu λx hx=>h x (by simp[hx])⟩
  obtain⟨h1,h2⟩:=h (r,⟨box,ty,sz,es⟩) (by simp)
  simp only at h1 h2
  subst h1
  split
  ·rename_i Ai jV j9 iW hR
   simp only[hR]at h2
   obtain⟨rfl,rfl,rfl,h2⟩:=h2
   simp only[dd]
   exact⟨by simp,h2⟩
  ·rename_i hR
   simp only[hR]at h2
   simp only[dd]
   exact⟨by simpa using h2.1,h2.2⟩
theorem Ze4{ds:List nd}{K:D->List Row->Prop}(h:nU m ds d R K):∃res rows,K res rows/\Ak m res rows d R:=by
 unfold nU at h
 split at h
 ·rename_i d' s h1
  split at h
  ·rename_i rs s' h2
   simp only[dd,aE]at h
   obtain⟨⟨hx,hf⟩,hK⟩:=h
   obtain⟨a1,a2,a3⟩:=qah h1
   obtain⟨b1,b2,b3⟩:=W9 h2
   have Gw:∀x∈s'.ex,sx R x:=b2 (a2 λx hx=>by simp at hx)
   have pM:∀i,i<m->(Ez m s'.ex)[i]?=some i:=λi hi=>by
    unfold Ez
    rw[bI (by simpa using hi)];simp[hi]
   have hG:oe m R (Ez m s'.ex) s':=⟨λi x hx=>by
    unfold Ez
    rw[List.getElem?_append_right (by simp)]
    simp[hx],Gw,λr hr=>List.all_eq_true.1 hf r hr⟩
   refine⟨d',_,hK,Ez m s'.ex,hx,a3 _ pM (hG.mono b1),?_⟩
   have h3:=b3 _ pM hG
   have:Ez m s'.ex=bO 0 m++s'.ex.map (·.1):=by unfold Ez;rw[List.range_eq_range']
   refine Eq.mpr ?_ (Qvi h3 (Zeu Gw))
   rw[<-this]
  ·exact h.elim
 ·exact h.elim

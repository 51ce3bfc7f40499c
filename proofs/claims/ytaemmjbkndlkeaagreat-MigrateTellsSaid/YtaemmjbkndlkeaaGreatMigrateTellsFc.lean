import Derived.Test.YtaemmjbkndlkeaaGreatMigrateTellsDraw
import Derived.IntWalk
open List renaming getD->aV,ext_getElem->bR,map_map->bY,prefix_refl->bZ,suffix_refl->cA,mem_append->cB,mem_singleton->cC,prefix_append->cD,suffix_cons->cE,getElem?_append_left->bI,range'->bO,range'_succ->cF
open Nat renaming beq->bX,blt->bN
set_option linter.all false
namespace Go.GD
open Go
variable {E:ag}{EX ex:List Nat}{M N m:Nat}{P:Program}{Q:Ex->St->Prop}{R:Rows}{c:Ctx}{code:Code}{d d':D}{ro:Option Nat}{st:St}{w:World}
def ta(ex:List Nat)(M:Nat)(R:Rows)(d p:D):Prop:=
 match p with
 |.dead=>True
 |.ptr i o f=>match d with|.ptr r o' f'=>cy (kD ex i r) (o'=o/\f'=f)|_=>False
 |.iu sz es i off=>match d with|.iu kC jl i' iY=>kC=sz/\ag.Eq jl es/\i'=i/\iY=off|_=>False
 |p=>te ex M R d p
def CJ(ex:List Nat)(M:Nat)(R:Rows)(env:List (Nat×D)):List (Nat×D)->Prop
 |[]=>True
 |(t,p)::l=>ta ex M R (look env t) p/\CJ ex M R env l
def fold(M:Nat)(ex:List Nat)(st:St)(mO:List (Nat×D))(aj:List Row):Prop:=
 cy (th M ex) (CJ ex M st.rows st.env mO/\mr ex M st.rows ex aj)
theorem xc{rows:List Row}(hm:Mem c w)(hR:∀r,c.R r=R.getD r none)(db:mr ex m R ex rows)(fe:∀r row,c.R r=some row->¬c.V r->m<=r->c.base<=c.ρ r){d p:D}{v:Value}(h:ta ex m R d p)(hr:Rep c w d v):Rep (c.out ex rows) w p v:=by
 have oi:∀b,c.I b->(c.out ex rows).I b/\w.heap[b]?=w.heap[b]? :=λb hb=>⟨.inl hb,rfl⟩
 cases p with
 |dead=>trivial
 |ptr i o f=>
  simp only[ta]at h
  split at h
  ·rename_i r o' f'
   simp only[de]at h
   obtain⟨hx,rfl,rfl⟩:=h
   exact UO (w:=w) hR db hx hr
  ·exact h.elim
 |iu sz es i off=>
  simp only[ta]at h
  split at h
  ·obtain⟨rfl,he,rfl,rfl⟩:=h
   have he:=ag.AU he
   obtain⟨b,o,arr,ty,fz,h1,h2,h3,h4,h5⟩:=hr
   rw[he]at h3 h5
   exact⟨b,o,arr,ty,fz,h1,.inl h2,h3,h4,ob oi _ _ _ _ h5⟩
  ·exact h.elim
 |_=>
  simp only[ta]at h
  exact UP hm hR db fe h hr
theorem Zr5{c:Ctx}{w:World}{ex:List Nat}{m:Nat}{R:Rows}{rows:List Row}(hm:Mem c w)(hR:∀r,c.R r=R.getD r none)(db:mr ex m R ex rows)(fe:∀r row,c.R r=some row->¬c.V r->m<=r->c.base<=c.ρ r){env:List (Nat×D)}{a:Act}(he:∀t,Rep c w (look env t) (a.tmps.getD t undef)):
 ∀{mO:List (Nat×D)},CJ ex m R env mO->∀t,Rep (c.out ex rows) w (look mO t) (a.tmps.getD t undef)
 |[],_,t=>trivial
 |(u,p)::l,h,t=>by
  have:=Zr5 hm hR db fe he h.2 t
  rw[BF]
  split
  ·rename_i e
   subst e
   exact xc hm hR db fe h.1 (he u)
  ·exact this
theorem zc{c0:Ctx}{w0:World}{a:Act}(hs:fq N M c0 w0 c w st a){mO:List (Nat×D)}{aj:List Row}(h:fold M ex st mO aj):∃c',fq N M c0 w0 c' w ⟨mO,aj.map some⟩ a:=by
 unfold fold at h
 simp only[de]at h
 obtain⟨hex,hE,db⟩:=h
 obtain⟨fe,jy,gd⟩:=UQ hs hex db
 refine⟨c.out ex aj,jy,λr=>?_,Zr5 hs.mem hs.rows db fe hs.env hE,hs.size,hs.defers,hs.gg,hs.ib,gd⟩
 simp only[Ctx.out,aV,List.getElem?_map]
 cases aj[r]? <;>rfl
theorem Tr.mono{Q Q':Ex->St->Prop}(hq:∀e st,Q e st->Q' e st)(h:uL ro P N M code st Q):uL ro P N M code st Q':=
 λc0 w0 c w a hs=>wpIn_mono (h c0 w0 c w a hs) λe a' w' ⟨ex,jJ,c',h1,h2,h3⟩=>⟨ex,jJ,c',h1,hq _ _ h2,h3⟩
theorem zai{α:Type}(F:α->List (Nat×D)×List Row)(w5:α->Prop)(μ:α->Nat)
 (a0:α) (iU:List Nat) (hp:w5 a0) (h0:fold M iU st (F a0).1 (F a0).2)
 (round:∀a,w5 a->uL ro P N M code ⟨(F a).1,(F a).2.map some⟩ λe jJ=>match e with
  |.normal=>∃b ex,w5 b/\μ b<μ a/\fold M ex jJ (F b).1 (F b).2
  |.exit i=>Q (.exit i) jJ
  |.ret=>Q .ret jJ):uL ro P N M (.loop code) st Q:=by
 intro c0 w0 c w a hs
 have key:∀(n:Nat) (x:α),w5 x->μ x<n->∀(c:Ctx) (w:World) (a:Act),fq N M c0 w0 c w ⟨(F x).1,(F x).2.map some⟩ a->
  Code.roundsIn (BI ro) 0 P code (λe a' w'=>∃ex jJ c',nz e=some ex/\Q ex jJ/\fq N M c0 w0 c' w' jJ a') n a w:=by
  intro n
  induction n with
  |zero=>intro x _ h;omega
  |succ n ih=>
   intro x hx bc c w a hs
   rw[roundsIn_succ]
   refine wpIn_mono (round x hx c0 w0 c w a hs) λe a' w' hq=>?_
   obtain⟨ex,jJ,c',he,hq,jk⟩:=hq
   cases e<;>simp only[nz,Option.some.injEq,reduceCtorEq]at he
   ·subst he
    obtain⟨b,ex,h1,h2,h3⟩:=hq
    obtain⟨UR,YL⟩:=zc jk h3
    exact ih b h1 (by omega) UR w' a' YL
   ·subst he;exact⟨_,jJ,c',rfl,hq,jk⟩
   ·subst he;exact⟨_,jJ,c',rfl,hq,jk⟩
 obtain⟨c',jk⟩:=zc hs h0
 exact wpIn_loop_rounds _ (key (μ a0+1) a0 hp (by omega) c' w a jk)
structure bw where
 α:Type
 F:St->α->List (Nat×D)×List Row
 a0:St->α
 iU:St->List Nat
 next:St->α:=a0
 ex:St->List Nat:=iU
structure Ask(p:Prop):Prop where
 ok:p
def keyOf:Code->Nat
 |.region id _ _=>id
 |.block id _=>id
 |.seq a _=>keyOf a
 |.loop a=>keyOf a
 |_=>0
def Hi:List (Nat×bw)->Nat->Option bw
 |[],_=>none
 |(k,i)::l,n=>match bX k n with|true=>some i|false=>Hi l n
def Jm(T:iz)(G:List bd)(M f:Nat)(g:Operand)(st:St)(Q:Ex->St->Prop):Prop:=
 match cw st.env g with
 |.gv gf cs=>match LI ((YM f).map (look st.env)),pK G gf with
  |some ys,some k=>Jk T ys st.env st.rows λR=>cy (bN gf YB)<|Jd G M gf k (.gv f ys::cs.map iS.d) R λks _ R=>Hj ks st.env λenv=>cy (rW (AV env++Hk R)) (Q .normal ⟨env,R⟩)
  |_,_=>False
 |_=>False
def evL(ds:List D):Operand->D|.tmp i=>ds.getD i .dead|_=>.dead
def opsL(n:Nat):List Operand:=(List.range n).map Operand.tmp
theorem xai{ds:List D}:(opsL ds.length).map (evL ds)=ds:=by
 refine bR (by simp[opsL]) λi h1 h2=>?_
 simp[opsL,evL,aV,h2]
def Jn(vs:List Value):Operand->Value|.tmp i=>vs.getD i undef|_=>undef
theorem yI{vs:List Value}{n:Nat}(h:n=vs.length):(opsL n).map (Jn vs)=vs:=by
 subst h
 refine bR (by simp[opsL]) λi h1 h2=>?_
 simp[opsL,Jn,aV,h2]
theorem yc{c:Ctx}{w:World}:∀{ds:List D} {vs:List Value},kJ c w ds vs->∀i,Rep c w (ds.getD i .dead) (vs.getD i undef)
 |[],[],_,i=>by simp[aV];trivial
 |d::ds,v::vs,h,0=>by simpa using h.1.toRep
 |d::ds,v::vs,h,i+1=>by simpa using yc h.2 i
 |[],_::_,h,_=>h.elim
 |_::_,[],h,_=>h.elim
theorem Zhz{c:Ctx}{w:World}:∀{cs:List iS} {us:List Value},pr c w cs us->kJ c w (cs.map iS.d) us
 |[],[],_=>trivial
 |x::cs,u::us,h=>⟨VRep.Fs (Yv.1 h.1),Zhz h.2⟩
 |[],_::_,h=>h.elim
 |_::_,[],h=>h.elim
theorem OG{G:List bd}(hG:jU P G){N M f:Nat}{g:Operand}{ps:Array Tmp}{x b:Code}(nm:RF (some f) N (.rangeFunc g ps x b)){T:iz}(h:Jm T G M f g st Q):Tr P N M (.rangeFunc g ps x b) st Q:=by
 intro c0 w0 c w a hs
 obtain⟨y,⟨hy,hn,Fx,e6,h1⟩,he⟩:=nm
 unfold Jm at h
 split at h
 rotate_left
 ·exact h.elim
 rename_i gf cs hg
 split at h
 rotate_left
 ·exact h.elim
 rename_i ys k US mo
 obtain⟨R0,c,h,hs⟩:=Hh h hs
 simp only[de]at h
 obtain⟨Jo,h⟩:=h
 have Jo:=lE Jo
 rw[<-xai (ds:=.gv f ys::cs.map iS.d)]at h
 obtain⟨ks,val,R',X,h2,h3,h4,h5,h6⟩:=Yx hG mo h
 obtain⟨dx,hf⟩:=He hG h3
 rw[Je]at h2
 obtain⟨nJ,hQ⟩:=h2
 have UT:Rep c w (cw st.env g) (a.eval g):=OA hs.env g
 rw[hg]at UT
 obtain⟨us,⟨_,UT⟩|⟨YN,_⟩,CK⟩:=UT
 rotate_left
 ·exact absurd Jo (Nat.not_lt.2 YN)
 refine wpIn_rangeFunc λfn _=>?_
 obtain⟨rec,nB⟩:∃rec:Loop,rec={state:=.ready,pending:=none,fn,tmps:=a.tmps,params:=ps,assign:=x,body:=b,defers:=w.heap.size}:=⟨_,rfl⟩
 obtain⟨wd,Jp⟩:∃wd,wd=w.alloc (.deferred (some [])):=⟨_,rfl⟩
 obtain⟨w1,Hl⟩:∃w1,w1=wd.alloc (.loop rec):=⟨_,rfl⟩
 have hsd:wd.heap.size=w.heap.size+1:=by rw[Jp];simp
 have mj:w1.heap.size=w.heap.size+2:=by rw[Hl];simp[hsd]
 have UU:w1.heap[w.heap.size+1]?=some (.loop rec):=by rw[Hl,<-hsd];exact World.alloc_heap_new wd _
 have hD1:w1.heap[w.heap.size]?=some (.deferred (some [])):=by
  rw[Hl];refine(AW wd _ _ (by omega)).trans ?_;rw[Jp];exact World.alloc_heap_new w _
 have Hm:∀i,i<w.heap.size->w1.heap[i]?=w.heap[i]? :=λi hi=>by
  rw[Hl];refine(AW wd _ _ (by omega)).trans ?_;rw[Jp];exact AW w _ _ hi
 obtain⟨c1,CL⟩:∃c1:Ctx,c1={c with I:=λi=>c.I i\/i=w.heap.size+1}:=⟨_,rfl⟩
 have w6:ju c w c1 w1:=by
  rw[CL]
  exact⟨rfl,Nat.le_refl _,λi hi=>⟨.inl hi,Hm i (hs.mem.fk i hi).1⟩,λr z hr=>⟨z,hr,rfl,rfl,rfl,rfl,rfl,Iff.rfl,λhV arr ha=>⟨arr,(Hm _ (Array.getElem?_eq_some_iff.1 ha).1).trans ha,rfl⟩⟩⟩
 have Jq:∀r z,c.R r=some z->¬c.V r->c.ρ r<w.heap.size:=λr z hr hV=>by
  rcases hs.mem.row r z hr with h|⟨_,arr,h,_⟩
  ·exact(hV h.1).elim
  ·exact(Array.getElem?_eq_some_iff.1 h).1
 have Jl:Mem c1 w1:=by
  have w6:=w6
  rw[CL]at w6⊢
  refine⟨λr z hr=>uf w6 rfl Iff.rfl (λnv=>Hm _ (Jq r z hr nv)) (hs.mem.row r z hr),hs.mem.inj,λi hi=>?_,by have:=hs.mem.top;show c.top<=_;omega,hs.mem.kb.mono w6.I⟩
  rcases hi with hi|hi
  ·have:=(hs.mem.fk i hi).1;exact⟨by omega,(hs.mem.fk i hi).2⟩
  ·exact⟨by omega,λr z hr hV=>by have:=Jq r z hr hV;show c.ρ r≠i;omega⟩
 have Jr:Rep c1 w1 (.gv f ys) (.func (.yield (w.heap.size+1)) #[] #[]):=by
  refine⟨y.ts.map λt=>a.tmps.getD t undef,.inr ⟨e6,w.heap.size+1,rec,rfl,by rw[CL];exact .inr rfl,UU,by rw[nB],by rw[nB],y,hy,?_⟩,?_⟩
  ·cases he
   rw[nB]
   exact⟨rfl,rfl,rfl,Nat.le_trans hn hs.size,h1,rfl⟩
  ·have:=YO (c:=c1) (w:=w1) (ev:=cw st.env) (ρ:=a.eval) (xs:=y.ts.map Operand.tmp) (cs:=ys) (by rw[Fx,bY];exact US) (λz hz=>AN w6 (OA hs.env z))
   rw[bY]at this
   exact this
 have YP:kJ c1 w1 (cs.map iS.d) us:=YQ w6 (Zhz CK)
 have jf:kJ c1 w1 (.gv f ys::cs.map iS.d) (.func (.yield (w.heap.size+1)) #[] #[]::us):=⟨Jr,YP⟩
 have hlen:(D.gv f ys::cs.map iS.d).length=(Value.func (.yield (w.heap.size+1)) #[] #[]::us).length:=by simp[CK.length]
 have mQ:=(h6 c1 w1 (Jn (.func (.yield (w.heap.size+1)) #[] #[]::us)) Jl (by rw[CL];have:=hs.base;show c.base<=_;omega) (by rw[CL];exact hs.rows) (λz hz=>by
  simp only[opsL,List.mem_map,List.mem_range]at hz
  obtain⟨i,_,rfl⟩:=hz
  exact yc jf i) (λv w'=>∃c',j6 ks c1 w1 c' w'/\(∀r,c'.R r=R'.getD r none)) λv w' c' hn hR _=>⟨c',hn,hR⟩).1 Jo
 rw[yI hlen]at mQ
 refine⟨w.heap.size+1,[{target:=.collected w.heap.size,args:= #[]}],w1,{target:=.fn (.func gf) us.toArray,args:= #[.func (.yield (w.heap.size+1)) #[] #[]]},w1,gf,(Value.func (.yield (w.heap.size+1)) #[] #[]::us).toArray,w1,?_,?_,?_,?_,λe=>(by cases e),?_⟩
 ·rw[Hl,Jp,nB];exact run_enterLoop_outer _ _ _ _ _
 ·simp only[resolve,UT]
  simp[go_sem]
 ·intro f' _;trivial
 ·simp only[invoke]
  rw[<-hf,dx.enters (by rw[hf];exact Jo)]
  congr 2
  simp
 ·refine CallsIn.mono (callsIn_wide.2 mQ) λe w3 ⟨v,he3,c3,Hn,hR3⟩=>?_
  subst he3
  have Js:w3.heap[w.heap.size+1]?=some (.loop rec):=(Hn.cz.I _ (by rw[CL];exact .inr rfl)).2.trans UU
  have Fy:=run_endLoop (P:=P) Js (by rw[nB];simp)
  have EC:rec.pending=none:=by rw[nB]
  rw[EC]at Fy
  refine⟨none,_,Fy,?_⟩
  have CM:Fr (λi=>∃r z,c.R r=some z/\¬c.V r/\c.ρ r=i) w w3:=by
   have Fz:=Hn.fr
   rw[CL]at Fz
   refine⟨?_,?_,?_,by have:=Fz.size;omega,λi hi Jt=>(Fz.heap i (by omega) Jt).trans (Hm i hi)⟩
   ·have:=Fz.os;rw[Hl,Jp]at this;exact this
   ·have:=Fz.tape;rw[Hl,Jp]at this;exact this
   ·have:=Fz.output;rw[Hl,Jp]at this;exact this
  have hN:j6 ks c w c3 w3:=by
   refine⟨Hn.mem,?_,CM,λi hi=>?_,λr row hr hV=>?_⟩
   ·have g1:=Hn.cz
    rw[CL]at g1
    refine⟨g1.base,g1.top,λi hi=>⟨(g1.I i (.inl hi)).1,(g1.I i (.inl hi)).2.trans (Hm i (hs.mem.fk i hi).1)⟩,λr row hr=>?_⟩
    obtain⟨aq,q1,q2,q3,q4,q5,q6,qV,q7⟩:=g1.R r row hr
    exact⟨aq,q1,q2,q3,q4,q5,q6,qV,λnv arr ha=>q7 nv arr ((Hm _ (Array.getElem?_eq_some_iff.1 ha).1).trans ha)⟩
   ·have:=Hn.fk i hi
    rw[CL]at this
    rcases this with(g|g)|g|g
    ·exact .inl g
    ·exact .inr (.inr (by omega))
    ·exact .inr (.inl g)
    ·exact .inr (.inr (by omega))
   ·have:=Hn.oO r row hr hV
    rw[CL]at this
    rcases this with g|g|g
    ·exact .inl g
    ·exact .inr (.inl g)
    ·exact .inr (.inr (by omega))
  have uF:mH w0.heap.size w3 ({target:=.collected w.heap.size,args:= #[]}::a.defers):=by
   obtain⟨bs,b1,b2,b3⟩:=hs.defers.step hs.mem CM
   refine⟨w.heap.size::bs,List.nodup_cons.2 ⟨λhm=>?_,b1⟩,by rw[b2];rfl,λi hi=>?_⟩
   ·obtain⟨bs',c1',c2',c3'⟩:=hs.defers
    rw[c2']at b2
    have:bs'=bs:=by
     have:=congrArg (List.map λ(d:Deferred)=>match d.target with|.collected i=>i|_=>0) b2
     simpa[bY,Function.comp_def]using this
    subst this
    have:=(Array.getElem?_eq_some_iff.1 (c3' _ hm).2).1
    omega
   ·rcases List.mem_cons.1 hi with e|e
    ·subst e
     refine⟨hs.reach.fr.size,?_⟩
     have Fz:=Hn.fr
     rw[CL]at Fz
     exact(Fz.heap _ (by omega) fun⟨r,z,q1,q2,q3⟩=>by have:=Jq r z q1 q2;simp only at q3;omega).trans hD1
    ·exact b3 i e
  have hs3:fq N M c0 w0 c3 w3 ⟨sL ks st.env,R'⟩ {a with defers:={target:=.collected w.heap.size,args:= #[]}::a.defers}:=
   ⟨Hn.mem,hR3,λt=>by rw[CD];exact AN hN.cz (YC (hs.env t)),hs.size,uF,hs.gg,hs.ib,hs.reach.step h5 hs.ib hN⟩
  refine⟨.normal,⟨sL ks st.env,R'⟩,_,rfl,hQ,hs3.OH (b:=w.heap.size+1) (o:=.loop rec) (by have:=hs.reach.fr.size;omega) Js (λ_ _ _ e=>by cases e) (Fk:=λk=>k<YB) (λk ws v hk hv=>?_) (λt k hk=>OI nJ (List.mem_append_left _ (YR hk))) (λr z hr k hk=>OI nJ (List.mem_append_right _ (YS (by rw[<-hR3];exact hr) hk))) ?_⟩
  ·rcases hv with hv|⟨hv,_⟩
   ·exact .inl hv
   ·exact absurd hk (Nat.not_lt.2 hv)
  ·refine uF.to λi hi=>(World.putObj_heap_other λe=>?_).trans hi
   rw[e,Js]at hi;cases hi
def BJ (T:iz)(G:List bd)(N M:Nat)(fx:List (Nat×bw))(rf:Option Nat):Nat->Code->St->(Ex->St->Prop)->Prop
 |0,_,_,_=>False
 |d + 1,code,st,Q=>match code with
  |.rangeFunc g _ _ _=>match rf with|some f=>Jm T G M f g st Q|none=>False
  |.loop c=>match Hi fx (keyOf c)with
   |some i=>∃(w5:i.α->Prop) (μ:i.α->Nat),w5 (i.a0 st)/\fold M (i.iU st) st (i.F st (i.a0 st)).1 (i.F st (i.a0 st)).2/\∀a:i.α,w5 a->pM T G N M (BJ T G N M fx rf d) c ⟨(i.F st a).1,(i.F st a).2.map some⟩ λe jJ=>match e with
    |.normal=>(w5 (i.next jJ)/\μ (i.next jJ)<μ a)/\fold M (i.ex jJ) jJ (i.F st (i.next jJ)).1 (i.F st (i.next jJ)).2
    |.exit j=>Q (.exit j) jJ
    |.ret=>Q .ret jJ
   |none=>False
  |_=>False
abbrev LL(T:iz)(G:List bd)(N M:Nat)(fx:List (Nat×bw)):=BJ T G N M fx none
theorem Ho{P:Program}(hD:rm P){T:iz}(hT:jC P T){G:List bd}(hG:jU P G){N M:Nat}{fx:List (Nat×bw)}{rf:Option Nat}{ro:Option Nat}(ED:ro=none\/rf=none):∀(d:Nat) (code:Code) (st:St) (Q:Ex->St->Prop),RF rf N code->BJ T G N M fx rf d code st Q->uL ro P N M code st Q
 |0,_,_,_,_,h=>h.elim
 |d + 1,code,st,Q,nm,h=>by
  unfold BJ at h
  split at h
  ·split at h
   ·rename_i f
    rcases ED with e|e
    ·subst e;exact OG hG nm h
    ·cases e
   ·exact h.elim
  ·rename_i c
   split at h
   ·rename_i i hi
    obtain⟨w5,μ,h2,h3,h4⟩:=h
    have hc:RF rf N c:=by
     cases rf with
     |none=>trivial
     |some f=>exact nm
    refine zai (i.F st) w5 μ (i.a0 st) (i.iU st) h2 h3 λa ha=>Tr.mono (λe jJ hq=>?_) (OJ hD hT hG (OK rf N) (Ho hD hT hG ED d) c _ _ hc (h4 a ha))
    cases e with
    |normal=>exact⟨_,_,hq.1.1,hq.1.2,hq.2⟩
    |exit j=>exact hq
    |ret=>exact hq
   ·exact h.elim
  ·exact h.elim
def bg(R:Rows)(r j:Nat):D:=match R.getD r none with|some row=>(row.es.get 0).getD j .dead|none=>.dead
def mu(R:Rows)(r:Nat):ag:=match R.getD r none with|some row=>row.es|none=>.gen []
def nS(R:Rows)(r:Nat):List Int:=match R.getD r none with|some ⟨_,_,_,.ints _ l⟩=>l|_=>[]
def UW(R:Rows)(r:Nat):List Bool:=match R.getD r none with|some ⟨_,_,_,.ah l⟩=>l|_=>[]
def rY(k:RK)(R:Rows)(r:Nat):List (RK.T k):=match R.getD r none with|some ⟨_,_,_,.ao k' l⟩=>(match Ha k' k l with|some m=>m|none=>[])|_=>[]
def YT(k:IntKind)(R:Rows)(d:D):List Int:=match d with|.all r=>nS R r|.own r _ _=>nS R r|d=>iv k d
def jq(d:D)(n:Nat):Nat:=match d with|.all r=>r|.own r _ _=>r|.ptr r _ _=>r|.pa r _ _ _ _ _=>r|_=>n
theorem Ju{n:Int}(h1: -9223372036854775808<=n)(h2:n<=9223372036854775807):IntKind.wrap .i64 n=n:=by rw[IntKind.wrap_i64];omega
inductive nh where
 |sl (t:CT) (fr:Bool)
 |row (ty sz:Nat) (t:CT)
def Hp:CT->ag
 |.ints k=>.ints k []
 |.ah=>.ah []
 |.ao k=>.ao k []
 |_=>.gen []
def CT.iW:CT->Nat
 |.ao k=>k.size
 |_=>1
def toCT:CT->ag->Option ag
 |.ints k,E=>match E.toI k with|some l=>some (.ints k l)|none=>none
 |.ah,E=>match E.toB with|some l=>some (.ah l)|none=>none
 |.ao k,E=>match E.toR k with|some l=>some (.ao k l)|none=>none
 |_,_=>none
theorem YU(t:CT):(Hp t).Nil:=by cases t<;>rfl
theorem OL{t:CT}{E E':ag}(h:toCT t E=some E'):ag.Eq E E':=by
 cases t with
 |ints k=>
  simp only[toCT]at h
  split at h
  ·rename_i l hl
   cases h
   cases E with
   |ints k' m=>
    simp only[ag.toI]at hl
    split at hl
    ·rename_i hk;cases hl;simp only[ag.Eq,hk]
    ·cases hl
   |gen es=>cases es<;>simp[ag.toI]at hl;subst hl;rfl
   |ah m=>simp[ag.toI]at hl
   |ao k m=>simp[ag.toI]at hl
  ·cases h
 |ah=>
  simp only[toCT]at h
  split at h
  ·rename_i l hl
   cases h
   cases E with
   |ah m=>simp[ag.toB]at hl;subst hl;rfl
   |gen es=>cases es<;>simp[ag.toB]at hl;subst hl;rfl
   |ints k m=>simp[ag.toB]at hl
   |ao k m=>simp[ag.toB]at hl
  ·cases h
 |ao k=>
  simp only[toCT]at h
  split at h
  ·rename_i l hl
   cases h
   cases E with
   |ao k' m=>simp only[ag.toR]at hl;simp only[ag.Eq,hl]
   |gen es=>cases es<;>simp[ag.toR]at hl;subst hl;rfl
   |ints k m=>simp[ag.toR]at hl
   |ah m=>simp[ag.toR]at hl
  ·cases h
 |_=>simp[toCT]at h
structure j7 where
 ds:List nh
 ex:List (Nat×Row)
 fz:List Nat
def w7(m:Nat):List (Nat×Nat×Nat)->Bool
 |[]=>true
 |p::l=>bN p.1 m&&w7 m l
def Jv(m:Nat):List iS->Bool
 |[]=>true
 |.ptr r _ _::l=>bN r m&&Jv m l
 |.fn _ ps::l=>w7 m ps&&Jv m l
 |_=>false
theorem vc{m:Nat}{EX:List Nat}(hE:∀i,i<m->EX[i]?=some i):∀{ps:List (Nat×Nat×Nat)},w7 m ps=true->tj EX ps ps=true
 |[],_=>rfl
 |(r,a,b)::l,h=>by
  simp only[w7,aE]at h
  simp only[tj,kD,hE r (lE h.1),vc hE h.2]
  simp
theorem qaj(hE:∀i,i<m->EX[i]?=some i):∀{cs:List iS},Jv m cs=true->pN EX cs cs=true:=by
 intro cs
 induction cs with
 |nil=>intro _;rfl
 |cons x l ih=>
  intro h
  cases x with
  |ptr r a b=>
   simp only[Jv,aE]at h
   simp only[pN,kD,hE r (lE h.1),ih h.2]
   simp
  |fn f ps=>
   simp only[Jv,aE]at h
   simp only[pN,vc hE h.1,ih h.2]
   simp
  |_=>simp[Jv]at h
def UX(m:Nat)(R:Rows)(c:D)(s:j7):Option (D×j7):=
  match c with
  | .int k n=>some (.int k n,s)
  | .bool b=>some (.bool b,s)
  | .str x=>some (.str x,s)
  | .iQ=>some (.iQ,s)
  | .j4=>some (.j4,s)
  | .gw r=>match bN r m with|true=>some (.gw r,s)|false=>none
  | .ptr r o f=>match bN r m with|true=>some (.ptr r o f,s)|false=>none
  | .gv f cs=>match Jv m cs with|true=>some (.gv f cs,s)|false=>none
  | .c8=>match s with
    |⟨.sl t f::ds,ex,fz⟩=>some (.sl t.iW (Hp t) f,⟨ds,ex,fz⟩)
    |⟨.row ty sz t::ds,ex,fz⟩=>match bN 0 sz with|true=>some (.all (m+ex.length),⟨ds,ex++[(R.length+ex.length,⟨false,ty,sz,Hp t⟩)],fz⟩)|false=>none
    |_=>none
  | .emp=>match s with
    |⟨.sl t f::ds,ex,fz⟩=>some (.sl t.iW (Hp t) f,⟨ds,ex,fz⟩)
    |⟨.row ty sz t::ds,ex,fz⟩=>match bN 0 sz with|true=>some (.all (m+ex.length),⟨ds,ex++[(R.length+ex.length,⟨false,ty,sz,Hp t⟩)],fz⟩)|false=>none
    |_=>none
  | .sl n E fr=>match s with
    | ⟨.sl t f::ds,ex,fz⟩=>match toCT t E,(!f||fr)&&(bX n t.iW||Jw E) with
      |some E',true=>some (.sl t.iW E' f,⟨ds,ex,fz⟩)
      |_,_=>none
    |_=>none
  | .all r=>match s with
    | ⟨.sl t f::ds,ex,fz⟩=>match R.getD r none with
      | some ⟨box,_,kC,E⟩=>match toCT t E,!box&&(bX kC t.iW&&Nat.ble m r) with
        |some E',true=>some (.sl t.iW E' f,⟨ds,ex,r::fz⟩)
        |_,_=>none
      |none=>none
    | ⟨.row ty sz t::ds,ex,fz⟩=>match bN r m with
      |true=>some (.all r,⟨ds,ex,fz⟩)
      | false=>match R.getD r none with
        | some ⟨box,kg,kC,E⟩=>match toCT t E,!box&&(bX kg ty&&bX kC sz) with
          |some E',true=>some (.all (m+ex.length),⟨ds,ex++[(r,⟨false,ty,sz,E'⟩)],fz⟩)
          |_,_=>none
        |none=>none
    |_=>none
  | .own r o n=>match s with
    | ⟨.sl t f::ds,ex,fz⟩=>match R.getD r none with
      | some ⟨box,_,kC,E⟩=>match toCT t ((E.drop o).take n),!box&&(bX kC t.iW&&Nat.ble m r) with
        |some E',true=>some (.sl t.iW E' f,⟨ds,ex,r::fz⟩)
        |_,_=>none
      |none=>none
    |_=>none
  |_=>none
def LJ(m:Nat)(R:Rows):List D->j7->Option (List D×j7)
 |[],s=>some ([],s)
 |c ::cs,s=>match UX m R c s with
  |some (c',s')=>match LJ m R cs s' with
   |some (ss,Jx)=>some (c'::ss,Jx)
   |none=>none
  |none=>none
def FA(m:Nat)(R:Rows)(d:D)(s:j7):Option (D×j7):=
 match d with
 |.agg cs=>match LJ m R cs s with|some (ss,s')=>some (.agg ss,s')|none=>none
 |d=>UX m R d s
def tk(m:Nat)(R:Rows):List D->j7->Option (List D×j7)
 |[],s=>some ([],s)
 |c ::cs,s=>match FA m R c s with
  |some (c',s')=>match tk m R cs s' with
   |some (ss,Jx)=>some (c'::ss,Jx)
   |none=>none
  |none=>none
def Jy(m:Nat)(R:Rows)(d:D)(s:j7):Option (D×j7):=
 match d with
 |.dw ds=>match tk m R ds s with|some (oP,s')=>some (.dw oP,s')|none=>none
 |d=>FA m R d s
def LK(m:Nat)(R:Rows):Nat->Nat->j7->Option (List Row×j7)
 |0,_,s=>some ([],s)
 |n + 1,i,s=>match R.getD i none with
  |some ⟨true,ty,sz,.gen [e]⟩=>match LJ m R e s with
   |some (e',s')=>match LK m R n (i+1) s' with
    |some (rs,Jx)=>some (⟨true,ty,sz,.gen [e']⟩::rs,Jx)
    |none=>none
   |none=>none
  |some ⟨false,ty,sz,E⟩=>match LK m R n (i+1) s with
   |some (rs,Jx)=>some (⟨false,ty,sz,E⟩::rs,Jx)
   |none=>none
  |_=>none
def FB(m:Nat)(ex:List (Nat×Row)):List Nat:=List.range m++ex.map (·.1)
def ow(m:Nat)(ds:List nh)(d:D)(R:Rows)(K:D->List Row->Prop):Prop:=
 match Jy m R d ⟨ds,[],[]⟩with
 |some (d',s)=>match LK m R m 0 s with
  |some (rs,s')=>cy (th m (FB m s'.ex)&&s'.fz.all (LM (FB m s'.ex))) (K d' (rs++s'.ex.map (·.2)))
  |none=>False
 |none=>False
def tn(R:Rows)(x:Nat×Row):Prop:=
 x.2.box=false/\match R.getD x.1 none with
 |some ⟨AX,kg,kC,jl⟩=>AX=false/\kg=x.2.ty/\kC=x.2.sz/\ag.Eq jl x.2.es
 |none=>0<x.2.sz/\x.2.es.Nil
structure oQ(m:Nat)(R:Rows)(EX:List Nat)(s:j7):Prop where
 at_:∀(i:Nat) x,s.ex[i]?=some x->EX[m+i]?=some x.1
 gy:∀x∈s.ex,tn R x
 out:∀r∈s.fz,LM EX r=true
def AY(s s':j7):Prop:=s.ex<+:s'.ex/\s.fz<:+s'.fz
theorem AY.refl(s:j7):AY s s:=⟨bZ _,cA _⟩
theorem AY.trans{a b c:j7}(h:AY a b)(g:AY b c):AY a c:=⟨h.1.trans g.1,h.2.trans g.2⟩
theorem qd(h:Jw E=true):E.Nil:=ag.oR.2 (UE h)
theorem Zo1{c c':D}{s s':j7}(h:UX m R c s=some (c',s')):
    AY s s'/\((∀x∈s.ex,tn R x)-> ∀x∈s'.ex,tn R x)/\ ∀EX:List Nat,(∀i,i<m->EX[i]? =some i)->oQ m R EX s'->iZ EX m R c c':=by
  have OM: ∀{ty sz t},bN 0 sz=true->((∀x∈s.ex,tn R x)-> ∀x∈s.ex++[(R.length+s.ex.length,(⟨false,ty,sz,Hp t⟩:Row))],tn R x)/\
      ∀(EX:List Nat) (ds:List nh) (fz:List Nat),oQ m R EX ⟨ds,s.ex++[(R.length+s.ex.length,(⟨false,ty,sz,Hp t⟩:Row))],fz⟩->Jz EX R (m+s.ex.length)=true:=by
    intro ty sz t ga
    have hn:R.getD (R.length+s.ex.length) none=none:=by rw[aV,List.getElem?_eq_none (by omega)];rfl
    refine⟨λhg x hx=> ?_,λEX ds fz hG=> ?_⟩
    . simp only[cB,cC]at hx
      rcases hx with hx|rfl
      . exact hg x hx
      . refine⟨rfl,?_⟩
        simp only[hn]
        exact⟨lE ga,YU t⟩
    . have:=hG.at_ s.ex.length (R.length+s.ex.length,⟨false,ty,sz,Hp t⟩) (by simp)
      simp only[Jz,this,hn]
  cases c<;>simp only[UX]at h<;>try(cases h;done)
  case int k n=>cases h;exact⟨.refl _,id,λEX _ _=>by simp [iZ,cy]⟩
  case bool b=>cases h;exact⟨.refl _,id,λEX _ _=>by simp [iZ]⟩
  case str x=>cases h;exact⟨.refl _,id,λEX _ _=>by simp [iZ]⟩
  case iQ=>cases h;exact⟨.refl _,id,λEX _ _=>by simp [iZ]⟩
  case j4=>cases h;exact⟨.refl _,id,λEX _ _=>by simp [iZ]⟩
  case gw r=>
    split at h
    . rename_i hr
      cases h
      refine⟨.refl _,id,λEX hE _=> ?_⟩
      have:=hE r (lE hr)
      simp only[iZ,de,kD,this]
      exact⟨by simp,trivial⟩
    . cases h
  case ptr r o f=>
    split at h
    . rename_i hr
      cases h
      refine⟨.refl _,id,λEX hE _=> ?_⟩
      have:=hE r (lE hr)
      simp only[iZ,de,kD,this]
      exact⟨by simp,trivial⟩
    . cases h
  case gv f cs=>
    split at h
    . rename_i hr
      cases h
      refine⟨.refl _,id,λEX hE _=> ?_⟩
      simp only[iZ,de,qaj hE hr]
      exact⟨by simp,trivial⟩
    . cases h
  case c8=>
    split at h
    . cases h;exact⟨.refl _,id,λEX _ _=>YU _⟩
    . split at h
      . rename_i ga
        cases h
        obtain⟨v1,v2⟩:=OM ga
        exact⟨⟨cD _ _,cA _⟩,v1,λEX _ hG=>by simp only[iZ,de];exact⟨v2 EX _ _ hG,trivial⟩⟩
      . cases h
    . cases h
  case emp=>
    split at h
    . cases h;exact⟨.refl _,id,λEX _ _=>YU _⟩
    . split at h
      . rename_i ga
        cases h
        obtain⟨v1,v2⟩:=OM ga
        exact⟨⟨cD _ _,cA _⟩,v1,λEX _ hG=>by simp only[iZ,de];exact⟨v2 EX _ _ hG,trivial⟩⟩
      . cases h
    . cases h
  case sl n E fr=>
    split at h
    . rename_i t f ds ex fz
      split at h
      . rename_i E' hE hb
        cases h
        simp only[aE,Bool.or_eq_true]at hb
        refine⟨.refl _,id,λEX _ _=> ?_⟩
        simp only[iZ,de]
        exact⟨by simpa using hb.1,hb.2.symm.imp qd bE,OL hE⟩
      . cases h
    . cases h
  case all r =>
    split at h
    . rename_i t f ds ex fz
      split at h
      . rename_i box ty kC E hR
        split at h
        . rename_i E' hE hb
          cases h
          simp only[aE]at hb
          refine⟨⟨bZ _,cE _ _⟩,id,λEX _ hG=> ?_⟩
          simp only[iZ,hR,de,aE]
          exact⟨⟨⟨⟨hb.1,hb.2.1⟩,hG.out r (by simp)⟩,hb.2.2⟩,OL hE⟩
        . cases h
      . cases h
    . rename_i ty sz t ds ex fz
      split at h
      . rename_i bc
        cases h
        refine⟨.refl _,id,λEX rG hG=> ?_⟩
        simp only[iZ,de]
        have:=rG r (lE bc)
        exact⟨by simp [kD,this],trivial⟩
      . split at h
        . rename_i box kg kC E hR
          split at h
          . rename_i E' hE hb
            cases h
            simp only[aE,Bool.not_eq_true']at hb
            refine⟨⟨cD _ _,cA _⟩,λhg x hx=> ?_,λEX rG hG=> ?_⟩
            . simp only[cB,cC]at hx
              rcases hx with hx|rfl
              . exact hg x hx
              . refine⟨rfl,?_⟩
                simp only[hR]
                exact⟨hb.1,bE hb.2.1,bE hb.2.2,OL hE⟩
            . have:=hG.at_ ex.length (r,⟨false,ty,sz,E'⟩) (by simp)
              simp only[iZ,de]
              exact⟨by simp [kD,this],trivial⟩
          . cases h
        . cases h
    . cases h
  case own r o n=>
    split at h
    . rename_i t f ds ex fz
      split at h
      . rename_i box ty kC E hR
        split at h
        . rename_i E' hE hb
          cases h
          simp only[aE]at hb
          refine⟨⟨bZ _,cE _ _⟩,id,λEX _ hG=> ?_⟩
          simp only[iZ,hR,de,aE]
          exact⟨⟨⟨⟨hb.1,hb.2.1⟩,hG.out r (by simp)⟩,hb.2.2⟩,OL hE⟩
        . cases h
      . cases h
    . cases h
theorem oQ.mono{s s':j7}(hl:AY s s')(h:oQ m R EX s'):oQ m R EX s:=
 ⟨λi x hx=>h.at_ i x (by
  obtain⟨t,ht⟩:=hl.1
  rw[<-ht,bI (List.getElem?_eq_some_iff.1 hx).1];exact hx),λx hx=>h.gy x (hl.1.subset hx),λr hr=>h.out r (hl.2.subset hr)⟩
theorem YV{m:Nat}{R:Rows}:∀{cs ss:List D} {s s':j7},LJ m R cs s=some (ss,s')->
 AY s s'/\((∀x∈s.ex,tn R x)->∀x∈s'.ex,tn R x)/\∀EX:List Nat,(∀i,i<m->EX[i]?=some i)->oQ m R EX s'->EE EX m R cs ss
 |[],ss,s,s',h=>by simp only[LJ]at h;cases h;exact⟨.refl _,id,λ_ _ _=>trivial⟩
 |c ::cs,ss,s,s',h=>by
  simp only[LJ]at h
  split at h
  ·rename_i c1 s1 h1
   split at h
   ·rename_i cs1 s2 h2
    cases h
    obtain⟨a1,a2,a3⟩:=Zo1 h1
    obtain⟨b1,b2,b3⟩:=YV h2
    exact⟨a1.trans b1,λh=>b2 (a2 h),λEX rG hG=>⟨a3 EX rG (hG.mono b1),b3 EX rG hG⟩⟩
   ·cases h
  ·cases h
theorem xd{s s':j7}(h:FA m R d s=some (d',s')):
 AY s s'/\((∀x∈s.ex,tn R x)->∀x∈s'.ex,tn R x)/\∀EX:List Nat,(∀i,i<m->EX[i]?=some i)->oQ m R EX s'->pO EX m R d d':=by
 unfold FA at h
 split at h
 ·rename_i cs
  split at h
  ·rename_i ss s1 h1
   cases h
   exact YV h1
  ·cases h
 ·rename_i ia
  obtain⟨a1,a2,a3⟩:=Zo1 h
  refine⟨a1,a2,λEX rG hG=>?_⟩
  have h3:=a3 EX rG hG
  cases d' with
  |agg ps=>simp[iZ]at h3
  |_=>exact h3
theorem Zw7{m:Nat}{R:Rows}:∀{cs ss:List D} {s s':j7},tk m R cs s=some (ss,s')->
 AY s s'/\((∀x∈s.ex,tn R x)->∀x∈s'.ex,tn R x)/\∀EX:List Nat,(∀i,i<m->EX[i]?=some i)->oQ m R EX s'->w9 EX m R cs ss
 |[],ss,s,s',h=>by simp only[tk]at h;cases h;exact⟨.refl _,id,λ_ _ _=>trivial⟩
 |c ::cs,ss,s,s',h=>by
  simp only[tk]at h
  split at h
  ·rename_i c1 s1 h1
   split at h
   ·rename_i cs1 s2 h2
    cases h
    obtain⟨a1,a2,a3⟩:=xd h1
    obtain⟨b1,b2,b3⟩:=Zw7 h2
    exact⟨a1.trans b1,λh=>b2 (a2 h),λEX rG hG=>⟨a3 EX rG (hG.mono b1),b3 EX rG hG⟩⟩
   ·cases h
  ·cases h
theorem zaj{s s':j7}(h:Jy m R d s=some (d',s')):
 AY s s'/\((∀x∈s.ex,tn R x)->∀x∈s'.ex,tn R x)/\∀EX:List Nat,(∀i,i<m->EX[i]?=some i)->oQ m R EX s'->te EX m R d d':=by
 unfold Jy at h
 split at h
 ·rename_i cs
  split at h
  ·rename_i ss s1 h1
   cases h
   exact Zw7 h1
  ·cases h
 ·rename_i ia
  obtain⟨a1,a2,a3⟩:=xd h
  refine⟨a1,a2,λEX rG hG=>?_⟩
  have h3:=a3 EX rG hG
  cases d' with
  |dw ps=>simp[pO,iZ]at h3
  |_=>exact h3
theorem YW{m:Nat}{R:Rows}:∀{n i:Nat} {rs:List Row} {s s':j7},LK m R n i s=some (rs,s')->
 AY s s'/\((∀x∈s.ex,tn R x)->∀x∈s'.ex,tn R x)/\∀EX:List Nat,(∀i,i<m->EX[i]?=some i)->oQ m R EX s'->mr EX m R (bO i n) rs
 |0,i,rs,s,s',h=>by simp only[LK]at h;cases h;exact⟨.refl _,id,λ_ _ _=>trivial⟩
 |n + 1,i,rs,s,s',h=>by
  simp only[LK]at h
  split at h
  ·rename_i ty sz e hR
   split at h
   ·rename_i e1 s1 h1
    split at h
    ·rename_i rs1 s2 h2
     cases h
     obtain⟨a1,a2,a3⟩:=YV h1
     obtain⟨b1,b2,b3⟩:=YW h2
     refine⟨a1.trans b1,λh=>b2 (a2 h),λEX rG hG=>?_⟩
     rw[cF]
     simp only[mr,hR,de]
     exact⟨⟨by simp,a3 EX rG (hG.mono b1)⟩,b3 EX rG hG⟩
    ·cases h
   ·cases h
  ·rename_i ty sz E hR
   split at h
   ·rename_i rs1 s2 h2
    cases h
    obtain⟨b1,b2,b3⟩:=YW h2
    refine⟨b1,b2,λEX rG hG=>?_⟩
    rw[cF]
    simp only[mr,hR,de]
    refine⟨⟨by simp,?_⟩,b3 EX rG hG⟩
    cases E with
    |gen es=>cases es<;>simp[ag.Eq]
    |ao k l=>simp[ag.Eq,Yr]
    |_=>simp[ag.Eq]
   ·cases h
  ·cases h
theorem Qyn{ex:List Nat}{m:Nat}{R:Rows}:∀{l1 l2:List Nat} {p1 p2:List Row},mr ex m R l1 p1->mr ex m R l2 p2->mr ex m R (l1++l2) (p1++p2)
 |[],l2,[],p2,_,h=>h
 |r::l1,l2,p::p1,p2,h1,h2=>by
  simp only[List.cons_append,mr]at h1⊢
  exact⟨h1.1,Qyn h1.2 h2⟩
 |[],_,_::_,_,h,_=>h.elim
 |_::_,_,[],_,h,_=>h.elim
theorem Zh0{ex:List Nat}{m:Nat}{R:Rows}:∀{l:List (Nat×Row)},(∀x∈l,tn R x)->mr ex m R (l.map (·.1)) (l.map (·.2))
 |[],_=>trivial
 |(r,⟨box,ty,sz,es⟩)::l,h=>by
  simp only[List.map_cons,mr]
  refine⟨?_,Zh0 λx hx=>h x (by simp[hx])⟩
  obtain⟨h1,h2⟩:=h (r,⟨box,ty,sz,es⟩) (by simp)
  simp only at h1 h2
  subst h1
  split
  ·rename_i AX kg kC jl hR
   simp only[hR]at h2
   obtain⟨rfl,rfl,rfl,h2⟩:=h2
   simp only[de]
   exact⟨by simp,h2⟩
  ·rename_i hR
   simp only[hR]at h2
   simp only[de]
   exact⟨by simpa using h2.1,h2.2⟩
theorem Zhl{ds:List nh}{K:D->List Row->Prop}(h:ow m ds d R K):∃res rows,K res rows/\AZ m res rows d R:=by
 unfold ow at h
 split at h
 ·rename_i d' s h1
  split at h
  ·rename_i rs s' h2
   simp only[de,aE]at h
   obtain⟨⟨hx,hf⟩,hK⟩:=h
   obtain⟨a1,a2,a3⟩:=zaj h1
   obtain⟨b1,b2,b3⟩:=YW h2
   have Hq:∀x∈s'.ex,tn R x:=b2 (a2 λx hx=>by simp at hx)
   have rG:∀i,i<m->(FB m s'.ex)[i]?=some i:=λi hi=>by
    unfold FB
    rw[bI (by simpa using hi)];simp[hi]
   have hG:oQ m R (FB m s'.ex) s':=⟨λi x hx=>by
    unfold FB
    rw[List.getElem?_append_right (by simp)]
    simp[hx],Hq,λr hr=>List.all_eq_true.1 hf r hr⟩
   refine⟨d',_,hK,FB m s'.ex,hx,a3 _ rG (hG.mono b1),?_⟩
   have h3:=b3 _ rG hG
   have:FB m s'.ex=bO 0 m++s'.ex.map (·.1):=by unfold FB;rw[List.range_eq_range']
   refine Eq.mpr ?_ (Qyn h3 (Zh0 Hq))
   rw[<-this]
  ·exact h.elim
 ·exact h.elim

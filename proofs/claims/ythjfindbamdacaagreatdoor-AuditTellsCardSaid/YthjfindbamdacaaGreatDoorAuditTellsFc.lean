import Derived.Test.YthjfindbamdacaaGreatDoorAuditTellsDraw
import Derived.IntWalk
open List renaming getD->aK,ext_getElem->bN,map_map->bU,prefix_refl->bV,suffix_refl->bW,mem_append->bX,mem_singleton->bY,prefix_append->bZ,suffix_cons->cA,getElem?_append_left->aZ,range'->bK,range'_succ->cB
open Nat renaming beq->bT,blt->bJ
set_option linter.all false
namespace Go.GD
open Go
def sH(ex:List Nat)(M:Nat)(R:Rows)(d p:D):Prop:=
 match p with
 |.dead=>True
 |.ptr i o f=>match d with|.ptr r o' f'=>cw (kL ex i r) (o'=o/\f'=f)|_=>False
 |.iw sz es i off=>match d with|.iw kE ji i' iT=>kE=sz/\ai.Eq ji es/\i'=i/\iT=off|_=>False
 |p=>Ay ex M R d p
def Cf(ex:List Nat)(M:Nat)(R:Rows)(env:List (Nat×D)):List (Nat×D)->Prop
 |[]=>True
 |(t,p)::l=>sH ex M R (look env t) p/\Cf ex M R env l
def fold(M:Nat)(ex:List Nat)(st:St)(mu:List (Nat×D))(ak:List Row):Prop:=
 cw (Az M ex) (Cf ex M st.rows st.env mu/\nc ex M st.rows ex ak)
theorem zc{c:Ctx}{w:World}{ex:List Nat}{m:Nat}{R:Rows}{rows:List Row}(hm:Mem c w)(hR:∀r,c.R r=R.getD r none)(c6:nc ex m R ex rows)(fg:∀r row,c.R r=some row->¬c.V r->m<=r->c.base<=c.ρ r){d p:D}{v:Value}(h:sH ex m R d p)(hr:Rep c w d v):Rep (c.out ex rows) w p v:=by
 have nG:∀b,c.I b->(c.out ex rows).I b/\w.heap[b]?=w.heap[b]? :=λb hb=>⟨.inl hb,rfl⟩
 cases p with
 |dead=>trivial
 |ptr i o f=>
  simp only[sH]at h
  split at h
  ·rename_i r o' f'
   simp only[c9]at h
   obtain⟨hx,rfl,rfl⟩:=h
   exact SN (w:=w) hR c6 hx hr
  ·exact h.elim
 |iw sz es i off=>
  simp only[sH]at h
  split at h
  ·obtain⟨rfl,he,rfl,rfl⟩:=h
   have he:=ai.AA he
   obtain⟨b,o,arr,ty,fz,h1,h2,h3,h4,h5⟩:=hr
   rw[he]at h3 h5
   exact⟨b,o,arr,ty,fz,h1,.inl h2,h3,h4,oh nG _ _ _ _ h5⟩
  ·exact h.elim
 |_=>
  simp only[sH]at h
  exact SO hm hR c6 fg h hr
theorem Zhn{c:Ctx}{w:World}{ex:List Nat}{m:Nat}{R:Rows}{rows:List Row}(hm:Mem c w)(hR:∀r,c.R r=R.getD r none)(c6:nc ex m R ex rows)(fg:∀r row,c.R r=some row->¬c.V r->m<=r->c.base<=c.ρ r){env:List (Nat×D)}{a:Act}(he:∀t,Rep c w (look env t) (a.tmps.getD t undef)):
 ∀{mu:List (Nat×D)},Cf ex m R env mu->∀t,Rep (c.out ex rows) w (look mu t) (a.tmps.getD t undef)
 |[],_,t=>trivial
 |(u,p)::l,h,t=>by
  have:=Zhn hm hR c6 fg he h.2 t
  rw[Bp]
  split
  ·rename_i e
   subst e
   exact zc hm hR c6 fg h.1 (he u)
  ·exact this
theorem yc{N M:Nat}{c0:Ctx}{w0:World}{c:Ctx}{w:World}{st:St}{a:Act}(hs:ft N M c0 w0 c w st a){ex:List Nat}{mu:List (Nat×D)}{ak:List Row}(h:fold M ex st mu ak):∃c',ft N M c0 w0 c' w ⟨mu,ak.map some⟩ a:=by
 unfold fold at h
 simp only[c9]at h
 obtain⟨hex,hE,c6⟩:=h
 obtain⟨fg,gv,ga⟩:=SP hs hex c6
 refine⟨c.out ex ak,gv,λr=>?_,Zhn hs.mem hs.rows c6 fg hs.env hE,hs.size,hs.defers,hs.gb,hs.gq,ga⟩
 simp only[Ctx.out,aK,List.getElem?_map]
 cases ak[r]? <;>rfl
theorem Tr.mono{ro:Option Nat}{P:Program}{N M:Nat}{code:Code}{st:St}{Q Q':Ex->St->Prop}(hq:∀e st,Q e st->Q' e st)(h:ub ro P N M code st Q):ub ro P N M code st Q':=
 λc0 w0 c w a hs=>wpIn_mono (h c0 w0 c w a hs) λe a' w' ⟨ex,jC,c',h1,h2,h3⟩=>⟨ex,jC,c',h1,hq _ _ h2,h3⟩
theorem y5{ro:Option Nat}{P:Program}{N M:Nat}{code:Code}{st:St}{Q:Ex->St->Prop}{α:Type}(F:α->List (Nat×D)×List Row)(wH:α->Prop)(μ:α->Nat)
 (a0:α) (iy:List Nat) (hp:wH a0) (h0:fold M iy st (F a0).1 (F a0).2)
 (round:∀a,wH a->ub ro P N M code ⟨(F a).1,(F a).2.map some⟩ λe jC=>match e with
  |.normal=>∃b ex,wH b/\μ b<μ a/\fold M ex jC (F b).1 (F b).2
  |.exit i=>Q (.exit i) jC
  |.ret=>Q .ret jC):ub ro P N M (.loop code) st Q:=by
 intro c0 w0 c w a hs
 have key:∀(n:Nat) (x:α),wH x->μ x<n->∀(c:Ctx) (w:World) (a:Act),ft N M c0 w0 c w ⟨(F x).1,(F x).2.map some⟩ a->
  Code.roundsIn (Bs ro) 0 P code (λe a' w'=>∃ex jC c',mX e=some ex/\Q ex jC/\ft N M c0 w0 c' w' jC a') n a w:=by
  intro n
  induction n with
  |zero=>intro x _ h;omega
  |succ n ih=>
   intro x hx cq c w a hs
   rw[roundsIn_succ]
   refine wpIn_mono (round x hx c0 w0 c w a hs) λe a' w' hq=>?_
   obtain⟨ex,jC,c',he,hq,jn⟩:=hq
   cases e<;>simp only[mX,Option.some.injEq,reduceCtorEq]at he
   ·subst he
    obtain⟨b,ex,h1,h2,h3⟩:=hq
    obtain⟨SQ,Wz⟩:=yc jn h3
    exact ih b h1 (by omega) SQ w' a' Wz
   ·subst he;exact⟨_,jC,c',rfl,hq,jn⟩
   ·subst he;exact⟨_,jC,c',rfl,hq,jn⟩
 obtain⟨c',jn⟩:=yc hs h0
 exact wpIn_loop_rounds _ (key (μ a0+1) a0 hp (by omega) c' w a jn)
structure bm where
 α:Type
 F:St->α->List (Nat×D)×List Row
 a0:St->α
 iy:St->List Nat
 next:St->α:=a0
 ex:St->List Nat:=iy
structure Ask(p:Prop):Prop where
 ok:p
def keyOf:Code->Nat
 |.region id _ _=>id
 |.block id _=>id
 |.seq a _=>keyOf a
 |.loop a=>keyOf a
 |_=>0
def Gp:List (Nat×bm)->Nat->Option bm
 |[],_=>none
 |(k,i)::l,n=>match bT k n with|true=>some i|false=>Gp l n
def ID(T:fj)(G:List bb)(M f:Nat)(g:Operand)(st:St)(Q:Ex->St->Prop):Prop:=
 match cb st.env g with
 |.gj gf cs=>match KK ((yTs f).map (look st.env)),pf G gf with
  |some ys,some k=>IB T ys st.env st.rows λR=>cw (bJ gf YB)<|Iu G M gf k (.gj f ys::cs.map iz.d) R λks _ R=>Gq ks st.env λenv=>cw (sI (AB env++Gr R)) (Q .normal ⟨env,R⟩)
  |_,_=>False
 |_=>False
def evL(ds:List D):Operand->D|.tmp i=>ds.getD i .dead|_=>.dead
def opsL(n:Nat):List Operand:=(List.range n).map Operand.tmp
theorem y6{ds:List D}:(opsL ds.length).map (evL ds)=ds:=by
 refine bN (by simp[opsL]) λi h1 h2=>?_
 simp[opsL,evL,aK,h2]
def IE(vs:List Value):Operand->Value|.tmp i=>vs.getD i undef|_=>undef
theorem xE{vs:List Value}{n:Nat}(h:n=vs.length):(opsL n).map (IE vs)=vs:=by
 subst h
 refine bN (by simp[opsL]) λi h1 h2=>?_
 simp[opsL,IE,aK,h2]
theorem vc{c:Ctx}{w:World}:∀{ds:List D} {vs:List Value},kr c w ds vs->∀i,Rep c w (ds.getD i .dead) (vs.getD i undef)
 |[],[],_,i=>by simp[aK];trivial
 |d::ds,v::vs,h,0=>by simpa using h.1.toRep
 |d::ds,v::vs,h,i+1=>by simpa using vc h.2 i
 |[],_::_,h,_=>h.elim
 |_::_,[],h,_=>h.elim
theorem Z9g{c:Ctx}{w:World}:∀{cs:List iz} {us:List Value},oR c w cs us->kr c w (cs.map iz.d) us
 |[],[],_=>trivial
 |x::cs,u::us,h=>⟨VRep.EW (Wm.1 h.1),Z9g h.2⟩
 |[],_::_,h=>h.elim
 |_::_,[],h=>h.elim
theorem Nz{P:Program}{G:List bb}(hG:j5 P G){N M f:Nat}{g:Operand}{ps:Array Tmp}{x b:Code}(nq:RF (some f) N (.rangeFunc g ps x b)){st:St}{Q:Ex->St->Prop}{T:fj}(h:ID T G M f g st Q):Tr P N M (.rangeFunc g ps x b) st Q:=by
 intro c0 w0 c w a hs
 obtain⟨y,⟨hy,hn,Fb,pQ,h1⟩,he⟩:=nq
 unfold ID at h
 split at h
 rotate_left
 ·exact h.elim
 rename_i gf cs hg
 split at h
 rotate_left
 ·exact h.elim
 rename_i ys k SR lW
 obtain⟨R0,c,h,hs⟩:=Gn h hs
 simp only[c9]at h
 obtain⟨IF,h⟩:=h
 have IF:=lE IF
 rw[<-y6 (ds:=.gj f ys::cs.map iz.d)]at h
 obtain⟨ks,val,R',X,h2,h3,h4,h5,h6⟩:=Wo hG lW h
 obtain⟨dw,hf⟩:=Gk hG h3
 rw[Iv]at h2
 obtain⟨oQ,hQ⟩:=h2
 have SS:Rep c w (cb st.env g) (a.eval g):=Nr hs.env g
 rw[hg]at SS
 obtain⟨us,⟨_,SS⟩|⟨WA,_⟩,Fc⟩:=SS
 rotate_left
 ·exact absurd IF (Nat.not_lt.2 WA)
 refine wpIn_rangeFunc λfn _=>?_
 obtain⟨rec,na⟩:∃rec:Loop,rec={state:=.ready,pending:=none,fn,tmps:=a.tmps,params:=ps,assign:=x,body:=b,defers:=w.heap.size}:=⟨_,rfl⟩
 obtain⟨wd,IG⟩:∃wd,wd=w.alloc (.deferred (some [])):=⟨_,rfl⟩
 obtain⟨w1,Gs⟩:∃w1,w1=wd.alloc (.loop rec):=⟨_,rfl⟩
 have hsd:wd.heap.size=w.heap.size+1:=by rw[IG];simp
 have mL:w1.heap.size=w.heap.size+2:=by rw[Gs];simp[hsd]
 have NA:w1.heap[w.heap.size+1]?=some (.loop rec):=by rw[Gs,<-hsd];exact World.alloc_heap_new wd _
 have hD1:w1.heap[w.heap.size]?=some (.deferred (some [])):=by
  rw[Gs];refine(AD wd _ _ (by omega)).trans ?_;rw[IG];exact World.alloc_heap_new w _
 have Gt:∀i,i<w.heap.size->w1.heap[i]?=w.heap[i]? :=λi hi=>by
  rw[Gs];refine(AD wd _ _ (by omega)).trans ?_;rw[IG];exact AD w _ _ hi
 obtain⟨c1,Cg⟩:∃c1:Ctx,c1={c with I:=λi=>c.I i\/i=w.heap.size+1}:=⟨_,rfl⟩
 have wI:jq c w c1 w1:=by
  rw[Cg]
  exact⟨rfl,Nat.le_refl _,λi hi=>⟨.inl hi,Gt i (hs.mem.fk i hi).1⟩,λr z hr=>⟨z,hr,rfl,rfl,rfl,rfl,rfl,Iff.rfl,λhV arr ha=>⟨arr,(Gt _ (Array.getElem?_eq_some_iff.1 ha).1).trans ha,rfl⟩⟩⟩
 have IH:∀r z,c.R r=some z->¬c.V r->c.ρ r<w.heap.size:=λr z hr hV=>by
  rcases hs.mem.row r z hr with h|⟨_,arr,h,_⟩
  ·exact(hV h.1).elim
  ·exact(Array.getElem?_eq_some_iff.1 h).1
 have IC:Mem c1 w1:=by
  have wI:=wI
  rw[Cg]at wI⊢
  refine⟨λr z hr=>ue wI rfl Iff.rfl (λnv=>Gt _ (IH r z hr nv)) (hs.mem.row r z hr),hs.mem.inj,λi hi=>?_,by have:=hs.mem.top;show c.top<=_;omega,hs.mem.kX.mono wI.I⟩
  rcases hi with hi|hi
  ·have:=(hs.mem.fk i hi).1;exact⟨by omega,(hs.mem.fk i hi).2⟩
  ·exact⟨by omega,λr z hr hV=>by have:=IH r z hr hV;show c.ρ r≠i;omega⟩
 have II:Rep c1 w1 (.gj f ys) (.func (.yield (w.heap.size+1)) #[] #[]):=by
  refine⟨y.ts.map λt=>a.tmps.getD t undef,.inr ⟨pQ,w.heap.size+1,rec,rfl,by rw[Cg];exact .inr rfl,NA,by rw[na],by rw[na],y,hy,?_⟩,?_⟩
  ·cases he
   rw[na]
   exact⟨rfl,rfl,rfl,Nat.le_trans hn hs.size,h1,rfl⟩
  ·have:=WB (c:=c1) (w:=w1) (ev:=cb st.env) (ρ:=a.eval) (xs:=y.ts.map Operand.tmp) (cs:=ys) (by rw[Fb,bU];exact SR) (λz hz=>Ao wI (Nr hs.env z))
   rw[bU]at this
   exact this
 have WC:kr c1 w1 (cs.map iz.d) us:=WD wI (Z9g Fc)
 have iV:kr c1 w1 (.gj f ys::cs.map iz.d) (.func (.yield (w.heap.size+1)) #[] #[]::us):=⟨II,WC⟩
 have hlen:(D.gj f ys::cs.map iz.d).length=(Value.func (.yield (w.heap.size+1)) #[] #[]::us).length:=by simp[Fc.length]
 have mw:=(h6 c1 w1 (IE (.func (.yield (w.heap.size+1)) #[] #[]::us)) IC (by rw[Cg];have:=hs.base;show c.base<=_;omega) (by rw[Cg];exact hs.rows) (λz hz=>by
  simp only[opsL,List.mem_map,List.mem_range]at hz
  obtain⟨i,_,rfl⟩:=hz
  exact vc iV i) (λv w'=>∃c',jM ks c1 w1 c' w'/\(∀r,c'.R r=R'.getD r none)) λv w' c' hn hR _=>⟨c',hn,hR⟩).1 IF
 rw[xE hlen]at mw
 refine⟨w.heap.size+1,[{target:=.collected w.heap.size,args:= #[]}],w1,{target:=.fn (.func gf) us.toArray,args:= #[.func (.yield (w.heap.size+1)) #[] #[]]},w1,gf,(Value.func (.yield (w.heap.size+1)) #[] #[]::us).toArray,w1,?_,?_,?_,?_,λe=>(by cases e),?_⟩
 ·rw[Gs,IG,na];exact run_enterLoop_outer _ _ _ _ _
 ·simp only[resolve,SS]
  simp[go_sem]
 ·intro f' _;trivial
 ·simp only[invoke]
  rw[<-hf,dw.enters (by rw[hf];exact IF)]
  congr 2
  simp
 ·refine CallsIn.mono (callsIn_wide.2 mw) λe w3 ⟨v,he3,c3,Gu,hR3⟩=>?_
  subst he3
  have IJ:w3.heap[w.heap.size+1]?=some (.loop rec):=(Gu.cj.I _ (by rw[Cg];exact .inr rfl)).2.trans NA
  have Fe:=run_endLoop (P:=P) IJ (by rw[na];simp)
  have DY:rec.pending=none:=by rw[na]
  rw[DY]at Fe
  refine⟨none,_,Fe,?_⟩
  have Ch:Fr (λi=>∃r z,c.R r=some z/\¬c.V r/\c.ρ r=i) w w3:=by
   have Ci:=Gu.fr
   rw[Cg]at Ci
   refine⟨?_,?_,?_,by have:=Ci.size;omega,λi hi IK=>(Ci.heap i (by omega) IK).trans (Gt i hi)⟩
   ·have:=Ci.os;rw[Gs,IG]at this;exact this
   ·have:=Ci.tape;rw[Gs,IG]at this;exact this
   ·have:=Ci.output;rw[Gs,IG]at this;exact this
  have hN:jM ks c w c3 w3:=by
   refine⟨Gu.mem,?_,Ch,λi hi=>?_,λr row hr hV=>?_⟩
   ·have g1:=Gu.cj
    rw[Cg]at g1
    refine⟨g1.base,g1.top,λi hi=>⟨(g1.I i (.inl hi)).1,(g1.I i (.inl hi)).2.trans (Gt i (hs.mem.fk i hi).1)⟩,λr row hr=>?_⟩
    obtain⟨aq,q1,q2,q3,q4,q5,q6,qV,q7⟩:=g1.R r row hr
    exact⟨aq,q1,q2,q3,q4,q5,q6,qV,λnv arr ha=>q7 nv arr ((Gt _ (Array.getElem?_eq_some_iff.1 ha).1).trans ha)⟩
   ·have:=Gu.fk i hi
    rw[Cg]at this
    rcases this with(g|g)|g|g
    ·exact .inl g
    ·exact .inr (.inr (by omega))
    ·exact .inr (.inl g)
    ·exact .inr (.inr (by omega))
   ·have:=Gu.oj r row hr hV
    rw[Cg]at this
    rcases this with g|g|g
    ·exact .inl g
    ·exact .inr (.inl g)
    ·exact .inr (.inr (by omega))
  have Cj:mg w0.heap.size w3 ({target:=.collected w.heap.size,args:= #[]}::a.defers):=by
   obtain⟨bs,b1,b2,b3⟩:=hs.defers.step hs.mem Ch
   refine⟨w.heap.size::bs,List.nodup_cons.2 ⟨λhm=>?_,b1⟩,by rw[b2];rfl,λi hi=>?_⟩
   ·obtain⟨bs',c1',c2',c3'⟩:=hs.defers
    rw[c2']at b2
    have:bs'=bs:=by
     have:=congrArg (List.map λ(d:Deferred)=>match d.target with|.collected i=>i|_=>0) b2
     simpa[bU,Function.comp_def]using this
    subst this
    have:=(Array.getElem?_eq_some_iff.1 (c3' _ hm).2).1
    omega
   ·rcases List.mem_cons.1 hi with e|e
    ·subst e
     refine⟨hs.reach.fr.size,?_⟩
     have Ci:=Gu.fr
     rw[Cg]at Ci
     exact(Ci.heap _ (by omega) fun⟨r,z,q1,q2,q3⟩=>by have:=IH r z q1 q2;simp only at q3;omega).trans hD1
    ·exact b3 i e
  have hs3:ft N M c0 w0 c3 w3 ⟨sr ks st.env,R'⟩ {a with defers:={target:=.collected w.heap.size,args:= #[]}::a.defers}:=
   ⟨Gu.mem,hR3,λt=>by rw[Ca];exact Ao hN.cj (Ws (hs.env t)),hs.size,Cj,hs.gb,hs.gq,hs.reach.step h5 hs.gq hN⟩
  refine⟨.normal,⟨sr ks st.env,R'⟩,_,rfl,hQ,hs3.NB (b:=w.heap.size+1) (o:=.loop rec) (by have:=hs.reach.fr.size;omega) IJ (λ_ _ _ e=>by cases e) (Fk:=λk=>k<YB) (λk ws v hk hv=>?_) (λt k hk=>NC oQ (List.mem_append_left _ (WE hk))) (λr z hr k hk=>NC oQ (List.mem_append_right _ (WG (by rw[<-hR3];exact hr) hk))) ?_⟩
  ·rcases hv with hv|⟨hv,_⟩
   ·exact .inl hv
   ·exact absurd hk (Nat.not_lt.2 hv)
  ·refine Cj.to λi hi=>(World.putObj_heap_other λe=>?_).trans hi
   rw[e,IJ]at hi;cases hi
def Cl (T:fj)(G:List bb)(N M:Nat)(gy:List (Nat×bm))(rf:Option Nat):Nat->Code->St->(Ex->St->Prop)->Prop
 |0,_,_,_=>False
 |d + 1,code,st,Q=>match code with
  |.rangeFunc g _ _ _=>match rf with|some f=>ID T G M f g st Q|none=>False
  |.loop c=>match Gp gy (keyOf c)with
   |some i=>∃(wH:i.α->Prop) (μ:i.α->Nat),wH (i.a0 st)/\fold M (i.iy st) st (i.F st (i.a0 st)).1 (i.F st (i.a0 st)).2/\∀a:i.α,wH a->pk T G N M (Cl T G N M gy rf d) c ⟨(i.F st a).1,(i.F st a).2.map some⟩ λe jC=>match e with
    |.normal=>(wH (i.next jC)/\μ (i.next jC)<μ a)/\fold M (i.ex jC) jC (i.F st (i.next jC)).1 (i.F st (i.next jC)).2
    |.exit j=>Q (.exit j) jC
    |.ret=>Q .ret jC
   |none=>False
  |_=>False
abbrev LL(T:fj)(G:List bb)(N M:Nat)(gy:List (Nat×bm)):=Cl T G N M gy none
theorem wJ{P:Program}(hD:sj P){T:fj}(hT:jF P T){G:List bb}(hG:j5 P G){N M:Nat}{gy:List (Nat×bm)}{rf:Option Nat}{ro:Option Nat}(DZ:ro=none\/rf=none):∀(d:Nat) (code:Code) (st:St) (Q:Ex->St->Prop),RF rf N code->Cl T G N M gy rf d code st Q->ub ro P N M code st Q
 |0,_,_,_,_,h=>h.elim
 |d + 1,code,st,Q,nq,h=>by
  unfold Cl at h
  split at h
  ·split at h
   ·rename_i f
    rcases DZ with e|e
    ·subst e;exact Nz hG nq h
    ·cases e
   ·exact h.elim
  ·rename_i c
   split at h
   ·rename_i i hi
    obtain⟨wH,μ,h2,h3,h4⟩:=h
    have hc:RF rf N c:=by
     cases rf with
     |none=>trivial
     |some f=>exact nq
    refine y5 (i.F st) wH μ (i.a0 st) (i.iy st) h2 h3 λa ha=>Tr.mono (λe jC hq=>?_) (ND hD hT hG (NF rf N) (wJ hD hT hG DZ d) c _ _ hc (h4 a ha))
    cases e with
    |normal=>exact⟨_,_,hq.1.1,hq.1.2,hq.2⟩
    |exit j=>exact hq
    |ret=>exact hq
   ·exact h.elim
  ·exact h.elim
def iW(R:Rows)(r j:Nat):D:=match R.getD r none with|some row=>(row.es.get 0).getD j .dead|none=>.dead
def nH(R:Rows)(r:Nat):ai:=match R.getD r none with|some row=>row.es|none=>.gen []
def nI(R:Rows)(r:Nat):List Int:=match R.getD r none with|some ⟨_,_,_,.ints _ l⟩=>l|_=>[]
def Ea(k:RK)(R:Rows)(r:Nat):List (RK.T k):=match R.getD r none with|some ⟨_,_,_,.ba k' l⟩=>(match Gh k' k l with|some m=>m|none=>[])|_=>[]
def Ff(k:IntKind)(R:Rows)(d:D):List Int:=match d with|.all r=>nI R r|.own r _ _=>nI R r|d=>nE k d
def rr(d:D)(n:Nat):Nat:=match d with|.all r=>r|.own r _ _=>r|.ptr r _ _=>r|.pa r _ _ _ _ _=>r|_=>n
theorem Eb{n:Int}(h1: -9223372036854775808<=n)(h2:n<=9223372036854775807):IntKind.wrap .i64 n=n:=by rw[IntKind.wrap_i64];omega
inductive o8 where
 |sl (t:CT) (fr:Bool)
 |row (ty sz:Nat) (t:CT)
def Gv:CT->ai
 |.ints k=>.ints k []
 |.bz=>.bz []
 |.ba k=>.ba k []
 |_=>.gen []
def CT.iR:CT->Nat
 |.ba k=>k.size
 |_=>1
def toCT:CT->ai->Option ai
 |.ints k,E=>match E.toI k with|some l=>some (.ints k l)|none=>none
 |.bz,E=>match E.toB with|some l=>some (.bz l)|none=>none
 |.ba k,E=>match E.toR k with|some l=>some (.ba k l)|none=>none
 |_,_=>none
theorem WH(t:CT):(Gv t).Nil:=by cases t<;>rfl
theorem NG{t:CT}{E E':ai}(h:toCT t E=some E'):ai.Eq E E':=by
 cases t with
 |ints k=>
  simp only[toCT]at h
  split at h
  ·rename_i l hl
   cases h
   cases E with
   |ints k' m=>
    simp only[ai.toI]at hl
    split at hl
    ·rename_i hk;cases hl;simp only[ai.Eq,hk]
    ·cases hl
   |gen es=>cases es<;>simp[ai.toI]at hl;subst hl;rfl
   |bz m=>simp[ai.toI]at hl
   |ba k m=>simp[ai.toI]at hl
  ·cases h
 |bz=>
  simp only[toCT]at h
  split at h
  ·rename_i l hl
   cases h
   cases E with
   |bz m=>simp[ai.toB]at hl;subst hl;rfl
   |gen es=>cases es<;>simp[ai.toB]at hl;subst hl;rfl
   |ints k m=>simp[ai.toB]at hl
   |ba k m=>simp[ai.toB]at hl
  ·cases h
 |ba k=>
  simp only[toCT]at h
  split at h
  ·rename_i l hl
   cases h
   cases E with
   |ba k' m=>simp only[ai.toR]at hl;simp only[ai.Eq,hl]
   |gen es=>cases es<;>simp[ai.toR]at hl;subst hl;rfl
   |ints k m=>simp[ai.toR]at hl
   |bz m=>simp[ai.toR]at hl
  ·cases h
 |_=>simp[toCT]at h
structure jR where
 ds:List o8
 ex:List (Nat×Row)
 fz:List Nat
def wK(m:Nat):List (Nat×Nat×Nat)->Bool
 |[]=>true
 |p::l=>bJ p.1 m&&wK m l
def IL(m:Nat):List iz->Bool
 |[]=>true
 |.ptr r _ _::l=>bJ r m&&IL m l
 |.fn _ ps::l=>wK m ps&&IL m l
 |_=>false
theorem qd{m:Nat}{EX:List Nat}(hE:∀i,i<m->EX[i]?=some i):∀{ps:List (Nat×Nat×Nat)},wK m ps=true->sJ EX ps ps=true
 |[],_=>rfl
 |(r,a,b)::l,h=>by
  simp only[wK,aE]at h
  simp only[sJ,kL,hE r (lE h.1),qd hE h.2]
  simp
theorem v6{m:Nat}{EX:List Nat}(hE:∀i,i<m->EX[i]?=some i):∀{cs:List iz},IL m cs=true->pn EX cs cs=true:=by
 intro cs
 induction cs with
 |nil=>intro _;rfl
 |cons x l ih=>
  intro h
  cases x with
  |ptr r a b=>
   simp only[IL,aE]at h
   simp only[pn,kL,hE r (lE h.1),ih h.2]
   simp
  |fn f ps=>
   simp only[IL,aE]at h
   simp only[pn,qd hE h.1,ih h.2]
   simp
  |_=>simp[IL]at h
def SU(m:Nat)(R:Rows)(c:D)(s:jR):Option (D×jR):=
  match c with
  | .int k n=>some (.int k n,s)
  | .bool b=>some (.bool b,s)
  | .str x=>some (.str x,s)
  | .iQ=>some (.iQ,s)
  | .jQ=>some (.jQ,s)
  | .c8 r=>match bJ r m with|true=>some (.c8 r,s)|false=>none
  | .ptr r o f=>match bJ r m with|true=>some (.ptr r o f,s)|false=>none
  | .gj f cs=>match IL m cs with|true=>some (.gj f cs,s)|false=>none
  | .du=>match s with
    |⟨.sl t f::ds,ex,fz⟩=>some (.sl t.iR (Gv t) f,⟨ds,ex,fz⟩)
    |⟨.row ty sz t::ds,ex,fz⟩=>match bJ 0 sz with|true=>some (.all (m+ex.length),⟨ds,ex++[(R.length+ex.length,⟨false,ty,sz,Gv t⟩)],fz⟩)|false=>none
    |_=>none
  | .emp=>match s with
    |⟨.sl t f::ds,ex,fz⟩=>some (.sl t.iR (Gv t) f,⟨ds,ex,fz⟩)
    |⟨.row ty sz t::ds,ex,fz⟩=>match bJ 0 sz with|true=>some (.all (m+ex.length),⟨ds,ex++[(R.length+ex.length,⟨false,ty,sz,Gv t⟩)],fz⟩)|false=>none
    |_=>none
  | .sl n E fr=>match s with
    | ⟨.sl t f::ds,ex,fz⟩=>match toCT t E,(!f||fr)&&(bT n t.iR||IM E) with
      |some E',true=>some (.sl t.iR E' f,⟨ds,ex,fz⟩)
      |_,_=>none
    |_=>none
  | .all r=>match s with
    | ⟨.sl t f::ds,ex,fz⟩=>match R.getD r none with
      | some ⟨box,_,kE,E⟩=>match toCT t E,!box&&(bT kE t.iR&&Nat.ble m r) with
        |some E',true=>some (.sl t.iR E' f,⟨ds,ex,r::fz⟩)
        |_,_=>none
      |none=>none
    | ⟨.row ty sz t::ds,ex,fz⟩=>match bJ r m with
      |true=>some (.all r,⟨ds,ex,fz⟩)
      | false=>match R.getD r none with
        | some ⟨box,j6,kE,E⟩=>match toCT t E,!box&&(bT j6 ty&&bT kE sz) with
          |some E',true=>some (.all (m+ex.length),⟨ds,ex++[(r,⟨false,ty,sz,E'⟩)],fz⟩)
          |_,_=>none
        |none=>none
    |_=>none
  | .own r o n=>match s with
    | ⟨.sl t f::ds,ex,fz⟩=>match R.getD r none with
      | some ⟨box,_,kE,E⟩=>match toCT t ((E.drop o).take n),!box&&(bT kE t.iR&&Nat.ble m r) with
        |some E',true=>some (.sl t.iR E' f,⟨ds,ex,r::fz⟩)
        |_,_=>none
      |none=>none
    |_=>none
  |_=>none
def KL(m:Nat)(R:Rows):List D->jR->Option (List D×jR)
 |[],s=>some ([],s)
 |c ::cs,s=>match SU m R c s with
  |some (c',s')=>match KL m R cs s' with
   |some (rY,IN)=>some (c'::rY,IN)
   |none=>none
  |none=>none
def Fg(m:Nat)(R:Rows)(d:D)(s:jR):Option (D×jR):=
 match d with
 |.agg cs=>match KL m R cs s with|some (rY,s')=>some (.agg rY,s')|none=>none
 |d=>SU m R d s
def sK(m:Nat)(R:Rows):List D->jR->Option (List D×jR)
 |[],s=>some ([],s)
 |c ::cs,s=>match Fg m R c s with
  |some (c',s')=>match sK m R cs s' with
   |some (rY,IN)=>some (c'::rY,IN)
   |none=>none
  |none=>none
def IP(m:Nat)(R:Rows)(d:D)(s:jR):Option (D×jR):=
 match d with
 |.dt ds=>match sK m R ds s with|some (ou,s')=>some (.dt ou,s')|none=>none
 |d=>Fg m R d s
def KM(m:Nat)(R:Rows):Nat->Nat->jR->Option (List Row×jR)
 |0,_,s=>some ([],s)
 |n + 1,i,s=>match R.getD i none with
  |some ⟨true,ty,sz,.gen [e]⟩=>match KL m R e s with
   |some (e',s')=>match KM m R n (i+1) s' with
    |some (rs,IN)=>some (⟨true,ty,sz,.gen [e']⟩::rs,IN)
    |none=>none
   |none=>none
  |some ⟨false,ty,sz,E⟩=>match KM m R n (i+1) s with
   |some (rs,IN)=>some (⟨false,ty,sz,E⟩::rs,IN)
   |none=>none
  |_=>none
def Fh(m:Nat)(ex:List (Nat×Row)):List Nat:=List.range m++ex.map (·.1)
def sq(m:Nat)(ds:List o8)(d:D)(R:Rows)(K:D->List Row->Prop):Prop:=
 match IP m R d ⟨ds,[],[]⟩with
 |some (d',s)=>match KM m R m 0 s with
  |some (rs,s')=>cw (Az m (Fh m s'.ex)&&s'.fz.all (KN (Fh m s'.ex))) (K d' (rs++s'.ex.map (·.2)))
  |none=>False
 |none=>False
def sL(R:Rows)(x:Nat×Row):Prop:=
 x.2.box=false/\match R.getD x.1 none with
 |some ⟨AE,j6,kE,ji⟩=>AE=false/\j6=x.2.ty/\kE=x.2.sz/\ai.Eq ji x.2.es
 |none=>0<x.2.sz/\x.2.es.Nil
structure ov(m:Nat)(R:Rows)(EX:List Nat)(s:jR):Prop where
 at_:∀(i:Nat) x,s.ex[i]?=some x->EX[m+i]?=some x.1
 ei:∀x∈s.ex,sL R x
 out:∀r∈s.fz,KN EX r=true
def AF(s s':jR):Prop:=s.ex<+:s'.ex/\s.fz<:+s'.fz
theorem AF.refl(s:jR):AF s s:=⟨bV _,bW _⟩
theorem AF.trans{a b c:jR}(h:AF a b)(g:AF b c):AF a c:=⟨h.1.trans g.1,h.2.trans g.2⟩
theorem xd{E:ai}(h:IM E=true):E.Nil:=ai.ow.2 (SD h)
theorem Ziw{m:Nat}{R:Rows}{c c':D}{s s':jR}(h:SU m R c s=some (c',s')):
    AF s s'/\((∀x∈s.ex,sL R x)-> ∀x∈s'.ex,sL R x)/\ ∀EX:List Nat,(∀i,i<m->EX[i]? =some i)->ov m R EX s'->jD EX m R c c':=by
  have NH: ∀{ty sz t},bJ 0 sz=true->((∀x∈s.ex,sL R x)-> ∀x∈s.ex++[(R.length+s.ex.length,(⟨false,ty,sz,Gv t⟩:Row))],sL R x)/\
      ∀(EX:List Nat) (ds:List o8) (fz:List Nat),ov m R EX ⟨ds,s.ex++[(R.length+s.ex.length,(⟨false,ty,sz,Gv t⟩:Row))],fz⟩->IQ EX R (m+s.ex.length)=true:=by
    intro ty sz t fv
    have hn:R.getD (R.length+s.ex.length) none=none:=by rw[aK,List.getElem?_eq_none (by omega)];rfl
    refine⟨λhg x hx=> ?_,λEX ds fz hG=> ?_⟩
    . simp only[bX,bY]at hx
      rcases hx with hx|rfl
      . exact hg x hx
      . refine⟨rfl,?_⟩
        simp only[hn]
        exact⟨lE fv,WH t⟩
    . have:=hG.at_ s.ex.length (R.length+s.ex.length,⟨false,ty,sz,Gv t⟩) (by simp)
      simp only[IQ,this,hn]
  cases c<;>simp only[SU]at h<;>try(cases h;done)
  case int k n=>cases h;exact⟨.refl _,id,λEX _ _=>by simp [jD,cw]⟩
  case bool b=>cases h;exact⟨.refl _,id,λEX _ _=>by simp [jD]⟩
  case str x=>cases h;exact⟨.refl _,id,λEX _ _=>by simp [jD]⟩
  case iQ=>cases h;exact⟨.refl _,id,λEX _ _=>by simp [jD]⟩
  case jQ=>cases h;exact⟨.refl _,id,λEX _ _=>by simp [jD]⟩
  case c8 r=>
    split at h
    . rename_i hr
      cases h
      refine⟨.refl _,id,λEX hE _=> ?_⟩
      have:=hE r (lE hr)
      simp only[jD,c9,kL,this]
      exact⟨by simp,trivial⟩
    . cases h
  case ptr r o f=>
    split at h
    . rename_i hr
      cases h
      refine⟨.refl _,id,λEX hE _=> ?_⟩
      have:=hE r (lE hr)
      simp only[jD,c9,kL,this]
      exact⟨by simp,trivial⟩
    . cases h
  case gj f cs=>
    split at h
    . rename_i hr
      cases h
      refine⟨.refl _,id,λEX hE _=> ?_⟩
      simp only[jD,c9,v6 hE hr]
      exact⟨by simp,trivial⟩
    . cases h
  case du=>
    split at h
    . cases h;exact⟨.refl _,id,λEX _ _=>WH _⟩
    . split at h
      . rename_i fv
        cases h
        obtain⟨v1,v2⟩:=NH fv
        exact⟨⟨bZ _ _,bW _⟩,v1,λEX _ hG=>by simp only[jD,c9];exact⟨v2 EX _ _ hG,trivial⟩⟩
      . cases h
    . cases h
  case emp=>
    split at h
    . cases h;exact⟨.refl _,id,λEX _ _=>WH _⟩
    . split at h
      . rename_i fv
        cases h
        obtain⟨v1,v2⟩:=NH fv
        exact⟨⟨bZ _ _,bW _⟩,v1,λEX _ hG=>by simp only[jD,c9];exact⟨v2 EX _ _ hG,trivial⟩⟩
      . cases h
    . cases h
  case sl n E fr=>
    split at h
    . rename_i t f ds ex fz
      split at h
      . rename_i E' hE hb
        cases h
        simp only[aE,Bool.or_eq_true]at hb
        refine⟨.refl _,id,λEX _ _=> ?_⟩
        simp only[jD,c9]
        exact⟨by simpa using hb.1,hb.2.symm.imp xd bE,NG hE⟩
      . cases h
    . cases h
  case all r =>
    split at h
    . rename_i t f ds ex fz
      split at h
      . rename_i box ty kE E hR
        split at h
        . rename_i E' hE hb
          cases h
          simp only[aE]at hb
          refine⟨⟨bV _,cA _ _⟩,id,λEX _ hG=> ?_⟩
          simp only[jD,hR,c9,aE]
          exact⟨⟨⟨⟨hb.1,hb.2.1⟩,hG.out r (by simp)⟩,hb.2.2⟩,NG hE⟩
        . cases h
      . cases h
    . rename_i ty sz t ds ex fz
      split at h
      . rename_i cq
        cases h
        refine⟨.refl _,id,λEX pU hG=> ?_⟩
        simp only[jD,c9]
        have:=pU r (lE cq)
        exact⟨by simp [kL,this],trivial⟩
      . split at h
        . rename_i box j6 kE E hR
          split at h
          . rename_i E' hE hb
            cases h
            simp only[aE,Bool.not_eq_true']at hb
            refine⟨⟨bZ _ _,bW _⟩,λhg x hx=> ?_,λEX pU hG=> ?_⟩
            . simp only[bX,bY]at hx
              rcases hx with hx|rfl
              . exact hg x hx
              . refine⟨rfl,?_⟩
                simp only[hR]
                exact⟨hb.1,bE hb.2.1,bE hb.2.2,NG hE⟩
            . have:=hG.at_ ex.length (r,⟨false,ty,sz,E'⟩) (by simp)
              simp only[jD,c9]
              exact⟨by simp [kL,this],trivial⟩
          . cases h
        . cases h
    . cases h
  case own r o n=>
    split at h
    . rename_i t f ds ex fz
      split at h
      . rename_i box ty kE E hR
        split at h
        . rename_i E' hE hb
          cases h
          simp only[aE]at hb
          refine⟨⟨bV _,cA _ _⟩,id,λEX _ hG=> ?_⟩
          simp only[jD,hR,c9,aE]
          exact⟨⟨⟨⟨hb.1,hb.2.1⟩,hG.out r (by simp)⟩,hb.2.2⟩,NG hE⟩
        . cases h
      . cases h
    . cases h
theorem ov.mono{m:Nat}{R:Rows}{EX:List Nat}{s s':jR}(hl:AF s s')(h:ov m R EX s'):ov m R EX s:=
 ⟨λi x hx=>h.at_ i x (by
  obtain⟨t,ht⟩:=hl.1
  rw[<-ht,aZ (List.getElem?_eq_some_iff.1 hx).1];exact hx),λx hx=>h.ei x (hl.1.subset hx),λr hr=>h.out r (hl.2.subset hr)⟩
theorem WI{m:Nat}{R:Rows}:∀{cs rY:List D} {s s':jR},KL m R cs s=some (rY,s')->
 AF s s'/\((∀x∈s.ex,sL R x)->∀x∈s'.ex,sL R x)/\∀EX:List Nat,(∀i,i<m->EX[i]?=some i)->ov m R EX s'->Fi EX m R cs rY
 |[],rY,s,s',h=>by simp only[KL]at h;cases h;exact⟨.refl _,id,λ_ _ _=>trivial⟩
 |c ::cs,rY,s,s',h=>by
  simp only[KL]at h
  split at h
  ·rename_i c1 s1 h1
   split at h
   ·rename_i cs1 s2 h2
    cases h
    obtain⟨a1,a2,a3⟩:=Ziw h1
    obtain⟨b1,b2,b3⟩:=WI h2
    exact⟨a1.trans b1,λh=>b2 (a2 h),λEX pU hG=>⟨a3 EX pU (hG.mono b1),b3 EX pU hG⟩⟩
   ·cases h
  ·cases h
theorem zd{m:Nat}{R:Rows}{d d':D}{s s':jR}(h:Fg m R d s=some (d',s')):
 AF s s'/\((∀x∈s.ex,sL R x)->∀x∈s'.ex,sL R x)/\∀EX:List Nat,(∀i,i<m->EX[i]?=some i)->ov m R EX s'->ry EX m R d d':=by
 unfold Fg at h
 split at h
 ·rename_i cs
  split at h
  ·rename_i rY s1 h1
   cases h
   exact WI h1
  ·cases h
 ·rename_i gl
  obtain⟨a1,a2,a3⟩:=Ziw h
  refine⟨a1,a2,λEX pU hG=>?_⟩
  have h3:=a3 EX pU hG
  cases d' with
  |agg ps=>simp[jD]at h3
  |_=>exact h3
theorem Znn{m:Nat}{R:Rows}:∀{cs rY:List D} {s s':jR},sK m R cs s=some (rY,s')->
 AF s s'/\((∀x∈s.ex,sL R x)->∀x∈s'.ex,sL R x)/\∀EX:List Nat,(∀i,i<m->EX[i]?=some i)->ov m R EX s'->wM EX m R cs rY
 |[],rY,s,s',h=>by simp only[sK]at h;cases h;exact⟨.refl _,id,λ_ _ _=>trivial⟩
 |c ::cs,rY,s,s',h=>by
  simp only[sK]at h
  split at h
  ·rename_i c1 s1 h1
   split at h
   ·rename_i cs1 s2 h2
    cases h
    obtain⟨a1,a2,a3⟩:=zd h1
    obtain⟨b1,b2,b3⟩:=Znn h2
    exact⟨a1.trans b1,λh=>b2 (a2 h),λEX pU hG=>⟨a3 EX pU (hG.mono b1),b3 EX pU hG⟩⟩
   ·cases h
  ·cases h
theorem y7{m:Nat}{R:Rows}{d d':D}{s s':jR}(h:IP m R d s=some (d',s')):
 AF s s'/\((∀x∈s.ex,sL R x)->∀x∈s'.ex,sL R x)/\∀EX:List Nat,(∀i,i<m->EX[i]?=some i)->ov m R EX s'->Ay EX m R d d':=by
 unfold IP at h
 split at h
 ·rename_i cs
  split at h
  ·rename_i rY s1 h1
   cases h
   exact Znn h1
  ·cases h
 ·rename_i gl
  obtain⟨a1,a2,a3⟩:=zd h
  refine⟨a1,a2,λEX pU hG=>?_⟩
  have h3:=a3 EX pU hG
  cases d' with
  |dt ps=>simp[ry,jD]at h3
  |_=>exact h3
theorem WJ{m:Nat}{R:Rows}:∀{n i:Nat} {rs:List Row} {s s':jR},KM m R n i s=some (rs,s')->
 AF s s'/\((∀x∈s.ex,sL R x)->∀x∈s'.ex,sL R x)/\∀EX:List Nat,(∀i,i<m->EX[i]?=some i)->ov m R EX s'->nc EX m R (bK i n) rs
 |0,i,rs,s,s',h=>by simp only[KM]at h;cases h;exact⟨.refl _,id,λ_ _ _=>trivial⟩
 |n + 1,i,rs,s,s',h=>by
  simp only[KM]at h
  split at h
  ·rename_i ty sz e hR
   split at h
   ·rename_i e1 s1 h1
    split at h
    ·rename_i rs1 s2 h2
     cases h
     obtain⟨a1,a2,a3⟩:=WI h1
     obtain⟨b1,b2,b3⟩:=WJ h2
     refine⟨a1.trans b1,λh=>b2 (a2 h),λEX pU hG=>?_⟩
     rw[cB]
     simp only[nc,hR,c9]
     exact⟨⟨by simp,a3 EX pU (hG.mono b1)⟩,b3 EX pU hG⟩
    ·cases h
   ·cases h
  ·rename_i ty sz E hR
   split at h
   ·rename_i rs1 s2 h2
    cases h
    obtain⟨b1,b2,b3⟩:=WJ h2
    refine⟨b1,b2,λEX pU hG=>?_⟩
    rw[cB]
    simp only[nc,hR,c9]
    refine⟨⟨by simp,?_⟩,b3 EX pU hG⟩
    cases E with
    |gen es=>cases es<;>simp[ai.Eq]
    |ba k l=>simp[ai.Eq,Z9o]
    |_=>simp[ai.Eq]
   ·cases h
  ·cases h
theorem Qrt{ex:List Nat}{m:Nat}{R:Rows}:∀{l1 l2:List Nat} {p1 p2:List Row},nc ex m R l1 p1->nc ex m R l2 p2->nc ex m R (l1++l2) (p1++p2)
 |[],l2,[],p2,_,h=>h
 |r::l1,l2,p::p1,p2,h1,h2=>by
  simp only[List.cons_append,nc]at h1⊢
  exact⟨h1.1,Qrt h1.2 h2⟩
 |[],_,_::_,_,h,_=>h.elim
 |_::_,_,[],_,h,_=>h.elim
theorem Z9c{ex:List Nat}{m:Nat}{R:Rows}:∀{l:List (Nat×Row)},(∀x∈l,sL R x)->nc ex m R (l.map (·.1)) (l.map (·.2))
 |[],_=>trivial
 |(r,⟨box,ty,sz,es⟩)::l,h=>by
  simp only[List.map_cons,nc]
  refine⟨?_,Z9c λx hx=>h x (by simp[hx])⟩
  obtain⟨h1,h2⟩:=h (r,⟨box,ty,sz,es⟩) (by simp)
  simp only at h1 h2
  subst h1
  split
  ·rename_i AE j6 kE ji hR
   simp only[hR]at h2
   obtain⟨rfl,rfl,rfl,h2⟩:=h2
   simp only[c9]
   exact⟨by simp,h2⟩
  ·rename_i hR
   simp only[hR]at h2
   simp only[c9]
   exact⟨by simpa using h2.1,h2.2⟩
theorem Z8x{m:Nat}{ds:List o8}{d:D}{R:Rows}{K:D->List Row->Prop}(h:sq m ds d R K):∃res rows,K res rows/\AG m res rows d R:=by
 unfold sq at h
 split at h
 ·rename_i d' s h1
  split at h
  ·rename_i rs s' h2
   simp only[c9,aE]at h
   obtain⟨⟨hx,hf⟩,hK⟩:=h
   obtain⟨a1,a2,a3⟩:=y7 h1
   obtain⟨b1,b2,b3⟩:=WJ h2
   have Gw:∀x∈s'.ex,sL R x:=b2 (a2 λx hx=>by simp at hx)
   have pU:∀i,i<m->(Fh m s'.ex)[i]?=some i:=λi hi=>by
    unfold Fh
    rw[aZ (by simpa using hi)];simp[hi]
   have hG:ov m R (Fh m s'.ex) s':=⟨λi x hx=>by
    unfold Fh
    rw[List.getElem?_append_right (by simp)]
    simp[hx],Gw,λr hr=>List.all_eq_true.1 hf r hr⟩
   refine⟨d',_,hK,Fh m s'.ex,hx,a3 _ pU (hG.mono b1),?_⟩
   have h3:=b3 _ pU hG
   have:Fh m s'.ex=bK 0 m++s'.ex.map (·.1):=by unfold Fh;rw[List.range_eq_range']
   refine Eq.mpr ?_ (Qrt h3 (Z9c Gw))
   rw[<-this]
  ·exact h.elim
 ·exact h.elim

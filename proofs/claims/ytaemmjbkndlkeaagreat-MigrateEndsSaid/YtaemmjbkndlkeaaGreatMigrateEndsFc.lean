import Derived.Test.YtaemmjbkndlkeaaGreatMigrateEndsDraw
import Derived.IntWalk
open List renaming getD->aV,ext_getElem->bR,map_map->bY,prefix_refl->bZ,suffix_refl->cA,mem_append->cB,mem_singleton->cC,prefix_append->cD,suffix_cons->cE,getElem?_append_left->bI,range'->bO,range'_succ->cF
open Nat renaming beq->bX,blt->bN
set_option linter.all false
namespace Go.GD
open Go
variable {E:ai}{EX ex:List Nat}{M N m:Nat}{P:Program}{Q:Ex->St->Prop}{R:Rows}{c:Ctx}{code:Code}{d d':D}{ro:Option Nat}{st:St}{w:World}
def sk(ex:List Nat)(M:Nat)(R:Rows)(d p:D):Prop:=
 match p with
 |.dead=>True
 |.ptr i o f=>match d with|.ptr r o' f'=>cu (ka ex i r) (o'=o/\f'=f)|_=>False
 |.iu sz es i off=>match d with|.iu j9 iW i' iK=>j9=sz/\ai.Eq iW es/\i'=i/\iK=off|_=>False
 |p=>sn ex M R d p
def BI(ex:List Nat)(M:Nat)(R:Rows)(env:List (Nat×D)):List (Nat×D)->Prop
 |[]=>True
 |(t,p)::l=>sk ex M R (look env t) p/\BI ex M R env l
def fold(M:Nat)(ex:List Nat)(st:St)(mh:List (Nat×D))(aj:List Row):Prop:=
 cu (so M ex) (BI ex M st.rows st.env mh/\lO ex M st.rows ex aj)
theorem xc{rows:List Row}(hm:Mem c w)(hR:∀r,c.R r=R.getD r none)(db:lO ex m R ex rows)(e6:∀r row,c.R r=some row->¬c.V r->m<=r->c.base<=c.ρ r){d p:D}{v:Value}(h:sk ex m R d p)(hr:Rep c w d v):Rep (c.out ex rows) w p v:=by
 have nB:∀b,c.I b->(c.out ex rows).I b/\w.heap[b]?=w.heap[b]? :=λb hb=>⟨.inl hb,rfl⟩
 cases p with
 |dead=>trivial
 |ptr i o f=>
  simp only[sk]at h
  split at h
  ·rename_i r o' f'
   simp only[dd]at h
   obtain⟨hx,rfl,rfl⟩:=h
   exact SF (w:=w) hR db hx hr
  ·exact h.elim
 |iu sz es i off=>
  simp only[sk]at h
  split at h
  ·obtain⟨rfl,he,rfl,rfl⟩:=h
   have he:=ai.w9 he
   obtain⟨b,o,arr,ty,fz,h1,h2,h3,h4,h5⟩:=hr
   rw[he]at h3 h5
   exact⟨b,o,arr,ty,fz,h1,.inl h2,h3,h4,nq nB _ _ _ _ h5⟩
  ·exact h.elim
 |_=>
  simp only[sk]at h
  exact SG hm hR db e6 h hr
theorem Zhh{c:Ctx}{w:World}{ex:List Nat}{m:Nat}{R:Rows}{rows:List Row}(hm:Mem c w)(hR:∀r,c.R r=R.getD r none)(db:lO ex m R ex rows)(e6:∀r row,c.R r=some row->¬c.V r->m<=r->c.base<=c.ρ r){env:List (Nat×D)}{a:Act}(he:∀t,Rep c w (look env t) (a.tmps.getD t undef)):
 ∀{mh:List (Nat×D)},BI ex m R env mh->∀t,Rep (c.out ex rows) w (look mh t) (a.tmps.getD t undef)
 |[],_,t=>trivial
 |(u,p)::l,h,t=>by
  have:=Zhh hm hR db e6 he h.2 t
  rw[AK]
  split
  ·rename_i e
   subst e
   exact xc hm hR db e6 h.1 (he u)
  ·exact this
theorem zc{c0:Ctx}{w0:World}{a:Act}(hs:fi N M c0 w0 c w st a){mh:List (Nat×D)}{aj:List Row}(h:fold M ex st mh aj):∃c',fi N M c0 w0 c' w ⟨mh,aj.map some⟩ a:=by
 unfold fold at h
 simp only[dd]at h
 obtain⟨hex,hE,db⟩:=h
 obtain⟨e6,je,fw⟩:=SH hs hex db
 refine⟨c.out ex aj,je,λr=>?_,Zhh hs.mem hs.rows db e6 hs.env hE,hs.size,hs.defers,hs.fx,hs.gv,fw⟩
 simp only[Ctx.out,aV,List.getElem?_map]
 cases aj[r]? <;>rfl
theorem Tr.mono{Q Q':Ex->St->Prop}(hq:∀e st,Q e st->Q' e st)(h:tN ro P N M code st Q):tN ro P N M code st Q':=
 λc0 w0 c w a hs=>wpIn_mono (h c0 w0 c w a hs) λe a' w' ⟨ex,jq,c',h1,h2,h3⟩=>⟨ex,jq,c',h1,hq _ _ h2,h3⟩
theorem xad{α:Type}(F:α->List (Nat×D)×List Row)(u7:α->Prop)(μ:α->Nat)
 (a0:α) (jb:List Nat) (hp:u7 a0) (h0:fold M jb st (F a0).1 (F a0).2)
 (round:∀a,u7 a->tN ro P N M code ⟨(F a).1,(F a).2.map some⟩ λe jq=>match e with
  |.normal=>∃b ex,u7 b/\μ b<μ a/\fold M ex jq (F b).1 (F b).2
  |.exit i=>Q (.exit i) jq
  |.ret=>Q .ret jq):tN ro P N M (.loop code) st Q:=by
 intro c0 w0 c w a hs
 have key:∀(n:Nat) (x:α),u7 x->μ x<n->∀(c:Ctx) (w:World) (a:Act),fi N M c0 w0 c w ⟨(F x).1,(F x).2.map some⟩ a->
  Code.roundsIn (AN ro) 0 P code (λe a' w'=>∃ex jq c',mN e=some ex/\Q ex jq/\fi N M c0 w0 c' w' jq a') n a w:=by
  intro n
  induction n with
  |zero=>intro x _ h;omega
  |succ n ih=>
   intro x hx bh c w a hs
   rw[roundsIn_succ]
   refine wpIn_mono (round x hx c0 w0 c w a hs) λe a' w' hq=>?_
   obtain⟨ex,jq,c',he,hq,iU⟩:=hq
   cases e<;>simp only[mN,Option.some.injEq,reduceCtorEq]at he
   ·subst he
    obtain⟨b,ex,h1,h2,h3⟩:=hq
    obtain⟨SI,Wu⟩:=zc iU h3
    exact ih b h1 (by omega) SI w' a' Wu
   ·subst he;exact⟨_,jq,c',rfl,hq,iU⟩
   ·subst he;exact⟨_,jq,c',rfl,hq,iU⟩
 obtain⟨c',iU⟩:=zc hs h0
 exact wpIn_loop_rounds _ (key (μ a0+1) a0 hp (by omega) c' w a iU)
structure cg where
 α:Type
 F:St->α->List (Nat×D)×List Row
 a0:St->α
 jb:St->List Nat
 next:St->α:=a0
 ex:St->List Nat:=jb
structure Ask(p:Prop):Prop where
 ok:p
def keyOf:Code->Nat
 |.region id _ _=>id
 |.block id _=>id
 |.seq a _=>keyOf a
 |.loop a=>keyOf a
 |_=>0
def Gd:List (Nat×cg)->Nat->Option cg
 |[],_=>none
 |(k,i)::l,n=>match bX k n with|true=>some i|false=>Gd l n
def HY(T:iy)(G:List bd)(M f:Nat)(g:Operand)(st:St)(Q:Ex->St->Prop):Prop:=
 match cq st.env g with
 |.gp gf cs=>match Zd ((Wv f).map (look st.env)),oX G gf with
  |some ys,some k=>HW T ys st.env st.rows λR=>cu (bN gf YB)<|HP G M gf k (.gp f ys::cs.map iD.d) R λks _ R=>Ge ks st.env λenv=>cu (pZ (Aa env++Gf R)) (Q .normal ⟨env,R⟩)
  |_,_=>False
 |_=>False
def evL(ds:List D):Operand->D|.tmp i=>ds.getD i .dead|_=>.dead
def opsL(n:Nat):List Operand:=(List.range n).map Operand.tmp
theorem qae{ds:List D}:(opsL ds.length).map (evL ds)=ds:=by
 refine bR (by simp[opsL]) λi h1 h2=>?_
 simp[opsL,evL,aV,h2]
def HZ(vs:List Value):Operand->Value|.tmp i=>vs.getD i undef|_=>undef
theorem yH{vs:List Value}{n:Nat}(h:n=vs.length):(opsL n).map (HZ vs)=vs:=by
 subst h
 refine bR (by simp[opsL]) λi h1 h2=>?_
 simp[opsL,HZ,aV,h2]
theorem yc{c:Ctx}{w:World}:∀{ds:List D} {vs:List Value},kg c w ds vs->∀i,Rep c w (ds.getD i .dead) (vs.getD i undef)
 |[],[],_,i=>by simp[aV];trivial
 |d::ds,v::vs,h,0=>by simpa using h.1.toRep
 |d::ds,v::vs,h,i+1=>by simpa using yc h.2 i
 |[],_::_,h,_=>h.elim
 |_::_,[],h,_=>h.elim
theorem Zcq{c:Ctx}{w:World}:∀{cs:List iD} {us:List Value},oD c w cs us->kg c w (cs.map iD.d) us
 |[],[],_=>trivial
 |x::cs,u::us,h=>⟨VRep.Ei (Wg.1 h.1),Zcq h.2⟩
 |[],_::_,h=>h.elim
 |_::_,[],h=>h.elim
theorem M7{G:List bd}(hG:jD P G){N M f:Nat}{g:Operand}{ps:Array Tmp}{x b:Code}(mH:RF (some f) N (.rangeFunc g ps x b)){T:iy}(h:HY T G M f g st Q):Tr P N M (.rangeFunc g ps x b) st Q:=by
 intro c0 w0 c w a hs
 obtain⟨y,⟨hy,hn,En,gl,h1⟩,he⟩:=mH
 unfold HY at h
 split at h
 rotate_left
 ·exact h.elim
 rename_i gf cs hg
 split at h
 rotate_left
 ·exact h.elim
 rename_i ys k SJ lM
 obtain⟨R0,c,h,hs⟩:=Gc h hs
 simp only[dd]at h
 obtain⟨H0,h⟩:=h
 have H0:=lE H0
 rw[<-qae (ds:=.gp f ys::cs.map iD.d)]at h
 obtain⟨ks,val,R',X,h2,h3,h4,h5,h6⟩:=Wi hG lM h
 obtain⟨dx,hf⟩:=FZ hG h3
 rw[HQ]at h2
 obtain⟨mZ,hQ⟩:=h2
 have SK:Rep c w (cq st.env g) (a.eval g):=M1 hs.env g
 rw[hg]at SK
 obtain⟨us,⟨_,SK⟩|⟨Ww,_⟩,BJ⟩:=SK
 rotate_left
 ·exact absurd H0 (Nat.not_lt.2 Ww)
 refine wpIn_rangeFunc λfn _=>?_
 obtain⟨rec,mP⟩:∃rec:Loop,rec={state:=.ready,pending:=none,fn,tmps:=a.tmps,params:=ps,assign:=x,body:=b,defers:=w.heap.size}:=⟨_,rfl⟩
 obtain⟨wd,H2⟩:∃wd,wd=w.alloc (.deferred (some [])):=⟨_,rfl⟩
 obtain⟨w1,Gg⟩:∃w1,w1=wd.alloc (.loop rec):=⟨_,rfl⟩
 have hsd:wd.heap.size=w.heap.size+1:=by rw[H2];simp
 have lK:w1.heap.size=w.heap.size+2:=by rw[Gg];simp[hsd]
 have SL:w1.heap[w.heap.size+1]?=some (.loop rec):=by rw[Gg,<-hsd];exact World.alloc_heap_new wd _
 have hD1:w1.heap[w.heap.size]?=some (.deferred (some [])):=by
  rw[Gg];refine(Ab wd _ _ (by omega)).trans ?_;rw[H2];exact World.alloc_heap_new w _
 have Gh:∀i,i<w.heap.size->w1.heap[i]?=w.heap[i]? :=λi hi=>by
  rw[Gg];refine(Ab wd _ _ (by omega)).trans ?_;rw[H2];exact Ab w _ _ hi
 obtain⟨c1,BK⟩:∃c1:Ctx,c1={c with I:=λi=>c.I i\/i=w.heap.size+1}:=⟨_,rfl⟩
 have u9:jc c w c1 w1:=by
  rw[BK]
  exact⟨rfl,Nat.le_refl _,λi hi=>⟨.inl hi,Gh i (hs.mem.fg i hi).1⟩,λr z hr=>⟨z,hr,rfl,rfl,rfl,rfl,rfl,Iff.rfl,λhV arr ha=>⟨arr,(Gh _ (Array.getElem?_eq_some_iff.1 ha).1).trans ha,rfl⟩⟩⟩
 have H3:∀r z,c.R r=some z->¬c.V r->c.ρ r<w.heap.size:=λr z hr hV=>by
  rcases hs.mem.row r z hr with h|⟨_,arr,h,_⟩
  ·exact(hV h.1).elim
  ·exact(Array.getElem?_eq_some_iff.1 h).1
 have HX:Mem c1 w1:=by
  have u9:=u9
  rw[BK]at u9⊢
  refine⟨λr z hr=>tk u9 rfl Iff.rfl (λnv=>Gh _ (H3 r z hr nv)) (hs.mem.row r z hr),hs.mem.inj,λi hi=>?_,by have:=hs.mem.top;show c.top<=_;omega,hs.mem.jZ.mono u9.I⟩
  rcases hi with hi|hi
  ·have:=(hs.mem.fg i hi).1;exact⟨by omega,(hs.mem.fg i hi).2⟩
  ·exact⟨by omega,λr z hr hV=>by have:=H3 r z hr hV;show c.ρ r≠i;omega⟩
 have H4:Rep c1 w1 (.gp f ys) (.func (.yield (w.heap.size+1)) #[] #[]):=by
  refine⟨y.ts.map λt=>a.tmps.getD t undef,.inr ⟨gl,w.heap.size+1,rec,rfl,by rw[BK];exact .inr rfl,SL,by rw[mP],by rw[mP],y,hy,?_⟩,?_⟩
  ·cases he
   rw[mP]
   exact⟨rfl,rfl,rfl,Nat.le_trans hn hs.size,h1,rfl⟩
  ·have:=Wx (c:=c1) (w:=w1) (ev:=cq st.env) (ρ:=a.eval) (xs:=y.ts.map Operand.tmp) (cs:=ys) (by rw[En,bY];exact SJ) (λz hz=>wX u9 (M1 hs.env z))
   rw[bY]at this
   exact this
 have Wy:kg c1 w1 (cs.map iD.d) us:=Wz u9 (Zcq BJ)
 have iR:kg c1 w1 (.gp f ys::cs.map iD.d) (.func (.yield (w.heap.size+1)) #[] #[]::us):=⟨H4,Wy⟩
 have hlen:(D.gp f ys::cs.map iD.d).length=(Value.func (.yield (w.heap.size+1)) #[] #[]::us).length:=by simp[BJ.length]
 have mj:=(h6 c1 w1 (HZ (.func (.yield (w.heap.size+1)) #[] #[]::us)) HX (by rw[BK];have:=hs.base;show c.base<=_;omega) (by rw[BK];exact hs.rows) (λz hz=>by
  simp only[opsL,List.mem_map,List.mem_range]at hz
  obtain⟨i,_,rfl⟩:=hz
  exact yc iR i) (λv w'=>∃c',jN ks c1 w1 c' w'/\(∀r,c'.R r=R'.getD r none)) λv w' c' hn hR _=>⟨c',hn,hR⟩).1 H0
 rw[yH hlen]at mj
 refine⟨w.heap.size+1,[{target:=.collected w.heap.size,args:= #[]}],w1,{target:=.fn (.func gf) us.toArray,args:= #[.func (.yield (w.heap.size+1)) #[] #[]]},w1,gf,(Value.func (.yield (w.heap.size+1)) #[] #[]::us).toArray,w1,?_,?_,?_,?_,λe=>(by cases e),?_⟩
 ·rw[Gg,H2,mP];exact run_enterLoop_outer _ _ _ _ _
 ·simp only[resolve,SK]
  simp[go_sem]
 ·intro f' _;trivial
 ·simp only[invoke]
  rw[<-hf,dx.enters (by rw[hf];exact H0)]
  congr 2
  simp
 ·refine CallsIn.mono (callsIn_wide.2 mj) λe w3 ⟨v,he3,c3,Gi,hR3⟩=>?_
  subst he3
  have H5:w3.heap[w.heap.size+1]?=some (.loop rec):=(Gi.cy.I _ (by rw[BK];exact .inr rfl)).2.trans SL
  have Eo:=run_endLoop (P:=P) H5 (by rw[mP];simp)
  have Dw:rec.pending=none:=by rw[mP]
  rw[Dw]at Eo
  refine⟨none,_,Eo,?_⟩
  have BL:Fr (λi=>∃r z,c.R r=some z/\¬c.V r/\c.ρ r=i) w w3:=by
   have Ep:=Gi.fr
   rw[BK]at Ep
   refine⟨?_,?_,?_,by have:=Ep.size;omega,λi hi H6=>(Ep.heap i (by omega) H6).trans (Gh i hi)⟩
   ·have:=Ep.os;rw[Gg,H2]at this;exact this
   ·have:=Ep.tape;rw[Gg,H2]at this;exact this
   ·have:=Ep.output;rw[Gg,H2]at this;exact this
  have hN:jN ks c w c3 w3:=by
   refine⟨Gi.mem,?_,BL,λi hi=>?_,λr row hr hV=>?_⟩
   ·have g1:=Gi.cy
    rw[BK]at g1
    refine⟨g1.base,g1.top,λi hi=>⟨(g1.I i (.inl hi)).1,(g1.I i (.inl hi)).2.trans (Gh i (hs.mem.fg i hi).1)⟩,λr row hr=>?_⟩
    obtain⟨ao,q1,q2,q3,q4,q5,q6,qV,q7⟩:=g1.R r row hr
    exact⟨ao,q1,q2,q3,q4,q5,q6,qV,λnv arr ha=>q7 nv arr ((Gh _ (Array.getElem?_eq_some_iff.1 ha).1).trans ha)⟩
   ·have:=Gi.fg i hi
    rw[BK]at this
    rcases this with(g|g)|g|g
    ·exact .inl g
    ·exact .inr (.inr (by omega))
    ·exact .inr (.inl g)
    ·exact .inr (.inr (by omega))
   ·have:=Gi.ob r row hr hV
    rw[BK]at this
    rcases this with g|g|g
    ·exact .inl g
    ·exact .inr (.inl g)
    ·exact .inr (.inr (by omega))
  have tI:lX w0.heap.size w3 ({target:=.collected w.heap.size,args:= #[]}::a.defers):=by
   obtain⟨bs,b1,b2,b3⟩:=hs.defers.step hs.mem BL
   refine⟨w.heap.size::bs,List.nodup_cons.2 ⟨λhm=>?_,b1⟩,by rw[b2];rfl,λi hi=>?_⟩
   ·obtain⟨bs',c1',c2',c3'⟩:=hs.defers
    rw[c2']at b2
    have:bs'=bs:=by
     have:=congrArg (List.map λ(d:Deferred)=>match d.target with|.collected i=>i|_=>0) b2
     simpa[bY,Function.comp_def]using this
    subst this
    have:=(Array.getElem?_eq_some_iff.1 (c3' _ hm).2).1
    omega
   ·rcases List.mem_cons.1 hi with e|e
    ·subst e
     refine⟨hs.reach.fr.size,?_⟩
     have Ep:=Gi.fr
     rw[BK]at Ep
     exact(Ep.heap _ (by omega) fun⟨r,z,q1,q2,q3⟩=>by have:=H3 r z q1 q2;simp only at q3;omega).trans hD1
    ·exact b3 i e
  have hs3:fi N M c0 w0 c3 w3 ⟨rV ks st.env,R'⟩ {a with defers:={target:=.collected w.heap.size,args:= #[]}::a.defers}:=
   ⟨Gi.mem,hR3,λt=>by rw[BD];exact wX hN.cy (Wm (hs.env t)),hs.size,tI,hs.fx,hs.gv,hs.reach.step h5 hs.gv hN⟩
  refine⟨.normal,⟨rV ks st.env,R'⟩,_,rfl,hQ,hs3.M8 (b:=w.heap.size+1) (o:=.loop rec) (by have:=hs.reach.fr.size;omega) H5 (λ_ _ _ e=>by cases e) (Fk:=λk=>k<YB) (λk ws v hk hv=>?_) (λt k hk=>M9 mZ (List.mem_append_left _ (WA hk))) (λr z hr k hk=>M9 mZ (List.mem_append_right _ (WB (by rw[<-hR3];exact hr) hk))) ?_⟩
  ·rcases hv with hv|⟨hv,_⟩
   ·exact .inl hv
   ·exact absurd hk (Nat.not_lt.2 hv)
  ·refine tI.to λi hi=>(World.putObj_heap_other λe=>?_).trans hi
   rw[e,H5]at hi;cases hi
def AO (T:iy)(G:List bd)(N M:Nat)(fq:List (Nat×cg))(rf:Option Nat):Nat->Code->St->(Ex->St->Prop)->Prop
 |0,_,_,_=>False
 |d + 1,code,st,Q=>match code with
  |.rangeFunc g _ _ _=>match rf with|some f=>HY T G M f g st Q|none=>False
  |.loop c=>match Gd fq (keyOf c)with
   |some i=>∃(u7:i.α->Prop) (μ:i.α->Nat),u7 (i.a0 st)/\fold M (i.jb st) st (i.F st (i.a0 st)).1 (i.F st (i.a0 st)).2/\∀a:i.α,u7 a->o4 T G N M (AO T G N M fq rf d) c ⟨(i.F st a).1,(i.F st a).2.map some⟩ λe jq=>match e with
    |.normal=>(u7 (i.next jq)/\μ (i.next jq)<μ a)/\fold M (i.ex jq) jq (i.F st (i.next jq)).1 (i.F st (i.next jq)).2
    |.exit j=>Q (.exit j) jq
    |.ret=>Q .ret jq
   |none=>False
  |_=>False
abbrev LL(T:iy)(G:List bd)(N M:Nat)(fq:List (Nat×cg)):=AO T G N M fq none
theorem Gj{P:Program}(hD:pA P){T:iy}(hT:Q4 P T){G:List bd}(hG:jD P G){N M:Nat}{fq:List (Nat×cg)}{rf:Option Nat}{ro:Option Nat}(Dx:ro=none\/rf=none):∀(d:Nat) (code:Code) (st:St) (Q:Ex->St->Prop),RF rf N code->AO T G N M fq rf d code st Q->tN ro P N M code st Q
 |0,_,_,_,_,h=>h.elim
 |d + 1,code,st,Q,mH,h=>by
  unfold AO at h
  split at h
  ·split at h
   ·rename_i f
    rcases Dx with e|e
    ·subst e;exact M7 hG mH h
    ·cases e
   ·exact h.elim
  ·rename_i c
   split at h
   ·rename_i i hi
    obtain⟨u7,μ,h2,h3,h4⟩:=h
    have hc:RF rf N c:=by
     cases rf with
     |none=>trivial
     |some f=>exact mH
    refine xad (i.F st) u7 μ (i.a0 st) (i.jb st) h2 h3 λa ha=>Tr.mono (λe jq hq=>?_) (Na hD hT hG (Nb rf N) (Gj hD hT hG Dx d) c _ _ hc (h4 a ha))
    cases e with
    |normal=>exact⟨_,_,hq.1.1,hq.1.2,hq.2⟩
    |exit j=>exact hq
    |ret=>exact hq
   ·exact h.elim
  ·exact h.elim
def ba(R:Rows)(r j:Nat):D:=match R.getD r none with|some row=>(row.es.get 0).getD j .dead|none=>.dead
def jA(R:Rows)(r:Nat):ai:=match R.getD r none with|some row=>row.es|none=>.gen []
def nC(R:Rows)(r:Nat):List Int:=match R.getD r none with|some ⟨_,_,_,.ints _ l⟩=>l|_=>[]
def Zen(R:Rows)(r:Nat):List Bool:=match R.getD r none with|some ⟨_,_,_,.ag l⟩=>l|_=>[]
def oH(k:RK)(R:Rows)(r:Nat):List (RK.T k):=match R.getD r none with|some ⟨_,_,_,.ah k' l⟩=>(match FU k' k l with|some m=>m|none=>[])|_=>[]
def WC(k:IntKind)(R:Rows)(d:D):List Int:=match d with|.all r=>nC R r|.own r _ _=>nC R r|d=>bz k d
def gg(d:D)(n:Nat):Nat:=match d with|.all r=>r|.own r _ _=>r|.ptr r _ _=>r|.pa r _ _ _ _ _=>r|_=>n
theorem H7{n:Int}(h1: -9223372036854775808<=n)(h2:n<=9223372036854775807):IntKind.wrap .i64 n=n:=by rw[IntKind.wrap_i64];omega
inductive mY where
 |sl (t:CT) (fr:Bool)
 |row (ty sz:Nat) (t:CT)
def Gk:CT->ai
 |.ints k=>.ints k []
 |.ag=>.ag []
 |.ah k=>.ah k []
 |_=>.gen []
def CT.iI:CT->Nat
 |.ah k=>k.size
 |_=>1
def toCT:CT->ai->Option ai
 |.ints k,E=>match E.toI k with|some l=>some (.ints k l)|none=>none
 |.ag,E=>match E.toB with|some l=>some (.ag l)|none=>none
 |.ah k,E=>match E.toR k with|some l=>some (.ah k l)|none=>none
 |_,_=>none
theorem WD(t:CT):(Gk t).Nil:=by cases t<;>rfl
theorem Nc{t:CT}{E E':ai}(h:toCT t E=some E'):ai.Eq E E':=by
 cases t with
 |ints k=>
  simp only[toCT]at h
  split at h
  ·rename_i l hl
   cases h
   cases E with
   |ints k' m=>
    simp only[ai.toI]at hl
    split at hl
    ·rename_i hk;cases hl;simp only[ai.Eq,hk]
    ·cases hl
   |gen es=>cases es<;>simp[ai.toI]at hl;subst hl;rfl
   |ag m=>simp[ai.toI]at hl
   |ah k m=>simp[ai.toI]at hl
  ·cases h
 |ag=>
  simp only[toCT]at h
  split at h
  ·rename_i l hl
   cases h
   cases E with
   |ag m=>simp[ai.toB]at hl;subst hl;rfl
   |gen es=>cases es<;>simp[ai.toB]at hl;subst hl;rfl
   |ints k m=>simp[ai.toB]at hl
   |ah k m=>simp[ai.toB]at hl
  ·cases h
 |ah k=>
  simp only[toCT]at h
  split at h
  ·rename_i l hl
   cases h
   cases E with
   |ah k' m=>simp only[ai.toR]at hl;simp only[ai.Eq,hl]
   |gen es=>cases es<;>simp[ai.toR]at hl;subst hl;rfl
   |ints k m=>simp[ai.toR]at hl
   |ag m=>simp[ai.toR]at hl
  ·cases h
 |_=>simp[toCT]at h
structure jO where
 ds:List mY
 ex:List (Nat×Row)
 fz:List Nat
def wa(m:Nat):List (Nat×Nat×Nat)->Bool
 |[]=>true
 |p::l=>bN p.1 m&&wa m l
def H8(m:Nat):List iD->Bool
 |[]=>true
 |.ptr r _ _::l=>bN r m&&H8 m l
 |.fn _ ps::l=>wa m ps&&H8 m l
 |_=>false
theorem vc{m:Nat}{EX:List Nat}(hE:∀i,i<m->EX[i]?=some i):∀{ps:List (Nat×Nat×Nat)},wa m ps=true->sq EX ps ps=true
 |[],_=>rfl
 |(r,a,b)::l,h=>by
  simp only[wa,aE]at h
  simp only[sq,ka,hE r (lE h.1),vc hE h.2]
  simp
theorem zae(hE:∀i,i<m->EX[i]?=some i):∀{cs:List iD},H8 m cs=true->o5 EX cs cs=true:=by
 intro cs
 induction cs with
 |nil=>intro _;rfl
 |cons x l ih=>
  intro h
  cases x with
  |ptr r a b=>
   simp only[H8,aE]at h
   simp only[o5,ka,hE r (lE h.1),ih h.2]
   simp
  |fn f ps=>
   simp only[H8,aE]at h
   simp only[o5,vc hE h.1,ih h.2]
   simp
  |_=>simp[H8]at h
def SM(m:Nat)(R:Rows)(c:D)(s:jO):Option (D×jO):=
  match c with
  | .int k n=>some (.int k n,s)
  | .bool b=>some (.bool b,s)
  | .str x=>some (.str x,s)
  | .iz=>some (.iz,s)
  | .jL=>some (.jL,s)
  | .gq r=>match bN r m with|true=>some (.gq r,s)|false=>none
  | .ptr r o f=>match bN r m with|true=>some (.ptr r o f,s)|false=>none
  | .gp f cs=>match H8 m cs with|true=>some (.gp f cs,s)|false=>none
  | .c8=>match s with
    |⟨.sl t f::ds,ex,fz⟩=>some (.sl t.iI (Gk t) f,⟨ds,ex,fz⟩)
    |⟨.row ty sz t::ds,ex,fz⟩=>match bN 0 sz with|true=>some (.all (m+ex.length),⟨ds,ex++[(R.length+ex.length,⟨false,ty,sz,Gk t⟩)],fz⟩)|false=>none
    |_=>none
  | .emp=>match s with
    |⟨.sl t f::ds,ex,fz⟩=>some (.sl t.iI (Gk t) f,⟨ds,ex,fz⟩)
    |⟨.row ty sz t::ds,ex,fz⟩=>match bN 0 sz with|true=>some (.all (m+ex.length),⟨ds,ex++[(R.length+ex.length,⟨false,ty,sz,Gk t⟩)],fz⟩)|false=>none
    |_=>none
  | .sl n E fr=>match s with
    | ⟨.sl t f::ds,ex,fz⟩=>match toCT t E,(!f||fr)&&(bX n t.iI||H9 E) with
      |some E',true=>some (.sl t.iI E' f,⟨ds,ex,fz⟩)
      |_,_=>none
    |_=>none
  | .all r=>match s with
    | ⟨.sl t f::ds,ex,fz⟩=>match R.getD r none with
      | some ⟨box,_,j9,E⟩=>match toCT t E,!box&&(bX j9 t.iI&&Nat.ble m r) with
        |some E',true=>some (.sl t.iI E' f,⟨ds,ex,r::fz⟩)
        |_,_=>none
      |none=>none
    | ⟨.row ty sz t::ds,ex,fz⟩=>match bN r m with
      |true=>some (.all r,⟨ds,ex,fz⟩)
      | false=>match R.getD r none with
        | some ⟨box,jW,j9,E⟩=>match toCT t E,!box&&(bX jW ty&&bX j9 sz) with
          |some E',true=>some (.all (m+ex.length),⟨ds,ex++[(r,⟨false,ty,sz,E'⟩)],fz⟩)
          |_,_=>none
        |none=>none
    |_=>none
  | .own r o n=>match s with
    | ⟨.sl t f::ds,ex,fz⟩=>match R.getD r none with
      | some ⟨box,_,j9,E⟩=>match toCT t ((E.drop o).take n),!box&&(bX j9 t.iI&&Nat.ble m r) with
        |some E',true=>some (.sl t.iI E' f,⟨ds,ex,r::fz⟩)
        |_,_=>none
      |none=>none
    |_=>none
  |_=>none
def Kf(m:Nat)(R:Rows):List D->jO->Option (List D×jO)
 |[],s=>some ([],s)
 |c ::cs,s=>match SM m R c s with
  |some (c',s')=>match Kf m R cs s' with
   |some (rH,Ia)=>some (c'::rH,Ia)
   |none=>none
  |none=>none
def Er(m:Nat)(R:Rows)(d:D)(s:jO):Option (D×jO):=
 match d with
 |.agg cs=>match Kf m R cs s with|some (rH,s')=>some (.agg rH,s')|none=>none
 |d=>SM m R d s
def sr(m:Nat)(R:Rows):List D->jO->Option (List D×jO)
 |[],s=>some ([],s)
 |c ::cs,s=>match Er m R c s with
  |some (c',s')=>match sr m R cs s' with
   |some (rH,Ia)=>some (c'::rH,Ia)
   |none=>none
  |none=>none
def Ib(m:Nat)(R:Rows)(d:D)(s:jO):Option (D×jO):=
 match d with
 |.dw ds=>match sr m R ds s with|some (oc,s')=>some (.dw oc,s')|none=>none
 |d=>Er m R d s
def Kg(m:Nat)(R:Rows):Nat->Nat->jO->Option (List Row×jO)
 |0,_,s=>some ([],s)
 |n + 1,i,s=>match R.getD i none with
  |some ⟨true,ty,sz,.gen [e]⟩=>match Kf m R e s with
   |some (e',s')=>match Kg m R n (i+1) s' with
    |some (rs,Ia)=>some (⟨true,ty,sz,.gen [e']⟩::rs,Ia)
    |none=>none
   |none=>none
  |some ⟨false,ty,sz,E⟩=>match Kg m R n (i+1) s with
   |some (rs,Ia)=>some (⟨false,ty,sz,E⟩::rs,Ia)
   |none=>none
  |_=>none
def Es(m:Nat)(ex:List (Nat×Row)):List Nat:=List.range m++ex.map (·.1)
def nT(m:Nat)(ds:List mY)(d:D)(R:Rows)(K:D->List Row->Prop):Prop:=
 match Ib m R d ⟨ds,[],[]⟩with
 |some (d',s)=>match Kg m R m 0 s with
  |some (rs,s')=>cu (so m (Es m s'.ex)&&s'.fz.all (Kh (Es m s'.ex))) (K d' (rs++s'.ex.map (·.2)))
  |none=>False
 |none=>False
def ss(R:Rows)(x:Nat×Row):Prop:=
 x.2.box=false/\match R.getD x.1 none with
 |some ⟨Ac,jW,j9,iW⟩=>Ac=false/\jW=x.2.ty/\j9=x.2.sz/\ai.Eq iW x.2.es
 |none=>0<x.2.sz/\x.2.es.Nil
structure od(m:Nat)(R:Rows)(EX:List Nat)(s:jO):Prop where
 at_:∀(i:Nat) x,s.ex[i]?=some x->EX[m+i]?=some x.1
 gh:∀x∈s.ex,ss R x
 out:∀r∈s.fz,Kh EX r=true
def Ad(s s':jO):Prop:=s.ex<+:s'.ex/\s.fz<:+s'.fz
theorem Ad.refl(s:jO):Ad s s:=⟨bZ _,cA _⟩
theorem Ad.trans{a b c:jO}(h:Ad a b)(g:Ad b c):Ad a c:=⟨h.1.trans g.1,h.2.trans g.2⟩
theorem qd(h:H9 E=true):E.Nil:=ai.oe.2 (Sv h)
theorem Ziw{c c':D}{s s':jO}(h:SM m R c s=some (c',s')):
    Ad s s'/\((∀x∈s.ex,ss R x)-> ∀x∈s'.ex,ss R x)/\ ∀EX:List Nat,(∀i,i<m->EX[i]? =some i)->od m R EX s'->iL EX m R c c':=by
  have Nd: ∀{ty sz t},bN 0 sz=true->((∀x∈s.ex,ss R x)-> ∀x∈s.ex++[(R.length+s.ex.length,(⟨false,ty,sz,Gk t⟩:Row))],ss R x)/\
      ∀(EX:List Nat) (ds:List mY) (fz:List Nat),od m R EX ⟨ds,s.ex++[(R.length+s.ex.length,(⟨false,ty,sz,Gk t⟩:Row))],fz⟩->Ic EX R (m+s.ex.length)=true:=by
    intro ty sz t ft
    have hn:R.getD (R.length+s.ex.length) none=none:=by rw[aV,List.getElem?_eq_none (by omega)];rfl
    refine⟨λhg x hx=> ?_,λEX ds fz hG=> ?_⟩
    . simp only[cB,cC]at hx
      rcases hx with hx|rfl
      . exact hg x hx
      . refine⟨rfl,?_⟩
        simp only[hn]
        exact⟨lE ft,WD t⟩
    . have:=hG.at_ s.ex.length (R.length+s.ex.length,⟨false,ty,sz,Gk t⟩) (by simp)
      simp only[Ic,this,hn]
  cases c<;>simp only[SM]at h<;>try(cases h;done)
  case int k n=>cases h;exact⟨.refl _,id,λEX _ _=>by simp [iL,cu]⟩
  case bool b=>cases h;exact⟨.refl _,id,λEX _ _=>by simp [iL]⟩
  case str x=>cases h;exact⟨.refl _,id,λEX _ _=>by simp [iL]⟩
  case iz=>cases h;exact⟨.refl _,id,λEX _ _=>by simp [iL]⟩
  case jL=>cases h;exact⟨.refl _,id,λEX _ _=>by simp [iL]⟩
  case gq r=>
    split at h
    . rename_i hr
      cases h
      refine⟨.refl _,id,λEX hE _=> ?_⟩
      have:=hE r (lE hr)
      simp only[iL,dd,ka,this]
      exact⟨by simp,trivial⟩
    . cases h
  case ptr r o f=>
    split at h
    . rename_i hr
      cases h
      refine⟨.refl _,id,λEX hE _=> ?_⟩
      have:=hE r (lE hr)
      simp only[iL,dd,ka,this]
      exact⟨by simp,trivial⟩
    . cases h
  case gp f cs=>
    split at h
    . rename_i hr
      cases h
      refine⟨.refl _,id,λEX hE _=> ?_⟩
      simp only[iL,dd,zae hE hr]
      exact⟨by simp,trivial⟩
    . cases h
  case c8=>
    split at h
    . cases h;exact⟨.refl _,id,λEX _ _=>WD _⟩
    . split at h
      . rename_i ft
        cases h
        obtain⟨v1,v2⟩:=Nd ft
        exact⟨⟨cD _ _,cA _⟩,v1,λEX _ hG=>by simp only[iL,dd];exact⟨v2 EX _ _ hG,trivial⟩⟩
      . cases h
    . cases h
  case emp=>
    split at h
    . cases h;exact⟨.refl _,id,λEX _ _=>WD _⟩
    . split at h
      . rename_i ft
        cases h
        obtain⟨v1,v2⟩:=Nd ft
        exact⟨⟨cD _ _,cA _⟩,v1,λEX _ hG=>by simp only[iL,dd];exact⟨v2 EX _ _ hG,trivial⟩⟩
      . cases h
    . cases h
  case sl n E fr=>
    split at h
    . rename_i t f ds ex fz
      split at h
      . rename_i E' hE hb
        cases h
        simp only[aE,Bool.or_eq_true]at hb
        refine⟨.refl _,id,λEX _ _=> ?_⟩
        simp only[iL,dd]
        exact⟨by simpa using hb.1,hb.2.symm.imp qd bE,Nc hE⟩
      . cases h
    . cases h
  case all r =>
    split at h
    . rename_i t f ds ex fz
      split at h
      . rename_i box ty j9 E hR
        split at h
        . rename_i E' hE hb
          cases h
          simp only[aE]at hb
          refine⟨⟨bZ _,cE _ _⟩,id,λEX _ hG=> ?_⟩
          simp only[iL,hR,dd,aE]
          exact⟨⟨⟨⟨hb.1,hb.2.1⟩,hG.out r (by simp)⟩,hb.2.2⟩,Nc hE⟩
        . cases h
      . cases h
    . rename_i ty sz t ds ex fz
      split at h
      . rename_i bh
        cases h
        refine⟨.refl _,id,λEX pL hG=> ?_⟩
        simp only[iL,dd]
        have:=pL r (lE bh)
        exact⟨by simp [ka,this],trivial⟩
      . split at h
        . rename_i box jW j9 E hR
          split at h
          . rename_i E' hE hb
            cases h
            simp only[aE,Bool.not_eq_true']at hb
            refine⟨⟨cD _ _,cA _⟩,λhg x hx=> ?_,λEX pL hG=> ?_⟩
            . simp only[cB,cC]at hx
              rcases hx with hx|rfl
              . exact hg x hx
              . refine⟨rfl,?_⟩
                simp only[hR]
                exact⟨hb.1,bE hb.2.1,bE hb.2.2,Nc hE⟩
            . have:=hG.at_ ex.length (r,⟨false,ty,sz,E'⟩) (by simp)
              simp only[iL,dd]
              exact⟨by simp [ka,this],trivial⟩
          . cases h
        . cases h
    . cases h
  case own r o n=>
    split at h
    . rename_i t f ds ex fz
      split at h
      . rename_i box ty j9 E hR
        split at h
        . rename_i E' hE hb
          cases h
          simp only[aE]at hb
          refine⟨⟨bZ _,cE _ _⟩,id,λEX _ hG=> ?_⟩
          simp only[iL,hR,dd,aE]
          exact⟨⟨⟨⟨hb.1,hb.2.1⟩,hG.out r (by simp)⟩,hb.2.2⟩,Nc hE⟩
        . cases h
      . cases h
    . cases h
theorem od.mono{s s':jO}(hl:Ad s s')(h:od m R EX s'):od m R EX s:=
 ⟨λi x hx=>h.at_ i x (by
  obtain⟨t,ht⟩:=hl.1
  rw[<-ht,bI (List.getElem?_eq_some_iff.1 hx).1];exact hx),λx hx=>h.gh x (hl.1.subset hx),λr hr=>h.out r (hl.2.subset hr)⟩
theorem WE{m:Nat}{R:Rows}:∀{cs rH:List D} {s s':jO},Kf m R cs s=some (rH,s')->
 Ad s s'/\((∀x∈s.ex,ss R x)->∀x∈s'.ex,ss R x)/\∀EX:List Nat,(∀i,i<m->EX[i]?=some i)->od m R EX s'->Dy EX m R cs rH
 |[],rH,s,s',h=>by simp only[Kf]at h;cases h;exact⟨.refl _,id,λ_ _ _=>trivial⟩
 |c ::cs,rH,s,s',h=>by
  simp only[Kf]at h
  split at h
  ·rename_i c1 s1 h1
   split at h
   ·rename_i cs1 s2 h2
    cases h
    obtain⟨a1,a2,a3⟩:=Ziw h1
    obtain⟨b1,b2,b3⟩:=WE h2
    exact⟨a1.trans b1,λh=>b2 (a2 h),λEX pL hG=>⟨a3 EX pL (hG.mono b1),b3 EX pL hG⟩⟩
   ·cases h
  ·cases h
theorem xd{s s':jO}(h:Er m R d s=some (d',s')):
 Ad s s'/\((∀x∈s.ex,ss R x)->∀x∈s'.ex,ss R x)/\∀EX:List Nat,(∀i,i<m->EX[i]?=some i)->od m R EX s'->o6 EX m R d d':=by
 unfold Er at h
 split at h
 ·rename_i cs
  split at h
  ·rename_i rH s1 h1
   cases h
   exact WE h1
  ·cases h
 ·rename_i gu
  obtain⟨a1,a2,a3⟩:=Ziw h
  refine⟨a1,a2,λEX pL hG=>?_⟩
  have h3:=a3 EX pL hG
  cases d' with
  |agg ps=>simp[iL]at h3
  |_=>exact h3
theorem Zr{m:Nat}{R:Rows}:∀{cs rH:List D} {s s':jO},sr m R cs s=some (rH,s')->
 Ad s s'/\((∀x∈s.ex,ss R x)->∀x∈s'.ex,ss R x)/\∀EX:List Nat,(∀i,i<m->EX[i]?=some i)->od m R EX s'->wc EX m R cs rH
 |[],rH,s,s',h=>by simp only[sr]at h;cases h;exact⟨.refl _,id,λ_ _ _=>trivial⟩
 |c ::cs,rH,s,s',h=>by
  simp only[sr]at h
  split at h
  ·rename_i c1 s1 h1
   split at h
   ·rename_i cs1 s2 h2
    cases h
    obtain⟨a1,a2,a3⟩:=xd h1
    obtain⟨b1,b2,b3⟩:=Zr h2
    exact⟨a1.trans b1,λh=>b2 (a2 h),λEX pL hG=>⟨a3 EX pL (hG.mono b1),b3 EX pL hG⟩⟩
   ·cases h
  ·cases h
theorem xae{s s':jO}(h:Ib m R d s=some (d',s')):
 Ad s s'/\((∀x∈s.ex,ss R x)->∀x∈s'.ex,ss R x)/\∀EX:List Nat,(∀i,i<m->EX[i]?=some i)->od m R EX s'->sn EX m R d d':=by
 unfold Ib at h
 split at h
 ·rename_i cs
  split at h
  ·rename_i rH s1 h1
   cases h
   exact Zr h1
  ·cases h
 ·rename_i gu
  obtain⟨a1,a2,a3⟩:=xd h
  refine⟨a1,a2,λEX pL hG=>?_⟩
  have h3:=a3 EX pL hG
  cases d' with
  |dw ps=>simp[o6,iL]at h3
  |_=>exact h3
theorem WG{m:Nat}{R:Rows}:∀{n i:Nat} {rs:List Row} {s s':jO},Kg m R n i s=some (rs,s')->
 Ad s s'/\((∀x∈s.ex,ss R x)->∀x∈s'.ex,ss R x)/\∀EX:List Nat,(∀i,i<m->EX[i]?=some i)->od m R EX s'->lO EX m R (bO i n) rs
 |0,i,rs,s,s',h=>by simp only[Kg]at h;cases h;exact⟨.refl _,id,λ_ _ _=>trivial⟩
 |n + 1,i,rs,s,s',h=>by
  simp only[Kg]at h
  split at h
  ·rename_i ty sz e hR
   split at h
   ·rename_i e1 s1 h1
    split at h
    ·rename_i rs1 s2 h2
     cases h
     obtain⟨a1,a2,a3⟩:=WE h1
     obtain⟨b1,b2,b3⟩:=WG h2
     refine⟨a1.trans b1,λh=>b2 (a2 h),λEX pL hG=>?_⟩
     rw[cF]
     simp only[lO,hR,dd]
     exact⟨⟨by simp,a3 EX pL (hG.mono b1)⟩,b3 EX pL hG⟩
    ·cases h
   ·cases h
  ·rename_i ty sz E hR
   split at h
   ·rename_i rs1 s2 h2
    cases h
    obtain⟨b1,b2,b3⟩:=WG h2
    refine⟨b1,b2,λEX pL hG=>?_⟩
    rw[cF]
    simp only[lO,hR,dd]
    refine⟨⟨by simp,?_⟩,b3 EX pL hG⟩
    cases E with
    |gen es=>cases es<;>simp[ai.Eq]
    |ah k l=>simp[ai.Eq,Wc]
    |_=>simp[ai.Eq]
   ·cases h
  ·cases h
theorem Qv6{ex:List Nat}{m:Nat}{R:Rows}:∀{l1 l2:List Nat} {p1 p2:List Row},lO ex m R l1 p1->lO ex m R l2 p2->lO ex m R (l1++l2) (p1++p2)
 |[],l2,[],p2,_,h=>h
 |r::l1,l2,p::p1,p2,h1,h2=>by
  simp only[List.cons_append,lO]at h1⊢
  exact⟨h1.1,Qv6 h1.2 h2⟩
 |[],_,_::_,_,h,_=>h.elim
 |_::_,_,[],_,h,_=>h.elim
theorem Zcn{ex:List Nat}{m:Nat}{R:Rows}:∀{l:List (Nat×Row)},(∀x∈l,ss R x)->lO ex m R (l.map (·.1)) (l.map (·.2))
 |[],_=>trivial
 |(r,⟨box,ty,sz,es⟩)::l,h=>by
  simp only[List.map_cons,lO]
  refine⟨?_,Zcn λx hx=>h x (by simp[hx])⟩
  obtain⟨h1,h2⟩:=h (r,⟨box,ty,sz,es⟩) (by simp)
  simp only at h1 h2
  subst h1
  split
  ·rename_i Ac jW j9 iW hR
   simp only[hR]at h2
   obtain⟨rfl,rfl,rfl,h2⟩:=h2
   simp only[dd]
   exact⟨by simp,h2⟩
  ·rename_i hR
   simp only[hR]at h2
   simp only[dd]
   exact⟨by simpa using h2.1,h2.2⟩
theorem Zce{ds:List mY}{K:D->List Row->Prop}(h:nT m ds d R K):∃res rows,K res rows/\Ae m res rows d R:=by
 unfold nT at h
 split at h
 ·rename_i d' s h1
  split at h
  ·rename_i rs s' h2
   simp only[dd,aE]at h
   obtain⟨⟨hx,hf⟩,hK⟩:=h
   obtain⟨a1,a2,a3⟩:=xae h1
   obtain⟨b1,b2,b3⟩:=WG h2
   have Gl:∀x∈s'.ex,ss R x:=b2 (a2 λx hx=>by simp at hx)
   have pL:∀i,i<m->(Es m s'.ex)[i]?=some i:=λi hi=>by
    unfold Es
    rw[bI (by simpa using hi)];simp[hi]
   have hG:od m R (Es m s'.ex) s':=⟨λi x hx=>by
    unfold Es
    rw[List.getElem?_append_right (by simp)]
    simp[hx],Gl,λr hr=>List.all_eq_true.1 hf r hr⟩
   refine⟨d',_,hK,Es m s'.ex,hx,a3 _ pL (hG.mono b1),?_⟩
   have h3:=b3 _ pL hG
   have:Es m s'.ex=bO 0 m++s'.ex.map (·.1):=by unfold Es;rw[List.range_eq_range']
   refine Eq.mpr ?_ (Qv6 h3 (Zcn Gl))
   rw[<-this]
  ·exact h.elim
 ·exact h.elim

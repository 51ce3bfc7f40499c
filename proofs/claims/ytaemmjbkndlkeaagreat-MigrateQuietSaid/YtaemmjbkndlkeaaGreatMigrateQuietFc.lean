import Derived.Test.YtaemmjbkndlkeaaGreatMigrateQuietDraw
import Derived.IntWalk
open List renaming getD->aV,ext_getElem->bR,map_map->bY,prefix_refl->bZ,suffix_refl->cA,mem_append->cB,mem_singleton->cC,prefix_append->cD,suffix_cons->cE,getElem?_append_left->bI,range'->bO,range'_succ->cF
open Nat renaming beq->bX,blt->bN
set_option linter.all false
namespace Go.GD
open Go
variable {E:ai}{EX ex:List Nat}{M N m:Nat}{P:Program}{Q:Ex->St->Prop}{R:Rows}{c:Ctx}{code:Code}{d d':D}{ro:Option Nat}{st:St}{w:World}
def se(ex:List Nat)(M:Nat)(R:Rows)(d p:D):Prop:=
 match p with
 |.dead=>True
 |.ptr i o f=>match d with|.ptr r o' f'=>cu (j5 ex i r) (o'=o/\f'=f)|_=>False
 |.iv sz es i off=>match d with|.iv j4 iX i' iL=>j4=sz/\ai.Eq iX es/\i'=i/\iL=off|_=>False
 |p=>si ex M R d p
def BI(ex:List Nat)(M:Nat)(R:Rows)(env:List (Nat×D)):List (Nat×D)->Prop
 |[]=>True
 |(t,p)::l=>se ex M R (look env t) p/\BI ex M R env l
def fold(M:Nat)(ex:List Nat)(st:St)(mb:List (Nat×D))(aj:List Row):Prop:=
 cu (sj M ex) (BI ex M st.rows st.env mb/\lM ex M st.rows ex aj)
theorem xc{rows:List Row}(hm:Mem c w)(hR:∀r,c.R r=R.getD r none)(db:lM ex m R ex rows)(fc:∀r row,c.R r=some row->¬c.V r->m<=r->c.base<=c.ρ r){d p:D}{v:Value}(h:se ex m R d p)(hr:Rep c w d v):Rep (c.out ex rows) w p v:=by
 have nB:∀b,c.I b->(c.out ex rows).I b/\w.heap[b]?=w.heap[b]? :=λb hb=>⟨.inl hb,rfl⟩
 cases p with
 |dead=>trivial
 |ptr i o f=>
  simp only[se]at h
  split at h
  ·rename_i r o' f'
   simp only[dd]at h
   obtain⟨hx,rfl,rfl⟩:=h
   exact Sw (w:=w) hR db hx hr
  ·exact h.elim
 |iv sz es i off=>
  simp only[se]at h
  split at h
  ·obtain⟨rfl,he,rfl,rfl⟩:=h
   have he:=ai.w9 he
   obtain⟨b,o,arr,ty,fz,h1,h2,h3,h4,h5⟩:=hr
   rw[he]at h3 h5
   exact⟨b,o,arr,ty,fz,h1,.inl h2,h3,h4,nq nB _ _ _ _ h5⟩
  ·exact h.elim
 |_=>
  simp only[se]at h
  exact Sx hm hR db fc h hr
theorem Zjy{c:Ctx}{w:World}{ex:List Nat}{m:Nat}{R:Rows}{rows:List Row}(hm:Mem c w)(hR:∀r,c.R r=R.getD r none)(db:lM ex m R ex rows)(fc:∀r row,c.R r=some row->¬c.V r->m<=r->c.base<=c.ρ r){env:List (Nat×D)}{a:Act}(he:∀t,Rep c w (look env t) (a.tmps.getD t undef)):
 ∀{mb:List (Nat×D)},BI ex m R env mb->∀t,Rep (c.out ex rows) w (look mb t) (a.tmps.getD t undef)
 |[],_,t=>trivial
 |(u,p)::l,h,t=>by
  have:=Zjy hm hR db fc he h.2 t
  rw[AJ]
  split
  ·rename_i e
   subst e
   exact xc hm hR db fc h.1 (he u)
  ·exact this
theorem zc{c0:Ctx}{w0:World}{a:Act}(hs:fi N M c0 w0 c w st a){mb:List (Nat×D)}{aj:List Row}(h:fold M ex st mb aj):∃c',fi N M c0 w0 c' w ⟨mb,aj.map some⟩ a:=by
 unfold fold at h
 simp only[dd]at h
 obtain⟨hex,hE,db⟩:=h
 obtain⟨fc,je,fx⟩:=Sy hs hex db
 refine⟨c.out ex aj,je,λr=>?_,Zjy hs.mem hs.rows db fc hs.env hE,hs.size,hs.defers,hs.fy,hs.gr,fx⟩
 simp only[Ctx.out,aV,List.getElem?_map]
 cases aj[r]? <;>rfl
theorem Tr.mono{Q Q':Ex->St->Prop}(hq:∀e st,Q e st->Q' e st)(h:tN ro P N M code st Q):tN ro P N M code st Q':=
 λc0 w0 c w a hs=>wpIn_mono (h c0 w0 c w a hs) λe a' w' ⟨ex,jq,c',h1,h2,h3⟩=>⟨ex,jq,c',h1,hq _ _ h2,h3⟩
theorem zac{α:Type}(F:α->List (Nat×D)×List Row)(u9:α->Prop)(μ:α->Nat)
 (a0:α) (jk:List Nat) (hp:u9 a0) (h0:fold M jk st (F a0).1 (F a0).2)
 (round:∀a,u9 a->tN ro P N M code ⟨(F a).1,(F a).2.map some⟩ λe jq=>match e with
  |.normal=>∃b ex,u9 b/\μ b<μ a/\fold M ex jq (F b).1 (F b).2
  |.exit i=>Q (.exit i) jq
  |.ret=>Q .ret jq):tN ro P N M (.loop code) st Q:=by
 intro c0 w0 c w a hs
 have key:∀(n:Nat) (x:α),u9 x->μ x<n->∀(c:Ctx) (w:World) (a:Act),fi N M c0 w0 c w ⟨(F x).1,(F x).2.map some⟩ a->
  Code.roundsIn (AM ro) 0 P code (λe a' w'=>∃ex jq c',mL e=some ex/\Q ex jq/\fi N M c0 w0 c' w' jq a') n a w:=by
  intro n
  induction n with
  |zero=>intro x _ h;omega
  |succ n ih=>
   intro x hx bd c w a hs
   rw[roundsIn_succ]
   refine wpIn_mono (round x hx c0 w0 c w a hs) λe a' w' hq=>?_
   obtain⟨ex,jq,c',he,hq,iV⟩:=hq
   cases e<;>simp only[mL,Option.some.injEq,reduceCtorEq]at he
   ·subst he
    obtain⟨b,ex,h1,h2,h3⟩:=hq
    obtain⟨Sz,Wf⟩:=zc iV h3
    exact ih b h1 (by omega) Sz w' a' Wf
   ·subst he;exact⟨_,jq,c',rfl,hq,iV⟩
   ·subst he;exact⟨_,jq,c',rfl,hq,iV⟩
 obtain⟨c',iV⟩:=zc hs h0
 exact wpIn_loop_rounds _ (key (μ a0+1) a0 hp (by omega) c' w a iV)
structure cg where
 α:Type
 F:St->α->List (Nat×D)×List Row
 a0:St->α
 jk:St->List Nat
 next:St->α:=a0
 ex:St->List Nat:=jk
structure Ask(p:Prop):Prop where
 ok:p
def keyOf:Code->Nat
 |.region id _ _=>id
 |.block id _=>id
 |.seq a _=>keyOf a
 |.loop a=>keyOf a
 |_=>0
def FY:List (Nat×cg)->Nat->Option cg
 |[],_=>none
 |(k,i)::l,n=>match bX k n with|true=>some i|false=>FY l n
def HY(T:iB)(G:List ba)(M f:Nat)(g:Operand)(st:St)(Q:Ex->St->Prop):Prop:=
 match cq st.env g with
 |.gl gf cs=>match Kb ((Wg f).map (look st.env)),oU G gf with
  |some ys,some k=>HW T ys st.env st.rows λR=>cu (bN gf YB)<|HP G M gf k (.gl f ys::cs.map iD.d) R λks _ R=>FZ ks st.env λenv=>cu (pY (Aa env++Ga R)) (Q .normal ⟨env,R⟩)
  |_,_=>False
 |_=>False
def evL(ds:List D):Operand->D|.tmp i=>ds.getD i .dead|_=>.dead
def opsL(n:Nat):List Operand:=(List.range n).map Operand.tmp
theorem xac{ds:List D}:(opsL ds.length).map (evL ds)=ds:=by
 refine bR (by simp[opsL]) λi h1 h2=>?_
 simp[opsL,evL,aV,h2]
def HZ(vs:List Value):Operand->Value|.tmp i=>vs.getD i undef|_=>undef
theorem yG{vs:List Value}{n:Nat}(h:n=vs.length):(opsL n).map (HZ vs)=vs:=by
 subst h
 refine bR (by simp[opsL]) λi h1 h2=>?_
 simp[opsL,HZ,aV,h2]
theorem yc{c:Ctx}{w:World}:∀{ds:List D} {vs:List Value},j9 c w ds vs->∀i,Rep c w (ds.getD i .dead) (vs.getD i undef)
 |[],[],_,i=>by simp[aV];trivial
 |d::ds,v::vs,h,0=>by simpa using h.1.toRep
 |d::ds,v::vs,h,i+1=>by simpa using yc h.2 i
 |[],_::_,h,_=>h.elim
 |_::_,[],h,_=>h.elim
theorem Zbs{c:Ctx}{w:World}:∀{cs:List iD} {us:List Value},oE c w cs us->j9 c w (cs.map iD.d) us
 |[],[],_=>trivial
 |x::cs,u::us,h=>⟨VRep.Ee (V1.1 h.1),Zbs h.2⟩
 |[],_::_,h=>h.elim
 |_::_,[],h=>h.elim
theorem MY{G:List ba}(hG:jz P G){N M f:Nat}{g:Operand}{ps:Array Tmp}{x b:Code}(mF:RF (some f) N (.rangeFunc g ps x b)){T:iB}(h:HY T G M f g st Q):Tr P N M (.rangeFunc g ps x b) st Q:=by
 intro c0 w0 c w a hs
 obtain⟨y,⟨hy,hn,Ej,gx,h1⟩,he⟩:=mF
 unfold HY at h
 split at h
 rotate_left
 ·exact h.elim
 rename_i gf cs hg
 split at h
 rotate_left
 ·exact h.elim
 rename_i ys k SA lK
 obtain⟨R0,c,h,hs⟩:=Qm h hs
 simp only[dd]at h
 obtain⟨H0,h⟩:=h
 have H0:=lE H0
 rw[<-xac (ds:=.gl f ys::cs.map iD.d)]at h
 obtain⟨ks,val,R',X,h2,h3,h4,h5,h6⟩:=V3 hG lK h
 obtain⟨dx,hf⟩:=FV hG h3
 rw[HQ]at h2
 obtain⟨mZ,hQ⟩:=h2
 have SB:Rep c w (cq st.env g) (a.eval g):=MS hs.env g
 rw[hg]at SB
 obtain⟨us,⟨_,SB⟩|⟨Wh,_⟩,BJ⟩:=SB
 rotate_left
 ·exact absurd H0 (Nat.not_lt.2 Wh)
 refine wpIn_rangeFunc λfn _=>?_
 obtain⟨rec,mN⟩:∃rec:Loop,rec={state:=.ready,pending:=none,fn,tmps:=a.tmps,params:=ps,assign:=x,body:=b,defers:=w.heap.size}:=⟨_,rfl⟩
 obtain⟨wd,H2⟩:∃wd,wd=w.alloc (.deferred (some [])):=⟨_,rfl⟩
 obtain⟨w1,Gb⟩:∃w1,w1=wd.alloc (.loop rec):=⟨_,rfl⟩
 have hsd:wd.heap.size=w.heap.size+1:=by rw[H2];simp
 have lI:w1.heap.size=w.heap.size+2:=by rw[Gb];simp[hsd]
 have SC:w1.heap[w.heap.size+1]?=some (.loop rec):=by rw[Gb,<-hsd];exact World.alloc_heap_new wd _
 have hD1:w1.heap[w.heap.size]?=some (.deferred (some [])):=by
  rw[Gb];refine(Ab wd _ _ (by omega)).trans ?_;rw[H2];exact World.alloc_heap_new w _
 have Gc:∀i,i<w.heap.size->w1.heap[i]?=w.heap[i]? :=λi hi=>by
  rw[Gb];refine(Ab wd _ _ (by omega)).trans ?_;rw[H2];exact Ab w _ _ hi
 obtain⟨c1,BK⟩:∃c1:Ctx,c1={c with I:=λi=>c.I i\/i=w.heap.size+1}:=⟨_,rfl⟩
 have wa:jc c w c1 w1:=by
  rw[BK]
  exact⟨rfl,Nat.le_refl _,λi hi=>⟨.inl hi,Gc i (hs.mem.fh i hi).1⟩,λr z hr=>⟨z,hr,rfl,rfl,rfl,rfl,rfl,Iff.rfl,λhV arr ha=>⟨arr,(Gc _ (Array.getElem?_eq_some_iff.1 ha).1).trans ha,rfl⟩⟩⟩
 have H3:∀r z,c.R r=some z->¬c.V r->c.ρ r<w.heap.size:=λr z hr hV=>by
  rcases hs.mem.row r z hr with h|⟨_,arr,h,_⟩
  ·exact(hV h.1).elim
  ·exact(Array.getElem?_eq_some_iff.1 h).1
 have HX:Mem c1 w1:=by
  have wa:=wa
  rw[BK]at wa⊢
  refine⟨λr z hr=>tk wa rfl Iff.rfl (λnv=>Gc _ (H3 r z hr nv)) (hs.mem.row r z hr),hs.mem.inj,λi hi=>?_,by have:=hs.mem.top;show c.top<=_;omega,hs.mem.jV.mono wa.I⟩
  rcases hi with hi|hi
  ·have:=(hs.mem.fh i hi).1;exact⟨by omega,(hs.mem.fh i hi).2⟩
  ·exact⟨by omega,λr z hr hV=>by have:=H3 r z hr hV;show c.ρ r≠i;omega⟩
 have H4:Rep c1 w1 (.gl f ys) (.func (.yield (w.heap.size+1)) #[] #[]):=by
  refine⟨y.ts.map λt=>a.tmps.getD t undef,.inr ⟨gx,w.heap.size+1,rec,rfl,by rw[BK];exact .inr rfl,SC,by rw[mN],by rw[mN],y,hy,?_⟩,?_⟩
  ·cases he
   rw[mN]
   exact⟨rfl,rfl,rfl,Nat.le_trans hn hs.size,h1,rfl⟩
  ·have:=Wi (c:=c1) (w:=w1) (ev:=cq st.env) (ρ:=a.eval) (xs:=y.ts.map Operand.tmp) (cs:=ys) (by rw[Ej,bY];exact SA) (λz hz=>wX wa (MS hs.env z))
   rw[bY]at this
   exact this
 have Wj:j9 c1 w1 (cs.map iD.d) us:=Wk wa (Zbs BJ)
 have iS:j9 c1 w1 (.gl f ys::cs.map iD.d) (.func (.yield (w.heap.size+1)) #[] #[]::us):=⟨H4,Wj⟩
 have hlen:(D.gl f ys::cs.map iD.d).length=(Value.func (.yield (w.heap.size+1)) #[] #[]::us).length:=by simp[BJ.length]
 have mf:=(h6 c1 w1 (HZ (.func (.yield (w.heap.size+1)) #[] #[]::us)) HX (by rw[BK];have:=hs.base;show c.base<=_;omega) (by rw[BK];exact hs.rows) (λz hz=>by
  simp only[opsL,List.mem_map,List.mem_range]at hz
  obtain⟨i,_,rfl⟩:=hz
  exact yc iS i) (λv w'=>∃c',jK ks c1 w1 c' w'/\(∀r,c'.R r=R'.getD r none)) λv w' c' hn hR _=>⟨c',hn,hR⟩).1 H0
 rw[yG hlen]at mf
 refine⟨w.heap.size+1,[{target:=.collected w.heap.size,args:= #[]}],w1,{target:=.fn (.func gf) us.toArray,args:= #[.func (.yield (w.heap.size+1)) #[] #[]]},w1,gf,(Value.func (.yield (w.heap.size+1)) #[] #[]::us).toArray,w1,?_,?_,?_,?_,λe=>(by cases e),?_⟩
 ·rw[Gb,H2,mN];exact run_enterLoop_outer _ _ _ _ _
 ·simp only[resolve,SB]
  simp[go_sem]
 ·intro f' _;trivial
 ·simp only[invoke]
  rw[<-hf,dx.enters (by rw[hf];exact H0)]
  congr 2
  simp
 ·refine CallsIn.mono (callsIn_wide.2 mf) λe w3 ⟨v,he3,c3,Gd,hR3⟩=>?_
  subst he3
  have H5:w3.heap[w.heap.size+1]?=some (.loop rec):=(Gd.cz.I _ (by rw[BK];exact .inr rfl)).2.trans SC
  have Ek:=run_endLoop (P:=P) H5 (by rw[mN];simp)
  have Dw:rec.pending=none:=by rw[mN]
  rw[Dw]at Ek
  refine⟨none,_,Ek,?_⟩
  have BL:Fr (λi=>∃r z,c.R r=some z/\¬c.V r/\c.ρ r=i) w w3:=by
   have El:=Gd.fr
   rw[BK]at El
   refine⟨?_,?_,?_,by have:=El.size;omega,λi hi H6=>(El.heap i (by omega) H6).trans (Gc i hi)⟩
   ·have:=El.os;rw[Gb,H2]at this;exact this
   ·have:=El.tape;rw[Gb,H2]at this;exact this
   ·have:=El.output;rw[Gb,H2]at this;exact this
  have hN:jK ks c w c3 w3:=by
   refine⟨Gd.mem,?_,BL,λi hi=>?_,λr row hr hV=>?_⟩
   ·have g1:=Gd.cz
    rw[BK]at g1
    refine⟨g1.base,g1.top,λi hi=>⟨(g1.I i (.inl hi)).1,(g1.I i (.inl hi)).2.trans (Gc i (hs.mem.fh i hi).1)⟩,λr row hr=>?_⟩
    obtain⟨ao,q1,q2,q3,q4,q5,q6,qV,q7⟩:=g1.R r row hr
    exact⟨ao,q1,q2,q3,q4,q5,q6,qV,λnv arr ha=>q7 nv arr ((Gc _ (Array.getElem?_eq_some_iff.1 ha).1).trans ha)⟩
   ·have:=Gd.fh i hi
    rw[BK]at this
    rcases this with(g|g)|g|g
    ·exact .inl g
    ·exact .inr (.inr (by omega))
    ·exact .inr (.inl g)
    ·exact .inr (.inr (by omega))
   ·have:=Gd.ob r row hr hV
    rw[BK]at this
    rcases this with g|g|g
    ·exact .inl g
    ·exact .inr (.inl g)
    ·exact .inr (.inr (by omega))
  have tI:lU w0.heap.size w3 ({target:=.collected w.heap.size,args:= #[]}::a.defers):=by
   obtain⟨bs,b1,b2,b3⟩:=hs.defers.step hs.mem BL
   refine⟨w.heap.size::bs,List.nodup_cons.2 ⟨λhm=>?_,b1⟩,by rw[b2];rfl,λi hi=>?_⟩
   ·obtain⟨bs',c1',c2',c3'⟩:=hs.defers
    rw[c2']at b2
    have:bs'=bs:=by
     have:=congrArg (List.map λ(d:Deferred)=>match d.target with|.collected i=>i|_=>0) b2
     simpa[bY,Function.comp_def]using this
    subst this
    have:=(Array.getElem?_eq_some_iff.1 (c3' _ hm).2).1
    omega
   ·rcases List.mem_cons.1 hi with e|e
    ·subst e
     refine⟨hs.reach.fr.size,?_⟩
     have El:=Gd.fr
     rw[BK]at El
     exact(El.heap _ (by omega) fun⟨r,z,q1,q2,q3⟩=>by have:=H3 r z q1 q2;simp only at q3;omega).trans hD1
    ·exact b3 i e
  have hs3:fi N M c0 w0 c3 w3 ⟨rT ks st.env,R'⟩ {a with defers:={target:=.collected w.heap.size,args:= #[]}::a.defers}:=
   ⟨Gd.mem,hR3,λt=>by rw[BC];exact wX hN.cz (V7 (hs.env t)),hs.size,tI,hs.fy,hs.gr,hs.reach.step h5 hs.gr hN⟩
  refine⟨.normal,⟨rT ks st.env,R'⟩,_,rfl,hQ,hs3.MZ (b:=w.heap.size+1) (o:=.loop rec) (by have:=hs.reach.fr.size;omega) H5 (λ_ _ _ e=>by cases e) (Fk:=λk=>k<YB) (λk ws v hk hv=>?_) (λt k hk=>M0 mZ (List.mem_append_left _ (Wl hk))) (λr z hr k hk=>M0 mZ (List.mem_append_right _ (Wm (by rw[<-hR3];exact hr) hk))) ?_⟩
  ·rcases hv with hv|⟨hv,_⟩
   ·exact .inl hv
   ·exact absurd hk (Nat.not_lt.2 hv)
  ·refine tI.to λi hi=>(World.putObj_heap_other λe=>?_).trans hi
   rw[e,H5]at hi;cases hi
def AN (T:iB)(G:List ba)(N M:Nat)(ft:List (Nat×cg))(rf:Option Nat):Nat->Code->St->(Ex->St->Prop)->Prop
 |0,_,_,_=>False
 |d + 1,code,st,Q=>match code with
  |.rangeFunc g _ _ _=>match rf with|some f=>HY T G M f g st Q|none=>False
  |.loop c=>match FY ft (keyOf c)with
   |some i=>∃(u9:i.α->Prop) (μ:i.α->Nat),u9 (i.a0 st)/\fold M (i.jk st) st (i.F st (i.a0 st)).1 (i.F st (i.a0 st)).2/\∀a:i.α,u9 a->oW T G N M (AN T G N M ft rf d) c ⟨(i.F st a).1,(i.F st a).2.map some⟩ λe jq=>match e with
    |.normal=>(u9 (i.next jq)/\μ (i.next jq)<μ a)/\fold M (i.ex jq) jq (i.F st (i.next jq)).1 (i.F st (i.next jq)).2
    |.exit j=>Q (.exit j) jq
    |.ret=>Q .ret jq
   |none=>False
  |_=>False
abbrev LL(T:iB)(G:List ba)(N M:Nat)(ft:List (Nat×cg)):=AN T G N M ft none
theorem Ge{P:Program}(hD:py P){T:iB}(hT:ji P T){G:List ba}(hG:jz P G){N M:Nat}{ft:List (Nat×cg)}{rf:Option Nat}{ro:Option Nat}(Dx:ro=none\/rf=none):∀(d:Nat) (code:Code) (st:St) (Q:Ex->St->Prop),RF rf N code->AN T G N M ft rf d code st Q->tN ro P N M code st Q
 |0,_,_,_,_,h=>h.elim
 |d + 1,code,st,Q,mF,h=>by
  unfold AN at h
  split at h
  ·split at h
   ·rename_i f
    rcases Dx with e|e
    ·subst e;exact MY hG mF h
    ·cases e
   ·exact h.elim
  ·rename_i c
   split at h
   ·rename_i i hi
    obtain⟨u9,μ,h2,h3,h4⟩:=h
    have hc:RF rf N c:=by
     cases rf with
     |none=>trivial
     |some f=>exact mF
    refine zac (i.F st) u9 μ (i.a0 st) (i.jk st) h2 h3 λa ha=>Tr.mono (λe jq hq=>?_) (M1 hD hT hG (M3 rf N) (Ge hD hT hG Dx d) c _ _ hc (h4 a ha))
    cases e with
    |normal=>exact⟨_,_,hq.1.1,hq.1.2,hq.2⟩
    |exit j=>exact hq
    |ret=>exact hq
   ·exact h.elim
  ·exact h.elim
def ay(R:Rows)(r j:Nat):D:=match R.getD r none with|some row=>(row.es.get 0).getD j .dead|none=>.dead
def kJ(R:Rows)(r:Nat):ai:=match R.getD r none with|some row=>row.es|none=>.gen []
def nC(R:Rows)(r:Nat):List Int:=match R.getD r none with|some ⟨_,_,_,.ints _ l⟩=>l|_=>[]
def Zdh(R:Rows)(r:Nat):List Bool:=match R.getD r none with|some ⟨_,_,_,.ag l⟩=>l|_=>[]
def pJ(k:RK)(R:Rows)(r:Nat):List (RK.T k):=match R.getD r none with|some ⟨_,_,_,.ah k' l⟩=>(match FP k' k l with|some m=>m|none=>[])|_=>[]
def Wn(k:IntKind)(R:Rows)(d:D):List Int:=match d with|.all r=>nC R r|.own r _ _=>nC R r|d=>bw k d
def iw(d:D)(n:Nat):Nat:=match d with|.all r=>r|.own r _ _=>r|.ptr r _ _=>r|.pa r _ _ _ _ _=>r|_=>n
theorem H7{n:Int}(h1: -9223372036854775808<=n)(h2:n<=9223372036854775807):IntKind.wrap .i64 n=n:=by rw[IntKind.wrap_i64];omega
inductive mY where
 |sl (t:CT) (fr:Bool)
 |row (ty sz:Nat) (t:CT)
def Gf:CT->ai
 |.ints k=>.ints k []
 |.ag=>.ag []
 |.ah k=>.ah k []
 |_=>.gen []
def CT.iJ:CT->Nat
 |.ah k=>k.size
 |_=>1
def toCT:CT->ai->Option ai
 |.ints k,E=>match E.toI k with|some l=>some (.ints k l)|none=>none
 |.ag,E=>match E.toB with|some l=>some (.ag l)|none=>none
 |.ah k,E=>match E.toR k with|some l=>some (.ah k l)|none=>none
 |_,_=>none
theorem Wo(t:CT):(Gf t).Nil:=by cases t<;>rfl
theorem M4{t:CT}{E E':ai}(h:toCT t E=some E'):ai.Eq E E':=by
 cases t with
 |ints k=>
  simp only[toCT]at h
  split at h
  ·rename_i l hl
   cases h
   cases E with
   |ints k' m=>
    simp only[ai.toI]at hl
    split at hl
    ·rename_i hk;cases hl;simp only[ai.Eq,hk]
    ·cases hl
   |gen es=>cases es<;>simp[ai.toI]at hl;subst hl;rfl
   |ag m=>simp[ai.toI]at hl
   |ah k m=>simp[ai.toI]at hl
  ·cases h
 |ag=>
  simp only[toCT]at h
  split at h
  ·rename_i l hl
   cases h
   cases E with
   |ag m=>simp[ai.toB]at hl;subst hl;rfl
   |gen es=>cases es<;>simp[ai.toB]at hl;subst hl;rfl
   |ints k m=>simp[ai.toB]at hl
   |ah k m=>simp[ai.toB]at hl
  ·cases h
 |ah k=>
  simp only[toCT]at h
  split at h
  ·rename_i l hl
   cases h
   cases E with
   |ah k' m=>simp only[ai.toR]at hl;simp only[ai.Eq,hl]
   |gen es=>cases es<;>simp[ai.toR]at hl;subst hl;rfl
   |ints k m=>simp[ai.toR]at hl
   |ag m=>simp[ai.toR]at hl
  ·cases h
 |_=>simp[toCT]at h
structure jL where
 ds:List mY
 ex:List (Nat×Row)
 fz:List Nat
def wc(m:Nat):List (Nat×Nat×Nat)->Bool
 |[]=>true
 |p::l=>bN p.1 m&&wc m l
def H8(m:Nat):List iD->Bool
 |[]=>true
 |.ptr r _ _::l=>bN r m&&H8 m l
 |.fn _ ps::l=>wc m ps&&H8 m l
 |_=>false
theorem vc{m:Nat}{EX:List Nat}(hE:∀i,i<m->EX[i]?=some i):∀{ps:List (Nat×Nat×Nat)},wc m ps=true->sk EX ps ps=true
 |[],_=>rfl
 |(r,a,b)::l,h=>by
  simp only[wc,aE]at h
  simp only[sk,j5,hE r (lE h.1),vc hE h.2]
  simp
theorem qad(hE:∀i,i<m->EX[i]?=some i):∀{cs:List iD},H8 m cs=true->oX EX cs cs=true:=by
 intro cs
 induction cs with
 |nil=>intro _;rfl
 |cons x l ih=>
  intro h
  cases x with
  |ptr r a b=>
   simp only[H8,aE]at h
   simp only[oX,j5,hE r (lE h.1),ih h.2]
   simp
  |fn f ps=>
   simp only[H8,aE]at h
   simp only[oX,vc hE h.1,ih h.2]
   simp
  |_=>simp[H8]at h
def SD(m:Nat)(R:Rows)(c:D)(s:jL):Option (D×jL):=
  match c with
  | .int k n=>some (.int k n,s)
  | .bool b=>some (.bool b,s)
  | .str x=>some (.str x,s)
  | .iI=>some (.iI,s)
  | .jI=>some (.jI,s)
  | .gh r=>match bN r m with|true=>some (.gh r,s)|false=>none
  | .ptr r o f=>match bN r m with|true=>some (.ptr r o f,s)|false=>none
  | .gl f cs=>match H8 m cs with|true=>some (.gl f cs,s)|false=>none
  | .c9=>match s with
    |⟨.sl t f::ds,ex,fz⟩=>some (.sl t.iJ (Gf t) f,⟨ds,ex,fz⟩)
    |⟨.row ty sz t::ds,ex,fz⟩=>match bN 0 sz with|true=>some (.all (m+ex.length),⟨ds,ex++[(R.length+ex.length,⟨false,ty,sz,Gf t⟩)],fz⟩)|false=>none
    |_=>none
  | .emp=>match s with
    |⟨.sl t f::ds,ex,fz⟩=>some (.sl t.iJ (Gf t) f,⟨ds,ex,fz⟩)
    |⟨.row ty sz t::ds,ex,fz⟩=>match bN 0 sz with|true=>some (.all (m+ex.length),⟨ds,ex++[(R.length+ex.length,⟨false,ty,sz,Gf t⟩)],fz⟩)|false=>none
    |_=>none
  | .sl n E fr=>match s with
    | ⟨.sl t f::ds,ex,fz⟩=>match toCT t E,(!f||fr)&&(bX n t.iJ||H9 E) with
      |some E',true=>some (.sl t.iJ E' f,⟨ds,ex,fz⟩)
      |_,_=>none
    |_=>none
  | .all r=>match s with
    | ⟨.sl t f::ds,ex,fz⟩=>match R.getD r none with
      | some ⟨box,_,j4,E⟩=>match toCT t E,!box&&(bX j4 t.iJ&&Nat.ble m r) with
        |some E',true=>some (.sl t.iJ E' f,⟨ds,ex,r::fz⟩)
        |_,_=>none
      |none=>none
    | ⟨.row ty sz t::ds,ex,fz⟩=>match bN r m with
      |true=>some (.all r,⟨ds,ex,fz⟩)
      | false=>match R.getD r none with
        | some ⟨box,jS,j4,E⟩=>match toCT t E,!box&&(bX jS ty&&bX j4 sz) with
          |some E',true=>some (.all (m+ex.length),⟨ds,ex++[(r,⟨false,ty,sz,E'⟩)],fz⟩)
          |_,_=>none
        |none=>none
    |_=>none
  | .own r o n=>match s with
    | ⟨.sl t f::ds,ex,fz⟩=>match R.getD r none with
      | some ⟨box,_,j4,E⟩=>match toCT t ((E.drop o).take n),!box&&(bX j4 t.iJ&&Nat.ble m r) with
        |some E',true=>some (.sl t.iJ E' f,⟨ds,ex,r::fz⟩)
        |_,_=>none
      |none=>none
    |_=>none
  |_=>none
def Kc(m:Nat)(R:Rows):List D->jL->Option (List D×jL)
 |[],s=>some ([],s)
 |c ::cs,s=>match SD m R c s with
  |some (c',s')=>match Kc m R cs s' with
   |some (rD,Ia)=>some (c'::rD,Ia)
   |none=>none
  |none=>none
def Em(m:Nat)(R:Rows)(d:D)(s:jL):Option (D×jL):=
 match d with
 |.agg cs=>match Kc m R cs s with|some (rD,s')=>some (.agg rD,s')|none=>none
 |d=>SD m R d s
def sn(m:Nat)(R:Rows):List D->jL->Option (List D×jL)
 |[],s=>some ([],s)
 |c ::cs,s=>match Em m R c s with
  |some (c',s')=>match sn m R cs s' with
   |some (rD,Ia)=>some (c'::rD,Ia)
   |none=>none
  |none=>none
def Ib(m:Nat)(R:Rows)(d:D)(s:jL):Option (D×jL):=
 match d with
 |.dw ds=>match sn m R ds s with|some (oc,s')=>some (.dw oc,s')|none=>none
 |d=>Em m R d s
def Kd(m:Nat)(R:Rows):Nat->Nat->jL->Option (List Row×jL)
 |0,_,s=>some ([],s)
 |n + 1,i,s=>match R.getD i none with
  |some ⟨true,ty,sz,.gen [e]⟩=>match Kc m R e s with
   |some (e',s')=>match Kd m R n (i+1) s' with
    |some (rs,Ia)=>some (⟨true,ty,sz,.gen [e']⟩::rs,Ia)
    |none=>none
   |none=>none
  |some ⟨false,ty,sz,E⟩=>match Kd m R n (i+1) s with
   |some (rs,Ia)=>some (⟨false,ty,sz,E⟩::rs,Ia)
   |none=>none
  |_=>none
def En(m:Nat)(ex:List (Nat×Row)):List Nat:=List.range m++ex.map (·.1)
def nT(m:Nat)(ds:List mY)(d:D)(R:Rows)(K:D->List Row->Prop):Prop:=
 match Ib m R d ⟨ds,[],[]⟩with
 |some (d',s)=>match Kd m R m 0 s with
  |some (rs,s')=>cu (sj m (En m s'.ex)&&s'.fz.all (Ke (En m s'.ex))) (K d' (rs++s'.ex.map (·.2)))
  |none=>False
 |none=>False
def so(R:Rows)(x:Nat×Row):Prop:=
 x.2.box=false/\match R.getD x.1 none with
 |some ⟨Ac,jS,j4,iX⟩=>Ac=false/\jS=x.2.ty/\j4=x.2.sz/\ai.Eq iX x.2.es
 |none=>0<x.2.sz/\x.2.es.Nil
structure od(m:Nat)(R:Rows)(EX:List Nat)(s:jL):Prop where
 at_:∀(i:Nat) x,s.ex[i]?=some x->EX[m+i]?=some x.1
 gu:∀x∈s.ex,so R x
 out:∀r∈s.fz,Ke EX r=true
def Ad(s s':jL):Prop:=s.ex<+:s'.ex/\s.fz<:+s'.fz
theorem Ad.refl(s:jL):Ad s s:=⟨bZ _,cA _⟩
theorem Ad.trans{a b c:jL}(h:Ad a b)(g:Ad b c):Ad a c:=⟨h.1.trans g.1,h.2.trans g.2⟩
theorem qd(h:H9 E=true):E.Nil:=ai.oe.2 (Sl h)
theorem Zh{c c':D}{s s':jL}(h:SD m R c s=some (c',s')):
 Ad s s'/\((∀x∈s.ex,so R x)->∀x∈s'.ex,so R x)/\∀EX:List Nat,(∀i,i<m->EX[i]?=some i)->od m R EX s'->iM EX m R c c':=by
 have M5:∀{ty sz t},bN 0 sz=true->((∀x∈s.ex,so R x)->∀x∈s.ex++[(R.length+s.ex.length,(⟨false,ty,sz,Gf t⟩:Row))],so R x)/\
  ∀(EX:List Nat) (ds:List mY) (fz:List Nat),od m R EX ⟨ds,s.ex++[(R.length+s.ex.length,(⟨false,ty,sz,Gf t⟩:Row))],fz⟩->Ic EX R (m+s.ex.length)=true:=by
  intro ty sz t fu
  have hn:R.getD (R.length+s.ex.length) none=none:=by rw[aV,List.getElem?_eq_none (by omega)];rfl
  refine⟨λhg x hx=>?_,λEX ds fz hG=>?_⟩
  ·simp only[cB,cC]at hx
   rcases hx with hx|rfl
   ·exact hg x hx
   ·refine⟨rfl,?_⟩
    simp only[hn]
    exact⟨lE fu,Wo t⟩
  ·have:=hG.at_ s.ex.length (R.length+s.ex.length,⟨false,ty,sz,Gf t⟩) (by simp)
   simp only[Ic,this,hn]
 cases c<;>simp only[SD]at h<;>try(cases h;done)
 case int k n=>cases h;exact⟨.refl _,id,λEX _ _=>by simp[iM,cu]⟩
 case bool b=>cases h;exact⟨.refl _,id,λEX _ _=>by simp[iM]⟩
 case str x=>cases h;exact⟨.refl _,id,λEX _ _=>by simp[iM]⟩
 case iI=>cases h;exact⟨.refl _,id,λEX _ _=>by simp[iM]⟩
 case jI=>cases h;exact⟨.refl _,id,λEX _ _=>by simp[iM]⟩
 case gh r=>
  split at h
  ·rename_i hr
   cases h
   refine⟨.refl _,id,λEX hE _=>?_⟩
   have:=hE r (lE hr)
   simp only[iM,dd,j5,this]
   exact⟨by simp,trivial⟩
  ·cases h
 case ptr r o f=>
  split at h
  ·rename_i hr
   cases h
   refine⟨.refl _,id,λEX hE _=>?_⟩
   have:=hE r (lE hr)
   simp only[iM,dd,j5,this]
   exact⟨by simp,trivial⟩
  ·cases h
 case gl f cs=>
  split at h
  ·rename_i hr
   cases h
   refine⟨.refl _,id,λEX hE _=>?_⟩
   simp only[iM,dd,qad hE hr]
   exact⟨by simp,trivial⟩
  ·cases h
 case c9=>
  split at h
  ·cases h;exact⟨.refl _,id,λEX _ _=>Wo _⟩
  ·split at h
   ·rename_i fu
    cases h
    obtain⟨v1,v2⟩:=M5 fu
    exact⟨⟨cD _ _,cA _⟩,v1,λEX _ hG=>by simp only[iM,dd];exact⟨v2 EX _ _ hG,trivial⟩⟩
   ·cases h
  ·cases h
 case emp=>
  split at h
  ·cases h;exact⟨.refl _,id,λEX _ _=>Wo _⟩
  ·split at h
   ·rename_i fu
    cases h
    obtain⟨v1,v2⟩:=M5 fu
    exact⟨⟨cD _ _,cA _⟩,v1,λEX _ hG=>by simp only[iM,dd];exact⟨v2 EX _ _ hG,trivial⟩⟩
   ·cases h
  ·cases h
 case sl n E fr=>
  split at h
  ·rename_i t f ds ex fz
   split at h
   ·rename_i E' hE hb
    cases h
    simp only[aE,Bool.or_eq_true]at hb
    refine⟨.refl _,id,λEX _ _=>?_⟩
    simp only[iM,dd]
    exact⟨by simpa using hb.1,hb.2.symm.imp qd bE,M4 hE⟩
   ·cases h
  ·cases h
 case all r =>
  split at h
  ·rename_i t f ds ex fz
   split at h
   ·rename_i box ty j4 E hR
    split at h
    ·rename_i E' hE hb
     cases h
     simp only[aE]at hb
     refine⟨⟨bZ _,cE _ _⟩,id,λEX _ hG=>?_⟩
     simp only[iM,hR,dd,aE]
     exact⟨⟨⟨⟨hb.1,hb.2.1⟩,hG.out r (by simp)⟩,hb.2.2⟩,M4 hE⟩
    ·cases h
   ·cases h
  ·rename_i ty sz t ds ex fz
   split at h
   ·rename_i bd
    cases h
    refine⟨.refl _,id,λEX pK hG=>?_⟩
    simp only[iM,dd]
    have:=pK r (lE bd)
    exact⟨by simp[j5,this],trivial⟩
   ·split at h
    ·rename_i box jS j4 E hR
     split at h
     ·rename_i E' hE hb
      cases h
      simp only[aE,Bool.not_eq_true']at hb
      refine⟨⟨cD _ _,cA _⟩,λhg x hx=>?_,λEX pK hG=>?_⟩
      ·simp only[cB,cC]at hx
       rcases hx with hx|rfl
       ·exact hg x hx
       ·refine⟨rfl,?_⟩
        simp only[hR]
        exact⟨hb.1,bE hb.2.1,bE hb.2.2,M4 hE⟩
      ·have:=hG.at_ ex.length (r,⟨false,ty,sz,E'⟩) (by simp)
       simp only[iM,dd]
       exact⟨by simp[j5,this],trivial⟩
     ·cases h
    ·cases h
  ·cases h
 case own r o n=>
  split at h
  ·rename_i t f ds ex fz
   split at h
   ·rename_i box ty j4 E hR
    split at h
    ·rename_i E' hE hb
     cases h
     simp only[aE]at hb
     refine⟨⟨bZ _,cE _ _⟩,id,λEX _ hG=>?_⟩
     simp only[iM,hR,dd,aE]
     exact⟨⟨⟨⟨hb.1,hb.2.1⟩,hG.out r (by simp)⟩,hb.2.2⟩,M4 hE⟩
    ·cases h
   ·cases h
  ·cases h
theorem od.mono{s s':jL}(hl:Ad s s')(h:od m R EX s'):od m R EX s:=
 ⟨λi x hx=>h.at_ i x (by
  obtain⟨t,ht⟩:=hl.1
  rw[<-ht,bI (List.getElem?_eq_some_iff.1 hx).1];exact hx),λx hx=>h.gu x (hl.1.subset hx),λr hr=>h.out r (hl.2.subset hr)⟩
theorem Wp{m:Nat}{R:Rows}:∀{cs rD:List D} {s s':jL},Kc m R cs s=some (rD,s')->
 Ad s s'/\((∀x∈s.ex,so R x)->∀x∈s'.ex,so R x)/\∀EX:List Nat,(∀i,i<m->EX[i]?=some i)->od m R EX s'->Dy EX m R cs rD
 |[],rD,s,s',h=>by simp only[Kc]at h;cases h;exact⟨.refl _,id,λ_ _ _=>trivial⟩
 |c ::cs,rD,s,s',h=>by
  simp only[Kc]at h
  split at h
  ·rename_i c1 s1 h1
   split at h
   ·rename_i cs1 s2 h2
    cases h
    obtain⟨a1,a2,a3⟩:=Zh h1
    obtain⟨b1,b2,b3⟩:=Wp h2
    exact⟨a1.trans b1,λh=>b2 (a2 h),λEX pK hG=>⟨a3 EX pK (hG.mono b1),b3 EX pK hG⟩⟩
   ·cases h
  ·cases h
theorem xd{s s':jL}(h:Em m R d s=some (d',s')):
 Ad s s'/\((∀x∈s.ex,so R x)->∀x∈s'.ex,so R x)/\∀EX:List Nat,(∀i,i<m->EX[i]?=some i)->od m R EX s'->oZ EX m R d d':=by
 unfold Em at h
 split at h
 ·rename_i cs
  split at h
  ·rename_i rD s1 h1
   cases h
   exact Wp h1
  ·cases h
 ·rename_i gq
  obtain⟨a1,a2,a3⟩:=Zh h
  refine⟨a1,a2,λEX pK hG=>?_⟩
  have h3:=a3 EX pK hG
  cases d' with
  |agg ps=>simp[iM]at h3
  |_=>exact h3
theorem Zq0{m:Nat}{R:Rows}:∀{cs rD:List D} {s s':jL},sn m R cs s=some (rD,s')->
 Ad s s'/\((∀x∈s.ex,so R x)->∀x∈s'.ex,so R x)/\∀EX:List Nat,(∀i,i<m->EX[i]?=some i)->od m R EX s'->we EX m R cs rD
 |[],rD,s,s',h=>by simp only[sn]at h;cases h;exact⟨.refl _,id,λ_ _ _=>trivial⟩
 |c ::cs,rD,s,s',h=>by
  simp only[sn]at h
  split at h
  ·rename_i c1 s1 h1
   split at h
   ·rename_i cs1 s2 h2
    cases h
    obtain⟨a1,a2,a3⟩:=xd h1
    obtain⟨b1,b2,b3⟩:=Zq0 h2
    exact⟨a1.trans b1,λh=>b2 (a2 h),λEX pK hG=>⟨a3 EX pK (hG.mono b1),b3 EX pK hG⟩⟩
   ·cases h
  ·cases h
theorem zad{s s':jL}(h:Ib m R d s=some (d',s')):
 Ad s s'/\((∀x∈s.ex,so R x)->∀x∈s'.ex,so R x)/\∀EX:List Nat,(∀i,i<m->EX[i]?=some i)->od m R EX s'->si EX m R d d':=by
 unfold Ib at h
 split at h
 ·rename_i cs
  split at h
  ·rename_i rD s1 h1
   cases h
   exact Zq0 h1
  ·cases h
 ·rename_i gq
  obtain⟨a1,a2,a3⟩:=xd h
  refine⟨a1,a2,λEX pK hG=>?_⟩
  have h3:=a3 EX pK hG
  cases d' with
  |dw ps=>simp[oZ,iM]at h3
  |_=>exact h3
theorem Wq{m:Nat}{R:Rows}:∀{n i:Nat} {rs:List Row} {s s':jL},Kd m R n i s=some (rs,s')->
 Ad s s'/\((∀x∈s.ex,so R x)->∀x∈s'.ex,so R x)/\∀EX:List Nat,(∀i,i<m->EX[i]?=some i)->od m R EX s'->lM EX m R (bO i n) rs
 |0,i,rs,s,s',h=>by simp only[Kd]at h;cases h;exact⟨.refl _,id,λ_ _ _=>trivial⟩
 |n + 1,i,rs,s,s',h=>by
  simp only[Kd]at h
  split at h
  ·rename_i ty sz e hR
   split at h
   ·rename_i e1 s1 h1
    split at h
    ·rename_i rs1 s2 h2
     cases h
     obtain⟨a1,a2,a3⟩:=Wp h1
     obtain⟨b1,b2,b3⟩:=Wq h2
     refine⟨a1.trans b1,λh=>b2 (a2 h),λEX pK hG=>?_⟩
     rw[cF]
     simp only[lM,hR,dd]
     exact⟨⟨by simp,a3 EX pK (hG.mono b1)⟩,b3 EX pK hG⟩
    ·cases h
   ·cases h
  ·rename_i ty sz E hR
   split at h
   ·rename_i rs1 s2 h2
    cases h
    obtain⟨b1,b2,b3⟩:=Wq h2
    refine⟨b1,b2,λEX pK hG=>?_⟩
    rw[cF]
    simp only[lM,hR,dd]
    refine⟨⟨by simp,?_⟩,b3 EX pK hG⟩
    cases E with
    |gen es=>cases es<;>simp[ai.Eq]
    |ah k l=>simp[ai.Eq,VX]
    |_=>simp[ai.Eq]
   ·cases h
  ·cases h
theorem Quv{ex:List Nat}{m:Nat}{R:Rows}:∀{l1 l2:List Nat} {p1 p2:List Row},lM ex m R l1 p1->lM ex m R l2 p2->lM ex m R (l1++l2) (p1++p2)
 |[],l2,[],p2,_,h=>h
 |r::l1,l2,p::p1,p2,h1,h2=>by
  simp only[List.cons_append,lM]at h1⊢
  exact⟨h1.1,Quv h1.2 h2⟩
 |[],_,_::_,_,h,_=>h.elim
 |_::_,_,[],_,h,_=>h.elim
theorem Zav{ex:List Nat}{m:Nat}{R:Rows}:∀{l:List (Nat×Row)},(∀x∈l,so R x)->lM ex m R (l.map (·.1)) (l.map (·.2))
 |[],_=>trivial
 |(r,⟨box,ty,sz,es⟩)::l,h=>by
  simp only[List.map_cons,lM]
  refine⟨?_,Zav λx hx=>h x (by simp[hx])⟩
  obtain⟨h1,h2⟩:=h (r,⟨box,ty,sz,es⟩) (by simp)
  simp only at h1 h2
  subst h1
  split
  ·rename_i Ac jS j4 iX hR
   simp only[hR]at h2
   obtain⟨rfl,rfl,rfl,h2⟩:=h2
   simp only[dd]
   exact⟨by simp,h2⟩
  ·rename_i hR
   simp only[hR]at h2
   simp only[dd]
   exact⟨by simpa using h2.1,h2.2⟩
theorem Zbe{ds:List mY}{K:D->List Row->Prop}(h:nT m ds d R K):∃res rows,K res rows/\Ae m res rows d R:=by
 unfold nT at h
 split at h
 ·rename_i d' s h1
  split at h
  ·rename_i rs s' h2
   simp only[dd,aE]at h
   obtain⟨⟨hx,hf⟩,hK⟩:=h
   obtain⟨a1,a2,a3⟩:=zad h1
   obtain⟨b1,b2,b3⟩:=Wq h2
   have Gg:∀x∈s'.ex,so R x:=b2 (a2 λx hx=>by simp at hx)
   have pK:∀i,i<m->(En m s'.ex)[i]?=some i:=λi hi=>by
    unfold En
    rw[bI (by simpa using hi)];simp[hi]
   have hG:od m R (En m s'.ex) s':=⟨λi x hx=>by
    unfold En
    rw[List.getElem?_append_right (by simp)]
    simp[hx],Gg,λr hr=>List.all_eq_true.1 hf r hr⟩
   refine⟨d',_,hK,En m s'.ex,hx,a3 _ pK (hG.mono b1),?_⟩
   have h3:=b3 _ pK hG
   have:En m s'.ex=bO 0 m++s'.ex.map (·.1):=by unfold En;rw[List.range_eq_range']
   refine Eq.mpr ?_ (Quv h3 (Zav Gg))
   rw[<-this]
  ·exact h.elim
 ·exact h.elim

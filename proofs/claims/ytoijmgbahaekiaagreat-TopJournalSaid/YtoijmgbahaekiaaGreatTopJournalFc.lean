import Derived.Test.YtoijmgbahaekiaaGreatTopJournalDraw
import Derived.IntWalk
open List renaming getD->aK,ext_getElem->bO,map_map->bW,prefix_refl->bX,suffix_refl->bY,mem_append->bZ,mem_singleton->cA,prefix_append->cB,suffix_cons->cC,getElem?_append_left->aZ,range'->bL,range'_succ->cD
open Nat renaming beq->bV,blt->bK
set_option linter.all false
namespace Go.GD
open Go
def foldD(ex:List Nat)(M:Nat)(R:Rows)(d p:D):Prop:=
 match p with
 |.dead=>True
 |.ptr i o f=>match d with|.ptr r o' f'=>cand (inEx ex i r) (o'=o/\f'=f)|_=>False
 |.iptr sz es i off=>match d with|.iptr sz' es' i' off'=>sz'=sz/\Els.Eq es' es/\i'=i/\off'=off|_=>False
 |p=>retD ex M R d p
def foldE(ex:List Nat)(M:Nat)(R:Rows)(env:List (Nat×D)):List (Nat×D)->Prop
 |[]=>True
 |(t,p)::l=>foldD ex M R (look env t) p/\foldE ex M R env l
def fold(M:Nat)(ex:List Nat)(st:St)(env':List (Nat×D))(rows':List Row):Prop:=
 cand (exOK M ex) (foldE ex M st.rows st.env env'/\Q3 ex M st.rows ex rows')
theorem qd{c:Ctx}{w:World}{ex:List Nat}{m:Nat}{R:Rows}{rows:List Row}(hm:Mem c w)(hR:∀r,c.R r=R.getD r none)(hrows:Q3 ex m R ex rows)(hnew:∀r row,c.R r=some row->¬c.V r->m<=r->c.base<=c.ρ r){d p:D}{v:Value}(h:foldD ex m R d p)(hr:Rep c w d v):Rep (c.out ex rows) w p v:=by
 have himm:∀b,c.I b->(c.out ex rows).I b/\w.heap[b]?=w.heap[b]? :=λb hb=>⟨.inl hb,rfl⟩
 cases p with
 |dead=>trivial
 |ptr i o f=>
  simp only[foldD]at h
  split at h
  ·rename_i r o' f'
   simp only[Q02]at h
   obtain⟨hx,rfl,rfl⟩:=h
   exact Z2v (w:=w) hR hrows hx hr
  ·exact h.elim
 |iptr sz es i off=>
  simp only[foldD]at h
  split at h
  ·obtain⟨rfl,he,rfl,rfl⟩:=h
   have he:=Els.Eq_l he
   obtain⟨b,o,arr,ty,fz,h1,h2,h3,h4,h5⟩:=hr
   rw[he]at h3 h5
   exact⟨b,o,arr,ty,fz,h1,.inl h2,h3,h4,Q11 himm _ _ _ _ h5⟩
  ·exact h.elim
 |_=>
  simp only[foldD]at h
  exact Qtk hm hR hrows hnew h hr
theorem Z5g{c:Ctx}{w:World}{ex:List Nat}{m:Nat}{R:Rows}{rows:List Row}(hm:Mem c w)(hR:∀r,c.R r=R.getD r none)(hrows:Q3 ex m R ex rows)(hnew:∀r row,c.R r=some row->¬c.V r->m<=r->c.base<=c.ρ r){env:List (Nat×D)}{a:Act}(he:∀t,Rep c w (look env t) (a.tmps.getD t undef)):
 ∀{env':List (Nat×D)},foldE ex m R env env'->∀t,Rep (c.out ex rows) w (look env' t) (a.tmps.getD t undef)
 |[],_,t=>trivial
 |(u,p)::l,h,t=>by
  have:=Z5g hm hR hrows hnew he h.2 t
  rw[Q9e]
  split
  ·rename_i e
   subst e
   exact qd hm hR hrows hnew h.1 (he u)
  ·exact this
theorem Qv3{N M:Nat}{c0:Ctx}{w0:World}{c:Ctx}{w:World}{st:St}{a:Act}(hs:SimS N M c0 w0 c w st a){ex:List Nat}{env':List (Nat×D)}{rows':List Row}(h:fold M ex st env' rows'):∃c',SimS N M c0 w0 c' w ⟨env',rows'.map some⟩ a:=by
 unfold fold at h
 simp only[Q02]at h
 obtain⟨hex,hE,hrows⟩:=h
 obtain⟨hnew,hmem,hreach⟩:=Z8x hs hex hrows
 refine⟨c.out ex rows',hmem,λr=>?_,Z5g hs.mem hs.rows hrows hnew hs.env hE,hs.size,hs.defers,hs.base0,hs.own0,hreach⟩
 simp only[Ctx.out,aK,List.getElem?_map]
 cases rows'[r]? <;>rfl
theorem Tr.mono{ro:Option Nat}{P:Program}{N M:Nat}{code:Code}{st:St}{Q Q':Ex->St->Prop}(hq:∀e st,Q e st->Q' e st)(h:TrR ro P N M code st Q):TrR ro P N M code st Q':=
 λc0 w0 c w a hs=>wpIn_mono (h c0 w0 c w a hs) λe a' w' ⟨ex,st',c',h1,h2,h3⟩=>⟨ex,st',c',h1,hq _ _ h2,h3⟩
theorem xP{ro:Option Nat}{P:Program}{N M:Nat}{code:Code}{st:St}{Q:Ex->St->Prop}{α:Type}(F:α->List (Nat×D)×List Row)(Pre:α->Prop)(μ:α->Nat)
 (a0:α) (ex0:List Nat) (hp:Pre a0) (h0:fold M ex0 st (F a0).1 (F a0).2)
 (round:∀a,Pre a->TrR ro P N M code ⟨(F a).1,(F a).2.map some⟩ λe st'=>match e with
  |.normal=>∃b ex,Pre b/\μ b<μ a/\fold M ex st' (F b).1 (F b).2
  |.exit i=>Q (.exit i) st'
  |.ret=>Q .ret st'):TrR ro P N M (.loop code) st Q:=by
 intro c0 w0 c w a hs
 have key:∀(n:Nat) (x:α),Pre x->μ x<n->∀(c:Ctx) (w:World) (a:Act),SimS N M c0 w0 c w ⟨(F x).1,(F x).2.map some⟩ a->
  Code.roundsIn (Fro ro) 0 P code (λe a' w'=>∃ex st' c',exOf e=some ex/\Q ex st'/\SimS N M c0 w0 c' w' st' a') n a w:=by
  intro n
  induction n with
  |zero=>intro x _ h;omega
  |succ n ih=>
   intro x hx hlt c w a hs
   rw[roundsIn_succ]
   refine wpIn_mono (round x hx c0 w0 c w a hs) λe a' w' hq=>?_
   obtain⟨ex,st',c',he,hq,hs'⟩:=hq
   cases e<;>simp only[exOf,Option.some.injEq,reduceCtorEq]at he
   ·subst he
    obtain⟨b,ex,h1,h2,h3⟩:=hq
    obtain⟨c'',hs''⟩:=Qv3 hs' h3
    exact ih b h1 (by omega) c'' w' a' hs''
   ·subst he;exact⟨_,st',c',rfl,hq,hs'⟩
   ·subst he;exact⟨_,st',c',rfl,hq,hs'⟩
 obtain⟨c',hs'⟩:=Qv3 hs h0
 exact wpIn_loop_rounds _ (key (μ a0+1) a0 hp (by omega) c' w a hs')
structure LInv where
 α:Type
 F:St->α->List (Nat×D)×List Row
 a0:St->α
 ex0:St->List Nat
 next:St->α:=a0
 ex:St->List Nat:=ex0
structure Ask(p:Prop):Prop where
 ok:p
def keyOf:Code->Nat
 |.region id _ _=>id
 |.block id _=>id
 |.seq a _=>keyOf a
 |.loop a=>keyOf a
 |_=>0
def findI:List (Nat×LInv)->Nat->Option LInv
 |[],_=>none
 |(k,i)::l,n=>match bV k n with|true=>some i|false=>findI l n
def rfVC(T:Tab)(G:List Q09)(M f:Nat)(g:Operand)(st:St)(Q:Ex->St->Prop):Prop:=
 match evOp st.env g with
 |.clo gf cs=>match Z0u ((yTs f).map (look st.env)),Q8t G gf with
  |some ys,some k=>Z8d T ys st.env st.rows λR=>cand (bK gf YB)<|Z7x G M gf k (.clo f ys::cs.map Cap.d) R λks _ R=>Z5e ks st.env λenv=>cand (noYs (fnsE env++Z69 R)) (Q .normal ⟨env,R⟩)
  |_,_=>False
 |_=>False
def evL(ds:List D):Operand->D|.tmp i=>ds.getD i .dead|_=>.dead
def opsL(n:Nat):List Operand:=(List.range n).map Operand.tmp
theorem zP{ds:List D}:(opsL ds.length).map (evL ds)=ds:=by
 refine bO (by simp[opsL]) λi h1 h2=>?_
 simp[opsL,evL,aK,h2]
def valL(vs:List Value):Operand->Value|.tmp i=>vs.getD i undef|_=>undef
theorem xz{vs:List Value}{n:Nat}(h:n=vs.length):(opsL n).map (valL vs)=vs:=by
 subst h
 refine bO (by simp[opsL]) λi h1 h2=>?_
 simp[opsL,valL,aK,h2]
theorem xd{c:Ctx}{w:World}:∀{ds:List D} {vs:List Value},Q5p c w ds vs->∀i,Rep c w (ds.getD i .dead) (vs.getD i undef)
 |[],[],_,i=>by simp[aK];trivial
 |d::ds,v::vs,h,0=>by simpa using h.1.toRep
 |d::ds,v::vs,h,i+1=>by simpa using xd h.2 i
 |[],_::_,h,_=>h.elim
 |_::_,[],h,_=>h.elim
theorem Qz1{c:Ctx}{w:World}:∀{cs:List Cap} {us:List Value},Q4e c w cs us->Q5p c w (cs.map Cap.d) us
 |[],[],_=>trivial
 |x::cs,u::us,h=>⟨VRep.ofC (Z2h.1 h.1),Qz1 h.2⟩
 |[],_::_,h=>h.elim
 |_::_,[],h=>h.elim
theorem rf_ok{P:Program}{G:List Q09}(hG:Q57 P G){N M f:Nat}{g:Operand}{ps:Array Tmp}{x b:Code}(hrf:RF (some f) N (.rangeFunc g ps x b)){st:St}{Q:Ex->St->Prop}{T:Tab}(h:rfVC T G M f g st Q):Tr P N M (.rangeFunc g ps x b) st Q:=by
 intro c0 w0 c w a hs
 obtain⟨y,⟨hy,hn,hts,hge,h1⟩,he⟩:=hrf
 unfold rfVC at h
 split at h
 rotate_left
 ·exact h.elim
 rename_i gf cs hg
 split at h
 rotate_left
 ·exact h.elim
 rename_i ys k hys hgo
 obtain⟨R0,c,h,hs⟩:=Qf2 h hs
 simp only[Q02]at h
 obtain⟨hgf,h⟩:=h
 have hgf:=lE hgf
 rw[<-zP (ds:=.clo f ys::cs.map Cap.d)]at h
 obtain⟨ks,val,R',X,h2,h3,h4,h5,h6⟩:=Qux hG hgo h
 obtain⟨hok,hf⟩:=Qf1 hG h3
 rw[Qep]at h2
 obtain⟨hno,hQ⟩:=h2
 have hgv:Rep c w (evOp st.env g) (a.eval g):=Qo1 hs.env g
 rw[hg]at hgv
 obtain⟨us,⟨_,hgv⟩|⟨hge',_⟩,hcs⟩:=hgv
 rotate_left
 ·exact absurd hgf (Nat.not_lt.2 hge')
 refine wpIn_rangeFunc λfn _=>?_
 obtain⟨rec,hrec⟩:∃rec:Loop,rec={state:=.ready,pending:=none,fn,tmps:=a.tmps,params:=ps,assign:=x,body:=b,defers:=w.heap.size}:=⟨_,rfl⟩
 obtain⟨wd,hwd⟩:∃wd,wd=w.alloc (.deferred (some [])):=⟨_,rfl⟩
 obtain⟨w1,hw1⟩:∃w1,w1=wd.alloc (.loop rec):=⟨_,rfl⟩
 have hsd:wd.heap.size=w.heap.size+1:=by rw[hwd];simp
 have hs1:w1.heap.size=w.heap.size+2:=by rw[hw1];simp[hsd]
 have hl1:w1.heap[w.heap.size+1]?=some (.loop rec):=by rw[hw1,<-hsd];exact World.alloc_heap_new wd _
 have hD1:w1.heap[w.heap.size]?=some (.deferred (some [])):=by
  rw[hw1];refine(Q5j wd _ _ (by omega)).trans ?_;rw[hwd];exact World.alloc_heap_new w _
 have ho1:∀i,i<w.heap.size->w1.heap[i]?=w.heap[i]? :=λi hi=>by
  rw[hw1];refine(Q5j wd _ _ (by omega)).trans ?_;rw[hwd];exact Q5j w _ _ hi
 obtain⟨c1,hc1⟩:∃c1:Ctx,c1={c with I:=λi=>c.I i\/i=w.heap.size+1}:=⟨_,rfl⟩
 have hgr:Q2n c w c1 w1:=by
  rw[hc1]
  exact⟨rfl,Nat.le_refl _,λi hi=>⟨.inl hi,ho1 i (hs.mem.imm i hi).1⟩,λr z hr=>⟨z,hr,rfl,rfl,rfl,rfl,rfl,Iff.rfl,λhV arr ha=>⟨arr,(ho1 _ (Array.getElem?_eq_some_iff.1 ha).1).trans ha,rfl⟩⟩⟩
 have hlow:∀r z,c.R r=some z->¬c.V r->c.ρ r<w.heap.size:=λr z hr hV=>by
  rcases hs.mem.row r z hr with h|⟨_,arr,h,_⟩
  ·exact(hV h.1).elim
  ·exact(Array.getElem?_eq_some_iff.1 h).1
 have hm1:Mem c1 w1:=by
  have hgr:=hgr
  rw[hc1]at hgr⊢
  refine⟨λr z hr=>Q2a hgr rfl Iff.rfl (λnv=>ho1 _ (hlow r z hr nv)) (hs.mem.row r z hr),hs.mem.inj,λi hi=>?_,by have:=hs.mem.top;show c.top<=_;omega,hs.mem.tab.mono hgr.I⟩
  rcases hi with hi|hi
  ·have:=(hs.mem.imm i hi).1;exact⟨by omega,(hs.mem.imm i hi).2⟩
  ·exact⟨by omega,λr z hr hV=>by have:=hlow r z hr hV;show c.ρ r≠i;omega⟩
 have hyield:Rep c1 w1 (.clo f ys) (.func (.yield (w.heap.size+1)) #[] #[]):=by
  refine⟨y.ts.map λt=>a.tmps.getD t undef,.inr ⟨hge,w.heap.size+1,rec,rfl,by rw[hc1];exact .inr rfl,hl1,by rw[hrec],by rw[hrec],y,hy,?_⟩,?_⟩
  ·cases he
   rw[hrec]
   exact⟨rfl,rfl,rfl,Nat.le_trans hn hs.size,h1,rfl⟩
  ·have:=Qwj (c:=c1) (w:=w1) (ev:=evOp st.env) (ρ:=a.eval) (xs:=y.ts.map Operand.tmp) (cs:=ys) (by rw[hts,bW];exact hys) (λz hz=>Q8b hgr (Qo1 hs.env z))
   rw[bW]at this
   exact this
 have hcs1:Q5p c1 w1 (cs.map Cap.d) us:=Qpk hgr (Qz1 hcs)
 have hall:Q5p c1 w1 (.clo f ys::cs.map Cap.d) (.func (.yield (w.heap.size+1)) #[] #[]::us):=⟨hyield,hcs1⟩
 have hlen:(D.clo f ys::cs.map Cap.d).length=(Value.func (.yield (w.heap.size+1)) #[] #[]::us).length:=by simp[hcs.length]
 have hcall:=(h6 c1 w1 (valL (.func (.yield (w.heap.size+1)) #[] #[]::us)) hm1 (by rw[hc1];have:=hs.base;show c.base<=_;omega) (by rw[hc1];exact hs.rows) (λz hz=>by
  simp only[opsL,List.mem_map,List.mem_range]at hz
  obtain⟨i,_,rfl⟩:=hz
  exact xd hall i) (λv w'=>∃c',NxtK ks c1 w1 c' w'/\(∀r,c'.R r=R'.getD r none)) λv w' c' hn hR _=>⟨c',hn,hR⟩).1 hgf
 rw[xz hlen]at hcall
 refine⟨w.heap.size+1,[{target:=.collected w.heap.size,args:= #[]}],w1,{target:=.fn (.func gf) us.toArray,args:= #[.func (.yield (w.heap.size+1)) #[] #[]]},w1,gf,(Value.func (.yield (w.heap.size+1)) #[] #[]::us).toArray,w1,?_,?_,?_,?_,λe=>(by cases e),?_⟩
 ·rw[hw1,hwd,hrec];exact run_enterLoop_outer _ _ _ _ _
 ·simp only[resolve,hgv]
  simp[go_sem]
 ·intro f' _;trivial
 ·simp only[invoke]
  rw[<-hf,hok.enters (by rw[hf];exact hgf)]
  congr 2
  simp
 ·refine CallsIn.mono (callsIn_wide.2 hcall) λe w3 ⟨v,he3,c3,hn3,hR3⟩=>?_
  subst he3
  have hl3:w3.heap[w.heap.size+1]?=some (.loop rec):=(hn3.grows.I _ (by rw[hc1];exact .inr rfl)).2.trans hl1
  have hend:=run_endLoop (P:=P) hl3 (by rw[hrec];simp)
  have hpe:rec.pending=none:=by rw[hrec]
  rw[hpe]at hend
  refine⟨none,_,hend,?_⟩
  have hfr:Fr (λi=>∃r z,c.R r=some z/\¬c.V r/\c.ρ r=i) w w3:=by
   have h13:=hn3.fr
   rw[hc1]at h13
   refine⟨?_,?_,?_,by have:=h13.size;omega,λi hi hni=>(h13.heap i (by omega) hni).trans (ho1 i hi)⟩
   ·have:=h13.os;rw[hw1,hwd]at this;exact this
   ·have:=h13.tape;rw[hw1,hwd]at this;exact this
   ·have:=h13.output;rw[hw1,hwd]at this;exact this
  have hN:NxtK ks c w c3 w3:=by
   refine⟨hn3.mem,?_,hfr,λi hi=>?_,λr row hr hV=>?_⟩
   ·have g1:=hn3.grows
    rw[hc1]at g1
    refine⟨g1.base,g1.top,λi hi=>⟨(g1.I i (.inl hi)).1,(g1.I i (.inl hi)).2.trans (ho1 i (hs.mem.imm i hi).1)⟩,λr row hr=>?_⟩
    obtain⟨row',q1,q2,q3,q4,q5,q6,qV,q7⟩:=g1.R r row hr
    exact⟨row',q1,q2,q3,q4,q5,q6,qV,λnv arr ha=>q7 nv arr ((ho1 _ (Array.getElem?_eq_some_iff.1 ha).1).trans ha)⟩
   ·have:=hn3.imm i hi
    rw[hc1]at this
    rcases this with(g|g)|g|g
    ·exact .inl g
    ·exact .inr (.inr (by omega))
    ·exact .inr (.inl g)
    ·exact .inr (.inr (by omega))
   ·have:=hn3.rho r row hr hV
    rw[hc1]at this
    rcases this with g|g|g
    ·exact .inl g
    ·exact .inr (.inl g)
    ·exact .inr (.inr (by omega))
  have hmk:Qa0 w0.heap.size w3 ({target:=.collected w.heap.size,args:= #[]}::a.defers):=by
   obtain⟨bs,b1,b2,b3⟩:=hs.defers.step hs.mem hfr
   refine⟨w.heap.size::bs,List.nodup_cons.2 ⟨λhm=>?_,b1⟩,by rw[b2];rfl,λi hi=>?_⟩
   ·obtain⟨bs',c1',c2',c3'⟩:=hs.defers
    rw[c2']at b2
    have:bs'=bs:=by
     have:=congrArg (List.map λ(d:Deferred)=>match d.target with|.collected i=>i|_=>0) b2
     simpa[bW,Function.comp_def]using this
    subst this
    have:=(Array.getElem?_eq_some_iff.1 (c3' _ hm).2).1
    omega
   ·rcases List.mem_cons.1 hi with e|e
    ·subst e
     refine⟨hs.reach.fr.size,?_⟩
     have h13:=hn3.fr
     rw[hc1]at h13
     exact(h13.heap _ (by omega) fun⟨r,z,q1,q2,q3⟩=>by have:=hlow r z q1 q2;simp only at q3;omega).trans hD1
    ·exact b3 i e
  have hs3:SimS N M c0 w0 c3 w3 ⟨Q7l ks st.env,R'⟩ {a with defers:={target:=.collected w.heap.size,args:= #[]}::a.defers}:=
   ⟨hn3.mem,hR3,λt=>by rw[Q7b];exact Q8b hN.grows (Qww (hs.env t)),hs.size,hmk,hs.base0,hs.own0,hs.reach.step h5 hs.own0 hN⟩
  refine⟨.normal,⟨Q7l ks st.env,R'⟩,_,rfl,hQ,hs3.turn (b:=w.heap.size+1) (o:=.loop rec) (by have:=hs.reach.fr.size;omega) hl3 (λ_ _ _ e=>by cases e) (Fk:=λk=>k<YB) (λk ws v hk hv=>?_) (λt k hk=>Qo8 hno (List.mem_append_left _ (Z28 hk))) (λr z hr k hk=>Qo8 hno (List.mem_append_right _ (Qx8 (by rw[<-hR3];exact hr) hk))) ?_⟩
  ·rcases hv with hv|⟨hv,_⟩
   ·exact .inl hv
   ·exact absurd hk (Nat.not_lt.2 hv)
  ·refine hmk.to λi hi=>(World.putObj_heap_other λe=>?_).trans hi
   rw[e,hl3]at hi;cases hi
def unrVC(T:Tab)(G:List Q09)(N M:Nat)(L:Code->St->(Ex->St->Prop)->Prop):Nat->Code->St->(Ex->St->Prop)->Prop
 |0,_,_,_=>False
 |n+1,c,st,Q=>Q7o T G N M L c st λe st'=>match e with
  |.normal=>unrVC T G N M L n c st' Q
  |.exit j=>Q (.exit j) st'
  |.ret=>Q .ret st'
def LLr (T:Tab)(G:List Q09)(N M:Nat)(invs:List (Nat×LInv))(rf:Option Nat):Nat->Code->St->(Ex->St->Prop)->Prop
 |0,_,_,_=>False
 |d + 1,code,st,Q=>match code with
  |.rangeFunc g _ _ _=>match rf with|some f=>rfVC T G M f g st Q|none=>False
  |.loop c=>match findI invs (keyOf c)with
   |some i=>∃(Pre:i.α->Prop) (μ:i.α->Nat),Pre (i.a0 st)/\fold M (i.ex0 st) st (i.F st (i.a0 st)).1 (i.F st (i.a0 st)).2/\∀a:i.α,Pre a->Q7o T G N M (LLr T G N M invs rf d) c ⟨(i.F st a).1,(i.F st a).2.map some⟩ λe st'=>match e with
    |.normal=>(Pre (i.next st')/\μ (i.next st')<μ a)/\fold M (i.ex st') st' (i.F st (i.next st')).1 (i.F st (i.next st')).2
    |.exit j=>Q (.exit j) st'
    |.ret=>Q .ret st'
   |none=>unrVC T G N M (LLr T G N M invs rf d) 16 c st Q
  |_=>False
abbrev LL(T:Tab)(G:List Q09)(N M:Nat)(invs:List (Nat×LInv)):=LLr T G N M invs none
theorem vZ{P:Program}{T:Tab}{G:List Q09}{N M:Nat}{L:Code->St->(Ex->St->Prop)->Prop}{ro:Option Nat}{code:Code}
 (hb:∀st Q,Q7o T G N M L code st Q->TrR ro P N M code st Q):∀(n:Nat) (st:St) (Q:Ex->St->Prop),unrVC T G N M L n code st Q->TrR ro P N M (.loop code) st Q:=by
 intro n st Q h c0 w0 c w a hs
 refine wpIn_loop_rounds n ?_
 induction n generalizing st c w a with
 |zero=>exact h.elim
 |succ n ih=>
  rw[roundsIn_succ]
  refine wpIn_mono (hb st _ h c0 w0 c w a hs) λe a' w' hq=>?_
  obtain⟨ex,st',c',he,hq,hs'⟩:=hq
  cases e<;>simp only[exOf,Option.some.injEq,reduceCtorEq]at he
  ·subst he;exact ih st' hq c' w' a' hs'
  ·subst he;exact⟨_,st',c',rfl,hq,hs'⟩
  ·subst he;exact⟨_,st',c',rfl,hq,hs'⟩
theorem Z8e{P:Program}(hD:Qbz P){T:Tab}(hT:Q34 P T){G:List Q09}(hG:Q57 P G){N M:Nat}{invs:List (Nat×LInv)}{rf:Option Nat}{ro:Option Nat}(hro:ro=none\/rf=none):∀(d:Nat) (code:Code) (st:St) (Q:Ex->St->Prop),RF rf N code->LLr T G N M invs rf d code st Q->TrR ro P N M code st Q
 |0,_,_,_,_,h=>h.elim
 |d + 1,code,st,Q,hrf,h=>by
  unfold LLr at h
  split at h
  ·split at h
   ·rename_i f
    rcases hro with e|e
    ·subst e;exact rf_ok hG hrf h
    ·cases e
   ·exact h.elim
  ·rename_i c
   split at h
   ·rename_i i hi
    obtain⟨Pre,μ,h2,h3,h4⟩:=h
    have hc:RF rf N c:=by
     cases rf with
     |none=>trivial
     |some f=>exact hrf
    refine xP (i.F st) Pre μ (i.a0 st) (i.ex0 st) h2 h3 λa ha=>Tr.mono (λe st' hq=>?_) (Qdk hD hT hG (Z0g rf N) (Z8e hD hT hG hro d) c _ _ hc (h4 a ha))
    cases e with
    |normal=>exact⟨_,_,hq.1.1,hq.1.2,hq.2⟩
    |exit j=>exact hq
    |ret=>exact hq
   ·have hc:RF rf N c:=by
     cases rf with
     |none=>trivial
     |some f=>exact hrf
    exact vZ (λst Q hv=>Qdk hD hT hG (Z0g rf N) (Z8e hD hT hG hro d) c st Q hc hv) _ _ _ h
  ·exact h.elim
def cellOf(R:Rows)(r j:Nat):D:=match R.getD r none with|some row=>(row.es.get 0).getD j .dead|none=>.dead
def esOf(R:Rows)(r:Nat):Els:=match R.getD r none with|some row=>row.es|none=>.gen []
def Qfh(R:Rows)(r:Nat):List Int:=match R.getD r none with|some ⟨_,_,_,.ints _ l⟩=>l|_=>[]
def Q55(k:RK)(R:Rows)(r:Nat):List (RK.T k):=match R.getD r none with|some ⟨_,_,_,.recs k' l⟩=>(match Z6k k' k l with|some m=>m|none=>[])|_=>[]
def frzI(k:IntKind)(R:Rows)(d:D):List Int:=match d with|.all r=>Qfh R r|.own r _ _=>Qfh R r|d=>slI k d
def Q0y(d:D)(n:Nat):Nat:=match d with|.all r=>r|.own r _ _=>r|.ptr r _ _=>r|.pa r _ _ _ _ _=>r|_=>n
inductive Dir where
 |sl (t:CT) (fr:Bool)
 |row (ty sz:Nat) (t:CT)
def Qr7:CT->Els
 |.ints k=>.ints k []
 |.bools=>.bools []
 |.recs k=>.recs k []
 |_=>.gen []
def CT.esz:CT->Nat
 |.recs k=>k.size
 |_=>1
def toCT:CT->Els->Option Els
 |.ints k,E=>match E.toI k with|some l=>some (.ints k l)|none=>none
 |.bools,E=>match E.toB with|some l=>some (.bools l)|none=>none
 |.recs k,E=>match E.toR k with|some l=>some (.recs k l)|none=>none
 |_,_=>none
theorem Qqa(t:CT):(Qr7 t).Nil:=by cases t<;>rfl
theorem Qvk{t:CT}{E E':Els}(h:toCT t E=some E'):Els.Eq E E':=by
 cases t with
 |ints k=>
  simp only[toCT]at h
  split at h
  ·rename_i l hl
   cases h
   cases E with
   |ints k' m=>
    simp only[Els.toI]at hl
    split at hl
    ·rename_i hk;cases hl;simp only[Els.Eq,hk]
    ·cases hl
   |gen es=>cases es<;>simp[Els.toI]at hl;subst hl;rfl
   |bools m=>simp[Els.toI]at hl
   |recs k m=>simp[Els.toI]at hl
  ·cases h
 |bools=>
  simp only[toCT]at h
  split at h
  ·rename_i l hl
   cases h
   cases E with
   |bools m=>simp[Els.toB]at hl;subst hl;rfl
   |gen es=>cases es<;>simp[Els.toB]at hl;subst hl;rfl
   |ints k m=>simp[Els.toB]at hl
   |recs k m=>simp[Els.toB]at hl
  ·cases h
 |recs k=>
  simp only[toCT]at h
  split at h
  ·rename_i l hl
   cases h
   cases E with
   |recs k' m=>simp only[Els.toR]at hl;simp only[Els.Eq,hl]
   |gen es=>cases es<;>simp[Els.toR]at hl;subst hl;rfl
   |ints k m=>simp[Els.toR]at hl
   |bools m=>simp[Els.toR]at hl
  ·cases h
 |_=>simp[toCT]at h
structure CanS where
 ds:List Dir
 ex:List (Nat×Row)
 fz:List Nat
def ptrLt(m:Nat):List (Nat×Nat×Nat)->Bool
 |[]=>true
 |p::l=>bK p.1 m&&ptrLt m l
def Z6z(m:Nat):List Cap->Bool
 |[]=>true
 |.ptr r _ _::l=>bK r m&&Z6z m l
 |.fn _ ps::l=>ptrLt m ps&&Z6z m l
 |_=>false
theorem zd{m:Nat}{EX:List Nat}(hE:∀i,i<m->EX[i]?=some i):∀{ps:List (Nat×Nat×Nat)},ptrLt m ps=true->ptrX EX ps ps=true
 |[],_=>rfl
 |(r,a,b)::l,h=>by
  simp only[ptrLt,aE]at h
  simp only[ptrX,inEx,hE r (lE h.1),zd hE h.2]
  simp
theorem yP{m:Nat}{EX:List Nat}(hE:∀i,i<m->EX[i]?=some i):∀{cs:List Cap},Z6z m cs=true->capX EX cs cs=true:=by
 intro cs
 induction cs with
 |nil=>intro _;rfl
 |cons x l ih=>
  intro h
  cases x with
  |ptr r a b=>
   simp only[Z6z,aE]at h
   simp only[capX,inEx,hE r (lE h.1),ih h.2]
   simp
  |fn f ps=>
   simp only[Z6z,aE]at h
   simp only[capX,zd hE h.1,ih h.2]
   simp
  |_=>simp[Z6z]at h
def Z9c(m:Nat)(R:Rows)(c:D)(s:CanS):Option (D×CanS):=
  match c with
  | .int k n=>some (.int k n,s)
  | .bool b=>some (.bool b,s)
  | .str x=>some (.str x,s)
  | .nilp=>some (.nilp,s)
  | .nilif=>some (.nilif,s)
  | .selfp r=>match bK r m with|true=>some (.selfp r,s)|false=>none
  | .ptr r o f=>match bK r m with|true=>some (.ptr r o f,s)|false=>none
  | .clo f cs=>match Z6z m cs with|true=>some (.clo f cs,s)|false=>none
  | .nils=>match s with
    |⟨.sl t f::ds,ex,fz⟩=>some (.sl t.esz (Qr7 t) f,⟨ds,ex,fz⟩)
    |⟨.row ty sz t::ds,ex,fz⟩=>match bK 0 sz with|true=>some (.all (m+ex.length),⟨ds,ex++[(R.length+ex.length,⟨false,ty,sz,Qr7 t⟩)],fz⟩)|false=>none
    |_=>none
  | .emp=>match s with
    |⟨.sl t f::ds,ex,fz⟩=>some (.sl t.esz (Qr7 t) f,⟨ds,ex,fz⟩)
    |⟨.row ty sz t::ds,ex,fz⟩=>match bK 0 sz with|true=>some (.all (m+ex.length),⟨ds,ex++[(R.length+ex.length,⟨false,ty,sz,Qr7 t⟩)],fz⟩)|false=>none
    |_=>none
  | .sl n E fr=>match s with
    | ⟨.sl t f::ds,ex,fz⟩=>match toCT t E,(!f||fr)&&(bV n t.esz||Z87 E) with
      |some E',true=>some (.sl t.esz E' f,⟨ds,ex,fz⟩)
      |_,_=>none
    |_=>none
  | .all r=>match s with
    | ⟨.sl t f::ds,ex,fz⟩=>match R.getD r none with
      | some ⟨box,_,sz',E⟩=>match toCT t E,!box&&(bV sz' t.esz&&Nat.ble m r) with
        |some E',true=>some (.sl t.esz E' f,⟨ds,ex,r::fz⟩)
        |_,_=>none
      |none=>none
    | ⟨.row ty sz t::ds,ex,fz⟩=>match bK r m with
      |true=>some (.all r,⟨ds,ex,fz⟩)
      | false=>match R.getD r none with
        | some ⟨box,ty',sz',E⟩=>match toCT t E,!box&&(bV ty' ty&&bV sz' sz) with
          |some E',true=>some (.all (m+ex.length),⟨ds,ex++[(r,⟨false,ty,sz,E'⟩)],fz⟩)
          |_,_=>none
        |none=>none
    |_=>none
  | .own r o n=>match s with
    | ⟨.sl t f::ds,ex,fz⟩=>match R.getD r none with
      | some ⟨box,_,sz',E⟩=>match toCT t ((E.drop o).take n),!box&&(bV sz' t.esz&&Nat.ble m r) with
        |some E',true=>some (.sl t.esz E' f,⟨ds,ex,r::fz⟩)
        |_,_=>none
      |none=>none
    |_=>none
  |_=>none
def Zat(m:Nat)(R:Rows):List D->CanS->Option (List D×CanS)
 |[],s=>some ([],s)
 |c ::cs,s=>match Z9c m R c s with
  |some (c',s')=>match Zat m R cs s' with
   |some (cs',s'')=>some (c'::cs',s'')
   |none=>none
  |none=>none
def canV(m:Nat)(R:Rows)(d:D)(s:CanS):Option (D×CanS):=
 match d with
 |.agg cs=>match Zat m R cs s with|some (cs',s')=>some (.agg cs',s')|none=>none
 |d=>Z9c m R d s
def canVs(m:Nat)(R:Rows):List D->CanS->Option (List D×CanS)
 |[],s=>some ([],s)
 |c ::cs,s=>match canV m R c s with
  |some (c',s')=>match canVs m R cs s' with
   |some (cs',s'')=>some (c'::cs',s'')
   |none=>none
  |none=>none
def canD(m:Nat)(R:Rows)(d:D)(s:CanS):Option (D×CanS):=
 match d with
 |.tup ds=>match canVs m R ds s with|some (ds',s')=>some (.tup ds',s')|none=>none
 |d=>canV m R d s
def Zbi(m:Nat)(R:Rows):Nat->Nat->CanS->Option (List Row×CanS)
 |0,_,s=>some ([],s)
 |n + 1,i,s=>match R.getD i none with
  |some ⟨true,ty,sz,.gen [e]⟩=>match Zat m R e s with
   |some (e',s')=>match Zbi m R n (i+1) s' with
    |some (rs,s'')=>some (⟨true,ty,sz,.gen [e']⟩::rs,s'')
    |none=>none
   |none=>none
  |some ⟨false,ty,sz,E⟩=>match Zbi m R n (i+1) s with
   |some (rs,s'')=>some (⟨false,ty,sz,E⟩::rs,s'')
   |none=>none
  |_=>none
def exl(m:Nat)(ex:List (Nat×Row)):List Nat:=List.range m++ex.map (·.1)
def Q7p(m:Nat)(ds:List Dir)(d:D)(R:Rows)(K:D->List Row->Prop):Prop:=
 match canD m R d ⟨ds,[],[]⟩with
 |some (d',s)=>match Zbi m R m 0 s with
  |some (rs,s')=>cand (exOK m (exl m s'.ex)&&s'.fz.all (Zbl (exl m s'.ex))) (K d' (rs++s'.ex.map (·.2)))
  |none=>False
 |none=>False
def ExG(R:Rows)(x:Nat×Row):Prop:=
 x.2.box=false/\match R.getD x.1 none with
 |some ⟨box',ty',sz',es'⟩=>box'=false/\ty'=x.2.ty/\sz'=x.2.sz/\Els.Eq es' x.2.es
 |none=>0<x.2.sz/\x.2.es.Nil
structure CanG(m:Nat)(R:Rows)(EX:List Nat)(s:CanS):Prop where
 at_:∀(i:Nat) x,s.ex[i]?=some x->EX[m+i]?=some x.1
 good:∀x∈s.ex,ExG R x
 out:∀r∈s.fz,Zbl EX r=true
def Qp8(s s':CanS):Prop:=s.ex<+:s'.ex/\s.fz<:+s'.fz
theorem Qp8.refl(s:CanS):Qp8 s s:=⟨bX _,bY _⟩
theorem Qp8.trans{a b c:CanS}(h:Qp8 a b)(g:Qp8 b c):Qp8 a c:=⟨h.1.trans g.1,h.2.trans g.2⟩
theorem yd{E:Els}(h:Z87 E=true):E.Nil:=Els.Nil_l.2 (Z36 h)
theorem Z5y{m:Nat}{R:Rows}{c c':D}{s s':CanS}(h:Z9c m R c s=some (c',s')):
    Qp8 s s'/\((∀x∈s.ex,ExG R x)-> ∀x∈s'.ex,ExG R x)/\ ∀EX:List Nat,(∀i,i<m->EX[i]? =some i)->CanG m R EX s'->retC EX m R c c':=by
  have vir: ∀{ty sz t},bK 0 sz=true->((∀x∈s.ex,ExG R x)-> ∀x∈s.ex++[(R.length+s.ex.length,(⟨false,ty,sz,Qr7 t⟩:Row))],ExG R x)/\
      ∀(EX:List Nat) (ds:List Dir) (fz:List Nat),CanG m R EX ⟨ds,s.ex++[(R.length+s.ex.length,(⟨false,ty,sz,Qr7 t⟩:Row))],fz⟩->Z6o EX R (m+s.ex.length)=true:=by
    intro ty sz t hsz
    have hn:R.getD (R.length+s.ex.length) none=none:=by rw[aK,List.getElem?_eq_none (by omega)];rfl
    refine⟨λhg x hx=> ?_,λEX ds fz hG=> ?_⟩
    . simp only[bZ,cA]at hx
      rcases hx with hx|rfl
      . exact hg x hx
      . refine⟨rfl,?_⟩
        simp only[hn]
        exact⟨lE hsz,Qqa t⟩
    . have:=hG.at_ s.ex.length (R.length+s.ex.length,⟨false,ty,sz,Qr7 t⟩) (by simp)
      simp only[Z6o,this,hn]
  cases c<;>simp only[Z9c]at h<;>try(cases h;done)
  case int k n=>cases h;exact⟨.refl _,id,λEX _ _=>by simp [retC,cand]⟩
  case bool b=>cases h;exact⟨.refl _,id,λEX _ _=>by simp [retC]⟩
  case str x=>cases h;exact⟨.refl _,id,λEX _ _=>by simp [retC]⟩
  case nilp=>cases h;exact⟨.refl _,id,λEX _ _=>by simp [retC]⟩
  case nilif=>cases h;exact⟨.refl _,id,λEX _ _=>by simp [retC]⟩
  case selfp r=>
    split at h
    . rename_i hr
      cases h
      refine⟨.refl _,id,λEX hE _=> ?_⟩
      have:=hE r (lE hr)
      simp only[retC,Q02,inEx,this]
      exact⟨by simp,trivial⟩
    . cases h
  case ptr r o f=>
    split at h
    . rename_i hr
      cases h
      refine⟨.refl _,id,λEX hE _=> ?_⟩
      have:=hE r (lE hr)
      simp only[retC,Q02,inEx,this]
      exact⟨by simp,trivial⟩
    . cases h
  case clo f cs=>
    split at h
    . rename_i hr
      cases h
      refine⟨.refl _,id,λEX hE _=> ?_⟩
      simp only[retC,Q02,yP hE hr]
      exact⟨by simp,trivial⟩
    . cases h
  case nils=>
    split at h
    . cases h;exact⟨.refl _,id,λEX _ _=>Qqa _⟩
    . split at h
      . rename_i hsz
        cases h
        obtain⟨v1,v2⟩:=vir hsz
        exact⟨⟨cB _ _,bY _⟩,v1,λEX _ hG=>by simp only[retC,Q02];exact⟨v2 EX _ _ hG,trivial⟩⟩
      . cases h
    . cases h
  case emp=>
    split at h
    . cases h;exact⟨.refl _,id,λEX _ _=>Qqa _⟩
    . split at h
      . rename_i hsz
        cases h
        obtain⟨v1,v2⟩:=vir hsz
        exact⟨⟨cB _ _,bY _⟩,v1,λEX _ hG=>by simp only[retC,Q02];exact⟨v2 EX _ _ hG,trivial⟩⟩
      . cases h
    . cases h
  case sl n E fr=>
    split at h
    . rename_i t f ds ex fz
      split at h
      . rename_i E' hE hb
        cases h
        simp only[aE,Bool.or_eq_true]at hb
        refine⟨.refl _,id,λEX _ _=> ?_⟩
        simp only[retC,Q02]
        exact⟨by simpa using hb.1,hb.2.symm.imp yd bE,Qvk hE⟩
      . cases h
    . cases h
  case all r =>
    split at h
    . rename_i t f ds ex fz
      split at h
      . rename_i box ty sz' E hR
        split at h
        . rename_i E' hE hb
          cases h
          simp only[aE]at hb
          refine⟨⟨bX _,cC _ _⟩,id,λEX _ hG=> ?_⟩
          simp only[retC,hR,Q02,aE]
          exact⟨⟨⟨⟨hb.1,hb.2.1⟩,hG.out r (by simp)⟩,hb.2.2⟩,Qvk hE⟩
        . cases h
      . cases h
    . rename_i ty sz t ds ex fz
      split at h
      . rename_i hlt
        cases h
        refine⟨.refl _,id,λEX hEX hG=> ?_⟩
        simp only[retC,Q02]
        have:=hEX r (lE hlt)
        exact⟨by simp [inEx,this],trivial⟩
      . split at h
        . rename_i box ty' sz' E hR
          split at h
          . rename_i E' hE hb
            cases h
            simp only[aE,Bool.not_eq_true']at hb
            refine⟨⟨cB _ _,bY _⟩,λhg x hx=> ?_,λEX hEX hG=> ?_⟩
            . simp only[bZ,cA]at hx
              rcases hx with hx|rfl
              . exact hg x hx
              . refine⟨rfl,?_⟩
                simp only[hR]
                exact⟨hb.1,bE hb.2.1,bE hb.2.2,Qvk hE⟩
            . have:=hG.at_ ex.length (r,⟨false,ty,sz,E'⟩) (by simp)
              simp only[retC,Q02]
              exact⟨by simp [inEx,this],trivial⟩
          . cases h
        . cases h
    . cases h
  case own r o n=>
    split at h
    . rename_i t f ds ex fz
      split at h
      . rename_i box ty sz' E hR
        split at h
        . rename_i E' hE hb
          cases h
          simp only[aE]at hb
          refine⟨⟨bX _,cC _ _⟩,id,λEX _ hG=> ?_⟩
          simp only[retC,hR,Q02,aE]
          exact⟨⟨⟨⟨hb.1,hb.2.1⟩,hG.out r (by simp)⟩,hb.2.2⟩,Qvk hE⟩
        . cases h
      . cases h
    . cases h
theorem CanG.mono{m:Nat}{R:Rows}{EX:List Nat}{s s':CanS}(hl:Qp8 s s')(h:CanG m R EX s'):CanG m R EX s:=
 ⟨λi x hx=>h.at_ i x (by
  obtain⟨t,ht⟩:=hl.1
  rw[<-ht,aZ (List.getElem?_eq_some_iff.1 hx).1];exact hx),λx hx=>h.good x (hl.1.subset hx),λr hr=>h.out r (hl.2.subset hr)⟩
theorem Z23{m:Nat}{R:Rows}:∀{cs cs':List D} {s s':CanS},Zat m R cs s=some (cs',s')->
 Qp8 s s'/\((∀x∈s.ex,ExG R x)->∀x∈s'.ex,ExG R x)/\∀EX:List Nat,(∀i,i<m->EX[i]?=some i)->CanG m R EX s'->Z1s EX m R cs cs'
 |[],cs',s,s',h=>by simp only[Zat]at h;cases h;exact⟨.refl _,id,λ_ _ _=>trivial⟩
 |c ::cs,cs',s,s',h=>by
  simp only[Zat]at h
  split at h
  ·rename_i c1 s1 h1
   split at h
   ·rename_i cs1 s2 h2
    cases h
    obtain⟨a1,a2,a3⟩:=Z5y h1
    obtain⟨b1,b2,b3⟩:=Z23 h2
    exact⟨a1.trans b1,λh=>b2 (a2 h),λEX hEX hG=>⟨a3 EX hEX (hG.mono b1),b3 EX hEX hG⟩⟩
   ·cases h
  ·cases h
theorem vd{m:Nat}{R:Rows}{d d':D}{s s':CanS}(h:canV m R d s=some (d',s')):
 Qp8 s s'/\((∀x∈s.ex,ExG R x)->∀x∈s'.ex,ExG R x)/\∀EX:List Nat,(∀i,i<m->EX[i]?=some i)->CanG m R EX s'->retV EX m R d d':=by
 unfold canV at h
 split at h
 ·rename_i cs
  split at h
  ·rename_i cs' s1 h1
   cases h
   exact Z23 h1
  ·cases h
 ·rename_i hne
  obtain⟨a1,a2,a3⟩:=Z5y h
  refine⟨a1,a2,λEX hEX hG=>?_⟩
  have h3:=a3 EX hEX hG
  cases d' with
  |agg ps=>simp[retC]at h3
  |_=>exact h3
theorem Z9d{m:Nat}{R:Rows}:∀{cs cs':List D} {s s':CanS},canVs m R cs s=some (cs',s')->
 Qp8 s s'/\((∀x∈s.ex,ExG R x)->∀x∈s'.ex,ExG R x)/\∀EX:List Nat,(∀i,i<m->EX[i]?=some i)->CanG m R EX s'->retVs EX m R cs cs'
 |[],cs',s,s',h=>by simp only[canVs]at h;cases h;exact⟨.refl _,id,λ_ _ _=>trivial⟩
 |c ::cs,cs',s,s',h=>by
  simp only[canVs]at h
  split at h
  ·rename_i c1 s1 h1
   split at h
   ·rename_i cs1 s2 h2
    cases h
    obtain⟨a1,a2,a3⟩:=vd h1
    obtain⟨b1,b2,b3⟩:=Z9d h2
    exact⟨a1.trans b1,λh=>b2 (a2 h),λEX hEX hG=>⟨a3 EX hEX (hG.mono b1),b3 EX hEX hG⟩⟩
   ·cases h
  ·cases h
theorem vP{m:Nat}{R:Rows}{d d':D}{s s':CanS}(h:canD m R d s=some (d',s')):
 Qp8 s s'/\((∀x∈s.ex,ExG R x)->∀x∈s'.ex,ExG R x)/\∀EX:List Nat,(∀i,i<m->EX[i]?=some i)->CanG m R EX s'->retD EX m R d d':=by
 unfold canD at h
 split at h
 ·rename_i cs
  split at h
  ·rename_i cs' s1 h1
   cases h
   exact Z9d h1
  ·cases h
 ·rename_i hne
  obtain⟨a1,a2,a3⟩:=vd h
  refine⟨a1,a2,λEX hEX hG=>?_⟩
  have h3:=a3 EX hEX hG
  cases d' with
  |tup ps=>simp[retV,retC]at h3
  |_=>exact h3
theorem Z1l{m:Nat}{R:Rows}:∀{n i:Nat} {rs:List Row} {s s':CanS},Zbi m R n i s=some (rs,s')->
 Qp8 s s'/\((∀x∈s.ex,ExG R x)->∀x∈s'.ex,ExG R x)/\∀EX:List Nat,(∀i,i<m->EX[i]?=some i)->CanG m R EX s'->Q3 EX m R (bL i n) rs
 |0,i,rs,s,s',h=>by simp only[Zbi]at h;cases h;exact⟨.refl _,id,λ_ _ _=>trivial⟩
 |n + 1,i,rs,s,s',h=>by
  simp only[Zbi]at h
  split at h
  ·rename_i ty sz e hR
   split at h
   ·rename_i e1 s1 h1
    split at h
    ·rename_i rs1 s2 h2
     cases h
     obtain⟨a1,a2,a3⟩:=Z23 h1
     obtain⟨b1,b2,b3⟩:=Z1l h2
     refine⟨a1.trans b1,λh=>b2 (a2 h),λEX hEX hG=>?_⟩
     rw[cD]
     simp only[Q3,hR,Q02]
     exact⟨⟨by simp,a3 EX hEX (hG.mono b1)⟩,b3 EX hEX hG⟩
    ·cases h
   ·cases h
  ·rename_i ty sz E hR
   split at h
   ·rename_i rs1 s2 h2
    cases h
    obtain⟨b1,b2,b3⟩:=Z1l h2
    refine⟨b1,b2,λEX hEX hG=>?_⟩
    rw[cD]
    simp only[Q3,hR,Q02]
    refine⟨⟨by simp,?_⟩,b3 EX hEX hG⟩
    cases E with
    |gen es=>cases es<;>simp[Els.Eq]
    |recs k l=>simp[Els.Eq,Z0j]
    |_=>simp[Els.Eq]
   ·cases h
  ·cases h
theorem Qlu{ex:List Nat}{m:Nat}{R:Rows}:∀{l1 l2:List Nat} {p1 p2:List Row},Q3 ex m R l1 p1->Q3 ex m R l2 p2->Q3 ex m R (l1++l2) (p1++p2)
 |[],l2,[],p2,_,h=>h
 |r::l1,l2,p::p1,p2,h1,h2=>by
  simp only[List.cons_append,Q3]at h1⊢
  exact⟨h1.1,Qlu h1.2 h2⟩
 |[],_,_::_,_,h,_=>h.elim
 |_::_,_,[],_,h,_=>h.elim
theorem Z0q{ex:List Nat}{m:Nat}{R:Rows}:∀{l:List (Nat×Row)},(∀x∈l,ExG R x)->Q3 ex m R (l.map (·.1)) (l.map (·.2))
 |[],_=>trivial
 |(r,⟨box,ty,sz,es⟩)::l,h=>by
  simp only[List.map_cons,Q3]
  refine⟨?_,Z0q λx hx=>h x (by simp[hx])⟩
  obtain⟨h1,h2⟩:=h (r,⟨box,ty,sz,es⟩) (by simp)
  simp only at h1 h2
  subst h1
  split
  ·rename_i box' ty' sz' es' hR
   simp only[hR]at h2
   obtain⟨rfl,rfl,rfl,h2⟩:=h2
   simp only[Q02]
   exact⟨by simp,h2⟩
  ·rename_i hR
   simp only[hR]at h2
   simp only[Q02]
   exact⟨by simpa using h2.1,h2.2⟩
theorem Z08{m:Nat}{ds:List Dir}{d:D}{R:Rows}{K:D->List Row->Prop}(h:Q7p m ds d R K):∃res rows,K res rows/\RetE m res rows d R:=by
 unfold Q7p at h
 split at h
 ·rename_i d' s h1
  split at h
  ·rename_i rs s' h2
   simp only[Q02,aE]at h
   obtain⟨⟨hx,hf⟩,hK⟩:=h
   obtain⟨a1,a2,a3⟩:=vP h1
   obtain⟨b1,b2,b3⟩:=Z1l h2
   have hgood:∀x∈s'.ex,ExG R x:=b2 (a2 λx hx=>by simp at hx)
   have hEX:∀i,i<m->(exl m s'.ex)[i]?=some i:=λi hi=>by
    unfold exl
    rw[aZ (by simpa using hi)];simp[hi]
   have hG:CanG m R (exl m s'.ex) s':=⟨λi x hx=>by
    unfold exl
    rw[List.getElem?_append_right (by simp)]
    simp[hx],hgood,λr hr=>List.all_eq_true.1 hf r hr⟩
   refine⟨d',_,hK,exl m s'.ex,hx,a3 _ hEX (hG.mono b1),?_⟩
   have h3:=b3 _ hEX hG
   have:exl m s'.ex=bL 0 m++s'.ex.map (·.1):=by unfold exl;rw[List.range_eq_range']
   refine Eq.mpr ?_ (Qlu h3 (Z0q hgood))
   rw[<-this]
  ·exact h.elim
 ·exact h.elim

import Derived.Test.YtaemmjbkndlkeaaGreatMigrateOneDraw
import Derived.IntWalk
open List renaming getD->aV,ext_getElem->bR,map_map->bY,prefix_refl->bZ,suffix_refl->cA,mem_append->cB,mem_singleton->cC,prefix_append->cD,suffix_cons->cE,getElem?_append_left->bI,range'->bO,range'_succ->cF
open Nat renaming beq->bX,blt->bN
set_option linter.all false
namespace Go.GD
open Go
def r5(ex:List Nat)(M:Nat)(R:Rows)(d p:D):Prop:=
 match p with
 |.dead=>True
 |.ptr i o f=>match d with|.ptr r o' f'=>cu (jW ex i r) (o'=o/\f'=f)|_=>False
 |.im sz es i off=>match d with|.im jV iQ i' iE=>jV=sz/\ah.Eq iQ es/\i'=i/\iE=off|_=>False
 |p=>r6 ex M R d p
def Bx(ex:List Nat)(M:Nat)(R:Rows)(env:List (Nat×D)):List (Nat×D)->Prop
 |[]=>True
 |(t,p)::l=>r5 ex M R (look env t) p/\Bx ex M R env l
def fold(M:Nat)(ex:List Nat)(st:St)(lT:List (Nat×D))(aj:List Row):Prop:=
 cu (r7 M ex) (Bx ex M st.rows st.env lT/\lB ex M st.rows ex aj)
theorem xc{c:Ctx}{w:World}{ex:List Nat}{m:Nat}{R:Rows}{rows:List Row}(hm:Mem c w)(hR:∀r,c.R r=R.getD r none)(dc:lB ex m R ex rows)(ez:∀r row,c.R r=some row->¬c.V r->m<=r->c.base<=c.ρ r){d p:D}{v:Value}(h:r5 ex m R d p)(hr:Rep c w d v):Rep (c.out ex rows) w p v:=by
 have nq:∀b,c.I b->(c.out ex rows).I b/\w.heap[b]?=w.heap[b]? :=λb hb=>⟨.inl hb,rfl⟩
 cases p with
 |dead=>trivial
 |ptr i o f=>
  simp only[r5]at h
  split at h
  ·rename_i r o' f'
   simp only[de]at h
   obtain⟨hx,rfl,rfl⟩:=h
   exact Se (w:=w) hR dc hx hr
  ·exact h.elim
 |im sz es i off=>
  simp only[r5]at h
  split at h
  ·obtain⟨rfl,he,rfl,rfl⟩:=h
   have he:=ah.wT he
   obtain⟨b,o,arr,ty,fz,h1,h2,h3,h4,h5⟩:=hr
   rw[he]at h3 h5
   exact⟨b,o,arr,ty,fz,h1,.inl h2,h3,h4,nh nq _ _ _ _ h5⟩
  ·exact h.elim
 |_=>
  simp only[r5]at h
  exact Sf hm hR dc ez h hr
theorem Zju{c:Ctx}{w:World}{ex:List Nat}{m:Nat}{R:Rows}{rows:List Row}(hm:Mem c w)(hR:∀r,c.R r=R.getD r none)(dc:lB ex m R ex rows)(ez:∀r row,c.R r=some row->¬c.V r->m<=r->c.base<=c.ρ r){env:List (Nat×D)}{a:Act}(he:∀t,Rep c w (look env t) (a.tmps.getD t undef)):
 ∀{lT:List (Nat×D)},Bx ex m R env lT->∀t,Rep (c.out ex rows) w (look lT t) (a.tmps.getD t undef)
 |[],_,t=>trivial
 |(u,p)::l,h,t=>by
  have:=Zju hm hR dc ez he h.2 t
  rw[Qc]
  split
  ·rename_i e
   subst e
   exact xc hm hR dc ez h.1 (he u)
  ·exact this
theorem zc{N M:Nat}{c0:Ctx}{w0:World}{c:Ctx}{w:World}{st:St}{a:Act}(hs:fg N M c0 w0 c w st a){ex:List Nat}{lT:List (Nat×D)}{aj:List Row}(h:fold M ex st lT aj):∃c',fg N M c0 w0 c' w ⟨lT,aj.map some⟩ a:=by
 unfold fold at h
 simp only[de]at h
 obtain⟨hex,hE,dc⟩:=h
 obtain⟨ez,iY,fv⟩:=Sg hs hex dc
 refine⟨c.out ex aj,iY,λr=>?_,Zju hs.mem hs.rows dc ez hs.env hE,hs.size,hs.defers,hs.fw,hs.gp,fv⟩
 simp only[Ctx.out,aV,List.getElem?_map]
 cases aj[r]? <;>rfl
theorem Tr.mono{ro:Option Nat}{P:Program}{N M:Nat}{code:Code}{st:St}{Q Q':Ex->St->Prop}(hq:∀e st,Q e st->Q' e st)(h:tF ro P N M code st Q):tF ro P N M code st Q':=
 λc0 w0 c w a hs=>wpIn_mono (h c0 w0 c w a hs) λe a' w' ⟨ex,jh,c',h1,h2,h3⟩=>⟨ex,jh,c',h1,hq _ _ h2,h3⟩
theorem qad{ro:Option Nat}{P:Program}{N M:Nat}{code:Code}{st:St}{Q:Ex->St->Prop}{α:Type}(F:α->List (Nat×D)×List Row)(uT:α->Prop)(μ:α->Nat)
 (a0:α) (ji:List Nat) (hp:uT a0) (h0:fold M ji st (F a0).1 (F a0).2)
 (round:∀a,uT a->tF ro P N M code ⟨(F a).1,(F a).2.map some⟩ λe jh=>match e with
  |.normal=>∃b ex,uT b/\μ b<μ a/\fold M ex jh (F b).1 (F b).2
  |.exit i=>Q (.exit i) jh
  |.ret=>Q .ret jh):tF ro P N M (.loop code) st Q:=by
 intro c0 w0 c w a hs
 have key:∀(n:Nat) (x:α),uT x->μ x<n->∀(c:Ctx) (w:World) (a:Act),fg N M c0 w0 c w ⟨(F x).1,(F x).2.map some⟩ a->
  Code.roundsIn (AA ro) 0 P code (λe a' w'=>∃ex jh c',mC e=some ex/\Q ex jh/\fg N M c0 w0 c' w' jh a') n a w:=by
  intro n
  induction n with
  |zero=>intro x _ h;omega
  |succ n ih=>
   intro x hx bg c w a hs
   rw[roundsIn_succ]
   refine wpIn_mono (round x hx c0 w0 c w a hs) λe a' w' hq=>?_
   obtain⟨ex,jh,c',he,hq,iP⟩:=hq
   cases e<;>simp only[mC,Option.some.injEq,reduceCtorEq]at he
   ·subst he
    obtain⟨b,ex,h1,h2,h3⟩:=hq
    obtain⟨Sh,VZ⟩:=zc iP h3
    exact ih b h1 (by omega) Sh w' a' VZ
   ·subst he;exact⟨_,jh,c',rfl,hq,iP⟩
   ·subst he;exact⟨_,jh,c',rfl,hq,iP⟩
 obtain⟨c',iP⟩:=zc hs h0
 exact wpIn_loop_rounds _ (key (μ a0+1) a0 hp (by omega) c' w a iP)
structure cg where
 α:Type
 F:St->α->List (Nat×D)×List Row
 a0:St->α
 ji:St->List Nat
 next:St->α:=a0
 ex:St->List Nat:=ji
structure Ask(p:Prop):Prop where
 ok:p
def keyOf:Code->Nat
 |.region id _ _=>id
 |.block id _=>id
 |.seq a _=>keyOf a
 |.loop a=>keyOf a
 |_=>0
def FQ:List (Nat×cg)->Nat->Option cg
 |[],_=>none
 |(k,i)::l,n=>match bX k n with|true=>some i|false=>FQ l n
def HM(T:e7)(G:List ba)(M f:Nat)(g:Operand)(st:St)(Q:Ex->St->Prop):Prop:=
 match cj st.env g with
 |.gk gf cs=>match J0 ((V0 f).map (look st.env)),oL G gf with
  |some ys,some k=>HK T ys st.env st.rows λR=>cu (bN gf YB)<|HD G M gf k (.gk f ys::cs.map iq.d) R λks _ R=>FR ks st.env λenv=>cu (pR (wU env++FT R)) (Q .normal ⟨env,R⟩)
  |_,_=>False
 |_=>False
def evL(ds:List D):Operand->D|.tmp i=>ds.getD i .dead|_=>.dead
def opsL(n:Nat):List Operand:=(List.range n).map Operand.tmp
theorem zad{ds:List D}:(opsL ds.length).map (evL ds)=ds:=by
 refine bR (by simp[opsL]) λi h1 h2=>?_
 simp[opsL,evL,aV,h2]
def HN(vs:List Value):Operand->Value|.tmp i=>vs.getD i undef|_=>undef
theorem qH{vs:List Value}{n:Nat}(h:n=vs.length):(opsL n).map (HN vs)=vs:=by
 subst h
 refine bR (by simp[opsL]) λi h1 h2=>?_
 simp[opsL,HN,aV,h2]
theorem yc{c:Ctx}{w:World}:∀{ds:List D} {vs:List Value},j4 c w ds vs->∀i,Rep c w (ds.getD i .dead) (vs.getD i undef)
 |[],[],_,i=>by simp[aV];trivial
 |d::ds,v::vs,h,0=>by simpa using h.1.toRep
 |d::ds,v::vs,h,i+1=>by simpa using yc h.2 i
 |[],_::_,h,_=>h.elim
 |_::_,[],h,_=>h.elim
theorem Zbf{c:Ctx}{w:World}:∀{cs:List iq} {us:List Value},oy c w cs us->j4 c w (cs.map iq.d) us
 |[],[],_=>trivial
 |x::cs,u::us,h=>⟨VRep.DU (VL.1 h.1),Zbf h.2⟩
 |[],_::_,h=>h.elim
 |_::_,[],h=>h.elim
theorem MK{P:Program}{G:List ba}(hG:jr P G){N M f:Nat}{g:Operand}{ps:Array Tmp}{x b:Code}(mo:RF (some f) N (.rangeFunc g ps x b)){st:St}{Q:Ex->St->Prop}{T:e7}(h:HM T G M f g st Q):Tr P N M (.rangeFunc g ps x b) st Q:=by
 intro c0 w0 c w a hs
 obtain⟨y,⟨hy,hn,DZ,gu,h1⟩,he⟩:=mo
 unfold HM at h
 split at h
 rotate_left
 ·exact h.elim
 rename_i gf cs hg
 split at h
 rotate_left
 ·exact h.elim
 rename_i ys k Si ly
 obtain⟨R0,c,h,hs⟩:=FP h hs
 simp only[de]at h
 obtain⟨HO,h⟩:=h
 have HO:=lE HO
 rw[<-zad (ds:=.gk f ys::cs.map iq.d)]at h
 obtain⟨ks,val,R',X,h2,h3,h4,h5,h6⟩:=VN hG ly h
 obtain⟨dy,hf⟩:=FM hG h3
 rw[HE]at h2
 obtain⟨mO,hQ⟩:=h2
 have Sj:Rep c w (cj st.env g) (a.eval g):=ME hs.env g
 rw[hg]at Sj
 obtain⟨us,⟨_,Sj⟩|⟨V1,_⟩,By⟩:=Sj
 rotate_left
 ·exact absurd HO (Nat.not_lt.2 V1)
 refine wpIn_rangeFunc λfn _=>?_
 obtain⟨rec,mG⟩:∃rec:Loop,rec={state:=.ready,pending:=none,fn,tmps:=a.tmps,params:=ps,assign:=x,body:=b,defers:=w.heap.size}:=⟨_,rfl⟩
 obtain⟨wd,HP⟩:∃wd,wd=w.alloc (.deferred (some [])):=⟨_,rfl⟩
 obtain⟨w1,FU⟩:∃w1,w1=wd.alloc (.loop rec):=⟨_,rfl⟩
 have hsd:wd.heap.size=w.heap.size+1:=by rw[HP];simp
 have lr:w1.heap.size=w.heap.size+2:=by rw[FU];simp[hsd]
 have Sk:w1.heap[w.heap.size+1]?=some (.loop rec):=by rw[FU,<-hsd];exact World.alloc_heap_new wd _
 have hD1:w1.heap[w.heap.size]?=some (.deferred (some [])):=by
  rw[FU];refine(wV wd _ _ (by omega)).trans ?_;rw[HP];exact World.alloc_heap_new w _
 have FV:∀i,i<w.heap.size->w1.heap[i]?=w.heap[i]? :=λi hi=>by
  rw[FU];refine(wV wd _ _ (by omega)).trans ?_;rw[HP];exact wV w _ _ hi
 obtain⟨c1,Bz⟩:∃c1:Ctx,c1={c with I:=λi=>c.I i\/i=w.heap.size+1}:=⟨_,rfl⟩
 have uU:iW c w c1 w1:=by
  rw[Bz]
  exact⟨rfl,Nat.le_refl _,λi hi=>⟨.inl hi,FV i (hs.mem.ff i hi).1⟩,λr z hr=>⟨z,hr,rfl,rfl,rfl,rfl,rfl,Iff.rfl,λhV arr ha=>⟨arr,(FV _ (Array.getElem?_eq_some_iff.1 ha).1).trans ha,rfl⟩⟩⟩
 have HQ:∀r z,c.R r=some z->¬c.V r->c.ρ r<w.heap.size:=λr z hr hV=>by
  rcases hs.mem.row r z hr with h|⟨_,arr,h,_⟩
  ·exact(hV h.1).elim
  ·exact(Array.getElem?_eq_some_iff.1 h).1
 have HL:Mem c1 w1:=by
  have uU:=uU
  rw[Bz]at uU⊢
  refine⟨λr z hr=>sV uU rfl Iff.rfl (λnv=>FV _ (HQ r z hr nv)) (hs.mem.row r z hr),hs.mem.inj,λi hi=>?_,by have:=hs.mem.top;show c.top<=_;omega,hs.mem.jP.mono uU.I⟩
  rcases hi with hi|hi
  ·have:=(hs.mem.ff i hi).1;exact⟨by omega,(hs.mem.ff i hi).2⟩
  ·exact⟨by omega,λr z hr hV=>by have:=HQ r z hr hV;show c.ρ r≠i;omega⟩
 have HR:Rep c1 w1 (.gk f ys) (.func (.yield (w.heap.size+1)) #[] #[]):=by
  refine⟨y.ts.map λt=>a.tmps.getD t undef,.inr ⟨gu,w.heap.size+1,rec,rfl,by rw[Bz];exact .inr rfl,Sk,by rw[mG],by rw[mG],y,hy,?_⟩,?_⟩
  ·cases he
   rw[mG]
   exact⟨rfl,rfl,rfl,Nat.le_trans hn hs.size,h1,rfl⟩
  ·have:=V2 (c:=c1) (w:=w1) (ev:=cj st.env) (ρ:=a.eval) (xs:=y.ts.map Operand.tmp) (cs:=ys) (by rw[DZ,bY];exact Si) (λz hz=>wM uU (ME hs.env z))
   rw[bY]at this
   exact this
 have V3:j4 c1 w1 (cs.map iq.d) us:=V4 uU (Zbf By)
 have iJ:j4 c1 w1 (.gk f ys::cs.map iq.d) (.func (.yield (w.heap.size+1)) #[] #[]::us):=⟨HR,V3⟩
 have hlen:(D.gk f ys::cs.map iq.d).length=(Value.func (.yield (w.heap.size+1)) #[] #[]::us).length:=by simp[By.length]
 have lV:=(h6 c1 w1 (HN (.func (.yield (w.heap.size+1)) #[] #[]::us)) HL (by rw[Bz];have:=hs.base;show c.base<=_;omega) (by rw[Bz];exact hs.rows) (λz hz=>by
  simp only[opsL,List.mem_map,List.mem_range]at hz
  obtain⟨i,_,rfl⟩:=hz
  exact yc iJ i) (λv w'=>∃c',jE ks c1 w1 c' w'/\(∀r,c'.R r=R'.getD r none)) λv w' c' hn hR _=>⟨c',hn,hR⟩).1 HO
 rw[qH hlen]at lV
 refine⟨w.heap.size+1,[{target:=.collected w.heap.size,args:= #[]}],w1,{target:=.fn (.func gf) us.toArray,args:= #[.func (.yield (w.heap.size+1)) #[] #[]]},w1,gf,(Value.func (.yield (w.heap.size+1)) #[] #[]::us).toArray,w1,?_,?_,?_,?_,λe=>(by cases e),?_⟩
 ·rw[FU,HP,mG];exact run_enterLoop_outer _ _ _ _ _
 ·simp only[resolve,Sj]
  simp[go_sem]
 ·intro f' _;trivial
 ·simp only[invoke]
  rw[<-hf,dy.enters (by rw[hf];exact HO)]
  congr 2
  simp
 ·refine CallsIn.mono (callsIn_wide.2 lV) λe w3 ⟨v,he3,c3,FW,hR3⟩=>?_
  subst he3
  have HS:w3.heap[w.heap.size+1]?=some (.loop rec):=(FW.cy.I _ (by rw[Bz];exact .inr rfl)).2.trans Sk
  have Ea:=run_endLoop (P:=P) HS (by rw[mG];simp)
  have Dh:rec.pending=none:=by rw[mG]
  rw[Dh]at Ea
  refine⟨none,_,Ea,?_⟩
  have BA:Fr (λi=>∃r z,c.R r=some z/\¬c.V r/\c.ρ r=i) w w3:=by
   have Eb:=FW.fr
   rw[Bz]at Eb
   refine⟨?_,?_,?_,by have:=Eb.size;omega,λi hi HT=>(Eb.heap i (by omega) HT).trans (FV i hi)⟩
   ·have:=Eb.os;rw[FU,HP]at this;exact this
   ·have:=Eb.tape;rw[FU,HP]at this;exact this
   ·have:=Eb.output;rw[FU,HP]at this;exact this
  have hN:jE ks c w c3 w3:=by
   refine⟨FW.mem,?_,BA,λi hi=>?_,λr row hr hV=>?_⟩
   ·have g1:=FW.cy
    rw[Bz]at g1
    refine⟨g1.base,g1.top,λi hi=>⟨(g1.I i (.inl hi)).1,(g1.I i (.inl hi)).2.trans (FV i (hs.mem.ff i hi).1)⟩,λr row hr=>?_⟩
    obtain⟨ao,q1,q2,q3,q4,q5,q6,qV,q7⟩:=g1.R r row hr
    exact⟨ao,q1,q2,q3,q4,q5,q6,qV,λnv arr ha=>q7 nv arr ((FV _ (Array.getElem?_eq_some_iff.1 ha).1).trans ha)⟩
   ·have:=FW.ff i hi
    rw[Bz]at this
    rcases this with(g|g)|g|g
    ·exact .inl g
    ·exact .inr (.inr (by omega))
    ·exact .inr (.inl g)
    ·exact .inr (.inr (by omega))
   ·have:=FW.nU r row hr hV
    rw[Bz]at this
    rcases this with g|g|g
    ·exact .inl g
    ·exact .inr (.inl g)
    ·exact .inr (.inr (by omega))
  have tA:lK w0.heap.size w3 ({target:=.collected w.heap.size,args:= #[]}::a.defers):=by
   obtain⟨bs,b1,b2,b3⟩:=hs.defers.step hs.mem BA
   refine⟨w.heap.size::bs,List.nodup_cons.2 ⟨λhm=>?_,b1⟩,by rw[b2];rfl,λi hi=>?_⟩
   ·obtain⟨bs',c1',c2',c3'⟩:=hs.defers
    rw[c2']at b2
    have:bs'=bs:=by
     have:=congrArg (List.map λ(d:Deferred)=>match d.target with|.collected i=>i|_=>0) b2
     simpa[bY,Function.comp_def]using this
    subst this
    have:=(Array.getElem?_eq_some_iff.1 (c3' _ hm).2).1
    omega
   ·rcases List.mem_cons.1 hi with e|e
    ·subst e
     refine⟨hs.reach.fr.size,?_⟩
     have Eb:=FW.fr
     rw[Bz]at Eb
     exact(Eb.heap _ (by omega) fun⟨r,z,q1,q2,q3⟩=>by have:=HQ r z q1 q2;simp only at q3;omega).trans hD1
    ·exact b3 i e
  have hs3:fg N M c0 w0 c3 w3 ⟨rL ks st.env,R'⟩ {a with defers:={target:=.collected w.heap.size,args:= #[]}::a.defers}:=
   ⟨FW.mem,hR3,λt=>by rw[Br];exact wM hN.cy (VR (hs.env t)),hs.size,tA,hs.fw,hs.gp,hs.reach.step h5 hs.gp hN⟩
  refine⟨.normal,⟨rL ks st.env,R'⟩,_,rfl,hQ,hs3.ML (b:=w.heap.size+1) (o:=.loop rec) (by have:=hs.reach.fr.size;omega) HS (λ_ _ _ e=>by cases e) (Fk:=λk=>k<YB) (λk ws v hk hv=>?_) (λt k hk=>MM mO (List.mem_append_left _ (V5 hk))) (λr z hr k hk=>MM mO (List.mem_append_right _ (V6 (by rw[<-hR3];exact hr) hk))) ?_⟩
  ·rcases hv with hv|⟨hv,_⟩
   ·exact .inl hv
   ·exact absurd hk (Nat.not_lt.2 hv)
  ·refine tA.to λi hi=>(World.putObj_heap_other λe=>?_).trans hi
   rw[e,HS]at hi;cases hi
def AB (T:e7)(G:List ba)(N M:Nat)(fm:List (Nat×cg))(rf:Option Nat):Nat->Code->St->(Ex->St->Prop)->Prop
 |0,_,_,_=>False
 |d + 1,code,st,Q=>match code with
  |.rangeFunc g _ _ _=>match rf with|some f=>HM T G M f g st Q|none=>False
  |.loop c=>match FQ fm (keyOf c)with
   |some i=>∃(uT:i.α->Prop) (μ:i.α->Nat),uT (i.a0 st)/\fold M (i.ji st) st (i.F st (i.a0 st)).1 (i.F st (i.a0 st)).2/\∀a:i.α,uT a->oO T G N M (AB T G N M fm rf d) c ⟨(i.F st a).1,(i.F st a).2.map some⟩ λe jh=>match e with
    |.normal=>(uT (i.next jh)/\μ (i.next jh)<μ a)/\fold M (i.ex jh) jh (i.F st (i.next jh)).1 (i.F st (i.next jh)).2
    |.exit j=>Q (.exit j) jh
    |.ret=>Q .ret jh
   |none=>False
  |_=>False
abbrev LL(T:e7)(G:List ba)(N M:Nat)(fm:List (Nat×cg)):=AB T G N M fm none
theorem FX{P:Program}(hD:pk P){T:e7}(hT:jb P T){G:List ba}(hG:jr P G){N M:Nat}{fm:List (Nat×cg)}{rf:Option Nat}{ro:Option Nat}(Di:ro=none\/rf=none):∀(d:Nat) (code:Code) (st:St) (Q:Ex->St->Prop),RF rf N code->AB T G N M fm rf d code st Q->tF ro P N M code st Q
 |0,_,_,_,_,h=>h.elim
 |d + 1,code,st,Q,mo,h=>by
  unfold AB at h
  split at h
  ·split at h
   ·rename_i f
    rcases Di with e|e
    ·subst e;exact MK hG mo h
    ·cases e
   ·exact h.elim
  ·rename_i c
   split at h
   ·rename_i i hi
    obtain⟨uT,μ,h2,h3,h4⟩:=h
    have hc:RF rf N c:=by
     cases rf with
     |none=>trivial
     |some f=>exact mo
    refine qad (i.F st) uT μ (i.a0 st) (i.ji st) h2 h3 λa ha=>Tr.mono (λe jh hq=>?_) (MN hD hT hG (MO rf N) (FX hD hT hG Di d) c _ _ hc (h4 a ha))
    cases e with
    |normal=>exact⟨_,_,hq.1.1,hq.1.2,hq.2⟩
    |exit j=>exact hq
    |ret=>exact hq
   ·exact h.elim
  ·exact h.elim
def ay(R:Rows)(r j:Nat):D:=match R.getD r none with|some row=>(row.es.get 0).getD j .dead|none=>.dead
def mH(R:Rows)(r:Nat):ah:=match R.getD r none with|some row=>row.es|none=>.gen []
def Q3(R:Rows)(r:Nat):List Int:=match R.getD r none with|some ⟨_,_,_,.ints _ l⟩=>l|_=>[]
def Zd3(R:Rows)(r:Nat):List Bool:=match R.getD r none with|some ⟨_,_,_,.ag l⟩=>l|_=>[]
def rm(k:RK)(R:Rows)(r:Nat):List (RK.T k):=match R.getD r none with|some ⟨_,_,_,.ai k' l⟩=>(match FH k' k l with|some m=>m|none=>[])|_=>[]
def jm(d:D)(n:Nat):Nat:=match d with|.all r=>r|.own r _ _=>r|.ptr r _ _=>r|.pa r _ _ _ _ _=>r|_=>n
theorem HU{n:Int}(h1: -9223372036854775808<=n)(h2:n<=9223372036854775807):IntKind.wrap .i64 n=n:=by rw[IntKind.wrap_i64];omega
inductive mw where
 |sl (t:CT) (fr:Bool)
 |row (ty sz:Nat) (t:CT)
def FY:CT->ah
 |.ints k=>.ints k []
 |.ag=>.ag []
 |.ai k=>.ai k []
 |_=>.gen []
def CT.iC:CT->Nat
 |.ai k=>k.size
 |_=>1
def toCT:CT->ah->Option ah
 |.ints k,E=>match E.toI k with|some l=>some (.ints k l)|none=>none
 |.ag,E=>match E.toB with|some l=>some (.ag l)|none=>none
 |.ai k,E=>match E.toR k with|some l=>some (.ai k l)|none=>none
 |_,_=>none
theorem V7(t:CT):(FY t).Nil:=by cases t<;>rfl
theorem MP{t:CT}{E E':ah}(h:toCT t E=some E'):ah.Eq E E':=by
 cases t with
 |ints k=>
  simp only[toCT]at h
  split at h
  ·rename_i l hl
   cases h
   cases E with
   |ints k' m=>
    simp only[ah.toI]at hl
    split at hl
    ·rename_i hk;cases hl;simp only[ah.Eq,hk]
    ·cases hl
   |gen es=>cases es<;>simp[ah.toI]at hl;subst hl;rfl
   |ag m=>simp[ah.toI]at hl
   |ai k m=>simp[ah.toI]at hl
  ·cases h
 |ag=>
  simp only[toCT]at h
  split at h
  ·rename_i l hl
   cases h
   cases E with
   |ag m=>simp[ah.toB]at hl;subst hl;rfl
   |gen es=>cases es<;>simp[ah.toB]at hl;subst hl;rfl
   |ints k m=>simp[ah.toB]at hl
   |ai k m=>simp[ah.toB]at hl
  ·cases h
 |ai k=>
  simp only[toCT]at h
  split at h
  ·rename_i l hl
   cases h
   cases E with
   |ai k' m=>simp only[ah.toR]at hl;simp only[ah.Eq,hl]
   |gen es=>cases es<;>simp[ah.toR]at hl;subst hl;rfl
   |ints k m=>simp[ah.toR]at hl
   |ag m=>simp[ah.toR]at hl
  ·cases h
 |_=>simp[toCT]at h
structure jF where
 ds:List mw
 ex:List (Nat×Row)
 fz:List Nat
def uV(m:Nat):List (Nat×Nat×Nat)->Bool
 |[]=>true
 |p::l=>bN p.1 m&&uV m l
def Zm(m:Nat):List iq->Bool
 |[]=>true
 |.ptr r _ _::l=>bN r m&&Zm m l
 |.fn _ ps::l=>uV m ps&&Zm m l
 |_=>false
theorem vc{m:Nat}{EX:List Nat}(hE:∀i,i<m->EX[i]?=some i):∀{ps:List (Nat×Nat×Nat)},uV m ps=true->r8 EX ps ps=true
 |[],_=>rfl
 |(r,a,b)::l,h=>by
  simp only[uV,aE]at h
  simp only[r8,jW,hE r (lE h.1),vc hE h.2]
  simp
theorem xad{m:Nat}{EX:List Nat}(hE:∀i,i<m->EX[i]?=some i):∀{cs:List iq},Zm m cs=true->oP EX cs cs=true:=by
 intro cs
 induction cs with
 |nil=>intro _;rfl
 |cons x l ih=>
  intro h
  cases x with
  |ptr r a b=>
   simp only[Zm,aE]at h
   simp only[oP,jW,hE r (lE h.1),ih h.2]
   simp
  |fn f ps=>
   simp only[Zm,aE]at h
   simp only[oP,vc hE h.1,ih h.2]
   simp
  |_=>simp[Zm]at h
def Sl(m:Nat)(R:Rows)(c:D)(s:jF):Option (D×jF):=
  match c with
  | .int k n=>some (.int k n,s)
  | .bool b=>some (.bool b,s)
  | .str x=>some (.str x,s)
  | .iB=>some (.iB,s)
  | .jC=>some (.jC,s)
  | .gd r=>match bN r m with|true=>some (.gd r,s)|false=>none
  | .ptr r o f=>match bN r m with|true=>some (.ptr r o f,s)|false=>none
  | .gk f cs=>match Zm m cs with|true=>some (.gk f cs,s)|false=>none
  | .c8=>match s with
    |⟨.sl t f::ds,ex,fz⟩=>some (.sl t.iC (FY t) f,⟨ds,ex,fz⟩)
    |⟨.row ty sz t::ds,ex,fz⟩=>match bN 0 sz with|true=>some (.all (m+ex.length),⟨ds,ex++[(R.length+ex.length,⟨false,ty,sz,FY t⟩)],fz⟩)|false=>none
    |_=>none
  | .emp=>match s with
    |⟨.sl t f::ds,ex,fz⟩=>some (.sl t.iC (FY t) f,⟨ds,ex,fz⟩)
    |⟨.row ty sz t::ds,ex,fz⟩=>match bN 0 sz with|true=>some (.all (m+ex.length),⟨ds,ex++[(R.length+ex.length,⟨false,ty,sz,FY t⟩)],fz⟩)|false=>none
    |_=>none
  | .sl n E fr=>match s with
    | ⟨.sl t f::ds,ex,fz⟩=>match toCT t E,(!f||fr)&&(bX n t.iC||HV E) with
      |some E',true=>some (.sl t.iC E' f,⟨ds,ex,fz⟩)
      |_,_=>none
    |_=>none
  | .all r=>match s with
    | ⟨.sl t f::ds,ex,fz⟩=>match R.getD r none with
      | some ⟨box,_,jV,E⟩=>match toCT t E,!box&&(bX jV t.iC&&Nat.ble m r) with
        |some E',true=>some (.sl t.iC E' f,⟨ds,ex,r::fz⟩)
        |_,_=>none
      |none=>none
    | ⟨.row ty sz t::ds,ex,fz⟩=>match bN r m with
      |true=>some (.all r,⟨ds,ex,fz⟩)
      | false=>match R.getD r none with
        | some ⟨box,jM,jV,E⟩=>match toCT t E,!box&&(bX jM ty&&bX jV sz) with
          |some E',true=>some (.all (m+ex.length),⟨ds,ex++[(r,⟨false,ty,sz,E'⟩)],fz⟩)
          |_,_=>none
        |none=>none
    |_=>none
  | .own r o n=>match s with
    | ⟨.sl t f::ds,ex,fz⟩=>match R.getD r none with
      | some ⟨box,_,jV,E⟩=>match toCT t ((E.drop o).take n),!box&&(bX jV t.iC&&Nat.ble m r) with
        |some E',true=>some (.sl t.iC E' f,⟨ds,ex,r::fz⟩)
        |_,_=>none
      |none=>none
    |_=>none
  |_=>none
def J1(m:Nat)(R:Rows):List D->jF->Option (List D×jF)
 |[],s=>some ([],s)
 |c ::cs,s=>match Sl m R c s with
  |some (c',s')=>match J1 m R cs s' with
   |some (rp,HW)=>some (c'::rp,HW)
   |none=>none
  |none=>none
def Ec(m:Nat)(R:Rows)(d:D)(s:jF):Option (D×jF):=
 match d with
 |.agg cs=>match J1 m R cs s with|some (rp,s')=>some (.agg rp,s')|none=>none
 |d=>Sl m R d s
def r9(m:Nat)(R:Rows):List D->jF->Option (List D×jF)
 |[],s=>some ([],s)
 |c ::cs,s=>match Ec m R c s with
  |some (c',s')=>match r9 m R cs s' with
   |some (rp,HW)=>some (c'::rp,HW)
   |none=>none
  |none=>none
def HX(m:Nat)(R:Rows)(d:D)(s:jF):Option (D×jF):=
 match d with
 |.dw ds=>match r9 m R ds s with|some (nV,s')=>some (.dw nV,s')|none=>none
 |d=>Ec m R d s
def J2(m:Nat)(R:Rows):Nat->Nat->jF->Option (List Row×jF)
 |0,_,s=>some ([],s)
 |n + 1,i,s=>match R.getD i none with
  |some ⟨true,ty,sz,.gen [e]⟩=>match J1 m R e s with
   |some (e',s')=>match J2 m R n (i+1) s' with
    |some (rs,HW)=>some (⟨true,ty,sz,.gen [e']⟩::rs,HW)
    |none=>none
   |none=>none
  |some ⟨false,ty,sz,E⟩=>match J2 m R n (i+1) s with
   |some (rs,HW)=>some (⟨false,ty,sz,E⟩::rs,HW)
   |none=>none
  |_=>none
def Ed(m:Nat)(ex:List (Nat×Row)):List Nat:=List.range m++ex.map (·.1)
def nL(m:Nat)(ds:List mw)(d:D)(R:Rows)(K:D->List Row->Prop):Prop:=
 match HX m R d ⟨ds,[],[]⟩with
 |some (d',s)=>match J2 m R m 0 s with
  |some (rs,s')=>cu (r7 m (Ed m s'.ex)&&s'.fz.all (J3 (Ed m s'.ex))) (K d' (rs++s'.ex.map (·.2)))
  |none=>False
 |none=>False
def sc(R:Rows)(x:Nat×Row):Prop:=
 x.2.box=false/\match R.getD x.1 none with
 |some ⟨wW,jM,jV,iQ⟩=>wW=false/\jM=x.2.ty/\jV=x.2.sz/\ah.Eq iQ x.2.es
 |none=>0<x.2.sz/\x.2.es.Nil
structure nW(m:Nat)(R:Rows)(EX:List Nat)(s:jF):Prop where
 at_:∀(i:Nat) x,s.ex[i]?=some x->EX[m+i]?=some x.1
 gz:∀x∈s.ex,sc R x
 out:∀r∈s.fz,J3 EX r=true
def wX(s s':jF):Prop:=s.ex<+:s'.ex/\s.fz<:+s'.fz
theorem wX.refl(s:jF):wX s s:=⟨bZ _,cA _⟩
theorem wX.trans{a b c:jF}(h:wX a b)(g:wX b c):wX a c:=⟨h.1.trans g.1,h.2.trans g.2⟩
theorem qd{E:ah}(h:HV E=true):E.Nil:=ah.nX.2 (R4 h)
theorem Zk3{m:Nat}{R:Rows}{c c':D}{s s':jF}(h:Sl m R c s=some (c',s')):
    wX s s'/\((∀x∈s.ex,sc R x)-> ∀x∈s'.ex,sc R x)/\ ∀EX:List Nat,(∀i,i<m->EX[i]? =some i)->nW m R EX s'->iF EX m R c c':=by
  have MQ: ∀{ty sz t},bN 0 sz=true->((∀x∈s.ex,sc R x)-> ∀x∈s.ex++[(R.length+s.ex.length,(⟨false,ty,sz,FY t⟩:Row))],sc R x)/\
      ∀(EX:List Nat) (ds:List mw) (fz:List Nat),nW m R EX ⟨ds,s.ex++[(R.length+s.ex.length,(⟨false,ty,sz,FY t⟩:Row))],fz⟩->HY EX R (m+s.ex.length)=true:=by
    intro ty sz t fq
    have hn:R.getD (R.length+s.ex.length) none=none:=by rw[aV,List.getElem?_eq_none (by omega)];rfl
    refine⟨λhg x hx=> ?_,λEX ds fz hG=> ?_⟩
    . simp only[cB,cC]at hx
      rcases hx with hx|rfl
      . exact hg x hx
      . refine⟨rfl,?_⟩
        simp only[hn]
        exact⟨lE fq,V7 t⟩
    . have:=hG.at_ s.ex.length (R.length+s.ex.length,⟨false,ty,sz,FY t⟩) (by simp)
      simp only[HY,this,hn]
  cases c<;>simp only[Sl]at h<;>try(cases h;done)
  case int k n=>cases h;exact⟨.refl _,id,λEX _ _=>by simp [iF,cu]⟩
  case bool b=>cases h;exact⟨.refl _,id,λEX _ _=>by simp [iF]⟩
  case str x=>cases h;exact⟨.refl _,id,λEX _ _=>by simp [iF]⟩
  case iB=>cases h;exact⟨.refl _,id,λEX _ _=>by simp [iF]⟩
  case jC=>cases h;exact⟨.refl _,id,λEX _ _=>by simp [iF]⟩
  case gd r=>
    split at h
    . rename_i hr
      cases h
      refine⟨.refl _,id,λEX hE _=> ?_⟩
      have:=hE r (lE hr)
      simp only[iF,de,jW,this]
      exact⟨by simp,trivial⟩
    . cases h
  case ptr r o f=>
    split at h
    . rename_i hr
      cases h
      refine⟨.refl _,id,λEX hE _=> ?_⟩
      have:=hE r (lE hr)
      simp only[iF,de,jW,this]
      exact⟨by simp,trivial⟩
    . cases h
  case gk f cs=>
    split at h
    . rename_i hr
      cases h
      refine⟨.refl _,id,λEX hE _=> ?_⟩
      simp only[iF,de,xad hE hr]
      exact⟨by simp,trivial⟩
    . cases h
  case c8=>
    split at h
    . cases h;exact⟨.refl _,id,λEX _ _=>V7 _⟩
    . split at h
      . rename_i fq
        cases h
        obtain⟨v1,v2⟩:=MQ fq
        exact⟨⟨cD _ _,cA _⟩,v1,λEX _ hG=>by simp only[iF,de];exact⟨v2 EX _ _ hG,trivial⟩⟩
      . cases h
    . cases h
  case emp=>
    split at h
    . cases h;exact⟨.refl _,id,λEX _ _=>V7 _⟩
    . split at h
      . rename_i fq
        cases h
        obtain⟨v1,v2⟩:=MQ fq
        exact⟨⟨cD _ _,cA _⟩,v1,λEX _ hG=>by simp only[iF,de];exact⟨v2 EX _ _ hG,trivial⟩⟩
      . cases h
    . cases h
  case sl n E fr=>
    split at h
    . rename_i t f ds ex fz
      split at h
      . rename_i E' hE hb
        cases h
        simp only[aE,Bool.or_eq_true]at hb
        refine⟨.refl _,id,λEX _ _=> ?_⟩
        simp only[iF,de]
        exact⟨by simpa using hb.1,hb.2.symm.imp qd bE,MP hE⟩
      . cases h
    . cases h
  case all r =>
    split at h
    . rename_i t f ds ex fz
      split at h
      . rename_i box ty jV E hR
        split at h
        . rename_i E' hE hb
          cases h
          simp only[aE]at hb
          refine⟨⟨bZ _,cE _ _⟩,id,λEX _ hG=> ?_⟩
          simp only[iF,hR,de,aE]
          exact⟨⟨⟨⟨hb.1,hb.2.1⟩,hG.out r (by simp)⟩,hb.2.2⟩,MP hE⟩
        . cases h
      . cases h
    . rename_i ty sz t ds ex fz
      split at h
      . rename_i bg
        cases h
        refine⟨.refl _,id,λEX pC hG=> ?_⟩
        simp only[iF,de]
        have:=pC r (lE bg)
        exact⟨by simp [jW,this],trivial⟩
      . split at h
        . rename_i box jM jV E hR
          split at h
          . rename_i E' hE hb
            cases h
            simp only[aE,Bool.not_eq_true']at hb
            refine⟨⟨cD _ _,cA _⟩,λhg x hx=> ?_,λEX pC hG=> ?_⟩
            . simp only[cB,cC]at hx
              rcases hx with hx|rfl
              . exact hg x hx
              . refine⟨rfl,?_⟩
                simp only[hR]
                exact⟨hb.1,bE hb.2.1,bE hb.2.2,MP hE⟩
            . have:=hG.at_ ex.length (r,⟨false,ty,sz,E'⟩) (by simp)
              simp only[iF,de]
              exact⟨by simp [jW,this],trivial⟩
          . cases h
        . cases h
    . cases h
  case own r o n=>
    split at h
    . rename_i t f ds ex fz
      split at h
      . rename_i box ty jV E hR
        split at h
        . rename_i E' hE hb
          cases h
          simp only[aE]at hb
          refine⟨⟨bZ _,cE _ _⟩,id,λEX _ hG=> ?_⟩
          simp only[iF,hR,de,aE]
          exact⟨⟨⟨⟨hb.1,hb.2.1⟩,hG.out r (by simp)⟩,hb.2.2⟩,MP hE⟩
        . cases h
      . cases h
    . cases h
theorem nW.mono{m:Nat}{R:Rows}{EX:List Nat}{s s':jF}(hl:wX s s')(h:nW m R EX s'):nW m R EX s:=
 ⟨λi x hx=>h.at_ i x (by
  obtain⟨t,ht⟩:=hl.1
  rw[<-ht,bI (List.getElem?_eq_some_iff.1 hx).1];exact hx),λx hx=>h.gz x (hl.1.subset hx),λr hr=>h.out r (hl.2.subset hr)⟩
theorem V8{m:Nat}{R:Rows}:∀{cs rp:List D} {s s':jF},J1 m R cs s=some (rp,s')->
 wX s s'/\((∀x∈s.ex,sc R x)->∀x∈s'.ex,sc R x)/\∀EX:List Nat,(∀i,i<m->EX[i]?=some i)->nW m R EX s'->Dj EX m R cs rp
 |[],rp,s,s',h=>by simp only[J1]at h;cases h;exact⟨.refl _,id,λ_ _ _=>trivial⟩
 |c ::cs,rp,s,s',h=>by
  simp only[J1]at h
  split at h
  ·rename_i c1 s1 h1
   split at h
   ·rename_i cs1 s2 h2
    cases h
    obtain⟨a1,a2,a3⟩:=Zk3 h1
    obtain⟨b1,b2,b3⟩:=V8 h2
    exact⟨a1.trans b1,λh=>b2 (a2 h),λEX pC hG=>⟨a3 EX pC (hG.mono b1),b3 EX pC hG⟩⟩
   ·cases h
  ·cases h
theorem xd{m:Nat}{R:Rows}{d d':D}{s s':jF}(h:Ec m R d s=some (d',s')):
 wX s s'/\((∀x∈s.ex,sc R x)->∀x∈s'.ex,sc R x)/\∀EX:List Nat,(∀i,i<m->EX[i]?=some i)->nW m R EX s'->oQ EX m R d d':=by
 unfold Ec at h
 split at h
 ·rename_i cs
  split at h
  ·rename_i rp s1 h1
   cases h
   exact V8 h1
  ·cases h
 ·rename_i gm
  obtain⟨a1,a2,a3⟩:=Zk3 h
  refine⟨a1,a2,λEX pC hG=>?_⟩
  have h3:=a3 EX pC hG
  cases d' with
  |agg ps=>simp[iF]at h3
  |_=>exact h3
theorem Zo9{m:Nat}{R:Rows}:∀{cs rp:List D} {s s':jF},r9 m R cs s=some (rp,s')->
 wX s s'/\((∀x∈s.ex,sc R x)->∀x∈s'.ex,sc R x)/\∀EX:List Nat,(∀i,i<m->EX[i]?=some i)->nW m R EX s'->uW EX m R cs rp
 |[],rp,s,s',h=>by simp only[r9]at h;cases h;exact⟨.refl _,id,λ_ _ _=>trivial⟩
 |c ::cs,rp,s,s',h=>by
  simp only[r9]at h
  split at h
  ·rename_i c1 s1 h1
   split at h
   ·rename_i cs1 s2 h2
    cases h
    obtain⟨a1,a2,a3⟩:=xd h1
    obtain⟨b1,b2,b3⟩:=Zo9 h2
    exact⟨a1.trans b1,λh=>b2 (a2 h),λEX pC hG=>⟨a3 EX pC (hG.mono b1),b3 EX pC hG⟩⟩
   ·cases h
  ·cases h
theorem qae{m:Nat}{R:Rows}{d d':D}{s s':jF}(h:HX m R d s=some (d',s')):
 wX s s'/\((∀x∈s.ex,sc R x)->∀x∈s'.ex,sc R x)/\∀EX:List Nat,(∀i,i<m->EX[i]?=some i)->nW m R EX s'->r6 EX m R d d':=by
 unfold HX at h
 split at h
 ·rename_i cs
  split at h
  ·rename_i rp s1 h1
   cases h
   exact Zo9 h1
  ·cases h
 ·rename_i gm
  obtain⟨a1,a2,a3⟩:=xd h
  refine⟨a1,a2,λEX pC hG=>?_⟩
  have h3:=a3 EX pC hG
  cases d' with
  |dw ps=>simp[oQ,iF]at h3
  |_=>exact h3
theorem V9{m:Nat}{R:Rows}:∀{n i:Nat} {rs:List Row} {s s':jF},J2 m R n i s=some (rs,s')->
 wX s s'/\((∀x∈s.ex,sc R x)->∀x∈s'.ex,sc R x)/\∀EX:List Nat,(∀i,i<m->EX[i]?=some i)->nW m R EX s'->lB EX m R (bO i n) rs
 |0,i,rs,s,s',h=>by simp only[J2]at h;cases h;exact⟨.refl _,id,λ_ _ _=>trivial⟩
 |n + 1,i,rs,s,s',h=>by
  simp only[J2]at h
  split at h
  ·rename_i ty sz e hR
   split at h
   ·rename_i e1 s1 h1
    split at h
    ·rename_i rs1 s2 h2
     cases h
     obtain⟨a1,a2,a3⟩:=V8 h1
     obtain⟨b1,b2,b3⟩:=V9 h2
     refine⟨a1.trans b1,λh=>b2 (a2 h),λEX pC hG=>?_⟩
     rw[cF]
     simp only[lB,hR,de]
     exact⟨⟨by simp,a3 EX pC (hG.mono b1)⟩,b3 EX pC hG⟩
    ·cases h
   ·cases h
  ·rename_i ty sz E hR
   split at h
   ·rename_i rs1 s2 h2
    cases h
    obtain⟨b1,b2,b3⟩:=V9 h2
    refine⟨b1,b2,λEX pC hG=>?_⟩
    rw[cF]
    simp only[lB,hR,de]
    refine⟨⟨by simp,?_⟩,b3 EX pC hG⟩
    cases E with
    |gen es=>cases es<;>simp[ah.Eq]
    |ai k l=>simp[ah.Eq,VH]
    |_=>simp[ah.Eq]
   ·cases h
  ·cases h
theorem Quj{ex:List Nat}{m:Nat}{R:Rows}:∀{l1 l2:List Nat} {p1 p2:List Row},lB ex m R l1 p1->lB ex m R l2 p2->lB ex m R (l1++l2) (p1++p2)
 |[],l2,[],p2,_,h=>h
 |r::l1,l2,p::p1,p2,h1,h2=>by
  simp only[List.cons_append,lB]at h1⊢
  exact⟨h1.1,Quj h1.2 h2⟩
 |[],_,_::_,_,h,_=>h.elim
 |_::_,_,[],_,h,_=>h.elim
theorem Zbo{ex:List Nat}{m:Nat}{R:Rows}:∀{l:List (Nat×Row)},(∀x∈l,sc R x)->lB ex m R (l.map (·.1)) (l.map (·.2))
 |[],_=>trivial
 |(r,⟨box,ty,sz,es⟩)::l,h=>by
  simp only[List.map_cons,lB]
  refine⟨?_,Zbo λx hx=>h x (by simp[hx])⟩
  obtain⟨h1,h2⟩:=h (r,⟨box,ty,sz,es⟩) (by simp)
  simp only at h1 h2
  subst h1
  split
  ·rename_i wW jM jV iQ hR
   simp only[hR]at h2
   obtain⟨rfl,rfl,rfl,h2⟩:=h2
   simp only[de]
   exact⟨by simp,h2⟩
  ·rename_i hR
   simp only[hR]at h2
   simp only[de]
   exact⟨by simpa using h2.1,h2.2⟩
theorem Zan{m:Nat}{ds:List mw}{d:D}{R:Rows}{K:D->List Row->Prop}(h:nL m ds d R K):∃res rows,K res rows/\wY m res rows d R:=by
 unfold nL at h
 split at h
 ·rename_i d' s h1
  split at h
  ·rename_i rs s' h2
   simp only[de,aE]at h
   obtain⟨⟨hx,hf⟩,hK⟩:=h
   obtain⟨a1,a2,a3⟩:=qae h1
   obtain⟨b1,b2,b3⟩:=V9 h2
   have FZ:∀x∈s'.ex,sc R x:=b2 (a2 λx hx=>by simp at hx)
   have pC:∀i,i<m->(Ed m s'.ex)[i]?=some i:=λi hi=>by
    unfold Ed
    rw[bI (by simpa using hi)];simp[hi]
   have hG:nW m R (Ed m s'.ex) s':=⟨λi x hx=>by
    unfold Ed
    rw[List.getElem?_append_right (by simp)]
    simp[hx],FZ,λr hr=>List.all_eq_true.1 hf r hr⟩
   refine⟨d',_,hK,Ed m s'.ex,hx,a3 _ pC (hG.mono b1),?_⟩
   have h3:=b3 _ pC hG
   have:Ed m s'.ex=bO 0 m++s'.ex.map (·.1):=by unfold Ed;rw[List.range_eq_range']
   refine Eq.mpr ?_ (Quj h3 (Zbo FZ))
   rw[<-this]
  ·exact h.elim
 ·exact h.elim

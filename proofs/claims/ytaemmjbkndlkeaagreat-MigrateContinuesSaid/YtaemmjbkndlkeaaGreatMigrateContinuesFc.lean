import Derived.Test.YtaemmjbkndlkeaaGreatMigrateContinuesDraw
import Derived.IntWalk
open List renaming getD->aV,ext_getElem->bR,map_map->bY,prefix_refl->bZ,suffix_refl->cA,mem_append->cB,mem_singleton->cC,prefix_append->cD,suffix_cons->cE,getElem?_append_left->bI,range'->bO,range'_succ->cF
open Nat renaming beq->bX,blt->bN
set_option linter.all false
namespace Go.GD
open Go
variable {E:ai}{EX ex:List Nat}{M N m:Nat}{P:Program}{Q:Ex->St->Prop}{R:Rows}{c:Ctx}{code:Code}{d d':D}{ro:Option Nat}{st:St}{w:World}
def r5(ex:List Nat)(M:Nat)(R:Rows)(d p:D):Prop:=
 match p with
 |.dead=>True
 |.ptr i o f=>match d with|.ptr r o' f'=>cu (jY ex i r) (o'=o/\f'=f)|_=>False
 |.im sz es i off=>match d with|.im jX iQ i' iF=>jX=sz/\ai.Eq iQ es/\i'=i/\iF=off|_=>False
 |p=>r6 ex M R d p
def Bw(ex:List Nat)(M:Nat)(R:Rows)(env:List (Nat×D)):List (Nat×D)->Prop
 |[]=>True
 |(t,p)::l=>r5 ex M R (look env t) p/\Bw ex M R env l
def fold(M:Nat)(ex:List Nat)(st:St)(lV:List (Nat×D))(aj:List Row):Prop:=
 cu (r7 M ex) (Bw ex M st.rows st.env lV/\lG ex M st.rows ex aj)
theorem xc{rows:List Row}(hm:Mem c w)(hR:∀r,c.R r=R.getD r none)(db:lG ex m R ex rows)(e6:∀r row,c.R r=some row->¬c.V r->m<=r->c.base<=c.ρ r){d p:D}{v:Value}(h:r5 ex m R d p)(hr:Rep c w d v):Rep (c.out ex rows) w p v:=by
 have nn:∀b,c.I b->(c.out ex rows).I b/\w.heap[b]?=w.heap[b]? :=λb hb=>⟨.inl hb,rfl⟩
 cases p with
 |dead=>trivial
 |ptr i o f=>
  simp only[r5]at h
  split at h
  ·rename_i r o' f'
   simp only[dd]at h
   obtain⟨hx,rfl,rfl⟩:=h
   exact Si (w:=w) hR db hx hr
  ·exact h.elim
 |im sz es i off=>
  simp only[r5]at h
  split at h
  ·obtain⟨rfl,he,rfl,rfl⟩:=h
   have he:=ai.wT he
   obtain⟨b,o,arr,ty,fz,h1,h2,h3,h4,h5⟩:=hr
   rw[he]at h3 h5
   exact⟨b,o,arr,ty,fz,h1,.inl h2,h3,h4,ng nn _ _ _ _ h5⟩
  ·exact h.elim
 |_=>
  simp only[r5]at h
  exact Sj hm hR db e6 h hr
theorem Zk5{c:Ctx}{w:World}{ex:List Nat}{m:Nat}{R:Rows}{rows:List Row}(hm:Mem c w)(hR:∀r,c.R r=R.getD r none)(db:lG ex m R ex rows)(e6:∀r row,c.R r=some row->¬c.V r->m<=r->c.base<=c.ρ r){env:List (Nat×D)}{a:Act}(he:∀t,Rep c w (look env t) (a.tmps.getD t undef)):
 ∀{lV:List (Nat×D)},Bw ex m R env lV->∀t,Rep (c.out ex rows) w (look lV t) (a.tmps.getD t undef)
 |[],_,t=>trivial
 |(u,p)::l,h,t=>by
  have:=Zk5 hm hR db e6 he h.2 t
  rw[Ax]
  split
  ·rename_i e
   subst e
   exact xc hm hR db e6 h.1 (he u)
  ·exact this
theorem zc{c0:Ctx}{w0:World}{a:Act}(hs:ff N M c0 w0 c w st a){lV:List (Nat×D)}{aj:List Row}(h:fold M ex st lV aj):∃c',ff N M c0 w0 c' w ⟨lV,aj.map some⟩ a:=by
 unfold fold at h
 simp only[dd]at h
 obtain⟨hex,hE,db⟩:=h
 obtain⟨e6,iZ,ft⟩:=Sk hs hex db
 refine⟨c.out ex aj,iZ,λr=>?_,Zk5 hs.mem hs.rows db e6 hs.env hE,hs.size,hs.defers,hs.fv,hs.gp,ft⟩
 simp only[Ctx.out,aV,List.getElem?_map]
 cases aj[r]? <;>rfl
theorem Tr.mono{Q Q':Ex->St->Prop}(hq:∀e st,Q e st->Q' e st)(h:tG ro P N M code st Q):tG ro P N M code st Q':=
 λc0 w0 c w a hs=>wpIn_mono (h c0 w0 c w a hs) λe a' w' ⟨ex,ji,c',h1,h2,h3⟩=>⟨ex,ji,c',h1,hq _ _ h2,h3⟩
theorem xad{α:Type}(F:α->List (Nat×D)×List Row)(uV:α->Prop)(μ:α->Nat)
 (a0:α) (jf:List Nat) (hp:uV a0) (h0:fold M jf st (F a0).1 (F a0).2)
 (round:∀a,uV a->tG ro P N M code ⟨(F a).1,(F a).2.map some⟩ λe ji=>match e with
  |.normal=>∃b ex,uV b/\μ b<μ a/\fold M ex ji (F b).1 (F b).2
  |.exit i=>Q (.exit i) ji
  |.ret=>Q .ret ji):tG ro P N M (.loop code) st Q:=by
 intro c0 w0 c w a hs
 have key:∀(n:Nat) (x:α),uV x->μ x<n->∀(c:Ctx) (w:World) (a:Act),ff N M c0 w0 c w ⟨(F x).1,(F x).2.map some⟩ a->
  Code.roundsIn (AA ro) 0 P code (λe a' w'=>∃ex ji c',mG e=some ex/\Q ex ji/\ff N M c0 w0 c' w' ji a') n a w:=by
  intro n
  induction n with
  |zero=>intro x _ h;omega
  |succ n ih=>
   intro x hx bg c w a hs
   rw[roundsIn_succ]
   refine wpIn_mono (round x hx c0 w0 c w a hs) λe a' w' hq=>?_
   obtain⟨ex,ji,c',he,hq,iP⟩:=hq
   cases e<;>simp only[mG,Option.some.injEq,reduceCtorEq]at he
   ·subst he
    obtain⟨b,ex,h1,h2,h3⟩:=hq
    obtain⟨Sl,Wa⟩:=zc iP h3
    exact ih b h1 (by omega) Sl w' a' Wa
   ·subst he;exact⟨_,ji,c',rfl,hq,iP⟩
   ·subst he;exact⟨_,ji,c',rfl,hq,iP⟩
 obtain⟨c',iP⟩:=zc hs h0
 exact wpIn_loop_rounds _ (key (μ a0+1) a0 hp (by omega) c' w a iP)
structure cg where
 α:Type
 F:St->α->List (Nat×D)×List Row
 a0:St->α
 jf:St->List Nat
 next:St->α:=a0
 ex:St->List Nat:=jf
structure Ask(p:Prop):Prop where
 ok:p
def keyOf:Code->Nat
 |.region id _ _=>id
 |.block id _=>id
 |.seq a _=>keyOf a
 |.loop a=>keyOf a
 |_=>0
def FP:List (Nat×cg)->Nat->Option cg
 |[],_=>none
 |(k,i)::l,n=>match bX k n with|true=>some i|false=>FP l n
def HN(T:iu)(G:List bc)(M f:Nat)(g:Operand)(st:St)(Q:Ex->St->Prop):Prop:=
 match cq st.env g with
 |.gj gf cs=>match J1 ((Wb f).map (look st.env)),Qc G gf with
  |some ys,some k=>HL T ys st.env st.rows λR=>cu (bN gf YB)<|HE G M gf k (.gj f ys::cs.map iy.d) R λks _ R=>FQ ks st.env λenv=>cu (pS (wU env++FR R)) (Q .normal ⟨env,R⟩)
  |_,_=>False
 |_=>False
def evL(ds:List D):Operand->D|.tmp i=>ds.getD i .dead|_=>.dead
def opsL(n:Nat):List Operand:=(List.range n).map Operand.tmp
theorem qae{ds:List D}:(opsL ds.length).map (evL ds)=ds:=by
 refine bR (by simp[opsL]) λi h1 h2=>?_
 simp[opsL,evL,aV,h2]
def HO(vs:List Value):Operand->Value|.tmp i=>vs.getD i undef|_=>undef
theorem qH{vs:List Value}{n:Nat}(h:n=vs.length):(opsL n).map (HO vs)=vs:=by
 subst h
 refine bR (by simp[opsL]) λi h1 h2=>?_
 simp[opsL,HO,aV,h2]
theorem yc{c:Ctx}{w:World}:∀{ds:List D} {vs:List Value},j5 c w ds vs->∀i,Rep c w (ds.getD i .dead) (vs.getD i undef)
 |[],[],_,i=>by simp[aV];trivial
 |d::ds,v::vs,h,0=>by simpa using h.1.toRep
 |d::ds,v::vs,h,i+1=>by simpa using yc h.2 i
 |[],_::_,h,_=>h.elim
 |_::_,[],h,_=>h.elim
theorem Zaw{c:Ctx}{w:World}:∀{cs:List iy} {us:List Value},oy c w cs us->j5 c w (cs.map iy.d) us
 |[],[],_=>trivial
 |x::cs,u::us,h=>⟨VRep.DT (VW.1 h.1),Zaw h.2⟩
 |[],_::_,h=>h.elim
 |_::_,[],h=>h.elim
theorem MM{G:List bc}(hG:jr P G){N M f:Nat}{g:Operand}{ps:Array Tmp}{x b:Code}(mr:RF (some f) N (.rangeFunc g ps x b)){T:iu}(h:HN T G M f g st Q):Tr P N M (.rangeFunc g ps x b) st Q:=by
 intro c0 w0 c w a hs
 obtain⟨y,⟨hy,hn,DY,gr,h1⟩,he⟩:=mr
 unfold HN at h
 split at h
 rotate_left
 ·exact h.elim
 rename_i gf cs hg
 split at h
 rotate_left
 ·exact h.elim
 rename_i ys k Sm lD
 obtain⟨R0,c,h,hs⟩:=FO h hs
 simp only[dd]at h
 obtain⟨HP,h⟩:=h
 have HP:=lE HP
 rw[<-qae (ds:=.gj f ys::cs.map iy.d)]at h
 obtain⟨ks,val,R',X,h2,h3,h4,h5,h6⟩:=VY hG lD h
 obtain⟨dx,hf⟩:=FL hG h3
 rw[HF]at h2
 obtain⟨mQ,hQ⟩:=h2
 have Sn:Rep c w (cq st.env g) (a.eval g):=MH hs.env g
 rw[hg]at Sn
 obtain⟨us,⟨_,Sn⟩|⟨Wc,_⟩,Bx⟩:=Sn
 rotate_left
 ·exact absurd HP (Nat.not_lt.2 Wc)
 refine wpIn_rangeFunc λfn _=>?_
 obtain⟨rec,mI⟩:∃rec:Loop,rec={state:=.ready,pending:=none,fn,tmps:=a.tmps,params:=ps,assign:=x,body:=b,defers:=w.heap.size}:=⟨_,rfl⟩
 obtain⟨wd,HQ⟩:∃wd,wd=w.alloc (.deferred (some [])):=⟨_,rfl⟩
 obtain⟨w1,FT⟩:∃w1,w1=wd.alloc (.loop rec):=⟨_,rfl⟩
 have hsd:wd.heap.size=w.heap.size+1:=by rw[HQ];simp
 have lz:w1.heap.size=w.heap.size+2:=by rw[FT];simp[hsd]
 have So:w1.heap[w.heap.size+1]?=some (.loop rec):=by rw[FT,<-hsd];exact World.alloc_heap_new wd _
 have hD1:w1.heap[w.heap.size]?=some (.deferred (some [])):=by
  rw[FT];refine(Q8 wd _ _ (by omega)).trans ?_;rw[HQ];exact World.alloc_heap_new w _
 have FU:∀i,i<w.heap.size->w1.heap[i]?=w.heap[i]? :=λi hi=>by
  rw[FT];refine(Q8 wd _ _ (by omega)).trans ?_;rw[HQ];exact Q8 w _ _ hi
 obtain⟨c1,By⟩:∃c1:Ctx,c1={c with I:=λi=>c.I i\/i=w.heap.size+1}:=⟨_,rfl⟩
 have uW:iX c w c1 w1:=by
  rw[By]
  exact⟨rfl,Nat.le_refl _,λi hi=>⟨.inl hi,FU i (hs.mem.fe i hi).1⟩,λr z hr=>⟨z,hr,rfl,rfl,rfl,rfl,rfl,Iff.rfl,λhV arr ha=>⟨arr,(FU _ (Array.getElem?_eq_some_iff.1 ha).1).trans ha,rfl⟩⟩⟩
 have HR:∀r z,c.R r=some z->¬c.V r->c.ρ r<w.heap.size:=λr z hr hV=>by
  rcases hs.mem.row r z hr with h|⟨_,arr,h,_⟩
  ·exact(hV h.1).elim
  ·exact(Array.getElem?_eq_some_iff.1 h).1
 have HM:Mem c1 w1:=by
  have uW:=uW
  rw[By]at uW⊢
  refine⟨λr z hr=>sW uW rfl Iff.rfl (λnv=>FU _ (HR r z hr nv)) (hs.mem.row r z hr),hs.mem.inj,λi hi=>?_,by have:=hs.mem.top;show c.top<=_;omega,hs.mem.jQ.mono uW.I⟩
  rcases hi with hi|hi
  ·have:=(hs.mem.fe i hi).1;exact⟨by omega,(hs.mem.fe i hi).2⟩
  ·exact⟨by omega,λr z hr hV=>by have:=HR r z hr hV;show c.ρ r≠i;omega⟩
 have HS:Rep c1 w1 (.gj f ys) (.func (.yield (w.heap.size+1)) #[] #[]):=by
  refine⟨y.ts.map λt=>a.tmps.getD t undef,.inr ⟨gr,w.heap.size+1,rec,rfl,by rw[By];exact .inr rfl,So,by rw[mI],by rw[mI],y,hy,?_⟩,?_⟩
  ·cases he
   rw[mI]
   exact⟨rfl,rfl,rfl,Nat.le_trans hn hs.size,h1,rfl⟩
  ·have:=Wd (c:=c1) (w:=w1) (ev:=cq st.env) (ρ:=a.eval) (xs:=y.ts.map Operand.tmp) (cs:=ys) (by rw[DY,bY];exact Sm) (λz hz=>Qb uW (MH hs.env z))
   rw[bY]at this
   exact this
 have We:j5 c1 w1 (cs.map iy.d) us:=Qz uW (Zaw Bx)
 have iJ:j5 c1 w1 (.gj f ys::cs.map iy.d) (.func (.yield (w.heap.size+1)) #[] #[]::us):=⟨HS,We⟩
 have hlen:(D.gj f ys::cs.map iy.d).length=(Value.func (.yield (w.heap.size+1)) #[] #[]::us).length:=by simp[Bx.length]
 have lX:=(h6 c1 w1 (HO (.func (.yield (w.heap.size+1)) #[] #[]::us)) HM (by rw[By];have:=hs.base;show c.base<=_;omega) (by rw[By];exact hs.rows) (λz hz=>by
  simp only[opsL,List.mem_map,List.mem_range]at hz
  obtain⟨i,_,rfl⟩:=hz
  exact yc iJ i) (λv w'=>∃c',jE ks c1 w1 c' w'/\(∀r,c'.R r=R'.getD r none)) λv w' c' hn hR _=>⟨c',hn,hR⟩).1 HP
 rw[qH hlen]at lX
 refine⟨w.heap.size+1,[{target:=.collected w.heap.size,args:= #[]}],w1,{target:=.fn (.func gf) us.toArray,args:= #[.func (.yield (w.heap.size+1)) #[] #[]]},w1,gf,(Value.func (.yield (w.heap.size+1)) #[] #[]::us).toArray,w1,?_,?_,?_,?_,λe=>(by cases e),?_⟩
 ·rw[FT,HQ,mI];exact run_enterLoop_outer _ _ _ _ _
 ·simp only[resolve,Sn]
  simp[go_sem]
 ·intro f' _;trivial
 ·simp only[invoke]
  rw[<-hf,dx.enters (by rw[hf];exact HP)]
  congr 2
  simp
 ·refine CallsIn.mono (callsIn_wide.2 lX) λe w3 ⟨v,he3,c3,FV,hR3⟩=>?_
  subst he3
  have HT:w3.heap[w.heap.size+1]?=some (.loop rec):=(FV.cz.I _ (by rw[By];exact .inr rfl)).2.trans So
  have DZ:=run_endLoop (P:=P) HT (by rw[mI];simp)
  have Dh:rec.pending=none:=by rw[mI]
  rw[Dh]at DZ
  refine⟨none,_,DZ,?_⟩
  have Bz:Fr (λi=>∃r z,c.R r=some z/\¬c.V r/\c.ρ r=i) w w3:=by
   have Ea:=FV.fr
   rw[By]at Ea
   refine⟨?_,?_,?_,by have:=Ea.size;omega,λi hi HU=>(Ea.heap i (by omega) HU).trans (FU i hi)⟩
   ·have:=Ea.os;rw[FT,HQ]at this;exact this
   ·have:=Ea.tape;rw[FT,HQ]at this;exact this
   ·have:=Ea.output;rw[FT,HQ]at this;exact this
  have hN:jE ks c w c3 w3:=by
   refine⟨FV.mem,?_,Bz,λi hi=>?_,λr row hr hV=>?_⟩
   ·have g1:=FV.cz
    rw[By]at g1
    refine⟨g1.base,g1.top,λi hi=>⟨(g1.I i (.inl hi)).1,(g1.I i (.inl hi)).2.trans (FU i (hs.mem.fe i hi).1)⟩,λr row hr=>?_⟩
    obtain⟨ao,q1,q2,q3,q4,q5,q6,qV,q7⟩:=g1.R r row hr
    exact⟨ao,q1,q2,q3,q4,q5,q6,qV,λnv arr ha=>q7 nv arr ((FU _ (Array.getElem?_eq_some_iff.1 ha).1).trans ha)⟩
   ·have:=FV.fe i hi
    rw[By]at this
    rcases this with(g|g)|g|g
    ·exact .inl g
    ·exact .inr (.inr (by omega))
    ·exact .inr (.inl g)
    ·exact .inr (.inr (by omega))
   ·have:=FV.nT r row hr hV
    rw[By]at this
    rcases this with g|g|g
    ·exact .inl g
    ·exact .inr (.inl g)
    ·exact .inr (.inr (by omega))
  have tB:lN w0.heap.size w3 ({target:=.collected w.heap.size,args:= #[]}::a.defers):=by
   obtain⟨bs,b1,b2,b3⟩:=hs.defers.step hs.mem Bz
   refine⟨w.heap.size::bs,List.nodup_cons.2 ⟨λhm=>?_,b1⟩,by rw[b2];rfl,λi hi=>?_⟩
   ·obtain⟨bs',c1',c2',c3'⟩:=hs.defers
    rw[c2']at b2
    have:bs'=bs:=by
     have:=congrArg (List.map λ(d:Deferred)=>match d.target with|.collected i=>i|_=>0) b2
     simpa[bY,Function.comp_def]using this
    subst this
    have:=(Array.getElem?_eq_some_iff.1 (c3' _ hm).2).1
    omega
   ·rcases List.mem_cons.1 hi with e|e
    ·subst e
     refine⟨hs.reach.fr.size,?_⟩
     have Ea:=FV.fr
     rw[By]at Ea
     exact(Ea.heap _ (by omega) fun⟨r,z,q1,q2,q3⟩=>by have:=HR r z q1 q2;simp only at q3;omega).trans hD1
    ·exact b3 i e
  have hs3:ff N M c0 w0 c3 w3 ⟨rL ks st.env,R'⟩ {a with defers:={target:=.collected w.heap.size,args:= #[]}::a.defers}:=
   ⟨FV.mem,hR3,λt=>by rw[Br];exact Qb hN.cz (V2 (hs.env t)),hs.size,tB,hs.fv,hs.gp,hs.reach.step h5 hs.gp hN⟩
  refine⟨.normal,⟨rL ks st.env,R'⟩,_,rfl,hQ,hs3.MN (b:=w.heap.size+1) (o:=.loop rec) (by have:=hs.reach.fr.size;omega) HT (λ_ _ _ e=>by cases e) (Fk:=λk=>k<YB) (λk ws v hk hv=>?_) (λt k hk=>MO mQ (List.mem_append_left _ (Wf hk))) (λr z hr k hk=>MO mQ (List.mem_append_right _ (Wg (by rw[<-hR3];exact hr) hk))) ?_⟩
  ·rcases hv with hv|⟨hv,_⟩
   ·exact .inl hv
   ·exact absurd hk (Nat.not_lt.2 hv)
  ·refine tB.to λi hi=>(World.putObj_heap_other λe=>?_).trans hi
   rw[e,HT]at hi;cases hi
def AB (T:iu)(G:List bc)(N M:Nat)(fm:List (Nat×cg))(rf:Option Nat):Nat->Code->St->(Ex->St->Prop)->Prop
 |0,_,_,_=>False
 |d + 1,code,st,Q=>match code with
  |.rangeFunc g _ _ _=>match rf with|some f=>HN T G M f g st Q|none=>False
  |.loop c=>match FP fm (keyOf c)with
   |some i=>∃(uV:i.α->Prop) (μ:i.α->Nat),uV (i.a0 st)/\fold M (i.jf st) st (i.F st (i.a0 st)).1 (i.F st (i.a0 st)).2/\∀a:i.α,uV a->oM T G N M (AB T G N M fm rf d) c ⟨(i.F st a).1,(i.F st a).2.map some⟩ λe ji=>match e with
    |.normal=>(uV (i.next ji)/\μ (i.next ji)<μ a)/\fold M (i.ex ji) ji (i.F st (i.next ji)).1 (i.F st (i.next ji)).2
    |.exit j=>Q (.exit j) ji
    |.ret=>Q .ret ji
   |none=>False
  |_=>False
abbrev LL(T:iu)(G:List bc)(N M:Nat)(fm:List (Nat×cg)):=AB T G N M fm none
theorem FW{P:Program}(hD:pk P){T:iu}(hT:Q4 P T){G:List bc}(hG:jr P G){N M:Nat}{fm:List (Nat×cg)}{rf:Option Nat}{ro:Option Nat}(Di:ro=none\/rf=none):∀(d:Nat) (code:Code) (st:St) (Q:Ex->St->Prop),RF rf N code->AB T G N M fm rf d code st Q->tG ro P N M code st Q
 |0,_,_,_,_,h=>h.elim
 |d + 1,code,st,Q,mr,h=>by
  unfold AB at h
  split at h
  ·split at h
   ·rename_i f
    rcases Di with e|e
    ·subst e;exact MM hG mr h
    ·cases e
   ·exact h.elim
  ·rename_i c
   split at h
   ·rename_i i hi
    obtain⟨uV,μ,h2,h3,h4⟩:=h
    have hc:RF rf N c:=by
     cases rf with
     |none=>trivial
     |some f=>exact mr
    refine xad (i.F st) uV μ (i.a0 st) (i.jf st) h2 h3 λa ha=>Tr.mono (λe ji hq=>?_) (MP hD hT hG (MQ rf N) (FW hD hT hG Di d) c _ _ hc (h4 a ha))
    cases e with
    |normal=>exact⟨_,_,hq.1.1,hq.1.2,hq.2⟩
    |exit j=>exact hq
    |ret=>exact hq
   ·exact h.elim
  ·exact h.elim
def ay(R:Rows)(r j:Nat):D:=match R.getD r none with|some row=>(row.es.get 0).getD j .dead|none=>.dead
def kD(R:Rows)(r:Nat):ai:=match R.getD r none with|some row=>row.es|none=>.gen []
def nU(R:Rows)(r:Nat):List Int:=match R.getD r none with|some ⟨_,_,_,.ints _ l⟩=>l|_=>[]
def Zeu(R:Rows)(r:Nat):List Bool:=match R.getD r none with|some ⟨_,_,_,.ag l⟩=>l|_=>[]
def rm(k:RK)(R:Rows)(r:Nat):List (RK.T k):=match R.getD r none with|some ⟨_,_,_,.ah k' l⟩=>(match FG k' k l with|some m=>m|none=>[])|_=>[]
def Wh(k:IntKind)(R:Rows)(d:D):List Int:=match d with|.all r=>nU R r|.own r _ _=>nU R r|d=>cf k d
def iS(d:D)(n:Nat):Nat:=match d with|.all r=>r|.own r _ _=>r|.ptr r _ _=>r|.pa r _ _ _ _ _=>r|_=>n
theorem HV{n:Int}(h1: -9223372036854775808<=n)(h2:n<=9223372036854775807):IntKind.wrap .i64 n=n:=by rw[IntKind.wrap_i64];omega
inductive mP where
 |sl (t:CT) (fr:Bool)
 |row (ty sz:Nat) (t:CT)
def FX:CT->ai
 |.ints k=>.ints k []
 |.ag=>.ag []
 |.ah k=>.ah k []
 |_=>.gen []
def CT.iD:CT->Nat
 |.ah k=>k.size
 |_=>1
def toCT:CT->ai->Option ai
 |.ints k,E=>match E.toI k with|some l=>some (.ints k l)|none=>none
 |.ag,E=>match E.toB with|some l=>some (.ag l)|none=>none
 |.ah k,E=>match E.toR k with|some l=>some (.ah k l)|none=>none
 |_,_=>none
theorem Wi(t:CT):(FX t).Nil:=by cases t<;>rfl
theorem MR{t:CT}{E E':ai}(h:toCT t E=some E'):ai.Eq E E':=by
 cases t with
 |ints k=>
  simp only[toCT]at h
  split at h
  ·rename_i l hl
   cases h
   cases E with
   |ints k' m=>
    simp only[ai.toI]at hl
    split at hl
    ·rename_i hk;cases hl;simp only[ai.Eq,hk]
    ·cases hl
   |gen es=>cases es<;>simp[ai.toI]at hl;subst hl;rfl
   |ag m=>simp[ai.toI]at hl
   |ah k m=>simp[ai.toI]at hl
  ·cases h
 |ag=>
  simp only[toCT]at h
  split at h
  ·rename_i l hl
   cases h
   cases E with
   |ag m=>simp[ai.toB]at hl;subst hl;rfl
   |gen es=>cases es<;>simp[ai.toB]at hl;subst hl;rfl
   |ints k m=>simp[ai.toB]at hl
   |ah k m=>simp[ai.toB]at hl
  ·cases h
 |ah k=>
  simp only[toCT]at h
  split at h
  ·rename_i l hl
   cases h
   cases E with
   |ah k' m=>simp only[ai.toR]at hl;simp only[ai.Eq,hl]
   |gen es=>cases es<;>simp[ai.toR]at hl;subst hl;rfl
   |ints k m=>simp[ai.toR]at hl
   |ag m=>simp[ai.toR]at hl
  ·cases h
 |_=>simp[toCT]at h
structure jF where
 ds:List mP
 ex:List (Nat×Row)
 fz:List Nat
def uX(m:Nat):List (Nat×Nat×Nat)->Bool
 |[]=>true
 |p::l=>bN p.1 m&&uX m l
def HW(m:Nat):List iy->Bool
 |[]=>true
 |.ptr r _ _::l=>bN r m&&HW m l
 |.fn _ ps::l=>uX m ps&&HW m l
 |_=>false
theorem vc{m:Nat}{EX:List Nat}(hE:∀i,i<m->EX[i]?=some i):∀{ps:List (Nat×Nat×Nat)},uX m ps=true->r8 EX ps ps=true
 |[],_=>rfl
 |(r,a,b)::l,h=>by
  simp only[uX,aE]at h
  simp only[r8,jY,hE r (lE h.1),vc hE h.2]
  simp
theorem zae(hE:∀i,i<m->EX[i]?=some i):∀{cs:List iy},HW m cs=true->oO EX cs cs=true:=by
 intro cs
 induction cs with
 |nil=>intro _;rfl
 |cons x l ih=>
  intro h
  cases x with
  |ptr r a b=>
   simp only[HW,aE]at h
   simp only[oO,jY,hE r (lE h.1),ih h.2]
   simp
  |fn f ps=>
   simp only[HW,aE]at h
   simp only[oO,vc hE h.1,ih h.2]
   simp
  |_=>simp[HW]at h
def Sp(m:Nat)(R:Rows)(c:D)(s:jF):Option (D×jF):=
  match c with
  | .int k n=>some (.int k n,s)
  | .bool b=>some (.bool b,s)
  | .str x=>some (.str x,s)
  | .iC=>some (.iC,s)
  | .jC=>some (.jC,s)
  | .ga r=>match bN r m with|true=>some (.ga r,s)|false=>none
  | .ptr r o f=>match bN r m with|true=>some (.ptr r o f,s)|false=>none
  | .gj f cs=>match HW m cs with|true=>some (.gj f cs,s)|false=>none
  | .c9=>match s with
    |⟨.sl t f::ds,ex,fz⟩=>some (.sl t.iD (FX t) f,⟨ds,ex,fz⟩)
    |⟨.row ty sz t::ds,ex,fz⟩=>match bN 0 sz with|true=>some (.all (m+ex.length),⟨ds,ex++[(R.length+ex.length,⟨false,ty,sz,FX t⟩)],fz⟩)|false=>none
    |_=>none
  | .emp=>match s with
    |⟨.sl t f::ds,ex,fz⟩=>some (.sl t.iD (FX t) f,⟨ds,ex,fz⟩)
    |⟨.row ty sz t::ds,ex,fz⟩=>match bN 0 sz with|true=>some (.all (m+ex.length),⟨ds,ex++[(R.length+ex.length,⟨false,ty,sz,FX t⟩)],fz⟩)|false=>none
    |_=>none
  | .sl n E fr=>match s with
    | ⟨.sl t f::ds,ex,fz⟩=>match toCT t E,(!f||fr)&&(bX n t.iD||HX E) with
      |some E',true=>some (.sl t.iD E' f,⟨ds,ex,fz⟩)
      |_,_=>none
    |_=>none
  | .all r=>match s with
    | ⟨.sl t f::ds,ex,fz⟩=>match R.getD r none with
      | some ⟨box,_,jX,E⟩=>match toCT t E,!box&&(bX jX t.iD&&Nat.ble m r) with
        |some E',true=>some (.sl t.iD E' f,⟨ds,ex,r::fz⟩)
        |_,_=>none
      |none=>none
    | ⟨.row ty sz t::ds,ex,fz⟩=>match bN r m with
      |true=>some (.all r,⟨ds,ex,fz⟩)
      | false=>match R.getD r none with
        | some ⟨box,jN,jX,E⟩=>match toCT t E,!box&&(bX jN ty&&bX jX sz) with
          |some E',true=>some (.all (m+ex.length),⟨ds,ex++[(r,⟨false,ty,sz,E'⟩)],fz⟩)
          |_,_=>none
        |none=>none
    |_=>none
  | .own r o n=>match s with
    | ⟨.sl t f::ds,ex,fz⟩=>match R.getD r none with
      | some ⟨box,_,jX,E⟩=>match toCT t ((E.drop o).take n),!box&&(bX jX t.iD&&Nat.ble m r) with
        |some E',true=>some (.sl t.iD E' f,⟨ds,ex,r::fz⟩)
        |_,_=>none
      |none=>none
    |_=>none
  |_=>none
def J2(m:Nat)(R:Rows):List D->jF->Option (List D×jF)
 |[],s=>some ([],s)
 |c ::cs,s=>match Sp m R c s with
  |some (c',s')=>match J2 m R cs s' with
   |some (rp,HY)=>some (c'::rp,HY)
   |none=>none
  |none=>none
def Eb(m:Nat)(R:Rows)(d:D)(s:jF):Option (D×jF):=
 match d with
 |.agg cs=>match J2 m R cs s with|some (rp,s')=>some (.agg rp,s')|none=>none
 |d=>Sp m R d s
def r9(m:Nat)(R:Rows):List D->jF->Option (List D×jF)
 |[],s=>some ([],s)
 |c ::cs,s=>match Eb m R c s with
  |some (c',s')=>match r9 m R cs s' with
   |some (rp,HY)=>some (c'::rp,HY)
   |none=>none
  |none=>none
def HZ(m:Nat)(R:Rows)(d:D)(s:jF):Option (D×jF):=
 match d with
 |.dv ds=>match r9 m R ds s with|some (nV,s')=>some (.dv nV,s')|none=>none
 |d=>Eb m R d s
def J3(m:Nat)(R:Rows):Nat->Nat->jF->Option (List Row×jF)
 |0,_,s=>some ([],s)
 |n + 1,i,s=>match R.getD i none with
  |some ⟨true,ty,sz,.gen [e]⟩=>match J2 m R e s with
   |some (e',s')=>match J3 m R n (i+1) s' with
    |some (rs,HY)=>some (⟨true,ty,sz,.gen [e']⟩::rs,HY)
    |none=>none
   |none=>none
  |some ⟨false,ty,sz,E⟩=>match J3 m R n (i+1) s with
   |some (rs,HY)=>some (⟨false,ty,sz,E⟩::rs,HY)
   |none=>none
  |_=>none
def Ec(m:Nat)(ex:List (Nat×Row)):List Nat:=List.range m++ex.map (·.1)
def nK(m:Nat)(ds:List mP)(d:D)(R:Rows)(K:D->List Row->Prop):Prop:=
 match HZ m R d ⟨ds,[],[]⟩with
 |some (d',s)=>match J3 m R m 0 s with
  |some (rs,s')=>cu (r7 m (Ec m s'.ex)&&s'.fz.all (J4 (Ec m s'.ex))) (K d' (rs++s'.ex.map (·.2)))
  |none=>False
 |none=>False
def sc(R:Rows)(x:Nat×Row):Prop:=
 x.2.box=false/\match R.getD x.1 none with
 |some ⟨wV,jN,jX,iQ⟩=>wV=false/\jN=x.2.ty/\jX=x.2.sz/\ai.Eq iQ x.2.es
 |none=>0<x.2.sz/\x.2.es.Nil
structure nW(m:Nat)(R:Rows)(EX:List Nat)(s:jF):Prop where
 at_:∀(i:Nat) x,s.ex[i]?=some x->EX[m+i]?=some x.1
 gh:∀x∈s.ex,sc R x
 out:∀r∈s.fz,J4 EX r=true
def wW(s s':jF):Prop:=s.ex<+:s'.ex/\s.fz<:+s'.fz
theorem wW.refl(s:jF):wW s s:=⟨bZ _,cA _⟩
theorem wW.trans{a b c:jF}(h:wW a b)(g:wW b c):wW a c:=⟨h.1.trans g.1,h.2.trans g.2⟩
theorem qd(h:HX E=true):E.Nil:=ai.nX.2 (R9 h)
theorem Zho{c c':D}{s s':jF}(h:Sp m R c s=some (c',s')):
    wW s s'/\((∀x∈s.ex,sc R x)-> ∀x∈s'.ex,sc R x)/\ ∀EX:List Nat,(∀i,i<m->EX[i]? =some i)->nW m R EX s'->iG EX m R c c':=by
  have MS: ∀{ty sz t},bN 0 sz=true->((∀x∈s.ex,sc R x)-> ∀x∈s.ex++[(R.length+s.ex.length,(⟨false,ty,sz,FX t⟩:Row))],sc R x)/\
      ∀(EX:List Nat) (ds:List mP) (fz:List Nat),nW m R EX ⟨ds,s.ex++[(R.length+s.ex.length,(⟨false,ty,sz,FX t⟩:Row))],fz⟩->H0 EX R (m+s.ex.length)=true:=by
    intro ty sz t fp
    have hn:R.getD (R.length+s.ex.length) none=none:=by rw[aV,List.getElem?_eq_none (by omega)];rfl
    refine⟨λhg x hx=> ?_,λEX ds fz hG=> ?_⟩
    . simp only[cB,cC]at hx
      rcases hx with hx|rfl
      . exact hg x hx
      . refine⟨rfl,?_⟩
        simp only[hn]
        exact⟨lE fp,Wi t⟩
    . have:=hG.at_ s.ex.length (R.length+s.ex.length,⟨false,ty,sz,FX t⟩) (by simp)
      simp only[H0,this,hn]
  cases c<;>simp only[Sp]at h<;>try(cases h;done)
  case int k n=>cases h;exact⟨.refl _,id,λEX _ _=>by simp [iG,cu]⟩
  case bool b=>cases h;exact⟨.refl _,id,λEX _ _=>by simp [iG]⟩
  case str x=>cases h;exact⟨.refl _,id,λEX _ _=>by simp [iG]⟩
  case iC=>cases h;exact⟨.refl _,id,λEX _ _=>by simp [iG]⟩
  case jC=>cases h;exact⟨.refl _,id,λEX _ _=>by simp [iG]⟩
  case ga r=>
    split at h
    . rename_i hr
      cases h
      refine⟨.refl _,id,λEX hE _=> ?_⟩
      have:=hE r (lE hr)
      simp only[iG,dd,jY,this]
      exact⟨by simp,trivial⟩
    . cases h
  case ptr r o f=>
    split at h
    . rename_i hr
      cases h
      refine⟨.refl _,id,λEX hE _=> ?_⟩
      have:=hE r (lE hr)
      simp only[iG,dd,jY,this]
      exact⟨by simp,trivial⟩
    . cases h
  case gj f cs=>
    split at h
    . rename_i hr
      cases h
      refine⟨.refl _,id,λEX hE _=> ?_⟩
      simp only[iG,dd,zae hE hr]
      exact⟨by simp,trivial⟩
    . cases h
  case c9=>
    split at h
    . cases h;exact⟨.refl _,id,λEX _ _=>Wi _⟩
    . split at h
      . rename_i fp
        cases h
        obtain⟨v1,v2⟩:=MS fp
        exact⟨⟨cD _ _,cA _⟩,v1,λEX _ hG=>by simp only[iG,dd];exact⟨v2 EX _ _ hG,trivial⟩⟩
      . cases h
    . cases h
  case emp=>
    split at h
    . cases h;exact⟨.refl _,id,λEX _ _=>Wi _⟩
    . split at h
      . rename_i fp
        cases h
        obtain⟨v1,v2⟩:=MS fp
        exact⟨⟨cD _ _,cA _⟩,v1,λEX _ hG=>by simp only[iG,dd];exact⟨v2 EX _ _ hG,trivial⟩⟩
      . cases h
    . cases h
  case sl n E fr=>
    split at h
    . rename_i t f ds ex fz
      split at h
      . rename_i E' hE hb
        cases h
        simp only[aE,Bool.or_eq_true]at hb
        refine⟨.refl _,id,λEX _ _=> ?_⟩
        simp only[iG,dd]
        exact⟨by simpa using hb.1,hb.2.symm.imp qd bE,MR hE⟩
      . cases h
    . cases h
  case all r =>
    split at h
    . rename_i t f ds ex fz
      split at h
      . rename_i box ty jX E hR
        split at h
        . rename_i E' hE hb
          cases h
          simp only[aE]at hb
          refine⟨⟨bZ _,cE _ _⟩,id,λEX _ hG=> ?_⟩
          simp only[iG,hR,dd,aE]
          exact⟨⟨⟨⟨hb.1,hb.2.1⟩,hG.out r (by simp)⟩,hb.2.2⟩,MR hE⟩
        . cases h
      . cases h
    . rename_i ty sz t ds ex fz
      split at h
      . rename_i bg
        cases h
        refine⟨.refl _,id,λEX pC hG=> ?_⟩
        simp only[iG,dd]
        have:=pC r (lE bg)
        exact⟨by simp [jY,this],trivial⟩
      . split at h
        . rename_i box jN jX E hR
          split at h
          . rename_i E' hE hb
            cases h
            simp only[aE,Bool.not_eq_true']at hb
            refine⟨⟨cD _ _,cA _⟩,λhg x hx=> ?_,λEX pC hG=> ?_⟩
            . simp only[cB,cC]at hx
              rcases hx with hx|rfl
              . exact hg x hx
              . refine⟨rfl,?_⟩
                simp only[hR]
                exact⟨hb.1,bE hb.2.1,bE hb.2.2,MR hE⟩
            . have:=hG.at_ ex.length (r,⟨false,ty,sz,E'⟩) (by simp)
              simp only[iG,dd]
              exact⟨by simp [jY,this],trivial⟩
          . cases h
        . cases h
    . cases h
  case own r o n=>
    split at h
    . rename_i t f ds ex fz
      split at h
      . rename_i box ty jX E hR
        split at h
        . rename_i E' hE hb
          cases h
          simp only[aE]at hb
          refine⟨⟨bZ _,cE _ _⟩,id,λEX _ hG=> ?_⟩
          simp only[iG,hR,dd,aE]
          exact⟨⟨⟨⟨hb.1,hb.2.1⟩,hG.out r (by simp)⟩,hb.2.2⟩,MR hE⟩
        . cases h
      . cases h
    . cases h
theorem nW.mono{s s':jF}(hl:wW s s')(h:nW m R EX s'):nW m R EX s:=
 ⟨λi x hx=>h.at_ i x (by
  obtain⟨t,ht⟩:=hl.1
  rw[<-ht,bI (List.getElem?_eq_some_iff.1 hx).1];exact hx),λx hx=>h.gh x (hl.1.subset hx),λr hr=>h.out r (hl.2.subset hr)⟩
theorem Wj{m:Nat}{R:Rows}:∀{cs rp:List D} {s s':jF},J2 m R cs s=some (rp,s')->
 wW s s'/\((∀x∈s.ex,sc R x)->∀x∈s'.ex,sc R x)/\∀EX:List Nat,(∀i,i<m->EX[i]?=some i)->nW m R EX s'->Dj EX m R cs rp
 |[],rp,s,s',h=>by simp only[J2]at h;cases h;exact⟨.refl _,id,λ_ _ _=>trivial⟩
 |c ::cs,rp,s,s',h=>by
  simp only[J2]at h
  split at h
  ·rename_i c1 s1 h1
   split at h
   ·rename_i cs1 s2 h2
    cases h
    obtain⟨a1,a2,a3⟩:=Zho h1
    obtain⟨b1,b2,b3⟩:=Wj h2
    exact⟨a1.trans b1,λh=>b2 (a2 h),λEX pC hG=>⟨a3 EX pC (hG.mono b1),b3 EX pC hG⟩⟩
   ·cases h
  ·cases h
theorem xd{s s':jF}(h:Eb m R d s=some (d',s')):
 wW s s'/\((∀x∈s.ex,sc R x)->∀x∈s'.ex,sc R x)/\∀EX:List Nat,(∀i,i<m->EX[i]?=some i)->nW m R EX s'->oP EX m R d d':=by
 unfold Eb at h
 split at h
 ·rename_i cs
  split at h
  ·rename_i rp s1 h1
   cases h
   exact Wj h1
  ·cases h
 ·rename_i gm
  obtain⟨a1,a2,a3⟩:=Zho h
  refine⟨a1,a2,λEX pC hG=>?_⟩
  have h3:=a3 EX pC hG
  cases d' with
  |agg ps=>simp[iG]at h3
  |_=>exact h3
theorem Zpn{m:Nat}{R:Rows}:∀{cs rp:List D} {s s':jF},r9 m R cs s=some (rp,s')->
 wW s s'/\((∀x∈s.ex,sc R x)->∀x∈s'.ex,sc R x)/\∀EX:List Nat,(∀i,i<m->EX[i]?=some i)->nW m R EX s'->uY EX m R cs rp
 |[],rp,s,s',h=>by simp only[r9]at h;cases h;exact⟨.refl _,id,λ_ _ _=>trivial⟩
 |c ::cs,rp,s,s',h=>by
  simp only[r9]at h
  split at h
  ·rename_i c1 s1 h1
   split at h
   ·rename_i cs1 s2 h2
    cases h
    obtain⟨a1,a2,a3⟩:=xd h1
    obtain⟨b1,b2,b3⟩:=Zpn h2
    exact⟨a1.trans b1,λh=>b2 (a2 h),λEX pC hG=>⟨a3 EX pC (hG.mono b1),b3 EX pC hG⟩⟩
   ·cases h
  ·cases h
theorem xae{s s':jF}(h:HZ m R d s=some (d',s')):
 wW s s'/\((∀x∈s.ex,sc R x)->∀x∈s'.ex,sc R x)/\∀EX:List Nat,(∀i,i<m->EX[i]?=some i)->nW m R EX s'->r6 EX m R d d':=by
 unfold HZ at h
 split at h
 ·rename_i cs
  split at h
  ·rename_i rp s1 h1
   cases h
   exact Zpn h1
  ·cases h
 ·rename_i gm
  obtain⟨a1,a2,a3⟩:=xd h
  refine⟨a1,a2,λEX pC hG=>?_⟩
  have h3:=a3 EX pC hG
  cases d' with
  |dv ps=>simp[oP,iG]at h3
  |_=>exact h3
theorem Wk{m:Nat}{R:Rows}:∀{n i:Nat} {rs:List Row} {s s':jF},J3 m R n i s=some (rs,s')->
 wW s s'/\((∀x∈s.ex,sc R x)->∀x∈s'.ex,sc R x)/\∀EX:List Nat,(∀i,i<m->EX[i]?=some i)->nW m R EX s'->lG EX m R (bO i n) rs
 |0,i,rs,s,s',h=>by simp only[J3]at h;cases h;exact⟨.refl _,id,λ_ _ _=>trivial⟩
 |n + 1,i,rs,s,s',h=>by
  simp only[J3]at h
  split at h
  ·rename_i ty sz e hR
   split at h
   ·rename_i e1 s1 h1
    split at h
    ·rename_i rs1 s2 h2
     cases h
     obtain⟨a1,a2,a3⟩:=Wj h1
     obtain⟨b1,b2,b3⟩:=Wk h2
     refine⟨a1.trans b1,λh=>b2 (a2 h),λEX pC hG=>?_⟩
     rw[cF]
     simp only[lG,hR,dd]
     exact⟨⟨by simp,a3 EX pC (hG.mono b1)⟩,b3 EX pC hG⟩
    ·cases h
   ·cases h
  ·rename_i ty sz E hR
   split at h
   ·rename_i rs1 s2 h2
    cases h
    obtain⟨b1,b2,b3⟩:=Wk h2
    refine⟨b1,b2,λEX pC hG=>?_⟩
    rw[cF]
    simp only[lG,hR,dd]
    refine⟨⟨by simp,?_⟩,b3 EX pC hG⟩
    cases E with
    |gen es=>cases es<;>simp[ai.Eq]
    |ah k l=>simp[ai.Eq,VS]
    |_=>simp[ai.Eq]
   ·cases h
  ·cases h
theorem Quc{ex:List Nat}{m:Nat}{R:Rows}:∀{l1 l2:List Nat} {p1 p2:List Row},lG ex m R l1 p1->lG ex m R l2 p2->lG ex m R (l1++l2) (p1++p2)
 |[],l2,[],p2,_,h=>h
 |r::l1,l2,p::p1,p2,h1,h2=>by
  simp only[List.cons_append,lG]at h1⊢
  exact⟨h1.1,Quc h1.2 h2⟩
 |[],_,_::_,_,h,_=>h.elim
 |_::_,_,[],_,h,_=>h.elim
theorem Zat{ex:List Nat}{m:Nat}{R:Rows}:∀{l:List (Nat×Row)},(∀x∈l,sc R x)->lG ex m R (l.map (·.1)) (l.map (·.2))
 |[],_=>trivial
 |(r,⟨box,ty,sz,es⟩)::l,h=>by
  simp only[List.map_cons,lG]
  refine⟨?_,Zat λx hx=>h x (by simp[hx])⟩
  obtain⟨h1,h2⟩:=h (r,⟨box,ty,sz,es⟩) (by simp)
  simp only at h1 h2
  subst h1
  split
  ·rename_i wV jN jX iQ hR
   simp only[hR]at h2
   obtain⟨rfl,rfl,rfl,h2⟩:=h2
   simp only[dd]
   exact⟨by simp,h2⟩
  ·rename_i hR
   simp only[hR]at h2
   simp only[dd]
   exact⟨by simpa using h2.1,h2.2⟩
theorem Zc7{ds:List mP}{K:D->List Row->Prop}(h:nK m ds d R K):∃res rows,K res rows/\wX m res rows d R:=by
 unfold nK at h
 split at h
 ·rename_i d' s h1
  split at h
  ·rename_i rs s' h2
   simp only[dd,aE]at h
   obtain⟨⟨hx,hf⟩,hK⟩:=h
   obtain⟨a1,a2,a3⟩:=xae h1
   obtain⟨b1,b2,b3⟩:=Wk h2
   have FY:∀x∈s'.ex,sc R x:=b2 (a2 λx hx=>by simp at hx)
   have pC:∀i,i<m->(Ec m s'.ex)[i]?=some i:=λi hi=>by
    unfold Ec
    rw[bI (by simpa using hi)];simp[hi]
   have hG:nW m R (Ec m s'.ex) s':=⟨λi x hx=>by
    unfold Ec
    rw[List.getElem?_append_right (by simp)]
    simp[hx],FY,λr hr=>List.all_eq_true.1 hf r hr⟩
   refine⟨d',_,hK,Ec m s'.ex,hx,a3 _ pC (hG.mono b1),?_⟩
   have h3:=b3 _ pC hG
   have:Ec m s'.ex=bO 0 m++s'.ex.map (·.1):=by unfold Ec;rw[List.range_eq_range']
   refine Eq.mpr ?_ (Quc h3 (Zat FY))
   rw[<-this]
  ·exact h.elim
 ·exact h.elim

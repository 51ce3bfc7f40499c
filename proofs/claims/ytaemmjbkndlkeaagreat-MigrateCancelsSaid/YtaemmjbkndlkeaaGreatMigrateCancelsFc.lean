import Derived.Test.YtaemmjbkndlkeaaGreatMigrateCancelsDraw
import Derived.IntWalk
open List renaming getD->aV,ext_getElem->bR,map_map->bY,prefix_refl->bZ,suffix_refl->cA,mem_append->cB,mem_singleton->cC,prefix_append->cD,suffix_cons->cE,getElem?_append_left->bI,range'->bO,range'_succ->cF
open Nat renaming beq->bX,blt->bN
set_option linter.all false
namespace Go.GD
open Go
variable {E:ai}{EX ex:List Nat}{M N m:Nat}{P:Program}{Q:Ex->St->Prop}{R:Rows}{c:Ctx}{code:Code}{d d':D}{ro:Option Nat}{st:St}{w:World}
def sD(ex:List Nat)(M:Nat)(R:Rows)(d p:D):Prop:=
 match p with
 |.dead=>True
 |.ptr i o f=>match d with|.ptr r o' f'=>cv (kb ex i r) (o'=o/\f'=f)|_=>False
 |.iC sz es i off=>match d with|.iC ka jc i' iS=>ka=sz/\ai.Eq jc es/\i'=i/\iS=off|_=>False
 |p=>sE ex M R d p
def BV(ex:List Nat)(M:Nat)(R:Rows)(env:List (Nat×D)):List (Nat×D)->Prop
 |[]=>True
 |(t,p)::l=>sD ex M R (look env t) p/\BV ex M R env l
def fold(M:Nat)(ex:List Nat)(st:St)(mo:List (Nat×D))(aj:List Row):Prop:=
 cv (sF M ex) (BV ex M st.rows st.env mo/\lT ex M st.rows ex aj)
theorem xc{rows:List Row}(hm:Mem c w)(hR:∀r,c.R r=R.getD r none)(dj:lT ex m R ex rows)(fj:∀r row,c.R r=some row->¬c.V r->m<=r->c.base<=c.ρ r){d p:D}{v:Value}(h:sD ex m R d p)(hr:Rep c w d v):Rep (c.out ex rows) w p v:=by
 have nO:∀b,c.I b->(c.out ex rows).I b/\w.heap[b]?=w.heap[b]? :=λb hb=>⟨.inl hb,rfl⟩
 cases p with
 |dead=>trivial
 |ptr i o f=>
  simp only[sD]at h
  split at h
  ·rename_i r o' f'
   simp only[dm]at h
   obtain⟨hx,rfl,rfl⟩:=h
   exact SV (w:=w) hR dj hx hr
  ·exact h.elim
 |iC sz es i off=>
  simp only[sD]at h
  split at h
  ·obtain⟨rfl,he,rfl,rfl⟩:=h
   have he:=ai.Ak he
   obtain⟨b,o,arr,ty,fz,h1,h2,h3,h4,h5⟩:=hr
   rw[he]at h3 h5
   exact⟨b,o,arr,ty,fz,h1,.inl h2,h3,h4,nJ nO _ _ _ _ h5⟩
  ·exact h.elim
 |_=>
  simp only[sD]at h
  exact SW hm hR dj fj h hr
theorem Zka{c:Ctx}{w:World}{ex:List Nat}{m:Nat}{R:Rows}{rows:List Row}(hm:Mem c w)(hR:∀r,c.R r=R.getD r none)(dj:lT ex m R ex rows)(fj:∀r row,c.R r=some row->¬c.V r->m<=r->c.base<=c.ρ r){env:List (Nat×D)}{a:Act}(he:∀t,Rep c w (look env t) (a.tmps.getD t undef)):
 ∀{mo:List (Nat×D)},BV ex m R env mo->∀t,Rep (c.out ex rows) w (look mo t) (a.tmps.getD t undef)
 |[],_,t=>trivial
 |(u,p)::l,h,t=>by
  have:=Zka hm hR dj fj he h.2 t
  rw[AV]
  split
  ·rename_i e
   subst e
   exact xc hm hR dj fj h.1 (he u)
  ·exact this
theorem zc{c0:Ctx}{w0:World}{a:Act}(hs:fu N M c0 w0 c w st a){mo:List (Nat×D)}{aj:List Row}(h:fold M ex st mo aj):∃c',fu N M c0 w0 c' w ⟨mo,aj.map some⟩ a:=by
 unfold fold at h
 simp only[dm]at h
 obtain⟨hex,hE,dj⟩:=h
 obtain⟨fj,jj,gj⟩:=Zr hs hex dj
 refine⟨c.out ex aj,jj,λr=>?_,Zka hs.mem hs.rows dj fj hs.env hE,hs.size,hs.defers,hs.gk,hs.ib,gj⟩
 simp only[Ctx.out,aV,List.getElem?_map]
 cases aj[r]? <;>rfl
theorem Tr.mono{Q Q':Ex->St->Prop}(hq:∀e st,Q e st->Q' e st)(h:tZ ro P N M code st Q):tZ ro P N M code st Q':=
 λc0 w0 c w a hs=>wpIn_mono (h c0 w0 c w a hs) λe a' w' ⟨ex,jx,c',h1,h2,h3⟩=>⟨ex,jx,c',h1,hq _ _ h2,h3⟩
theorem xac{α:Type}(F:α->List (Nat×D)×List Row)(wu:α->Prop)(μ:α->Nat)
 (a0:α) (jo:List Nat) (hp:wu a0) (h0:fold M jo st (F a0).1 (F a0).2)
 (round:∀a,wu a->tZ ro P N M code ⟨(F a).1,(F a).2.map some⟩ λe jx=>match e with
  |.normal=>∃b ex,wu b/\μ b<μ a/\fold M ex jx (F b).1 (F b).2
  |.exit i=>Q (.exit i) jx
  |.ret=>Q .ret jx):tZ ro P N M (.loop code) st Q:=by
 intro c0 w0 c w a hs
 have key:∀(n:Nat) (x:α),wu x->μ x<n->∀(c:Ctx) (w:World) (a:Act),fu N M c0 w0 c w ⟨(F x).1,(F x).2.map some⟩ a->
  Code.roundsIn (AY ro) 0 P code (λe a' w'=>∃ex jx c',mX e=some ex/\Q ex jx/\fu N M c0 w0 c' w' jx a') n a w:=by
  intro n
  induction n with
  |zero=>intro x _ h;omega
  |succ n ih=>
   intro x hx bg c w a hs
   rw[roundsIn_succ]
   refine wpIn_mono (round x hx c0 w0 c w a hs) λe a' w' hq=>?_
   obtain⟨ex,jx,c',he,hq,jb⟩:=hq
   cases e<;>simp only[mX,Option.some.injEq,reduceCtorEq]at he
   ·subst he
    obtain⟨b,ex,h1,h2,h3⟩:=hq
    obtain⟨SX,WI⟩:=zc jb h3
    exact ih b h1 (by omega) SX w' a' WI
   ·subst he;exact⟨_,jx,c',rfl,hq,jb⟩
   ·subst he;exact⟨_,jx,c',rfl,hq,jb⟩
 obtain⟨c',jb⟩:=zc hs h0
 exact wpIn_loop_rounds _ (key (μ a0+1) a0 hp (by omega) c' w a jb)
structure cg where
 α:Type
 F:St->α->List (Nat×D)×List Row
 a0:St->α
 jo:St->List Nat
 next:St->α:=a0
 ex:St->List Nat:=jo
structure Ask(p:Prop):Prop where
 ok:p
def keyOf:Code->Nat
 |.region id _ _=>id
 |.block id _=>id
 |.seq a _=>keyOf a
 |.loop a=>keyOf a
 |_=>0
def Gp:List (Nat×cg)->Nat->Option cg
 |[],_=>none
 |(k,i)::l,n=>match bX k n with|true=>some i|false=>Gp l n
def Ib(T:iG)(G:List bc)(M f:Nat)(g:Operand)(st:St)(Q:Ex->St->Prop):Prop:=
 match cq st.env g with
 |.gx gf cs=>match KB ((WJ f).map (look st.env)),pr G gf with
  |some ys,some k=>H9 T ys st.env st.rows λR=>cv (bN gf YB)<|H2 G M gf k (.gx f ys::cs.map iJ.d) R λks _ R=>Gq ks st.env λenv=>cv (rA (Al env++Gr R)) (Q .normal ⟨env,R⟩)
  |_,_=>False
 |_=>False
def evL(ds:List D):Operand->D|.tmp i=>ds.getD i .dead|_=>.dead
def opsL(n:Nat):List Operand:=(List.range n).map Operand.tmp
theorem qad{ds:List D}:(opsL ds.length).map (evL ds)=ds:=by
 refine bR (by simp[opsL]) λi h1 h2=>?_
 simp[opsL,evL,aV,h2]
def Ic(vs:List Value):Operand->Value|.tmp i=>vs.getD i undef|_=>undef
theorem qH{vs:List Value}{n:Nat}(h:n=vs.length):(opsL n).map (Ic vs)=vs:=by
 subst h
 refine bR (by simp[opsL]) λi h1 h2=>?_
 simp[opsL,Ic,aV,h2]
theorem yc{c:Ctx}{w:World}:∀{ds:List D} {vs:List Value},ki c w ds vs->∀i,Rep c w (ds.getD i .dead) (vs.getD i undef)
 |[],[],_,i=>by simp[aV];trivial
 |d::ds,v::vs,h,0=>by simpa using h.1.toRep
 |d::ds,v::vs,h,i+1=>by simpa using yc h.2 i
 |[],_::_,h,_=>h.elim
 |_::_,[],h,_=>h.elim
theorem Zbj{c:Ctx}{w:World}:∀{cs:List iJ} {us:List Value},oR c w cs us->ki c w (cs.map iJ.d) us
 |[],[],_=>trivial
 |x::cs,u::us,h=>⟨VRep.Eu (Wu.1 h.1),Zbj h.2⟩
 |[],_::_,h=>h.elim
 |_::_,[],h=>h.elim
theorem Ns{G:List bc}(hG:jF P G){N M f:Nat}{g:Operand}{ps:Array Tmp}{x b:Code}(mL:RF (some f) N (.rangeFunc g ps x b)){T:iG}(h:Ib T G M f g st Q):Tr P N M (.rangeFunc g ps x b) st Q:=by
 intro c0 w0 c w a hs
 obtain⟨y,⟨hy,hn,EA,gz,h1⟩,he⟩:=mL
 unfold Ib at h
 split at h
 rotate_left
 ·exact h.elim
 rename_i gf cs hg
 split at h
 rotate_left
 ·exact h.elim
 rename_i ys k SY lQ
 obtain⟨R0,c,h,hs⟩:=Gn h hs
 simp only[dm]at h
 obtain⟨Ie,h⟩:=h
 have Ie:=lE Ie
 rw[<-qad (ds:=.gx f ys::cs.map iJ.d)]at h
 obtain⟨ks,val,R',X,h2,h3,h4,h5,h6⟩:=Ww hG lQ h
 obtain⟨eh,hf⟩:=Gk hG h3
 rw[H3]at h2
 obtain⟨nm,hQ⟩:=h2
 have SZ:Rep c w (cq st.env g) (a.eval g):=Nl hs.env g
 rw[hg]at SZ
 obtain⟨us,⟨_,SZ⟩|⟨WK,_⟩,BW⟩:=SZ
 rotate_left
 ·exact absurd Ie (Nat.not_lt.2 WK)
 refine wpIn_rangeFunc λfn _=>?_
 obtain⟨rec,mZ⟩:∃rec:Loop,rec={state:=.ready,pending:=none,fn,tmps:=a.tmps,params:=ps,assign:=x,body:=b,defers:=w.heap.size}:=⟨_,rfl⟩
 obtain⟨wd,Ig⟩:∃wd,wd=w.alloc (.deferred (some [])):=⟨_,rfl⟩
 obtain⟨w1,Gs⟩:∃w1,w1=wd.alloc (.loop rec):=⟨_,rfl⟩
 have hsd:wd.heap.size=w.heap.size+1:=by rw[Ig];simp
 have lN:w1.heap.size=w.heap.size+2:=by rw[Gs];simp[hsd]
 have S0:w1.heap[w.heap.size+1]?=some (.loop rec):=by rw[Gs,<-hsd];exact World.alloc_heap_new wd _
 have hD1:w1.heap[w.heap.size]?=some (.deferred (some [])):=by
  rw[Gs];refine(Am wd _ _ (by omega)).trans ?_;rw[Ig];exact World.alloc_heap_new w _
 have Gt:∀i,i<w.heap.size->w1.heap[i]?=w.heap[i]? :=λi hi=>by
  rw[Gs];refine(Am wd _ _ (by omega)).trans ?_;rw[Ig];exact Am w _ _ hi
 obtain⟨c1,BX⟩:∃c1:Ctx,c1={c with I:=λi=>c.I i\/i=w.heap.size+1}:=⟨_,rfl⟩
 have wv:jh c w c1 w1:=by
  rw[BX]
  exact⟨rfl,Nat.le_refl _,λi hi=>⟨.inl hi,Gt i (hs.mem.fq i hi).1⟩,λr z hr=>⟨z,hr,rfl,rfl,rfl,rfl,rfl,Iff.rfl,λhV arr ha=>⟨arr,(Gt _ (Array.getElem?_eq_some_iff.1 ha).1).trans ha,rfl⟩⟩⟩
 have Ih:∀r z,c.R r=some z->¬c.V r->c.ρ r<w.heap.size:=λr z hr hV=>by
  rcases hs.mem.row r z hr with h|⟨_,arr,h,_⟩
  ·exact(hV h.1).elim
  ·exact(Array.getElem?_eq_some_iff.1 h).1
 have Ia:Mem c1 w1:=by
  have wv:=wv
  rw[BX]at wv⊢
  refine⟨λr z hr=>tE wv rfl Iff.rfl (λnv=>Gt _ (Ih r z hr nv)) (hs.mem.row r z hr),hs.mem.inj,λi hi=>?_,by have:=hs.mem.top;show c.top<=_;omega,hs.mem.j4.mono wv.I⟩
  rcases hi with hi|hi
  ·have:=(hs.mem.fq i hi).1;exact⟨by omega,(hs.mem.fq i hi).2⟩
  ·exact⟨by omega,λr z hr hV=>by have:=Ih r z hr hV;show c.ρ r≠i;omega⟩
 have Ii:Rep c1 w1 (.gx f ys) (.func (.yield (w.heap.size+1)) #[] #[]):=by
  refine⟨y.ts.map λt=>a.tmps.getD t undef,.inr ⟨gz,w.heap.size+1,rec,rfl,by rw[BX];exact .inr rfl,S0,by rw[mZ],by rw[mZ],y,hy,?_⟩,?_⟩
  ·cases he
   rw[mZ]
   exact⟨rfl,rfl,rfl,Nat.le_trans hn hs.size,h1,rfl⟩
  ·have:=WL (c:=c1) (w:=w1) (ev:=cq st.env) (ρ:=a.eval) (xs:=y.ts.map Operand.tmp) (cs:=ys) (by rw[EA,bY];exact SY) (λz hz=>Ad wv (Nl hs.env z))
   rw[bY]at this
   exact this
 have WM:ki c1 w1 (cs.map iJ.d) us:=WN wv (Zbj BW)
 have iY:ki c1 w1 (.gx f ys::cs.map iJ.d) (.func (.yield (w.heap.size+1)) #[] #[]::us):=⟨Ii,WM⟩
 have hlen:(D.gx f ys::cs.map iJ.d).length=(Value.func (.yield (w.heap.size+1)) #[] #[]::us).length:=by simp[BW.length]
 have mr:=(h6 c1 w1 (Ic (.func (.yield (w.heap.size+1)) #[] #[]::us)) Ia (by rw[BX];have:=hs.base;show c.base<=_;omega) (by rw[BX];exact hs.rows) (λz hz=>by
  simp only[opsL,List.mem_map,List.mem_range]at hz
  obtain⟨i,_,rfl⟩:=hz
  exact yc iY i) (λv w'=>∃c',jP ks c1 w1 c' w'/\(∀r,c'.R r=R'.getD r none)) λv w' c' hn hR _=>⟨c',hn,hR⟩).1 Ie
 rw[qH hlen]at mr
 refine⟨w.heap.size+1,[{target:=.collected w.heap.size,args:= #[]}],w1,{target:=.fn (.func gf) us.toArray,args:= #[.func (.yield (w.heap.size+1)) #[] #[]]},w1,gf,(Value.func (.yield (w.heap.size+1)) #[] #[]::us).toArray,w1,?_,?_,?_,?_,λe=>(by cases e),?_⟩
 ·rw[Gs,Ig,mZ];exact run_enterLoop_outer _ _ _ _ _
 ·simp only[resolve,SZ]
  simp[go_sem]
 ·intro f' _;trivial
 ·simp only[invoke]
  rw[<-hf,eh.enters (by rw[hf];exact Ie)]
  congr 2
  simp
 ·refine CallsIn.mono (callsIn_wide.2 mr) λe w3 ⟨v,he3,c3,Gu,hR3⟩=>?_
  subst he3
  have Ij:w3.heap[w.heap.size+1]?=some (.loop rec):=(Gu.db.I _ (by rw[BX];exact .inr rfl)).2.trans S0
  have EB:=run_endLoop (P:=P) Ij (by rw[mZ];simp)
  have DJ:rec.pending=none:=by rw[mZ]
  rw[DJ]at EB
  refine⟨none,_,EB,?_⟩
  have BY:Fr (λi=>∃r z,c.R r=some z/\¬c.V r/\c.ρ r=i) w w3:=by
   have EC:=Gu.fr
   rw[BX]at EC
   refine⟨?_,?_,?_,by have:=EC.size;omega,λi hi Ik=>(EC.heap i (by omega) Ik).trans (Gt i hi)⟩
   ·have:=EC.os;rw[Gs,Ig]at this;exact this
   ·have:=EC.tape;rw[Gs,Ig]at this;exact this
   ·have:=EC.output;rw[Gs,Ig]at this;exact this
  have hN:jP ks c w c3 w3:=by
   refine⟨Gu.mem,?_,BY,λi hi=>?_,λr row hr hV=>?_⟩
   ·have g1:=Gu.db
    rw[BX]at g1
    refine⟨g1.base,g1.top,λi hi=>⟨(g1.I i (.inl hi)).1,(g1.I i (.inl hi)).2.trans (Gt i (hs.mem.fq i hi).1)⟩,λr row hr=>?_⟩
    obtain⟨ao,q1,q2,q3,q4,q5,q6,qV,q7⟩:=g1.R r row hr
    exact⟨ao,q1,q2,q3,q4,q5,q6,qV,λnv arr ha=>q7 nv arr ((Gt _ (Array.getElem?_eq_some_iff.1 ha).1).trans ha)⟩
   ·have:=Gu.fq i hi
    rw[BX]at this
    rcases this with(g|g)|g|g
    ·exact .inl g
    ·exact .inr (.inr (by omega))
    ·exact .inr (.inl g)
    ·exact .inr (.inr (by omega))
   ·have:=Gu.ov r row hr hV
    rw[BX]at this
    rcases this with g|g|g
    ·exact .inl g
    ·exact .inr (.inl g)
    ·exact .inr (.inr (by omega))
  have tU:mf w0.heap.size w3 ({target:=.collected w.heap.size,args:= #[]}::a.defers):=by
   obtain⟨bs,b1,b2,b3⟩:=hs.defers.step hs.mem BY
   refine⟨w.heap.size::bs,List.nodup_cons.2 ⟨λhm=>?_,b1⟩,by rw[b2];rfl,λi hi=>?_⟩
   ·obtain⟨bs',c1',c2',c3'⟩:=hs.defers
    rw[c2']at b2
    have:bs'=bs:=by
     have:=congrArg (List.map λ(d:Deferred)=>match d.target with|.collected i=>i|_=>0) b2
     simpa[bY,Function.comp_def]using this
    subst this
    have:=(Array.getElem?_eq_some_iff.1 (c3' _ hm).2).1
    omega
   ·rcases List.mem_cons.1 hi with e|e
    ·subst e
     refine⟨hs.reach.fr.size,?_⟩
     have EC:=Gu.fr
     rw[BX]at EC
     exact(EC.heap _ (by omega) fun⟨r,z,q1,q2,q3⟩=>by have:=Ih r z q1 q2;simp only at q3;omega).trans hD1
    ·exact b3 i e
  have hs3:fu N M c0 w0 c3 w3 ⟨si ks st.env,R'⟩ {a with defers:={target:=.collected w.heap.size,args:= #[]}::a.defers}:=
   ⟨Gu.mem,hR3,λt=>by rw[BP];exact Ad hN.db (Wz (hs.env t)),hs.size,tU,hs.gk,hs.ib,hs.reach.step h5 hs.ib hN⟩
  refine⟨.normal,⟨si ks st.env,R'⟩,_,rfl,hQ,hs3.Nt (b:=w.heap.size+1) (o:=.loop rec) (by have:=hs.reach.fr.size;omega) Ij (λ_ _ _ e=>by cases e) (Fk:=λk=>k<YB) (λk ws v hk hv=>?_) (λt k hk=>Nu nm (List.mem_append_left _ (WO hk))) (λr z hr k hk=>Nu nm (List.mem_append_right _ (WQ (by rw[<-hR3];exact hr) hk))) ?_⟩
  ·rcases hv with hv|⟨hv,_⟩
   ·exact .inl hv
   ·exact absurd hk (Nat.not_lt.2 hv)
  ·refine tU.to λi hi=>(World.putObj_heap_other λe=>?_).trans hi
   rw[e,Ij]at hi;cases hi
def AZ (T:iG)(G:List bc)(N M:Nat)(gb:List (Nat×cg))(rf:Option Nat):Nat->Code->St->(Ex->St->Prop)->Prop
 |0,_,_,_=>False
 |d + 1,code,st,Q=>match code with
  |.rangeFunc g _ _ _=>match rf with|some f=>Ib T G M f g st Q|none=>False
  |.loop c=>match Gp gb (keyOf c)with
   |some i=>∃(wu:i.α->Prop) (μ:i.α->Nat),wu (i.a0 st)/\fold M (i.jo st) st (i.F st (i.a0 st)).1 (i.F st (i.a0 st)).2/\∀a:i.α,wu a->px T G N M (AZ T G N M gb rf d) c ⟨(i.F st a).1,(i.F st a).2.map some⟩ λe jx=>match e with
    |.normal=>(wu (i.next jx)/\μ (i.next jx)<μ a)/\fold M (i.ex jx) jx (i.F st (i.next jx)).1 (i.F st (i.next jx)).2
    |.exit j=>Q (.exit j) jx
    |.ret=>Q .ret jx
   |none=>False
  |_=>False
abbrev LL(T:iG)(G:List bc)(N M:Nat)(gb:List (Nat×cg)):=AZ T G N M gb none
theorem Gv{P:Program}(hD:pP P){T:iG}(hT:jm P T){G:List bc}(hG:jF P G){N M:Nat}{gb:List (Nat×cg)}{rf:Option Nat}{ro:Option Nat}(DK:ro=none\/rf=none):∀(d:Nat) (code:Code) (st:St) (Q:Ex->St->Prop),RF rf N code->AZ T G N M gb rf d code st Q->tZ ro P N M code st Q
 |0,_,_,_,_,h=>h.elim
 |d + 1,code,st,Q,mL,h=>by
  unfold AZ at h
  split at h
  ·split at h
   ·rename_i f
    rcases DK with e|e
    ·subst e;exact Ns hG mL h
    ·cases e
   ·exact h.elim
  ·rename_i c
   split at h
   ·rename_i i hi
    obtain⟨wu,μ,h2,h3,h4⟩:=h
    have hc:RF rf N c:=by
     cases rf with
     |none=>trivial
     |some f=>exact mL
    refine xac (i.F st) wu μ (i.a0 st) (i.jo st) h2 h3 λa ha=>Tr.mono (λe jx hq=>?_) (Nv hD hT hG (Nw rf N) (Gv hD hT hG DK d) c _ _ hc (h4 a ha))
    cases e with
    |normal=>exact⟨_,_,hq.1.1,hq.1.2,hq.2⟩
    |exit j=>exact hq
    |ret=>exact hq
   ·exact h.elim
  ·exact h.elim
def ay(R:Rows)(r j:Nat):D:=match R.getD r none with|some row=>(row.es.get 0).getD j .dead|none=>.dead
def na(R:Rows)(r:Nat):ai:=match R.getD r none with|some row=>row.es|none=>.gen []
def nP(R:Rows)(r:Nat):List Int:=match R.getD r none with|some ⟨_,_,_,.ints _ l⟩=>l|_=>[]
def Zfg(R:Rows)(r:Nat):List Bool:=match R.getD r none with|some ⟨_,_,_,.ag l⟩=>l|_=>[]
def oX(k:RK)(R:Rows)(r:Nat):List (RK.T k):=match R.getD r none with|some ⟨_,_,_,.ah k' l⟩=>(match Gf k' k l with|some m=>m|none=>[])|_=>[]
def iD(d:D)(n:Nat):Nat:=match d with|.all r=>r|.own r _ _=>r|.ptr r _ _=>r|.pa r _ _ _ _ _=>r|_=>n
theorem Il{n:Int}(h1: -9223372036854775808<=n)(h2:n<=9223372036854775807):IntKind.wrap .i64 n=n:=by rw[IntKind.wrap_i64];omega
inductive nk where
 |sl (t:CT) (fr:Bool)
 |row (ty sz:Nat) (t:CT)
def Gw:CT->ai
 |.ints k=>.ints k []
 |.ag=>.ag []
 |.ah k=>.ah k []
 |_=>.gen []
def CT.iQ:CT->Nat
 |.ah k=>k.size
 |_=>1
def toCT:CT->ai->Option ai
 |.ints k,E=>match E.toI k with|some l=>some (.ints k l)|none=>none
 |.ag,E=>match E.toB with|some l=>some (.ag l)|none=>none
 |.ah k,E=>match E.toR k with|some l=>some (.ah k l)|none=>none
 |_,_=>none
theorem WR(t:CT):(Gw t).Nil:=by cases t<;>rfl
theorem Nx{t:CT}{E E':ai}(h:toCT t E=some E'):ai.Eq E E':=by
 cases t with
 |ints k=>
  simp only[toCT]at h
  split at h
  ·rename_i l hl
   cases h
   cases E with
   |ints k' m=>
    simp only[ai.toI]at hl
    split at hl
    ·rename_i hk;cases hl;simp only[ai.Eq,hk]
    ·cases hl
   |gen es=>cases es<;>simp[ai.toI]at hl;subst hl;rfl
   |ag m=>simp[ai.toI]at hl
   |ah k m=>simp[ai.toI]at hl
  ·cases h
 |ag=>
  simp only[toCT]at h
  split at h
  ·rename_i l hl
   cases h
   cases E with
   |ag m=>simp[ai.toB]at hl;subst hl;rfl
   |gen es=>cases es<;>simp[ai.toB]at hl;subst hl;rfl
   |ints k m=>simp[ai.toB]at hl
   |ah k m=>simp[ai.toB]at hl
  ·cases h
 |ah k=>
  simp only[toCT]at h
  split at h
  ·rename_i l hl
   cases h
   cases E with
   |ah k' m=>simp only[ai.toR]at hl;simp only[ai.Eq,hl]
   |gen es=>cases es<;>simp[ai.toR]at hl;subst hl;rfl
   |ints k m=>simp[ai.toR]at hl
   |ag m=>simp[ai.toR]at hl
  ·cases h
 |_=>simp[toCT]at h
structure jQ where
 ds:List nk
 ex:List (Nat×Row)
 fz:List Nat
def wx(m:Nat):List (Nat×Nat×Nat)->Bool
 |[]=>true
 |p::l=>bN p.1 m&&wx m l
def Im(m:Nat):List iJ->Bool
 |[]=>true
 |.ptr r _ _::l=>bN r m&&Im m l
 |.fn _ ps::l=>wx m ps&&Im m l
 |_=>false
theorem vc{m:Nat}{EX:List Nat}(hE:∀i,i<m->EX[i]?=some i):∀{ps:List (Nat×Nat×Nat)},wx m ps=true->sG EX ps ps=true
 |[],_=>rfl
 |(r,a,b)::l,h=>by
  simp only[wx,aE]at h
  simp only[sG,kb,hE r (lE h.1),vc hE h.2]
  simp
theorem zad(hE:∀i,i<m->EX[i]?=some i):∀{cs:List iJ},Im m cs=true->py EX cs cs=true:=by
 intro cs
 induction cs with
 |nil=>intro _;rfl
 |cons x l ih=>
  intro h
  cases x with
  |ptr r a b=>
   simp only[Im,aE]at h
   simp only[py,kb,hE r (lE h.1),ih h.2]
   simp
  |fn f ps=>
   simp only[Im,aE]at h
   simp only[py,vc hE h.1,ih h.2]
   simp
  |_=>simp[Im]at h
def S1(m:Nat)(R:Rows)(c:D)(s:jQ):Option (D×jQ):=
  match c with
  | .int k n=>some (.int k n,s)
  | .bool b=>some (.bool b,s)
  | .str x=>some (.str x,s)
  | .iO=>some (.iO,s)
  | .jN=>some (.jN,s)
  | .gr r=>match bN r m with|true=>some (.gr r,s)|false=>none
  | .ptr r o f=>match bN r m with|true=>some (.ptr r o f,s)|false=>none
  | .gx f cs=>match Im m cs with|true=>some (.gx f cs,s)|false=>none
  | .de=>match s with
    |⟨.sl t f::ds,ex,fz⟩=>some (.sl t.iQ (Gw t) f,⟨ds,ex,fz⟩)
    |⟨.row ty sz t::ds,ex,fz⟩=>match bN 0 sz with|true=>some (.all (m+ex.length),⟨ds,ex++[(R.length+ex.length,⟨false,ty,sz,Gw t⟩)],fz⟩)|false=>none
    |_=>none
  | .emp=>match s with
    |⟨.sl t f::ds,ex,fz⟩=>some (.sl t.iQ (Gw t) f,⟨ds,ex,fz⟩)
    |⟨.row ty sz t::ds,ex,fz⟩=>match bN 0 sz with|true=>some (.all (m+ex.length),⟨ds,ex++[(R.length+ex.length,⟨false,ty,sz,Gw t⟩)],fz⟩)|false=>none
    |_=>none
  | .sl n E fr=>match s with
    | ⟨.sl t f::ds,ex,fz⟩=>match toCT t E,(!f||fr)&&(bX n t.iQ||Io E) with
      |some E',true=>some (.sl t.iQ E' f,⟨ds,ex,fz⟩)
      |_,_=>none
    |_=>none
  | .all r=>match s with
    | ⟨.sl t f::ds,ex,fz⟩=>match R.getD r none with
      | some ⟨box,_,ka,E⟩=>match toCT t E,!box&&(bX ka t.iQ&&Nat.ble m r) with
        |some E',true=>some (.sl t.iQ E' f,⟨ds,ex,r::fz⟩)
        |_,_=>none
      |none=>none
    | ⟨.row ty sz t::ds,ex,fz⟩=>match bN r m with
      |true=>some (.all r,⟨ds,ex,fz⟩)
      | false=>match R.getD r none with
        | some ⟨box,jZ,ka,E⟩=>match toCT t E,!box&&(bX jZ ty&&bX ka sz) with
          |some E',true=>some (.all (m+ex.length),⟨ds,ex++[(r,⟨false,ty,sz,E'⟩)],fz⟩)
          |_,_=>none
        |none=>none
    |_=>none
  | .own r o n=>match s with
    | ⟨.sl t f::ds,ex,fz⟩=>match R.getD r none with
      | some ⟨box,_,ka,E⟩=>match toCT t ((E.drop o).take n),!box&&(bX ka t.iQ&&Nat.ble m r) with
        |some E',true=>some (.sl t.iQ E' f,⟨ds,ex,r::fz⟩)
        |_,_=>none
      |none=>none
    |_=>none
  |_=>none
def KC(m:Nat)(R:Rows):List D->jQ->Option (List D×jQ)
 |[],s=>some ([],s)
 |c ::cs,s=>match S1 m R c s with
  |some (c',s')=>match KC m R cs s' with
   |some (rT,Ip)=>some (c'::rT,Ip)
   |none=>none
  |none=>none
def ED(m:Nat)(R:Rows)(d:D)(s:jQ):Option (D×jQ):=
 match d with
 |.agg cs=>match KC m R cs s with|some (rT,s')=>some (.agg rT,s')|none=>none
 |d=>S1 m R d s
def sH(m:Nat)(R:Rows):List D->jQ->Option (List D×jQ)
 |[],s=>some ([],s)
 |c ::cs,s=>match ED m R c s with
  |some (c',s')=>match sH m R cs s' with
   |some (rT,Ip)=>some (c'::rT,Ip)
   |none=>none
  |none=>none
def Iq(m:Nat)(R:Rows)(d:D)(s:jQ):Option (D×jQ):=
 match d with
 |.ee ds=>match sH m R ds s with|some (ow,s')=>some (.ee ow,s')|none=>none
 |d=>ED m R d s
def KD(m:Nat)(R:Rows):Nat->Nat->jQ->Option (List Row×jQ)
 |0,_,s=>some ([],s)
 |n + 1,i,s=>match R.getD i none with
  |some ⟨true,ty,sz,.gen [e]⟩=>match KC m R e s with
   |some (e',s')=>match KD m R n (i+1) s' with
    |some (rs,Ip)=>some (⟨true,ty,sz,.gen [e']⟩::rs,Ip)
    |none=>none
   |none=>none
  |some ⟨false,ty,sz,E⟩=>match KD m R n (i+1) s with
   |some (rs,Ip)=>some (⟨false,ty,sz,E⟩::rs,Ip)
   |none=>none
  |_=>none
def EE(m:Nat)(ex:List (Nat×Row)):List Nat:=List.range m++ex.map (·.1)
def og(m:Nat)(ds:List nk)(d:D)(R:Rows)(K:D->List Row->Prop):Prop:=
 match Iq m R d ⟨ds,[],[]⟩with
 |some (d',s)=>match KD m R m 0 s with
  |some (rs,s')=>cv (sF m (EE m s'.ex)&&s'.fz.all (KE (EE m s'.ex))) (K d' (rs++s'.ex.map (·.2)))
  |none=>False
 |none=>False
def sI(R:Rows)(x:Nat×Row):Prop:=
 x.2.box=false/\match R.getD x.1 none with
 |some ⟨An,jZ,ka,jc⟩=>An=false/\jZ=x.2.ty/\ka=x.2.sz/\ai.Eq jc x.2.es
 |none=>0<x.2.sz/\x.2.es.Nil
structure oy(m:Nat)(R:Rows)(EX:List Nat)(s:jQ):Prop where
 at_:∀(i:Nat) x,s.ex[i]?=some x->EX[m+i]?=some x.1
 iq:∀x∈s.ex,sI R x
 out:∀r∈s.fz,KE EX r=true
def Ao(s s':jQ):Prop:=s.ex<+:s'.ex/\s.fz<:+s'.fz
theorem Ao.refl(s:jQ):Ao s s:=⟨bZ _,cA _⟩
theorem Ao.trans{a b c:jQ}(h:Ao a b)(g:Ao b c):Ao a c:=⟨h.1.trans g.1,h.2.trans g.2⟩
theorem qd(h:Io E=true):E.Nil:=ai.oz.2 (SK h)
theorem Ziw{c c':D}{s s':jQ}(h:S1 m R c s=some (c',s')):
    Ao s s'/\((∀x∈s.ex,sI R x)-> ∀x∈s'.ex,sI R x)/\ ∀EX:List Nat,(∀i,i<m->EX[i]? =some i)->oy m R EX s'->iT EX m R c c':=by
  have Ny: ∀{ty sz t},bN 0 sz=true->((∀x∈s.ex,sI R x)-> ∀x∈s.ex++[(R.length+s.ex.length,(⟨false,ty,sz,Gw t⟩:Row))],sI R x)/\
      ∀(EX:List Nat) (ds:List nk) (fz:List Nat),oy m R EX ⟨ds,s.ex++[(R.length+s.ex.length,(⟨false,ty,sz,Gw t⟩:Row))],fz⟩->Is EX R (m+s.ex.length)=true:=by
    intro ty sz t gd
    have hn:R.getD (R.length+s.ex.length) none=none:=by rw[aV,List.getElem?_eq_none (by omega)];rfl
    refine⟨λhg x hx=> ?_,λEX ds fz hG=> ?_⟩
    . simp only[cB,cC]at hx
      rcases hx with hx|rfl
      . exact hg x hx
      . refine⟨rfl,?_⟩
        simp only[hn]
        exact⟨lE gd,WR t⟩
    . have:=hG.at_ s.ex.length (R.length+s.ex.length,⟨false,ty,sz,Gw t⟩) (by simp)
      simp only[Is,this,hn]
  cases c<;>simp only[S1]at h<;>try(cases h;done)
  case int k n=>cases h;exact⟨.refl _,id,λEX _ _=>by simp [iT,cv]⟩
  case bool b=>cases h;exact⟨.refl _,id,λEX _ _=>by simp [iT]⟩
  case str x=>cases h;exact⟨.refl _,id,λEX _ _=>by simp [iT]⟩
  case iO=>cases h;exact⟨.refl _,id,λEX _ _=>by simp [iT]⟩
  case jN=>cases h;exact⟨.refl _,id,λEX _ _=>by simp [iT]⟩
  case gr r=>
    split at h
    . rename_i hr
      cases h
      refine⟨.refl _,id,λEX hE _=> ?_⟩
      have:=hE r (lE hr)
      simp only[iT,dm,kb,this]
      exact⟨by simp,trivial⟩
    . cases h
  case ptr r o f=>
    split at h
    . rename_i hr
      cases h
      refine⟨.refl _,id,λEX hE _=> ?_⟩
      have:=hE r (lE hr)
      simp only[iT,dm,kb,this]
      exact⟨by simp,trivial⟩
    . cases h
  case gx f cs=>
    split at h
    . rename_i hr
      cases h
      refine⟨.refl _,id,λEX hE _=> ?_⟩
      simp only[iT,dm,zad hE hr]
      exact⟨by simp,trivial⟩
    . cases h
  case de=>
    split at h
    . cases h;exact⟨.refl _,id,λEX _ _=>WR _⟩
    . split at h
      . rename_i gd
        cases h
        obtain⟨v1,v2⟩:=Ny gd
        exact⟨⟨cD _ _,cA _⟩,v1,λEX _ hG=>by simp only[iT,dm];exact⟨v2 EX _ _ hG,trivial⟩⟩
      . cases h
    . cases h
  case emp=>
    split at h
    . cases h;exact⟨.refl _,id,λEX _ _=>WR _⟩
    . split at h
      . rename_i gd
        cases h
        obtain⟨v1,v2⟩:=Ny gd
        exact⟨⟨cD _ _,cA _⟩,v1,λEX _ hG=>by simp only[iT,dm];exact⟨v2 EX _ _ hG,trivial⟩⟩
      . cases h
    . cases h
  case sl n E fr=>
    split at h
    . rename_i t f ds ex fz
      split at h
      . rename_i E' hE hb
        cases h
        simp only[aE,Bool.or_eq_true]at hb
        refine⟨.refl _,id,λEX _ _=> ?_⟩
        simp only[iT,dm]
        exact⟨by simpa using hb.1,hb.2.symm.imp qd bE,Nx hE⟩
      . cases h
    . cases h
  case all r =>
    split at h
    . rename_i t f ds ex fz
      split at h
      . rename_i box ty ka E hR
        split at h
        . rename_i E' hE hb
          cases h
          simp only[aE]at hb
          refine⟨⟨bZ _,cE _ _⟩,id,λEX _ hG=> ?_⟩
          simp only[iT,hR,dm,aE]
          exact⟨⟨⟨⟨hb.1,hb.2.1⟩,hG.out r (by simp)⟩,hb.2.2⟩,Nx hE⟩
        . cases h
      . cases h
    . rename_i ty sz t ds ex fz
      split at h
      . rename_i bg
        cases h
        refine⟨.refl _,id,λEX pZ hG=> ?_⟩
        simp only[iT,dm]
        have:=pZ r (lE bg)
        exact⟨by simp [kb,this],trivial⟩
      . split at h
        . rename_i box jZ ka E hR
          split at h
          . rename_i E' hE hb
            cases h
            simp only[aE,Bool.not_eq_true']at hb
            refine⟨⟨cD _ _,cA _⟩,λhg x hx=> ?_,λEX pZ hG=> ?_⟩
            . simp only[cB,cC]at hx
              rcases hx with hx|rfl
              . exact hg x hx
              . refine⟨rfl,?_⟩
                simp only[hR]
                exact⟨hb.1,bE hb.2.1,bE hb.2.2,Nx hE⟩
            . have:=hG.at_ ex.length (r,⟨false,ty,sz,E'⟩) (by simp)
              simp only[iT,dm]
              exact⟨by simp [kb,this],trivial⟩
          . cases h
        . cases h
    . cases h
  case own r o n=>
    split at h
    . rename_i t f ds ex fz
      split at h
      . rename_i box ty ka E hR
        split at h
        . rename_i E' hE hb
          cases h
          simp only[aE]at hb
          refine⟨⟨bZ _,cE _ _⟩,id,λEX _ hG=> ?_⟩
          simp only[iT,hR,dm,aE]
          exact⟨⟨⟨⟨hb.1,hb.2.1⟩,hG.out r (by simp)⟩,hb.2.2⟩,Nx hE⟩
        . cases h
      . cases h
    . cases h
theorem oy.mono{s s':jQ}(hl:Ao s s')(h:oy m R EX s'):oy m R EX s:=
 ⟨λi x hx=>h.at_ i x (by
  obtain⟨t,ht⟩:=hl.1
  rw[<-ht,bI (List.getElem?_eq_some_iff.1 hx).1];exact hx),λx hx=>h.iq x (hl.1.subset hx),λr hr=>h.out r (hl.2.subset hr)⟩
theorem WS{m:Nat}{R:Rows}:∀{cs rT:List D} {s s':jQ},KC m R cs s=some (rT,s')->
 Ao s s'/\((∀x∈s.ex,sI R x)->∀x∈s'.ex,sI R x)/\∀EX:List Nat,(∀i,i<m->EX[i]?=some i)->oy m R EX s'->DL EX m R cs rT
 |[],rT,s,s',h=>by simp only[KC]at h;cases h;exact⟨.refl _,id,λ_ _ _=>trivial⟩
 |c ::cs,rT,s,s',h=>by
  simp only[KC]at h
  split at h
  ·rename_i c1 s1 h1
   split at h
   ·rename_i cs1 s2 h2
    cases h
    obtain⟨a1,a2,a3⟩:=Ziw h1
    obtain⟨b1,b2,b3⟩:=WS h2
    exact⟨a1.trans b1,λh=>b2 (a2 h),λEX pZ hG=>⟨a3 EX pZ (hG.mono b1),b3 EX pZ hG⟩⟩
   ·cases h
  ·cases h
theorem xd{s s':jQ}(h:ED m R d s=some (d',s')):
 Ao s s'/\((∀x∈s.ex,sI R x)->∀x∈s'.ex,sI R x)/\∀EX:List Nat,(∀i,i<m->EX[i]?=some i)->oy m R EX s'->pz EX m R d d':=by
 unfold ED at h
 split at h
 ·rename_i cs
  split at h
  ·rename_i rT s1 h1
   cases h
   exact WS h1
  ·cases h
 ·rename_i ia
  obtain⟨a1,a2,a3⟩:=Ziw h
  refine⟨a1,a2,λEX pZ hG=>?_⟩
  have h3:=a3 EX pZ hG
  cases d' with
  |agg ps=>simp[iT]at h3
  |_=>exact h3
theorem Zq{m:Nat}{R:Rows}:∀{cs rT:List D} {s s':jQ},sH m R cs s=some (rT,s')->
 Ao s s'/\((∀x∈s.ex,sI R x)->∀x∈s'.ex,sI R x)/\∀EX:List Nat,(∀i,i<m->EX[i]?=some i)->oy m R EX s'->wy EX m R cs rT
 |[],rT,s,s',h=>by simp only[sH]at h;cases h;exact⟨.refl _,id,λ_ _ _=>trivial⟩
 |c ::cs,rT,s,s',h=>by
  simp only[sH]at h
  split at h
  ·rename_i c1 s1 h1
   split at h
   ·rename_i cs1 s2 h2
    cases h
    obtain⟨a1,a2,a3⟩:=xd h1
    obtain⟨b1,b2,b3⟩:=Zq h2
    exact⟨a1.trans b1,λh=>b2 (a2 h),λEX pZ hG=>⟨a3 EX pZ (hG.mono b1),b3 EX pZ hG⟩⟩
   ·cases h
  ·cases h
theorem xad{s s':jQ}(h:Iq m R d s=some (d',s')):
 Ao s s'/\((∀x∈s.ex,sI R x)->∀x∈s'.ex,sI R x)/\∀EX:List Nat,(∀i,i<m->EX[i]?=some i)->oy m R EX s'->sE EX m R d d':=by
 unfold Iq at h
 split at h
 ·rename_i cs
  split at h
  ·rename_i rT s1 h1
   cases h
   exact Zq h1
  ·cases h
 ·rename_i ia
  obtain⟨a1,a2,a3⟩:=xd h
  refine⟨a1,a2,λEX pZ hG=>?_⟩
  have h3:=a3 EX pZ hG
  cases d' with
  |ee ps=>simp[pz,iT]at h3
  |_=>exact h3
theorem WT{m:Nat}{R:Rows}:∀{n i:Nat} {rs:List Row} {s s':jQ},KD m R n i s=some (rs,s')->
 Ao s s'/\((∀x∈s.ex,sI R x)->∀x∈s'.ex,sI R x)/\∀EX:List Nat,(∀i,i<m->EX[i]?=some i)->oy m R EX s'->lT EX m R (bO i n) rs
 |0,i,rs,s,s',h=>by simp only[KD]at h;cases h;exact⟨.refl _,id,λ_ _ _=>trivial⟩
 |n + 1,i,rs,s,s',h=>by
  simp only[KD]at h
  split at h
  ·rename_i ty sz e hR
   split at h
   ·rename_i e1 s1 h1
    split at h
    ·rename_i rs1 s2 h2
     cases h
     obtain⟨a1,a2,a3⟩:=WS h1
     obtain⟨b1,b2,b3⟩:=WT h2
     refine⟨a1.trans b1,λh=>b2 (a2 h),λEX pZ hG=>?_⟩
     rw[cF]
     simp only[lT,hR,dm]
     exact⟨⟨by simp,a3 EX pZ (hG.mono b1)⟩,b3 EX pZ hG⟩
    ·cases h
   ·cases h
  ·rename_i ty sz E hR
   split at h
   ·rename_i rs1 s2 h2
    cases h
    obtain⟨b1,b2,b3⟩:=WT h2
    refine⟨b1,b2,λEX pZ hG=>?_⟩
    rw[cF]
    simp only[lT,hR,dm]
    refine⟨⟨by simp,?_⟩,b3 EX pZ hG⟩
    cases E with
    |gen es=>cases es<;>simp[ai.Eq]
    |ah k l=>simp[ai.Eq,Wq]
    |_=>simp[ai.Eq]
   ·cases h
  ·cases h
theorem Quv{ex:List Nat}{m:Nat}{R:Rows}:∀{l1 l2:List Nat} {p1 p2:List Row},lT ex m R l1 p1->lT ex m R l2 p2->lT ex m R (l1++l2) (p1++p2)
 |[],l2,[],p2,_,h=>h
 |r::l1,l2,p::p1,p2,h1,h2=>by
  simp only[List.cons_append,lT]at h1⊢
  exact⟨h1.1,Quv h1.2 h2⟩
 |[],_,_::_,_,h,_=>h.elim
 |_::_,_,[],_,h,_=>h.elim
theorem Zb9{ex:List Nat}{m:Nat}{R:Rows}:∀{l:List (Nat×Row)},(∀x∈l,sI R x)->lT ex m R (l.map (·.1)) (l.map (·.2))
 |[],_=>trivial
 |(r,⟨box,ty,sz,es⟩)::l,h=>by
  simp only[List.map_cons,lT]
  refine⟨?_,Zb9 λx hx=>h x (by simp[hx])⟩
  obtain⟨h1,h2⟩:=h (r,⟨box,ty,sz,es⟩) (by simp)
  simp only at h1 h2
  subst h1
  split
  ·rename_i An jZ ka jc hR
   simp only[hR]at h2
   obtain⟨rfl,rfl,rfl,h2⟩:=h2
   simp only[dm]
   exact⟨by simp,h2⟩
  ·rename_i hR
   simp only[hR]at h2
   simp only[dm]
   exact⟨by simpa using h2.1,h2.2⟩
theorem Zbs{ds:List nk}{K:D->List Row->Prop}(h:og m ds d R K):∃res rows,K res rows/\Ap m res rows d R:=by
 unfold og at h
 split at h
 ·rename_i d' s h1
  split at h
  ·rename_i rs s' h2
   simp only[dm,aE]at h
   obtain⟨⟨hx,hf⟩,hK⟩:=h
   obtain⟨a1,a2,a3⟩:=xad h1
   obtain⟨b1,b2,b3⟩:=WT h2
   have Gx:∀x∈s'.ex,sI R x:=b2 (a2 λx hx=>by simp at hx)
   have pZ:∀i,i<m->(EE m s'.ex)[i]?=some i:=λi hi=>by
    unfold EE
    rw[bI (by simpa using hi)];simp[hi]
   have hG:oy m R (EE m s'.ex) s':=⟨λi x hx=>by
    unfold EE
    rw[List.getElem?_append_right (by simp)]
    simp[hx],Gx,λr hr=>List.all_eq_true.1 hf r hr⟩
   refine⟨d',_,hK,EE m s'.ex,hx,a3 _ pZ (hG.mono b1),?_⟩
   have h3:=b3 _ pZ hG
   have:EE m s'.ex=bO 0 m++s'.ex.map (·.1):=by unfold EE;rw[List.range_eq_range']
   refine Eq.mpr ?_ (Quv h3 (Zb9 Gx))
   rw[<-this]
  ·exact h.elim
 ·exact h.elim

import Derived.Test.YthjfindbamdacaaGreatDoorAuditScriptsDraw
import Derived.IntWalk
open List renaming getD->aK,ext_getElem->bN,map_map->bU,prefix_refl->bV,suffix_refl->bW,mem_append->bX,mem_singleton->bY,prefix_append->bZ,suffix_cons->cA,getElem?_append_left->aZ,range'->bK,range'_succ->cB
open Nat renaming beq->bT,blt->bJ
set_option linter.all false
namespace Go.GD
open Go
def sC(ex:List Nat)(M:Nat)(R:Rows)(d p:D):Prop:=
 match p with
 |.dead=>True
 |.ptr i o f=>match d with|.ptr r o' f'=>cr (kH ex i r) (o'=o/\f'=f)|_=>False
 |.iu sz es i off=>match d with|.iu kB jc i' iP=>kB=sz/\ao.Eq jc es/\i'=i/\iP=off|_=>False
 |p=>Au ex M R d p
def Cb(ex:List Nat)(M:Nat)(R:Rows)(env:List (Nat×D)):List (Nat×D)->Prop
 |[]=>True
 |(t,p)::l=>sC ex M R (look env t) p/\Cb ex M R env l
def fold(M:Nat)(ex:List Nat)(st:St)(mn:List (Nat×D))(aj:List Row):Prop:=
 cr (Av M ex) (Cb ex M st.rows st.env mn/\na ex M st.rows ex aj)
theorem xc{c:Ctx}{w:World}{ex:List Nat}{m:Nat}{R:Rows}{rows:List Row}(hm:Mem c w)(hR:∀r,c.R r=R.getD r none)(cw:na ex m R ex rows)(fi:∀r row,c.R r=some row->¬c.V r->m<=r->c.base<=c.ρ r){d p:D}{v:Value}(h:sC ex m R d p)(hr:Rep c w d v):Rep (c.out ex rows) w p v:=by
 have nG:∀b,c.I b->(c.out ex rows).I b/\w.heap[b]?=w.heap[b]? :=λb hb=>⟨.inl hb,rfl⟩
 cases p with
 |dead=>trivial
 |ptr i o f=>
  simp only[sC]at h
  split at h
  ·rename_i r o' f'
   simp only[da]at h
   obtain⟨hx,rfl,rfl⟩:=h
   exact SP (w:=w) hR cw hx hr
  ·exact h.elim
 |iu sz es i off=>
  simp only[sC]at h
  split at h
  ·obtain⟨rfl,he,rfl,rfl⟩:=h
   have he:=ao.Aw he
   obtain⟨b,o,arr,ty,fz,h1,h2,h3,h4,h5⟩:=hr
   rw[he]at h3 h5
   exact⟨b,o,arr,ty,fz,h1,.inl h2,h3,h4,od nG _ _ _ _ h5⟩
  ·exact h.elim
 |_=>
  simp only[sC]at h
  exact SQ hm hR cw fi h hr
theorem Zew{c:Ctx}{w:World}{ex:List Nat}{m:Nat}{R:Rows}{rows:List Row}(hm:Mem c w)(hR:∀r,c.R r=R.getD r none)(cw:na ex m R ex rows)(fi:∀r row,c.R r=some row->¬c.V r->m<=r->c.base<=c.ρ r){env:List (Nat×D)}{a:Act}(he:∀t,Rep c w (look env t) (a.tmps.getD t undef)):
 ∀{mn:List (Nat×D)},Cb ex m R env mn->∀t,Rep (c.out ex rows) w (look mn t) (a.tmps.getD t undef)
 |[],_,t=>trivial
 |(u,p)::l,h,t=>by
  have:=Zew hm hR cw fi he h.2 t
  rw[Bl]
  split
  ·rename_i e
   subst e
   exact xc hm hR cw fi h.1 (he u)
  ·exact this
theorem zc{N M:Nat}{c0:Ctx}{w0:World}{c:Ctx}{w:World}{st:St}{a:Act}(hs:fw N M c0 w0 c w st a){ex:List Nat}{mn:List (Nat×D)}{aj:List Row}(h:fold M ex st mn aj):∃c',fw N M c0 w0 c' w ⟨mn,aj.map some⟩ a:=by
 unfold fold at h
 simp only[da]at h
 obtain⟨hex,hE,cw⟩:=h
 obtain⟨fi,gy,gd⟩:=SR hs hex cw
 refine⟨c.out ex aj,gy,λr=>?_,Zew hs.mem hs.rows cw fi hs.env hE,hs.size,hs.defers,hs.gh,hs.gw,gd⟩
 simp only[Ctx.out,aK,List.getElem?_map]
 cases aj[r]? <;>rfl
theorem Tr.mono{ro:Option Nat}{P:Program}{N M:Nat}{code:Code}{st:St}{Q Q':Ex->St->Prop}(hq:∀e st,Q e st->Q' e st)(h:tU ro P N M code st Q):tU ro P N M code st Q':=
 λc0 w0 c w a hs=>wpIn_mono (h c0 w0 c w a hs) λe a' w' ⟨ex,ju,c',h1,h2,h3⟩=>⟨ex,ju,c',h1,hq _ _ h2,h3⟩
theorem zaf{ro:Option Nat}{P:Program}{N M:Nat}{code:Code}{st:St}{Q:Ex->St->Prop}{α:Type}(F:α->List (Nat×D)×List Row)(wv:α->Prop)(μ:α->Nat)
 (a0:α) (jn:List Nat) (hp:wv a0) (h0:fold M jn st (F a0).1 (F a0).2)
 (round:∀a,wv a->tU ro P N M code ⟨(F a).1,(F a).2.map some⟩ λe ju=>match e with
  |.normal=>∃b ex,wv b/\μ b<μ a/\fold M ex ju (F b).1 (F b).2
  |.exit i=>Q (.exit i) ju
  |.ret=>Q .ret ju):tU ro P N M (.loop code) st Q:=by
 intro c0 w0 c w a hs
 have key:∀(n:Nat) (x:α),wv x->μ x<n->∀(c:Ctx) (w:World) (a:Act),fw N M c0 w0 c w ⟨(F x).1,(F x).2.map some⟩ a->
  Code.roundsIn (Bo ro) 0 P code (λe a' w'=>∃ex ju c',mW e=some ex/\Q ex ju/\fw N M c0 w0 c' w' ju a') n a w:=by
  intro n
  induction n with
  |zero=>intro x _ h;omega
  |succ n ih=>
   intro x hx cg c w a hs
   rw[roundsIn_succ]
   refine wpIn_mono (round x hx c0 w0 c w a hs) λe a' w' hq=>?_
   obtain⟨ex,ju,c',he,hq,ji⟩:=hq
   cases e<;>simp only[mW,Option.some.injEq,reduceCtorEq]at he
   ·subst he
    obtain⟨b,ex,h1,h2,h3⟩:=hq
    obtain⟨SS,WJ⟩:=zc ji h3
    exact ih b h1 (by omega) SS w' a' WJ
   ·subst he;exact⟨_,ju,c',rfl,hq,ji⟩
   ·subst he;exact⟨_,ju,c',rfl,hq,ji⟩
 obtain⟨c',ji⟩:=zc hs h0
 exact wpIn_loop_rounds _ (key (μ a0+1) a0 hp (by omega) c' w a ji)
structure bu where
 α:Type
 F:St->α->List (Nat×D)×List Row
 a0:St->α
 jn:St->List Nat
 next:St->α:=a0
 ex:St->List Nat:=jn
structure Ask(p:Prop):Prop where
 ok:p
def keyOf:Code->Nat
 |.region id _ _=>id
 |.block id _=>id
 |.seq a _=>keyOf a
 |.loop a=>keyOf a
 |_=>0
def Gk:List (Nat×bu)->Nat->Option bu
 |[],_=>none
 |(k,i)::l,n=>match bT k n with|true=>some i|false=>Gk l n
def Ix(T:fq)(G:List bc)(M f:Nat)(g:Operand)(st:St)(Q:Ex->St->Prop):Prop:=
 match bq st.env g with
 |.gq gf cs=>match KJ ((yTs f).map (look st.env)),o8 G gf with
  |some ys,some k=>Iv T ys st.env st.rows λR=>cr (bJ gf YB)<|Io G M gf k (.gq f ys::cs.map iv.d) R λks _ R=>Gl ks st.env λenv=>cr (sD (Ax env++Gm R)) (Q .normal ⟨env,R⟩)
  |_,_=>False
 |_=>False
def evL(ds:List D):Operand->D|.tmp i=>ds.getD i .dead|_=>.dead
def opsL(n:Nat):List Operand:=(List.range n).map Operand.tmp
theorem xaf{ds:List D}:(opsL ds.length).map (evL ds)=ds:=by
 refine bN (by simp[opsL]) λi h1 h2=>?_
 simp[opsL,evL,aK,h2]
def Iy(vs:List Value):Operand->Value|.tmp i=>vs.getD i undef|_=>undef
theorem vG{vs:List Value}{n:Nat}(h:n=vs.length):(opsL n).map (Iy vs)=vs:=by
 subst h
 refine bN (by simp[opsL]) λi h1 h2=>?_
 simp[opsL,Iy,aK,h2]
theorem yc{c:Ctx}{w:World}:∀{ds:List D} {vs:List Value},j8 c w ds vs->∀i,Rep c w (ds.getD i .dead) (vs.getD i undef)
 |[],[],_,i=>by simp[aK];trivial
 |d::ds,v::vs,h,0=>by simpa using h.1.toRep
 |d::ds,v::vs,h,i+1=>by simpa using yc h.2 i
 |[],_::_,h,_=>h.elim
 |_::_,[],h,_=>h.elim
theorem Z94{c:Ctx}{w:World}:∀{cs:List iv} {us:List Value},oM c w cs us->j8 c w (cs.map iv.d) us
 |[],[],_=>trivial
 |x::cs,u::us,h=>⟨VRep.EK (Wv.1 h.1),Z94 h.2⟩
 |[],_::_,h=>h.elim
 |_::_,[],h=>h.elim
theorem Nv{P:Program}{G:List bc}(hG:jT P G){N M f:Nat}{g:Operand}{ps:Array Tmp}{x b:Code}(nt:RF (some f) N (.rangeFunc g ps x b)){st:St}{Q:Ex->St->Prop}{T:fq}(h:Ix T G M f g st Q):Tr P N M (.rangeFunc g ps x b) st Q:=by
 intro c0 w0 c w a hs
 obtain⟨y,⟨hy,hn,EO,pK,h1⟩,he⟩:=nt
 unfold Ix at h
 split at h
 rotate_left
 ·exact h.elim
 rename_i gf cs hg
 split at h
 rotate_left
 ·exact h.elim
 rename_i ys k SU lR
 obtain⟨R0,c,h,hs⟩:=Gj h hs
 simp only[da]at h
 obtain⟨Iz,h⟩:=h
 have Iz:=lE Iz
 rw[<-xaf (ds:=.gq f ys::cs.map iv.d)]at h
 obtain⟨ks,val,R',X,h2,h3,h4,h5,h6⟩:=Wx hG lR h
 obtain⟨dw,hf⟩:=Gg hG h3
 rw[Ip]at h2
 obtain⟨oL,hQ⟩:=h2
 have SV:Rep c w (bq st.env g) (a.eval g):=Nn hs.env g
 rw[hg]at SV
 obtain⟨us,⟨_,SV⟩|⟨WK,_⟩,EP⟩:=SV
 rotate_left
 ·exact absurd Iz (Nat.not_lt.2 WK)
 refine wpIn_rangeFunc λfn _=>?_
 obtain⟨rec,mY⟩:∃rec:Loop,rec={state:=.ready,pending:=none,fn,tmps:=a.tmps,params:=ps,assign:=x,body:=b,defers:=w.heap.size}:=⟨_,rfl⟩
 obtain⟨wd,IA⟩:∃wd,wd=w.alloc (.deferred (some [])):=⟨_,rfl⟩
 obtain⟨w1,Gn⟩:∃w1,w1=wd.alloc (.loop rec):=⟨_,rfl⟩
 have hsd:wd.heap.size=w.heap.size+1:=by rw[IA];simp
 have mK:w1.heap.size=w.heap.size+2:=by rw[Gn];simp[hsd]
 have SW:w1.heap[w.heap.size+1]?=some (.loop rec):=by rw[Gn,<-hsd];exact World.alloc_heap_new wd _
 have hD1:w1.heap[w.heap.size]?=some (.deferred (some [])):=by
  rw[Gn];refine(Ay wd _ _ (by omega)).trans ?_;rw[IA];exact World.alloc_heap_new w _
 have Gp:∀i,i<w.heap.size->w1.heap[i]?=w.heap[i]? :=λi hi=>by
  rw[Gn];refine(Ay wd _ _ (by omega)).trans ?_;rw[IA];exact Ay w _ _ hi
 obtain⟨c1,Cc⟩:∃c1:Ctx,c1={c with I:=λi=>c.I i\/i=w.heap.size+1}:=⟨_,rfl⟩
 have wx:jk c w c1 w1:=by
  rw[Cc]
  exact⟨rfl,Nat.le_refl _,λi hi=>⟨.inl hi,Gp i (hs.mem.fu i hi).1⟩,λr z hr=>⟨z,hr,rfl,rfl,rfl,rfl,rfl,Iff.rfl,λhV arr ha=>⟨arr,(Gp _ (Array.getElem?_eq_some_iff.1 ha).1).trans ha,rfl⟩⟩⟩
 have IB:∀r z,c.R r=some z->¬c.V r->c.ρ r<w.heap.size:=λr z hr hV=>by
  rcases hs.mem.row r z hr with h|⟨_,arr,h,_⟩
  ·exact(hV h.1).elim
  ·exact(Array.getElem?_eq_some_iff.1 h).1
 have Iw:Mem c1 w1:=by
  have wx:=wx
  rw[Cc]at wx⊢
  refine⟨λr z hr=>tX wx rfl Iff.rfl (λnv=>Gp _ (IB r z hr nv)) (hs.mem.row r z hr),hs.mem.inj,λi hi=>?_,by have:=hs.mem.top;show c.top<=_;omega,hs.mem.kN.mono wx.I⟩
  rcases hi with hi|hi
  ·have:=(hs.mem.fu i hi).1;exact⟨by omega,(hs.mem.fu i hi).2⟩
  ·exact⟨by omega,λr z hr hV=>by have:=IB r z hr hV;show c.ρ r≠i;omega⟩
 have IC:Rep c1 w1 (.gq f ys) (.func (.yield (w.heap.size+1)) #[] #[]):=by
  refine⟨y.ts.map λt=>a.tmps.getD t undef,.inr ⟨pK,w.heap.size+1,rec,rfl,by rw[Cc];exact .inr rfl,SW,by rw[mY],by rw[mY],y,hy,?_⟩,?_⟩
  ·cases he
   rw[mY]
   exact⟨rfl,rfl,rfl,Nat.le_trans hn hs.size,h1,rfl⟩
  ·have:=WL (c:=c1) (w:=w1) (ev:=bq st.env) (ρ:=a.eval) (xs:=y.ts.map Operand.tmp) (cs:=ys) (by rw[EO,bU];exact SU) (λz hz=>Ak wx (Nn hs.env z))
   rw[bU]at this
   exact this
 have WM:j8 c1 w1 (cs.map iv.d) us:=WN wx (Z94 EP)
 have iR:j8 c1 w1 (.gq f ys::cs.map iv.d) (.func (.yield (w.heap.size+1)) #[] #[]::us):=⟨IC,WM⟩
 have hlen:(D.gq f ys::cs.map iv.d).length=(Value.func (.yield (w.heap.size+1)) #[] #[]::us).length:=by simp[EP.length]
 have mq:=(h6 c1 w1 (Iy (.func (.yield (w.heap.size+1)) #[] #[]::us)) Iw (by rw[Cc];have:=hs.base;show c.base<=_;omega) (by rw[Cc];exact hs.rows) (λz hz=>by
  simp only[opsL,List.mem_map,List.mem_range]at hz
  obtain⟨i,_,rfl⟩:=hz
  exact yc iR i) (λv w'=>∃c',jF ks c1 w1 c' w'/\(∀r,c'.R r=R'.getD r none)) λv w' c' hn hR _=>⟨c',hn,hR⟩).1 Iz
 rw[vG hlen]at mq
 refine⟨w.heap.size+1,[{target:=.collected w.heap.size,args:= #[]}],w1,{target:=.fn (.func gf) us.toArray,args:= #[.func (.yield (w.heap.size+1)) #[] #[]]},w1,gf,(Value.func (.yield (w.heap.size+1)) #[] #[]::us).toArray,w1,?_,?_,?_,?_,λe=>(by cases e),?_⟩
 ·rw[Gn,IA,mY];exact run_enterLoop_outer _ _ _ _ _
 ·simp only[resolve,SV]
  simp[go_sem]
 ·intro f' _;trivial
 ·simp only[invoke]
  rw[<-hf,dw.enters (by rw[hf];exact Iz)]
  congr 2
  simp
 ·refine CallsIn.mono (callsIn_wide.2 mq) λe w3 ⟨v,he3,c3,Gq,hR3⟩=>?_
  subst he3
  have ID:w3.heap[w.heap.size+1]?=some (.loop rec):=(Gq.bz.I _ (by rw[Cc];exact .inr rfl)).2.trans SW
  have ER:=run_endLoop (P:=P) ID (by rw[mY];simp)
  have DK:rec.pending=none:=by rw[mY]
  rw[DK]at ER
  refine⟨none,_,ER,?_⟩
  have Cd:Fr (λi=>∃r z,c.R r=some z/\¬c.V r/\c.ρ r=i) w w3:=by
   have ES:=Gq.fr
   rw[Cc]at ES
   refine⟨?_,?_,?_,by have:=ES.size;omega,λi hi IE=>(ES.heap i (by omega) IE).trans (Gp i hi)⟩
   ·have:=ES.os;rw[Gn,IA]at this;exact this
   ·have:=ES.tape;rw[Gn,IA]at this;exact this
   ·have:=ES.output;rw[Gn,IA]at this;exact this
  have hN:jF ks c w c3 w3:=by
   refine⟨Gq.mem,?_,Cd,λi hi=>?_,λr row hr hV=>?_⟩
   ·have g1:=Gq.bz
    rw[Cc]at g1
    refine⟨g1.base,g1.top,λi hi=>⟨(g1.I i (.inl hi)).1,(g1.I i (.inl hi)).2.trans (Gp i (hs.mem.fu i hi).1)⟩,λr row hr=>?_⟩
    obtain⟨ak,q1,q2,q3,q4,q5,q6,qV,q7⟩:=g1.R r row hr
    exact⟨ak,q1,q2,q3,q4,q5,q6,qV,λnv arr ha=>q7 nv arr ((Gp _ (Array.getElem?_eq_some_iff.1 ha).1).trans ha)⟩
   ·have:=Gq.fu i hi
    rw[Cc]at this
    rcases this with(g|g)|g|g
    ·exact .inl g
    ·exact .inr (.inr (by omega))
    ·exact .inr (.inl g)
    ·exact .inr (.inr (by omega))
   ·have:=Gq.og r row hr hV
    rw[Cc]at this
    rcases this with g|g|g
    ·exact .inl g
    ·exact .inr (.inl g)
    ·exact .inr (.inr (by omega))
  have Ce:mc w0.heap.size w3 ({target:=.collected w.heap.size,args:= #[]}::a.defers):=by
   obtain⟨bs,b1,b2,b3⟩:=hs.defers.step hs.mem Cd
   refine⟨w.heap.size::bs,List.nodup_cons.2 ⟨λhm=>?_,b1⟩,by rw[b2];rfl,λi hi=>?_⟩
   ·obtain⟨bs',c1',c2',c3'⟩:=hs.defers
    rw[c2']at b2
    have:bs'=bs:=by
     have:=congrArg (List.map λ(d:Deferred)=>match d.target with|.collected i=>i|_=>0) b2
     simpa[bU,Function.comp_def]using this
    subst this
    have:=(Array.getElem?_eq_some_iff.1 (c3' _ hm).2).1
    omega
   ·rcases List.mem_cons.1 hi with e|e
    ·subst e
     refine⟨hs.reach.fr.size,?_⟩
     have ES:=Gq.fr
     rw[Cc]at ES
     exact(ES.heap _ (by omega) fun⟨r,z,q1,q2,q3⟩=>by have:=IB r z q1 q2;simp only at q3;omega).trans hD1
    ·exact b3 i e
  have hs3:fw N M c0 w0 c3 w3 ⟨se ks st.env,R'⟩ {a with defers:={target:=.collected w.heap.size,args:= #[]}::a.defers}:=
   ⟨Gq.mem,hR3,λt=>by rw[BV];exact Ak hN.bz (WB (hs.env t)),hs.size,Ce,hs.gh,hs.gw,hs.reach.step h5 hs.gw hN⟩
  refine⟨.normal,⟨se ks st.env,R'⟩,_,rfl,hQ,hs3.Nw (b:=w.heap.size+1) (o:=.loop rec) (by have:=hs.reach.fr.size;omega) ID (λ_ _ _ e=>by cases e) (Fk:=λk=>k<YB) (λk ws v hk hv=>?_) (λt k hk=>Nx oL (List.mem_append_left _ (WO hk))) (λr z hr k hk=>Nx oL (List.mem_append_right _ (WQ (by rw[<-hR3];exact hr) hk))) ?_⟩
  ·rcases hv with hv|⟨hv,_⟩
   ·exact .inl hv
   ·exact absurd hk (Nat.not_lt.2 hv)
  ·refine Ce.to λi hi=>(World.putObj_heap_other λe=>?_).trans hi
   rw[e,ID]at hi;cases hi
def Cf (T:fq)(G:List bc)(N M:Nat)(h8:List (Nat×bu))(rf:Option Nat):Nat->Code->St->(Ex->St->Prop)->Prop
 |0,_,_,_=>False
 |d + 1,code,st,Q=>match code with
  |.rangeFunc g _ _ _=>match rf with|some f=>Ix T G M f g st Q|none=>False
  |.loop c=>match Gk h8 (keyOf c)with
   |some i=>∃(wv:i.α->Prop) (μ:i.α->Nat),wv (i.a0 st)/\fold M (i.jn st) st (i.F st (i.a0 st)).1 (i.F st (i.a0 st)).2/\∀a:i.α,wv a->ph T G N M (Cf T G N M h8 rf d) c ⟨(i.F st a).1,(i.F st a).2.map some⟩ λe ju=>match e with
    |.normal=>(wv (i.next ju)/\μ (i.next ju)<μ a)/\fold M (i.ex ju) ju (i.F st (i.next ju)).1 (i.F st (i.next ju)).2
    |.exit j=>Q (.exit j) ju
    |.ret=>Q .ret ju
   |none=>False
  |_=>False
abbrev LL(T:fq)(G:List bc)(N M:Nat)(h8:List (Nat×bu)):=Cf T G N M h8 none
theorem wy{P:Program}(hD:Qf P){T:fq}(hT:jz P T){G:List bc}(hG:jT P G){N M:Nat}{h8:List (Nat×bu)}{rf:Option Nat}{ro:Option Nat}(DL:ro=none\/rf=none):∀(d:Nat) (code:Code) (st:St) (Q:Ex->St->Prop),RF rf N code->Cf T G N M h8 rf d code st Q->tU ro P N M code st Q
 |0,_,_,_,_,h=>h.elim
 |d + 1,code,st,Q,nt,h=>by
  unfold Cf at h
  split at h
  ·split at h
   ·rename_i f
    rcases DL with e|e
    ·subst e;exact Nv hG nt h
    ·cases e
   ·exact h.elim
  ·rename_i c
   split at h
   ·rename_i i hi
    obtain⟨wv,μ,h2,h3,h4⟩:=h
    have hc:RF rf N c:=by
     cases rf with
     |none=>trivial
     |some f=>exact nt
    refine zaf (i.F st) wv μ (i.a0 st) (i.jn st) h2 h3 λa ha=>Tr.mono (λe ju hq=>?_) (Ny hD hT hG (Nz rf N) (wy hD hT hG DL d) c _ _ hc (h4 a ha))
    cases e with
    |normal=>exact⟨_,_,hq.1.1,hq.1.2,hq.2⟩
    |exit j=>exact hq
    |ret=>exact hq
   ·exact h.elim
  ·exact h.elim
def iS(R:Rows)(r j:Nat):D:=match R.getD r none with|some row=>(row.es.get 0).getD j .dead|none=>.dead
def pj(R:Rows)(r:Nat):ao:=match R.getD r none with|some row=>row.es|none=>.gen []
def oP(R:Rows)(r:Nat):List Int:=match R.getD r none with|some ⟨_,_,_,.ints _ l⟩=>l|_=>[]
def tF(k:RK)(R:Rows)(r:Nat):List (RK.T k):=match R.getD r none with|some ⟨_,_,_,.av k' l⟩=>(match Gd k' k l with|some m=>m|none=>[])|_=>[]
def NA(k:IntKind)(R:Rows)(d:D):List Int:=match d with|.all r=>oP R r|.own r _ _=>oP R r|d=>nE k d
def lz(d:D)(n:Nat):Nat:=match d with|.all r=>r|.own r _ _=>r|.ptr r _ _=>r|.pa r _ _ _ _ _=>r|_=>n
theorem DM{n:Int}(h1: -9223372036854775808<=n)(h2:n<=9223372036854775807):IntKind.wrap .i64 n=n:=by rw[IntKind.wrap_i64];omega
inductive oZ where
 |sl (t:CT) (fr:Bool)
 |row (ty sz:Nat) (t:CT)
def Gr:CT->ao
 |.ints k=>.ints k []
 |.bo=>.bo []
 |.av k=>.av k []
 |_=>.gen []
def CT.iN:CT->Nat
 |.av k=>k.size
 |_=>1
def toCT:CT->ao->Option ao
 |.ints k,E=>match E.toI k with|some l=>some (.ints k l)|none=>none
 |.bo,E=>match E.toB with|some l=>some (.bo l)|none=>none
 |.av k,E=>match E.toR k with|some l=>some (.av k l)|none=>none
 |_,_=>none
theorem WR(t:CT):(Gr t).Nil:=by cases t<;>rfl
theorem NB{t:CT}{E E':ao}(h:toCT t E=some E'):ao.Eq E E':=by
 cases t with
 |ints k=>
  simp only[toCT]at h
  split at h
  ·rename_i l hl
   cases h
   cases E with
   |ints k' m=>
    simp only[ao.toI]at hl
    split at hl
    ·rename_i hk;cases hl;simp only[ao.Eq,hk]
    ·cases hl
   |gen es=>cases es<;>simp[ao.toI]at hl;subst hl;rfl
   |bo m=>simp[ao.toI]at hl
   |av k m=>simp[ao.toI]at hl
  ·cases h
 |bo=>
  simp only[toCT]at h
  split at h
  ·rename_i l hl
   cases h
   cases E with
   |bo m=>simp[ao.toB]at hl;subst hl;rfl
   |gen es=>cases es<;>simp[ao.toB]at hl;subst hl;rfl
   |ints k m=>simp[ao.toB]at hl
   |av k m=>simp[ao.toB]at hl
  ·cases h
 |av k=>
  simp only[toCT]at h
  split at h
  ·rename_i l hl
   cases h
   cases E with
   |av k' m=>simp only[ao.toR]at hl;simp only[ao.Eq,hl]
   |gen es=>cases es<;>simp[ao.toR]at hl;subst hl;rfl
   |ints k m=>simp[ao.toR]at hl
   |bo m=>simp[ao.toR]at hl
  ·cases h
 |_=>simp[toCT]at h
structure jK where
 ds:List oZ
 ex:List (Nat×Row)
 fz:List Nat
def wz(m:Nat):List (Nat×Nat×Nat)->Bool
 |[]=>true
 |p::l=>bJ p.1 m&&wz m l
def IF(m:Nat):List iv->Bool
 |[]=>true
 |.ptr r _ _::l=>bJ r m&&IF m l
 |.fn _ ps::l=>wz m ps&&IF m l
 |_=>false
theorem vc{m:Nat}{EX:List Nat}(hE:∀i,i<m->EX[i]?=some i):∀{ps:List (Nat×Nat×Nat)},wz m ps=true->sE EX ps ps=true
 |[],_=>rfl
 |(r,a,b)::l,h=>by
  simp only[wz,aE]at h
  simp only[sE,kH,hE r (lE h.1),vc hE h.2]
  simp
theorem qag{m:Nat}{EX:List Nat}(hE:∀i,i<m->EX[i]?=some i):∀{cs:List iv},IF m cs=true->pk EX cs cs=true:=by
 intro cs
 induction cs with
 |nil=>intro _;rfl
 |cons x l ih=>
  intro h
  cases x with
  |ptr r a b=>
   simp only[IF,aE]at h
   simp only[pk,kH,hE r (lE h.1),ih h.2]
   simp
  |fn f ps=>
   simp only[IF,aE]at h
   simp only[pk,vc hE h.1,ih h.2]
   simp
  |_=>simp[IF]at h
def SX(m:Nat)(R:Rows)(c:D)(s:jK):Option (D×jK):=
  match c with
  | .int k n=>some (.int k n,s)
  | .bool b=>some (.bool b,s)
  | .str x=>some (.str x,s)
  | .iM=>some (.iM,s)
  | .jJ=>some (.jJ,s)
  | .c8 r=>match bJ r m with|true=>some (.c8 r,s)|false=>none
  | .ptr r o f=>match bJ r m with|true=>some (.ptr r o f,s)|false=>none
  | .gq f cs=>match IF m cs with|true=>some (.gq f cs,s)|false=>none
  | .du=>match s with
    |⟨.sl t f::ds,ex,fz⟩=>some (.sl t.iN (Gr t) f,⟨ds,ex,fz⟩)
    |⟨.row ty sz t::ds,ex,fz⟩=>match bJ 0 sz with|true=>some (.all (m+ex.length),⟨ds,ex++[(R.length+ex.length,⟨false,ty,sz,Gr t⟩)],fz⟩)|false=>none
    |_=>none
  | .emp=>match s with
    |⟨.sl t f::ds,ex,fz⟩=>some (.sl t.iN (Gr t) f,⟨ds,ex,fz⟩)
    |⟨.row ty sz t::ds,ex,fz⟩=>match bJ 0 sz with|true=>some (.all (m+ex.length),⟨ds,ex++[(R.length+ex.length,⟨false,ty,sz,Gr t⟩)],fz⟩)|false=>none
    |_=>none
  | .sl n E fr=>match s with
    | ⟨.sl t f::ds,ex,fz⟩=>match toCT t E,(!f||fr)&&(bT n t.iN||IG E) with
      |some E',true=>some (.sl t.iN E' f,⟨ds,ex,fz⟩)
      |_,_=>none
    |_=>none
  | .all r=>match s with
    | ⟨.sl t f::ds,ex,fz⟩=>match R.getD r none with
      | some ⟨box,_,kB,E⟩=>match toCT t E,!box&&(bT kB t.iN&&Nat.ble m r) with
        |some E',true=>some (.sl t.iN E' f,⟨ds,ex,r::fz⟩)
        |_,_=>none
      |none=>none
    | ⟨.row ty sz t::ds,ex,fz⟩=>match bJ r m with
      |true=>some (.all r,⟨ds,ex,fz⟩)
      | false=>match R.getD r none with
        | some ⟨box,jU,kB,E⟩=>match toCT t E,!box&&(bT jU ty&&bT kB sz) with
          |some E',true=>some (.all (m+ex.length),⟨ds,ex++[(r,⟨false,ty,sz,E'⟩)],fz⟩)
          |_,_=>none
        |none=>none
    |_=>none
  | .own r o n=>match s with
    | ⟨.sl t f::ds,ex,fz⟩=>match R.getD r none with
      | some ⟨box,_,kB,E⟩=>match toCT t ((E.drop o).take n),!box&&(bT kB t.iN&&Nat.ble m r) with
        |some E',true=>some (.sl t.iN E' f,⟨ds,ex,r::fz⟩)
        |_,_=>none
      |none=>none
    |_=>none
  |_=>none
def KK(m:Nat)(R:Rows):List D->jK->Option (List D×jK)
 |[],s=>some ([],s)
 |c ::cs,s=>match SX m R c s with
  |some (c',s')=>match KK m R cs s' with
   |some (rR,IH)=>some (c'::rR,IH)
   |none=>none
  |none=>none
def ET(m:Nat)(R:Rows)(d:D)(s:jK):Option (D×jK):=
 match d with
 |.agg cs=>match KK m R cs s with|some (rR,s')=>some (.agg rR,s')|none=>none
 |d=>SX m R d s
def sF(m:Nat)(R:Rows):List D->jK->Option (List D×jK)
 |[],s=>some ([],s)
 |c ::cs,s=>match ET m R c s with
  |some (c',s')=>match sF m R cs s' with
   |some (rR,IH)=>some (c'::rR,IH)
   |none=>none
  |none=>none
def II(m:Nat)(R:Rows)(d:D)(s:jK):Option (D×jK):=
 match d with
 |.dt ds=>match sF m R ds s with|some (om,s')=>some (.dt om,s')|none=>none
 |d=>ET m R d s
def KL(m:Nat)(R:Rows):Nat->Nat->jK->Option (List Row×jK)
 |0,_,s=>some ([],s)
 |n + 1,i,s=>match R.getD i none with
  |some ⟨true,ty,sz,.gen [e]⟩=>match KK m R e s with
   |some (e',s')=>match KL m R n (i+1) s' with
    |some (rs,IH)=>some (⟨true,ty,sz,.gen [e']⟩::rs,IH)
    |none=>none
   |none=>none
  |some ⟨false,ty,sz,E⟩=>match KL m R n (i+1) s with
   |some (rs,IH)=>some (⟨false,ty,sz,E⟩::rs,IH)
   |none=>none
  |_=>none
def EU(m:Nat)(ex:List (Nat×Row)):List Nat:=List.range m++ex.map (·.1)
def sd(m:Nat)(ds:List oZ)(d:D)(R:Rows)(K:D->List Row->Prop):Prop:=
 match II m R d ⟨ds,[],[]⟩with
 |some (d',s)=>match KL m R m 0 s with
  |some (rs,s')=>cr (Av m (EU m s'.ex)&&s'.fz.all (KM (EU m s'.ex))) (K d' (rs++s'.ex.map (·.2)))
  |none=>False
 |none=>False
def sG(R:Rows)(x:Nat×Row):Prop:=
 x.2.box=false/\match R.getD x.1 none with
 |some ⟨Az,jU,kB,jc⟩=>Az=false/\jU=x.2.ty/\kB=x.2.sz/\ao.Eq jc x.2.es
 |none=>0<x.2.sz/\x.2.es.Nil
structure oq(m:Nat)(R:Rows)(EX:List Nat)(s:jK):Prop where
 at_:∀(i:Nat) x,s.ex[i]?=some x->EX[m+i]?=some x.1
 ey:∀x∈s.ex,sG R x
 out:∀r∈s.fz,KM EX r=true
def AA(s s':jK):Prop:=s.ex<+:s'.ex/\s.fz<:+s'.fz
theorem AA.refl(s:jK):AA s s:=⟨bV _,bW _⟩
theorem AA.trans{a b c:jK}(h:AA a b)(g:AA b c):AA a c:=⟨h.1.trans g.1,h.2.trans g.2⟩
theorem qd{E:ao}(h:IG E=true):E.Nil:=ao.ot.2 (SF h)
theorem Zg3{m:Nat}{R:Rows}{c c':D}{s s':jK}(h:SX m R c s=some (c',s')):
    AA s s'/\((∀x∈s.ex,sG R x)-> ∀x∈s'.ex,sG R x)/\ ∀EX:List Nat,(∀i,i<m->EX[i]? =some i)->oq m R EX s'->jv EX m R c c':=by
  have NC: ∀{ty sz t},bJ 0 sz=true->((∀x∈s.ex,sG R x)-> ∀x∈s.ex++[(R.length+s.ex.length,(⟨false,ty,sz,Gr t⟩:Row))],sG R x)/\
      ∀(EX:List Nat) (ds:List oZ) (fz:List Nat),oq m R EX ⟨ds,s.ex++[(R.length+s.ex.length,(⟨false,ty,sz,Gr t⟩:Row))],fz⟩->IJ EX R (m+s.ex.length)=true:=by
    intro ty sz t fx
    have hn:R.getD (R.length+s.ex.length) none=none:=by rw[aK,List.getElem?_eq_none (by omega)];rfl
    refine⟨λhg x hx=> ?_,λEX ds fz hG=> ?_⟩
    . simp only[bX,bY]at hx
      rcases hx with hx|rfl
      . exact hg x hx
      . refine⟨rfl,?_⟩
        simp only[hn]
        exact⟨lE fx,WR t⟩
    . have:=hG.at_ s.ex.length (R.length+s.ex.length,⟨false,ty,sz,Gr t⟩) (by simp)
      simp only[IJ,this,hn]
  cases c<;>simp only[SX]at h<;>try(cases h;done)
  case int k n=>cases h;exact⟨.refl _,id,λEX _ _=>by simp [jv,cr]⟩
  case bool b=>cases h;exact⟨.refl _,id,λEX _ _=>by simp [jv]⟩
  case str x=>cases h;exact⟨.refl _,id,λEX _ _=>by simp [jv]⟩
  case iM=>cases h;exact⟨.refl _,id,λEX _ _=>by simp [jv]⟩
  case jJ=>cases h;exact⟨.refl _,id,λEX _ _=>by simp [jv]⟩
  case c8 r=>
    split at h
    . rename_i hr
      cases h
      refine⟨.refl _,id,λEX hE _=> ?_⟩
      have:=hE r (lE hr)
      simp only[jv,da,kH,this]
      exact⟨by simp,trivial⟩
    . cases h
  case ptr r o f=>
    split at h
    . rename_i hr
      cases h
      refine⟨.refl _,id,λEX hE _=> ?_⟩
      have:=hE r (lE hr)
      simp only[jv,da,kH,this]
      exact⟨by simp,trivial⟩
    . cases h
  case gq f cs=>
    split at h
    . rename_i hr
      cases h
      refine⟨.refl _,id,λEX hE _=> ?_⟩
      simp only[jv,da,qag hE hr]
      exact⟨by simp,trivial⟩
    . cases h
  case du=>
    split at h
    . cases h;exact⟨.refl _,id,λEX _ _=>WR _⟩
    . split at h
      . rename_i fx
        cases h
        obtain⟨v1,v2⟩:=NC fx
        exact⟨⟨bZ _ _,bW _⟩,v1,λEX _ hG=>by simp only[jv,da];exact⟨v2 EX _ _ hG,trivial⟩⟩
      . cases h
    . cases h
  case emp=>
    split at h
    . cases h;exact⟨.refl _,id,λEX _ _=>WR _⟩
    . split at h
      . rename_i fx
        cases h
        obtain⟨v1,v2⟩:=NC fx
        exact⟨⟨bZ _ _,bW _⟩,v1,λEX _ hG=>by simp only[jv,da];exact⟨v2 EX _ _ hG,trivial⟩⟩
      . cases h
    . cases h
  case sl n E fr=>
    split at h
    . rename_i t f ds ex fz
      split at h
      . rename_i E' hE hb
        cases h
        simp only[aE,Bool.or_eq_true]at hb
        refine⟨.refl _,id,λEX _ _=> ?_⟩
        simp only[jv,da]
        exact⟨by simpa using hb.1,hb.2.symm.imp qd bE,NB hE⟩
      . cases h
    . cases h
  case all r =>
    split at h
    . rename_i t f ds ex fz
      split at h
      . rename_i box ty kB E hR
        split at h
        . rename_i E' hE hb
          cases h
          simp only[aE]at hb
          refine⟨⟨bV _,cA _ _⟩,id,λEX _ hG=> ?_⟩
          simp only[jv,hR,da,aE]
          exact⟨⟨⟨⟨hb.1,hb.2.1⟩,hG.out r (by simp)⟩,hb.2.2⟩,NB hE⟩
        . cases h
      . cases h
    . rename_i ty sz t ds ex fz
      split at h
      . rename_i cg
        cases h
        refine⟨.refl _,id,λEX pO hG=> ?_⟩
        simp only[jv,da]
        have:=pO r (lE cg)
        exact⟨by simp [kH,this],trivial⟩
      . split at h
        . rename_i box jU kB E hR
          split at h
          . rename_i E' hE hb
            cases h
            simp only[aE,Bool.not_eq_true']at hb
            refine⟨⟨bZ _ _,bW _⟩,λhg x hx=> ?_,λEX pO hG=> ?_⟩
            . simp only[bX,bY]at hx
              rcases hx with hx|rfl
              . exact hg x hx
              . refine⟨rfl,?_⟩
                simp only[hR]
                exact⟨hb.1,bE hb.2.1,bE hb.2.2,NB hE⟩
            . have:=hG.at_ ex.length (r,⟨false,ty,sz,E'⟩) (by simp)
              simp only[jv,da]
              exact⟨by simp [kH,this],trivial⟩
          . cases h
        . cases h
    . cases h
  case own r o n=>
    split at h
    . rename_i t f ds ex fz
      split at h
      . rename_i box ty kB E hR
        split at h
        . rename_i E' hE hb
          cases h
          simp only[aE]at hb
          refine⟨⟨bV _,cA _ _⟩,id,λEX _ hG=> ?_⟩
          simp only[jv,hR,da,aE]
          exact⟨⟨⟨⟨hb.1,hb.2.1⟩,hG.out r (by simp)⟩,hb.2.2⟩,NB hE⟩
        . cases h
      . cases h
    . cases h
theorem oq.mono{m:Nat}{R:Rows}{EX:List Nat}{s s':jK}(hl:AA s s')(h:oq m R EX s'):oq m R EX s:=
 ⟨λi x hx=>h.at_ i x (by
  obtain⟨t,ht⟩:=hl.1
  rw[<-ht,aZ (List.getElem?_eq_some_iff.1 hx).1];exact hx),λx hx=>h.ey x (hl.1.subset hx),λr hr=>h.out r (hl.2.subset hr)⟩
theorem WS{m:Nat}{R:Rows}:∀{cs rR:List D} {s s':jK},KK m R cs s=some (rR,s')->
 AA s s'/\((∀x∈s.ex,sG R x)->∀x∈s'.ex,sG R x)/\∀EX:List Nat,(∀i,i<m->EX[i]?=some i)->oq m R EX s'->EV EX m R cs rR
 |[],rR,s,s',h=>by simp only[KK]at h;cases h;exact⟨.refl _,id,λ_ _ _=>trivial⟩
 |c ::cs,rR,s,s',h=>by
  simp only[KK]at h
  split at h
  ·rename_i c1 s1 h1
   split at h
   ·rename_i cs1 s2 h2
    cases h
    obtain⟨a1,a2,a3⟩:=Zg3 h1
    obtain⟨b1,b2,b3⟩:=WS h2
    exact⟨a1.trans b1,λh=>b2 (a2 h),λEX pO hG=>⟨a3 EX pO (hG.mono b1),b3 EX pO hG⟩⟩
   ·cases h
  ·cases h
theorem xd{m:Nat}{R:Rows}{d d':D}{s s':jK}(h:ET m R d s=some (d',s')):
 AA s s'/\((∀x∈s.ex,sG R x)->∀x∈s'.ex,sG R x)/\∀EX:List Nat,(∀i,i<m->EX[i]?=some i)->oq m R EX s'->rh EX m R d d':=by
 unfold ET at h
 split at h
 ·rename_i cs
  split at h
  ·rename_i rR s1 h1
   cases h
   exact WS h1
  ·cases h
 ·rename_i gl
  obtain⟨a1,a2,a3⟩:=Zg3 h
  refine⟨a1,a2,λEX pO hG=>?_⟩
  have h3:=a3 EX pO hG
  cases d' with
  |agg ps=>simp[jv]at h3
  |_=>exact h3
theorem Zng{m:Nat}{R:Rows}:∀{cs rR:List D} {s s':jK},sF m R cs s=some (rR,s')->
 AA s s'/\((∀x∈s.ex,sG R x)->∀x∈s'.ex,sG R x)/\∀EX:List Nat,(∀i,i<m->EX[i]?=some i)->oq m R EX s'->wA EX m R cs rR
 |[],rR,s,s',h=>by simp only[sF]at h;cases h;exact⟨.refl _,id,λ_ _ _=>trivial⟩
 |c ::cs,rR,s,s',h=>by
  simp only[sF]at h
  split at h
  ·rename_i c1 s1 h1
   split at h
   ·rename_i cs1 s2 h2
    cases h
    obtain⟨a1,a2,a3⟩:=xd h1
    obtain⟨b1,b2,b3⟩:=Zng h2
    exact⟨a1.trans b1,λh=>b2 (a2 h),λEX pO hG=>⟨a3 EX pO (hG.mono b1),b3 EX pO hG⟩⟩
   ·cases h
  ·cases h
theorem zag{m:Nat}{R:Rows}{d d':D}{s s':jK}(h:II m R d s=some (d',s')):
 AA s s'/\((∀x∈s.ex,sG R x)->∀x∈s'.ex,sG R x)/\∀EX:List Nat,(∀i,i<m->EX[i]?=some i)->oq m R EX s'->Au EX m R d d':=by
 unfold II at h
 split at h
 ·rename_i cs
  split at h
  ·rename_i rR s1 h1
   cases h
   exact Zng h1
  ·cases h
 ·rename_i gl
  obtain⟨a1,a2,a3⟩:=xd h
  refine⟨a1,a2,λEX pO hG=>?_⟩
  have h3:=a3 EX pO hG
  cases d' with
  |dt ps=>simp[rh,jv]at h3
  |_=>exact h3
theorem WT{m:Nat}{R:Rows}:∀{n i:Nat} {rs:List Row} {s s':jK},KL m R n i s=some (rs,s')->
 AA s s'/\((∀x∈s.ex,sG R x)->∀x∈s'.ex,sG R x)/\∀EX:List Nat,(∀i,i<m->EX[i]?=some i)->oq m R EX s'->na EX m R (bK i n) rs
 |0,i,rs,s,s',h=>by simp only[KL]at h;cases h;exact⟨.refl _,id,λ_ _ _=>trivial⟩
 |n + 1,i,rs,s,s',h=>by
  simp only[KL]at h
  split at h
  ·rename_i ty sz e hR
   split at h
   ·rename_i e1 s1 h1
    split at h
    ·rename_i rs1 s2 h2
     cases h
     obtain⟨a1,a2,a3⟩:=WS h1
     obtain⟨b1,b2,b3⟩:=WT h2
     refine⟨a1.trans b1,λh=>b2 (a2 h),λEX pO hG=>?_⟩
     rw[cB]
     simp only[na,hR,da]
     exact⟨⟨by simp,a3 EX pO (hG.mono b1)⟩,b3 EX pO hG⟩
    ·cases h
   ·cases h
  ·rename_i ty sz E hR
   split at h
   ·rename_i rs1 s2 h2
    cases h
    obtain⟨b1,b2,b3⟩:=WT h2
    refine⟨b1,b2,λEX pO hG=>?_⟩
    rw[cB]
    simp only[na,hR,da]
    refine⟨⟨by simp,?_⟩,b3 EX pO hG⟩
    cases E with
    |gen es=>cases es<;>simp[ao.Eq]
    |av k l=>simp[ao.Eq,Zae]
    |_=>simp[ao.Eq]
   ·cases h
  ·cases h
theorem Qs3{ex:List Nat}{m:Nat}{R:Rows}:∀{l1 l2:List Nat} {p1 p2:List Row},na ex m R l1 p1->na ex m R l2 p2->na ex m R (l1++l2) (p1++p2)
 |[],l2,[],p2,_,h=>h
 |r::l1,l2,p::p1,p2,h1,h2=>by
  simp only[List.cons_append,na]at h1⊢
  exact⟨h1.1,Qs3 h1.2 h2⟩
 |[],_,_::_,_,h,_=>h.elim
 |_::_,_,[],_,h,_=>h.elim
theorem Z8v{ex:List Nat}{m:Nat}{R:Rows}:∀{l:List (Nat×Row)},(∀x∈l,sG R x)->na ex m R (l.map (·.1)) (l.map (·.2))
 |[],_=>trivial
 |(r,⟨box,ty,sz,es⟩)::l,h=>by
  simp only[List.map_cons,na]
  refine⟨?_,Z8v λx hx=>h x (by simp[hx])⟩
  obtain⟨h1,h2⟩:=h (r,⟨box,ty,sz,es⟩) (by simp)
  simp only at h1 h2
  subst h1
  split
  ·rename_i Az jU kB jc hR
   simp only[hR]at h2
   obtain⟨rfl,rfl,rfl,h2⟩:=h2
   simp only[da]
   exact⟨by simp,h2⟩
  ·rename_i hR
   simp only[hR]at h2
   simp only[da]
   exact⟨by simpa using h2.1,h2.2⟩
theorem Za{m:Nat}{ds:List oZ}{d:D}{R:Rows}{K:D->List Row->Prop}(h:sd m ds d R K):∃res rows,K res rows/\AB m res rows d R:=by
 unfold sd at h
 split at h
 ·rename_i d' s h1
  split at h
  ·rename_i rs s' h2
   simp only[da,aE]at h
   obtain⟨⟨hx,hf⟩,hK⟩:=h
   obtain⟨a1,a2,a3⟩:=zag h1
   obtain⟨b1,b2,b3⟩:=WT h2
   have Gs:∀x∈s'.ex,sG R x:=b2 (a2 λx hx=>by simp at hx)
   have pO:∀i,i<m->(EU m s'.ex)[i]?=some i:=λi hi=>by
    unfold EU
    rw[aZ (by simpa using hi)];simp[hi]
   have hG:oq m R (EU m s'.ex) s':=⟨λi x hx=>by
    unfold EU
    rw[List.getElem?_append_right (by simp)]
    simp[hx],Gs,λr hr=>List.all_eq_true.1 hf r hr⟩
   refine⟨d',_,hK,EU m s'.ex,hx,a3 _ pO (hG.mono b1),?_⟩
   have h3:=b3 _ pO hG
   have:EU m s'.ex=bK 0 m++s'.ex.map (·.1):=by unfold EU;rw[List.range_eq_range']
   refine Eq.mpr ?_ (Qs3 h3 (Z8v Gs))
   rw[<-this]
  ·exact h.elim
 ·exact h.elim

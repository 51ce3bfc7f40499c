import Derived.Test.YthjfindbamdacaaGreatDoorAuditFindsDraw
import Derived.IntWalk
open List renaming getD->aK,ext_getElem->bN,map_map->bU,prefix_refl->bV,suffix_refl->bW,mem_append->bX,mem_singleton->bY,prefix_append->bZ,suffix_cons->cA,getElem?_append_left->aZ,range'->bK,range'_succ->cB
open Nat renaming beq->bT,blt->bJ
set_option linter.all false
namespace Go.GD
open Go
def sx(ex:List Nat)(M:Nat)(R:Rows)(d p:D):Prop:=
 match p with
 |.dead=>True
 |.ptr i o f=>match d with|.ptr r o' f'=>cj (kH ex i r) (o'=o/\f'=f)|_=>False
 |.ir sz es i off=>match d with|.ir kB jb i' iN=>kB=sz/\ao.Eq jb es/\i'=i/\iN=off|_=>False
 |p=>Am ex M R d p
def BW(ex:List Nat)(M:Nat)(R:Rows)(env:List (Nat×D)):List (Nat×D)->Prop
 |[]=>True
 |(t,p)::l=>sx ex M R (look env t) p/\BW ex M R env l
def fold(M:Nat)(ex:List Nat)(st:St)(mg:List (Nat×D))(aj:List Row):Prop:=
 cj (An M ex) (BW ex M st.rows st.env mg/\mX ex M st.rows ex aj)
theorem xc{c:Ctx}{w:World}{ex:List Nat}{m:Nat}{R:Rows}{rows:List Row}(hm:Mem c w)(hR:∀r,c.R r=R.getD r none)(cv:mX ex m R ex rows)(fh:∀r row,c.R r=some row->¬c.V r->m<=r->c.base<=c.ρ r){d p:D}{v:Value}(h:sx ex m R d p)(hr:Rep c w d v):Rep (c.out ex rows) w p v:=by
 have nF:∀b,c.I b->(c.out ex rows).I b/\w.heap[b]?=w.heap[b]? :=λb hb=>⟨.inl hb,rfl⟩
 cases p with
 |dead=>trivial
 |ptr i o f=>
  simp only[sx]at h
  split at h
  ·rename_i r o' f'
   simp only[da]at h
   obtain⟨hx,rfl,rfl⟩:=h
   exact Zc (w:=w) hR cv hx hr
  ·exact h.elim
 |ir sz es i off=>
  simp only[sx]at h
  split at h
  ·obtain⟨rfl,he,rfl,rfl⟩:=h
   have he:=ao.Ao he
   obtain⟨b,o,arr,ty,fz,h1,h2,h3,h4,h5⟩:=hr
   rw[he]at h3 h5
   exact⟨b,o,arr,ty,fz,h1,.inl h2,h3,h4,od nF _ _ _ _ h5⟩
  ·exact h.elim
 |_=>
  simp only[sx]at h
  exact SK hm hR cv fh h hr
theorem Zea{c:Ctx}{w:World}{ex:List Nat}{m:Nat}{R:Rows}{rows:List Row}(hm:Mem c w)(hR:∀r,c.R r=R.getD r none)(cv:mX ex m R ex rows)(fh:∀r row,c.R r=some row->¬c.V r->m<=r->c.base<=c.ρ r){env:List (Nat×D)}{a:Act}(he:∀t,Rep c w (look env t) (a.tmps.getD t undef)):
 ∀{mg:List (Nat×D)},BW ex m R env mg->∀t,Rep (c.out ex rows) w (look mg t) (a.tmps.getD t undef)
 |[],_,t=>trivial
 |(u,p)::l,h,t=>by
  have:=Zea hm hR cv fh he h.2 t
  rw[Bg]
  split
  ·rename_i e
   subst e
   exact xc hm hR cv fh h.1 (he u)
  ·exact this
theorem zc{N M:Nat}{c0:Ctx}{w0:World}{c:Ctx}{w:World}{st:St}{a:Act}(hs:fv N M c0 w0 c w st a){ex:List Nat}{mg:List (Nat×D)}{aj:List Row}(h:fold M ex st mg aj):∃c',fv N M c0 w0 c' w ⟨mg,aj.map some⟩ a:=by
 unfold fold at h
 simp only[da]at h
 obtain⟨hex,hE,cv⟩:=h
 obtain⟨fh,gy,gg⟩:=SL hs hex cv
 refine⟨c.out ex aj,gy,λr=>?_,Zea hs.mem hs.rows cv fh hs.env hE,hs.size,hs.defers,hs.gh,hs.gw,gg⟩
 simp only[Ctx.out,aK,List.getElem?_map]
 cases aj[r]? <;>rfl
theorem Tr.mono{ro:Option Nat}{P:Program}{N M:Nat}{code:Code}{st:St}{Q Q':Ex->St->Prop}(hq:∀e st,Q e st->Q' e st)(h:tP ro P N M code st Q):tP ro P N M code st Q':=
 λc0 w0 c w a hs=>wpIn_mono (h c0 w0 c w a hs) λe a' w' ⟨ex,jt,c',h1,h2,h3⟩=>⟨ex,jt,c',h1,hq _ _ h2,h3⟩
theorem qae{ro:Option Nat}{P:Program}{N M:Nat}{code:Code}{st:St}{Q:Ex->St->Prop}{α:Type}(F:α->List (Nat×D)×List Row)(wm:α->Prop)(μ:α->Nat)
 (a0:α) (jn:List Nat) (hp:wm a0) (h0:fold M jn st (F a0).1 (F a0).2)
 (round:∀a,wm a->tP ro P N M code ⟨(F a).1,(F a).2.map some⟩ λe jt=>match e with
  |.normal=>∃b ex,wm b/\μ b<μ a/\fold M ex jt (F b).1 (F b).2
  |.exit i=>Q (.exit i) jt
  |.ret=>Q .ret jt):tP ro P N M (.loop code) st Q:=by
 intro c0 w0 c w a hs
 have key:∀(n:Nat) (x:α),wm x->μ x<n->∀(c:Ctx) (w:World) (a:Act),fv N M c0 w0 c w ⟨(F x).1,(F x).2.map some⟩ a->
  Code.roundsIn (Bj ro) 0 P code (λe a' w'=>∃ex jt c',mQ e=some ex/\Q ex jt/\fv N M c0 w0 c' w' jt a') n a w:=by
  intro n
  induction n with
  |zero=>intro x _ h;omega
  |succ n ih=>
   intro x hx cf c w a hs
   rw[roundsIn_succ]
   refine wpIn_mono (round x hx c0 w0 c w a hs) λe a' w' hq=>?_
   obtain⟨ex,jt,c',he,hq,ji⟩:=hq
   cases e<;>simp only[mQ,Option.some.injEq,reduceCtorEq]at he
   ·subst he
    obtain⟨b,ex,h1,h2,h3⟩:=hq
    obtain⟨SM,Wz⟩:=zc ji h3
    exact ih b h1 (by omega) SM w' a' Wz
   ·subst he;exact⟨_,jt,c',rfl,hq,ji⟩
   ·subst he;exact⟨_,jt,c',rfl,hq,ji⟩
 obtain⟨c',ji⟩:=zc hs h0
 exact wpIn_loop_rounds _ (key (μ a0+1) a0 hp (by omega) c' w a ji)
structure bu where
 α:Type
 F:St->α->List (Nat×D)×List Row
 a0:St->α
 jn:St->List Nat
 next:St->α:=a0
 ex:St->List Nat:=jn
structure Ask(p:Prop):Prop where
 ok:p
def keyOf:Code->Nat
 |.region id _ _=>id
 |.block id _=>id
 |.seq a _=>keyOf a
 |.loop a=>keyOf a
 |_=>0
def Gl:List (Nat×bu)->Nat->Option bu
 |[],_=>none
 |(k,i)::l,n=>match bT k n with|true=>some i|false=>Gl l n
def Iw(T:fq)(G:List bc)(M f:Nat)(g:Operand)(st:St)(Q:Ex->St->Prop):Prop:=
 match bq st.env g with
 |.gn gf cs=>match KD ((yTs f).map (look st.env)),o7 G gf with
  |some ys,some k=>Iu T ys st.env st.rows λR=>cj (bJ gf YB)<|Im G M gf k (.gn f ys::cs.map iu.d) R λks _ R=>Gm ks st.env λenv=>cj (sA (Ap env++Gn R)) (Q .normal ⟨env,R⟩)
  |_,_=>False
 |_=>False
def evL(ds:List D):Operand->D|.tmp i=>ds.getD i .dead|_=>.dead
def opsL(n:Nat):List Operand:=(List.range n).map Operand.tmp
theorem zae{ds:List D}:(opsL ds.length).map (evL ds)=ds:=by
 refine bN (by simp[opsL]) λi h1 h2=>?_
 simp[opsL,evL,aK,h2]
def Ix(vs:List Value):Operand->Value|.tmp i=>vs.getD i undef|_=>undef
theorem yG{vs:List Value}{n:Nat}(h:n=vs.length):(opsL n).map (Ix vs)=vs:=by
 subst h
 refine bN (by simp[opsL]) λi h1 h2=>?_
 simp[opsL,Ix,aK,h2]
theorem yc{c:Ctx}{w:World}:∀{ds:List D} {vs:List Value},kb c w ds vs->∀i,Rep c w (ds.getD i .dead) (vs.getD i undef)
 |[],[],_,i=>by simp[aK];trivial
 |d::ds,v::vs,h,0=>by simpa using h.1.toRep
 |d::ds,v::vs,h,i+1=>by simpa using yc h.2 i
 |[],_::_,h,_=>h.elim
 |_::_,[],h,_=>h.elim
theorem Z7v{c:Ctx}{w:World}:∀{cs:List iu} {us:List Value},oM c w cs us->kb c w (cs.map iu.d) us
 |[],[],_=>trivial
 |x::cs,u::us,h=>⟨VRep.EL (Wm.1 h.1),Z7v h.2⟩
 |[],_::_,h=>h.elim
 |_::_,[],h=>h.elim
theorem Nk{P:Program}{G:List bc}(hG:jW P G){N M f:Nat}{g:Operand}{ps:Array Tmp}{x b:Code}(nn:RF (some f) N (.rangeFunc g ps x b)){st:St}{Q:Ex->St->Prop}{T:fq}(h:Iw T G M f g st Q):Tr P N M (.rangeFunc g ps x b) st Q:=by
 intro c0 w0 c w a hs
 obtain⟨y,⟨hy,hn,EP,pJ,h1⟩,he⟩:=nn
 unfold Iw at h
 split at h
 rotate_left
 ·exact h.elim
 rename_i gf cs hg
 split at h
 rotate_left
 ·exact h.elim
 rename_i ys k SN lP
 obtain⟨R0,c,h,hs⟩:=Gk h hs
 simp only[da]at h
 obtain⟨Iy,h⟩:=h
 have Iy:=lE Iy
 rw[<-zae (ds:=.gn f ys::cs.map iu.d)]at h
 obtain⟨ks,val,R',X,h2,h3,h4,h5,h6⟩:=Wo hG lP h
 obtain⟨dw,hf⟩:=Gh hG h3
 rw[Io]at h2
 obtain⟨oL,hQ⟩:=h2
 have SO:Rep c w (bq st.env g) (a.eval g):=Nc hs.env g
 rw[hg]at SO
 obtain⟨us,⟨_,SO⟩|⟨WA,_⟩,ER⟩:=SO
 rotate_left
 ·exact absurd Iy (Nat.not_lt.2 WA)
 refine wpIn_rangeFunc λfn _=>?_
 obtain⟨rec,mV⟩:∃rec:Loop,rec={state:=.ready,pending:=none,fn,tmps:=a.tmps,params:=ps,assign:=x,body:=b,defers:=w.heap.size}:=⟨_,rfl⟩
 obtain⟨wd,Iz⟩:∃wd,wd=w.alloc (.deferred (some [])):=⟨_,rfl⟩
 obtain⟨w1,Gp⟩:∃w1,w1=wd.alloc (.loop rec):=⟨_,rfl⟩
 have hsd:wd.heap.size=w.heap.size+1:=by rw[Iz];simp
 have mI:w1.heap.size=w.heap.size+2:=by rw[Gp];simp[hsd]
 have SP:w1.heap[w.heap.size+1]?=some (.loop rec):=by rw[Gp,<-hsd];exact World.alloc_heap_new wd _
 have hD1:w1.heap[w.heap.size]?=some (.deferred (some [])):=by
  rw[Gp];refine(Aq wd _ _ (by omega)).trans ?_;rw[Iz];exact World.alloc_heap_new w _
 have Gq:∀i,i<w.heap.size->w1.heap[i]?=w.heap[i]? :=λi hi=>by
  rw[Gp];refine(Aq wd _ _ (by omega)).trans ?_;rw[Iz];exact Aq w _ _ hi
 obtain⟨c1,BX⟩:∃c1:Ctx,c1={c with I:=λi=>c.I i\/i=w.heap.size+1}:=⟨_,rfl⟩
 have wo:jk c w c1 w1:=by
  rw[BX]
  exact⟨rfl,Nat.le_refl _,λi hi=>⟨.inl hi,Gq i (hs.mem.fu i hi).1⟩,λr z hr=>⟨z,hr,rfl,rfl,rfl,rfl,rfl,Iff.rfl,λhV arr ha=>⟨arr,(Gq _ (Array.getElem?_eq_some_iff.1 ha).1).trans ha,rfl⟩⟩⟩
 have IA:∀r z,c.R r=some z->¬c.V r->c.ρ r<w.heap.size:=λr z hr hV=>by
  rcases hs.mem.row r z hr with h|⟨_,arr,h,_⟩
  ·exact(hV h.1).elim
  ·exact(Array.getElem?_eq_some_iff.1 h).1
 have Iv:Mem c1 w1:=by
  have wo:=wo
  rw[BX]at wo⊢
  refine⟨λr z hr=>tS wo rfl Iff.rfl (λnv=>Gq _ (IA r z hr nv)) (hs.mem.row r z hr),hs.mem.inj,λi hi=>?_,by have:=hs.mem.top;show c.top<=_;omega,hs.mem.kM.mono wo.I⟩
  rcases hi with hi|hi
  ·have:=(hs.mem.fu i hi).1;exact⟨by omega,(hs.mem.fu i hi).2⟩
  ·exact⟨by omega,λr z hr hV=>by have:=IA r z hr hV;show c.ρ r≠i;omega⟩
 have IB:Rep c1 w1 (.gn f ys) (.func (.yield (w.heap.size+1)) #[] #[]):=by
  refine⟨y.ts.map λt=>a.tmps.getD t undef,.inr ⟨pJ,w.heap.size+1,rec,rfl,by rw[BX];exact .inr rfl,SP,by rw[mV],by rw[mV],y,hy,?_⟩,?_⟩
  ·cases he
   rw[mV]
   exact⟨rfl,rfl,rfl,Nat.le_trans hn hs.size,h1,rfl⟩
  ·have:=WB (c:=c1) (w:=w1) (ev:=bq st.env) (ρ:=a.eval) (xs:=y.ts.map Operand.tmp) (cs:=ys) (by rw[EP,bU];exact SN) (λz hz=>Ae wo (Nc hs.env z))
   rw[bU]at this
   exact this
 have WC:kb c1 w1 (cs.map iu.d) us:=WD wo (Z7v ER)
 have iP:kb c1 w1 (.gn f ys::cs.map iu.d) (.func (.yield (w.heap.size+1)) #[] #[]::us):=⟨IB,WC⟩
 have hlen:(D.gn f ys::cs.map iu.d).length=(Value.func (.yield (w.heap.size+1)) #[] #[]::us).length:=by simp[ER.length]
 have mi:=(h6 c1 w1 (Ix (.func (.yield (w.heap.size+1)) #[] #[]::us)) Iv (by rw[BX];have:=hs.base;show c.base<=_;omega) (by rw[BX];exact hs.rows) (λz hz=>by
  simp only[opsL,List.mem_map,List.mem_range]at hz
  obtain⟨i,_,rfl⟩:=hz
  exact yc iP i) (λv w'=>∃c',jE ks c1 w1 c' w'/\(∀r,c'.R r=R'.getD r none)) λv w' c' hn hR _=>⟨c',hn,hR⟩).1 Iy
 rw[yG hlen]at mi
 refine⟨w.heap.size+1,[{target:=.collected w.heap.size,args:= #[]}],w1,{target:=.fn (.func gf) us.toArray,args:= #[.func (.yield (w.heap.size+1)) #[] #[]]},w1,gf,(Value.func (.yield (w.heap.size+1)) #[] #[]::us).toArray,w1,?_,?_,?_,?_,λe=>(by cases e),?_⟩
 ·rw[Gp,Iz,mV];exact run_enterLoop_outer _ _ _ _ _
 ·simp only[resolve,SO]
  simp[go_sem]
 ·intro f' _;trivial
 ·simp only[invoke]
  rw[<-hf,dw.enters (by rw[hf];exact Iy)]
  congr 2
  simp
 ·refine CallsIn.mono (callsIn_wide.2 mi) λe w3 ⟨v,he3,c3,Gr,hR3⟩=>?_
  subst he3
  have IC:w3.heap[w.heap.size+1]?=some (.loop rec):=(Gr.bz.I _ (by rw[BX];exact .inr rfl)).2.trans SP
  have ES:=run_endLoop (P:=P) IC (by rw[mV];simp)
  have DH:rec.pending=none:=by rw[mV]
  rw[DH]at ES
  refine⟨none,_,ES,?_⟩
  have BY:Fr (λi=>∃r z,c.R r=some z/\¬c.V r/\c.ρ r=i) w w3:=by
   have ET:=Gr.fr
   rw[BX]at ET
   refine⟨?_,?_,?_,by have:=ET.size;omega,λi hi ID=>(ET.heap i (by omega) ID).trans (Gq i hi)⟩
   ·have:=ET.os;rw[Gp,Iz]at this;exact this
   ·have:=ET.tape;rw[Gp,Iz]at this;exact this
   ·have:=ET.output;rw[Gp,Iz]at this;exact this
  have hN:jE ks c w c3 w3:=by
   refine⟨Gr.mem,?_,BY,λi hi=>?_,λr row hr hV=>?_⟩
   ·have g1:=Gr.bz
    rw[BX]at g1
    refine⟨g1.base,g1.top,λi hi=>⟨(g1.I i (.inl hi)).1,(g1.I i (.inl hi)).2.trans (Gq i (hs.mem.fu i hi).1)⟩,λr row hr=>?_⟩
    obtain⟨ak,q1,q2,q3,q4,q5,q6,qV,q7⟩:=g1.R r row hr
    exact⟨ak,q1,q2,q3,q4,q5,q6,qV,λnv arr ha=>q7 nv arr ((Gq _ (Array.getElem?_eq_some_iff.1 ha).1).trans ha)⟩
   ·have:=Gr.fu i hi
    rw[BX]at this
    rcases this with(g|g)|g|g
    ·exact .inl g
    ·exact .inr (.inr (by omega))
    ·exact .inr (.inl g)
    ·exact .inr (.inr (by omega))
   ·have:=Gr.og r row hr hV
    rw[BX]at this
    rcases this with g|g|g
    ·exact .inl g
    ·exact .inr (.inl g)
    ·exact .inr (.inr (by omega))
  have BZ:lX w0.heap.size w3 ({target:=.collected w.heap.size,args:= #[]}::a.defers):=by
   obtain⟨bs,b1,b2,b3⟩:=hs.defers.step hs.mem BY
   refine⟨w.heap.size::bs,List.nodup_cons.2 ⟨λhm=>?_,b1⟩,by rw[b2];rfl,λi hi=>?_⟩
   ·obtain⟨bs',c1',c2',c3'⟩:=hs.defers
    rw[c2']at b2
    have:bs'=bs:=by
     have:=congrArg (List.map λ(d:Deferred)=>match d.target with|.collected i=>i|_=>0) b2
     simpa[bU,Function.comp_def]using this
    subst this
    have:=(Array.getElem?_eq_some_iff.1 (c3' _ hm).2).1
    omega
   ·rcases List.mem_cons.1 hi with e|e
    ·subst e
     refine⟨hs.reach.fr.size,?_⟩
     have ET:=Gr.fr
     rw[BX]at ET
     exact(ET.heap _ (by omega) fun⟨r,z,q1,q2,q3⟩=>by have:=IA r z q1 q2;simp only at q3;omega).trans hD1
    ·exact b3 i e
  have hs3:fv N M c0 w0 c3 w3 ⟨Q9 ks st.env,R'⟩ {a with defers:={target:=.collected w.heap.size,args:= #[]}::a.defers}:=
   ⟨Gr.mem,hR3,λt=>by rw[BQ];exact Ae hN.bz (Ws (hs.env t)),hs.size,BZ,hs.gh,hs.gw,hs.reach.step h5 hs.gw hN⟩
  refine⟨.normal,⟨Q9 ks st.env,R'⟩,_,rfl,hQ,hs3.Nl (b:=w.heap.size+1) (o:=.loop rec) (by have:=hs.reach.fr.size;omega) IC (λ_ _ _ e=>by cases e) (Fk:=λk=>k<YB) (λk ws v hk hv=>?_) (λt k hk=>Nn oL (List.mem_append_left _ (WE hk))) (λr z hr k hk=>Nn oL (List.mem_append_right _ (WG (by rw[<-hR3];exact hr) hk))) ?_⟩
  ·rcases hv with hv|⟨hv,_⟩
   ·exact .inl hv
   ·exact absurd hk (Nat.not_lt.2 hv)
  ·refine BZ.to λi hi=>(World.putObj_heap_other λe=>?_).trans hi
   rw[e,IC]at hi;cases hi
def Ca (T:fq)(G:List bc)(N M:Nat)(h8:List (Nat×bu))(rf:Option Nat):Nat->Code->St->(Ex->St->Prop)->Prop
 |0,_,_,_=>False
 |d + 1,code,st,Q=>match code with
  |.rangeFunc g _ _ _=>match rf with|some f=>Iw T G M f g st Q|none=>False
  |.loop c=>match Gl h8 (keyOf c)with
   |some i=>∃(wm:i.α->Prop) (μ:i.α->Nat),wm (i.a0 st)/\fold M (i.jn st) st (i.F st (i.a0 st)).1 (i.F st (i.a0 st)).2/\∀a:i.α,wm a->pf T G N M (Ca T G N M h8 rf d) c ⟨(i.F st a).1,(i.F st a).2.map some⟩ λe jt=>match e with
    |.normal=>(wm (i.next jt)/\μ (i.next jt)<μ a)/\fold M (i.ex jt) jt (i.F st (i.next jt)).1 (i.F st (i.next jt)).2
    |.exit j=>Q (.exit j) jt
    |.ret=>Q .ret jt
   |none=>False
  |_=>False
abbrev LL(T:fq)(G:List bc)(N M:Nat)(h8:List (Nat×bu)):=Ca T G N M h8 none
theorem wq{P:Program}(hD:r7 P){T:fq}(hT:jy P T){G:List bc}(hG:jW P G){N M:Nat}{h8:List (Nat×bu)}{rf:Option Nat}{ro:Option Nat}(DI:ro=none\/rf=none):∀(d:Nat) (code:Code) (st:St) (Q:Ex->St->Prop),RF rf N code->Ca T G N M h8 rf d code st Q->tP ro P N M code st Q
 |0,_,_,_,_,h=>h.elim
 |d + 1,code,st,Q,nn,h=>by
  unfold Ca at h
  split at h
  ·split at h
   ·rename_i f
    rcases DI with e|e
    ·subst e;exact Nk hG nn h
    ·cases e
   ·exact h.elim
  ·rename_i c
   split at h
   ·rename_i i hi
    obtain⟨wm,μ,h2,h3,h4⟩:=h
    have hc:RF rf N c:=by
     cases rf with
     |none=>trivial
     |some f=>exact nn
    refine qae (i.F st) wm μ (i.a0 st) (i.jn st) h2 h3 λa ha=>Tr.mono (λe jt hq=>?_) (No hD hT hG (Np rf N) (wq hD hT hG DI d) c _ _ hc (h4 a ha))
    cases e with
    |normal=>exact⟨_,_,hq.1.1,hq.1.2,hq.2⟩
    |exit j=>exact hq
    |ret=>exact hq
   ·exact h.elim
  ·exact h.elim
def iQ(R:Rows)(r j:Nat):D:=match R.getD r none with|some row=>(row.es.get 0).getD j .dead|none=>.dead
def ph(R:Rows)(r:Nat):ao:=match R.getD r none with|some row=>row.es|none=>.gen []
def oP(R:Rows)(r:Nat):List Int:=match R.getD r none with|some ⟨_,_,_,.ints _ l⟩=>l|_=>[]
def tz(k:RK)(R:Rows)(r:Nat):List (RK.T k):=match R.getD r none with|some ⟨_,_,_,.av k' l⟩=>(match Ge k' k l with|some m=>m|none=>[])|_=>[]
def Nq(k:IntKind)(R:Rows)(d:D):List Int:=match d with|.all r=>oP R r|.own r _ _=>oP R r|d=>nD k d
def lz(d:D)(n:Nat):Nat:=match d with|.all r=>r|.own r _ _=>r|.ptr r _ _=>r|.pa r _ _ _ _ _=>r|_=>n
theorem DJ{n:Int}(h1: -9223372036854775808<=n)(h2:n<=9223372036854775807):IntKind.wrap .i64 n=n:=by rw[IntKind.wrap_i64];omega
inductive oX where
 |sl (t:CT) (fr:Bool)
 |row (ty sz:Nat) (t:CT)
def Gs:CT->ao
 |.ints k=>.ints k []
 |.bo=>.bo []
 |.av k=>.av k []
 |_=>.gen []
def CT.iL:CT->Nat
 |.av k=>k.size
 |_=>1
def toCT:CT->ao->Option ao
 |.ints k,E=>match E.toI k with|some l=>some (.ints k l)|none=>none
 |.bo,E=>match E.toB with|some l=>some (.bo l)|none=>none
 |.av k,E=>match E.toR k with|some l=>some (.av k l)|none=>none
 |_,_=>none
theorem WH(t:CT):(Gs t).Nil:=by cases t<;>rfl
theorem Nr{t:CT}{E E':ao}(h:toCT t E=some E'):ao.Eq E E':=by
 cases t with
 |ints k=>
  simp only[toCT]at h
  split at h
  ·rename_i l hl
   cases h
   cases E with
   |ints k' m=>
    simp only[ao.toI]at hl
    split at hl
    ·rename_i hk;cases hl;simp only[ao.Eq,hk]
    ·cases hl
   |gen es=>cases es<;>simp[ao.toI]at hl;subst hl;rfl
   |bo m=>simp[ao.toI]at hl
   |av k m=>simp[ao.toI]at hl
  ·cases h
 |bo=>
  simp only[toCT]at h
  split at h
  ·rename_i l hl
   cases h
   cases E with
   |bo m=>simp[ao.toB]at hl;subst hl;rfl
   |gen es=>cases es<;>simp[ao.toB]at hl;subst hl;rfl
   |ints k m=>simp[ao.toB]at hl
   |av k m=>simp[ao.toB]at hl
  ·cases h
 |av k=>
  simp only[toCT]at h
  split at h
  ·rename_i l hl
   cases h
   cases E with
   |av k' m=>simp only[ao.toR]at hl;simp only[ao.Eq,hl]
   |gen es=>cases es<;>simp[ao.toR]at hl;subst hl;rfl
   |ints k m=>simp[ao.toR]at hl
   |bo m=>simp[ao.toR]at hl
  ·cases h
 |_=>simp[toCT]at h
structure jJ where
 ds:List oX
 ex:List (Nat×Row)
 fz:List Nat
def wu(m:Nat):List (Nat×Nat×Nat)->Bool
 |[]=>true
 |p::l=>bJ p.1 m&&wu m l
def Zk(m:Nat):List iu->Bool
 |[]=>true
 |.ptr r _ _::l=>bJ r m&&Zk m l
 |.fn _ ps::l=>wu m ps&&Zk m l
 |_=>false
theorem vc{m:Nat}{EX:List Nat}(hE:∀i,i<m->EX[i]?=some i):∀{ps:List (Nat×Nat×Nat)},wu m ps=true->sB EX ps ps=true
 |[],_=>rfl
 |(r,a,b)::l,h=>by
  simp only[wu,aE]at h
  simp only[sB,kH,hE r (lE h.1),vc hE h.2]
  simp
theorem xae{m:Nat}{EX:List Nat}(hE:∀i,i<m->EX[i]?=some i):∀{cs:List iu},Zk m cs=true->pj EX cs cs=true:=by
 intro cs
 induction cs with
 |nil=>intro _;rfl
 |cons x l ih=>
  intro h
  cases x with
  |ptr r a b=>
   simp only[Zk,aE]at h
   simp only[pj,kH,hE r (lE h.1),ih h.2]
   simp
  |fn f ps=>
   simp only[Zk,aE]at h
   simp only[pj,vc hE h.1,ih h.2]
   simp
  |_=>simp[Zk]at h
def SQ(m:Nat)(R:Rows)(c:D)(s:jJ):Option (D×jJ):=
  match c with
  | .int k n=>some (.int k n,s)
  | .bool b=>some (.bool b,s)
  | .str x=>some (.str x,s)
  | .iK=>some (.iK,s)
  | .jI=>some (.jI,s)
  | .c8 r=>match bJ r m with|true=>some (.c8 r,s)|false=>none
  | .ptr r o f=>match bJ r m with|true=>some (.ptr r o f,s)|false=>none
  | .gn f cs=>match Zk m cs with|true=>some (.gn f cs,s)|false=>none
  | .du=>match s with
    |⟨.sl t f::ds,ex,fz⟩=>some (.sl t.iL (Gs t) f,⟨ds,ex,fz⟩)
    |⟨.row ty sz t::ds,ex,fz⟩=>match bJ 0 sz with|true=>some (.all (m+ex.length),⟨ds,ex++[(R.length+ex.length,⟨false,ty,sz,Gs t⟩)],fz⟩)|false=>none
    |_=>none
  | .emp=>match s with
    |⟨.sl t f::ds,ex,fz⟩=>some (.sl t.iL (Gs t) f,⟨ds,ex,fz⟩)
    |⟨.row ty sz t::ds,ex,fz⟩=>match bJ 0 sz with|true=>some (.all (m+ex.length),⟨ds,ex++[(R.length+ex.length,⟨false,ty,sz,Gs t⟩)],fz⟩)|false=>none
    |_=>none
  | .sl n E fr=>match s with
    | ⟨.sl t f::ds,ex,fz⟩=>match toCT t E,(!f||fr)&&(bT n t.iL||IE E) with
      |some E',true=>some (.sl t.iL E' f,⟨ds,ex,fz⟩)
      |_,_=>none
    |_=>none
  | .all r=>match s with
    | ⟨.sl t f::ds,ex,fz⟩=>match R.getD r none with
      | some ⟨box,_,kB,E⟩=>match toCT t E,!box&&(bT kB t.iL&&Nat.ble m r) with
        |some E',true=>some (.sl t.iL E' f,⟨ds,ex,r::fz⟩)
        |_,_=>none
      |none=>none
    | ⟨.row ty sz t::ds,ex,fz⟩=>match bJ r m with
      |true=>some (.all r,⟨ds,ex,fz⟩)
      | false=>match R.getD r none with
        | some ⟨box,jX,kB,E⟩=>match toCT t E,!box&&(bT jX ty&&bT kB sz) with
          |some E',true=>some (.all (m+ex.length),⟨ds,ex++[(r,⟨false,ty,sz,E'⟩)],fz⟩)
          |_,_=>none
        |none=>none
    |_=>none
  | .own r o n=>match s with
    | ⟨.sl t f::ds,ex,fz⟩=>match R.getD r none with
      | some ⟨box,_,kB,E⟩=>match toCT t ((E.drop o).take n),!box&&(bT kB t.iL&&Nat.ble m r) with
        |some E',true=>some (.sl t.iL E' f,⟨ds,ex,r::fz⟩)
        |_,_=>none
      |none=>none
    |_=>none
  |_=>none
def KE(m:Nat)(R:Rows):List D->jJ->Option (List D×jJ)
 |[],s=>some ([],s)
 |c ::cs,s=>match SQ m R c s with
  |some (c',s')=>match KE m R cs s' with
   |some (rO,IF)=>some (c'::rO,IF)
   |none=>none
  |none=>none
def EU(m:Nat)(R:Rows)(d:D)(s:jJ):Option (D×jJ):=
 match d with
 |.agg cs=>match KE m R cs s with|some (rO,s')=>some (.agg rO,s')|none=>none
 |d=>SQ m R d s
def sC(m:Nat)(R:Rows):List D->jJ->Option (List D×jJ)
 |[],s=>some ([],s)
 |c ::cs,s=>match EU m R c s with
  |some (c',s')=>match sC m R cs s' with
   |some (rO,IF)=>some (c'::rO,IF)
   |none=>none
  |none=>none
def IG(m:Nat)(R:Rows)(d:D)(s:jJ):Option (D×jJ):=
 match d with
 |.dt ds=>match sC m R ds s with|some (om,s')=>some (.dt om,s')|none=>none
 |d=>EU m R d s
def KF(m:Nat)(R:Rows):Nat->Nat->jJ->Option (List Row×jJ)
 |0,_,s=>some ([],s)
 |n + 1,i,s=>match R.getD i none with
  |some ⟨true,ty,sz,.gen [e]⟩=>match KE m R e s with
   |some (e',s')=>match KF m R n (i+1) s' with
    |some (rs,IF)=>some (⟨true,ty,sz,.gen [e']⟩::rs,IF)
    |none=>none
   |none=>none
  |some ⟨false,ty,sz,E⟩=>match KF m R n (i+1) s with
   |some (rs,IF)=>some (⟨false,ty,sz,E⟩::rs,IF)
   |none=>none
  |_=>none
def EV(m:Nat)(ex:List (Nat×Row)):List Nat:=List.range m++ex.map (·.1)
def r8(m:Nat)(ds:List oX)(d:D)(R:Rows)(K:D->List Row->Prop):Prop:=
 match IG m R d ⟨ds,[],[]⟩with
 |some (d',s)=>match KF m R m 0 s with
  |some (rs,s')=>cj (An m (EV m s'.ex)&&s'.fz.all (KG (EV m s'.ex))) (K d' (rs++s'.ex.map (·.2)))
  |none=>False
 |none=>False
def sD(R:Rows)(x:Nat×Row):Prop:=
 x.2.box=false/\match R.getD x.1 none with
 |some ⟨Ar,jX,kB,jb⟩=>Ar=false/\jX=x.2.ty/\kB=x.2.sz/\ao.Eq jb x.2.es
 |none=>0<x.2.sz/\x.2.es.Nil
structure oq(m:Nat)(R:Rows)(EX:List Nat)(s:jJ):Prop where
 at_:∀(i:Nat) x,s.ex[i]?=some x->EX[m+i]?=some x.1
 ff:∀x∈s.ex,sD R x
 out:∀r∈s.fz,KG EX r=true
def Au(s s':jJ):Prop:=s.ex<+:s'.ex/\s.fz<:+s'.fz
theorem Au.refl(s:jJ):Au s s:=⟨bV _,bW _⟩
theorem Au.trans{a b c:jJ}(h:Au a b)(g:Au b c):Au a c:=⟨h.1.trans g.1,h.2.trans g.2⟩
theorem qd{E:ao}(h:IE E=true):E.Nil:=ao.ot.2 (SA h)
theorem Zie{m:Nat}{R:Rows}{c c':D}{s s':jJ}(h:SQ m R c s=some (c',s')):
    Au s s'/\((∀x∈s.ex,sD R x)-> ∀x∈s'.ex,sD R x)/\ ∀EX:List Nat,(∀i,i<m->EX[i]? =some i)->oq m R EX s'->ju EX m R c c':=by
  have Ns: ∀{ty sz t},bJ 0 sz=true->((∀x∈s.ex,sD R x)-> ∀x∈s.ex++[(R.length+s.ex.length,(⟨false,ty,sz,Gs t⟩:Row))],sD R x)/\
      ∀(EX:List Nat) (ds:List oX) (fz:List Nat),oq m R EX ⟨ds,s.ex++[(R.length+s.ex.length,(⟨false,ty,sz,Gs t⟩:Row))],fz⟩->IH EX R (m+s.ex.length)=true:=by
    intro ty sz t fw
    have hn:R.getD (R.length+s.ex.length) none=none:=by rw[aK,List.getElem?_eq_none (by omega)];rfl
    refine⟨λhg x hx=> ?_,λEX ds fz hG=> ?_⟩
    . simp only[bX,bY]at hx
      rcases hx with hx|rfl
      . exact hg x hx
      . refine⟨rfl,?_⟩
        simp only[hn]
        exact⟨lE fw,WH t⟩
    . have:=hG.at_ s.ex.length (R.length+s.ex.length,⟨false,ty,sz,Gs t⟩) (by simp)
      simp only[IH,this,hn]
  cases c<;>simp only[SQ]at h<;>try(cases h;done)
  case int k n=>cases h;exact⟨.refl _,id,λEX _ _=>by simp [ju,cj]⟩
  case bool b=>cases h;exact⟨.refl _,id,λEX _ _=>by simp [ju]⟩
  case str x=>cases h;exact⟨.refl _,id,λEX _ _=>by simp [ju]⟩
  case iK=>cases h;exact⟨.refl _,id,λEX _ _=>by simp [ju]⟩
  case jI=>cases h;exact⟨.refl _,id,λEX _ _=>by simp [ju]⟩
  case c8 r=>
    split at h
    . rename_i hr
      cases h
      refine⟨.refl _,id,λEX hE _=> ?_⟩
      have:=hE r (lE hr)
      simp only[ju,da,kH,this]
      exact⟨by simp,trivial⟩
    . cases h
  case ptr r o f=>
    split at h
    . rename_i hr
      cases h
      refine⟨.refl _,id,λEX hE _=> ?_⟩
      have:=hE r (lE hr)
      simp only[ju,da,kH,this]
      exact⟨by simp,trivial⟩
    . cases h
  case gn f cs=>
    split at h
    . rename_i hr
      cases h
      refine⟨.refl _,id,λEX hE _=> ?_⟩
      simp only[ju,da,xae hE hr]
      exact⟨by simp,trivial⟩
    . cases h
  case du=>
    split at h
    . cases h;exact⟨.refl _,id,λEX _ _=>WH _⟩
    . split at h
      . rename_i fw
        cases h
        obtain⟨v1,v2⟩:=Ns fw
        exact⟨⟨bZ _ _,bW _⟩,v1,λEX _ hG=>by simp only[ju,da];exact⟨v2 EX _ _ hG,trivial⟩⟩
      . cases h
    . cases h
  case emp=>
    split at h
    . cases h;exact⟨.refl _,id,λEX _ _=>WH _⟩
    . split at h
      . rename_i fw
        cases h
        obtain⟨v1,v2⟩:=Ns fw
        exact⟨⟨bZ _ _,bW _⟩,v1,λEX _ hG=>by simp only[ju,da];exact⟨v2 EX _ _ hG,trivial⟩⟩
      . cases h
    . cases h
  case sl n E fr=>
    split at h
    . rename_i t f ds ex fz
      split at h
      . rename_i E' hE hb
        cases h
        simp only[aE,Bool.or_eq_true]at hb
        refine⟨.refl _,id,λEX _ _=> ?_⟩
        simp only[ju,da]
        exact⟨by simpa using hb.1,hb.2.symm.imp qd bE,Nr hE⟩
      . cases h
    . cases h
  case all r =>
    split at h
    . rename_i t f ds ex fz
      split at h
      . rename_i box ty kB E hR
        split at h
        . rename_i E' hE hb
          cases h
          simp only[aE]at hb
          refine⟨⟨bV _,cA _ _⟩,id,λEX _ hG=> ?_⟩
          simp only[ju,hR,da,aE]
          exact⟨⟨⟨⟨hb.1,hb.2.1⟩,hG.out r (by simp)⟩,hb.2.2⟩,Nr hE⟩
        . cases h
      . cases h
    . rename_i ty sz t ds ex fz
      split at h
      . rename_i cf
        cases h
        refine⟨.refl _,id,λEX pN hG=> ?_⟩
        simp only[ju,da]
        have:=pN r (lE cf)
        exact⟨by simp [kH,this],trivial⟩
      . split at h
        . rename_i box jX kB E hR
          split at h
          . rename_i E' hE hb
            cases h
            simp only[aE,Bool.not_eq_true']at hb
            refine⟨⟨bZ _ _,bW _⟩,λhg x hx=> ?_,λEX pN hG=> ?_⟩
            . simp only[bX,bY]at hx
              rcases hx with hx|rfl
              . exact hg x hx
              . refine⟨rfl,?_⟩
                simp only[hR]
                exact⟨hb.1,bE hb.2.1,bE hb.2.2,Nr hE⟩
            . have:=hG.at_ ex.length (r,⟨false,ty,sz,E'⟩) (by simp)
              simp only[ju,da]
              exact⟨by simp [kH,this],trivial⟩
          . cases h
        . cases h
    . cases h
  case own r o n=>
    split at h
    . rename_i t f ds ex fz
      split at h
      . rename_i box ty kB E hR
        split at h
        . rename_i E' hE hb
          cases h
          simp only[aE]at hb
          refine⟨⟨bV _,cA _ _⟩,id,λEX _ hG=> ?_⟩
          simp only[ju,hR,da,aE]
          exact⟨⟨⟨⟨hb.1,hb.2.1⟩,hG.out r (by simp)⟩,hb.2.2⟩,Nr hE⟩
        . cases h
      . cases h
    . cases h
theorem oq.mono{m:Nat}{R:Rows}{EX:List Nat}{s s':jJ}(hl:Au s s')(h:oq m R EX s'):oq m R EX s:=
 ⟨λi x hx=>h.at_ i x (by
  obtain⟨t,ht⟩:=hl.1
  rw[<-ht,aZ (List.getElem?_eq_some_iff.1 hx).1];exact hx),λx hx=>h.ff x (hl.1.subset hx),λr hr=>h.out r (hl.2.subset hr)⟩
theorem WI{m:Nat}{R:Rows}:∀{cs rO:List D} {s s':jJ},KE m R cs s=some (rO,s')->
 Au s s'/\((∀x∈s.ex,sD R x)->∀x∈s'.ex,sD R x)/\∀EX:List Nat,(∀i,i<m->EX[i]?=some i)->oq m R EX s'->EW EX m R cs rO
 |[],rO,s,s',h=>by simp only[KE]at h;cases h;exact⟨.refl _,id,λ_ _ _=>trivial⟩
 |c ::cs,rO,s,s',h=>by
  simp only[KE]at h
  split at h
  ·rename_i c1 s1 h1
   split at h
   ·rename_i cs1 s2 h2
    cases h
    obtain⟨a1,a2,a3⟩:=Zie h1
    obtain⟨b1,b2,b3⟩:=WI h2
    exact⟨a1.trans b1,λh=>b2 (a2 h),λEX pN hG=>⟨a3 EX pN (hG.mono b1),b3 EX pN hG⟩⟩
   ·cases h
  ·cases h
theorem xd{m:Nat}{R:Rows}{d d':D}{s s':jJ}(h:EU m R d s=some (d',s')):
 Au s s'/\((∀x∈s.ex,sD R x)->∀x∈s'.ex,sD R x)/\∀EX:List Nat,(∀i,i<m->EX[i]?=some i)->oq m R EX s'->rh EX m R d d':=by
 unfold EU at h
 split at h
 ·rename_i cs
  split at h
  ·rename_i rO s1 h1
   cases h
   exact WI h1
  ·cases h
 ·rename_i gr
  obtain⟨a1,a2,a3⟩:=Zie h
  refine⟨a1,a2,λEX pN hG=>?_⟩
  have h3:=a3 EX pN hG
  cases d' with
  |agg ps=>simp[ju]at h3
  |_=>exact h3
theorem Zmu{m:Nat}{R:Rows}:∀{cs rO:List D} {s s':jJ},sC m R cs s=some (rO,s')->
 Au s s'/\((∀x∈s.ex,sD R x)->∀x∈s'.ex,sD R x)/\∀EX:List Nat,(∀i,i<m->EX[i]?=some i)->oq m R EX s'->wv EX m R cs rO
 |[],rO,s,s',h=>by simp only[sC]at h;cases h;exact⟨.refl _,id,λ_ _ _=>trivial⟩
 |c ::cs,rO,s,s',h=>by
  simp only[sC]at h
  split at h
  ·rename_i c1 s1 h1
   split at h
   ·rename_i cs1 s2 h2
    cases h
    obtain⟨a1,a2,a3⟩:=xd h1
    obtain⟨b1,b2,b3⟩:=Zmu h2
    exact⟨a1.trans b1,λh=>b2 (a2 h),λEX pN hG=>⟨a3 EX pN (hG.mono b1),b3 EX pN hG⟩⟩
   ·cases h
  ·cases h
theorem qaf{m:Nat}{R:Rows}{d d':D}{s s':jJ}(h:IG m R d s=some (d',s')):
 Au s s'/\((∀x∈s.ex,sD R x)->∀x∈s'.ex,sD R x)/\∀EX:List Nat,(∀i,i<m->EX[i]?=some i)->oq m R EX s'->Am EX m R d d':=by
 unfold IG at h
 split at h
 ·rename_i cs
  split at h
  ·rename_i rO s1 h1
   cases h
   exact Zmu h1
  ·cases h
 ·rename_i gr
  obtain⟨a1,a2,a3⟩:=xd h
  refine⟨a1,a2,λEX pN hG=>?_⟩
  have h3:=a3 EX pN hG
  cases d' with
  |dt ps=>simp[rh,ju]at h3
  |_=>exact h3
theorem WJ{m:Nat}{R:Rows}:∀{n i:Nat} {rs:List Row} {s s':jJ},KF m R n i s=some (rs,s')->
 Au s s'/\((∀x∈s.ex,sD R x)->∀x∈s'.ex,sD R x)/\∀EX:List Nat,(∀i,i<m->EX[i]?=some i)->oq m R EX s'->mX EX m R (bK i n) rs
 |0,i,rs,s,s',h=>by simp only[KF]at h;cases h;exact⟨.refl _,id,λ_ _ _=>trivial⟩
 |n + 1,i,rs,s,s',h=>by
  simp only[KF]at h
  split at h
  ·rename_i ty sz e hR
   split at h
   ·rename_i e1 s1 h1
    split at h
    ·rename_i rs1 s2 h2
     cases h
     obtain⟨a1,a2,a3⟩:=WI h1
     obtain⟨b1,b2,b3⟩:=WJ h2
     refine⟨a1.trans b1,λh=>b2 (a2 h),λEX pN hG=>?_⟩
     rw[cB]
     simp only[mX,hR,da]
     exact⟨⟨by simp,a3 EX pN (hG.mono b1)⟩,b3 EX pN hG⟩
    ·cases h
   ·cases h
  ·rename_i ty sz E hR
   split at h
   ·rename_i rs1 s2 h2
    cases h
    obtain⟨b1,b2,b3⟩:=WJ h2
    refine⟨b1,b2,λEX pN hG=>?_⟩
    rw[cB]
    simp only[mX,hR,da]
    refine⟨⟨by simp,?_⟩,b3 EX pN hG⟩
    cases E with
    |gen es=>cases es<;>simp[ao.Eq]
    |av k l=>simp[ao.Eq,Z9e]
    |_=>simp[ao.Eq]
   ·cases h
  ·cases h
theorem Qs{ex:List Nat}{m:Nat}{R:Rows}:∀{l1 l2:List Nat} {p1 p2:List Row},mX ex m R l1 p1->mX ex m R l2 p2->mX ex m R (l1++l2) (p1++p2)
 |[],l2,[],p2,_,h=>h
 |r::l1,l2,p::p1,p2,h1,h2=>by
  simp only[List.cons_append,mX]at h1⊢
  exact⟨h1.1,Qs h1.2 h2⟩
 |[],_,_::_,_,h,_=>h.elim
 |_::_,_,[],_,h,_=>h.elim
theorem Z8o{ex:List Nat}{m:Nat}{R:Rows}:∀{l:List (Nat×Row)},(∀x∈l,sD R x)->mX ex m R (l.map (·.1)) (l.map (·.2))
 |[],_=>trivial
 |(r,⟨box,ty,sz,es⟩)::l,h=>by
  simp only[List.map_cons,mX]
  refine⟨?_,Z8o λx hx=>h x (by simp[hx])⟩
  obtain⟨h1,h2⟩:=h (r,⟨box,ty,sz,es⟩) (by simp)
  simp only at h1 h2
  subst h1
  split
  ·rename_i Ar jX kB jb hR
   simp only[hR]at h2
   obtain⟨rfl,rfl,rfl,h2⟩:=h2
   simp only[da]
   exact⟨by simp,h2⟩
  ·rename_i hR
   simp only[hR]at h2
   simp only[da]
   exact⟨by simpa using h2.1,h2.2⟩
theorem Za1{m:Nat}{ds:List oX}{d:D}{R:Rows}{K:D->List Row->Prop}(h:r8 m ds d R K):∃res rows,K res rows/\Av m res rows d R:=by
 unfold r8 at h
 split at h
 ·rename_i d' s h1
  split at h
  ·rename_i rs s' h2
   simp only[da,aE]at h
   obtain⟨⟨hx,hf⟩,hK⟩:=h
   obtain⟨a1,a2,a3⟩:=qaf h1
   obtain⟨b1,b2,b3⟩:=WJ h2
   have Gt:∀x∈s'.ex,sD R x:=b2 (a2 λx hx=>by simp at hx)
   have pN:∀i,i<m->(EV m s'.ex)[i]?=some i:=λi hi=>by
    unfold EV
    rw[aZ (by simpa using hi)];simp[hi]
   have hG:oq m R (EV m s'.ex) s':=⟨λi x hx=>by
    unfold EV
    rw[List.getElem?_append_right (by simp)]
    simp[hx],Gt,λr hr=>List.all_eq_true.1 hf r hr⟩
   refine⟨d',_,hK,EV m s'.ex,hx,a3 _ pN (hG.mono b1),?_⟩
   have h3:=b3 _ pN hG
   have:EV m s'.ex=bK 0 m++s'.ex.map (·.1):=by unfold EV;rw[List.range_eq_range']
   refine Eq.mpr ?_ (Qs h3 (Z8o Gt))
   rw[<-this]
  ·exact h.elim
 ·exact h.elim

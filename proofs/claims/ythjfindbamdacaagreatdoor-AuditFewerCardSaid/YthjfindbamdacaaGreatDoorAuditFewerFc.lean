import Derived.Test.YthjfindbamdacaaGreatDoorAuditFewerDraw
import Derived.IntWalk
open List renaming getD->aK,ext_getElem->bN,map_map->bU,prefix_refl->bV,suffix_refl->bW,mem_append->bX,mem_singleton->bY,prefix_append->bZ,suffix_cons->cA,getElem?_append_left->aZ,range'->bK,range'_succ->cB
open Nat renaming beq->bT,blt->bJ
set_option linter.all false
namespace Go.GD
open Go
def sK(ex:List Nat)(M:Nat)(R:Rows)(d p:D):Prop:=
 match p with
 |.dead=>True
 |.ptr i o f=>match d with|.ptr r o' f'=>cr (kM ex i r) (o'=o/\f'=f)|_=>False
 |.iv sz es i off=>match d with|.iv kG je i' iQ=>kG=sz/\ao.Eq je es/\i'=i/\iQ=off|_=>False
 |p=>Ay ex M R d p
def Cg(ex:List Nat)(M:Nat)(R:Rows)(env:List (Nat×D)):List (Nat×D)->Prop
 |[]=>True
 |(t,p)::l=>sK ex M R (look env t) p/\Cg ex M R env l
def fold(M:Nat)(ex:List Nat)(st:St)(mw:List (Nat×D))(aj:List Row):Prop:=
 cr (Az M ex) (Cg ex M st.rows st.env mw/\nf ex M st.rows ex aj)
theorem xc{c:Ctx}{w:World}{ex:List Nat}{m:Nat}{R:Rows}{rows:List Row}(hm:Mem c w)(hR:∀r,c.R r=R.getD r none)(cw:nf ex m R ex rows)(fi:∀r row,c.R r=some row->¬c.V r->m<=r->c.base<=c.ρ r){d p:D}{v:Value}(h:sK ex m R d p)(hr:Rep c w d v):Rep (c.out ex rows) w p v:=by
 have nM:∀b,c.I b->(c.out ex rows).I b/\w.heap[b]?=w.heap[b]? :=λb hb=>⟨.inl hb,rfl⟩
 cases p with
 |dead=>trivial
 |ptr i o f=>
  simp only[sK]at h
  split at h
  ·rename_i r o' f'
   simp only[db]at h
   obtain⟨hx,rfl,rfl⟩:=h
   exact S1 (w:=w) hR cw hx hr
  ·exact h.elim
 |iv sz es i off=>
  simp only[sK]at h
  split at h
  ·obtain⟨rfl,he,rfl,rfl⟩:=h
   have he:=ao.AA he
   obtain⟨b,o,arr,ty,fz,h1,h2,h3,h4,h5⟩:=hr
   rw[he]at h3 h5
   exact⟨b,o,arr,ty,fz,h1,.inl h2,h3,h4,ot nM _ _ _ _ h5⟩
  ·exact h.elim
 |_=>
  simp only[sK]at h
  exact S3 hm hR cw fi h hr
theorem Zgp{c:Ctx}{w:World}{ex:List Nat}{m:Nat}{R:Rows}{rows:List Row}(hm:Mem c w)(hR:∀r,c.R r=R.getD r none)(cw:nf ex m R ex rows)(fi:∀r row,c.R r=some row->¬c.V r->m<=r->c.base<=c.ρ r){env:List (Nat×D)}{a:Act}(he:∀t,Rep c w (look env t) (a.tmps.getD t undef)):
 ∀{mw:List (Nat×D)},Cg ex m R env mw->∀t,Rep (c.out ex rows) w (look mw t) (a.tmps.getD t undef)
 |[],_,t=>trivial
 |(u,p)::l,h,t=>by
  have:=Zgp hm hR cw fi he h.2 t
  rw[Bq]
  split
  ·rename_i e
   subst e
   exact xc hm hR cw fi h.1 (he u)
  ·exact this
theorem zc{N M:Nat}{c0:Ctx}{w0:World}{c:Ctx}{w:World}{st:St}{a:Act}(hs:fx N M c0 w0 c w st a){ex:List Nat}{mw:List (Nat×D)}{aj:List Row}(h:fold M ex st mw aj):∃c',fx N M c0 w0 c' w ⟨mw,aj.map some⟩ a:=by
 unfold fold at h
 simp only[db]at h
 obtain⟨hex,hE,cw⟩:=h
 obtain⟨fi,gy,gh⟩:=S4 hs hex cw
 refine⟨c.out ex aj,gy,λr=>?_,Zgp hs.mem hs.rows cw fi hs.env hE,hs.size,hs.defers,hs.gj,hs.gw,gh⟩
 simp only[Ctx.out,aK,List.getElem?_map]
 cases aj[r]? <;>rfl
theorem Tr.mono{ro:Option Nat}{P:Program}{N M:Nat}{code:Code}{st:St}{Q Q':Ex->St->Prop}(hq:∀e st,Q e st->Q' e st)(h:ub ro P N M code st Q):ub ro P N M code st Q':=
 λc0 w0 c w a hs=>wpIn_mono (h c0 w0 c w a hs) λe a' w' ⟨ex,jx,c',h1,h2,h3⟩=>⟨ex,jx,c',h1,hq _ _ h2,h3⟩
theorem zaf{ro:Option Nat}{P:Program}{N M:Nat}{code:Code}{st:St}{Q:Ex->St->Prop}{α:Type}(F:α->List (Nat×D)×List Row)(wE:α->Prop)(μ:α->Nat)
 (a0:α) (jo:List Nat) (hp:wE a0) (h0:fold M jo st (F a0).1 (F a0).2)
 (round:∀a,wE a->ub ro P N M code ⟨(F a).1,(F a).2.map some⟩ λe jx=>match e with
  |.normal=>∃b ex,wE b/\μ b<μ a/\fold M ex jx (F b).1 (F b).2
  |.exit i=>Q (.exit i) jx
  |.ret=>Q .ret jx):ub ro P N M (.loop code) st Q:=by
 intro c0 w0 c w a hs
 have key:∀(n:Nat) (x:α),wE x->μ x<n->∀(c:Ctx) (w:World) (a:Act),fx N M c0 w0 c w ⟨(F x).1,(F x).2.map some⟩ a->
  Code.roundsIn (Bt ro) 0 P code (λe a' w'=>∃ex jx c',na e=some ex/\Q ex jx/\fx N M c0 w0 c' w' jx a') n a w:=by
  intro n
  induction n with
  |zero=>intro x _ h;omega
  |succ n ih=>
   intro x hx cj c w a hs
   rw[roundsIn_succ]
   refine wpIn_mono (round x hx c0 w0 c w a hs) λe a' w' hq=>?_
   obtain⟨ex,jx,c',he,hq,jl⟩:=hq
   cases e<;>simp only[na,Option.some.injEq,reduceCtorEq]at he
   ·subst he
    obtain⟨b,ex,h1,h2,h3⟩:=hq
    obtain⟨S5,WZ⟩:=zc jl h3
    exact ih b h1 (by omega) S5 w' a' WZ
   ·subst he;exact⟨_,jx,c',rfl,hq,jl⟩
   ·subst he;exact⟨_,jx,c',rfl,hq,jl⟩
 obtain⟨c',jl⟩:=zc hs h0
 exact wpIn_loop_rounds _ (key (μ a0+1) a0 hp (by omega) c' w a jl)
structure bw where
 α:Type
 F:St->α->List (Nat×D)×List Row
 a0:St->α
 jo:St->List Nat
 next:St->α:=a0
 ex:St->List Nat:=jo
structure Ask(p:Prop):Prop where
 ok:p
def keyOf:Code->Nat
 |.region id _ _=>id
 |.block id _=>id
 |.seq a _=>keyOf a
 |.loop a=>keyOf a
 |_=>0
def GB:List (Nat×bw)->Nat->Option bw
 |[],_=>none
 |(k,i)::l,n=>match bT k n with|true=>some i|false=>GB l n
def IM(T:fq)(G:List bc)(M f:Nat)(g:Operand)(st:St)(Q:Ex->St->Prop):Prop:=
 match bz st.env g with
 |.gn gf cs=>match KV ((yTs f).map (look st.env)),pr G gf with
  |some ys,some k=>IK T ys st.env st.rows λR=>cr (bJ gf YB)<|ID G M gf k (.gn f ys::cs.map iw.d) R λks _ R=>GC ks st.env λenv=>cr (sL (AB env++GF R)) (Q .normal ⟨env,R⟩)
  |_,_=>False
 |_=>False
def evL(ds:List D):Operand->D|.tmp i=>ds.getD i .dead|_=>.dead
def opsL(n:Nat):List Operand:=(List.range n).map Operand.tmp
theorem xaf{ds:List D}:(opsL ds.length).map (evL ds)=ds:=by
 refine bN (by simp[opsL]) λi h1 h2=>?_
 simp[opsL,evL,aK,h2]
def IN(vs:List Value):Operand->Value|.tmp i=>vs.getD i undef|_=>undef
theorem yG{vs:List Value}{n:Nat}(h:n=vs.length):(opsL n).map (IN vs)=vs:=by
 subst h
 refine bN (by simp[opsL]) λi h1 h2=>?_
 simp[opsL,IN,aK,h2]
theorem yc{c:Ctx}{w:World}:∀{ds:List D} {vs:List Value},kh c w ds vs->∀i,Rep c w (ds.getD i .dead) (vs.getD i undef)
 |[],[],_,i=>by simp[aK];trivial
 |d::ds,v::vs,h,0=>by simpa using h.1.toRep
 |d::ds,v::vs,h,i+1=>by simpa using yc h.2 i
 |[],_::_,h,_=>h.elim
 |_::_,[],h,_=>h.elim
theorem Z9d{c:Ctx}{w:World}:∀{cs:List iw} {us:List Value},oX c w cs us->kh c w (cs.map iw.d) us
 |[],[],_=>trivial
 |x::cs,u::us,h=>⟨VRep.EW (WM.1 h.1),Z9d h.2⟩
 |[],_::_,h=>h.elim
 |_::_,[],h=>h.elim
theorem NH{P:Program}{G:List bc}(hG:jZ P G){N M f:Nat}{g:Operand}{ps:Array Tmp}{x b:Code}(nB:RF (some f) N (.rangeFunc g ps x b)){st:St}{Q:Ex->St->Prop}{T:fq}(h:IM T G M f g st Q):Tr P N M (.rangeFunc g ps x b) st Q:=by
 intro c0 w0 c w a hs
 obtain⟨y,⟨hy,hn,Fb,pS,h1⟩,he⟩:=nB
 unfold IM at h
 split at h
 rotate_left
 ·exact h.elim
 rename_i gf cs hg
 split at h
 rotate_left
 ·exact h.elim
 rename_i ys k S6 lY
 obtain⟨R0,c,h,hs⟩:=GA h hs
 simp only[db]at h
 obtain⟨IP,h⟩:=h
 have IP:=lE IP
 rw[<-xaf (ds:=.gn f ys::cs.map iw.d)]at h
 obtain⟨ks,val,R',X,h2,h3,h4,h5,h6⟩:=WO hG lY h
 obtain⟨dz,hf⟩:=Gx hG h3
 rw[IE]at h2
 obtain⟨oW,hQ⟩:=h2
 have S7:Rep c w (bz st.env g) (a.eval g):=Ny hs.env g
 rw[hg]at S7
 obtain⟨us,⟨_,S7⟩|⟨W0,_⟩,Fc⟩:=S7
 rotate_left
 ·exact absurd IP (Nat.not_lt.2 W0)
 refine wpIn_rangeFunc λfn _=>?_
 obtain⟨rec,nc⟩:∃rec:Loop,rec={state:=.ready,pending:=none,fn,tmps:=a.tmps,params:=ps,assign:=x,body:=b,defers:=w.heap.size}:=⟨_,rfl⟩
 obtain⟨wd,IQ⟩:∃wd,wd=w.alloc (.deferred (some [])):=⟨_,rfl⟩
 obtain⟨w1,GG⟩:∃w1,w1=wd.alloc (.loop rec):=⟨_,rfl⟩
 have hsd:wd.heap.size=w.heap.size+1:=by rw[IQ];simp
 have mP:w1.heap.size=w.heap.size+2:=by rw[GG];simp[hsd]
 have S8:w1.heap[w.heap.size+1]?=some (.loop rec):=by rw[GG,<-hsd];exact World.alloc_heap_new wd _
 have hD1:w1.heap[w.heap.size]?=some (.deferred (some [])):=by
  rw[GG];refine(Q7 wd _ _ (by omega)).trans ?_;rw[IQ];exact World.alloc_heap_new w _
 have GH:∀i,i<w.heap.size->w1.heap[i]?=w.heap[i]? :=λi hi=>by
  rw[GG];refine(Q7 wd _ _ (by omega)).trans ?_;rw[IQ];exact Q7 w _ _ hi
 obtain⟨c1,Ch⟩:∃c1:Ctx,c1={c with I:=λi=>c.I i\/i=w.heap.size+1}:=⟨_,rfl⟩
 have wF:jn c w c1 w1:=by
  rw[Ch]
  exact⟨rfl,Nat.le_refl _,λi hi=>⟨.inl hi,GH i (hs.mem.fu i hi).1⟩,λr z hr=>⟨z,hr,rfl,rfl,rfl,rfl,rfl,Iff.rfl,λhV arr ha=>⟨arr,(GH _ (Array.getElem?_eq_some_iff.1 ha).1).trans ha,rfl⟩⟩⟩
 have IS:∀r z,c.R r=some z->¬c.V r->c.ρ r<w.heap.size:=λr z hr hV=>by
  rcases hs.mem.row r z hr with h|⟨_,arr,h,_⟩
  ·exact(hV h.1).elim
  ·exact(Array.getElem?_eq_some_iff.1 h).1
 have IL:Mem c1 w1:=by
  have wF:=wF
  rw[Ch]at wF⊢
  refine⟨λr z hr=>ue wF rfl Iff.rfl (λnv=>GH _ (IS r z hr nv)) (hs.mem.row r z hr),hs.mem.inj,λi hi=>?_,by have:=hs.mem.top;show c.top<=_;omega,hs.mem.kR.mono wF.I⟩
  rcases hi with hi|hi
  ·have:=(hs.mem.fu i hi).1;exact⟨by omega,(hs.mem.fu i hi).2⟩
  ·exact⟨by omega,λr z hr hV=>by have:=IS r z hr hV;show c.ρ r≠i;omega⟩
 have IT:Rep c1 w1 (.gn f ys) (.func (.yield (w.heap.size+1)) #[] #[]):=by
  refine⟨y.ts.map λt=>a.tmps.getD t undef,.inr ⟨pS,w.heap.size+1,rec,rfl,by rw[Ch];exact .inr rfl,S8,by rw[nc],by rw[nc],y,hy,?_⟩,?_⟩
  ·cases he
   rw[nc]
   exact⟨rfl,rfl,rfl,Nat.le_trans hn hs.size,h1,rfl⟩
  ·have:=W3 (c:=c1) (w:=w1) (ev:=bz st.env) (ρ:=a.eval) (xs:=y.ts.map Operand.tmp) (cs:=ys) (by rw[Fb,bU];exact S6) (λz hz=>Ap wF (Ny hs.env z))
   rw[bU]at this
   exact this
 have W4:kh c1 w1 (cs.map iw.d) us:=W5 wF (Z9d Fc)
 have iS:kh c1 w1 (.gn f ys::cs.map iw.d) (.func (.yield (w.heap.size+1)) #[] #[]::us):=⟨IT,W4⟩
 have hlen:(D.gn f ys::cs.map iw.d).length=(Value.func (.yield (w.heap.size+1)) #[] #[]::us).length:=by simp[Fc.length]
 have mz:=(h6 c1 w1 (IN (.func (.yield (w.heap.size+1)) #[] #[]::us)) IL (by rw[Ch];have:=hs.base;show c.base<=_;omega) (by rw[Ch];exact hs.rows) (λz hz=>by
  simp only[opsL,List.mem_map,List.mem_range]at hz
  obtain⟨i,_,rfl⟩:=hz
  exact yc iS i) (λv w'=>∃c',jH ks c1 w1 c' w'/\(∀r,c'.R r=R'.getD r none)) λv w' c' hn hR _=>⟨c',hn,hR⟩).1 IP
 rw[yG hlen]at mz
 refine⟨w.heap.size+1,[{target:=.collected w.heap.size,args:= #[]}],w1,{target:=.fn (.func gf) us.toArray,args:= #[.func (.yield (w.heap.size+1)) #[] #[]]},w1,gf,(Value.func (.yield (w.heap.size+1)) #[] #[]::us).toArray,w1,?_,?_,?_,?_,λe=>(by cases e),?_⟩
 ·rw[GG,IQ,nc];exact run_enterLoop_outer _ _ _ _ _
 ·simp only[resolve,S7]
  simp[go_sem]
 ·intro f' _;trivial
 ·simp only[invoke]
  rw[<-hf,dz.enters (by rw[hf];exact IP)]
  congr 2
  simp
 ·refine CallsIn.mono (callsIn_wide.2 mz) λe w3 ⟨v,he3,c3,GI,hR3⟩=>?_
  subst he3
  have IU:w3.heap[w.heap.size+1]?=some (.loop rec):=(GI.cf.I _ (by rw[Ch];exact .inr rfl)).2.trans S8
  have Fe:=run_endLoop (P:=P) IU (by rw[nc];simp)
  have DU:rec.pending=none:=by rw[nc]
  rw[DU]at Fe
  refine⟨none,_,Fe,?_⟩
  have Ci:Fr (λi=>∃r z,c.R r=some z/\¬c.V r/\c.ρ r=i) w w3:=by
   have Ff:=GI.fr
   rw[Ch]at Ff
   refine⟨?_,?_,?_,by have:=Ff.size;omega,λi hi IV=>(Ff.heap i (by omega) IV).trans (GH i hi)⟩
   ·have:=Ff.os;rw[GG,IQ]at this;exact this
   ·have:=Ff.tape;rw[GG,IQ]at this;exact this
   ·have:=Ff.output;rw[GG,IQ]at this;exact this
  have hN:jH ks c w c3 w3:=by
   refine⟨GI.mem,?_,Ci,λi hi=>?_,λr row hr hV=>?_⟩
   ·have g1:=GI.cf
    rw[Ch]at g1
    refine⟨g1.base,g1.top,λi hi=>⟨(g1.I i (.inl hi)).1,(g1.I i (.inl hi)).2.trans (GH i (hs.mem.fu i hi).1)⟩,λr row hr=>?_⟩
    obtain⟨ak,q1,q2,q3,q4,q5,q6,qV,q7⟩:=g1.R r row hr
    exact⟨ak,q1,q2,q3,q4,q5,q6,qV,λnv arr ha=>q7 nv arr ((GH _ (Array.getElem?_eq_some_iff.1 ha).1).trans ha)⟩
   ·have:=GI.fu i hi
    rw[Ch]at this
    rcases this with(g|g)|g|g
    ·exact .inl g
    ·exact .inr (.inr (by omega))
    ·exact .inr (.inl g)
    ·exact .inr (.inr (by omega))
   ·have:=GI.ov r row hr hV
    rw[Ch]at this
    rcases this with g|g|g
    ·exact .inl g
    ·exact .inr (.inl g)
    ·exact .inr (.inr (by omega))
  have Cj:mi w0.heap.size w3 ({target:=.collected w.heap.size,args:= #[]}::a.defers):=by
   obtain⟨bs,b1,b2,b3⟩:=hs.defers.step hs.mem Ci
   refine⟨w.heap.size::bs,List.nodup_cons.2 ⟨λhm=>?_,b1⟩,by rw[b2];rfl,λi hi=>?_⟩
   ·obtain⟨bs',c1',c2',c3'⟩:=hs.defers
    rw[c2']at b2
    have:bs'=bs:=by
     have:=congrArg (List.map λ(d:Deferred)=>match d.target with|.collected i=>i|_=>0) b2
     simpa[bU,Function.comp_def]using this
    subst this
    have:=(Array.getElem?_eq_some_iff.1 (c3' _ hm).2).1
    omega
   ·rcases List.mem_cons.1 hi with e|e
    ·subst e
     refine⟨hs.reach.fr.size,?_⟩
     have Ff:=GI.fr
     rw[Ch]at Ff
     exact(Ff.heap _ (by omega) fun⟨r,z,q1,q2,q3⟩=>by have:=IS r z q1 q2;simp only at q3;omega).trans hD1
    ·exact b3 i e
  have hs3:fx N M c0 w0 c3 w3 ⟨sr ks st.env,R'⟩ {a with defers:={target:=.collected w.heap.size,args:= #[]}::a.defers}:=
   ⟨GI.mem,hR3,λt=>by rw[Ca];exact Ap hN.cf (WS (hs.env t)),hs.size,Cj,hs.gj,hs.gw,hs.reach.step h5 hs.gw hN⟩
  refine⟨.normal,⟨sr ks st.env,R'⟩,_,rfl,hQ,hs3.NI (b:=w.heap.size+1) (o:=.loop rec) (by have:=hs.reach.fr.size;omega) IU (λ_ _ _ e=>by cases e) (Fk:=λk=>k<YB) (λk ws v hk hv=>?_) (λt k hk=>NJ oW (List.mem_append_left _ (W6 hk))) (λr z hr k hk=>NJ oW (List.mem_append_right _ (W7 (by rw[<-hR3];exact hr) hk))) ?_⟩
  ·rcases hv with hv|⟨hv,_⟩
   ·exact .inl hv
   ·exact absurd hk (Nat.not_lt.2 hv)
  ·refine Cj.to λi hi=>(World.putObj_heap_other λe=>?_).trans hi
   rw[e,IU]at hi;cases hi
def Cl (T:fq)(G:List bc)(N M:Nat)(h8:List (Nat×bw))(rf:Option Nat):Nat->Code->St->(Ex->St->Prop)->Prop
 |0,_,_,_=>False
 |d + 1,code,st,Q=>match code with
  |.rangeFunc g _ _ _=>match rf with|some f=>IM T G M f g st Q|none=>False
  |.loop c=>match GB h8 (keyOf c)with
   |some i=>∃(wE:i.α->Prop) (μ:i.α->Nat),wE (i.a0 st)/\fold M (i.jo st) st (i.F st (i.a0 st)).1 (i.F st (i.a0 st)).2/\∀a:i.α,wE a->pz T G N M (Cl T G N M h8 rf d) c ⟨(i.F st a).1,(i.F st a).2.map some⟩ λe jx=>match e with
    |.normal=>(wE (i.next jx)/\μ (i.next jx)<μ a)/\fold M (i.ex jx) jx (i.F st (i.next jx)).1 (i.F st (i.next jx)).2
    |.exit j=>Q (.exit j) jx
    |.ret=>Q .ret jx
   |none=>False
  |_=>False
abbrev LL(T:fq)(G:List bc)(N M:Nat)(h8:List (Nat×bw)):=Cl T G N M h8 none
theorem wG{P:Program}(hD:sj P){T:fq}(hT:jB P T){G:List bc}(hG:jZ P G){N M:Nat}{h8:List (Nat×bw)}{rf:Option Nat}{ro:Option Nat}(DV:ro=none\/rf=none):∀(d:Nat) (code:Code) (st:St) (Q:Ex->St->Prop),RF rf N code->Cl T G N M h8 rf d code st Q->ub ro P N M code st Q
 |0,_,_,_,_,h=>h.elim
 |d + 1,code,st,Q,nB,h=>by
  unfold Cl at h
  split at h
  ·split at h
   ·rename_i f
    rcases DV with e|e
    ·subst e;exact NH hG nB h
    ·cases e
   ·exact h.elim
  ·rename_i c
   split at h
   ·rename_i i hi
    obtain⟨wE,μ,h2,h3,h4⟩:=h
    have hc:RF rf N c:=by
     cases rf with
     |none=>trivial
     |some f=>exact nB
    refine zaf (i.F st) wE μ (i.a0 st) (i.jo st) h2 h3 λa ha=>Tr.mono (λe jx hq=>?_) (NK hD hT hG (Zf rf N) (wG hD hT hG DV d) c _ _ hc (h4 a ha))
    cases e with
    |normal=>exact⟨_,_,hq.1.1,hq.1.2,hq.2⟩
    |exit j=>exact hq
    |ret=>exact hq
   ·exact h.elim
  ·exact h.elim
def iT(R:Rows)(r j:Nat):D:=match R.getD r none with|some row=>(row.es.get 0).getD j .dead|none=>.dead
def ng(R:Rows)(r:Nat):ao:=match R.getD r none with|some row=>row.es|none=>.gen []
def o4(R:Rows)(r:Nat):List Int:=match R.getD r none with|some ⟨_,_,_,.ints _ l⟩=>l|_=>[]
def sM(k:RK)(R:Rows)(r:Nat):List (RK.T k):=match R.getD r none with|some ⟨_,_,_,.av k' l⟩=>(match Gu k' k l with|some m=>m|none=>[])|_=>[]
def NL(k:IntKind)(R:Rows)(d:D):List Int:=match d with|.all r=>o4 R r|.own r _ _=>o4 R r|d=>nK k d
def kU(d:D)(n:Nat):Nat:=match d with|.all r=>r|.own r _ _=>r|.ptr r _ _=>r|.pa r _ _ _ _ _=>r|_=>n
theorem DW{n:Int}(h1: -9223372036854775808<=n)(h2:n<=9223372036854775807):IntKind.wrap .i64 n=n:=by rw[IntKind.wrap_i64];omega
inductive pk where
 |sl (t:CT) (fr:Bool)
 |row (ty sz:Nat) (t:CT)
def GJ:CT->ao
 |.ints k=>.ints k []
 |.bu=>.bu []
 |.av k=>.av k []
 |_=>.gen []
def CT.iO:CT->Nat
 |.av k=>k.size
 |_=>1
def toCT:CT->ao->Option ao
 |.ints k,E=>match E.toI k with|some l=>some (.ints k l)|none=>none
 |.bu,E=>match E.toB with|some l=>some (.bu l)|none=>none
 |.av k,E=>match E.toR k with|some l=>some (.av k l)|none=>none
 |_,_=>none
theorem W8(t:CT):(GJ t).Nil:=by cases t<;>rfl
theorem NM{t:CT}{E E':ao}(h:toCT t E=some E'):ao.Eq E E':=by
 cases t with
 |ints k=>
  simp only[toCT]at h
  split at h
  ·rename_i l hl
   cases h
   cases E with
   |ints k' m=>
    simp only[ao.toI]at hl
    split at hl
    ·rename_i hk;cases hl;simp only[ao.Eq,hk]
    ·cases hl
   |gen es=>cases es<;>simp[ao.toI]at hl;subst hl;rfl
   |bu m=>simp[ao.toI]at hl
   |av k m=>simp[ao.toI]at hl
  ·cases h
 |bu=>
  simp only[toCT]at h
  split at h
  ·rename_i l hl
   cases h
   cases E with
   |bu m=>simp[ao.toB]at hl;subst hl;rfl
   |gen es=>cases es<;>simp[ao.toB]at hl;subst hl;rfl
   |ints k m=>simp[ao.toB]at hl
   |av k m=>simp[ao.toB]at hl
  ·cases h
 |av k=>
  simp only[toCT]at h
  split at h
  ·rename_i l hl
   cases h
   cases E with
   |av k' m=>simp only[ao.toR]at hl;simp only[ao.Eq,hl]
   |gen es=>cases es<;>simp[ao.toR]at hl;subst hl;rfl
   |ints k m=>simp[ao.toR]at hl
   |bu m=>simp[ao.toR]at hl
  ·cases h
 |_=>simp[toCT]at h
structure jM where
 ds:List pk
 ex:List (Nat×Row)
 fz:List Nat
def wH(m:Nat):List (Nat×Nat×Nat)->Bool
 |[]=>true
 |p::l=>bJ p.1 m&&wH m l
def IW(m:Nat):List iw->Bool
 |[]=>true
 |.ptr r _ _::l=>bJ r m&&IW m l
 |.fn _ ps::l=>wH m ps&&IW m l
 |_=>false
theorem vc{m:Nat}{EX:List Nat}(hE:∀i,i<m->EX[i]?=some i):∀{ps:List (Nat×Nat×Nat)},wH m ps=true->sN EX ps ps=true
 |[],_=>rfl
 |(r,a,b)::l,h=>by
  simp only[wH,aE]at h
  simp only[sN,kM,hE r (lE h.1),vc hE h.2]
  simp
theorem qag{m:Nat}{EX:List Nat}(hE:∀i,i<m->EX[i]?=some i):∀{cs:List iw},IW m cs=true->pA EX cs cs=true:=by
 intro cs
 induction cs with
 |nil=>intro _;rfl
 |cons x l ih=>
  intro h
  cases x with
  |ptr r a b=>
   simp only[IW,aE]at h
   simp only[pA,kM,hE r (lE h.1),ih h.2]
   simp
  |fn f ps=>
   simp only[IW,aE]at h
   simp only[pA,vc hE h.1,ih h.2]
   simp
  |_=>simp[IW]at h
def S9(m:Nat)(R:Rows)(c:D)(s:jM):Option (D×jM):=
  match c with
  | .int k n=>some (.int k n,s)
  | .bool b=>some (.bool b,s)
  | .str x=>some (.str x,s)
  | .iN=>some (.iN,s)
  | .jL=>some (.jL,s)
  | .c9 r=>match bJ r m with|true=>some (.c9 r,s)|false=>none
  | .ptr r o f=>match bJ r m with|true=>some (.ptr r o f,s)|false=>none
  | .gn f cs=>match IW m cs with|true=>some (.gn f cs,s)|false=>none
  | .dx=>match s with
    |⟨.sl t f::ds,ex,fz⟩=>some (.sl t.iO (GJ t) f,⟨ds,ex,fz⟩)
    |⟨.row ty sz t::ds,ex,fz⟩=>match bJ 0 sz with|true=>some (.all (m+ex.length),⟨ds,ex++[(R.length+ex.length,⟨false,ty,sz,GJ t⟩)],fz⟩)|false=>none
    |_=>none
  | .emp=>match s with
    |⟨.sl t f::ds,ex,fz⟩=>some (.sl t.iO (GJ t) f,⟨ds,ex,fz⟩)
    |⟨.row ty sz t::ds,ex,fz⟩=>match bJ 0 sz with|true=>some (.all (m+ex.length),⟨ds,ex++[(R.length+ex.length,⟨false,ty,sz,GJ t⟩)],fz⟩)|false=>none
    |_=>none
  | .sl n E fr=>match s with
    | ⟨.sl t f::ds,ex,fz⟩=>match toCT t E,(!f||fr)&&(bT n t.iO||IX E) with
      |some E',true=>some (.sl t.iO E' f,⟨ds,ex,fz⟩)
      |_,_=>none
    |_=>none
  | .all r=>match s with
    | ⟨.sl t f::ds,ex,fz⟩=>match R.getD r none with
      | some ⟨box,_,kG,E⟩=>match toCT t E,!box&&(bT kG t.iO&&Nat.ble m r) with
        |some E',true=>some (.sl t.iO E' f,⟨ds,ex,r::fz⟩)
        |_,_=>none
      |none=>none
    | ⟨.row ty sz t::ds,ex,fz⟩=>match bJ r m with
      |true=>some (.all r,⟨ds,ex,fz⟩)
      | false=>match R.getD r none with
        | some ⟨box,j0,kG,E⟩=>match toCT t E,!box&&(bT j0 ty&&bT kG sz) with
          |some E',true=>some (.all (m+ex.length),⟨ds,ex++[(r,⟨false,ty,sz,E'⟩)],fz⟩)
          |_,_=>none
        |none=>none
    |_=>none
  | .own r o n=>match s with
    | ⟨.sl t f::ds,ex,fz⟩=>match R.getD r none with
      | some ⟨box,_,kG,E⟩=>match toCT t ((E.drop o).take n),!box&&(bT kG t.iO&&Nat.ble m r) with
        |some E',true=>some (.sl t.iO E' f,⟨ds,ex,r::fz⟩)
        |_,_=>none
      |none=>none
    |_=>none
  |_=>none
def KW(m:Nat)(R:Rows):List D->jM->Option (List D×jM)
 |[],s=>some ([],s)
 |c ::cs,s=>match S9 m R c s with
  |some (c',s')=>match KW m R cs s' with
   |some (rW,IY)=>some (c'::rW,IY)
   |none=>none
  |none=>none
def Fg(m:Nat)(R:Rows)(d:D)(s:jM):Option (D×jM):=
 match d with
 |.agg cs=>match KW m R cs s with|some (rW,s')=>some (.agg rW,s')|none=>none
 |d=>S9 m R d s
def sO(m:Nat)(R:Rows):List D->jM->Option (List D×jM)
 |[],s=>some ([],s)
 |c ::cs,s=>match Fg m R c s with
  |some (c',s')=>match sO m R cs s' with
   |some (rW,IY)=>some (c'::rW,IY)
   |none=>none
  |none=>none
def IZ(m:Nat)(R:Rows)(d:D)(s:jM):Option (D×jM):=
 match d with
 |.du ds=>match sO m R ds s with|some (oA,s')=>some (.du oA,s')|none=>none
 |d=>Fg m R d s
def KX(m:Nat)(R:Rows):Nat->Nat->jM->Option (List Row×jM)
 |0,_,s=>some ([],s)
 |n + 1,i,s=>match R.getD i none with
  |some ⟨true,ty,sz,.gen [e]⟩=>match KW m R e s with
   |some (e',s')=>match KX m R n (i+1) s' with
    |some (rs,IY)=>some (⟨true,ty,sz,.gen [e']⟩::rs,IY)
    |none=>none
   |none=>none
  |some ⟨false,ty,sz,E⟩=>match KX m R n (i+1) s with
   |some (rs,IY)=>some (⟨false,ty,sz,E⟩::rs,IY)
   |none=>none
  |_=>none
def Fh(m:Nat)(ex:List (Nat×Row)):List Nat:=List.range m++ex.map (·.1)
def sq(m:Nat)(ds:List pk)(d:D)(R:Rows)(K:D->List Row->Prop):Prop:=
 match IZ m R d ⟨ds,[],[]⟩with
 |some (d',s)=>match KX m R m 0 s with
  |some (rs,s')=>cr (Az m (Fh m s'.ex)&&s'.fz.all (KY (Fh m s'.ex))) (K d' (rs++s'.ex.map (·.2)))
  |none=>False
 |none=>False
def sP(R:Rows)(x:Nat×Row):Prop:=
 x.2.box=false/\match R.getD x.1 none with
 |some ⟨AD,j0,kG,je⟩=>AD=false/\j0=x.2.ty/\kG=x.2.sz/\ao.Eq je x.2.es
 |none=>0<x.2.sz/\x.2.es.Nil
structure oB(m:Nat)(R:Rows)(EX:List Nat)(s:jM):Prop where
 at_:∀(i:Nat) x,s.ex[i]?=some x->EX[m+i]?=some x.1
 ez:∀x∈s.ex,sP R x
 out:∀r∈s.fz,KY EX r=true
def AE(s s':jM):Prop:=s.ex<+:s'.ex/\s.fz<:+s'.fz
theorem AE.refl(s:jM):AE s s:=⟨bV _,bW _⟩
theorem AE.trans{a b c:jM}(h:AE a b)(g:AE b c):AE a c:=⟨h.1.trans g.1,h.2.trans g.2⟩
theorem qd{E:ao}(h:IX E=true):E.Nil:=ao.oC.2 (SR h)
theorem Zen{m:Nat}{R:Rows}{c c':D}{s s':jM}(h:S9 m R c s=some (c',s')):
    AE s s'/\((∀x∈s.ex,sP R x)-> ∀x∈s'.ex,sP R x)/\ ∀EX:List Nat,(∀i,i<m->EX[i]? =some i)->oB m R EX s'->jy EX m R c c':=by
  have NN: ∀{ty sz t},bJ 0 sz=true->((∀x∈s.ex,sP R x)-> ∀x∈s.ex++[(R.length+s.ex.length,(⟨false,ty,sz,GJ t⟩:Row))],sP R x)/\
      ∀(EX:List Nat) (ds:List pk) (fz:List Nat),oB m R EX ⟨ds,s.ex++[(R.length+s.ex.length,(⟨false,ty,sz,GJ t⟩:Row))],fz⟩->I0 EX R (m+s.ex.length)=true:=by
    intro ty sz t ga
    have hn:R.getD (R.length+s.ex.length) none=none:=by rw[aK,List.getElem?_eq_none (by omega)];rfl
    refine⟨λhg x hx=> ?_,λEX ds fz hG=> ?_⟩
    . simp only[bX,bY]at hx
      rcases hx with hx|rfl
      . exact hg x hx
      . refine⟨rfl,?_⟩
        simp only[hn]
        exact⟨lE ga,W8 t⟩
    . have:=hG.at_ s.ex.length (R.length+s.ex.length,⟨false,ty,sz,GJ t⟩) (by simp)
      simp only[I0,this,hn]
  cases c<;>simp only[S9]at h<;>try(cases h;done)
  case int k n=>cases h;exact⟨.refl _,id,λEX _ _=>by simp [jy,cr]⟩
  case bool b=>cases h;exact⟨.refl _,id,λEX _ _=>by simp [jy]⟩
  case str x=>cases h;exact⟨.refl _,id,λEX _ _=>by simp [jy]⟩
  case iN=>cases h;exact⟨.refl _,id,λEX _ _=>by simp [jy]⟩
  case jL=>cases h;exact⟨.refl _,id,λEX _ _=>by simp [jy]⟩
  case c9 r=>
    split at h
    . rename_i hr
      cases h
      refine⟨.refl _,id,λEX hE _=> ?_⟩
      have:=hE r (lE hr)
      simp only[jy,db,kM,this]
      exact⟨by simp,trivial⟩
    . cases h
  case ptr r o f=>
    split at h
    . rename_i hr
      cases h
      refine⟨.refl _,id,λEX hE _=> ?_⟩
      have:=hE r (lE hr)
      simp only[jy,db,kM,this]
      exact⟨by simp,trivial⟩
    . cases h
  case gn f cs=>
    split at h
    . rename_i hr
      cases h
      refine⟨.refl _,id,λEX hE _=> ?_⟩
      simp only[jy,db,qag hE hr]
      exact⟨by simp,trivial⟩
    . cases h
  case dx=>
    split at h
    . cases h;exact⟨.refl _,id,λEX _ _=>W8 _⟩
    . split at h
      . rename_i ga
        cases h
        obtain⟨v1,v2⟩:=NN ga
        exact⟨⟨bZ _ _,bW _⟩,v1,λEX _ hG=>by simp only[jy,db];exact⟨v2 EX _ _ hG,trivial⟩⟩
      . cases h
    . cases h
  case emp=>
    split at h
    . cases h;exact⟨.refl _,id,λEX _ _=>W8 _⟩
    . split at h
      . rename_i ga
        cases h
        obtain⟨v1,v2⟩:=NN ga
        exact⟨⟨bZ _ _,bW _⟩,v1,λEX _ hG=>by simp only[jy,db];exact⟨v2 EX _ _ hG,trivial⟩⟩
      . cases h
    . cases h
  case sl n E fr=>
    split at h
    . rename_i t f ds ex fz
      split at h
      . rename_i E' hE hb
        cases h
        simp only[aE,Bool.or_eq_true]at hb
        refine⟨.refl _,id,λEX _ _=> ?_⟩
        simp only[jy,db]
        exact⟨by simpa using hb.1,hb.2.symm.imp qd bE,NM hE⟩
      . cases h
    . cases h
  case all r =>
    split at h
    . rename_i t f ds ex fz
      split at h
      . rename_i box ty kG E hR
        split at h
        . rename_i E' hE hb
          cases h
          simp only[aE]at hb
          refine⟨⟨bV _,cA _ _⟩,id,λEX _ hG=> ?_⟩
          simp only[jy,hR,db,aE]
          exact⟨⟨⟨⟨hb.1,hb.2.1⟩,hG.out r (by simp)⟩,hb.2.2⟩,NM hE⟩
        . cases h
      . cases h
    . rename_i ty sz t ds ex fz
      split at h
      . rename_i cj
        cases h
        refine⟨.refl _,id,λEX pW hG=> ?_⟩
        simp only[jy,db]
        have:=pW r (lE cj)
        exact⟨by simp [kM,this],trivial⟩
      . split at h
        . rename_i box j0 kG E hR
          split at h
          . rename_i E' hE hb
            cases h
            simp only[aE,Bool.not_eq_true']at hb
            refine⟨⟨bZ _ _,bW _⟩,λhg x hx=> ?_,λEX pW hG=> ?_⟩
            . simp only[bX,bY]at hx
              rcases hx with hx|rfl
              . exact hg x hx
              . refine⟨rfl,?_⟩
                simp only[hR]
                exact⟨hb.1,bE hb.2.1,bE hb.2.2,NM hE⟩
            . have:=hG.at_ ex.length (r,⟨false,ty,sz,E'⟩) (by simp)
              simp only[jy,db]
              exact⟨by simp [kM,this],trivial⟩
          . cases h
        . cases h
    . cases h
  case own r o n=>
    split at h
    . rename_i t f ds ex fz
      split at h
      . rename_i box ty kG E hR
        split at h
        . rename_i E' hE hb
          cases h
          simp only[aE]at hb
          refine⟨⟨bV _,cA _ _⟩,id,λEX _ hG=> ?_⟩
          simp only[jy,hR,db,aE]
          exact⟨⟨⟨⟨hb.1,hb.2.1⟩,hG.out r (by simp)⟩,hb.2.2⟩,NM hE⟩
        . cases h
      . cases h
    . cases h
theorem oB.mono{m:Nat}{R:Rows}{EX:List Nat}{s s':jM}(hl:AE s s')(h:oB m R EX s'):oB m R EX s:=
 ⟨λi x hx=>h.at_ i x (by
  obtain⟨t,ht⟩:=hl.1
  rw[<-ht,aZ (List.getElem?_eq_some_iff.1 hx).1];exact hx),λx hx=>h.ez x (hl.1.subset hx),λr hr=>h.out r (hl.2.subset hr)⟩
theorem W9{m:Nat}{R:Rows}:∀{cs rW:List D} {s s':jM},KW m R cs s=some (rW,s')->
 AE s s'/\((∀x∈s.ex,sP R x)->∀x∈s'.ex,sP R x)/\∀EX:List Nat,(∀i,i<m->EX[i]?=some i)->oB m R EX s'->Fi EX m R cs rW
 |[],rW,s,s',h=>by simp only[KW]at h;cases h;exact⟨.refl _,id,λ_ _ _=>trivial⟩
 |c ::cs,rW,s,s',h=>by
  simp only[KW]at h
  split at h
  ·rename_i c1 s1 h1
   split at h
   ·rename_i cs1 s2 h2
    cases h
    obtain⟨a1,a2,a3⟩:=Zen h1
    obtain⟨b1,b2,b3⟩:=W9 h2
    exact⟨a1.trans b1,λh=>b2 (a2 h),λEX pW hG=>⟨a3 EX pW (hG.mono b1),b3 EX pW hG⟩⟩
   ·cases h
  ·cases h
theorem xd{m:Nat}{R:Rows}{d d':D}{s s':jM}(h:Fg m R d s=some (d',s')):
 AE s s'/\((∀x∈s.ex,sP R x)->∀x∈s'.ex,sP R x)/\∀EX:List Nat,(∀i,i<m->EX[i]?=some i)->oB m R EX s'->rz EX m R d d':=by
 unfold Fg at h
 split at h
 ·rename_i cs
  split at h
  ·rename_i rW s1 h1
   cases h
   exact W9 h1
  ·cases h
 ·rename_i gr
  obtain⟨a1,a2,a3⟩:=Zen h
  refine⟨a1,a2,λEX pW hG=>?_⟩
  have h3:=a3 EX pW hG
  cases d' with
  |agg ps=>simp[jy]at h3
  |_=>exact h3
theorem Zmz{m:Nat}{R:Rows}:∀{cs rW:List D} {s s':jM},sO m R cs s=some (rW,s')->
 AE s s'/\((∀x∈s.ex,sP R x)->∀x∈s'.ex,sP R x)/\∀EX:List Nat,(∀i,i<m->EX[i]?=some i)->oB m R EX s'->wI EX m R cs rW
 |[],rW,s,s',h=>by simp only[sO]at h;cases h;exact⟨.refl _,id,λ_ _ _=>trivial⟩
 |c ::cs,rW,s,s',h=>by
  simp only[sO]at h
  split at h
  ·rename_i c1 s1 h1
   split at h
   ·rename_i cs1 s2 h2
    cases h
    obtain⟨a1,a2,a3⟩:=xd h1
    obtain⟨b1,b2,b3⟩:=Zmz h2
    exact⟨a1.trans b1,λh=>b2 (a2 h),λEX pW hG=>⟨a3 EX pW (hG.mono b1),b3 EX pW hG⟩⟩
   ·cases h
  ·cases h
theorem zag{m:Nat}{R:Rows}{d d':D}{s s':jM}(h:IZ m R d s=some (d',s')):
 AE s s'/\((∀x∈s.ex,sP R x)->∀x∈s'.ex,sP R x)/\∀EX:List Nat,(∀i,i<m->EX[i]?=some i)->oB m R EX s'->Ay EX m R d d':=by
 unfold IZ at h
 split at h
 ·rename_i cs
  split at h
  ·rename_i rW s1 h1
   cases h
   exact Zmz h1
  ·cases h
 ·rename_i gr
  obtain⟨a1,a2,a3⟩:=xd h
  refine⟨a1,a2,λEX pW hG=>?_⟩
  have h3:=a3 EX pW hG
  cases d' with
  |du ps=>simp[rz,jy]at h3
  |_=>exact h3
theorem Xa{m:Nat}{R:Rows}:∀{n i:Nat} {rs:List Row} {s s':jM},KX m R n i s=some (rs,s')->
 AE s s'/\((∀x∈s.ex,sP R x)->∀x∈s'.ex,sP R x)/\∀EX:List Nat,(∀i,i<m->EX[i]?=some i)->oB m R EX s'->nf EX m R (bK i n) rs
 |0,i,rs,s,s',h=>by simp only[KX]at h;cases h;exact⟨.refl _,id,λ_ _ _=>trivial⟩
 |n + 1,i,rs,s,s',h=>by
  simp only[KX]at h
  split at h
  ·rename_i ty sz e hR
   split at h
   ·rename_i e1 s1 h1
    split at h
    ·rename_i rs1 s2 h2
     cases h
     obtain⟨a1,a2,a3⟩:=W9 h1
     obtain⟨b1,b2,b3⟩:=Xa h2
     refine⟨a1.trans b1,λh=>b2 (a2 h),λEX pW hG=>?_⟩
     rw[cB]
     simp only[nf,hR,db]
     exact⟨⟨by simp,a3 EX pW (hG.mono b1)⟩,b3 EX pW hG⟩
    ·cases h
   ·cases h
  ·rename_i ty sz E hR
   split at h
   ·rename_i rs1 s2 h2
    cases h
    obtain⟨b1,b2,b3⟩:=Xa h2
    refine⟨b1,b2,λEX pW hG=>?_⟩
    rw[cB]
    simp only[nf,hR,db]
    refine⟨⟨by simp,?_⟩,b3 EX pW hG⟩
    cases E with
    |gen es=>cases es<;>simp[ao.Eq]
    |av k l=>simp[ao.Eq,Z9z]
    |_=>simp[ao.Eq]
   ·cases h
  ·cases h
theorem Qsa{ex:List Nat}{m:Nat}{R:Rows}:∀{l1 l2:List Nat} {p1 p2:List Row},nf ex m R l1 p1->nf ex m R l2 p2->nf ex m R (l1++l2) (p1++p2)
 |[],l2,[],p2,_,h=>h
 |r::l1,l2,p::p1,p2,h1,h2=>by
  simp only[List.cons_append,nf]at h1⊢
  exact⟨h1.1,Qsa h1.2 h2⟩
 |[],_,_::_,_,h,_=>h.elim
 |_::_,_,[],_,h,_=>h.elim
theorem Za0{ex:List Nat}{m:Nat}{R:Rows}:∀{l:List (Nat×Row)},(∀x∈l,sP R x)->nf ex m R (l.map (·.1)) (l.map (·.2))
 |[],_=>trivial
 |(r,⟨box,ty,sz,es⟩)::l,h=>by
  simp only[List.map_cons,nf]
  refine⟨?_,Za0 λx hx=>h x (by simp[hx])⟩
  obtain⟨h1,h2⟩:=h (r,⟨box,ty,sz,es⟩) (by simp)
  simp only at h1 h2
  subst h1
  split
  ·rename_i AD j0 kG je hR
   simp only[hR]at h2
   obtain⟨rfl,rfl,rfl,h2⟩:=h2
   simp only[db]
   exact⟨by simp,h2⟩
  ·rename_i hR
   simp only[hR]at h2
   simp only[db]
   exact⟨by simpa using h2.1,h2.2⟩
theorem Z89{m:Nat}{ds:List pk}{d:D}{R:Rows}{K:D->List Row->Prop}(h:sq m ds d R K):∃res rows,K res rows/\AF m res rows d R:=by
 unfold sq at h
 split at h
 ·rename_i d' s h1
  split at h
  ·rename_i rs s' h2
   simp only[db,aE]at h
   obtain⟨⟨hx,hf⟩,hK⟩:=h
   obtain⟨a1,a2,a3⟩:=zag h1
   obtain⟨b1,b2,b3⟩:=Xa h2
   have GK:∀x∈s'.ex,sP R x:=b2 (a2 λx hx=>by simp at hx)
   have pW:∀i,i<m->(Fh m s'.ex)[i]?=some i:=λi hi=>by
    unfold Fh
    rw[aZ (by simpa using hi)];simp[hi]
   have hG:oB m R (Fh m s'.ex) s':=⟨λi x hx=>by
    unfold Fh
    rw[List.getElem?_append_right (by simp)]
    simp[hx],GK,λr hr=>List.all_eq_true.1 hf r hr⟩
   refine⟨d',_,hK,Fh m s'.ex,hx,a3 _ pW (hG.mono b1),?_⟩
   have h3:=b3 _ pW hG
   have:Fh m s'.ex=bK 0 m++s'.ex.map (·.1):=by unfold Fh;rw[List.range_eq_range']
   refine Eq.mpr ?_ (Qsa h3 (Za0 GK))
   rw[<-this]
  ·exact h.elim
 ·exact h.elim

import Derived.Test.YtmalmklaonainaaGreatReplayRefusesFn
set_option linter.all false
namespace Go.GD
open Go
theorem Z9z: ∀{env:List (Nat×D)} {t k:Nat},k∈fnsV (look env t)->k∈fnsE env
 |[],t,k,h=>by simp [look,fnsV,fnsD,fns1]at h
 | (u,d)::l,t,k,h=>by
   rw[Qcj]at h
   simp only[fnsE,List.mem_append]
   split at h
   . exact .inl h
   . exact .inr (Z9z h)
theorem Z31: ∀{R:Rows} {r:Nat} {x:Row} {k:Nat},R.getD r none=some x->k∈fnsR [x]->k∈Zcm R
 | some y::l,0,x,k,h,hk=>by
   simp at h;subst h
   simp only[Zcm,List.mem_append];exact .inl hk
 |none::l,0,x,k,h,hk=>by simp at h
 | y::l,r+1,x,k,h,hk=>by
   have:=Z31 (R:=l) (r:=r) (by simpa [List.getD] using h) hk
   cases y<;>simp [Zcm,this]
 |[],r,x,k,h,_=>by simp [List.getD]at h
theorem VRep.toRep{c:Ctx}{w:World}{d:D}{v:Value}(h:VRep c w d v):Rep c w d v:=by
 cases d<;>first|exact h|trivial|exact h.elim
theorem Rep.toVRep{c:Ctx}{w:World}{d:D}{v:Value}(hv:d.isVal=true)(h:Rep c w d v):VRep c w d v:=by
 cases d<;>first|exact h|(simp [D.isVal]at hv)
theorem Q8a.length{c:Ctx}{w:World}: ∀{ds:List D} {vs:List Value},Q8a c w ds vs->ds.length=vs.length
 |[],[],_=>rfl
 |_::_,_::_,h=>by simp [Q8a.length h.2]
 |[],_::_,h=>h.elim
 |_::_,[],h=>h.elim
theorem Z4l: ∀{ds:List D} {i t:Nat},(∃j,t=i+j/\j<ds.length/\look (Qub ds i) t=ds.getD j .dead)\/look (Qub ds i) t= .dead
 |[],i,t=> .inr rfl
 | d ::ds,i,t=>by
   simp only[Qub,Qcj]
   by_cases e:i=t
   . left;exact⟨0,by omega,by simp,by rw[if_pos e];rfl⟩
   . rw[if_neg e]
     rcases Z4l (ds:=ds) (i:=i+1) (t:=t) with⟨j,h1,h2,h3⟩|h
     . left;exact⟨j+1,by omega,by simpa using h2,by simpa using h3⟩
     . right;exact h
theorem Zkx{c:Ctx}{w:World}{ds:List D}{vs:List Value}(h:Q8a c w ds vs)(n:Nat)(t:Nat):Rep c w (look (Qub ds 0) t) ((vs.toArray++Array.replicate n undef).getD t undef):=by
 rcases Z4l (ds:=ds) (i:=0) (t:=t) with⟨j,h1,h2,h3⟩|h1
 . obtain⟨v,hv,hr⟩:=Z35 h j h2
   rw[h3]
   have:t=j:=by omega
   subst this
   have hx:(vs.toArray++Array.replicate n undef).getD t undef=v:=by
     have hlt:=(List.getElem?_eq_some_iff.1 hv).1
     have hvv:=(List.getElem?_eq_some_iff.1 hv).2
     simp [Array.getElem?_append,hlt,hvv]
   rw[hx]
   exact hr.toRep
 . rw[h1];trivial
theorem Zor{T:Tab}{t:TypeId}{x:D}{R:Rows}{K:D->Rows->Prop}(h:Qko T t x R K){c:Ctx}{w:World}{v:Value}(hr:Rep c w x v): ∃a,v= .pointer (some a):=by
 unfold Qko at h
 split at h
 . exact h.elim
 . cases x<;>simp only at h
   case ptr r i off=>obtain⟨_,_,_,_,hv⟩:=hr;exact⟨_,hv⟩
   case pa r i off len k n=>obtain⟨_,_,_,_,_,hv⟩:=hr;exact⟨_,hv⟩
   case iptr sz es i off=>obtain⟨_,_,_,_,_,hv,_⟩:=hr;exact⟨_,hv⟩
def Z84(tmps:Array Value):ResultVar->Sem Value
 | .tmp t=>pure (tmps.getD t undef)
 | .cell a t=>do loadVar t (<-asAddr (tmps.getD a undef))
theorem Z0r{P:Program}{T:Tab}(hT:Q52 P T){R:Rows}{env:List (Nat×D)}: ∀{l:List ResultVar} {K:List D->Prop},Zbs T R env l K->
   ∃ds,K ds/\ ∀c w (tmps:Array Value),Mem c w->Q7p c R->(∀t,Rep c w (look env t) (tmps.getD t undef))-> ∃vs,(l.mapM (Z84 tmps)).run P w= .ok vs w/\Q8a c w ds vs
 |[],K,h=>⟨[],h,λc w tmps _ _ _=>⟨[],rfl,trivial⟩⟩
 | .tmp t::l,K,h=>by
   simp only[Zbs,D.force_iff,Q08]at h
   obtain⟨hv,h⟩:=h
   obtain⟨ds,hK,hr⟩:=Z0r hT h
   refine⟨_,hK,λc w tmps hm hA he=> ?_⟩
   obtain⟨vs,h1,h2⟩:=hr c w tmps hm hA he
   refine⟨tmps.getD t undef::vs,?_,(he t).toVRep hv,h2⟩
   simp only[List.mapM_cons,Sem.run_bind,Z84,Sem.run_pure,Result.andThen_ok,h1]
 | .cell a t::l,K,h=>by
   simp only[Zbs]at h
   obtain⟨val,hK0,hld⟩:=Zgd hT h
   simp only[Q08]at hK0
   obtain⟨hv,hK0⟩:=hK0
   obtain⟨ds,hK,hr⟩:=Z0r hT hK0
   refine⟨_,hK,λc w tmps hm hA he=> ?_⟩
   obtain⟨vs,h1,h2⟩:=hr c w tmps hm hA he
   obtain⟨u,hu,hx⟩:=hld c w _ hm hA (he a)
   obtain⟨ad,had⟩:=Zor h (he a)
   rw[had,Qpy]at hu
   refine⟨u::vs,?_,hx.toVRep hv,h2⟩
   simp only[List.mapM_cons,Sem.run_bind,Z84,had,asAddr,Sem.run_pure,Result.andThen_ok,hu,h1]
def oneOr:List Value->Value
 |[v]=>v
 |vs=> .tuple vs.toArray
theorem Z3z{P:Program}{fn:Func}{tmps:Array Value}{w:World}{vs:List Value}(h:(fn.results.toList.mapM (Z84 tmps)).run P w= .ok vs w):(results fn tmps).run P w= .ok (oneOr vs) w:=by
 have h2:(fn.results.mapM (Z84 tmps)).run P w= .ok vs.toArray w:=by
   rw[<-Array.toArray_toList (xs:=fn.results),List.mapM_toArray]
   simp only[Sem.run_map,h,Result.andThen_ok]
 have h3:(results fn tmps)=(fn.results.mapM (Z84 tmps))>>=λvs=>pure (if h:vs.size=1 then vs[0] else .tuple vs):=by
   unfold results
   congr 1
 rw[h3,Sem.run_bind,h2]
 simp only[Result.andThen_ok,Sem.run_pure]
 congr 1
 match vs with
 |[]=>rfl
 |[v]=>rfl
 |_::_::_=>rfl
theorem SimS.turn{N M:Nat}{c0:Ctx}{w0:World}{c:Ctx}{w:World}{st:St}{a:Act}(hs:SimS N M c0 w0 c w st a){b:Nat}(hb:w0.heap.size<=b){o o':Obj}(ho:w.heap[b]? =some o)(hc: ∀arr ty fz,o≠ .cells arr ty fz)
   {Fk:Nat->Prop} (gF: ∀k ws v,Fk k->FnV c w k ws v->FnV {c with I:=λx=>c.I x/\x≠b} (w.putObj b o') k ws v) (hE: ∀t,∀k∈fnsV (look st.env t),Fk k) (hR: ∀r x,c.R r=some x-> ∀k∈fnsR [x],Fk k) {ds:List Deferred} (hd:Qdm w0.heap.size (w.putObj b o') ds):
   SimS N M c0 w0 {c with I:=λx=>c.I x/\x≠b} (w.putObj b o') st {a with defers:=ds}:=by
 have hrow: ∀r x,c.R r=some x-> ¬c.V r->c.ρ r≠b:=λr x hr hV e=>by
   rcases hs.mem.row r x hr with h|⟨_,arr,h,_⟩
   . exact hV h.1
   . rw[e,ho]at h;exact hc _ _ _ (Option.some.inj h)
 have hh: ∀r x,c.R r=some x-> ¬c.V r->(w.putObj b o').heap[c.ρ r]? =w.heap[c.ρ r]? :=λr x hr hV=>World.putObj_heap_other (hrow r x hr hV)
 have hg:Z14 c w {c with I:=λx=>c.I x/\x≠b} (w.putObj b o'):=by
   refine⟨rfl,Nat.le_refl _,λx arr ty fz hI hx=> ?_,λr x hr=>⟨x,hr,rfl,rfl,rfl,rfl,rfl,Iff.rfl,λhV arr ha=>⟨arr,(hh r x hr hV).trans ha,rfl⟩⟩⟩
   have hne:x≠b:=λe=>by subst e;rw[ho]at hx;exact hc _ _ _ (Option.some.inj hx)
   exact⟨⟨hI,hne⟩,(World.putObj_heap_other hne).trans hx⟩
 have old: ∀x,c0.I x->x≠b:=λx hx e=>by
   obtain⟨h1,h2⟩:=hs.reach.grows.I x hx
   have h3:=(hs.mem.imm x h1).1
   rw[e,ho]at h2
   have:=(Array.getElem?_eq_some_iff.1 h2.symm).1
   omega
 refine⟨Z9n hs.mem hg hh gF hR (λx hx=>⟨by simpa using(hs.mem.imm x hx.1).1,(hs.mem.imm x hx.1).2⟩) (by simp),hs.rows,λt=>Zkn hg gF (hE t) (hs.env t),hs.size,hd,hs.base0,hs.own0,?_⟩
 refine⟨⟨hs.reach.grows.base,hs.reach.grows.top,λx hx=> ?_,λr row hr=> ?_⟩,⟨hs.reach.fr.os,hs.reach.fr.tape,hs.reach.fr.output,by simpa using hs.reach.fr.size,λx hx hn=> ?_⟩,λx hx=>hs.reach.imm x hx.1,hs.reach.rho,hs.reach.xb⟩
 . obtain⟨h1,h2⟩:=hs.reach.grows.I x hx
   exact⟨⟨h1,old x hx⟩,(World.putObj_heap_other (old x hx)).trans h2⟩
 . obtain⟨row',h1,h2,h3,h4,h5,h6,hV,h7⟩:=hs.reach.grows.R r row hr
   refine⟨row',h1,h2,h3,h4,h5,h6,hV,λnv arr ha=> ?_⟩
   obtain⟨arr',g1,g2⟩:=h7 nv arr ha
   refine⟨arr',?_,g2⟩
   rw[World.putObj_heap_other]
   . exact g1
   . intro e;rw[e,ho]at g1;exact hc _ _ _ (Option.some.inj g1)
 . rw[World.putObj_heap_other (by omega)];exact hs.reach.fr.heap x hx hn
theorem SimS.edit{N M:Nat}{c0:Ctx}{w0:World}{c:Ctx}{w:World}{st:St}{a:Act}(hs:SimS N M c0 w0 c w st a){l:Nat}(hI:c0.I l){rec:Loop}{o':Obj}(ho:w0.heap[l]? =some (.loop rec))(hrow0: ∀r x,c0.R r=some x-> ¬c0.V r->c0.ρ r≠l)
   (hno:noYs (fnsE st.env++Zcm st.rows)=true):SimS N M {c0 with I:=λx=>c0.I x/\x≠l} (w0.putObj l o') {c with I:=λx=>c.I x/\x≠l} (w.putObj l o') st a:=by
 have hl:w.heap[l]? =some (.loop rec):=(hs.reach.grows.I l hI).2.trans ho
 have hlt0:=(Array.getElem?_eq_some_iff.1 ho).1
 have hlt:=(Array.getElem?_eq_some_iff.1 hl).1
 have hrow: ∀r x,c.R r=some x-> ¬c.V r->c.ρ r≠l:=λr x hr hV=>(hs.mem.imm l (hs.reach.grows.I l hI).1).2 r x hr hV
 have hh: ∀r x,c.R r=some x-> ¬c.V r->(w.putObj l o').heap[c.ρ r]? =w.heap[c.ρ r]? :=λr x hr hV=>World.putObj_heap_other (hrow r x hr hV)
 have gF: ∀k ws v,k<YB->FnV c w k ws v->FnV {c with I:=λx=>c.I x/\x≠l} (w.putObj l o') k ws v:=λk ws v hk hv=>by
   rcases hv with hv|⟨hv,_⟩
   . exact .inl hv
   . omega
 have hg:Z14 c w {c with I:=λx=>c.I x/\x≠l} (w.putObj l o'):=by
   refine⟨rfl,Nat.le_refl _,λx arr ty fz hI hx=> ?_,λr x hr=>⟨x,hr,rfl,rfl,rfl,rfl,rfl,Iff.rfl,λhV arr ha=>⟨arr,(hh r x hr hV).trans ha,rfl⟩⟩⟩
   have hne:x≠l:=λe=>by subst e;rw[hl]at hx;cases hx
   exact⟨⟨hI,hne⟩,(World.putObj_heap_other hne).trans hx⟩
 refine⟨Z9n hs.mem hg hh gF (λr x hr k hk=>Qt6 hno (List.mem_append_right _ (Z31 (by rw[<-hs.rows];exact hr) hk))) (λx hx=>⟨by simpa using(hs.mem.imm x hx.1).1,(hs.mem.imm x hx.1).2⟩) (by simp),hs.rows,λt=>Zkn hg gF (λk hk=>Qt6 hno (List.mem_append_left _ (Z9z hk))) (hs.env t),hs.size,?_,by simpa using hs.base0,hs.own0,?_⟩
 . have:=hs.defers.to (w':=w.putObj l o') λb hb=>(World.putObj_heap_other λe=>by rw[e,hl]at hb;cases hb).trans hb
   simpa using this
 refine⟨⟨hs.reach.grows.base,hs.reach.grows.top,λx hx=> ?_,λr row hr=> ?_⟩,⟨hs.reach.fr.os,hs.reach.fr.tape,hs.reach.fr.output,by simpa using hs.reach.fr.size,λx hx hn=> ?_⟩,λx hx=> ?_,λr row hr hv=> ?_,hs.reach.xb⟩
 . obtain⟨h1,h2⟩:=hs.reach.grows.I x hx.1
   exact⟨⟨h1,hx.2⟩,(World.putObj_heap_other hx.2).trans (h2.trans (World.putObj_heap_other hx.2).symm)⟩
 . obtain⟨row',h1,h2,h3,h4,h5,h6,hV,h7⟩:=hs.reach.grows.R r row hr
   refine⟨row',h1,h2,h3,h4,h5,h6,hV,λnv arr ha=> ?_⟩
   rw[World.putObj_heap_other (hrow0 r row hr nv)]at ha
   obtain⟨arr',g1,g2⟩:=h7 nv arr ha
   refine⟨arr',?_,g2⟩
   rw[World.putObj_heap_other]
   . exact g1
   . intro e;rw[e,hl]at g1;cases g1
 . by_cases e:x=l
   . subst e;rw[World.putObj_heap_same hlt,World.putObj_heap_same hlt0]
   . rw[World.putObj_heap_other e,World.putObj_heap_other e]
     exact hs.reach.fr.heap x (by simpa using hx) hn
 . rcases hs.reach.imm x hx.1 with g|g|g
   . exact .inl ⟨g,hx.2⟩
   . exact .inr (.inl g)
   . exact .inr (.inr (by simpa using g))
 . rcases hs.reach.rho r row hr hv with g|g|g
   . exact .inl g
   . exact .inr (.inl g)
   . exact .inr (.inr (by simpa using g))
theorem leaves{P:Program}{fn:Func}{R:Ending->World->Prop}{N M:Nat}{c0:Ctx}{w0:World}{c:Ctx}{w:World}{st:St}{a:Act}(hs:SimS N M c0 w0 c w st a)
   (h: ∀c' w' a',a'.tmps=a.tmps->SimS N M c0 w0 c' w' st a'-> ∃v,(results fn a'.tmps).run P w'= .ok v w'/\R (.returned v) w'):LeavesInM Fence.wide 0 P fn a.tmps R a.defers .returning w:=by
 obtain⟨bs,hnd,hds,hbs⟩:=hs.defers
 revert c w a
 induction bs with
 | nil=>
   intro c w a hs h hds hbs
   rw[hds]
   obtain⟨v,h1,h2⟩:=h c w a rfl hs
   exact⟨v,h1,h2⟩
 | cons b bs ih=>
   intro c w a hs h hds hbs
   obtain⟨h1,h2⟩:=hbs b (by simp)
   rw[List.nodup_cons]at hnd
   rw[hds]
   refine⟨by simp, .inl ⟨b,_,rfl,run_takeDeferred h2,?_⟩⟩
   have hbs': ∀x∈bs,w0.heap.size<=x/\(w.putObj b (.deferred none)).heap[x]? =some (.deferred (some [])):=λx hx=>by
     obtain⟨g1,g2⟩:=hbs x (by simp [hx])
     exact⟨g1,(World.putObj_heap_other (λe=>hnd.1 (by rw[<-e];exact hx))).trans g2⟩
   refine ih hnd.2 (a:={a with defers:=bs.map λb=>({target:= .collected b,args:= #[]}:Deferred)}) (hs.turn h1 h2 (λ_ _ _ e=>by cases e) (Fk:=λ_=>True) (λk ws v _ hv=> ?_) (λ_ _ _=>trivial) (λ_ _ _ _ _=>trivial) ⟨bs,hnd.2,rfl,hbs'⟩) h rfl hbs'
   rcases hv with hv|⟨g1,l,rec,g2,g3,g4,g5⟩
   . exact .inl hv
   . have hne:l≠b:=λe=>by rw[e,h2]at g4;cases g4
     exact .inr ⟨g1,l,rec,g2,⟨g3,hne⟩,(World.putObj_heap_other hne).trans g4,g5⟩
theorem qag{P:Program}(hD:Qgn P){T:Tab}(hT:Q52 P T){G:List Q0d}(hG:Q7j P G){f:FuncId}{fn:Func}(hf:P.funcs[f]? =some fn){args:List D}{rows:List Row}{res:D}{rows':List Row}
    {rf:Option Nat} (hrf: ∀code,fn.body=some code->RF rf fn.ntmps code) {L:Code->St->(Ex->St->Prop)->Prop} (hL: ∀code st Q,RF rf fn.ntmps code->L code st Q->Tr P fn.ntmps rows.length code st Q) {Q0:D->Rows->Prop} (hQ0: ∀d R,Q0 d R->RetE rows.length res rows' d R) (h:fnVC T G L fn args rows Q0):Q4l P f args rows res rows':=by
  intro c w vs hm hbase hR hargs
  unfold fnVC at h
  split at h
  . rename_i code hb
    have hs:SimS fn.ntmps rows.length {c with X:=λ_=>False} w c w ⟨Qub args 0,rows.map some⟩ {tmps:=vs.toArray++Array.replicate (fn.ntmps-vs.toArray.size) undef,defers:=[]}:=
      ⟨hm,λr=>by
        rw[hR]
        simp only[List.getD,List.getElem?_map]
        cases rows[r]? <;>rfl,λt=>Zkx hargs _ t,by simp;omega,Qdm.nil,Nat.le_of_eq hbase,λr row h=>by have h:c.R r=some row:=h;rw[hR]at h;exact(List.getElem?_eq_some_iff.1 h).1,Qw4.refl c w⟩
    refine callsIn_wide.1 (callsIn_of_wp_marks (F:=Fence.wide) (n:=0) hf hb trivial (wpIn_mono (Qm5 (ro:=none) hD hT hG (Zdl rf fn.ntmps) hL code _ _ (hrf _ hb) h _ w c w _ hs) λe a' w' hq=> ?_))
    obtain⟨ex,st,c1,he,hq,hs1⟩:=hq
    have fin:(Zbs T st.rows st.env fn.results.toList λds=>match ds with|[d]=>Q0 d st.rows|ds=>Q0 (.tup ds) st.rows)->
        LeavesInM Fence.wide 0 P fn a'.tmps (λe w'=> ∃v' c',e= .returned v'/\NxtW c w c' w'/\(∀r,c'.R r=rows'[r]?)/\Rep c' w' res v') a'.defers .returning w':=by
      intro hres
      refine leaves hs1 λc1 w' a' ha' hs1=> ?_
      obtain⟨ds,hK,hr⟩:=Z0r hT hres
      have hAg:Q7p c1 st.rows:=λr row row' h1 h2=>by rw[hs1.rows,h2]at h1;exact(Option.some.inj h1).symm
      obtain⟨us,hrun,hreps⟩:=hr c1 w' a'.tmps hs1.mem hAg hs1.env
      have hrun':=Z3z hrun
      obtain⟨d,v,hret,hv,hrep⟩: ∃d v,RetE rows.length res rows' d st.rows/\oneOr us=v/\Rep c1 w' d v:=by
        match ds,us,hreps with
        |[d],[u],hx=>exact⟨d,u,hQ0 _ _ hK,rfl,hx.1.toRep⟩
        |[],[],hx=>exact⟨.tup [],_,hQ0 _ _ hK,rfl,[],rfl,trivial⟩
        |d::e::ds,u::v::us,hx=>exact⟨.tup (d::e::ds),_,hQ0 _ _ hK,rfl,_,rfl,hx⟩
        |[],_::_,hx=>exact hx.elim
        |[_],[],hx=>exact hx.elim
        |[_],_::_::_,hx=>exact hx.2.elim
        |_::_::_,[],hx=>exact hx.elim
        |_::_::_,[_],hx=>exact hx.2.elim
      rw[hv]at hrun'
      obtain⟨ex,hex,hd,hrows⟩:=hret
      obtain⟨hnew,hmem,hreach⟩:=Zl2 hs1 hex hrows
      exact⟨v,hrun',v,c1.out _ rows',rfl,⟨hmem,⟨hreach.grows.base,hreach.grows.top,hreach.grows.I,hreach.grows.R⟩,hreach.fr.mono (λb _ hb=>hb.elim id False.elim),λb hb=>(hreach.imm b hb).imp id (λh=>h.elim False.elim id),λr row' h1 h2=>(hreach.rho r row' h1 h2).imp id (λh=>h.elim False.elim id)⟩,λr=>rfl,Z0w hs1.mem hs1.rows hrows hnew hd hrep⟩
    cases e<;>simp only[exOf,Option.some.injEq,reduceCtorEq]at he
    . subst he;exact fin hq
    . subst he;exact hq.elim
    . subst he;exact fin hq
  . exact h.elim
theorem zag{k:Nat}{rows:List Row}{c:Ctx}{w:World}{c':Ctx}{w':World}(hmem:Mem c' w')(hreach:Qw4 {c.kill (List.range' k (rows.length-k)) with X:=λb=> ∃s row,memB s (List.range' k (rows.length-k))=true/\c.R s=some row/\ ¬c.V s/\c.ρ s=b} w c' w'):
   NxtK (List.range' k (rows.length-k)) c w c' w':=by
 refine⟨hmem,⟨hreach.grows.base,hreach.grows.top,hreach.grows.I,hreach.grows.R⟩,hreach.fr.mono (λb _ hb=> ?_),λb hb=>hreach.imm b hb,λr row' h1 h2=> ?_⟩
 . rcases hb with⟨r,x,h1,h2,h3⟩|⟨r,x,_,h1,h2,h3⟩
   . obtain⟨_,row,g1,_⟩:=Q3r (c:=c) (ks:=List.range' k (rows.length-k)) h1
     exact⟨r,row,g1,h2,h3⟩
   . exact⟨r,x,h1,h2,h3⟩
 . rcases hreach.rho r row' h1 h2 with⟨⟨x,g1⟩,g2,g3⟩|⟨s,x,q1,q2,q3,q4⟩|g
   . obtain⟨_,row,p1,_⟩:=Q3r (c:=c) (ks:=List.range' k (rows.length-k)) g1
     exact .inl ⟨⟨row,p1⟩,g2,g3⟩
   . exact .inr (.inl ⟨s,x,q1,q2,q3,q4.symm⟩)
   . exact .inr (.inr g)
theorem Zlp: ∀{rows:List Row} {r:Nat} {x:Row} {k:Nat},rows[r]? =some x->k∈fnsR [x]->k∈fnsR rows
 | y::l,0,x,k,h,hk=>by
   simp at h;subst h
   unfold fnsR at hk⊢
   split<;>simp_all [fnsR]
 | y::l,r+1,x,k,h,hk=>by
   have:=Zlp (rows:=l) (by simpa using h) hk
   unfold fnsR
   split<;>simp_all
 |[],r,x,k,h,_=>by simp at h
theorem Zkd{c:Ctx}{w:World}{tm tm':Array Value}: ∀{ts:List Nat} {ds:List D},Q8a c w ds (ts.map λt=>tm.getD t undef)->(∀t∈ts,tm'.getD t undef=tm.getD t undef)-> ∀t,Rep c w (look (yEnv ts ds) t) (tm'.getD t undef)
 |[],ds,_,_,t=>by cases ds<;>trivial
 |u::ts,[],h,_,t=>h.elim
 | u::ts,d::ds,h,ht,t=>by
   simp only[yEnv,Qcj]
   split
   . rename_i e;rw[<-e,ht u (by simp)];exact h.1.toRep
   . exact Zkd h.2 (λt h=>ht t (by simp [h])) t
theorem yz{P:Program}{F:Fence}{y:YK}{d:Nat}(hd:y.pos=some d){x:Value}{tm:Array Value}(hn:y.n<=tm.size){w:World}{K:Act->World->Prop}{l:Nat}
    (hK: ∀tm',tm'.size=tm.size->tm'.getD d undef=x->(∀t∈y.ts,tm'.getD t undef=tm.getD t undef)->K {tmps:=tm',defers:=[]} w):
    y.assign.wpIn (Fro (some l)) 0 P (Exit.then K λ_ _ _=>False) {tmps:=(y.ps.zip #[x]).foldl (λtmps (t,a)=>tmps.setIfInBounds t a) tm,defers:=[]} w:=by
  have keep: ∀(p:Nat) (tm0:Array Value) (t:Nat),t≠p->(tm0.setIfInBounds p x).getD t undef=tm0.getD t undef:=λp tm0 t h=>by
    simp [Array.getD_eq_getD_getElem?,Array.getElem?_setIfInBounds_ne (Ne.symm h)]
  have here: ∀(p:Nat) (tm0:Array Value),p<tm0.size->(tm0.setIfInBounds p x).getD p undef=x:=λp tm0 h=>by
    simp [Array.getD_eq_getD_getElem?,h]
  unfold YK.pos at hd
  split at hd
  . rename_i p hps has
    have hps:y.ps= #[p]:=by rw[<-Array.toArray_toList (xs:=y.ps),hps]
    split at hd
    . rename_i hc
      cases hd
      simp only[aE,List.all_eq_true,Bool.not_eq_true']at hc
      have hp:d<tm.size:=Nat.lt_of_lt_of_le (lE hc.1) hn
      rw[has,hps]
      refine wpIn_skip (hK _ (by simp) ?_ λt ht=> ?_)
      . simpa using here d tm hp
      . have:=keep d tm t (λe=>by have:=(hc.2 t ht).1;rw[e]at this;simp at this)
        simpa using this
    . cases hd
  . rename_i p id ops hps has
    have hps:y.ps= #[p]:=by rw[<-Array.toArray_toList (xs:=y.ps),hps]
    split at hd
    . rename_i e q ty po af hops
      have hops:ops= #[⟨some e, .assign (.tmp q),ty,po,af,none⟩]:=by rw[<-Array.toArray_toList (xs:=ops),hops]
      split at hd
      . rename_i hc
        cases hd
        simp only[aE,List.all_eq_true,Bool.not_eq_true']at hc
        obtain⟨⟨hq,hp,hd⟩,hts⟩:=hc
        have hq:=bE hq
        subst hq
        have hp:q<tm.size:=Nat.lt_of_lt_of_le (lE hp) hn
        have hd:d<tm.size:=Nat.lt_of_lt_of_le (lE hd) hn
        rw[has,hps,hops]
        refine Zd6 ?_
        show wpOp P _ _ 0 _ _ _
        unfold wpOp
        simp only[List.getElem?_toArray,List.getElem?_cons_zero]
        rw[if_pos (by simp [Region.wanted])]
        refine Qkb (u:=x) (w':=w) ?_ ?_
        . have:(tm.setIfInBounds q x).getD q undef=x:=here q tm hp
          simp only[execOp,Act.eval]
          simp [Array.getD_eq_getD_getElem?,hp]
        . show K {tmps:=Array.setIfInBounds _ d x,defers:=[]} w
          refine hK _ (by simp) ?_ λt ht=> ?_
          . exact here d _ (by simpa using hd)
          . have h1:=(hts t ht).1
            rw[keep d _ t (λh=>by rw[h]at h1;simp at h1)]
            have:=keep q tm t (λh=>by rw[h]at h1;simp at h1)
            simpa using this
      . cases hd
    . cases hd
  . cases hd
inductive FnAt(P:Program)(f:FuncId)(fn:Func)(cl:Prop):Prop where
 |real (h:f<YB) (hf:P.funcs[f]? =some fn) (hb:Nat.ble YB fn.nfree=false)
 |yield (h:YB<=f) (y:YK) (d:Nat) (hy:yTab f=some y) (hd:y.pos=some d) (hb:fn.body=some y.body) (hn:Nat.ble YB fn.nfree=true) (hn':Nat.beq fn.nfree YB=true) (hp:fn.params.toList=d::y.ts) (ht:fn.ntmps=y.n) (hc:cl)
 |yieldB (h:YB<=f) (y:YK) (q:Nat) (hy:yTab f=some y) (hps:y.ps= #[q]) (hq:(Nat.blt q y.n&&y.ts.all λt=>!(Nat.beq t q))=true) (hb:fn.body=some (.seq y.assign y.body)) (hn:Nat.ble YB fn.nfree=true) (hn':Nat.beq fn.nfree YB=false) (hp:fn.params.toList=q::y.ts) (ht:fn.ntmps=y.n) (hc:cl)
theorem simM{N k:Nat}{rows:List Row}{c:Ctx}{w:World}{env:List (Nat×D)}{tm:Array Value}(hm:Mem c w)(hbase:c.base=0)(hR: ∀r,c.R r=rows[r]?)(henv: ∀t,Rep c w (look env t) (tm.getD t undef))(hsz:N<=tm.size):
   SimS N k {c.kill (List.range' k (rows.length-k)) with X:=λb=> ∃s row,memB s (List.range' k (rows.length-k))=true/\c.R s=some row/\ ¬c.V s/\c.ρ s=b} w c w ⟨env,rows.map some⟩ {tmps:=tm,defers:=[]}:=by
 refine⟨hm,λr=>by
   rw[hR]
   simp only[List.getD,List.getElem?_map]
   cases rows[r]? <;>rfl,henv,hsz,Qdm.nil,by simp [Ctx.kill,hbase],λr row h=> ?_,⟨⟨rfl,Nat.le_refl _,λ_ h=>⟨h,rfl⟩,λr x hx=> ?_⟩,Fr.refl _ w,λ_ h=> .inl h,λr row hr hv=> ?_,λ_ _=>by simp [Ctx.kill,hbase]⟩⟩
 . obtain⟨h1,row',h2,_⟩:=Q3r (c:=c) (ks:=List.range' k (rows.length-k)) h
   rw[hR]at h2
   have hlt:=(List.getElem?_eq_some_iff.1 h2).1
   by_cases hk:r<k
   . exact hk
   . rw[Qfh.2 (by omega)]at h1;cases h1
 . obtain⟨_,row,h2,rfl⟩:=Q3r (c:=c) (ks:=List.range' k (rows.length-k)) hx
   obtain⟨s1,s2,s3,s4⟩:=Q4v (List.range' k (rows.length-k)) row
   exact⟨row,h2,s1.symm,s2.symm,s3.symm,s4.symm,rfl,Iff.rfl,λ_ arr ha=>⟨arr,by rw[s2]at ha⊢;exact ha,rfl⟩⟩
 . cases hb:memB r (List.range' k (rows.length-k)) with
   |true=>exact .inr (.inl ⟨r,row,hb,hr,hv,rfl⟩)
   |false=>exact .inl ⟨⟨row.kill (List.range' k (rows.length-k)),by simp [Ctx.kill,hb,hr]⟩,hv,rfl⟩
theorem Zf2{c:Ctx}{w:World}{tm tm':Array Value}{ps:List Nat}{d:Nat}{ts:List Nat}(hpar:ps=d::ts){args:List D}{vs us:List Value}{x:Value}(hvs:vs=[x]++us)(hus:us=ts.map λt=>tm.getD t undef)(hargs:Q8a c w args vs)(hx:tm'.getD d undef=x)(hts: ∀t∈ts,tm'.getD t undef=tm.getD t undef):
   ∀t,Rep c w (look (yEnv ps args) t) (tm'.getD t undef):=by
 subst hpar
 subst hvs
 match args,hargs with
 |[],hx=>exact hx.elim
 | A::As,⟨hA,hAs⟩=>
   intro t
   simp only[yEnv,Qcj]
   split
   . rename_i e;rw[<-e,hx];exact hA.toRep
   . exact Zkd (by rw[hus]at hAs;exact hAs) hts t
theorem Z6x{P:Program}(hD:Qgn P){T:Tab}(hT:Q52 P T){G:List Q0d}(hG:Q7j P G){n k:Nat}{rows:List Row}{res:D}{rows':List Row}{code:Code}{L:Code->St->(Ex->St->Prop)->Prop}(hL: ∀ro code st Q,L code st Q->TrR ro P n k code st Q){Q0:D->Rows->Prop}(hQ0: ∀d R,Q0 d R->RetE k res rows' d R)
   {c:Ctx} {w:World} {l:Nat} {rec:Loop} (hm:Mem c w) (hI:c.I l) (hl:w.heap[l]? =some (.loop rec)) (hst:rec.state= .ready) (hpe:rec.pending=none) {st:St} {c2:Ctx} {w2:World} {a:Act}
   (hs:SimS n k {({c with I:=λb=>c.I b/\b≠l}:Ctx).kill (List.range' k (rows.length-k)) with X:=λb=> ∃s row,memB s (List.range' k (rows.length-k))=true/\c.R s=some row/\ ¬c.V s/\c.ρ s=b} (w.putObj l (.loop {rec with state:= .busy})) c2 w2 st a)
   (h:Qbv T G n k L code st λe st=>match e with| .normal=>Q0 (.bool true) st.rows|_=>False):
   code.wpIn (Fro (some l)) 0 P (roundPost P l λe w'=> ∃v' c',e= .returned v'/\NxtK (List.range' k (rows.length-k)) c w c' w'/\(∀r,c'.R r=rows'[r]?)/\Rep c' w' res v') a w2:=by
 have hlt:=(Array.getElem?_eq_some_iff.1 hl).1
 obtain⟨ĉ,hĉ⟩: ∃ĉ:Ctx,ĉ={c with I:=λb=>c.I b/\b≠l}:=⟨_,rfl⟩
 obtain⟨wb,hwb⟩: ∃wb,wb=w.putObj l (.loop {rec with state:= .busy}):=⟨_,rfl⟩
 have hrow: ∀r x,c.R r=some x-> ¬c.V r->c.ρ r≠l:=λr x hr hV=>(hm.imm l hI).2 r x hr hV
 have h2o: ∀b,b≠l->wb.heap[b]? =w.heap[b]? :=λb hb=>by rw[hwb];exact World.putObj_heap_other hb
 have h2l:wb.heap[l]? =some (.loop {rec with state:= .busy}):=by rw[hwb];exact World.putObj_heap_same hlt
 have h2s:wb.heap.size=w.heap.size:=by rw[hwb];simp
 have hs:SimS n k {ĉ.kill (List.range' k (rows.length-k)) with X:=λb=> ∃s row,memB s (List.range' k (rows.length-k))=true/\ĉ.R s=some row/\ ¬ĉ.V s/\ĉ.ρ s=b} wb c2 w2 st a:=by rw[hĉ,hwb];exact hs
 refine wpIn_mono (Qm5 (ro:=some l) hD hT hG (Zdl none n) (λcode st Q _ hl=>hL (some l) code st Q hl) code _ _ trivial h _ wb c2 w2 _ hs) λe a' w3 hq=> ?_
 obtain⟨ex,st,c1,he,hq,hs1⟩:=hq
 cases e<;>simp only[exOf,Option.some.injEq,reduceCtorEq]at he<;>subst he
 rotate_left
 . exact hq.elim
 . exact hq.elim
 obtain⟨ex,hex,hd',hrows⟩:=hQ0 _ _ hq
 obtain⟨hnew,hmem,hreach⟩:=Zl2 hs1 hex hrows
 have hX: ¬({ĉ.kill (List.range' k (rows.length-k)) with X:=λb=> ∃s row,memB s (List.range' k (rows.length-k))=true/\ĉ.R s=some row/\ ¬ĉ.V s/\ĉ.ρ s=b}:Ctx).X l:=fun⟨s,row,_,g1,g2,g3⟩=>by
   rw[hĉ]at g1 g2 g3;exact hrow s row g1 g2 g3
 have h3l:w3.heap[l]? =some (.loop {rec with state:= .busy}):=by
   refine(hs1.reach.fr.heap l (by rw[h2s];exact hlt) λhx=> ?_).trans h2l
   rcases hx with⟨r,row,g1,g2,g3⟩|hx
   . obtain⟨_,row',g4,_⟩:=Q3r (c:=ĉ) g1
     rw[hĉ]at g2 g3 g4;exact hrow r row' g4 g2 g3
   . exact hX hx
 have hl3:=(Array.getElem?_eq_some_iff.1 h3l).1
 have hend:=run_endRound (P:=P) none h3l
 refine⟨_,_,hend,_,{c1.out ex rows' with I:=λb=>(c1.out ex rows').I b\/b=l},rfl,?_⟩
 have hrec':({({rec with state:= .busy}:Loop) with state:=if(none:Option Code).isNone then .ready else .done,pending:=none}:Loop)=rec:=by
   cases rec;simp only at hst hpe;subst hst;subst hpe;rfl
 rw[hrec']
 have nl: ¬(c1.out ex rows').I l:=λhx=>by
   rcases hreach.imm l hx with h|h|h
   . obtain⟨h,_⟩:ĉ.I l/\True:=⟨h,trivial⟩
     rw[hĉ]at h;exact h.2 rfl
   . exact hX h
   . rw[h2s]at h;omega
 have hrow3: ∀r x,(c1.out ex rows').R r=some x-> ¬(c1.out ex rows').V r->(c1.out ex rows').ρ r≠l:=λr x hr hV e=>by
   rcases hmem.row r x hr with g|⟨_,arr,g,_⟩
   . exact hV g.1
   . rw[e,h3l]at g;cases g
 have h4o: ∀b,b≠l->(w3.putObj l (.loop rec)).heap[b]? =w3.heap[b]? :=λb hb=>World.putObj_heap_other hb
 have hgr:Q3s (c1.out ex rows') w3 {c1.out ex rows' with I:=λb=>(c1.out ex rows').I b\/b=l} (w3.putObj l (.loop rec)):=
   ⟨rfl,Nat.le_refl _,λb hb=>⟨.inl hb,h4o b (λe=>nl (by rw[<-e];exact hb))⟩,λr x hr=>⟨x,hr,rfl,rfl,rfl,rfl,rfl,Iff.rfl,λhV arr ha=>⟨arr,(h4o _ (hrow3 r x hr hV)).trans ha,rfl⟩⟩⟩
 have hN:=zag hmem hreach
 refine⟨⟨⟨λr x hr=>Q3 hgr rfl Iff.rfl (λnv=>h4o _ (hrow3 r x hr nv)) (hmem.row r x hr),hmem.inj,λb hb=> ?_,by simpa using hmem.top⟩,⟨?_,?_,λb hb=> ?_,λr x hr=> ?_⟩,⟨?_,?_,?_,?_,λb hb hn=> ?_⟩,λb hb=> ?_,λr row hr hv=> ?_⟩,λr=>rfl,Qb4 hgr (Z0w hs1.mem hs1.rows hrows hnew hd' rfl)⟩
 . rcases hb with hb|hb
   . simpa using hmem.imm b hb
   . subst hb;exact⟨by simpa using hl3,λr x hr hV=>hrow3 r x hr hV⟩
 . have:=hN.grows.base;rw[hĉ]at this;exact this
 . have:=hN.grows.top;rw[hĉ]at this;exact this
 . by_cases e:b=l
   . subst e;exact⟨.inr rfl,by rw[World.putObj_heap_same hl3,hl]⟩
   . have:=hN.grows.I b (by rw[hĉ];exact⟨hb,e⟩)
     exact⟨.inl this.1,(h4o b e).trans (this.2.trans (h2o b e))⟩
 . have:=hN.grows.R r x (by rw[hĉ];exact hr)
   obtain⟨x',g1,g2,g3,g4,g5,g6,gV,g7⟩:=this
   rw[hĉ]at g6 gV g7
   refine⟨x',g1,g2,g3,g4,g5,g6,gV,λhV arr ha=> ?_⟩
   obtain⟨_,x0,q1,_⟩:=Q3r (c:=c) hr
   have hne:c.ρ r≠l:=hrow r x0 q1 hV
   obtain⟨arr',k1,k2⟩:=g7 hV arr ((h2o _ hne).trans ha)
   exact⟨arr',(h4o _ hne).trans k1,k2⟩
 . rw[hwb]at hN;exact hN.fr.os
 . rw[hwb]at hN;exact hN.fr.tape
 . rw[hwb]at hN;exact hN.fr.output
 . have:=hN.fr.size;rw[h2s]at this;simpa using this
 . by_cases e:b=l
   . subst e;rw[World.putObj_heap_same hl3,hl]
   . rw[h4o b e,hN.fr.heap b (by rw[h2s];exact hb) (by rw[hĉ];exact hn),h2o b e]
 . rcases hb with hb|hb
   . rcases hN.imm b hb with g|g|g
     . rw[hĉ]at g;exact .inl g.1
     . rw[hĉ]at g;exact .inr (.inl g)
     . rw[h2s]at g;exact .inr (.inr g)
   . subst hb;exact .inl hI
 . rcases hN.rho r row hr hv with g|g|g
   . rw[hĉ]at g;exact .inl g
   . rw[hĉ]at g;exact .inr (.inl g)
   . rw[h2s]at g;exact .inr (.inr g)
theorem qaX{P:Program}(hD:Qgn P){T:Tab}(hT:Q52 P T){G:List Q0d}(hG:Q7j P G){f:FuncId}{fn:Func}{k:Nat}{args:List D}{rows:List Row}{res:D}{rows':List Row}{rf:Option Nat}(hf:FnAt P f fn (noYs (fnsT args++fnsR rows)=true/\rf=none))(hrf: ∀code,fn.body=some code->RF rf fn.ntmps code)
    {L:Code->St->(Ex->St->Prop)->Prop} (hL: ∀ro,(ro=none\/rf=none)-> ∀code st Q,RF rf fn.ntmps code->L code st Q->TrR ro P fn.ntmps k code st Q) {Q0:D->Rows->Prop} (hQ0: ∀d R,Q0 d R->RetE k res rows' d R) (h:Zk0 T G L fn args rows Q0 k):Qew P f k args rows res rows':=by
  intro c w vs hm hbase hR hargs
  unfold Zk0 at h
  split at h
  rotate_left
  . exact h.elim
  rename_i code hb
  cases hf with
  | real hlt hf hb0=>
    simp only[hb0]at h
    refine⟨λ_=> ?_,λhge=>absurd hlt (Nat.not_lt.2 hge)⟩
    have hs:=simM (N:=fn.ntmps) (k:=k) (env:=Qub args 0) (tm:=vs.toArray++Array.replicate (fn.ntmps-vs.toArray.size) undef) hm hbase hR (λt=>Zkx hargs _ t) (by simp;omega)
    refine callsIn_wide.1 (callsIn_of_wp_marks (F:=Fence.wide) (n:=0) hf hb trivial (wpIn_mono (Qm5 (ro:=none) hD hT hG (Zdl rf fn.ntmps) (hL none (.inl rfl)) code _ _ (hrf _ hb) h _ w c w _ hs) λe a' w' hq=> ?_))
    obtain⟨ex,st,c1,he,hq,hs1⟩:=hq
    have fin:(Zbs T st.rows st.env fn.results.toList λds=>match ds with|[d]=>Q0 d st.rows|ds=>Q0 (.tup ds) st.rows)->
        LeavesInM Fence.wide 0 P fn a'.tmps (λe w'=> ∃v' c',e= .returned v'/\NxtK (List.range' k (rows.length-k)) c w c' w'/\(∀r,c'.R r=rows'[r]?)/\Rep c' w' res v') a'.defers .returning w':=by
      intro hres
      refine leaves hs1 λc1 w' a' ha' hs1=> ?_
      obtain⟨ds,hK,hr⟩:=Z0r hT hres
      have hAg:Q7p c1 st.rows:=λr row row' h1 h2=>by rw[hs1.rows,h2]at h1;exact(Option.some.inj h1).symm
      obtain⟨us,hrun,hreps⟩:=hr c1 w' a'.tmps hs1.mem hAg hs1.env
      have hrun':=Z3z hrun
      obtain⟨d,v,hret,hv,hrep⟩: ∃d v,RetE k res rows' d st.rows/\oneOr us=v/\Rep c1 w' d v:=by
        match ds,us,hreps with
        |[d],[u],hx=>exact⟨d,u,hQ0 _ _ hK,rfl,hx.1.toRep⟩
        |[],[],hx=>exact⟨.tup [],_,hQ0 _ _ hK,rfl,[],rfl,trivial⟩
        |d::e::ds,u::v::us,hx=>exact⟨.tup (d::e::ds),_,hQ0 _ _ hK,rfl,_,rfl,hx⟩
        |[],_::_,hx=>exact hx.elim
        |[_],[],hx=>exact hx.elim
        |[_],_::_::_,hx=>exact hx.2.elim
        |_::_::_,[],hx=>exact hx.elim
        |_::_::_,[_],hx=>exact hx.2.elim
      rw[hv]at hrun'
      obtain⟨ex,hex,hd,hrows⟩:=hret
      obtain⟨hnew,hmem,hreach⟩:=Zl2 hs1 hex hrows
      refine⟨v,hrun',v,c1.out _ rows',rfl,zag hmem hreach,λr=>rfl,Z0w hs1.mem hs1.rows hrows hnew hd hrep⟩
    cases e<;>simp only[exOf,Option.some.injEq,reduceCtorEq]at he
    . subst he;exact fin hq
    . subst he;exact hq.elim
    . subst he;exact fin hq
  | yield hge y d hy hd hby hnf hnf' hpar hnt hc=>
    simp only[hnf,hnf']at h
    obtain⟨hno,hrf0⟩:=hc
    rw[hby]at hb
    cases hb
    refine⟨λhlt=>absurd hlt (Nat.not_lt.2 hge),λ_ l rec xs us hvs hI hl hrec hone=> ?_⟩
    obtain⟨hst,hpe,y',hy',hps,has,hbo,hnn,h1,hus⟩:=hrec
    rw[hy]at hy';cases hy'
    obtain⟨x,rfl⟩: ∃x,xs=[x]:=by
      match xs,hone with
      |[x],_=>exact⟨x,rfl⟩
    rw[hps,has,hbo]
    have real: ∀k,k∈fnsT args++fnsR rows->k<YB:=λk hk=>Qt6 hno hk
    have hlt:=(Array.getElem?_eq_some_iff.1 hl).1
    have hcell: ∀arr ty fz,(Obj.loop rec)≠ .cells arr ty fz:=λ_ _ _ e=>by cases e
    obtain⟨ĉ,hĉ⟩: ∃ĉ:Ctx,ĉ={c with I:=λb=>c.I b/\b≠l}:=⟨_,rfl⟩
    obtain⟨w2,hw2⟩: ∃w2,w2=w.putObj l (.loop {rec with state:= .busy}):=⟨_,rfl⟩
    have hrow: ∀r x,c.R r=some x-> ¬c.V r->c.ρ r≠l:=λr x hr hV=>(hm.imm l hI).2 r x hr hV
    have h2o: ∀b,b≠l->w2.heap[b]? =w.heap[b]? :=λb hb=>by rw[hw2];exact World.putObj_heap_other hb
    have h2l:w2.heap[l]? =some (.loop {rec with state:= .busy}):=by rw[hw2];exact World.putObj_heap_same hlt
    have h2s:w2.heap.size=w.heap.size:=by rw[hw2];simp
    have hg:Z14 c w ĉ w2:=by
      rw[hĉ]
      refine⟨rfl,Nat.le_refl _,λb arr ty fz hbI hb=> ?_,λr x hr=>⟨x,hr,rfl,rfl,rfl,rfl,rfl,Iff.rfl,λhV arr ha=>⟨arr,(h2o _ (hrow r x hr hV)).trans ha,rfl⟩⟩⟩
      have hne:b≠l:=λe=>by subst e;rw[hl]at hb;cases hb
      exact⟨⟨hbI,hne⟩,(h2o b hne).trans hb⟩
    have gF: ∀k ws v,k<YB->FnV c w k ws v->FnV ĉ w2 k ws v:=λk ws v hk hv=>by
      rcases hv with hv|⟨hv,_⟩
      . exact .inl hv
      . omega
    have hm2:Mem ĉ w2:=by
      rw[hĉ]at hg gF⊢
      refine Z9n hm hg (λr x hr hV=>h2o _ (hrow r x hr hV)) (Fk:=λk=>k<YB) gF (λr x hr k hk=>real k ?_) (λb hb=>⟨by rw[h2s];exact(hm.imm b hb.1).1,(hm.imm b hb.1).2⟩) (by rw[h2s];exact Nat.le_refl _)
      rw[hR]at hr
      exact List.mem_append_right _ (Zlp hr hk)
    have hargs2:Q8a ĉ w2 args vs:=Qwe hg (Fk:=λk=>k<YB) gF (λk hk=>real k (List.mem_append_left _ hk)) hargs
    refine roundIn_of_wpIn (F:=Fence.wide) (n:=0) trivial (yz (F:=Fence.wide) hd (tm:=rec.tmps) hnn λtm' hsz hx hts=> ?_)
    refine⟨w2,by rw[hw2];exact run_beginRound hl hst,?_⟩
    have henv: ∀t,Rep ĉ w2 (look (yEnv fn.params.toList args) t) (tm'.getD t undef):=Zf2 hpar hvs hus hargs2 hx hts
    have hs:=simM (N:=fn.ntmps) (k:=k) (env:=yEnv fn.params.toList args) (tm:=tm') hm2 (by rw[hĉ];exact hbase) (by rw[hĉ];exact hR) henv (by rw[hsz,hnt];exact hnn)
    subst hrf0
    subst hw2
    subst hĉ
    exact Z6x hD hT hG (λro code st Q hl=>hL ro (.inr rfl) code st Q trivial hl) hQ0 hm hI hl hst hpe hs h
  | yieldB hge y q hy hps hq hby hnf hnf' hpar hnt hc=>
    simp only[hnf,hnf']at h
    obtain⟨hno,hrf0⟩:=hc
    subst hrf0
    rw[hby]at hb
    cases hb
    simp only at h
    refine⟨λhlt=>absurd hlt (Nat.not_lt.2 hge),λ_ l rec xs us hvs hI hl hrec hone=> ?_⟩
    obtain⟨hst,hpe,y',hy',hps',has,hbo,hnn,h1,hus⟩:=hrec
    rw[hy]at hy';cases hy'
    obtain⟨x,rfl⟩: ∃x,xs=[x]:=by
      match xs,hone with
      |[x],_=>exact⟨x,rfl⟩
    rw[hps',has,hbo]
    obtain⟨tm',htm⟩: ∃tm',tm'=rec.tmps.setIfInBounds q x:=⟨_,rfl⟩
    have hz:((y.ps.zip [x].toArray).foldl (λtmps (t,a)=>tmps.setIfInBounds t a) rec.tmps)=tm':=by rw[hps,htm];simp
    rw[hz]
    simp only[aE,List.all_eq_true,Bool.not_eq_true']at hq
    have hqs:q<rec.tmps.size:=Nat.lt_of_lt_of_le (lE hq.1) hnn
    have hx:tm'.getD q undef=x:=by rw[htm];simp [Array.getD_eq_getD_getElem?,hqs]
    have hts: ∀t∈y.ts,tm'.getD t undef=rec.tmps.getD t undef:=λt ht=>by
      have hne:q≠t:=λe=>by have:=hq.2 t ht;rw[e]at this;simp at this
      rw[htm];simp [Array.getD_eq_getD_getElem?,Array.getElem?_setIfInBounds_ne hne]
    have henv: ∀t,Rep c w (look (yEnv fn.params.toList args) t) (tm'.getD t undef):=Zf2 hpar hvs hus hargs hx hts
    have hs:=simM (N:=fn.ntmps) (k:=k) (env:=yEnv fn.params.toList args) (tm:=tm') hm hbase hR henv (by rw[htm,hnt];simpa using hnn)
    refine roundIn_of_wpIn (F:=Fence.wide) (n:=0) trivial (wpIn_mono (Qm5 (ro:=some l) hD hT hG (Zdl none fn.ntmps) (λcode st Q _ hl=>hL (some l) (.inr rfl) code st Q trivial hl) y.assign _ _ trivial h _ w c w _ hs) λe a1 w1 hq=> ?_)
    obtain⟨ex,st1,c1,he,hq,hs1⟩:=hq
    cases e<;>simp only[exOf,Option.some.injEq,reduceCtorEq]at he<;>subst he
    rotate_left
    . exact hq.elim
    . exact hq.elim
    simp only[Q08]at hq
    obtain⟨hno1,hq⟩:=hq
    have hl1:w1.heap[l]? =some (.loop rec):=(hs1.reach.grows.I l hI).2.trans hl
    have hrow: ∀r x,(c.kill (List.range' k (rows.length-k))).R r=some x-> ¬c.V r->c.ρ r≠l:=λr x hr hV=>by
      obtain⟨_,x0,q1,_⟩:=Q3r (c:=c) hr
      exact(hm.imm l hI).2 r x0 q1 hV
    exact⟨_,run_beginRound hl1 hst,Z6x hD hT hG (λro code st Q hl=>hL ro (.inr rfl) code st Q trivial hl) hQ0 hm hI hl hst hpe (hs1.edit hI hl hrow hno1) hq⟩
def D.stayB:D->Bool| .int _ _=>true| .bool _=>true| .str _=>true| .sl _ _ _=>true| .nilp=>true| .nilif=>true|_=>false
theorem Els.Eq_refl(E:Els):Els.Eq E E:=by
 cases E with
 |gen es=>cases es<;>simp [Els.Eq]
 |recs k l=>simp [Els.Eq,Qvg]
 |_=>simp [Els.Eq]
theorem vz{ex:List Nat}{m:Nat}{R:Rows}{d:D}(h:d.stayB=true):retC ex m R d d:=by
 cases d<;>first|(cases h;done)|simp [retC,Q08,Els.Eq_refl]
theorem Z7p{ex:List Nat}{m:Nat}{R:Rows}: ∀{e:List D},e.all D.stayB=true->Z1x ex m R e e
 |[],_=>trivial
 | d::e,h=>by
   simp only[List.all_cons,aE]at h
   exact⟨vz h.1,Z7p h.2⟩

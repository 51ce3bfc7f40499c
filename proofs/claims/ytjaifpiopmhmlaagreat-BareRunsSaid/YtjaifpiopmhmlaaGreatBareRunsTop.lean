import Derived.Test.YtjaifpiopmhmlaaGreatBareRunsFn
set_option linter.all false
namespace Go.GD
open Go
theorem VRep.toRep{c:Ctx}{w:World}{d:D}{v:Value}(h:VRep c w d v):Rep c w d v:=by
 cases d<;>first|exact h|trivial|exact h.elim
theorem Rep.toVRep{c:Ctx}{w:World}{d:D}{v:Value}(hv:d.isVal=true)(h:Rep c w d v):VRep c w d v:=by
 cases d<;>first|exact h|(simp [D.isVal]at hv)
theorem Qbb.length{c:Ctx}{w:World}: ∀{ds:List D} {vs:List Value},Qbb c w ds vs->ds.length=vs.length
 |[],[],_=>rfl
 |_::_,_::_,h=>by simp [Qbb.length h.2]
 |[],_::_,h=>h.elim
 |_::_,[],h=>h.elim
theorem Z1: ∀{ds:List D} {i t:Nat},(∃j,t=i+j/\j<ds.length/\look (Qt1 ds i) t=ds.getD j .dead)\/look (Qt1 ds i) t= .dead
 |[],i,t=> .inr rfl
 | d ::ds,i,t=>by
   simp only[Qt1,Qge]
   by_cases e:i=t
   . left;exact⟨0,by omega,by simp,by rw[if_pos e];rfl⟩
   . rw[if_neg e]
     rcases Z1 (ds:=ds) (i:=i+1) (t:=t) with⟨j,h1,h2,h3⟩|h
     . left;exact⟨j+1,by omega,by simpa using h2,by simpa using h3⟩
     . right;exact h
theorem Zjl{c:Ctx}{w:World}{ds:List D}{vs:List Value}(h:Qbb c w ds vs)(n:Nat)(t:Nat):Rep c w (look (Qt1 ds 0) t) ((vs.toArray++Array.replicate n undef).getD t undef):=by
 rcases Z1 (ds:=ds) (i:=0) (t:=t) with⟨j,h1,h2,h3⟩|h1
 . obtain⟨v,hv,hr⟩:=Z31 h j h2
   rw[h3]
   have:t=j:=by omega
   subst this
   have hx:(vs.toArray++Array.replicate n undef).getD t undef=v:=by
     have hlt:=(List.getElem?_eq_some_iff.1 hv).1
     have hvv:=(List.getElem?_eq_some_iff.1 hv).2
     simp [Array.getElem?_append,hlt,hvv]
   rw[hx]
   exact hr.toRep
 . rw[h1];trivial
theorem Zm7{T:Tab}{t:TypeId}{x:D}{R:Rows}{K:D->Rows->Prop}(h:Qnn T t x R K){c:Ctx}{w:World}{v:Value}(hr:Rep c w x v): ∃a,v= .pointer (some a):=by
 unfold Qnn at h
 split at h
 . exact h.elim
 . cases x<;>simp only at h
   case ptr r i off=>obtain⟨_,_,_,_,hv⟩:=hr;exact⟨_,hv⟩
   case pa r i off len k n=>obtain⟨_,_,_,_,_,hv⟩:=hr;exact⟨_,hv⟩
   case iptr sz es i off=>obtain⟨_,_,_,_,_,hv,_⟩:=hr;exact⟨_,hv⟩
def Z52(tmps:Array Value):ResultVar->Sem Value
 | .tmp t=>pure (tmps.getD t undef)
 | .cell a t=>do loadVar t (<-asAddr (tmps.getD a undef))
theorem Qz3{P:Program}{T:Tab}(hT:Q5t P T){R:Rows}{env:List (Nat×D)}: ∀{l:List ResultVar} {K:List D->Prop},Z98 T R env l K->
   ∃ds,K ds/\ ∀c w (tmps:Array Value),Mem c w->Q6q c R->(∀t,Rep c w (look env t) (tmps.getD t undef))-> ∃vs,(l.mapM (Z52 tmps)).run P w= .ok vs w/\Qbb c w ds vs
 |[],K,h=>⟨[],h,λc w tmps _ _ _=>⟨[],rfl,trivial⟩⟩
 | .tmp t::l,K,h=>by
   simp only[Z98,D.force_iff,Q09]at h
   obtain⟨hv,h⟩:=h
   obtain⟨ds,hK,hr⟩:=Qz3 hT h
   refine⟨_,hK,λc w tmps hm hA he=> ?_⟩
   obtain⟨vs,h1,h2⟩:=hr c w tmps hm hA he
   refine⟨tmps.getD t undef::vs,?_,(he t).toVRep hv,h2⟩
   simp only[List.mapM_cons,Sem.run_bind,Z52,Sem.run_pure,Result.andThen_ok,h1]
 | .cell a t::l,K,h=>by
   simp only[Z98]at h
   obtain⟨val,hK0,hld⟩:=Zch hT h
   simp only[Q09]at hK0
   obtain⟨hv,hK0⟩:=hK0
   obtain⟨ds,hK,hr⟩:=Qz3 hT hK0
   refine⟨_,hK,λc w tmps hm hA he=> ?_⟩
   obtain⟨vs,h1,h2⟩:=hr c w tmps hm hA he
   obtain⟨u,hu,hx⟩:=hld c w _ hm hA (he a)
   obtain⟨ad,had⟩:=Zm7 h (he a)
   rw[had,Qp]at hu
   refine⟨u::vs,?_,hx.toVRep hv,h2⟩
   simp only[List.mapM_cons,Sem.run_bind,Z52,had,asAddr,Sem.run_pure,Result.andThen_ok,hu,h1]
def oneOr:List Value->Value
 |[v]=>v
 |vs=> .tuple vs.toArray
theorem Z0l{P:Program}{fn:Func}{tmps:Array Value}{w:World}{vs:List Value}(h:(fn.results.toList.mapM (Z52 tmps)).run P w= .ok vs w):(results fn tmps).run P w= .ok (oneOr vs) w:=by
 have h2:(fn.results.mapM (Z52 tmps)).run P w= .ok vs.toArray w:=by
   rw[<-Array.toArray_toList (xs:=fn.results),List.mapM_toArray]
   simp only[Sem.run_map,h,Result.andThen_ok]
 have h3:(results fn tmps)=(fn.results.mapM (Z52 tmps))>>=λvs=>pure (if h:vs.size=1 then vs[0] else .tuple vs):=by
   unfold results
   congr 1
 rw[h3,Sem.run_bind,h2]
 simp only[Result.andThen_ok,Sem.run_pure]
 congr 1
 match vs with
 |[]=>rfl
 |[v]=>rfl
 |_::_::_=>rfl
theorem zaM{P:Program}(hD:Qk9 P){T:Tab}(hT:Q5t P T){G:List Q0c}(hG:Q8y P G){f:FuncId}{fn:Func}(hf:P.funcs[f]? =some fn){args:List D}{rows:List Row}{res:D}{rows':List Row}
    {L:Code->St->(Ex->St->Prop)->Prop} (hL: ∀code st Q,L code st Q->Tr P fn.ntmps rows.length code st Q) {Q0:D->Rows->Prop} (hQ0: ∀d R,Q0 d R->RetE rows.length res rows' d R) (h:fnVC T G L fn args rows Q0):Q3w P f args rows res rows':=by
  intro c w vs hm hbase hR hargs
  unfold fnVC at h
  split at h
  . rename_i code hb
    have hs:SimS fn.ntmps rows.length {c with X:=λ_=>False} w c w ⟨Qt1 args 0,rows.map some⟩ {tmps:=vs.toArray++Array.replicate (fn.ntmps-vs.toArray.size) undef,defers:=[]}:=
      ⟨hm,λr=>by
        rw[hR]
        simp only[List.getD,List.getElem?_map]
        cases rows[r]? <;>rfl,λt=>Zjl hargs _ t,by simp;omega,rfl,Nat.le_of_eq hbase,λr row h=>by have h:c.R r=some row:=h;rw[hR]at h;exact(List.getElem?_eq_some_iff.1 h).1,Qxz.refl c w⟩
    refine calls_of_wp hf hb (wp_mono (Z19 hD hT hG hL code _ _ h _ w c w _ hs) λe a' w' hq=> ?_)
    obtain⟨ex,st,c1,he,hq,hs1⟩:=hq
    have fin:(Z98 T st.rows st.env fn.results.toList λds=>match ds with|[d]=>Q0 d st.rows|ds=>Q0 (.tup ds) st.rows)->
        a'.defers=[]/\ ∃v,(results fn a'.tmps).run P w'= .ok v w'/\ ∃v' c',Ending.returned v= .returned v'/\NxtW c w c' w'/\(∀r,c'.R r=rows'[r]?)/\Rep c' w' res v':=by
      intro hres
      refine⟨hs1.defers,?_⟩
      obtain⟨ds,hK,hr⟩:=Qz3 hT hres
      have hAg:Q6q c1 st.rows:=λr row row' h1 h2=>by rw[hs1.rows,h2]at h1;exact(Option.some.inj h1).symm
      obtain⟨us,hrun,hreps⟩:=hr c1 w' a'.tmps hs1.mem hAg hs1.env
      have hrun':=Z0l hrun
      obtain⟨d,v,hret,hv,hrep⟩: ∃d v,RetE rows.length res rows' d st.rows/\oneOr us=v/\Rep c1 w' d v:=by
        match ds,us,hreps with
        |[d],[u],hx=>exact⟨d,u,hQ0 _ _ hK,rfl,hx.1.toRep⟩
        |[],[],hx=>exact⟨.tup [],_,hQ0 _ _ hK,rfl,[],rfl,trivial⟩
        |d::e::ds,u::v::us,hx=>exact⟨.tup (d::e::ds),_,hQ0 _ _ hK,rfl,_,rfl,hx⟩
        |[],_::_,hx=>exact hx.elim
        |[_],[],hx=>exact hx.elim
        |[_],_::_::_,hx=>exact hx.2.elim
        |_::_::_,[],hx=>exact hx.elim
        |_::_::_,[_],hx=>exact hx.2.elim
      rw[hv]at hrun'
      obtain⟨ex,hex,hd,hrows⟩:=hret
      obtain⟨hnew,hmem,hreach⟩:=zp hs1 hex hrows
      exact⟨v,hrun',v,c1.out _ rows',rfl,⟨hmem,⟨hreach.grows.base,hreach.grows.top,hreach.grows.I,hreach.grows.R⟩,hreach.fr.mono (λb _ hb=>hb.elim id False.elim),λb hb=>(hreach.imm b hb).imp id (λh=>h.elim False.elim id),λr row' h1 h2=>(hreach.rho r row' h1 h2).imp id (λh=>h.elim False.elim id)⟩,λr=>rfl,Z8v hs1.mem hs1.rows hrows hnew hd hrep⟩
    cases e<;>simp only[exOf,Option.some.injEq,reduceCtorEq]at he
    . subst he;exact fin hq
    . subst he;exact hq.elim
    . subst he;exact fin hq
  . exact h.elim
theorem xaM{P:Program}(hD:Qk9 P){T:Tab}(hT:Q5t P T){G:List Q0c}(hG:Q8y P G){f:FuncId}{fn:Func}{k:Nat}(hf:P.funcs[f]? =some fn){args:List D}{rows:List Row}{res:D}{rows':List Row}
    {L:Code->St->(Ex->St->Prop)->Prop} (hL: ∀code st Q,L code st Q->Tr P fn.ntmps k code st Q) {Q0:D->Rows->Prop} (hQ0: ∀d R,Q0 d R->RetE k res rows' d R) (h:Zls T G L fn args rows Q0 k):Q9i P f k args rows res rows':=by
  intro c w vs hm hbase hR hargs
  unfold Zls at h
  split at h
  . rename_i code hb
    have hc0: ∀(c:Ctx) (w:World) (vs:List Value),Mem c w->c.base=0->(∀r,c.R r=rows[r]?)->Qbb c w args vs->SimS fn.ntmps k {c.kill (List.range' k (rows.length-k)) with X:=λb=> ∃s row,memB s (List.range' k (rows.length-k))=true/\c.R s=some row/\ ¬c.V s/\c.ρ s=b} w c w ⟨Qt1 args 0,rows.map some⟩ {tmps:=vs.toArray++Array.replicate (fn.ntmps-vs.toArray.size) undef,defers:=[]}:=by
      intro c w vs hm hbase hR hargs
      refine⟨hm,λr=>by
        rw[hR]
        simp only[List.getD,List.getElem?_map]
        cases rows[r]? <;>rfl,λt=>Zjl hargs _ t,by simp;omega,rfl,by simp [Ctx.kill,hbase],λr row h=> ?_,⟨⟨rfl,Nat.le_refl _,λ_ h=>⟨h,rfl⟩,λr x hx=> ?_⟩,Fr.refl _ w,λ_ h=> .inl h,λr row hr hv=> ?_,λ_ _=>by simp [Ctx.kill,hbase]⟩⟩
      . obtain⟨h1,row',h2,_⟩:=Q4j (c:=c) (ks:=List.range' k (rows.length-k)) h
        rw[hR]at h2
        have hlt:=(List.getElem?_eq_some_iff.1 h2).1
        by_cases hk:r<k
        . exact hk
        . rw[Qe5.2 (by omega)]at h1;cases h1
      . obtain⟨_,row,h2,rfl⟩:=Q4j (c:=c) (ks:=List.range' k (rows.length-k)) hx
        obtain⟨s1,s2,s3,s4⟩:=Q5d (List.range' k (rows.length-k)) row
        exact⟨row,h2,s1.symm,s2.symm,s3.symm,s4.symm,rfl,Iff.rfl,λ_ arr ha=>⟨arr,by rw[s2]at ha⊢;exact ha,rfl⟩⟩
      . cases hb:memB r (List.range' k (rows.length-k)) with
        |true=>exact .inr (.inl ⟨r,row,hb,hr,hv,rfl⟩)
        |false=>exact .inl ⟨⟨row.kill (List.range' k (rows.length-k)),by simp [Ctx.kill,hb,hr]⟩,hv,rfl⟩
    have hs:=hc0 c w vs hm hbase hR hargs
    refine calls_of_wp hf hb (wp_mono (Z19 hD hT hG hL code _ _ h _ w c w _ hs) λe a' w' hq=> ?_)
    obtain⟨ex,st,c1,he,hq,hs1⟩:=hq
    have fin:(Z98 T st.rows st.env fn.results.toList λds=>match ds with|[d]=>Q0 d st.rows|ds=>Q0 (.tup ds) st.rows)->
        a'.defers=[]/\ ∃v,(results fn a'.tmps).run P w'= .ok v w'/\ ∃v' c',Ending.returned v= .returned v'/\NxtK (List.range' k (rows.length-k)) c w c' w'/\(∀r,c'.R r=rows'[r]?)/\Rep c' w' res v':=by
      intro hres
      refine⟨hs1.defers,?_⟩
      obtain⟨ds,hK,hr⟩:=Qz3 hT hres
      have hAg:Q6q c1 st.rows:=λr row row' h1 h2=>by rw[hs1.rows,h2]at h1;exact(Option.some.inj h1).symm
      obtain⟨us,hrun,hreps⟩:=hr c1 w' a'.tmps hs1.mem hAg hs1.env
      have hrun':=Z0l hrun
      obtain⟨d,v,hret,hv,hrep⟩: ∃d v,RetE k res rows' d st.rows/\oneOr us=v/\Rep c1 w' d v:=by
        match ds,us,hreps with
        |[d],[u],hx=>exact⟨d,u,hQ0 _ _ hK,rfl,hx.1.toRep⟩
        |[],[],hx=>exact⟨.tup [],_,hQ0 _ _ hK,rfl,[],rfl,trivial⟩
        |d::e::ds,u::v::us,hx=>exact⟨.tup (d::e::ds),_,hQ0 _ _ hK,rfl,_,rfl,hx⟩
        |[],_::_,hx=>exact hx.elim
        |[_],[],hx=>exact hx.elim
        |[_],_::_::_,hx=>exact hx.2.elim
        |_::_::_,[],hx=>exact hx.elim
        |_::_::_,[_],hx=>exact hx.2.elim
      rw[hv]at hrun'
      obtain⟨ex,hex,hd,hrows⟩:=hret
      obtain⟨hnew,hmem,hreach⟩:=zp hs1 hex hrows
      refine⟨v,hrun',v,c1.out _ rows',rfl,⟨hmem,⟨hreach.grows.base,hreach.grows.top,hreach.grows.I,hreach.grows.R⟩,hreach.fr.mono (λb _ hb=> ?_),λb hb=>hreach.imm b hb,λr row' h1 h2=> ?_⟩,λr=>rfl,Z8v hs1.mem hs1.rows hrows hnew hd hrep⟩
      . rcases hb with⟨r,x,h1,h2,h3⟩|⟨r,x,_,h1,h2,h3⟩
        . obtain⟨_,row,g1,_⟩:=Q4j (c:=c) (ks:=List.range' k (rows.length-k)) h1
          exact⟨r,row,g1,h2,h3⟩
        . exact⟨r,x,h1,h2,h3⟩
      . rcases hreach.rho r row' h1 h2 with⟨⟨x,g1⟩,g2,g3⟩|⟨s,x,q1,q2,q3,q4⟩|g
        . obtain⟨_,row,p1,_⟩:=Q4j (c:=c) (ks:=List.range' k (rows.length-k)) g1
          exact .inl ⟨⟨row,p1⟩,g2,g3⟩
        . exact .inr (.inl ⟨s,x,q1,q2,q3,q4.symm⟩)
        . exact .inr (.inr g)
    cases e<;>simp only[exOf,Option.some.injEq,reduceCtorEq]at he
    . subst he;exact fin hq
    . subst he;exact hq.elim
    . subst he;exact fin hq
  . exact h.elim
end Go.GD

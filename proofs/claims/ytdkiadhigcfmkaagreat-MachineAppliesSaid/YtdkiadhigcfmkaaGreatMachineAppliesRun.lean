/-
  GD: code and functions.
-/
import Derived.Test.YtdkiadhigcfmkaaGreatMachineAppliesFb
namespace Go.GD
open Go
set_option linter.unusedVariables false
set_option linter.unusedSimpArgs false
structure Qs6(c0:Ctx)(w0:World)(c:Ctx)(w:World):Prop where
 grows:Q3i c0 w0 c w
 fr:Fr (fun b=>(∃r x,c0.R r=some x∧ ¬c0.V r∧c0.ρ r=b)∨c0.X b) w0 w
 imm: ∀b,c.I b→c0.I b∨c0.X b∨w0.heap.size≤b
 rho: ∀r row,c.R r=some row→ ¬c.V r→((∃x,c0.R r=some x)∧ ¬c0.V r∧c.ρ r=c0.ρ r)∨c0.X (c.ρ r)∨w0.heap.size≤c.ρ r
 xb: ∀b,c0.X b→c0.base≤b
theorem Qs6.refl(c:Ctx)(w:World):Qs6 {c with X:=fun _=>False} w c w:=
 ⟨⟨rfl,fun _ h=>⟨h,rfl⟩,fun _ row h=>⟨row,h,rfl,rfl,rfl,rfl,rfl,Iff.rfl,fun _ arr h=>⟨arr,h,rfl⟩⟩⟩,Fr.refl _ w,fun _ h=> .inl h,fun _ row h v=> .inl ⟨⟨row,h⟩,v,rfl⟩,fun _ h=>h.elim⟩
theorem Z9u{c0 c:Ctx}{w0 w:World}{M:Nat}{ks:List Nat}(hM: ∀k,memB k ks=true→M≤k)(hown: ∀r row,c0.R r=some row→r<M)(h:Q3i c0 w0 c w):Q3i c0 w0 (c.kill ks) w:=by
 refine⟨h.base,h.I,fun r row hr=> ?_⟩
 obtain⟨row',g1,g2,g3,g4,g5,g6,gV,g7⟩:=h.R r row hr
 obtain⟨s1,s2,s3,s4⟩:=Q4d ks row'
 have hlt:=hown r row hr
 refine⟨row'.kill ks,?_,s1.trans g2,s2.trans g3,s3.trans g4,s4.trans g5,g6,gV,g7⟩
 simp only[Ctx.kill]
 rw[if_neg (fun e=>by have:=hM r e;omega),g1];rfl
theorem Qs6.step{c0 c c':Ctx}{w0 w w':World}{M:Nat}{ks:List Nat}(hM: ∀k,memB k ks=true→M≤k)(hown: ∀r row,c0.R r=some row→r<M)(h:Qs6 c0 w0 c w)(n:NxtK ks c w c' w'):Qs6 c0 w0 c' w':=by
 have killed: ∀s x,memB s ks=true→c.R s=some x→ ¬c.V s→c0.X (c.ρ s)∨w0.heap.size≤c.ρ s:=fun s x hs hx v'=>by
   rcases h.rho s x hx v' with⟨⟨y,hy⟩,_⟩|e'
   · have:=hown s y hy;have:=hM s hs;omega
   · exact e'
 refine⟨(Z9u hM hown h.grows).trans n.grows,⟨n.fr.os.trans h.fr.os,n.fr.tape.trans h.fr.tape,n.fr.output.trans h.fr.output,Nat.le_trans h.fr.size n.fr.size,fun b hb hx=> ?_⟩,fun b hb=> ?_,fun r row hr hv=> ?_,h.xb⟩
 · have hlt:b<w.heap.size:=Nat.lt_of_lt_of_le hb h.fr.size
   refine(n.fr.heap b hlt fun⟨r,x,hr,v,e⟩=> ?_).trans (h.fr.heap b hb hx)
   rcases h.rho r x hr v with⟨⟨y,hy⟩,v',e'⟩|e'|e'
   · exact hx (.inl ⟨r,y,hy,v',by rw[←e',e]⟩)
   · exact hx (.inr (by rw[←e];exact e'))
   · omega
 · rcases n.imm b hb with h1|⟨s,x,hs,hx,v',e⟩|h1
   · exact h.imm b h1
   · rcases killed s x hs hx v' with h1|h1
     · exact .inr (.inl (by rw[←e];exact h1))
     · exact .inr (.inr (by omega))
   · have:=h.fr.size;exact .inr (.inr (by omega))
 · rcases n.rho r row hr hv with⟨⟨x,hx⟩,v',e⟩|⟨s,x,hs,hx,v',e⟩|e
   · rcases h.rho r x hx v' with⟨h1,h2,e'⟩|e'|e'
     · exact .inl ⟨h1,h2,e.trans e'⟩
     · exact .inr (.inl (by rw[e];exact e'))
     · exact .inr (.inr (by omega))
   · rcases killed s x hs hx v' with h1|h1
     · exact .inr (.inl (by rw[e];exact h1))
     · exact .inr (.inr (by omega))
   · have:=h.fr.size;exact .inr (.inr (by omega))
structure SimS(N M:Nat)(c0:Ctx)(w0:World)(c:Ctx)(w:World)(st:St)(a:Act):Prop where
 mem:Mem c w
 rows: ∀r,c.R r=st.rows.getD r none
 env: ∀t,Rep c w (look st.env t) (a.tmps.getD t undef)
 size:N≤a.tmps.size
 defers:a.defers=[]
 base0:c0.base≤w0.heap.size
 own0: ∀r row,c0.R r=some row→r<M
 reach:Qs6 c0 w0 c w
theorem SimS.base{N M:Nat}{c0:Ctx}{w0:World}{c:Ctx}{w:World}{st:St}{a:Act}(h:SimS N M c0 w0 c w st a):c.base≤w.heap.size:=by
 rw[h.reach.grows.base];exact Nat.le_trans h.base0 h.reach.fr.size
theorem Z2t{c:Ctx}{w:World}{env:List (Nat×D)}{a:Act}(h: ∀t,Rep c w (look env t) (a.tmps.getD t undef))(x:Operand):Rep c w (evOp env x) (a.eval x):=by
 cases x with
 |tmp t=>exact h t
 | const v=>
   simp only[evOp,Act.eval]
   cases hv:Z70 v with
   |none=>trivial
   |some d=>exact Qj9 hv c w
 |global g=>trivial
 |func f=>trivial
def Qa4(env:List (Nat×D))(dst:Option Tmp)(d:D):List (Nat×D):=match dst with|none=>env|some t=>(t,d)::env
theorem Qef(env:List (Nat×D))(t:Nat)(d:D)(s:Nat):look ((t,d)::env) s=if t=s then d else look env s:=by
 simp only[look]
 cases hb:Nat.beq t s with
 |true=>rw[if_pos (Nat.eq_of_beq_eq_true hb)]
 |false=>rw[if_neg (fun e=>by rw[e]at hb;simp at hb)]
theorem Qz5{c:Ctx}{w:World}{env:List (Nat×D)}{a:Act}{N:Nat}(hN:N≤a.tmps.size){dst:Option Tmp}(hd: ∀t,dst=some t→t<N){d:D}{v:Value}(h: ∀t,Rep c w (look env t) (a.tmps.getD t undef))(hv:Rep c w d v)(t:Nat):
   Rep c w (look (Qa4 env dst d) t) ((a.put dst v).tmps.getD t undef):=by
 cases dst with
 |none=>exact h t
 | some s=>
   have hs:=hd s rfl
   simp only[Qa4,Act.put,Qef]
   by_cases e:s=t
   · subst e
     rw[if_pos rfl]
     have hlt:s<a.tmps.size:=Nat.lt_of_lt_of_le hs hN
     simpa [Array.getD,hlt] using hv
   · rw[if_neg e]
     have:=h t
     simpa [Array.getElem?_setIfInBounds_ne e] using this
def OpX(P:Program)(G:List Q08)(M:Nat)(o:Oper)(ev:Operand→D)(R:Rows)(ks:List Nat)(val:D)(R':Rows):Prop:=
 if isW G o.op=true then(∀k,memB k ks=true→M≤k)∧OpK P o ev R ks val R' else ks=[]∧OpN P o ev R val R'
theorem OpX.toK{P:Program}{G:List Q08}{M:Nat}{o:Oper}{ev:Operand→D}{R:Rows}{ks:List Nat}{val:D}{R':Rows}(h:OpX P G M o ev R ks val R'):(∀k,memB k ks=true→M≤k)∧OpK P o ev R ks val R':=by
 unfold OpX at h
 split at h
 · exact h
 · obtain⟨rfl,h⟩:=h
   exact⟨fun k hk=>by simp [memB]at hk,h.toW.toK⟩
theorem Qvi{P:Program}{G:List Q08}{M:Nat}{o:Oper}{ev:Operand→D}{R:Rows}{val:D}{R':Rows}(hw:isW G o.op=false)(h:OpN P o ev R val R'):OpX P G M o ev R [] val R':=by
 unfold OpX;rw[hw];exact⟨rfl,h⟩
theorem Z6i{P:Program}{G:List Q08}{M:Nat}{o:Oper}{ev:Operand→D}{R:Rows}{ks:List Nat}{val:D}{R':Rows}(hw:isW G o.op=true)(hk: ∀k,memB k ks=true→M≤k)(h:OpK P o ev R ks val R'):OpX P G M o ev R ks val R':=by
 unfold OpX;rw[if_pos hw];exact⟨hk,h⟩
def GOp(P:Program)(G:List Q08)(M:Nat)(ops:Array Oper)(o:Oper)(env:List (Nat×D))(R:Rows)(ks:List Nat)(val:D)(R':Rows):Prop:=
 match o.guard with
 |none=>OpX P G M o (evOp env) R ks val R'
 |some (j,want)=> ∃g,(ops[j]?).bind (·.dst)=some g∧((∃b,look env g= .bool b∧(if b=want then OpX P G M o (evOp env) R ks val R' else ks=[]∧val= .tup []∧R'=R))∨(look env g= .tup []∧ks=[]∧val= .tup []∧R'=R))
theorem Q5a{N:Nat}{st:St}{dst:Option Tmp}{d:D}{R:Rows}{K:St→Prop}(h:st.put N dst d R K):(∀t,dst=some t→t<N)∧K ⟨Qa4 st.env dst d,R⟩:=by
 cases dst with
 |none=>exact⟨fun t h=>(by cases h),h⟩
 | some t=>
   simp only[St.put,Q06]at h
   refine⟨fun s hs=> ?_,h.2⟩
   cases hs
   exact Nat.le_of_ble_eq_true h.1
theorem kill_id(d:D):d.kill []=d:=by
 cases d with
 |agg cs=>show D.agg (D.kills [] cs)=_;rw[Qwy]
 |_=>rfl
theorem Z5z: ∀{ds:List D},D.killT [] ds=ds
 |[]=>rfl
 |d::l=>by simp [D.killT,kill_id,Z5z (ds:=l)]
theorem killV_nil(d:D):d.killV []=d:=by
 cases d with
 |tup ds=>show D.tup (D.killT [] ds)=_;rw[Z5z]
 |agg cs=>exact kill_id (.agg cs)
 |_=>rfl
theorem Q0u{env:List (Nat×D)}{t:Nat}:look (Q7d [] env) t=look env t:=by rw[Qa8,killV_nil]
theorem Zc9{P:Program}{T:Tab}(hT:Q3f P T){G:List Q08}(hG:Q6n P G){N M:Nat}{o:Oper}{st:St}{K:St→Prop}(h:doVC T G N M o st K):
    ∃ks val R' env1,(∀t,look env1 t=look (Q7d ks st.env) t)∧(∀t,o.dst=some t→t<N)∧K ⟨Qa4 env1 o.dst val,R'⟩∧OpX P G M o (evOp st.env) st.rows ks val R':=by
  have plain:(isW G o.op=Qlm o.op)→(opVC T o.op (evOp st.env) st.rows fun d R=>st.put N o.dst d R K)→ ∃ks val R' env1,(∀t,look env1 t=look (Q7d ks st.env) t)∧(∀t,o.dst=some t→t<N)∧K ⟨Qa4 env1 o.dst val,R'⟩∧OpX P G M o (evOp st.env) st.rows ks val R':=by
    intro hw h
    obtain⟨val,R',hK,hO⟩:=Z3n hT o _ _ _ h
    obtain⟨h1,h2⟩:=Q5a hK
    refine⟨[],_,_,st.env,fun t=>Q0u.symm,h1,h2,?_⟩
    split at hO
    · rename_i hs
      exact Z6i (hw.trans hs) (fun k hk=>by simp [memB]at hk) hO.toK
    · rename_i hs
      exact Qvi (by rw[hw];simpa using hs) hO
  unfold doVC at h
  split at h
  · rename_i cc x y ho
    split at h
    · rename_i b hb
      have hw:isW G o.op=false:=by rw[ho];rfl
      have go: ∀z,z∈o.op.operands→(∀c w (a:Act),Rep c w (evOp st.env cc) (a.eval cc)→(execOp a.eval o).run P w= .ok (.value (a.eval z)) w)→(evOp st.env z).force (fun d=>st.put N o.dst d st.rows K)→
          ∃ks val R' env1,(∀t,look env1 t=look (Q7d ks st.env) t)∧(∀t,o.dst=some t→t<N)∧K ⟨Qa4 env1 o.dst val,R'⟩∧OpX P G M o (evOp st.env) st.rows ks val R':=by
        intro z hz hrun h
        rw[D.force_iff]at h
        obtain⟨h1,h2⟩:=Q5a h
        exact⟨[],_,_,st.env,fun t=>Q0u.symm,h1,h2,Qvi hw (Q15 fun c w a hm hA hev=>⟨_,hrun c w a (hev cc (by rw[ho];simp [Op.operands])),hev z hz⟩)⟩
      cases b with
      | true=>
        refine go x (by rw[ho];simp [Op.operands]) (fun c w a hc=> ?_) h
        rw[hb]at hc
        simp only[execOp,ho,Rep.bool.1 hc,asBool,Sem.run_bind,Sem.run_pure,Result.andThen_ok,if_true]
      | false=>
        refine go y (by rw[ho];simp [Op.operands]) (fun c w a hc=> ?_) h
        rw[hb]at hc
        simp only[execOp,ho,Rep.bool.1 hc,asBool,Sem.run_bind,Sem.run_pure,Result.andThen_ok,Bool.false_eq_true,if_false]
    · exact h.elim
  · rename_i f args tys ho
    obtain⟨dst,op,type,pos,after,guard⟩:=o
    simp only at ho
    subst ho
    split at h
    · rename_i hgo
      split at h
      rotate_left
      · rename_i hfz
        obtain⟨ks,val,R',x,hK,hx,hM,hO⟩:=callF_ok (dst:=dst) (type:=type) (pos':=pos) (after:=after) (guard:=guard) (tys:=tys) hG hgo h
        rw[Qo7]at hK
        obtain⟨h1,h2⟩:=Q5a hK
        refine⟨ks,_,_,_,fun t=>rfl,h1,h2,Z6i ?_ hM hO⟩
        have hfz:x.frz=true:=by simpa [Qyj,hx] using hfz
        cases hr':x.refs with
        |nil=>simp only[isW,hx,hr',hfz]
        |cons b bs=>simp only[isW,hx,hr']
      rename_i hfz
      have hfz': ∀x,Qg G f=some x→x.frz=false:=fun x hx=>by simpa [Qyj,hx] using hfz
      obtain⟨val,R',x,hK,hx,hO,hN⟩:=Z7j (dst:=dst) (type:=type) (pos':=pos) (after:=after) (guard:=guard) (tys:=tys) hG hgo h
      obtain⟨h1,h2⟩:=Q5a hK
      refine⟨[],_,_,st.env,fun t=>Q0u.symm,h1,h2,?_⟩
      cases hr:x.refs with
      |nil=>exact Qvi (by simp only[isW,hx,hr,hfz' x hx]) (hN hr)
      |cons b bs=>exact Z6i (by simp only[isW,hx,hr]) (fun k hk=>by simp [memB]at hk) hO.toK
    · rename_i k hgo
      obtain⟨ks,val,R',x,hK,hx,hr,hM,hO⟩:=callK_ok (dst:=dst) (type:=type) (pos':=pos) (after:=after) (guard:=guard) (tys:=tys) hG hgo h
      rw[Qo7]at hK
      obtain⟨h1,h2⟩:=Q5a hK
      refine⟨ks,_,_,_,fun t=>rfl,h1,h2,Z6i ?_ hM hO⟩
      cases hr':x.refs with
      |nil=>exact(hr hr').elim
      |cons b bs=>simp only[isW,hx,hr']
  · rename_i args tys ho
    obtain⟨dst,op,type,pos,after,guard⟩:=o
    simp only at ho
    subst ho
    split at h
    · rename_i x y t tx hx ht
      have hargs:args= #[x,y]:=by rw[←Array.toArray_toList (xs:=args),hx]
      have htys:tys= #[t,tx]:=by rw[←Array.toArray_toList (xs:=tys),ht]
      subst hargs;subst htys
      obtain⟨ks,R',hK,hM,hr⟩:=appVC_ok (ty:=type) hT h
      rw[Qo7]at hK
      obtain⟨h1,h2⟩:=Q5a hK
      refine⟨ks,_,_,_,fun t=>rfl,h1,h2,Z6i rfl hM fun c w a hm hb hR hev K' Q hK'=> ?_⟩
      obtain⟨v',w',c',hrun,hn,hR',hv⟩:=hr c w _ _ hm hb hR (hev x (by simp [Op.operands,Call.operands])) (hev y (by simp [Op.operands,Call.operands]))
      refine Qjx ?_ (hK' v' w' c' hn hR' hv)
      simp only[execOp,resolve,Sem.run_bind,Sem.run_pure,Result.andThen_ok,invoke,builtin]
      have:(#[x,y]:Array Operand).map a.eval= #[a.eval x,a.eval y]:=by simp
      rw[this,hrun];rfl
    · exact h.elim
  · rename_i args tys ho
    obtain⟨dst,op,type,pos,after,guard⟩:=o
    simp only at ho
    subst ho
    split at h
    · rename_i x y t tx hx ht
      have hargs:args= #[x,y]:=by rw[←Array.toArray_toList (xs:=args),hx]
      have htys:tys= #[t,tx]:=by rw[←Array.toArray_toList (xs:=tys),ht]
      subst hargs;subst htys
      obtain⟨val,R',hK,hr⟩:=copyVC_ok (ty:=type) hT h
      obtain⟨h1,h2⟩:=Q5a hK
      refine⟨[],_,_,st.env,fun t=>Q0u.symm,h1,h2,Z6i rfl (fun k hk=>by simp [memB]at hk) (OpW.toK fun c w a hm hb hR hev K' Q hK'=> ?_)⟩
      obtain⟨v',w',c',hrun,hn,hR',hv⟩:=hr c w _ _ hm hR (hev x (by simp [Op.operands,Call.operands])) (hev y (by simp [Op.operands,Call.operands]))
      refine Qjx ?_ (hK' v' w' c' hn hR' hv)
      simp only[execOp,resolve,Sem.run_bind,Sem.run_pure,Result.andThen_ok,invoke,builtin]
      have:(#[x,y]:Array Operand).map a.eval= #[a.eval x,a.eval y]:=by simp
      rw[this,hrun];rfl
    · exact h.elim
  · rename_i args tys ho
    split at h
    · rename_i x y hx
      obtain⟨val,hK,hr⟩:=Zbp h
      obtain⟨h1,h2⟩:=Q5a hK
      refine⟨[],_,_,st.env,fun t=>Q0u.symm,h1,h2,Qvi (by rw[ho];rfl) (Q15 fun c w a hm hA hev=> ?_)⟩
      have hargs:args= #[x,y]:=by rw[←Array.toArray_toList (xs:=args),hx]
      subst hargs
      obtain⟨u,hu,hv⟩:=hr P c w _ _ (hev x (by rw[ho];simp [Op.operands,Call.operands])) (hev y (by rw[ho];simp [Op.operands,Call.operands]))
      refine⟨u,?_,hv⟩
      simp only[execOp,ho,resolve,Sem.run_bind,Sem.run_pure,Result.andThen_ok,invoke,builtin]
      have:(#[x,y]:Array Operand).map a.eval= #[a.eval x,a.eval y]:=by simp
      rw[this]
      have hu:=hu.1 rfl tys o.type
      rw[hu];rfl
    · exact h.elim
  · rename_i args tys ho
    split at h
    · rename_i x y hx
      obtain⟨val,hK,hr⟩:=Zbp h
      obtain⟨h1,h2⟩:=Q5a hK
      refine⟨[],_,_,st.env,fun t=>Q0u.symm,h1,h2,Qvi (by rw[ho];rfl) (Q15 fun c w a hm hA hev=> ?_)⟩
      have hargs:args= #[x,y]:=by rw[←Array.toArray_toList (xs:=args),hx]
      subst hargs
      obtain⟨u,hu,hv⟩:=hr P c w _ _ (hev x (by rw[ho];simp [Op.operands,Call.operands])) (hev y (by rw[ho];simp [Op.operands,Call.operands]))
      refine⟨u,?_,hv⟩
      simp only[execOp,ho,resolve,Sem.run_bind,Sem.run_pure,Result.andThen_ok,invoke,builtin]
      have:(#[x,y]:Array Operand).map a.eval= #[a.eval x,a.eval y]:=by simp
      rw[this]
      have hu:=hu.2 rfl tys o.type
      rw[hu];rfl
    · exact h.elim
  · rename_i s d x ho
    split at h
    · rename_i e _ _ _ _ _ _ hs
      obtain⟨val,hK,hr⟩:=strVC_ok hT hs h
      obtain⟨h1,h2⟩:=Q5a hK
      refine⟨[],_,_,st.env,fun t=>Q0u.symm,h1,h2,Qvi (by rw[ho];rfl) (Q15 fun c w a hm hA hev=> ?_)⟩
      obtain⟨u,hu,hv⟩:=hr c w _ hm hA (hev x (by rw[ho];simp [Op.operands]))
      refine⟨u,?_,hv⟩
      simp only[execOp,ho]
      rw[Sem.run_bind,hu];rfl
    · rw[←ho]at h
      exact plain (by rw[ho];rfl) h
  · rename_i op t x y ty ho
    split at h
    · rename_i s es fr hx hy
      obtain⟨hK,hr⟩:=nilVC_ok hT h
      obtain⟨h1,h2⟩:=Q5a hK
      refine⟨[],_,_,st.env,fun t=>Q0u.symm,h1,h2,Qvi (by rw[ho];rfl) (Q15 fun c w a hm hA hev=> ?_)⟩
      have q1:=hev x (by rw[ho];simp [Op.operands])
      have q2:=hev y (by rw[ho];simp [Op.operands])
      rw[hx]at q1;rw[hy]at q2
      obtain⟨u,hu,hv⟩:=hr s fr c w _ _ q1 q2
      refine⟨u,?_,hv⟩
      simp only[execOp,ho]
      rw[Sem.run_bind,hu x y];rfl
    · rw[←ho]at h
      exact plain (by rw[ho];rfl) h
  · rename_i op n1 n2 n3 n4 n5 n6 n7 n8
    refine plain ?_ h
    unfold isW
    split
    · rename_i hop;rw[hop];rfl
    · rename_i hop;exact(n2 _ _ _ hop).elim
    · rename_i hop;exact(n3 _ _ hop).elim
    · rename_i hop;exact(n4 _ _ hop).elim
    · rename_i m1 m2 m3 m4
      cases hop:o.op<;>first|rfl|exact(m1 _ _ _ hop).elim
theorem Qmt{st:St}{g:Nat}{b:Bool}(h:look st.env g= .bool b)(t:Nat):look (st.know (.tmp g) b).env t=look st.env t:=by
 simp only[St.know,Qef]
 split
 · rename_i e;subst e;exact h.symm
 · rfl
theorem Zea{env env':List (Nat×D)}(h: ∀t,look env' t=look env t):evOp env'=evOp env:=by
 funext x;cases x<;>first|exact h _|rfl
theorem Qu8{P:Program}{T:Tab}(hT:Q3f P T){G:List Q08}(hG:Q6n P G){N M:Nat}{ops:Array Oper}{o:Oper}{l:List Oper}{st:St}{K:St→Prop}(h:Q7v T G N M ops (o::l) st K):
    ∃ks val R' env1,(∀t,look env1 t=look (Q7d ks st.env) t)∧(∀t,o.dst=some t→t<N)∧GOp P G M ops o st.env st.rows ks val R'∧Q7v T G N M ops l ⟨Qa4 env1 o.dst val,R'⟩ K:=by
  simp only[Q7v]at h
  split at h
  · rename_i hg
    obtain⟨ks,val,R',env1,h0,h1,h2,h3⟩:=Zc9 hT hG h
    exact⟨ks,val,R',env1,h0,h1,by unfold GOp;rw[hg];exact h3,h2⟩
  · rename_i j want hg
    split at h
    · rename_i g hd
      split at h
      · rename_i b hb
        have yes: ∀b',b'=b→doVC T G N M o (st.know (.tmp g) b') (fun st=>Q7v T G N M ops l st K)→b=want→ ∃ks val R' env1,(∀t,look env1 t=look (Q7d ks st.env) t)∧(∀t,o.dst=some t→t<N)∧GOp P G M ops o st.env st.rows ks val R'∧Q7v T G N M ops l ⟨Qa4 env1 o.dst val,R'⟩ K:=by
          intro b' e hh hw
          subst e
          obtain⟨ks,val,R',env1,h0,h1,h2,h3⟩:=Zc9 hT hG hh
          rw[Zea (Qmt hb)]at h3
          refine⟨ks,val,R',env1,fun t=>by rw[h0,Qa8,Qa8,Qmt hb],h1,?_,h2⟩
          unfold GOp;rw[hg]
          exact⟨g,hd, .inl ⟨_,hb,by rw[if_pos hw];exact h3⟩⟩
        have no: ∀b',b'=b→(st.know (.tmp g) b').put N o.dst (.tup []) st.rows (fun st=>Q7v T G N M ops l st K)→b≠want→ ∃ks val R' env1,(∀t,look env1 t=look (Q7d ks st.env) t)∧(∀t,o.dst=some t→t<N)∧GOp P G M ops o st.env st.rows ks val R'∧Q7v T G N M ops l ⟨Qa4 env1 o.dst val,R'⟩ K:=by
          intro b' e hh hw
          subst e
          obtain⟨h1,h2⟩:=Q5a hh
          refine⟨[],_,_,_,fun t=>by rw[Q0u,Qmt hb],h1,?_,h2⟩
          unfold GOp;rw[hg]
          exact⟨g,hd, .inl ⟨_,hb,by rw[if_neg hw];exact⟨rfl,rfl,rfl⟩⟩⟩
        cases b<;>cases want<;>simp only[Qu3]at h
        · exact yes _ rfl h rfl
        · exact no _ rfl h (by simp)
        · exact no _ rfl h (by simp)
        · exact yes _ rfl h rfl
      · rename_i hb
        obtain⟨h1,h2⟩:=Q5a h
        refine⟨[],_,_,st.env,fun t=>Q0u.symm,h1,?_,h2⟩
        unfold GOp;rw[hg]
        exact⟨g,hd, .inr ⟨hb,rfl,rfl,rfl⟩⟩
      · exact h.elim
    · exact h.elim
theorem Qgb{ops:Array Oper}{o:Oper}{c:Ctx}{w:World}{a:Act}{j g:Nat}{want:Bool}(hg:o.guard=some (j,want))(hd:(ops[j]?).bind (·.dst)=some g)(h:Rep c w (.tup []) (a.tmps.getD g undef)):
   Region.wanted o (yielded ops a.tmps)=false:=by
 obtain⟨vs,hv,hvs⟩:=h
 have hy:yielded ops a.tmps j=none:=by
   simp only[yielded,hd,Option.bind_some]
   cases hx:a.tmps[g]? with
   |none=>rfl
   | some v=>
     have:a.tmps.getD g undef=v:=by simp [hx]
     rw[this]at hv
     rw[hv]
 unfold Region.wanted
 rw[hg]
 simp only[hy]
 rfl
theorem Qmk(c:Ctx)(w:World):Rep c w (.tup []) undef:=⟨[],rfl,trivial⟩
theorem Qn3{ops:Array Oper}{o:Oper}{c:Ctx}{w:World}{a:Act}{j g:Nat}{want b:Bool}(hg:o.guard=some (j,want))(hd:(ops[j]?).bind (·.dst)=some g)(h:Rep c w (.bool b) (a.tmps.getD g undef)):
   Region.wanted o (yielded ops a.tmps)=decide (b=want):=by
 have hv:=Rep.bool.1 h
 have ht:a.tmps[g]? =some (.bool b):=by
   cases hx:a.tmps[g]? with
   |none=>simp [hx,undef]at hv
   |some v=>simp [hx]at hv;rw[hv]
 unfold Region.wanted
 simp only[hg,yielded,hd,Option.bind_some,ht]
 cases b<;>cases want<;>rfl
theorem gop_wp{P:Program}{G:List Q08}{ops:Array Oper}{N M:Nat}{c0:Ctx}{w0:World}{c:Ctx}{w:World}{st:St}{a:Act}{i:Nat}{o:Oper}{ks:List Nat}{val:D}{R':Rows}{env1:List (Nat×D)}(hi:ops[i]? =some o)
   (hs:SimS N M c0 w0 c w st a) (h1: ∀t,look env1 t=look (Q7d ks st.env) t) (hd: ∀t,o.dst=some t→t<N) (hG:GOp P G M ops o st.env st.rows ks val R') {K:Act→World→Prop} {Q:Exit→Act→World→Prop}
   (hK: ∀a' w' c',SimS N M c0 w0 c' w' ⟨Qa4 env1 o.dst val,R'⟩ a'→K a' w'):wpOp P ops Q i K a w:=by
 have fin:(∀k,memB k ks=true→M≤k)→ ∀(v:Value) (w':World) (c':Ctx),NxtK ks c w c' w'→(∀r,c'.R r=R'.getD r none)→Rep c' w' val v→K (a.put o.dst v) w':=fun hM v w' c' hn hR hv=>by
   refine hK _ _ c' ⟨hn.mem,hR,?_,?_,?_,hs.base0,hs.own0,hs.reach.step hM hs.own0 hn⟩
   · exact Qz5 hs.size hd (fun t=>by rw[h1,Qa8];exact Qer hn.grows (Z4i (hs.env t))) hv
   · cases ho:o.dst<;>simp [Act.put]<;>exact hs.size
   · cases ho:o.dst<;>simp [Act.put]<;>exact hs.defers
 have run:OpX P G M o (evOp st.env) st.rows ks val R'→o.wp P a w K Q:=fun hX=>hX.toK.2 c w a hs.mem hs.base hs.rows (fun x _=>Z2t hs.env x) K Q (fin hX.toK.1)
 have skip:ks=[]→val= .tup []→R'=st.rows→K (a.put o.dst undef) w:=fun e0 e1 e2=>by
   refine hK _ _ c ⟨hs.mem,by rw[e2];exact hs.rows,?_,?_,?_,hs.base0,hs.own0,hs.reach⟩
   · exact Qz5 hs.size hd (fun t=>by rw[h1,e0,Q0u];exact hs.env t) (by rw[e1];exact Qmk _ _)
   · cases ho:o.dst<;>simp [Act.put]<;>exact hs.size
   · cases ho:o.dst<;>simp [Act.put]<;>exact hs.defers
 unfold wpOp
 simp only[hi]
 unfold GOp at hG
 cases hg:o.guard with
 | none=>
   simp only[hg]at hG
   have hw:Region.wanted o (yielded ops a.tmps)=true:=by simp [Region.wanted,hg]
   rw[if_pos hw]
   exact .inl (run hG)
 | some jw=>
   obtain⟨j,want⟩:=jw
   simp only[hg]at hG
   obtain⟨g,h2,⟨b,h3,h4⟩|⟨h3,e0,e1,e2⟩⟩:=hG
   rotate_left
   · have hr:=hs.env g
     rw[h3]at hr
     rw[if_neg (by rw[Qgb (o:=o) hg h2 hr];simp)]
     exact skip e0 e1 e2
   have hr:=hs.env g
   rw[h3]at hr
   have hw:=Qn3 (o:=o) hg h2 hr
   by_cases e:b=want
   · rw[if_pos e]at h4
     rw[if_pos (by rw[hw];simpa using e)]
     exact .inl (run h4)
   · rw[if_neg e]at h4
     rw[if_neg (by rw[hw];simpa using e)]
     exact skip h4.1 h4.2.1 h4.2.2
theorem ops_wp{P:Program}{T:Tab}(hT:Q3f P T){G:List Q08}(hG:Q6n P G){N M:Nat}{ops:Array Oper}{c0:Ctx}{w0:World}{K:St→Prop}{Q:Exit→Act→World→Prop}(hQ: ∀st c w a,K st→SimS N M c0 w0 c w st a→Q .normal a w):
   ∀(l:List Oper) (k:Nat) (st:St) (c:Ctx) (w:World) (a:Act),ops.toList.drop k=l→Q7v T G N M ops l st K→SimS N M c0 w0 c w st a→wpOps P ops Q (List.range' k l.length) a w
 |[],k,st,c,w,a,_,h,hs=>hQ st c w a h hs
 | o ::l,k,st,c,w,a,hk,h,hs=>by
   have hlt:k<ops.toList.length:=by
     by_cases hlt:k<ops.toList.length
     · exact hlt
     · rw[List.drop_eq_nil_of_le (by omega)]at hk;cases hk
   rw[List.drop_eq_getElem_cons hlt]at hk
   have ho:ops[k]? =some o:=by
     have:=(List.cons.inj hk).1
     rw[←this]
     simp at hlt
     simp [hlt]
   obtain⟨ks,val,R',env1,h1,h2,h3,h4⟩:=Qu8 hT hG h
   simp only[List.length_cons,List.range'_succ]
   rw[wpOps_cons]
   exact gop_wp ho hs h1 h2 h3 fun a' w' c' hs'=>ops_wp hT hG hQ l (k+1) _ c' w' a' (List.cons.inj hk).2 h4 hs'
def exOf:Exit→Option Ex
 | .normal=>some .normal
 | .exit i=>some (.exit i)
 | .ret=>some .ret
 |_=>none
def Tr(P:Program)(N M:Nat)(code:Code)(st:St)(Q:Ex→St→Prop):Prop:=
 ∀ (c0:Ctx) (w0:World) (c:Ctx) (w:World) (a:Act),SimS N M c0 w0 c w st a→
   code.wp P (fun e a' w'=> ∃ex st' c',exOf e=some ex∧Q ex st'∧SimS N M c0 w0 c' w' st' a') a w
end Go.GD

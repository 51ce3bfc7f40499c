import Derived.Test.YtmalmklaonainaaGreatReplayRefusesFb
import Derived.RangeFuncRecord
import Derived.OrdersIn
import Derived.LoopNIn
set_option linter.all false
namespace Go.GD
open Go
structure Qw4(c0:Ctx)(w0:World)(c:Ctx)(w:World):Prop where
 grows:Q3s c0 w0 c w
 fr:Fr (λb=>(∃r x,c0.R r=some x/\ ¬c0.V r/\c0.ρ r=b)\/c0.X b) w0 w
 imm: ∀b,c.I b->c0.I b\/c0.X b\/w0.heap.size<=b
 rho: ∀r row,c.R r=some row-> ¬c.V r->((∃x,c0.R r=some x)/\ ¬c0.V r/\c.ρ r=c0.ρ r)\/c0.X (c.ρ r)\/w0.heap.size<=c.ρ r
 xb: ∀b,c0.X b->c0.base<=b
theorem Qw4.refl(c:Ctx)(w:World):Qw4 {c with X:=λ_=>False} w c w:=
 ⟨⟨rfl,Nat.le_refl _,λ_ h=>⟨h,rfl⟩,λ_ row h=>⟨row,h,rfl,rfl,rfl,rfl,rfl,Iff.rfl,λ_ arr h=>⟨arr,h,rfl⟩⟩⟩,Fr.refl _ w,λ_ h=> .inl h,λ_ row h v=> .inl ⟨⟨row,h⟩,v,rfl⟩,λ_ h=>h.elim⟩
theorem Zhy{c0 c:Ctx}{w0 w:World}{M:Nat}{ks:List Nat}(hM: ∀k,memB k ks=true->M<=k)(hown: ∀r row,c0.R r=some row->r<M)(h:Q3s c0 w0 c w):Q3s c0 w0 (c.kill ks) w:=by
 refine⟨h.base,h.top,h.I,λr row hr=> ?_⟩
 obtain⟨row',g1,g2,g3,g4,g5,g6,gV,g7⟩:=h.R r row hr
 obtain⟨s1,s2,s3,s4⟩:=Q4v ks row'
 have hlt:=hown r row hr
 refine⟨row'.kill ks,?_,s1.trans g2,s2.trans g3,s3.trans g4,s4.trans g5,g6,gV,g7⟩
 simp only[Ctx.kill]
 rw[if_neg (λe=>by have:=hM r e;omega),g1];rfl
theorem Qw4.step{c0 c c':Ctx}{w0 w w':World}{M:Nat}{ks:List Nat}(hM: ∀k,memB k ks=true->M<=k)(hown: ∀r row,c0.R r=some row->r<M)(h:Qw4 c0 w0 c w)(n:NxtK ks c w c' w'):Qw4 c0 w0 c' w':=by
 have killed: ∀s x,memB s ks=true->c.R s=some x-> ¬c.V s->c0.X (c.ρ s)\/w0.heap.size<=c.ρ s:=λs x hs hx v'=>by
   rcases h.rho s x hx v' with⟨⟨y,hy⟩,_⟩|e'
   . have:=hown s y hy;have:=hM s hs;omega
   . exact e'
 refine⟨(Zhy hM hown h.grows).trans n.grows,⟨n.fr.os.trans h.fr.os,n.fr.tape.trans h.fr.tape,n.fr.output.trans h.fr.output,Nat.le_trans h.fr.size n.fr.size,λb hb hx=> ?_⟩,λb hb=> ?_,λr row hr hv=> ?_,h.xb⟩
 . have hlt:b<w.heap.size:=Nat.lt_of_lt_of_le hb h.fr.size
   refine(n.fr.heap b hlt fun⟨r,x,hr,v,e⟩=> ?_).trans (h.fr.heap b hb hx)
   rcases h.rho r x hr v with⟨⟨y,hy⟩,v',e'⟩|e'|e'
   . exact hx (.inl ⟨r,y,hy,v',by rw[<-e',e]⟩)
   . exact hx (.inr (by rw[<-e];exact e'))
   . omega
 . rcases n.imm b hb with h1|⟨s,x,hs,hx,v',e⟩|h1
   . exact h.imm b h1
   . rcases killed s x hs hx v' with h1|h1
     . exact .inr (.inl (by rw[<-e];exact h1))
     . exact .inr (.inr (by omega))
   . have:=h.fr.size;exact .inr (.inr (by omega))
 . rcases n.rho r row hr hv with⟨⟨x,hx⟩,v',e⟩|⟨s,x,hs,hx,v',e⟩|e
   . rcases h.rho r x hx v' with⟨h1,h2,e'⟩|e'|e'
     . exact .inl ⟨h1,h2,e.trans e'⟩
     . exact .inr (.inl (by rw[e];exact e'))
     . exact .inr (.inr (by omega))
   . rcases killed s x hs hx v' with h1|h1
     . exact .inr (.inl (by rw[e];exact h1))
     . exact .inr (.inr (by omega))
   . have:=h.fr.size;exact .inr (.inr (by omega))
def Qdm(n:Nat)(w:World)(ds:List Deferred):Prop:= ∃bs:List Nat,bs.Nodup/\ds=bs.map (λb=>({target:= .collected b,args:= #[]}:Deferred))/\ ∀b∈bs,n<=b/\w.heap[b]? =some (.deferred (some []))
theorem Qdm.nil{n:Nat}{w:World}:Qdm n w []:=⟨[],List.nodup_nil,rfl,λb hb=>by simp at hb⟩
theorem Qdm.to{n:Nat}{w w':World}{ds:List Deferred}(h:Qdm n w ds)(hf: ∀b:Nat,w.heap[b]? =some (Obj.deferred (some []))->w'.heap[b]? =some (Obj.deferred (some []))):Qdm n w' ds:=by
 obtain⟨bs,h1,h2,h3⟩:=h
 exact⟨bs,h1,h2,λb hb=>⟨(h3 b hb).1,hf b (h3 b hb).2⟩⟩
theorem Qdm.step{n:Nat}{c:Ctx}{w w':World}{ds:List Deferred}(h:Qdm n w ds)(hm:Mem c w)(hf:Fr (λb=> ∃r x,c.R r=some x/\ ¬c.V r/\c.ρ r=b) w w'):Qdm n w' ds:=by
 refine h.to λb h2=>(hf.heap b (Array.getElem?_eq_some_iff.1 h2).1 fun⟨r,x,hr,hV,e⟩=> ?_).trans h2
 rcases hm.row r x hr with h3|⟨_,arr,h3,_⟩
 . exact hV h3.1
 . rw[e,h2]at h3;cases h3
theorem Qdm.put{n:Nat}{w:World}{a:Act}{dst:Option Tmp}{v:Value}(h:Qdm n w a.defers):Qdm n w (a.put dst v).defers:=by
 cases dst<;>exact h
structure SimS(N M:Nat)(c0:Ctx)(w0:World)(c:Ctx)(w:World)(st:St)(a:Act):Prop where
 mem:Mem c w
 rows: ∀r,c.R r=st.rows.getD r none
 env: ∀t,Rep c w (look st.env t) (a.tmps.getD t undef)
 size:N<=a.tmps.size
 defers:Qdm w0.heap.size w a.defers
 base0:c0.base<=w0.heap.size
 own0: ∀r row,c0.R r=some row->r<M
 reach:Qw4 c0 w0 c w
theorem SimS.base{N M:Nat}{c0:Ctx}{w0:World}{c:Ctx}{w:World}{st:St}{a:Act}(h:SimS N M c0 w0 c w st a):c.base<=w.heap.size:=by
 rw[h.reach.grows.base];exact Nat.le_trans h.base0 h.reach.fr.size
theorem Qv4{c:Ctx}{w:World}{env:List (Nat×D)}{a:Act}(h: ∀t,Rep c w (look env t) (a.tmps.getD t undef))(x:Operand):Rep c w (evOp env x) (a.eval x):=by
 cases x with
 |tmp t=>exact h t
 | const v=>
   simp only[evOp,Act.eval]
   cases hv:Zfy v with
   |none=>trivial
   |some d=>exact Qox hv c w
 |global g=>trivial
 |func f=>trivial
def Qgd(env:List (Nat×D))(dst:Option Tmp)(d:D):List (Nat×D):=match dst with|none=>env|some t=>(t,d)::env
theorem Qcj(env:List (Nat×D))(t:Nat)(d:D)(s:Nat):look ((t,d)::env) s=if t=s then d else look env s:=by
 simp only[look]
 cases hb:Nat.beq t s with
 |true=>rw[if_pos (bE hb)]
 |false=>rw[if_neg (λe=>by rw[e]at hb;simp at hb)]
theorem Z7c{c:Ctx}{w:World}{env:List (Nat×D)}{a:Act}{N:Nat}(hN:N<=a.tmps.size){dst:Option Tmp}(hd: ∀t,dst=some t->t<N){d:D}{v:Value}(h: ∀t,Rep c w (look env t) (a.tmps.getD t undef))(hv:Rep c w d v)(t:Nat):
   Rep c w (look (Qgd env dst d) t) ((a.put dst v).tmps.getD t undef):=by
 cases dst with
 |none=>exact h t
 | some s=>
   have hs:=hd s rfl
   simp only[Qgd,Act.put,Qcj]
   by_cases e:s=t
   . subst e
     rw[if_pos rfl]
     have hlt:s<a.tmps.size:=Nat.lt_of_lt_of_le hs hN
     simpa [Array.getD,hlt] using hv
   . rw[if_neg e]
     have:=h t
     simpa [Array.getElem?_setIfInBounds_ne e] using this
def topT:List Operand->Nat
 |[]=>1
 | .tmp t::l=>t+1+topT l
 |_::l=>topT l
theorem Zal: ∀{l:List Operand},0<topT l
 |[]=>by simp [topT]
 |x::l=>by cases x<;>simp only[topT]<;>have:=Zal (l:=l)<;>omega
theorem Z9t{t:Nat}: ∀{l:List Operand}, .tmp t∈l->t<topT l
 | x ::l,h=>by
   rcases List.mem_cons.1 h with e|e
   . subst e;simp only[topT];omega
   . have:=Z9t e
     cases x<;>simp only[topT]<;>omega
def Qz1(B:Nat):List Cap->List (Nat×D)
 |[]=>[]
 |x::l=>(B,x.d)::Qz1 (B+1) l
theorem Qji{env:List (Nat×D)}: ∀{cs:List Cap} {B t:Nat},look (Qz1 B cs++env) t=if h:B<=t/\t-B<cs.length then(cs[t-B]'h.2).d else look env t
  |[],B,t=>by simp [Qz1]
  | x ::l,B,t=>by
    simp only[Qz1,List.cons_append,Qcj,Qji (cs:=l) (B:=B+1)]
    by_cases e:B=t
    . subst e;simp
    . rw[if_neg e]
      by_cases h:B+1<=t/\t-(B+1)<l.length
      . rw[dif_pos h,dif_pos (by simp;omega)]
        have:t-B=(t-(B+1))+1:=by omega
        simp only[this,List.getElem_cons_succ]
      . rw[dif_neg h,dif_neg (by simp;omega)]
def Qmz(args:Array Operand)(n:Nat):Array Operand:=(args.toList++(List.range' (topT args.toList) n).map Operand.tmp).toArray
def Qhk(a:Act)(B:Nat)(us:List Value):Act:={tmps:=((List.range B).map (λi=>a.tmps.getD i undef)++us).toArray,defers:=[]}
theorem Zgj{a:Act}{B:Nat}{us:List Value}{t:Nat}(h:t<B):(Qhk a B us).tmps.getD t undef=a.tmps.getD t undef:=by
 simp [Qhk,Array.getD,h,List.getElem_append]
 omega
theorem Zdo{a:Act}{B:Nat}{us:List Value}{i:Nat}:(Qhk a B us).tmps.getD (B+i) undef=us.getD i undef:=by
 simp only[Qhk,Array.getD_eq_getD_getElem?,List.getElem?_toArray]
 rw[List.getElem?_append_right (by simp)]
 simp [List.getD]
theorem Q6g.length{c:Ctx}{w:World}: ∀{cs:List Cap} {us:List Value},Q6g c w cs us->us.length=cs.length
 |[],[],_=>rfl
 |_::_,_::_,h=>by simp [Q6g.length h.2]
 |[],_::_,h=>h.elim
 |_::_,[],h=>h.elim
theorem Q6g.get{c:Ctx}{w:World}: ∀{cs:List Cap} {us:List Value},Q6g c w cs us-> ∀i (h:i<cs.length),Zmg c w (cs[i]'h) (us.getD i undef)
 |[],[],_,i,h=>by simp at h
 |_::_,_::_,h,0,_=>by simpa using h.1
 |_::_,_::_,h,i+1,hi=>by simpa using Q6g.get h.2 i (by simpa using hi)
 |[],_::_,h,_,_=>h.elim
 |_::_,[],h,_,_=>h.elim
theorem Z85{env:List (Nat×D)}{args:Array Operand}{cs:List Cap}:(Qmz args cs.length).toList.map (evOp (Qz1 (topT args.toList) cs++env))=args.toList.map (evOp env)++cs.map Cap.d:=by
 simp only[Qmz,List.map_append]
 congr 1
 . refine List.map_congr_left λx hx=> ?_
   cases x with
   |tmp t=>simp only[evOp,Qji];rw[dif_neg (by have:=Z9t hx;omega)]
   |_=>rfl
 . refine List.ext_getElem (by simp) λi h1 h2=> ?_
   have:i<cs.length:=by simpa using h2
   simp only[List.getElem_map,List.getElem_range',evOp,Qji]
   rw[dif_pos (by omega)]
   congr 1
   simp
theorem Qy6{a:Act}{args:Array Operand}{us:List Value}:(Qmz args us.length).toList.map (Qhk a (topT args.toList) us).eval=args.toList.map a.eval++us:=by
 simp only[Qmz,List.map_append]
 congr 1
 . refine List.map_congr_left λx hx=> ?_
   cases x with
   |tmp t=>exact Zgj (Z9t hx)
   |_=>rfl
 . refine List.ext_getElem (by simp) λi h1 h2=> ?_
   have:i<us.length:=h2
   simp only[List.getElem_map,List.getElem_range',Act.eval,Nat.one_mul]
   rw[Zdo]
   simp [List.getD,this]
theorem cloHev{c:Ctx}{w:World}{env:List (Nat×D)}{a:Act}{args:Array Operand}{cs:List Cap}{us:List Value}(hl: ∀x∈args.toList,Rep c w (evOp env x) (a.eval x))(hc:Q6g c w cs us): ∀x∈(Qmz args cs.length).toList,Rep c w (evOp (Qz1 (topT args.toList) cs++env) x) ((Qhk a (topT args.toList) us).eval x):=by
 intro x hx
 simp only[Qmz,List.mem_append,List.mem_map]at hx
 rcases hx with hx|⟨t,ht,rfl⟩
 . have:=hl x hx
   cases x with
   | tmp t=>
     have hlt:=Z9t hx
     simp only[evOp,Qji,Act.eval]
     rw[dif_neg (by omega),Zgj hlt]
     exact this
   |_=>exact this
 . rw[List.mem_range'_1]at ht
   obtain⟨i,hi,rfl⟩: ∃i:Nat,i<cs.length/\t=topT args.toList+i:=⟨t-topT args.toList,Nat.sub_lt_left_of_lt_add ht.1 ht.2,(Nat.add_sub_cancel' ht.1).symm⟩
   have h2:=Q6g.get hc i hi
   have h3:look (Qz1 (topT args.toList) cs++env) (topT args.toList+i)=(cs[i]'hi).d:=by
     rw[Qji,dif_pos ⟨by omega,by omega⟩]
     congr 1
     simp
   simp only[evOp,Act.eval]
   rw[h3,Zdo]
   exact Rep.ofV (VRep.ofC (Z9b.1 h2))
theorem zaW{P:Program}{f:FuncId}(he: ∀args w,(callFunc f args).run P w= .ok (.enter f args) w){dst:Option Tmp}{t:Tmp}{args:Array Operand}{tys:Array TypeId}{type:TypeId}{pos:String}{after:Array Edge}{guard:Option (Nat×Bool)}{a:Act}{w:World}{us:List Value}
   (ht:a.eval (.tmp t)= .func (.func f) #[] us.toArray) {K:Act->World->Prop} {Q:Exit->Act->World->Prop}
   (h:(⟨some 0, .call ⟨.value (.func f),Qmz args us.length,tys⟩,type,pos,after,guard⟩:Oper).wpR P (Qhk a (topT args.toList) us) w (λa' w'=>K (a.put dst (a'.tmps.getD 0 undef)) w') (λ_ _ _=>False)):
   (⟨dst, .call ⟨.value (.tmp t),args,tys⟩,type,pos,after,guard⟩:Oper).wpR P a w K Q:=by
 have hv:=Qy6 (a:=a) (args:=args) (us:=us)
 have r1:(execOp (Qhk a (topT args.toList) us).eval (⟨some 0, .call ⟨.value (.func f),Qmz args us.length,tys⟩,type,pos,after,guard⟩:Oper)).run P w= .ok (.enter f (args.toList.map a.eval++us).toArray) w:=by
   simp only[execOp,resolve,Act.eval,Deferred.ofValue,Sem.run_bind,Sem.run_pure,Result.andThen_ok,invoke,Array.empty_append,Array.append_empty]
   rw[he,<-hv,<-List.map_toArray,Array.toArray_toList]
 have r2:(execOp a.eval (⟨dst, .call ⟨.value (.tmp t),args,tys⟩,type,pos,after,guard⟩:Oper)).run P w= .ok (.enter f (args.toList.map a.eval++us).toArray) w:=by
   simp only[execOp,resolve,ht,Deferred.ofValue,Sem.run_bind,Sem.run_pure,Result.andThen_ok,invoke,Array.empty_append]
   rw[he]
   congr 2
   rw[<-List.append_toArray,<-List.map_toArray,Array.toArray_toList]
 have hlt:0<(Qhk a (topT args.toList) us).tmps.size:=by have:=Zal (l:=args.toList);simp [Qhk];omega
 unfold Oper.wpR at h⊢
 rw[r1]at h
 rw[r2]
 refine Calls.mono h λe w' ⟨v,he,hp⟩=>⟨v,he,?_⟩
 have:((Qhk a (topT args.toList) us).put (some 0) v).tmps.getD 0 undef=v:=by
   simp only[Act.put]
   simp [Array.getD,hlt]
 simp only[this]at hp
 exact hp
theorem vX{P:Program}{dst:Option Tmp}{t:Tmp}{args:Array Operand}{tys:Array TypeId}{type:TypeId}{pos:String}{after:Array Edge}{guard:Option (Nat×Bool)}{a:Act}{w:World}{l:Nat}{rec:Loop}
   (ht:a.eval (.tmp t)= .func (.yield l) #[] #[]) (hl:w.heap[l]? =some (.loop rec)) {K:Act->World->Prop} {Q:Exit->Act->World->Prop} (hs:(args.toList.map a.eval).length=rec.params.size)
   (h:RoundIn Fence.wide 0 P l rec.fn ((rec.params.zip (args.toList.map a.eval).toArray).foldl (λtmps (t,a)=>tmps.setIfInBounds t a) rec.tmps) rec.assign rec.body w λe w'=> ∃v,e= .returned v/\K (a.put dst v) w'):
   (⟨dst, .call ⟨.value (.tmp t),args,tys⟩,type,pos,after,guard⟩:Oper).wpR P a w K Q:=by
 have r2:(execOp a.eval (⟨dst, .call ⟨.value (.tmp t),args,tys⟩,type,pos,after,guard⟩:Oper)).run P w= .ok (.round l rec.fn ((rec.params.zip (args.toList.map a.eval).toArray).foldl (λtmps (t,a)=>tmps.setIfInBounds t a) rec.tmps) rec.assign rec.body) w:=by
   simp only[execOp,resolve,ht,Deferred.ofValue,Sem.run_bind,Sem.run_pure,Result.andThen_ok,invoke,Array.empty_append]
   have hy:=run_yield (P:=P) (args:=(args.toList.map a.eval).toArray) hl (by simpa using hs)
   rw[<-hy,<-List.map_toArray,Array.toArray_toList]
 unfold Oper.wpR
 rw[r2]
 exact h
section
variable {P:Program} {G:List Q0d} {M:Nat} {dst:Option Tmp} {f:FuncId} {t:Tmp} {args:Array Operand} {tys:Array TypeId} {type:TypeId} {pos':String} {after:Array Edge} {guard:Option (Nat×Bool)} {env:List (Nat×D)} {cs:List Cap} {R:Rows}
theorem cloX{x:Q0d}(hok:Q05 P x)(hf:x.f=f)(hy:f<YB)(ht:look env t= .clo f cs){ks:List Nat}{val:D}{R':Rows}
   (h:OpK P ⟨some 0, .call ⟨.value (.func f),Qmz args cs.length,tys⟩,type,pos',after,guard⟩ (evOp (Qz1 (topT args.toList) cs++env)) R ks val R'):OpK P ⟨dst, .call ⟨.value (.tmp t),args,tys⟩,type,pos',after,guard⟩ (evOp env) R ks val R':=by
 intro c w a hm hb hR hev K Q hK
 have h1:=hev (.tmp t) (by simp [Op.operands,Call.operands])
 simp only[evOp,ht]at h1
 obtain⟨us,⟨_,hv⟩|⟨hge,_⟩,hc⟩:=h1
 rotate_left
 . exact absurd hy (Nat.not_lt.2 hge)
 have hl:us.length=cs.length:=hc.length
 refine zaW (λaz w=>by rw[<-hf];exact hok.enters (by rw[hf];exact hy) az w) hv ?_
 rw[hl]
 refine h c w _ hm hb hR (λy hy=> ?_) _ _ λv w' c' hn hR' hr=> ?_
 . have hargs: ∀x∈args.toList,Rep c w (evOp env x) (a.eval x):=λy hy=>hev y (by simp [Op.operands,Call.operands];exact .inr (by simpa using hy))
   simp only[Op.operands,Call.operands]at hy
   rcases Array.mem_append.1 hy with hy|hy
   . simp at hy;subst hy;trivial
   . exact cloHev hargs hc y (by simpa using hy)
 . have hlt:0<(Qhk a (topT args.toList) us).tmps.size:=by have:=Zal (l:=args.toList);simp [Qhk];omega
   have:((Qhk a (topT args.toList) us).put (some 0) v).tmps.getD 0 undef=v:=by
     simp only[Act.put]
     simp [Array.getD,hlt]
   show K (a.put dst (((Qhk a (topT args.toList) us).put (some 0) v).tmps.getD 0 undef)) w'
   rw[this]
   exact hK v w' c' hn hR' hr
theorem Zoj{K:D->Rows->Prop}(hG:Q7j P G)(hgo:Qc9 G f=none)(ht:look env t= .clo f cs)(h:Z94 G f (args.toList.map (evOp env)++cs.map Cap.d) R K): ∃val R',K val R'/\OpK P ⟨dst, .call ⟨.value (.tmp t),args,tys⟩,type,pos',after,guard⟩ (evOp env) R [] val R':=by
 rw[<-Z85]at h
 obtain⟨val,R',x,h1,h2,h3,_⟩:=Z3f (dst:=some 0) (tys:=tys) (type:=type) (pos':=pos') (after:=after) (guard:=guard) hG hgo h
 obtain⟨hok,hf⟩:=Qkr hG h2
 have hgn:x.gone=none:=by simpa [Qc9,h2] using hgo
 exact⟨val,R',h1,cloX hok hf (by rw[<-hf];exact hok.real hgn) ht h3.toK⟩
theorem xy{k:Nat}{K:List Nat->D->Rows->Prop}(hG:Q7j P G)(h1':(Nat.blt f YB||Nat.beq args.size 1)=true)(hgo:Qc9 G f=some k)(ht:look env t= .clo f cs)(h:Zhi G M f k (args.toList.map (evOp env)++cs.map Cap.d) R K): ∃ks val R',K ks val R'/\(∀j,memB j ks=true->M<=j)/\OpK P ⟨dst, .call ⟨.value (.tmp t),args,tys⟩,type,pos',after,guard⟩ (evOp env) R ks val R':=by
 rw[<-Z85]at h
 by_cases hy:f<YB
 . obtain⟨ks,val,R',x,h1,h2,h3,h4,h5⟩:=Zkq hG hy (dst:=some 0) (tys:=tys) (type:=type) (pos':=pos') (after:=after) (guard:=guard) hgo h
   obtain⟨hok,hf⟩:=Qkr hG h2
   exact⟨ks,val,R',h1,h4,cloX hok hf hy ht h5⟩
 . obtain⟨ks,val,R',x,h1,h2,h3,h4,h5⟩:=Z2m hG hgo h
   refine⟨ks,val,R',h1,h4,λc w a hm hb hR hev K' Q hK'=> ?_⟩
   have h1:=hev (.tmp t) (by simp [Op.operands,Call.operands])
   simp only[evOp,ht]at h1
   obtain⟨us,⟨hlt,_⟩|⟨hge,l,rec,hv,hI,hl,hrec⟩,hc⟩:=h1
   . exact absurd hlt hy
   have hargs: ∀x∈args.toList,Rep c w (evOp env x) (a.eval x):=λy hy=>hev y (by simp [Op.operands,Call.operands];exact .inr (by simpa using hy))
   have hlen:us.length=cs.length:=hc.length
   have hone:(args.toList.map a.eval).length=1:=by
     rcases Bool.or_eq_true_iff.1 h1' with e|e
     . exact absurd (lE e) hy
     . simpa using bE e
   have hsz:(args.toList.map a.eval).length=rec.params.size:=by
     obtain⟨_,_,y,_,hp,_,_,_,h1,_⟩:=hrec
     rw[hp,h1];exact hone
   exact vX hv hl hsz ((h5 c w (Qhk a (topT args.toList) us).eval hm hb hR (λy hy=>cloHev hargs hc y hy) (λv w'=>K' (a.put dst v) w') λv w' c'=>hK' v w' c').2 (Nat.le_of_not_lt hy) l rec (args.toList.map a.eval) us (by rw[<-hlen,Qy6]) hI hl hrec hone)
end
def OpX(P:Program)(G:List Q0d)(M:Nat)(o:Oper)(ev:Operand->D)(R:Rows)(ks:List Nat)(val:D)(R':Rows):Prop:=
 if isW G o.op=true then(∀k,memB k ks=true->M<=k)/\OpK P o ev R ks val R' else ks=[]/\OpN P o ev R val R'
theorem OpX.toK{P:Program}{G:List Q0d}{M:Nat}{o:Oper}{ev:Operand->D}{R:Rows}{ks:List Nat}{val:D}{R':Rows}(h:OpX P G M o ev R ks val R'):(∀k,memB k ks=true->M<=k)/\OpK P o ev R ks val R':=by
 unfold OpX at h
 split at h
 . exact h
 . obtain⟨rfl,h⟩:=h
   exact⟨λk hk=>by simp [memB]at hk,h.toW.toK⟩
theorem Z4e{P:Program}{G:List Q0d}{M:Nat}{o:Oper}{ev:Operand->D}{R:Rows}{val:D}{R':Rows}(hw:isW G o.op=false)(h:OpN P o ev R val R'):OpX P G M o ev R [] val R':=by
 unfold OpX;rw[hw];exact⟨rfl,h⟩
theorem Z2l{P:Program}{G:List Q0d}{M:Nat}{o:Oper}{ev:Operand->D}{R:Rows}{ks:List Nat}{val:D}{R':Rows}(hw:isW G o.op=true)(hk: ∀k,memB k ks=true->M<=k)(h:OpK P o ev R ks val R'):OpX P G M o ev R ks val R':=by
 unfold OpX;rw[if_pos hw];exact⟨hk,h⟩
def GOp(P:Program)(G:List Q0d)(M:Nat)(ops:Array Oper)(o:Oper)(env:List (Nat×D))(R:Rows)(ks:List Nat)(val:D)(R':Rows):Prop:=
 match o.guard with
 |none=>OpX P G M o (evOp env) R ks val R'
 |some (j,want)=> ∃g,(ops[j]?).bind (·.dst)=some g/\((∃b,look env g= .bool b/\(if b=want then OpX P G M o (evOp env) R ks val R' else ks=[]/\val= .tup []/\R'=R))\/(look env g= .tup []/\ks=[]/\val= .tup []/\R'=R))
theorem Q7b{N:Nat}{st:St}{dst:Option Tmp}{d:D}{R:Rows}{K:St->Prop}(h:st.put N dst d R K):(∀t,dst=some t->t<N)/\K ⟨Qgd st.env dst d,R⟩:=by
 cases dst with
 |none=>exact⟨λt h=>(by cases h),h⟩
 | some t=>
   simp only[St.put,Q08]at h
   refine⟨λs hs=> ?_,h.2⟩
   cases hs
   exact lE h.1
theorem zy(d:D):d.kill []=d:=by
 cases d with
 |agg cs=>show D.agg (D.kills [] cs)=_;rw[Z3e]
 |clo f cs=>exact Z3h (.clo f cs)
 |_=>rfl
theorem Zfo: ∀{ds:List D},D.killT [] ds=ds
 |[]=>rfl
 |d::l=>by simp [D.killT,zy,Zfo (ds:=l)]
theorem yy(d:D):d.killV []=d:=by
 cases d with
 |tup ds=>show D.tup (D.killT [] ds)=_;rw[Zfo]
 |agg cs=>exact zy (.agg cs)
 |clo f cs=>exact Z3h (.clo f cs)
 |_=>rfl
theorem Q1e{env:List (Nat×D)}{t:Nat}:look (Qa7 [] env) t=look env t:=by rw[Qa5,yy]
theorem Zkv{P:Program}{T:Tab}(hT:Q52 P T){G:List Q0d}(hG:Q7j P G){N M:Nat}{o:Oper}{st:St}{K:St->Prop}(h:doVC T G N M o st K):
    ∃ks val R' env1,(∀t,look env1 t=look (Qa7 ks st.env) t)/\(∀t,o.dst=some t->t<N)/\K ⟨Qgd env1 o.dst val,R'⟩/\OpX P G M o (evOp st.env) st.rows ks val R':=by
  have plain:(isW G o.op=Qpj o.op)->(opVC T o.op (evOp st.env) st.rows λd R=>st.put N o.dst d R K)-> ∃ks val R' env1,(∀t,look env1 t=look (Qa7 ks st.env) t)/\(∀t,o.dst=some t->t<N)/\K ⟨Qgd env1 o.dst val,R'⟩/\OpX P G M o (evOp st.env) st.rows ks val R':=by
    intro hw h
    obtain⟨val,R',hK,hO⟩:=Z16 hT o _ _ _ h
    obtain⟨h1,h2⟩:=Q7b hK
    refine⟨[],_,_,st.env,λt=>Q1e.symm,h1,h2,?_⟩
    split at hO
    . rename_i hs
      exact Z2l (hw.trans hs) (λk hk=>by simp [memB]at hk) hO.toK
    . rename_i hs
      exact Z4e (by rw[hw];simpa using hs) hO
  unfold doVC at h
  split at h
  . rename_i cc x y ho
    split at h
    . rename_i b hb
      have hw:isW G o.op=false:=by rw[ho];rfl
      have go: ∀z,z∈o.op.operands->(∀c w (a:Act),Rep c w (evOp st.env cc) (a.eval cc)->(execOp a.eval o).run P w= .ok (.value (a.eval z)) w)->(evOp st.env z).force (λd=>st.put N o.dst d st.rows K)->
          ∃ks val R' env1,(∀t,look env1 t=look (Qa7 ks st.env) t)/\(∀t,o.dst=some t->t<N)/\K ⟨Qgd env1 o.dst val,R'⟩/\OpX P G M o (evOp st.env) st.rows ks val R':=by
        intro z hz hrun h
        rw[D.force_iff]at h
        obtain⟨h1,h2⟩:=Q7b h
        exact⟨[],_,_,st.env,λt=>Q1e.symm,h1,h2,Z4e hw (Q1l λc w a hm hA hev=>⟨_,hrun c w a (hev cc (by rw[ho];simp [Op.operands])),hev z hz⟩)⟩
      cases b with
      | true=>
        refine go x (by rw[ho];simp [Op.operands]) (λc w a hc=> ?_) h
        rw[hb]at hc
        simp only[execOp,ho,Rep.bool.1 hc,asBool,Sem.run_bind,Sem.run_pure,Result.andThen_ok,if_true]
      | false=>
        refine go y (by rw[ho];simp [Op.operands]) (λc w a hc=> ?_) h
        rw[hb]at hc
        simp only[execOp,ho,Rep.bool.1 hc,asBool,Sem.run_bind,Sem.run_pure,Result.andThen_ok,Bool.false_eq_true,if_false]
    . exact h.elim
  . rename_i f args tys ho
    obtain⟨dst,op,type,pos,after,guard⟩:=o
    simp only at ho
    subst ho
    split at h
    . rename_i hgo
      split at h
      rotate_left
      . rename_i hfz
        obtain⟨ks,val,R',x,hK,hx,hM,hO⟩:=zT (dst:=dst) (type:=type) (pos':=pos) (after:=after) (guard:=guard) (tys:=tys) hG hgo h
        rw[Qiv]at hK
        obtain⟨h1,h2⟩:=Q7b hK
        refine⟨ks,_,_,_,λt=>rfl,h1,h2,Z2l ?_ hM hO⟩
        have hfz:x.frz=true:=by simpa [Z04,hx] using hfz
        cases hr':x.refs with
        |nil=>simp only[isW,hx,hr',hfz]
        |cons b bs=>simp only[isW,hx,hr']
      rename_i hfz
      have hfz': ∀x,Ql4 G f=some x->x.frz=false:=λx hx=>by simpa [Z04,hx] using hfz
      obtain⟨val,R',x,hK,hx,hO,hN⟩:=Z3f (dst:=dst) (type:=type) (pos':=pos) (after:=after) (guard:=guard) (tys:=tys) hG hgo h
      obtain⟨h1,h2⟩:=Q7b hK
      refine⟨[],_,_,st.env,λt=>Q1e.symm,h1,h2,?_⟩
      cases hr:x.refs with
      |nil=>exact Z4e (by simp only[isW,hx,hr,hfz' x hx]) (hN hr)
      |cons b bs=>exact Z2l (by simp only[isW,hx,hr]) (λk hk=>by simp [memB]at hk) hO.toK
    . rename_i k hgo
      obtain⟨hy,h⟩:=Q08.1 h
      obtain⟨ks,val,R',x,hK,hx,hr,hM,hO⟩:=Zkq hG (lE hy) (dst:=dst) (type:=type) (pos':=pos) (after:=after) (guard:=guard) (tys:=tys) hgo h
      rw[Qiv]at hK
      obtain⟨h1,h2⟩:=Q7b hK
      refine⟨ks,_,_,_,λt=>rfl,h1,h2,Z2l ?_ hM hO⟩
      cases hr':x.refs with
      |nil=>exact(hr hr').elim
      |cons b bs=>simp only[isW,hx,hr']
  . rename_i t args tys ho
    obtain⟨dst,op,type,pos,after,guard⟩:=o
    simp only at ho
    subst ho
    split at h
    . rename_i f cs ht
      split at h
      . rename_i hgo
        split at h
        . obtain⟨val,R',hK,hO⟩:=Zoj (dst:=dst) (type:=type) (pos':=pos) (after:=after) (guard:=guard) (tys:=tys) hG hgo ht h
          obtain⟨h1,h2⟩:=Q7b hK
          exact⟨[],_,_,st.env,λt=>Q1e.symm,h1,h2,Z2l rfl (λk hk=>by simp [memB]at hk) hO⟩
        . exact h.elim
      . rename_i k hgo
        obtain⟨h1',h⟩:=Q08.1 h
        obtain⟨ks,val,R',hK,hM,hO⟩:=xy (dst:=dst) (type:=type) (pos':=pos) (after:=after) (guard:=guard) (tys:=tys) hG h1' hgo ht h
        rw[Qiv]at hK
        obtain⟨h1,h2⟩:=Q7b hK
        exact⟨ks,_,_,_,λt=>rfl,h1,h2,Z2l rfl hM hO⟩
    . exact h.elim
  . rename_i args tys ho
    obtain⟨dst,op,type,pos,after,guard⟩:=o
    simp only at ho
    subst ho
    split at h
    . rename_i x y t tx hx ht
      have hargs:args= #[x,y]:=by rw[<-Array.toArray_toList (xs:=args),hx]
      have htys:tys= #[t,tx]:=by rw[<-Array.toArray_toList (xs:=tys),ht]
      subst hargs;subst htys
      obtain⟨ks,R',hK,hM,hr⟩:=Zl (ty:=type) hT h
      rw[Qiv]at hK
      obtain⟨h1,h2⟩:=Q7b hK
      refine⟨ks,_,_,_,λt=>rfl,h1,h2,Z2l rfl hM λc w a hm hb hR hev K' Q hK'=> ?_⟩
      obtain⟨v',w',c',hrun,hn,hR',hv⟩:=hr c w _ _ hm hb hR (hev x (by simp [Op.operands,Call.operands])) (hev y (by simp [Op.operands,Call.operands]))
      refine Qkb ?_ (hK' v' w' c' hn hR' hv)
      simp only[execOp,resolve,Sem.run_bind,Sem.run_pure,Result.andThen_ok,invoke,builtin]
      have:(#[x,y]:Array Operand).map a.eval= #[a.eval x,a.eval y]:=by simp
      rw[this,hrun];rfl
    . exact h.elim
  . rename_i args tys ho
    obtain⟨dst,op,type,pos,after,guard⟩:=o
    simp only at ho
    subst ho
    split at h
    . rename_i x y t tx hx ht
      have hargs:args= #[x,y]:=by rw[<-Array.toArray_toList (xs:=args),hx]
      have htys:tys= #[t,tx]:=by rw[<-Array.toArray_toList (xs:=tys),ht]
      subst hargs;subst htys
      obtain⟨val,R',hK,hr⟩:=za (ty:=type) hT h
      obtain⟨h1,h2⟩:=Q7b hK
      refine⟨[],_,_,st.env,λt=>Q1e.symm,h1,h2,Z2l rfl (λk hk=>by simp [memB]at hk) (OpW.toK λc w a hm hb hR hev K' Q hK'=> ?_)⟩
      obtain⟨v',w',c',hrun,hn,hR',hv⟩:=hr c w _ _ hm hR (hev x (by simp [Op.operands,Call.operands])) (hev y (by simp [Op.operands,Call.operands]))
      refine Qkb ?_ (hK' v' w' c' hn hR' hv)
      simp only[execOp,resolve,Sem.run_bind,Sem.run_pure,Result.andThen_ok,invoke,builtin]
      have:(#[x,y]:Array Operand).map a.eval= #[a.eval x,a.eval y]:=by simp
      rw[this,hrun];rfl
    . exact h.elim
  . rename_i args tys ho
    split at h
    . rename_i x y hx
      obtain⟨val,hK,hr⟩:=Zla h
      obtain⟨h1,h2⟩:=Q7b hK
      refine⟨[],_,_,st.env,λt=>Q1e.symm,h1,h2,Z4e (by rw[ho];rfl) (Q1l λc w a hm hA hev=> ?_)⟩
      have hargs:args= #[x,y]:=by rw[<-Array.toArray_toList (xs:=args),hx]
      subst hargs
      obtain⟨u,hu,hv⟩:=hr P c w _ _ (hev x (by rw[ho];simp [Op.operands,Call.operands])) (hev y (by rw[ho];simp [Op.operands,Call.operands]))
      refine⟨u,?_,hv⟩
      simp only[execOp,ho,resolve,Sem.run_bind,Sem.run_pure,Result.andThen_ok,invoke,builtin]
      have:(#[x,y]:Array Operand).map a.eval= #[a.eval x,a.eval y]:=by simp
      rw[this]
      have hu:=hu.1 rfl tys o.type
      rw[hu];rfl
    . exact h.elim
  . rename_i args tys ho
    split at h
    . rename_i x y hx
      obtain⟨val,hK,hr⟩:=Zla h
      obtain⟨h1,h2⟩:=Q7b hK
      refine⟨[],_,_,st.env,λt=>Q1e.symm,h1,h2,Z4e (by rw[ho];rfl) (Q1l λc w a hm hA hev=> ?_)⟩
      have hargs:args= #[x,y]:=by rw[<-Array.toArray_toList (xs:=args),hx]
      subst hargs
      obtain⟨u,hu,hv⟩:=hr P c w _ _ (hev x (by rw[ho];simp [Op.operands,Call.operands])) (hev y (by rw[ho];simp [Op.operands,Call.operands]))
      refine⟨u,?_,hv⟩
      simp only[execOp,ho,resolve,Sem.run_bind,Sem.run_pure,Result.andThen_ok,invoke,builtin]
      have:(#[x,y]:Array Operand).map a.eval= #[a.eval x,a.eval y]:=by simp
      rw[this]
      have hu:=hu.2 rfl tys o.type
      rw[hu];rfl
    . exact h.elim
  . rename_i s d x ho
    split at h
    . rename_i e _ _ _ _ _ _ hs
      obtain⟨val,hK,hr⟩:=vG hT hs h
      obtain⟨h1,h2⟩:=Q7b hK
      refine⟨[],_,_,st.env,λt=>Q1e.symm,h1,h2,Z4e (by rw[ho];rfl) (Q1l λc w a hm hA hev=> ?_)⟩
      obtain⟨u,hu,hv⟩:=hr c w _ hm hA (hev x (by rw[ho];simp [Op.operands]))
      refine⟨u,?_,hv⟩
      simp only[execOp,ho]
      rw[Sem.run_bind,hu];rfl
    . rw[<-ho]at h
      exact plain (by rw[ho];rfl) h
  . rename_i op t x y ty ho
    split at h
    . rename_i s es fr hx hy
      obtain⟨hK,hr⟩:=yG hT h
      obtain⟨h1,h2⟩:=Q7b hK
      refine⟨[],_,_,st.env,λt=>Q1e.symm,h1,h2,Z4e (by rw[ho];rfl) (Q1l λc w a hm hA hev=> ?_)⟩
      have q1:=hev x (by rw[ho];simp [Op.operands])
      have q2:=hev y (by rw[ho];simp [Op.operands])
      rw[hx]at q1;rw[hy]at q2
      obtain⟨u,hu,hv⟩:=hr s fr c w _ _ q1 q2
      refine⟨u,?_,hv⟩
      simp only[execOp,ho]
      rw[Sem.run_bind,hu x y];rfl
    . rw[<-ho]at h
      exact plain (by rw[ho];rfl) h
  . rename_i op n1 n2 n9 n3 n4 n5 n6 n7 n8
    refine plain ?_ h
    unfold isW
    split
    . rename_i hop;rw[hop];rfl
    . rename_i hop;exact(n2 _ _ _ hop).elim
    . rename_i hop;exact(n9 _ _ _ hop).elim
    . rename_i hop;exact(n3 _ _ hop).elim
    . rename_i hop;exact(n4 _ _ hop).elim
    . rename_i m1 m2 m5 m3 m4
      cases hop:o.op<;>first|rfl|exact(m1 _ _ _ hop).elim
theorem Qv3{st:St}{g:Nat}{b:Bool}(h:look st.env g= .bool b)(t:Nat):look (st.know (.tmp g) b).env t=look st.env t:=by
 simp only[St.know,Qcj]
 split
 . rename_i e;subst e;exact h.symm
 . rfl
theorem Zms{env env':List (Nat×D)}(h: ∀t,look env' t=look env t):evOp env'=evOp env:=by
 funext x;cases x<;>first|exact h _|rfl
theorem Z41{P:Program}{T:Tab}(hT:Q52 P T){G:List Q0d}(hG:Q7j P G){N M:Nat}{ops:Array Oper}{o:Oper}{l:List Oper}{st:St}{K:St->Prop}(h:Qdo T G N M ops (o::l) st K):
    ∃ks val R' env1,(∀t,look env1 t=look (Qa7 ks st.env) t)/\(∀t,o.dst=some t->t<N)/\GOp P G M ops o st.env st.rows ks val R'/\Qdo T G N M ops l ⟨Qgd env1 o.dst val,R'⟩ K:=by
  simp only[Qdo]at h
  split at h
  . rename_i hg
    obtain⟨ks,val,R',env1,h0,h1,h2,h3⟩:=Zkv hT hG h
    exact⟨ks,val,R',env1,h0,h1,by unfold GOp;rw[hg];exact h3,h2⟩
  . rename_i j want hg
    split at h
    . rename_i g hd
      split at h
      . rename_i b hb
        have yes: ∀b',b'=b->doVC T G N M o (st.know (.tmp g) b') (λst=>Qdo T G N M ops l st K)->b=want-> ∃ks val R' env1,(∀t,look env1 t=look (Qa7 ks st.env) t)/\(∀t,o.dst=some t->t<N)/\GOp P G M ops o st.env st.rows ks val R'/\Qdo T G N M ops l ⟨Qgd env1 o.dst val,R'⟩ K:=by
          intro b' e hh hw
          subst e
          obtain⟨ks,val,R',env1,h0,h1,h2,h3⟩:=Zkv hT hG hh
          rw[Zms (Qv3 hb)]at h3
          refine⟨ks,val,R',env1,λt=>by rw[h0,Qa5,Qa5,Qv3 hb],h1,?_,h2⟩
          unfold GOp;rw[hg]
          exact⟨g,hd, .inl ⟨_,hb,by rw[if_pos hw];exact h3⟩⟩
        have no: ∀b',b'=b->(st.know (.tmp g) b').put N o.dst (.tup []) st.rows (λst=>Qdo T G N M ops l st K)->b≠want-> ∃ks val R' env1,(∀t,look env1 t=look (Qa7 ks st.env) t)/\(∀t,o.dst=some t->t<N)/\GOp P G M ops o st.env st.rows ks val R'/\Qdo T G N M ops l ⟨Qgd env1 o.dst val,R'⟩ K:=by
          intro b' e hh hw
          subst e
          obtain⟨h1,h2⟩:=Q7b hh
          refine⟨[],_,_,_,λt=>by rw[Q1e,Qv3 hb],h1,?_,h2⟩
          unfold GOp;rw[hg]
          exact⟨g,hd, .inl ⟨_,hb,by rw[if_neg hw];exact⟨rfl,rfl,rfl⟩⟩⟩
        cases b<;>cases want<;>simp only[Z65]at h
        . exact yes _ rfl h rfl
        . exact no _ rfl h (by simp)
        . exact no _ rfl h (by simp)
        . exact yes _ rfl h rfl
      . rename_i hb
        obtain⟨h1,h2⟩:=Q7b h
        refine⟨[],_,_,st.env,λt=>Q1e.symm,h1,?_,h2⟩
        unfold GOp;rw[hg]
        exact⟨g,hd, .inr ⟨hb,rfl,rfl,rfl⟩⟩
      . exact h.elim
    . exact h.elim
theorem Qnd{ops:Array Oper}{o:Oper}{c:Ctx}{w:World}{a:Act}{j g:Nat}{want:Bool}(hg:o.guard=some (j,want))(hd:(ops[j]?).bind (·.dst)=some g)(h:Rep c w (.tup []) (a.tmps.getD g undef)):
   Region.wanted o (yielded ops a.tmps)=false:=by
 obtain⟨vs,hv,hvs⟩:=h
 have hy:yielded ops a.tmps j=none:=by
   simp only[yielded,hd,Option.bind_some]
   cases hx:a.tmps[g]? with
   |none=>rfl
   | some v=>
     have:a.tmps.getD g undef=v:=by simp [hx]
     rw[this]at hv
     rw[hv]
 unfold Region.wanted
 rw[hg]
 simp only[hy]
 rfl
theorem Qtx(c:Ctx)(w:World):Rep c w (.tup []) undef:=⟨[],rfl,trivial⟩
theorem Qua{ops:Array Oper}{o:Oper}{c:Ctx}{w:World}{a:Act}{j g:Nat}{want b:Bool}(hg:o.guard=some (j,want))(hd:(ops[j]?).bind (·.dst)=some g)(h:Rep c w (.bool b) (a.tmps.getD g undef)):
   Region.wanted o (yielded ops a.tmps)=decide (b=want):=by
 have hv:=Rep.bool.1 h
 have ht:a.tmps[g]? =some (.bool b):=by
   cases hx:a.tmps[g]? with
   |none=>simp [hx,undef]at hv
   |some v=>simp [hx]at hv;rw[hv]
 unfold Region.wanted
 simp only[hg,yielded,hd,Option.bind_some,ht]
 cases b<;>cases want<;>rfl
def wpOp(P:Program)(ops:Array Oper)(Q:Exit->Act->World->Prop)(i:Nat)(K:Act->World->Prop)(a:Act)(w:World):Prop:=
 match ops[i]? with
 |none=>K a w
 |some o=>if Region.wanted o (yielded ops a.tmps) then o.wpR P a w K Q else K (a.put o.dst undef) w
def Zmk(P:Program)(ops:Array Oper)(Q:Exit->Act->World->Prop):List Nat->Act->World->Prop
 |[],a,w=>Q .normal a w
 |i::rest,a,w=>wpOp P ops Q i (Zmk P ops Q rest) a w
theorem Z8k{P:Program}{ops:Array Oper}{Q:Exit->Act->World->Prop}(i:Nat)(rest:List Nat)(a:Act)(w:World):Zmk P ops Q (i::rest) a w=wpOp P ops Q i (Zmk P ops Q rest) a w:=rfl
def Zht(P:Program)(md:Region.Mode)(ops:Array Oper)(Q:Exit->Act->World->Prop):Nat->Array Bool->Act->World->Prop
 |0,listed,a,w=>Region.ready md ops listed=[]/\Q .normal a w
 | fuel+1,listed,a,w=>
   (Region.ready md ops listed=[]->Q .normal a w)/\
   ∀i∈Region.ready md ops listed,wpOp P ops Q i (Zht P md ops Q fuel (listed.setIfInBounds i true)) a w
abbrev Fro(ro:Option Nat):Fence:={Fence.wide with round:=ro}
theorem qaf{P:Program}{ro:Option Nat}{o:Oper}{a:Act}{w:World}{K:Act->World->Prop}{Q Q':Exit->Act->World->Prop}(h:o.wpR P a w K Q):o.wpIn (Fro ro) 0 P a w K Q':=by
 refine⟨λ_ _=>trivial,?_⟩
 have hd: ∀c,o.op≠ .defer c:=by
   intro c hc
   unfold Oper.wpR at h
   simp only[execOp,hc,Sem.run_bind]at h
   revert h
   cases(resolve a.eval c o.type).run P w with
   |halt _ _=>exact λh=>h
   |ok d w'=>exact λh=>h
 rw[Oper.semAt_eq _ _ _ hd]
 unfold Oper.wpR at h
 revert h
 generalize(execOp a.eval o).run P w=r
 intro h
 cases r with
 |halt _ _=>exact h.elim
 | ok n w'=>
   cases n with
   |value v=>exact h
   |skip=>exact h
   | enter f args=>
     refine⟨λe=>(by cases e),?_⟩
     refine CallsIn.mono (F:=Fence.wide) (callsIn_wide.2 h) λe w' ⟨v,he,hk⟩=> ?_
     subst he;exact hk
   | round l f tmps assign body=>
     refine⟨λe=>(by cases e),?_⟩
     refine RoundIn.mono (F:=Fence.wide) h λe w' ⟨v,he,hk⟩=> ?_
     subst he;exact hk
   |_=>exact h.elim
theorem Z0g{P:Program}{ro:Option Nat}{ops:Array Oper}{Q:Exit->Act->World->Prop}: ∀{l:List Nat} {a:Act} {w:World},Zmk P ops Q l a w->wpOpsIn (Fro ro) 0 P ops Q l a w
 |[],_,_,h=>h
 | i ::l,a,w,h=>by
   rw[Z8k]at h
   unfold wpOp at h
   unfold wpOpsIn
   split
   . rename_i ho;simp only[ho]at h;exact Z0g h
   . rename_i o ho
     simp only[ho]at h
     split
     . rename_i hw;rw[if_pos hw]at h;exact qaf (Q:=Q) (Za7 (Q':=Q) (λa w h=>Z0g h) h)
     . rename_i hw;rw[if_neg hw]at h;exact⟨λ_ _=>trivial,Z0g h⟩
theorem Z0v{P:Program}{ro:Option Nat}{md:Region.Mode}{ops:Array Oper}{Q:Exit->Act->World->Prop}: ∀{n:Nat} {listed:Array Bool} {a:Act} {w:World},Zht P md ops Q n listed a w->wpAnyIn (Fro ro) 0 P md ops Q n listed a w
 |0,_,_,_,h=>h
 | n +1,listed,a,w,h=>by
   refine⟨h.1,λi hi=> ?_⟩
   have h:=h.2 i hi
   unfold wpOp at h
   unfold wpOpIn
   split
   . rename_i ho;simp only[ho]at h;exact Z0v h
   . rename_i o ho
     simp only[ho]at h
     split
     . rename_i hw;rw[if_pos hw]at h;exact qaf (Q:=Q) (Za7 (Q':=Q) (λa w h=>Z0v h) h)
     . rename_i hw;rw[if_neg hw]at h;exact⟨λ_ _=>trivial,Z0v h⟩
theorem Zd6{P:Program}{ro:Option Nat}{id:Nat}{ops:Array Oper}{Q:Exit->Act->World->Prop}{a:Act}{w:World}(h:Zmk P ops Q (List.range ops.size) a w):(Code.region id ops false).wpIn (Fro ro) 0 P Q a w:=wpIn_region (Z0g h)
theorem Qti{P:Program}{ro:Option Nat}{ops:Array Oper}{Q:Exit->Act->World->Prop}{id:Nat}{a:Act}{w:World}(hm:P.follows .mixedOrders=true)
   (h:Zht P .any ops Q ops.size (Array.replicate ops.size false) a {w with drawn:=w.drawn+1}):(Code.region id ops true).wpIn (Fro ro) 0 P Q a w:=wpIn_region_any hm (Z0v h)
theorem zaf{P:Program}{G:List Q0d}{ops:Array Oper}{N M:Nat}{c0:Ctx}{w0:World}{c:Ctx}{w:World}{st:St}{a:Act}{i:Nat}{o:Oper}{ks:List Nat}{val:D}{R':Rows}{env1:List (Nat×D)}(hi:ops[i]? =some o)
   (hs:SimS N M c0 w0 c w st a) (h1: ∀t,look env1 t=look (Qa7 ks st.env) t) (hd: ∀t,o.dst=some t->t<N) (hG:GOp P G M ops o st.env st.rows ks val R') {K:Act->World->Prop} {Q:Exit->Act->World->Prop}
   (hK: ∀a' w' c',SimS N M c0 w0 c' w' ⟨Qgd env1 o.dst val,R'⟩ a'->K a' w'):wpOp P ops Q i K a w:=by
 have fin:(∀k,memB k ks=true->M<=k)-> ∀(v:Value) (w':World) (c':Ctx),NxtK ks c w c' w'->(∀r,c'.R r=R'.getD r none)->Rep c' w' val v->K (a.put o.dst v) w':=λhM v w' c' hn hR hv=>by
   refine hK _ _ c' ⟨hn.mem,hR,?_,?_,?_,hs.base0,hs.own0,hs.reach.step hM hs.own0 hn⟩
   . exact Z7c hs.size hd (λt=>by rw[h1,Qa5];exact Qb4 hn.grows (Z2k (hs.env t))) hv
   . cases ho:o.dst<;>simp [Act.put]<;>exact hs.size
   . exact Qdm.put (hs.defers.step hs.mem hn.fr)
 have run:OpX P G M o (evOp st.env) st.rows ks val R'->o.wpR P a w K Q:=λhX=>hX.toK.2 c w a hs.mem hs.base hs.rows (λx _=>Qv4 hs.env x) K Q (fin hX.toK.1)
 have skip:ks=[]->val= .tup []->R'=st.rows->K (a.put o.dst undef) w:=λe0 e1 e2=>by
   refine hK _ _ c ⟨hs.mem,by rw[e2];exact hs.rows,?_,?_,?_,hs.base0,hs.own0,hs.reach⟩
   . exact Z7c hs.size hd (λt=>by rw[h1,e0,Q1e];exact hs.env t) (by rw[e1];exact Qtx _ _)
   . cases ho:o.dst<;>simp [Act.put]<;>exact hs.size
   . exact Qdm.put hs.defers
 unfold wpOp
 simp only[hi]
 unfold GOp at hG
 cases hg:o.guard with
 | none=>
   simp only[hg]at hG
   have hw:Region.wanted o (yielded ops a.tmps)=true:=by simp [Region.wanted,hg]
   rw[if_pos hw]
   exact run hG
 | some jw=>
   obtain⟨j,want⟩:=jw
   simp only[hg]at hG
   obtain⟨g,h2,⟨b,h3,h4⟩|⟨h3,e0,e1,e2⟩⟩:=hG
   rotate_left
   . have hr:=hs.env g
     rw[h3]at hr
     rw[if_neg (by rw[Qnd (o:=o) hg h2 hr];simp)]
     exact skip e0 e1 e2
   have hr:=hs.env g
   rw[h3]at hr
   have hw:=Qua (o:=o) hg h2 hr
   by_cases e:b=want
   . rw[if_pos e]at h4
     rw[if_pos (by rw[hw];simpa using e)]
     exact run h4
   . rw[if_neg e]at h4
     rw[if_neg (by rw[hw];simpa using e)]
     exact skip h4.1 h4.2.1 h4.2.2
theorem xaf{P:Program}{T:Tab}(hT:Q52 P T){G:List Q0d}(hG:Q7j P G){N M:Nat}{ops:Array Oper}{c0:Ctx}{w0:World}{K:St->Prop}{Q:Exit->Act->World->Prop}(hQ: ∀st c w a,K st->SimS N M c0 w0 c w st a->Q .normal a w):
   ∀(l:List Oper) (k:Nat) (st:St) (c:Ctx) (w:World) (a:Act),ops.toList.drop k=l->Qdo T G N M ops l st K->SimS N M c0 w0 c w st a->Zmk P ops Q (List.range' k l.length) a w
 |[],k,st,c,w,a,_,h,hs=>hQ st c w a h hs
 | o ::l,k,st,c,w,a,hk,h,hs=>by
   have hlt:k<ops.toList.length:=by
     by_cases hlt:k<ops.toList.length
     . exact hlt
     . rw[List.drop_eq_nil_of_le (by omega)]at hk;cases hk
   rw[List.drop_eq_getElem_cons hlt]at hk
   have ho:ops[k]? =some o:=by
     have:=(List.cons.inj hk).1
     rw[<-this]
     simp at hlt
     simp [hlt]
   obtain⟨ks,val,R',env1,h1,h2,h3,h4⟩:=Z41 hT hG h
   simp only[List.length_cons,List.range'_succ]
   rw[Z8k]
   exact zaf ho hs h1 h2 h3 λa' w' c' hs'=>xaf hT hG hQ l (k+1) _ c' w' a' (List.cons.inj hk).2 h4 hs'
def exOf:Exit->Option Ex
 | .normal=>some .normal
 | .exit i=>some (.exit i)
 | .ret=>some .ret
 |_=>none
def TrR(ro:Option Nat)(P:Program)(N M:Nat)(code:Code)(st:St)(Q:Ex->St->Prop):Prop:=
 ∀ (c0:Ctx) (w0:World) (c:Ctx) (w:World) (a:Act),SimS N M c0 w0 c w st a->
   code.wpIn (Fro ro) 0 P (λe a' w'=> ∃ex st' c',exOf e=some ex/\Q ex st'/\SimS N M c0 w0 c' w' st' a') a w
abbrev Tr:=TrR none

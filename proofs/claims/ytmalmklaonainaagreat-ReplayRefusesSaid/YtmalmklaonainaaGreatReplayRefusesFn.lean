import Derived.Test.YtmalmklaonainaaGreatReplayRefusesFrz
set_option linter.all false
namespace Go.GD
open Go
theorem SimS.know{N M:Nat}{c0:Ctx}{w0:World}{c:Ctx}{w:World}{st:St}{a:Act}(h:SimS N M c0 w0 c w st a){x:Operand}{b:Bool}(hb:evOp st.env x= .bool b):SimS N M c0 w0 c w (st.know x b) a:=by
 cases x with
 |tmp t=>exact⟨h.mem,h.rows,λs=>by rw[Qv3 hb];exact h.env s,h.size,h.defers,h.base0,h.own0,h.reach⟩
 |_=>exact h
theorem SimS.knowV{N M:Nat}{c0:Ctx}{w0:World}{c:Ctx}{w:World}{st:St}{a:Act}(h:SimS N M c0 w0 c w st a){x:Operand}{b:Bool}(hb:a.eval x= .bool b):SimS N M c0 w0 c w (st.know x b) a:=by
 cases x with
 | tmp t=>
   refine⟨h.mem,h.rows,λs=> ?_,h.size,h.defers,h.base0,h.own0,h.reach⟩
   simp only[St.know,Qcj]
   split
   . rename_i e;subst e;exact hb
   . exact h.env s
 |_=>exact h
theorem xp{P:Program}{T:Tab}(hT:Q52 P T){G:List Q0d}(hG:Q7j P G){N M:Nat}{ro:Option Nat}{id:Nat}{ops:Array Oper}{st:St}{Q:Ex->St->Prop}(h:Qdo T G N M ops ops.toList st λst=>Q .normal st):TrR ro P N M (.region id ops false) st Q:=by
 intro c0 w0 c w a hs
 refine Zd6 ?_
 have:=xaf (P:=P) (ops:=ops) hT hG (Q:=λe a' w'=> ∃ex st' c',exOf e=some ex/\Q ex st'/\SimS N M c0 w0 c' w' st' a') (λst c w a hK hs=>⟨_,st,c,rfl,hK,hs⟩) ops.toList 0 st c w a (by simp) h hs
 rwa [<-List.range_eq_range',Array.length_toList]at this
theorem zp{c:Ctx}{w:World}(hm:Mem c w){r:Nat}{ty:TypeId}{sz:Nat}{e e':List D}(hr:c.R r=some ⟨true,ty,sz, .gen [e]⟩)(hl:e'.length=e.length)(hc: ∀arr,Q4g c w e arr 0->Q4g c w e' arr 0):Q3s c w (c.upd r ⟨true,ty,sz, .gen [e']⟩) w/\Mem (c.upd r ⟨true,ty,sz, .gen [e']⟩) w:=by
  have hg:Q3s c w (c.upd r ⟨true,ty,sz, .gen [e']⟩) w:=by
    refine⟨rfl,Nat.le_refl _,λb hb=>⟨hb,rfl⟩,λs x hs=> ?_⟩
    by_cases e:s=r
    . subst e
      rw[hr]at hs;cases hs
      exact⟨⟨true,ty,sz, .gen [e']⟩,by simp [Ctx.upd],rfl,rfl,rfl,rfl,rfl,Iff.rfl,λ_ a ha=>⟨a,ha,rfl⟩⟩
    . exact⟨x,by simp [Ctx.upd,e,hs],rfl,rfl,rfl,rfl,rfl,Iff.rfl,λ_ a ha=>⟨a,ha,rfl⟩⟩
  have old: ∀s x,(c.upd r ⟨true,ty,sz, .gen [e']⟩).R s=some x-> ∃x',c.R s=some x':=λs x hs=>by
    by_cases e:s=r
    . exact⟨_,by rw[e];exact hr⟩
    . exact⟨x,by simpa [Ctx.upd,e] using hs⟩
  refine⟨hg,λs x hs=> ?_,λs q x y hs hq v1 v2 he=> ?_,λb hbI=>⟨(hm.imm b hbI).1,λs x hs hv=> ?_⟩,hm.top⟩
  . by_cases es:s=r
    . subst es
      simp only[Ctx.upd,if_true,Option.some.injEq]at hs
      subst hs
      rcases hm.row _ _ hr with⟨g0,g1,g2,g3⟩|⟨g0,arr,g1,g2,g3⟩
      . cases g1
      . refine .inr ⟨g0,arr,g1,g2,?_⟩
        simp only[if_true]at g3⊢
        obtain⟨e0,q1,q2,q3,q4⟩:=g3
        cases q1
        exact⟨e',rfl,hl.trans q2,q3,Qju hg (hc arr q4)⟩
    . have hs':c.R s=some x:=by simpa [Ctx.upd,es] using hs
      exact Q3 hg rfl Iff.rfl (λ_=>rfl) (hm.row s x hs')
  . obtain⟨x',hx'⟩:=old s x hs
    obtain⟨y',hy'⟩:=old q y hq
    exact hm.inj s q x' y' hx' hy' v1 v2 he
  . obtain⟨x',hx'⟩:=old s x hs
    exact(hm.imm b hbI).2 s x' hx' hv
theorem Qy7{c:Ctx}{w:World}{i n:Nat}{row:Row}(hn:c.R n=some row)(hb:row.box=false)(hV:c.V n): ∀{e e':List D},Qy4 i n e=some e'->e'.length=e.length/\ ∀arr off,Q4g c w e arr off->Q4g c w e' arr off
  |[],e',h=>by simp [Qy4]at h
  | d ::l,e',h=>by
    unfold Qy4 at h
    split at h
    . cases h
      refine⟨rfl,λarr off hc=> ?_⟩
      obtain⟨⟨v,hv,h1⟩,⟨u,hu,h2⟩,h3⟩:=hc
      exact⟨⟨v,hv, .inl h1⟩,⟨u,hu,row,hn,hb, .inl ⟨hV,none,h2,Qq6⟩⟩,h3⟩
    . split at h
      . rename_i l' hl'
        cases h
        obtain⟨g1,g2⟩:=Qy7 hn hb hV hl'
        exact⟨by simp [g1],λarr off hc=>⟨hc.1,g2 arr _ hc.2⟩⟩
      . cases h
theorem Qye{n:Nat}: ∀{R:Rows} {k i:Nat} {ty:TypeId} {sz:Nat} {e':List D},Qru n R k=some (i,ty,sz,e')-> ∃e j,i=k+j/\R[j]? =some (some ⟨true,ty,sz, .gen [e]⟩)/\Qy4 i n e=some e'
  |[],k,i,ty,sz,e',h=>by simp [Qru]at h
  | x ::l,k,i,ty,sz,e',h=>by
    have next:Qru n l (k+1)=some (i,ty,sz,e')-> ∃e j,i=k+j/\(x::l)[j]? =some (some ⟨true,ty,sz, .gen [e]⟩)/\Qy4 i n e=some e':=λh=>by
      obtain⟨e,j,h1,h2,h3⟩:=Qye h
      exact⟨e,j+1,by omega,by simpa using h2,h3⟩
    unfold Qru at h
    split at h
    . split at h
      . rename_i e1 he
        cases h
        exact⟨_,0,rfl,rfl,he⟩
      . exact next h
    . exact next h
theorem qaz{N M:Nat}{c0:Ctx}{w0:World}{c:Ctx}{w:World}{st:St}{a:Act}{T:Tab}{code:Code}{K:St->Prop}(h:bldK T code st K)(hs:SimS N M c0 w0 c w st a): ∃st' c',K st'/\SimS N M c0 w0 c' w st' a:=by
  unfold bldK at h
  split at h
  . exact⟨st,c,h,hs⟩
  . rename_i u hu
    split at h
    . exact⟨st,c,h,hs⟩
    . rename_i i ty sz e' hf
      simp only[D.forceL_iff,Q1s]at h
      obtain⟨e,j,h1,h2,h3⟩:=Qye hf
      rw[Nat.zero_add]at h1
      subst h1
      have hlt:=(List.getElem?_eq_some_iff.1 h2).1
      have hi:c.R i=some ⟨true,ty,sz, .gen [e]⟩:=by rw[hs.rows,List.getD,h2];rfl
      have hn:c.R st.rows.length=none:=by rw[hs.rows,List.getD,List.getElem?_eq_none (Nat.le_refl _)];rfl
      have hne:i≠st.rows.length:=by omega
      have hm1:=Z0t hs.mem hn (row:=⟨false,u,1, .ints .u8 []⟩) rfl rfl Nat.one_pos
      have hg1:=Qlq (w:=w) hn ⟨false,u,1, .ints .u8 []⟩
      have hi1:(c.addV st.rows.length ⟨false,u,1, .ints .u8 []⟩).R i=some ⟨true,ty,sz, .gen [e]⟩:=by simp [Ctx.addV,hne,hi]
      obtain⟨q1,q2⟩:=Qy7 (c:=c.addV st.rows.length ⟨false,u,1, .ints .u8 []⟩) (w:=w) (row:=⟨false,u,1, .ints .u8 []⟩) (by simp [Ctx.addV]) rfl (.inl rfl) h3
      obtain⟨hg2,hm2⟩:=zp hm1 hi1 q1 (λarr=>q2 arr 0)
      have hg:=hg1.trans hg2
      have hnx:NxtW c w ((c.addV st.rows.length ⟨false,u,1, .ints .u8 []⟩).upd i ⟨true,ty,sz, .gen [e']⟩) w:=by
        refine⟨hm2,hg,Fr.refl _ w,λb hb=> .inl hb,λr row' hr hv=> .inl ?_⟩
        have hr1:r≠st.rows.length:=λe=>hv (.inl e)
        by_cases er:r=i
        . subst er;exact⟨⟨_,hi⟩,λe=>hv (.inr e),rfl⟩
        . exact⟨⟨row',by simpa [Ctx.upd,Ctx.addV,er,hr1] using hr⟩,λe=>hv (.inr e),rfl⟩
      refine⟨_,_,h,hm2,λr=> ?_,λt=>Qb4 hg (hs.env t),hs.size,hs.defers,hs.base0,hs.own0,hs.reach.step (ks:=[]) (λk hk=>by simp [memB]at hk) hs.own0 hnx.toK⟩
      simp only[Ctx.upd,Ctx.addV]
      by_cases er:r=i
      . subst er
        simp [List.getD,List.getElem?_append_left (show r<(st.rows.set r _).length by simpa using hlt),hlt]
      . rw [if_neg er]
        by_cases en:r=st.rows.length
        . subst en
          simp [List.getD]
        . rw[if_neg en,hs.rows]
          by_cases hl:r<st.rows.length
          . simp [List.getD,List.getElem?_append_left (show r<(st.rows.set i _).length by simpa using hl),List.getElem?_set_ne (Ne.symm er)]
          . have h1:st.rows.getD r none=none:=by rw[List.getD,List.getElem?_eq_none (by omega)];rfl
            rw[h1,List.getD,List.getElem?_eq_none (by simp;omega)];rfl
def Qgn(P:Program):Prop:= ∀(ro:Option Nat) (T:Tab) (G:List Q0d) (N M id:Nat) (ops:Array Oper) (st:St) (Q:Ex->St->Prop),Q52 P T->Q7j P G->drawVC T G N M ops st Q->TrR ro P N M (.region id ops true) st Q
def Qkc(y:Array Tmp×Code×Code):Code->Prop
 | .seq a b=>Qkc y a/\Qkc y b
 | .cond _ a b=>Qkc y a/\Qkc y b
 | .block _ a=>Qkc y a
 | .loop a=>Qkc y a
 | .scope a=>Qkc y a
 | .rangeFunc _ ps x b=>(ps,x,b)=y
 |_=>True
def RF(o:Option Nat)(n:Nat)(c:Code):Prop:=match o with|none=>True|some f=> ∃y,(yTab f=some y/\y.n<=n/\y.ts=yTs f/\YB<=f/\y.ps.size=1)/\Qkc (y.ps,y.assign,y.body) c
theorem xS{P:Program}{ro:Option Nat}{c:Code}{Q:Exit->Act->World->Prop}{a:Act}{w:World}(h:c.wpIn (Fro ro) 0 P (Exit.noGoto Q) a w):(Code.scope c).wpIn (Fro ro) 0 P Q a w:=by
 intro b k cs hro hb hr
 have s1:step P (lone (b.atR a (.code (.scope c)::k)) cs w)= .next (lone (b.atR a (.code c:: .inScope c::k)) cs w):=step_lone_go (by simp [stepG,stepG.exec,Frame.atR])
 have h0:(lone (b.atR a (.code (.scope c)::k)) cs w).fenced P (Fro ro):=fenced_calm hb hr rfl
 obtain⟨e,a₁,w₁,hq,harr⟩:=h b (.inScope c::k) cs hro hb hr
 cases e with
 |normal=>exact⟨.normal,a₁,w₁,hq, .head h0 s1 (StepsIn.trans harr (.one (fenced_calm hb hr rfl) (step_lone_go (by simp [stepG,stepG.exec,Frame.atR]))))⟩
 | exit id=>
   have hx:exitTo id (.inScope c::k)=exitTo id k:=by simp [exitTo]
   exact⟨.exit id,a₁,w₁,hq,λk' hk=> .head h0 s1 (harr.1 k' (by rw[hx];exact hk)),λhr' hk=>let⟨k₁,h1,h2⟩:=harr.2 hr' (by rw[hx];exact hk);⟨k₁,h1, .head h0 s1 h2⟩⟩
 |goto l=>exact hq.elim
 |ret=>exact⟨_,a₁,w₁,hq, .of_steps (.one h0 s1) harr⟩
 |panic ch=>exact⟨_,a₁,w₁,hq, .of_steps (.one h0 s1) harr⟩
 |outgrown=>exact⟨_,a₁,w₁,hq, .of_steps (.one h0 s1) harr⟩
theorem Qm5{P:Program}(hD:Qgn P){T:Tab}(hT:Q52 P T){G:List Q0d}(hG:Q7j P G){ro:Option Nat}{N M:Nat}{L:Code->St->(Ex->St->Prop)->Prop}{S:Code->Prop}(hS:(∀a b,S (.seq a b)->S a/\S b)/\(∀c a b,S (.cond c a b)->S a/\S b)/\(∀i a,S (.block i a)->S a)/\(∀a,S (.scope a)->S a))(hL: ∀code st Q,S code->L code st Q->TrR ro P N M code st Q): ∀(code:Code) (st:St) (Q:Ex->St->Prop),S code->Qbv T G N M L code st Q->TrR ro P N M code st Q:=by
  intro code
  induction code with
  |skip=>exact λst Q _ h c0 w0 c w a hs=>wpIn_skip ⟨_,st,c,rfl,h,hs⟩
  |label l=>exact λst Q _ h c0 w0 c w a hs=>wpIn_label ⟨_,st,c,rfl,h,hs⟩
  | region id ops draw=>
    intro st Q hc h c0 w0 c w a hs
    simp only[Qbv]at h
    obtain⟨st',c',h,hs'⟩:=xaA h hs
    cases draw with
    |false=>exact xp hT hG h c0 w0 c' w a hs'
    |true=>exact hD ro T G N M id ops st' Q hT hG h c0 w0 c' w a hs'
  | seq x y ihx ihy=>
    intro st Q hc h c0 w0 c w a hs
    simp only[Qbv]at h
    refine wpIn_seq (wpIn_mono (ihx st _ (hS.1 _ _ hc).1 h c0 w0 c w a hs) λe a' w' hq=> ?_)
    obtain⟨ex,st',c',he,hq,hs'⟩:=hq
    cases e<;>simp only[exOf,Option.some.injEq,reduceCtorEq]at he
    . subst he
      obtain⟨st2,c2,hq,hs2⟩:=qaz hq hs'
      exact ihy st2 Q (hS.1 _ _ hc).2 hq c0 w0 c2 w' a' hs2
    . subst he;exact⟨_,st',c',rfl,hq,hs'⟩
    . subst he;exact⟨_,st',c',rfl,hq,hs'⟩
  | cond x y z ihy ihz=>
    intro st Q hc h c0 w0 c w a hs
    simp only[Qbv]at h
    split at h
    . rename_i b hb
      have hv:=Qv4 hs.env x
      rw[hb]at hv
      have hv:=Rep.bool.1 hv
      cases b with
      |true=>exact wpIn_cond_true hv (ihy _ Q (hS.2.1 _ _ _ hc).1 h c0 w0 c w a (hs.know hb))
      |false=>exact wpIn_cond_false hv (ihz _ Q (hS.2.1 _ _ _ hc).2 h c0 w0 c w a (hs.know hb))
    . rename_i es hb
      have hv:=Qv4 hs.env x
      rw[hb]at hv
      obtain⟨b,hv,hes⟩:=hv
      cases b with
      |true=>exact wpIn_cond_true hv (ihy _ Q (hS.2.1 _ _ _ hc).1 (h.1 (Els.Nil_l.2 (hes rfl))) c0 w0 c w a (hs.knowV hv))
      |false=>exact wpIn_cond_false hv (ihz _ Q (hS.2.1 _ _ _ hc).2 h.2 c0 w0 c w a (hs.knowV hv))
    . exact h.elim
  | block id x ih=>
    intro st Q hc h c0 w0 c w a hs
    simp only[Qbv]at h
    refine wpIn_block (wpIn_mono (ih st _ (hS.2.2.1 _ _ hc) h c0 w0 c w a hs) λe a' w' hq=> ?_)
    obtain⟨ex,st',c',he,hq,hs'⟩:=hq
    cases e<;>simp only[exOf,Option.some.injEq,reduceCtorEq]at he
    . subst he;exact⟨_,st',c',rfl,hq,hs'⟩
    . rename_i i
      subst he
      simp only[Exit.inBlock]
      simp only at hq
      cases hb:Nat.beq i id with
      | true=>
        simp only[hb]at hq
        rw[if_pos (bE hb)]
        exact⟨_,st',c',rfl,hq,hs'⟩
      | false=>
        simp only[hb]at hq
        rw[if_neg (λe=>by rw[e]at hb;simp at hb)]
        exact⟨_,st',c',rfl,hq,hs'⟩
    . subst he;exact⟨_,st',c',rfl,hq,hs'⟩
  |exit id=>exact λst Q _ h c0 w0 c w a hs=>wpIn_exit ⟨_,st,c,rfl,h,hs⟩
  |ret=>exact λst Q _ h c0 w0 c w a hs=>wpIn_ret ⟨_,st,c,rfl,h,hs⟩
  |loop x ih=>exact λst Q hc h=>hL _ _ _ hc h
  |rangeFunc g ps x y _ _=>exact λst Q hc h=>hL _ _ _ hc h
  | scope x ih=>
    intro st Q hc h c0 w0 c w a hs
    simp only[Qbv]at h
    refine xS (wpIn_mono (ih st _ (hS.2.2.2 _ hc) h c0 w0 c w a hs) λe a' w' hq=> ?_)
    obtain⟨ex,st',c',he,hq,hs'⟩:=hq
    cases e<;>simp only[exOf,Option.some.injEq,reduceCtorEq]at he
    all_goals(subst he;exact⟨_,st',c',rfl,hq,hs'⟩)
  |goto l=>exact λst Q hc h=>hL _ _ _ hc h
  |refuse y=>exact λst Q hc h=>hL _ _ _ hc h
theorem Zdl(o:Option Nat)(n:Nat):(∀a b,RF o n (.seq a b)->RF o n a/\RF o n b)/\(∀c a b,RF o n (.cond c a b)->RF o n a/\RF o n b)/\(∀i a,RF o n (.block i a)->RF o n a)/\(∀a,RF o n (.scope a)->RF o n a):=by
 cases o with
 |none=>exact⟨λ_ _ _=>⟨trivial,trivial⟩,λ_ _ _ _=>⟨trivial,trivial⟩,λ_ _ _=>trivial,λ_ _=>trivial⟩
 |some f=>exact⟨λ_ _ ⟨y,h,h1,h2⟩=>⟨⟨y,h,h1⟩,⟨y,h,h2⟩⟩,λ_ _ _ ⟨y,h,h1,h2⟩=>⟨⟨y,h,h1⟩,⟨y,h,h2⟩⟩,λ_ _ ⟨y,h,h1⟩=>⟨y,h,h1⟩,λ_ ⟨y,h,h1⟩=>⟨y,h,h1⟩⟩
def Qk8:Code->Nat
 | .seq a b=>Qk8 a+Qk8 b
 | .cond _ a b=>Qk8 a+Qk8 b
 | .block _ a=>Qk8 a
 | .loop a=>Qk8 a
 | .scope a=>Qk8 a
 | .rangeFunc _ _ _ _=>1
 |_=>0
theorem Zg9: ∀{c:Code} (y:Array Tmp×Code×Code),Qk8 c=0->Qkc y c:=by
 intro c
 induction c with
 |seq a b iha ihb=>intro y h;simp only[Qk8]at h;exact⟨iha y (by omega),ihb y (by omega)⟩
 |cond x a b iha ihb=>intro y h;simp only[Qk8]at h;exact⟨iha y (by omega),ihb y (by omega)⟩
 |block i a ih=>intro y h;exact ih y h
 |loop a ih=>intro y h;exact ih y h
 |scope a ih=>intro y h;exact ih y h
 |rangeFunc g ps x b _ _=>intro y h;simp [Qk8]at h
 |_=>intro y h;trivial
theorem zS: ∀{c:Code} {y:Array Tmp×Code×Code},Qk8 c<=1->Qgj c=some y->Qkc y c/\1<=Qk8 c:=by
 intro c
 have two: ∀{a b:Code} {y:Array Tmp×Code×Code},(∀{y},Qk8 a<=1->Qgj a=some y->Qkc y a/\1<=Qk8 a)->(∀{y},Qk8 b<=1->Qgj b=some y->Qkc y b/\1<=Qk8 b)->Qk8 a+Qk8 b<=1->(match Qgj a with|some x=>some x|none=>Qgj b)=some y->(Qkc y a/\Qkc y b)/\1<=Qk8 a+Qk8 b:=by
   intro a b y iha ihb h hy
   cases ha:Qgj a with
   | some x=>
     rw[ha]at hy
     cases hy
     obtain⟨h1,h2⟩:=iha (by omega) ha
     exact⟨⟨h1,Zg9 _ (by omega)⟩,by omega⟩
   | none=>
     rw[ha]at hy
     obtain⟨h1,h2⟩:=ihb (by omega) hy
     exact⟨⟨Zg9 _ (by omega),h1⟩,by omega⟩
 induction c with
 |seq a b iha ihb=>intro y h hy;exact two iha ihb h hy
 |cond x a b iha ihb=>intro y h hy;exact two iha ihb h hy
 |block i a ih=>intro y h hy;exact ih h hy
 |loop a ih=>intro y h hy;exact ih h hy
 |scope a ih=>intro y h hy;exact ih h hy
 |rangeFunc g ps x b _ _=>intro y h hy;simp only[Qgj,Option.some.injEq]at hy;exact⟨hy,Nat.le_refl _⟩
 |_=>intro y h hy;simp [Qgj]at hy
def rfB(f:Nat)(fn:Func):Bool:=match fn.body with
 |some c=>Nat.ble (Qk8 c) 1&&(Nat.ble YB f&&(match Qgj c with|some y=>Nat.beq y.1.size 1|none=>false))
 |none=>false
theorem rf_of{f:Nat}{fn:Func}(h:rfB f fn=true)(hy:yTab f=ykOf (yTs f) fn): ∀code,fn.body=some code->RF (some f) fn.ntmps code:=by
 intro code hb
 unfold rfB at h
 unfold ykOf at hy
 simp only[hb,aE]at h hy
 obtain⟨h1,h2,h3⟩:=h
 split at h3
 . rename_i y hf
   rw[hf]at hy
   exact⟨_,⟨hy,Nat.le_refl _,rfl,lE h2,bE h3⟩,(zS (lE h1) hf).1⟩
 . cases h3
def Ctx.out(c:Ctx)(ex:List Nat)(rows:List Row):Ctx:=
 { ρ:=λi=>match ex[i]? with|some r=>c.ρ r|none=>c.ρ i,R:=λi=>rows[i]?,V:=λi=>match ex[i]? with|some r=>c.R r=none\/c.V r|none=>True,
   I:=λb=>c.I b\/ ∃r row,c.R r=some row/\ ¬c.V r/\row.box=false/\Zoy ex r=true/\c.ρ r=b,base:=c.base,top:=c.top,X:=c.X}
theorem Qv5{ex:List Nat}{i r:Nat}(h:inEx ex i r=true):ex[i]? =some r:=by
 unfold inEx at h
 split at h
 . rename_i x hx;rw[hx,bE h]
 . cases h
theorem Zo4{ex:List Nat}{R:Rows}{i:Nat}(h:Zi2 ex R i=true): ∃r,ex[i]? =some r/\R.getD r none=none:=by
 unfold Zi2 at h
 split at h
 . rename_i r hr
   refine⟨r,hr,?_⟩
   split at h
   . assumption
   . cases h
 . cases h
theorem Z7d{ex:List Nat}{r:Nat}(h:Zoy ex r=true):r∉ex:=by
 intro hm
 have:=List.all_eq_true.1 h r hm
 simp at this
theorem Qjj{ex:List Nat}{m:Nat}{R:Rows}: ∀{rs:List Nat} {ps:List Row},Q3o ex m R rs ps->rs.length=ps.length/\ ∀(i r:Nat) (p:Row),rs[i]? =some r->ps[i]? =some p->
    (∃row,R.getD r none=some row/\row.box=p.box/\row.ty=p.ty/\row.sz=p.sz/\(if p.box then∃e e',row.es= .gen [e]/\p.es= .gen [e']/\Z1x ex m R e e' else row.es.l=p.es.l))\/(R.getD r none=none/\p.box=false/\p.es.l=[]/\0<p.sz)
  |[],[],_=>⟨rfl,λi r p h=>by simp at h⟩
  |[],_::_,h=>h.elim
  |_::_,[],h=>h.elim
  | r ::rs,⟨box,ty,sz,es⟩::ps,h=>by
    simp only[Q3o]at h
    obtain⟨h1,h2⟩:=h
    obtain⟨g1,g2⟩:=Qjj h2
    refine⟨by simp [g1],λi q p hq hp=> ?_⟩
    cases i with
    |succ i=>exact g2 i q p (by simpa using hq) (by simpa using hp)
    | zero=>
      simp at hq hp
      subst hq;subst hp
      split at h1
      . rename_i box' ty' sz' es' hR
        simp only[Q08,aE]at h1
        obtain⟨⟨⟨e1,e2⟩,e3⟩,h1⟩:=h1
        refine .inl ⟨_,hR,by cases box<;>cases box'<;>simp_all,(bE e2).symm,(bE e3).symm,?_⟩
        cases box with
        |false=>simpa using Els.Eq_l h1
        | true=>
          simp only[if_true]
          simp only at h1
          split at h1
          . exact⟨_,_,rfl,rfl,h1⟩
          . exact h1.elim
      . rename_i hR
        simp only[Q08,aE,Bool.not_eq_true']at h1
        exact .inr ⟨hR,h1.1.1,Els.Nil_l.1 h1.2,lE h1.1.2⟩
theorem Zay{c:Ctx}{w:World}{ex:List Nat}{m:Nat}{R:Rows}{rows:List Row}(hR: ∀r,c.R r=R.getD r none)(hrows:Q3o ex m R ex rows){i r o f:Nat}{v:Value}(hx:inEx ex i r=true)(hr:CRep c w (.ptr r o f) v):CRep (c.out ex rows) w (.ptr i o f) v:=by
 obtain⟨row,g1,gV,g2,hv⟩:=hr
 have hi:=Qv5 hx
 obtain⟨hl,hget⟩:=Qjj hrows
 have hlt:=(List.getElem?_eq_some_iff.1 hi).1
 have hp:rows[i]? =some rows[i]:=List.getElem?_eq_getElem (by omega)
 rcases hget i r _ hi hp with⟨row',k1,k2,k3,k4,k5⟩|⟨k1,_⟩
 . have:row'=row:=by rw[hR,k1]at g1;exact Option.some.inj g1
   subst this
   refine⟨_,hp,by simp [Ctx.out,hi,g1,gV],?_,by simp only[Ctx.out,hi];rw[hv,k4]⟩
   split at k5
   . obtain⟨e,e',q1,q2,_⟩:=k5
     rw[q1]at g2;rw[q2];exact g2
   . rw[<-k5];exact g2
 . rw[hR,k1]at g1;cases g1
theorem Zli{c:Ctx}{w:World}{ex:List Nat}{m:Nat}{R:Rows}{rows:List Row}(hR: ∀r,c.R r=R.getD r none)(hrows:Q3o ex m R ex rows): ∀{ps qs:List (Nat×Nat×Nat)} {us:List Value},ptrX ex ps qs=true->Qvm c qs us->Qvm (c.out ex rows) ps us
 |[],[],_,_,h=>by rename_i us _;cases us<;>exact h
 | (i,b,d)::l,(r,y,z)::q,u::us,h,hr=>by
   simp only[ptrX,aE]at h
   obtain⟨h1,h2,h3,h4⟩:=h
   have e2:=bE h2;have e3:=bE h3
   subst e2;subst e3
   exact⟨Zay (w:=w) hR hrows h1 hr.1,Zli (w:=w) hR hrows h4 hr.2⟩
 |(_,_,_)::_,(_,_,_)::_,[],_,h=>h.elim
 |[],_::_,_,h,_=>by simp [ptrX]at h
 |_::_,[],_,h,_=>by simp [ptrX]at h
theorem yS{c:Ctx}{w:World}{ex:List Nat}{m:Nat}{R:Rows}{rows:List Row}(hR: ∀r,c.R r=R.getD r none)(hrows:Q3o ex m R ex rows): ∀{cs ds:List Cap} {us:List Value},capX ex cs ds=true->Q6g c w ds us->Q6g (c.out ex rows) w cs us:=by
  intro cs
  induction cs with
  |nil=>intro ds us h hr;cases ds<;>cases us<;>first|exact hr|(simp [capX]at h;done)
  | cons x cs ih=>
    intro ds us h hr
    cases ds with
    |nil=>cases x<;>simp [capX]at h
    | cons y ds=>
      cases us with
      |nil=>exact hr.elim
      | cons u us=>
        cases x<;>cases y<;>simp only[capX,aE,Bool.false_eq_true]at h
        . obtain⟨h1,h2,h3,h4⟩:=h
          have e2:=bE h2;have e3:=bE h3
          subst e2;subst e3
          exact⟨Zay (w:=w) hR hrows h1 hr.1,ih h4 hr.2⟩
        . obtain⟨h1,h2,h3⟩:=h
          have e1:=bE h1
          subst e1
          obtain⟨⟨ws,hv,hw⟩,hr2⟩:=hr
          exact⟨⟨ws,Qqc (c:=c) (c':=c.out ex rows) (w':=w) (λb hb=>⟨Or.inl hb,rfl⟩) hv,Zli (w:=w) hR hrows h2 hw⟩,ih h3 hr2⟩
section
variable {c:Ctx} {w:World} {ex:List Nat} {m:Nat} {R:Rows} {rows:List Row}
theorem Zaf(hm:Mem c w)(hR: ∀r,c.R r=R.getD r none)(hrows:Q3o ex m R ex rows)(hnew: ∀r row,c.R r=some row-> ¬c.V r->m<=r->c.base<=c.ρ r){d p:D}{v:Value}(h:retC ex m R d p)(hr:CRep c w d v):CRep (c.out ex rows) w p v:=by
  have himm: ∀b,c.I b->(c.out ex rows).I b/\w.heap[b]? =w.heap[b]? :=λb hb=>⟨.inl hb,rfl⟩
  obtain⟨hl,hget⟩:=Qjj hrows
  have rowOf: ∀i r row,ex[i]? =some r->c.R r=some row-> ∃p,rows[i]? =some p/\row.box=p.box/\row.ty=p.ty/\row.sz=p.sz/\row.es.l.length=p.es.l.length/\(c.out ex rows).ρ i=c.ρ r/\((c.out ex rows).V i↔c.V r):=by
    intro i r row hi hrow
    have hlt:=(List.getElem?_eq_some_iff.1 hi).1
    have hp:rows[i]? =some rows[i]:=List.getElem?_eq_getElem (by omega)
    rcases hget i r _ hi hp with⟨row',g1,g2,g3,g4,g5⟩|⟨g1,_⟩
    . have:row'=row:=by rw[hR,g1]at hrow;exact Option.some.inj hrow
      subst this
      refine⟨_,hp,g2,g3,g4,?_,by simp [Ctx.out,hi],by simp [Ctx.out,hi,hrow]⟩
      split at g5
      . obtain⟨e,e',k1,k2,_⟩:=g5
        rw[k1,k2];rfl
      . rw[g5]
    . rw[hR,g1]at hrow;cases hrow
  have vir: ∀i a,Zi2 ex R i=true->v= .slice a 0 0->okA c.top a->CRep (c.out ex rows) w (.all i) v:=by
    intro i a hv hva hok
    obtain⟨r,hi,hrn⟩:=Zo4 hv
    have hlt:=(List.getElem?_eq_some_iff.1 hi).1
    have hp:rows[i]? =some rows[i]:=List.getElem?_eq_getElem (by omega)
    rcases hget i r _ hi hp with⟨row',g1,_⟩|⟨g1,g2,g3,g4⟩
    . rw[hrn]at g1;cases g1
    . exact⟨_,hp,g2, .inl ⟨by simp only[Ctx.out,hi];exact .inl (by rw[hR];exact g1),a,hva,hok⟩⟩
  cases p<;>simp only[retC]at h
  case int k n=>
    split at h
    . simp only[Q08,decide_eq_true_eq]at h;obtain⟨rfl,rfl⟩:=h;exact hr
    . exact h.elim
  case bool b=>
    split at h
    . subst h;exact hr
    . exact h.elim
  case str s=>
    split at h
    . subst h;exact hr
    . exact h.elim
  case nilp=>
    split at h
    . exact hr
    . exact h.elim
  case nils=>
    split at h
    . exact hr
    . exact h.elim
  case emp=>
    split at h
    . exact⟨none,hr,Qq6⟩
    . exact hr
    . exact h.elim
  case nilif=>
    split at h
    . exact hr
    . exact h.elim
  case clo f cs=>
    split at h
    . simp only[Q08,aE]at h
      obtain⟨⟨h1,h2⟩,_⟩:=h
      have e1:=bE h1
      subst e1
      obtain⟨us,hv,hu⟩:=hr
      exact⟨us,Qqc (c:=c) (c':=c.out ex rows) (w':=w) (λb hb=>⟨Or.inl hb,rfl⟩) hv,yS hR hrows h2 hu⟩
    . exact h.elim
  case ptr i o f=>
    split at h
    . simp only[Q08,aE]at h
      obtain⟨⟨h1,h2,h3⟩,_⟩:=h
      have e2:=bE h2;have e3:=bE h3
      subst e2;subst e3
      exact Zay (w:=w) hR hrows h1 hr
    . exact h.elim
  case selfp i=>
    have go: ∀r,inEx ex i r=true->CRep c w (.selfp r) v->CRep (c.out ex rows) w (.selfp i) v:=by
      intro r hx hr
      rcases hr with hr|⟨row,g1,gV,g2,hv⟩
      . exact .inl hr
      . have hi:=Qv5 hx
        obtain⟨p,hp,q1,q2,q3,q4,q5,q6⟩:=rowOf i r row hi g1
        exact .inr ⟨p,hp,λe=>gV (q6.1 e),by rw[<-q4];exact g2,by rw[hv,q5,q3]⟩
    split at h
    . exact .inl hr
    . simp only[Q08]at h;exact go _ h.1 hr
    . simp only[Q08,aE]at h
      obtain⟨⟨h1,h2,h3⟩,_⟩:=h
      have e2:=bE h2;have e3:=bE h3
      subst e2;subst e3
      exact go _ h1 (.inr hr)
    . exact h.elim
  case dead=>exact CRep.one hr
  case sl sz es fr=>
    split at h
    . have h:=Els.Nil_l.1 h;exact⟨none,0,by rw[h];exact hr,by rw[h];exact Nat.le_refl _, .inl h⟩
    . have h:=Els.Nil_l.1 h;obtain⟨a,hr,_⟩:=hr;exact⟨a,0,by rw[h];exact hr,by rw[h];exact Nat.le_refl _, .inl h⟩
    . rename_i sz' es' fr'
      simp only[Q08,Bool.or_eq_true,Bool.not_eq_true']at h
      obtain⟨hf,hs,he⟩:=h
      have he:=Els.Eq_l he
      obtain⟨a,cap,hv,hc,hes⟩:=hr
      rw[he]at hv hc hes
      refine⟨a,cap,hv,hc,?_⟩
      rcases hes with hes|⟨b,off,arr,ty,fz,ha,hI,hf',hh,hE⟩
      . exact .inl hes
      . rcases hs with hs|rfl
        . exact .inl (by rw[<-he];exact Els.Nil_l.1 hs)
        . exact .inr ⟨b,off,arr,ty,fz,ha, .inl hI,λe=>hf' (by rcases hf with hf|hf<;>simp_all),hh,Q1m himm _ _ _ _ hE⟩
    . rename_i r
      split at h
      . rename_i box ty sz' es' hRr
        simp only[Q08,aE,Bool.not_eq_true']at h
        obtain⟨⟨⟨⟨hb,hs⟩,ho⟩,hmr⟩,hee⟩:=h
        have hee:=Els.Eq_l hee
        have hs:=bE hs
        have hmr:=lE hmr
        obtain⟨row,g1,g2,hv⟩:=hr
        have:row=⟨box,ty,sz',es'⟩:=by rw[hR,hRr]at g1;exact(Option.some.inj g1).symm
        subst this
        subst hs
        rcases hv with⟨hV,a,hv,_⟩|⟨hV,cap,arr,hv,g3,g4,g5,g6⟩
        . have he:=(hm.virt g1 hV).2.1
          simp only at he
          rw[he]at hee
          exact⟨a,0,by rw[<-hee];exact hv,by rw[<-hee];exact Nat.le_refl _, .inl hee.symm⟩
        obtain⟨arr',ha',hs',hx⟩:=hm.real g1 hV
        rw[g5]at ha';cases ha'
        simp only[hb,Bool.false_eq_true,if_false]at hx
        simp only at hv g3 hx
        rw[hee]at hv g3 hx
        exact⟨_,cap,hv,g3, .inr ⟨_,0,arr,_,_,rfl, .inr ⟨r,_,g1,hV,hb,ho,rfl⟩,λ_=>hnew r _ g1 hV hmr,g5,Q1m himm _ _ _ _ hx⟩⟩
      . exact h.elim
    . rename_i r o n
      split at h
      . rename_i box ty sz' es' hRr
        simp only[Q08,aE,Bool.not_eq_true']at h
        obtain⟨⟨⟨⟨hb,hs⟩,ho⟩,hmr⟩,hee⟩:=h
        have hee:=Els.Eq_l hee
        rw[Els.take_l,Els.drop_l]at hee
        have hs:=bE hs
        have hmr:=lE hmr
        obtain⟨row,g1,g2,g5,hv⟩:=hr
        have:row=⟨box,ty,sz',es'⟩:=by rw[hR,hRr]at g1;exact(Option.some.inj g1).symm
        subst this
        subst hs
        simp only at g5
        have hl':((es'.l.drop o).take n).length=n:=by simp only[List.length_take,List.length_drop];omega
        rw[hee]at hl'
        rcases hv with⟨h0,a,hv,_⟩|⟨hV,cap,arr,g3,g4,g6,hv,g7⟩
        . subst h0
          have h0:=List.eq_nil_of_length_eq_zero hl'
          exact⟨a,0,by rw[hl'];exact hv,by omega, .inl h0⟩
        obtain⟨arr',ha',hs',hx⟩:=hm.real g1 hV
        rw[g6]at ha';cases ha'
        simp only[hb,Bool.false_eq_true,if_false]at hx
        have hE:=Qfn (n:=n) (Qex (l:=o) hx)
        rw[hee]at hE
        exact⟨_,cap,by rw[hl'];exact hv,by omega, .inr ⟨_,o*sz',arr,_,_,rfl, .inr ⟨r,_,g1,hV,hb,ho,rfl⟩,λ_=>hnew r _ g1 hV hmr,g6,Q1m himm _ _ _ _ (by simpa using hE)⟩⟩
      . exact h.elim
    . exact h.elim
  case all i=>
    split at h
    . rename_i r
      simp only[Q08]at h
      obtain⟨row,g1,g2,hv⟩:=hr
      obtain⟨p,k1,k2,k3,k4,k5,k6,k7⟩:=rowOf i r row (Qv5 h.1) g1
      refine⟨p,k1,by rw[<-k2];exact g2,?_⟩
      rcases hv with⟨hV,hv⟩|⟨hV,cap,arr,hv,g3,g4,g5,g6⟩
      . exact .inl ⟨k7.2 hV,hv⟩
      . exact .inr ⟨λe=>hV (k7.1 e),cap,arr,by rw[hv,k5,k6],by rw[<-k5];exact g3,g4,by rw[k6,<-k3];exact g5,by rw[<-k4];exact g6⟩
    . simp only[Q08]at h
      exact vir i none h.1 hr Qq6
    . simp only[Q08]at h
      obtain⟨a,hr,ho⟩:=hr
      exact vir i a h.1 hr ho
    . exact h.elim
  case own i o n=>
    split at h
    . rename_i r o' n'
      simp only[Q08]at h
      obtain⟨hx,rfl,rfl⟩:=h
      obtain⟨row,g1,g2,g5,hv⟩:=hr
      obtain⟨p,k1,k2,k3,k4,k5,k6,k7⟩:=rowOf i r row (Qv5 hx) g1
      refine⟨p,k1,by rw[<-k2];exact g2,by rw[<-k5];exact g5,?_⟩
      rcases hv with⟨h0,a,hv,ho'⟩|⟨hV,cap,arr,g3,g4,g6,hv,g7⟩
      . exact .inl ⟨h0,a,hv,ho'.mono (Nat.le_refl _) k7 k6⟩
      . exact .inr ⟨λe=>hV (k7.1 e),cap,arr,g3,g4,by rw[k6,<-k3];exact g6,by rw[k6,<-k4];exact hv,by rw[<-k4];exact g7⟩
    . exact h.elim
theorem Zda(hm:Mem c w)(hR: ∀r,c.R r=R.getD r none)(hrows:Q3o ex m R ex rows)(hnew: ∀r row,c.R r=some row-> ¬c.V r->m<=r->c.base<=c.ρ r): ∀{ds ps:List D} {vs:List Value},Z1x ex m R ds ps->Q3v c w ds vs->Q3v (c.out ex rows) w ps vs
 |[],[],[],_,_=>trivial
 |[],[],_::_,_,h=>h.elim
 |[],_::_,_,h,_=>h.elim
 |_::_,[],_,h,_=>h.elim
 |_::_,_::_,[],_,h=>h.elim
 |d::ds,p::ps,v::vs,h,hr=>⟨Zaf hm hR hrows hnew h.1 hr.1,Zda hm hR hrows hnew h.2 hr.2⟩
theorem Zkj(hm:Mem c w)(hR: ∀r,c.R r=R.getD r none)(hrows:Q3o ex m R ex rows)(hnew: ∀r row,c.R r=some row-> ¬c.V r->m<=r->c.base<=c.ρ r){d p:D}{v:Value}(h:retV ex m R d p)(hr:VRep c w d v):VRep (c.out ex rows) w p v:=by
 cases p with
 | agg ps=>
   simp only[retV]at h
   cases d<;>simp only at h
   obtain⟨vs,hv,hx⟩:=hr
   exact⟨vs,hv,Zda hm hR hrows hnew h hx⟩
 | _=>
   simp only[retV]at h
   refine VRep.ofC (Zaf hm hR hrows hnew h (VRep.toC ?_ hr))
   intro cs e
   subst e
   simp [retC,cand,D.isOne]at h
theorem Ze7(hm:Mem c w)(hR: ∀r,c.R r=R.getD r none)(hrows:Q3o ex m R ex rows)(hnew: ∀r row,c.R r=some row-> ¬c.V r->m<=r->c.base<=c.ρ r): ∀{ds ps:List D} {vs:List Value},retVs ex m R ds ps->Q8a c w ds vs->Q8a (c.out ex rows) w ps vs
 |[],[],[],_,_=>trivial
 |[],[],_::_,_,h=>h.elim
 |[],_::_,_,h,_=>h.elim
 |_::_,[],_,h,_=>h.elim
 |_::_,_::_,[],_,h=>h.elim
 |d::ds,p::ps,v::vs,h,hr=>⟨Zkj hm hR hrows hnew h.1 hr.1,Ze7 hm hR hrows hnew h.2 hr.2⟩
theorem Z0w(hm:Mem c w)(hR: ∀r,c.R r=R.getD r none)(hrows:Q3o ex m R ex rows)(hnew: ∀r row,c.R r=some row-> ¬c.V r->m<=r->c.base<=c.ρ r){d p:D}{v:Value}(h:retD ex m R d p)(hr:Rep c w d v):Rep (c.out ex rows) w p v:=by
 cases p with
 | tup ps=>
   simp only[retD]at h
   cases d<;>simp only at h
   obtain⟨vs,hv,hx⟩:=hr
   exact⟨vs,hv,Ze7 hm hR hrows hnew h hx⟩
 |dead=>trivial
 | _=>
   simp only[retD]at h
   refine Rep.ofV (Zkj hm hR hrows hnew h (Rep.toV ?_ ?_ hr))
   . intro ds e;subst e;simp [retV,retC]at h
   . intro e;subst e;simp [retV,retC]at h
theorem Z28(hm:Mem c w)(hR: ∀r,c.R r=R.getD r none)(hrows:Q3o ex m R ex rows)(hnew: ∀r row,c.R r=some row-> ¬c.V r->m<=r->c.base<=c.ρ r): ∀{ds ps:List D} {arr:Array Value} {off:Nat},Z1x ex m R ds ps->Q4g c w ds arr off->Q4g (c.out ex rows) w ps arr off
 |[],[],_,_,_,_=>trivial
 |[],_::_,_,_,h,_=>h.elim
 |_::_,[],_,_,h,_=>h.elim
 |d::ds,p::ps,arr,off,h,hr=>⟨by obtain⟨⟨v,hv,hx⟩,_⟩:=hr;exact⟨v,hv,Zaf hm hR hrows hnew h.1 hx⟩,Z28 hm hR hrows hnew h.2 hr.2⟩
theorem Qxw: ∀{ds ps:List D},Z1x ex m R ds ps->ds.length=ps.length
 |[],[],_=>rfl
 |[],_::_,h=>h.elim
 |_::_,[],h=>h.elim
 |_::_,_::_,h=>by simp [Qxw h.2]
theorem zaz(hm:Mem c w)(hR: ∀r,c.R r=R.getD r none)(hrows:Q3o ex m R ex rows)(hnew: ∀r row,c.R r=some row-> ¬c.V r->m<=r->c.base<=c.ρ r)(hnd:ex.Nodup):Mem (c.out ex rows) w:=by
  have himm: ∀b,c.I b->(c.out ex rows).I b/\w.heap[b]? =w.heap[b]? :=λb hb=>⟨.inl hb,rfl⟩
  obtain⟨hl,hget⟩:=Qjj hrows
  have inv: ∀i p,(c.out ex rows).R i=some p-> ∃r,ex[i]? =some r/\(c.out ex rows).ρ i=c.ρ r/\((∃row,c.R r=some row/\row.box=p.box/\row.ty=p.ty/\row.sz=p.sz/\((c.out ex rows).V i↔c.V r)/\(if p.box then∃e e',row.es= .gen [e]/\p.es= .gen [e']/\Z1x ex m R e e' else row.es.l=p.es.l))\/((c.out ex rows).V i/\p.box=false/\p.es.l=[]/\0<p.sz)):=by
    intro i p hp
    have hp':rows[i]? =some p:=hp
    have hlt:=(List.getElem?_eq_some_iff.1 hp').1
    have hi:ex[i]? =some ex[i]:=List.getElem?_eq_getElem (by omega)
    refine⟨_,hi,by simp [Ctx.out,hi],?_⟩
    rcases hget i _ p hi hp' with⟨row,g1,g2,g3,g4,g5⟩|⟨g1,g2⟩
    . have hrow:c.R ex[i]=some row:=by rw[hR];exact g1
      exact .inl ⟨row,hrow,g2,g3,g4,by simp [Ctx.out,hi,hrow],g5⟩
    . exact .inr ⟨by simp only[Ctx.out,hi];exact .inl (by rw[hR];exact g1),g2⟩
  refine⟨λi p hp=> ?_,λi j p q hp hq v1 v2 he=> ?_,λb hb=> ?_,hm.top⟩
  . obtain⟨r,g1,g6,⟨row,g2,g3,g4,g5,gV,g7⟩|⟨gV,g2⟩⟩:=inv i p hp
    . rcases hm.row r row g2 with⟨h0,h1,h2,h3⟩|⟨h0,arr,ha,hs,hx⟩
      . refine .inl ⟨gV.2 h0,by rw[<-g3];exact h1,?_,by rw[<-g5];exact h3⟩
        rw[if_neg (by rw[<-g3,h1];simp)]at g7
        rw[<-g7];exact h2
      refine .inr ⟨λe=>h0 (gV.1 e),arr,by rw[g6,<-g4];exact ha,by rw[<-g5];exact hs,?_⟩
      split
      . rename_i hb
        rw[if_pos hb]at g7
        rw[if_pos (g3.trans hb)]at hx
        obtain⟨e,e',k1,k2,k3⟩:=g7
        obtain⟨e0,q1,q2,q3,q4⟩:=hx
        rw[k1]at q1;cases q1
        exact⟨e',k2,by rw[<-Qxw k3,<-g5];exact q2,by rw[<-g5];exact q3,Z28 hm hR hrows hnew k3 q4⟩
      . rename_i hb
        rw[if_neg hb]at g7
        rw[if_neg (by rw[g3];exact hb)]at hx
        rw[<-g7,<-g5]
        exact Q1m himm _ _ _ _ hx
    . exact .inl ⟨gV,g2⟩
  . obtain⟨r,g1,g6,⟨row,g2,_,_,_,gV,_⟩|⟨gV,_⟩⟩:=inv i p hp
    . obtain⟨s,k1,k6,⟨row',k2,_,_,_,kV,_⟩|⟨kV,_⟩⟩:=inv j q hq
      . rw[g6,k6]at he
        have:r=s:=hm.inj r s _ _ g2 k2 (λe=>v1 (gV.2 e)) (λe=>v2 (kV.2 e)) he
        subst this
        exact(List.getElem?_inj (List.getElem?_eq_some_iff.1 g1).1 hnd).1 (g1.trans k1.symm)
      . exact(v2 kV).elim
    . exact(v1 gV).elim
  . rcases hb with hb|⟨r,row,hr,hV,hbx,ho,rfl⟩
    . refine⟨(hm.imm b hb).1,λi p hp v=> ?_⟩
      obtain⟨r,g1,g6,⟨row,g2,_,_,_,gV,_⟩|⟨gV,_⟩⟩:=inv i p hp
      . rw[g6]
        exact(hm.imm b hb).2 r row g2 (λe=>v (gV.2 e))
      . exact(v gV).elim
    . refine⟨hm.lt hr hV,λi p hp v=> ?_⟩
      obtain⟨s,g1,g6,⟨row',g2,_,_,_,gV,_⟩|⟨gV,_⟩⟩:=inv i p hp
      . rw[g6]
        intro e
        have:=hm.inj s r _ _ g2 hr (λe=>v (gV.2 e)) hV e
        subst this
        exact Z7d ho (List.mem_of_getElem? g1)
      . exact(v gV).elim
end
theorem Zkw: ∀{l m:List Nat},natsB l m=true->l=m
 |[],[],_=>rfl
 | x::l,y::m,h=>by
   simp only[natsB,aE]at h
   rw[bE h.1,Zkw h.2]
 |[],_::_,h=>by cases h
 |_::_,[],h=>by cases h
theorem xaz{M:Nat}{ex:List Nat}(h:exOK M ex=true):ex.Nodup/\(∀i,i<M->ex[i]? =some i)/\ ∀i r,ex[i]? =some r->(i=r/\i<M)\/M<=r:=by
 unfold exOK at h
 simp only[aE]at h
 obtain⟨⟨h1,h2⟩,h3⟩:=h
 replace h1:=Zkw h1
 replace h2: ∀r∈ex.drop M,M<=r:=λr hr=>lE (List.all_eq_true.1 h2 r hr)
 replace h3:=Qi6.1 h3
 have he:ex=List.range M++ex.drop M:=by rw[<-h1,List.take_append_drop]
 generalize hq:ex.drop M=q at he h2 h3
 subst he
 refine⟨?_,λi hi=>by rw[List.getElem?_append_left (by simpa using hi)];simp [hi],λi r hr=> ?_⟩
 . rw[List.nodup_append]
   exact⟨List.nodup_range,h3,λx hx y hy=>by simp at hx;have:=h2 y hy;omega⟩
 . by_cases hlt:i<M
   . rw[List.getElem?_append_left (by simpa using hlt)]at hr
     simp [hlt]at hr
     exact .inl ⟨hr,hlt⟩
   . rw[List.getElem?_append_right (by simpa using hlt)]at hr
     exact .inr (h2 r (List.mem_of_getElem? hr))
theorem Zl2{N M:Nat}{c0:Ctx}{w0:World}{c:Ctx}{w:World}{st:St}{a:Act}(hs:SimS N M c0 w0 c w st a){ex:List Nat}{rows':List Row}(hex:exOK M ex=true)(hrows:Q3o ex M st.rows ex rows'):
    (∀r row,c.R r=some row-> ¬c.V r->M<=r->c.base<=c.ρ r)/\Mem (c.out ex rows') w/\Qw4 c0 w0 (c.out ex rows') w:=by
  obtain⟨hnd,hid,hinv⟩:=xaz hex
  obtain⟨hl,hget⟩:=Qjj hrows
  have hb1:c.base=c0.base:=hs.reach.grows.base
  have hnewS: ∀r row,c.R r=some row-> ¬c.V r->M<=r->c0.X (c.ρ r)\/w0.heap.size<=c.ρ r:=λr row h1 v h2=>by
    rcases hs.reach.rho r row h1 v with⟨⟨x,hx⟩,_⟩|h3
    . have:=hs.own0 r x hx;omega
    . exact h3
  have hnew: ∀r row,c.R r=some row-> ¬c.V r->M<=r->c.base<=c.ρ r:=λr row h1 v h2=>by
    have:=hs.base0
    rcases hnewS r row h1 v h2 with h|h
    . have:=hs.reach.xb _ h;omega
    . omega
  refine⟨hnew,zaz hs.mem hs.rows hrows hnew hnd,⟨hs.reach.grows.base,hs.reach.grows.top,λb hbI=> ?_,λr row hr=> ?_⟩,hs.reach.fr,λb hbI=> ?_,λi p hp v=> ?_,hs.reach.xb⟩
  . obtain⟨h1,h2⟩:=hs.reach.grows.I b hbI
    exact⟨.inl h1,h2⟩
  . have hlt:r<M:=hs.own0 r row hr
    obtain⟨row1,g1,g2,g3,g4,g5,g6,gV,g7⟩:=hs.reach.grows.R r row hr
    have hi:=hid r hlt
    have hlt':=(List.getElem?_eq_some_iff.1 hi).1
    have hp:rows'[r]? =some rows'[r]:=List.getElem?_eq_getElem (by omega)
    rcases hget r r _ hi hp with⟨row2,k1,k2,k3,k4,k5⟩|⟨k1,_⟩
    . have:row2=row1:=by rw[hs.rows,k1]at g1;exact Option.some.inj g1
      subst this
      refine⟨_,hp,k2.symm.trans g2,k3.symm.trans g3,k4.symm.trans g4,?_,by simp [Ctx.out,hi,g6],by simp [Ctx.out,hi,g1,gV],g7⟩
      rw[<-g5]
      split at k5
      . obtain⟨e,e',q1,q2,_⟩:=k5
        rw[q1,q2];rfl
      . rw[k5]
    . rw[hs.rows,k1]at g1;cases g1
  . rcases hbI with h1|⟨r,row,hr,hV,hbx,ho,rfl⟩
    . exact hs.reach.imm b h1
    . refine .inr ?_
      have:M<=r:=by
        by_cases hlt:r<M
        . exact(Z7d ho (List.mem_of_getElem? (hid r hlt))).elim
        . omega
      exact hnewS r row hr hV this
  . have hp':rows'[i]? =some p:=hp
    have hlt:=(List.getElem?_eq_some_iff.1 hp').1
    have hi:ex[i]? =some ex[i]:=List.getElem?_eq_getElem (by omega)
    simp only[Ctx.out,hi,not_or]at v⊢
    obtain⟨v1,v2⟩:=v
    rcases hget i _ _ hi hp' with⟨row2,k1,k2,k3,k4,k5⟩|⟨k1,_⟩
    . have hlive:c.R ex[i]=some row2:=by rw[hs.rows];exact k1
      rcases hinv i _ hi with⟨h1,h2⟩|h1
      . rcases hs.reach.rho _ _ hlive v2 with⟨h3,h4,h5⟩|h3
        . left
          rw[<-h1]at h3 h4
          refine⟨h3,h4,h5.trans ?_⟩
          rw[<-h1]
        . exact .inr h3
      . exact .inr (hnewS _ _ hlive v2 h1)
    . exact(v1 (by rw[hs.rows];exact k1)).elim

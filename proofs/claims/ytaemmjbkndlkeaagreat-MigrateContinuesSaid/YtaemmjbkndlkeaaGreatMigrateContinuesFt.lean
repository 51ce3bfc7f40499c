import Derived.Test.YtaemmjbkndlkeaaGreatMigrateContinuesFb
open List renaming range_eq_range'->gC,getD->aV,getElem?_eq_none->aJ,getElem?_append_left->bI,getElem?_eq_getElem->aI,mem_of_getElem?->fL,range->cW,mem_append->cB,mapM_cons->gG,mem_append_right->eX,mem_append_left->eS,getElem?_map->gH,range'->bO,all_eq_true->gI,all_cons->gJ
open Nat renaming le_refl->aX,beq->bX,ble->gD,lt_of_lt_of_le->bM
open Bool renaming not_eq_true'->bB,false_eq_true->aA
open Array renaming replicate->gE,toArray_toList->bW,getD_eq_getD_getElem?->aQ,getElem?_setIfInBounds_ne->aZ
set_option linter.all false
namespace Go.GD
open Go
variable {G:List bc}{K:St->Prop}{M N d i k l m n r:Nat}{P:Program}{R:Rows}{T:iu}{a:Act}{b:Bool}{code:Code}{ex:List Nat}{f:FuncId}{fn:Func}{o':Obj}{ro:Option Nat}{st:St}{tm:Array Value}{v:Value}{vs:List Value}{w w0:World}{x:Operand}
theorem ff.jO{c0:Ctx}{c:Ctx}(h:ff N M c0 w0 c w st a)(hb:cq st.env x=.bool b):ff N M c0 w0 c w (st.jO x b) a:=by
 cases x with
 |tmp t=>exact⟨h.mem,h.rows,λs=>by rw[Sc hb];exact h.env s,h.size,h.defers,h.fv,h.gp,h.reach⟩
 |_=>exact h
theorem ff.G4{c0:Ctx}{c:Ctx}(h:ff N M c0 w0 c w st a)(hb:a.eval x=.bool b):ff N M c0 w0 c w (st.jO x b) a:=by
 cases x with
 |tmp t=>
  refine⟨h.mem,h.rows,λs=>?_,h.size,h.defers,h.fv,h.gp,h.reach⟩
  simp only[St.jO,Ax]
  split
  ·rename_i e;subst e;exact hb
  ·exact h.env s
 |_=>exact h
theorem zv(hT:Q4 P T)(hG:jr P G){id:Nat}{ops:Array Oper}{Q:Ex->St->Prop}(h:lL T G N M ops ops.toList st λst=>Q .normal st):tG ro P N M (.region id ops false) st Q:=by
 intro c0 w0 c w a hs
 refine Zhu ?_
 have:=qY (P:=P) (ops:=ops) hT hG (Q:=λe a' w'=>∃ex ji c',mG e=some ex/\Q ex ji/\ff N M c0 w0 c' w' ji a') (λst c w a hK hs=>⟨_,st,c,rfl,hK,hs⟩) ops.toList 0 st c w a (by simp) h hs
 rwa [<-gC,Array.length_toList]at this
theorem Z17{c:Ctx}{w:World}{i n:Nat}{row:Row}(hn:c.R n=some row)(hb:row.box=false)(hV:c.V n):∀{e e':List D},G5 i n e=some e'->e'.length=e.length/\∀arr off,ku c w e arr off->ku c w e' arr off
 |[],e',h=>by simp[G5]at h
 |d ::l,e',h=>by
  unfold G5 at h
  split at h
  ·cases h
   refine⟨rfl,λarr off hc=>?_⟩
   obtain⟨⟨v,hv,h1⟩,⟨u,hu,h2⟩,h3⟩:=hc
   exact⟨⟨v,hv,.inl h1⟩,⟨u,hu,row,hn,hb,.inl ⟨hV,none,h2,ML⟩⟩,h3⟩
  ·split at h
   ·rename_i l' pq
    cases h
    obtain⟨g1,g2⟩:=Z17 hn hb hV pq
    exact⟨by simp[g1],λarr off hc=>⟨hc.1,g2 arr _ hc.2⟩⟩
   ·cases h
theorem Z1a{n:Nat}:∀{R:Rows} {k i:Nat} {ty:TypeId} {sz:Nat} {e':List D},I5 n R k=some (i,ty,sz,e')->∃e j,i=k+j/\R[j]?=some (some ⟨true,ty,sz,.gen [e]⟩)/\G5 i n e=some e'
 |[],k,i,ty,sz,e',h=>by simp[I5]at h
 |x ::l,k,i,ty,sz,e',h=>by
  have next:I5 n l (k+1)=some (i,ty,sz,e')->∃e j,i=k+j/\(x::l)[j]?=some (some ⟨true,ty,sz,.gen [e]⟩)/\G5 i n e=some e':=λh=>by
   obtain⟨e,j,h1,h2,h3⟩:=Z1a h
   exact⟨e,j+1,by omega,by simpa using h2,h3⟩
  unfold I5 at h
  split at h
  ·split at h
   ·rename_i e1 he
    cases h
    exact⟨_,0,rfl,rfl,he⟩
   ·exact next h
  ·exact next h
theorem qau{c0:Ctx}{c:Ctx}(h:I6 T code st K)(hs:ff N M c0 w0 c w st a): ∃ji c',K ji/\ff N M c0 w0 c' w ji a:=by
  unfold I6 at h
  split at h
  . exact⟨st,c,h,hs⟩
  . rename_i u hu
    split at h
    . exact⟨st,c,h,hs⟩
    . rename_i i ty sz e' hf
      simp only[D.e7,mX]at h
      obtain⟨e,j,h1,h2,h3⟩:=Z1a hf
      rw[Nat.zero_add]at h1
      subst h1
      have bg:=(List.getElem?_eq_some_iff.1 h2).1
      have hi:c.R i=some ⟨true,ty,sz, .gen [e]⟩:=by rw[hs.rows,aV,h2];rfl
      have hn:c.R st.rows.length=none:=by rw[hs.rows,aV,aJ (aX _)];rfl
      have gm:i≠st.rows.length:=by omega
      have HM:=V5 hs.mem hn (row:=⟨false,u,1, .ints .u8 []⟩) rfl rfl Nat.one_pos
      have V6:=Sh (w:=w) hn ⟨false,u,1, .ints .u8 []⟩
      have V7:(c.jl st.rows.length ⟨false,u,1, .ints .u8 []⟩).R i=some ⟨true,ty,sz, .gen [e]⟩:=by simp [Ctx.jl,gm,hi]
      obtain⟨q1,q2⟩:=Z17 (c:=c.jl st.rows.length ⟨false,u,1, .ints .u8 []⟩) (w:=w) (row:=⟨false,u,1, .ints .u8 []⟩) (by simp [Ctx.jl]) rfl (.inl rfl) h3
      obtain⟨V8,Bv⟩:=vb HM V7 q1 (λarr=>q2 arr 0)
      have hg:=V6.trans V8
      have nm:lB c w ((c.jl st.rows.length ⟨false,u,1, .ints .u8 []⟩).jK i ⟨true,ty,sz, .gen [e']⟩) w:=by
        refine⟨Bv,hg,Fr.refl _ w,λb hb=> .inl hb,λr ao hr hv=> .inl ?_⟩
        have V9:r≠st.rows.length:=λe=>hv (.inl e)
        by_cases er:r=i
        . subst er;exact⟨⟨_,hi⟩,λe=>hv (.inr e),rfl⟩
        . exact⟨⟨ao,by simpa [Ctx.jK,Ctx.jl,er,V9] using hr⟩,λe=>hv (.inr e),rfl⟩
      refine⟨_,_,h,Bv,λr=> ?_,λt=>Qb hg (hs.env t),hs.size,hs.defers,hs.fv,hs.gp,hs.reach.step (ks:=[]) (λk hk=>by simp [cv]at hk) hs.gp nm.toK⟩
      simp only[Ctx.jK,Ctx.jl]
      by_cases er:r=i
      . subst er
        simp [aV,bI (show r<(st.rows.set r _).length by simpa using bg),bg]
      . rw [if_neg er]
        by_cases en:r=st.rows.length
        . subst en
          simp [aV]
        . rw[if_neg en,hs.rows]
          by_cases hl:r<st.rows.length
          . simp [aV,bI (show r<(st.rows.set i _).length by simpa using hl),List.getElem?_set_ne (Ne.symm er)]
          . have h1:st.rows.getD r none=none:=by rw[aV,aJ (by omega)];rfl
            rw[h1,aV,aJ (by simp;omega)];rfl
def pk(P:Program):Prop:=∀(ro:Option Nat) (T:iu) (G:List bc) (N M id:Nat) (ops:Array Oper) (st:St) (Q:Ex->St->Prop),Q4 P T->jr P G->uA T G N M ops st Q->tG ro P N M (.region id ops true) st Q
def Qm(y:Array Tmp×Code×Code):Code->Prop
 |.seq a b=>Qm y a/\Qm y b
 |.cond _ a b=>Qm y a/\Qm y b
 |.block _ a=>Qm y a
 |.loop a=>Qm y a
 |.scope a=>Qm y a
 |.rangeFunc _ ps x b=>(ps,x,b)=y
 |_=>True
def RF(o:Option Nat)(n:Nat)(c:Code):Prop:=match o with|none=>True|some f=>∃y,(Ak f=some y/\y.n<=n/\y.ts=Wb f/\YB<=f/\y.ps.size=1)/\Qm (y.ps,y.assign,y.body) c
theorem vT{c:Code}{Q:Exit->Act->World->Prop}(h:c.wpIn (AA ro) 0 P (Exit.noGoto Q) a w):(Code.scope c).wpIn (AA ro) 0 P Q a w:=by
 intro b k cs Di hb hr
 have s1:step P (lone (b.atR a (.code (.scope c)::k)) cs w)=.next (lone (b.atR a (.code c:: .inScope c::k)) cs w):=step_lone_go (by simp[stepG,stepG.exec,Frame.atR])
 have h0:(lone (b.atR a (.code (.scope c)::k)) cs w).fenced P (AA ro):=fenced_calm hb hr rfl
 obtain⟨e,CA,CB,hq,o9⟩:=h b (.inScope c::k) cs Di hb hr
 cases e with
 |normal=>exact⟨.normal,CA,CB,hq,.head h0 s1 (StepsIn.trans o9 (.one (fenced_calm hb hr rfl) (step_lone_go (by simp[stepG,stepG.exec,Frame.atR]))))⟩
 |exit id=>
  have hx:exitTo id (.inScope c::k)=exitTo id k:=by simp[exitTo]
  exact⟨.exit id,CA,CB,hq,λk' hk=>.head h0 s1 (o9.1 k' (by rw[hx];exact hk)),λpw hk=>let⟨k₁,h1,h2⟩:=o9.2 pw (by rw[hx];exact hk);⟨k₁,h1,.head h0 s1 h2⟩⟩
 |goto l=>exact hq.elim
 |ret=>exact⟨_,CA,CB,hq,.of_steps (.one h0 s1) o9⟩
 |panic ch=>exact⟨_,CA,CB,hq,.of_steps (.one h0 s1) o9⟩
 |outgrown=>exact⟨_,CA,CB,hq,.of_steps (.one h0 s1) o9⟩
theorem yv{c0:Ctx}{c:Ctx}{ops:List Oper}(h:uB ops st K)(hs:ff N M c0 w0 c w st a):∃ji,K ji/\ff N M c0 w0 c w ji a:=by
 unfold uB at h
 split at h
 ·exact⟨st,h,hs⟩
 ·rename_i x _
  split at h
  ·rename_i b hb
   cases b with
   |true=>exact⟨_,h,hs.jO hb⟩
   |false=>exact⟨_,h,hs.jO hb⟩
  ·exact⟨st,h,hs⟩
theorem MP(hD:pk P)(hT:Q4 P T)(hG:jr P G){L:Code->St->(Ex->St->Prop)->Prop}{S:Code->Prop}(hS:(∀a b,S (.seq a b)->S a/\S b)/\(∀c a b,S (.cond c a b)->S a/\S b)/\(∀i a,S (.block i a)->S a)/\(∀a,S (.scope a)->S a))(hL:∀code st Q,S code->L code st Q->tG ro P N M code st Q):∀(code:Code) (st:St) (Q:Ex->St->Prop),S code->oM T G N M L code st Q->tG ro P N M code st Q:=by
 intro code
 induction code with
 |skip=>exactλst Q _ h c0 w0 c w a hs=>wpIn_skip ⟨_,st,c,rfl,h,hs⟩
 |label l=>exactλst Q _ h c0 w0 c w a hs=>wpIn_label ⟨_,st,c,rfl,h,hs⟩
 |region id ops draw=>
  intro st Q hc h c0 w0 c w a hs
  simp only[oM]at h
  obtain⟨st0,h,Bm⟩:=yv h hs
  obtain⟨R1,c1,h,lz⟩:=FO h Bm
  obtain⟨ji,c',h,iP⟩:=zad h lz
  cases draw with
  |false=>exact zv hT hG h c0 w0 c' w a iP
  |true=>exact hD ro T G N M id ops ji Q hT hG h c0 w0 c' w a iP
 |seq x y ihx Uz=>
  intro st Q hc h c0 w0 c w a hs
  simp only[oM]at h
  refine wpIn_seq (wpIn_mono (ihx st _ (hS.1 _ _ hc).1 h c0 w0 c w a hs) λe a' w' hq=>?_)
  obtain⟨ex,ji,c',he,hq,iP⟩:=hq
  cases e<;>simp only[mG,Option.some.injEq,reduceCtorEq]at he
  ·subst he
   obtain⟨st2,c2,hq,Mv⟩:=qau hq iP
   exact Uz st2 Q (hS.1 _ _ hc).2 hq c0 w0 c2 w' a' Mv
  ·subst he;exact⟨_,ji,c',rfl,hq,iP⟩
  ·subst he;exact⟨_,ji,c',rfl,hq,iP⟩
 |cond x y z Uz ihz=>
  intro st Q hc h c0 w0 c w a hs
  simp only[oM]at h
  split at h
  ·rename_i b hb
   have hv:=MH hs.env x
   rw[hb]at hv
   have hv:=Rep.bool.1 hv
   cases b with
   |true=>exact wpIn_cond_true hv (Uz _ Q (hS.2.1 _ _ _ hc).1 h c0 w0 c w a (hs.jO hb))
   |false=>exact wpIn_cond_false hv (ihz _ Q (hS.2.1 _ _ _ hc).2 h c0 w0 c w a (hs.jO hb))
  ·rename_i es hb
   have hv:=MH hs.env x
   rw[hb]at hv
   obtain⟨b,hv,gx⟩:=hv
   cases b with
   |true=>exact wpIn_cond_true hv (Uz _ Q (hS.2.1 _ _ _ hc).1 (h.1 (ai.nX.2 (gx rfl))) c0 w0 c w a (hs.G4 hv))
   |false=>exact wpIn_cond_false hv (ihz _ Q (hS.2.1 _ _ _ hc).2 h.2 c0 w0 c w a (hs.G4 hv))
  ·exact h.elim
 |block id x ih=>
  intro st Q hc h c0 w0 c w a hs
  simp only[oM]at h
  refine wpIn_block (wpIn_mono (ih st _ (hS.2.2.1 _ _ hc) h c0 w0 c w a hs) λe a' w' hq=>?_)
  obtain⟨ex,ji,c',he,hq,iP⟩:=hq
  cases e<;>simp only[mG,Option.some.injEq,reduceCtorEq]at he
  ·subst he;exact⟨_,ji,c',rfl,hq,iP⟩
  ·rename_i i
   subst he
   simp only[Exit.inBlock]
   simp only at hq
   cases hb:bX i id with
   |true=>
    simp only[hb]at hq
    rw[if_pos (bE hb)]
    exact⟨_,ji,c',rfl,hq,iP⟩
   |false=>
    simp only[hb]at hq
    rw[if_neg (λe=>by rw[e]at hb;simp at hb)]
    exact⟨_,ji,c',rfl,hq,iP⟩
  ·subst he;exact⟨_,ji,c',rfl,hq,iP⟩
 |exit id=>exactλst Q _ h c0 w0 c w a hs=>wpIn_exit ⟨_,st,c,rfl,h,hs⟩
 |ret=>exactλst Q _ h c0 w0 c w a hs=>wpIn_ret ⟨_,st,c,rfl,h,hs⟩
 |loop x ih=>exactλst Q hc h=>hL _ _ _ hc h
 |rangeFunc g ps x y _ _=>exactλst Q hc h=>hL _ _ _ hc h
 |scope x ih=>
  intro st Q hc h c0 w0 c w a hs
  simp only[oM]at h
  refine vT (wpIn_mono (ih st _ (hS.2.2.2 _ hc) h c0 w0 c w a hs) λe a' w' hq=>?_)
  obtain⟨ex,ji,c',he,hq,iP⟩:=hq
  cases e<;>simp only[mG,Option.some.injEq,reduceCtorEq]at he
  all_goals(subst he;exact⟨_,ji,c',rfl,hq,iP⟩)
 |goto l=>exactλst Q hc h=>hL _ _ _ hc h
 |refuse y=>exactλst Q hc h=>hL _ _ _ hc h
theorem MQ(o:Option Nat)(n:Nat):(∀a b,RF o n (.seq a b)->RF o n a/\RF o n b)/\(∀c a b,RF o n (.cond c a b)->RF o n a/\RF o n b)/\(∀i a,RF o n (.block i a)->RF o n a)/\(∀a,RF o n (.scope a)->RF o n a):=by
 cases o with
 |none=>exact⟨λ_ _ _=>⟨trivial,trivial⟩,λ_ _ _ _=>⟨trivial,trivial⟩,λ_ _ _=>trivial,λ_ _=>trivial⟩
 |some f=>exact⟨λ_ _ ⟨y,h,h1,h2⟩=>⟨⟨y,h,h1⟩,⟨y,h,h2⟩⟩,λ_ _ _ ⟨y,h,h1,h2⟩=>⟨⟨y,h,h1⟩,⟨y,h,h2⟩⟩,λ_ _ ⟨y,h,h1⟩=>⟨y,h,h1⟩,λ_ ⟨y,h,h1⟩=>⟨y,h,h1⟩⟩
def oG:Code->Nat
 |.seq a b=>oG a+oG b
 |.cond _ a b=>oG a+oG b
 |.block _ a=>oG a
 |.loop a=>oG a
 |.scope a=>oG a
 |.rangeFunc _ _ _ _=>1
 |_=>0
theorem Zjk:∀{c:Code} (y:Array Tmp×Code×Code),oG c=0->Qm y c:=by
 intro c
 induction c with
 |seq a b EY EZ=>intro y h;simp only[oG]at h;exact⟨EY y (by omega),EZ y (by omega)⟩
 |cond x a b EY EZ=>intro y h;simp only[oG]at h;exact⟨EY y (by omega),EZ y (by omega)⟩
 |block i a ih=>intro y h;exact ih y h
 |loop a ih=>intro y h;exact ih y h
 |scope a ih=>intro y h;exact ih y h
 |rangeFunc g ps x b _ _=>intro y h;simp[oG]at h
 |_=>intro y h;trivial
theorem qU:∀{c:Code} {y:Array Tmp×Code×Code},oG c<=1->sI c=some y->Qm y c/\1<=oG c:=by
 intro c
 have two:∀{a b:Code} {y:Array Tmp×Code×Code},(∀{y},oG a<=1->sI a=some y->Qm y a/\1<=oG a)->(∀{y},oG b<=1->sI b=some y->Qm y b/\1<=oG b)->oG a+oG b<=1->(match sI a with|some x=>some x|none=>sI b)=some y->(Qm y a/\Qm y b)/\1<=oG a+oG b:=by
  intro a b y EY EZ h hy
  cases ha:sI a with
  |some x=>
   rw[ha]at hy
   cases hy
   obtain⟨h1,h2⟩:=EY (by omega) ha
   exact⟨⟨h1,Zjk _ (by omega)⟩,by omega⟩
  |none=>
   rw[ha]at hy
   obtain⟨h1,h2⟩:=EZ (by omega) hy
   exact⟨⟨Zjk _ (by omega),h1⟩,by omega⟩
 induction c with
 |seq a b EY EZ=>intro y h hy;exact two EY EZ h hy
 |cond x a b EY EZ=>intro y h hy;exact two EY EZ h hy
 |block i a ih=>intro y h hy;exact ih h hy
 |loop a ih=>intro y h hy;exact ih h hy
 |scope a ih=>intro y h hy;exact ih h hy
 |rangeFunc g ps x b _ _=>intro y h hy;simp only[sI,Option.some.injEq]at hy;exact⟨hy,aX _⟩
 |_=>intro y h hy;simp[sI]at hy
def rfB(f:Nat)(fn:Func):Bool:=match fn.body with
 |some c=>gD (oG c) 1&&(gD YB f&&(match sI c with|some y=>bX y.1.size 1|none=>false))
 |none=>false
theorem G6{f:Nat}(h:rfB f fn=true)(hy:Ak f=Fa (Wb f) fn):∀code,fn.body=some code->RF (some f) fn.ntmps code:=by
 intro code hb
 unfold rfB at h
 unfold Fa at hy
 simp only[hb,aE]at h hy
 obtain⟨h1,h2,h3⟩:=h
 split at h3
 ·rename_i y hf
  rw[hf]at hy
  exact⟨_,⟨hy,aX _,rfl,lE h2,bE h3⟩,(qU (lE h1) hf).1⟩
 ·cases h3
def Ctx.out(c:Ctx)(ex:List Nat)(rows:List Row):Ctx:=
 { ρ:=λi=>match ex[i]? with|some r=>c.ρ r|none=>c.ρ i,R:=λi=>rows[i]?,V:=λi=>match ex[i]? with|some r=>c.R r=none\/c.V r|none=>True,
   I:=λb=>c.I b\/ ∃r row,c.R r=some row/\ ¬c.V r/\row.box=false/\J4 ex r=true/\c.ρ r=b,base:=c.base,top:=c.top,X:=c.X}
theorem UA(h:jY ex i r=true):ex[i]?=some r:=by
 unfold jY at h
 split at h
 ·rename_i x hx;rw[hx,bE h]
 ·cases h
theorem Zrx(h:H0 ex R i=true):∃r,ex[i]?=some r/\R.getD r none=none:=by
 unfold H0 at h
 split at h
 ·rename_i r hr
  refine⟨r,hr,?_⟩
  split at h
  ·assumption
  ·cases h
 ·cases h
theorem Zcd(h:J4 ex r=true):r∉ex:=by
 intro hm
 have:=List.all_eq_true.1 h r hm
 simp at this
theorem PR{ex:List Nat}{m:Nat}{R:Rows}:∀{rs:List Nat} {ps:List Row},lG ex m R rs ps->rs.length=ps.length/\∀(i r:Nat) (p:Row),rs[i]?=some r->ps[i]?=some p->
 (∃row,R.getD r none=some row/\row.box=p.box/\row.ty=p.ty/\row.sz=p.sz/\(if p.box then∃e e',row.es=.gen [e]/\p.es=.gen [e']/\Dj ex m R e e' else row.es.l=p.es.l))\/(R.getD r none=none/\p.box=false/\p.es.l=[]/\0<p.sz)
 |[],[],_=>⟨rfl,λi r p h=>by simp at h⟩
 |[],_::_,h=>h.elim
 |_::_,[],h=>h.elim
 |r ::rs,⟨box,ty,sz,es⟩::ps,h=>by
  simp only[lG]at h
  obtain⟨h1,h2⟩:=h
  obtain⟨g1,g2⟩:=PR h2
  refine⟨by simp[g1],λi q p hq hp=>?_⟩
  cases i with
  |succ i=>exact g2 i q p (by simpa using hq) (by simpa using hp)
  |zero=>
   simp at hq hp
   subst hq;subst hp
   split at h1
   ·rename_i wV jN jX iQ hR
    simp only[dd,aE]at h1
    obtain⟨⟨⟨e1,e2⟩,e3⟩,h1⟩:=h1
    refine .inl ⟨_,hR,by cases box<;>cases wV<;>simp_all,(bE e2).symm,(bE e3).symm,?_⟩
    cases box with
    |false=>simpa using ai.wT h1
    |true=>
     simp only[if_true]
     simp only at h1
     split at h1
     ·exact⟨_,_,rfl,rfl,h1⟩
     ·exact h1.elim
   ·rename_i hR
    simp only[dd,aE,bB]at h1
    exact .inr ⟨hR,h1.1.1,ai.nX.1 h1.2,lE h1.1.2⟩
theorem Si{c:Ctx}{rows:List Row}(hR:∀r,c.R r=R.getD r none)(db:lG ex m R ex rows){i r o f:Nat}(hx:jY ex i r=true)(hr:dc c w (.ptr r o f) v):dc (c.out ex rows) w (.ptr i o f) v:=by
 obtain⟨row,g1,gV,g2,hv⟩:=hr
 have hi:=UA hx
 obtain⟨hl,ir⟩:=PR db
 have bg:=(List.getElem?_eq_some_iff.1 hi).1
 have hp:rows[i]?=some rows[i]:=aI (by omega)
 rcases ir i r _ hi hp with⟨ao,k1,k2,k3,k4,k5⟩|⟨k1,_⟩
 ·have:ao=row:=by rw[hR,k1]at g1;exact Option.some.inj g1
  subst this
  refine⟨_,hp,by simp[Ctx.out,hi,g1,gV],?_,by simp only[Ctx.out,hi];rw[hv,k4]⟩
  split at k5
  ·obtain⟨e,e',q1,q2,_⟩:=k5
   rw[q1]at g2;rw[q2];exact g2
  ·rw[<-k5];exact g2
 ·rw[hR,k1]at g1;cases g1
theorem Zq2{c:Ctx}{w:World}{ex:List Nat}{m:Nat}{R:Rows}{rows:List Row}(hR:∀r,c.R r=R.getD r none)(db:lG ex m R ex rows):∀{ps qs:List (Nat×Nat×Nat)} {us:List Value},r8 ex ps qs=true->LZ c qs us->LZ (c.out ex rows) ps us
 |[],[],_,_,h=>by rename_i us _;cases us<;>exact h
 |(i,b,d)::l,(r,y,z)::q,u::us,h,hr=>by
  simp only[r8,aE]at h
  obtain⟨h1,h2,h3,h4⟩:=h
  have e2:=bE h2;have e3:=bE h3
  subst e2;subst e3
  exact⟨Si (w:=w) hR db h1 hr.1,Zq2 (w:=w) hR db h4 hr.2⟩
 |(_,_,_)::_,(_,_,_)::_,[],_,h=>h.elim
 |[],_::_,_,h,_=>by simp[r8]at h
 |_::_,[],_,h,_=>by simp[r8]at h
theorem xU{c:Ctx}{rows:List Row}(hR:∀r,c.R r=R.getD r none)(db:lG ex m R ex rows):∀{cs ds:List iy} {us:List Value},oO ex cs ds=true->oy c w ds us->oy (c.out ex rows) w cs us:=by
 intro cs
 induction cs with
 |nil=>intro ds us h hr;cases ds<;>cases us<;>first|exact hr|(simp[oO]at h;done)
 |cons x cs ih=>
  intro ds us h hr
  cases ds with
  |nil=>cases x<;>simp[oO]at h
  |cons y ds=>
   cases us with
   |nil=>exact hr.elim
   |cons u us=>
    cases x<;>cases y<;>simp only[oO,aE,aA]at h
    ·obtain⟨h1,h2,h3,h4⟩:=h
     have e2:=bE h2;have e3:=bE h3
     subst e2;subst e3
     exact⟨Si (w:=w) hR db h1 hr.1,ih h4 hr.2⟩
    ·obtain⟨h1,h2,h3⟩:=h
     have e1:=bE h1
     subst e1
     obtain⟨⟨ws,hv,hw⟩,TY⟩:=hr
     exact⟨⟨ws,LO (c:=c) (c':=c.out ex rows) (w':=w) (λb hb=>⟨Or.inl hb,rfl⟩) hv,Zq2 (w:=w) hR db h2 hw⟩,ih h3 TY⟩
section
variable {c:Ctx} {w:World} {ex:List Nat} {m:Nat} {R:Rows} {rows:List Row}
theorem Y8(hm:Mem c w)(hR:∀r,c.R r=R.getD r none)(db:lG ex m R ex rows)(e6:∀r row,c.R r=some row->¬c.V r->m<=r->c.base<=c.ρ r){d p:D}(h:iG ex m R d p)(hr:dc c w d v):dc (c.out ex rows) w p v:=by
 have nn:∀b,c.I b->(c.out ex rows).I b/\w.heap[b]?=w.heap[b]? :=λb hb=>⟨.inl hb,rfl⟩
 obtain⟨hl,ir⟩:=PR db
 have rowOf:∀i r row,ex[i]?=some r->c.R r=some row->∃p,rows[i]?=some p/\row.box=p.box/\row.ty=p.ty/\row.sz=p.sz/\row.es.l.length=p.es.l.length/\(c.out ex rows).ρ i=c.ρ r/\((c.out ex rows).V i↔c.V r):=by
  intro i r row hi c6
  have bg:=(List.getElem?_eq_some_iff.1 hi).1
  have hp:rows[i]?=some rows[i]:=aI (by omega)
  rcases ir i r _ hi hp with⟨ao,g1,g2,g3,g4,g5⟩|⟨g1,_⟩
  ·have:ao=row:=by rw[hR,g1]at c6;exact Option.some.inj c6
   subst this
   refine⟨_,hp,g2,g3,g4,?_,by simp[Ctx.out,hi],by simp[Ctx.out,hi,c6]⟩
   split at g5
   ·obtain⟨e,e',k1,k2,_⟩:=g5
    rw[k1,k2];rfl
   ·rw[g5]
  ·rw[hR,g1]at c6;cases c6
 have MS:∀i a,H0 ex R i=true->v=.slice a 0 0->Cg c.top a->dc (c.out ex rows) w (.all i) v:=by
  intro i a hv Dx dx
  obtain⟨r,hi,hrn⟩:=Zrx hv
  have bg:=(List.getElem?_eq_some_iff.1 hi).1
  have hp:rows[i]?=some rows[i]:=aI (by omega)
  rcases ir i r _ hi hp with⟨ao,g1,_⟩|⟨g1,g2,g3,g4⟩
  ·rw[hrn]at g1;cases g1
  ·exact⟨_,hp,g2,.inl ⟨by simp only[Ctx.out,hi];exact .inl (by rw[hR];exact g1),a,Dx,dx⟩⟩
 cases p<;>simp only[iG]at h
 case int k n=>
  split at h
  ·simp only[dd,decide_eq_true_eq]at h;obtain⟨rfl,rfl⟩:=h;exact hr
  ·exact h.elim
 case bool b=>
  split at h
  ·subst h;exact hr
  ·exact h.elim
 case str s=>
  split at h
  ·subst h;exact hr
  ·exact h.elim
 case iC=>
  split at h
  ·exact hr
  ·exact h.elim
 case c9=>
  split at h
  ·exact hr
  ·exact h.elim
 case emp=>
  split at h
  ·exact⟨none,hr,ML⟩
  ·exact hr
  ·exact h.elim
 case jC=>
  split at h
  ·exact hr
  ·exact h.elim
 case gj f cs=>
  split at h
  ·simp only[dd,aE]at h
   obtain⟨⟨h1,h2⟩,_⟩:=h
   have e1:=bE h1
   subst e1
   obtain⟨us,hv,hu⟩:=hr
   exact⟨us,LO (c:=c) (c':=c.out ex rows) (w':=w) (λb hb=>⟨Or.inl hb,rfl⟩) hv,xU hR db h2 hu⟩
  ·exact h.elim
 case ptr i o f=>
  split at h
  ·simp only[dd,aE]at h
   obtain⟨⟨h1,h2,h3⟩,_⟩:=h
   have e2:=bE h2;have e3:=bE h3
   subst e2;subst e3
   exact Si (w:=w) hR db h1 hr
  ·exact h.elim
 case ga i=>
  have go:∀r,jY ex i r=true->dc c w (.ga r) v->dc (c.out ex rows) w (.ga i) v:=by
   intro r hx hr
   rcases hr with hr|⟨row,g1,gV,g2,hv⟩
   ·exact .inl hr
   ·have hi:=UA hx
    obtain⟨p,hp,q1,q2,q3,q4,q5,q6⟩:=rowOf i r row hi g1
    exact .inr ⟨p,hp,λe=>gV (q6.1 e),by rw[<-q4];exact g2,by rw[hv,q5,q3]⟩
  split at h
  ·exact .inl hr
  ·simp only[dd]at h;exact go _ h.1 hr
  ·simp only[dd,aE]at h
   obtain⟨⟨h1,h2,h3⟩,_⟩:=h
   have e2:=bE h2;have e3:=bE h3
   subst e2;subst e3
   exact go _ h1 (.inr hr)
  ·exact h.elim
 case dead=>exact dc.one hr
 case sl sz es fr=>
  split at h
  ·have h:=ai.nX.1 h;exact⟨none,0,by rw[h];exact hr,by rw[h];exact aX _,.inl h⟩
  ·have h:=ai.nX.1 h;obtain⟨a,hr,_⟩:=hr;exact⟨a,0,by rw[h];exact hr,by rw[h];exact aX _,.inl h⟩
  ·rename_i jX iQ fr'
   simp only[dd,Bool.or_eq_true,bB]at h
   obtain⟨hf,hs,he⟩:=h
   have he:=ai.wT he
   obtain⟨a,cap,hv,hc,gx⟩:=hr
   rw[he]at hv hc gx
   refine⟨a,cap,hv,hc,?_⟩
   rcases gx with gx|⟨b,off,arr,ty,fz,ha,hI,TE,hh,hE⟩
   ·exact .inl gx
   ·rcases hs with hs|rfl
    ·exact .inl (by rw[<-he];exact ai.nX.1 hs)
    ·exact .inr ⟨b,off,arr,ty,fz,ha,.inl hI,λe=>TE (by rcases hf with hf|hf<;>simp_all),hh,ng nn _ _ _ _ hE⟩
  ·rename_i r
   split at h
   ·rename_i box ty jX iQ Y9
    simp only[dd,aE,bB]at h
    obtain⟨⟨⟨⟨hb,hs⟩,ho⟩,I7⟩,Al⟩:=h
    have Al:=ai.wT Al
    have hs:=bE hs
    have I7:=lE I7
    obtain⟨row,g1,g2,hv⟩:=hr
    have:row=⟨box,ty,jX,iQ⟩:=by rw[hR,Y9]at g1;exact(Option.some.inj g1).symm
    subst this
    subst hs
    rcases hv with⟨hV,a,hv,_⟩|⟨hV,cap,arr,hv,g3,g4,g5,g6⟩
    ·have he:=(hm.nd g1 hV).2.1
     simp only at he
     rw[he]at Al
     exact⟨a,0,by rw[<-Al];exact hv,by rw[<-Al];exact aX _,.inl Al.symm⟩
    obtain⟨iE,ju,iP,hx⟩:=hm.real g1 hV
    rw[g5]at ju;cases ju
    simp only[hb,aA,if_false]at hx
    simp only at hv g3 hx
    rw[Al]at hv g3 hx
    exact⟨_,cap,hv,g3,.inr ⟨_,0,arr,_,_,rfl,.inr ⟨r,_,g1,hV,hb,ho,rfl⟩,λ_=>e6 r _ g1 hV I7,g5,ng nn _ _ _ _ hx⟩⟩
   ·exact h.elim
  ·rename_i r o n
   split at h
   ·rename_i box ty jX iQ Y9
    simp only[dd,aE,bB]at h
    obtain⟨⟨⟨⟨hb,hs⟩,ho⟩,I7⟩,Al⟩:=h
    have Al:=ai.wT Al
    rw[ai.iU,ai.j8]at Al
    have hs:=bE hs
    have I7:=lE I7
    obtain⟨row,g1,g2,g5,hv⟩:=hr
    have:row=⟨box,ty,jX,iQ⟩:=by rw[hR,Y9]at g1;exact(Option.some.inj g1).symm
    subst this
    subst hs
    simp only at g5
    have pq:((iQ.l.drop o).take n).length=n:=by simp only[List.length_take,List.length_drop];omega
    rw[Al]at pq
    rcases hv with⟨h0,a,hv,_⟩|⟨hV,cap,arr,g3,g4,g6,hv,g7⟩
    ·subst h0
     have h0:=List.eq_nil_of_length_eq_zero pq
     exact⟨a,0,by rw[pq];exact hv,by omega,.inl h0⟩
    obtain⟨iE,ju,iP,hx⟩:=hm.real g1 hV
    rw[g6]at ju;cases ju
    simp only[hb,aA,if_false]at hx
    have hE:=LD (n:=n) (JQ (l:=o) hx)
    rw[Al]at hE
    exact⟨_,cap,by rw[pq];exact hv,by omega,.inr ⟨_,o*jX,arr,_,_,rfl,.inr ⟨r,_,g1,hV,hb,ho,rfl⟩,λ_=>e6 r _ g1 hV I7,g6,ng nn _ _ _ _ (by simpa using hE)⟩⟩
   ·exact h.elim
  ·exact h.elim
 case all i=>
  split at h
  ·rename_i r
   simp only[dd]at h
   obtain⟨row,g1,g2,hv⟩:=hr
   obtain⟨p,k1,k2,k3,k4,k5,k6,k7⟩:=rowOf i r row (UA h.1) g1
   refine⟨p,k1,by rw[<-k2];exact g2,?_⟩
   rcases hv with⟨hV,hv⟩|⟨hV,cap,arr,hv,g3,g4,g5,g6⟩
   ·exact .inl ⟨k7.2 hV,hv⟩
   ·exact .inr ⟨λe=>hV (k7.1 e),cap,arr,by rw[hv,k5,k6],by rw[<-k5];exact g3,g4,by rw[k6,<-k3];exact g5,by rw[<-k4];exact g6⟩
  ·simp only[dd]at h
   exact MS i none h.1 hr ML
  ·simp only[dd]at h
   obtain⟨a,hr,ho⟩:=hr
   exact MS i a h.1 hr ho
  ·exact h.elim
 case own i o n=>
  split at h
  ·rename_i r o' n'
   simp only[dd]at h
   obtain⟨hx,rfl,rfl⟩:=h
   obtain⟨row,g1,g2,g5,hv⟩:=hr
   obtain⟨p,k1,k2,k3,k4,k5,k6,k7⟩:=rowOf i r row (UA hx) g1
   refine⟨p,k1,by rw[<-k2];exact g2,by rw[<-k5];exact g5,?_⟩
   rcases hv with⟨h0,a,hv,jh⟩|⟨hV,cap,arr,g3,g4,g6,hv,g7⟩
   ·exact .inl ⟨h0,a,hv,jh.mono (aX _) k7 k6⟩
   ·exact .inr ⟨λe=>hV (k7.1 e),cap,arr,g3,g4,by rw[k6,<-k3];exact g6,by rw[k6,<-k4];exact hv,by rw[<-k4];exact g7⟩
  ·exact h.elim
theorem Zjm(hm:Mem c w)(hR:∀r,c.R r=R.getD r none)(db:lG ex m R ex rows)(e6:∀r row,c.R r=some row->¬c.V r->m<=r->c.base<=c.ρ r):∀{ds ps:List D} {vs:List Value},Dj ex m R ds ps->je c w ds vs->je (c.out ex rows) w ps vs
 |[],[],[],_,_=>trivial
 |[],[],_::_,_,h=>h.elim
 |[],_::_,_,h,_=>h.elim
 |_::_,[],_,h,_=>h.elim
 |_::_,_::_,[],_,h=>h.elim
 |d::ds,p::ps,v::vs,h,hr=>⟨Y8 hm hR db e6 h.1 hr.1,Zjm hm hR db e6 h.2 hr.2⟩
theorem Zpx(hm:Mem c w)(hR:∀r,c.R r=R.getD r none)(db:lG ex m R ex rows)(e6:∀r row,c.R r=some row->¬c.V r->m<=r->c.base<=c.ρ r){d p:D}(h:oP ex m R d p)(hr:VRep c w d v):VRep (c.out ex rows) w p v:=by
 cases p with
 |agg ps=>
  simp only[oP]at h
  cases d<;>simp only at h
  obtain⟨vs,hv,hx⟩:=hr
  exact⟨vs,hv,Zjm hm hR db e6 h hx⟩
 |_=>
  simp only[oP]at h
  refine VRep.DT (Y8 hm hR db e6 h (VRep.toC ?_ hr))
  intro cs e
  subst e
  simp[iG,cu,D.G7]at h
theorem Zig(hm:Mem c w)(hR:∀r,c.R r=R.getD r none)(db:lG ex m R ex rows)(e6:∀r row,c.R r=some row->¬c.V r->m<=r->c.base<=c.ρ r):∀{ds ps:List D} {vs:List Value},uY ex m R ds ps->j5 c w ds vs->j5 (c.out ex rows) w ps vs
 |[],[],[],_,_=>trivial
 |[],[],_::_,_,h=>h.elim
 |[],_::_,_,h,_=>h.elim
 |_::_,[],_,h,_=>h.elim
 |_::_,_::_,[],_,h=>h.elim
 |d::ds,p::ps,v::vs,h,hr=>⟨Zpx hm hR db e6 h.1 hr.1,Zig hm hR db e6 h.2 hr.2⟩
theorem Sj(hm:Mem c w)(hR:∀r,c.R r=R.getD r none)(db:lG ex m R ex rows)(e6:∀r row,c.R r=some row->¬c.V r->m<=r->c.base<=c.ρ r){d p:D}(h:r6 ex m R d p)(hr:Rep c w d v):Rep (c.out ex rows) w p v:=by
 cases p with
 |dv ps=>
  simp only[r6]at h
  cases d<;>simp only at h
  obtain⟨vs,hv,hx⟩:=hr
  exact⟨vs,hv,Zig hm hR db e6 h hx⟩
 |dead=>trivial
 |_=>
  simp only[r6]at h
  refine Rep.JV (Zpx hm hR db e6 h (Rep.toV ?_ ?_ hr))
  ·intro ds e;subst e;simp[oP,iG]at h
  ·intro e;subst e;simp[oP,iG]at h
theorem Z75(hm:Mem c w)(hR:∀r,c.R r=R.getD r none)(db:lG ex m R ex rows)(e6:∀r row,c.R r=some row->¬c.V r->m<=r->c.base<=c.ρ r):∀{ds ps:List D} {arr:Array Value} {off:Nat},Dj ex m R ds ps->ku c w ds arr off->ku (c.out ex rows) w ps arr off
 |[],[],_,_,_,_=>trivial
 |[],_::_,_,_,h,_=>h.elim
 |_::_,[],_,_,h,_=>h.elim
 |d::ds,p::ps,arr,off,h,hr=>⟨by obtain⟨⟨v,hv,hx⟩,_⟩:=hr;exact⟨v,hv,Y8 hm hR db e6 h.1 hx⟩,Z75 hm hR db e6 h.2 hr.2⟩
theorem Z1y:∀{ds ps:List D},Dj ex m R ds ps->ds.length=ps.length
 |[],[],_=>rfl
 |[],_::_,h=>h.elim
 |_::_,[],h=>h.elim
 |_::_,_::_,h=>by simp[Z1y h.2]
theorem zau(hm:Mem c w)(hR:∀r,c.R r=R.getD r none)(db:lG ex m R ex rows)(e6:∀r row,c.R r=some row->¬c.V r->m<=r->c.base<=c.ρ r)(kJ:ex.Nodup):Mem (c.out ex rows) w:=by
 have nn:∀b,c.I b->(c.out ex rows).I b/\w.heap[b]?=w.heap[b]? :=λb hb=>⟨.inl hb,rfl⟩
 obtain⟨hl,ir⟩:=PR db
 have inv:∀i p,(c.out ex rows).R i=some p->∃r,ex[i]?=some r/\(c.out ex rows).ρ i=c.ρ r/\((∃row,c.R r=some row/\row.box=p.box/\row.ty=p.ty/\row.sz=p.sz/\((c.out ex rows).V i↔c.V r)/\(if p.box then∃e e',row.es=.gen [e]/\p.es=.gen [e']/\Dj ex m R e e' else row.es.l=p.es.l))\/((c.out ex rows).V i/\p.box=false/\p.es.l=[]/\0<p.sz)):=by
  intro i p hp
  have PS:rows[i]?=some p:=hp
  have bg:=(List.getElem?_eq_some_iff.1 PS).1
  have hi:ex[i]?=some ex[i]:=aI (by omega)
  refine⟨_,hi,by simp[Ctx.out,hi],?_⟩
  rcases ir i _ p hi PS with⟨row,g1,g2,g3,g4,g5⟩|⟨g1,g2⟩
  ·have c6:c.R ex[i]=some row:=by rw[hR];exact g1
   exact .inl ⟨row,c6,g2,g3,g4,by simp[Ctx.out,hi,c6],g5⟩
  ·exact .inr ⟨by simp only[Ctx.out,hi];exact .inl (by rw[hR];exact g1),g2⟩
 refine⟨λi p hp=>?_,λi j p q hp hq v1 v2 he=>?_,λb hb=>?_,hm.top,hm.jQ.mono nn⟩
 ·obtain⟨r,g1,g6,⟨row,g2,g3,g4,g5,gV,g7⟩|⟨gV,g2⟩⟩:=inv i p hp
  ·rcases hm.row r row g2 with⟨h0,h1,h2,h3⟩|⟨h0,arr,ha,hs,hx⟩
   ·refine .inl ⟨gV.2 h0,by rw[<-g3];exact h1,?_,by rw[<-g5];exact h3⟩
    rw[if_neg (by rw[<-g3,h1];simp)]at g7
    rw[<-g7];exact h2
   refine .inr ⟨λe=>h0 (gV.1 e),arr,by rw[g6,<-g4];exact ha,by rw[<-g5];exact hs,?_⟩
   split
   ·rename_i hb
    rw[if_pos hb]at g7
    rw[if_pos (g3.trans hb)]at hx
    obtain⟨e,e',k1,k2,k3⟩:=g7
    obtain⟨e0,q1,q2,q3,q4⟩:=hx
    rw[k1]at q1;cases q1
    exact⟨e',k2,by rw[<-Z1y k3,<-g5];exact q2,by rw[<-g5];exact q3,Z75 hm hR db e6 k3 q4⟩
   ·rename_i hb
    rw[if_neg hb]at g7
    rw[if_neg (by rw[g3];exact hb)]at hx
    rw[<-g7,<-g5]
    exact ng nn _ _ _ _ hx
  ·exact .inl ⟨gV,g2⟩
 ·obtain⟨r,g1,g6,⟨row,g2,_,_,_,gV,_⟩|⟨gV,_⟩⟩:=inv i p hp
  ·obtain⟨s,k1,k6,⟨ao,k2,_,_,_,kV,_⟩|⟨kV,_⟩⟩:=inv j q hq
   ·rw[g6,k6]at he
    have:r=s:=hm.inj r s _ _ g2 k2 (λe=>v1 (gV.2 e)) (λe=>v2 (kV.2 e)) he
    subst this
    exact(List.getElem?_inj (List.getElem?_eq_some_iff.1 g1).1 kJ).1 (g1.trans k1.symm)
   ·exact(v2 kV).elim
  ·exact(v1 gV).elim
 ·rcases hb with hb|⟨r,row,hr,hV,wj,ho,rfl⟩
  ·refine⟨(hm.fe b hb).1,λi p hp v=>?_⟩
   obtain⟨r,g1,g6,⟨row,g2,_,_,_,gV,_⟩|⟨gV,_⟩⟩:=inv i p hp
   ·rw[g6]
    exact(hm.fe b hb).2 r row g2 (λe=>v (gV.2 e))
   ·exact(v gV).elim
  ·refine⟨hm.lt hr hV,λi p hp v=>?_⟩
   obtain⟨s,g1,g6,⟨ao,g2,_,_,_,gV,_⟩|⟨gV,_⟩⟩:=inv i p hp
   ·rw[g6]
    intro e
    have:=hm.inj s r _ _ g2 hr (λe=>v (gV.2 e)) hV e
    subst this
    exact Zcd ho (fL g1)
   ·exact(v gV).elim
end
theorem Zpt:∀{l m:List Nat},L0 l m=true->l=m
 |[],[],_=>rfl
 |x::l,y::m,h=>by
  simp only[L0,aE]at h
  rw[bE h.1,Zpt h.2]
 |[],_::_,h=>by cases h
 |_::_,[],h=>by cases h
theorem xau(h:r7 M ex=true):ex.Nodup/\(∀i,i<M->ex[i]?=some i)/\∀i r,ex[i]?=some r->(i=r/\i<M)\/M<=r:=by
 unfold r7 at h
 simp only[aE]at h
 obtain⟨⟨h1,h2⟩,h3⟩:=h
 replace h1:=Zpt h1
 replace h2:∀r∈ex.drop M,M<=r:=λr hr=>lE (List.all_eq_true.1 h2 r hr)
 replace h3:=LJ.1 h3
 have he:ex=cW M++ex.drop M:=by rw[<-h1,List.take_append_drop]
 generalize hq:ex.drop M=q at he h2 h3
 subst he
 refine⟨?_,λi hi=>by rw[bI (by simpa using hi)];simp[hi],λi r hr=>?_⟩
 ·rw[List.nodup_append]
  exact⟨List.nodup_range,h3,λx hx y hy=>by simp at hx;have:=h2 y hy;omega⟩
 ·by_cases bg:i<M
  ·rw[bI (by simpa using bg)]at hr
   simp[bg]at hr
   exact .inl ⟨hr,bg⟩
  ·rw[List.getElem?_append_right (by simpa using bg)]at hr
   exact .inr (h2 r (fL hr))
theorem Sk{c0:Ctx}{c:Ctx}(hs:ff N M c0 w0 c w st a){aj:List Row}(hex:r7 M ex=true)(db:lG ex M st.rows ex aj):
 (∀r row,c.R r=some row->¬c.V r->M<=r->c.base<=c.ρ r)/\Mem (c.out ex aj) w/\wM c0 w0 (c.out ex aj) w:=by
 obtain⟨kJ,hid,hinv⟩:=xau hex
 obtain⟨hl,ir⟩:=PR db
 have AP:c.base=c0.base:=hs.reach.cz.base
 have CC:∀r row,c.R r=some row->¬c.V r->M<=r->c0.X (c.ρ r)\/w0.heap.size<=c.ρ r:=λr row h1 v h2=>by
  rcases hs.reach.nT r row h1 v with⟨⟨x,hx⟩,_⟩|h3
  ·have:=hs.gp r x hx;omega
  ·exact h3
 have e6:∀r row,c.R r=some row->¬c.V r->M<=r->c.base<=c.ρ r:=λr row h1 v h2=>by
  have:=hs.fv
  rcases CC r row h1 v h2 with h|h
  ·have:=hs.reach.xb _ h;omega
  ·omega
 refine⟨e6,zau hs.mem hs.rows db e6 kJ,⟨hs.reach.cz.base,hs.reach.cz.top,λb ib=>?_,λr row hr=>?_⟩,hs.reach.fr,λb ib=>?_,λi p hp v=>?_,hs.reach.xb⟩
 ·obtain⟨h1,h2⟩:=hs.reach.cz.I b ib
  exact⟨.inl h1,h2⟩
 ·have bg:r<M:=hs.gp r row hr
  obtain⟨PU,g1,g2,g3,g4,g5,g6,gV,g7⟩:=hs.reach.cz.R r row hr
  have hi:=hid r bg
  have mC:=(List.getElem?_eq_some_iff.1 hi).1
  have hp:aj[r]?=some aj[r]:=aI (by omega)
  rcases ir r r _ hi hp with⟨jq,k1,k2,k3,k4,k5⟩|⟨k1,_⟩
  ·have:jq=PU:=by rw[hs.rows,k1]at g1;exact Option.some.inj g1
   subst this
   refine⟨_,hp,k2.symm.trans g2,k3.symm.trans g3,k4.symm.trans g4,?_,by simp[Ctx.out,hi,g6],by simp[Ctx.out,hi,g1,gV],g7⟩
   rw[<-g5]
   split at k5
   ·obtain⟨e,e',q1,q2,_⟩:=k5
    rw[q1,q2];rfl
   ·rw[k5]
  ·rw[hs.rows,k1]at g1;cases g1
 ·rcases ib with h1|⟨r,row,hr,hV,wj,ho,rfl⟩
  ·exact hs.reach.fe b h1
  ·refine .inr ?_
   have:M<=r:=by
    by_cases bg:r<M
    ·exact(Zcd ho (fL (hid r bg))).elim
    ·omega
   exact CC r row hr hV this
 ·have PS:aj[i]?=some p:=hp
  have bg:=(List.getElem?_eq_some_iff.1 PS).1
  have hi:ex[i]?=some ex[i]:=aI (by omega)
  simp only[Ctx.out,hi,not_or]at v⊢
  obtain⟨v1,v2⟩:=v
  rcases ir i _ _ hi PS with⟨jq,k1,k2,k3,k4,k5⟩|⟨k1,_⟩
  ·have G8:c.R ex[i]=some jq:=by rw[hs.rows];exact k1
   rcases hinv i _ hi with⟨h1,h2⟩|h1
   ·rcases hs.reach.nT _ _ G8 v2 with⟨h3,h4,h5⟩|h3
    ·left
     rw[<-h1]at h3 h4
     refine⟨h3,h4,h5.trans ?_⟩
     rw[<-h1]
    ·exact .inr h3
   ·exact .inr (CC _ _ G8 v2 h1)
  ·exact(v1 (by rw[hs.rows];exact k1)).elim
theorem Wf:∀{env:List (Nat×D)} {t k:Nat},k∈Cp (look env t)->k∈wU env
 |[],t,k,h=>by simp[look,Cp,EM,Ae]at h
 |(u,d)::l,t,k,h=>by
  rw[Ax]at h
  simp only[wU,cB]
  split at h
  ·exact .inl h
  ·exact .inr (Wf h)
theorem Wg:∀{R:Rows} {r:Nat} {x:Row} {k:Nat},R.getD r none=some x->k∈kp [x]->k∈FR R
 |some y::l,0,x,k,h,hk=>by
  simp at h;subst h
  simp only[FR,cB];exact .inl hk
 |none::l,0,x,k,h,hk=>by simp at h
 |y::l,r+1,x,k,h,hk=>by
  have:=Wg (R:=l) (r:=r) (by simpa[aV]using h) hk
  cases y<;>simp[FR,this]
 |[],r,x,k,h,_=>by simp[aV]at h
theorem VRep.toRep{c:Ctx}{d:D}(h:VRep c w d v):Rep c w d v:=by
 cases d<;>first|exact h|trivial|exact h.elim
theorem Rep.toVRep{c:Ctx}{d:D}(hv:d.isVal=true)(h:Rep c w d v):VRep c w d v:=by
 cases d<;>first|exact h|(simp[D.isVal]at hv)
theorem j5.length{c:Ctx}{w:World}:∀{ds:List D} {vs:List Value},j5 c w ds vs->ds.length=vs.length
 |[],[],_=>rfl
 |_::_,_::_,h=>by simp[j5.length h.2]
 |[],_::_,h=>h.elim
 |_::_,[],h=>h.elim
theorem Z5o:∀{ds:List D} {i t:Nat},(∃j,t=i+j/\j<ds.length/\look (Fb ds i) t=ds.getD j .dead)\/look (Fb ds i) t=.dead
 |[],i,t=>.inr rfl
 |d ::ds,i,t=>by
  simp only[Fb,Ax]
  by_cases e:i=t
  ·left;exact⟨0,by omega,by simp,by rw[if_pos e];rfl⟩
  ·rw[if_neg e]
   rcases Z5o (ds:=ds) (i:=i+1) (t:=t)with⟨j,h1,h2,h3⟩|h
   ·left;exact⟨j+1,by omega,by simpa using h2,by simpa using h3⟩
   ·right;exact h
theorem Zol{c:Ctx}{ds:List D}(h:j5 c w ds vs)(n t:Nat):Rep c w (look (Fb ds 0) t) ((vs.toArray++gE n undef).getD t undef):=by
 rcases Z5o (ds:=ds) (i:=0) (t:=t)with⟨j,h1,h2,h3⟩|h1
 ·obtain⟨v,hv,hr⟩:=YH h j h2
  rw[h3]
  have:t=j:=by omega
  subst this
  have hx:(vs.toArray++gE n undef).getD t undef=v:=by
   have bg:=(List.getElem?_eq_some_iff.1 hv).1
   have hvv:=(List.getElem?_eq_some_iff.1 hv).2
   simp[Array.getElem?_append,bg,hvv]
  rw[hx]
  exact hr.toRep
 ·rw[h1];trivial
theorem Zrm{t:TypeId}{x:D}{K:D->Rows->Prop}(h:wv T t x R K){c:Ctx}(hr:Rep c w x v):∃a,v=.pointer (some a):=by
 unfold wv at h
 split at h
 ·exact h.elim
 ·cases x<;>simp only at h
  case ptr r i off=>obtain⟨_,_,_,_,hv⟩:=hr;exact⟨_,hv⟩
  case pa r i off len k n=>obtain⟨_,_,_,_,_,hv⟩:=hr;exact⟨_,hv⟩
  case im sz es i off=>obtain⟨_,_,_,_,_,hv,_⟩:=hr;exact⟨_,hv⟩
def L1(tmps:Array Value):ResultVar->Sem Value
 |.tmp t=>pure (tmps.getD t undef)
 |.cell a t=>do loadVar t (<-asAddr (tmps.getD a undef))
theorem UB{P:Program}{T:iu}(hT:Q4 P T){R:Rows}{env:List (Nat×D)}:∀{l:List ResultVar} {K:List D->Prop},Fc T R env l K->
 ∃ds,K ds/\∀c w (tmps:Array Value),Mem c w->lU c R->(∀t,Rep c w (look env t) (tmps.getD t undef))->∃vs,(l.mapM (L1 tmps)).run P w=.ok vs w/\j5 c w ds vs
 |[],K,h=>⟨[],h,λc w tmps _ _ _=>⟨[],rfl,trivial⟩⟩
 |.tmp t::l,K,h=>by
  simp only[Fc,D.c8,dd]at h
  obtain⟨hv,h⟩:=h
  obtain⟨ds,hK,hr⟩:=UB hT h
  refine⟨_,hK,λc w tmps hm hA he=>?_⟩
  obtain⟨vs,h1,h2⟩:=hr c w tmps hm hA he
  refine⟨tmps.getD t undef::vs,?_,(he t).toVRep hv,h2⟩
  simp only[gG,Sem.run_bind,L1,Sem.run_pure,Result.andThen_ok,h1]
 |.cell a t::l,K,h=>by
  simp only[Fc]at h
  obtain⟨val,UC,Dc⟩:=Zgs hT h
  simp only[dd]at UC
  obtain⟨hv,UC⟩:=UC
  obtain⟨ds,hK,hr⟩:=UB hT UC
  refine⟨_,hK,λc w tmps hm hA he=>?_⟩
  obtain⟨vs,h1,h2⟩:=hr c w tmps hm hA he
  obtain⟨u,hu,hx⟩:=Dc c w _ hm hA (he a)
  obtain⟨ad,had⟩:=Zrm h (he a)
  rw[had,Ul]at hu
  refine⟨u::vs,?_,hx.toVRep hv,h2⟩
  simp only[gG,Sem.run_bind,L1,had,asAddr,Sem.run_pure,Result.andThen_ok,hu,h1]
def CD:List Value->Value
 |[v]=>v
 |vs=>.tuple vs.toArray
theorem Z6s{tmps:Array Value}(h:(fn.results.toList.mapM (L1 tmps)).run P w=.ok vs w):(results fn tmps).run P w=.ok (CD vs) w:=by
 have h2:(fn.results.mapM (L1 tmps)).run P w=.ok vs.toArray w:=by
  rw[<-bW (xs:=fn.results),List.mapM_toArray]
  simp only[Sem.run_map,h,Result.andThen_ok]
 have h3:(results fn tmps)=(fn.results.mapM (L1 tmps))>>=λvs=>pure (if h:vs.size=1 then vs[0]else .tuple vs):=by
  unfold results
  congr 1
 rw[h3,Sem.run_bind,h2]
 simp only[Result.andThen_ok,Sem.run_pure]
 congr 1
 match vs with
 |[]=>rfl
 |[v]=>rfl
 |_::_::_=>rfl
theorem ff.MN{c0:Ctx}{c:Ctx}(hs:ff N M c0 w0 c w st a){b:Nat}(hb:w0.heap.size<=b){o o':Obj}(ho:w.heap[b]?=some o)(hc:∀arr ty fz,o≠.cells arr ty fz)
 {Fk:Nat->Prop} (gF:∀k ws v,Fk k->rF c w k ws v->rF {c with I:=λx=>c.I x/\x≠b} (w.putObj b o') k ws v) (hE:∀t,∀k∈Cp (look st.env t),Fk k) (hR:∀r x,c.R r=some x->∀k∈kp [x],Fk k) {ds:List Deferred} (hd:lN w0.heap.size (w.putObj b o') ds):
 ff N M c0 w0 {c with I:=λx=>c.I x/\x≠b} (w.putObj b o') st {a with defers:=ds}:=by
 have c6:∀r x,c.R r=some x->¬c.V r->c.ρ r≠b:=λr x hr hV e=>by
  rcases hs.mem.row r x hr with h|⟨_,arr,h,_⟩
  ·exact hV h.1
  ·rw[e,ho]at h;exact hc _ _ _ (Option.some.inj h)
 have hh:∀r x,c.R r=some x->¬c.V r->(w.putObj b o').heap[c.ρ r]?=w.heap[c.ρ r]? :=λr x hr hV=>World.putObj_heap_other (c6 r x hr hV)
 have hg:IX c w {c with I:=λx=>c.I x/\x≠b} (w.putObj b o'):=by
  refine⟨rfl,aX _,λx arr ty fz hI hx=>?_,λr x hr=>⟨x,hr,rfl,rfl,rfl,rfl,rfl,Iff.rfl,λhV arr ha=>⟨arr,(hh r x hr hV).trans ha,rfl⟩⟩⟩
  have gm:x≠b:=λe=>by subst e;rw[ho]at hx;exact hc _ _ _ (Option.some.inj hx)
  exact⟨⟨hI,gm⟩,(World.putObj_heap_other gm).trans hx⟩
 have jv:∀x,c0.I x->x≠b:=λx hx e=>by
  obtain⟨h1,h2⟩:=hs.reach.cz.I x hx
  have h3:=(hs.mem.fe x h1).1
  rw[e,ho]at h2
  have:=(Array.getElem?_eq_some_iff.1 h2.symm).1
  omega
 refine⟨YE hs.mem hg hh gF hR (λx hx=>⟨by simpa using(hs.mem.fe x hx.1).1,(hs.mem.fe x hx.1).2⟩) (by simp),hs.rows,λt=>Zp5 hg gF (hE t) (hs.env t),hs.size,hd,hs.fv,hs.gp,?_⟩
 refine⟨⟨hs.reach.cz.base,hs.reach.cz.top,λx hx=>?_,λr row hr=>?_⟩,⟨hs.reach.fr.os,hs.reach.fr.tape,hs.reach.fr.output,by simpa using hs.reach.fr.size,λx hx hn=>?_⟩,λx hx=>hs.reach.fe x hx.1,hs.reach.nT,hs.reach.xb⟩
 ·obtain⟨h1,h2⟩:=hs.reach.cz.I x hx
  exact⟨⟨h1,jv x hx⟩,(World.putObj_heap_other (jv x hx)).trans h2⟩
 ·obtain⟨ao,h1,h2,h3,h4,h5,h6,hV,h7⟩:=hs.reach.cz.R r row hr
  refine⟨ao,h1,h2,h3,h4,h5,h6,hV,λnv arr ha=>?_⟩
  obtain⟨iE,g1,g2⟩:=h7 nv arr ha
  refine⟨iE,?_,g2⟩
  rw[World.putObj_heap_other]
  ·exact g1
  ·intro e;rw[e,ho]at g1;exact hc _ _ _ (Option.some.inj g1)
 ·rw[World.putObj_heap_other (by omega)];exact hs.reach.fr.heap x hx hn
theorem ff.edit{c0:Ctx}{c:Ctx}(hs:ff N M c0 w0 c w st a)(hI:c0.I l){rec:Loop}(ho:w0.heap[l]?=some (.loop rec))(CE:∀r x,c0.R r=some x->¬c0.V r->c0.ρ r≠l)
 (mQ:pS (wU st.env++FR st.rows)=true):ff N M {c0 with I:=λx=>c0.I x/\x≠l} (w0.putObj l o') {c with I:=λx=>c.I x/\x≠l} (w.putObj l o') st a:=by
 have hl:w.heap[l]?=some (.loop rec):=(hs.reach.cz.I l hI).2.trans ho
 have Zu:=(Array.getElem?_eq_some_iff.1 ho).1
 have bg:=(Array.getElem?_eq_some_iff.1 hl).1
 have c6:∀r x,c.R r=some x->¬c.V r->c.ρ r≠l:=λr x hr hV=>(hs.mem.fe l (hs.reach.cz.I l hI).1).2 r x hr hV
 have hh:∀r x,c.R r=some x->¬c.V r->(w.putObj l o').heap[c.ρ r]?=w.heap[c.ρ r]? :=λr x hr hV=>World.putObj_heap_other (c6 r x hr hV)
 have gF:∀k ws v,k<YB->rF c w k ws v->rF {c with I:=λx=>c.I x/\x≠l} (w.putObj l o') k ws v:=λk ws v hk hv=>by
  rcases hv with hv|⟨hv,_⟩
  ·exact .inl hv
  ·omega
 have hg:IX c w {c with I:=λx=>c.I x/\x≠l} (w.putObj l o'):=by
  refine⟨rfl,aX _,λx arr ty fz hI hx=>?_,λr x hr=>⟨x,hr,rfl,rfl,rfl,rfl,rfl,Iff.rfl,λhV arr ha=>⟨arr,(hh r x hr hV).trans ha,rfl⟩⟩⟩
  have gm:x≠l:=λe=>by subst e;rw[hl]at hx;cases hx
  exact⟨⟨hI,gm⟩,(World.putObj_heap_other gm).trans hx⟩
 refine⟨YE hs.mem hg hh gF (λr x hr k hk=>MO mQ (eX _ (Wg (by rw[<-hs.rows];exact hr) hk))) (λx hx=>⟨by simpa using(hs.mem.fe x hx.1).1,(hs.mem.fe x hx.1).2⟩) (by simp),hs.rows,λt=>Zp5 hg gF (λk hk=>MO mQ (eS _ (Wf hk))) (hs.env t),hs.size,?_,by simpa using hs.fv,hs.gp,?_⟩
 ·have:=hs.defers.to (w':=w.putObj l o') λb hb=>(World.putObj_heap_other λe=>by rw[e,hl]at hb;cases hb).trans hb
  simpa using this
 refine⟨⟨hs.reach.cz.base,hs.reach.cz.top,λx hx=>?_,λr row hr=>?_⟩,⟨hs.reach.fr.os,hs.reach.fr.tape,hs.reach.fr.output,by simpa using hs.reach.fr.size,λx hx hn=>?_⟩,λx hx=>?_,λr row hr hv=>?_,hs.reach.xb⟩
 ·obtain⟨h1,h2⟩:=hs.reach.cz.I x hx.1
  exact⟨⟨h1,hx.2⟩,(World.putObj_heap_other hx.2).trans (h2.trans (World.putObj_heap_other hx.2).symm)⟩
 ·obtain⟨ao,h1,h2,h3,h4,h5,h6,hV,h7⟩:=hs.reach.cz.R r row hr
  refine⟨ao,h1,h2,h3,h4,h5,h6,hV,λnv arr ha=>?_⟩
  rw[World.putObj_heap_other (CE r row hr nv)]at ha
  obtain⟨iE,g1,g2⟩:=h7 nv arr ha
  refine⟨iE,?_,g2⟩
  rw[World.putObj_heap_other]
  ·exact g1
  ·intro e;rw[e,hl]at g1;cases g1
 ·by_cases e:x=l
  ·subst e;rw[World.putObj_heap_same bg,World.putObj_heap_same Zu]
  ·rw[World.putObj_heap_other e,World.putObj_heap_other e]
   exact hs.reach.fr.heap x (by simpa using hx) hn
 ·rcases hs.reach.fe x hx.1 with g|g|g
  ·exact .inl ⟨g,hx.2⟩
  ·exact .inr (.inl g)
  ·exact .inr (.inr (by simpa using g))
 ·rcases hs.reach.nT r row hr hv with g|g|g
  ·exact .inl g
  ·exact .inr (.inl g)
  ·exact .inr (.inr (by simpa using g))
theorem leaves{P:Program}{fn:Func}{R:Ending->World->Prop}{N M:Nat}{c0:Ctx}{w0:World}{c:Ctx}{w:World}{st:St}{a:Act}(hs:ff N M c0 w0 c w st a)
 (h:∀c' w' a',a'.tmps=a.tmps->ff N M c0 w0 c' w' st a'->∃v,(results fn a'.tmps).run P w'=.ok v w'/\R (.returned v) w'):LeavesInM Fence.wide 0 P fn a.tmps R a.defers .returning w:=by
 obtain⟨bs,kJ,DH,UD⟩:=hs.defers
 revert c w a
 induction bs with
 |nil=>
  intro c w a hs h DH UD
  rw[DH]
  obtain⟨v,h1,h2⟩:=h c w a rfl hs
  exact⟨v,h1,h2⟩
 |cons b bs ih=>
  intro c w a hs h DH UD
  obtain⟨h1,h2⟩:=UD b (by simp)
  rw[List.nodup_cons]at kJ
  rw[DH]
  refine⟨by simp,.inl ⟨b,_,rfl,run_takeDeferred h2,?_⟩⟩
  have PV:∀x∈bs,w0.heap.size<=x/\(w.putObj b (.deferred none)).heap[x]?=some (.deferred (some [])):=λx hx=>by
   obtain⟨g1,g2⟩:=UD x (by simp[hx])
   exact⟨g1,(World.putObj_heap_other (λe=>kJ.1 (by rw[<-e];exact hx))).trans g2⟩
  refine ih kJ.2 (a:={a with defers:=bs.map λb=>({target:=.collected b,args:= #[]}:Deferred)}) (hs.MN h1 h2 (λ_ _ _ e=>by cases e) (Fk:=λ_=>True) (λk ws v _ hv=>?_) (λ_ _ _=>trivial) (λ_ _ _ _ _=>trivial) ⟨bs,kJ.2,rfl,PV⟩) h rfl PV
  rcases hv with hv|⟨g1,l,rec,g2,g3,g4,g5⟩
  ·exact .inl hv
  ·have gm:l≠b:=λe=>by rw[e,h2]at g4;cases g4
   exact .inr ⟨g1,l,rec,g2,⟨g3,gm⟩,(World.putObj_heap_other gm).trans g4,g5⟩
theorem vv(hD:pk P)(hT:Q4 P T)(hG:jr P G)(hf:P.funcs[f]?=some fn){args:List D}{rows:List Row}{res:D}{aj:List Row}
 {rf:Option Nat} (mr:∀code,fn.body=some code->RF rf fn.ntmps code) {L:Code->St->(Ex->St->Prop)->Prop} (hL:∀code st Q,RF rf fn.ntmps code->L code st Q->Tr P fn.ntmps rows.length code st Q) {Q0:D->Rows->Prop} (CF:∀d R,Q0 d R->wX rows.length res aj d R) (h:j6 T G L fn args rows Q0):kg P f args rows res aj:=by
 intro c w vs hm jc hR fq
 unfold j6 at h
 split at h
 ·rename_i code hb
  have hs:ff fn.ntmps rows.length {c with X:=λ_=>False} w c w ⟨Fb args 0,rows.map some⟩ {tmps:=vs.toArray++gE (fn.ntmps-vs.toArray.size) undef,defers:=[]}:=
   ⟨hm,λr=>by
    rw[hR]
    simp only[aV,gH]
    cases rows[r]? <;>rfl,λt=>Zol fq _ t,by simp;omega,lN.nil,Nat.le_of_eq jc,λr row h=>by have h:c.R r=some row:=h;rw[hR]at h;exact(List.getElem?_eq_some_iff.1 h).1,wM.refl c w⟩
  refine callsIn_wide.1 (callsIn_of_wp_marks (F:=Fence.wide) (n:=0) hf hb trivial (wpIn_mono (MP (ro:=none) hD hT hG (MQ rf fn.ntmps) hL code _ _ (mr _ hb) h _ w c w _ hs) λe a' w' hq=>?_))
  obtain⟨ex,st,c1,he,hq,lz⟩:=hq
  have fin:(Fc T st.rows st.env fn.results.toList λds=>match ds with|[d]=>Q0 d st.rows|ds=>Q0 (.dv ds) st.rows)->
   LeavesInM Fence.wide 0 P fn a'.tmps (λe w'=>∃v' c',e=.returned v'/\lB c w c' w'/\(∀r,c'.R r=aj[r]?)/\Rep c' w' res v') a'.defers .returning w':=by
   intro kE
   refine leaves lz λc1 w' a' ju lz=>?_
   obtain⟨ds,hK,hr⟩:=UB hT kE
   have oK:lU c1 st.rows:=λr row ao h1 h2=>by rw[lz.rows,h2]at h1;exact(Option.some.inj h1).symm
   obtain⟨us,ie,CG⟩:=hr c1 w' a'.tmps lz.mem oK lz.env
   have sJ:=Z6s ie
   obtain⟨d,v,I8,hv,og⟩:∃d v,wX rows.length res aj d st.rows/\CD us=v/\Rep c1 w' d v:=by
    match ds,us,CG with
    |[d],[u],hx=>exact⟨d,u,CF _ _ hK,rfl,hx.1.toRep⟩
    |[],[],hx=>exact⟨.dv [],_,CF _ _ hK,rfl,[],rfl,trivial⟩
    |d::e::ds,u::v::us,hx=>exact⟨.dv (d::e::ds),_,CF _ _ hK,rfl,_,rfl,hx⟩
    |[],_::_,hx=>exact hx.elim
    |[_],[],hx=>exact hx.elim
    |[_],_::_::_,hx=>exact hx.2.elim
    |_::_::_,[],hx=>exact hx.elim
    |_::_::_,[_],hx=>exact hx.2.elim
   rw[hv]at sJ
   obtain⟨ex,hex,hd,db⟩:=I8
   obtain⟨e6,iZ,ft⟩:=Sk lz hex db
   exact⟨v,sJ,v,c1.out _ aj,rfl,⟨iZ,⟨ft.cz.base,ft.cz.top,ft.cz.I,ft.cz.R⟩,ft.fr.mono (λb _ hb=>hb.elim id False.elim),λb hb=>(ft.fe b hb).imp id (λh=>h.elim False.elim id),λr ao h1 h2=>(ft.nT r ao h1 h2).imp id (λh=>h.elim False.elim id)⟩,λr=>rfl,Sj lz.mem lz.rows db e6 hd og⟩
  cases e<;>simp only[mG,Option.some.injEq,reduceCtorEq]at he
  ·subst he;exact fin hq
  ·subst he;exact hq.elim
  ·subst he;exact fin hq
 ·exact h.elim
theorem qaa{rows:List Row}{c:Ctx}{c':Ctx}{w':World}(iZ:Mem c' w')(ft:wM {c.kill (bO k (rows.length-k))with X:=λb=>∃s row,cv s (bO k (rows.length-k))=true/\c.R s=some row/\¬c.V s/\c.ρ s=b} w c' w'):
 jE (bO k (rows.length-k)) c w c' w':=by
 refine⟨iZ,⟨ft.cz.base,ft.cz.top,ft.cz.I,ft.cz.R⟩,ft.fr.mono (λb _ hb=>?_),λb hb=>ft.fe b hb,λr ao h1 h2=>?_⟩
 ·rcases hb with⟨r,x,h1,h2,h3⟩|⟨r,x,_,h1,h2,h3⟩
  ·obtain⟨_,row,g1,_⟩:=mU (c:=c) (ks:=bO k (rows.length-k)) h1
   exact⟨r,row,g1,h2,h3⟩
  ·exact⟨r,x,h1,h2,h3⟩
 ·rcases ft.nT r ao h1 h2 with⟨⟨x,g1⟩,g2,g3⟩|⟨s,x,q1,q2,q3,q4⟩|g
  ·obtain⟨_,row,p1,_⟩:=mU (c:=c) (ks:=bO k (rows.length-k)) g1
   exact .inl ⟨⟨row,p1⟩,g2,g3⟩
  ·exact .inr (.inl ⟨s,x,q1,q2,q3,q4.symm⟩)
  ·exact .inr (.inr g)
theorem Zoq:∀{rows:List Row} {r:Nat} {x:Row} {k:Nat},rows[r]?=some x->k∈kp [x]->k∈kp rows
 |y::l,0,x,k,h,hk=>by
  simp at h;subst h
  unfold kp at hk⊢
  split<;>simp_all [kp]
 |y::l,r+1,x,k,h,hk=>by
  have:=Zoq (rows:=l) (by simpa using h) hk
  unfold kp
  split<;>simp_all
 |[],r,x,k,h,_=>by simp at h
theorem Zoh{c:Ctx}{w:World}{tm oH:Array Value}:∀{ts:List Nat} {ds:List D},j5 c w ds (ts.map λt=>tm.getD t undef)->(∀t∈ts,oH.getD t undef=tm.getD t undef)->∀t,Rep c w (look (om ts ds) t) (oH.getD t undef)
 |[],ds,_,_,t=>by cases ds<;>trivial
 |u::ts,[],h,_,t=>h.elim
 |u::ts,d::ds,h,ht,t=>by
  simp only[om,Ax]
  split
  ·rename_i e;rw[<-e,ht u (by simp)];exact h.1.toRep
  ·exact Zoh h.2 (λt h=>ht t (by simp[h])) t
theorem qw{F:Fence}{y:YK}(hd:y.pos=some d){x:Value}(hn:y.n<=tm.size){K:Act->World->Prop}
 (hK:∀oH,oH.size=tm.size->oH.getD d undef=x->(∀t∈y.ts,oH.getD t undef=tm.getD t undef)->K {tmps:=oH,defers:=[]} w):
 y.assign.wpIn (AA (some l)) 0 P (Exit.then K λ_ _ _=>False) {tmps:=(y.ps.zip #[x]).foldl (λtmps (t,a)=>tmps.setIfInBounds t a) tm,defers:=[]} w:=by
 have du:∀(p:Nat) (I9:Array Value) (t:Nat),t≠p->(I9.setIfInBounds p x).getD t undef=I9.getD t undef:=λp I9 t h=>by
  simp[aQ,aZ (Ne.symm h)]
 have here:∀(p:Nat) (I9:Array Value),p<I9.size->(I9.setIfInBounds p x).getD p undef=x:=λp I9 h=>by
  simp[aQ,h]
 unfold YK.pos at hd
 split at hd
 ·rename_i p kL has
  have kL:y.ps= #[p]:=by rw[<-bW (xs:=y.ps),kL]
  split at hd
  ·rename_i hc
   cases hd
   simp only[aE,gI,bB]at hc
   have hp:d<tm.size:=bM (lE hc.1) hn
   rw[has,kL]
   refine wpIn_skip (hK _ (by simp) ?_ λt ht=>?_)
   ·simpa using here d tm hp
   ·have:=du d tm t (λe=>by have:=(hc.2 t ht).1;rw[e]at this;simp at this)
    simpa using this
  ·cases hd
 ·rename_i p id ops kL has
  have kL:y.ps= #[p]:=by rw[<-bW (xs:=y.ps),kL]
  split at hd
  ·rename_i e q ty po af CH
   have CH:ops= #[⟨some e,.assign (.tmp q),ty,po,af,none⟩]:=by rw[<-bW (xs:=ops),CH]
   split at hd
   ·rename_i hc
    cases hd
    simp only[aE,gI,bB]at hc
    obtain⟨⟨hq,hp,hd⟩,DY⟩:=hc
    have hq:=bE hq
    subst hq
    have hp:q<tm.size:=bM (lE hp) hn
    have hd:d<tm.size:=bM (lE hd) hn
    rw[has,kL,CH]
    refine Zhu ?_
    show wpOp P _ _ 0 _ _ _
    unfold wpOp
    simp only[List.getElem?_toArray,List.getElem?_cons_zero]
    rw[if_pos (by simp[Region.wanted])]
    refine FN (u:=x) (w':=w) ?_ ?_
    ·have:(tm.setIfInBounds q x).getD q undef=x:=here q tm hp
     simp only[execOp,Act.eval]
     simp[aQ,hp]
    ·show K {tmps:=Array.setIfInBounds _ d x,defers:=[]} w
     refine hK _ (by simp) ?_ λt ht=>?_
     ·exact here d _ (by simpa using hd)
     ·have h1:=(DY t ht).1
      rw[du d _ t (λh=>by rw[h]at h1;simp at h1)]
      have:=du q tm t (λh=>by rw[h]at h1;simp at h1)
      simpa using this
   ·cases hd
  ·cases hd
 ·cases hd
inductive oJ(P:Program)(f:FuncId)(fn:Func)(cl:Prop):Prop where
 |real (h:f<YB) (hf:P.funcs[f]?=some fn) (hb:gD YB fn.nfree=false)
 |yield (h:YB<=f) (y:YK) (d:Nat) (hy:Ak f=some y) (hd:y.pos=some d) (hb:fn.body=some y.body) (hn:gD YB fn.nfree=true) (PW:bX fn.nfree YB=true) (hp:fn.params.toList=d::y.ts) (ht:fn.ntmps=y.n) (hc:cl)
 |uD (h:YB<=f) (y:YK) (q:Nat) (hy:Ak f=some y) (kL:y.ps= #[q]) (hq:(Nat.blt q y.n&&y.ts.all λt=>!(bX t q))=true) (hb:fn.body=some (.seq y.assign y.body)) (hn:gD YB fn.nfree=true) (PW:bX fn.nfree YB=false) (hp:fn.params.toList=q::y.ts) (ht:fn.ntmps=y.n) (hc:cl)
theorem Ja{rows:List Row}{c:Ctx}{env:List (Nat×D)}(hm:Mem c w)(jc:c.base=0)(hR:∀r,c.R r=rows[r]?)(sK:∀t,Rep c w (look env t) (tm.getD t undef))(fp:N<=tm.size):
 ff N k {c.kill (bO k (rows.length-k))with X:=λb=>∃s row,cv s (bO k (rows.length-k))=true/\c.R s=some row/\¬c.V s/\c.ρ s=b} w c w ⟨env,rows.map some⟩ {tmps:=tm,defers:=[]}:=by
 refine⟨hm,λr=>by
  rw[hR]
  simp only[aV,gH]
  cases rows[r]? <;>rfl,sK,fp,lN.nil,by simp[Ctx.kill,jc],λr row h=>?_,⟨⟨rfl,aX _,λ_ h=>⟨h,rfl⟩,λr x hx=>?_⟩,Fr.refl _ w,λ_ h=>.inl h,λr row hr hv=>?_,λ_ _=>by simp[Ctx.kill,jc]⟩⟩
 ·obtain⟨h1,ao,h2,_⟩:=mU (c:=c) (ks:=bO k (rows.length-k)) h
  rw[hR]at h2
  have bg:=(List.getElem?_eq_some_iff.1 h2).1
  by_cases hk:r<k
  ·exact hk
  ·rw[LH.2 (by omega)]at h1;cases h1
 ·obtain⟨_,row,h2,rfl⟩:=mU (c:=c) (ks:=bO k (rows.length-k)) hx
  obtain⟨s1,s2,s3,s4⟩:=uT (bO k (rows.length-k)) row
  exact⟨row,h2,s1.symm,s2.symm,s3.symm,s4.symm,rfl,Iff.rfl,λ_ arr ha=>⟨arr,by rw[s2]at ha⊢;exact ha,rfl⟩⟩
 ·cases hb:cv r (bO k (rows.length-k))with
  |true=>exact .inr (.inl ⟨r,row,hb,hr,hv,rfl⟩)
  |false=>exact .inl ⟨⟨row.kill (bO k (rows.length-k)),by simp[Ctx.kill,hb,hr]⟩,hv,rfl⟩
theorem Zhq{c:Ctx}{tm oH:Array Value}{ps:List Nat}{ts:List Nat}(CI:ps=d::ts){args:List D}{vs us:List Value}{x:Value}(Bs:vs=[x]++us)(tv:us=ts.map λt=>tm.getD t undef)(fq:j5 c w args vs)(hx:oH.getD d undef=x)(DY:∀t∈ts,oH.getD t undef=tm.getD t undef):
 ∀t,Rep c w (look (om ps args) t) (oH.getD t undef):=by
 subst CI
 subst Bs
 match args,fq with
 |[],hx=>exact hx.elim
 |A::As,⟨hA,hAs⟩=>
  intro t
  simp only[om,Ax]
  split
  ·rename_i e;rw[<-e,hx];exact hA.toRep
  ·exact Zoh (by rw[tv]at hAs;exact hAs) DY t
theorem Zb3(hD:pk P)(hT:Q4 P T)(hG:jr P G){rows:List Row}{res:D}{aj:List Row}{L:Code->St->(Ex->St->Prop)->Prop}(hL:∀ro code st Q,L code st Q->tG ro P n k code st Q){Q0:D->Rows->Prop}(CF:∀d R,Q0 d R->wX k res aj d R)
 {c:Ctx} {w:World} {l:Nat} {rec:Loop} (hm:Mem c w) (hI:c.I l) (hl:w.heap[l]?=some (.loop rec)) (jR:rec.state=.ready) (Dh:rec.pending=none) {st:St} {c2:Ctx} {w2:World} {a:Act}
 (hs:ff n k {({c with I:=λb=>c.I b/\b≠l}:Ctx).kill (bO k (rows.length-k))with X:=λb=>∃s row,cv s (bO k (rows.length-k))=true/\c.R s=some row/\¬c.V s/\c.ρ s=b} (w.putObj l (.loop {rec with state:=.busy})) c2 w2 st a)
 (h:oM T G n k L code st λe st=>match e with|.normal=>Q0 (.bool true) st.rows|_=>False):
 code.wpIn (AA (some l)) 0 P (roundPost P l λe w'=>∃v' c',e=.returned v'/\jE (bO k (rows.length-k)) c w c' w'/\(∀r,c'.R r=aj[r]?)/\Rep c' w' res v') a w2:=by
 have bg:=(Array.getElem?_eq_some_iff.1 hl).1
 obtain⟨ĉ,hĉ⟩:∃ĉ:Ctx,ĉ={c with I:=λb=>c.I b/\b≠l}:=⟨_,rfl⟩
 obtain⟨wb,Jb⟩:∃wb,wb=w.putObj l (.loop {rec with state:=.busy}):=⟨_,rfl⟩
 have c6:∀r x,c.R r=some x->¬c.V r->c.ρ r≠l:=λr x hr hV=>(hm.fe l hI).2 r x hr hV
 have Jc:∀b,b≠l->wb.heap[b]?=w.heap[b]? :=λb hb=>by rw[Jb];exact World.putObj_heap_other hb
 have h2l:wb.heap[l]?=some (.loop {rec with state:=.busy}):=by rw[Jb];exact World.putObj_heap_same bg
 have Fe:wb.heap.size=w.heap.size:=by rw[Jb];simp
 have hs:ff n k {ĉ.kill (bO k (rows.length-k))with X:=λb=>∃s row,cv s (bO k (rows.length-k))=true/\ĉ.R s=some row/\¬ĉ.V s/\ĉ.ρ s=b} wb c2 w2 st a:=by rw[hĉ,Jb];exact hs
 refine wpIn_mono (MP (ro:=some l) hD hT hG (MQ none n) (λcode st Q _ hl=>hL (some l) code st Q hl) code _ _ trivial h _ wb c2 w2 _ hs) λe a' w3 hq=>?_
 obtain⟨ex,st,c1,he,hq,lz⟩:=hq
 cases e<;>simp only[mG,Option.some.injEq,reduceCtorEq]at he<;>subst he
 rotate_left
 ·exact hq.elim
 ·exact hq.elim
 obtain⟨ex,hex,o7,db⟩:=CF _ _ hq
 obtain⟨e6,iZ,ft⟩:=Sk lz hex db
 have hX:¬({ĉ.kill (bO k (rows.length-k))with X:=λb=>∃s row,cv s (bO k (rows.length-k))=true/\ĉ.R s=some row/\¬ĉ.V s/\ĉ.ρ s=b}:Ctx).X l:=fun⟨s,row,_,g1,g2,g3⟩=>by
  rw[hĉ]at g1 g2 g3;exact c6 s row g1 g2 g3
 have Zv:w3.heap[l]?=some (.loop {rec with state:=.busy}):=by
  refine(lz.reach.fr.heap l (by rw[Fe];exact bg) λhx=>?_).trans h2l
  rcases hx with⟨r,row,g1,g2,g3⟩|hx
  ·obtain⟨_,ao,g4,_⟩:=mU (c:=ĉ) g1
   rw[hĉ]at g2 g3 g4;exact c6 r ao g4 g2 g3
  ·exact hX hx
 have HT:=(Array.getElem?_eq_some_iff.1 Zv).1
 have DZ:=run_endRound (P:=P) none Zv
 refine⟨_,_,DZ,_,{c1.out ex aj with I:=λb=>(c1.out ex aj).I b\/b=l},rfl,?_⟩
 have PX:({({rec with state:=.busy}:Loop)with state:=if(none:Option Code).isNone then .ready else .done,pending:=none}:Loop)=rec:=by
  cases rec;simp only at jR Dh;subst jR;subst Dh;rfl
 rw[PX]
 have nl:¬(c1.out ex aj).I l:=λhx=>by
  rcases ft.fe l hx with h|h|h
  ·obtain⟨h,_⟩:ĉ.I l/\True:=⟨h,trivial⟩
   rw[hĉ]at h;exact h.2 rfl
  ·exact hX h
  ·rw[Fe]at h;omega
 have CJ:∀r x,(c1.out ex aj).R r=some x->¬(c1.out ex aj).V r->(c1.out ex aj).ρ r≠l:=λr x hr hV e=>by
  rcases iZ.row r x hr with g|⟨_,arr,g,_⟩
  ·exact hV g.1
  ·rw[e,Zv]at g;cases g
 have L2:∀b,b≠l->(w3.putObj l (.loop rec)).heap[b]?=w3.heap[b]? :=λb hb=>World.putObj_heap_other hb
 have uW:iX (c1.out ex aj) w3 {c1.out ex aj with I:=λb=>(c1.out ex aj).I b\/b=l} (w3.putObj l (.loop rec)):=
  ⟨rfl,aX _,λb hb=>⟨.inl hb,L2 b (λe=>nl (by rw[<-e];exact hb))⟩,λr x hr=>⟨x,hr,rfl,rfl,rfl,rfl,rfl,Iff.rfl,λhV arr ha=>⟨arr,(L2 _ (CJ r x hr hV)).trans ha,rfl⟩⟩⟩
 have hN:=qaa iZ ft
 refine⟨⟨⟨λr x hr=>sW uW rfl Iff.rfl (λnv=>L2 _ (CJ r x hr nv)) (iZ.row r x hr),iZ.inj,λb hb=>?_,by simpa using iZ.top,iZ.jQ.mono uW.I⟩,⟨?_,?_,λb hb=>?_,λr x hr=>?_⟩,⟨?_,?_,?_,?_,λb hb hn=>?_⟩,λb hb=>?_,λr row hr hv=>?_⟩,λr=>rfl,Qb uW (Sj lz.mem lz.rows db e6 o7 rfl)⟩
 ·rcases hb with hb|hb
  ·simpa using iZ.fe b hb
  ·subst hb;exact⟨by simpa using HT,λr x hr hV=>CJ r x hr hV⟩
 ·have:=hN.cz.base;rw[hĉ]at this;exact this
 ·have:=hN.cz.top;rw[hĉ]at this;exact this
 ·by_cases e:b=l
  ·subst e;exact⟨.inr rfl,by rw[World.putObj_heap_same HT,hl]⟩
  ·have:=hN.cz.I b (by rw[hĉ];exact⟨hb,e⟩)
   exact⟨.inl this.1,(L2 b e).trans (this.2.trans (Jc b e))⟩
 ·have:=hN.cz.R r x (by rw[hĉ];exact hr)
  obtain⟨x',g1,g2,g3,g4,g5,g6,gV,g7⟩:=this
  rw[hĉ]at g6 gV g7
  refine⟨x',g1,g2,g3,g4,g5,g6,gV,λhV arr ha=>?_⟩
  obtain⟨_,x0,q1,_⟩:=mU (c:=c) hr
  have gm:c.ρ r≠l:=c6 r x0 q1 hV
  obtain⟨iE,k1,k2⟩:=g7 hV arr ((Jc _ gm).trans ha)
  exact⟨iE,(L2 _ gm).trans k1,k2⟩
 ·rw[Jb]at hN;exact hN.fr.os
 ·rw[Jb]at hN;exact hN.fr.tape
 ·rw[Jb]at hN;exact hN.fr.output
 ·have:=hN.fr.size;rw[Fe]at this;simpa using this
 ·by_cases e:b=l
  ·subst e;rw[World.putObj_heap_same HT,hl]
  ·rw[L2 b e,hN.fr.heap b (by rw[Fe];exact hb) (by rw[hĉ];exact hn),Jc b e]
 ·rcases hb with hb|hb
  ·rcases hN.fe b hb with g|g|g
   ·rw[hĉ]at g;exact .inl g.1
   ·rw[hĉ]at g;exact .inr (.inl g)
   ·rw[Fe]at g;exact .inr (.inr g)
  ·subst hb;exact .inl hI
 ·rcases hN.nT r row hr hv with g|g|g
  ·rw[hĉ]at g;exact .inl g
  ·rw[hĉ]at g;exact .inr (.inl g)
  ·rw[Fe]at g;exact .inr (.inr g)
theorem qaK(hD:pk P)(hT:Q4 P T)(hG:jr P G){args:List D}{rows:List Row}{res:D}{aj:List Row}{rf:Option Nat}(hf:oJ P f fn (pS (oh args++kp rows)=true/\rf=none))(mr:∀code,fn.body=some code->RF rf fn.ntmps code)
 {L:Code->St->(Ex->St->Prop)->Prop} (hL:∀ro,(ro=none\/rf=none)->∀code st Q,RF rf fn.ntmps code->L code st Q->tG ro P fn.ntmps k code st Q) {Q0:D->Rows->Prop} (CF:∀d R,Q0 d R->wX k res aj d R) (h:Ff T G L fn args rows Q0 k):tC P f k args rows res aj:=by
 intro c w vs hm jc hR fq
 unfold Ff at h
 split at h
 rotate_left
 ·exact h.elim
 rename_i code hb
 cases hf with
 |real bg hf sq=>
  simp only[sq]at h
  refine⟨λ_=>?_,λgr=>absurd bg (Nat.not_lt.2 gr)⟩
  have hs:=Ja (N:=fn.ntmps) (k:=k) (env:=Fb args 0) (tm:=vs.toArray++gE (fn.ntmps-vs.toArray.size) undef) hm jc hR (λt=>Zol fq _ t) (by simp;omega)
  refine callsIn_wide.1 (callsIn_of_wp_marks (F:=Fence.wide) (n:=0) hf hb trivial (wpIn_mono (MP (ro:=none) hD hT hG (MQ rf fn.ntmps) (hL none (.inl rfl)) code _ _ (mr _ hb) h _ w c w _ hs) λe a' w' hq=>?_))
  obtain⟨ex,st,c1,he,hq,lz⟩:=hq
  have fin:(Fc T st.rows st.env fn.results.toList λds=>match ds with|[d]=>Q0 d st.rows|ds=>Q0 (.dv ds) st.rows)->
   LeavesInM Fence.wide 0 P fn a'.tmps (λe w'=>∃v' c',e=.returned v'/\jE (bO k (rows.length-k)) c w c' w'/\(∀r,c'.R r=aj[r]?)/\Rep c' w' res v') a'.defers .returning w':=by
   intro kE
   refine leaves lz λc1 w' a' ju lz=>?_
   obtain⟨ds,hK,hr⟩:=UB hT kE
   have oK:lU c1 st.rows:=λr row ao h1 h2=>by rw[lz.rows,h2]at h1;exact(Option.some.inj h1).symm
   obtain⟨us,ie,CG⟩:=hr c1 w' a'.tmps lz.mem oK lz.env
   have sJ:=Z6s ie
   obtain⟨d,v,I8,hv,og⟩:∃d v,wX k res aj d st.rows/\CD us=v/\Rep c1 w' d v:=by
    match ds,us,CG with
    |[d],[u],hx=>exact⟨d,u,CF _ _ hK,rfl,hx.1.toRep⟩
    |[],[],hx=>exact⟨.dv [],_,CF _ _ hK,rfl,[],rfl,trivial⟩
    |d::e::ds,u::v::us,hx=>exact⟨.dv (d::e::ds),_,CF _ _ hK,rfl,_,rfl,hx⟩
    |[],_::_,hx=>exact hx.elim
    |[_],[],hx=>exact hx.elim
    |[_],_::_::_,hx=>exact hx.2.elim
    |_::_::_,[],hx=>exact hx.elim
    |_::_::_,[_],hx=>exact hx.2.elim
   rw[hv]at sJ
   obtain⟨ex,hex,hd,db⟩:=I8
   obtain⟨e6,iZ,ft⟩:=Sk lz hex db
   refine⟨v,sJ,v,c1.out _ aj,rfl,qaa iZ ft,λr=>rfl,Sj lz.mem lz.rows db e6 hd og⟩
  cases e<;>simp only[mG,Option.some.injEq,reduceCtorEq]at he
  ·subst he;exact fin hq
  ·subst he;exact hq.elim
  ·subst he;exact fin hq
 |yield gr y d hy hd uk Zw Jd CI Zx hc=>
  simp only[Zw,Jd]at h
  obtain⟨mQ,Je⟩:=hc
  rw[uk]at hb
  cases hb
  refine⟨λbg=>absurd bg (Nat.not_lt.2 gr),λ_ l rec xs us Bs hI hl mI iR=>?_⟩
  obtain⟨jR,Dh,y',wQ,kL,has,Zy,PY,h1,tv⟩:=mI
  rw[hy]at wQ;cases wQ
  obtain⟨x,rfl⟩:∃x,xs=[x]:=by
   match xs,iR with
   |[x],_=>exact⟨x,rfl⟩
  rw[kL,has,Zy]
  have real:∀k,k∈oh args++kp rows->k<YB:=λk hk=>MO mQ hk
  have bg:=(Array.getElem?_eq_some_iff.1 hl).1
  have wu:∀arr ty fz,(Obj.loop rec)≠.cells arr ty fz:=λ_ _ _ e=>by cases e
  obtain⟨ĉ,hĉ⟩:∃ĉ:Ctx,ĉ={c with I:=λb=>c.I b/\b≠l}:=⟨_,rfl⟩
  obtain⟨w2,PZ⟩:∃w2,w2=w.putObj l (.loop {rec with state:=.busy}):=⟨_,rfl⟩
  have c6:∀r x,c.R r=some x->¬c.V r->c.ρ r≠l:=λr x hr hV=>(hm.fe l hI).2 r x hr hV
  have Jc:∀b,b≠l->w2.heap[b]?=w.heap[b]? :=λb hb=>by rw[PZ];exact World.putObj_heap_other hb
  have h2l:w2.heap[l]?=some (.loop {rec with state:=.busy}):=by rw[PZ];exact World.putObj_heap_same bg
  have Fe:w2.heap.size=w.heap.size:=by rw[PZ];simp
  have hg:IX c w ĉ w2:=by
   rw[hĉ]
   refine⟨rfl,aX _,λb arr ty fz ib hb=>?_,λr x hr=>⟨x,hr,rfl,rfl,rfl,rfl,rfl,Iff.rfl,λhV arr ha=>⟨arr,(Jc _ (c6 r x hr hV)).trans ha,rfl⟩⟩⟩
   have gm:b≠l:=λe=>by subst e;rw[hl]at hb;cases hb
   exact⟨⟨ib,gm⟩,(Jc b gm).trans hb⟩
  have gF:∀k ws v,k<YB->rF c w k ws v->rF ĉ w2 k ws v:=λk ws v hk hv=>by
   rcases hv with hv|⟨hv,_⟩
   ·exact .inl hv
   ·omega
  have Bv:Mem ĉ w2:=by
   rw[hĉ]at hg gF⊢
   refine YE hm hg (λr x hr hV=>Jc _ (c6 r x hr hV)) (Fk:=λk=>k<YB) gF (λr x hr k hk=>real k ?_) (λb hb=>⟨by rw[Fe];exact(hm.fe b hb.1).1,(hm.fe b hb.1).2⟩) (by rw[Fe];exact aX _)
   rw[hR]at hr
   exact eX _ (Zoq hr hk)
  have Jf:j5 ĉ w2 args vs:=YD hg (Fk:=λk=>k<YB) gF (λk hk=>real k (eS _ hk)) fq
  refine roundIn_of_wpIn (F:=Fence.wide) (n:=0) trivial (qw (F:=Fence.wide) hd (tm:=rec.tmps) PY λoH fp hx DY=>?_)
  refine⟨w2,by rw[PZ];exact run_beginRound hl jR,?_⟩
  have sK:∀t,Rep ĉ w2 (look (om fn.params.toList args) t) (oH.getD t undef):=Zhq CI Bs tv Jf hx DY
  have hs:=Ja (N:=fn.ntmps) (k:=k) (env:=om fn.params.toList args) (tm:=oH) Bv (by rw[hĉ];exact jc) (by rw[hĉ];exact hR) sK (by rw[fp,Zx];exact PY)
  subst Je
  subst PZ
  subst hĉ
  exact Zb3 hD hT hG (λro code st Q hl=>hL ro (.inr rfl) code st Q trivial hl) CF hm hI hl jR Dh hs h
 |uD gr y q hy kL hq uk Zw Jd CI Zx hc=>
  simp only[Zw,Jd]at h
  obtain⟨mQ,Je⟩:=hc
  subst Je
  rw[uk]at hb
  cases hb
  simp only at h
  refine⟨λbg=>absurd bg (Nat.not_lt.2 gr),λ_ l rec xs us Bs hI hl mI iR=>?_⟩
  obtain⟨jR,Dh,y',wQ,Zz,has,Zy,PY,h1,tv⟩:=mI
  rw[hy]at wQ;cases wQ
  obtain⟨x,rfl⟩:∃x,xs=[x]:=by
   match xs,iR with
   |[x],_=>exact⟨x,rfl⟩
  rw[Zz,has,Zy]
  obtain⟨oH,UE⟩:∃oH,oH=rec.tmps.setIfInBounds q x:=⟨_,rfl⟩
  have hz:((y.ps.zip [x].toArray).foldl (λtmps (t,a)=>tmps.setIfInBounds t a) rec.tmps)=oH:=by rw[kL,UE];simp
  rw[hz]
  simp only[aE,gI,bB]at hq
  have hqs:q<rec.tmps.size:=bM (lE hq.1) PY
  have hx:oH.getD q undef=x:=by rw[UE];simp[aQ,hqs]
  have DY:∀t∈y.ts,oH.getD t undef=rec.tmps.getD t undef:=λt ht=>by
   have gm:q≠t:=λe=>by have:=hq.2 t ht;rw[e]at this;simp at this
   rw[UE];simp[aQ,aZ gm]
  have sK:∀t,Rep c w (look (om fn.params.toList args) t) (oH.getD t undef):=Zhq CI Bs tv fq hx DY
  have hs:=Ja (N:=fn.ntmps) (k:=k) (env:=om fn.params.toList args) (tm:=oH) hm jc hR sK (by rw[UE,Zx];simpa using PY)
  refine roundIn_of_wpIn (F:=Fence.wide) (n:=0) trivial (wpIn_mono (MP (ro:=some l) hD hT hG (MQ none fn.ntmps) (λcode st Q _ hl=>hL (some l) (.inr rfl) code st Q trivial hl) y.assign _ _ trivial h _ w c w _ hs) λe a1 w1 hq=>?_)
  obtain⟨ex,st1,c1,he,hq,lz⟩:=hq
  cases e<;>simp only[mG,Option.some.injEq,reduceCtorEq]at he<;>subst he
  rotate_left
  ·exact hq.elim
  ·exact hq.elim
  simp only[dd]at hq
  obtain⟨ZA,hq⟩:=hq
  have So:w1.heap[l]?=some (.loop rec):=(lz.reach.cz.I l hI).2.trans hl
  have c6:∀r x,(c.kill (bO k (rows.length-k))).R r=some x->¬c.V r->c.ρ r≠l:=λr x hr hV=>by
   obtain⟨_,x0,q1,_⟩:=mU (c:=c) hr
   exact(hm.fe l hI).2 r x0 q1 hV
  exact⟨_,run_beginRound So jR,Zb3 hD hT hG (λro code st Q hl=>hL ro (.inr rfl) code st Q trivial hl) CF hm hI hl jR Dh (lz.edit hI hl c6 ZA) hq⟩
def D.G9:D->Bool|.int _ _=>true|.bool _=>true|.str _=>true|.sl _ _ _=>true|.iC=>true|.jC=>true|_=>false
theorem ai.wA(E:ai):ai.Eq E E:=by
 cases E with
 |gen es=>cases es<;>simp[ai.Eq]
 |ah k l=>simp[ai.Eq,VS]
 |_=>simp[ai.Eq]
theorem xw{d:D}(h:d.G9=true):iG ex m R d d:=by
 cases d<;>first|(cases h;done)|simp[iG,dd,ai.wA]
def D.mj(n:Nat):D->Bool|.all i=>Nat.blt i n|.c9=>true|.emp=>true|d=>d.G9
def Row.mj(n:Nat):Row->Bool|⟨false,_,_,_⟩=>true|⟨true,_,_,.gen [e]⟩=>e.all (D.mj n)|_=>false
theorem Zc6(h:i<n):jY (cW n) i i=true:=by
 simp[jY,List.getElem?_range h]
theorem Zqn{d:D}(h:d.mj n=true):iG (cW n) m R d d:=by
 cases d with
 |all i=>
  simp only[D.mj,Nat.blt_eq]at h
  simp[iG,dd,Zc6 h]
 |c9=>simp[iG]
 |emp=>simp[iG]
 |_=>exact xw h
theorem Z62{n m:Nat}{R:Rows}:∀{e:List D},e.all (D.mj n)=true->Dj (cW n) m R e e
 |[],_=>trivial
 |d::e,h=>by
  simp only[gJ,aE]at h
  exact⟨Zqn h.1,Z62 h.2⟩
theorem Qwv{m n:Nat}:∀{post pre:List Row},post.all (Row.mj n)=true->lG (cW n) m ((pre++post).map some) (bO pre.length post.length) post
 |[],_,_=>trivial
 |⟨box,ty,sz,es⟩::post,pre,h=>by
  simp only[gJ,aE]at h
  rw[List.length_cons,List.range'_succ]
  have hR:(((pre++⟨box,ty,sz,es⟩::post).map some:Rows)).getD pre.length none=some ⟨box,ty,sz,es⟩:=by
   simp[aV]
  simp only[lG,hR,dd]
  refine⟨⟨by cases box<;>simp,?_⟩,?_⟩
  ·cases box with
   |false=>exact ai.wA es
   |true=>
    obtain⟨h,_⟩:=h
    cases es with
    |gen l=>
     match l,h with
     |[e],h=>exact Z62 h
    |_=>cases h
  ·have:=Qwv (m:=m) (n:=n) (post:=post) (pre:=pre++[⟨box,ty,sz,es⟩]) h.2
   simpa using this
theorem Zr3{rows:List Row}(h:rows.all (Row.mj rows.length)=true):lG (cW rows.length) m (rows.map some) (cW rows.length) rows:=by
 have:=Qwv (m:=m) (n:=rows.length) (post:=rows) (pre:=[]) h
 rwa [List.nil_append,List.length_nil,<-gC]at this
theorem Zcv:∀l:List Nat,L0 l l=true
 |[]=>rfl
 |x::l=>by simp[L0,Zcv l]
theorem Zrj(M:Nat):r7 M (cW M)=true:=by
 have h1:(cW M).take M=cW M:=List.take_of_length_le (by simp)
 have h2:(cW M).drop M=[]:=List.drop_of_length_le (by simp)
 simp[r7,h1,h2,Zcv,Cv]
theorem Zc4(hD:pk P)(hT:Q4 P T)(hf:P.funcs[f]?=some fn){args:List D}{rows:List Row}{off:Nat}(h:rows.all (Row.mj rows.length)=true)(h0:0<rows.length)
 (e1:∀Q0:D->GD.Rows->Prop,j6 T [] (λ_ _ _=>False) fn args rows (λd R=>Q0 d R)=Q0 (.ptr 0 0 off) (rows.map some)):kg P f args rows (.ptr 0 0 off) rows:=by
 have hG:jr P []:=λx hx=>by cases hx
 have h2:j6 T [] (λ_ _ _=>False) fn args rows (λd R=>d=.ptr 0 0 off/\R=rows.map some):=(e1 (λd R=>d=.ptr 0 0 off/\R=rows.map some)).symm▸⟨rfl,rfl⟩
 refine vv hD hT hG hf (rf:=none) (L:=λ_ _ _=>False) (λ_ _=>trivial) (λ_ _ _ _ h=>h.elim) (Q0:=λd R=>d=.ptr 0 0 off/\R=rows.map some) (λd R h=>?_) h2
 obtain⟨rfl,rfl⟩:=h
 refine⟨cW rows.length,Zrj _,?_,Zr3 ‹_›⟩
 simp[r6,oP,iG,dd,Zc6 h0]

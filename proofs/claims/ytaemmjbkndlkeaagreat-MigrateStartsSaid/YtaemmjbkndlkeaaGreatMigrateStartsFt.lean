import Derived.Test.YtaemmjbkndlkeaaGreatMigrateStartsFb
open List renaming range_eq_range'->gG,getD->aV,getElem?_eq_none->aJ,getElem?_append_left->bI,getElem?_eq_getElem->aI,mem_of_getElem?->fO,range->cW,mem_append->cB,mapM_cons->gJ,mem_append_right->eZ,mem_append_left->eU,getElem?_map->gK,range'->bO,all_eq_true->gL,all_cons->gM
open Nat renaming le_refl->aX,beq->bX,ble->gH,lt_of_lt_of_le->bM
open Bool renaming not_eq_true'->bB,false_eq_true->aA
open Array renaming replicate->gI,toArray_toList->bW,getD_eq_getD_getElem?->aQ,getElem?_setIfInBounds_ne->aZ
set_option linter.all false
namespace Go.GD
open Go
variable {G:List bb}{K:St->Prop}{M N d i k l m n r:Nat}{P:Program}{R:Rows}{T:iy}{a:Act}{b:Bool}{code:Code}{ex:List Nat}{f:FuncId}{fn:Func}{o':Obj}{ro:Option Nat}{st:St}{tm:Array Value}{v:Value}{vs:List Value}{w w0:World}{x:Operand}
theorem fj.jW{c0:Ctx}{c:Ctx}(h:fj N M c0 w0 c w st a)(hb:cu st.env x=.bool b):fj N M c0 w0 c w (st.jW x b) a:=by
 cases x with
 |tmp t=>exact⟨h.mem,h.rows,λs=>by rw[S6 hb];exact h.env s,h.size,h.defers,h.fy,h.gw,h.reach⟩
 |_=>exact h
theorem fj.Hx{c0:Ctx}{c:Ctx}(h:fj N M c0 w0 c w st a)(hb:a.eval x=.bool b):fj N M c0 w0 c w (st.jW x b) a:=by
 cases x with
 |tmp t=>
  refine⟨h.mem,h.rows,λs=>?_,h.size,h.defers,h.fy,h.gw,h.reach⟩
  simp only[St.jW,AR]
  split
  ·rename_i e;subst e;exact hb
  ·exact h.env s
 |_=>exact h
theorem qw(hT:ji P T)(hG:jB P G){id:Nat}{ops:Array Oper}{Q:Ex->St->Prop}(h:lW T G N M ops ops.toList st λst=>Q .normal st):tW ro P N M (.region id ops false) st Q:=by
 intro c0 w0 c w a hs
 refine Zmw ?_
 have:=y0 (P:=P) (ops:=ops) hT hG (Q:=λe a' w'=>∃ex jq c',mO e=some ex/\Q ex jq/\fj N M c0 w0 c' w' jq a') (λst c w a hK hs=>⟨_,st,c,rfl,hK,hs⟩) ops.toList 0 st c w a (by simp) h hs
 rwa [<-gG,Array.length_toList]at this
theorem Z31{c:Ctx}{w:World}{i n:Nat}{row:Row}(hn:c.R n=some row)(hb:row.box=false)(hV:c.V n):∀{e e':List D},Z3 i n e=some e'->e'.length=e.length/\∀arr off,kG c w e arr off->kG c w e' arr off
 |[],e',h=>by simp[Z3]at h
 |d ::l,e',h=>by
  unfold Z3 at h
  split at h
  ·cases h
   refine⟨rfl,λarr off hc=>?_⟩
   obtain⟨⟨v,hv,h1⟩,⟨u,hu,h2⟩,h3⟩:=hc
   exact⟨⟨v,hv,.inl h1⟩,⟨u,hu,row,hn,hb,.inl ⟨hV,none,h2,Nz⟩⟩,h3⟩
  ·split at h
   ·rename_i l' pD
    cases h
    obtain⟨g1,g2⟩:=Z31 hn hb hV pD
    exact⟨by simp[g1],λarr off hc=>⟨hc.1,g2 arr _ hc.2⟩⟩
   ·cases h
theorem Z3n{n:Nat}:∀{R:Rows} {k i:Nat} {ty:TypeId} {sz:Nat} {e':List D},JN n R k=some (i,ty,sz,e')->∃e j,i=k+j/\R[j]?=some (some ⟨true,ty,sz,.gen [e]⟩)/\Z3 i n e=some e'
 |[],k,i,ty,sz,e',h=>by simp[JN]at h
 |x ::l,k,i,ty,sz,e',h=>by
  have next:JN n l (k+1)=some (i,ty,sz,e')->∃e j,i=k+j/\(x::l)[j]?=some (some ⟨true,ty,sz,.gen [e]⟩)/\Z3 i n e=some e':=λh=>by
   obtain⟨e,j,h1,h2,h3⟩:=Z3n h
   exact⟨e,j+1,by omega,by simpa using h2,h3⟩
  unfold JN at h
  split at h
  ·split at h
   ·rename_i e1 he
    cases h
    exact⟨_,0,rfl,rfl,he⟩
   ·exact next h
  ·exact next h
theorem xav{c0:Ctx}{c:Ctx}(h:JO T code st K)(hs:fj N M c0 w0 c w st a): ∃jq c',K jq/\fj N M c0 w0 c' w jq a:=by
  unfold JO at h
  split at h
  . exact⟨st,c,h,hs⟩
  . rename_i u hu
    split at h
    . exact⟨st,c,h,hs⟩
    . rename_i i ty sz e' hf
      simp only[D.fc,nk]at h
      obtain⟨e,j,h1,h2,h3⟩:=Z3n hf
      rw[Nat.zero_add]at h1
      subst h1
      have bd:=(List.getElem?_eq_some_iff.1 h2).1
      have hi:c.R i=some ⟨true,ty,sz, .gen [e]⟩:=by rw[hs.rows,aV,h2];rfl
      have hn:c.R st.rows.length=none:=by rw[hs.rows,aV,aJ (aX _)];rfl
      have gv:i≠st.rows.length:=by omega
      have Is:=Zg hs.mem hn (row:=⟨false,u,1, .ints .u8 []⟩) rfl rfl Nat.one_pos
      have WS:=Tc (w:=w) hn ⟨false,u,1, .ints .u8 []⟩
      have WT:(c.jv st.rows.length ⟨false,u,1, .ints .u8 []⟩).R i=some ⟨true,ty,sz, .gen [e]⟩:=by simp [Ctx.jv,gv,hi]
      obtain⟨q1,q2⟩:=Z31 (c:=c.jv st.rows.length ⟨false,u,1, .ints .u8 []⟩) (w:=w) (row:=⟨false,u,1, .ints .u8 []⟩) (by simp [Ctx.jv]) rfl (.inl rfl) h3
      obtain⟨WU,BP⟩:=vb Is WT q1 (λarr=>q2 arr 0)
      have hg:=WS.trans WU
      have nF:lM c w ((c.jv st.rows.length ⟨false,u,1, .ints .u8 []⟩).jT i ⟨true,ty,sz, .gen [e']⟩) w:=by
        refine⟨BP,hg,Fr.refl _ w,λb hb=> .inl hb,λr ao hr hv=> .inl ?_⟩
        have WV:r≠st.rows.length:=λe=>hv (.inl e)
        by_cases er:r=i
        . subst er;exact⟨⟨_,hi⟩,λe=>hv (.inr e),rfl⟩
        . exact⟨⟨ao,by simpa [Ctx.jT,Ctx.jv,er,WV] using hr⟩,λe=>hv (.inr e),rfl⟩
      refine⟨_,_,h,BP,λr=> ?_,λt=>w7 hg (hs.env t),hs.size,hs.defers,hs.fy,hs.gw,hs.reach.step (ks:=[]) (λk hk=>by simp [da]at hk) hs.gw nF.toK⟩
      simp only[Ctx.jT,Ctx.jv]
      by_cases er:r=i
      . subst er
        simp [aV,bI (show r<(st.rows.set r _).length by simpa using bd),bd]
      . rw [if_neg er]
        by_cases en:r=st.rows.length
        . subst en
          simp [aV]
        . rw[if_neg en,hs.rows]
          by_cases hl:r<st.rows.length
          . simp [aV,bI (show r<(st.rows.set i _).length by simpa using hl),List.getElem?_set_ne (Ne.symm er)]
          . have h1:st.rows.getD r none=none:=by rw[aV,aJ (by omega)];rfl
            rw[h1,aV,aJ (by simp;omega)];rfl
def pB(P:Program):Prop:=∀(ro:Option Nat) (T:iy) (G:List bb) (N M id:Nat) (ops:Array Oper) (st:St) (Q:Ex->St->Prop),ji P T->jB P G->uR T G N M ops st Q->tW ro P N M (.region id ops true) st Q
def wR(y:Array Tmp×Code×Code):Code->Prop
 |.seq a b=>wR y a/\wR y b
 |.cond _ a b=>wR y a/\wR y b
 |.block _ a=>wR y a
 |.loop a=>wR y a
 |.scope a=>wR y a
 |.rangeFunc _ ps x b=>(ps,x,b)=y
 |_=>True
def RF(o:Option Nat)(n:Nat)(c:Code):Prop:=match o with|none=>True|some f=>∃y,(AH f=some y/\y.n<=n/\y.ts=WX f/\YB<=f/\y.ps.size=1)/\wR (y.ps,y.assign,y.body) c
theorem qW{c:Code}{Q:Exit->Act->World->Prop}(h:c.wpIn (AT ro) 0 P (Exit.noGoto Q) a w):(Code.scope c).wpIn (AT ro) 0 P Q a w:=by
 intro b k cs DG hb hr
 have s1:step P (lone (b.atR a (.code (.scope c)::k)) cs w)=.next (lone (b.atR a (.code c:: .inScope c::k)) cs w):=step_lone_go (by simp[stepG,stepG.exec,Frame.atR])
 have h0:(lone (b.atR a (.code (.scope c)::k)) cs w).fenced P (AT ro):=fenced_calm hb hr rfl
 obtain⟨e,CX,CY,hq,px⟩:=h b (.inScope c::k) cs DG hb hr
 cases e with
 |normal=>exact⟨.normal,CX,CY,hq,.head h0 s1 (StepsIn.trans px (.one (fenced_calm hb hr rfl) (step_lone_go (by simp[stepG,stepG.exec,Frame.atR]))))⟩
 |exit id=>
  have hx:exitTo id (.inScope c::k)=exitTo id k:=by simp[exitTo]
  exact⟨.exit id,CX,CY,hq,λk' hk=>.head h0 s1 (px.1 k' (by rw[hx];exact hk)),λpF hk=>let⟨k₁,h1,h2⟩:=px.2 pF (by rw[hx];exact hk);⟨k₁,h1,.head h0 s1 h2⟩⟩
 |goto l=>exact hq.elim
 |ret=>exact⟨_,CX,CY,hq,.of_steps (.one h0 s1) px⟩
 |panic ch=>exact⟨_,CX,CY,hq,.of_steps (.one h0 s1) px⟩
 |outgrown=>exact⟨_,CX,CY,hq,.of_steps (.one h0 s1) px⟩
theorem xw{c0:Ctx}{c:Ctx}{ops:List Oper}(h:uS ops st K)(hs:fj N M c0 w0 c w st a):∃jq,K jq/\fj N M c0 w0 c w jq a:=by
 unfold uS at h
 split at h
 ·exact⟨st,h,hs⟩
 ·rename_i x _
  split at h
  ·rename_i b hb
   cases b with
   |true=>exact⟨_,h,hs.jW hb⟩
   |false=>exact⟨_,h,hs.jW hb⟩
  ·exact⟨st,h,hs⟩
theorem ND(hD:pB P)(hT:ji P T)(hG:jB P G){L:Code->St->(Ex->St->Prop)->Prop}{S:Code->Prop}(hS:(∀a b,S (.seq a b)->S a/\S b)/\(∀c a b,S (.cond c a b)->S a/\S b)/\(∀i a,S (.block i a)->S a)/\(∀a,S (.scope a)->S a))(hL:∀code st Q,S code->L code st Q->tW ro P N M code st Q):∀(code:Code) (st:St) (Q:Ex->St->Prop),S code->o4 T G N M L code st Q->tW ro P N M code st Q:=by
 intro code
 induction code with
 |skip=>exactλst Q _ h c0 w0 c w a hs=>wpIn_skip ⟨_,st,c,rfl,h,hs⟩
 |label l=>exactλst Q _ h c0 w0 c w a hs=>wpIn_label ⟨_,st,c,rfl,h,hs⟩
 |region id ops draw=>
  intro st Q hc h c0 w0 c w a hs
  simp only[o4]at h
  obtain⟨st0,h,BG⟩:=xw h hs
  obtain⟨R1,c1,h,lL⟩:=Gm h BG
  obtain⟨jq,c',h,iT⟩:=xaf h lL
  cases draw with
  |false=>exact qw hT hG h c0 w0 c' w a iT
  |true=>exact hD ro T G N M id ops jq Q hT hG h c0 w0 c' w a iT
 |seq x y ihx Vo=>
  intro st Q hc h c0 w0 c w a hs
  simp only[o4]at h
  refine wpIn_seq (wpIn_mono (ihx st _ (hS.1 _ _ hc).1 h c0 w0 c w a hs) λe a' w' hq=>?_)
  obtain⟨ex,jq,c',he,hq,iT⟩:=hq
  cases e<;>simp only[mO,Option.some.injEq,reduceCtorEq]at he
  ·subst he
   obtain⟨st2,c2,hq,Nh⟩:=xav hq iT
   exact Vo st2 Q (hS.1 _ _ hc).2 hq c0 w0 c2 w' a' Nh
  ·subst he;exact⟨_,jq,c',rfl,hq,iT⟩
  ·subst he;exact⟨_,jq,c',rfl,hq,iT⟩
 |cond x y z Vo ihz=>
  intro st Q hc h c0 w0 c w a hs
  simp only[o4]at h
  split at h
  ·rename_i b hb
   have hv:=Nu hs.env x
   rw[hb]at hv
   have hv:=Rep.bool.1 hv
   cases b with
   |true=>exact wpIn_cond_true hv (Vo _ Q (hS.2.1 _ _ _ hc).1 h c0 w0 c w a (hs.jW hb))
   |false=>exact wpIn_cond_false hv (ihz _ Q (hS.2.1 _ _ _ hc).2 h c0 w0 c w a (hs.jW hb))
  ·rename_i es hb
   have hv:=Nu hs.env x
   rw[hb]at hv
   obtain⟨b,hv,gu⟩:=hv
   cases b with
   |true=>exact wpIn_cond_true hv (Vo _ Q (hS.2.1 _ _ _ hc).1 (h.1 (ai.og.2 (gu rfl))) c0 w0 c w a (hs.Hx hv))
   |false=>exact wpIn_cond_false hv (ihz _ Q (hS.2.1 _ _ _ hc).2 h.2 c0 w0 c w a (hs.Hx hv))
  ·exact h.elim
 |block id x ih=>
  intro st Q hc h c0 w0 c w a hs
  simp only[o4]at h
  refine wpIn_block (wpIn_mono (ih st _ (hS.2.2.1 _ _ hc) h c0 w0 c w a hs) λe a' w' hq=>?_)
  obtain⟨ex,jq,c',he,hq,iT⟩:=hq
  cases e<;>simp only[mO,Option.some.injEq,reduceCtorEq]at he
  ·subst he;exact⟨_,jq,c',rfl,hq,iT⟩
  ·rename_i i
   subst he
   simp only[Exit.inBlock]
   simp only at hq
   cases hb:bX i id with
   |true=>
    simp only[hb]at hq
    rw[if_pos (bE hb)]
    exact⟨_,jq,c',rfl,hq,iT⟩
   |false=>
    simp only[hb]at hq
    rw[if_neg (λe=>by rw[e]at hb;simp at hb)]
    exact⟨_,jq,c',rfl,hq,iT⟩
  ·subst he;exact⟨_,jq,c',rfl,hq,iT⟩
 |exit id=>exactλst Q _ h c0 w0 c w a hs=>wpIn_exit ⟨_,st,c,rfl,h,hs⟩
 |ret=>exactλst Q _ h c0 w0 c w a hs=>wpIn_ret ⟨_,st,c,rfl,h,hs⟩
 |loop x ih=>exactλst Q hc h=>hL _ _ _ hc h
 |rangeFunc g ps x y _ _=>exactλst Q hc h=>hL _ _ _ hc h
 |scope x ih=>
  intro st Q hc h c0 w0 c w a hs
  simp only[o4]at h
  refine qW (wpIn_mono (ih st _ (hS.2.2.2 _ hc) h c0 w0 c w a hs) λe a' w' hq=>?_)
  obtain⟨ex,jq,c',he,hq,iT⟩:=hq
  cases e<;>simp only[mO,Option.some.injEq,reduceCtorEq]at he
  all_goals(subst he;exact⟨_,jq,c',rfl,hq,iT⟩)
 |goto l=>exactλst Q hc h=>hL _ _ _ hc h
 |refuse y=>exactλst Q hc h=>hL _ _ _ hc h
theorem NF(o:Option Nat)(n:Nat):(∀a b,RF o n (.seq a b)->RF o n a/\RF o n b)/\(∀c a b,RF o n (.cond c a b)->RF o n a/\RF o n b)/\(∀i a,RF o n (.block i a)->RF o n a)/\(∀a,RF o n (.scope a)->RF o n a):=by
 cases o with
 |none=>exact⟨λ_ _ _=>⟨trivial,trivial⟩,λ_ _ _ _=>⟨trivial,trivial⟩,λ_ _ _=>trivial,λ_ _=>trivial⟩
 |some f=>exact⟨λ_ _ ⟨y,h,h1,h2⟩=>⟨⟨y,h,h1⟩,⟨y,h,h2⟩⟩,λ_ _ _ ⟨y,h,h1,h2⟩=>⟨⟨y,h,h1⟩,⟨y,h,h2⟩⟩,λ_ _ ⟨y,h,h1⟩=>⟨y,h,h1⟩,λ_ ⟨y,h,h1⟩=>⟨y,h,h1⟩⟩
def oQ:Code->Nat
 |.seq a b=>oQ a+oQ b
 |.cond _ a b=>oQ a+oQ b
 |.block _ a=>oQ a
 |.loop a=>oQ a
 |.scope a=>oQ a
 |.rangeFunc _ _ _ _=>1
 |_=>0
theorem Zk:∀{c:Code} (y:Array Tmp×Code×Code),oQ c=0->wR y c:=by
 intro c
 induction c with
 |seq a b FB FC=>intro y h;simp only[oQ]at h;exact⟨FB y (by omega),FC y (by omega)⟩
 |cond x a b FB FC=>intro y h;simp only[oQ]at h;exact⟨FB y (by omega),FC y (by omega)⟩
 |block i a ih=>intro y h;exact ih y h
 |loop a ih=>intro y h;exact ih y h
 |scope a ih=>intro y h;exact ih y h
 |rangeFunc g ps x b _ _=>intro y h;simp[oQ]at h
 |_=>intro y h;trivial
theorem xW:∀{c:Code} {y:Array Tmp×Code×Code},oQ c<=1->sY c=some y->wR y c/\1<=oQ c:=by
 intro c
 have two:∀{a b:Code} {y:Array Tmp×Code×Code},(∀{y},oQ a<=1->sY a=some y->wR y a/\1<=oQ a)->(∀{y},oQ b<=1->sY b=some y->wR y b/\1<=oQ b)->oQ a+oQ b<=1->(match sY a with|some x=>some x|none=>sY b)=some y->(wR y a/\wR y b)/\1<=oQ a+oQ b:=by
  intro a b y FB FC h hy
  cases ha:sY a with
  |some x=>
   rw[ha]at hy
   cases hy
   obtain⟨h1,h2⟩:=FB (by omega) ha
   exact⟨⟨h1,Zk _ (by omega)⟩,by omega⟩
  |none=>
   rw[ha]at hy
   obtain⟨h1,h2⟩:=FC (by omega) hy
   exact⟨⟨Zk _ (by omega),h1⟩,by omega⟩
 induction c with
 |seq a b FB FC=>intro y h hy;exact two FB FC h hy
 |cond x a b FB FC=>intro y h hy;exact two FB FC h hy
 |block i a ih=>intro y h hy;exact ih h hy
 |loop a ih=>intro y h hy;exact ih h hy
 |scope a ih=>intro y h hy;exact ih h hy
 |rangeFunc g ps x b _ _=>intro y h hy;simp only[sY,Option.some.injEq]at hy;exact⟨hy,aX _⟩
 |_=>intro y h hy;simp[sY]at hy
def rfB(f:Nat)(fn:Func):Bool:=match fn.body with
 |some c=>gH (oQ c) 1&&(gH YB f&&(match sY c with|some y=>bX y.1.size 1|none=>false))
 |none=>false
theorem Hy{f:Nat}(h:rfB f fn=true)(hy:AH f=FD (WX f) fn):∀code,fn.body=some code->RF (some f) fn.ntmps code:=by
 intro code hb
 unfold rfB at h
 unfold FD at hy
 simp only[hb,aE]at h hy
 obtain⟨h1,h2,h3⟩:=h
 split at h3
 ·rename_i y hf
  rw[hf]at hy
  exact⟨_,⟨hy,aX _,rfl,lE h2,bE h3⟩,(xW (lE h1) hf).1⟩
 ·cases h3
def Ctx.out(c:Ctx)(ex:List Nat)(rows:List Row):Ctx:=
 { ρ:=λi=>match ex[i]? with|some r=>c.ρ r|none=>c.ρ i,R:=λi=>rows[i]?,V:=λi=>match ex[i]? with|some r=>c.R r=none\/c.V r|none=>True,
   I:=λb=>c.I b\/ ∃r row,c.R r=some row/\ ¬c.V r/\row.box=false/\KL ex r=true/\c.ρ r=b,base:=c.base,top:=c.top,X:=c.X}
theorem Vp(h:ka ex i r=true):ex[i]?=some r:=by
 unfold ka at h
 split at h
 ·rename_i x hx;rw[hx,bE h]
 ·cases h
theorem Zuv(h:IG ex R i=true):∃r,ex[i]?=some r/\R.getD r none=none:=by
 unfold IG at h
 split at h
 ·rename_i r hr
  refine⟨r,hr,?_⟩
  split at h
  ·assumption
  ·cases h
 ·cases h
theorem Zd7(h:KL ex r=true):r∉ex:=by
 intro hm
 have:=List.all_eq_true.1 h r hm
 simp at this
theorem Rn{ex:List Nat}{m:Nat}{R:Rows}:∀{rs:List Nat} {ps:List Row},lQ ex m R rs ps->rs.length=ps.length/\∀(i r:Nat) (p:Row),rs[i]?=some r->ps[i]?=some p->
 (∃row,R.getD r none=some row/\row.box=p.box/\row.ty=p.ty/\row.sz=p.sz/\(if p.box then∃e e',row.es=.gen [e]/\p.es=.gen [e']/\DH ex m R e e' else row.es.l=p.es.l))\/(R.getD r none=none/\p.box=false/\p.es.l=[]/\0<p.sz)
 |[],[],_=>⟨rfl,λi r p h=>by simp at h⟩
 |[],_::_,h=>h.elim
 |_::_,[],h=>h.elim
 |r ::rs,⟨box,ty,sz,es⟩::ps,h=>by
  simp only[lQ]at h
  obtain⟨h1,h2⟩:=h
  obtain⟨g1,g2⟩:=Rn h2
  refine⟨by simp[g1],λi q p hq hp=>?_⟩
  cases i with
  |succ i=>exact g2 i q p (by simpa using hq) (by simpa using hp)
  |zero=>
   simp at hq hp
   subst hq;subst hp
   split at h1
   ·rename_i Ai jV j9 iW hR
    simp only[dd,aE]at h1
    obtain⟨⟨⟨e1,e2⟩,e3⟩,h1⟩:=h1
    refine .inl ⟨_,hR,by cases box<;>cases Ai<;>simp_all,(bE e2).symm,(bE e3).symm,?_⟩
    cases box with
    |false=>simpa using ai.Af h1
    |true=>
     simp only[if_true]
     simp only at h1
     split at h1
     ·exact⟨_,_,rfl,rfl,h1⟩
     ·exact h1.elim
   ·rename_i hR
    simp only[dd,aE,bB]at h1
    exact .inr ⟨hR,h1.1.1,ai.og.1 h1.2,lE h1.1.2⟩
theorem Td{c:Ctx}{rows:List Row}(hR:∀r,c.R r=R.getD r none)(db:lQ ex m R ex rows){i r o f:Nat}(hx:ka ex i r=true)(hr:dc c w (.ptr r o f) v):dc (c.out ex rows) w (.ptr i o f) v:=by
 obtain⟨row,g1,gV,g2,hv⟩:=hr
 have hi:=Vp hx
 obtain⟨hl,iw⟩:=Rn db
 have bd:=(List.getElem?_eq_some_iff.1 hi).1
 have hp:rows[i]?=some rows[i]:=aI (by omega)
 rcases iw i r _ hi hp with⟨ao,k1,k2,k3,k4,k5⟩|⟨k1,_⟩
 ·have:ao=row:=by rw[hR,k1]at g1;exact Option.some.inj g1
  subst this
  refine⟨_,hp,by simp[Ctx.out,hi,g1,gV],?_,by simp only[Ctx.out,hi];rw[hv,k4]⟩
  split at k5
  ·obtain⟨e,e',q1,q2,_⟩:=k5
   rw[q1]at g2;rw[q2];exact g2
  ·rw[<-k5];exact g2
 ·rw[hR,k1]at g1;cases g1
theorem Zqm{c:Ctx}{w:World}{ex:List Nat}{m:Nat}{R:Rows}{rows:List Row}(hR:∀r,c.R r=R.getD r none)(db:lQ ex m R ex rows):∀{ps qs:List (Nat×Nat×Nat)} {us:List Value},su ex ps qs=true->ML c qs us->ML (c.out ex rows) ps us
 |[],[],_,_,h=>by rename_i us _;cases us<;>exact h
 |(i,b,d)::l,(r,y,z)::q,u::us,h,hr=>by
  simp only[su,aE]at h
  obtain⟨h1,h2,h3,h4⟩:=h
  have e2:=bE h2;have e3:=bE h3
  subst e2;subst e3
  exact⟨Td (w:=w) hR db h1 hr.1,Zqm (w:=w) hR db h4 hr.2⟩
 |(_,_,_)::_,(_,_,_)::_,[],_,h=>h.elim
 |[],_::_,_,h,_=>by simp[su]at h
 |_::_,[],_,h,_=>by simp[su]at h
theorem zW{c:Ctx}{rows:List Row}(hR:∀r,c.R r=R.getD r none)(db:lQ ex m R ex rows):∀{cs ds:List iE} {us:List Value},o5 ex cs ds=true->oH c w ds us->oH (c.out ex rows) w cs us:=by
 intro cs
 induction cs with
 |nil=>intro ds us h hr;cases ds<;>cases us<;>first|exact hr|(simp[o5]at h;done)
 |cons x cs ih=>
  intro ds us h hr
  cases ds with
  |nil=>cases x<;>simp[o5]at h
  |cons y ds=>
   cases us with
   |nil=>exact hr.elim
   |cons u us=>
    cases x<;>cases y<;>simp only[o5,aE,aA]at h
    ·obtain⟨h1,h2,h3,h4⟩:=h
     have e2:=bE h2;have e3:=bE h3
     subst e2;subst e3
     exact⟨Td (w:=w) hR db h1 hr.1,ih h4 hr.2⟩
    ·obtain⟨h1,h2,h3⟩:=h
     have e1:=bE h1
     subst e1
     obtain⟨⟨ws,hv,hw⟩,UT⟩:=hr
     exact⟨⟨ws,MB (c:=c) (c':=c.out ex rows) (w':=w) (λb hb=>⟨Or.inl hb,rfl⟩) hv,Zqm (w:=w) hR db h2 hw⟩,ih h3 UT⟩
section
variable {c:Ctx} {w:World} {ex:List Nat} {m:Nat} {R:Rows} {rows:List Row}
theorem Zh7(hm:Mem c w)(hR:∀r,c.R r=R.getD r none)(db:lQ ex m R ex rows)(ez:∀r row,c.R r=some row->¬c.V r->m<=r->c.base<=c.ρ r){d p:D}(h:iM ex m R d p)(hr:dc c w d v):dc (c.out ex rows) w p v:=by
 have nG:∀b,c.I b->(c.out ex rows).I b/\w.heap[b]?=w.heap[b]? :=λb hb=>⟨.inl hb,rfl⟩
 obtain⟨hl,iw⟩:=Rn db
 have rowOf:∀i r row,ex[i]?=some r->c.R r=some row->∃p,rows[i]?=some p/\row.box=p.box/\row.ty=p.ty/\row.sz=p.sz/\row.es.l.length=p.es.l.length/\(c.out ex rows).ρ i=c.ρ r/\((c.out ex rows).V i↔c.V r):=by
  intro i r row hi c6
  have bd:=(List.getElem?_eq_some_iff.1 hi).1
  have hp:rows[i]?=some rows[i]:=aI (by omega)
  rcases iw i r _ hi hp with⟨ao,g1,g2,g3,g4,g5⟩|⟨g1,_⟩
  ·have:ao=row:=by rw[hR,g1]at c6;exact Option.some.inj c6
   subst this
   refine⟨_,hp,g2,g3,g4,?_,by simp[Ctx.out,hi],by simp[Ctx.out,hi,c6]⟩
   split at g5
   ·obtain⟨e,e',k1,k2,_⟩:=g5
    rw[k1,k2];rfl
   ·rw[g5]
  ·rw[hR,g1]at c6;cases c6
 have NH:∀i a,IG ex R i=true->v=.slice a 0 0->CE c.top a->dc (c.out ex rows) w (.all i) v:=by
  intro i a hv DT dy
  obtain⟨r,hi,hrn⟩:=Zuv hv
  have bd:=(List.getElem?_eq_some_iff.1 hi).1
  have hp:rows[i]?=some rows[i]:=aI (by omega)
  rcases iw i r _ hi hp with⟨ao,g1,_⟩|⟨g1,g2,g3,g4⟩
  ·rw[hrn]at g1;cases g1
  ·exact⟨_,hp,g2,.inl ⟨by simp only[Ctx.out,hi];exact .inl (by rw[hR];exact g1),a,DT,dy⟩⟩
 cases p<;>simp only[iM]at h
 case int k n=>
  split at h
  ·simp only[dd,decide_eq_true_eq]at h;obtain⟨rfl,rfl⟩:=h;exact hr
  ·exact h.elim
 case bool b=>
  split at h
  ·subst h;exact hr
  ·exact h.elim
 case str s=>
  split at h
  ·subst h;exact hr
  ·exact h.elim
 case iz=>
  split at h
  ·exact hr
  ·exact h.elim
 case c8=>
  split at h
  ·exact hr
  ·exact h.elim
 case emp=>
  split at h
  ·exact⟨none,hr,Nz⟩
  ·exact hr
  ·exact h.elim
 case jJ=>
  split at h
  ·exact hr
  ·exact h.elim
 case gm f cs=>
  split at h
  ·simp only[dd,aE]at h
   obtain⟨⟨h1,h2⟩,_⟩:=h
   have e1:=bE h1
   subst e1
   obtain⟨us,hv,hu⟩:=hr
   exact⟨us,MB (c:=c) (c':=c.out ex rows) (w':=w) (λb hb=>⟨Or.inl hb,rfl⟩) hv,zW hR db h2 hu⟩
  ·exact h.elim
 case ptr i o f=>
  split at h
  ·simp only[dd,aE]at h
   obtain⟨⟨h1,h2,h3⟩,_⟩:=h
   have e2:=bE h2;have e3:=bE h3
   subst e2;subst e3
   exact Td (w:=w) hR db h1 hr
  ·exact h.elim
 case gq i=>
  have go:∀r,ka ex i r=true->dc c w (.gq r) v->dc (c.out ex rows) w (.gq i) v:=by
   intro r hx hr
   rcases hr with hr|⟨row,g1,gV,g2,hv⟩
   ·exact .inl hr
   ·have hi:=Vp hx
    obtain⟨p,hp,q1,q2,q3,q4,q5,q6⟩:=rowOf i r row hi g1
    exact .inr ⟨p,hp,λe=>gV (q6.1 e),by rw[<-q4];exact g2,by rw[hv,q5,q3]⟩
  split at h
  ·exact .inl hr
  ·simp only[dd]at h;exact go _ h.1 hr
  ·simp only[dd,aE]at h
   obtain⟨⟨h1,h2,h3⟩,_⟩:=h
   have e2:=bE h2;have e3:=bE h3
   subst e2;subst e3
   exact go _ h1 (.inr hr)
  ·exact h.elim
 case dead=>exact dc.one hr
 case sl sz es fr=>
  split at h
  ·have h:=ai.og.1 h;exact⟨none,0,by rw[h];exact hr,by rw[h];exact aX _,.inl h⟩
  ·have h:=ai.og.1 h;obtain⟨a,hr,_⟩:=hr;exact⟨a,0,by rw[h];exact hr,by rw[h];exact aX _,.inl h⟩
  ·rename_i j9 iW fr'
   simp only[dd,Bool.or_eq_true,bB]at h
   obtain⟨hf,hs,he⟩:=h
   have he:=ai.Af he
   obtain⟨a,cap,hv,hc,gu⟩:=hr
   rw[he]at hv hc gu
   refine⟨a,cap,hv,hc,?_⟩
   rcases gu with gu|⟨b,off,arr,ty,fz,ha,hI,UF,hh,hE⟩
   ·exact .inl gu
   ·rcases hs with hs|rfl
    ·exact .inl (by rw[<-he];exact ai.og.1 hs)
    ·exact .inr ⟨b,off,arr,ty,fz,ha,.inl hI,λe=>UF (by rcases hf with hf|hf<;>simp_all),hh,nB nG _ _ _ _ hE⟩
  ·rename_i r
   split at h
   ·rename_i box ty j9 iW hRr
    simp only[dd,aE,bB]at h
    obtain⟨⟨⟨⟨hb,hs⟩,ho⟩,JP⟩,AI⟩:=h
    have AI:=ai.Af AI
    have hs:=bE hs
    have JP:=lE JP
    obtain⟨row,g1,g2,hv⟩:=hr
    have:row=⟨box,ty,j9,iW⟩:=by rw[hR,hRr]at g1;exact(Option.some.inj g1).symm
    subst this
    subst hs
    rcases hv with⟨hV,a,hv,_⟩|⟨hV,cap,arr,hv,g3,g4,g5,g6⟩
    ·have he:=(hm.nz g1 hV).2.1
     simp only at he
     rw[he]at AI
     exact⟨a,0,by rw[<-AI];exact hv,by rw[<-AI];exact aX _,.inl AI.symm⟩
    obtain⟨iK,jC,iT,hx⟩:=hm.real g1 hV
    rw[g5]at jC;cases jC
    simp only[hb,aA,if_false]at hx
    simp only at hv g3 hx
    rw[AI]at hv g3 hx
    exact⟨_,cap,hv,g3,.inr ⟨_,0,arr,_,_,rfl,.inr ⟨r,_,g1,hV,hb,ho,rfl⟩,λ_=>ez r _ g1 hV JP,g5,nB nG _ _ _ _ hx⟩⟩
   ·exact h.elim
  ·rename_i r o n
   split at h
   ·rename_i box ty j9 iW hRr
    simp only[dd,aE,bB]at h
    obtain⟨⟨⟨⟨hb,hs⟩,ho⟩,JP⟩,AI⟩:=h
    have AI:=ai.Af AI
    rw[ai.iY,ai.kq]at AI
    have hs:=bE hs
    have JP:=lE JP
    obtain⟨row,g1,g2,g5,hv⟩:=hr
    have:row=⟨box,ty,j9,iW⟩:=by rw[hR,hRr]at g1;exact(Option.some.inj g1).symm
    subst this
    subst hs
    simp only at g5
    have pD:((iW.l.drop o).take n).length=n:=by simp only[List.length_take,List.length_drop];omega
    rw[AI]at pD
    rcases hv with⟨h0,a,hv,_⟩|⟨hV,cap,arr,g3,g4,g6,hv,g7⟩
    ·subst h0
     have h0:=List.eq_nil_of_length_eq_zero pD
     exact⟨a,0,by rw[pD];exact hv,by omega,.inl h0⟩
    obtain⟨iK,jC,iT,hx⟩:=hm.real g1 hV
    rw[g6]at jC;cases jC
    simp only[hb,aA,if_false]at hx
    have hE:=Ms (n:=n) (Kx (l:=o) hx)
    rw[AI]at hE
    exact⟨_,cap,by rw[pD];exact hv,by omega,.inr ⟨_,o*j9,arr,_,_,rfl,.inr ⟨r,_,g1,hV,hb,ho,rfl⟩,λ_=>ez r _ g1 hV JP,g6,nB nG _ _ _ _ (by simpa using hE)⟩⟩
   ·exact h.elim
  ·exact h.elim
 case all i=>
  split at h
  ·rename_i r
   simp only[dd]at h
   obtain⟨row,g1,g2,hv⟩:=hr
   obtain⟨p,k1,k2,k3,k4,k5,k6,k7⟩:=rowOf i r row (Vp h.1) g1
   refine⟨p,k1,by rw[<-k2];exact g2,?_⟩
   rcases hv with⟨hV,hv⟩|⟨hV,cap,arr,hv,g3,g4,g5,g6⟩
   ·exact .inl ⟨k7.2 hV,hv⟩
   ·exact .inr ⟨λe=>hV (k7.1 e),cap,arr,by rw[hv,k5,k6],by rw[<-k5];exact g3,g4,by rw[k6,<-k3];exact g5,by rw[<-k4];exact g6⟩
  ·simp only[dd]at h
   exact NH i none h.1 hr Nz
  ·simp only[dd]at h
   obtain⟨a,hr,ho⟩:=hr
   exact NH i a h.1 hr ho
  ·exact h.elim
 case own i o n=>
  split at h
  ·rename_i r o' n'
   simp only[dd]at h
   obtain⟨hx,rfl,rfl⟩:=h
   obtain⟨row,g1,g2,g5,hv⟩:=hr
   obtain⟨p,k1,k2,k3,k4,k5,k6,k7⟩:=rowOf i r row (Vp hx) g1
   refine⟨p,k1,by rw[<-k2];exact g2,by rw[<-k5];exact g5,?_⟩
   rcases hv with⟨h0,a,hv,jo⟩|⟨hV,cap,arr,g3,g4,g6,hv,g7⟩
   ·exact .inl ⟨h0,a,hv,jo.mono (aX _) k7 k6⟩
   ·exact .inr ⟨λe=>hV (k7.1 e),cap,arr,g3,g4,by rw[k6,<-k3];exact g6,by rw[k6,<-k4];exact hv,by rw[<-k4];exact g7⟩
  ·exact h.elim
theorem Zkj(hm:Mem c w)(hR:∀r,c.R r=R.getD r none)(db:lQ ex m R ex rows)(ez:∀r row,c.R r=some row->¬c.V r->m<=r->c.base<=c.ρ r):∀{ds ps:List D} {vs:List Value},DH ex m R ds ps->jm c w ds vs->jm (c.out ex rows) w ps vs
 |[],[],[],_,_=>trivial
 |[],[],_::_,_,h=>h.elim
 |[],_::_,_,h,_=>h.elim
 |_::_,[],_,h,_=>h.elim
 |_::_,_::_,[],_,h=>h.elim
 |d::ds,p::ps,v::vs,h,hr=>⟨Zh7 hm hR db ez h.1 hr.1,Zkj hm hR db ez h.2 hr.2⟩
theorem Zri(hm:Mem c w)(hR:∀r,c.R r=R.getD r none)(db:lQ ex m R ex rows)(ez:∀r row,c.R r=some row->¬c.V r->m<=r->c.base<=c.ρ r){d p:D}(h:o6 ex m R d p)(hr:VRep c w d v):VRep (c.out ex rows) w p v:=by
 cases p with
 |agg ps=>
  simp only[o6]at h
  cases d<;>simp only at h
  obtain⟨vs,hv,hx⟩:=hr
  exact⟨vs,hv,Zkj hm hR db ez h hx⟩
 |_=>
  simp only[o6]at h
  refine VRep.Ep (Zh7 hm hR db ez h (VRep.toC ?_ hr))
  intro cs e
  subst e
  simp[iM,cv,D.Hz]at h
theorem Zn8(hm:Mem c w)(hR:∀r,c.R r=R.getD r none)(db:lQ ex m R ex rows)(ez:∀r row,c.R r=some row->¬c.V r->m<=r->c.base<=c.ρ r):∀{ds ps:List D} {vs:List Value},wu ex m R ds ps->kj c w ds vs->kj (c.out ex rows) w ps vs
 |[],[],[],_,_=>trivial
 |[],[],_::_,_,h=>h.elim
 |[],_::_,_,h,_=>h.elim
 |_::_,[],_,h,_=>h.elim
 |_::_,_::_,[],_,h=>h.elim
 |d::ds,p::ps,v::vs,h,hr=>⟨Zri hm hR db ez h.1 hr.1,Zn8 hm hR db ez h.2 hr.2⟩
theorem Te(hm:Mem c w)(hR:∀r,c.R r=R.getD r none)(db:lQ ex m R ex rows)(ez:∀r row,c.R r=some row->¬c.V r->m<=r->c.base<=c.ρ r){d p:D}(h:sr ex m R d p)(hr:Rep c w d v):Rep (c.out ex rows) w p v:=by
 cases p with
 |dw ps=>
  simp only[sr]at h
  cases d<;>simp only at h
  obtain⟨vs,hv,hx⟩:=hr
  exact⟨vs,hv,Zn8 hm hR db ez h hx⟩
 |dead=>trivial
 |_=>
  simp only[sr]at h
  refine Rep.KC (Zri hm hR db ez h (Rep.toV ?_ ?_ hr))
  ·intro ds e;subst e;simp[o6,iM]at h
  ·intro e;subst e;simp[o6,iM]at h
theorem Z9u(hm:Mem c w)(hR:∀r,c.R r=R.getD r none)(db:lQ ex m R ex rows)(ez:∀r row,c.R r=some row->¬c.V r->m<=r->c.base<=c.ρ r):∀{ds ps:List D} {arr:Array Value} {off:Nat},DH ex m R ds ps->kG c w ds arr off->kG (c.out ex rows) w ps arr off
 |[],[],_,_,_,_=>trivial
 |[],_::_,_,_,h,_=>h.elim
 |_::_,[],_,_,h,_=>h.elim
 |d::ds,p::ps,arr,off,h,hr=>⟨by obtain⟨⟨v,hv,hx⟩,_⟩:=hr;exact⟨v,hv,Zh7 hm hR db ez h.1 hx⟩,Z9u hm hR db ez h.2 hr.2⟩
theorem Z3m:∀{ds ps:List D},DH ex m R ds ps->ds.length=ps.length
 |[],[],_=>rfl
 |[],_::_,h=>h.elim
 |_::_,[],h=>h.elim
 |_::_,_::_,h=>by simp[Z3m h.2]
theorem qaw(hm:Mem c w)(hR:∀r,c.R r=R.getD r none)(db:lQ ex m R ex rows)(ez:∀r row,c.R r=some row->¬c.V r->m<=r->c.base<=c.ρ r)(kU:ex.Nodup):Mem (c.out ex rows) w:=by
 have nG:∀b,c.I b->(c.out ex rows).I b/\w.heap[b]?=w.heap[b]? :=λb hb=>⟨.inl hb,rfl⟩
 obtain⟨hl,iw⟩:=Rn db
 have inv:∀i p,(c.out ex rows).R i=some p->∃r,ex[i]?=some r/\(c.out ex rows).ρ i=c.ρ r/\((∃row,c.R r=some row/\row.box=p.box/\row.ty=p.ty/\row.sz=p.sz/\((c.out ex rows).V i↔c.V r)/\(if p.box then∃e e',row.es=.gen [e]/\p.es=.gen [e']/\DH ex m R e e' else row.es.l=p.es.l))\/((c.out ex rows).V i/\p.box=false/\p.es.l=[]/\0<p.sz)):=by
  intro i p hp
  have Ro:rows[i]?=some p:=hp
  have bd:=(List.getElem?_eq_some_iff.1 Ro).1
  have hi:ex[i]?=some ex[i]:=aI (by omega)
  refine⟨_,hi,by simp[Ctx.out,hi],?_⟩
  rcases iw i _ p hi Ro with⟨row,g1,g2,g3,g4,g5⟩|⟨g1,g2⟩
  ·have c6:c.R ex[i]=some row:=by rw[hR];exact g1
   exact .inl ⟨row,c6,g2,g3,g4,by simp[Ctx.out,hi,c6],g5⟩
  ·exact .inr ⟨by simp only[Ctx.out,hi];exact .inl (by rw[hR];exact g1),g2⟩
 refine⟨λi p hp=>?_,λi j p q hp hq v1 v2 he=>?_,λb hb=>?_,hm.top,hm.jY.mono nG⟩
 ·obtain⟨r,g1,g6,⟨row,g2,g3,g4,g5,gV,g7⟩|⟨gV,g2⟩⟩:=inv i p hp
  ·rcases hm.row r row g2 with⟨h0,h1,h2,h3⟩|⟨h0,arr,ha,hs,hx⟩
   ·refine .inl ⟨gV.2 h0,by rw[<-g3];exact h1,?_,by rw[<-g5];exact h3⟩
    rw[if_neg (by rw[<-g3,h1];simp)]at g7
    rw[<-g7];exact h2
   refine .inr ⟨λe=>h0 (gV.1 e),arr,by rw[g6,<-g4];exact ha,by rw[<-g5];exact hs,?_⟩
   split
   ·rename_i hb
    rw[if_pos hb]at g7
    rw[if_pos (g3.trans hb)]at hx
    obtain⟨e,e',k1,k2,k3⟩:=g7
    obtain⟨e0,q1,q2,q3,q4⟩:=hx
    rw[k1]at q1;cases q1
    exact⟨e',k2,by rw[<-Z3m k3,<-g5];exact q2,by rw[<-g5];exact q3,Z9u hm hR db ez k3 q4⟩
   ·rename_i hb
    rw[if_neg hb]at g7
    rw[if_neg (by rw[g3];exact hb)]at hx
    rw[<-g7,<-g5]
    exact nB nG _ _ _ _ hx
  ·exact .inl ⟨gV,g2⟩
 ·obtain⟨r,g1,g6,⟨row,g2,_,_,_,gV,_⟩|⟨gV,_⟩⟩:=inv i p hp
  ·obtain⟨s,k1,k6,⟨ao,k2,_,_,_,kV,_⟩|⟨kV,_⟩⟩:=inv j q hq
   ·rw[g6,k6]at he
    have:r=s:=hm.inj r s _ _ g2 k2 (λe=>v1 (gV.2 e)) (λe=>v2 (kV.2 e)) he
    subst this
    exact(List.getElem?_inj (List.getElem?_eq_some_iff.1 g1).1 kU).1 (g1.trans k1.symm)
   ·exact(v2 kV).elim
  ·exact(v1 gV).elim
 ·rcases hb with hb|⟨r,row,hr,hV,wH,ho,rfl⟩
  ·refine⟨(hm.fh b hb).1,λi p hp v=>?_⟩
   obtain⟨r,g1,g6,⟨row,g2,_,_,_,gV,_⟩|⟨gV,_⟩⟩:=inv i p hp
   ·rw[g6]
    exact(hm.fh b hb).2 r row g2 (λe=>v (gV.2 e))
   ·exact(v gV).elim
  ·refine⟨hm.lt hr hV,λi p hp v=>?_⟩
   obtain⟨s,g1,g6,⟨ao,g2,_,_,_,gV,_⟩|⟨gV,_⟩⟩:=inv i p hp
   ·rw[g6]
    intro e
    have:=hm.inj s r _ _ g2 hr (λe=>v (gV.2 e)) hV e
    subst this
    exact Zd7 ho (fO g1)
   ·exact(v gV).elim
end
theorem Zr1:∀{l m:List Nat},MM l m=true->l=m
 |[],[],_=>rfl
 |x::l,y::m,h=>by
  simp only[MM,aE]at h
  rw[bE h.1,Zr1 h.2]
 |[],_::_,h=>by cases h
 |_::_,[],h=>by cases h
theorem zaw(h:ss M ex=true):ex.Nodup/\(∀i,i<M->ex[i]?=some i)/\∀i r,ex[i]?=some r->(i=r/\i<M)\/M<=r:=by
 unfold ss at h
 simp only[aE]at h
 obtain⟨⟨h1,h2⟩,h3⟩:=h
 replace h1:=Zr1 h1
 replace h2:∀r∈ex.drop M,M<=r:=λr hr=>lE (List.all_eq_true.1 h2 r hr)
 replace h3:=Mx.1 h3
 have he:ex=cW M++ex.drop M:=by rw[<-h1,List.take_append_drop]
 generalize hq:ex.drop M=q at he h2 h3
 subst he
 refine⟨?_,λi hi=>by rw[bI (by simpa using hi)];simp[hi],λi r hr=>?_⟩
 ·rw[List.nodup_append]
  exact⟨List.nodup_range,h3,λx hx y hy=>by simp at hx;have:=h2 y hy;omega⟩
 ·by_cases bd:i<M
  ·rw[bI (by simpa using bd)]at hr
   simp[bd]at hr
   exact .inl ⟨hr,bd⟩
  ·rw[List.getElem?_append_right (by simpa using bd)]at hr
   exact .inr (h2 r (fO hr))
theorem Tf{c0:Ctx}{c:Ctx}(hs:fj N M c0 w0 c w st a){aj:List Row}(hex:ss M ex=true)(db:lQ ex M st.rows ex aj):
 (∀r row,c.R r=some row->¬c.V r->M<=r->c.base<=c.ρ r)/\Mem (c.out ex aj) w/\w6 c0 w0 (c.out ex aj) w:=by
 obtain⟨kU,hid,hinv⟩:=zaw hex
 obtain⟨hl,iw⟩:=Rn db
 have Bg:c.base=c0.base:=hs.reach.cz.base
 have CZ:∀r row,c.R r=some row->¬c.V r->M<=r->c0.X (c.ρ r)\/w0.heap.size<=c.ρ r:=λr row h1 v h2=>by
  rcases hs.reach.oc r row h1 v with⟨⟨x,hx⟩,_⟩|h3
  ·have:=hs.gw r x hx;omega
  ·exact h3
 have ez:∀r row,c.R r=some row->¬c.V r->M<=r->c.base<=c.ρ r:=λr row h1 v h2=>by
  have:=hs.fy
  rcases CZ r row h1 v h2 with h|h
  ·have:=hs.reach.xb _ h;omega
  ·omega
 refine⟨ez,qaw hs.mem hs.rows db ez kU,⟨hs.reach.cz.base,hs.reach.cz.top,λb ij=>?_,λr row hr=>?_⟩,hs.reach.fr,λb ij=>?_,λi p hp v=>?_,hs.reach.xb⟩
 ·obtain⟨h1,h2⟩:=hs.reach.cz.I b ij
  exact⟨.inl h1,h2⟩
 ·have bd:r<M:=hs.gw r row hr
  obtain⟨Rp,g1,g2,g3,g4,g5,g6,gV,g7⟩:=hs.reach.cz.R r row hr
  have hi:=hid r bd
  have mM:=(List.getElem?_eq_some_iff.1 hi).1
  have hp:aj[r]?=some aj[r]:=aI (by omega)
  rcases iw r r _ hi hp with⟨jA,k1,k2,k3,k4,k5⟩|⟨k1,_⟩
  ·have:jA=Rp:=by rw[hs.rows,k1]at g1;exact Option.some.inj g1
   subst this
   refine⟨_,hp,k2.symm.trans g2,k3.symm.trans g3,k4.symm.trans g4,?_,by simp[Ctx.out,hi,g6],by simp[Ctx.out,hi,g1,gV],g7⟩
   rw[<-g5]
   split at k5
   ·obtain⟨e,e',q1,q2,_⟩:=k5
    rw[q1,q2];rfl
   ·rw[k5]
  ·rw[hs.rows,k1]at g1;cases g1
 ·rcases ij with h1|⟨r,row,hr,hV,wH,ho,rfl⟩
  ·exact hs.reach.fh b h1
  ·refine .inr ?_
   have:M<=r:=by
    by_cases bd:r<M
    ·exact(Zd7 ho (fO (hid r bd))).elim
    ·omega
   exact CZ r row hr hV this
 ·have Ro:aj[i]?=some p:=hp
  have bd:=(List.getElem?_eq_some_iff.1 Ro).1
  have hi:ex[i]?=some ex[i]:=aI (by omega)
  simp only[Ctx.out,hi,not_or]at v⊢
  obtain⟨v1,v2⟩:=v
  rcases iw i _ _ hi Ro with⟨jA,k1,k2,k3,k4,k5⟩|⟨k1,_⟩
  ·have HA:c.R ex[i]=some jA:=by rw[hs.rows];exact k1
   rcases hinv i _ hi with⟨h1,h2⟩|h1
   ·rcases hs.reach.oc _ _ HA v2 with⟨h3,h4,h5⟩|h3
    ·left
     rw[<-h1]at h3 h4
     refine⟨h3,h4,h5.trans ?_⟩
     rw[<-h1]
    ·exact .inr h3
   ·exact .inr (CZ _ _ HA v2 h1)
  ·exact(v1 (by rw[hs.rows];exact k1)).elim
theorem W4:∀{env:List (Nat×D)} {t k:Nat},k∈CL (look env t)->k∈Ag env
 |[],t,k,h=>by simp[look,CL,Fq,AA]at h
 |(u,d)::l,t,k,h=>by
  rw[AR]at h
  simp only[Ag,cB]
  split at h
  ·exact .inl h
  ·exact .inr (W4 h)
theorem W5:∀{R:Rows} {r:Nat} {x:Row} {k:Nat},R.getD r none=some x->k∈kE [x]->k∈Gq R
 |some y::l,0,x,k,h,hk=>by
  simp at h;subst h
  simp only[Gq,cB];exact .inl hk
 |none::l,0,x,k,h,hk=>by simp at h
 |y::l,r+1,x,k,h,hk=>by
  have:=W5 (R:=l) (r:=r) (by simpa[aV]using h) hk
  cases y<;>simp[Gq,this]
 |[],r,x,k,h,_=>by simp[aV]at h
theorem VRep.toRep{c:Ctx}{d:D}(h:VRep c w d v):Rep c w d v:=by
 cases d<;>first|exact h|trivial|exact h.elim
theorem Rep.toVRep{c:Ctx}{d:D}(hv:d.isVal=true)(h:Rep c w d v):VRep c w d v:=by
 cases d<;>first|exact h|(simp[D.isVal]at hv)
theorem kj.length{c:Ctx}{w:World}:∀{ds:List D} {vs:List Value},kj c w ds vs->ds.length=vs.length
 |[],[],_=>rfl
 |_::_,_::_,h=>by simp[kj.length h.2]
 |[],_::_,h=>h.elim
 |_::_,[],h=>h.elim
theorem Z6e:∀{ds:List D} {i t:Nat},(∃j,t=i+j/\j<ds.length/\look (FE ds i) t=ds.getD j .dead)\/look (FE ds i) t=.dead
 |[],i,t=>.inr rfl
 |d ::ds,i,t=>by
  simp only[FE,AR]
  by_cases e:i=t
  ·left;exact⟨0,by omega,by simp,by rw[if_pos e];rfl⟩
  ·rw[if_neg e]
   rcases Z6e (ds:=ds) (i:=i+1) (t:=t)with⟨j,h1,h2,h3⟩|h
   ·left;exact⟨j+1,by omega,by simpa using h2,by simpa using h3⟩
   ·right;exact h
theorem Zqe{c:Ctx}{ds:List D}(h:kj c w ds vs)(n t:Nat):Rep c w (look (FE ds 0) t) ((vs.toArray++gI n undef).getD t undef):=by
 rcases Z6e (ds:=ds) (i:=0) (t:=t)with⟨j,h1,h2,h3⟩|h1
 ·obtain⟨v,hv,hr⟩:=Z7w h j h2
  rw[h3]
  have:t=j:=by omega
  subst this
  have hx:(vs.toArray++gI n undef).getD t undef=v:=by
   have bd:=(List.getElem?_eq_some_iff.1 hv).1
   have hvv:=(List.getElem?_eq_some_iff.1 hv).2
   simp[Array.getElem?_append,bd,hvv]
  rw[hx]
  exact hr.toRep
 ·rw[h1];trivial
theorem Zsp{t:TypeId}{x:D}{K:D->Rows->Prop}(h:wN T t x R K){c:Ctx}(hr:Rep c w x v):∃a,v=.pointer (some a):=by
 unfold wN at h
 split at h
 ·exact h.elim
 ·cases x<;>simp only at h
  case ptr r i off=>obtain⟨_,_,_,_,hv⟩:=hr;exact⟨_,hv⟩
  case pa r i off len k n=>obtain⟨_,_,_,_,_,hv⟩:=hr;exact⟨_,hv⟩
  case iu sz es i off=>obtain⟨_,_,_,_,_,hv,_⟩:=hr;exact⟨_,hv⟩
def MN(tmps:Array Value):ResultVar->Sem Value
 |.tmp t=>pure (tmps.getD t undef)
 |.cell a t=>do loadVar t (<-asAddr (tmps.getD a undef))
theorem Vq{P:Program}{T:iy}(hT:ji P T){R:Rows}{env:List (Nat×D)}:∀{l:List ResultVar} {K:List D->Prop},FG T R env l K->
 ∃ds,K ds/\∀c w (tmps:Array Value),Mem c w->mh c R->(∀t,Rep c w (look env t) (tmps.getD t undef))->∃vs,(l.mapM (MN tmps)).run P w=.ok vs w/\kj c w ds vs
 |[],K,h=>⟨[],h,λc w tmps _ _ _=>⟨[],rfl,trivial⟩⟩
 |.tmp t::l,K,h=>by
  simp only[FG,D.c7,dd]at h
  obtain⟨hv,h⟩:=h
  obtain⟨ds,hK,hr⟩:=Vq hT h
  refine⟨_,hK,λc w tmps hm hA he=>?_⟩
  obtain⟨vs,h1,h2⟩:=hr c w tmps hm hA he
  refine⟨tmps.getD t undef::vs,?_,(he t).toVRep hv,h2⟩
  simp only[gJ,Sem.run_bind,MN,Sem.run_pure,Result.andThen_ok,h1]
 |.cell a t::l,K,h=>by
  simp only[FG]at h
  obtain⟨val,Vr,DA⟩:=Zk2 hT h
  simp only[dd]at Vr
  obtain⟨hv,Vr⟩:=Vr
  obtain⟨ds,hK,hr⟩:=Vq hT Vr
  refine⟨_,hK,λc w tmps hm hA he=>?_⟩
  obtain⟨vs,h1,h2⟩:=hr c w tmps hm hA he
  obtain⟨u,hu,hx⟩:=DA c w _ hm hA (he a)
  obtain⟨ad,had⟩:=Zsp h (he a)
  rw[had,Va]at hu
  refine⟨u::vs,?_,hx.toVRep hv,h2⟩
  simp only[gJ,Sem.run_bind,MN,had,asAddr,Sem.run_pure,Result.andThen_ok,hu,h1]
def Da:List Value->Value
 |[v]=>v
 |vs=>.tuple vs.toArray
theorem Z8i{tmps:Array Value}(h:(fn.results.toList.mapM (MN tmps)).run P w=.ok vs w):(results fn tmps).run P w=.ok (Da vs) w:=by
 have h2:(fn.results.mapM (MN tmps)).run P w=.ok vs.toArray w:=by
  rw[<-bW (xs:=fn.results),List.mapM_toArray]
  simp only[Sem.run_map,h,Result.andThen_ok]
 have h3:(results fn tmps)=(fn.results.mapM (MN tmps))>>=λvs=>pure (if h:vs.size=1 then vs[0]else .tuple vs):=by
  unfold results
  congr 1
 rw[h3,Sem.run_bind,h2]
 simp only[Result.andThen_ok,Sem.run_pure]
 congr 1
 match vs with
 |[]=>rfl
 |[v]=>rfl
 |_::_::_=>rfl
theorem fj.NB{c0:Ctx}{c:Ctx}(hs:fj N M c0 w0 c w st a){b:Nat}(hb:w0.heap.size<=b){o o':Obj}(ho:w.heap[b]?=some o)(hc:∀arr ty fz,o≠.cells arr ty fz)
 {Fk:Nat->Prop} (gF:∀k ws v,Fk k->rS c w k ws v->rS {c with I:=λx=>c.I x/\x≠b} (w.putObj b o') k ws v) (hE:∀t,∀k∈CL (look st.env t),Fk k) (hR:∀r x,c.R r=some x->∀k∈kE [x],Fk k) {ds:List Deferred} (hd:lY w0.heap.size (w.putObj b o') ds):
 fj N M c0 w0 {c with I:=λx=>c.I x/\x≠b} (w.putObj b o') st {a with defers:=ds}:=by
 have c6:∀r x,c.R r=some x->¬c.V r->c.ρ r≠b:=λr x hr hV e=>by
  rcases hs.mem.row r x hr with h|⟨_,arr,h,_⟩
  ·exact hV h.1
  ·rw[e,ho]at h;exact hc _ _ _ (Option.some.inj h)
 have hh:∀r x,c.R r=some x->¬c.V r->(w.putObj b o').heap[c.ρ r]?=w.heap[c.ρ r]? :=λr x hr hV=>World.putObj_heap_other (c6 r x hr hV)
 have hg:JH c w {c with I:=λx=>c.I x/\x≠b} (w.putObj b o'):=by
  refine⟨rfl,aX _,λx arr ty fz hI hx=>?_,λr x hr=>⟨x,hr,rfl,rfl,rfl,rfl,rfl,Iff.rfl,λhV arr ha=>⟨arr,(hh r x hr hV).trans ha,rfl⟩⟩⟩
  have gv:x≠b:=λe=>by subst e;rw[ho]at hx;exact hc _ _ _ (Option.some.inj hx)
  exact⟨⟨hI,gv⟩,(World.putObj_heap_other gv).trans hx⟩
 have jD:∀x,c0.I x->x≠b:=λx hx e=>by
  obtain⟨h1,h2⟩:=hs.reach.cz.I x hx
  have h3:=(hs.mem.fh x h1).1
  rw[e,ho]at h2
  have:=(Array.getElem?_eq_some_iff.1 h2.symm).1
  omega
 refine⟨ZX hs.mem hg hh gF hR (λx hx=>⟨by simpa using(hs.mem.fh x hx.1).1,(hs.mem.fh x hx.1).2⟩) (by simp),hs.rows,λt=>Zs hg gF (hE t) (hs.env t),hs.size,hd,hs.fy,hs.gw,?_⟩
 refine⟨⟨hs.reach.cz.base,hs.reach.cz.top,λx hx=>?_,λr row hr=>?_⟩,⟨hs.reach.fr.os,hs.reach.fr.tape,hs.reach.fr.output,by simpa using hs.reach.fr.size,λx hx hn=>?_⟩,λx hx=>hs.reach.fh x hx.1,hs.reach.oc,hs.reach.xb⟩
 ·obtain⟨h1,h2⟩:=hs.reach.cz.I x hx
  exact⟨⟨h1,jD x hx⟩,(World.putObj_heap_other (jD x hx)).trans h2⟩
 ·obtain⟨ao,h1,h2,h3,h4,h5,h6,hV,h7⟩:=hs.reach.cz.R r row hr
  refine⟨ao,h1,h2,h3,h4,h5,h6,hV,λnv arr ha=>?_⟩
  obtain⟨iK,g1,g2⟩:=h7 nv arr ha
  refine⟨iK,?_,g2⟩
  rw[World.putObj_heap_other]
  ·exact g1
  ·intro e;rw[e,ho]at g1;exact hc _ _ _ (Option.some.inj g1)
 ·rw[World.putObj_heap_other (by omega)];exact hs.reach.fr.heap x hx hn
theorem fj.edit{c0:Ctx}{c:Ctx}(hs:fj N M c0 w0 c w st a)(hI:c0.I l){rec:Loop}(ho:w0.heap[l]?=some (.loop rec))(Db:∀r x,c0.R r=some x->¬c0.V r->c0.ρ r≠l)
 (nf:pY (Ag st.env++Gq st.rows)=true):fj N M {c0 with I:=λx=>c0.I x/\x≠l} (w0.putObj l o') {c with I:=λx=>c.I x/\x≠l} (w.putObj l o') st a:=by
 have hl:w.heap[l]?=some (.loop rec):=(hs.reach.cz.I l hI).2.trans ho
 have Jab:=(Array.getElem?_eq_some_iff.1 ho).1
 have bd:=(Array.getElem?_eq_some_iff.1 hl).1
 have c6:∀r x,c.R r=some x->¬c.V r->c.ρ r≠l:=λr x hr hV=>(hs.mem.fh l (hs.reach.cz.I l hI).1).2 r x hr hV
 have hh:∀r x,c.R r=some x->¬c.V r->(w.putObj l o').heap[c.ρ r]?=w.heap[c.ρ r]? :=λr x hr hV=>World.putObj_heap_other (c6 r x hr hV)
 have gF:∀k ws v,k<YB->rS c w k ws v->rS {c with I:=λx=>c.I x/\x≠l} (w.putObj l o') k ws v:=λk ws v hk hv=>by
  rcases hv with hv|⟨hv,_⟩
  ·exact .inl hv
  ·omega
 have hg:JH c w {c with I:=λx=>c.I x/\x≠l} (w.putObj l o'):=by
  refine⟨rfl,aX _,λx arr ty fz hI hx=>?_,λr x hr=>⟨x,hr,rfl,rfl,rfl,rfl,rfl,Iff.rfl,λhV arr ha=>⟨arr,(hh r x hr hV).trans ha,rfl⟩⟩⟩
  have gv:x≠l:=λe=>by subst e;rw[hl]at hx;cases hx
  exact⟨⟨hI,gv⟩,(World.putObj_heap_other gv).trans hx⟩
 refine⟨ZX hs.mem hg hh gF (λr x hr k hk=>NC nf (eZ _ (W5 (by rw[<-hs.rows];exact hr) hk))) (λx hx=>⟨by simpa using(hs.mem.fh x hx.1).1,(hs.mem.fh x hx.1).2⟩) (by simp),hs.rows,λt=>Zs hg gF (λk hk=>NC nf (eU _ (W4 hk))) (hs.env t),hs.size,?_,by simpa using hs.fy,hs.gw,?_⟩
 ·have:=hs.defers.to (w':=w.putObj l o') λb hb=>(World.putObj_heap_other λe=>by rw[e,hl]at hb;cases hb).trans hb
  simpa using this
 refine⟨⟨hs.reach.cz.base,hs.reach.cz.top,λx hx=>?_,λr row hr=>?_⟩,⟨hs.reach.fr.os,hs.reach.fr.tape,hs.reach.fr.output,by simpa using hs.reach.fr.size,λx hx hn=>?_⟩,λx hx=>?_,λr row hr hv=>?_,hs.reach.xb⟩
 ·obtain⟨h1,h2⟩:=hs.reach.cz.I x hx.1
  exact⟨⟨h1,hx.2⟩,(World.putObj_heap_other hx.2).trans (h2.trans (World.putObj_heap_other hx.2).symm)⟩
 ·obtain⟨ao,h1,h2,h3,h4,h5,h6,hV,h7⟩:=hs.reach.cz.R r row hr
  refine⟨ao,h1,h2,h3,h4,h5,h6,hV,λnv arr ha=>?_⟩
  rw[World.putObj_heap_other (Db r row hr nv)]at ha
  obtain⟨iK,g1,g2⟩:=h7 nv arr ha
  refine⟨iK,?_,g2⟩
  rw[World.putObj_heap_other]
  ·exact g1
  ·intro e;rw[e,hl]at g1;cases g1
 ·by_cases e:x=l
  ·subst e;rw[World.putObj_heap_same bd,World.putObj_heap_same Jab]
  ·rw[World.putObj_heap_other e,World.putObj_heap_other e]
   exact hs.reach.fr.heap x (by simpa using hx) hn
 ·rcases hs.reach.fh x hx.1 with g|g|g
  ·exact .inl ⟨g,hx.2⟩
  ·exact .inr (.inl g)
  ·exact .inr (.inr (by simpa using g))
 ·rcases hs.reach.oc r row hr hv with g|g|g
  ·exact .inl g
  ·exact .inr (.inl g)
  ·exact .inr (.inr (by simpa using g))
theorem leaves{P:Program}{fn:Func}{R:Ending->World->Prop}{N M:Nat}{c0:Ctx}{w0:World}{c:Ctx}{w:World}{st:St}{a:Act}(hs:fj N M c0 w0 c w st a)
 (h:∀c' w' a',a'.tmps=a.tmps->fj N M c0 w0 c' w' st a'->∃v,(results fn a'.tmps).run P w'=.ok v w'/\R (.returned v) w'):LeavesInM Fence.wide 0 P fn a.tmps R a.defers .returning w:=by
 obtain⟨bs,kU,Ef,Vs⟩:=hs.defers
 revert c w a
 induction bs with
 |nil=>
  intro c w a hs h Ef Vs
  rw[Ef]
  obtain⟨v,h1,h2⟩:=h c w a rfl hs
  exact⟨v,h1,h2⟩
 |cons b bs ih=>
  intro c w a hs h Ef Vs
  obtain⟨h1,h2⟩:=Vs b (by simp)
  rw[List.nodup_cons]at kU
  rw[Ef]
  refine⟨by simp,.inl ⟨b,_,rfl,run_takeDeferred h2,?_⟩⟩
  have Rq:∀x∈bs,w0.heap.size<=x/\(w.putObj b (.deferred none)).heap[x]?=some (.deferred (some [])):=λx hx=>by
   obtain⟨g1,g2⟩:=Vs x (by simp[hx])
   exact⟨g1,(World.putObj_heap_other (λe=>kU.1 (by rw[<-e];exact hx))).trans g2⟩
  refine ih kU.2 (a:={a with defers:=bs.map λb=>({target:=.collected b,args:= #[]}:Deferred)}) (hs.NB h1 h2 (λ_ _ _ e=>by cases e) (Fk:=λ_=>True) (λk ws v _ hv=>?_) (λ_ _ _=>trivial) (λ_ _ _ _ _=>trivial) ⟨bs,kU.2,rfl,Rq⟩) h rfl Rq
  rcases hv with hv|⟨g1,l,rec,g2,g3,g4,g5⟩
  ·exact .inl hv
  ·have gv:l≠b:=λe=>by rw[e,h2]at g4;cases g4
   exact .inr ⟨g1,l,rec,g2,⟨g3,gv⟩,(World.putObj_heap_other gv).trans g4,g5⟩
theorem zw(hD:pB P)(hT:ji P T)(hG:jB P G)(hf:P.funcs[f]?=some fn){args:List D}{rows:List Row}{res:D}{aj:List Row}
 {rf:Option Nat} (mI:∀code,fn.body=some code->RF rf fn.ntmps code) {L:Code->St->(Ex->St->Prop)->Prop} (hL:∀code st Q,RF rf fn.ntmps code->L code st Q->Tr P fn.ntmps rows.length code st Q) {Q0:D->Rows->Prop} (Dc:∀d R,Q0 d R->Ak rows.length res aj d R) (h:ko T G L fn args rows Q0):kr P f args rows res aj:=by
 intro c w vs hm jj hR fv
 unfold ko at h
 split at h
 ·rename_i code hb
  have hs:fj fn.ntmps rows.length {c with X:=λ_=>False} w c w ⟨FE args 0,rows.map some⟩ {tmps:=vs.toArray++gI (fn.ntmps-vs.toArray.size) undef,defers:=[]}:=
   ⟨hm,λr=>by
    rw[hR]
    simp only[aV,gK]
    cases rows[r]? <;>rfl,λt=>Zqe fv _ t,by simp;omega,lY.nil,Nat.le_of_eq jj,λr row h=>by have h:c.R r=some row:=h;rw[hR]at h;exact(List.getElem?_eq_some_iff.1 h).1,w6.refl c w⟩
  refine callsIn_wide.1 (callsIn_of_wp_marks (F:=Fence.wide) (n:=0) hf hb trivial (wpIn_mono (ND (ro:=none) hD hT hG (NF rf fn.ntmps) hL code _ _ (mI _ hb) h _ w c w _ hs) λe a' w' hq=>?_))
  obtain⟨ex,st,c1,he,hq,lL⟩:=hq
  have fin:(FG T st.rows st.env fn.results.toList λds=>match ds with|[d]=>Q0 d st.rows|ds=>Q0 (.dw ds) st.rows)->
   LeavesInM Fence.wide 0 P fn a'.tmps (λe w'=>∃v' c',e=.returned v'/\lM c w c' w'/\(∀r,c'.R r=aj[r]?)/\Rep c' w' res v') a'.defers .returning w':=by
   intro kJ
   refine leaves lL λc1 w' a' jC lL=>?_
   obtain⟨ds,hK,hr⟩:=Vq hT kJ
   have oW:mh c1 st.rows:=λr row ao h1 h2=>by rw[lL.rows,h2]at h1;exact(Option.some.inj h1).symm
   obtain⟨us,im,De⟩:=hr c1 w' a'.tmps lL.mem oW lL.env
   have sZ:=Z8i im
   obtain⟨d,v,JQ,hv,ov⟩:∃d v,Ak rows.length res aj d st.rows/\Da us=v/\Rep c1 w' d v:=by
    match ds,us,De with
    |[d],[u],hx=>exact⟨d,u,Dc _ _ hK,rfl,hx.1.toRep⟩
    |[],[],hx=>exact⟨.dw [],_,Dc _ _ hK,rfl,[],rfl,trivial⟩
    |d::e::ds,u::v::us,hx=>exact⟨.dw (d::e::ds),_,Dc _ _ hK,rfl,_,rfl,hx⟩
    |[],_::_,hx=>exact hx.elim
    |[_],[],hx=>exact hx.elim
    |[_],_::_::_,hx=>exact hx.2.elim
    |_::_::_,[],hx=>exact hx.elim
    |_::_::_,[_],hx=>exact hx.2.elim
   rw[hv]at sZ
   obtain⟨ex,hex,hd,db⟩:=JQ
   obtain⟨ez,je,fw⟩:=Tf lL hex db
   exact⟨v,sZ,v,c1.out _ aj,rfl,⟨je,⟨fw.cz.base,fw.cz.top,fw.cz.I,fw.cz.R⟩,fw.fr.mono (λb _ hb=>hb.elim id False.elim),λb hb=>(fw.fh b hb).imp id (λh=>h.elim False.elim id),λr ao h1 h2=>(fw.oc r ao h1 h2).imp id (λh=>h.elim False.elim id)⟩,λr=>rfl,Te lL.mem lL.rows db ez hd ov⟩
  cases e<;>simp only[mO,Option.some.injEq,reduceCtorEq]at he
  ·subst he;exact fin hq
  ·subst he;exact hq.elim
  ·subst he;exact fin hq
 ·exact h.elim
theorem qad{rows:List Row}{c:Ctx}{c':Ctx}{w':World}(je:Mem c' w')(fw:w6 {c.kill (bO k (rows.length-k))with X:=λb=>∃s row,da s (bO k (rows.length-k))=true/\c.R s=some row/\¬c.V s/\c.ρ s=b} w c' w'):
 jL (bO k (rows.length-k)) c w c' w':=by
 refine⟨je,⟨fw.cz.base,fw.cz.top,fw.cz.I,fw.cz.R⟩,fw.fr.mono (λb _ hb=>?_),λb hb=>fw.fh b hb,λr ao h1 h2=>?_⟩
 ·rcases hb with⟨r,x,h1,h2,h3⟩|⟨r,x,_,h1,h2,h3⟩
  ·obtain⟨_,row,g1,_⟩:=ng (c:=c) (ks:=bO k (rows.length-k)) h1
   exact⟨r,row,g1,h2,h3⟩
  ·exact⟨r,x,h1,h2,h3⟩
 ·rcases fw.oc r ao h1 h2 with⟨⟨x,g1⟩,g2,g3⟩|⟨s,x,q1,q2,q3,q4⟩|g
  ·obtain⟨_,row,p1,_⟩:=ng (c:=c) (ks:=bO k (rows.length-k)) g1
   exact .inl ⟨⟨row,p1⟩,g2,g3⟩
  ·exact .inr (.inl ⟨s,x,q1,q2,q3,q4.symm⟩)
  ·exact .inr (.inr g)
theorem Zs5:∀{rows:List Row} {r:Nat} {x:Row} {k:Nat},rows[r]?=some x->k∈kE [x]->k∈kE rows
 |y::l,0,x,k,h,hk=>by
  simp at h;subst h
  unfold kE at hk⊢
  split<;>simp_all [kE]
 |y::l,r+1,x,k,h,hk=>by
  have:=Zs5 (rows:=l) (by simpa using h) hk
  unfold kE
  split<;>simp_all
 |[],r,x,k,h,_=>by simp at h
theorem Zqr{c:Ctx}{w:World}{tm oR:Array Value}:∀{ts:List Nat} {ds:List D},kj c w ds (ts.map λt=>tm.getD t undef)->(∀t∈ts,oR.getD t undef=tm.getD t undef)->∀t,Rep c w (look (oA ts ds) t) (oR.getD t undef)
 |[],ds,_,_,t=>by cases ds<;>trivial
 |u::ts,[],h,_,t=>h.elim
 |u::ts,d::ds,h,ht,t=>by
  simp only[oA,AR]
  split
  ·rename_i e;rw[<-e,ht u (by simp)];exact h.1.toRep
  ·exact Zqr h.2 (λt h=>ht t (by simp[h])) t
theorem yw{F:Fence}{y:YK}(hd:y.pos=some d){x:Value}(hn:y.n<=tm.size){K:Act->World->Prop}
 (hK:∀oR,oR.size=tm.size->oR.getD d undef=x->(∀t∈y.ts,oR.getD t undef=tm.getD t undef)->K {tmps:=oR,defers:=[]} w):
 y.assign.wpIn (AT (some l)) 0 P (Exit.then K λ_ _ _=>False) {tmps:=(y.ps.zip #[x]).foldl (λtmps (t,a)=>tmps.setIfInBounds t a) tm,defers:=[]} w:=by
 have du:∀(p:Nat) (JR:Array Value) (t:Nat),t≠p->(JR.setIfInBounds p x).getD t undef=JR.getD t undef:=λp JR t h=>by
  simp[aQ,aZ (Ne.symm h)]
 have here:∀(p:Nat) (JR:Array Value),p<JR.size->(JR.setIfInBounds p x).getD p undef=x:=λp JR h=>by
  simp[aQ,h]
 unfold YK.pos at hd
 split at hd
 ·rename_i p kX has
  have kX:y.ps= #[p]:=by rw[<-bW (xs:=y.ps),kX]
  split at hd
  ·rename_i hc
   cases hd
   simp only[aE,gL,bB]at hc
   have hp:d<tm.size:=bM (lE hc.1) hn
   rw[has,kX]
   refine wpIn_skip (hK _ (by simp) ?_ λt ht=>?_)
   ·simpa using here d tm hp
   ·have:=du d tm t (λe=>by have:=(hc.2 t ht).1;rw[e]at this;simp at this)
    simpa using this
  ·cases hd
 ·rename_i p id ops kX has
  have kX:y.ps= #[p]:=by rw[<-bW (xs:=y.ps),kX]
  split at hd
  ·rename_i e q ty po af Df
   have Df:ops= #[⟨some e,.assign (.tmp q),ty,po,af,none⟩]:=by rw[<-bW (xs:=ops),Df]
   split at hd
   ·rename_i hc
    cases hd
    simp only[aE,gL,bB]at hc
    obtain⟨⟨hq,hp,hd⟩,Ev⟩:=hc
    have hq:=bE hq
    subst hq
    have hp:q<tm.size:=bM (lE hp) hn
    have hd:d<tm.size:=bM (lE hd) hn
    rw[has,kX,Df]
    refine Zmw ?_
    show wpOp P _ _ 0 _ _ _
    unfold wpOp
    simp only[List.getElem?_toArray,List.getElem?_cons_zero]
    rw[if_pos (by simp[Region.wanted])]
    refine Gl (u:=x) (w':=w) ?_ ?_
    ·have:(tm.setIfInBounds q x).getD q undef=x:=here q tm hp
     simp only[execOp,Act.eval]
     simp[aQ,hp]
    ·show K {tmps:=Array.setIfInBounds _ d x,defers:=[]} w
     refine hK _ (by simp) ?_ λt ht=>?_
     ·exact here d _ (by simpa using hd)
     ·have h1:=(Ev t ht).1
      rw[du d _ t (λh=>by rw[h]at h1;simp at h1)]
      have:=du q tm t (λh=>by rw[h]at h1;simp at h1)
      simpa using this
   ·cases hd
  ·cases hd
 ·cases hd
inductive oV(P:Program)(f:FuncId)(fn:Func)(cl:Prop):Prop where
 |real (h:f<YB) (hf:P.funcs[f]?=some fn) (hb:gH YB fn.nfree=false)
 |yield (h:YB<=f) (y:YK) (d:Nat) (hy:AH f=some y) (hd:y.pos=some d) (hb:fn.body=some y.body) (hn:gH YB fn.nfree=true) (Rr:bX fn.nfree YB=true) (hp:fn.params.toList=d::y.ts) (ht:fn.ntmps=y.n) (hc:cl)
 |uT (h:YB<=f) (y:YK) (q:Nat) (hy:AH f=some y) (kX:y.ps= #[q]) (hq:(Nat.blt q y.n&&y.ts.all λt=>!(bX t q))=true) (hb:fn.body=some (.seq y.assign y.body)) (hn:gH YB fn.nfree=true) (Rr:bX fn.nfree YB=false) (hp:fn.params.toList=q::y.ts) (ht:fn.ntmps=y.n) (hc:cl)
theorem JS{rows:List Row}{c:Ctx}{env:List (Nat×D)}(hm:Mem c w)(jj:c.base=0)(hR:∀r,c.R r=rows[r]?)(ta:∀t,Rep c w (look env t) (tm.getD t undef))(ft:N<=tm.size):
 fj N k {c.kill (bO k (rows.length-k))with X:=λb=>∃s row,da s (bO k (rows.length-k))=true/\c.R s=some row/\¬c.V s/\c.ρ s=b} w c w ⟨env,rows.map some⟩ {tmps:=tm,defers:=[]}:=by
 refine⟨hm,λr=>by
  rw[hR]
  simp only[aV,gK]
  cases rows[r]? <;>rfl,ta,ft,lY.nil,by simp[Ctx.kill,jj],λr row h=>?_,⟨⟨rfl,aX _,λ_ h=>⟨h,rfl⟩,λr x hx=>?_⟩,Fr.refl _ w,λ_ h=>.inl h,λr row hr hv=>?_,λ_ _=>by simp[Ctx.kill,jj]⟩⟩
 ·obtain⟨h1,ao,h2,_⟩:=ng (c:=c) (ks:=bO k (rows.length-k)) h
  rw[hR]at h2
  have bd:=(List.getElem?_eq_some_iff.1 h2).1
  by_cases hk:r<k
  ·exact hk
  ·rw[Mv.2 (by omega)]at h1;cases h1
 ·obtain⟨_,row,h2,rfl⟩:=ng (c:=c) (ks:=bO k (rows.length-k)) hx
  obtain⟨s1,s2,s3,s4⟩:=wh (bO k (rows.length-k)) row
  exact⟨row,h2,s1.symm,s2.symm,s3.symm,s4.symm,rfl,Iff.rfl,λ_ arr ha=>⟨arr,by rw[s2]at ha⊢;exact ha,rfl⟩⟩
 ·cases hb:da r (bO k (rows.length-k))with
  |true=>exact .inr (.inl ⟨r,row,hb,hr,hv,rfl⟩)
  |false=>exact .inl ⟨⟨row.kill (bO k (rows.length-k)),by simp[Ctx.kill,hb,hr]⟩,hv,rfl⟩
theorem Zmm{c:Ctx}{tm oR:Array Value}{ps:List Nat}{ts:List Nat}(Dg:ps=d::ts){args:List D}{vs us:List Value}{x:Value}(BM:vs=[x]++us)(tO:us=ts.map λt=>tm.getD t undef)(fv:kj c w args vs)(hx:oR.getD d undef=x)(Ev:∀t∈ts,oR.getD t undef=tm.getD t undef):
 ∀t,Rep c w (look (oA ps args) t) (oR.getD t undef):=by
 subst Dg
 subst BM
 match args,fv with
 |[],hx=>exact hx.elim
 |A::As,⟨hA,hAs⟩=>
  intro t
  simp only[oA,AR]
  split
  ·rename_i e;rw[<-e,hx];exact hA.toRep
  ·exact Zqr (by rw[tO]at hAs;exact hAs) Ev t
theorem Zcv(hD:pB P)(hT:ji P T)(hG:jB P G){rows:List Row}{res:D}{aj:List Row}{L:Code->St->(Ex->St->Prop)->Prop}(hL:∀ro code st Q,L code st Q->tW ro P n k code st Q){Q0:D->Rows->Prop}(Dc:∀d R,Q0 d R->Ak k res aj d R)
 {c:Ctx} {w:World} {l:Nat} {rec:Loop} (hm:Mem c w) (hI:c.I l) (hl:w.heap[l]?=some (.loop rec)) (jZ:rec.state=.ready) (DF:rec.pending=none) {st:St} {c2:Ctx} {w2:World} {a:Act}
 (hs:fj n k {({c with I:=λb=>c.I b/\b≠l}:Ctx).kill (bO k (rows.length-k))with X:=λb=>∃s row,da s (bO k (rows.length-k))=true/\c.R s=some row/\¬c.V s/\c.ρ s=b} (w.putObj l (.loop {rec with state:=.busy})) c2 w2 st a)
 (h:o4 T G n k L code st λe st=>match e with|.normal=>Q0 (.bool true) st.rows|_=>False):
 code.wpIn (AT (some l)) 0 P (roundPost P l λe w'=>∃v' c',e=.returned v'/\jL (bO k (rows.length-k)) c w c' w'/\(∀r,c'.R r=aj[r]?)/\Rep c' w' res v') a w2:=by
 have bd:=(Array.getElem?_eq_some_iff.1 hl).1
 obtain⟨ĉ,hĉ⟩:∃ĉ:Ctx,ĉ={c with I:=λb=>c.I b/\b≠l}:=⟨_,rfl⟩
 obtain⟨wb,JT⟩:∃wb,wb=w.putObj l (.loop {rec with state:=.busy}):=⟨_,rfl⟩
 have c6:∀r x,c.R r=some x->¬c.V r->c.ρ r≠l:=λr x hr hV=>(hm.fh l hI).2 r x hr hV
 have JU:∀b,b≠l->wb.heap[b]?=w.heap[b]? :=λb hb=>by rw[JT];exact World.putObj_heap_other hb
 have h2l:wb.heap[l]?=some (.loop {rec with state:=.busy}):=by rw[JT];exact World.putObj_heap_same bd
 have FH:wb.heap.size=w.heap.size:=by rw[JT];simp
 have hs:fj n k {ĉ.kill (bO k (rows.length-k))with X:=λb=>∃s row,da s (bO k (rows.length-k))=true/\ĉ.R s=some row/\¬ĉ.V s/\ĉ.ρ s=b} wb c2 w2 st a:=by rw[hĉ,JT];exact hs
 refine wpIn_mono (ND (ro:=some l) hD hT hG (NF none n) (λcode st Q _ hl=>hL (some l) code st Q hl) code _ _ trivial h _ wb c2 w2 _ hs) λe a' w3 hq=>?_
 obtain⟨ex,st,c1,he,hq,lL⟩:=hq
 cases e<;>simp only[mO,Option.some.injEq,reduceCtorEq]at he<;>subst he
 rotate_left
 ·exact hq.elim
 ·exact hq.elim
 obtain⟨ex,hex,pq,db⟩:=Dc _ _ hq
 obtain⟨ez,je,fw⟩:=Tf lL hex db
 have hX:¬({ĉ.kill (bO k (rows.length-k))with X:=λb=>∃s row,da s (bO k (rows.length-k))=true/\ĉ.R s=some row/\¬ĉ.V s/\ĉ.ρ s=b}:Ctx).X l:=fun⟨s,row,_,g1,g2,g3⟩=>by
  rw[hĉ]at g1 g2 g3;exact c6 s row g1 g2 g3
 have h3l:w3.heap[l]?=some (.loop {rec with state:=.busy}):=by
  refine(lL.reach.fr.heap l (by rw[FH];exact bd) λhx=>?_).trans h2l
  rcases hx with⟨r,row,g1,g2,g3⟩|hx
  ·obtain⟨_,ao,g4,_⟩:=ng (c:=ĉ) g1
   rw[hĉ]at g2 g3 g4;exact c6 r ao g4 g2 g3
  ·exact hX hx
 have Iz:=(Array.getElem?_eq_some_iff.1 h3l).1
 have Ew:=run_endRound (P:=P) none h3l
 refine⟨_,_,Ew,_,{c1.out ex aj with I:=λb=>(c1.out ex aj).I b\/b=l},rfl,?_⟩
 have Rs:({({rec with state:=.busy}:Loop)with state:=if(none:Option Code).isNone then .ready else .done,pending:=none}:Loop)=rec:=by
  cases rec;simp only at jZ DF;subst jZ;subst DF;rfl
 rw[Rs]
 have nl:¬(c1.out ex aj).I l:=λhx=>by
  rcases fw.fh l hx with h|h|h
  ·obtain⟨h,_⟩:ĉ.I l/\True:=⟨h,trivial⟩
   rw[hĉ]at h;exact h.2 rfl
  ·exact hX h
  ·rw[FH]at h;omega
 have Dh:∀r x,(c1.out ex aj).R r=some x->¬(c1.out ex aj).V r->(c1.out ex aj).ρ r≠l:=λr x hr hV e=>by
  rcases je.row r x hr with g|⟨_,arr,g,_⟩
  ·exact hV g.1
  ·rw[e,h3l]at g;cases g
 have MO:∀b,b≠l->(w3.putObj l (.loop rec)).heap[b]?=w3.heap[b]? :=λb hb=>World.putObj_heap_other hb
 have wo:Q4 (c1.out ex aj) w3 {c1.out ex aj with I:=λb=>(c1.out ex aj).I b\/b=l} (w3.putObj l (.loop rec)):=
  ⟨rfl,aX _,λb hb=>⟨.inl hb,MO b (λe=>nl (by rw[<-e];exact hb))⟩,λr x hr=>⟨x,hr,rfl,rfl,rfl,rfl,rfl,Iff.rfl,λhV arr ha=>⟨arr,(MO _ (Dh r x hr hV)).trans ha,rfl⟩⟩⟩
 have hN:=qad je fw
 refine⟨⟨⟨λr x hr=>tw wo rfl Iff.rfl (λnv=>MO _ (Dh r x hr nv)) (je.row r x hr),je.inj,λb hb=>?_,by simpa using je.top,je.jY.mono wo.I⟩,⟨?_,?_,λb hb=>?_,λr x hr=>?_⟩,⟨?_,?_,?_,?_,λb hb hn=>?_⟩,λb hb=>?_,λr row hr hv=>?_⟩,λr=>rfl,w7 wo (Te lL.mem lL.rows db ez pq rfl)⟩
 ·rcases hb with hb|hb
  ·simpa using je.fh b hb
  ·subst hb;exact⟨by simpa using Iz,λr x hr hV=>Dh r x hr hV⟩
 ·have:=hN.cz.base;rw[hĉ]at this;exact this
 ·have:=hN.cz.top;rw[hĉ]at this;exact this
 ·by_cases e:b=l
  ·subst e;exact⟨.inr rfl,by rw[World.putObj_heap_same Iz,hl]⟩
  ·have:=hN.cz.I b (by rw[hĉ];exact⟨hb,e⟩)
   exact⟨.inl this.1,(MO b e).trans (this.2.trans (JU b e))⟩
 ·have:=hN.cz.R r x (by rw[hĉ];exact hr)
  obtain⟨x',g1,g2,g3,g4,g5,g6,gV,g7⟩:=this
  rw[hĉ]at g6 gV g7
  refine⟨x',g1,g2,g3,g4,g5,g6,gV,λhV arr ha=>?_⟩
  obtain⟨_,x0,q1,_⟩:=ng (c:=c) hr
  have gv:c.ρ r≠l:=c6 r x0 q1 hV
  obtain⟨iK,k1,k2⟩:=g7 hV arr ((JU _ gv).trans ha)
  exact⟨iK,(MO _ gv).trans k1,k2⟩
 ·rw[JT]at hN;exact hN.fr.os
 ·rw[JT]at hN;exact hN.fr.tape
 ·rw[JT]at hN;exact hN.fr.output
 ·have:=hN.fr.size;rw[FH]at this;simpa using this
 ·by_cases e:b=l
  ·subst e;rw[World.putObj_heap_same Iz,hl]
  ·rw[MO b e,hN.fr.heap b (by rw[FH];exact hb) (by rw[hĉ];exact hn),JU b e]
 ·rcases hb with hb|hb
  ·rcases hN.fh b hb with g|g|g
   ·rw[hĉ]at g;exact .inl g.1
   ·rw[hĉ]at g;exact .inr (.inl g)
   ·rw[FH]at g;exact .inr (.inr g)
  ·subst hb;exact .inl hI
 ·rcases hN.oc r row hr hv with g|g|g
  ·rw[hĉ]at g;exact .inl g
  ·rw[hĉ]at g;exact .inr (.inl g)
  ·rw[FH]at g;exact .inr (.inr g)
theorem xaL(hD:pB P)(hT:ji P T)(hG:jB P G){args:List D}{rows:List Row}{res:D}{aj:List Row}{rf:Option Nat}(hf:oV P f fn (pY (ow args++kE rows)=true/\rf=none))(mI:∀code,fn.body=some code->RF rf fn.ntmps code)
 {L:Code->St->(Ex->St->Prop)->Prop} (hL:∀ro,(ro=none\/rf=none)->∀code st Q,RF rf fn.ntmps code->L code st Q->tW ro P fn.ntmps k code st Q) {Q0:D->Rows->Prop} (Dc:∀d R,Q0 d R->Ak k res aj d R) (h:FI T G L fn args rows Q0 k):Qd P f k args rows res aj:=by
 intro c w vs hm jj hR fv
 unfold FI at h
 split at h
 rotate_left
 ·exact h.elim
 rename_i code hb
 cases hf with
 |real bd hf sJ=>
  simp only[sJ]at h
  refine⟨λ_=>?_,λfx=>absurd bd (Nat.not_lt.2 fx)⟩
  have hs:=JS (N:=fn.ntmps) (k:=k) (env:=FE args 0) (tm:=vs.toArray++gI (fn.ntmps-vs.toArray.size) undef) hm jj hR (λt=>Zqe fv _ t) (by simp;omega)
  refine callsIn_wide.1 (callsIn_of_wp_marks (F:=Fence.wide) (n:=0) hf hb trivial (wpIn_mono (ND (ro:=none) hD hT hG (NF rf fn.ntmps) (hL none (.inl rfl)) code _ _ (mI _ hb) h _ w c w _ hs) λe a' w' hq=>?_))
  obtain⟨ex,st,c1,he,hq,lL⟩:=hq
  have fin:(FG T st.rows st.env fn.results.toList λds=>match ds with|[d]=>Q0 d st.rows|ds=>Q0 (.dw ds) st.rows)->
   LeavesInM Fence.wide 0 P fn a'.tmps (λe w'=>∃v' c',e=.returned v'/\jL (bO k (rows.length-k)) c w c' w'/\(∀r,c'.R r=aj[r]?)/\Rep c' w' res v') a'.defers .returning w':=by
   intro kJ
   refine leaves lL λc1 w' a' jC lL=>?_
   obtain⟨ds,hK,hr⟩:=Vq hT kJ
   have oW:mh c1 st.rows:=λr row ao h1 h2=>by rw[lL.rows,h2]at h1;exact(Option.some.inj h1).symm
   obtain⟨us,im,De⟩:=hr c1 w' a'.tmps lL.mem oW lL.env
   have sZ:=Z8i im
   obtain⟨d,v,JQ,hv,ov⟩:∃d v,Ak k res aj d st.rows/\Da us=v/\Rep c1 w' d v:=by
    match ds,us,De with
    |[d],[u],hx=>exact⟨d,u,Dc _ _ hK,rfl,hx.1.toRep⟩
    |[],[],hx=>exact⟨.dw [],_,Dc _ _ hK,rfl,[],rfl,trivial⟩
    |d::e::ds,u::v::us,hx=>exact⟨.dw (d::e::ds),_,Dc _ _ hK,rfl,_,rfl,hx⟩
    |[],_::_,hx=>exact hx.elim
    |[_],[],hx=>exact hx.elim
    |[_],_::_::_,hx=>exact hx.2.elim
    |_::_::_,[],hx=>exact hx.elim
    |_::_::_,[_],hx=>exact hx.2.elim
   rw[hv]at sZ
   obtain⟨ex,hex,hd,db⟩:=JQ
   obtain⟨ez,je,fw⟩:=Tf lL hex db
   refine⟨v,sZ,v,c1.out _ aj,rfl,qad je fw,λr=>rfl,Te lL.mem lL.rows db ez hd ov⟩
  cases e<;>simp only[mO,Option.some.injEq,reduceCtorEq]at he
  ·subst he;exact fin hq
  ·subst he;exact hq.elim
  ·subst he;exact fin hq
 |yield fx y d hy hd uG hnf JV Dg hnt hc=>
  simp only[hnf,JV]at h
  obtain⟨nf,JW⟩:=hc
  rw[uG]at hb
  cases hb
  refine⟨λbd=>absurd bd (Nat.not_lt.2 fx),λ_ l rec xs us BM hI hl mQ iX=>?_⟩
  obtain⟨jZ,DF,y',Ac,kX,has,hbo,Rt,h1,tO⟩:=mQ
  rw[hy]at Ac;cases Ac
  obtain⟨x,rfl⟩:∃x,xs=[x]:=by
   match xs,iX with
   |[x],_=>exact⟨x,rfl⟩
  rw[kX,has,hbo]
  have real:∀k,k∈ow args++kE rows->k<YB:=λk hk=>NC nf hk
  have bd:=(Array.getElem?_eq_some_iff.1 hl).1
  have wM:∀arr ty fz,(Obj.loop rec)≠.cells arr ty fz:=λ_ _ _ e=>by cases e
  obtain⟨ĉ,hĉ⟩:∃ĉ:Ctx,ĉ={c with I:=λb=>c.I b/\b≠l}:=⟨_,rfl⟩
  obtain⟨w2,Ru⟩:∃w2,w2=w.putObj l (.loop {rec with state:=.busy}):=⟨_,rfl⟩
  have c6:∀r x,c.R r=some x->¬c.V r->c.ρ r≠l:=λr x hr hV=>(hm.fh l hI).2 r x hr hV
  have JU:∀b,b≠l->w2.heap[b]?=w.heap[b]? :=λb hb=>by rw[Ru];exact World.putObj_heap_other hb
  have h2l:w2.heap[l]?=some (.loop {rec with state:=.busy}):=by rw[Ru];exact World.putObj_heap_same bd
  have FH:w2.heap.size=w.heap.size:=by rw[Ru];simp
  have hg:JH c w ĉ w2:=by
   rw[hĉ]
   refine⟨rfl,aX _,λb arr ty fz ij hb=>?_,λr x hr=>⟨x,hr,rfl,rfl,rfl,rfl,rfl,Iff.rfl,λhV arr ha=>⟨arr,(JU _ (c6 r x hr hV)).trans ha,rfl⟩⟩⟩
   have gv:b≠l:=λe=>by subst e;rw[hl]at hb;cases hb
   exact⟨⟨ij,gv⟩,(JU b gv).trans hb⟩
  have gF:∀k ws v,k<YB->rS c w k ws v->rS ĉ w2 k ws v:=λk ws v hk hv=>by
   rcases hv with hv|⟨hv,_⟩
   ·exact .inl hv
   ·omega
  have BP:Mem ĉ w2:=by
   rw[hĉ]at hg gF⊢
   refine ZX hm hg (λr x hr hV=>JU _ (c6 r x hr hV)) (Fk:=λk=>k<YB) gF (λr x hr k hk=>real k ?_) (λb hb=>⟨by rw[FH];exact(hm.fh b hb.1).1,(hm.fh b hb.1).2⟩) (by rw[FH];exact aX _)
   rw[hR]at hr
   exact eZ _ (Zs5 hr hk)
  have JX:kj ĉ w2 args vs:=ZW hg (Fk:=λk=>k<YB) gF (λk hk=>real k (eU _ hk)) fv
  refine roundIn_of_wpIn (F:=Fence.wide) (n:=0) trivial (yw (F:=Fence.wide) hd (tm:=rec.tmps) Rt λoR ft hx Ev=>?_)
  refine⟨w2,by rw[Ru];exact run_beginRound hl jZ,?_⟩
  have ta:∀t,Rep ĉ w2 (look (oA fn.params.toList args) t) (oR.getD t undef):=Zmm Dg BM tO JX hx Ev
  have hs:=JS (N:=fn.ntmps) (k:=k) (env:=oA fn.params.toList args) (tm:=oR) BP (by rw[hĉ];exact jj) (by rw[hĉ];exact hR) ta (by rw[ft,hnt];exact Rt)
  subst JW
  subst Ru
  subst hĉ
  exact Zcv hD hT hG (λro code st Q hl=>hL ro (.inr rfl) code st Q trivial hl) Dc hm hI hl jZ DF hs h
 |uT fx y q hy kX hq uG hnf JV Dg hnt hc=>
  simp only[hnf,JV]at h
  obtain⟨nf,JW⟩:=hc
  subst JW
  rw[uG]at hb
  cases hb
  simp only at h
  refine⟨λbd=>absurd bd (Nat.not_lt.2 fx),λ_ l rec xs us BM hI hl mQ iX=>?_⟩
  obtain⟨jZ,DF,y',Ac,Jac,has,hbo,Rt,h1,tO⟩:=mQ
  rw[hy]at Ac;cases Ac
  obtain⟨x,rfl⟩:∃x,xs=[x]:=by
   match xs,iX with
   |[x],_=>exact⟨x,rfl⟩
  rw[Jac,has,hbo]
  obtain⟨oR,Vt⟩:∃oR,oR=rec.tmps.setIfInBounds q x:=⟨_,rfl⟩
  have hz:((y.ps.zip [x].toArray).foldl (λtmps (t,a)=>tmps.setIfInBounds t a) rec.tmps)=oR:=by rw[kX,Vt];simp
  rw[hz]
  simp only[aE,gL,bB]at hq
  have hqs:q<rec.tmps.size:=bM (lE hq.1) Rt
  have hx:oR.getD q undef=x:=by rw[Vt];simp[aQ,hqs]
  have Ev:∀t∈y.ts,oR.getD t undef=rec.tmps.getD t undef:=λt ht=>by
   have gv:q≠t:=λe=>by have:=hq.2 t ht;rw[e]at this;simp at this
   rw[Vt];simp[aQ,aZ gv]
  have ta:∀t,Rep c w (look (oA fn.params.toList args) t) (oR.getD t undef):=Zmm Dg BM tO fv hx Ev
  have hs:=JS (N:=fn.ntmps) (k:=k) (env:=oA fn.params.toList args) (tm:=oR) hm jj hR ta (by rw[Vt,hnt];simpa using Rt)
  refine roundIn_of_wpIn (F:=Fence.wide) (n:=0) trivial (wpIn_mono (ND (ro:=some l) hD hT hG (NF none fn.ntmps) (λcode st Q _ hl=>hL (some l) (.inr rfl) code st Q trivial hl) y.assign _ _ trivial h _ w c w _ hs) λe a1 w1 hq=>?_)
  obtain⟨ex,st1,c1,he,hq,lL⟩:=hq
  cases e<;>simp only[mO,Option.some.injEq,reduceCtorEq]at he<;>subst he
  rotate_left
  ·exact hq.elim
  ·exact hq.elim
  simp only[dd]at hq
  obtain⟨Jad,hq⟩:=hq
  have Tj:w1.heap[l]?=some (.loop rec):=(lL.reach.cz.I l hI).2.trans hl
  have c6:∀r x,(c.kill (bO k (rows.length-k))).R r=some x->¬c.V r->c.ρ r≠l:=λr x hr hV=>by
   obtain⟨_,x0,q1,_⟩:=ng (c:=c) hr
   exact(hm.fh l hI).2 r x0 q1 hV
  exact⟨_,run_beginRound Tj jZ,Zcv hD hT hG (λro code st Q hl=>hL ro (.inr rfl) code st Q trivial hl) Dc hm hI hl jZ DF (lL.edit hI hl c6 Jad) hq⟩
def D.HB:D->Bool|.int _ _=>true|.bool _=>true|.str _=>true|.sl _ _ _=>true|.iz=>true|.jJ=>true|_=>false
theorem ai.wS(E:ai):ai.Eq E E:=by
 cases E with
 |gen es=>cases es<;>simp[ai.Eq]
 |ah k l=>simp[ai.Eq,WD]
 |_=>simp[ai.Eq]
theorem vw{d:D}(h:d.HB=true):iM ex m R d d:=by
 cases d<;>first|(cases h;done)|simp[iM,dd,ai.wS]
def D.mA(n:Nat):D->Bool|.all i=>Nat.blt i n|.c8=>true|.emp=>true|d=>d.HB
def Row.mA(n:Nat):Row->Bool|⟨false,_,_,_⟩=>true|⟨true,_,_,.gen [e]⟩=>e.all (D.mA n)|_=>false
theorem Zeg(h:i<n):ka (cW n) i i=true:=by
 simp[ka,List.getElem?_range h]
theorem Ztk{d:D}(h:d.mA n=true):iM (cW n) m R d d:=by
 cases d with
 |all i=>
  simp only[D.mA,Nat.blt_eq]at h
  simp[iM,dd,Zeg h]
 |c8=>simp[iM]
 |emp=>simp[iM]
 |_=>exact vw h
theorem Z6l{n m:Nat}{R:Rows}:∀{e:List D},e.all (D.mA n)=true->DH (cW n) m R e e
 |[],_=>trivial
 |d::e,h=>by
  simp only[gM,aE]at h
  exact⟨Ztk h.1,Z6l h.2⟩
theorem Qxd{m n:Nat}:∀{post pre:List Row},post.all (Row.mA n)=true->lQ (cW n) m ((pre++post).map some) (bO pre.length post.length) post
 |[],_,_=>trivial
 |⟨box,ty,sz,es⟩::post,pre,h=>by
  simp only[gM,aE]at h
  rw[List.length_cons,List.range'_succ]
  have hR:(((pre++⟨box,ty,sz,es⟩::post).map some:Rows)).getD pre.length none=some ⟨box,ty,sz,es⟩:=by
   simp[aV]
  simp only[lQ,hR,dd]
  refine⟨⟨by cases box<;>simp,?_⟩,?_⟩
  ·cases box with
   |false=>exact ai.wS es
   |true=>
    obtain⟨h,_⟩:=h
    cases es with
    |gen l=>
     match l,h with
     |[e],h=>exact Z6l h
    |_=>cases h
  ·have:=Qxd (m:=m) (n:=n) (post:=post) (pre:=pre++[⟨box,ty,sz,es⟩]) h.2
   simpa using this
theorem Zts{rows:List Row}(h:rows.all (Row.mA rows.length)=true):lQ (cW rows.length) m (rows.map some) (cW rows.length) rows:=by
 have:=Qxd (m:=m) (n:=rows.length) (post:=rows) (pre:=[]) h
 rwa [List.nil_append,List.length_nil,<-gG]at this
theorem Zef:∀l:List Nat,MM l l=true
 |[]=>rfl
 |x::l=>by simp[MM,Zef l]
theorem Zsx(M:Nat):ss M (cW M)=true:=by
 have h1:(cW M).take M=cW M:=List.take_of_length_le (by simp)
 have h2:(cW M).drop M=[]:=List.drop_of_length_le (by simp)
 simp[ss,h1,h2,Zef,CR]
theorem Zdl(hD:pB P)(hT:ji P T)(hf:P.funcs[f]?=some fn){args:List D}{rows:List Row}{off:Nat}(h:rows.all (Row.mA rows.length)=true)(h0:0<rows.length)
 (e1:∀Q0:D->GD.Rows->Prop,ko T [] (λ_ _ _=>False) fn args rows (λd R=>Q0 d R)=Q0 (.ptr 0 0 off) (rows.map some)):kr P f args rows (.ptr 0 0 off) rows:=by
 have hG:jB P []:=λx hx=>by cases hx
 have h2:ko T [] (λ_ _ _=>False) fn args rows (λd R=>d=.ptr 0 0 off/\R=rows.map some):=(e1 (λd R=>d=.ptr 0 0 off/\R=rows.map some)).symm▸⟨rfl,rfl⟩
 refine zw hD hT hG hf (rf:=none) (L:=λ_ _ _=>False) (λ_ _=>trivial) (λ_ _ _ _ h=>h.elim) (Q0:=λd R=>d=.ptr 0 0 off/\R=rows.map some) (λd R h=>?_) h2
 obtain⟨rfl,rfl⟩:=h
 refine⟨cW rows.length,Zsx _,?_,Zts ‹_›⟩
 simp[sr,o6,iM,dd,Zeg h0]

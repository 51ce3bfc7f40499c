import Derived.Test.YtaemmjbkndlkeaaGreatMigrateQuietFb
open List renaming range_eq_range'->gC,getD->aV,getElem?_eq_none->aJ,getElem?_append_left->bI,getElem?_eq_getElem->aI,mem_of_getElem?->fL,range->cW,mem_append->cB,mapM_cons->gG,mem_append_right->eX,mem_append_left->eS,getElem?_map->gH,range'->bO,all_eq_true->gI,all_cons->gJ
open Nat renaming le_refl->aX,beq->bX,ble->gD,lt_of_lt_of_le->bM
open Bool renaming not_eq_true'->bB,false_eq_true->aA
open Array renaming replicate->gE,toArray_toList->bW,getD_eq_getD_getElem?->aQ,getElem?_setIfInBounds_ne->aZ
set_option linter.all false
namespace Go.GD
open Go
variable {G:List ba}{K:St->Prop}{M N d i k l m n r:Nat}{P:Program}{R:Rows}{T:iB}{a:Act}{b:Bool}{code:Code}{ex:List Nat}{f:FuncId}{fn:Func}{o':Obj}{ro:Option Nat}{st:St}{tm:Array Value}{v:Value}{vs:List Value}{w w0:World}{x:Operand}
theorem fi.jT{c0:Ctx}{c:Ctx}(h:fi N M c0 w0 c w st a)(hb:cq st.env x=.bool b):fi N M c0 w0 c w (st.jT x b) a:=by
 cases x with
 |tmp t=>exact⟨h.mem,h.rows,λs=>by rw[So hb];exact h.env s,h.size,h.defers,h.fy,h.gr,h.reach⟩
 |_=>exact h
theorem fi.He{c0:Ctx}{c:Ctx}(h:fi N M c0 w0 c w st a)(hb:a.eval x=.bool b):fi N M c0 w0 c w (st.jT x b) a:=by
 cases x with
 |tmp t=>
  refine⟨h.mem,h.rows,λs=>?_,h.size,h.defers,h.fy,h.gr,h.reach⟩
  simp only[St.jT,AJ]
  split
  ·rename_i e;subst e;exact hb
  ·exact h.env s
 |_=>exact h
theorem qv(hT:ji P T)(hG:jz P G){id:Nat}{ops:Array Oper}{Q:Ex->St->Prop}(h:lR T G N M ops ops.toList st λst=>Q .normal st):tN ro P N M (.region id ops false) st Q:=by
 intro c0 w0 c w a hs
 refine Zkq ?_
 have:=xX (P:=P) (ops:=ops) hT hG (Q:=λe a' w'=>∃ex jq c',mL e=some ex/\Q ex jq/\fi N M c0 w0 c' w' jq a') (λst c w a hK hs=>⟨_,st,c,rfl,hK,hs⟩) ops.toList 0 st c w a (by simp) h hs
 rwa [<-gC,Array.length_toList]at this
theorem Z1k{c:Ctx}{w:World}{i n:Nat}{row:Row}(hn:c.R n=some row)(hb:row.box=false)(hV:c.V n):∀{e e':List D},Hf i n e=some e'->e'.length=e.length/\∀arr off,kH c w e arr off->kH c w e' arr off
 |[],e',h=>by simp[Hf]at h
 |d ::l,e',h=>by
  unfold Hf at h
  split at h
  ·cases h
   refine⟨rfl,λarr off hc=>?_⟩
   obtain⟨⟨v,hv,h1⟩,⟨u,hu,h2⟩,h3⟩:=hc
   exact⟨⟨v,hv,.inl h1⟩,⟨u,hu,row,hn,hb,.inl ⟨hV,none,h2,MX⟩⟩,h3⟩
  ·split at h
   ·rename_i l' pA
    cases h
    obtain⟨g1,g2⟩:=Z1k hn hb hV pA
    exact⟨by simp[g1],λarr off hc=>⟨hc.1,g2 arr _ hc.2⟩⟩
   ·cases h
theorem Z1i{n:Nat}:∀{R:Rows} {k i:Nat} {ty:TypeId} {sz:Nat} {e':List D},Jh n R k=some (i,ty,sz,e')->∃e j,i=k+j/\R[j]?=some (some ⟨true,ty,sz,.gen [e]⟩)/\Hf i n e=some e'
 |[],k,i,ty,sz,e',h=>by simp[Jh]at h
 |x ::l,k,i,ty,sz,e',h=>by
  have next:Jh n l (k+1)=some (i,ty,sz,e')->∃e j,i=k+j/\(x::l)[j]?=some (some ⟨true,ty,sz,.gen [e]⟩)/\Hf i n e=some e':=λh=>by
   obtain⟨e,j,h1,h2,h3⟩:=Z1i h
   exact⟨e,j+1,by omega,by simpa using h2,h3⟩
  unfold Jh at h
  split at h
  ·split at h
   ·rename_i e1 he
    cases h
    exact⟨_,0,rfl,rfl,he⟩
   ·exact next h
  ·exact next h
theorem xar{c0:Ctx}{c:Ctx}(h:Ji T code st K)(hs:fi N M c0 w0 c w st a): ∃jq c',K jq/\fi N M c0 w0 c' w jq a:=by
  unfold Ji at h
  split at h
  . exact⟨st,c,h,hs⟩
  . rename_i u hu
    split at h
    . exact⟨st,c,h,hs⟩
    . rename_i i ty sz e' hf
      simp only[D.fe,nf]at h
      obtain⟨e,j,h1,h2,h3⟩:=Z1i hf
      rw[Nat.zero_add]at h1
      subst h1
      have bd:=(List.getElem?_eq_some_iff.1 h2).1
      have hi:c.R i=some ⟨true,ty,sz, .gen [e]⟩:=by rw[hs.rows,aV,h2];rfl
      have hn:c.R st.rows.length=none:=by rw[hs.rows,aV,aJ (aX _)];rfl
      have gq:i≠st.rows.length:=by omega
      have HX:=Wa hs.mem hn (row:=⟨false,u,1, .ints .u8 []⟩) rfl rfl Nat.one_pos
      have Wb:=Sv (w:=w) hn ⟨false,u,1, .ints .u8 []⟩
      have Wc:(c.ju st.rows.length ⟨false,u,1, .ints .u8 []⟩).R i=some ⟨true,ty,sz, .gen [e]⟩:=by simp [Ctx.ju,gq,hi]
      obtain⟨q1,q2⟩:=Z1k (c:=c.ju st.rows.length ⟨false,u,1, .ints .u8 []⟩) (w:=w) (row:=⟨false,u,1, .ints .u8 []⟩) (by simp [Ctx.ju]) rfl (.inl rfl) h3
      obtain⟨Wd,BH⟩:=vb HX Wc q1 (λarr=>q2 arr 0)
      have hg:=Wb.trans Wd
      have nA:lJ c w ((c.ju st.rows.length ⟨false,u,1, .ints .u8 []⟩).jP i ⟨true,ty,sz, .gen [e']⟩) w:=by
        refine⟨BH,hg,Fr.refl _ w,λb hb=> .inl hb,λr ao hr hv=> .inl ?_⟩
        have We:r≠st.rows.length:=λe=>hv (.inl e)
        by_cases er:r=i
        . subst er;exact⟨⟨_,hi⟩,λe=>hv (.inr e),rfl⟩
        . exact⟨⟨ao,by simpa [Ctx.jP,Ctx.ju,er,We] using hr⟩,λe=>hv (.inr e),rfl⟩
      refine⟨_,_,h,BH,λr=> ?_,λt=>wX hg (hs.env t),hs.size,hs.defers,hs.fy,hs.gr,hs.reach.step (ks:=[]) (λk hk=>by simp [cw]at hk) hs.gr nA.toK⟩
      simp only[Ctx.jP,Ctx.ju]
      by_cases er:r=i
      . subst er
        simp [aV,bI (show r<(st.rows.set r _).length by simpa using bd),bd]
      . rw [if_neg er]
        by_cases en:r=st.rows.length
        . subst en
          simp [aV]
        . rw[if_neg en,hs.rows]
          by_cases hl:r<st.rows.length
          . simp [aV,bI (show r<(st.rows.set i _).length by simpa using hl),List.getElem?_set_ne (Ne.symm er)]
          . have h1:st.rows.getD r none=none:=by rw[aV,aJ (by omega)];rfl
            rw[h1,aV,aJ (by simp;omega)];rfl
def py(P:Program):Prop:=∀(ro:Option Nat) (T:iB) (G:List ba) (N M id:Nat) (ops:Array Oper) (st:St) (Q:Ex->St->Prop),ji P T->jz P G->uK T G N M ops st Q->tN ro P N M (.region id ops true) st Q
def wK(y:Array Tmp×Code×Code):Code->Prop
 |.seq a b=>wK y a/\wK y b
 |.cond _ a b=>wK y a/\wK y b
 |.block _ a=>wK y a
 |.loop a=>wK y a
 |.scope a=>wK y a
 |.rangeFunc _ ps x b=>(ps,x,b)=y
 |_=>True
def RF(o:Option Nat)(n:Nat)(c:Code):Prop:=match o with|none=>True|some f=>∃y,(Ay f=some y/\y.n<=n/\y.ts=Wg f/\YB<=f/\y.ps.size=1)/\wK (y.ps,y.assign,y.body) c
theorem qT{c:Code}{Q:Exit->Act->World->Prop}(h:c.wpIn (AM ro) 0 P (Exit.noGoto Q) a w):(Code.scope c).wpIn (AM ro) 0 P Q a w:=by
 intro b k cs Dx hb hr
 have s1:step P (lone (b.atR a (.code (.scope c)::k)) cs w)=.next (lone (b.atR a (.code c:: .inScope c::k)) cs w):=step_lone_go (by simp[stepG,stepG.exec,Frame.atR])
 have h0:(lone (b.atR a (.code (.scope c)::k)) cs w).fenced P (AM ro):=fenced_calm hb hr rfl
 obtain⟨e,CN,CO,hq,pn⟩:=h b (.inScope c::k) cs Dx hb hr
 cases e with
 |normal=>exact⟨.normal,CN,CO,hq,.head h0 s1 (StepsIn.trans pn (.one (fenced_calm hb hr rfl) (step_lone_go (by simp[stepG,stepG.exec,Frame.atR]))))⟩
 |exit id=>
  have hx:exitTo id (.inScope c::k)=exitTo id k:=by simp[exitTo]
  exact⟨.exit id,CN,CO,hq,λk' hk=>.head h0 s1 (pn.1 k' (by rw[hx];exact hk)),λpC hk=>let⟨k₁,h1,h2⟩:=pn.2 pC (by rw[hx];exact hk);⟨k₁,h1,.head h0 s1 h2⟩⟩
 |goto l=>exact hq.elim
 |ret=>exact⟨_,CN,CO,hq,.of_steps (.one h0 s1) pn⟩
 |panic ch=>exact⟨_,CN,CO,hq,.of_steps (.one h0 s1) pn⟩
 |outgrown=>exact⟨_,CN,CO,hq,.of_steps (.one h0 s1) pn⟩
theorem xv{c0:Ctx}{c:Ctx}{ops:List Oper}(h:uL ops st K)(hs:fi N M c0 w0 c w st a):∃jq,K jq/\fi N M c0 w0 c w jq a:=by
 unfold uL at h
 split at h
 ·exact⟨st,h,hs⟩
 ·rename_i x _
  split at h
  ·rename_i b hb
   cases b with
   |true=>exact⟨_,h,hs.jT hb⟩
   |false=>exact⟨_,h,hs.jT hb⟩
  ·exact⟨st,h,hs⟩
theorem M1(hD:py P)(hT:ji P T)(hG:jz P G){L:Code->St->(Ex->St->Prop)->Prop}{S:Code->Prop}(hS:(∀a b,S (.seq a b)->S a/\S b)/\(∀c a b,S (.cond c a b)->S a/\S b)/\(∀i a,S (.block i a)->S a)/\(∀a,S (.scope a)->S a))(hL:∀code st Q,S code->L code st Q->tN ro P N M code st Q):∀(code:Code) (st:St) (Q:Ex->St->Prop),S code->oW T G N M L code st Q->tN ro P N M code st Q:=by
 intro code
 induction code with
 |skip=>exactλst Q _ h c0 w0 c w a hs=>wpIn_skip ⟨_,st,c,rfl,h,hs⟩
 |label l=>exactλst Q _ h c0 w0 c w a hs=>wpIn_label ⟨_,st,c,rfl,h,hs⟩
 |region id ops draw=>
  intro st Q hc h c0 w0 c w a hs
  simp only[oW]at h
  obtain⟨st0,h,Bx⟩:=xv h hs
  obtain⟨R1,c1,h,lI⟩:=Qm h Bx
  obtain⟨jq,c',h,iV⟩:=qac h lI
  cases draw with
  |false=>exact qv hT hG h c0 w0 c' w a iV
  |true=>exact hD ro T G N M id ops jq Q hT hG h c0 w0 c' w a iV
 |seq x y ihx UD=>
  intro st Q hc h c0 w0 c w a hs
  simp only[oW]at h
  refine wpIn_seq (wpIn_mono (ihx st _ (hS.1 _ _ hc).1 h c0 w0 c w a hs) λe a' w' hq=>?_)
  obtain⟨ex,jq,c',he,hq,iV⟩:=hq
  cases e<;>simp only[mL,Option.some.injEq,reduceCtorEq]at he
  ·subst he
   obtain⟨st2,c2,hq,MH⟩:=xar hq iV
   exact UD st2 Q (hS.1 _ _ hc).2 hq c0 w0 c2 w' a' MH
  ·subst he;exact⟨_,jq,c',rfl,hq,iV⟩
  ·subst he;exact⟨_,jq,c',rfl,hq,iV⟩
 |cond x y z UD ihz=>
  intro st Q hc h c0 w0 c w a hs
  simp only[oW]at h
  split at h
  ·rename_i b hb
   have hv:=MS hs.env x
   rw[hb]at hv
   have hv:=Rep.bool.1 hv
   cases b with
   |true=>exact wpIn_cond_true hv (UD _ Q (hS.2.1 _ _ _ hc).1 h c0 w0 c w a (hs.jT hb))
   |false=>exact wpIn_cond_false hv (ihz _ Q (hS.2.1 _ _ _ hc).2 h c0 w0 c w a (hs.jT hb))
  ·rename_i es hb
   have hv:=MS hs.env x
   rw[hb]at hv
   obtain⟨b,hv,ib⟩:=hv
   cases b with
   |true=>exact wpIn_cond_true hv (UD _ Q (hS.2.1 _ _ _ hc).1 (h.1 (ai.oe.2 (ib rfl))) c0 w0 c w a (hs.He hv))
   |false=>exact wpIn_cond_false hv (ihz _ Q (hS.2.1 _ _ _ hc).2 h.2 c0 w0 c w a (hs.He hv))
  ·exact h.elim
 |block id x ih=>
  intro st Q hc h c0 w0 c w a hs
  simp only[oW]at h
  refine wpIn_block (wpIn_mono (ih st _ (hS.2.2.1 _ _ hc) h c0 w0 c w a hs) λe a' w' hq=>?_)
  obtain⟨ex,jq,c',he,hq,iV⟩:=hq
  cases e<;>simp only[mL,Option.some.injEq,reduceCtorEq]at he
  ·subst he;exact⟨_,jq,c',rfl,hq,iV⟩
  ·rename_i i
   subst he
   simp only[Exit.inBlock]
   simp only at hq
   cases hb:bX i id with
   |true=>
    simp only[hb]at hq
    rw[if_pos (bE hb)]
    exact⟨_,jq,c',rfl,hq,iV⟩
   |false=>
    simp only[hb]at hq
    rw[if_neg (λe=>by rw[e]at hb;simp at hb)]
    exact⟨_,jq,c',rfl,hq,iV⟩
  ·subst he;exact⟨_,jq,c',rfl,hq,iV⟩
 |exit id=>exactλst Q _ h c0 w0 c w a hs=>wpIn_exit ⟨_,st,c,rfl,h,hs⟩
 |ret=>exactλst Q _ h c0 w0 c w a hs=>wpIn_ret ⟨_,st,c,rfl,h,hs⟩
 |loop x ih=>exactλst Q hc h=>hL _ _ _ hc h
 |rangeFunc g ps x y _ _=>exactλst Q hc h=>hL _ _ _ hc h
 |scope x ih=>
  intro st Q hc h c0 w0 c w a hs
  simp only[oW]at h
  refine qT (wpIn_mono (ih st _ (hS.2.2.2 _ hc) h c0 w0 c w a hs) λe a' w' hq=>?_)
  obtain⟨ex,jq,c',he,hq,iV⟩:=hq
  cases e<;>simp only[mL,Option.some.injEq,reduceCtorEq]at he
  all_goals(subst he;exact⟨_,jq,c',rfl,hq,iV⟩)
 |goto l=>exactλst Q hc h=>hL _ _ _ hc h
 |refuse y=>exactλst Q hc h=>hL _ _ _ hc h
theorem M3(o:Option Nat)(n:Nat):(∀a b,RF o n (.seq a b)->RF o n a/\RF o n b)/\(∀c a b,RF o n (.cond c a b)->RF o n a/\RF o n b)/\(∀i a,RF o n (.block i a)->RF o n a)/\(∀a,RF o n (.scope a)->RF o n a):=by
 cases o with
 |none=>exact⟨λ_ _ _=>⟨trivial,trivial⟩,λ_ _ _ _=>⟨trivial,trivial⟩,λ_ _ _=>trivial,λ_ _=>trivial⟩
 |some f=>exact⟨λ_ _ ⟨y,h,h1,h2⟩=>⟨⟨y,h,h1⟩,⟨y,h,h2⟩⟩,λ_ _ _ ⟨y,h,h1,h2⟩=>⟨⟨y,h,h1⟩,⟨y,h,h2⟩⟩,λ_ _ ⟨y,h,h1⟩=>⟨y,h,h1⟩,λ_ ⟨y,h,h1⟩=>⟨y,h,h1⟩⟩
def oM:Code->Nat
 |.seq a b=>oM a+oM b
 |.cond _ a b=>oM a+oM b
 |.block _ a=>oM a
 |.loop a=>oM a
 |.scope a=>oM a
 |.rangeFunc _ _ _ _=>1
 |_=>0
theorem Zjj:∀{c:Code} (y:Array Tmp×Code×Code),oM c=0->wK y c:=by
 intro c
 induction c with
 |seq a b Fj Fl=>intro y h;simp only[oM]at h;exact⟨Fj y (by omega),Fl y (by omega)⟩
 |cond x a b Fj Fl=>intro y h;simp only[oM]at h;exact⟨Fj y (by omega),Fl y (by omega)⟩
 |block i a ih=>intro y h;exact ih y h
 |loop a ih=>intro y h;exact ih y h
 |scope a ih=>intro y h;exact ih y h
 |rangeFunc g ps x b _ _=>intro y h;simp[oM]at h
 |_=>intro y h;trivial
theorem xT:∀{c:Code} {y:Array Tmp×Code×Code},oM c<=1->sQ c=some y->wK y c/\1<=oM c:=by
 intro c
 have two:∀{a b:Code} {y:Array Tmp×Code×Code},(∀{y},oM a<=1->sQ a=some y->wK y a/\1<=oM a)->(∀{y},oM b<=1->sQ b=some y->wK y b/\1<=oM b)->oM a+oM b<=1->(match sQ a with|some x=>some x|none=>sQ b)=some y->(wK y a/\wK y b)/\1<=oM a+oM b:=by
  intro a b y Fj Fl h hy
  cases ha:sQ a with
  |some x=>
   rw[ha]at hy
   cases hy
   obtain⟨h1,h2⟩:=Fj (by omega) ha
   exact⟨⟨h1,Zjj _ (by omega)⟩,by omega⟩
  |none=>
   rw[ha]at hy
   obtain⟨h1,h2⟩:=Fl (by omega) hy
   exact⟨⟨Zjj _ (by omega),h1⟩,by omega⟩
 induction c with
 |seq a b Fj Fl=>intro y h hy;exact two Fj Fl h hy
 |cond x a b Fj Fl=>intro y h hy;exact two Fj Fl h hy
 |block i a ih=>intro y h hy;exact ih h hy
 |loop a ih=>intro y h hy;exact ih h hy
 |scope a ih=>intro y h hy;exact ih h hy
 |rangeFunc g ps x b _ _=>intro y h hy;simp only[sQ,Option.some.injEq]at hy;exact⟨hy,aX _⟩
 |_=>intro y h hy;simp[sQ]at hy
def rfB(f:Nat)(fn:Func):Bool:=match fn.body with
 |some c=>gD (oM c) 1&&(gD YB f&&(match sQ c with|some y=>bX y.1.size 1|none=>false))
 |none=>false
theorem Hg{f:Nat}(h:rfB f fn=true)(hy:Ay f=Fm (Wg f) fn):∀code,fn.body=some code->RF (some f) fn.ntmps code:=by
 intro code hb
 unfold rfB at h
 unfold Fm at hy
 simp only[hb,aE]at h hy
 obtain⟨h1,h2,h3⟩:=h
 split at h3
 ·rename_i y hf
  rw[hf]at hy
  exact⟨_,⟨hy,aX _,rfl,lE h2,bE h3⟩,(xT (lE h1) hf).1⟩
 ·cases h3
def Ctx.out(c:Ctx)(ex:List Nat)(rows:List Row):Ctx:=
 { ρ:=λi=>match ex[i]? with|some r=>c.ρ r|none=>c.ρ i,R:=λi=>rows[i]?,V:=λi=>match ex[i]? with|some r=>c.R r=none\/c.V r|none=>True,
   I:=λb=>c.I b\/ ∃r row,c.R r=some row/\ ¬c.V r/\row.box=false/\Ke ex r=true/\c.ρ r=b,base:=c.base,top:=c.top,X:=c.X}
theorem UE(h:j5 ex i r=true):ex[i]?=some r:=by
 unfold j5 at h
 split at h
 ·rename_i x hx;rw[hx,bE h]
 ·cases h
theorem Zrh(h:Ic ex R i=true):∃r,ex[i]?=some r/\R.getD r none=none:=by
 unfold Ic at h
 split at h
 ·rename_i r hr
  refine⟨r,hr,?_⟩
  split at h
  ·assumption
  ·cases h
 ·cases h
theorem Zau(h:Ke ex r=true):r∉ex:=by
 intro hm
 have:=List.all_eq_true.1 h r hm
 simp at this
theorem P2{ex:List Nat}{m:Nat}{R:Rows}:∀{rs:List Nat} {ps:List Row},lM ex m R rs ps->rs.length=ps.length/\∀(i r:Nat) (p:Row),rs[i]?=some r->ps[i]?=some p->
 (∃row,R.getD r none=some row/\row.box=p.box/\row.ty=p.ty/\row.sz=p.sz/\(if p.box then∃e e',row.es=.gen [e]/\p.es=.gen [e']/\Dy ex m R e e' else row.es.l=p.es.l))\/(R.getD r none=none/\p.box=false/\p.es.l=[]/\0<p.sz)
 |[],[],_=>⟨rfl,λi r p h=>by simp at h⟩
 |[],_::_,h=>h.elim
 |_::_,[],h=>h.elim
 |r ::rs,⟨box,ty,sz,es⟩::ps,h=>by
  simp only[lM]at h
  obtain⟨h1,h2⟩:=h
  obtain⟨g1,g2⟩:=P2 h2
  refine⟨by simp[g1],λi q p hq hp=>?_⟩
  cases i with
  |succ i=>exact g2 i q p (by simpa using hq) (by simpa using hp)
  |zero=>
   simp at hq hp
   subst hq;subst hp
   split at h1
   ·rename_i Ac jS j4 iX hR
    simp only[dd,aE]at h1
    obtain⟨⟨⟨e1,e2⟩,e3⟩,h1⟩:=h1
    refine .inl ⟨_,hR,by cases box<;>cases Ac<;>simp_all,(bE e2).symm,(bE e3).symm,?_⟩
    cases box with
    |false=>simpa using ai.w9 h1
    |true=>
     simp only[if_true]
     simp only at h1
     split at h1
     ·exact⟨_,_,rfl,rfl,h1⟩
     ·exact h1.elim
   ·rename_i hR
    simp only[dd,aE,bB]at h1
    exact .inr ⟨hR,h1.1.1,ai.oe.1 h1.2,lE h1.1.2⟩
theorem Sw{c:Ctx}{rows:List Row}(hR:∀r,c.R r=R.getD r none)(db:lM ex m R ex rows){i r o f:Nat}(hx:j5 ex i r=true)(hr:dc c w (.ptr r o f) v):dc (c.out ex rows) w (.ptr i o f) v:=by
 obtain⟨row,g1,gV,g2,hv⟩:=hr
 have hi:=UE hx
 obtain⟨hl,iA⟩:=P2 db
 have bd:=(List.getElem?_eq_some_iff.1 hi).1
 have hp:rows[i]?=some rows[i]:=aI (by omega)
 rcases iA i r _ hi hp with⟨ao,k1,k2,k3,k4,k5⟩|⟨k1,_⟩
 ·have:ao=row:=by rw[hR,k1]at g1;exact Option.some.inj g1
  subst this
  refine⟨_,hp,by simp[Ctx.out,hi,g1,gV],?_,by simp only[Ctx.out,hi];rw[hv,k4]⟩
  split at k5
  ·obtain⟨e,e',q1,q2,_⟩:=k5
   rw[q1]at g2;rw[q2];exact g2
  ·rw[<-k5];exact g2
 ·rw[hR,k1]at g1;cases g1
theorem Zq8{c:Ctx}{w:World}{ex:List Nat}{m:Nat}{R:Rows}{rows:List Row}(hR:∀r,c.R r=R.getD r none)(db:lM ex m R ex rows):∀{ps qs:List (Nat×Nat×Nat)} {us:List Value},sk ex ps qs=true->Mb c qs us->Mb (c.out ex rows) ps us
 |[],[],_,_,h=>by rename_i us _;cases us<;>exact h
 |(i,b,d)::l,(r,y,z)::q,u::us,h,hr=>by
  simp only[sk,aE]at h
  obtain⟨h1,h2,h3,h4⟩:=h
  have e2:=bE h2;have e3:=bE h3
  subst e2;subst e3
  exact⟨Sw (w:=w) hR db h1 hr.1,Zq8 (w:=w) hR db h4 hr.2⟩
 |(_,_,_)::_,(_,_,_)::_,[],_,h=>h.elim
 |[],_::_,_,h,_=>by simp[sk]at h
 |_::_,[],_,h,_=>by simp[sk]at h
theorem zT{c:Ctx}{rows:List Row}(hR:∀r,c.R r=R.getD r none)(db:lM ex m R ex rows):∀{cs ds:List iD} {us:List Value},oX ex cs ds=true->oE c w ds us->oE (c.out ex rows) w cs us:=by
 intro cs
 induction cs with
 |nil=>intro ds us h hr;cases ds<;>cases us<;>first|exact hr|(simp[oX]at h;done)
 |cons x cs ih=>
  intro ds us h hr
  cases ds with
  |nil=>cases x<;>simp[oX]at h
  |cons y ds=>
   cases us with
   |nil=>exact hr.elim
   |cons u us=>
    cases x<;>cases y<;>simp only[oX,aE,aA]at h
    ·obtain⟨h1,h2,h3,h4⟩:=h
     have e2:=bE h2;have e3:=bE h3
     subst e2;subst e3
     exact⟨Sw (w:=w) hR db h1 hr.1,ih h4 hr.2⟩
    ·obtain⟨h1,h2,h3⟩:=h
     have e1:=bE h1
     subst e1
     obtain⟨⟨ws,hv,hw⟩,Ua⟩:=hr
     exact⟨⟨ws,L1 (c:=c) (c':=c.out ex rows) (w':=w) (λb hb=>⟨Or.inl hb,rfl⟩) hv,Zq8 (w:=w) hR db h2 hw⟩,ih h3 Ua⟩
section
variable {c:Ctx} {w:World} {ex:List Nat} {m:Nat} {R:Rows} {rows:List Row}
theorem Zz(hm:Mem c w)(hR:∀r,c.R r=R.getD r none)(db:lM ex m R ex rows)(fc:∀r row,c.R r=some row->¬c.V r->m<=r->c.base<=c.ρ r){d p:D}(h:iM ex m R d p)(hr:dc c w d v):dc (c.out ex rows) w p v:=by
 have nB:∀b,c.I b->(c.out ex rows).I b/\w.heap[b]?=w.heap[b]? :=λb hb=>⟨.inl hb,rfl⟩
 obtain⟨hl,iA⟩:=P2 db
 have rowOf:∀i r row,ex[i]?=some r->c.R r=some row->∃p,rows[i]?=some p/\row.box=p.box/\row.ty=p.ty/\row.sz=p.sz/\row.es.l.length=p.es.l.length/\(c.out ex rows).ρ i=c.ρ r/\((c.out ex rows).V i↔c.V r):=by
  intro i r row hi c6
  have bd:=(List.getElem?_eq_some_iff.1 hi).1
  have hp:rows[i]?=some rows[i]:=aI (by omega)
  rcases iA i r _ hi hp with⟨ao,g1,g2,g3,g4,g5⟩|⟨g1,_⟩
  ·have:ao=row:=by rw[hR,g1]at c6;exact Option.some.inj c6
   subst this
   refine⟨_,hp,g2,g3,g4,?_,by simp[Ctx.out,hi],by simp[Ctx.out,hi,c6]⟩
   split at g5
   ·obtain⟨e,e',k1,k2,_⟩:=g5
    rw[k1,k2];rfl
   ·rw[g5]
  ·rw[hR,g1]at c6;cases c6
 have M5:∀i a,Ic ex R i=true->v=.slice a 0 0->Cu c.top a->dc (c.out ex rows) w (.all i) v:=by
  intro i a hv DK dx
  obtain⟨r,hi,hrn⟩:=Zrh hv
  have bd:=(List.getElem?_eq_some_iff.1 hi).1
  have hp:rows[i]?=some rows[i]:=aI (by omega)
  rcases iA i r _ hi hp with⟨ao,g1,_⟩|⟨g1,g2,g3,g4⟩
  ·rw[hrn]at g1;cases g1
  ·exact⟨_,hp,g2,.inl ⟨by simp only[Ctx.out,hi];exact .inl (by rw[hR];exact g1),a,DK,dx⟩⟩
 cases p<;>simp only[iM]at h
 case int k n=>
  split at h
  ·simp only[dd,decide_eq_true_eq]at h;obtain⟨rfl,rfl⟩:=h;exact hr
  ·exact h.elim
 case bool b=>
  split at h
  ·subst h;exact hr
  ·exact h.elim
 case str s=>
  split at h
  ·subst h;exact hr
  ·exact h.elim
 case iI=>
  split at h
  ·exact hr
  ·exact h.elim
 case c9=>
  split at h
  ·exact hr
  ·exact h.elim
 case emp=>
  split at h
  ·exact⟨none,hr,MX⟩
  ·exact hr
  ·exact h.elim
 case jI=>
  split at h
  ·exact hr
  ·exact h.elim
 case gl f cs=>
  split at h
  ·simp only[dd,aE]at h
   obtain⟨⟨h1,h2⟩,_⟩:=h
   have e1:=bE h1
   subst e1
   obtain⟨us,hv,hu⟩:=hr
   exact⟨us,L1 (c:=c) (c':=c.out ex rows) (w':=w) (λb hb=>⟨Or.inl hb,rfl⟩) hv,zT hR db h2 hu⟩
  ·exact h.elim
 case ptr i o f=>
  split at h
  ·simp only[dd,aE]at h
   obtain⟨⟨h1,h2,h3⟩,_⟩:=h
   have e2:=bE h2;have e3:=bE h3
   subst e2;subst e3
   exact Sw (w:=w) hR db h1 hr
  ·exact h.elim
 case gh i=>
  have go:∀r,j5 ex i r=true->dc c w (.gh r) v->dc (c.out ex rows) w (.gh i) v:=by
   intro r hx hr
   rcases hr with hr|⟨row,g1,gV,g2,hv⟩
   ·exact .inl hr
   ·have hi:=UE hx
    obtain⟨p,hp,q1,q2,q3,q4,q5,q6⟩:=rowOf i r row hi g1
    exact .inr ⟨p,hp,λe=>gV (q6.1 e),by rw[<-q4];exact g2,by rw[hv,q5,q3]⟩
  split at h
  ·exact .inl hr
  ·simp only[dd]at h;exact go _ h.1 hr
  ·simp only[dd,aE]at h
   obtain⟨⟨h1,h2,h3⟩,_⟩:=h
   have e2:=bE h2;have e3:=bE h3
   subst e2;subst e3
   exact go _ h1 (.inr hr)
  ·exact h.elim
 case dead=>exact dc.one hr
 case sl sz es fr=>
  split at h
  ·have h:=ai.oe.1 h;exact⟨none,0,by rw[h];exact hr,by rw[h];exact aX _,.inl h⟩
  ·have h:=ai.oe.1 h;obtain⟨a,hr,_⟩:=hr;exact⟨a,0,by rw[h];exact hr,by rw[h];exact aX _,.inl h⟩
  ·rename_i j4 iX fr'
   simp only[dd,Bool.or_eq_true,bB]at h
   obtain⟨hf,hs,he⟩:=h
   have he:=ai.w9 he
   obtain⟨a,cap,hv,hc,ib⟩:=hr
   rw[he]at hv hc ib
   refine⟨a,cap,hv,hc,?_⟩
   rcases ib with ib|⟨b,off,arr,ty,fz,ha,hI,TP,hh,hE⟩
   ·exact .inl ib
   ·rcases hs with hs|rfl
    ·exact .inl (by rw[<-he];exact ai.oe.1 hs)
    ·exact .inr ⟨b,off,arr,ty,fz,ha,.inl hI,λe=>TP (by rcases hf with hf|hf<;>simp_all),hh,nq nB _ _ _ _ hE⟩
  ·rename_i r
   split at h
   ·rename_i box ty j4 iX ZA
    simp only[dd,aE,bB]at h
    obtain⟨⟨⟨⟨hb,hs⟩,ho⟩,Jj⟩,Az⟩:=h
    have Az:=ai.w9 Az
    have hs:=bE hs
    have Jj:=lE Jj
    obtain⟨row,g1,g2,hv⟩:=hr
    have:row=⟨box,ty,j4,iX⟩:=by rw[hR,ZA]at g1;exact(Option.some.inj g1).symm
    subst this
    subst hs
    rcases hv with⟨hV,a,hv,_⟩|⟨hV,cap,arr,hv,g3,g4,g5,g6⟩
    ·have he:=(hm.nm g1 hV).2.1
     simp only at he
     rw[he]at Az
     exact⟨a,0,by rw[<-Az];exact hv,by rw[<-Az];exact aX _,.inl Az.symm⟩
    obtain⟨iK,jB,iV,hx⟩:=hm.real g1 hV
    rw[g5]at jB;cases jB
    simp only[hb,aA,if_false]at hx
    simp only at hv g3 hx
    rw[Az]at hv g3 hx
    exact⟨_,cap,hv,g3,.inr ⟨_,0,arr,_,_,rfl,.inr ⟨r,_,g1,hV,hb,ho,rfl⟩,λ_=>fc r _ g1 hV Jj,g5,nq nB _ _ _ _ hx⟩⟩
   ·exact h.elim
  ·rename_i r o n
   split at h
   ·rename_i box ty j4 iX ZA
    simp only[dd,aE,bB]at h
    obtain⟨⟨⟨⟨hb,hs⟩,ho⟩,Jj⟩,Az⟩:=h
    have Az:=ai.w9 Az
    rw[ai.iZ,ai.kd]at Az
    have hs:=bE hs
    have Jj:=lE Jj
    obtain⟨row,g1,g2,g5,hv⟩:=hr
    have:row=⟨box,ty,j4,iX⟩:=by rw[hR,ZA]at g1;exact(Option.some.inj g1).symm
    subst this
    subst hs
    simp only at g5
    have pA:((iX.l.drop o).take n).length=n:=by simp only[List.length_take,List.length_drop];omega
    rw[Az]at pA
    rcases hv with⟨h0,a,hv,_⟩|⟨hV,cap,arr,g3,g4,g6,hv,g7⟩
    ·subst h0
     have h0:=List.eq_nil_of_length_eq_zero pA
     exact⟨a,0,by rw[pA];exact hv,by omega,.inl h0⟩
    obtain⟨iK,jB,iV,hx⟩:=hm.real g1 hV
    rw[g6]at jB;cases jB
    simp only[hb,aA,if_false]at hx
    have hE:=LR (n:=n) (J0 (l:=o) hx)
    rw[Az]at hE
    exact⟨_,cap,by rw[pA];exact hv,by omega,.inr ⟨_,o*j4,arr,_,_,rfl,.inr ⟨r,_,g1,hV,hb,ho,rfl⟩,λ_=>fc r _ g1 hV Jj,g6,nq nB _ _ _ _ (by simpa using hE)⟩⟩
   ·exact h.elim
  ·exact h.elim
 case all i=>
  split at h
  ·rename_i r
   simp only[dd]at h
   obtain⟨row,g1,g2,hv⟩:=hr
   obtain⟨p,k1,k2,k3,k4,k5,k6,k7⟩:=rowOf i r row (UE h.1) g1
   refine⟨p,k1,by rw[<-k2];exact g2,?_⟩
   rcases hv with⟨hV,hv⟩|⟨hV,cap,arr,hv,g3,g4,g5,g6⟩
   ·exact .inl ⟨k7.2 hV,hv⟩
   ·exact .inr ⟨λe=>hV (k7.1 e),cap,arr,by rw[hv,k5,k6],by rw[<-k5];exact g3,g4,by rw[k6,<-k3];exact g5,by rw[<-k4];exact g6⟩
  ·simp only[dd]at h
   exact M5 i none h.1 hr MX
  ·simp only[dd]at h
   obtain⟨a,hr,ho⟩:=hr
   exact M5 i a h.1 hr ho
  ·exact h.elim
 case own i o n=>
  split at h
  ·rename_i r o' n'
   simp only[dd]at h
   obtain⟨hx,rfl,rfl⟩:=h
   obtain⟨row,g1,g2,g5,hv⟩:=hr
   obtain⟨p,k1,k2,k3,k4,k5,k6,k7⟩:=rowOf i r row (UE hx) g1
   refine⟨p,k1,by rw[<-k2];exact g2,by rw[<-k5];exact g5,?_⟩
   rcases hv with⟨h0,a,hv,jo⟩|⟨hV,cap,arr,g3,g4,g6,hv,g7⟩
   ·exact .inl ⟨h0,a,hv,jo.mono (aX _) k7 k6⟩
   ·exact .inr ⟨λe=>hV (k7.1 e),cap,arr,g3,g4,by rw[k6,<-k3];exact g6,by rw[k6,<-k4];exact hv,by rw[<-k4];exact g7⟩
  ·exact h.elim
theorem Zhz(hm:Mem c w)(hR:∀r,c.R r=R.getD r none)(db:lM ex m R ex rows)(fc:∀r row,c.R r=some row->¬c.V r->m<=r->c.base<=c.ρ r):∀{ds ps:List D} {vs:List Value},Dy ex m R ds ps->jm c w ds vs->jm (c.out ex rows) w ps vs
 |[],[],[],_,_=>trivial
 |[],[],_::_,_,h=>h.elim
 |[],_::_,_,h,_=>h.elim
 |_::_,[],_,h,_=>h.elim
 |_::_,_::_,[],_,h=>h.elim
 |d::ds,p::ps,v::vs,h,hr=>⟨Zz hm hR db fc h.1 hr.1,Zhz hm hR db fc h.2 hr.2⟩
theorem Zp9(hm:Mem c w)(hR:∀r,c.R r=R.getD r none)(db:lM ex m R ex rows)(fc:∀r row,c.R r=some row->¬c.V r->m<=r->c.base<=c.ρ r){d p:D}(h:oZ ex m R d p)(hr:VRep c w d v):VRep (c.out ex rows) w p v:=by
 cases p with
 |agg ps=>
  simp only[oZ]at h
  cases d<;>simp only at h
  obtain⟨vs,hv,hx⟩:=hr
  exact⟨vs,hv,Zhz hm hR db fc h hx⟩
 |_=>
  simp only[oZ]at h
  refine VRep.Ee (Zz hm hR db fc h (VRep.toC ?_ hr))
  intro cs e
  subst e
  simp[iM,cu,D.Hh]at h
theorem Zhy(hm:Mem c w)(hR:∀r,c.R r=R.getD r none)(db:lM ex m R ex rows)(fc:∀r row,c.R r=some row->¬c.V r->m<=r->c.base<=c.ρ r):∀{ds ps:List D} {vs:List Value},we ex m R ds ps->j9 c w ds vs->j9 (c.out ex rows) w ps vs
 |[],[],[],_,_=>trivial
 |[],[],_::_,_,h=>h.elim
 |[],_::_,_,h,_=>h.elim
 |_::_,[],_,h,_=>h.elim
 |_::_,_::_,[],_,h=>h.elim
 |d::ds,p::ps,v::vs,h,hr=>⟨Zp9 hm hR db fc h.1 hr.1,Zhy hm hR db fc h.2 hr.2⟩
theorem Sx(hm:Mem c w)(hR:∀r,c.R r=R.getD r none)(db:lM ex m R ex rows)(fc:∀r row,c.R r=some row->¬c.V r->m<=r->c.base<=c.ρ r){d p:D}(h:si ex m R d p)(hr:Rep c w d v):Rep (c.out ex rows) w p v:=by
 cases p with
 |dw ps=>
  simp only[si]at h
  cases d<;>simp only at h
  obtain⟨vs,hv,hx⟩:=hr
  exact⟨vs,hv,Zhy hm hR db fc h hx⟩
 |dead=>trivial
 |_=>
  simp only[si]at h
  refine Rep.J5 (Zp9 hm hR db fc h (Rep.toV ?_ ?_ hr))
  ·intro ds e;subst e;simp[oZ,iM]at h
  ·intro e;subst e;simp[oZ,iM]at h
theorem Z72(hm:Mem c w)(hR:∀r,c.R r=R.getD r none)(db:lM ex m R ex rows)(fc:∀r row,c.R r=some row->¬c.V r->m<=r->c.base<=c.ρ r):∀{ds ps:List D} {arr:Array Value} {off:Nat},Dy ex m R ds ps->kH c w ds arr off->kH (c.out ex rows) w ps arr off
 |[],[],_,_,_,_=>trivial
 |[],_::_,_,_,h,_=>h.elim
 |_::_,[],_,_,h,_=>h.elim
 |d::ds,p::ps,arr,off,h,hr=>⟨by obtain⟨⟨v,hv,hx⟩,_⟩:=hr;exact⟨v,hv,Zz hm hR db fc h.1 hx⟩,Z72 hm hR db fc h.2 hr.2⟩
theorem Z15:∀{ds ps:List D},Dy ex m R ds ps->ds.length=ps.length
 |[],[],_=>rfl
 |[],_::_,h=>h.elim
 |_::_,[],h=>h.elim
 |_::_,_::_,h=>by simp[Z15 h.2]
theorem qas(hm:Mem c w)(hR:∀r,c.R r=R.getD r none)(db:lM ex m R ex rows)(fc:∀r row,c.R r=some row->¬c.V r->m<=r->c.base<=c.ρ r)(kQ:ex.Nodup):Mem (c.out ex rows) w:=by
 have nB:∀b,c.I b->(c.out ex rows).I b/\w.heap[b]?=w.heap[b]? :=λb hb=>⟨.inl hb,rfl⟩
 obtain⟨hl,iA⟩:=P2 db
 have inv:∀i p,(c.out ex rows).R i=some p->∃r,ex[i]?=some r/\(c.out ex rows).ρ i=c.ρ r/\((∃row,c.R r=some row/\row.box=p.box/\row.ty=p.ty/\row.sz=p.sz/\((c.out ex rows).V i↔c.V r)/\(if p.box then∃e e',row.es=.gen [e]/\p.es=.gen [e']/\Dy ex m R e e' else row.es.l=p.es.l))\/((c.out ex rows).V i/\p.box=false/\p.es.l=[]/\0<p.sz)):=by
  intro i p hp
  have P3:rows[i]?=some p:=hp
  have bd:=(List.getElem?_eq_some_iff.1 P3).1
  have hi:ex[i]?=some ex[i]:=aI (by omega)
  refine⟨_,hi,by simp[Ctx.out,hi],?_⟩
  rcases iA i _ p hi P3 with⟨row,g1,g2,g3,g4,g5⟩|⟨g1,g2⟩
  ·have c6:c.R ex[i]=some row:=by rw[hR];exact g1
   exact .inl ⟨row,c6,g2,g3,g4,by simp[Ctx.out,hi,c6],g5⟩
  ·exact .inr ⟨by simp only[Ctx.out,hi];exact .inl (by rw[hR];exact g1),g2⟩
 refine⟨λi p hp=>?_,λi j p q hp hq v1 v2 he=>?_,λb hb=>?_,hm.top,hm.jV.mono nB⟩
 ·obtain⟨r,g1,g6,⟨row,g2,g3,g4,g5,gV,g7⟩|⟨gV,g2⟩⟩:=inv i p hp
  ·rcases hm.row r row g2 with⟨h0,h1,h2,h3⟩|⟨h0,arr,ha,hs,hx⟩
   ·refine .inl ⟨gV.2 h0,by rw[<-g3];exact h1,?_,by rw[<-g5];exact h3⟩
    rw[if_neg (by rw[<-g3,h1];simp)]at g7
    rw[<-g7];exact h2
   refine .inr ⟨λe=>h0 (gV.1 e),arr,by rw[g6,<-g4];exact ha,by rw[<-g5];exact hs,?_⟩
   split
   ·rename_i hb
    rw[if_pos hb]at g7
    rw[if_pos (g3.trans hb)]at hx
    obtain⟨e,e',k1,k2,k3⟩:=g7
    obtain⟨e0,q1,q2,q3,q4⟩:=hx
    rw[k1]at q1;cases q1
    exact⟨e',k2,by rw[<-Z15 k3,<-g5];exact q2,by rw[<-g5];exact q3,Z72 hm hR db fc k3 q4⟩
   ·rename_i hb
    rw[if_neg hb]at g7
    rw[if_neg (by rw[g3];exact hb)]at hx
    rw[<-g7,<-g5]
    exact nq nB _ _ _ _ hx
  ·exact .inl ⟨gV,g2⟩
 ·obtain⟨r,g1,g6,⟨row,g2,_,_,_,gV,_⟩|⟨gV,_⟩⟩:=inv i p hp
  ·obtain⟨s,k1,k6,⟨ao,k2,_,_,_,kV,_⟩|⟨kV,_⟩⟩:=inv j q hq
   ·rw[g6,k6]at he
    have:r=s:=hm.inj r s _ _ g2 k2 (λe=>v1 (gV.2 e)) (λe=>v2 (kV.2 e)) he
    subst this
    exact(List.getElem?_inj (List.getElem?_eq_some_iff.1 g1).1 kQ).1 (g1.trans k1.symm)
   ·exact(v2 kV).elim
  ·exact(v1 gV).elim
 ·rcases hb with hb|⟨r,row,hr,hV,wA,ho,rfl⟩
  ·refine⟨(hm.fh b hb).1,λi p hp v=>?_⟩
   obtain⟨r,g1,g6,⟨row,g2,_,_,_,gV,_⟩|⟨gV,_⟩⟩:=inv i p hp
   ·rw[g6]
    exact(hm.fh b hb).2 r row g2 (λe=>v (gV.2 e))
   ·exact(v gV).elim
  ·refine⟨hm.lt hr hV,λi p hp v=>?_⟩
   obtain⟨s,g1,g6,⟨ao,g2,_,_,_,gV,_⟩|⟨gV,_⟩⟩:=inv i p hp
   ·rw[g6]
    intro e
    have:=hm.inj s r _ _ g2 hr (λe=>v (gV.2 e)) hV e
    subst this
    exact Zau ho (fL g1)
   ·exact(v gV).elim
end
theorem Zqj:∀{l m:List Nat},Mc l m=true->l=m
 |[],[],_=>rfl
 |x::l,y::m,h=>by
  simp only[Mc,aE]at h
  rw[bE h.1,Zqj h.2]
 |[],_::_,h=>by cases h
 |_::_,[],h=>by cases h
theorem zas(h:sj M ex=true):ex.Nodup/\(∀i,i<M->ex[i]?=some i)/\∀i r,ex[i]?=some r->(i=r/\i<M)\/M<=r:=by
 unfold sj at h
 simp only[aE]at h
 obtain⟨⟨h1,h2⟩,h3⟩:=h
 replace h1:=Zqj h1
 replace h2:∀r∈ex.drop M,M<=r:=λr hr=>lE (List.all_eq_true.1 h2 r hr)
 replace h3:=LX.1 h3
 have he:ex=cW M++ex.drop M:=by rw[<-h1,List.take_append_drop]
 generalize hq:ex.drop M=q at he h2 h3
 subst he
 refine⟨?_,λi hi=>by rw[bI (by simpa using hi)];simp[hi],λi r hr=>?_⟩
 ·rw[List.nodup_append]
  exact⟨List.nodup_range,h3,λx hx y hy=>by simp at hx;have:=h2 y hy;omega⟩
 ·by_cases bd:i<M
  ·rw[bI (by simpa using bd)]at hr
   simp[bd]at hr
   exact .inl ⟨hr,bd⟩
  ·rw[List.getElem?_append_right (by simpa using bd)]at hr
   exact .inr (h2 r (fL hr))
theorem Sy{c0:Ctx}{c:Ctx}(hs:fi N M c0 w0 c w st a){aj:List Row}(hex:sj M ex=true)(db:lM ex M st.rows ex aj):
 (∀r row,c.R r=some row->¬c.V r->M<=r->c.base<=c.ρ r)/\Mem (c.out ex aj) w/\wW c0 w0 (c.out ex aj) w:=by
 obtain⟨kQ,hid,hinv⟩:=zas hex
 obtain⟨hl,iA⟩:=P2 db
 have Ba:c.base=c0.base:=hs.reach.cz.base
 have CP:∀r row,c.R r=some row->¬c.V r->M<=r->c0.X (c.ρ r)\/w0.heap.size<=c.ρ r:=λr row h1 v h2=>by
  rcases hs.reach.ob r row h1 v with⟨⟨x,hx⟩,_⟩|h3
  ·have:=hs.gr r x hx;omega
  ·exact h3
 have fc:∀r row,c.R r=some row->¬c.V r->M<=r->c.base<=c.ρ r:=λr row h1 v h2=>by
  have:=hs.fy
  rcases CP r row h1 v h2 with h|h
  ·have:=hs.reach.xb _ h;omega
  ·omega
 refine⟨fc,qas hs.mem hs.rows db fc kQ,⟨hs.reach.cz.base,hs.reach.cz.top,λb ig=>?_,λr row hr=>?_⟩,hs.reach.fr,λb ig=>?_,λi p hp v=>?_,hs.reach.xb⟩
 ·obtain⟨h1,h2⟩:=hs.reach.cz.I b ig
  exact⟨.inl h1,h2⟩
 ·have bd:r<M:=hs.gr r row hr
  obtain⟨P4,g1,g2,g3,g4,g5,g6,gV,g7⟩:=hs.reach.cz.R r row hr
  have hi:=hid r bd
  have mJ:=(List.getElem?_eq_some_iff.1 hi).1
  have hp:aj[r]?=some aj[r]:=aI (by omega)
  rcases iA r r _ hi hp with⟨jy,k1,k2,k3,k4,k5⟩|⟨k1,_⟩
  ·have:jy=P4:=by rw[hs.rows,k1]at g1;exact Option.some.inj g1
   subst this
   refine⟨_,hp,k2.symm.trans g2,k3.symm.trans g3,k4.symm.trans g4,?_,by simp[Ctx.out,hi,g6],by simp[Ctx.out,hi,g1,gV],g7⟩
   rw[<-g5]
   split at k5
   ·obtain⟨e,e',q1,q2,_⟩:=k5
    rw[q1,q2];rfl
   ·rw[k5]
  ·rw[hs.rows,k1]at g1;cases g1
 ·rcases ig with h1|⟨r,row,hr,hV,wA,ho,rfl⟩
  ·exact hs.reach.fh b h1
  ·refine .inr ?_
   have:M<=r:=by
    by_cases bd:r<M
    ·exact(Zau ho (fL (hid r bd))).elim
    ·omega
   exact CP r row hr hV this
 ·have P3:aj[i]?=some p:=hp
  have bd:=(List.getElem?_eq_some_iff.1 P3).1
  have hi:ex[i]?=some ex[i]:=aI (by omega)
  simp only[Ctx.out,hi,not_or]at v⊢
  obtain⟨v1,v2⟩:=v
  rcases iA i _ _ hi P3 with⟨jy,k1,k2,k3,k4,k5⟩|⟨k1,_⟩
  ·have Hi:c.R ex[i]=some jy:=by rw[hs.rows];exact k1
   rcases hinv i _ hi with⟨h1,h2⟩|h1
   ·rcases hs.reach.ob _ _ Hi v2 with⟨h3,h4,h5⟩|h3
    ·left
     rw[<-h1]at h3 h4
     refine⟨h3,h4,h5.trans ?_⟩
     rw[<-h1]
    ·exact .inr h3
   ·exact .inr (CP _ _ Hi v2 h1)
  ·exact(v1 (by rw[hs.rows];exact k1)).elim
theorem Wl:∀{env:List (Nat×D)} {t k:Nat},k∈CC (look env t)->k∈Aa env
 |[],t,k,h=>by simp[look,CC,EY,Aq]at h
 |(u,d)::l,t,k,h=>by
  rw[AJ]at h
  simp only[Aa,cB]
  split at h
  ·exact .inl h
  ·exact .inr (Wl h)
theorem Wm:∀{R:Rows} {r:Nat} {x:Row} {k:Nat},R.getD r none=some x->k∈kD [x]->k∈Ga R
 |some y::l,0,x,k,h,hk=>by
  simp at h;subst h
  simp only[Ga,cB];exact .inl hk
 |none::l,0,x,k,h,hk=>by simp at h
 |y::l,r+1,x,k,h,hk=>by
  have:=Wm (R:=l) (r:=r) (by simpa[aV]using h) hk
  cases y<;>simp[Ga,this]
 |[],r,x,k,h,_=>by simp[aV]at h
theorem VRep.toRep{c:Ctx}{d:D}(h:VRep c w d v):Rep c w d v:=by
 cases d<;>first|exact h|trivial|exact h.elim
theorem Rep.toVRep{c:Ctx}{d:D}(hv:d.isVal=true)(h:Rep c w d v):VRep c w d v:=by
 cases d<;>first|exact h|(simp[D.isVal]at hv)
theorem j9.length{c:Ctx}{w:World}:∀{ds:List D} {vs:List Value},j9 c w ds vs->ds.length=vs.length
 |[],[],_=>rfl
 |_::_,_::_,h=>by simp[j9.length h.2]
 |[],_::_,h=>h.elim
 |_::_,[],h=>h.elim
theorem Z8j:∀{ds:List D} {i t:Nat},(∃j,t=i+j/\j<ds.length/\look (Fo ds i) t=ds.getD j .dead)\/look (Fo ds i) t=.dead
 |[],i,t=>.inr rfl
 |d ::ds,i,t=>by
  simp only[Fo,AJ]
  by_cases e:i=t
  ·left;exact⟨0,by omega,by simp,by rw[if_pos e];rfl⟩
  ·rw[if_neg e]
   rcases Z8j (ds:=ds) (i:=i+1) (t:=t)with⟨j,h1,h2,h3⟩|h
   ·left;exact⟨j+1,by omega,by simpa using h2,by simpa using h3⟩
   ·right;exact h
theorem Zov{c:Ctx}{ds:List D}(h:j9 c w ds vs)(n t:Nat):Rep c w (look (Fo ds 0) t) ((vs.toArray++gE n undef).getD t undef):=by
 rcases Z8j (ds:=ds) (i:=0) (t:=t)with⟨j,h1,h2,h3⟩|h1
 ·obtain⟨v,hv,hr⟩:=YP h j h2
  rw[h3]
  have:t=j:=by omega
  subst this
  have hx:(vs.toArray++gE n undef).getD t undef=v:=by
   have bd:=(List.getElem?_eq_some_iff.1 hv).1
   have hvv:=(List.getElem?_eq_some_iff.1 hv).2
   simp[Array.getElem?_append,bd,hvv]
  rw[hx]
  exact hr.toRep
 ·rw[h1];trivial
theorem Zr4{t:TypeId}{x:D}{K:D->Rows->Prop}(h:wG T t x R K){c:Ctx}(hr:Rep c w x v):∃a,v=.pointer (some a):=by
 unfold wG at h
 split at h
 ·exact h.elim
 ·cases x<;>simp only at h
  case ptr r i off=>obtain⟨_,_,_,_,hv⟩:=hr;exact⟨_,hv⟩
  case pa r i off len k n=>obtain⟨_,_,_,_,_,hv⟩:=hr;exact⟨_,hv⟩
  case iv sz es i off=>obtain⟨_,_,_,_,_,hv,_⟩:=hr;exact⟨_,hv⟩
def Md(tmps:Array Value):ResultVar->Sem Value
 |.tmp t=>pure (tmps.getD t undef)
 |.cell a t=>do loadVar t (<-asAddr (tmps.getD a undef))
theorem UF{P:Program}{T:iB}(hT:ji P T){R:Rows}{env:List (Nat×D)}:∀{l:List ResultVar} {K:List D->Prop},Fp T R env l K->
 ∃ds,K ds/\∀c w (tmps:Array Value),Mem c w->ma c R->(∀t,Rep c w (look env t) (tmps.getD t undef))->∃vs,(l.mapM (Md tmps)).run P w=.ok vs w/\j9 c w ds vs
 |[],K,h=>⟨[],h,λc w tmps _ _ _=>⟨[],rfl,trivial⟩⟩
 |.tmp t::l,K,h=>by
  simp only[Fp,D.c8,dd]at h
  obtain⟨hv,h⟩:=h
  obtain⟨ds,hK,hr⟩:=UF hT h
  refine⟨_,hK,λc w tmps hm hA he=>?_⟩
  obtain⟨vs,h1,h2⟩:=hr c w tmps hm hA he
  refine⟨tmps.getD t undef::vs,?_,(he t).toVRep hv,h2⟩
  simp only[gG,Sem.run_bind,Md,Sem.run_pure,Result.andThen_ok,h1]
 |.cell a t::l,K,h=>by
  simp only[Fp]at h
  obtain⟨val,UG,Dq⟩:=Zis hT h
  simp only[dd]at UG
  obtain⟨hv,UG⟩:=UG
  obtain⟨ds,hK,hr⟩:=UF hT UG
  refine⟨_,hK,λc w tmps hm hA he=>?_⟩
  obtain⟨vs,h1,h2⟩:=hr c w tmps hm hA he
  obtain⟨u,hu,hx⟩:=Dq c w _ hm hA (he a)
  obtain⟨ad,had⟩:=Zr4 h (he a)
  rw[had,Up]at hu
  refine⟨u::vs,?_,hx.toVRep hv,h2⟩
  simp only[gG,Sem.run_bind,Md,had,asAddr,Sem.run_pure,Result.andThen_ok,hu,h1]
def CQ:List Value->Value
 |[v]=>v
 |vs=>.tuple vs.toArray
theorem Z6i{tmps:Array Value}(h:(fn.results.toList.mapM (Md tmps)).run P w=.ok vs w):(results fn tmps).run P w=.ok (CQ vs) w:=by
 have h2:(fn.results.mapM (Md tmps)).run P w=.ok vs.toArray w:=by
  rw[<-bW (xs:=fn.results),List.mapM_toArray]
  simp only[Sem.run_map,h,Result.andThen_ok]
 have h3:(results fn tmps)=(fn.results.mapM (Md tmps))>>=λvs=>pure (if h:vs.size=1 then vs[0]else .tuple vs):=by
  unfold results
  congr 1
 rw[h3,Sem.run_bind,h2]
 simp only[Result.andThen_ok,Sem.run_pure]
 congr 1
 match vs with
 |[]=>rfl
 |[v]=>rfl
 |_::_::_=>rfl
theorem fi.MZ{c0:Ctx}{c:Ctx}(hs:fi N M c0 w0 c w st a){b:Nat}(hb:w0.heap.size<=b){o o':Obj}(ho:w.heap[b]?=some o)(hc:∀arr ty fz,o≠.cells arr ty fz)
 {Fk:Nat->Prop} (gF:∀k ws v,Fk k->rM c w k ws v->rM {c with I:=λx=>c.I x/\x≠b} (w.putObj b o') k ws v) (hE:∀t,∀k∈CC (look st.env t),Fk k) (hR:∀r x,c.R r=some x->∀k∈kD [x],Fk k) {ds:List Deferred} (hd:lU w0.heap.size (w.putObj b o') ds):
 fi N M c0 w0 {c with I:=λx=>c.I x/\x≠b} (w.putObj b o') st {a with defers:=ds}:=by
 have c6:∀r x,c.R r=some x->¬c.V r->c.ρ r≠b:=λr x hr hV e=>by
  rcases hs.mem.row r x hr with h|⟨_,arr,h,_⟩
  ·exact hV h.1
  ·rw[e,ho]at h;exact hc _ _ _ (Option.some.inj h)
 have hh:∀r x,c.R r=some x->¬c.V r->(w.putObj b o').heap[c.ρ r]?=w.heap[c.ρ r]? :=λr x hr hV=>World.putObj_heap_other (c6 r x hr hV)
 have hg:Ja c w {c with I:=λx=>c.I x/\x≠b} (w.putObj b o'):=by
  refine⟨rfl,aX _,λx arr ty fz hI hx=>?_,λr x hr=>⟨x,hr,rfl,rfl,rfl,rfl,rfl,Iff.rfl,λhV arr ha=>⟨arr,(hh r x hr hV).trans ha,rfl⟩⟩⟩
  have gq:x≠b:=λe=>by subst e;rw[ho]at hx;exact hc _ _ _ (Option.some.inj hx)
  exact⟨⟨hI,gq⟩,(World.putObj_heap_other gq).trans hx⟩
 have jC:∀x,c0.I x->x≠b:=λx hx e=>by
  obtain⟨h1,h2⟩:=hs.reach.cz.I x hx
  have h3:=(hs.mem.fh x h1).1
  rw[e,ho]at h2
  have:=(Array.getElem?_eq_some_iff.1 h2.symm).1
  omega
 refine⟨YM hs.mem hg hh gF hR (λx hx=>⟨by simpa using(hs.mem.fh x hx.1).1,(hs.mem.fh x hx.1).2⟩) (by simp),hs.rows,λt=>Zow hg gF (hE t) (hs.env t),hs.size,hd,hs.fy,hs.gr,?_⟩
 refine⟨⟨hs.reach.cz.base,hs.reach.cz.top,λx hx=>?_,λr row hr=>?_⟩,⟨hs.reach.fr.os,hs.reach.fr.tape,hs.reach.fr.output,by simpa using hs.reach.fr.size,λx hx hn=>?_⟩,λx hx=>hs.reach.fh x hx.1,hs.reach.ob,hs.reach.xb⟩
 ·obtain⟨h1,h2⟩:=hs.reach.cz.I x hx
  exact⟨⟨h1,jC x hx⟩,(World.putObj_heap_other (jC x hx)).trans h2⟩
 ·obtain⟨ao,h1,h2,h3,h4,h5,h6,hV,h7⟩:=hs.reach.cz.R r row hr
  refine⟨ao,h1,h2,h3,h4,h5,h6,hV,λnv arr ha=>?_⟩
  obtain⟨iK,g1,g2⟩:=h7 nv arr ha
  refine⟨iK,?_,g2⟩
  rw[World.putObj_heap_other]
  ·exact g1
  ·intro e;rw[e,ho]at g1;exact hc _ _ _ (Option.some.inj g1)
 ·rw[World.putObj_heap_other (by omega)];exact hs.reach.fr.heap x hx hn
theorem fi.edit{c0:Ctx}{c:Ctx}(hs:fi N M c0 w0 c w st a)(hI:c0.I l){rec:Loop}(ho:w0.heap[l]?=some (.loop rec))(CR:∀r x,c0.R r=some x->¬c0.V r->c0.ρ r≠l)
 (mZ:pY (Aa st.env++Ga st.rows)=true):fi N M {c0 with I:=λx=>c0.I x/\x≠l} (w0.putObj l o') {c with I:=λx=>c.I x/\x≠l} (w.putObj l o') st a:=by
 have hl:w.heap[l]?=some (.loop rec):=(hs.reach.cz.I l hI).2.trans ho
 have ZB:=(Array.getElem?_eq_some_iff.1 ho).1
 have bd:=(Array.getElem?_eq_some_iff.1 hl).1
 have c6:∀r x,c.R r=some x->¬c.V r->c.ρ r≠l:=λr x hr hV=>(hs.mem.fh l (hs.reach.cz.I l hI).1).2 r x hr hV
 have hh:∀r x,c.R r=some x->¬c.V r->(w.putObj l o').heap[c.ρ r]?=w.heap[c.ρ r]? :=λr x hr hV=>World.putObj_heap_other (c6 r x hr hV)
 have gF:∀k ws v,k<YB->rM c w k ws v->rM {c with I:=λx=>c.I x/\x≠l} (w.putObj l o') k ws v:=λk ws v hk hv=>by
  rcases hv with hv|⟨hv,_⟩
  ·exact .inl hv
  ·omega
 have hg:Ja c w {c with I:=λx=>c.I x/\x≠l} (w.putObj l o'):=by
  refine⟨rfl,aX _,λx arr ty fz hI hx=>?_,λr x hr=>⟨x,hr,rfl,rfl,rfl,rfl,rfl,Iff.rfl,λhV arr ha=>⟨arr,(hh r x hr hV).trans ha,rfl⟩⟩⟩
  have gq:x≠l:=λe=>by subst e;rw[hl]at hx;cases hx
  exact⟨⟨hI,gq⟩,(World.putObj_heap_other gq).trans hx⟩
 refine⟨YM hs.mem hg hh gF (λr x hr k hk=>M0 mZ (eX _ (Wm (by rw[<-hs.rows];exact hr) hk))) (λx hx=>⟨by simpa using(hs.mem.fh x hx.1).1,(hs.mem.fh x hx.1).2⟩) (by simp),hs.rows,λt=>Zow hg gF (λk hk=>M0 mZ (eS _ (Wl hk))) (hs.env t),hs.size,?_,by simpa using hs.fy,hs.gr,?_⟩
 ·have:=hs.defers.to (w':=w.putObj l o') λb hb=>(World.putObj_heap_other λe=>by rw[e,hl]at hb;cases hb).trans hb
  simpa using this
 refine⟨⟨hs.reach.cz.base,hs.reach.cz.top,λx hx=>?_,λr row hr=>?_⟩,⟨hs.reach.fr.os,hs.reach.fr.tape,hs.reach.fr.output,by simpa using hs.reach.fr.size,λx hx hn=>?_⟩,λx hx=>?_,λr row hr hv=>?_,hs.reach.xb⟩
 ·obtain⟨h1,h2⟩:=hs.reach.cz.I x hx.1
  exact⟨⟨h1,hx.2⟩,(World.putObj_heap_other hx.2).trans (h2.trans (World.putObj_heap_other hx.2).symm)⟩
 ·obtain⟨ao,h1,h2,h3,h4,h5,h6,hV,h7⟩:=hs.reach.cz.R r row hr
  refine⟨ao,h1,h2,h3,h4,h5,h6,hV,λnv arr ha=>?_⟩
  rw[World.putObj_heap_other (CR r row hr nv)]at ha
  obtain⟨iK,g1,g2⟩:=h7 nv arr ha
  refine⟨iK,?_,g2⟩
  rw[World.putObj_heap_other]
  ·exact g1
  ·intro e;rw[e,hl]at g1;cases g1
 ·by_cases e:x=l
  ·subst e;rw[World.putObj_heap_same bd,World.putObj_heap_same ZB]
  ·rw[World.putObj_heap_other e,World.putObj_heap_other e]
   exact hs.reach.fr.heap x (by simpa using hx) hn
 ·rcases hs.reach.fh x hx.1 with g|g|g
  ·exact .inl ⟨g,hx.2⟩
  ·exact .inr (.inl g)
  ·exact .inr (.inr (by simpa using g))
 ·rcases hs.reach.ob r row hr hv with g|g|g
  ·exact .inl g
  ·exact .inr (.inl g)
  ·exact .inr (.inr (by simpa using g))
theorem leaves{P:Program}{fn:Func}{R:Ending->World->Prop}{N M:Nat}{c0:Ctx}{w0:World}{c:Ctx}{w:World}{st:St}{a:Act}(hs:fi N M c0 w0 c w st a)
 (h:∀c' w' a',a'.tmps=a.tmps->fi N M c0 w0 c' w' st a'->∃v,(results fn a'.tmps).run P w'=.ok v w'/\R (.returned v) w'):LeavesInM Fence.wide 0 P fn a.tmps R a.defers .returning w:=by
 obtain⟨bs,kQ,DT,UH⟩:=hs.defers
 revert c w a
 induction bs with
 |nil=>
  intro c w a hs h DT UH
  rw[DT]
  obtain⟨v,h1,h2⟩:=h c w a rfl hs
  exact⟨v,h1,h2⟩
 |cons b bs ih=>
  intro c w a hs h DT UH
  obtain⟨h1,h2⟩:=UH b (by simp)
  rw[List.nodup_cons]at kQ
  rw[DT]
  refine⟨by simp,.inl ⟨b,_,rfl,run_takeDeferred h2,?_⟩⟩
  have P5:∀x∈bs,w0.heap.size<=x/\(w.putObj b (.deferred none)).heap[x]?=some (.deferred (some [])):=λx hx=>by
   obtain⟨g1,g2⟩:=UH x (by simp[hx])
   exact⟨g1,(World.putObj_heap_other (λe=>kQ.1 (by rw[<-e];exact hx))).trans g2⟩
  refine ih kQ.2 (a:={a with defers:=bs.map λb=>({target:=.collected b,args:= #[]}:Deferred)}) (hs.MZ h1 h2 (λ_ _ _ e=>by cases e) (Fk:=λ_=>True) (λk ws v _ hv=>?_) (λ_ _ _=>trivial) (λ_ _ _ _ _=>trivial) ⟨bs,kQ.2,rfl,P5⟩) h rfl P5
  rcases hv with hv|⟨g1,l,rec,g2,g3,g4,g5⟩
  ·exact .inl hv
  ·have gq:l≠b:=λe=>by rw[e,h2]at g4;cases g4
   exact .inr ⟨g1,l,rec,g2,⟨g3,gq⟩,(World.putObj_heap_other gq).trans g4,g5⟩
theorem zv(hD:py P)(hT:ji P T)(hG:jz P G)(hf:P.funcs[f]?=some fn){args:List D}{rows:List Row}{res:D}{aj:List Row}
 {rf:Option Nat} (mF:∀code,fn.body=some code->RF rf fn.ntmps code) {L:Code->St->(Ex->St->Prop)->Prop} (hL:∀code st Q,RF rf fn.ntmps code->L code st Q->Tr P fn.ntmps rows.length code st Q) {Q0:D->Rows->Prop} (CS:∀d R,Q0 d R->Ae rows.length res aj d R) (h:ka T G L fn args rows Q0):ko P f args rows res aj:=by
 intro c w vs hm jj hR fv
 unfold ka at h
 split at h
 ·rename_i code hb
  have hs:fi fn.ntmps rows.length {c with X:=λ_=>False} w c w ⟨Fo args 0,rows.map some⟩ {tmps:=vs.toArray++gE (fn.ntmps-vs.toArray.size) undef,defers:=[]}:=
   ⟨hm,λr=>by
    rw[hR]
    simp only[aV,gH]
    cases rows[r]? <;>rfl,λt=>Zov fv _ t,by simp;omega,lU.nil,Nat.le_of_eq jj,λr row h=>by have h:c.R r=some row:=h;rw[hR]at h;exact(List.getElem?_eq_some_iff.1 h).1,wW.refl c w⟩
  refine callsIn_wide.1 (callsIn_of_wp_marks (F:=Fence.wide) (n:=0) hf hb trivial (wpIn_mono (M1 (ro:=none) hD hT hG (M3 rf fn.ntmps) hL code _ _ (mF _ hb) h _ w c w _ hs) λe a' w' hq=>?_))
  obtain⟨ex,st,c1,he,hq,lI⟩:=hq
  have fin:(Fp T st.rows st.env fn.results.toList λds=>match ds with|[d]=>Q0 d st.rows|ds=>Q0 (.dw ds) st.rows)->
   LeavesInM Fence.wide 0 P fn a'.tmps (λe w'=>∃v' c',e=.returned v'/\lJ c w c' w'/\(∀r,c'.R r=aj[r]?)/\Rep c' w' res v') a'.defers .returning w':=by
   intro kK
   refine leaves lI λc1 w' a' jB lI=>?_
   obtain⟨ds,hK,hr⟩:=UF hT kK
   have oR:ma c1 st.rows:=λr row ao h1 h2=>by rw[lI.rows,h2]at h1;exact(Option.some.inj h1).symm
   obtain⟨us,il,CU⟩:=hr c1 w' a'.tmps lI.mem oR lI.env
   have sR:=Z6i il
   obtain⟨d,v,Jk,hv,ot⟩:∃d v,Ae rows.length res aj d st.rows/\CQ us=v/\Rep c1 w' d v:=by
    match ds,us,CU with
    |[d],[u],hx=>exact⟨d,u,CS _ _ hK,rfl,hx.1.toRep⟩
    |[],[],hx=>exact⟨.dw [],_,CS _ _ hK,rfl,[],rfl,trivial⟩
    |d::e::ds,u::v::us,hx=>exact⟨.dw (d::e::ds),_,CS _ _ hK,rfl,_,rfl,hx⟩
    |[],_::_,hx=>exact hx.elim
    |[_],[],hx=>exact hx.elim
    |[_],_::_::_,hx=>exact hx.2.elim
    |_::_::_,[],hx=>exact hx.elim
    |_::_::_,[_],hx=>exact hx.2.elim
   rw[hv]at sR
   obtain⟨ex,hex,hd,db⟩:=Jk
   obtain⟨fc,je,fx⟩:=Sy lI hex db
   exact⟨v,sR,v,c1.out _ aj,rfl,⟨je,⟨fx.cz.base,fx.cz.top,fx.cz.I,fx.cz.R⟩,fx.fr.mono (λb _ hb=>hb.elim id False.elim),λb hb=>(fx.fh b hb).imp id (λh=>h.elim False.elim id),λr ao h1 h2=>(fx.ob r ao h1 h2).imp id (λh=>h.elim False.elim id)⟩,λr=>rfl,Sx lI.mem lI.rows db fc hd ot⟩
  cases e<;>simp only[mL,Option.some.injEq,reduceCtorEq]at he
  ·subst he;exact fin hq
  ·subst he;exact hq.elim
  ·subst he;exact fin hq
 ·exact h.elim
theorem z8{rows:List Row}{c:Ctx}{c':Ctx}{w':World}(je:Mem c' w')(fx:wW {c.kill (bO k (rows.length-k))with X:=λb=>∃s row,cw s (bO k (rows.length-k))=true/\c.R s=some row/\¬c.V s/\c.ρ s=b} w c' w'):
 jK (bO k (rows.length-k)) c w c' w':=by
 refine⟨je,⟨fx.cz.base,fx.cz.top,fx.cz.I,fx.cz.R⟩,fx.fr.mono (λb _ hb=>?_),λb hb=>fx.fh b hb,λr ao h1 h2=>?_⟩
 ·rcases hb with⟨r,x,h1,h2,h3⟩|⟨r,x,_,h1,h2,h3⟩
  ·obtain⟨_,row,g1,_⟩:=na (c:=c) (ks:=bO k (rows.length-k)) h1
   exact⟨r,row,g1,h2,h3⟩
  ·exact⟨r,x,h1,h2,h3⟩
 ·rcases fx.ob r ao h1 h2 with⟨⟨x,g1⟩,g2,g3⟩|⟨s,x,q1,q2,q3,q4⟩|g
  ·obtain⟨_,row,p1,_⟩:=na (c:=c) (ks:=bO k (rows.length-k)) g1
   exact .inl ⟨⟨row,p1⟩,g2,g3⟩
  ·exact .inr (.inl ⟨s,x,q1,q2,q3,q4.symm⟩)
  ·exact .inr (.inr g)
theorem Zqn:∀{rows:List Row} {r:Nat} {x:Row} {k:Nat},rows[r]?=some x->k∈kD [x]->k∈kD rows
 |y::l,0,x,k,h,hk=>by
  simp at h;subst h
  unfold kD at hk⊢
  split<;>simp_all [kD]
 |y::l,r+1,x,k,h,hk=>by
  have:=Zqn (rows:=l) (by simpa using h) hk
  unfold kD
  split<;>simp_all
 |[],r,x,k,h,_=>by simp at h
theorem Zp1{c:Ctx}{w:World}{tm oO:Array Value}:∀{ts:List Nat} {ds:List D},j9 c w ds (ts.map λt=>tm.getD t undef)->(∀t∈ts,oO.getD t undef=tm.getD t undef)->∀t,Rep c w (look (oy ts ds) t) (oO.getD t undef)
 |[],ds,_,_,t=>by cases ds<;>trivial
 |u::ts,[],h,_,t=>h.elim
 |u::ts,d::ds,h,ht,t=>by
  simp only[oy,AJ]
  split
  ·rename_i e;rw[<-e,ht u (by simp)];exact h.1.toRep
  ·exact Zp1 h.2 (λt h=>ht t (by simp[h])) t
theorem yv{F:Fence}{y:YK}(hd:y.pos=some d){x:Value}(hn:y.n<=tm.size){K:Act->World->Prop}
 (hK:∀oO,oO.size=tm.size->oO.getD d undef=x->(∀t∈y.ts,oO.getD t undef=tm.getD t undef)->K {tmps:=oO,defers:=[]} w):
 y.assign.wpIn (AM (some l)) 0 P (Exit.then K λ_ _ _=>False) {tmps:=(y.ps.zip #[x]).foldl (λtmps (t,a)=>tmps.setIfInBounds t a) tm,defers:=[]} w:=by
 have du:∀(p:Nat) (Jl:Array Value) (t:Nat),t≠p->(Jl.setIfInBounds p x).getD t undef=Jl.getD t undef:=λp Jl t h=>by
  simp[aQ,aZ (Ne.symm h)]
 have here:∀(p:Nat) (Jl:Array Value),p<Jl.size->(Jl.setIfInBounds p x).getD p undef=x:=λp Jl h=>by
  simp[aQ,h]
 unfold YK.pos at hd
 split at hd
 ·rename_i p kT has
  have kT:y.ps= #[p]:=by rw[<-bW (xs:=y.ps),kT]
  split at hd
  ·rename_i hc
   cases hd
   simp only[aE,gI,bB]at hc
   have hp:d<tm.size:=bM (lE hc.1) hn
   rw[has,kT]
   refine wpIn_skip (hK _ (by simp) ?_ λt ht=>?_)
   ·simpa using here d tm hp
   ·have:=du d tm t (λe=>by have:=(hc.2 t ht).1;rw[e]at this;simp at this)
    simpa using this
  ·cases hd
 ·rename_i p id ops kT has
  have kT:y.ps= #[p]:=by rw[<-bW (xs:=y.ps),kT]
  split at hd
  ·rename_i e q ty po af CV
   have CV:ops= #[⟨some e,.assign (.tmp q),ty,po,af,none⟩]:=by rw[<-bW (xs:=ops),CV]
   split at hd
   ·rename_i hc
    cases hd
    simp only[aE,gI,bB]at hc
    obtain⟨⟨hq,hp,hd⟩,Ej⟩:=hc
    have hq:=bE hq
    subst hq
    have hp:q<tm.size:=bM (lE hp) hn
    have hd:d<tm.size:=bM (lE hd) hn
    rw[has,kT,CV]
    refine Zkq ?_
    show wpOp P _ _ 0 _ _ _
    unfold wpOp
    simp only[List.getElem?_toArray,List.getElem?_cons_zero]
    rw[if_pos (by simp[Region.wanted])]
    refine FX (u:=x) (w':=w) ?_ ?_
    ·have:(tm.setIfInBounds q x).getD q undef=x:=here q tm hp
     simp only[execOp,Act.eval]
     simp[aQ,hp]
    ·show K {tmps:=Array.setIfInBounds _ d x,defers:=[]} w
     refine hK _ (by simp) ?_ λt ht=>?_
     ·exact here d _ (by simpa using hd)
     ·have h1:=(Ej t ht).1
      rw[du d _ t (λh=>by rw[h]at h1;simp at h1)]
      have:=du q tm t (λh=>by rw[h]at h1;simp at h1)
      simpa using this
   ·cases hd
  ·cases hd
 ·cases hd
inductive oQ(P:Program)(f:FuncId)(fn:Func)(cl:Prop):Prop where
 |real (h:f<YB) (hf:P.funcs[f]?=some fn) (hb:gD YB fn.nfree=false)
 |yield (h:YB<=f) (y:YK) (d:Nat) (hy:Ay f=some y) (hd:y.pos=some d) (hb:fn.body=some y.body) (hn:gD YB fn.nfree=true) (P6:bX fn.nfree YB=true) (hp:fn.params.toList=d::y.ts) (ht:fn.ntmps=y.n) (hc:cl)
 |uM (h:YB<=f) (y:YK) (q:Nat) (hy:Ay f=some y) (kT:y.ps= #[q]) (hq:(Nat.blt q y.n&&y.ts.all λt=>!(bX t q))=true) (hb:fn.body=some (.seq y.assign y.body)) (hn:gD YB fn.nfree=true) (P6:bX fn.nfree YB=false) (hp:fn.params.toList=q::y.ts) (ht:fn.ntmps=y.n) (hc:cl)
theorem Jm{rows:List Row}{c:Ctx}{env:List (Nat×D)}(hm:Mem c w)(jj:c.base=0)(hR:∀r,c.R r=rows[r]?)(sS:∀t,Rep c w (look env t) (tm.getD t undef))(fu:N<=tm.size):
 fi N k {c.kill (bO k (rows.length-k))with X:=λb=>∃s row,cw s (bO k (rows.length-k))=true/\c.R s=some row/\¬c.V s/\c.ρ s=b} w c w ⟨env,rows.map some⟩ {tmps:=tm,defers:=[]}:=by
 refine⟨hm,λr=>by
  rw[hR]
  simp only[aV,gH]
  cases rows[r]? <;>rfl,sS,fu,lU.nil,by simp[Ctx.kill,jj],λr row h=>?_,⟨⟨rfl,aX _,λ_ h=>⟨h,rfl⟩,λr x hx=>?_⟩,Fr.refl _ w,λ_ h=>.inl h,λr row hr hv=>?_,λ_ _=>by simp[Ctx.kill,jj]⟩⟩
 ·obtain⟨h1,ao,h2,_⟩:=na (c:=c) (ks:=bO k (rows.length-k)) h
  rw[hR]at h2
  have bd:=(List.getElem?_eq_some_iff.1 h2).1
  by_cases hk:r<k
  ·exact hk
  ·rw[LV.2 (by omega)]at h1;cases h1
 ·obtain⟨_,row,h2,rfl⟩:=na (c:=c) (ks:=bO k (rows.length-k)) hx
  obtain⟨s1,s2,s3,s4⟩:=u6 (bO k (rows.length-k)) row
  exact⟨row,h2,s1.symm,s2.symm,s3.symm,s4.symm,rfl,Iff.rfl,λ_ arr ha=>⟨arr,by rw[s2]at ha⊢;exact ha,rfl⟩⟩
 ·cases hb:cw r (bO k (rows.length-k))with
  |true=>exact .inr (.inl ⟨r,row,hb,hr,hv,rfl⟩)
  |false=>exact .inl ⟨⟨row.kill (bO k (rows.length-k)),by simp[Ctx.kill,hb,hr]⟩,hv,rfl⟩
theorem Zil{c:Ctx}{tm oO:Array Value}{ps:List Nat}{ts:List Nat}(CW:ps=d::ts){args:List D}{vs us:List Value}{x:Value}(BE:vs=[x]++us)(tF:us=ts.map λt=>tm.getD t undef)(fv:j9 c w args vs)(hx:oO.getD d undef=x)(Ej:∀t∈ts,oO.getD t undef=tm.getD t undef):
 ∀t,Rep c w (look (oy ps args) t) (oO.getD t undef):=by
 subst CW
 subst BE
 match args,fv with
 |[],hx=>exact hx.elim
 |A::As,⟨hA,hAs⟩=>
  intro t
  simp only[oy,AJ]
  split
  ·rename_i e;rw[<-e,hx];exact hA.toRep
  ·exact Zp1 (by rw[tF]at hAs;exact hAs) Ej t
theorem Zc4(hD:py P)(hT:ji P T)(hG:jz P G){rows:List Row}{res:D}{aj:List Row}{L:Code->St->(Ex->St->Prop)->Prop}(hL:∀ro code st Q,L code st Q->tN ro P n k code st Q){Q0:D->Rows->Prop}(CS:∀d R,Q0 d R->Ae k res aj d R)
 {c:Ctx} {w:World} {l:Nat} {rec:Loop} (hm:Mem c w) (hI:c.I l) (hl:w.heap[l]?=some (.loop rec)) (jW:rec.state=.ready) (Dw:rec.pending=none) {st:St} {c2:Ctx} {w2:World} {a:Act}
 (hs:fi n k {({c with I:=λb=>c.I b/\b≠l}:Ctx).kill (bO k (rows.length-k))with X:=λb=>∃s row,cw s (bO k (rows.length-k))=true/\c.R s=some row/\¬c.V s/\c.ρ s=b} (w.putObj l (.loop {rec with state:=.busy})) c2 w2 st a)
 (h:oW T G n k L code st λe st=>match e with|.normal=>Q0 (.bool true) st.rows|_=>False):
 code.wpIn (AM (some l)) 0 P (roundPost P l λe w'=>∃v' c',e=.returned v'/\jK (bO k (rows.length-k)) c w c' w'/\(∀r,c'.R r=aj[r]?)/\Rep c' w' res v') a w2:=by
 have bd:=(Array.getElem?_eq_some_iff.1 hl).1
 obtain⟨ĉ,hĉ⟩:∃ĉ:Ctx,ĉ={c with I:=λb=>c.I b/\b≠l}:=⟨_,rfl⟩
 obtain⟨wb,Jn⟩:∃wb,wb=w.putObj l (.loop {rec with state:=.busy}):=⟨_,rfl⟩
 have c6:∀r x,c.R r=some x->¬c.V r->c.ρ r≠l:=λr x hr hV=>(hm.fh l hI).2 r x hr hV
 have Jo:∀b,b≠l->wb.heap[b]?=w.heap[b]? :=λb hb=>by rw[Jn];exact World.putObj_heap_other hb
 have h2l:wb.heap[l]?=some (.loop {rec with state:=.busy}):=by rw[Jn];exact World.putObj_heap_same bd
 have Fq:wb.heap.size=w.heap.size:=by rw[Jn];simp
 have hs:fi n k {ĉ.kill (bO k (rows.length-k))with X:=λb=>∃s row,cw s (bO k (rows.length-k))=true/\ĉ.R s=some row/\¬ĉ.V s/\ĉ.ρ s=b} wb c2 w2 st a:=by rw[hĉ,Jn];exact hs
 refine wpIn_mono (M1 (ro:=some l) hD hT hG (M3 none n) (λcode st Q _ hl=>hL (some l) code st Q hl) code _ _ trivial h _ wb c2 w2 _ hs) λe a' w3 hq=>?_
 obtain⟨ex,st,c1,he,hq,lI⟩:=hq
 cases e<;>simp only[mL,Option.some.injEq,reduceCtorEq]at he<;>subst he
 rotate_left
 ·exact hq.elim
 ·exact hq.elim
 obtain⟨ex,hex,pj,db⟩:=CS _ _ hq
 obtain⟨fc,je,fx⟩:=Sy lI hex db
 have hX:¬({ĉ.kill (bO k (rows.length-k))with X:=λb=>∃s row,cw s (bO k (rows.length-k))=true/\ĉ.R s=some row/\¬ĉ.V s/\ĉ.ρ s=b}:Ctx).X l:=fun⟨s,row,_,g1,g2,g3⟩=>by
  rw[hĉ]at g1 g2 g3;exact c6 s row g1 g2 g3
 have ZC:w3.heap[l]?=some (.loop {rec with state:=.busy}):=by
  refine(lI.reach.fr.heap l (by rw[Fq];exact bd) λhx=>?_).trans h2l
  rcases hx with⟨r,row,g1,g2,g3⟩|hx
  ·obtain⟨_,ao,g4,_⟩:=na (c:=ĉ) g1
   rw[hĉ]at g2 g3 g4;exact c6 r ao g4 g2 g3
  ·exact hX hx
 have H5:=(Array.getElem?_eq_some_iff.1 ZC).1
 have Ek:=run_endRound (P:=P) none ZC
 refine⟨_,_,Ek,_,{c1.out ex aj with I:=λb=>(c1.out ex aj).I b\/b=l},rfl,?_⟩
 have P7:({({rec with state:=.busy}:Loop)with state:=if(none:Option Code).isNone then .ready else .done,pending:=none}:Loop)=rec:=by
  cases rec;simp only at jW Dw;subst jW;subst Dw;rfl
 rw[P7]
 have nl:¬(c1.out ex aj).I l:=λhx=>by
  rcases fx.fh l hx with h|h|h
  ·obtain⟨h,_⟩:ĉ.I l/\True:=⟨h,trivial⟩
   rw[hĉ]at h;exact h.2 rfl
  ·exact hX h
  ·rw[Fq]at h;omega
 have CX:∀r x,(c1.out ex aj).R r=some x->¬(c1.out ex aj).V r->(c1.out ex aj).ρ r≠l:=λr x hr hV e=>by
  rcases je.row r x hr with g|⟨_,arr,g,_⟩
  ·exact hV g.1
  ·rw[e,ZC]at g;cases g
 have Me:∀b,b≠l->(w3.putObj l (.loop rec)).heap[b]?=w3.heap[b]? :=λb hb=>World.putObj_heap_other hb
 have wa:jc (c1.out ex aj) w3 {c1.out ex aj with I:=λb=>(c1.out ex aj).I b\/b=l} (w3.putObj l (.loop rec)):=
  ⟨rfl,aX _,λb hb=>⟨.inl hb,Me b (λe=>nl (by rw[<-e];exact hb))⟩,λr x hr=>⟨x,hr,rfl,rfl,rfl,rfl,rfl,Iff.rfl,λhV arr ha=>⟨arr,(Me _ (CX r x hr hV)).trans ha,rfl⟩⟩⟩
 have hN:=z8 je fx
 refine⟨⟨⟨λr x hr=>tk wa rfl Iff.rfl (λnv=>Me _ (CX r x hr nv)) (je.row r x hr),je.inj,λb hb=>?_,by simpa using je.top,je.jV.mono wa.I⟩,⟨?_,?_,λb hb=>?_,λr x hr=>?_⟩,⟨?_,?_,?_,?_,λb hb hn=>?_⟩,λb hb=>?_,λr row hr hv=>?_⟩,λr=>rfl,wX wa (Sx lI.mem lI.rows db fc pj rfl)⟩
 ·rcases hb with hb|hb
  ·simpa using je.fh b hb
  ·subst hb;exact⟨by simpa using H5,λr x hr hV=>CX r x hr hV⟩
 ·have:=hN.cz.base;rw[hĉ]at this;exact this
 ·have:=hN.cz.top;rw[hĉ]at this;exact this
 ·by_cases e:b=l
  ·subst e;exact⟨.inr rfl,by rw[World.putObj_heap_same H5,hl]⟩
  ·have:=hN.cz.I b (by rw[hĉ];exact⟨hb,e⟩)
   exact⟨.inl this.1,(Me b e).trans (this.2.trans (Jo b e))⟩
 ·have:=hN.cz.R r x (by rw[hĉ];exact hr)
  obtain⟨x',g1,g2,g3,g4,g5,g6,gV,g7⟩:=this
  rw[hĉ]at g6 gV g7
  refine⟨x',g1,g2,g3,g4,g5,g6,gV,λhV arr ha=>?_⟩
  obtain⟨_,x0,q1,_⟩:=na (c:=c) hr
  have gq:c.ρ r≠l:=c6 r x0 q1 hV
  obtain⟨iK,k1,k2⟩:=g7 hV arr ((Jo _ gq).trans ha)
  exact⟨iK,(Me _ gq).trans k1,k2⟩
 ·rw[Jn]at hN;exact hN.fr.os
 ·rw[Jn]at hN;exact hN.fr.tape
 ·rw[Jn]at hN;exact hN.fr.output
 ·have:=hN.fr.size;rw[Fq]at this;simpa using this
 ·by_cases e:b=l
  ·subst e;rw[World.putObj_heap_same H5,hl]
  ·rw[Me b e,hN.fr.heap b (by rw[Fq];exact hb) (by rw[hĉ];exact hn),Jo b e]
 ·rcases hb with hb|hb
  ·rcases hN.fh b hb with g|g|g
   ·rw[hĉ]at g;exact .inl g.1
   ·rw[hĉ]at g;exact .inr (.inl g)
   ·rw[Fq]at g;exact .inr (.inr g)
  ·subst hb;exact .inl hI
 ·rcases hN.ob r row hr hv with g|g|g
  ·rw[hĉ]at g;exact .inl g
  ·rw[hĉ]at g;exact .inr (.inl g)
  ·rw[Fq]at g;exact .inr (.inr g)
theorem zaH(hD:py P)(hT:ji P T)(hG:jz P G){args:List D}{rows:List Row}{res:D}{aj:List Row}{rf:Option Nat}(hf:oQ P f fn (pY (ou args++kD rows)=true/\rf=none))(mF:∀code,fn.body=some code->RF rf fn.ntmps code)
 {L:Code->St->(Ex->St->Prop)->Prop} (hL:∀ro,(ro=none\/rf=none)->∀code st Q,RF rf fn.ntmps code->L code st Q->tN ro P fn.ntmps k code st Q) {Q0:D->Rows->Prop} (CS:∀d R,Q0 d R->Ae k res aj d R) (h:Fs T G L fn args rows Q0 k):tJ P f k args rows res aj:=by
 intro c w vs hm jj hR fv
 unfold Fs at h
 split at h
 rotate_left
 ·exact h.elim
 rename_i code hb
 cases hf with
 |real bd hf sC=>
  simp only[sC]at h
  refine⟨λ_=>?_,λgx=>absurd bd (Nat.not_lt.2 gx)⟩
  have hs:=Jm (N:=fn.ntmps) (k:=k) (env:=Fo args 0) (tm:=vs.toArray++gE (fn.ntmps-vs.toArray.size) undef) hm jj hR (λt=>Zov fv _ t) (by simp;omega)
  refine callsIn_wide.1 (callsIn_of_wp_marks (F:=Fence.wide) (n:=0) hf hb trivial (wpIn_mono (M1 (ro:=none) hD hT hG (M3 rf fn.ntmps) (hL none (.inl rfl)) code _ _ (mF _ hb) h _ w c w _ hs) λe a' w' hq=>?_))
  obtain⟨ex,st,c1,he,hq,lI⟩:=hq
  have fin:(Fp T st.rows st.env fn.results.toList λds=>match ds with|[d]=>Q0 d st.rows|ds=>Q0 (.dw ds) st.rows)->
   LeavesInM Fence.wide 0 P fn a'.tmps (λe w'=>∃v' c',e=.returned v'/\jK (bO k (rows.length-k)) c w c' w'/\(∀r,c'.R r=aj[r]?)/\Rep c' w' res v') a'.defers .returning w':=by
   intro kK
   refine leaves lI λc1 w' a' jB lI=>?_
   obtain⟨ds,hK,hr⟩:=UF hT kK
   have oR:ma c1 st.rows:=λr row ao h1 h2=>by rw[lI.rows,h2]at h1;exact(Option.some.inj h1).symm
   obtain⟨us,il,CU⟩:=hr c1 w' a'.tmps lI.mem oR lI.env
   have sR:=Z6i il
   obtain⟨d,v,Jk,hv,ot⟩:∃d v,Ae k res aj d st.rows/\CQ us=v/\Rep c1 w' d v:=by
    match ds,us,CU with
    |[d],[u],hx=>exact⟨d,u,CS _ _ hK,rfl,hx.1.toRep⟩
    |[],[],hx=>exact⟨.dw [],_,CS _ _ hK,rfl,[],rfl,trivial⟩
    |d::e::ds,u::v::us,hx=>exact⟨.dw (d::e::ds),_,CS _ _ hK,rfl,_,rfl,hx⟩
    |[],_::_,hx=>exact hx.elim
    |[_],[],hx=>exact hx.elim
    |[_],_::_::_,hx=>exact hx.2.elim
    |_::_::_,[],hx=>exact hx.elim
    |_::_::_,[_],hx=>exact hx.2.elim
   rw[hv]at sR
   obtain⟨ex,hex,hd,db⟩:=Jk
   obtain⟨fc,je,fx⟩:=Sy lI hex db
   refine⟨v,sR,v,c1.out _ aj,rfl,z8 je fx,λr=>rfl,Sx lI.mem lI.rows db fc hd ot⟩
  cases e<;>simp only[mL,Option.some.injEq,reduceCtorEq]at he
  ·subst he;exact fin hq
  ·subst he;exact hq.elim
  ·subst he;exact fin hq
 |yield gx y d hy hd uy ZD Jp CW ZE hc=>
  simp only[ZD,Jp]at h
  obtain⟨mZ,Jq⟩:=hc
  rw[uy]at hb
  cases hb
  refine⟨λbd=>absurd bd (Nat.not_lt.2 gx),λ_ l rec xs us BE hI hl mN iY=>?_⟩
  obtain⟨jW,Dw,y',w5,kT,has,ZF,P8,h1,tF⟩:=mN
  rw[hy]at w5;cases w5
  obtain⟨x,rfl⟩:∃x,xs=[x]:=by
   match xs,iY with
   |[x],_=>exact⟨x,rfl⟩
  rw[kT,has,ZF]
  have real:∀k,k∈ou args++kD rows->k<YB:=λk hk=>M0 mZ hk
  have bd:=(Array.getElem?_eq_some_iff.1 hl).1
  have wF:∀arr ty fz,(Obj.loop rec)≠.cells arr ty fz:=λ_ _ _ e=>by cases e
  obtain⟨ĉ,hĉ⟩:∃ĉ:Ctx,ĉ={c with I:=λb=>c.I b/\b≠l}:=⟨_,rfl⟩
  obtain⟨w2,P9⟩:∃w2,w2=w.putObj l (.loop {rec with state:=.busy}):=⟨_,rfl⟩
  have c6:∀r x,c.R r=some x->¬c.V r->c.ρ r≠l:=λr x hr hV=>(hm.fh l hI).2 r x hr hV
  have Jo:∀b,b≠l->w2.heap[b]?=w.heap[b]? :=λb hb=>by rw[P9];exact World.putObj_heap_other hb
  have h2l:w2.heap[l]?=some (.loop {rec with state:=.busy}):=by rw[P9];exact World.putObj_heap_same bd
  have Fq:w2.heap.size=w.heap.size:=by rw[P9];simp
  have hg:Ja c w ĉ w2:=by
   rw[hĉ]
   refine⟨rfl,aX _,λb arr ty fz ig hb=>?_,λr x hr=>⟨x,hr,rfl,rfl,rfl,rfl,rfl,Iff.rfl,λhV arr ha=>⟨arr,(Jo _ (c6 r x hr hV)).trans ha,rfl⟩⟩⟩
   have gq:b≠l:=λe=>by subst e;rw[hl]at hb;cases hb
   exact⟨⟨ig,gq⟩,(Jo b gq).trans hb⟩
  have gF:∀k ws v,k<YB->rM c w k ws v->rM ĉ w2 k ws v:=λk ws v hk hv=>by
   rcases hv with hv|⟨hv,_⟩
   ·exact .inl hv
   ·omega
  have BH:Mem ĉ w2:=by
   rw[hĉ]at hg gF⊢
   refine YM hm hg (λr x hr hV=>Jo _ (c6 r x hr hV)) (Fk:=λk=>k<YB) gF (λr x hr k hk=>real k ?_) (λb hb=>⟨by rw[Fq];exact(hm.fh b hb.1).1,(hm.fh b hb.1).2⟩) (by rw[Fq];exact aX _)
   rw[hR]at hr
   exact eX _ (Zqn hr hk)
  have Jr:j9 ĉ w2 args vs:=Qz hg (Fk:=λk=>k<YB) gF (λk hk=>real k (eS _ hk)) fv
  refine roundIn_of_wpIn (F:=Fence.wide) (n:=0) trivial (yv (F:=Fence.wide) hd (tm:=rec.tmps) P8 λoO fu hx Ej=>?_)
  refine⟨w2,by rw[P9];exact run_beginRound hl jW,?_⟩
  have sS:∀t,Rep ĉ w2 (look (oy fn.params.toList args) t) (oO.getD t undef):=Zil CW BE tF Jr hx Ej
  have hs:=Jm (N:=fn.ntmps) (k:=k) (env:=oy fn.params.toList args) (tm:=oO) BH (by rw[hĉ];exact jj) (by rw[hĉ];exact hR) sS (by rw[fu,ZE];exact P8)
  subst Jq
  subst P9
  subst hĉ
  exact Zc4 hD hT hG (λro code st Q hl=>hL ro (.inr rfl) code st Q trivial hl) CS hm hI hl jW Dw hs h
 |uM gx y q hy kT hq uy ZD Jp CW ZE hc=>
  simp only[ZD,Jp]at h
  obtain⟨mZ,Jq⟩:=hc
  subst Jq
  rw[uy]at hb
  cases hb
  simp only at h
  refine⟨λbd=>absurd bd (Nat.not_lt.2 gx),λ_ l rec xs us BE hI hl mN iY=>?_⟩
  obtain⟨jW,Dw,y',w5,ZG,has,ZF,P8,h1,tF⟩:=mN
  rw[hy]at w5;cases w5
  obtain⟨x,rfl⟩:∃x,xs=[x]:=by
   match xs,iY with
   |[x],_=>exact⟨x,rfl⟩
  rw[ZG,has,ZF]
  obtain⟨oO,UI⟩:∃oO,oO=rec.tmps.setIfInBounds q x:=⟨_,rfl⟩
  have hz:((y.ps.zip [x].toArray).foldl (λtmps (t,a)=>tmps.setIfInBounds t a) rec.tmps)=oO:=by rw[kT,UI];simp
  rw[hz]
  simp only[aE,gI,bB]at hq
  have hqs:q<rec.tmps.size:=bM (lE hq.1) P8
  have hx:oO.getD q undef=x:=by rw[UI];simp[aQ,hqs]
  have Ej:∀t∈y.ts,oO.getD t undef=rec.tmps.getD t undef:=λt ht=>by
   have gq:q≠t:=λe=>by have:=hq.2 t ht;rw[e]at this;simp at this
   rw[UI];simp[aQ,aZ gq]
  have sS:∀t,Rep c w (look (oy fn.params.toList args) t) (oO.getD t undef):=Zil CW BE tF fv hx Ej
  have hs:=Jm (N:=fn.ntmps) (k:=k) (env:=oy fn.params.toList args) (tm:=oO) hm jj hR sS (by rw[UI,ZE];simpa using P8)
  refine roundIn_of_wpIn (F:=Fence.wide) (n:=0) trivial (wpIn_mono (M1 (ro:=some l) hD hT hG (M3 none fn.ntmps) (λcode st Q _ hl=>hL (some l) (.inr rfl) code st Q trivial hl) y.assign _ _ trivial h _ w c w _ hs) λe a1 w1 hq=>?_)
  obtain⟨ex,st1,c1,he,hq,lI⟩:=hq
  cases e<;>simp only[mL,Option.some.injEq,reduceCtorEq]at he<;>subst he
  rotate_left
  ·exact hq.elim
  ·exact hq.elim
  simp only[dd]at hq
  obtain⟨ZH,hq⟩:=hq
  have SC:w1.heap[l]?=some (.loop rec):=(lI.reach.cz.I l hI).2.trans hl
  have c6:∀r x,(c.kill (bO k (rows.length-k))).R r=some x->¬c.V r->c.ρ r≠l:=λr x hr hV=>by
   obtain⟨_,x0,q1,_⟩:=na (c:=c) hr
   exact(hm.fh l hI).2 r x0 q1 hV
  exact⟨_,run_beginRound SC jW,Zc4 hD hT hG (λro code st Q hl=>hL ro (.inr rfl) code st Q trivial hl) CS hm hI hl jW Dw (lI.edit hI hl c6 ZH) hq⟩
def D.Hj:D->Bool|.int _ _=>true|.bool _=>true|.str _=>true|.sl _ _ _=>true|.iI=>true|.jI=>true|_=>false
theorem ai.wM(E:ai):ai.Eq E E:=by
 cases E with
 |gen es=>cases es<;>simp[ai.Eq]
 |ah k l=>simp[ai.Eq,VX]
 |_=>simp[ai.Eq]
theorem vv{d:D}(h:d.Hj=true):iM ex m R d d:=by
 cases d<;>first|(cases h;done)|simp[iM,dd,ai.wM]
def D.mw(n:Nat):D->Bool|.all i=>Nat.blt i n|.c9=>true|.emp=>true|d=>d.Hj
def Row.mw(n:Nat):Row->Bool|⟨false,_,_,_⟩=>true|⟨true,_,_,.gen [e]⟩=>e.all (D.mw n)|_=>false
theorem Zbb(h:i<n):j5 (cW n) i i=true:=by
 simp[j5,List.getElem?_range h]
theorem Zrk{d:D}(h:d.mw n=true):iM (cW n) m R d d:=by
 cases d with
 |all i=>
  simp only[D.mw,Nat.blt_eq]at h
  simp[iM,dd,Zbb h]
 |c9=>simp[iM]
 |emp=>simp[iM]
 |_=>exact vv h
theorem Z6j{n m:Nat}{R:Rows}:∀{e:List D},e.all (D.mw n)=true->Dy (cW n) m R e e
 |[],_=>trivial
 |d::e,h=>by
  simp only[gJ,aE]at h
  exact⟨Zrk h.1,Z6j h.2⟩
theorem Qyj{m n:Nat}:∀{post pre:List Row},post.all (Row.mw n)=true->lM (cW n) m ((pre++post).map some) (bO pre.length post.length) post
 |[],_,_=>trivial
 |⟨box,ty,sz,es⟩::post,pre,h=>by
  simp only[gJ,aE]at h
  rw[List.length_cons,List.range'_succ]
  have hR:(((pre++⟨box,ty,sz,es⟩::post).map some:Rows)).getD pre.length none=some ⟨box,ty,sz,es⟩:=by
   simp[aV]
  simp only[lM,hR,dd]
  refine⟨⟨by cases box<;>simp,?_⟩,?_⟩
  ·cases box with
   |false=>exact ai.wM es
   |true=>
    obtain⟨h,_⟩:=h
    cases es with
    |gen l=>
     match l,h with
     |[e],h=>exact Z6j h
    |_=>cases h
  ·have:=Qyj (m:=m) (n:=n) (post:=post) (pre:=pre++[⟨box,ty,sz,es⟩]) h.2
   simpa using this
theorem Zsn{rows:List Row}(h:rows.all (Row.mw rows.length)=true):lM (cW rows.length) m (rows.map some) (cW rows.length) rows:=by
 have:=Qyj (m:=m) (n:=rows.length) (post:=rows) (pre:=[]) h
 rwa [List.nil_append,List.length_nil,<-gC]at this
theorem Zcl:∀l:List Nat,Mc l l=true
 |[]=>rfl
 |x::l=>by simp[Mc,Zcl l]
theorem Zrx(M:Nat):sj M (cW M)=true:=by
 have h1:(cW M).take M=cW M:=List.take_of_length_le (by simp)
 have h2:(cW M).drop M=[]:=List.drop_of_length_le (by simp)
 simp[sj,h1,h2,Zcl,CI]
theorem Zcz(hD:py P)(hT:ji P T)(hf:P.funcs[f]?=some fn){args:List D}{rows:List Row}{off:Nat}(h:rows.all (Row.mw rows.length)=true)(h0:0<rows.length)
 (e1:∀Q0:D->GD.Rows->Prop,ka T [] (λ_ _ _=>False) fn args rows (λd R=>Q0 d R)=Q0 (.ptr 0 0 off) (rows.map some)):ko P f args rows (.ptr 0 0 off) rows:=by
 have hG:jz P []:=λx hx=>by cases hx
 have h2:ka T [] (λ_ _ _=>False) fn args rows (λd R=>d=.ptr 0 0 off/\R=rows.map some):=(e1 (λd R=>d=.ptr 0 0 off/\R=rows.map some)).symm▸⟨rfl,rfl⟩
 refine zv hD hT hG hf (rf:=none) (L:=λ_ _ _=>False) (λ_ _=>trivial) (λ_ _ _ _ h=>h.elim) (Q0:=λd R=>d=.ptr 0 0 off/\R=rows.map some) (λd R h=>?_) h2
 obtain⟨rfl,rfl⟩:=h
 refine⟨cW rows.length,Zrx _,?_,Zsn ‹_›⟩
 simp[si,oZ,iM,dd,Zbb h0]

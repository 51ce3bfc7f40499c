import Derived.Test.YtaemmjbkndlkeaaGreatMigrateEndsFb
open List renaming range_eq_range'->gE,getD->aV,getElem?_eq_none->aJ,getElem?_append_left->bI,getElem?_eq_getElem->aI,mem_of_getElem?->fN,range->cW,mem_append->cB,mapM_cons->gI,mem_append_right->eY,mem_append_left->eT,getElem?_map->gJ,range'->bO,all_eq_true->gK,all_cons->gL
open Nat renaming le_refl->aX,beq->bX,ble->gG,lt_of_lt_of_le->bM
open Bool renaming not_eq_true'->bB,false_eq_true->aA
open Array renaming replicate->gH,toArray_toList->bW,getD_eq_getD_getElem?->aQ,getElem?_setIfInBounds_ne->aZ
set_option linter.all false
namespace Go.GD
open Go
variable {G:List bd}{K:St->Prop}{M N d i k l m n r:Nat}{P:Program}{R:Rows}{T:iy}{a:Act}{b:Bool}{code:Code}{ex:List Nat}{f:FuncId}{fn:Func}{o':Obj}{ro:Option Nat}{st:St}{tm:Array Value}{v:Value}{vs:List Value}{w w0:World}{x:Operand}
theorem fi.jX{c0:Ctx}{c:Ctx}(h:fi N M c0 w0 c w st a)(hb:cq st.env x=.bool b):fi N M c0 w0 c w (st.jX x b) a:=by
 cases x with
 |tmp t=>exact⟨h.mem,h.rows,λs=>by rw[Sy hb];exact h.env s,h.size,h.defers,h.fx,h.gv,h.reach⟩
 |_=>exact h
theorem fi.Hg{c0:Ctx}{c:Ctx}(h:fi N M c0 w0 c w st a)(hb:a.eval x=.bool b):fi N M c0 w0 c w (st.jX x b) a:=by
 cases x with
 |tmp t=>
  refine⟨h.mem,h.rows,λs=>?_,h.size,h.defers,h.fx,h.gv,h.reach⟩
  simp only[St.jX,AK]
  split
  ·rename_i e;subst e;exact hb
  ·exact h.env s
 |_=>exact h
theorem qw(hT:Q4 P T)(hG:jD P G){id:Nat}{ops:Array Oper}{Q:Ex->St->Prop}(h:lV T G N M ops ops.toList st λst=>Q .normal st):tN ro P N M (.region id ops false) st Q:=by
 intro c0 w0 c w a hs
 refine Ziz ?_
 have:=xY (P:=P) (ops:=ops) hT hG (Q:=λe a' w'=>∃ex jq c',mN e=some ex/\Q ex jq/\fi N M c0 w0 c' w' jq a') (λst c w a hK hs=>⟨_,st,c,rfl,hK,hs⟩) ops.toList 0 st c w a (by simp) h hs
 rwa [<-gE,Array.length_toList]at this
theorem Z1z{c:Ctx}{w:World}{i n:Nat}{row:Row}(hn:c.R n=some row)(hb:row.box=false)(hV:c.V n):∀{e e':List D},Hh i n e=some e'->e'.length=e.length/\∀arr off,kJ c w e arr off->kJ c w e' arr off
 |[],e',h=>by simp[Hh]at h
 |d ::l,e',h=>by
  unfold Hh at h
  split at h
  ·cases h
   refine⟨rfl,λarr off hc=>?_⟩
   obtain⟨⟨v,hv,h1⟩,⟨u,hu,h2⟩,h3⟩:=hc
   exact⟨⟨v,hv,.inl h1⟩,⟨u,hu,row,hn,hb,.inl ⟨hV,none,h2,Qy⟩⟩,h3⟩
  ·split at h
   ·rename_i l' pC
    cases h
    obtain⟨g1,g2⟩:=Z1z hn hb hV pC
    exact⟨by simp[g1],λarr off hc=>⟨hc.1,g2 arr _ hc.2⟩⟩
   ·cases h
theorem Z1v{n:Nat}:∀{R:Rows} {k i:Nat} {ty:TypeId} {sz:Nat} {e':List D},Jk n R k=some (i,ty,sz,e')->∃e j,i=k+j/\R[j]?=some (some ⟨true,ty,sz,.gen [e]⟩)/\Hh i n e=some e'
 |[],k,i,ty,sz,e',h=>by simp[Jk]at h
 |x ::l,k,i,ty,sz,e',h=>by
  have next:Jk n l (k+1)=some (i,ty,sz,e')->∃e j,i=k+j/\(x::l)[j]?=some (some ⟨true,ty,sz,.gen [e]⟩)/\Hh i n e=some e':=λh=>by
   obtain⟨e,j,h1,h2,h3⟩:=Z1v h
   exact⟨e,j+1,by omega,by simpa using h2,h3⟩
  unfold Jk at h
  split at h
  ·split at h
   ·rename_i e1 he
    cases h
    exact⟨_,0,rfl,rfl,he⟩
   ·exact next h
  ·exact next h
theorem xau{c0:Ctx}{c:Ctx}(h:Jl T code st K)(hs:fi N M c0 w0 c w st a): ∃jq c',K jq/\fi N M c0 w0 c' w jq a:=by
  unfold Jl at h
  split at h
  . exact⟨st,c,h,hs⟩
  . rename_i u hu
    split at h
    . exact⟨st,c,h,hs⟩
    . rename_i i ty sz e' hf
      simp only[D.e7,nf]at h
      obtain⟨e,j,h1,h2,h3⟩:=Z1v hf
      rw[Nat.zero_add]at h1
      subst h1
      have bh:=(List.getElem?_eq_some_iff.1 h2).1
      have hi:c.R i=some ⟨true,ty,sz, .gen [e]⟩:=by rw[hs.rows,aV,h2];rfl
      have hn:c.R st.rows.length=none:=by rw[hs.rows,aV,aJ (aX _)];rfl
      have gu:i≠st.rows.length:=by omega
      have HX:=Wp hs.mem hn (row:=⟨false,u,1, .ints .u8 []⟩) rfl rfl Nat.one_pos
      have Wq:=SE (w:=w) hn ⟨false,u,1, .ints .u8 []⟩
      have Wr:(c.jv st.rows.length ⟨false,u,1, .ints .u8 []⟩).R i=some ⟨true,ty,sz, .gen [e]⟩:=by simp [Ctx.jv,gu,hi]
      obtain⟨q1,q2⟩:=Z1z (c:=c.jv st.rows.length ⟨false,u,1, .ints .u8 []⟩) (w:=w) (row:=⟨false,u,1, .ints .u8 []⟩) (by simp [Ctx.jv]) rfl (.inl rfl) h3
      obtain⟨Ws,BH⟩:=vb HX Wr q1 (λarr=>q2 arr 0)
      have hg:=Wq.trans Ws
      have nA:lL c w ((c.jv st.rows.length ⟨false,u,1, .ints .u8 []⟩).jT i ⟨true,ty,sz, .gen [e']⟩) w:=by
        refine⟨BH,hg,Fr.refl _ w,λb hb=> .inl hb,λr ao hr hv=> .inl ?_⟩
        have Wt:r≠st.rows.length:=λe=>hv (.inl e)
        by_cases er:r=i
        . subst er;exact⟨⟨_,hi⟩,λe=>hv (.inr e),rfl⟩
        . exact⟨⟨ao,by simpa [Ctx.jT,Ctx.jv,er,Wt] using hr⟩,λe=>hv (.inr e),rfl⟩
      refine⟨_,_,h,BH,λr=> ?_,λt=>wX hg (hs.env t),hs.size,hs.defers,hs.fx,hs.gv,hs.reach.step (ks:=[]) (λk hk=>by simp [da]at hk) hs.gv nA.toK⟩
      simp only[Ctx.jT,Ctx.jv]
      by_cases er:r=i
      . subst er
        simp [aV,bI (show r<(st.rows.set r _).length by simpa using bh),bh]
      . rw [if_neg er]
        by_cases en:r=st.rows.length
        . subst en
          simp [aV]
        . rw[if_neg en,hs.rows]
          by_cases hl:r<st.rows.length
          . simp [aV,bI (show r<(st.rows.set i _).length by simpa using hl),List.getElem?_set_ne (Ne.symm er)]
          . have h1:st.rows.getD r none=none:=by rw[aV,aJ (by omega)];rfl
            rw[h1,aV,aJ (by simp;omega)];rfl
def pA(P:Program):Prop:=∀(ro:Option Nat) (T:iy) (G:List bd) (N M id:Nat) (ops:Array Oper) (st:St) (Q:Ex->St->Prop),Q4 P T->jD P G->uH T G N M ops st Q->tN ro P N M (.region id ops true) st Q
def wM(y:Array Tmp×Code×Code):Code->Prop
 |.seq a b=>wM y a/\wM y b
 |.cond _ a b=>wM y a/\wM y b
 |.block _ a=>wM y a
 |.loop a=>wM y a
 |.scope a=>wM y a
 |.rangeFunc _ ps x b=>(ps,x,b)=y
 |_=>True
def RF(o:Option Nat)(n:Nat)(c:Code):Prop:=match o with|none=>True|some f=>∃y,(Ay f=some y/\y.n<=n/\y.ts=Wv f/\YB<=f/\y.ps.size=1)/\wM (y.ps,y.assign,y.body) c
theorem qU{c:Code}{Q:Exit->Act->World->Prop}(h:c.wpIn (AN ro) 0 P (Exit.noGoto Q) a w):(Code.scope c).wpIn (AN ro) 0 P Q a w:=by
 intro b k cs Dx hb hr
 have s1:step P (lone (b.atR a (.code (.scope c)::k)) cs w)=.next (lone (b.atR a (.code c:: .inScope c::k)) cs w):=step_lone_go (by simp[stepG,stepG.exec,Frame.atR])
 have h0:(lone (b.atR a (.code (.scope c)::k)) cs w).fenced P (AN ro):=fenced_calm hb hr rfl
 obtain⟨e,CN,CO,hq,pw⟩:=h b (.inScope c::k) cs Dx hb hr
 cases e with
 |normal=>exact⟨.normal,CN,CO,hq,.head h0 s1 (StepsIn.trans pw (.one (fenced_calm hb hr rfl) (step_lone_go (by simp[stepG,stepG.exec,Frame.atR]))))⟩
 |exit id=>
  have hx:exitTo id (.inScope c::k)=exitTo id k:=by simp[exitTo]
  exact⟨.exit id,CN,CO,hq,λk' hk=>.head h0 s1 (pw.1 k' (by rw[hx];exact hk)),λpE hk=>let⟨k₁,h1,h2⟩:=pw.2 pE (by rw[hx];exact hk);⟨k₁,h1,.head h0 s1 h2⟩⟩
 |goto l=>exact hq.elim
 |ret=>exact⟨_,CN,CO,hq,.of_steps (.one h0 s1) pw⟩
 |panic ch=>exact⟨_,CN,CO,hq,.of_steps (.one h0 s1) pw⟩
 |outgrown=>exact⟨_,CN,CO,hq,.of_steps (.one h0 s1) pw⟩
theorem xw{c0:Ctx}{c:Ctx}{ops:List Oper}(h:uJ ops st K)(hs:fi N M c0 w0 c w st a):∃jq,K jq/\fi N M c0 w0 c w jq a:=by
 unfold uJ at h
 split at h
 ·exact⟨st,h,hs⟩
 ·rename_i x _
  split at h
  ·rename_i b hb
   cases b with
   |true=>exact⟨_,h,hs.jX hb⟩
   |false=>exact⟨_,h,hs.jX hb⟩
  ·exact⟨st,h,hs⟩
theorem Na(hD:pA P)(hT:Q4 P T)(hG:jD P G){L:Code->St->(Ex->St->Prop)->Prop}{S:Code->Prop}(hS:(∀a b,S (.seq a b)->S a/\S b)/\(∀c a b,S (.cond c a b)->S a/\S b)/\(∀i a,S (.block i a)->S a)/\(∀a,S (.scope a)->S a))(hL:∀code st Q,S code->L code st Q->tN ro P N M code st Q):∀(code:Code) (st:St) (Q:Ex->St->Prop),S code->o4 T G N M L code st Q->tN ro P N M code st Q:=by
 intro code
 induction code with
 |skip=>exactλst Q _ h c0 w0 c w a hs=>wpIn_skip ⟨_,st,c,rfl,h,hs⟩
 |label l=>exactλst Q _ h c0 w0 c w a hs=>wpIn_label ⟨_,st,c,rfl,h,hs⟩
 |region id ops draw=>
  intro st Q hc h c0 w0 c w a hs
  simp only[o4]at h
  obtain⟨st0,h,By⟩:=xw h hs
  obtain⟨R1,c1,h,lK⟩:=Gc h By
  obtain⟨jq,c',h,iU⟩:=zad h lK
  cases draw with
  |false=>exact qw hT hG h c0 w0 c' w a iU
  |true=>exact hD ro T G N M id ops jq Q hT hG h c0 w0 c' w a iU
 |seq x y ihx UW=>
  intro st Q hc h c0 w0 c w a hs
  simp only[o4]at h
  refine wpIn_seq (wpIn_mono (ihx st _ (hS.1 _ _ hc).1 h c0 w0 c w a hs) λe a' w' hq=>?_)
  obtain⟨ex,jq,c',he,hq,iU⟩:=hq
  cases e<;>simp only[mN,Option.some.injEq,reduceCtorEq]at he
  ·subst he
   obtain⟨st2,c2,hq,MP⟩:=xau hq iU
   exact UW st2 Q (hS.1 _ _ hc).2 hq c0 w0 c2 w' a' MP
  ·subst he;exact⟨_,jq,c',rfl,hq,iU⟩
  ·subst he;exact⟨_,jq,c',rfl,hq,iU⟩
 |cond x y z UW ihz=>
  intro st Q hc h c0 w0 c w a hs
  simp only[o4]at h
  split at h
  ·rename_i b hb
   have hv:=M1 hs.env x
   rw[hb]at hv
   have hv:=Rep.bool.1 hv
   cases b with
   |true=>exact wpIn_cond_true hv (UW _ Q (hS.2.1 _ _ _ hc).1 h c0 w0 c w a (hs.jX hb))
   |false=>exact wpIn_cond_false hv (ihz _ Q (hS.2.1 _ _ _ hc).2 h c0 w0 c w a (hs.jX hb))
  ·rename_i es hb
   have hv:=M1 hs.env x
   rw[hb]at hv
   obtain⟨b,hv,ie⟩:=hv
   cases b with
   |true=>exact wpIn_cond_true hv (UW _ Q (hS.2.1 _ _ _ hc).1 (h.1 (ai.oe.2 (ie rfl))) c0 w0 c w a (hs.Hg hv))
   |false=>exact wpIn_cond_false hv (ihz _ Q (hS.2.1 _ _ _ hc).2 h.2 c0 w0 c w a (hs.Hg hv))
  ·exact h.elim
 |block id x ih=>
  intro st Q hc h c0 w0 c w a hs
  simp only[o4]at h
  refine wpIn_block (wpIn_mono (ih st _ (hS.2.2.1 _ _ hc) h c0 w0 c w a hs) λe a' w' hq=>?_)
  obtain⟨ex,jq,c',he,hq,iU⟩:=hq
  cases e<;>simp only[mN,Option.some.injEq,reduceCtorEq]at he
  ·subst he;exact⟨_,jq,c',rfl,hq,iU⟩
  ·rename_i i
   subst he
   simp only[Exit.inBlock]
   simp only at hq
   cases hb:bX i id with
   |true=>
    simp only[hb]at hq
    rw[if_pos (bE hb)]
    exact⟨_,jq,c',rfl,hq,iU⟩
   |false=>
    simp only[hb]at hq
    rw[if_neg (λe=>by rw[e]at hb;simp at hb)]
    exact⟨_,jq,c',rfl,hq,iU⟩
  ·subst he;exact⟨_,jq,c',rfl,hq,iU⟩
 |exit id=>exactλst Q _ h c0 w0 c w a hs=>wpIn_exit ⟨_,st,c,rfl,h,hs⟩
 |ret=>exactλst Q _ h c0 w0 c w a hs=>wpIn_ret ⟨_,st,c,rfl,h,hs⟩
 |loop x ih=>exactλst Q hc h=>hL _ _ _ hc h
 |rangeFunc g ps x y _ _=>exactλst Q hc h=>hL _ _ _ hc h
 |scope x ih=>
  intro st Q hc h c0 w0 c w a hs
  simp only[o4]at h
  refine qU (wpIn_mono (ih st _ (hS.2.2.2 _ hc) h c0 w0 c w a hs) λe a' w' hq=>?_)
  obtain⟨ex,jq,c',he,hq,iU⟩:=hq
  cases e<;>simp only[mN,Option.some.injEq,reduceCtorEq]at he
  all_goals(subst he;exact⟨_,jq,c',rfl,hq,iU⟩)
 |goto l=>exactλst Q hc h=>hL _ _ _ hc h
 |refuse y=>exactλst Q hc h=>hL _ _ _ hc h
theorem Nb(o:Option Nat)(n:Nat):(∀a b,RF o n (.seq a b)->RF o n a/\RF o n b)/\(∀c a b,RF o n (.cond c a b)->RF o n a/\RF o n b)/\(∀i a,RF o n (.block i a)->RF o n a)/\(∀a,RF o n (.scope a)->RF o n a):=by
 cases o with
 |none=>exact⟨λ_ _ _=>⟨trivial,trivial⟩,λ_ _ _ _=>⟨trivial,trivial⟩,λ_ _ _=>trivial,λ_ _=>trivial⟩
 |some f=>exact⟨λ_ _ ⟨y,h,h1,h2⟩=>⟨⟨y,h,h1⟩,⟨y,h,h2⟩⟩,λ_ _ _ ⟨y,h,h1,h2⟩=>⟨⟨y,h,h1⟩,⟨y,h,h2⟩⟩,λ_ _ ⟨y,h,h1⟩=>⟨y,h,h1⟩,λ_ ⟨y,h,h1⟩=>⟨y,h,h1⟩⟩
def oP:Code->Nat
 |.seq a b=>oP a+oP b
 |.cond _ a b=>oP a+oP b
 |.block _ a=>oP a
 |.loop a=>oP a
 |.scope a=>oP a
 |.rangeFunc _ _ _ _=>1
 |_=>0
theorem Zim:∀{c:Code} (y:Array Tmp×Code×Code),oP c=0->wM y c:=by
 intro c
 induction c with
 |seq a b Fq Fs=>intro y h;simp only[oP]at h;exact⟨Fq y (by omega),Fs y (by omega)⟩
 |cond x a b Fq Fs=>intro y h;simp only[oP]at h;exact⟨Fq y (by omega),Fs y (by omega)⟩
 |block i a ih=>intro y h;exact ih y h
 |loop a ih=>intro y h;exact ih y h
 |scope a ih=>intro y h;exact ih y h
 |rangeFunc g ps x b _ _=>intro y h;simp[oP]at h
 |_=>intro y h;trivial
theorem xU:∀{c:Code} {y:Array Tmp×Code×Code},oP c<=1->sQ c=some y->wM y c/\1<=oP c:=by
 intro c
 have two:∀{a b:Code} {y:Array Tmp×Code×Code},(∀{y},oP a<=1->sQ a=some y->wM y a/\1<=oP a)->(∀{y},oP b<=1->sQ b=some y->wM y b/\1<=oP b)->oP a+oP b<=1->(match sQ a with|some x=>some x|none=>sQ b)=some y->(wM y a/\wM y b)/\1<=oP a+oP b:=by
  intro a b y Fq Fs h hy
  cases ha:sQ a with
  |some x=>
   rw[ha]at hy
   cases hy
   obtain⟨h1,h2⟩:=Fq (by omega) ha
   exact⟨⟨h1,Zim _ (by omega)⟩,by omega⟩
  |none=>
   rw[ha]at hy
   obtain⟨h1,h2⟩:=Fs (by omega) hy
   exact⟨⟨Zim _ (by omega),h1⟩,by omega⟩
 induction c with
 |seq a b Fq Fs=>intro y h hy;exact two Fq Fs h hy
 |cond x a b Fq Fs=>intro y h hy;exact two Fq Fs h hy
 |block i a ih=>intro y h hy;exact ih h hy
 |loop a ih=>intro y h hy;exact ih h hy
 |scope a ih=>intro y h hy;exact ih h hy
 |rangeFunc g ps x b _ _=>intro y h hy;simp only[sQ,Option.some.injEq]at hy;exact⟨hy,aX _⟩
 |_=>intro y h hy;simp[sQ]at hy
def rfB(f:Nat)(fn:Func):Bool:=match fn.body with
 |some c=>gG (oP c) 1&&(gG YB f&&(match sQ c with|some y=>bX y.1.size 1|none=>false))
 |none=>false
theorem Hi{f:Nat}(h:rfB f fn=true)(hy:Ay f=Ft (Wv f) fn):∀code,fn.body=some code->RF (some f) fn.ntmps code:=by
 intro code hb
 unfold rfB at h
 unfold Ft at hy
 simp only[hb,aE]at h hy
 obtain⟨h1,h2,h3⟩:=h
 split at h3
 ·rename_i y hf
  rw[hf]at hy
  exact⟨_,⟨hy,aX _,rfl,lE h2,bE h3⟩,(xU (lE h1) hf).1⟩
 ·cases h3
def Ctx.out(c:Ctx)(ex:List Nat)(rows:List Row):Ctx:=
 { ρ:=λi=>match ex[i]? with|some r=>c.ρ r|none=>c.ρ i,R:=λi=>rows[i]?,V:=λi=>match ex[i]? with|some r=>c.R r=none\/c.V r|none=>True,
   I:=λb=>c.I b\/ ∃r row,c.R r=some row/\ ¬c.V r/\row.box=false/\Kh ex r=true/\c.ρ r=b,base:=c.base,top:=c.top,X:=c.X}
theorem UX(h:ka ex i r=true):ex[i]?=some r:=by
 unfold ka at h
 split at h
 ·rename_i x hx;rw[hx,bE h]
 ·cases h
theorem Zso(h:Ic ex R i=true):∃r,ex[i]?=some r/\R.getD r none=none:=by
 unfold Ic at h
 split at h
 ·rename_i r hr
  refine⟨r,hr,?_⟩
  split at h
  ·assumption
  ·cases h
 ·cases h
theorem Zc(h:Kh ex r=true):r∉ex:=by
 intro hm
 have:=List.all_eq_true.1 h r hm
 simp at this
theorem QA{ex:List Nat}{m:Nat}{R:Rows}:∀{rs:List Nat} {ps:List Row},lO ex m R rs ps->rs.length=ps.length/\∀(i r:Nat) (p:Row),rs[i]?=some r->ps[i]?=some p->
 (∃row,R.getD r none=some row/\row.box=p.box/\row.ty=p.ty/\row.sz=p.sz/\(if p.box then∃e e',row.es=.gen [e]/\p.es=.gen [e']/\Dy ex m R e e' else row.es.l=p.es.l))\/(R.getD r none=none/\p.box=false/\p.es.l=[]/\0<p.sz)
 |[],[],_=>⟨rfl,λi r p h=>by simp at h⟩
 |[],_::_,h=>h.elim
 |_::_,[],h=>h.elim
 |r ::rs,⟨box,ty,sz,es⟩::ps,h=>by
  simp only[lO]at h
  obtain⟨h1,h2⟩:=h
  obtain⟨g1,g2⟩:=QA h2
  refine⟨by simp[g1],λi q p hq hp=>?_⟩
  cases i with
  |succ i=>exact g2 i q p (by simpa using hq) (by simpa using hp)
  |zero=>
   simp at hq hp
   subst hq;subst hp
   split at h1
   ·rename_i Ac jW j9 iW hR
    simp only[dd,aE]at h1
    obtain⟨⟨⟨e1,e2⟩,e3⟩,h1⟩:=h1
    refine .inl ⟨_,hR,by cases box<;>cases Ac<;>simp_all,(bE e2).symm,(bE e3).symm,?_⟩
    cases box with
    |false=>simpa using ai.w9 h1
    |true=>
     simp only[if_true]
     simp only at h1
     split at h1
     ·exact⟨_,_,rfl,rfl,h1⟩
     ·exact h1.elim
   ·rename_i hR
    simp only[dd,aE,bB]at h1
    exact .inr ⟨hR,h1.1.1,ai.oe.1 h1.2,lE h1.1.2⟩
theorem SF{c:Ctx}{rows:List Row}(hR:∀r,c.R r=R.getD r none)(db:lO ex m R ex rows){i r o f:Nat}(hx:ka ex i r=true)(hr:dc c w (.ptr r o f) v):dc (c.out ex rows) w (.ptr i o f) v:=by
 obtain⟨row,g1,gV,g2,hv⟩:=hr
 have hi:=UX hx
 obtain⟨hl,iw⟩:=QA db
 have bh:=(List.getElem?_eq_some_iff.1 hi).1
 have hp:rows[i]?=some rows[i]:=aI (by omega)
 rcases iw i r _ hi hp with⟨ao,k1,k2,k3,k4,k5⟩|⟨k1,_⟩
 ·have:ao=row:=by rw[hR,k1]at g1;exact Option.some.inj g1
  subst this
  refine⟨_,hp,by simp[Ctx.out,hi,g1,gV],?_,by simp only[Ctx.out,hi];rw[hv,k4]⟩
  split at k5
  ·obtain⟨e,e',q1,q2,_⟩:=k5
   rw[q1]at g2;rw[q2];exact g2
  ·rw[<-k5];exact g2
 ·rw[hR,k1]at g1;cases g1
theorem Zqd{c:Ctx}{w:World}{ex:List Nat}{m:Nat}{R:Rows}{rows:List Row}(hR:∀r,c.R r=R.getD r none)(db:lO ex m R ex rows):∀{ps qs:List (Nat×Nat×Nat)} {us:List Value},sq ex ps qs=true->Mh c qs us->Mh (c.out ex rows) ps us
 |[],[],_,_,h=>by rename_i us _;cases us<;>exact h
 |(i,b,d)::l,(r,y,z)::q,u::us,h,hr=>by
  simp only[sq,aE]at h
  obtain⟨h1,h2,h3,h4⟩:=h
  have e2:=bE h2;have e3:=bE h3
  subst e2;subst e3
  exact⟨SF (w:=w) hR db h1 hr.1,Zqd (w:=w) hR db h4 hr.2⟩
 |(_,_,_)::_,(_,_,_)::_,[],_,h=>h.elim
 |[],_::_,_,h,_=>by simp[sq]at h
 |_::_,[],_,h,_=>by simp[sq]at h
theorem zU{c:Ctx}{rows:List Row}(hR:∀r,c.R r=R.getD r none)(db:lO ex m R ex rows):∀{cs ds:List iD} {us:List Value},o5 ex cs ds=true->oD c w ds us->oD (c.out ex rows) w cs us:=by
 intro cs
 induction cs with
 |nil=>intro ds us h hr;cases ds<;>cases us<;>first|exact hr|(simp[o5]at h;done)
 |cons x cs ih=>
  intro ds us h hr
  cases ds with
  |nil=>cases x<;>simp[o5]at h
  |cons y ds=>
   cases us with
   |nil=>exact hr.elim
   |cons u us=>
    cases x<;>cases y<;>simp only[o5,aE,aA]at h
    ·obtain⟨h1,h2,h3,h4⟩:=h
     have e2:=bE h2;have e3:=bE h3
     subst e2;subst e3
     exact⟨SF (w:=w) hR db h1 hr.1,ih h4 hr.2⟩
    ·obtain⟨h1,h2,h3⟩:=h
     have e1:=bE h1
     subst e1
     obtain⟨⟨ws,hv,hw⟩,Ur⟩:=hr
     exact⟨⟨ws,L7 (c:=c) (c':=c.out ex rows) (w':=w) (λb hb=>⟨Or.inl hb,rfl⟩) hv,Zqd (w:=w) hR db h2 hw⟩,ih h3 Ur⟩
section
variable {c:Ctx} {w:World} {ex:List Nat} {m:Nat} {R:Rows} {rows:List Row}
theorem ZU(hm:Mem c w)(hR:∀r,c.R r=R.getD r none)(db:lO ex m R ex rows)(e6:∀r row,c.R r=some row->¬c.V r->m<=r->c.base<=c.ρ r){d p:D}(h:iL ex m R d p)(hr:dc c w d v):dc (c.out ex rows) w p v:=by
 have nB:∀b,c.I b->(c.out ex rows).I b/\w.heap[b]?=w.heap[b]? :=λb hb=>⟨.inl hb,rfl⟩
 obtain⟨hl,iw⟩:=QA db
 have rowOf:∀i r row,ex[i]?=some r->c.R r=some row->∃p,rows[i]?=some p/\row.box=p.box/\row.ty=p.ty/\row.sz=p.sz/\row.es.l.length=p.es.l.length/\(c.out ex rows).ρ i=c.ρ r/\((c.out ex rows).V i↔c.V r):=by
  intro i r row hi cz
  have bh:=(List.getElem?_eq_some_iff.1 hi).1
  have hp:rows[i]?=some rows[i]:=aI (by omega)
  rcases iw i r _ hi hp with⟨ao,g1,g2,g3,g4,g5⟩|⟨g1,_⟩
  ·have:ao=row:=by rw[hR,g1]at cz;exact Option.some.inj cz
   subst this
   refine⟨_,hp,g2,g3,g4,?_,by simp[Ctx.out,hi],by simp[Ctx.out,hi,cz]⟩
   split at g5
   ·obtain⟨e,e',k1,k2,_⟩:=g5
    rw[k1,k2];rfl
   ·rw[g5]
  ·rw[hR,g1]at cz;cases cz
 have Nd:∀i a,Ic ex R i=true->v=.slice a 0 0->Cu c.top a->dc (c.out ex rows) w (.all i) v:=by
  intro i a hv DK dx
  obtain⟨r,hi,hrn⟩:=Zso hv
  have bh:=(List.getElem?_eq_some_iff.1 hi).1
  have hp:rows[i]?=some rows[i]:=aI (by omega)
  rcases iw i r _ hi hp with⟨ao,g1,_⟩|⟨g1,g2,g3,g4⟩
  ·rw[hrn]at g1;cases g1
  ·exact⟨_,hp,g2,.inl ⟨by simp only[Ctx.out,hi];exact .inl (by rw[hR];exact g1),a,DK,dx⟩⟩
 cases p<;>simp only[iL]at h
 case int k n=>
  split at h
  ·simp only[dd,decide_eq_true_eq]at h;obtain⟨rfl,rfl⟩:=h;exact hr
  ·exact h.elim
 case bool b=>
  split at h
  ·subst h;exact hr
  ·exact h.elim
 case str s=>
  split at h
  ·subst h;exact hr
  ·exact h.elim
 case iz=>
  split at h
  ·exact hr
  ·exact h.elim
 case c8=>
  split at h
  ·exact hr
  ·exact h.elim
 case emp=>
  split at h
  ·exact⟨none,hr,Qy⟩
  ·exact hr
  ·exact h.elim
 case jL=>
  split at h
  ·exact hr
  ·exact h.elim
 case gp f cs=>
  split at h
  ·simp only[dd,aE]at h
   obtain⟨⟨h1,h2⟩,_⟩:=h
   have e1:=bE h1
   subst e1
   obtain⟨us,hv,hu⟩:=hr
   exact⟨us,L7 (c:=c) (c':=c.out ex rows) (w':=w) (λb hb=>⟨Or.inl hb,rfl⟩) hv,zU hR db h2 hu⟩
  ·exact h.elim
 case ptr i o f=>
  split at h
  ·simp only[dd,aE]at h
   obtain⟨⟨h1,h2,h3⟩,_⟩:=h
   have e2:=bE h2;have e3:=bE h3
   subst e2;subst e3
   exact SF (w:=w) hR db h1 hr
  ·exact h.elim
 case gq i=>
  have go:∀r,ka ex i r=true->dc c w (.gq r) v->dc (c.out ex rows) w (.gq i) v:=by
   intro r hx hr
   rcases hr with hr|⟨row,g1,gV,g2,hv⟩
   ·exact .inl hr
   ·have hi:=UX hx
    obtain⟨p,hp,q1,q2,q3,q4,q5,q6⟩:=rowOf i r row hi g1
    exact .inr ⟨p,hp,λe=>gV (q6.1 e),by rw[<-q4];exact g2,by rw[hv,q5,q3]⟩
  split at h
  ·exact .inl hr
  ·simp only[dd]at h;exact go _ h.1 hr
  ·simp only[dd,aE]at h
   obtain⟨⟨h1,h2,h3⟩,_⟩:=h
   have e2:=bE h2;have e3:=bE h3
   subst e2;subst e3
   exact go _ h1 (.inr hr)
  ·exact h.elim
 case dead=>exact dc.one hr
 case sl sz es fr=>
  split at h
  ·have h:=ai.oe.1 h;exact⟨none,0,by rw[h];exact hr,by rw[h];exact aX _,.inl h⟩
  ·have h:=ai.oe.1 h;obtain⟨a,hr,_⟩:=hr;exact⟨a,0,by rw[h];exact hr,by rw[h];exact aX _,.inl h⟩
  ·rename_i j9 iW fr'
   simp only[dd,Bool.or_eq_true,bB]at h
   obtain⟨hf,hs,he⟩:=h
   have he:=ai.w9 he
   obtain⟨a,cap,hv,hc,ie⟩:=hr
   rw[he]at hv hc ie
   refine⟨a,cap,hv,hc,?_⟩
   rcases ie with ie|⟨b,off,arr,ty,fz,ha,hI,T8,hh,hE⟩
   ·exact .inl ie
   ·rcases hs with hs|rfl
    ·exact .inl (by rw[<-he];exact ai.oe.1 hs)
    ·exact .inr ⟨b,off,arr,ty,fz,ha,.inl hI,λe=>T8 (by rcases hf with hf|hf<;>simp_all),hh,nq nB _ _ _ _ hE⟩
  ·rename_i r
   split at h
   ·rename_i box ty j9 iW ZV
    simp only[dd,aE,bB]at h
    obtain⟨⟨⟨⟨hb,hs⟩,ho⟩,Jm⟩,Az⟩:=h
    have Az:=ai.w9 Az
    have hs:=bE hs
    have Jm:=lE Jm
    obtain⟨row,g1,g2,hv⟩:=hr
    have:row=⟨box,ty,j9,iW⟩:=by rw[hR,ZV]at g1;exact(Option.some.inj g1).symm
    subst this
    subst hs
    rcases hv with⟨hV,a,hv,_⟩|⟨hV,cap,arr,hv,g3,g4,g5,g6⟩
    ·have he:=(hm.nm g1 hV).2.1
     simp only at he
     rw[he]at Az
     exact⟨a,0,by rw[<-Az];exact hv,by rw[<-Az];exact aX _,.inl Az.symm⟩
    obtain⟨iJ,jE,iU,hx⟩:=hm.real g1 hV
    rw[g5]at jE;cases jE
    simp only[hb,aA,if_false]at hx
    simp only at hv g3 hx
    rw[Az]at hv g3 hx
    exact⟨_,cap,hv,g3,.inr ⟨_,0,arr,_,_,rfl,.inr ⟨r,_,g1,hV,hb,ho,rfl⟩,λ_=>e6 r _ g1 hV Jm,g5,nq nB _ _ _ _ hx⟩⟩
   ·exact h.elim
  ·rename_i r o n
   split at h
   ·rename_i box ty j9 iW ZV
    simp only[dd,aE,bB]at h
    obtain⟨⟨⟨⟨hb,hs⟩,ho⟩,Jm⟩,Az⟩:=h
    have Az:=ai.w9 Az
    rw[ai.iY,ai.kj]at Az
    have hs:=bE hs
    have Jm:=lE Jm
    obtain⟨row,g1,g2,g5,hv⟩:=hr
    have:row=⟨box,ty,j9,iW⟩:=by rw[hR,ZV]at g1;exact(Option.some.inj g1).symm
    subst this
    subst hs
    simp only at g5
    have pC:((iW.l.drop o).take n).length=n:=by simp only[List.length_take,List.length_drop];omega
    rw[Az]at pC
    rcases hv with⟨h0,a,hv,_⟩|⟨hV,cap,arr,g3,g4,g6,hv,g7⟩
    ·subst h0
     have h0:=List.eq_nil_of_length_eq_zero pC
     exact⟨a,0,by rw[pC];exact hv,by omega,.inl h0⟩
    obtain⟨iJ,jE,iU,hx⟩:=hm.real g1 hV
    rw[g6]at jE;cases jE
    simp only[hb,aA,if_false]at hx
    have hE:=LY (n:=n) (J4 (l:=o) hx)
    rw[Az]at hE
    exact⟨_,cap,by rw[pC];exact hv,by omega,.inr ⟨_,o*j9,arr,_,_,rfl,.inr ⟨r,_,g1,hV,hb,ho,rfl⟩,λ_=>e6 r _ g1 hV Jm,g6,nq nB _ _ _ _ (by simpa using hE)⟩⟩
   ·exact h.elim
  ·exact h.elim
 case all i=>
  split at h
  ·rename_i r
   simp only[dd]at h
   obtain⟨row,g1,g2,hv⟩:=hr
   obtain⟨p,k1,k2,k3,k4,k5,k6,k7⟩:=rowOf i r row (UX h.1) g1
   refine⟨p,k1,by rw[<-k2];exact g2,?_⟩
   rcases hv with⟨hV,hv⟩|⟨hV,cap,arr,hv,g3,g4,g5,g6⟩
   ·exact .inl ⟨k7.2 hV,hv⟩
   ·exact .inr ⟨λe=>hV (k7.1 e),cap,arr,by rw[hv,k5,k6],by rw[<-k5];exact g3,g4,by rw[k6,<-k3];exact g5,by rw[<-k4];exact g6⟩
  ·simp only[dd]at h
   exact Nd i none h.1 hr Qy
  ·simp only[dd]at h
   obtain⟨a,hr,ho⟩:=hr
   exact Nd i a h.1 hr ho
  ·exact h.elim
 case own i o n=>
  split at h
  ·rename_i r o' n'
   simp only[dd]at h
   obtain⟨hx,rfl,rfl⟩:=h
   obtain⟨row,g1,g2,g5,hv⟩:=hr
   obtain⟨p,k1,k2,k3,k4,k5,k6,k7⟩:=rowOf i r row (UX hx) g1
   refine⟨p,k1,by rw[<-k2];exact g2,by rw[<-k5];exact g5,?_⟩
   rcases hv with⟨h0,a,hv,jo⟩|⟨hV,cap,arr,g3,g4,g6,hv,g7⟩
   ·exact .inl ⟨h0,a,hv,jo.mono (aX _) k7 k6⟩
   ·exact .inr ⟨λe=>hV (k7.1 e),cap,arr,g3,g4,by rw[k6,<-k3];exact g6,by rw[k6,<-k4];exact hv,by rw[<-k4];exact g7⟩
  ·exact h.elim
theorem Zl3(hm:Mem c w)(hR:∀r,c.R r=R.getD r none)(db:lO ex m R ex rows)(e6:∀r row,c.R r=some row->¬c.V r->m<=r->c.base<=c.ρ r):∀{ds ps:List D} {vs:List Value},Dy ex m R ds ps->jl c w ds vs->jl (c.out ex rows) w ps vs
 |[],[],[],_,_=>trivial
 |[],[],_::_,_,h=>h.elim
 |[],_::_,_,h,_=>h.elim
 |_::_,[],_,h,_=>h.elim
 |_::_,_::_,[],_,h=>h.elim
 |d::ds,p::ps,v::vs,h,hr=>⟨ZU hm hR db e6 h.1 hr.1,Zl3 hm hR db e6 h.2 hr.2⟩
theorem Zpg(hm:Mem c w)(hR:∀r,c.R r=R.getD r none)(db:lO ex m R ex rows)(e6:∀r row,c.R r=some row->¬c.V r->m<=r->c.base<=c.ρ r){d p:D}(h:o6 ex m R d p)(hr:VRep c w d v):VRep (c.out ex rows) w p v:=by
 cases p with
 |agg ps=>
  simp only[o6]at h
  cases d<;>simp only at h
  obtain⟨vs,hv,hx⟩:=hr
  exact⟨vs,hv,Zl3 hm hR db e6 h hx⟩
 |_=>
  simp only[o6]at h
  refine VRep.Ei (ZU hm hR db e6 h (VRep.toC ?_ hr))
  intro cs e
  subst e
  simp[iL,cu,D.Hj]at h
theorem Zij(hm:Mem c w)(hR:∀r,c.R r=R.getD r none)(db:lO ex m R ex rows)(e6:∀r row,c.R r=some row->¬c.V r->m<=r->c.base<=c.ρ r):∀{ds ps:List D} {vs:List Value},wc ex m R ds ps->kg c w ds vs->kg (c.out ex rows) w ps vs
 |[],[],[],_,_=>trivial
 |[],[],_::_,_,h=>h.elim
 |[],_::_,_,h,_=>h.elim
 |_::_,[],_,h,_=>h.elim
 |_::_,_::_,[],_,h=>h.elim
 |d::ds,p::ps,v::vs,h,hr=>⟨Zpg hm hR db e6 h.1 hr.1,Zij hm hR db e6 h.2 hr.2⟩
theorem SG(hm:Mem c w)(hR:∀r,c.R r=R.getD r none)(db:lO ex m R ex rows)(e6:∀r row,c.R r=some row->¬c.V r->m<=r->c.base<=c.ρ r){d p:D}(h:sn ex m R d p)(hr:Rep c w d v):Rep (c.out ex rows) w p v:=by
 cases p with
 |dw ps=>
  simp only[sn]at h
  cases d<;>simp only at h
  obtain⟨vs,hv,hx⟩:=hr
  exact⟨vs,hv,Zij hm hR db e6 h hx⟩
 |dead=>trivial
 |_=>
  simp only[sn]at h
  refine Rep.J9 (Zpg hm hR db e6 h (Rep.toV ?_ ?_ hr))
  ·intro ds e;subst e;simp[o6,iL]at h
  ·intro e;subst e;simp[o6,iL]at h
theorem Z6k(hm:Mem c w)(hR:∀r,c.R r=R.getD r none)(db:lO ex m R ex rows)(e6:∀r row,c.R r=some row->¬c.V r->m<=r->c.base<=c.ρ r):∀{ds ps:List D} {arr:Array Value} {off:Nat},Dy ex m R ds ps->kJ c w ds arr off->kJ (c.out ex rows) w ps arr off
 |[],[],_,_,_,_=>trivial
 |[],_::_,_,_,h,_=>h.elim
 |_::_,[],_,_,h,_=>h.elim
 |d::ds,p::ps,arr,off,h,hr=>⟨by obtain⟨⟨v,hv,hx⟩,_⟩:=hr;exact⟨v,hv,ZU hm hR db e6 h.1 hx⟩,Z6k hm hR db e6 h.2 hr.2⟩
theorem Z1x:∀{ds ps:List D},Dy ex m R ds ps->ds.length=ps.length
 |[],[],_=>rfl
 |[],_::_,h=>h.elim
 |_::_,[],h=>h.elim
 |_::_,_::_,h=>by simp[Z1x h.2]
theorem qav(hm:Mem c w)(hR:∀r,c.R r=R.getD r none)(db:lO ex m R ex rows)(e6:∀r row,c.R r=some row->¬c.V r->m<=r->c.base<=c.ρ r)(kQ:ex.Nodup):Mem (c.out ex rows) w:=by
 have nB:∀b,c.I b->(c.out ex rows).I b/\w.heap[b]?=w.heap[b]? :=λb hb=>⟨.inl hb,rfl⟩
 obtain⟨hl,iw⟩:=QA db
 have inv:∀i p,(c.out ex rows).R i=some p->∃r,ex[i]?=some r/\(c.out ex rows).ρ i=c.ρ r/\((∃row,c.R r=some row/\row.box=p.box/\row.ty=p.ty/\row.sz=p.sz/\((c.out ex rows).V i↔c.V r)/\(if p.box then∃e e',row.es=.gen [e]/\p.es=.gen [e']/\Dy ex m R e e' else row.es.l=p.es.l))\/((c.out ex rows).V i/\p.box=false/\p.es.l=[]/\0<p.sz)):=by
  intro i p hp
  have QB:rows[i]?=some p:=hp
  have bh:=(List.getElem?_eq_some_iff.1 QB).1
  have hi:ex[i]?=some ex[i]:=aI (by omega)
  refine⟨_,hi,by simp[Ctx.out,hi],?_⟩
  rcases iw i _ p hi QB with⟨row,g1,g2,g3,g4,g5⟩|⟨g1,g2⟩
  ·have cz:c.R ex[i]=some row:=by rw[hR];exact g1
   exact .inl ⟨row,cz,g2,g3,g4,by simp[Ctx.out,hi,cz],g5⟩
  ·exact .inr ⟨by simp only[Ctx.out,hi];exact .inl (by rw[hR];exact g1),g2⟩
 refine⟨λi p hp=>?_,λi j p q hp hq v1 v2 he=>?_,λb hb=>?_,hm.top,hm.jZ.mono nB⟩
 ·obtain⟨r,g1,g6,⟨row,g2,g3,g4,g5,gV,g7⟩|⟨gV,g2⟩⟩:=inv i p hp
  ·rcases hm.row r row g2 with⟨h0,h1,h2,h3⟩|⟨h0,arr,ha,hs,hx⟩
   ·refine .inl ⟨gV.2 h0,by rw[<-g3];exact h1,?_,by rw[<-g5];exact h3⟩
    rw[if_neg (by rw[<-g3,h1];simp)]at g7
    rw[<-g7];exact h2
   refine .inr ⟨λe=>h0 (gV.1 e),arr,by rw[g6,<-g4];exact ha,by rw[<-g5];exact hs,?_⟩
   split
   ·rename_i hb
    rw[if_pos hb]at g7
    rw[if_pos (g3.trans hb)]at hx
    obtain⟨e,e',k1,k2,k3⟩:=g7
    obtain⟨e0,q1,q2,q3,q4⟩:=hx
    rw[k1]at q1;cases q1
    exact⟨e',k2,by rw[<-Z1x k3,<-g5];exact q2,by rw[<-g5];exact q3,Z6k hm hR db e6 k3 q4⟩
   ·rename_i hb
    rw[if_neg hb]at g7
    rw[if_neg (by rw[g3];exact hb)]at hx
    rw[<-g7,<-g5]
    exact nq nB _ _ _ _ hx
  ·exact .inl ⟨gV,g2⟩
 ·obtain⟨r,g1,g6,⟨row,g2,_,_,_,gV,_⟩|⟨gV,_⟩⟩:=inv i p hp
  ·obtain⟨s,k1,k6,⟨ao,k2,_,_,_,kV,_⟩|⟨kV,_⟩⟩:=inv j q hq
   ·rw[g6,k6]at he
    have:r=s:=hm.inj r s _ _ g2 k2 (λe=>v1 (gV.2 e)) (λe=>v2 (kV.2 e)) he
    subst this
    exact(List.getElem?_inj (List.getElem?_eq_some_iff.1 g1).1 kQ).1 (g1.trans k1.symm)
   ·exact(v2 kV).elim
  ·exact(v1 gV).elim
 ·rcases hb with hb|⟨r,row,hr,hV,wC,ho,rfl⟩
  ·refine⟨(hm.fg b hb).1,λi p hp v=>?_⟩
   obtain⟨r,g1,g6,⟨row,g2,_,_,_,gV,_⟩|⟨gV,_⟩⟩:=inv i p hp
   ·rw[g6]
    exact(hm.fg b hb).2 r row g2 (λe=>v (gV.2 e))
   ·exact(v gV).elim
  ·refine⟨hm.lt hr hV,λi p hp v=>?_⟩
   obtain⟨s,g1,g6,⟨ao,g2,_,_,_,gV,_⟩|⟨gV,_⟩⟩:=inv i p hp
   ·rw[g6]
    intro e
    have:=hm.inj s r _ _ g2 hr (λe=>v (gV.2 e)) hV e
    subst this
    exact Zc ho (fN g1)
   ·exact(v gV).elim
end
theorem Zr0:∀{l m:List Nat},Mi l m=true->l=m
 |[],[],_=>rfl
 |x::l,y::m,h=>by
  simp only[Mi,aE]at h
  rw[bE h.1,Zr0 h.2]
 |[],_::_,h=>by cases h
 |_::_,[],h=>by cases h
theorem zav(h:so M ex=true):ex.Nodup/\(∀i,i<M->ex[i]?=some i)/\∀i r,ex[i]?=some r->(i=r/\i<M)\/M<=r:=by
 unfold so at h
 simp only[aE]at h
 obtain⟨⟨h1,h2⟩,h3⟩:=h
 replace h1:=Zr0 h1
 replace h2:∀r∈ex.drop M,M<=r:=λr hr=>lE (List.all_eq_true.1 h2 r hr)
 replace h3:=L3.1 h3
 have he:ex=cW M++ex.drop M:=by rw[<-h1,List.take_append_drop]
 generalize hq:ex.drop M=q at he h2 h3
 subst he
 refine⟨?_,λi hi=>by rw[bI (by simpa using hi)];simp[hi],λi r hr=>?_⟩
 ·rw[List.nodup_append]
  exact⟨List.nodup_range,h3,λx hx y hy=>by simp at hx;have:=h2 y hy;omega⟩
 ·by_cases bh:i<M
  ·rw[bI (by simpa using bh)]at hr
   simp[bh]at hr
   exact .inl ⟨hr,bh⟩
  ·rw[List.getElem?_append_right (by simpa using bh)]at hr
   exact .inr (h2 r (fN hr))
theorem SH{c0:Ctx}{c:Ctx}(hs:fi N M c0 w0 c w st a){aj:List Row}(hex:so M ex=true)(db:lO ex M st.rows ex aj):
 (∀r row,c.R r=some row->¬c.V r->M<=r->c.base<=c.ρ r)/\Mem (c.out ex aj) w/\wW c0 w0 (c.out ex aj) w:=by
 obtain⟨kQ,hid,hinv⟩:=zav hex
 obtain⟨hl,iw⟩:=QA db
 have Bb:c.base=c0.base:=hs.reach.cy.base
 have CP:∀r row,c.R r=some row->¬c.V r->M<=r->c0.X (c.ρ r)\/w0.heap.size<=c.ρ r:=λr row h1 v h2=>by
  rcases hs.reach.ob r row h1 v with⟨⟨x,hx⟩,_⟩|h3
  ·have:=hs.gv r x hx;omega
  ·exact h3
 have e6:∀r row,c.R r=some row->¬c.V r->M<=r->c.base<=c.ρ r:=λr row h1 v h2=>by
  have:=hs.fx
  rcases CP r row h1 v h2 with h|h
  ·have:=hs.reach.xb _ h;omega
  ·omega
 refine⟨e6,qav hs.mem hs.rows db e6 kQ,⟨hs.reach.cy.base,hs.reach.cy.top,λb ij=>?_,λr row hr=>?_⟩,hs.reach.fr,λb ij=>?_,λi p hp v=>?_,hs.reach.xb⟩
 ·obtain⟨h1,h2⟩:=hs.reach.cy.I b ij
  exact⟨.inl h1,h2⟩
 ·have bh:r<M:=hs.gv r row hr
  obtain⟨QC,g1,g2,g3,g4,g5,g6,gV,g7⟩:=hs.reach.cy.R r row hr
  have hi:=hid r bh
  have mL:=(List.getElem?_eq_some_iff.1 hi).1
  have hp:aj[r]?=some aj[r]:=aI (by omega)
  rcases iw r r _ hi hp with⟨jC,k1,k2,k3,k4,k5⟩|⟨k1,_⟩
  ·have:jC=QC:=by rw[hs.rows,k1]at g1;exact Option.some.inj g1
   subst this
   refine⟨_,hp,k2.symm.trans g2,k3.symm.trans g3,k4.symm.trans g4,?_,by simp[Ctx.out,hi,g6],by simp[Ctx.out,hi,g1,gV],g7⟩
   rw[<-g5]
   split at k5
   ·obtain⟨e,e',q1,q2,_⟩:=k5
    rw[q1,q2];rfl
   ·rw[k5]
  ·rw[hs.rows,k1]at g1;cases g1
 ·rcases ij with h1|⟨r,row,hr,hV,wC,ho,rfl⟩
  ·exact hs.reach.fg b h1
  ·refine .inr ?_
   have:M<=r:=by
    by_cases bh:r<M
    ·exact(Zc ho (fN (hid r bh))).elim
    ·omega
   exact CP r row hr hV this
 ·have QB:aj[i]?=some p:=hp
  have bh:=(List.getElem?_eq_some_iff.1 QB).1
  have hi:ex[i]?=some ex[i]:=aI (by omega)
  simp only[Ctx.out,hi,not_or]at v⊢
  obtain⟨v1,v2⟩:=v
  rcases iw i _ _ hi QB with⟨jC,k1,k2,k3,k4,k5⟩|⟨k1,_⟩
  ·have Hk:c.R ex[i]=some jC:=by rw[hs.rows];exact k1
   rcases hinv i _ hi with⟨h1,h2⟩|h1
   ·rcases hs.reach.ob _ _ Hk v2 with⟨h3,h4,h5⟩|h3
    ·left
     rw[<-h1]at h3 h4
     refine⟨h3,h4,h5.trans ?_⟩
     rw[<-h1]
    ·exact .inr h3
   ·exact .inr (CP _ _ Hk v2 h1)
  ·exact(v1 (by rw[hs.rows];exact k1)).elim
theorem WA:∀{env:List (Nat×D)} {t k:Nat},k∈CC (look env t)->k∈Aa env
 |[],t,k,h=>by simp[look,CC,Fe,Aq]at h
 |(u,d)::l,t,k,h=>by
  rw[AK]at h
  simp only[Aa,cB]
  split at h
  ·exact .inl h
  ·exact .inr (WA h)
theorem WB:∀{R:Rows} {r:Nat} {x:Row} {k:Nat},R.getD r none=some x->k∈kH [x]->k∈Gf R
 |some y::l,0,x,k,h,hk=>by
  simp at h;subst h
  simp only[Gf,cB];exact .inl hk
 |none::l,0,x,k,h,hk=>by simp at h
 |y::l,r+1,x,k,h,hk=>by
  have:=WB (R:=l) (r:=r) (by simpa[aV]using h) hk
  cases y<;>simp[Gf,this]
 |[],r,x,k,h,_=>by simp[aV]at h
theorem VRep.toRep{c:Ctx}{d:D}(h:VRep c w d v):Rep c w d v:=by
 cases d<;>first|exact h|trivial|exact h.elim
theorem Rep.toVRep{c:Ctx}{d:D}(hv:d.isVal=true)(h:Rep c w d v):VRep c w d v:=by
 cases d<;>first|exact h|(simp[D.isVal]at hv)
theorem kg.length{c:Ctx}{w:World}:∀{ds:List D} {vs:List Value},kg c w ds vs->ds.length=vs.length
 |[],[],_=>rfl
 |_::_,_::_,h=>by simp[kg.length h.2]
 |[],_::_,h=>h.elim
 |_::_,[],h=>h.elim
theorem Z5h:∀{ds:List D} {i t:Nat},(∃j,t=i+j/\j<ds.length/\look (Fu ds i) t=ds.getD j .dead)\/look (Fu ds i) t=.dead
 |[],i,t=>.inr rfl
 |d ::ds,i,t=>by
  simp only[Fu,AK]
  by_cases e:i=t
  ·left;exact⟨0,by omega,by simp,by rw[if_pos e];rfl⟩
  ·rw[if_neg e]
   rcases Z5h (ds:=ds) (i:=i+1) (t:=t)with⟨j,h1,h2,h3⟩|h
   ·left;exact⟨j+1,by omega,by simpa using h2,by simpa using h3⟩
   ·right;exact h
theorem Zpt{c:Ctx}{ds:List D}(h:kg c w ds vs)(n t:Nat):Rep c w (look (Fu ds 0) t) ((vs.toArray++gH n undef).getD t undef):=by
 rcases Z5h (ds:=ds) (i:=0) (t:=t)with⟨j,h1,h2,h3⟩|h1
 ·obtain⟨v,hv,hr⟩:=Y9 h j h2
  rw[h3]
  have:t=j:=by omega
  subst this
  have hx:(vs.toArray++gH n undef).getD t undef=v:=by
   have bh:=(List.getElem?_eq_some_iff.1 hv).1
   have hvv:=(List.getElem?_eq_some_iff.1 hv).2
   simp[Array.getElem?_append,bh,hvv]
  rw[hx]
  exact hr.toRep
 ·rw[h1];trivial
theorem Zs5{t:TypeId}{x:D}{K:D->Rows->Prop}(h:wH T t x R K){c:Ctx}(hr:Rep c w x v):∃a,v=.pointer (some a):=by
 unfold wH at h
 split at h
 ·exact h.elim
 ·cases x<;>simp only at h
  case ptr r i off=>obtain⟨_,_,_,_,hv⟩:=hr;exact⟨_,hv⟩
  case pa r i off len k n=>obtain⟨_,_,_,_,_,hv⟩:=hr;exact⟨_,hv⟩
  case iu sz es i off=>obtain⟨_,_,_,_,_,hv,_⟩:=hr;exact⟨_,hv⟩
def Mj(tmps:Array Value):ResultVar->Sem Value
 |.tmp t=>pure (tmps.getD t undef)
 |.cell a t=>do loadVar t (<-asAddr (tmps.getD a undef))
theorem UY{P:Program}{T:iy}(hT:Q4 P T){R:Rows}{env:List (Nat×D)}:∀{l:List ResultVar} {K:List D->Prop},Fv T R env l K->
 ∃ds,K ds/\∀c w (tmps:Array Value),Mem c w->mf c R->(∀t,Rep c w (look env t) (tmps.getD t undef))->∃vs,(l.mapM (Mj tmps)).run P w=.ok vs w/\kg c w ds vs
 |[],K,h=>⟨[],h,λc w tmps _ _ _=>⟨[],rfl,trivial⟩⟩
 |.tmp t::l,K,h=>by
  simp only[Fv,D.c7,dd]at h
  obtain⟨hv,h⟩:=h
  obtain⟨ds,hK,hr⟩:=UY hT h
  refine⟨_,hK,λc w tmps hm hA he=>?_⟩
  obtain⟨vs,h1,h2⟩:=hr c w tmps hm hA he
  refine⟨tmps.getD t undef::vs,?_,(he t).toVRep hv,h2⟩
  simp only[gI,Sem.run_bind,Mj,Sem.run_pure,Result.andThen_ok,h1]
 |.cell a t::l,K,h=>by
  simp only[Fv]at h
  obtain⟨val,UZ,Dr⟩:=Zi1 hT h
  simp only[dd]at UZ
  obtain⟨hv,UZ⟩:=UZ
  obtain⟨ds,hK,hr⟩:=UY hT UZ
  refine⟨_,hK,λc w tmps hm hA he=>?_⟩
  obtain⟨vs,h1,h2⟩:=hr c w tmps hm hA he
  obtain⟨u,hu,hx⟩:=Dr c w _ hm hA (he a)
  obtain⟨ad,had⟩:=Zs5 h (he a)
  rw[had,UH]at hu
  refine⟨u::vs,?_,hx.toVRep hv,h2⟩
  simp only[gI,Sem.run_bind,Mj,had,asAddr,Sem.run_pure,Result.andThen_ok,hu,h1]
def CQ:List Value->Value
 |[v]=>v
 |vs=>.tuple vs.toArray
theorem Z97{tmps:Array Value}(h:(fn.results.toList.mapM (Mj tmps)).run P w=.ok vs w):(results fn tmps).run P w=.ok (CQ vs) w:=by
 have h2:(fn.results.mapM (Mj tmps)).run P w=.ok vs.toArray w:=by
  rw[<-bW (xs:=fn.results),List.mapM_toArray]
  simp only[Sem.run_map,h,Result.andThen_ok]
 have h3:(results fn tmps)=(fn.results.mapM (Mj tmps))>>=λvs=>pure (if h:vs.size=1 then vs[0]else .tuple vs):=by
  unfold results
  congr 1
 rw[h3,Sem.run_bind,h2]
 simp only[Result.andThen_ok,Sem.run_pure]
 congr 1
 match vs with
 |[]=>rfl
 |[v]=>rfl
 |_::_::_=>rfl
theorem fi.M8{c0:Ctx}{c:Ctx}(hs:fi N M c0 w0 c w st a){b:Nat}(hb:w0.heap.size<=b){o o':Obj}(ho:w.heap[b]?=some o)(hc:∀arr ty fz,o≠.cells arr ty fz)
 {Fk:Nat->Prop} (gF:∀k ws v,Fk k->rP c w k ws v->rP {c with I:=λx=>c.I x/\x≠b} (w.putObj b o') k ws v) (hE:∀t,∀k∈CC (look st.env t),Fk k) (hR:∀r x,c.R r=some x->∀k∈kH [x],Fk k) {ds:List Deferred} (hd:lX w0.heap.size (w.putObj b o') ds):
 fi N M c0 w0 {c with I:=λx=>c.I x/\x≠b} (w.putObj b o') st {a with defers:=ds}:=by
 have cz:∀r x,c.R r=some x->¬c.V r->c.ρ r≠b:=λr x hr hV e=>by
  rcases hs.mem.row r x hr with h|⟨_,arr,h,_⟩
  ·exact hV h.1
  ·rw[e,ho]at h;exact hc _ _ _ (Option.some.inj h)
 have hh:∀r x,c.R r=some x->¬c.V r->(w.putObj b o').heap[c.ρ r]?=w.heap[c.ρ r]? :=λr x hr hV=>World.putObj_heap_other (cz r x hr hV)
 have hg:Je c w {c with I:=λx=>c.I x/\x≠b} (w.putObj b o'):=by
  refine⟨rfl,aX _,λx arr ty fz hI hx=>?_,λr x hr=>⟨x,hr,rfl,rfl,rfl,rfl,rfl,Iff.rfl,λhV arr ha=>⟨arr,(hh r x hr hV).trans ha,rfl⟩⟩⟩
  have gu:x≠b:=λe=>by subst e;rw[ho]at hx;exact hc _ _ _ (Option.some.inj hx)
  exact⟨⟨hI,gu⟩,(World.putObj_heap_other gu).trans hx⟩
 have jF:∀x,c0.I x->x≠b:=λx hx e=>by
  obtain⟨h1,h2⟩:=hs.reach.cy.I x hx
  have h3:=(hs.mem.fg x h1).1
  rw[e,ho]at h2
  have:=(Array.getElem?_eq_some_iff.1 h2.symm).1
  omega
 refine⟨Y6 hs.mem hg hh gF hR (λx hx=>⟨by simpa using(hs.mem.fg x hx.1).1,(hs.mem.fg x hx.1).2⟩) (by simp),hs.rows,λt=>Zr1 hg gF (hE t) (hs.env t),hs.size,hd,hs.fx,hs.gv,?_⟩
 refine⟨⟨hs.reach.cy.base,hs.reach.cy.top,λx hx=>?_,λr row hr=>?_⟩,⟨hs.reach.fr.os,hs.reach.fr.tape,hs.reach.fr.output,by simpa using hs.reach.fr.size,λx hx hn=>?_⟩,λx hx=>hs.reach.fg x hx.1,hs.reach.ob,hs.reach.xb⟩
 ·obtain⟨h1,h2⟩:=hs.reach.cy.I x hx
  exact⟨⟨h1,jF x hx⟩,(World.putObj_heap_other (jF x hx)).trans h2⟩
 ·obtain⟨ao,h1,h2,h3,h4,h5,h6,hV,h7⟩:=hs.reach.cy.R r row hr
  refine⟨ao,h1,h2,h3,h4,h5,h6,hV,λnv arr ha=>?_⟩
  obtain⟨iJ,g1,g2⟩:=h7 nv arr ha
  refine⟨iJ,?_,g2⟩
  rw[World.putObj_heap_other]
  ·exact g1
  ·intro e;rw[e,ho]at g1;exact hc _ _ _ (Option.some.inj g1)
 ·rw[World.putObj_heap_other (by omega)];exact hs.reach.fr.heap x hx hn
theorem fi.edit{c0:Ctx}{c:Ctx}(hs:fi N M c0 w0 c w st a)(hI:c0.I l){rec:Loop}(ho:w0.heap[l]?=some (.loop rec))(CR:∀r x,c0.R r=some x->¬c0.V r->c0.ρ r≠l)
 (mZ:pZ (Aa st.env++Gf st.rows)=true):fi N M {c0 with I:=λx=>c0.I x/\x≠l} (w0.putObj l o') {c with I:=λx=>c.I x/\x≠l} (w.putObj l o') st a:=by
 have hl:w.heap[l]?=some (.loop rec):=(hs.reach.cy.I l hI).2.trans ho
 have ZW:=(Array.getElem?_eq_some_iff.1 ho).1
 have bh:=(Array.getElem?_eq_some_iff.1 hl).1
 have cz:∀r x,c.R r=some x->¬c.V r->c.ρ r≠l:=λr x hr hV=>(hs.mem.fg l (hs.reach.cy.I l hI).1).2 r x hr hV
 have hh:∀r x,c.R r=some x->¬c.V r->(w.putObj l o').heap[c.ρ r]?=w.heap[c.ρ r]? :=λr x hr hV=>World.putObj_heap_other (cz r x hr hV)
 have gF:∀k ws v,k<YB->rP c w k ws v->rP {c with I:=λx=>c.I x/\x≠l} (w.putObj l o') k ws v:=λk ws v hk hv=>by
  rcases hv with hv|⟨hv,_⟩
  ·exact .inl hv
  ·omega
 have hg:Je c w {c with I:=λx=>c.I x/\x≠l} (w.putObj l o'):=by
  refine⟨rfl,aX _,λx arr ty fz hI hx=>?_,λr x hr=>⟨x,hr,rfl,rfl,rfl,rfl,rfl,Iff.rfl,λhV arr ha=>⟨arr,(hh r x hr hV).trans ha,rfl⟩⟩⟩
  have gu:x≠l:=λe=>by subst e;rw[hl]at hx;cases hx
  exact⟨⟨hI,gu⟩,(World.putObj_heap_other gu).trans hx⟩
 refine⟨Y6 hs.mem hg hh gF (λr x hr k hk=>M9 mZ (eY _ (WB (by rw[<-hs.rows];exact hr) hk))) (λx hx=>⟨by simpa using(hs.mem.fg x hx.1).1,(hs.mem.fg x hx.1).2⟩) (by simp),hs.rows,λt=>Zr1 hg gF (λk hk=>M9 mZ (eT _ (WA hk))) (hs.env t),hs.size,?_,by simpa using hs.fx,hs.gv,?_⟩
 ·have:=hs.defers.to (w':=w.putObj l o') λb hb=>(World.putObj_heap_other λe=>by rw[e,hl]at hb;cases hb).trans hb
  simpa using this
 refine⟨⟨hs.reach.cy.base,hs.reach.cy.top,λx hx=>?_,λr row hr=>?_⟩,⟨hs.reach.fr.os,hs.reach.fr.tape,hs.reach.fr.output,by simpa using hs.reach.fr.size,λx hx hn=>?_⟩,λx hx=>?_,λr row hr hv=>?_,hs.reach.xb⟩
 ·obtain⟨h1,h2⟩:=hs.reach.cy.I x hx.1
  exact⟨⟨h1,hx.2⟩,(World.putObj_heap_other hx.2).trans (h2.trans (World.putObj_heap_other hx.2).symm)⟩
 ·obtain⟨ao,h1,h2,h3,h4,h5,h6,hV,h7⟩:=hs.reach.cy.R r row hr
  refine⟨ao,h1,h2,h3,h4,h5,h6,hV,λnv arr ha=>?_⟩
  rw[World.putObj_heap_other (CR r row hr nv)]at ha
  obtain⟨iJ,g1,g2⟩:=h7 nv arr ha
  refine⟨iJ,?_,g2⟩
  rw[World.putObj_heap_other]
  ·exact g1
  ·intro e;rw[e,hl]at g1;cases g1
 ·by_cases e:x=l
  ·subst e;rw[World.putObj_heap_same bh,World.putObj_heap_same ZW]
  ·rw[World.putObj_heap_other e,World.putObj_heap_other e]
   exact hs.reach.fr.heap x (by simpa using hx) hn
 ·rcases hs.reach.fg x hx.1 with g|g|g
  ·exact .inl ⟨g,hx.2⟩
  ·exact .inr (.inl g)
  ·exact .inr (.inr (by simpa using g))
 ·rcases hs.reach.ob r row hr hv with g|g|g
  ·exact .inl g
  ·exact .inr (.inl g)
  ·exact .inr (.inr (by simpa using g))
theorem leaves{P:Program}{fn:Func}{R:Ending->World->Prop}{N M:Nat}{c0:Ctx}{w0:World}{c:Ctx}{w:World}{st:St}{a:Act}(hs:fi N M c0 w0 c w st a)
 (h:∀c' w' a',a'.tmps=a.tmps->fi N M c0 w0 c' w' st a'->∃v,(results fn a'.tmps).run P w'=.ok v w'/\R (.returned v) w'):LeavesInM Fence.wide 0 P fn a.tmps R a.defers .returning w:=by
 obtain⟨bs,kQ,DW,U0⟩:=hs.defers
 revert c w a
 induction bs with
 |nil=>
  intro c w a hs h DW U0
  rw[DW]
  obtain⟨v,h1,h2⟩:=h c w a rfl hs
  exact⟨v,h1,h2⟩
 |cons b bs ih=>
  intro c w a hs h DW U0
  obtain⟨h1,h2⟩:=U0 b (by simp)
  rw[List.nodup_cons]at kQ
  rw[DW]
  refine⟨by simp,.inl ⟨b,_,rfl,run_takeDeferred h2,?_⟩⟩
  have QD:∀x∈bs,w0.heap.size<=x/\(w.putObj b (.deferred none)).heap[x]?=some (.deferred (some [])):=λx hx=>by
   obtain⟨g1,g2⟩:=U0 x (by simp[hx])
   exact⟨g1,(World.putObj_heap_other (λe=>kQ.1 (by rw[<-e];exact hx))).trans g2⟩
  refine ih kQ.2 (a:={a with defers:=bs.map λb=>({target:=.collected b,args:= #[]}:Deferred)}) (hs.M8 h1 h2 (λ_ _ _ e=>by cases e) (Fk:=λ_=>True) (λk ws v _ hv=>?_) (λ_ _ _=>trivial) (λ_ _ _ _ _=>trivial) ⟨bs,kQ.2,rfl,QD⟩) h rfl QD
  rcases hv with hv|⟨g1,l,rec,g2,g3,g4,g5⟩
  ·exact .inl hv
  ·have gu:l≠b:=λe=>by rw[e,h2]at g4;cases g4
   exact .inr ⟨g1,l,rec,g2,⟨g3,gu⟩,(World.putObj_heap_other gu).trans g4,g5⟩
theorem zw(hD:pA P)(hT:Q4 P T)(hG:jD P G)(hf:P.funcs[f]?=some fn){args:List D}{rows:List Row}{res:D}{aj:List Row}
 {rf:Option Nat} (mH:∀code,fn.body=some code->RF rf fn.ntmps code) {L:Code->St->(Ex->St->Prop)->Prop} (hL:∀code st Q,RF rf fn.ntmps code->L code st Q->Tr P fn.ntmps rows.length code st Q) {Q0:D->Rows->Prop} (CS:∀d R,Q0 d R->Ae rows.length res aj d R) (h:kh T G L fn args rows Q0):ku P f args rows res aj:=by
 intro c w vs hm jh hR fu
 unfold kh at h
 split at h
 ·rename_i code hb
  have hs:fi fn.ntmps rows.length {c with X:=λ_=>False} w c w ⟨Fu args 0,rows.map some⟩ {tmps:=vs.toArray++gH (fn.ntmps-vs.toArray.size) undef,defers:=[]}:=
   ⟨hm,λr=>by
    rw[hR]
    simp only[aV,gJ]
    cases rows[r]? <;>rfl,λt=>Zpt fu _ t,by simp;omega,lX.nil,Nat.le_of_eq jh,λr row h=>by have h:c.R r=some row:=h;rw[hR]at h;exact(List.getElem?_eq_some_iff.1 h).1,wW.refl c w⟩
  refine callsIn_wide.1 (callsIn_of_wp_marks (F:=Fence.wide) (n:=0) hf hb trivial (wpIn_mono (Na (ro:=none) hD hT hG (Nb rf fn.ntmps) hL code _ _ (mH _ hb) h _ w c w _ hs) λe a' w' hq=>?_))
  obtain⟨ex,st,c1,he,hq,lK⟩:=hq
  have fin:(Fv T st.rows st.env fn.results.toList λds=>match ds with|[d]=>Q0 d st.rows|ds=>Q0 (.dw ds) st.rows)->
   LeavesInM Fence.wide 0 P fn a'.tmps (λe w'=>∃v' c',e=.returned v'/\lL c w c' w'/\(∀r,c'.R r=aj[r]?)/\Rep c' w' res v') a'.defers .returning w':=by
   intro kL
   refine leaves lK λc1 w' a' jE lK=>?_
   obtain⟨ds,hK,hr⟩:=UY hT kL
   have oW:mf c1 st.rows:=λr row ao h1 h2=>by rw[lK.rows,h2]at h1;exact(Option.some.inj h1).symm
   obtain⟨us,il,CU⟩:=hr c1 w' a'.tmps lK.mem oW lK.env
   have sR:=Z97 il
   obtain⟨d,v,Jn,hv,oq⟩:∃d v,Ae rows.length res aj d st.rows/\CQ us=v/\Rep c1 w' d v:=by
    match ds,us,CU with
    |[d],[u],hx=>exact⟨d,u,CS _ _ hK,rfl,hx.1.toRep⟩
    |[],[],hx=>exact⟨.dw [],_,CS _ _ hK,rfl,[],rfl,trivial⟩
    |d::e::ds,u::v::us,hx=>exact⟨.dw (d::e::ds),_,CS _ _ hK,rfl,_,rfl,hx⟩
    |[],_::_,hx=>exact hx.elim
    |[_],[],hx=>exact hx.elim
    |[_],_::_::_,hx=>exact hx.2.elim
    |_::_::_,[],hx=>exact hx.elim
    |_::_::_,[_],hx=>exact hx.2.elim
   rw[hv]at sR
   obtain⟨ex,hex,hd,db⟩:=Jn
   obtain⟨e6,je,fw⟩:=SH lK hex db
   exact⟨v,sR,v,c1.out _ aj,rfl,⟨je,⟨fw.cy.base,fw.cy.top,fw.cy.I,fw.cy.R⟩,fw.fr.mono (λb _ hb=>hb.elim id False.elim),λb hb=>(fw.fg b hb).imp id (λh=>h.elim False.elim id),λr ao h1 h2=>(fw.ob r ao h1 h2).imp id (λh=>h.elim False.elim id)⟩,λr=>rfl,SG lK.mem lK.rows db e6 hd oq⟩
  cases e<;>simp only[mN,Option.some.injEq,reduceCtorEq]at he
  ·subst he;exact fin hq
  ·subst he;exact hq.elim
  ·subst he;exact fin hq
 ·exact h.elim
theorem qaa{rows:List Row}{c:Ctx}{c':Ctx}{w':World}(je:Mem c' w')(fw:wW {c.kill (bO k (rows.length-k))with X:=λb=>∃s row,da s (bO k (rows.length-k))=true/\c.R s=some row/\¬c.V s/\c.ρ s=b} w c' w'):
 jN (bO k (rows.length-k)) c w c' w':=by
 refine⟨je,⟨fw.cy.base,fw.cy.top,fw.cy.I,fw.cy.R⟩,fw.fr.mono (λb _ hb=>?_),λb hb=>fw.fg b hb,λr ao h1 h2=>?_⟩
 ·rcases hb with⟨r,x,h1,h2,h3⟩|⟨r,x,_,h1,h2,h3⟩
  ·obtain⟨_,row,g1,_⟩:=na (c:=c) (ks:=bO k (rows.length-k)) h1
   exact⟨r,row,g1,h2,h3⟩
  ·exact⟨r,x,h1,h2,h3⟩
 ·rcases fw.ob r ao h1 h2 with⟨⟨x,g1⟩,g2,g3⟩|⟨s,x,q1,q2,q3,q4⟩|g
  ·obtain⟨_,row,p1,_⟩:=na (c:=c) (ks:=bO k (rows.length-k)) g1
   exact .inl ⟨⟨row,p1⟩,g2,g3⟩
  ·exact .inr (.inl ⟨s,x,q1,q2,q3,q4.symm⟩)
  ·exact .inr (.inr g)
theorem Zpv:∀{rows:List Row} {r:Nat} {x:Row} {k:Nat},rows[r]?=some x->k∈kH [x]->k∈kH rows
 |y::l,0,x,k,h,hk=>by
  simp at h;subst h
  unfold kH at hk⊢
  split<;>simp_all [kH]
 |y::l,r+1,x,k,h,hk=>by
  have:=Zpv (rows:=l) (by simpa using h) hk
  unfold kH
  split<;>simp_all
 |[],r,x,k,h,_=>by simp at h
theorem Zqh{c:Ctx}{w:World}{tm oQ:Array Value}:∀{ts:List Nat} {ds:List D},kg c w ds (ts.map λt=>tm.getD t undef)->(∀t∈ts,oQ.getD t undef=tm.getD t undef)->∀t,Rep c w (look (ow ts ds) t) (oQ.getD t undef)
 |[],ds,_,_,t=>by cases ds<;>trivial
 |u::ts,[],h,_,t=>h.elim
 |u::ts,d::ds,h,ht,t=>by
  simp only[ow,AK]
  split
  ·rename_i e;rw[<-e,ht u (by simp)];exact h.1.toRep
  ·exact Zqh h.2 (λt h=>ht t (by simp[h])) t
theorem yw{F:Fence}{y:YK}(hd:y.pos=some d){x:Value}(hn:y.n<=tm.size){K:Act->World->Prop}
 (hK:∀oQ,oQ.size=tm.size->oQ.getD d undef=x->(∀t∈y.ts,oQ.getD t undef=tm.getD t undef)->K {tmps:=oQ,defers:=[]} w):
 y.assign.wpIn (AN (some l)) 0 P (Exit.then K λ_ _ _=>False) {tmps:=(y.ps.zip #[x]).foldl (λtmps (t,a)=>tmps.setIfInBounds t a) tm,defers:=[]} w:=by
 have dv:∀(p:Nat) (Jo:Array Value) (t:Nat),t≠p->(Jo.setIfInBounds p x).getD t undef=Jo.getD t undef:=λp Jo t h=>by
  simp[aQ,aZ (Ne.symm h)]
 have here:∀(p:Nat) (Jo:Array Value),p<Jo.size->(Jo.setIfInBounds p x).getD p undef=x:=λp Jo h=>by
  simp[aQ,h]
 unfold YK.pos at hd
 split at hd
 ·rename_i p kS has
  have kS:y.ps= #[p]:=by rw[<-bW (xs:=y.ps),kS]
  split at hd
  ·rename_i hc
   cases hd
   simp only[aE,gK,bB]at hc
   have hp:d<tm.size:=bM (lE hc.1) hn
   rw[has,kS]
   refine wpIn_skip (hK _ (by simp) ?_ λt ht=>?_)
   ·simpa using here d tm hp
   ·have:=dv d tm t (λe=>by have:=(hc.2 t ht).1;rw[e]at this;simp at this)
    simpa using this
  ·cases hd
 ·rename_i p id ops kS has
  have kS:y.ps= #[p]:=by rw[<-bW (xs:=y.ps),kS]
  split at hd
  ·rename_i e q ty po af CV
   have CV:ops= #[⟨some e,.assign (.tmp q),ty,po,af,none⟩]:=by rw[<-bW (xs:=ops),CV]
   split at hd
   ·rename_i hc
    cases hd
    simp only[aE,gK,bB]at hc
    obtain⟨⟨hq,hp,hd⟩,En⟩:=hc
    have hq:=bE hq
    subst hq
    have hp:q<tm.size:=bM (lE hp) hn
    have hd:d<tm.size:=bM (lE hd) hn
    rw[has,kS,CV]
    refine Ziz ?_
    show wpOp P _ _ 0 _ _ _
    unfold wpOp
    simp only[List.getElem?_toArray,List.getElem?_cons_zero]
    rw[if_pos (by simp[Region.wanted])]
    refine Gb (u:=x) (w':=w) ?_ ?_
    ·have:(tm.setIfInBounds q x).getD q undef=x:=here q tm hp
     simp only[execOp,Act.eval]
     simp[aQ,hp]
    ·show K {tmps:=Array.setIfInBounds _ d x,defers:=[]} w
     refine hK _ (by simp) ?_ λt ht=>?_
     ·exact here d _ (by simpa using hd)
     ·have h1:=(En t ht).1
      rw[dv d _ t (λh=>by rw[h]at h1;simp at h1)]
      have:=dv q tm t (λh=>by rw[h]at h1;simp at h1)
      simpa using this
   ·cases hd
  ·cases hd
 ·cases hd
inductive oV(P:Program)(f:FuncId)(fn:Func)(cl:Prop):Prop where
 |real (h:f<YB) (hf:P.funcs[f]?=some fn) (hb:gG YB fn.nfree=false)
 |yield (h:YB<=f) (y:YK) (d:Nat) (hy:Ay f=some y) (hd:y.pos=some d) (hb:fn.body=some y.body) (hn:gG YB fn.nfree=true) (QE:bX fn.nfree YB=true) (hp:fn.params.toList=d::y.ts) (ht:fn.ntmps=y.n) (hc:cl)
 |uK (h:YB<=f) (y:YK) (q:Nat) (hy:Ay f=some y) (kS:y.ps= #[q]) (hq:(Nat.blt q y.n&&y.ts.all λt=>!(bX t q))=true) (hb:fn.body=some (.seq y.assign y.body)) (hn:gG YB fn.nfree=true) (QE:bX fn.nfree YB=false) (hp:fn.params.toList=q::y.ts) (ht:fn.ntmps=y.n) (hc:cl)
theorem Jp{rows:List Row}{c:Ctx}{env:List (Nat×D)}(hm:Mem c w)(jh:c.base=0)(hR:∀r,c.R r=rows[r]?)(sS:∀t,Rep c w (look env t) (tm.getD t undef))(ft:N<=tm.size):
 fi N k {c.kill (bO k (rows.length-k))with X:=λb=>∃s row,da s (bO k (rows.length-k))=true/\c.R s=some row/\¬c.V s/\c.ρ s=b} w c w ⟨env,rows.map some⟩ {tmps:=tm,defers:=[]}:=by
 refine⟨hm,λr=>by
  rw[hR]
  simp only[aV,gJ]
  cases rows[r]? <;>rfl,sS,ft,lX.nil,by simp[Ctx.kill,jh],λr row h=>?_,⟨⟨rfl,aX _,λ_ h=>⟨h,rfl⟩,λr x hx=>?_⟩,Fr.refl _ w,λ_ h=>.inl h,λr row hr hv=>?_,λ_ _=>by simp[Ctx.kill,jh]⟩⟩
 ·obtain⟨h1,ao,h2,_⟩:=na (c:=c) (ks:=bO k (rows.length-k)) h
  rw[hR]at h2
  have bh:=(List.getElem?_eq_some_iff.1 h2).1
  by_cases hk:r<k
  ·exact hk
  ·rw[L1.2 (by omega)]at h1;cases h1
 ·obtain⟨_,row,h2,rfl⟩:=na (c:=c) (ks:=bO k (rows.length-k)) hx
  obtain⟨s1,s2,s3,s4⟩:=u5 (bO k (rows.length-k)) row
  exact⟨row,h2,s1.symm,s2.symm,s3.symm,s4.symm,rfl,Iff.rfl,λ_ arr ha=>⟨arr,by rw[s2]at ha⊢;exact ha,rfl⟩⟩
 ·cases hb:da r (bO k (rows.length-k))with
  |true=>exact .inr (.inl ⟨r,row,hb,hr,hv,rfl⟩)
  |false=>exact .inl ⟨⟨row.kill (bO k (rows.length-k)),by simp[Ctx.kill,hb,hr]⟩,hv,rfl⟩
theorem Zhw{c:Ctx}{tm oQ:Array Value}{ps:List Nat}{ts:List Nat}(CW:ps=d::ts){args:List D}{vs us:List Value}{x:Value}(BE:vs=[x]++us)(tD:us=ts.map λt=>tm.getD t undef)(fu:kg c w args vs)(hx:oQ.getD d undef=x)(En:∀t∈ts,oQ.getD t undef=tm.getD t undef):
 ∀t,Rep c w (look (ow ps args) t) (oQ.getD t undef):=by
 subst CW
 subst BE
 match args,fu with
 |[],hx=>exact hx.elim
 |A::As,⟨hA,hAs⟩=>
  intro t
  simp only[ow,AK]
  split
  ·rename_i e;rw[<-e,hx];exact hA.toRep
  ·exact Zqh (by rw[tD]at hAs;exact hAs) En t
theorem Zd1(hD:pA P)(hT:Q4 P T)(hG:jD P G){rows:List Row}{res:D}{aj:List Row}{L:Code->St->(Ex->St->Prop)->Prop}(hL:∀ro code st Q,L code st Q->tN ro P n k code st Q){Q0:D->Rows->Prop}(CS:∀d R,Q0 d R->Ae k res aj d R)
 {c:Ctx} {w:World} {l:Nat} {rec:Loop} (hm:Mem c w) (hI:c.I l) (hl:w.heap[l]?=some (.loop rec)) (j0:rec.state=.ready) (Dw:rec.pending=none) {st:St} {c2:Ctx} {w2:World} {a:Act}
 (hs:fi n k {({c with I:=λb=>c.I b/\b≠l}:Ctx).kill (bO k (rows.length-k))with X:=λb=>∃s row,da s (bO k (rows.length-k))=true/\c.R s=some row/\¬c.V s/\c.ρ s=b} (w.putObj l (.loop {rec with state:=.busy})) c2 w2 st a)
 (h:o4 T G n k L code st λe st=>match e with|.normal=>Q0 (.bool true) st.rows|_=>False):
 code.wpIn (AN (some l)) 0 P (roundPost P l λe w'=>∃v' c',e=.returned v'/\jN (bO k (rows.length-k)) c w c' w'/\(∀r,c'.R r=aj[r]?)/\Rep c' w' res v') a w2:=by
 have bh:=(Array.getElem?_eq_some_iff.1 hl).1
 obtain⟨ĉ,hĉ⟩:∃ĉ:Ctx,ĉ={c with I:=λb=>c.I b/\b≠l}:=⟨_,rfl⟩
 obtain⟨wb,Jq⟩:∃wb,wb=w.putObj l (.loop {rec with state:=.busy}):=⟨_,rfl⟩
 have cz:∀r x,c.R r=some x->¬c.V r->c.ρ r≠l:=λr x hr hV=>(hm.fg l hI).2 r x hr hV
 have Jr:∀b,b≠l->wb.heap[b]?=w.heap[b]? :=λb hb=>by rw[Jq];exact World.putObj_heap_other hb
 have h2l:wb.heap[l]?=some (.loop {rec with state:=.busy}):=by rw[Jq];exact World.putObj_heap_same bh
 have Fw:wb.heap.size=w.heap.size:=by rw[Jq];simp
 have hs:fi n k {ĉ.kill (bO k (rows.length-k))with X:=λb=>∃s row,da s (bO k (rows.length-k))=true/\ĉ.R s=some row/\¬ĉ.V s/\ĉ.ρ s=b} wb c2 w2 st a:=by rw[hĉ,Jq];exact hs
 refine wpIn_mono (Na (ro:=some l) hD hT hG (Nb none n) (λcode st Q _ hl=>hL (some l) code st Q hl) code _ _ trivial h _ wb c2 w2 _ hs) λe a' w3 hq=>?_
 obtain⟨ex,st,c1,he,hq,lK⟩:=hq
 cases e<;>simp only[mN,Option.some.injEq,reduceCtorEq]at he<;>subst he
 rotate_left
 ·exact hq.elim
 ·exact hq.elim
 obtain⟨ex,hex,pn,db⟩:=CS _ _ hq
 obtain⟨e6,je,fw⟩:=SH lK hex db
 have hX:¬({ĉ.kill (bO k (rows.length-k))with X:=λb=>∃s row,da s (bO k (rows.length-k))=true/\ĉ.R s=some row/\¬ĉ.V s/\ĉ.ρ s=b}:Ctx).X l:=fun⟨s,row,_,g1,g2,g3⟩=>by
  rw[hĉ]at g1 g2 g3;exact cz s row g1 g2 g3
 have ZX:w3.heap[l]?=some (.loop {rec with state:=.busy}):=by
  refine(lK.reach.fr.heap l (by rw[Fw];exact bh) λhx=>?_).trans h2l
  rcases hx with⟨r,row,g1,g2,g3⟩|hx
  ·obtain⟨_,ao,g4,_⟩:=na (c:=ĉ) g1
   rw[hĉ]at g2 g3 g4;exact cz r ao g4 g2 g3
  ·exact hX hx
 have H5:=(Array.getElem?_eq_some_iff.1 ZX).1
 have Eo:=run_endRound (P:=P) none ZX
 refine⟨_,_,Eo,_,{c1.out ex aj with I:=λb=>(c1.out ex aj).I b\/b=l},rfl,?_⟩
 have QF:({({rec with state:=.busy}:Loop)with state:=if(none:Option Code).isNone then .ready else .done,pending:=none}:Loop)=rec:=by
  cases rec;simp only at j0 Dw;subst j0;subst Dw;rfl
 rw[QF]
 have nl:¬(c1.out ex aj).I l:=λhx=>by
  rcases fw.fg l hx with h|h|h
  ·obtain⟨h,_⟩:ĉ.I l/\True:=⟨h,trivial⟩
   rw[hĉ]at h;exact h.2 rfl
  ·exact hX h
  ·rw[Fw]at h;omega
 have CX:∀r x,(c1.out ex aj).R r=some x->¬(c1.out ex aj).V r->(c1.out ex aj).ρ r≠l:=λr x hr hV e=>by
  rcases je.row r x hr with g|⟨_,arr,g,_⟩
  ·exact hV g.1
  ·rw[e,ZX]at g;cases g
 have Mk:∀b,b≠l->(w3.putObj l (.loop rec)).heap[b]?=w3.heap[b]? :=λb hb=>World.putObj_heap_other hb
 have u9:jc (c1.out ex aj) w3 {c1.out ex aj with I:=λb=>(c1.out ex aj).I b\/b=l} (w3.putObj l (.loop rec)):=
  ⟨rfl,aX _,λb hb=>⟨.inl hb,Mk b (λe=>nl (by rw[<-e];exact hb))⟩,λr x hr=>⟨x,hr,rfl,rfl,rfl,rfl,rfl,Iff.rfl,λhV arr ha=>⟨arr,(Mk _ (CX r x hr hV)).trans ha,rfl⟩⟩⟩
 have hN:=qaa je fw
 refine⟨⟨⟨λr x hr=>tk u9 rfl Iff.rfl (λnv=>Mk _ (CX r x hr nv)) (je.row r x hr),je.inj,λb hb=>?_,by simpa using je.top,je.jZ.mono u9.I⟩,⟨?_,?_,λb hb=>?_,λr x hr=>?_⟩,⟨?_,?_,?_,?_,λb hb hn=>?_⟩,λb hb=>?_,λr row hr hv=>?_⟩,λr=>rfl,wX u9 (SG lK.mem lK.rows db e6 pn rfl)⟩
 ·rcases hb with hb|hb
  ·simpa using je.fg b hb
  ·subst hb;exact⟨by simpa using H5,λr x hr hV=>CX r x hr hV⟩
 ·have:=hN.cy.base;rw[hĉ]at this;exact this
 ·have:=hN.cy.top;rw[hĉ]at this;exact this
 ·by_cases e:b=l
  ·subst e;exact⟨.inr rfl,by rw[World.putObj_heap_same H5,hl]⟩
  ·have:=hN.cy.I b (by rw[hĉ];exact⟨hb,e⟩)
   exact⟨.inl this.1,(Mk b e).trans (this.2.trans (Jr b e))⟩
 ·have:=hN.cy.R r x (by rw[hĉ];exact hr)
  obtain⟨x',g1,g2,g3,g4,g5,g6,gV,g7⟩:=this
  rw[hĉ]at g6 gV g7
  refine⟨x',g1,g2,g3,g4,g5,g6,gV,λhV arr ha=>?_⟩
  obtain⟨_,x0,q1,_⟩:=na (c:=c) hr
  have gu:c.ρ r≠l:=cz r x0 q1 hV
  obtain⟨iJ,k1,k2⟩:=g7 hV arr ((Jr _ gu).trans ha)
  exact⟨iJ,(Mk _ gu).trans k1,k2⟩
 ·rw[Jq]at hN;exact hN.fr.os
 ·rw[Jq]at hN;exact hN.fr.tape
 ·rw[Jq]at hN;exact hN.fr.output
 ·have:=hN.fr.size;rw[Fw]at this;simpa using this
 ·by_cases e:b=l
  ·subst e;rw[World.putObj_heap_same H5,hl]
  ·rw[Mk b e,hN.fr.heap b (by rw[Fw];exact hb) (by rw[hĉ];exact hn),Jr b e]
 ·rcases hb with hb|hb
  ·rcases hN.fg b hb with g|g|g
   ·rw[hĉ]at g;exact .inl g.1
   ·rw[hĉ]at g;exact .inr (.inl g)
   ·rw[Fw]at g;exact .inr (.inr g)
  ·subst hb;exact .inl hI
 ·rcases hN.ob r row hr hv with g|g|g
  ·rw[hĉ]at g;exact .inl g
  ·rw[hĉ]at g;exact .inr (.inl g)
  ·rw[Fw]at g;exact .inr (.inr g)
theorem qaL(hD:pA P)(hT:Q4 P T)(hG:jD P G){args:List D}{rows:List Row}{res:D}{aj:List Row}{rf:Option Nat}(hf:oV P f fn (pZ (ot args++kH rows)=true/\rf=none))(mH:∀code,fn.body=some code->RF rf fn.ntmps code)
 {L:Code->St->(Ex->St->Prop)->Prop} (hL:∀ro,(ro=none\/rf=none)->∀code st Q,RF rf fn.ntmps code->L code st Q->tN ro P fn.ntmps k code st Q) {Q0:D->Rows->Prop} (CS:∀d R,Q0 d R->Ae k res aj d R) (h:Fx T G L fn args rows Q0 k):tJ P f k args rows res aj:=by
 intro c w vs hm jh hR fu
 unfold Fx at h
 split at h
 rotate_left
 ·exact h.elim
 rename_i code hb
 cases hf with
 |real bh hf sC=>
  simp only[sC]at h
  refine⟨λ_=>?_,λgl=>absurd bh (Nat.not_lt.2 gl)⟩
  have hs:=Jp (N:=fn.ntmps) (k:=k) (env:=Fu args 0) (tm:=vs.toArray++gH (fn.ntmps-vs.toArray.size) undef) hm jh hR (λt=>Zpt fu _ t) (by simp;omega)
  refine callsIn_wide.1 (callsIn_of_wp_marks (F:=Fence.wide) (n:=0) hf hb trivial (wpIn_mono (Na (ro:=none) hD hT hG (Nb rf fn.ntmps) (hL none (.inl rfl)) code _ _ (mH _ hb) h _ w c w _ hs) λe a' w' hq=>?_))
  obtain⟨ex,st,c1,he,hq,lK⟩:=hq
  have fin:(Fv T st.rows st.env fn.results.toList λds=>match ds with|[d]=>Q0 d st.rows|ds=>Q0 (.dw ds) st.rows)->
   LeavesInM Fence.wide 0 P fn a'.tmps (λe w'=>∃v' c',e=.returned v'/\jN (bO k (rows.length-k)) c w c' w'/\(∀r,c'.R r=aj[r]?)/\Rep c' w' res v') a'.defers .returning w':=by
   intro kL
   refine leaves lK λc1 w' a' jE lK=>?_
   obtain⟨ds,hK,hr⟩:=UY hT kL
   have oW:mf c1 st.rows:=λr row ao h1 h2=>by rw[lK.rows,h2]at h1;exact(Option.some.inj h1).symm
   obtain⟨us,il,CU⟩:=hr c1 w' a'.tmps lK.mem oW lK.env
   have sR:=Z97 il
   obtain⟨d,v,Jn,hv,oq⟩:∃d v,Ae k res aj d st.rows/\CQ us=v/\Rep c1 w' d v:=by
    match ds,us,CU with
    |[d],[u],hx=>exact⟨d,u,CS _ _ hK,rfl,hx.1.toRep⟩
    |[],[],hx=>exact⟨.dw [],_,CS _ _ hK,rfl,[],rfl,trivial⟩
    |d::e::ds,u::v::us,hx=>exact⟨.dw (d::e::ds),_,CS _ _ hK,rfl,_,rfl,hx⟩
    |[],_::_,hx=>exact hx.elim
    |[_],[],hx=>exact hx.elim
    |[_],_::_::_,hx=>exact hx.2.elim
    |_::_::_,[],hx=>exact hx.elim
    |_::_::_,[_],hx=>exact hx.2.elim
   rw[hv]at sR
   obtain⟨ex,hex,hd,db⟩:=Jn
   obtain⟨e6,je,fw⟩:=SH lK hex db
   refine⟨v,sR,v,c1.out _ aj,rfl,qaa je fw,λr=>rfl,SG lK.mem lK.rows db e6 hd oq⟩
  cases e<;>simp only[mN,Option.some.injEq,reduceCtorEq]at he
  ·subst he;exact fin hq
  ·subst he;exact hq.elim
  ·subst he;exact fin hq
 |yield gl y d hy hd uv ZY Js CW ZZ hc=>
  simp only[ZY,Js]at h
  obtain⟨mZ,Jt⟩:=hc
  rw[uv]at hb
  cases hb
  refine⟨λbh=>absurd bh (Nat.not_lt.2 gl),λ_ l rec xs us BE hI hl mP iX=>?_⟩
  obtain⟨j0,Dw,y',w5,kS,has,hbo,QG,h1,tD⟩:=mP
  rw[hy]at w5;cases w5
  obtain⟨x,rfl⟩:∃x,xs=[x]:=by
   match xs,iX with
   |[x],_=>exact⟨x,rfl⟩
  rw[kS,has,hbo]
  have real:∀k,k∈ot args++kH rows->k<YB:=λk hk=>M9 mZ hk
  have bh:=(Array.getElem?_eq_some_iff.1 hl).1
  have wG:∀arr ty fz,(Obj.loop rec)≠.cells arr ty fz:=λ_ _ _ e=>by cases e
  obtain⟨ĉ,hĉ⟩:∃ĉ:Ctx,ĉ={c with I:=λb=>c.I b/\b≠l}:=⟨_,rfl⟩
  obtain⟨w2,QH⟩:∃w2,w2=w.putObj l (.loop {rec with state:=.busy}):=⟨_,rfl⟩
  have cz:∀r x,c.R r=some x->¬c.V r->c.ρ r≠l:=λr x hr hV=>(hm.fg l hI).2 r x hr hV
  have Jr:∀b,b≠l->w2.heap[b]?=w.heap[b]? :=λb hb=>by rw[QH];exact World.putObj_heap_other hb
  have h2l:w2.heap[l]?=some (.loop {rec with state:=.busy}):=by rw[QH];exact World.putObj_heap_same bh
  have Fw:w2.heap.size=w.heap.size:=by rw[QH];simp
  have hg:Je c w ĉ w2:=by
   rw[hĉ]
   refine⟨rfl,aX _,λb arr ty fz ij hb=>?_,λr x hr=>⟨x,hr,rfl,rfl,rfl,rfl,rfl,Iff.rfl,λhV arr ha=>⟨arr,(Jr _ (cz r x hr hV)).trans ha,rfl⟩⟩⟩
   have gu:b≠l:=λe=>by subst e;rw[hl]at hb;cases hb
   exact⟨⟨ij,gu⟩,(Jr b gu).trans hb⟩
  have gF:∀k ws v,k<YB->rP c w k ws v->rP ĉ w2 k ws v:=λk ws v hk hv=>by
   rcases hv with hv|⟨hv,_⟩
   ·exact .inl hv
   ·omega
  have BH:Mem ĉ w2:=by
   rw[hĉ]at hg gF⊢
   refine Y6 hm hg (λr x hr hV=>Jr _ (cz r x hr hV)) (Fk:=λk=>k<YB) gF (λr x hr k hk=>real k ?_) (λb hb=>⟨by rw[Fw];exact(hm.fg b hb.1).1,(hm.fg b hb.1).2⟩) (by rw[Fw];exact aX _)
   rw[hR]at hr
   exact eY _ (Zpv hr hk)
  have Ju:kg ĉ w2 args vs:=Y5 hg (Fk:=λk=>k<YB) gF (λk hk=>real k (eT _ hk)) fu
  refine roundIn_of_wpIn (F:=Fence.wide) (n:=0) trivial (yw (F:=Fence.wide) hd (tm:=rec.tmps) QG λoQ ft hx En=>?_)
  refine⟨w2,by rw[QH];exact run_beginRound hl j0,?_⟩
  have sS:∀t,Rep ĉ w2 (look (ow fn.params.toList args) t) (oQ.getD t undef):=Zhw CW BE tD Ju hx En
  have hs:=Jp (N:=fn.ntmps) (k:=k) (env:=ow fn.params.toList args) (tm:=oQ) BH (by rw[hĉ];exact jh) (by rw[hĉ];exact hR) sS (by rw[ft,ZZ];exact QG)
  subst Jt
  subst QH
  subst hĉ
  exact Zd1 hD hT hG (λro code st Q hl=>hL ro (.inr rfl) code st Q trivial hl) CS hm hI hl j0 Dw hs h
 |uK gl y q hy kS hq uv ZY Js CW ZZ hc=>
  simp only[ZY,Js]at h
  obtain⟨mZ,Jt⟩:=hc
  subst Jt
  rw[uv]at hb
  cases hb
  simp only at h
  refine⟨λbh=>absurd bh (Nat.not_lt.2 gl),λ_ l rec xs us BE hI hl mP iX=>?_⟩
  obtain⟨j0,Dw,y',w5,Jaa,has,hbo,QG,h1,tD⟩:=mP
  rw[hy]at w5;cases w5
  obtain⟨x,rfl⟩:∃x,xs=[x]:=by
   match xs,iX with
   |[x],_=>exact⟨x,rfl⟩
  rw[Jaa,has,hbo]
  obtain⟨oQ,U1⟩:∃oQ,oQ=rec.tmps.setIfInBounds q x:=⟨_,rfl⟩
  have hz:((y.ps.zip [x].toArray).foldl (λtmps (t,a)=>tmps.setIfInBounds t a) rec.tmps)=oQ:=by rw[kS,U1];simp
  rw[hz]
  simp only[aE,gK,bB]at hq
  have hqs:q<rec.tmps.size:=bM (lE hq.1) QG
  have hx:oQ.getD q undef=x:=by rw[U1];simp[aQ,hqs]
  have En:∀t∈y.ts,oQ.getD t undef=rec.tmps.getD t undef:=λt ht=>by
   have gu:q≠t:=λe=>by have:=hq.2 t ht;rw[e]at this;simp at this
   rw[U1];simp[aQ,aZ gu]
  have sS:∀t,Rep c w (look (ow fn.params.toList args) t) (oQ.getD t undef):=Zhw CW BE tD fu hx En
  have hs:=Jp (N:=fn.ntmps) (k:=k) (env:=ow fn.params.toList args) (tm:=oQ) hm jh hR sS (by rw[U1,ZZ];simpa using QG)
  refine roundIn_of_wpIn (F:=Fence.wide) (n:=0) trivial (wpIn_mono (Na (ro:=some l) hD hT hG (Nb none fn.ntmps) (λcode st Q _ hl=>hL (some l) (.inr rfl) code st Q trivial hl) y.assign _ _ trivial h _ w c w _ hs) λe a1 w1 hq=>?_)
  obtain⟨ex,st1,c1,he,hq,lK⟩:=hq
  cases e<;>simp only[mN,Option.some.injEq,reduceCtorEq]at he<;>subst he
  rotate_left
  ·exact hq.elim
  ·exact hq.elim
  simp only[dd]at hq
  obtain⟨Jab,hq⟩:=hq
  have SL:w1.heap[l]?=some (.loop rec):=(lK.reach.cy.I l hI).2.trans hl
  have cz:∀r x,(c.kill (bO k (rows.length-k))).R r=some x->¬c.V r->c.ρ r≠l:=λr x hr hV=>by
   obtain⟨_,x0,q1,_⟩:=na (c:=c) hr
   exact(hm.fg l hI).2 r x0 q1 hV
  exact⟨_,run_beginRound SL j0,Zd1 hD hT hG (λro code st Q hl=>hL ro (.inr rfl) code st Q trivial hl) CS hm hI hl j0 Dw (lK.edit hI hl cz Jab) hq⟩
def D.Hl:D->Bool|.int _ _=>true|.bool _=>true|.str _=>true|.sl _ _ _=>true|.iz=>true|.jL=>true|_=>false
theorem ai.wN(E:ai):ai.Eq E E:=by
 cases E with
 |gen es=>cases es<;>simp[ai.Eq]
 |ah k l=>simp[ai.Eq,Wc]
 |_=>simp[ai.Eq]
theorem vw{d:D}(h:d.Hl=true):iL ex m R d d:=by
 cases d<;>first|(cases h;done)|simp[iL,dd,ai.wN]
def D.mz(n:Nat):D->Bool|.all i=>Nat.blt i n|.c8=>true|.emp=>true|d=>d.Hl
def Row.mz(n:Nat):Row->Bool|⟨false,_,_,_⟩=>true|⟨true,_,_,.gen [e]⟩=>e.all (D.mz n)|_=>false
theorem Zdn(h:i<n):ka (cW n) i i=true:=by
 simp[ka,List.getElem?_range h]
theorem Zru{d:D}(h:d.mz n=true):iL (cW n) m R d d:=by
 cases d with
 |all i=>
  simp only[D.mz,Nat.blt_eq]at h
  simp[iL,dd,Zdn h]
 |c8=>simp[iL]
 |emp=>simp[iL]
 |_=>exact vw h
theorem Z7s{n m:Nat}{R:Rows}:∀{e:List D},e.all (D.mz n)=true->Dy (cW n) m R e e
 |[],_=>trivial
 |d::e,h=>by
  simp only[gL,aE]at h
  exact⟨Zru h.1,Z7s h.2⟩
theorem Qxi{m n:Nat}:∀{post pre:List Row},post.all (Row.mz n)=true->lO (cW n) m ((pre++post).map some) (bO pre.length post.length) post
 |[],_,_=>trivial
 |⟨box,ty,sz,es⟩::post,pre,h=>by
  simp only[gL,aE]at h
  rw[List.length_cons,List.range'_succ]
  have hR:(((pre++⟨box,ty,sz,es⟩::post).map some:Rows)).getD pre.length none=some ⟨box,ty,sz,es⟩:=by
   simp[aV]
  simp only[lO,hR,dd]
  refine⟨⟨by cases box<;>simp,?_⟩,?_⟩
  ·cases box with
   |false=>exact ai.wN es
   |true=>
    obtain⟨h,_⟩:=h
    cases es with
    |gen l=>
     match l,h with
     |[e],h=>exact Z7s h
    |_=>cases h
  ·have:=Qxi (m:=m) (n:=n) (post:=post) (pre:=pre++[⟨box,ty,sz,es⟩]) h.2
   simpa using this
theorem Zt1{rows:List Row}(h:rows.all (Row.mz rows.length)=true):lO (cW rows.length) m (rows.map some) (cW rows.length) rows:=by
 have:=Qxi (m:=m) (n:=rows.length) (post:=rows) (pre:=[]) h
 rwa [List.nil_append,List.length_nil,<-gE]at this
theorem Zcx:∀l:List Nat,Mi l l=true
 |[]=>rfl
 |x::l=>by simp[Mi,Zcx l]
theorem Zti(M:Nat):so M (cW M)=true:=by
 have h1:(cW M).take M=cW M:=List.take_of_length_le (by simp)
 have h2:(cW M).drop M=[]:=List.drop_of_length_le (by simp)
 simp[so,h1,h2,Zcx,CI]
theorem Zbu(hD:pA P)(hT:Q4 P T)(hf:P.funcs[f]?=some fn){args:List D}{rows:List Row}{off:Nat}(h:rows.all (Row.mz rows.length)=true)(h0:0<rows.length)
 (e1:∀Q0:D->GD.Rows->Prop,kh T [] (λ_ _ _=>False) fn args rows (λd R=>Q0 d R)=Q0 (.ptr 0 0 off) (rows.map some)):ku P f args rows (.ptr 0 0 off) rows:=by
 have hG:jD P []:=λx hx=>by cases hx
 have h2:kh T [] (λ_ _ _=>False) fn args rows (λd R=>d=.ptr 0 0 off/\R=rows.map some):=(e1 (λd R=>d=.ptr 0 0 off/\R=rows.map some)).symm▸⟨rfl,rfl⟩
 refine zw hD hT hG hf (rf:=none) (L:=λ_ _ _=>False) (λ_ _=>trivial) (λ_ _ _ _ h=>h.elim) (Q0:=λd R=>d=.ptr 0 0 off/\R=rows.map some) (λd R h=>?_) h2
 obtain⟨rfl,rfl⟩:=h
 refine⟨cW rows.length,Zti _,?_,Zt1 ‹_›⟩
 simp[sn,o6,iL,dd,Zdn h0]

import Derived.Test.YtaemmjbkndlkeaaGreatMigrateOrdersFb
open List renaming range_eq_range'->gC,getD->aV,getElem?_eq_none->aJ,getElem?_append_left->bI,getElem?_eq_getElem->aI,mem_of_getElem?->fL,range->cW,mem_append->cB,mapM_cons->gG,mem_append_right->eX,mem_append_left->eS,getElem?_map->gH,range'->bO,all_eq_true->gI,all_cons->gJ
open Nat renaming le_refl->aX,beq->bX,ble->gD,lt_of_lt_of_le->bM
open Bool renaming not_eq_true'->bB,false_eq_true->aA
open Array renaming replicate->gE,toArray_toList->bW,getD_eq_getD_getElem?->aQ,getElem?_setIfInBounds_ne->aZ
set_option linter.all false
namespace Go.GD
open Go
variable {G:List ba}{K:St->Prop}{M N d i k l m n r:Nat}{P:Program}{R:Rows}{T:iu}{a:Act}{b:Bool}{code:Code}{ex:List Nat}{f:FuncId}{fn:Func}{o':Obj}{ro:Option Nat}{st:St}{tm:Array Value}{v:Value}{vs:List Value}{w w0:World}{x:Operand}
theorem ff.jT{c0:Ctx}{c:Ctx}(h:ff N M c0 w0 c w st a)(hb:cj st.env x=.bool b):ff N M c0 w0 c w (st.jT x b) a:=by
 cases x with
 |tmp t=>exact⟨h.mem,h.rows,λs=>by rw[SK hb];exact h.env s,h.size,h.defers,h.fw,h.gr,h.reach⟩
 |_=>exact h
theorem ff.HE{c0:Ctx}{c:Ctx}(h:ff N M c0 w0 c w st a)(hb:a.eval x=.bool b):ff N M c0 w0 c w (st.jT x b) a:=by
 cases x with
 |tmp t=>
  refine⟨h.mem,h.rows,λs=>?_,h.size,h.defers,h.fw,h.gr,h.reach⟩
  simp only[St.jT,AT]
  split
  ·rename_i e;subst e;exact hb
  ·exact h.env s
 |_=>exact h
theorem xv(hT:jg P T)(hG:jA P G){id:Nat}{ops:Array Oper}{Q:Ex->St->Prop}(h:mb T G N M ops ops.toList st λst=>Q .normal st):tV ro P N M (.region id ops false) st Q:=by
 intro c0 w0 c w a hs
 refine Zgz ?_
 have:=yX (P:=P) (ops:=ops) hT hG (Q:=λe a' w'=>∃ex jo c',mV e=some ex/\Q ex jo/\ff N M c0 w0 c' w' jo a') (λst c w a hK hs=>⟨_,st,c,rfl,hK,hs⟩) ops.toList 0 st c w a (by simp) h hs
 rwa [<-gC,Array.length_toList]at this
theorem Z23{c:Ctx}{w:World}{i n:Nat}{row:Row}(hn:c.R n=some row)(hb:row.box=false)(hV:c.V n):∀{e e':List D},HF i n e=some e'->e'.length=e.length/\∀arr off,kF c w e arr off->kF c w e' arr off
 |[],e',h=>by simp[HF]at h
 |d ::l,e',h=>by
  unfold HF at h
  split at h
  ·cases h
   refine⟨rfl,λarr off hc=>?_⟩
   obtain⟨⟨v,hv,h1⟩,⟨u,hu,h2⟩,h3⟩:=hc
   exact⟨⟨v,hv,.inl h1⟩,⟨u,hu,row,hn,hb,.inl ⟨hV,none,h2,Nn⟩⟩,h3⟩
  ·split at h
   ·rename_i l' pF
    cases h
    obtain⟨g1,g2⟩:=Z23 hn hb hV pF
    exact⟨by simp[g1],λarr off hc=>⟨hc.1,g2 arr _ hc.2⟩⟩
   ·cases h
theorem Z1y{n:Nat}:∀{R:Rows} {k i:Nat} {ty:TypeId} {sz:Nat} {e':List D},JE n R k=some (i,ty,sz,e')->∃e j,i=k+j/\R[j]?=some (some ⟨true,ty,sz,.gen [e]⟩)/\HF i n e=some e'
 |[],k,i,ty,sz,e',h=>by simp[JE]at h
 |x ::l,k,i,ty,sz,e',h=>by
  have next:JE n l (k+1)=some (i,ty,sz,e')->∃e j,i=k+j/\(x::l)[j]?=some (some ⟨true,ty,sz,.gen [e]⟩)/\HF i n e=some e':=λh=>by
   obtain⟨e,j,h1,h2,h3⟩:=Z1y h
   exact⟨e,j+1,by omega,by simpa using h2,h3⟩
  unfold JE at h
  split at h
  ·split at h
   ·rename_i e1 he
    cases h
    exact⟨_,0,rfl,rfl,he⟩
   ·exact next h
  ·exact next h
theorem zar{c0:Ctx}{c:Ctx}(h:JF T code st K)(hs:ff N M c0 w0 c w st a): ∃jo c',K jo/\ff N M c0 w0 c' w jo a:=by
  unfold JF at h
  split at h
  . exact⟨st,c,h,hs⟩
  . rename_i u hu
    split at h
    . exact⟨st,c,h,hs⟩
    . rename_i i ty sz e' hf
      simp only[D.ey,nm]at h
      obtain⟨e,j,h1,h2,h3⟩:=Z1y hf
      rw[Nat.zero_add]at h1
      subst h1
      have bd:=(List.getElem?_eq_some_iff.1 h2).1
      have hi:c.R i=some ⟨true,ty,sz, .gen [e]⟩:=by rw[hs.rows,aV,h2];rfl
      have hn:c.R st.rows.length=none:=by rw[hs.rows,aV,aJ (aX _)];rfl
      have gq:i≠st.rows.length:=by omega
      have Ip:=Ww hs.mem hn (row:=⟨false,u,1, .ints .u8 []⟩) rfl rfl Nat.one_pos
      have Wx:=SQ (w:=w) hn ⟨false,u,1, .ints .u8 []⟩
      have Wy:(c.jt st.rows.length ⟨false,u,1, .ints .u8 []⟩).R i=some ⟨true,ty,sz, .gen [e]⟩:=by simp [Ctx.jt,gq,hi]
      obtain⟨q1,q2⟩:=Z23 (c:=c.jt st.rows.length ⟨false,u,1, .ints .u8 []⟩) (w:=w) (row:=⟨false,u,1, .ints .u8 []⟩) (by simp [Ctx.jt]) rfl (.inl rfl) h3
      obtain⟨Wz,BT⟩:=vb Ip Wy q1 (λarr=>q2 arr 0)
      have hg:=Wx.trans Wz
      have nG:lT c w ((c.jt st.rows.length ⟨false,u,1, .ints .u8 []⟩).jP i ⟨true,ty,sz, .gen [e']⟩) w:=by
        refine⟨BT,hg,Fr.refl _ w,λb hb=> .inl hb,λr ao hr hv=> .inl ?_⟩
        have WA:r≠st.rows.length:=λe=>hv (.inl e)
        by_cases er:r=i
        . subst er;exact⟨⟨_,hi⟩,λe=>hv (.inr e),rfl⟩
        . exact⟨⟨ao,by simpa [Ctx.jP,Ctx.jt,er,WA] using hr⟩,λe=>hv (.inr e),rfl⟩
      refine⟨_,_,h,BT,λr=> ?_,λt=>Ac hg (hs.env t),hs.size,hs.defers,hs.fw,hs.gr,hs.reach.step (ks:=[]) (λk hk=>by simp [da]at hk) hs.gr nG.toK⟩
      simp only[Ctx.jP,Ctx.jt]
      by_cases er:r=i
      . subst er
        simp [aV,bI (show r<(st.rows.set r _).length by simpa using bd),bd]
      . rw [if_neg er]
        by_cases en:r=st.rows.length
        . subst en
          simp [aV]
        . rw[if_neg en,hs.rows]
          by_cases hl:r<st.rows.length
          . simp [aV,bI (show r<(st.rows.set i _).length by simpa using hl),List.getElem?_set_ne (Ne.symm er)]
          . have h1:st.rows.getD r none=none:=by rw[aV,aJ (by omega)];rfl
            rw[h1,aV,aJ (by simp;omega)];rfl
def pD(P:Program):Prop:=∀(ro:Option Nat) (T:iu) (G:List ba) (N M id:Nat) (ops:Array Oper) (st:St) (Q:Ex->St->Prop),jg P T->jA P G->uU T G N M ops st Q->tV ro P N M (.region id ops true) st Q
def wV(y:Array Tmp×Code×Code):Code->Prop
 |.seq a b=>wV y a/\wV y b
 |.cond _ a b=>wV y a/\wV y b
 |.block _ a=>wV y a
 |.loop a=>wV y a
 |.scope a=>wV y a
 |.rangeFunc _ ps x b=>(ps,x,b)=y
 |_=>True
def RF(o:Option Nat)(n:Nat)(c:Code):Prop:=match o with|none=>True|some f=>∃y,(AI f=some y/\y.n<=n/\y.ts=WC f/\YB<=f/\y.ps.size=1)/\wV (y.ps,y.assign,y.body) c
theorem zT{c:Code}{Q:Exit->Act->World->Prop}(h:c.wpIn (AW ro) 0 P (Exit.noGoto Q) a w):(Code.scope c).wpIn (AW ro) 0 P Q a w:=by
 intro b k cs DM hb hr
 have s1:step P (lone (b.atR a (.code (.scope c)::k)) cs w)=.next (lone (b.atR a (.code c:: .inScope c::k)) cs w):=step_lone_go (by simp[stepG,stepG.exec,Frame.atR])
 have h0:(lone (b.atR a (.code (.scope c)::k)) cs w).fenced P (AW ro):=fenced_calm hb hr rfl
 obtain⟨e,Dc,De,hq,pz⟩:=h b (.inScope c::k) cs DM hb hr
 cases e with
 |normal=>exact⟨.normal,Dc,De,hq,.head h0 s1 (StepsIn.trans pz (.one (fenced_calm hb hr rfl) (step_lone_go (by simp[stepG,stepG.exec,Frame.atR]))))⟩
 |exit id=>
  have hx:exitTo id (.inScope c::k)=exitTo id k:=by simp[exitTo]
  exact⟨.exit id,Dc,De,hq,λk' hk=>.head h0 s1 (pz.1 k' (by rw[hx];exact hk)),λpI hk=>let⟨k₁,h1,h2⟩:=pz.2 pI (by rw[hx];exact hk);⟨k₁,h1,.head h0 s1 h2⟩⟩
 |goto l=>exact hq.elim
 |ret=>exact⟨_,Dc,De,hq,.of_steps (.one h0 s1) pz⟩
 |panic ch=>exact⟨_,Dc,De,hq,.of_steps (.one h0 s1) pz⟩
 |outgrown=>exact⟨_,Dc,De,hq,.of_steps (.one h0 s1) pz⟩
theorem zv{c0:Ctx}{c:Ctx}{ops:List Oper}(h:uV ops st K)(hs:ff N M c0 w0 c w st a):∃jo,K jo/\ff N M c0 w0 c w jo a:=by
 unfold uV at h
 split at h
 ·exact⟨st,h,hs⟩
 ·rename_i x _
  split at h
  ·rename_i b hb
   cases b with
   |true=>exact⟨_,h,hs.jT hb⟩
   |false=>exact⟨_,h,hs.jT hb⟩
  ·exact⟨st,h,hs⟩
theorem Nr(hD:pD P)(hT:jg P T)(hG:jA P G){L:Code->St->(Ex->St->Prop)->Prop}{S:Code->Prop}(hS:(∀a b,S (.seq a b)->S a/\S b)/\(∀c a b,S (.cond c a b)->S a/\S b)/\(∀i a,S (.block i a)->S a)/\(∀a,S (.scope a)->S a))(hL:∀code st Q,S code->L code st Q->tV ro P N M code st Q):∀(code:Code) (st:St) (Q:Ex->St->Prop),S code->o8 T G N M L code st Q->tV ro P N M code st Q:=by
 intro code
 induction code with
 |skip=>exactλst Q _ h c0 w0 c w a hs=>wpIn_skip ⟨_,st,c,rfl,h,hs⟩
 |label l=>exactλst Q _ h c0 w0 c w a hs=>wpIn_label ⟨_,st,c,rfl,h,hs⟩
 |region id ops draw=>
  intro st Q hc h c0 w0 c w a hs
  simp only[o8]at h
  obtain⟨FK,h,BJ⟩:=zv h hs
  obtain⟨R1,c1,h,kv⟩:=Gy h BJ
  obtain⟨jo,c',h,iS⟩:=qac h kv
  cases draw with
  |false=>exact xv hT hG h c0 w0 c' w a iS
  |true=>exact hD ro T G N M id ops jo Q hT hG h c0 w0 c' w a iS
 |seq x y ihx U6=>
  intro st Q hc h c0 w0 c w a hs
  simp only[o8]at h
  refine wpIn_seq (wpIn_mono (ihx st _ (hS.1 _ _ hc).1 h c0 w0 c w a hs) λe a' w' hq=>?_)
  obtain⟨ex,jo,c',he,hq,iS⟩:=hq
  cases e<;>simp only[mV,Option.some.injEq,reduceCtorEq]at he
  ·subst he
   obtain⟨PO,c2,hq,M5⟩:=zar hq iS
   exact U6 PO Q (hS.1 _ _ hc).2 hq c0 w0 c2 w' a' M5
  ·subst he;exact⟨_,jo,c',rfl,hq,iS⟩
  ·subst he;exact⟨_,jo,c',rfl,hq,iS⟩
 |cond x y z U6 ihz=>
  intro st Q hc h c0 w0 c w a hs
  simp only[o8]at h
  split at h
  ·rename_i b hb
   have hv:=Nh hs.env x
   rw[hb]at hv
   have hv:=Rep.bool.1 hv
   cases b with
   |true=>exact wpIn_cond_true hv (U6 _ Q (hS.2.1 _ _ _ hc).1 h c0 w0 c w a (hs.jT hb))
   |false=>exact wpIn_cond_false hv (ihz _ Q (hS.2.1 _ _ _ hc).2 h c0 w0 c w a (hs.jT hb))
  ·rename_i es hb
   have hv:=Nh hs.env x
   rw[hb]at hv
   obtain⟨b,hv,gy⟩:=hv
   cases b with
   |true=>exact wpIn_cond_true hv (U6 _ Q (hS.2.1 _ _ _ hc).1 (h.1 (ai.ov.2 (gy rfl))) c0 w0 c w a (hs.HE hv))
   |false=>exact wpIn_cond_false hv (ihz _ Q (hS.2.1 _ _ _ hc).2 h.2 c0 w0 c w a (hs.HE hv))
  ·exact h.elim
 |block id x ih=>
  intro st Q hc h c0 w0 c w a hs
  simp only[o8]at h
  refine wpIn_block (wpIn_mono (ih st _ (hS.2.2.1 _ _ hc) h c0 w0 c w a hs) λe a' w' hq=>?_)
  obtain⟨ex,jo,c',he,hq,iS⟩:=hq
  cases e<;>simp only[mV,Option.some.injEq,reduceCtorEq]at he
  ·subst he;exact⟨_,jo,c',rfl,hq,iS⟩
  ·rename_i i
   subst he
   simp only[Exit.inBlock]
   simp only at hq
   cases hb:bX i id with
   |true=>
    simp only[hb]at hq
    rw[if_pos (bE hb)]
    exact⟨_,jo,c',rfl,hq,iS⟩
   |false=>
    simp only[hb]at hq
    rw[if_neg (λe=>by rw[e]at hb;simp at hb)]
    exact⟨_,jo,c',rfl,hq,iS⟩
  ·subst he;exact⟨_,jo,c',rfl,hq,iS⟩
 |exit id=>exactλst Q _ h c0 w0 c w a hs=>wpIn_exit ⟨_,st,c,rfl,h,hs⟩
 |ret=>exactλst Q _ h c0 w0 c w a hs=>wpIn_ret ⟨_,st,c,rfl,h,hs⟩
 |loop x ih=>exactλst Q hc h=>hL _ _ _ hc h
 |rangeFunc g ps x y _ _=>exactλst Q hc h=>hL _ _ _ hc h
 |scope x ih=>
  intro st Q hc h c0 w0 c w a hs
  simp only[o8]at h
  refine zT (wpIn_mono (ih st _ (hS.2.2.2 _ hc) h c0 w0 c w a hs) λe a' w' hq=>?_)
  obtain⟨ex,jo,c',he,hq,iS⟩:=hq
  cases e<;>simp only[mV,Option.some.injEq,reduceCtorEq]at he
  all_goals(subst he;exact⟨_,jo,c',rfl,hq,iS⟩)
 |goto l=>exactλst Q hc h=>hL _ _ _ hc h
 |refuse y=>exactλst Q hc h=>hL _ _ _ hc h
theorem Ns(o:Option Nat)(n:Nat):(∀a b,RF o n (.seq a b)->RF o n a/\RF o n b)/\(∀c a b,RF o n (.cond c a b)->RF o n a/\RF o n b)/\(∀i a,RF o n (.block i a)->RF o n a)/\(∀a,RF o n (.scope a)->RF o n a):=by
 cases o with
 |none=>exact⟨λ_ _ _=>⟨trivial,trivial⟩,λ_ _ _ _=>⟨trivial,trivial⟩,λ_ _ _=>trivial,λ_ _=>trivial⟩
 |some f=>exact⟨λ_ _ ⟨y,h,h1,h2⟩=>⟨⟨y,h,h1⟩,⟨y,h,h2⟩⟩,λ_ _ _ ⟨y,h,h1,h2⟩=>⟨⟨y,h,h1⟩,⟨y,h,h2⟩⟩,λ_ _ ⟨y,h,h1⟩=>⟨y,h,h1⟩,λ_ ⟨y,h,h1⟩=>⟨y,h,h1⟩⟩
def oX:Code->Nat
 |.seq a b=>oX a+oX b
 |.cond _ a b=>oX a+oX b
 |.block _ a=>oX a
 |.loop a=>oX a
 |.scope a=>oX a
 |.rangeFunc _ _ _ _=>1
 |_=>0
theorem Zki:∀{c:Code} (y:Array Tmp×Code×Code),oX c=0->wV y c:=by
 intro c
 induction c with
 |seq a b FL FM=>intro y h;simp only[oX]at h;exact⟨FL y (by omega),FM y (by omega)⟩
 |cond x a b FL FM=>intro y h;simp only[oX]at h;exact⟨FL y (by omega),FM y (by omega)⟩
 |block i a ih=>intro y h;exact ih y h
 |loop a ih=>intro y h;exact ih y h
 |scope a ih=>intro y h;exact ih y h
 |rangeFunc g ps x b _ _=>intro y h;simp[oX]at h
 |_=>intro y h;trivial
theorem yT:∀{c:Code} {y:Array Tmp×Code×Code},oX c<=1->sY c=some y->wV y c/\1<=oX c:=by
 intro c
 have two:∀{a b:Code} {y:Array Tmp×Code×Code},(∀{y},oX a<=1->sY a=some y->wV y a/\1<=oX a)->(∀{y},oX b<=1->sY b=some y->wV y b/\1<=oX b)->oX a+oX b<=1->(match sY a with|some x=>some x|none=>sY b)=some y->(wV y a/\wV y b)/\1<=oX a+oX b:=by
  intro a b y FL FM h hy
  cases ha:sY a with
  |some x=>
   rw[ha]at hy
   cases hy
   obtain⟨h1,h2⟩:=FL (by omega) ha
   exact⟨⟨h1,Zki _ (by omega)⟩,by omega⟩
  |none=>
   rw[ha]at hy
   obtain⟨h1,h2⟩:=FM (by omega) hy
   exact⟨⟨Zki _ (by omega),h1⟩,by omega⟩
 induction c with
 |seq a b FL FM=>intro y h hy;exact two FL FM h hy
 |cond x a b FL FM=>intro y h hy;exact two FL FM h hy
 |block i a ih=>intro y h hy;exact ih h hy
 |loop a ih=>intro y h hy;exact ih h hy
 |scope a ih=>intro y h hy;exact ih h hy
 |rangeFunc g ps x b _ _=>intro y h hy;simp only[sY,Option.some.injEq]at hy;exact⟨hy,aX _⟩
 |_=>intro y h hy;simp[sY]at hy
def rfB(f:Nat)(fn:Func):Bool:=match fn.body with
 |some c=>gD (oX c) 1&&(gD YB f&&(match sY c with|some y=>bX y.1.size 1|none=>false))
 |none=>false
theorem HG{f:Nat}(h:rfB f fn=true)(hy:AI f=FN (WC f) fn):∀code,fn.body=some code->RF (some f) fn.ntmps code:=by
 intro code hb
 unfold rfB at h
 unfold FN at hy
 simp only[hb,aE]at h hy
 obtain⟨h1,h2,h3⟩:=h
 split at h3
 ·rename_i y hf
  rw[hf]at hy
  exact⟨_,⟨hy,aX _,rfl,lE h2,bE h3⟩,(yT (lE h1) hf).1⟩
 ·cases h3
def Ctx.out(c:Ctx)(ex:List Nat)(rows:List Row):Ctx:=
 { ρ:=λi=>match ex[i]? with|some r=>c.ρ r|none=>c.ρ i,R:=λi=>rows[i]?,V:=λi=>match ex[i]? with|some r=>c.R r=none\/c.V r|none=>True,
   I:=λb=>c.I b\/ ∃r row,c.R r=some row/\ ¬c.V r/\row.box=false/\KB ex r=true/\c.ρ r=b,base:=c.base,top:=c.top,X:=c.X}
theorem Qy(h:j6 ex i r=true):ex[i]?=some r:=by
 unfold j6 at h
 split at h
 ·rename_i x hx;rw[hx,bE h]
 ·cases h
theorem Zqq(h:ID ex R i=true):∃r,ex[i]?=some r/\R.getD r none=none:=by
 unfold ID at h
 split at h
 ·rename_i r hr
  refine⟨r,hr,?_⟩
  split at h
  ·assumption
  ·cases h
 ·cases h
theorem Zba(h:KB ex r=true):r∉ex:=by
 intro hm
 have:=List.all_eq_true.1 h r hm
 simp at this
theorem QM{ex:List Nat}{m:Nat}{R:Rows}:∀{rs:List Nat} {ps:List Row},lW ex m R rs ps->rs.length=ps.length/\∀(i r:Nat) (p:Row),rs[i]?=some r->ps[i]?=some p->
 (∃row,R.getD r none=some row/\row.box=p.box/\row.ty=p.ty/\row.sz=p.sz/\(if p.box then∃e e',row.es=.gen [e]/\p.es=.gen [e']/\DN ex m R e e' else row.es.l=p.es.l))\/(R.getD r none=none/\p.box=false/\p.es.l=[]/\0<p.sz)
 |[],[],_=>⟨rfl,λi r p h=>by simp at h⟩
 |[],_::_,h=>h.elim
 |_::_,[],h=>h.elim
 |r ::rs,⟨box,ty,sz,es⟩::ps,h=>by
  simp only[lW]at h
  obtain⟨h1,h2⟩:=h
  obtain⟨g1,g2⟩:=QM h2
  refine⟨by simp[g1],λi q p hq hp=>?_⟩
  cases i with
  |succ i=>exact g2 i q p (by simpa using hq) (by simpa using hp)
  |zero=>
   simp at hq hp
   subst hq;subst hp
   split at h1
   ·rename_i Am jS j5 iT hR
    simp only[dd,aE]at h1
    obtain⟨⟨⟨e1,e2⟩,e3⟩,h1⟩:=h1
    refine .inl ⟨_,hR,by cases box<;>cases Am<;>simp_all,(bE e2).symm,(bE e3).symm,?_⟩
    cases box with
    |false=>simpa using ai.Aj h1
    |true=>
     simp only[if_true]
     simp only at h1
     split at h1
     ·exact⟨_,_,rfl,rfl,h1⟩
     ·exact h1.elim
   ·rename_i hR
    simp only[dd,aE,bB]at h1
    exact .inr ⟨hR,h1.1.1,ai.ov.1 h1.2,lE h1.1.2⟩
theorem SR{c:Ctx}{rows:List Row}(hR:∀r,c.R r=R.getD r none)(db:lW ex m R ex rows){i r o f:Nat}(hx:j6 ex i r=true)(hr:dc c w (.ptr r o f) v):dc (c.out ex rows) w (.ptr i o f) v:=by
 obtain⟨row,g1,gV,g2,hv⟩:=hr
 have hi:=Qy hx
 obtain⟨hl,ir⟩:=QM db
 have bd:=(List.getElem?_eq_some_iff.1 hi).1
 have hp:rows[i]?=some rows[i]:=aI (by omega)
 rcases ir i r _ hi hp with⟨ao,k1,k2,k3,k4,k5⟩|⟨k1,_⟩
 ·have:ao=row:=by rw[hR,k1]at g1;exact Option.some.inj g1
  subst this
  refine⟨_,hp,by simp[Ctx.out,hi,g1,gV],?_,by simp only[Ctx.out,hi];rw[hv,k4]⟩
  split at k5
  ·obtain⟨e,e',q1,q2,_⟩:=k5
   rw[q1]at g2;rw[q2];exact g2
  ·rw[<-k5];exact g2
 ·rw[hR,k1]at g1;cases g1
theorem Zql{c:Ctx}{w:World}{ex:List Nat}{m:Nat}{R:Rows}{rows:List Row}(hR:∀r,c.R r=R.getD r none)(db:lW ex m R ex rows):∀{ps qs:List (Nat×Nat×Nat)} {us:List Value},sA ex ps qs=true->Mu c qs us->Mu (c.out ex rows) ps us
 |[],[],_,_,h=>by rename_i us _;cases us<;>exact h
 |(i,b,d)::l,(r,y,z)::q,u::us,h,hr=>by
  simp only[sA,aE]at h
  obtain⟨h1,h2,h3,h4⟩:=h
  have e2:=bE h2;have e3:=bE h3
  subst e2;subst e3
  exact⟨SR (w:=w) hR db h1 hr.1,Zql (w:=w) hR db h4 hr.2⟩
 |(_,_,_)::_,(_,_,_)::_,[],_,h=>h.elim
 |[],_::_,_,h,_=>by simp[sA]at h
 |_::_,[],_,h,_=>by simp[sA]at h
theorem vT{c:Ctx}{rows:List Row}(hR:∀r,c.R r=R.getD r none)(db:lW ex m R ex rows):∀{cs ds:List iB} {us:List Value},o9 ex cs ds=true->oL c w ds us->oL (c.out ex rows) w cs us:=by
 intro cs
 induction cs with
 |nil=>intro ds us h hr;cases ds<;>cases us<;>first|exact hr|(simp[o9]at h;done)
 |cons x cs ih=>
  intro ds us h hr
  cases ds with
  |nil=>cases x<;>simp[o9]at h
  |cons y ds=>
   cases us with
   |nil=>exact hr.elim
   |cons u us=>
    cases x<;>cases y<;>simp only[o9,aE,aA]at h
    ·obtain⟨h1,h2,h3,h4⟩:=h
     have e2:=bE h2;have e3:=bE h3
     subst e2;subst e3
     exact⟨SR (w:=w) hR db h1 hr.1,ih h4 hr.2⟩
    ·obtain⟨h1,h2,h3⟩:=h
     have e1:=bE h1
     subst e1
     obtain⟨⟨ws,hv,hw⟩,UA⟩:=hr
     exact⟨⟨ws,Mk (c:=c) (c':=c.out ex rows) (w':=w) (λb hb=>⟨Or.inl hb,rfl⟩) hv,Zql (w:=w) hR db h2 hw⟩,ih h3 UA⟩
section
variable {c:Ctx} {w:World} {ex:List Nat} {m:Nat} {R:Rows} {rows:List Row}
theorem ZO(hm:Mem c w)(hR:∀r,c.R r=R.getD r none)(db:lW ex m R ex rows)(eu:∀r row,c.R r=some row->¬c.V r->m<=r->c.base<=c.ρ r){d p:D}(h:iI ex m R d p)(hr:dc c w d v):dc (c.out ex rows) w p v:=by
 have nH:∀b,c.I b->(c.out ex rows).I b/\w.heap[b]?=w.heap[b]? :=λb hb=>⟨.inl hb,rfl⟩
 obtain⟨hl,ir⟩:=QM db
 have rowOf:∀i r row,ex[i]?=some r->c.R r=some row->∃p,rows[i]?=some p/\row.box=p.box/\row.ty=p.ty/\row.sz=p.sz/\row.es.l.length=p.es.l.length/\(c.out ex rows).ρ i=c.ρ r/\((c.out ex rows).V i↔c.V r):=by
  intro i r row hi cz
  have bd:=(List.getElem?_eq_some_iff.1 hi).1
  have hp:rows[i]?=some rows[i]:=aI (by omega)
  rcases ir i r _ hi hp with⟨ao,g1,g2,g3,g4,g5⟩|⟨g1,_⟩
  ·have:ao=row:=by rw[hR,g1]at cz;exact Option.some.inj cz
   subst this
   refine⟨_,hp,g2,g3,g4,?_,by simp[Ctx.out,hi],by simp[Ctx.out,hi,cz]⟩
   split at g5
   ·obtain⟨e,e',k1,k2,_⟩:=g5
    rw[k1,k2];rfl
   ·rw[g5]
  ·rw[hR,g1]at cz;cases cz
 have Nv:∀i a,ID ex R i=true->v=.slice a 0 0->CI c.top a->dc (c.out ex rows) w (.all i) v:=by
  intro i a hv DZ dx
  obtain⟨r,hi,hrn⟩:=Zqq hv
  have bd:=(List.getElem?_eq_some_iff.1 hi).1
  have hp:rows[i]?=some rows[i]:=aI (by omega)
  rcases ir i r _ hi hp with⟨ao,g1,_⟩|⟨g1,g2,g3,g4⟩
  ·rw[hrn]at g1;cases g1
  ·exact⟨_,hp,g2,.inl ⟨by simp only[Ctx.out,hi];exact .inl (by rw[hR];exact g1),a,DZ,dx⟩⟩
 cases p<;>simp only[iI]at h
 case int k n=>
  split at h
  ·simp only[dd,decide_eq_true_eq]at h;obtain⟨rfl,rfl⟩:=h;exact hr
  ·exact h.elim
 case bool b=>
  split at h
  ·subst h;exact hr
  ·exact h.elim
 case str s=>
  split at h
  ·subst h;exact hr
  ·exact h.elim
 case iw=>
  split at h
  ·exact hr
  ·exact h.elim
 case c7=>
  split at h
  ·exact hr
  ·exact h.elim
 case emp=>
  split at h
  ·exact⟨none,hr,Nn⟩
  ·exact hr
  ·exact h.elim
 case jI=>
  split at h
  ·exact hr
  ·exact h.elim
 case gj f cs=>
  split at h
  ·simp only[dd,aE]at h
   obtain⟨⟨h1,h2⟩,_⟩:=h
   have e1:=bE h1
   subst e1
   obtain⟨us,hv,hu⟩:=hr
   exact⟨us,Mk (c:=c) (c':=c.out ex rows) (w':=w) (λb hb=>⟨Or.inl hb,rfl⟩) hv,vT hR db h2 hu⟩
  ·exact h.elim
 case ptr i o f=>
  split at h
  ·simp only[dd,aE]at h
   obtain⟨⟨h1,h2,h3⟩,_⟩:=h
   have e2:=bE h2;have e3:=bE h3
   subst e2;subst e3
   exact SR (w:=w) hR db h1 hr
  ·exact h.elim
 case gk i=>
  have go:∀r,j6 ex i r=true->dc c w (.gk r) v->dc (c.out ex rows) w (.gk i) v:=by
   intro r hx hr
   rcases hr with hr|⟨row,g1,gV,g2,hv⟩
   ·exact .inl hr
   ·have hi:=Qy hx
    obtain⟨p,hp,q1,q2,q3,q4,q5,q6⟩:=rowOf i r row hi g1
    exact .inr ⟨p,hp,λe=>gV (q6.1 e),by rw[<-q4];exact g2,by rw[hv,q5,q3]⟩
  split at h
  ·exact .inl hr
  ·simp only[dd]at h;exact go _ h.1 hr
  ·simp only[dd,aE]at h
   obtain⟨⟨h1,h2,h3⟩,_⟩:=h
   have e2:=bE h2;have e3:=bE h3
   subst e2;subst e3
   exact go _ h1 (.inr hr)
  ·exact h.elim
 case dead=>exact dc.one hr
 case sl sz es fr=>
  split at h
  ·have h:=ai.ov.1 h;exact⟨none,0,by rw[h];exact hr,by rw[h];exact aX _,.inl h⟩
  ·have h:=ai.ov.1 h;obtain⟨a,hr,_⟩:=hr;exact⟨a,0,by rw[h];exact hr,by rw[h];exact aX _,.inl h⟩
  ·rename_i j5 iT fr'
   simp only[dd,Bool.or_eq_true,bB]at h
   obtain⟨hf,hs,he⟩:=h
   have he:=ai.Aj he
   obtain⟨a,cap,hv,hc,gy⟩:=hr
   rw[he]at hv hc gy
   refine⟨a,cap,hv,hc,?_⟩
   rcases gy with gy|⟨b,off,arr,ty,fz,ha,hI,Ul,hh,hE⟩
   ·exact .inl gy
   ·rcases hs with hs|rfl
    ·exact .inl (by rw[<-he];exact ai.ov.1 hs)
    ·exact .inr ⟨b,off,arr,ty,fz,ha,.inl hI,λe=>Ul (by rcases hf with hf|hf<;>simp_all),hh,nC nH _ _ _ _ hE⟩
  ·rename_i r
   split at h
   ·rename_i box ty j5 iT ZP
    simp only[dd,aE,bB]at h
    obtain⟨⟨⟨⟨hb,hs⟩,ho⟩,JG⟩,AJ⟩:=h
    have AJ:=ai.Aj AJ
    have hs:=bE hs
    have JG:=lE JG
    obtain⟨row,g1,g2,hv⟩:=hr
    have:row=⟨box,ty,j5,iT⟩:=by rw[hR,ZP]at g1;exact(Option.some.inj g1).symm
    subst this
    subst hs
    rcases hv with⟨hV,a,hv,_⟩|⟨hV,cap,arr,hv,g3,g4,g5,g6⟩
    ·have he:=(hm.nA g1 hV).2.1
     simp only at he
     rw[he]at AJ
     exact⟨a,0,by rw[<-AJ];exact hv,by rw[<-AJ];exact aX _,.inl AJ.symm⟩
    obtain⟨iG,jC,iS,hx⟩:=hm.real g1 hV
    rw[g5]at jC;cases jC
    simp only[hb,aA,if_false]at hx
    simp only at hv g3 hx
    rw[AJ]at hv g3 hx
    exact⟨_,cap,hv,g3,.inr ⟨_,0,arr,_,_,rfl,.inr ⟨r,_,g1,hV,hb,ho,rfl⟩,λ_=>eu r _ g1 hV JG,g5,nC nH _ _ _ _ hx⟩⟩
   ·exact h.elim
  ·rename_i r o n
   split at h
   ·rename_i box ty j5 iT ZP
    simp only[dd,aE,bB]at h
    obtain⟨⟨⟨⟨hb,hs⟩,ho⟩,JG⟩,AJ⟩:=h
    have AJ:=ai.Aj AJ
    rw[ai.iW,ai.kh]at AJ
    have hs:=bE hs
    have JG:=lE JG
    obtain⟨row,g1,g2,g5,hv⟩:=hr
    have:row=⟨box,ty,j5,iT⟩:=by rw[hR,ZP]at g1;exact(Option.some.inj g1).symm
    subst this
    subst hs
    simp only at g5
    have pF:((iT.l.drop o).take n).length=n:=by simp only[List.length_take,List.length_drop];omega
    rw[AJ]at pF
    rcases hv with⟨h0,a,hv,_⟩|⟨hV,cap,arr,g3,g4,g6,hv,g7⟩
    ·subst h0
     have h0:=List.eq_nil_of_length_eq_zero pF
     exact⟨a,0,by rw[pF];exact hv,by omega,.inl h0⟩
    obtain⟨iG,jC,iS,hx⟩:=hm.real g1 hV
    rw[g6]at jC;cases jC
    simp only[hb,aA,if_false]at hx
    have hE:=Mb (n:=n) (Kn (l:=o) hx)
    rw[AJ]at hE
    exact⟨_,cap,by rw[pF];exact hv,by omega,.inr ⟨_,o*j5,arr,_,_,rfl,.inr ⟨r,_,g1,hV,hb,ho,rfl⟩,λ_=>eu r _ g1 hV JG,g6,nC nH _ _ _ _ (by simpa using hE)⟩⟩
   ·exact h.elim
  ·exact h.elim
 case all i=>
  split at h
  ·rename_i r
   simp only[dd]at h
   obtain⟨row,g1,g2,hv⟩:=hr
   obtain⟨p,k1,k2,k3,k4,k5,k6,k7⟩:=rowOf i r row (Qy h.1) g1
   refine⟨p,k1,by rw[<-k2];exact g2,?_⟩
   rcases hv with⟨hV,hv⟩|⟨hV,cap,arr,hv,g3,g4,g5,g6⟩
   ·exact .inl ⟨k7.2 hV,hv⟩
   ·exact .inr ⟨λe=>hV (k7.1 e),cap,arr,by rw[hv,k5,k6],by rw[<-k5];exact g3,g4,by rw[k6,<-k3];exact g5,by rw[<-k4];exact g6⟩
  ·simp only[dd]at h
   exact Nv i none h.1 hr Nn
  ·simp only[dd]at h
   obtain⟨a,hr,ho⟩:=hr
   exact Nv i a h.1 hr ho
  ·exact h.elim
 case own i o n=>
  split at h
  ·rename_i r o' n'
   simp only[dd]at h
   obtain⟨hx,rfl,rfl⟩:=h
   obtain⟨row,g1,g2,g5,hv⟩:=hr
   obtain⟨p,k1,k2,k3,k4,k5,k6,k7⟩:=rowOf i r row (Qy hx) g1
   refine⟨p,k1,by rw[<-k2];exact g2,by rw[<-k5];exact g5,?_⟩
   rcases hv with⟨h0,a,hv,jn⟩|⟨hV,cap,arr,g3,g4,g6,hv,g7⟩
   ·exact .inl ⟨h0,a,hv,jn.mono (aX _) k7 k6⟩
   ·exact .inr ⟨λe=>hV (k7.1 e),cap,arr,g3,g4,by rw[k6,<-k3];exact g6,by rw[k6,<-k4];exact hv,by rw[<-k4];exact g7⟩
  ·exact h.elim
theorem Zhn(hm:Mem c w)(hR:∀r,c.R r=R.getD r none)(db:lW ex m R ex rows)(eu:∀r row,c.R r=some row->¬c.V r->m<=r->c.base<=c.ρ r):∀{ds ps:List D} {vs:List Value},DN ex m R ds ps->jk c w ds vs->jk (c.out ex rows) w ps vs
 |[],[],[],_,_=>trivial
 |[],[],_::_,_,h=>h.elim
 |[],_::_,_,h,_=>h.elim
 |_::_,[],_,h,_=>h.elim
 |_::_,_::_,[],_,h=>h.elim
 |d::ds,p::ps,v::vs,h,hr=>⟨ZO hm hR db eu h.1 hr.1,Zhn hm hR db eu h.2 hr.2⟩
theorem Zpb(hm:Mem c w)(hR:∀r,c.R r=R.getD r none)(db:lW ex m R ex rows)(eu:∀r row,c.R r=some row->¬c.V r->m<=r->c.base<=c.ρ r){d p:D}(h:pb ex m R d p)(hr:VRep c w d v):VRep (c.out ex rows) w p v:=by
 cases p with
 |agg ps=>
  simp only[pb]at h
  cases d<;>simp only at h
  obtain⟨vs,hv,hx⟩:=hr
  exact⟨vs,hv,Zhn hm hR db eu h hx⟩
 |_=>
  simp only[pb]at h
  refine VRep.EA (ZO hm hR db eu h (VRep.toC ?_ hr))
  intro cs e
  subst e
  simp[iI,cu,D.HH]at h
theorem Zk3(hm:Mem c w)(hR:∀r,c.R r=R.getD r none)(db:lW ex m R ex rows)(eu:∀r row,c.R r=some row->¬c.V r->m<=r->c.base<=c.ρ r):∀{ds ps:List D} {vs:List Value},wz ex m R ds ps->kd c w ds vs->kd (c.out ex rows) w ps vs
 |[],[],[],_,_=>trivial
 |[],[],_::_,_,h=>h.elim
 |[],_::_,_,h,_=>h.elim
 |_::_,[],_,h,_=>h.elim
 |_::_,_::_,[],_,h=>h.elim
 |d::ds,p::ps,v::vs,h,hr=>⟨Zpb hm hR db eu h.1 hr.1,Zk3 hm hR db eu h.2 hr.2⟩
theorem SS(hm:Mem c w)(hR:∀r,c.R r=R.getD r none)(db:lW ex m R ex rows)(eu:∀r row,c.R r=some row->¬c.V r->m<=r->c.base<=c.ρ r){d p:D}(h:sw ex m R d p)(hr:Rep c w d v):Rep (c.out ex rows) w p v:=by
 cases p with
 |dw ps=>
  simp only[sw]at h
  cases d<;>simp only at h
  obtain⟨vs,hv,hx⟩:=hr
  exact⟨vs,hv,Zk3 hm hR db eu h hx⟩
 |dead=>trivial
 |_=>
  simp only[sw]at h
  refine Rep.Ks (Zpb hm hR db eu h (Rep.toV ?_ ?_ hr))
  ·intro ds e;subst e;simp[pb,iI]at h
  ·intro e;subst e;simp[pb,iI]at h
theorem Z57(hm:Mem c w)(hR:∀r,c.R r=R.getD r none)(db:lW ex m R ex rows)(eu:∀r row,c.R r=some row->¬c.V r->m<=r->c.base<=c.ρ r):∀{ds ps:List D} {arr:Array Value} {off:Nat},DN ex m R ds ps->kF c w ds arr off->kF (c.out ex rows) w ps arr off
 |[],[],_,_,_,_=>trivial
 |[],_::_,_,_,h,_=>h.elim
 |_::_,[],_,_,h,_=>h.elim
 |d::ds,p::ps,arr,off,h,hr=>⟨by obtain⟨⟨v,hv,hx⟩,_⟩:=hr;exact⟨v,hv,ZO hm hR db eu h.1 hx⟩,Z57 hm hR db eu h.2 hr.2⟩
theorem Z1q:∀{ds ps:List D},DN ex m R ds ps->ds.length=ps.length
 |[],[],_=>rfl
 |[],_::_,h=>h.elim
 |_::_,[],h=>h.elim
 |_::_,_::_,h=>by simp[Z1q h.2]
theorem xar(hm:Mem c w)(hR:∀r,c.R r=R.getD r none)(db:lW ex m R ex rows)(eu:∀r row,c.R r=some row->¬c.V r->m<=r->c.base<=c.ρ r)(kW:ex.Nodup):Mem (c.out ex rows) w:=by
 have nH:∀b,c.I b->(c.out ex rows).I b/\w.heap[b]?=w.heap[b]? :=λb hb=>⟨.inl hb,rfl⟩
 obtain⟨hl,ir⟩:=QM db
 have inv:∀i p,(c.out ex rows).R i=some p->∃r,ex[i]?=some r/\(c.out ex rows).ρ i=c.ρ r/\((∃row,c.R r=some row/\row.box=p.box/\row.ty=p.ty/\row.sz=p.sz/\((c.out ex rows).V i↔c.V r)/\(if p.box then∃e e',row.es=.gen [e]/\p.es=.gen [e']/\DN ex m R e e' else row.es.l=p.es.l))\/((c.out ex rows).V i/\p.box=false/\p.es.l=[]/\0<p.sz)):=by
  intro i p hp
  have QN:rows[i]?=some p:=hp
  have bd:=(List.getElem?_eq_some_iff.1 QN).1
  have hi:ex[i]?=some ex[i]:=aI (by omega)
  refine⟨_,hi,by simp[Ctx.out,hi],?_⟩
  rcases ir i _ p hi QN with⟨row,g1,g2,g3,g4,g5⟩|⟨g1,g2⟩
  ·have cz:c.R ex[i]=some row:=by rw[hR];exact g1
   exact .inl ⟨row,cz,g2,g3,g4,by simp[Ctx.out,hi,cz],g5⟩
  ·exact .inr ⟨by simp only[Ctx.out,hi];exact .inl (by rw[hR];exact g1),g2⟩
 refine⟨λi p hp=>?_,λi j p q hp hq v1 v2 he=>?_,λb hb=>?_,hm.top,hm.jU.mono nH⟩
 ·obtain⟨r,g1,g6,⟨row,g2,g3,g4,g5,gV,g7⟩|⟨gV,g2⟩⟩:=inv i p hp
  ·rcases hm.row r row g2 with⟨h0,h1,h2,h3⟩|⟨h0,arr,ha,hs,hx⟩
   ·refine .inl ⟨gV.2 h0,by rw[<-g3];exact h1,?_,by rw[<-g5];exact h3⟩
    rw[if_neg (by rw[<-g3,h1];simp)]at g7
    rw[<-g7];exact h2
   refine .inr ⟨λe=>h0 (gV.1 e),arr,by rw[g6,<-g4];exact ha,by rw[<-g5];exact hs,?_⟩
   split
   ·rename_i hb
    rw[if_pos hb]at g7
    rw[if_pos (g3.trans hb)]at hx
    obtain⟨e,e',k1,k2,k3⟩:=g7
    obtain⟨e0,q1,q2,q3,q4⟩:=hx
    rw[k1]at q1;cases q1
    exact⟨e',k2,by rw[<-Z1q k3,<-g5];exact q2,by rw[<-g5];exact q3,Z57 hm hR db eu k3 q4⟩
   ·rename_i hb
    rw[if_neg hb]at g7
    rw[if_neg (by rw[g3];exact hb)]at hx
    rw[<-g7,<-g5]
    exact nC nH _ _ _ _ hx
  ·exact .inl ⟨gV,g2⟩
 ·obtain⟨r,g1,g6,⟨row,g2,_,_,_,gV,_⟩|⟨gV,_⟩⟩:=inv i p hp
  ·obtain⟨s,k1,k6,⟨ao,k2,_,_,_,kV,_⟩|⟨kV,_⟩⟩:=inv j q hq
   ·rw[g6,k6]at he
    have:r=s:=hm.inj r s _ _ g2 k2 (λe=>v1 (gV.2 e)) (λe=>v2 (kV.2 e)) he
    subst this
    exact(List.getElem?_inj (List.getElem?_eq_some_iff.1 g1).1 kW).1 (g1.trans k1.symm)
   ·exact(v2 kV).elim
  ·exact(v1 gV).elim
 ·rcases hb with hb|⟨r,row,hr,hV,wM,ho,rfl⟩
  ·refine⟨(hm.fe b hb).1,λi p hp v=>?_⟩
   obtain⟨r,g1,g6,⟨row,g2,_,_,_,gV,_⟩|⟨gV,_⟩⟩:=inv i p hp
   ·rw[g6]
    exact(hm.fe b hb).2 r row g2 (λe=>v (gV.2 e))
   ·exact(v gV).elim
  ·refine⟨hm.lt hr hV,λi p hp v=>?_⟩
   obtain⟨s,g1,g6,⟨ao,g2,_,_,_,gV,_⟩|⟨gV,_⟩⟩:=inv i p hp
   ·rw[g6]
    intro e
    have:=hm.inj s r _ _ g2 hr (λe=>v (gV.2 e)) hV e
    subst this
    exact Zba ho (fL g1)
   ·exact(v gV).elim
end
theorem Zph:∀{l m:List Nat},Mv l m=true->l=m
 |[],[],_=>rfl
 |x::l,y::m,h=>by
  simp only[Mv,aE]at h
  rw[bE h.1,Zph h.2]
 |[],_::_,h=>by cases h
 |_::_,[],h=>by cases h
theorem qas(h:sx M ex=true):ex.Nodup/\(∀i,i<M->ex[i]?=some i)/\∀i r,ex[i]?=some r->(i=r/\i<M)\/M<=r:=by
 unfold sx at h
 simp only[aE]at h
 obtain⟨⟨h1,h2⟩,h3⟩:=h
 replace h1:=Zph h1
 replace h2:∀r∈ex.drop M,M<=r:=λr hr=>lE (List.all_eq_true.1 h2 r hr)
 replace h3:=Mg.1 h3
 have he:ex=cW M++ex.drop M:=by rw[<-h1,List.take_append_drop]
 generalize hq:ex.drop M=q at he h2 h3
 subst he
 refine⟨?_,λi hi=>by rw[bI (by simpa using hi)];simp[hi],λi r hr=>?_⟩
 ·rw[List.nodup_append]
  exact⟨List.nodup_range,h3,λx hx y hy=>by simp at hx;have:=h2 y hy;omega⟩
 ·by_cases bd:i<M
  ·rw[bI (by simpa using bd)]at hr
   simp[bd]at hr
   exact .inl ⟨hr,bd⟩
  ·rw[List.getElem?_append_right (by simpa using bd)]at hr
   exact .inr (h2 r (fL hr))
theorem SU{c0:Ctx}{c:Ctx}(hs:ff N M c0 w0 c w st a){aj:List Row}(hex:sx M ex=true)(db:lW ex M st.rows ex aj):
 (∀r row,c.R r=some row->¬c.V r->M<=r->c.base<=c.ρ r)/\Mem (c.out ex aj) w/\Ab c0 w0 (c.out ex aj) w:=by
 obtain⟨kW,hid,hinv⟩:=qas hex
 obtain⟨hl,ir⟩:=QM db
 have Bj:c.base=c0.base:=hs.reach.cy.base
 have Df:∀r row,c.R r=some row->¬c.V r->M<=r->c0.X (c.ρ r)\/w0.heap.size<=c.ρ r:=λr row h1 v h2=>by
  rcases hs.reach.om r row h1 v with⟨⟨x,hx⟩,_⟩|h3
  ·have:=hs.gr r x hx;omega
  ·exact h3
 have eu:∀r row,c.R r=some row->¬c.V r->M<=r->c.base<=c.ρ r:=λr row h1 v h2=>by
  have:=hs.fw
  rcases Df r row h1 v h2 with h|h
  ·have:=hs.reach.xb _ h;omega
  ·omega
 refine⟨eu,xar hs.mem hs.rows db eu kW,⟨hs.reach.cy.base,hs.reach.cy.top,λb ie=>?_,λr row hr=>?_⟩,hs.reach.fr,λb ie=>?_,λi p hp v=>?_,hs.reach.xb⟩
 ·obtain⟨h1,h2⟩:=hs.reach.cy.I b ie
  exact⟨.inl h1,h2⟩
 ·have bd:r<M:=hs.gr r row hr
  obtain⟨QO,g1,g2,g3,g4,g5,g6,gV,g7⟩:=hs.reach.cy.R r row hr
  have hi:=hid r bd
  have mQ:=(List.getElem?_eq_some_iff.1 hi).1
  have hp:aj[r]?=some aj[r]:=aI (by omega)
  rcases ir r r _ hi hp with⟨jz,k1,k2,k3,k4,k5⟩|⟨k1,_⟩
  ·have:jz=QO:=by rw[hs.rows,k1]at g1;exact Option.some.inj g1
   subst this
   refine⟨_,hp,k2.symm.trans g2,k3.symm.trans g3,k4.symm.trans g4,?_,by simp[Ctx.out,hi,g6],by simp[Ctx.out,hi,g1,gV],g7⟩
   rw[<-g5]
   split at k5
   ·obtain⟨e,e',q1,q2,_⟩:=k5
    rw[q1,q2];rfl
   ·rw[k5]
  ·rw[hs.rows,k1]at g1;cases g1
 ·rcases ie with h1|⟨r,row,hr,hV,wM,ho,rfl⟩
  ·exact hs.reach.fe b h1
  ·refine .inr ?_
   have:M<=r:=by
    by_cases bd:r<M
    ·exact(Zba ho (fL (hid r bd))).elim
    ·omega
   exact Df r row hr hV this
 ·have QN:aj[i]?=some p:=hp
  have bd:=(List.getElem?_eq_some_iff.1 QN).1
  have hi:ex[i]?=some ex[i]:=aI (by omega)
  simp only[Ctx.out,hi,not_or]at v⊢
  obtain⟨v1,v2⟩:=v
  rcases ir i _ _ hi QN with⟨jz,k1,k2,k3,k4,k5⟩|⟨k1,_⟩
  ·have HI:c.R ex[i]=some jz:=by rw[hs.rows];exact k1
   rcases hinv i _ hi with⟨h1,h2⟩|h1
   ·rcases hs.reach.om _ _ HI v2 with⟨h3,h4,h5⟩|h3
    ·left
     rw[<-h1]at h3 h4
     refine⟨h3,h4,h5.trans ?_⟩
     rw[<-h1]
    ·exact .inr h3
   ·exact .inr (Df _ _ HI v2 h1)
  ·exact(v1 (by rw[hs.rows];exact k1)).elim
theorem WI:∀{env:List (Nat×D)} {t k:Nat},k∈CQ (look env t)->k∈Ak env
 |[],t,k,h=>by simp[look,CQ,Fz,AB]at h
 |(u,d)::l,t,k,h=>by
  rw[AT]at h
  simp only[Ak,cB]
  split at h
  ·exact .inl h
  ·exact .inr (WI h)
theorem WJ:∀{R:Rows} {r:Nat} {x:Row} {k:Nat},R.getD r none=some x->k∈kB [x]->k∈GB R
 |some y::l,0,x,k,h,hk=>by
  simp at h;subst h
  simp only[GB,cB];exact .inl hk
 |none::l,0,x,k,h,hk=>by simp at h
 |y::l,r+1,x,k,h,hk=>by
  have:=WJ (R:=l) (r:=r) (by simpa[aV]using h) hk
  cases y<;>simp[GB,this]
 |[],r,x,k,h,_=>by simp[aV]at h
theorem VRep.toRep{c:Ctx}{d:D}(h:VRep c w d v):Rep c w d v:=by
 cases d<;>first|exact h|trivial|exact h.elim
theorem Rep.toVRep{c:Ctx}{d:D}(hv:d.isVal=true)(h:Rep c w d v):VRep c w d v:=by
 cases d<;>first|exact h|(simp[D.isVal]at hv)
theorem kd.length{c:Ctx}{w:World}:∀{ds:List D} {vs:List Value},kd c w ds vs->ds.length=vs.length
 |[],[],_=>rfl
 |_::_,_::_,h=>by simp[kd.length h.2]
 |[],_::_,h=>h.elim
 |_::_,[],h=>h.elim
theorem Z46:∀{ds:List D} {i t:Nat},(∃j,t=i+j/\j<ds.length/\look (FO ds i) t=ds.getD j .dead)\/look (FO ds i) t=.dead
 |[],i,t=>.inr rfl
 |d ::ds,i,t=>by
  simp only[FO,AT]
  by_cases e:i=t
  ·left;exact⟨0,by omega,by simp,by rw[if_pos e];rfl⟩
  ·rw[if_neg e]
   rcases Z46 (ds:=ds) (i:=i+1) (t:=t)with⟨j,h1,h2,h3⟩|h
   ·left;exact⟨j+1,by omega,by simpa using h2,by simpa using h3⟩
   ·right;exact h
theorem Zqi{c:Ctx}{ds:List D}(h:kd c w ds vs)(n t:Nat):Rep c w (look (FO ds 0) t) ((vs.toArray++gE n undef).getD t undef):=by
 rcases Z46 (ds:=ds) (i:=0) (t:=t)with⟨j,h1,h2,h3⟩|h1
 ·obtain⟨v,hv,hr⟩:=Y4 h j h2
  rw[h3]
  have:t=j:=by omega
  subst this
  have hx:(vs.toArray++gE n undef).getD t undef=v:=by
   have bd:=(List.getElem?_eq_some_iff.1 hv).1
   have hvv:=(List.getElem?_eq_some_iff.1 hv).2
   simp[Array.getElem?_append,bd,hvv]
  rw[hx]
  exact hr.toRep
 ·rw[h1];trivial
theorem Zss{t:TypeId}{x:D}{K:D->Rows->Prop}(h:wR T t x R K){c:Ctx}(hr:Rep c w x v):∃a,v=.pointer (some a):=by
 unfold wR at h
 split at h
 ·exact h.elim
 ·cases x<;>simp only at h
  case ptr r i off=>obtain⟨_,_,_,_,hv⟩:=hr;exact⟨_,hv⟩
  case pa r i off len k n=>obtain⟨_,_,_,_,_,hv⟩:=hr;exact⟨_,hv⟩
  case im sz es i off=>obtain⟨_,_,_,_,_,hv,_⟩:=hr;exact⟨_,hv⟩
def Mw(tmps:Array Value):ResultVar->Sem Value
 |.tmp t=>pure (tmps.getD t undef)
 |.cell a t=>do loadVar t (<-asAddr (tmps.getD a undef))
theorem U7{P:Program}{T:iu}(hT:jg P T){R:Rows}{env:List (Nat×D)}:∀{l:List ResultVar} {K:List D->Prop},FP T R env l K->
 ∃ds,K ds/\∀c w (tmps:Array Value),Mem c w->mn c R->(∀t,Rep c w (look env t) (tmps.getD t undef))->∃vs,(l.mapM (Mw tmps)).run P w=.ok vs w/\kd c w ds vs
 |[],K,h=>⟨[],h,λc w tmps _ _ _=>⟨[],rfl,trivial⟩⟩
 |.tmp t::l,K,h=>by
  simp only[FP,D.c6,dd]at h
  obtain⟨hv,h⟩:=h
  obtain⟨ds,hK,hr⟩:=U7 hT h
  refine⟨_,hK,λc w tmps hm hA he=>?_⟩
  obtain⟨vs,h1,h2⟩:=hr c w tmps hm hA he
  refine⟨tmps.getD t undef::vs,?_,(he t).toVRep hv,h2⟩
  simp only[gG,Sem.run_bind,Mw,Sem.run_pure,Result.andThen_ok,h1]
 |.cell a t::l,K,h=>by
  simp only[FP]at h
  obtain⟨val,U8,DH⟩:=Zil hT h
  simp only[dd]at U8
  obtain⟨hv,U8⟩:=U8
  obtain⟨ds,hK,hr⟩:=U7 hT U8
  refine⟨_,hK,λc w tmps hm hA he=>?_⟩
  obtain⟨vs,h1,h2⟩:=hr c w tmps hm hA he
  obtain⟨u,hu,hx⟩:=DH c w _ hm hA (he a)
  obtain⟨ad,had⟩:=Zss h (he a)
  rw[had,UQ]at hu
  refine⟨u::vs,?_,hx.toVRep hv,h2⟩
  simp only[gG,Sem.run_bind,Mw,had,asAddr,Sem.run_pure,Result.andThen_ok,hu,h1]
def Dg:List Value->Value
 |[v]=>v
 |vs=>.tuple vs.toArray
theorem Z44{tmps:Array Value}(h:(fn.results.toList.mapM (Mw tmps)).run P w=.ok vs w):(results fn tmps).run P w=.ok (Dg vs) w:=by
 have h2:(fn.results.mapM (Mw tmps)).run P w=.ok vs.toArray w:=by
  rw[<-bW (xs:=fn.results),List.mapM_toArray]
  simp only[Sem.run_map,h,Result.andThen_ok]
 have h3:(results fn tmps)=(fn.results.mapM (Mw tmps))>>=λvs=>pure (if h:vs.size=1 then vs[0]else .tuple vs):=by
  unfold results
  congr 1
 rw[h3,Sem.run_bind,h2]
 simp only[Result.andThen_ok,Sem.run_pure]
 congr 1
 match vs with
 |[]=>rfl
 |[v]=>rfl
 |_::_::_=>rfl
theorem ff.Np{c0:Ctx}{c:Ctx}(hs:ff N M c0 w0 c w st a){b:Nat}(hb:w0.heap.size<=b){o o':Obj}(ho:w.heap[b]?=some o)(hc:∀arr ty fz,o≠.cells arr ty fz)
 {Fk:Nat->Prop} (gF:∀k ws v,Fk k->rT c w k ws v->rT {c with I:=λx=>c.I x/\x≠b} (w.putObj b o') k ws v) (hE:∀t,∀k∈CQ (look st.env t),Fk k) (hR:∀r x,c.R r=some x->∀k∈kB [x],Fk k) {ds:List Deferred} (hd:mf w0.heap.size (w.putObj b o') ds):
 ff N M c0 w0 {c with I:=λx=>c.I x/\x≠b} (w.putObj b o') st {a with defers:=ds}:=by
 have cz:∀r x,c.R r=some x->¬c.V r->c.ρ r≠b:=λr x hr hV e=>by
  rcases hs.mem.row r x hr with h|⟨_,arr,h,_⟩
  ·exact hV h.1
  ·rw[e,ho]at h;exact hc _ _ _ (Option.some.inj h)
 have hh:∀r x,c.R r=some x->¬c.V r->(w.putObj b o').heap[c.ρ r]?=w.heap[c.ρ r]? :=λr x hr hV=>World.putObj_heap_other (cz r x hr hV)
 have hg:Jy c w {c with I:=λx=>c.I x/\x≠b} (w.putObj b o'):=by
  refine⟨rfl,aX _,λx arr ty fz hI hx=>?_,λr x hr=>⟨x,hr,rfl,rfl,rfl,rfl,rfl,Iff.rfl,λhV arr ha=>⟨arr,(hh r x hr hV).trans ha,rfl⟩⟩⟩
  have gq:x≠b:=λe=>by subst e;rw[ho]at hx;exact hc _ _ _ (Option.some.inj hx)
  exact⟨⟨hI,gq⟩,(World.putObj_heap_other gq).trans hx⟩
 have jD:∀x,c0.I x->x≠b:=λx hx e=>by
  obtain⟨h1,h2⟩:=hs.reach.cy.I x hx
  have h3:=(hs.mem.fe x h1).1
  rw[e,ho]at h2
  have:=(Array.getElem?_eq_some_iff.1 h2.symm).1
  omega
 refine⟨Y1 hs.mem hg hh gF hR (λx hx=>⟨by simpa using(hs.mem.fe x hx.1).1,(hs.mem.fe x hx.1).2⟩) (by simp),hs.rows,λt=>Zpm hg gF (hE t) (hs.env t),hs.size,hd,hs.fw,hs.gr,?_⟩
 refine⟨⟨hs.reach.cy.base,hs.reach.cy.top,λx hx=>?_,λr row hr=>?_⟩,⟨hs.reach.fr.os,hs.reach.fr.tape,hs.reach.fr.output,by simpa using hs.reach.fr.size,λx hx hn=>?_⟩,λx hx=>hs.reach.fe x hx.1,hs.reach.om,hs.reach.xb⟩
 ·obtain⟨h1,h2⟩:=hs.reach.cy.I x hx
  exact⟨⟨h1,jD x hx⟩,(World.putObj_heap_other (jD x hx)).trans h2⟩
 ·obtain⟨ao,h1,h2,h3,h4,h5,h6,hV,h7⟩:=hs.reach.cy.R r row hr
  refine⟨ao,h1,h2,h3,h4,h5,h6,hV,λnv arr ha=>?_⟩
  obtain⟨iG,g1,g2⟩:=h7 nv arr ha
  refine⟨iG,?_,g2⟩
  rw[World.putObj_heap_other]
  ·exact g1
  ·intro e;rw[e,ho]at g1;exact hc _ _ _ (Option.some.inj g1)
 ·rw[World.putObj_heap_other (by omega)];exact hs.reach.fr.heap x hx hn
theorem ff.edit{c0:Ctx}{c:Ctx}(hs:ff N M c0 w0 c w st a)(hI:c0.I l){rec:Loop}(ho:w0.heap[l]?=some (.loop rec))(Dh:∀r x,c0.R r=some x->¬c0.V r->c0.ρ r≠l)
 (nh:rb (Ak st.env++GB st.rows)=true):ff N M {c0 with I:=λx=>c0.I x/\x≠l} (w0.putObj l o') {c with I:=λx=>c.I x/\x≠l} (w.putObj l o') st a:=by
 have hl:w.heap[l]?=some (.loop rec):=(hs.reach.cy.I l hI).2.trans ho
 have ZQ:=(Array.getElem?_eq_some_iff.1 ho).1
 have bd:=(Array.getElem?_eq_some_iff.1 hl).1
 have cz:∀r x,c.R r=some x->¬c.V r->c.ρ r≠l:=λr x hr hV=>(hs.mem.fe l (hs.reach.cy.I l hI).1).2 r x hr hV
 have hh:∀r x,c.R r=some x->¬c.V r->(w.putObj l o').heap[c.ρ r]?=w.heap[c.ρ r]? :=λr x hr hV=>World.putObj_heap_other (cz r x hr hV)
 have gF:∀k ws v,k<YB->rT c w k ws v->rT {c with I:=λx=>c.I x/\x≠l} (w.putObj l o') k ws v:=λk ws v hk hv=>by
  rcases hv with hv|⟨hv,_⟩
  ·exact .inl hv
  ·omega
 have hg:Jy c w {c with I:=λx=>c.I x/\x≠l} (w.putObj l o'):=by
  refine⟨rfl,aX _,λx arr ty fz hI hx=>?_,λr x hr=>⟨x,hr,rfl,rfl,rfl,rfl,rfl,Iff.rfl,λhV arr ha=>⟨arr,(hh r x hr hV).trans ha,rfl⟩⟩⟩
  have gq:x≠l:=λe=>by subst e;rw[hl]at hx;cases hx
  exact⟨⟨hI,gq⟩,(World.putObj_heap_other gq).trans hx⟩
 refine⟨Y1 hs.mem hg hh gF (λr x hr k hk=>Nq nh (eX _ (WJ (by rw[<-hs.rows];exact hr) hk))) (λx hx=>⟨by simpa using(hs.mem.fe x hx.1).1,(hs.mem.fe x hx.1).2⟩) (by simp),hs.rows,λt=>Zpm hg gF (λk hk=>Nq nh (eS _ (WI hk))) (hs.env t),hs.size,?_,by simpa using hs.fw,hs.gr,?_⟩
 ·have:=hs.defers.to (w':=w.putObj l o') λb hb=>(World.putObj_heap_other λe=>by rw[e,hl]at hb;cases hb).trans hb
  simpa using this
 refine⟨⟨hs.reach.cy.base,hs.reach.cy.top,λx hx=>?_,λr row hr=>?_⟩,⟨hs.reach.fr.os,hs.reach.fr.tape,hs.reach.fr.output,by simpa using hs.reach.fr.size,λx hx hn=>?_⟩,λx hx=>?_,λr row hr hv=>?_,hs.reach.xb⟩
 ·obtain⟨h1,h2⟩:=hs.reach.cy.I x hx.1
  exact⟨⟨h1,hx.2⟩,(World.putObj_heap_other hx.2).trans (h2.trans (World.putObj_heap_other hx.2).symm)⟩
 ·obtain⟨ao,h1,h2,h3,h4,h5,h6,hV,h7⟩:=hs.reach.cy.R r row hr
  refine⟨ao,h1,h2,h3,h4,h5,h6,hV,λnv arr ha=>?_⟩
  rw[World.putObj_heap_other (Dh r row hr nv)]at ha
  obtain⟨iG,g1,g2⟩:=h7 nv arr ha
  refine⟨iG,?_,g2⟩
  rw[World.putObj_heap_other]
  ·exact g1
  ·intro e;rw[e,hl]at g1;cases g1
 ·by_cases e:x=l
  ·subst e;rw[World.putObj_heap_same bd,World.putObj_heap_same ZQ]
  ·rw[World.putObj_heap_other e,World.putObj_heap_other e]
   exact hs.reach.fr.heap x (by simpa using hx) hn
 ·rcases hs.reach.fe x hx.1 with g|g|g
  ·exact .inl ⟨g,hx.2⟩
  ·exact .inr (.inl g)
  ·exact .inr (.inr (by simpa using g))
 ·rcases hs.reach.om r row hr hv with g|g|g
  ·exact .inl g
  ·exact .inr (.inl g)
  ·exact .inr (.inr (by simpa using g))
theorem leaves{P:Program}{fn:Func}{R:Ending->World->Prop}{N M:Nat}{c0:Ctx}{w0:World}{c:Ctx}{w:World}{st:St}{a:Act}(hs:ff N M c0 w0 c w st a)
 (h:∀c' w' a',a'.tmps=a.tmps->ff N M c0 w0 c' w' st a'->∃v,(results fn a'.tmps).run P w'=.ok v w'/\R (.returned v) w'):LeavesInM Fence.wide 0 P fn a.tmps R a.defers .returning w:=by
 obtain⟨bs,kW,Ek,U9⟩:=hs.defers
 revert c w a
 induction bs with
 |nil=>
  intro c w a hs h Ek U9
  rw[Ek]
  obtain⟨v,h1,h2⟩:=h c w a rfl hs
  exact⟨v,h1,h2⟩
 |cons b bs ih=>
  intro c w a hs h Ek U9
  obtain⟨h1,h2⟩:=U9 b (by simp)
  rw[List.nodup_cons]at kW
  rw[Ek]
  refine⟨by simp,.inl ⟨b,_,rfl,run_takeDeferred h2,?_⟩⟩
  have QP:∀x∈bs,w0.heap.size<=x/\(w.putObj b (.deferred none)).heap[x]?=some (.deferred (some [])):=λx hx=>by
   obtain⟨g1,g2⟩:=U9 x (by simp[hx])
   exact⟨g1,(World.putObj_heap_other (λe=>kW.1 (by rw[<-e];exact hx))).trans g2⟩
  refine ih kW.2 (a:={a with defers:=bs.map λb=>({target:=.collected b,args:= #[]}:Deferred)}) (hs.Np h1 h2 (λ_ _ _ e=>by cases e) (Fk:=λ_=>True) (λk ws v _ hv=>?_) (λ_ _ _=>trivial) (λ_ _ _ _ _=>trivial) ⟨bs,kW.2,rfl,QP⟩) h rfl QP
  rcases hv with hv|⟨g1,l,rec,g2,g3,g4,g5⟩
  ·exact .inl hv
  ·have gq:l≠b:=λe=>by rw[e,h2]at g4;cases g4
   exact .inr ⟨g1,l,rec,g2,⟨g3,gq⟩,(World.putObj_heap_other gq).trans g4,g5⟩
theorem yv(hD:pD P)(hT:jg P T)(hG:jA P G)(hf:P.funcs[f]?=some fn){args:List D}{rows:List Row}{res:D}{aj:List Row}
 {rf:Option Nat} (mM:∀code,fn.body=some code->RF rf fn.ntmps code) {L:Code->St->(Ex->St->Prop)->Prop} (hL:∀code st Q,RF rf fn.ntmps code->L code st Q->Tr P fn.ntmps rows.length code st Q) {Q0:D->Rows->Prop} (Di:∀d R,Q0 d R->Ao rows.length res aj d R) (h:kf T G L fn args rows Q0):kq P f args rows res aj:=by
 intro c w vs hm jh hR ft
 unfold kf at h
 split at h
 ·rename_i code hb
  have hs:ff fn.ntmps rows.length {c with X:=λ_=>False} w c w ⟨FO args 0,rows.map some⟩ {tmps:=vs.toArray++gE (fn.ntmps-vs.toArray.size) undef,defers:=[]}:=
   ⟨hm,λr=>by
    rw[hR]
    simp only[aV,gH]
    cases rows[r]? <;>rfl,λt=>Zqi ft _ t,by simp;omega,mf.nil,Nat.le_of_eq jh,λr row h=>by have h:c.R r=some row:=h;rw[hR]at h;exact(List.getElem?_eq_some_iff.1 h).1,Ab.refl c w⟩
  refine callsIn_wide.1 (callsIn_of_wp_marks (F:=Fence.wide) (n:=0) hf hb trivial (wpIn_mono (Nr (ro:=none) hD hT hG (Ns rf fn.ntmps) hL code _ _ (mM _ hb) h _ w c w _ hs) λe a' w' hq=>?_))
  obtain⟨ex,st,c1,he,hq,kv⟩:=hq
  have fin:(FP T st.rows st.env fn.results.toList λds=>match ds with|[d]=>Q0 d st.rows|ds=>Q0 (.dw ds) st.rows)->
   LeavesInM Fence.wide 0 P fn a'.tmps (λe w'=>∃v' c',e=.returned v'/\lT c w c' w'/\(∀r,c'.R r=aj[r]?)/\Rep c' w' res v') a'.defers .returning w':=by
   intro kP
   refine leaves kv λc1 w' a' jC kv=>?_
   obtain⟨ds,hK,hr⟩:=U7 hT kP
   have o5:mn c1 st.rows:=λr row ao h1 h2=>by rw[kv.rows,h2]at h1;exact(Option.some.inj h1).symm
   obtain⟨us,ij,Dj⟩:=hr c1 w' a'.tmps kv.mem o5 kv.env
   have sZ:=Z44 ij
   obtain⟨d,v,JH,hv,oB⟩:∃d v,Ao rows.length res aj d st.rows/\Dg us=v/\Rep c1 w' d v:=by
    match ds,us,Dj with
    |[d],[u],hx=>exact⟨d,u,Di _ _ hK,rfl,hx.1.toRep⟩
    |[],[],hx=>exact⟨.dw [],_,Di _ _ hK,rfl,[],rfl,trivial⟩
    |d::e::ds,u::v::us,hx=>exact⟨.dw (d::e::ds),_,Di _ _ hK,rfl,_,rfl,hx⟩
    |[],_::_,hx=>exact hx.elim
    |[_],[],hx=>exact hx.elim
    |[_],_::_::_,hx=>exact hx.2.elim
    |_::_::_,[],hx=>exact hx.elim
    |_::_::_,[_],hx=>exact hx.2.elim
   rw[hv]at sZ
   obtain⟨ex,hex,hd,db⟩:=JH
   obtain⟨eu,jc,fu⟩:=SU kv hex db
   exact⟨v,sZ,v,c1.out _ aj,rfl,⟨jc,⟨fu.cy.base,fu.cy.top,fu.cy.I,fu.cy.R⟩,fu.fr.mono (λb _ hb=>hb.elim id False.elim),λb hb=>(fu.fe b hb).imp id (λh=>h.elim False.elim id),λr ao h1 h2=>(fu.om r ao h1 h2).imp id (λh=>h.elim False.elim id)⟩,λr=>rfl,SS kv.mem kv.rows db eu hd oB⟩
  cases e<;>simp only[mV,Option.some.injEq,reduceCtorEq]at he
  ·subst he;exact fin hq
  ·subst he;exact hq.elim
  ·subst he;exact fin hq
 ·exact h.elim
theorem y8{rows:List Row}{c:Ctx}{c':Ctx}{w':World}(jc:Mem c' w')(fu:Ab {c.kill (bO k (rows.length-k))with X:=λb=>∃s row,da s (bO k (rows.length-k))=true/\c.R s=some row/\¬c.V s/\c.ρ s=b} w c' w'):
 jK (bO k (rows.length-k)) c w c' w':=by
 refine⟨jc,⟨fu.cy.base,fu.cy.top,fu.cy.I,fu.cy.R⟩,fu.fr.mono (λb _ hb=>?_),λb hb=>fu.fe b hb,λr ao h1 h2=>?_⟩
 ·rcases hb with⟨r,x,h1,h2,h3⟩|⟨r,x,_,h1,h2,h3⟩
  ·obtain⟨_,row,g1,_⟩:=nj (c:=c) (ks:=bO k (rows.length-k)) h1
   exact⟨r,row,g1,h2,h3⟩
  ·exact⟨r,x,h1,h2,h3⟩
 ·rcases fu.om r ao h1 h2 with⟨⟨x,g1⟩,g2,g3⟩|⟨s,x,q1,q2,q3,q4⟩|g
  ·obtain⟨_,row,p1,_⟩:=nj (c:=c) (ks:=bO k (rows.length-k)) g1
   exact .inl ⟨⟨row,p1⟩,g2,g3⟩
  ·exact .inr (.inl ⟨s,x,q1,q2,q3,q4.symm⟩)
  ·exact .inr (.inr g)
theorem Zp5:∀{rows:List Row} {r:Nat} {x:Row} {k:Nat},rows[r]?=some x->k∈kB [x]->k∈kB rows
 |y::l,0,x,k,h,hk=>by
  simp at h;subst h
  unfold kB at hk⊢
  split<;>simp_all [kB]
 |y::l,r+1,x,k,h,hk=>by
  have:=Zp5 (rows:=l) (by simpa using h) hk
  unfold kB
  split<;>simp_all
 |[],r,x,k,h,_=>by simp at h
theorem Zon{c:Ctx}{w:World}{tm oZ:Array Value}:∀{ts:List Nat} {ds:List D},kd c w ds (ts.map λt=>tm.getD t undef)->(∀t∈ts,oZ.getD t undef=tm.getD t undef)->∀t,Rep c w (look (oF ts ds) t) (oZ.getD t undef)
 |[],ds,_,_,t=>by cases ds<;>trivial
 |u::ts,[],h,_,t=>h.elim
 |u::ts,d::ds,h,ht,t=>by
  simp only[oF,AT]
  split
  ·rename_i e;rw[<-e,ht u (by simp)];exact h.1.toRep
  ·exact Zon h.2 (λt h=>ht t (by simp[h])) t
theorem vv{F:Fence}{y:YK}(hd:y.pos=some d){x:Value}(hn:y.n<=tm.size){K:Act->World->Prop}
 (hK:∀oZ,oZ.size=tm.size->oZ.getD d undef=x->(∀t∈y.ts,oZ.getD t undef=tm.getD t undef)->K {tmps:=oZ,defers:=[]} w):
 y.assign.wpIn (AW (some l)) 0 P (Exit.then K λ_ _ _=>False) {tmps:=(y.ps.zip #[x]).foldl (λtmps (t,a)=>tmps.setIfInBounds t a) tm,defers:=[]} w:=by
 have dv:∀(p:Nat) (JI:Array Value) (t:Nat),t≠p->(JI.setIfInBounds p x).getD t undef=JI.getD t undef:=λp JI t h=>by
  simp[aQ,aZ (Ne.symm h)]
 have here:∀(p:Nat) (JI:Array Value),p<JI.size->(JI.setIfInBounds p x).getD p undef=x:=λp JI h=>by
  simp[aQ,h]
 unfold YK.pos at hd
 split at hd
 ·rename_i p kY has
  have kY:y.ps= #[p]:=by rw[<-bW (xs:=y.ps),kY]
  split at hd
  ·rename_i hc
   cases hd
   simp only[aE,gI,bB]at hc
   have hp:d<tm.size:=bM (lE hc.1) hn
   rw[has,kY]
   refine wpIn_skip (hK _ (by simp) ?_ λt ht=>?_)
   ·simpa using here d tm hp
   ·have:=dv d tm t (λe=>by have:=(hc.2 t ht).1;rw[e]at this;simp at this)
    simpa using this
  ·cases hd
 ·rename_i p id ops kY has
  have kY:y.ps= #[p]:=by rw[<-bW (xs:=y.ps),kY]
  split at hd
  ·rename_i e q ty po af Dk
   have Dk:ops= #[⟨some e,.assign (.tmp q),ty,po,af,none⟩]:=by rw[<-bW (xs:=ops),Dk]
   split at hd
   ·rename_i hc
    cases hd
    simp only[aE,gI,bB]at hc
    obtain⟨⟨hq,hp,hd⟩,EF⟩:=hc
    have hq:=bE hq
    subst hq
    have hp:q<tm.size:=bM (lE hp) hn
    have hd:d<tm.size:=bM (lE hd) hn
    rw[has,kY,Dk]
    refine Zgz ?_
    show wpOp P _ _ 0 _ _ _
    unfold wpOp
    simp only[List.getElem?_toArray,List.getElem?_cons_zero]
    rw[if_pos (by simp[Region.wanted])]
    refine Gx (u:=x) (w':=w) ?_ ?_
    ·have:(tm.setIfInBounds q x).getD q undef=x:=here q tm hp
     simp only[execOp,Act.eval]
     simp[aQ,hp]
    ·show K {tmps:=Array.setIfInBounds _ d x,defers:=[]} w
     refine hK _ (by simp) ?_ λt ht=>?_
     ·exact here d _ (by simpa using hd)
     ·have h1:=(EF t ht).1
      rw[dv d _ t (λh=>by rw[h]at h1;simp at h1)]
      have:=dv q tm t (λh=>by rw[h]at h1;simp at h1)
      simpa using this
   ·cases hd
  ·cases hd
 ·cases hd
inductive o4(P:Program)(f:FuncId)(fn:Func)(cl:Prop):Prop where
 |real (h:f<YB) (hf:P.funcs[f]?=some fn) (hb:gD YB fn.nfree=false)
 |yield (h:YB<=f) (y:YK) (d:Nat) (hy:AI f=some y) (hd:y.pos=some d) (hb:fn.body=some y.body) (hn:gD YB fn.nfree=true) (QQ:bX fn.nfree YB=true) (hp:fn.params.toList=d::y.ts) (ht:fn.ntmps=y.n) (hc:cl)
 |uW (h:YB<=f) (y:YK) (q:Nat) (hy:AI f=some y) (kY:y.ps= #[q]) (hq:(Nat.blt q y.n&&y.ts.all λt=>!(bX t q))=true) (hb:fn.body=some (.seq y.assign y.body)) (hn:gD YB fn.nfree=true) (QQ:bX fn.nfree YB=false) (hp:fn.params.toList=q::y.ts) (ht:fn.ntmps=y.n) (hc:cl)
theorem JJ{rows:List Row}{c:Ctx}{env:List (Nat×D)}(hm:Mem c w)(jh:c.base=0)(hR:∀r,c.R r=rows[r]?)(ta:∀t,Rep c w (look env t) (tm.getD t undef))(fp:N<=tm.size):
 ff N k {c.kill (bO k (rows.length-k))with X:=λb=>∃s row,da s (bO k (rows.length-k))=true/\c.R s=some row/\¬c.V s/\c.ρ s=b} w c w ⟨env,rows.map some⟩ {tmps:=tm,defers:=[]}:=by
 refine⟨hm,λr=>by
  rw[hR]
  simp only[aV,gH]
  cases rows[r]? <;>rfl,ta,fp,mf.nil,by simp[Ctx.kill,jh],λr row h=>?_,⟨⟨rfl,aX _,λ_ h=>⟨h,rfl⟩,λr x hx=>?_⟩,Fr.refl _ w,λ_ h=>.inl h,λr row hr hv=>?_,λ_ _=>by simp[Ctx.kill,jh]⟩⟩
 ·obtain⟨h1,ao,h2,_⟩:=nj (c:=c) (ks:=bO k (rows.length-k)) h
  rw[hR]at h2
  have bd:=(List.getElem?_eq_some_iff.1 h2).1
  by_cases hk:r<k
  ·exact hk
  ·rw[Me.2 (by omega)]at h1;cases h1
 ·obtain⟨_,row,h2,rfl⟩:=nj (c:=c) (ks:=bO k (rows.length-k)) hx
  obtain⟨s1,s2,s3,s4⟩:=wq (bO k (rows.length-k)) row
  exact⟨row,h2,s1.symm,s2.symm,s3.symm,s4.symm,rfl,Iff.rfl,λ_ arr ha=>⟨arr,by rw[s2]at ha⊢;exact ha,rfl⟩⟩
 ·cases hb:da r (bO k (rows.length-k))with
  |true=>exact .inr (.inl ⟨r,row,hb,hr,hv,rfl⟩)
  |false=>exact .inl ⟨⟨row.kill (bO k (rows.length-k)),by simp[Ctx.kill,hb,hr]⟩,hv,rfl⟩
theorem Zhq{c:Ctx}{tm oZ:Array Value}{ps:List Nat}{ts:List Nat}(Dl:ps=d::ts){args:List D}{vs us:List Value}{x:Value}(BQ:vs=[x]++us)(tM:us=ts.map λt=>tm.getD t undef)(ft:kd c w args vs)(hx:oZ.getD d undef=x)(EF:∀t∈ts,oZ.getD t undef=tm.getD t undef):
 ∀t,Rep c w (look (oF ps args) t) (oZ.getD t undef):=by
 subst Dl
 subst BQ
 match args,ft with
 |[],hx=>exact hx.elim
 |A::As,⟨hA,hAs⟩=>
  intro t
  simp only[oF,AT]
  split
  ·rename_i e;rw[<-e,hx];exact hA.toRep
  ·exact Zon (by rw[tM]at hAs;exact hAs) EF t
theorem Zcp(hD:pD P)(hT:jg P T)(hG:jA P G){rows:List Row}{res:D}{aj:List Row}{L:Code->St->(Ex->St->Prop)->Prop}(hL:∀ro code st Q,L code st Q->tV ro P n k code st Q){Q0:D->Rows->Prop}(Di:∀d R,Q0 d R->Ao k res aj d R)
 {c:Ctx} {w:World} {l:Nat} {rec:Loop} (hm:Mem c w) (hI:c.I l) (hl:w.heap[l]?=some (.loop rec)) (jV:rec.state=.ready) (DL:rec.pending=none) {st:St} {c2:Ctx} {w2:World} {a:Act}
 (hs:ff n k {({c with I:=λb=>c.I b/\b≠l}:Ctx).kill (bO k (rows.length-k))with X:=λb=>∃s row,da s (bO k (rows.length-k))=true/\c.R s=some row/\¬c.V s/\c.ρ s=b} (w.putObj l (.loop {rec with state:=.busy})) c2 w2 st a)
 (h:o8 T G n k L code st λe st=>match e with|.normal=>Q0 (.bool true) st.rows|_=>False):
 code.wpIn (AW (some l)) 0 P (roundPost P l λe w'=>∃v' c',e=.returned v'/\jK (bO k (rows.length-k)) c w c' w'/\(∀r,c'.R r=aj[r]?)/\Rep c' w' res v') a w2:=by
 have bd:=(Array.getElem?_eq_some_iff.1 hl).1
 obtain⟨ĉ,hĉ⟩:∃ĉ:Ctx,ĉ={c with I:=λb=>c.I b/\b≠l}:=⟨_,rfl⟩
 obtain⟨wb,JK⟩:∃wb,wb=w.putObj l (.loop {rec with state:=.busy}):=⟨_,rfl⟩
 have cz:∀r x,c.R r=some x->¬c.V r->c.ρ r≠l:=λr x hr hV=>(hm.fe l hI).2 r x hr hV
 have JL:∀b,b≠l->wb.heap[b]?=w.heap[b]? :=λb hb=>by rw[JK];exact World.putObj_heap_other hb
 have h2l:wb.heap[l]?=some (.loop {rec with state:=.busy}):=by rw[JK];exact World.putObj_heap_same bd
 have FQ:wb.heap.size=w.heap.size:=by rw[JK];simp
 have hs:ff n k {ĉ.kill (bO k (rows.length-k))with X:=λb=>∃s row,da s (bO k (rows.length-k))=true/\ĉ.R s=some row/\¬ĉ.V s/\ĉ.ρ s=b} wb c2 w2 st a:=by rw[hĉ,JK];exact hs
 refine wpIn_mono (Nr (ro:=some l) hD hT hG (Ns none n) (λcode st Q _ hl=>hL (some l) code st Q hl) code _ _ trivial h _ wb c2 w2 _ hs) λe a' w3 hq=>?_
 obtain⟨ex,st,c1,he,hq,kv⟩:=hq
 cases e<;>simp only[mV,Option.some.injEq,reduceCtorEq]at he<;>subst he
 rotate_left
 ·exact hq.elim
 ·exact hq.elim
 obtain⟨ex,hex,pw,db⟩:=Di _ _ hq
 obtain⟨eu,jc,fu⟩:=SU kv hex db
 have hX:¬({ĉ.kill (bO k (rows.length-k))with X:=λb=>∃s row,da s (bO k (rows.length-k))=true/\ĉ.R s=some row/\¬ĉ.V s/\ĉ.ρ s=b}:Ctx).X l:=fun⟨s,row,_,g1,g2,g3⟩=>by
  rw[hĉ]at g1 g2 g3;exact cz s row g1 g2 g3
 have ZR:w3.heap[l]?=some (.loop {rec with state:=.busy}):=by
  refine(kv.reach.fr.heap l (by rw[FQ];exact bd) λhx=>?_).trans h2l
  rcases hx with⟨r,row,g1,g2,g3⟩|hx
  ·obtain⟨_,ao,g4,_⟩:=nj (c:=ĉ) g1
   rw[hĉ]at g2 g3 g4;exact cz r ao g4 g2 g3
  ·exact hX hx
 have Iw:=(Array.getElem?_eq_some_iff.1 ZR).1
 have EG:=run_endRound (P:=P) none ZR
 refine⟨_,_,EG,_,{c1.out ex aj with I:=λb=>(c1.out ex aj).I b\/b=l},rfl,?_⟩
 have QR:({({rec with state:=.busy}:Loop)with state:=if(none:Option Code).isNone then .ready else .done,pending:=none}:Loop)=rec:=by
  cases rec;simp only at jV DL;subst jV;subst DL;rfl
 rw[QR]
 have nl:¬(c1.out ex aj).I l:=λhx=>by
  rcases fu.fe l hx with h|h|h
  ·obtain⟨h,_⟩:ĉ.I l/\True:=⟨h,trivial⟩
   rw[hĉ]at h;exact h.2 rfl
  ·exact hX h
  ·rw[FQ]at h;omega
 have Dm:∀r x,(c1.out ex aj).R r=some x->¬(c1.out ex aj).V r->(c1.out ex aj).ρ r≠l:=λr x hr hV e=>by
  rcases jc.row r x hr with g|⟨_,arr,g,_⟩
  ·exact hV g.1
  ·rw[e,ZR]at g;cases g
 have Mx:∀b,b≠l->(w3.putObj l (.loop rec)).heap[b]?=w3.heap[b]? :=λb hb=>World.putObj_heap_other hb
 have wx:ja (c1.out ex aj) w3 {c1.out ex aj with I:=λb=>(c1.out ex aj).I b\/b=l} (w3.putObj l (.loop rec)):=
  ⟨rfl,aX _,λb hb=>⟨.inl hb,Mx b (λe=>nl (by rw[<-e];exact hb))⟩,λr x hr=>⟨x,hr,rfl,rfl,rfl,rfl,rfl,Iff.rfl,λhV arr ha=>⟨arr,(Mx _ (Dm r x hr hV)).trans ha,rfl⟩⟩⟩
 have hN:=y8 jc fu
 refine⟨⟨⟨λr x hr=>tz wx rfl Iff.rfl (λnv=>Mx _ (Dm r x hr nv)) (jc.row r x hr),jc.inj,λb hb=>?_,by simpa using jc.top,jc.jU.mono wx.I⟩,⟨?_,?_,λb hb=>?_,λr x hr=>?_⟩,⟨?_,?_,?_,?_,λb hb hn=>?_⟩,λb hb=>?_,λr row hr hv=>?_⟩,λr=>rfl,Ac wx (SS kv.mem kv.rows db eu pw rfl)⟩
 ·rcases hb with hb|hb
  ·simpa using jc.fe b hb
  ·subst hb;exact⟨by simpa using Iw,λr x hr hV=>Dm r x hr hV⟩
 ·have:=hN.cy.base;rw[hĉ]at this;exact this
 ·have:=hN.cy.top;rw[hĉ]at this;exact this
 ·by_cases e:b=l
  ·subst e;exact⟨.inr rfl,by rw[World.putObj_heap_same Iw,hl]⟩
  ·have:=hN.cy.I b (by rw[hĉ];exact⟨hb,e⟩)
   exact⟨.inl this.1,(Mx b e).trans (this.2.trans (JL b e))⟩
 ·have:=hN.cy.R r x (by rw[hĉ];exact hr)
  obtain⟨x',g1,g2,g3,g4,g5,g6,gV,g7⟩:=this
  rw[hĉ]at g6 gV g7
  refine⟨x',g1,g2,g3,g4,g5,g6,gV,λhV arr ha=>?_⟩
  obtain⟨_,x0,q1,_⟩:=nj (c:=c) hr
  have gq:c.ρ r≠l:=cz r x0 q1 hV
  obtain⟨iG,k1,k2⟩:=g7 hV arr ((JL _ gq).trans ha)
  exact⟨iG,(Mx _ gq).trans k1,k2⟩
 ·rw[JK]at hN;exact hN.fr.os
 ·rw[JK]at hN;exact hN.fr.tape
 ·rw[JK]at hN;exact hN.fr.output
 ·have:=hN.fr.size;rw[FQ]at this;simpa using this
 ·by_cases e:b=l
  ·subst e;rw[World.putObj_heap_same Iw,hl]
  ·rw[Mx b e,hN.fr.heap b (by rw[FQ];exact hb) (by rw[hĉ];exact hn),JL b e]
 ·rcases hb with hb|hb
  ·rcases hN.fe b hb with g|g|g
   ·rw[hĉ]at g;exact .inl g.1
   ·rw[hĉ]at g;exact .inr (.inl g)
   ·rw[FQ]at g;exact .inr (.inr g)
  ·subst hb;exact .inl hI
 ·rcases hN.om r row hr hv with g|g|g
  ·rw[hĉ]at g;exact .inl g
  ·rw[hĉ]at g;exact .inr (.inl g)
  ·rw[FQ]at g;exact .inr (.inr g)
theorem zaH(hD:pD P)(hT:jg P T)(hG:jA P G){args:List D}{rows:List Row}{res:D}{aj:List Row}{rf:Option Nat}(hf:o4 P f fn (rb (oC args++kB rows)=true/\rf=none))(mM:∀code,fn.body=some code->RF rf fn.ntmps code)
 {L:Code->St->(Ex->St->Prop)->Prop} (hL:∀ro,(ro=none\/rf=none)->∀code st Q,RF rf fn.ntmps code->L code st Q->tV ro P fn.ntmps k code st Q) {Q0:D->Rows->Prop} (Di:∀d R,Q0 d R->Ao k res aj d R) (h:FR T G L fn args rows Q0 k):tR P f k args rows res aj:=by
 intro c w vs hm jh hR ft
 unfold FR at h
 split at h
 rotate_left
 ·exact h.elim
 rename_i code hb
 cases hf with
 |real bd hf sK=>
  simp only[sK]at h
  refine⟨λ_=>?_,λgh=>absurd bd (Nat.not_lt.2 gh)⟩
  have hs:=JJ (N:=fn.ntmps) (k:=k) (env:=FO args 0) (tm:=vs.toArray++gE (fn.ntmps-vs.toArray.size) undef) hm jh hR (λt=>Zqi ft _ t) (by simp;omega)
  refine callsIn_wide.1 (callsIn_of_wp_marks (F:=Fence.wide) (n:=0) hf hb trivial (wpIn_mono (Nr (ro:=none) hD hT hG (Ns rf fn.ntmps) (hL none (.inl rfl)) code _ _ (mM _ hb) h _ w c w _ hs) λe a' w' hq=>?_))
  obtain⟨ex,st,c1,he,hq,kv⟩:=hq
  have fin:(FP T st.rows st.env fn.results.toList λds=>match ds with|[d]=>Q0 d st.rows|ds=>Q0 (.dw ds) st.rows)->
   LeavesInM Fence.wide 0 P fn a'.tmps (λe w'=>∃v' c',e=.returned v'/\jK (bO k (rows.length-k)) c w c' w'/\(∀r,c'.R r=aj[r]?)/\Rep c' w' res v') a'.defers .returning w':=by
   intro kP
   refine leaves kv λc1 w' a' jC kv=>?_
   obtain⟨ds,hK,hr⟩:=U7 hT kP
   have o5:mn c1 st.rows:=λr row ao h1 h2=>by rw[kv.rows,h2]at h1;exact(Option.some.inj h1).symm
   obtain⟨us,ij,Dj⟩:=hr c1 w' a'.tmps kv.mem o5 kv.env
   have sZ:=Z44 ij
   obtain⟨d,v,JH,hv,oB⟩:∃d v,Ao k res aj d st.rows/\Dg us=v/\Rep c1 w' d v:=by
    match ds,us,Dj with
    |[d],[u],hx=>exact⟨d,u,Di _ _ hK,rfl,hx.1.toRep⟩
    |[],[],hx=>exact⟨.dw [],_,Di _ _ hK,rfl,[],rfl,trivial⟩
    |d::e::ds,u::v::us,hx=>exact⟨.dw (d::e::ds),_,Di _ _ hK,rfl,_,rfl,hx⟩
    |[],_::_,hx=>exact hx.elim
    |[_],[],hx=>exact hx.elim
    |[_],_::_::_,hx=>exact hx.2.elim
    |_::_::_,[],hx=>exact hx.elim
    |_::_::_,[_],hx=>exact hx.2.elim
   rw[hv]at sZ
   obtain⟨ex,hex,hd,db⟩:=JH
   obtain⟨eu,jc,fu⟩:=SU kv hex db
   refine⟨v,sZ,v,c1.out _ aj,rfl,y8 jc fu,λr=>rfl,SS kv.mem kv.rows db eu hd oB⟩
  cases e<;>simp only[mV,Option.some.injEq,reduceCtorEq]at he
  ·subst he;exact fin hq
  ·subst he;exact hq.elim
  ·subst he;exact fin hq
 |yield gh y d hy hd uK ZS JM Dl ZT hc=>
  simp only[ZS,JM]at h
  obtain⟨nh,JN⟩:=hc
  rw[uK]at hb
  cases hb
  refine⟨λbd=>absurd bd (Nat.not_lt.2 gh),λ_ l rec xs us BQ hI hl mX iU=>?_⟩
  obtain⟨jV,DL,y',Ag,kY,has,ZU,QS,h1,tM⟩:=mX
  rw[hy]at Ag;cases Ag
  obtain⟨x,rfl⟩:∃x,xs=[x]:=by
   match xs,iU with
   |[x],_=>exact⟨x,rfl⟩
  rw[kY,has,ZU]
  have real:∀k,k∈oC args++kB rows->k<YB:=λk hk=>Nq nh hk
  have bd:=(Array.getElem?_eq_some_iff.1 hl).1
  have wQ:∀arr ty fz,(Obj.loop rec)≠.cells arr ty fz:=λ_ _ _ e=>by cases e
  obtain⟨ĉ,hĉ⟩:∃ĉ:Ctx,ĉ={c with I:=λb=>c.I b/\b≠l}:=⟨_,rfl⟩
  obtain⟨w2,QT⟩:∃w2,w2=w.putObj l (.loop {rec with state:=.busy}):=⟨_,rfl⟩
  have cz:∀r x,c.R r=some x->¬c.V r->c.ρ r≠l:=λr x hr hV=>(hm.fe l hI).2 r x hr hV
  have JL:∀b,b≠l->w2.heap[b]?=w.heap[b]? :=λb hb=>by rw[QT];exact World.putObj_heap_other hb
  have h2l:w2.heap[l]?=some (.loop {rec with state:=.busy}):=by rw[QT];exact World.putObj_heap_same bd
  have FQ:w2.heap.size=w.heap.size:=by rw[QT];simp
  have hg:Jy c w ĉ w2:=by
   rw[hĉ]
   refine⟨rfl,aX _,λb arr ty fz ie hb=>?_,λr x hr=>⟨x,hr,rfl,rfl,rfl,rfl,rfl,Iff.rfl,λhV arr ha=>⟨arr,(JL _ (cz r x hr hV)).trans ha,rfl⟩⟩⟩
   have gq:b≠l:=λe=>by subst e;rw[hl]at hb;cases hb
   exact⟨⟨ie,gq⟩,(JL b gq).trans hb⟩
  have gF:∀k ws v,k<YB->rT c w k ws v->rT ĉ w2 k ws v:=λk ws v hk hv=>by
   rcases hv with hv|⟨hv,_⟩
   ·exact .inl hv
   ·omega
  have BT:Mem ĉ w2:=by
   rw[hĉ]at hg gF⊢
   refine Y1 hm hg (λr x hr hV=>JL _ (cz r x hr hV)) (Fk:=λk=>k<YB) gF (λr x hr k hk=>real k ?_) (λb hb=>⟨by rw[FQ];exact(hm.fe b hb.1).1,(hm.fe b hb.1).2⟩) (by rw[FQ];exact aX _)
   rw[hR]at hr
   exact eX _ (Zp5 hr hk)
  have JO:kd ĉ w2 args vs:=Y0 hg (Fk:=λk=>k<YB) gF (λk hk=>real k (eS _ hk)) ft
  refine roundIn_of_wpIn (F:=Fence.wide) (n:=0) trivial (vv (F:=Fence.wide) hd (tm:=rec.tmps) QS λoZ fp hx EF=>?_)
  refine⟨w2,by rw[QT];exact run_beginRound hl jV,?_⟩
  have ta:∀t,Rep ĉ w2 (look (oF fn.params.toList args) t) (oZ.getD t undef):=Zhq Dl BQ tM JO hx EF
  have hs:=JJ (N:=fn.ntmps) (k:=k) (env:=oF fn.params.toList args) (tm:=oZ) BT (by rw[hĉ];exact jh) (by rw[hĉ];exact hR) ta (by rw[fp,ZT];exact QS)
  subst JN
  subst QT
  subst hĉ
  exact Zcp hD hT hG (λro code st Q hl=>hL ro (.inr rfl) code st Q trivial hl) Di hm hI hl jV DL hs h
 |uW gh y q hy kY hq uK ZS JM Dl ZT hc=>
  simp only[ZS,JM]at h
  obtain⟨nh,JN⟩:=hc
  subst JN
  rw[uK]at hb
  cases hb
  simp only at h
  refine⟨λbd=>absurd bd (Nat.not_lt.2 gh),λ_ l rec xs us BQ hI hl mX iU=>?_⟩
  obtain⟨jV,DL,y',Ag,ZV,has,ZU,QS,h1,tM⟩:=mX
  rw[hy]at Ag;cases Ag
  obtain⟨x,rfl⟩:∃x,xs=[x]:=by
   match xs,iU with
   |[x],_=>exact⟨x,rfl⟩
  rw[ZV,has,ZU]
  obtain⟨oZ,Va⟩:∃oZ,oZ=rec.tmps.setIfInBounds q x:=⟨_,rfl⟩
  have hz:((y.ps.zip [x].toArray).foldl (λtmps (t,a)=>tmps.setIfInBounds t a) rec.tmps)=oZ:=by rw[kY,Va];simp
  rw[hz]
  simp only[aE,gI,bB]at hq
  have hqs:q<rec.tmps.size:=bM (lE hq.1) QS
  have hx:oZ.getD q undef=x:=by rw[Va];simp[aQ,hqs]
  have EF:∀t∈y.ts,oZ.getD t undef=rec.tmps.getD t undef:=λt ht=>by
   have gq:q≠t:=λe=>by have:=hq.2 t ht;rw[e]at this;simp at this
   rw[Va];simp[aQ,aZ gq]
  have ta:∀t,Rep c w (look (oF fn.params.toList args) t) (oZ.getD t undef):=Zhq Dl BQ tM ft hx EF
  have hs:=JJ (N:=fn.ntmps) (k:=k) (env:=oF fn.params.toList args) (tm:=oZ) hm jh hR ta (by rw[Va,ZT];simpa using QS)
  refine roundIn_of_wpIn (F:=Fence.wide) (n:=0) trivial (wpIn_mono (Nr (ro:=some l) hD hT hG (Ns none fn.ntmps) (λcode st Q _ hl=>hL (some l) (.inr rfl) code st Q trivial hl) y.assign _ _ trivial h _ w c w _ hs) λe a1 w1 hq=>?_)
  obtain⟨ex,st1,c1,he,hq,kv⟩:=hq
  cases e<;>simp only[mV,Option.some.injEq,reduceCtorEq]at he<;>subst he
  rotate_left
  ·exact hq.elim
  ·exact hq.elim
  simp only[dd]at hq
  obtain⟨ZW,hq⟩:=hq
  have SY:w1.heap[l]?=some (.loop rec):=(kv.reach.cy.I l hI).2.trans hl
  have cz:∀r x,(c.kill (bO k (rows.length-k))).R r=some x->¬c.V r->c.ρ r≠l:=λr x hr hV=>by
   obtain⟨_,x0,q1,_⟩:=nj (c:=c) hr
   exact(hm.fe l hI).2 r x0 q1 hV
  exact⟨_,run_beginRound SY jV,Zcp hD hT hG (λro code st Q hl=>hL ro (.inr rfl) code st Q trivial hl) Di hm hI hl jV DL (kv.edit hI hl cz ZW) hq⟩
def D.HJ:D->Bool|.int _ _=>true|.bool _=>true|.str _=>true|.sl _ _ _=>true|.iw=>true|.jI=>true|_=>false
theorem ai.wW(E:ai):ai.Eq E E:=by
 cases E with
 |gen es=>cases es<;>simp[ai.Eq]
 |ah k l=>simp[ai.Eq,Wj]
 |_=>simp[ai.Eq]
theorem qw{d:D}(h:d.HJ=true):iI ex m R d d:=by
 cases d<;>first|(cases h;done)|simp[iI,dd,ai.wW]
def D.mH(n:Nat):D->Bool|.all i=>Nat.blt i n|.c7=>true|.emp=>true|d=>d.HJ
def Row.mH(n:Nat):Row->Bool|⟨false,_,_,_⟩=>true|⟨true,_,_,.gen [e]⟩=>e.all (D.mH n)|_=>false
theorem Zcg(h:i<n):j6 (cW n) i i=true:=by
 simp[j6,List.getElem?_range h]
theorem Zqn{d:D}(h:d.mH n=true):iI (cW n) m R d d:=by
 cases d with
 |all i=>
  simp only[D.mH,Nat.blt_eq]at h
  simp[iI,dd,Zcg h]
 |c7=>simp[iI]
 |emp=>simp[iI]
 |_=>exact qw h
theorem Z7i{n m:Nat}{R:Rows}:∀{e:List D},e.all (D.mH n)=true->DN (cW n) m R e e
 |[],_=>trivial
 |d::e,h=>by
  simp only[gJ,aE]at h
  exact⟨Zqn h.1,Z7i h.2⟩
theorem Qxm{m n:Nat}:∀{post pre:List Row},post.all (Row.mH n)=true->lW (cW n) m ((pre++post).map some) (bO pre.length post.length) post
 |[],_,_=>trivial
 |⟨box,ty,sz,es⟩::post,pre,h=>by
  simp only[gJ,aE]at h
  rw[List.length_cons,List.range'_succ]
  have hR:(((pre++⟨box,ty,sz,es⟩::post).map some:Rows)).getD pre.length none=some ⟨box,ty,sz,es⟩:=by
   simp[aV]
  simp only[lW,hR,dd]
  refine⟨⟨by cases box<;>simp,?_⟩,?_⟩
  ·cases box with
   |false=>exact ai.wW es
   |true=>
    obtain⟨h,_⟩:=h
    cases es with
    |gen l=>
     match l,h with
     |[e],h=>exact Z7i h
    |_=>cases h
  ·have:=Qxm (m:=m) (n:=n) (post:=post) (pre:=pre++[⟨box,ty,sz,es⟩]) h.2
   simpa using this
theorem Zro{rows:List Row}(h:rows.all (Row.mH rows.length)=true):lW (cW rows.length) m (rows.map some) (cW rows.length) rows:=by
 have:=Qxm (m:=m) (n:=rows.length) (post:=rows) (pre:=[]) h
 rwa [List.nil_append,List.length_nil,<-gC]at this
theorem Zby:∀l:List Nat,Mv l l=true
 |[]=>rfl
 |x::l=>by simp[Mv,Zby l]
theorem Zt9(M:Nat):sx M (cW M)=true:=by
 have h1:(cW M).take M=cW M:=List.take_of_length_le (by simp)
 have h2:(cW M).drop M=[]:=List.drop_of_length_le (by simp)
 simp[sx,h1,h2,Zby,CX]
theorem Zct(hD:pD P)(hT:jg P T)(hf:P.funcs[f]?=some fn){args:List D}{rows:List Row}{off:Nat}(h:rows.all (Row.mH rows.length)=true)(h0:0<rows.length)
 (e1:∀Q0:D->GD.Rows->Prop,kf T [] (λ_ _ _=>False) fn args rows (λd R=>Q0 d R)=Q0 (.ptr 0 0 off) (rows.map some)):kq P f args rows (.ptr 0 0 off) rows:=by
 have hG:jA P []:=λx hx=>by cases hx
 have h2:kf T [] (λ_ _ _=>False) fn args rows (λd R=>d=.ptr 0 0 off/\R=rows.map some):=(e1 (λd R=>d=.ptr 0 0 off/\R=rows.map some)).symm▸⟨rfl,rfl⟩
 refine yv hD hT hG hf (rf:=none) (L:=λ_ _ _=>False) (λ_ _=>trivial) (λ_ _ _ _ h=>h.elim) (Q0:=λd R=>d=.ptr 0 0 off/\R=rows.map some) (λd R h=>?_) h2
 obtain⟨rfl,rfl⟩:=h
 refine⟨cW rows.length,Zt9 _,?_,Zro ‹_›⟩
 simp[sw,pb,iI,dd,Zcg h0]

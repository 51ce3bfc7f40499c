import Derived.Test.YtoijmgbahaekiaaGreatTopJournalFb
open List renaming getD->aK,getElem?_eq_none->aM,getElem?_append_left->aZ,getElem?_eq_getElem->cI,mem_of_getElem?->fM,mem_append->bZ,mapM_cons->gE,mem_append_right->gG,mem_append_left->gH,getElem?_map->gI,range'->bL,all_eq_true->gJ
open Nat renaming le_refl->aO,beq->bV,lt_of_lt_of_le->bJ,ble->gK
open Bool renaming not_eq_true'->aS,false_eq_true->aN
open Array renaming replicate->gD,toArray_toList->bU,getD_eq_getD_getElem?->aF,getElem?_setIfInBounds_ne->aQ
set_option linter.all false
namespace Go.GD
open Go
theorem SimS.know{N M:Nat}{c0:Ctx}{w0:World}{c:Ctx}{w:World}{st:St}{a:Act}(h:SimS N M c0 w0 c w st a){x:Operand}{b:Bool}(hb:evOp st.env x=.bool b):SimS N M c0 w0 c w (st.know x b) a:=by
 cases x with
 |tmp t=>exact⟨h.mem,h.rows,λs=>by rw[Qo2 hb];exact h.env s,h.size,h.defers,h.base0,h.own0,h.reach⟩
 |_=>exact h
theorem SimS.knowV{N M:Nat}{c0:Ctx}{w0:World}{c:Ctx}{w:World}{st:St}{a:Act}(h:SimS N M c0 w0 c w st a){x:Operand}{b:Bool}(hb:a.eval x=.bool b):SimS N M c0 w0 c w (st.know x b) a:=by
 cases x with
 |tmp t=>
  refine⟨h.mem,h.rows,λs=>?_,h.size,h.defers,h.base0,h.own0,h.reach⟩
  simp only[St.know,Q9e]
  split
  ·rename_i e;subst e;exact hb
  ·exact h.env s
 |_=>exact h
theorem zn{P:Program}{T:Tab}(hT:Q34 P T){G:List Q09}(hG:Q57 P G){N M:Nat}{ro:Option Nat}{id:Nat}{ops:Array Oper}{st:St}{Q:Ex->St->Prop}(h:Qa1 T G N M ops ops.toList st λst=>Q .normal st):TrR ro P N M (.region id ops false) st Q:=by
 intro c0 w0 c w a hs
 refine Z4e ?_
 have:=yI (P:=P) (ops:=ops) hT hG (Q:=λe a' w'=>∃ex st' c',exOf e=some ex/\Q ex st'/\SimS N M c0 w0 c' w' st' a') (λst c w a hK hs=>⟨_,st,c,rfl,hK,hs⟩) ops.toList 0 st c w a (by simp) h hs
 rwa [<-List.range_eq_range',Array.length_toList]at this
theorem Qrf{c:Ctx}{w:World}{i n:Nat}{row:Row}(hn:c.R n=some row)(hb:row.box=false)(hV:c.V n):∀{e e':List D},Qr9 i n e=some e'->e'.length=e.length/\∀arr off,Q32 c w e arr off->Q32 c w e' arr off
 |[],e',h=>by simp[Qr9]at h
 |d ::l,e',h=>by
  unfold Qr9 at h
  split at h
  ·cases h
   refine⟨rfl,λarr off hc=>?_⟩
   obtain⟨⟨v,hv,h1⟩,⟨u,hu,h2⟩,h3⟩:=hc
   exact⟨⟨v,hv,.inl h1⟩,⟨u,hu,row,hn,hb,.inl ⟨hV,none,h2,Qmq⟩⟩,h3⟩
  ·split at h
   ·rename_i l' hl'
    cases h
    obtain⟨g1,g2⟩:=Qrf hn hb hV hl'
    exact⟨by simp[g1],λarr off hc=>⟨hc.1,g2 arr _ hc.2⟩⟩
   ·cases h
theorem Qrq{n:Nat}:∀{R:Rows} {k i:Nat} {ty:TypeId} {sz:Nat} {e':List D},Qmk n R k=some (i,ty,sz,e')->∃e j,i=k+j/\R[j]?=some (some ⟨true,ty,sz,.gen [e]⟩)/\Qr9 i n e=some e'
 |[],k,i,ty,sz,e',h=>by simp[Qmk]at h
 |x ::l,k,i,ty,sz,e',h=>by
  have next:Qmk n l (k+1)=some (i,ty,sz,e')->∃e j,i=k+j/\(x::l)[j]?=some (some ⟨true,ty,sz,.gen [e]⟩)/\Qr9 i n e=some e':=λh=>by
   obtain⟨e,j,h1,h2,h3⟩:=Qrq h
   exact⟨e,j+1,by omega,by simpa using h2,h3⟩
  unfold Qmk at h
  split at h
  ·split at h
   ·rename_i e1 he
    cases h
    exact⟨_,0,rfl,rfl,he⟩
   ·exact next h
  ·exact next h
theorem yW{N M:Nat}{c0:Ctx}{w0:World}{c:Ctx}{w:World}{st:St}{a:Act}{T:Tab}{code:Code}{K:St->Prop}(h:bldK T code st K)(hs:SimS N M c0 w0 c w st a):∃st' c',K st'/\SimS N M c0 w0 c' w st' a:=by
 unfold bldK at h
 split at h
 ·exact⟨st,c,h,hs⟩
 ·rename_i u hu
  split at h
  ·exact⟨st,c,h,hs⟩
  ·rename_i i ty sz e' hf
   simp only[D.forceL_iff,Q1h]at h
   obtain⟨e,j,h1,h2,h3⟩:=Qrq hf
   rw[Nat.zero_add]at h1
   subst h1
   have hlt:=(List.getElem?_eq_some_iff.1 h2).1
   have hi:c.R i=some ⟨true,ty,sz,.gen [e]⟩:=by rw[hs.rows,aK,h2];rfl
   have hn:c.R st.rows.length=none:=by rw[hs.rows,aK,aM (aO _)];rfl
   have hne:i≠st.rows.length:=by omega
   have hm1:=Z1u hs.mem hn (row:=⟨false,u,1,.ints .u8 []⟩) rfl rfl Nat.one_pos
   have hg1:=Qkg (w:=w) hn ⟨false,u,1,.ints .u8 []⟩
   have hi1:(c.addV st.rows.length ⟨false,u,1,.ints .u8 []⟩).R i=some ⟨true,ty,sz,.gen [e]⟩:=by simp[Ctx.addV,hne,hi]
   obtain⟨q1,q2⟩:=Qrf (c:=c.addV st.rows.length ⟨false,u,1,.ints .u8 []⟩) (w:=w) (row:=⟨false,u,1,.ints .u8 []⟩) (by simp[Ctx.addV]) rfl (.inl rfl) h3
   obtain⟨hg2,hm2⟩:=xc hm1 hi1 q1 (λarr=>q2 arr 0)
   have hg:=hg1.trans hg2
   have hnx:NxtW c w ((c.addV st.rows.length ⟨false,u,1,.ints .u8 []⟩).upd i ⟨true,ty,sz,.gen [e']⟩) w:=by
    refine⟨hm2,hg,Fr.refl _ w,λb hb=>.inl hb,λr row' hr hv=>.inl ?_⟩
    have hr1:r≠st.rows.length:=λe=>hv (.inl e)
    by_cases er:r=i
    ·subst er;exact⟨⟨_,hi⟩,λe=>hv (.inr e),rfl⟩
    ·exact⟨⟨row',by simpa[Ctx.upd,Ctx.addV,er,hr1]using hr⟩,λe=>hv (.inr e),rfl⟩
   refine⟨_,_,h,hm2,λr=>?_,λt=>Q8b hg (hs.env t),hs.size,hs.defers,hs.base0,hs.own0,hs.reach.step (ks:=[]) (λk hk=>by simp[memB]at hk) hs.own0 hnx.toK⟩
   simp only[Ctx.upd,Ctx.addV]
   by_cases er:r=i
   ·subst er
    simp[aK,aZ (show r<(st.rows.set r _).length by simpa using hlt),hlt]
   ·rw [if_neg er]
    by_cases en:r=st.rows.length
    ·subst en
     simp[aK]
    ·rw[if_neg en,hs.rows]
     by_cases hl:r<st.rows.length
     ·simp[aK,aZ (show r<(st.rows.set i _).length by simpa using hl),List.getElem?_set_ne (Ne.symm er)]
     ·have h1:st.rows.getD r none=none:=by rw[aK,aM (by omega)];rfl
      rw[h1,aK,aM (by simp;omega)];rfl
def Qbz(P:Program):Prop:=∀(ro:Option Nat) (T:Tab) (G:List Q09) (N M id:Nat) (ops:Array Oper) (st:St) (Q:Ex->St->Prop),Q34 P T->Q57 P G->drawVC T G N M ops st Q->TrR ro P N M (.region id ops true) st Q
def Qrc(y:Array Tmp×Code×Code):Code->Prop
 |.seq a b=>Qrc y a/\Qrc y b
 |.cond _ a b=>Qrc y a/\Qrc y b
 |.block _ a=>Qrc y a
 |.loop a=>Qrc y a
 |.scope a=>Qrc y a
 |.rangeFunc _ ps x b=>(ps,x,b)=y
 |_=>True
def RF(o:Option Nat)(n:Nat)(c:Code):Prop:=match o with|none=>True|some f=>∃y,(yTab f=some y/\y.n<=n/\y.ts=yTs f/\YB<=f/\y.ps.size=1)/\Qrc (y.ps,y.assign,y.body) c
theorem zG{P:Program}{ro:Option Nat}{c:Code}{Q:Exit->Act->World->Prop}{a:Act}{w:World}(h:c.wpIn (Fro ro) 0 P (Exit.noGoto Q) a w):(Code.scope c).wpIn (Fro ro) 0 P Q a w:=by
 intro b k cs hro hb hr
 have s1:step P (lone (b.atR a (.code (.scope c)::k)) cs w)=.next (lone (b.atR a (.code c:: .inScope c::k)) cs w):=step_lone_go (by simp[stepG,stepG.exec,Frame.atR])
 have h0:(lone (b.atR a (.code (.scope c)::k)) cs w).fenced P (Fro ro):=fenced_calm hb hr rfl
 obtain⟨e,a₁,w₁,hq,harr⟩:=h b (.inScope c::k) cs hro hb hr
 cases e with
 |normal=>exact⟨.normal,a₁,w₁,hq,.head h0 s1 (StepsIn.trans harr (.one (fenced_calm hb hr rfl) (step_lone_go (by simp[stepG,stepG.exec,Frame.atR]))))⟩
 |exit id=>
  have hx:exitTo id (.inScope c::k)=exitTo id k:=by simp[exitTo]
  exact⟨.exit id,a₁,w₁,hq,λk' hk=>.head h0 s1 (harr.1 k' (by rw[hx];exact hk)),λhr' hk=>let⟨k₁,h1,h2⟩:=harr.2 hr' (by rw[hx];exact hk);⟨k₁,h1,.head h0 s1 h2⟩⟩
 |goto l=>exact hq.elim
 |ret=>exact⟨_,a₁,w₁,hq,.of_steps (.one h0 s1) harr⟩
 |panic ch=>exact⟨_,a₁,w₁,hq,.of_steps (.one h0 s1) harr⟩
 |outgrown=>exact⟨_,a₁,w₁,hq,.of_steps (.one h0 s1) harr⟩
theorem yn{N M:Nat}{c0:Ctx}{w0:World}{c:Ctx}{w:World}{st:St}{a:Act}{ops:List Oper}{K:St->Prop}(h:splitK ops st K)(hs:SimS N M c0 w0 c w st a):∃st',K st'/\SimS N M c0 w0 c w st' a:=by
 unfold splitK at h
 split at h
 ·exact⟨st,h,hs⟩
 ·rename_i x _
  split at h
  ·rename_i b hb
   cases b with
   |true=>exact⟨_,h,hs.know hb⟩
   |false=>exact⟨_,h,hs.know hb⟩
  ·exact⟨st,h,hs⟩
theorem Qdk{P:Program}(hD:Qbz P){T:Tab}(hT:Q34 P T){G:List Q09}(hG:Q57 P G){ro:Option Nat}{N M:Nat}{L:Code->St->(Ex->St->Prop)->Prop}{S:Code->Prop}(hS:(∀a b,S (.seq a b)->S a/\S b)/\(∀c a b,S (.cond c a b)->S a/\S b)/\(∀i a,S (.block i a)->S a)/\(∀a,S (.scope a)->S a))(hL:∀code st Q,S code->L code st Q->TrR ro P N M code st Q):∀(code:Code) (st:St) (Q:Ex->St->Prop),S code->Q7o T G N M L code st Q->TrR ro P N M code st Q:=by
 intro code
 induction code with
 |skip=>exactλst Q _ h c0 w0 c w a hs=>wpIn_skip ⟨_,st,c,rfl,h,hs⟩
 |label l=>exactλst Q _ h c0 w0 c w a hs=>wpIn_label ⟨_,st,c,rfl,h,hs⟩
 |region id ops draw=>
  intro st Q hc h c0 w0 c w a hs
  simp only[Q7o]at h
  obtain⟨st0,h,hs0⟩:=yn h hs
  obtain⟨R1,c1,h,hs1⟩:=Qf2 h hs0
  obtain⟨st',c',h,hs'⟩:=qP h hs1
  cases draw with
  |false=>exact zn hT hG h c0 w0 c' w a hs'
  |true=>exact hD ro T G N M id ops st' Q hT hG h c0 w0 c' w a hs'
 |seq x y ihx ihy=>
  intro st Q hc h c0 w0 c w a hs
  simp only[Q7o]at h
  refine wpIn_seq (wpIn_mono (ihx st _ (hS.1 _ _ hc).1 h c0 w0 c w a hs) λe a' w' hq=>?_)
  obtain⟨ex,st',c',he,hq,hs'⟩:=hq
  cases e<;>simp only[exOf,Option.some.injEq,reduceCtorEq]at he
  ·subst he
   obtain⟨st2,c2,hq,hs2⟩:=yW hq hs'
   exact ihy st2 Q (hS.1 _ _ hc).2 hq c0 w0 c2 w' a' hs2
  ·subst he;exact⟨_,st',c',rfl,hq,hs'⟩
  ·subst he;exact⟨_,st',c',rfl,hq,hs'⟩
 |cond x y z ihy ihz=>
  intro st Q hc h c0 w0 c w a hs
  simp only[Q7o]at h
  split at h
  ·rename_i b hb
   have hv:=Qo1 hs.env x
   rw[hb]at hv
   have hv:=Rep.bool.1 hv
   cases b with
   |true=>exact wpIn_cond_true hv (ihy _ Q (hS.2.1 _ _ _ hc).1 h c0 w0 c w a (hs.know hb))
   |false=>exact wpIn_cond_false hv (ihz _ Q (hS.2.1 _ _ _ hc).2 h c0 w0 c w a (hs.know hb))
  ·rename_i es hb
   have hv:=Qo1 hs.env x
   rw[hb]at hv
   obtain⟨b,hv,hes⟩:=hv
   cases b with
   |true=>exact wpIn_cond_true hv (ihy _ Q (hS.2.1 _ _ _ hc).1 (h.1 (Els.Nil_l.2 (hes rfl))) c0 w0 c w a (hs.knowV hv))
   |false=>exact wpIn_cond_false hv (ihz _ Q (hS.2.1 _ _ _ hc).2 h.2 c0 w0 c w a (hs.knowV hv))
  ·exact h.elim
 |block id x ih=>
  intro st Q hc h c0 w0 c w a hs
  simp only[Q7o]at h
  refine wpIn_block (wpIn_mono (ih st _ (hS.2.2.1 _ _ hc) h c0 w0 c w a hs) λe a' w' hq=>?_)
  obtain⟨ex,st',c',he,hq,hs'⟩:=hq
  cases e<;>simp only[exOf,Option.some.injEq,reduceCtorEq]at he
  ·subst he;exact⟨_,st',c',rfl,hq,hs'⟩
  ·rename_i i
   subst he
   simp only[Exit.inBlock]
   simp only at hq
   cases hb:bV i id with
   |true=>
    simp only[hb]at hq
    rw[if_pos (bE hb)]
    exact⟨_,st',c',rfl,hq,hs'⟩
   |false=>
    simp only[hb]at hq
    rw[if_neg (λe=>by rw[e]at hb;simp at hb)]
    exact⟨_,st',c',rfl,hq,hs'⟩
  ·subst he;exact⟨_,st',c',rfl,hq,hs'⟩
 |exit id=>exactλst Q _ h c0 w0 c w a hs=>wpIn_exit ⟨_,st,c,rfl,h,hs⟩
 |ret=>exactλst Q _ h c0 w0 c w a hs=>wpIn_ret ⟨_,st,c,rfl,h,hs⟩
 |loop x ih=>exactλst Q hc h=>hL _ _ _ hc h
 |rangeFunc g ps x y _ _=>exactλst Q hc h=>hL _ _ _ hc h
 |scope x ih=>
  intro st Q hc h c0 w0 c w a hs
  simp only[Q7o]at h
  refine zG (wpIn_mono (ih st _ (hS.2.2.2 _ hc) h c0 w0 c w a hs) λe a' w' hq=>?_)
  obtain⟨ex,st',c',he,hq,hs'⟩:=hq
  cases e<;>simp only[exOf,Option.some.injEq,reduceCtorEq]at he
  all_goals(subst he;exact⟨_,st',c',rfl,hq,hs'⟩)
 |goto l=>exactλst Q hc h=>hL _ _ _ hc h
 |refuse y=>exactλst Q hc h=>hL _ _ _ hc h
theorem Z0g(o:Option Nat)(n:Nat):(∀a b,RF o n (.seq a b)->RF o n a/\RF o n b)/\(∀c a b,RF o n (.cond c a b)->RF o n a/\RF o n b)/\(∀i a,RF o n (.block i a)->RF o n a)/\(∀a,RF o n (.scope a)->RF o n a):=by
 cases o with
 |none=>exact⟨λ_ _ _=>⟨trivial,trivial⟩,λ_ _ _ _=>⟨trivial,trivial⟩,λ_ _ _=>trivial,λ_ _=>trivial⟩
 |some f=>exact⟨λ_ _ ⟨y,h,h1,h2⟩=>⟨⟨y,h,h1⟩,⟨y,h,h2⟩⟩,λ_ _ _ ⟨y,h,h1,h2⟩=>⟨⟨y,h,h1⟩,⟨y,h,h2⟩⟩,λ_ _ ⟨y,h,h1⟩=>⟨y,h,h1⟩,λ_ ⟨y,h,h1⟩=>⟨y,h,h1⟩⟩
def Ctx.out(c:Ctx)(ex:List Nat)(rows:List Row):Ctx:=
 { ρ:=λi=>match ex[i]? with|some r=>c.ρ r|none=>c.ρ i,R:=λi=>rows[i]?,V:=λi=>match ex[i]? with|some r=>c.R r=none\/c.V r|none=>True,
   I:=λb=>c.I b\/ ∃r row,c.R r=some row/\ ¬c.V r/\row.box=false/\Zbl ex r=true/\c.ρ r=b,base:=c.base,top:=c.top,X:=c.X}
theorem Qom{ex:List Nat}{i r:Nat}(h:inEx ex i r=true):ex[i]?=some r:=by
 unfold inEx at h
 split at h
 ·rename_i x hx;rw[hx,bE h]
 ·cases h
theorem Zc9{ex:List Nat}{R:Rows}{i:Nat}(h:Z6o ex R i=true):∃r,ex[i]?=some r/\R.getD r none=none:=by
 unfold Z6o at h
 split at h
 ·rename_i r hr
  refine⟨r,hr,?_⟩
  split at h
  ·assumption
  ·cases h
 ·cases h
theorem Qzt{ex:List Nat}{r:Nat}(h:Zbl ex r=true):r∉ex:=by
 intro hm
 have:=List.all_eq_true.1 h r hm
 simp at this
theorem Qef{ex:List Nat}{m:Nat}{R:Rows}:∀{rs:List Nat} {ps:List Row},Q3 ex m R rs ps->rs.length=ps.length/\∀(i r:Nat) (p:Row),rs[i]?=some r->ps[i]?=some p->
 (∃row,R.getD r none=some row/\row.box=p.box/\row.ty=p.ty/\row.sz=p.sz/\(if p.box then∃e e',row.es=.gen [e]/\p.es=.gen [e']/\Z1s ex m R e e' else row.es.l=p.es.l))\/(R.getD r none=none/\p.box=false/\p.es.l=[]/\0<p.sz)
 |[],[],_=>⟨rfl,λi r p h=>by simp at h⟩
 |[],_::_,h=>h.elim
 |_::_,[],h=>h.elim
 |r ::rs,⟨box,ty,sz,es⟩::ps,h=>by
  simp only[Q3]at h
  obtain⟨h1,h2⟩:=h
  obtain⟨g1,g2⟩:=Qef h2
  refine⟨by simp[g1],λi q p hq hp=>?_⟩
  cases i with
  |succ i=>exact g2 i q p (by simpa using hq) (by simpa using hp)
  |zero=>
   simp at hq hp
   subst hq;subst hp
   split at h1
   ·rename_i box' ty' sz' es' hR
    simp only[Q02,aE]at h1
    obtain⟨⟨⟨e1,e2⟩,e3⟩,h1⟩:=h1
    refine .inl ⟨_,hR,by cases box<;>cases box'<;>simp_all,(bE e2).symm,(bE e3).symm,?_⟩
    cases box with
    |false=>simpa using Els.Eq_l h1
    |true=>
     simp only[if_true]
     simp only at h1
     split at h1
     ·exact⟨_,_,rfl,rfl,h1⟩
     ·exact h1.elim
   ·rename_i hR
    simp only[Q02,aE,aS]at h1
    exact .inr ⟨hR,h1.1.1,Els.Nil_l.1 h1.2,lE h1.1.2⟩
theorem Z2v{c:Ctx}{w:World}{ex:List Nat}{m:Nat}{R:Rows}{rows:List Row}(hR:∀r,c.R r=R.getD r none)(hrows:Q3 ex m R ex rows){i r o f:Nat}{v:Value}(hx:inEx ex i r=true)(hr:CRep c w (.ptr r o f) v):CRep (c.out ex rows) w (.ptr i o f) v:=by
 obtain⟨row,g1,gV,g2,hv⟩:=hr
 have hi:=Qom hx
 obtain⟨hl,hget⟩:=Qef hrows
 have hlt:=(List.getElem?_eq_some_iff.1 hi).1
 have hp:rows[i]?=some rows[i]:=cI (by omega)
 rcases hget i r _ hi hp with⟨row',k1,k2,k3,k4,k5⟩|⟨k1,_⟩
 ·have:row'=row:=by rw[hR,k1]at g1;exact Option.some.inj g1
  subst this
  refine⟨_,hp,by simp[Ctx.out,hi,g1,gV],?_,by simp only[Ctx.out,hi];rw[hv,k4]⟩
  split at k5
  ·obtain⟨e,e',q1,q2,_⟩:=k5
   rw[q1]at g2;rw[q2];exact g2
  ·rw[<-k5];exact g2
 ·rw[hR,k1]at g1;cases g1
theorem Z8t{c:Ctx}{w:World}{ex:List Nat}{m:Nat}{R:Rows}{rows:List Row}(hR:∀r,c.R r=R.getD r none)(hrows:Q3 ex m R ex rows):∀{ps qs:List (Nat×Nat×Nat)} {us:List Value},ptrX ex ps qs=true->Qqp c qs us->Qqp (c.out ex rows) ps us
 |[],[],_,_,h=>by rename_i us _;cases us<;>exact h
 |(i,b,d)::l,(r,y,z)::q,u::us,h,hr=>by
  simp only[ptrX,aE]at h
  obtain⟨h1,h2,h3,h4⟩:=h
  have e2:=bE h2;have e3:=bE h3
  subst e2;subst e3
  exact⟨Z2v (w:=w) hR hrows h1 hr.1,Z8t (w:=w) hR hrows h4 hr.2⟩
 |(_,_,_)::_,(_,_,_)::_,[],_,h=>h.elim
 |[],_::_,_,h,_=>by simp[ptrX]at h
 |_::_,[],_,h,_=>by simp[ptrX]at h
theorem yG{c:Ctx}{w:World}{ex:List Nat}{m:Nat}{R:Rows}{rows:List Row}(hR:∀r,c.R r=R.getD r none)(hrows:Q3 ex m R ex rows):∀{cs ds:List Cap} {us:List Value},capX ex cs ds=true->Q4e c w ds us->Q4e (c.out ex rows) w cs us:=by
 intro cs
 induction cs with
 |nil=>intro ds us h hr;cases ds<;>cases us<;>first|exact hr|(simp[capX]at h;done)
 |cons x cs ih=>
  intro ds us h hr
  cases ds with
  |nil=>cases x<;>simp[capX]at h
  |cons y ds=>
   cases us with
   |nil=>exact hr.elim
   |cons u us=>
    cases x<;>cases y<;>simp only[capX,aE,aN]at h
    ·obtain⟨h1,h2,h3,h4⟩:=h
     have e2:=bE h2;have e3:=bE h3
     subst e2;subst e3
     exact⟨Z2v (w:=w) hR hrows h1 hr.1,ih h4 hr.2⟩
    ·obtain⟨h1,h2,h3⟩:=h
     have e1:=bE h1
     subst e1
     obtain⟨⟨ws,hv,hw⟩,hr2⟩:=hr
     exact⟨⟨ws,Qkh (c:=c) (c':=c.out ex rows) (w':=w) (λb hb=>⟨Or.inl hb,rfl⟩) hv,Z8t (w:=w) hR hrows h2 hw⟩,ih h3 hr2⟩
section
variable {c:Ctx} {w:World} {ex:List Nat} {m:Nat} {R:Rows} {rows:List Row}
theorem Z1o(hm:Mem c w)(hR:∀r,c.R r=R.getD r none)(hrows:Q3 ex m R ex rows)(hnew:∀r row,c.R r=some row->¬c.V r->m<=r->c.base<=c.ρ r){d p:D}{v:Value}(h:retC ex m R d p)(hr:CRep c w d v):CRep (c.out ex rows) w p v:=by
 have himm:∀b,c.I b->(c.out ex rows).I b/\w.heap[b]?=w.heap[b]? :=λb hb=>⟨.inl hb,rfl⟩
 obtain⟨hl,hget⟩:=Qef hrows
 have rowOf:∀i r row,ex[i]?=some r->c.R r=some row->∃p,rows[i]?=some p/\row.box=p.box/\row.ty=p.ty/\row.sz=p.sz/\row.es.l.length=p.es.l.length/\(c.out ex rows).ρ i=c.ρ r/\((c.out ex rows).V i↔c.V r):=by
  intro i r row hi hrow
  have hlt:=(List.getElem?_eq_some_iff.1 hi).1
  have hp:rows[i]?=some rows[i]:=cI (by omega)
  rcases hget i r _ hi hp with⟨row',g1,g2,g3,g4,g5⟩|⟨g1,_⟩
  ·have:row'=row:=by rw[hR,g1]at hrow;exact Option.some.inj hrow
   subst this
   refine⟨_,hp,g2,g3,g4,?_,by simp[Ctx.out,hi],by simp[Ctx.out,hi,hrow]⟩
   split at g5
   ·obtain⟨e,e',k1,k2,_⟩:=g5
    rw[k1,k2];rfl
   ·rw[g5]
  ·rw[hR,g1]at hrow;cases hrow
 have vir:∀i a,Z6o ex R i=true->v=.slice a 0 0->okA c.top a->CRep (c.out ex rows) w (.all i) v:=by
  intro i a hv hva hok
  obtain⟨r,hi,hrn⟩:=Zc9 hv
  have hlt:=(List.getElem?_eq_some_iff.1 hi).1
  have hp:rows[i]?=some rows[i]:=cI (by omega)
  rcases hget i r _ hi hp with⟨row',g1,_⟩|⟨g1,g2,g3,g4⟩
  ·rw[hrn]at g1;cases g1
  ·exact⟨_,hp,g2,.inl ⟨by simp only[Ctx.out,hi];exact .inl (by rw[hR];exact g1),a,hva,hok⟩⟩
 cases p<;>simp only[retC]at h
 case int k n=>
  split at h
  ·simp only[Q02,decide_eq_true_eq]at h;obtain⟨rfl,rfl⟩:=h;exact hr
  ·exact h.elim
 case bool b=>
  split at h
  ·subst h;exact hr
  ·exact h.elim
 case str s=>
  split at h
  ·subst h;exact hr
  ·exact h.elim
 case nilp=>
  split at h
  ·exact hr
  ·exact h.elim
 case nils=>
  split at h
  ·exact hr
  ·exact h.elim
 case emp=>
  split at h
  ·exact⟨none,hr,Qmq⟩
  ·exact hr
  ·exact h.elim
 case nilif=>
  split at h
  ·exact hr
  ·exact h.elim
 case clo f cs=>
  split at h
  ·simp only[Q02,aE]at h
   obtain⟨⟨h1,h2⟩,_⟩:=h
   have e1:=bE h1
   subst e1
   obtain⟨us,hv,hu⟩:=hr
   exact⟨us,Qkh (c:=c) (c':=c.out ex rows) (w':=w) (λb hb=>⟨Or.inl hb,rfl⟩) hv,yG hR hrows h2 hu⟩
  ·exact h.elim
 case ptr i o f=>
  split at h
  ·simp only[Q02,aE]at h
   obtain⟨⟨h1,h2,h3⟩,_⟩:=h
   have e2:=bE h2;have e3:=bE h3
   subst e2;subst e3
   exact Z2v (w:=w) hR hrows h1 hr
  ·exact h.elim
 case selfp i=>
  have go:∀r,inEx ex i r=true->CRep c w (.selfp r) v->CRep (c.out ex rows) w (.selfp i) v:=by
   intro r hx hr
   rcases hr with hr|⟨row,g1,gV,g2,hv⟩
   ·exact .inl hr
   ·have hi:=Qom hx
    obtain⟨p,hp,q1,q2,q3,q4,q5,q6⟩:=rowOf i r row hi g1
    exact .inr ⟨p,hp,λe=>gV (q6.1 e),by rw[<-q4];exact g2,by rw[hv,q5,q3]⟩
  split at h
  ·exact .inl hr
  ·simp only[Q02]at h;exact go _ h.1 hr
  ·simp only[Q02,aE]at h
   obtain⟨⟨h1,h2,h3⟩,_⟩:=h
   have e2:=bE h2;have e3:=bE h3
   subst e2;subst e3
   exact go _ h1 (.inr hr)
  ·exact h.elim
 case dead=>exact CRep.one hr
 case sl sz es fr=>
  split at h
  ·have h:=Els.Nil_l.1 h;exact⟨none,0,by rw[h];exact hr,by rw[h];exact aO _,.inl h⟩
  ·have h:=Els.Nil_l.1 h;obtain⟨a,hr,_⟩:=hr;exact⟨a,0,by rw[h];exact hr,by rw[h];exact aO _,.inl h⟩
  ·rename_i sz' es' fr'
   simp only[Q02,Bool.or_eq_true,aS]at h
   obtain⟨hf,hs,he⟩:=h
   have he:=Els.Eq_l he
   obtain⟨a,cap,hv,hc,hes⟩:=hr
   rw[he]at hv hc hes
   refine⟨a,cap,hv,hc,?_⟩
   rcases hes with hes|⟨b,off,arr,ty,fz,ha,hI,hf',hh,hE⟩
   ·exact .inl hes
   ·rcases hs with hs|rfl
    ·exact .inl (by rw[<-he];exact Els.Nil_l.1 hs)
    ·exact .inr ⟨b,off,arr,ty,fz,ha,.inl hI,λe=>hf' (by rcases hf with hf|hf<;>simp_all),hh,Q11 himm _ _ _ _ hE⟩
  ·rename_i r
   split at h
   ·rename_i box ty sz' es' hRr
    simp only[Q02,aE,aS]at h
    obtain⟨⟨⟨⟨hb,hs⟩,ho⟩,hmr⟩,hee⟩:=h
    have hee:=Els.Eq_l hee
    have hs:=bE hs
    have hmr:=lE hmr
    obtain⟨row,g1,g2,hv⟩:=hr
    have:row=⟨box,ty,sz',es'⟩:=by rw[hR,hRr]at g1;exact(Option.some.inj g1).symm
    subst this
    subst hs
    rcases hv with⟨hV,a,hv,_⟩|⟨hV,cap,arr,hv,g3,g4,g5,g6⟩
    ·have he:=(hm.virt g1 hV).2.1
     simp only at he
     rw[he]at hee
     exact⟨a,0,by rw[<-hee];exact hv,by rw[<-hee];exact aO _,.inl hee.symm⟩
    obtain⟨arr',ha',hs',hx⟩:=hm.real g1 hV
    rw[g5]at ha';cases ha'
    simp only[hb,aN,if_false]at hx
    simp only at hv g3 hx
    rw[hee]at hv g3 hx
    exact⟨_,cap,hv,g3,.inr ⟨_,0,arr,_,_,rfl,.inr ⟨r,_,g1,hV,hb,ho,rfl⟩,λ_=>hnew r _ g1 hV hmr,g5,Q11 himm _ _ _ _ hx⟩⟩
   ·exact h.elim
  ·rename_i r o n
   split at h
   ·rename_i box ty sz' es' hRr
    simp only[Q02,aE,aS]at h
    obtain⟨⟨⟨⟨hb,hs⟩,ho⟩,hmr⟩,hee⟩:=h
    have hee:=Els.Eq_l hee
    rw[Els.take_l,Els.drop_l]at hee
    have hs:=bE hs
    have hmr:=lE hmr
    obtain⟨row,g1,g2,g5,hv⟩:=hr
    have:row=⟨box,ty,sz',es'⟩:=by rw[hR,hRr]at g1;exact(Option.some.inj g1).symm
    subst this
    subst hs
    simp only at g5
    have hl':((es'.l.drop o).take n).length=n:=by simp only[List.length_take,List.length_drop];omega
    rw[hee]at hl'
    rcases hv with⟨h0,a,hv,_⟩|⟨hV,cap,arr,g3,g4,g6,hv,g7⟩
    ·subst h0
     have h0:=List.eq_nil_of_length_eq_zero hl'
     exact⟨a,0,by rw[hl'];exact hv,by omega,.inl h0⟩
    obtain⟨arr',ha',hs',hx⟩:=hm.real g1 hV
    rw[g6]at ha';cases ha'
    simp only[hb,aN,if_false]at hx
    have hE:=Qbg (n:=n) (Qba (l:=o) hx)
    rw[hee]at hE
    exact⟨_,cap,by rw[hl'];exact hv,by omega,.inr ⟨_,o*sz',arr,_,_,rfl,.inr ⟨r,_,g1,hV,hb,ho,rfl⟩,λ_=>hnew r _ g1 hV hmr,g6,Q11 himm _ _ _ _ (by simpa using hE)⟩⟩
   ·exact h.elim
  ·exact h.elim
 case all i=>
  split at h
  ·rename_i r
   simp only[Q02]at h
   obtain⟨row,g1,g2,hv⟩:=hr
   obtain⟨p,k1,k2,k3,k4,k5,k6,k7⟩:=rowOf i r row (Qom h.1) g1
   refine⟨p,k1,by rw[<-k2];exact g2,?_⟩
   rcases hv with⟨hV,hv⟩|⟨hV,cap,arr,hv,g3,g4,g5,g6⟩
   ·exact .inl ⟨k7.2 hV,hv⟩
   ·exact .inr ⟨λe=>hV (k7.1 e),cap,arr,by rw[hv,k5,k6],by rw[<-k5];exact g3,g4,by rw[k6,<-k3];exact g5,by rw[<-k4];exact g6⟩
  ·simp only[Q02]at h
   exact vir i none h.1 hr Qmq
  ·simp only[Q02]at h
   obtain⟨a,hr,ho⟩:=hr
   exact vir i a h.1 hr ho
  ·exact h.elim
 case own i o n=>
  split at h
  ·rename_i r o' n'
   simp only[Q02]at h
   obtain⟨hx,rfl,rfl⟩:=h
   obtain⟨row,g1,g2,g5,hv⟩:=hr
   obtain⟨p,k1,k2,k3,k4,k5,k6,k7⟩:=rowOf i r row (Qom hx) g1
   refine⟨p,k1,by rw[<-k2];exact g2,by rw[<-k5];exact g5,?_⟩
   rcases hv with⟨h0,a,hv,ho'⟩|⟨hV,cap,arr,g3,g4,g6,hv,g7⟩
   ·exact .inl ⟨h0,a,hv,ho'.mono (aO _) k7 k6⟩
   ·exact .inr ⟨λe=>hV (k7.1 e),cap,arr,g3,g4,by rw[k6,<-k3];exact g6,by rw[k6,<-k4];exact hv,by rw[<-k4];exact g7⟩
  ·exact h.elim
theorem Z67(hm:Mem c w)(hR:∀r,c.R r=R.getD r none)(hrows:Q3 ex m R ex rows)(hnew:∀r row,c.R r=some row->¬c.V r->m<=r->c.base<=c.ρ r):∀{ds ps:List D} {vs:List Value},Z1s ex m R ds ps->Q2y c w ds vs->Q2y (c.out ex rows) w ps vs
 |[],[],[],_,_=>trivial
 |[],[],_::_,_,h=>h.elim
 |[],_::_,_,h,_=>h.elim
 |_::_,[],_,h,_=>h.elim
 |_::_,_::_,[],_,h=>h.elim
 |d::ds,p::ps,v::vs,h,hr=>⟨Z1o hm hR hrows hnew h.1 hr.1,Z67 hm hR hrows hnew h.2 hr.2⟩
theorem Z9o(hm:Mem c w)(hR:∀r,c.R r=R.getD r none)(hrows:Q3 ex m R ex rows)(hnew:∀r row,c.R r=some row->¬c.V r->m<=r->c.base<=c.ρ r){d p:D}{v:Value}(h:retV ex m R d p)(hr:VRep c w d v):VRep (c.out ex rows) w p v:=by
 cases p with
 |agg ps=>
  simp only[retV]at h
  cases d<;>simp only at h
  obtain⟨vs,hv,hx⟩:=hr
  exact⟨vs,hv,Z67 hm hR hrows hnew h hx⟩
 |_=>
  simp only[retV]at h
  refine VRep.ofC (Z1o hm hR hrows hnew h (VRep.toC ?_ hr))
  intro cs e
  subst e
  simp[retC,cand,D.isOne]at h
theorem Z6e(hm:Mem c w)(hR:∀r,c.R r=R.getD r none)(hrows:Q3 ex m R ex rows)(hnew:∀r row,c.R r=some row->¬c.V r->m<=r->c.base<=c.ρ r):∀{ds ps:List D} {vs:List Value},retVs ex m R ds ps->Q5p c w ds vs->Q5p (c.out ex rows) w ps vs
 |[],[],[],_,_=>trivial
 |[],[],_::_,_,h=>h.elim
 |[],_::_,_,h,_=>h.elim
 |_::_,[],_,h,_=>h.elim
 |_::_,_::_,[],_,h=>h.elim
 |d::ds,p::ps,v::vs,h,hr=>⟨Z9o hm hR hrows hnew h.1 hr.1,Z6e hm hR hrows hnew h.2 hr.2⟩
theorem Qtk(hm:Mem c w)(hR:∀r,c.R r=R.getD r none)(hrows:Q3 ex m R ex rows)(hnew:∀r row,c.R r=some row->¬c.V r->m<=r->c.base<=c.ρ r){d p:D}{v:Value}(h:retD ex m R d p)(hr:Rep c w d v):Rep (c.out ex rows) w p v:=by
 cases p with
 |tup ps=>
  simp only[retD]at h
  cases d<;>simp only at h
  obtain⟨vs,hv,hx⟩:=hr
  exact⟨vs,hv,Z6e hm hR hrows hnew h hx⟩
 |dead=>trivial
 |_=>
  simp only[retD]at h
  refine Rep.ofV (Z9o hm hR hrows hnew h (Rep.toV ?_ ?_ hr))
  ·intro ds e;subst e;simp[retV,retC]at h
  ·intro e;subst e;simp[retV,retC]at h
theorem Qxk(hm:Mem c w)(hR:∀r,c.R r=R.getD r none)(hrows:Q3 ex m R ex rows)(hnew:∀r row,c.R r=some row->¬c.V r->m<=r->c.base<=c.ρ r):∀{ds ps:List D} {arr:Array Value} {off:Nat},Z1s ex m R ds ps->Q32 c w ds arr off->Q32 (c.out ex rows) w ps arr off
 |[],[],_,_,_,_=>trivial
 |[],_::_,_,_,h,_=>h.elim
 |_::_,[],_,_,h,_=>h.elim
 |d::ds,p::ps,arr,off,h,hr=>⟨by obtain⟨⟨v,hv,hx⟩,_⟩:=hr;exact⟨v,hv,Z1o hm hR hrows hnew h.1 hx⟩,Qxk hm hR hrows hnew h.2 hr.2⟩
theorem Qs3:∀{ds ps:List D},Z1s ex m R ds ps->ds.length=ps.length
 |[],[],_=>rfl
 |[],_::_,h=>h.elim
 |_::_,[],h=>h.elim
 |_::_,_::_,h=>by simp[Qs3 h.2]
theorem vW(hm:Mem c w)(hR:∀r,c.R r=R.getD r none)(hrows:Q3 ex m R ex rows)(hnew:∀r row,c.R r=some row->¬c.V r->m<=r->c.base<=c.ρ r)(hnd:ex.Nodup):Mem (c.out ex rows) w:=by
 have himm:∀b,c.I b->(c.out ex rows).I b/\w.heap[b]?=w.heap[b]? :=λb hb=>⟨.inl hb,rfl⟩
 obtain⟨hl,hget⟩:=Qef hrows
 have inv:∀i p,(c.out ex rows).R i=some p->∃r,ex[i]?=some r/\(c.out ex rows).ρ i=c.ρ r/\((∃row,c.R r=some row/\row.box=p.box/\row.ty=p.ty/\row.sz=p.sz/\((c.out ex rows).V i↔c.V r)/\(if p.box then∃e e',row.es=.gen [e]/\p.es=.gen [e']/\Z1s ex m R e e' else row.es.l=p.es.l))\/((c.out ex rows).V i/\p.box=false/\p.es.l=[]/\0<p.sz)):=by
  intro i p hp
  have hp':rows[i]?=some p:=hp
  have hlt:=(List.getElem?_eq_some_iff.1 hp').1
  have hi:ex[i]?=some ex[i]:=cI (by omega)
  refine⟨_,hi,by simp[Ctx.out,hi],?_⟩
  rcases hget i _ p hi hp' with⟨row,g1,g2,g3,g4,g5⟩|⟨g1,g2⟩
  ·have hrow:c.R ex[i]=some row:=by rw[hR];exact g1
   exact .inl ⟨row,hrow,g2,g3,g4,by simp[Ctx.out,hi,hrow],g5⟩
  ·exact .inr ⟨by simp only[Ctx.out,hi];exact .inl (by rw[hR];exact g1),g2⟩
 refine⟨λi p hp=>?_,λi j p q hp hq v1 v2 he=>?_,λb hb=>?_,hm.top,hm.tab.mono himm⟩
 ·obtain⟨r,g1,g6,⟨row,g2,g3,g4,g5,gV,g7⟩|⟨gV,g2⟩⟩:=inv i p hp
  ·rcases hm.row r row g2 with⟨h0,h1,h2,h3⟩|⟨h0,arr,ha,hs,hx⟩
   ·refine .inl ⟨gV.2 h0,by rw[<-g3];exact h1,?_,by rw[<-g5];exact h3⟩
    rw[if_neg (by rw[<-g3,h1];simp)]at g7
    rw[<-g7];exact h2
   refine .inr ⟨λe=>h0 (gV.1 e),arr,by rw[g6,<-g4];exact ha,by rw[<-g5];exact hs,?_⟩
   split
   ·rename_i hb
    rw[if_pos hb]at g7
    rw[if_pos (g3.trans hb)]at hx
    obtain⟨e,e',k1,k2,k3⟩:=g7
    obtain⟨e0,q1,q2,q3,q4⟩:=hx
    rw[k1]at q1;cases q1
    exact⟨e',k2,by rw[<-Qs3 k3,<-g5];exact q2,by rw[<-g5];exact q3,Qxk hm hR hrows hnew k3 q4⟩
   ·rename_i hb
    rw[if_neg hb]at g7
    rw[if_neg (by rw[g3];exact hb)]at hx
    rw[<-g7,<-g5]
    exact Q11 himm _ _ _ _ hx
  ·exact .inl ⟨gV,g2⟩
 ·obtain⟨r,g1,g6,⟨row,g2,_,_,_,gV,_⟩|⟨gV,_⟩⟩:=inv i p hp
  ·obtain⟨s,k1,k6,⟨row',k2,_,_,_,kV,_⟩|⟨kV,_⟩⟩:=inv j q hq
   ·rw[g6,k6]at he
    have:r=s:=hm.inj r s _ _ g2 k2 (λe=>v1 (gV.2 e)) (λe=>v2 (kV.2 e)) he
    subst this
    exact(List.getElem?_inj (List.getElem?_eq_some_iff.1 g1).1 hnd).1 (g1.trans k1.symm)
   ·exact(v2 kV).elim
  ·exact(v1 gV).elim
 ·rcases hb with hb|⟨r,row,hr,hV,hbx,ho,rfl⟩
  ·refine⟨(hm.imm b hb).1,λi p hp v=>?_⟩
   obtain⟨r,g1,g6,⟨row,g2,_,_,_,gV,_⟩|⟨gV,_⟩⟩:=inv i p hp
   ·rw[g6]
    exact(hm.imm b hb).2 r row g2 (λe=>v (gV.2 e))
   ·exact(v gV).elim
  ·refine⟨hm.lt hr hV,λi p hp v=>?_⟩
   obtain⟨s,g1,g6,⟨row',g2,_,_,_,gV,_⟩|⟨gV,_⟩⟩:=inv i p hp
   ·rw[g6]
    intro e
    have:=hm.inj s r _ _ g2 hr (λe=>v (gV.2 e)) hV e
    subst this
    exact Qzt ho (fM g1)
   ·exact(v gV).elim
end
theorem Zaj:∀{l m:List Nat},natsB l m=true->l=m
 |[],[],_=>rfl
 |x::l,y::m,h=>by
  simp only[natsB,aE]at h
  rw[bE h.1,Zaj h.2]
 |[],_::_,h=>by cases h
 |_::_,[],h=>by cases h
theorem qX{M:Nat}{ex:List Nat}(h:exOK M ex=true):ex.Nodup/\(∀i,i<M->ex[i]?=some i)/\∀i r,ex[i]?=some r->(i=r/\i<M)\/M<=r:=by
 unfold exOK at h
 simp only[aE]at h
 obtain⟨⟨h1,h2⟩,h3⟩:=h
 replace h1:=Zaj h1
 replace h2:∀r∈ex.drop M,M<=r:=λr hr=>lE (List.all_eq_true.1 h2 r hr)
 replace h3:=Qdj.1 h3
 have he:ex=List.range M++ex.drop M:=by rw[<-h1,List.take_append_drop]
 generalize hq:ex.drop M=q at he h2 h3
 subst he
 refine⟨?_,λi hi=>by rw[aZ (by simpa using hi)];simp[hi],λi r hr=>?_⟩
 ·rw[List.nodup_append]
  exact⟨List.nodup_range,h3,λx hx y hy=>by simp at hx;have:=h2 y hy;omega⟩
 ·by_cases hlt:i<M
  ·rw[aZ (by simpa using hlt)]at hr
   simp[hlt]at hr
   exact .inl ⟨hr,hlt⟩
  ·rw[List.getElem?_append_right (by simpa using hlt)]at hr
   exact .inr (h2 r (fM hr))
theorem Z8x{N M:Nat}{c0:Ctx}{w0:World}{c:Ctx}{w:World}{st:St}{a:Act}(hs:SimS N M c0 w0 c w st a){ex:List Nat}{rows':List Row}(hex:exOK M ex=true)(hrows:Q3 ex M st.rows ex rows'):
 (∀r row,c.R r=some row->¬c.V r->M<=r->c.base<=c.ρ r)/\Mem (c.out ex rows') w/\Qpi c0 w0 (c.out ex rows') w:=by
 obtain⟨hnd,hid,hinv⟩:=qX hex
 obtain⟨hl,hget⟩:=Qef hrows
 have hb1:c.base=c0.base:=hs.reach.grows.base
 have hnewS:∀r row,c.R r=some row->¬c.V r->M<=r->c0.X (c.ρ r)\/w0.heap.size<=c.ρ r:=λr row h1 v h2=>by
  rcases hs.reach.rho r row h1 v with⟨⟨x,hx⟩,_⟩|h3
  ·have:=hs.own0 r x hx;omega
  ·exact h3
 have hnew:∀r row,c.R r=some row->¬c.V r->M<=r->c.base<=c.ρ r:=λr row h1 v h2=>by
  have:=hs.base0
  rcases hnewS r row h1 v h2 with h|h
  ·have:=hs.reach.xb _ h;omega
  ·omega
 refine⟨hnew,vW hs.mem hs.rows hrows hnew hnd,⟨hs.reach.grows.base,hs.reach.grows.top,λb hbI=>?_,λr row hr=>?_⟩,hs.reach.fr,λb hbI=>?_,λi p hp v=>?_,hs.reach.xb⟩
 ·obtain⟨h1,h2⟩:=hs.reach.grows.I b hbI
  exact⟨.inl h1,h2⟩
 ·have hlt:r<M:=hs.own0 r row hr
  obtain⟨row1,g1,g2,g3,g4,g5,g6,gV,g7⟩:=hs.reach.grows.R r row hr
  have hi:=hid r hlt
  have hlt':=(List.getElem?_eq_some_iff.1 hi).1
  have hp:rows'[r]?=some rows'[r]:=cI (by omega)
  rcases hget r r _ hi hp with⟨row2,k1,k2,k3,k4,k5⟩|⟨k1,_⟩
  ·have:row2=row1:=by rw[hs.rows,k1]at g1;exact Option.some.inj g1
   subst this
   refine⟨_,hp,k2.symm.trans g2,k3.symm.trans g3,k4.symm.trans g4,?_,by simp[Ctx.out,hi,g6],by simp[Ctx.out,hi,g1,gV],g7⟩
   rw[<-g5]
   split at k5
   ·obtain⟨e,e',q1,q2,_⟩:=k5
    rw[q1,q2];rfl
   ·rw[k5]
  ·rw[hs.rows,k1]at g1;cases g1
 ·rcases hbI with h1|⟨r,row,hr,hV,hbx,ho,rfl⟩
  ·exact hs.reach.imm b h1
  ·refine .inr ?_
   have:M<=r:=by
    by_cases hlt:r<M
    ·exact(Qzt ho (fM (hid r hlt))).elim
    ·omega
   exact hnewS r row hr hV this
 ·have hp':rows'[i]?=some p:=hp
  have hlt:=(List.getElem?_eq_some_iff.1 hp').1
  have hi:ex[i]?=some ex[i]:=cI (by omega)
  simp only[Ctx.out,hi,not_or]at v⊢
  obtain⟨v1,v2⟩:=v
  rcases hget i _ _ hi hp' with⟨row2,k1,k2,k3,k4,k5⟩|⟨k1,_⟩
  ·have hlive:c.R ex[i]=some row2:=by rw[hs.rows];exact k1
   rcases hinv i _ hi with⟨h1,h2⟩|h1
   ·rcases hs.reach.rho _ _ hlive v2 with⟨h3,h4,h5⟩|h3
    ·left
     rw[<-h1]at h3 h4
     refine⟨h3,h4,h5.trans ?_⟩
     rw[<-h1]
    ·exact .inr h3
   ·exact .inr (hnewS _ _ hlive v2 h1)
  ·exact(v1 (by rw[hs.rows];exact k1)).elim
theorem Z28:∀{env:List (Nat×D)} {t k:Nat},k∈fnsV (look env t)->k∈fnsE env
 |[],t,k,h=>by simp[look,fnsV,fnsD,fns1]at h
 |(u,d)::l,t,k,h=>by
  rw[Q9e]at h
  simp only[fnsE,bZ]
  split at h
  ·exact .inl h
  ·exact .inr (Z28 h)
theorem Qx8:∀{R:Rows} {r:Nat} {x:Row} {k:Nat},R.getD r none=some x->k∈fnsR [x]->k∈Z69 R
 |some y::l,0,x,k,h,hk=>by
  simp at h;subst h
  simp only[Z69,bZ];exact .inl hk
 |none::l,0,x,k,h,hk=>by simp at h
 |y::l,r+1,x,k,h,hk=>by
  have:=Qx8 (R:=l) (r:=r) (by simpa[aK]using h) hk
  cases y<;>simp[Z69,this]
 |[],r,x,k,h,_=>by simp[aK]at h
theorem VRep.toRep{c:Ctx}{w:World}{d:D}{v:Value}(h:VRep c w d v):Rep c w d v:=by
 cases d<;>first|exact h|trivial|exact h.elim
theorem Rep.toVRep{c:Ctx}{w:World}{d:D}{v:Value}(hv:d.isVal=true)(h:Rep c w d v):VRep c w d v:=by
 cases d<;>first|exact h|(simp[D.isVal]at hv)
theorem Q5p.length{c:Ctx}{w:World}:∀{ds:List D} {vs:List Value},Q5p c w ds vs->ds.length=vs.length
 |[],[],_=>rfl
 |_::_,_::_,h=>by simp[Q5p.length h.2]
 |[],_::_,h=>h.elim
 |_::_,[],h=>h.elim
theorem Qvf:∀{ds:List D} {i t:Nat},(∃j,t=i+j/\j<ds.length/\look (Qmx ds i) t=ds.getD j .dead)\/look (Qmx ds i) t=.dead
 |[],i,t=>.inr rfl
 |d ::ds,i,t=>by
  simp only[Qmx,Q9e]
  by_cases e:i=t
  ·left;exact⟨0,by omega,by simp,by rw[if_pos e];rfl⟩
  ·rw[if_neg e]
   rcases Qvf (ds:=ds) (i:=i+1) (t:=t)with⟨j,h1,h2,h3⟩|h
   ·left;exact⟨j+1,by omega,by simpa using h2,by simpa using h3⟩
   ·right;exact h
theorem Z8p{c:Ctx}{w:World}{ds:List D}{vs:List Value}(h:Q5p c w ds vs)(n t:Nat):Rep c w (look (Qmx ds 0) t) ((vs.toArray++gD n undef).getD t undef):=by
 rcases Qvf (ds:=ds) (i:=0) (t:=t)with⟨j,h1,h2,h3⟩|h1
 ·obtain⟨v,hv,hr⟩:=Qvv h j h2
  rw[h3]
  have:t=j:=by omega
  subst this
  have hx:(vs.toArray++gD n undef).getD t undef=v:=by
   have hlt:=(List.getElem?_eq_some_iff.1 hv).1
   have hvv:=(List.getElem?_eq_some_iff.1 hv).2
   simp[Array.getElem?_append,hlt,hvv]
  rw[hx]
  exact hr.toRep
 ·rw[h1];trivial
theorem Zal{T:Tab}{t:TypeId}{x:D}{R:Rows}{K:D->Rows->Prop}(h:Qfi T t x R K){c:Ctx}{w:World}{v:Value}(hr:Rep c w x v):∃a,v=.pointer (some a):=by
 unfold Qfi at h
 split at h
 ·exact h.elim
 ·cases x<;>simp only at h
  case ptr r i off=>obtain⟨_,_,_,_,hv⟩:=hr;exact⟨_,hv⟩
  case pa r i off len k n=>obtain⟨_,_,_,_,_,hv⟩:=hr;exact⟨_,hv⟩
  case iptr sz es i off=>obtain⟨_,_,_,_,_,hv,_⟩:=hr;exact⟨_,hv⟩
def Qzq(tmps:Array Value):ResultVar->Sem Value
 |.tmp t=>pure (tmps.getD t undef)
 |.cell a t=>do loadVar t (<-asAddr (tmps.getD a undef))
theorem Qtj{P:Program}{T:Tab}(hT:Q34 P T){R:Rows}{env:List (Nat×D)}:∀{l:List ResultVar} {K:List D->Prop},Z2f T R env l K->
 ∃ds,K ds/\∀c w (tmps:Array Value),Mem c w->Q4w c R->(∀t,Rep c w (look env t) (tmps.getD t undef))->∃vs,(l.mapM (Qzq tmps)).run P w=.ok vs w/\Q5p c w ds vs
 |[],K,h=>⟨[],h,λc w tmps _ _ _=>⟨[],rfl,trivial⟩⟩
 |.tmp t::l,K,h=>by
  simp only[Z2f,D.force_iff,Q02]at h
  obtain⟨hv,h⟩:=h
  obtain⟨ds,hK,hr⟩:=Qtj hT h
  refine⟨_,hK,λc w tmps hm hA he=>?_⟩
  obtain⟨vs,h1,h2⟩:=hr c w tmps hm hA he
  refine⟨tmps.getD t undef::vs,?_,(he t).toVRep hv,h2⟩
  simp only[gE,Sem.run_bind,Qzq,Sem.run_pure,Result.andThen_ok,h1]
 |.cell a t::l,K,h=>by
  simp only[Z2f]at h
  obtain⟨val,hK0,hld⟩:=Z68 hT h
  simp only[Q02]at hK0
  obtain⟨hv,hK0⟩:=hK0
  obtain⟨ds,hK,hr⟩:=Qtj hT hK0
  refine⟨_,hK,λc w tmps hm hA he=>?_⟩
  obtain⟨vs,h1,h2⟩:=hr c w tmps hm hA he
  obtain⟨u,hu,hx⟩:=hld c w _ hm hA (he a)
  obtain⟨ad,had⟩:=Zal h (he a)
  rw[had,Qkp]at hu
  refine⟨u::vs,?_,hx.toVRep hv,h2⟩
  simp only[gE,Sem.run_bind,Qzq,had,asAddr,Sem.run_pure,Result.andThen_ok,hu,h1]
def oneOr:List Value->Value
 |[v]=>v
 |vs=>.tuple vs.toArray
theorem Qvo{P:Program}{fn:Func}{tmps:Array Value}{w:World}{vs:List Value}(h:(fn.results.toList.mapM (Qzq tmps)).run P w=.ok vs w):(results fn tmps).run P w=.ok (oneOr vs) w:=by
 have h2:(fn.results.mapM (Qzq tmps)).run P w=.ok vs.toArray w:=by
  rw[<-bU (xs:=fn.results),List.mapM_toArray]
  simp only[Sem.run_map,h,Result.andThen_ok]
 have h3:(results fn tmps)=(fn.results.mapM (Qzq tmps))>>=λvs=>pure (if h:vs.size=1 then vs[0]else .tuple vs):=by
  unfold results
  congr 1
 rw[h3,Sem.run_bind,h2]
 simp only[Result.andThen_ok,Sem.run_pure]
 congr 1
 match vs with
 |[]=>rfl
 |[v]=>rfl
 |_::_::_=>rfl
theorem SimS.turn{N M:Nat}{c0:Ctx}{w0:World}{c:Ctx}{w:World}{st:St}{a:Act}(hs:SimS N M c0 w0 c w st a){b:Nat}(hb:w0.heap.size<=b){o o':Obj}(ho:w.heap[b]?=some o)(hc:∀arr ty fz,o≠.cells arr ty fz)
 {Fk:Nat->Prop} (gF:∀k ws v,Fk k->FnV c w k ws v->FnV {c with I:=λx=>c.I x/\x≠b} (w.putObj b o') k ws v) (hE:∀t,∀k∈fnsV (look st.env t),Fk k) (hR:∀r x,c.R r=some x->∀k∈fnsR [x],Fk k) {ds:List Deferred} (hd:Qa0 w0.heap.size (w.putObj b o') ds):
 SimS N M c0 w0 {c with I:=λx=>c.I x/\x≠b} (w.putObj b o') st {a with defers:=ds}:=by
 have hrow:∀r x,c.R r=some x->¬c.V r->c.ρ r≠b:=λr x hr hV e=>by
  rcases hs.mem.row r x hr with h|⟨_,arr,h,_⟩
  ·exact hV h.1
  ·rw[e,ho]at h;exact hc _ _ _ (Option.some.inj h)
 have hh:∀r x,c.R r=some x->¬c.V r->(w.putObj b o').heap[c.ρ r]?=w.heap[c.ρ r]? :=λr x hr hV=>World.putObj_heap_other (hrow r x hr hV)
 have hg:Qvt c w {c with I:=λx=>c.I x/\x≠b} (w.putObj b o'):=by
  refine⟨rfl,aO _,λx arr ty fz hI hx=>?_,λr x hr=>⟨x,hr,rfl,rfl,rfl,rfl,rfl,Iff.rfl,λhV arr ha=>⟨arr,(hh r x hr hV).trans ha,rfl⟩⟩⟩
  have hne:x≠b:=λe=>by subst e;rw[ho]at hx;exact hc _ _ _ (Option.some.inj hx)
  exact⟨⟨hI,hne⟩,(World.putObj_heap_other hne).trans hx⟩
 have old:∀x,c0.I x->x≠b:=λx hx e=>by
  obtain⟨h1,h2⟩:=hs.reach.grows.I x hx
  have h3:=(hs.mem.imm x h1).1
  rw[e,ho]at h2
  have:=(Array.getElem?_eq_some_iff.1 h2.symm).1
  omega
 refine⟨Z1g hs.mem hg hh gF hR (λx hx=>⟨by simpa using(hs.mem.imm x hx.1).1,(hs.mem.imm x hx.1).2⟩) (by simp),hs.rows,λt=>Zah hg gF (hE t) (hs.env t),hs.size,hd,hs.base0,hs.own0,?_⟩
 refine⟨⟨hs.reach.grows.base,hs.reach.grows.top,λx hx=>?_,λr row hr=>?_⟩,⟨hs.reach.fr.os,hs.reach.fr.tape,hs.reach.fr.output,by simpa using hs.reach.fr.size,λx hx hn=>?_⟩,λx hx=>hs.reach.imm x hx.1,hs.reach.rho,hs.reach.xb⟩
 ·obtain⟨h1,h2⟩:=hs.reach.grows.I x hx
  exact⟨⟨h1,old x hx⟩,(World.putObj_heap_other (old x hx)).trans h2⟩
 ·obtain⟨row',h1,h2,h3,h4,h5,h6,hV,h7⟩:=hs.reach.grows.R r row hr
  refine⟨row',h1,h2,h3,h4,h5,h6,hV,λnv arr ha=>?_⟩
  obtain⟨arr',g1,g2⟩:=h7 nv arr ha
  refine⟨arr',?_,g2⟩
  rw[World.putObj_heap_other]
  ·exact g1
  ·intro e;rw[e,ho]at g1;exact hc _ _ _ (Option.some.inj g1)
 ·rw[World.putObj_heap_other (by omega)];exact hs.reach.fr.heap x hx hn
theorem SimS.edit{N M:Nat}{c0:Ctx}{w0:World}{c:Ctx}{w:World}{st:St}{a:Act}(hs:SimS N M c0 w0 c w st a){l:Nat}(hI:c0.I l){rec:Loop}{o':Obj}(ho:w0.heap[l]?=some (.loop rec))(hrow0:∀r x,c0.R r=some x->¬c0.V r->c0.ρ r≠l)
 (hno:noYs (fnsE st.env++Z69 st.rows)=true):SimS N M {c0 with I:=λx=>c0.I x/\x≠l} (w0.putObj l o') {c with I:=λx=>c.I x/\x≠l} (w.putObj l o') st a:=by
 have hl:w.heap[l]?=some (.loop rec):=(hs.reach.grows.I l hI).2.trans ho
 have hlt0:=(Array.getElem?_eq_some_iff.1 ho).1
 have hlt:=(Array.getElem?_eq_some_iff.1 hl).1
 have hrow:∀r x,c.R r=some x->¬c.V r->c.ρ r≠l:=λr x hr hV=>(hs.mem.imm l (hs.reach.grows.I l hI).1).2 r x hr hV
 have hh:∀r x,c.R r=some x->¬c.V r->(w.putObj l o').heap[c.ρ r]?=w.heap[c.ρ r]? :=λr x hr hV=>World.putObj_heap_other (hrow r x hr hV)
 have gF:∀k ws v,k<YB->FnV c w k ws v->FnV {c with I:=λx=>c.I x/\x≠l} (w.putObj l o') k ws v:=λk ws v hk hv=>by
  rcases hv with hv|⟨hv,_⟩
  ·exact .inl hv
  ·omega
 have hg:Qvt c w {c with I:=λx=>c.I x/\x≠l} (w.putObj l o'):=by
  refine⟨rfl,aO _,λx arr ty fz hI hx=>?_,λr x hr=>⟨x,hr,rfl,rfl,rfl,rfl,rfl,Iff.rfl,λhV arr ha=>⟨arr,(hh r x hr hV).trans ha,rfl⟩⟩⟩
  have hne:x≠l:=λe=>by subst e;rw[hl]at hx;cases hx
  exact⟨⟨hI,hne⟩,(World.putObj_heap_other hne).trans hx⟩
 refine⟨Z1g hs.mem hg hh gF (λr x hr k hk=>Qo8 hno (gG _ (Qx8 (by rw[<-hs.rows];exact hr) hk))) (λx hx=>⟨by simpa using(hs.mem.imm x hx.1).1,(hs.mem.imm x hx.1).2⟩) (by simp),hs.rows,λt=>Zah hg gF (λk hk=>Qo8 hno (gH _ (Z28 hk))) (hs.env t),hs.size,?_,by simpa using hs.base0,hs.own0,?_⟩
 ·have:=hs.defers.to (w':=w.putObj l o') λb hb=>(World.putObj_heap_other λe=>by rw[e,hl]at hb;cases hb).trans hb
  simpa using this
 refine⟨⟨hs.reach.grows.base,hs.reach.grows.top,λx hx=>?_,λr row hr=>?_⟩,⟨hs.reach.fr.os,hs.reach.fr.tape,hs.reach.fr.output,by simpa using hs.reach.fr.size,λx hx hn=>?_⟩,λx hx=>?_,λr row hr hv=>?_,hs.reach.xb⟩
 ·obtain⟨h1,h2⟩:=hs.reach.grows.I x hx.1
  exact⟨⟨h1,hx.2⟩,(World.putObj_heap_other hx.2).trans (h2.trans (World.putObj_heap_other hx.2).symm)⟩
 ·obtain⟨row',h1,h2,h3,h4,h5,h6,hV,h7⟩:=hs.reach.grows.R r row hr
  refine⟨row',h1,h2,h3,h4,h5,h6,hV,λnv arr ha=>?_⟩
  rw[World.putObj_heap_other (hrow0 r row hr nv)]at ha
  obtain⟨arr',g1,g2⟩:=h7 nv arr ha
  refine⟨arr',?_,g2⟩
  rw[World.putObj_heap_other]
  ·exact g1
  ·intro e;rw[e,hl]at g1;cases g1
 ·by_cases e:x=l
  ·subst e;rw[World.putObj_heap_same hlt,World.putObj_heap_same hlt0]
  ·rw[World.putObj_heap_other e,World.putObj_heap_other e]
   exact hs.reach.fr.heap x (by simpa using hx) hn
 ·rcases hs.reach.imm x hx.1 with g|g|g
  ·exact .inl ⟨g,hx.2⟩
  ·exact .inr (.inl g)
  ·exact .inr (.inr (by simpa using g))
 ·rcases hs.reach.rho r row hr hv with g|g|g
  ·exact .inl g
  ·exact .inr (.inl g)
  ·exact .inr (.inr (by simpa using g))
theorem leaves{P:Program}{fn:Func}{R:Ending->World->Prop}{N M:Nat}{c0:Ctx}{w0:World}{c:Ctx}{w:World}{st:St}{a:Act}(hs:SimS N M c0 w0 c w st a)
 (h:∀c' w' a',a'.tmps=a.tmps->SimS N M c0 w0 c' w' st a'->∃v,(results fn a'.tmps).run P w'=.ok v w'/\R (.returned v) w'):LeavesInM Fence.wide 0 P fn a.tmps R a.defers .returning w:=by
 obtain⟨bs,hnd,hds,hbs⟩:=hs.defers
 revert c w a
 induction bs with
 |nil=>
  intro c w a hs h hds hbs
  rw[hds]
  obtain⟨v,h1,h2⟩:=h c w a rfl hs
  exact⟨v,h1,h2⟩
 |cons b bs ih=>
  intro c w a hs h hds hbs
  obtain⟨h1,h2⟩:=hbs b (by simp)
  rw[List.nodup_cons]at hnd
  rw[hds]
  refine⟨by simp,.inl ⟨b,_,rfl,run_takeDeferred h2,?_⟩⟩
  have hbs':∀x∈bs,w0.heap.size<=x/\(w.putObj b (.deferred none)).heap[x]?=some (.deferred (some [])):=λx hx=>by
   obtain⟨g1,g2⟩:=hbs x (by simp[hx])
   exact⟨g1,(World.putObj_heap_other (λe=>hnd.1 (by rw[<-e];exact hx))).trans g2⟩
  refine ih hnd.2 (a:={a with defers:=bs.map λb=>({target:=.collected b,args:= #[]}:Deferred)}) (hs.turn h1 h2 (λ_ _ _ e=>by cases e) (Fk:=λ_=>True) (λk ws v _ hv=>?_) (λ_ _ _=>trivial) (λ_ _ _ _ _=>trivial) ⟨bs,hnd.2,rfl,hbs'⟩) h rfl hbs'
  rcases hv with hv|⟨g1,l,rec,g2,g3,g4,g5⟩
  ·exact .inl hv
  ·have hne:l≠b:=λe=>by rw[e,h2]at g4;cases g4
   exact .inr ⟨g1,l,rec,g2,⟨g3,hne⟩,(World.putObj_heap_other hne).trans g4,g5⟩
theorem xad{P:Program}(hD:Qbz P){T:Tab}(hT:Q34 P T){G:List Q09}(hG:Q57 P G){f:FuncId}{fn:Func}(hf:P.funcs[f]?=some fn){args:List D}{rows:List Row}{res:D}{rows':List Row}
 {rf:Option Nat} (hrf:∀code,fn.body=some code->RF rf fn.ntmps code) {L:Code->St->(Ex->St->Prop)->Prop} (hL:∀code st Q,RF rf fn.ntmps code->L code st Q->Tr P fn.ntmps rows.length code st Q) {Q0:D->Rows->Prop} (hQ0:∀d R,Q0 d R->RetE rows.length res rows' d R) (h:fnVC T G L fn args rows Q0):Q2f P f args rows res rows':=by
 intro c w vs hm hbase hR hargs
 unfold fnVC at h
 split at h
 ·rename_i code hb
  have hs:SimS fn.ntmps rows.length {c with X:=λ_=>False} w c w ⟨Qmx args 0,rows.map some⟩ {tmps:=vs.toArray++gD (fn.ntmps-vs.toArray.size) undef,defers:=[]}:=
   ⟨hm,λr=>by
    rw[hR]
    simp only[aK,gI]
    cases rows[r]? <;>rfl,λt=>Z8p hargs _ t,by simp;omega,Qa0.nil,Nat.le_of_eq hbase,λr row h=>by have h:c.R r=some row:=h;rw[hR]at h;exact(List.getElem?_eq_some_iff.1 h).1,Qpi.refl c w⟩
  refine callsIn_wide.1 (callsIn_of_wp_marks (F:=Fence.wide) (n:=0) hf hb trivial (wpIn_mono (Qdk (ro:=none) hD hT hG (Z0g rf fn.ntmps) hL code _ _ (hrf _ hb) h _ w c w _ hs) λe a' w' hq=>?_))
  obtain⟨ex,st,c1,he,hq,hs1⟩:=hq
  have fin:(Z2f T st.rows st.env fn.results.toList λds=>match ds with|[d]=>Q0 d st.rows|ds=>Q0 (.tup ds) st.rows)->
   LeavesInM Fence.wide 0 P fn a'.tmps (λe w'=>∃v' c',e=.returned v'/\NxtW c w c' w'/\(∀r,c'.R r=rows'[r]?)/\Rep c' w' res v') a'.defers .returning w':=by
   intro hres
   refine leaves hs1 λc1 w' a' ha' hs1=>?_
   obtain⟨ds,hK,hr⟩:=Qtj hT hres
   have hAg:Q4w c1 st.rows:=λr row row' h1 h2=>by rw[hs1.rows,h2]at h1;exact(Option.some.inj h1).symm
   obtain⟨us,hrun,hreps⟩:=hr c1 w' a'.tmps hs1.mem hAg hs1.env
   have hrun':=Qvo hrun
   obtain⟨d,v,hret,hv,hrep⟩:∃d v,RetE rows.length res rows' d st.rows/\oneOr us=v/\Rep c1 w' d v:=by
    match ds,us,hreps with
    |[d],[u],hx=>exact⟨d,u,hQ0 _ _ hK,rfl,hx.1.toRep⟩
    |[],[],hx=>exact⟨.tup [],_,hQ0 _ _ hK,rfl,[],rfl,trivial⟩
    |d::e::ds,u::v::us,hx=>exact⟨.tup (d::e::ds),_,hQ0 _ _ hK,rfl,_,rfl,hx⟩
    |[],_::_,hx=>exact hx.elim
    |[_],[],hx=>exact hx.elim
    |[_],_::_::_,hx=>exact hx.2.elim
    |_::_::_,[],hx=>exact hx.elim
    |_::_::_,[_],hx=>exact hx.2.elim
   rw[hv]at hrun'
   obtain⟨ex,hex,hd,hrows⟩:=hret
   obtain⟨hnew,hmem,hreach⟩:=Z8x hs1 hex hrows
   exact⟨v,hrun',v,c1.out _ rows',rfl,⟨hmem,⟨hreach.grows.base,hreach.grows.top,hreach.grows.I,hreach.grows.R⟩,hreach.fr.mono (λb _ hb=>hb.elim id False.elim),λb hb=>(hreach.imm b hb).imp id (λh=>h.elim False.elim id),λr row' h1 h2=>(hreach.rho r row' h1 h2).imp id (λh=>h.elim False.elim id)⟩,λr=>rfl,Qtk hs1.mem hs1.rows hrows hnew hd hrep⟩
  cases e<;>simp only[exOf,Option.some.injEq,reduceCtorEq]at he
  ·subst he;exact fin hq
  ·subst he;exact hq.elim
  ·subst he;exact fin hq
 ·exact h.elim
theorem vN{k:Nat}{rows:List Row}{c:Ctx}{w:World}{c':Ctx}{w':World}(hmem:Mem c' w')(hreach:Qpi {c.kill (bL k (rows.length-k))with X:=λb=>∃s row,memB s (bL k (rows.length-k))=true/\c.R s=some row/\¬c.V s/\c.ρ s=b} w c' w'):
 NxtK (bL k (rows.length-k)) c w c' w':=by
 refine⟨hmem,⟨hreach.grows.base,hreach.grows.top,hreach.grows.I,hreach.grows.R⟩,hreach.fr.mono (λb _ hb=>?_),λb hb=>hreach.imm b hb,λr row' h1 h2=>?_⟩
 ·rcases hb with⟨r,x,h1,h2,h3⟩|⟨r,x,_,h1,h2,h3⟩
  ·obtain⟨_,row,g1,_⟩:=Q2b (c:=c) (ks:=bL k (rows.length-k)) h1
   exact⟨r,row,g1,h2,h3⟩
  ·exact⟨r,x,h1,h2,h3⟩
 ·rcases hreach.rho r row' h1 h2 with⟨⟨x,g1⟩,g2,g3⟩|⟨s,x,q1,q2,q3,q4⟩|g
  ·obtain⟨_,row,p1,_⟩:=Q2b (c:=c) (ks:=bL k (rows.length-k)) g1
   exact .inl ⟨⟨row,p1⟩,g2,g3⟩
  ·exact .inr (.inl ⟨s,x,q1,q2,q3,q4.symm⟩)
  ·exact .inr (.inr g)
theorem Zag:∀{rows:List Row} {r:Nat} {x:Row} {k:Nat},rows[r]?=some x->k∈fnsR [x]->k∈fnsR rows
 |y::l,0,x,k,h,hk=>by
  simp at h;subst h
  unfold fnsR at hk⊢
  split<;>simp_all [fnsR]
 |y::l,r+1,x,k,h,hk=>by
  have:=Zag (rows:=l) (by simpa using h) hk
  unfold fnsR
  split<;>simp_all
 |[],r,x,k,h,_=>by simp at h
theorem Zai{c:Ctx}{w:World}{tm tm':Array Value}:∀{ts:List Nat} {ds:List D},Q5p c w ds (ts.map λt=>tm.getD t undef)->(∀t∈ts,tm'.getD t undef=tm.getD t undef)->∀t,Rep c w (look (yEnv ts ds) t) (tm'.getD t undef)
 |[],ds,_,_,t=>by cases ds<;>trivial
 |u::ts,[],h,_,t=>h.elim
 |u::ts,d::ds,h,ht,t=>by
  simp only[yEnv,Q9e]
  split
  ·rename_i e;rw[<-e,ht u (by simp)];exact h.1.toRep
  ·exact Zai h.2 (λt h=>ht t (by simp[h])) t
theorem vn{P:Program}{F:Fence}{y:YK}{d:Nat}(hd:y.pos=some d){x:Value}{tm:Array Value}(hn:y.n<=tm.size){w:World}{K:Act->World->Prop}{l:Nat}
 (hK:∀tm',tm'.size=tm.size->tm'.getD d undef=x->(∀t∈y.ts,tm'.getD t undef=tm.getD t undef)->K {tmps:=tm',defers:=[]} w):
 y.assign.wpIn (Fro (some l)) 0 P (Exit.then K λ_ _ _=>False) {tmps:=(y.ps.zip #[x]).foldl (λtmps (t,a)=>tmps.setIfInBounds t a) tm,defers:=[]} w:=by
 have keep:∀(p:Nat) (tm0:Array Value) (t:Nat),t≠p->(tm0.setIfInBounds p x).getD t undef=tm0.getD t undef:=λp tm0 t h=>by
  simp[aF,aQ (Ne.symm h)]
 have here:∀(p:Nat) (tm0:Array Value),p<tm0.size->(tm0.setIfInBounds p x).getD p undef=x:=λp tm0 h=>by
  simp[aF,h]
 unfold YK.pos at hd
 split at hd
 ·rename_i p hps has
  have hps:y.ps= #[p]:=by rw[<-bU (xs:=y.ps),hps]
  split at hd
  ·rename_i hc
   cases hd
   simp only[aE,gJ,aS]at hc
   have hp:d<tm.size:=bJ (lE hc.1) hn
   rw[has,hps]
   refine wpIn_skip (hK _ (by simp) ?_ λt ht=>?_)
   ·simpa using here d tm hp
   ·have:=keep d tm t (λe=>by have:=(hc.2 t ht).1;rw[e]at this;simp at this)
    simpa using this
  ·cases hd
 ·rename_i p id ops hps has
  have hps:y.ps= #[p]:=by rw[<-bU (xs:=y.ps),hps]
  split at hd
  ·rename_i e q ty po af hops
   have hops:ops= #[⟨some e,.assign (.tmp q),ty,po,af,none⟩]:=by rw[<-bU (xs:=ops),hops]
   split at hd
   ·rename_i hc
    cases hd
    simp only[aE,gJ,aS]at hc
    obtain⟨⟨hq,hp,hd⟩,hts⟩:=hc
    have hq:=bE hq
    subst hq
    have hp:q<tm.size:=bJ (lE hp) hn
    have hd:d<tm.size:=bJ (lE hd) hn
    rw[has,hps,hops]
    refine Z4e ?_
    show wpOp P _ _ 0 _ _ _
    unfold wpOp
    simp only[List.getElem?_toArray,List.getElem?_cons_zero]
    rw[if_pos (by simp[Region.wanted])]
    refine Qf5 (u:=x) (w':=w) ?_ ?_
    ·have:(tm.setIfInBounds q x).getD q undef=x:=here q tm hp
     simp only[execOp,Act.eval]
     simp[aF,hp]
    ·show K {tmps:=Array.setIfInBounds _ d x,defers:=[]} w
     refine hK _ (by simp) ?_ λt ht=>?_
     ·exact here d _ (by simpa using hd)
     ·have h1:=(hts t ht).1
      rw[keep d _ t (λh=>by rw[h]at h1;simp at h1)]
      have:=keep q tm t (λh=>by rw[h]at h1;simp at h1)
      simpa using this
   ·cases hd
  ·cases hd
 ·cases hd
inductive FnAt(P:Program)(f:FuncId)(fn:Func)(cl:Prop):Prop where
 |real (h:f<YB) (hf:P.funcs[f]?=some fn) (hb:gK YB fn.nfree=false)
 |yield (h:YB<=f) (y:YK) (d:Nat) (hy:yTab f=some y) (hd:y.pos=some d) (hb:fn.body=some y.body) (hn:gK YB fn.nfree=true) (hn':bV fn.nfree YB=true) (hp:fn.params.toList=d::y.ts) (ht:fn.ntmps=y.n) (hc:cl)
 |yieldB (h:YB<=f) (y:YK) (q:Nat) (hy:yTab f=some y) (hps:y.ps= #[q]) (hq:(Nat.blt q y.n&&y.ts.all λt=>!(bV t q))=true) (hb:fn.body=some (.seq y.assign y.body)) (hn:gK YB fn.nfree=true) (hn':bV fn.nfree YB=false) (hp:fn.params.toList=q::y.ts) (ht:fn.ntmps=y.n) (hc:cl)
theorem simM{N k:Nat}{rows:List Row}{c:Ctx}{w:World}{env:List (Nat×D)}{tm:Array Value}(hm:Mem c w)(hbase:c.base=0)(hR:∀r,c.R r=rows[r]?)(henv:∀t,Rep c w (look env t) (tm.getD t undef))(hsz:N<=tm.size):
 SimS N k {c.kill (bL k (rows.length-k))with X:=λb=>∃s row,memB s (bL k (rows.length-k))=true/\c.R s=some row/\¬c.V s/\c.ρ s=b} w c w ⟨env,rows.map some⟩ {tmps:=tm,defers:=[]}:=by
 refine⟨hm,λr=>by
  rw[hR]
  simp only[aK,gI]
  cases rows[r]? <;>rfl,henv,hsz,Qa0.nil,by simp[Ctx.kill,hbase],λr row h=>?_,⟨⟨rfl,aO _,λ_ h=>⟨h,rfl⟩,λr x hx=>?_⟩,Fr.refl _ w,λ_ h=>.inl h,λr row hr hv=>?_,λ_ _=>by simp[Ctx.kill,hbase]⟩⟩
 ·obtain⟨h1,row',h2,_⟩:=Q2b (c:=c) (ks:=bL k (rows.length-k)) h
  rw[hR]at h2
  have hlt:=(List.getElem?_eq_some_iff.1 h2).1
  by_cases hk:r<k
  ·exact hk
  ·rw[Qb6.2 (by omega)]at h1;cases h1
 ·obtain⟨_,row,h2,rfl⟩:=Q2b (c:=c) (ks:=bL k (rows.length-k)) hx
  obtain⟨s1,s2,s3,s4⟩:=Q3f (bL k (rows.length-k)) row
  exact⟨row,h2,s1.symm,s2.symm,s3.symm,s4.symm,rfl,Iff.rfl,λ_ arr ha=>⟨arr,by rw[s2]at ha⊢;exact ha,rfl⟩⟩
 ·cases hb:memB r (bL k (rows.length-k))with
  |true=>exact .inr (.inl ⟨r,row,hb,hr,hv,rfl⟩)
  |false=>exact .inl ⟨⟨row.kill (bL k (rows.length-k)),by simp[Ctx.kill,hb,hr]⟩,hv,rfl⟩
theorem Z4p{c:Ctx}{w:World}{tm tm':Array Value}{ps:List Nat}{d:Nat}{ts:List Nat}(hpar:ps=d::ts){args:List D}{vs us:List Value}{x:Value}(hvs:vs=[x]++us)(hus:us=ts.map λt=>tm.getD t undef)(hargs:Q5p c w args vs)(hx:tm'.getD d undef=x)(hts:∀t∈ts,tm'.getD t undef=tm.getD t undef):
 ∀t,Rep c w (look (yEnv ps args) t) (tm'.getD t undef):=by
 subst hpar
 subst hvs
 match args,hargs with
 |[],hx=>exact hx.elim
 |A::As,⟨hA,hAs⟩=>
  intro t
  simp only[yEnv,Q9e]
  split
  ·rename_i e;rw[<-e,hx];exact hA.toRep
  ·exact Zai (by rw[hus]at hAs;exact hAs) hts t
theorem Z0r{P:Program}(hD:Qbz P){T:Tab}(hT:Q34 P T){G:List Q09}(hG:Q57 P G){n k:Nat}{rows:List Row}{res:D}{rows':List Row}{code:Code}{L:Code->St->(Ex->St->Prop)->Prop}(hL:∀ro code st Q,L code st Q->TrR ro P n k code st Q){Q0:D->Rows->Prop}(hQ0:∀d R,Q0 d R->RetE k res rows' d R)
 {c:Ctx} {w:World} {l:Nat} {rec:Loop} (hm:Mem c w) (hI:c.I l) (hl:w.heap[l]?=some (.loop rec)) (hst:rec.state=.ready) (hpe:rec.pending=none) {st:St} {c2:Ctx} {w2:World} {a:Act}
 (hs:SimS n k {({c with I:=λb=>c.I b/\b≠l}:Ctx).kill (bL k (rows.length-k))with X:=λb=>∃s row,memB s (bL k (rows.length-k))=true/\c.R s=some row/\¬c.V s/\c.ρ s=b} (w.putObj l (.loop {rec with state:=.busy})) c2 w2 st a)
 (h:Q7o T G n k L code st λe st=>match e with|.normal=>Q0 (.bool true) st.rows|_=>False):
 code.wpIn (Fro (some l)) 0 P (roundPost P l λe w'=>∃v' c',e=.returned v'/\NxtK (bL k (rows.length-k)) c w c' w'/\(∀r,c'.R r=rows'[r]?)/\Rep c' w' res v') a w2:=by
 have hlt:=(Array.getElem?_eq_some_iff.1 hl).1
 obtain⟨ĉ,hĉ⟩:∃ĉ:Ctx,ĉ={c with I:=λb=>c.I b/\b≠l}:=⟨_,rfl⟩
 obtain⟨wb,hwb⟩:∃wb,wb=w.putObj l (.loop {rec with state:=.busy}):=⟨_,rfl⟩
 have hrow:∀r x,c.R r=some x->¬c.V r->c.ρ r≠l:=λr x hr hV=>(hm.imm l hI).2 r x hr hV
 have h2o:∀b,b≠l->wb.heap[b]?=w.heap[b]? :=λb hb=>by rw[hwb];exact World.putObj_heap_other hb
 have h2l:wb.heap[l]?=some (.loop {rec with state:=.busy}):=by rw[hwb];exact World.putObj_heap_same hlt
 have h2s:wb.heap.size=w.heap.size:=by rw[hwb];simp
 have hs:SimS n k {ĉ.kill (bL k (rows.length-k))with X:=λb=>∃s row,memB s (bL k (rows.length-k))=true/\ĉ.R s=some row/\¬ĉ.V s/\ĉ.ρ s=b} wb c2 w2 st a:=by rw[hĉ,hwb];exact hs
 refine wpIn_mono (Qdk (ro:=some l) hD hT hG (Z0g none n) (λcode st Q _ hl=>hL (some l) code st Q hl) code _ _ trivial h _ wb c2 w2 _ hs) λe a' w3 hq=>?_
 obtain⟨ex,st,c1,he,hq,hs1⟩:=hq
 cases e<;>simp only[exOf,Option.some.injEq,reduceCtorEq]at he<;>subst he
 rotate_left
 ·exact hq.elim
 ·exact hq.elim
 obtain⟨ex,hex,hd',hrows⟩:=hQ0 _ _ hq
 obtain⟨hnew,hmem,hreach⟩:=Z8x hs1 hex hrows
 have hX:¬({ĉ.kill (bL k (rows.length-k))with X:=λb=>∃s row,memB s (bL k (rows.length-k))=true/\ĉ.R s=some row/\¬ĉ.V s/\ĉ.ρ s=b}:Ctx).X l:=fun⟨s,row,_,g1,g2,g3⟩=>by
  rw[hĉ]at g1 g2 g3;exact hrow s row g1 g2 g3
 have h3l:w3.heap[l]?=some (.loop {rec with state:=.busy}):=by
  refine(hs1.reach.fr.heap l (by rw[h2s];exact hlt) λhx=>?_).trans h2l
  rcases hx with⟨r,row,g1,g2,g3⟩|hx
  ·obtain⟨_,row',g4,_⟩:=Q2b (c:=ĉ) g1
   rw[hĉ]at g2 g3 g4;exact hrow r row' g4 g2 g3
  ·exact hX hx
 have hl3:=(Array.getElem?_eq_some_iff.1 h3l).1
 have hend:=run_endRound (P:=P) none h3l
 refine⟨_,_,hend,_,{c1.out ex rows' with I:=λb=>(c1.out ex rows').I b\/b=l},rfl,?_⟩
 have hrec':({({rec with state:=.busy}:Loop)with state:=if(none:Option Code).isNone then .ready else .done,pending:=none}:Loop)=rec:=by
  cases rec;simp only at hst hpe;subst hst;subst hpe;rfl
 rw[hrec']
 have nl:¬(c1.out ex rows').I l:=λhx=>by
  rcases hreach.imm l hx with h|h|h
  ·obtain⟨h,_⟩:ĉ.I l/\True:=⟨h,trivial⟩
   rw[hĉ]at h;exact h.2 rfl
  ·exact hX h
  ·rw[h2s]at h;omega
 have hrow3:∀r x,(c1.out ex rows').R r=some x->¬(c1.out ex rows').V r->(c1.out ex rows').ρ r≠l:=λr x hr hV e=>by
  rcases hmem.row r x hr with g|⟨_,arr,g,_⟩
  ·exact hV g.1
  ·rw[e,h3l]at g;cases g
 have h4o:∀b,b≠l->(w3.putObj l (.loop rec)).heap[b]?=w3.heap[b]? :=λb hb=>World.putObj_heap_other hb
 have hgr:Q2n (c1.out ex rows') w3 {c1.out ex rows' with I:=λb=>(c1.out ex rows').I b\/b=l} (w3.putObj l (.loop rec)):=
  ⟨rfl,aO _,λb hb=>⟨.inl hb,h4o b (λe=>nl (by rw[<-e];exact hb))⟩,λr x hr=>⟨x,hr,rfl,rfl,rfl,rfl,rfl,Iff.rfl,λhV arr ha=>⟨arr,(h4o _ (hrow3 r x hr hV)).trans ha,rfl⟩⟩⟩
 have hN:=vN hmem hreach
 refine⟨⟨⟨λr x hr=>Q2a hgr rfl Iff.rfl (λnv=>h4o _ (hrow3 r x hr nv)) (hmem.row r x hr),hmem.inj,λb hb=>?_,by simpa using hmem.top,hmem.tab.mono hgr.I⟩,⟨?_,?_,λb hb=>?_,λr x hr=>?_⟩,⟨?_,?_,?_,?_,λb hb hn=>?_⟩,λb hb=>?_,λr row hr hv=>?_⟩,λr=>rfl,Q8b hgr (Qtk hs1.mem hs1.rows hrows hnew hd' rfl)⟩
 ·rcases hb with hb|hb
  ·simpa using hmem.imm b hb
  ·subst hb;exact⟨by simpa using hl3,λr x hr hV=>hrow3 r x hr hV⟩
 ·have:=hN.grows.base;rw[hĉ]at this;exact this
 ·have:=hN.grows.top;rw[hĉ]at this;exact this
 ·by_cases e:b=l
  ·subst e;exact⟨.inr rfl,by rw[World.putObj_heap_same hl3,hl]⟩
  ·have:=hN.grows.I b (by rw[hĉ];exact⟨hb,e⟩)
   exact⟨.inl this.1,(h4o b e).trans (this.2.trans (h2o b e))⟩
 ·have:=hN.grows.R r x (by rw[hĉ];exact hr)
  obtain⟨x',g1,g2,g3,g4,g5,g6,gV,g7⟩:=this
  rw[hĉ]at g6 gV g7
  refine⟨x',g1,g2,g3,g4,g5,g6,gV,λhV arr ha=>?_⟩
  obtain⟨_,x0,q1,_⟩:=Q2b (c:=c) hr
  have hne:c.ρ r≠l:=hrow r x0 q1 hV
  obtain⟨arr',k1,k2⟩:=g7 hV arr ((h2o _ hne).trans ha)
  exact⟨arr',(h4o _ hne).trans k1,k2⟩
 ·rw[hwb]at hN;exact hN.fr.os
 ·rw[hwb]at hN;exact hN.fr.tape
 ·rw[hwb]at hN;exact hN.fr.output
 ·have:=hN.fr.size;rw[h2s]at this;simpa using this
 ·by_cases e:b=l
  ·subst e;rw[World.putObj_heap_same hl3,hl]
  ·rw[h4o b e,hN.fr.heap b (by rw[h2s];exact hb) (by rw[hĉ];exact hn),h2o b e]
 ·rcases hb with hb|hb
  ·rcases hN.imm b hb with g|g|g
   ·rw[hĉ]at g;exact .inl g.1
   ·rw[hĉ]at g;exact .inr (.inl g)
   ·rw[h2s]at g;exact .inr (.inr g)
  ·subst hb;exact .inl hI
 ·rcases hN.rho r row hr hv with g|g|g
  ·rw[hĉ]at g;exact .inl g
  ·rw[hĉ]at g;exact .inr (.inl g)
  ·rw[h2s]at g;exact .inr (.inr g)
theorem qae{P:Program}(hD:Qbz P){T:Tab}(hT:Q34 P T){G:List Q09}(hG:Q57 P G){f:FuncId}{fn:Func}{k:Nat}{args:List D}{rows:List Row}{res:D}{rows':List Row}{rf:Option Nat}(hf:FnAt P f fn (noYs (fnsT args++fnsR rows)=true/\rf=none))(hrf:∀code,fn.body=some code->RF rf fn.ntmps code)
 {L:Code->St->(Ex->St->Prop)->Prop} (hL:∀ro,(ro=none\/rf=none)->∀code st Q,RF rf fn.ntmps code->L code st Q->TrR ro P fn.ntmps k code st Q) {Q0:D->Rows->Prop} (hQ0:∀d R,Q0 d R->RetE k res rows' d R) (h:Z6w T G L fn args rows Q0 k):Q9l P f k args rows res rows':=by
 intro c w vs hm hbase hR hargs
 unfold Z6w at h
 split at h
 rotate_left
 ·exact h.elim
 rename_i code hb
 cases hf with
 |real hlt hf hb0=>
  simp only[hb0]at h
  refine⟨λ_=>?_,λhge=>absurd hlt (Nat.not_lt.2 hge)⟩
  have hs:=simM (N:=fn.ntmps) (k:=k) (env:=Qmx args 0) (tm:=vs.toArray++gD (fn.ntmps-vs.toArray.size) undef) hm hbase hR (λt=>Z8p hargs _ t) (by simp;omega)
  refine callsIn_wide.1 (callsIn_of_wp_marks (F:=Fence.wide) (n:=0) hf hb trivial (wpIn_mono (Qdk (ro:=none) hD hT hG (Z0g rf fn.ntmps) (hL none (.inl rfl)) code _ _ (hrf _ hb) h _ w c w _ hs) λe a' w' hq=>?_))
  obtain⟨ex,st,c1,he,hq,hs1⟩:=hq
  have fin:(Z2f T st.rows st.env fn.results.toList λds=>match ds with|[d]=>Q0 d st.rows|ds=>Q0 (.tup ds) st.rows)->
   LeavesInM Fence.wide 0 P fn a'.tmps (λe w'=>∃v' c',e=.returned v'/\NxtK (bL k (rows.length-k)) c w c' w'/\(∀r,c'.R r=rows'[r]?)/\Rep c' w' res v') a'.defers .returning w':=by
   intro hres
   refine leaves hs1 λc1 w' a' ha' hs1=>?_
   obtain⟨ds,hK,hr⟩:=Qtj hT hres
   have hAg:Q4w c1 st.rows:=λr row row' h1 h2=>by rw[hs1.rows,h2]at h1;exact(Option.some.inj h1).symm
   obtain⟨us,hrun,hreps⟩:=hr c1 w' a'.tmps hs1.mem hAg hs1.env
   have hrun':=Qvo hrun
   obtain⟨d,v,hret,hv,hrep⟩:∃d v,RetE k res rows' d st.rows/\oneOr us=v/\Rep c1 w' d v:=by
    match ds,us,hreps with
    |[d],[u],hx=>exact⟨d,u,hQ0 _ _ hK,rfl,hx.1.toRep⟩
    |[],[],hx=>exact⟨.tup [],_,hQ0 _ _ hK,rfl,[],rfl,trivial⟩
    |d::e::ds,u::v::us,hx=>exact⟨.tup (d::e::ds),_,hQ0 _ _ hK,rfl,_,rfl,hx⟩
    |[],_::_,hx=>exact hx.elim
    |[_],[],hx=>exact hx.elim
    |[_],_::_::_,hx=>exact hx.2.elim
    |_::_::_,[],hx=>exact hx.elim
    |_::_::_,[_],hx=>exact hx.2.elim
   rw[hv]at hrun'
   obtain⟨ex,hex,hd,hrows⟩:=hret
   obtain⟨hnew,hmem,hreach⟩:=Z8x hs1 hex hrows
   refine⟨v,hrun',v,c1.out _ rows',rfl,vN hmem hreach,λr=>rfl,Qtk hs1.mem hs1.rows hrows hnew hd hrep⟩
  cases e<;>simp only[exOf,Option.some.injEq,reduceCtorEq]at he
  ·subst he;exact fin hq
  ·subst he;exact hq.elim
  ·subst he;exact fin hq
 |yield hge y d hy hd hby hnf hnf' hpar hnt hc=>
  simp only[hnf,hnf']at h
  obtain⟨hno,hrf0⟩:=hc
  rw[hby]at hb
  cases hb
  refine⟨λhlt=>absurd hlt (Nat.not_lt.2 hge),λ_ l rec xs us hvs hI hl hrec hone=>?_⟩
  obtain⟨hst,hpe,y',hy',hps,has,hbo,hnn,h1,hus⟩:=hrec
  rw[hy]at hy';cases hy'
  obtain⟨x,rfl⟩:∃x,xs=[x]:=by
   match xs,hone with
   |[x],_=>exact⟨x,rfl⟩
  rw[hps,has,hbo]
  have real:∀k,k∈fnsT args++fnsR rows->k<YB:=λk hk=>Qo8 hno hk
  have hlt:=(Array.getElem?_eq_some_iff.1 hl).1
  have hcell:∀arr ty fz,(Obj.loop rec)≠.cells arr ty fz:=λ_ _ _ e=>by cases e
  obtain⟨ĉ,hĉ⟩:∃ĉ:Ctx,ĉ={c with I:=λb=>c.I b/\b≠l}:=⟨_,rfl⟩
  obtain⟨w2,hw2⟩:∃w2,w2=w.putObj l (.loop {rec with state:=.busy}):=⟨_,rfl⟩
  have hrow:∀r x,c.R r=some x->¬c.V r->c.ρ r≠l:=λr x hr hV=>(hm.imm l hI).2 r x hr hV
  have h2o:∀b,b≠l->w2.heap[b]?=w.heap[b]? :=λb hb=>by rw[hw2];exact World.putObj_heap_other hb
  have h2l:w2.heap[l]?=some (.loop {rec with state:=.busy}):=by rw[hw2];exact World.putObj_heap_same hlt
  have h2s:w2.heap.size=w.heap.size:=by rw[hw2];simp
  have hg:Qvt c w ĉ w2:=by
   rw[hĉ]
   refine⟨rfl,aO _,λb arr ty fz hbI hb=>?_,λr x hr=>⟨x,hr,rfl,rfl,rfl,rfl,rfl,Iff.rfl,λhV arr ha=>⟨arr,(h2o _ (hrow r x hr hV)).trans ha,rfl⟩⟩⟩
   have hne:b≠l:=λe=>by subst e;rw[hl]at hb;cases hb
   exact⟨⟨hbI,hne⟩,(h2o b hne).trans hb⟩
  have gF:∀k ws v,k<YB->FnV c w k ws v->FnV ĉ w2 k ws v:=λk ws v hk hv=>by
   rcases hv with hv|⟨hv,_⟩
   ·exact .inl hv
   ·omega
  have hm2:Mem ĉ w2:=by
   rw[hĉ]at hg gF⊢
   refine Z1g hm hg (λr x hr hV=>h2o _ (hrow r x hr hV)) (Fk:=λk=>k<YB) gF (λr x hr k hk=>real k ?_) (λb hb=>⟨by rw[h2s];exact(hm.imm b hb.1).1,(hm.imm b hb.1).2⟩) (by rw[h2s];exact aO _)
   rw[hR]at hr
   exact gG _ (Zag hr hk)
  have hargs2:Q5p ĉ w2 args vs:=Qqg hg (Fk:=λk=>k<YB) gF (λk hk=>real k (gH _ hk)) hargs
  refine roundIn_of_wpIn (F:=Fence.wide) (n:=0) trivial (vn (F:=Fence.wide) hd (tm:=rec.tmps) hnn λtm' hsz hx hts=>?_)
  refine⟨w2,by rw[hw2];exact run_beginRound hl hst,?_⟩
  have henv:∀t,Rep ĉ w2 (look (yEnv fn.params.toList args) t) (tm'.getD t undef):=Z4p hpar hvs hus hargs2 hx hts
  have hs:=simM (N:=fn.ntmps) (k:=k) (env:=yEnv fn.params.toList args) (tm:=tm') hm2 (by rw[hĉ];exact hbase) (by rw[hĉ];exact hR) henv (by rw[hsz,hnt];exact hnn)
  subst hrf0
  subst hw2
  subst hĉ
  exact Z0r hD hT hG (λro code st Q hl=>hL ro (.inr rfl) code st Q trivial hl) hQ0 hm hI hl hst hpe hs h
 |yieldB hge y q hy hps hq hby hnf hnf' hpar hnt hc=>
  simp only[hnf,hnf']at h
  obtain⟨hno,hrf0⟩:=hc
  subst hrf0
  rw[hby]at hb
  cases hb
  simp only at h
  refine⟨λhlt=>absurd hlt (Nat.not_lt.2 hge),λ_ l rec xs us hvs hI hl hrec hone=>?_⟩
  obtain⟨hst,hpe,y',hy',hps',has,hbo,hnn,h1,hus⟩:=hrec
  rw[hy]at hy';cases hy'
  obtain⟨x,rfl⟩:∃x,xs=[x]:=by
   match xs,hone with
   |[x],_=>exact⟨x,rfl⟩
  rw[hps',has,hbo]
  obtain⟨tm',htm⟩:∃tm',tm'=rec.tmps.setIfInBounds q x:=⟨_,rfl⟩
  have hz:((y.ps.zip [x].toArray).foldl (λtmps (t,a)=>tmps.setIfInBounds t a) rec.tmps)=tm':=by rw[hps,htm];simp
  rw[hz]
  simp only[aE,gJ,aS]at hq
  have hqs:q<rec.tmps.size:=bJ (lE hq.1) hnn
  have hx:tm'.getD q undef=x:=by rw[htm];simp[aF,hqs]
  have hts:∀t∈y.ts,tm'.getD t undef=rec.tmps.getD t undef:=λt ht=>by
   have hne:q≠t:=λe=>by have:=hq.2 t ht;rw[e]at this;simp at this
   rw[htm];simp[aF,aQ hne]
  have henv:∀t,Rep c w (look (yEnv fn.params.toList args) t) (tm'.getD t undef):=Z4p hpar hvs hus hargs hx hts
  have hs:=simM (N:=fn.ntmps) (k:=k) (env:=yEnv fn.params.toList args) (tm:=tm') hm hbase hR henv (by rw[htm,hnt];simpa using hnn)
  refine roundIn_of_wpIn (F:=Fence.wide) (n:=0) trivial (wpIn_mono (Qdk (ro:=some l) hD hT hG (Z0g none fn.ntmps) (λcode st Q _ hl=>hL (some l) (.inr rfl) code st Q trivial hl) y.assign _ _ trivial h _ w c w _ hs) λe a1 w1 hq=>?_)
  obtain⟨ex,st1,c1,he,hq,hs1⟩:=hq
  cases e<;>simp only[exOf,Option.some.injEq,reduceCtorEq]at he<;>subst he
  rotate_left
  ·exact hq.elim
  ·exact hq.elim
  simp only[Q02]at hq
  obtain⟨hno1,hq⟩:=hq
  have hl1:w1.heap[l]?=some (.loop rec):=(hs1.reach.grows.I l hI).2.trans hl
  have hrow:∀r x,(c.kill (bL k (rows.length-k))).R r=some x->¬c.V r->c.ρ r≠l:=λr x hr hV=>by
   obtain⟨_,x0,q1,_⟩:=Q2b (c:=c) hr
   exact(hm.imm l hI).2 r x0 q1 hV
  exact⟨_,run_beginRound hl1 hst,Z0r hD hT hG (λro code st Q hl=>hL ro (.inr rfl) code st Q trivial hl) hQ0 hm hI hl hst hpe (hs1.edit hI hl hrow hno1) hq⟩

import Derived.Test.YthjfindbamdacaaGreatDoorAuditComparesFb
open List renaming getD->aK,getElem?_eq_none->aM,getElem?_append_left->aZ,getElem?_eq_getElem->cG,mem_of_getElem?->fX,mem_append->bX,mapM_cons->gO,mem_append_right->gP,mem_append_left->gQ,getElem?_map->fL,range'->bK,all_eq_true->gR
open Nat renaming le_refl->aO,beq->bT,lt_of_lt_of_le->bI,ble->gT
open Bool renaming not_eq_true'->aS,false_eq_true->aN
open Array renaming replicate->gN,toArray_toList->bS,getD_eq_getD_getElem?->aF,getElem?_setIfInBounds_ne->aQ
set_option linter.all false
namespace Go.GD
open Go
theorem fk.kv{N M:Nat}{c0:Ctx}{w0:World}{c:Ctx}{w:World}{st:St}{a:Act}(h:fk N M c0 w0 c w st a){x:Operand}{b:Bool}(hb:bo st.env x=.bool b):fk N M c0 w0 c w (st.kv x b) a:=by
 cases x with
 |tmp t=>exact⟨h.mem,h.rows,λs=>by rw[RO hb];exact h.env s,h.size,h.defers,h.fw,h.gk,h.reach⟩
 |_=>exact h
theorem fk.Hb{N M:Nat}{c0:Ctx}{w0:World}{c:Ctx}{w:World}{st:St}{a:Act}(h:fk N M c0 w0 c w st a){x:Operand}{b:Bool}(hb:a.eval x=.bool b):fk N M c0 w0 c w (st.kv x b) a:=by
 cases x with
 |tmp t=>
  refine⟨h.mem,h.rows,λs=>?_,h.size,h.defers,h.fw,h.gk,h.reach⟩
  simp only[St.kv,AJ]
  split
  ·rename_i e;subst e;exact hb
  ·exact h.env s
 |_=>exact h
theorem qu{P:Program}{T:ff}(hT:jt P T){G:List ba}(hG:jO P G){N M:Nat}{ro:Option Nat}{id:Nat}{ops:Array Oper}{st:St}{Q:Ex->St->Prop}(h:lF T G N M ops ops.toList st λst=>Q .normal st):tz ro P N M (.region id ops false) st Q:=by
 intro c0 w0 c w a hs
 refine Zcd ?_
 have:=xW (P:=P) (ops:=ops) hT hG (Q:=λe a' w'=>∃ex jn c',mu e=some ex/\Q ex jn/\fk N M c0 w0 c' w' jn a') (λst c w a hK hs=>⟨_,st,c,rfl,hK,hs⟩) ops.toList 0 st c w a (by simp) h hs
 rwa [<-List.range_eq_range',Array.length_toList]at this
theorem Qxc{c:Ctx}{w:World}{i n:Nat}{row:Row}(hn:c.R n=some row)(hb:row.box=false)(hV:c.V n):∀{e e':List D},Hc i n e=some e'->e'.length=e.length/\∀arr off,kA c w e arr off->kA c w e' arr off
 |[],e',h=>by simp[Hc]at h
 |d ::l,e',h=>by
  unfold Hc at h
  split at h
  ·cases h
   refine⟨rfl,λarr off hc=>?_⟩
   obtain⟨⟨v,hv,h1⟩,⟨u,hu,h2⟩,h3⟩:=hc
   exact⟨⟨v,hv,.inl h1⟩,⟨u,hu,row,hn,hb,.inl ⟨hV,none,h2,MG⟩⟩,h3⟩
  ·split at h
   ·rename_i l' sW
    cases h
    obtain⟨g1,g2⟩:=Qxc hn hb hV sW
    exact⟨by simp[g1],λarr off hc=>⟨hc.1,g2 arr _ hc.2⟩⟩
   ·cases h
theorem Qxv{n:Nat}:∀{R:Rows} {k i:Nat} {ty:TypeId} {sz:Nat} {e':List D},Jb n R k=some (i,ty,sz,e')->∃e j,i=k+j/\R[j]?=some (some ⟨true,ty,sz,.gen [e]⟩)/\Hc i n e=some e'
 |[],k,i,ty,sz,e',h=>by simp[Jb]at h
 |x ::l,k,i,ty,sz,e',h=>by
  have next:Jb n l (k+1)=some (i,ty,sz,e')->∃e j,i=k+j/\(x::l)[j]?=some (some ⟨true,ty,sz,.gen [e]⟩)/\Hc i n e=some e':=λh=>by
   obtain⟨e,j,h1,h2,h3⟩:=Qxv h
   exact⟨e,j+1,by omega,by simpa using h2,h3⟩
  unfold Jb at h
  split at h
  ·split at h
   ·rename_i e1 he
    cases h
    exact⟨_,0,rfl,rfl,he⟩
   ·exact next h
  ·exact next h
theorem xas{N M:Nat}{c0:Ctx}{w0:World}{c:Ctx}{w:World}{st:St}{a:Act}{T:ff}{code:Code}{K:St->Prop}(h:Jc T code st K)(hs:fk N M c0 w0 c w st a): ∃jn c',K jn/\fk N M c0 w0 c' w jn a:=by
  unfold Jc at h
  split at h
  . exact⟨st,c,h,hs⟩
  . rename_i u hu
    split at h
    . exact⟨st,c,h,hs⟩
    . rename_i i ty sz e' hf
      simp only[D.ez,mO]at h
      obtain⟨e,j,h1,h2,h3⟩:=Qxv hf
      rw[Nat.zero_add]at h1
      subst h1
      have cj:=(List.getElem?_eq_some_iff.1 h2).1
      have hi:c.R i=some ⟨true,ty,sz, .gen [e]⟩:=by rw[hs.rows,aK,h2];rfl
      have hn:c.R st.rows.length=none:=by rw[hs.rows,aK,aM (aO _)];rfl
      have gg:i≠st.rows.length:=by omega
      have HR:=VD hs.mem hn (row:=⟨false,u,1, .ints .u8 []⟩) rfl rfl Nat.one_pos
      have VE:=RU (w:=w) hn ⟨false,u,1, .ints .u8 []⟩
      have VF:(c.jl st.rows.length ⟨false,u,1, .ints .u8 []⟩).R i=some ⟨true,ty,sz, .gen [e]⟩:=by simp [Ctx.jl,gg,hi]
      obtain⟨q1,q2⟩:=Qxc (c:=c.jl st.rows.length ⟨false,u,1, .ints .u8 []⟩) (w:=w) (row:=⟨false,u,1, .ints .u8 []⟩) (by simp [Ctx.jl]) rfl (.inl rfl) h3
      obtain⟨VG,By⟩:=vb HR VF q1 (λarr=>q2 arr 0)
      have hg:=VE.trans VG
      have nh:lu c w ((c.jl st.rows.length ⟨false,u,1, .ints .u8 []⟩).jv i ⟨true,ty,sz, .gen [e']⟩) w:=by
        refine⟨By,hg,Fr.refl _ w,λb hb=> .inl hb,λr ao hr hv=> .inl ?_⟩
        have wX:r≠st.rows.length:=λe=>hv (.inl e)
        by_cases er:r=i
        . subst er;exact⟨⟨_,hi⟩,λe=>hv (.inr e),rfl⟩
        . exact⟨⟨ao,by simpa [Ctx.jv,Ctx.jl,er,wX] using hr⟩,λe=>hv (.inr e),rfl⟩
      refine⟨_,_,h,By,λr=> ?_,λt=>wQ hg (hs.env t),hs.size,hs.defers,hs.fw,hs.gk,hs.reach.step (ks:=[]) (λk hk=>by simp [bq]at hk) hs.gk nh.toK⟩
      simp only[Ctx.jv,Ctx.jl]
      by_cases er:r=i
      . subst er
        simp [aK,aZ (show r<(st.rows.set r _).length by simpa using cj),cj]
      . rw [if_neg er]
        by_cases en:r=st.rows.length
        . subst en
          simp [aK]
        . rw[if_neg en,hs.rows]
          by_cases hl:r<st.rows.length
          . simp [aK,aZ (show r<(st.rows.set i _).length by simpa using hl),List.getElem?_set_ne (Ne.symm er)]
          . have h1:st.rows.getD r none=none:=by rw[aK,aM (by omega)];rfl
            rw[h1,aK,aM (by simp;omega)];rfl
def rF(P:Program):Prop:=∀(ro:Option Nat) (T:ff) (G:List ba) (N M id:Nat) (ops:Array Oper) (st:St) (Q:Ex->St->Prop),jt P T->jO P G->uu T G N M ops st Q->tz ro P N M (.region id ops true) st Q
def Hd(y:Array Tmp×Code×Code):Code->Prop
 |.seq a b=>Hd y a/\Hd y b
 |.cond _ a b=>Hd y a/\Hd y b
 |.block _ a=>Hd y a
 |.loop a=>Hd y a
 |.scope a=>Hd y a
 |.rangeFunc _ ps x b=>(ps,x,b)=y
 |_=>True
def RF(o:Option Nat)(n:Nat)(c:Code):Prop:=match o with|none=>True|some f=>∃y,(Fi f=some y/\y.n<=n/\y.ts=yTs f/\YB<=f/\y.ps.size=1)/\Hd (y.ps,y.assign,y.body) c
theorem yR{P:Program}{ro:Option Nat}{c:Code}{Q:Exit->Act->World->Prop}{a:Act}{w:World}(h:c.wpIn (AM ro) 0 P (Exit.noGoto Q) a w):(Code.scope c).wpIn (AM ro) 0 P Q a w:=by
 intro b k cs Dj hb hr
 have s1:step P (lone (b.atR a (.code (.scope c)::k)) cs w)=.next (lone (b.atR a (.code c:: .inScope c::k)) cs w):=step_lone_go (by simp[stepG,stepG.exec,Frame.atR])
 have h0:(lone (b.atR a (.code (.scope c)::k)) cs w).fenced P (AM ro):=fenced_calm hb hr rfl
 obtain⟨e,CA,CB,hq,lQ⟩:=h b (.inScope c::k) cs Dj hb hr
 cases e with
 |normal=>exact⟨.normal,CA,CB,hq,.head h0 s1 (StepsIn.trans lQ (.one (fenced_calm hb hr rfl) (step_lone_go (by simp[stepG,stepG.exec,Frame.atR]))))⟩
 |exit id=>
  have hx:exitTo id (.inScope c::k)=exitTo id k:=by simp[exitTo]
  exact⟨.exit id,CA,CB,hq,λk' hk=>.head h0 s1 (lQ.1 k' (by rw[hx];exact hk)),λnc hk=>let⟨k₁,h1,h2⟩:=lQ.2 nc (by rw[hx];exact hk);⟨k₁,h1,.head h0 s1 h2⟩⟩
 |goto l=>exact hq.elim
 |ret=>exact⟨_,CA,CB,hq,.of_steps (.one h0 s1) lQ⟩
 |panic ch=>exact⟨_,CA,CB,hq,.of_steps (.one h0 s1) lQ⟩
 |outgrown=>exact⟨_,CA,CB,hq,.of_steps (.one h0 s1) lQ⟩
theorem MK{P:Program}(hD:rF P){T:ff}(hT:jt P T){G:List ba}(hG:jO P G){ro:Option Nat}{N M:Nat}{L:Code->St->(Ex->St->Prop)->Prop}{S:Code->Prop}(hS:(∀a b,S (.seq a b)->S a/\S b)/\(∀c a b,S (.cond c a b)->S a/\S b)/\(∀i a,S (.block i a)->S a)/\(∀a,S (.scope a)->S a))(hL:∀code st Q,S code->L code st Q->tz ro P N M code st Q):∀(code:Code) (st:St) (Q:Ex->St->Prop),S code->oO T G N M L code st Q->tz ro P N M code st Q:=by
 intro code
 induction code with
 |skip=>exactλst Q _ h c0 w0 c w a hs=>wpIn_skip ⟨_,st,c,rfl,h,hs⟩
 |label l=>exactλst Q _ h c0 w0 c w a hs=>wpIn_label ⟨_,st,c,rfl,h,hs⟩
 |region id ops draw=>
  intro st Q hc h c0 w0 c w a hs
  simp only[oO]at h
  obtain⟨R1,c1,h,mg⟩:=FI h hs
  obtain⟨jn,c',h,jd⟩:=zab h mg
  cases draw with
  |false=>exact qu hT hG h c0 w0 c' w a jd
  |true=>exact hD ro T G N M id ops jn Q hT hG h c0 w0 c' w a jd
 |seq x y ihx T0=>
  intro st Q hc h c0 w0 c w a hs
  simp only[oO]at h
  refine wpIn_seq (wpIn_mono (ihx st _ (hS.1 _ _ hc).1 h c0 w0 c w a hs) λe a' w' hq=>?_)
  obtain⟨ex,jn,c',he,hq,jd⟩:=hq
  cases e<;>simp only[mu,Option.some.injEq,reduceCtorEq]at he
  ·subst he
   obtain⟨st2,c2,hq,OU⟩:=xas hq jd
   exact T0 st2 Q (hS.1 _ _ hc).2 hq c0 w0 c2 w' a' OU
  ·subst he;exact⟨_,jn,c',rfl,hq,jd⟩
  ·subst he;exact⟨_,jn,c',rfl,hq,jd⟩
 |cond x y z T0 ihz=>
  intro st Q hc h c0 w0 c w a hs
  simp only[oO]at h
  split at h
  ·rename_i b hb
   have hv:=Mz hs.env x
   rw[hb]at hv
   have hv:=Rep.bool.1 hv
   cases b with
   |true=>exact wpIn_cond_true hv (T0 _ Q (hS.2.1 _ _ _ hc).1 h c0 w0 c w a (hs.kv hb))
   |false=>exact wpIn_cond_false hv (ihz _ Q (hS.2.1 _ _ _ hc).2 h c0 w0 c w a (hs.kv hb))
  ·rename_i es hb
   have hv:=Mz hs.env x
   rw[hb]at hv
   obtain⟨b,hv,ia⟩:=hv
   cases b with
   |true=>exact wpIn_cond_true hv (T0 _ Q (hS.2.1 _ _ _ hc).1 (h.1 (ak.nZ.2 (ia rfl))) c0 w0 c w a (hs.Hb hv))
   |false=>exact wpIn_cond_false hv (ihz _ Q (hS.2.1 _ _ _ hc).2 h.2 c0 w0 c w a (hs.Hb hv))
  ·exact h.elim
 |block id x ih=>
  intro st Q hc h c0 w0 c w a hs
  simp only[oO]at h
  refine wpIn_block (wpIn_mono (ih st _ (hS.2.2.1 _ _ hc) h c0 w0 c w a hs) λe a' w' hq=>?_)
  obtain⟨ex,jn,c',he,hq,jd⟩:=hq
  cases e<;>simp only[mu,Option.some.injEq,reduceCtorEq]at he
  ·subst he;exact⟨_,jn,c',rfl,hq,jd⟩
  ·rename_i i
   subst he
   simp only[Exit.inBlock]
   simp only at hq
   cases hb:bT i id with
   |true=>
    simp only[hb]at hq
    rw[if_pos (bE hb)]
    exact⟨_,jn,c',rfl,hq,jd⟩
   |false=>
    simp only[hb]at hq
    rw[if_neg (λe=>by rw[e]at hb;simp at hb)]
    exact⟨_,jn,c',rfl,hq,jd⟩
  ·subst he;exact⟨_,jn,c',rfl,hq,jd⟩
 |exit id=>exactλst Q _ h c0 w0 c w a hs=>wpIn_exit ⟨_,st,c,rfl,h,hs⟩
 |ret=>exactλst Q _ h c0 w0 c w a hs=>wpIn_ret ⟨_,st,c,rfl,h,hs⟩
 |loop x ih=>exactλst Q hc h=>hL _ _ _ hc h
 |rangeFunc g ps x y _ _=>exactλst Q hc h=>hL _ _ _ hc h
 |scope x ih=>
  intro st Q hc h c0 w0 c w a hs
  simp only[oO]at h
  refine yR (wpIn_mono (ih st _ (hS.2.2.2 _ hc) h c0 w0 c w a hs) λe a' w' hq=>?_)
  obtain⟨ex,jn,c',he,hq,jd⟩:=hq
  cases e<;>simp only[mu,Option.some.injEq,reduceCtorEq]at he
  all_goals(subst he;exact⟨_,jn,c',rfl,hq,jd⟩)
 |goto l=>exactλst Q hc h=>hL _ _ _ hc h
 |refuse y=>exactλst Q hc h=>hL _ _ _ hc h
theorem ML(o:Option Nat)(n:Nat):(∀a b,RF o n (.seq a b)->RF o n a/\RF o n b)/\(∀c a b,RF o n (.cond c a b)->RF o n a/\RF o n b)/\(∀i a,RF o n (.block i a)->RF o n a)/\(∀a,RF o n (.scope a)->RF o n a):=by
 cases o with
 |none=>exact⟨λ_ _ _=>⟨trivial,trivial⟩,λ_ _ _ _=>⟨trivial,trivial⟩,λ_ _ _=>trivial,λ_ _=>trivial⟩
 |some f=>exact⟨λ_ _ ⟨y,h,h1,h2⟩=>⟨⟨y,h,h1⟩,⟨y,h,h2⟩⟩,λ_ _ _ ⟨y,h,h1,h2⟩=>⟨⟨y,h,h1⟩,⟨y,h,h2⟩⟩,λ_ _ ⟨y,h,h1⟩=>⟨y,h,h1⟩,λ_ ⟨y,h,h1⟩=>⟨y,h,h1⟩⟩
def Ctx.out(c:Ctx)(ex:List Nat)(rows:List Row):Ctx:=
 { ρ:=λi=>match ex[i]? with|some r=>c.ρ r|none=>c.ρ i,R:=λi=>rows[i]?,V:=λi=>match ex[i]? with|some r=>c.R r=none\/c.V r|none=>True,
   I:=λb=>c.I b\/ ∃r row,c.R r=some row/\ ¬c.V r/\row.box=false/\J4 ex r=true/\c.ρ r=b,base:=c.base,top:=c.top,X:=c.X}
theorem T8{ex:List Nat}{i r:Nat}(h:ky ex i r=true):ex[i]?=some r:=by
 unfold ky at h
 split at h
 ·rename_i x hx;rw[hx,bE h]
 ·cases h
theorem Zn2{ex:List Nat}{R:Rows}{i:Nat}(h:Zip ex R i=true):∃r,ex[i]?=some r/\R.getD r none=none:=by
 unfold Zip at h
 split at h
 ·rename_i r hr
  refine⟨r,hr,?_⟩
  split at h
  ·assumption
  ·cases h
 ·cases h
theorem Z73{ex:List Nat}{r:Nat}(h:J4 ex r=true):r∉ex:=by
 intro hm
 have:=List.all_eq_true.1 h r hm
 simp at this
theorem Pz{ex:List Nat}{m:Nat}{R:Rows}:∀{rs:List Nat} {ps:List Row},mz ex m R rs ps->rs.length=ps.length/\∀(i r:Nat) (p:Row),rs[i]?=some r->ps[i]?=some p->
 (∃row,R.getD r none=some row/\row.box=p.box/\row.ty=p.ty/\row.sz=p.sz/\(if p.box then∃e e',row.es=.gen [e]/\p.es=.gen [e']/\En ex m R e e' else row.es.l=p.es.l))\/(R.getD r none=none/\p.box=false/\p.es.l=[]/\0<p.sz)
 |[],[],_=>⟨rfl,λi r p h=>by simp at h⟩
 |[],_::_,h=>h.elim
 |_::_,[],h=>h.elim
 |r ::rs,⟨box,ty,sz,es⟩::ps,h=>by
  simp only[mz]at h
  obtain⟨h1,h2⟩:=h
  obtain⟨g1,g2⟩:=Pz h2
  refine⟨by simp[g1],λi q p hq hp=>?_⟩
  cases i with
  |succ i=>exact g2 i q p (by simpa using hq) (by simpa using hp)
  |zero=>
   simp at hq hp
   subst hq;subst hp
   split at h1
   ·rename_i w7 jP ka iW hR
    simp only[c7,aE]at h1
    obtain⟨⟨⟨e1,e2⟩,e3⟩,h1⟩:=h1
    refine .inl ⟨_,hR,by cases box<;>cases w7<;>simp_all,(bE e2).symm,(bE e3).symm,?_⟩
    cases box with
    |false=>simpa using ak.w4 h1
    |true=>
     simp only[if_true]
     simp only at h1
     split at h1
     ·exact⟨_,_,rfl,rfl,h1⟩
     ·exact h1.elim
   ·rename_i hR
    simp only[c7,aE,aS]at h1
    exact .inr ⟨hR,h1.1.1,ak.nZ.1 h1.2,lE h1.1.2⟩
theorem RV{c:Ctx}{w:World}{ex:List Nat}{m:Nat}{R:Rows}{rows:List Row}(hR:∀r,c.R r=R.getD r none)(cv:mz ex m R ex rows){i r o f:Nat}{v:Value}(hx:ky ex i r=true)(hr:cu c w (.ptr r o f) v):cu (c.out ex rows) w (.ptr i o f) v:=by
 obtain⟨row,g1,gV,g2,hv⟩:=hr
 have hi:=T8 hx
 obtain⟨hl,iP⟩:=Pz cv
 have cj:=(List.getElem?_eq_some_iff.1 hi).1
 have hp:rows[i]?=some rows[i]:=cG (by omega)
 rcases iP i r _ hi hp with⟨ao,k1,k2,k3,k4,k5⟩|⟨k1,_⟩
 ·have:ao=row:=by rw[hR,k1]at g1;exact Option.some.inj g1
  subst this
  refine⟨_,hp,by simp[Ctx.out,hi,g1,gV],?_,by simp only[Ctx.out,hi];rw[hv,k4]⟩
  split at k5
  ·obtain⟨e,e',q1,q2,_⟩:=k5
   rw[q1]at g2;rw[q2];exact g2
  ·rw[<-k5];exact g2
 ·rw[hR,k1]at g1;cases g1
theorem Zk4{c:Ctx}{w:World}{ex:List Nat}{m:Nat}{R:Rows}{rows:List Row}(hR:∀r,c.R r=R.getD r none)(cv:mz ex m R ex rows):∀{ps qs:List (Nat×Nat×Nat)} {us:List Value},r0 ex ps qs=true->LZ c qs us->LZ (c.out ex rows) ps us
 |[],[],_,_,h=>by rename_i us _;cases us<;>exact h
 |(i,b,d)::l,(r,y,z)::q,u::us,h,hr=>by
  simp only[r0,aE]at h
  obtain⟨h1,h2,h3,h4⟩:=h
  have e2:=bE h2;have e3:=bE h3
  subst e2;subst e3
  exact⟨RV (w:=w) hR cv h1 hr.1,Zk4 (w:=w) hR cv h4 hr.2⟩
 |(_,_,_)::_,(_,_,_)::_,[],_,h=>h.elim
 |[],_::_,_,h,_=>by simp[r0]at h
 |_::_,[],_,h,_=>by simp[r0]at h
theorem vR{c:Ctx}{w:World}{ex:List Nat}{m:Nat}{R:Rows}{rows:List Row}(hR:∀r,c.R r=R.getD r none)(cv:mz ex m R ex rows):∀{cs ds:List ij} {us:List Value},oP ex cs ds=true->oz c w ds us->oz (c.out ex rows) w cs us:=by
 intro cs
 induction cs with
 |nil=>intro ds us h hr;cases ds<;>cases us<;>first|exact hr|(simp[oP]at h;done)
 |cons x cs ih=>
  intro ds us h hr
  cases ds with
  |nil=>cases x<;>simp[oP]at h
  |cons y ds=>
   cases us with
   |nil=>exact hr.elim
   |cons u us=>
    cases x<;>cases y<;>simp only[oP,aE,aN]at h
    ·obtain⟨h1,h2,h3,h4⟩:=h
     have e2:=bE h2;have e3:=bE h3
     subst e2;subst e3
     exact⟨RV (w:=w) hR cv h1 hr.1,ih h4 hr.2⟩
    ·obtain⟨h1,h2,h3⟩:=h
     have e1:=bE h1
     subst e1
     obtain⟨⟨ws,hv,hw⟩,Ts⟩:=hr
     exact⟨⟨ws,LO (c:=c) (c':=c.out ex rows) (w':=w) (λb hb=>⟨Or.inl hb,rfl⟩) hv,Zk4 (w:=w) hR cv h2 hw⟩,ih h3 Ts⟩
section
variable {c:Ctx} {w:World} {ex:List Nat} {m:Nat} {R:Rows} {rows:List Row}
theorem Yv(hm:Mem c w)(hR:∀r,c.R r=R.getD r none)(cv:mz ex m R ex rows)(ey:∀r row,c.R r=some row->¬c.V r->m<=r->c.base<=c.ρ r){d p:D}{v:Value}(h:jo ex m R d p)(hr:cu c w d v):cu (c.out ex rows) w p v:=by
 have nj:∀b,c.I b->(c.out ex rows).I b/\w.heap[b]?=w.heap[b]? :=λb hb=>⟨.inl hb,rfl⟩
 obtain⟨hl,iP⟩:=Pz cv
 have rowOf:∀i r row,ex[i]?=some r->c.R r=some row->∃p,rows[i]?=some p/\row.box=p.box/\row.ty=p.ty/\row.sz=p.sz/\row.es.l.length=p.es.l.length/\(c.out ex rows).ρ i=c.ρ r/\((c.out ex rows).V i↔c.V r):=by
  intro i r row hi cb
  have cj:=(List.getElem?_eq_some_iff.1 hi).1
  have hp:rows[i]?=some rows[i]:=cG (by omega)
  rcases iP i r _ hi hp with⟨ao,g1,g2,g3,g4,g5⟩|⟨g1,_⟩
  ·have:ao=row:=by rw[hR,g1]at cb;exact Option.some.inj cb
   subst this
   refine⟨_,hp,g2,g3,g4,?_,by simp[Ctx.out,hi],by simp[Ctx.out,hi,cb]⟩
   split at g5
   ·obtain⟨e,e',k1,k2,_⟩:=g5
    rw[k1,k2];rfl
   ·rw[g5]
  ·rw[hR,g1]at cb;cases cb
 have MN:∀i a,Zip ex R i=true->v=.slice a 0 0->Ac c.top a->cu (c.out ex rows) w (.all i) v:=by
  intro i a hv DB dr
  obtain⟨r,hi,hrn⟩:=Zn2 hv
  have cj:=(List.getElem?_eq_some_iff.1 hi).1
  have hp:rows[i]?=some rows[i]:=cG (by omega)
  rcases iP i r _ hi hp with⟨ao,g1,_⟩|⟨g1,g2,g3,g4⟩
  ·rw[hrn]at g1;cases g1
  ·exact⟨_,hp,g2,.inl ⟨by simp only[Ctx.out,hi];exact .inl (by rw[hR];exact g1),a,DB,dr⟩⟩
 cases p<;>simp only[jo]at h
 case int k n=>
  split at h
  ·simp only[c7,decide_eq_true_eq]at h;obtain⟨rfl,rfl⟩:=h;exact hr
  ·exact h.elim
 case bool b=>
  split at h
  ·subst h;exact hr
  ·exact h.elim
 case str s=>
  split at h
  ·subst h;exact hr
  ·exact h.elim
 case iy=>
  split at h
  ·exact hr
  ·exact h.elim
 case dq=>
  split at h
  ·exact hr
  ·exact h.elim
 case emp=>
  split at h
  ·exact⟨none,hr,MG⟩
  ·exact hr
  ·exact h.elim
 case jF=>
  split at h
  ·exact hr
  ·exact h.elim
 case gb f cs=>
  split at h
  ·simp only[c7,aE]at h
   obtain⟨⟨h1,h2⟩,_⟩:=h
   have e1:=bE h1
   subst e1
   obtain⟨us,hv,hu⟩:=hr
   exact⟨us,LO (c:=c) (c':=c.out ex rows) (w':=w) (λb hb=>⟨Or.inl hb,rfl⟩) hv,vR hR cv h2 hu⟩
  ·exact h.elim
 case ptr i o f=>
  split at h
  ·simp only[c7,aE]at h
   obtain⟨⟨h1,h2,h3⟩,_⟩:=h
   have e2:=bE h2;have e3:=bE h3
   subst e2;subst e3
   exact RV (w:=w) hR cv h1 hr
  ·exact h.elim
 case cy i=>
  have go:∀r,ky ex i r=true->cu c w (.cy r) v->cu (c.out ex rows) w (.cy i) v:=by
   intro r hx hr
   rcases hr with hr|⟨row,g1,gV,g2,hv⟩
   ·exact .inl hr
   ·have hi:=T8 hx
    obtain⟨p,hp,q1,q2,q3,q4,q5,q6⟩:=rowOf i r row hi g1
    exact .inr ⟨p,hp,λe=>gV (q6.1 e),by rw[<-q4];exact g2,by rw[hv,q5,q3]⟩
  split at h
  ·exact .inl hr
  ·simp only[c7]at h;exact go _ h.1 hr
  ·simp only[c7,aE]at h
   obtain⟨⟨h1,h2,h3⟩,_⟩:=h
   have e2:=bE h2;have e3:=bE h3
   subst e2;subst e3
   exact go _ h1 (.inr hr)
  ·exact h.elim
 case dead=>exact cu.one hr
 case sl sz es fr=>
  split at h
  ·have h:=ak.nZ.1 h;exact⟨none,0,by rw[h];exact hr,by rw[h];exact aO _,.inl h⟩
  ·have h:=ak.nZ.1 h;obtain⟨a,hr,_⟩:=hr;exact⟨a,0,by rw[h];exact hr,by rw[h];exact aO _,.inl h⟩
  ·rename_i ka iW fr'
   simp only[c7,Bool.or_eq_true,aS]at h
   obtain⟨hf,hs,he⟩:=h
   have he:=ak.w4 he
   obtain⟨a,cap,hv,hc,ia⟩:=hr
   rw[he]at hv hc ia
   refine⟨a,cap,hv,hc,?_⟩
   rcases ia with ia|⟨b,off,arr,ty,fz,ha,hI,hf',hh,hE⟩
   ·exact .inl ia
   ·rcases hs with hs|rfl
    ·exact .inl (by rw[<-he];exact ak.nZ.1 hs)
    ·exact .inr ⟨b,off,arr,ty,fz,ha,.inl hI,λe=>hf' (by rcases hf with hf|hf<;>simp_all),hh,nP nj _ _ _ _ hE⟩
  ·rename_i r
   split at h
   ·rename_i box ty ka iW Yw
    simp only[c7,aE,aS]at h
    obtain⟨⟨⟨⟨hb,hs⟩,ho⟩,Jd⟩,AA⟩:=h
    have AA:=ak.w4 AA
    have hs:=bE hs
    have Jd:=lE Jd
    obtain⟨row,g1,g2,hv⟩:=hr
    have:row=⟨box,ty,ka,iW⟩:=by rw[hR,Yw]at g1;exact(Option.some.inj g1).symm
    subst this
    subst hs
    rcases hv with⟨hV,a,hv,_⟩|⟨hV,cap,arr,hv,g3,g4,g5,g6⟩
    ·have he:=(hm.nQ g1 hV).2.1
     simp only at he
     rw[he]at AA
     exact⟨a,0,by rw[<-AA];exact hv,by rw[<-AA];exact aO _,.inl AA.symm⟩
    obtain⟨iJ,jx,jd,hx⟩:=hm.real g1 hV
    rw[g5]at jx;cases jx
    simp only[hb,aN,if_false]at hx
    simp only at hv g3 hx
    rw[AA]at hv g3 hx
    exact⟨_,cap,hv,g3,.inr ⟨_,0,arr,_,_,rfl,.inr ⟨r,_,g1,hV,hb,ho,rfl⟩,λ_=>ey r _ g1 hV Jd,g5,nP nj _ _ _ _ hx⟩⟩
   ·exact h.elim
  ·rename_i r o n
   split at h
   ·rename_i box ty ka iW Yw
    simp only[c7,aE,aS]at h
    obtain⟨⟨⟨⟨hb,hs⟩,ho⟩,Jd⟩,AA⟩:=h
    have AA:=ak.w4 AA
    rw[ak.iT,ak.j4]at AA
    have hs:=bE hs
    have Jd:=lE Jd
    obtain⟨row,g1,g2,g5,hv⟩:=hr
    have:row=⟨box,ty,ka,iW⟩:=by rw[hR,Yw]at g1;exact(Option.some.inj g1).symm
    subst this
    subst hs
    simp only at g5
    have sW:((iW.l.drop o).take n).length=n:=by simp only[List.length_take,List.length_drop];omega
    rw[AA]at sW
    rcases hv with⟨h0,a,hv,_⟩|⟨hV,cap,arr,g3,g4,g6,hv,g7⟩
    ·subst h0
     have h0:=List.eq_nil_of_length_eq_zero sW
     exact⟨a,0,by rw[sW];exact hv,by omega,.inl h0⟩
    obtain⟨iJ,jx,jd,hx⟩:=hm.real g1 hV
    rw[g6]at jx;cases jx
    simp only[hb,aN,if_false]at hx
    have hE:=LF (n:=n) (JT (l:=o) hx)
    rw[AA]at hE
    exact⟨_,cap,by rw[sW];exact hv,by omega,.inr ⟨_,o*ka,arr,_,_,rfl,.inr ⟨r,_,g1,hV,hb,ho,rfl⟩,λ_=>ey r _ g1 hV Jd,g6,nP nj _ _ _ _ (by simpa using hE)⟩⟩
   ·exact h.elim
  ·exact h.elim
 case all i=>
  split at h
  ·rename_i r
   simp only[c7]at h
   obtain⟨row,g1,g2,hv⟩:=hr
   obtain⟨p,k1,k2,k3,k4,k5,k6,k7⟩:=rowOf i r row (T8 h.1) g1
   refine⟨p,k1,by rw[<-k2];exact g2,?_⟩
   rcases hv with⟨hV,hv⟩|⟨hV,cap,arr,hv,g3,g4,g5,g6⟩
   ·exact .inl ⟨k7.2 hV,hv⟩
   ·exact .inr ⟨λe=>hV (k7.1 e),cap,arr,by rw[hv,k5,k6],by rw[<-k5];exact g3,g4,by rw[k6,<-k3];exact g5,by rw[<-k4];exact g6⟩
  ·simp only[c7]at h
   exact MN i none h.1 hr MG
  ·simp only[c7]at h
   obtain⟨a,hr,ho⟩:=hr
   exact MN i a h.1 hr ho
  ·exact h.elim
 case own i o n=>
  split at h
  ·rename_i r o' n'
   simp only[c7]at h
   obtain⟨hx,rfl,rfl⟩:=h
   obtain⟨row,g1,g2,g5,hv⟩:=hr
   obtain⟨p,k1,k2,k3,k4,k5,k6,k7⟩:=rowOf i r row (T8 hx) g1
   refine⟨p,k1,by rw[<-k2];exact g2,by rw[<-k5];exact g5,?_⟩
   rcases hv with⟨h0,a,hv,iZ⟩|⟨hV,cap,arr,g3,g4,g6,hv,g7⟩
   ·exact .inl ⟨h0,a,hv,iZ.mono (aO _) k7 k6⟩
   ·exact .inr ⟨λe=>hV (k7.1 e),cap,arr,g3,g4,by rw[k6,<-k3];exact g6,by rw[k6,<-k4];exact hv,by rw[<-k4];exact g7⟩
  ·exact h.elim
theorem Zfx(hm:Mem c w)(hR:∀r,c.R r=R.getD r none)(cv:mz ex m R ex rows)(ey:∀r row,c.R r=some row->¬c.V r->m<=r->c.base<=c.ρ r):∀{ds ps:List D} {vs:List Value},En ex m R ds ps->jh c w ds vs->jh (c.out ex rows) w ps vs
 |[],[],[],_,_=>trivial
 |[],[],_::_,_,h=>h.elim
 |[],_::_,_,h,_=>h.elim
 |_::_,[],_,h,_=>h.elim
 |_::_,_::_,[],_,h=>h.elim
 |d::ds,p::ps,v::vs,h,hr=>⟨Yv hm hR cv ey h.1 hr.1,Zfx hm hR cv ey h.2 hr.2⟩
theorem Zl7(hm:Mem c w)(hR:∀r,c.R r=R.getD r none)(cv:mz ex m R ex rows)(ey:∀r row,c.R r=some row->¬c.V r->m<=r->c.base<=c.ρ r){d p:D}{v:Value}(h:pK ex m R d p)(hr:VRep c w d v):VRep (c.out ex rows) w p v:=by
 cases p with
 |agg ps=>
  simp only[pK]at h
  cases d<;>simp only at h
  obtain⟨vs,hv,hx⟩:=hr
  exact⟨vs,hv,Zfx hm hR cv ey h hx⟩
 |_=>
  simp only[pK]at h
  refine VRep.Ed (Yv hm hR cv ey h (VRep.toC ?_ hr))
  intro cs e
  subst e
  simp[jo,cg,D.He]at h
theorem Zg(hm:Mem c w)(hR:∀r,c.R r=R.getD r none)(cv:mz ex m R ex rows)(ey:∀r row,c.R r=some row->¬c.V r->m<=r->c.base<=c.ρ r):∀{ds ps:List D} {vs:List Value},uZ ex m R ds ps->jY c w ds vs->jY (c.out ex rows) w ps vs
 |[],[],[],_,_=>trivial
 |[],[],_::_,_,h=>h.elim
 |[],_::_,_,h,_=>h.elim
 |_::_,[],_,h,_=>h.elim
 |_::_,_::_,[],_,h=>h.elim
 |d::ds,p::ps,v::vs,h,hr=>⟨Zl7 hm hR cv ey h.1 hr.1,Zg hm hR cv ey h.2 hr.2⟩
theorem RW(hm:Mem c w)(hR:∀r,c.R r=R.getD r none)(cv:mz ex m R ex rows)(ey:∀r row,c.R r=some row->¬c.V r->m<=r->c.base<=c.ρ r){d p:D}{v:Value}(h:wY ex m R d p)(hr:Rep c w d v):Rep (c.out ex rows) w p v:=by
 cases p with
 |dt ps=>
  simp only[wY]at h
  cases d<;>simp only at h
  obtain⟨vs,hv,hx⟩:=hr
  exact⟨vs,hv,Zg hm hR cv ey h hx⟩
 |dead=>trivial
 |_=>
  simp only[wY]at h
  refine Rep.JX (Zl7 hm hR cv ey h (Rep.toV ?_ ?_ hr))
  ·intro ds e;subst e;simp[pK,jo]at h
  ·intro e;subst e;simp[pK,jo]at h
theorem Z19(hm:Mem c w)(hR:∀r,c.R r=R.getD r none)(cv:mz ex m R ex rows)(ey:∀r row,c.R r=some row->¬c.V r->m<=r->c.base<=c.ρ r):∀{ds ps:List D} {arr:Array Value} {off:Nat},En ex m R ds ps->kA c w ds arr off->kA (c.out ex rows) w ps arr off
 |[],[],_,_,_,_=>trivial
 |[],_::_,_,_,h,_=>h.elim
 |_::_,[],_,_,h,_=>h.elim
 |d::ds,p::ps,arr,off,h,hr=>⟨by obtain⟨⟨v,hv,hx⟩,_⟩:=hr;exact⟨v,hv,Yv hm hR cv ey h.1 hx⟩,Z19 hm hR cv ey h.2 hr.2⟩
theorem Qx2:∀{ds ps:List D},En ex m R ds ps->ds.length=ps.length
 |[],[],_=>rfl
 |[],_::_,h=>h.elim
 |_::_,[],h=>h.elim
 |_::_,_::_,h=>by simp[Qx2 h.2]
theorem qat(hm:Mem c w)(hR:∀r,c.R r=R.getD r none)(cv:mz ex m R ex rows)(ey:∀r row,c.R r=some row->¬c.V r->m<=r->c.base<=c.ρ r)(kP:ex.Nodup):Mem (c.out ex rows) w:=by
 have nj:∀b,c.I b->(c.out ex rows).I b/\w.heap[b]?=w.heap[b]? :=λb hb=>⟨.inl hb,rfl⟩
 obtain⟨hl,iP⟩:=Pz cv
 have inv:∀i p,(c.out ex rows).R i=some p->∃r,ex[i]?=some r/\(c.out ex rows).ρ i=c.ρ r/\((∃row,c.R r=some row/\row.box=p.box/\row.ty=p.ty/\row.sz=p.sz/\((c.out ex rows).V i↔c.V r)/\(if p.box then∃e e',row.es=.gen [e]/\p.es=.gen [e']/\En ex m R e e' else row.es.l=p.es.l))\/((c.out ex rows).V i/\p.box=false/\p.es.l=[]/\0<p.sz)):=by
  intro i p hp
  have PA:rows[i]?=some p:=hp
  have cj:=(List.getElem?_eq_some_iff.1 PA).1
  have hi:ex[i]?=some ex[i]:=cG (by omega)
  refine⟨_,hi,by simp[Ctx.out,hi],?_⟩
  rcases iP i _ p hi PA with⟨row,g1,g2,g3,g4,g5⟩|⟨g1,g2⟩
  ·have cb:c.R ex[i]=some row:=by rw[hR];exact g1
   exact .inl ⟨row,cb,g2,g3,g4,by simp[Ctx.out,hi,cb],g5⟩
  ·exact .inr ⟨by simp only[Ctx.out,hi];exact .inl (by rw[hR];exact g1),g2⟩
 refine⟨λi p hp=>?_,λi j p q hp hq v1 v2 he=>?_,λb hb=>?_,hm.top,hm.kC.mono nj⟩
 ·obtain⟨r,g1,g6,⟨row,g2,g3,g4,g5,gV,g7⟩|⟨gV,g2⟩⟩:=inv i p hp
  ·rcases hm.row r row g2 with⟨h0,h1,h2,h3⟩|⟨h0,arr,ha,hs,hx⟩
   ·refine .inl ⟨gV.2 h0,by rw[<-g3];exact h1,?_,by rw[<-g5];exact h3⟩
    rw[if_neg (by rw[<-g3,h1];simp)]at g7
    rw[<-g7];exact h2
   refine .inr ⟨λe=>h0 (gV.1 e),arr,by rw[g6,<-g4];exact ha,by rw[<-g5];exact hs,?_⟩
   split
   ·rename_i hb
    rw[if_pos hb]at g7
    rw[if_pos (g3.trans hb)]at hx
    obtain⟨e,e',k1,k2,k3⟩:=g7
    obtain⟨e0,q1,q2,q3,q4⟩:=hx
    rw[k1]at q1;cases q1
    exact⟨e',k2,by rw[<-Qx2 k3,<-g5];exact q2,by rw[<-g5];exact q3,Z19 hm hR cv ey k3 q4⟩
   ·rename_i hb
    rw[if_neg hb]at g7
    rw[if_neg (by rw[g3];exact hb)]at hx
    rw[<-g7,<-g5]
    exact nP nj _ _ _ _ hx
  ·exact .inl ⟨gV,g2⟩
 ·obtain⟨r,g1,g6,⟨row,g2,_,_,_,gV,_⟩|⟨gV,_⟩⟩:=inv i p hp
  ·obtain⟨s,k1,k6,⟨ao,k2,_,_,_,kV,_⟩|⟨kV,_⟩⟩:=inv j q hq
   ·rw[g6,k6]at he
    have:r=s:=hm.inj r s _ _ g2 k2 (λe=>v1 (gV.2 e)) (λe=>v2 (kV.2 e)) he
    subst this
    exact(List.getElem?_inj (List.getElem?_eq_some_iff.1 g1).1 kP).1 (g1.trans k1.symm)
   ·exact(v2 kV).elim
  ·exact(v1 gV).elim
 ·rcases hb with hb|⟨r,row,hr,hV,wx,ho,rfl⟩
  ·refine⟨(hm.fh b hb).1,λi p hp v=>?_⟩
   obtain⟨r,g1,g6,⟨row,g2,_,_,_,gV,_⟩|⟨gV,_⟩⟩:=inv i p hp
   ·rw[g6]
    exact(hm.fh b hb).2 r row g2 (λe=>v (gV.2 e))
   ·exact(v gV).elim
  ·refine⟨hm.lt hr hV,λi p hp v=>?_⟩
   obtain⟨s,g1,g6,⟨ao,g2,_,_,_,gV,_⟩|⟨gV,_⟩⟩:=inv i p hp
   ·rw[g6]
    intro e
    have:=hm.inj s r _ _ g2 hr (λe=>v (gV.2 e)) hV e
    subst this
    exact Z73 ho (fX g1)
   ·exact(v gV).elim
end
theorem Zjx:∀{l m:List Nat},wG l m=true->l=m
 |[],[],_=>rfl
 |x::l,y::m,h=>by
  simp only[wG,aE]at h
  rw[bE h.1,Zjx h.2]
 |[],_::_,h=>by cases h
 |_::_,[],h=>by cases h
theorem zat{M:Nat}{ex:List Nat}(h:wZ M ex=true):ex.Nodup/\(∀i,i<M->ex[i]?=some i)/\∀i r,ex[i]?=some r->(i=r/\i<M)\/M<=r:=by
 unfold wZ at h
 simp only[aE]at h
 obtain⟨⟨h1,h2⟩,h3⟩:=h
 replace h1:=Zjx h1
 replace h2:∀r∈ex.drop M,M<=r:=λr hr=>lE (List.all_eq_true.1 h2 r hr)
 replace h3:=LJ.1 h3
 have he:ex=List.range M++ex.drop M:=by rw[<-h1,List.take_append_drop]
 generalize hq:ex.drop M=q at he h2 h3
 subst he
 refine⟨?_,λi hi=>by rw[aZ (by simpa using hi)];simp[hi],λi r hr=>?_⟩
 ·rw[List.nodup_append]
  exact⟨List.nodup_range,h3,λx hx y hy=>by simp at hx;have:=h2 y hy;omega⟩
 ·by_cases cj:i<M
  ·rw[aZ (by simpa using cj)]at hr
   simp[cj]at hr
   exact .inl ⟨hr,cj⟩
  ·rw[List.getElem?_append_right (by simpa using cj)]at hr
   exact .inr (h2 r (fX hr))
theorem RX{N M:Nat}{c0:Ctx}{w0:World}{c:Ctx}{w:World}{st:St}{a:Act}(hs:fk N M c0 w0 c w st a){ex:List Nat}{ai:List Row}(hex:wZ M ex=true)(cv:mz ex M st.rows ex ai):
 (∀r row,c.R r=some row->¬c.V r->M<=r->c.base<=c.ρ r)/\Mem (c.out ex ai) w/\wP c0 w0 (c.out ex ai) w:=by
 obtain⟨kP,hid,hinv⟩:=zat hex
 obtain⟨hl,iP⟩:=Pz cv
 have hb1:c.base=c0.base:=hs.reach.bz.base
 have CC:∀r row,c.R r=some row->¬c.V r->M<=r->c0.X (c.ρ r)\/w0.heap.size<=c.ρ r:=λr row h1 v h2=>by
  rcases hs.reach.nS r row h1 v with⟨⟨x,hx⟩,_⟩|h3
  ·have:=hs.gk r x hx;omega
  ·exact h3
 have ey:∀r row,c.R r=some row->¬c.V r->M<=r->c.base<=c.ρ r:=λr row h1 v h2=>by
  have:=hs.fw
  rcases CC r row h1 v h2 with h|h
  ·have:=hs.reach.xb _ h;omega
  ·omega
 refine⟨ey,qat hs.mem hs.rows cv ey kP,⟨hs.reach.bz.base,hs.reach.bz.top,λb iq=>?_,λr row hr=>?_⟩,hs.reach.fr,λb iq=>?_,λi p hp v=>?_,hs.reach.xb⟩
 ·obtain⟨h1,h2⟩:=hs.reach.bz.I b iq
  exact⟨.inl h1,h2⟩
 ·have cj:r<M:=hs.gk r row hr
  obtain⟨Eo,g1,g2,g3,g4,g5,g6,gV,g7⟩:=hs.reach.bz.R r row hr
  have hi:=hid r cj
  have mq:=(List.getElem?_eq_some_iff.1 hi).1
  have hp:ai[r]?=some ai[r]:=cG (by omega)
  rcases iP r r _ hi hp with⟨jr,k1,k2,k3,k4,k5⟩|⟨k1,_⟩
  ·have:jr=Eo:=by rw[hs.rows,k1]at g1;exact Option.some.inj g1
   subst this
   refine⟨_,hp,k2.symm.trans g2,k3.symm.trans g3,k4.symm.trans g4,?_,by simp[Ctx.out,hi,g6],by simp[Ctx.out,hi,g1,gV],g7⟩
   rw[<-g5]
   split at k5
   ·obtain⟨e,e',q1,q2,_⟩:=k5
    rw[q1,q2];rfl
   ·rw[k5]
  ·rw[hs.rows,k1]at g1;cases g1
 ·rcases iq with h1|⟨r,row,hr,hV,wx,ho,rfl⟩
  ·exact hs.reach.fh b h1
  ·refine .inr ?_
   have:M<=r:=by
    by_cases cj:r<M
    ·exact(Z73 ho (fX (hid r cj))).elim
    ·omega
   exact CC r row hr hV this
 ·have PA:ai[i]?=some p:=hp
  have cj:=(List.getElem?_eq_some_iff.1 PA).1
  have hi:ex[i]?=some ex[i]:=cG (by omega)
  simp only[Ctx.out,hi,not_or]at v⊢
  obtain⟨v1,v2⟩:=v
  rcases iP i _ _ hi PA with⟨jr,k1,k2,k3,k4,k5⟩|⟨k1,_⟩
  ·have Hf:c.R ex[i]=some jr:=by rw[hs.rows];exact k1
   rcases hinv i _ hi with⟨h1,h2⟩|h1
   ·rcases hs.reach.nS _ _ Hf v2 with⟨h3,h4,h5⟩|h3
    ·left
     rw[<-h1]at h3 h4
     refine⟨h3,h4,h5.trans ?_⟩
     rw[<-h1]
    ·exact .inr h3
   ·exact .inr (CC _ _ Hf v2 h1)
  ·exact(v1 (by rw[hs.rows];exact k1)).elim
theorem VM:∀{env:List (Nat×D)} {t k:Nat},k∈Cq (look env t)->k∈w5 env
 |[],t,k,h=>by simp[look,Cq,EZ,Au]at h
 |(u,d)::l,t,k,h=>by
  rw[AJ]at h
  simp only[w5,bX]
  split at h
  ·exact .inl h
  ·exact .inr (VM h)
theorem VN:∀{R:Rows} {r:Nat} {x:Row} {k:Nat},R.getD r none=some x->k∈kN [x]->k∈FL R
 |some y::l,0,x,k,h,hk=>by
  simp at h;subst h
  simp only[FL,bX];exact .inl hk
 |none::l,0,x,k,h,hk=>by simp at h
 |y::l,r+1,x,k,h,hk=>by
  have:=VN (R:=l) (r:=r) (by simpa[aK]using h) hk
  cases y<;>simp[FL,this]
 |[],r,x,k,h,_=>by simp[aK]at h
theorem VRep.toRep{c:Ctx}{w:World}{d:D}{v:Value}(h:VRep c w d v):Rep c w d v:=by
 cases d<;>first|exact h|trivial|exact h.elim
theorem Rep.toVRep{c:Ctx}{w:World}{d:D}{v:Value}(hv:d.isVal=true)(h:Rep c w d v):VRep c w d v:=by
 cases d<;>first|exact h|(simp[D.isVal]at hv)
theorem jY.length{c:Ctx}{w:World}:∀{ds:List D} {vs:List Value},jY c w ds vs->ds.length=vs.length
 |[],[],_=>rfl
 |_::_,_::_,h=>by simp[jY.length h.2]
 |[],_::_,h=>h.elim
 |_::_,[],h=>h.elim
theorem Z2a:∀{ds:List D} {i t:Nat},(∃j,t=i+j/\j<ds.length/\look (Fj ds i) t=ds.getD j .dead)\/look (Fj ds i) t=.dead
 |[],i,t=>.inr rfl
 |d ::ds,i,t=>by
  simp only[Fj,AJ]
  by_cases e:i=t
  ·left;exact⟨0,by omega,by simp,by rw[if_pos e];rfl⟩
  ·rw[if_neg e]
   rcases Z2a (ds:=ds) (i:=i+1) (t:=t)with⟨j,h1,h2,h3⟩|h
   ·left;exact⟨j+1,by omega,by simpa using h2,by simpa using h3⟩
   ·right;exact h
theorem Zkb{c:Ctx}{w:World}{ds:List D}{vs:List Value}(h:jY c w ds vs)(n t:Nat):Rep c w (look (Fj ds 0) t) ((vs.toArray++gN n undef).getD t undef):=by
 rcases Z2a (ds:=ds) (i:=0) (t:=t)with⟨j,h1,h2,h3⟩|h1
 ·obtain⟨v,hv,hr⟩:=Ya h j h2
  rw[h3]
  have:t=j:=by omega
  subst this
  have hx:(vs.toArray++gN n undef).getD t undef=v:=by
   have cj:=(List.getElem?_eq_some_iff.1 hv).1
   have hvv:=(List.getElem?_eq_some_iff.1 hv).2
   simp[Array.getElem?_append,cj,hvv]
  rw[hx]
  exact hr.toRep
 ·rw[h1];trivial
theorem Zmk{T:ff}{t:TypeId}{x:D}{R:Rows}{K:D->Rows->Prop}(h:wC T t x R K){c:Ctx}{w:World}{v:Value}(hr:Rep c w x v):∃a,v=.pointer (some a):=by
 unfold wC at h
 split at h
 ·exact h.elim
 ·cases x<;>simp only at h
  case ptr r i off=>obtain⟨_,_,_,_,hv⟩:=hr;exact⟨_,hv⟩
  case pa r i off len k n=>obtain⟨_,_,_,_,_,hv⟩:=hr;exact⟨_,hv⟩
  case ig sz es i off=>obtain⟨_,_,_,_,_,hv,_⟩:=hr;exact⟨_,hv⟩
def L0(tmps:Array Value):ResultVar->Sem Value
 |.tmp t=>pure (tmps.getD t undef)
 |.cell a t=>do loadVar t (<-asAddr (tmps.getD a undef))
theorem T9{P:Program}{T:ff}(hT:jt P T){R:Rows}{env:List (Nat×D)}:∀{l:List ResultVar} {K:List D->Prop},Fl T R env l K->
 ∃ds,K ds/\∀c w (tmps:Array Value),Mem c w->mf c R->(∀t,Rep c w (look env t) (tmps.getD t undef))->∃vs,(l.mapM (L0 tmps)).run P w=.ok vs w/\jY c w ds vs
 |[],K,h=>⟨[],h,λc w tmps _ _ _=>⟨[],rfl,trivial⟩⟩
 |.tmp t::l,K,h=>by
  simp only[Fl,D.cf,c7]at h
  obtain⟨hv,h⟩:=h
  obtain⟨ds,hK,hr⟩:=T9 hT h
  refine⟨_,hK,λc w tmps hm hA he=>?_⟩
  obtain⟨vs,h1,h2⟩:=hr c w tmps hm hA he
  refine⟨tmps.getD t undef::vs,?_,(he t).toVRep hv,h2⟩
  simp only[gO,Sem.run_bind,L0,Sem.run_pure,Result.andThen_ok,h1]
 |.cell a t::l,K,h=>by
  simp only[Fl]at h
  obtain⟨val,Ua,De⟩:=Ze7 hT h
  simp only[c7]at Ua
  obtain⟨hv,Ua⟩:=Ua
  obtain⟨ds,hK,hr⟩:=T9 hT Ua
  refine⟨_,hK,λc w tmps hm hA he=>?_⟩
  obtain⟨vs,h1,h2⟩:=hr c w tmps hm hA he
  obtain⟨u,hu,hx⟩:=De c w _ hm hA (he a)
  obtain⟨ad,had⟩:=Zmk h (he a)
  rw[had,TL]at hu
  refine⟨u::vs,?_,hx.toVRep hv,h2⟩
  simp only[gO,Sem.run_bind,L0,had,asAddr,Sem.run_pure,Result.andThen_ok,hu,h1]
def CD:List Value->Value
 |[v]=>v
 |vs=>.tuple vs.toArray
theorem Z0t{P:Program}{fn:Func}{tmps:Array Value}{w:World}{vs:List Value}(h:(fn.results.toList.mapM (L0 tmps)).run P w=.ok vs w):(results fn tmps).run P w=.ok (CD vs) w:=by
 have h2:(fn.results.mapM (L0 tmps)).run P w=.ok vs.toArray w:=by
  rw[<-bS (xs:=fn.results),List.mapM_toArray]
  simp only[Sem.run_map,h,Result.andThen_ok]
 have h3:(results fn tmps)=(fn.results.mapM (L0 tmps))>>=λvs=>pure (if h:vs.size=1 then vs[0]else .tuple vs):=by
  unfold results
  congr 1
 rw[h3,Sem.run_bind,h2]
 simp only[Result.andThen_ok,Sem.run_pure]
 congr 1
 match vs with
 |[]=>rfl
 |[v]=>rfl
 |_::_::_=>rfl
theorem fk.MI{N M:Nat}{c0:Ctx}{w0:World}{c:Ctx}{w:World}{st:St}{a:Act}(hs:fk N M c0 w0 c w st a){b:Nat}(hb:w0.heap.size<=b){o o':Obj}(ho:w.heap[b]?=some o)(hc:∀arr ty fz,o≠.cells arr ty fz)
 {Fk:Nat->Prop} (gF:∀k ws v,Fk k->rB c w k ws v->rB {c with I:=λx=>c.I x/\x≠b} (w.putObj b o') k ws v) (hE:∀t,∀k∈Cq (look st.env t),Fk k) (hR:∀r x,c.R r=some x->∀k∈kN [x],Fk k) {ds:List Deferred} (hd:lG w0.heap.size (w.putObj b o') ds):
 fk N M c0 w0 {c with I:=λx=>c.I x/\x≠b} (w.putObj b o') st {a with defers:=ds}:=by
 have cb:∀r x,c.R r=some x->¬c.V r->c.ρ r≠b:=λr x hr hV e=>by
  rcases hs.mem.row r x hr with h|⟨_,arr,h,_⟩
  ·exact hV h.1
  ·rw[e,ho]at h;exact hc _ _ _ (Option.some.inj h)
 have hh:∀r x,c.R r=some x->¬c.V r->(w.putObj b o').heap[c.ρ r]?=w.heap[c.ρ r]? :=λr x hr hV=>World.putObj_heap_other (cb r x hr hV)
 have hg:I5 c w {c with I:=λx=>c.I x/\x≠b} (w.putObj b o'):=by
  refine⟨rfl,aO _,λx arr ty fz hI hx=>?_,λr x hr=>⟨x,hr,rfl,rfl,rfl,rfl,rfl,Iff.rfl,λhV arr ha=>⟨arr,(hh r x hr hV).trans ha,rfl⟩⟩⟩
  have gg:x≠b:=λe=>by subst e;rw[ho]at hx;exact hc _ _ _ (Option.some.inj hx)
  exact⟨⟨hI,gg⟩,(World.putObj_heap_other gg).trans hx⟩
 have ju:∀x,c0.I x->x≠b:=λx hx e=>by
  obtain⟨h1,h2⟩:=hs.reach.bz.I x hx
  have h3:=(hs.mem.fh x h1).1
  rw[e,ho]at h2
  have:=(Array.getElem?_eq_some_iff.1 h2.symm).1
  omega
 refine⟨X7 hs.mem hg hh gF hR (λx hx=>⟨by simpa using(hs.mem.fh x hx.1).1,(hs.mem.fh x hx.1).2⟩) (by simp),hs.rows,λt=>Zko hg gF (hE t) (hs.env t),hs.size,hd,hs.fw,hs.gk,?_⟩
 refine⟨⟨hs.reach.bz.base,hs.reach.bz.top,λx hx=>?_,λr row hr=>?_⟩,⟨hs.reach.fr.os,hs.reach.fr.tape,hs.reach.fr.output,by simpa using hs.reach.fr.size,λx hx hn=>?_⟩,λx hx=>hs.reach.fh x hx.1,hs.reach.nS,hs.reach.xb⟩
 ·obtain⟨h1,h2⟩:=hs.reach.bz.I x hx
  exact⟨⟨h1,ju x hx⟩,(World.putObj_heap_other (ju x hx)).trans h2⟩
 ·obtain⟨ao,h1,h2,h3,h4,h5,h6,hV,h7⟩:=hs.reach.bz.R r row hr
  refine⟨ao,h1,h2,h3,h4,h5,h6,hV,λnv arr ha=>?_⟩
  obtain⟨iJ,g1,g2⟩:=h7 nv arr ha
  refine⟨iJ,?_,g2⟩
  rw[World.putObj_heap_other]
  ·exact g1
  ·intro e;rw[e,ho]at g1;exact hc _ _ _ (Option.some.inj g1)
 ·rw[World.putObj_heap_other (by omega)];exact hs.reach.fr.heap x hx hn
theorem fk.edit{N M:Nat}{c0:Ctx}{w0:World}{c:Ctx}{w:World}{st:St}{a:Act}(hs:fk N M c0 w0 c w st a){l:Nat}(hI:c0.I l){rec:Loop}{o':Obj}(ho:w0.heap[l]?=some (.loop rec))(CE:∀r x,c0.R r=some x->¬c0.V r->c0.ρ r≠l)
 (oy:rW (w5 st.env++FL st.rows)=true):fk N M {c0 with I:=λx=>c0.I x/\x≠l} (w0.putObj l o') {c with I:=λx=>c.I x/\x≠l} (w.putObj l o') st a:=by
 have hl:w.heap[l]?=some (.loop rec):=(hs.reach.bz.I l hI).2.trans ho
 have Yx:=(Array.getElem?_eq_some_iff.1 ho).1
 have cj:=(Array.getElem?_eq_some_iff.1 hl).1
 have cb:∀r x,c.R r=some x->¬c.V r->c.ρ r≠l:=λr x hr hV=>(hs.mem.fh l (hs.reach.bz.I l hI).1).2 r x hr hV
 have hh:∀r x,c.R r=some x->¬c.V r->(w.putObj l o').heap[c.ρ r]?=w.heap[c.ρ r]? :=λr x hr hV=>World.putObj_heap_other (cb r x hr hV)
 have gF:∀k ws v,k<YB->rB c w k ws v->rB {c with I:=λx=>c.I x/\x≠l} (w.putObj l o') k ws v:=λk ws v hk hv=>by
  rcases hv with hv|⟨hv,_⟩
  ·exact .inl hv
  ·omega
 have hg:I5 c w {c with I:=λx=>c.I x/\x≠l} (w.putObj l o'):=by
  refine⟨rfl,aO _,λx arr ty fz hI hx=>?_,λr x hr=>⟨x,hr,rfl,rfl,rfl,rfl,rfl,Iff.rfl,λhV arr ha=>⟨arr,(hh r x hr hV).trans ha,rfl⟩⟩⟩
  have gg:x≠l:=λe=>by subst e;rw[hl]at hx;cases hx
  exact⟨⟨hI,gg⟩,(World.putObj_heap_other gg).trans hx⟩
 refine⟨X7 hs.mem hg hh gF (λr x hr k hk=>MJ oy (gP _ (VN (by rw[<-hs.rows];exact hr) hk))) (λx hx=>⟨by simpa using(hs.mem.fh x hx.1).1,(hs.mem.fh x hx.1).2⟩) (by simp),hs.rows,λt=>Zko hg gF (λk hk=>MJ oy (gQ _ (VM hk))) (hs.env t),hs.size,?_,by simpa using hs.fw,hs.gk,?_⟩
 ·have:=hs.defers.to (w':=w.putObj l o') λb hb=>(World.putObj_heap_other λe=>by rw[e,hl]at hb;cases hb).trans hb
  simpa using this
 refine⟨⟨hs.reach.bz.base,hs.reach.bz.top,λx hx=>?_,λr row hr=>?_⟩,⟨hs.reach.fr.os,hs.reach.fr.tape,hs.reach.fr.output,by simpa using hs.reach.fr.size,λx hx hn=>?_⟩,λx hx=>?_,λr row hr hv=>?_,hs.reach.xb⟩
 ·obtain⟨h1,h2⟩:=hs.reach.bz.I x hx.1
  exact⟨⟨h1,hx.2⟩,(World.putObj_heap_other hx.2).trans (h2.trans (World.putObj_heap_other hx.2).symm)⟩
 ·obtain⟨ao,h1,h2,h3,h4,h5,h6,hV,h7⟩:=hs.reach.bz.R r row hr
  refine⟨ao,h1,h2,h3,h4,h5,h6,hV,λnv arr ha=>?_⟩
  rw[World.putObj_heap_other (CE r row hr nv)]at ha
  obtain⟨iJ,g1,g2⟩:=h7 nv arr ha
  refine⟨iJ,?_,g2⟩
  rw[World.putObj_heap_other]
  ·exact g1
  ·intro e;rw[e,hl]at g1;cases g1
 ·by_cases e:x=l
  ·subst e;rw[World.putObj_heap_same cj,World.putObj_heap_same Yx]
  ·rw[World.putObj_heap_other e,World.putObj_heap_other e]
   exact hs.reach.fr.heap x (by simpa using hx) hn
 ·rcases hs.reach.fh x hx.1 with g|g|g
  ·exact .inl ⟨g,hx.2⟩
  ·exact .inr (.inl g)
  ·exact .inr (.inr (by simpa using g))
 ·rcases hs.reach.nS r row hr hv with g|g|g
  ·exact .inl g
  ·exact .inr (.inl g)
  ·exact .inr (.inr (by simpa using g))
theorem leaves{P:Program}{fn:Func}{R:Ending->World->Prop}{N M:Nat}{c0:Ctx}{w0:World}{c:Ctx}{w:World}{st:St}{a:Act}(hs:fk N M c0 w0 c w st a)
 (h:∀c' w' a',a'.tmps=a.tmps->fk N M c0 w0 c' w' st a'->∃v,(results fn a'.tmps).run P w'=.ok v w'/\R (.returned v) w'):LeavesInM Fence.wide 0 P fn a.tmps R a.defers .returning w:=by
 obtain⟨bs,kP,DM,Ub⟩:=hs.defers
 revert c w a
 induction bs with
 |nil=>
  intro c w a hs h DM Ub
  rw[DM]
  obtain⟨v,h1,h2⟩:=h c w a rfl hs
  exact⟨v,h1,h2⟩
 |cons b bs ih=>
  intro c w a hs h DM Ub
  obtain⟨h1,h2⟩:=Ub b (by simp)
  rw[List.nodup_cons]at kP
  rw[DM]
  refine⟨by simp,.inl ⟨b,_,rfl,run_takeDeferred h2,?_⟩⟩
  have PB:∀x∈bs,w0.heap.size<=x/\(w.putObj b (.deferred none)).heap[x]?=some (.deferred (some [])):=λx hx=>by
   obtain⟨g1,g2⟩:=Ub x (by simp[hx])
   exact⟨g1,(World.putObj_heap_other (λe=>kP.1 (by rw[<-e];exact hx))).trans g2⟩
  refine ih kP.2 (a:={a with defers:=bs.map λb=>({target:=.collected b,args:= #[]}:Deferred)}) (hs.MI h1 h2 (λ_ _ _ e=>by cases e) (Fk:=λ_=>True) (λk ws v _ hv=>?_) (λ_ _ _=>trivial) (λ_ _ _ _ _=>trivial) ⟨bs,kP.2,rfl,PB⟩) h rfl PB
  rcases hv with hv|⟨g1,l,rec,g2,g3,g4,g5⟩
  ·exact .inl hv
  ·have gg:l≠b:=λe=>by rw[e,h2]at g4;cases g4
   exact .inr ⟨g1,l,rec,g2,⟨g3,gg⟩,(World.putObj_heap_other gg).trans g4,g5⟩
theorem xaI{P:Program}(hD:rF P){T:ff}(hT:jt P T){G:List ba}(hG:jO P G){f:FuncId}{fn:Func}(hf:P.funcs[f]?=some fn){args:List D}{rows:List Row}{res:D}{ai:List Row}
 {rf:Option Nat} (mQ:∀code,fn.body=some code->RF rf fn.ntmps code) {L:Code->St->(Ex->St->Prop)->Prop} (hL:∀code st Q,RF rf fn.ntmps code->L code st Q->Tr P fn.ntmps rows.length code st Q) {Q0:D->Rows->Prop} (CF:∀d R,Q0 d R->Aa rows.length res ai d R) (h:na T G L fn args rows Q0):jZ P f args rows res ai:=by
 intro c w vs hm je hR ft
 unfold na at h
 split at h
 ·rename_i code hb
  have hs:fk fn.ntmps rows.length {c with X:=λ_=>False} w c w ⟨Fj args 0,rows.map some⟩ {tmps:=vs.toArray++gN (fn.ntmps-vs.toArray.size) undef,defers:=[]}:=
   ⟨hm,λr=>by
    rw[hR]
    simp only[aK,fL]
    cases rows[r]? <;>rfl,λt=>Zkb ft _ t,by simp;omega,lG.nil,Nat.le_of_eq je,λr row h=>by have h:c.R r=some row:=h;rw[hR]at h;exact(List.getElem?_eq_some_iff.1 h).1,wP.refl c w⟩
  refine callsIn_wide.1 (callsIn_of_wp_marks (F:=Fence.wide) (n:=0) hf hb trivial (wpIn_mono (MK (ro:=none) hD hT hG (ML rf fn.ntmps) hL code _ _ (mQ _ hb) h _ w c w _ hs) λe a' w' hq=>?_))
  obtain⟨ex,st,c1,he,hq,mg⟩:=hq
  have fin:(Fl T st.rows st.env fn.results.toList λds=>match ds with|[d]=>Q0 d st.rows|ds=>Q0 (.dt ds) st.rows)->
   LeavesInM Fence.wide 0 P fn a'.tmps (λe w'=>∃v' c',e=.returned v'/\lu c w c' w'/\(∀r,c'.R r=ai[r]?)/\Rep c' w' res v') a'.defers .returning w':=by
   intro kF
   refine leaves mg λc1 w' a' jx mg=>?_
   obtain⟨ds,hK,hr⟩:=T9 hT kF
   have oI:mf c1 st.rows:=λr row ao h1 h2=>by rw[mg.rows,h2]at h1;exact(Option.some.inj h1).symm
   obtain⟨us,gz,CG⟩:=hr c1 w' a'.tmps mg.mem oI mg.env
   have sI:=Z0t gz
   obtain⟨d,v,Je,hv,oh⟩:∃d v,Aa rows.length res ai d st.rows/\CD us=v/\Rep c1 w' d v:=by
    match ds,us,CG with
    |[d],[u],hx=>exact⟨d,u,CF _ _ hK,rfl,hx.1.toRep⟩
    |[],[],hx=>exact⟨.dt [],_,CF _ _ hK,rfl,[],rfl,trivial⟩
    |d::e::ds,u::v::us,hx=>exact⟨.dt (d::e::ds),_,CF _ _ hK,rfl,_,rfl,hx⟩
    |[],_::_,hx=>exact hx.elim
    |[_],[],hx=>exact hx.elim
    |[_],_::_::_,hx=>exact hx.2.elim
    |_::_::_,[],hx=>exact hx.elim
    |_::_::_,[_],hx=>exact hx.2.elim
   rw[hv]at sI
   obtain⟨ex,hex,hd,cv⟩:=Je
   obtain⟨ey,gl,fu⟩:=RX mg hex cv
   exact⟨v,sI,v,c1.out _ ai,rfl,⟨gl,⟨fu.bz.base,fu.bz.top,fu.bz.I,fu.bz.R⟩,fu.fr.mono (λb _ hb=>hb.elim id False.elim),λb hb=>(fu.fh b hb).imp id (λh=>h.elim False.elim id),λr ao h1 h2=>(fu.nS r ao h1 h2).imp id (λh=>h.elim False.elim id)⟩,λr=>rfl,RW mg.mem mg.rows cv ey hd oh⟩
  cases e<;>simp only[mu,Option.some.injEq,reduceCtorEq]at he
  ·subst he;exact fin hq
  ·subst he;exact hq.elim
  ·subst he;exact fin hq
 ·exact h.elim
theorem y6{k:Nat}{rows:List Row}{c:Ctx}{w:World}{c':Ctx}{w':World}(gl:Mem c' w')(fu:wP {c.kill (bK k (rows.length-k))with X:=λb=>∃s row,bq s (bK k (rows.length-k))=true/\c.R s=some row/\¬c.V s/\c.ρ s=b} w c' w'):
 jA (bK k (rows.length-k)) c w c' w':=by
 refine⟨gl,⟨fu.bz.base,fu.bz.top,fu.bz.I,fu.bz.R⟩,fu.fr.mono (λb _ hb=>?_),λb hb=>fu.fh b hb,λr ao h1 h2=>?_⟩
 ·rcases hb with⟨r,x,h1,h2,h3⟩|⟨r,x,_,h1,h2,h3⟩
  ·obtain⟨_,row,g1,_⟩:=nT (c:=c) (ks:=bK k (rows.length-k)) h1
   exact⟨r,row,g1,h2,h3⟩
  ·exact⟨r,x,h1,h2,h3⟩
 ·rcases fu.nS r ao h1 h2 with⟨⟨x,g1⟩,g2,g3⟩|⟨s,x,q1,q2,q3,q4⟩|g
  ·obtain⟨_,row,p1,_⟩:=nT (c:=c) (ks:=bK k (rows.length-k)) g1
   exact .inl ⟨⟨row,p1⟩,g2,g3⟩
  ·exact .inr (.inl ⟨s,x,q1,q2,q3,q4.symm⟩)
  ·exact .inr (.inr g)
theorem Zkf:∀{rows:List Row} {r:Nat} {x:Row} {k:Nat},rows[r]?=some x->k∈kN [x]->k∈kN rows
 |y::l,0,x,k,h,hk=>by
  simp at h;subst h
  unfold kN at hk⊢
  split<;>simp_all [kN]
 |y::l,r+1,x,k,h,hk=>by
  have:=Zkf (rows:=l) (by simpa using h) hk
  unfold kN
  split<;>simp_all
 |[],r,x,k,h,_=>by simp at h
theorem Zjp{c:Ctx}{w:World}{tm oE:Array Value}:∀{ts:List Nat} {ds:List D},jY c w ds (ts.map λt=>tm.getD t undef)->(∀t∈ts,oE.getD t undef=tm.getD t undef)->∀t,Rep c w (look (om ts ds) t) (oE.getD t undef)
 |[],ds,_,_,t=>by cases ds<;>trivial
 |u::ts,[],h,_,t=>h.elim
 |u::ts,d::ds,h,ht,t=>by
  simp only[om,AJ]
  split
  ·rename_i e;rw[<-e,ht u (by simp)];exact h.1.toRep
  ·exact Zjp h.2 (λt h=>ht t (by simp[h])) t
theorem xu{P:Program}{F:Fence}{y:YK}{d:Nat}(hd:y.pos=some d){x:Value}{tm:Array Value}(hn:y.n<=tm.size){w:World}{K:Act->World->Prop}{l:Nat}
 (hK:∀oE,oE.size=tm.size->oE.getD d undef=x->(∀t∈y.ts,oE.getD t undef=tm.getD t undef)->K {tmps:=oE,defers:=[]} w):
 y.assign.wpIn (AM (some l)) 0 P (Exit.then K λ_ _ _=>False) {tmps:=(y.ps.zip #[x]).foldl (λtmps (t,a)=>tmps.setIfInBounds t a) tm,defers:=[]} w:=by
 have cq:∀(p:Nat) (Jf:Array Value) (t:Nat),t≠p->(Jf.setIfInBounds p x).getD t undef=Jf.getD t undef:=λp Jf t h=>by
  simp[aF,aQ (Ne.symm h)]
 have here:∀(p:Nat) (Jf:Array Value),p<Jf.size->(Jf.setIfInBounds p x).getD p undef=x:=λp Jf h=>by
  simp[aF,h]
 unfold YK.pos at hd
 split at hd
 ·rename_i p lJ has
  have lJ:y.ps= #[p]:=by rw[<-bS (xs:=y.ps),lJ]
  split at hd
  ·rename_i hc
   cases hd
   simp only[aE,gR,aS]at hc
   have hp:d<tm.size:=bI (lE hc.1) hn
   rw[has,lJ]
   refine wpIn_skip (hK _ (by simp) ?_ λt ht=>?_)
   ·simpa using here d tm hp
   ·have:=cq d tm t (λe=>by have:=(hc.2 t ht).1;rw[e]at this;simp at this)
    simpa using this
  ·cases hd
 ·rename_i p id ops lJ has
  have lJ:y.ps= #[p]:=by rw[<-bS (xs:=y.ps),lJ]
  split at hd
  ·rename_i e q ty po af CH
   have CH:ops= #[⟨some e,.assign (.tmp q),ty,po,af,none⟩]:=by rw[<-bS (xs:=ops),CH]
   split at hd
   ·rename_i hc
    cases hd
    simp only[aE,gR,aS]at hc
    obtain⟨⟨hq,hp,hd⟩,Eh⟩:=hc
    have hq:=bE hq
    subst hq
    have hp:q<tm.size:=bI (lE hp) hn
    have hd:d<tm.size:=bI (lE hd) hn
    rw[has,lJ,CH]
    refine Zcd ?_
    show wpOp P _ _ 0 _ _ _
    unfold wpOp
    simp only[List.getElem?_toArray,List.getElem?_cons_zero]
    rw[if_pos (by simp[Region.wanted])]
    refine FH (u:=x) (w':=w) ?_ ?_
    ·have:(tm.setIfInBounds q x).getD q undef=x:=here q tm hp
     simp only[execOp,Act.eval]
     simp[aF,hp]
    ·show K {tmps:=Array.setIfInBounds _ d x,defers:=[]} w
     refine hK _ (by simp) ?_ λt ht=>?_
     ·exact here d _ (by simpa using hd)
     ·have h1:=(Eh t ht).1
      rw[cq d _ t (λh=>by rw[h]at h1;simp at h1)]
      have:=cq q tm t (λh=>by rw[h]at h1;simp at h1)
      simpa using this
   ·cases hd
  ·cases hd
 ·cases hd
inductive uv(P:Program)(f:FuncId)(fn:Func)(cl:Prop):Prop where
 |real (h:f<YB) (hf:P.funcs[f]?=some fn) (hb:gT YB fn.nfree=false)
 |yield (h:YB<=f) (y:YK) (d:Nat) (hy:Fi f=some y) (hd:y.pos=some d) (hb:fn.body=some y.body) (hn:gT YB fn.nfree=true) (PC:bT fn.nfree YB=true) (hp:fn.params.toList=d::y.ts) (ht:fn.ntmps=y.n) (hc:cl)
 |uw (h:YB<=f) (y:YK) (q:Nat) (hy:Fi f=some y) (lJ:y.ps= #[q]) (hq:(Nat.blt q y.n&&y.ts.all λt=>!(bT t q))=true) (hb:fn.body=some (.seq y.assign y.body)) (hn:gT YB fn.nfree=true) (PC:bT fn.nfree YB=false) (hp:fn.params.toList=q::y.ts) (ht:fn.ntmps=y.n) (hc:cl)
theorem Jg{N k:Nat}{rows:List Row}{c:Ctx}{w:World}{env:List (Nat×D)}{tm:Array Value}(hm:Mem c w)(je:c.base=0)(hR:∀r,c.R r=rows[r]?)(sJ:∀t,Rep c w (look env t) (tm.getD t undef))(fp:N<=tm.size):
 fk N k {c.kill (bK k (rows.length-k))with X:=λb=>∃s row,bq s (bK k (rows.length-k))=true/\c.R s=some row/\¬c.V s/\c.ρ s=b} w c w ⟨env,rows.map some⟩ {tmps:=tm,defers:=[]}:=by
 refine⟨hm,λr=>by
  rw[hR]
  simp only[aK,fL]
  cases rows[r]? <;>rfl,sJ,fp,lG.nil,by simp[Ctx.kill,je],λr row h=>?_,⟨⟨rfl,aO _,λ_ h=>⟨h,rfl⟩,λr x hx=>?_⟩,Fr.refl _ w,λ_ h=>.inl h,λr row hr hv=>?_,λ_ _=>by simp[Ctx.kill,je]⟩⟩
 ·obtain⟨h1,ao,h2,_⟩:=nT (c:=c) (ks:=bK k (rows.length-k)) h
  rw[hR]at h2
  have cj:=(List.getElem?_eq_some_iff.1 h2).1
  by_cases hk:r<k
  ·exact hk
  ·rw[LH.2 (by omega)]at h1;cases h1
 ·obtain⟨_,row,h2,rfl⟩:=nT (c:=c) (ks:=bK k (rows.length-k)) hx
  obtain⟨s1,s2,s3,s4⟩:=uT (bK k (rows.length-k)) row
  exact⟨row,h2,s1.symm,s2.symm,s3.symm,s4.symm,rfl,Iff.rfl,λ_ arr ha=>⟨arr,by rw[s2]at ha⊢;exact ha,rfl⟩⟩
 ·cases hb:bq r (bK k (rows.length-k))with
  |true=>exact .inr (.inl ⟨r,row,hb,hr,hv,rfl⟩)
  |false=>exact .inl ⟨⟨row.kill (bK k (rows.length-k)),by simp[Ctx.kill,hb,hr]⟩,hv,rfl⟩
theorem Zg5{c:Ctx}{w:World}{tm oE:Array Value}{ps:List Nat}{d:Nat}{ts:List Nat}(CI:ps=d::ts){args:List D}{vs us:List Value}{x:Value}(Bv:vs=[x]++us)(wu:us=ts.map λt=>tm.getD t undef)(ft:jY c w args vs)(hx:oE.getD d undef=x)(Eh:∀t∈ts,oE.getD t undef=tm.getD t undef):
 ∀t,Rep c w (look (om ps args) t) (oE.getD t undef):=by
 subst CI
 subst Bv
 match args,ft with
 |[],hx=>exact hx.elim
 |A::As,⟨hA,hAs⟩=>
  intro t
  simp only[om,AJ]
  split
  ·rename_i e;rw[<-e,hx];exact hA.toRep
  ·exact Zjp (by rw[wu]at hAs;exact hAs) Eh t
theorem Z7b{P:Program}(hD:rF P){T:ff}(hT:jt P T){G:List ba}(hG:jO P G){n k:Nat}{rows:List Row}{res:D}{ai:List Row}{code:Code}{L:Code->St->(Ex->St->Prop)->Prop}(hL:∀ro code st Q,L code st Q->tz ro P n k code st Q){Q0:D->Rows->Prop}(CF:∀d R,Q0 d R->Aa k res ai d R)
 {c:Ctx} {w:World} {l:Nat} {rec:Loop} (hm:Mem c w) (hI:c.I l) (hl:w.heap[l]?=some (.loop rec)) (jL:rec.state=.ready) (Di:rec.pending=none) {st:St} {c2:Ctx} {w2:World} {a:Act}
 (hs:fk n k {({c with I:=λb=>c.I b/\b≠l}:Ctx).kill (bK k (rows.length-k))with X:=λb=>∃s row,bq s (bK k (rows.length-k))=true/\c.R s=some row/\¬c.V s/\c.ρ s=b} (w.putObj l (.loop {rec with state:=.busy})) c2 w2 st a)
 (h:oO T G n k L code st λe st=>match e with|.normal=>Q0 (.bool true) st.rows|_=>False):
 code.wpIn (AM (some l)) 0 P (roundPost P l λe w'=>∃v' c',e=.returned v'/\jA (bK k (rows.length-k)) c w c' w'/\(∀r,c'.R r=ai[r]?)/\Rep c' w' res v') a w2:=by
 have cj:=(Array.getElem?_eq_some_iff.1 hl).1
 obtain⟨ĉ,hĉ⟩:∃ĉ:Ctx,ĉ={c with I:=λb=>c.I b/\b≠l}:=⟨_,rfl⟩
 obtain⟨wb,Jh⟩:∃wb,wb=w.putObj l (.loop {rec with state:=.busy}):=⟨_,rfl⟩
 have cb:∀r x,c.R r=some x->¬c.V r->c.ρ r≠l:=λr x hr hV=>(hm.fh l hI).2 r x hr hV
 have Ji:∀b,b≠l->wb.heap[b]?=w.heap[b]? :=λb hb=>by rw[Jh];exact World.putObj_heap_other hb
 have h2l:wb.heap[l]?=some (.loop {rec with state:=.busy}):=by rw[Jh];exact World.putObj_heap_same cj
 have Fm:wb.heap.size=w.heap.size:=by rw[Jh];simp
 have hs:fk n k {ĉ.kill (bK k (rows.length-k))with X:=λb=>∃s row,bq s (bK k (rows.length-k))=true/\ĉ.R s=some row/\¬ĉ.V s/\ĉ.ρ s=b} wb c2 w2 st a:=by rw[hĉ,Jh];exact hs
 refine wpIn_mono (MK (ro:=some l) hD hT hG (ML none n) (λcode st Q _ hl=>hL (some l) code st Q hl) code _ _ trivial h _ wb c2 w2 _ hs) λe a' w3 hq=>?_
 obtain⟨ex,st,c1,he,hq,mg⟩:=hq
 cases e<;>simp only[mu,Option.some.injEq,reduceCtorEq]at he<;>subst he
 rotate_left
 ·exact hq.elim
 ·exact hq.elim
 obtain⟨ex,hex,sK,cv⟩:=CF _ _ hq
 obtain⟨ey,gl,fu⟩:=RX mg hex cv
 have hX:¬({ĉ.kill (bK k (rows.length-k))with X:=λb=>∃s row,bq s (bK k (rows.length-k))=true/\ĉ.R s=some row/\¬ĉ.V s/\ĉ.ρ s=b}:Ctx).X l:=fun⟨s,row,_,g1,g2,g3⟩=>by
  rw[hĉ]at g1 g2 g3;exact cb s row g1 g2 g3
 have Yy:w3.heap[l]?=some (.loop {rec with state:=.busy}):=by
  refine(mg.reach.fr.heap l (by rw[Fm];exact cj) λhx=>?_).trans h2l
  rcases hx with⟨r,row,g1,g2,g3⟩|hx
  ·obtain⟨_,ao,g4,_⟩:=nT (c:=ĉ) g1
   rw[hĉ]at g2 g3 g4;exact cb r ao g4 g2 g3
  ·exact hX hx
 have HY:=(Array.getElem?_eq_some_iff.1 Yy).1
 have Ej:=run_endRound (P:=P) none Yy
 refine⟨_,_,Ej,_,{c1.out ex ai with I:=λb=>(c1.out ex ai).I b\/b=l},rfl,?_⟩
 have PD:({({rec with state:=.busy}:Loop)with state:=if(none:Option Code).isNone then .ready else .done,pending:=none}:Loop)=rec:=by
  cases rec;simp only at jL Di;subst jL;subst Di;rfl
 rw[PD]
 have nl:¬(c1.out ex ai).I l:=λhx=>by
  rcases fu.fh l hx with h|h|h
  ·obtain⟨h,_⟩:ĉ.I l/\True:=⟨h,trivial⟩
   rw[hĉ]at h;exact h.2 rfl
  ·exact hX h
  ·rw[Fm]at h;omega
 have CJ:∀r x,(c1.out ex ai).R r=some x->¬(c1.out ex ai).V r->(c1.out ex ai).ρ r≠l:=λr x hr hV e=>by
  rcases gl.row r x hr with g|⟨_,arr,g,_⟩
  ·exact hV g.1
  ·rw[e,Yy]at g;cases g
 have L1:∀b,b≠l->(w3.putObj l (.loop rec)).heap[b]?=w3.heap[b]? :=λb hb=>World.putObj_heap_other hb
 have uW:jf (c1.out ex ai) w3 {c1.out ex ai with I:=λb=>(c1.out ex ai).I b\/b=l} (w3.putObj l (.loop rec)):=
  ⟨rfl,aO _,λb hb=>⟨.inl hb,L1 b (λe=>nl (by rw[<-e];exact hb))⟩,λr x hr=>⟨x,hr,rfl,rfl,rfl,rfl,rfl,Iff.rfl,λhV arr ha=>⟨arr,(L1 _ (CJ r x hr hV)).trans ha,rfl⟩⟩⟩
 have hN:=y6 gl fu
 refine⟨⟨⟨λr x hr=>tC uW rfl Iff.rfl (λnv=>L1 _ (CJ r x hr nv)) (gl.row r x hr),gl.inj,λb hb=>?_,by simpa using gl.top,gl.kC.mono uW.I⟩,⟨?_,?_,λb hb=>?_,λr x hr=>?_⟩,⟨?_,?_,?_,?_,λb hb hn=>?_⟩,λb hb=>?_,λr row hr hv=>?_⟩,λr=>rfl,wQ uW (RW mg.mem mg.rows cv ey sK rfl)⟩
 ·rcases hb with hb|hb
  ·simpa using gl.fh b hb
  ·subst hb;exact⟨by simpa using HY,λr x hr hV=>CJ r x hr hV⟩
 ·have:=hN.bz.base;rw[hĉ]at this;exact this
 ·have:=hN.bz.top;rw[hĉ]at this;exact this
 ·by_cases e:b=l
  ·subst e;exact⟨.inr rfl,by rw[World.putObj_heap_same HY,hl]⟩
  ·have:=hN.bz.I b (by rw[hĉ];exact⟨hb,e⟩)
   exact⟨.inl this.1,(L1 b e).trans (this.2.trans (Ji b e))⟩
 ·have:=hN.bz.R r x (by rw[hĉ];exact hr)
  obtain⟨x',g1,g2,g3,g4,g5,g6,gV,g7⟩:=this
  rw[hĉ]at g6 gV g7
  refine⟨x',g1,g2,g3,g4,g5,g6,gV,λhV arr ha=>?_⟩
  obtain⟨_,x0,q1,_⟩:=nT (c:=c) hr
  have gg:c.ρ r≠l:=cb r x0 q1 hV
  obtain⟨iJ,k1,k2⟩:=g7 hV arr ((Ji _ gg).trans ha)
  exact⟨iJ,(L1 _ gg).trans k1,k2⟩
 ·rw[Jh]at hN;exact hN.fr.os
 ·rw[Jh]at hN;exact hN.fr.tape
 ·rw[Jh]at hN;exact hN.fr.output
 ·have:=hN.fr.size;rw[Fm]at this;simpa using this
 ·by_cases e:b=l
  ·subst e;rw[World.putObj_heap_same HY,hl]
  ·rw[L1 b e,hN.fr.heap b (by rw[Fm];exact hb) (by rw[hĉ];exact hn),Ji b e]
 ·rcases hb with hb|hb
  ·rcases hN.fh b hb with g|g|g
   ·rw[hĉ]at g;exact .inl g.1
   ·rw[hĉ]at g;exact .inr (.inl g)
   ·rw[Fm]at g;exact .inr (.inr g)
  ·subst hb;exact .inl hI
 ·rcases hN.nS r row hr hv with g|g|g
  ·rw[hĉ]at g;exact .inl g
  ·rw[hĉ]at g;exact .inr (.inl g)
  ·rw[Fm]at g;exact .inr (.inr g)
theorem qaJ{P:Program}(hD:rF P){T:ff}(hT:jt P T){G:List ba}(hG:jO P G){f:FuncId}{fn:Func}{k:Nat}{args:List D}{rows:List Row}{res:D}{ai:List Row}{rf:Option Nat}(hf:uv P f fn (rW (o4 args++kN rows)=true/\rf=none))(mQ:∀code,fn.body=some code->RF rf fn.ntmps code)
 {L:Code->St->(Ex->St->Prop)->Prop} (hL:∀ro,(ro=none\/rf=none)->∀code st Q,RF rf fn.ntmps code->L code st Q->tz ro P fn.ntmps k code st Q) {Q0:D->Rows->Prop} (CF:∀d R,Q0 d R->Aa k res ai d R) (h:Jj T G L fn args rows Q0 k):r9 P f k args rows res ai:=by
 intro c w vs hm je hR ft
 unfold Jj at h
 split at h
 rotate_left
 ·exact h.elim
 rename_i code hb
 cases hf with
 |real cj hf oX=>
  simp only[oX]at h
  refine⟨λ_=>?_,λpk=>absurd cj (Nat.not_lt.2 pk)⟩
  have hs:=Jg (N:=fn.ntmps) (k:=k) (env:=Fj args 0) (tm:=vs.toArray++gN (fn.ntmps-vs.toArray.size) undef) hm je hR (λt=>Zkb ft _ t) (by simp;omega)
  refine callsIn_wide.1 (callsIn_of_wp_marks (F:=Fence.wide) (n:=0) hf hb trivial (wpIn_mono (MK (ro:=none) hD hT hG (ML rf fn.ntmps) (hL none (.inl rfl)) code _ _ (mQ _ hb) h _ w c w _ hs) λe a' w' hq=>?_))
  obtain⟨ex,st,c1,he,hq,mg⟩:=hq
  have fin:(Fl T st.rows st.env fn.results.toList λds=>match ds with|[d]=>Q0 d st.rows|ds=>Q0 (.dt ds) st.rows)->
   LeavesInM Fence.wide 0 P fn a'.tmps (λe w'=>∃v' c',e=.returned v'/\jA (bK k (rows.length-k)) c w c' w'/\(∀r,c'.R r=ai[r]?)/\Rep c' w' res v') a'.defers .returning w':=by
   intro kF
   refine leaves mg λc1 w' a' jx mg=>?_
   obtain⟨ds,hK,hr⟩:=T9 hT kF
   have oI:mf c1 st.rows:=λr row ao h1 h2=>by rw[mg.rows,h2]at h1;exact(Option.some.inj h1).symm
   obtain⟨us,gz,CG⟩:=hr c1 w' a'.tmps mg.mem oI mg.env
   have sI:=Z0t gz
   obtain⟨d,v,Je,hv,oh⟩:∃d v,Aa k res ai d st.rows/\CD us=v/\Rep c1 w' d v:=by
    match ds,us,CG with
    |[d],[u],hx=>exact⟨d,u,CF _ _ hK,rfl,hx.1.toRep⟩
    |[],[],hx=>exact⟨.dt [],_,CF _ _ hK,rfl,[],rfl,trivial⟩
    |d::e::ds,u::v::us,hx=>exact⟨.dt (d::e::ds),_,CF _ _ hK,rfl,_,rfl,hx⟩
    |[],_::_,hx=>exact hx.elim
    |[_],[],hx=>exact hx.elim
    |[_],_::_::_,hx=>exact hx.2.elim
    |_::_::_,[],hx=>exact hx.elim
    |_::_::_,[_],hx=>exact hx.2.elim
   rw[hv]at sI
   obtain⟨ex,hex,hd,cv⟩:=Je
   obtain⟨ey,gl,fu⟩:=RX mg hex cv
   refine⟨v,sI,v,c1.out _ ai,rfl,y6 gl fu,λr=>rfl,RW mg.mem mg.rows cv ey hd oh⟩
  cases e<;>simp only[mu,Option.some.injEq,reduceCtorEq]at he
  ·subst he;exact fin hq
  ·subst he;exact hq.elim
  ·subst he;exact fin hq
 |yield pk y d hy hd uh Yz Jk CI YA hc=>
  simp only[Yz,Jk]at h
  obtain⟨oy,Jl⟩:=hc
  rw[uh]at hb
  cases hb
  refine⟨λcj=>absurd cj (Nat.not_lt.2 pk),λ_ l rec xs us Bv hI hl mw iQ=>?_⟩
  obtain⟨jL,Di,y',wU,lJ,has,YC,PE,h1,wu⟩:=mw
  rw[hy]at wU;cases wU
  obtain⟨x,rfl⟩:∃x,xs=[x]:=by
   match xs,iQ with
   |[x],_=>exact⟨x,rfl⟩
  rw[lJ,has,YC]
  have real:∀k,k∈o4 args++kN rows->k<YB:=λk hk=>MJ oy hk
  have cj:=(Array.getElem?_eq_some_iff.1 hl).1
  have lR:∀arr ty fz,(Obj.loop rec)≠.cells arr ty fz:=λ_ _ _ e=>by cases e
  obtain⟨ĉ,hĉ⟩:∃ĉ:Ctx,ĉ={c with I:=λb=>c.I b/\b≠l}:=⟨_,rfl⟩
  obtain⟨w2,PF⟩:∃w2,w2=w.putObj l (.loop {rec with state:=.busy}):=⟨_,rfl⟩
  have cb:∀r x,c.R r=some x->¬c.V r->c.ρ r≠l:=λr x hr hV=>(hm.fh l hI).2 r x hr hV
  have Ji:∀b,b≠l->w2.heap[b]?=w.heap[b]? :=λb hb=>by rw[PF];exact World.putObj_heap_other hb
  have h2l:w2.heap[l]?=some (.loop {rec with state:=.busy}):=by rw[PF];exact World.putObj_heap_same cj
  have Fm:w2.heap.size=w.heap.size:=by rw[PF];simp
  have hg:I5 c w ĉ w2:=by
   rw[hĉ]
   refine⟨rfl,aO _,λb arr ty fz iq hb=>?_,λr x hr=>⟨x,hr,rfl,rfl,rfl,rfl,rfl,Iff.rfl,λhV arr ha=>⟨arr,(Ji _ (cb r x hr hV)).trans ha,rfl⟩⟩⟩
   have gg:b≠l:=λe=>by subst e;rw[hl]at hb;cases hb
   exact⟨⟨iq,gg⟩,(Ji b gg).trans hb⟩
  have gF:∀k ws v,k<YB->rB c w k ws v->rB ĉ w2 k ws v:=λk ws v hk hv=>by
   rcases hv with hv|⟨hv,_⟩
   ·exact .inl hv
   ·omega
  have By:Mem ĉ w2:=by
   rw[hĉ]at hg gF⊢
   refine X7 hm hg (λr x hr hV=>Ji _ (cb r x hr hV)) (Fk:=λk=>k<YB) gF (λr x hr k hk=>real k ?_) (λb hb=>⟨by rw[Fm];exact(hm.fh b hb.1).1,(hm.fh b hb.1).2⟩) (by rw[Fm];exact aO _)
   rw[hR]at hr
   exact gP _ (Zkf hr hk)
  have Jm:jY ĉ w2 args vs:=X6 hg (Fk:=λk=>k<YB) gF (λk hk=>real k (gQ _ hk)) ft
  refine roundIn_of_wpIn (F:=Fence.wide) (n:=0) trivial (xu (F:=Fence.wide) hd (tm:=rec.tmps) PE λoE fp hx Eh=>?_)
  refine⟨w2,by rw[PF];exact run_beginRound hl jL,?_⟩
  have sJ:∀t,Rep ĉ w2 (look (om fn.params.toList args) t) (oE.getD t undef):=Zg5 CI Bv wu Jm hx Eh
  have hs:=Jg (N:=fn.ntmps) (k:=k) (env:=om fn.params.toList args) (tm:=oE) By (by rw[hĉ];exact je) (by rw[hĉ];exact hR) sJ (by rw[fp,YA];exact PE)
  subst Jl
  subst PF
  subst hĉ
  exact Z7b hD hT hG (λro code st Q hl=>hL ro (.inr rfl) code st Q trivial hl) CF hm hI hl jL Di hs h
 |uw pk y q hy lJ hq uh Yz Jk CI YA hc=>
  simp only[Yz,Jk]at h
  obtain⟨oy,Jl⟩:=hc
  subst Jl
  rw[uh]at hb
  cases hb
  simp only at h
  refine⟨λcj=>absurd cj (Nat.not_lt.2 pk),λ_ l rec xs us Bv hI hl mw iQ=>?_⟩
  obtain⟨jL,Di,y',wU,YD,has,YC,PE,h1,wu⟩:=mw
  rw[hy]at wU;cases wU
  obtain⟨x,rfl⟩:∃x,xs=[x]:=by
   match xs,iQ with
   |[x],_=>exact⟨x,rfl⟩
  rw[YD,has,YC]
  obtain⟨oE,Uc⟩:∃oE,oE=rec.tmps.setIfInBounds q x:=⟨_,rfl⟩
  have hz:((y.ps.zip [x].toArray).foldl (λtmps (t,a)=>tmps.setIfInBounds t a) rec.tmps)=oE:=by rw[lJ,Uc];simp
  rw[hz]
  simp only[aE,gR,aS]at hq
  have hqs:q<rec.tmps.size:=bI (lE hq.1) PE
  have hx:oE.getD q undef=x:=by rw[Uc];simp[aF,hqs]
  have Eh:∀t∈y.ts,oE.getD t undef=rec.tmps.getD t undef:=λt ht=>by
   have gg:q≠t:=λe=>by have:=hq.2 t ht;rw[e]at this;simp at this
   rw[Uc];simp[aF,aQ gg]
  have sJ:∀t,Rep c w (look (om fn.params.toList args) t) (oE.getD t undef):=Zg5 CI Bv wu ft hx Eh
  have hs:=Jg (N:=fn.ntmps) (k:=k) (env:=om fn.params.toList args) (tm:=oE) hm je hR sJ (by rw[Uc,YA];simpa using PE)
  refine roundIn_of_wpIn (F:=Fence.wide) (n:=0) trivial (wpIn_mono (MK (ro:=some l) hD hT hG (ML none fn.ntmps) (λcode st Q _ hl=>hL (some l) (.inr rfl) code st Q trivial hl) y.assign _ _ trivial h _ w c w _ hs) λe a1 w1 hq=>?_)
  obtain⟨ex,st1,c1,he,hq,mg⟩:=hq
  cases e<;>simp only[mu,Option.some.injEq,reduceCtorEq]at he<;>subst he
  rotate_left
  ·exact hq.elim
  ·exact hq.elim
  simp only[c7]at hq
  obtain⟨YE,hq⟩:=hq
  have R4:w1.heap[l]?=some (.loop rec):=(mg.reach.bz.I l hI).2.trans hl
  have cb:∀r x,(c.kill (bK k (rows.length-k))).R r=some x->¬c.V r->c.ρ r≠l:=λr x hr hV=>by
   obtain⟨_,x0,q1,_⟩:=nT (c:=c) hr
   exact(hm.fh l hI).2 r x0 q1 hV
  exact⟨_,run_beginRound R4 jL,Z7b hD hT hG (λro code st Q hl=>hL ro (.inr rfl) code st Q trivial hl) CF hm hI hl jL Di (mg.edit hI hl cb YE) hq⟩

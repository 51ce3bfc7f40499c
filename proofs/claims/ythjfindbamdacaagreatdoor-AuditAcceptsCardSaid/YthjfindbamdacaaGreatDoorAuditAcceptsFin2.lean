import Derived.Test.YthjfindbamdacaaGreatDoorAuditAcceptsFin1
open Int renaming le_refl->cW,tmod->dE,toNat_natCast->eD,toNat_of_nonneg->eH
open Nat renaming lt_succ_self->cO,zero_le->aT,le_succ->fH,le_refl->aO,blt->bJ,beq->bT
open List renaming getD_eq_getElem?_getD->cP,getElem?_eq_getElem->cG,drop_eq_getElem_cons->aB,foldl_cons->aD,drop_eq_nil_of_le->aA,length_singleton->cZ,length_cons->dI,replicate->cQ,append_assoc->fG,length_replicate->cV,length->dK,length_map->fI,map_append->bL,getElem_mem->fJ,append_nil->cJ,mem_cons->cS,not_mem_nil->cU,length_nil->dJ,nil_append->fK,take->dB,drop->dC,take_of_length_le->fL,length_drop->bF,getElem?_map->fM,length_set->dH,getElem_map->bO
open BitVec renaming ofInt->dW
open Bool renaming true_and->fN
set_option maxRecDepth 100000
set_option linter.all false
namespace Go.Proofs.YthjfindbamdacaaGreatDoor
open Go Go.GD
open Go.IntKind(wrap i64 u64 wrap_i64 wrap_u64 wrap_u8 wrap_i32)
variable {A:dj×Bool}{P n:Nat}{clock err hash i j k kind x:Int}{lB:List fx}{m y z:av}{o:List dk}{r:dj}{sc:List ep}
attribute [local irreducible] Lp
def Tree.V{β:Type}(t:Tree β)(W:β->Prop):Prop:=W t.m
section
variable {α β:Type} {W:β->Prop} {c:Bool} {t e:Tree β}
theorem c7{x:β}(h:W x):Tree.V (.lf x) W:=h
theorem pI{f:Prop}{x:β}{hf:f}(h:W x):Tree.V (.nx f x hf) W:=h
theorem da(h:c=true->Tree.V t W)(g:c=false->Tree.V e W):Tree.V (.br c t e) W:=by
 cases c
 ·exact g rfl
 ·exact h rfl
theorem kb(g:Tree.V t W):Tree.V (.cn c t) W:=g
theorem ft{p:Prop}(g:Tree.V t W):Tree.V (.an p t) W:=g
theorem du{x:α}{k:α->Tree β}(h:∀y,y=x->Tree.V (k y) W):Tree.V (.lv x k) W:=h x rfl
theorem rK{d:Inhabited β}{n:Nat}{f:Prop}{x:α}{k:α->Tree (α⊕β)}{hf:f}{inv:α->Prop}{μ:α->Nat}(h:inv x)(hn:μ x<n)(g:∀y,inv y->Tree.V (k y) (Sum.elim (λz=>inv z/\μ z<μ y) W)):Tree.V (.lp d n f x k hf) W:=by
 refine xaD (P:=inv) (R:=W) (μ:=μ) (λa ha=>?_) n x h hn
 have:=g a ha
 unfold Tree.V at this
 revert this
 cases(k a).m with
 |inl z=>exactλh=>h
 |inr b=>exactλh=>h
end
def EC(r:dj)(m:av):dj:={A0:=m,B4:=r.B4,C8:=r.C8,B1:=r.B1}
theorem xaK(r:dj)(port clock:Int):YN r port clock=((w5 r.A0 port clock).1,EC r (w5 r.A0 port clock).2):=by
 simp only[YN,Pf,w5,Qf,Tree.m,df]
 cases decide (port<=1)<;>cases port==2<;>cases port==3<;>cases decide (port<=6)<;>cases decide (port<=9)<;>rfl
theorem zas(r:dj)(port v:Int):YO r port v=((Ba r.A0 port v).1,EC r (Ba r.A0 port v).2):=by
 simp only[YO,Mp,Ba,Fy,Tree.m,df]
 cases port==0<;>cases decide (port<=2)<;>cases port==3<;>cases decide (port<=6)<;>cases decide (port<=9)<;>rfl
theorem qaL{c:Bool}{x y:Bool×dj}{x' y':Bool×av}(hx:x=(x'.1,EC r x'.2))(hy:y=(y'.1,EC r y'.2)):cond c x y=((cond c x' y').1,EC r (cond c x' y').2):=by cases c<;>assumption
theorem yl(r:dj)(e:ib):YP r e=((Q1 r.A0 e).1,EC r (Q1 r.A0 e).2):=by
 simp only[YP,Mq,Q1,FT,Tree.m,df]
 repeat'(first|rfl|refine qaL ?_ ?_)
theorem UB(r:dj)(clock:Int):Mr r clock=((fe r.A0 clock).1,EC r (fe r.A0 clock).2):=by
 simp only[Mr,Ms,fe,K8,Tree.m,df,xaK,zas,EC]
 cases(re (mf r.A0) r.A0.Mem).2.1.C0==1<;>cases(re (mf r.A0) r.A0.Mem).2.1.C0==2<;>cases(re (mf r.A0) r.A0.Mem).2.1.C0==3<;>cases(re (mf r.A0) r.A0.Mem).2.1.C0==4<;>rfl
def nq(r:dj)(e:ib):dj:=
 bif(Q1 r.A0 e).1 then{A0:=(Q1 r.A0 e).2,B4:=r.B4,C8:=r.C8++[{At:=(Q1 r.A0 e).2.A1,C6:=e}],B1:=r.B1}else EC r (Q1 r.A0 e).2
theorem Zpw(r:dj)(e:ib):Pg r e=nq r e:=by
 have a:YQ r e=((Q1 r.A0 e).1,EC r (Q1 r.A0 e).2):=by
  simp only[YQ,Mt,Tree.m,df,yl]
 simp only[Pg,Mu,Tree.m,df,a,nq]
 cases(Q1 r.A0 e).1<;>rfl
def kX(r:dj):dj:=bif JB r.A0.A9 r.B4 then nq r {C0:=2,N:=0,D0:=[]}else r
def FU(r:dj):dj:=bif Hw r.A0 then{A0:=r.A0,B4:=r.B4,C8:=r.C8++[{At:=r.A0.A1,C6:={C0:=1,N:=r.B4,D0:=[]}}],B1:=r.B1}else r
def ED(r:dj):dj:={A0:=(fe r.A0 r.B4).2,B4:=wrap .u32 (r.B4+1),C8:=(FU r).C8,B1:=r.B1}
def iS:Nat->dj->List dk->dj×List dk
 |0,r,o=>(r,o)
 |n+1,r,o=>bif mJ (kX r).A0 then(kX r,o)else iS n (ED (kX r)) (o++(fe (kX r).A0 (kX r).B4).1)
def JC(r:dj):dj:={A0:=r.A0,B4:=r.B4,C8:=r.C8,B1:=[]}
def lQ(r:dj)(steps clock:Int):dj×List dk:=
 bif !o9 r.A0 then(r,[])else iS (ra steps).toNat (JC (r.B1.foldl nq {A0:=r.A0,B4:=if clock>r.B4 then clock else r.B4,C8:=r.C8,B1:=r.B1})) []
theorem YR(r:dj)(e:ib):(nq r e).B1=r.B1:=by
 unfold nq;cases(Q1 r.A0 e).1<;>rfl
theorem Zp7(r:dj):UC r=r:=by
 simp only[UC,Mv,Tree.m,df,FR]
theorem YS(r:dj)(steps clock:Int)(hq:r.B1.length<=1000000):UD r steps clock=lQ r steps clock:=by
 show Tree.V (I3 r steps clock) (λx=>x=lQ r steps clock)
 obtain⟨JaB,lim⟩:=Tv steps
 unfold I3
 refine ft (du λx0 e0=>du λx1 e1=>?_)
 rw[Zp7]at e0
 subst e0
 refine da (λhb=>c7 ?_) λhb=>?_
 ·unfold lQ;rw[<-e1,hb];rfl
 generalize se:({A0:=x0.A0,B4:=if clock>x0.B4 then clock else x0.B4,C8:=x0.C8,B1:=x0.B1}:dj)=r0
 have hA:lQ x0 steps clock=iS (ra steps).toNat (JC (x0.B1.foldl nq r0)) []:=by
  unfold lQ;rw[<-e1,hb,se];rfl
 have hQ:r0.B1=x0.B1:=by rw[<-se]
 refine rK (inv:=λz:Int×dj=>0<=z.1/\z.1<=x0.B1.length/\z.2.B1=x0.B1/\(x0.B1.drop z.1.toNat).foldl nq z.2=x0.B1.foldl nq r0) (μ:=Xs x0 steps clock) ⟨cW 0,by show(0:Int)<=_;omega,hQ,rfl⟩ (cO _) λz ⟨z0,z1,z2,z3⟩=>?_
 refine da (λhb=>?_) (λhb=>?_)
 ·have hb:=oY hb
  rw[z2]at hb
  refine kb (ft (du λx2 e2=>pI ?_))
  have ew:i64.wrap (z.1+1)=z.1+1:=by rw[wrap_i64];omega
  rw[Zpw]at e2
  have q2:x2.B1=x0.B1:=by rw[e2,YR,z2]
  have bz:z.1.toNat<x0.B1.length:=by omega
  have ed:z.2.B1.getD z.1.toNat (RK.cw RK.bc)=x0.B1[z.1.toNat]:=by rw[z2,cP,cG bz];rfl
  show(0<=i64.wrap (z.1+1)/\i64.wrap (z.1+1)<=x0.B1.length/\x2.B1=x0.B1/\(x0.B1.drop (i64.wrap (z.1+1)).toNat).foldl nq x2=_)/\(x2.B1.length-i64.wrap (z.1+1)).toNat<(z.2.B1.length-z.1).toNat
  rw[ew,q2,z2]
  refine⟨⟨by omega,by omega,rfl,?_⟩,by omega⟩
  rw[<-z3,aB bz,aD,show(z.1+1).toNat=z.1.toNat+1 by omega,e2,ed]
 ·have hb:=oN hb
  rw[z2]at hb
  obtain⟨zi,zr⟩:=z
  have hb:¬zi<x0.B1.length:=hb
  have ze:zr=x0.B1.foldl nq r0:=by
   rw[<-z3,aA (by show x0.B1.length<=zi.toNat;omega)];rfl
  rw[<-ze]at hA
  refine rK (inv:=λy:Int×dj×List dk=>0<=y.1/\y.1<=ra steps/\iS (ra steps-y.1).toNat y.2.1 y.2.2=lQ x0 steps clock) (μ:=N2 x0 steps clock (zi,zr)) ⟨cW 0,by show(0:Int)<=_;omega,by rw[hA];show iS (ra steps-0).toNat _ _=_;rw[Int.sub_zero];rfl⟩ (cO _) λy ⟨y0,y1,y2⟩=>?_
  obtain⟨yi,yr,yo⟩:=y
  have mu:∀q,yi<4000->N2 x0 steps clock (zi,zr) (wrap .i64 (yi+1),q)<N2 x0 steps clock (zi,zr) (yi,yr,yo):=λq h=>by
   show(4000-wrap .i64 (yi+1)).toNat<(4000-yi).toNat
   have y0:0<=yi:=y0
   rw[wrap_i64];omega
  have y0:0<=yi:=y0
  refine du λx3 e3=>da (λhb=>?_) (λhb=>?_)
  ·have hb:yi<x3:=oY hb
   rw[e3]at hb
   have mu:=λq=>mu q (by omega)
   have ew:i64.wrap (yi+1)=yi+1:=by rw[wrap_i64];omega
   have en:(ra steps-yi).toNat=(ra steps-(yi+1)).toNat+1:=by omega
   change iS (ra steps-yi).toNat yr yo=_ at y2
   rw[en]at y2
   refine du λx4 e4=>da (λhd=>ft (du λx5 e5=>?_)) (λhd=>?_)
   ·have e5:x5=kX yr:=by rw[e5,Zpw];unfold kX;rw[<-e4,hd];rfl
    refine ft (du λx6 e6=>da (λhs=>c7 ?_) λhs=>ft (du λx7 e7=>da (λhr=>kb (ft (du λx8 e8=>kb (pI ?_)))) λhr=>ft (du λx9 e9=>kb (pI ?_))))
    ·show(_,yo)=_
     rw[<-y2];unfold iS
     rw[<-e5,<-e6,hs];rfl
    ·rw[UB]at e8
     refine⟨⟨by show 0<=wrap .i64 (yi+1);rw[ew];omega,by show wrap .i64 (yi+1)<=_;rw[ew];omega,?_⟩,mu _⟩
     show iS (ra steps-wrap .i64 (yi+1)).toNat _ _=_
     rw[ew,<-y2,e8]
     conv=>rhs;unfold iS
     rw[<-e5,<-e6,hs]
     unfold ED FU
     rw[<-e7,hr];rfl
    ·rw[UB]at e9
     refine⟨⟨by show 0<=wrap .i64 (yi+1);rw[ew];omega,by show wrap .i64 (yi+1)<=_;rw[ew];omega,?_⟩,mu _⟩
     show iS (ra steps-wrap .i64 (yi+1)).toNat _ _=_
     rw[ew,<-y2,e9]
     conv=>rhs;unfold iS
     rw[<-e5,<-e6,hs]
     unfold ED FU
     rw[<-e7,hr];rfl
   ·have e5:yr=kX yr:=by
     have e4:x4=JB yr.A0.A9 yr.B4:=e4
     unfold kX;rw[<-e4,hd];rfl
    refine ft (du λx6 e6=>da (λhs=>c7 ?_) λhs=>ft (du λx7 e7=>da (λhr=>kb (ft (du λx8 e8=>kb (pI ?_)))) λhr=>ft (du λx9 e9=>kb (pI ?_))))
    ·show(_,yo)=_
     rw[<-y2];unfold iS
     rw[<-e5,<-e6,hs];rfl
    ·rw[UB]at e8
     refine⟨⟨by show 0<=wrap .i64 (yi+1);rw[ew];omega,by show wrap .i64 (yi+1)<=_;rw[ew];omega,?_⟩,mu _⟩
     show iS (ra steps-wrap .i64 (yi+1)).toNat _ _=_
     rw[ew,<-y2,e8]
     conv=>rhs;unfold iS
     rw[<-e5,<-e6,hs]
     unfold ED FU
     rw[<-e7,hr];rfl
    ·rw[UB]at e9
     refine⟨⟨by show 0<=wrap .i64 (yi+1);rw[ew];omega,by show wrap .i64 (yi+1)<=_;rw[ew];omega,?_⟩,mu _⟩
     show iS (ra steps-wrap .i64 (yi+1)).toNat _ _=_
     rw[ew,<-y2,e9]
     conv=>rhs;unfold iS
     rw[<-e5,<-e6,hs]
     unfold ED FU
     rw[<-e7,hr];rfl
  ·have hb:¬yi<x3:=oN hb
   rw[e3]at hb
   refine c7 ?_
   show(yr,yo)=_
   change iS (ra steps-yi).toNat yr yo=_ at y2
   rw[<-y2,show(ra steps-yi).toNat=0 by omega];rfl
structure eu(P:Nat)(m:av):Prop where
 ok:nN P m
 may:mX m=true
section
variable {P:Nat} {m:av} (h:eu P m)
include h
theorem eu.v:pF m:=⟨h.ok.lK,h.ok.mem.u,h.ok.kQ,h.ok.si,h.ok.target,h.ok.lM⟩
theorem eu.s:rG P m:=⟨h.ok.lK,h.ok.mem,h.ok.kQ,h.ok.si,h.ok.target.1,h.ok.target.2⟩
theorem eu.CN:o9 m=true:=(Jx h.v).symm.trans h.may
theorem UE{e:ib}(he:U e.N):eu P (Q1 m e).2/\(Q1 m e).2.A1=m.A1:=by
 have o:nN P (Q1 m e).2:=Tree.post _ (Zpe h.ok he)
 have a:=(Tree.pp (Zob h.ok he)).2
 change(mX m=true->mX (Mo m e).1=true)/\(Mo m e).1.A1=m.A1/\_ at a
 have e1:Pd m e=((Q1 m e).2,(Q1 m e).1):=by
  simp only[Pd,UA,Tree.m,df,FR,h.CN];rfl
 rw[Zay h.v e,e1]at a
 exact⟨⟨o,a.1 h.may⟩,a.2.1⟩
theorem JD:mJ m=false↔m.A6=false/\pH m=false/\m.A1<1152921504606846976:=by
 simp only[mJ,Jz,Tree.m,df,h.CN]
 cases m.A6<;>cases pH m<;>simp
theorem JE(hs:mJ m=false)(hc:U clock):eu P (fe m clock).2/\(fe m clock).2.A1=m.A1+1/\(fe m clock).1.length<=1:=by
 have o:=Tree.post _ (Xu h.ok hc)
 change(fe m clock).1.length<=1/\nN P (fe m clock).2/\(fe m clock).2.A1=wrap .u64 (m.A1+1)at o
 have s:=(Tree.pp (qi h.s h.ok.lM hc)).2
 change _/\Good P m (Bb m clock).1 at s
 have e:Bb m clock=((fe m clock).2,(fe m clock).1):=by rw[Zh4 h.v,YI,hs];rfl
 rw[e]at s
 have Ou:=((JD h).1 hs).2.2
 have h0:=h.ok.lM
 refine⟨⟨o.2.1,s.2.may h.may⟩,?_,o.1⟩
 rw[o.2.2,wrap_u64];omega
end
structure oH(P:Nat)(k:Int)(r:dj):Prop where
 m:eu P r.A0
 clock:U r.B4
 lM:r.A0.A1<=k
theorem Z3p(h:oH P k r){e:ib}(he:U e.N):oH P k (nq r e)/\(nq r e).A0.A1=r.A0.A1:=by
 obtain⟨a,b⟩:=UE h.m he
 have hc:=h.lM
 unfold nq
 cases(Q1 r.A0 e).1
 ·exact⟨⟨a,h.clock,by show(Q1 r.A0 e).2.A1<=k;omega⟩,b⟩
 ·exact⟨⟨a,h.clock,by show(Q1 r.A0 e).2.A1<=k;omega⟩,b⟩
theorem Zc1(h:oH P k r):oH P k (kX r)/\(kX r).A0.A1=r.A0.A1:=by
 unfold kX
 cases JB r.A0.A9 r.B4
 ·exact⟨h,rfl⟩
 ·exact Z3p h ey
theorem Zah(h:oH P k r)(hs:mJ r.A0=false):oH P (k+1) (ED r):=by
 obtain⟨a,b,_⟩:=JE h.m hs h.clock
 have hc:=h.lM
 exact⟨a,fm _,by show(fe r.A0 r.B4).2.A1<=k+1;omega⟩
theorem qm(n:Nat):∀{k:Int} {r:dj} {o:List dk},oH P k r->oH P (k+n) (iS n r o).1:=by
 induction n with
 |zero=>intro k r o h;exact⟨h.m,h.clock,by have:=h.lM;show r.A0.A1<=k+(0:Nat);omega⟩
 |succ n ih=>
  intro k r o h
  obtain⟨f,fc⟩:=Zc1 h
  unfold iS
  cases hs:mJ (kX r).A0
  ·have t:=ih (o:=o++(fe (kX r).A0 (kX r).B4).1) (Zah f hs)
   exact⟨t.m,t.clock,by have:=t.lM;show(iS n _ _).1.A0.A1<=_;omega⟩
  ·exact⟨f.m,f.clock,by have:=f.lM;show(kX r).A0.A1<=_;omega⟩
theorem Za4(l:List ib):∀{r:dj},oH P k r->(∀q∈l,U q.N)->oH P k (l.foldl nq r)/\(l.foldl nq r).B1=r.B1:=by
 induction l with
 |nil=>intro r h _;exact⟨h,rfl⟩
 |cons e l ih=>
  intro r h hu
  obtain⟨a,b⟩:=ih (Z3p h (hu e (by simp))).1 (λq hq=>hu q (by simp[hq]))
  exact⟨a,b.trans (YR r e)⟩
theorem Zr2(n:Nat):∀(r:dj) (o:List dk),(iS n r o).1.B1=r.B1:=by
 induction n with
 |zero=>intro r o;rfl
 |succ n ih=>
  intro r o
  have f:(kX r).B1=r.B1:=by
   unfold kX;cases JB r.A0.A9 r.B4
   ·rfl
   ·exact YR _ _
  unfold iS
  cases mJ (kX r).A0
  ·exact(ih _ _).trans f
  ·exact f
def Bc(l:List ib):Prop:=l.length<=16/\∀q∈l,U q.N
theorem Zh6(h:oH P k r)(hq:Bc r.B1)(steps:Int)(hc:U clock):oH P (k+4000) (lQ r steps clock).1/\Bc (lQ r steps clock).1.B1:=by
 obtain⟨l0,l1⟩:=Tv steps
 unfold lQ
 rw[h.m.CN]
 have gl:U (if clock>r.B4 then clock else r.B4):=by split<;>first|exact hc|exact h.clock
 obtain⟨a,b⟩:=Za4 r.B1 (r:={A0:=r.A0,B4:=if clock>r.B4 then clock else r.B4,C8:=r.C8,B1:=r.B1}) ⟨h.m,gl,h.lM⟩ hq.2
 have c:=qm (ra steps).toNat (o:=[]) (r:=JC (r.B1.foldl nq {A0:=r.A0,B4:=if clock>r.B4 then clock else r.B4,C8:=r.C8,B1:=r.B1})) ⟨a.m,a.clock,a.lM⟩
 refine⟨⟨c.m,c.clock,?_⟩,?_⟩
 ·have:=c.lM
  show(iS _ _ _).1.A0.A1<=_
  omega
 ·show Bc (iS _ _ _).1.B1
  rw[Zr2];exact⟨aT _,λq hq=>by cases hq⟩
theorem xm(n:Int):U (Ph n).N:=Tree.post _ (zC n)
theorem YT(r:dj)(e:ib):EE r e=bif !Qe e then(r,false)else bif e.C0==1 then(r,false)else bif decide ((r.B1.length:Int)>=16)then(r,false)else({A0:=r.A0,B4:=r.B4,C8:=r.C8,B1:=r.B1++[e]},true):=by
 simp only[EE,Mw,Tree.m,df,Zp7]
theorem Z3v(h:oH P k r)(hq:Bc r.B1){e:ib}(he:U e.N):oH P k (EE r e).1/\Bc (EE r e).1.B1:=by
 rw[YT]
 cases Qe e
 ·exact⟨h,hq⟩
 ·cases e.C0==1
  ·cases hl:decide ((r.B1.length:Int)>=16)
   ·have hl:=oN hl
    refine⟨⟨h.m,h.clock,h.lM⟩,?_,λq hm=>?_⟩
    ·show(r.B1++[e]).length<=16
     rw[lA,cZ];omega
    ·have hm:q∈r.B1++[e]:=hm
     rcases List.mem_append.1 hm with hm|hm
     ·exact hq.2 q hm
     ·rw[List.mem_singleton.1 hm];exact he
   ·exact⟨h,hq⟩
  ·exact⟨h,hq⟩
theorem YU{n:Int}(h:(dE (Bd n 3) 3==0)=true):w6 r n=((EE r (Ph n)).1,[]):=by
 show Tree.V (FD r n) (λx=>x=((EE r (Ph n)).1,[]))
 unfold FD
 refine du λx0 e0=>da (λ_=>ft (du λx1 e1=>ft (du λx2 e2=>c7 ?_))) (λhb=>?_)
 ·rw[e2,e1]
 ·rw[e0,h]at hb;cases hb
theorem YV{n:Int}(h:(dE (Bd n 3) 3==0)=false):w6 r n=UD r (w7 (bg .i64 (Bd n 3) 4) 12) (wrap .u32 (bd .i64 (bg .i64 (Bd n 3) 12) 255)):=by
 show Tree.V (FD r n) (λx=>x=UD r (w7 (bg .i64 (Bd n 3) 4) 12) (wrap .u32 (bd .i64 (bg .i64 (Bd n 3) 12) 255)))
 unfold FD
 refine du λx0 e0=>da (λhb=>?_) (λ_=>ft (du λx1 e1=>ft (du λx2 e2=>c7 ?_)))
 ·rw[e0,h]at hb;cases hb
 ·rw[e2,e1,e0]
theorem zm(h:oH P k A.1/\Bc A.1.B1):oH P (k+4000) (A.1,([]:List dk)).1/\Bc (A.1,([]:List dk)).1.B1:=
 ⟨⟨h.1.m,h.1.clock,by have:=h.1.lM;show A.1.A0.A1<=_;omega⟩,h.2⟩
theorem Zt4(h:oH P k r)(hq:Bc r.B1)(n:Int):oH P (k+4000) (w6 r n).1/\Bc (w6 r n).1.B1:=by
 cases hm:dE (Bd n 3) 3==0
 ·rw[YV hm,YS _ _ _ (by have:=hq.1;omega)]
  exact Zh6 h hq _ (fm _)
 ·rw[YU hm]
  exact zm (Z3v h hq (xm n))
def tX(s:dj×List dk)(n:Int):dj×List dk:=((w6 s.1 n).1,s.2++(w6 s.1 n).2)
theorem xas(m:av)(l:List Int)(hl:l.length<=1000000):YW m l=l.foldl tX (Mx m,[]):=by
 show Tree.V (I6 m l) (λx=>x=l.foldl tX (Mx m,[]))
 unfold I6
 refine ft (du λx0 e0=>?_)
 subst e0
 refine rK (inv:=λz:Int×dj×List dk=>0<=z.1/\z.1<=l.length/\(l.drop z.1.toNat).foldl tX z.2=l.foldl tX (Mx m,[])) (μ:=Xy m l) ⟨cW 0,by show(0:Int)<=_;omega,rfl⟩ (cO _) λz ⟨z0,z1,z2⟩=>?_
 obtain⟨i,r,o⟩:=z
 have z0:0<=i:=z0
 have z1:i<=l.length:=z1
 refine da (λhb=>kb (ft (du λx1 e1=>kb (pI ?_)))) (λhb=>c7 ?_)
 ·have hb:i<l.length:=oY hb
  have ew:i64.wrap (i+1)=i+1:=by rw[wrap_i64];omega
  have bz:i.toNat<l.length:=by omega
  show(0<=i64.wrap (i+1)/\i64.wrap (i+1)<=l.length/\(l.drop (i64.wrap (i+1)).toNat).foldl tX (x1.1,o++x1.2)=_)/\(l.length-i64.wrap (i+1)).toNat<(l.length-i).toNat
  rw[ew]
  refine⟨⟨by omega,by omega,?_⟩,by omega⟩
  rw[<-z2]
  show _=(l.drop i.toNat).foldl tX (r,o)
  rw[aB bz,aD,show(i+1).toNat=i.toNat+1 by omega,e1]
  have ed:l.getD i.toNat 0=l[i.toNat]:=by rw[cP,cG bz];rfl
  rw[show tX (r,o) l[i.toNat]=((w6 r l[i.toNat]).1,o++(w6 r l[i.toNat]).2) from by unfold tX;rfl,<-ed]
 ·have hb:¬i<l.length:=oN hb
  show(r,o)=_
  rw[<-z2]
  show _=(l.drop i.toNat).foldl tX (r,o)
  rw[aA (by omega)];rfl
theorem ym(s:dj×List dk)(n:Int):tX s n=((w6 s.1 n).1,s.2++(w6 s.1 n).2):=by unfold tX;rfl
theorem qn{σ:Type}{f:σ->Int->σ}{I:Int->σ->Prop}(hf:∀k s n,I k s->I (k+4000) (f s n))(l:List Int):∀k s,I k s->I (k+4000*l.length) (l.foldl f s):=by
 induction l with
 |nil=>intro k s h;simpa using h
 |cons n l ih=>
  intro k s h
  have:=ih _ _ (hf k s n h)
  rw[aD,dI]
  rwa [show k+4000*((l.length+1:Nat):Int)=k+4000+4000*l.length by omega]
theorem xn(m:av):Mx m={A0:=m,B4:=0,C8:=[],B1:=[]}:=by
 simp only[Mx,Lq,Tree.m,df,FR]
theorem YX{i:List Int}(hu:∀w∈i,U w)(hl:i.length<=256):eu 8 (lz 8 4 i).1/\(lz 8 4 i).1.A1=0:=by
 obtain⟨a,b⟩:=(Tree.pp (sW i hu hl)).2
 change nN 8 (lz 8 4 i).1 at a
 refine⟨⟨a,?_⟩,b⟩
 have e:(lz 8 4 i).2=true:=by
  have w:i64.wrap (8*32)=256:=by decide
  simp only[lz,Ei,Tree.m,w,df,dN (show¬((i.length:Int)>256) by omega)]
  rfl
 obtain⟨a1,a2,a3,a4,a5,a6⟩:=zaT 8 4 i e
 exact(xaT _ 8 4 a1 a2 a3 a4 a5 _ a6).1
theorem zn(h:eu 8 m)(hc:m.A1<=87):Tree.V (FA m [] 87) (λx=>x.2.2.2=0->eu 8 x.1/\x.1.A1<=87):=by
 have z:∀{k:Int} {p:Prop},k≠0->k=0->p:=λa b=>absurd b a
 unfold FA
 refine du λx0 _=>da (λ_=>c7 (z (by decide))) λ_=>da (λ_=>c7 (z (by decide))) λ_=>da (λ_=>c7 (z (by decide))) λ_=>ft (du λx1 _=>da (λ_=>c7 (z (by decide))) λ_=>ft (du λx2 hx=>?_))
 rw[FR]at hx
 refine rK (inv:=λv:av×List dk=>eu 8 v.1/\v.1.A1<=87) (μ:=TA m [] 87) ⟨by rw[hx];exact h,by rw[hx];exact hc⟩ (cO _) λv0 ⟨a1,a3⟩=>?_
 have a2:=a1.ok.lM
 refine da (λhb=>da (λhm=>?_) (λ_=>c7 λ_=>⟨a1,a3⟩)) (λ_=>c7 λ_=>⟨a1,a3⟩)
 have hb:=oY hb
 have hm:=oY hm
 refine rK (inv:=λ_=>True) (μ:=TB m [] 87 v0) trivial (cO _) λv1 _=>?_
 refine da (λ_=>c7 λ_=>⟨a1,a3⟩) λhh=>ft (du λx3 h3=>da (λ_=>c7 λ_=>⟨a1,a3⟩) λhi=>ft (du λx4 _=>da (λ_=>c7 (z (by decide))) λ_=>ft (du λx5 h5=>kb (pI ?_))))
 obtain⟨b1,b2,_⟩:=JE a1 ((JD a1).2 ⟨hh,h3.symm.trans hi,hm⟩) (clock:=0) ey
 rw[<-h5]at b1 b2
 show(eu 8 x5.2/\x5.2.A1<=87)/\(87-x5.2.A1).toNat<(87-v0.1.A1).toNat
 exact⟨⟨b1,by omega⟩,by omega⟩
theorem Z0m(kind:Int)(l:List Int)(hl:l.length*8<=reachBytes)(YY:l.length<=60):eu 8 (FV kind l)/\(FV kind l).A1<=87:=by
 show Tree.V (FC kind l) (λm=>eu 8 m/\m.A1<=87)
 have code:=(Tree.pp (Tt l hl)).2
 change((My l).length:Int)=l.length/\∀w∈My l,U w at code
 obtain⟨b1,b2⟩:=code
 unfold FC
 refine ft (du λx0 nO=>da (λ_=>ft (du λx1 e1=>?_)) (λhk=>?_))
 ·have eb:x1.1=lL:=by rw[e1];rfl
  obtain⟨q1,q2⟩:lL.length<=160/\∀w∈lL,U w:=TE
  refine rK (inv:=λv:List Int=>v.length<=160/\v=lL++cQ (v.length-lL.length) 0) (μ:=TH kind l) ⟨by rw[eb];exact q1,by rw[eb];simp⟩ (cO _) λv0 ⟨a1,a2⟩=>?_
  have a3:lL.length<=v0.length:=by rw[a2,lA];omega
  refine da (λhb=>?_) (λhb=>?_)
  ·have hb:=oY hb
   refine kb (pI ?_)
   show(_/\_)/\(_:Nat)<_
   refine⟨⟨by rw[lA,cZ];omega,?_⟩,by show 160-(v0++[0]).length<160-v0.length;rw[lA,cZ];omega⟩
   show v0++[0]=lL++cQ ((v0++[0]).length-lL.length) 0
   rw[lA,cZ,show v0.length+1-lL.length=(v0.length-lL.length)+1 by omega,List.replicate_succ',<-fG,<-a2]
  ·have hb:=oN hb
   have hv:v0=Ej:=by
    unfold Ej
    rw[show(160:Nat)=v0.length by omega]
    exact a2
   subst hv
   have hp:=xal
   have hu0:∀w∈Ej,U w:=λw hw=>(List.mem_append.1 hw).elim (q2 w) (wT _ w)
   refine ft (du λx2 e2=>kb ?_)
   rw[<-e2]at b1 b2
   have hu:∀w∈Ej++x2,U w:=λw hw=>(List.mem_append.1 hw).elim (hu0 w) (b2 w)
   have hlen:(Ej++x2).length<=256:=by rw[lA];omega
   refine da (λhb=>?_) (λhb=>?_)
   ·have hb:=oY hb;omega
   ·obtain⟨c1,c2⟩:=YX hu hlen
    refine ft (du λx3 h3=>?_)
    rw[<-h3]at c1 c2
    have rn:=zn c1 (by omega)
    refine da (λ_=>ft (du λx4 hx=>c7 ?_)) (λ_=>c7 ⟨c1,by omega⟩)
    have e:x3=lz 8 4 (Ej++(x2++cQ (96-x2.length) 0)):=by
     rw[h3]
     have UF:(x2++cQ (96-x2.length) (0:Int)).length=96:=by rw[lA,cV];omega
     refine zal _ _ hlen (by rw[lA,UF];omega) ?_
     rw[lA,lA,UF,hp,fG,fG,fG,show 256-(160+96)=0 by omega,show 256-(160+x2.length)=96-x2.length by omega]
     simp
    have h0:x4.2.2.2=0:=by
     rw[hx,e]
     exact qaG _ (by rw[lA,cV];omega)
    exact(by rw[hx];exact rn:x4.2.2.2=0->eu 8 x4.1/\x4.1.A1<=87) h0
 ·have hk:=oN hk
  refine ft (du λx2 e2=>kb ?_)
  rw[<-e2]at b1 b2
  refine da (λhb=>?_) (λhb=>?_)
  ·have hb:=oY hb;omega
  ·obtain⟨c1,c2⟩:=YX b2 (by omega)
   refine ft (du λx3 h3=>?_)
   rw[<-h3]at c1 c2
   exact da (λh=>absurd (eq_of_beq h) (by omega)) (λ_=>c7 ⟨c1,by omega⟩)
theorem Zrv(w:Int):wrap .i64 (rI w).1.bo=(rI w).1.bo:=by
 show Tree.V (Hd w) (λr=>wrap .i64 r.1.bo=r.1.bo)
 have e:∀x,wrap .i64 (wrap .i32 x)=wrap .i32 x:=λx=>by rw[wrap_i64,wrap_i32];omega
 unfold Hd
 refine du λx0 _=>?_
 have l:∀i:gw,wrap .i64 i.bo=i.bo->Tree.V (Tree.lv (Er i) λx=>.br (!x) (.lf ((⟨0,0,0,0,0⟩:gw),false)) (.lf (i,true))) (λr=>wrap .i64 r.1.bo=r.1.bo):=λi hi=>du λx hx=>da (λ_=>c7 rfl) (λhb=>c7 hi)
 exact da (λ_=>c7 rfl) (λ_=>da (λ_=>l _ rfl) (λ_=>da (λ_=>l _ (e _)) (λ_=>da (λ_=>l _ (e _)) (λ_=>l _ (e _)))))
def CO(e:kT):Bool:=bif e.C0==1 then e.D1==2 else false
def uT(c:bm)(m:List Int):Bool:=
 bif bd .u32 c.B3.a0 1==0 then false else bif(kW m c.Pc 4).2 then bif(rI (kW m c.Pc 4).1).2 then bif(rI (kW m c.Pc 4).1).1.Op==60 then(rI (kW m c.Pc 4).1).1.bo==2 else false else false else false
theorem yn(m:av):lU m=uT (mf m) m.Mem:=rfl
theorem zaL(c:bm)(i:gw):CO (Ug c i).2=(bif i.Op==60 then wrap .i64 i.bo==2 else false):=by
 show Tree.V (JF c i) (λr=>CO r.2=_)
 have no:∀{k:Int},i.Op=k->k≠60->∀e:kT,e.C0≠1->CO e=(bif i.Op==60 then wrap .i64 i.bo==2 else false):=λh g e he=>by
  unfold CO
  rw[h,show(_==(60:Int))=false from beq_false_of_ne g,show(e.C0==1)=false from beq_false_of_ne he];rfl
 have eq:∀{k:Int},(i.Op==k)=true->i.Op=k:=λh=>eq_of_beq h
 unfold JF
 refine da (λh=>du λ_ _=>c7 (no (eq h) (by decide) _ (show(0:Int)≠1 by decide))) λ_=>da (λh=>du λ_ _=>c7 (no (eq h) (by decide) _ (show(0:Int)≠1 by decide))) λ_=>da (λh=>kb (ft (du λ_ _=>c7 (no (eq h) (by decide) _ (show(0:Int)≠1 by decide))))) λ_=>da (λh=>kb (ft (du λ_ _=>c7 (no (eq h) (by decide) _ (show(0:Int)≠1 by decide))))) λ_=>da (λh=>c7 ?_) λrL=>?_
 ·show(bif(1:Int)==1 then wrap .i64 i.bo==2 else false)=_
  rw[h];rfl
 ·have n60:i.Op≠60:=λe=>by rw[e]at rL;cases rL
  refine da (λh=>kb (c7 (no (eq h) (by decide) _ (by show(2:Int)≠1;decide)))) λ_=>da (λh=>c7 (no (eq h) (by decide) _ (show(3:Int)≠1 by decide))) λ_=>da (λh=>c7 (no (eq h) (by decide) _ (show(5:Int)≠1 by decide))) λ_=>da (λh=>c7 (no (eq h) (by decide) _ (show(4:Int)≠1 by decide))) λ_=>c7 (no rfl n60 _ (show(0:Int)≠1 by decide))
theorem vn(c:bm)(m:List Int)(i:gw):CO (o8 c m i).2.1=(bif i.Op==60 then wrap .i64 i.bo==2 else false):=by
 unfold o8
 cases h:decide (i.Op>=56)
 ·have h:=oN h
  rw[show(i.Op==60)=false from beq_false_of_ne (by omega)]
  cases decide (i.Op>=40)<;>cases decide (i.Op>=32)<;>cases i.Op==24<;>cases decide (i.Op<=13)<;>rfl
 ·exact zaL c i
theorem yO{m:List Int}(h:fg P m){c:bm}(hc:iz c)(jZ:c.B3.a0<=31):CO (re c m).2.1=uT c m:=by
 rw[Hn]
 unfold uT
 cases hk:bd .u32 c.B3.a0 1==0
 ·have hp:Ue c=false:=by
   rw[Zbc hc.a0.1 jZ,show Hj c=true from by show(bd .u32 c.B3.a0 1 !=0)=true;rw[bne,hk];rfl]
   rfl
  have wi:=LR h hc.pc (size:=4) (.inr rfl)
  have kn:LX 1=true:=rfl
  have p0:=hc.pc.1
  have tm:dE c.Pc (wrap .u32 4)=c.Pc%4:=by
   rw[show wrap .u32 4=4 from rfl,Int.tmod_eq_emod_of_nonneg p0]
  have rc:lP c m c.Pc 4 1=bif c.Pc%4 !=0 then(0,3,m)else bif !sj m c.Pc 4 then(0,tU 1,m)else(c.Pc,0,m):=by
   simp only[lP,Hk,Tree.m,df,kn,hp,tm]
   rfl
  rw[rc]
  cases h4:(c.Pc%4 !=0)
  ·cases hw:sj m c.Pc 4
   ·have l2:(kW m c.Pc 4).2=false:=by
     simp only[kW,AX,Tree.m,df,hw];rfl
    rw[l2]
    show CO (EA c (0,tU 1,m) _ _).2.1=false
    unfold EA
    rw[show((0,tU 1,m):Int×Int×List Int).2.1=tU 1 from rfl,show(tU 1 !=0)=true by decide]
    rfl
   ·have l2:(kW m c.Pc 4).2=true:=by
     simp only[kW,AX,Tree.m,df,hw];rfl
    rw[l2]
    show CO (EA c (c.Pc,0,m) (kW m c.Pc 4).1 (rI (kW m c.Pc 4).1)).2.1=_
    have im:=Zrv (kW m c.Pc 4).1
    generalize kW m c.Pc 4=x at*
    generalize rI x.1=d at*
    unfold EA
    cases d.2
    ·rfl
    ·rw[hk]
     have:=vn c m d.1
     rw[im]at this
     cases Hb d.1.Op<;>exact this
  ·have hw:sj m c.Pc 4=false:=by
    rw[wi]
    refine dN λe=>?_
    rw[e.1]at h4;cases h4
   have l2:(kW m c.Pc 4).2=false:=by
    simp only[kW,AX,Tree.m,df,hw];rfl
   rw[l2];rfl
 ·have us :∀x w d,CO (EA c x w d).2.1=false:=λx w d=>by
   unfold EA
   cases x.2.1 !=0
   ·cases d.2
    ·rfl
    ·cases hp:Hb d.1.Op
     ·have:=vn c x.2.2 d.1
      rw[show(d.1.Op==60)=false from beq_false_of_ne λe=>by rw[e]at hp;cases hp]at this
      exact this
     ·rw[hk];rfl
   ·rfl
  exact us _ _ _
theorem Zri(h:pF m):Pj m=Hw m:=by
 have rd:Hw m=bif mJ m then false else lU m:=rfl
 have pd:Pj m=bif !AT m then false else CO (wY (nB m).B0 (nB m).Mem).2.2:=rfl
 rw[rd,pd,Uv h]
 cases hs:mJ m
 ·have hr:AT m=true:=by rw[Uv h,hs];rfl
  obtain⟨hm,hh,Ou⟩:=TU hr
  obtain⟨g1,g2,g3,g4,g5⟩:=(G6 m).1 hm
  rcases(O9 m.Mem h.mem).2 with c|⟨P,hP,gz⟩
  ·exact absurd c g1
  have YL:rG P m:=⟨h.lK,gz,h.kQ,h.si,h.tW.1,h.tW.2⟩
  obtain⟨b1,b2,b3,_⟩:=(Tree.pp (XL YL g2)).2
  change mZ (nB m).B0 at b1
  change rG P (nB m)at b2
  have be:=Zb4 h g2.st
  have Uy:mZ (mf m):=by have:=b1;rw[be]at this;exact this
  have Mn:iz (mf m):=by have:=b2.lK;rw[be]at this;exact this
  have ex:=Zkt gz Mn Uy.st
  rw[be,yn,<-yO gz Mn Uy.st]
  show CO (wY (mf m) m.Mem).2.2=_
  rw[ex];rfl
 ·rfl
theorem qat(h:U m.A2.C4):YZ m:=by
 show(Ht m).p
 unfold Tree.p Ht
 refine aa (λ_=>cj ?_ (aq λ_ _=>trivial)) (λ_=>trivial)
 show(Hs m).p
 unfold Tree.p Hs
 exact bh (Zpr h) λ_ _=>trivial
theorem Zoo(h:rG P m):(Pk m).w (λ_=>True):=by
 unfold Pk
 exact bh (XO h.given) λ_ _=>aa (λ_=>trivial) (λ_=>bh (vU h) λx1 h1=>bh (xB h1.lK h1.mem) λx2 _=>aa (λ_=>trivial) (λ_=>trivial))
section
variable {P:Nat} {m:av} (h:eu P m)
include h
theorem eu.len:m.Mem.length<=1024:=by have:=h.ok.mem.len;have:=h.ok.mem.p2;omega
theorem eu.app(e:ib):Mo m e=((Q1 m e).2,(Q1 m e).1):=by
 rw[Zay h.v]
 simp only[Pd,UA,Tree.m,df,FR,h.CN];rfl
theorem eu.step(hs:mJ m=false)(clock:Int):Bb m clock=((fe m clock).2,(fe m clock).1):=by
 rw[Zh4 h.v,YI,hs];rfl
theorem eu.idle:LK m=pH m:=Ziy h.v
end
theorem Zbd(r:dj)(e:ib):(nq r e).C8.length<=r.C8.length+1:=by
 unfold nq
 cases(Q1 r.A0 e).1
 ·exact fH _
 ·show(r.C8++[_]).length<=_
  rw[lA,cZ];omega
theorem qo(r:dj):(kX r).C8.length<=r.C8.length+1:=by
 unfold kX
 cases JB r.A0.A9 r.B4
 ·exact fH _
 ·exact Zbd _ _
theorem xo(r:dj):(FU r).C8.length<=r.C8.length+1:=by
 unfold FU
 cases Hw r.A0
 ·exact fH _
 ·show(r.C8++[_]).length<=_
  rw[lA,cZ];omega
theorem zo(r:dj):(ED r).C8.length<=r.C8.length+1:=xo r
theorem vo(hs:mJ (kX r).A0=true):iS (n+1) r o=(kX r,o):=by
 conv=>lhs;unfold iS
 rw[hs];rfl
theorem qp(hs:mJ (kX r).A0=false):iS (n+1) r o=iS n (ED (kX r)) (o++(fe (kX r).A0 (kX r).B4).1):=by
 conv=>lhs;unfold iS
 rw[hs];rfl
theorem zat(h:o9 r.A0=true)(steps clock:Int):lQ r steps clock=iS (ra steps).toNat (JC (r.B1.foldl nq {A0:=r.A0,B4:=if clock>r.B4 then clock else r.B4,C8:=r.C8,B1:=r.B1})) []:=by
 unfold lQ;rw[h];rfl
structure tY(P:Nat)(k:Int)(r:dj):Prop where
 g:oH P k r
 q:Bc r.B1
 l:(r.C8.length:Int)<=3*k
theorem vO(n:Nat):∀(r:dj) (o:List dk),(iS n r o).1.C8.length<=r.C8.length+2*n:=by
 induction n with
 |zero=>intro r o;exact aO _
 |succ n ih=>
  intro r o
  have f:=qo r
  cases hs:mJ (kX r).A0
  ·rw[qp hs]
   have:=ih (ED (kX r)) (o++(fe (kX r).A0 (kX r).B4).1)
   have:=zo (kX r)
   omega
  ·rw[vo hs]
   show(kX r).C8.length<=_
   omega
theorem xp(l:List ib):∀r:dj,(l.foldl nq r).C8.length<=r.C8.length+l.length:=by
 induction l with
 |nil=>intro r;exact aO _
 |cons e l ih=>
  intro r
  have:=ih (nq r e)
  have:=Zbd r e
  rw[aD,dI];omega
theorem qP(r:dj)(steps clock:Int):(lQ r steps clock).1.C8.length<=r.C8.length+r.B1.length+8000:=by
 obtain⟨l0,l1⟩:=Tv steps
 cases hm:o9 r.A0
 ·unfold lQ;rw[hm]
  show r.C8.length<=_
  omega
 ·rw[zat hm]
  have a:=vO (ra steps).toNat (JC (r.B1.foldl nq {A0:=r.A0,B4:=if clock>r.B4 then clock else r.B4,C8:=r.C8,B1:=r.B1})) []
  have b:=xp r.B1 {A0:=r.A0,B4:=if clock>r.B4 then clock else r.B4,C8:=r.C8,B1:=r.B1}
  have b:(JC (r.B1.foldl nq {A0:=r.A0,B4:=if clock>r.B4 then clock else r.B4,C8:=r.C8,B1:=r.B1})).C8.length<=r.C8.length+r.B1.length:=b
  omega
theorem Y0(h:tY P k r)(steps:Int)(hc:U clock):tY P (k+4000) (lQ r steps clock).1:=by
 obtain⟨a,b⟩:=Zh6 h.g h.q steps hc
 have c:=qP r steps clock
 have d:=h.q.1
 have e:=h.l
 exact⟨a,b,by omega⟩
theorem FW(h:tY P k r){e:ib}(he:U e.N):tY P k (EE r e).1:=by
 obtain⟨a,b⟩:=Z3v h.g h.q he
 refine⟨a,b,?_⟩
 have:=h.l
 rw[YT]
 cases Qe e<;>cases e.C0==1<;>cases decide ((r.B1.length:Int)>=16)<;>exact this
theorem tY.more(h:tY P k r)(hj:k<=j):tY P j r:=
 ⟨⟨h.g.m,h.g.clock,by have:=h.g.lM;omega⟩,h.q,by have:=h.l;omega⟩
theorem xaL(h:tY P k A.1):tY P (k+4000) (A.1,([]:List dk)).1:=h.more (by omega)
theorem JG(h:tY P k r)(n:Int):tY P (k+4000) (w6 r n).1:=by
 cases hm:dE (Bd n 3) 3==0
 ·rw[YV hm,YS _ _ _ (by have:=h.q.1;omega)]
  exact Y0 h _ (fm _)
 ·rw[YU hm]
  exact xaL (FW h (xm n))
theorem qaM{α β:Type}(a:α)(b:β):(a,b).1=a:=rfl
theorem Zhj(s:dj×List dk)(n:Int):(tX s n).1=(w6 s.1 n).1:=(congrArg Prod.fst (ym s n)).trans (qaM _ _)
theorem Pl(l:List Int){s:dj×List dk}(h:tY P k s.1):tY P (k+4000*l.length) (l.foldl tX s).1:=
 qn (f:=tX) (I:=λk s=>tY P k s.1) (λk s n h=>by rw[Zhj];exact JG h n) l k s h
theorem JH(h:eu P m)(hc:m.A1<=87):tY P 87 {A0:=m,B4:=0,C8:=[],B1:=[]}:=
 ⟨⟨h,ey,hc⟩,⟨aT _,λq hq=>by cases hq⟩,by show((0:Nat):Int)<=_;omega⟩
theorem xat{l Be:List Int}(hl:l.length*8<=reachBytes)(YY:l.length<=60)(h30:Be.length<=30){β:Type}{W:β->Prop}{k:av->dj×List dk->Tree β}
 (g:∀m x,m=FV kind l->eu 8 m->m.A1<=87->x=Be.foldl tX ({A0:=m,B4:=0,C8:=[],B1:=[]},[])->tY 8 121000 x.1->(k m x).w W):
 (Tree.an (Y1 kind l) (.lv (FV kind l) λm=>.an (Qmu m Be) (.lv (YW m Be) λx=>k m x))).w W:=by
 obtain⟨a,b⟩:=Z0m kind l hl YY
 refine cj (Tree.pp (Zgk kind l hl)).1 (aq λm hm=>?_)
 rw[<-hm]at a b
 refine cj (Tree.pp (xaF a.ok Be h30)).1 (aq λx hx=>?_)
 rw[xas _ _ (by omega),xn]at hx
 refine g m x hm a b hx ?_
 have:=Pl Be (s:=({A0:=m,B4:=0,C8:=[],B1:=[]},[])) (JH a b)
 rw[hx]
 exact this.more (by omega)
structure JI(m:av):Prop where
 dl:U m.A9.C3
 bl:U m.A7.ag
 st: -9223372036854775808<=m.A7.B8/\m.A7.B8<9223372036854775808
 cm: -9223372036854775808<=m.A7.D5/\m.A7.D5<9223372036854775808
 ct:0<=m.A1/\m.A1<18446744073709551616
theorem jK.rfl:∀{l:List D},jK l l
 |[]=>trivial
 |_::_=>⟨h8.rfl,jK.rfl⟩
theorem jK.append:∀{a b a' b':List D},jK a a'->jK b b'->jK (a++b) (a'++b')
 |[],_,[],_,_,h=>h
 |_::_,_,_::_,_,h,g=>⟨h.1,jK.append h.2 g⟩
 |[],_,_::_,_,h,_=>h.elim
 |_::_,_,[],_,h,_=>h.elim
def pb(n:Nat):List Int:=if h:n<128 then[(n:Int)]else((n%128+128:Nat):Int)::pb (n/128)
termination_by n
decreasing_by omega
theorem Mz(h:n<128):pb n=[(n:Int)]:=by unfold pb;rw[dif_pos h]
theorem zp(h:¬n<128):pb n=((n%128+128:Nat):Int)::pb (n/128):=by
 conv=>lhs;unfold pb
 rw[dif_neg h]
theorem UG:∀(k n:Nat),n<128^(k+1)->(pb n).length<=k+1
 |0,n,h=>by rw[Mz (by simpa using h)];exact aO _
 |k +1,n,h=>by
  by_cases g:n<128
  ·rw[Mz g];exact Nat.le_add_left _ _
  ·rw[zp g,dI]
   have:=UG k (n/128) (by rw[Nat.pow_succ]at h;exact Nat.div_lt_of_lt_mul (by rw[Nat.mul_comm];exact h))
   omega
def pJ(x:Int):List UInt8:=bytesOf (pb x.toNat)
theorem Y2:∀s:List UInt8,bytesOf (iW s)=s
 |[]=>rfl
 |b::s=>by
  show UInt8.ofNat ((b.toNat:Int)).toNat::bytesOf (iW s)=_
  rw[Y2 s,eD,UInt8.ofNat_toNat]
theorem Pm:∀n:Fin 256,ij .u8 (n.val:Int) 128=((n.val%128+128:Nat):Int):=by decide
theorem Zpz(h:0<=x):ij .u8 (wrap .u8 x) 128=((x.toNat%128+128:Nat):Int):=by
 have e:wrap .u8 x=((x.toNat%256:Nat):Int):=by rw[wrap_u8];omega
 rw[e]
 have:=Pm ⟨x.toNat%256,Nat.mod_lt _ (by decide)⟩
 rw[this]
 show((x.toNat%256%128+128:Nat):Int)=_
 omega
theorem Pn(h:0<=x):bg .u64 x 7=((x.toNat/128:Nat):Int):=by
 have:bg .u64 x 7=x.fdiv 128:=rfl
 rw[this,Int.fdiv_eq_ediv_of_nonneg _ (by decide)];omega
theorem zaM(h0:0<=x)(h1:x<18446744073709551616):(Po x).w (λs=>s=pJ x):=by
 have hl:=UG 9 x.toNat (by rw[show(128:Nat)^(9+1)=1180591620717411303424 by decide];omega)
 unfold Po
 refine fi (inv:=λv:Int×List Int=>0<=v.1/\v.2++pb v.1.toNat=pb x.toNat) (μ:=Qfq x) ⟨h0,rfl⟩ (cO _) λv ⟨a,b⟩=>?_
 obtain⟨y,o⟩:=v
 have a:0<=y:=a
 have b:o++pb y.toNat=pb x.toNat:=b
 have bl:=congrArg dK b
 rw[lA]at bl
 refine aa (λhb=>?_) (λhb=>?_)
 ·have hb:y>=128:=oY hb
  have g:¬y.toNat<128:=by omega
  rw[zp g]at b bl
  rw[dI]at bl
  refine au (dY (by show 1*(o.length+1)<=_;omega)) (ea ?_)
  show(0<=bg .u64 y 7/\(o++[ij .u8 (wrap .u8 y) 128])++pb (bg .u64 y 7).toNat=pb x.toNat)/\(bg .u64 y 7).toNat<y.toNat
  rw[Pn a,Zpz a,eD]
  refine⟨⟨by omega,?_⟩,by omega⟩
  rw[fG];exact b
 ·have hb:¬y>=128:=oN hb
  have g:y.toNat<128:=by omega
  rw[Mz g]at b bl
  refine au (dY (by show 1*(o.length+1)<=_;rw[cZ]at bl;omega)) ?_
  show bytesOf (o++[wrap .u8 y])=pJ x
  unfold pJ
  rw[<-b,show wrap .u8 y=((y.toNat:Nat):Int) by rw[wrap_u8];omega]
theorem rh(h1:x<18446744073709551616):(pJ x).length<=10:=by
 unfold pJ bytesOf
 rw[fI]
 exact UG 9 x.toNat (by rw[show(128:Nat)^(9+1)=1180591620717411303424 by decide];omega)
def jT(l:List Int):List UInt8:=l.flatMap pJ
theorem EF:∀{l:List Int},(∀x∈l,x<18446744073709551616)->(jT l).length<=10*l.length
 |[],_=>aO _
 |x::l,h=>by
  have a:=rh (h x (by simp))
  have b:=EF (l:=l) λy hy=>h y (by simp[hy])
  show(pJ x++jT l).length<=_
  rw[lA,dI];omega
theorem JJ(x:Int)(l:List Int):jT (x::l)=pJ x++jT l:=rfl
theorem yp(l m:List Int):jT (l++m)=jT l++jT m:=List.flatMap_append
theorem Zoc{b:List Int}{s:List UInt8}(h:b.length+s.length<=1000000):(Pp b s).w (λx=>x.2.2=b++iW s):=by
 unfold Pp
 refine aq λx0 e0=>?_
 have e0:x0=b:=e0
 subst e0
 refine au (dY ?_) rfl
 have:(iW s).length=s.length:=fI ..
 omega
theorem lR(s:List UInt8):(iW s).length=s.length:=fI ..
theorem Pq(s t:List UInt8):iW (s++t)=iW s++iW t:=bL
theorem Pr{l:List Int}{i:Nat}(h:i<l.length):l.getD i 0=l[i]:=by rw[cP,cG h];rfl
theorem JK{c l:List Int}(hl:∀x∈l,0<=x/\x<18446744073709551616)(hc:c.length+10*l.length<=1000000):(Ps c l).w (λx=>x=c++iW (jT l)):=by
 unfold Ps
 refine fi (inv:=λv:Int×List Int=>0<=v.1/\v.1<=l.length/\v.2++iW (jT (l.drop v.1.toNat))=c++iW (jT l)) (μ:=Q91 c l) ⟨cW 0,by show(0:Int)<=_;omega,rfl⟩ (cO _) λv ⟨a1,a2,a3⟩=>?_
 obtain⟨i,o⟩:=v
 have a1:0<=i:=a1
 have a2:i<=l.length:=a2
 have a3:o++iW (jT (l.drop i.toNat))=c++iW (jT l):=a3
 refine aa (λhb=>?_) (λhb=>?_)
 ·have hb:i<l.length:=oY hb
  have bz:i.toNat<l.length:=by omega
  have ew:i64.wrap (i+1)=i+1:=by rw[wrap_i64];omega
  have ed:=Pr bz
  have hm:=hl _ (fJ bz)
  rw[aB bz,JJ,Pq,<-ed]at a3
  rw[<-ed]at hm
  have len:=congrArg dK a3
  rw[lA,lA,lA,lR,lR,lR]at len
  have ul:=EF λy hy=>(hl y hy).2
  refine au (by simp[bJ];omega) (bh (zaM hm.1 hm.2) λx0 e0=>?_)
  rw[e0]
  refine bh (Zoc (b:=o) (s:=pJ (l.getD i.toNat 0)) (by omega)) λx1 e1=>ea ?_
  show(0<=i64.wrap (i+1)/\i64.wrap (i+1)<=l.length/\x1.2.2++iW (jT (l.drop (i64.wrap (i+1)).toNat))=c++iW (jT l))/\(l.length-i64.wrap (i+1)).toNat<(l.length-i).toNat
  rw[ew,e1,show(i+1).toNat=i.toNat+1 by omega,fG]
  exact⟨⟨by omega,by omega,a3⟩,by omega⟩
 ·have hb:¬i<l.length:=oN hb
  rw[aA (by omega)]at a3
  show o=_
  rw[<-a3];exact(cJ o).symm
theorem tZ(h:U x):wrap .u64 x=x:=by have:=h.1;have:=h.2;rw[wrap_u64];omega
theorem CP{c l:List Int}(hl:∀x∈l,U x)(hc:c.length+10*l.length<=900000):(Pt c l).w (λx=>x=c++iW (jT l)):=by
 unfold Pt
 refine fi (inv:=λv:Int×List Int=>0<=v.1/\v.1<=l.length/\v.2++iW (jT (l.drop v.1.toNat))=c++iW (jT l)) (μ:=Qas c l) ⟨cW 0,by show(0:Int)<=_;omega,rfl⟩ (cO _) λv ⟨a1,a2,a3⟩=>?_
 obtain⟨i,o⟩:=v
 have a1:0<=i:=a1
 have a2:i<=l.length:=a2
 have a3:o++iW (jT (l.drop i.toNat))=c++iW (jT l):=a3
 refine aa (λhb=>?_) (λhb=>?_)
 ·have hb:i<l.length:=oY hb
  have bz:i.toNat<l.length:=by omega
  have ew:i64.wrap (i+1)=i+1:=by rw[wrap_i64];omega
  have ed:=Pr bz
  have hm:=hl _ (fJ bz)
  rw[aB bz,JJ,Pq,<-ed]at a3
  rw[<-ed]at hm
  have len:=congrArg dK a3
  rw[lA,lA,lA,lR,lR,lR]at len
  have ul:=EF (l:=l) λy hy=>by have:=(hl y hy).2;omega
  have h2:=hm.2
  refine au (by simp[bJ];omega) (bh (JK (c:=o) (λx hx=>by rw[List.mem_singleton.1 hx,tZ hm];exact⟨hm.1,by omega⟩) (by show o.length+10*1<=_;omega)) λx0 e0=>ea ?_)
  have e0:x0=o++iW (pJ (l.getD i.toNat 0)):=by
   rw[e0,tZ hm,JJ]
   show o++iW (pJ _++[])=_
   rw[cJ]
  show(0<=i64.wrap (i+1)/\i64.wrap (i+1)<=l.length/\x0++iW (jT (l.drop (i64.wrap (i+1)).toNat))=c++iW (jT l))/\(l.length-i64.wrap (i+1)).toNat<(l.length-i).toNat
  rw[ew,e0,show(i+1).toNat=i.toNat+1 by omega,fG]
  exact⟨⟨by omega,by omega,a3⟩,by omega⟩
 ·have hb:¬i<l.length:=oN hb
  rw[aA (by omega)]at a3
  show o=_
  rw[<-a3];exact(cJ o).symm
def sq(b:Bool):Int:=bif b then 1 else 0
theorem MA{c:List Int}(b:Bool)(hc:c.length<=999000):(Pu c b).w (λx=>x=c++iW (jT [sq b])):=by
 unfold Pu
 cases b
 ·exact aa (λh=>by cases h) λ_=>bh (JK (c:=c) (l:=[0]) (λx hx=>by rw[List.mem_singleton.1 hx];decide) (by show c.length+10*1<=_;omega)) λx e=>e
 ·exact aa (λ_=>bh (JK (c:=c) (l:=[1]) (λx hx=>by rw[List.mem_singleton.1 hx];decide) (by show c.length+10*1<=_;omega)) λx e=>e) λh=>by cases h
def FX(s:List UInt8):List UInt8:=pJ s.length++s
theorem Zpo{c:List Int}{s:List UInt8}(hc:c.length+s.length<=900000):(Pv c s).w (λx=>x=c++iW (FX s)):=by
 have ew:wrap .u64 ((s.length:Nat):Int)=s.length:=by rw[wrap_u64];omega
 have hu:=rh (x:=(s.length:Int)) (by omega)
 unfold Pv
 refine bh (JK (c:=c) (λx hx=>by rw[List.mem_singleton.1 hx,ew];omega) (by show c.length+10*1<=_;omega)) λx0 e0=>?_
 rw[ew]at e0
 have e0:x0=c++iW (pJ s.length):=by
  rw[e0,JJ]
  show c++iW (pJ _++[])=_
  rw[cJ]
 refine bh (Zoc (by rw[e0,lA,lR];omega)) λx1 e1=>?_
 show x1.2.2=_
 rw[e1,e0]
 unfold FX
 rw[Pq,fG]
def pK(m:av):List Int:=gn.l m.B0.X++(m.B0.Pc::A8.l m.B0.B3)++[(m.Mem.length:Int)]
def JL(m:av):List Int:=[sq m.A9.D3,m.A9.C3,sq m.A9.D2,m.A7.ag,m.A7.C2,m.A7.Frame,wrap .u64 m.A7.B8,wrap .u64 m.A7.D5,m.A7.B6,m.A7.B2]
def JM(m:av):List Int:=[m.C1.Frame,m.C1.D9,sq m.C1.C5,m.C1.B9,sq m.C1.B5,m.C1.F0,m.A2.C7,m.A2.C4,m.A1,sq m.A4,sq m.A6]
def nS(m:av):List UInt8:=jT (pK m)++(jT m.Mem++(FX m.A3.C9++(jT (JL m)++(FX m.A7.B7++jT (JM m)))))
theorem Zoj(hv:pF m)(hr:JI m)(hm:m.Mem.length<=1100)(hk:m.A3.C9.length<=100000)(ho:m.A7.B7.length<=100000):(Pw m).w (λs=>s=nS m/\s.length<=400000):=by
 obtain⟨c1,c2,c3⟩:=hv.lK
 obtain⟨d1,d2,d3,d4⟩:=hv.kQ
 obtain⟨n1,n2,n3,n4⟩:=hv.si
 obtain⟨b1,b2⟩:=hv.tW
 obtain⟨r1,r2,r3,r4,r5⟩:=hr
 have one:∀{x:Int},U x->∀y∈[x],U y:=λh y hy=>by rw[List.mem_singleton.1 hy];exact h
 have kl:∀{s:List UInt8},s.length<=100000->(FX s).length<=10+s.length:=fun{s} h=>by
  have:=rh (x:=(s.length:Int)) (by omega)
  unfold FX;rw[lA];omega
 have k1:=kl hk
 have k2:=kl ho
 have ws:∀{l:List Int},(∀x∈l,U x)->(jT l).length<=10*l.length:=λh=>EF λy hy=>by have:=(h y hy).2;omega
 have W:∀{x:Int},0<=wrap .u64 x/\wrap .u64 x<18446744073709551616:=fun{x}=>by rw[wrap_u64];omega
 have fl:∀b:Bool,(jT [sq b]).length<=10:=λb=>EF (l:=[sq b]) λy hy=>by rw[List.mem_singleton.1 hy];cases b<;>decide
 have ml:=ws hv.mem
 have eL:wrap .u64 ((m.Mem.length:Nat):Int)=m.Mem.length:=by rw[wrap_u64];omega
 have U3:∀x∈[m.A7.ag,m.A7.C2,m.A7.Frame],U x:=λx hx=>by
  simp only[cS,cU,or_false]at hx
  rcases hx with rfl|rfl|rfl<;>assumption
 have U2:∀{a b:Int},U a->U b->∀x∈[a,b],U x:=λha hb x hx=>by
  simp only[cS,cU,or_false]at hx
  rcases hx with rfl|rfl<;>assumption
 have S2:∀x∈[wrap .u64 m.A7.B8,wrap .u64 m.A7.D5],0<=x/\x<18446744073709551616:=λx hx=>by
  simp only[cS,cU,or_false]at hx
  rcases hx with rfl|rfl<;>exact W
 have sl:=EF (l:=[wrap .u64 m.A7.B8,wrap .u64 m.A7.D5]) λx hx=>(S2 x hx).2
 have L16:=ws (l:=gn.l m.B0.X) c1
 have L8:=ws (l:=A8.l m.B0.B3) c3
 have JN:(gn.l m.B0.X).length=16:=rfl
 have l8:(A8.l m.B0.B3).length=8:=rfl
 have p1:=ws (one c2)
 have e1:=EF (l:=[(m.Mem.length:Int)]) λx hx=>by rw[List.mem_singleton.1 hx];omega
 have q1:=ws (one r1)
 have q2:=ws U3
 have q3:=ws (U2 d3 d4)
 have q4:=ws (U2 n1 n2)
 have q5:=ws (one n3)
 have q6:=ws (one n4)
 have q7:=ws (U2 b1 b2)
 have q8:=EF (l:=[m.A1]) λx hx=>by rw[List.mem_singleton.1 hx];exact r5.2
 have f1:=fl m.A9.D3
 have f2:=fl m.A9.D2
 have f3:=fl m.C1.C5
 have f4:=fl m.C1.B5
 have f5:=fl m.A4
 have f6:=fl m.A6
 simp only[dI,dJ]at sl p1 e1 q1 q2 q3 q4 q5 q6 q7 q8
 unfold Pw
 refine bh (CP (c:=[]) (l:=gn.l m.B0.X) c1 (by rw[JN];decide)) λx0 g0=>?_
 have z0:x0.length<=160:=by rw[g0,lA,lR];show 0+_<=_;omega
 refine bh (CP (one c2) (by show x0.length+10*1<=_;omega)) λx1 g1=>?_
 have z1:x1.length<=170:=by rw[g1,lA,lR];omega
 refine bh (CP (l:=A8.l m.B0.B3) c3 (by rw[l8];omega)) λx2 g2=>?_
 have z2:x2.length<=250:=by rw[g2,lA,lR];omega
 rw[eL]
 refine bh (JK (l:=[(m.Mem.length:Int)]) (λx hx=>by rw[List.mem_singleton.1 hx];omega) (by show x2.length+10*1<=_;omega)) λx3 g3=>?_
 have z3:x3.length<=260:=by rw[g3,lA,lR];omega
 refine bh (CP hv.mem (by omega)) λx4 g4=>?_
 have z4:x4.length<=11500:=by rw[g4,lA,lR];omega
 refine bh (Zpo (s:=m.A3.C9) (by omega)) λx5 g5=>?_
 have z5:x5.length<=111510:=by rw[g5,lA,lR];omega
 refine bh (MA m.A9.D3 (by omega)) λx6 g6=>?_
 have z6:x6.length<=111520:=by rw[g6,lA,lR];omega
 refine bh (CP (one r1) (by show x6.length+10*1<=_;omega)) λx7 g7=>?_
 have z7:x7.length<=111530:=by rw[g7,lA,lR];omega
 refine bh (MA m.A9.D2 (by omega)) λx8 g8=>?_
 have z8:x8.length<=111540:=by rw[g8,lA,lR];omega
 refine bh (CP U3 (by show x8.length+10*3<=_;omega)) λx9 g9=>?_
 have z9:x9.length<=111570:=by rw[g9,lA,lR];omega
 refine bh (JK S2 (by show x9.length+10*2<=_;omega)) λjc g10=>?_
 have z10:jc.length<=111590:=by rw[g10,lA,lR];omega
 refine bh (CP (U2 d3 d4) (by show jc.length+10*2<=_;omega)) λjM g11=>?_
 have z11:jM.length<=111610:=by rw[g11,lA,lR];omega
 refine bh (Zpo (s:=m.A7.B7) (by omega)) λjz g12=>?_
 have z12:jz.length<=211620:=by rw[g12,lA,lR];omega
 refine bh (CP (U2 n1 n2) (by show jz.length+10*2<=_;omega)) λjN g13=>?_
 have z13:jN.length<=211640:=by rw[g13,lA,lR];omega
 refine bh (MA m.C1.C5 (by omega)) λmg g14=>?_
 have z14:mg.length<=211650:=by rw[g14,lA,lR];omega
 refine bh (CP (one n3) (by show mg.length+10*1<=_;omega)) λoI g15=>?_
 have z15:oI.length<=211660:=by rw[g15,lA,lR];omega
 refine bh (MA m.C1.B5 (by omega)) λmK g16=>?_
 have z16:mK.length<=211670:=by rw[g16,lA,lR];omega
 refine bh (CP (one n4) (by show mK.length+10*1<=_;omega)) λpf g17=>?_
 have z17:pf.length<=211680:=by rw[g17,lA,lR];omega
 refine bh (CP (U2 b1 b2) (by show pf.length+10*2<=_;omega)) λri g18=>?_
 have z18:ri.length<=211700:=by rw[g18,lA,lR];omega
 refine bh (JK (l:=[m.A1]) (λx hx=>by rw[List.mem_singleton.1 hx];exact r5) (by show ri.length+10*1<=_;omega)) λuU g19=>?_
 have z19:uU.length<=211710:=by rw[g19,lA,lR];omega
 refine bh (MA m.A4 (by omega)) λw9 g20=>?_
 have z20:w9.length<=211720:=by rw[g20,lA,lR];omega
 refine bh (MA m.A6 (by omega)) λsr g21=>?_
 have z21:sr.length<=211730:=by rw[g21,lA,lR];omega
 refine aq λss e=>?_
 have e:ss.1=bytesOf sr:=congrArg Prod.fst e
 show ss.1=nS m/\ss.1.length<=400000
 rw[e]
 refine⟨?_,by show(sr.map _).length<=_;rw[fI];omega⟩
 rw[g21,g20,g19,g18,g17,g16,g15,g14,g13,g12,g11,g10,g9,g8,g7,g6,g5,g4,g3,g2,g1,g0]
 simp only[fK,<-Pq,Y2]
 unfold nS pK JL JM
 simp only[yp,JJ,fG,fK,show jT []=[] from rfl,cJ]
structure kq(m:av):Prop where
 dl:U m.A9.C3
 bl:U m.A7.ag
theorem Zsq(d:fv)(m:List Int)(port v cr:Int):(O4 d m port v cr).1.ag=d.ag:=by
 show Tree.V (Hp d m port v cr) (λr=>r.1.ag=d.ag)
 unfold Hp
 repeat'(first
  |exact c7 rfl
  |exact du λ_ _=>c7 rfl
  |refine da (λ_=>?_) (λ_=>?_)
  |refine ft ?_
  |refine du λ_ _=>?_)
theorem vp(d:fv)(m:List Int)(e:ib):(Jv d m e).1.ag=d.ag:=by
 show Tree.V (Hq d m e) (λr=>r.1.ag=d.ag)
 unfold Hq
 repeat'(first
  |exact c7 rfl
  |refine da (λ_=>?_) (λ_=>?_)
  |refine ft ?_
  |refine du λ_ _=>?_)
theorem qau(t:iZ):(Uz t).1.C3=t.C3:=by
 show Tree.V (UH t) (λr=>r.1.C3=t.C3)
 unfold UH
 exact da (λ_=>c7 rfl) λ_=>c7 rfl
theorem xaM{v:Int}(hv:U v):U (O1 v).C3:=by
 show Tree.V (O2 v) (λr=>U r.C3)
 unfold O2
 exact da (λ_=>c7 ey) λ_=>c7 hv
theorem Px(h:kq m)(port clock:Int):kq (w5 m port clock).2:=by
 show Tree.V (Qf m port clock) (λr=>kq r.2)
 unfold Qf
 repeat'(first
  |exact c7 h
  |exact c7 ⟨h.dl,h.bl⟩
  |refine da (λ_=>?_) (λ_=>?_)
  |refine du λ_ _=>?_)
theorem qaN(h:kq m)(port:Int){v:Int}(hv:U v):kq (Ba m port v).2:=by
 show Tree.V (Fy m port v) (λr=>kq r.2)
 unfold Fy
 refine da (λ_=>c7 h) λ_=>da (λ_=>c7 h) λ_=>da (λ_=>du λx ex=>c7 ⟨by rw[ex];exact xaM hv,h.bl⟩) λ_=>da (λ_=>ft (du λx ex=>c7 ⟨h.dl,by show U x.1.ag;rw[ex,Zsq];exact h.bl⟩)) λ_=>da (λ_=>ft (du λx ex=>c7 ⟨h.dl,h.bl⟩)) λ_=>ft (du λx ex=>c7 ⟨h.dl,h.bl⟩)
theorem vZ(g:eu P m)(h:kq m)(clock:Int):kq (fe m clock).2:=by
 have ic:iz (mf m):=(Tree.pp (Ty g.ok.lK)).2
 have dv:U (re (mf m) m.Mem).2.1.Value:=(Tree.pp (Fz ic g.ok.mem)).2.2.1
 rw[yZ]
 generalize re (mf m) m.Mem=D at*
 have w:kq (CL m D.1 D.2.2):=⟨h.dl,h.bl⟩
 have i:=Px w D.2.1.D1 clock
 have o:=qaN w D.2.1.D1 dv
 unfold CM
 cases D.2.1.C0==1
 ·cases D.2.1.C0==2
  ·cases D.2.1.C0==3
   ·cases D.2.1.C0==4
    ·exact⟨h.dl,h.bl⟩
    ·exact⟨h.dl,h.bl⟩
   ·exact⟨h.dl,h.bl⟩
  ·exact⟨o.dl,o.bl⟩
 ·exact⟨i.dl,i.bl⟩
theorem zaN(h:kq m)(e:ib):kq (Q1 m e).2:=by
 show Tree.V (FT m e) (λr=>kq r.2)
 unfold FT
 repeat'(first
  |exact c7 h
  |exact c7 ⟨h.dl,h.bl⟩
  |exact du λx ex=>c7 ⟨by rw[ex,qau];exact h.dl,h.bl⟩
  |exact ft (du λx ex=>c7 ⟨h.dl,by show U x.1.ag;rw[ex,vp];exact h.bl⟩)
  |exact ft (du λx ex=>c7 ⟨h.dl,h.bl⟩)
  |refine da (λ_=>?_) (λ_=>?_))
theorem xaN(i:List Int):kq (lz 8 4 i).1:=by
 show Tree.V (Ei 8 4 i) (λx=>kq x.1)
 unfold Ei
 repeat'(first
  |exact c7 ⟨ey,ey⟩
  |exact c7 ⟨ey,fm _⟩
  |refine da (λ_=>?_) (λ_=>?_)
  |refine ft ?_
  |refine du λ_ _=>?_)
theorem zau(h:eu 8 m)(d:kq m):Tree.V (FA m [] 87) (λx=>kq x.1):=by
 have z:∀{x:av},x.A9.C3=0->x.A7.ag=0->kq x:=λa b=>⟨a▸ey,b▸ey⟩
 unfold FA
 refine du λx0 _=>da (λ_=>c7 (z rfl rfl)) λ_=>da (λ_=>c7 (z rfl rfl)) λ_=>da (λ_=>c7 (z rfl rfl)) λ_=>ft (du λx1 _=>da (λ_=>c7 (z rfl rfl)) λ_=>ft (du λx2 hx=>?_))
 rw[FR]at hx
 refine rK (inv:=λv:av×List dk=>eu 8 v.1/\kq v.1) (μ:=TA m [] 87) ⟨by rw[hx];exact h,by rw[hx];exact d⟩ (cO _) λv0 ⟨a1,a3⟩=>?_
 have a2:=a1.ok.lM
 refine da (λhb=>da (λhm=>?_) (λ_=>c7 a3)) (λ_=>c7 a3)
 have hb:=oY hb
 have hm:=oY hm
 refine rK (inv:=λ_=>True) (μ:=TB m [] 87 v0) trivial (cO _) λv1 _=>?_
 refine da (λ_=>c7 a3) λhh=>ft (du λx3 h3=>da (λ_=>c7 a3) λhi=>ft (du λx4 _=>da (λ_=>c7 (z rfl rfl)) λ_=>ft (du λx5 h5=>kb (pI ?_))))
 obtain⟨b1,b2,_⟩:=JE a1 ((JD a1).2 ⟨hh,h3.symm.trans hi,hm⟩) (clock:=0) ey
 have b3:=vZ a1 a3 0
 rw[<-h5]at b1 b2 b3
 show(eu 8 x5.2/\kq x5.2)/\(87-x5.2.A1).toNat<(87-v0.1.A1).toNat
 exact⟨⟨b1,b3⟩,by omega⟩
theorem Zb0(kind:Int)(l:List Int)(hl:l.length*8<=reachBytes)(YY:l.length<=60):kq (FV kind l):=by
 show Tree.V (FC kind l) kq
 have code:=(Tree.pp (Tt l hl)).2
 change((My l).length:Int)=l.length/\∀w∈My l,U w at code
 obtain⟨b1,b2⟩:=code
 unfold FC
 have fin:∀{x3:av×Bool} {i:List Int},x3=lz 8 4 i->(∀w∈i,U w)->i.length<=256->kq x3.1/\kq (I7 x3.1 [] 87).1:=fun{x3 i} e hu hlen=>by
  obtain⟨c1,_⟩:=YX hu hlen
  have d:=xaN i
  rw[<-e]at c1 d
  exact⟨d,zau c1 d⟩
 refine ft (du λx0 nO=>da (λ_=>ft (du λx1 e1=>?_)) (λhk=>?_))
 ·have eb:x1.1=lL:=by rw[e1];rfl
  obtain⟨q1,q2⟩:lL.length<=160/\∀w∈lL,U w:=TE
  refine rK (inv:=λv:List Int=>v.length<=160/\∀w∈v,U w) (μ:=TH kind l) ⟨by rw[eb];exact q1,by rw[eb];exact q2⟩ (cO _) λv0 ⟨a1,a2⟩=>?_
  refine da (λhb=>?_) (λhb=>?_)
  ·have hb:=oY hb
   refine kb (pI ?_)
   show(_/\_)/\(_:Nat)<_
   refine⟨⟨by rw[lA,cZ];omega,λw hw=>?_⟩,by show 160-(v0++[0]).length<160-v0.length;rw[lA,cZ];omega⟩
   rcases List.mem_append.1 hw with hw|hw
   ·exact a2 w hw
   ·rw[List.mem_singleton.1 hw];exact ey
  ·refine ft (du λx2 e2=>kb ?_)
   rw[<-e2]at b1 b2
   have hu:∀w∈v0++x2,U w:=λw hw=>(List.mem_append.1 hw).elim (a2 w) (b2 w)
   have hlen:(v0++x2).length<=256:=by rw[lA];omega
   refine da (λhb=>?_) (λhb=>ft (du λx3 h3=>da (λ_=>ft (du λx4 h4=>c7 (by rw[h4];exact(fin h3 hu hlen).2))) λ_=>c7 (fin h3 hu hlen).1))
   have hb:=oY hb;omega
 ·refine ft (du λx2 e2=>kb ?_)
  rw[<-e2]at b1 b2
  refine da (λhb=>?_) (λhb=>ft (du λx3 h3=>da (λ_=>ft (du λx4 h4=>c7 (by rw[h4];exact(fin h3 b2 (by omega)).2))) λ_=>c7 (fin h3 b2 (by omega)).1))
  have hb:=oY hb;omega
theorem Zqv(d:fv)(c8:Int):kD d c8=true->(0<=d.B8/\d.B8<=3)/\(0<=d.D5/\d.D5<=2)/\d.B7.length<=128:=by
 show Tree.V (wV d c8) (λb=>b=true->(0<=d.B8/\d.B8<=3)/\(0<=d.D5/\d.D5<=2)/\d.B7.length<=128)
 have no:∀{p:Prop},(false=true->p):=λh=>by cases h
 have zero:∀{k:Int},(d.B8==k)=true->(0<=k/\k<=3)->(d.D5==0)=true->decide (d.B7=[])=true->(0<=d.B8/\d.B8<=3)/\(0<=d.D5/\d.D5<=2)/\d.B7.length<=128:=λa b c e=>by
  have a:=eq_of_beq a
  have c:=eq_of_beq c
  have e:=oY e
  exact⟨by omega,by omega,by rw[e];exact aT _⟩
 unfold wV
 refine da (λ_=>c7 no) λ_=>da (λs=>da (λc=>da (λ_=>da (λ_=>c7 (zero s (by decide) c)) λ_=>c7 no) λ_=>c7 no) λ_=>c7 no) λ_=>da (λs=>da (λc=>da (λ_=>da (λ_=>c7 (zero s (by decide) c)) λ_=>c7 no) λ_=>c7 no) λ_=>c7 no) λ_=>da (λs=>da (λc=>da (λ_=>da (λ_=>c7 (zero s (by decide) c)) λ_=>c7 no) λ_=>c7 no) λ_=>c7 no) λ_=>da (λs=>du λx ex=>da (λhx=>?_) λ_=>c7 no) λ_=>c7 no
 have s:=eq_of_beq s
 have cm:Ow d=true->(0<=d.D5/\d.D5<=2)/\d.B7.length<=128:=by
  show Tree.V (Jc d) (λb=>b=true->(0<=d.D5/\d.D5<=2)/\d.B7.length<=128)
  unfold Jc
  refine da (λc=>c7 λe=>?_) λ_=>da (λc=>c7 λe=>?_) λ_=>c7 no
  ·have c:=eq_of_beq c
   have e:=oY e
   exact⟨by omega,by rw[e];exact aT _⟩
  ·have c:=eq_of_beq c
   have e:=eq_of_beq e
   exact⟨by omega,by omega⟩
 obtain⟨c1,c2⟩:=cm (by rw[<-ex];exact hx)
 exact da (λ_=>c7 λ_=>⟨by omega,c1,c2⟩) λ_=>c7 no
theorem qq(h:sX m=true):m.A3.C9.length<=16/\(0<=m.A7.B8/\m.A7.B8<=3)/\(0<=m.A7.D5/\m.A7.D5<=2)/\m.A7.B7.length<=128:=by
 have no:∀{p:Prop},(false=true->p):=λh=>by cases h
 refine(show Tree.V (El m) (λb=>b=true->m.A3.C9.length<=16/\(0<=m.A7.B8/\m.A7.B8<=3)/\(0<=m.A7.D5/\m.A7.D5<=2)/\m.A7.B7.length<=128) from ?_) h
 unfold El
 refine du λx0 _=>du λx1 e1=>da (λh1=>du λx2 _=>da (λ_=>du λx3 e3=>da (λh3=>?_) λ_=>c7 no) λ_=>c7 no) λ_=>c7 no
 have k:m.A3.C9.length<=16:=by
  rw[e1]at h1
  have h1:decide ((m.A3.C9.length:Int)<=16)=true:=h1
  have:=oY h1;omega
 rw[e3]at h3
 have d:=Zqv _ _ h3
 exact du λx4 _=>da (λ_=>ft (du λx5 _=>c7 λ_=>⟨k,d⟩)) λ_=>c7 no
structure CQ(m:av):Prop where
 r:JI m
 k:m.A3.C9.length<=100000
 o:m.A7.B7.length<=100000
theorem Y3(g:eu P m)(d:kq m):CQ m:=by
 obtain⟨_,_,c,_,dv⟩:=(G6 m).1 g.may
 obtain⟨k,s,cm,o⟩:=qq dv
 have c0:=g.ok.lM
 exact⟨⟨d.dl,d.bl,by omega,by omega,by omega⟩,by omega,by omega⟩
theorem Y4(x:Int):0<=wrap .u64 x/\wrap .u64 x<18446744073709551616:=by rw[wrap_u64];omega
theorem JO{y:Int}(h0:0<=y)(h1:y<18446744073709551616):bd .u64 y 127=((y.toNat%128:Nat):Int):=by
 unfold bd
 rw[wrap_u64]
 have e:(dW u64.bits y&&&dW u64.bits 127).toNat=y.toNat%128:=by
  show(dW 64 y&&&dW 64 127).toNat=_
  rw[BitVec.toNat_and,show(dW 64 127).toNat=2^7-1 from rfl,Nat.and_two_pow_sub_one_eq_mod,BitVec.toNat_ofInt]
  omega
 rw[e];omega
theorem Y5(h0:0<=x)(h1:x<18446744073709551616):(Py x).w (λs=>s=pJ x):=by
 have hl:=UG 9 x.toNat (by rw[show(128:Nat)^(9+1)=1180591620717411303424 by decide];omega)
 unfold Py
 refine fi (inv:=λv:Int×List Int=>0<=v.1/\v.1<18446744073709551616/\v.2++pb v.1.toNat=pb x.toNat) (μ:=Qeu x) ⟨h0,h1,rfl⟩ (cO _) λv ⟨a,a2,b⟩=>?_
 obtain⟨y,o⟩:=v
 have a:0<=y:=a
 have a2:y<18446744073709551616:=a2
 have b:o++pb y.toNat=pb x.toNat:=b
 have bl:=congrArg dK b
 rw[lA]at bl
 refine aa (λhb=>?_) (λhb=>?_)
 ·have hb:y>=128:=oY hb
  have g:¬y.toNat<128:=by omega
  rw[zp g]at b bl
  rw[dI]at bl
  refine au (dY (by show 1*(o.length+1)<=_;omega)) (ea ?_)
  show(0<=bg .u64 y 7/\bg .u64 y 7<18446744073709551616/\(o++[ij .u8 (wrap .u8 (bd .u64 y 127)) 128])++pb (bg .u64 y 7).toNat=pb x.toNat)/\(bg .u64 y 7).toNat<y.toNat
  rw[Pn a,JO a a2,Zpz (by omega),eD,eD,Nat.mod_mod]
  refine⟨⟨by omega,by omega,?_⟩,by omega⟩
  rw[fG];exact b
 ·have hb:¬y>=128:=oN hb
  have g:y.toNat<128:=by omega
  rw[Mz g]at b bl
  refine au (dY (by show 1*(o.length+1)<=_;rw[cZ]at bl;omega)) ?_
  show bytesOf (o++[wrap .u8 y])=pJ x
  unfold pJ
  rw[<-b,show wrap .u8 y=((y.toNat:Nat):Int) by rw[wrap_u8];omega]
theorem uV(h0:0<=x)(h1:x<18446744073709551616):(Pz x).w (λs=>s=pJ x):=by
 unfold Pz
 exact bh (Y5 h0 h1) λy hy=>hy
theorem Zon{s:List UInt8}(h:s.length<=1000000):(PA s).w (λx=>x=FX s):=by
 have ew:wrap .u64 ((s.length:Nat):Int)=s.length:=by rw[wrap_u64];omega
 have hu:=rh (x:=(s.length:Int)) (by omega)
 unfold PA
 rw[ew]
 refine bh (Y5 (by omega) (by omega)) λx e=>?_
 subst e
 exact au (dY (by unfold maxLen;omega)) rfl
theorem MB(b:Bool):JP b=jT [sq b]:=by
 cases b
 ·show[(0:UInt8)]=bytesOf (pb 0)++[]
  rw[Mz (by decide)];rfl
 ·show[(1:UInt8)]=bytesOf (pb 1)++[]
  rw[Mz (by decide)];rfl
theorem CR{o L:List Int}(h0:0<=i)(h:i<L.length){p:List Int}(e:o++L.drop i.toNat=p++L):(o++[L.getD i.toNat 0])++L.drop (i+1).toNat=p++L:=by
 have bz:i.toNat<L.length:=by omega
 rw[aB bz,<-Pr bz]at e
 rw[show(i+1).toNat=i.toNat+1 by omega,fG]
 exact e
set_option maxHeartbeats 1000000 in
theorem Zr3(hv:pF m)(hr:JI m)(hm:m.Mem.length<=1100)(hk:m.A3.C9.length<=100000)(ho:m.A7.B7.length<=100000):(PB m).w (λs=>s=nS m/\s.length<=400000):=by
  obtain⟨c1,c2,c3⟩:=hv.lK
  obtain⟨d1,d2,d3,d4⟩:=hv.kQ
  obtain⟨n1,n2,n3,n4⟩:=hv.si
  obtain⟨b1,b2⟩:=hv.tW
  have W: ∀x:Int,0<=wrap .u64 x/\wrap .u64 x<18446744073709551616:=λx=>by rw[wrap_u64];omega
  have uu: ∀{x:Int},U x->0<=wrap .u64 x/\wrap .u64 x<18446744073709551616:=λ_=>W _
  have kl: ∀{s:List UInt8},s.length<=100000->(FX s).length<=100010:=fun{s} h=>by
    have:=rh (x:=(s.length:Int)) (by omega)
    unfold FX;rw[lA];omega
  have fl: ∀b:Bool,(jT [sq b]).length<=10:=λb=>EF (l:=[sq b]) λy hy=>by rw[List.mem_singleton.1 hy];cases b<;>decide
  have JN:(gn.l m.B0.X).length=16:=rfl
  have l8:(A8.l m.B0.B3).length=8:=rfl
  have eL:wrap .u64 ((m.Mem.length:Nat):Int)=m.Mem.length:=by rw[wrap_u64];omega
  have gu: ∀{L:List Int} {i:Int},(∀x∈L,U x)->0<=i->i<L.length->wrap .u64 (L.getD i.toNat 0)=L.getD i.toNat 0:=fun{L i} h h0 h1=>by
    have bz:i.toNat<L.length:=by omega
    rw[Pr bz];exact tZ (h _ (fJ bz))
  have ew: ∀{i:Int},0<=i->i<1000000->i64.wrap (i+1)=i+1:=λh0 h1=>by rw[wrap_i64];omega
  unfold PB
  refine fi (inv:=λv:Int×List Int=>0<=v.1/\v.1<=16/\v.2++(gn.l m.B0.X).drop v.1.toNat=[]++gn.l m.B0.X) (μ:=Qlz m) ⟨cW 0,by decide,rfl⟩ (cO _) λv ⟨a1,a2,a3⟩=> ?_
  obtain⟨i,o⟩:=v
  have a1:0<=i:=a1
  have a2:i<=16:=a2
  have a3:o++(gn.l m.B0.X).drop i.toNat=[]++gn.l m.B0.X:=a3
  have len:=congrArg dK a3
  rw[lA,lA]at len
  refine aa (λhb=> ?_) (λhb=> ?_)
  . have hb:i<16:=oY hb
    refine au (by simp [bJ];omega) (au (dY (by show 8*(o.length+1)<=_;simp only[dJ]at len;omega)) (ea ?_))
    show(0<=i64.wrap (i+1)/\i64.wrap (i+1)<=16/\(o++[wrap .u64 ((gn.l m.B0.X).getD i.toNat 0)])++(gn.l m.B0.X).drop (i64.wrap (i+1)).toNat=[]++gn.l m.B0.X)/\(16-i64.wrap (i+1)).toNat<(16-i).toNat
    rw[ew a1 (by omega),gu c1 a1 (by rw[JN];exact hb)]
    exact⟨⟨by omega,by omega,CR a1 (by rw[JN];exact hb) a3⟩,by omega⟩
  have hb: ¬i<16:=oN hb
  have o1:o=gn.l m.B0.X:=by
    rw[aA (by rw[JN];omega),cJ,fK]at a3;exact a3
  clear len a3
  subst o1
  refine au (dY (by show 8*((gn.l m.B0.X).length+1)<=_;rw[JN];decide)) ?_
  refine fi (inv:=λv:Int×List Int=>0<=v.1/\v.1<=8/\v.2++(A8.l m.B0.B3).drop v.1.toNat=(gn.l m.B0.X++[m.B0.Pc])++A8.l m.B0.B3) (μ:=Ql6 m) ⟨cW 0,by show(0:Int)<=8;decide,by show(gn.l m.B0.X++[wrap .u64 m.B0.Pc])++A8.l m.B0.B3=_;rw[tZ c2]⟩ (cO _) λv ⟨a1,a2,a3⟩=> ?_
  obtain⟨i,o⟩:=v
  have a1:0<=i:=a1
  have a2:i<=8:=a2
  have a3:o++(A8.l m.B0.B3).drop i.toNat=(gn.l m.B0.X++[m.B0.Pc])++A8.l m.B0.B3:=a3
  have len:=congrArg dK a3
  simp only[lA,JN,l8,cZ]at len
  refine aa (λhb=> ?_) (λhb=> ?_)
  . have hb:i<8:=oY hb
    refine au (by simp [bJ];omega) (au (dY (by show 8*(o.length+1)<=_;omega)) (ea ?_))
    show(0<=i64.wrap (i+1)/\i64.wrap (i+1)<=8/\(o++[wrap .u64 ((A8.l m.B0.B3).getD i.toNat 0)])++(A8.l m.B0.B3).drop (i64.wrap (i+1)).toNat=(gn.l m.B0.X++[m.B0.Pc])++A8.l m.B0.B3)/\(8-i64.wrap (i+1)).toNat<(8-i).toNat
    rw[ew a1 (by omega),gu c3 a1 (by rw[l8];exact hb)]
    exact⟨⟨by omega,by omega,CR a1 (by rw[l8];exact hb) a3⟩,by omega⟩
  have hb: ¬i<8:=oN hb
  have o1:o=(gn.l m.B0.X++[m.B0.Pc])++A8.l m.B0.B3:=by
    rw[aA (by rw[l8];omega),cJ]at a3;exact a3
  clear a3
  refine au (dY (by show 8*(o.length+1)<=_;omega)) ?_
  have e1:o++[(m.Mem.length:Int)]=pK m:=by
    rw[o1];unfold pK
    rw[fG (gn.l m.B0.X)];rfl
  have z1:(pK m).length=26:=by rfl
  refine fi (inv:=λv:Int×List Int=>0<=v.1/\v.1<=m.Mem.length/\v.2++m.Mem.drop v.1.toNat=pK m++m.Mem) (μ:=Qlh m) ⟨cW 0,by show(0:Int)<=_;omega,by show(o++[wrap .u64 ((m.Mem.length:Nat):Int)])++m.Mem=_;rw[eL,e1]⟩ (cO _) λv ⟨a1,a2,a3⟩=> ?_
  obtain⟨i,o⟩:=v
  have a1:0<=i:=a1
  have a2:i<=m.Mem.length:=a2
  have a3:o++m.Mem.drop i.toNat=pK m++m.Mem:=a3
  have len:=congrArg dK a3
  rw[lA,lA,z1]at len
  refine aa (λhb=> ?_) (λhb=> ?_)
  . have hb:i<m.Mem.length:=oY hb
    refine au (by simp [bJ];omega) (au (dY (by show 8*(o.length+1)<=_;omega)) (ea ?_))
    show(0<=i64.wrap (i+1)/\i64.wrap (i+1)<=m.Mem.length/\(o++[wrap .u64 (m.Mem.getD i.toNat 0)])++m.Mem.drop (i64.wrap (i+1)).toNat=pK m++m.Mem)/\(m.Mem.length-i64.wrap (i+1)).toNat<(m.Mem.length-i).toNat
    rw[ew a1 (by omega),gu hv.mem a1 hb]
    exact⟨⟨by omega,by omega,CR a1 hb a3⟩,by omega⟩
  have hb: ¬i<m.Mem.length:=oN hb
  have o1:o=pK m++m.Mem:=by
    rw[aA (by omega),cJ]at a3;exact a3
  have ol:o.length<=1126:=by rw[o1,lA,z1];omega
  have ox : ∀x∈o,0<=x/\x<18446744073709551616:=λx hx=>by
    rw[o1]at hx
    have q:U x\/x=(m.Mem.length:Int):=by
      unfold pK at hx
      rcases List.mem_append.1 hx with hx|hx
      . rcases List.mem_append.1 hx with hx|hx
        . rcases List.mem_append.1 hx with hx|hx
          . exact .inl (c1 x hx)
          . rcases List.mem_cons.1 hx with hx|hx
            . rw[hx];exact .inl c2
            . exact .inl (c3 x hx)
        . exact .inr (List.mem_singleton.1 hx)
      . exact .inl (hv.mem x hx)
    rcases q with q|q
    . exact⟨q.1,by have:=q.2;omega⟩
    . rw[q];omega
  have ul:=EF λy hy=>(ox y hy).2
  clear a3 len
  refine fi (inv:=λv:Int×List Int=>0<=v.1/\v.1<=o.length/\v.2++iW (jT (o.drop v.1.toNat))=iW (jT o)) (μ:=Ql4 m) ⟨cW 0,by show(0:Int)<=_;omega,rfl⟩ (cO _) λv ⟨a1,a2,a3⟩=> ?_
  obtain⟨i,q⟩:=v
  have a1:0<=i:=a1
  have a2:i<=o.length:=a2
  have a3:q++iW (jT (o.drop i.toNat))=iW (jT o):=a3
  refine aa (λhb=> ?_) (λhb=> ?_)
  . have hb:i<o.length:=oY hb
    have bz:i.toNat<o.length:=by omega
    have ed:=Pr bz
    have Y6:=ox _ (fJ bz)
    rw[aB bz,JJ,Pq,<-ed]at a3
    rw[<-ed]at Y6
    have len:=congrArg dK a3
    rw[lA,lA,lR,lR,lR]at len
    refine au (by simp [bJ];omega) (bh (Y5 Y6.1 Y6.2) λx0 e0=> ?_)
    have e0:x0=pJ (o.getD i.toNat 0):=e0
    rw[e0]
    refine au (dY (by show 1*(q.length+(iW (pJ (o.getD i.toNat 0))).length)<=_;rw[lR];omega)) (ea ?_)
    show(0<=i64.wrap (i+1)/\i64.wrap (i+1)<=o.length/\(q++iW (pJ (o.getD i.toNat 0)))++iW (jT (o.drop (i64.wrap (i+1)).toNat))=iW (jT o))/\(1000000000000-i64.wrap (i+1)).toNat<(1000000000000-i).toNat
    rw[ew a1 (by omega),show(i+1).toNat=i.toNat+1 by omega,fG]
    exact⟨⟨by omega,by omega,a3⟩,by omega⟩
  have hb: ¬i<o.length:=oN hb
  have q1:q=iW (jT o):=by
    rw[aA (by omega)]at a3
    rw[<-a3];exact(cJ q).symm
  clear a3
  have qb:bytesOf q=jT o:=by rw[q1,Y2]
  have zq:(bytesOf q).length<=11500:=by rw[qb];omega
  refine bh (Zon (s:=m.A3.C9) (by omega)) λx1 g1=> ?_
  have z1:x1.length<=100010:=by rw[g1];exact kl hk
  refine aq λx2 g2=> ?_
  have g2:x2=jT [sq m.A9.D3]:=g2.trans (MB _)
  have z2:x2.length<=10:=by rw[g2];exact fl _
  refine au (dY (by(try simp only[lA]);unfold maxLen;omega)) ?_
  refine bh (uV (uu hr.dl).1 (uu hr.dl).2) λx3 g3=> ?_
  rw[tZ hr.dl]at g3
  have z3:x3.length<=10:=by rw[g3];exact rh (by have:=hr.dl.2;omega)
  refine au (dY (by(try simp only[lA]);unfold maxLen;omega)) ?_
  refine aq λx4 g4=> ?_
  have g4:x4=jT [sq m.A9.D2]:=g4.trans (MB _)
  have z4:x4.length<=10:=by rw[g4];exact fl _
  refine au (dY (by(try simp only[lA]);unfold maxLen;omega)) ?_
  refine bh (uV (uu hr.bl).1 (uu hr.bl).2) λx5 g5=> ?_
  rw[tZ hr.bl]at g5
  have z5:x5.length<=10:=by rw[g5];exact rh (by have:=hr.bl.2;omega)
  refine au (dY (by(try simp only[lA]);unfold maxLen;omega)) ?_
  refine bh (uV (uu d1).1 (uu d1).2) λx6 g6=> ?_
  rw[tZ d1]at g6
  have z6:x6.length<=10:=by rw[g6];exact rh (by have:=d1.2;omega)
  refine au (dY (by(try simp only[lA]);unfold maxLen;omega)) ?_
  refine bh (uV (uu d2).1 (uu d2).2) λx7 g7=> ?_
  rw[tZ d2]at g7
  have z7:x7.length<=10:=by rw[g7];exact rh (by have:=d2.2;omega)
  refine au (dY (by(try simp only[lA]);unfold maxLen;omega)) ?_
  refine bh (uV (W _).1 (W _).2) λx8 g8=> ?_
  have z8:x8.length<=10:=by rw[g8];exact rh (W _).2
  refine au (dY (by(try simp only[lA]);unfold maxLen;omega)) ?_
  refine bh (uV (W _).1 (W _).2) λx9 g9=> ?_
  have z9:x9.length<=10:=by rw[g9];exact rh (W _).2
  refine au (dY (by(try simp only[lA]);unfold maxLen;omega)) ?_
  refine bh (uV (uu d3).1 (uu d3).2) λjc g10=> ?_
  rw[tZ d3]at g10
  have z10:jc.length<=10:=by rw[g10];exact rh (by have:=d3.2;omega)
  refine au (dY (by(try simp only[lA]);unfold maxLen;omega)) ?_
  refine bh (uV (uu d4).1 (uu d4).2) λjM g11=> ?_
  rw[tZ d4]at g11
  have z11:jM.length<=10:=by rw[g11];exact rh (by have:=d4.2;omega)
  refine au (dY (by(try simp only[lA]);unfold maxLen;omega)) ?_
  refine bh (Zon (s:=m.A7.B7) (by omega)) λjz g12=> ?_
  have z12:jz.length<=100010:=by rw[g12];exact kl ho
  refine au (dY (by(try simp only[lA]);unfold maxLen;omega)) ?_
  refine bh (uV (uu n1).1 (uu n1).2) λjN g13=> ?_
  rw[tZ n1]at g13
  have z13:jN.length<=10:=by rw[g13];exact rh (by have:=n1.2;omega)
  refine au (dY (by(try simp only[lA]);unfold maxLen;omega)) ?_
  refine bh (uV (uu n2).1 (uu n2).2) λmg g14=> ?_
  rw[tZ n2]at g14
  have z14:mg.length<=10:=by rw[g14];exact rh (by have:=n2.2;omega)
  refine au (dY (by(try simp only[lA]);unfold maxLen;omega)) ?_
  refine aq λoI g15=> ?_
  have g15:oI=jT [sq m.C1.C5]:=g15.trans (MB _)
  have z15:oI.length<=10:=by rw[g15];exact fl _
  refine au (dY (by(try simp only[lA]);unfold maxLen;omega)) ?_
  refine bh (uV (uu n3).1 (uu n3).2) λmK g16=> ?_
  rw[tZ n3]at g16
  have z16:mK.length<=10:=by rw[g16];exact rh (by have:=n3.2;omega)
  refine au (dY (by(try simp only[lA]);unfold maxLen;omega)) ?_
  refine aq λpf g17=> ?_
  have g17:pf=jT [sq m.C1.B5]:=g17.trans (MB _)
  have z17:pf.length<=10:=by rw[g17];exact fl _
  refine au (dY (by(try simp only[lA]);unfold maxLen;omega)) ?_
  refine bh (uV (uu n4).1 (uu n4).2) λri g18=> ?_
  rw[tZ n4]at g18
  have z18:ri.length<=10:=by rw[g18];exact rh (by have:=n4.2;omega)
  refine au (dY (by(try simp only[lA]);unfold maxLen;omega)) ?_
  refine bh (uV (uu b1).1 (uu b1).2) λuU g19=> ?_
  rw[tZ b1]at g19
  have z19:uU.length<=10:=by rw[g19];exact rh (by have:=b1.2;omega)
  refine au (dY (by(try simp only[lA]);unfold maxLen;omega)) ?_
  refine bh (uV (uu b2).1 (uu b2).2) λw9 g20=> ?_
  rw[tZ b2]at g20
  have z20:w9.length<=10:=by rw[g20];exact rh (by have:=b2.2;omega)
  refine au (dY (by(try simp only[lA]);unfold maxLen;omega)) ?_
  refine bh (uV hr.ct.1 hr.ct.2) λsr g21=> ?_
  have z21:sr.length<=10:=by rw[g21];exact rh hr.ct.2
  refine au (dY (by(try simp only[lA]);unfold maxLen;omega)) ?_
  refine aq λss g22=> ?_
  have g22:ss=jT [sq m.A4]:=g22.trans (MB _)
  have z22:ss.length<=10:=by rw[g22];exact fl _
  refine au (dY (by(try simp only[lA]);unfold maxLen;omega)) ?_
  refine aq λBf g23=> ?_
  have g23:Bf=jT [sq m.A6]:=g23.trans (MB _)
  have z23:Bf.length<=10:=by rw[g23];exact fl _
  refine au (dY (by(try simp only[lA]);unfold maxLen;omega)) ?_
  generalize eX:x1++x2++x3++x4++x5++x6++x7++x8++x9++jc++jM++jz++jN++mg++oI++mK++pf++ri++uU++w9++sr++ss++Bf=X
  have zX:X.length<=300400:=by rw[<-eX];simp only[lA];omega
  refine au (dY (by(try simp only[lA]);unfold maxLen;omega)) ?_
  refine(show _/\_ from⟨?_,?_⟩)
  . show bytesOf q++_=_
    rw[<-eX,qb,o1,g1,g2,g3,g4,g5,g6,g7,g8,g9,g10,g11,g12,g13,g14,g15,g16,g17,g18,g19,g20,g21,g22,g23]
    unfold nS JL JM
    simp only[yp,JJ,fG,fK,show jT []=[] from rfl,cJ]
  . show(bytesOf q++_).length<=_
    simp only[lA];omega
theorem xq(h0:Int)(s:List UInt8):PC h0 s=FY h0 s:=rfl
theorem yq(hv:pF m)(e:CQ m)(hm:m.Mem.length<=1100):Y7 m/\Y8 m=FY 14695981039346656037 (nS m):=by
 refine Tree.pp (t:=PD m) (W:=λr=>r=FY 14695981039346656037 (nS m)) ?_
 unfold PD
 exact bh (Zr3 hv e.r hm e.k e.o) λx hx=>cj (show x.length<=1000000000000 by have:=hx.2;omega) (aq λy hy=>dc (by rw[hy,hx.1]))
theorem xau(hv:pF m)(e:CQ m)(hm:m.Mem.length<=1100):UI m/\UJ m=PC 14695981039346656037 (nS m):=by
 refine Tree.pp (t:=PE m) (W:=λr=>r=PC 14695981039346656037 (nS m)) ?_
 unfold PE
 exact bh (Zoj hv e.r hm e.k e.o) λx hx=>cj (show x.length<=1000000000000 by have:=hx.2;omega) (aq λy hy=>dc (by rw[hy,hx.1]))
def kd(r:dj):Prop:=∀e∈r.C8,U e.C6.N
theorem Zif{L:List ep}{x:ep}(h:∀e∈L,U e.C6.N)(hx:U x.C6.N):∀e∈L++[x],U e.C6.N:=λe he=>by
 rcases List.mem_append.1 he with h1|h1
 ·exact h e h1
 ·rw[List.mem_singleton.1 h1];exact hx
theorem vq(h:kd r){e:ib}(he:U e.N):kd (nq r e):=by
 unfold nq
 cases(Q1 r.A0 e).1
 ·exact h
 ·exact Zif h he
theorem v6(h:kd r):kd (kX r):=by
 unfold kX
 cases JB r.A0.A9 r.B4
 ·exact h
 ·exact vq h ey
theorem qaO(h:kd r)(hc:U r.B4):kd (ED r):=by
 show∀e∈(FU r).C8,_
 unfold FU
 cases Hw r.A0
 ·exact h
 ·exact Zif h hc
theorem Hx{P:Nat}:∀(n:Nat) {k:Int} {r:dj} (o:List dk),oH P k r->kd r->kd (iS n r o).1
 |0,_,_,_,_,h=>h
 |n +1,k,r,o,g,h=>by
  obtain⟨gf,_⟩:=Zc1 g
  cases hs:mJ (kX r).A0
  ·rw[qp hs]
   exact Hx n _ (Zah gf hs) (qaO (v6 h) gf.clock)
  ·rw[vo hs];exact v6 h
theorem qr:∀(l:List ib) {r:dj},(∀q∈l,U q.N)->kd r->kd (l.foldl nq r)
 |[],_,_,h=>h
 |e::l,r,hq,h=>qr l (λq hm=>hq q (by simp[hm])) (vq h (hq e (by simp)))
theorem PF(g:oH P k r)(hq:Bc r.B1)(h:kd r)(steps:Int)(hc:U clock):kd (lQ r steps clock).1:=by
 have gl:U (if clock>r.B4 then clock else r.B4):=by split<;>first|exact hc|exact g.clock
 obtain⟨a,b⟩:=Za4 r.B1 (r:={A0:=r.A0,B4:=if clock>r.B4 then clock else r.B4,C8:=r.C8,B1:=r.B1}) ⟨g.m,gl,g.lM⟩ hq.2
 unfold lQ
 rw[g.m.CN]
 exact Hx _ [] (r:=JC _) ⟨a.m,a.clock,a.lM⟩ (qr r.B1 (r:={A0:=r.A0,B4:=if clock>r.B4 then clock else r.B4,C8:=r.C8,B1:=r.B1}) hq.2 h)
theorem PG(h:kd r)(e:ib):kd (EE r e).1:=by
 rw[YT]
 cases Qe e<;>cases e.C0==1<;>cases decide ((r.B1.length:Int)>=16)<;>exact h
theorem Y9(h:kd A.1):kd (A.1,([]:List dk)).1:=h
theorem qav(g:oH P k r)(hq:Bc r.B1)(h:kd r)(n:Int):kd (w6 r n).1:=by
 cases hm:dE (Bd n 3) 3==0
 ·rw[YV hm,YS _ _ _ (by have:=hq.1;omega)]
  exact PF g hq h _ (fm _)
 ·rw[YU hm]
  exact Y9 (A:=EE r (Ph n)) (PG h _)
theorem y7{P:Nat}:∀(l:List Int) {k:Int} {s:dj×List dk},oH P k s.1->Bc s.1.B1->kd s.1->kd (l.foldl tX s).1
 |[],_,_,_,_,h=>h
 |n::l,k,s,g,hq,h=>by
  rw[aD]
  have a:=Zt4 g hq n
  have b:=qav g hq h n
  rw[<-Zhj]at a b
  exact y7 l a.1 a.2 b
theorem Zu{l:List ep}{i:Nat}(h:i<l.length):l.getD i (RK.cw RK.ab)=l[i]:=by
 rw[cP,cG h];rfl
abbrev iT:=av×List dk×Int×Int
def kF:av:={B0:={X:={a0:=0,a1:=0,a2:=0,a3:=0,a4:=0,a5:=0,a6:=0,a7:=0,a8:=0,a9:=0,kv:=0,ky:=0,a12:=0,kz:=0,kA:=0,kB:=0},Pc:=0,B3:={a0:=0,a1:=0,a2:=0,a3:=0,a4:=0,a5:=0,a6:=0,a7:=0}},Mem:=[],A3:={C9:=[]},A9:={D3:=false,C3:=0,D2:=false},A7:={ag:=0,C2:=0,Frame:=0,B8:=0,D5:=0,B6:=0,B2:=0,B7:=[]},C1:={Frame:=0,D9:=0,C5:=false,B9:=0,B5:=false,F0:=0},A2:={C7:=0,C4:=0},A1:=0,A4:=false,A6:=false}
def gd(s:List ep)(i:Int):ep:=s.getD i.toNat (RK.cw RK.ab)
def kK(s:List ep):Nat->Int->av->Int×av
 |0,i,y=>(i,y)
 |n+1,i,y=>bif(decide (i<(s.length:Int))&&(((gd s i).At==y.A1)&&((gd s i).C6.C0 !=1)))then kK s n (i+1) (Q1 y (gd s i).C6).2 else(i,y)
def uW(go:Int->av->List dk->iT)(s:List ep)(i:Int)(y:av)(out:List dk):iT:=
 bif y.A6 then(y,out,i,0)else
 bif pH y then(bif decide (i<(s.length:Int))then(kF,[],0,1303)else(y,out,i,0))else
 bif decide (i<(s.length:Int))then
  (bif((gd s i).At==y.A1)==lU y then
   (bif((gd s i).At==y.A1)then go (i+1) (fe y (gd s i).C6.N).2 (out++(fe y (gd s i).C6.N).1)else go i (fe y 0).2 (out++(fe y 0).1))
  else(kF,[],0,1302))
 else(bif false==lU y then go i (fe y 0).2 (out++(fe y 0).1)else(kF,[],0,1302))
def gx(s:List ep)(u:Int):Nat->Int->av->List dk->iT
 |0,i,x,out=>(x,out,i,0)
 |k+1,i,x,out=>bif decide (x.A1<1152921504606846976)then uW (gx s u k) s (kK s (s.length-i).toNat i x).1 (kK s (s.length-i).toNat i x).2 out else(x,out,i,0)
def Qu(s:List ep)(i:Nat):Bool:=!decide ((s.getD i (RK.cw RK.ab)).At<(s.getD (i-1) (RK.cw RK.ab)).At)&&!(((s.getD i (RK.cw RK.ab)).At==(s.getD (i-1) (RK.cw RK.ab)).At)&&((s.getD (i-1) (RK.cw RK.ab)).C6.C0==1))
def kh(s:List ep):Bool:=decide (∀i,i<s.length->1<=i->Qu s i=true)
def kR(m:av)(s:List ep)(u:Int):Int:=
 if o9 m=false then 1300 else if u<m.A1 then 1300 else if 4000<wrap .u64 (u-m.A1)then 1300 else if 400<s.length then 1300 else if kh s=false then 1301 else if 0<s.length/\(gd s 0).At<m.A1 then 1301 else 0
def bu(m:av)(s:List ep)(u:Int):iT:=if kR m s u=0 then gx s u (u-m.A1).toNat 0 m []else(kF,[],0,kR m s u)
theorem Hy{β:Type}{c1 c2 c3 cc:Bool}{N T:Tree β}{W:β->Prop}(Zv:c1=true->cc=true)(hN:c1=true->c2=true->c3=true->N.w W)(hT:(c1&&(c2&&c3))=false->T.w W):(Tree.br c1 (.cn cc (.br c2 (.cn cc (.br c3 (.cn cc N) T)) T)) T).w W:=by
 refine aa (λh1=>au (Zv h1) (aa (λh2=>au (Zv h1) (aa (λh3=>au (Zv h1) (hN h1 h2 h3)) λh3=>hT (by rw[h1,h2,h3];rfl))) λh2=>hT (by rw[h1,h2];rfl))) λh1=>hT (by rw[h1];rfl)
theorem bn1:∀a b:Bool,(!a==b)=true->(a==b)=false:=by decide
theorem bn2:∀a b:Bool,(!a==b)=false->(a==b)=true:=by decide
theorem bn3:∀a b:Bool,(!b==a)=true->(a==b)=false:=by decide
theorem bn4:∀a b:Bool,(!b==a)=false->(a==b)=true:=by decide
theorem Zw{s:List ep}(h:kh s=true):∀i:Nat,i<s.length->1<=i->Qu s i=true:=oY h
theorem xr{s:List ep}(h:kh s=true):∀i:Nat,i<s.length->(gd s 0).At<=(s.getD i (RK.cw RK.ab)).At:=by
 intro i
 induction i with
 |zero=>intro _;exact cW _
 |succ i ih=>
  intro hi
  have h1:=Zw h (i+1) hi (by omega)
  have h2:=ih (by omega)
  unfold Qu at h1
  rw[aE]at h1
  have h3:decide ((s.getD (i+1) (RK.cw RK.ab)).At<(s.getD i (RK.cw RK.ab)).At)=false:=by simpa using h1.1
  have h3:=oN h3
  omega
theorem Z7s{s:List ep}(hl:s.length<=1000000):(MC s).w (λb=>b=kh s):=by
 unfold MC
 refine fi (inv:=λz:Int=>1<=z/\(z<=s.length\/z=1)/\∀j:Nat,(j:Int)<z->1<=j->Qu s j=true) (μ:=MD s) ⟨cW 1,.inr rfl,λj h1 h2=>by omega⟩ (cO _) λi ⟨a,b,c⟩=>?_
 have ew:i64.wrap (i+1)=i+1:=by rw[wrap_i64];omega
 have em:i64.wrap (i-1)=i-1:=by rw[wrap_i64];omega
 refine aa (λhb=>?_) (λhb=>dc ?_)
 rotate_left
 ·have hb:=oN hb
  exact(dY λj h1 h2=>c j (by omega) h2).symm
 have hb:i<s.length:=oY hb
 have e1:(i-1).toNat=i.toNat-1:=by omega
 have no:Qu s i.toNat=false->false=kh s:=λh=>(dN λk=>by rw[k i.toNat (by omega) (by omega)]at h;cases h).symm
 have nx:Qu s i.toNat=true->(1<=i64.wrap (i+1)/\(i64.wrap (i+1)<=s.length\/i64.wrap (i+1)=1)/\∀j:Nat,(j:Int)<i64.wrap (i+1)->1<=j->Qu s j=true)/\MD s (i64.wrap (i+1))<MD s i:=λh=>by
  show _/\(s.length-i64.wrap (i+1)).toNat<(s.length-i).toNat
  rw[ew]
  refine⟨⟨by omega,by omega,λj h1 h2=>?_⟩,by omega⟩
  by_cases e:(j:Int)<i
  ·exact c j e h2
  ·rw[show j=i.toNat by omega];exact h
 have c1:(bT 4 4&&bJ 0 4&&decide (0<=i64.wrap (i-1)/\i64.wrap (i-1)<(s.length:Int)))=true:=by rw[em];simp[bJ];omega
 have c2:(bT 4 4&&bJ 0 4&&decide (0<=i/\i<(s.length:Int)))=true:=by simp[bJ];omega
 have eP:Qu s i.toNat=(!decide ((s.getD i.toNat (RK.cw RK.ab)).At<(s.getD (i64.wrap (i-1)).toNat (RK.cw RK.ab)).At)&&!(((s.getD i.toNat (RK.cw RK.ab)).At==(s.getD (i64.wrap (i-1)).toNat (RK.cw RK.ab)).At)&&((s.getD (i64.wrap (i-1)).toNat (RK.cw RK.ab)).C6.C0==1))):=by rw[em,e1];rfl
 refine au c2 (au c1 (aa (λh=>dc (no (by rw[eP,h];rfl))) λh=>au c2 (au c1 (aa (λh1=>au c1 (aa (λh2=>dc (no (by rw[eP,h,h1,h2];rfl))) λh2=>ea (nx (by rw[eP,h,h1,h2];rfl)))) λh1=>ea (nx (by rw[eP,h,h1];rfl))))))
theorem Z9v{s:List ep}(hl:s.length<=1000000):(ME s).w (λb=>b=kh s):=by
 unfold ME
 refine fi (inv:=λz:Int=>1<=z/\(z<=s.length\/z=1)/\∀j:Nat,(j:Int)<z->1<=j->Qu s j=true) (μ:=MF s) ⟨cW 1,.inr rfl,λj h1 h2=>by omega⟩ (cO _) λi ⟨a,b,c⟩=>?_
 have ew:i64.wrap (i+1)=i+1:=by rw[wrap_i64];omega
 have em:i64.wrap (i-1)=i-1:=by rw[wrap_i64];omega
 refine aa (λhb=>?_) (λhb=>dc ?_)
 rotate_left
 ·have hb:=oN hb
  exact(dY λj h1 h2=>c j (by omega) h2).symm
 have hb:i<s.length:=oY hb
 have e1:(i-1).toNat=i.toNat-1:=by omega
 have no:Qu s i.toNat=false->false=kh s:=λh=>(dN λk=>by rw[k i.toNat (by omega) (by omega)]at h;cases h).symm
 have nx:Qu s i.toNat=true->(1<=i64.wrap (i+1)/\(i64.wrap (i+1)<=s.length\/i64.wrap (i+1)=1)/\∀j:Nat,(j:Int)<i64.wrap (i+1)->1<=j->Qu s j=true)/\MF s (i64.wrap (i+1))<MF s i:=λh=>by
  show _/\(s.length-i64.wrap (i+1)).toNat<(s.length-i).toNat
  rw[ew]
  refine⟨⟨by omega,by omega,λj h1 h2=>?_⟩,by omega⟩
  by_cases e:(j:Int)<i
  ·exact c j e h2
  ·rw[show j=i.toNat by omega];exact h
 have c1:(bT 4 4&&bJ 0 4&&decide (0<=i64.wrap (i-1)/\i64.wrap (i-1)<(s.length:Int)))=true:=by rw[em];simp[bJ];omega
 have c2:(bT 4 4&&bJ 0 4&&decide (0<=i/\i<(s.length:Int)))=true:=by simp[bJ];omega
 have eP:Qu s i.toNat=(!decide ((s.getD i.toNat (RK.cw RK.ab)).At<(s.getD (i64.wrap (i-1)).toNat (RK.cw RK.ab)).At)&&!(((s.getD i.toNat (RK.cw RK.ab)).At==(s.getD (i64.wrap (i-1)).toNat (RK.cw RK.ab)).At)&&((s.getD (i64.wrap (i-1)).toNat (RK.cw RK.ab)).C6.C0==1))):=by rw[em,e1];rfl
 refine au c1 (au c2 (aa (λh=>dc (no (by rw[eP,h];rfl))) λh=>aa (λh1=>aa (λh2=>dc (no (by rw[eP,h,h1,h2];rfl))) λh2=>ea (nx (by rw[eP,h,h1,h2];rfl))) λh1=>ea (nx (by rw[eP,h,h1];rfl))))
theorem v7(hv:pF m){s:List ep}(hs:s.length<=1000000)(hu:∀e∈s,U e.C6.N){u:Int}(u0:0<=u)(u1:u<18446744073709551616):(PH m s u).w (λr=>r=bu m s u/\r.2.1.length<=4000/\r.1.Mem.length<=1024):=by
 unfold PH
 have m0:=hv.lM
 have er:∀c,kR m s u=c->c≠0->((kF,[],0,c):iT)=bu m s u/\((kF,[],0,c):iT).2.1.length<=4000/\((kF,[],0,c):iT).1.Mem.length<=1024:=λc h1 h2=>⟨by unfold bu;rw[h1,if_neg h2],aT _,aT _⟩
 refine aq λx0 e0=>?_
 refine aa (λh=>dc (er 1300 ?_ (by decide))) λhm=>aa (λh=>dc (er 1300 ?_ (by decide))) λh1=>aa (λh=>dc (er 1300 ?_ (by decide))) λh2=>aa (λh=>dc (er 1300 ?_ (by decide))) λh3=>cj (show s.length<=1000000000000 by omega) (aq λx1 e1=>?_)
 ·unfold kR;rw[if_pos (by rw[<-e0];simpa using h)]
 all_goals have jS:¬o9 m=false:=by rw[<-e0];simpa using hm
 ·unfold kR;rw[if_neg jS,if_pos (oY h)]
 all_goals have ng:¬u<m.A1:=oN h1
 ·unfold kR;rw[if_neg jS,if_neg ng,if_pos (oY h)]
 all_goals have BF:¬4000<wrap .u64 (u-m.A1):=oN h2
 ·unfold kR;rw[if_neg jS,if_neg ng,if_neg BF,if_pos (by have:=oY h;omega)]
 have CS:¬400<s.length:=by have:=oN h3;omega
 have e1:x1=kh s:=by rw[e1];exact Tree.post _ (Z7s (by omega))
 rw[e1]
 refine aa (λh=>dc (er 1301 ?_ (by decide))) λho=>?_
 ·unfold kR;rw[if_neg jS,if_neg ng,if_neg BF,if_neg CS,if_pos (by simpa using h)]
 have jd:¬kh s=false:=by simpa using ho
 have mm:mX m=true:=by rw[Jx hv];simpa using jS
 obtain⟨P,gS,gM⟩:=s9 hv mm
 have g:eu P m:=⟨gM,mm⟩
 have hle:m.A1<=u:=by omega
 have h4:u-m.A1<=4000:=by rw[wrap_u64]at BF;omega
 refine aa (λhl=>au (by have:=oY hl;simp[bJ];omega) (aa (λha=>dc (er 1301 ?_ (by decide))) λha=>?_)) λhl=>?_
 ·have hl:=oY hl
  have ha:(gd s 0).At<m.A1:=oY ha
  unfold kR;rw[if_neg jS,if_neg ng,if_neg BF,if_neg CS,if_neg jd,if_pos ⟨by omega,ha⟩]
 all_goals(
  have h0:kR m s u=0:=by
   have hn:¬(0<s.length/\(gd s 0).At<m.A1):=by
    first
     |(have hl:=oN hl;exact fun⟨q,_⟩=>hl (by omega))
     |(have ha:¬(gd s 0).At<m.A1:=oN ha;exact fun⟨_,q⟩=>ha q)
   unfold kR;rw[if_neg jS,if_neg ng,if_neg BF,if_neg CS,if_neg jd,if_neg hn]
  have CU:gx s u (u-m.A1).toNat 0 m []=bu m s u:=by unfold bu;rw[h0,if_pos rfl]
  generalize bu m s u=kS at CU⊢
  refine cj (Tree.pp (zf gM)).1 (aq λx2 e2=>?_)
  rw[e2,FR]
  refine fi (inv:=λv:Int×av×List dk=>0<=v.1/\v.1<=s.length/\eu P v.2.1/\v.2.1.A1<=u/\(v.2.2.length:Int)<=v.2.1.A1-m.A1/\gx s u (u-v.2.1.A1).toNat v.1 v.2.1 v.2.2=kS) (μ:=Qsx m s u) ⟨cW 0,by show(0:Int)<=_;omega,g,hle,by show((0:Nat):Int)<=m.A1-m.A1;omega,CU⟩ (cO _) λv ⟨a1,a2,a3,a4,a5,a6⟩=>?_
  obtain⟨i0,x,out⟩:=v
  have a1:0<=i0:=a1
  have a2:i0<=s.length:=a2
  have a3:eu P x:=a3
  have a4:x.A1<=u:=a4
  have a5:(out.length:Int)<=x.A1-m.A1:=a5
  have a6:gx s u (u-x.A1).toNat i0 x out=kS:=a6
  refine aa (λhb=>?_) (λhb=>dc ?_)
  rotate_left
  ·have hb:¬x.A1<u:=oN hb
   rw[show(u-x.A1).toNat=0 by omega]at a6
   exact⟨a6,by show out.length<=4000;omega,a3.len⟩
  have hb:x.A1<u:=oY hb
  obtain⟨k,hk⟩:∃k:Nat,(u-x.A1).toNat=k+1:=⟨(u-x.A1).toNat-1,by omega⟩
  rw[hk]at a6
  refine aa (λrL=>?_) (λrL=>dc ?_)
  rotate_left
  ·have ta:(bif decide (x.A1<1152921504606846976)then uW (gx s u k) s (kK s (s.length-i0).toNat i0 x).1 (kK s (s.length-i0).toNat i0 x).2 out else(x,out,i0,0))=kS:=a6
   have rL:decide (x.A1<1152921504606846976)=false:=rL
   rw[rL]at ta
   exact⟨ta,by show out.length<=4000;omega,a3.len⟩
  have ta:(bif decide (x.A1<1152921504606846976)then uW (gx s u k) s (kK s (s.length-i0).toNat i0 x).1 (kK s (s.length-i0).toNat i0 x).2 out else(x,out,i0,0))=kS:=a6
  have CV:decide (x.A1<1152921504606846976)=true:=rL
  rw[CV]at ta
  have ta:uW (gx s u k) s (kK s (s.length-i0).toNat i0 x).1 (kK s (s.length-i0).toNat i0 x).2 out=kS:=ta
  have rL:x.A1<1152921504606846976:=oY CV
  clear a6
  generalize hE:kK s (s.length-i0).toNat i0 x=E at ta
  refine fi (inv:=λw:Int×av=>0<=w.1/\w.1<=s.length/\eu P w.2/\w.2.A1=x.A1/\kK s (s.length-w.1).toNat w.1 w.2=E) (μ:=Qt m s u (i0,x,out)) ⟨a1,a2,a3,rfl,hE⟩ (cO _) λw ⟨b1,b2,b3,b4,b5⟩=>?_
  obtain⟨i,y⟩:=w
  have b1:0<=i:=b1
  have b2:i<=s.length:=b2
  have b3:eu P y:=b3
  have b4:y.A1=x.A1:=b4
  have b5:kK s (s.length-i).toNat i y=E:=b5
  have ew:i64.wrap (i+1)=i+1:=by rw[wrap_i64];omega
  have cc:decide (i<(s.length:Int))=true->(bT 4 4&&bJ 0 4&&decide (0<=i/\i<((s.length:Nat):Int)))=true:=λh=>by have:=oY h;simp[bJ];omega
  have uN:decide (i<(s.length:Int))=true->U (s.getD i.toNat (RK.cw RK.ab)).C6.N:=λh=>by
   have:=oY h
   rw[Zu (show i.toNat<s.length by omega)]
   exact hu _ (fJ _)
  refine Hy (λh=>cc h) (λh1 h2 h3=>?_) λhx=>?_
  ·have hi:=oY h1
   obtain⟨g1,c1⟩:=UE b3 (uN h1)
   refine cj (Tree.pp (Zpe b3.ok (uN h1))).1 (aq λx3 e3=>ea ?_)
   have e3:x3.2=(Q1 y (s.getD i.toNat (RK.cw RK.ab)).C6).2:=by rw[e3]
   show(0<=i64.wrap (i+1)/\i64.wrap (i+1)<=s.length/\eu P x3.2/\x3.2.A1=x.A1/\kK s (s.length-i64.wrap (i+1)).toNat (i64.wrap (i+1)) x3.2=E)/\(s.length-i64.wrap (i+1)).toNat<(s.length-i).toNat
   rw[ew,e3]
   refine⟨⟨by omega,by omega,g1,by rw[c1];exact b4,?_⟩,by omega⟩
   rw[show(s.length-i).toNat=(s.length-(i+1)).toNat+1 by omega]at b5
   have CW:(bif(decide (i<(s.length:Int))&&(((gd s i).At==y.A1)&&((gd s i).C6.C0 !=1)))then kK s (s.length-(i+1)).toNat (i+1) (Q1 y (gd s i).C6).2 else(i,y))=E:=b5
   rw[show(decide (i<(s.length:Int))&&(((gd s i).At==y.A1)&&((gd s i).C6.C0 !=1)))=true by
    have h1:decide (i<(s.length:Int))=true:=h1
    have h2:((gd s i).At==y.A1)=true:=h2
    have h3:((gd s i).C6.C0 !=1)=true:=h3
    rw[h1,h2,h3];rfl]at CW
   exact CW
  have hx:(decide (i<(s.length:Int))&&(((gd s i).At==y.A1)&&((gd s i).C6.C0 !=1)))=false:=hx
  have eE:(i,y)=E:=by
   generalize(s.length-i).toNat=n at b5
   cases n with
   |zero=>exact b5
   |succ n=>
    have CW:(bif(decide (i<(s.length:Int))&&(((gd s i).At==y.A1)&&((gd s i).C6.C0 !=1)))then kK s n (i+1) (Q1 y (gd s i).C6).2 else(i,y))=E:=b5
    rw[hx]at CW;exact CW
  subst eE
  have R0:uW (gx s u k) s i y out=kS:=ta
  unfold uW at R0
  have lo:out.length<=4000:=by omega
  have st:y.A6=false->pH y=false->mJ y=false:=λh1 h2=>(JD b3).2 ⟨h1,h2,by omega⟩
  have fin:∀(c:Int) (j:Int),U c->mJ y=false->0<=j->j<=s.length->gx s u k j (fe y c).2 (out++(fe y c).1)=kS->decide (40*(out.length+(fe y c).1.length)<=140737488355328)=true/\((0<=j/\j<=s.length/\eu P (fe y c).2/\(fe y c).2.A1<=u/\((out++(fe y c).1).length:Int)<=(fe y c).2.A1-m.A1/\gx s u (u-(fe y c).2.A1).toNat j (fe y c).2 (out++(fe y c).1)=kS)/\(u-(fe y c).2.A1).toNat<(u-x.A1).toNat):=λc j hc hs j1 j2 hr=>by
   obtain⟨g1,c1,l1⟩:=JE b3 hs hc
   refine⟨dY (by omega),⟨j1,j2,g1,by omega,by rw[lA];omega,?_⟩,by omega⟩
   rw[show(u-(fe y c).2.A1).toNat=k by omega];exact hr
  refine aa (λhh=>dc ?_) λhh=>cj (Tree.pp (vB y)).1 (aq λx4 e4=>?_)
  ·have hh:y.A6=true:=hh
   rw[hh]at R0
   exact⟨R0,lo,b3.len⟩
  have hh:y.A6=false:=hh
  rw[hh]at R0
  have e4:x4=pH y:=e4
  rw[e4]
  refine aa (λhi=>?_) λhi=>?_
  ·have R1:(bif pH y then(bif decide (i<(s.length:Int))then((kF,[],0,1303):iT)else(y,out,i,0))else _)=kS:=R0
   rw[hi]at R1
   have R1:(bif decide (i<(s.length:Int))then((kF,[],0,1303):iT)else(y,out,i,0))=kS:=R1
   refine aa (λhl=>dc ?_) λhl=>dc ?_
   ·have hl:decide (i<(s.length:Int))=true:=hl
    rw[hl]at R1;exact⟨R1,aT _,aT _⟩
   ·have hl:decide (i<(s.length:Int))=false:=hl
    rw[hl]at R1;exact⟨R1,lo,b3.len⟩
  have sk:=st hh hi
  have R2:(bif decide (i<(s.length:Int))then
   (bif((gd s i).At==y.A1)==lU y then
    (bif((gd s i).At==y.A1)then gx s u k (i+1) (fe y (gd s i).C6.N).2 (out++(fe y (gd s i).C6.N).1)else gx s u k i (fe y 0).2 (out++(fe y 0).1))
   else((kF,[],0,1302):iT))
  else(bif false==lU y then gx s u k i (fe y 0).2 (out++(fe y 0).1)else(kF,[],0,1302)))=kS:=by
   have R1:(bif pH y then(bif decide (i<(s.length:Int))then((kF,[],0,1303):iT)else(y,out,i,0))else _)=kS:=R0
   rw[hi]at R1;exact R1
  clear R0
  have rq:∀z,z=lU y->z=lU y:=λz hz=>hz
  have JQ:∀(c:Int),U c->PI y c:=λc hc=>(Tree.pp (Xu b3.ok hc)).1
  have CX:∀(c:Int) (z:List dk×av),z=fe y c->z.1=(fe y c).1/\z.2=(fe y c).2:=λc z hz=>by rw[hz];exact⟨rfl,rfl⟩
  have FZ:gx s u k i (fe y 0).2 (out++(fe y 0).1)=kS->∀z:List dk×av,z=fe y 0->decide (40*(out.length+z.1.length)<=140737488355328)=true/\((0<=i/\i<=s.length/\eu P z.2/\z.2.A1<=u/\((out++z.1).length:Int)<=z.2.A1-m.A1/\gx s u (u-z.2.A1).toNat i z.2 (out++z.1)=kS)/\(u-z.2.A1).toNat<(u-x.A1).toNat):=λhr z hz=>by
   obtain⟨z1,z2⟩:=CX 0 z hz
   rw[z1,z2]
   exact fin 0 i ey sk b1 b2 hr
  refine aa (λhl=>?_) λhl=>?_
  ·have hl:decide (i<(s.length:Int))=true:=hl
   have iw:=oY hl
   rw[hl]at R2
   have R2:(bif((gd s i).At==y.A1)==lU y then
    (bif((gd s i).At==y.A1)then gx s u k (i+1) (fe y (gd s i).C6.N).2 (out++(fe y (gd s i).C6.N).1)else gx s u k i (fe y 0).2 (out++(fe y 0).1))
   else((kF,[],0,1302):iT))=kS:=R2
   refine au (cc hl) (cj (Tree.pp (TC b3.ok.lK b3.ok.mem)).1 (aq λx5 e5=>?_))
   have e5:=rq x5 e5
   rw[e5]
   refine aa (λhn=>dc ?_) λhn=>?_
   ·have hn:=bn1 ((gd s i).At==y.A1) (lU y) hn
    rw[hn]at R2
    exact⟨R2,aT _,aT _⟩
   have hn:=bn2 ((gd s i).At==y.A1) (lU y) hn
   rw[hn]at R2
   have R2:(bif((gd s i).At==y.A1)then gx s u k (i+1) (fe y (gd s i).C6.N).2 (out++(fe y (gd s i).C6.N).1)else gx s u k i (fe y 0).2 (out++(fe y 0).1))=kS:=R2
   refine aa (λha=>au (cc hl) (cj (JQ _ (uN hl)) (aq λx6 e6=>?_))) λha=>?_
   ·have ha:((gd s i).At==y.A1)=true:=ha
    rw[ha]at R2
    obtain⟨z1,z2⟩:=CX _ x6 e6
    have F:=fin (gd s i).C6.N (i+1) (uN hl) sk (by omega) (by omega) R2
    refine au (by rw[z1];exact F.1) (ea ?_)
    have F2:=F.2
    rw[<-ew]at F2
    show(0<=i64.wrap (i+1)/\i64.wrap (i+1)<=s.length/\eu P x6.2/\x6.2.A1<=u/\((out++x6.1).length:Int)<=x6.2.A1-m.A1/\gx s u (u-x6.2.A1).toNat (i64.wrap (i+1)) x6.2 (out++x6.1)=kS)/\(u-x6.2.A1).toNat<(u-x.A1).toNat
    rw[z1,z2];exact F2
   ·have ha:((gd s i).At==y.A1)=false:=ha
    rw[ha]at R2
    exact cj (JQ _ ey) (aq λx7 e7=>au (FZ R2 x7 e7).1 (ea (FZ R2 x7 e7).2))
  ·have hl:decide (i<(s.length:Int))=false:=hl
   rw[hl]at R2
   have R2:(bif false==lU y then gx s u k i (fe y 0).2 (out++(fe y 0).1)else((kF,[],0,1302):iT))=kS:=R2
   refine cj (Tree.pp (TC b3.ok.lK b3.ok.mem)).1 (aq λx8 e8=>?_)
   have e8:=rq x8 e8
   rw[e8]
   refine aa (λhn=>dc ?_) λhn=>?_
   ·have hn:=bn1 false (lU y) hn
    rw[hn]at R2
    exact⟨R2,aT _,aT _⟩
   have hn:=bn2 false (lU y) hn
   rw[hn]at R2
   exact cj (JQ _ ey) (aq λx7 e7=>au (FZ R2 x7 e7).1 (ea (FZ R2 x7 e7).2)))
theorem PJ(hv:pF m){s:List ep}(hs:s.length<=1000000){u:Int}:(PK m s u).w (λx=>x=kR m s u):=by
 unfold PK
 refine cj (Tree.pp (TV hv.tW.2)).1 (aq λx0 e0=>?_)
 have e0:x0=o9 m:=e0.trans (Jx hv)
 refine aa (λh=>dc ?_) λhm=>aa (λh=>dc ?_) λh1=>aa (λh=>dc ?_) λh2=>aa (λh=>dc ?_) λh3=>cj (show s.length<=1000000000000 by omega) (aq λx1 e1=>?_)
 ·unfold kR;rw[if_pos (by rw[<-e0];simpa using h)]
 all_goals have jS:¬o9 m=false:=by rw[<-e0];simpa using hm
 ·unfold kR;rw[if_neg jS,if_pos (oY h)]
 all_goals have ng:¬u<m.A1:=oN h1
 ·unfold kR;rw[if_neg jS,if_neg ng,if_pos (oY h)]
 all_goals have BF:¬4000<wrap .u64 (u-m.A1):=oN h2
 ·unfold kR;rw[if_neg jS,if_neg ng,if_neg BF,if_pos (by have:=oY h;omega)]
 have CS:¬400<s.length:=by have:=oN h3;omega
 have e1:x1=kh s:=by rw[e1];exact Tree.post _ (Z9v (by omega))
 rw[e1]
 refine aa (λh=>dc ?_) λho=>?_
 ·unfold kR;rw[if_neg jS,if_neg ng,if_neg BF,if_neg CS,if_pos (by simpa using h)]
 have jd:kh s=true:=by simpa using ho
 have ho2:¬kh s=false:=by rw[jd];simp
 refine fi (inv:=λi:Int=>0<=i/\i<=s.length/\(0<i->¬(gd s 0).At<m.A1)) (μ:=Qnz m s u) ⟨cW 0,by omega,λh=>absurd h (Int.lt_irrefl 0)⟩ (cO _) λi ⟨v1,v2,v3⟩=>?_
 refine aa (λhb=>?_) (λhb=>dc ?_)
 ·have hb:=oY hb
  have bz:i.toNat<s.length:=by omega
  have of:=xr jd i.toNat bz
  have ew:i64.wrap (i+1)=i+1:=by rw[wrap_i64];omega
  refine au (by simp[bJ];omega) (aa (λh=>dc ?_) λh=>ea ?_)
  ·have h:=oY h
   show(1301:Int)=_
   unfold kR;rw[if_neg jS,if_neg ng,if_neg BF,if_neg CS,if_neg ho2,if_pos ⟨by omega,by omega⟩]
  ·have h:=oN h
   show(0<=i64.wrap (i+1)/\i64.wrap (i+1)<=s.length/\(0<i64.wrap (i+1)->¬(gd s 0).At<m.A1))/\(s.length-i64.wrap (i+1)).toNat<(s.length-i).toNat
   rw[ew]
   refine⟨⟨by omega,by omega,λ_=>?_⟩,by omega⟩
   by_cases e:0<i
   ·exact v3 e
   ·have:i=0:=by omega
    subst this;exact h
 ·have hb:=oN hb
  show(0:Int)=_
  unfold kR;rw[if_neg jS,if_neg ng,if_neg BF,if_neg CS,if_neg ho2,if_neg fun⟨q1,q2⟩=>v3 (by omega) q2]
theorem vr(hv:pF m){s:List ep}(hs:s.length<=1000000)(hu:∀e∈s,U e.C6.N){u:Int}(u0:0<=u)(u1:u<18446744073709551616):(PL m s u).w (λr=>r=bu m s u/\r.2.1.length<=4000/\r.1.Mem.length<=1024):=by
 unfold PL
 have m0:=hv.lM
 refine bh (PJ hv hs) λx0 e0=>?_
 rw[e0]
 refine aa (λh=>dc ⟨?_,aT _,aT _⟩) λh=>?_
 ·have h:¬kR m s u=0:=by simpa using h
  unfold bu;rw[if_neg h];rfl
 have h0:kR m s u=0:=by simpa using h
 have hm:¬o9 m=false:=λq=>by unfold kR at h0;rw[if_pos q]at h0;cases h0
 have h1:¬u<m.A1:=λq=>by unfold kR at h0;rw[if_neg hm,if_pos q]at h0;cases h0
 have h2:¬4000<wrap .u64 (u-m.A1):=λq=>by unfold kR at h0;rw[if_neg hm,if_neg h1,if_pos q]at h0;cases h0
 have mm:mX m=true:=by rw[Jx hv];simpa using hm
 obtain⟨P,gS,gM⟩:=s9 hv mm
 have g:eu P m:=⟨gM,mm⟩
 have hle:m.A1<=u:=by omega
 have h4:u-m.A1<=4000:=by rw[wrap_u64]at h2;omega
 have CU:gx s u (u-m.A1).toNat 0 m []=bu m s u:=by unfold bu;rw[h0,if_pos rfl]
 generalize bu m s u=kS at CU⊢
 refine cj (sg gM.mem) (aq λx1 e1=>?_)
 have gl:jH m.Mem=m.Mem:=rfl
 rw[gl]at e1
 subst e1
 refine fi (inv:=λv:Int×av×List dk=>0<=v.1/\v.1<=s.length/\eu P v.2.1/\v.2.1.A1<=u/\(v.2.2.length:Int)<=v.2.1.A1-m.A1/\gx s u (u-v.2.1.A1).toNat v.1 v.2.1 v.2.2=kS) (μ:=Qt0 m s u) ⟨cW 0,by show(0:Int)<=_;omega,g,hle,by show((0:Nat):Int)<=m.A1-m.A1;omega,CU⟩ (cO _) λv ⟨a1,a2,a3,a4,a5,a6⟩=>?_
 obtain⟨i0,x,out⟩:=v
 have a1:0<=i0:=a1
 have a2:i0<=s.length:=a2
 have a3:eu P x:=a3
 have a4:x.A1<=u:=a4
 have a5:(out.length:Int)<=x.A1-m.A1:=a5
 have a6:gx s u (u-x.A1).toNat i0 x out=kS:=a6
 refine aa (λhb=>?_) (λhb=>dc ?_)
 rotate_left
 ·have hb:¬x.A1<u:=oN hb
  rw[show(u-x.A1).toNat=0 by omega]at a6
  exact⟨a6,by show out.length<=4000;omega,a3.len⟩
 have hb:x.A1<u:=oY hb
 obtain⟨k,hk⟩:∃k:Nat,(u-x.A1).toNat=k+1:=⟨(u-x.A1).toNat-1,by omega⟩
 rw[hk]at a6
 refine aa (λrL=>?_) (λrL=>dc ?_)
 rotate_left
 ·have ta:(bif decide (x.A1<1152921504606846976)then uW (gx s u k) s (kK s (s.length-i0).toNat i0 x).1 (kK s (s.length-i0).toNat i0 x).2 out else(x,out,i0,0))=kS:=a6
  have rL:decide (x.A1<1152921504606846976)=false:=rL
  rw[rL]at ta
  exact⟨ta,by show out.length<=4000;omega,a3.len⟩
 have ta:(bif decide (x.A1<1152921504606846976)then uW (gx s u k) s (kK s (s.length-i0).toNat i0 x).1 (kK s (s.length-i0).toNat i0 x).2 out else(x,out,i0,0))=kS:=a6
 have CV:decide (x.A1<1152921504606846976)=true:=rL
 rw[CV]at ta
 have ta:uW (gx s u k) s (kK s (s.length-i0).toNat i0 x).1 (kK s (s.length-i0).toNat i0 x).2 out=kS:=ta
 have rL:x.A1<1152921504606846976:=oY CV
 clear a6
 generalize hE:kK s (s.length-i0).toNat i0 x=E at ta
 refine fi (inv:=λw:Int×av=>0<=w.1/\w.1<=s.length/\eu P w.2/\w.2.A1=x.A1/\kK s (s.length-w.1).toNat w.1 w.2=E) (μ:=Qt7 m s u (i0,x,out)) ⟨a1,a2,a3,rfl,hE⟩ (cO _) λw ⟨b1,b2,b3,b4,b5⟩=>?_
 obtain⟨i,y⟩:=w
 have b1:0<=i:=b1
 have b2:i<=s.length:=b2
 have b3:eu P y:=b3
 have b4:y.A1=x.A1:=b4
 have b5:kK s (s.length-i).toNat i y=E:=b5
 have ew:i64.wrap (i+1)=i+1:=by rw[wrap_i64];omega
 have cc:decide (i<(s.length:Int))=true->(bT 4 4&&bJ 0 4&&decide (0<=i/\i<((s.length:Nat):Int)))=true:=λh=>by have:=oY h;simp[bJ];omega
 have uN:decide (i<(s.length:Int))=true->U (s.getD i.toNat (RK.cw RK.ab)).C6.N:=λh=>by
  have:=oY h
  rw[Zu (show i.toNat<s.length by omega)]
  exact hu _ (fJ _)
 refine Hy (λh=>cc h) (λh1 h2 h3=>?_) λhx=>?_
 ·have hi:=oY h1
  obtain⟨g1,c1⟩:=UE b3 (uN h1)
  refine cj (Zs2 b3.v b3.len (uN h1)) (aq λx3 e3=>ea ?_)
  have e3:x3.1=(Q1 y (s.getD i.toNat (RK.cw RK.ab)).C6).2:=by rw[e3,b3.app]
  show(0<=i64.wrap (i+1)/\i64.wrap (i+1)<=s.length/\eu P x3.1/\x3.1.A1=x.A1/\kK s (s.length-i64.wrap (i+1)).toNat (i64.wrap (i+1)) x3.1=E)/\(s.length-i64.wrap (i+1)).toNat<(s.length-i).toNat
  rw[ew,e3]
  refine⟨⟨by omega,by omega,g1,by rw[c1];exact b4,?_⟩,by omega⟩
  rw[show(s.length-i).toNat=(s.length-(i+1)).toNat+1 by omega]at b5
  have CW:(bif(decide (i<(s.length:Int))&&(((gd s i).At==y.A1)&&((gd s i).C6.C0 !=1)))then kK s (s.length-(i+1)).toNat (i+1) (Q1 y (gd s i).C6).2 else(i,y))=E:=b5
  rw[show(decide (i<(s.length:Int))&&(((gd s i).At==y.A1)&&((gd s i).C6.C0 !=1)))=true by
   have h1:decide (i<(s.length:Int))=true:=h1
   have h2:((gd s i).At==y.A1)=true:=h2
   have h3:((gd s i).C6.C0 !=1)=true:=h3
   rw[h1,h2,h3];rfl]at CW
  exact CW
 have hx:(decide (i<(s.length:Int))&&(((gd s i).At==y.A1)&&((gd s i).C6.C0 !=1)))=false:=hx
 have eE:(i,y)=E:=by
  generalize(s.length-i).toNat=n at b5
  cases n with
  |zero=>exact b5
  |succ n=>
   have CW:(bif(decide (i<(s.length:Int))&&(((gd s i).At==y.A1)&&((gd s i).C6.C0 !=1)))then kK s n (i+1) (Q1 y (gd s i).C6).2 else(i,y))=E:=b5
   rw[hx]at CW;exact CW
 subst eE
 have R0:uW (gx s u k) s i y out=kS:=ta
 unfold uW at R0
 have lo:out.length<=4000:=by omega
 have st:y.A6=false->pH y=false->mJ y=false:=λh1 h2=>(JD b3).2 ⟨h1,h2,by omega⟩
 have fin:∀(c:Int) (j:Int),U c->mJ y=false->0<=j->j<=s.length->gx s u k j (fe y c).2 (out++(fe y c).1)=kS->decide (40*(out.length+(fe y c).1.length)<=140737488355328)=true/\((0<=j/\j<=s.length/\eu P (fe y c).2/\(fe y c).2.A1<=u/\((out++(fe y c).1).length:Int)<=(fe y c).2.A1-m.A1/\gx s u (u-(fe y c).2.A1).toNat j (fe y c).2 (out++(fe y c).1)=kS)/\(u-(fe y c).2.A1).toNat<(u-x.A1).toNat):=λc j hc hs j1 j2 hr=>by
  obtain⟨g1,c1,l1⟩:=JE b3 hs hc
  refine⟨dY (by omega),⟨j1,j2,g1,by omega,by rw[lA];omega,?_⟩,by omega⟩
  rw[show(u-(fe y c).2.A1).toNat=k by omega];exact hr
 refine aa (λhh=>dc ?_) λhh=>cj (qat b3.ok.target.2) (aq λx4 e4=>?_)
 ·have hh:y.A6=true:=hh
  rw[hh]at R0
  exact⟨R0,lo,b3.len⟩
 have hh:y.A6=false:=hh
 rw[hh]at R0
 have e4:x4=pH y:=(e4.trans b3.idle)
 rw[e4]
 refine aa (λhi=>?_) λhi=>?_
 ·have R1:(bif pH y then(bif decide (i<(s.length:Int))then((kF,[],0,1303):iT)else(y,out,i,0))else _)=kS:=R0
  rw[hi]at R1
  have R1:(bif decide (i<(s.length:Int))then((kF,[],0,1303):iT)else(y,out,i,0))=kS:=R1
  refine aa (λhl=>dc ?_) λhl=>dc ?_
  ·have hl:decide (i<(s.length:Int))=true:=hl
   rw[hl]at R1;exact⟨R1,aT _,aT _⟩
  ·have hl:decide (i<(s.length:Int))=false:=hl
   rw[hl]at R1;exact⟨R1,lo,b3.len⟩
 have sk:=st hh hi
 have R2:(bif decide (i<(s.length:Int))then
  (bif((gd s i).At==y.A1)==lU y then
   (bif((gd s i).At==y.A1)then gx s u k (i+1) (fe y (gd s i).C6.N).2 (out++(fe y (gd s i).C6.N).1)else gx s u k i (fe y 0).2 (out++(fe y 0).1))
  else((kF,[],0,1302):iT))
 else(bif false==lU y then gx s u k i (fe y 0).2 (out++(fe y 0).1)else(kF,[],0,1302)))=kS:=by
  have R1:(bif pH y then(bif decide (i<(s.length:Int))then((kF,[],0,1303):iT)else(y,out,i,0))else _)=kS:=R0
  rw[hi]at R1;exact R1
 clear R0
 have rq:∀z,z=Pj y->z=lU y:=λz hz=>by rw[hz,Zri b3.v,show Hw y=bif mJ y then false else lU y from rfl,sk];rfl
 have JR:∀(c:Int),U c->Pe y c:=λc hc=>(zl b3.v b3.len (clock:=c) hc).1
 have CX:∀(c:Int) (z:av×List dk),z=Bb y c->z.2=(fe y c).1/\z.1=(fe y c).2:=λc z hz=>by rw[hz,b3.step sk];exact⟨rfl,rfl⟩
 have FZ:gx s u k i (fe y 0).2 (out++(fe y 0).1)=kS->∀z:av×List dk,z=Bb y 0->decide (40*(out.length+z.2.length)<=140737488355328)=true/\((0<=i/\i<=s.length/\eu P z.1/\z.1.A1<=u/\((out++z.2).length:Int)<=z.1.A1-m.A1/\gx s u (u-z.1.A1).toNat i z.1 (out++z.2)=kS)/\(u-z.1.A1).toNat<(u-x.A1).toNat):=λhr z hz=>by
  obtain⟨z1,z2⟩:=CX 0 z hz
  rw[z1,z2]
  exact fin 0 i ey sk b1 b2 hr
 refine aa (λhl=>?_) λhl=>?_
 ·have hl:decide (i<(s.length:Int))=true:=hl
  have iw:=oY hl
  rw[hl]at R2
  have R2:(bif((gd s i).At==y.A1)==lU y then
   (bif((gd s i).At==y.A1)then gx s u k (i+1) (fe y (gd s i).C6.N).2 (out++(fe y (gd s i).C6.N).1)else gx s u k i (fe y 0).2 (out++(fe y 0).1))
  else((kF,[],0,1302):iT))=kS:=R2
  refine au (cc hl) (cj (Tree.pp (Zoo b3.s)).1 (aq λx5 e5=>?_))
  have e5:=rq x5 e5
  rw[e5]
  refine aa (λhn=>dc ?_) λhn=>?_
  ·have hn:=bn3 ((gd s i).At==y.A1) (lU y) hn
   rw[hn]at R2
   exact⟨R2,aT _,aT _⟩
  have hn:=bn4 ((gd s i).At==y.A1) (lU y) hn
  rw[hn]at R2
  have R2:(bif((gd s i).At==y.A1)then gx s u k (i+1) (fe y (gd s i).C6.N).2 (out++(fe y (gd s i).C6.N).1)else gx s u k i (fe y 0).2 (out++(fe y 0).1))=kS:=R2
  refine aa (λha=>au (cc hl) (cj (JR _ (uN hl)) (aq λx6 e6=>?_))) λha=>?_
  ·have ha:((gd s i).At==y.A1)=true:=ha
   rw[ha]at R2
   obtain⟨z1,z2⟩:=CX _ x6 e6
   have F:=fin (gd s i).C6.N (i+1) (uN hl) sk (by omega) (by omega) R2
   refine au (by rw[z1];exact F.1) (ea ?_)
   have F2:=F.2
   rw[<-ew]at F2
   show(0<=i64.wrap (i+1)/\i64.wrap (i+1)<=s.length/\eu P x6.1/\x6.1.A1<=u/\((out++x6.2).length:Int)<=x6.1.A1-m.A1/\gx s u (u-x6.1.A1).toNat (i64.wrap (i+1)) x6.1 (out++x6.2)=kS)/\(u-x6.1.A1).toNat<(u-x.A1).toNat
   rw[z1,z2];exact F2
  ·have ha:((gd s i).At==y.A1)=false:=ha
   rw[ha]at R2
   exact cj (JR _ ey) (aq λx7 e7=>au (FZ R2 x7 e7).1 (ea (FZ R2 x7 e7).2))
 ·have hl:decide (i<(s.length:Int))=false:=hl
  rw[hl]at R2
  have R2:(bif false==lU y then gx s u k i (fe y 0).2 (out++(fe y 0).1)else((kF,[],0,1302):iT))=kS:=R2
  refine cj (Tree.pp (Zoo b3.s)).1 (aq λx8 e8=>?_)
  have e8:=rq x8 e8
  rw[e8]
  refine aa (λhn=>dc ?_) λhn=>?_
  ·have hn:=bn3 false (lU y) hn
   rw[hn]at R2
   exact⟨R2,aT _,aT _⟩
  have hn:=bn4 false (lU y) hn
  rw[hn]at R2
  exact cj (JR _ ey) (aq λx7 e7=>au (FZ R2 x7 e7).1 (ea (FZ R2 x7 e7).2))
def EG(s:List ep)(i:Int)(y:av):Bool:=decide (i<(s.length:Int))&&(((gd s i).At==y.A1)&&((gd s i).C6.C0 !=1))
theorem Zx(s:List ep)(n:Nat)(i:Int)(y:av):kK s (n+1) i y=bif EG s i y then kK s n (i+1) (Q1 y (gd s i).C6).2 else(i,y):=rfl
theorem zav{s:List ep}(hx:EG s i y=false):∀n,kK s n i y=(i,y)
 |0=>rfl
 |n+1=>by rw[Zx,hx];rfl
theorem PM(s:List ep)(u:Int)(k:Nat)(i:Int)(x:av)(out:List dk):gx s u (k+1) i x out=bif decide (x.A1<1152921504606846976)then uW (gx s u k) s (kK s (s.length-i).toNat i x).1 (kK s (s.length-i).toNat i x).2 out else(x,out,i,0):=rfl
def EH(s:List ep)(i:Int)(x:av):Prop:=∀j:Nat,i<=j->j<s.length->x.A1<=(gd s j).At
structure evK(P:Nat)(s:List ep)(i:Int)(x:av)(E:Int×av):Prop where
 lo:i<=E.1
 hi:E.1<=s.length
 g:eu P E.2
 c:E.2.A1=x.A1
 fix:EG s E.1 E.2=false
theorem CY{s:List ep}(hu:∀e∈s,U e.C6.N)(h0:0<=i)(h:i<s.length):U (gd s i).C6.N:=by
 unfold gd
 rw[Zu (show i.toNat<s.length by omega)]
 exact hu _ (fJ _)
theorem Ze{P:Nat}{s:List ep}(hu:∀e∈s,U e.C6.N):∀(n:Nat) {i:Int} {x:av},eu P x->0<=i->i<=s.length->(s.length-i).toNat<=n->evK P s i x (kK s n i x)
 |0,i,x,g,h0,h1,hn=>⟨cW i,h1,g,rfl,by unfold EG;rw[show kK s 0 i x=(i,x) from rfl,dN (show¬i<(s.length:Int) by omega)];rfl⟩
 |n + 1,i,x,g,h0,h1,hn=>by
  rw[Zx]
  cases hb:EG s i x
  ·exact⟨cW i,h1,g,rfl,hb⟩
  ·have bz:i<s.length:=by
    unfold EG at hb
    rw[aE]at hb
    exact oY hb.1
   obtain⟨g1,c1⟩:=UE g (CY hu h0 bz)
   have k:=Ze hu n (i:=i+1) g1 (by omega) (by omega) (by omega)
   show evK P s i x (kK s n (i+1) (Q1 x (gd s i).C6).2)
   exact⟨by have:=k.lo;omega,k.hi,k.g,k.c.trans c1,k.fix⟩
theorem UK{s:List ep}(hx:EG s i y=false)(h:y.A6=true\/(pH y=true/\decide (i<(s.length:Int))=false))(u:Int):∀(b:Nat) (out:List dk),gx s u b i y out=(y,out,i,0)
 |0,_=>rfl
 |b +1,out=>by
  rw[PM,zav hx]
  cases decide (y.A1<1152921504606846976)
  ·rfl
  ·unfold uW
   rcases h with h|⟨h1,h2⟩
   ·rw[h];rfl
   ·rw[h1,h2];cases y.A6<;>rfl
theorem y8{s:List ep}(h:kh s=true)(i:Nat):∀j:Nat,i<=j->j<s.length->(gd s i).At<=(gd s j).At:=by
 intro j
 induction j with
 |zero=>intro h1 _;rw[show i=0 by omega];exact cW _
 |succ j ih=>
  intro h1 h2
  by_cases e:i=j+1
  ·rw[e];exact cW _
  ·have h3:=Zw h (j+1) h2 (by omega)
   have h4:=ih (by omega) (by omega)
   unfold Qu at h3
   rw[aE]at h3
   have h5:decide ((s.getD (j+1) (RK.cw RK.ab)).At<(s.getD j (RK.cw RK.ab)).At)=false:=by simpa using h3.1
   have h5:=oN h5
   unfold gd at h4⊢
   rw[eD]at h4⊢
   rw[eD]at h4⊢
   omega
theorem zaO{s:List ep}(h:kh s=true)(i:Nat)(hk:(gd s i).C6.C0=1)(j:Nat)(h1:i<j)(h2:j<s.length):(gd s i).At<(gd s j).At:=by
 have h3:=Zw h (i+1) (by omega) (by omega)
 have h4:=y8 h (i+1) j (by omega) h2
 unfold Qu at h3
 rw[aE]at h3
 have h5:decide ((s.getD (i+1) (RK.cw RK.ab)).At<(s.getD i (RK.cw RK.ab)).At)=false:=by simpa using h3.1
 have h5:=oN h5
 unfold gd at h4 hk⊢
 rw[eD]at hk h4⊢
 rw[eD]at h4⊢
 have h6:=h3.2
 rw[show i+1-1=i by omega,show((s.getD i (RK.cw RK.ab)).C6.C0==1)=true by rw[hk];rfl]at h6
 have h7:¬(s.getD (i+1) (RK.cw RK.ab)).At=(s.getD i (RK.cw RK.ab)).At:=by simpa using h6
 omega
theorem Qw{s:List ep}{x y:av}(h:EH s i x)(hl:i<=j)(hc:y.A1=x.A1):EH s j y:=λq h1 h2=>by
 have:=h q (by omega) h2;omega
theorem Zqg{s:List ep}(ho:kh s=true)(h:EH s j y)(h0:0<=j)(hn:j<s.length->¬(gd s j).At=y.A1)(hc:z.A1=y.A1+1):EH s j z:=λq h1 h2=>by
 have a:=h j.toNat (by omega) (by omega)
 have b:=y8 ho j.toNat q (by omega) h2
 rw[eH h0]at a b
 have:=hn (by omega)
 omega
theorem qt{s:List ep}(ho:kh s=true)(h:EH s j y)(h0:0<=j)(hj:j<s.length)(hk:(gd s j).C6.C0=1)(hc:z.A1=y.A1+1):EH s (j+1) z:=λq h1 h2=>by
 have a:=h j.toNat (by omega) (by omega)
 have b:=zaO ho j.toNat (by rw[eH h0];exact hk) q (by omega) h2
 rw[eH h0]at a b
 omega
structure Zy(P:Nat)(s:List ep)(i:Int)(x:av)(k:Nat)(r:iT):Prop where
 g:eu P r.1
 lo:i<=r.2.2.1
 hi:r.2.2.1<=s.length
 c0:x.A1<=r.1.A1
 c1:r.1.A1<=x.A1+k
 ah:kh s=true->EH s i x->EH s r.2.2.1 r.1
 st:r.1.A1=x.A1+k\/∀(u:Int) (b:Nat) (o:List dk),gx s u b r.2.2.1 r.1 o=(r.1,o,r.2.2.1,0)
theorem xt{P:Nat}{s:List ep}(hu:∀e∈s,U e.C6.N)(u:Int):∀(a:Nat) {i:Int} {x:av} {out:List dk},eu P x->0<=i->i<=s.length->
 ((gx s u a i x out).2.2.2=0->Zy P s i x a (gx s u a i x out))/\((gx s u a i x out).2.2.2≠0->(gx s u a i x out).1=kF/\(gx s u a i x out).2.1=[]/\(gx s u a i x out).2.2.1=0)/\
 ∀b,gx s u (a+b) i x out=bif(gx s u a i x out).2.2.2==0 then gx s u b (gx s u a i x out).2.2.1 (gx s u a i x out).1 (gx s u a i x out).2.1 else gx s u a i x out
 |0,i,x,out,g,h0,h1=>⟨λ_=>⟨g,cW i,h1,cW _,by show x.A1<=x.A1+0;omega,λ_ h=>h,.inl (by show x.A1=x.A1+0;omega)⟩,λh=>absurd rfl h,λb=>by rw[Nat.zero_add];rfl⟩
 |a + 1,i,x,out,g,h0,h1=>by
  have ih:=fun{i:Int} {x:av} {out:List dk}=>xt (P:=P) hu u a (i:=i) (x:=x) (out:=out)
  have hab:∀b,a+1+b=(a+b)+1:=λb=>by omega
  simp only[hab,PM]
  cases hc:decide (x.A1<1152921504606846976)
  ·refine⟨λ_=>⟨g,cW i,h1,cW _,by show x.A1<=x.A1+_;omega,λ_ h=>h,.inr λu b o=>?_⟩,λh=>absurd rfl h,λb=>?_⟩
   ·cases b with
    |zero=>rfl
    |succ b=>show gx s u (b+1) i x o=_;rw[PM,hc];rfl
   ·cases b with
    |zero=>rfl
    |succ b=>show(x,out,i,(0:Int))=gx s u (b+1) i x out;rw[PM,hc];rfl
  have hcx:=oY hc
  have k:=Ze (P:=P) hu (s.length-i).toNat g h0 h1 (aO _)
  generalize kK s (s.length-i).toNat i x=E at k⊢
  obtain⟨j,y⟩:=E
  have EI:i<=j:=k.lo
  have JS:j<=s.length:=k.hi
  have kg:eu P y:=k.g
  have kc:y.A1=x.A1:=k.c
  have kf:EG s j y=false:=k.fix
  simp only[cond_true]
  unfold uW
  cases hh:y.A6
  rotate_left
  ·refine⟨λ_=>⟨kg,EI,JS,by show x.A1<=y.A1;omega,by show y.A1<=_;omega,λ_ h=>Qw h EI kc,.inr λu b o=>UK kf (.inl hh) u b o⟩,λh=>absurd rfl h,λb=>?_⟩
   exact(UK kf (.inl hh) u b out).symm
  cases hi:pH y
  rotate_left
  ·cases hl:decide (j<(s.length:Int))
   ·refine⟨λ_=>⟨kg,EI,JS,by show x.A1<=y.A1;omega,by show y.A1<=_;omega,λ_ h=>Qw h EI kc,.inr λu b o=>UK kf (.inr ⟨hi,hl⟩) u b o⟩,λh=>absurd rfl h,λb=>?_⟩
    exact(UK kf (.inr ⟨hi,hl⟩) u b out).symm
   ·exact⟨λh=>absurd (show(1303:Int)=0 from h) (by decide),λ_=>⟨rfl,rfl,rfl⟩,λb=>rfl⟩
  have sk:mJ y=false:=(JD kg).2 ⟨hh,hi,by omega⟩
  have next:∀(c:Int) (q:Int),U c->0<=q->q<=s.length->i<=q->((fe y c).2.A1=y.A1+1->kh s=true->EH s i x->EH s q (fe y c).2)->
   ((gx s u a q (fe y c).2 (out++(fe y c).1)).2.2.2=0->Zy P s i x (a+1) (gx s u a q (fe y c).2 (out++(fe y c).1)))/\
   ((gx s u a q (fe y c).2 (out++(fe y c).1)).2.2.2≠0->(gx s u a q (fe y c).2 (out++(fe y c).1)).1=kF/\(gx s u a q (fe y c).2 (out++(fe y c).1)).2.1=[]/\(gx s u a q (fe y c).2 (out++(fe y c).1)).2.2.1=0)/\
   ∀b,gx s u (a+b) q (fe y c).2 (out++(fe y c).1)=bif(gx s u a q (fe y c).2 (out++(fe y c).1)).2.2.2==0 then gx s u b (gx s u a q (fe y c).2 (out++(fe y c).1)).2.2.1 (gx s u a q (fe y c).2 (out++(fe y c).1)).1 (gx s u a q (fe y c).2 (out++(fe y c).1)).2.1 else gx s u a q (fe y c).2 (out++(fe y c).1):=λc q hU q0 q1 q2 q3=>by
   obtain⟨g1,c1,_⟩:=JE kg sk hU
   have n:=ih (i:=q) (x:=(fe y c).2) (out:=out++(fe y c).1) g1 q0 q1
   refine⟨λh=>?_,n.2⟩
   have n1:=n.1 h
   exact⟨n1.g,by have:=n1.lo;omega,n1.hi,by have:=n1.c0;omega,by have:=n1.c1;omega,λho h=>n1.ah ho (q3 c1 ho h),n1.st.imp (λh=>by omega) id⟩
  have bad:∀c:Int,c≠0->((((kF,[],0,c):iT).2.2.2=0->Zy P s i x (a+1) (kF,[],0,c))/\(((kF,[],0,c):iT).2.2.2≠0->((kF,[],0,c):iT).1=kF/\((kF,[],0,c):iT).2.1=[]/\((kF,[],0,c):iT).2.2.1=0)/\
   ∀b,((kF,[],0,c):iT)=bif((kF,[],0,c):iT).2.2.2==0 then gx s u b ((kF,[],0,c):iT).2.2.1 ((kF,[],0,c):iT).1 ((kF,[],0,c):iT).2.1 else(kF,[],0,c)):=λc h=>⟨λe=>absurd e h,λ_=>⟨rfl,rfl,rfl⟩,λb=>by
   rw[show(((kF,[],0,c):iT).2.2.2==0)=false by simpa using h];rfl⟩
  simp only[cond_false]
  cases hl:decide (j<(s.length:Int))
  ·simp only[cond_false]
   cases hr:(false==lU y)
   ·exact bad 1302 (by decide)
   ·simp only[cond_true];exact next 0 j ey (by omega) JS EI λc ho h=>Zqg ho (Qw h EI kc) (by omega) (λq=>absurd q (oN hl)) c
  ·have Bg:=oY hl
   simp only[cond_true]
   cases hr:(((gd s j).At==y.A1)==lU y)
   ·exact bad 1302 (by decide)
   ·simp only[cond_true]
    cases ha:((gd s j).At==y.A1)
    ·simp only[cond_false];exact next 0 j ey (by omega) JS EI λc ho h=>Zqg ho (Qw h EI kc) (by omega) (λ_=>by simpa using ha) c
    ·simp only[cond_true];exact next _ (j+1) (CY hu (by omega) Bg) (by omega) (by omega) (by omega) λc ho h=>qt ho (Qw h EI kc) (by omega) Bg (by unfold EG at kf;rw[hl,ha]at kf;simpa using kf) c
theorem yt{s:List ep}{u:Int}:kR m s u=0↔ ¬o9 m=false/\¬u<m.A1/\¬4000<wrap .u64 (u-m.A1)/\¬400<s.length/\¬kh s=false/\¬(0<s.length/\(gd s 0).At<m.A1):=by
 unfold kR
 constructor
 ·intro h
  by_cases h1:o9 m=false
  ·rw[if_pos h1]at h;cases h
  rw[if_neg h1]at h
  by_cases h2:u<m.A1
  ·rw[if_pos h2]at h;cases h
  rw[if_neg h2]at h
  by_cases h3:4000<wrap .u64 (u-m.A1)
  ·rw[if_pos h3]at h;cases h
  rw[if_neg h3]at h
  by_cases h4:400<s.length
  ·rw[if_pos h4]at h;cases h
  rw[if_neg h4]at h
  by_cases h5:kh s=false
  ·rw[if_pos h5]at h;cases h
  rw[if_neg h5]at h
  by_cases h6:0<s.length/\(gd s 0).At<m.A1
  ·rw[if_pos h6]at h;cases h
  exact⟨h1,h2,h3,h4,h5,h6⟩
 ·rintro⟨h1,h2,h3,h4,h5,h6⟩
  rw[if_neg h1,if_neg h2,if_neg h3,if_neg h4,if_neg h5,if_neg h6]
theorem vt{s:List ep}{u:Int}(h:kR m s u=0):bu m s u=gx s u (u-m.A1).toNat 0 m []:=by unfold bu;rw[if_pos h]
theorem Zol{s:List ep}{u:Int}(h:kR m s u≠0):bu m s u=(kF,[],0,kR m s u):=by unfold bu;rw[if_neg h]
theorem xP{s:List ep}{u:Int}(h:(bu m s u).2.2.2=0):kR m s u=0:=by
 by_cases e:kR m s u=0
 ·exact e
 ·rw[Zol e]at h;exact h
structure runK(P:Nat)(m:av)(s:List ep)(u:Int)(r:iT):Prop where
 g:eu P r.1
 lo:0<=r.2.2.1
 hi:r.2.2.1<=s.length
 c0:m.A1<=r.1.A1
 c1:r.1.A1<=u
theorem zP(g:eu P m){s:List ep}(hu:∀e∈s,U e.C6.N){u:Int}(h:(bu m s u).2.2.2=0):runK P m s u (bu m s u):=by
 have hc:=xP h
 rw[vt hc]at h⊢
 have k:=(xt (P:=P) hu u (u-m.A1).toNat g (cW 0) (by omega)).1 h
 have:=(yt.1 hc).2.1
 exact⟨k.g,k.lo,k.hi,k.c0,by have:=k.c1;omega⟩
def lV(m:av):Int:=FY 14695981039346656037 (nS m)
def jr:av->List ep->List Int->List fx×Int
 |_,_,[]=>([],0)
 |m,s,u::l=>
  bif (bu m s u).2.2.2==0 then
   (bif(jr (bu m s u).1 (s.drop (bu m s u).2.2.1.toNat) l).2==0 then
    ({At:=u,D4:=lV (bu m s u).1}::(jr (bu m s u).1 (s.drop (bu m s u).2.2.1.toNat) l).1,0)
   else([],(jr (bu m s u).1 (s.drop (bu m s u).2.2.1.toNat) l).2))
  else([],(bu m s u).2.2.2)
def jA:av->List ep->Int->Int->List fx->jW
 |_,_,_,_,[]=>{Good:=true,D8:=0,At:=0}
 |m,s,i,last,c::l=>
  bif((bu m s c.At).2.2.2==0)&&(lV (bu m s c.At).1==c.D4)then jA (bu m s c.At).1 (s.drop (bu m s c.At).2.2.1.toNat) (i+1) c.At l
  else{Good:=false,D8:=i,At:=last}
theorem PN{s:List ep}{u:Int}{l:List Int}{L:List fx}(h:jr m s (u::l)=(L,0)):
 (bu m s u).2.2.2=0/\∃K,L={At:=u,D4:=lV (bu m s u).1}::K/\jr (bu m s u).1 (s.drop (bu m s u).2.2.1.toNat) l=(K,0):=by
 unfold jr at h
 cases h1:(bu m s u).2.2.2==0
 ·rw[h1]at h
  have:(bu m s u).2.2.2=0:=(Prod.mk.inj h).2
  rw[this]at h1;cases h1
 ·rw[h1]at h
  have h1:=eq_of_beq h1
  refine⟨h1,?_⟩
  generalize jr (bu m s u).1 (s.drop (bu m s u).2.2.1.toNat) l=q at h⊢
  obtain⟨K,e⟩:=q
  cases h2:e==0
  ·have h:(bif e==0 then(({At:=u,D4:=lV (bu m s u).1}::K:List fx),(0:Int))else([],e))=(L,0):=h
   rw[h2]at h
   have:e=0:=(Prod.mk.inj h).2
   rw[this]at h2;cases h2
  ·have h:(bif e==0 then(({At:=u,D4:=lV (bu m s u).1}::K:List fx),(0:Int))else([],e))=(L,0):=h
   rw[h2]at h
   exact⟨K,(Prod.mk.inj h).1.symm,by rw[eq_of_beq h2]⟩
theorem UL:∀{l:List Int} {m:av} {s:List ep} {L:List fx},jr m s l=(L,0)->L.map (·.At)=l
 |[],m,s,L,h=>by rw[show L=[] from(Prod.mk.inj h).1.symm];rfl
 |u::l,m,s,L,h=>by
  obtain⟨_,K,e,h2⟩:=PN h
  rw[e,List.map_cons,UL h2]
theorem Zz:∀{l:List Int} {m:av} {s:List ep} {L:List fx},jr m s l=(L,0)->∀i last,jA m s i last L={Good:=true,D8:=0,At:=0}
 |[],m,s,L,h,i,last=>by rw[show L=[] from(Prod.mk.inj h).1.symm];rfl
 |u::l,m,s,L,h,i,last=>by
  obtain⟨h1,K,e,h2⟩:=PN h
  rw[e]
  unfold jA
  rw[show((bu m s ({At:=u,D4:=lV (bu m s u).1}:fx).At).2.2.2==0)=true by show((bu m s u).2.2.2==0)=true;rw[h1];rfl,show(lV (bu m s ({At:=u,D4:=lV (bu m s u).1}:fx).At).1==({At:=u,D4:=lV (bu m s u).1}:fx).D4)=true from beq_self_eq_true _]
  exact Zz h2 _ _
theorem Hz:∀(k:Nat) {l:List Int} {m:av} {s:List ep} {L:List fx},jr m s l=(L,0)->k<L.length->∀(i last h:Int),h≠(L.getD k default).D4->
 jA m s i last (L.set k {At:=(L.getD k default).At,D4:=h})={Good:=false,D8:=i+k,At:=if k=0 then last else(L.getD (k-1) default).At}
 |k,[],m,s,L,h,hk,i,last,x,hx=>by rw[show L=[] from(Prod.mk.inj h).1.symm]at hk;exact absurd hk (Nat.not_lt_zero _)
 |0,u::l,m,s,L,h,hk,i,last,x,hx=>by
  obtain⟨h1,K,e,h2⟩:=PN h
  rw[e]at hx⊢
  have hx:x≠lV (bu m s u).1:=hx
  show jA m s i last ({At:=u,D4:=x}::K)=_
  unfold jA
  rw[show(lV (bu m s ({At:=u,D4:=x}:fx).At).1==({At:=u,D4:=x}:fx).D4)=false by show(lV (bu m s u).1==x)=false;simpa using λe=>hx e.symm,Bool.and_false]
  show _=({Good:=false,D8:=i+((0:Nat):Int),At:=last}:jW)
  rw[show i+((0:Nat):Int)=i by omega];rfl
 |k+1,u::l,m,s,L,h,hk,i,last,x,hx=>by
  obtain⟨h1,K,e,h2⟩:=PN h
  rw[e]at hx hk⊢
  have hx:x≠(K.getD k default).D4:=hx
  have ih:=Hz k h2 (by simpa using hk) (i+1) u x hx
  show jA m s i last ({At:=u,D4:=lV (bu m s u).1}::K.set k {At:=(K.getD k default).At,D4:=x})=_
  unfold jA
  rw[show((bu m s ({At:=u,D4:=lV (bu m s u).1}:fx).At).2.2.2==0)=true by show((bu m s u).2.2.2==0)=true;rw[h1];rfl,show(lV (bu m s ({At:=u,D4:=lV (bu m s u).1}:fx).At).1==({At:=u,D4:=lV (bu m s u).1}:fx).D4)=true from beq_self_eq_true _]
  refine Eq.trans ih ?_
  rw[if_neg (Nat.succ_ne_zero k),show i+1+(k:Int)=i+((k+1:Nat):Int) by omega]
  congr 1
  cases k with
  |zero=>rfl
  |succ k=>rfl
def uX:Int->List Int->Prop
 |_,[]=>True
 |a,x::l=>a<=x/\uX x l
theorem xaO{s:List ep}(hu:∀e∈s,U e.C6.N)(n:Nat):∀e∈s.drop n,U e.C6.N:=λe he=>hu e (List.mem_of_mem_drop he)
theorem UM:kq kF:=⟨ey,ey⟩
theorem v8(s:List ep):∀(n:Nat) (i:Int) (x:av),kq x->kq (kK s n i x).2
 |0,i,x,h=>h
 |n+1,i,x,h=>by
  rw[Zx]
  cases EG s i x
  ·exact h
  ·exact v8 s n _ _ (zaN h _)
theorem y9{P:Nat}{s:List ep}(hu:∀e∈s,U e.C6.N)(u:Int):∀(k:Nat) {i:Int} {x:av} (out:List dk),eu P x->kq x->0<=i->i<=s.length->kq (gx s u k i x out).1
 |0,i,x,out,g,d,h0,h1=>d
 |k + 1,i,x,out,g,d,h0,h1=>by
  rw[PM]
  cases hc:decide (x.A1<1152921504606846976)
  ·exact d
  have hcx:=oY hc
  have ke:=Ze (P:=P) hu (s.length-i).toNat g h0 h1 (aO _)
  have de:=v8 s (s.length-i).toNat i x d
  generalize kK s (s.length-i).toNat i x=E at ke de⊢
  obtain⟨j,y⟩:=E
  have EI:i<=j:=ke.lo
  have JS:j<=s.length:=ke.hi
  have kg:eu P y:=ke.g
  have kc:y.A1=x.A1:=ke.c
  have dy:kq y:=de
  rw[cond_true]
  unfold uW
  cases hh:y.A6
  rotate_left
  ·exact dy
  cases hi:pH y
  rotate_left
  ·cases decide (j<(s.length:Int))
   ·exact dy
   ·exact UM
  have sk:mJ y=false:=(JD kg).2 ⟨hh,hi,by omega⟩
  have next:∀(c:Int) (p:Int),U c->0<=p->p<=s.length->kq (gx s u k p (fe y c).2 (out++(fe y c).1)).1:=λc p hU p0 p1=>
   y9 hu u k _ (JE kg sk hU).1 (vZ kg dy c) p0 p1
  rw[cond_false,cond_false]
  cases hl:decide (j<(s.length:Int))
  ·rw[cond_false]
   cases(false==lU y)
   ·exact UM
   ·exact next 0 j ey (by omega) JS
  ·have Bg:=oY hl
   rw[cond_true]
   cases((gd s j).At==y.A1)==lU y
   ·exact UM
   ·cases(gd s j).At==y.A1
    ·exact next 0 j ey (by omega) JS
    ·exact next _ (j+1) (CY hu (by omega) Bg) (by omega) (by omega)
theorem qaP(g:eu P m)(d:kq m){s:List ep}(hu:∀e∈s,U e.C6.N)(u:Int):kq (bu m s u).1:=by
 unfold bu
 split
 ·exact y9 hu u _ _ g d (cW 0) (by omega)
 ·exact UM
theorem qu(m:av):lV m=FY 14695981039346656037 (nS m):=rfl
theorem HA(g:eu P m)(d:kq m):UI m/\UJ m=lV m:=by
 obtain⟨a,b⟩:=xau g.v (Y3 g d) (by have:=g.len;omega)
 exact⟨a,b.trans (xq _ _)⟩
theorem PO(g:eu P m)(d:kq m):Y7 m/\Y8 m=lV m:=yq g.v (Y3 g d) (by have:=g.len;omega)
theorem Zrk(s:List UInt8)(hl:s.length<=1000000):0<=FY 14695981039346656037 s/\FY 14695981039346656037 s<18446744073709551616:=by
 have h:(MG 14695981039346656037 s).w (λr=>0<=r/\r<18446744073709551616):=by
  unfold MG
  refine fi (inv:=λv:Int×Int=>(0<=v.2/\v.2<=s.length)/\0<=v.1/\v.1<18446744073709551616) (μ:=UN 14695981039346656037 s) ⟨⟨cW 0,by show(0:Int)<=_;omega⟩,by decide,by decide⟩ (cO _) λv ⟨⟨a,b⟩,c⟩=>?_
  refine aa (λhb=>?_) λ_=>dc c
  have hb:=oY hb
  have ew:i64.wrap (v.2+1)=v.2+1:=by rw[wrap_i64];omega
  refine au (dY ⟨a,hb⟩) (ea ?_)
  show((0<=i64.wrap (v.2+1)/\i64.wrap (v.2+1)<=s.length)/\0<=wrap .u64 _/\wrap .u64 _<18446744073709551616)/\(s.length-i64.wrap (v.2+1)).toNat<(s.length-v.2).toNat
  rw[ew]
  exact⟨⟨⟨by omega,by omega⟩,Y4 _⟩,by omega⟩
 exact Tree.post _ h
theorem Zli(g:eu P m)(d:kq m):0<=lV m/\lV m<18446744073709551616:=by
 have e:=Y3 g d
 have:=Tree.post _ (Zoj g.v e.r (by have:=g.len;omega) e.k e.o)
 rw[qu]
 refine Zrk _ ?_
 have h1:ZA m=nS m:=this.1
 rw[<-h1]
 have:=this.2
 change(ZA m).length<=_ at this
 omega
attribute [local irreducible] lV
theorem PQ{α:Type}{l:List α}(h0:0<=i)(h:i<l.length)(d:α):l.drop i.toNat=l.getD i.toNat d::l.drop (i+1).toNat:=by
 have bz:i.toNat<l.length:=by omega
 rw[show(i+1).toNat=i.toNat+1 by omega,cP,cG bz]
 exact aB bz
def jU:Int->List Int->Bool
 |_,[]=>true
 |a,x::l=>bif decide (x<a)then false else bif decide (wrap .u64 (x-a)>4000)then false else jU x l
def jB(m:av)(s:List ep)(l:List Int):Int:=bif jU m.A1 l then kR m s m.A1 else 4300
theorem PR(m:av)(s:List ep):(bu m s m.A1).2.2.2=kR m s m.A1:=by
 by_cases h:kR m s m.A1=0
 ·rw[vt h,h,show(m.A1-m.A1).toNat=0 by omega];rfl
 ·rw[Zol h]
theorem Zov{l:List Int}(h0:0<=i)(h:i<l.length)(a:Int):jU a (l.drop i.toNat)=bif decide (l.getD i.toNat 0<a)then false else bif decide (wrap .u64 (l.getD i.toNat 0-a)>4000)then false else jU (l.getD i.toNat 0) (l.drop (i+1).toNat):=by
 rw[PQ h0 h 0];rfl
theorem xu{l:List Int}(h:¬i<l.length)(a:Int):jU a (l.drop i.toNat)=true:=by
 rw[aA (by omega)];rfl
section
variable {m:av} (hv:pF m) (hc:m.A1<18446744073709551616) {s:List ep} (hs:s.length<=1000000) (hu:∀e∈s,U e.C6.N)
include hv hc hs hu
theorem Zpg{l:List Int}(hl:l.length<=400):(PS m s l).w (λe=>e=jB m s l):=by
 unfold PS
 refine aa (λh=>by have:=oY h;omega) λ_=>?_
 refine fi (inv:=λv:Int×Int=>0<=v.2/\v.2<=l.length/\jU m.A1 l=jU v.1 (l.drop v.2.toNat)) (μ:=Qme m s l) ⟨cW 0,by show(0:Int)<=_;omega,rfl⟩ (cO _) λv ⟨a,b,c⟩=>?_
 obtain⟨last,i⟩:=v
 have a:0<=i:=a
 have b:i<=l.length:=b
 have c:jU m.A1 l=jU last (l.drop i.toNat):=c
 refine aa (λhb=>?_) λhb=>?_
 ·have hb:i<l.length:=oY hb
  have ew:i64.wrap (i+1)=i+1:=by rw[wrap_i64];omega
  rw[Zov a hb]at c
  refine au (by simp[bJ];omega) (aa (λh1=>dc ?_) λh1=>aa (λh2=>dc ?_) λh2=>ea ?_)
  ·show(4300:Int)=jB m s l
   have h1:decide (l.getD i.toNat 0<last)=true:=h1
   rw[h1]at c
   unfold jB;rw[c];rfl
  ·show(4300:Int)=jB m s l
   have h1:decide (l.getD i.toNat 0<last)=false:=h1
   have h2:decide (wrap .u64 (l.getD i.toNat 0-last)>4000)=true:=h2
   rw[h1,h2]at c
   unfold jB;rw[c];rfl
  ·have h1:decide (l.getD i.toNat 0<last)=false:=h1
   have h2:decide (wrap .u64 (l.getD i.toNat 0-last)>4000)=false:=h2
   rw[h1,h2]at c
   show(0<=i64.wrap (i+1)/\i64.wrap (i+1)<=l.length/\jU m.A1 l=jU (l.getD i.toNat 0) (l.drop (i64.wrap (i+1)).toNat))/\(l.length-i64.wrap (i+1)).toNat<(l.length-i).toNat
   rw[ew]
   exact⟨⟨by omega,by omega,c⟩,by omega⟩
 ·have hb:¬i<l.length:=oN hb
  rw[xu hb]at c
  refine bh (vr hv hs hu hv.lM hc) λx0 ⟨e0,_⟩=>dc ?_
  show x0.2.2.2=jB m s l
  unfold jB;rw[c,e0,PR];rfl
end
theorem zaP{l:List Int}(hl:l.length<=400):(Q7 m l).w (λe=>e=jU m.A1 l):=by
 unfold Q7
 refine aa (λh=>by have:=oY h;omega) λ_=>?_
 refine fi (inv:=λv:Int×Int=>0<=v.2/\v.2<=l.length/\jU m.A1 l=jU v.1 (l.drop v.2.toNat)) (μ:=Qfl m l) ⟨cW 0,by show(0:Int)<=_;omega,rfl⟩ (cO _) λv ⟨a,b,c⟩=>?_
 obtain⟨last,i⟩:=v
 have a:0<=i:=a
 have b:i<=l.length:=b
 have c:jU m.A1 l=jU last (l.drop i.toNat):=c
 refine aa (λhb=>?_) λhb=>dc ?_
 ·have hb:i<l.length:=oY hb
  have ew:i64.wrap (i+1)=i+1:=by rw[wrap_i64];omega
  rw[Zov a hb]at c
  have cc:(bT 1 1&&bJ 0 1&&decide (0<=i/\i<((l.length:Nat):Int)))=true:=by simp[bJ];omega
  refine au cc (aa (λh1=>dc ?_) λh1=>au cc (aa (λh2=>dc ?_) λh2=>au cc (ea ?_)))
  ·show false=jU m.A1 l
   have h1:decide (l.getD i.toNat 0<last)=true:=h1
   rw[h1]at c
   exact c.symm
  ·show false=jU m.A1 l
   have h1:decide (l.getD i.toNat 0<last)=false:=h1
   have h2:decide (wrap .u64 (l.getD i.toNat 0-last)>4000)=true:=h2
   rw[h1,h2]at c
   exact c.symm
  ·have h1:decide (l.getD i.toNat 0<last)=false:=h1
   have h2:decide (wrap .u64 (l.getD i.toNat 0-last)>4000)=false:=h2
   rw[h1,h2]at c
   show(0<=i64.wrap (i+1)/\i64.wrap (i+1)<=l.length/\jU m.A1 l=jU (l.getD i.toNat 0) (l.drop (i64.wrap (i+1)).toNat))/\(l.length-i64.wrap (i+1)).toNat<(l.length-i).toNat
   rw[ew]
   exact⟨⟨by omega,by omega,c⟩,by omega⟩
 ·have hb:¬i<l.length:=oN hb
  rw[xu hb]at c
  exact c.symm
def comb(vl:List fx)(q:List fx×Int):List fx×Int:=bif q.2==0 then(vl++q.1,0)else([],q.2)
theorem PU(m:av)(s:List ep)(u:Int)(l:List Int):jr m s (u::l)=bif(bu m s u).2.2.2==0 then comb [{At:=u,D4:=lV (bu m s u).1}] (jr (bu m s u).1 (s.drop (bu m s u).2.2.1.toNat) l)else([],(bu m s u).2.2.2):=rfl
theorem Zhn(a b:List fx)(q:List fx×Int):comb a (comb b q)=comb (a++b) q:=by
 unfold comb
 cases h:q.2==0
 ·show(bif q.2==0 then _ else _)=_
  rw[h];rfl
 ·show((a++(b++q.1),(0:Int)):List fx×Int)=(a++b++q.1,0)
  rw[fG]
theorem ZB(h0:0<=i)(h1:i<=sc.length):dB (((sc.length:Nat):Int).toNat-i.toNat) (dC i.toNat sc)=sc.drop i.toNat:=by
 rw[eD]
 exact fL (by rw[bF];omega)
theorem zu{lC:List Int}{ua:Int}(h0:0<=i)(h1:i<lC.length)(h2:lB.length<=1000000):(PV i hash err lB lC ua).w (λr=>r=(true,lB++[{At:=lC.getD i.toNat 0,D4:=hash}],lC,err)):=by
 unfold PV
 exact au (dY ⟨h0,h1⟩) (au (dY (by omega)) (dc rfl))
structure te(P:Nat)(x:av)(sc:List ep):Prop where
 g:eu P x
 d:kq x
 hs:sc.length<=1000000
 hu:∀e∈sc,U e.C6.N
theorem te.next{x:av}(h:te P x sc){u:Int}(he:(bu x sc u).2.2.2=0):te P (bu x sc u).1 (sc.drop (bu x sc u).2.2.1.toNat)/\0<=(bu x sc u).2.2.1/\(bu x sc u).2.2.1<=sc.length:=by
 have k:=zP h.g h.hu he
 exact⟨⟨k.g,qaP h.g h.d h.hu u,by rw[bF];have:=h.hs;omega,xaO h.hu _⟩,k.lo,k.hi⟩
theorem yu{s:List ep}(st:te P m s){l:List Int}(hl:l.length<=400)(hr:∀x∈l,0<=x/\x<18446744073709551616):
 (PW m s l [] l 0).w (λr=>(bif r.2.2==0 then(r.1,0)else([],r.2.2))=jr m s l):=by
 unfold PW
 refine fi (inv:=λv:List ep×Int×List Int×Int×List fx×av=>0<=v.2.1/\v.2.1<=l.length/\v.2.2.1=l/\v.2.2.2.1=0/\te P v.2.2.2.2.2 v.1/\(v.2.2.2.2.1.length:Int)=v.2.1/\comb v.2.2.2.2.1 (jr v.2.2.2.2.2 v.1 (l.drop v.2.1.toNat))=jr m s l) (μ:=Qgk m s l [] l 0)
  ⟨cW 0,by show(0:Int)<=_;omega,rfl,rfl,st,rfl,?_⟩ (cO _) λv ⟨a1,a2,a3,a4,a5,a6,a7⟩=>?_
 ·show comb [] (jr m s l)=_
  unfold comb
  cases h:(jr m s l).2==0
  ·have:∀q:List fx×Int,jr m s l=q->(q.2==0)=false->q.1=[]:=λq hq hz=>by
    cases l with
    |nil=>rw[<-hq]at hz;cases hz
    |cons u l=>
     rw[PU]at hq
     cases h1:(bu m s u).2.2.2==0
     ·rw[h1]at hq;rw[<-hq];rfl
     ·rw[h1]at hq
      rw[<-hq]at hz⊢
      have hz:((comb [{At:=u,D4:=lV (bu m s u).1}] (jr (bu m s u).1 (s.drop (bu m s u).2.2.1.toNat) l)).2==0)=false:=hz
      show(comb [{At:=u,D4:=lV (bu m s u).1}] (jr (bu m s u).1 (s.drop (bu m s u).2.2.1.toNat) l)).1=[]
      unfold comb at hz⊢
      generalize jr (bu m s u).1 (s.drop (bu m s u).2.2.1.toNat) l=w at hz⊢
      cases h2:w.2==0
      ·rfl
      ·rw[h2]at hz;cases hz
   have h3:=this _ rfl h
   generalize jr m s l=q at h h3⊢
   obtain⟨q1,q2⟩:=q
   have h3:q1=[]:=h3
   rw[h3];rfl
  ·generalize jr m s l=q at h⊢
   obtain⟨q1,q2⟩:=q
   have h:(q2==0)=true:=h
   rw[show q2=0 from eq_of_beq h];rfl
 obtain⟨sc,i,va,vf,vl,x⟩:=v
 have a1:0<=i:=a1
 have a2:i<=l.length:=a2
 have a3:va=l:=a3
 have a4:vf=0:=a4
 subst a3;subst a4
 have a5:te P x sc:=a5
 have a6:(vl.length:Int)=i:=a6
 have a7:comb vl (jr x sc (va.drop i.toNat))=jr m s va:=a7
 refine aa (λhb=>?_) λhb=>dc ?_
 ·have hb:i<va.length:=oY hb
  have ew:i64.wrap (i+1)=i+1:=by rw[wrap_i64];omega
  have ru:=hr (va.getD i.toNat 0) (by rw[cP,cG (show i.toNat<va.length by omega)];exact fJ _)
  rw[PQ a1 hb 0,PU]at a7
  refine au (by simp[bJ];omega) (bh (vr a5.g.v a5.hs a5.hu ru.1 ru.2) λx0 ⟨e0,_,_⟩=>?_)
  have e0:x0=bu x sc (va.getD i.toNat 0):=e0
  refine aa (λhe=>bh (zu a1 hb (by omega)) λx1 e1=>dc ?_) λhe=>?_
  ·have he:(x0.2.2.2==0)=false:=by simpa using he
   rw[e1]
   show(bif x0.2.2.2==0 then((_,0):List fx×Int)else([],x0.2.2.2))=jr m s va
   rw[he,<-a7]
   rw[e0]at he⊢
   rw[he]
   show(([],_):List fx×Int)=comb vl ([],_)
   unfold comb
   show _=bif(bu x sc (va.getD i.toNat 0)).2.2.2==0 then _ else _
   rw[he];rfl
  ·have he:x0.2.2.2=0:=by simpa using he
   have EJ:(bu x sc (va.getD i.toNat 0)).2.2.2=0:=by rw[<-e0];exact he
   obtain⟨sn,n1,n2⟩:=a5.next EJ
   have pL:((bu x sc (va.getD i.toNat 0)).2.2.2==0)=true:=by rw[EJ];rfl
   rw[pL]at a7
   have a7:comb vl (comb [{At:=va.getD i.toNat 0,D4:=lV (bu x sc (va.getD i.toNat 0)).1}] (jr (bu x sc (va.getD i.toNat 0)).1 (sc.drop (bu x sc (va.getD i.toNat 0)).2.2.1.toNat) (va.drop (i+1).toNat)))=jr m s va:=a7
   rw[Zhn]at a7
   rw[<-e0]at sn n1 n2 a7
   obtain⟨hp,hh⟩:=HA sn.g sn.d
   refine au (by simp[bJ];omega) (cj hp (aq λx2 e2=>bh (zu a1 hb (by omega)) λx3 e3=>?_))
   rw[e3]
   refine aa (λh=>by cases h) λ_=>ea ?_
   show(0<=i64.wrap (i+1)/\i64.wrap (i+1)<=va.length/\va=va/\(0:Int)=0/\te P x0.1 (dB (((sc.length:Nat):Int).toNat-x0.2.2.1.toNat) (dC x0.2.2.1.toNat sc))/\((vl++[({At:=va.getD i.toNat 0,D4:=x2}:fx)]).length:Int)=i64.wrap (i+1)/\comb (vl++[({At:=va.getD i.toNat 0,D4:=x2}:fx)]) (jr x0.1 (dB (((sc.length:Nat):Int).toNat-x0.2.2.1.toNat) (dC x0.2.2.1.toNat sc)) (va.drop (i64.wrap (i+1)).toNat))=jr m s va)/\(va.length-i64.wrap (i+1)).toNat<(va.length-i).toNat
   rw[ew,ZB n1 n2,e2,hh,lA,cZ]
   exact⟨⟨by omega,by omega,rfl,rfl,sn,by omega,a7⟩,by omega⟩
 ·have hb:¬i<va.length:=oN hb
  rw[aA (by omega)]at a7
  show(bif(0:Int)==0 then(vl,(0:Int))else([],0))=_
  rw[<-a7]
  show(vl,(0:Int))=(vl++[],0)
  rw[cJ]
def ub(m:av)(s:List ep)(l:List Int):List fx×Int:=bif jB m s l==0 then jr m s l else([],jB m s l)
theorem ZC{s:List ep}{l:List Int}(h:jB m s l=0):jU m.A1 l=true/\kR m s m.A1=0:=by
 unfold jB at h
 cases hp:jU m.A1 l
 ·rw[hp]at h;exact absurd (show(4300:Int)=0 from h) (by decide)
 ·rw[hp]at h;exact⟨rfl,h⟩
theorem ZD(hv:pF m){s:List ep}{u:Int}(h:kR m s u=0):∃P,eu P m:=by
 have mm:mX m=true:=by rw[Jx hv];simpa using(yt.1 h).1
 obtain⟨P,gS,gM⟩:=s9 hv mm
 exact⟨P,gM,mm⟩
theorem vu(hv:pF m)(hc:m.A1<18446744073709551616)(d:kq m){s:List ep}(hs:s.length<=1000000)(hu:∀e∈s,U e.C6.N){l:List Int}(hl:l.length<=400)(hr:∀x∈l,0<=x/\x<18446744073709551616):(PX m s l).w (λr=>r=ub m s l):=by
 unfold PX
 refine bh (Zpg hv hc hs hu hl) λx0 e0=>?_
 refine aa (λh=>dc ?_) λh=>?_
 ·have h:(x0==0)=false:=by simpa using h
  unfold ub;rw[<-e0,h];rfl
 ·have h:x0=0:=by simpa using h
  have h0:jB m s l=0:=e0.symm.trans h
  obtain⟨P,g⟩:=ZD hv (ZC h0).2
  refine bh (yu ⟨g,d,hs,hu⟩ hl hr) λx1 e1=>?_
  have em:ub m s l=jr m s l:=by unfold ub;rw[h0];rfl
  rw[em,<-e1]
  refine aa (λh=>dc ?_) λh=>dc ?_
  ·have h:(x1.2.2==0)=false:=by simpa using h
   rw[h];rfl
  ·have h:(x1.2.2==0)=true:=by simpa using h
   rw[h];rfl
theorem qv{x:av}(st:te P x sc){u:Int}(u0:0<=u)(u1:u<18446744073709551616):(PY x sc u).w (λr=>r=((bu x sc u).1,(bu x sc u).2.2.1,(bu x sc u).2.2.2)):=by
 unfold PY
 refine bh (v7 st.g.v st.hs st.hu u0 u1) λx0 ⟨e0,_⟩=>dc ?_
 rw[e0]
theorem xv(hv:pF m)(hc:m.A1<18446744073709551616)(d:kq m){s:List ep}(hs:s.length<=1000000)(hu:∀e∈s,U e.C6.N){l:List Int}(hl:l.length<=400)(hr:∀x∈l,0<=x/\x<18446744073709551616):(PZ m s l).w (λr=>r=ub m s l):=by
 unfold PZ
 refine bh (zaP hl) λx0 e0=>?_
 refine aa (λh=>dc ?_) λh=>?_
 ·have h:x0=false:=by simpa using h
  have:jB m s l=4300:=by unfold jB;rw[<-e0,h];rfl
  unfold ub;rw[this];rfl
 have h:x0=true:=by simpa using h
 have hk:jB m s l=kR m s m.A1:=by unfold jB;rw[<-e0,h];rfl
 refine bh (v7 hv hs hu hv.lM hc) λx1 ⟨e1,_⟩=>?_
 have ee:x1.2.2.2=jB m s l:=by rw[e1,hk];exact PR m s
 refine aa (λh=>dc ?_) λh=>?_
 ·have h:(x1.2.2.2==0)=false:=by simpa using h
  unfold ub;rw[<-ee,h];rfl
 have h:x1.2.2.2=0:=by simpa using h
 have h0:jB m s l=0:=ee.symm.trans h
 obtain⟨P,g⟩:=ZD hv (ZC h0).2
 have em:ub m s l=jr m s l:=by unfold ub;rw[h0];rfl
 rw[em]
 refine fi (inv:=λv:List ep×Int×av×List fx=>0<=v.2.1/\v.2.1<=l.length/\te P v.2.2.1 v.1/\(v.2.2.2.length:Int)=v.2.1/\(v.2.2.2=[]/\v.2.2.1=m/\v.1=s/\v.2.1=0\/comb v.2.2.2 (jr v.2.2.1 v.1 (l.drop v.2.1.toNat))=jr m s l)) (μ:=Qj m s l)
  ⟨cW 0,by show(0:Int)<=_;omega,⟨g,d,hs,hu⟩,rfl,.inl ⟨rfl,rfl,rfl,rfl⟩⟩ (cO _) λv ⟨a1,a2,a5,a6,a7⟩=>?_
 obtain⟨sc,i,x,vl⟩:=v
 have a1:0<=i:=a1
 have a2:i<=l.length:=a2
 have a5:te P x sc:=a5
 have a6:(vl.length:Int)=i:=a6
 refine aa (λhb=>?_) λhb=>dc ?_
 ·have hb:i<l.length:=oY hb
  have ew:i64.wrap (i+1)=i+1:=by rw[wrap_i64];omega
  have ru:=hr (l.getD i.toNat 0) (by rw[cP,cG (show i.toNat<l.length by omega)];exact fJ _)
  have step:(((bu x sc (l.getD i.toNat 0)).2.2.2==0)=false->jr m s l=([],(bu x sc (l.getD i.toNat 0)).2.2.2))/\(((bu x sc (l.getD i.toNat 0)).2.2.2==0)=true->comb (vl++[{At:=l.getD i.toNat 0,D4:=lV (bu x sc (l.getD i.toNat 0)).1}]) (jr (bu x sc (l.getD i.toNat 0)).1 (sc.drop (bu x sc (l.getD i.toNat 0)).2.2.1.toNat) (l.drop (i+1).toNat))=jr m s l):=by
   rcases a7 with⟨q1,q2,q3,q4⟩|a7
   ·have q1:vl=[]:=q1
    have q2:x=m:=q2
    have q3:sc=s:=q3
    have q4:i=0:=q4
    have e:=PQ a1 hb 0
    rw[q4]at e
    have e:l=l.getD (0:Int).toNat 0::l.drop ((0:Int)+1).toNat:=e
    have em:=PU m s (l.getD (0:Int).toNat 0) (l.drop ((0:Int)+1).toNat)
    rw[<-e]at em
    rw[q1,q2,q3,q4,em]
    exact⟨λh=>by rw[h];rfl,λh=>by rw[h];rfl⟩
   ·have a7:comb vl (jr x sc (l.drop i.toNat))=jr m s l:=a7
    rw[PQ a1 hb 0,PU]at a7
    refine⟨λh=>?_,λh=>?_⟩
    ·rw[h]at a7
     rw[<-a7]
     show comb vl ([],_)=_
     unfold comb
     show(bif(bu x sc (l.getD i.toNat 0)).2.2.2==0 then _ else _)=_
     rw[h];rfl
    ·rw[h]at a7
     rw[<-Zhn];exact a7
  have cc:(bT 1 1&&bJ 0 1&&decide (0<=i/\i<((l.length:Nat):Int)))=true:=by simp[bJ];omega
  refine au cc (bh (qv a5 ru.1 ru.2) λx2 e2=>?_)
  rw[e2]
  refine aa (λhe=>dc ?_) λhe=>?_
  ·have he:((bu x sc (l.getD i.toNat 0)).2.2.2==0)=false:=by simpa using he
   exact(step.1 he).symm
  ·have EJ:(bu x sc (l.getD i.toNat 0)).2.2.2=0:=by simpa using he
   have UO:=step.2 (by rw[EJ];rfl)
   obtain⟨sn,n1,n2⟩:=a5.next EJ
   generalize bu x sc (l.getD i.toNat 0)=r at sn n1 n2 UO⊢
   obtain⟨hp,hh⟩:=PO sn.g sn.d
   refine au (by show(bT 4 4&&bJ 0 4&&decide (0<=r.2.2.1/\r.2.2.1<=((sc.length:Nat):Int)/\((sc.length:Nat):Int)<=((sc.length:Nat):Int)))=true;simp[bJ];omega) (au cc (cj hp (aq λx3 e3=>au (dY (by show 16*(vl.length+1)<=_;omega)) (ea ?_))))
   show(0<=i64.wrap (i+1)/\i64.wrap (i+1)<=l.length/\te P r.1 (dB (((sc.length:Nat):Int).toNat-r.2.2.1.toNat) (dC r.2.2.1.toNat sc))/\((vl++[({At:=l.getD i.toNat 0,D4:=x3}:fx)]).length:Int)=i64.wrap (i+1)/\(_\/comb (vl++[({At:=l.getD i.toNat 0,D4:=x3}:fx)]) (jr r.1 (dB (((sc.length:Nat):Int).toNat-r.2.2.1.toNat) (dC r.2.2.1.toNat sc)) (l.drop (i64.wrap (i+1)).toNat))=jr m s l))/\(l.length-i64.wrap (i+1)).toNat<(l.length-i).toNat
   have e3:x3=lV r.1:=e3.trans hh
   rw[ew,ZB n1 n2,e3,lA,cZ]
   exact⟨⟨by omega,by omega,sn,by omega,.inr UO⟩,by omega⟩
 ·have hb:¬i<l.length:=oN hb
  show(vl,(0:Int))=jr m s l
  rcases a7 with⟨q1,q2,q3,q4⟩|a7
  ·have q1:vl=[]:=q1
   have q4:i=0:=q4
   have:l=[]:=by cases l with|nil=>rfl|cons a b=>exfalso;rw[q4]at hb;simp at hb
   rw[this,q1];rfl
  ·have a7:comb vl (jr x sc (l.drop i.toNat))=jr m s l:=a7
   rw[aA (by omega)]at a7
   rw[<-a7]
   show(vl,(0:Int))=(vl++[],0)
   rw[cJ]
abbrev j0(l:List fx)(i:Int):fx:=l.getD i.toNat (RK.cw RK.ae)
def nT(i last:Int):jW:={Good:=false,D8:=i,At:=last}
def BG(m:av)(va:List Int)(i:Int):Int:=if i>0 then va.getD (i-1).toNat 0 else m.A1
theorem xaP(l:List fx)(n:Nat):(l.map (·.At)).getD n 0=(l.getD n (RK.cw RK.ae)).At:=by
 rw[cP,cP,fM]
 cases l[n]? <;>rfl
theorem yP(m:av)(s:List ep)(i last:Int)(c:fx)(l:List fx):jA m s i last (c::l)=bif((bu m s c.At).2.2.2==0)&&(lV (bu m s c.At).1==c.D4)then jA (bu m s c.At).1 (s.drop (bu m s c.At).2.2.1.toNat) (i+1) c.At l else nT i last:=rfl
theorem Zp9{lC:av}{ua:jW}{oc:List Int}(h0:0<=i)(h1:i<lB.length)(h3:oc.length=lB.length)(hl:lB.length<=1000000):
 (P0 i hash err lB lC ua oc).w (λr=>r=((err==0)&&(hash==(j0 lB i).D4),lB,lC,bif(err==0)&&(hash==(j0 lB i).D4)then ua else nT i (BG lC oc i),oc)):=by
 unfold P0
 have ew:i64.wrap (i-1)=i-1:=by rw[wrap_i64];omega
 have bad:∀b:Bool,b=false->(Tree.br (decide (i>0)) (.cn (decide (0<=i64.wrap (i-1)/\i64.wrap (i-1)<((oc.length:Nat):Int))) (.lf ((false,lB,lC,{Good:=false,D8:=i,At:=oc.getD (i64.wrap (i-1)).toNat 0},oc):Bool×List fx×av×jW×List Int))) (.lf (false,lB,lC,{Good:=false,D8:=i,At:=lC.A1},oc))).w (λr=>r=(b,lB,lC,bif b then ua else nT i (BG lC oc i),oc)):=λb hb=>by
  subst hb
  refine aa (λh=>au (dY (by have:=oY h;rw[ew];omega)) (dc ?_)) λh=>dc ?_
  ·have h:=oY h
   rw[ew]
   show _=((false,lB,lC,nT i (BG lC oc i),oc):Bool×List fx×av×jW×List Int)
   unfold nT BG;rw[if_pos h]
  ·have h:=oN h
   show _=((false,lB,lC,nT i (BG lC oc i),oc):Bool×List fx×av×jW×List Int)
   unfold nT BG;rw[if_neg h]
 refine aa (λhe=>au (by simp[bJ];omega) (aa (λhh=>dc ?_) λhh=>?_)) λhe=>?_
 ·have hh:(hash==(j0 lB i).D4)=true:=hh
  rw[he,hh];rfl
 ·have hh:(hash==(j0 lB i).D4)=false:=hh
  exact bad _ (by rw[he,hh];rfl)
 ·exact bad _ (by rw[he];rfl)
theorem zv{s:List ep}(st:te P m s){l:List fx}(hl:l.length<=400)(hr:∀c∈l,0<=c.At/\c.At<18446744073709551616):
 (P1 m s (l.map (·.At)) l m {Good:=true,D8:=0,At:=0} (l.map (·.At))).w (λr=>r.2.2.1=jA m s 0 m.A1 l):=by
 unfold P1
 refine fi (inv:=λv:List ep×Int×List fx×av×jW×List Int×av=>0<=v.2.1/\v.2.1<=l.length/\v.2.2.1=l/\v.2.2.2.1=m/\v.2.2.2.2.1={Good:=true,D8:=0,At:=0}/\v.2.2.2.2.2.1=l.map (·.At)/\te P v.2.2.2.2.2.2 v.1/\jA v.2.2.2.2.2.2 v.1 v.2.1 (BG m (l.map (·.At)) v.2.1) (l.drop v.2.1.toNat)=jA m s 0 m.A1 l) (μ:=Qgh m s (l.map (·.At)) l m {Good:=true,D8:=0,At:=0} (l.map (·.At)))
  ⟨cW 0,by show(0:Int)<=_;omega,rfl,rfl,rfl,rfl,st,rfl⟩ (cO _) λv ⟨a1,a2,a3,a4,a5,a6,a7,a8⟩=>?_
 obtain⟨sc,i,vl,vm,vv,va,x⟩:=v
 have a1:0<=i:=a1
 have a2:i<=l.length:=a2
 have a3:vl=l:=a3
 have a4:vm=m:=a4
 have a5:vv={Good:=true,D8:=0,At:=0}:=a5
 have a6:va=l.map (·.At):=a6
 subst a3;subst a4;subst a5;subst a6
 have a7:te P x sc:=a7
 have a8:jA x sc i (BG vm (vl.map (·.At)) i) (vl.drop i.toNat)=jA vm s 0 vm.A1 vl:=a8
 have ml:(vl.map (·.At)).length=vl.length:=fI ..
 have vl6:vl.length<=1000000:=by omega
 refine aa (λhb=>?_) λhb=>dc ?_
 ·have hb:i<((vl.map (·.At)).length:Nat):=oY hb
  have hb:i<vl.length:=by rw[ml]at hb;exact hb
  have ew:i64.wrap (i+1)=i+1:=by rw[wrap_i64];omega
  have em:(vl.map (·.At)).getD i.toNat 0=(j0 vl i).At:=xaP vl i.toNat
  have ru:=hr (j0 vl i) (by show vl.getD i.toNat _∈vl;rw[cP,cG (show i.toNat<vl.length by omega)];exact fJ _)
  rw[PQ a1 hb (RK.cw RK.ae)]at a8
  have a8:jA x sc i (BG vm (vl.map (·.At)) i) (j0 vl i::vl.drop (i+1).toNat)=jA vm s 0 vm.A1 vl:=a8
  rw[yP]at a8
  refine au (by simp[bJ];omega) ?_
  show(Tree.an (P2 x sc ((vl.map (·.At)).getD i.toNat 0)) _).w _
  rw[em]
  refine bh (vr a7.g.v a7.hs a7.hu ru.1 ru.2) λx0 ⟨e0,_,_⟩=>?_
  have e0:x0=bu x sc (j0 vl i).At:=e0
  refine aa (λhe=>bh (Zp9 a1 hb ml vl6) λx1 e1=>dc ?_) λhe=>?_
  ·have he:(x0.2.2.2==0)=false:=by simpa using he
   have EJ:((bu x sc (j0 vl i).At).2.2.2==0)=false:=by rw[<-e0];exact he
   rw[EJ]at a8
   rw[e1,<-a8]
   show(bif(x0.2.2.2==0)&&_ then _ else nT i _)=_
   rw[he];rfl
  ·have he:x0.2.2.2=0:=by simpa using he
   have EJ:(bu x sc (j0 vl i).At).2.2.2=0:=by rw[<-e0];exact he
   obtain⟨sn,n1,n2⟩:=a7.next EJ
   have pL:((bu x sc (j0 vl i).At).2.2.2==0)=true:=by rw[EJ];rfl
   rw[pL,fN]at a8
   rw[<-e0]at sn n1 n2 a8
   obtain⟨hp,hh⟩:=HA sn.g sn.d
   refine au (by simp[bJ];omega) (cj hp (aq λx2 e2=>bh (Zp9 a1 hb ml vl6) λx3 e3=>?_))
   have e2:x2=lV x0.1:=e2.trans hh
   rw[<-e2]at a8
   have z:(((0:Int)==0)&&(x2==(j0 vl i).D4))=(x2==(j0 vl i).D4):=fN _
   rw[z]at e3
   rw[e3]
   refine aa (λh=>dc ?_) λh=>ea ?_
   ·have h:(x2==(j0 vl i).D4)=false:=by simpa using h
    rw[h]at a8
    show(bif(x2==(j0 vl i).D4)then _ else nT i _)=_
    rw[h];exact a8
   ·have h:(x2==(j0 vl i).D4)=true:=by simpa using h
    rw[h]at a8
    have a8:jA x0.1 (sc.drop x0.2.2.1.toNat) (i+1) (j0 vl i).At (vl.drop (i+1).toNat)=jA vm s 0 vm.A1 vl:=a8
    have la:BG vm (vl.map (·.At)) (i+1)=(j0 vl i).At:=by
     unfold BG;rw[if_pos (by omega),show i+1-1=i by omega];exact em
    show(0<=i64.wrap (i+1)/\i64.wrap (i+1)<=vl.length/\vl=vl/\vm=vm/\(bif(x2==(j0 vl i).D4)then({Good:=true,D8:=0,At:=0}:jW)else nT i _)={Good:=true,D8:=0,At:=0}/\vl.map (·.At)=vl.map (·.At)/\te P x0.1 (dB (((sc.length:Nat):Int).toNat-x0.2.2.1.toNat) (dC x0.2.2.1.toNat sc))/\jA x0.1 (dB (((sc.length:Nat):Int).toNat-x0.2.2.1.toNat) (dC x0.2.2.1.toNat sc)) (i64.wrap (i+1)) (BG vm (vl.map (·.At)) (i64.wrap (i+1))) (vl.drop (i64.wrap (i+1)).toNat)=jA vm s 0 vm.A1 vl)/\((vl.map (·.At)).length-i64.wrap (i+1)).toNat<((vl.map (·.At)).length-i).toNat
    rw[ew,ZB n1 n2,la,h,ml]
    exact⟨⟨by omega,by omega,rfl,rfl,rfl,rfl,sn,a8⟩,by omega⟩
 ·have hb:¬i<((vl.map (·.At)).length:Nat):=oN hb
  have hb:¬i<vl.length:=by rw[ml]at hb;exact hb
  rw[aA (by omega)]at a8
  exact a8
def CZ(m:av)(s:List ep)(l:List fx):jW×Int:=bif jB m s (l.map (·.At))==0 then(jA m s 0 m.A1 l,0)else(nT 0 0,jB m s (l.map (·.At)))
theorem vP{l:List fx}(h0:0<=i)(h:i<l.length):(l.take i.toNat).map (·.At)++[(j0 l i).At]=(l.take (i+1).toNat).map (·.At):=by
 have bz:i.toNat<l.length:=by omega
 rw[show(i+1).toNat=i.toNat+1 by omega,<-List.take_append_getElem bz,bL,List.map_singleton]
 congr 2
 show(l.getD i.toNat _).At=_
 rw[cP,cG bz];rfl
section
variable {m:av} (hv:pF m) (hc:m.A1<18446744073709551616) (d:kq m) {s:List ep} (hs:s.length<=1000000) (hu:∀e∈s,U e.C6.N) {l:List fx} (hl:l.length<=400) (hr:∀c∈l,0<=c.At/\c.At<18446744073709551616)
include hv hc d hs hu hl hr
theorem ZE:(P3 m s l).w (λr=>r=CZ m s l):=by
 unfold P3
 refine fi (inv:=λv:Int×List Int=>0<=v.1/\v.1<=l.length/\v.2=(l.take v.1.toNat).map (·.At)) (μ:=Qlu m s l) ⟨cW 0,by show(0:Int)<=_;omega,rfl⟩ (cO _) λv ⟨a1,a2,a3⟩=>?_
 obtain⟨i,out⟩:=v
 have a1:0<=i:=a1
 have a2:i<=l.length:=a2
 have a3:out=(l.take i.toNat).map (·.At):=a3
 have ol:out.length<=400:=by rw[a3,fI,List.length_take];omega
 refine aa (λhb=>?_) λhb=>?_
 ·have hb:i<l.length:=oY hb
  have ew:i64.wrap (i+1)=i+1:=by rw[wrap_i64];omega
  refine au (by simp[bJ];omega) (au (dY (by show 8*(out.length+1)<=_;omega)) (ea ?_))
  show(0<=i64.wrap (i+1)/\i64.wrap (i+1)<=l.length/\out++[(j0 l i).At]=(l.take (i64.wrap (i+1)).toNat).map (·.At))/\(l.length-i64.wrap (i+1)).toNat<(l.length-i).toNat
  rw[ew,a3]
  exact⟨⟨by omega,by omega,vP a1 hb⟩,by omega⟩
 ·have hb:¬i<l.length:=oN hb
  have a3:out=l.map (·.At):=by rw[a3,fL (by omega)]
  subst a3
  refine bh (Zpg hv hc hs hu ol) λx0 e0=>?_
  refine aa (λh=>dc ?_) λh=>?_
  ·have h:(x0==0)=false:=by simpa using h
   show(nT 0 0,x0)=CZ m s l
   unfold CZ;rw[<-e0,h];rfl
  ·have h:x0=0:=by simpa using h
   have h0:jB m s (l.map (·.At))=0:=e0.symm.trans h
   obtain⟨P,g⟩:=ZD hv (ZC h0).2
   refine bh (zv ⟨g,d,hs,hu⟩ hl hr) λx1 e1=>dc ?_
   show(x1.2.2.1,(0:Int))=CZ m s l
   unfold CZ;rw[h0,e1];rfl
end
structure HB(m:av)(s:List ep):Prop where
 st:te 8 m s
 c:m.A1<=87
theorem xav{prog events:List Int}(hl:prog.length*8<=reachBytes)(rL:prog.length<=60)(h20:events.length<=20):(P4 kind prog events).w (λr=>HB r.1 r.2):=by
 unfold P4
 refine xat hl rL (by omega) λm x hm g gc hx gp=>dc ?_
 have n:=JH g gc
 have u:=y7 events (s:=({A0:=m,B4:=0,C8:=[],B1:=[]},[])) n.g n.q (λe he=>by cases he)
 rw[<-hx]at u
 exact⟨⟨g,by rw[hm];exact Zb0 kind prog hl rL,by have:=gp.l;show x.1.C8.length<=1000000;omega,u⟩,gc⟩
theorem Zpk:∀{l:List Int} {a y:Int},uX a l->a<=y->(∀x∈l,x<=y)->uX a (l++[y])
 |[],a,y,h,h1,h2=>⟨h1,trivial⟩
 |x::l,a,y,h,h1,h2=>⟨h.1,Zpk h.2 (h2 x (by simp)) λz hz=>h2 z (by simp[hz])⟩
structure Aa(c:Int)(r:List Int):Prop where
 asc:uX c r
 le:∀x∈r,c<=x/\x<=c+200
theorem qaw(h0:0<=m.A1)(hc:m.A1<=87){l:List Int}(hl:l.length<=10):(P5 m l).w (λr=>r.length=l.length/\Aa m.A1 r):=by
 unfold P5
 refine fi (inv:=λv:Int×Int×List Int=>0<=v.2.1/\v.2.1<=l.length/\m.A1<=v.1/\v.1<=m.A1+20*v.2.1/\(v.2.2.length:Int)=v.2.1/\uX m.A1 v.2.2/\∀x∈v.2.2,m.A1<=x/\x<=v.1) (μ:=Qfn m l) ⟨cW 0,by show(0:Int)<=_;omega,cW _,by show m.A1<=m.A1+20*0;omega,rfl,trivial,λx hx=>by cases hx⟩ (cO _) λv ⟨a1,a2,a3,a4,a5,a6,a7⟩=>?_
 obtain⟨cr,i,out⟩:=v
 have a1:0<=i:=a1
 have a2:i<=l.length:=a2
 have a3:m.A1<=cr:=a3
 have a4:cr<=m.A1+20*i:=a4
 have a5:(out.length:Int)=i:=a5
 have a6:uX m.A1 out:=a6
 have a7:∀x∈out,m.A1<=x/\x<=cr:=a7
 refine aa (λhb=>?_) λhb=>dc ?_
 ·have hb:i<l.length:=oY hb
  have ew:i64.wrap (i+1)=i+1:=by rw[wrap_i64];omega
  refine au (by simp[bJ];omega) (cj (GW (by decide)) (aq λx0 e0=>au (dY (by show 8*(out.length+1)<=_;omega)) (ea ?_)))
  have rr:=Z3z (n:=l.getD i.toNat 0) (k:=20) (by decide) (by decide)
  have e0:x0=w7 (l.getD i.toNat 0) 20:=e0
  rw[<-e0]at rr
  have w1:wrap .u64 (cr+wrap .u64 x0)=cr+x0:=by rw[wrap_u64,wrap_u64];omega
  show(0<=i64.wrap (i+1)/\i64.wrap (i+1)<=l.length/\m.A1<=wrap .u64 (cr+wrap .u64 x0)/\wrap .u64 (cr+wrap .u64 x0)<=m.A1+20*i64.wrap (i+1)/\((out++[wrap .u64 (cr+wrap .u64 x0)]).length:Int)=i64.wrap (i+1)/\uX m.A1 (out++[wrap .u64 (cr+wrap .u64 x0)])/\∀x∈out++[wrap .u64 (cr+wrap .u64 x0)],m.A1<=x/\x<=wrap .u64 (cr+wrap .u64 x0))/\(l.length-i64.wrap (i+1)).toNat<(l.length-i).toNat
  rw[ew,w1,lA,cZ]
  refine⟨⟨by omega,by omega,by omega,by omega,by omega,Zpk a6 (by omega) λx hx=>by have:=a7 x hx;omega,λx hx=>?_⟩,by omega⟩
  rcases List.mem_append.1 hx with hx|hx
  ·have:=a7 x hx;omega
  ·rw[List.mem_singleton.1 hx];omega
 ·have hb:¬i<l.length:=oN hb
  exact⟨by show out.length=_;omega,a6,λx hx=>by have:=a7 x hx;omega⟩
theorem Aa.u{c:Int}{r:List Int}(h:Aa c r)(h0:0<=c)(h1:c<=87):∀x∈r,0<=x/\x<18446744073709551616:=λx hx=>by have:=h.le x hx;omega
theorem yv{l:List Int}{s:List ep}(h:(jr m s l).2≠0):(jr m s l).1=[]:=by
 cases l with
 |nil=>exact absurd rfl h
 |cons u l=>
  rw[PU]at h⊢
  cases h1:(bu m s u).2.2.2==0
  ·rfl
  ·rw[h1]at h
   show(comb _ _).1=[]
   have h:(comb [{At:=u,D4:=lV (bu m s u).1}] (jr (bu m s u).1 (s.drop (bu m s u).2.2.1.toNat) l)).2≠0:=h
   unfold comb at h⊢
   generalize jr (bu m s u).1 (s.drop (bu m s u).2.2.1.toNat) l=w at h⊢
   cases h2:w.2==0
   ·rfl
   ·rw[h2]at h;exact absurd rfl h
theorem Zs0{l:List Int}{s:List ep}(h:(ub m s l).2≠0):(ub m s l).1=[]:=by
 unfold ub at h⊢
 cases h1:jB m s l==0
 ·rfl
 ·rw[h1]at h;exact yv h
theorem ZF{l:List Int}{s:List ep}(h:(ub m s l).2=0):jB m s l=0/\jr m s l=((ub m s l).1,0):=by
 unfold ub at h⊢
 cases h1:jB m s l==0
 ·rw[h1]at h
  have h:jB m s l=0:=h
  rw[h]at h1;cases h1
 ·rw[h1]at h
  have h:(jr m s l).2=0:=h
  refine⟨eq_of_beq h1,?_⟩
  show jr m s l=((jr m s l).1,0)
  rw[<-h]
theorem ZG:∀{l:List Int} {m:av} {s:List ep} {L:List fx} {P:Nat},te P m s->jr m s l=(L,0)->∀c∈L,c.At∈l/\0<=c.D4/\c.D4<18446744073709551616
 |[],m,s,L,P,st,h,c,hc=>by rw[show L=[] from(Prod.mk.inj h).1.symm]at hc;cases hc
 |u ::l,m,s,L,P,st,h,c,hc=>by
  obtain⟨h1,K,e,h2⟩:=PN h
  obtain⟨sn,_,_⟩:=st.next h1
  rw[e]at hc
  rcases List.mem_cons.1 hc with hc|hc
  ·rw[hc];exact⟨by simp,Zli sn.g sn.d⟩
  ·obtain⟨p,q⟩:=ZG sn h2 c hc
   exact⟨by simp[p],q⟩
theorem qQ{a:List fx}(ha:a.length<=1000000):(P6 a a).w (λb=>b=true):=by
 unfold P6
 refine aa (λh=>by simp at h) λ_=>?_
 refine fi (inv:=λv:Int=>0<=v/\v<=a.length) (μ:=Qo5 a a) ⟨cW 0,by show(0:Int)<=_;omega⟩ (cO _) λv ⟨a1,a2⟩=>?_
 refine aa (λhb=>?_) λ_=>dc rfl
 have hb:v<a.length:=oY hb
 have ew:i64.wrap (v+1)=v+1:=by rw[wrap_i64];omega
 have cc:(bT 2 2&&bJ 0 2&&decide (0<=v/\v<((a.length:Nat):Int)))=true:=by simp[bJ];omega
 refine au cc (au cc (aa (λh=>?_) λ_=>ea ?_))
 ·exfalso
  generalize a.getD v.toNat (RK.cw RK.ae)=c at h
  have:eqs [D.int .u64 c.At,D.int .u64 c.D4] [D.int .u64 c.At,D.int .u64 c.D4]=true:=by simp[eqs,P7]
  rw[this]at h;cases h
 ·show(0<=i64.wrap (v+1)/\i64.wrap (v+1)<=a.length)/\(a.length-i64.wrap (v+1)).toNat<(a.length-v).toNat
  rw[ew]
  exact⟨⟨by omega,by omega⟩,by omega⟩
section
instance qw (i:Int):Ck (HC i):=let d:Decidable (HC i):=(by delta HC;infer_instance);⟨@decide _ d,@oY _ d⟩
instance Zlj (a:bm) (b:bm):Ck (Qak a b):=rV (t:=P8 a b) (by delta P8;infer_instance)
instance Znw (a:List Int) (b:List Int):Ck (Qal a b):=rV (t:=P9 a b) (by delta P9;infer_instance)
instance Zt9 (a:av) (b:av):Ck (QA a b):=rV (t:=QB a b) (by delta QB;infer_instance)
abbrev mA:av:=FV 2 [0]
def mA5(m:av):av:={B0:={X:={a0:=m.B0.X.a0,a1:=m.B0.X.a1,a2:=m.B0.X.a2,a3:=m.B0.X.a3,a4:=m.B0.X.a4,a5:=7,a6:=m.B0.X.a6,a7:=m.B0.X.a7,a8:=m.B0.X.a8,a9:=m.B0.X.a9,kv:=m.B0.X.kv,ky:=m.B0.X.ky,a12:=m.B0.X.a12,kz:=m.B0.X.kz,kA:=m.B0.X.kA,kB:=m.B0.X.kB},Pc:=m.B0.Pc,B3:=m.B0.B3},Mem:=m.Mem,A3:=m.A3,A9:=m.A9,A7:=m.A7,C1:=m.C1,A2:=m.A2,A1:=m.A1,A4:=m.A4,A6:=m.A6}
theorem xQ:QA mA (mA5 mA):=ck inferInstance (by kernel_rfl)
theorem zQ:QA mA mA:=ck inferInstance (by kernel_rfl)
theorem yQ:UP mA (mA5 mA)=[120,32,53]:=by kernel_rfl
theorem vQ:UP mA mA=[]:=by kernel_rfl
end
theorem Da:(ub mA [] [1,3]).2=0:=by kernel_rfl
theorem QC:QD.w (λr=>r=true):=by
 unfold QD
 refine cj (Tree.pp (Zgk 2 [0] (by decide))).1 (aq λx0 e0=>?_)
 subst e0
 obtain⟨g,gc⟩:=Z0m 2 [0] (by decide) (by decide)
 have d:=Zb0 2 [0] (by decide) (by decide)
 have hc:mA.A1<18446744073709551616:=by show(FV 2 [0]).A1<_;omega
 refine bh (vu g.v hc d (s:=[]) (aT _) (λe he=>by cases he) (l:=[1,3]) (by decide) (λx hx=>by simp at hx;omega)) λx1 e1=>?_
 obtain⟨c0,mk⟩:=ZF Da
 rw[<-e1]at mk
 have jc:x1.2=0:=by rw[e1];exact Da
 obtain⟨L,e⟩:=x1
 have jc:e=0:=jc
 subst jc
 have mk:jr mA [] [1,3]=(L,0):=mk
 have ma:=UL mk
 have l2:L.length=2:=by rw[<-fI (f:=(·.At)),ma];rfl
 have mm:=ZG (P:=8) ⟨g,d,aT _,λe he=>by cases he⟩ mk
 have hr:∀c∈L,0<=c.At/\c.At<18446744073709551616:=λc hc=>by have:=(mm c hc).1;simp at this;omega
 have ckL:CZ mA [] L=({Good:=true,D8:=0,At:=0},0):=by
  unfold CZ
  rw[ma,c0]
  show(jA mA [] 0 mA.A1 L,(0:Int))=_
  rw[Zz mk]
 refine aa (λh=>by cases h) λ_=>aa (λh=>?_) λ_=>?_
 ·exfalso
  have h:(((L.length:Nat):Int) !=2)=true:=h
  rw[l2]at h;cases h
 refine bh (ZE g.v hc d (s:=[]) (aT _) (λe he=>by cases he) (l:=L) (by omega) hr) λx2 e2=>?_
 have cc:(bT 2 2&&bJ 0 2&&decide ((0:Int)<=1/\(1:Int)<((L.length:Nat):Int)))=true:=by rw[l2];rfl
 refine au cc (au cc ?_)
 obtain⟨q,hq⟩:∃q:fx,q=L.getD 1 (RK.cw RK.ae):=⟨_,rfl⟩
 have hqd:L.getD 1 default=q:=by
  rw[hq,cP,cP,cG (show 1<L.length by omega)];rfl
 have hqm:q∈L:=by rw[hq,cP,cG (show 1<L.length by omega)];exact fJ _
 have hqr:=(mm q hqm).2
 have sl:(L.set 1 {At:=q.At,D4:=wrap .u64 (q.D4+1)}).length=2:=by rw[dH,l2]
 have sm:(L.set 1 ({At:=q.At,D4:=wrap .u64 (q.D4+1)}:fx)).map (·.At)=L.map (·.At):=by
  apply List.ext_getElem
  ·rw[fI,fI,dH]
  ·intro n h1 h2
   rw[bO,bO,List.getElem_set]
   split
   ·rename_i hn
    subst hn
    show q.At=_
    rw[hq,cP,cG (show 1<L.length by omega)];rfl
   ·rfl
 have ckS:CZ mA [] (L.set 1 {At:=q.At,D4:=wrap .u64 (q.D4+1)})=({Good:=false,D8:=1,At:=1},0):=by
  unfold CZ
  rw[sm,ma,c0]
  have f:=Hz 1 mk (by omega) 0 mA.A1 (wrap .u64 (q.D4+1)) (by rw[hqd,wrap_u64];omega)
  rw[hqd]at f
  show(jA mA [] 0 mA.A1 _,(0:Int))=_
  rw[f]
  have h0:(L.getD (1-1) default).At=1:=by
   have:(L.map (·.At)).getD 0 0=(L.getD 0 default).At:=by
    rw[cP,cP,fM,cG (show 0<L.length by omega)];rfl
   rw[ma]at this
   exact this.symm
  rw[h0];rfl
 have QE:∀c∈L.set 1 {At:=(L.getD 1 (RK.cw RK.ae)).At,D4:=wrap .u64 ((L.getD 1 (RK.cw RK.ae)).D4+1)},0<=c.At/\c.At<18446744073709551616:=λc rM=>by
  rcases List.mem_or_eq_of_mem_set rM with h|h
  ·exact hr c h
  ·rw[h,<-hq];exact hr q hqm
 refine bh (ZE g.v hc d (s:=[]) (aT _) (λe he=>by cases he) (l:=L.set 1 {At:=(L.getD 1 (RK.cw RK.ae)).At,D4:=wrap .u64 ((L.getD 1 (RK.cw RK.ae)).D4+1)}) (by rw[dH];omega) QE) λx3 e3=>?_
 rw[<-hq]at e3
 rw[e2,e3,ckL,ckS]
 have no:∀{t:Tree Bool},false=true->t.w (λr=>r=true):=λh=>by cases h
 refine aa (λ_=>aa (λ_=>aa (λ_=>aa (λ_=>aa (λ_=>aa (λ_=>?_) λh=>by cases h) λh=>by cases h) λh=>by cases h) λh=>by cases h) λh=>by cases h) λh=>by cases h
 refine cj xQ (aq λx4 e4=>aa (λ_=>cj zQ (aq λx5 e5=>dc ?_)) λh=>?_)
 ·have e5:x5=[]:=e5.trans vQ
  rw[e5];rfl
 ·have e4:x4=[120,32,53]:=e4.trans yQ
  rw[e4]at h;cases h
theorem ZH{W:Bool->Prop}(h:W true):(Tree.an MH (.lv JT λx=>.lf x)).w W:=by
 obtain⟨p,q⟩:=Tree.pp QC
 exact cj p (aq λx e=>by show W x;rw[e,show JT=true from q];exact h)
theorem Au(kind:Int)(prog events l:List Int)(hl:prog.length*8<=reachBytes):Qdm kind prog events l/\Qdc kind prog events l=true:=by
 have aw:=ZH (W:=λr=>r=true) rfl
 refine Tree.pp (W:=λr=>r=true) ?_
 unfold UQ
 refine aa (λ_=>aw) λh1=>aa (λ_=>aw) λh2=>aa (λ_=>aw) λh3=>?_
 have f1:prog.length<=60:=by have:=oN h1;omega
 have f2:events.length<=20:=by have:=oN h2;omega
 have f3:l.length<=10:=by have:=oN h3;omega
 refine bh (xav hl f1 f2) λx3 R=>?_
 obtain⟨m,s⟩:=x3
 have R:HB m s:=R
 have g:=R.st.g
 have c0:=g.ok.lM
 have c1:=R.c
 obtain⟨pp,p1,p2⟩:=Tree.pp (qaw c0 c1 f3)
 refine cj pp (aq λx4 e4=>?_)
 have e4:x4=QF m l:=e4
 have p1:(QF m l).length=l.length:=p1
 have p2:Aa m.A1 (QF m l):=p2
 rw[<-e4]at p1 p2
 refine bh (vu g.v (by omega) R.st.d R.st.hs R.st.hu (l:=x4) (by omega) (p2.u c0 c1)) λx5 e5=>cj pp (aq λx6 e6=>?_)
 have e6:x6=x4:=e6.trans e4.symm
 subst e6
 refine bh (xv g.v (by omega) R.st.d R.st.hs R.st.hu (l:=x6) (by omega) (p2.u c0 c1)) λx7 e7=>?_
 have e7:x7=x5:=e7.trans e5.symm
 subst e7
 refine aa (λh=>by simp at h) λ_=>?_
 have ll:x7.1.length<=10:=by
  by_cases h:x7.2=0
  ·rw[e5]at h⊢
   have:=UL (ZF h).2
   rw[<-fI (f:=(·.At)),this];omega
  ·rw[e5]at h⊢
   rw[Zs0 h];exact aT _
 refine bh (qQ (by omega)) λx8 e8=>aa (λh=>by rw[e8]at h;cases h) λ_=>aa (λ_=>aw) λh=>?_
 have h0:x7.2=0:=by simpa using h
 rw[e5]at h0
 obtain⟨ck,mk⟩:=ZF h0
 rw[<-e5]at mk
 have ma:=UL mk
 have mm:=ZG R.st mk
 refine bh (ZE g.v (by omega) R.st.d R.st.hs R.st.hu (l:=x7.1) (by omega) λc hc=>p2.u c0 c1 _ (mm c hc).1) λjc e10=>?_
 have:CZ m s x7.1=({Good:=true,D8:=0,At:=0},0):=by
  unfold CZ
  rw[ma,ck]
  show(jA m s 0 m.A1 x7.1,(0:Int))=_
  rw[Zz mk]
 rw[e10,this]
 exact aa (λ_=>aa (λ_=>aa (λ_=>aa (λ_=>aw) λh=>by cases h) λh=>by cases h) λh=>by cases h) λh=>by cases h

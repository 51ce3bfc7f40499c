import Derived.Test.YthjfindbamdacaaGreatDoorAuditFewerFin1
open Int renaming le_refl->cW,tmod->dE,toNat_natCast->eD,toNat_of_nonneg->eH,add_assoc->fL,add_zero->fM
open Nat renaming lt_succ_self->cO,zero_le->aT,le_succ->fG,le_refl->aO,blt->bJ,beq->bT
open List renaming getD_eq_getElem?_getD->cP,getElem?_eq_getElem->cG,drop_eq_getElem_cons->aB,foldl_cons->aD,drop_eq_nil_of_le->aA,length_singleton->cZ,length_cons->dI,replicate->cQ,append_assoc->fF,length_replicate->cV,length->dK,length_map->fH,map_append->bL,getElem_mem->fI,append_nil->cJ,mem_cons->cS,not_mem_nil->cU,nil_append->fJ,getElem?_drop->fK,length_drop->bF,take->dB,drop->dC,take_of_length_le->fO,getElem?_map->fP,length_set->dH,getElem_map->bO
open Bool renaming and_false->fN,true_and->fQ
set_option maxRecDepth 100000
set_option linter.all false
namespace Go.Proofs.YthjfindbamdacaaGreatDoor
open Go Go.GD
open Go.IntKind(wrap i64 wrap_i64 wrap_u64 wrap_u8 wrap_i32)
attribute [local irreducible] Li
def Tree.V{β:Type}(t:Tree β)(W:β->Prop):Prop:=W t.m
section
variable {α β:Type} {W:β->Prop} {c:Bool} {t e:Tree β}
theorem c7{x:β}(h:W x):Tree.V (.lf x) W:=h
theorem pI{f:Prop}{x:β}{hf:f}(h:W x):Tree.V (.nx f x hf) W:=h
theorem da(h:c=true->Tree.V t W)(g:c=false->Tree.V e W):Tree.V (.br c t e) W:=by
 cases c
 ·exact g rfl
 ·exact h rfl
theorem j8(g:Tree.V t W):Tree.V (.cn c t) W:=g
theorem ft{p:Prop}(g:Tree.V t W):Tree.V (.an p t) W:=g
theorem dr{x:α}{k:α->Tree β}(h:∀y,y=x->Tree.V (k y) W):Tree.V (.lv x k) W:=h x rfl
theorem rG{d:Inhabited β}{n:Nat}{f:Prop}{x:α}{k:α->Tree (α⊕β)}{hf:f}{inv:α->Prop}{μ:α->Nat}(h:inv x)(hn:μ x<n)(g:∀y,inv y->Tree.V (k y) (Sum.elim (λz=>inv z/\μ z<μ y) W)):Tree.V (.lp d n f x k hf) W:=by
 refine xaD (P:=inv) (R:=W) (μ:=μ) (λa ha=>?_) n x h hn
 have:=g a ha
 unfold Tree.V at this
 revert this
 cases(k a).m with
 |inl z=>exactλh=>h
 |inr b=>exactλh=>h
end
def Es(r:cy)(m:au):cy:={A0:=m,B6:=r.B6,D0:=r.D0,B3:=r.B3}
theorem xaK(r:cy)(port clock:Int):Yz r port clock=((wU r.A0 port clock).1,Es r (wU r.A0 port clock).2):=by
 simp only[Yz,Pa,wU,GQ,Tree.m,df]
 cases decide (port<=1)<;>cases port==2<;>cases port==3<;>cases decide (port<=6)<;>cases decide (port<=9)<;>rfl
theorem zar(r:cy)(port v:Int):YA r port v=((AS r.A0 port v).1,Es r (AS r.A0 port v).2):=by
 simp only[YA,Mg,AS,Fm,Tree.m,df]
 cases port==0<;>cases decide (port<=2)<;>cases port==3<;>cases decide (port<=6)<;>cases decide (port<=9)<;>rfl
theorem qaL{r:cy}{c:Bool}{x y:Bool×cy}{x' y':Bool×au}(hx:x=(x'.1,Es r x'.2))(hy:y=(y'.1,Es r y'.2)):cond c x y=((cond c x' y').1,Es r (cond c x' y').2):=by cases c<;>assumption
theorem yl(r:cy)(e:gx):YC r e=((ly r.A0 e).1,Es r (ly r.A0 e).2):=by
 simp only[YC,Mh,ly,FI,Tree.m,df]
 repeat'(first|rfl|refine qaL ?_ ?_)
theorem Up(r:cy)(clock:Int):Mi r clock=((gd r.A0 clock).1,Es r (gd r.A0 clock).2):=by
 simp only[Mi,Mj,gd,K1,Tree.m,df,xaK,zar,Es]
 cases(pZ (mc r.A0) r.A0.Mem).2.1.C3==1<;>cases(pZ (mc r.A0) r.A0.Mem).2.1.C3==2<;>cases(pZ (mc r.A0) r.A0.Mem).2.1.C3==3<;>cases(pZ (mc r.A0) r.A0.Mem).2.1.C3==4<;>rfl
def nn(r:cy)(e:gx):cy:=
 bif(ly r.A0 e).1 then{A0:=(ly r.A0 e).2,B6:=r.B6,D0:=r.D0++[{At:=(ly r.A0 e).2.A4,D1:=e}],B3:=r.B3}else Es r (ly r.A0 e).2
theorem Zmw(r:cy)(e:gx):Pb r e=nn r e:=by
 have a:YD r e=((ly r.A0 e).1,Es r (ly r.A0 e).2):=by
  simp only[YD,Mk,Tree.m,df,yl]
 simp only[Pb,Ml,Tree.m,df,a,nn]
 cases(ly r.A0 e).1<;>rfl
def kQ(r:cy):cy:=bif JB r.A0.B2 r.B6 then nn r {C3:=2,N:=0,D2:=[]}else r
def FJ(r:cy):cy:=bif Q3 r.A0 then{A0:=r.A0,B6:=r.B6,D0:=r.D0++[{At:=r.A0.A4,D1:={C3:=1,N:=r.B6,D2:=[]}}],B3:=r.B3}else r
def Et(r:cy):cy:={A0:=(gd r.A0 r.B6).2,B6:=wrap .u32 (r.B6+1),D0:=(FJ r).D0,B3:=r.B3}
def iR:Nat->cy->List dw->cy×List dw
 |0,r,o=>(r,o)
 |n+1,r,o=>bif nm (kQ r).A0 then(kQ r,o)else iR n (Et (kQ r)) (o++(gd (kQ r).A0 (kQ r).B6).1)
def JC(r:cy):cy:={A0:=r.A0,B6:=r.B6,D0:=r.D0,B3:=[]}
def lN(r:cy)(steps clock:Int):cy×List dw:=
 bif !ra r.A0 then(r,[])else iR (pX steps).toNat (JC (r.B3.foldl nn {A0:=r.A0,B6:=if clock>r.B6 then clock else r.B6,D0:=r.D0,B3:=r.B3})) []
theorem YE(r:cy)(e:gx):(nn r e).B3=r.B3:=by
 unfold nn;cases(ly r.A0 e).1<;>rfl
theorem Znw(r:cy):Uq r=r:=by
 simp only[Uq,Mm,Tree.m,df,Hs]
theorem YF(r:cy)(steps clock:Int)(hq:r.B3.length<=1000000):Ur r steps clock=lN r steps clock:=by
 show Tree.V (I4 r steps clock) (λx=>x=lN r steps clock)
 obtain⟨JaB,lim⟩:=Tk steps
 unfold I4
 refine ft (dr λx0 e0=>dr λx1 e1=>?_)
 rw[Znw]at e0
 subst e0
 refine da (λhb=>c7 ?_) λhb=>?_
 ·unfold lN;rw[<-e1,hb];rfl
 generalize rY:({A0:=x0.A0,B6:=if clock>x0.B6 then clock else x0.B6,D0:=x0.D0,B3:=x0.B3}:cy)=r0
 have hA:lN x0 steps clock=iR (pX steps).toNat (JC (x0.B3.foldl nn r0)) []:=by
  unfold lN;rw[<-e1,hb,rY];rfl
 have hQ:r0.B3=x0.B3:=by rw[<-rY]
 refine rG (inv:=λz:Int×cy=>0<=z.1/\z.1<=x0.B3.length/\z.2.B3=x0.B3/\(x0.B3.drop z.1.toNat).foldl nn z.2=x0.B3.foldl nn r0) (μ:=Xj x0 steps clock) ⟨cW 0,by show(0:Int)<=_;omega,hQ,rfl⟩ (cO _) λz ⟨z0,z1,z2,z3⟩=>?_
 refine da (λhb=>?_) (λhb=>?_)
 ·have hb:=oY hb
  rw[z2]at hb
  refine j8 (ft (dr λx2 e2=>pI ?_))
  have ew:i64.wrap (z.1+1)=z.1+1:=by rw[wrap_i64];omega
  rw[Zmw]at e2
  have q2:x2.B3=x0.B3:=by rw[e2,YE,z2]
  have cj:z.1.toNat<x0.B3.length:=by omega
  have ed:z.2.B3.getD z.1.toNat (RK.cu RK.bd)=x0.B3[z.1.toNat]:=by rw[z2,cP,cG cj];rfl
  show(0<=i64.wrap (z.1+1)/\i64.wrap (z.1+1)<=x0.B3.length/\x2.B3=x0.B3/\(x0.B3.drop (i64.wrap (z.1+1)).toNat).foldl nn x2=_)/\(x2.B3.length-i64.wrap (z.1+1)).toNat<(z.2.B3.length-z.1).toNat
  rw[ew,q2,z2]
  refine⟨⟨by omega,by omega,rfl,?_⟩,by omega⟩
  rw[<-z3,aB cj,aD,show(z.1+1).toNat=z.1.toNat+1 by omega,e2,ed]
 ·have hb:=oN hb
  rw[z2]at hb
  obtain⟨zi,zr⟩:=z
  have hb:¬zi<x0.B3.length:=hb
  have ze:zr=x0.B3.foldl nn r0:=by
   rw[<-z3,aA (by show x0.B3.length<=zi.toNat;omega)];rfl
  rw[<-ze]at hA
  refine rG (inv:=λy:Int×cy×List dw=>0<=y.1/\y.1<=pX steps/\iR (pX steps-y.1).toNat y.2.1 y.2.2=lN x0 steps clock) (μ:=NW x0 steps clock (zi,zr)) ⟨cW 0,by show(0:Int)<=_;omega,by rw[hA];show iR (pX steps-0).toNat _ _=_;rw[Int.sub_zero];rfl⟩ (cO _) λy ⟨y0,y1,y2⟩=>?_
  obtain⟨yi,yr,yo⟩:=y
  have mu:∀q,yi<4000->NW x0 steps clock (zi,zr) (wrap .i64 (yi+1),q)<NW x0 steps clock (zi,zr) (yi,yr,yo):=λq h=>by
   show(4000-wrap .i64 (yi+1)).toNat<(4000-yi).toNat
   have y0:0<=yi:=y0
   rw[wrap_i64];omega
  have y0:0<=yi:=y0
  refine dr λx3 e3=>da (λhb=>?_) (λhb=>?_)
  ·have hb:yi<x3:=oY hb
   rw[e3]at hb
   have mu:=λq=>mu q (by omega)
   have ew:i64.wrap (yi+1)=yi+1:=by rw[wrap_i64];omega
   have en:(pX steps-yi).toNat=(pX steps-(yi+1)).toNat+1:=by omega
   change iR (pX steps-yi).toNat yr yo=_ at y2
   rw[en]at y2
   refine dr λx4 e4=>da (λhd=>ft (dr λx5 e5=>?_)) (λhd=>?_)
   ·have e5:x5=kQ yr:=by rw[e5,Zmw];unfold kQ;rw[<-e4,hd];rfl
    refine ft (dr λx6 e6=>da (λhs=>c7 ?_) λhs=>ft (dr λx7 e7=>da (λhr=>j8 (ft (dr λx8 e8=>j8 (pI ?_)))) λhr=>ft (dr λx9 e9=>j8 (pI ?_))))
    ·show(_,yo)=_
     rw[<-y2];unfold iR
     rw[<-e5,<-e6,hs];rfl
    ·rw[Up]at e8
     refine⟨⟨by show 0<=wrap .i64 (yi+1);rw[ew];omega,by show wrap .i64 (yi+1)<=_;rw[ew];omega,?_⟩,mu _⟩
     show iR (pX steps-wrap .i64 (yi+1)).toNat _ _=_
     rw[ew,<-y2,e8]
     conv=>rhs;unfold iR
     rw[<-e5,<-e6,hs]
     unfold Et FJ
     rw[<-e7,hr];rfl
    ·rw[Up]at e9
     refine⟨⟨by show 0<=wrap .i64 (yi+1);rw[ew];omega,by show wrap .i64 (yi+1)<=_;rw[ew];omega,?_⟩,mu _⟩
     show iR (pX steps-wrap .i64 (yi+1)).toNat _ _=_
     rw[ew,<-y2,e9]
     conv=>rhs;unfold iR
     rw[<-e5,<-e6,hs]
     unfold Et FJ
     rw[<-e7,hr];rfl
   ·have e5:yr=kQ yr:=by
     have e4:x4=JB yr.A0.B2 yr.B6:=e4
     unfold kQ;rw[<-e4,hd];rfl
    refine ft (dr λx6 e6=>da (λhs=>c7 ?_) λhs=>ft (dr λx7 e7=>da (λhr=>j8 (ft (dr λx8 e8=>j8 (pI ?_)))) λhr=>ft (dr λx9 e9=>j8 (pI ?_))))
    ·show(_,yo)=_
     rw[<-y2];unfold iR
     rw[<-e5,<-e6,hs];rfl
    ·rw[Up]at e8
     refine⟨⟨by show 0<=wrap .i64 (yi+1);rw[ew];omega,by show wrap .i64 (yi+1)<=_;rw[ew];omega,?_⟩,mu _⟩
     show iR (pX steps-wrap .i64 (yi+1)).toNat _ _=_
     rw[ew,<-y2,e8]
     conv=>rhs;unfold iR
     rw[<-e5,<-e6,hs]
     unfold Et FJ
     rw[<-e7,hr];rfl
    ·rw[Up]at e9
     refine⟨⟨by show 0<=wrap .i64 (yi+1);rw[ew];omega,by show wrap .i64 (yi+1)<=_;rw[ew];omega,?_⟩,mu _⟩
     show iR (pX steps-wrap .i64 (yi+1)).toNat _ _=_
     rw[ew,<-y2,e9]
     conv=>rhs;unfold iR
     rw[<-e5,<-e6,hs]
     unfold Et FJ
     rw[<-e7,hr];rfl
  ·have hb:¬yi<x3:=oN hb
   rw[e3]at hb
   refine c7 ?_
   show(yr,yo)=_
   change iR (pX steps-yi).toNat yr yo=_ at y2
   rw[<-y2,show(pX steps-yi).toNat=0 by omega];rfl
structure ez(P:Nat)(m:au):Prop where
 ok:nO P m
 may:nj m=true
section
variable {P:Nat} {m:au} (h:ez P m)
include h
theorem ez.v:sY m:=⟨h.ok.mj,h.ok.mem.u,h.ok.kY,h.ok.sW,h.ok.target,h.ok.lS⟩
theorem ez.s:rB P m:=⟨h.ok.mj,h.ok.mem,h.ok.kY,h.ok.sW,h.ok.target.1,h.ok.target.2⟩
theorem ez.AU:ra m=true:=(L6 h.v).symm.trans h.may
theorem YG{e:gx}(he:U e.N):ez P (ly m e).2/\(ly m e).2.A4=m.A4:=by
 have o:nO P (ly m e).2:=Tree.post _ (qN h.ok he)
 have a:=(Tree.pp (Zmn h.ok he)).2
 change(nj m=true->nj (Mf m e).1=true)/\(Mf m e).1.A4=m.A4/\_ at a
 have e1:O8 m e=((ly m e).2,(ly m e).1):=by
  simp only[O8,Uo,Tree.m,df,Hs,h.AU];rfl
 rw[Z8v h.v e,e1]at a
 exact⟨⟨o,a.1 h.may⟩,a.2.1⟩
theorem Mn:nm m=false↔m.B0=false/\sZ m=false/\m.A4<1152921504606846976:=by
 simp only[nm,Jy,Tree.m,df,h.AU]
 cases m.B0<;>cases sZ m<;>simp
theorem Mo(hs:nm m=false){clock:Int}(hc:U clock):ez P (gd m clock).2/\(gd m clock).2.A4=m.A4+1/\(gd m clock).1.length<=1:=by
 have o:=Tree.post _ (Z94 h.ok hc)
 change(gd m clock).1.length<=1/\nO P (gd m clock).2/\(gd m clock).2.A4=wrap .u64 (m.A4+1)at o
 have s:=(Tree.pp (qi h.s h.ok.lS hc)).2
 change _/\Good P m (AT m clock).1 at s
 have e:AT m clock=((gd m clock).2,(gd m clock).1):=by rw[Zhk h.v,Yw,hs];rfl
 rw[e]at s
 have Oo:=((Mn h).1 hs).2.2
 have h0:=h.ok.lS
 refine⟨⟨o.2.1,s.2.may h.may⟩,?_,o.1⟩
 rw[o.2.2,wrap_u64];omega
end
structure oG(P:Nat)(k:Int)(r:cy):Prop where
 m:ez P r.A0
 clock:U r.B6
 lS:r.A0.A4<=k
theorem Z31{P:Nat}{k:Int}{r:cy}(h:oG P k r){e:gx}(he:U e.N):oG P k (nn r e)/\(nn r e).A0.A4=r.A0.A4:=by
 obtain⟨a,b⟩:=YG h.m he
 have hc:=h.lS
 unfold nn
 cases(ly r.A0 e).1
 ·exact⟨⟨a,h.clock,by show(ly r.A0 e).2.A4<=k;omega⟩,b⟩
 ·exact⟨⟨a,h.clock,by show(ly r.A0 e).2.A4<=k;omega⟩,b⟩
theorem Z88{P:Nat}{k:Int}{r:cy}(h:oG P k r):oG P k (kQ r)/\(kQ r).A0.A4=r.A0.A4:=by
 unfold kQ
 cases JB r.A0.B2 r.B6
 ·exact⟨h,rfl⟩
 ·exact Z31 h ep
theorem Z86{P:Nat}{k:Int}{r:cy}(h:oG P k r)(hs:nm r.A0=false):oG P (k+1) (Et r):=by
 obtain⟨a,b,_⟩:=Mo h.m hs h.clock
 have hc:=h.lS
 exact⟨a,fj _,by show(gd r.A0 r.B6).2.A4<=k+1;omega⟩
theorem qm{P:Nat}(n:Nat):∀{k:Int} {r:cy} {o:List dw},oG P k r->oG P (k+n) (iR n r o).1:=by
 induction n with
 |zero=>intro k r o h;exact⟨h.m,h.clock,by have:=h.lS;show r.A0.A4<=k+(0:Nat);omega⟩
 |succ n ih=>
  intro k r o h
  obtain⟨f,fc⟩:=Z88 h
  unfold iR
  cases hs:nm (kQ r).A0
  ·have t:=ih (o:=o++(gd (kQ r).A0 (kQ r).B6).1) (Z86 f hs)
   exact⟨t.m,t.clock,by have:=t.lS;show(iR n _ _).1.A0.A4<=_;omega⟩
  ·exact⟨f.m,f.clock,by have:=f.lS;show(kQ r).A0.A4<=_;omega⟩
theorem Z9l{P:Nat}{k:Int}(l:List gx):∀{r:cy},oG P k r->(∀q∈l,U q.N)->oG P k (l.foldl nn r)/\(l.foldl nn r).B3=r.B3:=by
 induction l with
 |nil=>intro r h _;exact⟨h,rfl⟩
 |cons e l ih=>
  intro r h hu
  obtain⟨a,b⟩:=ih (Z31 h (hu e (by simp))).1 (λq hq=>hu q (by simp[hq]))
  exact⟨a,b.trans (YE r e)⟩
theorem Zox(n:Nat):∀(r:cy) (o:List dw),(iR n r o).1.B3=r.B3:=by
 induction n with
 |zero=>intro r o;rfl
 |succ n ih=>
  intro r o
  have f:(kQ r).B3=r.B3:=by
   unfold kQ;cases JB r.A0.B2 r.B6
   ·rfl
   ·exact YE _ _
  unfold iR
  cases nm (kQ r).A0
  ·exact(ih _ _).trans f
  ·exact f
def AV(l:List gx):Prop:=l.length<=16/\∀q∈l,U q.N
theorem Zej{P:Nat}{k:Int}{r:cy}(h:oG P k r)(hq:AV r.B3)(steps:Int){clock:Int}(hc:U clock):oG P (k+4000) (lN r steps clock).1/\AV (lN r steps clock).1.B3:=by
 obtain⟨l0,l1⟩:=Tk steps
 unfold lN
 rw[h.m.AU]
 have gm:U (if clock>r.B6 then clock else r.B6):=by split<;>first|exact hc|exact h.clock
 obtain⟨a,b⟩:=Z9l r.B3 (r:={A0:=r.A0,B6:=if clock>r.B6 then clock else r.B6,D0:=r.D0,B3:=r.B3}) ⟨h.m,gm,h.lS⟩ hq.2
 have c:=qm (pX steps).toNat (o:=[]) (r:=JC (r.B3.foldl nn {A0:=r.A0,B6:=if clock>r.B6 then clock else r.B6,D0:=r.D0,B3:=r.B3})) ⟨a.m,a.clock,a.lS⟩
 refine⟨⟨c.m,c.clock,?_⟩,?_⟩
 ·have:=c.lS
  show(iR _ _ _).1.A0.A4<=_
  omega
 ·show AV (iR _ _ _).1.B3
  rw[Zox];exact⟨aT _,λq hq=>by cases hq⟩
theorem xm(n:Int):U (Pd n).N:=Tree.post _ (qB n)
theorem YH(r:cy)(e:gx):Eu r e=bif !Pe e then(r,false)else bif e.C3==1 then(r,false)else bif decide ((r.B3.length:Int)>=16)then(r,false)else({A0:=r.A0,B6:=r.B6,D0:=r.D0,B3:=r.B3++[e]},true):=by
 simp only[Eu,Mp,Tree.m,df,Znw]
theorem Z2o{P:Nat}{k:Int}{r:cy}(h:oG P k r)(hq:AV r.B3){e:gx}(he:U e.N):oG P k (Eu r e).1/\AV (Eu r e).1.B3:=by
 rw[YH]
 cases Pe e
 ·exact⟨h,hq⟩
 ·cases e.C3==1
  ·cases hl:decide ((r.B3.length:Int)>=16)
   ·have hl:=oN hl
    refine⟨⟨h.m,h.clock,h.lS⟩,?_,λq hm=>?_⟩
    ·show(r.B3++[e]).length<=16
     rw[lA,cZ];omega
    ·have hm:q∈r.B3++[e]:=hm
     rcases List.mem_append.1 hm with hm|hm
     ·exact hq.2 q hm
     ·rw[List.mem_singleton.1 hm];exact he
   ·exact⟨h,hq⟩
  ·exact⟨h,hq⟩
theorem YI{r:cy}{n:Int}(h:(dE (AW n 3) 3==0)=true):wW r n=((Eu r (Pd n)).1,[]):=by
 show Tree.V (Fu r n) (λx=>x=((Eu r (Pd n)).1,[]))
 unfold Fu
 refine dr λx0 e0=>da (λ_=>ft (dr λx1 e1=>ft (dr λx2 e2=>c7 ?_))) (λhb=>?_)
 ·rw[e2,e1]
 ·rw[e0,h]at hb;cases hb
theorem YJ{r:cy}{n:Int}(h:(dE (AW n 3) 3==0)=false):wW r n=Ur r (tS (bh .i64 (AW n 3) 4) 12) (wrap .u32 (bg .i64 (bh .i64 (AW n 3) 12) 255)):=by
 show Tree.V (Fu r n) (λx=>x=Ur r (tS (bh .i64 (AW n 3) 4) 12) (wrap .u32 (bg .i64 (bh .i64 (AW n 3) 12) 255)))
 unfold Fu
 refine dr λx0 e0=>da (λhb=>?_) (λ_=>ft (dr λx1 e1=>ft (dr λx2 e2=>c7 ?_)))
 ·rw[e0,h]at hb;cases hb
 ·rw[e2,e1,e0]
theorem zm{P:Nat}{k:Int}{A:cy×Bool}(h:oG P k A.1/\AV A.1.B3):oG P (k+4000) (A.1,([]:List dw)).1/\AV (A.1,([]:List dw)).1.B3:=
 ⟨⟨h.1.m,h.1.clock,by have:=h.1.lS;show A.1.A0.A4<=_;omega⟩,h.2⟩
theorem Zon{P:Nat}{k:Int}{r:cy}(h:oG P k r)(hq:AV r.B3)(n:Int):oG P (k+4000) (wW r n).1/\AV (wW r n).1.B3:=by
 cases hm:dE (AW n 3) 3==0
 ·rw[YJ hm,YF _ _ _ (by have:=hq.1;omega)]
  exact Zej h hq _ (fj _)
 ·rw[YI hm]
  exact zm (Z2o h hq (xm n))
def tT(s:cy×List dw)(n:Int):cy×List dw:=((wW s.1 n).1,s.2++(wW s.1 n).2)
theorem xar(m:au)(l:List Int)(hl:l.length<=1000000):YL m l=l.foldl tT (Mq m,[]):=by
 show Tree.V (I7 m l) (λx=>x=l.foldl tT (Mq m,[]))
 unfold I7
 refine ft (dr λx0 e0=>?_)
 subst e0
 refine rG (inv:=λz:Int×cy×List dw=>0<=z.1/\z.1<=l.length/\(l.drop z.1.toNat).foldl tT z.2=l.foldl tT (Mq m,[])) (μ:=Xo m l) ⟨cW 0,by show(0:Int)<=_;omega,rfl⟩ (cO _) λz ⟨z0,z1,z2⟩=>?_
 obtain⟨i,r,o⟩:=z
 have z0:0<=i:=z0
 have z1:i<=l.length:=z1
 refine da (λhb=>j8 (ft (dr λx1 e1=>j8 (pI ?_)))) (λhb=>c7 ?_)
 ·have hb:i<l.length:=oY hb
  have ew:i64.wrap (i+1)=i+1:=by rw[wrap_i64];omega
  have cj:i.toNat<l.length:=by omega
  show(0<=i64.wrap (i+1)/\i64.wrap (i+1)<=l.length/\(l.drop (i64.wrap (i+1)).toNat).foldl tT (x1.1,o++x1.2)=_)/\(l.length-i64.wrap (i+1)).toNat<(l.length-i).toNat
  rw[ew]
  refine⟨⟨by omega,by omega,?_⟩,by omega⟩
  rw[<-z2]
  show _=(l.drop i.toNat).foldl tT (r,o)
  rw[aB cj,aD,show(i+1).toNat=i.toNat+1 by omega,e1]
  have ed:l.getD i.toNat 0=l[i.toNat]:=by rw[cP,cG cj];rfl
  rw[show tT (r,o) l[i.toNat]=((wW r l[i.toNat]).1,o++(wW r l[i.toNat]).2) from by unfold tT;rfl,<-ed]
 ·have hb:¬i<l.length:=oN hb
  show(r,o)=_
  rw[<-z2]
  show _=(l.drop i.toNat).foldl tT (r,o)
  rw[aA (by omega)];rfl
theorem ym(s:cy×List dw)(n:Int):tT s n=((wW s.1 n).1,s.2++(wW s.1 n).2):=by unfold tT;rfl
theorem qn{σ:Type}{f:σ->Int->σ}{I:Int->σ->Prop}(hf:∀k s n,I k s->I (k+4000) (f s n))(l:List Int):∀k s,I k s->I (k+4000*l.length) (l.foldl f s):=by
 induction l with
 |nil=>intro k s h;simpa using h
 |cons n l ih=>
  intro k s h
  have:=ih _ _ (hf k s n h)
  rw[aD,dI]
  rwa [show k+4000*((l.length+1:Nat):Int)=k+4000+4000*l.length by omega]
theorem xn(m:au):Mq m={A0:=m,B6:=0,D0:=[],B3:=[]}:=by
 simp only[Mq,Lj,Tree.m,df,Hs]
theorem YM{i:List Int}(hu:∀w∈i,U w)(hl:i.length<=256):ez 8 (lu 8 4 i).1/\(lu 8 4 i).1.A4=0:=by
 obtain⟨a,b⟩:=(Tree.pp (sS i hu hl)).2
 change nO 8 (lu 8 4 i).1 at a
 refine⟨⟨a,?_⟩,b⟩
 have e:(lu 8 4 i).2=true:=by
  have w:i64.wrap (8*32)=256:=by decide
  simp only[lu,DZ,Tree.m,w,df,dN (show¬((i.length:Int)>256) by omega)]
  rfl
 obtain⟨a1,a2,a3,a4,a5,a6⟩:=xaS 8 4 i e
 exact(qaT _ 8 4 a1 a2 a3 a4 a5 _ a6).1
theorem zn{m:au}(h:ez 8 m)(hc:m.A4<=87):Tree.V (Fp m [] 87) (λx=>x.2.2.2=0->ez 8 x.1/\x.1.A4<=87):=by
 have z:∀{k:Int} {p:Prop},k≠0->k=0->p:=λa b=>absurd b a
 unfold Fp
 refine dr λx0 _=>da (λ_=>c7 (z (by decide))) λ_=>da (λ_=>c7 (z (by decide))) λ_=>da (λ_=>c7 (z (by decide))) λ_=>ft (dr λx1 _=>da (λ_=>c7 (z (by decide))) λ_=>ft (dr λx2 hx=>?_))
 rw[Hs]at hx
 refine rG (inv:=λv:au×List dw=>ez 8 v.1/\v.1.A4<=87) (μ:=Tp m [] 87) ⟨by rw[hx];exact h,by rw[hx];exact hc⟩ (cO _) λv0 ⟨a1,a3⟩=>?_
 have a2:=a1.ok.lS
 refine da (λhb=>da (λhm=>?_) (λ_=>c7 λ_=>⟨a1,a3⟩)) (λ_=>c7 λ_=>⟨a1,a3⟩)
 have hb:=oY hb
 have hm:=oY hm
 refine rG (inv:=λ_=>True) (μ:=Tq m [] 87 v0) trivial (cO _) λv1 _=>?_
 refine da (λ_=>c7 λ_=>⟨a1,a3⟩) λhh=>ft (dr λx3 h3=>da (λ_=>c7 λ_=>⟨a1,a3⟩) λhi=>ft (dr λx4 _=>da (λ_=>c7 (z (by decide))) λ_=>ft (dr λx5 h5=>j8 (pI ?_))))
 obtain⟨b1,b2,_⟩:=Mo a1 ((Mn a1).2 ⟨hh,h3.symm.trans hi,hm⟩) (clock:=0) ep
 rw[<-h5]at b1 b2
 show(ez 8 x5.2/\x5.2.A4<=87)/\(87-x5.2.A4).toNat<(87-v0.1.A4).toNat
 exact⟨⟨b1,by omega⟩,by omega⟩
theorem Qzj(kind:Int)(l:List Int)(hl:l.length*8<=reachBytes)(YN:l.length<=60):ez 8 (FK kind l)/\(FK kind l).A4<=87:=by
 show Tree.V (Fs kind l) (λm=>ez 8 m/\m.A4<=87)
 have code:=(Tree.pp (Ti l hl)).2
 change((Mr l).length:Int)=l.length/\∀w∈Mr l,U w at code
 obtain⟨b1,b2⟩:=code
 unfold Fs
 refine ft (dr λx0 nP=>da (λ_=>ft (dr λx1 e1=>?_)) (λhk=>?_))
 ·have eb:x1.1=lJ:=by rw[e1];rfl
  obtain⟨q1,q2⟩:lJ.length<=160/\∀w∈lJ,U w:=Ts
  refine rG (inv:=λv:List Int=>v.length<=160/\v=lJ++cQ (v.length-lJ.length) 0) (μ:=Tv kind l) ⟨by rw[eb];exact q1,by rw[eb];simp⟩ (cO _) λv0 ⟨a1,a2⟩=>?_
  have a3:lJ.length<=v0.length:=by rw[a2,lA];omega
  refine da (λhb=>?_) (λhb=>?_)
  ·have hb:=oY hb
   refine j8 (pI ?_)
   show(_/\_)/\(_:Nat)<_
   refine⟨⟨by rw[lA,cZ];omega,?_⟩,by show 160-(v0++[0]).length<160-v0.length;rw[lA,cZ];omega⟩
   show v0++[0]=lJ++cQ ((v0++[0]).length-lJ.length) 0
   rw[lA,cZ,show v0.length+1-lJ.length=(v0.length-lJ.length)+1 by omega,List.replicate_succ',<-fF,<-a2]
  ·have hb:=oN hb
   have hv:v0=Ea:=by
    unfold Ea
    rw[show(160:Nat)=v0.length by omega]
    exact a2
   subst hv
   have hp:=xak
   have hu0:∀w∈Ea,U w:=λw hw=>(List.mem_append.1 hw).elim (q2 w) (wM _ w)
   refine ft (dr λx2 e2=>j8 ?_)
   rw[<-e2]at b1 b2
   have hu:∀w∈Ea++x2,U w:=λw hw=>(List.mem_append.1 hw).elim (hu0 w) (b2 w)
   have hlen:(Ea++x2).length<=256:=by rw[lA];omega
   refine da (λhb=>?_) (λhb=>?_)
   ·have hb:=oY hb;omega
   ·obtain⟨c1,c2⟩:=YM hu hlen
    refine ft (dr λx3 h3=>?_)
    rw[<-h3]at c1 c2
    have rn:=zn c1 (by omega)
    refine da (λ_=>ft (dr λx4 hx=>c7 ?_)) (λ_=>c7 ⟨c1,by omega⟩)
    have e:x3=lu 8 4 (Ea++(x2++cQ (96-x2.length) 0)):=by
     rw[h3]
     have Us:(x2++cQ (96-x2.length) (0:Int)).length=96:=by rw[lA,cV];omega
     refine zak _ _ hlen (by rw[lA,Us];omega) ?_
     rw[lA,lA,Us,hp,fF,fF,fF,show 256-(160+96)=0 by omega,show 256-(160+x2.length)=96-x2.length by omega]
     simp
    have h0:x4.2.2.2=0:=by
     rw[hx,e]
     exact qaG _ (by rw[lA,cV];omega)
    exact(by rw[hx];exact rn:x4.2.2.2=0->ez 8 x4.1/\x4.1.A4<=87) h0
 ·have hk:=oN hk
  refine ft (dr λx2 e2=>j8 ?_)
  rw[<-e2]at b1 b2
  refine da (λhb=>?_) (λhb=>?_)
  ·have hb:=oY hb;omega
  ·obtain⟨c1,c2⟩:=YM b2 (by omega)
   refine ft (dr λx3 h3=>?_)
   rw[<-h3]at c1 c2
   exact da (λh=>absurd (eq_of_beq h) (by omega)) (λ_=>c7 ⟨c1,by omega⟩)
theorem Zqq(w:Int):wrap .i64 (rD w).1.bq=(rD w).1.bq:=by
 show Tree.V (Ha w) (λr=>wrap .i64 r.1.bq=r.1.bq)
 have e:∀x,wrap .i64 (wrap .i32 x)=wrap .i32 x:=λx=>by rw[wrap_i64,wrap_i32];omega
 unfold Ha
 refine dr λx0 _=>?_
 have l:∀i:gu,wrap .i64 i.bq=i.bq->Tree.V (Tree.lv (Eh i) λx=>.br (!x) (.lf ((⟨0,0,0,0,0⟩:gu),false)) (.lf (i,true))) (λr=>wrap .i64 r.1.bq=r.1.bq):=λi hi=>dr λx hx=>da (λ_=>c7 rfl) (λhb=>c7 hi)
 exact da (λ_=>c7 rfl) (λ_=>da (λ_=>l _ rfl) (λ_=>da (λ_=>l _ (e _)) (λ_=>da (λ_=>l _ (e _)) (λ_=>l _ (e _)))))
def CG(e:kN):Bool:=bif e.C3==1 then e.D4==2 else false
def uL(c:bj)(m:List Int):Bool:=
 bif bg .u32 c.B7.a0 1==0 then false else bif(kP m c.Pc 4).2 then bif(rD (kP m c.Pc 4).1).2 then bif(rD (kP m c.Pc 4).1).1.Op==60 then(rD (kP m c.Pc 4).1).1.bq==2 else false else false else false
theorem yn(m:au):pf m=uL (mc m) m.Mem:=rfl
theorem zaL(c:bj)(i:gu):CG (TX c i).2=(bif i.Op==60 then wrap .i64 i.bq==2 else false):=by
 show Tree.V (JD c i) (λr=>CG r.2=_)
 have no:∀{k:Int},i.Op=k->k≠60->∀e:kN,e.C3≠1->CG e=(bif i.Op==60 then wrap .i64 i.bq==2 else false):=λh g e he=>by
  unfold CG
  rw[h,show(_==(60:Int))=false from beq_false_of_ne g,show(e.C3==1)=false from beq_false_of_ne he];rfl
 have eq:∀{k:Int},(i.Op==k)=true->i.Op=k:=λh=>eq_of_beq h
 unfold JD
 refine da (λh=>dr λ_ _=>c7 (no (eq h) (by decide) _ (show(0:Int)≠1 by decide))) λ_=>da (λh=>dr λ_ _=>c7 (no (eq h) (by decide) _ (show(0:Int)≠1 by decide))) λ_=>da (λh=>j8 (ft (dr λ_ _=>c7 (no (eq h) (by decide) _ (show(0:Int)≠1 by decide))))) λ_=>da (λh=>j8 (ft (dr λ_ _=>c7 (no (eq h) (by decide) _ (show(0:Int)≠1 by decide))))) λ_=>da (λh=>c7 ?_) λBy=>?_
 ·show(bif(1:Int)==1 then wrap .i64 i.bq==2 else false)=_
  rw[h];rfl
 ·have n60:i.Op≠60:=λe=>by rw[e]at By;cases By
  refine da (λh=>j8 (c7 (no (eq h) (by decide) _ (by show(2:Int)≠1;decide)))) λ_=>da (λh=>c7 (no (eq h) (by decide) _ (show(3:Int)≠1 by decide))) λ_=>da (λh=>c7 (no (eq h) (by decide) _ (show(5:Int)≠1 by decide))) λ_=>da (λh=>c7 (no (eq h) (by decide) _ (show(4:Int)≠1 by decide))) λ_=>c7 (no rfl n60 _ (show(0:Int)≠1 by decide))
theorem vn(c:bj)(m:List Int)(i:gu):CG (o9 c m i).2.1=(bif i.Op==60 then wrap .i64 i.bq==2 else false):=by
 unfold o9
 cases h:decide (i.Op>=56)
 ·have h:=oN h
  rw[show(i.Op==60)=false from beq_false_of_ne (by omega)]
  cases decide (i.Op>=40)<;>cases decide (i.Op>=32)<;>cases i.Op==24<;>cases decide (i.Op<=13)<;>rfl
 ·exact zaL c i
theorem xN{P:Nat}{m:List Int}(h:eu P m){c:bj}(hc:iz c)(jV:c.B7.a0<=31):CG (pZ c m).2.1=uL c m:=by
 rw[Hk]
 unfold uL
 cases hk:bg .u32 c.B7.a0 1==0
 ·have hp:TV c=false:=by
   rw[Z96 hc.a0.1 jV,show Hg c=true from by show(bg .u32 c.B7.a0 1 !=0)=true;rw[bne,hk];rfl]
   rfl
  have wi:=LI h hc.pc (size:=4) (.inr rfl)
  have kn:LO 1=true:=rfl
  have p0:=hc.pc.1
  have tm:dE c.Pc (wrap .u32 4)=c.Pc%4:=by
   rw[show wrap .u32 4=4 from rfl,Int.tmod_eq_emod_of_nonneg p0]
  have rc:lM c m c.Pc 4 1=bif c.Pc%4 !=0 then(0,3,m)else bif !r8 m c.Pc 4 then(0,tQ 1,m)else(c.Pc,0,m):=by
   simp only[lM,Hh,Tree.m,df,kn,hp,tm]
   rfl
  rw[rc]
  cases h4:(c.Pc%4 !=0)
  ·cases hw:r8 m c.Pc 4
   ·have l2:(kP m c.Pc 4).2=false:=by
     simp only[kP,AP,Tree.m,df,hw];rfl
    rw[l2]
    show CG (Ep c (0,tQ 1,m) _ _).2.1=false
    unfold Ep
    rw[show((0,tQ 1,m):Int×Int×List Int).2.1=tQ 1 from rfl,show(tQ 1 !=0)=true by decide]
    rfl
   ·have l2:(kP m c.Pc 4).2=true:=by
     simp only[kP,AP,Tree.m,df,hw];rfl
    rw[l2]
    show CG (Ep c (c.Pc,0,m) (kP m c.Pc 4).1 (rD (kP m c.Pc 4).1)).2.1=_
    have im:=Zqq (kP m c.Pc 4).1
    generalize kP m c.Pc 4=x at*
    generalize rD x.1=d at*
    unfold Ep
    cases d.2
    ·rfl
    ·rw[hk]
     have:=vn c m d.1
     rw[im]at this
     cases G8 d.1.Op<;>exact this
  ·have hw:r8 m c.Pc 4=false:=by
    rw[wi]
    refine dN λe=>?_
    rw[e.1]at h4;cases h4
   have l2:(kP m c.Pc 4).2=false:=by
    simp only[kP,AP,Tree.m,df,hw];rfl
   rw[l2];rfl
 ·have us :∀x w d,CG (Ep c x w d).2.1=false:=λx w d=>by
   unfold Ep
   cases x.2.1 !=0
   ·cases d.2
    ·rfl
    ·cases hp:G8 d.1.Op
     ·have:=vn c x.2.2 d.1
      rw[show(d.1.Op==60)=false from beq_false_of_ne λe=>by rw[e]at hp;cases hp]at this
      exact this
     ·rw[hk];rfl
   ·rfl
  exact us _ _ _
theorem Zpe{m:au}(h:sY m):Pf m=Q3 m:=by
 have rd:Q3 m=bif nm m then false else pf m:=rfl
 have pd:Pf m=bif !AL m then false else CG (wR (nC m).B4 (nC m).Mem).2.2:=rfl
 rw[rd,pd,Qw h]
 cases hs:nm m
 ·have hr:AL m=true:=by rw[Qw h,hs];rfl
  obtain⟨hm,hh,Oo⟩:=TH hr
  obtain⟨g1,g2,g3,g4,g5⟩:=(G3 m).1 hm
  rcases(O5 m.Mem h.mem).2 with c|⟨P,hP,gy⟩
  ·exact absurd c g1
  have Yy:rB P m:=⟨h.mj,gy,h.kY,h.sW,h.uJ.1,h.uJ.2⟩
  obtain⟨b1,b2,b3,_⟩:=(Tree.pp (Z4 Yy g2)).2
  change mU (nC m).B4 at b1
  change rB P (nC m)at b2
  have be:=Z8z h g2.st
  have Um:mU (mc m):=by have:=b1;rw[be]at this;exact this
  have Me:iz (mc m):=by have:=b2.mj;rw[be]at this;exact this
  have ex:=Zfn gy Me Um.st
  rw[be,yn,<-xN gy Me Um.st]
  show CG (wR (mc m) m.Mem).2.2=_
  rw[ex];rfl
 ·rfl
theorem qas{m:au}(h:U m.A6.C5):YO m:=by
 show(Hq m).p
 unfold Tree.p Hq
 refine aa (λ_=>cz ?_ (ar λ_ _=>trivial)) (λ_=>trivial)
 show(Hp m).p
 unfold Tree.p Hp
 exact bo (Znr h) λ_ _=>trivial
theorem Znb{P:Nat}{m:au}(h:rB P m):(Pg m).w (λ_=>True):=by
 unfold Pg
 exact bo (XD h.given) λ_ _=>aa (λ_=>trivial) (λ_=>bo (xU h) λx1 h1=>bo (vz h1.mj h1.mem) λx2 _=>aa (λ_=>trivial) (λ_=>trivial))
section
variable {P:Nat} {m:au} (h:ez P m)
include h
theorem ez.len:m.Mem.length<=1024:=by have:=h.ok.mem.len;have:=h.ok.mem.p2;omega
theorem ez.app(e:gx):Mf m e=((ly m e).2,(ly m e).1):=by
 rw[Z8v h.v]
 simp only[O8,Uo,Tree.m,df,Hs,h.AU];rfl
theorem ez.step(hs:nm m=false)(clock:Int):AT m clock=((gd m clock).2,(gd m clock).1):=by
 rw[Zhk h.v,Yw,hs];rfl
theorem ez.idle:LC m=sZ m:=Zeu h.v
end
theorem Z87(r:cy)(e:gx):(nn r e).D0.length<=r.D0.length+1:=by
 unfold nn
 cases(ly r.A0 e).1
 ·exact fG _
 ·show(r.D0++[_]).length<=_
  rw[lA,cZ];omega
theorem qo(r:cy):(kQ r).D0.length<=r.D0.length+1:=by
 unfold kQ
 cases JB r.A0.B2 r.B6
 ·exact fG _
 ·exact Z87 _ _
theorem xo(r:cy):(FJ r).D0.length<=r.D0.length+1:=by
 unfold FJ
 cases Q3 r.A0
 ·exact fG _
 ·show(r.D0++[_]).length<=_
  rw[lA,cZ];omega
theorem zo(r:cy):(Et r).D0.length<=r.D0.length+1:=xo r
theorem vo{n:Nat}{r:cy}{o:List dw}(hs:nm (kQ r).A0=true):iR (n+1) r o=(kQ r,o):=by
 conv=>lhs;unfold iR
 rw[hs];rfl
theorem qp{n:Nat}{r:cy}{o:List dw}(hs:nm (kQ r).A0=false):iR (n+1) r o=iR n (Et (kQ r)) (o++(gd (kQ r).A0 (kQ r).B6).1):=by
 conv=>lhs;unfold iR
 rw[hs];rfl
theorem zas{r:cy}(h:ra r.A0=true)(steps clock:Int):lN r steps clock=iR (pX steps).toNat (JC (r.B3.foldl nn {A0:=r.A0,B6:=if clock>r.B6 then clock else r.B6,D0:=r.D0,B3:=r.B3})) []:=by
 unfold lN;rw[h];rfl
structure tU(P:Nat)(k:Int)(r:cy):Prop where
 g:oG P k r
 q:AV r.B3
 l:(r.D0.length:Int)<=3*k
theorem zN(n:Nat):∀(r:cy) (o:List dw),(iR n r o).1.D0.length<=r.D0.length+2*n:=by
 induction n with
 |zero=>intro r o;exact aO _
 |succ n ih=>
  intro r o
  have f:=qo r
  cases hs:nm (kQ r).A0
  ·rw[qp hs]
   have:=ih (Et (kQ r)) (o++(gd (kQ r).A0 (kQ r).B6).1)
   have:=zo (kQ r)
   omega
  ·rw[vo hs]
   show(kQ r).D0.length<=_
   omega
theorem xp(l:List gx):∀r:cy,(l.foldl nn r).D0.length<=r.D0.length+l.length:=by
 induction l with
 |nil=>intro r;exact aO _
 |cons e l ih=>
  intro r
  have:=ih (nn r e)
  have:=Z87 r e
  rw[aD,dI];omega
theorem yN(r:cy)(steps clock:Int):(lN r steps clock).1.D0.length<=r.D0.length+r.B3.length+8000:=by
 obtain⟨l0,l1⟩:=Tk steps
 cases hm:ra r.A0
 ·unfold lN;rw[hm]
  show r.D0.length<=_
  omega
 ·rw[zas hm]
  have a:=zN (pX steps).toNat (JC (r.B3.foldl nn {A0:=r.A0,B6:=if clock>r.B6 then clock else r.B6,D0:=r.D0,B3:=r.B3})) []
  have b:=xp r.B3 {A0:=r.A0,B6:=if clock>r.B6 then clock else r.B6,D0:=r.D0,B3:=r.B3}
  have b:(JC (r.B3.foldl nn {A0:=r.A0,B6:=if clock>r.B6 then clock else r.B6,D0:=r.D0,B3:=r.B3})).D0.length<=r.D0.length+r.B3.length:=b
  omega
theorem YP{P:Nat}{k:Int}{r:cy}(h:tU P k r)(steps:Int){clock:Int}(hc:U clock):tU P (k+4000) (lN r steps clock).1:=by
 obtain⟨a,b⟩:=Zej h.g h.q steps hc
 have c:=yN r steps clock
 have d:=h.q.1
 have e:=h.l
 exact⟨a,b,by omega⟩
theorem FL{P:Nat}{k:Int}{r:cy}(h:tU P k r){e:gx}(he:U e.N):tU P k (Eu r e).1:=by
 obtain⟨a,b⟩:=Z2o h.g h.q he
 refine⟨a,b,?_⟩
 have:=h.l
 rw[YH]
 cases Pe e<;>cases e.C3==1<;>cases decide ((r.B3.length:Int)>=16)<;>exact this
theorem tU.more{P:Nat}{k j:Int}{r:cy}(h:tU P k r)(hj:k<=j):tU P j r:=
 ⟨⟨h.g.m,h.g.clock,by have:=h.g.lS;omega⟩,h.q,by have:=h.l;omega⟩
theorem xaL{P:Nat}{k:Int}{A:cy×Bool}(h:tU P k A.1):tU P (k+4000) (A.1,([]:List dw)).1:=h.more (by omega)
theorem JE{P:Nat}{k:Int}{r:cy}(h:tU P k r)(n:Int):tU P (k+4000) (wW r n).1:=by
 cases hm:dE (AW n 3) 3==0
 ·rw[YJ hm,YF _ _ _ (by have:=h.q.1;omega)]
  exact YP h _ (fj _)
 ·rw[YI hm]
  exact xaL (FL h (xm n))
theorem qaM{α β:Type}(a:α)(b:β):(a,b).1=a:=rfl
theorem Zhq(s:cy×List dw)(n:Int):(tT s n).1=(wW s.1 n).1:=(congrArg Prod.fst (ym s n)).trans (qaM _ _)
theorem Ph{P:Nat}(l:List Int){k:Int}{s:cy×List dw}(h:tU P k s.1):tU P (k+4000*l.length) (l.foldl tT s).1:=
 qn (f:=tT) (I:=λk s=>tU P k s.1) (λk s n h=>by rw[Zhq];exact JE h n) l k s h
theorem JF{P:Nat}{m:au}(h:ez P m)(hc:m.A4<=87):tU P 87 {A0:=m,B6:=0,D0:=[],B3:=[]}:=
 ⟨⟨h,ep,hc⟩,⟨aT _,λq hq=>by cases hq⟩,by show((0:Nat):Int)<=_;omega⟩
theorem xas{kind:Int}{l AX:List Int}(hl:l.length*8<=reachBytes)(YN:l.length<=60)(h30:AX.length<=30){β:Type}{W:β->Prop}{k:au->cy×List dw->Tree β}
 (g:∀m x,m=FK kind l->ez 8 m->m.A4<=87->x=AX.foldl tT ({A0:=m,B6:=0,D0:=[],B3:=[]},[])->tU 8 121000 x.1->(k m x).w W):
 (Tree.an (Qb kind l) (.lv (FK kind l) λm=>.an (Qmm m AX) (.lv (YL m AX) λx=>k m x))).w W:=by
 obtain⟨a,b⟩:=Qzj kind l hl YN
 refine cz (Tree.pp (Zgo kind l hl)).1 (ar λm hm=>?_)
 rw[<-hm]at a b
 refine cz (Tree.pp (xaF a.ok AX h30)).1 (ar λx hx=>?_)
 rw[xar _ _ (by omega),xn]at hx
 refine g m x hm a b hx ?_
 have:=Ph AX (s:=({A0:=m,B6:=0,D0:=[],B3:=[]},[])) (JF a b)
 rw[hx]
 exact this.more (by omega)
structure Pj(m:au):Prop where
 dl:U m.B2.C7
 bl:U m.B1.ag
 st: -9223372036854775808<=m.B1.C0/\m.B1.C0<9223372036854775808
 cm: -9223372036854775808<=m.B1.D8/\m.B1.D8<9223372036854775808
 ct:0<=m.A4/\m.A4<18446744073709551616
theorem jI.rfl:∀{l:List D},jI l l
 |[]=>trivial
 |_::_=>⟨gz.rfl,jI.rfl⟩
theorem jI.append:∀{a b a' b':List D},jI a a'->jI b b'->jI (a++b) (a'++b')
 |[],_,[],_,_,h=>h
 |_::_,_,_::_,_,h,g=>⟨h.1,jI.append h.2 g⟩
 |[],_,_::_,_,h,_=>h.elim
 |_::_,_,[],_,h,_=>h.elim
def wX(n:Nat):List Int:=if h:n<128 then[(n:Int)]else((n%128+128:Nat):Int)::wX (n/128)
termination_by n
decreasing_by omega
theorem zp{n:Nat}(h:n<128):wX n=[(n:Int)]:=by unfold wX;rw[dif_pos h]
theorem qZ{n:Nat}(h:¬n<128):wX n=((n%128+128:Nat):Int)::wX (n/128):=by
 conv=>lhs;unfold wX
 rw[dif_neg h]
theorem YQ:∀(k n:Nat),n<128^(k+1)->(wX n).length<=k+1
 |0,n,h=>by rw[zp (by simpa using h)];exact aO _
 |k +1,n,h=>by
  by_cases g:n<128
  ·rw[zp g];exact Nat.le_add_left _ _
  ·rw[qZ g,dI]
   have:=YQ k (n/128) (by rw[Nat.pow_succ]at h;exact Nat.div_lt_of_lt_mul (by rw[Nat.mul_comm];exact h))
   omega
def wY(x:Int):List UInt8:=bytesOf (wX x.toNat)
theorem Z8r:∀s:List UInt8,bytesOf (Q2 s)=s
 |[]=>rfl
 |b::s=>by
  show UInt8.ofNat ((b.toNat:Int)).toNat::bytesOf (Q2 s)=_
  rw[Z8r s,eD,UInt8.ofNat_toNat]
theorem Pk:∀n:Fin 256,ir .u8 (n.val:Int) 128=((n.val%128+128:Nat):Int):=by decide
theorem vN{x:Int}(h:0<=x):ir .u8 (wrap .u8 x) 128=((x.toNat%128+128:Nat):Int):=by
 have e:wrap .u8 x=((x.toNat%256:Nat):Int):=by rw[wrap_u8];omega
 rw[e]
 have:=Pk ⟨x.toNat%256,Nat.mod_lt _ (by decide)⟩
 rw[this]
 show((x.toNat%256%128+128:Nat):Int)=_
 omega
theorem YR{x:Int}(h:0<=x):bh .u64 x 7=((x.toNat/128:Nat):Int):=by
 have:bh .u64 x 7=x.fdiv 128:=rfl
 rw[this,Int.fdiv_eq_ediv_of_nonneg _ (by decide)];omega
theorem zaM{x:Int}(h0:0<=x)(h1:x<18446744073709551616):(Pl x).w (λs=>s=wY x):=by
 have hl:=YQ 9 x.toNat (by rw[show(128:Nat)^(9+1)=1180591620717411303424 by decide];omega)
 unfold Pl
 refine fy (inv:=λv:Int×List Int=>0<=v.1/\v.2++wX v.1.toNat=wX x.toNat) (μ:=Qf9 x) ⟨h0,rfl⟩ (cO _) λv ⟨a,b⟩=>?_
 obtain⟨y,o⟩:=v
 have a:0<=y:=a
 have b:o++wX y.toNat=wX x.toNat:=b
 have bl:=congrArg dK b
 rw[lA]at bl
 refine aa (λhb=>?_) (λhb=>?_)
 ·have hb:y>=128:=oY hb
  have g:¬y.toNat<128:=by omega
  rw[qZ g]at b bl
  rw[dI]at bl
  refine ay (dY (by show 1*(o.length+1)<=_;omega)) (ff ?_)
  show(0<=bh .u64 y 7/\(o++[ir .u8 (wrap .u8 y) 128])++wX (bh .u64 y 7).toNat=wX x.toNat)/\(bh .u64 y 7).toNat<y.toNat
  rw[YR a,vN a,eD]
  refine⟨⟨by omega,?_⟩,by omega⟩
  rw[fF];exact b
 ·have hb:¬y>=128:=oN hb
  have g:y.toNat<128:=by omega
  rw[zp g]at b bl
  refine ay (dY (by show 1*(o.length+1)<=_;rw[cZ]at bl;omega)) ?_
  show bytesOf (o++[wrap .u8 y])=wY x
  unfold wY
  rw[<-b,show wrap .u8 y=((y.toNat:Nat):Int) by rw[wrap_u8];omega]
theorem YS{x:Int}(h1:x<18446744073709551616):(wY x).length<=10:=by
 unfold wY bytesOf
 rw[fH]
 exact YQ 9 x.toNat (by rw[show(128:Nat)^(9+1)=1180591620717411303424 by decide];omega)
def mG(l:List Int):List UInt8:=l.flatMap wY
theorem Ht:∀{l:List Int},(∀x∈l,x<18446744073709551616)->(mG l).length<=10*l.length
 |[],_=>aO _
 |x::l,h=>by
  have a:=YS (h x (by simp))
  have b:=Ht (l:=l) λy hy=>h y (by simp[hy])
  show(wY x++mG l).length<=_
  rw[lA,dI];omega
theorem Pm(x:Int)(l:List Int):mG (x::l)=wY x++mG l:=rfl
theorem qat(l m:List Int):mG (l++m)=mG l++mG m:=List.flatMap_append
theorem Zo5{b:List Int}{s:List UInt8}(h:b.length+s.length<=1000000):(Pn b s).w (λx=>x.2.2=b++Q2 s):=by
 unfold Pn
 refine ar λx0 e0=>?_
 have e0:x0=b:=e0
 subst e0
 refine ay (dY ?_) rfl
 have:(Q2 s).length=s.length:=fH ..
 omega
theorem mH(s:List UInt8):(Q2 s).length=s.length:=fH ..
theorem Ut(s t:List UInt8):Q2 (s++t)=Q2 s++Q2 t:=bL
theorem Zo6{l:List Int}{i:Nat}(h:i<l.length):l.getD i 0=l[i]:=by rw[cP,cG h];rfl
theorem JG{c l:List Int}(hl:∀x∈l,0<=x/\x<18446744073709551616)(hc:c.length+10*l.length<=1000000):(Po c l).w (λx=>x=c++Q2 (mG l)):=by
 unfold Po
 refine fy (inv:=λv:Int×List Int=>0<=v.1/\v.1<=l.length/\v.2++Q2 (mG (l.drop v.1.toNat))=c++Q2 (mG l)) (μ:=Q92 c l) ⟨cW 0,by show(0:Int)<=_;omega,rfl⟩ (cO _) λv ⟨a1,a2,a3⟩=>?_
 obtain⟨i,o⟩:=v
 have a1:0<=i:=a1
 have a2:i<=l.length:=a2
 have a3:o++Q2 (mG (l.drop i.toNat))=c++Q2 (mG l):=a3
 refine aa (λhb=>?_) (λhb=>?_)
 ·have hb:i<l.length:=oY hb
  have cj:i.toNat<l.length:=by omega
  have ew:i64.wrap (i+1)=i+1:=by rw[wrap_i64];omega
  have ed:=Zo6 cj
  have hm:=hl _ (fI cj)
  rw[aB cj,Pm,Ut,<-ed]at a3
  rw[<-ed]at hm
  have len:=congrArg dK a3
  rw[lA,lA,lA,mH,mH,mH]at len
  have ul:=Ht λy hy=>(hl y hy).2
  refine ay (by simp[bJ];omega) (bo (zaM hm.1 hm.2) λx0 e0=>?_)
  rw[e0]
  refine bo (Zo5 (b:=o) (s:=wY (l.getD i.toNat 0)) (by omega)) λx1 e1=>ff ?_
  show(0<=i64.wrap (i+1)/\i64.wrap (i+1)<=l.length/\x1.2.2++Q2 (mG (l.drop (i64.wrap (i+1)).toNat))=c++Q2 (mG l))/\(l.length-i64.wrap (i+1)).toNat<(l.length-i).toNat
  rw[ew,e1,show(i+1).toNat=i.toNat+1 by omega,fF]
  exact⟨⟨by omega,by omega,a3⟩,by omega⟩
 ·have hb:¬i<l.length:=oN hb
  rw[aA (by omega)]at a3
  show o=_
  rw[<-a3];exact(cJ o).symm
theorem Hu{x:Int}(h:U x):wrap .u64 x=x:=by have:=h.1;have:=h.2;rw[wrap_u64];omega
theorem CH{c l:List Int}(hl:∀x∈l,U x)(hc:c.length+10*l.length<=900000):(Pp c l).w (λx=>x=c++Q2 (mG l)):=by
 unfold Pp
 refine fy (inv:=λv:Int×List Int=>0<=v.1/\v.1<=l.length/\v.2++Q2 (mG (l.drop v.1.toNat))=c++Q2 (mG l)) (μ:=Qac c l) ⟨cW 0,by show(0:Int)<=_;omega,rfl⟩ (cO _) λv ⟨a1,a2,a3⟩=>?_
 obtain⟨i,o⟩:=v
 have a1:0<=i:=a1
 have a2:i<=l.length:=a2
 have a3:o++Q2 (mG (l.drop i.toNat))=c++Q2 (mG l):=a3
 refine aa (λhb=>?_) (λhb=>?_)
 ·have hb:i<l.length:=oY hb
  have cj:i.toNat<l.length:=by omega
  have ew:i64.wrap (i+1)=i+1:=by rw[wrap_i64];omega
  have ed:=Zo6 cj
  have hm:=hl _ (fI cj)
  rw[aB cj,Pm,Ut,<-ed]at a3
  rw[<-ed]at hm
  have len:=congrArg dK a3
  rw[lA,lA,lA,mH,mH,mH]at len
  have ul:=Ht (l:=l) λy hy=>by have:=(hl y hy).2;omega
  have h2:=hm.2
  refine ay (by simp[bJ];omega) (bo (JG (c:=o) (λx hx=>by rw[List.mem_singleton.1 hx,Hu hm];exact⟨hm.1,by omega⟩) (by show o.length+10*1<=_;omega)) λx0 e0=>ff ?_)
  have e0:x0=o++Q2 (wY (l.getD i.toNat 0)):=by
   rw[e0,Hu hm,Pm]
   show o++Q2 (wY _++[])=_
   rw[cJ]
  show(0<=i64.wrap (i+1)/\i64.wrap (i+1)<=l.length/\x0++Q2 (mG (l.drop (i64.wrap (i+1)).toNat))=c++Q2 (mG l))/\(l.length-i64.wrap (i+1)).toNat<(l.length-i).toNat
  rw[ew,e0,show(i+1).toNat=i.toNat+1 by omega,fF]
  exact⟨⟨by omega,by omega,a3⟩,by omega⟩
 ·have hb:¬i<l.length:=oN hb
  rw[aA (by omega)]at a3
  show o=_
  rw[<-a3];exact(cJ o).symm
def FM(b:Bool):Int:=bif b then 1 else 0
theorem Ms{c:List Int}(b:Bool)(hc:c.length<=999000):(Pq c b).w (λx=>x=c++Q2 (mG [FM b])):=by
 unfold Pq
 cases b
 ·exact aa (λh=>by cases h) λ_=>bo (JG (c:=c) (l:=[0]) (λx hx=>by rw[List.mem_singleton.1 hx];decide) (by show c.length+10*1<=_;omega)) λx e=>e
 ·exact aa (λ_=>bo (JG (c:=c) (l:=[1]) (λx hx=>by rw[List.mem_singleton.1 hx];decide) (by show c.length+10*1<=_;omega)) λx e=>e) λh=>by cases h
def Mt(s:List UInt8):List UInt8:=wY s.length++s
theorem Zo0{c:List Int}{s:List UInt8}(hc:c.length+s.length<=900000):(Pr c s).w (λx=>x=c++Q2 (Mt s)):=by
 have ew:wrap .u64 ((s.length:Nat):Int)=s.length:=by rw[wrap_u64];omega
 have hu:=YS (x:=(s.length:Int)) (by omega)
 unfold Pr
 refine bo (JG (c:=c) (λx hx=>by rw[List.mem_singleton.1 hx,ew];omega) (by show c.length+10*1<=_;omega)) λx0 e0=>?_
 rw[ew]at e0
 have e0:x0=c++Q2 (wY s.length):=by
  rw[e0,Pm]
  show c++Q2 (wY _++[])=_
  rw[cJ]
 refine bo (Zo5 (by rw[e0,lA,mH];omega)) λx1 e1=>?_
 show x1.2.2=_
 rw[e1,e0]
 unfold Mt
 rw[Ut,fF]
def Ps(m:au):List Int:=iV.l m.B4.X++(m.B4.Pc::A8.l m.B4.B7)++[(m.Mem.length:Int)]
def Pt(m:au):List Int:=[FM m.B2.D7,m.B2.C7,FM m.B2.D6,m.B1.ag,m.B1.C4,m.B1.Frame,wrap .u64 m.B1.C0,wrap .u64 m.B1.D8,m.B1.B9,m.B1.B5]
def Pu(m:au):List Int:=[m.C6.Frame,m.C6.F1,FM m.C6.C8,m.C6.C2,FM m.C6.B8,m.C6.F4,m.A6.C9,m.A6.C5,m.A4,FM m.A9,FM m.B0]
def s7(m:au):List UInt8:=mG (Ps m)++(mG m.Mem++(Mt m.A7.D5++(mG (Pt m)++(Mt m.B1.C1++mG (Pu m)))))
theorem Zn{m:au}(hv:sY m)(hr:Pj m)(hm:m.Mem.length<=1100)(hk:m.A7.D5.length<=100000)(ho:m.B1.C1.length<=100000):(Pv m).w (λs=>s=s7 m/\s.length<=400000):=by
 obtain⟨c1,c2,c3⟩:=hv.mj
 obtain⟨d1,d2,d3,d4⟩:=hv.kY
 obtain⟨n1,n2,n3,n4⟩:=hv.sW
 obtain⟨b1,b2⟩:=hv.uJ
 obtain⟨r1,r2,r3,r4,r5⟩:=hr
 have one:∀{x:Int},U x->∀y∈[x],U y:=λh y hy=>by rw[List.mem_singleton.1 hy];exact h
 have kl:∀{s:List UInt8},s.length<=100000->(Mt s).length<=10+s.length:=fun{s} h=>by
  have:=YS (x:=(s.length:Int)) (by omega)
  unfold Mt;rw[lA];omega
 have k1:=kl hk
 have k2:=kl ho
 have ws:∀{l:List Int},(∀x∈l,U x)->(mG l).length<=10*l.length:=λh=>Ht λy hy=>by have:=(h y hy).2;omega
 have W:∀{x:Int},0<=wrap .u64 x/\wrap .u64 x<18446744073709551616:=fun{x}=>by rw[wrap_u64];omega
 have fl:∀b:Bool,(mG [FM b]).length<=10:=λb=>Ht (l:=[FM b]) λy hy=>by rw[List.mem_singleton.1 hy];cases b<;>decide
 have ml:=ws hv.mem
 have eL:wrap .u64 ((m.Mem.length:Nat):Int)=m.Mem.length:=by rw[wrap_u64];omega
 have U3:∀x∈[m.B1.ag,m.B1.C4,m.B1.Frame],U x:=λx hx=>by
  simp only[cS,cU,or_false]at hx
  rcases hx with rfl|rfl|rfl<;>assumption
 have U2:∀{a b:Int},U a->U b->∀x∈[a,b],U x:=λha hb x hx=>by
  simp only[cS,cU,or_false]at hx
  rcases hx with rfl|rfl<;>assumption
 have S2:∀x∈[wrap .u64 m.B1.C0,wrap .u64 m.B1.D8],0<=x/\x<18446744073709551616:=λx hx=>by
  simp only[cS,cU,or_false]at hx
  rcases hx with rfl|rfl<;>exact W
 have sl:=Ht (l:=[wrap .u64 m.B1.C0,wrap .u64 m.B1.D8]) λx hx=>(S2 x hx).2
 have L16:=ws (l:=iV.l m.B4.X) c1
 have L8:=ws (l:=A8.l m.B4.B7) c3
 have l16:(iV.l m.B4.X).length=16:=rfl
 have l8:(A8.l m.B4.B7).length=8:=rfl
 have p1:=ws (one c2)
 have e1:=Ht (l:=[(m.Mem.length:Int)]) λx hx=>by rw[List.mem_singleton.1 hx];omega
 have q1:=ws (one r1)
 have q2:=ws U3
 have q3:=ws (U2 d3 d4)
 have q4:=ws (U2 n1 n2)
 have q5:=ws (one n3)
 have q6:=ws (one n4)
 have q7:=ws (U2 b1 b2)
 have q8:=Ht (l:=[m.A4]) λx hx=>by rw[List.mem_singleton.1 hx];exact r5.2
 have f1:=fl m.B2.D7
 have f2:=fl m.B2.D6
 have f3:=fl m.C6.C8
 have f4:=fl m.C6.B8
 have f5:=fl m.A9
 have f6:=fl m.B0
 simp only[dI,List.length_nil]at sl p1 e1 q1 q2 q3 q4 q5 q6 q7 q8
 unfold Pv
 refine bo (CH (c:=[]) (l:=iV.l m.B4.X) c1 (by rw[l16];decide)) λx0 g0=>?_
 have z0:x0.length<=160:=by rw[g0,lA,mH];show 0+_<=_;omega
 refine bo (CH (one c2) (by show x0.length+10*1<=_;omega)) λx1 g1=>?_
 have z1:x1.length<=170:=by rw[g1,lA,mH];omega
 refine bo (CH (l:=A8.l m.B4.B7) c3 (by rw[l8];omega)) λx2 g2=>?_
 have z2:x2.length<=250:=by rw[g2,lA,mH];omega
 rw[eL]
 refine bo (JG (l:=[(m.Mem.length:Int)]) (λx hx=>by rw[List.mem_singleton.1 hx];omega) (by show x2.length+10*1<=_;omega)) λx3 g3=>?_
 have z3:x3.length<=260:=by rw[g3,lA,mH];omega
 refine bo (CH hv.mem (by omega)) λx4 g4=>?_
 have z4:x4.length<=11500:=by rw[g4,lA,mH];omega
 refine bo (Zo0 (s:=m.A7.D5) (by omega)) λx5 g5=>?_
 have z5:x5.length<=111510:=by rw[g5,lA,mH];omega
 refine bo (Ms m.B2.D7 (by omega)) λx6 g6=>?_
 have z6:x6.length<=111520:=by rw[g6,lA,mH];omega
 refine bo (CH (one r1) (by show x6.length+10*1<=_;omega)) λx7 g7=>?_
 have z7:x7.length<=111530:=by rw[g7,lA,mH];omega
 refine bo (Ms m.B2.D6 (by omega)) λx8 g8=>?_
 have z8:x8.length<=111540:=by rw[g8,lA,mH];omega
 refine bo (CH U3 (by show x8.length+10*3<=_;omega)) λx9 g9=>?_
 have z9:x9.length<=111570:=by rw[g9,lA,mH];omega
 refine bo (JG S2 (by show x9.length+10*2<=_;omega)) λki g10=>?_
 have z10:ki.length<=111590:=by rw[g10,lA,mH];omega
 refine bo (CH (U2 d3 d4) (by show ki.length+10*2<=_;omega)) λmI g11=>?_
 have z11:mI.length<=111610:=by rw[g11,lA,mH];omega
 refine bo (Zo0 (s:=m.B1.C1) (by omega)) λlO g12=>?_
 have z12:lO.length<=211620:=by rw[g12,lA,mH];omega
 refine bo (CH (U2 n1 n2) (by show lO.length+10*2<=_;omega)) λme g13=>?_
 have z13:me.length<=211640:=by rw[g13,lA,mH];omega
 refine bo (Ms m.C6.C8 (by omega)) λuM g14=>?_
 have z14:uM.length<=211650:=by rw[g14,lA,mH];omega
 refine bo (CH (one n3) (by show uM.length+10*1<=_;omega)) λJH g15=>?_
 have z15:JH.length<=211660:=by rw[g15,lA,mH];omega
 refine bo (Ms m.C6.B8 (by omega)) λuO g16=>?_
 have z16:uO.length<=211670:=by rw[g16,lA,mH];omega
 refine bo (CH (one n4) (by show uO.length+10*1<=_;omega)) λHv g17=>?_
 have z17:Hv.length<=211680:=by rw[g17,lA,mH];omega
 refine bo (CH (U2 b1 b2) (by show Hv.length+10*2<=_;omega)) λHw g18=>?_
 have z18:Hw.length<=211700:=by rw[g18,lA,mH];omega
 refine bo (JG (l:=[m.A4]) (λx hx=>by rw[List.mem_singleton.1 hx];exact r5) (by show Hw.length+10*1<=_;omega)) λUu g19=>?_
 have z19:Uu.length<=211710:=by rw[g19,lA,mH];omega
 refine bo (Ms m.A9 (by omega)) λUv g20=>?_
 have z20:Uv.length<=211720:=by rw[g20,lA,mH];omega
 refine bo (Ms m.B0 (by omega)) λFN g21=>?_
 have z21:FN.length<=211730:=by rw[g21,lA,mH];omega
 refine ar λFO e=>?_
 have e:FO.1=bytesOf FN:=congrArg Prod.fst e
 show FO.1=s7 m/\FO.1.length<=400000
 rw[e]
 refine⟨?_,by show(FN.map _).length<=_;rw[fH];omega⟩
 rw[g21,g20,g19,g18,g17,g16,g15,g14,g13,g12,g11,g10,g9,g8,g7,g6,g5,g4,g3,g2,g1,g0]
 simp only[fJ,<-Ut,Z8r]
 unfold s7 Ps Pt Pu
 simp only[qat,Pm,fF,fJ,show mG []=[] from rfl,cJ]
structure kI(m:au):Prop where
 dl:U m.B2.C7
 bl:U m.B1.ag
theorem Zqc(d:fp)(m:List Int)(port v dj:Int):(O0 d m port v dj).1.ag=d.ag:=by
 show Tree.V (Hm d m port v dj) (λr=>r.1.ag=d.ag)
 unfold Hm
 repeat'(first
  |exact c7 rfl
  |exact dr λ_ _=>c7 rfl
  |refine da (λ_=>?_) (λ_=>?_)
  |refine ft ?_
  |refine dr λ_ _=>?_)
theorem yp(d:fp)(m:List Int)(e:gx):(Ju d m e).1.ag=d.ag:=by
 show Tree.V (Hn d m e) (λr=>r.1.ag=d.ag)
 unfold Hn
 repeat'(first
  |exact c7 rfl
  |refine da (λ_=>?_) (λ_=>?_)
  |refine ft ?_
  |refine dr λ_ _=>?_)
theorem zat(t:iX):(Un t).1.C7=t.C7:=by
 show Tree.V (Uw t) (λr=>r.1.C7=t.C7)
 unfold Uw
 exact da (λ_=>c7 rfl) λ_=>c7 rfl
theorem xaM{v:Int}(hv:U v):U (OX v).C7:=by
 show Tree.V (OY v) (λr=>U r.C7)
 unfold OY
 exact da (λ_=>c7 ep) λ_=>c7 hv
theorem Pw{m:au}(h:kI m)(port clock:Int):kI (wU m port clock).2:=by
 show Tree.V (GQ m port clock) (λr=>kI r.2)
 unfold GQ
 repeat'(first
  |exact c7 h
  |exact c7 ⟨h.dl,h.bl⟩
  |refine da (λ_=>?_) (λ_=>?_)
  |refine dr λ_ _=>?_)
theorem qaN{m:au}(h:kI m)(port:Int){v:Int}(hv:U v):kI (AS m port v).2:=by
 show Tree.V (Fm m port v) (λr=>kI r.2)
 unfold Fm
 refine da (λ_=>c7 h) λ_=>da (λ_=>c7 h) λ_=>da (λ_=>dr λx ex=>c7 ⟨by rw[ex];exact xaM hv,h.bl⟩) λ_=>da (λ_=>ft (dr λx ex=>c7 ⟨h.dl,by show U x.1.ag;rw[ex,Zqc];exact h.bl⟩)) λ_=>da (λ_=>ft (dr λx ex=>c7 ⟨h.dl,h.bl⟩)) λ_=>ft (dr λx ex=>c7 ⟨h.dl,h.bl⟩)
theorem xZ{P:Nat}{m:au}(g:ez P m)(h:kI m)(clock:Int):kI (gd m clock).2:=by
 have ic:iz (mc m):=(Tree.pp (Tn g.ok.mj)).2
 have dv:U (pZ (mc m) m.Mem).2.1.Value:=(Tree.pp (Fo ic g.ok.mem)).2.2.1
 rw[vY]
 generalize pZ (mc m) m.Mem=D at*
 have w:kI (CE m D.1 D.2.2):=⟨h.dl,h.bl⟩
 have i:=Pw w D.2.1.D4 clock
 have o:=qaN w D.2.1.D4 dv
 unfold CF
 cases D.2.1.C3==1
 ·cases D.2.1.C3==2
  ·cases D.2.1.C3==3
   ·cases D.2.1.C3==4
    ·exact⟨h.dl,h.bl⟩
    ·exact⟨h.dl,h.bl⟩
   ·exact⟨h.dl,h.bl⟩
  ·exact⟨o.dl,o.bl⟩
 ·exact⟨i.dl,i.bl⟩
theorem zaN{m:au}(h:kI m)(e:gx):kI (ly m e).2:=by
 show Tree.V (FI m e) (λr=>kI r.2)
 unfold FI
 repeat'(first
  |exact c7 h
  |exact c7 ⟨h.dl,h.bl⟩
  |exact dr λx ex=>c7 ⟨by rw[ex,zat];exact h.dl,h.bl⟩
  |exact ft (dr λx ex=>c7 ⟨h.dl,by show U x.1.ag;rw[ex,yp];exact h.bl⟩)
  |exact ft (dr λx ex=>c7 ⟨h.dl,h.bl⟩)
  |refine da (λ_=>?_) (λ_=>?_))
theorem xaN(i:List Int):kI (lu 8 4 i).1:=by
 show Tree.V (DZ 8 4 i) (λx=>kI x.1)
 unfold DZ
 repeat'(first
  |exact c7 ⟨ep,ep⟩
  |exact c7 ⟨ep,fj _⟩
  |refine da (λ_=>?_) (λ_=>?_)
  |refine ft ?_
  |refine dr λ_ _=>?_)
theorem xat{m:au}(h:ez 8 m)(d:kI m):Tree.V (Fp m [] 87) (λx=>kI x.1):=by
 have z:∀{x:au},x.B2.C7=0->x.B1.ag=0->kI x:=λa b=>⟨a▸ep,b▸ep⟩
 unfold Fp
 refine dr λx0 _=>da (λ_=>c7 (z rfl rfl)) λ_=>da (λ_=>c7 (z rfl rfl)) λ_=>da (λ_=>c7 (z rfl rfl)) λ_=>ft (dr λx1 _=>da (λ_=>c7 (z rfl rfl)) λ_=>ft (dr λx2 hx=>?_))
 rw[Hs]at hx
 refine rG (inv:=λv:au×List dw=>ez 8 v.1/\kI v.1) (μ:=Tp m [] 87) ⟨by rw[hx];exact h,by rw[hx];exact d⟩ (cO _) λv0 ⟨a1,a3⟩=>?_
 have a2:=a1.ok.lS
 refine da (λhb=>da (λhm=>?_) (λ_=>c7 a3)) (λ_=>c7 a3)
 have hb:=oY hb
 have hm:=oY hm
 refine rG (inv:=λ_=>True) (μ:=Tq m [] 87 v0) trivial (cO _) λv1 _=>?_
 refine da (λ_=>c7 a3) λhh=>ft (dr λx3 h3=>da (λ_=>c7 a3) λhi=>ft (dr λx4 _=>da (λ_=>c7 (z rfl rfl)) λ_=>ft (dr λx5 h5=>j8 (pI ?_))))
 obtain⟨b1,b2,_⟩:=Mo a1 ((Mn a1).2 ⟨hh,h3.symm.trans hi,hm⟩) (clock:=0) ep
 have b3:=xZ a1 a3 0
 rw[<-h5]at b1 b2 b3
 show(ez 8 x5.2/\kI x5.2)/\(87-x5.2.A4).toNat<(87-v0.1.A4).toNat
 exact⟨⟨b1,b3⟩,by omega⟩
theorem Za2(kind:Int)(l:List Int)(hl:l.length*8<=reachBytes)(YN:l.length<=60):kI (FK kind l):=by
 show Tree.V (Fs kind l) kI
 have code:=(Tree.pp (Ti l hl)).2
 change((Mr l).length:Int)=l.length/\∀w∈Mr l,U w at code
 obtain⟨b1,b2⟩:=code
 unfold Fs
 have fin:∀{x3:au×Bool} {i:List Int},x3=lu 8 4 i->(∀w∈i,U w)->i.length<=256->kI x3.1/\kI (I8 x3.1 [] 87).1:=fun{x3 i} e hu hlen=>by
  obtain⟨c1,_⟩:=YM hu hlen
  have d:=xaN i
  rw[<-e]at c1 d
  exact⟨d,xat c1 d⟩
 refine ft (dr λx0 nP=>da (λ_=>ft (dr λx1 e1=>?_)) (λhk=>?_))
 ·have eb:x1.1=lJ:=by rw[e1];rfl
  obtain⟨q1,q2⟩:lJ.length<=160/\∀w∈lJ,U w:=Ts
  refine rG (inv:=λv:List Int=>v.length<=160/\∀w∈v,U w) (μ:=Tv kind l) ⟨by rw[eb];exact q1,by rw[eb];exact q2⟩ (cO _) λv0 ⟨a1,a2⟩=>?_
  refine da (λhb=>?_) (λhb=>?_)
  ·have hb:=oY hb
   refine j8 (pI ?_)
   show(_/\_)/\(_:Nat)<_
   refine⟨⟨by rw[lA,cZ];omega,λw hw=>?_⟩,by show 160-(v0++[0]).length<160-v0.length;rw[lA,cZ];omega⟩
   rcases List.mem_append.1 hw with hw|hw
   ·exact a2 w hw
   ·rw[List.mem_singleton.1 hw];exact ep
  ·refine ft (dr λx2 e2=>j8 ?_)
   rw[<-e2]at b1 b2
   have hu:∀w∈v0++x2,U w:=λw hw=>(List.mem_append.1 hw).elim (a2 w) (b2 w)
   have hlen:(v0++x2).length<=256:=by rw[lA];omega
   refine da (λhb=>?_) (λhb=>ft (dr λx3 h3=>da (λ_=>ft (dr λx4 h4=>c7 (by rw[h4];exact(fin h3 hu hlen).2))) λ_=>c7 (fin h3 hu hlen).1))
   have hb:=oY hb;omega
 ·refine ft (dr λx2 e2=>j8 ?_)
  rw[<-e2]at b1 b2
  refine da (λhb=>?_) (λhb=>ft (dr λx3 h3=>da (λ_=>ft (dr λx4 h4=>c7 (by rw[h4];exact(fin h3 b2 (by omega)).2))) λ_=>c7 (fin h3 b2 (by omega)).1))
  have hb:=oY hb;omega
theorem Zoi(d:fp)(c8:Int):kr d c8=true->(0<=d.C0/\d.C0<=3)/\(0<=d.D8/\d.D8<=2)/\d.C1.length<=128:=by
 show Tree.V (wO d c8) (λb=>b=true->(0<=d.C0/\d.C0<=3)/\(0<=d.D8/\d.D8<=2)/\d.C1.length<=128)
 have no:∀{p:Prop},(false=true->p):=λh=>by cases h
 have zero:∀{k:Int},(d.C0==k)=true->(0<=k/\k<=3)->(d.D8==0)=true->decide (d.C1=[])=true->(0<=d.C0/\d.C0<=3)/\(0<=d.D8/\d.D8<=2)/\d.C1.length<=128:=λa b c e=>by
  have a:=eq_of_beq a
  have c:=eq_of_beq c
  have e:=oY e
  exact⟨by omega,by omega,by rw[e];exact aT _⟩
 unfold wO
 refine da (λ_=>c7 no) λ_=>da (λs=>da (λc=>da (λ_=>da (λ_=>c7 (zero s (by decide) c)) λ_=>c7 no) λ_=>c7 no) λ_=>c7 no) λ_=>da (λs=>da (λc=>da (λ_=>da (λ_=>c7 (zero s (by decide) c)) λ_=>c7 no) λ_=>c7 no) λ_=>c7 no) λ_=>da (λs=>da (λc=>da (λ_=>da (λ_=>c7 (zero s (by decide) c)) λ_=>c7 no) λ_=>c7 no) λ_=>c7 no) λ_=>da (λs=>dr λx ex=>da (λhx=>?_) λ_=>c7 no) λ_=>c7 no
 have s:=eq_of_beq s
 have cm:Ot d=true->(0<=d.D8/\d.D8<=2)/\d.C1.length<=128:=by
  show Tree.V (Jc d) (λb=>b=true->(0<=d.D8/\d.D8<=2)/\d.C1.length<=128)
  unfold Jc
  refine da (λc=>c7 λe=>?_) λ_=>da (λc=>c7 λe=>?_) λ_=>c7 no
  ·have c:=eq_of_beq c
   have e:=oY e
   exact⟨by omega,by rw[e];exact aT _⟩
  ·have c:=eq_of_beq c
   have e:=eq_of_beq e
   exact⟨by omega,by omega⟩
 obtain⟨c1,c2⟩:=cm (by rw[<-ex];exact hx)
 exact da (λ_=>c7 λ_=>⟨by omega,c1,c2⟩) λ_=>c7 no
theorem vp{m:au}(h:sT m=true):m.A7.D5.length<=16/\(0<=m.B1.C0/\m.B1.C0<=3)/\(0<=m.B1.D8/\m.B1.D8<=2)/\m.B1.C1.length<=128:=by
 have no:∀{p:Prop},(false=true->p):=λh=>by cases h
 refine(show Tree.V (Ec m) (λb=>b=true->m.A7.D5.length<=16/\(0<=m.B1.C0/\m.B1.C0<=3)/\(0<=m.B1.D8/\m.B1.D8<=2)/\m.B1.C1.length<=128) from ?_) h
 unfold Ec
 refine dr λx0 _=>dr λx1 e1=>da (λh1=>dr λx2 _=>da (λ_=>dr λx3 e3=>da (λh3=>?_) λ_=>c7 no) λ_=>c7 no) λ_=>c7 no
 have k:m.A7.D5.length<=16:=by
  rw[e1]at h1
  have h1:decide ((m.A7.D5.length:Int)<=16)=true:=h1
  have:=oY h1;omega
 rw[e3]at h3
 have d:=Zoi _ _ h3
 exact dr λx4 _=>da (λ_=>ft (dr λx5 _=>c7 λ_=>⟨k,d⟩)) λ_=>c7 no
structure Hx(m:au):Prop where
 r:Pj m
 k:m.A7.D5.length<=100000
 o:m.B1.C1.length<=100000
theorem Zm6{P:Nat}{m:au}(g:ez P m)(d:kI m):Hx m:=by
 obtain⟨_,_,c,_,dv⟩:=(G3 m).1 g.may
 obtain⟨k,s,cm,o⟩:=vp dv
 have c0:=g.ok.lS
 exact⟨⟨d.dl,d.bl,by omega,by omega,by omega⟩,by omega,by omega⟩
theorem YT(x:Int):0<=wrap .u64 x/\wrap .u64 x<18446744073709551616:=by rw[wrap_u64];omega
theorem qq(h0:Int)(s:List UInt8):Px h0 s=Py h0 s:=rfl
theorem qau{m:au}(hv:sY m)(e:Hx m)(hm:m.Mem.length<=1100):Ux m/\Uy m=Px 14695981039346656037 (s7 m):=by
 refine Tree.pp (t:=Pz m) (W:=λr=>r=Px 14695981039346656037 (s7 m)) ?_
 unfold Pz
 exact bo (Zn hv e.r hm e.k e.o) λx hx=>cz (show x.length<=1000000000000 by have:=hx.2;omega) (ar λy hy=>fe (by rw[hy,hx.1]))
def j9(r:cy):Prop:=∀e∈r.D0,U e.D1.N
theorem Zir{L:List ej}{x:ej}(h:∀e∈L,U e.D1.N)(hx:U x.D1.N):∀e∈L++[x],U e.D1.N:=λe he=>by
 rcases List.mem_append.1 he with h1|h1
 ·exact h e h1
 ·rw[List.mem_singleton.1 h1];exact hx
theorem xq{r:cy}(h:j9 r){e:gx}(he:U e.N):j9 (nn r e):=by
 unfold nn
 cases(ly r.A0 e).1
 ·exact h
 ·exact Zir h he
theorem zZ{r:cy}(h:j9 r):j9 (kQ r):=by
 unfold kQ
 cases JB r.A0.B2 r.B6
 ·exact h
 ·exact xq h ep
theorem qaO{r:cy}(h:j9 r)(hc:U r.B6):j9 (Et r):=by
 show∀e∈(FJ r).D0,_
 unfold FJ
 cases Q3 r.A0
 ·exact h
 ·exact Zir h hc
theorem Hy{P:Nat}:∀(n:Nat) {k:Int} {r:cy} (o:List dw),oG P k r->j9 r->j9 (iR n r o).1
 |0,_,_,_,_,h=>h
 |n +1,k,r,o,g,h=>by
  obtain⟨gf,_⟩:=Z88 g
  cases hs:nm (kQ r).A0
  ·rw[qp hs]
   exact Hy n _ (Z86 gf hs) (qaO (zZ h) gf.clock)
  ·rw[vo hs];exact zZ h
theorem zq:∀(l:List gx) {r:cy},(∀q∈l,U q.N)->j9 r->j9 (l.foldl nn r)
 |[],_,_,h=>h
 |e::l,r,hq,h=>zq l (λq hm=>hq q (by simp[hm])) (xq h (hq e (by simp)))
theorem PA{P:Nat}{k:Int}{r:cy}(g:oG P k r)(hq:AV r.B3)(h:j9 r)(steps:Int){clock:Int}(hc:U clock):j9 (lN r steps clock).1:=by
 have gm:U (if clock>r.B6 then clock else r.B6):=by split<;>first|exact hc|exact g.clock
 obtain⟨a,b⟩:=Z9l r.B3 (r:={A0:=r.A0,B6:=if clock>r.B6 then clock else r.B6,D0:=r.D0,B3:=r.B3}) ⟨g.m,gm,g.lS⟩ hq.2
 unfold lN
 rw[g.m.AU]
 exact Hy _ [] (r:=JC _) ⟨a.m,a.clock,a.lS⟩ (zq r.B3 (r:={A0:=r.A0,B6:=if clock>r.B6 then clock else r.B6,D0:=r.D0,B3:=r.B3}) hq.2 h)
theorem PB{r:cy}(h:j9 r)(e:gx):j9 (Eu r e).1:=by
 rw[YH]
 cases Pe e<;>cases e.C3==1<;>cases decide ((r.B3.length:Int)>=16)<;>exact h
theorem YU{A:cy×Bool}(h:j9 A.1):j9 (A.1,([]:List dw)).1:=h
theorem zau{P:Nat}{k:Int}{r:cy}(g:oG P k r)(hq:AV r.B3)(h:j9 r)(n:Int):j9 (wW r n).1:=by
 cases hm:dE (AW n 3) 3==0
 ·rw[YJ hm,YF _ _ _ (by have:=hq.1;omega)]
  exact PA g hq h _ (fj _)
 ·rw[YI hm]
  exact YU (A:=Eu r (Pd n)) (PB h _)
theorem yZ{P:Nat}:∀(l:List Int) {k:Int} {s:cy×List dw},oG P k s.1->AV s.1.B3->j9 s.1->j9 (l.foldl tT s).1
 |[],_,_,_,_,h=>h
 |n::l,k,s,g,hq,h=>by
  rw[aD]
  have a:=Zon g hq n
  have b:=zau g hq h n
  rw[<-Zhq]at a b
  exact yZ l a.1 a.2 b
theorem Zmc{l:List ej}{i:Nat}(h:i<l.length):l.getD i (RK.cu RK.ab)=l[i]:=by
 rw[cP,cG h];rfl
abbrev jz:=au×List dw×Int×Int
def mf:au:={B4:={X:={a0:=0,a1:=0,a2:=0,a3:=0,a4:=0,a5:=0,a6:=0,a7:=0,a8:=0,a9:=0,kz:=0,kA:=0,a12:=0,kB:=0,kC:=0,kD:=0},Pc:=0,B7:={a0:=0,a1:=0,a2:=0,a3:=0,a4:=0,a5:=0,a6:=0,a7:=0}},Mem:=[],A7:={D5:=[]},B2:={D7:=false,C7:=0,D6:=false},B1:={ag:=0,C4:=0,Frame:=0,C0:=0,D8:=0,B9:=0,B5:=0,C1:=[]},C6:={Frame:=0,F1:=0,C8:=false,C2:=0,B8:=false,F4:=0},A6:={C9:=0,C5:=0},A4:=0,A9:=false,B0:=false}
def ik(s:List ej)(i:Int):ej:=s.getD i.toNat (RK.cu RK.ab)
def lT(s:List ej):Nat->Int->au->Int×au
 |0,i,y=>(i,y)
 |n+1,i,y=>bif(decide (i<(s.length:Int))&&(((ik s i).At==y.A4)&&((ik s i).D1.C3 !=1)))then lT s n (i+1) (ly y (ik s i).D1).2 else(i,y)
def CI(go:Int->au->List dw->jz)(s:List ej)(i:Int)(y:au)(out:List dw):jz:=
 bif y.B0 then(y,out,i,0)else
 bif sZ y then(bif decide (i<(s.length:Int))then(mf,[],0,1303)else(y,out,i,0))else
 bif decide (i<(s.length:Int))then
  (bif((ik s i).At==y.A4)==pf y then
   (bif((ik s i).At==y.A4)then go (i+1) (gd y (ik s i).D1.N).2 (out++(gd y (ik s i).D1.N).1)else go i (gd y 0).2 (out++(gd y 0).1))
  else(mf,[],0,1302))
 else(bif false==pf y then go i (gd y 0).2 (out++(gd y 0).1)else(mf,[],0,1302))
def iu(s:List ej)(u:Int):Nat->Int->au->List dw->jz
 |0,i,x,out=>(x,out,i,0)
 |k+1,i,x,out=>bif decide (x.A4<1152921504606846976)then CI (iu s u k) s (lT s (s.length-i).toNat i x).1 (lT s (s.length-i).toNat i x).2 out else(x,out,i,0)
def CJ(s:List ej)(i:Nat):Bool:=!decide ((s.getD i (RK.cu RK.ab)).At<(s.getD (i-1) (RK.cu RK.ab)).At)&&!(((s.getD i (RK.cu RK.ab)).At==(s.getD (i-1) (RK.cu RK.ab)).At)&&((s.getD (i-1) (RK.cu RK.ab)).D1.C3==1))
def kv(s:List ej):Bool:=decide (∀i,i<s.length->1<=i->CJ s i=true)
def lP(m:au)(s:List ej)(u:Int):Int:=
 if ra m=false then 1300 else if u<m.A4 then 1300 else if 4000<wrap .u64 (u-m.A4)then 1300 else if 400<s.length then 1300 else if kv s=false then 1301 else if 0<s.length/\(ik s 0).At<m.A4 then 1301 else 0
def bm(m:au)(s:List ej)(u:Int):jz:=if lP m s u=0 then iu s u (u-m.A4).toNat 0 m []else(mf,[],0,lP m s u)
theorem PC{β:Type}{c1 c2 c3 cc:Bool}{N T:Tree β}{W:β->Prop}(YV:c1=true->cc=true)(hN:c1=true->c2=true->c3=true->N.w W)(hT:(c1&&(c2&&c3))=false->T.w W):(Tree.br c1 (.cn cc (.br c2 (.cn cc (.br c3 (.cn cc N) T)) T)) T).w W:=by
 refine aa (λh1=>ay (YV h1) (aa (λh2=>ay (YV h1) (aa (λh3=>ay (YV h1) (hN h1 h2 h3)) λh3=>hT (by rw[h1,h2,h3];rfl))) λh2=>hT (by rw[h1,h2];rfl))) λh1=>hT (by rw[h1];rfl)
theorem bn3:∀a b:Bool,(!b==a)=true->(a==b)=false:=by decide
theorem bn4:∀a b:Bool,(!b==a)=false->(a==b)=true:=by decide
theorem Uz{s:List ej}(h:kv s=true):∀i:Nat,i<s.length->1<=i->CJ s i=true:=oY h
theorem yq{s:List ej}(h:kv s=true):∀i:Nat,i<s.length->(ik s 0).At<=(s.getD i (RK.cu RK.ab)).At:=by
 intro i
 induction i with
 |zero=>intro _;exact cW _
 |succ i ih=>
  intro hi
  have h1:=Uz h (i+1) hi (by omega)
  have h2:=ih (by omega)
  unfold CJ at h1
  rw[aE]at h1
  have h3:decide ((s.getD (i+1) (RK.cu RK.ab)).At<(s.getD i (RK.cu RK.ab)).At)=false:=by simpa using h1.1
  have h3:=oN h3
  omega
theorem Z65{s:List ej}(hl:s.length<=1000000):(Mu s).w (λb=>b=kv s):=by
 unfold Mu
 refine fy (inv:=λz:Int=>1<=z/\(z<=s.length\/z=1)/\∀j:Nat,(j:Int)<z->1<=j->CJ s j=true) (μ:=Mv s) ⟨cW 1,.inr rfl,λj h1 h2=>by omega⟩ (cO _) λi ⟨a,b,c⟩=>?_
 have ew:i64.wrap (i+1)=i+1:=by rw[wrap_i64];omega
 have em:i64.wrap (i-1)=i-1:=by rw[wrap_i64];omega
 refine aa (λhb=>?_) (λhb=>fe ?_)
 rotate_left
 ·have hb:=oN hb
  exact(dY λj h1 h2=>c j (by omega) h2).symm
 have hb:i<s.length:=oY hb
 have e1:(i-1).toNat=i.toNat-1:=by omega
 have no:CJ s i.toNat=false->false=kv s:=λh=>(dN λk=>by rw[k i.toNat (by omega) (by omega)]at h;cases h).symm
 have nx:CJ s i.toNat=true->(1<=i64.wrap (i+1)/\(i64.wrap (i+1)<=s.length\/i64.wrap (i+1)=1)/\∀j:Nat,(j:Int)<i64.wrap (i+1)->1<=j->CJ s j=true)/\Mv s (i64.wrap (i+1))<Mv s i:=λh=>by
  show _/\(s.length-i64.wrap (i+1)).toNat<(s.length-i).toNat
  rw[ew]
  refine⟨⟨by omega,by omega,λj h1 h2=>?_⟩,by omega⟩
  by_cases e:(j:Int)<i
  ·exact c j e h2
  ·rw[show j=i.toNat by omega];exact h
 have c1:(bT 4 4&&bJ 0 4&&decide (0<=i64.wrap (i-1)/\i64.wrap (i-1)<(s.length:Int)))=true:=by rw[em];simp[bJ];omega
 have c2:(bT 4 4&&bJ 0 4&&decide (0<=i/\i<(s.length:Int)))=true:=by simp[bJ];omega
 have eP:CJ s i.toNat=(!decide ((s.getD i.toNat (RK.cu RK.ab)).At<(s.getD (i64.wrap (i-1)).toNat (RK.cu RK.ab)).At)&&!(((s.getD i.toNat (RK.cu RK.ab)).At==(s.getD (i64.wrap (i-1)).toNat (RK.cu RK.ab)).At)&&((s.getD (i64.wrap (i-1)).toNat (RK.cu RK.ab)).D1.C3==1))):=by rw[em,e1];rfl
 refine ay c1 (ay c2 (aa (λh=>fe (no (by rw[eP,h];rfl))) λh=>aa (λh1=>aa (λh2=>fe (no (by rw[eP,h,h1,h2];rfl))) λh2=>ff (nx (by rw[eP,h,h1,h2];rfl))) λh1=>ff (nx (by rw[eP,h,h1];rfl))))
theorem PD{m:au}(hv:sY m){s:List ej}(hs:s.length<=1000000){u:Int}:(PE m s u).w (λx=>x=lP m s u):=by
 unfold PE
 refine cz (Tree.pp (TJ hv.uJ.2)).1 (ar λx0 e0=>?_)
 have e0:x0=ra m:=e0.trans (L6 hv)
 refine aa (λh=>fe ?_) λhm=>aa (λh=>fe ?_) λh1=>aa (λh=>fe ?_) λh2=>aa (λh=>fe ?_) λh3=>cz (show s.length<=1000000000000 by omega) (ar λx1 e1=>?_)
 ·unfold lP;rw[if_pos (by rw[<-e0];simpa using h)]
 all_goals have kH:¬ra m=false:=by rw[<-e0];simpa using hm
 ·unfold lP;rw[if_neg kH,if_pos (oY h)]
 all_goals have pw:¬u<m.A4:=oN h1
 ·unfold lP;rw[if_neg kH,if_neg pw,if_pos (oY h)]
 all_goals have Mw:¬4000<wrap .u64 (u-m.A4):=oN h2
 ·unfold lP;rw[if_neg kH,if_neg pw,if_neg Mw,if_pos (by have:=oY h;omega)]
 have JI:¬400<s.length:=by have:=oN h3;omega
 have e1:x1=kv s:=by rw[e1];exact Tree.post _ (Z65 (by omega))
 rw[e1]
 refine aa (λh=>fe ?_) λho=>?_
 ·unfold lP;rw[if_neg kH,if_neg pw,if_neg Mw,if_neg JI,if_pos (by simpa using h)]
 have jg:kv s=true:=by simpa using ho
 have ho2:¬kv s=false:=by rw[jg];simp
 refine fy (inv:=λi:Int=>0<=i/\i<=s.length/\(0<i->¬(ik s 0).At<m.A4)) (μ:=Qmv m s u) ⟨cW 0,by omega,λh=>absurd h (Int.lt_irrefl 0)⟩ (cO _) λi ⟨v1,v2,v3⟩=>?_
 refine aa (λhb=>?_) (λhb=>fe ?_)
 ·have hb:=oY hb
  have cj:i.toNat<s.length:=by omega
  have of:=yq jg i.toNat cj
  have ew:i64.wrap (i+1)=i+1:=by rw[wrap_i64];omega
  refine ay (by simp[bJ];omega) (aa (λh=>fe ?_) λh=>ff ?_)
  ·have h:=oY h
   show(1301:Int)=_
   unfold lP;rw[if_neg kH,if_neg pw,if_neg Mw,if_neg JI,if_neg ho2,if_pos ⟨by omega,by omega⟩]
  ·have h:=oN h
   show(0<=i64.wrap (i+1)/\i64.wrap (i+1)<=s.length/\(0<i64.wrap (i+1)->¬(ik s 0).At<m.A4))/\(s.length-i64.wrap (i+1)).toNat<(s.length-i).toNat
   rw[ew]
   refine⟨⟨by omega,by omega,λ_=>?_⟩,by omega⟩
   by_cases e:0<i
   ·exact v3 e
   ·have:i=0:=by omega
    subst this;exact h
 ·have hb:=oN hb
  show(0:Int)=_
  unfold lP;rw[if_neg kH,if_neg pw,if_neg Mw,if_neg JI,if_neg ho2,if_neg fun⟨q1,q2⟩=>v3 (by omega) q2]
theorem vq{m:au}(hv:sY m){s:List ej}(hs:s.length<=1000000)(hu:∀e∈s,U e.D1.N){u:Int}(u0:0<=u)(u1:u<18446744073709551616):(PF m s u).w (λr=>r=bm m s u/\r.2.1.length<=4000/\r.1.Mem.length<=1024):=by
 unfold PF
 have m0:=hv.lS
 refine bo (PD hv hs) λx0 e0=>?_
 rw[e0]
 refine aa (λh=>fe ⟨?_,aT _,aT _⟩) λh=>?_
 ·have h:¬lP m s u=0:=by simpa using h
  unfold bm;rw[if_neg h];rfl
 have h0:lP m s u=0:=by simpa using h
 have hm:¬ra m=false:=λq=>by unfold lP at h0;rw[if_pos q]at h0;cases h0
 have h1:¬u<m.A4:=λq=>by unfold lP at h0;rw[if_neg hm,if_pos q]at h0;cases h0
 have h2:¬4000<wrap .u64 (u-m.A4):=λq=>by unfold lP at h0;rw[if_neg hm,if_neg h1,if_pos q]at h0;cases h0
 have mm:nj m=true:=by rw[L6 hv];simpa using hm
 obtain⟨P,gS,gM⟩:=wV hv mm
 have g:ez P m:=⟨gM,mm⟩
 have hle:m.A4<=u:=by omega
 have h4:u-m.A4<=4000:=by rw[wrap_u64]at h2;omega
 have PG:iu s u (u-m.A4).toNat 0 m []=bm m s u:=by unfold bm;rw[h0,if_pos rfl]
 generalize bm m s u=sd at PG⊢
 refine cz (r7 gM.mem) (ar λx1 e1=>?_)
 have gm:jF m.Mem=m.Mem:=rfl
 rw[gm]at e1
 subst e1
 refine fy (inv:=λv:Int×au×List dw=>0<=v.1/\v.1<=s.length/\ez P v.2.1/\v.2.1.A4<=u/\(v.2.2.length:Int)<=v.2.1.A4-m.A4/\iu s u (u-v.2.1.A4).toNat v.1 v.2.1 v.2.2=sd) (μ:=Qry m s u) ⟨cW 0,by show(0:Int)<=_;omega,g,hle,by show((0:Nat):Int)<=m.A4-m.A4;omega,PG⟩ (cO _) λv ⟨a1,a2,a3,a4,a5,a6⟩=>?_
 obtain⟨i0,x,out⟩:=v
 have a1:0<=i0:=a1
 have a2:i0<=s.length:=a2
 have a3:ez P x:=a3
 have a4:x.A4<=u:=a4
 have a5:(out.length:Int)<=x.A4-m.A4:=a5
 have a6:iu s u (u-x.A4).toNat i0 x out=sd:=a6
 refine aa (λhb=>?_) (λhb=>fe ?_)
 rotate_left
 ·have hb:¬x.A4<u:=oN hb
  rw[show(u-x.A4).toNat=0 by omega]at a6
  exact⟨a6,by show out.length<=4000;omega,a3.len⟩
 have hb:x.A4<u:=oY hb
 obtain⟨k,hk⟩:∃k:Nat,(u-x.A4).toNat=k+1:=⟨(u-x.A4).toNat-1,by omega⟩
 rw[hk]at a6
 refine aa (λBy=>?_) (λBy=>fe ?_)
 rotate_left
 ·have Hz:(bif decide (x.A4<1152921504606846976)then CI (iu s u k) s (lT s (s.length-i0).toNat i0 x).1 (lT s (s.length-i0).toNat i0 x).2 out else(x,out,i0,0))=sd:=a6
  have By:decide (x.A4<1152921504606846976)=false:=By
  rw[By]at Hz
  exact⟨Hz,by show out.length<=4000;omega,a3.len⟩
 have Hz:(bif decide (x.A4<1152921504606846976)then CI (iu s u k) s (lT s (s.length-i0).toNat i0 x).1 (lT s (s.length-i0).toNat i0 x).2 out else(x,out,i0,0))=sd:=a6
 have PH:decide (x.A4<1152921504606846976)=true:=By
 rw[PH]at Hz
 have Hz:CI (iu s u k) s (lT s (s.length-i0).toNat i0 x).1 (lT s (s.length-i0).toNat i0 x).2 out=sd:=Hz
 have By:x.A4<1152921504606846976:=oY PH
 clear a6
 generalize hE:lT s (s.length-i0).toNat i0 x=E at Hz
 refine fy (inv:=λw:Int×au=>0<=w.1/\w.1<=s.length/\ez P w.2/\w.2.A4=x.A4/\lT s (s.length-w.1).toNat w.1 w.2=E) (μ:=Qrn m s u (i0,x,out)) ⟨a1,a2,a3,rfl,hE⟩ (cO _) λw ⟨b1,b2,b3,b4,b5⟩=>?_
 obtain⟨i,y⟩:=w
 have b1:0<=i:=b1
 have b2:i<=s.length:=b2
 have b3:ez P y:=b3
 have b4:y.A4=x.A4:=b4
 have b5:lT s (s.length-i).toNat i y=E:=b5
 have ew:i64.wrap (i+1)=i+1:=by rw[wrap_i64];omega
 have cc:decide (i<(s.length:Int))=true->(bT 4 4&&bJ 0 4&&decide (0<=i/\i<((s.length:Nat):Int)))=true:=λh=>by have:=oY h;simp[bJ];omega
 have uN:decide (i<(s.length:Int))=true->U (s.getD i.toNat (RK.cu RK.ab)).D1.N:=λh=>by
  have:=oY h
  rw[Zmc (show i.toNat<s.length by omega)]
  exact hu _ (fI _)
 refine PC (λh=>cc h) (λh1 h2 h3=>?_) λhx=>?_
 ·have hi:=oY h1
  obtain⟨g1,c1⟩:=YG b3 (uN h1)
  refine cz (Zoz b3.v b3.len (uN h1)) (ar λx3 e3=>ff ?_)
  have e3:x3.1=(ly y (s.getD i.toNat (RK.cu RK.ab)).D1).2:=by rw[e3,b3.app]
  show(0<=i64.wrap (i+1)/\i64.wrap (i+1)<=s.length/\ez P x3.1/\x3.1.A4=x.A4/\lT s (s.length-i64.wrap (i+1)).toNat (i64.wrap (i+1)) x3.1=E)/\(s.length-i64.wrap (i+1)).toNat<(s.length-i).toNat
  rw[ew,e3]
  refine⟨⟨by omega,by omega,g1,by rw[c1];exact b4,?_⟩,by omega⟩
  rw[show(s.length-i).toNat=(s.length-(i+1)).toNat+1 by omega]at b5
  have PI:(bif(decide (i<(s.length:Int))&&(((ik s i).At==y.A4)&&((ik s i).D1.C3 !=1)))then lT s (s.length-(i+1)).toNat (i+1) (ly y (ik s i).D1).2 else(i,y))=E:=b5
  rw[show(decide (i<(s.length:Int))&&(((ik s i).At==y.A4)&&((ik s i).D1.C3 !=1)))=true by
   have h1:decide (i<(s.length:Int))=true:=h1
   have h2:((ik s i).At==y.A4)=true:=h2
   have h3:((ik s i).D1.C3 !=1)=true:=h3
   rw[h1,h2,h3];rfl]at PI
  exact PI
 have hx:(decide (i<(s.length:Int))&&(((ik s i).At==y.A4)&&((ik s i).D1.C3 !=1)))=false:=hx
 have eE:(i,y)=E:=by
  generalize(s.length-i).toNat=n at b5
  cases n with
  |zero=>exact b5
  |succ n=>
   have PI:(bif(decide (i<(s.length:Int))&&(((ik s i).At==y.A4)&&((ik s i).D1.C3 !=1)))then lT s n (i+1) (ly y (ik s i).D1).2 else(i,y))=E:=b5
   rw[hx]at PI;exact PI
 subst eE
 have R0:CI (iu s u k) s i y out=sd:=Hz
 unfold CI at R0
 have lo:out.length<=4000:=by omega
 have st:y.B0=false->sZ y=false->nm y=false:=λh1 h2=>(Mn b3).2 ⟨h1,h2,by omega⟩
 have fin:∀(c:Int) (j:Int),U c->nm y=false->0<=j->j<=s.length->iu s u k j (gd y c).2 (out++(gd y c).1)=sd->decide (40*(out.length+(gd y c).1.length)<=140737488355328)=true/\((0<=j/\j<=s.length/\ez P (gd y c).2/\(gd y c).2.A4<=u/\((out++(gd y c).1).length:Int)<=(gd y c).2.A4-m.A4/\iu s u (u-(gd y c).2.A4).toNat j (gd y c).2 (out++(gd y c).1)=sd)/\(u-(gd y c).2.A4).toNat<(u-x.A4).toNat):=λc j hc hs j1 j2 hr=>by
  obtain⟨g1,c1,l1⟩:=Mo b3 hs hc
  refine⟨dY (by omega),⟨j1,j2,g1,by omega,by rw[lA];omega,?_⟩,by omega⟩
  rw[show(u-(gd y c).2.A4).toNat=k by omega];exact hr
 refine aa (λhh=>fe ?_) λhh=>cz (qas b3.ok.target.2) (ar λx4 e4=>?_)
 ·have hh:y.B0=true:=hh
  rw[hh]at R0
  exact⟨R0,lo,b3.len⟩
 have hh:y.B0=false:=hh
 rw[hh]at R0
 have e4:x4=sZ y:=(e4.trans b3.idle)
 rw[e4]
 refine aa (λhi=>?_) λhi=>?_
 ·have R1:(bif sZ y then(bif decide (i<(s.length:Int))then((mf,[],0,1303):jz)else(y,out,i,0))else _)=sd:=R0
  rw[hi]at R1
  have R1:(bif decide (i<(s.length:Int))then((mf,[],0,1303):jz)else(y,out,i,0))=sd:=R1
  refine aa (λhl=>fe ?_) λhl=>fe ?_
  ·have hl:decide (i<(s.length:Int))=true:=hl
   rw[hl]at R1;exact⟨R1,aT _,aT _⟩
  ·have hl:decide (i<(s.length:Int))=false:=hl
   rw[hl]at R1;exact⟨R1,lo,b3.len⟩
 have sk:=st hh hi
 have R2:(bif decide (i<(s.length:Int))then
  (bif((ik s i).At==y.A4)==pf y then
   (bif((ik s i).At==y.A4)then iu s u k (i+1) (gd y (ik s i).D1.N).2 (out++(gd y (ik s i).D1.N).1)else iu s u k i (gd y 0).2 (out++(gd y 0).1))
  else((mf,[],0,1302):jz))
 else(bif false==pf y then iu s u k i (gd y 0).2 (out++(gd y 0).1)else(mf,[],0,1302)))=sd:=by
  have R1:(bif sZ y then(bif decide (i<(s.length:Int))then((mf,[],0,1303):jz)else(y,out,i,0))else _)=sd:=R0
  rw[hi]at R1;exact R1
 clear R0
 have rq:∀z,z=Pf y->z=pf y:=λz hz=>by rw[hz,Zpe b3.v,show Q3 y=bif nm y then false else pf y from rfl,sk];rfl
 have JJ:∀(c:Int),U c->O9 y c:=λc hc=>(zl b3.v b3.len (clock:=c) hc).1
 have PJ:∀(c:Int) (z:au×List dw),z=AT y c->z.2=(gd y c).1/\z.1=(gd y c).2:=λc z hz=>by rw[hz,b3.step sk];exact⟨rfl,rfl⟩
 have UA:iu s u k i (gd y 0).2 (out++(gd y 0).1)=sd->∀z:au×List dw,z=AT y 0->decide (40*(out.length+z.2.length)<=140737488355328)=true/\((0<=i/\i<=s.length/\ez P z.1/\z.1.A4<=u/\((out++z.2).length:Int)<=z.1.A4-m.A4/\iu s u (u-z.1.A4).toNat i z.1 (out++z.2)=sd)/\(u-z.1.A4).toNat<(u-x.A4).toNat):=λhr z hz=>by
  obtain⟨z1,z2⟩:=PJ 0 z hz
  rw[z1,z2]
  exact fin 0 i ep sk b1 b2 hr
 refine aa (λhl=>?_) λhl=>?_
 ·have hl:decide (i<(s.length:Int))=true:=hl
  have iJ:=oY hl
  rw[hl]at R2
  have R2:(bif((ik s i).At==y.A4)==pf y then
   (bif((ik s i).At==y.A4)then iu s u k (i+1) (gd y (ik s i).D1.N).2 (out++(gd y (ik s i).D1.N).1)else iu s u k i (gd y 0).2 (out++(gd y 0).1))
  else((mf,[],0,1302):jz))=sd:=R2
  refine ay (cc hl) (cz (Tree.pp (Znb b3.s)).1 (ar λx5 e5=>?_))
  have e5:=rq x5 e5
  rw[e5]
  refine aa (λhn=>fe ?_) λhn=>?_
  ·have hn:=bn3 ((ik s i).At==y.A4) (pf y) hn
   rw[hn]at R2
   exact⟨R2,aT _,aT _⟩
  have hn:=bn4 ((ik s i).At==y.A4) (pf y) hn
  rw[hn]at R2
  have R2:(bif((ik s i).At==y.A4)then iu s u k (i+1) (gd y (ik s i).D1.N).2 (out++(gd y (ik s i).D1.N).1)else iu s u k i (gd y 0).2 (out++(gd y 0).1))=sd:=R2
  refine aa (λha=>ay (cc hl) (cz (JJ _ (uN hl)) (ar λx6 e6=>?_))) λha=>?_
  ·have ha:((ik s i).At==y.A4)=true:=ha
   rw[ha]at R2
   obtain⟨z1,z2⟩:=PJ _ x6 e6
   have F:=fin (ik s i).D1.N (i+1) (uN hl) sk (by omega) (by omega) R2
   refine ay (by rw[z1];exact F.1) (ff ?_)
   have F2:=F.2
   rw[<-ew]at F2
   show(0<=i64.wrap (i+1)/\i64.wrap (i+1)<=s.length/\ez P x6.1/\x6.1.A4<=u/\((out++x6.2).length:Int)<=x6.1.A4-m.A4/\iu s u (u-x6.1.A4).toNat (i64.wrap (i+1)) x6.1 (out++x6.2)=sd)/\(u-x6.1.A4).toNat<(u-x.A4).toNat
   rw[z1,z2];exact F2
  ·have ha:((ik s i).At==y.A4)=false:=ha
   rw[ha]at R2
   exact cz (JJ _ ep) (ar λx7 e7=>ay (UA R2 x7 e7).1 (ff (UA R2 x7 e7).2))
 ·have hl:decide (i<(s.length:Int))=false:=hl
  rw[hl]at R2
  have R2:(bif false==pf y then iu s u k i (gd y 0).2 (out++(gd y 0).1)else((mf,[],0,1302):jz))=sd:=R2
  refine cz (Tree.pp (Znb b3.s)).1 (ar λx8 e8=>?_)
  have e8:=rq x8 e8
  rw[e8]
  refine aa (λhn=>fe ?_) λhn=>?_
  ·have hn:=bn3 false (pf y) hn
   rw[hn]at R2
   exact⟨R2,aT _,aT _⟩
  have hn:=bn4 false (pf y) hn
  rw[hn]at R2
  exact cz (JJ _ ep) (ar λx7 e7=>ay (UA R2 x7 e7).1 (ff (UA R2 x7 e7).2))
def uP(s:List ej)(i:Int)(y:au):Bool:=decide (i<(s.length:Int))&&(((ik s i).At==y.A4)&&((ik s i).D1.C3 !=1))
theorem Mx(s:List ej)(n:Nat)(i:Int)(y:au):lT s (n+1) i y=bif uP s i y then lT s n (i+1) (ly y (ik s i).D1).2 else(i,y):=rfl
theorem xau{s:List ej}{i:Int}{y:au}(hx:uP s i y=false):∀n,lT s n i y=(i,y)
 |0=>rfl
 |n+1=>by rw[Mx,hx];rfl
theorem FP(s:List ej)(u:Int)(k:Nat)(i:Int)(x:au)(out:List dw):iu s u (k+1) i x out=bif decide (x.A4<1152921504606846976)then CI (iu s u k) s (lT s (s.length-i).toNat i x).1 (lT s (s.length-i).toNat i x).2 out else(x,out,i,0):=rfl
theorem CK(s:List ej)(u v:Int):∀(k:Nat) (i:Int) (x:au) (out:List dw),iu s u k i x out=iu s v k i x out
 |0,_,_,_=>rfl
 |k+1,i,x,out=>by
  have e:iu s u k=iu s v k:=by funext a b c;exact CK s u v k a b c
  rw[FP,FP,e]
def CL(s:List ej)(i:Int)(x:au):Prop:=∀j:Nat,i<=j->j<s.length->x.A4<=(ik s j).At
structure evK(P:Nat)(s:List ej)(i:Int)(x:au)(E:Int×au):Prop where
 lo:i<=E.1
 hi:E.1<=s.length
 g:ez P E.2
 c:E.2.A4=x.A4
 fix:uP s E.1 E.2=false
theorem CM{s:List ej}(hu:∀e∈s,U e.D1.N){i:Int}(h0:0<=i)(h:i<s.length):U (ik s i).D1.N:=by
 unfold ik
 rw[Zmc (show i.toNat<s.length by omega)]
 exact hu _ (fI _)
theorem YW{P:Nat}{s:List ej}(hu:∀e∈s,U e.D1.N):∀(n:Nat) {i:Int} {x:au},ez P x->0<=i->i<=s.length->(s.length-i).toNat<=n->evK P s i x (lT s n i x)
 |0,i,x,g,h0,h1,hn=>⟨cW i,h1,g,rfl,by unfold uP;rw[show lT s 0 i x=(i,x) from rfl,dN (show¬i<(s.length:Int) by omega)];rfl⟩
 |n + 1,i,x,g,h0,h1,hn=>by
  rw[Mx]
  cases hb:uP s i x
  ·exact⟨cW i,h1,g,rfl,hb⟩
  ·have cj:i<s.length:=by
    unfold uP at hb
    rw[aE]at hb
    exact oY hb.1
   obtain⟨g1,c1⟩:=YG g (CM hu h0 cj)
   have k:=YW hu n (i:=i+1) g1 (by omega) (by omega) (by omega)
   show evK P s i x (lT s n (i+1) (ly x (ik s i).D1).2)
   exact⟨by have:=k.lo;omega,k.hi,k.g,k.c.trans c1,k.fix⟩
theorem UB{s:List ej}{i:Int}{y:au}(hx:uP s i y=false)(h:y.B0=true\/(sZ y=true/\decide (i<(s.length:Int))=false))(u:Int):∀(b:Nat) (out:List dw),iu s u b i y out=(y,out,i,0)
 |0,_=>rfl
 |b +1,out=>by
  rw[FP,xau hx]
  cases decide (y.A4<1152921504606846976)
  ·rfl
  ·unfold CI
   rcases h with h|⟨h1,h2⟩
   ·rw[h];rfl
   ·rw[h1,h2];cases y.B0<;>rfl
theorem qr{s:List ej}(h:kv s=true)(i:Nat):∀j:Nat,i<=j->j<s.length->(ik s i).At<=(ik s j).At:=by
 intro j
 induction j with
 |zero=>intro h1 _;rw[show i=0 by omega];exact cW _
 |succ j ih=>
  intro h1 h2
  by_cases e:i=j+1
  ·rw[e];exact cW _
  ·have h3:=Uz h (j+1) h2 (by omega)
   have h4:=ih (by omega) (by omega)
   unfold CJ at h3
   rw[aE]at h3
   have h5:decide ((s.getD (j+1) (RK.cu RK.ab)).At<(s.getD j (RK.cu RK.ab)).At)=false:=by simpa using h3.1
   have h5:=oN h5
   unfold ik at h4⊢
   rw[eD]at h4⊢
   rw[eD]at h4⊢
   omega
theorem zaO{s:List ej}(h:kv s=true)(i:Nat)(hk:(ik s i).D1.C3=1)(j:Nat)(h1:i<j)(h2:j<s.length):(ik s i).At<(ik s j).At:=by
 have h3:=Uz h (i+1) (by omega) (by omega)
 have h4:=qr h (i+1) j (by omega) h2
 unfold CJ at h3
 rw[aE]at h3
 have h5:decide ((s.getD (i+1) (RK.cu RK.ab)).At<(s.getD i (RK.cu RK.ab)).At)=false:=by simpa using h3.1
 have h5:=oN h5
 unfold ik at h4 hk⊢
 rw[eD]at hk h4⊢
 rw[eD]at h4⊢
 have h6:=h3.2
 rw[show i+1-1=i by omega,show((s.getD i (RK.cu RK.ab)).D1.C3==1)=true by rw[hk];rfl]at h6
 have h7:¬(s.getD (i+1) (RK.cu RK.ab)).At=(s.getD i (RK.cu RK.ab)).At:=by simpa using h6
 omega
theorem PK{s:List ej}{i j:Int}{x y:au}(h:CL s i x)(hl:i<=j)(hc:y.A4=x.A4):CL s j y:=λq h1 h2=>by
 have:=h q (by omega) h2;omega
theorem Zmo{s:List ej}{j:Int}{y z:au}(ho:kv s=true)(h:CL s j y)(h0:0<=j)(hn:j<s.length->¬(ik s j).At=y.A4)(hc:z.A4=y.A4+1):CL s j z:=λq h1 h2=>by
 have a:=h j.toNat (by omega) (by omega)
 have b:=qr ho j.toNat q (by omega) h2
 rw[eH h0]at a b
 have:=hn (by omega)
 omega
theorem xr{s:List ej}{j:Int}{y z:au}(ho:kv s=true)(h:CL s j y)(h0:0<=j)(hj:j<s.length)(hk:(ik s j).D1.C3=1)(hc:z.A4=y.A4+1):CL s (j+1) z:=λq h1 h2=>by
 have a:=h j.toNat (by omega) (by omega)
 have b:=zaO ho j.toNat (by rw[eH h0];exact hk) q (by omega) h2
 rw[eH h0]at a b
 omega
structure YX(P:Nat)(s:List ej)(i:Int)(x:au)(k:Nat)(r:jz):Prop where
 g:ez P r.1
 lo:i<=r.2.2.1
 hi:r.2.2.1<=s.length
 c0:x.A4<=r.1.A4
 c1:r.1.A4<=x.A4+k
 ah:kv s=true->CL s i x->CL s r.2.2.1 r.1
 st:r.1.A4=x.A4+k\/∀(u:Int) (b:Nat) (o:List dw),iu s u b r.2.2.1 r.1 o=(r.1,o,r.2.2.1,0)
theorem YY{P:Nat}{s:List ej}(hu:∀e∈s,U e.D1.N)(u:Int):∀(a:Nat) {i:Int} {x:au} {out:List dw},ez P x->0<=i->i<=s.length->
 ((iu s u a i x out).2.2.2=0->YX P s i x a (iu s u a i x out))/\((iu s u a i x out).2.2.2≠0->(iu s u a i x out).1=mf/\(iu s u a i x out).2.1=[]/\(iu s u a i x out).2.2.1=0)/\
 ∀b,iu s u (a+b) i x out=bif(iu s u a i x out).2.2.2==0 then iu s u b (iu s u a i x out).2.2.1 (iu s u a i x out).1 (iu s u a i x out).2.1 else iu s u a i x out
 |0,i,x,out,g,h0,h1=>⟨λ_=>⟨g,cW i,h1,cW _,by show x.A4<=x.A4+0;omega,λ_ h=>h,.inl (by show x.A4=x.A4+0;omega)⟩,λh=>absurd rfl h,λb=>by rw[Nat.zero_add];rfl⟩
 |a + 1,i,x,out,g,h0,h1=>by
  have ih:=fun{i:Int} {x:au} {out:List dw}=>YY (P:=P) hu u a (i:=i) (x:=x) (out:=out)
  have hab:∀b,a+1+b=(a+b)+1:=λb=>by omega
  simp only[hab,FP]
  cases hc:decide (x.A4<1152921504606846976)
  ·refine⟨λ_=>⟨g,cW i,h1,cW _,by show x.A4<=x.A4+_;omega,λ_ h=>h,.inr λu b o=>?_⟩,λh=>absurd rfl h,λb=>?_⟩
   ·cases b with
    |zero=>rfl
    |succ b=>show iu s u (b+1) i x o=_;rw[FP,hc];rfl
   ·cases b with
    |zero=>rfl
    |succ b=>show(x,out,i,(0:Int))=iu s u (b+1) i x out;rw[FP,hc];rfl
  have hcx:=oY hc
  have k:=YW (P:=P) hu (s.length-i).toNat g h0 h1 (aO _)
  generalize lT s (s.length-i).toNat i x=E at k⊢
  obtain⟨j,y⟩:=E
  have Ev:i<=j:=k.lo
  have JK:j<=s.length:=k.hi
  have kg:ez P y:=k.g
  have kc:y.A4=x.A4:=k.c
  have kf:uP s j y=false:=k.fix
  simp only[cond_true]
  unfold CI
  cases hh:y.B0
  rotate_left
  ·refine⟨λ_=>⟨kg,Ev,JK,by show x.A4<=y.A4;omega,by show y.A4<=_;omega,λ_ h=>PK h Ev kc,.inr λu b o=>UB kf (.inl hh) u b o⟩,λh=>absurd rfl h,λb=>?_⟩
   exact(UB kf (.inl hh) u b out).symm
  cases hi:sZ y
  rotate_left
  ·cases hl:decide (j<(s.length:Int))
   ·refine⟨λ_=>⟨kg,Ev,JK,by show x.A4<=y.A4;omega,by show y.A4<=_;omega,λ_ h=>PK h Ev kc,.inr λu b o=>UB kf (.inr ⟨hi,hl⟩) u b o⟩,λh=>absurd rfl h,λb=>?_⟩
    exact(UB kf (.inr ⟨hi,hl⟩) u b out).symm
   ·exact⟨λh=>absurd (show(1303:Int)=0 from h) (by decide),λ_=>⟨rfl,rfl,rfl⟩,λb=>rfl⟩
  have sk:nm y=false:=(Mn kg).2 ⟨hh,hi,by omega⟩
  have next:∀(c:Int) (q:Int),U c->0<=q->q<=s.length->i<=q->((gd y c).2.A4=y.A4+1->kv s=true->CL s i x->CL s q (gd y c).2)->
   ((iu s u a q (gd y c).2 (out++(gd y c).1)).2.2.2=0->YX P s i x (a+1) (iu s u a q (gd y c).2 (out++(gd y c).1)))/\
   ((iu s u a q (gd y c).2 (out++(gd y c).1)).2.2.2≠0->(iu s u a q (gd y c).2 (out++(gd y c).1)).1=mf/\(iu s u a q (gd y c).2 (out++(gd y c).1)).2.1=[]/\(iu s u a q (gd y c).2 (out++(gd y c).1)).2.2.1=0)/\
   ∀b,iu s u (a+b) q (gd y c).2 (out++(gd y c).1)=bif(iu s u a q (gd y c).2 (out++(gd y c).1)).2.2.2==0 then iu s u b (iu s u a q (gd y c).2 (out++(gd y c).1)).2.2.1 (iu s u a q (gd y c).2 (out++(gd y c).1)).1 (iu s u a q (gd y c).2 (out++(gd y c).1)).2.1 else iu s u a q (gd y c).2 (out++(gd y c).1):=λc q hU q0 q1 q2 q3=>by
   obtain⟨g1,c1,_⟩:=Mo kg sk hU
   have n:=ih (i:=q) (x:=(gd y c).2) (out:=out++(gd y c).1) g1 q0 q1
   refine⟨λh=>?_,n.2⟩
   have n1:=n.1 h
   exact⟨n1.g,by have:=n1.lo;omega,n1.hi,by have:=n1.c0;omega,by have:=n1.c1;omega,λho h=>n1.ah ho (q3 c1 ho h),n1.st.imp (λh=>by omega) id⟩
  have bad:∀c:Int,c≠0->((((mf,[],0,c):jz).2.2.2=0->YX P s i x (a+1) (mf,[],0,c))/\(((mf,[],0,c):jz).2.2.2≠0->((mf,[],0,c):jz).1=mf/\((mf,[],0,c):jz).2.1=[]/\((mf,[],0,c):jz).2.2.1=0)/\
   ∀b,((mf,[],0,c):jz)=bif((mf,[],0,c):jz).2.2.2==0 then iu s u b ((mf,[],0,c):jz).2.2.1 ((mf,[],0,c):jz).1 ((mf,[],0,c):jz).2.1 else(mf,[],0,c)):=λc h=>⟨λe=>absurd e h,λ_=>⟨rfl,rfl,rfl⟩,λb=>by
   rw[show(((mf,[],0,c):jz).2.2.2==0)=false by simpa using h];rfl⟩
  simp only[cond_false]
  cases hl:decide (j<(s.length:Int))
  ·simp only[cond_false]
   cases hr:(false==pf y)
   ·exact bad 1302 (by decide)
   ·simp only[cond_true];exact next 0 j ep (by omega) JK Ev λc ho h=>Zmo ho (PK h Ev kc) (by omega) (λq=>absurd q (oN hl)) c
  ·have AY:=oY hl
   simp only[cond_true]
   cases hr:(((ik s j).At==y.A4)==pf y)
   ·exact bad 1302 (by decide)
   ·simp only[cond_true]
    cases ha:((ik s j).At==y.A4)
    ·simp only[cond_false];exact next 0 j ep (by omega) JK Ev λc ho h=>Zmo ho (PK h Ev kc) (by omega) (λ_=>by simpa using ha) c
    ·simp only[cond_true];exact next _ (j+1) (CM hu (by omega) AY) (by omega) (by omega) (by omega) λc ho h=>xr ho (PK h Ev kc) (by omega) AY (by unfold uP at kf;rw[hl,ha]at kf;simpa using kf) c
theorem UC(s:List ej)(j:Nat){i:Int}(h:0<=i):ik s (j+i)=ik (s.drop j) i:=by
 unfold ik
 rw[cP,cP,fK,show(↑j+i:Int).toNat=j+i.toNat by omega]
theorem qO(s:List ej){j:Nat}(hj:j<=s.length){i:Int}(h:0<=i)(y:au):uP s (j+i) y=uP (s.drop j) i y:=by
 unfold uP
 rw[UC s j h,show decide ((j:Int)+i<(s.length:Int))=decide (i<((s.drop j).length:Int)) by rw[bF];exact decide_eq_decide.2 ⟨λ_=>by omega,λ_=>by omega⟩]
theorem Zmx(s:List ej){j:Nat}(hj:j<=s.length):∀(n:Nat) {i:Int} (h:0<=i) (y:au),lT s n (j+i) y=((j:Int)+(lT (s.drop j) n i y).1,(lT (s.drop j) n i y).2)
 |0,i,h,y=>rfl
 |n +1,i,h,y=>by
  rw[Mx,Mx,qO s hj h,UC s j h]
  cases uP (s.drop j) i y
  ·rfl
  ·have:=Zmx s hj n (i:=i+1) (by omega) (ly y (ik (s.drop j) i).D1).2
   rw[<-fL]at this
   exact this
theorem vZ(s:List ej):∀(n:Nat) (i:Int) (y:au),i<=(lT s n i y).1
 |0,i,y=>cW i
 |n +1,i,y=>by
  rw[Mx]
  cases uP s i y
  ·exact cW i
  ·have:=vZ s n (i+1) (ly y (ik s i).D1).2
   show i<=(lT s n (i+1) _).1
   omega
def CN(j:Nat)(r q:jz):Prop:=r.1=q.1/\r.2.2.2=q.2.2.2/\(r.2.2.2=0->r.2.2.1=j+q.2.2.1)
theorem Znv(s:List ej){j:Nat}(hj:j<=s.length)(u v:Int):∀(k:Nat) {i:Int} (x:au) (o1 o2:List dw),0<=i->CN j (iu s u k (j+i) x o1) (iu (s.drop j) v k i x o2)
 |0,i,x,o1,o2,h=>⟨rfl,rfl,λ_=>rfl⟩
 |k + 1,i,x,o1,o2,h=>by
  rw[FP,FP]
  cases decide (x.A4<1152921504606846976)
  ·exact⟨rfl,rfl,λ_=>rfl⟩
  have en:((s.length:Int)-(j+i)).toNat=(((s.drop j).length:Int)-i).toNat:=by rw[bF];omega
  rw[en,Zmx s hj _ h]
  have lo:=vZ (s.drop j) (((s.drop j).length:Int)-i).toNat i x
  generalize lT (s.drop j) (((s.drop j).length:Int)-i).toNat i x=E at lo⊢
  obtain⟨q,y⟩:=E
  have q0:0<=q:=by have:i<=q:=lo;omega
  simp only[cond_true]
  have ih:=λ(i:Int) (x:au) (o1 o2:List dw) (h:0<=i)=>Znv s hj u v k (i:=i) x o1 o2 h
  have one:∀x o1 o2,CN j (iu s u k (j+q+1) x o1) (iu (s.drop j) v k (q+1) x o2):=λx o1 o2=>by
   have:=ih (q+1) x o1 o2 (by omega)
   rw[<-fL]at this
   exact this
  unfold CI
  rw[UC s j q0,show decide ((j:Int)+q<(s.length:Int))=decide (q<((s.drop j).length:Int)) by rw[bF];exact decide_eq_decide.2 ⟨λ_=>by omega,λ_=>by omega⟩]
  have bad:∀c:Int,c≠0->CN j ((mf,[],0,c):jz) (mf,[],0,c):=λc hc=>⟨rfl,rfl,λe=>absurd e hc⟩
  cases y.B0
  rotate_left
  ·exact⟨rfl,rfl,λ_=>rfl⟩
  cases sZ y
  rotate_left
  ·cases decide (q<((s.drop j).length:Int))
   ·exact⟨rfl,rfl,λ_=>rfl⟩
   ·exact bad 1303 (by decide)
  cases decide (q<((s.drop j).length:Int))
  ·cases(false==pf y)
   ·exact bad 1302 (by decide)
   ·exact ih q _ _ _ q0
  ·simp only[cond_true,cond_false]
   cases((ik (s.drop j) q).At==y.A4)==pf y
   ·exact bad 1302 (by decide)
   ·cases(ik (s.drop j) q).At==y.A4
    ·exact ih q _ _ _ q0
    ·exact one _ _ _
theorem PL{m:au}{s:List ej}{u:Int}:lP m s u=0↔ ¬ra m=false/\¬u<m.A4/\¬4000<wrap .u64 (u-m.A4)/\¬400<s.length/\¬kv s=false/\¬(0<s.length/\(ik s 0).At<m.A4):=by
 unfold lP
 constructor
 ·intro h
  by_cases h1:ra m=false
  ·rw[if_pos h1]at h;cases h
  rw[if_neg h1]at h
  by_cases h2:u<m.A4
  ·rw[if_pos h2]at h;cases h
  rw[if_neg h2]at h
  by_cases h3:4000<wrap .u64 (u-m.A4)
  ·rw[if_pos h3]at h;cases h
  rw[if_neg h3]at h
  by_cases h4:400<s.length
  ·rw[if_pos h4]at h;cases h
  rw[if_neg h4]at h
  by_cases h5:kv s=false
  ·rw[if_pos h5]at h;cases h
  rw[if_neg h5]at h
  by_cases h6:0<s.length/\(ik s 0).At<m.A4
  ·rw[if_pos h6]at h;cases h
  exact⟨h1,h2,h3,h4,h5,h6⟩
 ·rintro⟨h1,h2,h3,h4,h5,h6⟩
  rw[if_neg h1,if_neg h2,if_neg h3,if_neg h4,if_neg h5,if_neg h6]
theorem xO{s:List ej}(h:kv s=true)(j:Nat):kv (s.drop j)=true:=by
 refine dY λi h1 h2=>?_
 rw[bF]at h1
 have:=Uz h (j+i) (by omega) (by omega)
 unfold CJ at this⊢
 rw[cP,cP,fK,fK,<-cP,<-cP,show j+(i-1)=j+i-1 by omega]
 exact this
theorem PM{m:au}{s:List ej}{u:Int}(h:lP m s u=0):bm m s u=iu s u (u-m.A4).toNat 0 m []:=by unfold bm;rw[if_pos h]
theorem Zo{m:au}{s:List ej}{u:Int}(h:lP m s u≠0):bm m s u=(mf,[],0,lP m s u):=by unfold bm;rw[if_neg h]
theorem Zmr{m:au}{s:List ej}{u:Int}(h:(bm m s u).2.2.2=0):lP m s u=0:=by
 by_cases e:lP m s u=0
 ·exact e
 ·rw[Zo e]at h;exact h
structure runK(P:Nat)(m:au)(s:List ej)(u:Int)(r:jz):Prop where
 g:ez P r.1
 lo:0<=r.2.2.1
 hi:r.2.2.1<=s.length
 c0:m.A4<=r.1.A4
 c1:r.1.A4<=u
theorem UD{P:Nat}{m:au}(g:ez P m){s:List ej}(hu:∀e∈s,U e.D1.N){u:Int}(h:(bm m s u).2.2.2=0):runK P m s u (bm m s u):=by
 have hc:=Zmr h
 rw[PM hc]at h⊢
 have k:=(YY (P:=P) hu u (u-m.A4).toNat g (cW 0) (by omega)).1 h
 have:=(PL.1 hc).2.1
 exact⟨k.g,k.lo,k.hi,k.c0,by have:=k.c1;omega⟩
theorem zO{P:Nat}{m:au}(g:ez P m){s:List ej}(hu:∀e∈s,U e.D1.N){u v:Int}(h:(bm m s u).2.2.2=0)(huv:u<=v)(hv:v<=m.A4+4000):
 lP m s v=0/\lP (bm m s u).1 (s.drop (bm m s u).2.2.1.toNat) v=0/\CN (bm m s u).2.2.1.toNat (bm m s v) (bm (bm m s u).1 (s.drop (bm m s u).2.2.1.toNat) v):=by
 have hc:=Zmr h
 obtain⟨c1,c2,c3,c4,c5,c6⟩:=PL.1 hc
 have c0:=g.ok.lS
 have hcv:lP m s v=0:=PL.2 ⟨c1,by omega,by rw[wrap_u64];omega,c4,c5,c6⟩
 have ho:kv s=true:=by simpa using c5
 rw[PM hcv]
 rw[PM hc]at h⊢
 obtain⟨A1,A2,A3⟩:=YY (P:=P) hu u (u-m.A4).toNat (out:=[]) g (cW 0) (by omega)
 have k:=A1 h
 have A3:=A3 (v-u).toNat
 rw[h]at A3
 have A3:iu s u ((u-m.A4).toNat+(v-u).toNat) 0 m []=_:=A3
 rw[show(u-m.A4).toNat+(v-u).toNat=(v-m.A4).toNat by omega,CK s u v]at A3
 simp only[show((0:Int)==0)=true from rfl,cond_true]at A3
 rw[A3]
 generalize iu s u (u-m.A4).toNat 0 m []=r at k h⊢
 obtain⟨x,o,i,e⟩:=r
 have k1:ez P x:=k.g
 have k2:0<=i:=k.lo
 have k3:i<=s.length:=k.hi
 have k4:m.A4<=x.A4:=k.c0
 have k5:x.A4<=m.A4+(u-m.A4).toNat:=k.c1
 have k6:CL s i x:=k.ah ho λj h1 h2=>by
  have a:¬(ik s 0).At<m.A4:=λq=>c6 ⟨by omega,q⟩
  have b:=qr ho 0 j (by omega) h2
  have b:(ik s 0).At<=(ik s j).At:=b
  omega
 have k7:x.A4=m.A4+(u-m.A4).toNat\/∀(u:Int) (b:Nat) (o:List dw),iu s u b i x o=(x,o,i,0):=k.st
 show lP m s v=0/\lP x (s.drop i.toNat) v=0/\CN i.toNat (iu s u (v-u).toNat i x o) (bm x (s.drop i.toNat) v)
 have hx:lP x (s.drop i.toNat) v=0:=by
  refine PL.2 ⟨by rw[k1.AU];decide,by omega,by rw[wrap_u64];omega,by rw[bF];omega,by rw[xO ho];decide,fun⟨p,q⟩=>?_⟩
  rw[bF]at p
  have:=UC s i.toNat (cW 0)
  rw[<-this]at q
  have a:=k6 i.toNat (by omega) (by omega)
  rw[fM]at q
  omega
 refine⟨hcv,hx,?_⟩
 rw[PM hx]
 have D:=λ(n:Nat) (o1:List dw)=>Znv s (j:=i.toNat) (by omega) v v n (i:=0) x o1 [] (cW 0)
 rw[fM,eH k2]at D
 rcases k7 with k7|k7
 ·rw[CK s u v,show(v-u).toNat=(v-x.A4).toNat by omega]
  exact D _ _
 ·have d1:=D (v-x.A4).toNat o
  rw[k7]at d1⊢
  exact d1
def jO(m:au):Int:=Py 14695981039346656037 (s7 m)
def jS:au->List ej->List Int->List fv×Int
 |_,_,[]=>([],0)
 |m,s,u::l=>
  bif (bm m s u).2.2.2==0 then
   (bif(jS (bm m s u).1 (s.drop (bm m s u).2.2.1.toNat) l).2==0 then
    ({At:=u,D3:=jO (bm m s u).1}::(jS (bm m s u).1 (s.drop (bm m s u).2.2.1.toNat) l).1,0)
   else([],(jS (bm m s u).1 (s.drop (bm m s u).2.2.1.toNat) l).2))
  else([],(bm m s u).2.2.2)
def ja:au->List ej->Int->Int->List fv->jR
 |_,_,_,_,[]=>{Good:=true,F0:=0,At:=0}
 |m,s,i,last,c::l=>
  bif((bm m s c.At).2.2.2==0)&&(jO (bm m s c.At).1==c.D3)then ja (bm m s c.At).1 (s.drop (bm m s c.At).2.2.1.toNat) (i+1) c.At l
  else{Good:=false,F0:=i,At:=last}
theorem My{m:au}{s:List ej}{u:Int}{l:List Int}{L:List fv}(h:jS m s (u::l)=(L,0)):
 (bm m s u).2.2.2=0/\∃K,L={At:=u,D3:=jO (bm m s u).1}::K/\jS (bm m s u).1 (s.drop (bm m s u).2.2.1.toNat) l=(K,0):=by
 unfold jS at h
 cases h1:(bm m s u).2.2.2==0
 ·rw[h1]at h
  have:(bm m s u).2.2.2=0:=(Prod.mk.inj h).2
  rw[this]at h1;cases h1
 ·rw[h1]at h
  have h1:=eq_of_beq h1
  refine⟨h1,?_⟩
  generalize jS (bm m s u).1 (s.drop (bm m s u).2.2.1.toNat) l=q at h⊢
  obtain⟨K,e⟩:=q
  cases h2:e==0
  ·have h:(bif e==0 then(({At:=u,D3:=jO (bm m s u).1}::K:List fv),(0:Int))else([],e))=(L,0):=h
   rw[h2]at h
   have:e=0:=(Prod.mk.inj h).2
   rw[this]at h2;cases h2
  ·have h:(bif e==0 then(({At:=u,D3:=jO (bm m s u).1}::K:List fv),(0:Int))else([],e))=(L,0):=h
   rw[h2]at h
   exact⟨K,(Prod.mk.inj h).1.symm,by rw[eq_of_beq h2]⟩
theorem YZ:∀{l:List Int} {m:au} {s:List ej} {L:List fv},jS m s l=(L,0)->L.map (·.At)=l
 |[],m,s,L,h=>by rw[show L=[] from(Prod.mk.inj h).1.symm];rfl
 |u::l,m,s,L,h=>by
  obtain⟨_,K,e,h2⟩:=My h
  rw[e,List.map_cons,YZ h2]
theorem wZ:∀{l:List Int} {m:au} {s:List ej} {L:List fv},jS m s l=(L,0)->∀i last,ja m s i last L={Good:=true,F0:=0,At:=0}
 |[],m,s,L,h,i,last=>by rw[show L=[] from(Prod.mk.inj h).1.symm];rfl
 |u::l,m,s,L,h,i,last=>by
  obtain⟨h1,K,e,h2⟩:=My h
  rw[e]
  unfold ja
  rw[show((bm m s ({At:=u,D3:=jO (bm m s u).1}:fv).At).2.2.2==0)=true by show((bm m s u).2.2.2==0)=true;rw[h1];rfl,show(jO (bm m s ({At:=u,D3:=jO (bm m s u).1}:fv).At).1==({At:=u,D3:=jO (bm m s u).1}:fv).D3)=true from beq_self_eq_true _]
  exact wZ h2 _ _
theorem HA:∀(k:Nat) {l:List Int} {m:au} {s:List ej} {L:List fv},jS m s l=(L,0)->k<L.length->∀(i last h:Int),h≠(L.getD k default).D3->
 ja m s i last (L.set k {At:=(L.getD k default).At,D3:=h})={Good:=false,F0:=i+k,At:=if k=0 then last else(L.getD (k-1) default).At}
 |k,[],m,s,L,h,hk,i,last,x,hx=>by rw[show L=[] from(Prod.mk.inj h).1.symm]at hk;exact absurd hk (Nat.not_lt_zero _)
 |0,u::l,m,s,L,h,hk,i,last,x,hx=>by
  obtain⟨h1,K,e,h2⟩:=My h
  rw[e]at hx⊢
  have hx:x≠jO (bm m s u).1:=hx
  show ja m s i last ({At:=u,D3:=x}::K)=_
  unfold ja
  rw[show(jO (bm m s ({At:=u,D3:=x}:fv).At).1==({At:=u,D3:=x}:fv).D3)=false by show(jO (bm m s u).1==x)=false;simpa using λe=>hx e.symm,fN]
  show _=({Good:=false,F0:=i+((0:Nat):Int),At:=last}:jR)
  rw[show i+((0:Nat):Int)=i by omega];rfl
 |k+1,u::l,m,s,L,h,hk,i,last,x,hx=>by
  obtain⟨h1,K,e,h2⟩:=My h
  rw[e]at hx hk⊢
  have hx:x≠(K.getD k default).D3:=hx
  have ih:=HA k h2 (by simpa using hk) (i+1) u x hx
  show ja m s i last ({At:=u,D3:=jO (bm m s u).1}::K.set k {At:=(K.getD k default).At,D3:=x})=_
  unfold ja
  rw[show((bm m s ({At:=u,D3:=jO (bm m s u).1}:fv).At).2.2.2==0)=true by show((bm m s u).2.2.2==0)=true;rw[h1];rfl,show(jO (bm m s ({At:=u,D3:=jO (bm m s u).1}:fv).At).1==({At:=u,D3:=jO (bm m s u).1}:fv).D3)=true from beq_self_eq_true _]
  refine Eq.trans ih ?_
  rw[if_neg (Nat.succ_ne_zero k),show i+1+(k:Int)=i+((k+1:Nat):Int) by omega]
  congr 1
  cases k with
  |zero=>rfl
  |succ k=>rfl
def nq:Int->List Int->Prop
 |_,[]=>True
 |a,x::l=>a<=x/\nq x l
theorem UE{s:List ej}(hu:∀e∈s,U e.D1.N)(n:Nat):∀e∈s.drop n,U e.D1.N:=λe he=>hu e (List.mem_of_mem_drop he)
def UF(m:au)(s:List ej)(n:au)(t:List ej)(b B:Int):Prop:=∀v,b<=v->v<=B->(bm m s v).1=(bm n t v).1/\(bm m s v).2.2.2=(bm n t v).2.2.2/\((bm m s v).2.2.2=0->s.drop (bm m s v).2.2.1.toNat=t.drop (bm n t v).2.2.1.toNat)
def jP(k:Nat)(bf:List Bool):Nat->List fv->List fv
 |_,[]=>[]
 |j,c::l=>bif bf.getD j false then(bif j==k then{At:=c.At,D3:=wrap .u64 (c.D3+1)}else c)::jP k bf (j+1) l else jP k bf (j+1) l
theorem yO{P:Nat}{m n:au}{s t:List ej}{b B u:Int}(g:ez P n)(hu:∀e∈t,U e.D1.N)(h:UF m s n t b B)(hb:b<=u)(hB:B<=n.A4+4000)(he:(bm n t u).2.2.2=0):UF m s (bm n t u).1 (t.drop (bm n t u).2.2.1.toNat) u B:=λv h1 h2=>by
 obtain⟨a1,a2,a3⟩:=h v (by omega) h2
 obtain⟨_,_,c1,c2,c3⟩:=zO g hu he h1 (by omega)
 refine⟨a1.trans c1,a2.trans c2,λe=>?_⟩
 rw[a3 e,c3 (a2▸e),List.drop_drop]
 have kp:=UD g hu he
 have hx:=UD kp.g (UE hu (bm n t u).2.2.1.toNat) (u:=v) (c2▸a2▸e)
 have:=hx.lo;have:=kp.lo
 congr 1;omega
theorem Zoa(m:au)(s:List ej)(b B:Int):UF m s m s b B:=λv _ _=>⟨rfl,rfl,λ_=>rfl⟩
theorem CO(k:Nat)(bf:List Bool){B:Int}:∀{l:List Int} {P:Nat} {m n:au} {s t:List ej} {L:List fv} {a:Int} {j:Nat},ez P n->(∀e∈t,U e.D1.N)->UF m s n t a B->nq a l->(∀x∈l,x<=B)->B<=n.A4+4000->jS n t l=(L,0)->(∀c∈L,0<=c.D3/\c.D3<18446744073709551616)->
 ∀i last,(ja m s i last (jP k bf j L)).Good=!(decide (j<=k/\k<j+L.length)&&bf.getD k false)
 |[],P,m,n,s,t,L,a,j,g,hu,lg,ha,hB,hn,h,hr,i,last=>by
  rw[show L=[] from(Prod.mk.inj h).1.symm,dN (by show¬(j<=k/\k<j+0);omega)];rfl
 |u :: l,P,m,n,s,t,L,a,j,g,hu,lg,ha,hB,hn,h,hr,i,last=>by
  obtain⟨h1,K,e,h2⟩:=My h
  have kp:=UD g hu h1
  have ru:=hB u (by simp)
  obtain⟨a1,a2,a3⟩:=lg u ha.1 ru
  have lg2:=yO g hu lg ha.1 hn h1
  have hn2:B<=(bm n t u).1.A4+4000:=by have:=kp.c0;omega
  have JL:∀c∈K,0<=c.D3/\c.D3<18446744073709551616:=λc hc=>hr c (by rw[e];simp[hc])
  have hB2:∀x∈l,x<=B:=λx hx=>hB x (by simp[hx])
  have sC:=hr {At:=u,D3:=jO (bm n t u).1} (by rw[e];simp)
  have sC:0<=jO (bm n t u).1/\jO (bm n t u).1<18446744073709551616:=sC
  rw[e]
  unfold jP
  cases hkp:bf.getD j false
  ·rw[cond_false]
   rw[CO k bf kp.g (UE hu _) lg2 ha.2 hB2 hn2 h2 JL i last]
   by_cases UG:j=k
   ·subst UG;rw[hkp,fN,fN]
   ·rw[show decide (j+1<=k/\k<j+1+K.length)=decide (j<=k/\k<j+({At:=u,D3:=jO (bm n t u).1}::K:List fv).length) from decide_eq_decide.2 (by rw[dI];omega)]
  ·rw [cond_true]
   cases hjk:j==k
   ·rw[cond_false]
    have UG:j≠k:=by simpa using hjk
    unfold ja
    rw[show((bm m s ({At:=u,D3:=jO (bm n t u).1}:fv).At).2.2.2==0)=true by show((bm m s u).2.2.2==0)=true;rw[a2,h1];rfl,show(jO (bm m s ({At:=u,D3:=jO (bm n t u).1}:fv).At).1==({At:=u,D3:=jO (bm n t u).1}:fv).D3)=true by show(jO (bm m s u).1==jO (bm n t u).1)=true;rw[a1];exact beq_self_eq_true _]
    show(ja (bm m s u).1 (s.drop (bm m s u).2.2.1.toNat) (i+1) u (jP k bf (j+1) K)).Good=_
    rw[a1,a3 (a2.trans h1),CO k bf kp.g (UE hu _) (Zoa _ _ u B) ha.2 hB2 hn2 h2 JL (i+1) u]
    rw[show decide (j+1<=k/\k<j+1+K.length)=decide (j<=k/\k<j+({At:=u,D3:=jO (bm n t u).1}::K:List fv).length) from decide_eq_decide.2 (by rw[dI];omega)]
   ·rw[cond_true]
    have UG:j=k:=by simpa using hjk
    subst UG
    unfold ja
    rw[show(jO (bm m s ({At:=u,D3:=wrap .u64 (jO (bm n t u).1+1)}:fv).At).1==({At:=u,D3:=wrap .u64 (jO (bm n t u).1+1)}:fv).D3)=false by
     show(jO (bm m s u).1==wrap .u64 (jO (bm n t u).1+1))=false
     rw[a1,wrap_u64]
     generalize jO (bm n t u).1=x at sC⊢
     simp only[beq_eq_false_iff_ne,ne_eq]
     omega,fN,hkp,dY (by rw[dI];omega:j<=j/\j<j+({At:=u,D3:=jO (bm n t u).1}::K:List fv).length)]
    rfl
theorem UH:kI mf:=⟨ep,ep⟩
theorem v6(s:List ej):∀(n:Nat) (i:Int) (x:au),kI x->kI (lT s n i x).2
 |0,i,x,h=>h
 |n+1,i,x,h=>by
  rw[Mx]
  cases uP s i x
  ·exact h
  ·exact v6 s n _ _ (zaN h _)
theorem y7{P:Nat}{s:List ej}(hu:∀e∈s,U e.D1.N)(u:Int):∀(k:Nat) {i:Int} {x:au} (out:List dw),ez P x->kI x->0<=i->i<=s.length->kI (iu s u k i x out).1
 |0,i,x,out,g,d,h0,h1=>d
 |k + 1,i,x,out,g,d,h0,h1=>by
  rw[FP]
  cases hc:decide (x.A4<1152921504606846976)
  ·exact d
  have hcx:=oY hc
  have ke:=YW (P:=P) hu (s.length-i).toNat g h0 h1 (aO _)
  have de:=v6 s (s.length-i).toNat i x d
  generalize lT s (s.length-i).toNat i x=E at ke de⊢
  obtain⟨j,y⟩:=E
  have Ev:i<=j:=ke.lo
  have JK:j<=s.length:=ke.hi
  have kg:ez P y:=ke.g
  have kc:y.A4=x.A4:=ke.c
  have dy:kI y:=de
  rw[cond_true]
  unfold CI
  cases hh:y.B0
  rotate_left
  ·exact dy
  cases hi:sZ y
  rotate_left
  ·cases decide (j<(s.length:Int))
   ·exact dy
   ·exact UH
  have sk:nm y=false:=(Mn kg).2 ⟨hh,hi,by omega⟩
  have next:∀(c:Int) (p:Int),U c->0<=p->p<=s.length->kI (iu s u k p (gd y c).2 (out++(gd y c).1)).1:=λc p hU p0 p1=>
   y7 hu u k _ (Mo kg sk hU).1 (xZ kg dy c) p0 p1
  rw[cond_false,cond_false]
  cases hl:decide (j<(s.length:Int))
  ·rw[cond_false]
   cases(false==pf y)
   ·exact UH
   ·exact next 0 j ep (by omega) JK
  ·have AY:=oY hl
   rw[cond_true]
   cases((ik s j).At==y.A4)==pf y
   ·exact UH
   ·cases(ik s j).At==y.A4
    ·exact next 0 j ep (by omega) JK
    ·exact next _ (j+1) (CM hu (by omega) AY) (by omega) (by omega)
theorem xaO{P:Nat}{m:au}(g:ez P m)(d:kI m){s:List ej}(hu:∀e∈s,U e.D1.N)(u:Int):kI (bm m s u).1:=by
 unfold bm
 split
 ·exact y7 hu u _ _ g d (cW 0) (by omega)
 ·exact UH
theorem vr(m:au):jO m=Py 14695981039346656037 (s7 m):=rfl
theorem HB{P:Nat}{m:au}(g:ez P m)(d:kI m):Ux m/\Uy m=jO m:=by
 obtain⟨a,b⟩:=qau g.v (Zm6 g d) (by have:=g.len;omega)
 exact⟨a,b.trans (qq _ _)⟩
theorem Zqm(s:List UInt8)(hl:s.length<=1000000):0<=Py 14695981039346656037 s/\Py 14695981039346656037 s<18446744073709551616:=by
 have h:(Y0 14695981039346656037 s).w (λr=>0<=r/\r<18446744073709551616):=by
  unfold Y0
  refine fy (inv:=λv:Int×Int=>(0<=v.2/\v.2<=s.length)/\0<=v.1/\v.1<18446744073709551616) (μ:=Qoa 14695981039346656037 s) ⟨⟨cW 0,by show(0:Int)<=_;omega⟩,by decide,by decide⟩ (cO _) λv ⟨⟨a,b⟩,c⟩=>?_
  refine aa (λhb=>?_) λ_=>fe c
  have hb:=oY hb
  have ew:i64.wrap (v.2+1)=v.2+1:=by rw[wrap_i64];omega
  refine ay (dY ⟨a,hb⟩) (ff ?_)
  show((0<=i64.wrap (v.2+1)/\i64.wrap (v.2+1)<=s.length)/\0<=wrap .u64 _/\wrap .u64 _<18446744073709551616)/\(s.length-i64.wrap (v.2+1)).toNat<(s.length-v.2).toNat
  rw[ew]
  exact⟨⟨⟨by omega,by omega⟩,YT _⟩,by omega⟩
 exact Tree.post _ h
theorem Zj{P:Nat}{m:au}(g:ez P m)(d:kI m):0<=jO m/\jO m<18446744073709551616:=by
 have e:=Zm6 g d
 have:=Tree.post _ (Zn g.v e.r (by have:=g.len;omega) e.k e.o)
 rw[vr]
 refine Zqm _ ?_
 have h1:Y1 m=s7 m:=this.1
 rw[<-h1]
 have:=this.2
 change(Y1 m).length<=_ at this
 omega
attribute [local irreducible] jO
theorem UI{α:Type}{l:List α}{i:Int}(h0:0<=i)(h:i<l.length)(d:α):l.drop i.toNat=l.getD i.toNat d::l.drop (i+1).toNat:=by
 have cj:i.toNat<l.length:=by omega
 rw[show(i+1).toNat=i.toNat+1 by omega,cP,cG cj]
 exact aB cj
def lQ:Int->List Int->Bool
 |_,[]=>true
 |a,x::l=>bif decide (x<a)then false else bif decide (wrap .u64 (x-a)>4000)then false else lQ x l
def jW(m:au)(s:List ej)(l:List Int):Int:=bif lQ m.A4 l then lP m s m.A4 else 4300
theorem Y2(m:au)(s:List ej):(bm m s m.A4).2.2.2=lP m s m.A4:=by
 by_cases h:lP m s m.A4=0
 ·rw[PM h,h,show(m.A4-m.A4).toNat=0 by omega];rfl
 ·rw[Zo h]
theorem vO{l:List Int}{i:Int}(h0:0<=i)(h:i<l.length)(a:Int):lQ a (l.drop i.toNat)=bif decide (l.getD i.toNat 0<a)then false else bif decide (wrap .u64 (l.getD i.toNat 0-a)>4000)then false else lQ (l.getD i.toNat 0) (l.drop (i+1).toNat):=by
 rw[UI h0 h 0];rfl
theorem qav{l:List Int}{i:Int}(h:¬i<l.length)(a:Int):lQ a (l.drop i.toNat)=true:=by
 rw[aA (by omega)];rfl
section
variable {m:au} (hv:sY m) (hc:m.A4<18446744073709551616) {s:List ej} (hs:s.length<=1000000) (hu:∀e∈s,U e.D1.N)
include hv hc hs hu
theorem Zn4{l:List Int}(hl:l.length<=400):(PN m s l).w (λe=>e=jW m s l):=by
 unfold PN
 refine aa (λh=>by have:=oY h;omega) λ_=>?_
 refine fy (inv:=λv:Int×Int=>0<=v.2/\v.2<=l.length/\lQ m.A4 l=lQ v.1 (l.drop v.2.toNat)) (μ:=Qko m s l) ⟨cW 0,by show(0:Int)<=_;omega,rfl⟩ (cO _) λv ⟨a,b,c⟩=>?_
 obtain⟨last,i⟩:=v
 have a:0<=i:=a
 have b:i<=l.length:=b
 have c:lQ m.A4 l=lQ last (l.drop i.toNat):=c
 refine aa (λhb=>?_) λhb=>?_
 ·have hb:i<l.length:=oY hb
  have ew:i64.wrap (i+1)=i+1:=by rw[wrap_i64];omega
  rw[vO a hb]at c
  refine ay (by simp[bJ];omega) (aa (λh1=>fe ?_) λh1=>aa (λh2=>fe ?_) λh2=>ff ?_)
  ·show(4300:Int)=jW m s l
   have h1:decide (l.getD i.toNat 0<last)=true:=h1
   rw[h1]at c
   unfold jW;rw[c];rfl
  ·show(4300:Int)=jW m s l
   have h1:decide (l.getD i.toNat 0<last)=false:=h1
   have h2:decide (wrap .u64 (l.getD i.toNat 0-last)>4000)=true:=h2
   rw[h1,h2]at c
   unfold jW;rw[c];rfl
  ·have h1:decide (l.getD i.toNat 0<last)=false:=h1
   have h2:decide (wrap .u64 (l.getD i.toNat 0-last)>4000)=false:=h2
   rw[h1,h2]at c
   show(0<=i64.wrap (i+1)/\i64.wrap (i+1)<=l.length/\lQ m.A4 l=lQ (l.getD i.toNat 0) (l.drop (i64.wrap (i+1)).toNat))/\(l.length-i64.wrap (i+1)).toNat<(l.length-i).toNat
   rw[ew]
   exact⟨⟨by omega,by omega,c⟩,by omega⟩
 ·have hb:¬i<l.length:=oN hb
  rw[qav hb]at c
  refine bo (vq hv hs hu hv.lS hc) λx0 ⟨e0,_⟩=>fe ?_
  show x0.2.2.2=jW m s l
  unfold jW;rw[c,e0,Y2];rfl
end
def comb(vl:List fv)(q:List fv×Int):List fv×Int:=bif q.2==0 then(vl++q.1,0)else([],q.2)
theorem Y3(m:au)(s:List ej)(u:Int)(l:List Int):jS m s (u::l)=bif(bm m s u).2.2.2==0 then comb [{At:=u,D3:=jO (bm m s u).1}] (jS (bm m s u).1 (s.drop (bm m s u).2.2.1.toNat) l)else([],(bm m s u).2.2.2):=rfl
theorem qt(a b:List fv)(q:List fv×Int):comb a (comb b q)=comb (a++b) q:=by
 unfold comb
 cases h:q.2==0
 ·show(bif q.2==0 then _ else _)=_
  rw[h];rfl
 ·show((a++(b++q.1),(0:Int)):List fv×Int)=(a++b++q.1,0)
  rw[fF]
theorem Zhh{sc:List ej}{i:Int}(h0:0<=i)(h1:i<=sc.length):dB (((sc.length:Nat):Int).toNat-i.toNat) (dC i.toNat sc)=sc.drop i.toNat:=by
 rw[eD]
 exact fO (by rw[bF];omega)
theorem xt{i hash err:Int}{kZ:List fv}{lz:List Int}{tV:Int}(h0:0<=i)(h1:i<lz.length)(h2:kZ.length<=1000000):(PO i hash err kZ lz tV).w (λr=>r=(true,kZ++[{At:=lz.getD i.toNat 0,D3:=hash}],lz,err)):=by
 unfold PO
 exact ay (dY ⟨h0,h1⟩) (ay (dY (by omega)) (fe rfl))
structure AZ(P:Nat)(x:au)(sc:List ej):Prop where
 g:ez P x
 d:kI x
 hs:sc.length<=1000000
 hu:∀e∈sc,U e.D1.N
theorem AZ.next{P:Nat}{x:au}{sc:List ej}(h:AZ P x sc){u:Int}(he:(bm x sc u).2.2.2=0):AZ P (bm x sc u).1 (sc.drop (bm x sc u).2.2.1.toNat)/\0<=(bm x sc u).2.2.1/\(bm x sc u).2.2.1<=sc.length:=by
 have k:=UD h.g h.hu he
 exact⟨⟨k.g,xaO h.g h.d h.hu u,by rw[bF];have:=h.hs;omega,UE h.hu _⟩,k.lo,k.hi⟩
theorem yt{P:Nat}{m:au}{s:List ej}(st:AZ P m s){l:List Int}(hl:l.length<=400)(hr:∀x∈l,0<=x/\x<18446744073709551616):
 (PQ m s l [] l 0).w (λr=>(bif r.2.2==0 then(r.1,0)else([],r.2.2))=jS m s l):=by
 unfold PQ
 refine fy (inv:=λv:List ej×Int×List Int×Int×List fv×au=>0<=v.2.1/\v.2.1<=l.length/\v.2.2.1=l/\v.2.2.2.1=0/\AZ P v.2.2.2.2.2 v.1/\(v.2.2.2.2.1.length:Int)=v.2.1/\comb v.2.2.2.2.1 (jS v.2.2.2.2.2 v.1 (l.drop v.2.1.toNat))=jS m s l) (μ:=Qg1 m s l [] l 0)
  ⟨cW 0,by show(0:Int)<=_;omega,rfl,rfl,st,rfl,?_⟩ (cO _) λv ⟨a1,a2,a3,a4,a5,a6,a7⟩=>?_
 ·show comb [] (jS m s l)=_
  unfold comb
  cases h:(jS m s l).2==0
  ·have:∀q:List fv×Int,jS m s l=q->(q.2==0)=false->q.1=[]:=λq hq hz=>by
    cases l with
    |nil=>rw[<-hq]at hz;cases hz
    |cons u l=>
     rw[Y3]at hq
     cases h1:(bm m s u).2.2.2==0
     ·rw[h1]at hq;rw[<-hq];rfl
     ·rw[h1]at hq
      rw[<-hq]at hz⊢
      have hz:((comb [{At:=u,D3:=jO (bm m s u).1}] (jS (bm m s u).1 (s.drop (bm m s u).2.2.1.toNat) l)).2==0)=false:=hz
      show(comb [{At:=u,D3:=jO (bm m s u).1}] (jS (bm m s u).1 (s.drop (bm m s u).2.2.1.toNat) l)).1=[]
      unfold comb at hz⊢
      generalize jS (bm m s u).1 (s.drop (bm m s u).2.2.1.toNat) l=w at hz⊢
      cases h2:w.2==0
      ·rfl
      ·rw[h2]at hz;cases hz
   have h3:=this _ rfl h
   generalize jS m s l=q at h h3⊢
   obtain⟨q1,q2⟩:=q
   have h3:q1=[]:=h3
   rw[h3];rfl
  ·generalize jS m s l=q at h⊢
   obtain⟨q1,q2⟩:=q
   have h:(q2==0)=true:=h
   rw[show q2=0 from eq_of_beq h];rfl
 obtain⟨sc,i,va,vf,vl,x⟩:=v
 have a1:0<=i:=a1
 have a2:i<=l.length:=a2
 have a3:va=l:=a3
 have a4:vf=0:=a4
 subst a3;subst a4
 have a5:AZ P x sc:=a5
 have a6:(vl.length:Int)=i:=a6
 have a7:comb vl (jS x sc (va.drop i.toNat))=jS m s va:=a7
 refine aa (λhb=>?_) λhb=>fe ?_
 ·have hb:i<va.length:=oY hb
  have ew:i64.wrap (i+1)=i+1:=by rw[wrap_i64];omega
  have ru:=hr (va.getD i.toNat 0) (by rw[cP,cG (show i.toNat<va.length by omega)];exact fI _)
  rw[UI a1 hb 0,Y3]at a7
  refine ay (by simp[bJ];omega) (bo (vq a5.g.v a5.hs a5.hu ru.1 ru.2) λx0 ⟨e0,_,_⟩=>?_)
  have e0:x0=bm x sc (va.getD i.toNat 0):=e0
  refine aa (λhe=>bo (xt a1 hb (by omega)) λx1 e1=>fe ?_) λhe=>?_
  ·have he:(x0.2.2.2==0)=false:=by simpa using he
   rw[e1]
   show(bif x0.2.2.2==0 then((_,0):List fv×Int)else([],x0.2.2.2))=jS m s va
   rw[he,<-a7]
   rw[e0]at he⊢
   rw[he]
   show(([],_):List fv×Int)=comb vl ([],_)
   unfold comb
   show _=bif(bm x sc (va.getD i.toNat 0)).2.2.2==0 then _ else _
   rw[he];rfl
  ·have he:x0.2.2.2=0:=by simpa using he
   have JM:(bm x sc (va.getD i.toNat 0)).2.2.2=0:=by rw[<-e0];exact he
   obtain⟨sn,n1,n2⟩:=a5.next JM
   have pJ:((bm x sc (va.getD i.toNat 0)).2.2.2==0)=true:=by rw[JM];rfl
   rw[pJ]at a7
   have a7:comb vl (comb [{At:=va.getD i.toNat 0,D3:=jO (bm x sc (va.getD i.toNat 0)).1}] (jS (bm x sc (va.getD i.toNat 0)).1 (sc.drop (bm x sc (va.getD i.toNat 0)).2.2.1.toNat) (va.drop (i+1).toNat)))=jS m s va:=a7
   rw[qt]at a7
   rw[<-e0]at sn n1 n2 a7
   obtain⟨hp,hh⟩:=HB sn.g sn.d
   refine ay (by simp[bJ];omega) (cz hp (ar λx2 e2=>bo (xt a1 hb (by omega)) λx3 e3=>?_))
   rw[e3]
   refine aa (λh=>by cases h) λ_=>ff ?_
   show(0<=i64.wrap (i+1)/\i64.wrap (i+1)<=va.length/\va=va/\(0:Int)=0/\AZ P x0.1 (dB (((sc.length:Nat):Int).toNat-x0.2.2.1.toNat) (dC x0.2.2.1.toNat sc))/\((vl++[({At:=va.getD i.toNat 0,D3:=x2}:fv)]).length:Int)=i64.wrap (i+1)/\comb (vl++[({At:=va.getD i.toNat 0,D3:=x2}:fv)]) (jS x0.1 (dB (((sc.length:Nat):Int).toNat-x0.2.2.1.toNat) (dC x0.2.2.1.toNat sc)) (va.drop (i64.wrap (i+1)).toNat))=jS m s va)/\(va.length-i64.wrap (i+1)).toNat<(va.length-i).toNat
   rw[ew,Zhh n1 n2,e2,hh,lA,cZ]
   exact⟨⟨by omega,by omega,rfl,rfl,sn,by omega,a7⟩,by omega⟩
 ·have hb:¬i<va.length:=oN hb
  rw[aA (by omega)]at a7
  show(bif(0:Int)==0 then(vl,(0:Int))else([],0))=_
  rw[<-a7]
  show(vl,(0:Int))=(vl++[],0)
  rw[cJ]
def CP(m:au)(s:List ej)(l:List Int):List fv×Int:=bif jW m s l==0 then jS m s l else([],jW m s l)
theorem Y4{m:au}{s:List ej}{l:List Int}(h:jW m s l=0):lQ m.A4 l=true/\lP m s m.A4=0:=by
 unfold jW at h
 cases hp:lQ m.A4 l
 ·rw[hp]at h;exact absurd (show(4300:Int)=0 from h) (by decide)
 ·rw[hp]at h;exact⟨rfl,h⟩
theorem Znn{m:au}(hv:sY m){s:List ej}{u:Int}(h:lP m s u=0):∃P,ez P m:=by
 have mm:nj m=true:=by rw[L6 hv];simpa using(PL.1 h).1
 obtain⟨P,gS,gM⟩:=wV hv mm
 exact⟨P,gM,mm⟩
theorem vt{m:au}(hv:sY m)(hc:m.A4<18446744073709551616)(d:kI m){s:List ej}(hs:s.length<=1000000)(hu:∀e∈s,U e.D1.N){l:List Int}(hl:l.length<=400)(hr:∀x∈l,0<=x/\x<18446744073709551616):(PR m s l).w (λr=>r=CP m s l):=by
 unfold PR
 refine bo (Zn4 hv hc hs hu hl) λx0 e0=>?_
 refine aa (λh=>fe ?_) λh=>?_
 ·have h:(x0==0)=false:=by simpa using h
  unfold CP;rw[<-e0,h];rfl
 ·have h:x0=0:=by simpa using h
  have h0:jW m s l=0:=e0.symm.trans h
  obtain⟨P,g⟩:=Znn hv (Y4 h0).2
  refine bo (yt ⟨g,d,hs,hu⟩ hl hr) λx1 e1=>?_
  have em:CP m s l=jS m s l:=by unfold CP;rw[h0];rfl
  rw[em,<-e1]
  refine aa (λh=>fe ?_) λh=>fe ?_
  ·have h:(x1.2.2==0)=false:=by simpa using h
   rw[h];rfl
  ·have h:(x1.2.2==0)=true:=by simpa using h
   rw[h];rfl
abbrev jX(l:List fv)(i:Int):fv:=l.getD i.toNat (RK.cu RK.ae)
def nT(i last:Int):jR:={Good:=false,F0:=i,At:=last}
def Bz(m:au)(va:List Int)(i:Int):Int:=if i>0 then va.getD (i-1).toNat 0 else m.A4
theorem qaP(l:List fv)(n:Nat):(l.map (·.At)).getD n 0=(l.getD n (RK.cu RK.ae)).At:=by
 rw[cP,cP,fP]
 cases l[n]? <;>rfl
theorem qP(m:au)(s:List ej)(i last:Int)(c:fv)(l:List fv):ja m s i last (c::l)=bif((bm m s c.At).2.2.2==0)&&(jO (bm m s c.At).1==c.D3)then ja (bm m s c.At).1 (s.drop (bm m s c.At).2.2.1.toNat) (i+1) c.At l else nT i last:=rfl
theorem Zmf{i hash err:Int}{kZ:List fv}{lz:au}{tV:jR}{ob:List Int}(h0:0<=i)(h1:i<kZ.length)(h3:ob.length=kZ.length)(hl:kZ.length<=1000000):
 (PS i hash err kZ lz tV ob).w (λr=>r=((err==0)&&(hash==(jX kZ i).D3),kZ,lz,bif(err==0)&&(hash==(jX kZ i).D3)then tV else nT i (Bz lz ob i),ob)):=by
 unfold PS
 have ew:i64.wrap (i-1)=i-1:=by rw[wrap_i64];omega
 have bad:∀b:Bool,b=false->(Tree.br (decide (i>0)) (.cn (decide (0<=i64.wrap (i-1)/\i64.wrap (i-1)<((ob.length:Nat):Int))) (.lf ((false,kZ,lz,{Good:=false,F0:=i,At:=ob.getD (i64.wrap (i-1)).toNat 0},ob):Bool×List fv×au×jR×List Int))) (.lf (false,kZ,lz,{Good:=false,F0:=i,At:=lz.A4},ob))).w (λr=>r=(b,kZ,lz,bif b then tV else nT i (Bz lz ob i),ob)):=λb hb=>by
  subst hb
  refine aa (λh=>ay (dY (by have:=oY h;rw[ew];omega)) (fe ?_)) λh=>fe ?_
  ·have h:=oY h
   rw[ew]
   show _=((false,kZ,lz,nT i (Bz lz ob i),ob):Bool×List fv×au×jR×List Int)
   unfold nT Bz;rw[if_pos h]
  ·have h:=oN h
   show _=((false,kZ,lz,nT i (Bz lz ob i),ob):Bool×List fv×au×jR×List Int)
   unfold nT Bz;rw[if_neg h]
 refine aa (λhe=>ay (by simp[bJ];omega) (aa (λhh=>fe ?_) λhh=>?_)) λhe=>?_
 ·have hh:(hash==(jX kZ i).D3)=true:=hh
  rw[he,hh];rfl
 ·have hh:(hash==(jX kZ i).D3)=false:=hh
  exact bad _ (by rw[he,hh];rfl)
 ·exact bad _ (by rw[he];rfl)
theorem qu{P:Nat}{m:au}{s:List ej}(st:AZ P m s){l:List fv}(hl:l.length<=400)(hr:∀c∈l,0<=c.At/\c.At<18446744073709551616):
 (PU m s (l.map (·.At)) l m {Good:=true,F0:=0,At:=0} (l.map (·.At))).w (λr=>r.2.2.1=ja m s 0 m.A4 l):=by
 unfold PU
 refine fy (inv:=λv:List ej×Int×List fv×au×jR×List Int×au=>0<=v.2.1/\v.2.1<=l.length/\v.2.2.1=l/\v.2.2.2.1=m/\v.2.2.2.2.1={Good:=true,F0:=0,At:=0}/\v.2.2.2.2.2.1=l.map (·.At)/\AZ P v.2.2.2.2.2.2 v.1/\ja v.2.2.2.2.2.2 v.1 v.2.1 (Bz m (l.map (·.At)) v.2.1) (l.drop v.2.1.toNat)=ja m s 0 m.A4 l) (μ:=Qfv m s (l.map (·.At)) l m {Good:=true,F0:=0,At:=0} (l.map (·.At)))
  ⟨cW 0,by show(0:Int)<=_;omega,rfl,rfl,rfl,rfl,st,rfl⟩ (cO _) λv ⟨a1,a2,a3,a4,a5,a6,a7,a8⟩=>?_
 obtain⟨sc,i,vl,vm,vv,va,x⟩:=v
 have a1:0<=i:=a1
 have a2:i<=l.length:=a2
 have a3:vl=l:=a3
 have a4:vm=m:=a4
 have a5:vv={Good:=true,F0:=0,At:=0}:=a5
 have a6:va=l.map (·.At):=a6
 subst a3;subst a4;subst a5;subst a6
 have a7:AZ P x sc:=a7
 have a8:ja x sc i (Bz vm (vl.map (·.At)) i) (vl.drop i.toNat)=ja vm s 0 vm.A4 vl:=a8
 have ml:(vl.map (·.At)).length=vl.length:=fH ..
 have vl6:vl.length<=1000000:=by omega
 refine aa (λhb=>?_) λhb=>fe ?_
 ·have hb:i<((vl.map (·.At)).length:Nat):=oY hb
  have hb:i<vl.length:=by rw[ml]at hb;exact hb
  have ew:i64.wrap (i+1)=i+1:=by rw[wrap_i64];omega
  have em:(vl.map (·.At)).getD i.toNat 0=(jX vl i).At:=qaP vl i.toNat
  have ru:=hr (jX vl i) (by show vl.getD i.toNat _∈vl;rw[cP,cG (show i.toNat<vl.length by omega)];exact fI _)
  rw[UI a1 hb (RK.cu RK.ae)]at a8
  have a8:ja x sc i (Bz vm (vl.map (·.At)) i) (jX vl i::vl.drop (i+1).toNat)=ja vm s 0 vm.A4 vl:=a8
  rw[qP]at a8
  refine ay (by simp[bJ];omega) ?_
  show(Tree.an (PV x sc ((vl.map (·.At)).getD i.toNat 0)) _).w _
  rw[em]
  refine bo (vq a7.g.v a7.hs a7.hu ru.1 ru.2) λx0 ⟨e0,_,_⟩=>?_
  have e0:x0=bm x sc (jX vl i).At:=e0
  refine aa (λhe=>bo (Zmf a1 hb ml vl6) λx1 e1=>fe ?_) λhe=>?_
  ·have he:(x0.2.2.2==0)=false:=by simpa using he
   have JM:((bm x sc (jX vl i).At).2.2.2==0)=false:=by rw[<-e0];exact he
   rw[JM]at a8
   rw[e1,<-a8]
   show(bif(x0.2.2.2==0)&&_ then _ else nT i _)=_
   rw[he];rfl
  ·have he:x0.2.2.2=0:=by simpa using he
   have JM:(bm x sc (jX vl i).At).2.2.2=0:=by rw[<-e0];exact he
   obtain⟨sn,n1,n2⟩:=a7.next JM
   have pJ:((bm x sc (jX vl i).At).2.2.2==0)=true:=by rw[JM];rfl
   rw[pJ,fQ]at a8
   rw[<-e0]at sn n1 n2 a8
   obtain⟨hp,hh⟩:=HB sn.g sn.d
   refine ay (by simp[bJ];omega) (cz hp (ar λx2 e2=>bo (Zmf a1 hb ml vl6) λx3 e3=>?_))
   have e2:x2=jO x0.1:=e2.trans hh
   rw[<-e2]at a8
   have z:(((0:Int)==0)&&(x2==(jX vl i).D3))=(x2==(jX vl i).D3):=fQ _
   rw[z]at e3
   rw[e3]
   refine aa (λh=>fe ?_) λh=>ff ?_
   ·have h:(x2==(jX vl i).D3)=false:=by simpa using h
    rw[h]at a8
    show(bif(x2==(jX vl i).D3)then _ else nT i _)=_
    rw[h];exact a8
   ·have h:(x2==(jX vl i).D3)=true:=by simpa using h
    rw[h]at a8
    have a8:ja x0.1 (sc.drop x0.2.2.1.toNat) (i+1) (jX vl i).At (vl.drop (i+1).toNat)=ja vm s 0 vm.A4 vl:=a8
    have la:Bz vm (vl.map (·.At)) (i+1)=(jX vl i).At:=by
     unfold Bz;rw[if_pos (by omega),show i+1-1=i by omega];exact em
    show(0<=i64.wrap (i+1)/\i64.wrap (i+1)<=vl.length/\vl=vl/\vm=vm/\(bif(x2==(jX vl i).D3)then({Good:=true,F0:=0,At:=0}:jR)else nT i _)={Good:=true,F0:=0,At:=0}/\vl.map (·.At)=vl.map (·.At)/\AZ P x0.1 (dB (((sc.length:Nat):Int).toNat-x0.2.2.1.toNat) (dC x0.2.2.1.toNat sc))/\ja x0.1 (dB (((sc.length:Nat):Int).toNat-x0.2.2.1.toNat) (dC x0.2.2.1.toNat sc)) (i64.wrap (i+1)) (Bz vm (vl.map (·.At)) (i64.wrap (i+1))) (vl.drop (i64.wrap (i+1)).toNat)=ja vm s 0 vm.A4 vl)/\((vl.map (·.At)).length-i64.wrap (i+1)).toNat<((vl.map (·.At)).length-i).toNat
    rw[ew,Zhh n1 n2,la,h,ml]
    exact⟨⟨by omega,by omega,rfl,rfl,rfl,rfl,sn,a8⟩,by omega⟩
 ·have hb:¬i<((vl.map (·.At)).length:Nat):=oN hb
  have hb:¬i<vl.length:=by rw[ml]at hb;exact hb
  rw[aA (by omega)]at a8
  exact a8
def Ew(m:au)(s:List ej)(l:List fv):jR×Int:=bif jW m s (l.map (·.At))==0 then(ja m s 0 m.A4 l,0)else(nT 0 0,jW m s (l.map (·.At)))
theorem xP{l:List fv}{i:Int}(h0:0<=i)(h:i<l.length):(l.take i.toNat).map (·.At)++[(jX l i).At]=(l.take (i+1).toNat).map (·.At):=by
 have cj:i.toNat<l.length:=by omega
 rw[show(i+1).toNat=i.toNat+1 by omega,<-List.take_append_getElem cj,bL,List.map_singleton]
 congr 2
 show(l.getD i.toNat _).At=_
 rw[cP,cG cj];rfl
section
variable {m:au} (hv:sY m) (hc:m.A4<18446744073709551616) (d:kI m) {s:List ej} (hs:s.length<=1000000) (hu:∀e∈s,U e.D1.N) {l:List fv} (hl:l.length<=400) (hr:∀c∈l,0<=c.At/\c.At<18446744073709551616)
include hv hc d hs hu hl hr
theorem Y5:(PW m s l).w (λr=>r=Ew m s l):=by
 unfold PW
 refine fy (inv:=λv:Int×List Int=>0<=v.1/\v.1<=l.length/\v.2=(l.take v.1.toNat).map (·.At)) (μ:=Qkx m s l) ⟨cW 0,by show(0:Int)<=_;omega,rfl⟩ (cO _) λv ⟨a1,a2,a3⟩=>?_
 obtain⟨i,out⟩:=v
 have a1:0<=i:=a1
 have a2:i<=l.length:=a2
 have a3:out=(l.take i.toNat).map (·.At):=a3
 have ol:out.length<=400:=by rw[a3,fH,List.length_take];omega
 refine aa (λhb=>?_) λhb=>?_
 ·have hb:i<l.length:=oY hb
  have ew:i64.wrap (i+1)=i+1:=by rw[wrap_i64];omega
  refine ay (by simp[bJ];omega) (ay (dY (by show 8*(out.length+1)<=_;omega)) (ff ?_))
  show(0<=i64.wrap (i+1)/\i64.wrap (i+1)<=l.length/\out++[(jX l i).At]=(l.take (i64.wrap (i+1)).toNat).map (·.At))/\(l.length-i64.wrap (i+1)).toNat<(l.length-i).toNat
  rw[ew,a3]
  exact⟨⟨by omega,by omega,xP a1 hb⟩,by omega⟩
 ·have hb:¬i<l.length:=oN hb
  have a3:out=l.map (·.At):=by rw[a3,fO (by omega)]
  subst a3
  refine bo (Zn4 hv hc hs hu ol) λx0 e0=>?_
  refine aa (λh=>fe ?_) λh=>?_
  ·have h:(x0==0)=false:=by simpa using h
   show(nT 0 0,x0)=Ew m s l
   unfold Ew;rw[<-e0,h];rfl
  ·have h:x0=0:=by simpa using h
   have h0:jW m s (l.map (·.At))=0:=e0.symm.trans h
   obtain⟨P,g⟩:=Znn hv (Y4 h0).2
   refine bo (qu ⟨g,d,hs,hu⟩ hl hr) λx1 e1=>fe ?_
   show(x1.2.2.1,(0:Int))=Ew m s l
   unfold Ew;rw[h0,e1];rfl
end
structure HC(m:au)(s:List ej):Prop where
 st:AZ 8 m s
 c:m.A4<=87
theorem zav{kind:Int}{prog events:List Int}(hl:prog.length*8<=reachBytes)(By:prog.length<=60)(h20:events.length<=20):(PX kind prog events).w (λr=>HC r.1 r.2):=by
 unfold PX
 refine xas hl By (by omega) λm x hm g gc hx gp=>fe ?_
 have n:=JF g gc
 have u:=yZ events (s:=({A0:=m,B6:=0,D0:=[],B3:=[]},[])) n.g n.q (λe he=>by cases he)
 rw[<-hx]at u
 exact⟨⟨g,by rw[hm];exact Za2 kind prog hl By,by have:=gp.l;show x.1.D0.length<=1000000;omega,u⟩,gc⟩
theorem Znh:∀{l:List Int} {a y:Int},nq a l->a<=y->(∀x∈l,x<=y)->nq a (l++[y])
 |[],a,y,h,h1,h2=>⟨h1,trivial⟩
 |x::l,a,y,h,h1,h2=>⟨h.1,Znh h.2 (h2 x (by simp)) λz hz=>h2 z (by simp[hz])⟩
structure w4(c:Int)(r:List Int):Prop where
 asc:nq c r
 le:∀x∈r,c<=x/\x<=c+200
theorem xav{m:au}(h0:0<=m.A4)(hc:m.A4<=87){l:List Int}(hl:l.length<=10):(PY m l).w (λr=>r.length=l.length/\w4 m.A4 r):=by
 unfold PY
 refine fy (inv:=λv:Int×Int×List Int=>0<=v.2.1/\v.2.1<=l.length/\m.A4<=v.1/\v.1<=m.A4+20*v.2.1/\(v.2.2.length:Int)=v.2.1/\nq m.A4 v.2.2/\∀x∈v.2.2,m.A4<=x/\x<=v.1) (μ:=Qfd m l) ⟨cW 0,by show(0:Int)<=_;omega,cW _,by show m.A4<=m.A4+20*0;omega,rfl,trivial,λx hx=>by cases hx⟩ (cO _) λv ⟨a1,a2,a3,a4,a5,a6,a7⟩=>?_
 obtain⟨dj,i,out⟩:=v
 have a1:0<=i:=a1
 have a2:i<=l.length:=a2
 have a3:m.A4<=dj:=a3
 have a4:dj<=m.A4+20*i:=a4
 have a5:(out.length:Int)=i:=a5
 have a6:nq m.A4 out:=a6
 have a7:∀x∈out,m.A4<=x/\x<=dj:=a7
 refine aa (λhb=>?_) λhb=>fe ?_
 ·have hb:i<l.length:=oY hb
  have ew:i64.wrap (i+1)=i+1:=by rw[wrap_i64];omega
  refine ay (by simp[bJ];omega) (cz (Ft (by decide)) (ar λx0 e0=>ay (dY (by show 8*(out.length+1)<=_;omega)) (ff ?_)))
  have rr:=Y6 (n:=l.getD i.toNat 0) (k:=20) (by decide) (by decide)
  have e0:x0=tS (l.getD i.toNat 0) 20:=e0
  rw[<-e0]at rr
  have w1:wrap .u64 (dj+wrap .u64 x0)=dj+x0:=by rw[wrap_u64,wrap_u64];omega
  show(0<=i64.wrap (i+1)/\i64.wrap (i+1)<=l.length/\m.A4<=wrap .u64 (dj+wrap .u64 x0)/\wrap .u64 (dj+wrap .u64 x0)<=m.A4+20*i64.wrap (i+1)/\((out++[wrap .u64 (dj+wrap .u64 x0)]).length:Int)=i64.wrap (i+1)/\nq m.A4 (out++[wrap .u64 (dj+wrap .u64 x0)])/\∀x∈out++[wrap .u64 (dj+wrap .u64 x0)],m.A4<=x/\x<=wrap .u64 (dj+wrap .u64 x0))/\(l.length-i64.wrap (i+1)).toNat<(l.length-i).toNat
  rw[ew,w1,lA,cZ]
  refine⟨⟨by omega,by omega,by omega,by omega,by omega,Znh a6 (by omega) λx hx=>by have:=a7 x hx;omega,λx hx=>?_⟩,by omega⟩
  rcases List.mem_append.1 hx with hx|hx
  ·have:=a7 x hx;omega
  ·rw[List.mem_singleton.1 hx];omega
 ·have hb:¬i<l.length:=oN hb
  exact⟨by show out.length=_;omega,a6,λx hx=>by have:=a7 x hx;omega⟩
theorem w4.u{c:Int}{r:List Int}(h:w4 c r)(h0:0<=c)(h1:c<=87):∀x∈r,0<=x/\x<18446744073709551616:=λx hx=>by have:=h.le x hx;omega
theorem xu{l:List Int}{m:au}{s:List ej}(h:(jS m s l).2≠0):(jS m s l).1=[]:=by
 cases l with
 |nil=>exact absurd rfl h
 |cons u l=>
  rw[Y3]at h⊢
  cases h1:(bm m s u).2.2.2==0
  ·rfl
  ·rw[h1]at h
   show(comb _ _).1=[]
   have h:(comb [{At:=u,D3:=jO (bm m s u).1}] (jS (bm m s u).1 (s.drop (bm m s u).2.2.1.toNat) l)).2≠0:=h
   unfold comb at h⊢
   generalize jS (bm m s u).1 (s.drop (bm m s u).2.2.1.toNat) l=w at h⊢
   cases h2:w.2==0
   ·rfl
   ·rw[h2]at h;exact absurd rfl h
theorem Zpk{l:List Int}{m:au}{s:List ej}(h:(CP m s l).2≠0):(CP m s l).1=[]:=by
 unfold CP at h⊢
 cases h1:jW m s l==0
 ·rfl
 ·rw[h1]at h;exact xu h
theorem Zif{l:List Int}{m:au}{s:List ej}(h:(CP m s l).2=0):jW m s l=0/\jS m s l=((CP m s l).1,0):=by
 unfold CP at h⊢
 cases h1:jW m s l==0
 ·rw[h1]at h
  have h:jW m s l=0:=h
  rw[h]at h1;cases h1
 ·rw[h1]at h
  have h:(jS m s l).2=0:=h
  refine⟨eq_of_beq h1,?_⟩
  show jS m s l=((jS m s l).1,0)
  rw[<-h]
theorem Y7:∀{l:List Int} {m:au} {s:List ej} {L:List fv} {P:Nat},AZ P m s->jS m s l=(L,0)->∀c∈L,c.At∈l/\0<=c.D3/\c.D3<18446744073709551616
 |[],m,s,L,P,st,h,c,hc=>by rw[show L=[] from(Prod.mk.inj h).1.symm]at hc;cases hc
 |u ::l,m,s,L,P,st,h,c,hc=>by
  obtain⟨h1,K,e,h2⟩:=My h
  obtain⟨sn,_,_⟩:=st.next h1
  rw[e]at hc
  rcases List.mem_cons.1 hc with hc|hc
  ·rw[hc];exact⟨by simp,Zj sn.g sn.d⟩
  ·obtain⟨p,q⟩:=Y7 sn h2 c hc
   exact⟨by simp[p],q⟩
section
instance zu (i:Int):Ck (HD i):=let d:Decidable (HD i):=(by delta HD;infer_instance);⟨@decide _ d,@oY _ d⟩
instance Zke (a:bj) (b:bj):Ck (Qa9 a b):=rQ (t:=PZ a b) (by delta PZ;infer_instance)
instance Zl1 (a:List Int) (b:List Int):Ck (Qaa a b):=rQ (t:=P0 a b) (by delta P0;infer_instance)
instance Zqz (a:au) (b:au):Ck (P1 a b):=rQ (t:=P2 a b) (by delta P2;infer_instance)
abbrev mA:au:=FK 2 [0]
def mA5(m:au):au:={B4:={X:={a0:=m.B4.X.a0,a1:=m.B4.X.a1,a2:=m.B4.X.a2,a3:=m.B4.X.a3,a4:=m.B4.X.a4,a5:=7,a6:=m.B4.X.a6,a7:=m.B4.X.a7,a8:=m.B4.X.a8,a9:=m.B4.X.a9,kz:=m.B4.X.kz,kA:=m.B4.X.kA,a12:=m.B4.X.a12,kB:=m.B4.X.kB,kC:=m.B4.X.kC,kD:=m.B4.X.kD},Pc:=m.B4.Pc,B7:=m.B4.B7},Mem:=m.Mem,A7:=m.A7,B2:=m.B2,B1:=m.B1,C6:=m.C6,A6:=m.A6,A4:=m.A4,A9:=m.A9,B0:=m.B0}
theorem zP:P1 mA (mA5 mA):=ck inferInstance (by kernel_rfl)
theorem yP:P1 mA mA:=ck inferInstance (by kernel_rfl)
theorem vP:UJ mA (mA5 mA)=[120,32,53]:=by kernel_rfl
theorem qQ:UJ mA mA=[]:=by kernel_rfl
end
theorem CQ:(CP mA [] [1,3]).2=0:=by kernel_rfl
theorem P3:P4.w (λr=>r=true):=by
 unfold P4
 refine cz (Tree.pp (Zgo 2 [0] (by decide))).1 (ar λx0 e0=>?_)
 subst e0
 obtain⟨g,gc⟩:=Qzj 2 [0] (by decide) (by decide)
 have d:=Za2 2 [0] (by decide) (by decide)
 have hc:mA.A4<18446744073709551616:=by show(FK 2 [0]).A4<_;omega
 refine bo (vt g.v hc d (s:=[]) (aT _) (λe he=>by cases he) (l:=[1,3]) (by decide) (λx hx=>by simp at hx;omega)) λx1 e1=>?_
 obtain⟨c0,mk⟩:=Zif CQ
 rw[<-e1]at mk
 have ki:x1.2=0:=by rw[e1];exact CQ
 obtain⟨L,e⟩:=x1
 have ki:e=0:=ki
 subst ki
 have mk:jS mA [] [1,3]=(L,0):=mk
 have ma:=YZ mk
 have l2:L.length=2:=by rw[<-fH (f:=(·.At)),ma];rfl
 have mm:=Y7 (P:=8) ⟨g,d,aT _,λe he=>by cases he⟩ mk
 have hr:∀c∈L,0<=c.At/\c.At<18446744073709551616:=λc hc=>by have:=(mm c hc).1;simp at this;omega
 have ckL:Ew mA [] L=({Good:=true,F0:=0,At:=0},0):=by
  unfold Ew
  rw[ma,c0]
  show(ja mA [] 0 mA.A4 L,(0:Int))=_
  rw[wZ mk]
 refine aa (λh=>by cases h) λ_=>aa (λh=>?_) λ_=>?_
 ·exfalso
  have h:(((L.length:Nat):Int) !=2)=true:=h
  rw[l2]at h;cases h
 refine bo (Y5 g.v hc d (s:=[]) (aT _) (λe he=>by cases he) (l:=L) (by omega) hr) λx2 e2=>?_
 have cc:(bT 2 2&&bJ 0 2&&decide ((0:Int)<=1/\(1:Int)<((L.length:Nat):Int)))=true:=by rw[l2];rfl
 refine ay cc (ay cc ?_)
 obtain⟨q,hq⟩:∃q:fv,q=L.getD 1 (RK.cu RK.ae):=⟨_,rfl⟩
 have hqd:L.getD 1 default=q:=by
  rw[hq,cP,cP,cG (show 1<L.length by omega)];rfl
 have hqm:q∈L:=by rw[hq,cP,cG (show 1<L.length by omega)];exact fI _
 have hqr:=(mm q hqm).2
 have sl:(L.set 1 {At:=q.At,D3:=wrap .u64 (q.D3+1)}).length=2:=by rw[dH,l2]
 have sm:(L.set 1 ({At:=q.At,D3:=wrap .u64 (q.D3+1)}:fv)).map (·.At)=L.map (·.At):=by
  apply List.ext_getElem
  ·rw[fH,fH,dH]
  ·intro n h1 h2
   rw[bO,bO,List.getElem_set]
   split
   ·rename_i hn
    subst hn
    show q.At=_
    rw[hq,cP,cG (show 1<L.length by omega)];rfl
   ·rfl
 have ckS:Ew mA [] (L.set 1 {At:=q.At,D3:=wrap .u64 (q.D3+1)})=({Good:=false,F0:=1,At:=1},0):=by
  unfold Ew
  rw[sm,ma,c0]
  have f:=HA 1 mk (by omega) 0 mA.A4 (wrap .u64 (q.D3+1)) (by rw[hqd,wrap_u64];omega)
  rw[hqd]at f
  show(ja mA [] 0 mA.A4 _,(0:Int))=_
  rw[f]
  have h0:(L.getD (1-1) default).At=1:=by
   have:(L.map (·.At)).getD 0 0=(L.getD 0 default).At:=by
    rw[cP,cP,fP,cG (show 0<L.length by omega)];rfl
   rw[ma]at this
   exact this.symm
  rw[h0];rfl
 have P5:∀c∈L.set 1 {At:=(L.getD 1 (RK.cu RK.ae)).At,D3:=wrap .u64 ((L.getD 1 (RK.cu RK.ae)).D3+1)},0<=c.At/\c.At<18446744073709551616:=λc rH=>by
  rcases List.mem_or_eq_of_mem_set rH with h|h
  ·exact hr c h
  ·rw[h,<-hq];exact hr q hqm
 refine bo (Y5 g.v hc d (s:=[]) (aT _) (λe he=>by cases he) (l:=L.set 1 {At:=(L.getD 1 (RK.cu RK.ae)).At,D3:=wrap .u64 ((L.getD 1 (RK.cu RK.ae)).D3+1)}) (by rw[dH];omega) P5) λx3 e3=>?_
 rw[<-hq]at e3
 rw[e2,e3,ckL,ckS]
 have no:∀{t:Tree Bool},false=true->t.w (λr=>r=true):=λh=>by cases h
 refine aa (λ_=>aa (λ_=>aa (λ_=>aa (λ_=>aa (λ_=>aa (λ_=>?_) λh=>by cases h) λh=>by cases h) λh=>by cases h) λh=>by cases h) λh=>by cases h) λh=>by cases h
 refine cz zP (ar λx4 e4=>aa (λ_=>cz yP (ar λx5 e5=>fe ?_)) λh=>?_)
 ·have e5:x5=[]:=e5.trans qQ
  rw[e5];rfl
 ·have e4:x4=[120,32,53]:=e4.trans vP
  rw[e4]at h;cases h
theorem Y8{W:Bool->Prop}(h:W true):(Tree.an HE (.lv FQ λx=>.lf x)).w W:=by
 obtain⟨p,q⟩:=Tree.pp P3
 exact cz p (ar λx e=>by show W x;rw[e,show FQ=true from q];exact h)
theorem xQ:∀{l:List Int} {a b:Int},b<=a->nq a l->nq b l
 |[],a,b,h,g=>trivial
 |x::l,a,b,h,g=>⟨Int.le_trans h g.1,g.2⟩
theorem qaw{l l':List Int}(h:l'.Sublist l):∀{a:Int},nq a l->nq a l':=by
 induction h with
 |slnil=>exactλh=>h
 |cons x _ ih=>exactλh=>ih (xQ h.1 h.2)
 |cons_cons x _ ih=>exactλh=>⟨h.1,ih h.2⟩
theorem UK(k:Nat)(bf:List Bool):∀(j:Nat) (L:List fv),((jP k bf j L).map (·.At)).Sublist (L.map (·.At))
 |j,[]=>List.Sublist.slnil
 |j,c::l=>by
  unfold jP
  cases bf.getD j false
  ·exact List.Sublist.cons _ (UK k bf (j+1) l)
  ·cases j==k
   ·exact List.Sublist.cons_cons _ (UK k bf (j+1) l)
   ·exact List.Sublist.cons_cons _ (UK k bf (j+1) l)
theorem v7:∀{l:List Int} {a B:Int},0<=a->nq a l->(∀x∈l,x<=B)->B<=a+4000->lQ a l=true
 |[],a,B,h0,h,hB,hb=>rfl
 |x::l,a,B,h0,h,hB,hb=>by
  have:=hB x (by simp)
  have hx:=h.1
  unfold lQ
  rw[dN (show¬x<a by omega),dN (show¬wrap .u64 (x-a)>4000 by rw[wrap_u64];omega)]
  exact v7 (by omega) h.2 (λy hy=>hB y (by simp[hy])) (by omega)
theorem EL(kind:Int)(prog events l:List Int)(jk:Int)(bf:List Bool)(hl:prog.length*8<=reachBytes):Qg2 kind prog events l jk bf/\Qfs kind prog events l jk bf=true:=by
 have aw:=Y8 (W:=λr=>r=true) rfl
 refine Tree.pp (W:=λr=>r=true) ?_
 unfold UL
 refine aa (λ_=>aw) λh1=>aa (λ_=>aw) λh2=>aa (λ_=>aw) λh3=>aa (λ_=>aw) λh4=>aa (λ_=>aw) λh5=>?_
 have f1:prog.length<=60:=by have:=oN h1;omega
 have f2:events.length<=20:=by have:=oN h2;omega
 have f3:1<=l.length:=by have:=oN h3;omega
 have f4:l.length<=10:=by have:=oN h4;omega
 have f5:l.length<=bf.length:=by have:=oN h5;omega
 refine bo (zav hl f1 f2) λx3 R=>?_
 obtain⟨m,s⟩:=x3
 have R:HC m s:=R
 have g:=R.st.g
 have c0:=g.ok.lS
 have c1:=R.c
 refine bo (xav c0 c1 f4) λx4 ⟨p1,p2⟩=>?_
 have p1:x4.length=l.length:=p1
 have p2:w4 m.A4 x4:=p2
 refine bo (vt g.v (by omega) R.st.d R.st.hs R.st.hu (l:=x4) (by omega) (p2.u c0 c1)) λx7 e7=>aa (λh=>aa (λ_=>aw) λhz=>?_) λh=>?_
 ·exfalso
  have h:x7.2≠0:=by simpa using h
  rw[e7]at h hz
  rw[Zpk h]at hz;cases hz
 have h0:x7.2=0:=by simpa using h
 rw[e7]at h0
 obtain⟨ck,mk⟩:=Zif h0
 have P6:x7.2=0:=by rw[e7];exact h0
 rw[<-e7]at mk
 obtain⟨L,e⟩:=x7
 have P6:e=0:=P6
 subst P6
 have mk:jS m s x4=(L,0):=mk
 have ma:=YZ mk
 have mm:=Y7 R.st mk
 have ll:L.length=l.length:=by rw[<-fH (f:=(·.At)),ma];exact p1
 refine aa (λh=>by
  have h:(((L.length:Nat):Int) !=((l.length:Nat):Int))=true:=h
  rw[ll]at h;simp at h) λ_=>cz (Ft (by show((L.length:Nat):Int)≠0;omega)) (ar λx9 e9=>?_)
 have e9:x9=tS jk (L.length:Int):=e9
 have rr:=Y6 (n:=jk) (k:=(L.length:Int)) (by omega) (by omega)
 rw[<-e9]at rr
 obtain⟨k,rfl⟩:∃k:Nat,x9=k:=⟨x9.toNat,by omega⟩
 have hk:k<L.length:=by omega
 refine fy (inv:=λv:Int×List fv=>0<=v.1/\v.1<=L.length/\v.2.length<=v.1.toNat/\jP k bf 0 L=v.2++jP k bf v.1.toNat (L.drop v.1.toNat)) (μ:=Qd7 kind prog events l jk bf) ⟨cW 0,by show(0:Int)<=_;omega,aO _,rfl⟩ (cO _) λv ⟨a1,a2,a3,a4⟩=>?_
 obtain⟨i,out⟩:=v
 have a1:0<=i:=a1
 have a2:i<=L.length:=a2
 have a3:out.length<=i.toNat:=a3
 have a4:jP k bf 0 L=out++jP k bf i.toNat (L.drop i.toNat):=a4
 refine aa (λhb=>?_) λhb=>?_
 ·have hb:i<L.length:=oY hb
  have ew:i64.wrap (i+1)=i+1:=by rw[wrap_i64];omega
  have cc:(bT 2 2&&bJ 0 2&&decide (0<=i/\i<((L.length:Nat):Int)))=true:=by simp[bJ];omega
  have ck1:(bT 1 1&&bJ 0 1&&decide (0<=i/\i<((bf.length:Nat):Int)))=true:=by simp[bJ];omega
  have cl:decide (16*(out.length+1)<=140737488355328)=true:=dY (by omega)
  rw[UI a1 hb (RK.cu RK.ae)]at a4
  have sw:(i+1).toNat=i.toNat+1:=by omega
  have stp:jP k bf i.toNat (L.getD i.toNat (RK.cu RK.ae)::L.drop (i+1).toNat)=bif bf.getD i.toNat false then(bif i.toNat==k then{At:=(L.getD i.toNat (RK.cu RK.ae)).At,D3:=wrap .u64 ((L.getD i.toNat (RK.cu RK.ae)).D3+1)}else L.getD i.toNat (RK.cu RK.ae))::jP k bf (i.toNat+1) (L.drop (i+1).toNat)else jP k bf (i.toNat+1) (L.drop (i+1).toNat):=rfl
  rw[stp]at a4
  have add:∀c:fv,jP k bf 0 L=out++c::jP k bf (i.toNat+1) (L.drop (i+1).toNat)->(0<=i64.wrap (i+1)/\i64.wrap (i+1)<=L.length/\(out++[c]).length<=(i64.wrap (i+1)).toNat/\jP k bf 0 L=(out++[c])++jP k bf (i64.wrap (i+1)).toNat (L.drop (i64.wrap (i+1)).toNat))/\(l.length-i64.wrap (i+1)).toNat<(l.length-i).toNat:=λc h=>by
   rw[ew,lA,cZ,fF,sw]
   rw[sw]at h
   exact⟨⟨by omega,by omega,by omega,h⟩,by omega⟩
  have skip:jP k bf 0 L=out++jP k bf (i.toNat+1) (L.drop (i+1).toNat)->(0<=i64.wrap (i+1)/\i64.wrap (i+1)<=L.length/\out.length<=(i64.wrap (i+1)).toNat/\jP k bf 0 L=out++jP k bf (i64.wrap (i+1)).toNat (L.drop (i64.wrap (i+1)).toNat))/\(l.length-i64.wrap (i+1)).toNat<(l.length-i).toNat:=λh=>by
   rw[ew,sw]
   rw[sw]at h
   exact⟨⟨by omega,by omega,by omega,h⟩,by omega⟩
  refine ay cc (aa (λhe=>ay ck1 (aa (λhp=>ay cl (ff ?_)) λhp=>ff ?_)) λhe=>ay ck1 (aa (λhp=>ay cl (ff ?_)) λhp=>ff ?_))
  ·have hp:bf.getD i.toNat false=true:=hp
   have he:i=k:=by simpa using he
   rw[hp,show(i.toNat==k)=true by simp;omega]at a4
   exact add _ a4
  ·have hp:bf.getD i.toNat false=false:=hp
   rw[hp]at a4
   exact skip a4
  ·have hp:bf.getD i.toNat false=true:=hp
   have he:¬i=k:=by simpa using he
   rw[hp,show(i.toNat==k)=false by simp;omega]at a4
   exact add _ a4
  ·have hp:bf.getD i.toNat false=false:=hp
   rw[hp]at a4
   exact skip a4
 ·have hb:¬i<L.length:=oN hb
  rw[aA (by omega)]at a4
  have a4:jP k bf 0 L=out:=a4.trans (cJ _)
  have sub:=UK k bf 0 L
  rw[a4,ma]at sub
  have oa:∀x∈out.map (·.At),x∈x4:=λx hx=>sub.subset hx
  have hr:∀c∈out,0<=c.At/\c.At<18446744073709551616:=λc hc=>p2.u c0 c1 _ (oa c.At (List.mem_map_of_mem hc))
  refine bo (Y5 g.v (by omega) R.st.d R.st.hs R.st.hu (l:=out) (by omega) hr) λki e10=>?_
  have pb:lQ m.A4 (out.map (·.At))=true:=v7 (B:=m.A4+200) c0 (qaw sub p2.asc) (λx hx=>(p2.le x (oa x hx)).2) (by omega)
  have ck2:jW m s (out.map (·.At))=0:=by
   unfold jW;rw[pb];exact(Y4 ck).2
  have ev:ki=(ja m s 0 m.A4 out,0):=by rw[e10];unfold Ew;rw[ck2];rfl
  have fw:=CO k bf (B:=m.A4+200) (j:=0) g R.st.hu (Zoa m s m.A4 (m.A4+200)) p2.asc (λx hx=>(p2.le x hx).2) (by omega) mk (λc hc=>(mm c hc).2) 0 m.A4
  rw[a4,dY (show 0<=k/\k<0+L.length by omega),fQ]at fw
  rw[ev]
  refine aa (λ_=>ay (by simp[bJ];omega) (aa (λ_=>aw) λh=>?_)) λh=>by cases h
  exfalso
  have h:((ja m s 0 m.A4 out).Good==!bf.getD ((k:Int)).toNat false)=false:=h
  rw[fw,eD,beq_self_eq_true]at h;cases h

import Derived.Test.YthjfindbamdacaaGreatDoorAuditScriptsFin1
open Int renaming le_refl->cW,tmod->dE,toNat_natCast->eD,toNat_of_nonneg->eH
open Nat renaming lt_succ_self->cO,zero_le->aT,le_succ->fG,le_refl->aO,blt->bJ,beq->bT,not_lt_zero->fK
open List renaming getD_eq_getElem?_getD->cP,getElem?_eq_getElem->cG,drop_eq_getElem_cons->aB,foldl_cons->aD,drop_eq_nil_of_le->aA,length_singleton->cZ,length_cons->dI,replicate->cQ,append_assoc->fF,length_replicate->cV,length->dK,length_map->fH,map_append->bL,getElem_mem->fI,append_nil->cJ,mem_cons->cS,not_mem_nil->cU,nil_append->fJ,length_drop->bF,getElem?_map->fL,take->dB,drop->dC,take_of_length_le->fM,length_set->dH,getElem_map->bO,mem_or_eq_of_mem_set->fO
open Bool renaming true_and->fN
set_option maxRecDepth 100000
set_option linter.all false
namespace Go.Proofs.YthjfindbamdacaaGreatDoor
open Go Go.GD
open Go.IntKind(wrap i64 wrap_i64 wrap_u64 wrap_u8 wrap_i32)
attribute [local irreducible] K8
def Tree.V{β:Type}(t:Tree β)(W:β->Prop):Prop:=W t.m
section
variable {α β:Type} {W:β->Prop} {c:Bool} {t e:Tree β}
theorem c6{x:β}(h:W x):Tree.V (.lf x) W:=h
theorem pz{f:Prop}{x:β}{hf:f}(h:W x):Tree.V (.nx f x hf) W:=h
theorem c9(h:c=true->Tree.V t W)(g:c=false->Tree.V e W):Tree.V (.br c t e) W:=by
 cases c
 ·exact g rfl
 ·exact h rfl
theorem jZ(g:Tree.V t W):Tree.V (.cn c t) W:=g
theorem ft{p:Prop}(g:Tree.V t W):Tree.V (.an p t) W:=g
theorem dq{x:α}{k:α->Tree β}(h:∀y,y=x->Tree.V (k y) W):Tree.V (.lv x k) W:=h x rfl
theorem ry{d:Inhabited β}{n:Nat}{f:Prop}{x:α}{k:α->Tree (α⊕β)}{hf:f}{inv:α->Prop}{μ:α->Nat}(h:inv x)(hn:μ x<n)(g:∀y,inv y->Tree.V (k y) (Sum.elim (λz=>inv z/\μ z<μ y) W)):Tree.V (.lp d n f x k hf) W:=by
 refine zaD (P:=inv) (R:=W) (μ:=μ) (λa ha=>?_) n x h hn
 have:=g a ha
 unfold Tree.V at this
 revert this
 cases(k a).m with
 |inl z=>exactλh=>h
 |inr b=>exactλh=>h
end
def Eh(r:cy)(m:au):cy:={A0:=m,B3:=r.B3,C8:=r.C8,B0:=r.B0}
theorem zaK(r:cy)(port clock:Int):Yk r port clock=((wN r.A0 port clock).1,Eh r (wN r.A0 port clock).2):=by
 simp only[Yk,O1,wN,Gy,Tree.m,dd]
 cases decide (port<=1)<;>cases port==2<;>cases port==3<;>cases decide (port<=6)<;>cases decide (port<=9)<;>rfl
theorem zar(r:cy)(port v:Int):Yl r port v=((AP r.A0 port v).1,Eh r (AP r.A0 port v).2):=by
 simp only[Yl,L6,AP,EZ,Tree.m,dd]
 cases port==0<;>cases decide (port<=2)<;>cases port==3<;>cases decide (port<=6)<;>cases decide (port<=9)<;>rfl
theorem xaK{r:cy}{c:Bool}{x y:Bool×cy}{x' y':Bool×au}(hx:x=(x'.1,Eh r x'.2))(hy:y=(y'.1,Eh r y'.2)):cond c x y=((cond c x' y').1,Eh r (cond c x' y').2):=by cases c<;>assumption
theorem zl(r:cy)(e:gx):Ym r e=((lL r.A0 e).1,Eh r (lL r.A0 e).2):=by
 simp only[Ym,L7,lL,Fw,Tree.m,dd]
 repeat'(first|rfl|refine xaK ?_ ?_)
theorem Ue(r:cy)(clock:Int):L9 r clock=((fv r.A0 clock).1,Eh r (fv r.A0 clock).2):=by
 simp only[L9,Ma,fv,KQ,Tree.m,dd,zaK,zar,Eh]
 cases(pR (lV r.A0) r.A0.Mem).2.1.B9==1<;>cases(pR (lV r.A0) r.A0.Mem).2.1.B9==2<;>cases(pR (lV r.A0) r.A0.Mem).2.1.B9==3<;>cases(pR (lV r.A0) r.A0.Mem).2.1.B9==4<;>rfl
def nf(r:cy)(e:gx):cy:=
 bif(lL r.A0 e).1 then{A0:=(lL r.A0 e).2,B3:=r.B3,C8:=r.C8++[{At:=(lL r.A0 e).2.A1,C6:=e}],B0:=r.B0}else Eh r (lL r.A0 e).2
theorem Zn3(r:cy)(e:gx):O2 r e=nf r e:=by
 have a:Yn r e=((lL r.A0 e).1,Eh r (lL r.A0 e).2):=by
  simp only[Yn,Mb,Tree.m,dd,zl]
 simp only[O2,Mc,Tree.m,dd,a,nf]
 cases(lL r.A0 e).1<;>rfl
def kM(r:cy):cy:=bif Jn r.A0.A9 r.B3 then nf r {B9:=2,N:=0,C9:=[]}else r
def Fx(r:cy):cy:=bif Hc r.A0 then{A0:=r.A0,B3:=r.B3,C8:=r.C8++[{At:=r.A0.A1,C6:={B9:=1,N:=r.B3,C9:=[]}}],B0:=r.B0}else r
def Ei(r:cy):cy:={A0:=(fv r.A0 r.B3).2,B3:=wrap .u32 (r.B3+1),C8:=(Fx r).C8,B0:=r.B0}
def iQ:Nat->cy->List dx->cy×List dx
 |0,r,o=>(r,o)
 |n+1,r,o=>bif mN (kM r).A0 then(kM r,o)else iQ n (Ei (kM r)) (o++(fv (kM r).A0 (kM r).B3).1)
def Jo(r:cy):cy:={A0:=r.A0,B3:=r.B3,C8:=r.C8,B0:=[]}
def lG(r:cy)(steps clock:Int):cy×List dx:=
 bif !pS r.A0 then(r,[])else iQ (pP steps).toNat (Jo (r.B0.foldl nf {A0:=r.A0,B3:=if clock>r.B3 then clock else r.B3,C8:=r.C8,B0:=r.B0})) []
theorem Yo(r:cy)(e:gx):(nf r e).B0=r.B0:=by
 unfold nf;cases(lL r.A0 e).1<;>rfl
theorem Zm4(r:cy):Uf r=r:=by
 simp only[Uf,Md,Tree.m,dd,Hb]
theorem Yp(r:cy)(steps clock:Int)(hq:r.B0.length<=1000000):Ug r steps clock=lG r steps clock:=by
 show Tree.V (IM r steps clock) (λx=>x=lG r steps clock)
 obtain⟨Jay,lim⟩:=S9 steps
 unfold IM
 refine ft (dq λx0 e0=>dq λx1 e1=>?_)
 rw[Zm4]at e0
 subst e0
 refine c9 (λhb=>c6 ?_) λhb=>?_
 ·unfold lG;rw[<-e1,hb];rfl
 generalize rS:({A0:=x0.A0,B3:=if clock>x0.B3 then clock else x0.B3,C8:=x0.C8,B0:=x0.B0}:cy)=r0
 have hA:lG x0 steps clock=iQ (pP steps).toNat (Jo (x0.B0.foldl nf r0)) []:=by
  unfold lG;rw[<-e1,hb,rS];rfl
 have hQ:r0.B0=x0.B0:=by rw[<-rS]
 refine ry (inv:=λz:Int×cy=>0<=z.1/\z.1<=x0.B0.length/\z.2.B0=x0.B0/\(x0.B0.drop z.1.toNat).foldl nf z.2=x0.B0.foldl nf r0) (μ:=W3 x0 steps clock) ⟨cW 0,by show(0:Int)<=_;omega,hQ,rfl⟩ (cO _) λz ⟨z0,z1,z2,z3⟩=>?_
 refine c9 (λhb=>?_) (λhb=>?_)
 ·have hb:=oY hb
  rw[z2]at hb
  refine jZ (ft (dq λx2 e2=>pz ?_))
  have ew:i64.wrap (z.1+1)=z.1+1:=by rw[wrap_i64];omega
  rw[Zn3]at e2
  have q2:x2.B0=x0.B0:=by rw[e2,Yo,z2]
  have cg:z.1.toNat<x0.B0.length:=by omega
  have ed:z.2.B0.getD z.1.toNat (RK.cj RK.bd)=x0.B0[z.1.toNat]:=by rw[z2,cP,cG cg];rfl
  show(0<=i64.wrap (z.1+1)/\i64.wrap (z.1+1)<=x0.B0.length/\x2.B0=x0.B0/\(x0.B0.drop (i64.wrap (z.1+1)).toNat).foldl nf x2=_)/\(x2.B0.length-i64.wrap (z.1+1)).toNat<(z.2.B0.length-z.1).toNat
  rw[ew,q2,z2]
  refine⟨⟨by omega,by omega,rfl,?_⟩,by omega⟩
  rw[<-z3,aB cg,aD,show(z.1+1).toNat=z.1.toNat+1 by omega,e2,ed]
 ·have hb:=oN hb
  rw[z2]at hb
  obtain⟨zi,zr⟩:=z
  have hb:¬zi<x0.B0.length:=hb
  have ze:zr=x0.B0.foldl nf r0:=by
   rw[<-z3,aA (by show x0.B0.length<=zi.toNat;omega)];rfl
  rw[<-ze]at hA
  refine ry (inv:=λy:Int×cy×List dx=>0<=y.1/\y.1<=pP steps/\iQ (pP steps-y.1).toNat y.2.1 y.2.2=lG x0 steps clock) (μ:=NM x0 steps clock (zi,zr)) ⟨cW 0,by show(0:Int)<=_;omega,by rw[hA];show iQ (pP steps-0).toNat _ _=_;rw[Int.sub_zero];rfl⟩ (cO _) λy ⟨y0,y1,y2⟩=>?_
  obtain⟨yi,yr,yo⟩:=y
  have mu:∀q,yi<4000->NM x0 steps clock (zi,zr) (wrap .i64 (yi+1),q)<NM x0 steps clock (zi,zr) (yi,yr,yo):=λq h=>by
   show(4000-wrap .i64 (yi+1)).toNat<(4000-yi).toNat
   have y0:0<=yi:=y0
   rw[wrap_i64];omega
  have y0:0<=yi:=y0
  refine dq λx3 e3=>c9 (λhb=>?_) (λhb=>?_)
  ·have hb:yi<x3:=oY hb
   rw[e3]at hb
   have mu:=λq=>mu q (by omega)
   have ew:i64.wrap (yi+1)=yi+1:=by rw[wrap_i64];omega
   have en:(pP steps-yi).toNat=(pP steps-(yi+1)).toNat+1:=by omega
   change iQ (pP steps-yi).toNat yr yo=_ at y2
   rw[en]at y2
   refine dq λx4 e4=>c9 (λhd=>ft (dq λx5 e5=>?_)) (λhd=>?_)
   ·have e5:x5=kM yr:=by rw[e5,Zn3];unfold kM;rw[<-e4,hd];rfl
    refine ft (dq λx6 e6=>c9 (λhs=>c6 ?_) λhs=>ft (dq λx7 e7=>c9 (λhr=>jZ (ft (dq λx8 e8=>jZ (pz ?_)))) λhr=>ft (dq λx9 e9=>jZ (pz ?_))))
    ·show(_,yo)=_
     rw[<-y2];unfold iQ
     rw[<-e5,<-e6,hs];rfl
    ·rw[Ue]at e8
     refine⟨⟨by show 0<=wrap .i64 (yi+1);rw[ew];omega,by show wrap .i64 (yi+1)<=_;rw[ew];omega,?_⟩,mu _⟩
     show iQ (pP steps-wrap .i64 (yi+1)).toNat _ _=_
     rw[ew,<-y2,e8]
     conv=>rhs;unfold iQ
     rw[<-e5,<-e6,hs]
     unfold Ei Fx
     rw[<-e7,hr];rfl
    ·rw[Ue]at e9
     refine⟨⟨by show 0<=wrap .i64 (yi+1);rw[ew];omega,by show wrap .i64 (yi+1)<=_;rw[ew];omega,?_⟩,mu _⟩
     show iQ (pP steps-wrap .i64 (yi+1)).toNat _ _=_
     rw[ew,<-y2,e9]
     conv=>rhs;unfold iQ
     rw[<-e5,<-e6,hs]
     unfold Ei Fx
     rw[<-e7,hr];rfl
   ·have e5:yr=kM yr:=by
     have e4:x4=Jn yr.A0.A9 yr.B3:=e4
     unfold kM;rw[<-e4,hd];rfl
    refine ft (dq λx6 e6=>c9 (λhs=>c6 ?_) λhs=>ft (dq λx7 e7=>c9 (λhr=>jZ (ft (dq λx8 e8=>jZ (pz ?_)))) λhr=>ft (dq λx9 e9=>jZ (pz ?_))))
    ·show(_,yo)=_
     rw[<-y2];unfold iQ
     rw[<-e5,<-e6,hs];rfl
    ·rw[Ue]at e8
     refine⟨⟨by show 0<=wrap .i64 (yi+1);rw[ew];omega,by show wrap .i64 (yi+1)<=_;rw[ew];omega,?_⟩,mu _⟩
     show iQ (pP steps-wrap .i64 (yi+1)).toNat _ _=_
     rw[ew,<-y2,e8]
     conv=>rhs;unfold iQ
     rw[<-e5,<-e6,hs]
     unfold Ei Fx
     rw[<-e7,hr];rfl
    ·rw[Ue]at e9
     refine⟨⟨by show 0<=wrap .i64 (yi+1);rw[ew];omega,by show wrap .i64 (yi+1)<=_;rw[ew];omega,?_⟩,mu _⟩
     show iQ (pP steps-wrap .i64 (yi+1)).toNat _ _=_
     rw[ew,<-y2,e9]
     conv=>rhs;unfold iQ
     rw[<-e5,<-e6,hs]
     unfold Ei Fx
     rw[<-e7,hr];rfl
  ·have hb:¬yi<x3:=oN hb
   rw[e3]at hb
   refine c6 ?_
   show(yr,yo)=_
   change iQ (pP steps-yi).toNat yr yo=_ at y2
   rw[<-y2,show(pP steps-yi).toNat=0 by omega];rfl
structure ey(P:Nat)(m:au):Prop where
 ok:nI P m
 may:nc m=true
section
variable {P:Nat} {m:au} (h:ey P m)
include h
theorem ey.v:sP m:=⟨h.ok.me,h.ok.mem.u,h.ok.kS,h.ok.sN,h.ok.target,h.ok.lU⟩
theorem ey.s:rj P m:=⟨h.ok.me,h.ok.mem,h.ok.kS,h.ok.sN,h.ok.target.1,h.ok.target.2⟩
theorem ey.CB:pS m=true:=(LX h.v).symm.trans h.may
theorem Uh{e:gx}(he:U e.N):ey P (lL m e).2/\(lL m e).2.A1=m.A1:=by
 have o:nI P (lL m e).2:=Tree.post _ (xN h.ok he)
 have a:=(Tree.pp (Zmx h.ok he)).2
 change(nc m=true->nc (L5 m e).1=true)/\(L5 m e).1.A1=m.A1/\_ at a
 have e1:OZ m e=((lL m e).2,(lL m e).1):=by
  simp only[OZ,Ud,Tree.m,dd,Hb,h.CB];rfl
 rw[Zac h.v e,e1]at a
 exact⟨⟨o,a.1 h.may⟩,a.2.1⟩
theorem Jp:mN m=false↔m.A6=false/\sQ m=false/\m.A1<1152921504606846976:=by
 simp only[mN,Jk,Tree.m,dd,h.CB]
 cases m.A6<;>cases sQ m<;>simp
theorem Jq(hs:mN m=false){clock:Int}(hc:U clock):ey P (fv m clock).2/\(fv m clock).2.A1=m.A1+1/\(fv m clock).1.length<=1:=by
 have o:=Tree.post _ (Z8w h.ok hc)
 change(fv m clock).1.length<=1/\nI P (fv m clock).2/\(fv m clock).2.A1=wrap .u64 (m.A1+1)at o
 have s:=(Tree.pp (vh h.s h.ok.lU hc)).2
 change _/\Good P m (AQ m clock).1 at s
 have e:AQ m clock=((fv m clock).2,(fv m clock).1):=by rw[Zeg h.v,Yg,hs];rfl
 rw[e]at s
 have Oe:=((Jp h).1 hs).2.2
 have h0:=h.ok.lU
 refine⟨⟨o.2.1,s.2.may h.may⟩,?_,o.1⟩
 rw[o.2.2,wrap_u64];omega
end
structure oy(P:Nat)(k:Int)(r:cy):Prop where
 m:ey P r.A0
 clock:U r.B3
 lU:r.A0.A1<=k
theorem Z4x{P:Nat}{k:Int}{r:cy}(h:oy P k r){e:gx}(he:U e.N):oy P k (nf r e)/\(nf r e).A0.A1=r.A0.A1:=by
 obtain⟨a,b⟩:=Uh h.m he
 have hc:=h.lU
 unfold nf
 cases(lL r.A0 e).1
 ·exact⟨⟨a,h.clock,by show(lL r.A0 e).2.A1<=k;omega⟩,b⟩
 ·exact⟨⟨a,h.clock,by show(lL r.A0 e).2.A1<=k;omega⟩,b⟩
theorem Z98{P:Nat}{k:Int}{r:cy}(h:oy P k r):oy P k (kM r)/\(kM r).A0.A1=r.A0.A1:=by
 unfold kM
 cases Jn r.A0.A9 r.B3
 ·exact⟨h,rfl⟩
 ·exact Z4x h ek
theorem Z8q{P:Nat}{k:Int}{r:cy}(h:oy P k r)(hs:mN r.A0=false):oy P (k+1) (Ei r):=by
 obtain⟨a,b,_⟩:=Jq h.m hs h.clock
 have hc:=h.lU
 exact⟨a,fg _,by show(fv r.A0 r.B3).2.A1<=k+1;omega⟩
theorem yl{P:Nat}(n:Nat):∀{k:Int} {r:cy} {o:List dx},oy P k r->oy P (k+n) (iQ n r o).1:=by
 induction n with
 |zero=>intro k r o h;exact⟨h.m,h.clock,by have:=h.lU;show r.A0.A1<=k+(0:Nat);omega⟩
 |succ n ih=>
  intro k r o h
  obtain⟨f,fc⟩:=Z98 h
  unfold iQ
  cases hs:mN (kM r).A0
  ·have t:=ih (o:=o++(fv (kM r).A0 (kM r).B3).1) (Z8q f hs)
   exact⟨t.m,t.clock,by have:=t.lU;show(iQ n _ _).1.A0.A1<=_;omega⟩
  ·exact⟨f.m,f.clock,by have:=f.lU;show(kM r).A0.A1<=_;omega⟩
theorem Z9h{P:Nat}{k:Int}(l:List gx):∀{r:cy},oy P k r->(∀q∈l,U q.N)->oy P k (l.foldl nf r)/\(l.foldl nf r).B0=r.B0:=by
 induction l with
 |nil=>intro r h _;exact⟨h,rfl⟩
 |cons e l ih=>
  intro r h hu
  obtain⟨a,b⟩:=ih (Z4x h (hu e (by simp))).1 (λq hq=>hu q (by simp[hq]))
  exact⟨a,b.trans (Yo r e)⟩
theorem Zq5(n:Nat):∀(r:cy) (o:List dx),(iQ n r o).1.B0=r.B0:=by
 induction n with
 |zero=>intro r o;rfl
 |succ n ih=>
  intro r o
  have f:(kM r).B0=r.B0:=by
   unfold kM;cases Jn r.A0.A9 r.B3
   ·rfl
   ·exact Yo _ _
  unfold iQ
  cases mN (kM r).A0
  ·exact(ih _ _).trans f
  ·exact f
def AR(l:List gx):Prop:=l.length<=16/\∀q∈l,U q.N
theorem Zi0{P:Nat}{k:Int}{r:cy}(h:oy P k r)(hq:AR r.B0)(steps:Int){clock:Int}(hc:U clock):oy P (k+4000) (lG r steps clock).1/\AR (lG r steps clock).1.B0:=by
 obtain⟨l0,l1⟩:=S9 steps
 unfold lG
 rw[h.m.CB]
 have gn:U (if clock>r.B3 then clock else r.B3):=by split<;>first|exact hc|exact h.clock
 obtain⟨a,b⟩:=Z9h r.B0 (r:={A0:=r.A0,B3:=if clock>r.B3 then clock else r.B3,C8:=r.C8,B0:=r.B0}) ⟨h.m,gn,h.lU⟩ hq.2
 have c:=yl (pP steps).toNat (o:=[]) (r:=Jo (r.B0.foldl nf {A0:=r.A0,B3:=if clock>r.B3 then clock else r.B3,C8:=r.C8,B0:=r.B0})) ⟨a.m,a.clock,a.lU⟩
 refine⟨⟨c.m,c.clock,?_⟩,?_⟩
 ·have:=c.lU
  show(iQ _ _ _).1.A0.A1<=_
  omega
 ·show AR (iQ _ _ _).1.B0
  rw[Zq5];exact⟨aT _,λq hq=>by cases hq⟩
theorem qm(n:Int):U (O3 n).N:=Tree.post _ (xB n)
theorem Yq(r:cy)(e:gx):Ej r e=bif !O4 e then(r,false)else bif e.B9==1 then(r,false)else bif decide ((r.B0.length:Int)>=16)then(r,false)else({A0:=r.A0,B3:=r.B3,C8:=r.C8,B0:=r.B0++[e]},true):=by
 simp only[Ej,Me,Tree.m,dd,Zm4]
theorem Z2q{P:Nat}{k:Int}{r:cy}(h:oy P k r)(hq:AR r.B0){e:gx}(he:U e.N):oy P k (Ej r e).1/\AR (Ej r e).1.B0:=by
 rw[Yq]
 cases O4 e
 ·exact⟨h,hq⟩
 ·cases e.B9==1
  ·cases hl:decide ((r.B0.length:Int)>=16)
   ·have hl:=oN hl
    refine⟨⟨h.m,h.clock,h.lU⟩,?_,λq hm=>?_⟩
    ·show(r.B0++[e]).length<=16
     rw[lA,cZ];omega
    ·have hm:q∈r.B0++[e]:=hm
     rcases List.mem_append.1 hm with hm|hm
     ·exact hq.2 q hm
     ·rw[List.mem_singleton.1 hm];exact he
   ·exact⟨h,hq⟩
  ·exact⟨h,hq⟩
theorem Yr{r:cy}{n:Int}(h:(dE (AS n 3) 3==0)=true):wP r n=((Ej r (O3 n)).1,[]):=by
 show Tree.V (Fg r n) (λx=>x=((Ej r (O3 n)).1,[]))
 unfold Fg
 refine dq λx0 e0=>c9 (λ_=>ft (dq λx1 e1=>ft (dq λx2 e2=>c6 ?_))) (λhb=>?_)
 ·rw[e2,e1]
 ·rw[e0,h]at hb;cases hb
theorem Ys{r:cy}{n:Int}(h:(dE (AS n 3) 3==0)=false):wP r n=Ug r (tM (bg .i64 (AS n 3) 4) 12) (wrap .u32 (bf .i64 (bg .i64 (AS n 3) 12) 255)):=by
 show Tree.V (Fg r n) (λx=>x=Ug r (tM (bg .i64 (AS n 3) 4) 12) (wrap .u32 (bf .i64 (bg .i64 (AS n 3) 12) 255)))
 unfold Fg
 refine dq λx0 e0=>c9 (λhb=>?_) (λ_=>ft (dq λx1 e1=>ft (dq λx2 e2=>c6 ?_)))
 ·rw[e0,h]at hb;cases hb
 ·rw[e2,e1,e0]
theorem xm{P:Nat}{k:Int}{A:cy×Bool}(h:oy P k A.1/\AR A.1.B0):oy P (k+4000) (A.1,([]:List dx)).1/\AR (A.1,([]:List dx)).1.B0:=
 ⟨⟨h.1.m,h.1.clock,by have:=h.1.lU;show A.1.A0.A1<=_;omega⟩,h.2⟩
theorem Zqo{P:Nat}{k:Int}{r:cy}(h:oy P k r)(hq:AR r.B0)(n:Int):oy P (k+4000) (wP r n).1/\AR (wP r n).1.B0:=by
 cases hm:dE (AS n 3) 3==0
 ·rw[Ys hm,Yp _ _ _ (by have:=hq.1;omega)]
  exact Zi0 h hq _ (fg _)
 ·rw[Yr hm]
  exact xm (Z2q h hq (qm n))
def tN(s:cy×List dx)(n:Int):cy×List dx:=((wP s.1 n).1,s.2++(wP s.1 n).2)
theorem xar(m:au)(l:List Int)(hl:l.length<=1000000):Yt m l=l.foldl tN (Mf m,[]):=by
 show Tree.V (IQ m l) (λx=>x=l.foldl tN (Mf m,[]))
 unfold IQ
 refine ft (dq λx0 e0=>?_)
 subst e0
 refine ry (inv:=λz:Int×cy×List dx=>0<=z.1/\z.1<=l.length/\(l.drop z.1.toNat).foldl tN z.2=l.foldl tN (Mf m,[])) (μ:=W8 m l) ⟨cW 0,by show(0:Int)<=_;omega,rfl⟩ (cO _) λz ⟨z0,z1,z2⟩=>?_
 obtain⟨i,r,o⟩:=z
 have z0:0<=i:=z0
 have z1:i<=l.length:=z1
 refine c9 (λhb=>jZ (ft (dq λx1 e1=>jZ (pz ?_)))) (λhb=>c6 ?_)
 ·have hb:i<l.length:=oY hb
  have ew:i64.wrap (i+1)=i+1:=by rw[wrap_i64];omega
  have cg:i.toNat<l.length:=by omega
  show(0<=i64.wrap (i+1)/\i64.wrap (i+1)<=l.length/\(l.drop (i64.wrap (i+1)).toNat).foldl tN (x1.1,o++x1.2)=_)/\(l.length-i64.wrap (i+1)).toNat<(l.length-i).toNat
  rw[ew]
  refine⟨⟨by omega,by omega,?_⟩,by omega⟩
  rw[<-z2]
  show _=(l.drop i.toNat).foldl tN (r,o)
  rw[aB cg,aD,show(i+1).toNat=i.toNat+1 by omega,e1]
  have ed:l.getD i.toNat 0=l[i.toNat]:=by rw[cP,cG cg];rfl
  rw[show tN (r,o) l[i.toNat]=((wP r l[i.toNat]).1,o++(wP r l[i.toNat]).2) from by unfold tN;rfl,<-ed]
 ·have hb:¬i<l.length:=oN hb
  show(r,o)=_
  rw[<-z2]
  show _=(l.drop i.toNat).foldl tN (r,o)
  rw[aA (by omega)];rfl
theorem zm(s:cy×List dx)(n:Int):tN s n=((wP s.1 n).1,s.2++(wP s.1 n).2):=by unfold tN;rfl
theorem ym{σ:Type}{f:σ->Int->σ}{I:Int->σ->Prop}(hf:∀k s n,I k s->I (k+4000) (f s n))(l:List Int):∀k s,I k s->I (k+4000*l.length) (l.foldl f s):=by
 induction l with
 |nil=>intro k s h;simpa using h
 |cons n l ih=>
  intro k s h
  have:=ih _ _ (hf k s n h)
  rw[aD,dI]
  rwa [show k+4000*((l.length+1:Nat):Int)=k+4000+4000*l.length by omega]
theorem qn(m:au):Mf m={A0:=m,B3:=0,C8:=[],B0:=[]}:=by
 simp only[Mf,K9,Tree.m,dd,Hb]
theorem Yu{i:List Int}(hu:∀w∈i,U w)(hl:i.length<=256):ey 8 (k9 8 4 i).1/\(k9 8 4 i).1.A1=0:=by
 obtain⟨a,b⟩:=(Tree.pp (sJ i hu hl)).2
 change nI 8 (k9 8 4 i).1 at a
 refine⟨⟨a,?_⟩,b⟩
 have e:(k9 8 4 i).2=true:=by
  have w:i64.wrap (8*32)=256:=by decide
  simp only[k9,DP,Tree.m,w,dd,dN (show¬((i.length:Int)>256) by omega)]
  rfl
 obtain⟨a1,a2,a3,a4,a5,a6⟩:=zaS 8 4 i e
 exact(xaS _ 8 4 a1 a2 a3 a4 a5 _ a6).1
theorem xn{m:au}(h:ey 8 m)(hc:m.A1<=87):Tree.V (Fb m [] 87) (λx=>x.2.2.2=0->ey 8 x.1/\x.1.A1<=87):=by
 have z:∀{k:Int} {p:Prop},k≠0->k=0->p:=λa b=>absurd b a
 unfold Fb
 refine dq λx0 _=>c9 (λ_=>c6 (z (by decide))) λ_=>c9 (λ_=>c6 (z (by decide))) λ_=>c9 (λ_=>c6 (z (by decide))) λ_=>ft (dq λx1 _=>c9 (λ_=>c6 (z (by decide))) λ_=>ft (dq λx2 hx=>?_))
 rw[Hb]at hx
 refine ry (inv:=λv:au×List dx=>ey 8 v.1/\v.1.A1<=87) (μ:=Te m [] 87) ⟨by rw[hx];exact h,by rw[hx];exact hc⟩ (cO _) λv0 ⟨a1,a3⟩=>?_
 have a2:=a1.ok.lU
 refine c9 (λhb=>c9 (λhm=>?_) (λ_=>c6 λ_=>⟨a1,a3⟩)) (λ_=>c6 λ_=>⟨a1,a3⟩)
 have hb:=oY hb
 have hm:=oY hm
 refine ry (inv:=λ_=>True) (μ:=Qb m [] 87 v0) trivial (cO _) λv1 _=>?_
 refine c9 (λ_=>c6 λ_=>⟨a1,a3⟩) λhh=>ft (dq λx3 h3=>c9 (λ_=>c6 λ_=>⟨a1,a3⟩) λhi=>ft (dq λx4 _=>c9 (λ_=>c6 (z (by decide))) λ_=>ft (dq λx5 h5=>jZ (pz ?_))))
 obtain⟨b1,b2,_⟩:=Jq a1 ((Jp a1).2 ⟨hh,h3.symm.trans hi,hm⟩) (clock:=0) ek
 rw[<-h5]at b1 b2
 show(ey 8 x5.2/\x5.2.A1<=87)/\(87-x5.2.A1).toNat<(87-v0.1.A1).toNat
 exact⟨⟨b1,by omega⟩,by omega⟩
theorem Qzq(kind:Int)(l:List Int)(hl:l.length*8<=reachBytes)(Yv:l.length<=60):ey 8 (Fy kind l)/\(Fy kind l).A1<=87:=by
 show Tree.V (Fe kind l) (λm=>ey 8 m/\m.A1<=87)
 have code:=(Tree.pp (S7 l hl)).2
 change((Mg l).length:Int)=l.length/\∀w∈Mg l,U w at code
 obtain⟨b1,b2⟩:=code
 unfold Fe
 refine ft (dq λx0 nJ=>c9 (λ_=>ft (dq λx1 e1=>?_)) (λhk=>?_))
 ·have eb:x1.1=lB:=by rw[e1];rfl
  obtain⟨q1,q2⟩:lB.length<=160/\∀w∈lB,U w:=Tf
  refine ry (inv:=λv:List Int=>v.length<=160/\v=lB++cQ (v.length-lB.length) 0) (μ:=Ti kind l) ⟨by rw[eb];exact q1,by rw[eb];simp⟩ (cO _) λv0 ⟨a1,a2⟩=>?_
  have a3:lB.length<=v0.length:=by rw[a2,lA];omega
  refine c9 (λhb=>?_) (λhb=>?_)
  ·have hb:=oY hb
   refine jZ (pz ?_)
   show(_/\_)/\(_:Nat)<_
   refine⟨⟨by rw[lA,cZ];omega,?_⟩,by show 160-(v0++[0]).length<160-v0.length;rw[lA,cZ];omega⟩
   show v0++[0]=lB++cQ ((v0++[0]).length-lB.length) 0
   rw[lA,cZ,show v0.length+1-lB.length=(v0.length-lB.length)+1 by omega,List.replicate_succ',<-fF,<-a2]
  ·have hb:=oN hb
   have hv:v0=DQ:=by
    unfold DQ
    rw[show(160:Nat)=v0.length by omega]
    exact a2
   subst hv
   have hp:=xak
   have hu0:∀w∈DQ,U w:=λw hw=>(List.mem_append.1 hw).elim (q2 w) (wE _ w)
   refine ft (dq λx2 e2=>jZ ?_)
   rw[<-e2]at b1 b2
   have hu:∀w∈DQ++x2,U w:=λw hw=>(List.mem_append.1 hw).elim (hu0 w) (b2 w)
   have hlen:(DQ++x2).length<=256:=by rw[lA];omega
   refine c9 (λhb=>?_) (λhb=>?_)
   ·have hb:=oY hb;omega
   ·obtain⟨c1,c2⟩:=Yu hu hlen
    refine ft (dq λx3 h3=>?_)
    rw[<-h3]at c1 c2
    have rn:=xn c1 (by omega)
    refine c9 (λ_=>ft (dq λx4 hx=>c6 ?_)) (λ_=>c6 ⟨c1,by omega⟩)
    have e:x3=k9 8 4 (DQ++(x2++cQ (96-x2.length) 0)):=by
     rw[h3]
     have Ui:(x2++cQ (96-x2.length) (0:Int)).length=96:=by rw[lA,cV];omega
     refine zak _ _ hlen (by rw[lA,Ui];omega) ?_
     rw[lA,lA,Ui,hp,fF,fF,fF,show 256-(160+96)=0 by omega,show 256-(160+x2.length)=96-x2.length by omega]
     simp
    have h0:x4.2.2.2=0:=by
     rw[hx,e]
     exact xaF _ (by rw[lA,cV];omega)
    exact(by rw[hx];exact rn:x4.2.2.2=0->ey 8 x4.1/\x4.1.A1<=87) h0
 ·have hk:=oN hk
  refine ft (dq λx2 e2=>jZ ?_)
  rw[<-e2]at b1 b2
  refine c9 (λhb=>?_) (λhb=>?_)
  ·have hb:=oY hb;omega
  ·obtain⟨c1,c2⟩:=Yu b2 (by omega)
   refine ft (dq λx3 h3=>?_)
   rw[<-h3]at c1 c2
   exact c9 (λh=>absurd (eq_of_beq h) (by omega)) (λ_=>c6 ⟨c1,by omega⟩)
theorem Zoa(w:Int):wrap .i64 (rm w).1.bn=(rm w).1.bn:=by
 show Tree.V (Q6 w) (λr=>wrap .i64 r.1.bn=r.1.bn)
 have e:∀x,wrap .i64 (wrap .i32 x)=wrap .i32 x:=λx=>by rw[wrap_i64,wrap_i32];omega
 unfold Q6
 refine dq λx0 _=>?_
 have l:∀i:gu,wrap .i64 i.bn=i.bn->Tree.V (Tree.lv (DX i) λx=>.br (!x) (.lf ((⟨0,0,0,0,0⟩:gu),false)) (.lf (i,true))) (λr=>wrap .i64 r.1.bn=r.1.bn):=λi hi=>dq λx hx=>c9 (λ_=>c6 rfl) (λhb=>c6 hi)
 exact c9 (λ_=>c6 rfl) (λ_=>c9 (λ_=>l _ rfl) (λ_=>c9 (λ_=>l _ (e _)) (λ_=>c9 (λ_=>l _ (e _)) (λ_=>l _ (e _)))))
def CC(e:kJ):Bool:=bif e.B9==1 then e.D0==2 else false
def uD(c:bh)(m:List Int):Bool:=
 bif bf .u32 c.B4.a0 1==0 then false else bif(kL m c.Pc 4).2 then bif(rm (kL m c.Pc 4).1).2 then bif(rm (kL m c.Pc 4).1).1.Op==60 then(rm (kL m c.Pc 4).1).1.bn==2 else false else false else false
theorem zn(m:au):oV m=uD (lV m) m.Mem:=rfl
theorem qaL(c:bh)(i:gu):CC (TL c i).2=(bif i.Op==60 then wrap .i64 i.bn==2 else false):=by
 show Tree.V (Jr c i) (λr=>CC r.2=_)
 have no:∀{k:Int},i.Op=k->k≠60->∀e:kJ,e.B9≠1->CC e=(bif i.Op==60 then wrap .i64 i.bn==2 else false):=λh g e he=>by
  unfold CC
  rw[h,show(_==(60:Int))=false from beq_false_of_ne g,show(e.B9==1)=false from beq_false_of_ne he];rfl
 have eq:∀{k:Int},(i.Op==k)=true->i.Op=k:=λh=>eq_of_beq h
 unfold Jr
 refine c9 (λh=>dq λ_ _=>c6 (no (eq h) (by decide) _ (show(0:Int)≠1 by decide))) λ_=>c9 (λh=>dq λ_ _=>c6 (no (eq h) (by decide) _ (show(0:Int)≠1 by decide))) λ_=>c9 (λh=>jZ (ft (dq λ_ _=>c6 (no (eq h) (by decide) _ (show(0:Int)≠1 by decide))))) λ_=>c9 (λh=>jZ (ft (dq λ_ _=>c6 (no (eq h) (by decide) _ (show(0:Int)≠1 by decide))))) λ_=>c9 (λh=>c6 ?_) λBt=>?_
 ·show(bif(1:Int)==1 then wrap .i64 i.bn==2 else false)=_
  rw[h];rfl
 ·have n60:i.Op≠60:=λe=>by rw[e]at Bt;cases Bt
  refine c9 (λh=>jZ (c6 (no (eq h) (by decide) _ (by show(2:Int)≠1;decide)))) λ_=>c9 (λh=>c6 (no (eq h) (by decide) _ (show(3:Int)≠1 by decide))) λ_=>c9 (λh=>c6 (no (eq h) (by decide) _ (show(5:Int)≠1 by decide))) λ_=>c9 (λh=>c6 (no (eq h) (by decide) _ (show(4:Int)≠1 by decide))) λ_=>c6 (no rfl n60 _ (show(0:Int)≠1 by decide))
theorem yn(c:bh)(m:List Int)(i:gu):CC (oU c m i).2.1=(bif i.Op==60 then wrap .i64 i.bn==2 else false):=by
 unfold oU
 cases h:decide (i.Op>=56)
 ·have h:=oN h
  rw[show(i.Op==60)=false from beq_false_of_ne (by omega)]
  cases decide (i.Op>=40)<;>cases decide (i.Op>=32)<;>cases i.Op==24<;>cases decide (i.Op<=13)<;>rfl
 ·exact qaL c i
theorem zN{P:Nat}{m:List Int}(h:ep P m){c:bh}(hc:iy c)(jQ:c.B4.a0<=31):CC (pR c m).2.1=uD c m:=by
 rw[G3]
 unfold uD
 cases hk:bf .u32 c.B4.a0 1==0
 ·have hp:TH c=false:=by
   rw[Z89 hc.a0.1 jQ,show GZ c=true from by show(bf .u32 c.B4.a0 1 !=0)=true;rw[bne,hk];rfl]
   rfl
  have wi:=Ly h hc.pc (size:=4) (.inr rfl)
  have kn:LC 1=true:=rfl
  have p0:=hc.pc.1
  have tm:dE c.Pc (wrap .u32 4)=c.Pc%4:=by
   rw[show wrap .u32 4=4 from rfl,Int.tmod_eq_emod_of_nonneg p0]
  have rc:lF c m c.Pc 4 1=bif c.Pc%4 !=0 then(0,3,m)else bif !rV m c.Pc 4 then(0,tK 1,m)else(c.Pc,0,m):=by
   simp only[lF,G0,Tree.m,dd,kn,hp,tm]
   rfl
  rw[rc]
  cases h4:(c.Pc%4 !=0)
  ·cases hw:rV m c.Pc 4
   ·have l2:(kL m c.Pc 4).2=false:=by
     simp only[kL,AM,Tree.m,dd,hw];rfl
    rw[l2]
    show CC (Ef c (0,tK 1,m) _ _).2.1=false
    unfold Ef
    rw[show((0,tK 1,m):Int×Int×List Int).2.1=tK 1 from rfl,show(tK 1 !=0)=true by decide]
    rfl
   ·have l2:(kL m c.Pc 4).2=true:=by
     simp only[kL,AM,Tree.m,dd,hw];rfl
    rw[l2]
    show CC (Ef c (c.Pc,0,m) (kL m c.Pc 4).1 (rm (kL m c.Pc 4).1)).2.1=_
    have im:=Zoa (kL m c.Pc 4).1
    generalize kL m c.Pc 4=x at*
    generalize rm x.1=d at*
    unfold Ef
    cases d.2
    ·rfl
    ·rw[hk]
     have:=yn c m d.1
     rw[im]at this
     cases GR d.1.Op<;>exact this
  ·have hw:rV m c.Pc 4=false:=by
    rw[wi]
    refine dN λe=>?_
    rw[e.1]at h4;cases h4
   have l2:(kL m c.Pc 4).2=false:=by
    simp only[kL,AM,Tree.m,dd,hw];rfl
   rw[l2];rfl
 ·have us :∀x w d,CC (Ef c x w d).2.1=false:=λx w d=>by
   unfold Ef
   cases x.2.1 !=0
   ·cases d.2
    ·rfl
    ·cases hp:GR d.1.Op
     ·have:=yn c x.2.2 d.1
      rw[show(d.1.Op==60)=false from beq_false_of_ne λe=>by rw[e]at hp;cases hp]at this
      exact this
     ·rw[hk];rfl
   ·rfl
  exact us _ _ _
theorem Zqh{m:au}(h:sP m):O5 m=Hc m:=by
 have rd:Hc m=bif mN m then false else oV m:=rfl
 have pd:O5 m=bif !AI m then false else CC (wJ (nu m).B1 (nu m).Mem).2.2:=rfl
 rw[rd,pd,T8 h]
 cases hs:mN m
 ·have hr:AI m=true:=by rw[T8 h,hs];rfl
  obtain⟨hm,hh,Oe⟩:=Tt hr
  obtain⟨g1,g2,g3,g4,g5⟩:=(GM m).1 hm
  rcases(OW m.Mem h.mem).2 with c|⟨P,hP,gy⟩
  ·exact absurd c g1
  have Yi:rj P m:=⟨h.me,gy,h.kS,h.sN,h.uA.1,h.uA.2⟩
  obtain⟨b1,b2,b3,_⟩:=(Tree.pp (Xk Yi g2)).2
  change mM (nu m).B1 at b1
  change rj P (nu m)at b2
  have be:=Z8y h g2.st
  have Ub:mM (lV m):=by have:=b1;rw[be]at this;exact this
  have L4:iy (lV m):=by have:=b2.me;rw[be]at this;exact this
  have ex:=Zer gy L4 Ub.st
  rw[be,zn,<-zN gy L4 Ub.st]
  show CC (wJ (lV m) m.Mem).2.2=_
  rw[ex];rfl
 ·rfl
theorem qas{m:au}(h:U m.A2.C2):Yw m:=by
 show(G9 m).p
 unfold Tree.p G9
 refine aa (λ_=>cz ?_ (ar λ_ _=>trivial)) (λ_=>trivial)
 show(G8 m).p
 unfold Tree.p G8
 exact bm (Zm1 h) λ_ _=>trivial
theorem Znx{P:Nat}{m:au}(h:rj P m):(O6 m).w (λ_=>True):=by
 unfold O6
 exact bm (Xn h.given) λ_ _=>aa (λ_=>trivial) (λ_=>bm (qU h) λx1 h1=>bm (qA h1.me h1.mem) λx2 _=>aa (λ_=>trivial) (λ_=>trivial))
section
variable {P:Nat} {m:au} (h:ey P m)
include h
theorem ey.len:m.Mem.length<=1024:=by have:=h.ok.mem.len;have:=h.ok.mem.p2;omega
theorem ey.app(e:gx):L5 m e=((lL m e).2,(lL m e).1):=by
 rw[Zac h.v]
 simp only[OZ,Ud,Tree.m,dd,Hb,h.CB];rfl
theorem ey.step(hs:mN m=false)(clock:Int):AQ m clock=((fv m clock).2,(fv m clock).1):=by
 rw[Zeg h.v,Yg,hs];rfl
theorem ey.idle:Ls m=sQ m:=Ze9 h.v
end
theorem Z9n(r:cy)(e:gx):(nf r e).C8.length<=r.C8.length+1:=by
 unfold nf
 cases(lL r.A0 e).1
 ·exact fG _
 ·show(r.C8++[_]).length<=_
  rw[lA,cZ];omega
theorem vn(r:cy):(kM r).C8.length<=r.C8.length+1:=by
 unfold kM
 cases Jn r.A0.A9 r.B3
 ·exact fG _
 ·exact Z9n _ _
theorem qo(r:cy):(Fx r).C8.length<=r.C8.length+1:=by
 unfold Fx
 cases Hc r.A0
 ·exact fG _
 ·show(r.C8++[_]).length<=_
  rw[lA,cZ];omega
theorem xo(r:cy):(Ei r).C8.length<=r.C8.length+1:=qo r
theorem zo{n:Nat}{r:cy}{o:List dx}(hs:mN (kM r).A0=true):iQ (n+1) r o=(kM r,o):=by
 conv=>lhs;unfold iQ
 rw[hs];rfl
theorem vo{n:Nat}{r:cy}{o:List dx}(hs:mN (kM r).A0=false):iQ (n+1) r o=iQ n (Ei (kM r)) (o++(fv (kM r).A0 (kM r).B3).1):=by
 conv=>lhs;unfold iQ
 rw[hs];rfl
theorem zas{r:cy}(h:pS r.A0=true)(steps clock:Int):lG r steps clock=iQ (pP steps).toNat (Jo (r.B0.foldl nf {A0:=r.A0,B3:=if clock>r.B3 then clock else r.B3,C8:=r.C8,B0:=r.B0})) []:=by
 unfold lG;rw[h];rfl
structure tO(P:Nat)(k:Int)(r:cy):Prop where
 g:oy P k r
 q:AR r.B0
 l:(r.C8.length:Int)<=3*k
theorem yN(n:Nat):∀(r:cy) (o:List dx),(iQ n r o).1.C8.length<=r.C8.length+2*n:=by
 induction n with
 |zero=>intro r o;exact aO _
 |succ n ih=>
  intro r o
  have f:=vn r
  cases hs:mN (kM r).A0
  ·rw[vo hs]
   have:=ih (Ei (kM r)) (o++(fv (kM r).A0 (kM r).B3).1)
   have:=xo (kM r)
   omega
  ·rw[zo hs]
   show(kM r).C8.length<=_
   omega
theorem qp(l:List gx):∀r:cy,(l.foldl nf r).C8.length<=r.C8.length+l.length:=by
 induction l with
 |nil=>intro r;exact aO _
 |cons e l ih=>
  intro r
  have:=ih (nf r e)
  have:=Z9n r e
  rw[aD,dI];omega
theorem vN(r:cy)(steps clock:Int):(lG r steps clock).1.C8.length<=r.C8.length+r.B0.length+8000:=by
 obtain⟨l0,l1⟩:=S9 steps
 cases hm:pS r.A0
 ·unfold lG;rw[hm]
  show r.C8.length<=_
  omega
 ·rw[zas hm]
  have a:=yN (pP steps).toNat (Jo (r.B0.foldl nf {A0:=r.A0,B3:=if clock>r.B3 then clock else r.B3,C8:=r.C8,B0:=r.B0})) []
  have b:=qp r.B0 {A0:=r.A0,B3:=if clock>r.B3 then clock else r.B3,C8:=r.C8,B0:=r.B0}
  have b:(Jo (r.B0.foldl nf {A0:=r.A0,B3:=if clock>r.B3 then clock else r.B3,C8:=r.C8,B0:=r.B0})).C8.length<=r.C8.length+r.B0.length:=b
  omega
theorem Yx{P:Nat}{k:Int}{r:cy}(h:tO P k r)(steps:Int){clock:Int}(hc:U clock):tO P (k+4000) (lG r steps clock).1:=by
 obtain⟨a,b⟩:=Zi0 h.g h.q steps hc
 have c:=vN r steps clock
 have d:=h.q.1
 have e:=h.l
 exact⟨a,b,by omega⟩
theorem Fz{P:Nat}{k:Int}{r:cy}(h:tO P k r){e:gx}(he:U e.N):tO P k (Ej r e).1:=by
 obtain⟨a,b⟩:=Z2q h.g h.q he
 refine⟨a,b,?_⟩
 have:=h.l
 rw[Yq]
 cases O4 e<;>cases e.B9==1<;>cases decide ((r.B0.length:Int)>=16)<;>exact this
theorem tO.more{P:Nat}{k j:Int}{r:cy}(h:tO P k r)(hj:k<=j):tO P j r:=
 ⟨⟨h.g.m,h.g.clock,by have:=h.g.lU;omega⟩,h.q,by have:=h.l;omega⟩
theorem zaL{P:Nat}{k:Int}{A:cy×Bool}(h:tO P k A.1):tO P (k+4000) (A.1,([]:List dx)).1:=h.more (by omega)
theorem Js{P:Nat}{k:Int}{r:cy}(h:tO P k r)(n:Int):tO P (k+4000) (wP r n).1:=by
 cases hm:dE (AS n 3) 3==0
 ·rw[Ys hm,Yp _ _ _ (by have:=h.q.1;omega)]
  exact Yx h _ (fg _)
 ·rw[Yr hm]
  exact zaL (Fz h (qm n))
theorem xaL{α β:Type}(a:α)(b:β):(a,b).1=a:=rfl
theorem Zgz(s:cy×List dx)(n:Int):(tN s n).1=(wP s.1 n).1:=(congrArg Prod.fst (zm s n)).trans (xaL _ _)
theorem O7{P:Nat}(l:List Int){k:Int}{s:cy×List dx}(h:tO P k s.1):tO P (k+4000*l.length) (l.foldl tN s).1:=
 ym (f:=tN) (I:=λk s=>tO P k s.1) (λk s n h=>by rw[Zgz];exact Js h n) l k s h
theorem Jt{P:Nat}{m:au}(h:ey P m)(hc:m.A1<=87):tO P 87 {A0:=m,B3:=0,C8:=[],B0:=[]}:=
 ⟨⟨h,ek,hc⟩,⟨aT _,λq hq=>by cases hq⟩,by show((0:Nat):Int)<=_;omega⟩
theorem xas{kind:Int}{l AT:List Int}(hl:l.length*8<=reachBytes)(Yv:l.length<=60)(h30:AT.length<=30){β:Type}{W:β->Prop}{k:au->cy×List dx->Tree β}
 (g:∀m x,m=Fy kind l->ey 8 m->m.A1<=87->x=AT.foldl tN ({A0:=m,B3:=0,C8:=[],B0:=[]},[])->tO 8 121000 x.1->(k m x).w W):
 (Tree.an (Yy kind l) (.lv (Fy kind l) λm=>.an (Qlo m AT) (.lv (Yt m AT) λx=>k m x))).w W:=by
 obtain⟨a,b⟩:=Qzq kind l hl Yv
 refine cz (Tree.pp (Zeo kind l hl)).1 (ar λm hm=>?_)
 rw[<-hm]at a b
 refine cz (Tree.pp (zaF a.ok AT h30)).1 (ar λx hx=>?_)
 rw[xar _ _ (by omega),qn]at hx
 refine g m x hm a b hx ?_
 have:=O7 AT (s:=({A0:=m,B3:=0,C8:=[],B0:=[]},[])) (Jt a b)
 rw[hx]
 exact this.more (by omega)
structure O8(m:au):Prop where
 dl:U m.A9.C4
 bl:U m.A7.ae
 st: -9223372036854775808<=m.A7.B7/\m.A7.B7<9223372036854775808
 cm: -9223372036854775808<=m.A7.D6/\m.A7.D6<9223372036854775808
 ct:0<=m.A1/\m.A1<18446744073709551616
theorem jG.rfl:∀{l:List D},jG l l
 |[]=>trivial
 |_::_=>⟨gz.rfl,jG.rfl⟩
theorem jG.append:∀{a b a' b':List D},jG a a'->jG b b'->jG (a++b) (a'++b')
 |[],_,[],_,_,h=>h
 |_::_,_,_::_,_,h,g=>⟨h.1,jG.append h.2 g⟩
 |[],_,_::_,_,h,_=>h.elim
 |_::_,_,[],_,h,_=>h.elim
def wQ(n:Nat):List Int:=if h:n<128 then[(n:Int)]else((n%128+128:Nat):Int)::wQ (n/128)
termination_by n
decreasing_by omega
theorem xp{n:Nat}(h:n<128):wQ n=[(n:Int)]:=by unfold wQ;rw[dif_pos h]
theorem vY{n:Nat}(h:¬n<128):wQ n=((n%128+128:Nat):Int)::wQ (n/128):=by
 conv=>lhs;unfold wQ
 rw[dif_neg h]
theorem Yz:∀(k n:Nat),n<128^(k+1)->(wQ n).length<=k+1
 |0,n,h=>by rw[xp (by simpa using h)];exact aO _
 |k +1,n,h=>by
  by_cases g:n<128
  ·rw[xp g];exact Nat.le_add_left _ _
  ·rw[vY g,dI]
   have:=Yz k (n/128) (by rw[Nat.pow_succ]at h;exact Nat.div_lt_of_lt_mul (by rw[Nat.mul_comm];exact h))
   omega
def wR(x:Int):List UInt8:=bytesOf (wQ x.toNat)
theorem Z93:∀s:List UInt8,bytesOf (jx s)=s
 |[]=>rfl
 |b::s=>by
  show UInt8.ofNat ((b.toNat:Int)).toNat::bytesOf (jx s)=_
  rw[Z93 s,eD,UInt8.ofNat_toNat]
theorem O9:∀n:Fin 256,ir .u8 (n.val:Int) 128=((n.val%128+128:Nat):Int):=by decide
theorem qO{x:Int}(h:0<=x):ir .u8 (wrap .u8 x) 128=((x.toNat%128+128:Nat):Int):=by
 have e:wrap .u8 x=((x.toNat%256:Nat):Int):=by rw[wrap_u8];omega
 rw[e]
 have:=O9 ⟨x.toNat%256,Nat.mod_lt _ (by decide)⟩
 rw[this]
 show((x.toNat%256%128+128:Nat):Int)=_
 omega
theorem YA{x:Int}(h:0<=x):bg .u64 x 7=((x.toNat/128:Nat):Int):=by
 have:bg .u64 x 7=x.fdiv 128:=rfl
 rw[this,Int.fdiv_eq_ediv_of_nonneg _ (by decide)];omega
theorem qaM{x:Int}(h0:0<=x)(h1:x<18446744073709551616):(Pa x).w (λs=>s=wR x):=by
 have hl:=Yz 9 x.toNat (by rw[show(128:Nat)^(9+1)=1180591620717411303424 by decide];omega)
 unfold Pa
 refine ga (inv:=λv:Int×List Int=>0<=v.1/\v.2++wQ v.1.toNat=wQ x.toNat) (μ:=Qf2 x) ⟨h0,rfl⟩ (cO _) λv ⟨a,b⟩=>?_
 obtain⟨y,o⟩:=v
 have a:0<=y:=a
 have b:o++wQ y.toNat=wQ x.toNat:=b
 have bl:=congrArg dK b
 rw[lA]at bl
 refine aa (λhb=>?_) (λhb=>?_)
 ·have hb:y>=128:=oY hb
  have g:¬y.toNat<128:=by omega
  rw[vY g]at b bl
  rw[dI]at bl
  refine ba (dY (by show 1*(o.length+1)<=_;omega)) (fh ?_)
  show(0<=bg .u64 y 7/\(o++[ir .u8 (wrap .u8 y) 128])++wQ (bg .u64 y 7).toNat=wQ x.toNat)/\(bg .u64 y 7).toNat<y.toNat
  rw[YA a,qO a,eD]
  refine⟨⟨by omega,?_⟩,by omega⟩
  rw[fF];exact b
 ·have hb:¬y>=128:=oN hb
  have g:y.toNat<128:=by omega
  rw[xp g]at b bl
  refine ba (dY (by show 1*(o.length+1)<=_;rw[cZ]at bl;omega)) ?_
  show bytesOf (o++[wrap .u8 y])=wR x
  unfold wR
  rw[<-b,show wrap .u8 y=((y.toNat:Nat):Int) by rw[wrap_u8];omega]
theorem YC{x:Int}(h1:x<18446744073709551616):(wR x).length<=10:=by
 unfold wR bytesOf
 rw[fH]
 exact Yz 9 x.toNat (by rw[show(128:Nat)^(9+1)=1180591620717411303424 by decide];omega)
def mw(l:List Int):List UInt8:=l.flatMap wR
theorem Hd:∀{l:List Int},(∀x∈l,x<18446744073709551616)->(mw l).length<=10*l.length
 |[],_=>aO _
 |x::l,h=>by
  have a:=YC (h x (by simp))
  have b:=Hd (l:=l) λy hy=>h y (by simp[hy])
  show(wR x++mw l).length<=_
  rw[lA,dI];omega
theorem Pb(x:Int)(l:List Int):mw (x::l)=wR x++mw l:=rfl
theorem qat(l m:List Int):mw (l++m)=mw l++mw m:=List.flatMap_append
theorem Zna{b:List Int}{s:List UInt8}(h:b.length+s.length<=1000000):(Pd b s).w (λx=>x.2.2=b++jx s):=by
 unfold Pd
 refine ar λx0 e0=>?_
 have e0:x0=b:=e0
 subst e0
 refine ba (dY ?_) rfl
 have:(jx s).length=s.length:=fH ..
 omega
theorem my(s:List UInt8):(jx s).length=s.length:=fH ..
theorem Uj(s t:List UInt8):jx (s++t)=jx s++jx t:=bL
theorem Zmz{l:List Int}{i:Nat}(h:i<l.length):l.getD i 0=l[i]:=by rw[cP,cG h];rfl
theorem Ju{c l:List Int}(hl:∀x∈l,0<=x/\x<18446744073709551616)(hc:c.length+10*l.length<=1000000):(Pe c l).w (λx=>x=c++jx (mw l)):=by
 unfold Pe
 refine ga (inv:=λv:Int×List Int=>0<=v.1/\v.1<=l.length/\v.2++jx (mw (l.drop v.1.toNat))=c++jx (mw l)) (μ:=Q9b c l) ⟨cW 0,by show(0:Int)<=_;omega,rfl⟩ (cO _) λv ⟨a1,a2,a3⟩=>?_
 obtain⟨i,o⟩:=v
 have a1:0<=i:=a1
 have a2:i<=l.length:=a2
 have a3:o++jx (mw (l.drop i.toNat))=c++jx (mw l):=a3
 refine aa (λhb=>?_) (λhb=>?_)
 ·have hb:i<l.length:=oY hb
  have cg:i.toNat<l.length:=by omega
  have ew:i64.wrap (i+1)=i+1:=by rw[wrap_i64];omega
  have ed:=Zmz cg
  have hm:=hl _ (fI cg)
  rw[aB cg,Pb,Uj,<-ed]at a3
  rw[<-ed]at hm
  have len:=congrArg dK a3
  rw[lA,lA,lA,my,my,my]at len
  have ul:=Hd λy hy=>(hl y hy).2
  refine ba (by simp[bJ];omega) (bm (qaM hm.1 hm.2) λx0 e0=>?_)
  rw[e0]
  refine bm (Zna (b:=o) (s:=wR (l.getD i.toNat 0)) (by omega)) λx1 e1=>fh ?_
  show(0<=i64.wrap (i+1)/\i64.wrap (i+1)<=l.length/\x1.2.2++jx (mw (l.drop (i64.wrap (i+1)).toNat))=c++jx (mw l))/\(l.length-i64.wrap (i+1)).toNat<(l.length-i).toNat
  rw[ew,e1,show(i+1).toNat=i.toNat+1 by omega,fF]
  exact⟨⟨by omega,by omega,a3⟩,by omega⟩
 ·have hb:¬i<l.length:=oN hb
  rw[aA (by omega)]at a3
  show o=_
  rw[<-a3];exact(cJ o).symm
theorem He{x:Int}(h:U x):wrap .u64 x=x:=by have:=h.1;have:=h.2;rw[wrap_u64];omega
theorem CD{c l:List Int}(hl:∀x∈l,U x)(hc:c.length+10*l.length<=900000):(Pf c l).w (λx=>x=c++jx (mw l)):=by
 unfold Pf
 refine ga (inv:=λv:Int×List Int=>0<=v.1/\v.1<=l.length/\v.2++jx (mw (l.drop v.1.toNat))=c++jx (mw l)) (μ:=Qan c l) ⟨cW 0,by show(0:Int)<=_;omega,rfl⟩ (cO _) λv ⟨a1,a2,a3⟩=>?_
 obtain⟨i,o⟩:=v
 have a1:0<=i:=a1
 have a2:i<=l.length:=a2
 have a3:o++jx (mw (l.drop i.toNat))=c++jx (mw l):=a3
 refine aa (λhb=>?_) (λhb=>?_)
 ·have hb:i<l.length:=oY hb
  have cg:i.toNat<l.length:=by omega
  have ew:i64.wrap (i+1)=i+1:=by rw[wrap_i64];omega
  have ed:=Zmz cg
  have hm:=hl _ (fI cg)
  rw[aB cg,Pb,Uj,<-ed]at a3
  rw[<-ed]at hm
  have len:=congrArg dK a3
  rw[lA,lA,lA,my,my,my]at len
  have ul:=Hd (l:=l) λy hy=>by have:=(hl y hy).2;omega
  have h2:=hm.2
  refine ba (by simp[bJ];omega) (bm (Ju (c:=o) (λx hx=>by rw[List.mem_singleton.1 hx,He hm];exact⟨hm.1,by omega⟩) (by show o.length+10*1<=_;omega)) λx0 e0=>fh ?_)
  have e0:x0=o++jx (wR (l.getD i.toNat 0)):=by
   rw[e0,He hm,Pb]
   show o++jx (wR _++[])=_
   rw[cJ]
  show(0<=i64.wrap (i+1)/\i64.wrap (i+1)<=l.length/\x0++jx (mw (l.drop (i64.wrap (i+1)).toNat))=c++jx (mw l))/\(l.length-i64.wrap (i+1)).toNat<(l.length-i).toNat
  rw[ew,e0,show(i+1).toNat=i.toNat+1 by omega,fF]
  exact⟨⟨by omega,by omega,a3⟩,by omega⟩
 ·have hb:¬i<l.length:=oN hb
  rw[aA (by omega)]at a3
  show o=_
  rw[<-a3];exact(cJ o).symm
def FA(b:Bool):Int:=bif b then 1 else 0
theorem Mh{c:List Int}(b:Bool)(hc:c.length<=999000):(Pg c b).w (λx=>x=c++jx (mw [FA b])):=by
 unfold Pg
 cases b
 ·exact aa (λh=>by cases h) λ_=>bm (Ju (c:=c) (l:=[0]) (λx hx=>by rw[List.mem_singleton.1 hx];decide) (by show c.length+10*1<=_;omega)) λx e=>e
 ·exact aa (λ_=>bm (Ju (c:=c) (l:=[1]) (λx hx=>by rw[List.mem_singleton.1 hx];decide) (by show c.length+10*1<=_;omega)) λx e=>e) λh=>by cases h
def Mi(s:List UInt8):List UInt8:=wR s.length++s
theorem Zno{c:List Int}{s:List UInt8}(hc:c.length+s.length<=900000):(Q4 c s).w (λx=>x=c++jx (Mi s)):=by
 have ew:wrap .u64 ((s.length:Nat):Int)=s.length:=by rw[wrap_u64];omega
 have hu:=YC (x:=(s.length:Int)) (by omega)
 unfold Q4
 refine bm (Ju (c:=c) (λx hx=>by rw[List.mem_singleton.1 hx,ew];omega) (by show c.length+10*1<=_;omega)) λx0 e0=>?_
 rw[ew]at e0
 have e0:x0=c++jx (wR s.length):=by
  rw[e0,Pb]
  show c++jx (wR _++[])=_
  rw[cJ]
 refine bm (Zna (by rw[e0,lA,my];omega)) λx1 e1=>?_
 show x1.2.2=_
 rw[e1,e0]
 unfold Mi
 rw[Uj,fF]
def Ph(m:au):List Int:=iU.l m.B1.X++(m.B1.Pc::A8.l m.B1.B4)++[(m.Mem.length:Int)]
def Pj(m:au):List Int:=[FA m.A9.D3,m.A9.C4,FA m.A9.D2,m.A7.ae,m.A7.C1,m.A7.Frame,wrap .u64 m.A7.B7,wrap .u64 m.A7.D6,m.A7.B6,m.A7.B2]
def Pk(m:au):List Int:=[m.C3.Frame,m.C3.E0,FA m.C3.C5,m.C3.C0,FA m.C3.B5,m.C3.F1,m.A2.C7,m.A2.C2,m.A1,FA m.A4,FA m.A6]
def sR(m:au):List UInt8:=mw (Ph m)++(mw m.Mem++(Mi m.A3.D1++(mw (Pj m)++(Mi m.A7.B8++mw (Pk m)))))
theorem Zly{m:au}(hv:sP m)(hr:O8 m)(hm:m.Mem.length<=1100)(hk:m.A3.D1.length<=100000)(ho:m.A7.B8.length<=100000):(Pl m).w (λs=>s=sR m/\s.length<=400000):=by
 obtain⟨c1,c2,c3⟩:=hv.me
 obtain⟨d1,d2,d3,d4⟩:=hv.kS
 obtain⟨n1,n2,n3,n4⟩:=hv.sN
 obtain⟨b1,b2⟩:=hv.uA
 obtain⟨r1,r2,r3,r4,r5⟩:=hr
 have one:∀{x:Int},U x->∀y∈[x],U y:=λh y hy=>by rw[List.mem_singleton.1 hy];exact h
 have kl:∀{s:List UInt8},s.length<=100000->(Mi s).length<=10+s.length:=fun{s} h=>by
  have:=YC (x:=(s.length:Int)) (by omega)
  unfold Mi;rw[lA];omega
 have k1:=kl hk
 have k2:=kl ho
 have ws:∀{l:List Int},(∀x∈l,U x)->(mw l).length<=10*l.length:=λh=>Hd λy hy=>by have:=(h y hy).2;omega
 have W:∀{x:Int},0<=wrap .u64 x/\wrap .u64 x<18446744073709551616:=fun{x}=>by rw[wrap_u64];omega
 have fl:∀b:Bool,(mw [FA b]).length<=10:=λb=>Hd (l:=[FA b]) λy hy=>by rw[List.mem_singleton.1 hy];cases b<;>decide
 have ml:=ws hv.mem
 have eL:wrap .u64 ((m.Mem.length:Nat):Int)=m.Mem.length:=by rw[wrap_u64];omega
 have U3:∀x∈[m.A7.ae,m.A7.C1,m.A7.Frame],U x:=λx hx=>by
  simp only[cS,cU,or_false]at hx
  rcases hx with rfl|rfl|rfl<;>assumption
 have U2:∀{a b:Int},U a->U b->∀x∈[a,b],U x:=λha hb x hx=>by
  simp only[cS,cU,or_false]at hx
  rcases hx with rfl|rfl<;>assumption
 have S2:∀x∈[wrap .u64 m.A7.B7,wrap .u64 m.A7.D6],0<=x/\x<18446744073709551616:=λx hx=>by
  simp only[cS,cU,or_false]at hx
  rcases hx with rfl|rfl<;>exact W
 have sl:=Hd (l:=[wrap .u64 m.A7.B7,wrap .u64 m.A7.D6]) λx hx=>(S2 x hx).2
 have L16:=ws (l:=iU.l m.B1.X) c1
 have L8:=ws (l:=A8.l m.B1.B4) c3
 have l16:(iU.l m.B1.X).length=16:=rfl
 have l8:(A8.l m.B1.B4).length=8:=rfl
 have p1:=ws (one c2)
 have e1:=Hd (l:=[(m.Mem.length:Int)]) λx hx=>by rw[List.mem_singleton.1 hx];omega
 have q1:=ws (one r1)
 have q2:=ws U3
 have q3:=ws (U2 d3 d4)
 have q4:=ws (U2 n1 n2)
 have q5:=ws (one n3)
 have q6:=ws (one n4)
 have q7:=ws (U2 b1 b2)
 have q8:=Hd (l:=[m.A1]) λx hx=>by rw[List.mem_singleton.1 hx];exact r5.2
 have f1:=fl m.A9.D3
 have f2:=fl m.A9.D2
 have f3:=fl m.C3.C5
 have f4:=fl m.C3.B5
 have f5:=fl m.A4
 have f6:=fl m.A6
 simp only[dI,List.length_nil]at sl p1 e1 q1 q2 q3 q4 q5 q6 q7 q8
 unfold Pl
 refine bm (CD (c:=[]) (l:=iU.l m.B1.X) c1 (by rw[l16];decide)) λx0 g0=>?_
 have z0:x0.length<=160:=by rw[g0,lA,my];show 0+_<=_;omega
 refine bm (CD (one c2) (by show x0.length+10*1<=_;omega)) λx1 g1=>?_
 have z1:x1.length<=170:=by rw[g1,lA,my];omega
 refine bm (CD (l:=A8.l m.B1.B4) c3 (by rw[l8];omega)) λx2 g2=>?_
 have z2:x2.length<=250:=by rw[g2,lA,my];omega
 rw[eL]
 refine bm (Ju (l:=[(m.Mem.length:Int)]) (λx hx=>by rw[List.mem_singleton.1 hx];omega) (by show x2.length+10*1<=_;omega)) λx3 g3=>?_
 have z3:x3.length<=260:=by rw[g3,lA,my];omega
 refine bm (CD hv.mem (by omega)) λx4 g4=>?_
 have z4:x4.length<=11500:=by rw[g4,lA,my];omega
 refine bm (Zno (s:=m.A3.D1) (by omega)) λx5 g5=>?_
 have z5:x5.length<=111510:=by rw[g5,lA,my];omega
 refine bm (Mh m.A9.D3 (by omega)) λx6 g6=>?_
 have z6:x6.length<=111520:=by rw[g6,lA,my];omega
 refine bm (CD (one r1) (by show x6.length+10*1<=_;omega)) λx7 g7=>?_
 have z7:x7.length<=111530:=by rw[g7,lA,my];omega
 refine bm (Mh m.A9.D2 (by omega)) λx8 g8=>?_
 have z8:x8.length<=111540:=by rw[g8,lA,my];omega
 refine bm (CD U3 (by show x8.length+10*3<=_;omega)) λx9 g9=>?_
 have z9:x9.length<=111570:=by rw[g9,lA,my];omega
 refine bm (Ju S2 (by show x9.length+10*2<=_;omega)) λkI g10=>?_
 have z10:kI.length<=111590:=by rw[g10,lA,my];omega
 refine bm (CD (U2 d3 d4) (by show kI.length+10*2<=_;omega)) λmz g11=>?_
 have z11:mz.length<=111610:=by rw[g11,lA,my];omega
 refine bm (Zno (s:=m.A7.B8) (by omega)) λlH g12=>?_
 have z12:lH.length<=211620:=by rw[g12,lA,my];omega
 refine bm (CD (U2 n1 n2) (by show lH.length+10*2<=_;omega)) λlW g13=>?_
 have z13:lW.length<=211640:=by rw[g13,lA,my];omega
 refine bm (Mh m.C3.C5 (by omega)) λuE g14=>?_
 have z14:uE.length<=211650:=by rw[g14,lA,my];omega
 refine bm (CD (one n3) (by show uE.length+10*1<=_;omega)) λJv g15=>?_
 have z15:Jv.length<=211660:=by rw[g15,lA,my];omega
 refine bm (Mh m.C3.B5 (by omega)) λuF g16=>?_
 have z16:uF.length<=211670:=by rw[g16,lA,my];omega
 refine bm (CD (one n4) (by show uF.length+10*1<=_;omega)) λHf g17=>?_
 have z17:Hf.length<=211680:=by rw[g17,lA,my];omega
 refine bm (CD (U2 b1 b2) (by show Hf.length+10*2<=_;omega)) λHg g18=>?_
 have z18:Hg.length<=211700:=by rw[g18,lA,my];omega
 refine bm (Ju (l:=[m.A1]) (λx hx=>by rw[List.mem_singleton.1 hx];exact r5) (by show Hg.length+10*1<=_;omega)) λUk g19=>?_
 have z19:Uk.length<=211710:=by rw[g19,lA,my];omega
 refine bm (Mh m.A4 (by omega)) λUl g20=>?_
 have z20:Ul.length<=211720:=by rw[g20,lA,my];omega
 refine bm (Mh m.A6 (by omega)) λFB g21=>?_
 have z21:FB.length<=211730:=by rw[g21,lA,my];omega
 refine ar λFC e=>?_
 have e:FC.1=bytesOf FB:=congrArg Prod.fst e
 show FC.1=sR m/\FC.1.length<=400000
 rw[e]
 refine⟨?_,by show(FB.map _).length<=_;rw[fH];omega⟩
 rw[g21,g20,g19,g18,g17,g16,g15,g14,g13,g12,g11,g10,g9,g8,g7,g6,g5,g4,g3,g2,g1,g0]
 simp only[fJ,<-Uj,Z93]
 unfold sR Ph Pj Pk
 simp only[qat,Pb,fF,fJ,show mw []=[] from rfl,cJ]
structure kD(m:au):Prop where
 dl:U m.A9.C4
 bl:U m.A7.ae
theorem Zpy(d:fp)(m:List Int)(port v dh:Int):(OR d m port v dh).1.ae=d.ae:=by
 show Tree.V (G5 d m port v dh) (λr=>r.1.ae=d.ae)
 unfold G5
 repeat'(first
  |exact c6 rfl
  |exact dq λ_ _=>c6 rfl
  |refine c9 (λ_=>?_) (λ_=>?_)
  |refine ft ?_
  |refine dq λ_ _=>?_)
theorem zp(d:fp)(m:List Int)(e:gx):(Jg d m e).1.ae=d.ae:=by
 show Tree.V (G6 d m e) (λr=>r.1.ae=d.ae)
 unfold G6
 repeat'(first
  |exact c6 rfl
  |refine c9 (λ_=>?_) (λ_=>?_)
  |refine ft ?_
  |refine dq λ_ _=>?_)
theorem zat(t:iW):(Uc t).1.C4=t.C4:=by
 show Tree.V (Um t) (λr=>r.1.C4=t.C4)
 unfold Um
 exact c9 (λ_=>c6 rfl) λ_=>c6 rfl
theorem zaM{v:Int}(hv:U v):U (OO v).C4:=by
 show Tree.V (OP v) (λr=>U r.C4)
 unfold OP
 exact c9 (λ_=>c6 ek) λ_=>c6 hv
theorem Pm{m:au}(h:kD m)(port clock:Int):kD (wN m port clock).2:=by
 show Tree.V (Gy m port clock) (λr=>kD r.2)
 unfold Gy
 repeat'(first
  |exact c6 h
  |exact c6 ⟨h.dl,h.bl⟩
  |refine c9 (λ_=>?_) (λ_=>?_)
  |refine dq λ_ _=>?_)
theorem xaM{m:au}(h:kD m)(port:Int){v:Int}(hv:U v):kD (AP m port v).2:=by
 show Tree.V (EZ m port v) (λr=>kD r.2)
 unfold EZ
 refine c9 (λ_=>c6 h) λ_=>c9 (λ_=>c6 h) λ_=>c9 (λ_=>dq λx ex=>c6 ⟨by rw[ex];exact zaM hv,h.bl⟩) λ_=>c9 (λ_=>ft (dq λx ex=>c6 ⟨h.dl,by show U x.1.ae;rw[ex,Zpy];exact h.bl⟩)) λ_=>c9 (λ_=>ft (dq λx ex=>c6 ⟨h.dl,h.bl⟩)) λ_=>ft (dq λx ex=>c6 ⟨h.dl,h.bl⟩)
theorem qZ{P:Nat}{m:au}(g:ey P m)(h:kD m)(clock:Int):kD (fv m clock).2:=by
 have ic:iy (lV m):=(Tree.pp (Tc g.ok.me)).2
 have dv:U (pR (lV m) m.Mem).2.1.Value:=(Tree.pp (Fa ic g.ok.mem)).2.2.1
 rw[yY]
 generalize pR (lV m) m.Mem=D at*
 have w:kD (Cz m D.1 D.2.2):=⟨h.dl,h.bl⟩
 have i:=Pm w D.2.1.D0 clock
 have o:=xaM w D.2.1.D0 dv
 unfold CA
 cases D.2.1.B9==1
 ·cases D.2.1.B9==2
  ·cases D.2.1.B9==3
   ·cases D.2.1.B9==4
    ·exact⟨h.dl,h.bl⟩
    ·exact⟨h.dl,h.bl⟩
   ·exact⟨h.dl,h.bl⟩
  ·exact⟨o.dl,o.bl⟩
 ·exact⟨i.dl,i.bl⟩
theorem qaN{m:au}(h:kD m)(e:gx):kD (lL m e).2:=by
 show Tree.V (Fw m e) (λr=>kD r.2)
 unfold Fw
 repeat'(first
  |exact c6 h
  |exact c6 ⟨h.dl,h.bl⟩
  |exact dq λx ex=>c6 ⟨by rw[ex,zat];exact h.dl,h.bl⟩
  |exact ft (dq λx ex=>c6 ⟨h.dl,by show U x.1.ae;rw[ex,zp];exact h.bl⟩)
  |exact ft (dq λx ex=>c6 ⟨h.dl,h.bl⟩)
  |refine c9 (λ_=>?_) (λ_=>?_))
theorem zaN(i:List Int):kD (k9 8 4 i).1:=by
 show Tree.V (DP 8 4 i) (λx=>kD x.1)
 unfold DP
 repeat'(first
  |exact c6 ⟨ek,ek⟩
  |exact c6 ⟨ek,fg _⟩
  |refine c9 (λ_=>?_) (λ_=>?_)
  |refine ft ?_
  |refine dq λ_ _=>?_)
theorem xat{m:au}(h:ey 8 m)(d:kD m):Tree.V (Fb m [] 87) (λx=>kD x.1):=by
 have z:∀{x:au},x.A9.C4=0->x.A7.ae=0->kD x:=λa b=>⟨a▸ek,b▸ek⟩
 unfold Fb
 refine dq λx0 _=>c9 (λ_=>c6 (z rfl rfl)) λ_=>c9 (λ_=>c6 (z rfl rfl)) λ_=>c9 (λ_=>c6 (z rfl rfl)) λ_=>ft (dq λx1 _=>c9 (λ_=>c6 (z rfl rfl)) λ_=>ft (dq λx2 hx=>?_))
 rw[Hb]at hx
 refine ry (inv:=λv:au×List dx=>ey 8 v.1/\kD v.1) (μ:=Te m [] 87) ⟨by rw[hx];exact h,by rw[hx];exact d⟩ (cO _) λv0 ⟨a1,a3⟩=>?_
 have a2:=a1.ok.lU
 refine c9 (λhb=>c9 (λhm=>?_) (λ_=>c6 a3)) (λ_=>c6 a3)
 have hb:=oY hb
 have hm:=oY hm
 refine ry (inv:=λ_=>True) (μ:=Qb m [] 87 v0) trivial (cO _) λv1 _=>?_
 refine c9 (λ_=>c6 a3) λhh=>ft (dq λx3 h3=>c9 (λ_=>c6 a3) λhi=>ft (dq λx4 _=>c9 (λ_=>c6 (z rfl rfl)) λ_=>ft (dq λx5 h5=>jZ (pz ?_))))
 obtain⟨b1,b2,_⟩:=Jq a1 ((Jp a1).2 ⟨hh,h3.symm.trans hi,hm⟩) (clock:=0) ek
 have b3:=qZ a1 a3 0
 rw[<-h5]at b1 b2 b3
 show(ey 8 x5.2/\kD x5.2)/\(87-x5.2.A1).toNat<(87-v0.1.A1).toNat
 exact⟨⟨b1,b3⟩,by omega⟩
theorem Z9l(kind:Int)(l:List Int)(hl:l.length*8<=reachBytes)(Yv:l.length<=60):kD (Fy kind l):=by
 show Tree.V (Fe kind l) kD
 have code:=(Tree.pp (S7 l hl)).2
 change((Mg l).length:Int)=l.length/\∀w∈Mg l,U w at code
 obtain⟨b1,b2⟩:=code
 unfold Fe
 have fin:∀{x3:au×Bool} {i:List Int},x3=k9 8 4 i->(∀w∈i,U w)->i.length<=256->kD x3.1/\kD (IS x3.1 [] 87).1:=fun{x3 i} e hu hlen=>by
  obtain⟨c1,_⟩:=Yu hu hlen
  have d:=zaN i
  rw[<-e]at c1 d
  exact⟨d,xat c1 d⟩
 refine ft (dq λx0 nJ=>c9 (λ_=>ft (dq λx1 e1=>?_)) (λhk=>?_))
 ·have eb:x1.1=lB:=by rw[e1];rfl
  obtain⟨q1,q2⟩:lB.length<=160/\∀w∈lB,U w:=Tf
  refine ry (inv:=λv:List Int=>v.length<=160/\∀w∈v,U w) (μ:=Ti kind l) ⟨by rw[eb];exact q1,by rw[eb];exact q2⟩ (cO _) λv0 ⟨a1,a2⟩=>?_
  refine c9 (λhb=>?_) (λhb=>?_)
  ·have hb:=oY hb
   refine jZ (pz ?_)
   show(_/\_)/\(_:Nat)<_
   refine⟨⟨by rw[lA,cZ];omega,λw hw=>?_⟩,by show 160-(v0++[0]).length<160-v0.length;rw[lA,cZ];omega⟩
   rcases List.mem_append.1 hw with hw|hw
   ·exact a2 w hw
   ·rw[List.mem_singleton.1 hw];exact ek
  ·refine ft (dq λx2 e2=>jZ ?_)
   rw[<-e2]at b1 b2
   have hu:∀w∈v0++x2,U w:=λw hw=>(List.mem_append.1 hw).elim (a2 w) (b2 w)
   have hlen:(v0++x2).length<=256:=by rw[lA];omega
   refine c9 (λhb=>?_) (λhb=>ft (dq λx3 h3=>c9 (λ_=>ft (dq λx4 h4=>c6 (by rw[h4];exact(fin h3 hu hlen).2))) λ_=>c6 (fin h3 hu hlen).1))
   have hb:=oY hb;omega
 ·refine ft (dq λx2 e2=>jZ ?_)
  rw[<-e2]at b1 b2
  refine c9 (λhb=>?_) (λhb=>ft (dq λx3 h3=>c9 (λ_=>ft (dq λx4 h4=>c6 (by rw[h4];exact(fin h3 b2 (by omega)).2))) λ_=>c6 (fin h3 b2 (by omega)).1))
  have hb:=oY hb;omega
theorem Zpv(d:fp)(c7:Int):kd d c7=true->(0<=d.B7/\d.B7<=3)/\(0<=d.D6/\d.D6<=2)/\d.B8.length<=128:=by
 show Tree.V (wG d c7) (λb=>b=true->(0<=d.B7/\d.B7<=3)/\(0<=d.D6/\d.D6<=2)/\d.B8.length<=128)
 have no:∀{p:Prop},(false=true->p):=λh=>by cases h
 have zero:∀{k:Int},(d.B7==k)=true->(0<=k/\k<=3)->(d.D6==0)=true->decide (d.B8=[])=true->(0<=d.B7/\d.B7<=3)/\(0<=d.D6/\d.D6<=2)/\d.B8.length<=128:=λa b c e=>by
  have a:=eq_of_beq a
  have c:=eq_of_beq c
  have e:=oY e
  exact⟨by omega,by omega,by rw[e];exact aT _⟩
 unfold wG
 refine c9 (λ_=>c6 no) λ_=>c9 (λs=>c9 (λc=>c9 (λ_=>c9 (λ_=>c6 (zero s (by decide) c)) λ_=>c6 no) λ_=>c6 no) λ_=>c6 no) λ_=>c9 (λs=>c9 (λc=>c9 (λ_=>c9 (λ_=>c6 (zero s (by decide) c)) λ_=>c6 no) λ_=>c6 no) λ_=>c6 no) λ_=>c9 (λs=>c9 (λc=>c9 (λ_=>c9 (λ_=>c6 (zero s (by decide) c)) λ_=>c6 no) λ_=>c6 no) λ_=>c6 no) λ_=>c9 (λs=>dq λx ex=>c9 (λhx=>?_) λ_=>c6 no) λ_=>c6 no
 have s:=eq_of_beq s
 have cm:Og d=true->(0<=d.D6/\d.D6<=2)/\d.B8.length<=128:=by
  show Tree.V (IX d) (λb=>b=true->(0<=d.D6/\d.D6<=2)/\d.B8.length<=128)
  unfold IX
  refine c9 (λc=>c6 λe=>?_) λ_=>c9 (λc=>c6 λe=>?_) λ_=>c6 no
  ·have c:=eq_of_beq c
   have e:=oY e
   exact⟨by omega,by rw[e];exact aT _⟩
  ·have c:=eq_of_beq c
   have e:=eq_of_beq e
   exact⟨by omega,by omega⟩
 obtain⟨c1,c2⟩:=cm (by rw[<-ex];exact hx)
 exact c9 (λ_=>c6 λ_=>⟨by omega,c1,c2⟩) λ_=>c6 no
theorem yp{m:au}(h:sK m=true):m.A3.D1.length<=16/\(0<=m.A7.B7/\m.A7.B7<=3)/\(0<=m.A7.D6/\m.A7.D6<=2)/\m.A7.B8.length<=128:=by
 have no:∀{p:Prop},(false=true->p):=λh=>by cases h
 refine(show Tree.V (DS m) (λb=>b=true->m.A3.D1.length<=16/\(0<=m.A7.B7/\m.A7.B7<=3)/\(0<=m.A7.D6/\m.A7.D6<=2)/\m.A7.B8.length<=128) from ?_) h
 unfold DS
 refine dq λx0 _=>dq λx1 e1=>c9 (λh1=>dq λx2 _=>c9 (λ_=>dq λx3 e3=>c9 (λh3=>?_) λ_=>c6 no) λ_=>c6 no) λ_=>c6 no
 have k:m.A3.D1.length<=16:=by
  rw[e1]at h1
  have h1:decide ((m.A3.D1.length:Int)<=16)=true:=h1
  have:=oY h1;omega
 rw[e3]at h3
 have d:=Zpv _ _ h3
 exact dq λx4 _=>c9 (λ_=>ft (dq λx5 _=>c6 λ_=>⟨k,d⟩)) λ_=>c6 no
structure Hh(m:au):Prop where
 r:O8 m
 k:m.A3.D1.length<=100000
 o:m.A7.B8.length<=100000
theorem Zlr{P:Nat}{m:au}(g:ey P m)(d:kD m):Hh m:=by
 obtain⟨_,_,c,_,dv⟩:=(GM m).1 g.may
 obtain⟨k,s,cm,o⟩:=yp dv
 have c0:=g.ok.lU
 exact⟨⟨d.dl,d.bl,by omega,by omega,by omega⟩,by omega,by omega⟩
theorem YD(x:Int):0<=wrap .u64 x/\wrap .u64 x<18446744073709551616:=by rw[wrap_u64];omega
theorem vp(h0:Int)(s:List UInt8):Pn h0 s=Po h0 s:=rfl
theorem qau{m:au}(hv:sP m)(e:Hh m)(hm:m.Mem.length<=1100):Un m/\Uo m=Pn 14695981039346656037 (sR m):=by
 refine Tree.pp (t:=Pp m) (W:=λr=>r=Pn 14695981039346656037 (sR m)) ?_
 unfold Pp
 exact bm (Zly hv e.r hm e.k e.o) λx hx=>cz (show x.length<=1000000000000 by have:=hx.2;omega) (ar λy hy=>ez (by rw[hy,hx.1]))
def j0(r:cy):Prop:=∀e∈r.C8,U e.C6.N
theorem Zgi{L:List ei}{x:ei}(h:∀e∈L,U e.C6.N)(hx:U x.C6.N):∀e∈L++[x],U e.C6.N:=λe he=>by
 rcases List.mem_append.1 he with h1|h1
 ·exact h e h1
 ·rw[List.mem_singleton.1 h1];exact hx
theorem qq{r:cy}(h:j0 r){e:gx}(he:U e.N):j0 (nf r e):=by
 unfold nf
 cases(lL r.A0 e).1
 ·exact h
 ·exact Zgi h he
theorem xZ{r:cy}(h:j0 r):j0 (kM r):=by
 unfold kM
 cases Jn r.A0.A9 r.B3
 ·exact h
 ·exact qq h ek
theorem xaN{r:cy}(h:j0 r)(hc:U r.B3):j0 (Ei r):=by
 show∀e∈(Fx r).C8,_
 unfold Fx
 cases Hc r.A0
 ·exact h
 ·exact Zgi h hc
theorem Hi{P:Nat}:∀(n:Nat) {k:Int} {r:cy} (o:List dx),oy P k r->j0 r->j0 (iQ n r o).1
 |0,_,_,_,_,h=>h
 |n +1,k,r,o,g,h=>by
  obtain⟨gf,_⟩:=Z98 g
  cases hs:mN (kM r).A0
  ·rw[vo hs]
   exact Hi n _ (Z8q gf hs) (xaN (xZ h) gf.clock)
  ·rw[zo hs];exact xZ h
theorem xq:∀(l:List gx) {r:cy},(∀q∈l,U q.N)->j0 r->j0 (l.foldl nf r)
 |[],_,_,h=>h
 |e::l,r,hq,h=>xq l (λq hm=>hq q (by simp[hm])) (qq h (hq e (by simp)))
theorem Pq{P:Nat}{k:Int}{r:cy}(g:oy P k r)(hq:AR r.B0)(h:j0 r)(steps:Int){clock:Int}(hc:U clock):j0 (lG r steps clock).1:=by
 have gn:U (if clock>r.B3 then clock else r.B3):=by split<;>first|exact hc|exact g.clock
 obtain⟨a,b⟩:=Z9h r.B0 (r:={A0:=r.A0,B3:=if clock>r.B3 then clock else r.B3,C8:=r.C8,B0:=r.B0}) ⟨g.m,gn,g.lU⟩ hq.2
 unfold lG
 rw[g.m.CB]
 exact Hi _ [] (r:=Jo _) ⟨a.m,a.clock,a.lU⟩ (xq r.B0 (r:={A0:=r.A0,B3:=if clock>r.B3 then clock else r.B3,C8:=r.C8,B0:=r.B0}) hq.2 h)
theorem Pr{r:cy}(h:j0 r)(e:gx):j0 (Ej r e).1:=by
 rw[Yq]
 cases O4 e<;>cases e.B9==1<;>cases decide ((r.B0.length:Int)>=16)<;>exact h
theorem YE{A:cy×Bool}(h:j0 A.1):j0 (A.1,([]:List dx)).1:=h
theorem zau{P:Nat}{k:Int}{r:cy}(g:oy P k r)(hq:AR r.B0)(h:j0 r)(n:Int):j0 (wP r n).1:=by
 cases hm:dE (AS n 3) 3==0
 ·rw[Ys hm,Yp _ _ _ (by have:=hq.1;omega)]
  exact Pq g hq h _ (fg _)
 ·rw[Yr hm]
  exact YE (A:=Ej r (O3 n)) (Pr h _)
theorem zZ{P:Nat}:∀(l:List Int) {k:Int} {s:cy×List dx},oy P k s.1->AR s.1.B0->j0 s.1->j0 (l.foldl tN s).1
 |[],_,_,_,_,h=>h
 |n::l,k,s,g,hq,h=>by
  rw[aD]
  have a:=Zqo g hq n
  have b:=zau g hq h n
  rw[<-Zgz]at a b
  exact zZ l a.1 a.2 b
theorem Zmi{l:List ei}{i:Nat}(h:i<l.length):l.getD i (RK.cj RK.ab)=l[i]:=by
 rw[cP,cG h];rfl
abbrev jt:=au×List dx×Int×Int
def lI:au:={B1:={X:={a0:=0,a1:=0,a2:=0,a3:=0,a4:=0,a5:=0,a6:=0,a7:=0,a8:=0,a9:=0,kq:=0,kr:=0,a12:=0,ku:=0,kv:=0,ky:=0},Pc:=0,B4:={a0:=0,a1:=0,a2:=0,a3:=0,a4:=0,a5:=0,a6:=0,a7:=0}},Mem:=[],A3:={D1:=[]},A9:={D3:=false,C4:=0,D2:=false},A7:={ae:=0,C1:=0,Frame:=0,B7:=0,D6:=0,B6:=0,B2:=0,B8:=[]},C3:={Frame:=0,E0:=0,C5:=false,C0:=0,B5:=false,F1:=0},A2:={C7:=0,C2:=0},A1:=0,A4:=false,A6:=false}
def gm(s:List ei)(i:Int):ei:=s.getD i.toNat (RK.cj RK.ab)
def mf(s:List ei):Nat->Int->au->Int×au
 |0,i,y=>(i,y)
 |n+1,i,y=>bif(decide (i<(s.length:Int))&&(((gm s i).At==y.A1)&&((gm s i).C6.B9 !=1)))then mf s n (i+1) (lL y (gm s i).C6).2 else(i,y)
def CE(go:Int->au->List dx->jt)(s:List ei)(i:Int)(y:au)(out:List dx):jt:=
 bif y.A6 then(y,out,i,0)else
 bif sQ y then(bif decide (i<(s.length:Int))then(lI,[],0,1303)else(y,out,i,0))else
 bif decide (i<(s.length:Int))then
  (bif((gm s i).At==y.A1)==oV y then
   (bif((gm s i).At==y.A1)then go (i+1) (fv y (gm s i).C6.N).2 (out++(fv y (gm s i).C6.N).1)else go i (fv y 0).2 (out++(fv y 0).1))
  else(lI,[],0,1302))
 else(bif false==oV y then go i (fv y 0).2 (out++(fv y 0).1)else(lI,[],0,1302))
def iK(s:List ei)(u:Int):Nat->Int->au->List dx->jt
 |0,i,x,out=>(x,out,i,0)
 |k+1,i,x,out=>bif decide (x.A1<1152921504606846976)then CE (iK s u k) s (mf s (s.length-i).toNat i x).1 (mf s (s.length-i).toNat i x).2 out else(x,out,i,0)
def AU(s:List ei)(i:Nat):Bool:=!decide ((s.getD i (RK.cj RK.ab)).At<(s.getD (i-1) (RK.cj RK.ab)).At)&&!(((s.getD i (RK.cj RK.ab)).At==(s.getD (i-1) (RK.cj RK.ab)).At)&&((s.getD (i-1) (RK.cj RK.ab)).C6.B9==1))
def ki(s:List ei):Bool:=decide (∀i,i<s.length->1<=i->AU s i=true)
def lX(m:au)(s:List ei)(u:Int):Int:=
 if pS m=false then 1300 else if u<m.A1 then 1300 else if 4000<wrap .u64 (u-m.A1)then 1300 else if 400<s.length then 1300 else if ki s=false then 1301 else if 0<s.length/\(gm s 0).At<m.A1 then 1301 else 0
def cf(m:au)(s:List ei)(u:Int):jt:=if lX m s u=0 then iK s u (u-m.A1).toNat 0 m []else(lI,[],0,lX m s u)
theorem Ps{β:Type}{c1 c2 c3 cc:Bool}{N T:Tree β}{W:β->Prop}(YF:c1=true->cc=true)(hN:c1=true->c2=true->c3=true->N.w W)(hT:(c1&&(c2&&c3))=false->T.w W):(Tree.br c1 (.cn cc (.br c2 (.cn cc (.br c3 (.cn cc N) T)) T)) T).w W:=by
 refine aa (λh1=>ba (YF h1) (aa (λh2=>ba (YF h1) (aa (λh3=>ba (YF h1) (hN h1 h2 h3)) λh3=>hT (by rw[h1,h2,h3];rfl))) λh2=>hT (by rw[h1,h2];rfl))) λh1=>hT (by rw[h1];rfl)
theorem bn3:∀a b:Bool,(!b==a)=true->(a==b)=false:=by decide
theorem bn4:∀a b:Bool,(!b==a)=false->(a==b)=true:=by decide
theorem YG{s:List ei}(h:ki s=true):∀i:Nat,i<s.length->1<=i->AU s i=true:=oY h
theorem zq{s:List ei}(h:ki s=true):∀i:Nat,i<s.length->(gm s 0).At<=(s.getD i (RK.cj RK.ab)).At:=by
 intro i
 induction i with
 |zero=>intro _;exact cW _
 |succ i ih=>
  intro hi
  have h1:=YG h (i+1) hi (by omega)
  have h2:=ih (by omega)
  unfold AU at h1
  rw[aE]at h1
  have h3:decide ((s.getD (i+1) (RK.cj RK.ab)).At<(s.getD i (RK.cj RK.ab)).At)=false:=by simpa using h1.1
  have h3:=oN h3
  omega
theorem Z73{s:List ei}(hl:s.length<=1000000):(Mj s).w (λb=>b=ki s):=by
 unfold Mj
 refine ga (inv:=λz:Int=>1<=z/\(z<=s.length\/z=1)/\∀j:Nat,(j:Int)<z->1<=j->AU s j=true) (μ:=Mk s) ⟨cW 1,.inr rfl,λj h1 h2=>by omega⟩ (cO _) λi ⟨a,b,c⟩=>?_
 have ew:i64.wrap (i+1)=i+1:=by rw[wrap_i64];omega
 have em:i64.wrap (i-1)=i-1:=by rw[wrap_i64];omega
 refine aa (λhb=>?_) (λhb=>ez ?_)
 rotate_left
 ·have hb:=oN hb
  exact(dY λj h1 h2=>c j (by omega) h2).symm
 have hb:i<s.length:=oY hb
 have e1:(i-1).toNat=i.toNat-1:=by omega
 have no:AU s i.toNat=false->false=ki s:=λh=>(dN λk=>by rw[k i.toNat (by omega) (by omega)]at h;cases h).symm
 have nx:AU s i.toNat=true->(1<=i64.wrap (i+1)/\(i64.wrap (i+1)<=s.length\/i64.wrap (i+1)=1)/\∀j:Nat,(j:Int)<i64.wrap (i+1)->1<=j->AU s j=true)/\Mk s (i64.wrap (i+1))<Mk s i:=λh=>by
  show _/\(s.length-i64.wrap (i+1)).toNat<(s.length-i).toNat
  rw[ew]
  refine⟨⟨by omega,by omega,λj h1 h2=>?_⟩,by omega⟩
  by_cases e:(j:Int)<i
  ·exact c j e h2
  ·rw[show j=i.toNat by omega];exact h
 have c1:(bT 4 4&&bJ 0 4&&decide (0<=i64.wrap (i-1)/\i64.wrap (i-1)<(s.length:Int)))=true:=by rw[em];simp[bJ];omega
 have c2:(bT 4 4&&bJ 0 4&&decide (0<=i/\i<(s.length:Int)))=true:=by simp[bJ];omega
 have eP:AU s i.toNat=(!decide ((s.getD i.toNat (RK.cj RK.ab)).At<(s.getD (i64.wrap (i-1)).toNat (RK.cj RK.ab)).At)&&!(((s.getD i.toNat (RK.cj RK.ab)).At==(s.getD (i64.wrap (i-1)).toNat (RK.cj RK.ab)).At)&&((s.getD (i64.wrap (i-1)).toNat (RK.cj RK.ab)).C6.B9==1))):=by rw[em,e1];rfl
 refine ba c1 (ba c2 (aa (λh=>ez (no (by rw[eP,h];rfl))) λh=>aa (λh1=>aa (λh2=>ez (no (by rw[eP,h,h1,h2];rfl))) λh2=>fh (nx (by rw[eP,h,h1,h2];rfl))) λh1=>fh (nx (by rw[eP,h,h1];rfl))))
theorem Pt{m:au}(hv:sP m){s:List ei}(hs:s.length<=1000000){u:Int}:(Pu m s u).w (λx=>x=lX m s u):=by
 unfold Pu
 refine cz (Tree.pp (Tu hv.uA.2)).1 (ar λx0 e0=>?_)
 have e0:x0=pS m:=e0.trans (LX hv)
 refine aa (λh=>ez ?_) λhm=>aa (λh=>ez ?_) λh1=>aa (λh=>ez ?_) λh2=>aa (λh=>ez ?_) λh3=>cz (show s.length<=1000000000000 by omega) (ar λx1 e1=>?_)
 ·unfold lX;rw[if_pos (by rw[<-e0];simpa using h)]
 all_goals have kC:¬pS m=false:=by rw[<-e0];simpa using hm
 ·unfold lX;rw[if_neg kC,if_pos (oY h)]
 all_goals have o9:¬u<m.A1:=oN h1
 ·unfold lX;rw[if_neg kC,if_neg o9,if_pos (oY h)]
 all_goals have Ml:¬4000<wrap .u64 (u-m.A1):=oN h2
 ·unfold lX;rw[if_neg kC,if_neg o9,if_neg Ml,if_pos (by have:=oY h;omega)]
 have Jw:¬400<s.length:=by have:=oN h3;omega
 have e1:x1=ki s:=by rw[e1];exact Tree.post _ (Z73 (by omega))
 rw[e1]
 refine aa (λh=>ez ?_) λho=>?_
 ·unfold lX;rw[if_neg kC,if_neg o9,if_neg Ml,if_neg Jw,if_pos (by simpa using h)]
 have je:ki s=true:=by simpa using ho
 have ho2:¬ki s=false:=by rw[je];simp
 refine ga (inv:=λi:Int=>0<=i/\i<=s.length/\(0<i->¬(gm s 0).At<m.A1)) (μ:=Qn9 m s u) ⟨cW 0,by omega,λh=>absurd h (Int.lt_irrefl 0)⟩ (cO _) λi ⟨v1,v2,v3⟩=>?_
 refine aa (λhb=>?_) (λhb=>ez ?_)
 ·have hb:=oY hb
  have cg:i.toNat<s.length:=by omega
  have of:=zq je i.toNat cg
  have ew:i64.wrap (i+1)=i+1:=by rw[wrap_i64];omega
  refine ba (by simp[bJ];omega) (aa (λh=>ez ?_) λh=>fh ?_)
  ·have h:=oY h
   show(1301:Int)=_
   unfold lX;rw[if_neg kC,if_neg o9,if_neg Ml,if_neg Jw,if_neg ho2,if_pos ⟨by omega,by omega⟩]
  ·have h:=oN h
   show(0<=i64.wrap (i+1)/\i64.wrap (i+1)<=s.length/\(0<i64.wrap (i+1)->¬(gm s 0).At<m.A1))/\(s.length-i64.wrap (i+1)).toNat<(s.length-i).toNat
   rw[ew]
   refine⟨⟨by omega,by omega,λ_=>?_⟩,by omega⟩
   by_cases e:0<i
   ·exact v3 e
   ·have:i=0:=by omega
    subst this;exact h
 ·have hb:=oN hb
  show(0:Int)=_
  unfold lX;rw[if_neg kC,if_neg o9,if_neg Ml,if_neg Jw,if_neg ho2,if_neg fun⟨q1,q2⟩=>v3 (by omega) q2]
theorem yq{m:au}(hv:sP m){s:List ei}(hs:s.length<=1000000)(hu:∀e∈s,U e.C6.N){u:Int}(u0:0<=u)(u1:u<18446744073709551616):(Pv m s u).w (λr=>r=cf m s u/\r.2.1.length<=4000/\r.1.Mem.length<=1024):=by
 unfold Pv
 have m0:=hv.lU
 refine bm (Pt hv hs) λx0 e0=>?_
 rw[e0]
 refine aa (λh=>ez ⟨?_,aT _,aT _⟩) λh=>?_
 ·have h:¬lX m s u=0:=by simpa using h
  unfold cf;rw[if_neg h];rfl
 have h0:lX m s u=0:=by simpa using h
 have hm:¬pS m=false:=λq=>by unfold lX at h0;rw[if_pos q]at h0;cases h0
 have h1:¬u<m.A1:=λq=>by unfold lX at h0;rw[if_neg hm,if_pos q]at h0;cases h0
 have h2:¬4000<wrap .u64 (u-m.A1):=λq=>by unfold lX at h0;rw[if_neg hm,if_neg h1,if_pos q]at h0;cases h0
 have mm:nc m=true:=by rw[LX hv];simpa using hm
 obtain⟨P,gS,gM⟩:=wO hv mm
 have g:ey P m:=⟨gM,mm⟩
 have hle:m.A1<=u:=by omega
 have h4:u-m.A1<=4000:=by rw[wrap_u64]at h2;omega
 have Pw:iK s u (u-m.A1).toNat 0 m []=cf m s u:=by unfold cf;rw[h0,if_pos rfl]
 generalize cf m s u=rY at Pw⊢
 refine cz (rU gM.mem) (ar λx1 e1=>?_)
 have gn:jD m.Mem=m.Mem:=rfl
 rw[gn]at e1
 subst e1
 refine ga (inv:=λv:Int×au×List dx=>0<=v.1/\v.1<=s.length/\ey P v.2.1/\v.2.1.A1<=u/\(v.2.2.length:Int)<=v.2.1.A1-m.A1/\iK s u (u-v.2.1.A1).toNat v.1 v.2.1 v.2.2=rY) (μ:=Qrj m s u) ⟨cW 0,by show(0:Int)<=_;omega,g,hle,by show((0:Nat):Int)<=m.A1-m.A1;omega,Pw⟩ (cO _) λv ⟨a1,a2,a3,a4,a5,a6⟩=>?_
 obtain⟨i0,x,out⟩:=v
 have a1:0<=i0:=a1
 have a2:i0<=s.length:=a2
 have a3:ey P x:=a3
 have a4:x.A1<=u:=a4
 have a5:(out.length:Int)<=x.A1-m.A1:=a5
 have a6:iK s u (u-x.A1).toNat i0 x out=rY:=a6
 refine aa (λhb=>?_) (λhb=>ez ?_)
 rotate_left
 ·have hb:¬x.A1<u:=oN hb
  rw[show(u-x.A1).toNat=0 by omega]at a6
  exact⟨a6,by show out.length<=4000;omega,a3.len⟩
 have hb:x.A1<u:=oY hb
 obtain⟨k,hk⟩:∃k:Nat,(u-x.A1).toNat=k+1:=⟨(u-x.A1).toNat-1,by omega⟩
 rw[hk]at a6
 refine aa (λBt=>?_) (λBt=>ez ?_)
 rotate_left
 ·have Hj:(bif decide (x.A1<1152921504606846976)then CE (iK s u k) s (mf s (s.length-i0).toNat i0 x).1 (mf s (s.length-i0).toNat i0 x).2 out else(x,out,i0,0))=rY:=a6
  have Bt:decide (x.A1<1152921504606846976)=false:=Bt
  rw[Bt]at Hj
  exact⟨Hj,by show out.length<=4000;omega,a3.len⟩
 have Hj:(bif decide (x.A1<1152921504606846976)then CE (iK s u k) s (mf s (s.length-i0).toNat i0 x).1 (mf s (s.length-i0).toNat i0 x).2 out else(x,out,i0,0))=rY:=a6
 have Px:decide (x.A1<1152921504606846976)=true:=Bt
 rw[Px]at Hj
 have Hj:CE (iK s u k) s (mf s (s.length-i0).toNat i0 x).1 (mf s (s.length-i0).toNat i0 x).2 out=rY:=Hj
 have Bt:x.A1<1152921504606846976:=oY Px
 clear a6
 generalize hE:mf s (s.length-i0).toNat i0 x=E at Hj
 refine ga (inv:=λw:Int×au=>0<=w.1/\w.1<=s.length/\ey P w.2/\w.2.A1=x.A1/\mf s (s.length-w.1).toNat w.1 w.2=E) (μ:=Qre m s u (i0,x,out)) ⟨a1,a2,a3,rfl,hE⟩ (cO _) λw ⟨b1,b2,b3,b4,b5⟩=>?_
 obtain⟨i,y⟩:=w
 have b1:0<=i:=b1
 have b2:i<=s.length:=b2
 have b3:ey P y:=b3
 have b4:y.A1=x.A1:=b4
 have b5:mf s (s.length-i).toNat i y=E:=b5
 have ew:i64.wrap (i+1)=i+1:=by rw[wrap_i64];omega
 have cc:decide (i<(s.length:Int))=true->(bT 4 4&&bJ 0 4&&decide (0<=i/\i<((s.length:Nat):Int)))=true:=λh=>by have:=oY h;simp[bJ];omega
 have uN:decide (i<(s.length:Int))=true->U (s.getD i.toNat (RK.cj RK.ab)).C6.N:=λh=>by
  have:=oY h
  rw[Zmi (show i.toNat<s.length by omega)]
  exact hu _ (fI _)
 refine Ps (λh=>cc h) (λh1 h2 h3=>?_) λhx=>?_
 ·have hi:=oY h1
  obtain⟨g1,c1⟩:=Uh b3 (uN h1)
  refine cz (Zpf b3.v b3.len (uN h1)) (ar λx3 e3=>fh ?_)
  have e3:x3.1=(lL y (s.getD i.toNat (RK.cj RK.ab)).C6).2:=by rw[e3,b3.app]
  show(0<=i64.wrap (i+1)/\i64.wrap (i+1)<=s.length/\ey P x3.1/\x3.1.A1=x.A1/\mf s (s.length-i64.wrap (i+1)).toNat (i64.wrap (i+1)) x3.1=E)/\(s.length-i64.wrap (i+1)).toNat<(s.length-i).toNat
  rw[ew,e3]
  refine⟨⟨by omega,by omega,g1,by rw[c1];exact b4,?_⟩,by omega⟩
  rw[show(s.length-i).toNat=(s.length-(i+1)).toNat+1 by omega]at b5
  have Py:(bif(decide (i<(s.length:Int))&&(((gm s i).At==y.A1)&&((gm s i).C6.B9 !=1)))then mf s (s.length-(i+1)).toNat (i+1) (lL y (gm s i).C6).2 else(i,y))=E:=b5
  rw[show(decide (i<(s.length:Int))&&(((gm s i).At==y.A1)&&((gm s i).C6.B9 !=1)))=true by
   have h1:decide (i<(s.length:Int))=true:=h1
   have h2:((gm s i).At==y.A1)=true:=h2
   have h3:((gm s i).C6.B9 !=1)=true:=h3
   rw[h1,h2,h3];rfl]at Py
  exact Py
 have hx:(decide (i<(s.length:Int))&&(((gm s i).At==y.A1)&&((gm s i).C6.B9 !=1)))=false:=hx
 have eE:(i,y)=E:=by
  generalize(s.length-i).toNat=n at b5
  cases n with
  |zero=>exact b5
  |succ n=>
   have Py:(bif(decide (i<(s.length:Int))&&(((gm s i).At==y.A1)&&((gm s i).C6.B9 !=1)))then mf s n (i+1) (lL y (gm s i).C6).2 else(i,y))=E:=b5
   rw[hx]at Py;exact Py
 subst eE
 have R0:CE (iK s u k) s i y out=rY:=Hj
 unfold CE at R0
 have lo:out.length<=4000:=by omega
 have st:y.A6=false->sQ y=false->mN y=false:=λh1 h2=>(Jp b3).2 ⟨h1,h2,by omega⟩
 have fin:∀(c:Int) (j:Int),U c->mN y=false->0<=j->j<=s.length->iK s u k j (fv y c).2 (out++(fv y c).1)=rY->decide (40*(out.length+(fv y c).1.length)<=140737488355328)=true/\((0<=j/\j<=s.length/\ey P (fv y c).2/\(fv y c).2.A1<=u/\((out++(fv y c).1).length:Int)<=(fv y c).2.A1-m.A1/\iK s u (u-(fv y c).2.A1).toNat j (fv y c).2 (out++(fv y c).1)=rY)/\(u-(fv y c).2.A1).toNat<(u-x.A1).toNat):=λc j hc hs j1 j2 hr=>by
  obtain⟨g1,c1,l1⟩:=Jq b3 hs hc
  refine⟨dY (by omega),⟨j1,j2,g1,by omega,by rw[lA];omega,?_⟩,by omega⟩
  rw[show(u-(fv y c).2.A1).toNat=k by omega];exact hr
 refine aa (λhh=>ez ?_) λhh=>cz (qas b3.ok.target.2) (ar λx4 e4=>?_)
 ·have hh:y.A6=true:=hh
  rw[hh]at R0
  exact⟨R0,lo,b3.len⟩
 have hh:y.A6=false:=hh
 rw[hh]at R0
 have e4:x4=sQ y:=(e4.trans b3.idle)
 rw[e4]
 refine aa (λhi=>?_) λhi=>?_
 ·have R1:(bif sQ y then(bif decide (i<(s.length:Int))then((lI,[],0,1303):jt)else(y,out,i,0))else _)=rY:=R0
  rw[hi]at R1
  have R1:(bif decide (i<(s.length:Int))then((lI,[],0,1303):jt)else(y,out,i,0))=rY:=R1
  refine aa (λhl=>ez ?_) λhl=>ez ?_
  ·have hl:decide (i<(s.length:Int))=true:=hl
   rw[hl]at R1;exact⟨R1,aT _,aT _⟩
  ·have hl:decide (i<(s.length:Int))=false:=hl
   rw[hl]at R1;exact⟨R1,lo,b3.len⟩
 have sk:=st hh hi
 have R2:(bif decide (i<(s.length:Int))then
  (bif((gm s i).At==y.A1)==oV y then
   (bif((gm s i).At==y.A1)then iK s u k (i+1) (fv y (gm s i).C6.N).2 (out++(fv y (gm s i).C6.N).1)else iK s u k i (fv y 0).2 (out++(fv y 0).1))
  else((lI,[],0,1302):jt))
 else(bif false==oV y then iK s u k i (fv y 0).2 (out++(fv y 0).1)else(lI,[],0,1302)))=rY:=by
  have R1:(bif sQ y then(bif decide (i<(s.length:Int))then((lI,[],0,1303):jt)else(y,out,i,0))else _)=rY:=R0
  rw[hi]at R1;exact R1
 clear R0
 have rq:∀z,z=O5 y->z=oV y:=λz hz=>by rw[hz,Zqh b3.v,show Hc y=bif mN y then false else oV y from rfl,sk];rfl
 have Jx:∀(c:Int),U c->O0 y c:=λc hc=>(xl b3.v b3.len (clock:=c) hc).1
 have Pz:∀(c:Int) (z:au×List dx),z=AQ y c->z.2=(fv y c).1/\z.1=(fv y c).2:=λc z hz=>by rw[hz,b3.step sk];exact⟨rfl,rfl⟩
 have Up:iK s u k i (fv y 0).2 (out++(fv y 0).1)=rY->∀z:au×List dx,z=AQ y 0->decide (40*(out.length+z.2.length)<=140737488355328)=true/\((0<=i/\i<=s.length/\ey P z.1/\z.1.A1<=u/\((out++z.2).length:Int)<=z.1.A1-m.A1/\iK s u (u-z.1.A1).toNat i z.1 (out++z.2)=rY)/\(u-z.1.A1).toNat<(u-x.A1).toNat):=λhr z hz=>by
  obtain⟨z1,z2⟩:=Pz 0 z hz
  rw[z1,z2]
  exact fin 0 i ek sk b1 b2 hr
 refine aa (λhl=>?_) λhl=>?_
 ·have hl:decide (i<(s.length:Int))=true:=hl
  have iz:=oY hl
  rw[hl]at R2
  have R2:(bif((gm s i).At==y.A1)==oV y then
   (bif((gm s i).At==y.A1)then iK s u k (i+1) (fv y (gm s i).C6.N).2 (out++(fv y (gm s i).C6.N).1)else iK s u k i (fv y 0).2 (out++(fv y 0).1))
  else((lI,[],0,1302):jt))=rY:=R2
  refine ba (cc hl) (cz (Tree.pp (Znx b3.s)).1 (ar λx5 e5=>?_))
  have e5:=rq x5 e5
  rw[e5]
  refine aa (λhn=>ez ?_) λhn=>?_
  ·have hn:=bn3 ((gm s i).At==y.A1) (oV y) hn
   rw[hn]at R2
   exact⟨R2,aT _,aT _⟩
  have hn:=bn4 ((gm s i).At==y.A1) (oV y) hn
  rw[hn]at R2
  have R2:(bif((gm s i).At==y.A1)then iK s u k (i+1) (fv y (gm s i).C6.N).2 (out++(fv y (gm s i).C6.N).1)else iK s u k i (fv y 0).2 (out++(fv y 0).1))=rY:=R2
  refine aa (λha=>ba (cc hl) (cz (Jx _ (uN hl)) (ar λx6 e6=>?_))) λha=>?_
  ·have ha:((gm s i).At==y.A1)=true:=ha
   rw[ha]at R2
   obtain⟨z1,z2⟩:=Pz _ x6 e6
   have F:=fin (gm s i).C6.N (i+1) (uN hl) sk (by omega) (by omega) R2
   refine ba (by rw[z1];exact F.1) (fh ?_)
   have F2:=F.2
   rw[<-ew]at F2
   show(0<=i64.wrap (i+1)/\i64.wrap (i+1)<=s.length/\ey P x6.1/\x6.1.A1<=u/\((out++x6.2).length:Int)<=x6.1.A1-m.A1/\iK s u (u-x6.1.A1).toNat (i64.wrap (i+1)) x6.1 (out++x6.2)=rY)/\(u-x6.1.A1).toNat<(u-x.A1).toNat
   rw[z1,z2];exact F2
  ·have ha:((gm s i).At==y.A1)=false:=ha
   rw[ha]at R2
   exact cz (Jx _ ek) (ar λx7 e7=>ba (Up R2 x7 e7).1 (fh (Up R2 x7 e7).2))
 ·have hl:decide (i<(s.length:Int))=false:=hl
  rw[hl]at R2
  have R2:(bif false==oV y then iK s u k i (fv y 0).2 (out++(fv y 0).1)else((lI,[],0,1302):jt))=rY:=R2
  refine cz (Tree.pp (Znx b3.s)).1 (ar λx8 e8=>?_)
  have e8:=rq x8 e8
  rw[e8]
  refine aa (λhn=>ez ?_) λhn=>?_
  ·have hn:=bn3 false (oV y) hn
   rw[hn]at R2
   exact⟨R2,aT _,aT _⟩
  have hn:=bn4 false (oV y) hn
  rw[hn]at R2
  exact cz (Jx _ ek) (ar λx7 e7=>ba (Up R2 x7 e7).1 (fh (Up R2 x7 e7).2))
def uG(s:List ei)(i:Int)(y:au):Bool:=decide (i<(s.length:Int))&&(((gm s i).At==y.A1)&&((gm s i).C6.B9 !=1))
theorem PA(s:List ei)(n:Nat)(i:Int)(y:au):mf s (n+1) i y=bif uG s i y then mf s n (i+1) (lL y (gm s i).C6).2 else(i,y):=rfl
theorem xau{s:List ei}{i:Int}{y:au}(hx:uG s i y=false):∀n,mf s n i y=(i,y)
 |0=>rfl
 |n+1=>by rw[PA,hx];rfl
theorem Jy(s:List ei)(u:Int)(k:Nat)(i:Int)(x:au)(out:List dx):iK s u (k+1) i x out=bif decide (x.A1<1152921504606846976)then CE (iK s u k) s (mf s (s.length-i).toNat i x).1 (mf s (s.length-i).toNat i x).2 out else(x,out,i,0):=rfl
def Ek(s:List ei)(i:Int)(x:au):Prop:=∀j:Nat,i<=j->j<s.length->x.A1<=(gm s j).At
structure evK(P:Nat)(s:List ei)(i:Int)(x:au)(E:Int×au):Prop where
 lo:i<=E.1
 hi:E.1<=s.length
 g:ey P E.2
 c:E.2.A1=x.A1
 fix:uG s E.1 E.2=false
theorem sS{s:List ei}(hu:∀e∈s,U e.C6.N){i:Int}(h0:0<=i)(h:i<s.length):U (gm s i).C6.N:=by
 unfold gm
 rw[Zmi (show i.toNat<s.length by omega)]
 exact hu _ (fI _)
theorem Uq{P:Nat}{s:List ei}(hu:∀e∈s,U e.C6.N):∀(n:Nat) {i:Int} {x:au},ey P x->0<=i->i<=s.length->(s.length-i).toNat<=n->evK P s i x (mf s n i x)
 |0,i,x,g,h0,h1,hn=>⟨cW i,h1,g,rfl,by unfold uG;rw[show mf s 0 i x=(i,x) from rfl,dN (show¬i<(s.length:Int) by omega)];rfl⟩
 |n + 1,i,x,g,h0,h1,hn=>by
  rw[PA]
  cases hb:uG s i x
  ·exact⟨cW i,h1,g,rfl,hb⟩
  ·have cg:i<s.length:=by
    unfold uG at hb
    rw[aE]at hb
    exact oY hb.1
   obtain⟨g1,c1⟩:=Uh g (sS hu h0 cg)
   have k:=Uq hu n (i:=i+1) g1 (by omega) (by omega) (by omega)
   show evK P s i x (mf s n (i+1) (lL x (gm s i).C6).2)
   exact⟨by have:=k.lo;omega,k.hi,k.g,k.c.trans c1,k.fix⟩
theorem Ur{s:List ei}{i:Int}{y:au}(hx:uG s i y=false)(h:y.A6=true\/(sQ y=true/\decide (i<(s.length:Int))=false))(u:Int):∀(b:Nat) (out:List dx),iK s u b i y out=(y,out,i,0)
 |0,_=>rfl
 |b +1,out=>by
  rw[Jy,xau hx]
  cases decide (y.A1<1152921504606846976)
  ·rfl
  ·unfold CE
   rcases h with h|⟨h1,h2⟩
   ·rw[h];rfl
   ·rw[h1,h2];cases y.A6<;>rfl
theorem yZ{s:List ei}(h:ki s=true)(i:Nat):∀j:Nat,i<=j->j<s.length->(gm s i).At<=(gm s j).At:=by
 intro j
 induction j with
 |zero=>intro h1 _;rw[show i=0 by omega];exact cW _
 |succ j ih=>
  intro h1 h2
  by_cases e:i=j+1
  ·rw[e];exact cW _
  ·have h3:=YG h (j+1) h2 (by omega)
   have h4:=ih (by omega) (by omega)
   unfold AU at h3
   rw[aE]at h3
   have h5:decide ((s.getD (j+1) (RK.cj RK.ab)).At<(s.getD j (RK.cj RK.ab)).At)=false:=by simpa using h3.1
   have h5:=oN h5
   unfold gm at h4⊢
   rw[eD]at h4⊢
   rw[eD]at h4⊢
   omega
theorem qaO{s:List ei}(h:ki s=true)(i:Nat)(hk:(gm s i).C6.B9=1)(j:Nat)(h1:i<j)(h2:j<s.length):(gm s i).At<(gm s j).At:=by
 have h3:=YG h (i+1) (by omega) (by omega)
 have h4:=yZ h (i+1) j (by omega) h2
 unfold AU at h3
 rw[aE]at h3
 have h5:decide ((s.getD (i+1) (RK.cj RK.ab)).At<(s.getD i (RK.cj RK.ab)).At)=false:=by simpa using h3.1
 have h5:=oN h5
 unfold gm at h4 hk⊢
 rw[eD]at hk h4⊢
 rw[eD]at h4⊢
 have h6:=h3.2
 rw[show i+1-1=i by omega,show((s.getD i (RK.cj RK.ab)).C6.B9==1)=true by rw[hk];rfl]at h6
 have h7:¬(s.getD (i+1) (RK.cj RK.ab)).At=(s.getD i (RK.cj RK.ab)).At:=by simpa using h6
 omega
theorem PB{s:List ei}{i j:Int}{x y:au}(h:Ek s i x)(hl:i<=j)(hc:y.A1=x.A1):Ek s j y:=λq h1 h2=>by
 have:=h q (by omega) h2;omega
theorem Zm6{s:List ei}{j:Int}{y z:au}(ho:ki s=true)(h:Ek s j y)(h0:0<=j)(hn:j<s.length->¬(gm s j).At=y.A1)(hc:z.A1=y.A1+1):Ek s j z:=λq h1 h2=>by
 have a:=h j.toNat (by omega) (by omega)
 have b:=yZ ho j.toNat q (by omega) h2
 rw[eH h0]at a b
 have:=hn (by omega)
 omega
theorem vq{s:List ei}{j:Int}{y z:au}(ho:ki s=true)(h:Ek s j y)(h0:0<=j)(hj:j<s.length)(hk:(gm s j).C6.B9=1)(hc:z.A1=y.A1+1):Ek s (j+1) z:=λq h1 h2=>by
 have a:=h j.toNat (by omega) (by omega)
 have b:=qaO ho j.toNat (by rw[eH h0];exact hk) q (by omega) h2
 rw[eH h0]at a b
 omega
structure YH(P:Nat)(s:List ei)(i:Int)(x:au)(k:Nat)(r:jt):Prop where
 g:ey P r.1
 lo:i<=r.2.2.1
 hi:r.2.2.1<=s.length
 c0:x.A1<=r.1.A1
 c1:r.1.A1<=x.A1+k
 ah:ki s=true->Ek s i x->Ek s r.2.2.1 r.1
 st:r.1.A1=x.A1+k\/∀(u:Int) (b:Nat) (o:List dx),iK s u b r.2.2.1 r.1 o=(r.1,o,r.2.2.1,0)
theorem qr{P:Nat}{s:List ei}(hu:∀e∈s,U e.C6.N)(u:Int):∀(a:Nat) {i:Int} {x:au} {out:List dx},ey P x->0<=i->i<=s.length->
 ((iK s u a i x out).2.2.2=0->YH P s i x a (iK s u a i x out))/\((iK s u a i x out).2.2.2≠0->(iK s u a i x out).1=lI/\(iK s u a i x out).2.1=[]/\(iK s u a i x out).2.2.1=0)/\
 ∀b,iK s u (a+b) i x out=bif(iK s u a i x out).2.2.2==0 then iK s u b (iK s u a i x out).2.2.1 (iK s u a i x out).1 (iK s u a i x out).2.1 else iK s u a i x out
 |0,i,x,out,g,h0,h1=>⟨λ_=>⟨g,cW i,h1,cW _,by show x.A1<=x.A1+0;omega,λ_ h=>h,.inl (by show x.A1=x.A1+0;omega)⟩,λh=>absurd rfl h,λb=>by rw[Nat.zero_add];rfl⟩
 |a + 1,i,x,out,g,h0,h1=>by
  have ih:=fun{i:Int} {x:au} {out:List dx}=>qr (P:=P) hu u a (i:=i) (x:=x) (out:=out)
  have hab:∀b,a+1+b=(a+b)+1:=λb=>by omega
  simp only[hab,Jy]
  cases hc:decide (x.A1<1152921504606846976)
  ·refine⟨λ_=>⟨g,cW i,h1,cW _,by show x.A1<=x.A1+_;omega,λ_ h=>h,.inr λu b o=>?_⟩,λh=>absurd rfl h,λb=>?_⟩
   ·cases b with
    |zero=>rfl
    |succ b=>show iK s u (b+1) i x o=_;rw[Jy,hc];rfl
   ·cases b with
    |zero=>rfl
    |succ b=>show(x,out,i,(0:Int))=iK s u (b+1) i x out;rw[Jy,hc];rfl
  have Us:=oY hc
  have k:=Uq (P:=P) hu (s.length-i).toNat g h0 h1 (aO _)
  generalize mf s (s.length-i).toNat i x=E at k⊢
  obtain⟨j,y⟩:=E
  have CF:i<=j:=k.lo
  have Jz:j<=s.length:=k.hi
  have kg:ey P y:=k.g
  have kc:y.A1=x.A1:=k.c
  have kf:uG s j y=false:=k.fix
  simp only[cond_true]
  unfold CE
  cases hh:y.A6
  rotate_left
  ·refine⟨λ_=>⟨kg,CF,Jz,by show x.A1<=y.A1;omega,by show y.A1<=_;omega,λ_ h=>PB h CF kc,.inr λu b o=>Ur kf (.inl hh) u b o⟩,λh=>absurd rfl h,λb=>?_⟩
   exact(Ur kf (.inl hh) u b out).symm
  cases hi:sQ y
  rotate_left
  ·cases hl:decide (j<(s.length:Int))
   ·refine⟨λ_=>⟨kg,CF,Jz,by show x.A1<=y.A1;omega,by show y.A1<=_;omega,λ_ h=>PB h CF kc,.inr λu b o=>Ur kf (.inr ⟨hi,hl⟩) u b o⟩,λh=>absurd rfl h,λb=>?_⟩
    exact(Ur kf (.inr ⟨hi,hl⟩) u b out).symm
   ·exact⟨λh=>absurd (show(1303:Int)=0 from h) (by decide),λ_=>⟨rfl,rfl,rfl⟩,λb=>rfl⟩
  have sk:mN y=false:=(Jp kg).2 ⟨hh,hi,by omega⟩
  have next:∀(c:Int) (q:Int),U c->0<=q->q<=s.length->i<=q->((fv y c).2.A1=y.A1+1->ki s=true->Ek s i x->Ek s q (fv y c).2)->
   ((iK s u a q (fv y c).2 (out++(fv y c).1)).2.2.2=0->YH P s i x (a+1) (iK s u a q (fv y c).2 (out++(fv y c).1)))/\
   ((iK s u a q (fv y c).2 (out++(fv y c).1)).2.2.2≠0->(iK s u a q (fv y c).2 (out++(fv y c).1)).1=lI/\(iK s u a q (fv y c).2 (out++(fv y c).1)).2.1=[]/\(iK s u a q (fv y c).2 (out++(fv y c).1)).2.2.1=0)/\
   ∀b,iK s u (a+b) q (fv y c).2 (out++(fv y c).1)=bif(iK s u a q (fv y c).2 (out++(fv y c).1)).2.2.2==0 then iK s u b (iK s u a q (fv y c).2 (out++(fv y c).1)).2.2.1 (iK s u a q (fv y c).2 (out++(fv y c).1)).1 (iK s u a q (fv y c).2 (out++(fv y c).1)).2.1 else iK s u a q (fv y c).2 (out++(fv y c).1):=λc q hU q0 q1 q2 q3=>by
   obtain⟨g1,c1,_⟩:=Jq kg sk hU
   have n:=ih (i:=q) (x:=(fv y c).2) (out:=out++(fv y c).1) g1 q0 q1
   refine⟨λh=>?_,n.2⟩
   have n1:=n.1 h
   exact⟨n1.g,by have:=n1.lo;omega,n1.hi,by have:=n1.c0;omega,by have:=n1.c1;omega,λho h=>n1.ah ho (q3 c1 ho h),n1.st.imp (λh=>by omega) id⟩
  have bad:∀c:Int,c≠0->((((lI,[],0,c):jt).2.2.2=0->YH P s i x (a+1) (lI,[],0,c))/\(((lI,[],0,c):jt).2.2.2≠0->((lI,[],0,c):jt).1=lI/\((lI,[],0,c):jt).2.1=[]/\((lI,[],0,c):jt).2.2.1=0)/\
   ∀b,((lI,[],0,c):jt)=bif((lI,[],0,c):jt).2.2.2==0 then iK s u b ((lI,[],0,c):jt).2.2.1 ((lI,[],0,c):jt).1 ((lI,[],0,c):jt).2.1 else(lI,[],0,c)):=λc h=>⟨λe=>absurd e h,λ_=>⟨rfl,rfl,rfl⟩,λb=>by
   rw[show(((lI,[],0,c):jt).2.2.2==0)=false by simpa using h];rfl⟩
  simp only[cond_false]
  cases hl:decide (j<(s.length:Int))
  ·simp only[cond_false]
   cases hr:(false==oV y)
   ·exact bad 1302 (by decide)
   ·simp only[cond_true];exact next 0 j ek (by omega) Jz CF λc ho h=>Zm6 ho (PB h CF kc) (by omega) (λq=>absurd q (oN hl)) c
  ·have uH:=oY hl
   simp only[cond_true]
   cases hr:(((gm s j).At==y.A1)==oV y)
   ·exact bad 1302 (by decide)
   ·simp only[cond_true]
    cases ha:((gm s j).At==y.A1)
    ·simp only[cond_false];exact next 0 j ek (by omega) Jz CF λc ho h=>Zm6 ho (PB h CF kc) (by omega) (λ_=>by simpa using ha) c
    ·simp only[cond_true];exact next _ (j+1) (sS hu (by omega) uH) (by omega) (by omega) (by omega) λc ho h=>vq ho (PB h CF kc) (by omega) uH (by unfold uG at kf;rw[hl,ha]at kf;simpa using kf) c
theorem xO(s:List ei)(j:Nat){i:Int}(h:0<=i):gm s (j+i)=gm (s.drop j) i:=by
 unfold gm
 rw[cP,cP,List.getElem?_drop,show(↑j+i:Int).toNat=j+i.toNat by omega]
theorem YI{m:au}{s:List ei}{u:Int}:lX m s u=0↔ ¬pS m=false/\¬u<m.A1/\¬4000<wrap .u64 (u-m.A1)/\¬400<s.length/\¬ki s=false/\¬(0<s.length/\(gm s 0).At<m.A1):=by
 unfold lX
 constructor
 ·intro h
  by_cases h1:pS m=false
  ·rw[if_pos h1]at h;cases h
  rw[if_neg h1]at h
  by_cases h2:u<m.A1
  ·rw[if_pos h2]at h;cases h
  rw[if_neg h2]at h
  by_cases h3:4000<wrap .u64 (u-m.A1)
  ·rw[if_pos h3]at h;cases h
  rw[if_neg h3]at h
  by_cases h4:400<s.length
  ·rw[if_pos h4]at h;cases h
  rw[if_neg h4]at h
  by_cases h5:ki s=false
  ·rw[if_pos h5]at h;cases h
  rw[if_neg h5]at h
  by_cases h6:0<s.length/\(gm s 0).At<m.A1
  ·rw[if_pos h6]at h;cases h
  exact⟨h1,h2,h3,h4,h5,h6⟩
 ·rintro⟨h1,h2,h3,h4,h5,h6⟩
  rw[if_neg h1,if_neg h2,if_neg h3,if_neg h4,if_neg h5,if_neg h6]
theorem xr{m:au}{s:List ei}{u:Int}(h:lX m s u=0):cf m s u=iK s u (u-m.A1).toNat 0 m []:=by unfold cf;rw[if_pos h]
theorem Zn2{m:au}{s:List ei}{u:Int}(h:lX m s u≠0):cf m s u=(lI,[],0,lX m s u):=by unfold cf;rw[if_neg h]
theorem zO{m:au}{s:List ei}{u:Int}(h:(cf m s u).2.2.2=0):lX m s u=0:=by
 by_cases e:lX m s u=0
 ·exact e
 ·rw[Zn2 e]at h;exact h
structure runK(P:Nat)(m:au)(s:List ei)(u:Int)(r:jt):Prop where
 g:ey P r.1
 lo:0<=r.2.2.1
 hi:r.2.2.1<=s.length
 c0:m.A1<=r.1.A1
 c1:r.1.A1<=u
theorem Zmk{P:Nat}{m:au}(g:ey P m){s:List ei}(hu:∀e∈s,U e.C6.N){u:Int}(h:(cf m s u).2.2.2=0):runK P m s u (cf m s u):=by
 have hc:=zO h
 rw[xr hc]at h⊢
 have k:=(qr (P:=P) hu u (u-m.A1).toNat g (cW 0) (by omega)).1 h
 have:=(YI.1 hc).2.1
 exact⟨k.g,k.lo,k.hi,k.c0,by have:=k.c1;omega⟩
def lM(m:au):Int:=Po 14695981039346656037 (sR m)
def kj:au->List ei->List Int->List gg×Int
 |_,_,[]=>([],0)
 |m,s,u::l=>
  bif (cf m s u).2.2.2==0 then
   (bif(kj (cf m s u).1 (s.drop (cf m s u).2.2.1.toNat) l).2==0 then
    ({At:=u,D4:=lM (cf m s u).1}::(kj (cf m s u).1 (s.drop (cf m s u).2.2.1.toNat) l).1,0)
   else([],(kj (cf m s u).1 (s.drop (cf m s u).2.2.1.toNat) l).2))
  else([],(cf m s u).2.2.2)
def ik:au->List ei->Int->Int->List gg->jN
 |_,_,_,_,[]=>{Good:=true,D5:=0,At:=0}
 |m,s,i,last,c::l=>
  bif((cf m s c.At).2.2.2==0)&&(lM (cf m s c.At).1==c.D4)then ik (cf m s c.At).1 (s.drop (cf m s c.At).2.2.1.toNat) (i+1) c.At l
  else{Good:=false,D5:=i,At:=last}
theorem Mm{m:au}{s:List ei}{u:Int}{l:List Int}{L:List gg}(h:kj m s (u::l)=(L,0)):
 (cf m s u).2.2.2=0/\∃K,L={At:=u,D4:=lM (cf m s u).1}::K/\kj (cf m s u).1 (s.drop (cf m s u).2.2.1.toNat) l=(K,0):=by
 unfold kj at h
 cases h1:(cf m s u).2.2.2==0
 ·rw[h1]at h
  have:(cf m s u).2.2.2=0:=(Prod.mk.inj h).2
  rw[this]at h1;cases h1
 ·rw[h1]at h
  have h1:=eq_of_beq h1
  refine⟨h1,?_⟩
  generalize kj (cf m s u).1 (s.drop (cf m s u).2.2.1.toNat) l=q at h⊢
  obtain⟨K,e⟩:=q
  cases h2:e==0
  ·have h:(bif e==0 then(({At:=u,D4:=lM (cf m s u).1}::K:List gg),(0:Int))else([],e))=(L,0):=h
   rw[h2]at h
   have:e=0:=(Prod.mk.inj h).2
   rw[this]at h2;cases h2
  ·have h:(bif e==0 then(({At:=u,D4:=lM (cf m s u).1}::K:List gg),(0:Int))else([],e))=(L,0):=h
   rw[h2]at h
   exact⟨K,(Prod.mk.inj h).1.symm,by rw[eq_of_beq h2]⟩
theorem Ut:∀{l:List Int} {m:au} {s:List ei} {L:List gg},kj m s l=(L,0)->L.map (·.At)=l
 |[],m,s,L,h=>by rw[show L=[] from(Prod.mk.inj h).1.symm];rfl
 |u::l,m,s,L,h=>by
  obtain⟨_,K,e,h2⟩:=Mm h
  rw[e,List.map_cons,Ut h2]
theorem wS:∀{l:List Int} {m:au} {s:List ei} {L:List gg},kj m s l=(L,0)->∀i last,ik m s i last L={Good:=true,D5:=0,At:=0}
 |[],m,s,L,h,i,last=>by rw[show L=[] from(Prod.mk.inj h).1.symm];rfl
 |u::l,m,s,L,h,i,last=>by
  obtain⟨h1,K,e,h2⟩:=Mm h
  rw[e]
  unfold ik
  rw[show((cf m s ({At:=u,D4:=lM (cf m s u).1}:gg).At).2.2.2==0)=true by show((cf m s u).2.2.2==0)=true;rw[h1];rfl,show(lM (cf m s ({At:=u,D4:=lM (cf m s u).1}:gg).At).1==({At:=u,D4:=lM (cf m s u).1}:gg).D4)=true from beq_self_eq_true _]
  exact wS h2 _ _
theorem Hk:∀(k:Nat) {l:List Int} {m:au} {s:List ei} {L:List gg},kj m s l=(L,0)->k<L.length->∀(i last h:Int),h≠(L.getD k default).D4->
 ik m s i last (L.set k {At:=(L.getD k default).At,D4:=h})={Good:=false,D5:=i+k,At:=if k=0 then last else(L.getD (k-1) default).At}
 |k,[],m,s,L,h,hk,i,last,x,hx=>by rw[show L=[] from(Prod.mk.inj h).1.symm]at hk;exact absurd hk (fK _)
 |0,u::l,m,s,L,h,hk,i,last,x,hx=>by
  obtain⟨h1,K,e,h2⟩:=Mm h
  rw[e]at hx⊢
  have hx:x≠lM (cf m s u).1:=hx
  show ik m s i last ({At:=u,D4:=x}::K)=_
  unfold ik
  rw[show(lM (cf m s ({At:=u,D4:=x}:gg).At).1==({At:=u,D4:=x}:gg).D4)=false by show(lM (cf m s u).1==x)=false;simpa using λe=>hx e.symm,Bool.and_false]
  show _=({Good:=false,D5:=i+((0:Nat):Int),At:=last}:jN)
  rw[show i+((0:Nat):Int)=i by omega];rfl
 |k+1,u::l,m,s,L,h,hk,i,last,x,hx=>by
  obtain⟨h1,K,e,h2⟩:=Mm h
  rw[e]at hx hk⊢
  have hx:x≠(K.getD k default).D4:=hx
  have ih:=Hk k h2 (by simpa using hk) (i+1) u x hx
  show ik m s i last ({At:=u,D4:=lM (cf m s u).1}::K.set k {At:=(K.getD k default).At,D4:=x})=_
  unfold ik
  rw[show((cf m s ({At:=u,D4:=lM (cf m s u).1}:gg).At).2.2.2==0)=true by show((cf m s u).2.2.2==0)=true;rw[h1];rfl,show(lM (cf m s ({At:=u,D4:=lM (cf m s u).1}:gg).At).1==({At:=u,D4:=lM (cf m s u).1}:gg).D4)=true from beq_self_eq_true _]
  refine Eq.trans ih ?_
  rw[if_neg (Nat.succ_ne_zero k),show i+1+(k:Int)=i+((k+1:Nat):Int) by omega]
  congr 1
  cases k with
  |zero=>rfl
  |succ k=>rfl
theorem Zfa:∀(L:List gg) (m:au) (s:List ei) (i last:Int),(ik m s i last L).Good=true\/∃j:Nat,j<L.length/\(ik m s i last L).D5=i+j
 |[],m,s,i,last=>.inl rfl
 |c ::l,m,s,i,last=>by
  unfold ik
  cases((cf m s c.At).2.2.2==0)&&(lM (cf m s c.At).1==c.D4)
  ·exact .inr ⟨0,Nat.zero_lt_succ _,by show i=i+((0:Nat):Int);omega⟩
  ·rcases Zfa l (cf m s c.At).1 (s.drop (cf m s c.At).2.2.1.toNat) (i+1) c.At with h|⟨j,h1,h2⟩
   ·exact .inl h
   ·refine .inr ⟨j+1,by simpa using h1,?_⟩
    show(ik _ _ (i+1) c.At l).D5=_
    rw[h2];omega
def rz:Int->List Int->Prop
 |_,[]=>True
 |a,x::l=>a<=x/\rz x l
theorem vZ:∀{l:List Int} {a:Int},rz a l->∀j:Nat,j<l.length->a<=l.getD j 0
 |[],a,h,j,hj=>absurd hj (fK _)
 |x::l,a,h,0,hj=>h.1
 |x::l,a,h,j+1,hj=>Int.le_trans h.1 (vZ h.2 j (by simpa using hj))
def rA(s t:List ei)(k:Nat)(T:Int):Prop:=t.length=s.length/\k<s.length/\(gm s k).At=T/\(∀j:Nat,(gm t j).At=(gm s j).At/\(gm t j).C6.B9=(gm s j).C6.B9)/\∀j:Nat,j≠k->gm t j=gm s j
theorem Zmj{s t:List ei}{k:Nat}{T:Int}(h:rA s t k T):∀(n:Nat) {i:Int} {y:au} {P:Nat},ey P y->(∀e∈s,U e.C6.N)->0<=i->i<=k->y.A1<T->mf t n i y=mf s n i y/\(mf s n i y).1<=k
 |0,i,y,P,g,hu,h0,hk,hc=>⟨rfl,hk⟩
 |n +1,i,y,P,g,hu,h0,hk,hc=>by
  obtain⟨h1,h2,h3,h4,h5⟩:=h
  obtain⟨q,rfl⟩:∃q:Nat,i=q:=⟨i.toNat,by omega⟩
  have eb:uG t q y=uG s q y:=by unfold uG;rw[h1,(h4 q).1,(h4 q).2]
  rw[PA,PA,eb]
  cases hb:uG s q y
  ·exact⟨rfl,hk⟩
  ·have YJ:=hb
   unfold uG at YJ
   rw[aE,aE]at YJ
   have JA:(gm s q).At=y.A1:=eq_of_beq YJ.2.1
   have gl:q≠k:=λe=>by rw[e,h3]at JA;omega
   rw[h5 q gl]
   obtain⟨g1,c1⟩:=Uh g (sS hu h0 (by omega))
   exact Zmj ⟨h1,h2,h3,h4,h5⟩ n g1 hu (by omega) (by omega) (by omega)
set_option maxHeartbeats 1000000 in
theorem Zmt{s t:List ei}{k:Nat}{T:Int}(h:rA s t k T)(u:Int){P:Nat}(hu:∀e∈s,U e.C6.N):∀(n:Nat) {i:Int} {x:au} (out:List dx),ey P x->0<=i->i<=k->x.A1+n<=T->
 iK t u n i x out=iK s u n i x out/\((iK s u n i x out).2.2.2=0->(iK s u n i x out).2.2.1<=k)
 |0,i,x,out,g,h0,hk,hc=>⟨rfl,λ_=>hk⟩
 |n + 1,i,x,out,g,h0,hk,hc=>by
  obtain⟨h1,h2,h3,h4,h5⟩:=h
  have tw:rA s t k T:=⟨h1,h2,h3,h4,h5⟩
  obtain⟨ev,el⟩:=Zmj tw (s.length-i).toNat g hu h0 hk (by omega)
  have ke:=Uq (P:=P) hu (s.length-i).toNat g h0 (by omega) (aO _)
  rw[Jy,Jy,h1,ev]
  generalize mf s (s.length-i).toNat i x=E at el ke⊢
  obtain⟨j,y⟩:=E
  have el:j<=k:=el
  have CF:i<=j:=ke.lo
  have kg:ey P y:=ke.g
  have kc:y.A1=x.A1:=ke.c
  obtain⟨q,rfl⟩:∃q:Nat,j=q:=⟨j.toNat,by omega⟩
  cases Us:decide (x.A1<1152921504606846976)
  ·exact⟨rfl,λ_=>hk⟩
  have Us:=oY Us
  simp only[cond_true]
  unfold CE
  rw[h1,(h4 q).1]
  cases hh:y.A6
  rotate_left
  ·exact⟨rfl,λ_=>el⟩
  cases hi:sQ y
  rotate_left
  ·cases decide ((q:Int)<(s.length:Int))
   ·exact⟨rfl,λ_=>el⟩
   ·exact⟨rfl,λh=>absurd (show(1303:Int)=0 from h) (by decide)⟩
  have sk:mN y=false:=(Jp kg).2 ⟨hh,hi,by omega⟩
  have next:∀(c:Int) (p:Int),U c->0<=p->p<=k->iK t u n p (fv y c).2 (out++(fv y c).1)=iK s u n p (fv y c).2 (out++(fv y c).1)/\((iK s u n p (fv y c).2 (out++(fv y c).1)).2.2.2=0->(iK s u n p (fv y c).2 (out++(fv y c).1)).2.2.1<=k):=λc p hU p0 p1=>by
   obtain⟨g1,c1,_⟩:=Jq kg sk hU
   exact Zmt tw u hu n _ g1 p0 p1 (by omega)
  have bad:∀c:Int,c≠0->((lI,[],0,c):jt)=(lI,[],0,c)/\(((lI,[],0,c):jt).2.2.2=0->((lI,[],0,c):jt).2.2.1<=k):=λc hc=>⟨rfl,λe=>absurd e hc⟩
  simp only[cond_false]
  cases hl:decide ((q:Int)<(s.length:Int))
  ·simp only[cond_false]
   cases(false==oV y)
   ·exact bad 1302 (by decide)
   ·simp only[cond_true];exact next 0 q ek (by omega) el
  ·have uH:=oY hl
   simp only[cond_true]
   cases(((gm s q).At==y.A1)==oV y)
   ·exact bad 1302 (by decide)
   ·simp only[cond_true]
    cases ha:((gm s q).At==y.A1)
    ·simp only[cond_false];exact next 0 q ek (by omega) el
    ·simp only[cond_true]
     have JA:=eq_of_beq ha
     have gl:q≠k:=λe=>by rw[e,h3]at JA;omega
     rw[h5 q gl]
     exact next _ (q+1) (sS hu (by omega) uH) (by omega) (by omega)
theorem Zn9{s t:List ei}{k:Nat}{T:Int}(h:rA s t k T)(m:au)(u:Int):lX m t u=lX m s u:=by
 obtain⟨h1,h2,h3,h4,h5⟩:=h
 have hp:∀i:Nat,AU t i=AU s i:=λi=>by
  have a:=h4 i;have b:=h4 (i-1)
  unfold gm at a b
  rw[eD]at a b
  unfold AU
  rw[a.1,b.1,b.2]
 have ho:ki t=ki s:=by unfold ki;simp only[hp,h1]
 unfold lX
 have z:(gm t 0).At=(gm s 0).At:=(h4 0).1
 rw[h1,ho,z]
theorem yO{s t:List ei}{k:Nat}{T:Int}(h:rA s t k T){P:Nat}{m:au}(g:ey P m)(hu:∀e∈s,U e.C6.N){u:Int}(hT:u<=T):cf m t u=cf m s u/\((cf m s u).2.2.2=0->(cf m s u).2.2.1<=k):=by
 unfold cf
 rw[Zn9 h]
 by_cases hc:lX m s u=0
 ·rw[if_pos hc,if_pos hc]
  have:=(YI.1 hc).2.1
  exact Zmt h u hu _ _ g (cW 0) (by omega) (by omega)
 ·rw[if_neg hc,if_neg hc]
  exact⟨rfl,λe=>absurd e hc⟩
theorem vr{s t:List ei}{k:Nat}{T:Int}(h:rA s t k T){n:Nat}(hn:n<=k):rA (s.drop n) (t.drop n) (k-n) T:=by
 obtain⟨h1,h2,h3,h4,h5⟩:=h
 have e:∀(l:List ei) (j:Nat),gm (l.drop n) (j:Int)=gm l ((n+j:Nat):Int):=λl j=>by rw[<-xO l n (by omega)];congr 1
 refine⟨by rw[bF,bF,h1],by rw[bF];omega,by rw[e,show n+(k-n)=k by omega];exact h3,λj=>by rw[e,e];exact h4 _,λj hj=>by rw[e,e];exact h5 _ (by omega)⟩
theorem v6{s:List ei}(hu:∀e∈s,U e.C6.N)(n:Nat):∀e∈s.drop n,U e.C6.N:=λe he=>hu e (List.mem_of_mem_drop he)
theorem wT{T:Int}:∀{l:List Int} {P:Nat} {m:au} {s t:List ei} {k:Nat} {L:List gg} {a:Int},ey P m->(∀e∈s,U e.C6.N)->rA s t k T->rz a l->kj m s l=(L,0)->
 ∀i last,(ik m t i last L).Good=true\/∃j:Nat,j<L.length/\(ik m t i last L).D5=i+j/\T<(L.getD j default).At
 |[],P,m,s,t,k,L,a,g,hu,tw,ha,h,i,last=>by rw[show L=[] from(Prod.mk.inj h).1.symm];exact .inl rfl
 |u :: l,P,m,s,t,k,L,a,g,hu,tw,ha,h,i,last=>by
  obtain⟨h1,K,e,h2⟩:=Mm h
  by_cases hT:u<=T
  ·obtain⟨r1,r2⟩:=yO tw g hu hT
   have kp:=Zmk g hu h1
   have rk:=r2 h1
   have ih:=wT kp.g (v6 hu (cf m s u).2.2.1.toNat) (vr tw (n:=(cf m s u).2.2.1.toNat) (by have:=kp.lo;omega)) ha.2 h2 (i+1) u
   rw[e]
   unfold ik
   rw[show cf m t ({At:=u,D4:=lM (cf m s u).1}:gg).At=cf m s u from r1,show((cf m s u).2.2.2==0)=true by rw[h1];rfl,show(lM (cf m s u).1==({At:=u,D4:=lM (cf m s u).1}:gg).D4)=true from beq_self_eq_true _]
   rcases ih with ih|⟨j,j1,j2,j3⟩
   ·exact .inl ih
   ·refine .inr ⟨j+1,by simpa using j1,?_,j3⟩
    show(ik _ _ (i+1) u K).D5=_
    rw[j2];omega
  ·rcases Zfa L m t i last with h3|⟨j,j1,j2⟩
   ·exact .inl h3
   ·refine .inr ⟨j,j1,j2,?_⟩
    have hm:=Ut h
    have hj:(L.map (·.At)).getD j 0=(L.getD j default).At:=by
     rw[cP,cP,fL,cG j1];rfl
    rw[hm]at hj
    have hl:j<(u::l).length:=by rw[<-hm,fH];exact j1
    have:=vZ (l:=u::l) (a:=u) ⟨cW u,ha.2⟩ j hl
    omega
theorem Uu:kD lI:=⟨ek,ek⟩
theorem y7(s:List ei):∀(n:Nat) (i:Int) (x:au),kD x->kD (mf s n i x).2
 |0,i,x,h=>h
 |n+1,i,x,h=>by
  rw[PA]
  cases uG s i x
  ·exact h
  ·exact y7 s n _ _ (qaN h _)
theorem v7{P:Nat}{s:List ei}(hu:∀e∈s,U e.C6.N)(u:Int):∀(k:Nat) {i:Int} {x:au} (out:List dx),ey P x->kD x->0<=i->i<=s.length->kD (iK s u k i x out).1
 |0,i,x,out,g,d,h0,h1=>d
 |k + 1,i,x,out,g,d,h0,h1=>by
  rw[Jy]
  cases hc:decide (x.A1<1152921504606846976)
  ·exact d
  have Us:=oY hc
  have ke:=Uq (P:=P) hu (s.length-i).toNat g h0 h1 (aO _)
  have de:=y7 s (s.length-i).toNat i x d
  generalize mf s (s.length-i).toNat i x=E at ke de⊢
  obtain⟨j,y⟩:=E
  have CF:i<=j:=ke.lo
  have Jz:j<=s.length:=ke.hi
  have kg:ey P y:=ke.g
  have kc:y.A1=x.A1:=ke.c
  have dy:kD y:=de
  rw[cond_true]
  unfold CE
  cases hh:y.A6
  rotate_left
  ·exact dy
  cases hi:sQ y
  rotate_left
  ·cases decide (j<(s.length:Int))
   ·exact dy
   ·exact Uu
  have sk:mN y=false:=(Jp kg).2 ⟨hh,hi,by omega⟩
  have next:∀(c:Int) (p:Int),U c->0<=p->p<=s.length->kD (iK s u k p (fv y c).2 (out++(fv y c).1)).1:=λc p hU p0 p1=>
   v7 hu u k _ (Jq kg sk hU).1 (qZ kg dy c) p0 p1
  rw[cond_false,cond_false]
  cases hl:decide (j<(s.length:Int))
  ·rw[cond_false]
   cases(false==oV y)
   ·exact Uu
   ·exact next 0 j ek (by omega) Jz
  ·have uH:=oY hl
   rw[cond_true]
   cases((gm s j).At==y.A1)==oV y
   ·exact Uu
   ·cases(gm s j).At==y.A1
    ·exact next 0 j ek (by omega) Jz
    ·exact next _ (j+1) (sS hu (by omega) uH) (by omega) (by omega)
theorem zaO{P:Nat}{m:au}(g:ey P m)(d:kD m){s:List ei}(hu:∀e∈s,U e.C6.N)(u:Int):kD (cf m s u).1:=by
 unfold cf
 split
 ·exact v7 hu u _ _ g d (cW 0) (by omega)
 ·exact Uu
theorem qt(m:au):lM m=Po 14695981039346656037 (sR m):=rfl
theorem Hl{P:Nat}{m:au}(g:ey P m)(d:kD m):Un m/\Uo m=lM m:=by
 obtain⟨a,b⟩:=qau g.v (Zlr g d) (by have:=g.len;omega)
 exact⟨a,b.trans (vp _ _)⟩
theorem Zqe(s:List UInt8)(hl:s.length<=1000000):0<=Po 14695981039346656037 s/\Po 14695981039346656037 s<18446744073709551616:=by
 have h:(YL 14695981039346656037 s).w (λr=>0<=r/\r<18446744073709551616):=by
  unfold YL
  refine ga (inv:=λv:Int×Int=>(0<=v.2/\v.2<=s.length)/\0<=v.1/\v.1<18446744073709551616) (μ:=Qpt 14695981039346656037 s) ⟨⟨cW 0,by show(0:Int)<=_;omega⟩,by decide,by decide⟩ (cO _) λv ⟨⟨a,b⟩,c⟩=>?_
  refine aa (λhb=>?_) λ_=>ez c
  have hb:=oY hb
  have ew:i64.wrap (v.2+1)=v.2+1:=by rw[wrap_i64];omega
  refine ba (dY ⟨a,hb⟩) (fh ?_)
  show((0<=i64.wrap (v.2+1)/\i64.wrap (v.2+1)<=s.length)/\0<=wrap .u64 _/\wrap .u64 _<18446744073709551616)/\(s.length-i64.wrap (v.2+1)).toNat<(s.length-v.2).toNat
  rw[ew]
  exact⟨⟨⟨by omega,by omega⟩,YD _⟩,by omega⟩
 exact Tree.post _ h
theorem Zl9{P:Nat}{m:au}(g:ey P m)(d:kD m):0<=lM m/\lM m<18446744073709551616:=by
 have e:=Zlr g d
 have:=Tree.post _ (Zly g.v e.r (by have:=g.len;omega) e.k e.o)
 rw[qt]
 refine Zqe _ ?_
 have h1:YM m=sR m:=this.1
 rw[<-h1]
 have:=this.2
 change(YM m).length<=_ at this
 omega
attribute [local irreducible] lM
theorem YN{α:Type}{l:List α}{i:Int}(h0:0<=i)(h:i<l.length)(d:α):l.drop i.toNat=l.getD i.toNat d::l.drop (i+1).toNat:=by
 have cg:i.toNat<l.length:=by omega
 rw[show(i+1).toNat=i.toNat+1 by omega,cP,cG cg]
 exact aB cg
def ng:Int->List Int->Bool
 |_,[]=>true
 |a,x::l=>bif decide (x<a)then false else bif decide (wrap .u64 (x-a)>4000)then false else ng x l
def j4(m:au)(s:List ei)(l:List Int):Int:=bif ng m.A1 l then lX m s m.A1 else 4300
theorem YO(m:au)(s:List ei):(cf m s m.A1).2.2.2=lX m s m.A1:=by
 by_cases h:lX m s m.A1=0
 ·rw[xr h,h,show(m.A1-m.A1).toNat=0 by omega];rfl
 ·rw[Zn2 h]
theorem vO{l:List Int}{i:Int}(h0:0<=i)(h:i<l.length)(a:Int):ng a (l.drop i.toNat)=bif decide (l.getD i.toNat 0<a)then false else bif decide (wrap .u64 (l.getD i.toNat 0-a)>4000)then false else ng (l.getD i.toNat 0) (l.drop (i+1).toNat):=by
 rw[YN h0 h 0];rfl
theorem qav{l:List Int}{i:Int}(h:¬i<l.length)(a:Int):ng a (l.drop i.toNat)=true:=by
 rw[aA (by omega)];rfl
section
variable {m:au} (hv:sP m) (hc:m.A1<18446744073709551616) {s:List ei} (hs:s.length<=1000000) (hu:∀e∈s,U e.C6.N)
include hv hc hs hu
theorem Znp{l:List Int}(hl:l.length<=400):(PC m s l).w (λe=>e=j4 m s l):=by
 unfold PC
 refine aa (λh=>by have:=oY h;omega) λ_=>?_
 refine ga (inv:=λv:Int×Int=>0<=v.2/\v.2<=l.length/\ng m.A1 l=ng v.1 (l.drop v.2.toNat)) (μ:=Qlh m s l) ⟨cW 0,by show(0:Int)<=_;omega,rfl⟩ (cO _) λv ⟨a,b,c⟩=>?_
 obtain⟨last,i⟩:=v
 have a:0<=i:=a
 have b:i<=l.length:=b
 have c:ng m.A1 l=ng last (l.drop i.toNat):=c
 refine aa (λhb=>?_) λhb=>?_
 ·have hb:i<l.length:=oY hb
  have ew:i64.wrap (i+1)=i+1:=by rw[wrap_i64];omega
  rw[vO a hb]at c
  refine ba (by simp[bJ];omega) (aa (λh1=>ez ?_) λh1=>aa (λh2=>ez ?_) λh2=>fh ?_)
  ·show(4300:Int)=j4 m s l
   have h1:decide (l.getD i.toNat 0<last)=true:=h1
   rw[h1]at c
   unfold j4;rw[c];rfl
  ·show(4300:Int)=j4 m s l
   have h1:decide (l.getD i.toNat 0<last)=false:=h1
   have h2:decide (wrap .u64 (l.getD i.toNat 0-last)>4000)=true:=h2
   rw[h1,h2]at c
   unfold j4;rw[c];rfl
  ·have h1:decide (l.getD i.toNat 0<last)=false:=h1
   have h2:decide (wrap .u64 (l.getD i.toNat 0-last)>4000)=false:=h2
   rw[h1,h2]at c
   show(0<=i64.wrap (i+1)/\i64.wrap (i+1)<=l.length/\ng m.A1 l=ng (l.getD i.toNat 0) (l.drop (i64.wrap (i+1)).toNat))/\(l.length-i64.wrap (i+1)).toNat<(l.length-i).toNat
   rw[ew]
   exact⟨⟨by omega,by omega,c⟩,by omega⟩
 ·have hb:¬i<l.length:=oN hb
  rw[qav hb]at c
  refine bm (yq hv hs hu hv.lU hc) λx0 ⟨e0,_⟩=>ez ?_
  show x0.2.2.2=j4 m s l
  unfold j4;rw[c,e0,YO];rfl
end
def comb(vl:List gg)(q:List gg×Int):List gg×Int:=bif q.2==0 then(vl++q.1,0)else([],q.2)
theorem Z95(m:au)(s:List ei)(u:Int)(l:List Int):kj m s (u::l)=bif(cf m s u).2.2.2==0 then comb [{At:=u,D4:=lM (cf m s u).1}] (kj (cf m s u).1 (s.drop (cf m s u).2.2.1.toNat) l)else([],(cf m s u).2.2.2):=rfl
theorem xt(a b:List gg)(q:List gg×Int):comb a (comb b q)=comb (a++b) q:=by
 unfold comb
 cases h:q.2==0
 ·show(bif q.2==0 then _ else _)=_
  rw[h];rfl
 ·show((a++(b++q.1),(0:Int)):List gg×Int)=(a++b++q.1,0)
  rw[fF]
theorem Zho{sc:List ei}{i:Int}(h0:0<=i)(h1:i<=sc.length):dB (((sc.length:Nat):Int).toNat-i.toNat) (dC i.toNat sc)=sc.drop i.toNat:=by
 rw[eD]
 exact fM (by rw[bF];omega)
theorem yt{i hash err:Int}{kT:List gg}{lg:List Int}{tP:Int}(h0:0<=i)(h1:i<lg.length)(h2:kT.length<=1000000):(PD i hash err kT lg tP).w (λr=>r=(true,kT++[{At:=lg.getD i.toNat 0,D4:=hash}],lg,err)):=by
 unfold PD
 exact ba (dY ⟨h0,h1⟩) (ba (dY (by omega)) (ez rfl))
structure AV(P:Nat)(x:au)(sc:List ei):Prop where
 g:ey P x
 d:kD x
 hs:sc.length<=1000000
 hu:∀e∈sc,U e.C6.N
theorem AV.next{P:Nat}{x:au}{sc:List ei}(h:AV P x sc){u:Int}(he:(cf x sc u).2.2.2=0):AV P (cf x sc u).1 (sc.drop (cf x sc u).2.2.1.toNat)/\0<=(cf x sc u).2.2.1/\(cf x sc u).2.2.1<=sc.length:=by
 have k:=Zmk h.g h.hu he
 exact⟨⟨k.g,zaO h.g h.d h.hu u,by rw[bF];have:=h.hs;omega,v6 h.hu _⟩,k.lo,k.hi⟩
theorem vt{P:Nat}{m:au}{s:List ei}(st:AV P m s){l:List Int}(hl:l.length<=400)(hr:∀x∈l,0<=x/\x<18446744073709551616):
 (PE m s l [] l 0).w (λr=>(bif r.2.2==0 then(r.1,0)else([],r.2.2))=kj m s l):=by
 unfold PE
 refine ga (inv:=λv:List ei×Int×List Int×Int×List gg×au=>0<=v.2.1/\v.2.1<=l.length/\v.2.2.1=l/\v.2.2.2.1=0/\AV P v.2.2.2.2.2 v.1/\(v.2.2.2.2.1.length:Int)=v.2.1/\comb v.2.2.2.2.1 (kj v.2.2.2.2.2 v.1 (l.drop v.2.1.toNat))=kj m s l) (μ:=Qg1 m s l [] l 0)
  ⟨cW 0,by show(0:Int)<=_;omega,rfl,rfl,st,rfl,?_⟩ (cO _) λv ⟨a1,a2,a3,a4,a5,a6,a7⟩=>?_
 ·show comb [] (kj m s l)=_
  unfold comb
  cases h:(kj m s l).2==0
  ·have:∀q:List gg×Int,kj m s l=q->(q.2==0)=false->q.1=[]:=λq hq hz=>by
    cases l with
    |nil=>rw[<-hq]at hz;cases hz
    |cons u l=>
     rw[Z95]at hq
     cases h1:(cf m s u).2.2.2==0
     ·rw[h1]at hq;rw[<-hq];rfl
     ·rw[h1]at hq
      rw[<-hq]at hz⊢
      have hz:((comb [{At:=u,D4:=lM (cf m s u).1}] (kj (cf m s u).1 (s.drop (cf m s u).2.2.1.toNat) l)).2==0)=false:=hz
      show(comb [{At:=u,D4:=lM (cf m s u).1}] (kj (cf m s u).1 (s.drop (cf m s u).2.2.1.toNat) l)).1=[]
      unfold comb at hz⊢
      generalize kj (cf m s u).1 (s.drop (cf m s u).2.2.1.toNat) l=w at hz⊢
      cases h2:w.2==0
      ·rfl
      ·rw[h2]at hz;cases hz
   have h3:=this _ rfl h
   generalize kj m s l=q at h h3⊢
   obtain⟨q1,q2⟩:=q
   have h3:q1=[]:=h3
   rw[h3];rfl
  ·generalize kj m s l=q at h⊢
   obtain⟨q1,q2⟩:=q
   have h:(q2==0)=true:=h
   rw[show q2=0 from eq_of_beq h];rfl
 obtain⟨sc,i,va,vf,vl,x⟩:=v
 have a1:0<=i:=a1
 have a2:i<=l.length:=a2
 have a3:va=l:=a3
 have a4:vf=0:=a4
 subst a3;subst a4
 have a5:AV P x sc:=a5
 have a6:(vl.length:Int)=i:=a6
 have a7:comb vl (kj x sc (va.drop i.toNat))=kj m s va:=a7
 refine aa (λhb=>?_) λhb=>ez ?_
 ·have hb:i<va.length:=oY hb
  have ew:i64.wrap (i+1)=i+1:=by rw[wrap_i64];omega
  have ru:=hr (va.getD i.toNat 0) (by rw[cP,cG (show i.toNat<va.length by omega)];exact fI _)
  rw[YN a1 hb 0,Z95]at a7
  refine ba (by simp[bJ];omega) (bm (yq a5.g.v a5.hs a5.hu ru.1 ru.2) λx0 ⟨e0,_,_⟩=>?_)
  have e0:x0=cf x sc (va.getD i.toNat 0):=e0
  refine aa (λhe=>bm (yt a1 hb (by omega)) λx1 e1=>ez ?_) λhe=>?_
  ·have he:(x0.2.2.2==0)=false:=by simpa using he
   rw[e1]
   show(bif x0.2.2.2==0 then((_,0):List gg×Int)else([],x0.2.2.2))=kj m s va
   rw[he,<-a7]
   rw[e0]at he⊢
   rw[he]
   show(([],_):List gg×Int)=comb vl ([],_)
   unfold comb
   show _=bif(cf x sc (va.getD i.toNat 0)).2.2.2==0 then _ else _
   rw[he];rfl
  ·have he:x0.2.2.2=0:=by simpa using he
   have JB:(cf x sc (va.getD i.toNat 0)).2.2.2=0:=by rw[<-e0];exact he
   obtain⟨sn,n1,n2⟩:=a5.next JB
   have pA:((cf x sc (va.getD i.toNat 0)).2.2.2==0)=true:=by rw[JB];rfl
   rw[pA]at a7
   have a7:comb vl (comb [{At:=va.getD i.toNat 0,D4:=lM (cf x sc (va.getD i.toNat 0)).1}] (kj (cf x sc (va.getD i.toNat 0)).1 (sc.drop (cf x sc (va.getD i.toNat 0)).2.2.1.toNat) (va.drop (i+1).toNat)))=kj m s va:=a7
   rw[xt]at a7
   rw[<-e0]at sn n1 n2 a7
   obtain⟨hp,hh⟩:=Hl sn.g sn.d
   refine ba (by simp[bJ];omega) (cz hp (ar λx2 e2=>bm (yt a1 hb (by omega)) λx3 e3=>?_))
   rw[e3]
   refine aa (λh=>by cases h) λ_=>fh ?_
   show(0<=i64.wrap (i+1)/\i64.wrap (i+1)<=va.length/\va=va/\(0:Int)=0/\AV P x0.1 (dB (((sc.length:Nat):Int).toNat-x0.2.2.1.toNat) (dC x0.2.2.1.toNat sc))/\((vl++[({At:=va.getD i.toNat 0,D4:=x2}:gg)]).length:Int)=i64.wrap (i+1)/\comb (vl++[({At:=va.getD i.toNat 0,D4:=x2}:gg)]) (kj x0.1 (dB (((sc.length:Nat):Int).toNat-x0.2.2.1.toNat) (dC x0.2.2.1.toNat sc)) (va.drop (i64.wrap (i+1)).toNat))=kj m s va)/\(va.length-i64.wrap (i+1)).toNat<(va.length-i).toNat
   rw[ew,Zho n1 n2,e2,hh,lA,cZ]
   exact⟨⟨by omega,by omega,rfl,rfl,sn,by omega,a7⟩,by omega⟩
 ·have hb:¬i<va.length:=oN hb
  rw[aA (by omega)]at a7
  show(bif(0:Int)==0 then(vl,(0:Int))else([],0))=_
  rw[<-a7]
  show(vl,(0:Int))=(vl++[],0)
  rw[cJ]
def Hm(m:au)(s:List ei)(l:List Int):List gg×Int:=bif j4 m s l==0 then kj m s l else([],j4 m s l)
theorem Ze7{m:au}{s:List ei}{l:List Int}(h:j4 m s l=0):ng m.A1 l=true/\lX m s m.A1=0:=by
 unfold j4 at h
 cases hp:ng m.A1 l
 ·rw[hp]at h;exact absurd (show(4300:Int)=0 from h) (by decide)
 ·rw[hp]at h;exact⟨rfl,h⟩
theorem Znw{m:au}(hv:sP m){s:List ei}{u:Int}(h:lX m s u=0):∃P,ey P m:=by
 have mm:nc m=true:=by rw[LX hv];simpa using(YI.1 h).1
 obtain⟨P,gS,gM⟩:=wO hv mm
 exact⟨P,gM,mm⟩
theorem qu{m:au}(hv:sP m)(hc:m.A1<18446744073709551616)(d:kD m){s:List ei}(hs:s.length<=1000000)(hu:∀e∈s,U e.C6.N){l:List Int}(hl:l.length<=400)(hr:∀x∈l,0<=x/\x<18446744073709551616):(PF m s l).w (λr=>r=Hm m s l):=by
 unfold PF
 refine bm (Znp hv hc hs hu hl) λx0 e0=>?_
 refine aa (λh=>ez ?_) λh=>?_
 ·have h:(x0==0)=false:=by simpa using h
  unfold Hm;rw[<-e0,h];rfl
 ·have h:x0=0:=by simpa using h
  have h0:j4 m s l=0:=e0.symm.trans h
  obtain⟨P,g⟩:=Znw hv (Ze7 h0).2
  refine bm (vt ⟨g,d,hs,hu⟩ hl hr) λx1 e1=>?_
  have em:Hm m s l=kj m s l:=by unfold Hm;rw[h0];rfl
  rw[em,<-e1]
  refine aa (λh=>ez ?_) λh=>ez ?_
  ·have h:(x1.2.2==0)=false:=by simpa using h
   rw[h];rfl
  ·have h:(x1.2.2==0)=true:=by simpa using h
   rw[h];rfl
abbrev jR(l:List gg)(i:Int):gg:=l.getD i.toNat (RK.cj RK.ag)
def nM(i last:Int):jN:={Good:=false,D5:=i,At:=last}
def Bu(m:au)(va:List Int)(i:Int):Int:=if i>0 then va.getD (i-1).toNat 0 else m.A1
theorem xaO(l:List gg)(n:Nat):(l.map (·.At)).getD n 0=(l.getD n (RK.cj RK.ag)).At:=by
 rw[cP,cP,fL]
 cases l[n]? <;>rfl
theorem qP(m:au)(s:List ei)(i last:Int)(c:gg)(l:List gg):ik m s i last (c::l)=bif((cf m s c.At).2.2.2==0)&&(lM (cf m s c.At).1==c.D4)then ik (cf m s c.At).1 (s.drop (cf m s c.At).2.2.1.toNat) (i+1) c.At l else nM i last:=rfl
theorem Zn7{i hash err:Int}{kT:List gg}{lg:au}{tP:jN}{nT:List Int}(h0:0<=i)(h1:i<kT.length)(h3:nT.length=kT.length)(hl:kT.length<=1000000):
 (PG i hash err kT lg tP nT).w (λr=>r=((err==0)&&(hash==(jR kT i).D4),kT,lg,bif(err==0)&&(hash==(jR kT i).D4)then tP else nM i (Bu lg nT i),nT)):=by
 unfold PG
 have ew:i64.wrap (i-1)=i-1:=by rw[wrap_i64];omega
 have bad:∀b:Bool,b=false->(Tree.br (decide (i>0)) (.cn (decide (0<=i64.wrap (i-1)/\i64.wrap (i-1)<((nT.length:Nat):Int))) (.lf ((false,kT,lg,{Good:=false,D5:=i,At:=nT.getD (i64.wrap (i-1)).toNat 0},nT):Bool×List gg×au×jN×List Int))) (.lf (false,kT,lg,{Good:=false,D5:=i,At:=lg.A1},nT))).w (λr=>r=(b,kT,lg,bif b then tP else nM i (Bu lg nT i),nT)):=λb hb=>by
  subst hb
  refine aa (λh=>ba (dY (by have:=oY h;rw[ew];omega)) (ez ?_)) λh=>ez ?_
  ·have h:=oY h
   rw[ew]
   show _=((false,kT,lg,nM i (Bu lg nT i),nT):Bool×List gg×au×jN×List Int)
   unfold nM Bu;rw[if_pos h]
  ·have h:=oN h
   show _=((false,kT,lg,nM i (Bu lg nT i),nT):Bool×List gg×au×jN×List Int)
   unfold nM Bu;rw[if_neg h]
 refine aa (λhe=>ba (by simp[bJ];omega) (aa (λhh=>ez ?_) λhh=>?_)) λhe=>?_
 ·have hh:(hash==(jR kT i).D4)=true:=hh
  rw[he,hh];rfl
 ·have hh:(hash==(jR kT i).D4)=false:=hh
  exact bad _ (by rw[he,hh];rfl)
 ·exact bad _ (by rw[he];rfl)
theorem xu{P:Nat}{m:au}{s:List ei}(st:AV P m s){l:List gg}(hl:l.length<=400)(hr:∀c∈l,0<=c.At/\c.At<18446744073709551616):
 (PH m s (l.map (·.At)) l m {Good:=true,D5:=0,At:=0} (l.map (·.At))).w (λr=>r.2.2.1=ik m s 0 m.A1 l):=by
 unfold PH
 refine ga (inv:=λv:List ei×Int×List gg×au×jN×List Int×au=>0<=v.2.1/\v.2.1<=l.length/\v.2.2.1=l/\v.2.2.2.1=m/\v.2.2.2.2.1={Good:=true,D5:=0,At:=0}/\v.2.2.2.2.2.1=l.map (·.At)/\AV P v.2.2.2.2.2.2 v.1/\ik v.2.2.2.2.2.2 v.1 v.2.1 (Bu m (l.map (·.At)) v.2.1) (l.drop v.2.1.toNat)=ik m s 0 m.A1 l) (μ:=Qfu m s (l.map (·.At)) l m {Good:=true,D5:=0,At:=0} (l.map (·.At)))
  ⟨cW 0,by show(0:Int)<=_;omega,rfl,rfl,rfl,rfl,st,rfl⟩ (cO _) λv ⟨a1,a2,a3,a4,a5,a6,a7,a8⟩=>?_
 obtain⟨sc,i,vl,vm,vv,va,x⟩:=v
 have a1:0<=i:=a1
 have a2:i<=l.length:=a2
 have a3:vl=l:=a3
 have a4:vm=m:=a4
 have a5:vv={Good:=true,D5:=0,At:=0}:=a5
 have a6:va=l.map (·.At):=a6
 subst a3;subst a4;subst a5;subst a6
 have a7:AV P x sc:=a7
 have a8:ik x sc i (Bu vm (vl.map (·.At)) i) (vl.drop i.toNat)=ik vm s 0 vm.A1 vl:=a8
 have ml:(vl.map (·.At)).length=vl.length:=fH ..
 have vl6:vl.length<=1000000:=by omega
 refine aa (λhb=>?_) λhb=>ez ?_
 ·have hb:i<((vl.map (·.At)).length:Nat):=oY hb
  have hb:i<vl.length:=by rw[ml]at hb;exact hb
  have ew:i64.wrap (i+1)=i+1:=by rw[wrap_i64];omega
  have em:(vl.map (·.At)).getD i.toNat 0=(jR vl i).At:=xaO vl i.toNat
  have ru:=hr (jR vl i) (by show vl.getD i.toNat _∈vl;rw[cP,cG (show i.toNat<vl.length by omega)];exact fI _)
  rw[YN a1 hb (RK.cj RK.ag)]at a8
  have a8:ik x sc i (Bu vm (vl.map (·.At)) i) (jR vl i::vl.drop (i+1).toNat)=ik vm s 0 vm.A1 vl:=a8
  rw[qP]at a8
  refine ba (by simp[bJ];omega) ?_
  show(Tree.an (PI x sc ((vl.map (·.At)).getD i.toNat 0)) _).w _
  rw[em]
  refine bm (yq a7.g.v a7.hs a7.hu ru.1 ru.2) λx0 ⟨e0,_,_⟩=>?_
  have e0:x0=cf x sc (jR vl i).At:=e0
  refine aa (λhe=>bm (Zn7 a1 hb ml vl6) λx1 e1=>ez ?_) λhe=>?_
  ·have he:(x0.2.2.2==0)=false:=by simpa using he
   have JB:((cf x sc (jR vl i).At).2.2.2==0)=false:=by rw[<-e0];exact he
   rw[JB]at a8
   rw[e1,<-a8]
   show(bif(x0.2.2.2==0)&&_ then _ else nM i _)=_
   rw[he];rfl
  ·have he:x0.2.2.2=0:=by simpa using he
   have JB:(cf x sc (jR vl i).At).2.2.2=0:=by rw[<-e0];exact he
   obtain⟨sn,n1,n2⟩:=a7.next JB
   have pA:((cf x sc (jR vl i).At).2.2.2==0)=true:=by rw[JB];rfl
   rw[pA,fN]at a8
   rw[<-e0]at sn n1 n2 a8
   obtain⟨hp,hh⟩:=Hl sn.g sn.d
   refine ba (by simp[bJ];omega) (cz hp (ar λx2 e2=>bm (Zn7 a1 hb ml vl6) λx3 e3=>?_))
   have e2:x2=lM x0.1:=e2.trans hh
   rw[<-e2]at a8
   have z:(((0:Int)==0)&&(x2==(jR vl i).D4))=(x2==(jR vl i).D4):=fN _
   rw[z]at e3
   rw[e3]
   refine aa (λh=>ez ?_) λh=>fh ?_
   ·have h:(x2==(jR vl i).D4)=false:=by simpa using h
    rw[h]at a8
    show(bif(x2==(jR vl i).D4)then _ else nM i _)=_
    rw[h];exact a8
   ·have h:(x2==(jR vl i).D4)=true:=by simpa using h
    rw[h]at a8
    have a8:ik x0.1 (sc.drop x0.2.2.1.toNat) (i+1) (jR vl i).At (vl.drop (i+1).toNat)=ik vm s 0 vm.A1 vl:=a8
    have la:Bu vm (vl.map (·.At)) (i+1)=(jR vl i).At:=by
     unfold Bu;rw[if_pos (by omega),show i+1-1=i by omega];exact em
    show(0<=i64.wrap (i+1)/\i64.wrap (i+1)<=vl.length/\vl=vl/\vm=vm/\(bif(x2==(jR vl i).D4)then({Good:=true,D5:=0,At:=0}:jN)else nM i _)={Good:=true,D5:=0,At:=0}/\vl.map (·.At)=vl.map (·.At)/\AV P x0.1 (dB (((sc.length:Nat):Int).toNat-x0.2.2.1.toNat) (dC x0.2.2.1.toNat sc))/\ik x0.1 (dB (((sc.length:Nat):Int).toNat-x0.2.2.1.toNat) (dC x0.2.2.1.toNat sc)) (i64.wrap (i+1)) (Bu vm (vl.map (·.At)) (i64.wrap (i+1))) (vl.drop (i64.wrap (i+1)).toNat)=ik vm s 0 vm.A1 vl)/\((vl.map (·.At)).length-i64.wrap (i+1)).toNat<((vl.map (·.At)).length-i).toNat
    rw[ew,Zho n1 n2,la,h,ml]
    exact⟨⟨by omega,by omega,rfl,rfl,rfl,rfl,sn,a8⟩,by omega⟩
 ·have hb:¬i<((vl.map (·.At)).length:Nat):=oN hb
  have hb:¬i<vl.length:=by rw[ml]at hb;exact hb
  rw[aA (by omega)]at a8
  exact a8
def El(m:au)(s:List ei)(l:List gg):jN×Int:=bif j4 m s (l.map (·.At))==0 then(ik m s 0 m.A1 l,0)else(nM 0 0,j4 m s (l.map (·.At)))
theorem xP{l:List gg}{i:Int}(h0:0<=i)(h:i<l.length):(l.take i.toNat).map (·.At)++[(jR l i).At]=(l.take (i+1).toNat).map (·.At):=by
 have cg:i.toNat<l.length:=by omega
 rw[show(i+1).toNat=i.toNat+1 by omega,<-List.take_append_getElem cg,bL,List.map_singleton]
 congr 2
 show(l.getD i.toNat _).At=_
 rw[cP,cG cg];rfl
section
variable {m:au} (hv:sP m) (hc:m.A1<18446744073709551616) (d:kD m) {s:List ei} (hs:s.length<=1000000) (hu:∀e∈s,U e.C6.N) {l:List gg} (hl:l.length<=400) (hr:∀c∈l,0<=c.At/\c.At<18446744073709551616)
include hv hc d hs hu hl hr
theorem YP:(Mn m s l).w (λr=>r=El m s l):=by
 unfold Mn
 refine ga (inv:=λv:Int×List Int=>0<=v.1/\v.1<=l.length/\v.2=(l.take v.1.toNat).map (·.At)) (μ:=Qko m s l) ⟨cW 0,by show(0:Int)<=_;omega,rfl⟩ (cO _) λv ⟨a1,a2,a3⟩=>?_
 obtain⟨i,out⟩:=v
 have a1:0<=i:=a1
 have a2:i<=l.length:=a2
 have a3:out=(l.take i.toNat).map (·.At):=a3
 have ol:out.length<=400:=by rw[a3,fH,List.length_take];omega
 refine aa (λhb=>?_) λhb=>?_
 ·have hb:i<l.length:=oY hb
  have ew:i64.wrap (i+1)=i+1:=by rw[wrap_i64];omega
  refine ba (by simp[bJ];omega) (ba (dY (by show 8*(out.length+1)<=_;omega)) (fh ?_))
  show(0<=i64.wrap (i+1)/\i64.wrap (i+1)<=l.length/\out++[(jR l i).At]=(l.take (i64.wrap (i+1)).toNat).map (·.At))/\(l.length-i64.wrap (i+1)).toNat<(l.length-i).toNat
  rw[ew,a3]
  exact⟨⟨by omega,by omega,xP a1 hb⟩,by omega⟩
 ·have hb:¬i<l.length:=oN hb
  have a3:out=l.map (·.At):=by rw[a3,fM (by omega)]
  subst a3
  refine bm (Znp hv hc hs hu ol) λx0 e0=>?_
  refine aa (λh=>ez ?_) λh=>?_
  ·have h:(x0==0)=false:=by simpa using h
   show(nM 0 0,x0)=El m s l
   unfold El;rw[<-e0,h];rfl
  ·have h:x0=0:=by simpa using h
   have h0:j4 m s (l.map (·.At))=0:=e0.symm.trans h
   obtain⟨P,g⟩:=Znw hv (Ze7 h0).2
   refine bm (xu ⟨g,d,hs,hu⟩ hl hr) λx1 e1=>ez ?_
   show(x1.2.2.1,(0:Int))=El m s l
   unfold El;rw[h0,e1];rfl
end
structure Hn(m:au)(s:List ei):Prop where
 st:AV 8 m s
 c:m.A1<=87
theorem zav{kind:Int}{prog events:List Int}(hl:prog.length*8<=reachBytes)(Bt:prog.length<=60)(h20:events.length<=20):(PJ kind prog events).w (λr=>Hn r.1 r.2):=by
 unfold PJ
 refine xas hl Bt (by omega) λm x hm g gc hx gp=>ez ?_
 have n:=Jt g gc
 have u:=zZ events (s:=({A0:=m,B3:=0,C8:=[],B0:=[]},[])) n.g n.q (λe he=>by cases he)
 rw[<-hx]at u
 exact⟨⟨g,by rw[hm];exact Z9l kind prog hl Bt,by have:=gp.l;show x.1.C8.length<=1000000;omega,u⟩,gc⟩
theorem Zlz:∀{l:List Int} {a y:Int},rz a l->a<=y->(∀x∈l,x<=y)->rz a (l++[y])
 |[],a,y,h,h1,h2=>⟨h1,trivial⟩
 |x::l,a,y,h,h1,h2=>⟨h.1,Zlz h.2 (h2 x (by simp)) λz hz=>h2 z (by simp[hz])⟩
structure wU(c:Int)(r:List Int):Prop where
 asc:rz c r
 le:∀x∈r,c<=x/\x<=c+200
theorem xav{m:au}(h0:0<=m.A1)(hc:m.A1<=87){l:List Int}(hl:l.length<=10):(PK m l).w (λr=>r.length=l.length/\wU m.A1 r):=by
 unfold PK
 refine ga (inv:=λv:Int×Int×List Int=>0<=v.2.1/\v.2.1<=l.length/\m.A1<=v.1/\v.1<=m.A1+20*v.2.1/\(v.2.2.length:Int)=v.2.1/\rz m.A1 v.2.2/\∀x∈v.2.2,m.A1<=x/\x<=v.1) (μ:=Qf7 m l) ⟨cW 0,by show(0:Int)<=_;omega,cW _,by show m.A1<=m.A1+20*0;omega,rfl,trivial,λx hx=>by cases hx⟩ (cO _) λv ⟨a1,a2,a3,a4,a5,a6,a7⟩=>?_
 obtain⟨dh,i,out⟩:=v
 have a1:0<=i:=a1
 have a2:i<=l.length:=a2
 have a3:m.A1<=dh:=a3
 have a4:dh<=m.A1+20*i:=a4
 have a5:(out.length:Int)=i:=a5
 have a6:rz m.A1 out:=a6
 have a7:∀x∈out,m.A1<=x/\x<=dh:=a7
 refine aa (λhb=>?_) λhb=>ez ?_
 ·have hb:i<l.length:=oY hb
  have ew:i64.wrap (i+1)=i+1:=by rw[wrap_i64];omega
  refine ba (by simp[bJ];omega) (cz (Ff (by decide)) (ar λx0 e0=>ba (dY (by show 8*(out.length+1)<=_;omega)) (fh ?_)))
  have rr:=YQ (n:=l.getD i.toNat 0) (k:=20) (by decide) (by decide)
  have e0:x0=tM (l.getD i.toNat 0) 20:=e0
  rw[<-e0]at rr
  have w1:wrap .u64 (dh+wrap .u64 x0)=dh+x0:=by rw[wrap_u64,wrap_u64];omega
  show(0<=i64.wrap (i+1)/\i64.wrap (i+1)<=l.length/\m.A1<=wrap .u64 (dh+wrap .u64 x0)/\wrap .u64 (dh+wrap .u64 x0)<=m.A1+20*i64.wrap (i+1)/\((out++[wrap .u64 (dh+wrap .u64 x0)]).length:Int)=i64.wrap (i+1)/\rz m.A1 (out++[wrap .u64 (dh+wrap .u64 x0)])/\∀x∈out++[wrap .u64 (dh+wrap .u64 x0)],m.A1<=x/\x<=wrap .u64 (dh+wrap .u64 x0))/\(l.length-i64.wrap (i+1)).toNat<(l.length-i).toNat
  rw[ew,w1,lA,cZ]
  refine⟨⟨by omega,by omega,by omega,by omega,by omega,Zlz a6 (by omega) λx hx=>by have:=a7 x hx;omega,λx hx=>?_⟩,by omega⟩
  rcases List.mem_append.1 hx with hx|hx
  ·have:=a7 x hx;omega
  ·rw[List.mem_singleton.1 hx];omega
 ·have hb:¬i<l.length:=oN hb
  exact⟨by show out.length=_;omega,a6,λx hx=>by have:=a7 x hx;omega⟩
theorem wU.u{c:Int}{r:List Int}(h:wU c r)(h0:0<=c)(h1:c<=87):∀x∈r,0<=x/\x<18446744073709551616:=λx hx=>by have:=h.le x hx;omega
theorem Zej{l:List Int}{m:au}{s:List ei}(h:(Hm m s l).2=0):j4 m s l=0/\kj m s l=((Hm m s l).1,0):=by
 unfold Hm at h⊢
 cases h1:j4 m s l==0
 ·rw[h1]at h
  have h:j4 m s l=0:=h
  rw[h]at h1;cases h1
 ·rw[h1]at h
  have h:(kj m s l).2=0:=h
  refine⟨eq_of_beq h1,?_⟩
  show kj m s l=((kj m s l).1,0)
  rw[<-h]
theorem YR:∀{l:List Int} {m:au} {s:List ei} {L:List gg} {P:Nat},AV P m s->kj m s l=(L,0)->∀c∈L,c.At∈l/\0<=c.D4/\c.D4<18446744073709551616
 |[],m,s,L,P,st,h,c,hc=>by rw[show L=[] from(Prod.mk.inj h).1.symm]at hc;cases hc
 |u ::l,m,s,L,P,st,h,c,hc=>by
  obtain⟨h1,K,e,h2⟩:=Mm h
  obtain⟨sn,_,_⟩:=st.next h1
  rw[e]at hc
  rcases List.mem_cons.1 hc with hc|hc
  ·rw[hc];exact⟨by simp,Zl9 sn.g sn.d⟩
  ·obtain⟨p,q⟩:=YR sn h2 c hc
   exact⟨by simp[p],q⟩
section
instance zu (i:Int):Ck (Ho i):=let d:Decidable (Ho i):=(by delta Ho;infer_instance);⟨@decide _ d,@oY _ d⟩
instance Zlk (a:bh) (b:bh):Ck (Qa7 a b):=rK (t:=PL a b) (by delta PL;infer_instance)
instance Zkd (a:List Int) (b:List Int):Ck (Qaa a b):=rK (t:=PM a b) (by delta PM;infer_instance)
instance Zqq (a:au) (b:au):Ck (PN a b):=rK (t:=PO a b) (by delta PO;infer_instance)
abbrev mA:au:=Fy 2 [0]
def mA5(m:au):au:={B1:={X:={a0:=m.B1.X.a0,a1:=m.B1.X.a1,a2:=m.B1.X.a2,a3:=m.B1.X.a3,a4:=m.B1.X.a4,a5:=7,a6:=m.B1.X.a6,a7:=m.B1.X.a7,a8:=m.B1.X.a8,a9:=m.B1.X.a9,kq:=m.B1.X.kq,kr:=m.B1.X.kr,a12:=m.B1.X.a12,ku:=m.B1.X.ku,kv:=m.B1.X.kv,ky:=m.B1.X.ky},Pc:=m.B1.Pc,B4:=m.B1.B4},Mem:=m.Mem,A3:=m.A3,A9:=m.A9,A7:=m.A7,C3:=m.C3,A2:=m.A2,A1:=m.A1,A4:=m.A4,A6:=m.A6}
theorem zP:PN mA (mA5 mA):=ck inferInstance (by kernel_rfl)
theorem yP:PN mA mA:=ck inferInstance (by kernel_rfl)
theorem vP:Uv mA (mA5 mA)=[120,32,53]:=by kernel_rfl
theorem qQ:Uv mA mA=[]:=by kernel_rfl
end
theorem CG:(Hm mA [] [1,3]).2=0:=by kernel_rfl
theorem PQ:PR.w (λr=>r=true):=by
 unfold PR
 refine cz (Tree.pp (Zeo 2 [0] (by decide))).1 (ar λx0 e0=>?_)
 subst e0
 obtain⟨g,gc⟩:=Qzq 2 [0] (by decide) (by decide)
 have d:=Z9l 2 [0] (by decide) (by decide)
 have hc:mA.A1<18446744073709551616:=by show(Fy 2 [0]).A1<_;omega
 refine bm (qu g.v hc d (s:=[]) (aT _) (λe he=>by cases he) (l:=[1,3]) (by decide) (λx hx=>by simp at hx;omega)) λx1 e1=>?_
 obtain⟨c0,mk⟩:=Zej CG
 rw[<-e1]at mk
 have kI:x1.2=0:=by rw[e1];exact CG
 obtain⟨L,e⟩:=x1
 have kI:e=0:=kI
 subst kI
 have mk:kj mA [] [1,3]=(L,0):=mk
 have ma:=Ut mk
 have l2:L.length=2:=by rw[<-fH (f:=(·.At)),ma];rfl
 have mm:=YR (P:=8) ⟨g,d,aT _,λe he=>by cases he⟩ mk
 have hr:∀c∈L,0<=c.At/\c.At<18446744073709551616:=λc hc=>by have:=(mm c hc).1;simp at this;omega
 have ckL:El mA [] L=({Good:=true,D5:=0,At:=0},0):=by
  unfold El
  rw[ma,c0]
  show(ik mA [] 0 mA.A1 L,(0:Int))=_
  rw[wS mk]
 refine aa (λh=>by cases h) λ_=>aa (λh=>?_) λ_=>?_
 ·exfalso
  have h:(((L.length:Nat):Int) !=2)=true:=h
  rw[l2]at h;cases h
 refine bm (YP g.v hc d (s:=[]) (aT _) (λe he=>by cases he) (l:=L) (by omega) hr) λx2 e2=>?_
 have cc:(bT 2 2&&bJ 0 2&&decide ((0:Int)<=1/\(1:Int)<((L.length:Nat):Int)))=true:=by rw[l2];rfl
 refine ba cc (ba cc ?_)
 obtain⟨q,hq⟩:∃q:gg,q=L.getD 1 (RK.cj RK.ag):=⟨_,rfl⟩
 have hqd:L.getD 1 default=q:=by
  rw[hq,cP,cP,cG (show 1<L.length by omega)];rfl
 have hqm:q∈L:=by rw[hq,cP,cG (show 1<L.length by omega)];exact fI _
 have hqr:=(mm q hqm).2
 have sl:(L.set 1 {At:=q.At,D4:=wrap .u64 (q.D4+1)}).length=2:=by rw[dH,l2]
 have sm:(L.set 1 ({At:=q.At,D4:=wrap .u64 (q.D4+1)}:gg)).map (·.At)=L.map (·.At):=by
  apply List.ext_getElem
  ·rw[fH,fH,dH]
  ·intro n h1 h2
   rw[bO,bO,List.getElem_set]
   split
   ·rename_i hn
    subst hn
    show q.At=_
    rw[hq,cP,cG (show 1<L.length by omega)];rfl
   ·rfl
 have ckS:El mA [] (L.set 1 {At:=q.At,D4:=wrap .u64 (q.D4+1)})=({Good:=false,D5:=1,At:=1},0):=by
  unfold El
  rw[sm,ma,c0]
  have f:=Hk 1 mk (by omega) 0 mA.A1 (wrap .u64 (q.D4+1)) (by rw[hqd,wrap_u64];omega)
  rw[hqd]at f
  show(ik mA [] 0 mA.A1 _,(0:Int))=_
  rw[f]
  have h0:(L.getD (1-1) default).At=1:=by
   have:(L.map (·.At)).getD 0 0=(L.getD 0 default).At:=by
    rw[cP,cP,fL,cG (show 0<L.length by omega)];rfl
   rw[ma]at this
   exact this.symm
  rw[h0];rfl
 have PS:∀c∈L.set 1 {At:=(L.getD 1 (RK.cj RK.ag)).At,D4:=wrap .u64 ((L.getD 1 (RK.cj RK.ag)).D4+1)},0<=c.At/\c.At<18446744073709551616:=λc rB=>by
  rcases fO rB with h|h
  ·exact hr c h
  ·rw[h,<-hq];exact hr q hqm
 refine bm (YP g.v hc d (s:=[]) (aT _) (λe he=>by cases he) (l:=L.set 1 {At:=(L.getD 1 (RK.cj RK.ag)).At,D4:=wrap .u64 ((L.getD 1 (RK.cj RK.ag)).D4+1)}) (by rw[dH];omega) PS) λx3 e3=>?_
 rw[<-hq]at e3
 rw[e2,e3,ckL,ckS]
 have no:∀{t:Tree Bool},false=true->t.w (λr=>r=true):=λh=>by cases h
 refine aa (λ_=>aa (λ_=>aa (λ_=>aa (λ_=>aa (λ_=>aa (λ_=>?_) λh=>by cases h) λh=>by cases h) λh=>by cases h) λh=>by cases h) λh=>by cases h) λh=>by cases h
 refine cz zP (ar λx4 e4=>aa (λ_=>cz yP (ar λx5 e5=>ez ?_)) λh=>?_)
 ·have e5:x5=[]:=e5.trans qQ
  rw[e5];rfl
 ·have e4:x4=[120,32,53]:=e4.trans vP
  rw[e4]at h;cases h
theorem YS{W:Bool->Prop}(h:W true):(Tree.an Hp (.lv FD λx=>.lf x)).w W:=by
 obtain⟨p,q⟩:=Tree.pp PQ
 exact cz p (ar λx e=>by show W x;rw[e,show FD=true from q];exact h)
theorem yu{s:List ei}{k:Nat}(hk:k<s.length)(e:ei)(j:Nat):gm (s.set k e) j=if j=k then e else gm s j:=by
 unfold gm
 rw[eD,cP,cP,List.getElem?_set]
 by_cases h:k=j
 ·subst h;rw[if_pos rfl,if_pos hk,if_pos rfl];rfl
 ·rw[if_neg h,if_neg (λe=>h e.symm)]
theorem Ah(kind:Int)(prog events l:List Int)(change:Int)(hl:prog.length*8<=reachBytes):Qd8 kind prog events l change/\Qc2 kind prog events l change=true:=by
 have aw:=YS (W:=λr=>r=true) rfl
 refine Tree.pp (W:=λr=>r=true) ?_
 unfold Uw
 refine aa (λ_=>aw) λh1=>aa (λ_=>aw) λh2=>aa (λ_=>aw) λh4=>?_
 have f1:prog.length<=60:=by have:=oN h1;omega
 have f2:events.length<=20:=by have:=oN h2;omega
 have f4:l.length<=10:=by have:=oN h4;omega
 refine bm (zav hl f1 f2) λx3 R=>?_
 obtain⟨m,s⟩:=x3
 have R:Hn m s:=R
 have g:=R.st.g
 have c0:=g.ok.lU
 have c1:=R.c
 have hs:=R.st.hs
 refine bm (xav c0 c1 f4) λx4 ⟨p1,p2⟩=>?_
 have p1:x4.length=l.length:=p1
 have p2:wU m.A1 x4:=p2
 refine bm (qu g.v (by omega) R.st.d hs R.st.hu (l:=x4) (by omega) (p2.u c0 c1)) λx7 e7=>aa (λ_=>aw) λh=>aa (λ_=>aw) λhn=>?_
 have h0:x7.2=0:=by simpa using h
 rw[e7]at h0
 obtain⟨ck,mk⟩:=Zej h0
 rw[<-e7]at mk
 generalize x7.1=L at mk⊢
 have ma:=Ut mk
 have mm:=YR R.st mk
 have ll:L.length=l.length:=by rw[<-fH (f:=(·.At)),ma];exact p1
 have n0:¬(s.length:Int)=0:=by simpa using hn
 refine cz (Ff n0) (ar λx8 e8=>?_)
 have rr:=YQ (n:=change) (k:=(s.length:Int)) (by omega) (by omega)
 have e8:x8=tM change (s.length:Int):=e8
 rw[<-e8]at rr
 obtain⟨k,rfl⟩:∃k:Nat,x8=k:=⟨x8.toNat,by omega⟩
 have hk:k<s.length:=by omega
 have cc:(bT 4 4&&bJ 0 4&&decide ((0:Int)<=(k:Int)/\(k:Int)<((s.length:Nat):Int)))=true:=by simp[bJ];omega
 refine ba (dY (by show 40*(0+s.length)<=_;omega)) (ba cc (ba cc ?_))
 obtain⟨q,hq⟩:∃q:ei,q={At:=(s.getD ((k:Int)).toNat (RK.cj RK.ab)).At,C6:={B9:=(s.getD ((k:Int)).toNat (RK.cj RK.ab)).C6.B9,N:=wrap .u32 ((s.getD ((k:Int)).toNat (RK.cj RK.ab)).C6.N+1),C9:=(s.getD ((k:Int)).toNat (RK.cj RK.ab)).C6.C9}}:=⟨_,rfl⟩
 have tw:rA s (s.set k q) k (gm s k).At:=by
  refine⟨dH ..,hk,rfl,λj=>?_,λj hj=>by rw[yu hk,if_neg hj]⟩
  rw[yu hk]
  by_cases h:j=k
  ·rw[if_pos h,h,hq];exact⟨rfl,rfl⟩
  ·rw[if_neg h];exact⟨rfl,rfl⟩
 have hu2:∀e∈s.set k q,U e.C6.N:=λe he=>by
  rcases fO he with h|h
  ·exact R.st.hu e h
  ·rw[h,hq];exact fg _
 have hr:∀c∈L,0<=c.At/\c.At<18446744073709551616:=λc hc=>p2.u c0 c1 _ (mm c hc).1
 have C:=YP g.v (by omega) R.st.d (s:=s.set k q) (by rw[dH];exact hs) hu2 (l:=L) (by omega) hr
 rw[hq]at C
 have C:(Mn m (s.set ((k:Int)).toNat {At:=(s.getD ((k:Int)).toNat (RK.cj RK.ab)).At,C6:={B9:=(s.getD ((k:Int)).toNat (RK.cj RK.ab)).C6.B9,N:=wrap .u32 ((s.getD ((k:Int)).toNat (RK.cj RK.ab)).C6.N+1),C9:=(s.getD ((k:Int)).toNat (RK.cj RK.ab)).C6.C9}}) L).w _:=C
 refine bm C λx9 e9=>?_
 rw[<-hq]at e9
 have ck2:j4 m (s.set k q) (L.map (·.At))=0:=by
  rw[ma]
  unfold j4 at ck⊢
  rw[Zn9 tw];exact ck
 have ev:x9=(ik m (s.set k q) 0 m.A1 L,0):=by rw[e9];unfold El;rw[ck2];rfl
 rw[ev]
 refine aa (λh=>by cases h) λ_=>aa (λ_=>aw) λhg=>?_
 have hg:(ik m (s.set k q) 0 m.A1 L).Good=false:=hg
 rcases wT g R.st.hu tw p2.asc mk 0 m.A1 with h|⟨j,j1,j2,j3⟩
 ·rw[h]at hg;cases hg
 have fj:(ik m (s.set k q) 0 m.A1 L).D5=j:=by rw[j2];omega
 rw[fj]
 refine aa (λ_=>ba (by simp[bJ];omega) (ba cc (aa (λ_=>aw) λh=>?_))) λh=>?_
 ·exfalso
  have h:¬(L.getD ((j:Int)).toNat (RK.cj RK.ag)).At>(s.getD ((k:Int)).toNat (RK.cj RK.ab)).At:=oN h
  have e1:L.getD ((j:Int)).toNat (RK.cj RK.ag)=L.getD j default:=by
   rw[eD,cP,cP,cG j1];rfl
  rw[e1]at h
  exact h j3
 ·exfalso
  have h:¬(j:Int)<(L.length:Int):=oN h
  omega

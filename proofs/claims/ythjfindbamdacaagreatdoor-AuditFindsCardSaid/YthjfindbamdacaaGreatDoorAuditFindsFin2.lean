import Derived.Test.YthjfindbamdacaaGreatDoorAuditFindsFin1
open Int renaming le_refl->cW,tmod->dE,toNat_natCast->eD,toNat_of_nonneg->eH
open Nat renaming lt_succ_self->cO,zero_le->aT,le_succ->fG,le_refl->aO,blt->bJ,beq->bT
open List renaming getD_eq_getElem?_getD->cP,getElem?_eq_getElem->cG,drop_eq_getElem_cons->aB,foldl_cons->aD,drop_eq_nil_of_le->aA,length_singleton->cZ,length_cons->dI,replicate->cQ,append_assoc->fF,length_replicate->cV,length->dK,length_map->fH,map_append->bL,getElem_mem->fI,append_nil->cJ,mem_cons->cS,not_mem_nil->cU,nil_append->fJ,take->dB,drop->dC,take_of_length_le->fK,length_drop->bF,getElem?_map->fL,length_set->dH,ext_getElem->bN,getElem_map->bO,getElem_set->fN,mem_or_eq_of_mem_set->fO
open Bool renaming true_and->fM
open BitVec renaming ofInt->dW,toNat_ofInt->dX
set_option maxRecDepth 100000
set_option linter.all false
namespace Go.Proofs.YthjfindbamdacaaGreatDoor
open Go Go.GD
open Go.IntKind(wrap i64 wrap_i64 wrap_u64 wrap_u8 wrap_i32)
attribute [local irreducible] K0
def Tree.V{β:Type}(t:Tree β)(W:β->Prop):Prop:=W t.m
section
variable {α β:Type} {W:β->Prop} {c:Bool} {t e:Tree β}
theorem c6{x:β}(h:W x):Tree.V (.lf x) W:=h
theorem py{f:Prop}{x:β}{hf:f}(h:W x):Tree.V (.nx f x hf) W:=h
theorem c9(h:c=true->Tree.V t W)(g:c=false->Tree.V e W):Tree.V (.br c t e) W:=by
 cases c
 ·exact g rfl
 ·exact h rfl
theorem j6(g:Tree.V t W):Tree.V (.cn c t) W:=g
theorem ft{p:Prop}(g:Tree.V t W):Tree.V (.an p t) W:=g
theorem dq{x:α}{k:α->Tree β}(h:∀y,y=x->Tree.V (k y) W):Tree.V (.lv x k) W:=h x rfl
theorem rp{d:Inhabited β}{n:Nat}{f:Prop}{x:α}{k:α->Tree (α⊕β)}{hf:f}{inv:α->Prop}{μ:α->Nat}(h:inv x)(hn:μ x<n)(g:∀y,inv y->Tree.V (k y) (Sum.elim (λz=>inv z/\μ z<μ y) W)):Tree.V (.lp d n f x k hf) W:=by
 refine qaC (P:=inv) (R:=W) (μ:=μ) (λa ha=>?_) n x h hn
 have:=g a ha
 unfold Tree.V at this
 revert this
 cases(k a).m with
 |inl z=>exactλh=>h
 |inr b=>exactλh=>h
end
def Ed(r:cw)(m:au):cw:={A0:=m,B3:=r.B3,C7:=r.C7,B0:=r.B0}
theorem qaJ(r:cw)(port clock:Int):Yb r port clock=((wI r.A0 port clock).1,Ed r (wI r.A0 port clock).2):=by
 simp only[Yb,OS,wI,Gz,Tree.m,dd]
 cases decide (port<=1)<;>cases port==2<;>cases port==3<;>cases decide (port<=6)<;>cases decide (port<=9)<;>rfl
theorem qaq(r:cw)(port v:Int):Yc r port v=((AJ r.A0 port v).1,Ed r (AJ r.A0 port v).2):=by
 simp only[Yc,L0,AJ,Fa,Tree.m,dd]
 cases port==0<;>cases decide (port<=2)<;>cases port==3<;>cases decide (port<=6)<;>cases decide (port<=9)<;>rfl
theorem zaJ{r:cw}{c:Bool}{x y:Bool×cw}{x' y':Bool×au}(hx:x=(x'.1,Ed r x'.2))(hy:y=(y'.1,Ed r y'.2)):cond c x y=((cond c x' y').1,Ed r (cond c x' y').2):=by cases c<;>assumption
theorem xl(r:cw)(e:gx):Yd r e=((lK r.A0 e).1,Ed r (lK r.A0 e).2):=by
 simp only[Yd,L1,lK,Fx,Tree.m,dd]
 repeat'(first|rfl|refine zaJ ?_ ?_)
theorem T9(r:cw)(clock:Int):L2 r clock=((ga r.A0 clock).1,Ed r (ga r.A0 clock).2):=by
 simp only[L2,L3,ga,KJ,Tree.m,dd,qaJ,qaq,Ed]
 cases(pQ (lT r.A0) r.A0.Mem).2.1.C0==1<;>cases(pQ (lT r.A0) r.A0.Mem).2.1.C0==2<;>cases(pQ (lT r.A0) r.A0.Mem).2.1.C0==3<;>cases(pQ (lT r.A0) r.A0.Mem).2.1.C0==4<;>rfl
def nc(r:cw)(e:gx):cw:=
 bif(lK r.A0 e).1 then{A0:=(lK r.A0 e).2,B3:=r.B3,C7:=r.C7++[{At:=(lK r.A0 e).2.A1,C8:=e}],B0:=r.B0}else Ed r (lK r.A0 e).2
theorem Znx(r:cw)(e:gx):OT r e=nc r e:=by
 have a:Ye r e=((lK r.A0 e).1,Ed r (lK r.A0 e).2):=by
  simp only[Ye,L4,Tree.m,dd,xl]
 simp only[OT,L5,Tree.m,dd,a,nc]
 cases(lK r.A0 e).1<;>rfl
def kL(r:cw):cw:=bif Jl r.A0.A9 r.B3 then nc r {C0:=2,N:=0,C9:=[]}else r
def Fy(r:cw):cw:=bif Hd r.A0 then{A0:=r.A0,B3:=r.B3,C7:=r.C7++[{At:=r.A0.A1,C8:={C0:=1,N:=r.B3,C9:=[]}}],B0:=r.B0}else r
def Ee(r:cw):cw:={A0:=(ga r.A0 r.B3).2,B3:=wrap .u32 (r.B3+1),C7:=(Fy r).C7,B0:=r.B0}
def iO:Nat->cw->List dx->cw×List dx
 |0,r,o=>(r,o)
 |n+1,r,o=>bif nb (kL r).A0 then(kL r,o)else iO n (Ee (kL r)) (o++(ga (kL r).A0 (kL r).B3).1)
def Jm(r:cw):cw:={A0:=r.A0,B3:=r.B3,C7:=r.C7,B0:=[]}
def lG(r:cw)(steps clock:Int):cw×List dx:=
 bif !pR r.A0 then(r,[])else iO (pO steps).toNat (Jm (r.B0.foldl nc {A0:=r.A0,B3:=if clock>r.B3 then clock else r.B3,C7:=r.C7,B0:=r.B0})) []
theorem Yf(r:cw)(e:gx):(nc r e).B0=r.B0:=by
 unfold nc;cases(lK r.A0 e).1<;>rfl
theorem Zm7(r:cw):Ua r=r:=by
 simp only[Ua,L6,Tree.m,dd,Hc]
theorem Yg(r:cw)(steps clock:Int)(hq:r.B0.length<=1000000):Ub r steps clock=lG r steps clock:=by
 show Tree.V (IK r steps clock) (λx=>x=lG r steps clock)
 obtain⟨Jax,lim⟩:=S3 steps
 unfold IK
 refine ft (dq λx0 e0=>dq λx1 e1=>?_)
 rw[Zm7]at e0
 subst e0
 refine c9 (λhb=>c6 ?_) λhb=>?_
 ·unfold lG;rw[<-e1,hb];rfl
 generalize rP:({A0:=x0.A0,B3:=if clock>x0.B3 then clock else x0.B3,C7:=x0.C7,B0:=x0.B0}:cw)=r0
 have hA:lG x0 steps clock=iO (pO steps).toNat (Jm (x0.B0.foldl nc r0)) []:=by
  unfold lG;rw[<-e1,hb,rP];rfl
 have hQ:r0.B0=x0.B0:=by rw[<-rP]
 refine rp (inv:=λz:Int×cw=>0<=z.1/\z.1<=x0.B0.length/\z.2.B0=x0.B0/\(x0.B0.drop z.1.toNat).foldl nc z.2=x0.B0.foldl nc r0) (μ:=WS x0 steps clock) ⟨cW 0,by show(0:Int)<=_;omega,hQ,rfl⟩ (cO _) λz ⟨z0,z1,z2,z3⟩=>?_
 refine c9 (λhb=>?_) (λhb=>?_)
 ·have hb:=oY hb
  rw[z2]at hb
  refine j6 (ft (dq λx2 e2=>py ?_))
  have ew:i64.wrap (z.1+1)=z.1+1:=by rw[wrap_i64];omega
  rw[Znx]at e2
  have q2:x2.B0=x0.B0:=by rw[e2,Yf,z2]
  have cf:z.1.toNat<x0.B0.length:=by omega
  have ed:z.2.B0.getD z.1.toNat (RK.cq RK.bd)=x0.B0[z.1.toNat]:=by rw[z2,cP,cG cf];rfl
  show(0<=i64.wrap (z.1+1)/\i64.wrap (z.1+1)<=x0.B0.length/\x2.B0=x0.B0/\(x0.B0.drop (i64.wrap (z.1+1)).toNat).foldl nc x2=_)/\(x2.B0.length-i64.wrap (z.1+1)).toNat<(z.2.B0.length-z.1).toNat
  rw[ew,q2,z2]
  refine⟨⟨by omega,by omega,rfl,?_⟩,by omega⟩
  rw[<-z3,aB cf,aD,show(z.1+1).toNat=z.1.toNat+1 by omega,e2,ed]
 ·have hb:=oN hb
  rw[z2]at hb
  obtain⟨zi,zr⟩:=z
  have hb:¬zi<x0.B0.length:=hb
  have ze:zr=x0.B0.foldl nc r0:=by
   rw[<-z3,aA (by show x0.B0.length<=zi.toNat;omega)];rfl
  rw[<-ze]at hA
  refine rp (inv:=λy:Int×cw×List dx=>0<=y.1/\y.1<=pO steps/\iO (pO steps-y.1).toNat y.2.1 y.2.2=lG x0 steps clock) (μ:=NB x0 steps clock (zi,zr)) ⟨cW 0,by show(0:Int)<=_;omega,by rw[hA];show iO (pO steps-0).toNat _ _=_;rw[Int.sub_zero];rfl⟩ (cO _) λy ⟨y0,y1,y2⟩=>?_
  obtain⟨yi,yr,yo⟩:=y
  have mu:∀q,yi<4000->NB x0 steps clock (zi,zr) (wrap .i64 (yi+1),q)<NB x0 steps clock (zi,zr) (yi,yr,yo):=λq h=>by
   show(4000-wrap .i64 (yi+1)).toNat<(4000-yi).toNat
   have y0:0<=yi:=y0
   rw[wrap_i64];omega
  have y0:0<=yi:=y0
  refine dq λx3 e3=>c9 (λhb=>?_) (λhb=>?_)
  ·have hb:yi<x3:=oY hb
   rw[e3]at hb
   have mu:=λq=>mu q (by omega)
   have ew:i64.wrap (yi+1)=yi+1:=by rw[wrap_i64];omega
   have en:(pO steps-yi).toNat=(pO steps-(yi+1)).toNat+1:=by omega
   change iO (pO steps-yi).toNat yr yo=_ at y2
   rw[en]at y2
   refine dq λx4 e4=>c9 (λhd=>ft (dq λx5 e5=>?_)) (λhd=>?_)
   ·have e5:x5=kL yr:=by rw[e5,Znx];unfold kL;rw[<-e4,hd];rfl
    refine ft (dq λx6 e6=>c9 (λhs=>c6 ?_) λhs=>ft (dq λx7 e7=>c9 (λhr=>j6 (ft (dq λx8 e8=>j6 (py ?_)))) λhr=>ft (dq λx9 e9=>j6 (py ?_))))
    ·show(_,yo)=_
     rw[<-y2];unfold iO
     rw[<-e5,<-e6,hs];rfl
    ·rw[T9]at e8
     refine⟨⟨by show 0<=wrap .i64 (yi+1);rw[ew];omega,by show wrap .i64 (yi+1)<=_;rw[ew];omega,?_⟩,mu _⟩
     show iO (pO steps-wrap .i64 (yi+1)).toNat _ _=_
     rw[ew,<-y2,e8]
     conv=>rhs;unfold iO
     rw[<-e5,<-e6,hs]
     unfold Ee Fy
     rw[<-e7,hr];rfl
    ·rw[T9]at e9
     refine⟨⟨by show 0<=wrap .i64 (yi+1);rw[ew];omega,by show wrap .i64 (yi+1)<=_;rw[ew];omega,?_⟩,mu _⟩
     show iO (pO steps-wrap .i64 (yi+1)).toNat _ _=_
     rw[ew,<-y2,e9]
     conv=>rhs;unfold iO
     rw[<-e5,<-e6,hs]
     unfold Ee Fy
     rw[<-e7,hr];rfl
   ·have e5:yr=kL yr:=by
     have e4:x4=Jl yr.A0.A9 yr.B3:=e4
     unfold kL;rw[<-e4,hd];rfl
    refine ft (dq λx6 e6=>c9 (λhs=>c6 ?_) λhs=>ft (dq λx7 e7=>c9 (λhr=>j6 (ft (dq λx8 e8=>j6 (py ?_)))) λhr=>ft (dq λx9 e9=>j6 (py ?_))))
    ·show(_,yo)=_
     rw[<-y2];unfold iO
     rw[<-e5,<-e6,hs];rfl
    ·rw[T9]at e8
     refine⟨⟨by show 0<=wrap .i64 (yi+1);rw[ew];omega,by show wrap .i64 (yi+1)<=_;rw[ew];omega,?_⟩,mu _⟩
     show iO (pO steps-wrap .i64 (yi+1)).toNat _ _=_
     rw[ew,<-y2,e8]
     conv=>rhs;unfold iO
     rw[<-e5,<-e6,hs]
     unfold Ee Fy
     rw[<-e7,hr];rfl
    ·rw[T9]at e9
     refine⟨⟨by show 0<=wrap .i64 (yi+1);rw[ew];omega,by show wrap .i64 (yi+1)<=_;rw[ew];omega,?_⟩,mu _⟩
     show iO (pO steps-wrap .i64 (yi+1)).toNat _ _=_
     rw[ew,<-y2,e9]
     conv=>rhs;unfold iO
     rw[<-e5,<-e6,hs]
     unfold Ee Fy
     rw[<-e7,hr];rfl
  ·have hb:¬yi<x3:=oN hb
   rw[e3]at hb
   refine c6 ?_
   show(yr,yo)=_
   change iO (pO steps-yi).toNat yr yo=_ at y2
   rw[<-y2,show(pO steps-yi).toNat=0 by omega];rfl
structure ff(P:Nat)(m:au):Prop where
 ok:nH P m
 may:mZ m=true
section
variable {P:Nat} {m:au} (h:ff P m)
include h
theorem ff.v:sM m:=⟨h.ok.lY,h.ok.mem.u,h.ok.kR,h.ok.sK,h.ok.target,h.ok.lS⟩
theorem ff.s:rj P m:=⟨h.ok.lY,h.ok.mem,h.ok.kR,h.ok.sK,h.ok.target.1,h.ok.target.2⟩
theorem ff.Cw:pR m=true:=(LR h.v).symm.trans h.may
theorem Yh{e:gx}(he:U e.N):ff P (lK m e).2/\(lK m e).2.A1=m.A1:=by
 have o:nH P (lK m e).2:=Tree.post _ (qN h.ok he)
 have a:=(Tree.pp (Zn6 h.ok he)).2
 change(mZ m=true->mZ (LZ m e).1=true)/\(LZ m e).1.A1=m.A1/\_ at a
 have e1:OQ m e=((lK m e).2,(lK m e).1):=by
  simp only[OQ,T8,Tree.m,dd,Hc,h.Cw];rfl
 rw[Z8z h.v e,e1]at a
 exact⟨⟨o,a.1 h.may⟩,a.2.1⟩
theorem L7:nb m=false↔m.A6=false/\tG m=false/\m.A1<1152921504606846976:=by
 simp only[nb,Ji,Tree.m,dd,h.Cw]
 cases m.A6<;>cases tG m<;>simp
theorem L9(hs:nb m=false){clock:Int}(hc:U clock):ff P (ga m clock).2/\(ga m clock).2.A1=m.A1+1/\(ga m clock).1.length<=1:=by
 have o:=Tree.post _ (Z86 h.ok hc)
 change(ga m clock).1.length<=1/\nH P (ga m clock).2/\(ga m clock).2.A1=wrap .u64 (m.A1+1)at o
 have s:=(Tree.pp (yh h.s h.ok.lS hc)).2
 change _/\Good P m (AK m clock).1 at s
 have e:AK m clock=((ga m clock).2,(ga m clock).1):=by rw[Zih h.v,X7,hs];rfl
 rw[e]at s
 have N4:=((L7 h).1 hs).2.2
 have h0:=h.ok.lS
 refine⟨⟨o.2.1,s.2.may h.may⟩,?_,o.1⟩
 rw[o.2.2,wrap_u64];omega
end
structure oy(P:Nat)(k:Int)(r:cw):Prop where
 m:ff P r.A0
 clock:U r.B3
 lS:r.A0.A1<=k
theorem Z3{P:Nat}{k:Int}{r:cw}(h:oy P k r){e:gx}(he:U e.N):oy P k (nc r e)/\(nc r e).A0.A1=r.A0.A1:=by
 obtain⟨a,b⟩:=Yh h.m he
 have hc:=h.lS
 unfold nc
 cases(lK r.A0 e).1
 ·exact⟨⟨a,h.clock,by show(lK r.A0 e).2.A1<=k;omega⟩,b⟩
 ·exact⟨⟨a,h.clock,by show(lK r.A0 e).2.A1<=k;omega⟩,b⟩
theorem Z7u{P:Nat}{k:Int}{r:cw}(h:oy P k r):oy P k (kL r)/\(kL r).A0.A1=r.A0.A1:=by
 unfold kL
 cases Jl r.A0.A9 r.B3
 ·exact⟨h,rfl⟩
 ·exact Z3 h ej
theorem Z9n{P:Nat}{k:Int}{r:cw}(h:oy P k r)(hs:nb r.A0=false):oy P (k+1) (Ee r):=by
 obtain⟨a,b,_⟩:=L9 h.m hs h.clock
 have hc:=h.lS
 exact⟨a,fi _,by show(ga r.A0 r.B3).2.A1<=k+1;omega⟩
theorem zl{P:Nat}(n:Nat):∀{k:Int} {r:cw} {o:List dx},oy P k r->oy P (k+n) (iO n r o).1:=by
 induction n with
 |zero=>intro k r o h;exact⟨h.m,h.clock,by have:=h.lS;show r.A0.A1<=k+(0:Nat);omega⟩
 |succ n ih=>
  intro k r o h
  obtain⟨f,fc⟩:=Z7u h
  unfold iO
  cases hs:nb (kL r).A0
  ·have t:=ih (o:=o++(ga (kL r).A0 (kL r).B3).1) (Z9n f hs)
   exact⟨t.m,t.clock,by have:=t.lS;show(iO n _ _).1.A0.A1<=_;omega⟩
  ·exact⟨f.m,f.clock,by have:=f.lS;show(kL r).A0.A1<=_;omega⟩
theorem Z8j{P:Nat}{k:Int}(l:List gx):∀{r:cw},oy P k r->(∀q∈l,U q.N)->oy P k (l.foldl nc r)/\(l.foldl nc r).B0=r.B0:=by
 induction l with
 |nil=>intro r h _;exact⟨h,rfl⟩
 |cons e l ih=>
  intro r h hu
  obtain⟨a,b⟩:=ih (Z3 h (hu e (by simp))).1 (λq hq=>hu q (by simp[hq]))
  exact⟨a,b.trans (Yf r e)⟩
theorem Znz(n:Nat):∀(r:cw) (o:List dx),(iO n r o).1.B0=r.B0:=by
 induction n with
 |zero=>intro r o;rfl
 |succ n ih=>
  intro r o
  have f:(kL r).B0=r.B0:=by
   unfold kL;cases Jl r.A0.A9 r.B3
   ·rfl
   ·exact Yf _ _
  unfold iO
  cases nb (kL r).A0
  ·exact(ih _ _).trans f
  ·exact f
def AL(l:List gx):Prop:=l.length<=16/\∀q∈l,U q.N
theorem Zii{P:Nat}{k:Int}{r:cw}(h:oy P k r)(hq:AL r.B0)(steps:Int){clock:Int}(hc:U clock):oy P (k+4000) (lG r steps clock).1/\AL (lG r steps clock).1.B0:=by
 obtain⟨l0,l1⟩:=S3 steps
 unfold lG
 rw[h.m.Cw]
 have gm:U (if clock>r.B3 then clock else r.B3):=by split<;>first|exact hc|exact h.clock
 obtain⟨a,b⟩:=Z8j r.B0 (r:={A0:=r.A0,B3:=if clock>r.B3 then clock else r.B3,C7:=r.C7,B0:=r.B0}) ⟨h.m,gm,h.lS⟩ hq.2
 have c:=zl (pO steps).toNat (o:=[]) (r:=Jm (r.B0.foldl nc {A0:=r.A0,B3:=if clock>r.B3 then clock else r.B3,C7:=r.C7,B0:=r.B0})) ⟨a.m,a.clock,a.lS⟩
 refine⟨⟨c.m,c.clock,?_⟩,?_⟩
 ·have:=c.lS
  show(iO _ _ _).1.A0.A1<=_
  omega
 ·show AL (iO _ _ _).1.B0
  rw[Znz];exact⟨aT _,λq hq=>by cases hq⟩
theorem yl(n:Int):U (OU n).N:=Tree.post _ (qB n)
theorem Yi(r:cw)(e:gx):Ef r e=bif !OV e then(r,false)else bif e.C0==1 then(r,false)else bif decide ((r.B0.length:Int)>=16)then(r,false)else({A0:=r.A0,B3:=r.B3,C7:=r.C7,B0:=r.B0++[e]},true):=by
 simp only[Ef,Q8,Tree.m,dd,Zm7]
theorem Z58{P:Nat}{k:Int}{r:cw}(h:oy P k r)(hq:AL r.B0){e:gx}(he:U e.N):oy P k (Ef r e).1/\AL (Ef r e).1.B0:=by
 rw[Yi]
 cases OV e
 ·exact⟨h,hq⟩
 ·cases e.C0==1
  ·cases hl:decide ((r.B0.length:Int)>=16)
   ·have hl:=oN hl
    refine⟨⟨h.m,h.clock,h.lS⟩,?_,λq hm=>?_⟩
    ·show(r.B0++[e]).length<=16
     rw[lA,cZ];omega
    ·have hm:q∈r.B0++[e]:=hm
     rcases List.mem_append.1 hm with hm|hm
     ·exact hq.2 q hm
     ·rw[List.mem_singleton.1 hm];exact he
   ·exact⟨h,hq⟩
  ·exact⟨h,hq⟩
theorem Yj{r:cw}{n:Int}(h:(dE (AM n 3) 3==0)=true):wK r n=((Ef r (OU n)).1,[]):=by
 show Tree.V (Fh r n) (λx=>x=((Ef r (OU n)).1,[]))
 unfold Fh
 refine dq λx0 e0=>c9 (λ_=>ft (dq λx1 e1=>ft (dq λx2 e2=>c6 ?_))) (λhb=>?_)
 ·rw[e2,e1]
 ·rw[e0,h]at hb;cases hb
theorem Yk{r:cw}{n:Int}(h:(dE (AM n 3) 3==0)=false):wK r n=Ub r (uw (bg .i64 (AM n 3) 4) 12) (wrap .u32 (bf .i64 (bg .i64 (AM n 3) 12) 255)):=by
 show Tree.V (Fh r n) (λx=>x=Ub r (uw (bg .i64 (AM n 3) 4) 12) (wrap .u32 (bf .i64 (bg .i64 (AM n 3) 12) 255)))
 unfold Fh
 refine dq λx0 e0=>c9 (λhb=>?_) (λ_=>ft (dq λx1 e1=>ft (dq λx2 e2=>c6 ?_)))
 ·rw[e0,h]at hb;cases hb
 ·rw[e2,e1,e0]
theorem qm{P:Nat}{k:Int}{A:cw×Bool}(h:oy P k A.1/\AL A.1.B0):oy P (k+4000) (A.1,([]:List dx)).1/\AL (A.1,([]:List dx)).1.B0:=
 ⟨⟨h.1.m,h.1.clock,by have:=h.1.lS;show A.1.A0.A1<=_;omega⟩,h.2⟩
theorem Zpe{P:Nat}{k:Int}{r:cw}(h:oy P k r)(hq:AL r.B0)(n:Int):oy P (k+4000) (wK r n).1/\AL (wK r n).1.B0:=by
 cases hm:dE (AM n 3) 3==0
 ·rw[Yk hm,Yg _ _ _ (by have:=hq.1;omega)]
  exact Zii h hq _ (fi _)
 ·rw[Yj hm]
  exact qm (Z58 h hq (yl n))
def tH(s:cw×List dx)(n:Int):cw×List dx:=((wK s.1 n).1,s.2++(wK s.1 n).2)
theorem zaq(m:au)(l:List Int)(hl:l.length<=1000000):Yl m l=l.foldl tH (Ma m,[]):=by
 show Tree.V (IN m l) (λx=>x=l.foldl tH (Ma m,[]))
 unfold IN
 refine ft (dq λx0 e0=>?_)
 subst e0
 refine rp (inv:=λz:Int×cw×List dx=>0<=z.1/\z.1<=l.length/\(l.drop z.1.toNat).foldl tH z.2=l.foldl tH (Ma m,[])) (μ:=WX m l) ⟨cW 0,by show(0:Int)<=_;omega,rfl⟩ (cO _) λz ⟨z0,z1,z2⟩=>?_
 obtain⟨i,r,o⟩:=z
 have z0:0<=i:=z0
 have z1:i<=l.length:=z1
 refine c9 (λhb=>j6 (ft (dq λx1 e1=>j6 (py ?_)))) (λhb=>c6 ?_)
 ·have hb:i<l.length:=oY hb
  have ew:i64.wrap (i+1)=i+1:=by rw[wrap_i64];omega
  have cf:i.toNat<l.length:=by omega
  show(0<=i64.wrap (i+1)/\i64.wrap (i+1)<=l.length/\(l.drop (i64.wrap (i+1)).toNat).foldl tH (x1.1,o++x1.2)=_)/\(l.length-i64.wrap (i+1)).toNat<(l.length-i).toNat
  rw[ew]
  refine⟨⟨by omega,by omega,?_⟩,by omega⟩
  rw[<-z2]
  show _=(l.drop i.toNat).foldl tH (r,o)
  rw[aB cf,aD,show(i+1).toNat=i.toNat+1 by omega,e1]
  have ed:l.getD i.toNat 0=l[i.toNat]:=by rw[cP,cG cf];rfl
  rw[show tH (r,o) l[i.toNat]=((wK r l[i.toNat]).1,o++(wK r l[i.toNat]).2) from by unfold tH;rfl,<-ed]
 ·have hb:¬i<l.length:=oN hb
  show(r,o)=_
  rw[<-z2]
  show _=(l.drop i.toNat).foldl tH (r,o)
  rw[aA (by omega)];rfl
theorem xm(s:cw×List dx)(n:Int):tH s n=((wK s.1 n).1,s.2++(wK s.1 n).2):=by unfold tH;rfl
theorem zm{σ:Type}{f:σ->Int->σ}{I:Int->σ->Prop}(hf:∀k s n,I k s->I (k+4000) (f s n))(l:List Int):∀k s,I k s->I (k+4000*l.length) (l.foldl f s):=by
 induction l with
 |nil=>intro k s h;simpa using h
 |cons n l ih=>
  intro k s h
  have:=ih _ _ (hf k s n h)
  rw[aD,dI]
  rwa [show k+4000*((l.length+1:Nat):Int)=k+4000+4000*l.length by omega]
theorem ym(m:au):Ma m={A0:=m,B3:=0,C7:=[],B0:=[]}:=by
 simp only[Ma,K1,Tree.m,dd,Hc]
theorem Ym{i:List Int}(hu:∀w∈i,U w)(hl:i.length<=256):ff 8 (k9 8 4 i).1/\(k9 8 4 i).1.A1=0:=by
 obtain⟨a,b⟩:=(Tree.pp (sG i hu hl)).2
 change nH 8 (k9 8 4 i).1 at a
 refine⟨⟨a,?_⟩,b⟩
 have e:(k9 8 4 i).2=true:=by
  have w:i64.wrap (8*32)=256:=by decide
  simp only[k9,DM,Tree.m,w,dd,dN (show¬((i.length:Int)>256) by omega)]
  rfl
 obtain⟨a1,a2,a3,a4,a5,a6⟩:=xaR 8 4 i e
 exact(qaS _ 8 4 a1 a2 a3 a4 a5 _ a6).1
theorem qn{m:au}(h:ff 8 m)(hc:m.A1<=87):Tree.V (Fc m [] 87) (λx=>x.2.2.2=0->ff 8 x.1/\x.1.A1<=87):=by
 have z:∀{k:Int} {p:Prop},k≠0->k=0->p:=λa b=>absurd b a
 unfold Fc
 refine dq λx0 _=>c9 (λ_=>c6 (z (by decide))) λ_=>c9 (λ_=>c6 (z (by decide))) λ_=>c9 (λ_=>c6 (z (by decide))) λ_=>ft (dq λx1 _=>c9 (λ_=>c6 (z (by decide))) λ_=>ft (dq λx2 hx=>?_))
 rw[Hc]at hx
 refine rp (inv:=λv:au×List dx=>ff 8 v.1/\v.1.A1<=87) (μ:=S8 m [] 87) ⟨by rw[hx];exact h,by rw[hx];exact hc⟩ (cO _) λv0 ⟨a1,a3⟩=>?_
 have a2:=a1.ok.lS
 refine c9 (λhb=>c9 (λhm=>?_) (λ_=>c6 λ_=>⟨a1,a3⟩)) (λ_=>c6 λ_=>⟨a1,a3⟩)
 have hb:=oY hb
 have hm:=oY hm
 refine rp (inv:=λ_=>True) (μ:=S9 m [] 87 v0) trivial (cO _) λv1 _=>?_
 refine c9 (λ_=>c6 λ_=>⟨a1,a3⟩) λhh=>ft (dq λx3 h3=>c9 (λ_=>c6 λ_=>⟨a1,a3⟩) λhi=>ft (dq λx4 _=>c9 (λ_=>c6 (z (by decide))) λ_=>ft (dq λx5 h5=>j6 (py ?_))))
 obtain⟨b1,b2,_⟩:=L9 a1 ((L7 a1).2 ⟨hh,h3.symm.trans hi,hm⟩) (clock:=0) ej
 rw[<-h5]at b1 b2
 show(ff 8 x5.2/\x5.2.A1<=87)/\(87-x5.2.A1).toNat<(87-v0.1.A1).toNat
 exact⟨⟨b1,by omega⟩,by omega⟩
theorem Qyz(kind:Int)(l:List Int)(hl:l.length*8<=reachBytes)(Yn:l.length<=60):ff 8 (Fz kind l)/\(Fz kind l).A1<=87:=by
 show Tree.V (Ff kind l) (λm=>ff 8 m/\m.A1<=87)
 have code:=(Tree.pp (S0 l hl)).2
 change((Mb l).length:Int)=l.length/\∀w∈Mb l,U w at code
 obtain⟨b1,b2⟩:=code
 unfold Ff
 refine ft (dq λx0 nI=>c9 (λ_=>ft (dq λx1 e1=>?_)) (λhk=>?_))
 ·have eb:x1.1=lB:=by rw[e1];rfl
  obtain⟨q1,q2⟩:lB.length<=160/\∀w∈lB,U w:=Ta
  refine rp (inv:=λv:List Int=>v.length<=160/\v=lB++cQ (v.length-lB.length) 0) (μ:=Td kind l) ⟨by rw[eb];exact q1,by rw[eb];simp⟩ (cO _) λv0 ⟨a1,a2⟩=>?_
  have a3:lB.length<=v0.length:=by rw[a2,lA];omega
  refine c9 (λhb=>?_) (λhb=>?_)
  ·have hb:=oY hb
   refine j6 (py ?_)
   show(_/\_)/\(_:Nat)<_
   refine⟨⟨by rw[lA,cZ];omega,?_⟩,by show 160-(v0++[0]).length<160-v0.length;rw[lA,cZ];omega⟩
   show v0++[0]=lB++cQ ((v0++[0]).length-lB.length) 0
   rw[lA,cZ,show v0.length+1-lB.length=(v0.length-lB.length)+1 by omega,List.replicate_succ',<-fF,<-a2]
  ·have hb:=oN hb
   have hv:v0=DN:=by
    unfold DN
    rw[show(160:Nat)=v0.length by omega]
    exact a2
   subst hv
   have hp:=zaj
   have hu0:∀w∈DN,U w:=λw hw=>(List.mem_append.1 hw).elim (q2 w) (wz _ w)
   refine ft (dq λx2 e2=>j6 ?_)
   rw[<-e2]at b1 b2
   have hu:∀w∈DN++x2,U w:=λw hw=>(List.mem_append.1 hw).elim (hu0 w) (b2 w)
   have hlen:(DN++x2).length<=256:=by rw[lA];omega
   refine c9 (λhb=>?_) (λhb=>?_)
   ·have hb:=oY hb;omega
   ·obtain⟨c1,c2⟩:=Ym hu hlen
    refine ft (dq λx3 h3=>?_)
    rw[<-h3]at c1 c2
    have rn:=qn c1 (by omega)
    refine c9 (λ_=>ft (dq λx4 hx=>c6 ?_)) (λ_=>c6 ⟨c1,by omega⟩)
    have e:x3=k9 8 4 (DN++(x2++cQ (96-x2.length) 0)):=by
     rw[h3]
     have Uc:(x2++cQ (96-x2.length) (0:Int)).length=96:=by rw[lA,cV];omega
     refine qaj _ _ hlen (by rw[lA,Uc];omega) ?_
     rw[lA,lA,Uc,hp,fF,fF,fF,show 256-(160+96)=0 by omega,show 256-(160+x2.length)=96-x2.length by omega]
     simp
    have h0:x4.2.2.2=0:=by
     rw[hx,e]
     exact zaE _ (by rw[lA,cV];omega)
    exact(by rw[hx];exact rn:x4.2.2.2=0->ff 8 x4.1/\x4.1.A1<=87) h0
 ·have hk:=oN hk
  refine ft (dq λx2 e2=>j6 ?_)
  rw[<-e2]at b1 b2
  refine c9 (λhb=>?_) (λhb=>?_)
  ·have hb:=oY hb;omega
  ·obtain⟨c1,c2⟩:=Ym b2 (by omega)
   refine ft (dq λx3 h3=>?_)
   rw[<-h3]at c1 c2
   exact c9 (λh=>absurd (eq_of_beq h) (by omega)) (λ_=>c6 ⟨c1,by omega⟩)
theorem Zoi(w:Int):wrap .i64 (rl w).1.bn=(rl w).1.bn:=by
 show Tree.V (GU w) (λr=>wrap .i64 r.1.bn=r.1.bn)
 have e:∀x,wrap .i64 (wrap .i32 x)=wrap .i32 x:=λx=>by rw[wrap_i64,wrap_i32];omega
 unfold GU
 refine dq λx0 _=>?_
 have l:∀i:gu,wrap .i64 i.bn=i.bn->Tree.V (Tree.lv (DT i) λx=>.br (!x) (.lf ((⟨0,0,0,0,0⟩:gu),false)) (.lf (i,true))) (λr=>wrap .i64 r.1.bn=r.1.bn):=λi hi=>dq λx hx=>c9 (λ_=>c6 rfl) (λhb=>c6 hi)
 exact c9 (λ_=>c6 rfl) (λ_=>c9 (λ_=>l _ rfl) (λ_=>c9 (λ_=>l _ (e _)) (λ_=>c9 (λ_=>l _ (e _)) (λ_=>l _ (e _)))))
def Cx(e:kI):Bool:=bif e.C0==1 then e.D0==2 else false
def uy(c:bh)(m:List Int):Bool:=
 bif bf .u32 c.B4.a0 1==0 then false else bif(kK m c.Pc 4).2 then bif(rl (kK m c.Pc 4).1).2 then bif(rl (kK m c.Pc 4).1).1.Op==60 then(rl (kK m c.Pc 4).1).1.bn==2 else false else false else false
theorem xn(m:au):pS m=uy (lT m) m.Mem:=rfl
theorem xaJ(c:bh)(i:gu):Cx (TF c i).2=(bif i.Op==60 then wrap .i64 i.bn==2 else false):=by
 show Tree.V (Jn c i) (λr=>Cx r.2=_)
 have no:∀{k:Int},i.Op=k->k≠60->∀e:kI,e.C0≠1->Cx e=(bif i.Op==60 then wrap .i64 i.bn==2 else false):=λh g e he=>by
  unfold Cx
  rw[h,show(_==(60:Int))=false from beq_false_of_ne g,show(e.C0==1)=false from beq_false_of_ne he];rfl
 have eq:∀{k:Int},(i.Op==k)=true->i.Op=k:=λh=>eq_of_beq h
 unfold Jn
 refine c9 (λh=>dq λ_ _=>c6 (no (eq h) (by decide) _ (show(0:Int)≠1 by decide))) λ_=>c9 (λh=>dq λ_ _=>c6 (no (eq h) (by decide) _ (show(0:Int)≠1 by decide))) λ_=>c9 (λh=>j6 (ft (dq λ_ _=>c6 (no (eq h) (by decide) _ (show(0:Int)≠1 by decide))))) λ_=>c9 (λh=>j6 (ft (dq λ_ _=>c6 (no (eq h) (by decide) _ (show(0:Int)≠1 by decide))))) λ_=>c9 (λh=>c6 ?_) λBo=>?_
 ·show(bif(1:Int)==1 then wrap .i64 i.bn==2 else false)=_
  rw[h];rfl
 ·have n60:i.Op≠60:=λe=>by rw[e]at Bo;cases Bo
  refine c9 (λh=>j6 (c6 (no (eq h) (by decide) _ (by show(2:Int)≠1;decide)))) λ_=>c9 (λh=>c6 (no (eq h) (by decide) _ (show(3:Int)≠1 by decide))) λ_=>c9 (λh=>c6 (no (eq h) (by decide) _ (show(5:Int)≠1 by decide))) λ_=>c9 (λh=>c6 (no (eq h) (by decide) _ (show(4:Int)≠1 by decide))) λ_=>c6 (no rfl n60 _ (show(0:Int)≠1 by decide))
theorem zn(c:bh)(m:List Int)(i:gu):Cx (oU c m i).2.1=(bif i.Op==60 then wrap .i64 i.bn==2 else false):=by
 unfold oU
 cases h:decide (i.Op>=56)
 ·have h:=oN h
  rw[show(i.Op==60)=false from beq_false_of_ne (by omega)]
  cases decide (i.Op>=40)<;>cases decide (i.Op>=32)<;>cases i.Op==24<;>cases decide (i.Op<=13)<;>rfl
 ·exact xaJ c i
theorem xN{P:Nat}{m:List Int}(h:ek P m){c:bh}(hc:iw c)(jT:c.B4.a0<=31):Cx (pQ c m).2.1=uy c m:=by
 rw[G4]
 unfold uy
 cases hk:bf .u32 c.B4.a0 1==0
 ·have hp:TC c=false:=by
   rw[Z96 hc.a0.1 jT,show G0 c=true from by show(bf .u32 c.B4.a0 1 !=0)=true;rw[bne,hk];rfl]
   rfl
  have wi:=Lr h hc.pc (size:=4) (.inr rfl)
  have kn:Lw 1=true:=rfl
  have p0:=hc.pc.1
  have tm:dE c.Pc (wrap .u32 4)=c.Pc%4:=by
   rw[show wrap .u32 4=4 from rfl,Int.tmod_eq_emod_of_nonneg p0]
  have rc:lF c m c.Pc 4 1=bif c.Pc%4 !=0 then(0,3,m)else bif !rS m c.Pc 4 then(0,tE 1,m)else(c.Pc,0,m):=by
   simp only[lF,G1,Tree.m,dd,kn,hp,tm]
   rfl
  rw[rc]
  cases h4:(c.Pc%4 !=0)
  ·cases hw:rS m c.Pc 4
   ·have l2:(kK m c.Pc 4).2=false:=by
     simp only[kK,AG,Tree.m,dd,hw];rfl
    rw[l2]
    show Cx (Eb c (0,tE 1,m) _ _).2.1=false
    unfold Eb
    rw[show((0,tE 1,m):Int×Int×List Int).2.1=tE 1 from rfl,show(tE 1 !=0)=true by decide]
    rfl
   ·have l2:(kK m c.Pc 4).2=true:=by
     simp only[kK,AG,Tree.m,dd,hw];rfl
    rw[l2]
    show Cx (Eb c (c.Pc,0,m) (kK m c.Pc 4).1 (rl (kK m c.Pc 4).1)).2.1=_
    have im:=Zoi (kK m c.Pc 4).1
    generalize kK m c.Pc 4=x at*
    generalize rl x.1=d at*
    unfold Eb
    cases d.2
    ·rfl
    ·rw[hk]
     have:=zn c m d.1
     rw[im]at this
     cases GR d.1.Op<;>exact this
  ·have hw:rS m c.Pc 4=false:=by
    rw[wi]
    refine dN λe=>?_
    rw[e.1]at h4;cases h4
   have l2:(kK m c.Pc 4).2=false:=by
    simp only[kK,AG,Tree.m,dd,hw];rfl
   rw[l2];rfl
 ·have us :∀x w d,Cx (Eb c x w d).2.1=false:=λx w d=>by
   unfold Eb
   cases x.2.1 !=0
   ·cases d.2
    ·rfl
    ·cases hp:GR d.1.Op
     ·have:=zn c x.2.2 d.1
      rw[show(d.1.Op==60)=false from beq_false_of_ne λe=>by rw[e]at hp;cases hp]at this
      exact this
     ·rw[hk];rfl
   ·rfl
  exact us _ _ _
theorem Zq1{m:au}(h:sM m):OW m=Hd m:=by
 have rd:Hd m=bif nb m then false else pS m:=rfl
 have pd:OW m=bif !AB m then false else Cx (wF (nq m).B1 (nq m).Mem).2.2:=rfl
 rw[rd,pd,TW h]
 cases hs:nb m
 ·have hr:AB m=true:=by rw[TW h,hs];rfl
  obtain⟨hm,hh,N4⟩:=To hr
  obtain⟨g1,g2,g3,g4,g5⟩:=(GM m).1 hm
  rcases(ON m.Mem h.mem).2 with c|⟨P,hP,gy⟩
  ·exact absurd c g1
  have X9:rj P m:=⟨h.lY,gy,h.kR,h.sK,h.uu.1,h.uu.2⟩
  obtain⟨b1,b2,b3,_⟩:=(Tree.pp (Xb X9 g2)).2
  change mK (nq m).B1 at b1
  change rj P (nq m)at b2
  have be:=Z9m h g2.st
  have TZ:mK (lT m):=by have:=b1;rw[be]at this;exact this
  have LY:iw (lT m):=by have:=b2.lY;rw[be]at this;exact this
  have ex:=Zhq gy LY TZ.st
  rw[be,xn,<-xN gy LY TZ.st]
  show Cx (wF (lT m) m.Mem).2.2=_
  rw[ex];rfl
 ·rfl
theorem xaq{m:au}(h:U m.A2.C2):Yo m:=by
 show(Ha m).p
 unfold Tree.p Ha
 refine aa (λ_=>cz ?_ (ar λ_ _=>trivial)) (λ_=>trivial)
 show(G9 m).p
 unfold Tree.p G9
 exact bm (Zme h) λ_ _=>trivial
theorem Zlv{P:Nat}{m:au}(h:rj P m):(OX m).w (λ_=>True):=by
 unfold OX
 exact bm (Xe h.given) λ_ _=>aa (λ_=>trivial) (λ_=>bm (yT h) λx1 h1=>bm (vz h1.lY h1.mem) λx2 _=>aa (λ_=>trivial) (λ_=>trivial))
section
variable {P:Nat} {m:au} (h:ff P m)
include h
theorem ff.len:m.Mem.length<=1024:=by have:=h.ok.mem.len;have:=h.ok.mem.p2;omega
theorem ff.app(e:gx):LZ m e=((lK m e).2,(lK m e).1):=by
 rw[Z8z h.v]
 simp only[OQ,T8,Tree.m,dd,Hc,h.Cw];rfl
theorem ff.step(hs:nb m=false)(clock:Int):AK m clock=((ga m clock).2,(ga m clock).1):=by
 rw[Zih h.v,X7,hs];rfl
theorem ff.idle:Ll m=tG m:=Zi8 h.v
end
theorem Z9q(r:cw)(e:gx):(nc r e).C7.length<=r.C7.length+1:=by
 unfold nc
 cases(lK r.A0 e).1
 ·exact fG _
 ·show(r.C7++[_]).length<=_
  rw[lA,cZ];omega
theorem yn(r:cw):(kL r).C7.length<=r.C7.length+1:=by
 unfold kL
 cases Jl r.A0.A9 r.B3
 ·exact fG _
 ·exact Z9q _ _
theorem vn(r:cw):(Fy r).C7.length<=r.C7.length+1:=by
 unfold Fy
 cases Hd r.A0
 ·exact fG _
 ·show(r.C7++[_]).length<=_
  rw[lA,cZ];omega
theorem qo(r:cw):(Ee r).C7.length<=r.C7.length+1:=vn r
theorem xo{n:Nat}{r:cw}{o:List dx}(hs:nb (kL r).A0=true):iO (n+1) r o=(kL r,o):=by
 conv=>lhs;unfold iO
 rw[hs];rfl
theorem zo{n:Nat}{r:cw}{o:List dx}(hs:nb (kL r).A0=false):iO (n+1) r o=iO n (Ee (kL r)) (o++(ga (kL r).A0 (kL r).B3).1):=by
 conv=>lhs;unfold iO
 rw[hs];rfl
theorem qar{r:cw}(h:pR r.A0=true)(steps clock:Int):lG r steps clock=iO (pO steps).toNat (Jm (r.B0.foldl nc {A0:=r.A0,B3:=if clock>r.B3 then clock else r.B3,C7:=r.C7,B0:=r.B0})) []:=by
 unfold lG;rw[h];rfl
structure tI(P:Nat)(k:Int)(r:cw):Prop where
 g:oy P k r
 q:AL r.B0
 l:(r.C7.length:Int)<=3*k
theorem zN(n:Nat):∀(r:cw) (o:List dx),(iO n r o).1.C7.length<=r.C7.length+2*n:=by
 induction n with
 |zero=>intro r o;exact aO _
 |succ n ih=>
  intro r o
  have f:=yn r
  cases hs:nb (kL r).A0
  ·rw[zo hs]
   have:=ih (Ee (kL r)) (o++(ga (kL r).A0 (kL r).B3).1)
   have:=qo (kL r)
   omega
  ·rw[xo hs]
   show(kL r).C7.length<=_
   omega
theorem vo(l:List gx):∀r:cw,(l.foldl nc r).C7.length<=r.C7.length+l.length:=by
 induction l with
 |nil=>intro r;exact aO _
 |cons e l ih=>
  intro r
  have:=ih (nc r e)
  have:=Z9q r e
  rw[aD,dI];omega
theorem yN(r:cw)(steps clock:Int):(lG r steps clock).1.C7.length<=r.C7.length+r.B0.length+8000:=by
 obtain⟨l0,l1⟩:=S3 steps
 cases hm:pR r.A0
 ·unfold lG;rw[hm]
  show r.C7.length<=_
  omega
 ·rw[qar hm]
  have a:=zN (pO steps).toNat (Jm (r.B0.foldl nc {A0:=r.A0,B3:=if clock>r.B3 then clock else r.B3,C7:=r.C7,B0:=r.B0})) []
  have b:=vo r.B0 {A0:=r.A0,B3:=if clock>r.B3 then clock else r.B3,C7:=r.C7,B0:=r.B0}
  have b:(Jm (r.B0.foldl nc {A0:=r.A0,B3:=if clock>r.B3 then clock else r.B3,C7:=r.C7,B0:=r.B0})).C7.length<=r.C7.length+r.B0.length:=b
  omega
theorem Yp{P:Nat}{k:Int}{r:cw}(h:tI P k r)(steps:Int){clock:Int}(hc:U clock):tI P (k+4000) (lG r steps clock).1:=by
 obtain⟨a,b⟩:=Zii h.g h.q steps hc
 have c:=yN r steps clock
 have d:=h.q.1
 have e:=h.l
 exact⟨a,b,by omega⟩
theorem FA{P:Nat}{k:Int}{r:cw}(h:tI P k r){e:gx}(he:U e.N):tI P k (Ef r e).1:=by
 obtain⟨a,b⟩:=Z58 h.g h.q he
 refine⟨a,b,?_⟩
 have:=h.l
 rw[Yi]
 cases OV e<;>cases e.C0==1<;>cases decide ((r.B0.length:Int)>=16)<;>exact this
theorem tI.more{P:Nat}{k j:Int}{r:cw}(h:tI P k r)(hj:k<=j):tI P j r:=
 ⟨⟨h.g.m,h.g.clock,by have:=h.g.lS;omega⟩,h.q,by have:=h.l;omega⟩
theorem qaK{P:Nat}{k:Int}{A:cw×Bool}(h:tI P k A.1):tI P (k+4000) (A.1,([]:List dx)).1:=h.more (by omega)
theorem Jo{P:Nat}{k:Int}{r:cw}(h:tI P k r)(n:Int):tI P (k+4000) (wK r n).1:=by
 cases hm:dE (AM n 3) 3==0
 ·rw[Yk hm,Yg _ _ _ (by have:=h.q.1;omega)]
  exact Yp h _ (fi _)
 ·rw[Yj hm]
  exact qaK (FA h (yl n))
theorem zaK{α β:Type}(a:α)(b:β):(a,b).1=a:=rfl
theorem Zex(s:cw×List dx)(n:Int):(tH s n).1=(wK s.1 n).1:=(congrArg Prod.fst (xm s n)).trans (zaK _ _)
theorem OY{P:Nat}(l:List Int){k:Int}{s:cw×List dx}(h:tI P k s.1):tI P (k+4000*l.length) (l.foldl tH s).1:=
 zm (f:=tH) (I:=λk s=>tI P k s.1) (λk s n h=>by rw[Zex];exact Jo h n) l k s h
theorem Jp{P:Nat}{m:au}(h:ff P m)(hc:m.A1<=87):tI P 87 {A0:=m,B3:=0,C7:=[],B0:=[]}:=
 ⟨⟨h,ej,hc⟩,⟨aT _,λq hq=>by cases hq⟩,by show((0:Nat):Int)<=_;omega⟩
theorem zar{kind:Int}{l AN:List Int}(hl:l.length*8<=reachBytes)(Yn:l.length<=60)(h30:AN.length<=30){β:Type}{W:β->Prop}{k:au->cw×List dx->Tree β}
 (g:∀m x,m=Fz kind l->ff 8 m->m.A1<=87->x=AN.foldl tH ({A0:=m,B3:=0,C7:=[],B0:=[]},[])->tI 8 121000 x.1->(k m x).w W):
 (Tree.an (Yq kind l) (.lv (Fz kind l) λm=>.an (Qmh m AN) (.lv (Yl m AN) λx=>k m x))).w W:=by
 obtain⟨a,b⟩:=Qyz kind l hl Yn
 refine cz (Tree.pp (Zgj kind l hl)).1 (ar λm hm=>?_)
 rw[<-hm]at a b
 refine cz (Tree.pp (qaE a.ok AN h30)).1 (ar λx hx=>?_)
 rw[zaq _ _ (by omega),ym]at hx
 refine g m x hm a b hx ?_
 have:=OY AN (s:=({A0:=m,B3:=0,C7:=[],B0:=[]},[])) (Jp a b)
 rw[hx]
 exact this.more (by omega)
structure OZ(m:au):Prop where
 dl:U m.A9.C4
 bl:U m.A7.ag
 st: -9223372036854775808<=m.A7.B7/\m.A7.B7<9223372036854775808
 cm: -9223372036854775808<=m.A7.D5/\m.A7.D5<9223372036854775808
 ct:0<=m.A1/\m.A1<18446744073709551616
theorem jF.rfl:∀{l:List D},jF l l
 |[]=>trivial
 |_::_=>⟨gz.rfl,jF.rfl⟩
theorem jF.append:∀{a b a' b':List D},jF a a'->jF b b'->jF (a++b) (a'++b')
 |[],_,[],_,_,h=>h
 |_::_,_,_::_,_,h,g=>⟨h.1,jF.append h.2 g⟩
 |[],_,_::_,_,h,_=>h.elim
 |_::_,_,[],_,h,_=>h.elim
def wM(n:Nat):List Int:=if h:n<128 then[(n:Int)]else((n%128+128:Nat):Int)::wM (n/128)
termination_by n
decreasing_by omega
theorem qp{n:Nat}(h:n<128):wM n=[(n:Int)]:=by unfold wM;rw[dif_pos h]
theorem zY{n:Nat}(h:¬n<128):wM n=((n%128+128:Nat):Int)::wM (n/128):=by
 conv=>lhs;unfold wM
 rw[dif_neg h]
theorem Yr:∀(k n:Nat),n<128^(k+1)->(wM n).length<=k+1
 |0,n,h=>by rw[qp (by simpa using h)];exact aO _
 |k +1,n,h=>by
  by_cases g:n<128
  ·rw[qp g];exact Nat.le_add_left _ _
  ·rw[zY g,dI]
   have:=Yr k (n/128) (by rw[Nat.pow_succ]at h;exact Nat.div_lt_of_lt_mul (by rw[Nat.mul_comm];exact h))
   omega
def wN(x:Int):List UInt8:=bytesOf (wM x.toNat)
theorem Z9w:∀s:List UInt8,bytesOf (Q2 s)=s
 |[]=>rfl
 |b::s=>by
  show UInt8.ofNat ((b.toNat:Int)).toNat::bytesOf (Q2 s)=_
  rw[Z9w s,eD,UInt8.ofNat_toNat]
theorem O0:∀n:Fin 256,iq .u8 (n.val:Int) 128=((n.val%128+128:Nat):Int):=by decide
theorem vN{x:Int}(h:0<=x):iq .u8 (wrap .u8 x) 128=((x.toNat%128+128:Nat):Int):=by
 have e:wrap .u8 x=((x.toNat%256:Nat):Int):=by rw[wrap_u8];omega
 rw[e]
 have:=O0 ⟨x.toNat%256,Nat.mod_lt _ (by decide)⟩
 rw[this]
 show((x.toNat%256%128+128:Nat):Int)=_
 omega
theorem Ys{x:Int}(h:0<=x):bg .u64 x 7=((x.toNat/128:Nat):Int):=by
 have:bg .u64 x 7=x.fdiv 128:=rfl
 rw[this,Int.fdiv_eq_ediv_of_nonneg _ (by decide)];omega
theorem xaK{x:Int}(h0:0<=x)(h1:x<18446744073709551616):(O1 x).w (λs=>s=wN x):=by
 have hl:=Yr 9 x.toNat (by rw[show(128:Nat)^(9+1)=1180591620717411303424 by decide];omega)
 unfold O1
 refine fy (inv:=λv:Int×List Int=>0<=v.1/\v.2++wM v.1.toNat=wM x.toNat) (μ:=Qeu x) ⟨h0,rfl⟩ (cO _) λv ⟨a,b⟩=>?_
 obtain⟨y,o⟩:=v
 have a:0<=y:=a
 have b:o++wM y.toNat=wM x.toNat:=b
 have bl:=congrArg dK b
 rw[lA]at bl
 refine aa (λhb=>?_) (λhb=>?_)
 ·have hb:y>=128:=oY hb
  have g:¬y.toNat<128:=by omega
  rw[zY g]at b bl
  rw[dI]at bl
  refine ba (dY (by show 1*(o.length+1)<=_;omega)) (fg ?_)
  show(0<=bg .u64 y 7/\(o++[iq .u8 (wrap .u8 y) 128])++wM (bg .u64 y 7).toNat=wM x.toNat)/\(bg .u64 y 7).toNat<y.toNat
  rw[Ys a,vN a,eD]
  refine⟨⟨by omega,?_⟩,by omega⟩
  rw[fF];exact b
 ·have hb:¬y>=128:=oN hb
  have g:y.toNat<128:=by omega
  rw[qp g]at b bl
  refine ba (dY (by show 1*(o.length+1)<=_;rw[cZ]at bl;omega)) ?_
  show bytesOf (o++[wrap .u8 y])=wN x
  unfold wN
  rw[<-b,show wrap .u8 y=((y.toNat:Nat):Int) by rw[wrap_u8];omega]
theorem Zj{x:Int}(h1:x<18446744073709551616):(wN x).length<=10:=by
 unfold wN bytesOf
 rw[fH]
 exact Yr 9 x.toNat (by rw[show(128:Nat)^(9+1)=1180591620717411303424 by decide];omega)
def mo(l:List Int):List UInt8:=l.flatMap wN
theorem He:∀{l:List Int},(∀x∈l,x<18446744073709551616)->(mo l).length<=10*l.length
 |[],_=>aO _
 |x::l,h=>by
  have a:=Zj (h x (by simp))
  have b:=He (l:=l) λy hy=>h y (by simp[hy])
  show(wN x++mo l).length<=_
  rw[lA,dI];omega
theorem O2(x:Int)(l:List Int):mo (x::l)=wN x++mo l:=rfl
theorem xar(l m:List Int):mo (l++m)=mo l++mo m:=List.flatMap_append
theorem Zly{b:List Int}{s:List UInt8}(h:b.length+s.length<=1000000):(O3 b s).w (λx=>x.2.2=b++Q2 s):=by
 unfold O3
 refine ar λx0 e0=>?_
 have e0:x0=b:=e0
 subst e0
 refine ba (dY ?_) rfl
 have:(Q2 s).length=s.length:=fH ..
 omega
theorem mq(s:List UInt8):(Q2 s).length=s.length:=fH ..
theorem Ud(s t:List UInt8):Q2 (s++t)=Q2 s++Q2 t:=bL
theorem Zmq{l:List Int}{i:Nat}(h:i<l.length):l.getD i 0=l[i]:=by rw[cP,cG h];rfl
theorem Jq{c l:List Int}(hl:∀x∈l,0<=x/\x<18446744073709551616)(hc:c.length+10*l.length<=1000000):(O4 c l).w (λx=>x=c++Q2 (mo l)):=by
 unfold O4
 refine fy (inv:=λv:Int×List Int=>0<=v.1/\v.1<=l.length/\v.2++Q2 (mo (l.drop v.1.toNat))=c++Q2 (mo l)) (μ:=Q9g c l) ⟨cW 0,by show(0:Int)<=_;omega,rfl⟩ (cO _) λv ⟨a1,a2,a3⟩=>?_
 obtain⟨i,o⟩:=v
 have a1:0<=i:=a1
 have a2:i<=l.length:=a2
 have a3:o++Q2 (mo (l.drop i.toNat))=c++Q2 (mo l):=a3
 refine aa (λhb=>?_) (λhb=>?_)
 ·have hb:i<l.length:=oY hb
  have cf:i.toNat<l.length:=by omega
  have ew:i64.wrap (i+1)=i+1:=by rw[wrap_i64];omega
  have ed:=Zmq cf
  have hm:=hl _ (fI cf)
  rw[aB cf,O2,Ud,<-ed]at a3
  rw[<-ed]at hm
  have len:=congrArg dK a3
  rw[lA,lA,lA,mq,mq,mq]at len
  have ul:=He λy hy=>(hl y hy).2
  refine ba (by simp[bJ];omega) (bm (xaK hm.1 hm.2) λx0 e0=>?_)
  rw[e0]
  refine bm (Zly (b:=o) (s:=wN (l.getD i.toNat 0)) (by omega)) λx1 e1=>fg ?_
  show(0<=i64.wrap (i+1)/\i64.wrap (i+1)<=l.length/\x1.2.2++Q2 (mo (l.drop (i64.wrap (i+1)).toNat))=c++Q2 (mo l))/\(l.length-i64.wrap (i+1)).toNat<(l.length-i).toNat
  rw[ew,e1,show(i+1).toNat=i.toNat+1 by omega,fF]
  exact⟨⟨by omega,by omega,a3⟩,by omega⟩
 ·have hb:¬i<l.length:=oN hb
  rw[aA (by omega)]at a3
  show o=_
  rw[<-a3];exact(cJ o).symm
theorem Hf{x:Int}(h:U x):wrap .u64 x=x:=by have:=h.1;have:=h.2;rw[wrap_u64];omega
theorem Cy{c l:List Int}(hl:∀x∈l,U x)(hc:c.length+10*l.length<=900000):(O5 c l).w (λx=>x=c++Q2 (mo l)):=by
 unfold O5
 refine fy (inv:=λv:Int×List Int=>0<=v.1/\v.1<=l.length/\v.2++Q2 (mo (l.drop v.1.toNat))=c++Q2 (mo l)) (μ:=Qac c l) ⟨cW 0,by show(0:Int)<=_;omega,rfl⟩ (cO _) λv ⟨a1,a2,a3⟩=>?_
 obtain⟨i,o⟩:=v
 have a1:0<=i:=a1
 have a2:i<=l.length:=a2
 have a3:o++Q2 (mo (l.drop i.toNat))=c++Q2 (mo l):=a3
 refine aa (λhb=>?_) (λhb=>?_)
 ·have hb:i<l.length:=oY hb
  have cf:i.toNat<l.length:=by omega
  have ew:i64.wrap (i+1)=i+1:=by rw[wrap_i64];omega
  have ed:=Zmq cf
  have hm:=hl _ (fI cf)
  rw[aB cf,O2,Ud,<-ed]at a3
  rw[<-ed]at hm
  have len:=congrArg dK a3
  rw[lA,lA,lA,mq,mq,mq]at len
  have ul:=He (l:=l) λy hy=>by have:=(hl y hy).2;omega
  have h2:=hm.2
  refine ba (by simp[bJ];omega) (bm (Jq (c:=o) (λx hx=>by rw[List.mem_singleton.1 hx,Hf hm];exact⟨hm.1,by omega⟩) (by show o.length+10*1<=_;omega)) λx0 e0=>fg ?_)
  have e0:x0=o++Q2 (wN (l.getD i.toNat 0)):=by
   rw[e0,Hf hm,O2]
   show o++Q2 (wN _++[])=_
   rw[cJ]
  show(0<=i64.wrap (i+1)/\i64.wrap (i+1)<=l.length/\x0++Q2 (mo (l.drop (i64.wrap (i+1)).toNat))=c++Q2 (mo l))/\(l.length-i64.wrap (i+1)).toNat<(l.length-i).toNat
  rw[ew,e0,show(i+1).toNat=i.toNat+1 by omega,fF]
  exact⟨⟨by omega,by omega,a3⟩,by omega⟩
 ·have hb:¬i<l.length:=oN hb
  rw[aA (by omega)]at a3
  show o=_
  rw[<-a3];exact(cJ o).symm
def FB(b:Bool):Int:=bif b then 1 else 0
theorem Mc{c:List Int}(b:Bool)(hc:c.length<=999000):(O6 c b).w (λx=>x=c++Q2 (mo [FB b])):=by
 unfold O6
 cases b
 ·exact aa (λh=>by cases h) λ_=>bm (Jq (c:=c) (l:=[0]) (λx hx=>by rw[List.mem_singleton.1 hx];decide) (by show c.length+10*1<=_;omega)) λx e=>e
 ·exact aa (λ_=>bm (Jq (c:=c) (l:=[1]) (λx hx=>by rw[List.mem_singleton.1 hx];decide) (by show c.length+10*1<=_;omega)) λx e=>e) λh=>by cases h
def Md(s:List UInt8):List UInt8:=wN s.length++s
theorem Zmt{c:List Int}{s:List UInt8}(hc:c.length+s.length<=900000):(O7 c s).w (λx=>x=c++Q2 (Md s)):=by
 have ew:wrap .u64 ((s.length:Nat):Int)=s.length:=by rw[wrap_u64];omega
 have hu:=Zj (x:=(s.length:Int)) (by omega)
 unfold O7
 refine bm (Jq (c:=c) (λx hx=>by rw[List.mem_singleton.1 hx,ew];omega) (by show c.length+10*1<=_;omega)) λx0 e0=>?_
 rw[ew]at e0
 have e0:x0=c++Q2 (wN s.length):=by
  rw[e0,O2]
  show c++Q2 (wN _++[])=_
  rw[cJ]
 refine bm (Zly (by rw[e0,lA,mq];omega)) λx1 e1=>?_
 show x1.2.2=_
 rw[e1,e0]
 unfold Md
 rw[Ud,fF]
def O8(m:au):List Int:=iS.l m.B1.X++(m.B1.Pc::A8.l m.B1.B4)++[(m.Mem.length:Int)]
def O9(m:au):List Int:=[FB m.A9.D4,m.A9.C4,FB m.A9.D3,m.A7.ag,m.A7.C1,m.A7.Frame,wrap .u64 m.A7.B7,wrap .u64 m.A7.D5,m.A7.B6,m.A7.B2]
def Pa(m:au):List Int:=[m.C3.Frame,m.C3.E0,FB m.C3.C5,m.C3.B9,FB m.C3.B5,m.C3.F1,m.A2.C6,m.A2.C2,m.A1,FB m.A4,FB m.A6]
def sN(m:au):List UInt8:=mo (O8 m)++(mo m.Mem++(Md m.A3.D1++(mo (O9 m)++(Md m.A7.B8++mo (Pa m)))))
theorem Znv{m:au}(hv:sM m)(hr:OZ m)(hm:m.Mem.length<=1100)(hk:m.A3.D1.length<=100000)(ho:m.A7.B8.length<=100000):(Pb m).w (λs=>s=sN m/\s.length<=400000):=by
 obtain⟨c1,c2,c3⟩:=hv.lY
 obtain⟨d1,d2,d3,d4⟩:=hv.kR
 obtain⟨n1,n2,n3,n4⟩:=hv.sK
 obtain⟨b1,b2⟩:=hv.uu
 obtain⟨r1,r2,r3,r4,r5⟩:=hr
 have one:∀{x:Int},U x->∀y∈[x],U y:=λh y hy=>by rw[List.mem_singleton.1 hy];exact h
 have kl:∀{s:List UInt8},s.length<=100000->(Md s).length<=10+s.length:=fun{s} h=>by
  have:=Zj (x:=(s.length:Int)) (by omega)
  unfold Md;rw[lA];omega
 have k1:=kl hk
 have k2:=kl ho
 have ws:∀{l:List Int},(∀x∈l,U x)->(mo l).length<=10*l.length:=λh=>He λy hy=>by have:=(h y hy).2;omega
 have W:∀{x:Int},0<=wrap .u64 x/\wrap .u64 x<18446744073709551616:=fun{x}=>by rw[wrap_u64];omega
 have fl:∀b:Bool,(mo [FB b]).length<=10:=λb=>He (l:=[FB b]) λy hy=>by rw[List.mem_singleton.1 hy];cases b<;>decide
 have ml:=ws hv.mem
 have eL:wrap .u64 ((m.Mem.length:Nat):Int)=m.Mem.length:=by rw[wrap_u64];omega
 have U3:∀x∈[m.A7.ag,m.A7.C1,m.A7.Frame],U x:=λx hx=>by
  simp only[cS,cU,or_false]at hx
  rcases hx with rfl|rfl|rfl<;>assumption
 have U2:∀{a b:Int},U a->U b->∀x∈[a,b],U x:=λha hb x hx=>by
  simp only[cS,cU,or_false]at hx
  rcases hx with rfl|rfl<;>assumption
 have S2:∀x∈[wrap .u64 m.A7.B7,wrap .u64 m.A7.D5],0<=x/\x<18446744073709551616:=λx hx=>by
  simp only[cS,cU,or_false]at hx
  rcases hx with rfl|rfl<;>exact W
 have sl:=He (l:=[wrap .u64 m.A7.B7,wrap .u64 m.A7.D5]) λx hx=>(S2 x hx).2
 have L16:=ws (l:=iS.l m.B1.X) c1
 have L8:=ws (l:=A8.l m.B1.B4) c3
 have l16:(iS.l m.B1.X).length=16:=rfl
 have l8:(A8.l m.B1.B4).length=8:=rfl
 have p1:=ws (one c2)
 have e1:=He (l:=[(m.Mem.length:Int)]) λx hx=>by rw[List.mem_singleton.1 hx];omega
 have q1:=ws (one r1)
 have q2:=ws U3
 have q3:=ws (U2 d3 d4)
 have q4:=ws (U2 n1 n2)
 have q5:=ws (one n3)
 have q6:=ws (one n4)
 have q7:=ws (U2 b1 b2)
 have q8:=He (l:=[m.A1]) λx hx=>by rw[List.mem_singleton.1 hx];exact r5.2
 have f1:=fl m.A9.D4
 have f2:=fl m.A9.D3
 have f3:=fl m.C3.C5
 have f4:=fl m.C3.B5
 have f5:=fl m.A4
 have f6:=fl m.A6
 simp only[dI,List.length_nil]at sl p1 e1 q1 q2 q3 q4 q5 q6 q7 q8
 unfold Pb
 refine bm (Cy (c:=[]) (l:=iS.l m.B1.X) c1 (by rw[l16];decide)) λx0 g0=>?_
 have z0:x0.length<=160:=by rw[g0,lA,mq];show 0+_<=_;omega
 refine bm (Cy (one c2) (by show x0.length+10*1<=_;omega)) λx1 g1=>?_
 have z1:x1.length<=170:=by rw[g1,lA,mq];omega
 refine bm (Cy (l:=A8.l m.B1.B4) c3 (by rw[l8];omega)) λx2 g2=>?_
 have z2:x2.length<=250:=by rw[g2,lA,mq];omega
 rw[eL]
 refine bm (Jq (l:=[(m.Mem.length:Int)]) (λx hx=>by rw[List.mem_singleton.1 hx];omega) (by show x2.length+10*1<=_;omega)) λx3 g3=>?_
 have z3:x3.length<=260:=by rw[g3,lA,mq];omega
 refine bm (Cy hv.mem (by omega)) λx4 g4=>?_
 have z4:x4.length<=11500:=by rw[g4,lA,mq];omega
 refine bm (Zmt (s:=m.A3.D1) (by omega)) λx5 g5=>?_
 have z5:x5.length<=111510:=by rw[g5,lA,mq];omega
 refine bm (Mc m.A9.D4 (by omega)) λx6 g6=>?_
 have z6:x6.length<=111520:=by rw[g6,lA,mq];omega
 refine bm (Cy (one r1) (by show x6.length+10*1<=_;omega)) λx7 g7=>?_
 have z7:x7.length<=111530:=by rw[g7,lA,mq];omega
 refine bm (Mc m.A9.D3 (by omega)) λx8 g8=>?_
 have z8:x8.length<=111540:=by rw[g8,lA,mq];omega
 refine bm (Cy U3 (by show x8.length+10*3<=_;omega)) λx9 g9=>?_
 have z9:x9.length<=111570:=by rw[g9,lA,mq];omega
 refine bm (Jq S2 (by show x9.length+10*2<=_;omega)) λjM g10=>?_
 have z10:jM.length<=111590:=by rw[g10,lA,mq];omega
 refine bm (Cy (U2 d3 d4) (by show jM.length+10*2<=_;omega)) λmr g11=>?_
 have z11:mr.length<=111610:=by rw[g11,lA,mq];omega
 refine bm (Zmt (s:=m.A7.B8) (by omega)) λkS g12=>?_
 have z12:kS.length<=211620:=by rw[g12,lA,mq];omega
 refine bm (Cy (U2 n1 n2) (by show kS.length+10*2<=_;omega)) λlU g13=>?_
 have z13:lU.length<=211640:=by rw[g13,lA,mq];omega
 refine bm (Mc m.C3.C5 (by omega)) λuz g14=>?_
 have z14:uz.length<=211650:=by rw[g14,lA,mq];omega
 refine bm (Cy (one n3) (by show uz.length+10*1<=_;omega)) λJr g15=>?_
 have z15:Jr.length<=211660:=by rw[g15,lA,mq];omega
 refine bm (Mc m.C3.B5 (by omega)) λuA g16=>?_
 have z16:uA.length<=211670:=by rw[g16,lA,mq];omega
 refine bm (Cy (one n4) (by show uA.length+10*1<=_;omega)) λHg g17=>?_
 have z17:Hg.length<=211680:=by rw[g17,lA,mq];omega
 refine bm (Cy (U2 b1 b2) (by show Hg.length+10*2<=_;omega)) λHh g18=>?_
 have z18:Hh.length<=211700:=by rw[g18,lA,mq];omega
 refine bm (Jq (l:=[m.A1]) (λx hx=>by rw[List.mem_singleton.1 hx];exact r5) (by show Hh.length+10*1<=_;omega)) λUe g19=>?_
 have z19:Ue.length<=211710:=by rw[g19,lA,mq];omega
 refine bm (Mc m.A4 (by omega)) λUf g20=>?_
 have z20:Uf.length<=211720:=by rw[g20,lA,mq];omega
 refine bm (Mc m.A6 (by omega)) λFC g21=>?_
 have z21:FC.length<=211730:=by rw[g21,lA,mq];omega
 refine ar λFD e=>?_
 have e:FD.1=bytesOf FC:=congrArg Prod.fst e
 show FD.1=sN m/\FD.1.length<=400000
 rw[e]
 refine⟨?_,by show(FC.map _).length<=_;rw[fH];omega⟩
 rw[g21,g20,g19,g18,g17,g16,g15,g14,g13,g12,g11,g10,g9,g8,g7,g6,g5,g4,g3,g2,g1,g0]
 simp only[fJ,<-Ud,Z9w]
 unfold sN O8 O9 Pa
 simp only[xar,O2,fF,fJ,show mo []=[] from rfl,cJ]
structure kD(m:au):Prop where
 dl:U m.A9.C4
 bl:U m.A7.ag
theorem Zpr(d:fp)(m:List Int)(port v dh:Int):(OI d m port v dh).1.ag=d.ag:=by
 show Tree.V (G6 d m port v dh) (λr=>r.1.ag=d.ag)
 unfold G6
 repeat'(first
  |exact c6 rfl
  |exact dq λ_ _=>c6 rfl
  |refine c9 (λ_=>?_) (λ_=>?_)
  |refine ft ?_
  |refine dq λ_ _=>?_)
theorem xp(d:fp)(m:List Int)(e:gx):(Je d m e).1.ag=d.ag:=by
 show Tree.V (G7 d m e) (λr=>r.1.ag=d.ag)
 unfold G7
 repeat'(first
  |exact c6 rfl
  |refine c9 (λ_=>?_) (λ_=>?_)
  |refine ft ?_
  |refine dq λ_ _=>?_)
theorem qas(t:iU):(T0 t).1.C4=t.C4:=by
 show Tree.V (Ug t) (λr=>r.1.C4=t.C4)
 unfold Ug
 exact c9 (λ_=>c6 rfl) λ_=>c6 rfl
theorem qaL{v:Int}(hv:U v):U (OF v).C4:=by
 show Tree.V (OG v) (λr=>U r.C4)
 unfold OG
 exact c9 (λ_=>c6 ej) λ_=>c6 hv
theorem Pd{m:au}(h:kD m)(port clock:Int):kD (wI m port clock).2:=by
 show Tree.V (Gz m port clock) (λr=>kD r.2)
 unfold Gz
 repeat'(first
  |exact c6 h
  |exact c6 ⟨h.dl,h.bl⟩
  |refine c9 (λ_=>?_) (λ_=>?_)
  |refine dq λ_ _=>?_)
theorem zaL{m:au}(h:kD m)(port:Int){v:Int}(hv:U v):kD (AJ m port v).2:=by
 show Tree.V (Fa m port v) (λr=>kD r.2)
 unfold Fa
 refine c9 (λ_=>c6 h) λ_=>c9 (λ_=>c6 h) λ_=>c9 (λ_=>dq λx ex=>c6 ⟨by rw[ex];exact qaL hv,h.bl⟩) λ_=>c9 (λ_=>ft (dq λx ex=>c6 ⟨h.dl,by show U x.1.ag;rw[ex,Zpr];exact h.bl⟩)) λ_=>c9 (λ_=>ft (dq λx ex=>c6 ⟨h.dl,h.bl⟩)) λ_=>ft (dq λx ex=>c6 ⟨h.dl,h.bl⟩)
theorem yY{P:Nat}{m:au}(g:ff P m)(h:kD m)(clock:Int):kD (ga m clock).2:=by
 have ic:iw (lT m):=(Tree.pp (S6 g.ok.lY)).2
 have dv:U (pQ (lT m) m.Mem).2.1.Value:=(Tree.pp (Fb ic g.ok.mem)).2.2.1
 rw[xY]
 generalize pQ (lT m) m.Mem=D at*
 have w:kD (Cu m D.1 D.2.2):=⟨h.dl,h.bl⟩
 have i:=Pd w D.2.1.D0 clock
 have o:=zaL w D.2.1.D0 dv
 unfold Cv
 cases D.2.1.C0==1
 ·cases D.2.1.C0==2
  ·cases D.2.1.C0==3
   ·cases D.2.1.C0==4
    ·exact⟨h.dl,h.bl⟩
    ·exact⟨h.dl,h.bl⟩
   ·exact⟨h.dl,h.bl⟩
  ·exact⟨o.dl,o.bl⟩
 ·exact⟨i.dl,i.bl⟩
theorem xaL{m:au}(h:kD m)(e:gx):kD (lK m e).2:=by
 show Tree.V (Fx m e) (λr=>kD r.2)
 unfold Fx
 repeat'(first
  |exact c6 h
  |exact c6 ⟨h.dl,h.bl⟩
  |exact dq λx ex=>c6 ⟨by rw[ex,qas];exact h.dl,h.bl⟩
  |exact ft (dq λx ex=>c6 ⟨h.dl,by show U x.1.ag;rw[ex,xp];exact h.bl⟩)
  |exact ft (dq λx ex=>c6 ⟨h.dl,h.bl⟩)
  |refine c9 (λ_=>?_) (λ_=>?_))
theorem qaM(i:List Int):kD (k9 8 4 i).1:=by
 show Tree.V (DM 8 4 i) (λx=>kD x.1)
 unfold DM
 repeat'(first
  |exact c6 ⟨ej,ej⟩
  |exact c6 ⟨ej,fi _⟩
  |refine c9 (λ_=>?_) (λ_=>?_)
  |refine ft ?_
  |refine dq λ_ _=>?_)
theorem zas{m:au}(h:ff 8 m)(d:kD m):Tree.V (Fc m [] 87) (λx=>kD x.1):=by
 have z:∀{x:au},x.A9.C4=0->x.A7.ag=0->kD x:=λa b=>⟨a▸ej,b▸ej⟩
 unfold Fc
 refine dq λx0 _=>c9 (λ_=>c6 (z rfl rfl)) λ_=>c9 (λ_=>c6 (z rfl rfl)) λ_=>c9 (λ_=>c6 (z rfl rfl)) λ_=>ft (dq λx1 _=>c9 (λ_=>c6 (z rfl rfl)) λ_=>ft (dq λx2 hx=>?_))
 rw[Hc]at hx
 refine rp (inv:=λv:au×List dx=>ff 8 v.1/\kD v.1) (μ:=S8 m [] 87) ⟨by rw[hx];exact h,by rw[hx];exact d⟩ (cO _) λv0 ⟨a1,a3⟩=>?_
 have a2:=a1.ok.lS
 refine c9 (λhb=>c9 (λhm=>?_) (λ_=>c6 a3)) (λ_=>c6 a3)
 have hb:=oY hb
 have hm:=oY hm
 refine rp (inv:=λ_=>True) (μ:=S9 m [] 87 v0) trivial (cO _) λv1 _=>?_
 refine c9 (λ_=>c6 a3) λhh=>ft (dq λx3 h3=>c9 (λ_=>c6 a3) λhi=>ft (dq λx4 _=>c9 (λ_=>c6 (z rfl rfl)) λ_=>ft (dq λx5 h5=>j6 (py ?_))))
 obtain⟨b1,b2,_⟩:=L9 a1 ((L7 a1).2 ⟨hh,h3.symm.trans hi,hm⟩) (clock:=0) ej
 have b3:=yY a1 a3 0
 rw[<-h5]at b1 b2 b3
 show(ff 8 x5.2/\kD x5.2)/\(87-x5.2.A1).toNat<(87-v0.1.A1).toNat
 exact⟨⟨b1,b3⟩,by omega⟩
theorem Z9(kind:Int)(l:List Int)(hl:l.length*8<=reachBytes)(Yn:l.length<=60):kD (Fz kind l):=by
 show Tree.V (Ff kind l) kD
 have code:=(Tree.pp (S0 l hl)).2
 change((Mb l).length:Int)=l.length/\∀w∈Mb l,U w at code
 obtain⟨b1,b2⟩:=code
 unfold Ff
 have fin:∀{x3:au×Bool} {i:List Int},x3=k9 8 4 i->(∀w∈i,U w)->i.length<=256->kD x3.1/\kD (IP x3.1 [] 87).1:=fun{x3 i} e hu hlen=>by
  obtain⟨c1,_⟩:=Ym hu hlen
  have d:=qaM i
  rw[<-e]at c1 d
  exact⟨d,zas c1 d⟩
 refine ft (dq λx0 nI=>c9 (λ_=>ft (dq λx1 e1=>?_)) (λhk=>?_))
 ·have eb:x1.1=lB:=by rw[e1];rfl
  obtain⟨q1,q2⟩:lB.length<=160/\∀w∈lB,U w:=Ta
  refine rp (inv:=λv:List Int=>v.length<=160/\∀w∈v,U w) (μ:=Td kind l) ⟨by rw[eb];exact q1,by rw[eb];exact q2⟩ (cO _) λv0 ⟨a1,a2⟩=>?_
  refine c9 (λhb=>?_) (λhb=>?_)
  ·have hb:=oY hb
   refine j6 (py ?_)
   show(_/\_)/\(_:Nat)<_
   refine⟨⟨by rw[lA,cZ];omega,λw hw=>?_⟩,by show 160-(v0++[0]).length<160-v0.length;rw[lA,cZ];omega⟩
   rcases List.mem_append.1 hw with hw|hw
   ·exact a2 w hw
   ·rw[List.mem_singleton.1 hw];exact ej
  ·refine ft (dq λx2 e2=>j6 ?_)
   rw[<-e2]at b1 b2
   have hu:∀w∈v0++x2,U w:=λw hw=>(List.mem_append.1 hw).elim (a2 w) (b2 w)
   have hlen:(v0++x2).length<=256:=by rw[lA];omega
   refine c9 (λhb=>?_) (λhb=>ft (dq λx3 h3=>c9 (λ_=>ft (dq λx4 h4=>c6 (by rw[h4];exact(fin h3 hu hlen).2))) λ_=>c6 (fin h3 hu hlen).1))
   have hb:=oY hb;omega
 ·refine ft (dq λx2 e2=>j6 ?_)
  rw[<-e2]at b1 b2
  refine c9 (λhb=>?_) (λhb=>ft (dq λx3 h3=>c9 (λ_=>ft (dq λx4 h4=>c6 (by rw[h4];exact(fin h3 b2 (by omega)).2))) λ_=>c6 (fin h3 b2 (by omega)).1))
  have hb:=oY hb;omega
theorem Zps(d:fp)(c7:Int):ki d c7=true->(0<=d.B7/\d.B7<=3)/\(0<=d.D5/\d.D5<=2)/\d.B8.length<=128:=by
 show Tree.V (wC d c7) (λb=>b=true->(0<=d.B7/\d.B7<=3)/\(0<=d.D5/\d.D5<=2)/\d.B8.length<=128)
 have no:∀{p:Prop},(false=true->p):=λh=>by cases h
 have zero:∀{k:Int},(d.B7==k)=true->(0<=k/\k<=3)->(d.D5==0)=true->decide (d.B8=[])=true->(0<=d.B7/\d.B7<=3)/\(0<=d.D5/\d.D5<=2)/\d.B8.length<=128:=λa b c e=>by
  have a:=eq_of_beq a
  have c:=eq_of_beq c
  have e:=oY e
  exact⟨by omega,by omega,by rw[e];exact aT _⟩
 unfold wC
 refine c9 (λ_=>c6 no) λ_=>c9 (λs=>c9 (λc=>c9 (λ_=>c9 (λ_=>c6 (zero s (by decide) c)) λ_=>c6 no) λ_=>c6 no) λ_=>c6 no) λ_=>c9 (λs=>c9 (λc=>c9 (λ_=>c9 (λ_=>c6 (zero s (by decide) c)) λ_=>c6 no) λ_=>c6 no) λ_=>c6 no) λ_=>c9 (λs=>c9 (λc=>c9 (λ_=>c9 (λ_=>c6 (zero s (by decide) c)) λ_=>c6 no) λ_=>c6 no) λ_=>c6 no) λ_=>c9 (λs=>dq λx ex=>c9 (λhx=>?_) λ_=>c6 no) λ_=>c6 no
 have s:=eq_of_beq s
 have cm:N6 d=true->(0<=d.D5/\d.D5<=2)/\d.B8.length<=128:=by
  show Tree.V (IV d) (λb=>b=true->(0<=d.D5/\d.D5<=2)/\d.B8.length<=128)
  unfold IV
  refine c9 (λc=>c6 λe=>?_) λ_=>c9 (λc=>c6 λe=>?_) λ_=>c6 no
  ·have c:=eq_of_beq c
   have e:=oY e
   exact⟨by omega,by rw[e];exact aT _⟩
  ·have c:=eq_of_beq c
   have e:=eq_of_beq e
   exact⟨by omega,by omega⟩
 obtain⟨c1,c2⟩:=cm (by rw[<-ex];exact hx)
 exact c9 (λ_=>c6 λ_=>⟨by omega,c1,c2⟩) λ_=>c6 no
theorem zp{m:au}(h:sH m=true):m.A3.D1.length<=16/\(0<=m.A7.B7/\m.A7.B7<=3)/\(0<=m.A7.D5/\m.A7.D5<=2)/\m.A7.B8.length<=128:=by
 have no:∀{p:Prop},(false=true->p):=λh=>by cases h
 refine(show Tree.V (DO m) (λb=>b=true->m.A3.D1.length<=16/\(0<=m.A7.B7/\m.A7.B7<=3)/\(0<=m.A7.D5/\m.A7.D5<=2)/\m.A7.B8.length<=128) from ?_) h
 unfold DO
 refine dq λx0 _=>dq λx1 e1=>c9 (λh1=>dq λx2 _=>c9 (λ_=>dq λx3 e3=>c9 (λh3=>?_) λ_=>c6 no) λ_=>c6 no) λ_=>c6 no
 have k:m.A3.D1.length<=16:=by
  rw[e1]at h1
  have h1:decide ((m.A3.D1.length:Int)<=16)=true:=h1
  have:=oY h1;omega
 rw[e3]at h3
 have d:=Zps _ _ h3
 exact dq λx4 _=>c9 (λ_=>ft (dq λx5 _=>c6 λ_=>⟨k,d⟩)) λ_=>c6 no
structure Hi(m:au):Prop where
 r:OZ m
 k:m.A3.D1.length<=100000
 o:m.A7.B8.length<=100000
theorem Znu{P:Nat}{m:au}(g:ff P m)(d:kD m):Hi m:=by
 obtain⟨_,_,c,_,dv⟩:=(GM m).1 g.may
 obtain⟨k,s,cm,o⟩:=zp dv
 have c0:=g.ok.lS
 exact⟨⟨d.dl,d.bl,by omega,by omega,by omega⟩,by omega,by omega⟩
theorem Yt(x:Int):0<=wrap .u64 x/\wrap .u64 x<18446744073709551616:=by rw[wrap_u64];omega
theorem yp(h0:Int)(s:List UInt8):Pe h0 s=Pf h0 s:=rfl
theorem xas{m:au}(hv:sM m)(e:Hi m)(hm:m.Mem.length<=1100):Uh m/\Ui m=Pe 14695981039346656037 (sN m):=by
 refine Tree.pp (t:=Pg m) (W:=λr=>r=Pe 14695981039346656037 (sN m)) ?_
 unfold Pg
 exact bm (Znv hv e.r hm e.k e.o) λx hx=>cz (show x.length<=1000000000000 by have:=hx.2;omega) (ar λy hy=>ey (by rw[hy,hx.1]))
def j7(r:cw):Prop:=∀e∈r.C7,U e.C8.N
theorem Zh{L:List eu}{x:eu}(h:∀e∈L,U e.C8.N)(hx:U x.C8.N):∀e∈L++[x],U e.C8.N:=λe he=>by
 rcases List.mem_append.1 he with h1|h1
 ·exact h e h1
 ·rw[List.mem_singleton.1 h1];exact hx
theorem vp{r:cw}(h:j7 r){e:gx}(he:U e.N):j7 (nc r e):=by
 unfold nc
 cases(lK r.A0 e).1
 ·exact h
 ·exact Zh h he
theorem vY{r:cw}(h:j7 r):j7 (kL r):=by
 unfold kL
 cases Jl r.A0.A9 r.B3
 ·exact h
 ·exact vp h ej
theorem zaM{r:cw}(h:j7 r)(hc:U r.B3):j7 (Ee r):=by
 show∀e∈(Fy r).C7,_
 unfold Fy
 cases Hd r.A0
 ·exact h
 ·exact Zh h hc
theorem Hj{P:Nat}:∀(n:Nat) {k:Int} {r:cw} (o:List dx),oy P k r->j7 r->j7 (iO n r o).1
 |0,_,_,_,_,h=>h
 |n +1,k,r,o,g,h=>by
  obtain⟨gf,_⟩:=Z7u g
  cases hs:nb (kL r).A0
  ·rw[zo hs]
   exact Hj n _ (Z9n gf hs) (zaM (vY h) gf.clock)
  ·rw[xo hs];exact vY h
theorem qq:∀(l:List gx) {r:cw},(∀q∈l,U q.N)->j7 r->j7 (l.foldl nc r)
 |[],_,_,h=>h
 |e::l,r,hq,h=>qq l (λq hm=>hq q (by simp[hm])) (vp h (hq e (by simp)))
theorem Ph{P:Nat}{k:Int}{r:cw}(g:oy P k r)(hq:AL r.B0)(h:j7 r)(steps:Int){clock:Int}(hc:U clock):j7 (lG r steps clock).1:=by
 have gm:U (if clock>r.B3 then clock else r.B3):=by split<;>first|exact hc|exact g.clock
 obtain⟨a,b⟩:=Z8j r.B0 (r:={A0:=r.A0,B3:=if clock>r.B3 then clock else r.B3,C7:=r.C7,B0:=r.B0}) ⟨g.m,gm,g.lS⟩ hq.2
 unfold lG
 rw[g.m.Cw]
 exact Hj _ [] (r:=Jm _) ⟨a.m,a.clock,a.lS⟩ (qq r.B0 (r:={A0:=r.A0,B3:=if clock>r.B3 then clock else r.B3,C7:=r.C7,B0:=r.B0}) hq.2 h)
theorem Pj{r:cw}(h:j7 r)(e:gx):j7 (Ef r e).1:=by
 rw[Yi]
 cases OV e<;>cases e.C0==1<;>cases decide ((r.B0.length:Int)>=16)<;>exact h
theorem Yu{A:cw×Bool}(h:j7 A.1):j7 (A.1,([]:List dx)).1:=h
theorem qat{P:Nat}{k:Int}{r:cw}(g:oy P k r)(hq:AL r.B0)(h:j7 r)(n:Int):j7 (wK r n).1:=by
 cases hm:dE (AM n 3) 3==0
 ·rw[Yk hm,Yg _ _ _ (by have:=hq.1;omega)]
  exact Ph g hq h _ (fi _)
 ·rw[Yj hm]
  exact Yu (A:=Ef r (OU n)) (Pj h _)
theorem qZ{P:Nat}:∀(l:List Int) {k:Int} {s:cw×List dx},oy P k s.1->AL s.1.B0->j7 s.1->j7 (l.foldl tH s).1
 |[],_,_,_,_,h=>h
 |n::l,k,s,g,hq,h=>by
  rw[aD]
  have a:=Zpe g hq n
  have b:=qat g hq h n
  rw[<-Zex]at a b
  exact qZ l a.1 a.2 b
theorem Zm5{l:List eu}{i:Nat}(h:i<l.length):l.getD i (RK.cq RK.ab)=l[i]:=by
 rw[cP,cG h];rfl
abbrev jL:=au×List dx×Int×Int
def mv:au:={B1:={X:={a0:=0,a1:=0,a2:=0,a3:=0,a4:=0,a5:=0,a6:=0,a7:=0,a8:=0,a9:=0,kq:=0,kr:=0,a12:=0,ku:=0,kv:=0,ky:=0},Pc:=0,B4:={a0:=0,a1:=0,a2:=0,a3:=0,a4:=0,a5:=0,a6:=0,a7:=0}},Mem:=[],A3:={D1:=[]},A9:={D4:=false,C4:=0,D3:=false},A7:={ag:=0,C1:=0,Frame:=0,B7:=0,D5:=0,B6:=0,B2:=0,B8:=[]},C3:={Frame:=0,E0:=0,C5:=false,B9:=0,B5:=false,F1:=0},A2:={C6:=0,C2:=0},A1:=0,A4:=false,A6:=false}
def iX(s:List eu)(i:Int):eu:=s.getD i.toNat (RK.cq RK.ab)
def nt(s:List eu):Nat->Int->au->Int×au
 |0,i,y=>(i,y)
 |n+1,i,y=>bif(decide (i<(s.length:Int))&&(((iX s i).At==y.A1)&&((iX s i).C8.C0 !=1)))then nt s n (i+1) (lK y (iX s i).C8).2 else(i,y)
def Eg(go:Int->au->List dx->jL)(s:List eu)(i:Int)(y:au)(out:List dx):jL:=
 bif y.A6 then(y,out,i,0)else
 bif tG y then(bif decide (i<(s.length:Int))then(mv,[],0,1303)else(y,out,i,0))else
 bif decide (i<(s.length:Int))then
  (bif((iX s i).At==y.A1)==pS y then
   (bif((iX s i).At==y.A1)then go (i+1) (ga y (iX s i).C8.N).2 (out++(ga y (iX s i).C8.N).1)else go i (ga y 0).2 (out++(ga y 0).1))
  else(mv,[],0,1302))
 else(bif false==pS y then go i (ga y 0).2 (out++(ga y 0).1)else(mv,[],0,1302))
def jc(s:List eu)(u:Int):Nat->Int->au->List dx->jL
 |0,i,x,out=>(x,out,i,0)
 |k+1,i,x,out=>bif decide (x.A1<1152921504606846976)then Eg (jc s u k) s (nt s (s.length-i).toNat i x).1 (nt s (s.length-i).toNat i x).2 out else(x,out,i,0)
def Eh(s:List eu)(i:Nat):Bool:=!decide ((s.getD i (RK.cq RK.ab)).At<(s.getD (i-1) (RK.cq RK.ab)).At)&&!(((s.getD i (RK.cq RK.ab)).At==(s.getD (i-1) (RK.cq RK.ab)).At)&&((s.getD (i-1) (RK.cq RK.ab)).C8.C0==1))
def lH(s:List eu):Bool:=decide (∀i,i<s.length->1<=i->Eh s i=true)
def nd(m:au)(s:List eu)(u:Int):Int:=
 if pR m=false then 1300 else if u<m.A1 then 1300 else if 4000<wrap .u64 (u-m.A1)then 1300 else if 400<s.length then 1300 else if lH s=false then 1301 else if 0<s.length/\(iX s 0).At<m.A1 then 1301 else 0
def cy(m:au)(s:List eu)(u:Int):jL:=if nd m s u=0 then jc s u (u-m.A1).toNat 0 m []else(mv,[],0,nd m s u)
theorem Pk{β:Type}{c1 c2 c3 cc:Bool}{N T:Tree β}{W:β->Prop}(Yv:c1=true->cc=true)(hN:c1=true->c2=true->c3=true->N.w W)(hT:(c1&&(c2&&c3))=false->T.w W):(Tree.br c1 (.cn cc (.br c2 (.cn cc (.br c3 (.cn cc N) T)) T)) T).w W:=by
 refine aa (λh1=>ba (Yv h1) (aa (λh2=>ba (Yv h1) (aa (λh3=>ba (Yv h1) (hN h1 h2 h3)) λh3=>hT (by rw[h1,h2,h3];rfl))) λh2=>hT (by rw[h1,h2];rfl))) λh1=>hT (by rw[h1];rfl)
theorem bn3:∀a b:Bool,(!b==a)=true->(a==b)=false:=by decide
theorem bn4:∀a b:Bool,(!b==a)=false->(a==b)=true:=by decide
theorem Yw{s:List eu}(h:lH s=true):∀i:Nat,i<s.length->1<=i->Eh s i=true:=oY h
theorem xq{s:List eu}(h:lH s=true):∀i:Nat,i<s.length->(iX s 0).At<=(s.getD i (RK.cq RK.ab)).At:=by
 intro i
 induction i with
 |zero=>intro _;exact cW _
 |succ i ih=>
  intro hi
  have h1:=Yw h (i+1) hi (by omega)
  have h2:=ih (by omega)
  unfold Eh at h1
  rw[aE]at h1
  have h3:decide ((s.getD (i+1) (RK.cq RK.ab)).At<(s.getD i (RK.cq RK.ab)).At)=false:=by simpa using h1.1
  have h3:=oN h3
  omega
theorem Z7n{s:List eu}(hl:s.length<=1000000):(Me s).w (λb=>b=lH s):=by
 unfold Me
 refine fy (inv:=λz:Int=>1<=z/\(z<=s.length\/z=1)/\∀j:Nat,(j:Int)<z->1<=j->Eh s j=true) (μ:=Mf s) ⟨cW 1,.inr rfl,λj h1 h2=>by omega⟩ (cO _) λi ⟨a,b,c⟩=>?_
 have ew:i64.wrap (i+1)=i+1:=by rw[wrap_i64];omega
 have em:i64.wrap (i-1)=i-1:=by rw[wrap_i64];omega
 refine aa (λhb=>?_) (λhb=>ey ?_)
 rotate_left
 ·have hb:=oN hb
  exact(dY λj h1 h2=>c j (by omega) h2).symm
 have hb:i<s.length:=oY hb
 have e1:(i-1).toNat=i.toNat-1:=by omega
 have no:Eh s i.toNat=false->false=lH s:=λh=>(dN λk=>by rw[k i.toNat (by omega) (by omega)]at h;cases h).symm
 have nx:Eh s i.toNat=true->(1<=i64.wrap (i+1)/\(i64.wrap (i+1)<=s.length\/i64.wrap (i+1)=1)/\∀j:Nat,(j:Int)<i64.wrap (i+1)->1<=j->Eh s j=true)/\Mf s (i64.wrap (i+1))<Mf s i:=λh=>by
  show _/\(s.length-i64.wrap (i+1)).toNat<(s.length-i).toNat
  rw[ew]
  refine⟨⟨by omega,by omega,λj h1 h2=>?_⟩,by omega⟩
  by_cases e:(j:Int)<i
  ·exact c j e h2
  ·rw[show j=i.toNat by omega];exact h
 have c1:(bT 4 4&&bJ 0 4&&decide (0<=i64.wrap (i-1)/\i64.wrap (i-1)<(s.length:Int)))=true:=by rw[em];simp[bJ];omega
 have c2:(bT 4 4&&bJ 0 4&&decide (0<=i/\i<(s.length:Int)))=true:=by simp[bJ];omega
 have eP:Eh s i.toNat=(!decide ((s.getD i.toNat (RK.cq RK.ab)).At<(s.getD (i64.wrap (i-1)).toNat (RK.cq RK.ab)).At)&&!(((s.getD i.toNat (RK.cq RK.ab)).At==(s.getD (i64.wrap (i-1)).toNat (RK.cq RK.ab)).At)&&((s.getD (i64.wrap (i-1)).toNat (RK.cq RK.ab)).C8.C0==1))):=by rw[em,e1];rfl
 refine ba c1 (ba c2 (aa (λh=>ey (no (by rw[eP,h];rfl))) λh=>aa (λh1=>aa (λh2=>ey (no (by rw[eP,h,h1,h2];rfl))) λh2=>fg (nx (by rw[eP,h,h1,h2];rfl))) λh1=>fg (nx (by rw[eP,h,h1];rfl))))
theorem Pl{m:au}(hv:sM m){s:List eu}(hs:s.length<=1000000){u:Int}:(Pm m s u).w (λx=>x=nd m s u):=by
 unfold Pm
 refine cz (Tree.pp (Tp hv.uu.2)).1 (ar λx0 e0=>?_)
 have e0:x0=pR m:=e0.trans (LR hv)
 refine aa (λh=>ey ?_) λhm=>aa (λh=>ey ?_) λh1=>aa (λh=>ey ?_) λh2=>aa (λh=>ey ?_) λh3=>cz (show s.length<=1000000000000 by omega) (ar λx1 e1=>?_)
 ·unfold nd;rw[if_pos (by rw[<-e0];simpa using h)]
 all_goals have kC:¬pR m=false:=by rw[<-e0];simpa using hm
 ·unfold nd;rw[if_neg kC,if_pos (oY h)]
 all_goals have o8:¬u<m.A1:=oN h1
 ·unfold nd;rw[if_neg kC,if_neg o8,if_pos (oY h)]
 all_goals have Mg:¬4000<wrap .u64 (u-m.A1):=oN h2
 ·unfold nd;rw[if_neg kC,if_neg o8,if_neg Mg,if_pos (by have:=oY h;omega)]
 have Js:¬400<s.length:=by have:=oN h3;omega
 have e1:x1=lH s:=by rw[e1];exact Tree.post _ (Z7n (by omega))
 rw[e1]
 refine aa (λh=>ey ?_) λho=>?_
 ·unfold nd;rw[if_neg kC,if_neg o8,if_neg Mg,if_neg Js,if_pos (by simpa using h)]
 have je:lH s=true:=by simpa using ho
 have ho2:¬lH s=false:=by rw[je];simp
 refine fy (inv:=λi:Int=>0<=i/\i<=s.length/\(0<i->¬(iX s 0).At<m.A1)) (μ:=Qmu m s u) ⟨cW 0,by omega,λh=>absurd h (Int.lt_irrefl 0)⟩ (cO _) λi ⟨v1,v2,v3⟩=>?_
 refine aa (λhb=>?_) (λhb=>ey ?_)
 ·have hb:=oY hb
  have cf:i.toNat<s.length:=by omega
  have of:=xq je i.toNat cf
  have ew:i64.wrap (i+1)=i+1:=by rw[wrap_i64];omega
  refine ba (by simp[bJ];omega) (aa (λh=>ey ?_) λh=>fg ?_)
  ·have h:=oY h
   show(1301:Int)=_
   unfold nd;rw[if_neg kC,if_neg o8,if_neg Mg,if_neg Js,if_neg ho2,if_pos ⟨by omega,by omega⟩]
  ·have h:=oN h
   show(0<=i64.wrap (i+1)/\i64.wrap (i+1)<=s.length/\(0<i64.wrap (i+1)->¬(iX s 0).At<m.A1))/\(s.length-i64.wrap (i+1)).toNat<(s.length-i).toNat
   rw[ew]
   refine⟨⟨by omega,by omega,λ_=>?_⟩,by omega⟩
   by_cases e:0<i
   ·exact v3 e
   ·have:i=0:=by omega
    subst this;exact h
 ·have hb:=oN hb
  show(0:Int)=_
  unfold nd;rw[if_neg kC,if_neg o8,if_neg Mg,if_neg Js,if_neg ho2,if_neg fun⟨q1,q2⟩=>v3 (by omega) q2]
theorem zq{m:au}(hv:sM m){s:List eu}(hs:s.length<=1000000)(hu:∀e∈s,U e.C8.N){u:Int}(u0:0<=u)(u1:u<18446744073709551616):(Pn m s u).w (λr=>r=cy m s u/\r.2.1.length<=4000/\r.1.Mem.length<=1024):=by
 unfold Pn
 have m0:=hv.lS
 refine bm (Pl hv hs) λx0 e0=>?_
 rw[e0]
 refine aa (λh=>ey ⟨?_,aT _,aT _⟩) λh=>?_
 ·have h:¬nd m s u=0:=by simpa using h
  unfold cy;rw[if_neg h];rfl
 have h0:nd m s u=0:=by simpa using h
 have hm:¬pR m=false:=λq=>by unfold nd at h0;rw[if_pos q]at h0;cases h0
 have h1:¬u<m.A1:=λq=>by unfold nd at h0;rw[if_neg hm,if_pos q]at h0;cases h0
 have h2:¬4000<wrap .u64 (u-m.A1):=λq=>by unfold nd at h0;rw[if_neg hm,if_neg h1,if_pos q]at h0;cases h0
 have mm:mZ m=true:=by rw[LR hv];simpa using hm
 obtain⟨P,gS,gM⟩:=wJ hv mm
 have g:ff P m:=⟨gM,mm⟩
 have hle:m.A1<=u:=by omega
 have h4:u-m.A1<=4000:=by rw[wrap_u64]at h2;omega
 have Po:jc s u (u-m.A1).toNat 0 m []=cy m s u:=by unfold cy;rw[h0,if_pos rfl]
 generalize cy m s u=rU at Po⊢
 refine cz (rR gM.mem) (ar λx1 e1=>?_)
 have gm:jC m.Mem=m.Mem:=rfl
 rw[gm]at e1
 subst e1
 refine fy (inv:=λv:Int×au×List dx=>0<=v.1/\v.1<=s.length/\ff P v.2.1/\v.2.1.A1<=u/\(v.2.2.length:Int)<=v.2.1.A1-m.A1/\jc s u (u-v.2.1.A1).toNat v.1 v.2.1 v.2.2=rU) (μ:=Qrl m s u) ⟨cW 0,by show(0:Int)<=_;omega,g,hle,by show((0:Nat):Int)<=m.A1-m.A1;omega,Po⟩ (cO _) λv ⟨a1,a2,a3,a4,a5,a6⟩=>?_
 obtain⟨i0,x,out⟩:=v
 have a1:0<=i0:=a1
 have a2:i0<=s.length:=a2
 have a3:ff P x:=a3
 have a4:x.A1<=u:=a4
 have a5:(out.length:Int)<=x.A1-m.A1:=a5
 have a6:jc s u (u-x.A1).toNat i0 x out=rU:=a6
 refine aa (λhb=>?_) (λhb=>ey ?_)
 rotate_left
 ·have hb:¬x.A1<u:=oN hb
  rw[show(u-x.A1).toNat=0 by omega]at a6
  exact⟨a6,by show out.length<=4000;omega,a3.len⟩
 have hb:x.A1<u:=oY hb
 obtain⟨k,hk⟩:∃k:Nat,(u-x.A1).toNat=k+1:=⟨(u-x.A1).toNat-1,by omega⟩
 rw[hk]at a6
 refine aa (λBo=>?_) (λBo=>ey ?_)
 rotate_left
 ·have Hk:(bif decide (x.A1<1152921504606846976)then Eg (jc s u k) s (nt s (s.length-i0).toNat i0 x).1 (nt s (s.length-i0).toNat i0 x).2 out else(x,out,i0,0))=rU:=a6
  have Bo:decide (x.A1<1152921504606846976)=false:=Bo
  rw[Bo]at Hk
  exact⟨Hk,by show out.length<=4000;omega,a3.len⟩
 have Hk:(bif decide (x.A1<1152921504606846976)then Eg (jc s u k) s (nt s (s.length-i0).toNat i0 x).1 (nt s (s.length-i0).toNat i0 x).2 out else(x,out,i0,0))=rU:=a6
 have Pp:decide (x.A1<1152921504606846976)=true:=Bo
 rw[Pp]at Hk
 have Hk:Eg (jc s u k) s (nt s (s.length-i0).toNat i0 x).1 (nt s (s.length-i0).toNat i0 x).2 out=rU:=Hk
 have Bo:x.A1<1152921504606846976:=oY Pp
 clear a6
 generalize hE:nt s (s.length-i0).toNat i0 x=E at Hk
 refine fy (inv:=λw:Int×au=>0<=w.1/\w.1<=s.length/\ff P w.2/\w.2.A1=x.A1/\nt s (s.length-w.1).toNat w.1 w.2=E) (μ:=Qrp m s u (i0,x,out)) ⟨a1,a2,a3,rfl,hE⟩ (cO _) λw ⟨b1,b2,b3,b4,b5⟩=>?_
 obtain⟨i,y⟩:=w
 have b1:0<=i:=b1
 have b2:i<=s.length:=b2
 have b3:ff P y:=b3
 have b4:y.A1=x.A1:=b4
 have b5:nt s (s.length-i).toNat i y=E:=b5
 have ew:i64.wrap (i+1)=i+1:=by rw[wrap_i64];omega
 have cc:decide (i<(s.length:Int))=true->(bT 4 4&&bJ 0 4&&decide (0<=i/\i<((s.length:Nat):Int)))=true:=λh=>by have:=oY h;simp[bJ];omega
 have uN:decide (i<(s.length:Int))=true->U (s.getD i.toNat (RK.cq RK.ab)).C8.N:=λh=>by
  have:=oY h
  rw[Zm5 (show i.toNat<s.length by omega)]
  exact hu _ (fI _)
 refine Pk (λh=>cc h) (λh1 h2 h3=>?_) λhx=>?_
 ·have hi:=oY h1
  obtain⟨g1,c1⟩:=Yh b3 (uN h1)
  refine cz (Zp2 b3.v b3.len (uN h1)) (ar λx3 e3=>fg ?_)
  have e3:x3.1=(lK y (s.getD i.toNat (RK.cq RK.ab)).C8).2:=by rw[e3,b3.app]
  show(0<=i64.wrap (i+1)/\i64.wrap (i+1)<=s.length/\ff P x3.1/\x3.1.A1=x.A1/\nt s (s.length-i64.wrap (i+1)).toNat (i64.wrap (i+1)) x3.1=E)/\(s.length-i64.wrap (i+1)).toNat<(s.length-i).toNat
  rw[ew,e3]
  refine⟨⟨by omega,by omega,g1,by rw[c1];exact b4,?_⟩,by omega⟩
  rw[show(s.length-i).toNat=(s.length-(i+1)).toNat+1 by omega]at b5
  have Pq:(bif(decide (i<(s.length:Int))&&(((iX s i).At==y.A1)&&((iX s i).C8.C0 !=1)))then nt s (s.length-(i+1)).toNat (i+1) (lK y (iX s i).C8).2 else(i,y))=E:=b5
  rw[show(decide (i<(s.length:Int))&&(((iX s i).At==y.A1)&&((iX s i).C8.C0 !=1)))=true by
   have h1:decide (i<(s.length:Int))=true:=h1
   have h2:((iX s i).At==y.A1)=true:=h2
   have h3:((iX s i).C8.C0 !=1)=true:=h3
   rw[h1,h2,h3];rfl]at Pq
  exact Pq
 have hx:(decide (i<(s.length:Int))&&(((iX s i).At==y.A1)&&((iX s i).C8.C0 !=1)))=false:=hx
 have eE:(i,y)=E:=by
  generalize(s.length-i).toNat=n at b5
  cases n with
  |zero=>exact b5
  |succ n=>
   have Pq:(bif(decide (i<(s.length:Int))&&(((iX s i).At==y.A1)&&((iX s i).C8.C0 !=1)))then nt s n (i+1) (lK y (iX s i).C8).2 else(i,y))=E:=b5
   rw[hx]at Pq;exact Pq
 subst eE
 have R0:Eg (jc s u k) s i y out=rU:=Hk
 unfold Eg at R0
 have lo:out.length<=4000:=by omega
 have st:y.A6=false->tG y=false->nb y=false:=λh1 h2=>(L7 b3).2 ⟨h1,h2,by omega⟩
 have fin:∀(c:Int) (j:Int),U c->nb y=false->0<=j->j<=s.length->jc s u k j (ga y c).2 (out++(ga y c).1)=rU->decide (40*(out.length+(ga y c).1.length)<=140737488355328)=true/\((0<=j/\j<=s.length/\ff P (ga y c).2/\(ga y c).2.A1<=u/\((out++(ga y c).1).length:Int)<=(ga y c).2.A1-m.A1/\jc s u (u-(ga y c).2.A1).toNat j (ga y c).2 (out++(ga y c).1)=rU)/\(u-(ga y c).2.A1).toNat<(u-x.A1).toNat):=λc j hc hs j1 j2 hr=>by
  obtain⟨g1,c1,l1⟩:=L9 b3 hs hc
  refine⟨dY (by omega),⟨j1,j2,g1,by omega,by rw[lA];omega,?_⟩,by omega⟩
  rw[show(u-(ga y c).2.A1).toNat=k by omega];exact hr
 refine aa (λhh=>ey ?_) λhh=>cz (xaq b3.ok.target.2) (ar λx4 e4=>?_)
 ·have hh:y.A6=true:=hh
  rw[hh]at R0
  exact⟨R0,lo,b3.len⟩
 have hh:y.A6=false:=hh
 rw[hh]at R0
 have e4:x4=tG y:=(e4.trans b3.idle)
 rw[e4]
 refine aa (λhi=>?_) λhi=>?_
 ·have R1:(bif tG y then(bif decide (i<(s.length:Int))then((mv,[],0,1303):jL)else(y,out,i,0))else _)=rU:=R0
  rw[hi]at R1
  have R1:(bif decide (i<(s.length:Int))then((mv,[],0,1303):jL)else(y,out,i,0))=rU:=R1
  refine aa (λhl=>ey ?_) λhl=>ey ?_
  ·have hl:decide (i<(s.length:Int))=true:=hl
   rw[hl]at R1;exact⟨R1,aT _,aT _⟩
  ·have hl:decide (i<(s.length:Int))=false:=hl
   rw[hl]at R1;exact⟨R1,lo,b3.len⟩
 have sk:=st hh hi
 have R2:(bif decide (i<(s.length:Int))then
  (bif((iX s i).At==y.A1)==pS y then
   (bif((iX s i).At==y.A1)then jc s u k (i+1) (ga y (iX s i).C8.N).2 (out++(ga y (iX s i).C8.N).1)else jc s u k i (ga y 0).2 (out++(ga y 0).1))
  else((mv,[],0,1302):jL))
 else(bif false==pS y then jc s u k i (ga y 0).2 (out++(ga y 0).1)else(mv,[],0,1302)))=rU:=by
  have R1:(bif tG y then(bif decide (i<(s.length:Int))then((mv,[],0,1303):jL)else(y,out,i,0))else _)=rU:=R0
  rw[hi]at R1;exact R1
 clear R0
 have rq:∀z,z=OW y->z=pS y:=λz hz=>by rw[hz,Zq1 b3.v,show Hd y=bif nb y then false else pS y from rfl,sk];rfl
 have Jt:∀(c:Int),U c->OR y c:=λc hc=>(ql b3.v b3.len (clock:=c) hc).1
 have Pr:∀(c:Int) (z:au×List dx),z=AK y c->z.2=(ga y c).1/\z.1=(ga y c).2:=λc z hz=>by rw[hz,b3.step sk];exact⟨rfl,rfl⟩
 have Uj:jc s u k i (ga y 0).2 (out++(ga y 0).1)=rU->∀z:au×List dx,z=AK y 0->decide (40*(out.length+z.2.length)<=140737488355328)=true/\((0<=i/\i<=s.length/\ff P z.1/\z.1.A1<=u/\((out++z.2).length:Int)<=z.1.A1-m.A1/\jc s u (u-z.1.A1).toNat i z.1 (out++z.2)=rU)/\(u-z.1.A1).toNat<(u-x.A1).toNat):=λhr z hz=>by
  obtain⟨z1,z2⟩:=Pr 0 z hz
  rw[z1,z2]
  exact fin 0 i ej sk b1 b2 hr
 refine aa (λhl=>?_) λhl=>?_
 ·have hl:decide (i<(s.length:Int))=true:=hl
  have iy:=oY hl
  rw[hl]at R2
  have R2:(bif((iX s i).At==y.A1)==pS y then
   (bif((iX s i).At==y.A1)then jc s u k (i+1) (ga y (iX s i).C8.N).2 (out++(ga y (iX s i).C8.N).1)else jc s u k i (ga y 0).2 (out++(ga y 0).1))
  else((mv,[],0,1302):jL))=rU:=R2
  refine ba (cc hl) (cz (Tree.pp (Zlv b3.s)).1 (ar λx5 e5=>?_))
  have e5:=rq x5 e5
  rw[e5]
  refine aa (λhn=>ey ?_) λhn=>?_
  ·have hn:=bn3 ((iX s i).At==y.A1) (pS y) hn
   rw[hn]at R2
   exact⟨R2,aT _,aT _⟩
  have hn:=bn4 ((iX s i).At==y.A1) (pS y) hn
  rw[hn]at R2
  have R2:(bif((iX s i).At==y.A1)then jc s u k (i+1) (ga y (iX s i).C8.N).2 (out++(ga y (iX s i).C8.N).1)else jc s u k i (ga y 0).2 (out++(ga y 0).1))=rU:=R2
  refine aa (λha=>ba (cc hl) (cz (Jt _ (uN hl)) (ar λx6 e6=>?_))) λha=>?_
  ·have ha:((iX s i).At==y.A1)=true:=ha
   rw[ha]at R2
   obtain⟨z1,z2⟩:=Pr _ x6 e6
   have F:=fin (iX s i).C8.N (i+1) (uN hl) sk (by omega) (by omega) R2
   refine ba (by rw[z1];exact F.1) (fg ?_)
   have F2:=F.2
   rw[<-ew]at F2
   show(0<=i64.wrap (i+1)/\i64.wrap (i+1)<=s.length/\ff P x6.1/\x6.1.A1<=u/\((out++x6.2).length:Int)<=x6.1.A1-m.A1/\jc s u (u-x6.1.A1).toNat (i64.wrap (i+1)) x6.1 (out++x6.2)=rU)/\(u-x6.1.A1).toNat<(u-x.A1).toNat
   rw[z1,z2];exact F2
  ·have ha:((iX s i).At==y.A1)=false:=ha
   rw[ha]at R2
   exact cz (Jt _ ej) (ar λx7 e7=>ba (Uj R2 x7 e7).1 (fg (Uj R2 x7 e7).2))
 ·have hl:decide (i<(s.length:Int))=false:=hl
  rw[hl]at R2
  have R2:(bif false==pS y then jc s u k i (ga y 0).2 (out++(ga y 0).1)else((mv,[],0,1302):jL))=rU:=R2
  refine cz (Tree.pp (Zlv b3.s)).1 (ar λx8 e8=>?_)
  have e8:=rq x8 e8
  rw[e8]
  refine aa (λhn=>ey ?_) λhn=>?_
  ·have hn:=bn3 false (pS y) hn
   rw[hn]at R2
   exact⟨R2,aT _,aT _⟩
  have hn:=bn4 false (pS y) hn
  rw[hn]at R2
  exact cz (Jt _ ej) (ar λx7 e7=>ba (Uj R2 x7 e7).1 (fg (Uj R2 x7 e7).2))
def Ei(s:List eu)(i:Int)(y:au):Bool:=decide (i<(s.length:Int))&&(((iX s i).At==y.A1)&&((iX s i).C8.C0 !=1))
theorem Yx(s:List eu)(n:Nat)(i:Int)(y:au):nt s (n+1) i y=bif Ei s i y then nt s n (i+1) (lK y (iX s i).C8).2 else(i,y):=rfl
theorem zat{s:List eu}{i:Int}{y:au}(hx:Ei s i y=false):∀n,nt s n i y=(i,y)
 |0=>rfl
 |n+1=>by rw[Yx,hx];rfl
theorem Ps(s:List eu)(u:Int)(k:Nat)(i:Int)(x:au)(out:List dx):jc s u (k+1) i x out=bif decide (x.A1<1152921504606846976)then Eg (jc s u k) s (nt s (s.length-i).toNat i x).1 (nt s (s.length-i).toNat i x).2 out else(x,out,i,0):=rfl
def Ej(s:List eu)(i:Int)(x:au):Prop:=∀j:Nat,i<=j->j<s.length->x.A1<=(iX s j).At
structure evK(P:Nat)(s:List eu)(i:Int)(x:au)(E:Int×au):Prop where
 lo:i<=E.1
 hi:E.1<=s.length
 g:ff P E.2
 c:E.2.A1=x.A1
 fix:Ei s E.1 E.2=false
theorem Cz{s:List eu}(hu:∀e∈s,U e.C8.N){i:Int}(h0:0<=i)(h:i<s.length):U (iX s i).C8.N:=by
 unfold iX
 rw[Zm5 (show i.toNat<s.length by omega)]
 exact hu _ (fI _)
theorem Yy{P:Nat}{s:List eu}(hu:∀e∈s,U e.C8.N):∀(n:Nat) {i:Int} {x:au},ff P x->0<=i->i<=s.length->(s.length-i).toNat<=n->evK P s i x (nt s n i x)
 |0,i,x,g,h0,h1,hn=>⟨cW i,h1,g,rfl,by unfold Ei;rw[show nt s 0 i x=(i,x) from rfl,dN (show¬i<(s.length:Int) by omega)];rfl⟩
 |n + 1,i,x,g,h0,h1,hn=>by
  rw[Yx]
  cases hb:Ei s i x
  ·exact⟨cW i,h1,g,rfl,hb⟩
  ·have cf:i<s.length:=by
    unfold Ei at hb
    rw[aE]at hb
    exact oY hb.1
   obtain⟨g1,c1⟩:=Yh g (Cz hu h0 cf)
   have k:=Yy hu n (i:=i+1) g1 (by omega) (by omega) (by omega)
   show evK P s i x (nt s n (i+1) (lK x (iX s i).C8).2)
   exact⟨by have:=k.lo;omega,k.hi,k.g,k.c.trans c1,k.fix⟩
theorem Uk{s:List eu}{i:Int}{y:au}(hx:Ei s i y=false)(h:y.A6=true\/(tG y=true/\decide (i<(s.length:Int))=false))(u:Int):∀(b:Nat) (out:List dx),jc s u b i y out=(y,out,i,0)
 |0,_=>rfl
 |b +1,out=>by
  rw[Ps,zat hx]
  cases decide (y.A1<1152921504606846976)
  ·rfl
  ·unfold Eg
   rcases h with h|⟨h1,h2⟩
   ·rw[h];rfl
   ·rw[h1,h2];cases y.A6<;>rfl
theorem xZ{s:List eu}(h:lH s=true)(i:Nat):∀j:Nat,i<=j->j<s.length->(iX s i).At<=(iX s j).At:=by
 intro j
 induction j with
 |zero=>intro h1 _;rw[show i=0 by omega];exact cW _
 |succ j ih=>
  intro h1 h2
  by_cases e:i=j+1
  ·rw[e];exact cW _
  ·have h3:=Yw h (j+1) h2 (by omega)
   have h4:=ih (by omega) (by omega)
   unfold Eh at h3
   rw[aE]at h3
   have h5:decide ((s.getD (j+1) (RK.cq RK.ab)).At<(s.getD j (RK.cq RK.ab)).At)=false:=by simpa using h3.1
   have h5:=oN h5
   unfold iX at h4⊢
   rw[eD]at h4⊢
   rw[eD]at h4⊢
   omega
theorem xaM{s:List eu}(h:lH s=true)(i:Nat)(hk:(iX s i).C8.C0=1)(j:Nat)(h1:i<j)(h2:j<s.length):(iX s i).At<(iX s j).At:=by
 have h3:=Yw h (i+1) (by omega) (by omega)
 have h4:=xZ h (i+1) j (by omega) h2
 unfold Eh at h3
 rw[aE]at h3
 have h5:decide ((s.getD (i+1) (RK.cq RK.ab)).At<(s.getD i (RK.cq RK.ab)).At)=false:=by simpa using h3.1
 have h5:=oN h5
 unfold iX at h4 hk⊢
 rw[eD]at hk h4⊢
 rw[eD]at h4⊢
 have h6:=h3.2
 rw[show i+1-1=i by omega,show((s.getD i (RK.cq RK.ab)).C8.C0==1)=true by rw[hk];rfl]at h6
 have h7:¬(s.getD (i+1) (RK.cq RK.ab)).At=(s.getD i (RK.cq RK.ab)).At:=by simpa using h6
 omega
theorem Pt{s:List eu}{i j:Int}{x y:au}(h:Ej s i x)(hl:i<=j)(hc:y.A1=x.A1):Ej s j y:=λq h1 h2=>by
 have:=h q (by omega) h2;omega
theorem Zn0{s:List eu}{j:Int}{y z:au}(ho:lH s=true)(h:Ej s j y)(h0:0<=j)(hn:j<s.length->¬(iX s j).At=y.A1)(hc:z.A1=y.A1+1):Ej s j z:=λq h1 h2=>by
 have a:=h j.toNat (by omega) (by omega)
 have b:=xZ ho j.toNat q (by omega) h2
 rw[eH h0]at a b
 have:=hn (by omega)
 omega
theorem yq{s:List eu}{j:Int}{y z:au}(ho:lH s=true)(h:Ej s j y)(h0:0<=j)(hj:j<s.length)(hk:(iX s j).C8.C0=1)(hc:z.A1=y.A1+1):Ej s (j+1) z:=λq h1 h2=>by
 have a:=h j.toNat (by omega) (by omega)
 have b:=xaM ho j.toNat (by rw[eH h0];exact hk) q (by omega) h2
 rw[eH h0]at a b
 omega
structure Yz(P:Nat)(s:List eu)(i:Int)(x:au)(k:Nat)(r:jL):Prop where
 g:ff P r.1
 lo:i<=r.2.2.1
 hi:r.2.2.1<=s.length
 c0:x.A1<=r.1.A1
 c1:r.1.A1<=x.A1+k
 ah:lH s=true->Ej s i x->Ej s r.2.2.1 r.1
 st:r.1.A1=x.A1+k\/∀(u:Int) (b:Nat) (o:List dx),jc s u b r.2.2.1 r.1 o=(r.1,o,r.2.2.1,0)
theorem vq{P:Nat}{s:List eu}(hu:∀e∈s,U e.C8.N)(u:Int):∀(a:Nat) {i:Int} {x:au} {out:List dx},ff P x->0<=i->i<=s.length->
 ((jc s u a i x out).2.2.2=0->Yz P s i x a (jc s u a i x out))/\((jc s u a i x out).2.2.2≠0->(jc s u a i x out).1=mv/\(jc s u a i x out).2.1=[]/\(jc s u a i x out).2.2.1=0)/\
 ∀b,jc s u (a+b) i x out=bif(jc s u a i x out).2.2.2==0 then jc s u b (jc s u a i x out).2.2.1 (jc s u a i x out).1 (jc s u a i x out).2.1 else jc s u a i x out
 |0,i,x,out,g,h0,h1=>⟨λ_=>⟨g,cW i,h1,cW _,by show x.A1<=x.A1+0;omega,λ_ h=>h,.inl (by show x.A1=x.A1+0;omega)⟩,λh=>absurd rfl h,λb=>by rw[Nat.zero_add];rfl⟩
 |a + 1,i,x,out,g,h0,h1=>by
  have ih:=fun{i:Int} {x:au} {out:List dx}=>vq (P:=P) hu u a (i:=i) (x:=x) (out:=out)
  have hab:∀b,a+1+b=(a+b)+1:=λb=>by omega
  simp only[hab,Ps]
  cases hc:decide (x.A1<1152921504606846976)
  ·refine⟨λ_=>⟨g,cW i,h1,cW _,by show x.A1<=x.A1+_;omega,λ_ h=>h,.inr λu b o=>?_⟩,λh=>absurd rfl h,λb=>?_⟩
   ·cases b with
    |zero=>rfl
    |succ b=>show jc s u (b+1) i x o=_;rw[Ps,hc];rfl
   ·cases b with
    |zero=>rfl
    |succ b=>show(x,out,i,(0:Int))=jc s u (b+1) i x out;rw[Ps,hc];rfl
  have hcx:=oY hc
  have k:=Yy (P:=P) hu (s.length-i).toNat g h0 h1 (aO _)
  generalize nt s (s.length-i).toNat i x=E at k⊢
  obtain⟨j,y⟩:=E
  have Ek:i<=j:=k.lo
  have Ju:j<=s.length:=k.hi
  have kg:ff P y:=k.g
  have kc:y.A1=x.A1:=k.c
  have kf:Ei s j y=false:=k.fix
  simp only[cond_true]
  unfold Eg
  cases hh:y.A6
  rotate_left
  ·refine⟨λ_=>⟨kg,Ek,Ju,by show x.A1<=y.A1;omega,by show y.A1<=_;omega,λ_ h=>Pt h Ek kc,.inr λu b o=>Uk kf (.inl hh) u b o⟩,λh=>absurd rfl h,λb=>?_⟩
   exact(Uk kf (.inl hh) u b out).symm
  cases hi:tG y
  rotate_left
  ·cases hl:decide (j<(s.length:Int))
   ·refine⟨λ_=>⟨kg,Ek,Ju,by show x.A1<=y.A1;omega,by show y.A1<=_;omega,λ_ h=>Pt h Ek kc,.inr λu b o=>Uk kf (.inr ⟨hi,hl⟩) u b o⟩,λh=>absurd rfl h,λb=>?_⟩
    exact(Uk kf (.inr ⟨hi,hl⟩) u b out).symm
   ·exact⟨λh=>absurd (show(1303:Int)=0 from h) (by decide),λ_=>⟨rfl,rfl,rfl⟩,λb=>rfl⟩
  have sk:nb y=false:=(L7 kg).2 ⟨hh,hi,by omega⟩
  have next:∀(c:Int) (q:Int),U c->0<=q->q<=s.length->i<=q->((ga y c).2.A1=y.A1+1->lH s=true->Ej s i x->Ej s q (ga y c).2)->
   ((jc s u a q (ga y c).2 (out++(ga y c).1)).2.2.2=0->Yz P s i x (a+1) (jc s u a q (ga y c).2 (out++(ga y c).1)))/\
   ((jc s u a q (ga y c).2 (out++(ga y c).1)).2.2.2≠0->(jc s u a q (ga y c).2 (out++(ga y c).1)).1=mv/\(jc s u a q (ga y c).2 (out++(ga y c).1)).2.1=[]/\(jc s u a q (ga y c).2 (out++(ga y c).1)).2.2.1=0)/\
   ∀b,jc s u (a+b) q (ga y c).2 (out++(ga y c).1)=bif(jc s u a q (ga y c).2 (out++(ga y c).1)).2.2.2==0 then jc s u b (jc s u a q (ga y c).2 (out++(ga y c).1)).2.2.1 (jc s u a q (ga y c).2 (out++(ga y c).1)).1 (jc s u a q (ga y c).2 (out++(ga y c).1)).2.1 else jc s u a q (ga y c).2 (out++(ga y c).1):=λc q hU q0 q1 q2 q3=>by
   obtain⟨g1,c1,_⟩:=L9 kg sk hU
   have n:=ih (i:=q) (x:=(ga y c).2) (out:=out++(ga y c).1) g1 q0 q1
   refine⟨λh=>?_,n.2⟩
   have n1:=n.1 h
   exact⟨n1.g,by have:=n1.lo;omega,n1.hi,by have:=n1.c0;omega,by have:=n1.c1;omega,λho h=>n1.ah ho (q3 c1 ho h),n1.st.imp (λh=>by omega) id⟩
  have bad:∀c:Int,c≠0->((((mv,[],0,c):jL).2.2.2=0->Yz P s i x (a+1) (mv,[],0,c))/\(((mv,[],0,c):jL).2.2.2≠0->((mv,[],0,c):jL).1=mv/\((mv,[],0,c):jL).2.1=[]/\((mv,[],0,c):jL).2.2.1=0)/\
   ∀b,((mv,[],0,c):jL)=bif((mv,[],0,c):jL).2.2.2==0 then jc s u b ((mv,[],0,c):jL).2.2.1 ((mv,[],0,c):jL).1 ((mv,[],0,c):jL).2.1 else(mv,[],0,c)):=λc h=>⟨λe=>absurd e h,λ_=>⟨rfl,rfl,rfl⟩,λb=>by
   rw[show(((mv,[],0,c):jL).2.2.2==0)=false by simpa using h];rfl⟩
  simp only[cond_false]
  cases hl:decide (j<(s.length:Int))
  ·simp only[cond_false]
   cases hr:(false==pS y)
   ·exact bad 1302 (by decide)
   ·simp only[cond_true];exact next 0 j ej (by omega) Ju Ek λc ho h=>Zn0 ho (Pt h Ek kc) (by omega) (λq=>absurd q (oN hl)) c
  ·have AO:=oY hl
   simp only[cond_true]
   cases hr:(((iX s j).At==y.A1)==pS y)
   ·exact bad 1302 (by decide)
   ·simp only[cond_true]
    cases ha:((iX s j).At==y.A1)
    ·simp only[cond_false];exact next 0 j ej (by omega) Ju Ek λc ho h=>Zn0 ho (Pt h Ek kc) (by omega) (λ_=>by simpa using ha) c
    ·simp only[cond_true];exact next _ (j+1) (Cz hu (by omega) AO) (by omega) (by omega) (by omega) λc ho h=>yq ho (Pt h Ek kc) (by omega) AO (by unfold Ei at kf;rw[hl,ha]at kf;simpa using kf) c
theorem qr{m:au}{s:List eu}{u:Int}:nd m s u=0↔ ¬pR m=false/\¬u<m.A1/\¬4000<wrap .u64 (u-m.A1)/\¬400<s.length/\¬lH s=false/\¬(0<s.length/\(iX s 0).At<m.A1):=by
 unfold nd
 constructor
 ·intro h
  by_cases h1:pR m=false
  ·rw[if_pos h1]at h;cases h
  rw[if_neg h1]at h
  by_cases h2:u<m.A1
  ·rw[if_pos h2]at h;cases h
  rw[if_neg h2]at h
  by_cases h3:4000<wrap .u64 (u-m.A1)
  ·rw[if_pos h3]at h;cases h
  rw[if_neg h3]at h
  by_cases h4:400<s.length
  ·rw[if_pos h4]at h;cases h
  rw[if_neg h4]at h
  by_cases h5:lH s=false
  ·rw[if_pos h5]at h;cases h
  rw[if_neg h5]at h
  by_cases h6:0<s.length/\(iX s 0).At<m.A1
  ·rw[if_pos h6]at h;cases h
  exact⟨h1,h2,h3,h4,h5,h6⟩
 ·rintro⟨h1,h2,h3,h4,h5,h6⟩
  rw[if_neg h1,if_neg h2,if_neg h3,if_neg h4,if_neg h5,if_neg h6]
theorem xr{m:au}{s:List eu}{u:Int}(h:nd m s u=0):cy m s u=jc s u (u-m.A1).toNat 0 m []:=by unfold cy;rw[if_pos h]
theorem Zmh{m:au}{s:List eu}{u:Int}(h:nd m s u≠0):cy m s u=(mv,[],0,nd m s u):=by unfold cy;rw[if_neg h]
theorem qO{m:au}{s:List eu}{u:Int}(h:(cy m s u).2.2.2=0):nd m s u=0:=by
 by_cases e:nd m s u=0
 ·exact e
 ·rw[Zmh e]at h;exact h
structure runK(P:Nat)(m:au)(s:List eu)(u:Int)(r:jL):Prop where
 g:ff P r.1
 lo:0<=r.2.2.1
 hi:r.2.2.1<=s.length
 c0:m.A1<=r.1.A1
 c1:r.1.A1<=u
theorem xO{P:Nat}{m:au}(g:ff P m){s:List eu}(hu:∀e∈s,U e.C8.N){u:Int}(h:(cy m s u).2.2.2=0):runK P m s u (cy m s u):=by
 have hc:=qO h
 rw[xr hc]at h⊢
 have k:=(vq (P:=P) hu u (u-m.A1).toNat g (cW 0) (by omega)).1 h
 have:=(qr.1 hc).2.1
 exact⟨k.g,k.lo,k.hi,k.c0,by have:=k.c1;omega⟩
def mw(m:au):Int:=Pf 14695981039346656037 (sN m)
def jZ:au->List eu->List Int->List gl×Int
 |_,_,[]=>([],0)
 |m,s,u::l=>
  bif (cy m s u).2.2.2==0 then
   (bif(jZ (cy m s u).1 (s.drop (cy m s u).2.2.1.toNat) l).2==0 then
    ({At:=u,D2:=mw (cy m s u).1}::(jZ (cy m s u).1 (s.drop (cy m s u).2.2.1.toNat) l).1,0)
   else([],(jZ (cy m s u).1 (s.drop (cy m s u).2.2.1.toNat) l).2))
  else([],(cy m s u).2.2.2)
def jv:au->List eu->Int->Int->List gl->jQ
 |_,_,_,_,[]=>{Good:=true,D8:=0,At:=0}
 |m,s,i,last,c::l=>
  bif((cy m s c.At).2.2.2==0)&&(mw (cy m s c.At).1==c.D2)then jv (cy m s c.At).1 (s.drop (cy m s c.At).2.2.1.toNat) (i+1) c.At l
  else{Good:=false,D8:=i,At:=last}
theorem Pu{m:au}{s:List eu}{u:Int}{l:List Int}{L:List gl}(h:jZ m s (u::l)=(L,0)):
 (cy m s u).2.2.2=0/\∃K,L={At:=u,D2:=mw (cy m s u).1}::K/\jZ (cy m s u).1 (s.drop (cy m s u).2.2.1.toNat) l=(K,0):=by
 unfold jZ at h
 cases h1:(cy m s u).2.2.2==0
 ·rw[h1]at h
  have:(cy m s u).2.2.2=0:=(Prod.mk.inj h).2
  rw[this]at h1;cases h1
 ·rw[h1]at h
  have h1:=eq_of_beq h1
  refine⟨h1,?_⟩
  generalize jZ (cy m s u).1 (s.drop (cy m s u).2.2.1.toNat) l=q at h⊢
  obtain⟨K,e⟩:=q
  cases h2:e==0
  ·have h:(bif e==0 then(({At:=u,D2:=mw (cy m s u).1}::K:List gl),(0:Int))else([],e))=(L,0):=h
   rw[h2]at h
   have:e=0:=(Prod.mk.inj h).2
   rw[this]at h2;cases h2
  ·have h:(bif e==0 then(({At:=u,D2:=mw (cy m s u).1}::K:List gl),(0:Int))else([],e))=(L,0):=h
   rw[h2]at h
   exact⟨K,(Prod.mk.inj h).1.symm,by rw[eq_of_beq h2]⟩
theorem YA:∀{l:List Int} {m:au} {s:List eu} {L:List gl},jZ m s l=(L,0)->L.map (·.At)=l
 |[],m,s,L,h=>by rw[show L=[] from(Prod.mk.inj h).1.symm];rfl
 |u::l,m,s,L,h=>by
  obtain⟨_,K,e,h2⟩:=Pu h
  rw[e,List.map_cons,YA h2]
theorem wO:∀{l:List Int} {m:au} {s:List eu} {L:List gl},jZ m s l=(L,0)->∀i last,jv m s i last L={Good:=true,D8:=0,At:=0}
 |[],m,s,L,h,i,last=>by rw[show L=[] from(Prod.mk.inj h).1.symm];rfl
 |u::l,m,s,L,h,i,last=>by
  obtain⟨h1,K,e,h2⟩:=Pu h
  rw[e]
  unfold jv
  rw[show((cy m s ({At:=u,D2:=mw (cy m s u).1}:gl).At).2.2.2==0)=true by show((cy m s u).2.2.2==0)=true;rw[h1];rfl,show(mw (cy m s ({At:=u,D2:=mw (cy m s u).1}:gl).At).1==({At:=u,D2:=mw (cy m s u).1}:gl).D2)=true from beq_self_eq_true _]
  exact wO h2 _ _
theorem CA:∀(k:Nat) {l:List Int} {m:au} {s:List eu} {L:List gl},jZ m s l=(L,0)->k<L.length->∀(i last h:Int),h≠(L.getD k default).D2->
 jv m s i last (L.set k {At:=(L.getD k default).At,D2:=h})={Good:=false,D8:=i+k,At:=if k=0 then last else(L.getD (k-1) default).At}
 |k,[],m,s,L,h,hk,i,last,x,hx=>by rw[show L=[] from(Prod.mk.inj h).1.symm]at hk;exact absurd hk (Nat.not_lt_zero _)
 |0,u::l,m,s,L,h,hk,i,last,x,hx=>by
  obtain⟨h1,K,e,h2⟩:=Pu h
  rw[e]at hx⊢
  have hx:x≠mw (cy m s u).1:=hx
  show jv m s i last ({At:=u,D2:=x}::K)=_
  unfold jv
  rw[show(mw (cy m s ({At:=u,D2:=x}:gl).At).1==({At:=u,D2:=x}:gl).D2)=false by show(mw (cy m s u).1==x)=false;simpa using λe=>hx e.symm,Bool.and_false]
  show _=({Good:=false,D8:=i+((0:Nat):Int),At:=last}:jQ)
  rw[show i+((0:Nat):Int)=i by omega];rfl
 |k+1,u::l,m,s,L,h,hk,i,last,x,hx=>by
  obtain⟨h1,K,e,h2⟩:=Pu h
  rw[e]at hx hk⊢
  have hx:x≠(K.getD k default).D2:=hx
  have ih:=CA k h2 (by simpa using hk) (i+1) u x hx
  show jv m s i last ({At:=u,D2:=mw (cy m s u).1}::K.set k {At:=(K.getD k default).At,D2:=x})=_
  unfold jv
  rw[show((cy m s ({At:=u,D2:=mw (cy m s u).1}:gl).At).2.2.2==0)=true by show((cy m s u).2.2.2==0)=true;rw[h1];rfl,show(mw (cy m s ({At:=u,D2:=mw (cy m s u).1}:gl).At).1==({At:=u,D2:=mw (cy m s u).1}:gl).D2)=true from beq_self_eq_true _]
  refine Eq.trans ih ?_
  rw[if_neg (Nat.succ_ne_zero k),show i+1+(k:Int)=i+((k+1:Nat):Int) by omega]
  congr 1
  cases k with
  |zero=>rfl
  |succ k=>rfl
def uB:Int->List Int->Prop
 |_,[]=>True
 |a,x::l=>a<=x/\uB x l
theorem qaN{s:List eu}(hu:∀e∈s,U e.C8.N)(n:Nat):∀e∈s.drop n,U e.C8.N:=λe he=>hu e (List.mem_of_mem_drop he)
theorem Ul:kD mv:=⟨ej,ej⟩
theorem zZ(s:List eu):∀(n:Nat) (i:Int) (x:au),kD x->kD (nt s n i x).2
 |0,i,x,h=>h
 |n+1,i,x,h=>by
  rw[Yx]
  cases Ei s i x
  ·exact h
  ·exact zZ s n _ _ (xaL h _)
theorem yZ{P:Nat}{s:List eu}(hu:∀e∈s,U e.C8.N)(u:Int):∀(k:Nat) {i:Int} {x:au} (out:List dx),ff P x->kD x->0<=i->i<=s.length->kD (jc s u k i x out).1
 |0,i,x,out,g,d,h0,h1=>d
 |k + 1,i,x,out,g,d,h0,h1=>by
  rw[Ps]
  cases hc:decide (x.A1<1152921504606846976)
  ·exact d
  have hcx:=oY hc
  have ke:=Yy (P:=P) hu (s.length-i).toNat g h0 h1 (aO _)
  have de:=zZ s (s.length-i).toNat i x d
  generalize nt s (s.length-i).toNat i x=E at ke de⊢
  obtain⟨j,y⟩:=E
  have Ek:i<=j:=ke.lo
  have Ju:j<=s.length:=ke.hi
  have kg:ff P y:=ke.g
  have kc:y.A1=x.A1:=ke.c
  have dy:kD y:=de
  rw[cond_true]
  unfold Eg
  cases hh:y.A6
  rotate_left
  ·exact dy
  cases hi:tG y
  rotate_left
  ·cases decide (j<(s.length:Int))
   ·exact dy
   ·exact Ul
  have sk:nb y=false:=(L7 kg).2 ⟨hh,hi,by omega⟩
  have next:∀(c:Int) (p:Int),U c->0<=p->p<=s.length->kD (jc s u k p (ga y c).2 (out++(ga y c).1)).1:=λc p hU p0 p1=>
   yZ hu u k _ (L9 kg sk hU).1 (yY kg dy c) p0 p1
  rw[cond_false,cond_false]
  cases hl:decide (j<(s.length:Int))
  ·rw[cond_false]
   cases(false==pS y)
   ·exact Ul
   ·exact next 0 j ej (by omega) Ju
  ·have AO:=oY hl
   rw[cond_true]
   cases((iX s j).At==y.A1)==pS y
   ·exact Ul
   ·cases(iX s j).At==y.A1
    ·exact next 0 j ej (by omega) Ju
    ·exact next _ (j+1) (Cz hu (by omega) AO) (by omega) (by omega)
theorem zaN{P:Nat}{m:au}(g:ff P m)(d:kD m){s:List eu}(hu:∀e∈s,U e.C8.N)(u:Int):kD (cy m s u).1:=by
 unfold cy
 split
 ·exact yZ hu u _ _ g d (cW 0) (by omega)
 ·exact Ul
theorem vr(m:au):mw m=Pf 14695981039346656037 (sN m):=rfl
theorem Hl{P:Nat}{m:au}(g:ff P m)(d:kD m):Uh m/\Ui m=mw m:=by
 obtain⟨a,b⟩:=xas g.v (Znu g d) (by have:=g.len;omega)
 exact⟨a,b.trans (yp _ _)⟩
theorem Zq2(s:List UInt8)(hl:s.length<=1000000):0<=Pf 14695981039346656037 s/\Pf 14695981039346656037 s<18446744073709551616:=by
 have h:(YC 14695981039346656037 s).w (λr=>0<=r/\r<18446744073709551616):=by
  unfold YC
  refine fy (inv:=λv:Int×Int=>(0<=v.2/\v.2<=s.length)/\0<=v.1/\v.1<18446744073709551616) (μ:=Qpe 14695981039346656037 s) ⟨⟨cW 0,by show(0:Int)<=_;omega⟩,by decide,by decide⟩ (cO _) λv ⟨⟨a,b⟩,c⟩=>?_
  refine aa (λhb=>?_) λ_=>ey c
  have hb:=oY hb
  have ew:i64.wrap (v.2+1)=v.2+1:=by rw[wrap_i64];omega
  refine ba (dY ⟨a,hb⟩) (fg ?_)
  show((0<=i64.wrap (v.2+1)/\i64.wrap (v.2+1)<=s.length)/\0<=wrap .u64 _/\wrap .u64 _<18446744073709551616)/\(s.length-i64.wrap (v.2+1)).toNat<(s.length-v.2).toNat
  rw[ew]
  exact⟨⟨⟨by omega,by omega⟩,Yt _⟩,by omega⟩
 exact Tree.post _ h
theorem Zjg{P:Nat}{m:au}(g:ff P m)(d:kD m):0<=mw m/\mw m<18446744073709551616:=by
 have e:=Znu g d
 have:=Tree.post _ (Znv g.v e.r (by have:=g.len;omega) e.k e.o)
 rw[vr]
 refine Zq2 _ ?_
 have h1:YD m=sN m:=this.1
 rw[<-h1]
 have:=this.2
 change(YD m).length<=_ at this
 omega
attribute [local irreducible] mw
theorem YE{α:Type}{l:List α}{i:Int}(h0:0<=i)(h:i<l.length)(d:α):l.drop i.toNat=l.getD i.toNat d::l.drop (i+1).toNat:=by
 have cf:i.toNat<l.length:=by omega
 rw[show(i+1).toNat=i.toNat+1 by omega,cP,cG cf]
 exact aB cf
def nf:Int->List Int->Bool
 |_,[]=>true
 |a,x::l=>bif decide (x<a)then false else bif decide (wrap .u64 (x-a)>4000)then false else nf x l
def ko(m:au)(s:List eu)(l:List Int):Int:=bif nf m.A1 l then nd m s m.A1 else 4300
theorem YF(m:au)(s:List eu):(cy m s m.A1).2.2.2=nd m s m.A1:=by
 by_cases h:nd m s m.A1=0
 ·rw[xr h,h,show(m.A1-m.A1).toNat=0 by omega];rfl
 ·rw[Zmh h]
theorem zO{l:List Int}{i:Int}(h0:0<=i)(h:i<l.length)(a:Int):nf a (l.drop i.toNat)=bif decide (l.getD i.toNat 0<a)then false else bif decide (wrap .u64 (l.getD i.toNat 0-a)>4000)then false else nf (l.getD i.toNat 0) (l.drop (i+1).toNat):=by
 rw[YE h0 h 0];rfl
theorem xat{l:List Int}{i:Int}(h:¬i<l.length)(a:Int):nf a (l.drop i.toNat)=true:=by
 rw[aA (by omega)];rfl
section
variable {m:au} (hv:sM m) (hc:m.A1<18446744073709551616) {s:List eu} (hs:s.length<=1000000) (hu:∀e∈s,U e.C8.N)
include hv hc hs hu
theorem Znn{l:List Int}(hl:l.length<=400):(Pv m s l).w (λe=>e=ko m s l):=by
 unfold Pv
 refine aa (λh=>by have:=oY h;omega) λ_=>?_
 refine fy (inv:=λv:Int×Int=>0<=v.2/\v.2<=l.length/\nf m.A1 l=nf v.1 (l.drop v.2.toNat)) (μ:=Qle m s l) ⟨cW 0,by show(0:Int)<=_;omega,rfl⟩ (cO _) λv ⟨a,b,c⟩=>?_
 obtain⟨last,i⟩:=v
 have a:0<=i:=a
 have b:i<=l.length:=b
 have c:nf m.A1 l=nf last (l.drop i.toNat):=c
 refine aa (λhb=>?_) λhb=>?_
 ·have hb:i<l.length:=oY hb
  have ew:i64.wrap (i+1)=i+1:=by rw[wrap_i64];omega
  rw[zO a hb]at c
  refine ba (by simp[bJ];omega) (aa (λh1=>ey ?_) λh1=>aa (λh2=>ey ?_) λh2=>fg ?_)
  ·show(4300:Int)=ko m s l
   have h1:decide (l.getD i.toNat 0<last)=true:=h1
   rw[h1]at c
   unfold ko;rw[c];rfl
  ·show(4300:Int)=ko m s l
   have h1:decide (l.getD i.toNat 0<last)=false:=h1
   have h2:decide (wrap .u64 (l.getD i.toNat 0-last)>4000)=true:=h2
   rw[h1,h2]at c
   unfold ko;rw[c];rfl
  ·have h1:decide (l.getD i.toNat 0<last)=false:=h1
   have h2:decide (wrap .u64 (l.getD i.toNat 0-last)>4000)=false:=h2
   rw[h1,h2]at c
   show(0<=i64.wrap (i+1)/\i64.wrap (i+1)<=l.length/\nf m.A1 l=nf (l.getD i.toNat 0) (l.drop (i64.wrap (i+1)).toNat))/\(l.length-i64.wrap (i+1)).toNat<(l.length-i).toNat
   rw[ew]
   exact⟨⟨by omega,by omega,c⟩,by omega⟩
 ·have hb:¬i<l.length:=oN hb
  rw[xat hb]at c
  refine bm (zq hv hs hu hv.lS hc) λx0 ⟨e0,_⟩=>ey ?_
  show x0.2.2.2=ko m s l
  unfold ko;rw[c,e0,YF];rfl
end
def comb(vl:List gl)(q:List gl×Int):List gl×Int:=bif q.2==0 then(vl++q.1,0)else([],q.2)
theorem YG(m:au)(s:List eu)(u:Int)(l:List Int):jZ m s (u::l)=bif(cy m s u).2.2.2==0 then comb [{At:=u,D2:=mw (cy m s u).1}] (jZ (cy m s u).1 (s.drop (cy m s u).2.2.1.toNat) l)else([],(cy m s u).2.2.2):=rfl
theorem qt(a b:List gl)(q:List gl×Int):comb a (comb b q)=comb (a++b) q:=by
 unfold comb
 cases h:q.2==0
 ·show(bif q.2==0 then _ else _)=_
  rw[h];rfl
 ·show((a++(b++q.1),(0:Int)):List gl×Int)=(a++b++q.1,0)
  rw[fF]
theorem Zfl{sc:List eu}{i:Int}(h0:0<=i)(h1:i<=sc.length):dB (((sc.length:Nat):Int).toNat-i.toNat) (dC i.toNat sc)=sc.drop i.toNat:=by
 rw[eD]
 exact fK (by rw[bF];omega)
theorem xt{i hash err:Int}{kT:List gl}{lg:List Int}{tJ:Int}(h0:0<=i)(h1:i<lg.length)(h2:kT.length<=1000000):(Pw i hash err kT lg tJ).w (λr=>r=(true,kT++[{At:=lg.getD i.toNat 0,D2:=hash}],lg,err)):=by
 unfold Pw
 exact ba (dY ⟨h0,h1⟩) (ba (dY (by omega)) (ey rfl))
structure AP(P:Nat)(x:au)(sc:List eu):Prop where
 g:ff P x
 d:kD x
 hs:sc.length<=1000000
 hu:∀e∈sc,U e.C8.N
theorem AP.next{P:Nat}{x:au}{sc:List eu}(h:AP P x sc){u:Int}(he:(cy x sc u).2.2.2=0):AP P (cy x sc u).1 (sc.drop (cy x sc u).2.2.1.toNat)/\0<=(cy x sc u).2.2.1/\(cy x sc u).2.2.1<=sc.length:=by
 have k:=xO h.g h.hu he
 exact⟨⟨k.g,zaN h.g h.d h.hu u,by rw[bF];have:=h.hs;omega,qaN h.hu _⟩,k.lo,k.hi⟩
theorem yt{P:Nat}{m:au}{s:List eu}(st:AP P m s){l:List Int}(hl:l.length<=400)(hr:∀x∈l,0<=x/\x<18446744073709551616):
 (Px m s l [] l 0).w (λr=>(bif r.2.2==0 then(r.1,0)else([],r.2.2))=jZ m s l):=by
 unfold Px
 refine fy (inv:=λv:List eu×Int×List Int×Int×List gl×au=>0<=v.2.1/\v.2.1<=l.length/\v.2.2.1=l/\v.2.2.2.1=0/\AP P v.2.2.2.2.2 v.1/\(v.2.2.2.2.1.length:Int)=v.2.1/\comb v.2.2.2.2.1 (jZ v.2.2.2.2.2 v.1 (l.drop v.2.1.toNat))=jZ m s l) (μ:=Qfz m s l [] l 0)
  ⟨cW 0,by show(0:Int)<=_;omega,rfl,rfl,st,rfl,?_⟩ (cO _) λv ⟨a1,a2,a3,a4,a5,a6,a7⟩=>?_
 ·show comb [] (jZ m s l)=_
  unfold comb
  cases h:(jZ m s l).2==0
  ·have:∀q:List gl×Int,jZ m s l=q->(q.2==0)=false->q.1=[]:=λq hq hz=>by
    cases l with
    |nil=>rw[<-hq]at hz;cases hz
    |cons u l=>
     rw[YG]at hq
     cases h1:(cy m s u).2.2.2==0
     ·rw[h1]at hq;rw[<-hq];rfl
     ·rw[h1]at hq
      rw[<-hq]at hz⊢
      have hz:((comb [{At:=u,D2:=mw (cy m s u).1}] (jZ (cy m s u).1 (s.drop (cy m s u).2.2.1.toNat) l)).2==0)=false:=hz
      show(comb [{At:=u,D2:=mw (cy m s u).1}] (jZ (cy m s u).1 (s.drop (cy m s u).2.2.1.toNat) l)).1=[]
      unfold comb at hz⊢
      generalize jZ (cy m s u).1 (s.drop (cy m s u).2.2.1.toNat) l=w at hz⊢
      cases h2:w.2==0
      ·rfl
      ·rw[h2]at hz;cases hz
   have h3:=this _ rfl h
   generalize jZ m s l=q at h h3⊢
   obtain⟨q1,q2⟩:=q
   have h3:q1=[]:=h3
   rw[h3];rfl
  ·generalize jZ m s l=q at h⊢
   obtain⟨q1,q2⟩:=q
   have h:(q2==0)=true:=h
   rw[show q2=0 from eq_of_beq h];rfl
 obtain⟨sc,i,va,vf,vl,x⟩:=v
 have a1:0<=i:=a1
 have a2:i<=l.length:=a2
 have a3:va=l:=a3
 have a4:vf=0:=a4
 subst a3;subst a4
 have a5:AP P x sc:=a5
 have a6:(vl.length:Int)=i:=a6
 have a7:comb vl (jZ x sc (va.drop i.toNat))=jZ m s va:=a7
 refine aa (λhb=>?_) λhb=>ey ?_
 ·have hb:i<va.length:=oY hb
  have ew:i64.wrap (i+1)=i+1:=by rw[wrap_i64];omega
  have ru:=hr (va.getD i.toNat 0) (by rw[cP,cG (show i.toNat<va.length by omega)];exact fI _)
  rw[YE a1 hb 0,YG]at a7
  refine ba (by simp[bJ];omega) (bm (zq a5.g.v a5.hs a5.hu ru.1 ru.2) λx0 ⟨e0,_,_⟩=>?_)
  have e0:x0=cy x sc (va.getD i.toNat 0):=e0
  refine aa (λhe=>bm (xt a1 hb (by omega)) λx1 e1=>ey ?_) λhe=>?_
  ·have he:(x0.2.2.2==0)=false:=by simpa using he
   rw[e1]
   show(bif x0.2.2.2==0 then((_,0):List gl×Int)else([],x0.2.2.2))=jZ m s va
   rw[he,<-a7]
   rw[e0]at he⊢
   rw[he]
   show(([],_):List gl×Int)=comb vl ([],_)
   unfold comb
   show _=bif(cy x sc (va.getD i.toNat 0)).2.2.2==0 then _ else _
   rw[he];rfl
  ·have he:x0.2.2.2=0:=by simpa using he
   have Jv:(cy x sc (va.getD i.toNat 0)).2.2.2=0:=by rw[<-e0];exact he
   obtain⟨sn,n1,n2⟩:=a5.next Jv
   have pz:((cy x sc (va.getD i.toNat 0)).2.2.2==0)=true:=by rw[Jv];rfl
   rw[pz]at a7
   have a7:comb vl (comb [{At:=va.getD i.toNat 0,D2:=mw (cy x sc (va.getD i.toNat 0)).1}] (jZ (cy x sc (va.getD i.toNat 0)).1 (sc.drop (cy x sc (va.getD i.toNat 0)).2.2.1.toNat) (va.drop (i+1).toNat)))=jZ m s va:=a7
   rw[qt]at a7
   rw[<-e0]at sn n1 n2 a7
   obtain⟨hp,hh⟩:=Hl sn.g sn.d
   refine ba (by simp[bJ];omega) (cz hp (ar λx2 e2=>bm (xt a1 hb (by omega)) λx3 e3=>?_))
   rw[e3]
   refine aa (λh=>by cases h) λ_=>fg ?_
   show(0<=i64.wrap (i+1)/\i64.wrap (i+1)<=va.length/\va=va/\(0:Int)=0/\AP P x0.1 (dB (((sc.length:Nat):Int).toNat-x0.2.2.1.toNat) (dC x0.2.2.1.toNat sc))/\((vl++[({At:=va.getD i.toNat 0,D2:=x2}:gl)]).length:Int)=i64.wrap (i+1)/\comb (vl++[({At:=va.getD i.toNat 0,D2:=x2}:gl)]) (jZ x0.1 (dB (((sc.length:Nat):Int).toNat-x0.2.2.1.toNat) (dC x0.2.2.1.toNat sc)) (va.drop (i64.wrap (i+1)).toNat))=jZ m s va)/\(va.length-i64.wrap (i+1)).toNat<(va.length-i).toNat
   rw[ew,Zfl n1 n2,e2,hh,lA,cZ]
   exact⟨⟨by omega,by omega,rfl,rfl,sn,by omega,a7⟩,by omega⟩
 ·have hb:¬i<va.length:=oN hb
  rw[aA (by omega)]at a7
  show(bif(0:Int)==0 then(vl,(0:Int))else([],0))=_
  rw[<-a7]
  show(vl,(0:Int))=(vl++[],0)
  rw[cJ]
def CB(m:au)(s:List eu)(l:List Int):List gl×Int:=bif ko m s l==0 then jZ m s l else([],ko m s l)
theorem Zep{m:au}{s:List eu}{l:List Int}(h:ko m s l=0):nf m.A1 l=true/\nd m s m.A1=0:=by
 unfold ko at h
 cases hp:nf m.A1 l
 ·rw[hp]at h;exact absurd (show(4300:Int)=0 from h) (by decide)
 ·rw[hp]at h;exact⟨rfl,h⟩
theorem Zm2{m:au}(hv:sM m){s:List eu}{u:Int}(h:nd m s u=0):∃P,ff P m:=by
 have mm:mZ m=true:=by rw[LR hv];simpa using(qr.1 h).1
 obtain⟨P,gS,gM⟩:=wJ hv mm
 exact⟨P,gM,mm⟩
theorem vt{m:au}(hv:sM m)(hc:m.A1<18446744073709551616)(d:kD m){s:List eu}(hs:s.length<=1000000)(hu:∀e∈s,U e.C8.N){l:List Int}(hl:l.length<=400)(hr:∀x∈l,0<=x/\x<18446744073709551616):(Py m s l).w (λr=>r=CB m s l):=by
 unfold Py
 refine bm (Znn hv hc hs hu hl) λx0 e0=>?_
 refine aa (λh=>ey ?_) λh=>?_
 ·have h:(x0==0)=false:=by simpa using h
  unfold CB;rw[<-e0,h];rfl
 ·have h:x0=0:=by simpa using h
  have h0:ko m s l=0:=e0.symm.trans h
  obtain⟨P,g⟩:=Zm2 hv (Zep h0).2
  refine bm (yt ⟨g,d,hs,hu⟩ hl hr) λx1 e1=>?_
  have em:CB m s l=jZ m s l:=by unfold CB;rw[h0];rfl
  rw[em,<-e1]
  refine aa (λh=>ey ?_) λh=>ey ?_
  ·have h:(x1.2.2==0)=false:=by simpa using h
   rw[h];rfl
  ·have h:(x1.2.2==0)=true:=by simpa using h
   rw[h];rfl
abbrev jU(l:List gl)(i:Int):gl:=l.getD i.toNat (RK.cq RK.ae)
def nL(i last:Int):jQ:={Good:=false,D8:=i,At:=last}
def Bp(m:au)(va:List Int)(i:Int):Int:=if i>0 then va.getD (i-1).toNat 0 else m.A1
theorem xaN(l:List gl)(n:Nat):(l.map (·.At)).getD n 0=(l.getD n (RK.cq RK.ae)).At:=by
 rw[cP,cP,fL]
 cases l[n]? <;>rfl
theorem yO(m:au)(s:List eu)(i last:Int)(c:gl)(l:List gl):jv m s i last (c::l)=bif((cy m s c.At).2.2.2==0)&&(mw (cy m s c.At).1==c.D2)then jv (cy m s c.At).1 (s.drop (cy m s c.At).2.2.1.toNat) (i+1) c.At l else nL i last:=rfl
theorem Zn8{i hash err:Int}{kT:List gl}{lg:au}{tJ:jQ}{nT:List Int}(h0:0<=i)(h1:i<kT.length)(h3:nT.length=kT.length)(hl:kT.length<=1000000):
 (Pz i hash err kT lg tJ nT).w (λr=>r=((err==0)&&(hash==(jU kT i).D2),kT,lg,bif(err==0)&&(hash==(jU kT i).D2)then tJ else nL i (Bp lg nT i),nT)):=by
 unfold Pz
 have ew:i64.wrap (i-1)=i-1:=by rw[wrap_i64];omega
 have bad:∀b:Bool,b=false->(Tree.br (decide (i>0)) (.cn (decide (0<=i64.wrap (i-1)/\i64.wrap (i-1)<((nT.length:Nat):Int))) (.lf ((false,kT,lg,{Good:=false,D8:=i,At:=nT.getD (i64.wrap (i-1)).toNat 0},nT):Bool×List gl×au×jQ×List Int))) (.lf (false,kT,lg,{Good:=false,D8:=i,At:=lg.A1},nT))).w (λr=>r=(b,kT,lg,bif b then tJ else nL i (Bp lg nT i),nT)):=λb hb=>by
  subst hb
  refine aa (λh=>ba (dY (by have:=oY h;rw[ew];omega)) (ey ?_)) λh=>ey ?_
  ·have h:=oY h
   rw[ew]
   show _=((false,kT,lg,nL i (Bp lg nT i),nT):Bool×List gl×au×jQ×List Int)
   unfold nL Bp;rw[if_pos h]
  ·have h:=oN h
   show _=((false,kT,lg,nL i (Bp lg nT i),nT):Bool×List gl×au×jQ×List Int)
   unfold nL Bp;rw[if_neg h]
 refine aa (λhe=>ba (by simp[bJ];omega) (aa (λhh=>ey ?_) λhh=>?_)) λhe=>?_
 ·have hh:(hash==(jU kT i).D2)=true:=hh
  rw[he,hh];rfl
 ·have hh:(hash==(jU kT i).D2)=false:=hh
  exact bad _ (by rw[he,hh];rfl)
 ·exact bad _ (by rw[he];rfl)
theorem qu{P:Nat}{m:au}{s:List eu}(st:AP P m s){l:List gl}(hl:l.length<=400)(hr:∀c∈l,0<=c.At/\c.At<18446744073709551616):
 (PA m s (l.map (·.At)) l m {Good:=true,D8:=0,At:=0} (l.map (·.At))).w (λr=>r.2.2.1=jv m s 0 m.A1 l):=by
 unfold PA
 refine fy (inv:=λv:List eu×Int×List gl×au×jQ×List Int×au=>0<=v.2.1/\v.2.1<=l.length/\v.2.2.1=l/\v.2.2.2.1=m/\v.2.2.2.2.1={Good:=true,D8:=0,At:=0}/\v.2.2.2.2.2.1=l.map (·.At)/\AP P v.2.2.2.2.2.2 v.1/\jv v.2.2.2.2.2.2 v.1 v.2.1 (Bp m (l.map (·.At)) v.2.1) (l.drop v.2.1.toNat)=jv m s 0 m.A1 l) (μ:=Qg2 m s (l.map (·.At)) l m {Good:=true,D8:=0,At:=0} (l.map (·.At)))
  ⟨cW 0,by show(0:Int)<=_;omega,rfl,rfl,rfl,rfl,st,rfl⟩ (cO _) λv ⟨a1,a2,a3,a4,a5,a6,a7,a8⟩=>?_
 obtain⟨sc,i,vl,vm,vv,va,x⟩:=v
 have a1:0<=i:=a1
 have a2:i<=l.length:=a2
 have a3:vl=l:=a3
 have a4:vm=m:=a4
 have a5:vv={Good:=true,D8:=0,At:=0}:=a5
 have a6:va=l.map (·.At):=a6
 subst a3;subst a4;subst a5;subst a6
 have a7:AP P x sc:=a7
 have a8:jv x sc i (Bp vm (vl.map (·.At)) i) (vl.drop i.toNat)=jv vm s 0 vm.A1 vl:=a8
 have ml:(vl.map (·.At)).length=vl.length:=fH ..
 have vl6:vl.length<=1000000:=by omega
 refine aa (λhb=>?_) λhb=>ey ?_
 ·have hb:i<((vl.map (·.At)).length:Nat):=oY hb
  have hb:i<vl.length:=by rw[ml]at hb;exact hb
  have ew:i64.wrap (i+1)=i+1:=by rw[wrap_i64];omega
  have em:(vl.map (·.At)).getD i.toNat 0=(jU vl i).At:=xaN vl i.toNat
  have ru:=hr (jU vl i) (by show vl.getD i.toNat _∈vl;rw[cP,cG (show i.toNat<vl.length by omega)];exact fI _)
  rw[YE a1 hb (RK.cq RK.ae)]at a8
  have a8:jv x sc i (Bp vm (vl.map (·.At)) i) (jU vl i::vl.drop (i+1).toNat)=jv vm s 0 vm.A1 vl:=a8
  rw[yO]at a8
  refine ba (by simp[bJ];omega) ?_
  show(Tree.an (PB x sc ((vl.map (·.At)).getD i.toNat 0)) _).w _
  rw[em]
  refine bm (zq a7.g.v a7.hs a7.hu ru.1 ru.2) λx0 ⟨e0,_,_⟩=>?_
  have e0:x0=cy x sc (jU vl i).At:=e0
  refine aa (λhe=>bm (Zn8 a1 hb ml vl6) λx1 e1=>ey ?_) λhe=>?_
  ·have he:(x0.2.2.2==0)=false:=by simpa using he
   have Jv:((cy x sc (jU vl i).At).2.2.2==0)=false:=by rw[<-e0];exact he
   rw[Jv]at a8
   rw[e1,<-a8]
   show(bif(x0.2.2.2==0)&&_ then _ else nL i _)=_
   rw[he];rfl
  ·have he:x0.2.2.2=0:=by simpa using he
   have Jv:(cy x sc (jU vl i).At).2.2.2=0:=by rw[<-e0];exact he
   obtain⟨sn,n1,n2⟩:=a7.next Jv
   have pz:((cy x sc (jU vl i).At).2.2.2==0)=true:=by rw[Jv];rfl
   rw[pz,fM]at a8
   rw[<-e0]at sn n1 n2 a8
   obtain⟨hp,hh⟩:=Hl sn.g sn.d
   refine ba (by simp[bJ];omega) (cz hp (ar λx2 e2=>bm (Zn8 a1 hb ml vl6) λx3 e3=>?_))
   have e2:x2=mw x0.1:=e2.trans hh
   rw[<-e2]at a8
   have z:(((0:Int)==0)&&(x2==(jU vl i).D2))=(x2==(jU vl i).D2):=fM _
   rw[z]at e3
   rw[e3]
   refine aa (λh=>ey ?_) λh=>fg ?_
   ·have h:(x2==(jU vl i).D2)=false:=by simpa using h
    rw[h]at a8
    show(bif(x2==(jU vl i).D2)then _ else nL i _)=_
    rw[h];exact a8
   ·have h:(x2==(jU vl i).D2)=true:=by simpa using h
    rw[h]at a8
    have a8:jv x0.1 (sc.drop x0.2.2.1.toNat) (i+1) (jU vl i).At (vl.drop (i+1).toNat)=jv vm s 0 vm.A1 vl:=a8
    have la:Bp vm (vl.map (·.At)) (i+1)=(jU vl i).At:=by
     unfold Bp;rw[if_pos (by omega),show i+1-1=i by omega];exact em
    show(0<=i64.wrap (i+1)/\i64.wrap (i+1)<=vl.length/\vl=vl/\vm=vm/\(bif(x2==(jU vl i).D2)then({Good:=true,D8:=0,At:=0}:jQ)else nL i _)={Good:=true,D8:=0,At:=0}/\vl.map (·.At)=vl.map (·.At)/\AP P x0.1 (dB (((sc.length:Nat):Int).toNat-x0.2.2.1.toNat) (dC x0.2.2.1.toNat sc))/\jv x0.1 (dB (((sc.length:Nat):Int).toNat-x0.2.2.1.toNat) (dC x0.2.2.1.toNat sc)) (i64.wrap (i+1)) (Bp vm (vl.map (·.At)) (i64.wrap (i+1))) (vl.drop (i64.wrap (i+1)).toNat)=jv vm s 0 vm.A1 vl)/\((vl.map (·.At)).length-i64.wrap (i+1)).toNat<((vl.map (·.At)).length-i).toNat
    rw[ew,Zfl n1 n2,la,h,ml]
    exact⟨⟨by omega,by omega,rfl,rfl,rfl,rfl,sn,a8⟩,by omega⟩
 ·have hb:¬i<((vl.map (·.At)).length:Nat):=oN hb
  have hb:¬i<vl.length:=by rw[ml]at hb;exact hb
  rw[aA (by omega)]at a8
  exact a8
def CC(m:au)(s:List eu)(l:List gl):jQ×Int:=bif ko m s (l.map (·.At))==0 then(jv m s 0 m.A1 l,0)else(nL 0 0,ko m s (l.map (·.At)))
theorem vO{l:List gl}{i:Int}(h0:0<=i)(h:i<l.length):(l.take i.toNat).map (·.At)++[(jU l i).At]=(l.take (i+1).toNat).map (·.At):=by
 have cf:i.toNat<l.length:=by omega
 rw[show(i+1).toNat=i.toNat+1 by omega,<-List.take_append_getElem cf,bL,List.map_singleton]
 congr 2
 show(l.getD i.toNat _).At=_
 rw[cP,cG cf];rfl
section
variable {m:au} (hv:sM m) (hc:m.A1<18446744073709551616) (d:kD m) {s:List eu} (hs:s.length<=1000000) (hu:∀e∈s,U e.C8.N) {l:List gl} (hl:l.length<=400) (hr:∀c∈l,0<=c.At/\c.At<18446744073709551616)
include hv hc d hs hu hl hr
theorem YH:(PC m s l).w (λr=>r=CC m s l):=by
 unfold PC
 refine fy (inv:=λv:Int×List Int=>0<=v.1/\v.1<=l.length/\v.2=(l.take v.1.toNat).map (·.At)) (μ:=Ql6 m s l) ⟨cW 0,by show(0:Int)<=_;omega,rfl⟩ (cO _) λv ⟨a1,a2,a3⟩=>?_
 obtain⟨i,out⟩:=v
 have a1:0<=i:=a1
 have a2:i<=l.length:=a2
 have a3:out=(l.take i.toNat).map (·.At):=a3
 have ol:out.length<=400:=by rw[a3,fH,List.length_take];omega
 refine aa (λhb=>?_) λhb=>?_
 ·have hb:i<l.length:=oY hb
  have ew:i64.wrap (i+1)=i+1:=by rw[wrap_i64];omega
  refine ba (by simp[bJ];omega) (ba (dY (by show 8*(out.length+1)<=_;omega)) (fg ?_))
  show(0<=i64.wrap (i+1)/\i64.wrap (i+1)<=l.length/\out++[(jU l i).At]=(l.take (i64.wrap (i+1)).toNat).map (·.At))/\(l.length-i64.wrap (i+1)).toNat<(l.length-i).toNat
  rw[ew,a3]
  exact⟨⟨by omega,by omega,vO a1 hb⟩,by omega⟩
 ·have hb:¬i<l.length:=oN hb
  have a3:out=l.map (·.At):=by rw[a3,fK (by omega)]
  subst a3
  refine bm (Znn hv hc hs hu ol) λx0 e0=>?_
  refine aa (λh=>ey ?_) λh=>?_
  ·have h:(x0==0)=false:=by simpa using h
   show(nL 0 0,x0)=CC m s l
   unfold CC;rw[<-e0,h];rfl
  ·have h:x0=0:=by simpa using h
   have h0:ko m s (l.map (·.At))=0:=e0.symm.trans h
   obtain⟨P,g⟩:=Zm2 hv (Zep h0).2
   refine bm (qu ⟨g,d,hs,hu⟩ hl hr) λx1 e1=>ey ?_
   show(x1.2.2.1,(0:Int))=CC m s l
   unfold CC;rw[h0,e1];rfl
end
structure Hm(m:au)(s:List eu):Prop where
 st:AP 8 m s
 c:m.A1<=87
theorem qau{kind:Int}{prog events:List Int}(hl:prog.length*8<=reachBytes)(Bo:prog.length<=60)(h20:events.length<=20):(PD kind prog events).w (λr=>Hm r.1 r.2):=by
 unfold PD
 refine zar hl Bo (by omega) λm x hm g gc hx gp=>ey ?_
 have n:=Jp g gc
 have u:=qZ events (s:=({A0:=m,B3:=0,C7:=[],B0:=[]},[])) n.g n.q (λe he=>by cases he)
 rw[<-hx]at u
 exact⟨⟨g,by rw[hm];exact Z9 kind prog hl Bo,by have:=gp.l;show x.1.C7.length<=1000000;omega,u⟩,gc⟩
theorem Zmc:∀{l:List Int} {a y:Int},uB a l->a<=y->(∀x∈l,x<=y)->uB a (l++[y])
 |[],a,y,h,h1,h2=>⟨h1,trivial⟩
 |x::l,a,y,h,h1,h2=>⟨h.1,Zmc h.2 (h2 x (by simp)) λz hz=>h2 z (by simp[hz])⟩
structure wP(c:Int)(r:List Int):Prop where
 asc:uB c r
 le:∀x∈r,c<=x/\x<=c+200
theorem zau{m:au}(h0:0<=m.A1)(hc:m.A1<=87){l:List Int}(hl:l.length<=10):(PE m l).w (λr=>r.length=l.length/\wP m.A1 r):=by
 unfold PE
 refine fy (inv:=λv:Int×Int×List Int=>0<=v.2.1/\v.2.1<=l.length/\m.A1<=v.1/\v.1<=m.A1+20*v.2.1/\(v.2.2.length:Int)=v.2.1/\uB m.A1 v.2.2/\∀x∈v.2.2,m.A1<=x/\x<=v.1) (μ:=Qez m l) ⟨cW 0,by show(0:Int)<=_;omega,cW _,by show m.A1<=m.A1+20*0;omega,rfl,trivial,λx hx=>by cases hx⟩ (cO _) λv ⟨a1,a2,a3,a4,a5,a6,a7⟩=>?_
 obtain⟨dh,i,out⟩:=v
 have a1:0<=i:=a1
 have a2:i<=l.length:=a2
 have a3:m.A1<=dh:=a3
 have a4:dh<=m.A1+20*i:=a4
 have a5:(out.length:Int)=i:=a5
 have a6:uB m.A1 out:=a6
 have a7:∀x∈out,m.A1<=x/\x<=dh:=a7
 refine aa (λhb=>?_) λhb=>ey ?_
 ·have hb:i<l.length:=oY hb
  have ew:i64.wrap (i+1)=i+1:=by rw[wrap_i64];omega
  refine ba (by simp[bJ];omega) (cz (Fg (by decide)) (ar λx0 e0=>ba (dY (by show 8*(out.length+1)<=_;omega)) (fg ?_)))
  have rr:=YI (n:=l.getD i.toNat 0) (k:=20) (by decide) (by decide)
  have e0:x0=uw (l.getD i.toNat 0) 20:=e0
  rw[<-e0]at rr
  have w1:wrap .u64 (dh+wrap .u64 x0)=dh+x0:=by rw[wrap_u64,wrap_u64];omega
  show(0<=i64.wrap (i+1)/\i64.wrap (i+1)<=l.length/\m.A1<=wrap .u64 (dh+wrap .u64 x0)/\wrap .u64 (dh+wrap .u64 x0)<=m.A1+20*i64.wrap (i+1)/\((out++[wrap .u64 (dh+wrap .u64 x0)]).length:Int)=i64.wrap (i+1)/\uB m.A1 (out++[wrap .u64 (dh+wrap .u64 x0)])/\∀x∈out++[wrap .u64 (dh+wrap .u64 x0)],m.A1<=x/\x<=wrap .u64 (dh+wrap .u64 x0))/\(l.length-i64.wrap (i+1)).toNat<(l.length-i).toNat
  rw[ew,w1,lA,cZ]
  refine⟨⟨by omega,by omega,by omega,by omega,by omega,Zmc a6 (by omega) λx hx=>by have:=a7 x hx;omega,λx hx=>?_⟩,by omega⟩
  rcases List.mem_append.1 hx with hx|hx
  ·have:=a7 x hx;omega
  ·rw[List.mem_singleton.1 hx];omega
 ·have hb:¬i<l.length:=oN hb
  exact⟨by show out.length=_;omega,a6,λx hx=>by have:=a7 x hx;omega⟩
theorem wP.u{c:Int}{r:List Int}(h:wP c r)(h0:0<=c)(h1:c<=87):∀x∈r,0<=x/\x<18446744073709551616:=λx hx=>by have:=h.le x hx;omega
theorem xu{l:List Int}{m:au}{s:List eu}(h:(jZ m s l).2≠0):(jZ m s l).1=[]:=by
 cases l with
 |nil=>exact absurd rfl h
 |cons u l=>
  rw[YG]at h⊢
  cases h1:(cy m s u).2.2.2==0
  ·rfl
  ·rw[h1]at h
   show(comb _ _).1=[]
   have h:(comb [{At:=u,D2:=mw (cy m s u).1}] (jZ (cy m s u).1 (s.drop (cy m s u).2.2.1.toNat) l)).2≠0:=h
   unfold comb at h⊢
   generalize jZ (cy m s u).1 (s.drop (cy m s u).2.2.1.toNat) l=w at h⊢
   cases h2:w.2==0
   ·rfl
   ·rw[h2]at h;exact absurd rfl h
theorem Zqk{l:List Int}{m:au}{s:List eu}(h:(CB m s l).2≠0):(CB m s l).1=[]:=by
 unfold CB at h⊢
 cases h1:ko m s l==0
 ·rfl
 ·rw[h1]at h;exact xu h
theorem Zg1{l:List Int}{m:au}{s:List eu}(h:(CB m s l).2=0):ko m s l=0/\jZ m s l=((CB m s l).1,0):=by
 unfold CB at h⊢
 cases h1:ko m s l==0
 ·rw[h1]at h
  have h:ko m s l=0:=h
  rw[h]at h1;cases h1
 ·rw[h1]at h
  have h:(jZ m s l).2=0:=h
  refine⟨eq_of_beq h1,?_⟩
  show jZ m s l=((jZ m s l).1,0)
  rw[<-h]
theorem YJ:∀{l:List Int} {m:au} {s:List eu} {L:List gl} {P:Nat},AP P m s->jZ m s l=(L,0)->∀c∈L,c.At∈l/\0<=c.D2/\c.D2<18446744073709551616
 |[],m,s,L,P,st,h,c,hc=>by rw[show L=[] from(Prod.mk.inj h).1.symm]at hc;cases hc
 |u ::l,m,s,L,P,st,h,c,hc=>by
  obtain⟨h1,K,e,h2⟩:=Pu h
  obtain⟨sn,_,_⟩:=st.next h1
  rw[e]at hc
  rcases List.mem_cons.1 hc with hc|hc
  ·rw[hc];exact⟨by simp,Zjg sn.g sn.d⟩
  ·obtain⟨p,q⟩:=YJ sn h2 c hc
   exact⟨by simp[p],q⟩
section
instance zu (i:Int):Ck (Hn i):=let d:Decidable (Hn i):=(by delta Hn;infer_instance);⟨@decide _ d,@oY _ d⟩
instance Zix (a:bh) (b:bh):Ck (Qa7 a b):=rH (t:=PF a b) (by delta PF;infer_instance)
instance Zj0 (a:List Int) (b:List Int):Ck (Qa6 a b):=rH (t:=PG a b) (by delta PG;infer_instance)
instance Zqm (a:au) (b:au):Ck (Q5 a b):=rH (t:=PH a b) (by delta PH;infer_instance)
abbrev mA:au:=Fz 2 [0]
def mA5(m:au):au:={B1:={X:={a0:=m.B1.X.a0,a1:=m.B1.X.a1,a2:=m.B1.X.a2,a3:=m.B1.X.a3,a4:=m.B1.X.a4,a5:=7,a6:=m.B1.X.a6,a7:=m.B1.X.a7,a8:=m.B1.X.a8,a9:=m.B1.X.a9,kq:=m.B1.X.kq,kr:=m.B1.X.kr,a12:=m.B1.X.a12,ku:=m.B1.X.ku,kv:=m.B1.X.kv,ky:=m.B1.X.ky},Pc:=m.B1.Pc,B4:=m.B1.B4},Mem:=m.Mem,A3:=m.A3,A9:=m.A9,A7:=m.A7,C3:=m.C3,A2:=m.A2,A1:=m.A1,A4:=m.A4,A6:=m.A6}
theorem qP:Q5 mA (mA5 mA):=ck inferInstance (by kernel_rfl)
theorem xP:Q5 mA mA:=ck inferInstance (by kernel_rfl)
theorem zP:Um mA (mA5 mA)=[120,32,53]:=by kernel_rfl
theorem yP:Um mA mA=[]:=by kernel_rfl
end
theorem CD:(CB mA [] [1,3]).2=0:=by kernel_rfl
theorem PI:PJ.w (λr=>r=true):=by
 unfold PJ
 refine cz (Tree.pp (Zgj 2 [0] (by decide))).1 (ar λx0 e0=>?_)
 subst e0
 obtain⟨g,gc⟩:=Qyz 2 [0] (by decide) (by decide)
 have d:=Z9 2 [0] (by decide) (by decide)
 have hc:mA.A1<18446744073709551616:=by show(Fz 2 [0]).A1<_;omega
 refine bm (vt g.v hc d (s:=[]) (aT _) (λe he=>by cases he) (l:=[1,3]) (by decide) (λx hx=>by simp at hx;omega)) λx1 e1=>?_
 obtain⟨c0,mk⟩:=Zg1 CD
 rw[<-e1]at mk
 have jM:x1.2=0:=by rw[e1];exact CD
 obtain⟨L,e⟩:=x1
 have jM:e=0:=jM
 subst jM
 have mk:jZ mA [] [1,3]=(L,0):=mk
 have ma:=YA mk
 have l2:L.length=2:=by rw[<-fH (f:=(·.At)),ma];rfl
 have mm:=YJ (P:=8) ⟨g,d,aT _,λe he=>by cases he⟩ mk
 have hr:∀c∈L,0<=c.At/\c.At<18446744073709551616:=λc hc=>by have:=(mm c hc).1;simp at this;omega
 have ckL:CC mA [] L=({Good:=true,D8:=0,At:=0},0):=by
  unfold CC
  rw[ma,c0]
  show(jv mA [] 0 mA.A1 L,(0:Int))=_
  rw[wO mk]
 refine aa (λh=>by cases h) λ_=>aa (λh=>?_) λ_=>?_
 ·exfalso
  have h:(((L.length:Nat):Int) !=2)=true:=h
  rw[l2]at h;cases h
 refine bm (YH g.v hc d (s:=[]) (aT _) (λe he=>by cases he) (l:=L) (by omega) hr) λx2 e2=>?_
 have cc:(bT 2 2&&bJ 0 2&&decide ((0:Int)<=1/\(1:Int)<((L.length:Nat):Int)))=true:=by rw[l2];rfl
 refine ba cc (ba cc ?_)
 obtain⟨q,hq⟩:∃q:gl,q=L.getD 1 (RK.cq RK.ae):=⟨_,rfl⟩
 have hqd:L.getD 1 default=q:=by
  rw[hq,cP,cP,cG (show 1<L.length by omega)];rfl
 have PK:q∈L:=by rw[hq,cP,cG (show 1<L.length by omega)];exact fI _
 have hqr:=(mm q PK).2
 have sl:(L.set 1 {At:=q.At,D2:=wrap .u64 (q.D2+1)}).length=2:=by rw[dH,l2]
 have sm:(L.set 1 ({At:=q.At,D2:=wrap .u64 (q.D2+1)}:gl)).map (·.At)=L.map (·.At):=by
  apply bN
  ·rw[fH,fH,dH]
  ·intro n h1 h2
   rw[bO,bO,fN]
   split
   ·rename_i hn
    subst hn
    show q.At=_
    rw[hq,cP,cG (show 1<L.length by omega)];rfl
   ·rfl
 have YL:CC mA [] (L.set 1 {At:=q.At,D2:=wrap .u64 (q.D2+1)})=({Good:=false,D8:=1,At:=1},0):=by
  unfold CC
  rw[sm,ma,c0]
  have f:=CA 1 mk (by omega) 0 mA.A1 (wrap .u64 (q.D2+1)) (by rw[hqd,wrap_u64];omega)
  rw[hqd]at f
  show(jv mA [] 0 mA.A1 _,(0:Int))=_
  rw[f]
  have h0:(L.getD (1-1) default).At=1:=by
   have:(L.map (·.At)).getD 0 0=(L.getD 0 default).At:=by
    rw[cP,cP,fL,cG (show 0<L.length by omega)];rfl
   rw[ma]at this
   exact this.symm
  rw[h0];rfl
 have PL:∀c∈L.set 1 {At:=(L.getD 1 (RK.cq RK.ae)).At,D2:=wrap .u64 ((L.getD 1 (RK.cq RK.ae)).D2+1)},0<=c.At/\c.At<18446744073709551616:=λc ry=>by
  rcases fO ry with h|h
  ·exact hr c h
  ·rw[h,<-hq];exact hr q PK
 refine bm (YH g.v hc d (s:=[]) (aT _) (λe he=>by cases he) (l:=L.set 1 {At:=(L.getD 1 (RK.cq RK.ae)).At,D2:=wrap .u64 ((L.getD 1 (RK.cq RK.ae)).D2+1)}) (by rw[dH];omega) PL) λx3 e3=>?_
 rw[<-hq]at e3
 rw[e2,e3,ckL,YL]
 have no:∀{t:Tree Bool},false=true->t.w (λr=>r=true):=λh=>by cases h
 refine aa (λ_=>aa (λ_=>aa (λ_=>aa (λ_=>aa (λ_=>aa (λ_=>?_) λh=>by cases h) λh=>by cases h) λh=>by cases h) λh=>by cases h) λh=>by cases h) λh=>by cases h
 refine cz qP (ar λx4 e4=>aa (λ_=>cz xP (ar λx5 e5=>ey ?_)) λh=>?_)
 ·have e5:x5=[]:=e5.trans yP
  rw[e5];rfl
 ·have e4:x4=[120,32,53]:=e4.trans zP
  rw[e4]at h;cases h
theorem YM{W:Bool->Prop}(h:W true):(Tree.an FE (.lv El λx=>.lf x)).w W:=by
 obtain⟨p,q⟩:=Tree.pp PI
 exact cz p (ar λx e=>by show W x;rw[e,show El=true from q];exact h)
theorem qaO{x y:Int}(hx:0<=x/\x<18446744073709551616)(hy:0<=y/\y<18446744073709551616)(h0:y≠0):jN .u64 x y≠x:=by
 intro h
 unfold jN at h
 rw[wrap_u64]at h
 have h:(((dW 64 x^^^dW 64 y).toNat:Nat):Int)%18446744073709551616=x:=h
 have e2:(dW 64 x^^^dW 64 y)=dW 64 x:=by
  apply BitVec.eq_of_toNat_eq
  have h1:(dW 64 x).toNat=x.toNat:=by rw[dX];omega
  have h2:=(dW 64 x^^^dW 64 y).isLt
  rw[h1];omega
 have e3:dW 64 y=0#64:=by
  have:dW 64 x^^^(dW 64 x^^^dW 64 y)=dW 64 x^^^dW 64 x:=by rw[e2]
  rwa [<-BitVec.xor_assoc,BitVec.xor_self,BitVec.zero_xor]at this
 have e4:(dW 64 y).toNat=0:=by rw[e3];rfl
 rw[dX]at e4
 omega
theorem EB(kind:Int)(prog events l:List Int)(jP hash:Int)(hh:0<=hash/\hash<18446744073709551616)(hl:prog.length*8<=reachBytes):Qg kind prog events l jP hash/\Qfg kind prog events l jP hash=true:=by
 have aw:=YM (W:=λr=>r=true) rfl
 refine Tree.pp (W:=λr=>r=true) ?_
 unfold Un
 refine aa (λ_=>aw) λh1=>aa (λ_=>aw) λh2=>aa (λ_=>aw) λh3=>aa (λ_=>aw) λh4=>aa (λ_=>aw) λh5=>?_
 have f1:prog.length<=60:=by have:=oN h1;omega
 have f2:events.length<=20:=by have:=oN h2;omega
 have f3:1<=l.length:=by have:=oN h3;omega
 have f4:l.length<=10:=by have:=oN h4;omega
 have f5:hash≠0:=by simpa using h5
 refine bm (qau hl f1 f2) λx3 R=>?_
 obtain⟨m,s⟩:=x3
 have R:Hm m s:=R
 have g:=R.st.g
 have c0:=g.ok.lS
 have c1:=R.c
 refine bm (zau c0 c1 f4) λx4 ⟨p1,p2⟩=>?_
 have p1:x4.length=l.length:=p1
 have p2:wP m.A1 x4:=p2
 refine bm (vt g.v (by omega) R.st.d R.st.hs R.st.hu (l:=x4) (by omega) (p2.u c0 c1)) λx7 e7=>aa (λh=>aa (λ_=>aw) λhz=>?_) λh=>?_
 ·exfalso
  have h:x7.2≠0:=by simpa using h
  rw[e7]at h hz
  rw[Zqk h]at hz;cases hz
 have h0:x7.2=0:=by simpa using h
 rw[e7]at h0
 obtain⟨ck,mk⟩:=Zg1 h0
 rw[<-e7]at mk
 generalize x7.1=L at mk⊢
 have ma:=YA mk
 have mm:=YJ R.st mk
 have ll:L.length=l.length:=by rw[<-fH (f:=(·.At)),ma];exact p1
 refine aa (λh=>by rw[ll]at h;simp at h) λ_=>cz (Fg (by omega)) (ar λx9 e9=>?_)
 have rr:=YI (n:=jP) (k:=(L.length:Int)) (by omega) (by omega)
 rw[<-e9]at rr
 obtain⟨k,rfl⟩:∃k:Nat,x9=k:=⟨x9.toNat,by omega⟩
 have hk:k<L.length:=by omega
 have cc:(bT 2 2&&bJ 0 2&&decide ((0:Int)<=(k:Int)/\(k:Int)<((L.length:Nat):Int)))=true:=by simp[bJ];omega
 refine ba (dY (by omega)) (ba cc (ba cc ?_))
 have gd:∀n,n<L.length->L.getD n (RK.cq RK.ae)=L.getD n default:=λn hn=>by
  rw[cP,cP,cG hn];rfl
 have hq:L.getD ((k:Int)).toNat (RK.cq RK.ae)=L.getD k default:=by rw[eD];exact gd k hk
 have PK:L.getD k default∈L:=by rw[cP,cG hk];exact fI _
 have hr:∀c∈L.set ((k:Int)).toNat {At:=(L.getD ((k:Int)).toNat (RK.cq RK.ae)).At,D2:=jN .u64 (L.getD ((k:Int)).toNat (RK.cq RK.ae)).D2 hash},0<=c.At/\c.At<18446744073709551616:=λc hc=>by
  rcases fO hc with h|h
  ·exact p2.u c0 c1 _ (mm c h).1
  ·rw[h,hq];exact p2.u c0 c1 _ (mm _ PK).1
 refine bm (YH g.v (by omega) R.st.d R.st.hs R.st.hu (l:=L.set ((k:Int)).toNat {At:=(L.getD ((k:Int)).toNat (RK.cq RK.ae)).At,D2:=jN .u64 (L.getD ((k:Int)).toNat (RK.cq RK.ae)).D2 hash}) (by rw[dH];omega) hr) λjM e10=>?_
 rw[hq,eD]at e10
 have sm:(L.set k ({At:=(L.getD k default).At,D2:=jN .u64 (L.getD k default).D2 hash}:gl)).map (·.At)=L.map (·.At):=by
  apply bN
  ·rw[fH,fH,dH]
  ·intro n n1 n2
   rw[bO,bO,fN]
   split
   ·rename_i hn
    subst hn
    show(L.getD k default).At=_
    rw[cP,cG hk];rfl
   ·rfl
 have f:=CA k mk hk 0 m.A1 (jN .u64 (L.getD k default).D2 hash) (qaO (mm _ PK).2 hh f5)
 have YL:CC m s (L.set k {At:=(L.getD k default).At,D2:=jN .u64 (L.getD k default).D2 hash})=({Good:=false,D8:=0+(k:Int),At:=if k=0 then m.A1 else(L.getD (k-1) default).At},0):=by
  unfold CC
  rw[sm,ma,ck]
  show(jv m s 0 m.A1 _,(0:Int))=_
  rw[f]
 rw[e10,YL]
 have ew:i64.wrap ((k:Int)-1)=(k:Int)-1:=by rw[wrap_i64];omega
 have fk:((0+(k:Int))==(k:Int))=true:=by simp
 refine aa (λhp=>?_) λhp=>?_
 ·have hp:(0:Int)<k:=oY hp
  refine ba (by rw[ew];simp[bJ];omega) (aa (λ_=>aa (λ_=>aa (λ_=>aa (λ_=>aw) λh=>?_) λh=>?_) λh=>by cases h) λh=>by cases h)
  ·exfalso
   have h:((if k=0 then m.A1 else(L.getD (k-1) default).At)==(L.getD (i64.wrap ((k:Int)-1)).toNat (RK.cq RK.ae)).At)=false:=h
   rw[ew,if_neg (by omega),show((k:Int)-1).toNat=k-1 by omega,gd (k-1) (by omega),beq_self_eq_true]at h;cases h
  ·exfalso
   have h:((0+(k:Int))==(k:Int))=false:=h
   rw[fk]at h;cases h
 ·have hp:¬(0:Int)<k:=oN hp
  have k0:k=0:=by omega
  refine aa (λ_=>aa (λ_=>aa (λ_=>aa (λ_=>aw) λh=>?_) λh=>?_) λh=>by cases h) λh=>by cases h
  ·exfalso
   have h:((if k=0 then m.A1 else(L.getD (k-1) default).At)==m.A1)=false:=h
   rw[if_pos k0,beq_self_eq_true]at h;cases h
  ·exfalso
   have h:((0+(k:Int))==(k:Int))=false:=h
   rw[fk]at h;cases h

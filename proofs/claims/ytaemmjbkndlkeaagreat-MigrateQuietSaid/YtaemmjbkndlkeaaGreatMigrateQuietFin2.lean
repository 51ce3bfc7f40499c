import Derived.Test.YtaemmjbkndlkeaaGreatMigrateQuietFin1
open List renaming drop_eq_getElem_cons->aO,getElem?_eq_getElem->aI,length_cons->dD,drop_eq_nil_of_le->aN,append_assoc->aM,replicate->cO,replicate_succ'->eQ,getD->aV,length_singleton->cY,length_replicate->cS,eq_of_mem_replicate->eR,ext_getElem->bR,mem_append_left->eS,getD_eq_getElem?_getD->cX,getElem?_eq_none->aJ,getElem_mem->eT,mem_cons_self->eU,mem_cons_of_mem->eV,length_set->dC,length_map->eW,length_take->aD,mem_append_right->eX,getElem?_replicate->eY,foldl_append->fB,take_of_length_le->fC
open Nat renaming beq->bX,blt->bN,zero_le->bC,lt_succ_self->cN
open Int renaming toNat_natCast->dX,le_refl->eN,tmod_eq_emod_of_nonneg->dZ,tdiv_eq_ediv_of_nonneg->eG,toNat->dA,NonNeg->fD
open Bool renaming cond_false_right->eO,false_ne_true->eZ,true_eq_false->fA
set_option maxRecDepth 100000
set_option linter.all false
namespace Go.Proofs.YtaemmjbkndlkeaaGreat
open Go Go.GD
open Go.IntKind(wrap i64 wrap_i64 wrap_u64)
variable {D:List Bool}{P f k n:Nat}{a b fs:List Int}{clock host i:Int}{g:dv}{l xs:List fj}{nc:Bool}{x:fj}
def ie:List Bool->Int->List Int
 |[],_=>[]
 |b::l,k=>if b=true then k::ie l (k+1)else ie l (k+1)
theorem Tq:∀(l:List Bool) (k:Int),(ie l k).length<=l.length
 |[],_=>Nat.le_refl _
 |b::l,k=>by
  have:=Tq l (k+1)
  simp only[ie];split<;>(try simp)<;>omega
theorem Oj:∀{l:List Bool} {k x:Int},x∈ie l k->k<=x/\x<k+l.length
 |[],_,_,h=>by simp[ie]at h
 |b ::l,k,x,h=>by
  simp only[ie]at h
  have go:x∈ie l (k+1)->k<=x/\x<k+(b::l).length:=λh=>by
   have:=Oj h;simp;omega
  split at h
  ·rcases List.mem_cons.1 h with e|e
   ·subst e;simp;omega
   ·exact go e
  ·exact go h
theorem yk{l:List Bool}{i:Nat}(h:i<l.length):l.drop i=l.getD i false::l.drop (i+1):=by
 rw[aO h]
 show _=(l[i]?).getD false::_
 rw[aI h];rfl
theorem vk{l:List Bool}{i:Nat}(h:i<l.length)(hb:l.getD i false=true)(k:Int):ie (l.drop i) k=k::ie (l.drop (i+1)) (k+1):=by
 rw[yk h,ie,if_pos hb]
theorem yZ{l:List Bool}{i:Nat}(h:i<l.length)(hb:l.getD i false=false)(k:Int):ie (l.drop i) k=ie (l.drop (i+1)) (k+1):=by
 rw[yk h,ie,if_neg (by rw[hb];simp)]
theorem wi{x:Int}(h0: -9223372036854775808<=x)(h1:x<=9223372036854775807):wrap .i64 x=x:=by rw[wrap_i64];omega
theorem mP{i:Nat}(h:i<n):(bX 1 1&&bN 0 1&&decide (0<=(i:Int)/\(i:Int)<(n:Int)))=true:=by
 rw[dY (by omega)];rfl
theorem qal{n:Int}{l:List Bool}(h0:0<=n)(hb:n+l.length<=1000000000000):(Ok n l).w λr=>r=(n+(ie l 0).length,l):=by
 unfold Ok
 refine fk (inv:=λz:Int×Int=>∃i:Nat,z.1=i/\i<=l.length/\0<=z.2/\z.2<=n+i/\z.2+(ie (l.drop i) i).length=n+(ie l 0).length) (μ:=Ts n l) ⟨0,rfl,bC _,h0,by simp,by simp⟩ (cN _) ?_
 rintro⟨_,x⟩ ⟨i,rfl,hi,nO,hx,hs⟩
 simp only at nO hx hs
 refine ae (λbd=>?_) (λgx=>?_)
 ·have bd:i<l.length:=by simpa using bd
  have ew:wrap .i64 ((i:Int)+1)=((i+1:Nat):Int):=by rw[wi (by omega) (by omega)];omega
  refine ax (mP bd) (ae (λBa=>?_) (λBa=>?_))
  ·rw[dX]at Ba
   refine aq λy hy=>?_
   have hy:y=(true,wrap .i64 (x+1)):=hy
   rw[wi (by omega) (by omega)]at hy
   subst hy
   refine ae (λh=>by cases h) (λ_=>ez ?_)
   refine⟨⟨i+1,ew,bd,by show 0<=x+1;omega,by show x+1<=_;omega,?_⟩,?_⟩
   ·rw[vk bd Ba]at hs
    simp only[dD]at hs
    show x+1+((ie (l.drop (i+1)) ((i+1:Nat):Int)).length:Int)=_
    have:((i+1:Nat):Int)=(i:Int)+1:=by omega
    rw[this];omega
   ·simp only[Ts,ew];omega
  ·rw[dX]at Ba
   refine ez ⟨⟨i+1,ew,bd,nO,by show x<=_;omega,?_⟩,?_⟩
   ·rw[yZ bd Ba]at hs;simpa using hs
   ·simp only[Ts,ew];omega
 ·have gx:l.length<=i:=by simpa using gx
  rw[aN gx]at hs
  refine bg ?_
  show((x,l):Int×List Bool)=_
  rw[<-hs];simp[ie]
theorem qM{c:gg}(hb:c.B0.length<=1000000000000):XO c/\Tt c=(ie c.B0 0).length:=by
 have h1:=Tree.pp (qal (n:=0) (l:=c.B0) (eN _) (by omega))
 have h4:(Ol c).w λr=>r=(ie c.B0 0).length:=by
  unfold Ol
  refine aq λ_ _=>c7 h1.1 (aq λy hy=>bg ?_)
  have hy:y=Tu 0 c.B0:=hy
  have e:Tu 0 c.B0=(0+((ie c.B0 0).length:Int),c.B0):=h1.2
  rw[hy,e];simp
 exact Tree.pp h4
theorem Lz{m:List Int}(hl:m.length=32*P)(hp:P<=32):jQ m=P:=by
 simp only[jQ,Gn,Tree.m,hl]
 have e1:Int.tmod ((32*P:Nat):Int) 32=0:=by rw[dZ (by omega)];omega
 have e2:Int.tdiv ((32*P:Nat):Int) 32=P:=by rw[eG (by omega)];omega
 rw[e1,e2,dN (by omega),wi (by omega) (by omega)];rfl
theorem ql{m:List Int}(h:jQ m=P)(h1:1<=P):m.length=32*P/\P<=32:=by
 simp only[jQ,Gn,Tree.m]at h
 rw[dZ (by omega),eG (by omega)]at h
 cases hb:(((m.length:Int)%32 !=0):Bool)with
 |true=>rw[hb]at h;simp only[cond_true]at h;omega
 |false=>
  rw[hb]at h
  simp only[cond_false]at h
  have hb:(m.length:Int)%32=0:=by simpa using hb
  cases hc:decide ((m.length:Int)>1024)with
  |true=>rw[hc]at h;simp only[cond_true]at h;omega
  |false=>
   rw[hc]at h
   simp only[cond_false]at h
   have hc:(m.length:Int)<=1024:=by simpa using hc
   rw[wi (by omega) (by omega)]at h
   omega
theorem Zq4{m:List Int}(hl:m.length=32*P)(hp:P<=32){f:Int}(f0:0<=f)(f1:f<P):Om m f:=by
 show(DA m f).p
 have hh:Er m f=true:=by
  simp only[Er,KC,Tree.m,ee,Lz hl hp]
  rw[dY (by omega:f>=0),dY f1];rfl
 have e1:wrap .i64 (f*32)=f*32:=wi (by omega) (by omega)
 have e2:wrap .i64 (f*32+32)=f*32+32:=wi (by omega) (by omega)
 unfold DA
 refine aq λx hx=>?_
 rw[hh]at hx;subst hx
 refine ae (λh=>by cases h) (λ_=>?_)
 rw[e1,e2]
 refine ax (by rw[dY (by rw[hl];omega)];rfl) (c7 ?_ (aq λ_ _=>bg trivial))
 show List.length _<=1000000000000
 simp;omega
def mG(m l:List Int):List kY:=l.map λf=>⟨f,(jF m f).1⟩
theorem zal{m:List Int}(hl:m.length=32*P)(hp:P<=32){d:List Bool}(hd:d.length=P):(On m [] d).w λr=>r=(m,mG m (ie d 0),d):=by
 unfold On
 refine fk (inv:=λz:Int×List Int×List kY=>∃i:Nat,z.1=i/\i<=d.length/\z.2.1=m/\z.2.2.length<=i/\z.2.2++mG m (ie (d.drop i) i)=mG m (ie d 0)) (μ:=Tv m [] d) ⟨0,rfl,bC _,rfl,by simp,by simp⟩ (cN _) ?_
 rintro⟨_,_,x⟩ ⟨i,rfl,hi,hm,hx,hs⟩
 simp only at hm hx hs
 subst hm
 refine ae (λbd=>?_) (λgx=>?_)
 ·have bd:i<d.length:=by simpa using bd
  have ew:wrap .i64 ((i:Int)+1)=((i+1:Nat):Int):=by rw[wi (by omega) (by omega)];omega
  refine ax (mP bd) (ae (λBa=>?_) (λBa=>?_))
  ·rw [dX]at Ba
   refine c7 (?_:(Tw i _ x).p) (aq λy hy=>?_)
   ·exact c7 (Zq4 hl hp (by omega) (by omega)) (aq λ_ _=>ax (dY (by omega)) (bg trivial))
   ·have hy:y=(true,_,x++[⟨(i:Int),(jF _ i).1⟩]):=hy
    subst hy
    refine ae (λh=>by cases h) (λ_=>ez ?_)
    refine⟨⟨i+1,ew,bd,rfl,by simp;omega,?_⟩,?_⟩
    ·rw[vk bd Ba]at hs
     simp only[aM,List.singleton_append]
     rw[<-hs];simp[mG]
    ·simp only[Tv,ew];omega
  ·rw[dX]at Ba
   refine ez ⟨⟨i+1,ew,bd,rfl,by show x.length<=_;omega,?_⟩,?_⟩
   ·rw[yZ bd Ba]at hs;simpa using hs
   ·simp only[Tv,ew];omega
 ·have gx:d.length<=i:=by simpa using gx
  rw[aN gx]at hs
  refine bg ?_
  show((_,x,d):List Int×List kY×List Bool)=_
  rw[<-hs];simp[ie,mG]
def uq(c:gg)(m:List Int):gg×List kY:=
 if ur c=true/\c.B9<=10/\jQ m=c.B0.length then
  ({B0:=cO c.B0.length false,B9:=wrap .i64 (c.B9+1),D6:=wrap .i64 (c.D6+(ie c.B0 0).length)},mG m (ie c.B0 0))
 else(c,[])
theorem Zhn{c:gg}(h:ur c=true):1<=c.B0.length/\c.B0.length<=32/\0<=c.B9/\c.B9<=11/\0<=c.D6/\c.D6<=352:=by
 simp only[ur,Tx,Tree.m,eO,aE,decide_eq_true_eq]at h
 omega
theorem Zlg{c:gg}:ur c=decide (1<=c.B0.length/\c.B0.length<=32/\0<=c.B9/\c.B9<=11/\0<=c.D6/\c.D6<=352):=by
 cases h:ur c with
 |true=>exact(dY (Zhn h)).symm
 |false=>
  refine(dN λhh=>?_).symm
  have:ur c=true:=by
   simp only[ur,Tx,Tree.m,eO,aE,decide_eq_true_eq]
   omega
  rw[h]at this;cases this
theorem Ty{c:gg}(hb:c.B0.length<=1000000000000):XP c/\Oo c=c:=by
 refine⟨?_,rfl⟩
 show(Tz c).p
 exact c7 (show c.B0.length<=140737488355328 by omega) (aq λ_ _=>bg trivial)
theorem vZ{c:gg}{fp:Int}(hb:c.B0.length<=1000000000000):Qho c fp/\IQ c fp=(ur c&&(decide (((ie c.B0 0).length:Int)<=fp)||decide (c.B9>=10))):=by
 have h:(Oq c fp).w λr=>r=(ur c&&(decide (((ie c.B0 0).length:Int)<=fp)||decide (c.B9>=10))):=by
  unfold Oq
  refine aq λv hv=>?_
  have hv:v=ur c:=hv
  subst hv
  refine ae (λh1=>?_) (λh1=>bg ?_)
  ·obtain⟨g1,g2⟩:=qM hb
   refine c7 g1 (aq λx hx=>?_)
   have hx:x=Tt c:=hx
   rw[g2]at hx;subst hx
   rw[h1]
   refine ae (λh2=>bg ?_) (λh2=>bg ?_)
   ·rw[h2];rfl
   ·rw[h2];simp
  ·rw[h1];rfl
 exact Tree.pp h
theorem xaD(h0:1<=P)(h1:P<=32):Qmh P/\Z0e P=cO (32*P) 0:=by
 have h:(Ot P).w λr=>r=cO (32*P) 0:=by
  unfold Ot
  have e:wrap .i64 ((P:Int)*32)=(P:Int)*32:=wi (by omega) (by omega)
  refine ae (λh=>by simp at h;omega) (λ_=>ae (λh=>by simp at h;omega) (λ_=>?_))
  rw[e]
  refine ax (by rw[dY (by omega)];rfl) (bg ?_)
  congr 1;omega
 exact Tree.pp h
theorem xal(h0:1<=P)(h1:P<=32):Qfc P/\Qp4 P=(⟨cO P true,0,0⟩,true):=by
 have h:(Ou P).w λr=>r=(⟨cO P true,0,0⟩,true):=by
  unfold Ou
  refine ae (λh=>by simp at h;omega) (λ_=>ae (λh=>by simp at h;omega) (λ_=>ax (by rw[dY (by omega)];rfl) ?_))
  refine fk (inv:=λz:Int×List Bool=>∃i:Nat,z.1=i/\i<=P/\z.2=cO i true++cO (P-i) false) (μ:=XQ P) ⟨0,rfl,bC _,by simp⟩ (cN _) ?_
  rintro⟨_,x⟩ ⟨i,rfl,hi,hx⟩
  simp only at hx
  refine ae (λbd=>?_) (λgx=>?_)
  ·have bd:i<P:=by simpa using bd
   have ew:wrap .i64 ((i:Int)+1)=((i+1:Nat):Int):=by rw[wi (by omega) (by omega)];omega
   have hl:x.length=P:=by rw[hx];simp;omega
   refine ax (by rw[hl];exact mP bd) (ez ⟨⟨i+1,ew,bd,?_⟩,?_⟩)
   ·show x.set (dA (i:Int)) true=_
    rw[hx,dX,List.set_append_right _ _ (by simp),show P-i=(P-(i+1))+1 by omega,List.replicate_succ,eQ]
    simp
   ·simp only[XQ,ew];omega
  ·have gx:P<=i:=by simpa using gx
   have:i=P:=by omega
   subst this
   refine bg ?_
   show(({B0:=x,B9:=(0:Int),D6:=(0:Int)}:gg),true)=_
   rw[hx];simp
 exact Tree.pp h
def rh:List Bool->List Int->List Bool
 |d,[]=>d
 |d,f::l=>rh (if 0<=f/\f<d.length then d.set f.toNat true else d) l
theorem Z1t:∀(l:List Int) (d:List Bool),(rh d l).length=d.length
 |[],_=>rfl
 |f::l,d=>by simp only[rh];rw[Z1t];split<;>simp
theorem qaE{c:gg}{l:List Int}(hb:c.B0.length<=1000000000000)(hl:l.length<=1000000000000):XR c l/\TA c l={c with B0:=rh c.B0 l}:=by
 have h:(Ov c l).w λr=>r={c with B0:=rh c.B0 l}:=by
  unfold Ov
  refine c7 (Ty hb).1 (aq λx hx=>?_)
  have hx:x=Oo c:=hx
  rw[(Ty hb).2]at hx;subst hx
  refine fk (inv:=λz:Int×List Bool=>∃i:Nat,z.1=i/\i<=l.length/\rh z.2 (l.drop i)=rh x.B0 l) (μ:=LA x l) ⟨0,rfl,bC _,by simp⟩ (cN _) ?_
  rintro⟨_,d⟩ ⟨i,rfl,hi,hd⟩
  simp only at hd
  refine ae (λbd=>?_) (λgx=>?_)
  ·have bd:i<l.length:=by simpa using bd
   have ew:wrap .i64 ((i:Int)+1)=((i+1:Nat):Int):=by rw[wi (by omega) (by omega)];omega
   have lT:l.drop i=l.getD i 0::l.drop (i+1):=by
    rw[aO bd];congr 1;simp[aV,bd]
   rw[lT,rh]at hd
   have mx:LA x l (wrap .i64 ((i:Int)+1),d)<LA x l ((i:Int),d):=by simp only[LA,ew];omega
   have skip:¬(0<=l.getD i 0/\l.getD i 0<d.length)->(∃j:Nat,wrap .i64 ((i:Int)+1)=j/\j<=l.length/\rh d (l.drop j)=rh x.B0 l):=λhn=>by
    rw[if_neg hn]at hd
    exact⟨i+1,ew,bd,hd⟩
   refine ax (mP bd) ?_
   refine ae (λh1=>?_) (λh1=>ez ⟨skip (λh=>oN h1 h.1),mx⟩)
   have h1:0<=l.getD i 0:=oY h1
   refine ae (λh2=>?_) (λh2=>ez ⟨skip (λh=>oN h2 h.2),mx⟩)
   have h2:l.getD i 0<d.length:=oY h2
   refine ax (Bool.and_eq_true_iff.2 ⟨rfl,dY ⟨h1,h2⟩⟩) (ez ⟨⟨i+1,ew,bd,?_⟩,?_⟩)
   ·rw[if_pos ⟨h1,h2⟩]at hd;exact hd
   ·simp only[LA,ew];omega
  ·have gx:l.length<=i:=by simpa using gx
   rw[aN gx,rh]at hd
   refine bg ?_
   show({B0:=d,B9:=x.B9,D6:=x.D6}:gg)=_
   rw[hd]
 exact Tree.pp h
attribute [local irreducible] KA
def Tree.V{β:Type}(t:Tree β)(W:β->Prop):Prop:=W t.m
section
variable {α β:Type} {W:β->Prop} {c:Bool} {t e:Tree β}
theorem mQ{x:β}(h:W x):Tree.V (.lf x) W:=h
theorem IS{f:Prop}{x:β}{hf:f}(h:W x):Tree.V (.nx f x hf) W:=h
theorem lj(h:c=true->Tree.V t W)(g:c=false->Tree.V e W):Tree.V (.br c t e) W:=by
 cases c
 ·exact g rfl
 ·exact h rfl
theorem Cg(g:Tree.V t W):Tree.V (.cn c t) W:=g
theorem nG{p:Prop}(g:Tree.V t W):Tree.V (.an p t) W:=g
theorem mj{x:α}{k:α->Tree β}(h:∀y,y=x->Tree.V (k y) W):Tree.V (.lv x k) W:=h x rfl
theorem EK{d:Inhabited β}{n:Nat}{f:Prop}{x:α}{k:α->Tree (α⊕β)}{hf:f}{inv:α->Prop}{μ:α->Nat}(h:inv x)(hn:μ x<n)(g:∀y,inv y->Tree.V (k y) (Sum.elim (λz=>inv z/\μ z<μ y) W)):Tree.V (.lp d n f x k hf) W:=by
 refine qB (P:=inv) (R:=W) (μ:=μ) (λa ha=>?_) n x h hn
 have:=g a ha
 unfold Tree.V at this
 revert this
 cases(k a).m with
 |inl z=>exactλh=>h
 |inr b=>exactλh=>h
end
structure gu(P:Nat)(m:bb):Prop where
 ok:rG P m
 may:AR m=true
section
variable {P:Nat} {m:bb} (h:gu P m)
include h
theorem gu.v:Lp m:=⟨h.ok.oh,h.ok.mem.u,h.ok.mi,h.ok.wo,h.ok.target,h.ok.tz⟩
theorem gu.s:Ai P m:=⟨h.ok.oh,h.ok.mem,h.ok.mi,h.ok.wo,h.ok.target.1,h.ok.target.2⟩
theorem gu.XS:IL m=true:=(Zq6 h.v).symm.trans h.may
theorem Zhu:GG m=false↔m.B6=false/\IN m=false/\m.B7<1152921504606846976:=by
 simp only[GG,Qa,Tree.m,ee,h.XS]
 cases m.B6<;>cases IN m<;>simp
theorem xM(hs:GG m=false)(hc:U clock):gu P (Am m clock).2/\(Am m clock).2.B7=m.B7+1/\(Am m clock).1.length<=1:=by
 have o:=Tree.post _ (Wx h.ok hc)
 change(Am m clock).1.length<=1/\rG P (Am m clock).2/\(Am m clock).2.B7=wrap .u64 (m.B7+1)at o
 have s:=(Tree.pp (WQ h.s h.ok.tz hc)).2
 change _/\Good P m (AZ m clock).1 at s
 have e:AZ m clock=((Am m clock).2,(Am m clock).1):=by rw[Zj5 h.v,Zpu,hs];rfl
 rw[e]at s
 have hct:=((Zhu h).1 hs).2.2
 have h0:=h.ok.tz
 refine⟨⟨o.2.1,s.2.may h.may⟩,?_,o.1⟩
 rw[o.2.2,wrap_u64];omega
end
theorem Zpb{i:List Int}(hu:∀w∈i,U w)(hl:i.length<=256):gu 8 (lh 8 4 i).1/\(lh 8 4 i).1.B7=0:=by
 obtain⟨a,b⟩:=(Tree.pp (BP i hu hl)).2
 change rG 8 (lh 8 4 i).1 at a
 refine⟨⟨a,?_⟩,b⟩
 have e:(lh 8 4 i).2=true:=by
  have w:i64.wrap (8*32)=256:=by decide
  simp only[lh,Gm,Tree.m,w,ee,dN (show¬((i.length:Int)>256) by omega)]
  rfl
 obtain⟨a1,a2,a3,a4,a5,a6⟩:=xaK 8 4 i e
 exact(qaL _ 8 4 a1 a2 a3 a4 a5 _ a6).1
theorem xl{m:bb}(h:gu 8 m)(hc:m.B7<=87):Tree.V (Ij m [] 87) (λx=>x.2.2.2=0->gu 8 x.1/\x.1.B7<=87):=by
 have z:∀{k:Int} {p:Prop},k≠0->k=0->p:=λa b=>absurd b a
 unfold Ij
 refine mj λx0 _=>lj (λ_=>mQ (z (by decide))) λ_=>lj (λ_=>mQ (z (by decide))) λ_=>lj (λ_=>mQ (z (by decide))) λ_=>nG (mj λx1 _=>lj (λ_=>mQ (z (by decide))) λ_=>nG (mj λx2 hx=>?_))
 rw[zZ]at hx
 refine EK (inv:=λv:bb×List ir=>gu 8 v.1/\v.1.B7<=87) (μ:=WB m [] 87) ⟨by rw[hx];exact h,by rw[hx];exact hc⟩ (cN _) λv0 ⟨a1,a3⟩=>?_
 have a2:=a1.ok.tz
 refine lj (λhb=>lj (λhm=>?_) (λ_=>mQ λ_=>⟨a1,a3⟩)) (λ_=>mQ λ_=>⟨a1,a3⟩)
 have hb:=oY hb
 have hm:=oY hm
 refine EK (inv:=λ_=>True) (μ:=WC m [] 87 v0) trivial (cN _) λv1 _=>?_
 refine lj (λ_=>mQ λ_=>⟨a1,a3⟩) λhh=>nG (mj λx3 h3=>lj (λ_=>mQ λ_=>⟨a1,a3⟩) λhi=>nG (mj λx4 _=>lj (λ_=>mQ (z (by decide))) λ_=>nG (mj λx5 h5=>Cg (IS ?_))))
 obtain⟨b1,b2,_⟩:=xM a1 ((Zhu a1).2 ⟨hh,h3.symm.trans hi,hm⟩) (clock:=0) gj
 rw[<-h5]at b1 b2
 show(gu 8 x5.2/\x5.2.B7<=87)/\(87-x5.2.B7).toNat<(87-v0.1.B7).toNat
 exact⟨⟨b1,by omega⟩,by omega⟩
theorem Zj9(kind:Int)(l:List Int)(hl:l.length*8<=reachBytes)(h40:l.length<=60):gu 8 (TB kind l)/\(TB kind l).B7<=87:=by
 show Tree.V (Ik kind l) (λm=>gu 8 m/\m.B7<=87)
 have code:=(Tree.pp (yd l hl)).2
 change((TC l).length:Int)=l.length/\∀w∈TC l,U w at code
 obtain⟨b1,b2⟩:=code
 unfold Ik
 refine nG (mj λx0 nO=>lj (λ_=>nG (mj λx1 e1=>?_)) (λhk=>?_))
 ·have eb:x1.1=jM:=by rw[e1];rfl
  obtain⟨q1,q2⟩:jM.length<=160/\∀w∈jM,U w:=ye
  refine EK (inv:=λv:List Int=>v.length<=160/\v=jM++cO (v.length-jM.length) 0) (μ:=WD kind l) ⟨by rw[eb];exact q1,by rw[eb];simp⟩ (cN _) λv0 ⟨a1,a2⟩=>?_
  have a3:jM.length<=v0.length:=by rw[a2,lA];omega
  refine lj (λhb=>?_) (λhb=>?_)
  ·have hb:=oY hb
   refine Cg (IS ?_)
   show(_/\_)/\(_:Nat)<_
   refine⟨⟨by rw[lA,cY];omega,?_⟩,by show 160-(v0++[0]).length<160-v0.length;rw[lA,cY];omega⟩
   show v0++[0]=jM++cO ((v0++[0]).length-jM.length) 0
   rw[lA,cY,show v0.length+1-jM.length=(v0.length-jM.length)+1 by omega,eQ,<-aM,<-a2]
  ·have hb:=oN hb
   have hv:v0=tw:=by
    unfold tw
    rw[show(160:Nat)=v0.length by omega]
    exact a2
   subst hv
   have hp:=xf
   have WE:∀w∈tw,U w:=λw hw=>(List.mem_append.1 hw).elim (q2 w) (BN _ w)
   refine nG (mj λx2 e2=>Cg ?_)
   rw[<-e2]at b1 b2
   have hu:∀w∈tw++x2,U w:=λw hw=>(List.mem_append.1 hw).elim (WE w) (b2 w)
   have hlen:(tw++x2).length<=256:=by rw[lA];omega
   refine lj (λhb=>?_) (λhb=>?_)
   ·have hb:=oY hb;omega
   ·obtain⟨c1,c2⟩:=Zpb hu hlen
    refine nG (mj λx3 h3=>?_)
    rw[<-h3]at c1 c2
    have rn:=xl c1 (by omega)
    refine lj (λ_=>nG (mj λx4 hx=>mQ ?_)) (λ_=>mQ ⟨c1,by omega⟩)
    have e:x3=lh 8 4 (tw++(x2++cO (96-x2.length) 0)):=by
     rw[h3]
     have Im:(x2++cO (96-x2.length) (0:Int)).length=96:=by rw[lA,cS];omega
     refine qf _ _ hlen (by rw[lA,Im];omega) ?_
     rw[lA,lA,Im,hp,aM,aM,aM,show 256-(160+96)=0 by omega,show 256-(160+x2.length)=96-x2.length by omega]
     simp
    have h0:x4.2.2.2=0:=by
     rw[hx,e]
     exact xY _ (by rw[lA,cS];omega)
    exact(by rw[hx];exact rn:x4.2.2.2=0->gu 8 x4.1/\x4.1.B7<=87) h0
 ·have hk:=oN hk
  refine nG (mj λx2 e2=>Cg ?_)
  rw[<-e2]at b1 b2
  refine lj (λhb=>?_) (λhb=>?_)
  ·have hb:=oY hb;omega
  ·obtain⟨c1,c2⟩:=Zpb b2 (by omega)
   refine nG (mj λx3 h3=>?_)
   rw[<-h3]at c1 c2
   exact lj (λh=>absurd (eq_of_beq h) (by omega)) (λ_=>mQ ⟨c1,by omega⟩)
theorem EL{m:bb}(g:gu P m)(hc:U clock):gu P (AZ m clock).1:=by
 have s:=(Tree.pp (WQ g.s g.ok.tz hc)).2
 change _/\Good P m (AZ m clock).1 at s
 have k:=s.2.ok
 exact⟨⟨k.oh,k.mem,k.mi,k.wo,⟨k.target,k.given⟩,s.2.tz⟩,s.2.may g.may⟩
theorem Z6h{m:bb}(g:gu P m)(hc:U clock):TE m clock:=(Tree.pp (WQ g.s g.ok.tz hc)).1
theorem gu.mm{m:bb}(h:gu P m):ep P m.Mem:=h.ok.mem
theorem Zp4{m:bb}(h:gu 8 m){M:List Int}(hM:ep 8 M):gu 8 {m with Mem:=M}:=by
 refine⟨⟨h.ok.oh,hM,h.ok.mi,h.ok.wo,h.ok.target,h.ok.tz⟩,?_⟩
 obtain⟨g1,g2,g3,g4,g5⟩:=(KR m).1 h.may
 have id:∀{p:Prop},p->p:=λh=>h
 refine(KR _).2 ⟨?_,g2,g3,g4,?_⟩
 ·show jQ M≠0
  rw[ug hM];decide
 ·exact Ir (m:=m) (P:=8) h.ok.mem hM id id id id id g5
theorem yM:ep 8 (cO 256 0):=⟨by simp,by decide,by decide,λw hw=>by rw[eR hw];exact gj⟩
theorem qam{s t:List Int}(hl:s.length<=1000000000000):TF s t=true->s=t:=by
 have h:(LB s t).w λr=>r=true->s=t:=by
  unfold LB
  refine ae (λ_=>bg λh=>by cases h) (λhe=>?_)
  have he:s.length=t.length:=by
   have:(s.length:Int)=t.length:=by simpa using he
   omega
  refine fk (inv:=λz:Int=>∃i:Nat,z=i/\i<=s.length/\∀j,j<i->s.getD j 0=t.getD j 0) (μ:=Ow s t) ⟨0,rfl,bC _,λj h=>by omega⟩ (cN _) ?_
  rintro _ ⟨i,rfl,hi,hj⟩
  refine ae (λbd=>?_) (λgx=>bg λ_=>?_)
  ·have bd:i<s.length:=by simpa using bd
   have ew:wrap .i64 ((i:Int)+1)=((i+1:Nat):Int):=by rw[wi (by omega) (by omega)];omega
   refine ax (mP bd) (ax (mP (by omega)) (ae (λ_=>bg λh=>by cases h) (λheq=>ez ⟨⟨i+1,ew,bd,λj LC=>?_⟩,by simp only[Ow,ew];omega⟩)))
   rw[dX]at heq
   rcases Nat.lt_succ_iff_lt_or_eq.1 LC with h|h
   ·exact hj j h
   ·subst h;simpa using heq
  ·have gx:s.length<=i:=by simpa using gx
   refine bR he λj h1 h2=>?_
   have:=hj j (by omega)
   simpa[aV,h1,h2]using this
 exact(Tree.pp h).2
theorem Zic(ha:ep P a)(hb:ep P b):XT a b/\(DN a b).length<=P/\ ∀k:Nat,k<P->(k:Int)∈DN a b\/(a.drop (k*32)).take 32=(b.drop (k*32)).take 32:=by
  have h:(Ox a b).w λr=>r.length<=P/\ ∀k:Nat,k<P->(k:Int)∈r\/(a.drop (k*32)).take 32=(b.drop (k*32)).take 32:=by
    have la:=ha.len
    have lb:=hb.len
    have hp:=ha.p2
    unfold Ox
    refine aq λx0 h0=>aq λx1 h1=> ?_
    have h0:x0=P:=h0.trans (Lz la hp)
    have h1:x1=P:=h1.trans (Lz lb hp)
    subst h0;subst h1
    refine ae (λh=>by simp at h) (λ_=> ?_)
    refine fk (inv:=λz:Int×List Int=> ∃i:Nat,z.1=i/\i<=P/\z.2.length<=i/\ ∀k:Nat,k<i->(k:Int)∈z.2\/(a.drop (k*32)).take 32=(b.drop (k*32)).take 32) (μ:=λz=>(P-z.1).toNat) ⟨0,rfl,bC _,by simp,λk h=>by omega⟩ (by simp only[Qi1];omega) ?_
    rintro⟨_,x⟩ ⟨i,rfl,hi,hx,hk⟩
    simp only at hx hk
    refine ae (λbd=> ?_) (λgx=>bg ?_)
    . have bd:i<P:=by simpa using bd
      have ew:wrap .i64 ((i:Int)+1)=((i+1:Nat):Int):=by rw[wi (by omega) (by omega)];omega
      have e1:wrap .i64 ((i:Int)*32)=((i*32:Nat):Int):=by rw[wi (by omega) (by omega)];omega
      have e2:wrap .i64 (((i+1:Nat):Int)*32)=((i*32+32:Nat):Int):=by rw[wi (by omega) (by omega)];omega
      simp only[ew,e1,e2,dX,show i*32+32-i*32=32 by omega]
      refine ax (by rw[dY (by omega)];rfl) (ax (by rw[dY (by omega)];rfl) (c7 (show _<=_ by simp;omega) (aq λx2 h2=> ?_)))
      have h2:x2=TF _ _:=h2
      refine ae (λhn=>ax (dY (by omega)) (ez ⟨⟨i+1,rfl,bd,by simp;omega,λk uW=> ?_⟩,by omega⟩)) (λhn=>ez ⟨⟨i+1,rfl,bd,by show x.length<=_;omega,λk uW=> ?_⟩,by omega⟩)
      . rcases Nat.lt_succ_iff_lt_or_eq.1 uW with h|h
        . rcases hk k h with h|h
          . exact .inl (eS _ h)
          . exact .inr h
        . subst h;exact .inl (by simp)
      . rcases Nat.lt_succ_iff_lt_or_eq.1 uW with h|h
        . exact hk k h
        . subst h
          have:x2=true:=by simpa using hn
          exact .inr (qam (by simp;omega) (h2.symm.trans this))
    . have gx:P<=i:=by simpa using gx
      exact⟨by show x.length<=P;omega,λk uW=>hk k (by omega)⟩
  exact Tree.pp h
theorem TG:∀{l:List Int} {d:List Bool} {k:Nat},k<d.length->(d.getD k false=true\/(k:Int)∈l)->(rh d l).getD k false=true
 |[],d,k,_,h=>by
  rcases h with h|h
  ·exact h
  ·cases h
 |f :: l,d,k,hk,h=>by
  simp only[rh]
  by_cases hf:0<=f/\f<d.length
  ·rw [if_pos hf]
   refine TG (by simpa using hk) ?_
   by_cases e:f.toNat=k
   ·refine .inl ?_
    subst e
    simp[aV,hk]
   ·rcases h with h|h
    ·refine .inl ?_
     rw[cX,List.getElem?_set_ne e,<-cX];exact h
    ·rcases List.mem_cons.1 h with h|h
     ·omega
     ·exact .inr h
  ·rw[if_neg hf]
   refine TG hk ?_
   rcases h with h|h
   ·exact .inl h
   ·rcases List.mem_cons.1 h with h|h
    ·omega
    ·exact .inr h
theorem zl{j:Nat}(h:(a.drop (j/32*32)).take 32=(b.drop (j/32*32)).take 32):a.getD j 0=b.getD j 0:=by
 have e:=congrArg (λl=>l.getD (j%32) 0) h
 have hm:j%32<32:=Nat.mod_lt _ (by decide)
 simp only[cX,List.getElem?_take,hm,if_true,List.getElem?_drop]at e
 rw[show j/32*32+j%32=j by omega]at e
 simpa only[cX]using e
theorem y0{m d:List Int}{b:Nat}(h:m.getD (b/4) 0=d.getD (b/4) 0):lF m b=lF d b:=by unfold lF;rw[h]
theorem vl{c:gg}{m:List Int}(hP:1<=P)(hm:ep P m)(hd:c.B0.length=P)(r0:0<=c.B9)(r1:c.B9<=10)(s0:0<=c.D6)(s1:c.D6<=352):uq c m=(⟨cO P false,c.B9+1,c.D6+(ie c.B0 0).length⟩,mG m (ie c.B0 0)):=by
 have:=Tq c.B0 0
 have hP2:=hm.p2
 unfold uq
 rw[if_pos ⟨by rw[Zlg];exact dY (by omega),r1,by rw[Lz (P:=P) hm.len hP2,hd]⟩,wi (by omega) (by omega),wi (by omega) (by omega),hd]
theorem qm{c:gg}{m:List Int}(hb:c.B0.length<=1000000000000):XU c m/\IT c m=uq c m:=by
 have h:(Oy c m).w λr=>r=uq c m:=by
  unfold Oy
  refine c7 (Ty hb).1 (aq λx hx=>?_)
  have hx:x=Oo c:=hx
  rw[(Ty hb).2]at hx;subst hx
  refine aq λv hv=>?_
  have hv:v=ur x:=hv
  refine ae (λh1=>bg ?_) (λh1=>?_)
  ·have:ur x=false:=by rw[hv]at h1;simpa using h1
   simp[uq,this]
  have hV:ur x=true:=by rw[hv]at h1;simpa using h1
  obtain⟨v1,v2,v3,v4,v5,v6⟩:=Zhn hV
  refine ae (λh2=>bg ?_) (λh2=>?_)
  ·have:¬x.B9<=10:=by simpa using h2
   simp[uq,this]
  have h2:x.B9<=10:=by simpa using h2
  refine aq λp hp=>?_
  have hp:p=jQ m:=hp
  refine ae (λh3=>bg ?_) (λh3=>?_)
  ·have:¬jQ m=x.B0.length:=by rw[hp]at h3;simpa using h3
   simp[uq,this]
  have h3:jQ m=x.B0.length:=by rw[hp]at h3;simpa using h3
  obtain⟨l1,l2⟩:=ql h3 v1
  have hr:=Tree.pp (zal l1 l2 rfl)
  refine aq λ_ _=>c7 hr.1 (aq λy hy=>ax ?_ (bg ?_))
  ·rw[dY (by omega)];rfl
  ·have hy:y=TH m [] x.B0:=hy
   have e:TH m [] x.B0=(m,mG m (ie x.B0 0),x.B0):=hr.2
   rw[hy,e]
   simp[uq,hV,h2,h3,mG]
 exact Tree.pp h
theorem vM{c:gg}{m:List Int}(hm:ep 8 m)(hd:c.B0.length=8)(r0:0<=c.B9)(r1:c.B9<=10)(s0:0<=c.D6)(s1:c.D6<=8*c.B9):uq c m=(⟨cO 8 false,c.B9+1,c.D6+(ie c.B0 0).length⟩,mG m (ie c.B0 0)):=
 vl (P:=8) (by decide) hm hd r0 r1 s0 (by omega)
theorem IU{m:List Int}(hm:ep 8 m)(hf:f<8):BY m f (jF m f).1/\(jF m f).2=true:=(Tree.pp (qi hm (f:=(f:Int)) (by omega) (by omega))).2
theorem xm{m:List Int}(hm:ep 8 m)(hf:f<8):(jF m f).1.length=128:=(IU hm hf).1.1
theorem Zb2(ha:ep 8 a)(hb:ep 8 b)(hf:f<8)(h:∀k:Nat,k<128->lF a (f*128+k)=lF b (f*128+k)):(jF a f).1=(jF b f).1:=by
 obtain⟨p1,p2⟩:=(IU ha hf).1
 obtain⟨q1,q2⟩:=(IU hb hf).1
 have e:((f:Int)*128).toNat=f*128:=by omega
 refine vh (m:=a) (f:=f) ⟨p1,p2⟩ ⟨q1,λk hk=>?_⟩
 rw[q2 k hk,e,h k hk]
theorem qN(ha:ep 8 a)(hb:ep 8 b)(hf:f<8)(h:(jF a f).1=(jF b f).1)(hk:k<128):lF a (f*128+k)=lF b (f*128+k):=by
 have p:=(IU ha hf).1.2 k hk
 have q:=(IU hb hf).1.2 k hk
 have e:((f:Int)*128).toNat=f*128:=by omega
 rw[e]at p q
 rw[<-p,<-q,h]
theorem xN(ha:ep 8 a)(hb:ep 8 b)(hf:f<8)(h:¬(f:Int)∈DN a b):(jF a f).1=(jF b f).1:=by
 obtain⟨_,_,c⟩:=Zic ha hb
 refine Zb2 ha hb hf λk hk=>y0 ?_
 rcases c f hf with c|c
 ·exact absurd c h
 ·exact zl (by rw[show(f*128+k)/4/32=f by omega];exact c)
theorem TJ{m:List Int}(hm:ep 8 m)(hf:f<8){d:List UInt8}(hd:d.length=128):(rI m f d).2=true/\ep 8 (rI m f d).1/\∀b:Nat,lF (rI m f d).1 b=if(f:Int)*128<=b/\(b:Int)<(f:Int)*128+128 then((d.getD (b-(f:Int)*128).toNat 0).toNat:Int)else lF m b:=(Tree.pp (W0 hm (f:=(f:Int)) (by omega) (by omega) hd)).2
theorem Zh9{m:List Int}(hm:ep 8 m)(hf:f<8){d:List UInt8}(hd:d.length=128):Q7 m f d:=(Tree.pp (W0 hm (f:=(f:Int)) (by omega) (by omega) hd)).1
theorem Zm6{m:List Int}(hm:ep 8 m)(hf:f<8){d:List UInt8}(hd:d.length=128):ep 8 (rI m f d).1:=(TJ hm hf hd).2.1
theorem Zni{m:List Int}(hm:ep 8 m)(hf:f<8){d:List UInt8}(hd:d.length=128):(jF (rI m f d).1 f).1=d:=by
 obtain⟨_,ok,h⟩:=TJ hm hf hd
 refine vh (IU ok hf).1 ⟨hd,λk hk=>?_⟩
 rw[h,if_pos (by omega)]
 congr 3;omega
theorem Zmj{m:List Int}(hm:ep 8 m)(hf:f<8)(hk:k<8)(hn:k≠f){d:List UInt8}(hd:d.length=128):(jF (rI m f d).1 k).1=(jF m k).1:=by
 obtain⟨_,ok,h⟩:=TJ hm hf hd
 refine Zb2 ok hm hk λj hj=>?_
 rw[h,if_neg (by omega)]
theorem zm(ha:ep 8 a)(hb:ep 8 b)(h:∀f:Nat,f<8->(jF a f).1=(jF b f).1):a=b:=by
 have la:=ha.len
 have lb:=hb.len
 refine xh (la.trans lb.symm) ha.u hb.u λk=>?_
 by_cases hk:k/128<8
 ·have:=qN ha hb hk (h _ hk) (k:=k%128) (Nat.mod_lt _ (by decide))
  rwa [show k/128*128+k%128=k by omega]at this
 ·refine y0 ?_
  simp[aV,aJ (show a.length<=k/4 by omega),aJ (show b.length<=k/4 by omega)]
theorem zam{c:gg}(hd:c.B0.length=8)(r0:0<=c.B9)(r1:c.B9<=11)(s0:0<=c.D6)(s1:c.D6<=8*c.B9):IQ c 32=true:=by
 have:=Tq c.B0 0
 rw[(vZ (c:=c) (fp:=32) (by omega)).2,Zlg,dY (show 1<=c.B0.length/\c.B0.length<=32/\0<=c.B9/\c.B9<=11/\0<=c.D6/\c.D6<=352 by omega),dY (show((ie c.B0 0).length:Int)<=32 by omega)]
 rfl
def Ch(s:iP):Prop:=s.ab.length=4/\(∀b∈s.ab,b.length=128)/\1<=s.D5/\s.D5<=2/\0<=s.D7
theorem Zqo{s:iP}(h:Ch s):(Oz s).w λr=>r=true:=by
 obtain⟨b1,b2,b3,b4,b5⟩:=h
 unfold Oz
 refine ae (λh=>absurd (oY h) (by omega)) λ_=>ae (λh=>absurd (oY h) (by omega)) λ_=>ae (λh=>absurd (oY h) (by omega)) λ_=>?_
 refine fk (inv:=λz:Int=>∃i:Nat,z=i/\i<=s.ab.length) (μ:=XV s) ⟨0,rfl,bC _⟩ (cN _) ?_
 rintro _ ⟨i,rfl,hi⟩
 refine ae (λbd=>?_) (λgx=>ae (λh=>?_) (λ_=>bg (dY (by omega))))
 ·have bd:i<s.ab.length:=by simpa using bd
  have ew:wrap .i64 ((i:Int)+1)=((i+1:Nat):Int):=by rw[wi (by omega) (by omega)];omega
  refine ax (mP bd) (ae (λh=>?_) (λ_=>ez ⟨⟨i+1,ew,bd⟩,by simp only[XV,ew];omega⟩))
  exfalso
  have e:s.ab.getD (dA (i:Int)) (RK.eh RK.str)=s.ab[i]:=by simp[aV,bd]
  rw[e,b2 _ (eT bd)]at h
  cases h
 ·have h:s.D5=0:=by simpa using h
  omega
theorem Zm{s:iP}(h:Ch s)(h0:0<=host)(seen:Int):(OA s host seen).w λr=>r=if s.D5=seen then({s with D5:=s.D5+1,D7:=host},true)else(s,false):=by
 have v:=Tree.pp (Zqo h)
 obtain⟨b1,b2,b3,b4,b5⟩:=h
 unfold OA
 have cp:(OB s).w λr=>r=s:=by
  unfold OB
  exact c7 (show s.ab.length<=1000000000000 by omega) (aq λx hx=>by have hx:x=s.ab:=hx;subst hx;exact bg rfl)
 refine cv cp λx0 e0=>?_
 subst e0
 refine c7 v.1 (aq λx1 h1=>?_)
 have h1:x1=true:=h1.trans v.2
 subst h1
 refine ae (λh=>by cases h) λ_=>ae (λh=>absurd (oY h) (by omega)) λ_=>ae (λh=>bg ?_) λh=>?_
 ·have:x0.D5≠seen:=by simpa using h
  rw[if_neg this]
 ·have h:x0.D5=seen:=by simpa using h
  refine ae (λh=>absurd (oY h) (by omega)) λ_=>bg ?_
  have e:wrap .u64 (x0.D5+1)=x0.D5+1:=by rw[wrap_u64];omega
  rw[if_pos h,e]
theorem Zom{s:iP}(h:Ch s)(h0:0<=host)(seen:Int):mn s host seen=if s.D5=seen then({s with D5:=s.D5+1,D7:=host},true)else(s,false):=(Tree.pp (Zm h h0 seen)).2
def zM:bb:=(RK.eh RK.aa).A0
def gv(l:List fj)(x:fj):List fj:=if l.length<64 then l++[x]else l
def o9(l xs:List fj):List fj:=xs.foldl gv l
theorem LD{x y:fj}(h:y∈gv l x):y∈l\/y=x:=by
 unfold gv at h;split at h
 ·rcases List.mem_append.1 h with h|h
  ·exact .inl h
  ·exact .inr (List.mem_singleton.1 h)
 ·exact .inl h
theorem LF(h:l.length<=64):(gv l x).length<=64:=by
 unfold gv;split
 ·rw[lA,cY];omega
 ·exact h
theorem OC:∀{l:List fj} {y:fj},y∈o9 l xs->y∈l\/y∈xs:=by
 induction xs with
 |nil=>intro l y h;exact .inl h
 |cons x xs ih=>
  intro l y h
  rcases ih (l:=gv l x) h with h|h
  ·rcases LD h with h|h
   ·exact .inl h
   ·exact .inr (by rw[h];exact eU ..)
  ·exact .inr (eV _ h)
theorem Zki:∀{l:List fj},l.length<=64->(o9 l xs).length<=64:=by
 induction xs with
 |nil=>intro l h;exact h
 |cons x xs ih=>intro l h;exact ih (l:=gv l x) (LF h)
theorem zN:∀{l:List fj},l.length+xs.length<=64->o9 l xs=l++xs:=by
 induction xs with
 |nil=>intro l h;simp[o9]
 |cons x xs ih=>
  intro l h
  have h:l.length+(xs.length+1)<=64:=h
  have e:gv l x=l++[x]:=if_pos (by omega)
  have:=ih (l:=l++[x]) (by rw[lA,cY];omega)
  show o9 (gv l x) xs=_
  rw[e,this,aM];rfl
def tD(r f:Int)(d:List UInt8):fj:=⟨1,r,f,d,zM,[]⟩
def uu(s:ij):fj:=⟨2,0,0,[],{s.A0 with Mem:=[]},s.A3⟩
def Ci(k:Int):fj:=⟨k,0,0,[],zM,[]⟩
def rJ(R fs:List Int)(v:Int):List Int:=fs.foldl (λR f=>R.set f.toNat v) R
theorem TL{v:Int}:∀{R:List Int},(rJ R fs v).length=R.length:=by
 induction fs with
 |nil=>intro R;rfl
 |cons x xs ih=>intro R;exact(ih (R:=R.set x.toNat v)).trans dC
theorem FQ{R:List Int}{i k:Nat}{v:Int}(hk:k<R.length):(R.set i v).getD k 0=if i=k then v else R.getD k 0:=by
 simp only[cX,List.getElem?_set]
 by_cases h:i=k
 ·subst h;simp[hk]
 ·simp[h]
theorem Zb{v:Int}(hf:∀f∈fs,0<=f):∀{R:List Int} {k:Nat},k<R.length->(rJ R fs v).getD k 0=if(k:Int)∈fs then v else R.getD k 0:=by
 induction fs with
 |nil=>intro R k hk;simp[rJ]
 |cons x xs ih=>
  intro R k hk
  have h:=ih (λf h=>hf f (eV _ h)) (R:=R.set x.toNat v) (k:=k) (by rw[dC];exact hk)
  show(rJ (R.set x.toNat v) xs v).getD k 0=_
  rw[h,FQ hk]
  have x0:=hf x (eU ..)
  by_cases h1:(k:Int)∈xs
  ·rw[if_pos h1,if_pos (eV _ h1)]
  ·rw [if_neg h1]
   by_cases h2:x.toNat=k
   ·rw[if_pos h2,if_pos (by rw[show(k:Int)=x by omega];exact eU ..)]
   ·rw[if_neg h2,if_neg (λh=>by
     rcases List.mem_cons.1 h with h|h
     ·omega
     ·exact h1 h)]
theorem ym:∀{D:List Bool} {k:Int} {f:Nat},k+(f:Int)∈ie D k↔D.getD f false=true
 |[],k,f=>by simp[ie]
 |b::D,k,0=>by
  have no:¬k∈ie D (k+1):=λh=>by have:=Oj h;omega
  simp only[ie]
  cases b<;>simp[no]
 |b ::D,k,f+1=>by
  have ih:=ym (D:=D) (k:=k+1) (f:=f)
  have e:k+((f+1:Nat):Int)=k+1+(f:Int):=by omega
  rw[e]
  simp only[ie,List.getD_cons_succ]
  split
  ·rw[List.mem_cons]
   constructor
   ·rintro(h|h)
    ·omega
    ·exact ih.1 h
   ·exactλh=>.inr (ih.2 h)
  ·exact ih
theorem TM:(f:Int)∈ie D 0↔D.getD f false=true:=by
 have:=ym (D:=D) (k:=0) (f:=f)
 rwa [Int.zero_add]at this
def LG(g:dv):dv:=
 { g with
   A1:={g.A1 with B1:=(uq g.A1.B1 g.A1.A0.Mem).1,A3:=rJ g.A1.A3 ((uq g.A1.B1 g.A1.A0.Mem).2.map (·.Frame)) (uq g.A1.B1 g.A1.A0.Mem).1.B9}
   A7:=o9 g.A7 ((uq g.A1.B1 g.A1.A0.Mem).2.map λp=>tD (uq g.A1.B1 g.A1.A0.Mem).1.B9 p.Frame p.F1)}
def GJ(g:dv):dv:=
 {g with A1:={g.A1 with A4:=2},A7:=gv g.A7 (uu g.A1)}
def DO(g:dv)(fp:Int):dv:=
 if g.A1.A4=1/\IQ g.A1.B1 fp=true then GJ (LG g)else g
def sw(s:ij):List fj:=(List.range 8).map λf=>tD (s.A3.getD f 0) f (jF s.A0.Mem f).1
theorem vm(s:ij):(sw s).length=8:=by
 unfold sw;rw[eW,List.length_range]
def LH(g:dv):dv:=
 if g.A1.A4=2 then{g with A7:=o9 g.A7 (sw g.A1++[uu g.A1])}else g
def jZ(g:dv):Int:=if g.A1.A4=1\/g.A1.A4=3 then 0 else if g.A2.A4=3 then 1 else-1
def kC(m:bb)(clock:Int):Nat->bb
 |0=>m
 |n+1=>(AZ (kC m clock n) clock).1
def runN(n:Int):Nat:=(min (max n 0) 64).toNat
def ri(s:ij)(m:bb):gg:=if s.A4=1 then{s.B1 with B0:=rh s.B1.B0 (DN s.A0.Mem m.Mem)}else s.B1
def iy(g:dv)(n clock:Int):dv:=
 if g.A1.A4=1\/g.A1.A4=3 then{g with A1:={g.A1 with A0:=kC g.A1.A0 clock (runN n),B1:=ri g.A1 (kC g.A1.A0 clock (runN n))}}
 else if g.A2.A4=3 then{g with A2:={g.A2 with A0:=kC g.A2.A0 clock (runN n)}}
 else g
def iO(t:ij)(x:fj):ij:=
 if¬(t.A4=0\/t.A4=1\/t.A4=2)then t
 else if x.C4=1 then
  (if 0<=x.Frame/\x.Frame<t.A3.length/\t.A3.getD x.Frame.toNat 0<x.B9 then
   {t with A4:=if t.A4=0 then 1 else t.A4,A0:={t.A0 with Mem:=(rI t.A0.Mem x.Frame x.F1).1},A3:=t.A3.set x.Frame.toNat x.B9}
  else t)
 else if x.C4=2 then(if t.A4=2 then t else{t with A4:=2,A0:={x.A0 with Mem:=t.A0.Mem},C0:=x.A3})
 else if x.C4=4 then{t with A4:=4}else t
def lV(g:dv)(back:Bool):List fj:=if back=true then g.C1 else g.A7
def pb(g:dv)(back:Bool)(l:List fj):dv:=if back=true then{g with C1:=l}else{g with A7:=l}
def mU(l:List fj)(i:Int):Prop:=0<=i/\i<l.length
instance (l:List fj) (i:Int):Decidable (mU l i):=by unfold mU;infer_instance
def pd(l:List fj)(i:Int):fj:=l.getD i.toNat (RK.eh RK.aa)
def ll(l:List fj)(i:Int):List fj:=l.take i.toNat++l.drop (i.toNat+1)
def Qu(g:dv)(back:Bool)(i:Int):dv:=if mU (lV g back) i then pb g back (ll (lV g back) i)else g
def LI(g:dv)(back:Bool)(x:fj):dv:=
 if back=true then(if g.A1.A4=2/\x.C4=3 then{g with A1:={g.A1 with A4:=4}}else g)else{g with A2:=iO g.A2 x}
def nH(g:dv)(back:Bool)(i:Int):dv:=if mU (lV g back) i then LI (Qu g back i) back (pd (lV g back) i)else g
def Bb(g:dv)(back:Bool)(i:Int):dv:=if mU (lV g back) i then pb g back (gv (lV g back) (pd (lV g back) i))else g
def Cj(g:dv):Prop:=g.A2.A4=2/\g.A2.A3=g.A2.C0
instance (g:dv):Decidable (Cj g):=by unfold Cj;infer_instance
def sx(g:dv):dv:=
 if Cj g then
  (if(mn g.A9 1 g.A2.D5).2=true then{g with A9:=(mn g.A9 1 g.A2.D5).1,A2:={g.A2 with A4:=3,D5:=(mn g.A9 1 g.A2.D5).1.D5},C1:=gv g.C1 (Ci 3)}
  else{g with A2:={g.A2 with A4:=4}})
 else g
def oi(g:dv):dv:=
 if g.A1.A4=1 then{g with A1:={g.A1 with A4:=3},A7:=gv g.A7 (Ci 4)}
 else if g.A1.A4=2 then
  (if(mn g.A9 0 g.A1.D5).2=true then{g with A9:=(mn g.A9 0 g.A1.D5).1,A1:={g.A1 with A4:=3,D5:=(mn g.A9 0 g.A1.D5).1.D5},A7:=gv g.A7 (Ci 4)}
  else{g with A1:={g.A1 with A4:=4}})
 else g
def OD(g:dv)(back:Bool):dv:=if back=true then{g with A2:={g.A2 with A4:=4}}else{g with A1:={g.A1 with A4:=4}}
def rK(g:dv)(a:kG):dv×Bool:=
 if a.C4=1 then(iy g a.N a.F6,true)
 else if a.C4=2 then(if g.A1.A4=1/\g.A1.B1.B9<10 then LG g else g,true)
 else if a.C4=3 then(DO g a.N,true)
 else if a.C4=4 then(LH g,true)
 else if a.C4=5 then(nH g a.C1 a.N,true)
 else if a.C4=6 then(Qu g a.C1 a.N,true)
 else if a.C4=7 then(Bb g a.C1 a.N,true)
 else if a.C4=8 then(sx g,true)
 else if a.C4=9 then(oi g,true)
 else if a.C4=10 then(OD g a.C1,true)
 else(g,false)
structure jD(x:fj):Prop where
 mem:x.A0.Mem=[]
 rl:x.A3.length<=8
 pg:x.C4=1->0<=x.Frame/\x.Frame<8/\x.F1.length=128
 stt:x.C4=2->∀M,ep 8 M->gu 8 {x.A0 with Mem:=M}
structure gb(g:dv):Prop where
 src:gu 8 g.A1.A0
 dl:g.A1.B1.B0.length=8
 r0:0<=g.A1.B1.B9
 r1:g.A1.B1.B9<=11
 r2:g.A1.A4=1->g.A1.B1.B9<=10
 s0:0<=g.A1.B1.D6
 s1:g.A1.B1.D6<=8*g.A1.B1.B9
 rl:g.A1.A3.length=8
 sf:g.A1.C0.length<=8
 tc:g.A2.B1.B0.length<=8
 tl:g.A2.A3.length=8
 tm:ep 8 g.A2.A0.Mem
 tg:g.A2.A4=2\/g.A2.A4=3->gu 8 g.A2.A0
 tf:g.A2.C0.length<=8
 fl:g.A7.length<=64
 fo:∀x∈g.A7,jD x
 bl:g.C1.length<=64
 bo:∀x∈g.C1,jD x
 st:Ch g.A9
theorem Zi1{m:List Int}(hm:ep 8 m){r:Int}(hf:f<8):jD (tD r f (jF m f).1):=
 ⟨rfl,bC _,λ_=>⟨by show(0:Int)<=(f:Int);omega,by show(f:Int)<8;omega,xm hm hf⟩,λh=>absurd (show(1:Int)=2 from h) (by decide)⟩
theorem Zd1{s:ij}(h:gu 8 s.A0)(hr:s.A3.length<=8):jD (uu s):=
 ⟨rfl,hr,λh=>absurd (show(2:Int)=1 from h) (by decide),λ_ M hM=>Zp4 h hM⟩
theorem XW{k:Int}(h1:k≠1)(h2:k≠2):jD (Ci k):=⟨rfl,bC _,λh=>absurd h h1,λh=>absurd h h2⟩
theorem sA(h:∀y∈l,jD y)(hx:jD x):∀y∈gv l x,jD y:=λy hy=>by
 rcases LD hy with h1|h1
 ·exact h y h1
 ·rw[h1];exact hx
theorem Cl(h:∀y∈l,jD y)(hx:∀y∈xs,jD y):∀y∈o9 l xs,jD y:=λy hy=>(OC hy).elim (h y) (hx y)
section
variable {g:dv} (h:gb g)
include h
theorem gb.rj:ep 8 g.A1.A0.Mem:=h.src.mm
theorem gb.round(hr:g.A1.B1.B9<=10):uq g.A1.B1 g.A1.A0.Mem=(⟨cO 8 false,g.A1.B1.B9+1,g.A1.B1.D6+(ie g.A1.B1.B0 0).length⟩,mG g.A1.A0.Mem (ie g.A1.B1.B0 0)):=vM h.rj h.dl h.r0 hr h.s0 h.s1
end
theorem Zdy(m l:List Int):(mG m l).map (·.Frame)=l:=by
 unfold mG;rw[List.map_map];exact List.map_id' l
def tE(c:gg)(m:List Int):List fj:=(mG m (ie c.B0 0)).map λp=>tD (c.B9+1) p.Frame p.F1
def kL(g:dv):dv:=
 { g with
   A1:={g.A1 with B1:=⟨cO 8 false,g.A1.B1.B9+1,g.A1.B1.D6+(ie g.A1.B1.B0 0).length⟩,A3:=rJ g.A1.A3 (ie g.A1.B1.B0 0) (g.A1.B1.B9+1)}
   A7:=o9 g.A7 (tE g.A1.B1 g.A1.A0.Mem)}
theorem GK(h:gb g)(hr:g.A1.B1.B9<=10):LG g=kL g:=by
 unfold LG kL tE
 rw[h.round hr]
 simp only[Zdy]
theorem XX(h:D.length=8):(ie D 0).length<=8:=by have:=Tq D 0;omega
theorem y3:∀f∈ie D 0,0<=f:=λf hf=>(Oj hf).1
theorem TN{c:gg}{m:List Int}(hd:c.B0.length=8)(h:x∈tE c m):∃f:Nat,f<8/\c.B0.getD f false=true/\x=tD (c.B9+1) f (jF m f).1:=by
 unfold tE mG at h
 obtain⟨p,hp,rfl⟩:=List.mem_map.1 h
 obtain⟨f,hf,rfl⟩:=List.mem_map.1 hp
 have h1:=Oj hf
 obtain⟨k,rfl⟩:∃k:Nat,f=k:=⟨f.toNat,by omega⟩
 exact⟨k,by omega,TM.1 hf,rfl⟩
theorem yN{c:gg}{m:List Int}(h:c.B0.getD f false=true):tD (c.B9+1) f (jF m f).1∈tE c m:=by
 unfold tE mG
 exact List.mem_map.2 ⟨_,List.mem_map.2 ⟨(f:Int),TM.2 h,rfl⟩,rfl⟩
theorem vN{c:gg}{m:List Int}(hd:c.B0.length=8):(tE c m).length<=8:=by
 unfold tE mG
 rw[eW,eW]
 exact XX hd
theorem Zq1(h:gb g)(hr:g.A1.B1.B9<=10)(hp:g.A1.A4=1->g.A1.B1.B9<=9):gb (kL g):=by
 have hs:=XX h.dl
 obtain⟨a1,a2,a3,a4,a5,a6,a7,a8,a9,kr,ku,a12,kv,ky,kz,a16,a17,a18,a19⟩:=h
 refine⟨a1,by simp[kL],by show 0<=g.A1.B1.B9+1;omega,by show g.A1.B1.B9+1<=11;omega,λe=>by have:=hp e;show g.A1.B1.B9+1<=10;omega,by show 0<=g.A1.B1.D6+_;omega,by show g.A1.B1.D6+((ie g.A1.B1.B0 0).length:Int)<=8*(g.A1.B1.B9+1);omega,TL.trans a8,a9,kr,ku,a12,kv,ky,Zki kz,Cl a16 λy hy=>?_,a17,a18,a19⟩
 obtain⟨f,hf,_,rfl⟩:=TN a2 hy
 exact Zi1 a1.mm hf
def EM(g:dv):dv:=GJ (kL g)
theorem qn(h:gb g)(hp:g.A1.A4=1):gb (EM g):=by
 have h2:=h.r2 hp
 have h':gb {g with A1:={g.A1 with A4:=2}}:=⟨h.src,h.dl,h.r0,h.r1,λe=>absurd (show(2:Int)=1 from e) (by decide),h.s0,h.s1,h.rl,h.sf,h.tc,h.tl,h.tm,h.tg,h.tf,h.fl,h.fo,h.bl,h.bo,h.st⟩
 have r:=Zq1 h' h2 (λe=>absurd (show(2:Int)=1 from e) (by decide))
 exact⟨r.src,r.dl,r.r0,r.r1,λe=>absurd (show(2:Int)=1 from e) (by decide),r.s0,r.s1,r.rl,r.sf,r.tc,r.tl,r.tm,r.tg,r.tf,LF r.fl,sA r.fo (Zd1 r.src (Nat.le_of_eq r.rl)),r.bl,r.bo,r.st⟩
theorem xn{s:ij}(h:x∈sw s):∃f:Nat,f<8/\x=tD (s.A3.getD f 0) f (jF s.A0.Mem f).1:=by
 obtain⟨f,hf,rfl⟩:=List.mem_map.1 h
 exact⟨f,List.mem_range.1 hf,rfl⟩
theorem Z5o{s:ij}(h:x∈sw s++[uu s]):(∃f:Nat,f<8/\x=tD (s.A3.getD f 0) f (jF s.A0.Mem f).1)\/x=uu s:=by
 rcases List.mem_append.1 h with h|h
 ·exact .inl (xn h)
 ·exact .inr (List.mem_singleton.1 h)
theorem gb.IV(h:gb g)(hl:l.length<=64)(ho:∀x∈l,jD x):gb {g with A7:=l}:=
 ⟨h.src,h.dl,h.r0,h.r1,h.r2,h.s0,h.s1,h.rl,h.sf,h.tc,h.tl,h.tm,h.tg,h.tf,hl,ho,h.bl,h.bo,h.st⟩
def OE(g:dv):dv:={g with A7:=o9 g.A7 (sw g.A1++[uu g.A1])}
theorem zn(h:gb g):gb (OE g):=by
 refine h.IV (l:=o9 g.A7 (sw g.A1++[uu g.A1])) (Zki h.fl) (Cl h.fo λy hy=>?_)
 rcases Z5o hy with⟨f,hf,rfl⟩|rfl
 ·exact Zi1 h.rj hf
 ·exact Zd1 h.src (by have:=h.rl;omega)
theorem GL{m:bb}(g:gu 8 m){clock:Int}(hc:U clock):∀n,gu 8 (kC m clock n)
 |0=>g
 |n+1=>EL (GL g hc n) hc
theorem Zld{s:ij}{m:bb}:(ri s m).B0.length=s.B1.B0.length/\(ri s m).B9=s.B1.B9/\(ri s m).D6=s.B1.D6:=by
 unfold ri;split
 ·exact⟨Z1t _ _,rfl,rfl⟩
 ·exact⟨rfl,rfl,rfl⟩
theorem xam(h:gb g)(hc:U clock)(n:Int):gb (iy g n clock):=by
 unfold iy
 split
 ·obtain⟨e1,e2,e3⟩:=Zld (s:=g.A1) (m:=kC g.A1.A0 clock (runN n))
  exact⟨GL h.src hc _,e1.trans h.dl,by show 0<=(ri _ _).B9;rw[e2];exact h.r0,by show(ri _ _).B9<=_;rw[e2];exact h.r1,λe=>by show(ri _ _).B9<=_;rw[e2];exact h.r2 e,by show 0<=(ri _ _).D6;rw[e3];exact h.s0,by show(ri _ _).D6<=8*(ri _ _).B9;rw[e2,e3];exact h.s1,h.rl,h.sf,h.tc,h.tl,h.tm,h.tg,h.tf,h.fl,h.fo,h.bl,h.bo,h.st⟩
 ·split
  ·rename_i hp
   have gt:=GL (h.tg (.inr hp)) hc (runN n)
   exact⟨h.src,h.dl,h.r0,h.r1,h.r2,h.s0,h.s1,h.rl,h.sf,h.tc,h.tl,gt.mm,λ_=>gt,h.tf,h.fl,h.fo,h.bl,h.bo,h.st⟩
  ·exact h
structure TO(t:ij):Prop where
 tc:t.B1.B0.length<=8
 tl:t.A3.length=8
 tm:ep 8 t.A0.Mem
 tg:t.A4=2\/t.A4=3->gu 8 t.A0
 tf:t.C0.length<=8
theorem gb.t(h:gb g):TO g.A2:=⟨h.tc,h.tl,h.tm,h.tg,h.tf⟩
theorem gb.IW(h:gb g){t:ij}(k:TO t):gb {g with A2:=t}:=
 ⟨h.src,h.dl,h.r0,h.r1,h.r2,h.s0,h.s1,h.rl,h.sf,k.tc,k.tl,k.tm,k.tg,k.tf,h.fl,h.fo,h.bl,h.bo,h.st⟩
theorem qan{t:ij}(h:TO t)(hx:jD x):TO (iO t x):=by
 unfold iO
 split
 ·exact h
 ·rename_i hp
  split
  ·rename_i hk
   split
   ·rename_i hf
    obtain⟨f0,f1,hd⟩:=hx.pg hk
    obtain⟨f,e⟩:∃f:Nat,x.Frame=f:=⟨x.Frame.toNat,by omega⟩
    have hm:ep 8 (rI t.A0.Mem x.Frame x.F1).1:=by rw[e];exact Zm6 h.tm (by omega) hd
    refine⟨h.tc,List.length_set.trans h.tl,hm,λhq=>?_,h.tf⟩
    have hq:(if t.A4=0 then(1:Int)else t.A4)=2\/(if t.A4=0 then(1:Int)else t.A4)=3:=hq
    refine Zp4 (h.tg ?_) hm
    by_cases h0:t.A4=0
    ·rw[if_pos h0]at hq;omega
    ·rw[if_neg h0]at hq;exact hq
   ·exact h
  ·split
   ·rename_i hk
    split
    ·exact h
    ·exact⟨h.tc,h.tl,h.tm,λ_=>hx.stt hk _ h.tm,hx.rl⟩
   ·split
    ·exact⟨h.tc,h.tl,h.tm,λhq=>by have hq:(4:Int)=2\/(4:Int)=3:=hq;omega,h.tf⟩
    ·exact h
theorem GM(h:mU l i):pd l i∈l:=by
 obtain⟨h0,h1⟩:=h
 have hl:i.toNat<l.length:=by omega
 have e:pd l i=l[i.toNat]:=by simp[pd,aV,hl]
 rw[e];exact eT hl
theorem OF(h:x∈ll l i):x∈l:=by
 rcases List.mem_append.1 h with h|h
 ·exact List.mem_of_mem_take h
 ·exact List.mem_of_mem_drop h
theorem yn(h:mU l i):(ll l i).length+1=l.length:=by
 obtain⟨h0,h1⟩:=h
 unfold ll
 rw[lA,aD,List.length_drop];omega
theorem vn(h:mU l i)(hx:x∈l):x∈ll l i\/x=pd l i:=by
 obtain⟨h0,h1⟩:=h
 have hl:i.toNat<l.length:=by omega
 have e:l=l.take i.toNat++l.drop i.toNat:=(List.take_append_drop ..).symm
 have e2:l.drop i.toNat=l[i.toNat]::l.drop (i.toNat+1):=aO hl
 have e3:pd l i=l[i.toNat]:=by simp[pd,aV,hl]
 rw[e,e2]at hx
 rcases List.mem_append.1 hx with h|h
 ·exact .inl (eS _ h)
 ·rcases List.mem_cons.1 h with h|h
  ·exact .inr (h.trans e3.symm)
  ·exact .inl (eX _ h)
theorem gb.EN(h:gb g)(hl:l.length<=64)(ho:∀x∈l,jD x):gb {g with C1:=l}:=
 ⟨h.src,h.dl,h.r0,h.r1,h.r2,h.s0,h.s1,h.rl,h.sf,h.tc,h.tl,h.tm,h.tg,h.tf,h.fl,h.fo,hl,ho,h.st⟩
theorem gb.F3(h:gb g)(b:Bool):(lV g b).length<=64/\∀x∈lV g b,jD x:=by
 cases b
 ·exact⟨h.fl,h.fo⟩
 ·exact⟨h.bl,h.bo⟩
theorem gb.set(h:gb g)(b:Bool)(hl:l.length<=64)(ho:∀x∈l,jD x):gb (pb g b l):=by
 cases b
 ·exact h.IV hl ho
 ·exact h.EN hl ho
theorem XY(h:gb g)(b:Bool)(i:Int):gb (Qu g b i):=by
 unfold Qu;split
 ·rename_i hi
  have:=yn hi
  have:=(h.F3 b).1
  exact h.set b (by omega) λx hx=>(h.F3 b).2 x (OF hx)
 ·exact h
theorem qo(h:gb g)(b:Bool)(i:Int):gb (Bb g b i):=by
 unfold Bb;split
 ·rename_i hi
  exact h.set b (LF (h.F3 b).1) (sA (h.F3 b).2 ((h.F3 b).2 _ (GM hi)))
 ·exact h
theorem gb.phase(h:gb g){p:Int}(hp:p=1->g.A1.B1.B9<=10):gb {g with A1:={g.A1 with A4:=p}}:=
 ⟨h.src,h.dl,h.r0,h.r1,hp,h.s0,h.s1,h.rl,h.sf,h.tc,h.tl,h.tm,h.tg,h.tf,h.fl,h.fo,h.bl,h.bo,h.st⟩
theorem zan(h:gb g)(b:Bool)(hx:jD x):gb (LI g b x):=by
 cases b
 ·exact h.IW (qan h.t hx)
 ·show gb (if g.A1.A4=2/\x.C4=3 then _ else g)
  split
  ·exact h.phase (λe=>absurd e (by decide))
  ·exact h
theorem Zcv(h:gb g)(b:Bool)(i:Int):gb (nH g b i):=by
 unfold nH;split
 ·rename_i hi
  exact zan (XY h b i) b ((h.F3 b).2 _ (GM hi))
 ·exact h
theorem qO(h:gb g)(b:Bool):gb (OD g b):=by
 cases b
 ·exact h.phase (λe=>absurd e (by decide))
 ·exact h.IW ⟨h.tc,h.tl,h.tm,λhq=>by have hq:(4:Int)=2\/(4:Int)=3:=hq;omega,h.tf⟩
def An(g:dv):Prop:=∀f:Nat,f<8->
 g.A2.A3.getD f 0<=g.A1.A3.getD f 0/\
 g.A1.A3.getD f 0<=g.A1.B1.B9/\
 (g.A1.B1.B0.getD f false=false->0<g.A1.A3.getD f 0/\(g.A2.A3.getD f 0=g.A1.A3.getD f 0->(jF g.A1.A0.Mem f).1=(jF g.A2.A0.Mem f).1))/\
 ∀x∈g.A7,x.C4=1->x.Frame=f->x.B9<=g.A1.A3.getD f 0/\(g.A1.B1.B0.getD f false=false->x.B9=g.A1.A3.getD f 0->x.F1=(jF g.A1.A0.Mem f).1)
structure Bc(nc:Bool)(m:bb)(g:dv):Prop where
 sp:g.A1.A4=1
 gn:g.A9.D5=1/\g.A1.D5=1/\g.A2.D5=1
 mc:g.A1.A0=m
 tp:g.A2.A4=0\/g.A2.A4=1\/(g.A2.A4=4/\nc=false)
 ks:∀x∈g.A7,x.C4=1
 bk:g.C1=[]
 tr:An g
structure GN(nc:Bool)(m:bb)(g:dv):Prop where
 sp:g.A1.A4=3\/(g.A1.A4=4/\nc=false)
 gn:g.A9.D5=1/\g.A1.D5=1/\g.A2.D5=1
 mc:g.A1.A4=3->g.A1.A0=m
 tp:g.A2.A4=0\/g.A2.A4=1\/g.A2.A4=4
 ks:∀x∈g.A7,x.C4=1\/x.C4=4
 bk:g.C1=[]
structure pf(nc:Bool)(m:bb)(g:dv):Prop where
 sp:g.A1.A4=2\/(g.A1.A4=4/\nc=false)
 gn:g.A9.D5=1/\g.A1.D5=1/\g.A2.D5=1
 mc:g.A1.A0=m
 cl:∀f,g.A1.B1.B0.getD f false=false
 tp:g.A2.A4=0\/g.A2.A4=1\/g.A2.A4=2\/(g.A2.A4=4/\nc=false)
 ks:∀x∈g.A7,x.C4=1\/(x.C4=2/\x.A0={m with Mem:=[]}/\x.A3=g.A1.A3)
 ts:g.A2.A4=2->g.A2.C0=g.A1.A3/\{g.A2.A0 with Mem:=[]}={m with Mem:=[]}
 bk:g.C1=[]
 tr:An g
structure GO(nc:Bool)(m:bb)(g:dv):Prop where
 sp:g.A1.A4=3\/(g.A1.A4=4/\nc=false)
 gn:g.A9.D5=2/\g.A9.D7=0/\g.A2.D5=1
 mc:g.A1.A4=3->g.A1.A0=m
 tp:g.A2.A4≠3
 bk:g.C1=[]
structure LJ(nc:Bool)(m:bb)(g:dv):Prop where
 sp:g.A1.A4=2\/g.A1.A4=4
 gn:g.A9.D5=2/\g.A9.D7=1/\g.A1.D5=1
 tp:g.A2.A4=3\/(g.A2.A4=4/\nc=false)
 mc:g.A2.A4=3->g.A2.A0=m
def Cm(nc:Bool)(m:bb)(g:dv):Prop:=Bc nc m g\/GN nc m g\/pf nc m g\/GO nc m g\/LJ nc m g
def Inv(nc:Bool)(m:bb)(g:dv):Prop:=gb g/\Cm nc m g
theorem Zse(f:Nat):(cO 8 false).getD f false=false:=by
 simp only[cX,eY]
 split<;>rfl
theorem Zlz(h:gb g)(t:An g):An (kL g):=by
 intro f hf
 obtain⟨t1,t2,t3,t4⟩:=t f hf
 have hg:(rJ g.A1.A3 (ie g.A1.B1.B0 0) (g.A1.B1.B9+1)).getD f 0=if g.A1.B1.B0.getD f false=true then g.A1.B1.B9+1 else g.A1.A3.getD f 0:=by
  rw[Zb y3 (by rw[h.rl];exact hf)]
  simp only[TM]
 show g.A2.A3.getD f 0<=(rJ _ _ _).getD f 0/\(rJ _ _ _).getD f 0<=g.A1.B1.B9+1/\((cO 8 false).getD f false=false->0<(rJ _ _ _).getD f 0/\(g.A2.A3.getD f 0=(rJ _ _ _).getD f 0->_))/\∀x∈o9 _ _,x.C4=1->x.Frame=f->x.B9<=(rJ _ _ _).getD f 0/\((cO 8 false).getD f false=false->x.B9=(rJ _ _ _).getD f 0->_)
 have r0:=h.r0
 rw[hg]
 cases hd:g.A1.B1.B0.getD f false
 ·rw[if_neg (by decide)]
  refine⟨t1,by omega,λ_=>t3 hd,λx hx k1 k2=>?_⟩
  rcases OC hx with hx|hx
  ·exact⟨(t4 x hx k1 k2).1,λ_=>(t4 x hx k1 k2).2 hd⟩
  ·obtain⟨f',TP,pj,rfl⟩:=TN h.dl hx
   have e:(f':Int)=f:=k2
   have e:f'=f:=by omega
   rw[e,hd]at pj;cases pj
 ·rw[if_pos rfl]
  refine⟨by omega,by omega,λ_=>⟨by omega,λe=>by omega⟩,λx hx k1 k2=>?_⟩
  rcases OC hx with hx|hx
  ·have:=(t4 x hx k1 k2).1
   exact⟨by omega,λ_ e=>by omega⟩
  ·obtain⟨f',TP,pj,rfl⟩:=TN h.dl hx
   have e:(f':Int)=f:=k2
   have e:f'=f:=by omega
   subst e
   exact⟨eN _,λ_ _=>rfl⟩
theorem An.pN(t:An g)(hl:∀x∈l,x.C4=1->x∈g.A7\/∃f:Nat,f<8/\x=tD (g.A1.A3.getD f 0) f (jF g.A1.A0.Mem f).1):An {g with A7:=l}:=by
 intro f hf
 obtain⟨t1,t2,t3,t4⟩:=t f hf
 refine⟨t1,t2,t3,λx hx k1 k2=>?_⟩
 rcases hl x hx k1 with hx|⟨f',TP,rfl⟩
 ·exact t4 x hx k1 k2
 ·have e:(f':Int)=f:=k2
  have e:f'=f:=by omega
  subst e
  exact⟨eN _,λ_ _=>rfl⟩
theorem xo{t:ij}(hk:x.C4=1):iO t x=t\/((t.A4=0\/t.A4=1\/t.A4=2)/\0<=x.Frame/\x.Frame<t.A3.length/\t.A3.getD x.Frame.toNat 0<x.B9/\iO t x={t with A4:=if t.A4=0 then 1 else t.A4,A0:={t.A0 with Mem:=(rI t.A0.Mem x.Frame x.F1).1},A3:=t.A3.set x.Frame.toNat x.B9}):=by
 by_cases hp:t.A4=0\/t.A4=1\/t.A4=2
 ·by_cases hc:0<=x.Frame/\x.Frame<t.A3.length/\t.A3.getD x.Frame.toNat 0<x.B9
  ·exact .inr ⟨hp,hc.1,hc.2.1,hc.2.2,by unfold iO;rw[if_neg (λh=>h hp),if_pos hk,if_pos hc]⟩
  ·exact .inl (by unfold iO;rw[if_neg (λh=>h hp),if_pos hk,if_neg hc])
 ·exact .inl (by unfold iO;rw[if_pos hp])
theorem Zax(h:gb g)(t:An g)(hx:jD x)(hk:x.C4=1)(hm:∀f:Nat,f<8->x.Frame=f->x.B9<=g.A1.A3.getD f 0/\(g.A1.B1.B0.getD f false=false->x.B9=g.A1.A3.getD f 0->x.F1=(jF g.A1.A0.Mem f).1)):An {g with A2:=iO g.A2 x}:=by
 obtain⟨f0,f1,hd⟩:=hx.pg hk
 obtain⟨k,ek⟩:∃f:Nat,x.Frame=f:=⟨x.Frame.toNat,by omega⟩
 have k8:k<8:=by omega
 intro f hf
 obtain⟨t1,t2,t3,t4⟩:=t f hf
 rcases xo (t:=g.A2) hk with e|⟨_,_,_,_,e⟩
 ·rw[e];exact⟨t1,t2,t3,t4⟩
 ·rw[e]
  obtain⟨m1,m2⟩:=hm k k8 ek
  have tl:=h.tl
  have sg:(g.A2.A3.set k x.B9).getD f 0=if k=f then x.B9 else g.A2.A3.getD f 0:=FQ (by omega)
  show(g.A2.A3.set x.Frame.toNat x.B9).getD f 0<=_/\_/\(_->_/\((g.A2.A3.set x.Frame.toNat x.B9).getD f 0=_->_=(jF (rI g.A2.A0.Mem x.Frame x.F1).1 f).1))/\_
  rw[ek,dX,sg]
  by_cases e:k=f
  ·subst e
   rw[if_pos rfl]
   exact⟨m1,t2,λd=>⟨(t3 d).1,λe2=>by rw[Zni h.tm k8 hd];exact(m2 d e2).symm⟩,t4⟩
  ·rw[if_neg e]
   exact⟨t1,t2,λd=>⟨(t3 d).1,λe2=>by rw[Zmj h.tm k8 hf (λe3=>e e3.symm) hd];exact(t3 d).2 e2⟩,t4⟩
theorem LK{t:ij}(hk:x.C4=1):(t.A4=0/\(iO t x).A4=1)\/(iO t x).A4=t.A4:=by
 rcases xo (t:=t) hk with e|⟨_,_,_,_,e⟩
 ·rw[e];exact .inr rfl
 ·rw[e]
  by_cases h:t.A4=0
  ·exact .inl ⟨h,by show(if t.A4=0 then(1:Int)else t.A4)=1;rw[if_pos h]⟩
  ·exact .inr (by show(if t.A4=0 then(1:Int)else t.A4)=_;rw[if_neg h])
theorem Zij{t:ij}(hk:x.C4=1):(iO t x).D5=t.D5/\(iO t x).C0=t.C0/\{(iO t x).A0 with Mem:=[]}={t.A0 with Mem:=[]}:=by
 rcases xo (t:=t) hk with e|⟨_,_,_,_,e⟩<;>rw[e]<;>exact⟨rfl,rfl,rfl⟩
theorem Zqe{t:ij}:(iO t x).D5=t.D5:=by
 unfold iO
 repeat' split
 all_goals rfl
theorem zo{t:ij}(h:t.A4=3\/t.A4=4):iO t x=t:=by
 unfold iO
 rw[if_pos (by omega)]
theorem xan{t:ij}(h:t.A4≠3):(iO t x).A4≠3:=by
 by_cases hk:x.C4=1
 ·rcases LK (t:=t) hk with⟨a,b⟩|b<;>omega
 ·unfold iO
  split
  ·exact h
  split
  ·split
   ·exact h
   ·show(2:Int)≠3;decide
  ·split
   ·show(4:Int)≠3;decide
   ·exact h
theorem yo{t:ij}(hk:x.C4=2)(hp:t.A4=0\/t.A4=1):iO t x={t with A4:=2,A0:={x.A0 with Mem:=t.A0.Mem},C0:=x.A3}:=by
 unfold iO
 rw[if_neg (by omega),if_neg (by omega),if_pos hk,if_neg (by omega)]
theorem vo{t:ij}(hk:x.C4=2)(hp:t.A4=2):iO t x=t:=by
 unfold iO
 rw[if_neg (by omega),if_neg (by omega),if_pos hk,if_pos hp]
theorem zaE{t:ij}(hk:x.C4=4):(iO t x).A4=4\/iO t x=t:=by
 by_cases hp:t.A4=0\/t.A4=1\/t.A4=2
 ·exact .inl (by unfold iO;rw[if_neg (λh=>h hp),if_neg (by omega),if_neg (by omega),if_pos hk])
 ·exact .inr (by unfold iO;rw[if_pos hp])
def uv(m:bb)(g:dv)(a:kG):bb:=if a.C4=1/\0<=jZ g then kC m a.F6 (runN a.N)else m
theorem LM(h:g.A1.A4=1\/g.A1.A4=3):jZ g=0:=if_pos h
theorem y4(h:g.A1.A4=2\/g.A1.A4=4)(t:g.A2.A4=3):jZ g=1:=by
 unfold jZ;rw[if_neg (by omega),if_pos t]
theorem TQ(h:g.A1.A4=2\/g.A1.A4=4)(t:g.A2.A4≠3):jZ g= -1:=by
 unfold jZ;rw[if_neg (by omega),if_neg t]
section
variable {nc:Bool} {m:bb} {g:dv}
theorem Inv.ok(h:Inv nc m g):gb g:=h.1
theorem qp(h:Inv nc m g)(hc:U clock)(n:Int):Inv nc (if 0<=jZ g then kC m clock (runN n)else m) (iy g n clock):=by
 obtain⟨ok,c⟩:=h
 refine⟨xam ok hc n,?_⟩
 rcases c with c|c|c|c|c
 ·have hr:jZ g=0:=LM (.inl c.sp)
  have e:iy g n clock={g with A1:={g.A1 with A0:=kC g.A1.A0 clock (runN n),B1:=ri g.A1 (kC g.A1.A0 clock (runN n))}}:=if_pos (.inl c.sp)
  rw[hr,if_pos (by decide),e]
  have sg:=GL ok.src hc (runN n)
  have en:ri g.A1 (kC g.A1.A0 clock (runN n))={g.A1.B1 with B0:=rh g.A1.B1.B0 (DN g.A1.A0.Mem (kC g.A1.A0 clock (runN n)).Mem)}:=if_pos c.sp
  refine .inl ⟨c.sp,c.gn,by rw[<-c.mc],c.tp,c.ks,c.bk,λf hf=>?_⟩
  obtain⟨t1,t2,t3,t4⟩:=c.tr f hf
  rw[en]
  show _/\_/\((rh g.A1.B1.B0 _).getD f false=false->_/\(_->(jF (kC g.A1.A0 clock (runN n)).Mem f).1=_))/\∀x∈g.A7,_->_->_/\((rh g.A1.B1.B0 _).getD f false=false->_->_=(jF (kC g.A1.A0 clock (runN n)).Mem f).1)
  have dl:=ok.dl
  have no:(rh g.A1.B1.B0 (DN g.A1.A0.Mem (kC g.A1.A0 clock (runN n)).Mem)).getD f false=false->g.A1.B1.B0.getD f false=false/\(jF g.A1.A0.Mem f).1=(jF (kC g.A1.A0 clock (runN n)).Mem f).1:=λhd=>by
   constructor
   ·cases h:g.A1.B1.B0.getD f false with
    |false=>rfl
    |true=>rw[TG (by omega) (.inl h)]at hd;cases hd
   ·refine xN ok.rj sg.mm hf λh=>?_
    rw[TG (by omega) (.inr h)]at hd;cases hd
  refine⟨t1,t2,λd=>?_,λx hx k1 k2=>⟨(t4 x hx k1 k2).1,λd e=>?_⟩⟩
  ·obtain⟨d1,d2⟩:=no d
   exact⟨(t3 d1).1,λe=>by rw[<-d2];exact(t3 d1).2 e⟩
  ·obtain⟨d1,d2⟩:=no d
   rw[<-d2];exact(t4 x hx k1 k2).2 d1 e
 ·rcases c.sp with sp|⟨sp,np⟩
  ·have hr:jZ g=0:=LM (.inr sp)
   have e:iy g n clock={g with A1:={g.A1 with A0:=kC g.A1.A0 clock (runN n),B1:=ri g.A1 (kC g.A1.A0 clock (runN n))}}:=if_pos (.inr sp)
   rw[hr,if_pos (by decide),e]
   exact .inr (.inl ⟨.inl sp,c.gn,λ_=>by rw[<-c.mc sp],c.tp,c.ks,c.bk⟩)
  ·have hr:jZ g= -1:=TQ (.inr sp) (by have:=c.tp;omega)
   have e:iy g n clock=g:=by unfold iy;rw[if_neg (by omega),if_neg (by have:=c.tp;omega)]
   rw[hr,if_neg (by decide),e]
   exact .inr (.inl c)
 ·have tp:=c.tp
  have sp:g.A1.A4=2\/g.A1.A4=4:=by have:=c.sp;omega
  have hr:jZ g= -1:=TQ sp (by omega)
  have e:iy g n clock=g:=by unfold iy;rw[if_neg (by omega),if_neg (by omega)]
  rw[hr,if_neg (by decide),e]
  exact .inr (.inr (.inl c))
 ·rcases c.sp with sp|⟨sp,np⟩
  ·have hr:jZ g=0:=LM (.inr sp)
   have e:iy g n clock={g with A1:={g.A1 with A0:=kC g.A1.A0 clock (runN n),B1:=ri g.A1 (kC g.A1.A0 clock (runN n))}}:=if_pos (.inr sp)
   rw[hr,if_pos (by decide),e]
   exact .inr (.inr (.inr (.inl ⟨.inl sp,c.gn,λ_=>by rw[<-c.mc sp],c.tp,c.bk⟩)))
  ·have hr:jZ g= -1:=TQ (.inr sp) c.tp
   have e:iy g n clock=g:=by unfold iy;rw[if_neg (by omega),if_neg c.tp]
   rw[hr,if_neg (by decide),e]
   exact .inr (.inr (.inr (.inl c)))
 ·rcases c.tp with tp|⟨tp,np⟩
  ·have hr:jZ g=1:=y4 c.sp tp
   have sp:=c.sp
   have e:iy g n clock={g with A2:={g.A2 with A0:=kC g.A2.A0 clock (runN n)}}:=by unfold iy;rw[if_neg (by omega),if_pos tp]
   rw[hr,if_pos (by decide),e]
   exact .inr (.inr (.inr (.inr ⟨c.sp,c.gn,.inl tp,λ_=>by rw[<-c.mc tp]⟩)))
  ·have sp:=c.sp
   have hr:jZ g= -1:=TQ sp (by omega)
   have e:iy g n clock=g:=by unfold iy;rw[if_neg (by omega),if_neg (by omega)]
   rw[hr,if_neg (by decide),e]
   exact .inr (.inr (.inr (.inr c)))
theorem OG(ok:gb g)(c:Bc nc m g):Bc nc m (kL g):=
 ⟨c.sp,c.gn,c.mc,c.tp,λx hx=>by
  rcases OC hx with hx|hx
  ·exact c.ks x hx
  ·obtain⟨f,_,_,rfl⟩:=TN ok.dl hx;rfl,c.bk,Zlz ok c.tr⟩
theorem XZ(h:Inv nc m g):Inv nc m (if g.A1.A4=1/\g.A1.B1.B9<10 then LG g else g):=by
 split
 ·rename_i hp
  obtain⟨ok,c⟩:=h
  rw[GK ok (by omega)]
  refine⟨Zq1 ok (by omega) (λ_=>by omega),?_⟩
  rcases c with c|c|c|c|c
  ·exact .inl (OG ok c)
  ·have:=c.sp;omega
  ·have:=c.sp;omega
  ·have:=c.sp;omega
  ·have:=c.sp;omega
 ·exact h
theorem X0(ok:gb g)(c:Bc nc m g):pf nc m (EM g):=by
 have r:=OG ok c
 refine⟨.inl rfl,r.gn,r.mc,λf=>Zse f,?_,λx hx=>?_,λh=>?_,r.bk,?_⟩
 ·have:=r.tp
  rcases this with p|p|p
  ·exact .inl p
  ·exact .inr (.inl p)
  ·exact .inr (.inr (.inr p))
 ·rcases LD hx with hx|hx
  ·exact .inl (r.ks x hx)
  ·rw[hx];exact .inr ⟨rfl,by rw[<-r.mc];rfl,rfl⟩
 ·have h:(kL g).A2.A4=2:=h
  have:=r.tp
  omega
 ·refine An.pN (g:={kL g with A1:={(kL g).A1 with A4:=2}}) r.tr (l:=gv (kL g).A7 (uu (kL g).A1)) λx hx k1=>?_
  rcases LD hx with hx|hx
  ·exact .inl hx
  ·rw[hx]at k1;exact absurd (show(2:Int)=1 from k1) (by decide)
theorem xO(h:Inv nc m g)(fp:Int):Inv nc m (DO g fp):=by
 unfold DO
 split
 ·rename_i hp
  obtain⟨ok,c⟩:=h
  rw[GK ok (ok.r2 hp.1)]
  refine⟨qn ok hp.1,?_⟩
  rcases c with c|c|c|c|c
  ·exact .inr (.inr (.inl (X0 ok c)))
  ·have:=c.sp;omega
  ·have:=c.sp;omega
  ·have:=c.sp;omega
  ·have:=c.sp;omega
 ·exact h
theorem pf.pN(c:pf nc m g)(hk:∀x∈l,x∈g.A7\/(∃f:Nat,f<8/\x=tD (g.A1.A3.getD f 0) f (jF g.A1.A0.Mem f).1)\/x=uu g.A1):pf nc m {g with A7:=l}:=by
 refine⟨c.sp,c.gn,c.mc,c.cl,c.tp,λx hx=>?_,c.ts,c.bk,c.tr.pN λx hx k1=>?_⟩
 ·rcases hk x hx with h|⟨f,hf,rfl⟩|rfl
  ·exact c.ks x h
  ·exact .inl rfl
  ·exact .inr ⟨rfl,by rw[<-c.mc];rfl,rfl⟩
 ·rcases hk x hx with h|h|rfl
  ·exact .inl h
  ·exact .inr h
  ·exact absurd (show(2:Int)=1 from k1) (by decide)
theorem Zhc(c:pf nc m g):pf nc m (OE g):=
 pf.pN c (l:=o9 g.A7 (sw g.A1++[uu g.A1])) λx hx=>by
  rcases OC hx with hx|hx
  ·exact .inl hx
  ·exact .inr (Z5o hx)
theorem Zru(h:Inv nc m g):Inv nc m (LH g):=by
 unfold LH
 split
 ·rename_i hp
  obtain⟨ok,c⟩:=h
  refine⟨zn ok,?_⟩
  rcases c with c|c|c|c|c
  ·have:=c.sp;omega
  ·have:=c.sp;omega
  ·exact .inr (.inr (.inl (Zhc c)))
  ·have:=c.sp;omega
  ·exact .inr (.inr (.inr (.inr ⟨c.sp,c.gn,c.tp,c.mc⟩)))
 ·exact h
theorem TR(c:Cm nc m g)(b:Bool)(hl:∀x∈l,x∈lV g b):Cm nc m (pb g b l):=by
 cases b
 ·have hl:∀x∈l,x∈g.A7:=hl
  show Cm nc m {g with A7:=l}
  rcases c with c|c|c|c|c
  ·exact .inl ⟨c.sp,c.gn,c.mc,c.tp,λx hx=>c.ks x (hl x hx),c.bk,c.tr.pN λx hx _=>.inl (hl x hx)⟩
  ·exact .inr (.inl ⟨c.sp,c.gn,c.mc,c.tp,λx hx=>c.ks x (hl x hx),c.bk⟩)
  ·exact .inr (.inr (.inl ⟨c.sp,c.gn,c.mc,c.cl,c.tp,λx hx=>c.ks x (hl x hx),c.ts,c.bk,c.tr.pN λx hx _=>.inl (hl x hx)⟩))
  ·exact .inr (.inr (.inr (.inl ⟨c.sp,c.gn,c.mc,c.tp,c.bk⟩)))
  ·exact .inr (.inr (.inr (.inr ⟨c.sp,c.gn,c.tp,c.mc⟩)))
 ·have hl:∀x∈l,x∈g.C1:=hl
  have hb:g.C1=[]->l=[]:=λe=>by
   cases l with
   |nil=>rfl
   |cons y l=>have:=hl y (eU ..);rw[e]at this;cases this
  show Cm nc m {g with C1:=l}
  rcases c with c|c|c|c|c
  ·exact .inl ⟨c.sp,c.gn,c.mc,c.tp,c.ks,hb c.bk,c.tr⟩
  ·exact .inr (.inl ⟨c.sp,c.gn,c.mc,c.tp,c.ks,hb c.bk⟩)
  ·exact .inr (.inr (.inl ⟨c.sp,c.gn,c.mc,c.cl,c.tp,c.ks,c.ts,hb c.bk,c.tr⟩))
  ·exact .inr (.inr (.inr (.inl ⟨c.sp,c.gn,c.mc,c.tp,hb c.bk⟩)))
  ·exact .inr (.inr (.inr (.inr ⟨c.sp,c.gn,c.tp,c.mc⟩)))
theorem zO(h:Inv nc m g)(b:Bool)(i:Int):Inv nc m (Qu g b i):=by
 refine⟨XY h.1 b i,?_⟩
 unfold Qu;split
 ·exact TR h.2 b λx hx=>OF hx
 ·exact h.2
theorem Zsq(h:Inv nc m g)(b:Bool)(i:Int):Inv nc m (Bb g b i):=by
 refine⟨qo h.1 b i,?_⟩
 unfold Bb;split
 ·rename_i hi
  refine TR h.2 b λx hx=>?_
  rcases LD hx with hx|hx
  ·exact hx
  ·rw[hx];exact GM hi
 ·exact h.2
theorem xp(h:Inv nc m g)(b:Bool)(hn:nc=false):Inv nc m (OD g b):=by
 obtain⟨ok,c⟩:=h
 refine⟨qO ok b,?_⟩
 cases b
 ·show Cm nc m {g with A1:={g.A1 with A4:=4}}
  have n3:({g.A1 with A4:=4}:ij).A4=3->False:=λe=>absurd (show(4:Int)=3 from e) (by decide)
  rcases c with c|c|c|c|c
  ·exact .inr (.inl ⟨.inr ⟨rfl,hn⟩,c.gn,λe=>(n3 e).elim,by have:=c.tp;show g.A2.A4=0\/g.A2.A4=1\/g.A2.A4=4;omega,λx hx=>.inl (c.ks x hx),c.bk⟩)
  ·exact .inr (.inl ⟨.inr ⟨rfl,hn⟩,c.gn,λe=>(n3 e).elim,c.tp,c.ks,c.bk⟩)
  ·exact .inr (.inr (.inl ⟨.inr ⟨rfl,hn⟩,c.gn,c.mc,c.cl,c.tp,c.ks,c.ts,c.bk,c.tr⟩))
  ·exact .inr (.inr (.inr (.inl ⟨.inr ⟨rfl,hn⟩,c.gn,λe=>(n3 e).elim,c.tp,c.bk⟩)))
  ·exact .inr (.inr (.inr (.inr ⟨.inr rfl,c.gn,c.tp,c.mc⟩)))
 ·show Cm nc m {g with A2:={g.A2 with A4:=4}}
  have n2:({g.A2 with A4:=4}:ij).A4=2->False:=λe=>absurd (show(4:Int)=2 from e) (by decide)
  have n3:({g.A2 with A4:=4}:ij).A4=3->False:=λe=>absurd (show(4:Int)=3 from e) (by decide)
  rcases c with c|c|c|c|c
  ·exact .inl ⟨c.sp,c.gn,c.mc,.inr (.inr ⟨rfl,hn⟩),c.ks,c.bk,c.tr⟩
  ·exact .inr (.inl ⟨c.sp,c.gn,c.mc,.inr (.inr rfl),c.ks,c.bk⟩)
  ·exact .inr (.inr (.inl ⟨c.sp,c.gn,c.mc,c.cl,.inr (.inr (.inr ⟨rfl,hn⟩)),c.ks,λe=>(n2 e).elim,c.bk,c.tr⟩))
  ·exact .inr (.inr (.inr (.inl ⟨c.sp,c.gn,c.mc,λe=>n3 e,c.bk⟩)))
  ·exact .inr (.inr (.inr (.inr ⟨c.sp,c.gn,.inr ⟨rfl,hn⟩,λe=>(n3 e).elim⟩)))
theorem Zrt(ok:gb g)(c:Cm nc m g)(ox:jD x)(hx:x∈g.A7):Cm nc m {g with A2:=iO g.A2 x}:=by
 rcases c with c|c|c|c|c
 ·have k:x.C4=1:=c.ks x hx
  have q:=Zij (t:=g.A2) (x:=x) k
  refine .inl ⟨c.sp,⟨c.gn.1,c.gn.2.1,q.1.trans c.gn.2.2⟩,c.mc,?_,c.ks,c.bk,?_⟩
  ·show(iO g.A2 x).A4=0\/(iO g.A2 x).A4=1\/((iO g.A2 x).A4=4/\nc=false)
   rcases LK (t:=g.A2) k with⟨a,b⟩|b
   ·exact .inr (.inl b)
   ·rw[b];exact c.tp
  ·exact Zax ok c.tr ox k (λf hf ef=>(c.tr f hf).2.2.2 x hx k ef)
 ·have k:x.C4=1\/x.C4=4:=c.ks x hx
  refine .inr (.inl ⟨c.sp,⟨c.gn.1,c.gn.2.1,Zqe.trans c.gn.2.2⟩,c.mc,?_,c.ks,c.bk⟩)
  have:=c.tp
  show(iO g.A2 x).A4=0\/(iO g.A2 x).A4=1\/(iO g.A2 x).A4=4
  rcases k with k|k
  ·rcases LK (t:=g.A2) k with⟨a,b⟩|b<;>omega
  ·rcases zaE (t:=g.A2) k with b|b
   ·omega
   ·rw[b];exact this
 ·have k:x.C4=1\/(x.C4=2/\x.A0={m with Mem:=[]}/\x.A3=g.A1.A3):=c.ks x hx
  have tp:=c.tp
  rcases k with k|⟨k,e1,e2⟩
  ·have q:=Zij (t:=g.A2) (x:=x) k
   have tr:An {g with A2:=iO g.A2 x}:=Zax ok c.tr ox k (λf hf ef=>(c.tr f hf).2.2.2 x hx k ef)
   refine .inr (.inr (.inl ⟨c.sp,⟨c.gn.1,c.gn.2.1,q.1.trans c.gn.2.2⟩,c.mc,c.cl,?_,c.ks,λh2=>?_,c.bk,tr⟩))
   ·show(iO g.A2 x).A4=0\/(iO g.A2 x).A4=1\/(iO g.A2 x).A4=2\/((iO g.A2 x).A4=4/\nc=false)
    rcases LK (t:=g.A2) k with⟨a,b⟩|b
    ·exact .inr (.inl b)
    ·rw[b];exact tp
   ·have h2:(iO g.A2 x).A4=2:=h2
    have h3:g.A2.A4=2:=by rcases LK (t:=g.A2) k with⟨a,b⟩|b<;>omega
    exact⟨q.2.1.trans (c.ts h3).1,q.2.2.trans (c.ts h3).2⟩
  ·rcases tp with tp|tp|tp|⟨tp,np⟩
   ·rw[yo k (.inl tp)]
    exact .inr (.inr (.inl ⟨c.sp,c.gn,c.mc,c.cl,.inr (.inr (.inl rfl)),c.ks,λ_=>⟨e2,by rw[e1]⟩,c.bk,c.tr⟩))
   ·rw[yo k (.inr tp)]
    exact .inr (.inr (.inl ⟨c.sp,c.gn,c.mc,c.cl,.inr (.inr (.inl rfl)),c.ks,λ_=>⟨e2,by rw[e1]⟩,c.bk,c.tr⟩))
   ·rw[vo k tp];exact .inr (.inr (.inl c))
   ·rw[zo (.inr tp)];exact .inr (.inr (.inl c))
 ·exact .inr (.inr (.inr (.inl ⟨c.sp,⟨c.gn.1,c.gn.2.1,Zqe.trans c.gn.2.2⟩,c.mc,xan c.tp,c.bk⟩)))
 ·rw[zo (by have:=c.tp;omega)];exact .inr (.inr (.inr (.inr c)))
end
section
variable {nc:Bool} {m:bb} {g:dv}
theorem Z8d(h:Inv nc m g)(b:Bool)(i:Int):Inv nc m (nH g b i):=by
 refine⟨Zcv h.1 b i,?_⟩
 obtain⟨ok,c⟩:=h
 unfold nH
 split
 ·rename_i hi
  have hx:=GM hi
  have ox:=(ok.F3 b).2 _ hx
  have el:Qu g b i=pb g b (ll (lV g b) i):=if_pos hi
  rw[el]
  cases b
  ·exact TR (Zrt ok c ox hx) false λx hx=>(OF hx:x∈g.A7)
  ·by_cases hc:(pb g true (ll (lV g true) i)).A1.A4=2/\(pd (lV g true) i).C4=3
   ·have eg:LI (pb g true (ll (lV g true) i)) true (pd (lV g true) i)={g with C1:=ll g.C1 i,A1:={g.A1 with A4:=4}}:=if_pos hc
    rw[eg]
    have hb:g.C1≠[]:=λe=>by have hx:_∈g.C1:=hx;rw[e]at hx;cases hx
    rcases c with d|d|d|d|d
    ·exact absurd d.bk hb
    ·exact absurd d.bk hb
    ·exact absurd d.bk hb
    ·exact absurd d.bk hb
    ·exact .inr (.inr (.inr (.inr ⟨.inr rfl,d.gn,d.tp,d.mc⟩)))
   ·have eg:LI (pb g true (ll (lV g true) i)) true (pd (lV g true) i)=pb g true (ll (lV g true) i):=if_neg hc
    rw[eg]
    exact TR c true λx hx=>OF hx
 ·exact c
theorem gb.store(h:gb g){s:iP}(hs:Ch s):gb {g with A9:=s}:=
 ⟨h.src,h.dl,h.r0,h.r1,h.r2,h.s0,h.s1,h.rl,h.sf,h.tc,h.tl,h.tm,h.tg,h.tf,h.fl,h.fo,h.bl,h.bo,hs⟩
theorem zp(ok:gb g)(c:pf nc m g)(hf:Cj g):g.A2.A0=m:=by
 obtain⟨h1,h2⟩:=hf
 obtain⟨f1,f2⟩:=c.ts h1
 have e:g.A2.A0.Mem=m.Mem:=by
  rw[<-c.mc]
  refine(zm ok.rj ok.tm λf hf=>?_).symm
  exact((c.tr f hf).2.2.1 (c.cl f)).2 (by rw[h2,f1])
 have q:∀a:bb,a={({a with Mem:=[]}:bb)with Mem:=a.Mem}:=λa=>rfl
 rw[q g.A2.A0,f2,e]
theorem Zit{s:iP}(h:Ch s){host seen:Int}(h0:0<=host)(e1:s.D5=1)(e2:seen=1):mn s host seen=({s with D5:=2,D7:=host},true):=by
 rw[Zom h h0,if_pos (e1.trans e2.symm),e1];rfl
theorem Zpv{s:iP}(h:Ch s){host seen:Int}(h0:0<=host)(e:s.D5≠seen):mn s host seen=(s,false):=by
 rw[Zom h h0,if_neg e]
theorem yp(ok:gb g)(c:pf nc m g)(hf:Cj g):sx g={g with A9:={g.A9 with D5:=2,D7:=1},A2:={g.A2 with A4:=3,D5:=2},C1:=gv g.C1 (Ci 3)}:=by
 unfold sx
 rw[if_pos hf,Zit ok.st (by decide) c.gn.1 c.gn.2.2,if_pos rfl]
theorem Zp8(ok:gb g)(c:pf nc m g)(hf:Cj g):gb (sx g)/\LJ nc m (sx g)/\(sx g).A2.A4=3:=by
 rw[yp ok c hf]
 obtain⟨b1,b2,b3,b4,b5⟩:=ok.st
 have hm:=zp ok c hf
 refine⟨⟨ok.src,ok.dl,ok.r0,ok.r1,ok.r2,ok.s0,ok.s1,ok.rl,ok.sf,ok.tc,ok.tl,ok.tm,λ_=>ok.tg (.inl hf.1),ok.tf,ok.fl,ok.fo,LF ok.bl,sA ok.bo (XW (by decide) (by decide)),b1,b2,by show(1:Int)<=2;decide,by show(2:Int)<=2;decide,by show(0:Int)<=1;decide⟩,?_,rfl⟩
 exact⟨by have:=c.sp;show g.A1.A4=2\/g.A1.A4=4;omega,⟨rfl,rfl,c.gn.2.1⟩,.inl rfl,λ_=>hm⟩
theorem Zt(h:Inv nc m g):Inv nc m (sx g):=by
 obtain⟨ok,c⟩:=h
 by_cases hf:Cj g
 ·rcases c with c|c|c|c|c
  ·have:=c.tp;have:=hf.1;omega
  ·have:=c.tp;have:=hf.1;omega
  ·obtain⟨a,b,_⟩:=Zp8 ok c hf
   exact⟨a,.inr (.inr (.inr (.inr b)))⟩
  ·have e:sx g={g with A2:={g.A2 with A4:=4}}:=by
    unfold sx
    rw[if_pos hf,Zpv ok.st (by decide) (by rw[c.gn.1,c.gn.2.2];decide),if_neg eZ]
   rw[e]
   refine⟨ok.IW ⟨ok.tc,ok.tl,ok.tm,λhq=>by have hq:(4:Int)=2\/(4:Int)=3:=hq;omega,ok.tf⟩,.inr (.inr (.inr (.inl ⟨c.sp,c.gn,c.mc,by show(4:Int)≠3;decide,c.bk⟩)))⟩
  ·have:=c.tp;have:=hf.1;omega
 ·have e:sx g=g:=if_neg hf
  rw[e];exact⟨ok,c⟩
theorem yO(ok:gb g)(c:Bc nc m g):gb (oi g)/\GN nc m (oi g):=by
 have e:oi g={g with A1:={g.A1 with A4:=3},A7:=gv g.A7 (Ci 4)}:=if_pos c.sp
 rw[e]
 have k:=ok.phase (p:=3) (λe=>absurd e (by decide))
 refine⟨k.IV (LF ok.fl) (sA ok.fo (XW (by decide) (by decide))),.inl rfl,c.gn,λ_=>c.mc,by have:=c.tp;show g.A2.A4=0\/g.A2.A4=1\/g.A2.A4=4;omega,λx hx=>?_,c.bk⟩
 rcases LD hx with hx|rfl
 ·exact .inl (c.ks x hx)
 ·exact .inr rfl
theorem vp(ok:gb g)(c:pf nc m g)(hp:g.A1.A4=2):oi g={g with A9:={g.A9 with D5:=2,D7:=0},A1:={g.A1 with A4:=3,D5:=2},A7:=gv g.A7 (Ci 4)}:=by
 unfold oi
 rw[if_neg (by omega),if_pos hp,Zit ok.st (by decide) c.gn.1 c.gn.2.1,if_pos rfl]
theorem vO(ok:gb g)(c:pf nc m g)(hp:g.A1.A4=2):gb (oi g)/\GO nc m (oi g)/\(oi g).A1.A4=3:=by
 rw[vp ok c hp]
 obtain⟨b1,b2,b3,b4,b5⟩:=ok.st
 refine⟨⟨ok.src,ok.dl,ok.r0,ok.r1,λe=>absurd (show(3:Int)=1 from e) (by decide),ok.s0,ok.s1,ok.rl,ok.sf,ok.tc,ok.tl,ok.tm,ok.tg,ok.tf,LF ok.fl,sA ok.fo (XW (by decide) (by decide)),ok.bl,ok.bo,b1,b2,by show(1:Int)<=2;decide,by show(2:Int)<=2;decide,by show(0:Int)<=0;decide⟩,?_,rfl⟩
 exact⟨.inl rfl,⟨rfl,rfl,c.gn.2.2⟩,λ_=>c.mc,by have:=c.tp;show g.A2.A4≠3;omega,c.bk⟩
theorem qP(ok:gb g)(c:LJ nc m g):gb (oi g)/\LJ nc m (oi g)/\(oi g).A2=g.A2:=by
 have sp:=c.sp
 by_cases hp:g.A1.A4=2
 ·have e:oi g={g with A1:={g.A1 with A4:=4}}:=by
   unfold oi
   rw[if_neg (by omega),if_pos hp,Zpv ok.st (by decide) (by rw[c.gn.1,c.gn.2.2];decide),if_neg eZ]
  rw[e]
  exact⟨ok.phase (λe=>absurd e (by decide)),⟨.inr rfl,c.gn,c.tp,c.mc⟩,rfl⟩
 ·have e:oi g=g:=by unfold oi;rw[if_neg (by omega),if_neg hp]
  rw[e];exact⟨ok,c,rfl⟩
theorem Zsm(h:Inv nc m g):Inv nc m (oi g):=by
 obtain⟨ok,c⟩:=h
 have no:g.A1.A4≠1->g.A1.A4≠2->oi g=g:=λa b=>by unfold oi;rw[if_neg a,if_neg b]
 rcases c with c|c|c|c|c
 ·obtain⟨a,b⟩:=yO ok c;exact⟨a,.inr (.inl b)⟩
 ·have:=c.sp
  rw[no (by omega) (by omega)];exact⟨ok,.inr (.inl c)⟩
 ·rcases c.sp with p|⟨p,_⟩
  ·obtain⟨a,b,_⟩:=vO ok c p;exact⟨a,.inr (.inr (.inr (.inl b)))⟩
  ·rw[no (by omega) (by omega)];exact⟨ok,.inr (.inr (.inl c))⟩
 ·have:=c.sp
  rw[no (by omega) (by omega)];exact⟨ok,.inr (.inr (.inr (.inl c)))⟩
 ·obtain⟨a,b,_⟩:=qP ok c;exact⟨a,.inr (.inr (.inr (.inr b)))⟩
theorem qq(h:Inv nc m g){a:kG}(hc:U a.F6)(hn:nc=true->a.C4≠10):Inv nc (uv m g a) (rK g a).1:=by
 unfold rK uv
 by_cases k1:a.C4=1
 ·rw[if_pos k1]
  have:=qp h hc a.N
  by_cases hr:0<=jZ g
  ·rw[if_pos ⟨k1,hr⟩];rw[if_pos hr]at this;exact this
  ·rw[if_neg (λh=>hr h.2)];rw[if_neg hr]at this;exact this
 rw[if_neg k1,if_neg (λh=>k1 h.1)]
 by_cases k2:a.C4=2
 ·rw[if_pos k2];exact XZ h
 rw[if_neg k2]
 by_cases k3:a.C4=3
 ·rw[if_pos k3];exact xO h _
 rw[if_neg k3]
 by_cases k4:a.C4=4
 ·rw[if_pos k4];exact Zru h
 rw[if_neg k4]
 by_cases k5:a.C4=5
 ·rw[if_pos k5];exact Z8d h _ _
 rw[if_neg k5]
 by_cases k6:a.C4=6
 ·rw[if_pos k6];exact zO h _ _
 rw[if_neg k6]
 by_cases k7:a.C4=7
 ·rw[if_pos k7];exact Zsq h _ _
 rw[if_neg k7]
 by_cases k8:a.C4=8
 ·rw[if_pos k8];exact Zt h
 rw[if_neg k8]
 by_cases k9:a.C4=9
 ·rw[if_pos k9];exact Zsm h
 rw[if_neg k9]
 by_cases X1:a.C4=10
 ·rw[if_pos X1]
  refine xp h _ ?_
  cases nc
  ·rfl
  ·exact absurd X1 (hn rfl)
 rw[if_neg X1];exact h
end
def Have(g:dv):Prop:=∀f:Nat,f<8->g.A2.A3.getD f 0=g.A1.A3.getD f 0\/∃x∈g.A7,x.C4=1/\x.Frame=f/\x.B9=g.A1.A3.getD f 0
def EO(g:dv):Prop:=g.A2.A4=2\/∃x∈g.A7,x.C4=2
def Le(g:dv):Prop:=∀f:Nat,f<8->g.A2.A3.getD f 0<=g.A1.A3.getD f 0/\∀x∈g.A7,x.C4=1->x.Frame=f->x.B9<=g.A1.A3.getD f 0
theorem An.le(t:An g):Le g:=λf hf=>⟨(t f hf).1,λx hx k e=>((t f hf).2.2.2 x hx k e).1⟩
theorem Zn8{t:ij}(ht:t.A3.length=8)(hp:t.A4=0\/t.A4=1\/t.A4=2)(ox:jD x)(hf:f<8):(iO t x).A3.getD f 0=if x.C4=1/\x.Frame=f/\t.A3.getD f 0<x.B9 then x.B9 else t.A3.getD f 0:=by
 by_cases hk:x.C4=1
 ·obtain⟨f0,f1,_⟩:=ox.pg hk
  obtain⟨k,ek⟩:∃k:Nat,x.Frame=k:=⟨x.Frame.toNat,by omega⟩
  by_cases hc:0<=x.Frame/\x.Frame<t.A3.length/\t.A3.getD x.Frame.toNat 0<x.B9
  ·have e:iO t x={t with A4:=if t.A4=0 then 1 else t.A4,A0:={t.A0 with Mem:=(rI t.A0.Mem x.Frame x.F1).1},A3:=t.A3.set x.Frame.toNat x.B9}:=by
    unfold iO;rw[if_neg (λh=>h hp),if_pos hk,if_pos hc]
   rw[e]
   show(t.A3.set x.Frame.toNat x.B9).getD f 0=_
   rw[FQ (by omega)]
   rw[ek,dX]at hc⊢
   by_cases e:k=f
   ·subst e
    rw[if_pos rfl,if_pos ⟨hk,rfl,hc.2.2⟩]
   ·rw[if_neg e,if_neg (λh=>e (by omega))]
  ·have e:iO t x=t:=by unfold iO;rw[if_neg (λh=>h hp),if_pos hk,if_neg hc]
   rw[e,if_neg (λh=>hc ⟨f0,by omega,by rw[h.2.1,dX];exact h.2.2⟩)]
 ·rw[if_neg (λh=>hk h.1)]
  unfold iO
  repeat' split
  all_goals first|rfl|exact absurd (by assumption) hk
structure IX(g r:dv)(x:fj):Prop where
 src:r.A1=g.A1
 sto:r.A9=g.A9
 bak:r.C1=g.C1
 sub:∀y∈r.A7,y∈g.A7
 spl:∀y∈g.A7,y∈r.A7\/y=x
 len:r.A7.length+1=g.A7.length
 mem:x∈g.A7
 tgt:r.A2=iO g.A2 x
theorem X2(hi:mU g.A7 i):IX g (nH g false i) (pd g.A7 i):=by
 have e:nH g false i={g with A7:=ll g.A7 i,A2:=iO g.A2 (pd g.A7 i)}:=by
  unfold nH Qu lV
  simp only[Bool.false_eq_true,if_false,if_pos hi]
  rfl
 rw[e]
 exact⟨rfl,rfl,rfl,λy hy=>OF hy,λy hy=>vn hi hy,yn hi,GM hi,rfl⟩
theorem xq(hi:¬mU g.A7 i):nH g false i=g:=if_neg hi
section
variable {g r:dv} {x:fj} (d:IX g r x) (ok:gb g) (hp:g.A2.A4=0\/g.A2.A4=1\/g.A2.A4=2)
include d ok hp
theorem IX.rounds(hf:f<8):r.A2.A3.getD f 0=if x.C4=1/\x.Frame=f/\g.A2.A3.getD f 0<x.B9 then x.B9 else g.A2.A3.getD f 0:=by
 rw[d.tgt];exact Zn8 ok.tl hp (ok.fo x d.mem) hf
theorem IX.le(h:Le g):Le r:=λf hf=>by
 rw[d.rounds ok hp hf,d.src]
 obtain⟨h1,h2⟩:=h f hf
 refine⟨?_,λy hy=>h2 y (d.sub y hy)⟩
 split
 ·rename_i hc;exact h2 x d.mem hc.1 hc.2.1
 ·exact h1
theorem IX.have(l:Le g)(h:Have g):Have r:=λf hf=>by
 rw[d.rounds ok hp hf,d.src]
 obtain⟨l1,l2⟩:=l f hf
 rcases h f hf with h|⟨y,hy,k1,k2,k3⟩
 ·left
  rw[if_neg];exact h
  intro hc;have:=l2 x d.mem hc.1 hc.2.1;omega
 ·rcases d.spl y hy with hy|rfl
  ·exact .inr ⟨y,hy,k1,k2,k3⟩
  ·left
   split
   ·exact k3
   ·rename_i hc
    have:¬g.A2.A3.getD f 0<y.B9:=λh=>hc ⟨k1,k2,h⟩
    omega
omit ok in
theorem IX.phase(hk:∀y∈g.A7,y.C4=1\/y.C4=2):(r.A2.A4=0\/r.A2.A4=1\/r.A2.A4=2)/\(r.A2.A4=2↔g.A2.A4=2\/x.C4=2):=by
 rw[d.tgt]
 rcases hk x d.mem with k|k
 ·rcases LK (t:=g.A2) k with⟨a,b⟩|b
  ·rw[b];omega
  ·rw[b];omega
 ·by_cases h2:g.A2.A4=2
  ·rw[vo k h2];omega
  ·rw[yo k (by omega)]
   show((2:Int)=0\/(2:Int)=1\/(2:Int)=2)/\((2:Int)=2↔_)
   omega
omit ok in
theorem IX.OH(hk:∀y∈g.A7,y.C4=1\/y.C4=2)(h:EO g):EO r:=by
 obtain⟨_,p⟩:=d.phase hp hk
 rcases h with h|⟨y,hy,k⟩
 ·exact .inl (p.2 (.inl h))
 ·rcases d.spl y hy with hy|rfl
  ·exact .inr ⟨y,hy,k⟩
  ·exact .inl (p.2 (.inr k))
end
def jg:Nat->dv->dv
 |0,g=>g
 |n+1,g=>jg n (nH g false 0)
theorem in0(h:l≠[]):mU l 0:=by
 cases l with
 |nil=>exact absurd rfl h
 |cons y l=>exact⟨by decide,by show(0:Int)<((l.length+1:Nat):Int);omega⟩
theorem Zpy:∀(n:Nat) (g:dv),nH (jg n g) false 0=jg (n+1) g
 |0,g=>rfl
 |n+1,g=>Zpy n (nH g false 0)
theorem TS{nc:Bool}{m:bb}:∀(n:Nat) {g:dv},Inv nc m g->Inv nc m (jg n g)
 |0,_,h=>h
 |n+1,_,h=>TS n (Z8d h false 0)
theorem X3:∀(n:Nat) (g:dv),(jg n g).A1=g.A1/\(jg n g).A9=g.A9/\(jg n g).C1=g.C1
 |0,g=>⟨rfl,rfl,rfl⟩
 |n +1,g=>by
  obtain⟨a,b,c⟩:=X3 n (nH g false 0)
  by_cases h:mU g.A7 0
  ·have d:=X2 h
   exact⟨a.trans d.src,b.trans d.sto,c.trans d.bak⟩
  ·have e:=xq h
   rw[e]at a b c
   show(jg n (nH g false 0)).A1=_/\(jg n (nH g false 0)).A9=_/\(jg n (nH g false 0)).C1=_
   rw[e]
   exact⟨a,b,c⟩
theorem zq:∀(n:Nat) (g:dv),(jg n g).A7.length<=g.A7.length-n
 |0,g=>Nat.le_refl _
 |n + 1,g=>by
  have:=zq n (nH g false 0)
  by_cases h:mU g.A7 0
  ·have:=(X2 h).len
   show(jg n (nH g false 0)).A7.length<=_;omega
  ·have e:=xq h
   have h0:g.A7.length=0:=by
    cases hl:g.A7 with
    |nil=>rfl
    |cons y l=>exact absurd (in0 (by rw[hl];simp)) h
   rw[e]at this
   show(jg n (nH g false 0)).A7.length<=_;rw[e];omega
theorem Zjb(h:g.A7.length<=n):(jg n g).A7=[]:=by
 have:=zq n g
 exact List.eq_nil_of_length_eq_zero (by omega)
structure Way(g:dv):Prop where
 le:Le g
 hv:Have g
 ph:g.A2.A4=0\/g.A2.A4=1\/g.A2.A4=2
 ks:∀x∈g.A7,x.C4=1\/x.C4=2
theorem Way.next(w:Way g)(ok:gb g)(i:Int):Way (nH g false i)/\(EO g->EO (nH g false i)):=by
 by_cases h:mU g.A7 i
 ·have d:=X2 h
  exact⟨⟨d.le ok w.ph w.le,d.have ok w.ph w.le w.hv,(d.phase w.ph w.ks).1,λx hx=>w.ks x (d.sub x hx)⟩,d.OH w.ph w.ks⟩
 ·rw[xq h];exact⟨w,λh=>h⟩
theorem Way.all:∀(n:Nat) {g:dv},Way g->gb g->Way (jg n g)/\(EO g->EO (jg n g))
 |0,_,w,_=>⟨w,λh=>h⟩
 |n+1,g,w,ok=>by
  obtain⟨a,b⟩:=w.next ok 0
  obtain⟨c,d⟩:=Way.all n a (Zcv ok false 0)
  exact⟨c,λh=>d (b h)⟩
theorem yq(ha:a.length=8)(hb:b.length=8)(h:∀f:Nat,f<8->a.getD f 0=b.getD f 0):a=b:=by
 refine bR (by omega) λi h1 h2=>?_
 have:=h i (by omega)
 simpa[aV,h1,h2]using this
theorem Way.done(w:Way g)(ok:gb g)(he:g.A7=[]):g.A2.A3=g.A1.A3:=
 yq ok.tl ok.rl λf hf=>by
  rcases w.hv f hf with h|⟨x,hx,_⟩
  ·exact h
  ·rw[he]at hx;cases hx
theorem Way.full{m:bb}(w:Way g)(ok:gb g)(c:pf nc m g)(hs:EO g)(he:g.A7=[]):Cj g:=by
 have hp:g.A2.A4=2:=by
  rcases hs with h|⟨x,hx,_⟩
  ·exact h
  ·rw[he]at hx;cases hx
 exact⟨hp,(w.done ok he).trans (c.ts hp).1.symm⟩
theorem pf.live{m:bb}(c:pf true m g):g.A1.A4=2/\(g.A2.A4=0\/g.A2.A4=1\/g.A2.A4=2):=by
 have h1:=c.sp
 have h2:=c.tp
 simp only[fA,and_false,or_false]at h1 h2
 exact⟨h1,h2⟩
theorem pf.ks2{m:bb}(c:pf nc m g):∀x∈g.A7,x.C4=1\/x.C4=2:=λx hx=>(c.ks x hx).elim .inl (λh=>.inr h.1)
section
variable {nc:Bool} {m:bb} {g:dv}
def Cn(m:bb)(b:List (List UInt8)):dv:=
 ⟨⟨1,m,⟨cO 8 true,0,0⟩,cO 8 0,[],1⟩,⟨0,{zM with Mem:=cO 256 0},⟨[],0,0⟩,cO 8 0,[],1⟩,[],[],⟨b,1,0⟩⟩
theorem xaE(f:Nat):(cO 8 (0:Int)).getD f 0=0:=by
 simp only[cX,eY]
 split<;>rfl
theorem vq(hf:f<8):(cO 8 true).getD f false=true:=by
 simp only[cX,eY,hf,if_true]
 rfl
theorem xP(hm:gu 8 m){b:List (List UInt8)}(hb:b.length=4)(hB:∀x∈b,x.length=128):gb (Cn m b):=
 ⟨hm,rfl,eN 0,by show(0:Int)<=11;decide,λ_=>by show(0:Int)<=10;decide,eN 0,by show(0:Int)<=8*0;decide,rfl,bC _,bC _,rfl,yM,λh=>by have h:(0:Int)=2\/(0:Int)=3:=h;omega,bC _,bC _,λx hx=>(by cases hx),bC _,λx hx=>(by cases hx),hb,hB,by show(1:Int)<=1;decide,by show(1:Int)<=2;decide,by show(0:Int)<=0;decide⟩
theorem Co(hm:gu 8 m)(b:List (List UInt8)):Bc nc m (Cn m b):=
 ⟨rfl,⟨rfl,rfl,rfl⟩,rfl,.inl rfl,λx hx=>(by cases hx),rfl,λf hf=>by
  show(cO 8 (0:Int)).getD f 0<=(cO 8 (0:Int)).getD f 0/\(cO 8 (0:Int)).getD f 0<=0/\((cO 8 true).getD f false=false->_)/\_
  rw[xaE,vq hf]
  exact⟨eN 0,eN 0,λh=>(by cases h),λx hx=>(by cases hx)⟩⟩
def uw(g:dv)(l:List kG):dv:=l.foldl (λg a=>(rK g a).1) g
theorem Zid(g:dv)(l k:List kG):uw g (l++k)=uw (uw g l) k:=fB ..
def mo(k n:Int):kG:=⟨k,n,false,0⟩
theorem Zj4:∀(n:Nat) (g:dv),uw g (cO n (mo 5 0))=jg n g
 |0,g=>rfl
 |n+1,g=>Zj4 n (nH g false 0)
theorem qaF(c:Cm nc m g)(hs:g.A9.D5=1)(hp:g.A1.A4=2):pf nc m g:=by
 rcases c with c|c|c|c|c
 ·have:=c.sp;omega
 ·have:=c.sp;omega
 ·exact c
 ·have:=c.gn.1;omega
 ·have:=c.gn.1;omega
theorem y5(c:Cm nc m g)(hp:g.A1.A4=1):Bc nc m g:=by
 rcases c with c|c|c|c|c
 ·exact c
 ·have:=c.sp;omega
 ·have:=c.sp;omega
 ·have:=c.sp;omega
 ·have:=c.sp;omega
theorem seen(h:Inv nc m g)(hr:0<=jZ g):(jZ g=0/\g.A1.A0=m)\/(jZ g=1/\g.A2.A0=m):=by
 by_cases h0:g.A1.A4=1\/g.A1.A4=3
 ·refine .inl ⟨LM h0,?_⟩
  rcases h.2 with c|c|c|c|c
  ·exact c.mc
  ·have:=c.sp;exact c.mc (by omega)
  ·have:=c.sp;omega
  ·have:=c.sp;exact c.mc (by omega)
  ·have:=c.sp;omega
 ·by_cases h1:g.A2.A4=3
  ·have e:jZ g=1:=by unfold jZ;rw[if_neg h0,if_pos h1]
   refine .inr ⟨e,?_⟩
   rcases h.2 with c|c|c|c|c
   ·have:=c.tp;omega
   ·have:=c.tp;omega
   ·have:=c.tp;omega
   ·exact absurd h1 c.tp
   ·exact c.mc h1
  ·have e:jZ g= -1:=by unfold jZ;rw[if_neg h0,if_neg h1]
   omega
theorem Zrf(h:Inv true m g)(c:pf true m g)(w:Way g)(hs:EO g)(hn:g.A7.length<=n):Inv true m (sx (jg n g))/\LJ true m (sx (jg n g))/\(sx (jg n g)).A2.A4=3:=by
 obtain⟨e1,e2,e3⟩:=X3 n g
 have hi:=TS n h
 obtain⟨w2,s2⟩:=Way.all n w h.1
 have c2:pf true m (jg n g):=qaF hi.2 (by rw[e2];exact c.gn.1) (by rw[e1];exact c.live.1)
 obtain⟨a,b,p⟩:=Zp8 hi.1 c2 (w2.full hi.1 c2 (s2 hs) (Zjb hn))
 exact⟨⟨a,.inr (.inr (.inr (.inr b)))⟩,b,p⟩
theorem zaF(h:Inv nc m g)(c:LJ nc m g)(hp:g.A2.A4=3):jZ g=1/\g.A2.A0=m/\g.A9.D5=2/\g.A9.D7=1:=⟨y4 c.sp hp,c.mc hp,c.gn.1,c.gn.2.1⟩
theorem Zcj(g:dv)(a:kG)(l:List kG):uw g (a::l)=uw (rK g a).1 l:=rfl
theorem zP(b:Nat)(g:dv):uw g (mo 2 0::mo 3 32::(cO b (mo 5 0)++[mo 8 0]))=sx (jg b (rK (rK g (mo 2 0)).1 (mo 3 32)).1):=by
 rw[Zcj,Zcj,Zid,Zj4];rfl
theorem X4(ok:gb g)(c:Bc true m g)(w:Way g)(hl:g.A7.length+8<=64):Way (kL g)/\(kL g).A7.length<=g.A7.length+8:=by
 have cr:=OG ok c
 have sl:=vN (m:=g.A1.A0.Mem) ok.dl
 have e:(kL g).A7=g.A7++tE g.A1.B1 g.A1.A0.Mem:=zN (by omega)
 have tp:g.A2.A4=0\/g.A2.A4=1\/g.A2.A4=2:=w.ph
 refine⟨⟨cr.tr.le,λf hf=>?_,tp,λx hx=>.inl (cr.ks x hx)⟩,by rw[e,lA];omega⟩
 have hg:(kL g).A1.A3.getD f 0=if g.A1.B1.B0.getD f false=true then g.A1.B1.B9+1 else g.A1.A3.getD f 0:=by
  show(rJ _ _ _).getD f 0=_
  rw[Zb y3 (by rw[ok.rl];exact hf)]
  simp only[TM]
 rw[hg,e]
 cases hd:g.A1.B1.B0.getD f false
 ·rw[if_neg eZ]
  rcases w.hv f hf with h|⟨x,hx,k⟩
  ·exact .inl h
  ·exact .inr ⟨x,eS _ hx,k⟩
 ·rw[if_pos rfl]
  exact .inr ⟨_,eX _ (yN hd),rfl,rfl,rfl⟩
theorem yP(ok:gb g)(c:Bc true m g)(w:Way g)(hl:g.A7.length+9<=64):Way (EM g)/\EO (EM g)/\(EM g).A7.length<=g.A7.length+9:=by
 obtain⟨w1,l1⟩:=X4 ok c w (by omega)
 have cb:=X0 ok c
 have e:(EM g).A7=(kL g).A7++[uu (kL g).A1]:=if_pos (by omega)
 refine⟨⟨cb.tr.le,λf hf=>?_,cb.live.2,cb.ks2⟩,.inr ⟨uu (kL g).A1,by rw[e];exact eX _ (List.mem_singleton.2 rfl),rfl⟩,by rw[e,lA,cY];omega⟩
 rw[e]
 rcases w1.hv f hf with h|⟨x,hx,k⟩
 ·exact .inl h
 ·exact .inr ⟨x,eS _ hx,k⟩
theorem Zbc(g:dv)(n clock:Int)(hp:g.A1.A4=1):(iy g n clock).A1.A3=g.A1.A3/\(iy g n clock).A1.A4=1/\(iy g n clock).A1.B1.B9=g.A1.B1.B9/\(iy g n clock).A2=g.A2/\(iy g n clock).A7=g.A7/\(iy g n clock).A9=g.A9:=by
 have e:iy g n clock={g with A1:={g.A1 with A0:=kC g.A1.A0 clock (runN n),B1:=ri g.A1 (kC g.A1.A0 clock (runN n))}}:=if_pos (.inl hp)
 rw[e]
 exact⟨rfl,hp,Zld.2.1,rfl,rfl,rfl⟩
theorem qao(w:Way g)(n clock:Int)(hp:g.A1.A4=1):Way (iy g n clock):=by
 obtain⟨e1,e2,e3,e4,e5,e6⟩:=Zbc g n clock hp
 refine⟨λf hf=>?_,λf hf=>?_,by rw[e4];exact w.ph,by rw[e5];exact w.ks⟩
 ·rw[e1,e4,e5];exact w.le f hf
 ·rw[e1,e4,e5];exact w.hv f hf
structure Calm(i:Int)(m:bb)(g:dv):Prop where
 inv:Inv true m g
 c:Bc true m g
 f:g.A7=[]
 w:Way g
 r:g.A1.B1.B9=i
theorem Bc.X5(c:Bc true m g)(hf:g.A7=[])(he:g.A2.A3=g.A1.A3):Way g:=
 ⟨c.tr.le,λf _=>.inl (by rw[he]),by have:=c.tp;simp only[fA,and_false,or_false]at this;omega,λx hx=>by rw[hf]at hx;cases hx⟩
theorem Zql(hm:gu 8 m){b:List (List UInt8)}(hb:b.length=4)(hB:∀x∈b,x.length=128):Calm 0 m (Cn m b):=
 ⟨⟨xP hm hb hB,.inl (Co hm b)⟩,Co hm b,rfl,(Co hm b).X5 rfl rfl,rfl⟩
theorem Zp3(h:Calm i m g)(hi:i<=9):(rK g (mo 2 0)).1=kL g:=by
 have hr:=h.r
 have e:(rK g (mo 2 0)).1=if g.A1.A4=1/\g.A1.B1.B9<10 then LG g else g:=rfl
 rw[e,if_pos ⟨h.c.sp,by omega⟩,GK h.inv.1 (by omega)]
def OI(n:Int):kG:=⟨1,n,false,5⟩
theorem qr(h:Calm i m g)(hi:i<=9)(n:Int):Calm (i+1) (kC m 5 (runN n)) (jg 64 (rK (rK g (mo 2 0)).1 (OI n)).1):=by
 rw[Zp3 h hi]
 have hr:=h.r
 have ok:=h.inv.1
 have i1:Inv true m (kL g):=by
  have:=XZ h.inv
  rwa [if_pos ⟨h.c.sp,by omega⟩,GK ok (by omega)]at this
 have c1:=OG ok h.c
 obtain⟨w1,l1⟩:=X4 ok h.c h.w (by rw[h.f];decide)
 rw[h.f]at l1
 have er:jZ (kL g)=0:=LM (.inl c1.sp)
 have i2:Inv true (kC m 5 (runN n)) (iy (kL g) n 5):=by
  have:=qp i1 (clock:=5) ⟨by decide,by decide⟩ n
  rwa [er,if_pos (by decide)]at this
 obtain⟨e1,e2,e3,e4,e5,e6⟩:=Zbc (kL g) n 5 c1.sp
 have c2:=y5 i2.2 e2
 have w2:=qao w1 n 5 c1.sp
 obtain⟨d1,d2,d3⟩:=X3 64 (iy (kL g) n 5)
 have i3:=TS 64 i2
 have f3:(jg 64 (iy (kL g) n 5)).A7=[]:=Zjb (by rw[e5];simp at l1;omega)
 show Calm (i+1) _ (jg 64 (iy (kL g) n 5))
 refine⟨i3,y5 i3.2 (by rw[d1];exact e2),f3,(Way.all 64 w2 i2.1).1,?_⟩
 rw[d1,e3]
 show g.A1.B1.B9+1=_
 rw[hr]
theorem zao(ok:gb g)(hp:g.A1.A4=1):(rK g (mo 3 32)).1=EM g:=by
 have e:(rK g (mo 3 32)).1=DO g 32:=rfl
 rw[e]
 unfold DO
 rw[if_pos ⟨hp,zam ok.dl ok.r0 ok.r1 ok.s0 ok.s1⟩,GK ok (ok.r2 hp)]
 rfl
def Cp:List kG:=mo 2 0::mo 3 32::(cO 64 (mo 5 0)++[mo 8 0])
theorem wy(h:Calm i m g)(hi:i<=9):Inv true m (uw g Cp)/\jZ (uw g Cp)=1/\(uw g Cp).A2.A0=m/\(uw g Cp).A9.D5=2/\(uw g Cp).A9.D7=1:=by
 have hr:=h.r
 have ok:=h.inv.1
 have i1:Inv true m (kL g):=by
  have:=XZ h.inv
  rwa [if_pos ⟨h.c.sp,by omega⟩,GK ok (by omega)]at this
 have c1:=OG ok h.c
 obtain⟨w1,l1⟩:=X4 ok h.c h.w (by rw[h.f];decide)
 rw[h.f]at l1
 have l1:(kL g).A7.length<=8:=by simpa using l1
 obtain⟨w2,s2,l2⟩:=yP i1.1 c1 w1 (by omega)
 have ok2:=qn i1.1 c1.sp
 have c2:=X0 i1.1 c1
 obtain⟨i3,c3,p3⟩:=Zrf (n:=64) ⟨ok2,.inr (.inr (.inl c2))⟩ c2 w2 s2 (by omega)
 have e:uw g Cp=sx (jg 64 (EM (kL g))):=by
  refine(zP 64 g).trans ?_
  rw[Zp3 h hi,zao i1.1 c1.sp]
 rw[e]
 exact⟨i3,zaF i3 c3 p3⟩
end
theorem bt{a b:Int}(h:(a==b)=true):a=b:=by simpa using h
theorem bf{a b:Int}(h:(a==b)=false):a≠b:=by simpa using h
theorem nt{a b:Int}(h:(a !=b)=true):a≠b:=by simpa using h
theorem LN{a b:Int}(h:(a !=b)=false):a=b:=by simpa using h
def mv(g:dv):de:=⟨g.A1,g.A2,g.A7,g.C1,g.A9⟩
theorem xr(b:Bool)(x:fj):(IY (mv g) b x).w λr=>r=mv (pb g b (gv (lV g b) x)):=by
 unfold IY
 refine ae (λhb=>aq λ_ _=>ae (λh=>?_) (λh=>bg ?_)) (λhb=>aq λ_ _=>ae (λh=>?_) (λh=>bg ?_))
 ·subst hb
  have h:(g.C1.length:Int)<64:=oY h
  refine ax (dY (by show 328*(g.C1.length+1)<=_;omega)) (bg ?_)
  have e:gv g.C1 x=g.C1++[x]:=if_pos (by omega)
  show _=mv {g with C1:=gv g.C1 x}
  rw[e]<;>rfl
 ·subst hb
  have h:¬(g.C1.length:Int)<64:=oN h
  have e:gv g.C1 x=g.C1:=if_neg (by omega)
  show _=mv {g with C1:=gv g.C1 x}
  rw[e]<;>rfl
 ·subst hb
  have h:(g.A7.length:Int)<64:=oY h
  refine ax (dY (by show 328*(g.A7.length+1)<=_;omega)) (bg ?_)
  have e:gv g.A7 x=g.A7++[x]:=if_pos (by omega)
  show _=mv {g with A7:=gv g.A7 x}
  rw[e]<;>rfl
 ·subst hb
  have h:¬(g.A7.length:Int)<64:=oN h
  have e:gv g.A7 x=g.A7:=if_neg (by omega)
  show _=mv {g with A7:=gv g.A7 x}
  rw[e]<;>rfl
theorem OJ(x:fj):(IY (mv g) false x).w λr=>r=mv {g with A7:=gv g.A7 x}:=xr false x
theorem zr(x:fj):(IY (mv g) true x).w λr=>r=mv {g with C1:=gv g.C1 x}:=xr true x
theorem Zch{c:kY}(h0:0<=c.Frame)(h1:c.Frame<g.A1.A3.length):(OK (mv g) c).w λr=>r=mv {g with A7:=gv g.A7 (tD (g.A1.A3.getD c.Frame.toNat 0) c.Frame c.F1)}:=by
 unfold OK
 refine ae (λ_=>ae (λ_=>ax ?_ (cv (OJ (tD (g.A1.A3.getD c.Frame.toNat 0) c.Frame c.F1)) λx hx=>bg hx)) (λh=>absurd h1 (oN h))) (λh=>absurd h0 (oN h))
 show(bX _ _&&bN _ _&&decide _)=true
 rw[dY (show 0<=c.Frame/\c.Frame<((mv g).A1.A3.length:Int) from⟨h0,h1⟩)];rfl
theorem Z4v(h:g.A1.A3.length=8):(OL (mv g)).w λr=>r=mv {g with A7:=gv g.A7 (uu g.A1)}:=by
 unfold OL
 refine c7 (show g.A1.A3.length<=1000000000000 by omega) (aq λx0 h0=>?_)
 have h0:x0=g.A1.A3:=h0
 subst h0
 exact cv (OJ (uu g.A1)) λx hx=>bg hx
theorem xao(b:Bool):(TT (mv g) b).w λr=>r=mv (OD g b):=by
 unfold TT
 refine ae (λh=>bg ?_) (λh=>bg ?_)<;>(subst h;rfl)
theorem vP(h:Ch g.A9)(h0:0<=host):(OM (mv g) host).w λr=>r=if(mn g.A9 host g.A1.D5).2=true then(true,mv {g with A9:=(mn g.A9 host g.A1.D5).1,A1:={g.A1 with A4:=3,D5:=(mn g.A9 host g.A1.D5).1.D5}})else(false,mv {g with A1:={g.A1 with A4:=4}}):=by
 unfold OM
 have c:=Tree.pp (Zm h h0 g.A1.D5)
 refine c7 c.1 (aq λx hx=>?_)
 have hx:x=mn g.A9 host g.A1.D5:=hx
 subst hx
 refine ae (λhb=>bg ?_) (λhb=>bg ?_)
 ·have hb:(mn g.A9 host g.A1.D5).2=false:=by simpa using hb
  rw[if_neg (by rw[hb];decide)];rfl
 ·have hb:(mn g.A9 host g.A1.D5).2=true:=by simpa using hb
  rw[if_pos hb];rfl
theorem qQ(h:Ch g.A9)(h0:0<=host):(ON (mv g) host).w λr=>r=if(mn g.A9 host g.A2.D5).2=true then(true,mv {g with A9:=(mn g.A9 host g.A2.D5).1,A2:={g.A2 with A4:=3,D5:=(mn g.A9 host g.A2.D5).1.D5}})else(false,mv {g with A2:={g.A2 with A4:=4}}):=by
 unfold ON
 have c:=Tree.pp (Zm h h0 g.A2.D5)
 refine c7 c.1 (aq λx hx=>?_)
 have hx:x=mn g.A9 host g.A2.D5:=hx
 subst hx
 refine ae (λhb=>bg ?_) (λhb=>bg ?_)
 ·have hb:(mn g.A9 host g.A2.D5).2=false:=by simpa using hb
  rw[if_neg (by rw[hb];decide)];rfl
 ·have hb:(mn g.A9 host g.A2.D5).2=true:=by simpa using hb
  rw[if_pos hb];rfl
theorem xQ(h:Ch g.A9):(OO (mv g)).w λr=>r=mv (oi g):=by
 unfold OO
 refine ae (λh1=>?_) (λh1=>ae (λh2=>?_) (λh2=>bg ?_))
 ·have h1:g.A1.A4=1:=bt h1
  have e:oi g={g with A1:={g.A1 with A4:=3},A7:=gv g.A7 (Ci 4)}:=if_pos h1
  rw[e]
  exact cv (OJ (g:={g with A1:={g.A1 with A4:=3}}) (Ci 4)) λx hx=>bg hx
 ·have h1:¬g.A1.A4=1:=bf h1
  have h2:g.A1.A4=2:=bt h2
  refine cv (vP h (eN 0)) λy hy=>?_
  unfold oi
  rw[if_neg h1,if_pos h2]
  by_cases hb:(mn g.A9 0 g.A1.D5).2=true
  ·rw[if_pos hb]at hy⊢
   subst hy
   exact ae (λh=>by cases h) λ_=>cv (OJ (g:={g with A9:=(mn g.A9 0 g.A1.D5).1,A1:={g.A1 with A4:=3,D5:=(mn g.A9 0 g.A1.D5).1.D5}}) (Ci 4)) λx hx=>bg hx
  ·rw[if_neg hb]at hy⊢
   subst hy
   exact ae (λ_=>bg rfl) λh=>by cases h
 ·have h1:¬g.A1.A4=1:=bf h1
  have h2:¬g.A1.A4=2:=bf h2
  unfold oi
  rw[if_neg h1,if_neg h2]
theorem qap(ok:gb g)(ox:jD x)(hk:x.C4=1)(hp:g.A2.A4=0\/g.A2.A4=1\/g.A2.A4=2):(OP (mv g) x).w λr=>r=mv {g with A2:=iO g.A2 x}:=by
 obtain⟨f0,f1,hd⟩:=ox.pg hk
 obtain⟨k,ek⟩:∃f:Nat,x.Frame=f:=⟨x.Frame.toNat,by omega⟩
 have k8:k<8:=by omega
 have tl:=ok.tl
 have sp:Q7 g.A2.A0.Mem x.Frame x.F1:=by rw[ek];exact Zh9 ok.tm k8 hd
 have s2:(rI g.A2.A0.Mem x.Frame x.F1).2=true:=by rw[ek];exact(TJ ok.tm k8 hd).1
 have cn:∀l:List Int,l.length=8->(bX 1 1&&bN 0 1&&decide (0<=x.Frame/\x.Frame<(l.length:Int)))=true:=λl hl=>by
  rw[dY (show 0<=x.Frame/\x.Frame<(l.length:Int) by omega)];rfl
 unfold OP
 refine ae (λh=>absurd (oY h) (by omega)) λ_=>ae (λh=>absurd (oY h) (by show¬x.Frame>=(g.A2.A3.length:Int);omega)) λ_=>ax (cn _ tl) (ae (λh=>bg ?_) λh=>c7 sp (aq λy hy=>?_))
 ·have h:x.B9<=g.A2.A3.getD x.Frame.toNat 0:=oY h
  have e:iO g.A2 x=g.A2:=by
   unfold iO
   rw[if_neg (λh=>h hp),if_pos hk,if_neg (λh=>by have:=h.2.2;omega)]
  rw[e]
 ·have h:¬x.B9<=g.A2.A3.getD x.Frame.toNat 0:=oN h
  have hy:y=rI g.A2.A0.Mem x.Frame x.F1:=hy
  subst hy
  have e:iO g.A2 x={g.A2 with A4:=if g.A2.A4=0 then 1 else g.A2.A4,A0:={g.A2.A0 with Mem:=(rI g.A2.A0.Mem x.Frame x.F1).1},A3:=g.A2.A3.set x.Frame.toNat x.B9}:=by
   unfold iO
   rw[if_neg (λh=>h hp),if_pos hk,if_pos ⟨by omega,by omega,by omega⟩]
  rw[e]
  refine ae (λhb=>?_) λ_=>ax (cn _ tl) (ae (λh0=>bg ?_) λh0=>bg ?_)
  ·rw[s2]at hb;cases hb
  ·have h0:g.A2.A4=0:=bt h0
   rw[if_pos h0];rfl
  ·have h0:¬g.A2.A4=0:=bf h0
   rw[if_neg h0];rfl
theorem yr(ok:gb g)(ox:jD x):(OQ (mv g) x).w λr=>r=mv {g with A2:=iO g.A2 x}:=by
 have leaf:(g.A2.A4=0\/g.A2.A4=1\/g.A2.A4=2)->∀(k1:x.C4≠1),(x.C4=2->g.A2.A4=2->iO g.A2 x=g.A2)/\(x.C4=2->g.A2.A4≠2->iO g.A2 x={g.A2 with A4:=2,A0:={x.A0 with Mem:=g.A2.A0.Mem},C0:=x.A3})/\(x.C4≠2->x.C4=4->iO g.A2 x={g.A2 with A4:=4})/\(x.C4≠2->x.C4≠4->iO g.A2 x=g.A2):=λhp k1=>by
  refine⟨λk p=>?_,λk p=>?_,λk p=>?_,λk p=>?_⟩
  ·unfold iO;rw[if_neg (λh=>h hp),if_neg k1,if_pos k,if_pos p]
  ·unfold iO;rw[if_neg (λh=>h hp),if_neg k1,if_pos k,if_neg p]
  ·unfold iO;rw[if_neg (λh=>h hp),if_neg k1,if_neg k,if_pos p]
  ·unfold iO;rw[if_neg (λh=>h hp),if_neg k1,if_neg k,if_neg p]
 unfold OQ
 refine ae (λh0=>ae (λh1=>ae (λh2=>bg ?_) (λh2=>?_)) (λh1=>?_)) (λh0=>?_)
 ·have h0:g.A2.A4≠0:=nt h0
  have h1:g.A2.A4≠1:=nt h1
  have h2:g.A2.A4≠2:=nt h2
  have e:iO g.A2 x=g.A2:=by unfold iO;rw[if_pos (by omega)]
  rw[e]
 all_goals
  have hp:g.A2.A4=0\/g.A2.A4=1\/g.A2.A4=2:=by
   first
    |exact .inr (.inr (LN h2))
    |exact .inr (.inl (LN h1))
    |exact .inl (LN h0)
  refine ae (λk=>cv (qap ok ox (bt k) hp) λy hy=>bg hy) (λk1=>?_)
  have k1:x.C4≠1:=bf k1
  obtain⟨q1,q2,q3,q4⟩:=leaf hp k1
  refine ae (λk2=>?_) (λk2=>?_)
  ·have k2:x.C4=2:=bt k2
   refine ae (λp=>bg ?_) (λp=>bg ?_)
   ·rw[q1 k2 (bt p)]
   ·rw[q2 k2 (bf p)];rfl
  ·have k2:x.C4≠2:=bf k2
   refine ae (λp=>bg ?_) (λp=>bg ?_)
   ·rw[q3 k2 (bt p)];rfl
   ·rw[q4 k2 (bf p)]
theorem Zmh(R l:List Int)(x v:Int):rJ R (l++[x]) v=(rJ R l v).set x.toNat v:=by
 unfold rJ;rw[fB];rfl
theorem X6(l k:List fj)(x:fj):o9 l (k++[x])=gv (o9 l k) x:=by
 unfold o9;rw[fB];rfl
theorem OR{α:Type}{l:List α}{i:Nat}(h:i<l.length):l.take (i+1)=l.take i++[l[i]]:=by
 rw[List.take_add_one,aI h];rfl
theorem OS{n i:Nat}(h:i<n):(bX 2 2&&bN 0 2&&decide (0<=(i:Int)/\(i:Int)<(n:Int)))=true:=by
 rw[dY (by omega)];rfl
def DP(g:dv)(i:Nat):dv:=
 { g with
   A1:={g.A1 with B1:=⟨cO 8 false,g.A1.B1.B9+1,g.A1.B1.D6+(ie g.A1.B1.B0 0).length⟩,A3:=rJ g.A1.A3 ((ie g.A1.B1.B0 0).take i) (g.A1.B1.B9+1)}
   A7:=o9 g.A7 ((tE g.A1.B1 g.A1.A0.Mem).take i)}
theorem Zon(ok:gb g)(hr:g.A1.B1.B9<=10):(OT (mv g)).w λr=>r=mv (kL g):=by
 obtain⟨r1,r2⟩:=qm (c:=g.A1.B1) (m:=g.A1.A0.Mem) (by have:=ok.dl;omega)
 rw[ok.round hr]at r2
 have sl:=XX ok.dl
 have rl:=ok.rl
 have lS:(tE g.A1.B1 g.A1.A0.Mem).length=(ie g.A1.B1.B0 0).length:=by unfold tE mG;rw[eW,eW]
 have lC:(mG g.A1.A0.Mem (ie g.A1.B1.B0 0)).length=(ie g.A1.B1.B0 0).length:=by unfold mG;rw[eW]
 unfold OT
 refine c7 r1 (aq λx0 h0=>?_)
 have h0:x0=IT g.A1.B1 g.A1.A0.Mem:=h0
 have h0:=h0.trans r2
 subst h0
 refine fk (inv:=λz:Int×de=>∃i:Nat,z.1=i/\i<=(ie g.A1.B1.B0 0).length/\z.2=mv (DP g i)) (μ:=Qd7 (mv g)) ⟨0,rfl,bC _,rfl⟩ (cN _) ?_
 rintro⟨_,y⟩ ⟨i,rfl,hi,hy⟩
 simp only at hy
 subst hy
 refine ae (λbd=>?_) (λgx=>bg ?_)
 ·have bd:(i:Int)<((mG g.A1.A0.Mem (ie g.A1.B1.B0 0)).length:Int):=oY bd
  have hl:i<(ie g.A1.B1.B0 0).length:=by rw[lC]at bd;omega
  have ew:wrap .i64 ((i:Int)+1)=((i+1:Nat):Int):=by rw[wi (by omega) (by omega)];omega
  have eg:(mG g.A1.A0.Mem (ie g.A1.B1.B0 0)).getD (dA (i:Int)) (RK.eh RK.bn)=⟨(ie g.A1.B1.B0 0)[i],(jF g.A1.A0.Mem (ie g.A1.B1.B0 0)[i]).1⟩:=by
   simp[aV,mG,hl]
  have hm:=Oj (eT hl)
  have dl:=ok.dl
  have lp:(DP g i).A1.A3.length=8:=TL.trans rl
  generalize hf:(ie g.A1.B1.B0 0)[i]=f at eg hm
  have f0:0<=f:=hm.1
  have f8:f<8:=by omega
  have X7:(f:Int)<(((mv (DP g i)).A1.A3).length:Int):=by show f<((DP g i).A1.A3.length:Int);omega
  have hlC:i<(mG g.A1.A0.Mem (ie g.A1.B1.B0 0)).length:=by rw[lC];exact hl
  refine ax (OS hlC) ?_
  rw[eg]
  refine ae (λ_=>ae (λ_=>ax ?_ ?_) (λh=>absurd X7 (oN h))) (λh=>absurd f0 (oN h))
  ·show(bX _ _&&bN _ _&&decide (0<=f/\f<_))=true
   rw[dY ⟨f0,X7⟩];rfl
  ·have e1:∀l:List Int,l.length=8->(l.set f.toNat (g.A1.B1.B9+1)).getD f.toNat 0=g.A1.B1.B9+1:=λl hl=>by rw[FQ (by omega),if_pos rfl]
   refine cv (Zch (g:={DP g i with A1:={(DP g i).A1 with A3:=(DP g i).A1.A3.set f.toNat (g.A1.B1.B9+1)}}) (c:=⟨f,(jF g.A1.A0.Mem f).1⟩) f0 (by show f<(((DP g i).A1.A3.set f.toNat (g.A1.B1.B9+1)).length:Int);rw[dC];exact X7)) λy hy=>ez ⟨⟨i+1,ew,by omega,?_⟩,?_⟩
   ·rw[hy]
    show mv _=mv _
    congr 1
    have t1:(ie g.A1.B1.B0 0).take (i+1)=(ie g.A1.B1.B0 0).take i++[f]:=by rw[OR hl,hf]
    have t2:(tE g.A1.B1 g.A1.A0.Mem).take (i+1)=(tE g.A1.B1 g.A1.A0.Mem).take i++[tD (g.A1.B1.B9+1) f (jF g.A1.A0.Mem f).1]:=by
     rw[OR (by omega)]
     congr 2
     have:(tE g.A1.B1 g.A1.A0.Mem)[i]'(by omega)=tD (g.A1.B1.B9+1) (ie g.A1.B1.B0 0)[i] (jF g.A1.A0.Mem (ie g.A1.B1.B0 0)[i]).1:=by simp[tE,mG]
     rw[this,hf]
    unfold DP
    rw[t1,t2,Zmh,X6]
    show dv.mk _ _ (gv _ (tD ((List.set _ f.toNat _).getD f.toNat 0) f _)) _ _=_
    rw[e1 _ (TL.trans rl)]
   ·show(_-wrap .i64 ((i:Int)+1)).toNat<(_-(i:Int)).toNat
    rw[ew]
    show(((IT g.A1.B1 g.A1.A0.Mem).2.length:Int)-((i+1:Nat):Int)).toNat<_
    show _<(((IT g.A1.B1 g.A1.A0.Mem).2.length:Int)-(i:Int)).toNat
    rw[r2]
    show(((mG g.A1.A0.Mem (ie g.A1.B1.B0 0)).length:Int)-((i+1:Nat):Int)).toNat<(((mG g.A1.A0.Mem (ie g.A1.B1.B0 0)).length:Int)-(i:Int)).toNat
    rw[lC];omega
 ·have gx:¬(i:Int)<((mG g.A1.A0.Mem (ie g.A1.B1.B0 0)).length:Int):=oN gx
  have hi2:i=(ie g.A1.B1.B0 0).length:=by rw[lC]at gx;omega
  show mv _=mv _
  congr 1
  unfold DP kL
  rw[fC (by omega),fC (by omega)]
theorem zap(ok:gb g)(fp:Int):(OU (mv g) fp).w λr=>r=mv (DO g fp):=by
 unfold OU
 refine ae (λh=>bg ?_) (λh=>?_)
 ·have h:¬g.A1.A4=1:=nt h
  unfold DO
  rw[if_neg (λq=>h q.1)]
 ·have h:g.A1.A4=1:=LN h
  obtain⟨s1,s2⟩:=vZ (c:=g.A1.B1) (fp:=fp) (by have:=ok.dl;omega)
  refine c7 s1 (aq λx0 h0=>?_)
  have h0:x0=IQ g.A1.B1 fp:=h0
  subst h0
  refine ae (λhb=>bg ?_) (λhb=>?_)
  ·have hb:IQ g.A1.B1 fp=false:=by simpa using hb
   unfold DO
   rw[if_neg (λq=>by rw[hb]at q;cases q.2)]
  ·have hb:IQ g.A1.B1 fp=true:=by simpa using hb
   have e:DO g fp=EM g:=by
    unfold DO
    rw[if_pos ⟨h,hb⟩,GK ok (ok.r2 h)];rfl
   rw[e]
   refine cv (Zon ok (ok.r2 h)) λx1 h1=>?_
   subst h1
   have rl:(kL g).A1.A3.length=8:=TL.trans ok.rl
   exact cv (Z4v (g:={kL g with A1:={(kL g).A1 with A4:=2}}) rl) λy hy=>bg hy
theorem vr(ok:gb g):(OV (mv g)).w λr=>r=mv (LH g):=by
 unfold OV
 refine ae (λh=>bg ?_) (λh=>?_)
 ·have h:¬g.A1.A4=2:=nt h
  unfold LH
  rw[if_neg h]
 ·have h:g.A1.A4=2:=LN h
  have e:LH g=OE g:=if_pos h
  rw[e]
  have mp:jQ g.A1.A0.Mem=((8:Nat):Int):=Lz (P:=8) ok.rj.len (by decide)
  refine aq λx0 h0=>?_
  have h0:x0=((8:Nat):Int):=h0.trans mp
  subst h0
  refine fk (inv:=λz:Int×de=>∃i:Nat,z.1=i/\i<=8/\z.2=mv {g with A7:=o9 g.A7 ((sw g.A1).take i)}) (μ:=Qc (mv g)) ⟨0,rfl,bC _,rfl⟩ (cN _) ?_
  rintro⟨_,y⟩ ⟨i,rfl,hi,hy⟩
  simp only at hy
  subst hy
  have lP:=vm g.A1
  refine ae (λbd=>?_) (λgx=>?_)
  ·have bd:(i:Int)<((8:Nat):Int):=oY bd
   have i8:i<8:=by omega
   have ew:wrap .i64 ((i:Int)+1)=((i+1:Nat):Int):=by rw[wi (by omega) (by omega)];omega
   refine c7 (Zq4 (P:=8) ok.rj.len (by decide) (by omega) (by omega)) (aq λx1 h1=>?_)
   have h1:x1=jF g.A1.A0.Mem i:=h1
   subst h1
   have rl:=ok.rl
   refine ae (λ_=>cv (Zch (g:={g with A7:=o9 g.A7 ((sw g.A1).take i)}) (c:=⟨i,(jF g.A1.A0.Mem i).1⟩) (by show(0:Int)<=(i:Int);omega) (by show(i:Int)<(g.A1.A3.length:Int);omega)) λy hy=>ez ⟨⟨i+1,ew,by omega,?_⟩,?_⟩) (λhb=>?_)
   ·rw[hy]
    show mv _=mv _
    congr 1
    have t:(sw g.A1).take (i+1)=(sw g.A1).take i++[tD (g.A1.A3.getD i 0) i (jF g.A1.A0.Mem i).1]:=by
     rw[OR (by omega)]
     congr 2
     unfold sw
     rw[List.getElem_map,List.getElem_range]
    rw[t,X6]
    rfl
   ·show(_-wrap .i64 ((i:Int)+1)).toNat<(_-(i:Int)).toNat
    rw[ew]
    show(jQ g.A1.A0.Mem-((i+1:Nat):Int)).toNat<(jQ g.A1.A0.Mem-(i:Int)).toNat
    rw[mp];omega
   ·exfalso
    have:(jF g.A1.A0.Mem i).2=true:=(IU ok.rj i8).2
    rw[this]at hb;cases hb
  ·have gx:¬(i:Int)<((8:Nat):Int):=oN gx
   have i8:i=8:=by omega
   subst i8
   have e3:(sw g.A1).take 8=sw g.A1:=fC (by omega)
   have e2:OE g={g with A7:=gv (o9 g.A7 (sw g.A1)) (uu g.A1)}:=by
    unfold OE;rw[X6]
   rw[e2,e3]
   generalize sw g.A1=L
   exact cv (Z4v (g:={g with A7:=o9 g.A7 L}) ok.rl) λy hy=>bg hy
theorem TU(n:Int):(if 64<(if 0>n then 0 else n)then 64 else if 0>n then 0 else n)=((runN n:Nat):Int):=by
 unfold runN
 split<;>split<;>omega
theorem xaF(ok:gb g)(hc:U clock)(n:Int):(OW (mv g) n clock).w λr=>r=mv (iy g n clock):=by
 have rn:runN n<=64:=by unfold runN;omega
 have er:Q3 g=jZ g:=by
  unfold jZ
  simp only[Q3,TV,Tree.m]
  by_cases h1:g.A1.A4=1
  ·simp[h1]
  ·by_cases h3:g.A1.A4=3
   ·simp[h3]
   ·by_cases ht:g.A2.A4=3
    ·simp[beq_false_of_ne h1,beq_false_of_ne h3,h1,h3,ht]
    ·simp[beq_false_of_ne h1,beq_false_of_ne h3,beq_false_of_ne ht,h1,h3,ht]
 unfold OW
 refine aq λx0 h0=>?_
 have h0:x0=jZ g:=h0.trans er
 subst h0
 refine ae (λh=>bg ?_) (λh=>ae (λh1=>?_) (λh1=>?_))
 ·have h:jZ g= -1:=bt h
  unfold jZ at h
  unfold iy
  split at h
  ·omega
  ·rename_i q1
   split at h
   ·omega
   ·rename_i q2
    rw[if_neg q1,if_neg q2]
 ·have h1:jZ g=1:=bt h1
  have q:¬(g.A1.A4=1\/g.A1.A4=3)/\g.A2.A4=3:=by
   unfold jZ at h1
   split at h1
   ·omega
   ·rename_i q1
    split at h1
    ·rename_i q2;exact⟨q1,q2⟩
    ·omega
  have gt:=ok.tg (.inr q.2)
  have e:iy g n clock={g with A2:={g.A2 with A0:=kC g.A2.A0 clock (runN n)}}:=by unfold iy;rw[if_neg q.1,if_pos q.2]
  rw[e]
  refine fk (inv:=λz:Int×bb=>∃i:Nat,z.1=i/\i<=runN n/\z.2=kC g.A2.A0 clock i) (μ:=λz=>(1000-z.1).toNat) ⟨0,rfl,bC _,rfl⟩ (by simp only[TW];omega) ?_
  rintro⟨_,y⟩ ⟨i,rfl,hi,hy⟩
  simp only at hy
  subst hy
  refine ae (λbd=>?_) (λgx=>ae (λhp=>?_) (λhp=>bg ?_))
  ·have bd:(i:Int)<(if 64<(if 0>n then 0 else n)then 64 else if 0>n then 0 else n):=oY bd
   rw[TU]at bd
   have ew:wrap .i64 ((i:Int)+1)=((i+1:Nat):Int):=by rw[wi (by omega) (by omega)];omega
   refine c7 (Z6h (GL gt hc i) hc) (aq λx1 h1=>ez ⟨⟨i+1,ew,by omega,?_⟩,by show(1000-wrap .i64 ((i:Int)+1)).toNat<(1000-(i:Int)).toNat;rw[ew];omega⟩)
   show x1.1=_
   rw[h1];rfl
  ·exfalso
   have hp:g.A2.A4=1:=bt hp
   omega
  ·have gx:¬(i:Int)<(if 64<(if 0>n then 0 else n)then 64 else if 0>n then 0 else n):=oN gx
   rw[TU]at gx
   have:i=runN n:=by omega
   subst this
   rfl
 ·have hn:¬jZ g= -1:=bf h
  have h1:¬jZ g=1:=bf h1
  have q:g.A1.A4=1\/g.A1.A4=3:=by
   unfold jZ at hn h1
   split at hn
   ·assumption
   ·rename_i q1
    rw[if_neg q1]at h1
    split at hn
    ·rename_i q2;rw[if_pos q2]at h1;exact absurd rfl h1
    ·exact absurd rfl hn
  have e:iy g n clock={g with A1:={g.A1 with A0:=kC g.A1.A0 clock (runN n),B1:=ri g.A1 (kC g.A1.A0 clock (runN n))}}:=if_pos q
  rw[e]
  refine fk (inv:=λz:Int×bb=>∃i:Nat,z.1=i/\i<=runN n/\z.2=kC g.A1.A0 clock i) (μ:=λz=>(1000-z.1).toNat) ⟨0,rfl,bC _,rfl⟩ (by simp only[TW];omega) ?_
  rintro⟨_,y⟩ ⟨i,rfl,hi,hy⟩
  simp only at hy
  subst hy
  refine ae (λbd=>?_) (λgx=>?_)
  ·have bd:(i:Int)<(if 64<(if 0>n then 0 else n)then 64 else if 0>n then 0 else n):=oY bd
   rw[TU]at bd
   have ew:wrap .i64 ((i:Int)+1)=((i+1:Nat):Int):=by rw[wi (by omega) (by omega)];omega
   refine c7 (Z6h (GL ok.src hc i) hc) (aq λx1 h1=>ez ⟨⟨i+1,ew,by omega,?_⟩,by show(1000-wrap .i64 ((i:Int)+1)).toNat<(1000-(i:Int)).toNat;rw[ew];omega⟩)
   show x1.1=_
   rw[h1];rfl
  ·have gx:¬(i:Int)<(if 64<(if 0>n then 0 else n)then 64 else if 0>n then 0 else n):=oN gx
   rw[TU]at gx
   have hi:i=runN n:=by omega
   subst hi
   have sg:=GL ok.src hc (runN n)
   refine ae (λhp=>?_) (λhp=>bg ?_)
   ·have hp:g.A1.A4=1:=bt hp
    obtain⟨c1,c2,_⟩:=Zic ok.rj sg.mm
    refine c7 c1 (aq λx2 h2=>?_)
    have h2:x2=DN g.A1.A0.Mem (kC g.A1.A0 clock (runN n)).Mem:=h2
    rw[<-h2]at c2
    obtain⟨n1,n2⟩:=qaE (c:=g.A1.B1) (l:=x2) (by have:=ok.dl;omega) (by omega)
    refine c7 n1 (aq λx3 h3=>bg ?_)
    have h3:x3=TA g.A1.B1 x2:=h3
    rw[n2,h2]at h3
    subst h3
    have en:ri g.A1 (kC g.A1.A0 clock (runN n))={g.A1.B1 with B0:=rh g.A1.B1.B0 (DN g.A1.A0.Mem (kC g.A1.A0 clock (runN n)).Mem)}:=if_pos hp
    rw[en];rfl
   ·have hp:¬g.A1.A4=1:=bf hp
    have en:ri g.A1 (kC g.A1.A0 clock (runN n))=g.A1.B1:=if_neg hp
    rw[en];rfl
theorem X8(ok:gb g)(b:Bool)(i:Int):(IZ (mv g) b i).w λr=>(mU (lV g b) i->r=(pd (lV g b) i,true,mv (Qu g b i)))/\(¬mU (lV g b) i->r.2.1=false/\r.2.2=mv g):=by
 have cn:∀l:List fj,mU l i->(bX 54 54&&bN 0 54&&decide (0<=i/\i<(l.length:Int)))=true:=λl hl=>by rw[dY (show 0<=i/\i<(l.length:Int) from hl)];rfl
 have fin:∀l:List fj,l.length<=64->mU l i->wrap .i64 (i+1)=i+1/\l.take i.toNat++l.drop (i+1).toNat=ll l i/\(fD (i-0)/\fD (wrap .i64 (i+1)-(i+1))/\fD ((l.length:Int)-wrap .i64 (i+1))):=λl hl hi=>by
  obtain⟨h0,h1⟩:=hi
  have ew:wrap .i64 (i+1)=i+1:=wi (by omega) (by omega)
  refine⟨ew,?_,?_⟩
  ·unfold ll;rw[show(i+1).toNat=i.toNat+1 by omega]
  ·rw[ew]
   exact⟨(h0:(0:Int)<=i),(eN _:i+1<=i+1),(show i+1<=(l.length:Int) by omega)⟩
 unfold IZ
 refine ae (λhb=>aq λ_ _=>ae (λh=>bg ?_) (λh=>ae (λh2=>bg ?_) λh2=>?_)) (λhb=>aq λ_ _=>ae (λh=>bg ?_) (λh=>ae (λh2=>bg ?_) λh2=>?_))
 all_goals subst hb
 ·have h:i<0:=oY h
  exact⟨λq=>absurd q.1 (by omega),λ_=>⟨rfl,rfl⟩⟩
 ·have h2:i>=(g.C1.length:Int):=oY h2
  exact⟨λq=>absurd q.2 (by show¬i<(g.C1.length:Int);omega),λ_=>⟨rfl,rfl⟩⟩
 ·have h:¬i<0:=oN h
  have h2:¬i>=(g.C1.length:Int):=oN h2
  have hi:mU g.C1 i:=⟨by omega,by omega⟩
  obtain⟨e1,e2,e3⟩:=fin g.C1 ok.bl hi
  refine ax (cn _ hi) (c7 e3 (aq λx3 h3=>bg ⟨λ_=>?_,λq=>absurd hi q⟩))
  have h3:x3=g.C1.take i.toNat++g.C1.drop (wrap .i64 (i+1)).toNat:=h3
  rw[e1,e2]at h3
  have el:Qu g true i={g with C1:=ll g.C1 i}:=if_pos hi
  rw[el,h3];rfl
 ·have h:i<0:=oY h
  exact⟨λq=>absurd q.1 (by omega),λ_=>⟨rfl,rfl⟩⟩
 ·have h2:i>=(g.A7.length:Int):=oY h2
  exact⟨λq=>absurd q.2 (by show¬i<(g.A7.length:Int);omega),λ_=>⟨rfl,rfl⟩⟩
 ·have h:¬i<0:=oN h
  have h2:¬i>=(g.A7.length:Int):=oN h2
  have hi:mU g.A7 i:=⟨by omega,by omega⟩
  obtain⟨e1,e2,e3⟩:=fin g.A7 ok.fl hi
  refine ax (cn _ hi) (c7 e3 (aq λx3 h3=>bg ⟨λ_=>?_,λq=>absurd hi q⟩))
  have h3:x3=g.A7.take i.toNat++g.A7.drop (wrap .i64 (i+1)).toNat:=h3
  rw[e1,e2]at h3
  have el:Qu g false i={g with A7:=ll g.A7 i}:=if_pos hi
  rw[el,h3];rfl
theorem Zta(ok:gb g)(b:Bool)(i:Int):(IZ (mv g) b i).w λr=>r.2.2=mv (Qu g b i):=by
 have t:=Tree.pp (X8 ok b i)
 refine(IZ (mv g) b i).mono (λr (h:(mU (lV g b) i->r=(pd (lV g b) i,true,mv (Qu g b i)))/\(¬mU (lV g b) i->r.2.1=false/\r.2.2=mv g))=>?_) (X8 ok b i)
 by_cases hi:mU (lV g b) i
 ·rw[h.1 hi]
 ·have e:Qu g b i=g:=if_neg hi
  rw[(h.2 hi).2,e]
theorem Zrw(ok:gb g)(b:Bool)(i:Int):(Q4 (mv g) b i).w λr=>r=mv (nH g b i):=by
 unfold Q4
 refine cv (X8 ok b i) λx0 ⟨t1,t2⟩=>?_
 by_cases hi:mU (lV g b) i
 ·rw[t1 hi]
  have e:nH g b i=LI (Qu g b i) b (pd (lV g b) i):=if_pos hi
  rw[e]
  have ox:=(ok.F3 b).2 _ (GM hi)
  have ol:=XY ok b i
  generalize pd (lV g b) i=x at ox
  generalize Qu g b i=l at ol
  refine ae (λh=>by cases h) λ_=>?_
  cases b
  ·exact ae (λ_=>cv (yr ol ox) λy hy=>bg hy) λh=>by cases h
  ·have et:LI l true x=if l.A1.A4=2/\x.C4=3 then{l with A1:={l.A1 with A4:=4}}else l:=if_pos rfl
   rw[et]
   refine ae (λh=>by cases h) λ_=>ae (λh1=>ae (λh2=>bg ?_) (λh2=>bg ?_)) (λh1=>bg ?_)
   ·rw[if_pos (show l.A1.A4=2/\x.C4=3 from⟨bt h1,bt h2⟩)];rfl
   ·rw[if_neg (show¬(l.A1.A4=2/\x.C4=3) fromλq=>bf h2 q.2)]
   ·rw[if_neg (show¬(l.A1.A4=2/\x.C4=3) fromλq=>bf h1 q.1)]
 ·obtain⟨a,c⟩:=t2 hi
  have e:nH g b i=g:=if_neg hi
  rw[e]
  refine ae (λ_=>bg c) λh=>?_
  rw[a]at h;cases h
theorem X9(h:jD x):(OX x).w λr=>r=x:=by
 unfold OX
 have cm:(Cq x.A0).w λr=>r=x.A0:=by
  unfold Cq
  exact c7 (show x.A0.Mem.length<=35184372088832 by rw[h.mem];decide) (aq λy hy=>by have hy:y=x.A0.Mem:=hy;subst hy;exact bg rfl)
 refine cv cm λy hy=>?_
 subst hy
 refine c7 (show x.A3.length<=1000000000000 by have:=h.rl;omega) (aq λz hz=>?_)
 have hz:z=x.A3:=hz
 subst hz
 exact bg rfl
theorem qt(ok:gb g)(b:Bool)(i:Int):(OY (mv g) b i).w λr=>r=mv (Bb g b i):=by
 have cn:∀l:List fj,mU l i->(bX 54 54&&bN 0 54&&decide (0<=i/\i<(l.length:Int)))=true:=λl hl=>by rw[dY (show 0<=i/\i<(l.length:Int) from hl)];rfl
 unfold OY
 refine ae (λhb=>aq λ_ _=>ae (λh=>ae (λh2=>?_) (λh2=>bg ?_)) (λh=>bg ?_)) (λhb=>aq λ_ _=>ae (λh=>ae (λh2=>?_) (λh2=>bg ?_)) (λh=>bg ?_))
 all_goals subst hb
 ·have hi:mU g.C1 i:=⟨oY h,oY h2⟩
  have e:Bb g true i={g with C1:=gv g.C1 (pd g.C1 i)}:=if_pos hi
  rw[e]
  refine ax (cn _ hi) (cv (X9 (x:=pd g.C1 i) (ok.bo _ (GM hi))) λx1 h1=>?_)
  subst h1
  exact cv (zr _) λy hy=>bg hy
 ·have h2:¬i<(g.C1.length:Int):=oN h2
  have e:Bb g true i=g:=if_neg (λq=>h2 q.2)
  rw[e]
 ·have h:¬i>=0:=oN h
  have e:Bb g true i=g:=if_neg (λq=>h q.1)
  rw[e]
 ·have hi:mU g.A7 i:=⟨oY h,oY h2⟩
  have e:Bb g false i={g with A7:=gv g.A7 (pd g.A7 i)}:=if_pos hi
  rw[e]
  refine ax (cn _ hi) (cv (X9 (x:=pd g.A7 i) (ok.fo _ (GM hi))) λx1 h1=>?_)
  subst h1
  exact cv (OJ _) λy hy=>bg hy
 ·have h2:¬i<(g.A7.length:Int):=oN h2
  have e:Bb g false i=g:=if_neg (λq=>h2 q.2)
  rw[e]
 ·have h:¬i>=0:=oN h
  have e:Bb g false i=g:=if_neg (λq=>h q.1)
  rw[e]
theorem Zgy(hl:l.length<=64)(h:∀x∈l,jD x):(OZ l).w λr=>r=l:=by
 unfold OZ
 refine fk (inv:=λz:Int×List fj=>∃i:Nat,z.1=i/\i<=l.length/\z.2=l.take i) (μ:=Ya l) ⟨0,rfl,bC _,rfl⟩ (cN _) ?_
 rintro⟨_,y⟩ ⟨i,rfl,hi,hy⟩
 simp only at hy
 subst hy
 refine ae (λbd=>?_) (λgx=>bg ?_)
 ·have bd:i<l.length:=by have:(i:Int)<(l.length:Int):=oY bd;omega
  have ew:wrap .i64 ((i:Int)+1)=((i+1:Nat):Int):=by rw[wi (by omega) (by omega)];omega
  have eg:l.getD (dA (i:Int)) (RK.eh RK.aa)=l[i]:=by simp[aV,bd]
  have lt:(l.take i).length=i:=by rw[aD];omega
  refine ax (by rw[dY (show 0<=(i:Int)/\(i:Int)<(l.length:Int) by omega)];rfl) ?_
  rw[eg]
  refine cv (X9 (h _ (eT bd))) λx0 h0=>?_
  subst h0
  refine ax (dY (by show 328*((l.take i).length+1)<=_;omega)) (ez ⟨⟨i+1,ew,bd,(OR bd).symm⟩,by simp only[Ya,ew];omega⟩)
 ·have gx:¬(i:Int)<(l.length:Int):=oN gx
  exact fC (by omega)
theorem Z54{s:ij}(hm:s.A0.Mem.length<=1024)(hd:s.B1.B0.length<=8)(hr:s.A3.length<=8)(hf:s.C0.length<=8):(O0 s).w λr=>r=s:=by
 unfold O0
 have cm:(Cq s.A0).w λr=>r=s.A0:=by
  unfold Cq
  exact c7 (show s.A0.Mem.length<=35184372088832 by omega) (aq λy hy=>by have hy:y=s.A0.Mem:=hy;subst hy;exact bg rfl)
 refine cv cm λy hy=>?_
 subst hy
 refine c7 (show s.B1.B0.length<=140737488355328 by omega) (aq λa ha=>c7 (show s.A3.length<=1000000000000 by omega) (aq λb hb=>c7 (show s.C0.length<=1000000000000 by omega) (aq λc hc=>bg ?_)))
 have ha:a=s.B1.B0:=ha
 have hb:b=s.A3:=hb
 have hc:c=s.C0:=hc
 subst ha;subst hb;subst hc
 rfl
theorem gb.O1(h:gb g):g.A1.A0.Mem.length<=1024/\g.A2.A0.Mem.length<=1024:=by
 have a:=h.rj.len
 have b:=h.tm.len
 omega
theorem Zps(ok:gb g):(O2 g).w λr=>r=g:=by
 obtain⟨l1,l2⟩:=ok.O1
 unfold O2
 refine cv (Z54 l1 (by have:=ok.dl;omega) (by have:=ok.rl;omega) ok.sf) λx0 h0=>cv (Z54 l2 ok.tc (by have:=ok.tl;omega) ok.tf) λx1 h1=>cv (Zgy ok.fl ok.fo) λx2 h2=>cv (Zgy ok.bl ok.bo) λx3 h3=>c7 (show g.A9.ab.length<=1000000000000 by have:=ok.st.1;omega) (aq λx4 h4=>bg ?_)
 have h4:x4=g.A9.ab:=h4
 subst h0;subst h1;subst h2;subst h3;subst h4
 rfl
theorem O3{s t:List Int}(hl:s.length<=1000000):(LO s t).w λr=>r=decide (s=t):=by
 unfold LO
 refine ae (λh=>bg ?_) (λhe=>?_)
 ·have h:¬(s.length:Int)=t.length:=by simpa using h
  exact(dN (λe=>h (by rw[e]))).symm
 ·have he:s.length=t.length:=by
   have:(s.length:Int)=t.length:=by simpa using he
   omega
  refine fk (inv:=λz:Int=>∃i:Nat,z=i/\i<=s.length/\∀j,j<i->s.getD j 0=t.getD j 0) (μ:=O4 s t) ⟨0,rfl,bC _,λj h=>by omega⟩ (cN _) ?_
  rintro _ ⟨i,rfl,hi,hj⟩
  refine ae (λbd=>?_) (λgx=>bg ?_)
  ·have bd:i<s.length:=by simpa using bd
   have ew:wrap .i64 ((i:Int)+1)=((i+1:Nat):Int):=by rw[wi (by omega) (by omega)];omega
   refine ax (mP bd) (ax (mP (by omega)) (ae (λhn=>bg ?_) (λheq=>ez ⟨⟨i+1,ew,bd,λj LC=>?_⟩,by simp only[O4,ew];omega⟩)))
   ·rw[dX]at hn
    exact(dN (λe=>nt hn (by rw[e]))).symm
   ·rw[dX]at heq
    rcases Nat.lt_succ_iff_lt_or_eq.1 LC with h|h
    ·exact hj j h
    ·subst h;exact LN heq
  ·have gx:s.length<=i:=by simpa using gx
   refine(dY (bR he λj h1 h2=>?_)).symm
   have:=hj j (by omega)
   simpa[aV,h1,h2]using this
theorem Zh7(ok:gb g):(O5 g).w λr=>r=decide (Cj g):=by
 unfold O5
 have tl:=ok.tl
 refine ae (λh=>c7 (show g.A2.A3.length<=1000000000000 by omega) (aq λx hx=>bg ?_)) (λh=>bg ?_)
 ·rw[show x=decide (g.A2.A3=g.A2.C0) from hx.trans (Tree.pp (O3 (s:=g.A2.A3) (t:=g.A2.C0) (by omega))).2]
  refine decide_eq_decide.2 ⟨λe=>⟨bt h,e⟩,λe=>e.2⟩
 ·exact(dN (λe=>bf h e.1)).symm
theorem sB(ok:gb g){a:kG}(hc:U a.F6):(O6 g a).w λr=>r=rK g a:=by
 unfold O6
 refine cv (Zps ok) λx0 h0=>?_
 subst h0
 unfold rK
 refine ae (λk=>?_) λk=>?_
 ·rw[if_pos (bt k)]
  exact cv (xaF ok hc a.N) λy hy=>bg (by rw[hy];rfl)
 rw[if_neg (bf k)]
 refine ae (λk=>?_) λk=>?_
 ·rw[if_pos (bt k)]
  refine ae (λh1=>ae (λh2=>?_) (λh2=>bg ?_)) (λh1=>bg ?_)
  ·have h1:=bt h1
   have h2:x0.A1.B1.B9<10:=oY h2
   rw[if_pos ⟨h1,h2⟩,GK ok (by omega)]
   exact cv (Zon ok (by omega)) λy hy=>bg (by rw[hy];rfl)
  ·have h2:¬x0.A1.B1.B9<10:=oN h2
   rw[if_neg (λq=>h2 q.2)]
  ·rw[if_neg (λq=>bf h1 q.1)]
 rw[if_neg (bf k)]
 refine ae (λk=>?_) λk=>?_
 ·rw[if_pos (bt k)]
  exact cv (zap ok a.N) λy hy=>bg (by rw[hy];rfl)
 rw[if_neg (bf k)]
 refine ae (λk=>?_) λk=>?_
 ·rw[if_pos (bt k)]
  exact cv (vr ok) λy hy=>bg (by rw[hy];rfl)
 rw[if_neg (bf k)]
 refine ae (λk=>?_) λk=>?_
 ·rw[if_pos (bt k)]
  exact cv (Zrw ok a.C1 a.N) λy hy=>bg (by rw[hy];rfl)
 rw[if_neg (bf k)]
 refine ae (λk=>?_) λk=>?_
 ·rw[if_pos (bt k)]
  exact cv (Zta ok a.C1 a.N) λy hy=>bg (by rw[hy];rfl)
 rw[if_neg (bf k)]
 refine ae (λk=>?_) λk=>?_
 ·rw[if_pos (bt k)]
  exact cv (qt ok a.C1 a.N) λy hy=>bg (by rw[hy];rfl)
 rw[if_neg (bf k)]
 refine ae (λk=>?_) λk=>?_
 ·rw [if_pos (bt k)]
  refine cv (Zh7 ok) λx8 h8=>ae (λhb=>?_) λhb=>bg ?_
  ·rw[h8]at hb
   have hf:Cj x0:=oY hb
   unfold sx
   rw[if_pos hf]
   refine cv (qQ ok.st (host:=1) (by decide)) λx9 h9=>?_
   by_cases hc:(mn x0.A9 1 x0.A2.D5).2=true
   ·rw[if_pos hc]at h9⊢
    subst h9
    exact ae (λ_=>cv (zr (g:={x0 with A9:=(mn x0.A9 1 x0.A2.D5).1,A2:={x0.A2 with A4:=3,D5:=(mn x0.A9 1 x0.A2.D5).1.D5}}) (Ci 3)) λy hy=>bg (by rw[hy];rfl)) λh=>by cases h
   ·rw[if_neg hc]at h9⊢
    subst h9
    exact ae (λh=>by cases h) λ_=>bg rfl
  ·rw[h8]at hb
   have hf:¬Cj x0:=oN hb
   unfold sx
   rw[if_neg hf]
 rw[if_neg (bf k)]
 refine ae (λk=>?_) λk=>?_
 ·rw[if_pos (bt k)]
  exact cv (xQ ok.st) λy hy=>bg (by rw[hy];rfl)
 rw[if_neg (bf k)]
 refine ae (λk=>?_) λk=>?_
 ·rw[if_pos (bt k)]
  refine aq λy hy=>bg ?_
  have hy:y=mv (OD x0 a.C1):=hy.trans (Tree.pp (xao (g:=x0) a.C1)).2
  rw[hy];rfl
 rw[if_neg (bf k)]
 exact bg rfl
theorem EP(n:Int):O7 n 128/\(Yb n 128).length=128:=by
 refine⟨by show(128:Int)<=1000000000000;decide,?_⟩
 show Tree.V (LP n 128) (λs=>s.length=128)
 unfold LP
 refine EK (inv:=λv:Int×List Int=>0<=v.1/\v.1<=128/\v.2.length=v.1.toNat) (μ:=TX n 128) ⟨eN 0,by decide,rfl⟩ (cN _) λv ⟨a,b,c⟩=>?_
 refine lj (λhb=>mj λx0 _=>Cg (IS ?_)) λhb=>mQ ?_
 ·have hb:=oY hb
  show(0<=wrap .i64 (v.1+1)/\wrap .i64 (v.1+1)<=128/\(v.2++[_]).length=(wrap .i64 (v.1+1)).toNat)/\(128-wrap .i64 (v.1+1)).toNat<(128-v.1).toNat
  rw[wi (by omega) (by omega)]
  refine⟨⟨by omega,by omega,?_⟩,by omega⟩
  rw[lA,c];simp;omega
 ·have hb:=oN hb
  show(bytesOf v.2).length=128
  unfold bytesOf
  rw[eW,c];omega
theorem zQ(n:Int):(O8 n).w λr=>r.length=4/\∀b∈r,b.length=128:=by
 unfold O8
 refine fk (inv:=λz:Int×List (List UInt8)=>∃i:Nat,z.1=i/\i<=4/\z.2.length=i/\∀b∈z.2,b.length=128) (μ:=Yc n) ⟨0,rfl,bC _,rfl,λb hb=>(by cases hb)⟩ (cN _) ?_
 rintro⟨_,y⟩ ⟨i,rfl,hi,hl,hb⟩
 simp only at hl hb
 refine ae (λbd=>?_) (λgx=>bg ?_)
 ·have bd:(i:Int)<4:=oY bd
  have ew:wrap .i64 ((i:Int)+1)=((i+1:Nat):Int):=by rw[wi (by omega) (by omega)];omega
  obtain⟨d1,d2⟩:=EP (wrap .i64 (n+(i:Int)))
  refine c7 d1 (aq λx0 h0=>ax (dY (by show 16*(y.length+1)<=_;omega)) (ez ⟨⟨i+1,ew,by omega,by simp;omega,λb rF=>?_⟩,by simp only[Yc,ew];omega⟩))
  rcases List.mem_append.1 rF with h|h
  ·exact hb b h
  ·rw[List.mem_singleton.1 h,h0];exact d2
 ·have gx:¬(i:Int)<4:=oN gx
  exact⟨by show y.length=4;omega,hb⟩
theorem Zop{s:iP}(hb:s.ab.length=4)(hB:∀b∈s.ab,b.length=128)(hg:0<=s.D5/\s.D5<=2)(ho:s.D5=0->s.D7= -1)(ho2:0<s.D5->0<=s.D7):(O9 s).w λr=>r=true:=by
 unfold O9
 refine ae (λh=>absurd (oY h) (by omega)) λ_=>ae (λh=>absurd (oY h) (by omega)) λ_=>ae (λh=>absurd (oY h) (by omega)) λ_=>ae (λh0=>ae (λh=>absurd (ho (bt h0)) (nt h)) (λ_=>ae (λh=>absurd (oY h) (by have:=bt h0;omega)) (λ_=>?_))) (λh0=>ae (λhp=>ae (λh=>absurd (oY h) (by have:=ho2 (oY hp);omega)) (λ_=>?_)) (λhp=>?_))
 all_goals
  refine fk (inv:=λz:Int=>∃i:Nat,z=i/\i<=s.ab.length) (μ:=Yd s) ⟨0,rfl,bC _⟩ (cN _) ?_
  rintro _ ⟨i,rfl,hi⟩
  refine ae (λbd=>?_) (λgx=>bg rfl)
  have bd:i<s.ab.length:=by simpa using bd
  have ew:wrap .i64 ((i:Int)+1)=((i+1:Nat):Int):=by rw[wi (by omega) (by omega)];omega
  refine ax (mP bd) (ae (λh=>?_) (λ_=>ez ⟨⟨i+1,ew,bd⟩,by simp only[Yd,ew];omega⟩))
  exfalso
  have e:s.ab.getD (dA (i:Int)) (RK.eh RK.str)=s.ab[i]:=by simp[aV,bd]
  rw[e,hB _ (eT bd)]at h
  cases h
theorem Zr0{b:List (List UInt8)}(hb:b.length=4)(hB:∀x∈b,x.length=128):(Pa b).w λr=>r=(⟨b,0,-1⟩,true):=by
 unfold Pa
 refine ax (dY (by omega)) (cv (Zop (s:=⟨b,0,-1⟩) hb hB ⟨eN 0,by show(0:Int)<=2;decide⟩ (λ_=>rfl) (λh=>absurd h (by show¬(0:Int)<0;decide))) λx hx=>?_)
 subst hx
 exact ae (λh=>by cases h) λ_=>bg rfl
theorem yQ{b:List (List UInt8)}(hb:b.length=4)(hB:∀x∈b,x.length=128):(Pb ⟨b,0,-1⟩ 0 0).w λr=>r=(⟨b,1,0⟩,true):=by
 unfold Pb
 refine cv (Zop (s:=⟨b,0,-1⟩) hb hB ⟨eN 0,by show(0:Int)<=2;decide⟩ (λ_=>rfl) (λh=>absurd h (by show¬(0:Int)<0;decide))) λx hx=>?_
 subst hx
 exact ae (λh=>by cases h) λ_=>ae (λh=>by cases h) λ_=>ae (λh=>by cases h) λ_=>ae (λh=>by cases h) λ_=>bg rfl
theorem qaG{m:bb}(hm:gu 8 m){b:List (List UInt8)}(hb:b.length=4)(hB:∀x∈b,x.length=128):(Pd m ⟨b,1,0⟩).w λr=>r=(Cn m b,true):=by
 have hs:Ch ⟨b,1,0⟩:=⟨hb,hB,by show(1:Int)<=1;decide,by show(1:Int)<=2;decide,by show(0:Int)<=0;decide⟩
 have mp:jQ m.Mem=((8:Nat):Int):=Lz (P:=8) hm.mm.len (by decide)
 have ml:=hm.mm.len
 unfold Pd
 refine c7 (Tree.pp (v8 hm.ok.target.2)).1 (aq λx0 h0=>?_)
 have h0:x0=true:=h0.trans hm.may
 subst h0
 refine ae (λh=>by cases h) λ_=>cv (Zqo hs) λx1 h1=>?_
 subst h1
 refine ae (λh=>by cases h) λ_=>ae (λh=>by cases h) λ_=>?_
 obtain⟨b1,b2⟩:=xal (P:=8) (by decide) (by decide)
 obtain⟨n1,n2⟩:=xaD (P:=8) (by decide) (by decide)
 have cm:(Cq m).w λr=>r=m:=by
  unfold Cq
  exact c7 (show m.Mem.length<=35184372088832 by omega) (aq λy hy=>by have hy:y=m.Mem:=hy;subst hy;exact bg rfl)
 refine aq λx2 h2=>?_
 have h2:x2=((8:Nat):Int):=h2.trans mp
 subst h2
 refine c7 b1 (aq λx3 h3=>?_)
 have h3:x3=(⟨cO 8 true,0,0⟩,true):=h3.trans b2
 subst h3
 refine ae (λh=>by cases h) λ_=>cv cm λx4 h4=>?_
 subst h4
 refine ax (by rw[dY (by decide)];rfl) (ax (by rw[dY (by decide)];rfl) (c7 n1 (aq λx5 h5=>c7 (show b.length<=1000000000000 by omega) (aq λx6 h6=>bg ?_))))
 have h5:x5=cO (32*8) 0:=h5.trans n2
 have h6:x6=b:=h6
 subst h5;subst h6
 rfl
theorem Zjt(kind:Int)(prog:List Int)(hl:prog.length*8<=reachBytes)(h60:prog.length<=60):(Pe kind prog).w λr=>∃m b,r=(Cn m b,m,true)/\gu 8 m/\b.length=4/\∀x∈b,x.length=128:=by
 unfold Pe
 have mg:=(Zj9 kind prog hl h60).1
 refine c7 (Tree.pp (Zmn kind prog hl h60)).1 (aq λx0 h0=>?_)
 have h0:x0=TB kind prog:=h0
 rw[<-h0]at mg
 refine cv (zQ 1) λx1 ⟨k1,k2⟩=>cv (Zr0 k1 k2) λx2 h2=>?_
 subst h2
 refine cv (yQ k1 k2) λx3 h3=>?_
 subst h3
 refine cv (qaG mg k1 k2) λx4 h4=>bg ?_
 subst h4
 exact⟨x0,x1,rfl,mg,k1,k2⟩
theorem GP(a:bb)(ha:a.Mem.length<=1000000000000):(Pf a a).w (λb=>b=true):=by
 have Ye:∀s:List Int,s.length<=1000000000000->Pg s s=true:=λs hb=>by
  have h:(I0 s s).w λr=>r=true:=by
   unfold I0
   refine ae (λh=>by simp at h) (λ_=>?_)
   refine fk (inv:=λz:Int=>∃i:Nat,z=i/\i<=s.length) (μ:=I3 s s) ⟨0,rfl,bC _⟩ (cN _) ?_
   rintro _ ⟨i,rfl,hi⟩
   refine ae (λbd=>?_) (λgx=>bg rfl)
   have bd:i<s.length:=by simpa using bd
   have ew:wrap .i64 ((i:Int)+1)=((i+1:Nat):Int):=by rw[wi (by omega) (by omega)];omega
   refine ax (mP bd) (ax (mP bd) (ae (λh=>by simp at h) (λ_=>ez ⟨⟨i+1,ew,bd⟩,by simp only[I3,ew];omega⟩)))
  exact(Tree.pp (W:=λr=>r=true) h).2
 unfold Pf
 repeat'(first
  |refine ae (λ_=>?_) (λh=>absurd h (by simp[eqs,Ph];done))
  |exact c7 ha (aq λx hx=>by rw[hx];exact Ye _ ha)
  |refine c7 ha (aq λx hx=>ae (λ_=>?_) (λh=>by rw[hx,Ye _ ha]at h;cases h))
  |exact rfl)
 all_goals(show(_==_)=true;simp)
theorem Zp{m:bb}(h:Inv nc m g)(hk:True){l:List kG}(hl:l.length<=200)(hu:∀a∈l,U a.F6)(hn:nc=true->∀a∈l,a.C4≠10)(h1:∀a∈l,a.C4≠1):(Pj g l).w λr=>r=uw g l/\Inv nc m r:=by
 unfold Pj
 refine cv (Zps h.1) λx0 h0=>?_
 subst h0
 refine fk (inv:=λz:Int×dv=>∃i:Nat,z.1=i/\i<=l.length/\z.2=uw x0 (l.take i)/\Inv nc m z.2) (μ:=Yf x0 l) ⟨0,rfl,bC _,rfl,h⟩ (cN _) ?_
 rintro⟨_,y⟩ ⟨i,rfl,hi,hy,hI⟩
 simp only at hy hI
 refine ae (λbd=>?_) (λgx=>bg ?_)
 ·have bd:i<l.length:=by have:(i:Int)<(l.length:Int):=oY bd;omega
  have ew:wrap .i64 ((i:Int)+1)=((i+1:Nat):Int):=by rw[wi (by omega) (by omega)];omega
  have eg:l.getD (dA (i:Int)) (RK.eh RK.bz)=l[i]:=by simp[aV,bd]
  have am:l[i]∈l:=eT bd
  refine ax (by rw[dY (show 0<=(i:Int)/\(i:Int)<(l.length:Int) by omega)];rfl) (ae (λh2=>?_) λ_=>?_)
  ·exfalso
   have h2:(i:Int)=200:=bt h2
   omega
  rw[eg]
  refine cv (sB hI.1 (hu _ am)) λx1 e1=>ez ⟨⟨i+1,ew,bd,?_,?_⟩,by simp only[Yf,ew];omega⟩
  ·show x1.1=_
   rw[e1,hy,OR bd,Zid];rfl
  ·show Inv nc m x1.1
   rw[e1]
   have:=qq hI (hu _ am) (λe=>hn e _ am)
   have eq:uv m y l[i]=m:=if_neg (λq=>h1 _ am q.1)
   rwa [eq]at this
 ·have gx:¬(i:Int)<(l.length:Int):=oN gx
  have:i=l.length:=by omega
  subst this
  rw[List.take_length]at hy
  exact⟨hy,hI⟩
theorem Qy(g:dv):Q3 g=jZ g:=by
 unfold jZ
 simp only[Q3,TV,Tree.m]
 by_cases h1:g.A1.A4=1
 ·simp[h1]
 ·by_cases h3:g.A1.A4=3
  ·simp[h3]
  ·by_cases ht:g.A2.A4=3
   ·simp[beq_false_of_ne h1,beq_false_of_ne h3,h1,h3,ht]
   ·simp[beq_false_of_ne h1,beq_false_of_ne h3,beq_false_of_ne ht,h1,h3,ht]
theorem Z5n(ok:gb g):(Pk g).w λr=>(jZ g=0->r=(g.A1.A0,true))/\(jZ g=1->r=(g.A2.A0,true))/\(jZ g<0->r.2=false):=by
 obtain⟨l1,l2⟩:=ok.O1
 have cm:∀m:bb,m.Mem.length<=1024->(Cq m).w λr=>r=m:=λm hm=>by
  unfold Cq
  exact c7 (show m.Mem.length<=35184372088832 by omega) (aq λy hy=>by have hy:y=m.Mem:=hy;subst hy;exact bg rfl)
 unfold Pk
 refine aq λx0 h0=>?_
 have h0:x0=jZ g:=h0.trans (Qy g)
 subst h0
 refine ae (λh=>cv (cm _ l1) λy hy=>bg ?_) λh=>ae (λh1=>cv (cm _ l2) λy hy=>bg ?_) λh1=>bg ?_
 ·have h:=bt h
  rw[hy]
  exact⟨λ_=>rfl,λq=>by omega,λq=>by omega⟩
 ·have h1:=bt h1
  rw[hy]
  exact⟨λq=>by omega,λ_=>rfl,λq=>by omega⟩
 ·exact⟨λq=>absurd q (bf h),λq=>absurd q (bf h1),λ_=>rfl⟩
theorem xt:(Pl).w λr=>r=Cp:=by
 unfold Pl
 refine fk (inv:=λz:Int×List kG=>∃i:Nat,z.1=i/\i<=64/\z.2=mo 2 0::mo 3 32::cO i (mo 5 0)) (μ:=Yg) ⟨0,rfl,bC _,rfl⟩ (cN _) ?_
 rintro⟨_,y⟩ ⟨i,rfl,hi,hy⟩
 simp only at hy
 have yl:y.length=i+2:=by rw[hy];simp
 refine ae (λbd=>?_) (λgx=>ax (dY (by show 24*(y.length+1)<=_;omega)) (bg ?_))
 ·have bd:(i:Int)<64:=oY bd
  have ew:wrap .i64 ((i:Int)+1)=((i+1:Nat):Int):=by rw[wi (by omega) (by omega)];omega
  refine ax (dY (by show 24*(y.length+1)<=_;omega)) (ez ⟨⟨i+1,ew,by omega,?_⟩,by simp only[Yg,ew];omega⟩)
  show y++[mo 5 0]=_
  rw[hy,eQ];rfl
 ·have gx:¬(i:Int)<64:=oN gx
  have:i=64:=by omega
  subst this
  show y++[mo 8 0]=_
  rw[hy];rfl
theorem LQ:∀a∈Cp,U a.F6/\a.C4≠10/\a.C4≠1:=by
 intro a ha
 have k:∀x y:Int,x≠10->x≠1->U (mo x y).F6/\(mo x y).C4≠10/\(mo x y).C4≠1:=λx y h1 h2=>⟨⟨eN 0,by show(0:Int)<4294967296;decide⟩,h1,h2⟩
 unfold Cp at ha
 rcases List.mem_cons.1 ha with rfl|ha
 ·exact k _ _ (by decide) (by decide)
 rcases List.mem_cons.1 ha with rfl|ha
 ·exact k _ _ (by decide) (by decide)
 rcases List.mem_append.1 ha with ha|ha
 ·rw[eR ha];exact k _ _ (by decide) (by decide)
 ·rw[List.mem_singleton.1 ha];exact k _ _ (by decide) (by decide)
theorem Zc0:Cp.length=67:=by
 unfold Cp
 simp only[dD,lA,cS,List.length_nil]
theorem z6:Pm.w λr=>r=true:=by
 unfold Pm
 refine cv (Zjt 2 [0] (by decide) (by decide)) λx0 ⟨m,b,e,hm,k1,k2⟩=>?_
 subst e
 have calm:=Zql hm k1 k2
 refine ae (λh=>by cases h) λ_=>aq λx1 h1=>?_
 have h1:x1=0:=h1.trans ((Qy _).trans (LM (.inl rfl)))
 subst h1
 refine ae (λh=>by cases h) λ_=>cv xt λx2 h2=>?_
 subst h2
 refine cv (Zp calm.inv trivial (by rw[Zc0];decide) (λa ha=>(LQ a ha).1) (λ_ a ha=>(LQ a ha).2.1) (λa ha=>(LQ a ha).2.2)) λx3 ⟨e3,i3⟩=>?_
 obtain⟨_,q2,q3,q4,q5⟩:=wy calm (by decide)
 rw[<-e3]at q2 q3 q4 q5
 refine cv (Z5n i3.1) λx4 ⟨_,m2,_⟩=>?_
 have m2:=m2 q2
 subst m2
 refine cv (sB i3.1 (a:={C4:=99,N:=0,C1:=false,F6:=0}) ⟨by decide,by decide⟩) λx5 h5=>aq λx6 h6=>?_
 have h6:x6=1:=h6.trans ((Qy _).trans q2)
 subst h6
 have h5:x5.2=false:=by rw[h5];rfl
 refine ae (λ_=>ae (λ_=>?_) (λh=>by cases h)) (λh=>by cases h)
 show(Tree.an (TY x3.A2.A0 m) _).w _
 rw[q3]
 have ml:=hm.mm.len
 refine cv (GP m (by omega)) λx7 h7=>ae (λ_=>bg ?_) (λh=>by rw[h7]at h;cases h)
 rw[h5];rfl
theorem Pn{W:Bool->Prop}(h:W true):(Tree.an Po (.lv Qf λx=>.lf x)).w W:=by
 have a:=Tree.pp z6
 exact c7 a.1 (aq λx hx=>bg (by rw[show x=true from hx.trans a.2];exact h))
theorem ER{m:bb}(g:gu 8 m)(hc:U clock):Qoq m clock/\Oi m clock=AZ m clock:=by
 refine⟨?_,(Zj5 g.v clock).symm⟩
 have:(Ly m clock).w (λ_=>True):=by
  unfold Ly
  refine cv (zX g.ok) λx0 ⟨o,_⟩=>?_
  exact c7 (Tree.pp (zaw x0)).1 (aq λx1 _=>ae (λ_=>trivial) λ_=>c7 (Tree.pp (Wx o hc)).1 (aq λ_ _=>trivial))
 exact(Tree.pp this).1
theorem Pp{β:Type}{W:β->Prop}{f:Bool->β}(h:W (f true)):(Tree.an Po (.lv Qf λx=>.lf (f x))).w W:=by
 have a:=Tree.pp z6
 exact c7 a.1 (aq λx hx=>bg (by rw[show x=true from hx.trans a.2];exact h))
theorem Pq(kind:Int)(prog rounds:List Int)(hl:prog.length*8<=reachBytes):(Pr kind prog rounds).w λr=>r=true:=by
 unfold Pr
 refine ae (λ_=>Pn rfl) (λh1=>ae (λ_=>Pn rfl) (λh2=>?_))
 have h1:=oN h1
 have h2:=oN h2
 refine cv (Zjt kind prog hl (by omega)) λx2 ⟨m,b,e,hm,k1,k2⟩=>?_
 subst e
 refine ae (λh=>by cases h) λ_=>?_
 refine fk (inv:=λz:Int×dv×bb=>∃i:Nat,z.1=i/\i<=rounds.length/\gu 8 z.2.2/\Calm i z.2.2 z.2.1) (μ:=Yh kind prog rounds) ⟨0,rfl,bC _,hm,Zql hm k1 k2⟩ (cN _) ?_
 rintro⟨_,g,n⟩ ⟨i,rfl,hi,gn,hC⟩
 simp only at gn hC
 have U5:U 5:=⟨by decide,by decide⟩
 have Yi:U 0:=⟨by decide,by decide⟩
 refine ae (λbd=>?_) (λgx=>?_)
 ·have bd:i<rounds.length:=by have:(i:Int)<(rounds.length:Int):=oY bd;omega
  have ew:wrap .i64 ((i:Int)+1)=((i+1:Nat):Int):=by rw[wi (by omega) (by omega)];omega
  have rr:=Z6r (n:=rounds.getD (dA (i:Int)) 0) (k:=30) (by decide) (by decide)
  refine ax (mP bd) (c7 (Il (by decide)) (aq λx3 h3=>?_))
  have h3:x3=Cr (rounds.getD (dA (i:Int)) 0) 30:=h3
  rw[<-h3]at rr
  have I1:=qq hC.inv (a:=mo 2 0) Yi (λ_=>by show(2:Int)≠10;decide)
  have cn:=qr hC (by omega) x3
  have I2:=qq I1 (a:=OI x3) U5 (λ_=>by show(1:Int)≠10;decide)
  refine cv (sB (a:=mo 2 0) hC.inv.1 Yi) λx4 e4=>?_
  subst e4
  refine cv (sB (a:=OI x3) I1.1 U5) λx5 e5=>?_
  subst e5
  have rn:runN x3=x3.toNat:=by unfold runN;omega
  refine fk (inv:=λz:Int×bb=>∃k:Nat,z.1=k/\(k:Int)<=x3/\z.2=kC n 5 k) (μ:=Yj kind prog rounds) ⟨0,rfl,by omega,rfl⟩ (cN _) ?_
  rintro⟨_,y⟩ ⟨k,rfl,pV,hy⟩
  simp only at hy
  subst hy
  have gy:=GL gn U5 k
  refine ae (λPs=>?_) (λPt=>?_)
  ·have Ps:(k:Int)<x3:=oY Ps
   have ek:wrap .i64 ((k:Int)+1)=((k+1:Nat):Int):=by rw[wi (by omega) (by omega)];omega
   obtain⟨p,q⟩:=ER gy U5
   refine c7 p (aq λx6 h6=>ez ⟨⟨k+1,ek,by omega,?_⟩,by simp only[Yj,ek];omega⟩)
   show x6.1=_
   rw[show x6=AZ (kC n 5 k) 5 from h6.trans q];rfl
  ·have Pt:¬(k:Int)<x3:=oN Pt
   have ek:k=runN x3:=by rw[rn];omega
   subst ek
   refine fk (inv:=λz:Int×dv=>∃j:Nat,z.1=j/\j<=64/\z.2=jg j (rK (rK g (mo 2 0)).1 (OI x3)).1) (μ:=Yk kind prog rounds) ⟨0,rfl,bC _,rfl⟩ (cN _) ?_
   rintro⟨_,y⟩ ⟨j,rfl,hj,hy⟩
   simp only at hy
   subst hy
   refine ae (λPu=>?_) (λPv=>?_)
   ·have Pu:(j:Int)<64:=oY Pu
    have ej:wrap .i64 ((j:Int)+1)=((j+1:Nat):Int):=by rw[wi (by omega) (by omega)];omega
    refine cv (sB (a:=mo 5 0) (TS j I2).1 Yi) λx7 e7=>ez ⟨⟨j+1,ej,by omega,?_⟩,by simp only[Yk,ej];omega⟩
    show x7.1=_
    rw[e7,<-Zpy];rfl
   ·have Pv:¬(j:Int)<64:=oN Pv
    have j64:j=64:=by omega
    have cn2:Calm ((i:Int)+1) (kC n 5 (runN x3)) (jg j (rK (rK g (mo 2 0)).1 (OI x3)).1):=by rw[j64];exact cn
    clear cn j64
    refine ez ⟨⟨i+1,ew,bd,gy,?_⟩,by simp only[Yh,ew];omega⟩
    have e1:((i+1:Nat):Int)=(i:Int)+1:=by omega
    show Calm ((i+1:Nat):Int) _ _
    rw[e1];exact cn2
 ·refine cv xt λx8 h8=>?_
  subst h8
  refine cv (Zp hC.inv trivial (by rw[Zc0];decide) (λa ha=>(LQ a ha).1) (λ_ a ha=>(LQ a ha).2.1) (λa ha=>(LQ a ha).2.2)) λx9 ⟨e9,i9⟩=>?_
  obtain⟨_,q2,q3,q4,q5⟩:=wy hC (by omega)
  rw[<-e9]at q2 q3 q4 q5
  refine cv (Z5n i9.1) λkR ⟨_,m2,_⟩=>aq λlW Yl=>?_
  have m2:=m2 q2
  subst m2
  have Yl:lW=1:=Yl.trans ((Qy _).trans q2)
  subst Yl
  have ml:=gn.mm.len
  refine ae (λ_=>ae (λ_=>?_) (λh=>by cases h)) (λh=>by cases h)
  show(Tree.an (TY x9.A2.A0 n) _).w _
  rw[q3]
  refine cv (GP n (by omega)) λoj h12=>ae (λ_=>ae (λ_=>ae (λ_=>Pp rfl) (λh=>absurd q5 (bf h))) (λh=>absurd q4 (bf h))) (λh=>by rw[h12]at h;cases h)

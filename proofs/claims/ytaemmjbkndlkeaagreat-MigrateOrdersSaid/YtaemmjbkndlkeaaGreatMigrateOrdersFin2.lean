import Derived.Test.YtaemmjbkndlkeaaGreatMigrateOrdersFin1
open Nat renaming le_refl->aX,beq->bX,blt->bN,zero_le->bC,lt_succ_self->cN
open List renaming drop_eq_getElem_cons->aO,getElem?_eq_getElem->aI,length_cons->dD,drop_eq_nil_of_le->aN,append_assoc->aM,replicate->cO,replicate_succ'->eQ,getD->aV,length_singleton->cY,length_replicate->cS,eq_of_mem_replicate->eR,ext_getElem->bR,mem_append_left->eS,getD_eq_getElem?_getD->cX,getElem?_eq_none->aJ,getElem_mem->eT,mem_cons_self->eU,mem_cons_of_mem->eV,length_set->dC,length_map->eW,length_take->aD,mem_append_right->eX,getElem?_replicate->eY,eq_nil_of_length_eq_zero->fA,foldl_append->fC,take_of_length_le->fD
open Int renaming toNat_natCast->dX,le_refl->eN,tmod_eq_emod_of_nonneg->dZ,tdiv_eq_ediv_of_nonneg->eG,toNat->dA,NonNeg->fE
open Bool renaming cond_false_right->eO,false_ne_true->eZ,false_eq_true->aA,true_eq_false->fB,eq_iff_iff->eB
set_option maxRecDepth 100000
set_option linter.all false
namespace Go.Proofs.YtaemmjbkndlkeaaGreat
open Go Go.GD
open Go.IntKind(wrap i64 wrap_i64 wrap_u64)
variable {Dd:List Bool}{F H a b fs:List Int}{P f n:Nat}{clock host i k:Int}{f0:Prop}{f1 f2:Bool×Int->Prop}{g:dr}{l xs:List fg}{nc st:Bool}{x y:fg}
def ib:List Bool->Int->List Int
 |[],_=>[]
 |b::l,k=>if b=true then k::ib l (k+1)else ib l (k+1)
theorem TV:∀(l:List Bool) (k:Int),(ib l k).length<=l.length
 |[],_=>aX _
 |b::l,k=>by
  have:=TV l (k+1)
  simp only[ib];split<;>(try simp)<;>omega
theorem OJ:∀{l:List Bool} {k x:Int},x∈ib l k->k<=x/\x<k+l.length
 |[],_,_,h=>by simp[ib]at h
 |b ::l,k,x,h=>by
  simp only[ib]at h
  have go:x∈ib l (k+1)->k<=x/\x<k+(b::l).length:=λh=>by
   have:=OJ h;simp;omega
  split at h
  ·rcases List.mem_cons.1 h with e|e
   ·subst e;simp;omega
   ·exact go e
  ·exact go h
theorem ql{l:List Bool}{i:Nat}(h:i<l.length):l.drop i=l.getD i false::l.drop (i+1):=by
 rw[aO h]
 show _=(l[i]?).getD false::_
 rw[aI h];rfl
theorem xl{l:List Bool}{i:Nat}(h:i<l.length)(hb:l.getD i false=true)(k:Int):ib (l.drop i) k=k::ib (l.drop (i+1)) (k+1):=by
 rw[ql h,ib,if_pos hb]
theorem vZ{l:List Bool}{i:Nat}(h:i<l.length)(hb:l.getD i false=false)(k:Int):ib (l.drop i) k=ib (l.drop (i+1)) (k+1):=by
 rw[ql h,ib,if_neg (by rw[hb];simp)]
theorem wi{x:Int}(h0: -9223372036854775808<=x)(h1:x<=9223372036854775807):wrap .i64 x=x:=by rw[wrap_i64];omega
theorem lu{i:Nat}(h:i<n):(bX 1 1&&bN 0 1&&decide (0<=(i:Int)/\(i:Int)<(n:Int)))=true:=by
 rw[dY (by omega)];rfl
theorem xak{n:Int}{l:List Bool}(h0:0<=n)(hb:n+l.length<=1000000000000):(OK n l).w λr=>r=(n+(ib l 0).length,l):=by
 unfold OK
 refine fj (inv:=λz:Int×Int=>∃i:Nat,z.1=i/\i<=l.length/\0<=z.2/\z.2<=n+i/\z.2+(ib (l.drop i) i).length=n+(ib l 0).length) (μ:=TW n l) ⟨0,rfl,bC _,h0,by simp,by simp⟩ (cN _) ?_
 rintro⟨_,x⟩ ⟨i,rfl,hi,nV,hx,hs⟩
 simp only at nV hx hs
 refine ab (λbd=>?_) (λgh=>?_)
 ·have bd:i<l.length:=by simpa using bd
  have ew:wrap .i64 ((i:Int)+1)=((i+1:Nat):Int):=by rw[wi (by omega) (by omega)];omega
  refine aw (lu bd) (ab (λBj=>?_) (λBj=>?_))
  ·rw[dX]at Bj
   refine aq λy hy=>?_
   have hy:y=(true,wrap .i64 (x+1)):=hy
   rw[wi (by omega) (by omega)]at hy
   subst hy
   refine ab (λh=>by cases h) (λ_=>ep ?_)
   refine⟨⟨i+1,ew,bd,by show 0<=x+1;omega,by show x+1<=_;omega,?_⟩,?_⟩
   ·rw[xl bd Bj]at hs
    simp only[dD]at hs
    show x+1+((ib (l.drop (i+1)) ((i+1:Nat):Int)).length:Int)=_
    have:((i+1:Nat):Int)=(i:Int)+1:=by omega
    rw[this];omega
   ·simp only[TW,ew];omega
  ·rw[dX]at Bj
   refine ep ⟨⟨i+1,ew,bd,nV,by show x<=_;omega,?_⟩,?_⟩
   ·rw[vZ bd Bj]at hs;simpa using hs
   ·simp only[TW,ew];omega
 ·have gh:l.length<=i:=by simpa using gh
  rw[aN gh]at hs
  refine bg ?_
  show((x,l):Int×List Bool)=_
  rw[<-hs];simp[ib]
theorem yM{c:gb}(hb:c.B0.length<=1000000000000):X3 c/\TX c=(ib c.B0 0).length:=by
 have h1:=Tree.pp (xak (n:=0) (l:=c.B0) (eN _) (by omega))
 have h4:(OL c).w λr=>r=(ib c.B0 0).length:=by
  unfold OL
  refine aq λ_ _=>c8 h1.1 (aq λy hy=>bg ?_)
  have hy:y=Qt 0 c.B0:=hy
  have e:Qt 0 c.B0=(0+((ib c.B0 0).length:Int),c.B0):=h1.2
  rw[hy,e];simp
 exact Tree.pp h4
theorem LW{m:List Int}(hl:m.length=32*P)(hp:P<=32):jQ m=P:=by
 simp only[jQ,GQ,Tree.m,hl]
 have e1:Int.tmod ((32*P:Nat):Int) 32=0:=by rw[dZ (by omega)];omega
 have e2:Int.tdiv ((32*P:Nat):Int) 32=P:=by rw[eG (by omega)];omega
 rw[e1,e2,dN (by omega),wi (by omega) (by omega)];rfl
theorem zl{m:List Int}(h:jQ m=P)(h1:1<=P):m.length=32*P/\P<=32:=by
 simp only[jQ,GQ,Tree.m]at h
 rw[dZ (by omega),eG (by omega)]at h
 cases hb:(((m.length:Int)%32 !=0):Bool)with
 |true=>rw[hb]at h;simp only[cond_true]at h;omega
 |false=>
  rw[hb]at h
  simp only[cond_false]at h
  have hb:(m.length:Int)%32=0:=by simpa using hb
  cases hc:decide ((m.length:Int)>1024)with
  |true=>rw[hc]at h;simp only[cond_true]at h;omega
  |false=>
   rw[hc]at h
   simp only[cond_false]at h
   have hc:(m.length:Int)<=1024:=by simpa using hc
   rw[wi (by omega) (by omega)]at h
   omega
theorem Zq{m:List Int}(hl:m.length=32*P)(hp:P<=32){f:Int}(f0:0<=f)(f1:f<P):OM m f:=by
 show(DP m f).p
 have hh:EM m f=true:=by
  simp only[EM,KY,Tree.m,ee,LW hl hp]
  rw[dY (by omega:f>=0),dY f1];rfl
 have e1:wrap .i64 (f*32)=f*32:=wi (by omega) (by omega)
 have e2:wrap .i64 (f*32+32)=f*32+32:=wi (by omega) (by omega)
 unfold DP
 refine aq λx hx=>?_
 rw[hh]at hx;subst hx
 refine ab (λh=>by cases h) (λ_=>?_)
 rw[e1,e2]
 refine aw (by rw[dY (by rw[hl];omega)];rfl) (c8 ?_ (aq λ_ _=>bg trivial))
 show List.length _<=1000000000000
 simp;omega
def mN(m l:List Int):List lj:=l.map λf=>⟨f,(jG m f).1⟩
theorem qal{m:List Int}(hl:m.length=32*P)(hp:P<=32){d:List Bool}(hd:d.length=P):(ON m [] d).w λr=>r=(m,mN m (ib d 0),d):=by
 unfold ON
 refine fj (inv:=λz:Int×List Int×List lj=>∃i:Nat,z.1=i/\i<=d.length/\z.2.1=m/\z.2.2.length<=i/\z.2.2++mN m (ib (d.drop i) i)=mN m (ib d 0)) (μ:=TY m [] d) ⟨0,rfl,bC _,rfl,by simp,by simp⟩ (cN _) ?_
 rintro⟨_,_,x⟩ ⟨i,rfl,hi,hm,hx,hs⟩
 simp only at hm hx hs
 subst hm
 refine ab (λbd=>?_) (λgh=>?_)
 ·have bd:i<d.length:=by simpa using bd
  have ew:wrap .i64 ((i:Int)+1)=((i+1:Nat):Int):=by rw[wi (by omega) (by omega)];omega
  refine aw (lu bd) (ab (λBj=>?_) (λBj=>?_))
  ·rw [dX]at Bj
   refine c8 (?_:(TZ i _ x).p) (aq λy hy=>?_)
   ·exact c8 (Zq hl hp (by omega) (by omega)) (aq λ_ _=>aw (dY (by omega)) (bg trivial))
   ·have hy:y=(true,_,x++[⟨(i:Int),(jG _ i).1⟩]):=hy
    subst hy
    refine ab (λh=>by cases h) (λ_=>ep ?_)
    refine⟨⟨i+1,ew,bd,rfl,by simp;omega,?_⟩,?_⟩
    ·rw[xl bd Bj]at hs
     simp only[aM,List.singleton_append]
     rw[<-hs];simp[mN]
    ·simp only[TY,ew];omega
  ·rw[dX]at Bj
   refine ep ⟨⟨i+1,ew,bd,rfl,by show x.length<=_;omega,?_⟩,?_⟩
   ·rw[vZ bd Bj]at hs;simpa using hs
   ·simp only[TY,ew];omega
 ·have gh:d.length<=i:=by simpa using gh
  rw[aN gh]at hs
  refine bg ?_
  show((_,x,d):List Int×List lj×List Bool)=_
  rw[<-hs];simp[ib,mN]
def uB(c:gb)(m:List Int):gb×List lj:=
 if uD c=true/\c.B8<=10/\jQ m=c.B0.length then
  ({B0:=cO c.B0.length false,B8:=wrap .i64 (c.B8+1),D6:=wrap .i64 (c.D6+(ib c.B0 0).length)},mN m (ib c.B0 0))
 else(c,[])
theorem Zh3{c:gb}(h:uD c=true):1<=c.B0.length/\c.B0.length<=32/\0<=c.B8/\c.B8<=11/\0<=c.D6/\c.D6<=352:=by
 simp only[uD,T0,Tree.m,eO,aE,decide_eq_true_eq]at h
 omega
theorem Zl6{c:gb}:uD c=decide (1<=c.B0.length/\c.B0.length<=32/\0<=c.B8/\c.B8<=11/\0<=c.D6/\c.D6<=352):=by
 cases h:uD c with
 |true=>exact(dY (Zh3 h)).symm
 |false=>
  refine(dN λhh=>?_).symm
  have:uD c=true:=by
   simp only[uD,T0,Tree.m,eO,aE,decide_eq_true_eq]
   omega
  rw[h]at this;cases this
theorem T8{c:gb}(hb:c.B0.length<=1000000000000):X4 c/\OO c=c:=by
 refine⟨?_,rfl⟩
 show(T9 c).p
 exact c8 (show c.B0.length<=140737488355328 by omega) (aq λ_ _=>bg trivial)
theorem y0{c:gb}{fi:Int}(hb:c.B0.length<=1000000000000):Qhi c fi/\Je c fi=(uD c&&(decide (((ib c.B0 0).length:Int)<=fi)||decide (c.B8>=10))):=by
 have h:(OP c fi).w λr=>r=(uD c&&(decide (((ib c.B0 0).length:Int)<=fi)||decide (c.B8>=10))):=by
  unfold OP
  refine aq λv hv=>?_
  have hv:v=uD c:=hv
  subst hv
  refine ab (λh1=>?_) (λh1=>bg ?_)
  ·obtain⟨g1,g2⟩:=yM hb
   refine c8 g1 (aq λx hx=>?_)
   have hx:x=TX c:=hx
   rw[g2]at hx;subst hx
   rw[h1]
   refine ab (λh2=>bg ?_) (λh2=>bg ?_)
   ·rw[h2];rfl
   ·rw[h2];simp
  ·rw[h1];rfl
 exact Tree.pp h
theorem zaD(h0:1<=P)(h1:P<=32):Qmc P/\Qzj P=cO (32*P) 0:=by
 have h:(OQ P).w λr=>r=cO (32*P) 0:=by
  unfold OQ
  have e:wrap .i64 ((P:Int)*32)=(P:Int)*32:=wi (by omega) (by omega)
  refine ab (λh=>by simp at h;omega) (λ_=>ab (λh=>by simp at h;omega) (λ_=>?_))
  rw[e]
  refine aw (by rw[dY (by omega)];rfl) (bg ?_)
  congr 1;omega
 exact Tree.pp h
theorem zal(h0:1<=P)(h1:P<=32):Qex P/\Qon P=(⟨cO P true,0,0⟩,true):=by
 have h:(OR P).w λr=>r=(⟨cO P true,0,0⟩,true):=by
  unfold OR
  refine ab (λh=>by simp at h;omega) (λ_=>ab (λh=>by simp at h;omega) (λ_=>aw (by rw[dY (by omega)];rfl) ?_))
  refine fj (inv:=λz:Int×List Bool=>∃i:Nat,z.1=i/\i<=P/\z.2=cO i true++cO (P-i) false) (μ:=X5 P) ⟨0,rfl,bC _,by simp⟩ (cN _) ?_
  rintro⟨_,x⟩ ⟨i,rfl,hi,hx⟩
  simp only at hx
  refine ab (λbd=>?_) (λgh=>?_)
  ·have bd:i<P:=by simpa using bd
   have ew:wrap .i64 ((i:Int)+1)=((i+1:Nat):Int):=by rw[wi (by omega) (by omega)];omega
   have hl:x.length=P:=by rw[hx];simp;omega
   refine aw (by rw[hl];exact lu bd) (ep ⟨⟨i+1,ew,bd,?_⟩,?_⟩)
   ·show x.set (dA (i:Int)) true=_
    rw[hx,dX,List.set_append_right _ _ (by simp),show P-i=(P-(i+1))+1 by omega,List.replicate_succ,eQ]
    simp
   ·simp only[X5,ew];omega
  ·have gh:P<=i:=by simpa using gh
   have:i=P:=by omega
   subst this
   refine bg ?_
   show(({B0:=x,B8:=(0:Int),D6:=(0:Int)}:gb),true)=_
   rw[hx];simp
 exact Tree.pp h
def rk:List Bool->List Int->List Bool
 |d,[]=>d
 |d,f::l=>rk (if 0<=f/\f<d.length then d.set f.toNat true else d) l
theorem Z1l:∀(l:List Int) (d:List Bool),(rk d l).length=d.length
 |[],_=>rfl
 |f::l,d=>by simp only[rk];rw[Z1l];split<;>simp
theorem xaD{c:gb}{l:List Int}(hb:c.B0.length<=1000000000000)(hl:l.length<=1000000000000):X6 c l/\Ua c l={c with B0:=rk c.B0 l}:=by
 have h:(OS c l).w λr=>r={c with B0:=rk c.B0 l}:=by
  unfold OS
  refine c8 (T8 hb).1 (aq λx hx=>?_)
  have hx:x=OO c:=hx
  rw[(T8 hb).2]at hx;subst hx
  refine fj (inv:=λz:Int×List Bool=>∃i:Nat,z.1=i/\i<=l.length/\rk z.2 (l.drop i)=rk x.B0 l) (μ:=LX x l) ⟨0,rfl,bC _,by simp⟩ (cN _) ?_
  rintro⟨_,d⟩ ⟨i,rfl,hi,hd⟩
  simp only at hd
  refine ab (λbd=>?_) (λgh=>?_)
  ·have bd:i<l.length:=by simpa using bd
   have ew:wrap .i64 ((i:Int)+1)=((i+1:Nat):Int):=by rw[wi (by omega) (by omega)];omega
   have me:l.drop i=l.getD i 0::l.drop (i+1):=by
    rw[aO bd];congr 1;simp[aV,bd]
   rw[me,rk]at hd
   have mx:LX x l (wrap .i64 ((i:Int)+1),d)<LX x l ((i:Int),d):=by simp only[LX,ew];omega
   have skip:¬(0<=l.getD i 0/\l.getD i 0<d.length)->(∃j:Nat,wrap .i64 ((i:Int)+1)=j/\j<=l.length/\rk d (l.drop j)=rk x.B0 l):=λhn=>by
    rw[if_neg hn]at hd
    exact⟨i+1,ew,bd,hd⟩
   refine aw (lu bd) ?_
   refine ab (λh1=>?_) (λh1=>ep ⟨skip (λh=>oN h1 h.1),mx⟩)
   have h1:0<=l.getD i 0:=oY h1
   refine ab (λh2=>?_) (λh2=>ep ⟨skip (λh=>oN h2 h.2),mx⟩)
   have h2:l.getD i 0<d.length:=oY h2
   refine aw (Bool.and_eq_true_iff.2 ⟨rfl,dY ⟨h1,h2⟩⟩) (ep ⟨⟨i+1,ew,bd,?_⟩,?_⟩)
   ·rw[if_pos ⟨h1,h2⟩]at hd;exact hd
   ·simp only[LX,ew];omega
  ·have gh:l.length<=i:=by simpa using gh
   rw[aN gh,rk]at hd
   refine bg ?_
   show({B0:=d,B8:=x.B8,D6:=x.D6}:gb)=_
   rw[hd]
 exact Tree.pp h
attribute [local irreducible] KW
def Tree.V{β:Type}(t:Tree β)(W:β->Prop):Prop:=W t.m
section
variable {α β:Type} {W:β->Prop} {c:Bool} {t e:Tree β}
theorem mZ{x:β}(h:W x):Tree.V (.lf x) W:=h
theorem Jf{f:Prop}{x:β}{hf:f}(h:W x):Tree.V (.nx f x hf) W:=h
theorem ly(h:c=true->Tree.V t W)(g:c=false->Tree.V e W):Tree.V (.br c t e) W:=by
 cases c
 ·exact g rfl
 ·exact h rfl
theorem Cu(g:Tree.V t W):Tree.V (.cn c t) W:=g
theorem nL{p:Prop}(g:Tree.V t W):Tree.V (.an p t) W:=g
theorem mz{x:α}{k:α->Tree β}(h:∀y,y=x->Tree.V (k y) W):Tree.V (.lv x k) W:=h x rfl
theorem Fh{d:Inhabited β}{n:Nat}{f:Prop}{x:α}{k:α->Tree (α⊕β)}{hf:f}{inv:α->Prop}{μ:α->Nat}(h:inv x)(hn:μ x<n)(g:∀y,inv y->Tree.V (k y) (Sum.elim (λz=>inv z/\μ z<μ y) W)):Tree.V (.lp d n f x k hf) W:=by
 refine zB (P:=inv) (R:=W) (μ:=μ) (λa ha=>?_) n x h hn
 have:=g a ha
 unfold Tree.V at this
 revert this
 cases(k a).m with
 |inl z=>exactλh=>h
 |inr b=>exactλh=>h
end
structure gz(P:Nat)(m:bc):Prop where
 ok:rO P m
 may:Bb m=true
section
variable {P:Nat} {m:bc} (h:gz P m)
include h
theorem gz.v:LN m:=⟨h.ok.oy,h.ok.mem.u,h.ok.my,h.ok.wF,h.ok.target,h.ok.tF⟩
theorem gz.s:Au P m:=⟨h.ok.oy,h.ok.mem,h.ok.my,h.ok.wF,h.ok.target.1,h.ok.target.2⟩
theorem gz.X7:Ja m=true:=(Zqk h.v).symm.trans h.may
theorem Zif:Ha m=false↔m.B5=false/\Jc m=false/\m.B6<1152921504606846976:=by
 simp only[Ha,TT,Tree.m,ee,h.X7]
 cases m.B5<;>cases Jc m<;>simp
theorem vM(hs:Ha m=false)(hc:U clock):gz P (Ax m clock).2/\(Ax m clock).2.B6=m.B6+1/\(Ax m clock).1.length<=1:=by
 have o:=Tree.post _ (Zb9 h.ok hc)
 change(Ax m clock).1.length<=1/\rO P (Ax m clock).2/\(Ax m clock).2.B6=wrap .u64 (m.B6+1)at o
 have s:=(Tree.pp (Xc h.s h.ok.tF hc)).2
 change _/\Good P m (Eb m clock).1 at s
 have e:Eb m clock=((Ax m clock).2,(Ax m clock).1):=by rw[vk h.v,Zp6,hs];rfl
 rw[e]at s
 have hct:=((Zif h).1 hs).2.2
 have h0:=h.ok.tF
 refine⟨⟨o.2.1,s.2.may h.may⟩,?_,o.1⟩
 rw[o.2.2,wrap_u64];omega
end
theorem Zqf{i:List Int}(hu:∀w∈i,U w)(hl:i.length<=256):gz 8 (lr 8 4 i).1/\(lr 8 4 i).1.B6=0:=by
 obtain⟨a,b⟩:=(Tree.pp (Cb i hu hl)).2
 change rO 8 (lr 8 4 i).1 at a
 refine⟨⟨a,?_⟩,b⟩
 have e:(lr 8 4 i).2=true:=by
  have w:i64.wrap (8*32)=256:=by decide
  simp only[lr,GP,Tree.m,w,ee,dN (show¬((i.length:Int)>256) by omega)]
  rfl
 obtain⟨a1,a2,a3,a4,a5,a6⟩:=qaL 8 4 i e
 exact(zaL _ 8 4 a1 a2 a3 a4 a5 _ a6).1
theorem vl{m:bc}(h:gz 8 m)(hc:m.B6<=87):Tree.V (II m [] 87) (λx=>x.2.2.2=0->gz 8 x.1/\x.1.B6<=87):=by
 have z:∀{k:Int} {p:Prop},k≠0->k=0->p:=λa b=>absurd b a
 unfold II
 refine mz λx0 _=>ly (λ_=>mZ (z (by decide))) λ_=>ly (λ_=>mZ (z (by decide))) λ_=>ly (λ_=>mZ (z (by decide))) λ_=>nL (mz λx1 _=>ly (λ_=>mZ (z (by decide))) λ_=>nL (mz λx2 hx=>?_))
 rw[yZ]at hx
 refine Fh (inv:=λv:bc×List il=>gz 8 v.1/\v.1.B6<=87) (μ:=WX m [] 87) ⟨by rw[hx];exact h,by rw[hx];exact hc⟩ (cN _) λv0 ⟨a1,a3⟩=>?_
 have a2:=a1.ok.tF
 refine ly (λhb=>ly (λhm=>?_) (λ_=>mZ λ_=>⟨a1,a3⟩)) (λ_=>mZ λ_=>⟨a1,a3⟩)
 have hb:=oY hb
 have hm:=oY hm
 refine Fh (inv:=λ_=>True) (μ:=WY m [] 87 v0) trivial (cN _) λv1 _=>?_
 refine ly (λ_=>mZ λ_=>⟨a1,a3⟩) λhh=>nL (mz λx3 h3=>ly (λ_=>mZ λ_=>⟨a1,a3⟩) λhi=>nL (mz λx4 _=>ly (λ_=>mZ (z (by decide))) λ_=>nL (mz λx5 h5=>Cu (Jf ?_))))
 obtain⟨b1,b2,_⟩:=vM a1 ((Zif a1).2 ⟨hh,h3.symm.trans hi,hm⟩) (clock:=0) gd
 rw[<-h5]at b1 b2
 show(gz 8 x5.2/\x5.2.B6<=87)/\(87-x5.2.B6).toNat<(87-v0.1.B6).toNat
 exact⟨⟨b1,by omega⟩,by omega⟩
theorem Zjt(kind:Int)(l:List Int)(hl:l.length*8<=reachBytes)(h40:l.length<=60):gz 8 (Ub kind l)/\(Ub kind l).B6<=87:=by
 show Tree.V (IJ kind l) (λm=>gz 8 m/\m.B6<=87)
 have code:=(Tree.pp (vd l hl)).2
 change((Uc l).length:Int)=l.length/\∀w∈Uc l,U w at code
 obtain⟨b1,b2⟩:=code
 unfold IJ
 refine nL (mz λx0 nV=>ly (λ_=>nL (mz λx1 e1=>?_)) (λhk=>?_))
 ·have eb:x1.1=jM:=by rw[e1];rfl
  obtain⟨q1,q2⟩:jM.length<=160/\∀w∈jM,U w:=qf
  refine Fh (inv:=λv:List Int=>v.length<=160/\v=jM++cO (v.length-jM.length) 0) (μ:=WZ kind l) ⟨by rw[eb];exact q1,by rw[eb];simp⟩ (cN _) λv0 ⟨a1,a2⟩=>?_
  have a3:jM.length<=v0.length:=by rw[a2,lA];omega
  refine ly (λhb=>?_) (λhb=>?_)
  ·have hb:=oY hb
   refine Cu (Jf ?_)
   show(_/\_)/\(_:Nat)<_
   refine⟨⟨by rw[lA,cY];omega,?_⟩,by show 160-(v0++[0]).length<160-v0.length;rw[lA,cY];omega⟩
   show v0++[0]=jM++cO ((v0++[0]).length-jM.length) 0
   rw[lA,cY,show v0.length+1-jM.length=(v0.length-jM.length)+1 by omega,eQ,<-aM,<-a2]
  ·have hb:=oN hb
   have hv:v0=tE:=by
    unfold tE
    rw[show(160:Nat)=v0.length by omega]
    exact a2
   subst hv
   have hp:=zf
   have W0:∀w∈tE,U w:=λw hw=>(List.mem_append.1 hw).elim (q2 w) (BZ _ w)
   refine nL (mz λx2 e2=>Cu ?_)
   rw[<-e2]at b1 b2
   have hu:∀w∈tE++x2,U w:=λw hw=>(List.mem_append.1 hw).elim (W0 w) (b2 w)
   have hlen:(tE++x2).length<=256:=by rw[lA];omega
   refine ly (λhb=>?_) (λhb=>?_)
   ·have hb:=oY hb;omega
   ·obtain⟨c1,c2⟩:=Zqf hu hlen
    refine nL (mz λx3 h3=>?_)
    rw[<-h3]at c1 c2
    have rn:=vl c1 (by omega)
    refine ly (λ_=>nL (mz λx4 hx=>mZ ?_)) (λ_=>mZ ⟨c1,by omega⟩)
    have e:x3=lr 8 4 (tE++(x2++cO (96-x2.length) 0)):=by
     rw[h3]
     have IL:(x2++cO (96-x2.length) (0:Int)).length=96:=by rw[lA,cS];omega
     refine xf _ _ hlen (by rw[lA,IL];omega) ?_
     rw[lA,lA,IL,hp,aM,aM,aM,show 256-(160+96)=0 by omega,show 256-(160+x2.length)=96-x2.length by omega]
     simp
    have h0:x4.2.2.2=0:=by
     rw[hx,e]
     exact zY _ (by rw[lA,cS];omega)
    exact(by rw[hx];exact rn:x4.2.2.2=0->gz 8 x4.1/\x4.1.B6<=87) h0
 ·have hk:=oN hk
  refine nL (mz λx2 e2=>Cu ?_)
  rw[<-e2]at b1 b2
  refine ly (λhb=>?_) (λhb=>?_)
  ·have hb:=oY hb;omega
  ·obtain⟨c1,c2⟩:=Zqf b2 (by omega)
   refine nL (mz λx3 h3=>?_)
   rw[<-h3]at c1 c2
   exact ly (λh=>absurd (eq_of_beq h) (by omega)) (λ_=>mZ ⟨c1,by omega⟩)
theorem Fi{m:bc}(g:gz P m)(hc:U clock):gz P (Eb m clock).1:=by
 have s:=(Tree.pp (Xc g.s g.ok.tF hc)).2
 change _/\Good P m (Eb m clock).1 at s
 have k:=s.2.ok
 exact⟨⟨k.oy,k.mem,k.my,k.wF,⟨k.target,k.given⟩,s.2.tF⟩,s.2.may g.may⟩
theorem Z6l{m:bc}(g:gz P m)(hc:U clock):Ud m clock:=(Tree.pp (Xc g.s g.ok.tF hc)).1
theorem gz.nu{m:bc}(h:gz P m):Q1 P m.Mem:=h.ok.mem
theorem Zqm{m:bc}(h:gz 8 m){M:List Int}(hM:Q1 8 M):gz 8 {m with Mem:=M}:=by
 refine⟨⟨h.ok.oy,hM,h.ok.my,h.ok.wF,h.ok.target,h.ok.tF⟩,?_⟩
 obtain⟨g1,g2,g3,g4,g5⟩:=(Lf m).1 h.may
 have id:∀{p:Prop},p->p:=λh=>h
 refine(Lf _).2 ⟨?_,g2,g3,g4,?_⟩
 ·show jQ M≠0
  rw[ur hM];decide
 ·exact IQ (m:=m) (P:=8) h.ok.mem hM id id id id id g5
theorem qN:Q1 8 (cO 256 0):=⟨by simp,by decide,by decide,λw hw=>by rw[eR hw];exact gd⟩
theorem xal{s t:List Int}(hl:s.length<=1000000000000):Ue s t=true->s=t:=by
 have h:(LY s t).w λr=>r=true->s=t:=by
  unfold LY
  refine ab (λ_=>bg λh=>by cases h) (λhe=>?_)
  have he:s.length=t.length:=by
   have:(s.length:Int)=t.length:=by simpa using he
   omega
  refine fj (inv:=λz:Int=>∃i:Nat,z=i/\i<=s.length/\∀j,j<i->s.getD j 0=t.getD j 0) (μ:=OT s t) ⟨0,rfl,bC _,λj h=>by omega⟩ (cN _) ?_
  rintro _ ⟨i,rfl,hi,hj⟩
  refine ab (λbd=>?_) (λgh=>bg λ_=>?_)
  ·have bd:i<s.length:=by simpa using bd
   have ew:wrap .i64 ((i:Int)+1)=((i+1:Nat):Int):=by rw[wi (by omega) (by omega)];omega
   refine aw (lu bd) (aw (lu (by omega)) (ab (λ_=>bg λh=>by cases h) (λheq=>ep ⟨⟨i+1,ew,bd,λj LZ=>?_⟩,by simp only[OT,ew];omega⟩)))
   rw[dX]at heq
   rcases Nat.lt_succ_iff_lt_or_eq.1 LZ with h|h
   ·exact hj j h
   ·subst h;simpa using heq
  ·have gh:s.length<=i:=by simpa using gh
   refine bR he λj h1 h2=>?_
   have:=hj j (by omega)
   simpa[aV,h1,h2]using this
 exact(Tree.pp h).2
theorem Zjm(ha:Q1 P a)(hb:Q1 P b):X8 a b/\(Q3 a b).length<=P/\ ∀k:Nat,k<P->(k:Int)∈Q3 a b\/(a.drop (k*32)).take 32=(b.drop (k*32)).take 32:=by
  have h:(OU a b).w λr=>r.length<=P/\ ∀k:Nat,k<P->(k:Int)∈r\/(a.drop (k*32)).take 32=(b.drop (k*32)).take 32:=by
    have la:=ha.len
    have lb:=hb.len
    have hp:=ha.p2
    unfold OU
    refine aq λx0 h0=>aq λx1 h1=> ?_
    have h0:x0=P:=h0.trans (LW la hp)
    have h1:x1=P:=h1.trans (LW lb hp)
    subst h0;subst h1
    refine ab (λh=>by simp at h) (λ_=> ?_)
    refine fj (inv:=λz:Int×List Int=> ∃i:Nat,z.1=i/\i<=P/\z.2.length<=i/\ ∀k:Nat,k<i->(k:Int)∈z.2\/(a.drop (k*32)).take 32=(b.drop (k*32)).take 32) (μ:=λz=>(P-z.1).toNat) ⟨0,rfl,bC _,by simp,λk h=>by omega⟩ (by simp only[Qhy];omega) ?_
    rintro⟨_,x⟩ ⟨i,rfl,hi,hx,hk⟩
    simp only at hx hk
    refine ab (λbd=> ?_) (λgh=>bg ?_)
    . have bd:i<P:=by simpa using bd
      have ew:wrap .i64 ((i:Int)+1)=((i+1:Nat):Int):=by rw[wi (by omega) (by omega)];omega
      have e1:wrap .i64 ((i:Int)*32)=((i*32:Nat):Int):=by rw[wi (by omega) (by omega)];omega
      have e2:wrap .i64 (((i+1:Nat):Int)*32)=((i*32+32:Nat):Int):=by rw[wi (by omega) (by omega)];omega
      simp only[ew,e1,e2,dX,show i*32+32-i*32=32 by omega]
      refine aw (by rw[dY (by omega)];rfl) (aw (by rw[dY (by omega)];rfl) (c8 (show _<=_ by simp;omega) (aq λx2 h2=> ?_)))
      have h2:x2=Ue _ _:=h2
      refine ab (λhn=>aw (dY (by omega)) (ep ⟨⟨i+1,rfl,bd,by simp;omega,λk we=> ?_⟩,by omega⟩)) (λhn=>ep ⟨⟨i+1,rfl,bd,by show x.length<=_;omega,λk we=> ?_⟩,by omega⟩)
      . rcases Nat.lt_succ_iff_lt_or_eq.1 we with h|h
        . rcases hk k h with h|h
          . exact .inl (eS _ h)
          . exact .inr h
        . subst h;exact .inl (by simp)
      . rcases Nat.lt_succ_iff_lt_or_eq.1 we with h|h
        . exact hk k h
        . subst h
          have:x2=true:=by simpa using hn
          exact .inr (xal (by simp;omega) (h2.symm.trans this))
    . have gh:P<=i:=by simpa using gh
      exact⟨by show x.length<=P;omega,λk we=>hk k (by omega)⟩
  exact Tree.pp h
theorem Qw:∀{l:List Int} {d:List Bool} {k:Nat},k<d.length->(d.getD k false=true\/(k:Int)∈l)->(rk d l).getD k false=true
 |[],d,k,_,h=>by
  rcases h with h|h
  ·exact h
  ·cases h
 |f :: l,d,k,hk,h=>by
  simp only[rk]
  by_cases hf:0<=f/\f<d.length
  ·rw [if_pos hf]
   refine Qw (by simpa using hk) ?_
   by_cases e:f.toNat=k
   ·refine .inl ?_
    subst e
    simp[aV,hk]
   ·rcases h with h|h
    ·refine .inl ?_
     rw[cX,List.getElem?_set_ne e,<-cX];exact h
    ·rcases List.mem_cons.1 h with h|h
     ·omega
     ·exact .inr h
  ·rw[if_neg hf]
   refine Qw hk ?_
   rcases h with h|h
   ·exact .inl h
   ·rcases List.mem_cons.1 h with h|h
    ·omega
    ·exact .inr h
theorem qm{j:Nat}(h:(a.drop (j/32*32)).take 32=(b.drop (j/32*32)).take 32):a.getD j 0=b.getD j 0:=by
 have e:=congrArg (λl=>l.getD (j%32) 0) h
 have hm:j%32<32:=Nat.mod_lt _ (by decide)
 simp only[cX,List.getElem?_take,hm,if_true,List.getElem?_drop]at e
 rw[show j/32*32+j%32=j by omega]at e
 simpa only[cX]using e
theorem y3{m d:List Int}{b:Nat}(h:m.getD (b/4) 0=d.getD (b/4) 0):lN m b=lN d b:=by unfold lN;rw[h]
theorem xm{c:gb}{m:List Int}(hP:1<=P)(hm:Q1 P m)(hd:c.B0.length=P)(r0:0<=c.B8)(r1:c.B8<=10)(s0:0<=c.D6)(s1:c.D6<=352):uB c m=(⟨cO P false,c.B8+1,c.D6+(ib c.B0 0).length⟩,mN m (ib c.B0 0)):=by
 have:=TV c.B0 0
 have hP2:=hm.p2
 unfold uB
 rw[if_pos ⟨by rw[Zl6];exact dY (by omega),r1,by rw[LW (P:=P) hm.len hP2,hd]⟩,wi (by omega) (by omega),wi (by omega) (by omega),hd]
theorem zm{c:gb}{m:List Int}(hb:c.B0.length<=1000000000000):X9 c m/\Jg c m=uB c m:=by
 have h:(OV c m).w λr=>r=uB c m:=by
  unfold OV
  refine c8 (T8 hb).1 (aq λx hx=>?_)
  have hx:x=OO c:=hx
  rw[(T8 hb).2]at hx;subst hx
  refine aq λv hv=>?_
  have hv:v=uD x:=hv
  refine ab (λh1=>bg ?_) (λh1=>?_)
  ·have:uD x=false:=by rw[hv]at h1;simpa using h1
   simp[uB,this]
  have hV:uD x=true:=by rw[hv]at h1;simpa using h1
  obtain⟨v1,v2,v3,v4,v5,v6⟩:=Zh3 hV
  refine ab (λh2=>bg ?_) (λh2=>?_)
  ·have:¬x.B8<=10:=by simpa using h2
   simp[uB,this]
  have h2:x.B8<=10:=by simpa using h2
  refine aq λp hp=>?_
  have hp:p=jQ m:=hp
  refine ab (λh3=>bg ?_) (λh3=>?_)
  ·have:¬jQ m=x.B0.length:=by rw[hp]at h3;simpa using h3
   simp[uB,this]
  have h3:jQ m=x.B0.length:=by rw[hp]at h3;simpa using h3
  obtain⟨l1,l2⟩:=zl h3 v1
  have hr:=Tree.pp (qal l1 l2 rfl)
  refine aq λ_ _=>c8 hr.1 (aq λy hy=>aw ?_ (bg ?_))
  ·rw[dY (by omega)];rfl
  ·have hy:y=Uf m [] x.B0:=hy
   have e:Uf m [] x.B0=(m,mN m (ib x.B0 0),x.B0):=hr.2
   rw[hy,e]
   simp[uB,hV,h2,h3,mN]
 exact Tree.pp h
theorem xN{c:gb}{m:List Int}(hm:Q1 8 m)(hd:c.B0.length=8)(r0:0<=c.B8)(r1:c.B8<=10)(s0:0<=c.D6)(s1:c.D6<=8*c.B8):uB c m=(⟨cO 8 false,c.B8+1,c.D6+(ib c.B0 0).length⟩,mN m (ib c.B0 0)):=
 xm (P:=8) (by decide) hm hd r0 r1 s0 (by omega)
theorem Jh{m:List Int}(hm:Q1 8 m)(hf:f<8):Cl m f (jG m f).1/\(jG m f).2=true:=(Tree.pp (xi hm (f:=(f:Int)) (by omega) (by omega))).2
theorem ym{m:List Int}(hm:Q1 8 m)(hf:f<8):(jG m f).1.length=128:=(Jh hm hf).1.1
theorem Zbk(ha:Q1 8 a)(hb:Q1 8 b)(hf:f<8)(h:∀k:Nat,k<128->lN a (f*128+k)=lN b (f*128+k)):(jG a f).1=(jG b f).1:=by
 obtain⟨p1,p2⟩:=(Jh ha hf).1
 obtain⟨q1,q2⟩:=(Jh hb hf).1
 have e:((f:Int)*128).toNat=f*128:=by omega
 refine qi (m:=a) (f:=f) ⟨p1,p2⟩ ⟨q1,λk hk=>?_⟩
 rw[q2 k hk,e,h k hk]
theorem zN(ha:Q1 8 a)(hb:Q1 8 b)(hf:f<8)(h:(jG a f).1=(jG b f).1){k:Nat}(hk:k<128):lN a (f*128+k)=lN b (f*128+k):=by
 have p:=(Jh ha hf).1.2 k hk
 have q:=(Jh hb hf).1.2 k hk
 have e:((f:Int)*128).toNat=f*128:=by omega
 rw[e]at p q
 rw[<-p,<-q,h]
theorem yN(ha:Q1 8 a)(hb:Q1 8 b)(hf:f<8)(h:¬(f:Int)∈Q3 a b):(jG a f).1=(jG b f).1:=by
 obtain⟨_,_,c⟩:=Zjm ha hb
 refine Zbk ha hb hf λk hk=>y3 ?_
 rcases c f hf with c|c
 ·exact absurd c h
 ·exact qm (by rw[show(f*128+k)/4/32=f by omega];exact c)
theorem Ug{m:List Int}(hm:Q1 8 m)(hf:f<8){d:List UInt8}(hd:d.length=128):(rP m f d).2=true/\Q1 8 (rP m f d).1/\∀b:Nat,lN (rP m f d).1 b=if(f:Int)*128<=b/\(b:Int)<(f:Int)*128+128 then((d.getD (b-(f:Int)*128).toNat 0).toNat:Int)else lN m b:=(Tree.pp (Xk hm (f:=(f:Int)) (by omega) (by omega) hd)).2
theorem Zkz{m:List Int}(hm:Q1 8 m)(hf:f<8){d:List UInt8}(hd:d.length=128):Uh m f d:=(Tree.pp (Xk hm (f:=(f:Int)) (by omega) (by omega) hd)).1
theorem Znl{m:List Int}(hm:Q1 8 m)(hf:f<8){d:List UInt8}(hd:d.length=128):Q1 8 (rP m f d).1:=(Ug hm hf hd).2.1
theorem Zo4{m:List Int}(hm:Q1 8 m)(hf:f<8){d:List UInt8}(hd:d.length=128):(jG (rP m f d).1 f).1=d:=by
 obtain⟨_,ok,h⟩:=Ug hm hf hd
 refine qi (Jh ok hf).1 ⟨hd,λk hk=>?_⟩
 rw[h,if_pos (by omega)]
 congr 3;omega
theorem Zmu{m:List Int}(hm:Q1 8 m){f k:Nat}(hf:f<8)(hk:k<8)(hn:k≠f){d:List UInt8}(hd:d.length=128):(jG (rP m f d).1 k).1=(jG m k).1:=by
 obtain⟨_,ok,h⟩:=Ug hm hf hd
 refine Zbk ok hm hk λj hj=>?_
 rw[h,if_neg (by omega)]
theorem vm(ha:Q1 8 a)(hb:Q1 8 b)(h:∀f:Nat,f<8->(jG a f).1=(jG b f).1):a=b:=by
 have la:=ha.len
 have lb:=hb.len
 refine zh (la.trans lb.symm) ha.u hb.u λk=>?_
 by_cases hk:k/128<8
 ·have:=zN ha hb hk (h _ hk) (k:=k%128) (Nat.mod_lt _ (by decide))
  rwa [show k/128*128+k%128=k by omega]at this
 ·refine y3 ?_
  simp[aV,aJ (show a.length<=k/4 by omega),aJ (show b.length<=k/4 by omega)]
theorem qam{c:gb}(hd:c.B0.length=8)(r0:0<=c.B8)(r1:c.B8<=11)(s0:0<=c.D6)(s1:c.D6<=8*c.B8):Je c 32=true:=by
 have:=TV c.B0 0
 rw[(y0 (c:=c) (fi:=32) (by omega)).2,Zl6,dY (show 1<=c.B0.length/\c.B0.length<=32/\0<=c.B8/\c.B8<=11/\0<=c.D6/\c.D6<=352 by omega),dY (show((ib c.B0 0).length:Int)<=32 by omega)]
 rfl
def Cv(s:iO):Prop:=s.ae.length=4/\(∀b∈s.ae,b.length=128)/\1<=s.D5/\s.D5<=2/\0<=s.D7
theorem Zq2{s:iO}(h:Cv s):(Qa s).w λr=>r=true:=by
 obtain⟨b1,b2,b3,b4,b5⟩:=h
 unfold Qa
 refine ab (λh=>absurd (oY h) (by omega)) λ_=>ab (λh=>absurd (oY h) (by omega)) λ_=>ab (λh=>absurd (oY h) (by omega)) λ_=>?_
 refine fj (inv:=λz:Int=>∃i:Nat,z=i/\i<=s.ae.length) (μ:=Ya s) ⟨0,rfl,bC _⟩ (cN _) ?_
 rintro _ ⟨i,rfl,hi⟩
 refine ab (λbd=>?_) (λgh=>ab (λh=>?_) (λ_=>bg (dY (by omega))))
 ·have bd:i<s.ae.length:=by simpa using bd
  have ew:wrap .i64 ((i:Int)+1)=((i+1:Nat):Int):=by rw[wi (by omega) (by omega)];omega
  refine aw (lu bd) (ab (λh=>?_) (λ_=>ep ⟨⟨i+1,ew,bd⟩,by simp only[Ya,ew];omega⟩))
  exfalso
  have e:s.ae.getD (dA (i:Int)) (RK.ed RK.str)=s.ae[i]:=by simp[aV,bd]
  rw[e,b2 _ (eT bd)]at h
  cases h
 ·have h:s.D5=0:=by simpa using h
  omega
theorem Yb{s:iO}(h:Cv s)(h0:0<=host)(seen:Int):(OW s host seen).w λr=>r=if s.D5=seen then({s with D5:=s.D5+1,D7:=host},true)else(s,false):=by
 have v:=Tree.pp (Zq2 h)
 obtain⟨b1,b2,b3,b4,b5⟩:=h
 unfold OW
 have cp:(OX s).w λr=>r=s:=by
  unfold OX
  exact c8 (show s.ae.length<=1000000000000 by omega) (aq λx hx=>by have hx:x=s.ae:=hx;subst hx;exact bg rfl)
 refine cv cp λx0 e0=>?_
 subst e0
 refine c8 v.1 (aq λx1 h1=>?_)
 have h1:x1=true:=h1.trans v.2
 subst h1
 refine ab (λh=>by cases h) λ_=>ab (λh=>absurd (oY h) (by omega)) λ_=>ab (λh=>bg ?_) λh=>?_
 ·have:x0.D5≠seen:=by simpa using h
  rw[if_neg this]
 ·have h:x0.D5=seen:=by simpa using h
  refine ab (λh=>absurd (oY h) (by omega)) λ_=>bg ?_
  have e:wrap .u64 (x0.D5+1)=x0.D5+1:=by rw[wrap_u64];omega
  rw[if_pos h,e]
theorem Zoh{s:iO}(h:Cv s)(h0:0<=host)(seen:Int):mA s host seen=if s.D5=seen then({s with D5:=s.D5+1,D7:=host},true)else(s,false):=(Tree.pp (Yb h h0 seen)).2
def zM:bc:=(RK.ed RK.aa).A0
def fv(l:List fg)(x:fg):List fg:=if l.length<64 then l++[x]else l
def pq(l xs:List fg):List fg:=xs.foldl fv l
theorem Ji(h:y∈fv l x):y∈l\/y=x:=by
 unfold fv at h;split at h
 ·rcases List.mem_append.1 h with h|h
  ·exact .inl h
  ·exact .inr (List.mem_singleton.1 h)
 ·exact .inl h
theorem Zox(h:y∈l):y∈fv l x:=by
 unfold fv;split
 ·exact eS _ h
 ·exact h
theorem L0(h:l.length<=64):(fv l x).length<=64:=by
 unfold fv;split
 ·rw[lA,cY];omega
 ·exact h
theorem OY:∀{l:List fg} {y:fg},y∈pq l xs->y∈l\/y∈xs:=by
 induction xs with
 |nil=>intro l y h;exact .inl h
 |cons x xs ih=>
  intro l y h
  rcases ih (l:=fv l x) h with h|h
  ·rcases Ji h with h|h
   ·exact .inl h
   ·exact .inr (by rw[h];exact eU ..)
  ·exact .inr (eV _ h)
theorem Zhv:∀{l:List fg},l.length<=64->(pq l xs).length<=64:=by
 induction xs with
 |nil=>intro l h;exact h
 |cons x xs ih=>intro l h;exact ih (l:=fv l x) (L0 h)
theorem vN:∀{l:List fg},l.length+xs.length<=64->pq l xs=l++xs:=by
 induction xs with
 |nil=>intro l h;simp[pq]
 |cons x xs ih=>
  intro l h
  have h:l.length+(xs.length+1)<=64:=h
  have e:fv l x=l++[x]:=if_pos (by omega)
  have:=ih (l:=l++[x]) (by rw[lA,cY];omega)
  show pq (fv l x) xs=_
  rw[e,this,aM];rfl
def tJ(r f:Int)(d:List UInt8):fg:=⟨1,r,f,d,zM,[]⟩
def uE(s:ia):fg:=⟨2,0,0,[],{s.A0 with Mem:=[]},s.A3⟩
def Cw(k:Int):fg:=⟨k,0,0,[],zM,[]⟩
def rQ(R fs:List Int)(v:Int):List Int:=fs.foldl (λR f=>R.set f.toNat v) R
theorem Ui{v:Int}:∀{R:List Int},(rQ R fs v).length=R.length:=by
 induction fs with
 |nil=>intro R;rfl
 |cons x xs ih=>intro R;exact(ih (R:=R.set x.toNat v)).trans dC
theorem Ew{R:List Int}{i k:Nat}{v:Int}(hk:k<R.length):(R.set i v).getD k 0=if i=k then v else R.getD k 0:=by
 simp only[cX,List.getElem?_set]
 by_cases h:i=k
 ·subst h;simp[hk]
 ·simp[h]
theorem Zco{v:Int}(hf:∀f∈fs,0<=f):∀{R:List Int} {k:Nat},k<R.length->(rQ R fs v).getD k 0=if(k:Int)∈fs then v else R.getD k 0:=by
 induction fs with
 |nil=>intro R k hk;simp[rQ]
 |cons x xs ih=>
  intro R k hk
  have h:=ih (λf h=>hf f (eV _ h)) (R:=R.set x.toNat v) (k:=k) (by rw[dC];exact hk)
  show(rQ (R.set x.toNat v) xs v).getD k 0=_
  rw[h,Ew hk]
  have x0:=hf x (eU ..)
  by_cases h1:(k:Int)∈xs
  ·rw[if_pos h1,if_pos (eV _ h1)]
  ·rw [if_neg h1]
   by_cases h2:x.toNat=k
   ·rw[if_pos h2,if_pos (by rw[show(k:Int)=x by omega];exact eU ..)]
   ·rw[if_neg h2,if_neg (λh=>by
     rcases List.mem_cons.1 h with h|h
     ·omega
     ·exact h1 h)]
theorem qn:∀{Dd:List Bool} {k:Int} {f:Nat},k+(f:Int)∈ib Dd k↔Dd.getD f false=true
 |[],k,f=>by simp[ib]
 |b::Dd,k,0=>by
  have no:¬k∈ib Dd (k+1):=λh=>by have:=OJ h;omega
  simp only[ib]
  cases b<;>simp[no]
 |b ::Dd,k,f+1=>by
  have ih:=qn (Dd:=Dd) (k:=k+1) (f:=f)
  have e:k+((f+1:Nat):Int)=k+1+(f:Int):=by omega
  rw[e]
  simp only[ib,List.getD_cons_succ]
  split
  ·rw[List.mem_cons]
   constructor
   ·rintro(h|h)
    ·omega
    ·exact ih.1 h
   ·exactλh=>.inr (ih.2 h)
  ·exact ih
theorem Uj:(f:Int)∈ib Dd 0↔Dd.getD f false=true:=by
 have:=qn (Dd:=Dd) (k:=0) (f:=f)
 rwa [Int.zero_add]at this
def L1(g:dr):dr:=
 { g with
   A1:={g.A1 with B1:=(uB g.A1.B1 g.A1.A0.Mem).1,A3:=rQ g.A1.A3 ((uB g.A1.B1 g.A1.A0.Mem).2.map (·.Frame)) (uB g.A1.B1 g.A1.A0.Mem).1.B8}
   A6:=pq g.A6 ((uB g.A1.B1 g.A1.A0.Mem).2.map λp=>tJ (uB g.A1.B1 g.A1.A0.Mem).1.B8 p.Frame p.F1)}
def Hd(g:dr):dr:=
 {g with A1:={g.A1 with A4:=2},A6:=fv g.A6 (uE g.A1)}
def Ec(g:dr)(fi:Int):dr:=
 if g.A1.A4=1/\Je g.A1.B1 fi=true then Hd (L1 g)else g
def sH(s:ia):List fg:=(List.range 8).map λf=>tJ (s.A3.getD f 0) f (jG s.A0.Mem f).1
theorem xn(s:ia):(sH s).length=8:=by
 unfold sH;rw[eW,List.length_range]
def L2(g:dr):dr:=
 if g.A1.A4=2 then{g with A6:=pq g.A6 (sH g.A1++[uE g.A1])}else g
def j0(g:dr):Int:=if g.A1.A4=1\/g.A1.A4=3 then 0 else if g.A2.A4=3 then 1 else-1
def lz(m:bc)(clock:Int):Nat->bc
 |0=>m
 |n+1=>(Eb (lz m clock n) clock).1
def runN(n:Int):Nat:=(min (max n 0) 64).toNat
def rm(s:ia)(m:bc):gb:=if s.A4=1 then{s.B1 with B0:=rk s.B1.B0 (Q3 s.A0.Mem m.Mem)}else s.B1
def iy(g:dr)(n clock:Int):dr:=
 if g.A1.A4=1\/g.A1.A4=3 then{g with A1:={g.A1 with A0:=lz g.A1.A0 clock (runN n),B1:=rm g.A1 (lz g.A1.A0 clock (runN n))}}
 else if g.A2.A4=3 then{g with A2:={g.A2 with A0:=lz g.A2.A0 clock (runN n)}}
 else g
def iK(t:ia)(x:fg):ia:=
 if¬(t.A4=0\/t.A4=1\/t.A4=2)then t
 else if x.C2=1 then
  (if 0<=x.Frame/\x.Frame<t.A3.length/\t.A3.getD x.Frame.toNat 0<x.B8 then
   {t with A4:=if t.A4=0 then 1 else t.A4,A0:={t.A0 with Mem:=(rP t.A0.Mem x.Frame x.F1).1},A3:=t.A3.set x.Frame.toNat x.B8}
  else t)
 else if x.C2=2 then(if t.A4=2 then t else{t with A4:=2,A0:={x.A0 with Mem:=t.A0.Mem},C0:=x.A3})
 else if x.C2=4 then{t with A4:=4}else t
def lY(g:dr)(back:Bool):List fg:=if back=true then g.C1 else g.A6
def pr(g:dr)(back:Bool)(l:List fg):dr:=if back=true then{g with C1:=l}else{g with A6:=l}
def lB(l:List fg)(i:Int):Prop:=0<=i/\i<l.length
instance (l:List fg) (i:Int):Decidable (lB l i):=by unfold lB;infer_instance
def na(l:List fg)(i:Int):fg:=l.getD i.toNat (RK.ed RK.aa)
def lD(l:List fg)(i:Int):List fg:=l.take i.toNat++l.drop (i.toNat+1)
def tK(g:dr)(back:Bool)(i:Int):dr:=if lB (lY g back) i then pr g back (lD (lY g back) i)else g
def L3(g:dr)(back:Bool)(x:fg):dr:=
 if back=true then(if g.A1.A4=2/\x.C2=3 then{g with A1:={g.A1 with A4:=4}}else g)else{g with A2:=iK g.A2 x}
def mO(g:dr)(back:Bool)(i:Int):dr:=if lB (lY g back) i then L3 (tK g back i) back (na (lY g back) i)else g
def rR(g:dr)(back:Bool)(i:Int):dr:=if lB (lY g back) i then pr g back (fv (lY g back) (na (lY g back) i))else g
def uF(g:dr):Prop:=g.A2.A4=2/\g.A2.A3=g.A2.C0
instance (g:dr):Decidable (uF g):=by unfold uF;infer_instance
def sI(g:dr):dr:=
 if uF g then
  (if(mA g.A9 1 g.A2.D5).2=true then{g with A9:=(mA g.A9 1 g.A2.D5).1,A2:={g.A2 with A4:=3,D5:=(mA g.A9 1 g.A2.D5).1.D5},C1:=fv g.C1 (Cw 3)}
  else{g with A2:={g.A2 with A4:=4}})
 else g
def oz(g:dr):dr:=
 if g.A1.A4=1 then{g with A1:={g.A1 with A4:=3},A6:=fv g.A6 (Cw 4)}
 else if g.A1.A4=2 then
  (if(mA g.A9 0 g.A1.D5).2=true then{g with A9:=(mA g.A9 0 g.A1.D5).1,A1:={g.A1 with A4:=3,D5:=(mA g.A9 0 g.A1.D5).1.D5},A6:=fv g.A6 (Cw 4)}
  else{g with A1:={g.A1 with A4:=4}})
 else g
def Zk(g:dr)(back:Bool):dr:=if back=true then{g with A2:={g.A2 with A4:=4}}else{g with A1:={g.A1 with A4:=4}}
def lZ(g:dr)(a:kU):dr×Bool:=
 if a.C2=1 then(iy g a.N a.F5,true)
 else if a.C2=2 then(if g.A1.A4=1/\g.A1.B1.B8<10 then L1 g else g,true)
 else if a.C2=3 then(Ec g a.N,true)
 else if a.C2=4 then(L2 g,true)
 else if a.C2=5 then(mO g a.C1 a.N,true)
 else if a.C2=6 then(tK g a.C1 a.N,true)
 else if a.C2=7 then(rR g a.C1 a.N,true)
 else if a.C2=8 then(sI g,true)
 else if a.C2=9 then(oz g,true)
 else if a.C2=10 then(Zk g a.C1,true)
 else(g,false)
structure jE(x:fg):Prop where
 mem:x.A0.Mem=[]
 rl:x.A3.length<=8
 pg:x.C2=1->0<=x.Frame/\x.Frame<8/\x.F1.length=128
 stt:x.C2=2->∀M,Q1 8 M->gz 8 {x.A0 with Mem:=M}
structure fq(g:dr):Prop where
 src:gz 8 g.A1.A0
 dl:g.A1.B1.B0.length=8
 r0:0<=g.A1.B1.B8
 r1:g.A1.B1.B8<=11
 r2:g.A1.A4=1->g.A1.B1.B8<=10
 s0:0<=g.A1.B1.D6
 s1:g.A1.B1.D6<=8*g.A1.B1.B8
 rl:g.A1.A3.length=8
 sf:g.A1.C0.length<=8
 tc:g.A2.B1.B0.length<=8
 tl:g.A2.A3.length=8
 tm:Q1 8 g.A2.A0.Mem
 tg:g.A2.A4=2\/g.A2.A4=3->gz 8 g.A2.A0
 tf:g.A2.C0.length<=8
 fl:g.A6.length<=64
 fo:∀x∈g.A6,jE x
 bl:g.C1.length<=64
 bo:∀x∈g.C1,jE x
 st:Cv g.A9
theorem Zl3{m:List Int}(hm:Q1 8 m){r:Int}(hf:f<8):jE (tJ r f (jG m f).1):=
 ⟨rfl,bC _,λ_=>⟨by show(0:Int)<=(f:Int);omega,by show(f:Int)<8;omega,ym hm hf⟩,λh=>absurd (show(1:Int)=2 from h) (by decide)⟩
theorem Zb2{s:ia}(h:gz 8 s.A0)(hr:s.A3.length<=8):jE (uE s):=
 ⟨rfl,hr,λh=>absurd (show(2:Int)=1 from h) (by decide),λ_ M hM=>Zqm h hM⟩
theorem Yc(h1:k≠1)(h2:k≠2):jE (Cw k):=⟨rfl,bC _,λh=>absurd h h1,λh=>absurd h h2⟩
theorem sJ(h:∀y∈l,jE y)(hx:jE x):∀y∈fv l x,jE y:=λy hy=>by
 rcases Ji hy with h1|h1
 ·exact h y h1
 ·rw[h1];exact hx
theorem Cx(h:∀y∈l,jE y)(hx:∀y∈xs,jE y):∀y∈pq l xs,jE y:=λy hy=>(OY hy).elim (h y) (hx y)
section
variable {g:dr} (h:fq g)
include h
theorem fq.rp:Q1 8 g.A1.A0.Mem:=h.src.nu
theorem fq.round(hr:g.A1.B1.B8<=10):uB g.A1.B1 g.A1.A0.Mem=(⟨cO 8 false,g.A1.B1.B8+1,g.A1.B1.D6+(ib g.A1.B1.B0 0).length⟩,mN g.A1.A0.Mem (ib g.A1.B1.B0 0)):=xN h.rp h.dl h.r0 hr h.s0 h.s1
end
theorem Zf3(m l:List Int):(mN m l).map (·.Frame)=l:=by
 unfold mN;rw[List.map_map];exact List.map_id' l
def tL(c:gb)(m:List Int):List fg:=(mN m (ib c.B0 0)).map λp=>tJ (c.B8+1) p.Frame p.F1
def kG(g:dr):dr:=
 { g with
   A1:={g.A1 with B1:=⟨cO 8 false,g.A1.B1.B8+1,g.A1.B1.D6+(ib g.A1.B1.B0 0).length⟩,A3:=rQ g.A1.A3 (ib g.A1.B1.B0 0) (g.A1.B1.B8+1)}
   A6:=pq g.A6 (tL g.A1.B1 g.A1.A0.Mem)}
theorem He(h:fq g)(hr:g.A1.B1.B8<=10):L1 g=kG g:=by
 unfold L1 kG tL
 rw[h.round hr]
 simp only[Zf3]
theorem Yd(h:Dd.length=8):(ib Dd 0).length<=8:=by have:=TV Dd 0;omega
theorem y4:∀f∈ib Dd 0,0<=f:=λf hf=>(OJ hf).1
theorem Z4{c:gb}{m:List Int}(hd:c.B0.length=8)(h:x∈tL c m):∃f:Nat,f<8/\c.B0.getD f false=true/\x=tJ (c.B8+1) f (jG m f).1:=by
 unfold tL mN at h
 obtain⟨p,hp,rfl⟩:=List.mem_map.1 h
 obtain⟨f,hf,rfl⟩:=List.mem_map.1 hp
 have h1:=OJ hf
 obtain⟨k,rfl⟩:∃k:Nat,f=k:=⟨f.toNat,by omega⟩
 exact⟨k,by omega,Uj.1 hf,rfl⟩
theorem qO{c:gb}{m:List Int}(h:c.B0.getD f false=true):tJ (c.B8+1) f (jG m f).1∈tL c m:=by
 unfold tL mN
 exact List.mem_map.2 ⟨_,List.mem_map.2 ⟨(f:Int),Uj.2 h,rfl⟩,rfl⟩
theorem xO{c:gb}{m:List Int}(hd:c.B0.length=8):(tL c m).length<=8:=by
 unfold tL mN
 rw[eW,eW]
 exact Yd hd
theorem Zqc(h:fq g)(hr:g.A1.B1.B8<=10)(hp:g.A1.A4=1->g.A1.B1.B8<=9):fq (kG g):=by
 have hs:=Yd h.dl
 obtain⟨a1,a2,a3,a4,a5,a6,a7,a8,a9,kJ,kK,a12,kL,kM,kN,a16,a17,a18,a19⟩:=h
 refine⟨a1,by simp[kG],by show 0<=g.A1.B1.B8+1;omega,by show g.A1.B1.B8+1<=11;omega,λe=>by have:=hp e;show g.A1.B1.B8+1<=10;omega,by show 0<=g.A1.B1.D6+_;omega,by show g.A1.B1.D6+((ib g.A1.B1.B0 0).length:Int)<=8*(g.A1.B1.B8+1);omega,Ui.trans a8,a9,kJ,kK,a12,kL,kM,Zhv kN,Cx a16 λy hy=>?_,a17,a18,a19⟩
 obtain⟨f,hf,_,rfl⟩:=Z4 a2 hy
 exact Zl3 a1.nu hf
def Ed(g:dr):dr:=Hd (kG g)
theorem Ye(h:fq g)(hp:g.A1.A4=1):fq (Ed g):=by
 have h2:=h.r2 hp
 have h':fq {g with A1:={g.A1 with A4:=2}}:=⟨h.src,h.dl,h.r0,h.r1,λe=>absurd (show(2:Int)=1 from e) (by decide),h.s0,h.s1,h.rl,h.sf,h.tc,h.tl,h.tm,h.tg,h.tf,h.fl,h.fo,h.bl,h.bo,h.st⟩
 have r:=Zqc h' h2 (λe=>absurd (show(2:Int)=1 from e) (by decide))
 exact⟨r.src,r.dl,r.r0,r.r1,λe=>absurd (show(2:Int)=1 from e) (by decide),r.s0,r.s1,r.rl,r.sf,r.tc,r.tl,r.tm,r.tg,r.tf,L0 r.fl,sJ r.fo (Zb2 r.src (Nat.le_of_eq r.rl)),r.bl,r.bo,r.st⟩
theorem zn{s:ia}(h:x∈sH s):∃f:Nat,f<8/\x=tJ (s.A3.getD f 0) f (jG s.A0.Mem f).1:=by
 obtain⟨f,hf,rfl⟩:=List.mem_map.1 h
 exact⟨f,List.mem_range.1 hf,rfl⟩
theorem Z7r{s:ia}(h:x∈sH s++[uE s]):(∃f:Nat,f<8/\x=tJ (s.A3.getD f 0) f (jG s.A0.Mem f).1)\/x=uE s:=by
 rcases List.mem_append.1 h with h|h
 ·exact .inl (zn h)
 ·exact .inr (List.mem_singleton.1 h)
theorem fq.Jj(h:fq g)(hl:l.length<=64)(ho:∀x∈l,jE x):fq {g with A6:=l}:=
 ⟨h.src,h.dl,h.r0,h.r1,h.r2,h.s0,h.s1,h.rl,h.sf,h.tc,h.tl,h.tm,h.tg,h.tf,hl,ho,h.bl,h.bo,h.st⟩
def OZ(g:dr):dr:={g with A6:=pq g.A6 (sH g.A1++[uE g.A1])}
theorem yn(h:fq g):fq (OZ g):=by
 refine h.Jj (l:=pq g.A6 (sH g.A1++[uE g.A1])) (Zhv h.fl) (Cx h.fo λy hy=>?_)
 rcases Z7r hy with⟨f,hf,rfl⟩|rfl
 ·exact Zl3 h.rp hf
 ·exact Zb2 h.src (by have:=h.rl;omega)
theorem Jk{m:bc}(g:gz 8 m){clock:Int}(hc:U clock):∀n,gz 8 (lz m clock n)
 |0=>g
 |n+1=>Fi (Jk g hc n) hc
theorem Zj2{s:ia}{m:bc}:(rm s m).B0.length=s.B1.B0.length/\(rm s m).B8=s.B1.B8/\(rm s m).D6=s.B1.D6:=by
 unfold rm;split
 ·exact⟨Z1l _ _,rfl,rfl⟩
 ·exact⟨rfl,rfl,rfl⟩
theorem zam(h:fq g)(hc:U clock)(n:Int):fq (iy g n clock):=by
 unfold iy
 split
 ·obtain⟨e1,e2,e3⟩:=Zj2 (s:=g.A1) (m:=lz g.A1.A0 clock (runN n))
  exact⟨Jk h.src hc _,e1.trans h.dl,by show 0<=(rm _ _).B8;rw[e2];exact h.r0,by show(rm _ _).B8<=_;rw[e2];exact h.r1,λe=>by show(rm _ _).B8<=_;rw[e2];exact h.r2 e,by show 0<=(rm _ _).D6;rw[e3];exact h.s0,by show(rm _ _).D6<=8*(rm _ _).B8;rw[e2,e3];exact h.s1,h.rl,h.sf,h.tc,h.tl,h.tm,h.tg,h.tf,h.fl,h.fo,h.bl,h.bo,h.st⟩
 ·split
  ·rename_i hp
   have gt:=Jk (h.tg (.inr hp)) hc (runN n)
   exact⟨h.src,h.dl,h.r0,h.r1,h.r2,h.s0,h.s1,h.rl,h.sf,h.tc,h.tl,gt.nu,λ_=>gt,h.tf,h.fl,h.fo,h.bl,h.bo,h.st⟩
  ·exact h
structure Uk(t:ia):Prop where
 tc:t.B1.B0.length<=8
 tl:t.A3.length=8
 tm:Q1 8 t.A0.Mem
 tg:t.A4=2\/t.A4=3->gz 8 t.A0
 tf:t.C0.length<=8
theorem fq.t(h:fq g):Uk g.A2:=⟨h.tc,h.tl,h.tm,h.tg,h.tf⟩
theorem fq.Jl(h:fq g){t:ia}(k:Uk t):fq {g with A2:=t}:=
 ⟨h.src,h.dl,h.r0,h.r1,h.r2,h.s0,h.s1,h.rl,h.sf,k.tc,k.tl,k.tm,k.tg,k.tf,h.fl,h.fo,h.bl,h.bo,h.st⟩
theorem xam{t:ia}(h:Uk t)(hx:jE x):Uk (iK t x):=by
 unfold iK
 split
 ·exact h
 ·rename_i hp
  split
  ·rename_i hk
   split
   ·rename_i hf
    obtain⟨f0,f1,hd⟩:=hx.pg hk
    obtain⟨f,e⟩:∃f:Nat,x.Frame=f:=⟨x.Frame.toNat,by omega⟩
    have hm:Q1 8 (rP t.A0.Mem x.Frame x.F1).1:=by rw[e];exact Znl h.tm (by omega) hd
    refine⟨h.tc,List.length_set.trans h.tl,hm,λhq=>?_,h.tf⟩
    have hq:(if t.A4=0 then(1:Int)else t.A4)=2\/(if t.A4=0 then(1:Int)else t.A4)=3:=hq
    refine Zqm (h.tg ?_) hm
    by_cases h0:t.A4=0
    ·rw[if_pos h0]at hq;omega
    ·rw[if_neg h0]at hq;exact hq
   ·exact h
  ·split
   ·rename_i hk
    split
    ·exact h
    ·exact⟨h.tc,h.tl,h.tm,λ_=>hx.stt hk _ h.tm,hx.rl⟩
   ·split
    ·exact⟨h.tc,h.tl,h.tm,λhq=>by have hq:(4:Int)=2\/(4:Int)=3:=hq;omega,h.tf⟩
    ·exact h
theorem Fj(h:lB l i):na l i∈l:=by
 obtain⟨h0,h1⟩:=h
 have hl:i.toNat<l.length:=by omega
 have e:na l i=l[i.toNat]:=by simp[na,aV,hl]
 rw[e];exact eT hl
theorem O0(h:x∈lD l i):x∈l:=by
 rcases List.mem_append.1 h with h|h
 ·exact List.mem_of_mem_take h
 ·exact List.mem_of_mem_drop h
theorem vn(h:lB l i):(lD l i).length+1=l.length:=by
 obtain⟨h0,h1⟩:=h
 unfold lD
 rw[lA,aD,List.length_drop];omega
theorem qo(h:lB l i)(hx:x∈l):x∈lD l i\/x=na l i:=by
 obtain⟨h0,h1⟩:=h
 have hl:i.toNat<l.length:=by omega
 have e:l=l.take i.toNat++l.drop i.toNat:=(List.take_append_drop ..).symm
 have e2:l.drop i.toNat=l[i.toNat]::l.drop (i.toNat+1):=aO hl
 have e3:na l i=l[i.toNat]:=by simp[na,aV,hl]
 rw[e,e2]at hx
 rcases List.mem_append.1 hx with h|h
 ·exact .inl (eS _ h)
 ·rcases List.mem_cons.1 h with h|h
  ·exact .inr (h.trans e3.symm)
  ·exact .inl (eX _ h)
theorem fq.Fl(h:fq g)(hl:l.length<=64)(ho:∀x∈l,jE x):fq {g with C1:=l}:=
 ⟨h.src,h.dl,h.r0,h.r1,h.r2,h.s0,h.s1,h.rl,h.sf,h.tc,h.tl,h.tm,h.tg,h.tf,h.fl,h.fo,hl,ho,h.st⟩
theorem fq.F4(h:fq g)(b:Bool):(lY g b).length<=64/\∀x∈lY g b,jE x:=by
 cases b
 ·exact⟨h.fl,h.fo⟩
 ·exact⟨h.bl,h.bo⟩
theorem fq.set(h:fq g)(b:Bool)(hl:l.length<=64)(ho:∀x∈l,jE x):fq (pr g b l):=by
 cases b
 ·exact h.Jj hl ho
 ·exact h.Fl hl ho
theorem Yf(h:fq g)(b:Bool)(i:Int):fq (tK g b i):=by
 unfold tK;split
 ·rename_i hi
  have:=vn hi
  have:=(h.F4 b).1
  exact h.set b (by omega) λx hx=>(h.F4 b).2 x (O0 hx)
 ·exact h
theorem xo(h:fq g)(b:Bool)(i:Int):fq (rR g b i):=by
 unfold rR;split
 ·rename_i hi
  exact h.set b (L0 (h.F4 b).1) (sJ (h.F4 b).2 ((h.F4 b).2 _ (Fj hi)))
 ·exact h
theorem fq.phase(h:fq g){p:Int}(hp:p=1->g.A1.B1.B8<=10):fq {g with A1:={g.A1 with A4:=p}}:=
 ⟨h.src,h.dl,h.r0,h.r1,hp,h.s0,h.s1,h.rl,h.sf,h.tc,h.tl,h.tm,h.tg,h.tf,h.fl,h.fo,h.bl,h.bo,h.st⟩
theorem qan(h:fq g)(b:Bool)(hx:jE x):fq (L3 g b x):=by
 cases b
 ·exact h.Jl (xam h.t hx)
 ·show fq (if g.A1.A4=2/\x.C2=3 then _ else g)
  split
  ·exact h.phase (λe=>absurd e (by decide))
  ·exact h
theorem Zc5(h:fq g)(b:Bool)(i:Int):fq (mO g b i):=by
 unfold mO;split
 ·rename_i hi
  exact qan (Yf h b i) b ((h.F4 b).2 _ (Fj hi))
 ·exact h
theorem zO(h:fq g)(b:Bool):fq (Zk g b):=by
 cases b
 ·exact h.phase (λe=>absurd e (by decide))
 ·exact h.Jl ⟨h.tc,h.tl,h.tm,λhq=>by have hq:(4:Int)=2\/(4:Int)=3:=hq;omega,h.tf⟩
def Ay(g:dr):Prop:=∀f:Nat,f<8->
 g.A2.A3.getD f 0<=g.A1.A3.getD f 0/\
 g.A1.A3.getD f 0<=g.A1.B1.B8/\
 (g.A1.B1.B0.getD f false=false->0<g.A1.A3.getD f 0/\(g.A2.A3.getD f 0=g.A1.A3.getD f 0->(jG g.A1.A0.Mem f).1=(jG g.A2.A0.Mem f).1))/\
 ∀x∈g.A6,x.C2=1->x.Frame=f->x.B8<=g.A1.A3.getD f 0/\(g.A1.B1.B0.getD f false=false->x.B8=g.A1.A3.getD f 0->x.F1=(jG g.A1.A0.Mem f).1)
structure Bk(nc:Bool)(m:bc)(g:dr):Prop where
 sp:g.A1.A4=1
 gn:g.A9.D5=1/\g.A1.D5=1/\g.A2.D5=1
 mc:g.A1.A0=m
 tp:g.A2.A4=0\/g.A2.A4=1\/(g.A2.A4=4/\nc=false)
 ks:∀x∈g.A6,x.C2=1
 bk:g.C1=[]
 tr:Ay g
structure Hf(nc:Bool)(m:bc)(g:dr):Prop where
 sp:g.A1.A4=3\/(g.A1.A4=4/\nc=false)
 gn:g.A9.D5=1/\g.A1.D5=1/\g.A2.D5=1
 mc:g.A1.A4=3->g.A1.A0=m
 tp:g.A2.A4=0\/g.A2.A4=1\/g.A2.A4=4
 ks:∀x∈g.A6,x.C2=1\/x.C2=4
 bk:g.C1=[]
structure oW(nc:Bool)(m:bc)(g:dr):Prop where
 sp:g.A1.A4=2\/(g.A1.A4=4/\nc=false)
 gn:g.A9.D5=1/\g.A1.D5=1/\g.A2.D5=1
 mc:g.A1.A0=m
 cl:∀f,g.A1.B1.B0.getD f false=false
 tp:g.A2.A4=0\/g.A2.A4=1\/g.A2.A4=2\/(g.A2.A4=4/\nc=false)
 ks:∀x∈g.A6,x.C2=1\/(x.C2=2/\x.A0={m with Mem:=[]}/\x.A3=g.A1.A3)
 ts:g.A2.A4=2->g.A2.C0=g.A1.A3/\{g.A2.A0 with Mem:=[]}={m with Mem:=[]}
 bk:g.C1=[]
 tr:Ay g
structure Hg(nc:Bool)(m:bc)(g:dr):Prop where
 sp:g.A1.A4=3\/(g.A1.A4=4/\nc=false)
 gn:g.A9.D5=2/\g.A9.D7=0/\g.A2.D5=1
 mc:g.A1.A4=3->g.A1.A0=m
 tp:g.A2.A4≠3
 bk:g.C1=[]
structure L4(nc:Bool)(m:bc)(g:dr):Prop where
 sp:g.A1.A4=2\/g.A1.A4=4
 gn:g.A9.D5=2/\g.A9.D7=1/\g.A1.D5=1
 tp:g.A2.A4=3\/(g.A2.A4=4/\nc=false)
 mc:g.A2.A4=3->g.A2.A0=m
def Cy(nc:Bool)(m:bc)(g:dr):Prop:=Bk nc m g\/Hf nc m g\/oW nc m g\/Hg nc m g\/L4 nc m g
def Inv(nc:Bool)(m:bc)(g:dr):Prop:=fq g/\Cy nc m g
theorem Ztc(f:Nat):(cO 8 false).getD f false=false:=by
 simp only[cX,eY]
 split<;>rfl
theorem Zn7(h:fq g)(t:Ay g):Ay (kG g):=by
 intro f hf
 obtain⟨t1,t2,t3,t4⟩:=t f hf
 have hg:(rQ g.A1.A3 (ib g.A1.B1.B0 0) (g.A1.B1.B8+1)).getD f 0=if g.A1.B1.B0.getD f false=true then g.A1.B1.B8+1 else g.A1.A3.getD f 0:=by
  rw[Zco y4 (by rw[h.rl];exact hf)]
  simp only[Uj]
 show g.A2.A3.getD f 0<=(rQ _ _ _).getD f 0/\(rQ _ _ _).getD f 0<=g.A1.B1.B8+1/\((cO 8 false).getD f false=false->0<(rQ _ _ _).getD f 0/\(g.A2.A3.getD f 0=(rQ _ _ _).getD f 0->_))/\∀x∈pq _ _,x.C2=1->x.Frame=f->x.B8<=(rQ _ _ _).getD f 0/\((cO 8 false).getD f false=false->x.B8=(rQ _ _ _).getD f 0->_)
 have r0:=h.r0
 rw[hg]
 cases hd:g.A1.B1.B0.getD f false
 ·rw[if_neg (by decide)]
  refine⟨t1,by omega,λ_=>t3 hd,λx hx k1 k2=>?_⟩
  rcases OY hx with hx|hx
  ·exact⟨(t4 x hx k1 k2).1,λ_=>(t4 x hx k1 k2).2 hd⟩
  ·obtain⟨f',Ul,pw,rfl⟩:=Z4 h.dl hx
   have e:(f':Int)=f:=k2
   have e:f'=f:=by omega
   rw[e,hd]at pw;cases pw
 ·rw[if_pos rfl]
  refine⟨by omega,by omega,λ_=>⟨by omega,λe=>by omega⟩,λx hx k1 k2=>?_⟩
  rcases OY hx with hx|hx
  ·have:=(t4 x hx k1 k2).1
   exact⟨by omega,λ_ e=>by omega⟩
  ·obtain⟨f',Ul,pw,rfl⟩:=Z4 h.dl hx
   have e:(f':Int)=f:=k2
   have e:f'=f:=by omega
   subst e
   exact⟨eN _,λ_ _=>rfl⟩
theorem Ay.pR(t:Ay g)(hl:∀x∈l,x.C2=1->x∈g.A6\/∃f:Nat,f<8/\x=tJ (g.A1.A3.getD f 0) f (jG g.A1.A0.Mem f).1):Ay {g with A6:=l}:=by
 intro f hf
 obtain⟨t1,t2,t3,t4⟩:=t f hf
 refine⟨t1,t2,t3,λx hx k1 k2=>?_⟩
 rcases hl x hx k1 with hx|⟨f',Ul,rfl⟩
 ·exact t4 x hx k1 k2
 ·have e:(f':Int)=f:=k2
  have e:f'=f:=by omega
  subst e
  exact⟨eN _,λ_ _=>rfl⟩
theorem zo{t:ia}(hk:x.C2=1):iK t x=t\/((t.A4=0\/t.A4=1\/t.A4=2)/\0<=x.Frame/\x.Frame<t.A3.length/\t.A3.getD x.Frame.toNat 0<x.B8/\iK t x={t with A4:=if t.A4=0 then 1 else t.A4,A0:={t.A0 with Mem:=(rP t.A0.Mem x.Frame x.F1).1},A3:=t.A3.set x.Frame.toNat x.B8}):=by
 by_cases hp:t.A4=0\/t.A4=1\/t.A4=2
 ·by_cases hc:0<=x.Frame/\x.Frame<t.A3.length/\t.A3.getD x.Frame.toNat 0<x.B8
  ·exact .inr ⟨hp,hc.1,hc.2.1,hc.2.2,by unfold iK;rw[if_neg (λh=>h hp),if_pos hk,if_pos hc]⟩
  ·exact .inl (by unfold iK;rw[if_neg (λh=>h hp),if_pos hk,if_neg hc])
 ·exact .inl (by unfold iK;rw[if_pos hp])
theorem Zbu(h:fq g)(t:Ay g)(hx:jE x)(hk:x.C2=1)(hm:∀f:Nat,f<8->x.Frame=f->x.B8<=g.A1.A3.getD f 0/\(g.A1.B1.B0.getD f false=false->x.B8=g.A1.A3.getD f 0->x.F1=(jG g.A1.A0.Mem f).1)):Ay {g with A2:=iK g.A2 x}:=by
 obtain⟨f0,f1,hd⟩:=hx.pg hk
 obtain⟨k,ek⟩:∃f:Nat,x.Frame=f:=⟨x.Frame.toNat,by omega⟩
 have k8:k<8:=by omega
 intro f hf
 obtain⟨t1,t2,t3,t4⟩:=t f hf
 rcases zo (t:=g.A2) hk with e|⟨_,_,_,_,e⟩
 ·rw[e];exact⟨t1,t2,t3,t4⟩
 ·rw[e]
  obtain⟨m1,m2⟩:=hm k k8 ek
  have tl:=h.tl
  have sg:(g.A2.A3.set k x.B8).getD f 0=if k=f then x.B8 else g.A2.A3.getD f 0:=Ew (by omega)
  show(g.A2.A3.set x.Frame.toNat x.B8).getD f 0<=_/\_/\(_->_/\((g.A2.A3.set x.Frame.toNat x.B8).getD f 0=_->_=(jG (rP g.A2.A0.Mem x.Frame x.F1).1 f).1))/\_
  rw[ek,dX,sg]
  by_cases e:k=f
  ·subst e
   rw[if_pos rfl]
   exact⟨m1,t2,λd=>⟨(t3 d).1,λe2=>by rw[Zo4 h.tm k8 hd];exact(m2 d e2).symm⟩,t4⟩
  ·rw[if_neg e]
   exact⟨t1,t2,λd=>⟨(t3 d).1,λe2=>by rw[Zmu h.tm k8 hf (λe3=>e e3.symm) hd];exact(t3 d).2 e2⟩,t4⟩
theorem L5{t:ia}(hk:x.C2=1):(t.A4=0/\(iK t x).A4=1)\/(iK t x).A4=t.A4:=by
 rcases zo (t:=t) hk with e|⟨_,_,_,_,e⟩
 ·rw[e];exact .inr rfl
 ·rw[e]
  by_cases h:t.A4=0
  ·exact .inl ⟨h,by show(if t.A4=0 then(1:Int)else t.A4)=1;rw[if_pos h]⟩
  ·exact .inr (by show(if t.A4=0 then(1:Int)else t.A4)=_;rw[if_neg h])
theorem Zhz{t:ia}(hk:x.C2=1):(iK t x).D5=t.D5/\(iK t x).C0=t.C0/\{(iK t x).A0 with Mem:=[]}={t.A0 with Mem:=[]}:=by
 rcases zo (t:=t) hk with e|⟨_,_,_,_,e⟩<;>rw[e]<;>exact⟨rfl,rfl,rfl⟩
theorem Zq9{t:ia}:(iK t x).D5=t.D5:=by
 unfold iK
 repeat' split
 all_goals rfl
theorem yo{t:ia}(h:t.A4=3\/t.A4=4):iK t x=t:=by
 unfold iK
 rw[if_pos (by omega)]
theorem zan{t:ia}(h:t.A4≠3):(iK t x).A4≠3:=by
 by_cases hk:x.C2=1
 ·rcases L5 (t:=t) hk with⟨a,b⟩|b<;>omega
 ·unfold iK
  split
  ·exact h
  split
  ·split
   ·exact h
   ·show(2:Int)≠3;decide
  ·split
   ·show(4:Int)≠3;decide
   ·exact h
theorem vo{t:ia}(hk:x.C2=2)(hp:t.A4=0\/t.A4=1):iK t x={t with A4:=2,A0:={x.A0 with Mem:=t.A0.Mem},C0:=x.A3}:=by
 unfold iK
 rw[if_neg (by omega),if_neg (by omega),if_pos hk,if_neg (by omega)]
theorem qp{t:ia}(hk:x.C2=2)(hp:t.A4=2):iK t x=t:=by
 unfold iK
 rw[if_neg (by omega),if_neg (by omega),if_pos hk,if_pos hp]
theorem qaE{t:ia}(hk:x.C2=4):(iK t x).A4=4\/iK t x=t:=by
 by_cases hp:t.A4=0\/t.A4=1\/t.A4=2
 ·exact .inl (by unfold iK;rw[if_neg (λh=>h hp),if_neg (by omega),if_neg (by omega),if_pos hk])
 ·exact .inr (by unfold iK;rw[if_pos hp])
def uG(m:bc)(g:dr)(a:kU):bc:=if a.C2=1/\0<=j0 g then lz m a.F5 (runN a.N)else m
theorem L6(h:g.A1.A4=1\/g.A1.A4=3):j0 g=0:=if_pos h
theorem y5(h:g.A1.A4=2\/g.A1.A4=4)(t:g.A2.A4=3):j0 g=1:=by
 unfold j0;rw[if_neg (by omega),if_pos t]
theorem Um(h:g.A1.A4=2\/g.A1.A4=4)(t:g.A2.A4≠3):j0 g= -1:=by
 unfold j0;rw[if_neg (by omega),if_neg t]
section
variable {nc:Bool} {m:bc} {g:dr}
theorem Inv.ok(h:Inv nc m g):fq g:=h.1
theorem xp(h:Inv nc m g)(hc:U clock)(n:Int):Inv nc (if 0<=j0 g then lz m clock (runN n)else m) (iy g n clock):=by
 obtain⟨ok,c⟩:=h
 refine⟨zam ok hc n,?_⟩
 rcases c with c|c|c|c|c
 ·have hr:j0 g=0:=L6 (.inl c.sp)
  have e:iy g n clock={g with A1:={g.A1 with A0:=lz g.A1.A0 clock (runN n),B1:=rm g.A1 (lz g.A1.A0 clock (runN n))}}:=if_pos (.inl c.sp)
  rw[hr,if_pos (by decide),e]
  have sg:=Jk ok.src hc (runN n)
  have en:rm g.A1 (lz g.A1.A0 clock (runN n))={g.A1.B1 with B0:=rk g.A1.B1.B0 (Q3 g.A1.A0.Mem (lz g.A1.A0 clock (runN n)).Mem)}:=if_pos c.sp
  refine .inl ⟨c.sp,c.gn,by rw[<-c.mc],c.tp,c.ks,c.bk,λf hf=>?_⟩
  obtain⟨t1,t2,t3,t4⟩:=c.tr f hf
  rw[en]
  show _/\_/\((rk g.A1.B1.B0 _).getD f false=false->_/\(_->(jG (lz g.A1.A0 clock (runN n)).Mem f).1=_))/\∀x∈g.A6,_->_->_/\((rk g.A1.B1.B0 _).getD f false=false->_->_=(jG (lz g.A1.A0 clock (runN n)).Mem f).1)
  have dl:=ok.dl
  have no:(rk g.A1.B1.B0 (Q3 g.A1.A0.Mem (lz g.A1.A0 clock (runN n)).Mem)).getD f false=false->g.A1.B1.B0.getD f false=false/\(jG g.A1.A0.Mem f).1=(jG (lz g.A1.A0 clock (runN n)).Mem f).1:=λhd=>by
   constructor
   ·cases h:g.A1.B1.B0.getD f false with
    |false=>rfl
    |true=>rw[Qw (by omega) (.inl h)]at hd;cases hd
   ·refine yN ok.rp sg.nu hf λh=>?_
    rw[Qw (by omega) (.inr h)]at hd;cases hd
  refine⟨t1,t2,λd=>?_,λx hx k1 k2=>⟨(t4 x hx k1 k2).1,λd e=>?_⟩⟩
  ·obtain⟨d1,d2⟩:=no d
   exact⟨(t3 d1).1,λe=>by rw[<-d2];exact(t3 d1).2 e⟩
  ·obtain⟨d1,d2⟩:=no d
   rw[<-d2];exact(t4 x hx k1 k2).2 d1 e
 ·rcases c.sp with sp|⟨sp,np⟩
  ·have hr:j0 g=0:=L6 (.inr sp)
   have e:iy g n clock={g with A1:={g.A1 with A0:=lz g.A1.A0 clock (runN n),B1:=rm g.A1 (lz g.A1.A0 clock (runN n))}}:=if_pos (.inr sp)
   rw[hr,if_pos (by decide),e]
   exact .inr (.inl ⟨.inl sp,c.gn,λ_=>by rw[<-c.mc sp],c.tp,c.ks,c.bk⟩)
  ·have hr:j0 g= -1:=Um (.inr sp) (by have:=c.tp;omega)
   have e:iy g n clock=g:=by unfold iy;rw[if_neg (by omega),if_neg (by have:=c.tp;omega)]
   rw[hr,if_neg (by decide),e]
   exact .inr (.inl c)
 ·have tp:=c.tp
  have sp:g.A1.A4=2\/g.A1.A4=4:=by have:=c.sp;omega
  have hr:j0 g= -1:=Um sp (by omega)
  have e:iy g n clock=g:=by unfold iy;rw[if_neg (by omega),if_neg (by omega)]
  rw[hr,if_neg (by decide),e]
  exact .inr (.inr (.inl c))
 ·rcases c.sp with sp|⟨sp,np⟩
  ·have hr:j0 g=0:=L6 (.inr sp)
   have e:iy g n clock={g with A1:={g.A1 with A0:=lz g.A1.A0 clock (runN n),B1:=rm g.A1 (lz g.A1.A0 clock (runN n))}}:=if_pos (.inr sp)
   rw[hr,if_pos (by decide),e]
   exact .inr (.inr (.inr (.inl ⟨.inl sp,c.gn,λ_=>by rw[<-c.mc sp],c.tp,c.bk⟩)))
  ·have hr:j0 g= -1:=Um (.inr sp) c.tp
   have e:iy g n clock=g:=by unfold iy;rw[if_neg (by omega),if_neg c.tp]
   rw[hr,if_neg (by decide),e]
   exact .inr (.inr (.inr (.inl c)))
 ·rcases c.tp with tp|⟨tp,np⟩
  ·have hr:j0 g=1:=y5 c.sp tp
   have sp:=c.sp
   have e:iy g n clock={g with A2:={g.A2 with A0:=lz g.A2.A0 clock (runN n)}}:=by unfold iy;rw[if_neg (by omega),if_pos tp]
   rw[hr,if_pos (by decide),e]
   exact .inr (.inr (.inr (.inr ⟨c.sp,c.gn,.inl tp,λ_=>by rw[<-c.mc tp]⟩)))
  ·have sp:=c.sp
   have hr:j0 g= -1:=Um sp (by omega)
   have e:iy g n clock=g:=by unfold iy;rw[if_neg (by omega),if_neg (by omega)]
   rw[hr,if_neg (by decide),e]
   exact .inr (.inr (.inr (.inr c)))
theorem O1(ok:fq g)(c:Bk nc m g):Bk nc m (kG g):=
 ⟨c.sp,c.gn,c.mc,c.tp,λx hx=>by
  rcases OY hx with hx|hx
  ·exact c.ks x hx
  ·obtain⟨f,_,_,rfl⟩:=Z4 ok.dl hx;rfl,c.bk,Zn7 ok c.tr⟩
theorem Yg(h:Inv nc m g):Inv nc m (if g.A1.A4=1/\g.A1.B1.B8<10 then L1 g else g):=by
 split
 ·rename_i hp
  obtain⟨ok,c⟩:=h
  rw[He ok (by omega)]
  refine⟨Zqc ok (by omega) (λ_=>by omega),?_⟩
  rcases c with c|c|c|c|c
  ·exact .inl (O1 ok c)
  ·have:=c.sp;omega
  ·have:=c.sp;omega
  ·have:=c.sp;omega
  ·have:=c.sp;omega
 ·exact h
theorem Un(ok:fq g)(c:Bk nc m g):oW nc m (Ed g):=by
 have r:=O1 ok c
 refine⟨.inl rfl,r.gn,r.mc,λf=>Ztc f,?_,λx hx=>?_,λh=>?_,r.bk,?_⟩
 ·have:=r.tp
  rcases this with p|p|p
  ·exact .inl p
  ·exact .inr (.inl p)
  ·exact .inr (.inr (.inr p))
 ·rcases Ji hx with hx|hx
  ·exact .inl (r.ks x hx)
  ·rw[hx];exact .inr ⟨rfl,by rw[<-r.mc];rfl,rfl⟩
 ·have h:(kG g).A2.A4=2:=h
  have:=r.tp
  omega
 ·refine Ay.pR (g:={kG g with A1:={(kG g).A1 with A4:=2}}) r.tr (l:=fv (kG g).A6 (uE (kG g).A1)) λx hx k1=>?_
  rcases Ji hx with hx|hx
  ·exact .inl hx
  ·rw[hx]at k1;exact absurd (show(2:Int)=1 from k1) (by decide)
theorem yO(h:Inv nc m g)(fi:Int):Inv nc m (Ec g fi):=by
 unfold Ec
 split
 ·rename_i hp
  obtain⟨ok,c⟩:=h
  rw[He ok (ok.r2 hp.1)]
  refine⟨Ye ok hp.1,?_⟩
  rcases c with c|c|c|c|c
  ·exact .inr (.inr (.inl (Un ok c)))
  ·have:=c.sp;omega
  ·have:=c.sp;omega
  ·have:=c.sp;omega
  ·have:=c.sp;omega
 ·exact h
theorem oW.pR(c:oW nc m g)(hk:∀x∈l,x∈g.A6\/(∃f:Nat,f<8/\x=tJ (g.A1.A3.getD f 0) f (jG g.A1.A0.Mem f).1)\/x=uE g.A1):oW nc m {g with A6:=l}:=by
 refine⟨c.sp,c.gn,c.mc,c.cl,c.tp,λx hx=>?_,c.ts,c.bk,c.tr.pR λx hx k1=>?_⟩
 ·rcases hk x hx with h|⟨f,hf,rfl⟩|rfl
  ·exact c.ks x h
  ·exact .inl rfl
  ·exact .inr ⟨rfl,by rw[<-c.mc];rfl,rfl⟩
 ·rcases hk x hx with h|h|rfl
  ·exact .inl h
  ·exact .inr h
  ·exact absurd (show(2:Int)=1 from k1) (by decide)
theorem Zkc(c:oW nc m g):oW nc m (OZ g):=
 oW.pR c (l:=pq g.A6 (sH g.A1++[uE g.A1])) λx hx=>by
  rcases OY hx with hx|hx
  ·exact .inl hx
  ·exact .inr (Z7r hx)
theorem Zs8(h:Inv nc m g):Inv nc m (L2 g):=by
 unfold L2
 split
 ·rename_i hp
  obtain⟨ok,c⟩:=h
  refine⟨yn ok,?_⟩
  rcases c with c|c|c|c|c
  ·have:=c.sp;omega
  ·have:=c.sp;omega
  ·exact .inr (.inr (.inl (Zkc c)))
  ·have:=c.sp;omega
  ·exact .inr (.inr (.inr (.inr ⟨c.sp,c.gn,c.tp,c.mc⟩)))
 ·exact h
theorem Uo(c:Cy nc m g)(b:Bool)(hl:∀x∈l,x∈lY g b):Cy nc m (pr g b l):=by
 cases b
 ·have hl:∀x∈l,x∈g.A6:=hl
  show Cy nc m {g with A6:=l}
  rcases c with c|c|c|c|c
  ·exact .inl ⟨c.sp,c.gn,c.mc,c.tp,λx hx=>c.ks x (hl x hx),c.bk,c.tr.pR λx hx _=>.inl (hl x hx)⟩
  ·exact .inr (.inl ⟨c.sp,c.gn,c.mc,c.tp,λx hx=>c.ks x (hl x hx),c.bk⟩)
  ·exact .inr (.inr (.inl ⟨c.sp,c.gn,c.mc,c.cl,c.tp,λx hx=>c.ks x (hl x hx),c.ts,c.bk,c.tr.pR λx hx _=>.inl (hl x hx)⟩))
  ·exact .inr (.inr (.inr (.inl ⟨c.sp,c.gn,c.mc,c.tp,c.bk⟩)))
  ·exact .inr (.inr (.inr (.inr ⟨c.sp,c.gn,c.tp,c.mc⟩)))
 ·have hl:∀x∈l,x∈g.C1:=hl
  have hb:g.C1=[]->l=[]:=λe=>by
   cases l with
   |nil=>rfl
   |cons y l=>have:=hl y (eU ..);rw[e]at this;cases this
  show Cy nc m {g with C1:=l}
  rcases c with c|c|c|c|c
  ·exact .inl ⟨c.sp,c.gn,c.mc,c.tp,c.ks,hb c.bk,c.tr⟩
  ·exact .inr (.inl ⟨c.sp,c.gn,c.mc,c.tp,c.ks,hb c.bk⟩)
  ·exact .inr (.inr (.inl ⟨c.sp,c.gn,c.mc,c.cl,c.tp,c.ks,c.ts,hb c.bk,c.tr⟩))
  ·exact .inr (.inr (.inr (.inl ⟨c.sp,c.gn,c.mc,c.tp,hb c.bk⟩)))
  ·exact .inr (.inr (.inr (.inr ⟨c.sp,c.gn,c.tp,c.mc⟩)))
theorem vO(h:Inv nc m g)(b:Bool)(i:Int):Inv nc m (tK g b i):=by
 refine⟨Yf h.1 b i,?_⟩
 unfold tK;split
 ·exact Uo h.2 b λx hx=>O0 hx
 ·exact h.2
theorem Zc2(h:Inv nc m g)(b:Bool)(i:Int):Inv nc m (rR g b i):=by
 refine⟨xo h.1 b i,?_⟩
 unfold rR;split
 ·rename_i hi
  refine Uo h.2 b λx hx=>?_
  rcases Ji hx with hx|hx
  ·exact hx
  ·rw[hx];exact Fj hi
 ·exact h.2
theorem zp(h:Inv nc m g)(b:Bool)(hn:nc=false):Inv nc m (Zk g b):=by
 obtain⟨ok,c⟩:=h
 refine⟨zO ok b,?_⟩
 cases b
 ·show Cy nc m {g with A1:={g.A1 with A4:=4}}
  have n3:({g.A1 with A4:=4}:ia).A4=3->False:=λe=>absurd (show(4:Int)=3 from e) (by decide)
  rcases c with c|c|c|c|c
  ·exact .inr (.inl ⟨.inr ⟨rfl,hn⟩,c.gn,λe=>(n3 e).elim,by have:=c.tp;show g.A2.A4=0\/g.A2.A4=1\/g.A2.A4=4;omega,λx hx=>.inl (c.ks x hx),c.bk⟩)
  ·exact .inr (.inl ⟨.inr ⟨rfl,hn⟩,c.gn,λe=>(n3 e).elim,c.tp,c.ks,c.bk⟩)
  ·exact .inr (.inr (.inl ⟨.inr ⟨rfl,hn⟩,c.gn,c.mc,c.cl,c.tp,c.ks,c.ts,c.bk,c.tr⟩))
  ·exact .inr (.inr (.inr (.inl ⟨.inr ⟨rfl,hn⟩,c.gn,λe=>(n3 e).elim,c.tp,c.bk⟩)))
  ·exact .inr (.inr (.inr (.inr ⟨.inr rfl,c.gn,c.tp,c.mc⟩)))
 ·show Cy nc m {g with A2:={g.A2 with A4:=4}}
  have n2:({g.A2 with A4:=4}:ia).A4=2->False:=λe=>absurd (show(4:Int)=2 from e) (by decide)
  have n3:({g.A2 with A4:=4}:ia).A4=3->False:=λe=>absurd (show(4:Int)=3 from e) (by decide)
  rcases c with c|c|c|c|c
  ·exact .inl ⟨c.sp,c.gn,c.mc,.inr (.inr ⟨rfl,hn⟩),c.ks,c.bk,c.tr⟩
  ·exact .inr (.inl ⟨c.sp,c.gn,c.mc,.inr (.inr rfl),c.ks,c.bk⟩)
  ·exact .inr (.inr (.inl ⟨c.sp,c.gn,c.mc,c.cl,.inr (.inr (.inr ⟨rfl,hn⟩)),c.ks,λe=>(n2 e).elim,c.bk,c.tr⟩))
  ·exact .inr (.inr (.inr (.inl ⟨c.sp,c.gn,c.mc,λe=>n3 e,c.bk⟩)))
  ·exact .inr (.inr (.inr (.inr ⟨c.sp,c.gn,.inr ⟨rfl,hn⟩,λe=>(n3 e).elim⟩)))
theorem Zs(ok:fq g)(c:Cy nc m g)(ox:jE x)(hx:x∈g.A6):Cy nc m {g with A2:=iK g.A2 x}:=by
 rcases c with c|c|c|c|c
 ·have k:x.C2=1:=c.ks x hx
  have q:=Zhz (t:=g.A2) (x:=x) k
  refine .inl ⟨c.sp,⟨c.gn.1,c.gn.2.1,q.1.trans c.gn.2.2⟩,c.mc,?_,c.ks,c.bk,?_⟩
  ·show(iK g.A2 x).A4=0\/(iK g.A2 x).A4=1\/((iK g.A2 x).A4=4/\nc=false)
   rcases L5 (t:=g.A2) k with⟨a,b⟩|b
   ·exact .inr (.inl b)
   ·rw[b];exact c.tp
  ·exact Zbu ok c.tr ox k (λf hf ef=>(c.tr f hf).2.2.2 x hx k ef)
 ·have k:x.C2=1\/x.C2=4:=c.ks x hx
  refine .inr (.inl ⟨c.sp,⟨c.gn.1,c.gn.2.1,Zq9.trans c.gn.2.2⟩,c.mc,?_,c.ks,c.bk⟩)
  have:=c.tp
  show(iK g.A2 x).A4=0\/(iK g.A2 x).A4=1\/(iK g.A2 x).A4=4
  rcases k with k|k
  ·rcases L5 (t:=g.A2) k with⟨a,b⟩|b<;>omega
  ·rcases qaE (t:=g.A2) k with b|b
   ·omega
   ·rw[b];exact this
 ·have k:x.C2=1\/(x.C2=2/\x.A0={m with Mem:=[]}/\x.A3=g.A1.A3):=c.ks x hx
  have tp:=c.tp
  rcases k with k|⟨k,e1,e2⟩
  ·have q:=Zhz (t:=g.A2) (x:=x) k
   have tr:Ay {g with A2:=iK g.A2 x}:=Zbu ok c.tr ox k (λf hf ef=>(c.tr f hf).2.2.2 x hx k ef)
   refine .inr (.inr (.inl ⟨c.sp,⟨c.gn.1,c.gn.2.1,q.1.trans c.gn.2.2⟩,c.mc,c.cl,?_,c.ks,λh2=>?_,c.bk,tr⟩))
   ·show(iK g.A2 x).A4=0\/(iK g.A2 x).A4=1\/(iK g.A2 x).A4=2\/((iK g.A2 x).A4=4/\nc=false)
    rcases L5 (t:=g.A2) k with⟨a,b⟩|b
    ·exact .inr (.inl b)
    ·rw[b];exact tp
   ·have h2:(iK g.A2 x).A4=2:=h2
    have h3:g.A2.A4=2:=by rcases L5 (t:=g.A2) k with⟨a,b⟩|b<;>omega
    exact⟨q.2.1.trans (c.ts h3).1,q.2.2.trans (c.ts h3).2⟩
  ·rcases tp with tp|tp|tp|⟨tp,np⟩
   ·rw[vo k (.inl tp)]
    exact .inr (.inr (.inl ⟨c.sp,c.gn,c.mc,c.cl,.inr (.inr (.inl rfl)),c.ks,λ_=>⟨e2,by rw[e1]⟩,c.bk,c.tr⟩))
   ·rw[vo k (.inr tp)]
    exact .inr (.inr (.inl ⟨c.sp,c.gn,c.mc,c.cl,.inr (.inr (.inl rfl)),c.ks,λ_=>⟨e2,by rw[e1]⟩,c.bk,c.tr⟩))
   ·rw[qp k tp];exact .inr (.inr (.inl c))
   ·rw[yo (.inr tp)];exact .inr (.inr (.inl c))
 ·exact .inr (.inr (.inr (.inl ⟨c.sp,⟨c.gn.1,c.gn.2.1,Zq9.trans c.gn.2.2⟩,c.mc,zan c.tp,c.bk⟩)))
 ·rw[yo (by have:=c.tp;omega)];exact .inr (.inr (.inr (.inr c)))
end
section
variable {nc:Bool} {m:bc} {g:dr}
theorem Yh(h:Inv nc m g)(b:Bool)(i:Int):Inv nc m (mO g b i):=by
 refine⟨Zc5 h.1 b i,?_⟩
 obtain⟨ok,c⟩:=h
 unfold mO
 split
 ·rename_i hi
  have hx:=Fj hi
  have ox:=(ok.F4 b).2 _ hx
  have el:tK g b i=pr g b (lD (lY g b) i):=if_pos hi
  rw[el]
  cases b
  ·exact Uo (Zs ok c ox hx) false λx hx=>(O0 hx:x∈g.A6)
  ·by_cases hc:(pr g true (lD (lY g true) i)).A1.A4=2/\(na (lY g true) i).C2=3
   ·have eg:L3 (pr g true (lD (lY g true) i)) true (na (lY g true) i)={g with C1:=lD g.C1 i,A1:={g.A1 with A4:=4}}:=if_pos hc
    rw[eg]
    have hb:g.C1≠[]:=λe=>by have hx:_∈g.C1:=hx;rw[e]at hx;cases hx
    rcases c with d|d|d|d|d
    ·exact absurd d.bk hb
    ·exact absurd d.bk hb
    ·exact absurd d.bk hb
    ·exact absurd d.bk hb
    ·exact .inr (.inr (.inr (.inr ⟨.inr rfl,d.gn,d.tp,d.mc⟩)))
   ·have eg:L3 (pr g true (lD (lY g true) i)) true (na (lY g true) i)=pr g true (lD (lY g true) i):=if_neg hc
    rw[eg]
    exact Uo c true λx hx=>O0 hx
 ·exact c
theorem fq.store(h:fq g){s:iO}(hs:Cv s):fq {g with A9:=s}:=
 ⟨h.src,h.dl,h.r0,h.r1,h.r2,h.s0,h.s1,h.rl,h.sf,h.tc,h.tl,h.tm,h.tg,h.tf,h.fl,h.fo,h.bl,h.bo,hs⟩
theorem yp(ok:fq g)(c:oW nc m g)(hf:uF g):g.A2.A0=m:=by
 obtain⟨h1,h2⟩:=hf
 obtain⟨f1,f2⟩:=c.ts h1
 have e:g.A2.A0.Mem=m.Mem:=by
  rw[<-c.mc]
  refine(vm ok.rp ok.tm λf hf=>?_).symm
  exact((c.tr f hf).2.2.1 (c.cl f)).2 (by rw[h2,f1])
 have q:∀a:bc,a={({a with Mem:=[]}:bc)with Mem:=a.Mem}:=λa=>rfl
 rw[q g.A2.A0,f2,e]
theorem Zgy{s:iO}(h:Cv s){host seen:Int}(h0:0<=host)(e1:s.D5=1)(e2:seen=1):mA s host seen=({s with D5:=2,D7:=host},true):=by
 rw[Zoh h h0,if_pos (e1.trans e2.symm),e1];rfl
theorem Zq6{s:iO}(h:Cv s){host seen:Int}(h0:0<=host)(e:s.D5≠seen):mA s host seen=(s,false):=by
 rw[Zoh h h0,if_neg e]
theorem vp(ok:fq g)(c:oW nc m g)(hf:uF g):sI g={g with A9:={g.A9 with D5:=2,D7:=1},A2:={g.A2 with A4:=3,D5:=2},C1:=fv g.C1 (Cw 3)}:=by
 unfold sI
 rw[if_pos hf,Zgy ok.st (by decide) c.gn.1 c.gn.2.2,if_pos rfl]
theorem Zp(ok:fq g)(c:oW nc m g)(hf:uF g):fq (sI g)/\L4 nc m (sI g)/\(sI g).A2.A4=3:=by
 rw[vp ok c hf]
 obtain⟨b1,b2,b3,b4,b5⟩:=ok.st
 have hm:=yp ok c hf
 refine⟨⟨ok.src,ok.dl,ok.r0,ok.r1,ok.r2,ok.s0,ok.s1,ok.rl,ok.sf,ok.tc,ok.tl,ok.tm,λ_=>ok.tg (.inl hf.1),ok.tf,ok.fl,ok.fo,L0 ok.bl,sJ ok.bo (Yc (by decide) (by decide)),b1,b2,by show(1:Int)<=2;decide,by show(2:Int)<=2;decide,by show(0:Int)<=1;decide⟩,?_,rfl⟩
 exact⟨by have:=c.sp;show g.A1.A4=2\/g.A1.A4=4;omega,⟨rfl,rfl,c.gn.2.1⟩,.inl rfl,λ_=>hm⟩
theorem Zsv(h:Inv nc m g):Inv nc m (sI g):=by
 obtain⟨ok,c⟩:=h
 by_cases hf:uF g
 ·rcases c with c|c|c|c|c
  ·have:=c.tp;have:=hf.1;omega
  ·have:=c.tp;have:=hf.1;omega
  ·obtain⟨a,b,_⟩:=Zp ok c hf
   exact⟨a,.inr (.inr (.inr (.inr b)))⟩
  ·have e:sI g={g with A2:={g.A2 with A4:=4}}:=by
    unfold sI
    rw[if_pos hf,Zq6 ok.st (by decide) (by rw[c.gn.1,c.gn.2.2];decide),if_neg eZ]
   rw[e]
   refine⟨ok.Jl ⟨ok.tc,ok.tl,ok.tm,λhq=>by have hq:(4:Int)=2\/(4:Int)=3:=hq;omega,ok.tf⟩,.inr (.inr (.inr (.inl ⟨c.sp,c.gn,c.mc,by show(4:Int)≠3;decide,c.bk⟩)))⟩
  ·have:=c.tp;have:=hf.1;omega
 ·have e:sI g=g:=if_neg hf
  rw[e];exact⟨ok,c⟩
theorem qP(ok:fq g)(c:Bk nc m g):fq (oz g)/\Hf nc m (oz g):=by
 have e:oz g={g with A1:={g.A1 with A4:=3},A6:=fv g.A6 (Cw 4)}:=if_pos c.sp
 rw[e]
 have k:=ok.phase (p:=3) (λe=>absurd e (by decide))
 refine⟨k.Jj (L0 ok.fl) (sJ ok.fo (Yc (by decide) (by decide))),.inl rfl,c.gn,λ_=>c.mc,by have:=c.tp;show g.A2.A4=0\/g.A2.A4=1\/g.A2.A4=4;omega,λx hx=>?_,c.bk⟩
 rcases Ji hx with hx|rfl
 ·exact .inl (c.ks x hx)
 ·exact .inr rfl
theorem qq(ok:fq g)(c:oW nc m g)(hp:g.A1.A4=2):oz g={g with A9:={g.A9 with D5:=2,D7:=0},A1:={g.A1 with A4:=3,D5:=2},A6:=fv g.A6 (Cw 4)}:=by
 unfold oz
 rw[if_neg (by omega),if_pos hp,Zgy ok.st (by decide) c.gn.1 c.gn.2.1,if_pos rfl]
theorem xP(ok:fq g)(c:oW nc m g)(hp:g.A1.A4=2):fq (oz g)/\Hg nc m (oz g)/\(oz g).A1.A4=3:=by
 rw[qq ok c hp]
 obtain⟨b1,b2,b3,b4,b5⟩:=ok.st
 refine⟨⟨ok.src,ok.dl,ok.r0,ok.r1,λe=>absurd (show(3:Int)=1 from e) (by decide),ok.s0,ok.s1,ok.rl,ok.sf,ok.tc,ok.tl,ok.tm,ok.tg,ok.tf,L0 ok.fl,sJ ok.fo (Yc (by decide) (by decide)),ok.bl,ok.bo,b1,b2,by show(1:Int)<=2;decide,by show(2:Int)<=2;decide,by show(0:Int)<=0;decide⟩,?_,rfl⟩
 exact⟨.inl rfl,⟨rfl,rfl,c.gn.2.2⟩,λ_=>c.mc,by have:=c.tp;show g.A2.A4≠3;omega,c.bk⟩
theorem zP(ok:fq g)(c:L4 nc m g):fq (oz g)/\L4 nc m (oz g)/\(oz g).A2=g.A2:=by
 have sp:=c.sp
 by_cases hp:g.A1.A4=2
 ·have e:oz g={g with A1:={g.A1 with A4:=4}}:=by
   unfold oz
   rw[if_neg (by omega),if_pos hp,Zq6 ok.st (by decide) (by rw[c.gn.1,c.gn.2.2];decide),if_neg eZ]
  rw[e]
  exact⟨ok.phase (λe=>absurd e (by decide)),⟨.inr rfl,c.gn,c.tp,c.mc⟩,rfl⟩
 ·have e:oz g=g:=by unfold oz;rw[if_neg (by omega),if_neg hp]
  rw[e];exact⟨ok,c,rfl⟩
theorem Zsn(h:Inv nc m g):Inv nc m (oz g):=by
 obtain⟨ok,c⟩:=h
 have no:g.A1.A4≠1->g.A1.A4≠2->oz g=g:=λa b=>by unfold oz;rw[if_neg a,if_neg b]
 rcases c with c|c|c|c|c
 ·obtain⟨a,b⟩:=qP ok c;exact⟨a,.inr (.inl b)⟩
 ·have:=c.sp
  rw[no (by omega) (by omega)];exact⟨ok,.inr (.inl c)⟩
 ·rcases c.sp with p|⟨p,_⟩
  ·obtain⟨a,b,_⟩:=xP ok c p;exact⟨a,.inr (.inr (.inr (.inl b)))⟩
  ·rw[no (by omega) (by omega)];exact⟨ok,.inr (.inr (.inl c))⟩
 ·have:=c.sp
  rw[no (by omega) (by omega)];exact⟨ok,.inr (.inr (.inr (.inl c)))⟩
 ·obtain⟨a,b,_⟩:=zP ok c;exact⟨a,.inr (.inr (.inr (.inr b)))⟩
theorem zaE(h:Inv nc m g){a:kU}(hc:U a.F5)(hn:nc=true->a.C2≠10):Inv nc (uG m g a) (lZ g a).1:=by
 unfold lZ uG
 by_cases k1:a.C2=1
 ·rw[if_pos k1]
  have:=xp h hc a.N
  by_cases hr:0<=j0 g
  ·rw[if_pos ⟨k1,hr⟩];rw[if_pos hr]at this;exact this
  ·rw[if_neg (λh=>hr h.2)];rw[if_neg hr]at this;exact this
 rw[if_neg k1,if_neg (λh=>k1 h.1)]
 by_cases k2:a.C2=2
 ·rw[if_pos k2];exact Yg h
 rw[if_neg k2]
 by_cases k3:a.C2=3
 ·rw[if_pos k3];exact yO h _
 rw[if_neg k3]
 by_cases k4:a.C2=4
 ·rw[if_pos k4];exact Zs8 h
 rw[if_neg k4]
 by_cases k5:a.C2=5
 ·rw[if_pos k5];exact Yh h _ _
 rw[if_neg k5]
 by_cases k6:a.C2=6
 ·rw[if_pos k6];exact vO h _ _
 rw[if_neg k6]
 by_cases k7:a.C2=7
 ·rw[if_pos k7];exact Zc2 h _ _
 rw[if_neg k7]
 by_cases k8:a.C2=8
 ·rw[if_pos k8];exact Zsv h
 rw[if_neg k8]
 by_cases k9:a.C2=9
 ·rw[if_pos k9];exact Zsn h
 rw[if_neg k9]
 by_cases Yi:a.C2=10
 ·rw[if_pos Yi]
  refine zp h _ ?_
  cases nc
  ·rfl
  ·exact absurd Yi (hn rfl)
 rw[if_neg Yi];exact h
end
def Have(g:dr):Prop:=∀f:Nat,f<8->g.A2.A3.getD f 0=g.A1.A3.getD f 0\/∃x∈g.A6,x.C2=1/\x.Frame=f/\x.B8=g.A1.A3.getD f 0
def Ee(g:dr):Prop:=g.A2.A4=2\/∃x∈g.A6,x.C2=2
def Le(g:dr):Prop:=∀f:Nat,f<8->g.A2.A3.getD f 0<=g.A1.A3.getD f 0/\∀x∈g.A6,x.C2=1->x.Frame=f->x.B8<=g.A1.A3.getD f 0
theorem Ay.le(t:Ay g):Le g:=λf hf=>⟨(t f hf).1,λx hx k e=>((t f hf).2.2.2 x hx k e).1⟩
theorem Zll{t:ia}(ht:t.A3.length=8)(hp:t.A4=0\/t.A4=1\/t.A4=2)(ox:jE x)(hf:f<8):(iK t x).A3.getD f 0=if x.C2=1/\x.Frame=f/\t.A3.getD f 0<x.B8 then x.B8 else t.A3.getD f 0:=by
 by_cases hk:x.C2=1
 ·obtain⟨f0,f1,_⟩:=ox.pg hk
  obtain⟨k,ek⟩:∃k:Nat,x.Frame=k:=⟨x.Frame.toNat,by omega⟩
  by_cases hc:0<=x.Frame/\x.Frame<t.A3.length/\t.A3.getD x.Frame.toNat 0<x.B8
  ·have e:iK t x={t with A4:=if t.A4=0 then 1 else t.A4,A0:={t.A0 with Mem:=(rP t.A0.Mem x.Frame x.F1).1},A3:=t.A3.set x.Frame.toNat x.B8}:=by
    unfold iK;rw[if_neg (λh=>h hp),if_pos hk,if_pos hc]
   rw[e]
   show(t.A3.set x.Frame.toNat x.B8).getD f 0=_
   rw[Ew (by omega)]
   rw[ek,dX]at hc⊢
   by_cases e:k=f
   ·subst e
    rw[if_pos rfl,if_pos ⟨hk,rfl,hc.2.2⟩]
   ·rw[if_neg e,if_neg (λh=>e (by omega))]
  ·have e:iK t x=t:=by unfold iK;rw[if_neg (λh=>h hp),if_pos hk,if_neg hc]
   rw[e,if_neg (λh=>hc ⟨f0,by omega,by rw[h.2.1,dX];exact h.2.2⟩)]
 ·rw[if_neg (λh=>hk h.1)]
  unfold iK
  repeat' split
  all_goals first|rfl|exact absurd (by assumption) hk
structure Jm(g r:dr)(x:fg):Prop where
 src:r.A1=g.A1
 sto:r.A9=g.A9
 bak:r.C1=g.C1
 sub:∀y∈r.A6,y∈g.A6
 spl:∀y∈g.A6,y∈r.A6\/y=x
 len:r.A6.length+1=g.A6.length
 mem:x∈g.A6
 tgt:r.A2=iK g.A2 x
theorem Up(hi:lB g.A6 i):Jm g (mO g false i) (na g.A6 i):=by
 have e:mO g false i={g with A6:=lD g.A6 i,A2:=iK g.A2 (na g.A6 i)}:=by
  unfold mO tK lY
  simp only[aA,if_false,if_pos hi]
  rfl
 rw[e]
 exact⟨rfl,rfl,rfl,λy hy=>O0 hy,λy hy=>qo hi hy,vn hi,Fj hi,rfl⟩
theorem xq(hi:¬lB g.A6 i):mO g false i=g:=if_neg hi
section
variable {g r:dr} {x:fg} (d:Jm g r x) (ok:fq g) (hp:g.A2.A4=0\/g.A2.A4=1\/g.A2.A4=2)
include d ok hp
theorem Jm.rounds(hf:f<8):r.A2.A3.getD f 0=if x.C2=1/\x.Frame=f/\g.A2.A3.getD f 0<x.B8 then x.B8 else g.A2.A3.getD f 0:=by
 rw[d.tgt];exact Zll ok.tl hp (ok.fo x d.mem) hf
theorem Jm.le(h:Le g):Le r:=λf hf=>by
 rw[d.rounds ok hp hf,d.src]
 obtain⟨h1,h2⟩:=h f hf
 refine⟨?_,λy hy=>h2 y (d.sub y hy)⟩
 split
 ·rename_i hc;exact h2 x d.mem hc.1 hc.2.1
 ·exact h1
theorem Jm.have(l:Le g)(h:Have g):Have r:=λf hf=>by
 rw[d.rounds ok hp hf,d.src]
 obtain⟨l1,l2⟩:=l f hf
 rcases h f hf with h|⟨y,hy,k1,k2,k3⟩
 ·left
  rw[if_neg];exact h
  intro hc;have:=l2 x d.mem hc.1 hc.2.1;omega
 ·rcases d.spl y hy with hy|rfl
  ·exact .inr ⟨y,hy,k1,k2,k3⟩
  ·left
   split
   ·exact k3
   ·rename_i hc
    have:¬g.A2.A3.getD f 0<y.B8:=λh=>hc ⟨k1,k2,h⟩
    omega
omit ok in
theorem Jm.phase(hk:∀y∈g.A6,y.C2=1\/y.C2=2):(r.A2.A4=0\/r.A2.A4=1\/r.A2.A4=2)/\(r.A2.A4=2↔g.A2.A4=2\/x.C2=2):=by
 rw[d.tgt]
 rcases hk x d.mem with k|k
 ·rcases L5 (t:=g.A2) k with⟨a,b⟩|b
  ·rw[b];omega
  ·rw[b];omega
 ·by_cases h2:g.A2.A4=2
  ·rw[qp k h2];omega
  ·rw[vo k (by omega)]
   show((2:Int)=0\/(2:Int)=1\/(2:Int)=2)/\((2:Int)=2↔_)
   omega
omit ok in
theorem Jm.O2(hk:∀y∈g.A6,y.C2=1\/y.C2=2)(h:Ee g):Ee r:=by
 obtain⟨_,p⟩:=d.phase hp hk
 rcases h with h|⟨y,hy,k⟩
 ·exact .inl (p.2 (.inl h))
 ·rcases d.spl y hy with hy|rfl
  ·exact .inr ⟨y,hy,k⟩
  ·exact .inl (p.2 (.inr k))
end
def jX:Nat->dr->dr
 |0,g=>g
 |n+1,g=>jX n (mO g false 0)
theorem in0(h:l≠[]):lB l 0:=by
 cases l with
 |nil=>exact absurd rfl h
 |cons y l=>exact⟨by decide,by show(0:Int)<((l.length+1:Nat):Int);omega⟩
theorem zq{nc:Bool}{m:bc}:∀(n:Nat) {g:dr},Inv nc m g->Inv nc m (jX n g)
 |0,_,h=>h
 |n+1,_,h=>zq n (Yh h false 0)
theorem yq:∀(n:Nat) (g:dr),(jX n g).A1=g.A1/\(jX n g).A9=g.A9/\(jX n g).C1=g.C1
 |0,g=>⟨rfl,rfl,rfl⟩
 |n +1,g=>by
  obtain⟨a,b,c⟩:=yq n (mO g false 0)
  by_cases h:lB g.A6 0
  ·have d:=Up h
   exact⟨a.trans d.src,b.trans d.sto,c.trans d.bak⟩
  ·have e:=xq h
   rw[e]at a b c
   show(jX n (mO g false 0)).A1=_/\(jX n (mO g false 0)).A9=_/\(jX n (mO g false 0)).C1=_
   rw[e]
   exact⟨a,b,c⟩
theorem vq:∀(n:Nat) (g:dr),(jX n g).A6.length<=g.A6.length-n
 |0,g=>aX _
 |n + 1,g=>by
  have:=vq n (mO g false 0)
  by_cases h:lB g.A6 0
  ·have:=(Up h).len
   show(jX n (mO g false 0)).A6.length<=_;omega
  ·have e:=xq h
   have h0:g.A6.length=0:=by
    cases hl:g.A6 with
    |nil=>rfl
    |cons y l=>exact absurd (in0 (by rw[hl];simp)) h
   rw[e]at this
   show(jX n (mO g false 0)).A6.length<=_;rw[e];omega
theorem qr(h:g.A6.length<=n):(jX n g).A6=[]:=by
 have:=vq n g
 exact fA (by omega)
structure Way(g:dr):Prop where
 le:Le g
 hv:Have g
 ph:g.A2.A4=0\/g.A2.A4=1\/g.A2.A4=2
 ks:∀x∈g.A6,x.C2=1\/x.C2=2
theorem Way.next(w:Way g)(ok:fq g)(i:Int):Way (mO g false i)/\(Ee g->Ee (mO g false i)):=by
 by_cases h:lB g.A6 i
 ·have d:=Up h
  exact⟨⟨d.le ok w.ph w.le,d.have ok w.ph w.le w.hv,(d.phase w.ph w.ks).1,λx hx=>w.ks x (d.sub x hx)⟩,d.O2 w.ph w.ks⟩
 ·rw[xq h];exact⟨w,λh=>h⟩
theorem Way.all:∀(n:Nat) {g:dr},Way g->fq g->Way (jX n g)/\(Ee g->Ee (jX n g))
 |0,_,w,_=>⟨w,λh=>h⟩
 |n+1,g,w,ok=>by
  obtain⟨a,b⟩:=w.next ok 0
  obtain⟨c,d⟩:=Way.all n a (Zc5 ok false 0)
  exact⟨c,λh=>d (b h)⟩
theorem Uq(ha:a.length=8)(hb:b.length=8)(h:∀f:Nat,f<8->a.getD f 0=b.getD f 0):a=b:=by
 refine bR (by omega) λi h1 h2=>?_
 have:=h i (by omega)
 simpa[aV,h1,h2]using this
theorem Way.done(w:Way g)(ok:fq g)(he:g.A6=[]):g.A2.A3=g.A1.A3:=
 Uq ok.tl ok.rl λf hf=>by
  rcases w.hv f hf with h|⟨x,hx,_⟩
  ·exact h
  ·rw[he]at hx;cases hx
theorem Way.full{m:bc}(w:Way g)(ok:fq g)(c:oW nc m g)(hs:Ee g)(he:g.A6=[]):uF g:=by
 have hp:g.A2.A4=2:=by
  rcases hs with h|⟨x,hx,_⟩
  ·exact h
  ·rw[he]at hx;cases hx
 exact⟨hp,(w.done ok he).trans (c.ts hp).1.symm⟩
theorem oW.live{m:bc}(c:oW true m g):g.A1.A4=2/\(g.A2.A4=0\/g.A2.A4=1\/g.A2.A4=2):=by
 have h1:=c.sp
 have h2:=c.tp
 simp only[fB,and_false,or_false]at h1 h2
 exact⟨h1,h2⟩
theorem oW.ks2{m:bc}(c:oW nc m g):∀x∈g.A6,x.C2=1\/x.C2=2:=λx hx=>(c.ks x hx).elim .inl (λh=>.inr h.1)
section
variable {nc:Bool} {m:bc} {g:dr}
def lF(m:bc)(b:List (List UInt8)):dr:=
 ⟨⟨1,m,⟨cO 8 true,0,0⟩,cO 8 0,[],1⟩,⟨0,{zM with Mem:=cO 256 0},⟨[],0,0⟩,cO 8 0,[],1⟩,[],[],⟨b,1,0⟩⟩
theorem xaE(f:Nat):(cO 8 (0:Int)).getD f 0=0:=by
 simp only[cX,eY]
 split<;>rfl
theorem xr(hf:f<8):(cO 8 true).getD f false=true:=by
 simp only[cX,eY,hf,if_true]
 rfl
theorem yP(hm:gz 8 m){b:List (List UInt8)}(hb:b.length=4)(hB:∀x∈b,x.length=128):fq (lF m b):=
 ⟨hm,rfl,eN 0,by show(0:Int)<=11;decide,λ_=>by show(0:Int)<=10;decide,eN 0,by show(0:Int)<=8*0;decide,rfl,bC _,bC _,rfl,qN,λh=>by have h:(0:Int)=2\/(0:Int)=3:=h;omega,bC _,bC _,λx hx=>(by cases hx),bC _,λx hx=>(by cases hx),hb,hB,by show(1:Int)<=1;decide,by show(1:Int)<=2;decide,by show(0:Int)<=0;decide⟩
theorem Cz(hm:gz 8 m)(b:List (List UInt8)):Bk nc m (lF m b):=
 ⟨rfl,⟨rfl,rfl,rfl⟩,rfl,.inl rfl,λx hx=>(by cases hx),rfl,λf hf=>by
  show(cO 8 (0:Int)).getD f 0<=(cO 8 (0:Int)).getD f 0/\(cO 8 (0:Int)).getD f 0<=0/\((cO 8 true).getD f false=false->_)/\_
  rw[xaE,xr hf]
  exact⟨eN 0,eN 0,λh=>(by cases h),λx hx=>(by cases hx)⟩⟩
def uH(g:dr)(l:List kU):dr:=l.foldl (λg a=>(lZ g a).1) g
theorem Zkg(g:dr)(l k:List kU):uH g (l++k)=uH (uH g l) k:=fC ..
def j8(k n:Int):kU:=⟨k,n,false,0⟩
theorem Zhs:∀(n:Nat) (g:dr),uH g (cO n (j8 5 0))=jX n g
 |0,g=>rfl
 |n+1,g=>Zhs n (mO g false 0)
theorem z6(c:Cy nc m g)(hs:g.A9.D5=1)(hp:g.A1.A4=2):oW nc m g:=by
 rcases c with c|c|c|c|c
 ·have:=c.sp;omega
 ·have:=c.sp;omega
 ·exact c
 ·have:=c.gn.1;omega
 ·have:=c.gn.1;omega
theorem qaF(c:Cy nc m g)(hp:g.A1.A4=1):Bk nc m g:=by
 rcases c with c|c|c|c|c
 ·exact c
 ·have:=c.sp;omega
 ·have:=c.sp;omega
 ·have:=c.sp;omega
 ·have:=c.sp;omega
theorem seen(h:Inv nc m g)(hr:0<=j0 g):(j0 g=0/\g.A1.A0=m)\/(j0 g=1/\g.A2.A0=m):=by
 by_cases h0:g.A1.A4=1\/g.A1.A4=3
 ·refine .inl ⟨L6 h0,?_⟩
  rcases h.2 with c|c|c|c|c
  ·exact c.mc
  ·have:=c.sp;exact c.mc (by omega)
  ·have:=c.sp;omega
  ·have:=c.sp;exact c.mc (by omega)
  ·have:=c.sp;omega
 ·by_cases h1:g.A2.A4=3
  ·have e:j0 g=1:=by unfold j0;rw[if_neg h0,if_pos h1]
   refine .inr ⟨e,?_⟩
   rcases h.2 with c|c|c|c|c
   ·have:=c.tp;omega
   ·have:=c.tp;omega
   ·have:=c.tp;omega
   ·exact absurd h1 c.tp
   ·exact c.mc h1
  ·have e:j0 g= -1:=by unfold j0;rw[if_neg h0,if_neg h1]
   omega
theorem Zqx(h:Inv true m g)(c:oW true m g)(w:Way g)(hs:Ee g)(hn:g.A6.length<=n):Inv true m (sI (jX n g))/\L4 true m (sI (jX n g))/\(sI (jX n g)).A2.A4=3:=by
 obtain⟨e1,e2,e3⟩:=yq n g
 have hi:=zq n h
 obtain⟨w2,s2⟩:=Way.all n w h.1
 have c2:oW true m (jX n g):=z6 hi.2 (by rw[e2];exact c.gn.1) (by rw[e1];exact c.live.1)
 obtain⟨a,b,p⟩:=Zp hi.1 c2 (w2.full hi.1 c2 (s2 hs) (qr hn))
 exact⟨⟨a,.inr (.inr (.inr (.inr b)))⟩,b,p⟩
theorem zaF(h:Inv nc m g)(c:L4 nc m g)(hp:g.A2.A4=3):j0 g=1/\g.A2.A0=m/\g.A9.D5=2/\g.A9.D7=1:=⟨y5 c.sp hp,c.mc hp,c.gn.1,c.gn.2.1⟩
theorem Zcj(g:dr)(a:kU)(l:List kU):uH g (a::l)=uH (lZ g a).1 l:=rfl
theorem vP(b:Nat)(g:dr):uH g (j8 2 0::j8 3 32::(cO b (j8 5 0)++[j8 8 0]))=sI (jX b (lZ (lZ g (j8 2 0)).1 (j8 3 32)).1):=by
 rw[Zcj,Zcj,Zkg,Zhs];rfl
theorem Yj(ok:fq g)(c:Bk true m g)(w:Way g)(hl:g.A6.length+8<=64):Way (kG g)/\(kG g).A6.length<=g.A6.length+8:=by
 have cr:=O1 ok c
 have sl:=xO (m:=g.A1.A0.Mem) ok.dl
 have e:(kG g).A6=g.A6++tL g.A1.B1 g.A1.A0.Mem:=vN (by omega)
 have tp:g.A2.A4=0\/g.A2.A4=1\/g.A2.A4=2:=w.ph
 refine⟨⟨cr.tr.le,λf hf=>?_,tp,λx hx=>.inl (cr.ks x hx)⟩,by rw[e,lA];omega⟩
 have hg:(kG g).A1.A3.getD f 0=if g.A1.B1.B0.getD f false=true then g.A1.B1.B8+1 else g.A1.A3.getD f 0:=by
  show(rQ _ _ _).getD f 0=_
  rw[Zco y4 (by rw[ok.rl];exact hf)]
  simp only[Uj]
 rw[hg,e]
 cases hd:g.A1.B1.B0.getD f false
 ·rw[if_neg eZ]
  rcases w.hv f hf with h|⟨x,hx,k⟩
  ·exact .inl h
  ·exact .inr ⟨x,eS _ hx,k⟩
 ·rw[if_pos rfl]
  exact .inr ⟨_,eX _ (qO hd),rfl,rfl,rfl⟩
theorem Zq4(ok:fq g)(c:Bk true m g)(w:Way g)(hl:g.A6.length+9<=64):Way (Ed g)/\Ee (Ed g)/\(Ed g).A6.length<=g.A6.length+9:=by
 obtain⟨w1,l1⟩:=Yj ok c w (by omega)
 have cb:=Un ok c
 have e:(Ed g).A6=(kG g).A6++[uE (kG g).A1]:=if_pos (by omega)
 refine⟨⟨cb.tr.le,λf hf=>?_,cb.live.2,cb.ks2⟩,.inr ⟨uE (kG g).A1,by rw[e];exact eX _ (List.mem_singleton.2 rfl),rfl⟩,by rw[e,lA,cY];omega⟩
 rw[e]
 rcases w1.hv f hf with h|⟨x,hx,k⟩
 ·exact .inl h
 ·exact .inr ⟨x,eS _ hx,k⟩
theorem Zbc(g:dr)(n clock:Int)(hp:g.A1.A4=1):(iy g n clock).A1.A3=g.A1.A3/\(iy g n clock).A1.A4=1/\(iy g n clock).A1.B1.B8=g.A1.B1.B8/\(iy g n clock).A2=g.A2/\(iy g n clock).A6=g.A6/\(iy g n clock).A9=g.A9:=by
 have e:iy g n clock={g with A1:={g.A1 with A0:=lz g.A1.A0 clock (runN n),B1:=rm g.A1 (lz g.A1.A0 clock (runN n))}}:=if_pos (.inl hp)
 rw[e]
 exact⟨rfl,hp,Zj2.2.1,rfl,rfl,rfl⟩
theorem xan(w:Way g)(n clock:Int)(hp:g.A1.A4=1):Way (iy g n clock):=by
 obtain⟨e1,e2,e3,e4,e5,e6⟩:=Zbc g n clock hp
 refine⟨λf hf=>?_,λf hf=>?_,by rw[e4];exact w.ph,by rw[e5];exact w.ks⟩
 ·rw[e1,e4,e5];exact w.le f hf
 ·rw[e1,e4,e5];exact w.hv f hf
structure Calm(i:Int)(m:bc)(g:dr):Prop where
 inv:Inv true m g
 c:Bk true m g
 f:g.A6=[]
 w:Way g
 r:g.A1.B1.B8=i
theorem Bk.Yk(c:Bk true m g)(hf:g.A6=[])(he:g.A2.A3=g.A1.A3):Way g:=
 ⟨c.tr.le,λf _=>.inl (by rw[he]),by have:=c.tp;simp only[fB,and_false,or_false]at this;omega,λx hx=>by rw[hf]at hx;cases hx⟩
theorem Zqg(hm:gz 8 m){b:List (List UInt8)}(hb:b.length=4)(hB:∀x∈b,x.length=128):Calm 0 m (lF m b):=
 ⟨⟨yP hm hb hB,.inl (Cz hm b)⟩,Cz hm b,rfl,(Cz hm b).Yk rfl rfl,rfl⟩
theorem Zoy(h:Calm i m g)(hi:i<=9):(lZ g (j8 2 0)).1=kG g:=by
 have hr:=h.r
 have e:(lZ g (j8 2 0)).1=if g.A1.A4=1/\g.A1.B1.B8<10 then L1 g else g:=rfl
 rw[e,if_pos ⟨h.c.sp,by omega⟩,He h.inv.1 (by omega)]
theorem zr(ok:fq g)(hp:g.A1.A4=1):(lZ g (j8 3 32)).1=Ed g:=by
 have e:(lZ g (j8 3 32)).1=Ec g 32:=rfl
 rw[e]
 unfold Ec
 rw[if_pos ⟨hp,qam ok.dl ok.r0 ok.r1 ok.s0 ok.s1⟩,He ok (ok.r2 hp)]
 rfl
def CA:List kU:=j8 2 0::j8 3 32::(cO 64 (j8 5 0)++[j8 8 0])
theorem Fm(h:Calm i m g)(hi:i<=9):Inv true m (uH g CA)/\j0 (uH g CA)=1/\(uH g CA).A2.A0=m/\(uH g CA).A9.D5=2/\(uH g CA).A9.D7=1:=by
 have hr:=h.r
 have ok:=h.inv.1
 have i1:Inv true m (kG g):=by
  have:=Yg h.inv
  rwa [if_pos ⟨h.c.sp,by omega⟩,He ok (by omega)]at this
 have c1:=O1 ok h.c
 obtain⟨w1,l1⟩:=Yj ok h.c h.w (by rw[h.f];decide)
 rw[h.f]at l1
 have l1:(kG g).A6.length<=8:=by simpa using l1
 obtain⟨w2,s2,l2⟩:=Zq4 i1.1 c1 w1 (by omega)
 have ok2:=Ye i1.1 c1.sp
 have c2:=Un i1.1 c1
 obtain⟨i3,c3,p3⟩:=Zqx (n:=64) ⟨ok2,.inr (.inr (.inl c2))⟩ c2 w2 s2 (by omega)
 have e:uH g CA=sI (jX 64 (Ed (kG g))):=by
  refine(vP 64 g).trans ?_
  rw[Zoy h hi,zr i1.1 c1.sp]
 rw[e]
 exact⟨i3,zaF i3 c3 p3⟩
end
theorem bt{a b:Int}(h:(a==b)=true):a=b:=by simpa using h
theorem bf{a b:Int}(h:(a==b)=false):a≠b:=by simpa using h
theorem nt{a b:Int}(h:(a !=b)=true):a≠b:=by simpa using h
theorem L7{a b:Int}(h:(a !=b)=false):a=b:=by simpa using h
def mv(g:dr):de:=⟨g.A1,g.A2,g.A6,g.C1,g.A9⟩
theorem yr(b:Bool)(x:fg):(Jn (mv g) b x).w λr=>r=mv (pr g b (fv (lY g b) x)):=by
 unfold Jn
 refine ab (λhb=>aq λ_ _=>ab (λh=>?_) (λh=>bg ?_)) (λhb=>aq λ_ _=>ab (λh=>?_) (λh=>bg ?_))
 ·subst hb
  have h:(g.C1.length:Int)<64:=oY h
  refine aw (dY (by show 328*(g.C1.length+1)<=_;omega)) (bg ?_)
  have e:fv g.C1 x=g.C1++[x]:=if_pos (by omega)
  show _=mv {g with C1:=fv g.C1 x}
  rw[e]<;>rfl
 ·subst hb
  have h:¬(g.C1.length:Int)<64:=oN h
  have e:fv g.C1 x=g.C1:=if_neg (by omega)
  show _=mv {g with C1:=fv g.C1 x}
  rw[e]<;>rfl
 ·subst hb
  have h:(g.A6.length:Int)<64:=oY h
  refine aw (dY (by show 328*(g.A6.length+1)<=_;omega)) (bg ?_)
  have e:fv g.A6 x=g.A6++[x]:=if_pos (by omega)
  show _=mv {g with A6:=fv g.A6 x}
  rw[e]<;>rfl
 ·subst hb
  have h:¬(g.A6.length:Int)<64:=oN h
  have e:fv g.A6 x=g.A6:=if_neg (by omega)
  show _=mv {g with A6:=fv g.A6 x}
  rw[e]<;>rfl
theorem O3(x:fg):(Jn (mv g) false x).w λr=>r=mv {g with A6:=fv g.A6 x}:=yr false x
theorem vr(x:fg):(Jn (mv g) true x).w λr=>r=mv {g with C1:=fv g.C1 x}:=yr true x
theorem Zb3{c:lj}(h0:0<=c.Frame)(h1:c.Frame<g.A1.A3.length):(O4 (mv g) c).w λr=>r=mv {g with A6:=fv g.A6 (tJ (g.A1.A3.getD c.Frame.toNat 0) c.Frame c.F1)}:=by
 unfold O4
 refine ab (λ_=>ab (λ_=>aw ?_ (cv (O3 (tJ (g.A1.A3.getD c.Frame.toNat 0) c.Frame c.F1)) λx hx=>bg hx)) (λh=>absurd h1 (oN h))) (λh=>absurd h0 (oN h))
 show(bX _ _&&bN _ _&&decide _)=true
 rw[dY (show 0<=c.Frame/\c.Frame<((mv g).A1.A3.length:Int) from⟨h0,h1⟩)];rfl
theorem Z5p(h:g.A1.A3.length=8):(O5 (mv g)).w λr=>r=mv {g with A6:=fv g.A6 (uE g.A1)}:=by
 unfold O5
 refine c8 (show g.A1.A3.length<=1000000000000 by omega) (aq λx0 h0=>?_)
 have h0:x0=g.A1.A3:=h0
 subst h0
 exact cv (O3 (uE g.A1)) λx hx=>bg hx
theorem qao(b:Bool):(Ur (mv g) b).w λr=>r=mv (Zk g b):=by
 unfold Ur
 refine ab (λh=>bg ?_) (λh=>bg ?_)<;>(subst h;rfl)
theorem qQ(h:Cv g.A9)(h0:0<=host):(O6 (mv g) host).w λr=>r=if(mA g.A9 host g.A1.D5).2=true then(true,mv {g with A9:=(mA g.A9 host g.A1.D5).1,A1:={g.A1 with A4:=3,D5:=(mA g.A9 host g.A1.D5).1.D5}})else(false,mv {g with A1:={g.A1 with A4:=4}}):=by
 unfold O6
 have c:=Tree.pp (Yb h h0 g.A1.D5)
 refine c8 c.1 (aq λx hx=>?_)
 have hx:x=mA g.A9 host g.A1.D5:=hx
 subst hx
 refine ab (λhb=>bg ?_) (λhb=>bg ?_)
 ·have hb:(mA g.A9 host g.A1.D5).2=false:=by simpa using hb
  rw[if_neg (by rw[hb];decide)];rfl
 ·have hb:(mA g.A9 host g.A1.D5).2=true:=by simpa using hb
  rw[if_pos hb];rfl
theorem xQ(h:Cv g.A9)(h0:0<=host):(O7 (mv g) host).w λr=>r=if(mA g.A9 host g.A2.D5).2=true then(true,mv {g with A9:=(mA g.A9 host g.A2.D5).1,A2:={g.A2 with A4:=3,D5:=(mA g.A9 host g.A2.D5).1.D5}})else(false,mv {g with A2:={g.A2 with A4:=4}}):=by
 unfold O7
 have c:=Tree.pp (Yb h h0 g.A2.D5)
 refine c8 c.1 (aq λx hx=>?_)
 have hx:x=mA g.A9 host g.A2.D5:=hx
 subst hx
 refine ab (λhb=>bg ?_) (λhb=>bg ?_)
 ·have hb:(mA g.A9 host g.A2.D5).2=false:=by simpa using hb
  rw[if_neg (by rw[hb];decide)];rfl
 ·have hb:(mA g.A9 host g.A2.D5).2=true:=by simpa using hb
  rw[if_pos hb];rfl
theorem zQ(h:Cv g.A9):(O8 (mv g)).w λr=>r=mv (oz g):=by
 unfold O8
 refine ab (λh1=>?_) (λh1=>ab (λh2=>?_) (λh2=>bg ?_))
 ·have h1:g.A1.A4=1:=bt h1
  have e:oz g={g with A1:={g.A1 with A4:=3},A6:=fv g.A6 (Cw 4)}:=if_pos h1
  rw[e]
  exact cv (O3 (g:={g with A1:={g.A1 with A4:=3}}) (Cw 4)) λx hx=>bg hx
 ·have h1:¬g.A1.A4=1:=bf h1
  have h2:g.A1.A4=2:=bt h2
  refine cv (qQ h (eN 0)) λy hy=>?_
  unfold oz
  rw[if_neg h1,if_pos h2]
  by_cases hb:(mA g.A9 0 g.A1.D5).2=true
  ·rw[if_pos hb]at hy⊢
   subst hy
   exact ab (λh=>by cases h) λ_=>cv (O3 (g:={g with A9:=(mA g.A9 0 g.A1.D5).1,A1:={g.A1 with A4:=3,D5:=(mA g.A9 0 g.A1.D5).1.D5}}) (Cw 4)) λx hx=>bg hx
  ·rw[if_neg hb]at hy⊢
   subst hy
   exact ab (λ_=>bg rfl) λh=>by cases h
 ·have h1:¬g.A1.A4=1:=bf h1
  have h2:¬g.A1.A4=2:=bf h2
  unfold oz
  rw[if_neg h1,if_neg h2]
theorem zao(ok:fq g)(ox:jE x)(hk:x.C2=1)(hp:g.A2.A4=0\/g.A2.A4=1\/g.A2.A4=2):(O9 (mv g) x).w λr=>r=mv {g with A2:=iK g.A2 x}:=by
 obtain⟨f0,f1,hd⟩:=ox.pg hk
 obtain⟨k,ek⟩:∃f:Nat,x.Frame=f:=⟨x.Frame.toNat,by omega⟩
 have k8:k<8:=by omega
 have tl:=ok.tl
 have sp:Uh g.A2.A0.Mem x.Frame x.F1:=by rw[ek];exact Zkz ok.tm k8 hd
 have s2:(rP g.A2.A0.Mem x.Frame x.F1).2=true:=by rw[ek];exact(Ug ok.tm k8 hd).1
 have cn:∀l:List Int,l.length=8->(bX 1 1&&bN 0 1&&decide (0<=x.Frame/\x.Frame<(l.length:Int)))=true:=λl hl=>by
  rw[dY (show 0<=x.Frame/\x.Frame<(l.length:Int) by omega)];rfl
 unfold O9
 refine ab (λh=>absurd (oY h) (by omega)) λ_=>ab (λh=>absurd (oY h) (by show¬x.Frame>=(g.A2.A3.length:Int);omega)) λ_=>aw (cn _ tl) (ab (λh=>bg ?_) λh=>c8 sp (aq λy hy=>?_))
 ·have h:x.B8<=g.A2.A3.getD x.Frame.toNat 0:=oY h
  have e:iK g.A2 x=g.A2:=by
   unfold iK
   rw[if_neg (λh=>h hp),if_pos hk,if_neg (λh=>by have:=h.2.2;omega)]
  rw[e]
 ·have h:¬x.B8<=g.A2.A3.getD x.Frame.toNat 0:=oN h
  have hy:y=rP g.A2.A0.Mem x.Frame x.F1:=hy
  subst hy
  have e:iK g.A2 x={g.A2 with A4:=if g.A2.A4=0 then 1 else g.A2.A4,A0:={g.A2.A0 with Mem:=(rP g.A2.A0.Mem x.Frame x.F1).1},A3:=g.A2.A3.set x.Frame.toNat x.B8}:=by
   unfold iK
   rw[if_neg (λh=>h hp),if_pos hk,if_pos ⟨by omega,by omega,by omega⟩]
  rw[e]
  refine ab (λhb=>?_) λ_=>aw (cn _ tl) (ab (λh0=>bg ?_) λh0=>bg ?_)
  ·rw[s2]at hb;cases hb
  ·have h0:g.A2.A4=0:=bt h0
   rw[if_pos h0];rfl
  ·have h0:¬g.A2.A4=0:=bf h0
   rw[if_neg h0];rfl
theorem qt(ok:fq g)(ox:jE x):(Pa (mv g) x).w λr=>r=mv {g with A2:=iK g.A2 x}:=by
 have leaf:(g.A2.A4=0\/g.A2.A4=1\/g.A2.A4=2)->∀(k1:x.C2≠1),(x.C2=2->g.A2.A4=2->iK g.A2 x=g.A2)/\(x.C2=2->g.A2.A4≠2->iK g.A2 x={g.A2 with A4:=2,A0:={x.A0 with Mem:=g.A2.A0.Mem},C0:=x.A3})/\(x.C2≠2->x.C2=4->iK g.A2 x={g.A2 with A4:=4})/\(x.C2≠2->x.C2≠4->iK g.A2 x=g.A2):=λhp k1=>by
  refine⟨λk p=>?_,λk p=>?_,λk p=>?_,λk p=>?_⟩
  ·unfold iK;rw[if_neg (λh=>h hp),if_neg k1,if_pos k,if_pos p]
  ·unfold iK;rw[if_neg (λh=>h hp),if_neg k1,if_pos k,if_neg p]
  ·unfold iK;rw[if_neg (λh=>h hp),if_neg k1,if_neg k,if_pos p]
  ·unfold iK;rw[if_neg (λh=>h hp),if_neg k1,if_neg k,if_neg p]
 unfold Pa
 refine ab (λh0=>ab (λh1=>ab (λh2=>bg ?_) (λh2=>?_)) (λh1=>?_)) (λh0=>?_)
 ·have h0:g.A2.A4≠0:=nt h0
  have h1:g.A2.A4≠1:=nt h1
  have h2:g.A2.A4≠2:=nt h2
  have e:iK g.A2 x=g.A2:=by unfold iK;rw[if_pos (by omega)]
  rw[e]
 all_goals
  have hp:g.A2.A4=0\/g.A2.A4=1\/g.A2.A4=2:=by
   first
    |exact .inr (.inr (L7 h2))
    |exact .inr (.inl (L7 h1))
    |exact .inl (L7 h0)
  refine ab (λk=>cv (zao ok ox (bt k) hp) λy hy=>bg hy) (λk1=>?_)
  have k1:x.C2≠1:=bf k1
  obtain⟨q1,q2,q3,q4⟩:=leaf hp k1
  refine ab (λk2=>?_) (λk2=>?_)
  ·have k2:x.C2=2:=bt k2
   refine ab (λp=>bg ?_) (λp=>bg ?_)
   ·rw[q1 k2 (bt p)]
   ·rw[q2 k2 (bf p)];rfl
  ·have k2:x.C2≠2:=bf k2
   refine ab (λp=>bg ?_) (λp=>bg ?_)
   ·rw[q3 k2 (bt p)];rfl
   ·rw[q4 k2 (bf p)]
theorem Zmz(R l:List Int)(x v:Int):rQ R (l++[x]) v=(rQ R l v).set x.toNat v:=by
 unfold rQ;rw[fC];rfl
theorem Yl(l k:List fg)(x:fg):pq l (k++[x])=fv (pq l k) x:=by
 unfold pq;rw[fC];rfl
theorem Pb{α:Type}{l:List α}{i:Nat}(h:i<l.length):l.take (i+1)=l.take i++[l[i]]:=by
 rw[List.take_add_one,aI h];rfl
theorem Pd{n i:Nat}(h:i<n):(bX 2 2&&bN 0 2&&decide (0<=(i:Int)/\(i:Int)<(n:Int)))=true:=by
 rw[dY (by omega)];rfl
def Ef(g:dr)(i:Nat):dr:=
 { g with
   A1:={g.A1 with B1:=⟨cO 8 false,g.A1.B1.B8+1,g.A1.B1.D6+(ib g.A1.B1.B0 0).length⟩,A3:=rQ g.A1.A3 ((ib g.A1.B1.B0 0).take i) (g.A1.B1.B8+1)}
   A6:=pq g.A6 ((tL g.A1.B1 g.A1.A0.Mem).take i)}
theorem Zqa(ok:fq g)(hr:g.A1.B1.B8<=10):(Pe (mv g)).w λr=>r=mv (kG g):=by
 obtain⟨r1,r2⟩:=zm (c:=g.A1.B1) (m:=g.A1.A0.Mem) (by have:=ok.dl;omega)
 rw[ok.round hr]at r2
 have sl:=Yd ok.dl
 have rl:=ok.rl
 have lS:(tL g.A1.B1 g.A1.A0.Mem).length=(ib g.A1.B1.B0 0).length:=by unfold tL mN;rw[eW,eW]
 have lC:(mN g.A1.A0.Mem (ib g.A1.B1.B0 0)).length=(ib g.A1.B1.B0 0).length:=by unfold mN;rw[eW]
 unfold Pe
 refine c8 r1 (aq λx0 h0=>?_)
 have h0:x0=Jg g.A1.B1 g.A1.A0.Mem:=h0
 have h0:=h0.trans r2
 subst h0
 refine fj (inv:=λz:Int×de=>∃i:Nat,z.1=i/\i<=(ib g.A1.B1.B0 0).length/\z.2=mv (Ef g i)) (μ:=Qd7 (mv g)) ⟨0,rfl,bC _,rfl⟩ (cN _) ?_
 rintro⟨_,y⟩ ⟨i,rfl,hi,hy⟩
 simp only at hy
 subst hy
 refine ab (λbd=>?_) (λgh=>bg ?_)
 ·have bd:(i:Int)<((mN g.A1.A0.Mem (ib g.A1.B1.B0 0)).length:Int):=oY bd
  have hl:i<(ib g.A1.B1.B0 0).length:=by rw[lC]at bd;omega
  have ew:wrap .i64 ((i:Int)+1)=((i+1:Nat):Int):=by rw[wi (by omega) (by omega)];omega
  have eg:(mN g.A1.A0.Mem (ib g.A1.B1.B0 0)).getD (dA (i:Int)) (RK.ed RK.bn)=⟨(ib g.A1.B1.B0 0)[i],(jG g.A1.A0.Mem (ib g.A1.B1.B0 0)[i]).1⟩:=by
   simp[aV,mN,hl]
  have hm:=OJ (eT hl)
  have dl:=ok.dl
  have lp:(Ef g i).A1.A3.length=8:=Ui.trans rl
  generalize hf:(ib g.A1.B1.B0 0)[i]=f at eg hm
  have f0:0<=f:=hm.1
  have f8:f<8:=by omega
  have Ym:(f:Int)<(((mv (Ef g i)).A1.A3).length:Int):=by show f<((Ef g i).A1.A3.length:Int);omega
  have hlC:i<(mN g.A1.A0.Mem (ib g.A1.B1.B0 0)).length:=by rw[lC];exact hl
  refine aw (Pd hlC) ?_
  rw[eg]
  refine ab (λ_=>ab (λ_=>aw ?_ ?_) (λh=>absurd Ym (oN h))) (λh=>absurd f0 (oN h))
  ·show(bX _ _&&bN _ _&&decide (0<=f/\f<_))=true
   rw[dY ⟨f0,Ym⟩];rfl
  ·have e1:∀l:List Int,l.length=8->(l.set f.toNat (g.A1.B1.B8+1)).getD f.toNat 0=g.A1.B1.B8+1:=λl hl=>by rw[Ew (by omega),if_pos rfl]
   refine cv (Zb3 (g:={Ef g i with A1:={(Ef g i).A1 with A3:=(Ef g i).A1.A3.set f.toNat (g.A1.B1.B8+1)}}) (c:=⟨f,(jG g.A1.A0.Mem f).1⟩) f0 (by show f<(((Ef g i).A1.A3.set f.toNat (g.A1.B1.B8+1)).length:Int);rw[dC];exact Ym)) λy hy=>ep ⟨⟨i+1,ew,by omega,?_⟩,?_⟩
   ·rw[hy]
    show mv _=mv _
    congr 1
    have t1:(ib g.A1.B1.B0 0).take (i+1)=(ib g.A1.B1.B0 0).take i++[f]:=by rw[Pb hl,hf]
    have t2:(tL g.A1.B1 g.A1.A0.Mem).take (i+1)=(tL g.A1.B1 g.A1.A0.Mem).take i++[tJ (g.A1.B1.B8+1) f (jG g.A1.A0.Mem f).1]:=by
     rw[Pb (by omega)]
     congr 2
     have:(tL g.A1.B1 g.A1.A0.Mem)[i]'(by omega)=tJ (g.A1.B1.B8+1) (ib g.A1.B1.B0 0)[i] (jG g.A1.A0.Mem (ib g.A1.B1.B0 0)[i]).1:=by simp[tL,mN]
     rw[this,hf]
    unfold Ef
    rw[t1,t2,Zmz,Yl]
    show dr.mk _ _ (fv _ (tJ ((List.set _ f.toNat _).getD f.toNat 0) f _)) _ _=_
    rw[e1 _ (Ui.trans rl)]
   ·show(_-wrap .i64 ((i:Int)+1)).toNat<(_-(i:Int)).toNat
    rw[ew]
    show(((Jg g.A1.B1 g.A1.A0.Mem).2.length:Int)-((i+1:Nat):Int)).toNat<_
    show _<(((Jg g.A1.B1 g.A1.A0.Mem).2.length:Int)-(i:Int)).toNat
    rw[r2]
    show(((mN g.A1.A0.Mem (ib g.A1.B1.B0 0)).length:Int)-((i+1:Nat):Int)).toNat<(((mN g.A1.A0.Mem (ib g.A1.B1.B0 0)).length:Int)-(i:Int)).toNat
    rw[lC];omega
 ·have gh:¬(i:Int)<((mN g.A1.A0.Mem (ib g.A1.B1.B0 0)).length:Int):=oN gh
  have hi2:i=(ib g.A1.B1.B0 0).length:=by rw[lC]at gh;omega
  show mv _=mv _
  congr 1
  unfold Ef kG
  rw[fD (by omega),fD (by omega)]
theorem xao(ok:fq g)(fi:Int):(Pf (mv g) fi).w λr=>r=mv (Ec g fi):=by
 unfold Pf
 refine ab (λh=>bg ?_) (λh=>?_)
 ·have h:¬g.A1.A4=1:=nt h
  unfold Ec
  rw[if_neg (λq=>h q.1)]
 ·have h:g.A1.A4=1:=L7 h
  obtain⟨s1,s2⟩:=y0 (c:=g.A1.B1) (fi:=fi) (by have:=ok.dl;omega)
  refine c8 s1 (aq λx0 h0=>?_)
  have h0:x0=Je g.A1.B1 fi:=h0
  subst h0
  refine ab (λhb=>bg ?_) (λhb=>?_)
  ·have hb:Je g.A1.B1 fi=false:=by simpa using hb
   unfold Ec
   rw[if_neg (λq=>by rw[hb]at q;cases q.2)]
  ·have hb:Je g.A1.B1 fi=true:=by simpa using hb
   have e:Ec g fi=Ed g:=by
    unfold Ec
    rw[if_pos ⟨h,hb⟩,He ok (ok.r2 h)];rfl
   rw[e]
   refine cv (Zqa ok (ok.r2 h)) λx1 h1=>?_
   subst h1
   have rl:(kG g).A1.A3.length=8:=Ui.trans ok.rl
   exact cv (Z5p (g:={kG g with A1:={(kG g).A1 with A4:=2}}) rl) λy hy=>bg hy
theorem xt(ok:fq g):(Pg (mv g)).w λr=>r=mv (L2 g):=by
 unfold Pg
 refine ab (λh=>bg ?_) (λh=>?_)
 ·have h:¬g.A1.A4=2:=nt h
  unfold L2
  rw[if_neg h]
 ·have h:g.A1.A4=2:=L7 h
  have e:L2 g=OZ g:=if_pos h
  rw[e]
  have mp:jQ g.A1.A0.Mem=((8:Nat):Int):=LW (P:=8) ok.rp.len (by decide)
  refine aq λx0 h0=>?_
  have h0:x0=((8:Nat):Int):=h0.trans mp
  subst h0
  refine fj (inv:=λz:Int×de=>∃i:Nat,z.1=i/\i<=8/\z.2=mv {g with A6:=pq g.A6 ((sH g.A1).take i)}) (μ:=Qbi (mv g)) ⟨0,rfl,bC _,rfl⟩ (cN _) ?_
  rintro⟨_,y⟩ ⟨i,rfl,hi,hy⟩
  simp only at hy
  subst hy
  have lP:=xn g.A1
  refine ab (λbd=>?_) (λgh=>?_)
  ·have bd:(i:Int)<((8:Nat):Int):=oY bd
   have i8:i<8:=by omega
   have ew:wrap .i64 ((i:Int)+1)=((i+1:Nat):Int):=by rw[wi (by omega) (by omega)];omega
   refine c8 (Zq (P:=8) ok.rp.len (by decide) (by omega) (by omega)) (aq λx1 h1=>?_)
   have h1:x1=jG g.A1.A0.Mem i:=h1
   subst h1
   have rl:=ok.rl
   refine ab (λ_=>cv (Zb3 (g:={g with A6:=pq g.A6 ((sH g.A1).take i)}) (c:=⟨i,(jG g.A1.A0.Mem i).1⟩) (by show(0:Int)<=(i:Int);omega) (by show(i:Int)<(g.A1.A3.length:Int);omega)) λy hy=>ep ⟨⟨i+1,ew,by omega,?_⟩,?_⟩) (λhb=>?_)
   ·rw[hy]
    show mv _=mv _
    congr 1
    have t:(sH g.A1).take (i+1)=(sH g.A1).take i++[tJ (g.A1.A3.getD i 0) i (jG g.A1.A0.Mem i).1]:=by
     rw[Pb (by omega)]
     congr 2
     unfold sH
     rw[List.getElem_map,List.getElem_range]
    rw[t,Yl]
    rfl
   ·show(_-wrap .i64 ((i:Int)+1)).toNat<(_-(i:Int)).toNat
    rw[ew]
    show(jQ g.A1.A0.Mem-((i+1:Nat):Int)).toNat<(jQ g.A1.A0.Mem-(i:Int)).toNat
    rw[mp];omega
   ·exfalso
    have:(jG g.A1.A0.Mem i).2=true:=(Jh ok.rp i8).2
    rw[this]at hb;cases hb
  ·have gh:¬(i:Int)<((8:Nat):Int):=oN gh
   have i8:i=8:=by omega
   subst i8
   have e3:(sH g.A1).take 8=sH g.A1:=fD (by omega)
   have e2:OZ g={g with A6:=fv (pq g.A6 (sH g.A1)) (uE g.A1)}:=by
    unfold OZ;rw[Yl]
   rw[e2,e3]
   generalize sH g.A1=L
   exact cv (Z5p (g:={g with A6:=pq g.A6 L}) ok.rl) λy hy=>bg hy
theorem Us(n:Int):(if 64<(if 0>n then 0 else n)then 64 else if 0>n then 0 else n)=((runN n:Nat):Int):=by
 unfold runN
 split<;>split<;>omega
theorem xaF(ok:fq g)(hc:U clock)(n:Int):(Ph (mv g) n clock).w λr=>r=mv (iy g n clock):=by
 have rn:runN n<=64:=by unfold runN;omega
 have er:Hh g=j0 g:=by
  unfold j0
  simp only[Hh,Ut,Tree.m]
  by_cases h1:g.A1.A4=1
  ·simp[h1]
  ·by_cases h3:g.A1.A4=3
   ·simp[h3]
   ·by_cases ht:g.A2.A4=3
    ·simp[beq_false_of_ne h1,beq_false_of_ne h3,h1,h3,ht]
    ·simp[beq_false_of_ne h1,beq_false_of_ne h3,beq_false_of_ne ht,h1,h3,ht]
 unfold Ph
 refine aq λx0 h0=>?_
 have h0:x0=j0 g:=h0.trans er
 subst h0
 refine ab (λh=>bg ?_) (λh=>ab (λh1=>?_) (λh1=>?_))
 ·have h:j0 g= -1:=bt h
  unfold j0 at h
  unfold iy
  split at h
  ·omega
  ·rename_i q1
   split at h
   ·omega
   ·rename_i q2
    rw[if_neg q1,if_neg q2]
 ·have h1:j0 g=1:=bt h1
  have q:¬(g.A1.A4=1\/g.A1.A4=3)/\g.A2.A4=3:=by
   unfold j0 at h1
   split at h1
   ·omega
   ·rename_i q1
    split at h1
    ·rename_i q2;exact⟨q1,q2⟩
    ·omega
  have gt:=ok.tg (.inr q.2)
  have e:iy g n clock={g with A2:={g.A2 with A0:=lz g.A2.A0 clock (runN n)}}:=by unfold iy;rw[if_neg q.1,if_pos q.2]
  rw[e]
  refine fj (inv:=λz:Int×bc=>∃i:Nat,z.1=i/\i<=runN n/\z.2=lz g.A2.A0 clock i) (μ:=λz=>(1000-z.1).toNat) ⟨0,rfl,bC _,rfl⟩ (by simp only[Uu];omega) ?_
  rintro⟨_,y⟩ ⟨i,rfl,hi,hy⟩
  simp only at hy
  subst hy
  refine ab (λbd=>?_) (λgh=>ab (λhp=>?_) (λhp=>bg ?_))
  ·have bd:(i:Int)<(if 64<(if 0>n then 0 else n)then 64 else if 0>n then 0 else n):=oY bd
   rw[Us]at bd
   have ew:wrap .i64 ((i:Int)+1)=((i+1:Nat):Int):=by rw[wi (by omega) (by omega)];omega
   refine c8 (Z6l (Jk gt hc i) hc) (aq λx1 h1=>ep ⟨⟨i+1,ew,by omega,?_⟩,by show(1000-wrap .i64 ((i:Int)+1)).toNat<(1000-(i:Int)).toNat;rw[ew];omega⟩)
   show x1.1=_
   rw[h1];rfl
  ·exfalso
   have hp:g.A2.A4=1:=bt hp
   omega
  ·have gh:¬(i:Int)<(if 64<(if 0>n then 0 else n)then 64 else if 0>n then 0 else n):=oN gh
   rw[Us]at gh
   have:i=runN n:=by omega
   subst this
   rfl
 ·have hn:¬j0 g= -1:=bf h
  have h1:¬j0 g=1:=bf h1
  have q:g.A1.A4=1\/g.A1.A4=3:=by
   unfold j0 at hn h1
   split at hn
   ·assumption
   ·rename_i q1
    rw[if_neg q1]at h1
    split at hn
    ·rename_i q2;rw[if_pos q2]at h1;exact absurd rfl h1
    ·exact absurd rfl hn
  have e:iy g n clock={g with A1:={g.A1 with A0:=lz g.A1.A0 clock (runN n),B1:=rm g.A1 (lz g.A1.A0 clock (runN n))}}:=if_pos q
  rw[e]
  refine fj (inv:=λz:Int×bc=>∃i:Nat,z.1=i/\i<=runN n/\z.2=lz g.A1.A0 clock i) (μ:=λz=>(1000-z.1).toNat) ⟨0,rfl,bC _,rfl⟩ (by simp only[Uu];omega) ?_
  rintro⟨_,y⟩ ⟨i,rfl,hi,hy⟩
  simp only at hy
  subst hy
  refine ab (λbd=>?_) (λgh=>?_)
  ·have bd:(i:Int)<(if 64<(if 0>n then 0 else n)then 64 else if 0>n then 0 else n):=oY bd
   rw[Us]at bd
   have ew:wrap .i64 ((i:Int)+1)=((i+1:Nat):Int):=by rw[wi (by omega) (by omega)];omega
   refine c8 (Z6l (Jk ok.src hc i) hc) (aq λx1 h1=>ep ⟨⟨i+1,ew,by omega,?_⟩,by show(1000-wrap .i64 ((i:Int)+1)).toNat<(1000-(i:Int)).toNat;rw[ew];omega⟩)
   show x1.1=_
   rw[h1];rfl
  ·have gh:¬(i:Int)<(if 64<(if 0>n then 0 else n)then 64 else if 0>n then 0 else n):=oN gh
   rw[Us]at gh
   have hi:i=runN n:=by omega
   subst hi
   have sg:=Jk ok.src hc (runN n)
   refine ab (λhp=>?_) (λhp=>bg ?_)
   ·have hp:g.A1.A4=1:=bt hp
    obtain⟨c1,c2,_⟩:=Zjm ok.rp sg.nu
    refine c8 c1 (aq λx2 h2=>?_)
    have h2:x2=Q3 g.A1.A0.Mem (lz g.A1.A0 clock (runN n)).Mem:=h2
    rw[<-h2]at c2
    obtain⟨n1,n2⟩:=xaD (c:=g.A1.B1) (l:=x2) (by have:=ok.dl;omega) (by omega)
    refine c8 n1 (aq λx3 h3=>bg ?_)
    have h3:x3=Ua g.A1.B1 x2:=h3
    rw[n2,h2]at h3
    subst h3
    have en:rm g.A1 (lz g.A1.A0 clock (runN n))={g.A1.B1 with B0:=rk g.A1.B1.B0 (Q3 g.A1.A0.Mem (lz g.A1.A0 clock (runN n)).Mem)}:=if_pos hp
    rw[en];rfl
   ·have hp:¬g.A1.A4=1:=bf hp
    have en:rm g.A1 (lz g.A1.A0 clock (runN n))=g.A1.B1:=if_neg hp
    rw[en];rfl
theorem Yn(ok:fq g)(b:Bool)(i:Int):(Jo (mv g) b i).w λr=>(lB (lY g b) i->r=(na (lY g b) i,true,mv (tK g b i)))/\(¬lB (lY g b) i->r.2.1=false/\r.2.2=mv g):=by
 have cn:∀l:List fg,lB l i->(bX 54 54&&bN 0 54&&decide (0<=i/\i<(l.length:Int)))=true:=λl hl=>by rw[dY (show 0<=i/\i<(l.length:Int) from hl)];rfl
 have fin:∀l:List fg,l.length<=64->lB l i->wrap .i64 (i+1)=i+1/\l.take i.toNat++l.drop (i+1).toNat=lD l i/\(fE (i-0)/\fE (wrap .i64 (i+1)-(i+1))/\fE ((l.length:Int)-wrap .i64 (i+1))):=λl hl hi=>by
  obtain⟨h0,h1⟩:=hi
  have ew:wrap .i64 (i+1)=i+1:=wi (by omega) (by omega)
  refine⟨ew,?_,?_⟩
  ·unfold lD;rw[show(i+1).toNat=i.toNat+1 by omega]
  ·rw[ew]
   exact⟨(h0:(0:Int)<=i),(eN _:i+1<=i+1),(show i+1<=(l.length:Int) by omega)⟩
 unfold Jo
 refine ab (λhb=>aq λ_ _=>ab (λh=>bg ?_) (λh=>ab (λh2=>bg ?_) λh2=>?_)) (λhb=>aq λ_ _=>ab (λh=>bg ?_) (λh=>ab (λh2=>bg ?_) λh2=>?_))
 all_goals subst hb
 ·have h:i<0:=oY h
  exact⟨λq=>absurd q.1 (by omega),λ_=>⟨rfl,rfl⟩⟩
 ·have h2:i>=(g.C1.length:Int):=oY h2
  exact⟨λq=>absurd q.2 (by show¬i<(g.C1.length:Int);omega),λ_=>⟨rfl,rfl⟩⟩
 ·have h:¬i<0:=oN h
  have h2:¬i>=(g.C1.length:Int):=oN h2
  have hi:lB g.C1 i:=⟨by omega,by omega⟩
  obtain⟨e1,e2,e3⟩:=fin g.C1 ok.bl hi
  refine aw (cn _ hi) (c8 e3 (aq λx3 h3=>bg ⟨λ_=>?_,λq=>absurd hi q⟩))
  have h3:x3=g.C1.take i.toNat++g.C1.drop (wrap .i64 (i+1)).toNat:=h3
  rw[e1,e2]at h3
  have el:tK g true i={g with C1:=lD g.C1 i}:=if_pos hi
  rw[el,h3];rfl
 ·have h:i<0:=oY h
  exact⟨λq=>absurd q.1 (by omega),λ_=>⟨rfl,rfl⟩⟩
 ·have h2:i>=(g.A6.length:Int):=oY h2
  exact⟨λq=>absurd q.2 (by show¬i<(g.A6.length:Int);omega),λ_=>⟨rfl,rfl⟩⟩
 ·have h:¬i<0:=oN h
  have h2:¬i>=(g.A6.length:Int):=oN h2
  have hi:lB g.A6 i:=⟨by omega,by omega⟩
  obtain⟨e1,e2,e3⟩:=fin g.A6 ok.fl hi
  refine aw (cn _ hi) (c8 e3 (aq λx3 h3=>bg ⟨λ_=>?_,λq=>absurd hi q⟩))
  have h3:x3=g.A6.take i.toNat++g.A6.drop (wrap .i64 (i+1)).toNat:=h3
  rw[e1,e2]at h3
  have el:tK g false i={g with A6:=lD g.A6 i}:=if_pos hi
  rw[el,h3];rfl
theorem Zsg(ok:fq g)(b:Bool)(i:Int):(Jo (mv g) b i).w λr=>r.2.2=mv (tK g b i):=by
 have t:=Tree.pp (Yn ok b i)
 refine(Jo (mv g) b i).mono (λr (h:(lB (lY g b) i->r=(na (lY g b) i,true,mv (tK g b i)))/\(¬lB (lY g b) i->r.2.1=false/\r.2.2=mv g))=>?_) (Yn ok b i)
 by_cases hi:lB (lY g b) i
 ·rw[h.1 hi]
 ·have e:tK g b i=g:=if_neg hi
  rw[(h.2 hi).2,e]
theorem Zqu(ok:fq g)(b:Bool)(i:Int):(Pj (mv g) b i).w λr=>r=mv (mO g b i):=by
 unfold Pj
 refine cv (Yn ok b i) λx0 ⟨t1,t2⟩=>?_
 by_cases hi:lB (lY g b) i
 ·rw[t1 hi]
  have e:mO g b i=L3 (tK g b i) b (na (lY g b) i):=if_pos hi
  rw[e]
  have ox:=(ok.F4 b).2 _ (Fj hi)
  have ol:=Yf ok b i
  generalize na (lY g b) i=x at ox
  generalize tK g b i=l at ol
  refine ab (λh=>by cases h) λ_=>?_
  cases b
  ·exact ab (λ_=>cv (qt ol ox) λy hy=>bg hy) λh=>by cases h
  ·have et:L3 l true x=if l.A1.A4=2/\x.C2=3 then{l with A1:={l.A1 with A4:=4}}else l:=if_pos rfl
   rw[et]
   refine ab (λh=>by cases h) λ_=>ab (λh1=>ab (λh2=>bg ?_) (λh2=>bg ?_)) (λh1=>bg ?_)
   ·rw[if_pos (show l.A1.A4=2/\x.C2=3 from⟨bt h1,bt h2⟩)];rfl
   ·rw[if_neg (show¬(l.A1.A4=2/\x.C2=3) fromλq=>bf h2 q.2)]
   ·rw[if_neg (show¬(l.A1.A4=2/\x.C2=3) fromλq=>bf h1 q.1)]
 ·obtain⟨a,c⟩:=t2 hi
  have e:mO g b i=g:=if_neg hi
  rw[e]
  refine ab (λ_=>bg c) λh=>?_
  rw[a]at h;cases h
theorem Yo(h:jE x):(Pk x).w λr=>r=x:=by
 unfold Pk
 have cm:(CB x.A0).w λr=>r=x.A0:=by
  unfold CB
  exact c8 (show x.A0.Mem.length<=35184372088832 by rw[h.mem];decide) (aq λy hy=>by have hy:y=x.A0.Mem:=hy;subst hy;exact bg rfl)
 refine cv cm λy hy=>?_
 subst hy
 refine c8 (show x.A3.length<=1000000000000 by have:=h.rl;omega) (aq λz hz=>?_)
 have hz:z=x.A3:=hz
 subst hz
 exact bg rfl
theorem yt(ok:fq g)(b:Bool)(i:Int):(Pl (mv g) b i).w λr=>r=mv (rR g b i):=by
 have cn:∀l:List fg,lB l i->(bX 54 54&&bN 0 54&&decide (0<=i/\i<(l.length:Int)))=true:=λl hl=>by rw[dY (show 0<=i/\i<(l.length:Int) from hl)];rfl
 unfold Pl
 refine ab (λhb=>aq λ_ _=>ab (λh=>ab (λh2=>?_) (λh2=>bg ?_)) (λh=>bg ?_)) (λhb=>aq λ_ _=>ab (λh=>ab (λh2=>?_) (λh2=>bg ?_)) (λh=>bg ?_))
 all_goals subst hb
 ·have hi:lB g.C1 i:=⟨oY h,oY h2⟩
  have e:rR g true i={g with C1:=fv g.C1 (na g.C1 i)}:=if_pos hi
  rw[e]
  refine aw (cn _ hi) (cv (Yo (x:=na g.C1 i) (ok.bo _ (Fj hi))) λx1 h1=>?_)
  subst h1
  exact cv (vr _) λy hy=>bg hy
 ·have h2:¬i<(g.C1.length:Int):=oN h2
  have e:rR g true i=g:=if_neg (λq=>h2 q.2)
  rw[e]
 ·have h:¬i>=0:=oN h
  have e:rR g true i=g:=if_neg (λq=>h q.1)
  rw[e]
 ·have hi:lB g.A6 i:=⟨oY h,oY h2⟩
  have e:rR g false i={g with A6:=fv g.A6 (na g.A6 i)}:=if_pos hi
  rw[e]
  refine aw (cn _ hi) (cv (Yo (x:=na g.A6 i) (ok.fo _ (Fj hi))) λx1 h1=>?_)
  subst h1
  exact cv (O3 _) λy hy=>bg hy
 ·have h2:¬i<(g.A6.length:Int):=oN h2
  have e:rR g false i=g:=if_neg (λq=>h2 q.2)
  rw[e]
 ·have h:¬i>=0:=oN h
  have e:rR g false i=g:=if_neg (λq=>h q.1)
  rw[e]
theorem Zi3(hl:l.length<=64)(h:∀x∈l,jE x):(Q4 l).w λr=>r=l:=by
 unfold Q4
 refine fj (inv:=λz:Int×List fg=>∃i:Nat,z.1=i/\i<=l.length/\z.2=l.take i) (μ:=Yp l) ⟨0,rfl,bC _,rfl⟩ (cN _) ?_
 rintro⟨_,y⟩ ⟨i,rfl,hi,hy⟩
 simp only at hy
 subst hy
 refine ab (λbd=>?_) (λgh=>bg ?_)
 ·have bd:i<l.length:=by have:(i:Int)<(l.length:Int):=oY bd;omega
  have ew:wrap .i64 ((i:Int)+1)=((i+1:Nat):Int):=by rw[wi (by omega) (by omega)];omega
  have eg:l.getD (dA (i:Int)) (RK.ed RK.aa)=l[i]:=by simp[aV,bd]
  have lt:(l.take i).length=i:=by rw[aD];omega
  refine aw (by rw[dY (show 0<=(i:Int)/\(i:Int)<(l.length:Int) by omega)];rfl) ?_
  rw[eg]
  refine cv (Yo (h _ (eT bd))) λx0 h0=>?_
  subst h0
  refine aw (dY (by show 328*((l.take i).length+1)<=_;omega)) (ep ⟨⟨i+1,ew,bd,(Pb bd).symm⟩,by simp only[Yp,ew];omega⟩)
 ·have gh:¬(i:Int)<(l.length:Int):=oN gh
  exact fD (by omega)
theorem Z86{s:ia}(hm:s.A0.Mem.length<=1024)(hd:s.B1.B0.length<=8)(hr:s.A3.length<=8)(hf:s.C0.length<=8):(Pm s).w λr=>r=s:=by
 unfold Pm
 have cm:(CB s.A0).w λr=>r=s.A0:=by
  unfold CB
  exact c8 (show s.A0.Mem.length<=35184372088832 by omega) (aq λy hy=>by have hy:y=s.A0.Mem:=hy;subst hy;exact bg rfl)
 refine cv cm λy hy=>?_
 subst hy
 refine c8 (show s.B1.B0.length<=140737488355328 by omega) (aq λa ha=>c8 (show s.A3.length<=1000000000000 by omega) (aq λb hb=>c8 (show s.C0.length<=1000000000000 by omega) (aq λc hc=>bg ?_)))
 have ha:a=s.B1.B0:=ha
 have hb:b=s.A3:=hb
 have hc:c=s.C0:=hc
 subst ha;subst hb;subst hc
 rfl
theorem fq.Pn(h:fq g):g.A1.A0.Mem.length<=1024/\g.A2.A0.Mem.length<=1024:=by
 have a:=h.rp.len
 have b:=h.tm.len
 omega
theorem Zpj(ok:fq g):(Po g).w λr=>r=g:=by
 obtain⟨l1,l2⟩:=ok.Pn
 unfold Po
 refine cv (Z86 l1 (by have:=ok.dl;omega) (by have:=ok.rl;omega) ok.sf) λx0 h0=>cv (Z86 l2 ok.tc (by have:=ok.tl;omega) ok.tf) λx1 h1=>cv (Zi3 ok.fl ok.fo) λx2 h2=>cv (Zi3 ok.bl ok.bo) λx3 h3=>c8 (show g.A9.ae.length<=1000000000000 by have:=ok.st.1;omega) (aq λx4 h4=>bg ?_)
 have h4:x4=g.A9.ae:=h4
 subst h0;subst h1;subst h2;subst h3;subst h4
 rfl
theorem Pp{s t:List Int}(hl:s.length<=1000000):(L8 s t).w λr=>r=decide (s=t):=by
 unfold L8
 refine ab (λh=>bg ?_) (λhe=>?_)
 ·have h:¬(s.length:Int)=t.length:=by simpa using h
  exact(dN (λe=>h (by rw[e]))).symm
 ·have he:s.length=t.length:=by
   have:(s.length:Int)=t.length:=by simpa using he
   omega
  refine fj (inv:=λz:Int=>∃i:Nat,z=i/\i<=s.length/\∀j,j<i->s.getD j 0=t.getD j 0) (μ:=Pq s t) ⟨0,rfl,bC _,λj h=>by omega⟩ (cN _) ?_
  rintro _ ⟨i,rfl,hi,hj⟩
  refine ab (λbd=>?_) (λgh=>bg ?_)
  ·have bd:i<s.length:=by simpa using bd
   have ew:wrap .i64 ((i:Int)+1)=((i+1:Nat):Int):=by rw[wi (by omega) (by omega)];omega
   refine aw (lu bd) (aw (lu (by omega)) (ab (λhn=>bg ?_) (λheq=>ep ⟨⟨i+1,ew,bd,λj LZ=>?_⟩,by simp only[Pq,ew];omega⟩)))
   ·rw[dX]at hn
    exact(dN (λe=>nt hn (by rw[e]))).symm
   ·rw[dX]at heq
    rcases Nat.lt_succ_iff_lt_or_eq.1 LZ with h|h
    ·exact hj j h
    ·subst h;exact L7 heq
  ·have gh:s.length<=i:=by simpa using gh
   refine(dY (bR he λj h1 h2=>?_)).symm
   have:=hj j (by omega)
   simpa[aV,h1,h2]using this
theorem Yq(ok:fq g):(Pr g).w λr=>r=decide (uF g):=by
 unfold Pr
 have tl:=ok.tl
 refine ab (λh=>c8 (show g.A2.A3.length<=1000000000000 by omega) (aq λx hx=>bg ?_)) (λh=>bg ?_)
 ·rw[show x=decide (g.A2.A3=g.A2.C0) from hx.trans (Tree.pp (Pp (s:=g.A2.A3) (t:=g.A2.C0) (by omega))).2]
  refine decide_eq_decide.2 ⟨λe=>⟨bt h,e⟩,λe=>e.2⟩
 ·exact(dN (λe=>bf h e.1)).symm
theorem Fo(ok:fq g){a:kU}(hc:U a.F5):(Ps g a).w λr=>r=lZ g a:=by
 unfold Ps
 refine cv (Zpj ok) λx0 h0=>?_
 subst h0
 unfold lZ
 refine ab (λk=>?_) λk=>?_
 ·rw[if_pos (bt k)]
  exact cv (xaF ok hc a.N) λy hy=>bg (by rw[hy];rfl)
 rw[if_neg (bf k)]
 refine ab (λk=>?_) λk=>?_
 ·rw[if_pos (bt k)]
  refine ab (λh1=>ab (λh2=>?_) (λh2=>bg ?_)) (λh1=>bg ?_)
  ·have h1:=bt h1
   have h2:x0.A1.B1.B8<10:=oY h2
   rw[if_pos ⟨h1,h2⟩,He ok (by omega)]
   exact cv (Zqa ok (by omega)) λy hy=>bg (by rw[hy];rfl)
  ·have h2:¬x0.A1.B1.B8<10:=oN h2
   rw[if_neg (λq=>h2 q.2)]
  ·rw[if_neg (λq=>bf h1 q.1)]
 rw[if_neg (bf k)]
 refine ab (λk=>?_) λk=>?_
 ·rw[if_pos (bt k)]
  exact cv (xao ok a.N) λy hy=>bg (by rw[hy];rfl)
 rw[if_neg (bf k)]
 refine ab (λk=>?_) λk=>?_
 ·rw[if_pos (bt k)]
  exact cv (xt ok) λy hy=>bg (by rw[hy];rfl)
 rw[if_neg (bf k)]
 refine ab (λk=>?_) λk=>?_
 ·rw[if_pos (bt k)]
  exact cv (Zqu ok a.C1 a.N) λy hy=>bg (by rw[hy];rfl)
 rw[if_neg (bf k)]
 refine ab (λk=>?_) λk=>?_
 ·rw[if_pos (bt k)]
  exact cv (Zsg ok a.C1 a.N) λy hy=>bg (by rw[hy];rfl)
 rw[if_neg (bf k)]
 refine ab (λk=>?_) λk=>?_
 ·rw[if_pos (bt k)]
  exact cv (yt ok a.C1 a.N) λy hy=>bg (by rw[hy];rfl)
 rw[if_neg (bf k)]
 refine ab (λk=>?_) λk=>?_
 ·rw [if_pos (bt k)]
  refine cv (Yq ok) λx8 h8=>ab (λhb=>?_) λhb=>bg ?_
  ·rw[h8]at hb
   have hf:uF x0:=oY hb
   unfold sI
   rw[if_pos hf]
   refine cv (xQ ok.st (host:=1) (by decide)) λx9 h9=>?_
   by_cases hc:(mA x0.A9 1 x0.A2.D5).2=true
   ·rw[if_pos hc]at h9⊢
    subst h9
    exact ab (λ_=>cv (vr (g:={x0 with A9:=(mA x0.A9 1 x0.A2.D5).1,A2:={x0.A2 with A4:=3,D5:=(mA x0.A9 1 x0.A2.D5).1.D5}}) (Cw 3)) λy hy=>bg (by rw[hy];rfl)) λh=>by cases h
   ·rw[if_neg hc]at h9⊢
    subst h9
    exact ab (λh=>by cases h) λ_=>bg rfl
  ·rw[h8]at hb
   have hf:¬uF x0:=oN hb
   unfold sI
   rw[if_neg hf]
 rw[if_neg (bf k)]
 refine ab (λk=>?_) λk=>?_
 ·rw[if_pos (bt k)]
  exact cv (zQ ok.st) λy hy=>bg (by rw[hy];rfl)
 rw[if_neg (bf k)]
 refine ab (λk=>?_) λk=>?_
 ·rw[if_pos (bt k)]
  refine aq λy hy=>bg ?_
  have hy:y=mv (Zk x0 a.C1):=hy.trans (Tree.pp (qao (g:=x0) a.C1)).2
  rw[hy];rfl
 rw[if_neg (bf k)]
 exact bg rfl
theorem Fp(n:Int):Pt n 128/\(Z6 n 128).length=128:=by
 refine⟨by show(128:Int)<=1000000000000;decide,?_⟩
 show Tree.V (L9 n 128) (λs=>s.length=128)
 unfold L9
 refine Fh (inv:=λv:Int×List Int=>0<=v.1/\v.1<=128/\v.2.length=v.1.toNat) (μ:=Uv n 128) ⟨eN 0,by decide,rfl⟩ (cN _) λv ⟨a,b,c⟩=>?_
 refine ly (λhb=>mz λx0 _=>Cu (Jf ?_)) λhb=>mZ ?_
 ·have hb:=oY hb
  show(0<=wrap .i64 (v.1+1)/\wrap .i64 (v.1+1)<=128/\(v.2++[_]).length=(wrap .i64 (v.1+1)).toNat)/\(128-wrap .i64 (v.1+1)).toNat<(128-v.1).toNat
  rw[wi (by omega) (by omega)]
  refine⟨⟨by omega,by omega,?_⟩,by omega⟩
  rw[lA,c];simp;omega
 ·have hb:=oN hb
  show(bytesOf v.2).length=128
  unfold bytesOf
  rw[eW,c];omega
theorem yQ(n:Int):(Pu n).w λr=>r.length=4/\∀b∈r,b.length=128:=by
 unfold Pu
 refine fj (inv:=λz:Int×List (List UInt8)=>∃i:Nat,z.1=i/\i<=4/\z.2.length=i/\∀b∈z.2,b.length=128) (μ:=Yr n) ⟨0,rfl,bC _,rfl,λb hb=>(by cases hb)⟩ (cN _) ?_
 rintro⟨_,y⟩ ⟨i,rfl,hi,hl,hb⟩
 simp only at hl hb
 refine ab (λbd=>?_) (λgh=>bg ?_)
 ·have bd:(i:Int)<4:=oY bd
  have ew:wrap .i64 ((i:Int)+1)=((i+1:Nat):Int):=by rw[wi (by omega) (by omega)];omega
  obtain⟨d1,d2⟩:=Fp (wrap .i64 (n+(i:Int)))
  refine c8 d1 (aq λx0 h0=>aw (dY (by show 16*(y.length+1)<=_;omega)) (ep ⟨⟨i+1,ew,by omega,by simp;omega,λb rM=>?_⟩,by simp only[Yr,ew];omega⟩))
  rcases List.mem_append.1 rM with h|h
  ·exact hb b h
  ·rw[List.mem_singleton.1 h,h0];exact d2
 ·have gh:¬(i:Int)<4:=oN gh
  exact⟨by show y.length=4;omega,hb⟩
theorem Zpy{s:iO}(hb:s.ae.length=4)(hB:∀b∈s.ae,b.length=128)(hg:0<=s.D5/\s.D5<=2)(ho:s.D5=0->s.D7= -1)(ho2:0<s.D5->0<=s.D7):(Pv s).w λr=>r=true:=by
 unfold Pv
 refine ab (λh=>absurd (oY h) (by omega)) λ_=>ab (λh=>absurd (oY h) (by omega)) λ_=>ab (λh=>absurd (oY h) (by omega)) λ_=>ab (λh0=>ab (λh=>absurd (ho (bt h0)) (nt h)) (λ_=>ab (λh=>absurd (oY h) (by have:=bt h0;omega)) (λ_=>?_))) (λh0=>ab (λhp=>ab (λh=>absurd (oY h) (by have:=ho2 (oY hp);omega)) (λ_=>?_)) (λhp=>?_))
 all_goals
  refine fj (inv:=λz:Int=>∃i:Nat,z=i/\i<=s.ae.length) (μ:=Ys s) ⟨0,rfl,bC _⟩ (cN _) ?_
  rintro _ ⟨i,rfl,hi⟩
  refine ab (λbd=>?_) (λgh=>bg rfl)
  have bd:i<s.ae.length:=by simpa using bd
  have ew:wrap .i64 ((i:Int)+1)=((i+1:Nat):Int):=by rw[wi (by omega) (by omega)];omega
  refine aw (lu bd) (ab (λh=>?_) (λ_=>ep ⟨⟨i+1,ew,bd⟩,by simp only[Ys,ew];omega⟩))
  exfalso
  have e:s.ae.getD (dA (i:Int)) (RK.ed RK.str)=s.ae[i]:=by simp[aV,bd]
  rw[e,hB _ (eT bd)]at h
  cases h
theorem Zrj{b:List (List UInt8)}(hb:b.length=4)(hB:∀x∈b,x.length=128):(Pw b).w λr=>r=(⟨b,0,-1⟩,true):=by
 unfold Pw
 refine aw (dY (by omega)) (cv (Zpy (s:=⟨b,0,-1⟩) hb hB ⟨eN 0,by show(0:Int)<=2;decide⟩ (λ_=>rfl) (λh=>absurd h (by show¬(0:Int)<0;decide))) λx hx=>?_)
 subst hx
 exact ab (λh=>by cases h) λ_=>bg rfl
theorem vQ{b:List (List UInt8)}(hb:b.length=4)(hB:∀x∈b,x.length=128):(Px ⟨b,0,-1⟩ 0 0).w λr=>r=(⟨b,1,0⟩,true):=by
 unfold Px
 refine cv (Zpy (s:=⟨b,0,-1⟩) hb hB ⟨eN 0,by show(0:Int)<=2;decide⟩ (λ_=>rfl) (λh=>absurd h (by show¬(0:Int)<0;decide))) λx hx=>?_
 subst hx
 exact ab (λh=>by cases h) λ_=>ab (λh=>by cases h) λ_=>ab (λh=>by cases h) λ_=>ab (λh=>by cases h) λ_=>bg rfl
theorem qaG{m:bc}(hm:gz 8 m){b:List (List UInt8)}(hb:b.length=4)(hB:∀x∈b,x.length=128):(Py m ⟨b,1,0⟩).w λr=>r=(lF m b,true):=by
 have hs:Cv ⟨b,1,0⟩:=⟨hb,hB,by show(1:Int)<=1;decide,by show(1:Int)<=2;decide,by show(0:Int)<=0;decide⟩
 have mp:jQ m.Mem=((8:Nat):Int):=LW (P:=8) hm.nu.len (by decide)
 have ml:=hm.nu.len
 unfold Py
 refine c8 (Tree.pp (y9 hm.ok.target.2)).1 (aq λx0 h0=>?_)
 have h0:x0=true:=h0.trans hm.may
 subst h0
 refine ab (λh=>by cases h) λ_=>cv (Zq2 hs) λx1 h1=>?_
 subst h1
 refine ab (λh=>by cases h) λ_=>ab (λh=>by cases h) λ_=>?_
 obtain⟨b1,b2⟩:=zal (P:=8) (by decide) (by decide)
 obtain⟨n1,n2⟩:=zaD (P:=8) (by decide) (by decide)
 have cm:(CB m).w λr=>r=m:=by
  unfold CB
  exact c8 (show m.Mem.length<=35184372088832 by omega) (aq λy hy=>by have hy:y=m.Mem:=hy;subst hy;exact bg rfl)
 refine aq λx2 h2=>?_
 have h2:x2=((8:Nat):Int):=h2.trans mp
 subst h2
 refine c8 b1 (aq λx3 h3=>?_)
 have h3:x3=(⟨cO 8 true,0,0⟩,true):=h3.trans b2
 subst h3
 refine ab (λh=>by cases h) λ_=>cv cm λx4 h4=>?_
 subst h4
 refine aw (by rw[dY (by decide)];rfl) (aw (by rw[dY (by decide)];rfl) (c8 n1 (aq λx5 h5=>c8 (show b.length<=1000000000000 by omega) (aq λx6 h6=>bg ?_))))
 have h5:x5=cO (32*8) 0:=h5.trans n2
 have h6:x6=b:=h6
 subst h5;subst h6
 rfl
theorem Ziz(kind:Int)(prog:List Int)(hl:prog.length*8<=reachBytes)(h60:prog.length<=60):(Pz kind prog).w λr=>∃m b,r=(lF m b,m,true)/\gz 8 m/\b.length=4/\∀x∈b,x.length=128:=by
 unfold Pz
 have mg:=(Zjt kind prog hl h60).1
 refine c8 (Tree.pp (Zo kind prog hl h60)).1 (aq λx0 h0=>?_)
 have h0:x0=Ub kind prog:=h0
 rw[<-h0]at mg
 refine cv (yQ 1) λx1 ⟨k1,k2⟩=>cv (Zrj k1 k2) λx2 h2=>?_
 subst h2
 refine cv (vQ k1 k2) λx3 h3=>?_
 subst h3
 refine cv (qaG mg k1 k2) λx4 h4=>bg ?_
 subst h4
 exact⟨x0,x1,rfl,mg,k1,k2⟩
theorem PA(a:bc)(ha:a.Mem.length<=1000000000000):(PB a a).w (λb=>b=true):=by
 have Yt:∀s:List Int,s.length<=1000000000000->PC s s=true:=λs hb=>by
  have h:(Jp s s).w λr=>r=true:=by
   unfold Jp
   refine ab (λh=>by simp at h) (λ_=>?_)
   refine fj (inv:=λz:Int=>∃i:Nat,z=i/\i<=s.length) (μ:=Jq s s) ⟨0,rfl,bC _⟩ (cN _) ?_
   rintro _ ⟨i,rfl,hi⟩
   refine ab (λbd=>?_) (λgh=>bg rfl)
   have bd:i<s.length:=by simpa using bd
   have ew:wrap .i64 ((i:Int)+1)=((i+1:Nat):Int):=by rw[wi (by omega) (by omega)];omega
   refine aw (lu bd) (aw (lu bd) (ab (λh=>by simp at h) (λ_=>ep ⟨⟨i+1,ew,bd⟩,by simp only[Jq,ew];omega⟩)))
  exact(Tree.pp (W:=λr=>r=true) h).2
 unfold PB
 repeat'(first
  |refine ab (λ_=>?_) (λh=>absurd h (by simp[eqs,PD];done))
  |exact c8 ha (aq λx hx=>by rw[hx];exact Yt _ ha)
  |refine c8 ha (aq λx hx=>ab (λ_=>?_) (λh=>by rw[hx,Yt _ ha]at h;cases h))
  |exact rfl)
 all_goals(show(_==_)=true;simp)
theorem qR{m:bc}(h:Inv nc m g)(hk:True){l:List kU}(hl:l.length<=200)(hu:∀a∈l,U a.F5)(hn:nc=true->∀a∈l,a.C2≠10)(h1:∀a∈l,a.C2≠1):(PE g l).w λr=>r=uH g l/\Inv nc m r:=by
 unfold PE
 refine cv (Zpj h.1) λx0 h0=>?_
 subst h0
 refine fj (inv:=λz:Int×dr=>∃i:Nat,z.1=i/\i<=l.length/\z.2=uH x0 (l.take i)/\Inv nc m z.2) (μ:=Yu x0 l) ⟨0,rfl,bC _,rfl,h⟩ (cN _) ?_
 rintro⟨_,y⟩ ⟨i,rfl,hi,hy,hI⟩
 simp only at hy hI
 refine ab (λbd=>?_) (λgh=>bg ?_)
 ·have bd:i<l.length:=by have:(i:Int)<(l.length:Int):=oY bd;omega
  have ew:wrap .i64 ((i:Int)+1)=((i+1:Nat):Int):=by rw[wi (by omega) (by omega)];omega
  have eg:l.getD (dA (i:Int)) (RK.ed RK.bu)=l[i]:=by simp[aV,bd]
  have am:l[i]∈l:=eT bd
  refine aw (by rw[dY (show 0<=(i:Int)/\(i:Int)<(l.length:Int) by omega)];rfl) (ab (λh2=>?_) λ_=>?_)
  ·exfalso
   have h2:(i:Int)=200:=bt h2
   omega
  rw[eg]
  refine cv (Fo hI.1 (hu _ am)) λx1 e1=>ep ⟨⟨i+1,ew,bd,?_,?_⟩,by simp only[Yu,ew];omega⟩
  ·show x1.1=_
   rw[e1,hy,Pb bd,Zkg];rfl
  ·show Inv nc m x1.1
   rw[e1]
   have:=zaE hI (hu _ am) (λe=>hn e _ am)
   have eq:uG m y l[i]=m:=if_neg (λq=>h1 _ am q.1)
   rwa [eq]at this
 ·have gh:¬(i:Int)<(l.length:Int):=oN gh
  have:i=l.length:=by omega
  subst this
  rw[List.take_length]at hy
  exact⟨hy,hI⟩
theorem Yv(g:dr):Hh g=j0 g:=by
 unfold j0
 simp only[Hh,Ut,Tree.m]
 by_cases h1:g.A1.A4=1
 ·simp[h1]
 ·by_cases h3:g.A1.A4=3
  ·simp[h3]
  ·by_cases ht:g.A2.A4=3
   ·simp[beq_false_of_ne h1,beq_false_of_ne h3,h1,h3,ht]
   ·simp[beq_false_of_ne h1,beq_false_of_ne h3,beq_false_of_ne ht,h1,h3,ht]
theorem Zmr(ok:fq g):(PF g).w λr=>(j0 g=0->r=(g.A1.A0,true))/\(j0 g=1->r=(g.A2.A0,true))/\(j0 g<0->r.2=false):=by
 obtain⟨l1,l2⟩:=ok.Pn
 have cm:∀m:bc,m.Mem.length<=1024->(CB m).w λr=>r=m:=λm hm=>by
  unfold CB
  exact c8 (show m.Mem.length<=35184372088832 by omega) (aq λy hy=>by have hy:y=m.Mem:=hy;subst hy;exact bg rfl)
 unfold PF
 refine aq λx0 h0=>?_
 have h0:x0=j0 g:=h0.trans (Yv g)
 subst h0
 refine ab (λh=>cv (cm _ l1) λy hy=>bg ?_) λh=>ab (λh1=>cv (cm _ l2) λy hy=>bg ?_) λh1=>bg ?_
 ·have h:=bt h
  rw[hy]
  exact⟨λ_=>rfl,λq=>by omega,λq=>by omega⟩
 ·have h1:=bt h1
  rw[hy]
  exact⟨λq=>by omega,λ_=>rfl,λq=>by omega⟩
 ·exact⟨λq=>absurd q (bf h),λq=>absurd q (bf h1),λ_=>rfl⟩
theorem qap:(PG).w λr=>r=CA:=by
 unfold PG
 refine fj (inv:=λz:Int×List kU=>∃i:Nat,z.1=i/\i<=64/\z.2=j8 2 0::j8 3 32::cO i (j8 5 0)) (μ:=Yw) ⟨0,rfl,bC _,rfl⟩ (cN _) ?_
 rintro⟨_,y⟩ ⟨i,rfl,hi,hy⟩
 simp only at hy
 have yl:y.length=i+2:=by rw[hy];simp
 refine ab (λbd=>?_) (λgh=>aw (dY (by show 24*(y.length+1)<=_;omega)) (bg ?_))
 ·have bd:(i:Int)<64:=oY bd
  have ew:wrap .i64 ((i:Int)+1)=((i+1:Nat):Int):=by rw[wi (by omega) (by omega)];omega
  refine aw (dY (by show 24*(y.length+1)<=_;omega)) (ep ⟨⟨i+1,ew,by omega,?_⟩,by simp only[Yw,ew];omega⟩)
  show y++[j8 5 0]=_
  rw[hy,eQ];rfl
 ·have gh:¬(i:Int)<64:=oN gh
  have:i=64:=by omega
  subst this
  show y++[j8 8 0]=_
  rw[hy];rfl
theorem Yx:∀a∈CA,U a.F5/\a.C2≠10/\a.C2≠1:=by
 intro a ha
 have k:∀x y:Int,x≠10->x≠1->U (j8 x y).F5/\(j8 x y).C2≠10/\(j8 x y).C2≠1:=λx y h1 h2=>⟨⟨eN 0,by show(0:Int)<4294967296;decide⟩,h1,h2⟩
 unfold CA at ha
 rcases List.mem_cons.1 ha with rfl|ha
 ·exact k _ _ (by decide) (by decide)
 rcases List.mem_cons.1 ha with rfl|ha
 ·exact k _ _ (by decide) (by decide)
 rcases List.mem_append.1 ha with ha|ha
 ·rw[eR ha];exact k _ _ (by decide) (by decide)
 ·rw[List.mem_singleton.1 ha];exact k _ _ (by decide) (by decide)
theorem Zsh:CA.length=67:=by
 unfold CA
 simp only[dD,lA,cS,List.length_nil]
theorem y6:PH.w λr=>r=true:=by
 unfold PH
 refine cv (Ziz 2 [0] (by decide) (by decide)) λx0 ⟨m,b,e,hm,k1,k2⟩=>?_
 subst e
 have calm:=Zqg hm k1 k2
 refine ab (λh=>by cases h) λ_=>aq λx1 h1=>?_
 have h1:x1=0:=h1.trans ((Yv _).trans (L6 (.inl rfl)))
 subst h1
 refine ab (λh=>by cases h) λ_=>cv qap λx2 h2=>?_
 subst h2
 refine cv (qR calm.inv trivial (by rw[Zsh];decide) (λa ha=>(Yx a ha).1) (λ_ a ha=>(Yx a ha).2.1) (λa ha=>(Yx a ha).2.2)) λx3 ⟨e3,i3⟩=>?_
 obtain⟨_,q2,q3,q4,q5⟩:=Fm calm (by decide)
 rw[<-e3]at q2 q3 q4 q5
 refine cv (Zmr i3.1) λx4 ⟨_,m2,_⟩=>?_
 have m2:=m2 q2
 subst m2
 refine cv (Fo i3.1 (a:={C2:=99,N:=0,C1:=false,F5:=0}) ⟨by decide,by decide⟩) λx5 h5=>aq λx6 h6=>?_
 have h6:x6=1:=h6.trans ((Yv _).trans q2)
 subst h6
 have h5:x5.2=false:=by rw[h5];rfl
 refine ab (λ_=>ab (λ_=>?_) (λh=>by cases h)) (λh=>by cases h)
 show(Tree.an (Qo8 x3.A2.A0 m) _).w _
 rw[q3]
 have ml:=hm.nu.len
 refine cv (PA m (by omega)) λx7 h7=>ab (λ_=>bg ?_) (λh=>by rw[h7]at h;cases h)
 rw[h5];rfl
theorem Fq{W:Bool->Prop}(h:W true):(Tree.an Hi (.lv Hj λx=>.lf x)).w W:=by
 have a:=Tree.pp y6
 exact c8 a.1 (aq λx hx=>bg (by rw[show x=true from hx.trans a.2];exact h))
structure uJ(S:ia)(m:bc)(g:dr):Prop where
 inv:Inv true m g
 src:g.A1=S
 gen:g.A9.D5=1
 CC:Way g
 hs:Ee g
 sp:S.A4=2
section
variable {S:ia} {m:bc} {g:dr}
theorem uJ.cb(h:uJ S m g):oW true m g:=z6 h.inv.2 h.gen (by rw[h.src];exact h.sp)
theorem uJ.full(h:uJ S m g):uF g↔g.A2.A4=2/\g.A2.A3=S.A3:=by
 have e:g.A1.A3=S.A3:=by rw[h.src]
 exact⟨fun⟨a,b⟩=>⟨a,b.trans ((h.cb.ts a).1.trans e)⟩,fun⟨a,b⟩=>⟨a,b.trans ((h.cb.ts a).1.trans e).symm⟩⟩
theorem uJ.done(h:uJ S m g)(he:g.A6=[]):uF g:=h.CC.full h.inv.1 h.cb h.hs he
theorem uJ.double(h:uJ S m g)(hi:lB g.A6 i):uJ S m (rR g false i)/\lB (rR g false i).A6 i/\(rR g false i).A2=g.A2:=by
 have e:rR g false i={g with A6:=fv g.A6 (na g.A6 i)}:=by
  unfold rR lY
  simp only[aA,if_false,if_pos hi]
  rfl
 have I:=Zc2 h.inv false i
 have am:=Fj hi
 have hl:g.A6.length<=(fv g.A6 (na g.A6 i)).length:=by
  unfold fv;split
  ·rw[lA];omega
  ·exact aX _
 have sub:∀y∈fv g.A6 (na g.A6 i),y∈g.A6:=λy hy=>(Ji hy).elim id λk=>by rw[k];exact am
 rw[e]at I⊢
 exact⟨⟨I,h.src,h.gen,⟨λf hf=>⟨(h.CC.le f hf).1,λx hx=>(h.CC.le f hf).2 x (sub x hx)⟩,λf hf=>(h.CC.hv f hf).imp id fun⟨x,hx,k⟩=>⟨x,Zox hx,k⟩,h.CC.ph,λx hx=>h.CC.ks x (sub x hx)⟩,h.hs.imp id fun⟨x,hx,k⟩=>⟨x,Zox hx,k⟩,h.sp⟩,⟨hi.1,by have:=hi.2;show i<((fv g.A6 (na g.A6 i)).length:Int);omega⟩,rfl⟩
structure Ev(S:ia)(m:bc)(g r:dr)(x:fg)(hv:List Int)(st:Bool):Prop where
 ic:uJ S m r
 len:r.A6.length+1=g.A6.length
 hl:hv.length=8
 set:x.C2=1->0<=x.Frame->x.Frame<8->hv.set x.Frame.toNat (if x.B8>hv.getD x.Frame.toNat 0 then x.B8 else hv.getD x.Frame.toNat 0)=r.A2.A3
 kH:¬(x.C2=1/\0<=x.Frame/\x.Frame<8)->hv=r.A2.A3
 nX:x.C2=2->(true=true↔r.A2.A4=2)
 ph:x.C2≠2->(st=true↔r.A2.A4=2)
theorem CD{hv:List Int}(h:uJ S m g)(hk:lB g.A6 k)(hh:hv=g.A2.A3)(hs:st=true↔g.A2.A4=2):Ev S m g (mO g false k) (g.A6.getD k.toNat (RK.ed RK.aa)) hv st:=by
 show Ev S m g (mO g false k) (na g.A6 k) hv st
 have d:=Up hk
 have ok:=h.inv.1
 have I:=Yh h.inv false k
 have W:=h.CC.next ok k
 obtain⟨_,p⟩:=d.phase h.CC.ph h.CC.ks
 subst hh
 generalize na g.A6 k=x at d p
 refine⟨⟨I,d.src.trans h.src,by rw[d.sto];exact h.gen,W.1,W.2 h.hs,h.sp⟩,d.len,ok.tl,λk1 f0 f1=>Uq (by rw[dC];exact ok.tl) I.1.tl λf hf=>?_,λn=>Uq ok.tl I.1.tl λf hf=>?_,λk2=>⟨λ_=>p.2 (.inr k2),λ_=>rfl⟩,λk2=>hs.trans ⟨λq=>p.2 (.inl q),λq=>(p.1 q).resolve_right k2⟩⟩
 ·have tl:=ok.tl
  rw[d.rounds ok h.CC.ph hf,Ew (by omega)]
  by_cases e:dA x.Frame=f
  ·rw[if_pos e,e]
   have ef:x.Frame=f:=by omega
   by_cases c:g.A2.A3.getD f 0<x.B8
   ·rw[if_pos c,if_pos ⟨k1,ef,c⟩]
   ·rw[if_neg c,if_neg (λq=>c q.2.2)]
  ·rw[if_neg e,if_neg (λq=>e (by omega))]
 ·rw[d.rounds ok h.CC.ph hf,if_neg (λc=>n ⟨c.1,by omega,by omega⟩)]
end
theorem nM{x:Int}{l:List Int}(h:l.length=8)(f:decide (x<(l.length:Int))=true):x<8:=by have f:=oY f;omega
theorem nN{x:Int}{l:List Int}(h:l.length=8)(f:decide (x<(l.length:Int))=false):¬x<8:=by have f:=oN f;omega
theorem Jr(h:lB l k):(bX 54 54&&bN 0 54&&decide (0<=k/\k<(l.length:Int)))=true:=by
 rw[dY (show 0<=k/\k<(l.length:Int) from h)];rfl
theorem Bl{k n:Int}(f0:decide (k>=0)=true)(f1:decide (k<n)=true):(bX 1 1&&bN 0 1&&decide (0<=k/\k<n))=true:=by
 rw[dY (show 0<=k/\k<n from⟨oY f0,oY f1⟩)];rfl
theorem PI{α:Type}{W:α⊕Bool->Prop}(h:W (Sum.inr true)):(Tree.an Hi (.lv Hj λx=>.lf (Sum.inr x:α⊕Bool))).w W:=by
 have a:=Tree.pp y6
 exact c8 a.1 (aq λx hx=>bg (by rw[show x=true from hx.trans a.2];exact h))
theorem Fs{β:Type}{d:Inhabited β}{Yy:f0}{h1:∀v,f1 v}{h2:∀v,f2 v}{K:Bool×Int->Tree ((Bool×Int)⊕β)}{W:β->Prop}(hH:H.length=8)(hF:F.length=8)(hn:8<n)(hK:∀v:Bool×Int,v.1=(st&&decide (H=F))->(K v).w (Sum.elim (λ_=>False) W)):
 (Tree.lp d n f0 (st,(0:Int)) (λv=>.br (decide (v.2<(F.length:Int))) (.br v.1 (.cn (bX 1 1&&bN 0 1&&decide (0<=v.2/\v.2<(H.length:Int))) (.cn (bX 1 1&&bN 0 1&&decide (0<=v.2/\v.2<(F.length:Int))) (.nx (f1 v) (Sum.inl (H.getD v.2.toNat 0==F.getD v.2.toNat 0,wrap .i64 (v.2+1))) (h1 v)))) (.nx (f2 v) (Sum.inl (false,wrap .i64 (v.2+1))) (h2 v))) (K v)) Yy).w W:=by
 refine fj (inv:=λz:Bool×Int=>∃j:Nat,z.2=j/\j<=8/\(z.1=true↔st=true/\∀i:Nat,i<j->H.getD i 0=F.getD i 0)) (μ:=λz=>(8-z.2).toNat) ⟨0,rfl,bC _,λh=>⟨h,λi hi=>absurd hi (Nat.not_lt_zero _)⟩,λh=>h.1⟩ (by show((8:Int)-0).toNat<n;exact hn) ?_
 rintro⟨a,_⟩ ⟨j,rfl,hj,ha⟩
 simp only at ha
 refine ab (λbd=>?_) (λgh=>?_)
 ·have bd:(j:Int)<(F.length:Int):=oY bd
  have ew:wrap .i64 ((j:Int)+1)=((j+1:Nat):Int):=by rw[wi (by omega) (by omega)];omega
  have mu:((8:Int)-wrap .i64 ((j:Int)+1)).toNat<((8:Int)-(j:Int)).toNat:=by rw[ew];omega
  refine ab (λht=>aw (lu (show j<H.length by omega)) (aw (lu (show j<F.length by omega)) (ep ⟨⟨j+1,ew,by omega,?_⟩,mu⟩))) (λhf=>ep ⟨⟨j+1,ew,by omega,?_⟩,mu⟩)
  ·obtain⟨a1,a2⟩:=ha.1 ht
   show(H.getD j 0==F.getD j 0)=true↔_
   rw[beq_iff_eq]
   exact⟨λq=>⟨a1,λi hi=>by rcases Nat.lt_succ_iff_lt_or_eq.1 hi with c|c;exact a2 i c;rw[c];exact q⟩,λq=>q.2 j (cN _)⟩
  ·have hf:a=false:=hf
   exact⟨λq=>(by cases q),λq=>by rw[ha.2 ⟨q.1,λi hi=>q.2 i (by omega)⟩]at hf;cases hf⟩
 ·have gh:¬(j:Int)<(F.length:Int):=oN gh
  obtain rfl:j=8:=by omega
  refine(K _).mono (λz hz=>?_) (hK _ ?_)
  ·cases z with
   |inl z=>exact hz.elim
   |inr z=>exact hz
  ·show a=_
   rw[eB,ha,aE,decide_eq_true_eq]
   exact⟨λq=>⟨q.1,Uq hH hF q.2⟩,λq=>⟨q.1,λi _=>by rw[q.2]⟩⟩
theorem nY{α:Type}{d:Inhabited (α⊕Bool)}{Yy:f0}{h1:∀v,f1 v}{h2:∀v,f2 v}{r:dr}{f3:Bool×Int->Bool->Prop}{h3:∀v x,f3 v x}{jx:α}{W:α⊕Bool->Prop}(ok:fq r)(hH:H=r.A2.A3)(hF:F.length=8)(hn:8<n)(hs:st=true↔r.A2.A4=2)(hf:uF r↔r.A2.A4=2/\r.A2.A3=F)(hW:W (Sum.inl jx)):
 (Tree.lp d n f0 (st,(0:Int)) (λv=>.br (decide (v.2<(F.length:Int))) (.br v.1 (.cn (bX 1 1&&bN 0 1&&decide (0<=v.2/\v.2<(H.length:Int))) (.cn (bX 1 1&&bN 0 1&&decide (0<=v.2/\v.2<(F.length:Int))) (.nx (f1 v) (Sum.inl (H.getD v.2.toNat 0==F.getD v.2.toNat 0,wrap .i64 (v.2+1))) (h1 v)))) (.nx (f2 v) (Sum.inl (false,wrap .i64 (v.2+1))) (h2 v))) (.an (PJ r) (.lv (PK r) λx=>.br (!x==v.1) (.lf (Sum.inr (Sum.inr false))) (.nx (f3 v x) (Sum.inr (Sum.inl jx)) (h3 v x))))) Yy).w W:=
 Fs (by rw[hH];exact ok.tl) hF hn λv ev=>cv (Yq ok) λx ex=>ab (λk=>by
  have e:x=v.1:=by
   rw[ex,ev,eB,aE,decide_eq_true_eq,decide_eq_true_eq,hf,hs,hH]
  rw[e]at k;simp at k) (λ_=>ep hW)
theorem Ft{m:bc}{b:List (List UInt8)}(h:Calm 0 m (lF m b))(runs:Int):fq (lZ (lF m b) (j8 2 0)).1/\fq (lZ (lZ (lF m b) (j8 2 0)).1 ⟨1,runs,false,3⟩).1/\∃n,uJ (lZ (lZ (lZ (lF m b) (j8 2 0)).1 ⟨1,runs,false,3⟩).1 (j8 3 32)).1.A1 n (lZ (lZ (lZ (lF m b) (j8 2 0)).1 ⟨1,runs,false,3⟩).1 (j8 3 32)).1/\(lZ (lZ (lZ (lF m b) (j8 2 0)).1 ⟨1,runs,false,3⟩).1 (j8 3 32)).1.A2.A3=cO 8 0/\(lZ (lZ (lZ (lF m b) (j8 2 0)).1 ⟨1,runs,false,3⟩).1 (j8 3 32)).1.A2.A4=0:=by
 have e1:=Zoy h (by decide)
 have ok:=h.inv.1
 have t0:(lF m b).A2.A3=cO 8 0/\(lF m b).A2.A4=0:=⟨rfl,rfl⟩
 rw[e1]
 generalize lF m b=g at h ok t0⊢
 have hr:=h.r
 have i1:Inv true m (kG g):=by
  have:=Yg h.inv
  rwa [if_pos ⟨h.c.sp,by omega⟩,He ok (by omega)]at this
 have c1:=O1 ok h.c
 obtain⟨w1,l1⟩:=Yj ok h.c h.w (by rw[h.f];decide)
 rw[h.f]at l1
 have l1:(kG g).A6.length<=8:=by simpa using l1
 have er:j0 (kG g)=0:=L6 (.inl c1.sp)
 have i2:Inv true (lz m 3 (runN runs)) (iy (kG g) runs 3):=by
  have:=xp i1 (clock:=3) ⟨by decide,by decide⟩ runs
  rwa [er,if_pos (by decide)]at this
 obtain⟨f1,f2,f3,f4,f5,f6⟩:=Zbc (kG g) runs 3 c1.sp
 have c2:=qaF i2.2 f2
 have w2:=xan w1 runs 3 c1.sp
 have e2:(lZ (kG g) ⟨1,runs,false,3⟩).1=iy (kG g) runs 3:=rfl
 rw[e2,zr i2.1 f2]
 obtain⟨w3,s3,l3⟩:=Zq4 i2.1 c2 w2 (by rw[f5];omega)
 have Ob:=Ye i2.1 f2
 have c3:=Un i2.1 c2
 have et:(Ed (iy (kG g) runs 3)).A2=g.A2:=f4
 exact⟨i1.1,i2.1,_,⟨⟨Ob,.inr (.inr (.inl c3))⟩,rfl,c3.gn.1,w3,s3,c3.live.1⟩,by rw[et];exact t0.1,by rw[et];exact t0.2⟩
theorem PL(kind:Int)(prog:List Int)(runs:Int)(order:List Int)(hl:prog.length*8<=reachBytes):(PM kind prog runs order).w λr=>r=true:=by
 unfold PM
 refine ab (λ_=>Fq rfl) λh1=>ab (λ_=>Fq rfl) λh2=>ab (λ_=>Fq rfl) λh3=>ab (λ_=>Fq rfl) λh4=>?_
 have h1:=oN h1
 have h4:=oN h4
 refine cv (Ziz kind prog hl (by omega)) λx4 ⟨m,b,e,hm,k1,k2⟩=>?_
 subst e
 refine ab (λh=>by cases h) λ_=>?_
 have calm:=Zqg hm k1 k2
 have Ma:U 0:=⟨by decide,by decide⟩
 have U3:U 3:=⟨by decide,by decide⟩
 obtain⟨o1,o2,n,M0,t0,p0⟩:=Ft calm runs
 refine cv (Fo (a:=j8 2 0) calm.inv.1 Ma) λx5 e5=>?_
 subst e5
 refine cv (Fo (a:=⟨1,runs,false,3⟩) o1 U3) λx6 e6=>?_
 subst e6
 refine cv (Fo (a:=j8 3 32) o2 Ma) λx7 e7=>?_
 subst e7
 generalize(lZ (lZ (lZ (lF m b) (j8 2 0)).1 ⟨1,runs,false,3⟩).1 (j8 3 32))=x7 at M0 t0 p0⊢
 have rl:=M0.inv.1.rl
 have fl:=M0.inv.1.fl
 refine aw (by rw[dY (by omega)];rfl) ?_
 have fin:∀{α:Type} {g:dr} {W:(α⊕Bool)->Prop},fq g->uF g->W (Sum.inr true)->(Tree.an (PJ g) (.lv (PK g) λx=>.br x (.an Hi (.lv Hj λy=>.lf (Sum.inr y))) (.lf (Sum.inr false)))).w W:=λok hf hW=>cv (Yq ok) λx ex=>ab (λ_=>PI hW) λk=>by rw[ex,dY hf]at k;cases k
 refine fj (inv:=λz:Bool×Int×dr×List Int=>∃i:Nat,z.2.1=i/\i<=order.length+64/\uJ x7.1.A1 n z.2.2.1/\z.2.2.2=z.2.2.1.A2.A3/\(z.1=true↔z.2.2.1.A2.A4=2)/\z.2.2.1.A6.length+(i-order.length)<=64) (μ:=PN kind prog runs order) ⟨0,rfl,bC _,M0,?_,⟨λh=>(by cases h),λh=>by have h:x7.1.A2.A4=2:=h;omega⟩,by show x7.1.A6.length+_<=64;omega⟩ (cN _) ?_
 ·show cO (dA (x7.1.A1.A3.length:Int)) (0:Int)=_
  rw[t0,rl];rfl
 rintro⟨st,_,g,hv⟩ ⟨i,rfl,hi,M,hh,hs,hn⟩
 simp only at M hh hs hn
 have eo:wrap .i64 ((order.length:Int)+64)=(order.length:Int)+64:=wi (by omega) (by omega)
 have ok:=M.inv.1
 have gl:=ok.fl
 refine ab (λbd=>ab (λhz=>?_) (λhz=>?_)) (λgh=>?_)
 ·exact fin ok (M.done (fA (by have hz:(g.A6.length:Int)=0:=bt hz;omega))) rfl
 rotate_left
 ·have gh:¬(i:Int)<wrap .i64 ((order.length:Int)+64):=oN gh
  rw[eo]at gh
  exact fin ok (M.done (fA (by omega))) rfl
 have bd:(i:Int)<wrap .i64 ((order.length:Int)+64):=oY bd
 rw[eo]at bd
 have hz:¬(g.A6.length:Int)=0:=bf hz
 have ew:wrap .i64 ((i:Int)+1)=((i+1:Nat):Int):=by rw[wi (by omega) (by omega)];omega
 have J:∀{PO:Bool} {r:dr} {H:List Int},uJ x7.1.A1 n r->H=r.A2.A3->(PO=true↔r.A2.A4=2)->r.A6.length+(i+1-order.length)<=64->(∃j:Nat,wrap .i64 ((i:Int)+1)=j/\j<=order.length+64/\uJ x7.1.A1 n r/\H=r.A2.A3/\(PO=true↔r.A2.A4=2)/\r.A6.length+(j-order.length)<=64)/\PN kind prog runs order (PO,wrap .i64 ((i:Int)+1),r,H)<PN kind prog runs order (st,(i:Int),g,hv):=λa b c d=>⟨⟨i+1,ew,by omega,a,b,c,d⟩,by simp only[PN,ew];omega⟩
 have mu:∀s:Bool,8<Qbo kind prog runs order (s,(0:Int))+1:=λs=>by show 8<((8:Int)-0).toNat+1;decide
 refine ab (λho=>?_) (λho=>?_)
 ·have ho:(i:Int)<(order.length:Int):=oY ho
  have rr:=Z52 (n:=order.getD (dA (i:Int)) 0) (k:=(g.A6.length:Int)) (by omega) (by omega)
  refine aw (lu (by omega)) (c8 (IK (by omega)) (aq λjy Cr=>aw (lu (by omega)) ?_))
  have Cr:jy=CE (order.getD (dA (i:Int)) 0) (g.A6.length:Int):=Cr
  rw[<-Cr]at rr
  have hk:lB g.A6 jy:=rr
  refine ab (λ_=>?_) (λ_=>?_)
  ·obtain⟨M1,kE,et⟩:=M.double hk
   refine cv (Fo (a:=j8 7 jy) ok Ma) λkI Yz=>?_
   have Yz:kI.1=rR g false jy:=by rw[Yz];rfl
   rw[<-Yz]at M1 kE et
   have gl1:=M1.inv.1.fl
   have PQ:hv=kI.1.A2.A3:=by rw[et];exact hh
   have kv:st=true↔kI.1.A2.A4=2:=by rw[et];exact hs
   have N:=CD M1 kE PQ kv
   refine aw (Jr kE) (cv (Fo (a:=j8 5 jy) M1.inv.1 Ma) λkr CF=>?_)
   have CF:kr.1=mO kI.1 false jy:=by rw[CF];rfl
   rw[<-CF]at N
   have hj:kr.1.A6.length+(i+1-order.length)<=64:=by have:=N.len;omega
   have ny:=N.hl
   refine ab (λk2=>?_) (λk2=>?_)
   ·exact ab (λk1=>ab (λf0=>ab (λf1=>aw (Bl f0 f1) (aw (Bl f0 f1) (nY N.ic.inv.1 (N.set (bt k1) (oY f0) (nM ny f1)) rl (mu _) (N.nX (bt k2)) N.ic.full (J N.ic (N.set (bt k1) (oY f0) (nM ny f1)) (N.nX (bt k2)) hj)))) (λf1=>nY N.ic.inv.1 (N.kH λq=>nN ny f1 q.2.2) rl (mu _) (N.nX (bt k2)) N.ic.full (J N.ic (N.kH λq=>nN ny f1 q.2.2) (N.nX (bt k2)) hj))) (λf0=>nY N.ic.inv.1 (N.kH λq=>oN f0 q.2.1) rl (mu _) (N.nX (bt k2)) N.ic.full (J N.ic (N.kH λq=>oN f0 q.2.1) (N.nX (bt k2)) hj))) (λk1=>nY N.ic.inv.1 (N.kH λq=>bf k1 q.1) rl (mu _) (N.nX (bt k2)) N.ic.full (J N.ic (N.kH λq=>bf k1 q.1) (N.nX (bt k2)) hj))
   ·exact ab (λk1=>ab (λf0=>ab (λf1=>aw (Bl f0 f1) (aw (Bl f0 f1) (nY N.ic.inv.1 (N.set (bt k1) (oY f0) (nM ny f1)) rl (mu _) (N.ph (bf k2)) N.ic.full (J N.ic (N.set (bt k1) (oY f0) (nM ny f1)) (N.ph (bf k2)) hj)))) (λf1=>nY N.ic.inv.1 (N.kH λq=>nN ny f1 q.2.2) rl (mu _) (N.ph (bf k2)) N.ic.full (J N.ic (N.kH λq=>nN ny f1 q.2.2) (N.ph (bf k2)) hj))) (λf0=>nY N.ic.inv.1 (N.kH λq=>oN f0 q.2.1) rl (mu _) (N.ph (bf k2)) N.ic.full (J N.ic (N.kH λq=>oN f0 q.2.1) (N.ph (bf k2)) hj))) (λk1=>nY N.ic.inv.1 (N.kH λq=>bf k1 q.1) rl (mu _) (N.ph (bf k2)) N.ic.full (J N.ic (N.kH λq=>bf k1 q.1) (N.ph (bf k2)) hj))
  ·have M1:=M
   have kE:=hk
   have gl1:=gl
   have PQ:=hh
   have kv:=hs
   have N:=CD M1 kE PQ kv
   refine aw (Jr kE) (cv (Fo (a:=j8 5 jy) M1.inv.1 Ma) λkr CF=>?_)
   have CF:kr.1=mO g false jy:=by rw[CF];rfl
   rw[<-CF]at N
   have hj:kr.1.A6.length+(i+1-order.length)<=64:=by have:=N.len;omega
   have ny:=N.hl
   refine ab (λk2=>?_) (λk2=>?_)
   ·exact ab (λk1=>ab (λf0=>ab (λf1=>aw (Bl f0 f1) (aw (Bl f0 f1) (nY N.ic.inv.1 (N.set (bt k1) (oY f0) (nM ny f1)) rl (mu _) (N.nX (bt k2)) N.ic.full (J N.ic (N.set (bt k1) (oY f0) (nM ny f1)) (N.nX (bt k2)) hj)))) (λf1=>nY N.ic.inv.1 (N.kH λq=>nN ny f1 q.2.2) rl (mu _) (N.nX (bt k2)) N.ic.full (J N.ic (N.kH λq=>nN ny f1 q.2.2) (N.nX (bt k2)) hj))) (λf0=>nY N.ic.inv.1 (N.kH λq=>oN f0 q.2.1) rl (mu _) (N.nX (bt k2)) N.ic.full (J N.ic (N.kH λq=>oN f0 q.2.1) (N.nX (bt k2)) hj))) (λk1=>nY N.ic.inv.1 (N.kH λq=>bf k1 q.1) rl (mu _) (N.nX (bt k2)) N.ic.full (J N.ic (N.kH λq=>bf k1 q.1) (N.nX (bt k2)) hj))
   ·exact ab (λk1=>ab (λf0=>ab (λf1=>aw (Bl f0 f1) (aw (Bl f0 f1) (nY N.ic.inv.1 (N.set (bt k1) (oY f0) (nM ny f1)) rl (mu _) (N.ph (bf k2)) N.ic.full (J N.ic (N.set (bt k1) (oY f0) (nM ny f1)) (N.ph (bf k2)) hj)))) (λf1=>nY N.ic.inv.1 (N.kH λq=>nN ny f1 q.2.2) rl (mu _) (N.ph (bf k2)) N.ic.full (J N.ic (N.kH λq=>nN ny f1 q.2.2) (N.ph (bf k2)) hj))) (λf0=>nY N.ic.inv.1 (N.kH λq=>oN f0 q.2.1) rl (mu _) (N.ph (bf k2)) N.ic.full (J N.ic (N.kH λq=>oN f0 q.2.1) (N.ph (bf k2)) hj))) (λk1=>nY N.ic.inv.1 (N.kH λq=>bf k1 q.1) rl (mu _) (N.ph (bf k2)) N.ic.full (J N.ic (N.kH λq=>bf k1 q.1) (N.ph (bf k2)) hj))
 ·have ho:¬(i:Int)<(order.length:Int):=oN ho
  have M1:=M
  have kE:lB g.A6 0:=⟨by decide,by omega⟩
  have gl1:=gl
  have PQ:=hh
  have kv:=hs
  have N:=CD M1 kE PQ kv
  refine aw (Jr kE) (cv (Fo (a:=j8 5 0) M1.inv.1 Ma) λkr CF=>?_)
  have CF:kr.1=mO g false 0:=by rw[CF];rfl
  rw[<-CF]at N
  have hj:kr.1.A6.length+(i+1-order.length)<=64:=by have:=N.len;omega
  have ny:=N.hl
  refine ab (λk2=>?_) (λk2=>?_)
  ·exact ab (λk1=>ab (λf0=>ab (λf1=>aw (Bl f0 f1) (aw (Bl f0 f1) (nY N.ic.inv.1 (N.set (bt k1) (oY f0) (nM ny f1)) rl (mu _) (N.nX (bt k2)) N.ic.full (J N.ic (N.set (bt k1) (oY f0) (nM ny f1)) (N.nX (bt k2)) hj)))) (λf1=>nY N.ic.inv.1 (N.kH λq=>nN ny f1 q.2.2) rl (mu _) (N.nX (bt k2)) N.ic.full (J N.ic (N.kH λq=>nN ny f1 q.2.2) (N.nX (bt k2)) hj))) (λf0=>nY N.ic.inv.1 (N.kH λq=>oN f0 q.2.1) rl (mu _) (N.nX (bt k2)) N.ic.full (J N.ic (N.kH λq=>oN f0 q.2.1) (N.nX (bt k2)) hj))) (λk1=>nY N.ic.inv.1 (N.kH λq=>bf k1 q.1) rl (mu _) (N.nX (bt k2)) N.ic.full (J N.ic (N.kH λq=>bf k1 q.1) (N.nX (bt k2)) hj))
  ·exact ab (λk1=>ab (λf0=>ab (λf1=>aw (Bl f0 f1) (aw (Bl f0 f1) (nY N.ic.inv.1 (N.set (bt k1) (oY f0) (nM ny f1)) rl (mu _) (N.ph (bf k2)) N.ic.full (J N.ic (N.set (bt k1) (oY f0) (nM ny f1)) (N.ph (bf k2)) hj)))) (λf1=>nY N.ic.inv.1 (N.kH λq=>nN ny f1 q.2.2) rl (mu _) (N.ph (bf k2)) N.ic.full (J N.ic (N.kH λq=>nN ny f1 q.2.2) (N.ph (bf k2)) hj))) (λf0=>nY N.ic.inv.1 (N.kH λq=>oN f0 q.2.1) rl (mu _) (N.ph (bf k2)) N.ic.full (J N.ic (N.kH λq=>oN f0 q.2.1) (N.ph (bf k2)) hj))) (λk1=>nY N.ic.inv.1 (N.kH λq=>bf k1 q.1) rl (mu _) (N.ph (bf k2)) N.ic.full (J N.ic (N.kH λq=>bf k1 q.1) (N.ph (bf k2)) hj))

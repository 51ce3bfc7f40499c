import Derived.Test.YthjfindbamdacaaGreatDoorPostPushesFin1
open Nat renaming lt_succ_self->cL,testBit_two_pow->fC,testBit_two_pow_mul_add->fE,and_le_right->fF,blt->bJ,le_trans->bH
open List renaming replicate->cM,length_singleton->cU,append_assoc->eZ,length_replicate->cQ,getD->aK,range->cY,range_succ->fH,filter_cons->fI,filter_nil->fJ,length_take->bD,length_map->fK,map_append->bL,take_append->fL,take_of_length_le->fM,mem_range->fN
open Eq renaming refl->fA
open Int renaming toNat_natCast->dZ,natCast_nonneg->fB,tmod->dA,toNat->dB,le_refl->fG
open BitVec renaming ofInt->dS,testBit_toNat->fD
set_option maxRecDepth 100000
set_option linter.all false
namespace Go.Proofs.YthjfindbamdacaaGreatDoor
open Go Go.GD
open Go.IntKind(wrap i64 u32 wrap_u32 wrap_u64)
attribute [local irreducible] Q12
def Tree.V{β:Type}(t:Tree β)(W:β->Prop):Prop:=W t.m
section
variable {α β:Type} {W:β->Prop} {c:Bool} {t e:Tree β}
theorem v_lf{x:β}(h:W x):Tree.V (.lf x) W:=h
theorem v_nx{f:Prop}{x:β}{hf:f}(h:W x):Tree.V (.nx f x hf) W:=h
theorem v_br(h:c=true->Tree.V t W)(g:c=false->Tree.V e W):Tree.V (.br c t e) W:=by
 cases c
 ·exact g rfl
 ·exact h rfl
theorem v_cn(g:Tree.V t W):Tree.V (.cn c t) W:=g
theorem v_an{p:Prop}(g:Tree.V t W):Tree.V (.an p t) W:=g
theorem v_lv{x:α}{k:α->Tree β}(h:∀y,y=x->Tree.V (k y) W):Tree.V (.lv x k) W:=h x rfl
theorem v_lp{d:Inhabited β}{n:Nat}{f:Prop}{x:α}{k:α->Tree (α⊕β)}{hf:f}{inv:α->Prop}{μ:α->Nat}(h:inv x)(hn:μ x<n)(g:∀y,inv y->Tree.V (k y) (Sum.elim (λz=>inv z/\μ z<μ y) W)):Tree.V (.lp d n f x k hf) W:=by
 refine qae (P:=inv) (R:=W) (μ:=μ) (λa ha=>?_) n x h hn
 have:=g a ha
 unfold Tree.V at this
 revert this
 cases(k a).m with
 |inl z=>exactλh=>h
 |inr b=>exactλh=>h
end
structure good(P:Nat)(m:Q00):Prop where
 ok:okM P m
 may:Q0t m=true
section
variable {P:Nat} {m:Q00} (h:good P m)
include h
theorem good.v:okV m:=⟨h.ok.cpu,h.ok.mem.u,h.ok.disk,h.ok.nic,h.ok.target,h.ok.cnt⟩
theorem good.s:okS P m:=⟨h.ok.cpu,h.ok.mem,h.ok.disk,h.ok.nic,h.ok.target.1,h.ok.target.2⟩
theorem good.rmay:Qb9 m=true:=(Z6s h.v).symm.trans h.may
theorem zF{e:Q0s}(he:U e.N):good P (Q7y m e).2/\(Q7y m e).2.A4=m.A4:=by
 have o:okM P (Q7y m e).2:=Tree.post _ (xF h.ok he)
 have a:=(Tree.pp (yB h.ok he)).2
 change(Q0t m=true->Q0t (Q1m m e).1=true)/\(Q1m m e).1.A4=m.A4/\_ at a
 have e1:Qin m e=((Q7y m e).2,(Q7y m e).1):=by
  simp only[Qin,Qhu,Tree.m,letv,Zba,h.rmay];rfl
 rw[Z2v h.v e,e1]at a
 exact⟨⟨o,a.1 h.may⟩,a.2.1⟩
theorem Z8w:Q7q m=false↔m.A6=false/\Qdz m=false/\m.A4<1152921504606846976:=by
 simp only[Q7q,Qhf,Tree.m,letv,h.rmay]
 cases m.A6<;>cases Qdz m<;>simp
theorem Zgn(hs:Q7q m=false){clock:Int}(hc:U clock):good P (Q1q m clock).2/\(Q1q m clock).2.A4=m.A4+1/\(Q1q m clock).1.length<=1:=by
 have o:=Tree.post _ (Z2c h.ok hc)
 change(Q1q m clock).1.length<=1/\okM P (Q1q m clock).2/\(Q1q m clock).2.A4=wrap .u64 (m.A4+1)at o
 have s:=(Tree.pp (xg h.s h.ok.cnt hc)).2
 change _/\Good P m (Q22 m clock).1 at s
 have e:Q22 m clock=((Q1q m clock).2,(Q1q m clock).1):=by rw[Z88 h.v,Z7n,hs];rfl
 rw[e]at s
 have hct:=((Z8w h).1 hs).2.2
 have h0:=h.ok.cnt
 refine⟨⟨o.2.1,s.2.may h.may⟩,?_,o.1⟩
 rw[o.2.2,wrap_u64];omega
end
structure goodR(P:Nat)(k:Int)(r:Q1u):Prop where
 m:good P r.A1
 clock:U r.Clock
 cnt:r.A1.A4<=k
theorem Zet{i:List Int}(hu:∀w∈i,U w)(hl:i.length<=256):good 8 (Q1l 8 4 i).1/\(Q1l 8 4 i).1.A4=0:=by
 obtain⟨a,b⟩:=(Tree.pp (new_w i hu hl)).2
 change okM 8 (Q1l 8 4 i).1 at a
 refine⟨⟨a,?_⟩,b⟩
 have e:(Q1l 8 4 i).2=true:=by
  have w:i64.wrap (8*32)=256:=by decide
  simp only[Q1l,Qar,Tree.m,w,letv,dN (show¬((i.length:Int)>256) by omega)]
  rfl
 obtain⟨a1,a2,a3,a4,a5,a6⟩:=zas 8 4 i e
 exact(xas _ 8 4 a1 a2 a3 a4 a5 _ a6).1
theorem vj{m:Q00}(h:good 8 m)(hc:m.A4<=87):Tree.V (Q84 m [] 87) (λx=>x.2.2.2=0->good 8 x.1/\x.1.A4<=87):=by
 have z:∀{k:Int} {p:Prop},k≠0->k=0->p:=λa b=>absurd b a
 unfold Q84
 refine v_lv λx0 _=>v_br (λ_=>v_lf (z (by decide))) λ_=>v_br (λ_=>v_lf (z (by decide))) λ_=>v_br (λ_=>v_lf (z (by decide))) λ_=>v_an (v_lv λx1 _=>v_br (λ_=>v_lf (z (by decide))) λ_=>v_an (v_lv λx2 hx=>?_))
 rw[Zba]at hx
 refine v_lp (inv:=λv:Q00×List Q0d=>good 8 v.1/\v.1.A4<=87) (μ:=Qeg m [] 87) ⟨by rw[hx];exact h,by rw[hx];exact hc⟩ (cL _) λv0 ⟨a1,a3⟩=>?_
 have a2:=a1.ok.cnt
 refine v_br (λhb=>v_br (λhm=>?_) (λ_=>v_lf λ_=>⟨a1,a3⟩)) (λ_=>v_lf λ_=>⟨a1,a3⟩)
 have hb:=oY hb
 have hm:=oY hm
 refine v_lp (inv:=λ_=>True) (μ:=Qe7 m [] 87 v0) trivial (cL _) λv1 _=>?_
 refine v_br (λ_=>v_lf λ_=>⟨a1,a3⟩) λhh=>v_an (v_lv λx3 h3=>v_br (λ_=>v_lf λ_=>⟨a1,a3⟩) λhi=>v_an (v_lv λx4 _=>v_br (λ_=>v_lf (z (by decide))) λ_=>v_an (v_lv λx5 h5=>v_cn (v_nx ?_))))
 obtain⟨b1,b2,_⟩:=Zgn a1 ((Z8w a1).2 ⟨hh,h3.symm.trans hi,hm⟩) (clock:=0) U_0
 rw[<-h5]at b1 b2
 show(good 8 x5.2/\x5.2.A4<=87)/\(87-x5.2.A4).toNat<(87-v0.1.A4).toNat
 exact⟨⟨b1,by omega⟩,by omega⟩
theorem Qu3(kind:Int)(l:List Int)(hl:l.length*8<=reachBytes)(h40:l.length<=60):good 8 (Qdx kind l)/\(Qdx kind l).A4<=87:=by
 show Tree.V (Q62 kind l) (λm=>good 8 m/\m.A4<=87)
 have code:=(Tree.pp (zd l hl)).2
 change((Qld l).length:Int)=l.length/\∀w∈Qld l,U w at code
 obtain⟨b1,b2⟩:=code
 unfold Q62
 refine v_an (v_lv λx0 hx0=>v_br (λ_=>v_an (v_lv λx1 e1=>?_)) (λhk=>?_))
 ·have eb:x1.1=boot:=by rw[e1];rfl
  obtain⟨q1,q2⟩:boot.length<=160/\∀w∈boot,U w:=ze
  refine v_lp (inv:=λv:List Int=>v.length<=160/\v=boot++cM (v.length-boot.length) 0) (μ:=Qb6 kind l) ⟨by rw[eb];exact q1,by rw[eb];simp⟩ (cL _) λv0 ⟨a1,a2⟩=>?_
  have a3:boot.length<=v0.length:=by rw[a2,lA];omega
  refine v_br (λhb=>?_) (λhb=>?_)
  ·have hb:=oY hb
   refine v_cn (v_nx ?_)
   show(_/\_)/\(_:Nat)<_
   refine⟨⟨by rw[lA,cU];omega,?_⟩,by show 160-(v0++[0]).length<160-v0.length;rw[lA,cU];omega⟩
   show v0++[0]=boot++cM ((v0++[0]).length-boot.length) 0
   rw[lA,cU,show v0.length+1-boot.length=(v0.length-boot.length)+1 by omega,List.replicate_succ',<-eZ,<-a2]
  ·have hb:=oN hb
   have hv:v0=Qi4:=by
    unfold Qi4
    rw[show(160:Nat)=v0.length by omega]
    exact a2
   subst hv
   have hp:=vU
   have hu0:∀w∈Qi4,U w:=λw hw=>(List.mem_append.1 hw).elim (q2 w) (U_all _ w)
   refine v_an (v_lv λx2 e2=>v_cn ?_)
   rw[<-e2]at b1 b2
   have hu:∀w∈Qi4++x2,U w:=λw hw=>(List.mem_append.1 hw).elim (hu0 w) (b2 w)
   have hlen:(Qi4++x2).length<=256:=by rw[lA];omega
   refine v_br (λhb=>?_) (λhb=>?_)
   ·have hb:=oY hb;omega
   ·obtain⟨c1,c2⟩:=Zet hu hlen
    refine v_an (v_lv λx3 h3=>?_)
    rw[<-h3]at c1 c2
    have rn:=vj c1 (by omega)
    refine v_br (λ_=>v_an (v_lv λx4 hx=>v_lf ?_)) (λ_=>v_lf ⟨c1,by omega⟩)
    have e:x3=Q1l 8 4 (Qi4++(x2++cM (96-x2.length) 0)):=by
     rw[h3]
     have hl2:(x2++cM (96-x2.length) (0:Int)).length=96:=by rw[lA,cQ];omega
     refine yU _ _ hlen (by rw[lA,hl2];omega) ?_
     rw[lA,lA,hl2,hp,eZ,eZ,eZ,show 256-(160+96)=0 by omega,show 256-(160+x2.length)=96-x2.length by omega]
     simp
    have h0:x4.2.2.2=0:=by
     rw[hx,e]
     exact zag _ (by rw[lA,cQ];omega)
    exact(by rw[hx];exact rn:x4.2.2.2=0->good 8 x4.1/\x4.1.A4<=87) h0
 ·have hk:=oN hk
  refine v_an (v_lv λx2 e2=>v_cn ?_)
  rw[<-e2]at b1 b2
  refine v_br (λhb=>?_) (λhb=>?_)
  ·have hb:=oY hb;omega
  ·obtain⟨c1,c2⟩:=Zet b2 (by omega)
   refine v_an (v_lv λx3 h3=>?_)
   rw[<-h3]at c1 c2
   exact v_br (λh=>absurd (eq_of_beq h) (by omega)) (λ_=>v_lf ⟨c1,by omega⟩)
theorem vY{m:Q00}(h:U m.A0.B9):Qac m:=by
 show(Q4p m).p
 unfold Tree.p Q4p
 refine w_br (λ_=>w_an ?_ (w_lv λ_ _=>trivial)) (λ_=>trivial)
 show(Q2s m).p
 unfold Tree.p Q2s
 exact Q0b (Z4m h) λ_ _=>trivial
section
variable {P:Nat} {m:Q00} (h:good P m)
include h
theorem good.len:m.Mem.length<=1024:=by have:=h.ok.mem.len;have:=h.ok.mem.p2;omega
theorem good.app(e:Q0s):Q1m m e=((Q7y m e).2,(Q7y m e).1):=by
 rw[Z2v h.v]
 simp only[Qin,Qhu,Tree.m,letv,Zba,h.rmay];rfl
theorem good.step(hs:Q7q m=false)(clock:Int):Q22 m clock=((Q1q m clock).2,(Q1q m clock).1):=by
 rw[Z88 h.v,Z7n,hs];rfl
end
def inS(S:Int)(f:Nat):Prop:=S.toNat.testBit f=true
def Sub(S:Int)(D:Nat->Prop):Prop:=∀f,inS S f->D f
def Agr(D:Nat->Prop)(m n:List Int):Prop:=∀j:Nat,D (j/32)->m.getD j 0=n.getD j 0
def Kept(D:Nat->Prop)(m m':List Int):Prop:=∀j:Nat,¬D (j/32)->m'.getD j 0=m.getD j 0
def Zer(D:Nat->Prop)(m:List Int):Prop:=∀j:Nat,¬D (j/32)->m.getD j 0=0
theorem Kept.rfl{D:Nat->Prop}{m:List Int}:Kept D m m:=λ_ _=>fA _
theorem Kept.trans{D:Nat->Prop}{m m' m'':List Int}(h:Kept D m m')(g:Kept D m' m''):Kept D m m'':=λj hj=>(g j hj).trans (h j hj)
theorem Zer.kept{D:Nat->Prop}{m m':List Int}(h:Zer D m)(g:Kept D m m'):Zer D m':=λj hj=>(g j hj).trans (h j hj)
theorem inS0(f:Nat):¬inS 0 f:=by simp[inS]
theorem Z2x{S T:Int}(hS:U S)(hT:U T)(f:Nat):inS (ior .u32 S T) f↔inS S f\/inS T f:=by
 unfold inS
 rw[zO hS hT,dZ,Nat.testBit_or,Bool.or_eq_true]
theorem Sub.or{S T:Int}{D:Nat->Prop}(hS:U S)(hT:U T):Sub (ior .u32 S T) D↔Sub S D/\Sub T D:=
 ⟨λh=>⟨λf hf=>h f ((Z2x hS hT f).2 (.inl hf)),λf hf=>h f ((Z2x hS hT f).2 (.inr hf))⟩,λh f hf=>((Z2x hS hT f).1 hf).elim (h.1 f) (h.2 f)⟩
theorem qk{k:Nat}(hk:k<32):(2:Nat)^k<4294967296:=Nat.pow_lt_pow_right (a:=2) (m:=k) (n:=32) (by decide) hk
theorem Zev{k:Nat}(hk:k<32):ishl .u32 1 (k:Int)=((2^k:Nat):Int):=by
 have hp:=qk hk
 unfold ishl
 have hm:min ((k:Int).toNat) u32.bits=k:=by
  have:u32.bits=32:=fA _
  rw[dZ,this];exact Nat.min_eq_left (by omega)
 have e3:((2:Int)^k)=((2^k:Nat):Int):=by simp
 rw[hm,wrap_u32,Int.one_mul,e3]
 generalize(2:Nat)^k=N at*
 omega
section
variable {P:Nat} {m n:List Int} (h:Q0n P m) (hn:Q0n P n) {D:Nat->Prop}
include h
theorem Qb0{f:Int}(hf:U f):U (Q0u m f)/\∀g,inS (Q0u m f) g↔(g:Int)=f/\f<P:=by
 have hp:=h.p2
 simp only[Q0u,Q4y,Tree.m,letv,Qq4 h]
 have e:wrap .u32 ((P:Nat):Int)=P:=by rw[wrap_u32];omega
 rw[e]
 by_cases hc:f>=(P:Int)
 ·rw[dY hc]
  exact⟨U_0,λg=>⟨λx=>absurd x (inS0 g),λx=>by omega⟩⟩
 ·rw[dN hc]
  obtain⟨f0,f1⟩:=hf
  obtain⟨k,rfl⟩:=Int.eq_ofNat_of_zero_le f0
  have hk:k<32:=by omega
  show U (ishl .u32 1 (k:Int))/\∀g,inS (ishl .u32 1 (k:Int)) g↔_
  rw[Zev hk]
  have:=qk hk
  show U ((2^k:Nat):Int)/\∀g,inS ((2^k:Nat):Int) g↔_
  refine⟨⟨fB _,Int.ofNat_lt.2 this⟩,λg=>?_⟩
  unfold inS
  rw[dZ,fC]
  simp only[decide_eq_true_eq]
  omega
end
theorem cc{α:Type}{c:Bool}{x x' y y':α}(hx:c=true->x=x')(hy:c=false->y=y'):cond c x y=cond c x' y':=by
 cases c
 ·exact hy (fA _)
 ·exact hx (fA _)
attribute [local irreducible] Q2b Q3d Q4j
section
variable {P:Nat} {m n:List Int} (h:Q0n P m) (hn:Q0n P n) {D:Nat->Prop}
include h hn
end
attribute [local irreducible] Q4u Q37 Q2v Q3w Q2m Q41
section
variable {P:Nat} {m n:List Int} (h:Q0n P m) (hn:Q0n P n) {D:Nat->Prop}
include h
include hn
end
def sgV(m:List Int)(v:Int):Int:=Q0u m (wrap .u32 (Int.tdiv v 128))
theorem Z3x(c:Q01)(m:List Int)(v s k:Int):Q0p c m v s k=bif dA v s !=0 then 0 else bif !Q30 c then sgV m v else bif iand .u32 c.B3.a0 4==0 then sgV m v else bif decide (v>=4096)then 0 else bif(Q2m m c.B3.a6 v k).D6==0 then ior .u32 (Q0u m c.B3.a6) (sgV m (Q2m m c.B3.a6 v k).Addr)else Q0u m c.B3.a6:=by kernel_rfl
section
variable {P:Nat} {m n:List Int} (h:Q0n P m) (hn:Q0n P n) {D:Nat->Prop}
include h
theorem sgV_U(v:Int):U (sgV m v):=(Qb0 h (Q0l _)).1
include hn
structure RRel(P:Nat)(D:Nat->Prop)(m n:List Int)(x y:Int×List Int×Int):Prop where
 a:x.1=y.1
 c:x.2.2=y.2.2
 agr:Agr D x.2.1 y.2.1
 km:Kept D m x.2.1
 kn:Kept D n y.2.1
 u:U x.1
 i:x.2.2=0->x.1<128*P->D (x.1/128).toNat
omit h hn in
theorem Agr.symm(hD:Agr D m n):Agr D n m:=λj hj=>(hD j hj).symm
end
section
variable {P:Nat} {m n:List Int} (h:Q0n P m) (hn:Q0n P n) {D:Nat->Prop} {c:Q01} (hc:Q24 c)
include h hn hc
end
theorem Z7h{x y:Int}(hx:U x)(hy:U y)(f:Nat):inS (Q7f .u32 x y) f↔inS x f/\¬inS y f:=by
 unfold inS Q7f
 have hb:u32.bits=32:=rfl
 rw[hb,wrap_u32]
 have hlt:=(dS 32 x&&&~~~dS 32 y).isLt
 have e:(((dS 32 x&&&~~~dS 32 y).toNat:Int)%4294967296).toNat=(dS 32 x&&&~~~dS 32 y).toNat:=by omega
 rw[e,fD,BitVec.getLsbD_and,BitVec.getLsbD_not,<-fD,<-fD,Qmh hx,Qmh hy]
 by_cases h32:f<32
 ·simp[h32]
 ·have:x.toNat.testBit f=false:=Nat.testBit_lt_two_pow (Nat.lt_of_lt_of_le (by have:=hx.2;omega:x.toNat<2^32) (Nat.pow_le_pow_right (by decide) (by omega)))
  simp[this]
theorem Qxy(x y:Int):U (Q7f .u32 x y):=Q0l _
section
variable {P:Nat} {m n:List Int} (h:Q0n P m) (hn:Q0n P n) {D:Nat->Prop}
theorem Zfm(l:List Int)(j k:Nat)(hk:k<4):byt l (4*j+k)=dig (l.getD j 0) k:=by
 unfold byt
 rw[show(4*j+k)/4=j by omega,show(4*j+k)%4=k by omega]
include h hn
theorem yF{j:Nat}(hb:∀k,k<4->byt m (4*j+k)=byt n (4*j+k)):m.getD j 0=n.getD j 0:=
 qh (Qh5 h.u _) (Qh5 hn.u _) λk hk=>by rw[<-Zfm m j k hk,<-Zfm n j k hk];exact hb k hk
omit h hn in
theorem isPg.agr(hD:Agr D m n){f:Int}(f0:0<=f)(hd:D f.toNat){s:List UInt8}(a:isPg m f s):isPg n f s:=by
 refine⟨a.1,λk hk=>?_⟩
 rw[a.2 k hk]
 unfold byt
 rw[hD _ (by rw[show((f*128).toNat+k)/4/32=f.toNat by omega];exact hd)]
omit hn in
theorem setPg{f:Int}(f0:0<=f)(f1:f<P){s:List UInt8}(hs:s.length=128):(Q0y m f s).2=true/\Q0n P (Q0y m f s).1/\Kept (λg=>g=f.toNat) m (Q0y m f s).1/\isPg (Q0y m f s).1 f s:=by
 obtain⟨a1,a2,a3⟩:=(Tree.pp (Qr9 h f0 f1 hs)).2
 change(Q0y m f s).2=true at a1
 change Q0n P (Q0y m f s).1 at a2
 change∀b:Nat,byt (Q0y m f s).1 b=_ at a3
 refine⟨a1,a2,λj hj=>yF a2 h λk hk=>?_,hs,λk hk=>?_⟩
 ·rw[a3,if_neg (by omega)]
 ·rw[a3,if_pos (by omega)]
  congr 2
  congr 1
  omega
end
def setMem(b:Q00)(l:List Int):Q00:={B2:=b.B2,Mem:=l,A2:=b.A2,A9:=b.A9,B1:=b.B1,C3:=b.C3,A0:=b.A0,A4:=b.A4,A3:=b.A3,A6:=b.A6}
section
variable {P:Nat} {m n:List Int} (h:Q0n P m) (hn:Q0n P n) {D:Nat->Prop} (hD:Agr D m n)
include h hn hD
end
def vaO(c:Q01)(i:Q0f):Int:=wrap .u32 (aK (A16.l c.X) (dB (iand .i64 i.B 15)) 0+wrap .u32 i.Imm)
theorem Zfd(q:Q00)(c:Q01)(m:List Int)(i:Q0f):Q1h q c m i=bif i.Op==32 then Q0p c m (vaO c i) 4 2 else bif i.Op==33 then Q0p c m (vaO c i) 1 2 else bif i.Op==34 then Q0p c m (vaO c i) 1 2 else bif i.Op==35 then Q0p c m (vaO c i) 4 3 else bif i.Op==36 then Q0p c m (vaO c i) 1 3 else bif i.Op==61 then Qdh q (wrap .i64 i.Imm) (aK (A16.l c.X) (dB (iand .i64 i.A 15)) 0)else 0:=by kernel_rfl
theorem and15{b:Int}(h0:0<=b)(h1:b<16):iand .i64 b 15=b:=by
 have:b=0\/b=1\/b=2\/b=3\/b=4\/b=5\/b=6\/b=7\/b=8\/b=9\/b=10\/b=11\/b=12\/b=13\/b=14\/b=15:=by omega
 rcases this with rfl|rfl|rfl|rfl|rfl|rfl|rfl|rfl|rfl|rfl|rfl|rfl|rfl|rfl|rfl|rfl<;>rfl
def XRel{α:Type}(D:Nat->Prop)(m n:List Int)(x y:Q01×List Int×α):Prop:=x.1=y.1/\x.2.2=y.2.2/\Agr D x.2.1 y.2.1/\Kept D m x.2.1/\Kept D n y.2.1
section
variable {P:Nat} {m n:List Int} (h:Q0n P m) (hn:Q0n P n) {D:Nat->Prop} (hD:Agr D m n) {c:Q01} (hc:Q24 c)
include h hn hD hc
end
def nd(q:Q00)(c:Q01)(m:List Int):Int:=
 bif(Q1i c m).2.2 !=0 then Q0p c m c.Pc 4 1 else bif !(Q1j (Q1i c m).1).2 then Q0p c m c.Pc 4 1 else bif Q30 c then(bif Q2e (Q1j (Q1i c m).1).1.Op then Q0p c m c.Pc 4 1 else ior .u32 (Q0p c m c.Pc 4 1) (Q1h q c (Q1i c m).2.1 (Q1j (Q1i c m).1).1))else ior .u32 (Q0p c m c.Pc 4 1) (Q1h q c (Q1i c m).2.1 (Q1j (Q1i c m).1).1)
theorem Zbi(m:Q00):Q20 m=bif !Q0t m then 0 else bif m.A6 then 0 else bif Q45 m then 0 else bif decide (m.A4>=1152921504606846976)then 0 else nd m (bif iand .u32 (Q2p m) m.B2.B3.a7 !=0 then(bif iand .u32 m.B2.B3.a0 2 !=0 then Q2x m.B2 (wrap .i64 (16+Q0k (iand .u32 (Q2p m) m.B2.B3.a7))) 0 else m.B2)else m.B2) m.Mem:=by
 simp only[Q20,Q5j,Tree.m,letv]
 cases Q0t m
 case false=>rfl
 cases m.A6
 case true=>rfl
 cases Q45 m
 case true=>rfl
 cases decide (m.A4>=1152921504606846976)
 case true=>rfl
 cases iand .u32 (Q2p m) m.B2.B3.a7 !=0
 ·rfl
 ·cases iand .u32 m.B2.B3.a0 2 !=0
  ·rfl
  ·rfl
section
variable {P:Nat} {m:List Int} (h:Q0n P m)
include h
theorem Zeq{c:Q01}(hc:Q24 c){v:Int}(hv:U v)(s k:Int):U (Q0p c m v s k):=by
 rw[Z3x]
 cases dA v s !=0
 case true=>exact U_0
 cases Q30 c
 case false=>exact sgV_U h _
 cases iand .u32 c.B3.a0 4==0
 case true=>exact sgV_U h _
 cases decide (v>=4096)
 case true=>exact U_0
 show U (bif(Q2m m c.B3.a6 v k).D6==0 then _ else _)
 cases(Q2m m c.B3.a6 v k).D6==0
 ·exact(Qb0 h hc.a6).1
 ·exact U_or _ _
omit h in
theorem out_U{q:Q00}(hq:Q0n P q.Mem)(hd:Q6x q.B1)(hn:Qev q.C3)(port:Int){v:Int}(hv:U v):U (Qdh q port v):=by
 show Tree.V (Q3z q port v) U
 unfold Q3z
 repeat' first
  |exact v_lf U_0
  |exact v_lf (Qxy _ _)
  |(refine v_lv λx hx=>?_;subst hx;first|exact v_lf (Qb0 hq hd.frame).1|exact v_lf (Qb0 hq hn.frame).1|exact v_lf (Qxy _ _))
  |refine v_an ?_
  |refine v_br (λ_=>?_) (λ_=>?_)
theorem qal{q:Q00}(hq:Q0n P q.Mem)(hd:Q6x q.B1)(hn:Qev q.C3){c:Q01}(hc:Q24 c)(i:Q0f):U (Q1h q c m i):=by
 rw[Zfd]
 have a:=λs k=>Zeq h hc (v:=vaO c i) (Q0l _) s k
 cases i.Op==32
 case true=>exact a 4 2
 cases i.Op==33
 case true=>exact a 1 2
 cases i.Op==34
 case true=>exact a 1 2
 cases i.Op==35
 case true=>exact a 4 3
 cases i.Op==36
 case true=>exact a 1 3
 cases i.Op==61
 case true=>exact out_U hq hd hn _ (hc.r _)
 exact U_0
end
theorem decP(w:Int):(Q1j w).2=true->Qaq (Q1j w).1:=(Tree.pp (Qm2 w)).2
attribute [local irreducible] Q0p Q1h
def goes(c:Q01)(w k:Int):Bool:=bif k !=0 then false else bif !(Q1j w).2 then false else bif Q30 c then !Q2e (Q1j w).1.Op else true
theorem nd_eq(q:Q00)(c:Q01)(m:List Int):nd q c m=bif goes c (Q1i c m).1 (Q1i c m).2.2 then ior .u32 (Q0p c m c.Pc 4 1) (Q1h q c (Q1i c m).2.1 (Q1j (Q1i c m).1).1)else Q0p c m c.Pc 4 1:=by
 unfold nd goes
 cases(Q1i c m).2.2 !=0
 case true=>rfl
 cases(Q1j (Q1i c m).1).2
 case false=>rfl
 cases Q30 c
 case false=>rfl
 cases Q2e (Q1j (Q1i c m).1).1.Op<;>rfl
attribute [local irreducible] Q1j
section
variable {P:Nat} {m n:List Int} (h:Q0n P m) (hn:Q0n P n) {D:Nat->Prop} (hD:Agr D m n) {c:Q01} (hc:Q24 c)
include h hc
omit h hc in
theorem XRel.on{α:Type}{m1 n1:List Int}(k1:Kept D m m1)(k2:Kept D n n1){x y:Q01×List Int×α}(r:XRel D m1 n1 x y):XRel D m n x y:=⟨r.1,r.2.1,r.2.2.1,k1.trans r.2.2.2.1,k2.trans r.2.2.2.2⟩
include hn hD
end
theorem qZ{l:Int}(h0:0<=l)(h1:l<32)(hl:l≠0):Q0k l=low l:=by
 rcases Ze7 h0 h1 with rfl|rfl|rfl|rfl|rfl|rfl|rfl|rfl|rfl|rfl|rfl|rfl|rfl|rfl|rfl|rfl|rfl|rfl|rfl|rfl|rfl|rfl|rfl|rfl|rfl|rfl|rfl|rfl|rfl|rfl|rfl|rfl
 ·exact absurd rfl hl
 all_goals rfl
theorem zal{m:Q00}(h:okV m)(hst:m.B2.B3.a0<=31):(bif iand .u32 (Q2p m) m.B2.B3.a7 !=0 then(bif iand .u32 m.B2.B3.a0 2 !=0 then Q2x m.B2 (wrap .i64 (16+Q0k (iand .u32 (Q2p m) m.B2.B3.a7))) 0 else m.B2)else m.B2)=Q0e m:=by
 obtain⟨l0,l1⟩:=Qs7 h
 have el:iand .u32 (Q2p m) m.B2.B3.a7=Q21 m:=by rw[Z2p h];rfl
 rw[rintr h,el]
 unfold intr
 rw[bne,bne]
 cases h1:Q21 m==0
 ·have h1:Q21 m≠0:=by simpa using h1
  rw[qZ l0 l1 h1,Qil h.cpu.a0.1 hst]
  cases iand .u32 m.B2.B3.a0 2==0<;>rfl
 ·cases iand .u32 m.B2.B3.a0 2==0<;>rfl
section
variable {P:Nat} {b:Q00} {m n:List Int} (h:Q0n P m) (hn:Q0n P n)
include h hn
theorem xZ:Q0t (setMem b m)=Q0t (setMem b n):=by
 simp only[Q0t,Q5m,Q0r,Q1k,Tree.m,letv,setMem,Q26 h,Q26 hn]
 rfl
end
theorem xk{b:Q00}{m:List Int}(hv:okV (setMem b m))(hr:Q1g (setMem b m)=true):Q20 (setMem b m)=nd (setMem b m) (Q0e (setMem b m)) m:=by
 obtain⟨r1,r2,r3⟩:=Qrs hr
 have r4:Q45 (setMem b m)=false:=by
  cases hi:Q45 (setMem b m)
  ·rfl
  ·simp only[Q1g,Q3v,Tree.m,letv,r1,r2,hi]at hr
   cases hr
 rw[Zbi,r1,r2,r4,dN (by omega),zal hv ((Qm6 _).1 r1).2.1.st]
 rfl
theorem Zig{b:Q00}{m:List Int}(hr:Q1g (setMem b m)=false):Q20 (setMem b m)=0:=by
 rw[Zbi]
 simp only[Q1g,Q3v,Tree.m,letv]at hr
 cases h1:Q0t (setMem b m)
 case false=>rfl
 rw[h1]at hr
 cases h2:(setMem b m).A6
 case true=>rfl
 rw[h2]at hr
 cases h3:Q45 (setMem b m)
 case true=>rfl
 rw[h3]at hr
 have:¬(setMem b m).A4<1152921504606846976:=oN hr
 rw[dY (by omega)]
 rfl
section
variable {P:Nat} {b:Q00} {m n:List Int} (h:Q0n P m) (hn:Q0n P n) (hv:okV (setMem b m)) (hvn:okV (setMem b n)) {D:Nat->Prop} (hD:Agr D m n)
include h hn hv hvn
include hD
theorem vF(hr:Q1g (setMem b m)=true):Q24 (Q0e (setMem b m)):=by
 obtain⟨g1,g2,g3,g4,g5⟩:=(Qm6 _).1 (Qrs hr).1
 have okm:okS P (setMem b m):=⟨hv.cpu,h,hv.disk,hv.nic,hv.bal.1,hv.bal.2⟩
 have b2:=((Tree.pp (Qyc okm g2)).2).2.1
 change okS P (Q0z (setMem b m))at b2
 rw[Z4f hv g2.st]at b2
 exact b2.cpu
end
theorem zk(m:Q00)(e:Q0s):Q6l m e=bif e.C1==4 then(bif(Q1m m e).2 then(bif e.N==1 then(bif m.B1.D5==1 then Q0u m.Mem m.B1.B0 else 0)else 0)else 0)else bif e.C1==5 then(bif(Q1m m e).2 then Q0u m.Mem m.C3.B6 else 0)else 0:=by kernel_rfl
section
variable {P:Nat} {m n:List Int} (h:Q0n P m) (hn:Q0n P n) {D:Nat->Prop} (hD:Agr D m n)
include h hn
include hD
end
theorem yk{x:Nat}(h0:x≠0)(h:x<2^32):Lib.ctz 32 x<32/\x.testBit (Lib.ctz 32 x)=true/\(∀j,j<Lib.ctz 32 x->x.testBit j=false)/\(∀j,(x&&&(x-1)).testBit j=(x.testBit j&&!decide (j=Lib.ctz 32 x)))/\x&&&(x-1)<x:=by
 have e:Lib.ctz 32 x=Lib.ctzFrom 32 x:=by unfold Lib.ctz;rw[if_neg h0]
 obtain⟨m,hm,ht⟩:=Lib.ctzFrom_spec 32 x (by omega) h
 rw[<-e]at hm ht
 generalize Lib.ctz 32 x=t at*
 have p:=Nat.two_pow_pos t
 have hs:2^(t+1)=2^t*2:=Nat.pow_succ 2 t
 have ex:x=2^(t+1)*m+2^t:=by rw[hs,Nat.mul_assoc,hm];rw[Nat.mul_add,Nat.mul_one]
 have ey:x-1=2^(t+1)*m+(2^t-1):=by omega
 have bx:∀j,x.testBit j=if j<t+1 then decide (t=j)else m.testBit (j-(t+1)):=λj=>by
  rw[ex,fE _ (by omega),fC]
 have bn:∀j,(x-1).testBit j=if j<t+1 then decide (j<t)else m.testBit (j-(t+1)):=λj=>by
  rw[ey,fE _ (by omega),Nat.testBit_two_pow_sub_one]
 refine⟨ht,by rw[bx];simp,λj hj=>by rw[bx,if_pos (by omega)];simp;omega,λj=>?_,?_⟩
 ·rw[Nat.testBit_and,bx,bn]
  by_cases h1:j<t+1
  ·simp only[if_pos h1]
   by_cases h2:t=j
   ·subst h2;simp
   ·simp[h2]
  ·simp only[if_neg h1]
   rw[dN (show¬j=t by omega)]
   simp
 ·exact Nat.lt_of_le_of_lt fF (by omega)
theorem xal(x:Int):Q0k x=(Lib.ctz 32 x.toNat:Int):=rfl
theorem vk{m:List Int}{f:Int}(hf:U f):(Q4y m f).w (λ_=>True):=by
 unfold Q4y
 exact w_lv λ_ _=>w_br (λ_=>trivial) (λ_=>w_cn (dY hf.1) trivial)
theorem Qn(m:List Int){f:Int}(hf:U f):Q1b m f:=(Tree.pp (vk (m:=m) hf)).1
section
variable {P:Nat} {m:List Int} (h:Q0n P m)
include h
theorem Zb9{c:Q01}(hc:Q24 c){v:Int}(hv:U v){s:Int}(hs:s=1\/s=4)(k:Int):(Q6e c m v s k).w (λ_=>True):=by
 have sp:∀x,(Tree.an (Q1b m (wrap .u32 x)) (.lv (Q0u m (wrap .u32 x)) λx1=>.lf x1)).w (λ_=>True):=λx=>w_an (Qn m (Q0l _)) (w_lv λ_ _=>trivial)
 unfold Q6e
 refine w_cn (dY (by rcases hs with rfl|rfl<;>decide)) (w_br (λ_=>trivial) λ_=>w_lv λx0 _=>w_br (λ_=>sp _) λ_=>w_br (λ_=>sp _) λ_=>w_br (λ_=>trivial) λ_=>w_an (Qn m hc.a6) (w_lv λx3 _=>w_an (Tree.pp (yq h hv k)).1 (w_lv λx4 _=>w_br (λ_=>w_an (Qn m (Q0l _)) (w_lv λ_ _=>trivial)) (λ_=>trivial))))
theorem zZ{q:Q00}(hd:Q6x q.B1)(hn:Qev q.C3){c:Q01}(hc:Q24 c){i:Q0f}(hi:Qaq i):(Q4z q c m i).w (λ_=>True):=by
 have hB:iand .i64 i.B 15=i.B:=and15 hi.b.1 hi.b.2
 have hA:iand .i64 i.A 15=i.A:=and15 hi.a.1 hi.a.2
 have b1:=hi.b.1;have b2:=hi.b.2;have a1:=hi.a.1;have a2:=hi.a.2
 have ap:∀x {s:Int} (hs:s=1\/s=4) k,(Tree.an (Q1v c m (wrap .u32 x) s k) (.lv (Q0p c m (wrap .u32 x) s k) λx0=>.lf x0)).w (λ_=>True):=λx s hs k=>w_an (Tree.pp (Zb9 h hc (Q0l _) hs k)).1 (w_lv λ_ _=>trivial)
 have op:∀p {v:Int},U v->(Q3z q p v).w (λ_=>True):=λp v hv=>by
  unfold Q3z
  refine w_br (λ_=>w_br (λ_=>w_br (λ_=>w_br (λ_=>w_an (Qn _ hd.frame) (w_lv λ_ _=>trivial)) λ_=>trivial) λ_=>trivial) λ_=>trivial) λ_=>w_br (λ_=>w_br (λ_=>w_br (λ_=>w_br (λ_=>w_an (Qn _ hn.frame) (w_lv λ_ _=>trivial)) λ_=>trivial) λ_=>trivial) λ_=>trivial) λ_=>w_br (λ_=>w_an (Qn _ hv) (w_lv λ_ _=>trivial)) λ_=>trivial
 unfold Q4z
 refine w_cn (by rw[hB];exact rc ⟨b1,b2⟩) (w_br (λ_=>ap _ (.inr rfl) _) λ_=>w_br (λ_=>ap _ (.inl rfl) _) λ_=>w_br (λ_=>ap _ (.inl rfl) _) λ_=>w_br (λ_=>ap _ (.inr rfl) _) λ_=>w_br (λ_=>ap _ (.inl rfl) _) λ_=>w_br (λ_=>w_cn (by rw[hA];exact rc ⟨a1,a2⟩) (w_an (Tree.pp (op _ (hc.r _))).1 (w_lv λ_ _=>trivial))) λ_=>trivial)
end
theorem qG{P:Nat}{m:Q00}(h:okV m)(hm:Q0n P m.Mem):(Q5j m).w (λ_=>True):=by
 have go:∀{c:Q01},Q24 c->(Tree.an (Q1v c m.Mem c.Pc 4 1) (.lv (Q0p c m.Mem c.Pc 4 1) λ(x5:Int)=>.an (Qbw c m.Mem) (.lv (Q1i c m.Mem) λ(x6:Int×List Int×Int)=>.br (x6.2.2 !=0) (.lf x5) (.an (Qa6 x6.1) (.lv (Q1j x6.1) λ(x7:Q0f×Bool)=>.br (!x7.2) (.lf x5) (.lv (Q30 c) λ(x8:Bool)=>.br x8 (.lv (Q2e x7.1.Op) λ(x9:Bool)=>.br x9 (.lf x5) (.an (Q4 m c x6.2.1 x7.1) (.lv (Q1h m c x6.2.1 x7.1) λ(x10:Int)=>.lf (ior .u32 x5 x10)))) (.an (Q4 m c x6.2.1 x7.1) (.lv (Q1h m c x6.2.1 x7.1) λ(x11:Int)=>.lf (ior .u32 x5 x11))))))))).w (λ_=>True):=fun{c} hc=>by
  refine w_an (Tree.pp (Zb9 hm hc hc.pc (.inr rfl) 1)).1 (w_lv λx5 _=>Q0b (Qr8 hm hc) λx6 h6=>w_br (λ_=>trivial) λ_=>w_an (Tree.pp (Qm2 x6.1)).1 (w_lv λx7 e7=>w_br (λ_=>trivial) λhb=>?_))
  have h7:Qaq x7.1:=by
   rw[e7];exact decP _ (by rw[<-e7];simpa using hb)
  have o:=(Tree.pp (zZ h6.2 h.disk h.nic hc h7 (q:=m))).1
  exact w_lv λx8 _=>w_br (λ_=>w_lv λx9 _=>w_br (λ_=>trivial) λ_=>w_an o (w_lv λ_ _=>trivial)) λ_=>w_an o (w_lv λ_ _=>trivial)
 have hg:=h.bal.2
 unfold Q5j
 refine w_an (Tree.pp (Z8t hg)).1 (w_lv λx0 _=>w_br (λ_=>trivial) λ_=>w_br (λ_=>trivial) λ_=>w_an (vY hg) (w_lv λx1 _=>w_br (λ_=>trivial) λ_=>w_br (λ_=>trivial) λ_=>w_an (Tree.pp (Z4m hg)).1 (w_lv λx2 _=>w_br (λ_=>w_br (λ_=>w_an ⟨(Z7a _ _).1,(Z7a _ _).2⟩ (w_lv λx3 _=>w_lv λx4 h4=>go (by rw[h4];exact Qm8 h.cpu _ U_0))) λ_=>go h.cpu) λ_=>go h.cpu)))
theorem Zi{P:Nat}{m:Q00}(g:good P m){clock:Int}(hc:U clock):good P (Q22 m clock).1/\(Q22 m clock).2.length<=1/\(Q22 m clock).1.A4<=m.A4+1:=by
 cases hs:Q7q m
 ·obtain⟨a,b,c⟩:=Zgn g hs hc
  rw[g.step hs];exact⟨a,c,by show(Q1q m clock).2.A4<=_;omega⟩
 ·have e:Q22 m clock=(m,[]):=by rw[Z4l,Qyr g.v,hs];rfl
  rw[e];exact⟨g,Nat.zero_le _,by show m.A4<=m.A4+1;omega⟩
theorem Zcv{P:Nat}{m:Q00}(g:good P m){e:Q0s}(he:U e.N):good P (Q1m m e).1:=by
 rw[g.app];exact(zF g he).1
structure okP(P:Nat)(p:Q03):Prop where
 g:good P p.A1
 pos:0<P
 pres:p.A7.length=P
 last0:0<=p.D0
 last1:p.D0<P
 flt0:0<=p.C4
 flt1:p.C4<=1000000
section
variable {P:Nat} {p:Q03} (h:okP P p)
include h
theorem okP.P32:P<=32:=h.g.ok.mem.p2
theorem okP.valid:Q4s p=true:=by
 have h1:=h.pres;have h2:=h.last0;have h3:=h.last1;have h4:=h.flt0
 simp only[Q4s,Q5i,Tree.m,letv,Q26 h.g.ok.mem,h.g.may,h1]
 simp[h2,h3,h4]
theorem Z8u:Q35 p:=by
 have hg:=h.g.ok.target.2
 have:(Q5i p).w (λ_=>True):=by
  unfold Q5i
  exact w_lv λx0 _=>w_an (Tree.pp (Z8t hg)).1 (w_lv λx1 _=>w_br (λ_=>w_br (λ_=>w_br (λ_=>w_br (λ_=>trivial) λ_=>trivial) λ_=>trivial) λ_=>trivial) λ_=>trivial)
 exact(Tree.pp this).1
theorem Z4e:Q4b p/\Q7o p=p:=by
 have h1:=h.g.len;have h2:=h.pres;have h3:=h.P32
 refine⟨?_,rfl⟩
 have:(Q7g p).w (λ_=>True):=by
  unfold Q7g
  exact w_an (show p.A1.Mem.length<=35184372088832 by omega) (w_lv λ_ _=>w_an (show p.A7.length<=140737488355328 by omega) (w_lv λ_ _=>trivial))
 exact(Tree.pp this).1
def prs(p:Q03)(f:Nat):Prop:=p.A7.getD f false=true
theorem Z8e:(Q5q p).w (λr=>U r/\∀f,inS r f↔prs p f):=by
 have h2:=h.pres;have h3:=h.P32
 unfold Q5q
 refine w_lp (inv:=λv=>U v.1/\0<=v.2/\v.2<=P/\∀f:Nat,inS v.1 f↔(f:Int)<v.2/\prs p f) (μ:=Q3j p) ⟨U_0,fG 0,by show(0:Int)<=_;omega,λf=>⟨λx=>absurd x (inS0 f),λx=>by have:=x.1;change(f:Int)<0 at this;omega⟩⟩ (cL _) (λv hv=>?_)
 obtain⟨v1,v2,v3,v4⟩:=hv
 refine w_br (λhb=>?_) (λhb=>⟨v1,λf=>?_⟩)
 ·have hb:=oY hb
  refine w_cn (by show(_&&decide _)=true;simp[bJ];omega) ?_
  obtain⟨k,hk⟩:∃k:Nat,v.2=k:=⟨v.2.toNat,by omega⟩
  have hk32:k<32:=by omega
  have e1:v.2.toNat=k:=by omega
  have e2:wrap .i64 (v.2+1)=v.2+1:=w64 (by omega) (by omega)
  have m1:∀{l:Int},(Q3j p (l,wrap .i64 (v.2+1)))<Q3j p v:=fun{l}=>by
   rw[e2];unfold Q3j;dsimp only;omega
  have n1:0<=wrap .i64 (v.2+1)/\wrap .i64 (v.2+1)<=P:=by rw[e2];omega
  refine w_br (λht=>w_cn (dY v2) (w_nx ⟨⟨U_or _ _,n1.1,n1.2,λf=>?_⟩,m1⟩)) (λht=>w_nx ⟨⟨v1,n1.1,n1.2,λf=>?_⟩,m1⟩)
  ·show inS (ior .u32 v.1 (ishl .u32 1 v.2)) f↔(f:Int)<wrap .i64 (v.2+1)/\prs p f
   rw[e1]at ht
   rw[e2,hk,Zev hk32,Z2x v1 ⟨fB _,Int.ofNat_lt.2 (qk hk32)⟩,v4]
   have e3:inS ((2^k:Nat):Int) f↔f=k:=by
    unfold inS
    rw[dZ,fC]
    simp[eq_comm]
   rw[e3]
   constructor
   ·rintro(⟨a,b⟩|a)
    ·exact⟨by omega,b⟩
    ·subst a;exact⟨by omega,ht⟩
   ·rintro⟨a,b⟩
    by_cases e:f=k
    ·exact .inr e
    ·exact .inl ⟨by omega,b⟩
  ·show inS v.1 f↔(f:Int)<wrap .i64 (v.2+1)/\prs p f
   rw[e1]at ht
   rw[e2,v4]
   constructor
   ·rintro⟨a,b⟩;exact⟨by omega,b⟩
   ·rintro⟨a,b⟩
    refine⟨?_,b⟩
    by_cases e:f=k
    ·subst e;unfold prs at b;rw[b]at ht;cases ht
    ·omega
 ·have hb:=oN hb
  rw[v4]
  refine⟨λx=>x.2,λx=>⟨?_,x⟩⟩
  unfold prs at x
  by_cases e:f<p.A7.length
  ·omega
  ·rw[List.getD_eq_getElem?_getD,List.getElem?_eq_none (by omega)]at x;cases x
theorem needsP:Q8 p.A1:=(Tree.pp (qG h.g.v h.g.ok.mem)).1
theorem Zfh:Q6c p:=(Tree.pp (Z8e h)).1
theorem Qwp:U (Q4i p)/\∀f,inS (Q4i p) f↔prs p f:=(Tree.pp (Z8e h)).2
end
theorem ql{P:Nat}{m:Q00}(g:good P m):U (Q20 m)/\∀f,inS (Q20 m) f->f<P:=by
 have both:∀S:Int,(U S/\∀f,inS S f->f<P)->(U S/\∀f,inS S f->f<P):=λ_ h=>h
 cases hr:Q1g m
 ·have:=Zig (b:=m) (m:=m.Mem) (show Q1g (setMem m m.Mem)=false from hr)
  change Q20 m=0 at this
  rw[this];exact⟨U_0,λf hf=>absurd hf (inS0 f)⟩
 ·have:=xk (b:=m) (m:=m.Mem) (show okV (setMem m m.Mem) from g.v) (show Q1g (setMem m m.Mem)=true from hr)
  change Q20 m=nd m (Q0e m) m.Mem at this
  have hc:=vF (b:=m) (m:=m.Mem) (n:=m.Mem) (D:=λ_=>True) g.ok.mem g.ok.mem (show okV (setMem m m.Mem) from g.v) (show okV (setMem m m.Mem) from g.v) (λ_ _=>rfl) (show Q1g (setMem m m.Mem)=true from hr)
  change Q24 (Q0e m)at hc
  have hm:=g.ok.mem
  have sg:∀{f:Int},U f->∀g,inS (Q0u m.Mem f) g->g<P:=λhf g hg=>by have:=((Qb0 hm hf).2 g).1 hg;omega
  have au:∀{l:List Int},Q0n P l->∀{v:Int},U v->∀s k g,inS (Q0p (Q0e m) l v s k) g->g<P:=fun{l} ol {v} hv s k g=>by
   have sl:∀{f:Int},U f->inS (Q0u l f) g->g<P:=λhf hg=>by have:=((Qb0 ol hf).2 g).1 hg;omega
   rw[Z3x]
   cases dA v s !=0
   case true=>intro hf;exact absurd hf (inS0 g)
   cases Q30 (Q0e m)
   case false=>exact sl (Q0l _)
   cases iand .u32 (Q0e m).B3.a0 4==0
   case true=>exact sl (Q0l _)
   cases decide (v>=4096)
   case true=>intro hf;exact absurd hf (inS0 g)
   show inS (bif _==0 then _ else _) g->_
   cases(Q2m l (Q0e m).B3.a6 v k).D6==0
   ·exact sl hc.a6
   ·intro hf
    rcases(Z2x (Qb0 ol hc.a6).1 (sgV_U ol _) g).1 hf with hf|hf
    ·exact sl hc.a6 hf
    ·exact sl (Q0l _) hf
  obtain⟨_,o1⟩:=(Tree.pp (Qr8 hm hc)).2
  change Q0n P (Q1i (Q0e m) m.Mem).2.1 at o1
  have ou:∀f,inS (Q1h m (Q0e m) (Q1i (Q0e m) m.Mem).2.1 (Q1j (Q1i (Q0e m) m.Mem).1).1) f->f<P:=λf=>by
   rw[Zfd]
   generalize(Q1j (Q1i (Q0e m) m.Mem).1).1=i
   cases i.Op==32
   case true=>exact au o1 (Q0l _) 4 2 f
   cases i.Op==33
   case true=>exact au o1 (Q0l _) 1 2 f
   cases i.Op==34
   case true=>exact au o1 (Q0l _) 1 2 f
   cases i.Op==35
   case true=>exact au o1 (Q0l _) 4 3 f
   cases i.Op==36
   case true=>exact au o1 (Q0l _) 1 3 f
   cases i.Op==61
   case false=>intro hf;exact absurd hf (inS0 f)
   show inS (Qdh m _ _) f->_
   have hu:=hc.r (dB (iand .i64 i.A 15))
   generalize aK (A16.l (Q0e m).X) (dB (iand .i64 i.A 15)) 0=w at*
   show Tree.V (Q3z m (wrap .i64 i.Imm) w) (λS=>inS S f->f<P)
   unfold Q3z
   have z:inS 0 f->f<P:=λhf=>absurd hf (inS0 f)
   refine v_br (λ_=>v_br (λ_=>v_br (λ_=>v_br (λ_=>v_an (v_lv λx hx=>v_lf ?_)) λ_=>v_lf z) λ_=>v_lf z) λ_=>v_lf z) λ_=>v_br (λ_=>v_br (λ_=>v_br (λ_=>v_br (λ_=>v_an (v_lv λx hx=>v_lf ?_)) λ_=>v_lf z) λ_=>v_lf z) λ_=>v_lf z) λ_=>v_br (λ_=>v_an (v_lv λx hx=>v_lf ?_)) λ_=>v_lf z
   ·rw[hx];exact sg g.ok.disk.frame f
   ·rw[hx];exact sg g.ok.nic.frame f
   ·rw[hx];intro hf
    exact sg hu f ((Z7h (Qb0 hm hu).1 g.ok.target.2 f).1 hf).1
  rw[this,nd_eq]
  have a1:=Zeq hm hc hc.pc 4 1
  have a2:=qal o1 hm g.ok.disk g.ok.nic hc (Q1j (Q1i (Q0e m) m.Mem).1).1
  cases goes (Q0e m) (Q1i (Q0e m) m.Mem).1 (Q1i (Q0e m) m.Mem).2.2
  ·exact⟨a1,au hm hc.pc 4 1⟩
  ·exact⟨U_or _ _,λf hf=>((Z2x a1 a2 f).1 hf).elim (au hm hc.pc 4 1 f) (ou f)⟩
def zers(P:Nat):List Int:=cM (32*P) 0
theorem yZ{P:Nat}(h:P<=32):Q0n P (zers P):=⟨by simp[zers],by omega,h,λw hw=>by rw[(List.mem_replicate.1 hw).2];exact U_0⟩
theorem good.setMem{P:Nat}{m:Q00}(g:good P m){l:List Int}(hl:Q0n P l):good P (setMem m l):=
 ⟨⟨g.ok.cpu,hl,g.ok.disk,g.ok.nic,g.ok.target,g.ok.cnt⟩,(xZ (b:=m) hl g.ok.mem).trans g.may⟩
def begF(P:Nat)(m:Q00):Q03:={A1:=setMem m (zers P),A7:=cM P false,D0:=0,C4:=0}
theorem vZ{P:Nat}{m:Q00}(g:good P m)(hP:0<P):(Q7i m).w (λr=>r=(begF P m,true)):=by
 have h32:=g.ok.mem.p2
 have ew:wrap .i64 ((P:Int)*32)=32*P:=by rw[w64 (by omega) (by omega)];omega
 have nw:(Qdt (P:Int)).w (λr=>r=zers P):=by
  unfold Qdt
  refine w_br (λhb=>?_) λ_=>w_br (λhb=>?_) λ_=>w_cn ?_ ?_
  ·have:=oY hb;omega
  ·have:=oY hb;omega
  ·rw[ew];simp[bJ,D.plain];omega
  ·show cM (wrap .i64 ((P:Int)*32)).toNat 0=zers P
   rw[ew];unfold zers;congr 1
 unfold Q7i
 refine w_an (Tree.pp (Z8t g.ok.target.2)).1 (w_lv λx0 h0=>w_br (λhb=>?_) λ_=>w_lv λx1 h1=>?_)
 ·rw[h0,g.may]at hb;cases hb
 ·have h1:x1=(P:Int):=h1.trans (Q26 g.ok.mem)
  subst h1
  refine Q0b nw λx2 h2=>w_cn ?_ ?_
  ·simp[bJ,D.plain];omega
  ·subst h2
   show(_,true)=(_,true)
   unfold begF setMem
   simp
theorem y0{P:Nat}{m:Q00}(g:good P m)(hP:0<P):okP P (begF P m):=⟨g.setMem (yZ g.ok.mem.p2),hP,by simp[begF],fG 0,by show(0:Int)<P;omega,fG 0,by show(0:Int)<=_;omega⟩
def ms(p:Q03):Int:=Q7f .u32 (Q20 p.A1) (Q4i p)
def msF(p:Q03)(e:Q0s):Int:=Q7f .u32 (Q6l p.A1 e) (Q4i p)
def fltF(p:Q03)(S:Int):Q03:={A1:=p.A1,A7:=p.A7,D0:=Q0k S,C4:=wrap .i64 (p.C4+1)}
def stpF(p:Q03)(clock:Int):Q03×List Q0d×Bool:=bif ms p !=0 then(fltF p (ms p),[],false)else({A1:=(Q22 p.A1 clock).1,A7:=p.A7,D0:=p.D0,C4:=p.C4},(Q22 p.A1 clock).2,true)
def appF(p:Q03)(e:Q0s):Q03×Bool:=bif msF p e !=0 then(fltF p (msF p e),false)else({A1:=(Q1m p.A1 e).1,A7:=p.A7,D0:=p.D0,C4:=p.C4},(Q1m p.A1 e).2)
theorem for_U{P:Nat}{m:Q00}(g:good P m)(e:Q0s):U (Q6l m e):=by
 rw[zk]
 cases e.C1==4
 ·cases e.C1==5
  ·exact U_0
  ·cases(Q1m m e).2
   ·exact U_0
   ·exact(Qb0 g.ok.mem g.ok.nic.buffer).1
 ·cases(Q1m m e).2
  ·exact U_0
  ·cases e.N==1
   ·exact U_0
   ·cases m.B1.D5==1
    ·exact U_0
    ·exact(Qb0 g.ok.mem g.ok.disk.opFrame).1
section
variable {P:Nat} {p:Q03} (h:okP P p)
include h
theorem qam:(Q5o p).w (λr=>r=bif ms p==0 then(0,false)else(Q0k (ms p),true)):=by
 unfold Q5o
 refine w_an (Z8u h) (w_lv λx0 h0=>w_br (λhb=>?_) λ_=>w_an (needsP h) (w_lv λx1 h1=>w_an (Zfh h) (w_lv λx2 h2=>?_)))
 ·rw[h0,h.valid]at hb;cases hb
 ·have e:Q7f .u32 x1 x2=ms p:=by rw[h1,h2];rfl
  refine w_br (λhb=>?_) λhb=>w_an ⟨(Qxy _ _).1,(Qxy _ _).2⟩ (w_lv λx3 h3=>?_)
  ·rw[e]at hb
   show(0,false)=_
   rw[hb];rfl
  ·rw[e]at hb h3
   show(x3,true)=_
   rw[hb,h3];rfl
theorem y3{S:Int}(hS:U S):(Q79 p S).w (λr=>r=fltF p S):=by
 unfold Q79
 refine w_an (Z4e h).1 (w_lv λx0 h0=>w_an ⟨hS.1,hS.2⟩ (w_lv λx1 h1=>?_))
 have h0:x0=p:=h0.trans (Z4e h).2
 subst h0;subst h1;rfl
theorem xl{clock:Int}(hc:U clock):(Q8u p clock).w (λr=>r=stpF p clock):=by
 unfold Q8u
 refine w_an (Z8u h) (w_lv λx0 h0=>w_br (λhb=>?_) λ_=>w_an (needsP h) (w_lv λx2 h2=>w_an (Zfh h) (w_lv λx3 h3=>?_)))
 ·rw[h0,h.valid]at hb;cases hb
 ·have e:Q7f .u32 x2 x3=ms p:=by rw[h2,h3];rfl
  refine w_br (λhb=>Q0b (y3 h (Qxy _ _)) λx4 h4=>?_) λhb=>w_an (Z4e h).1 (w_lv λx5 h5=>w_an (yj h.g.v h.g.len hc).1 (w_lv λx6 h6=>?_))
  ·rw[e]at hb h4
   show(x4,[],false)=_
   unfold stpF;rw[hb,h4];rfl
  ·rw[e]at hb
   have h5:x5=p:=h5.trans (Z4e h).2
   subst h5;subst h6
   show _=_
   unfold stpF;rw[hb];rfl
def arrF(p:Q03)(f:Int)(s:List UInt8):Q03:={A1:=setMem p.A1 (Q0y p.A1.Mem f s).1,A7:=p.A7.set f.toNat true,D0:=p.D0,C4:=p.C4}
theorem zl{c:Q36}(hl:0<=c.Frame->c.Frame<P->c.C8.length=128):(Q6i p c).w (λr=>(r=(p,false)/\(c.Frame<0\/(P:Int)<=c.Frame\/prs p c.Frame.toNat))\/(r=(arrF p c.Frame c.C8,true)/\0<=c.Frame/\c.Frame<P/\¬prs p c.Frame.toNat)):=by
 have hp:=h.pres
 unfold Q6i
 refine w_an (Z4e h).1 (w_lv λx0 h0=>w_an (Z8u h) (w_lv λx1 h1=>w_br (λhb=>?_) λ_=>?_))
 ·rw[h1,h.valid]at hb;cases hb
 have h0:x0=p:=h0.trans (Z4e h).2
 subst h0
 refine w_br (λhb=>?_) λhb=>w_br (λhb2=>?_) λhb2=>?_
 ·exact .inl ⟨rfl,.inl (oY hb)⟩
 ·exact .inl ⟨rfl,.inr (.inl (by have:=oY hb2;omega))⟩
 have f0:0<=c.Frame:=by have:=oN hb;omega
 have f1:c.Frame<P:=by have:=oN hb2;omega
 refine w_cn (dY (by omega)) (w_br (λht=>.inl ⟨rfl,.inr (.inr ht)⟩) λht=>w_an (Tree.pp (Qr4 h.g.ok.mem c.Frame c.C8)).1 (w_lv λx2 h2=>w_br (λhb3=>?_) λ_=>w_cn (dY (by omega)) ?_))
 ·rw[h2,(setPg h.g.ok.mem f0 f1 (hl f0 f1)).1]at hb3;cases hb3
 ·refine .inr ⟨?_,f0,f1,λe=>by unfold prs at e;rw[e]at ht;cases ht⟩
  subst h2;rfl
def ksF(p:Q03)(n:Nat):List Nat:=(cY n).filter λk=>!p.A7.getD ((p.D0.toNat+k)%p.A7.length) false
def frm(p:Q03)(k:Nat):Int:=(((p.D0.toNat+k)%p.A7.length:Nat):Int)
def Qk4(p:Q03)(most:Int):List Int:=((ksF p p.A7.length).map (frm p)).take most.toNat
omit h in
theorem Zdr(p:Q03)(n:Nat):ksF p (n+1)=ksF p n++(if p.A7.getD ((p.D0.toNat+n)%p.A7.length) false=false then[n]else[]):=by
 unfold ksF
 rw[fH,List.filter_append]
 congr 1
 cases hq:p.A7.getD ((p.D0.toNat+n)%p.A7.length) false
 ·simp only[fI,fJ,hq];rfl
 ·simp only[fI,fJ,hq];rfl
omit h in
theorem zam(p:Q03)(n:Nat):(ksF p n).length<=n:=by
 unfold ksF
 exact bH (List.length_filter_le _ _) (by simp)
theorem xP(most:Int):(Q8m p most).w (λr=>r=Qk4 p most):=by
 have hp:=h.pres;have h32:=h.P32;have hpos:=h.pos;have l0:=h.last0;have l1:=h.last1
 unfold Q8m
 refine w_an (Z8u h) (w_lv λx0 h0=>w_br (λhb=>?_) λ_=>?_)
 ·rw[h0,h.valid]at hb;cases hb
 refine w_lp (inv:=λv=>∃n:Nat,v.1=n/\n<=P/\v.2=((ksF p n).map (frm p)).take most.toNat) (μ:=Q57 p most) ⟨0,rfl,by omega,by simp[ksF]⟩ (cL _) (λv hv=>?_)
 obtain⟨n,v1,v2,v3⟩:=hv
 obtain⟨i,l⟩:=v
 have v1:i=(n:Int):=v1
 subst v1
 have v3:l=_:=v3
 have lk:=zam p n
 have ll:l.length<=32:=by rw[v3];simp;omega
 refine w_br (λhb=>?_) λhb=>?_
 ·have hb:=oY hb
  have hn:n<P:=by have:(n:Int)<(p.A7.length:Int):=hb;omega
  have ei:wrap .i64 ((n:Int)+1)=((n+1:Nat):Int):=by rw[w64 (by omega) (by omega)];omega
  have ef:dA (wrap .i64 (p.D0+(n:Int))) (p.A7.length:Int)=frm p n:=by
   rw[w64 (by omega) (by omega),Int.tmod_eq_emod_of_nonneg (by omega)]
   unfold frm
   rw[Int.natCast_emod]
   congr 1
   omega
  have fr0:0<=frm p n/\frm p n<P:=by
   unfold frm
   have:=Nat.mod_lt (p.D0.toNat+n) (show 0<p.A7.length by omega)
   omega
  have et:(frm p n).toNat=(p.D0.toNat+n)%p.A7.length:=rfl
  have mu:∀l',Q57 p most (wrap .i64 ((n:Int)+1),l')<Q57 p most ((n:Int),l):=λl'=>by
   rw[ei];unfold Q57;dsimp only;omega
  have go:∀l',l'=((ksF p (n+1)).map (frm p)).take most.toNat->∃q:Nat,wrap .i64 ((n:Int)+1)=q/\q<=P/\l'=((ksF p q).map (frm p)).take most.toNat:=λl' e=>⟨n+1,ei,by omega,e⟩
  refine w_cn (dY (by show(p.A7.length:Int)≠0;omega)) (w_br (λhm=>w_cn ?_ (w_br (λht=>w_cn ?_ (w_nx ⟨go _ ?_,mu _⟩)) λht=>w_nx ⟨go _ ?_,mu _⟩)) λhm=>w_nx ⟨go _ ?_,mu _⟩)
  ·show(_&&decide (0<=dA (wrap .i64 (p.D0+(n:Int))) (p.A7.length:Int)/\dA (wrap .i64 (p.D0+(n:Int))) (p.A7.length:Int)<(p.A7.length:Int)))=true
   rw[ef];simp[bJ];omega
  ·exact dY (by show 8*(l.length+1)<=_;omega)
  ·show l++[dA (wrap .i64 (p.D0+(n:Int))) (p.A7.length:Int)]=_
   have ht:(!p.A7.getD (dA (wrap .i64 (p.D0+(n:Int))) (p.A7.length:Int)).toNat false)=true:=ht
   rw[ef,et]at ht
   have ht:p.A7.getD ((p.D0.toNat+n)%p.A7.length) false=false:=by simpa using ht
   have hm:(l.length:Int)<most:=oY hm
   rw[ef,Zdr,if_pos ht,v3]
   rw[v3]at hm
   rw[bD,fK]at hm
   rw[bL,fL,fK,fM (by rw[fK];omega)]
   congr 1
   rw[fM (by simp;omega)]
   rfl
  ·show l=_
   have ht:(!p.A7.getD (dA (wrap .i64 (p.D0+(n:Int))) (p.A7.length:Int)).toNat false)=false:=ht
   rw[ef,et]at ht
   have ht:p.A7.getD ((p.D0.toNat+n)%p.A7.length) false=true:=by simpa using ht
   rw[Zdr,if_neg (by rw[ht];decide),List.append_nil];exact v3
  ·show l=_
   have hm:¬(l.length:Int)<most:=oN hm
   rw[v3]at hm⊢
   rw[bD,fK]at hm
   rw[Zdr,bL,fL,fK,show most.toNat-(ksF p n).length=0 by omega]
   simp
 ·have hb:¬(n:Int)<(p.A7.length:Int):=oN hb
  have:n=p.A7.length:=by omega
  show l=_
  rw[v3,this];rfl
omit h in
theorem y4(s:List Bool)(hs:s.length<=1000):(Q2u s false).w (λr=>r>=0↔ ∃i,i<s.length/\s.getD i false=false):=by
 unfold Q2u
 refine w_lp (inv:=λv=>0<=v/\v<=s.length/\∀i:Nat,(i:Int)<v->s.getD i false=true) (μ:=Q83 s false) ⟨fG 0,by omega,λi hi=>by omega⟩ (cL _) (λv hv=>?_)
 obtain⟨v1,v2,v3⟩:=hv
 refine w_br (λhb=>?_) λhb=>?_
 ·have hb:=oY hb
  refine w_cn (by show(_&&decide _)=true;simp[bJ];omega) (w_br (λht=>?_) λht=>w_nx ?_)
  ·refine⟨λ_=>⟨v.toNat,by omega,?_⟩,λ_=>v1⟩
   exact(eq_of_beq ht).symm
  ·have e:wrap .i64 (v+1)=v+1:=w64 (by omega) (by omega)
   show(0<=wrap .i64 (v+1)/\wrap .i64 (v+1)<=s.length/\∀i:Nat,(i:Int)<wrap .i64 (v+1)->s.getD i false=true)/\((s.length:Int)-wrap .i64 (v+1)).toNat<((s.length:Int)-v).toNat
   rw[e]
   refine⟨⟨by omega,by omega,λi hi=>?_⟩,by omega⟩
   by_cases hi2:(i:Int)<v
   ·exact v3 i hi2
   ·have:i=v.toNat:=by omega
    subst this
    cases hq:s.getD v.toNat false
    ·rw[hq]at ht;cases ht
    ·rfl
 ·have hb:=oN hb
  show(-1:Int)>=0↔_
  refine⟨λx=>by omega,fun⟨i,h1,h2⟩=>?_⟩
  rw[v3 i (by omega)]at h2;cases h2
theorem zP:(Q9 p).w (λr=>r=true↔ ∀f,f<P->prs p f):=by
 have hp:=h.pres;have h32:=h.P32
 unfold Q9
 refine w_an (Z8u h) (w_lv λx0 h0=>w_br (λ_=>?_) λhb=>?_)
 ·have cw:(Q29 p.A7 false).w (λr=>r=true↔ ∃i,i<p.A7.length/\p.A7.getD i false=false):=by
   unfold Q29
   refine Q0b (y4 p.A7 (by omega)) λx hx=>?_
   show decide (x>=0)=true↔_
   rw[decide_eq_true_eq];exact hx
  refine Q0b cw λx1 h1=>?_
  show(!x1)=true↔_
  constructor
  ·intro hx f hf
   unfold prs
   cases hq:p.A7.getD f false
   ·have:=h1.2 ⟨f,by omega,hq⟩
    rw[this]at hx;cases hx
   ·rfl
  ·intro hx
   cases hq:x1
   ·rfl
   ·obtain⟨i,a,b⟩:=h1.1 hq
    have:=hx i (by omega)
    unfold prs at this
    rw[this]at b;cases b
 ·rw[h0,h.valid]at hb;cases hb
end
theorem tz_in{S:Int}(hS:U S)(h0:S≠0):0<=Q0k S/\inS S (Q0k S).toNat:=by
 obtain⟨c1,c2,_⟩:=yk (x:=S.toNat) (by have:=hS.1;omega) (by have:=hS.2;omega)
 rw[xal]
 exact⟨by omega,by show S.toNat.testBit _=true;rw[dZ];exact c2⟩
theorem ms_in{P:Nat}{p:Q03}(h:okP P p)(f:Nat):inS (ms p) f↔inS (Q20 p.A1) f/\¬prs p f:=by
 unfold ms
 rw[Z7h (ql h.g).1 (Qwp h).1,(Qwp h).2]
theorem xam{P:Nat}{p:Q03}(h:okP P p)(e:Q0s)(f:Nat):inS (msF p e) f↔inS (Q6l p.A1 e) f/\¬prs p f:=by
 unfold msF
 rw[Z7h (for_U h.g e) (Qwp h).1,(Qwp h).2]
theorem qan{P:Nat}{m:Q00}(g:good P m)(e:Q0s)(f:Nat)(hf:inS (Q6l m e) f):f<P:=by
 have sg:∀{x:Int},U x->inS (Q0u m.Mem x) f->f<P:=λhx hg=>by have:=((Qb0 g.ok.mem hx).2 f).1 hg;omega
 rw[zk]at hf
 cases h4:e.C1==4
 ·rw[h4]at hf
  cases h5:e.C1==5
  ·rw[h5]at hf;exact absurd hf (inS0 f)
  ·rw[h5]at hf
   cases h6:(Q1m m e).2
   ·rw[h6]at hf;exact absurd hf (inS0 f)
   ·rw[h6]at hf;exact sg g.ok.nic.buffer hf
 ·rw [h4]at hf
  cases h6:(Q1m m e).2
  ·rw[h6]at hf;exact absurd hf (inS0 f)
  ·rw[h6]at hf
   cases h7:e.N==1
   ·rw[h7]at hf;exact absurd hf (inS0 f)
   ·rw[h7]at hf
    cases h8:m.B1.D5==1
    ·rw[h8]at hf;exact absurd hf (inS0 f)
    ·rw[h8]at hf;exact sg g.ok.disk.opFrame hf
theorem okP.flt{P:Nat}{p:Q03}(h:okP P p)(hf:p.C4<1000000){S:Int}(hS:U S)(h0:S≠0)(hl:∀f,inS S f->f<P):okP P (fltF p S):=by
 obtain⟨a,b⟩:=tz_in hS h0
 have c:=hl _ b
 have f0:=h.flt0
 have e:wrap .i64 (p.C4+1)=p.C4+1:=w64 (by omega) (by omega)
 exact⟨h.g,h.pos,h.pres,a,by show Q0k S<P;omega,by show 0<=wrap .i64 (p.C4+1);rw[e];omega,by show wrap .i64 (p.C4+1)<=_;rw[e];omega⟩
theorem okP.stp{P:Nat}{p:Q03}(h:okP P p)(hf:p.C4<1000000){clock:Int}(hc:U clock):okP P (stpF p clock).1:=by
 unfold stpF
 cases h0:ms p !=0
 ·exact⟨(Zi h.g hc).1,h.pos,h.pres,h.last0,h.last1,h.flt0,h.flt1⟩
 ·exact h.flt hf (Qxy _ _) (by simpa using h0) λf hf=>(ql h.g).2 f ((ms_in h f).1 hf).1
theorem okP.app{P:Nat}{p:Q03}(h:okP P p)(hf:p.C4<1000000){e:Q0s}(he:U e.N):okP P (appF p e).1:=by
 unfold appF
 cases h0:msF p e !=0
 ·exact⟨Zcv h.g he,h.pos,h.pres,h.last0,h.last1,h.flt0,h.flt1⟩
 ·exact h.flt hf (Qxy _ _) (by simpa using h0) λf hf=>qan h.g e f ((xam h e f).1 hf).1
theorem okP.arr{P:Nat}{p:Q03}(h:okP P p){f:Int}(f0:0<=f)(f1:f<P){s:List UInt8}(hs:s.length=128):okP P (arrF p f s):=
 ⟨h.g.setMem (setPg h.g.ok.mem f0 f1 hs).2.1,h.pos,by show(p.A7.set _ _).length=P;rw[List.length_set];exact h.pres,h.last0,h.last1,h.flt0,h.flt1⟩
theorem xG{P:Nat}{l:List Int}(h:Q0n P l){f:Int}(f0:0<=f)(f1:f<P):(Q33 l f).1.length=128/\isPg l f (Q33 l f).1:=by
 obtain⟨a1,a2⟩:=(Tree.pp (Zch h f0 f1)).2
 exact⟨a1.1,a1⟩
theorem Zam:Qfv=true:=by kernel_rfl
theorem Zfz:Q86:=by
 have:Qbg.w (λ_=>True):=by
  unfold Qbg
  obtain⟨a,_⟩:=Qu3 2 [0] (by decide) (by decide)
  refine w_an (Tree.pp (Z7z 2 [0] (by decide))).1 (w_lv λx0 h0=>?_)
  rw[<-h0]at a
  refine Q0b (vZ a (by decide)) λx1 h1=>?_
  have o1:okP 8 x1.1:=by rw[h1];exact y0 a (by decide)
  have f1:x1.1.C4=0:=by rw[h1];rfl
  have l1:x1.1.C4<1000000:=by omega
  refine Q0b (qam o1) λx2 _=>Q0b (xl o1 U_0) λx3 h3=>?_
  have o3:okP 8 x3.1:=by rw[h3];exact o1.stp l1 U_0
  have l3:x3.1.C4<1000000:=by
   rw[h3];unfold stpF
   cases ms x1.1 !=0
   ·exact l1
   ·show wrap .i64 (x1.1.C4+1)<1000000
    rw[f1];decide
  have pl:=(xG (f:=0) a.ok.mem (by decide) (by decide)).1
  refine w_an (Tree.pp (Z5a a.ok.mem 0)).1 (w_lv λx4 h4=>?_)
  rw[<-h4]at pl
  refine Q0b (zl o3 (c:={Frame:=0,C8:=x4.1}) λ_ _=>pl) λx5 h5=>?_
  have o5:okP 8 x5.1/\x5.1.C4<1000000:=by
   rcases h5 with⟨e,_⟩|⟨e,q0,q1,_⟩
   ·rw[e];exact⟨o3,l3⟩
   ·rw[e];exact⟨o3.arr q0 q1 pl,l3⟩
  refine Q0b (xl o5.1 U_0) λx6 h6=>Q0b (xP o5.1 2) λx7 h7=>?_
  have o6:okP 8 x6.1:=by rw[h6];exact o5.1.stp o5.2 U_0
  refine w_br (λ_=>w_br (λ_=>w_br (λ_=>w_br (λ_=>w_br (λ_=>w_br (λ_=>w_br (λ_=>w_br (λ_=>w_br (λhb=>w_cn ?_ (w_br (λ_=>Q0b (zP o6) λx8 _=>trivial) λ_=>trivial)) λ_=>trivial) λ_=>trivial) λ_=>trivial) λ_=>trivial) λ_=>trivial) λ_=>trivial) λ_=>trivial) λ_=>trivial) λ_=>trivial
  have:(x7.length:Int)=2:=eq_of_beq hb
  exact dY (by omega)
 exact(Tree.pp this).1
theorem aw31{W:Bool->Prop}(h:W true):(Tree.an Q86 (.lv Qfv λx=>.lf x)).w W:=w_an Zfz (w_lv λx e=>by show W x;rw[e,Zam];exact h)
theorem round8(n:Int):Q38 n 8=n%8:=by
 have h1:=Int.tmod_lt_of_pos n (show(0:Int)<8 by decide)
 have h2:=Int.lt_tmod_of_pos n (show(0:Int)<8 by decide)
 have h3:=Int.tmod_add_mul_tdiv n 8
 have he:Q38 n 8=bif decide (dA n 8<0)then wrap .i64 (dA n 8+8)else dA n 8:=rfl
 rw[he]
 cases h:decide (dA n 8<0)
 ·have h:=oN h
  simp only[cond_false];omega
 ·have h:=oY h
  simp only[cond_true]
  rw[w64 (by omega) (by omega)];omega
def pb(missing k:Int):Int:=iand .u32 (ishr .u32 missing (wrap .u64 k)) 1
theorem zan(missing k:Int):pb missing k=0\/pb missing k=1:=by
 have u:U (ishr .u32 missing (wrap .u64 k))\/True:=.inr trivial
 unfold pb iand
 have hb:u32.bits=32:=rfl
 rw[hb]
 have h1:(dS 32 (ishr .u32 missing (wrap .u64 k))&&&dS 32 1).toNat<=1:=by
  rw[BitVec.toNat_and]
  exact bH fF (by decide)
 generalize(dS 32 (ishr .u32 missing (wrap .u64 k))&&&dS 32 1).toNat=N at*
 rw[wrap_u32]
 omega
def pl(missing:Int)(n:Nat):List Bool:=(cY n).map λk:Nat=>pb missing k==0
theorem yl(missing:Int)(n:Nat):pl missing (n+1)=pl missing n++[pb missing n==0]:=by
 unfold pl;rw[fH,bL];rfl
theorem vl(missing:Int)(n:Nat):(pl missing n).length=n:=by simp[pl]
theorem qm(missing:Int){n f:Nat}(h:f<n):(pl missing n).getD f false=(pb missing f==0):=by simp[pl,aK,h]
theorem Zf8{q:Nat->Bool}(n:Nat):(cY (n+1)).countP q=(cY n).countP q+if q n then 1 else 0:=by
 rw[fH,List.countP_append];simp[List.countP_cons]
theorem zG:∀a,a<8->((cY 8).map λk=>(a+k)%8).Perm (cY 8):=by decide
section
variable {p:Q03} (h:okP 8 p)
include h
theorem ks8:(ksF p 8).length=(cY 8).countP λf=>!p.A7.getD f false:=by
 have l0:=h.last0;have l1:=h.last1;have hp:=h.pres
 unfold ksF
 rw[<-List.countP_eq_length_filter,hp]
 have:=(zG p.D0.toNat (by omega)).countP_eq (λf=>!p.A7.getD f false)
 rw[List.countP_map]at this
 exact this
theorem ks_in(i:Nat)(hi:i<(ksF p 8).length):(ksF p 8).getD i 0<8/\p.A7.getD ((p.D0.toNat+(ksF p 8).getD i 0)%8) false=false:=by
 have hm:(ksF p 8).getD i 0∈ksF p 8:=by simp[aK,hi,List.getElem_mem]
 generalize(ksF p 8).getD i 0=k at*
 unfold ksF at hm
 rw[List.mem_filter,fN,h.pres]at hm
 exact⟨hm.1,by simpa using hm.2⟩
omit h in
theorem y5(i:Nat)(hi:i+1<(ksF p 8).length):(ksF p 8).getD i 0<(ksF p 8).getD (i+1) 0:=by
 have:(ksF p 8).Pairwise (· < ·):=List.Pairwise.filter _ List.pairwise_lt_range
 rw[List.pairwise_iff_getElem]at this
 have:=this i (i+1) (by omega) hi (by omega)
 simpa[aK,hi,show i<(ksF p 8).length by omega]using this
theorem frm8(k:Nat):frm p k=(p.D0+k)%8:=by
 have l0:=h.last0;have l1:=h.last1;have hp:=h.pres
 unfold frm
 rw[hp]
 omega
theorem Zey(most:Int)(i:Nat)(hi:i<(Qk4 p most).length):(Qk4 p most).getD i 0=frm p ((ksF p 8).getD i 0)/\i<(ksF p 8).length:=by
 have hp:=h.pres
 have e:Qk4 p most=((ksF p 8).map (frm p)).take most.toNat:=by unfold Qk4;rw[hp]
 rw[e]at hi⊢
 rw[bD,fK]at hi
 have h1:i<(ksF p 8).length:=by omega
 refine⟨?_,h1⟩
 simp only[aK,List.getElem?_take,List.getElem?_map]
 rw[if_pos (by omega)]
 simp[h1]
theorem yG(most:Int):(Qk4 p most).length=min most.toNat (ksF p 8).length:=by
 unfold Qk4;rw[h.pres,bD,fK]
end
theorem pushes31(kind:Int)(prog:List Int)(missing last most:Int)(hl:prog.length*8<=reachBytes):Qej kind prog missing last most/\Qee kind prog missing last most=true:=by
 refine Tree.pp (t:=Q5y kind prog missing last most) (W:=λr=>r=true) ?_
 unfold Q5y
 refine w_br (λ_=>aw31 rfl) λh60=>?_
 have h60:=oN h60
 obtain⟨g,_⟩:=Qu3 kind prog hl (by omega)
 refine w_an (Tree.pp (Z7z kind prog hl)).1 (w_lv λx1 h1=>w_lv λx2 h2=>?_)
 rw[<-h1]at g
 have h2:x2=8:=h2.trans (Q26 g.ok.mem)
 subst h2
 refine w_an (Qbp (by decide)) (w_lv λx3 h3=>?_)
 have h3:x3=Q38 last 8:=h3
 obtain⟨f0,f1⟩:=Qxp (n:=last) (k:=8) (by decide) (by decide)
 rw[<-h3]at f0 f1
 refine w_lp (inv:=λv=>∃n:Nat,n<=8/\v.2.1=n/\v.1=((cY n).countP (λf:Nat=>!(pb missing f==0)):Nat)/\v.2.2=pl missing n) (μ:=Qc1 kind prog missing last most) ⟨0,by decide,rfl,rfl,rfl⟩ (cL _) (λv hv=>?_)
 obtain⟨n,v0,v1,v2,v3⟩:=hv
 obtain⟨many,i,l⟩:=v
 have v1:i=(n:Int):=v1
 have v2:many=_:=v2
 have v3:l=pl missing n:=v3
 subst v1;subst v2;subst v3
 have wu:wrap .u64 (n:Int)=n:=by rw[wrap_u64];omega
 have c8:(cY n).countP (λf:Nat=>!(pb missing f==0))<=n:=bH List.countP_le_length (by simp)
 refine w_br (λhb=>?_) λhb=>?_
 ·have hb:(n:Int)<8:=oY hb
  have e1:wrap .i64 ((n:Int)+1)=((n+1:Nat):Int):=by rw[w64 (by omega) (by omega)];omega
  have pz:(0:Int)<=wrap .u64 (n:Int):=by rw[wu];omega
  refine w_cn (dY pz) (w_cn (dY (by show 1*((pl missing n).length+1)<=_;rw[vl];omega)) (w_cn (dY pz) (w_br (λhq=>w_nx ?_) λhq=>w_nx ?_)))
  ·have hq:pb missing n=1:=eq_of_beq hq
   refine⟨⟨n+1,by omega,e1,?_,?_⟩,?_⟩
   ·show wrap .i64 (_+1)=_
    rw[Zf8,hq,w64 (by omega) (by omega)]
    simp
   ·show pl missing n++[pb missing n==0]=_
    rw[yl]
   ·show(40-wrap .i64 ((n:Int)+1)).toNat<(40-(n:Int)).toNat
    rw[e1];omega
  ·have hq:pb missing n=0:=by
    rcases zan missing n with e|e
    ·exact e
    ·have hq:(pb missing n==1)=false:=hq
     rw[e]at hq;cases hq
   refine⟨⟨n+1,by omega,e1,?_,?_⟩,?_⟩
   ·show((cY n).countP (λf:Nat=>!(pb missing f==0)):Int)=_
    rw[Zf8,hq];simp
   ·show pl missing n++[pb missing n==0]=_
    rw[yl]
   ·show(40-wrap .i64 ((n:Int)+1)).toNat<(40-(n:Int)).toNat
    rw[e1];omega
 ·have hb:¬(n:Int)<8:=oN hb
  have:n=8:=by omega
  subst this
  have o:okP 8 {A1:=x1,A7:=pl missing 8,D0:=x3,C4:=0}:=⟨g,by decide,vl missing 8,f0,f1,fG 0,by show(0:Int)<=1000000;decide⟩
  have kc:=ks8 o
  have pe:(cY 8).countP (λf:Nat=>!(pl missing 8).getD f false)=(cY 8).countP (λf:Nat=>!(pb missing f==0)):=by
   refine List.countP_congr λf hf=>?_
   rw[qm missing (List.mem_range.1 hf)]
  rw[pe]at kc
  generalize hP:({A1:=x1,A7:=pl missing 8,D0:=x3,C4:=0}:Q03)=p at*
  generalize hM:(cY 8).countP (λf:Nat=>!(pb missing f==0))=M at*
  refine Q0b (xP o most) λx4 h4=>?_
  subst h4
  have pln:=yG o most
  rw[kc]at pln
  refine w_br (λhne=>?_) λ_=>?_
  ·refine absurd hne ?_
   have:((Qk4 p most).length:Int)=if(if(M:Int)<most then(M:Int)else most)>0 then(if(M:Int)<most then(M:Int)else most)else 0:=by
    rw[pln]
    split<;>split<;>omega
   simp only[bne_iff_ne,ne_eq]
   exactλe=>e this
  refine w_lp (inv:=λv=>0<=v/\v<=(Qk4 p most).length) (μ:=Q3k kind prog missing last most) ⟨fG 0,by omega⟩ (cL _) (λv hv=>?_)
  obtain⟨v0,v1⟩:=hv
  have rcv:∀w:Int,0<=w->w<((Qk4 p most).length:Int)->(Nat.beq 1 1&&bJ 0 1&&decide (0<=w/\w<((Qk4 p most).length:Int)))=true:=λw h0 h=>by simp[bJ];omega
  refine w_br (λhb=>?_) λhb=>?_
  ·have hb:=oY hb
   obtain⟨p1,p2⟩:=Zey o most v.toNat (by omega)
   obtain⟨p3,p4⟩:=ks_in o v.toNat p2
   have fe:=frm8 o ((ksF p 8).getD v.toNat 0)
   have q0:0<=(Qk4 p most).getD v.toNat 0/\(Qk4 p most).getD v.toNat 0<8:=by rw[p1,fe];omega
   have lst:p.D0=x3:=by rw[<-hP]
   have prs8:p.A7=pl missing 8:=by rw[<-hP]
   have nx:(0<=wrap .i64 (v+1)/\wrap .i64 (v+1)<=(Qk4 p most).length)/\Q3k kind prog missing last most (wrap .i64 (v+1))<Q3k kind prog missing last most v:=by
    have l8:(Qk4 p most).length<=8:=by rw[pln];omega
    unfold Q3k
    rw[w64 (by omega) (by omega)];omega
   refine w_cn (rcv v v0 hb) (w_br (λhq=>?_) λ_=>w_cn (rcv v v0 hb) (w_br (λhq=>?_) λ_=>w_cn (rcv v v0 hb) (w_cn ?_ (w_br (λhq=>?_) λ_=>w_br (λhq=>w_cn (rcv v v0 hb) (w_an (Qbp (by decide)) (w_lv λx5 h5=>w_cn ?_ (w_an (Qbp (by decide)) (w_lv λx6 h6=>w_br (λhc=>?_) λ_=>w_nx nx))))) λ_=>w_nx nx))))
   ·have hq:(Qk4 p most).getD v.toNat 0<0:=oY hq
    rw[p1,fe]at hq;omega
   ·have hq:(Qk4 p most).getD v.toNat 0>=8:=oY hq
    rw[p1,fe]at hq;omega
   ·have q1:0<=(Qk4 p most).getD v.toNat 0/\(Qk4 p most).getD v.toNat 0<((8:Nat):Int):=q0
    rw[vl,dY q1];rfl
   ·rw[<-prs8,p1]at hq
    have et:(frm p ((ksF p 8).getD v.toNat 0)).toNat=(p.D0.toNat+(ksF p 8).getD v.toNat 0)%8:=by
     unfold frm;rw[dZ,o.pres]
    rw[et,p4]at hq;cases hq
   ·have hq:=oY hq
    rw[w64 (by omega) (by omega)]
    exact rcv (v-1) (by omega) (by omega)
   ·have hq:=oY hq
    have hc:=oY hc
    rw[w64 (show-9223372036854775808<=v-1 by omega) (by omega)]at h6
    obtain⟨r1,r2⟩:=Zey o most (v-1).toNat (by omega)
    obtain⟨r3,_⟩:=ks_in o (v-1).toNat r2
    have re:=frm8 o ((ksF p 8).getD (v-1).toNat 0)
    have mo:=y5 (p:=p) (v-1).toNat (by rw[show(v-1).toNat+1=v.toNat by omega];exact p2)
    rw[show(v-1).toNat+1=v.toNat by omega]at mo
    rw[h5,h6,round8,round8,p1,r1,fe,re,lst,w64 (by omega) (by omega),w64 (by omega) (by omega)]at hc
    omega
  ·refine Q0b (zP o) λx7 h7=>w_br (λ_=>w_an Zfz (w_lv λx e=>by show x=true;rw[e,Zam])) λhq=>?_
   refine absurd ?_ (show¬(x7==((M:Int)==0))=true by rw[hq];decide)
   have prs8:p.A7=pl missing 8:=by rw[<-hP]
   have hm:M=0↔ ∀f,f<8->prs p f:=by
    rw[<-hM,List.countP_eq_zero]
    simp only[fN,Bool.not_eq_true',Bool.not_eq_false']
    constructor
    ·intro a f hf
     unfold prs
     rw[prs8,qm missing hf]
     have:=a f hf
     simpa using this
    ·intro a f hf
     have:=a f hf
     unfold prs at this
     rw[prs8,qm missing hf]at this
     simp[this]
   by_cases h0:M=0
   ·rw[h7.2 (hm.1 h0),h0];rfl
   ·cases hx:x7
    ·rw[show((M:Int)==0)=false from beq_false_of_ne (by omega)];rfl
    ·exact absurd (hm.2 (h7.1 hx)) h0

import Derived.Test.YthjfindbamdacaaGreatDoorPostNeedsFin1
open Nat renaming lt_succ_self->cL,testBit_two_pow->fD,testBit_lt_two_pow->fI,lt_of_lt_of_le->bI,pow_le_pow_right->dP,testBit_and->eY,testBit_two_pow_mul_add->fJ,blt->bJ,le_trans->bH
open List renaming replicate->cM,length_singleton->cU,append_assoc->eZ,length_replicate->cQ,getD->aK,set_eq_of_length_le->fE,range->cY,range_succ->fK,filter_append->fL,filter_cons->fM,append_nil->cJ,filter_nil->fO,length_filter_le->fP,length_take->bD,length_map->fQ,map_append->bL,take_append->fR,take_of_length_le->fS
open Eq renaming refl->fA
open Int renaming toNat_natCast->dZ,eq_ofNat_of_zero_le->fB,natCast_nonneg->fC,tdiv->eN,tdiv_eq_ediv_of_nonneg->eO,tmod->dA,tmod_eq_emod_of_nonneg->eA,toNat->dB,le_refl->fN
open Bool renaming not_false->fF,not_true->fG
open BitVec renaming ofInt->dS,testBit_toNat->fH
set_option maxRecDepth 100000
set_option linter.all false
namespace Go.Proofs.YthjfindbamdacaaGreatDoor
open Go Go.GD
open Go.IntKind(wrap i64 u32 wrap_u32 wrap_u64)
attribute [local irreducible] Q1e
def Tree.V{β:Type}(t:Tree β)(W:β->Prop):Prop:=W t.m
section
variable {α β:Type} {W:β->Prop} {c:Bool} {t e:Tree β}
theorem v_lf{x:β}(h:W x):Tree.V (.lf x) W:=h
theorem v_nx{f:Prop}{x:β}{hf:f}(h:W x):Tree.V (.nx f x hf) W:=h
theorem v_br(h:c=true->Tree.V t W)(g:c=false->Tree.V e W):Tree.V (.br c t e) W:=by
 cases c
 ·exact g rfl
 ·exact h rfl
theorem v_cn(g:Tree.V t W):Tree.V (.cn c t) W:=g
theorem v_an{p:Prop}(g:Tree.V t W):Tree.V (.an p t) W:=g
theorem v_lv{x:α}{k:α->Tree β}(h:∀y,y=x->Tree.V (k y) W):Tree.V (.lv x k) W:=h x rfl
theorem v_lp{d:Inhabited β}{n:Nat}{f:Prop}{x:α}{k:α->Tree (α⊕β)}{hf:f}{inv:α->Prop}{μ:α->Nat}(h:inv x)(hn:μ x<n)(g:∀y,inv y->Tree.V (k y) (Sum.elim (λz=>inv z/\μ z<μ y) W)):Tree.V (.lp d n f x k hf) W:=by
 refine yu (P:=inv) (R:=W) (μ:=μ) (λa ha=>?_) n x h hn
 have:=g a ha
 unfold Tree.V at this
 revert this
 cases(k a).m with
 |inl z=>exactλh=>h
 |inr b=>exactλh=>h
end
structure good(P:Nat)(m:Q00):Prop where
 ok:okM P m
 may:Q10 m=true
section
variable {P:Nat} {m:Q00} (h:good P m)
include h
theorem good.v:okV m:=⟨h.ok.cpu,h.ok.mem.u,h.ok.disk,h.ok.nic,h.ok.target,h.ok.cnt⟩
theorem good.s:okS P m:=⟨h.ok.cpu,h.ok.mem,h.ok.disk,h.ok.nic,h.ok.target.1,h.ok.target.2⟩
theorem good.rmay:Qbv m=true:=(Qyp h.v).symm.trans h.may
theorem Zhp{e:Q0v}(he:U e.N):good P (Q5b m e).2/\(Q5b m e).2.A3=m.A3:=by
 have o:okM P (Q5b m e).2:=Tree.post _ (Zho h.ok he)
 have a:=(Tree.pp (zC h.ok he)).2
 change(Q10 m=true->Q10 (Q1y m e).1=true)/\(Q1y m e).1.A3=m.A3/\_ at a
 have e1:Qa8 m e=((Q5b m e).2,(Q5b m e).1):=by
  simp only[Qa8,Q6c,Tree.m,letv,Z6m,h.rmay];rfl
 rw[Z6 h.v e,e1]at a
 exact⟨⟨o,a.1 h.may⟩,a.2.1⟩
theorem Zd1:Q74 m=false↔m.A6=false/\Qep m=false/\m.A3<1152921504606846976:=by
 simp only[Q74,Q8z,Tree.m,letv,h.rmay]
 cases m.A6<;>cases Qep m<;>simp
theorem Zij(hs:Q74 m=false){clock:Int}(hc:U clock):good P (Q22 m clock).2/\(Q22 m clock).2.A3=m.A3+1/\(Q22 m clock).1.length<=1:=by
 have o:=Tree.post _ (Qu4 h.ok hc)
 change(Q22 m clock).1.length<=1/\okM P (Q22 m clock).2/\(Q22 m clock).2.A3=wrap .u64 (m.A3+1)at o
 have s:=(Tree.pp (xg h.s h.ok.cnt hc)).2
 change _/\Good P m (Q11 m clock).1 at s
 have e:Q11 m clock=((Q22 m clock).2,(Q22 m clock).1):=by rw[Z1j h.v,Z6v,hs];rfl
 rw[e]at s
 have hct:=((Zd1 h).1 hs).2.2
 have h0:=h.ok.cnt
 refine⟨⟨o.2.1,s.2.may h.may⟩,?_,o.1⟩
 rw[o.2.2,wrap_u64];omega
end
structure goodR(P:Nat)(k:Int)(r:Q27):Prop where
 m:good P r.A1
 clock:U r.Clock
 cnt:r.A1.A3<=k
theorem vZ(n:Int):U (Quc n).N:=Tree.post _ (yt n)
theorem Zjh{i:List Int}(hu:∀w∈i,U w)(hl:i.length<=256):good 8 (Q2 8 4 i).1/\(Q2 8 4 i).1.A3=0:=by
 obtain⟨a,b⟩:=(Tree.pp (new_w i hu hl)).2
 change okM 8 (Q2 8 4 i).1 at a
 refine⟨⟨a,?_⟩,b⟩
 have e:(Q2 8 4 i).2=true:=by
  have w:i64.wrap (8*32)=256:=by decide
  simp only[Q2,Qbf,Tree.m,w,letv,dN (show¬((i.length:Int)>256) by omega)]
  rfl
 obtain⟨a1,a2,a3,a4,a5,a6⟩:=zax 8 4 i e
 exact(xax _ 8 4 a1 a2 a3 a4 a5 _ a6).1
theorem qk{m:Q00}(h:good 8 m)(hc:m.A3<=87):Tree.V (Q8u m [] 87) (λx=>x.2.2.2=0->good 8 x.1/\x.1.A3<=87):=by
 have z:∀{k:Int} {p:Prop},k≠0->k=0->p:=λa b=>absurd b a
 unfold Q8u
 refine v_lv λx0 _=>v_br (λ_=>v_lf (z (by decide))) λ_=>v_br (λ_=>v_lf (z (by decide))) λ_=>v_br (λ_=>v_lf (z (by decide))) λ_=>v_an (v_lv λx1 _=>v_br (λ_=>v_lf (z (by decide))) λ_=>v_an (v_lv λx2 hx=>?_))
 rw[Z6m]at hx
 refine v_lp (inv:=λv:Q00×List Q0b=>good 8 v.1/\v.1.A3<=87) (μ:=Qfc m [] 87) ⟨by rw[hx];exact h,by rw[hx];exact hc⟩ (cL _) λv0 ⟨a1,a3⟩=>?_
 have a2:=a1.ok.cnt
 refine v_br (λhb=>v_br (λhm=>?_) (λ_=>v_lf λ_=>⟨a1,a3⟩)) (λ_=>v_lf λ_=>⟨a1,a3⟩)
 have hb:=oY hb
 have hm:=oY hm
 refine v_lp (inv:=λ_=>True) (μ:=Qf3 m [] 87 v0) trivial (cL _) λv1 _=>?_
 refine v_br (λ_=>v_lf λ_=>⟨a1,a3⟩) λhh=>v_an (v_lv λx3 h3=>v_br (λ_=>v_lf λ_=>⟨a1,a3⟩) λhi=>v_an (v_lv λx4 _=>v_br (λ_=>v_lf (z (by decide))) λ_=>v_an (v_lv λx5 h5=>v_cn (v_nx ?_))))
 obtain⟨b1,b2,_⟩:=Zij a1 ((Zd1 a1).2 ⟨hh,h3.symm.trans hi,hm⟩) (clock:=0) U_0
 rw[<-h5]at b1 b2
 show(good 8 x5.2/\x5.2.A3<=87)/\(87-x5.2.A3).toNat<(87-v0.1.A3).toNat
 exact⟨⟨b1,by omega⟩,by omega⟩
theorem Qw1(kind:Int)(l:List Int)(hl:l.length*8<=reachBytes)(h40:l.length<=60):good 8 (Qeq kind l)/\(Qeq kind l).A3<=87:=by
 show Tree.V (Q6n kind l) (λm=>good 8 m/\m.A3<=87)
 have code:=(Tree.pp (zd l hl)).2
 change((Qmj l).length:Int)=l.length/\∀w∈Qmj l,U w at code
 obtain⟨b1,b2⟩:=code
 unfold Q6n
 refine v_an (v_lv λx0 hx0=>v_br (λ_=>v_an (v_lv λx1 e1=>?_)) (λhk=>?_))
 ·have eb:x1.1=boot:=by rw[e1];rfl
  obtain⟨q1,q2⟩:boot.length<=160/\∀w∈boot,U w:=ze
  refine v_lp (inv:=λv:List Int=>v.length<=160/\v=boot++cM (v.length-boot.length) 0) (μ:=Qbs kind l) ⟨by rw[eb];exact q1,by rw[eb];simp⟩ (cL _) λv0 ⟨a1,a2⟩=>?_
  have a3:boot.length<=v0.length:=by rw[a2,lA];omega
  refine v_br (λhb=>?_) (λhb=>?_)
  ·have hb:=oY hb
   refine v_cn (v_nx ?_)
   show(_/\_)/\(_:Nat)<_
   refine⟨⟨by rw[lA,cU];omega,?_⟩,by show 160-(v0++[0]).length<160-v0.length;rw[lA,cU];omega⟩
   show v0++[0]=boot++cM ((v0++[0]).length-boot.length) 0
   rw[lA,cU,show v0.length+1-boot.length=(v0.length-boot.length)+1 by omega,List.replicate_succ',<-eZ,<-a2]
  ·have hb:=oN hb
   have hv:v0=Qj1:=by
    unfold Qj1
    rw[show(160:Nat)=v0.length by omega]
    exact a2
   subst hv
   have hp:=qW
   have hu0:∀w∈Qj1,U w:=λw hw=>(List.mem_append.1 hw).elim (q2 w) (U_all _ w)
   refine v_an (v_lv λx2 e2=>v_cn ?_)
   rw[<-e2]at b1 b2
   have hu:∀w∈Qj1++x2,U w:=λw hw=>(List.mem_append.1 hw).elim (hu0 w) (b2 w)
   have hlen:(Qj1++x2).length<=256:=by rw[lA];omega
   refine v_br (λhb=>?_) (λhb=>?_)
   ·have hb:=oY hb;omega
   ·obtain⟨c1,c2⟩:=Zjh hu hlen
    refine v_an (v_lv λx3 h3=>?_)
    rw[<-h3]at c1 c2
    have rn:=qk c1 (by omega)
    refine v_br (λ_=>v_an (v_lv λx4 hx=>v_lf ?_)) (λ_=>v_lf ⟨c1,by omega⟩)
    have e:x3=Q2 8 4 (Qj1++(x2++cM (96-x2.length) 0)):=by
     rw[h3]
     have hl2:(x2++cM (96-x2.length) (0:Int)).length=96:=by rw[lA,cQ];omega
     refine vV _ _ hlen (by rw[lA,hl2];omega) ?_
     rw[lA,lA,hl2,hp,eZ,eZ,eZ,show 256-(160+96)=0 by omega,show 256-(160+x2.length)=96-x2.length by omega]
     simp
    have h0:x4.2.2.2=0:=by
     rw[hx,e]
     exact zal _ (by rw[lA,cQ];omega)
    exact(by rw[hx];exact rn:x4.2.2.2=0->good 8 x4.1/\x4.1.A3<=87) h0
 ·have hk:=oN hk
  refine v_an (v_lv λx2 e2=>v_cn ?_)
  rw[<-e2]at b1 b2
  refine v_br (λhb=>?_) (λhb=>?_)
  ·have hb:=oY hb;omega
  ·obtain⟨c1,c2⟩:=Zjh b2 (by omega)
   refine v_an (v_lv λx3 h3=>?_)
   rw[<-h3]at c1 c2
   exact v_br (λh=>absurd (eq_of_beq h) (by omega)) (λ_=>v_lf ⟨c1,by omega⟩)
theorem y0{m:Q00}(h:U m.A0.B9):Qb2 m:=by
 show(Q57 m).p
 unfold Tree.p Q57
 refine w_br (λ_=>w_an ?_ (w_lv λ_ _=>trivial)) (λ_=>trivial)
 show(Q38 m).p
 unfold Tree.p Q38
 exact Q0c (Z8x h) λ_ _=>trivial
section
variable {P:Nat} {m:Q00} (h:good P m)
include h
theorem good.len:m.Mem.length<=1024:=by have:=h.ok.mem.len;have:=h.ok.mem.p2;omega
theorem good.app(e:Q0v):Q1y m e=((Q5b m e).2,(Q5b m e).1):=by
 rw[Z6 h.v]
 simp only[Qa8,Q6c,Tree.m,letv,Z6m,h.rmay];rfl
theorem good.step(hs:Q74 m=false)(clock:Int):Q11 m clock=((Q22 m clock).2,(Q22 m clock).1):=by
 rw[Z1j h.v,Z6v,hs];rfl
end
def inS(S:Int)(f:Nat):Prop:=S.toNat.testBit f=true
def Sub(S:Int)(D:Nat->Prop):Prop:=∀f,inS S f->D f
def Agr(D:Nat->Prop)(m n:List Int):Prop:=∀j:Nat,D (j/32)->m.getD j 0=n.getD j 0
def Kept(D:Nat->Prop)(m m':List Int):Prop:=∀j:Nat,¬D (j/32)->m'.getD j 0=m.getD j 0
def Zer(D:Nat->Prop)(m:List Int):Prop:=∀j:Nat,¬D (j/32)->m.getD j 0=0
theorem Kept.rfl{D:Nat->Prop}{m:List Int}:Kept D m m:=λ_ _=>fA _
theorem Kept.trans{D:Nat->Prop}{m m' m'':List Int}(h:Kept D m m')(g:Kept D m' m''):Kept D m m'':=λj hj=>(g j hj).trans (h j hj)
theorem Zer.kept{D:Nat->Prop}{m m':List Int}(h:Zer D m)(g:Kept D m m'):Zer D m':=λj hj=>(g j hj).trans (h j hj)
theorem inS0(f:Nat):¬inS 0 f:=by simp[inS]
theorem Z4g{S T:Int}(hS:U S)(hT:U T)(f:Nat):inS (ior .u32 S T) f↔inS S f\/inS T f:=by
 unfold inS
 rw[vO hS hT,dZ,Nat.testBit_or,Bool.or_eq_true]
theorem Sub.or{S T:Int}{D:Nat->Prop}(hS:U S)(hT:U T):Sub (ior .u32 S T) D↔Sub S D/\Sub T D:=
 ⟨λh=>⟨λf hf=>h f ((Z4g hS hT f).2 (.inl hf)),λf hf=>h f ((Z4g hS hT f).2 (.inr hf))⟩,λh f hf=>((Z4g hS hT f).1 hf).elim (h.1 f) (h.2 f)⟩
theorem Zhj{k:Nat}(hk:k<32):(2:Nat)^k<4294967296:=Nat.pow_lt_pow_right (a:=2) (m:=k) (n:=32) (by decide) hk
theorem Z93{k:Nat}(hk:k<32):ishl .u32 1 (k:Int)=((2^k:Nat):Int):=by
 have hp:=Zhj hk
 unfold ishl
 have hm:min ((k:Int).toNat) u32.bits=k:=by
  have:u32.bits=32:=fA _
  rw[dZ,this];exact Nat.min_eq_left (by omega)
 have e3:((2:Int)^k)=((2^k:Nat):Int):=by simp
 rw[hm,wrap_u32,Int.one_mul,e3]
 generalize(2:Nat)^k=N at*
 omega
section
variable {P:Nat} {m n:List Int} (h:Q0s P m) (hn:Q0s P n) {D:Nat->Prop}
include h
theorem Q6a{f:Int}(hf:U f):U (Q0n m f)/\∀g,inS (Q0n m f) g↔(g:Int)=f/\f<P:=by
 have hp:=h.p2
 simp only[Q0n,Q48,Tree.m,letv,Qjw h]
 have e:wrap .u32 ((P:Nat):Int)=P:=by rw[wrap_u32];omega
 rw[e]
 by_cases hc:f>=(P:Int)
 ·rw[dY hc]
  exact⟨U_0,λg=>⟨λx=>absurd x (inS0 g),λx=>by omega⟩⟩
 ·rw[dN hc]
  obtain⟨f0,f1⟩:=hf
  obtain⟨k,rfl⟩:=fB f0
  have hk:k<32:=by omega
  show U (ishl .u32 1 (k:Int))/\∀g,inS (ishl .u32 1 (k:Int)) g↔_
  rw[Z93 hk]
  have:=Zhj hk
  show U ((2^k:Nat):Int)/\∀g,inS ((2^k:Nat):Int) g↔_
  refine⟨⟨fC _,Int.ofNat_lt.2 this⟩,λg=>?_⟩
  unfold inS
  rw[dZ,fD]
  simp only[decide_eq_true_eq]
  omega
end
theorem widx{a:Int}(ha:U a):(wrap .u32 (eN a 4)).toNat=(a/4).toNat:=by
 obtain⟨a0,a1⟩:=ha
 rw[wrap_u32,eO a0];omega
theorem wpg{a:Int}(ha:0<=a):(a/4).toNat/32=(a/128).toNat:=by omega
theorem Zhh(m:List Int)(a s:Int):Q0y m a s=bif !Q26 m a s then(0,false)else bif s==1 then(Q3 (m.getD (wrap .u32 (eN a 4)).toNat 0) (wrap .i64 (wrap .i64 (dA a 4)*8)) 8,true)else(m.getD (wrap .u32 (eN a 4)).toNat 0,true):=by kernel_rfl
theorem Zbg(m:List Int)(a s v:Int):Q1w m a s v=bif !Q26 m a s then(m,false)else bif s==1 then(m.set (wrap .u32 (eN a 4)).toNat (Q6g (m.getD (wrap .u32 (eN a 4)).toNat 0) (wrap .i64 (wrap .i64 (dA a 4)*8)) 8 v),true)else(m.set (wrap .u32 (eN a 4)).toNat v,true):=by kernel_rfl
theorem cc{α:Type}{c:Bool}{x x' y y':α}(hx:c=true->x=x')(hy:c=false->y=y'):cond c x y=cond c x' y':=by
 cases c
 ·exact hy (fA _)
 ·exact hx (fA _)
attribute [local irreducible] Q0y Q1w Q26
theorem Z9k(l:List Int)(i j:Nat)(v:Int)(h:i≠j):(l.set i v).getD j 0=l.getD j 0:=by
 simp[aK,List.getElem?_set,h]
section
variable {P:Nat} {m n:List Int} (h:Q0s P m) (hn:Q0s P n) {D:Nat->Prop}
include h hn
theorem Z62{a:Int}(ha:U a){s:Int}(hs:s=1\/s=4):Q26 m a s=Q26 n a s:=by
 rw[Qcw h ha hs,Qcw hn ha hs,Q9r h ha hs,Q9r hn ha hs]
theorem Qr8(hD:Agr D m n){a:Int}(ha:U a){s:Int}(hs:s=1\/s=4)(hd:a<128*P->D (a/128).toNat):Q0y m a s=Q0y n a s:=by
 rw[Zhh,Zhh,Z62 h hn ha hs]
 refine cc (λ_=>fA _) λhw=>?_
 have hw:Q26 n a s=true:=by simpa using hw
 have hl:a<128*P:=by
  rw[Qcw hn ha hs,Q9r hn ha hs]at hw
  exact(oY hw).2
 have e:m.getD (wrap .u32 (eN a 4)).toNat 0=n.getD (wrap .u32 (eN a 4)).toNat 0:=by
  rw[widx ha]
  refine hD _ ?_
  rw[wpg ha.1];exact hd hl
 rw[e]
theorem xk(hD:Agr D m n){i:Nat}(hd:D (i/32))(v:Int):Agr D (m.set i v) (n.set i v)/\Kept D m (m.set i v):=by
 refine⟨λj hj=>?_,λj hj=>?_⟩
 ·by_cases e:i=j
  ·subst e
   have l1:=h.len;have l2:=hn.len
   by_cases hi:i<m.length
   ·rw[Qft hi,Qft (by omega)]
   ·rw[fE (by omega),fE (by omega)];exact hD _ hj
  ·rw[Z9k _ _ _ _ e,Z9k _ _ _ _ e];exact hD _ hj
 ·have:i≠j:=λe=>by subst e;exact hj hd
  exact Z9k _ _ _ _ this
theorem Qsz(hD:Agr D m n){a:Int}(ha:U a){s:Int}(hs:s=1\/s=4)(hd:a<128*P->D (a/128).toNat){v:Int}:Agr D (Q1w m a s v).1 (Q1w n a s v).1/\Kept D m (Q1w m a s v).1:=by
 rw[Zbg,Zbg,Z62 h hn ha hs]
 cases hw:Q26 n a s
 ·exact⟨hD,Kept.rfl⟩
 ·have hl:a<128*P:=by
   rw[Qcw hn ha hs,Q9r hn ha hs]at hw
   exact(oY hw).2
  have hq:D ((wrap .u32 (eN a 4)).toNat/32):=by rw[widx ha,wpg ha.1];exact hd hl
  have e:=hD _ hq
  rw[e]
  cases s==1
  ·exact xk h hn hD hq _
  ·exact xk h hn hD hq _
end
def fltT(k:Int):Q13:={Addr:=0,D9:=0,D0:=k}
def entA(root va:Int):Int:=wrap .u32 (wrap .u32 (root*128)+wrap .u32 (4*wrap .u32 (eN va 128)))
theorem Qo1(m:List Int)(root va k:Int):Q0z m root va k=bif !(Q14 k).2 then fltT (Q14 k).1 else bif decide (va>=4096)then fltT (Q14 k).1 else bif !Q1i m root then fltT (Q14 k).1 else bif !(Q0y m (entA root va) 4).2 then fltT (Q14 k).1 else bif !Q2s (Q0y m (entA root va) 4).1 k then fltT (Q14 k).1 else bif !Q1i m (Q1v (Q0y m (entA root va) 4).1)then fltT (Q14 k).1 else{Addr:=wrap .u32 (wrap .u32 (Q1v (Q0y m (entA root va) 4).1*128)+dA va 128),D9:=entA root va,D0:=0}:=by kernel_rfl
theorem Zcf(m:List Int)(a k:Int):Q2g m a k=bif !(Q0y m a 4).2 then m else bif k==3 then(Q1w m a 4 (ior .u32 (ior .u32 (Q0y m a 4).1 8) 16)).1 else(Q1w m a 4 (ior .u32 (Q0y m a 4).1 8)).1:=by kernel_rfl
theorem Ze5(w:Int):U (Q1v w):=by
 have:=(Tree.pp (Qqx w 8 8)).2
 exact this
attribute [local irreducible] Q14 Q1i Q2s Q1v Q0z Q2g
theorem z6{P:Nat}(hP:P<=32){root va:Int}(hr:0<=root/\root<P)(hv:0<=va/\va<4096):entA root va=root*128+4*(va/128):=by
 unfold entA
 rw[eO hv.1]
 simp only[wrap_u32]
 omega
theorem Ziu(root va:Int):U (entA root va):=Q0p _
section
variable {P:Nat} {m n:List Int} (h:Q0s P m) (hn:Q0s P n) {D:Nat->Prop}
include h
theorem yP{root va:Int}(hr:U root)(hv:0<=va/\va<4096)(hi:Q1i m root=true):(entA root va/128).toNat=root.toNat/\root<P:=by
 rw[Qr3 h hr]at hi
 have hi:=oY hi
 have:=h.p2
 refine⟨?_,hi⟩
 rw[z6 h.p2 ⟨hr.1,hi⟩ hv]
 obtain⟨r0,r1⟩:=hr
 omega
include hn
theorem vF(hD:Agr D m n){root va:Int}(hr:U root)(hv:U va)(hd:root<P->D root.toNat)(k:Int):Q0z m root va k=Q0z n root va k:=by
 have hpg:∀{f:Int},U f->Q1i m f=Q1i n f:=λhf=>by rw[Qr3 h hf,Qr3 hn hf]
 rw[Qo1,Qo1,hpg hr]
 refine cc (λ_=>fA _) λ_=>cc (λ_=>fA _) λhva=>cc (λ_=>fA _) λhi=>?_
 have hva:=oN hva
 have hi:Q1i n root=true:=by simpa using hi
 obtain⟨e1,e2⟩:=yP hn hr ⟨hv.1,by omega⟩ hi
 have e:=Qr8 h hn hD (Ziu root va) (.inr (fA _)) (s:=4) (λ_=>by rw[e1];exact hd e2)
 rw[e,hpg (Ze5 _)]
omit hn in
theorem y6{root va:Int}(hr:U root)(hv:U va)(k:Int)(hc:(Q0z m root va k).D0=0)(hk:(Q14 k).1≠0):(Q0z m root va k).D9=entA root va/\(entA root va/128).toNat=root.toNat/\root<P/\va<4096/\U (Q0z m root va k).Addr/\(Q0z m root va k).Addr<128*P:=by
 revert hc
 rw[Qo1]
 cases(Q14 k).2
 ·intro hc;exact absurd hc hk
 by_cases hva:va>=4096
 ·rw[dY hva];intro hc;exact absurd hc hk
 rw[dN hva]
 cases hi:Q1i m root
 ·intro hc;exact absurd hc hk
 cases(Q0y m (entA root va) 4).2
 ·intro hc;exact absurd hc hk
 cases Q2s (Q0y m (entA root va) 4).1 k
 ·intro hc;exact absurd hc hk
 cases hf:Q1i m (Q1v (Q0y m (entA root va) 4).1)
 ·intro hc;exact absurd hc hk
 intro _
 obtain⟨e1,e2⟩:=yP h hr ⟨hv.1,by omega⟩ hi
 have hu:=Ze5 (Q0y m (entA root va) 4).1
 rw[Qr3 h hu]at hf
 have hf:=oY hf
 refine⟨rfl,e1,e2,by omega,Q0p _,?_⟩
 show wrap .u32 (wrap .u32 (Q1v (Q0y m (entA root va) 4).1*128)+dA va 128)<_
 generalize Q1v (Q0y m (entA root va) 4).1=f at*
 have:=h.p2
 obtain⟨u0,u1⟩:=hu;obtain⟨v0,v1⟩:=hv
 rw[eA v0]
 simp only[wrap_u32]
 omega
theorem Qyz(hD:Agr D m n){a:Int}(ha:U a)(hd:a<128*P->D (a/128).toNat)(k:Int):Agr D (Q2g m a k) (Q2g n a k)/\Kept D m (Q2g m a k):=by
 rw[Zcf,Zcf,Qr8 h hn hD ha (.inr (fA _)) hd]
 cases(Q0y n a 4).2
 ·exact⟨hD,Kept.rfl⟩
 ·cases k==3
  ·exact Qsz h hn hD ha (.inr (fA _)) hd
  ·exact Qsz h hn hD ha (.inr (fA _)) hd
end
def resP(m:List Int)(v s k:Int):Int×List Int×Int:=bif !(Q0y m v s).2 then(0,m,(Qb4 k).1)else(v,m,0)
def resV(c:Q01)(m:List Int)(v k:Int):Int×List Int×Int:=bif(Q0z m c.B3.a6 v k).D0 !=0 then(0,m,(Q0z m c.B3.a6 v k).D0)else((Q0z m c.B3.a6 v k).Addr,Q2g m (Q0z m c.B3.a6 v k).D9 k,0)
theorem Z26(c:Q01)(m:List Int)(v:Int){s:Int}(hs:s=1\/s=4){k:Int}(hk:k=1\/k=2\/k=3):Q0t c m v s k=bif dA v s !=0 then(0,m,3)else bif !Q5d c then(bif iand .u32 c.B3.a0 4 !=0 then resV c m v k else resP m v s k)else resP m v s k:=by
 rcases hs with rfl|rfl<;>rcases hk with rfl|rfl|rfl<;>kernel_rfl
def sgV(m:List Int)(v:Int):Int:=Q0n m (wrap .u32 (eN v 128))
theorem Qkc(c:Q01)(m:List Int)(v s k:Int):Q0m c m v s k=bif dA v s !=0 then 0 else bif !Q34 c then sgV m v else bif iand .u32 c.B3.a0 4==0 then sgV m v else bif decide (v>=4096)then 0 else bif(Q0z m c.B3.a6 v k).D0==0 then ior .u32 (Q0n m c.B3.a6) (sgV m (Q0z m c.B3.a6 v k).Addr)else Q0n m c.B3.a6:=by kernel_rfl
theorem Qla(c:Q01):Q34 c=!Q5d c:=by
 show(iand .u32 c.B3.a0 1==0)=!(iand .u32 c.B3.a0 1 !=0)
 rw[bne,Bool.not_not]
theorem Z9i{k:Int}:(Q14 k).1≠0/\(Qb4 k).1≠0:=vq k
section
variable {P:Nat} {m n:List Int} (h:Q0s P m) (hn:Q0s P n) {D:Nat->Prop}
theorem sgV_i{v:Int}(hv:U v)(g:Nat):Q0s P m->(inS (sgV m v) g↔(g:Int)=v/128/\v<128*P):=by
 intro h
 have:=(Q6a h (f:=wrap .u32 (eN v 128)) (Q0p _)).2 g
 unfold sgV
 rw[this]
 obtain⟨v0,v1⟩:=hv
 rw[eO v0,wrap_u32]
 omega
include h
theorem sgV_U(v:Int):U (sgV m v):=(Q6a h (Q0p _)).1
theorem Zfk{v:Int}(hv:U v):Sub (sgV m v) D↔(v<128*P->D (v/128).toNat):=by
 constructor
 ·intro hs hl
  refine hs _ ((sgV_i hv _ h).2 ⟨?_,hl⟩)
  obtain⟨v0,v1⟩:=hv
  omega
 ·intro hd g hg
  obtain⟨e,hl⟩:=(sgV_i hv g h).1 hg
  have:=hd hl
  rw[<-e]at this
  simpa using this
theorem Qon{f:Int}(hf:U f):Sub (Q0n m f) D↔(f<P->D f.toNat):=by
 constructor
 ·intro hs hl
  refine hs _ (((Q6a h hf).2 _).2 ⟨?_,hl⟩)
  obtain⟨v0,v1⟩:=hf
  omega
 ·intro hd g hg
  obtain⟨e,hl⟩:=((Q6a h hf).2 g).1 hg
  have:=hd hl
  rw[<-e]at this
  simpa using this
include hn
theorem Zgc(f:Int):Q0n m f=Q0n n f:=by
 simp only[Q0n,Q48,Tree.m,letv,Qjw h,Qjw hn]
omit hn in
theorem Zh4{c:Q01}(hc:Q2d c){v s k:Int}(hs:Sub (Q0m c m v s k) D)(h1:(dA v s !=0)=false)(h2:Q5d c=false)(h3:(iand .u32 c.B3.a0 4 !=0)=true)(h4:v<4096):(c.B3.a6<P->D c.B3.a6.toNat)/\((Q0z m c.B3.a6 v k).D0=0->Sub (sgV m (Q0z m c.B3.a6 v k).Addr) D):=by
 have h3':(iand .u32 c.B3.a0 4==0)=false:=by rw[bne]at h3;simpa using h3
 rw[Qkc,h1,Qla,h2,h3',dN (by omega:¬v>=4096)]at hs
 simp only[fF,fG,cond_true,cond_false]at hs
 cases hc0:(Q0z m c.B3.a6 v k).D0==0
 ·rw[hc0]at hs
  simp only[fF,fG,cond_true,cond_false]at hs
  exact⟨(Qon h hc.a6).1 hs,λe=>by rw[e]at hc0;cases hc0⟩
 ·rw[hc0]at hs
  simp only[fF,fG,cond_true,cond_false]at hs
  have:=(Sub.or (Q6a h hc.a6).1 (sgV_U h _)).1 hs
  exact⟨(Qon h hc.a6).1 this.1,λ_=>this.2⟩
structure RRel(P:Nat)(D:Nat->Prop)(m n:List Int)(x y:Int×List Int×Int):Prop where
 a:x.1=y.1
 c:x.2.2=y.2.2
 agr:Agr D x.2.1 y.2.1
 km:Kept D m x.2.1
 kn:Kept D n y.2.1
 u:U x.1
 i:x.2.2=0->x.1<128*P->D (x.1/128).toNat
omit h hn in
theorem Agr.symm(hD:Agr D m n):Agr D n m:=λj hj=>(hD j hj).symm
omit h hn in
theorem RRel.same(hD:Agr D m n){a k:Int}(hu:U a)(hi:k=0->a<128*P->D (a/128).toNat):RRel P D m n (a,m,k) (a,n,k):=⟨fA _,fA _,hD,Kept.rfl,Kept.rfl,hu,hi⟩
theorem Zi8(hD:Agr D m n){v:Int}(hv:U v){s:Int}(hs:s=1\/s=4){k:Int}(hd:v<128*P->D (v/128).toNat):RRel P D m n (resP m v s k) (resP n v s k):=by
 unfold resP
 rw[Qr8 h hn hD hv hs hd]
 cases(Q0y n v s).2
 ·simp only[fF,fG,cond_true,cond_false]
  exact RRel.same hD U_0 λe=>absurd e Z9i.2
 ·simp only[fF,fG,cond_true,cond_false]
  exact RRel.same hD hv λ_=>hd
theorem Qq7(hD:Agr D m n){c:Q01}(hc:Q2d c){v:Int}(hv:U v){s:Int}(hs:s=1\/s=4){k:Int}(hk:k=1\/k=2\/k=3)(hsub:Sub (Q0m c m v s k) D):RRel P D m n (Q0t c m v s k) (Q0t c n v s k):=by
 rw[Z26 c m v hs hk,Z26 c n v hs hk]
 cases h1:dA v s !=0
 case true=>
  simp only[fF,fG,cond_true,cond_false]
  exact RRel.same hD U_0 λe=>absurd e (by decide)
 cases h2:Q5d c
 case true=>
  simp only[fF,fG,cond_true,cond_false]
  refine Zi8 h hn hD hv hs ((Zfk h hv).1 ?_)
  rw[Qkc,h1,Qla,h2]at hsub
  simp only[fF,fG,cond_true,cond_false]at hsub
  exact hsub
 cases h3:iand .u32 c.B3.a0 4 !=0
 case false=>
  simp only[fF,fG,cond_true,cond_false]
  refine Zi8 h hn hD hv hs ((Zfk h hv).1 ?_)
  have h3':(iand .u32 c.B3.a0 4==0)=true:=by rw[bne]at h3;simpa using h3
  rw[Qkc,h1,Qla,h2,h3']at hsub
  simp only[fF,fG,cond_true,cond_false]at hsub
  exact hsub
 simp only[fF,fG,cond_true,cond_false]
 unfold resV
 by_cases h4:v<4096
 ·obtain⟨r1,r2⟩:=Zh4 h hc hsub h1 h2 h3 h4
  have ew:=vF h hn hD hc.a6 hv r1 k
  rw[<-ew]
  cases h5:(Q0z m c.B3.a6 v k).D0 !=0
  ·have h5:(Q0z m c.B3.a6 v k).D0=0:=by simpa using h5
   obtain⟨w1,w2,w3,w4,w5,w6⟩:=y6 h hc.a6 hv k h5 Z9i.1
   have hd:entA c.B3.a6 v<128*P->D (entA c.B3.a6 v/128).toNat:=λ_=>by rw[w2];exact r1 w3
   rw[w1]
   simp only[fF,fG,cond_true,cond_false]
   exact⟨fA _,fA _,(Qyz h hn hD (Ziu _ _) hd k).1,(Qyz h hn hD (Ziu _ _) hd k).2,(Qyz hn h hD.symm (Ziu _ _) hd k).2,w5,λ_=>(Zfk h w5).1 (r2 h5)⟩
  ·simp only[fF,fG,cond_true,cond_false]
   exact RRel.same hD U_0 λe=>by rw[e]at h5;cases h5
 ·have f:∀l:List Int,(Q0z l c.B3.a6 v k).D0 !=0:=λl=>by
   rw[Qo1,dY (by omega:v>=4096)]
   cases(Q14 k).2<;>simp only[fF,fG,cond_true,cond_false]<;>simpa[fltT]using(Z9i (k:=k)).1
  have e:Q0z m c.B3.a6 v k=Q0z n c.B3.a6 v k:=by
   rw[Qo1,Qo1,dY (by omega:v>=4096)]
   cases(Q14 k).2<;>simp only[fF,fG,cond_true,cond_false]
  rw[<-e,f m]
  simp only[fF,fG,cond_true,cond_false]
  exact RRel.same hD U_0 λe=>by have:=f m;rw[e]at this;cases this
end
section
variable {P:Nat} {m n:List Int} (h:Q0s P m) (hn:Q0s P n) {D:Nat->Prop} {c:Q01} (hc:Q2d c)
include h hn hc
theorem zk(hD:Agr D m n)(hsub:Sub (Q0m c m c.Pc 4 1) D):(Q0o c m).1=(Q0o c n).1/\(Q0o c m).2.2=(Q0o c n).2.2/\Agr D (Q0o c m).2.1 (Q0o c n).2.1/\Kept D m (Q0o c m).2.1/\Kept D n (Q0o c n).2.1:=by
 have r:=Qq7 h hn hD hc hc.pc (.inr (fA (4:Int))) (k:=1) (.inl (fA _)) hsub
 have o1:=(Tree.pp (Q7b h (c:=c) hc.pc (.inr (fA (4:Int))) 1)).2.2
 have o2:=(Tree.pp (Q7b hn (c:=c) hc.pc (.inr (fA (4:Int))) 1)).2.2
 change Q0s P (Q0t c m c.Pc 4 1).2.1 at o1
 change Q0s P (Q0t c n c.Pc 4 1).2.1 at o2
 rw[Z7h,Z7h,<-r.c]
 cases h0:(Q0t c m c.Pc 4 1).2.2 !=0
 ·have h0:(Q0t c m c.Pc 4 1).2.2=0:=by simpa using h0
  have e:=Qr8 o1 o2 r.agr r.u (.inr (fA (4:Int))) (r.i h0)
  simp only[fF,fG,cond_true,cond_false]
  rw[e,r.a]
  exact⟨by trivial,by trivial,r.agr,r.km,r.kn⟩
 ·simp only[fF,fG,cond_true,cond_false]
  exact⟨by trivial,by trivial,r.agr,r.km,r.kn⟩
end
theorem Qyg{x y:Int}(hx:U x)(hy:U y)(f:Nat):inS (Q7k .u32 x y) f↔inS x f/\¬inS y f:=by
 unfold inS Q7k
 have hb:u32.bits=32:=rfl
 rw[hb,wrap_u32]
 have hlt:=(dS 32 x&&&~~~dS 32 y).isLt
 have e:(((dS 32 x&&&~~~dS 32 y).toNat:Int)%4294967296).toNat=(dS 32 x&&&~~~dS 32 y).toNat:=by omega
 rw[e,fH,BitVec.getLsbD_and,BitVec.getLsbD_not,<-fH,<-fH,Qmu hx,Qmu hy]
 by_cases h32:f<32
 ·simp[h32]
 ·have:x.toNat.testBit f=false:=fI (bI (by have:=hx.2;omega:x.toNat<2^32) (dP (by decide) (by omega)))
  simp[this]
theorem Z0a(x y:Int):U (Q7k .u32 x y):=Q0p _
section
variable {P:Nat} {m n:List Int} (h:Q0s P m) (hn:Q0s P n) {D:Nat->Prop}
theorem Zhz(l:List Int)(j k:Nat)(hk:k<4):byt l (4*j+k)=dig (l.getD j 0) k:=by
 unfold byt
 rw[show(4*j+k)/4=j by omega,show(4*j+k)%4=k by omega]
include h hn
theorem Zj3{j:Nat}(hb:∀k,k<4->byt m (4*j+k)=byt n (4*j+k)):m.getD j 0=n.getD j 0:=
 qh (Qhc h.u _) (Qhc hn.u _) λk hk=>by rw[<-Zhz m j k hk,<-Zhz n j k hk];exact hb k hk
theorem Zj6{f:Int}(f0:0<=f){s:List UInt8}(a:isPg m f s)(b:isPg n f s){j:Nat}(hj:j/32=f.toNat):m.getD j 0=n.getD j 0:=by
 refine Zj3 h hn λk hk=>?_
 have e:4*j+k=(f*128).toNat+(4*(j%32)+k):=by omega
 rw[e,<-a.2 _ (by omega),<-b.2 _ (by omega)]
omit h hn in
theorem isPg.agr(hD:Agr D m n){f:Int}(f0:0<=f)(hd:D f.toNat){s:List UInt8}(a:isPg m f s):isPg n f s:=by
 refine⟨a.1,λk hk=>?_⟩
 rw[a.2 k hk]
 unfold byt
 rw[hD _ (by rw[show((f*128).toNat+k)/4/32=f.toNat by omega];exact hd)]
theorem Zj0(hD:Agr D m n){f:Int}(f0:0<=f)(hd:f<P->D f.toNat):Q12 m f=Q12 n f:=by
 by_cases f1:f<P
 ·obtain⟨a1,a2⟩:=(Tree.pp (Qzl h f0 f1)).2
  obtain⟨b1,b2⟩:=(Tree.pp (Qzl hn f0 f1)).2
  change isPg m f (Q12 m f).1 at a1
  change(Q12 m f).2=true at a2
  change isPg n f (Q12 n f).1 at b1
  change(Q12 n f).2=true at b2
  exact Prod.ext (Zhf (a1.agr hD f0 (hd f1)) b1) (a2.trans b2.symm)
 ·have e:∀{l:List Int},Q0s P l->Q12 l f=([],false):=fun{l} hl=>by
   simp only[Q12,Q51,Tree.m,letv,Z0i hl,dN (λe:0<=f/\f<(P:Int)=>f1 e.2)]
   rfl
  rw[e h,e hn]
omit hn in
theorem Zll{f:Int}(f0:0<=f)(f1:f<P){s:List UInt8}(hs:s.length=128):(Q0k m f s).2=true/\Q0s P (Q0k m f s).1/\Kept (λg=>g=f.toNat) m (Q0k m f s).1/\isPg (Q0k m f s).1 f s:=by
 obtain⟨a1,a2,a3⟩:=(Tree.pp (Qst h f0 f1 hs)).2
 change(Q0k m f s).2=true at a1
 change Q0s P (Q0k m f s).1 at a2
 change∀b:Nat,byt (Q0k m f s).1 b=_ at a3
 refine⟨a1,a2,λj hj=>Zj3 a2 h λk hk=>?_,hs,λk hk=>?_⟩
 ·rw[a3,if_neg (by omega)]
 ·rw[a3,if_pos (by omega)]
  congr 2
  congr 1
  omega
theorem Zdd(hD:Agr D m n){f:Int}(f0:0<=f)(f1:f<P)(hd:D f.toNat){s:List UInt8}(hs:s.length=128):Agr D (Q0k m f s).1 (Q0k n f s).1/\Kept D m (Q0k m f s).1:=by
 obtain⟨a1,a2,a3,a4⟩:=Zll h f0 f1 hs
 obtain⟨b1,b2,b3,b4⟩:=Zll hn f0 f1 hs
 refine⟨λj hj=>?_,λj hj=>a3 j λe=>hj (e▸hd)⟩
 by_cases e:j/32=f.toNat
 ·exact Zj6 a2 b2 f0 a4 b4 e
 ·rw[a3 j e,b3 j e];exact hD j hj
theorem v6(f:Int):Q5j m f=Q5j n f:=by
 simp only[Q5j,Qa6,Tree.m,letv,Q1u h,Q1u hn]
theorem yk(f:Int):Q6 m f=Q6 n f:=by
 simp only[Q6,Qbj,Tree.m,letv,Q1u h,Q1u hn]
omit h hn in
theorem w64U{f:Int}(hf:U f):wrap .i64 f=f:=w64 (by have:=hf.1;omega) (by have:=hf.2;omega)
theorem vk(hD:Agr D m n){d:Q0d}(hd:Q5u d){cmd:Int}(hc:cmd=2->d.B7=0->d.B8<d.Blocks->d.Frame<P->D d.Frame.toNat)(at0:Int):Qfz d m cmd at0=Qfz d n cmd at0:=by
 simp only[Qfz,Q96,Tree.m,letv,v6 h hn]
 refine cc (λ_=>rfl) λh1=>cc (λ_=>rfl) λh2=>cc (λ_=>rfl) λh3=>cc (λh4=>?_) λ_=>rfl
 have e1:d.B7=0:=by simpa using h1
 have e2:=oN h2
 have e4:cmd=2:=eq_of_beq h4
 rw[w64U hd.frame,Zj0 h hn hD hd.frame.1 (hc e4 e1 (by omega))]
theorem qG(hD:Agr D m n){d:Q0w}(hd:Qco d)(hc:1<=d.D8->d.D8<=128->d.Frame<P->D d.Frame.toNat)(at0:Int):Qoh d m at0=Qoh d n at0:=by
 simp only[Qoh,Qdb,Tree.m,letv,yk h hn]
 refine cc (λ_=>rfl) λh1=>cc (λ_=>rfl) λh2=>cc (λ_=>rfl) λh3=>?_
 have e1:=oN h1
 have e2:=oN h2
 rw[w64U hd.frame,Zj0 h hn hD hd.frame.1 (hc (by omega) (by omega))]
end
def setMem(b:Q00)(l:List Int):Q00:={B2:=b.B2,Mem:=l,A2:=b.A2,A9:=b.A9,A7:=b.A7,C1:=b.C1,A0:=b.A0,A3:=b.A3,A4:=b.A4,A6:=b.A6}
def Two{β:Type}(D:Nat->Prop)(m n:List Int)(x y:Q00×β):Prop:=∃z m1 n1 o,x=(setMem z m1,o)/\y=(setMem z n1,o)/\Agr D m1 n1/\Kept D m m1/\Kept D n n1
theorem Two.mk0{β:Type}{D:Nat->Prop}{m n:List Int}(hD:Agr D m n)(z:Q00)(o:β):Two D m n (setMem z m,o) (setMem z n,o):=⟨z,m,n,o,rfl,rfl,hD,Kept.rfl,Kept.rfl⟩
theorem z7{v:Int}(h0:0<=v)(h1:v<32)(G:Int)(hG:U G):(iand .u32 G (ishl .u32 1 v)==0)=true↔ ¬inS G v.toNat:=by
 obtain⟨k,rfl⟩:=fB h0
 have hk:k<32:=by omega
 have hp:=Zhj hk
 rw[Z93 hk,Qzb hG ⟨fC _,Int.ofNat_lt.2 hp⟩]
 simp only[dZ,beq_iff_eq,inS]
 constructor
 ·intro e hb
  have:(G.toNat&&&2^k).testBit k=true:=by rw[eY,hb,Nat.testBit_two_pow_self];rfl
  have e:G.toNat&&&2^k=0:=by omega
  rw[e]at this
  simp at this
 ·intro hb
  have:G.toNat&&&2^k=0:=Nat.eq_of_testBit_eq λi=>by
   rw[eY,fD,Nat.zero_testBit]
   by_cases e:k=i
   ·subst e
    simp only[Bool.not_eq_true]at hb
    rw[hb];rfl
   ·simp[e]
  rw[this];rfl
section
variable {P:Nat} {m n:List Int} (h:Q0s P m) (hn:Q0s P n) {D:Nat->Prop} (hD:Agr D m n)
include h hn hD
theorem ql{b:Q00}(hd:Q5u b.A7)(hc:Qco b.C1)(hg:U b.A0.B9){l:List Int}(hl:Q0s P l){q:Q00}(q1:q.Mem=l)(q2:q.A7=b.A7)(q3:q.C1=b.C1)(q4:q.A0=b.A0)(port:Int){v:Int}(hv:U v)(at0:Int)(hs:Sub (Q23 q port v) D):Two D m n (Q0r (setMem b m) port v at0) (Q0r (setMem b n) port v at0):=by
 have z:∀(z:Q00) (o:List Q0b),Two D m n (setMem z m,o) (setMem z n,o):=Two.mk0 hD
 have sg:∀{f:Int},U f->Q0n l f=Q0n m f:=λ_=>Zgc hl h _
 rcases ports (p:=port)with rfl|rfl|rfl|rfl|rfl|rfl|rfl|rfl|rfl|rfl|rfl|rfl|hp|hp
 ·have c:∀l:List Int,Q0r (setMem b l) 0 v at0=(setMem b l,[{C2:=1,At:=at0,B8:=0,C8:=[(λ(n:Int)=>UInt8.ofNat n.toNat) (wrap .u8 v)]}]):=λl=>by kernel_rfl
  rw[c,c];exact z b _
 ·have c:∀l:List Int,Q0r (setMem b l) 1 v at0=(setMem b l,[]):=λl=>by kernel_rfl
  rw[c,c];exact z b _
 ·have c:∀l:List Int,Q0r (setMem b l) 2 v at0=(setMem b l,[]):=λl=>by kernel_rfl
  rw[c,c];exact z b _
 ·have c:∀l:List Int,Q0r (setMem b l) 3 v at0=(setMem {b with A9:=Qgs b.A9 v} l,[]):=λl=>by kernel_rfl
  rw[c,c];exact z _ _
 ·have c:∀l:List Int,Q0r (setMem b l) 4 v at0=(setMem {b with A7:=(Q7v b.A7 l 4 v at0).1} l,(Q7v b.A7 l 4 v at0).2):=λl=>by kernel_rfl
  have e:∀l:List Int,Q7v b.A7 l 4 v at0=({Blocks:=b.A7.Blocks,B8:=v,Frame:=b.A7.Frame,B7:=b.A7.B7,D6:=b.A7.D6,B4:=b.A7.B4,B1:=b.A7.B1,C0:=b.A7.C0},[]):=λl=>by kernel_rfl
  rw[c,c,e,e];exact z _ _
 ·have c:∀l:List Int,Q0r (setMem b l) 5 v at0=(setMem {b with A7:=(Q7v b.A7 l 5 v at0).1} l,(Q7v b.A7 l 5 v at0).2):=λl=>by kernel_rfl
  have e:∀l:List Int,Q7v b.A7 l 5 v at0=({Blocks:=b.A7.Blocks,B8:=b.A7.B8,Frame:=v,B7:=b.A7.B7,D6:=b.A7.D6,B4:=b.A7.B4,B1:=b.A7.B1,C0:=b.A7.C0},[]):=λl=>by kernel_rfl
  rw[c,c,e,e];exact z _ _
 ·have c:∀l:List Int,Q0r (setMem b l) 6 v at0=(setMem {b with A7:=(Q7v b.A7 l 6 v at0).1} l,(Q7v b.A7 l 6 v at0).2):=λl=>by kernel_rfl
  have e:Q7v b.A7 m 6 v at0=Q7v b.A7 n 6 v at0:=by
   have i1:=λ(c:Int) (hc:c=2->b.A7.B7=0->b.A7.B8<b.A7.Blocks->b.A7.Frame<P->D b.A7.Frame.toNat)=>vk h hn hD hd hc at0
   have c1:wrap .i64 v=2->b.A7.B7=0->b.A7.B8<b.A7.Blocks->b.A7.Frame<P->D b.A7.Frame.toNat:=λe1 e2 e3=>by
    rw[w64U hv]at e1
    refine(Qon hl hd.frame).1 ?_
    have:Q23 q 6 v=Q0n l b.A7.Frame:=by
     simp only[Q23,Q2r,Tree.m,letv,q1,q2,e1,e2,dY e3];rfl
    rw[this]at hs;exact hs
   simp only[Q7v,Qd8,Tree.m,letv,i1 _ c1]
  rw[c,c,e];exact z _ _
 ·have c:∀l:List Int,Q0r (setMem b l) 7 v at0=(setMem {b with C1:=(Qbe b.C1 l 7 v at0).1} l,(Qbe b.C1 l 7 v at0).2):=λl=>by kernel_rfl
  have e:∀l:List Int,Qbe b.C1 l 7 v at0=({Frame:=v,D8:=b.C1.D8,C3:=b.C1.C3,B6:=b.C1.B6,B5:=b.C1.B5,E0:=b.C1.E0},[]):=λl=>by kernel_rfl
  rw[c,c,e,e];exact z _ _
 ·have c:∀l:List Int,Q0r (setMem b l) 8 v at0=(setMem {b with C1:=(Qbe b.C1 l 8 v at0).1} l,(Qbe b.C1 l 8 v at0).2):=λl=>by kernel_rfl
  have e:∀l:List Int,Qbe b.C1 l 8 v at0=({Frame:=b.C1.Frame,D8:=v,C3:=b.C1.C3,B6:=b.C1.B6,B5:=b.C1.B5,E0:=b.C1.E0},[]):=λl=>by kernel_rfl
  rw[c,c,e,e];exact z _ _
 ·have c:∀l:List Int,Q0r (setMem b l) 9 v at0=(setMem {b with C1:=(Qbe b.C1 l 9 v at0).1} l,(Qbe b.C1 l 9 v at0).2):=λl=>by kernel_rfl
  have e:Qbe b.C1 m 9 v at0=Qbe b.C1 n 9 v at0:=by
   simp only[Qbe,Qh4,Tree.m,letv,yk h hn]
   refine cc (λ_=>rfl) λ_=>cc (λ_=>rfl) λ_=>cc (λ_=>cc (λh1=>?_) λ_=>rfl) λ_=>rfl
   have e1:v=1:=eq_of_beq h1
   rw[qG h hn hD hc (λa1 a2=>?_) at0]
   refine(Qon hl hc.frame).1 ?_
   have:Q23 q 9 v=Q0n l b.C1.Frame:=by
    simp only[Q23,Q2r,Tree.m,letv,q1,q3,e1,dY (show b.C1.D8>=1 from a1),dY a2];rfl
   rw[this]at hs;exact hs
  rw[c,c,e];exact z _ _
 ·have c:∀l:List Int,Q0r (setMem b l) 10 v at0=(setMem {b with A0:=(Q36 b.A0 l 10 v).1} (Q36 b.A0 l 10 v).2,[]):=λl=>by kernel_rfl
  rw[c,c]
  simp only[Q36,Q32,Tree.m,letv,Q1u h,Q1u hn,w64U hv,Q02]
  cases h1:decide (v>=32)
  case true=>exact z b _
  cases h2:decide (v<(P:Int))
  case false=>exact z b _
  cases h3:iand .u32 b.A0.B9 (ishl .u32 1 v)==0
  case false=>exact z b _
  have e1:=oN h1
  have e2:=oY h2
  have hq:D v.toNat:=by
   refine hs _ ?_
   have:Q23 q 10 v=Q7k .u32 (Q0n l v) b.A0.B9:=by
    simp only[Q23,Q2r,Tree.m,letv,q1,q4];rfl
   rw[this,Qyg (Q6a hl hv).1 hg]
   refine⟨((Q6a hl hv).2 _).2 ⟨by have:=hv.1;omega,e2⟩,(z7 hv.1 (by omega) _ hg).1 h3⟩
  have hr:(strings_Repeat [(0:UInt8)] 128).length=128:=by decide
  have r1:=Zdd h hn hD hv.1 e2 hq hr
  have r2:=Zdd hn h hD.symm hv.1 e2 hq hr
  exact⟨{b with A0:={C4:=b.A0.C4,B9:=ior .u32 b.A0.B9 (ishl .u32 1 v)}},_,_,[],rfl,rfl,r1.1,r1.2,r2.2⟩
 ·have c:∀l:List Int,Q0r (setMem b l) 11 v at0=(setMem {b with A0:=(Q36 b.A0 l 11 v).1} (Q36 b.A0 l 11 v).2,[]):=λl=>by kernel_rfl
  rw[c,c]
  simp only[Q36,Q32,Tree.m,letv,Q02]
  cases decide (v>=32)
  ·exact z {b with A0:={C4:=b.A0.C4,B9:=Q7k .u32 b.A0.B9 (ishl .u32 1 v)}} _
  ·exact z b _
 all_goals
  have c:∀l:List Int,Q0r (setMem b l) port v at0=(setMem b l,[]):=λl=>by
   have nn:∀k:Int,0<=k->k<12->(port==k)=false:=λk h0 h1=>beq_eq_false_iff_ne.2 (by omega)
   simp only[Q0r,Q37,Tree.m,nn 0 (by decide) (by decide),nn 3 (by decide) (by decide),nn 4 (by decide) (by decide),nn 5 (by decide) (by decide),nn 6 (by decide) (by decide),nn 7 (by decide) (by decide),nn 8 (by decide) (by decide),nn 9 (by decide) (by decide),nn 10 (by decide) (by decide),nn 11 (by decide) (by decide),cond_false]
  rw[c,c];exact z _ _
end
theorem y7(c:Q01)(i:Q0f):(Q4v c i).2.C2=2->i.Op=61/\(Q4v c i).2.C5=wrap .i64 i.Imm/\(Q4v c i).2.Value=regX c i.A:=by
 by_cases h61:i.Op=61
 ·obtain⟨op,A,B,C,Imm⟩:=i
  change op=61 at h61
  subst h61
  intro _
  exact⟨rfl,by kernel_rfl,by kernel_rfl⟩
 ·intro hk
  refine absurd hk ?_
  show Tree.V (Q3g c i) (λx=>¬x.2.C2=2)
  unfold Q3g
  repeat' first
   |exact v_lf (show¬(0:Int)=2 by decide)
   |exact v_lf (show¬(1:Int)=2 by decide)
   |exact v_lf (show¬(3:Int)=2 by decide)
   |exact v_lf (show¬(4:Int)=2 by decide)
   |exact v_lf (show¬(5:Int)=2 by decide)
   |exact absurd (eq_of_beq (by assumption)) h61
   |refine v_cn ?_
   |refine v_an ?_
   |refine v_lv λ_ _=>?_
   |refine v_br (λ_=>?_) (λ_=>?_)
def vaO(c:Q01)(i:Q0f):Int:=wrap .u32 (aK (A16.l c.X) (dB (iand .i64 i.B 15)) 0+wrap .u32 i.Imm)
theorem Z9(q:Q00)(c:Q01)(m:List Int)(i:Q0f):Q1f q c m i=bif i.Op==32 then Q0m c m (vaO c i) 4 2 else bif i.Op==33 then Q0m c m (vaO c i) 1 2 else bif i.Op==34 then Q0m c m (vaO c i) 1 2 else bif i.Op==35 then Q0m c m (vaO c i) 4 3 else bif i.Op==36 then Q0m c m (vaO c i) 1 3 else bif i.Op==61 then Q23 q (wrap .i64 i.Imm) (aK (A16.l c.X) (dB (iand .i64 i.A 15)) 0)else 0:=by kernel_rfl
theorem and15{b:Int}(h0:0<=b)(h1:b<16):iand .i64 b 15=b:=by
 have:b=0\/b=1\/b=2\/b=3\/b=4\/b=5\/b=6\/b=7\/b=8\/b=9\/b=10\/b=11\/b=12\/b=13\/b=14\/b=15:=by omega
 rcases this with rfl|rfl|rfl|rfl|rfl|rfl|rfl|rfl|rfl|rfl|rfl|rfl|rfl|rfl|rfl|rfl<;>rfl
theorem va_U(c:Q01)(B Imm:Int):U (va c B Imm):=Q0p _
def XRel{α:Type}(D:Nat->Prop)(m n:List Int)(x y:Q01×List Int×α):Prop:=x.1=y.1/\x.2.2=y.2.2/\Agr D x.2.1 y.2.1/\Kept D m x.2.1/\Kept D n y.2.1
section
variable {P:Nat} {m n:List Int} (h:Q0s P m) (hn:Q0s P n) {D:Nat->Prop} (hD:Agr D m n) {c:Q01} (hc:Q2d c)
include h hn hD hc
theorem xl(A:Int){v:Int}(hv:U v){s:Int}(hs:s=1\/s=4)(f:Int->Int)(hsub:Sub (Q0m c m v s 2) D):XRel D m n ((ldP c A v s f (Q0t c m v s 2)).1,(ldP c A v s f (Q0t c m v s 2)).2,eff0) ((ldP c A v s f (Q0t c n v s 2)).1,(ldP c A v s f (Q0t c n v s 2)).2,eff0):=by
 have r:=Qq7 h hn hD hc hv hs (k:=2) (.inr (.inl rfl)) hsub
 have o1:=(Tree.pp (Q7b h (c:=c) hv hs 2)).2.2
 have o2:=(Tree.pp (Q7b hn (c:=c) hv hs 2)).2.2
 change Q0s P (Q0t c m v s 2).2.1 at o1
 change Q0s P (Q0t c n v s 2).2.1 at o2
 unfold ldP
 rw[<-r.c]
 cases h0:(Q0t c m v s 2).2.2 !=0
 ·have h0:(Q0t c m v s 2).2.2=0:=by simpa using h0
  have e:=Qr8 o1 o2 r.agr r.u hs (r.i h0)
  simp only[fF,fG,cond_true,cond_false]
  rw[e,r.a]
  exact⟨by trivial,by trivial,r.agr,r.km,r.kn⟩
 ·simp only[fF,fG,cond_true,cond_false]
  exact⟨by trivial,by trivial,r.agr,r.km,r.kn⟩
theorem vP(A:Int){v:Int}(hv:U v){s:Int}(hs:s=1\/s=4)(hsub:Sub (Q0m c m v s 3) D):XRel D m n ((stP c A v s (Q0t c m v s 3)).1,(stP c A v s (Q0t c m v s 3)).2,eff0) ((stP c A v s (Q0t c n v s 3)).1,(stP c A v s (Q0t c n v s 3)).2,eff0):=by
 have r:=Qq7 h hn hD hc hv hs (k:=3) (.inr (.inr rfl)) hsub
 have o1:=(Tree.pp (Q7b h (c:=c) hv hs 3)).2.2
 have o2:=(Tree.pp (Q7b hn (c:=c) hv hs 3)).2.2
 change Q0s P (Q0t c m v s 3).2.1 at o1
 change Q0s P (Q0t c n v s 3).2.1 at o2
 unfold stP
 rw[<-r.c,<-r.a]
 cases h0:(Q0t c m v s 3).2.2 !=0
 ·have h0:(Q0t c m v s 3).2.2=0:=by simpa using h0
  have e:=Qsz o1 o2 r.agr r.u hs (r.i h0) (v:=aK (A16.l c.X) A.toNat 0)
  have e':=Qsz o2 o1 r.agr.symm r.u hs (r.i h0) (v:=aK (A16.l c.X) A.toNat 0)
  simp only[fF,fG,cond_true,cond_false]
  exact⟨by trivial,by trivial,e.1,r.km.trans e.2,r.kn.trans e'.2⟩
 ·simp only[fF,fG,cond_true,cond_false]
  exact⟨by trivial,by trivial,r.agr,r.km,r.kn⟩
theorem xG{i:Q0f}(hi:Qax i)(q:Q00)(hs:Sub (Q1f q c m i) D):XRel D m n (Q3z c m i) (Q3z c n i)/\((Q3z c m i).2.2.C2=2->Sub (Q23 q (Q3z c m i).2.2.C5 (Q3z c m i).2.2.Value) D/\U (Q3z c m i).2.2.Value):=by
 obtain⟨op,A,B,C,Imm⟩:=i
 have hB:iand .i64 B 15=B:=and15 hi.b.1 hi.b.2
 have hA:iand .i64 A 15=A:=and15 hi.a.1 hi.a.2
 have ev:vaO c ⟨op,A,B,C,Imm⟩=va c B Imm:=by unfold vaO va;rw[hB]
 obtain⟨⟨l32,_⟩,⟨l33,_⟩,⟨l34,_⟩,⟨s35,_⟩,⟨s36,_⟩⟩:=ld_eq c m A B C Imm
 obtain⟨⟨k32,_⟩,⟨k33,_⟩,⟨k34,_⟩,⟨t35,_⟩,⟨t36,_⟩⟩:=ld_eq c n A B C Imm
 rw[Z9,ev]at hs
 have e0:∀{X:Prop},eff0.C2=2->X:=λe=>absurd e (by decide)
 by_cases h32:op=32
 ·subst h32
  refine⟨?_,λe=>e0 e⟩
  show XRel D m n ((Q2j c m _).1,(Q2j c m _).2,eff0) ((Q2j c n _).1,(Q2j c n _).2,eff0)
  rw[l32,k32];exact xl h hn hD hc A (va_U _ _ _) (.inr rfl) _ hs
 by_cases h33:op=33
 ·subst h33
  refine⟨?_,λe=>e0 e⟩
  show XRel D m n ((Q2j c m _).1,(Q2j c m _).2,eff0) ((Q2j c n _).1,(Q2j c n _).2,eff0)
  rw[l33,k33];exact xl h hn hD hc A (va_U _ _ _) (.inl rfl) _ hs
 by_cases h34:op=34
 ·subst h34
  refine⟨?_,λe=>e0 e⟩
  show XRel D m n ((Q2j c m _).1,(Q2j c m _).2,eff0) ((Q2j c n _).1,(Q2j c n _).2,eff0)
  rw[l34,k34];exact xl h hn hD hc A (va_U _ _ _) (.inl rfl) _ hs
 by_cases h35:op=35
 ·subst h35
  refine⟨?_,λe=>e0 e⟩
  show XRel D m n ((Q3a c m _).1,(Q3a c m _).2,eff0) ((Q3a c n _).1,(Q3a c n _).2,eff0)
  rw[s35,t35];exact vP h hn hD hc A (va_U _ _ _) (.inr rfl) hs
 by_cases h36:op=36
 ·subst h36
  refine⟨?_,λe=>e0 e⟩
  show XRel D m n ((Q3a c m _).1,(Q3a c m _).2,eff0) ((Q3a c n _).1,(Q3a c n _).2,eff0)
  rw[s36,t36];exact vP h hn hD hc A (va_U _ _ _) (.inl rfl) hs
 have b:∀{k:Int},op≠k->(op==k)=false:=λe=>beq_false_of_ne e
 have ep:∀l:List Int,Q3z c l ⟨op,A,B,C,Imm⟩=((Q4v c ⟨op,A,B,C,Imm⟩).1,l,(Q4v c ⟨op,A,B,C,Imm⟩).2):=λl=>by
  simp only[Q3z,b h32,b h33,b h34,b h35,b h36,cond_false]
 rw[ep,ep]
 refine⟨⟨rfl,rfl,hD,Kept.rfl,Kept.rfl⟩,λhk=>?_⟩
 obtain⟨x1,x2,x3⟩:=y7 c ⟨op,A,B,C,Imm⟩ hk
 change op=61 at x1
 subst x1
 show Sub (Q23 q (Q4v c ⟨61,A,B,C,Imm⟩).2.C5 (Q4v c ⟨61,A,B,C,Imm⟩).2.Value) D/\U (Q4v c ⟨61,A,B,C,Imm⟩).2.Value
 rw[x2,x3]
 change Sub (Q23 q (wrap .i64 Imm) (aK (A16.l c.X) (dB (iand .i64 A 15)) 0)) D at hs
 rw[hA]at hs
 exact⟨hs,hc.r _⟩
end
def nd(q:Q00)(c:Q01)(m:List Int):Int:=
 bif(Q0o c m).2.2 !=0 then Q0m c m c.Pc 4 1 else bif !(Q19 (Q0o c m).1).2 then Q0m c m c.Pc 4 1 else bif Q34 c then(bif Q2c (Q19 (Q0o c m).1).1.Op then Q0m c m c.Pc 4 1 else ior .u32 (Q0m c m c.Pc 4 1) (Q1f q c (Q0o c m).2.1 (Q19 (Q0o c m).1).1))else ior .u32 (Q0m c m c.Pc 4 1) (Q1f q c (Q0o c m).2.1 (Q19 (Q0o c m).1).1)
theorem Zbs(m:Q00):Q16 m=bif !Q10 m then 0 else bif m.A6 then 0 else bif Q4k m then 0 else bif decide (m.A3>=1152921504606846976)then 0 else nd m (bif iand .u32 (Q31 m) m.B2.B3.a7 !=0 then(bif iand .u32 m.B2.B3.a0 2 !=0 then Q2z m.B2 (wrap .i64 (16+Q0j (iand .u32 (Q31 m) m.B2.B3.a7))) 0 else m.B2)else m.B2) m.Mem:=by
 simp only[Q16,Q5z,Tree.m,letv]
 cases Q10 m
 case false=>rfl
 cases m.A6
 case true=>rfl
 cases Q4k m
 case true=>rfl
 cases decide (m.A3>=1152921504606846976)
 case true=>rfl
 cases iand .u32 (Q31 m) m.B2.B3.a7 !=0
 ·rfl
 ·cases iand .u32 m.B2.B3.a0 2 !=0
  ·rfl
  ·rfl
section
variable {P:Nat} {m:List Int} (h:Q0s P m)
include h
theorem Z7a{c:Q01}(hc:Q2d c){v:Int}(hv:U v)(s k:Int):U (Q0m c m v s k):=by
 rw[Qkc]
 cases dA v s !=0
 case true=>exact U_0
 cases Q34 c
 case false=>exact sgV_U h _
 cases iand .u32 c.B3.a0 4==0
 case true=>exact sgV_U h _
 cases decide (v>=4096)
 case true=>exact U_0
 show U (bif(Q0z m c.B3.a6 v k).D0==0 then _ else _)
 cases(Q0z m c.B3.a6 v k).D0==0
 ·exact(Q6a h hc.a6).1
 ·exact U_or _ _
omit h in
theorem out_U{q:Q00}(hq:Q0s P q.Mem)(hd:Q5u q.A7)(hn:Qco q.C1)(port:Int){v:Int}(hv:U v):U (Q23 q port v):=by
 show Tree.V (Q2r q port v) U
 unfold Q2r
 repeat' first
  |exact v_lf U_0
  |exact v_lf (Z0a _ _)
  |(refine v_lv λx hx=>?_;subst hx;first|exact v_lf (Q6a hq hd.frame).1|exact v_lf (Q6a hq hn.frame).1|exact v_lf (Z0a _ _))
  |refine v_an ?_
  |refine v_br (λ_=>?_) (λ_=>?_)
theorem qQ{q:Q00}(hq:Q0s P q.Mem)(hd:Q5u q.A7)(hn:Qco q.C1){c:Q01}(hc:Q2d c)(i:Q0f):U (Q1f q c m i):=by
 rw[Z9]
 have a:=λs k=>Z7a h hc (v:=vaO c i) (Q0p _) s k
 cases i.Op==32
 case true=>exact a 4 2
 cases i.Op==33
 case true=>exact a 1 2
 cases i.Op==34
 case true=>exact a 1 2
 cases i.Op==35
 case true=>exact a 4 3
 cases i.Op==36
 case true=>exact a 1 3
 cases i.Op==61
 case true=>exact out_U hq hd hn _ (hc.r _)
 exact U_0
end
theorem decP(w:Int):(Q19 w).2=true->Qax (Q19 w).1:=(Tree.pp (Qn9 w)).2
attribute [local irreducible] Q0m Q1f
def goes(c:Q01)(w k:Int):Bool:=bif k !=0 then false else bif !(Q19 w).2 then false else bif Q34 c then !Q2c (Q19 w).1.Op else true
def trapX(c:Q01)(w k:Int):Q01:=bif k !=0 then Q2z c k c.Pc else bif !(Q19 w).2 then Q2z c 1 w else Q2z c 2 w
theorem nd_eq(q:Q00)(c:Q01)(m:List Int):nd q c m=bif goes c (Q0o c m).1 (Q0o c m).2.2 then ior .u32 (Q0m c m c.Pc 4 1) (Q1f q c (Q0o c m).2.1 (Q19 (Q0o c m).1).1)else Q0m c m c.Pc 4 1:=by
 unfold nd goes
 cases(Q0o c m).2.2 !=0
 case true=>rfl
 cases(Q19 (Q0o c m).1).2
 case false=>rfl
 cases Q34 c
 case false=>rfl
 cases Q2c (Q19 (Q0o c m).1).1.Op<;>rfl
theorem Zi2(c:Q01)(m:List Int):Q2i c m=bif goes c (Q0o c m).1 (Q0o c m).2.2 then Q3z c (Q0o c m).2.1 (Q19 (Q0o c m).1).1 else(trapX c (Q0o c m).1 (Q0o c m).2.2,(Q0o c m).2.1,eff0):=by
 rw[vi]
 unfold doP goes trapX
 rw[Qla]
 cases(Q0o c m).2.2 !=0
 case true=>rfl
 cases(Q19 (Q0o c m).1).2
 case false=>rfl
 cases Q2c (Q19 (Q0o c m).1).1.Op<;>cases Q5d c<;>rfl
theorem v7{c:Q01}{w k:Int}(h:goes c w k=true):k=0/\(Q19 w).2=true:=by
 unfold goes at h
 cases h1:k !=0
 ·rw[h1]at h
  cases h2:(Q19 w).2
  ·rw[h2]at h;cases h
  ·exact⟨by simpa using h1,rfl⟩
 ·rw[h1]at h;cases h
attribute [local irreducible] Q19
section
variable {P:Nat} {m n:List Int} (h:Q0s P m) (hn:Q0s P n) {D:Nat->Prop} (hD:Agr D m n) {c:Q01} (hc:Q2d c)
include h hc
theorem xap{q:Q00}(hq:Q0s P q.Mem)(hd:Q5u q.A7)(hk:Qco q.C1):Sub (nd q c m) D↔Sub (Q0m c m c.Pc 4 1) D/\(goes c (Q0o c m).1 (Q0o c m).2.2=true->Sub (Q1f q c (Q0o c m).2.1 (Q19 (Q0o c m).1).1) D):=by
 obtain⟨_,o1⟩:=(Tree.pp (Qig h hc)).2
 change Q0s P (Q0o c m).2.1 at o1
 have au:=Z7a h hc hc.pc 4 1
 have ou:=qQ o1 hq hd hk hc (Q19 (Q0o c m).1).1
 rw[nd_eq]
 generalize Q0o c m=F at*
 cases goes c F.1 F.2.2
 ·simp only[fF,fG,cond_true,cond_false]
  exact⟨λx=>⟨x,λe=>by cases e⟩,λx=>x.1⟩
 ·simp only[fF,fG,cond_true,cond_false]
  exact(Sub.or au ou).trans ⟨λx=>⟨x.1,λ_=>x.2⟩,λx=>⟨x.1,x.2 (by trivial)⟩⟩
omit h hc in
theorem XRel.on{α:Type}{m1 n1:List Int}(k1:Kept D m m1)(k2:Kept D n n1){x y:Q01×List Int×α}(r:XRel D m1 n1 x y):XRel D m n x y:=⟨r.1,r.2.1,r.2.2.1,k1.trans r.2.2.2.1,k2.trans r.2.2.2.2⟩
include hn hD
theorem zG{q:Q00}(hq:Q0s P q.Mem)(hd:Q5u q.A7)(hk:Qco q.C1)(hs:Sub (nd q c m) D):XRel D m n (Q2i c m) (Q2i c n)/\((Q2i c m).2.2.C2=2->Sub (Q23 q (Q2i c m).2.2.C5 (Q2i c m).2.2.Value) D/\U (Q2i c m).2.2.Value):=by
 obtain⟨w1,o1⟩:=(Tree.pp (Qig h hc)).2
 obtain⟨_,o2⟩:=(Tree.pp (Qig hn hc)).2
 change U (Q0o c m).1 at w1
 change Q0s P (Q0o c m).2.1 at o1
 change Q0s P (Q0o c n).2.1 at o2
 obtain⟨s1,s2⟩:=(xap h hc hq hd hk).1 hs
 obtain⟨f1,f2,f3,f4,f5⟩:=zk h hn hc hD s1
 rw[Zi2 c m,Zi2 c n,<-f1,<-f2]
 have hi:=decP (Q0o c m).1
 generalize Q0o c m=F at*
 generalize Q0o c n=G at*
 cases hg:goes c F.1 F.2.2
 ·simp only[fF,fG,cond_true,cond_false]
  exact⟨⟨by trivial,by trivial,f3,f4,f5⟩,λe=>absurd e (by decide)⟩
 ·simp only[fF,fG,cond_true,cond_false]
  obtain⟨p1,p2⟩:=xG o1 o2 f3 hc (hi (v7 hg).2) q (s2 hg)
  exact⟨XRel.on f4 f5 p1,p2⟩
end
theorem z8{l:Int}(h0:0<=l)(h1:l<32)(hl:l≠0):Q0j l=low l:=by
 rcases Zha h0 h1 with rfl|rfl|rfl|rfl|rfl|rfl|rfl|rfl|rfl|rfl|rfl|rfl|rfl|rfl|rfl|rfl|rfl|rfl|rfl|rfl|rfl|rfl|rfl|rfl|rfl|rfl|rfl|rfl|rfl|rfl|rfl|rfl
 ·exact absurd rfl hl
 all_goals rfl
theorem qaq{m:Q00}(h:okV m)(hst:m.B2.B3.a0<=31):(bif iand .u32 (Q31 m) m.B2.B3.a7 !=0 then(bif iand .u32 m.B2.B3.a0 2 !=0 then Q2z m.B2 (wrap .i64 (16+Q0j (iand .u32 (Q31 m) m.B2.B3.a7))) 0 else m.B2)else m.B2)=Q09 m:=by
 obtain⟨l0,l1⟩:=Quj h
 have el:iand .u32 (Q31 m) m.B2.B3.a7=Q2f m:=by rw[Z56 h];rfl
 rw[rintr h,el]
 unfold intr
 rw[bne,bne]
 cases h1:Q2f m==0
 ·have h1:Q2f m≠0:=by simpa using h1
  rw[z8 l0 l1 h1,Qjl h.cpu.a0.1 hst]
  cases iand .u32 m.B2.B3.a0 2==0<;>rfl
 ·cases iand .u32 m.B2.B3.a0 2==0<;>rfl
theorem Zix(b:Q00)(l:List Int)(p c:Int):Q0q (setMem b l) p c=(setMem (Q0q b p c).1 l,(Q0q b p c).2):=by
 simp only[Q0q,Q3e,Tree.m,letv]
 cases p==0
 case true=>rfl
 cases p==1
 case true=>rfl
 cases p==2
 case true=>rfl
 cases p==3
 case true=>rfl
 cases p==4
 case true=>rfl
 cases p==5
 case true=>rfl
 cases p==6
 case true=>rfl
 cases p==7
 case true=>rfl
 cases p==8
 case true=>rfl
 cases p==9
 case true=>rfl
 cases p==10
 case true=>rfl
 cases p==11<;>rfl
section
variable {P:Nat} {b:Q00} {m n:List Int} (h:Q0s P m) (hn:Q0s P n)
include h hn
theorem zl:Q10 (setMem b m)=Q10 (setMem b n):=by
 simp only[Q10,Q6l,Q1,Q1z,Tree.m,letv,setMem,Q1u h,Q1u hn]
 rfl
theorem Zi4:Q17 (setMem b m)=Q17 (setMem b n):=by
 have e:=zl (b:=b) h hn
 simp only[Q17,Q3c,Tree.m,letv]
 rw[e]
 rfl
end
theorem Zcj{b:Q00}{m:List Int}(hv:okV (setMem b m))(hr:Q17 (setMem b m)=true):Q16 (setMem b m)=nd (setMem b m) (Q09 (setMem b m)) m:=by
 obtain⟨r1,r2,r3⟩:=Qkq hr
 have r4:Q4k (setMem b m)=false:=by
  cases hi:Q4k (setMem b m)
  ·rfl
  ·simp only[Q17,Q3c,Tree.m,letv,r1,r2,hi]at hr
   cases hr
 rw[Zbs,r1,r2,r4,dN (by omega),qaq hv ((Qj7 _).1 r1).2.1.st]
 rfl
theorem Zkw{b:Q00}{m:List Int}(hr:Q17 (setMem b m)=false):Q16 (setMem b m)=0:=by
 rw[Zbs]
 simp only[Q17,Q3c,Tree.m,letv]at hr
 cases h1:Q10 (setMem b m)
 case false=>rfl
 rw[h1]at hr
 cases h2:(setMem b m).A6
 case true=>rfl
 rw[h2]at hr
 cases h3:Q4k (setMem b m)
 case true=>rfl
 rw[h3]at hr
 have:¬(setMem b m).A3<1152921504606846976:=oN hr
 rw[dY (by omega)]
 rfl
section
variable {P:Nat} {b:Q00} {m n:List Int} (h:Q0s P m) (hn:Q0s P n) (hv:okV (setMem b m)) (hvn:okV (setMem b n)) {D:Nat->Prop} (hD:Agr D m n)
include h hn hv hvn
theorem yG:Q09 (setMem b n)=Q09 (setMem b m):=by
 rw[rintr hv,rintr hvn];rfl
include hD
theorem y8{b':Q00}{m1 n1:List Int}(o1:Q0s P m1)(o2:Q0s P n1)(ha:Agr D m1 n1)(k1:Kept D m m1)(k2:Kept D n n1)(e1:b'.A7=b.A7)(e2:b'.C1=b.C1)(e3:b'.A0=b.A0)(e:Q1b)(clock at0:Int)(hs:e.C2=2->Sub (Q23 (setMem b m) e.C5 e.Value) D/\U e.Value):Two D m n (finP (setMem b' m1) e clock at0) (finP (setMem b' n1) e clock at0):=by
 have z:∀(z:Q00) (o:List Q0b),Two D m n (setMem z m1,o) (setMem z n1,o):=λz o=>⟨z,m1,n1,o,rfl,rfl,ha,k1,k2⟩
 unfold finP
 cases h1:e.C2==1
 ·cases h2:e.C2==2
  ·cases h3:e.C2==3
   ·cases h4:e.C2==4
    ·exact z {b' with A3:=wrap .u64 (b'.A3+1)} []
    ·exact z {b' with A3:=wrap .u64 (b'.A3+1),A6:=true} []
   ·exact z {b' with A3:=wrap .u64 (b'.A3+1),A4:=true} []
  ·obtain⟨hs,hu⟩:=hs (eq_of_beq h2)
   obtain⟨y,m2,n2,o,x1,x2,x3,x4,x5⟩:=ql o1 o2 ha (b:=b') (by rw[e1];exact hv.disk) (by rw[e2];exact hv.nic) (by rw[e3];exact hv.bal.2) h (q:=setMem b m) rfl e1.symm e2.symm e3.symm e.C5 hu at0 hs
   rw[x1,x2]
   exact⟨{y with A3:=wrap .u64 (y.A3+1)},m2,n2,o,rfl,rfl,x3,k1.trans x4,k2.trans x5⟩
 ·rw[Zix,Zix]
  cases e.D7 !=0
  ·exact z {(Q0q b' e.C5 clock).1 with A3:=wrap .u64 ((Q0q b' e.C5 clock).1.A3+1)} []
  ·exact z {(Q0q b' e.C5 clock).1 with A3:=wrap .u64 ((Q0q b' e.C5 clock).1.A3+1),B2:={X:=A16.of 0 (List.set (A16.l (Q0q b' e.C5 clock).1.B2.X) e.D7.toNat (Q0q b' e.C5 clock).2),Pc:=(Q0q b' e.C5 clock).1.B2.Pc,B3:=(Q0q b' e.C5 clock).1.B2.B3}} []
theorem Zhm(hr:Q17 (setMem b m)=true):Q2d (Q09 (setMem b m)):=by
 obtain⟨g1,g2,g3,g4,g5⟩:=(Qj7 _).1 (Qkq hr).1
 have okm:okS P (setMem b m):=⟨hv.cpu,h,hv.disk,hv.nic,hv.bal.1,hv.bal.2⟩
 have b2:=((Tree.pp (Z05 okm g2)).2).2.1
 change okS P (Q1a (setMem b m))at b2
 rw[Qo9 hv g2.st]at b2
 exact b2.cpu
theorem vG(hs:Sub (Q16 (setMem b m)) D)(clock:Int):Two D m n (Q11 (setMem b m) clock) (Q11 (setMem b n) clock):=by
 rw[Qr9,Qr9,<-Zi4 h hn]
 cases hr:Q17 (setMem b m)
 ·exact Two.mk0 hD b []
 ·have hrn:Q17 (setMem b n)=true:=by rw[<-Zi4 h hn];exact hr
  rw[Zcj hv hr]at hs
  have hc:=Zhm h hn hv hvn hD hr
  obtain⟨x1,x2⟩:=zG h hn hD hc (q:=setMem b m) h hv.disk hv.nic hs
  rw[Qo9 hv ((Qj7 _).1 (Qkq hr).1).2.1.st,Qo9 hvn ((Qj7 _).1 (Qkq hrn).1).2.1.st,yG h hn hv hvn]
  obtain⟨y1,y2,y3,y4,y5⟩:=x1
  have o1:=(Tree.pp (Zhc hc h)).2.2.1
  have o2:=(Tree.pp (Zhc hc hn)).2.2.1
  change Q0s P (Q2i (Q09 (setMem b m)) m).2.1 at o1
  change Q0s P (Q2i (Q09 (setMem b m)) n).2.1 at o2
  have f:=y8 (b':={b with B2:=(Q2i (Q09 (setMem b m)) m).1,A4:=false}) h hn hv hvn hD o1 o2 y3 y4 y5 rfl rfl rfl (Q2i (Q09 (setMem b m)) m).2.2 clock b.A3 x2
  have e2:(finP (setMem {b with B2:=(Q2i (Q09 (setMem b m)) m).1,A4:=false} (Q2i (Q09 (setMem b m)) n).2.1) (Q2i (Q09 (setMem b m)) m).2.2 clock b.A3)=(finP (setMem {b with B2:=(Q2i (Q09 (setMem b m)) n).1,A4:=false} (Q2i (Q09 (setMem b m)) n).2.1) (Q2i (Q09 (setMem b m)) n).2.2 clock b.A3):=by rw[y1,y2]
  rw[e2]at f
  exact f
end
theorem yl(m:Q00)(e:Q0v):Q78 m e=bif e.C2==4 then(bif(Q1y m e).2 then(bif e.N==1 then(bif m.A7.D6==1 then Q0n m.Mem m.A7.B1 else 0)else 0)else 0)else bif e.C2==5 then(bif(Q1y m e).2 then Q0n m.Mem m.C1.B6 else 0)else 0:=by kernel_rfl
section
variable {P:Nat} {m n:List Int} (h:Q0s P m) (hn:Q0s P n) {D:Nat->Prop} (hD:Agr D m n)
include h hn
include hD
end
theorem Zde{x:Nat}(h0:x≠0)(h:x<2^32):Lib.ctz 32 x<32/\x.testBit (Lib.ctz 32 x)=true/\(∀j,j<Lib.ctz 32 x->x.testBit j=false)/\(∀j,(x&&&(x-1)).testBit j=(x.testBit j&&!decide (j=Lib.ctz 32 x)))/\x&&&(x-1)<x:=by
 have e:Lib.ctz 32 x=Lib.ctzFrom 32 x:=by unfold Lib.ctz;rw[if_neg h0]
 obtain⟨m,hm,ht⟩:=Lib.ctzFrom_spec 32 x (by omega) h
 rw[<-e]at hm ht
 generalize Lib.ctz 32 x=t at*
 have p:=Nat.two_pow_pos t
 have hs:2^(t+1)=2^t*2:=Nat.pow_succ 2 t
 have ex:x=2^(t+1)*m+2^t:=by rw[hs,Nat.mul_assoc,hm];rw[Nat.mul_add,Nat.mul_one]
 have ey:x-1=2^(t+1)*m+(2^t-1):=by omega
 have bx:∀j,x.testBit j=if j<t+1 then decide (t=j)else m.testBit (j-(t+1)):=λj=>by
  rw[ex,fJ _ (by omega),fD]
 have bn:∀j,(x-1).testBit j=if j<t+1 then decide (j<t)else m.testBit (j-(t+1)):=λj=>by
  rw[ey,fJ _ (by omega),Nat.testBit_two_pow_sub_one]
 refine⟨ht,by rw[bx];simp,λj hj=>by rw[bx,if_pos (by omega)];simp;omega,λj=>?_,?_⟩
 ·rw[eY,bx,bn]
  by_cases h1:j<t+1
  ·simp only[if_pos h1]
   by_cases h2:t=j
   ·subst h2;simp
   ·simp[h2]
  ·simp only[if_neg h1]
   rw[dN (show¬j=t by omega)]
   simp
 ·exact Nat.lt_of_le_of_lt Nat.and_le_right (by omega)
def mems(S:Int):List Int:=((cY 32).filter λi=>S.toNat.testBit i).map λ(i:Nat)=>(i:Int)
theorem Z4q{p q:Nat->Bool}{t:Nat}(ht:p t=true)(hl:∀j,j<t->p j=false)(hq:∀j,q j=(p j&&!decide (j=t))):∀n:Nat,((cY n).filter p=if t<n then t::(cY n).filter q else[])/\(n<=t->(cY n).filter q=[])
 |0=>⟨by simp,λ_=>rfl⟩
 |n + 1 =>by
  obtain⟨h1,h2⟩:=Z4q ht hl hq n
  rw[fK,fL,fL,h1]
  refine⟨?_,λhn=>?_⟩
  ·by_cases hn:t<n
   ·rw[if_pos hn,if_pos (by omega)]
    have:q n=p n:=by rw[hq,dN (by omega:¬n=t)];simp
    simp[fM,this]
   ·rw[if_neg hn,h2 (by omega)]
    by_cases e:n=t
    ·subst e
     rw[if_pos (by omega)]
     have:q n=false:=by rw[hq];simp
     simp[fM,ht,this]
    ·rw[if_neg (by omega)]
     simp[fM,hl n (by omega)]
  ·rw[h2 (by omega)]
   have:q n=false:=by rw[hq,hl n (by omega)];rfl
   simp[fM,this]
theorem zaq:mems 0=[]:=by simp[mems]
theorem xQ(x:Int):Q0j x=(Lib.ctz 32 x.toNat:Int):=rfl
theorem qH{f:Int}(hf:U f)(h0:f≠0):iand .u32 f (wrap .u32 (f-1))=((f.toNat&&&(f.toNat-1):Nat):Int):=by
 obtain⟨f0,f1⟩:=hf
 have e:wrap .u32 (f-1)=f-1:=by rw[wrap_u32];omega
 rw[e,Qzb ⟨f0,f1⟩ ⟨by omega,by omega⟩]
 congr 2
 omega
theorem xH{f:Int}(hf:U f)(h0:f≠0):mems f=Q0j f::mems (iand .u32 f (wrap .u32 (f-1)))/\iand .u32 f (wrap .u32 (f-1))<f/\U (iand .u32 f (wrap .u32 (f-1))):=by
 obtain⟨c1,c2,c3,c4,c5⟩:=Zde (x:=f.toNat) (by have:=hf.1;omega) (by have:=hf.2;omega)
 rw[qH hf h0,xQ]
 refine⟨?_,by have:=hf.1;omega,⟨by omega,by have:=hf.2;omega⟩⟩
 unfold mems
 rw[dZ]
 have:=(Z4q (p:=λi=>f.toNat.testBit i) (q:=λi=>(f.toNat&&&(f.toNat-1)).testBit i) c2 c3 c4 32).1
 rw[this,if_pos c1]
 rfl
theorem xaq{S:Int}(hS:U S):(Q41 S).w (λr=>r=mems S):=by
 unfold Q41
 refine w_lp (inv:=λv=>U v.1/\v.2++mems v.1=mems S/\v.2.length+v.1.toNat<=4294967296) (μ:=Qac S) ⟨hS,rfl,by have:=hS.2;simp;omega⟩ (cL _) (λv hv=>?_)
 obtain⟨v1,v2,v3⟩:=hv
 refine w_br (λhb=>?_) (λhb=>?_)
 ·have hb:v.1≠0:=by simpa using hb
  obtain⟨m1,m2,m3⟩:=xH v1 hb
  refine w_an ⟨v1.1,v1.2⟩ (w_lv λx0 hx=>w_cn (dY ?_) (w_nx ?_))
  ·have:=v1.1;omega
  ·rw[hx]
   refine⟨⟨m3,?_,?_⟩,?_⟩
   ·show(v.2++[_])++mems _=_
    rw[eZ,<-v2,m1];rfl
   ·show(v.2++[_]).length+_<=_
    have:=v1.1;have:=m3.1
    simp;omega
   ·show(iand .u32 v.1 (wrap .u32 (v.1-1))).toNat<v.1.toNat
    have:=v1.1;have:=m3.1;omega
 ·have hb:v.1=0:=by simpa using hb
  rw[hb,zaq,cJ]at v2
  exact v2
theorem Zia{S:Int}(hS:U S)(f:Int):f∈mems S↔0<=f/\inS S f.toNat:=by
 unfold mems
 simp only[List.mem_map,List.mem_filter,List.mem_range]
 constructor
 ·rintro⟨a,⟨h1,h2⟩,rfl⟩;exact⟨by omega,by simpa[inS]using h2⟩
 ·rintro⟨h1,h2⟩
  refine⟨f.toNat,⟨?_,h2⟩,by omega⟩
  refine Decidable.byContradiction λhc=>?_
  have:S.toNat.testBit f.toNat=false:=fI (bI (by have:=hS.2;omega:S.toNat<2^32) (dP (by decide) (by omega)))
  rw[inS,this]at h2;cases h2
theorem Zg9(S:Int):(mems S).Pairwise (· < ·):=by
 unfold mems
 rw[List.pairwise_map]
 refine List.Pairwise.imp (λh=>by omega) (List.Pairwise.filter _ List.pairwise_lt_range)
theorem vl{m:List Int}{f:Int}(hf:U f):(Q48 m f).w (λ_=>True):=by
 unfold Q48
 exact w_lv λ_ _=>w_br (λ_=>trivial) (λ_=>w_cn (dY hf.1) trivial)
theorem Qor(m:List Int){f:Int}(hf:U f):Q1p m f:=(Tree.pp (vl (m:=m) hf)).1
section
variable {P:Nat} {m:List Int} (h:Q0s P m)
include h
theorem Zda{c:Q01}(hc:Q2d c){v:Int}(hv:U v){s:Int}(hs:s=1\/s=4)(k:Int):(Q79 c m v s k).w (λ_=>True):=by
 have sp:∀x,(Tree.an (Q1p m (wrap .u32 x)) (.lv (Q0n m (wrap .u32 x)) λx1=>.lf x1)).w (λ_=>True):=λx=>w_an (Qor m (Q0p _)) (w_lv λ_ _=>trivial)
 unfold Q79
 refine w_cn (dY (by rcases hs with rfl|rfl<;>decide)) (w_br (λ_=>trivial) λ_=>w_lv λx0 _=>w_br (λ_=>sp _) λ_=>w_br (λ_=>sp _) λ_=>w_br (λ_=>trivial) λ_=>w_an (Qor m hc.a6) (w_lv λx3 _=>w_an (Tree.pp (qr h hv k)).1 (w_lv λx4 _=>w_br (λ_=>w_an (Qor m (Q0p _)) (w_lv λ_ _=>trivial)) (λ_=>trivial))))
theorem v8{q:Q00}(hd:Q5u q.A7)(hn:Qco q.C1){c:Q01}(hc:Q2d c){i:Q0f}(hi:Qax i):(Q5e q c m i).w (λ_=>True):=by
 have hB:iand .i64 i.B 15=i.B:=and15 hi.b.1 hi.b.2
 have hA:iand .i64 i.A 15=i.A:=and15 hi.a.1 hi.a.2
 have b1:=hi.b.1;have b2:=hi.b.2;have a1:=hi.a.1;have a2:=hi.a.2
 have ap:∀x {s:Int} (hs:s=1\/s=4) k,(Tree.an (Q28 c m (wrap .u32 x) s k) (.lv (Q0m c m (wrap .u32 x) s k) λx0=>.lf x0)).w (λ_=>True):=λx s hs k=>w_an (Tree.pp (Zda h hc (Q0p _) hs k)).1 (w_lv λ_ _=>trivial)
 have op:∀p {v:Int},U v->(Q2r q p v).w (λ_=>True):=λp v hv=>by
  unfold Q2r
  refine w_br (λ_=>w_br (λ_=>w_br (λ_=>w_br (λ_=>w_an (Qor _ hd.frame) (w_lv λ_ _=>trivial)) λ_=>trivial) λ_=>trivial) λ_=>trivial) λ_=>w_br (λ_=>w_br (λ_=>w_br (λ_=>w_br (λ_=>w_an (Qor _ hn.frame) (w_lv λ_ _=>trivial)) λ_=>trivial) λ_=>trivial) λ_=>trivial) λ_=>w_br (λ_=>w_an (Qor _ hv) (w_lv λ_ _=>trivial)) λ_=>trivial
 unfold Q5e
 refine w_cn (by rw[hB];exact rc ⟨b1,b2⟩) (w_br (λ_=>ap _ (.inr rfl) _) λ_=>w_br (λ_=>ap _ (.inl rfl) _) λ_=>w_br (λ_=>ap _ (.inl rfl) _) λ_=>w_br (λ_=>ap _ (.inr rfl) _) λ_=>w_br (λ_=>ap _ (.inl rfl) _) λ_=>w_br (λ_=>w_cn (by rw[hA];exact rc ⟨a1,a2⟩) (w_an (Tree.pp (op _ (hc.r _))).1 (w_lv λ_ _=>trivial))) λ_=>trivial)
end
theorem Ziy{P:Nat}{m:Q00}(h:okV m)(hm:Q0s P m.Mem):(Q5z m).w (λ_=>True):=by
 have go:∀{c:Q01},Q2d c->(Tree.an (Q28 c m.Mem c.Pc 4 1) (.lv (Q0m c m.Mem c.Pc 4 1) λ(x5:Int)=>.an (Qch c m.Mem) (.lv (Q0o c m.Mem) λ(x6:Int×List Int×Int)=>.br (x6.2.2 !=0) (.lf x5) (.an (Qaj x6.1) (.lv (Q19 x6.1) λ(x7:Q0f×Bool)=>.br (!x7.2) (.lf x5) (.lv (Q34 c) λ(x8:Bool)=>.br x8 (.lv (Q2c x7.1.Op) λ(x9:Bool)=>.br x9 (.lf x5) (.an (Q4f m c x6.2.1 x7.1) (.lv (Q1f m c x6.2.1 x7.1) λ(x10:Int)=>.lf (ior .u32 x5 x10)))) (.an (Q4f m c x6.2.1 x7.1) (.lv (Q1f m c x6.2.1 x7.1) λ(x11:Int)=>.lf (ior .u32 x5 x11))))))))).w (λ_=>True):=fun{c} hc=>by
  refine w_an (Tree.pp (Zda hm hc hc.pc (.inr rfl) 1)).1 (w_lv λx5 _=>Q0c (Qig hm hc) λx6 h6=>w_br (λ_=>trivial) λ_=>w_an (Tree.pp (Qn9 x6.1)).1 (w_lv λx7 e7=>w_br (λ_=>trivial) λhb=>?_))
  have h7:Qax x7.1:=by
   rw[e7];exact decP _ (by rw[<-e7];simpa using hb)
  have o:=(Tree.pp (v8 h6.2 h.disk h.nic hc h7 (q:=m))).1
  exact w_lv λx8 _=>w_br (λ_=>w_lv λx9 _=>w_br (λ_=>trivial) λ_=>w_an o (w_lv λ_ _=>trivial)) λ_=>w_an o (w_lv λ_ _=>trivial)
 have hg:=h.bal.2
 unfold Q5z
 refine w_an (Tree.pp (Zd4 hg)).1 (w_lv λx0 _=>w_br (λ_=>trivial) λ_=>w_br (λ_=>trivial) λ_=>w_an (y0 hg) (w_lv λx1 _=>w_br (λ_=>trivial) λ_=>w_br (λ_=>trivial) λ_=>w_an (Tree.pp (Z8x hg)).1 (w_lv λx2 _=>w_br (λ_=>w_br (λ_=>w_an ⟨(Z7v _ _).1,(Z7v _ _).2⟩ (w_lv λx3 _=>w_lv λx4 h4=>go (by rw[h4];exact Qmi h.cpu _ U_0))) λ_=>go h.cpu) λ_=>go h.cpu)))
theorem Qdh{P:Nat}{m:Q00}(g:good P m){clock:Int}(hc:U clock):good P (Q11 m clock).1/\(Q11 m clock).2.length<=1/\(Q11 m clock).1.A3<=m.A3+1:=by
 cases hs:Q74 m
 ·obtain⟨a,b,c⟩:=Zij g hs hc
  rw[g.step hs];exact⟨a,c,by show(Q22 m clock).2.A3<=_;omega⟩
 ·have e:Q11 m clock=(m,[]):=by rw[Qr9,Z0g g.v,hs];rfl
  rw[e];exact⟨g,Nat.zero_le _,by show m.A3<=m.A3+1;omega⟩
theorem Zfg{P:Nat}{m:Q00}(g:good P m){e:Q0v}(he:U e.N):good P (Q1y m e).1:=by
 rw[g.app];exact(Zhp g he).1
theorem y9{P:Nat}{m:Q00}(g:good P m){clock:Int}(hc:U clock):Ql8 m clock/\Qk4 m clock=Q11 m clock:=by
 refine⟨?_,(Z1j g.v clock).symm⟩
 have:(Qda m clock).w (λ_=>True):=by
  unfold Qda
  refine Q0c (ownV g.len) λx0 h0=>?_
  subst h0
  exact w_an (Tree.pp (xah x0)).1 (w_lv λx1 _=>w_br (λ_=>trivial) λ_=>w_an (Tree.pp (Qu4 g.ok hc)).1 (w_lv λ_ _=>trivial))
 exact(Tree.pp this).1
theorem at_w{kind:Int}{prog:List Int}(hl:prog.length*8<=reachBytes)(h60:prog.length<=60){steps:Int}(s0:0<=steps)(s1:steps<=100):(Qjp kind prog steps).w (λm=>good 8 m/\m.A3<=1000):=by
 unfold Qjp
 obtain⟨a,b⟩:=Qw1 kind prog hl h60
 refine w_an (Tree.pp (Zb6 kind prog hl)).1 (w_lv λx0 h0=>?_)
 rw[<-h0]at a b
 refine w_lp (inv:=λv=>0<=v.1/\v.1<=steps/\good 8 v.2/\v.2.A3<=87+v.1) (μ:=Qpa kind prog steps) ⟨fN 0,s0,a,by show x0.A3<=87+0;omega⟩ (cL _) (λv hv=>?_)
 obtain⟨v1,v2,v3,v4⟩:=hv
 refine w_br (λhb=>?_) (λ_=>⟨v3,by omega⟩)
 have hb:=oY hb
 obtain⟨p,q⟩:=y9 v3 (Q0p v.1)
 refine w_an p (w_lv λx1 h1=>?_)
 obtain⟨g1,_,g3⟩:=Qdh v3 (Q0p v.1)
 rw[<-q,<-h1]at g1 g3
 refine w_br (λ_=>w_an (Tree.pp (yt _)).1 (w_lv λx2 h2=>?_)) (λ_=>w_nx ?_)
 ·have hu:U x2.N:=by rw[h2];exact vZ _
  obtain⟨k1,k2⟩:=Zhp g1 hu
  refine w_an (rapplyV g1.v g1.len hu).1 (w_lv λx3 h3=>w_nx ?_)
  have e3:x3=((Q5b x1.1 x2).2,(Q5b x1.1 x2).1):=by
   rw[h3]
   simp only[Qa8,Q6c,Tree.m,letv,Z6m,g1.rmay];rfl
  show(0<=i64.wrap (v.1+1)/\i64.wrap (v.1+1)<=steps/\good 8 x3.1/\x3.1.A3<=87+i64.wrap (v.1+1))/\(steps-i64.wrap (v.1+1)).toNat<(steps-v.1).toNat
  rw[w64 (by omega) (by omega),e3]
  exact⟨⟨by omega,by omega,k1,by show(Q5b x1.1 x2).2.A3<=_;omega⟩,by omega⟩
 ·show(0<=i64.wrap (v.1+1)/\i64.wrap (v.1+1)<=steps/\good 8 x1.1/\x1.1.A3<=87+i64.wrap (v.1+1))/\(steps-i64.wrap (v.1+1)).toNat<(steps-v.1).toNat
  rw[w64 (by omega) (by omega)]
  exact⟨⟨by omega,by omega,g1,by omega⟩,by omega⟩
structure okP(P:Nat)(p:Q03):Prop where
 g:good P p.A1
 pos:0<P
 pres:p.B0.length=P
 last0:0<=p.D5
 last1:p.D5<P
 flt0:0<=p.C7
 flt1:p.C7<=1000000
section
variable {P:Nat} {p:Q03} (h:okP P p)
include h
theorem okP.P32:P<=32:=h.g.ok.mem.p2
theorem okP.valid:Q54 p=true:=by
 have h1:=h.pres;have h2:=h.last0;have h3:=h.last1;have h4:=h.flt0
 simp only[Q54,Q5y,Tree.m,letv,Q1u h.g.ok.mem,h.g.may,h1]
 simp[h2,h3,h4]
theorem Zc0:Q3l p:=by
 have hg:=h.g.ok.target.2
 have:(Q5y p).w (λ_=>True):=by
  unfold Q5y
  exact w_lv λx0 _=>w_an (Tree.pp (Zd4 hg)).1 (w_lv λx1 _=>w_br (λ_=>w_br (λ_=>w_br (λ_=>w_br (λ_=>trivial) λ_=>trivial) λ_=>trivial) λ_=>trivial) λ_=>trivial)
 exact(Tree.pp this).1
theorem Z65:Q4u p/\Q8m p=p:=by
 have h1:=h.g.len;have h2:=h.pres;have h3:=h.P32
 refine⟨?_,rfl⟩
 have:(Q8b p).w (λ_=>True):=by
  unfold Q8b
  exact w_an (show p.A1.Mem.length<=35184372088832 by omega) (w_lv λ_ _=>w_an (show p.B0.length<=140737488355328 by omega) (w_lv λ_ _=>trivial))
 exact(Tree.pp this).1
def prs(p:Q03)(f:Nat):Prop:=p.B0.getD f false=true
theorem Ze9:(Q6k p).w (λr=>U r/\∀f,inS r f↔prs p f):=by
 have h2:=h.pres;have h3:=h.P32
 unfold Q6k
 refine w_lp (inv:=λv=>U v.1/\0<=v.2/\v.2<=P/\∀f:Nat,inS v.1 f↔(f:Int)<v.2/\prs p f) (μ:=Q42 p) ⟨U_0,fN 0,by show(0:Int)<=_;omega,λf=>⟨λx=>absurd x (inS0 f),λx=>by have:=x.1;change(f:Int)<0 at this;omega⟩⟩ (cL _) (λv hv=>?_)
 obtain⟨v1,v2,v3,v4⟩:=hv
 refine w_br (λhb=>?_) (λhb=>⟨v1,λf=>?_⟩)
 ·have hb:=oY hb
  refine w_cn (by show(_&&decide _)=true;simp[bJ];omega) ?_
  obtain⟨k,hk⟩:∃k:Nat,v.2=k:=⟨v.2.toNat,by omega⟩
  have hk32:k<32:=by omega
  have e1:v.2.toNat=k:=by omega
  have e2:wrap .i64 (v.2+1)=v.2+1:=w64 (by omega) (by omega)
  have m1:∀{l:Int},(Q42 p (l,wrap .i64 (v.2+1)))<Q42 p v:=fun{l}=>by
   rw[e2];unfold Q42;dsimp only;omega
  have n1:0<=wrap .i64 (v.2+1)/\wrap .i64 (v.2+1)<=P:=by rw[e2];omega
  refine w_br (λht=>w_cn (dY v2) (w_nx ⟨⟨U_or _ _,n1.1,n1.2,λf=>?_⟩,m1⟩)) (λht=>w_nx ⟨⟨v1,n1.1,n1.2,λf=>?_⟩,m1⟩)
  ·show inS (ior .u32 v.1 (ishl .u32 1 v.2)) f↔(f:Int)<wrap .i64 (v.2+1)/\prs p f
   rw[e1]at ht
   rw[e2,hk,Z93 hk32,Z4g v1 ⟨fC _,Int.ofNat_lt.2 (Zhj hk32)⟩,v4]
   have e3:inS ((2^k:Nat):Int) f↔f=k:=by
    unfold inS
    rw[dZ,fD]
    simp[eq_comm]
   rw[e3]
   constructor
   ·rintro(⟨a,b⟩|a)
    ·exact⟨by omega,b⟩
    ·subst a;exact⟨by omega,ht⟩
   ·rintro⟨a,b⟩
    by_cases e:f=k
    ·exact .inr e
    ·exact .inl ⟨by omega,b⟩
  ·show inS v.1 f↔(f:Int)<wrap .i64 (v.2+1)/\prs p f
   rw[e1]at ht
   rw[e2,v4]
   constructor
   ·rintro⟨a,b⟩;exact⟨by omega,b⟩
   ·rintro⟨a,b⟩
    refine⟨?_,b⟩
    by_cases e:f=k
    ·subst e;unfold prs at b;rw[b]at ht;cases ht
    ·omega
 ·have hb:=oN hb
  rw[v4]
  refine⟨λx=>x.2,λx=>⟨?_,x⟩⟩
  unfold prs at x
  by_cases e:f<p.B0.length
  ·omega
  ·rw[List.getD_eq_getElem?_getD,List.getElem?_eq_none (by omega)]at x;cases x
theorem needsP:Q6i p.A1:=(Tree.pp (Ziy h.g.v h.g.ok.mem)).1
theorem Zi3:Q7 p:=(Tree.pp (Ze9 h)).1
theorem Qyl:U (Q4x p)/\∀f,inS (Q4x p) f↔prs p f:=(Tree.pp (Ze9 h)).2
end
theorem Zf6{P:Nat}{m:Q00}(g:good P m):U (Q16 m)/\∀f,inS (Q16 m) f->f<P:=by
 have both:∀S:Int,(U S/\∀f,inS S f->f<P)->(U S/\∀f,inS S f->f<P):=λ_ h=>h
 cases hr:Q17 m
 ·have:=Zkw (b:=m) (m:=m.Mem) (show Q17 (setMem m m.Mem)=false from hr)
  change Q16 m=0 at this
  rw[this];exact⟨U_0,λf hf=>absurd hf (inS0 f)⟩
 ·have:=Zcj (b:=m) (m:=m.Mem) (show okV (setMem m m.Mem) from g.v) (show Q17 (setMem m m.Mem)=true from hr)
  change Q16 m=nd m (Q09 m) m.Mem at this
  have hc:=Zhm (b:=m) (m:=m.Mem) (n:=m.Mem) (D:=λ_=>True) g.ok.mem g.ok.mem (show okV (setMem m m.Mem) from g.v) (show okV (setMem m m.Mem) from g.v) (λ_ _=>rfl) (show Q17 (setMem m m.Mem)=true from hr)
  change Q2d (Q09 m)at hc
  have hm:=g.ok.mem
  have sg:∀{f:Int},U f->∀g,inS (Q0n m.Mem f) g->g<P:=λhf g hg=>by have:=((Q6a hm hf).2 g).1 hg;omega
  have au:∀{l:List Int},Q0s P l->∀{v:Int},U v->∀s k g,inS (Q0m (Q09 m) l v s k) g->g<P:=fun{l} ol {v} hv s k g=>by
   have sl:∀{f:Int},U f->inS (Q0n l f) g->g<P:=λhf hg=>by have:=((Q6a ol hf).2 g).1 hg;omega
   rw[Qkc]
   cases dA v s !=0
   case true=>intro hf;exact absurd hf (inS0 g)
   cases Q34 (Q09 m)
   case false=>exact sl (Q0p _)
   cases iand .u32 (Q09 m).B3.a0 4==0
   case true=>exact sl (Q0p _)
   cases decide (v>=4096)
   case true=>intro hf;exact absurd hf (inS0 g)
   show inS (bif _==0 then _ else _) g->_
   cases(Q0z l (Q09 m).B3.a6 v k).D0==0
   ·exact sl hc.a6
   ·intro hf
    rcases(Z4g (Q6a ol hc.a6).1 (sgV_U ol _) g).1 hf with hf|hf
    ·exact sl hc.a6 hf
    ·exact sl (Q0p _) hf
  obtain⟨_,o1⟩:=(Tree.pp (Qig hm hc)).2
  change Q0s P (Q0o (Q09 m) m.Mem).2.1 at o1
  have ou:∀f,inS (Q1f m (Q09 m) (Q0o (Q09 m) m.Mem).2.1 (Q19 (Q0o (Q09 m) m.Mem).1).1) f->f<P:=λf=>by
   rw[Z9]
   generalize(Q19 (Q0o (Q09 m) m.Mem).1).1=i
   cases i.Op==32
   case true=>exact au o1 (Q0p _) 4 2 f
   cases i.Op==33
   case true=>exact au o1 (Q0p _) 1 2 f
   cases i.Op==34
   case true=>exact au o1 (Q0p _) 1 2 f
   cases i.Op==35
   case true=>exact au o1 (Q0p _) 4 3 f
   cases i.Op==36
   case true=>exact au o1 (Q0p _) 1 3 f
   cases i.Op==61
   case false=>intro hf;exact absurd hf (inS0 f)
   show inS (Q23 m _ _) f->_
   have hu:=hc.r (dB (iand .i64 i.A 15))
   generalize aK (A16.l (Q09 m).X) (dB (iand .i64 i.A 15)) 0=w at*
   show Tree.V (Q2r m (wrap .i64 i.Imm) w) (λS=>inS S f->f<P)
   unfold Q2r
   have z:inS 0 f->f<P:=λhf=>absurd hf (inS0 f)
   refine v_br (λ_=>v_br (λ_=>v_br (λ_=>v_br (λ_=>v_an (v_lv λx hx=>v_lf ?_)) λ_=>v_lf z) λ_=>v_lf z) λ_=>v_lf z) λ_=>v_br (λ_=>v_br (λ_=>v_br (λ_=>v_br (λ_=>v_an (v_lv λx hx=>v_lf ?_)) λ_=>v_lf z) λ_=>v_lf z) λ_=>v_lf z) λ_=>v_br (λ_=>v_an (v_lv λx hx=>v_lf ?_)) λ_=>v_lf z
   ·rw[hx];exact sg g.ok.disk.frame f
   ·rw[hx];exact sg g.ok.nic.frame f
   ·rw[hx];intro hf
    exact sg hu f ((Qyg (Q6a hm hu).1 g.ok.target.2 f).1 hf).1
  rw[this,nd_eq]
  have a1:=Z7a hm hc hc.pc 4 1
  have a2:=qQ o1 hm g.ok.disk g.ok.nic hc (Q19 (Q0o (Q09 m) m.Mem).1).1
  cases goes (Q09 m) (Q0o (Q09 m) m.Mem).1 (Q0o (Q09 m) m.Mem).2.2
  ·exact⟨a1,au hm hc.pc 4 1⟩
  ·exact⟨U_or _ _,λf hf=>((Z4g a1 a2 f).1 hf).elim (au hm hc.pc 4 1 f) (ou f)⟩
def zers(P:Nat):List Int:=cM (32*P) 0
theorem qaa{P:Nat}(h:P<=32):Q0s P (zers P):=⟨by simp[zers],by omega,h,λw hw=>by rw[(List.mem_replicate.1 hw).2];exact U_0⟩
theorem good.setMem{P:Nat}{m:Q00}(g:good P m){l:List Int}(hl:Q0s P l):good P (setMem m l):=
 ⟨⟨g.ok.cpu,hl,g.ok.disk,g.ok.nic,g.ok.target,g.ok.cnt⟩,(zl (b:=m) hl g.ok.mem).trans g.may⟩
def begF(P:Nat)(m:Q00):Q03:={A1:=setMem m (zers P),B0:=cM P false,D5:=0,C7:=0}
theorem zaa{P:Nat}{m:Q00}(g:good P m)(hP:0<P):(Q85 m).w (λr=>r=(begF P m,true)):=by
 have h32:=g.ok.mem.p2
 have ew:wrap .i64 ((P:Int)*32)=32*P:=by rw[w64 (by omega) (by omega)];omega
 have nw:(Qe6 (P:Int)).w (λr=>r=zers P):=by
  unfold Qe6
  refine w_br (λhb=>?_) λ_=>w_br (λhb=>?_) λ_=>w_cn ?_ ?_
  ·have:=oY hb;omega
  ·have:=oY hb;omega
  ·rw[ew];simp[bJ,D.plain];omega
  ·show cM (wrap .i64 ((P:Int)*32)).toNat 0=zers P
   rw[ew];unfold zers;congr 1
 unfold Q85
 refine w_an (Tree.pp (Zd4 g.ok.target.2)).1 (w_lv λx0 h0=>w_br (λhb=>?_) λ_=>w_lv λx1 h1=>?_)
 ·rw[h0,g.may]at hb;cases hb
 ·have h1:x1=(P:Int):=h1.trans (Q1u g.ok.mem)
  subst h1
  refine Q0c nw λx2 h2=>w_cn ?_ ?_
  ·simp[bJ,D.plain];omega
  ·subst h2
   show(_,true)=(_,true)
   unfold begF setMem
   simp
theorem xaa{P:Nat}{m:Q00}(g:good P m)(hP:0<P):okP P (begF P m):=⟨g.setMem (qaa g.ok.mem.p2),hP,by simp[begF],fN 0,by show(0:Int)<P;omega,fN 0,by show(0:Int)<=_;omega⟩
def ms(p:Q03):Int:=Q7k .u32 (Q16 p.A1) (Q4x p)
def msF(p:Q03)(e:Q0v):Int:=Q7k .u32 (Q78 p.A1 e) (Q4x p)
def fltF(p:Q03)(S:Int):Q03:={A1:=p.A1,B0:=p.B0,D5:=Q0j S,C7:=wrap .i64 (p.C7+1)}
def stpF(p:Q03)(clock:Int):Q03×List Q0b×Bool:=bif ms p !=0 then(fltF p (ms p),[],false)else({A1:=(Q11 p.A1 clock).1,B0:=p.B0,D5:=p.D5,C7:=p.C7},(Q11 p.A1 clock).2,true)
def appF(p:Q03)(e:Q0v):Q03×Bool:=bif msF p e !=0 then(fltF p (msF p e),false)else({A1:=(Q1y p.A1 e).1,B0:=p.B0,D5:=p.D5,C7:=p.C7},(Q1y p.A1 e).2)
theorem for_U{P:Nat}{m:Q00}(g:good P m)(e:Q0v):U (Q78 m e):=by
 rw[yl]
 cases e.C2==4
 ·cases e.C2==5
  ·exact U_0
  ·cases(Q1y m e).2
   ·exact U_0
   ·exact(Q6a g.ok.mem g.ok.nic.buffer).1
 ·cases(Q1y m e).2
  ·exact U_0
  ·cases e.N==1
   ·exact U_0
   ·cases m.A7.D6==1
    ·exact U_0
    ·exact(Q6a g.ok.mem g.ok.disk.opFrame).1
section
variable {P:Nat} {p:Q03} (h:okP P p)
include h
theorem qar:(Q66 p).w (λr=>r=bif ms p==0 then(0,false)else(Q0j (ms p),true)):=by
 unfold Q66
 refine w_an (Zc0 h) (w_lv λx0 h0=>w_br (λhb=>?_) λ_=>w_an (needsP h) (w_lv λx1 h1=>w_an (Zi3 h) (w_lv λx2 h2=>?_)))
 ·rw[h0,h.valid]at hb;cases hb
 ·have e:Q7k .u32 x1 x2=ms p:=by rw[h1,h2];rfl
  refine w_br (λhb=>?_) λhb=>w_an ⟨(Z0a _ _).1,(Z0a _ _).2⟩ (w_lv λx3 h3=>?_)
  ·rw[e]at hb
   show(0,false)=_
   rw[hb];rfl
  ·rw[e]at hb h3
   show(x3,true)=_
   rw[hb,h3];rfl
theorem qab{S:Int}(hS:U S):(Q81 p S).w (λr=>r=fltF p S):=by
 unfold Q81
 refine w_an (Z65 h).1 (w_lv λx0 h0=>w_an ⟨hS.1,hS.2⟩ (w_lv λx1 h1=>?_))
 have h0:x0=p:=h0.trans (Z65 h).2
 subst h0;subst h1;rfl
theorem qm{clock:Int}(hc:U clock):(Q98 p clock).w (λr=>r=stpF p clock):=by
 unfold Q98
 refine w_an (Zc0 h) (w_lv λx0 h0=>w_br (λhb=>?_) λ_=>w_an (needsP h) (w_lv λx2 h2=>w_an (Zi3 h) (w_lv λx3 h3=>?_)))
 ·rw[h0,h.valid]at hb;cases hb
 ·have e:Q7k .u32 x2 x3=ms p:=by rw[h2,h3];rfl
  refine w_br (λhb=>Q0c (qab h (Z0a _ _)) λx4 h4=>?_) λhb=>w_an (Z65 h).1 (w_lv λx5 h5=>w_an (Qz7 h.g.v h.g.len hc).1 (w_lv λx6 h6=>?_))
  ·rw[e]at hb h4
   show(x4,[],false)=_
   unfold stpF;rw[hb,h4];rfl
  ·rw[e]at hb
   have h5:x5=p:=h5.trans (Z65 h).2
   subst h5;subst h6
   show _=_
   unfold stpF;rw[hb];rfl
def arrF(p:Q03)(f:Int)(s:List UInt8):Q03:={A1:=setMem p.A1 (Q0k p.A1.Mem f s).1,B0:=p.B0.set f.toNat true,D5:=p.D5,C7:=p.C7}
theorem xm{c:Q3i}(hl:0<=c.Frame->c.Frame<P->c.C8.length=128):(Q76 p c).w (λr=>(r=(p,false)/\(c.Frame<0\/(P:Int)<=c.Frame\/prs p c.Frame.toNat))\/(r=(arrF p c.Frame c.C8,true)/\0<=c.Frame/\c.Frame<P/\¬prs p c.Frame.toNat)):=by
 have hp:=h.pres
 unfold Q76
 refine w_an (Z65 h).1 (w_lv λx0 h0=>w_an (Zc0 h) (w_lv λx1 h1=>w_br (λhb=>?_) λ_=>?_))
 ·rw[h1,h.valid]at hb;cases hb
 have h0:x0=p:=h0.trans (Z65 h).2
 subst h0
 refine w_br (λhb=>?_) λhb=>w_br (λhb2=>?_) λhb2=>?_
 ·exact .inl ⟨rfl,.inl (oY hb)⟩
 ·exact .inl ⟨rfl,.inr (.inl (by have:=oY hb2;omega))⟩
 have f0:0<=c.Frame:=by have:=oN hb;omega
 have f1:c.Frame<P:=by have:=oN hb2;omega
 refine w_cn (dY (by omega)) (w_br (λht=>.inl ⟨rfl,.inr (.inr ht)⟩) λht=>w_an (Tree.pp (Qjk h.g.ok.mem c.Frame c.C8)).1 (w_lv λx2 h2=>w_br (λhb3=>?_) λ_=>w_cn (dY (by omega)) ?_))
 ·rw[h2,(Zll h.g.ok.mem f0 f1 (hl f0 f1)).1]at hb3;cases hb3
 ·refine .inr ⟨?_,f0,f1,λe=>by unfold prs at e;rw[e]at ht;cases ht⟩
  subst h2;rfl
def ksF(p:Q03)(n:Nat):List Nat:=(cY n).filter λk=>!p.B0.getD ((p.D5.toNat+k)%p.B0.length) false
def frm(p:Q03)(k:Nat):Int:=(((p.D5.toNat+k)%p.B0.length:Nat):Int)
def pushF(p:Q03)(most:Int):List Int:=((ksF p p.B0.length).map (frm p)).take most.toNat
omit h in
theorem Zfx(p:Q03)(n:Nat):ksF p (n+1)=ksF p n++(if p.B0.getD ((p.D5.toNat+n)%p.B0.length) false=false then[n]else[]):=by
 unfold ksF
 rw[fK,fL]
 congr 1
 cases hq:p.B0.getD ((p.D5.toNat+n)%p.B0.length) false
 ·simp only[fM,fO,hq];rfl
 ·simp only[fM,fO,hq];rfl
omit h in
theorem zar(p:Q03)(n:Nat):(ksF p n).length<=n:=by
 unfold ksF
 exact bH (fP _ _) (by simp)
theorem xar(most:Int):(Q9j p most).w (λr=>r=pushF p most):=by
 have hp:=h.pres;have h32:=h.P32;have hpos:=h.pos;have l0:=h.last0;have l1:=h.last1
 unfold Q9j
 refine w_an (Zc0 h) (w_lv λx0 h0=>w_br (λhb=>?_) λ_=>?_)
 ·rw[h0,h.valid]at hb;cases hb
 refine w_lp (inv:=λv=>∃n:Nat,v.1=n/\n<=P/\v.2=((ksF p n).map (frm p)).take most.toNat) (μ:=Q5r p most) ⟨0,rfl,by omega,by simp[ksF]⟩ (cL _) (λv hv=>?_)
 obtain⟨n,v1,v2,v3⟩:=hv
 obtain⟨i,l⟩:=v
 have v1:i=(n:Int):=v1
 subst v1
 have v3:l=_:=v3
 have lk:=zar p n
 have ll:l.length<=32:=by rw[v3];simp;omega
 refine w_br (λhb=>?_) λhb=>?_
 ·have hb:=oY hb
  have hn:n<P:=by have:(n:Int)<(p.B0.length:Int):=hb;omega
  have ei:wrap .i64 ((n:Int)+1)=((n+1:Nat):Int):=by rw[w64 (by omega) (by omega)];omega
  have ef:dA (wrap .i64 (p.D5+(n:Int))) (p.B0.length:Int)=frm p n:=by
   rw[w64 (by omega) (by omega),eA (by omega)]
   unfold frm
   rw[Int.natCast_emod]
   congr 1
   omega
  have fr0:0<=frm p n/\frm p n<P:=by
   unfold frm
   have:=Nat.mod_lt (p.D5.toNat+n) (show 0<p.B0.length by omega)
   omega
  have et:(frm p n).toNat=(p.D5.toNat+n)%p.B0.length:=rfl
  have mu:∀l',Q5r p most (wrap .i64 ((n:Int)+1),l')<Q5r p most ((n:Int),l):=λl'=>by
   rw[ei];unfold Q5r;dsimp only;omega
  have go:∀l',l'=((ksF p (n+1)).map (frm p)).take most.toNat->∃q:Nat,wrap .i64 ((n:Int)+1)=q/\q<=P/\l'=((ksF p q).map (frm p)).take most.toNat:=λl' e=>⟨n+1,ei,by omega,e⟩
  refine w_cn (dY (by show(p.B0.length:Int)≠0;omega)) (w_br (λhm=>w_cn ?_ (w_br (λht=>w_cn ?_ (w_nx ⟨go _ ?_,mu _⟩)) λht=>w_nx ⟨go _ ?_,mu _⟩)) λhm=>w_nx ⟨go _ ?_,mu _⟩)
  ·show(_&&decide (0<=dA (wrap .i64 (p.D5+(n:Int))) (p.B0.length:Int)/\dA (wrap .i64 (p.D5+(n:Int))) (p.B0.length:Int)<(p.B0.length:Int)))=true
   rw[ef];simp[bJ];omega
  ·exact dY (by show 8*(l.length+1)<=_;omega)
  ·show l++[dA (wrap .i64 (p.D5+(n:Int))) (p.B0.length:Int)]=_
   have ht:(!p.B0.getD (dA (wrap .i64 (p.D5+(n:Int))) (p.B0.length:Int)).toNat false)=true:=ht
   rw[ef,et]at ht
   have ht:p.B0.getD ((p.D5.toNat+n)%p.B0.length) false=false:=by simpa using ht
   have hm:(l.length:Int)<most:=oY hm
   rw[ef,Zfx,if_pos ht,v3]
   rw[v3]at hm
   rw[bD,fQ]at hm
   rw[bL,fR,fQ,fS (by rw[fQ];omega)]
   congr 1
   rw[fS (by simp;omega)]
   rfl
  ·show l=_
   have ht:(!p.B0.getD (dA (wrap .i64 (p.D5+(n:Int))) (p.B0.length:Int)).toNat false)=false:=ht
   rw[ef,et]at ht
   have ht:p.B0.getD ((p.D5.toNat+n)%p.B0.length) false=true:=by simpa using ht
   rw[Zfx,if_neg (by rw[ht];decide),cJ];exact v3
  ·show l=_
   have hm:¬(l.length:Int)<most:=oN hm
   rw[v3]at hm⊢
   rw[bD,fQ]at hm
   rw[Zfx,bL,fR,fQ,show most.toNat-(ksF p n).length=0 by omega]
   simp
 ·have hb:¬(n:Int)<(p.B0.length:Int):=oN hb
  have:n=p.B0.length:=by omega
  show l=_
  rw[v3,this];rfl
omit h in
theorem zab(s:List Bool)(hs:s.length<=1000):(Q39 s false).w (λr=>r>=0↔ ∃i,i<s.length/\s.getD i false=false):=by
 unfold Q39
 refine w_lp (inv:=λv=>0<=v/\v<=s.length/\∀i:Nat,(i:Int)<v->s.getD i false=true) (μ:=Q8r s false) ⟨fN 0,by omega,λi hi=>by omega⟩ (cL _) (λv hv=>?_)
 obtain⟨v1,v2,v3⟩:=hv
 refine w_br (λhb=>?_) λhb=>?_
 ·have hb:=oY hb
  refine w_cn (by show(_&&decide _)=true;simp[bJ];omega) (w_br (λht=>?_) λht=>w_nx ?_)
  ·refine⟨λ_=>⟨v.toNat,by omega,?_⟩,λ_=>v1⟩
   exact(eq_of_beq ht).symm
  ·have e:wrap .i64 (v+1)=v+1:=w64 (by omega) (by omega)
   show(0<=wrap .i64 (v+1)/\wrap .i64 (v+1)<=s.length/\∀i:Nat,(i:Int)<wrap .i64 (v+1)->s.getD i false=true)/\((s.length:Int)-wrap .i64 (v+1)).toNat<((s.length:Int)-v).toNat
   rw[e]
   refine⟨⟨by omega,by omega,λi hi=>?_⟩,by omega⟩
   by_cases hi2:(i:Int)<v
   ·exact v3 i hi2
   ·have:i=v.toNat:=by omega
    subst this
    cases hq:s.getD v.toNat false
    ·rw[hq]at ht;cases ht
    ·rfl
 ·have hb:=oN hb
  show(-1:Int)>=0↔_
  refine⟨λx=>by omega,fun⟨i,h1,h2⟩=>?_⟩
  rw[v3 i (by omega)]at h2;cases h2
theorem qas:(Q9d p).w (λr=>r=true↔ ∀f,f<P->prs p f):=by
 have hp:=h.pres;have h32:=h.P32
 unfold Q9d
 refine w_an (Zc0 h) (w_lv λx0 h0=>w_br (λ_=>?_) λhb=>?_)
 ·have cw:(Q2n p.B0 false).w (λr=>r=true↔ ∃i,i<p.B0.length/\p.B0.getD i false=false):=by
   unfold Q2n
   refine Q0c (zab p.B0 (by omega)) λx hx=>?_
   show decide (x>=0)=true↔_
   rw[decide_eq_true_eq];exact hx
  refine Q0c cw λx1 h1=>?_
  show(!x1)=true↔_
  constructor
  ·intro hx f hf
   unfold prs
   cases hq:p.B0.getD f false
   ·have:=h1.2 ⟨f,by omega,hq⟩
    rw[this]at hx;cases hx
   ·rfl
  ·intro hx
   cases hq:x1
   ·rfl
   ·obtain⟨i,a,b⟩:=h1.1 hq
    have:=hx i (by omega)
    unfold prs at this
    rw[this]at b;cases b
 ·rw[h0,h.valid]at hb;cases hb
end
theorem tz_in{S:Int}(hS:U S)(h0:S≠0):0<=Q0j S/\inS S (Q0j S).toNat:=by
 obtain⟨c1,c2,_⟩:=Zde (x:=S.toNat) (by have:=hS.1;omega) (by have:=hS.2;omega)
 rw[xQ]
 exact⟨by omega,by show S.toNat.testBit _=true;rw[dZ];exact c2⟩
theorem ms_in{P:Nat}{p:Q03}(h:okP P p)(f:Nat):inS (ms p) f↔inS (Q16 p.A1) f/\¬prs p f:=by
 unfold ms
 rw[Qyg (Zf6 h.g).1 (Qyl h).1,(Qyl h).2]
theorem zas{P:Nat}{p:Q03}(h:okP P p)(e:Q0v)(f:Nat):inS (msF p e) f↔inS (Q78 p.A1 e) f/\¬prs p f:=by
 unfold msF
 rw[Qyg (for_U h.g e) (Qyl h).1,(Qyl h).2]
theorem xas{P:Nat}{m:Q00}(g:good P m)(e:Q0v)(f:Nat)(hf:inS (Q78 m e) f):f<P:=by
 have sg:∀{x:Int},U x->inS (Q0n m.Mem x) f->f<P:=λhx hg=>by have:=((Q6a g.ok.mem hx).2 f).1 hg;omega
 rw[yl]at hf
 cases h4:e.C2==4
 ·rw[h4]at hf
  cases h5:e.C2==5
  ·rw[h5]at hf;exact absurd hf (inS0 f)
  ·rw[h5]at hf
   cases h6:(Q1y m e).2
   ·rw[h6]at hf;exact absurd hf (inS0 f)
   ·rw[h6]at hf;exact sg g.ok.nic.buffer hf
 ·rw [h4]at hf
  cases h6:(Q1y m e).2
  ·rw[h6]at hf;exact absurd hf (inS0 f)
  ·rw[h6]at hf
   cases h7:e.N==1
   ·rw[h7]at hf;exact absurd hf (inS0 f)
   ·rw[h7]at hf
    cases h8:m.A7.D6==1
    ·rw[h8]at hf;exact absurd hf (inS0 f)
    ·rw[h8]at hf;exact sg g.ok.disk.opFrame hf
theorem okP.flt{P:Nat}{p:Q03}(h:okP P p)(hf:p.C7<1000000){S:Int}(hS:U S)(h0:S≠0)(hl:∀f,inS S f->f<P):okP P (fltF p S):=by
 obtain⟨a,b⟩:=tz_in hS h0
 have c:=hl _ b
 have f0:=h.flt0
 have e:wrap .i64 (p.C7+1)=p.C7+1:=w64 (by omega) (by omega)
 exact⟨h.g,h.pos,h.pres,a,by show Q0j S<P;omega,by show 0<=wrap .i64 (p.C7+1);rw[e];omega,by show wrap .i64 (p.C7+1)<=_;rw[e];omega⟩
theorem okP.stp{P:Nat}{p:Q03}(h:okP P p)(hf:p.C7<1000000){clock:Int}(hc:U clock):okP P (stpF p clock).1:=by
 unfold stpF
 cases h0:ms p !=0
 ·exact⟨(Qdh h.g hc).1,h.pos,h.pres,h.last0,h.last1,h.flt0,h.flt1⟩
 ·exact h.flt hf (Z0a _ _) (by simpa using h0) λf hf=>(Zf6 h.g).2 f ((ms_in h f).1 hf).1
theorem okP.app{P:Nat}{p:Q03}(h:okP P p)(hf:p.C7<1000000){e:Q0v}(he:U e.N):okP P (appF p e).1:=by
 unfold appF
 cases h0:msF p e !=0
 ·exact⟨Zfg h.g he,h.pos,h.pres,h.last0,h.last1,h.flt0,h.flt1⟩
 ·exact h.flt hf (Z0a _ _) (by simpa using h0) λf hf=>xas h.g e f ((zas h e f).1 hf).1
theorem okP.arr{P:Nat}{p:Q03}(h:okP P p){f:Int}(f0:0<=f)(f1:f<P){s:List UInt8}(hs:s.length=128):okP P (arrF p f s):=
 ⟨h.g.setMem (Zll h.g.ok.mem f0 f1 hs).2.1,h.pos,by show(p.B0.set _ _).length=P;rw[List.length_set];exact h.pres,h.last0,h.last1,h.flt0,h.flt1⟩
theorem Qyd{P:Nat}{l:List Int}(h:Q0s P l){f:Int}(f0:0<=f)(f1:f<P):(Q12 l f).1.length=128/\isPg l f (Q12 l f).1:=by
 obtain⟨a1,a2⟩:=(Tree.pp (Qzl h f0 f1)).2
 exact⟨a1.1,a1⟩
theorem Z0k:Q7r=true:=by kernel_rfl
theorem Z7f:Q3j:=by
 have:Qc3.w (λ_=>True):=by
  unfold Qc3
  obtain⟨a,_⟩:=Qw1 2 [0] (by decide) (by decide)
  refine w_an (Tree.pp (Zb6 2 [0] (by decide))).1 (w_lv λx0 h0=>?_)
  rw[<-h0]at a
  refine Q0c (zaa a (by decide)) λx1 h1=>?_
  have o1:okP 8 x1.1:=by rw[h1];exact xaa a (by decide)
  have f1:x1.1.C7=0:=by rw[h1];rfl
  have l1:x1.1.C7<1000000:=by omega
  refine Q0c (qar o1) λx2 _=>Q0c (qm o1 U_0) λx3 h3=>?_
  have o3:okP 8 x3.1:=by rw[h3];exact o1.stp l1 U_0
  have l3:x3.1.C7<1000000:=by
   rw[h3];unfold stpF
   cases ms x1.1 !=0
   ·exact l1
   ·show wrap .i64 (x1.1.C7+1)<1000000
    rw[f1];decide
  have pl:=(Qyd (f:=0) a.ok.mem (by decide) (by decide)).1
  refine w_an (Tree.pp (Qqo a.ok.mem 0)).1 (w_lv λx4 h4=>?_)
  rw[<-h4]at pl
  refine Q0c (xm o3 (c:={Frame:=0,C8:=x4.1}) λ_ _=>pl) λx5 h5=>?_
  have o5:okP 8 x5.1/\x5.1.C7<1000000:=by
   rcases h5 with⟨e,_⟩|⟨e,q0,q1,_⟩
   ·rw[e];exact⟨o3,l3⟩
   ·rw[e];exact⟨o3.arr q0 q1 pl,l3⟩
  refine Q0c (qm o5.1 U_0) λx6 h6=>Q0c (xar o5.1 2) λx7 h7=>?_
  have o6:okP 8 x6.1:=by rw[h6];exact o5.1.stp o5.2 U_0
  refine w_br (λ_=>w_br (λ_=>w_br (λ_=>w_br (λ_=>w_br (λ_=>w_br (λ_=>w_br (λ_=>w_br (λ_=>w_br (λhb=>w_cn ?_ (w_br (λ_=>Q0c (qas o6) λx8 _=>trivial) λ_=>trivial)) λ_=>trivial) λ_=>trivial) λ_=>trivial) λ_=>trivial) λ_=>trivial) λ_=>trivial) λ_=>trivial) λ_=>trivial) λ_=>trivial
  have:(x7.length:Int)=2:=eq_of_beq hb
  exact dY (by omega)
 exact(Tree.pp this).1
theorem aw31{W:Bool->Prop}(h:W true):(Tree.an Q3j (.lv Q7r λx=>.lf x)).w W:=w_an Z7f (w_lv λx e=>by show W x;rw[e,Z0k];exact h)
theorem xab{P:Nat}{m n:List Int}(h:Q0s P m)(hn:Q0s P n)(e:∀j,m.getD j 0=n.getD j 0):m=n:=by
 refine List.ext_getElem (by rw[h.len,hn.len]) λi h1 h2=>?_
 have:=e i
 simpa[aK,h1,h2]using this
theorem data128(n:Int):Q6d n 128/\(Qmb n 128).length=128:=by
 refine⟨by show(128:Int)<=1000000000000;decide,?_⟩
 show Tree.V (Qd2 n 128) (λs=>s.length=128)
 unfold Qd2
 refine v_lp (inv:=λv:Int×List Int=>0<=v.1/\v.1<=128/\v.2.length=v.1.toNat) (μ:=Qck n 128) ⟨fN 0,by decide,rfl⟩ (cL _) λv ⟨a,b,c⟩=>?_
 refine v_br (λhb=>v_lv λx0 _=>v_cn (v_nx ?_)) λhb=>v_lf ?_
 ·have hb:=oY hb
  show(0<=wrap .i64 (v.1+1)/\wrap .i64 (v.1+1)<=128/\(v.2++[_]).length=(wrap .i64 (v.1+1)).toNat)/\(128-wrap .i64 (v.1+1)).toNat<(128-v.1).toNat
  rw[w64 (by omega) (by omega)]
  refine⟨⟨by omega,by omega,?_⟩,by omega⟩
  rw[lA,c];simp;omega
 ·have hb:=oN hb
  show(bytesOf v.2).length=128
  unfold bytesOf
  rw[fQ,c];omega
theorem beside{P:Nat}{m:Q00}(g:good P m){f:Int}(f0:0<=f)(f1:f<P){s:List UInt8}(hs:s.length=128)(hn:¬inS (Q16 m) f.toNat){clock:Int}(hc:U clock):
 good P (setMem m (Q0k m.Mem f s).1)/\
 (Q12 (Q11 (setMem m (Q0k m.Mem f s).1) clock).1.Mem f).1=s/\
 (Q12 (Q11 m clock).1.Mem f).1=(Q12 m.Mem f).1/\
 setMem (Q11 (setMem m (Q0k m.Mem f s).1) clock).1 (Q0k (Q11 (setMem m (Q0k m.Mem f s).1) clock).1.Mem f (Q12 m.Mem f).1).1=(Q11 m clock).1/\
 (Q11 (setMem m (Q0k m.Mem f s).1) clock).2=(Q11 m clock).2:=by
 obtain⟨_,o2,k2,i2⟩:=Zll g.ok.mem f0 f1 hs
 have gn:=g.setMem o2
 have hD:Agr (λd=>d≠f.toNat) m.Mem (Q0k m.Mem f s).1:=λj hj=>(k2 j hj).symm
 have hsub:Sub (Q16 (setMem m m.Mem)) (λd=>d≠f.toNat):=λd hd e=>hn (e▸hd)
 obtain⟨z,m1,n1,o,e1,e2,a1,a2,a3⟩:=vG (b:=m) g.ok.mem o2 g.v gn.v hD hsub clock
 have e1:Q11 m clock=(setMem z m1,o):=e1
 have g1:=(Qdh g hc).1
 have g2:=(Qdh gn hc).1
 rw[e1]at g1
 rw[e2]at g2
 have om:Q0s P m1:=g1.ok.mem
 have on:Q0s P n1:=g2.ok.mem
 rw[e1,e2]
 have same:∀{a b:List Int},Kept (λd=>d≠f.toNat) a b->∀{r:List UInt8},isPg a f r->isPg b f r:=fun{a b} hk {r} hr=>⟨hr.1,λk hk'=>by
  rw[hr.2 k hk']
  unfold byt
  rw[hk _ (λh=>h (by omega))]⟩
 obtain⟨w1,w2⟩:=Qyd g.ok.mem f0 f1
 obtain⟨_,b2⟩:=Qyd om f0 f1
 obtain⟨_,c2⟩:=Qyd on f0 f1
 refine⟨gn,Zhf c2 (same a3 i2),Zhf b2 (same a2 w2),?_,rfl⟩
 obtain⟨_,d2,d3,d4⟩:=Zll on f0 f1 w1
 have:(Q0k n1 f (Q12 m.Mem f).1).1=m1:=xab d2 om λj=>by
  by_cases hj:j/32=f.toNat
  ·exact Zj6 d2 om f0 d4 (same a2 w2) hj
  ·rw[d3 j hj,a1 j hj]
 show setMem (setMem z n1) (Q0k n1 f (Q12 m.Mem f).1).1=setMem z m1
 rw[this];rfl
theorem needs31(kind:Int)(prog:List Int)(steps frame data clock:Int)(hl:prog.length*8<=reachBytes)(hc:U clock):Qi4 kind prog steps frame data clock/\Qhw kind prog steps frame data clock=true:=by
 refine Tree.pp (t:=Q7e kind prog steps frame data clock) (W:=λr=>r=true) ?_
 unfold Q7e
 refine w_br (λ_=>aw31 rfl) λh60=>w_br (λ_=>aw31 rfl) λhs0=>w_br (λ_=>aw31 rfl) λhs1=>?_
 have h60:=oN h60;have hs0:=oN hs0;have hs1:=oN hs1
 refine Q0c (at_w hl (by omega) (by omega) (by omega)) λx3 h3=>w_lv λx4 h4=>?_
 obtain⟨g,_⟩:=h3
 have h4:x4=8:=h4.trans (Q1u g.ok.mem)
 subst h4
 refine w_br (λhb=>by cases hb) λ_=>w_an (Qh9 (by decide)) (w_lv λx5 h5=>?_)
 obtain⟨f0,f1⟩:=Qzm (n:=frame) (k:=8) (by decide) (by decide)
 rw[<-h5]at f0 f1
 have nu:=Zf6 g
 have nw:(Q89 x3).w (λr=>r=mems (Q16 x3)):=by
  unfold Q89
  refine w_an (Tree.pp (Ziy g.v g.ok.mem)).1 (w_lv λy hy=>?_)
  subst hy
  exact Q0c (xaq nu.1) λr hr=>hr
 refine Q0c nw λx6 h6=>?_
 have hin:∀i:Nat,i<x6.length->0<=x6.getD i 0/\x6.getD i 0<8:=λi hi=>by
  have hm:x6.getD i 0∈mems (Q16 x3):=by
   rw[<-h6];simp[aK,hi,List.getElem_mem]
  obtain⟨q1,q2⟩:=(Zia nu.1 _).1 hm
  have:=nu.2 _ q2
  omega
 have hlen:x6.length<=32:=by rw[h6];unfold mems;rw[fQ];exact bH (fP _ _) (by simp)
 have hso:∀i:Nat,i+1<x6.length->x6.getD i 0<x6.getD (i+1) 0:=λi hi=>by
  have:=Zg9 (Q16 x3)
  rw[<-h6,List.pairwise_iff_getElem]at this
  have:=this i (i+1) (by omega) hi (by omega)
  simpa[aK,hi,show i<x6.length by omega]using this
 refine w_lp (inv:=λv=>0<=v/\v<=x6.length/\∀i:Nat,(i:Int)<v->x6.getD i 0≠x5) (μ:=Q6f kind prog steps frame data clock) ⟨fN 0,by omega,λi hi=>by omega⟩ (cL _) (λv hv=>?_)
 obtain⟨v0,v1,v2⟩:=hv
 have rcv:v<(x6.length:Int)->(Nat.beq 1 1&&bJ 0 1&&decide (0<=v/\v<(x6.length:Int)))=true:=λh=>by simp[bJ];omega
 refine w_br (λhb=>?_) λhb=>?_
 ·have hb:=oY hb
  obtain⟨i0,i1⟩:=hin v.toNat (by omega)
  have last:(Tree.cn (Nat.beq 1 1&&bJ 0 1&&decide (0<=v/\v<(x6.length:Int))) (.br (x6.getD v.toNat 0==x5) (.an Q3j (.lv Q7r λ(x7:Bool)=>.lf (Sum.inr x7))) (.nx True (Sum.inl (wrap .i64 (v+1))) trivial)):Tree (Int⊕Bool)).w (Sum.elim (λz=>(0<=z/\z<=x6.length/\∀i:Nat,(i:Int)<z->x6.getD i 0≠x5)/\Q6f kind prog steps frame data clock z<Q6f kind prog steps frame data clock v) λr=>r=true):=by
   refine w_cn (rcv hb) (w_br (λ_=>w_an Z7f (w_lv λx e=>by show x=true;rw[e,Z0k])) λhne=>w_nx ?_)
   have hne:x6.getD v.toNat 0≠x5:=λe=>by rw[e]at hne;simp at hne
   have e:wrap .i64 (v+1)=v+1:=w64 (by omega) (by omega)
   show(0<=wrap .i64 (v+1)/\wrap .i64 (v+1)<=x6.length/\∀i:Nat,(i:Int)<wrap .i64 (v+1)->x6.getD i 0≠x5)/\(40-wrap .i64 (v+1)).toNat<(40-v).toNat
   rw[e]
   refine⟨⟨by omega,by omega,λi hi=>?_⟩,by omega⟩
   by_cases hi2:(i:Int)<v
   ·exact v2 i hi2
   ·have:i=v.toNat:=by omega
    rw[this];exact hne
  refine w_cn (rcv hb) (w_br (λhb2=>?_) λ_=>w_cn (rcv hb) (w_br (λhb2=>?_) λ_=>w_br (λhb3=>w_cn (rcv hb) (w_cn ?_ (w_br (λhb4=>?_) λ_=>last))) λ_=>last))
  ·have:=oY hb2;omega
  ·have:=oY hb2;omega
  ·have hb3:=oY hb3
   rw[w64 (by omega) (by omega)]
   simp[bJ];omega
  ·have hb3:=oY hb3
   have hb4:=oY hb4
   rw[w64 (by omega) (by omega)]at hb4
   have:=hso (v-1).toNat (by omega)
   rw[show(v-1).toNat+1=v.toNat by omega]at this
   omega
 ·have hb:=oN hb
  have hnot:¬inS (Q16 x3) x5.toNat:=λhin=>by
   have:x5∈x6:=by rw[h6];exact(Zia nu.1 _).2 ⟨f0,hin⟩
   obtain⟨i,hi,e⟩:=List.getElem_of_mem this
   refine v2 i (by omega) ?_
   simp[aK,hi,e]
  obtain⟨d1,d2⟩:=data128 data
  refine w_an d1 (w_lv λx9 h9=>?_)
  rw[<-h9]at d2
  obtain⟨b1,b2,b3,b4,b5⟩:=beside g f0 f1 d2 hnot hc
  refine w_an (Tree.pp (Qjk g.ok.mem x5 x9)).1 (w_lv λx10 h10=>?_)
  rw[<-h10]at b1 b2 b4 b5
  refine w_an (Qz7 g.v g.len hc).1 (w_lv λx11 h11=>?_)
  refine w_an (Qz7 b1.v b1.len hc).1 (w_lv λx12 h12=>?_)
  have h12:x12=Q11 (setMem x3 x10.1) clock:=h12
  rw[<-h12]at b2 b4 b5
  rw[<-h11]at b3 b4 b5
  have g1:good 8 x11.1:=by rw[h11];exact(Qdh g hc).1
  have g2:good 8 x12.1:=by rw[h12];exact(Qdh b1 hc).1
  have ol:x11.2.length<=1:=by rw[h11];exact(Qdh g hc).2.1
  refine w_an (Tree.pp (Qqo g.ok.mem x5)).1 (w_lv λx13 h13=>w_an (Tree.pp (Qqo g2.ok.mem x5)).1 (w_lv λx14 h14=>w_an (Tree.pp (Qqo g1.ok.mem x5)).1 (w_lv λx15 h15=>w_an (Tree.pp (Qjk g2.ok.mem x5 x13.1)).1 (w_lv λx16 h16=>?_))))
  rw[<-h14]at b2
  rw[<-h15,<-h13]at b3
  rw[<-h13,<-h16]at b4
  refine w_br (λ_=>w_br (λ_=>?_) λhb=>?_) λhb=>?_
  ·have e4:({B2:=x12.1.B2,Mem:=x16.1,A2:=x12.1.A2,A9:=x12.1.A9,A7:=x12.1.A7,C1:=x12.1.C1,A0:=x12.1.A0,A3:=x12.1.A3,A4:=x12.1.A4,A6:=x12.1.A6}:Q00)=x11.1:=b4
   rw[e4]
   have ml:=g1.len
   refine Q0c (yZ x11.1 (by omega)) λx17 h17=>w_br (λ_=>?_) λhb=>by rw[h17]at hb;cases hb
   rw[b5]
   refine w_an (show x11.2.length<=1000000000000 by omega) (w_lv λx18 h18=>?_)
   have h18:x18=true:=h18.trans (Tree.post _ (vj x11.2 (by omega)))
   exact w_br (λ_=>w_an Z7f (w_lv λx e=>by show x=true;rw[e,Z0k])) λhb=>by rw[h18]at hb;cases hb
  ·rw[dY b3]at hb;cases hb
  ·rw[dY b2]at hb;cases hb

import Derived.Test.YthjfindbamdacaaGreatDoorPostRunsFin1
open Nat renaming lt_succ_self->cL,testBit_two_pow->fD,testBit_lt_two_pow->fK,lt_of_lt_of_le->bI,pow_le_pow_right->dP,testBit_and->eY,eq_of_testBit_eq->eG,zero_testBit->eX,testBit_two_pow_mul_add->fL,blt->bJ,le_trans->bH
open List renaming replicate->cM,length_singleton->cU,append_assoc->eZ,length_replicate->cQ,getD->aK,getElem?_set->fE,set_eq_of_length_le->fF,range->cY,range_succ->fM,filter_append->fN,filter_cons->fO,append_nil->cJ,mem_filter->fP,mem_range->fQ,getD_eq_getElem?_getD->cZ,getElem?_eq_none->aM,filter_nil->fS,length_filter_le->fT,length_take->bD,length_map->fU,map_append->bL,take_append->fV,take_of_length_le->fW,mem_append->bX,length_pos_of_mem->fX
open Eq renaming refl->fA
open Int renaming toNat_natCast->dZ,eq_ofNat_of_zero_le->fB,natCast_nonneg->fC,tdiv->eN,tdiv_eq_ediv_of_nonneg->eO,tmod->dA,tmod_eq_emod_of_nonneg->eA,toNat->dB,le_refl->fR,le_trans->fY,le_of_eq->fZ
open Bool renaming not_false->fG,not_true->fH
open Classical renaming byContradiction->fI
open BitVec renaming ofInt->dS,testBit_toNat->fJ
set_option maxRecDepth 100000
set_option linter.all false
namespace Go.Proofs.YthjfindbamdacaaGreatDoor
open Go Go.GD
open Go.IntKind(wrap i64 u32 wrap_u32 wrap_u64)
attribute [local irreducible] Q1i
def Tree.V{β:Type}(t:Tree β)(W:β->Prop):Prop:=W t.m
section
variable {α β:Type} {W:β->Prop} {c:Bool} {t e:Tree β}
theorem v_lf{x:β}(h:W x):Tree.V (.lf x) W:=h
theorem v_nx{f:Prop}{x:β}{hf:f}(h:W x):Tree.V (.nx f x hf) W:=h
theorem v_br(h:c=true->Tree.V t W)(g:c=false->Tree.V e W):Tree.V (.br c t e) W:=by
 cases c
 ·exact g rfl
 ·exact h rfl
theorem v_cn(g:Tree.V t W):Tree.V (.cn c t) W:=g
theorem v_an{p:Prop}(g:Tree.V t W):Tree.V (.an p t) W:=g
theorem v_lv{x:α}{k:α->Tree β}(h:∀y,y=x->Tree.V (k y) W):Tree.V (.lv x k) W:=h x rfl
theorem v_lp{d:Inhabited β}{n:Nat}{f:Prop}{x:α}{k:α->Tree (α⊕β)}{hf:f}{inv:α->Prop}{μ:α->Nat}(h:inv x)(hn:μ x<n)(g:∀y,inv y->Tree.V (k y) (Sum.elim (λz=>inv z/\μ z<μ y) W)):Tree.V (.lp d n f x k hf) W:=by
 refine zw (P:=inv) (R:=W) (μ:=μ) (λa ha=>?_) n x h hn
 have:=g a ha
 unfold Tree.V at this
 revert this
 cases(k a).m with
 |inl z=>exactλh=>h
 |inr b=>exactλh=>h
end
structure good(P:Nat)(m:Q00):Prop where
 ok:okM P m
 may:Q10 m=true
section
variable {P:Nat} {m:Q00} (h:good P m)
include h
theorem good.v:okV m:=⟨h.ok.cpu,h.ok.mem.u,h.ok.disk,h.ok.nic,h.ok.target,h.ok.cnt⟩
theorem good.s:okS P m:=⟨h.ok.cpu,h.ok.mem,h.ok.disk,h.ok.nic,h.ok.target.1,h.ok.target.2⟩
theorem good.rmay:Qdl m=true:=(Qzi h.v).symm.trans h.may
theorem Zjt{e:Q0f}(he:U e.N):good P (Q5w m e).2/\(Q5w m e).2.A2=m.A2:=by
 have o:okM P (Q5w m e).2:=Tree.post _ (Zkx h.ok he)
 have a:=(Tree.pp (Zj8 h.ok he)).2
 change(Q10 m=true->Q10 (Q0p m e).1=true)/\(Q0p m e).1.A2=m.A2/\_ at a
 have e1:Qap m e=((Q5w m e).2,(Q5w m e).1):=by
  simp only[Qap,Q70,Tree.m,letv,Z7g,h.rmay];rfl
 rw[Z5w h.v e,e1]at a
 exact⟨⟨o,a.1 h.may⟩,a.2.1⟩
theorem Zd1:Q7u m=false↔m.A9=false/\Qfa m=false/\m.A2<1152921504606846976:=by
 simp only[Q7u,Q9j,Tree.m,letv,h.rmay]
 cases m.A9<;>cases Qfa m<;>simp
theorem Zk9(hs:Q7u m=false){clock:Int}(hc:U clock):good P (Q2a m clock).2/\(Q2a m clock).2.A2=m.A2+1/\(Q2a m clock).1.length<=1:=by
 have o:=Tree.post _ (Qw0 h.ok hc)
 change(Q2a m clock).1.length<=1/\okM P (Q2a m clock).2/\(Q2a m clock).2.A2=wrap .u64 (m.A2+1)at o
 have s:=(Tree.pp (zg h.s h.ok.cnt hc)).2
 change _/\Good P m (Q0z m clock).1 at s
 have e:Q0z m clock=((Q2a m clock).2,(Q2a m clock).1):=by rw[Z0b h.v,Z9o,hs];rfl
 rw[e]at s
 have hct:=((Zd1 h).1 hs).2.2
 have h0:=h.ok.cnt
 refine⟨⟨o.2.1,s.2.may h.may⟩,?_,o.1⟩
 rw[o.2.2,wrap_u64];omega
end
structure goodR(P:Nat)(k:Int)(r:Q2d):Prop where
 m:good P r.A0
 clock:U r.Clock
 cnt:r.A0.A2<=k
theorem xk(n:Int):U (Qh2 n).N:=Tree.post _ (Zhi n)
theorem Zk5{i:List Int}(hu:∀w∈i,U w)(hl:i.length<=256):good 8 (Q25 8 4 i).1/\(Q25 8 4 i).1.A2=0:=by
 obtain⟨a,b⟩:=(Tree.pp (new_w i hu hl)).2
 change okM 8 (Q25 8 4 i).1 at a
 refine⟨⟨a,?_⟩,b⟩
 have e:(Q25 8 4 i).2=true:=by
  have w:i64.wrap (8*32)=256:=by decide
  simp only[Q25,Qck,Tree.m,w,letv,dN (show¬((i.length:Int)>256) by omega)]
  rfl
 obtain⟨a1,a2,a3,a4,a5,a6⟩:=zaB 8 4 i e
 exact(xaB _ 8 4 a1 a2 a3 a4 a5 _ a6).1
theorem zk{m:Q00}(h:good 8 m)(hc:m.A2<=87):Tree.V (Q9y m [] 87) (λx=>x.2.2.2=0->good 8 x.1/\x.1.A2<=87):=by
 have z:∀{k:Int} {p:Prop},k≠0->k=0->p:=λa b=>absurd b a
 unfold Q9y
 refine v_lv λx0 _=>v_br (λ_=>v_lf (z (by decide))) λ_=>v_br (λ_=>v_lf (z (by decide))) λ_=>v_br (λ_=>v_lf (z (by decide))) λ_=>v_an (v_lv λx1 _=>v_br (λ_=>v_lf (z (by decide))) λ_=>v_an (v_lv λx2 hx=>?_))
 rw[Z7g]at hx
 refine v_lp (inv:=λv:Q00×List Q0a=>good 8 v.1/\v.1.A2<=87) (μ:=Qg5 m [] 87) ⟨by rw[hx];exact h,by rw[hx];exact hc⟩ (cL _) λv0 ⟨a1,a3⟩=>?_
 have a2:=a1.ok.cnt
 refine v_br (λhb=>v_br (λhm=>?_) (λ_=>v_lf λ_=>⟨a1,a3⟩)) (λ_=>v_lf λ_=>⟨a1,a3⟩)
 have hb:=oY hb
 have hm:=oY hm
 refine v_lp (inv:=λ_=>True) (μ:=Qg2 m [] 87 v0) trivial (cL _) λv1 _=>?_
 refine v_br (λ_=>v_lf λ_=>⟨a1,a3⟩) λhh=>v_an (v_lv λx3 h3=>v_br (λ_=>v_lf λ_=>⟨a1,a3⟩) λhi=>v_an (v_lv λx4 _=>v_br (λ_=>v_lf (z (by decide))) λ_=>v_an (v_lv λx5 h5=>v_cn (v_nx ?_))))
 obtain⟨b1,b2,_⟩:=Zk9 a1 ((Zd1 a1).2 ⟨hh,h3.symm.trans hi,hm⟩) (clock:=0) U_0
 rw[<-h5]at b1 b2
 show(good 8 x5.2/\x5.2.A2<=87)/\(87-x5.2.A2).toNat<(87-v0.1.A2).toNat
 exact⟨⟨b1,by omega⟩,by omega⟩
theorem Qxb(kind:Int)(l:List Int)(hl:l.length*8<=reachBytes)(h40:l.length<=60):good 8 (Qfq kind l)/\(Qfq kind l).A2<=87:=by
 show Tree.V (Q7g kind l) (λm=>good 8 m/\m.A2<=87)
 have code:=(Tree.pp (yd l hl)).2
 change((Qnp l).length:Int)=l.length/\∀w∈Qnp l,U w at code
 obtain⟨b1,b2⟩:=code
 unfold Q7g
 refine v_an (v_lv λx0 hx0=>v_br (λ_=>v_an (v_lv λx1 e1=>?_)) (λhk=>?_))
 ·have eb:x1.1=boot:=by rw[e1];rfl
  obtain⟨q1,q2⟩:boot.length<=160/\∀w∈boot,U w:=ye
  refine v_lp (inv:=λv:List Int=>v.length<=160/\v=boot++cM (v.length-boot.length) 0) (μ:=Qda kind l) ⟨by rw[eb];exact q1,by rw[eb];simp⟩ (cL _) λv0 ⟨a1,a2⟩=>?_
  have a3:boot.length<=v0.length:=by rw[a2,lA];omega
  refine v_br (λhb=>?_) (λhb=>?_)
  ·have hb:=oY hb
   refine v_cn (v_nx ?_)
   show(_/\_)/\(_:Nat)<_
   refine⟨⟨by rw[lA,cU];omega,?_⟩,by show 160-(v0++[0]).length<160-v0.length;rw[lA,cU];omega⟩
   show v0++[0]=boot++cM ((v0++[0]).length-boot.length) 0
   rw[lA,cU,show v0.length+1-boot.length=(v0.length-boot.length)+1 by omega,List.replicate_succ',<-eZ,<-a2]
  ·have hb:=oN hb
   have hv:v0=Qk0:=by
    unfold Qk0
    rw[show(160:Nat)=v0.length by omega]
    exact a2
   subst hv
   have hp:=xZ
   have hu0:∀w∈Qk0,U w:=λw hw=>(List.mem_append.1 hw).elim (q2 w) (U_all _ w)
   refine v_an (v_lv λx2 e2=>v_cn ?_)
   rw[<-e2]at b1 b2
   have hu:∀w∈Qk0++x2,U w:=λw hw=>(List.mem_append.1 hw).elim (hu0 w) (b2 w)
   have hlen:(Qk0++x2).length<=256:=by rw[lA];omega
   refine v_br (λhb=>?_) (λhb=>?_)
   ·have hb:=oY hb;omega
   ·obtain⟨c1,c2⟩:=Zk5 hu hlen
    refine v_an (v_lv λx3 h3=>?_)
    rw[<-h3]at c1 c2
    have rn:=zk c1 (by omega)
    refine v_br (λ_=>v_an (v_lv λx4 hx=>v_lf ?_)) (λ_=>v_lf ⟨c1,by omega⟩)
    have e:x3=Q25 8 4 (Qk0++(x2++cM (96-x2.length) 0)):=by
     rw[h3]
     have hl2:(x2++cM (96-x2.length) (0:Int)).length=96:=by rw[lA,cQ];omega
     refine qZ _ _ hlen (by rw[lA,hl2];omega) ?_
     rw[lA,lA,hl2,hp,eZ,eZ,eZ,show 256-(160+96)=0 by omega,show 256-(160+x2.length)=96-x2.length by omega]
     simp
    have h0:x4.2.2.2=0:=by
     rw[hx,e]
     exact qar _ (by rw[lA,cQ];omega)
    exact(by rw[hx];exact rn:x4.2.2.2=0->good 8 x4.1/\x4.1.A2<=87) h0
 ·have hk:=oN hk
  refine v_an (v_lv λx2 e2=>v_cn ?_)
  rw[<-e2]at b1 b2
  refine v_br (λhb=>?_) (λhb=>?_)
  ·have hb:=oY hb;omega
  ·obtain⟨c1,c2⟩:=Zk5 b2 (by omega)
   refine v_an (v_lv λx3 h3=>?_)
   rw[<-h3]at c1 c2
   exact v_br (λh=>absurd (eq_of_beq h) (by omega)) (λ_=>v_lf ⟨c1,by omega⟩)
theorem xab{m:Q00}(h:U m.A1.C0):Qc1 m:=by
 show(Q5v m).p
 unfold Tree.p Q5v
 refine w_br (λ_=>w_an ?_ (w_lv λ_ _=>trivial)) (λ_=>trivial)
 show(Q3p m).p
 unfold Tree.p Q3p
 exact Q0e (Z8z h) λ_ _=>trivial
section
variable {P:Nat} {m:Q00} (h:good P m)
include h
theorem good.len:m.Mem.length<=1024:=by have:=h.ok.mem.len;have:=h.ok.mem.p2;omega
theorem good.app(e:Q0f):Q0p m e=((Q5w m e).2,(Q5w m e).1):=by
 rw[Z5w h.v]
 simp only[Qap,Q70,Tree.m,letv,Z7g,h.rmay];rfl
theorem good.step(hs:Q7u m=false)(clock:Int):Q0z m clock=((Q2a m clock).2,(Q2a m clock).1):=by
 rw[Z0b h.v,Z9o,hs];rfl
end
def inS(S:Int)(f:Nat):Prop:=S.toNat.testBit f=true
def Sub(S:Int)(D:Nat->Prop):Prop:=∀f,inS S f->D f
def Agr(D:Nat->Prop)(m n:List Int):Prop:=∀j:Nat,D (j/32)->m.getD j 0=n.getD j 0
def Kept(D:Nat->Prop)(m m':List Int):Prop:=∀j:Nat,¬D (j/32)->m'.getD j 0=m.getD j 0
def Zer(D:Nat->Prop)(m:List Int):Prop:=∀j:Nat,¬D (j/32)->m.getD j 0=0
theorem Kept.rfl{D:Nat->Prop}{m:List Int}:Kept D m m:=λ_ _=>fA _
theorem Kept.trans{D:Nat->Prop}{m m' m'':List Int}(h:Kept D m m')(g:Kept D m' m''):Kept D m m'':=λj hj=>(g j hj).trans (h j hj)
theorem Zer.kept{D:Nat->Prop}{m m':List Int}(h:Zer D m)(g:Kept D m m'):Zer D m':=λj hj=>(g j hj).trans (h j hj)
theorem inS0(f:Nat):¬inS 0 f:=by simp[inS]
theorem Qn9{S T:Int}(hS:U S)(hT:U T)(f:Nat):inS (ior .u32 S T) f↔inS S f\/inS T f:=by
 unfold inS
 rw[zR hS hT,dZ,Nat.testBit_or,Bool.or_eq_true]
theorem Sub.or{S T:Int}{D:Nat->Prop}(hS:U S)(hT:U T):Sub (ior .u32 S T) D↔Sub S D/\Sub T D:=
 ⟨λh=>⟨λf hf=>h f ((Qn9 hS hT f).2 (.inl hf)),λf hf=>h f ((Qn9 hS hT f).2 (.inr hf))⟩,λh f hf=>((Qn9 hS hT f).1 hf).elim (h.1 f) (h.2 f)⟩
theorem Zl3{k:Nat}(hk:k<32):(2:Nat)^k<4294967296:=Nat.pow_lt_pow_right (a:=2) (m:=k) (n:=32) (by decide) hk
theorem Z8f{k:Nat}(hk:k<32):ishl .u32 1 (k:Int)=((2^k:Nat):Int):=by
 have hp:=Zl3 hk
 unfold ishl
 have hm:min ((k:Int).toNat) u32.bits=k:=by
  have:u32.bits=32:=fA _
  rw[dZ,this];exact Nat.min_eq_left (by omega)
 have e3:((2:Int)^k)=((2^k:Nat):Int):=by simp
 rw[hm,wrap_u32,Int.one_mul,e3]
 generalize(2:Nat)^k=N at*
 omega
section
variable {P:Nat} {m n:List Int} (h:Q0q P m) (hn:Q0q P n) {D:Nat->Prop}
include h
theorem Q47{f:Int}(hf:U f):U (Q0k m f)/\∀g,inS (Q0k m f) g↔(g:Int)=f/\f<P:=by
 have hp:=h.p2
 simp only[Q0k,Q4r,Tree.m,letv,Qku h]
 have e:wrap .u32 ((P:Nat):Int)=P:=by rw[wrap_u32];omega
 rw[e]
 by_cases hc:f>=(P:Int)
 ·rw[dY hc]
  exact⟨U_0,λg=>⟨λx=>absurd x (inS0 g),λx=>by omega⟩⟩
 ·rw[dN hc]
  obtain⟨f0,f1⟩:=hf
  obtain⟨k,rfl⟩:=fB f0
  have hk:k<32:=by omega
  show U (ishl .u32 1 (k:Int))/\∀g,inS (ishl .u32 1 (k:Int)) g↔_
  rw[Z8f hk]
  have:=Zl3 hk
  show U ((2^k:Nat):Int)/\∀g,inS ((2^k:Nat):Int) g↔_
  refine⟨⟨fC _,Int.ofNat_lt.2 this⟩,λg=>?_⟩
  unfold inS
  rw[dZ,fD]
  simp only[decide_eq_true_eq]
  omega
end
theorem widx{a:Int}(ha:U a):(wrap .u32 (eN a 4)).toNat=(a/4).toNat:=by
 obtain⟨a0,a1⟩:=ha
 rw[wrap_u32,eO a0];omega
theorem wpg{a:Int}(ha:0<=a):(a/4).toNat/32=(a/128).toNat:=by omega
theorem Qzr(m:List Int)(a s:Int):Q0x m a s=bif !Q20 m a s then(0,false)else bif s==1 then(Q3c (m.getD (wrap .u32 (eN a 4)).toNat 0) (wrap .i64 (wrap .i64 (dA a 4)*8)) 8,true)else(m.getD (wrap .u32 (eN a 4)).toNat 0,true):=by kernel_rfl
theorem Zc7(m:List Int)(a s v:Int):Q23 m a s v=bif !Q20 m a s then(m,false)else bif s==1 then(m.set (wrap .u32 (eN a 4)).toNat (Q6u (m.getD (wrap .u32 (eN a 4)).toNat 0) (wrap .i64 (wrap .i64 (dA a 4)*8)) 8 v),true)else(m.set (wrap .u32 (eN a 4)).toNat v,true):=by kernel_rfl
theorem cc{α:Type}{c:Bool}{x x' y y':α}(hx:c=true->x=x')(hy:c=false->y=y'):cond c x y=cond c x' y':=by
 cases c
 ·exact hy (fA _)
 ·exact hx (fA _)
attribute [local irreducible] Q0x Q23 Q20
theorem Z90(l:List Int)(i j:Nat)(v:Int)(h:i≠j):(l.set i v).getD j 0=l.getD j 0:=by
 simp[aK,fE,h]
section
variable {P:Nat} {m n:List Int} (h:Q0q P m) (hn:Q0q P n) {D:Nat->Prop}
include h hn
theorem Z6u{a:Int}(ha:U a){s:Int}(hs:s=1\/s=4):Q20 m a s=Q20 n a s:=by
 rw[Qe2 h ha hs,Qe2 hn ha hs,Qb2 h ha hs,Qb2 hn ha hs]
theorem Que(hD:Agr D m n){a:Int}(ha:U a){s:Int}(hs:s=1\/s=4)(hd:a<128*P->D (a/128).toNat):Q0x m a s=Q0x n a s:=by
 rw[Qzr,Qzr,Z6u h hn ha hs]
 refine cc (λ_=>fA _) λhw=>?_
 have hw:Q20 n a s=true:=by simpa using hw
 have hl:a<128*P:=by
  rw[Qe2 hn ha hs,Qb2 hn ha hs]at hw
  exact(oY hw).2
 have e:m.getD (wrap .u32 (eN a 4)).toNat 0=n.getD (wrap .u32 (eN a 4)).toNat 0:=by
  rw[widx ha]
  refine hD _ ?_
  rw[wpg ha.1];exact hd hl
 rw[e]
theorem yk(hD:Agr D m n){i:Nat}(hd:D (i/32))(v:Int):Agr D (m.set i v) (n.set i v)/\Kept D m (m.set i v):=by
 refine⟨λj hj=>?_,λj hj=>?_⟩
 ·by_cases e:i=j
  ·subst e
   have l1:=h.len;have l2:=hn.len
   by_cases hi:i<m.length
   ·rw[Qgk hi,Qgk (by omega)]
   ·rw[fF (by omega),fF (by omega)];exact hD _ hj
  ·rw[Z90 _ _ _ _ e,Z90 _ _ _ _ e];exact hD _ hj
 ·have:i≠j:=λe=>by subst e;exact hj hd
  exact Z90 _ _ _ _ this
theorem Qsh(hD:Agr D m n){a:Int}(ha:U a){s:Int}(hs:s=1\/s=4)(hd:a<128*P->D (a/128).toNat){v:Int}:Agr D (Q23 m a s v).1 (Q23 n a s v).1/\Kept D m (Q23 m a s v).1:=by
 rw[Zc7,Zc7,Z6u h hn ha hs]
 cases hw:Q20 n a s
 ·exact⟨hD,Kept.rfl⟩
 ·have hl:a<128*P:=by
   rw[Qe2 hn ha hs,Qb2 hn ha hs]at hw
   exact(oY hw).2
  have hq:D ((wrap .u32 (eN a 4)).toNat/32):=by rw[widx ha,wpg ha.1];exact hd hl
  have e:=hD _ hq
  rw[e]
  cases s==1
  ·exact yk h hn hD hq _
  ·exact yk h hn hD hq _
end
def fltT(k:Int):Q18:={Addr:=0,D9:=0,D1:=k}
def entA(root va:Int):Int:=wrap .u32 (wrap .u32 (root*128)+wrap .u32 (4*wrap .u32 (eN va 128)))
theorem Qja(m:List Int)(root va k:Int):Q0t m root va k=bif !(Q17 k).2 then fltT (Q17 k).1 else bif decide (va>=4096)then fltT (Q17 k).1 else bif !Q1j m root then fltT (Q17 k).1 else bif !(Q0x m (entA root va) 4).2 then fltT (Q17 k).1 else bif !Q2k (Q0x m (entA root va) 4).1 k then fltT (Q17 k).1 else bif !Q1j m (Q21 (Q0x m (entA root va) 4).1)then fltT (Q17 k).1 else{Addr:=wrap .u32 (wrap .u32 (Q21 (Q0x m (entA root va) 4).1*128)+dA va 128),D9:=entA root va,D1:=0}:=by kernel_rfl
theorem Zc1(m:List Int)(a k:Int):Q2n m a k=bif !(Q0x m a 4).2 then m else bif k==3 then(Q23 m a 4 (ior .u32 (ior .u32 (Q0x m a 4).1 8) 16)).1 else(Q23 m a 4 (ior .u32 (Q0x m a 4).1 8)).1:=by kernel_rfl
theorem Ze1(w:Int):U (Q21 w):=by
 have:=(Tree.pp (Qrm w 8 8)).2
 exact this
attribute [local irreducible] Q17 Q1j Q2k Q21 Q0t Q2n
theorem qac{P:Nat}(hP:P<=32){root va:Int}(hr:0<=root/\root<P)(hv:0<=va/\va<4096):entA root va=root*128+4*(va/128):=by
 unfold entA
 rw[eO hv.1]
 simp only[wrap_u32]
 omega
theorem Qy(root va:Int):U (entA root va):=Q0s _
section
variable {P:Nat} {m n:List Int} (h:Q0q P m) (hn:Q0q P n) {D:Nat->Prop}
include h
theorem vk{root va:Int}(hr:U root)(hv:0<=va/\va<4096)(hi:Q1j m root=true):(entA root va/128).toNat=root.toNat/\root<P:=by
 rw[Qt1 h hr]at hi
 have hi:=oY hi
 have:=h.p2
 refine⟨?_,hi⟩
 rw[qac h.p2 ⟨hr.1,hi⟩ hv]
 obtain⟨r0,r1⟩:=hr
 omega
include hn
theorem Zj9(hD:Agr D m n){root va:Int}(hr:U root)(hv:U va)(hd:root<P->D root.toNat)(k:Int):Q0t m root va k=Q0t n root va k:=by
 have hpg:∀{f:Int},U f->Q1j m f=Q1j n f:=λhf=>by rw[Qt1 h hf,Qt1 hn hf]
 rw[Qja,Qja,hpg hr]
 refine cc (λ_=>fA _) λ_=>cc (λ_=>fA _) λhva=>cc (λ_=>fA _) λhi=>?_
 have hva:=oN hva
 have hi:Q1j n root=true:=by simpa using hi
 obtain⟨e1,e2⟩:=vk hn hr ⟨hv.1,by omega⟩ hi
 have e:=Que h hn hD (Qy root va) (.inr (fA _)) (s:=4) (λ_=>by rw[e1];exact hd e2)
 rw[e,hpg (Ze1 _)]
omit hn in
theorem ql{root va:Int}(hr:U root)(hv:U va)(k:Int)(hc:(Q0t m root va k).D1=0)(hk:(Q17 k).1≠0):(Q0t m root va k).D9=entA root va/\(entA root va/128).toNat=root.toNat/\root<P/\va<4096/\U (Q0t m root va k).Addr/\(Q0t m root va k).Addr<128*P:=by
 revert hc
 rw[Qja]
 cases(Q17 k).2
 ·intro hc;exact absurd hc hk
 by_cases hva:va>=4096
 ·rw[dY hva];intro hc;exact absurd hc hk
 rw[dN hva]
 cases hi:Q1j m root
 ·intro hc;exact absurd hc hk
 cases(Q0x m (entA root va) 4).2
 ·intro hc;exact absurd hc hk
 cases Q2k (Q0x m (entA root va) 4).1 k
 ·intro hc;exact absurd hc hk
 cases hf:Q1j m (Q21 (Q0x m (entA root va) 4).1)
 ·intro hc;exact absurd hc hk
 intro _
 obtain⟨e1,e2⟩:=vk h hr ⟨hv.1,by omega⟩ hi
 have hu:=Ze1 (Q0x m (entA root va) 4).1
 rw[Qt1 h hu]at hf
 have hf:=oY hf
 refine⟨rfl,e1,e2,by omega,Q0s _,?_⟩
 show wrap .u32 (wrap .u32 (Q21 (Q0x m (entA root va) 4).1*128)+dA va 128)<_
 generalize Q21 (Q0x m (entA root va) 4).1=f at*
 have:=h.p2
 obtain⟨u0,u1⟩:=hu;obtain⟨v0,v1⟩:=hv
 rw[eA v0]
 simp only[wrap_u32]
 omega
theorem Qtx(hD:Agr D m n){a:Int}(ha:U a)(hd:a<128*P->D (a/128).toNat)(k:Int):Agr D (Q2n m a k) (Q2n n a k)/\Kept D m (Q2n m a k):=by
 rw[Zc1,Zc1,Que h hn hD ha (.inr (fA _)) hd]
 cases(Q0x n a 4).2
 ·exact⟨hD,Kept.rfl⟩
 ·cases k==3
  ·exact Qsh h hn hD ha (.inr (fA _)) hd
  ·exact Qsh h hn hD ha (.inr (fA _)) hd
end
def resP(m:List Int)(v s k:Int):Int×List Int×Int:=bif !(Q0x m v s).2 then(0,m,(Q9i k).1)else(v,m,0)
def resV(c:Q02)(m:List Int)(v k:Int):Int×List Int×Int:=bif(Q0t m c.B3.a6 v k).D1 !=0 then(0,m,(Q0t m c.B3.a6 v k).D1)else((Q0t m c.B3.a6 v k).Addr,Q2n m (Q0t m c.B3.a6 v k).D9 k,0)
theorem Qrd(c:Q02)(m:List Int)(v:Int){s:Int}(hs:s=1\/s=4){k:Int}(hk:k=1\/k=2\/k=3):Q0y c m v s k=bif dA v s !=0 then(0,m,3)else bif !Q58 c then(bif iand .u32 c.B3.a0 4 !=0 then resV c m v k else resP m v s k)else resP m v s k:=by
 rcases hs with rfl|rfl<;>rcases hk with rfl|rfl|rfl<;>kernel_rfl
def sgV(m:List Int)(v:Int):Int:=Q0k m (wrap .u32 (eN v 128))
theorem Q7p(c:Q02)(m:List Int)(v s k:Int):Q0l c m v s k=bif dA v s !=0 then 0 else bif !Q2r c then sgV m v else bif iand .u32 c.B3.a0 4==0 then sgV m v else bif decide (v>=4096)then 0 else bif(Q0t m c.B3.a6 v k).D1==0 then ior .u32 (Q0k m c.B3.a6) (sgV m (Q0t m c.B3.a6 v k).Addr)else Q0k m c.B3.a6:=by kernel_rfl
theorem Qh7(c:Q02):Q2r c=!Q58 c:=by
 show(iand .u32 c.B3.a0 1==0)=!(iand .u32 c.B3.a0 1 !=0)
 rw[bne,Bool.not_not]
theorem Qau{k:Int}:(Q17 k).1≠0/\(Q9i k).1≠0:=qu k
theorem Zjx(k:Int):Q2k 0 k=false:=by kernel_rfl
theorem decode0:(Q11 0).2=false:=by kernel_rfl
section
variable {P:Nat} {m n:List Int} (h:Q0q P m) (hn:Q0q P n) {D:Nat->Prop}
theorem sgV_i{v:Int}(hv:U v)(g:Nat):Q0q P m->(inS (sgV m v) g↔(g:Int)=v/128/\v<128*P):=by
 intro h
 have:=(Q47 h (f:=wrap .u32 (eN v 128)) (Q0s _)).2 g
 unfold sgV
 rw[this]
 obtain⟨v0,v1⟩:=hv
 rw[eO v0,wrap_u32]
 omega
include h
theorem Zhl(v:Int):U (sgV m v):=(Q47 h (Q0s _)).1
theorem Z0n{v:Int}(hv:U v):Sub (sgV m v) D↔(v<128*P->D (v/128).toNat):=by
 constructor
 ·intro hs hl
  refine hs _ ((sgV_i hv _ h).2 ⟨?_,hl⟩)
  obtain⟨v0,v1⟩:=hv
  omega
 ·intro hd g hg
  obtain⟨e,hl⟩:=(sgV_i hv g h).1 hg
  have:=hd hl
  rw[<-e]at this
  simpa using this
theorem Qe8{f:Int}(hf:U f):Sub (Q0k m f) D↔(f<P->D f.toNat):=by
 constructor
 ·intro hs hl
  refine hs _ (((Q47 h hf).2 _).2 ⟨?_,hl⟩)
  obtain⟨v0,v1⟩:=hf
  omega
 ·intro hd g hg
  obtain⟨e,hl⟩:=((Q47 h hf).2 g).1 hg
  have:=hd hl
  rw[<-e]at this
  simpa using this
include hn
theorem Qee(f:Int):Q0k m f=Q0k n f:=by
 simp only[Q0k,Q4r,Tree.m,letv,Qku h,Qku hn]
theorem xl(hD:Agr D m n){c:Q02}(hc:Q29 c){v:Int}(hv:U v)(s k:Int)(hr:c.B3.a6<P->D c.B3.a6.toNat):Q0l c n v s k=Q0l c m v s k:=by
 rw[Q7p,Q7p,Zj9 h hn hD hc.a6 hv hr]
 simp only[sgV,Qee h hn]
omit hn in
theorem Ziw{c:Q02}(hc:Q29 c){v s k:Int}(hs:Sub (Q0l c m v s k) D)(h1:(dA v s !=0)=false)(h2:Q58 c=false)(h3:(iand .u32 c.B3.a0 4 !=0)=true)(h4:v<4096):(c.B3.a6<P->D c.B3.a6.toNat)/\((Q0t m c.B3.a6 v k).D1=0->Sub (sgV m (Q0t m c.B3.a6 v k).Addr) D):=by
 have h3':(iand .u32 c.B3.a0 4==0)=false:=by rw[bne]at h3;simpa using h3
 rw[Q7p,h1,Qh7,h2,h3',dN (by omega:¬v>=4096)]at hs
 simp only[fG,fH,cond_true,cond_false]at hs
 cases hc0:(Q0t m c.B3.a6 v k).D1==0
 ·rw[hc0]at hs
  simp only[fG,fH,cond_true,cond_false]at hs
  exact⟨(Qe8 h hc.a6).1 hs,λe=>by rw[e]at hc0;cases hc0⟩
 ·rw[hc0]at hs
  simp only[fG,fH,cond_true,cond_false]at hs
  have:=(Sub.or (Q47 h hc.a6).1 (Zhl h _)).1 hs
  exact⟨(Qe8 h hc.a6).1 this.1,λ_=>this.2⟩
structure RRel(P:Nat)(D:Nat->Prop)(m n:List Int)(x y:Int×List Int×Int):Prop where
 a:x.1=y.1
 c:x.2.2=y.2.2
 agr:Agr D x.2.1 y.2.1
 km:Kept D m x.2.1
 kn:Kept D n y.2.1
 u:U x.1
 i:x.2.2=0->x.1<128*P->D (x.1/128).toNat
omit h hn in
theorem Agr.symm(hD:Agr D m n):Agr D n m:=λj hj=>(hD j hj).symm
omit h hn in
theorem RRel.same(hD:Agr D m n){a k:Int}(hu:U a)(hi:k=0->a<128*P->D (a/128).toNat):RRel P D m n (a,m,k) (a,n,k):=⟨fA _,fA _,hD,Kept.rfl,Kept.rfl,hu,hi⟩
theorem Zkp(hD:Agr D m n){v:Int}(hv:U v){s:Int}(hs:s=1\/s=4){k:Int}(hd:v<128*P->D (v/128).toNat):RRel P D m n (resP m v s k) (resP n v s k):=by
 unfold resP
 rw[Que h hn hD hv hs hd]
 cases(Q0x n v s).2
 ·simp only[fG,fH,cond_true,cond_false]
  exact RRel.same hD U_0 λe=>absurd e Qau.2
 ·simp only[fG,fH,cond_true,cond_false]
  exact RRel.same hD hv λ_=>hd
theorem Qrv(hD:Agr D m n){c:Q02}(hc:Q29 c){v:Int}(hv:U v){s:Int}(hs:s=1\/s=4){k:Int}(hk:k=1\/k=2\/k=3)(hsub:Sub (Q0l c m v s k) D):RRel P D m n (Q0y c m v s k) (Q0y c n v s k):=by
 rw[Qrd c m v hs hk,Qrd c n v hs hk]
 cases h1:dA v s !=0
 case true=>
  simp only[fG,fH,cond_true,cond_false]
  exact RRel.same hD U_0 λe=>absurd e (by decide)
 cases h2:Q58 c
 case true=>
  simp only[fG,fH,cond_true,cond_false]
  refine Zkp h hn hD hv hs ((Z0n h hv).1 ?_)
  rw[Q7p,h1,Qh7,h2]at hsub
  simp only[fG,fH,cond_true,cond_false]at hsub
  exact hsub
 cases h3:iand .u32 c.B3.a0 4 !=0
 case false=>
  simp only[fG,fH,cond_true,cond_false]
  refine Zkp h hn hD hv hs ((Z0n h hv).1 ?_)
  have h3':(iand .u32 c.B3.a0 4==0)=true:=by rw[bne]at h3;simpa using h3
  rw[Q7p,h1,Qh7,h2,h3']at hsub
  simp only[fG,fH,cond_true,cond_false]at hsub
  exact hsub
 simp only[fG,fH,cond_true,cond_false]
 unfold resV
 by_cases h4:v<4096
 ·obtain⟨r1,r2⟩:=Ziw h hc hsub h1 h2 h3 h4
  have ew:=Zj9 h hn hD hc.a6 hv r1 k
  rw[<-ew]
  cases h5:(Q0t m c.B3.a6 v k).D1 !=0
  ·have h5:(Q0t m c.B3.a6 v k).D1=0:=by simpa using h5
   obtain⟨w1,w2,w3,w4,w5,w6⟩:=ql h hc.a6 hv k h5 Qau.1
   have hd:entA c.B3.a6 v<128*P->D (entA c.B3.a6 v/128).toNat:=λ_=>by rw[w2];exact r1 w3
   rw[w1]
   simp only[fG,fH,cond_true,cond_false]
   exact⟨fA _,fA _,(Qtx h hn hD (Qy _ _) hd k).1,(Qtx h hn hD (Qy _ _) hd k).2,(Qtx hn h hD.symm (Qy _ _) hd k).2,w5,λ_=>(Z0n h w5).1 (r2 h5)⟩
  ·simp only[fG,fH,cond_true,cond_false]
   exact RRel.same hD U_0 λe=>by rw[e]at h5;cases h5
 ·have f:∀l:List Int,(Q0t l c.B3.a6 v k).D1 !=0:=λl=>by
   rw[Qja,dY (by omega:v>=4096)]
   cases(Q17 k).2<;>simp only[fG,fH,cond_true,cond_false]<;>simpa[fltT]using(Qau (k:=k)).1
  have e:Q0t m c.B3.a6 v k=Q0t n c.B3.a6 v k:=by
   rw[Qja,Qja,dY (by omega:v>=4096)]
   cases(Q17 k).2<;>simp only[fG,fH,cond_true,cond_false]
  rw[<-e,f m]
  simp only[fG,fH,cond_true,cond_false]
  exact RRel.same hD U_0 λe=>by have:=f m;rw[e]at this;cases this
theorem Z3s(hD:Agr D m n)(hz:Zer D m){c:Q02}(hc:Q29 c){v:Int}(hv:U v)(s k:Int)(f:Nat)(hf:inS (Q0l c m v s k) f):inS (Q0l c n v s k) f:=by
 by_cases hr:c.B3.a6<P->D c.B3.a6.toNat
 ·rw[xl h hn hD hc hv s k hr];exact hf
 ·have hr1:c.B3.a6<P:=fI λe=>hr λg=>absurd g e
  have hr2:¬D c.B3.a6.toNat:=λe=>hr λ_=>e
  revert hf
  rw[Q7p,Q7p]
  have e1:sgV n v=sgV m v:=(Qee h hn _).symm
  rw[e1,<-Qee h hn c.B3.a6]
  have hw:¬v>=4096->(Q0t m c.B3.a6 v k).D1≠0:=λh4=>by
   rw[Qja,dN h4]
   cases(Q17 k).2
   ·exact Qau.1
   cases hi:Q1j m c.B3.a6
   ·exact Qau.1
   obtain⟨e1,e2⟩:=vk h hc.a6 ⟨hv.1,by omega⟩ hi
   have z:(Q0x m (entA c.B3.a6 v) 4).1=0:=by
    rw[Qzr]
    cases Q20 m (entA c.B3.a6 v) 4
    ·rfl
    ·show m.getD (wrap .u32 (eN (entA c.B3.a6 v) 4)).toNat 0=0
     refine hz _ ?_
     rw[widx (Qy _ _),wpg (Qy _ _).1,e1];exact hr2
   cases(Q0x m (entA c.B3.a6 v) 4).2
   ·exact Qau.1
   rw[z,Zjx]
   exact Qau.1
  have hb:¬v>=4096->((Q0t m c.B3.a6 v k).D1==0)=false:=λh4=>beq_false_of_ne (hw h4)
  generalize Q0t m c.B3.a6 v k=wm at*
  generalize Q0t n c.B3.a6 v k=wn at*
  have sn:=Zhl hn wn.Addr
  generalize sgV m wm.Addr=sm at*
  generalize sgV n wn.Addr=sw at*
  have sr:=(Q47 h hc.a6).1
  cases dA v s !=0
  case true=>simp only[fG,fH,cond_true,cond_false];exact id
  cases Q2r c
  case false=>simp only[fG,fH,cond_true,cond_false];exact id
  cases iand .u32 c.B3.a0 4==0
  case true=>simp only[fG,fH,cond_true,cond_false];exact id
  by_cases h4:v>=4096
  ·rw[dY h4];simp only[fG,fH,cond_true,cond_false];exact id
  rw[dN h4,hb h4]
  simp only[fG,fH,cond_true,cond_false]
  intro hf
  cases wn.D1==0
  ·exact hf
  ·exact(Qn9 sr sn f).2 (.inl hf)
end
section
variable {P:Nat} {m n:List Int} (h:Q0q P m) (hn:Q0q P n) {D:Nat->Prop} {c:Q02} (hc:Q29 c)
include h hn hc
theorem Zee(hD:Agr D m n)(hsub:Sub (Q0l c m c.Pc 4 1) D):(Q0h c m).1=(Q0h c n).1/\(Q0h c m).2.2=(Q0h c n).2.2/\Agr D (Q0h c m).2.1 (Q0h c n).2.1/\Kept D m (Q0h c m).2.1/\Kept D n (Q0h c n).2.1:=by
 have r:=Qrv h hn hD hc hc.pc (.inr (fA (4:Int))) (k:=1) (.inl (fA _)) hsub
 have o1:=(Tree.pp (Q7t h (c:=c) hc.pc (.inr (fA (4:Int))) 1)).2.2
 have o2:=(Tree.pp (Q7t hn (c:=c) hc.pc (.inr (fA (4:Int))) 1)).2.2
 change Q0q P (Q0y c m c.Pc 4 1).2.1 at o1
 change Q0q P (Q0y c n c.Pc 4 1).2.1 at o2
 rw[Qzn,Qzn,<-r.c]
 cases h0:(Q0y c m c.Pc 4 1).2.2 !=0
 ·have h0:(Q0y c m c.Pc 4 1).2.2=0:=by simpa using h0
  have e:=Que o1 o2 r.agr r.u (.inr (fA (4:Int))) (r.i h0)
  simp only[fG,fH,cond_true,cond_false]
  rw[e,r.a]
  exact⟨by trivial,by trivial,r.agr,r.km,r.kn⟩
 ·simp only[fG,fH,cond_true,cond_false]
  exact⟨by trivial,by trivial,r.agr,r.km,r.kn⟩
omit hn in
theorem Zme(hz:Zer D m)(hsub:¬Sub (Q0l c m c.Pc 4 1) D):(Q0h c m).1=0:=by
 have zero:∀{l:List Int} {a:Int},Zer D l->U a->¬D (a/128).toNat->(Q0x l a 4).1=0:=fun{l a} hl ha hd=>by
  rw[Qzr]
  cases Q20 l a 4
  ·rfl
  ·show l.getD (wrap .u32 (eN a 4)).toNat 0=0
   refine hl _ ?_
   rw[widx ha,wpg ha.1];exact hd
 have hp:¬Sub (sgV m c.Pc) D->(Q0x m c.Pc 4).1=0:=λhs=>zero hz hc.pc λhd=>hs ((Z0n h hc.pc).2 λ_=>hd)
 rw[Qzn]
 cases hk:(Q0y c m c.Pc 4 1).2.2 !=0
 case true=>rfl
 simp only[fG,fH,cond_true,cond_false]
 have rd:=Qrd c m c.Pc (.inr (fA (4:Int))) (k:=1) (.inl (fA _))
 revert hsub
 rw[Q7p,Qh7]
 generalize Q0y c m c.Pc 4 1=R at*
 cases h1:dA c.Pc 4 !=0
 case true=>simp only[fG,fH,cond_true,cond_false];intro hsub;exact absurd (λf hf=>absurd hf (inS0 f)) hsub
 rw[h1]at rd
 have kP:R=resP m c.Pc 4 1->¬Sub (sgV m c.Pc) D->(Q0x R.2.1 R.1 4).1=0:=λe hs=>by
  unfold resP at e
  cases hL:(Q0x m c.Pc 4).2
  ·rw[hL]at e
   simp only[fG,fH,cond_true,cond_false]at e
   rw[e]at hk
   have:(Q9i 1).1=0:=by simpa using hk
   exact absurd this Qau.2
  ·rw[hL]at e
   simp only[fG,fH,cond_true,cond_false]at e
   rw[e];exact hp hs
 cases h2:Q58 c
 case true=>rw[h2]at rd;simp only[fG,fH,cond_true,cond_false]at rd⊢;exact kP rd
 rw[h2]at rd
 cases h3:iand .u32 c.B3.a0 4 !=0
 case false=>
  have h3':(iand .u32 c.B3.a0 4==0)=true:=by rw[bne]at h3;simpa using h3
  rw[h3]at rd
  rw[h3'];simp only[fG,fH,cond_true,cond_false]at rd⊢;exact kP rd
 have h3':(iand .u32 c.B3.a0 4==0)=false:=by rw[bne]at h3;simpa using h3
 rw[h3']at*
 rw[h3]at rd
 simp only[fG,fH,cond_true,cond_false]at rd⊢
 by_cases h4:c.Pc>=4096
 ·rw[dY h4];simp only[fG,fH,cond_true,cond_false];intro hsub;exact absurd (λf hf=>absurd hf (inS0 f)) hsub
 rw[dN h4]
 simp only[fG,fH,cond_true,cond_false]
 intro hsub
 unfold resV at rd
 cases h5:(Q0t m c.B3.a6 c.Pc 1).D1 !=0
 ·have h5':(Q0t m c.B3.a6 c.Pc 1).D1=0:=by simpa using h5
  rw[h5]at rd
  rw[show((Q0t m c.B3.a6 c.Pc 1).D1==0)=true from by rw[h5'];rfl]at hsub
  simp only[fG,fH,cond_true,cond_false]at rd hsub
  obtain⟨w1,w2,w3,w4,w5,w6⟩:=ql h hc.a6 hc.pc 1 h5' Qau.1
  have hroot:D c.B3.a6.toNat:=fI λhr2=>by
   have z:(Q0x m (entA c.B3.a6 c.Pc) 4).1=0:=zero hz (Qy _ _) (by rw[w2];exact hr2)
   have:(Q0t m c.B3.a6 c.Pc 1).D1≠0:=by
    rw[Qja,dN h4]
    cases(Q17 1).2
    ·exact Qau.1
    cases Q1j m c.B3.a6
    ·exact Qau.1
    cases(Q0x m (entA c.B3.a6 c.Pc) 4).2
    ·exact Qau.1
    rw[z,Zjx]
    exact Qau.1
   exact this h5'
  have hnd:¬D ((Q0t m c.B3.a6 c.Pc 1).Addr/128).toNat:=λhd=>hsub ((Sub.or (Q47 h hc.a6).1 (Zhl h _)).2 ⟨(Qe8 h hc.a6).2 λ_=>hroot,(Z0n h w5).2 λ_=>hd⟩)
  rw[rd,w1]
  exact zero (hz.kept (Qtx h h (λ_ _=>fA _) (Qy _ _) (λ_=>by rw[w2];exact hroot) 1).2) w5 hnd
 ·rw[h5]at rd
  simp only[fG,fH,cond_true,cond_false]at rd
  rw[rd]at hk
  rw[h5]at hk;cases hk
end
theorem Qsq{x y:Int}(hx:U x)(hy:U y)(f:Nat):inS (Q7 .u32 x y) f↔inS x f/\¬inS y f:=by
 unfold inS Q7
 have hb:u32.bits=32:=rfl
 rw[hb,wrap_u32]
 have hlt:=(dS 32 x&&&~~~dS 32 y).isLt
 have e:(((dS 32 x&&&~~~dS 32 y).toNat:Int)%4294967296).toNat=(dS 32 x&&&~~~dS 32 y).toNat:=by omega
 rw[e,fJ,BitVec.getLsbD_and,BitVec.getLsbD_not,<-fJ,<-fJ,Qoy hx,Qoy hy]
 by_cases h32:f<32
 ·simp[h32]
 ·have:x.toNat.testBit f=false:=fK (bI (by have:=hx.2;omega:x.toNat<2^32) (dP (by decide) (by omega)))
  simp[this]
theorem Qo(x y:Int):U (Q7 .u32 x y):=Q0s _
section
variable {P:Nat} {m n:List Int} (h:Q0q P m) (hn:Q0q P n) {D:Nat->Prop}
theorem Zjp(l:List Int)(j k:Nat)(hk:k<4):byt l (4*j+k)=dig (l.getD j 0) k:=by
 unfold byt
 rw[show(4*j+k)/4=j by omega,show(4*j+k)%4=k by omega]
include h hn
theorem Zj7{j:Nat}(hb:∀k,k<4->byt m (4*j+k)=byt n (4*j+k)):m.getD j 0=n.getD j 0:=
 xh (Qi5 h.u _) (Qi5 hn.u _) λk hk=>by rw[<-Zjp m j k hk,<-Zjp n j k hk];exact hb k hk
theorem Zki{f:Int}(f0:0<=f){s:List UInt8}(a:isPg m f s)(b:isPg n f s){j:Nat}(hj:j/32=f.toNat):m.getD j 0=n.getD j 0:=by
 refine Zj7 h hn λk hk=>?_
 have e:4*j+k=(f*128).toNat+(4*(j%32)+k):=by omega
 rw[e,<-a.2 _ (by omega),<-b.2 _ (by omega)]
omit h hn in
theorem isPg.agr(hD:Agr D m n){f:Int}(f0:0<=f)(hd:D f.toNat){s:List UInt8}(a:isPg m f s):isPg n f s:=by
 refine⟨a.1,λk hk=>?_⟩
 rw[a.2 k hk]
 unfold byt
 rw[hD _ (by rw[show((f*128).toNat+k)/4/32=f.toNat by omega];exact hd)]
theorem Zb4(hD:Agr D m n){f:Int}(f0:0<=f)(hd:f<P->D f.toNat):Q12 m f=Q12 n f:=by
 by_cases f1:f<P
 ·obtain⟨a1,a2⟩:=(Tree.pp (Qrs h f0 f1)).2
  obtain⟨b1,b2⟩:=(Tree.pp (Qrs hn f0 f1)).2
  change isPg m f (Q12 m f).1 at a1
  change(Q12 m f).2=true at a2
  change isPg n f (Q12 n f).1 at b1
  change(Q12 n f).2=true at b2
  exact Prod.ext (qS (a1.agr hD f0 (hd f1)) b1) (a2.trans b2.symm)
 ·have e:∀{l:List Int},Q0q P l->Q12 l f=([],false):=fun{l} hl=>by
   simp only[Q12,Q5l,Tree.m,letv,Qvh hl,dN (λe:0<=f/\f<(P:Int)=>f1 e.2)]
   rfl
  rw[e h,e hn]
omit hn in
theorem Zli{f:Int}(f0:0<=f)(f1:f<P){s:List UInt8}(hs:s.length=128):(Q0r m f s).2=true/\Q0q P (Q0r m f s).1/\Kept (λg=>g=f.toNat) m (Q0r m f s).1/\isPg (Q0r m f s).1 f s:=by
 obtain⟨a1,a2,a3⟩:=(Tree.pp (Qsd h f0 f1 hs)).2
 change(Q0r m f s).2=true at a1
 change Q0q P (Q0r m f s).1 at a2
 change∀b:Nat,byt (Q0r m f s).1 b=_ at a3
 refine⟨a1,a2,λj hj=>Zj7 a2 h λk hk=>?_,hs,λk hk=>?_⟩
 ·rw[a3,if_neg (by omega)]
 ·rw[a3,if_pos (by omega)]
  congr 2
  congr 1
  omega
theorem Ql4(hD:Agr D m n){f:Int}(f0:0<=f)(f1:f<P)(hd:D f.toNat){s:List UInt8}(hs:s.length=128):Agr D (Q0r m f s).1 (Q0r n f s).1/\Kept D m (Q0r m f s).1:=by
 obtain⟨a1,a2,a3,a4⟩:=Zli h f0 f1 hs
 obtain⟨b1,b2,b3,b4⟩:=Zli hn f0 f1 hs
 refine⟨λj hj=>?_,λj hj=>a3 j λe=>hj (e▸hd)⟩
 by_cases e:j/32=f.toNat
 ·exact Zki a2 b2 f0 a4 b4 e
 ·rw[a3 j e,b3 j e];exact hD j hj
omit hn in
theorem xH{f:Int}{s:List UInt8}(hf:¬(0<=f/\f<P)\/s.length≠128):Q0r m f s=(m,false):=by
 simp only[Q0r,Q3i,Tree.m,letv,Qvh h]
 rcases hf with hf|hf
 ·rw[dN hf];rfl
 ·cases decide (0<=f/\f<(P:Int))
  ·rfl
  ·rw[show((s.length:Int) !=128)=true by simp;omega];rfl
theorem zac(f:Int):Q3w m f=Q3w n f:=by
 simp only[Q3w,Q8b,Tree.m,letv,Q1z h,Q1z hn]
theorem zl(f:Int):Q4m m f=Q4m n f:=by
 simp only[Q4m,Qa,Tree.m,letv,Q1z h,Q1z hn]
omit h hn in
theorem w64U{f:Int}(hf:U f):wrap .i64 f=f:=w64 (by have:=hf.1;omega) (by have:=hf.2;omega)
theorem yl(hD:Agr D m n){d:Q0d}(hd:Q4t d){cmd:Int}(hc:cmd=2->d.B9=0->d.B8<d.Blocks->d.Frame<P->D d.Frame.toNat)(at0:Int):Qh4 d m cmd at0=Qh4 d n cmd at0:=by
 simp only[Qh4,Q9x,Tree.m,letv,zac h hn]
 refine cc (λ_=>rfl) λh1=>cc (λ_=>rfl) λh2=>cc (λ_=>rfl) λh3=>cc (λh4=>?_) λ_=>rfl
 have e1:d.B9=0:=by simpa using h1
 have e2:=oN h2
 have e4:cmd=2:=eq_of_beq h4
 rw[w64U hd.frame,Zb4 h hn hD hd.frame.1 (hc e4 e1 (by omega))]
theorem zH(hD:Agr D m n){d:Q0u}(hd:Qas d)(hc:1<=d.D7->d.D7<=128->d.Frame<P->D d.Frame.toNat)(at0:Int):Qpx d m at0=Qpx d n at0:=by
 simp only[Qpx,Qeq,Tree.m,letv,zl h hn]
 refine cc (λ_=>rfl) λh1=>cc (λ_=>rfl) λh2=>cc (λ_=>rfl) λh3=>?_
 have e1:=oN h1
 have e2:=oN h2
 rw[w64U hd.frame,Zb4 h hn hD hd.frame.1 (hc (by omega) (by omega))]
end
def setMem(b:Q00)(l:List Int):Q00:={A4:=b.A4,Mem:=l,A3:=b.A3,B2:=b.B2,B0:=b.B0,C2:=b.C2,A1:=b.A1,A2:=b.A2,A6:=b.A6,A9:=b.A9}
def Two{β:Type}(D:Nat->Prop)(m n:List Int)(x y:Q00×β):Prop:=∃z m1 n1 o,x=(setMem z m1,o)/\y=(setMem z n1,o)/\Agr D m1 n1/\Kept D m m1/\Kept D n n1
theorem Two.mk0{β:Type}{D:Nat->Prop}{m n:List Int}(hD:Agr D m n)(z:Q00)(o:β):Two D m n (setMem z m,o) (setMem z n,o):=⟨z,m,n,o,rfl,rfl,hD,Kept.rfl,Kept.rfl⟩
theorem xac{v:Int}(h0:0<=v)(h1:v<32)(G:Int)(hG:U G):(iand .u32 G (ishl .u32 1 v)==0)=true↔ ¬inS G v.toNat:=by
 obtain⟨k,rfl⟩:=fB h0
 have hk:k<32:=by omega
 have hp:=Zl3 hk
 rw[Z8f hk,Z2r hG ⟨fC _,Int.ofNat_lt.2 hp⟩]
 simp only[dZ,beq_iff_eq,inS]
 constructor
 ·intro e hb
  have:(G.toNat&&&2^k).testBit k=true:=by rw[eY,hb,Nat.testBit_two_pow_self];rfl
  have e:G.toNat&&&2^k=0:=by omega
  rw[e]at this
  simp at this
 ·intro hb
  have:G.toNat&&&2^k=0:=eG λi=>by
   rw[eY,fD,eX]
   by_cases e:k=i
   ·subst e
    simp only[Bool.not_eq_true]at hb
    rw[hb];rfl
   ·simp[e]
  rw[this];rfl
section
variable {P:Nat} {m n:List Int} (h:Q0q P m) (hn:Q0q P n) {D:Nat->Prop} (hD:Agr D m n)
include h hn hD
theorem vl{b:Q00}(hd:Q4t b.B0)(hc:Qas b.C2)(hg:U b.A1.C0){l:List Int}(hl:Q0q P l){q:Q00}(q1:q.Mem=l)(q2:q.B0=b.B0)(q3:q.C2=b.C2)(q4:q.A1=b.A1)(port:Int){v:Int}(hv:U v)(at0:Int)(hs:Sub (Q1n q port v) D):Two D m n (Q0v (setMem b m) port v at0) (Q0v (setMem b n) port v at0):=by
 have z:∀(z:Q00) (o:List Q0a),Two D m n (setMem z m,o) (setMem z n,o):=Two.mk0 hD
 have sg:∀{f:Int},U f->Q0k l f=Q0k m f:=λ_=>Qee hl h _
 rcases ports (p:=port)with rfl|rfl|rfl|rfl|rfl|rfl|rfl|rfl|rfl|rfl|rfl|rfl|hp|hp
 ·have c:∀l:List Int,Q0v (setMem b l) 0 v at0=(setMem b l,[{C3:=1,At:=at0,B8:=0,C5:=[(λ(n:Int)=>UInt8.ofNat n.toNat) (wrap .u8 v)]}]):=λl=>by kernel_rfl
  rw[c,c];exact z b _
 ·have c:∀l:List Int,Q0v (setMem b l) 1 v at0=(setMem b l,[]):=λl=>by kernel_rfl
  rw[c,c];exact z b _
 ·have c:∀l:List Int,Q0v (setMem b l) 2 v at0=(setMem b l,[]):=λl=>by kernel_rfl
  rw[c,c];exact z b _
 ·have c:∀l:List Int,Q0v (setMem b l) 3 v at0=(setMem {b with B2:=Qhj b.B2 v} l,[]):=λl=>by kernel_rfl
  rw[c,c];exact z _ _
 ·have c:∀l:List Int,Q0v (setMem b l) 4 v at0=(setMem {b with B0:=(Q8c b.B0 l 4 v at0).1} l,(Q8c b.B0 l 4 v at0).2):=λl=>by kernel_rfl
  have e:∀l:List Int,Q8c b.B0 l 4 v at0=({Blocks:=b.B0.Blocks,B8:=v,Frame:=b.B0.Frame,B9:=b.B0.B9,D5:=b.B0.D5,B5:=b.B0.B5,B1:=b.B0.B1,C1:=b.B0.C1},[]):=λl=>by kernel_rfl
  rw[c,c,e,e];exact z _ _
 ·have c:∀l:List Int,Q0v (setMem b l) 5 v at0=(setMem {b with B0:=(Q8c b.B0 l 5 v at0).1} l,(Q8c b.B0 l 5 v at0).2):=λl=>by kernel_rfl
  have e:∀l:List Int,Q8c b.B0 l 5 v at0=({Blocks:=b.B0.Blocks,B8:=b.B0.B8,Frame:=v,B9:=b.B0.B9,D5:=b.B0.D5,B5:=b.B0.B5,B1:=b.B0.B1,C1:=b.B0.C1},[]):=λl=>by kernel_rfl
  rw[c,c,e,e];exact z _ _
 ·have c:∀l:List Int,Q0v (setMem b l) 6 v at0=(setMem {b with B0:=(Q8c b.B0 l 6 v at0).1} l,(Q8c b.B0 l 6 v at0).2):=λl=>by kernel_rfl
  have e:Q8c b.B0 m 6 v at0=Q8c b.B0 n 6 v at0:=by
   have i1:=λ(c:Int) (hc:c=2->b.B0.B9=0->b.B0.B8<b.B0.Blocks->b.B0.Frame<P->D b.B0.Frame.toNat)=>yl h hn hD hd hc at0
   have c1:wrap .i64 v=2->b.B0.B9=0->b.B0.B8<b.B0.Blocks->b.B0.Frame<P->D b.B0.Frame.toNat:=λe1 e2 e3=>by
    rw[w64U hv]at e1
    refine(Qe8 hl hd.frame).1 ?_
    have:Q1n q 6 v=Q0k l b.B0.Frame:=by
     simp only[Q1n,Q22,Tree.m,letv,q1,q2,e1,e2,dY e3];rfl
    rw[this]at hs;exact hs
   simp only[Q8c,Qea,Tree.m,letv,i1 _ c1]
  rw[c,c,e];exact z _ _
 ·have c:∀l:List Int,Q0v (setMem b l) 7 v at0=(setMem {b with C2:=(Qc5 b.C2 l 7 v at0).1} l,(Qc5 b.C2 l 7 v at0).2):=λl=>by kernel_rfl
  have e:∀l:List Int,Qc5 b.C2 l 7 v at0=({Frame:=v,D7:=b.C2.D7,C4:=b.C2.C4,B6:=b.C2.B6,B7:=b.C2.B7,E0:=b.C2.E0},[]):=λl=>by kernel_rfl
  rw[c,c,e,e];exact z _ _
 ·have c:∀l:List Int,Q0v (setMem b l) 8 v at0=(setMem {b with C2:=(Qc5 b.C2 l 8 v at0).1} l,(Qc5 b.C2 l 8 v at0).2):=λl=>by kernel_rfl
  have e:∀l:List Int,Qc5 b.C2 l 8 v at0=({Frame:=b.C2.Frame,D7:=v,C4:=b.C2.C4,B6:=b.C2.B6,B7:=b.C2.B7,E0:=b.C2.E0},[]):=λl=>by kernel_rfl
  rw[c,c,e,e];exact z _ _
 ·have c:∀l:List Int,Q0v (setMem b l) 9 v at0=(setMem {b with C2:=(Qc5 b.C2 l 9 v at0).1} l,(Qc5 b.C2 l 9 v at0).2):=λl=>by kernel_rfl
  have e:Qc5 b.C2 m 9 v at0=Qc5 b.C2 n 9 v at0:=by
   simp only[Qc5,Qhg,Tree.m,letv,zl h hn]
   refine cc (λ_=>rfl) λ_=>cc (λ_=>rfl) λ_=>cc (λ_=>cc (λh1=>?_) λ_=>rfl) λ_=>rfl
   have e1:v=1:=eq_of_beq h1
   rw[zH h hn hD hc (λa1 a2=>?_) at0]
   refine(Qe8 hl hc.frame).1 ?_
   have:Q1n q 9 v=Q0k l b.C2.Frame:=by
    simp only[Q1n,Q22,Tree.m,letv,q1,q3,e1,dY (show b.C2.D7>=1 from a1),dY a2];rfl
   rw[this]at hs;exact hs
  rw[c,c,e];exact z _ _
 ·have c:∀l:List Int,Q0v (setMem b l) 10 v at0=(setMem {b with A1:=(Q3m b.A1 l 10 v).1} (Q3m b.A1 l 10 v).2,[]):=λl=>by kernel_rfl
  rw[c,c]
  simp only[Q3m,Q3h,Tree.m,letv,Q1z h,Q1z hn,w64U hv,Q03]
  cases h1:decide (v>=32)
  case true=>exact z b _
  cases h2:decide (v<(P:Int))
  case false=>exact z b _
  cases h3:iand .u32 b.A1.C0 (ishl .u32 1 v)==0
  case false=>exact z b _
  have e1:=oN h1
  have e2:=oY h2
  have hq:D v.toNat:=by
   refine hs _ ?_
   have:Q1n q 10 v=Q7 .u32 (Q0k l v) b.A1.C0:=by
    simp only[Q1n,Q22,Tree.m,letv,q1,q4];rfl
   rw[this,Qsq (Q47 hl hv).1 hg]
   refine⟨((Q47 hl hv).2 _).2 ⟨by have:=hv.1;omega,e2⟩,(xac hv.1 (by omega) _ hg).1 h3⟩
  have hr:(strings_Repeat [(0:UInt8)] 128).length=128:=by decide
  have r1:=Ql4 h hn hD hv.1 e2 hq hr
  have r2:=Ql4 hn h hD.symm hv.1 e2 hq hr
  exact⟨{b with A1:={C6:=b.A1.C6,C0:=ior .u32 b.A1.C0 (ishl .u32 1 v)}},_,_,[],rfl,rfl,r1.1,r1.2,r2.2⟩
 ·have c:∀l:List Int,Q0v (setMem b l) 11 v at0=(setMem {b with A1:=(Q3m b.A1 l 11 v).1} (Q3m b.A1 l 11 v).2,[]):=λl=>by kernel_rfl
  rw[c,c]
  simp only[Q3m,Q3h,Tree.m,letv,Q03]
  cases decide (v>=32)
  ·exact z {b with A1:={C6:=b.A1.C6,C0:=Q7 .u32 b.A1.C0 (ishl .u32 1 v)}} _
  ·exact z b _
 all_goals
  have c:∀l:List Int,Q0v (setMem b l) port v at0=(setMem b l,[]):=λl=>by
   have nn:∀k:Int,0<=k->k<12->(port==k)=false:=λk h0 h1=>beq_eq_false_iff_ne.2 (by omega)
   simp only[Q0v,Q3k,Tree.m,nn 0 (by decide) (by decide),nn 3 (by decide) (by decide),nn 4 (by decide) (by decide),nn 5 (by decide) (by decide),nn 6 (by decide) (by decide),nn 7 (by decide) (by decide),nn 8 (by decide) (by decide),nn 9 (by decide) (by decide),nn 10 (by decide) (by decide),nn 11 (by decide) (by decide),cond_false]
  rw[c,c];exact z _ _
end
theorem qad(c:Q02)(i:Q0g):(Q5f c i).2.C3=2->i.Op=61/\(Q5f c i).2.C8=wrap .i64 i.Imm/\(Q5f c i).2.Value=regX c i.A:=by
 by_cases h61:i.Op=61
 ·obtain⟨op,A,B,C,Imm⟩:=i
  change op=61 at h61
  subst h61
  intro _
  exact⟨rfl,by kernel_rfl,by kernel_rfl⟩
 ·intro hk
  refine absurd hk ?_
  show Tree.V (Q3u c i) (λx=>¬x.2.C3=2)
  unfold Q3u
  repeat' first
   |exact v_lf (show¬(0:Int)=2 by decide)
   |exact v_lf (show¬(1:Int)=2 by decide)
   |exact v_lf (show¬(3:Int)=2 by decide)
   |exact v_lf (show¬(4:Int)=2 by decide)
   |exact v_lf (show¬(5:Int)=2 by decide)
   |exact absurd (eq_of_beq (by assumption)) h61
   |refine v_cn ?_
   |refine v_an ?_
   |refine v_lv λ_ _=>?_
   |refine v_br (λ_=>?_) (λ_=>?_)
def vaO(c:Q02)(i:Q0g):Int:=wrap .u32 (aK (A16.l c.X) (dB (iand .i64 i.B 15)) 0+wrap .u32 i.Imm)
theorem Qpe(q:Q00)(c:Q02)(m:List Int)(i:Q0g):Q1g q c m i=bif i.Op==32 then Q0l c m (vaO c i) 4 2 else bif i.Op==33 then Q0l c m (vaO c i) 1 2 else bif i.Op==34 then Q0l c m (vaO c i) 1 2 else bif i.Op==35 then Q0l c m (vaO c i) 4 3 else bif i.Op==36 then Q0l c m (vaO c i) 1 3 else bif i.Op==61 then Q1n q (wrap .i64 i.Imm) (aK (A16.l c.X) (dB (iand .i64 i.A 15)) 0)else 0:=by kernel_rfl
theorem and15{b:Int}(h0:0<=b)(h1:b<16):iand .i64 b 15=b:=by
 have:b=0\/b=1\/b=2\/b=3\/b=4\/b=5\/b=6\/b=7\/b=8\/b=9\/b=10\/b=11\/b=12\/b=13\/b=14\/b=15:=by omega
 rcases this with rfl|rfl|rfl|rfl|rfl|rfl|rfl|rfl|rfl|rfl|rfl|rfl|rfl|rfl|rfl|rfl<;>rfl
theorem va_U(c:Q02)(B Imm:Int):U (va c B Imm):=Q0s _
def XRel{α:Type}(D:Nat->Prop)(m n:List Int)(x y:Q02×List Int×α):Prop:=x.1=y.1/\x.2.2=y.2.2/\Agr D x.2.1 y.2.1/\Kept D m x.2.1/\Kept D n y.2.1
section
variable {P:Nat} {m n:List Int} (h:Q0q P m) (hn:Q0q P n) {D:Nat->Prop} (hD:Agr D m n) {c:Q02} (hc:Q29 c)
include h hn hD hc
theorem qm(A:Int){v:Int}(hv:U v){s:Int}(hs:s=1\/s=4)(f:Int->Int)(hsub:Sub (Q0l c m v s 2) D):XRel D m n ((ldP c A v s f (Q0y c m v s 2)).1,(ldP c A v s f (Q0y c m v s 2)).2,eff0) ((ldP c A v s f (Q0y c n v s 2)).1,(ldP c A v s f (Q0y c n v s 2)).2,eff0):=by
 have r:=Qrv h hn hD hc hv hs (k:=2) (.inr (.inl rfl)) hsub
 have o1:=(Tree.pp (Q7t h (c:=c) hv hs 2)).2.2
 have o2:=(Tree.pp (Q7t hn (c:=c) hv hs 2)).2.2
 change Q0q P (Q0y c m v s 2).2.1 at o1
 change Q0q P (Q0y c n v s 2).2.1 at o2
 unfold ldP
 rw[<-r.c]
 cases h0:(Q0y c m v s 2).2.2 !=0
 ·have h0:(Q0y c m v s 2).2.2=0:=by simpa using h0
  have e:=Que o1 o2 r.agr r.u hs (r.i h0)
  simp only[fG,fH,cond_true,cond_false]
  rw[e,r.a]
  exact⟨by trivial,by trivial,r.agr,r.km,r.kn⟩
 ·simp only[fG,fH,cond_true,cond_false]
  exact⟨by trivial,by trivial,r.agr,r.km,r.kn⟩
theorem zS(A:Int){v:Int}(hv:U v){s:Int}(hs:s=1\/s=4)(hsub:Sub (Q0l c m v s 3) D):XRel D m n ((stP c A v s (Q0y c m v s 3)).1,(stP c A v s (Q0y c m v s 3)).2,eff0) ((stP c A v s (Q0y c n v s 3)).1,(stP c A v s (Q0y c n v s 3)).2,eff0):=by
 have r:=Qrv h hn hD hc hv hs (k:=3) (.inr (.inr rfl)) hsub
 have o1:=(Tree.pp (Q7t h (c:=c) hv hs 3)).2.2
 have o2:=(Tree.pp (Q7t hn (c:=c) hv hs 3)).2.2
 change Q0q P (Q0y c m v s 3).2.1 at o1
 change Q0q P (Q0y c n v s 3).2.1 at o2
 unfold stP
 rw[<-r.c,<-r.a]
 cases h0:(Q0y c m v s 3).2.2 !=0
 ·have h0:(Q0y c m v s 3).2.2=0:=by simpa using h0
  have e:=Qsh o1 o2 r.agr r.u hs (r.i h0) (v:=aK (A16.l c.X) A.toNat 0)
  have e':=Qsh o2 o1 r.agr.symm r.u hs (r.i h0) (v:=aK (A16.l c.X) A.toNat 0)
  simp only[fG,fH,cond_true,cond_false]
  exact⟨by trivial,by trivial,e.1,r.km.trans e.2,r.kn.trans e'.2⟩
 ·simp only[fG,fH,cond_true,cond_false]
  exact⟨by trivial,by trivial,r.agr,r.km,r.kn⟩
theorem yH{i:Q0g}(hi:Qbq i)(q:Q00)(hs:Sub (Q1g q c m i) D):XRel D m n (Q4f c m i) (Q4f c n i)/\((Q4f c m i).2.2.C3=2->Sub (Q1n q (Q4f c m i).2.2.C8 (Q4f c m i).2.2.Value) D/\U (Q4f c m i).2.2.Value):=by
 obtain⟨op,A,B,C,Imm⟩:=i
 have hB:iand .i64 B 15=B:=and15 hi.b.1 hi.b.2
 have hA:iand .i64 A 15=A:=and15 hi.a.1 hi.a.2
 have ev:vaO c ⟨op,A,B,C,Imm⟩=va c B Imm:=by unfold vaO va;rw[hB]
 obtain⟨⟨l32,_⟩,⟨l33,_⟩,⟨l34,_⟩,⟨s35,_⟩,⟨s36,_⟩⟩:=ld_eq c m A B C Imm
 obtain⟨⟨k32,_⟩,⟨k33,_⟩,⟨k34,_⟩,⟨t35,_⟩,⟨t36,_⟩⟩:=ld_eq c n A B C Imm
 rw[Qpe,ev]at hs
 have e0:∀{X:Prop},eff0.C3=2->X:=λe=>absurd e (by decide)
 by_cases h32:op=32
 ·subst h32
  refine⟨?_,λe=>e0 e⟩
  show XRel D m n ((Q2q c m _).1,(Q2q c m _).2,eff0) ((Q2q c n _).1,(Q2q c n _).2,eff0)
  rw[l32,k32];exact qm h hn hD hc A (va_U _ _ _) (.inr rfl) _ hs
 by_cases h33:op=33
 ·subst h33
  refine⟨?_,λe=>e0 e⟩
  show XRel D m n ((Q2q c m _).1,(Q2q c m _).2,eff0) ((Q2q c n _).1,(Q2q c n _).2,eff0)
  rw[l33,k33];exact qm h hn hD hc A (va_U _ _ _) (.inl rfl) _ hs
 by_cases h34:op=34
 ·subst h34
  refine⟨?_,λe=>e0 e⟩
  show XRel D m n ((Q2q c m _).1,(Q2q c m _).2,eff0) ((Q2q c n _).1,(Q2q c n _).2,eff0)
  rw[l34,k34];exact qm h hn hD hc A (va_U _ _ _) (.inl rfl) _ hs
 by_cases h35:op=35
 ·subst h35
  refine⟨?_,λe=>e0 e⟩
  show XRel D m n ((Q3n c m _).1,(Q3n c m _).2,eff0) ((Q3n c n _).1,(Q3n c n _).2,eff0)
  rw[s35,t35];exact zS h hn hD hc A (va_U _ _ _) (.inr rfl) hs
 by_cases h36:op=36
 ·subst h36
  refine⟨?_,λe=>e0 e⟩
  show XRel D m n ((Q3n c m _).1,(Q3n c m _).2,eff0) ((Q3n c n _).1,(Q3n c n _).2,eff0)
  rw[s36,t36];exact zS h hn hD hc A (va_U _ _ _) (.inl rfl) hs
 have b:∀{k:Int},op≠k->(op==k)=false:=λe=>beq_false_of_ne e
 have ep:∀l:List Int,Q4f c l ⟨op,A,B,C,Imm⟩=((Q5f c ⟨op,A,B,C,Imm⟩).1,l,(Q5f c ⟨op,A,B,C,Imm⟩).2):=λl=>by
  simp only[Q4f,b h32,b h33,b h34,b h35,b h36,cond_false]
 rw[ep,ep]
 refine⟨⟨rfl,rfl,hD,Kept.rfl,Kept.rfl⟩,λhk=>?_⟩
 obtain⟨x1,x2,x3⟩:=qad c ⟨op,A,B,C,Imm⟩ hk
 change op=61 at x1
 subst x1
 show Sub (Q1n q (Q5f c ⟨61,A,B,C,Imm⟩).2.C8 (Q5f c ⟨61,A,B,C,Imm⟩).2.Value) D/\U (Q5f c ⟨61,A,B,C,Imm⟩).2.Value
 rw[x2,x3]
 change Sub (Q1n q (wrap .i64 Imm) (aK (A16.l c.X) (dB (iand .i64 A 15)) 0)) D at hs
 rw[hA]at hs
 exact⟨hs,hc.r _⟩
end
def nd(q:Q00)(c:Q02)(m:List Int):Int:=
 bif(Q0h c m).2.2 !=0 then Q0l c m c.Pc 4 1 else bif !(Q11 (Q0h c m).1).2 then Q0l c m c.Pc 4 1 else bif Q2r c then(bif Q2j (Q11 (Q0h c m).1).1.Op then Q0l c m c.Pc 4 1 else ior .u32 (Q0l c m c.Pc 4 1) (Q1g q c (Q0h c m).2.1 (Q11 (Q0h c m).1).1))else ior .u32 (Q0l c m c.Pc 4 1) (Q1g q c (Q0h c m).2.1 (Q11 (Q0h c m).1).1)
theorem Zck(m:Q00):Q19 m=bif !Q10 m then 0 else bif m.A9 then 0 else bif Q5 m then 0 else bif decide (m.A2>=1152921504606846976)then 0 else nd m (bif iand .u32 (Q3g m) m.A4.B3.a7 !=0 then(bif iand .u32 m.A4.B3.a0 2 !=0 then Q3a m.A4 (wrap .i64 (16+Q0i (iand .u32 (Q3g m) m.A4.B3.a7))) 0 else m.A4)else m.A4) m.Mem:=by
 simp only[Q19,Q6p,Tree.m,letv]
 cases Q10 m
 case false=>rfl
 cases m.A9
 case true=>rfl
 cases Q5 m
 case true=>rfl
 cases decide (m.A2>=1152921504606846976)
 case true=>rfl
 cases iand .u32 (Q3g m) m.A4.B3.a7 !=0
 ·rfl
 ·cases iand .u32 m.A4.B3.a0 2 !=0
  ·rfl
  ·rfl
section
variable {P:Nat} {m:List Int} (h:Q0q P m)
include h
theorem Qp9{c:Q02}(hc:Q29 c){v:Int}(hv:U v)(s k:Int):U (Q0l c m v s k):=by
 rw[Q7p]
 cases dA v s !=0
 case true=>exact U_0
 cases Q2r c
 case false=>exact Zhl h _
 cases iand .u32 c.B3.a0 4==0
 case true=>exact Zhl h _
 cases decide (v>=4096)
 case true=>exact U_0
 show U (bif(Q0t m c.B3.a6 v k).D1==0 then _ else _)
 cases(Q0t m c.B3.a6 v k).D1==0
 ·exact(Q47 h hc.a6).1
 ·exact U_or _ _
omit h in
theorem out_U{q:Q00}(hq:Q0q P q.Mem)(hd:Q4t q.B0)(hn:Qas q.C2)(port:Int){v:Int}(hv:U v):U (Q1n q port v):=by
 show Tree.V (Q22 q port v) U
 unfold Q22
 repeat' first
  |exact v_lf U_0
  |exact v_lf (Qo _ _)
  |(refine v_lv λx hx=>?_;subst hx;first|exact v_lf (Q47 hq hd.frame).1|exact v_lf (Q47 hq hn.frame).1|exact v_lf (Qo _ _))
  |refine v_an ?_
  |refine v_br (λ_=>?_) (λ_=>?_)
theorem Zf1{q:Q00}(hq:Q0q P q.Mem)(hd:Q4t q.B0)(hn:Qas q.C2){c:Q02}(hc:Q29 c)(i:Q0g):U (Q1g q c m i):=by
 rw[Qpe]
 have a:=λs k=>Qp9 h hc (v:=vaO c i) (Q0s _) s k
 cases i.Op==32
 case true=>exact a 4 2
 cases i.Op==33
 case true=>exact a 1 2
 cases i.Op==34
 case true=>exact a 1 2
 cases i.Op==35
 case true=>exact a 4 3
 cases i.Op==36
 case true=>exact a 1 3
 cases i.Op==61
 case true=>exact out_U hq hd hn _ (hc.r _)
 exact U_0
end
theorem decP(w:Int):(Q11 w).2=true->Qbq (Q11 w).1:=(Tree.pp (Qnv w)).2
attribute [local irreducible] Q0l Q1g
def goes(c:Q02)(w k:Int):Bool:=bif k !=0 then false else bif !(Q11 w).2 then false else bif Q2r c then !Q2j (Q11 w).1.Op else true
def trapX(c:Q02)(w k:Int):Q02:=bif k !=0 then Q3a c k c.Pc else bif !(Q11 w).2 then Q3a c 1 w else Q3a c 2 w
theorem Zld(q:Q00)(c:Q02)(m:List Int):nd q c m=bif goes c (Q0h c m).1 (Q0h c m).2.2 then ior .u32 (Q0l c m c.Pc 4 1) (Q1g q c (Q0h c m).2.1 (Q11 (Q0h c m).1).1)else Q0l c m c.Pc 4 1:=by
 unfold nd goes
 cases(Q0h c m).2.2 !=0
 case true=>rfl
 cases(Q11 (Q0h c m).1).2
 case false=>rfl
 cases Q2r c
 case false=>rfl
 cases Q2j (Q11 (Q0h c m).1).1.Op<;>rfl
theorem Zjb(c:Q02)(m:List Int):Q2s c m=bif goes c (Q0h c m).1 (Q0h c m).2.2 then Q4f c (Q0h c m).2.1 (Q11 (Q0h c m).1).1 else(trapX c (Q0h c m).1 (Q0h c m).2.2,(Q0h c m).2.1,eff0):=by
 rw[qj]
 unfold doP goes trapX
 rw[Qh7]
 cases(Q0h c m).2.2 !=0
 case true=>rfl
 cases(Q11 (Q0h c m).1).2
 case false=>rfl
 cases Q2j (Q11 (Q0h c m).1).1.Op<;>cases Q58 c<;>rfl
theorem xm{c:Q02}{w k:Int}(h:goes c w k=true):k=0/\(Q11 w).2=true:=by
 unfold goes at h
 cases h1:k !=0
 ·rw[h1]at h
  cases h2:(Q11 w).2
  ·rw[h2]at h;cases h
  ·exact⟨by simpa using h1,rfl⟩
 ·rw[h1]at h;cases h
attribute [local irreducible] Q11
section
variable {P:Nat} {m n:List Int} (h:Q0q P m) (hn:Q0q P n) {D:Nat->Prop} (hD:Agr D m n) {c:Q02} (hc:Q29 c)
include h hc
theorem zav{q:Q00}(hq:Q0q P q.Mem)(hd:Q4t q.B0)(hk:Qas q.C2):Sub (nd q c m) D↔Sub (Q0l c m c.Pc 4 1) D/\(goes c (Q0h c m).1 (Q0h c m).2.2=true->Sub (Q1g q c (Q0h c m).2.1 (Q11 (Q0h c m).1).1) D):=by
 obtain⟨_,o1⟩:=(Tree.pp (Qcy h hc)).2
 change Q0q P (Q0h c m).2.1 at o1
 have au:=Qp9 h hc hc.pc 4 1
 have ou:=Zf1 o1 hq hd hk hc (Q11 (Q0h c m).1).1
 rw[Zld]
 generalize Q0h c m=F at*
 cases goes c F.1 F.2.2
 ·simp only[fG,fH,cond_true,cond_false]
  exact⟨λx=>⟨x,λe=>by cases e⟩,λx=>x.1⟩
 ·simp only[fG,fH,cond_true,cond_false]
  exact(Sub.or au ou).trans ⟨λx=>⟨x.1,λ_=>x.2⟩,λx=>⟨x.1,x.2 (by trivial)⟩⟩
omit h hc in
theorem XRel.on{α:Type}{m1 n1:List Int}(k1:Kept D m m1)(k2:Kept D n n1){x y:Q02×List Int×α}(r:XRel D m1 n1 x y):XRel D m n x y:=⟨r.1,r.2.1,r.2.2.1,k1.trans r.2.2.2.1,k2.trans r.2.2.2.2⟩
include hn hD
theorem vH{q:Q00}(hq:Q0q P q.Mem)(hd:Q4t q.B0)(hk:Qas q.C2)(hs:Sub (nd q c m) D):XRel D m n (Q2s c m) (Q2s c n)/\((Q2s c m).2.2.C3=2->Sub (Q1n q (Q2s c m).2.2.C8 (Q2s c m).2.2.Value) D/\U (Q2s c m).2.2.Value):=by
 obtain⟨w1,o1⟩:=(Tree.pp (Qcy h hc)).2
 obtain⟨_,o2⟩:=(Tree.pp (Qcy hn hc)).2
 change U (Q0h c m).1 at w1
 change Q0q P (Q0h c m).2.1 at o1
 change Q0q P (Q0h c n).2.1 at o2
 obtain⟨s1,s2⟩:=(zav h hc hq hd hk).1 hs
 obtain⟨f1,f2,f3,f4,f5⟩:=Zee h hn hc hD s1
 rw[Zjb c m,Zjb c n,<-f1,<-f2]
 have hi:=decP (Q0h c m).1
 generalize Q0h c m=F at*
 generalize Q0h c n=G at*
 cases hg:goes c F.1 F.2.2
 ·simp only[fG,fH,cond_true,cond_false]
  exact⟨⟨by trivial,by trivial,f3,f4,f5⟩,λe=>absurd e (by decide)⟩
 ·simp only[fG,fH,cond_true,cond_false]
  obtain⟨p1,p2⟩:=yH o1 o2 f3 hc (hi (xm hg).2) q (s2 hg)
  exact⟨XRel.on f4 f5 p1,p2⟩
theorem zad{q q':Q00}(hz:Zer D m)(hq:Q0q P q.Mem)(hq':Q0q P q'.Mem)(hd:Q4t q.B0)(hk:Qas q.C2)(e1:q'.B0=q.B0)(e2:q'.C2=q.C2)(e3:q'.A1=q.A1)(f:Nat)(hf:inS (nd q c m) f):inS (nd q' c n) f:=by
 obtain⟨w1,o1⟩:=(Tree.pp (Qcy h hc)).2
 obtain⟨_,o2⟩:=(Tree.pp (Qcy hn hc)).2
 change U (Q0h c m).1 at w1
 change Q0q P (Q0h c m).2.1 at o1
 change Q0q P (Q0h c n).2.1 at o2
 have au:=Qp9 h hc hc.pc 4 1
 have au':=Qp9 hn hc hc.pc 4 1
 have ou:=Zf1 o1 hq hd hk hc (Q11 (Q0h c m).1).1
 have ou':=Zf1 o2 hq' (e1▸hd) (e2▸hk) hc (Q11 (Q0h c n).1).1
 have base:inS (Q0l c m c.Pc 4 1) f->inS (nd q' c n) f:=λhf=>by
  have:=Z3s h hn hD hz hc hc.pc 4 1 f hf
  rw[Zld]
  cases goes c (Q0h c n).1 (Q0h c n).2.2
  ·exact this
  ·exact(Qn9 au' ou' f).2 (.inl this)
 rw[Zld]at hf
 cases hg:goes c (Q0h c m).1 (Q0h c m).2.2
 ·rw[hg]at hf;exact base hf
 ·rw [hg]at hf
  rcases(Qn9 au ou f).1 hf with hf|hf
  ·exact base hf
  ·have s1:Sub (Q0l c m c.Pc 4 1) D:=fI λhs=>by
    have z:=Zme h hc hz hs
    have:=(xm hg).2
    rw[z,decode0]at this;cases this
   obtain⟨f1,f2,f3,f4,f5⟩:=Zee h hn hc hD s1
   rw[Zld,<-f1,<-f2,hg]
   refine(Qn9 au' (f1▸ou') f).2 (.inr ?_)
   have hz':=hz.kept f4
   have am:=λs k=>Z3s o1 o2 f3 hz' hc (v:=vaO c (Q11 (Q0h c m).1).1) (Q0s _) s k f
   revert hf
   rw[Qpe,Qpe]
   cases(Q11 (Q0h c m).1).1.Op==32
   case true=>
    simp only[fG,fH,cond_true,cond_false]
    exact am 4 2
   cases(Q11 (Q0h c m).1).1.Op==33
   case true=>
    simp only[fG,fH,cond_true,cond_false]
    exact am 1 2
   cases(Q11 (Q0h c m).1).1.Op==34
   case true=>
    simp only[fG,fH,cond_true,cond_false]
    exact am 1 2
   cases(Q11 (Q0h c m).1).1.Op==35
   case true=>
    simp only[fG,fH,cond_true,cond_false]
    exact am 4 3
   cases(Q11 (Q0h c m).1).1.Op==36
   case true=>
    simp only[fG,fH,cond_true,cond_false]
    exact am 1 3
   cases(Q11 (Q0h c m).1).1.Op==61
   case false=>
    simp only[fG,fH,cond_true,cond_false]
    exact id
   have eo:∀p v,Q1n q' p v=Q1n q p v:=λp v=>by
    have es:∀f,Q0k q'.Mem f=Q0k q.Mem f:=λf=>Qee hq' hq f
    simp only[Q1n,Q22,Tree.m,letv,e1,e2,e3,es]
   simp only[fG,fH,cond_true,cond_false]
   rw[eo];exact id
end
theorem xad{l:Int}(h0:0<=l)(h1:l<32)(hl:l≠0):Q0i l=low l:=by
 rcases Zgw h0 h1 with rfl|rfl|rfl|rfl|rfl|rfl|rfl|rfl|rfl|rfl|rfl|rfl|rfl|rfl|rfl|rfl|rfl|rfl|rfl|rfl|rfl|rfl|rfl|rfl|rfl|rfl|rfl|rfl|rfl|rfl|rfl|rfl
 ·exact absurd rfl hl
 all_goals rfl
theorem xav{m:Q00}(h:okV m)(hst:m.A4.B3.a0<=31):(bif iand .u32 (Q3g m) m.A4.B3.a7 !=0 then(bif iand .u32 m.A4.B3.a0 2 !=0 then Q3a m.A4 (wrap .i64 (16+Q0i (iand .u32 (Q3g m) m.A4.B3.a7))) 0 else m.A4)else m.A4)=Q07 m:=by
 obtain⟨l0,l1⟩:=Qwv h
 have el:iand .u32 (Q3g m) m.A4.B3.a7=Q2m m:=by rw[Z7s h];rfl
 rw[rintr h,el]
 unfold intr
 rw[bne,bne]
 cases h1:Q2m m==0
 ·have h1:Q2m m≠0:=by simpa using h1
  rw[xad l0 l1 h1,Qlc h.cpu.a0.1 hst]
  cases iand .u32 m.A4.B3.a0 2==0<;>rfl
 ·cases iand .u32 m.A4.B3.a0 2==0<;>rfl
theorem Zjf(b:Q00)(l:List Int)(p c:Int):Q0w (setMem b l) p c=(setMem (Q0w b p c).1 l,(Q0w b p c).2):=by
 simp only[Q0w,Q40,Tree.m,letv]
 cases p==0
 case true=>rfl
 cases p==1
 case true=>rfl
 cases p==2
 case true=>rfl
 cases p==3
 case true=>rfl
 cases p==4
 case true=>rfl
 cases p==5
 case true=>rfl
 cases p==6
 case true=>rfl
 cases p==7
 case true=>rfl
 cases p==8
 case true=>rfl
 cases p==9
 case true=>rfl
 cases p==10
 case true=>rfl
 cases p==11<;>rfl
section
variable {P:Nat} {b:Q00} {m n:List Int} (h:Q0q P m) (hn:Q0q P n)
include h hn
theorem Zgp:Q10 (setMem b m)=Q10 (setMem b n):=by
 simp only[Q10,Q6w,Q16,Q26,Tree.m,letv,setMem,Q1z h,Q1z hn]
 rfl
theorem Zb5:Q14 (setMem b m)=Q14 (setMem b n):=by
 have e:=Zgp (b:=b) h hn
 simp only[Q14,Q3r,Tree.m,letv]
 rw[e]
 rfl
end
theorem Qno{b:Q00}{m:List Int}(hv:okV (setMem b m))(hr:Q14 (setMem b m)=true):Q19 (setMem b m)=nd (setMem b m) (Q07 (setMem b m)) m:=by
 obtain⟨r1,r2,r3⟩:=Qll hr
 have r4:Q5 (setMem b m)=false:=by
  cases hi:Q5 (setMem b m)
  ·rfl
  ·simp only[Q14,Q3r,Tree.m,letv,r1,r2,hi]at hr
   cases hr
 rw[Zck,r1,r2,r4,dN (by omega),xav hv ((Qk9 _).1 r1).2.1.st]
 rfl
theorem Qvn{b:Q00}{m:List Int}(hr:Q14 (setMem b m)=false):Q19 (setMem b m)=0:=by
 rw[Zck]
 simp only[Q14,Q3r,Tree.m,letv]at hr
 cases h1:Q10 (setMem b m)
 case false=>rfl
 rw[h1]at hr
 cases h2:(setMem b m).A9
 case true=>rfl
 rw[h2]at hr
 cases h3:Q5 (setMem b m)
 case true=>rfl
 rw[h3]at hr
 have:¬(setMem b m).A2<1152921504606846976:=oN hr
 rw[dY (by omega)]
 rfl
section
variable {P:Nat} {b:Q00} {m n:List Int} (h:Q0q P m) (hn:Q0q P n) (hv:okV (setMem b m)) (hvn:okV (setMem b n)) {D:Nat->Prop} (hD:Agr D m n)
include h hn hv hvn
theorem Zkl:Q07 (setMem b n)=Q07 (setMem b m):=by
 rw[rintr hv,rintr hvn];rfl
include hD
theorem qae{b':Q00}{m1 n1:List Int}(o1:Q0q P m1)(o2:Q0q P n1)(ha:Agr D m1 n1)(k1:Kept D m m1)(k2:Kept D n n1)(e1:b'.B0=b.B0)(e2:b'.C2=b.C2)(e3:b'.A1=b.A1)(e:Q1f)(clock at0:Int)(hs:e.C3=2->Sub (Q1n (setMem b m) e.C8 e.Value) D/\U e.Value):Two D m n (finP (setMem b' m1) e clock at0) (finP (setMem b' n1) e clock at0):=by
 have z:∀(z:Q00) (o:List Q0a),Two D m n (setMem z m1,o) (setMem z n1,o):=λz o=>⟨z,m1,n1,o,rfl,rfl,ha,k1,k2⟩
 unfold finP
 cases h1:e.C3==1
 ·cases h2:e.C3==2
  ·cases h3:e.C3==3
   ·cases h4:e.C3==4
    ·exact z {b' with A2:=wrap .u64 (b'.A2+1)} []
    ·exact z {b' with A2:=wrap .u64 (b'.A2+1),A9:=true} []
   ·exact z {b' with A2:=wrap .u64 (b'.A2+1),A6:=true} []
  ·obtain⟨hs,hu⟩:=hs (eq_of_beq h2)
   obtain⟨y,m2,n2,o,x1,x2,x3,x4,x5⟩:=vl o1 o2 ha (b:=b') (by rw[e1];exact hv.disk) (by rw[e2];exact hv.nic) (by rw[e3];exact hv.bal.2) h (q:=setMem b m) rfl e1.symm e2.symm e3.symm e.C8 hu at0 hs
   rw[x1,x2]
   exact⟨{y with A2:=wrap .u64 (y.A2+1)},m2,n2,o,rfl,rfl,x3,k1.trans x4,k2.trans x5⟩
 ·rw[Zjf,Zjf]
  cases e.D8 !=0
  ·exact z {(Q0w b' e.C8 clock).1 with A2:=wrap .u64 ((Q0w b' e.C8 clock).1.A2+1)} []
  ·exact z {(Q0w b' e.C8 clock).1 with A2:=wrap .u64 ((Q0w b' e.C8 clock).1.A2+1),A4:={X:=A16.of 0 (List.set (A16.l (Q0w b' e.C8 clock).1.A4.X) e.D8.toNat (Q0w b' e.C8 clock).2),Pc:=(Q0w b' e.C8 clock).1.A4.Pc,B3:=(Q0w b' e.C8 clock).1.A4.B3}} []
theorem Qzo(hr:Q14 (setMem b m)=true):Q29 (Q07 (setMem b m)):=by
 obtain⟨g1,g2,g3,g4,g5⟩:=(Qk9 _).1 (Qll hr).1
 have okm:okS P (setMem b m):=⟨hv.cpu,h,hv.disk,hv.nic,hv.bal.1,hv.bal.2⟩
 have b2:=((Tree.pp (Z3u okm g2)).2).2.1
 change okS P (Q1e (setMem b m))at b2
 rw[Qpl hv g2.st]at b2
 exact b2.cpu
theorem qI(hs:Sub (Q19 (setMem b m)) D)(clock:Int):Two D m n (Q0z (setMem b m) clock) (Q0z (setMem b n) clock):=by
 rw[Qsm,Qsm,<-Zb5 h hn]
 cases hr:Q14 (setMem b m)
 ·exact Two.mk0 hD b []
 ·have hrn:Q14 (setMem b n)=true:=by rw[<-Zb5 h hn];exact hr
  rw[Qno hv hr]at hs
  have hc:=Qzo h hn hv hvn hD hr
  obtain⟨x1,x2⟩:=vH h hn hD hc (q:=setMem b m) h hv.disk hv.nic hs
  rw[Qpl hv ((Qk9 _).1 (Qll hr).1).2.1.st,Qpl hvn ((Qk9 _).1 (Qll hrn).1).2.1.st,Zkl h hn hv hvn]
  obtain⟨y1,y2,y3,y4,y5⟩:=x1
  have o1:=(Tree.pp (Zgs hc h)).2.2.1
  have o2:=(Tree.pp (Zgs hc hn)).2.2.1
  change Q0q P (Q2s (Q07 (setMem b m)) m).2.1 at o1
  change Q0q P (Q2s (Q07 (setMem b m)) n).2.1 at o2
  have f:=qae (b':={b with A4:=(Q2s (Q07 (setMem b m)) m).1,A6:=false}) h hn hv hvn hD o1 o2 y3 y4 y5 rfl rfl rfl (Q2s (Q07 (setMem b m)) m).2.2 clock b.A2 x2
  have e2:(finP (setMem {b with A4:=(Q2s (Q07 (setMem b m)) m).1,A6:=false} (Q2s (Q07 (setMem b m)) n).2.1) (Q2s (Q07 (setMem b m)) m).2.2 clock b.A2)=(finP (setMem {b with A4:=(Q2s (Q07 (setMem b m)) n).1,A6:=false} (Q2s (Q07 (setMem b m)) n).2.1) (Q2s (Q07 (setMem b m)) n).2.2 clock b.A2):=by rw[y1,y2]
  rw[e2]at f
  exact f
end
theorem Q5t(d:Q0d)(m:List Int)(e:Q0f):Q2p d m e=bif d.B9 !=1 then(d,m,false)else bif e.C3 !=4 then(d,m,false)else bif decide (e.N>1)then(d,m,false)else bif e.N==1 then(bif d.D5==1 then(bif !Q3w m d.B1 then(d,m,false)else bif !(Q0r m (wrap .i64 d.B1) e.C5).2 then(d,(Q0r m (wrap .i64 d.B1) e.C5).1,false)else(({Blocks:=d.Blocks,B8:=d.B8,Frame:=d.Frame,B9:=(bif e.N==1 then 2 else 3),D5:=0,B5:=0,B1:=0,C1:=[]}:Q0d),(Q0r m (wrap .i64 d.B1) e.C5).1,true))else bif !decide (e.C5=[])then(d,m,false)else(({Blocks:=d.Blocks,B8:=d.B8,Frame:=d.Frame,B9:=(bif e.N==1 then 2 else 3),D5:=0,B5:=0,B1:=0,C1:=[]}:Q0d),m,true))else bif !decide (e.C5=[])then(d,m,false)else(({Blocks:=d.Blocks,B8:=d.B8,Frame:=d.Frame,B9:=(bif e.N==1 then 2 else 3),D5:=0,B5:=0,B1:=0,C1:=[]}:Q0d),m,true):=by
 simp only[Q2p,Q66,Tree.m,letv]
 cases e.N==1<;>rfl
def recvd(n:Q0u)(s:List UInt8):Q0u:={Frame:=n.Frame,D7:=n.D7,C4:=false,B6:=0,B7:=true,E0:=wrap .u32 (s.length:Int)}
theorem Qhm(n:Q0u)(m:List Int)(s:List UInt8):Q4o n m s=bif !n.C4 then(n,m,false)else bif decide ((s.length:Int)<1)then(n,m,false)else bif decide ((s.length:Int)>128)then(n,m,false)else bif !Q4m m n.B6 then(n,m,false)else(recvd n s,(Q0r m (wrap .i64 n.B6) (s++List.take (((Q12 m (wrap .i64 n.B6)).1.length:Int).toNat-(s.length:Int).toNat) (List.drop (s.length:Int).toNat (Q12 m (wrap .i64 n.B6)).1))).1,true):=by kernel_rfl
theorem Q77(m:Q00)(e:Q0f):Q0p m e=bif !Q10 m then(m,false)else bif m.A9 then(m,false)else bif e.C3==2 then(bif e.N==0 then(bif decide (e.C5=[])then({m with B2:=(Qal m.B2).1},(Qal m.B2).2)else(m,false))else(m,false))else bif e.C3==3 then(bif decide (e.N<=255)then(bif decide (e.C5=[])then({m with A3:=(Qa9 m.A3 (wrap .u8 e.N)).1},(Qa9 m.A3 (wrap .u8 e.N)).2)else(m,false))else(m,false))else bif e.C3==4 then({m with Mem:=(Q2p m.B0 m.Mem e).2.1,B0:=(Q2p m.B0 m.Mem e).1},(Q2p m.B0 m.Mem e).2.2)else bif e.C3==5 then(bif e.N==0 then({m with Mem:=(Q4o m.C2 m.Mem e.C5).2.1,C2:=(Q4o m.C2 m.Mem e.C5).1},(Q4o m.C2 m.Mem e.C5).2.2)else(m,false))else bif e.C3==6 then(bif decide (e.C5=[])then({m with A1:={C6:=e.N,C0:=m.A1.C0}},true)else(m,false))else(m,false):=by kernel_rfl
theorem Zho{P:Nat}{l:List Int}(h:Q0q P l){f:Int}(hf:U f):Q3w l f=decide (f<(P:Int)):=by
 simp only[Q3w,Q8b,Tree.m,letv,Q1z h]
 have p:=h.p2
 obtain⟨u0,u1⟩:=hf
 rw[wrap_u64,wrap_u64,decide_eq_decide]
 omega
theorem zm{P:Nat}{l:List Int}(h:Q0q P l){f:Int}(hf:U f):Q4m l f=decide (f<(P:Int)):=by
 simp only[Q4m,Qa,Tree.m,letv,Q1z h]
 have p:=h.p2
 obtain⟨u0,u1⟩:=hf
 rw[wrap_u64,wrap_u64,decide_eq_decide]
 omega
theorem Z56(P:Nat){d:Q0d}(hd:Q4t d)(e:Q0f):(∃d' k,∀l,Q0q P l->Q2p d l e=(d',l,k))\/(∃d',e.N=1/\d.D5=1/\d.B1<P/\e.C5.length=128/\∀l,Q0q P l->Q2p d l e=(d',(Q0r l d.B1 e.C5).1,true)):=by
 cases h1:d.B9 !=1
 case true=>exact .inl ⟨d,false,λl hl=>by rw[Q5t,h1];rfl⟩
 cases h2:e.C3 !=4
 case true=>exact .inl ⟨d,false,λl hl=>by rw[Q5t,h1,h2];rfl⟩
 cases h3:decide (e.N>1)
 case true=>exact .inl ⟨d,false,λl hl=>by rw[Q5t,h1,h2,h3];rfl⟩
 cases h4:e.N==1
 case false=>
  cases h6:decide (e.C5=[])
  ·exact .inl ⟨d,false,λl hl=>by rw[Q5t,h1,h2,h3,h4,h6];rfl⟩
  ·exact .inl ⟨_,true,λl hl=>by rw[Q5t,h1,h2,h3,h4,h6];rfl⟩
 cases h5:d.D5==1
 case false=>
  cases h6:decide (e.C5=[])
  ·exact .inl ⟨d,false,λl hl=>by rw[Q5t,h1,h2,h3,h4,h5,h6];rfl⟩
  ·exact .inl ⟨_,true,λl hl=>by rw[Q5t,h1,h2,h3,h4,h5,h6];rfl⟩
 by_cases hf:d.B1<P
 ·by_cases hl:e.C5.length=128
  ·refine .inr ⟨({Blocks:=d.Blocks,B8:=d.B8,Frame:=d.Frame,B9:=2,D5:=0,B5:=0,B1:=0,C1:=[]}:Q0d),eq_of_beq h4,eq_of_beq h5,hf,hl,λl ol=>?_⟩
   rw[Q5t,h1,h2,h3,h4,h5,Zho ol hd.opFrame,dY hf,w64U hd.opFrame,(Zli ol hd.opFrame.1 hf hl).1]
   rfl
  ·refine .inl ⟨d,false,λl ol=>?_⟩
   rw[Q5t,h1,h2,h3,h4,h5,Zho ol hd.opFrame,dY hf,w64U hd.opFrame,xH ol (.inr hl)]
   rfl
 ·refine .inl ⟨d,false,λl ol=>?_⟩
  rw[Q5t,h1,h2,h3,h4,h5,Zho ol hd.opFrame,dN hf]
  rfl
def padF(s pg:List UInt8):List UInt8:=s++List.take ((pg.length:Int).toNat-(s.length:Int).toNat) (List.drop (s.length:Int).toNat pg)
theorem Zl0{s pg:List UInt8}(h:pg.length=128)(hs:s.length<=128):(padF s pg).length=128:=by
 simp[padF,h];omega
theorem Zbk(P:Nat){d:Q0u}(hd:Qas d)(s:List UInt8):(∀l,Q0q P l->Q4o d l s=(d,l,false))\/(d.B6<P/\s.length<=128/\∀l,Q0q P l->Q4o d l s=(recvd d s,(Q0r l d.B6 (padF s (Q12 l d.B6).1)).1,true)):=by
 cases h1:d.C4
 case false=>exact .inl λl hl=>by rw[Qhm,h1];rfl
 cases h2:decide ((s.length:Int)<1)
 case true=>exact .inl λl hl=>by rw[Qhm,h1,h2];rfl
 cases h3:decide ((s.length:Int)>128)
 case true=>exact .inl λl hl=>by rw[Qhm,h1,h2,h3];rfl
 have e3:=oN h3
 by_cases hf:d.B6<P
 ·refine .inr ⟨hf,by omega,λl ol=>?_⟩
  rw[Qhm,h1,h2,h3,zm ol hd.buffer,dY hf,w64U hd.buffer]
  rfl
 ·refine .inl λl ol=>?_
  rw[Qhm,h1,h2,h3,zm ol hd.buffer,dN hf]
  rfl
theorem Z0l{P:Nat}{b:Q00}(hd:Q4t b.B0)(hc:Qas b.C2)(e:Q0f)(m0:List Int)(h0:Q0q P m0):
 (∃z k,∀l,Q0q P l->Q0p (setMem b l) e=(setMem z l,k))\/
 (∃z,e.C3=4/\e.N=1/\b.B0.D5=1/\b.B0.B1<P/\e.C5.length=128/\∀l,Q0q P l->Q0p (setMem b l) e=(setMem z (Q0r l b.B0.B1 e.C5).1,true))\/
 (∃z,e.C3=5/\b.C2.B6<P/\e.C5.length<=128/\∀l,Q0q P l->Q0p (setMem b l) e=(setMem z (Q0r l b.C2.B6 (padF e.C5 (Q12 l b.C2.B6).1)).1,true)):=by
 have em:∀l,Q0q P l->Q10 (setMem b l)=Q10 (setMem b m0):=λl hl=>Zgp hl h0
 have eh:∀l,(setMem b l).A9=b.A9:=λ_=>rfl
 cases hm:Q10 (setMem b m0)
 case false=>exact .inl ⟨b,false,λl hl=>by rw[Q77,em l hl,hm];rfl⟩
 cases hh:b.A9
 case true=>exact .inl ⟨b,false,λl hl=>by rw[Q77,em l hl,hm,eh,hh];rfl⟩
 cases k2:e.C3==2
 case true=>
  cases n0:e.N==0
  case false=>exact .inl ⟨b,false,λl hl=>by rw[Q77,em l hl,hm,eh,hh,k2,n0];rfl⟩
  cases dd:decide (e.C5=[])
  case false=>exact .inl ⟨b,false,λl hl=>by rw[Q77,em l hl,hm,eh,hh,k2,n0,dd];rfl⟩
  exact .inl ⟨{b with B2:=(Qal b.B2).1},(Qal b.B2).2,λl hl=>by rw[Q77,em l hl,hm,eh,hh,k2,n0,dd];rfl⟩
 cases k3:e.C3==3
 case true=>
  cases n0:decide (e.N<=255)
  case false=>exact .inl ⟨b,false,λl hl=>by rw[Q77,em l hl,hm,eh,hh,k2,k3,n0];rfl⟩
  cases dd:decide (e.C5=[])
  case false=>exact .inl ⟨b,false,λl hl=>by rw[Q77,em l hl,hm,eh,hh,k2,k3,n0,dd];rfl⟩
  exact .inl ⟨{b with A3:=(Qa9 b.A3 (wrap .u8 e.N)).1},(Qa9 b.A3 (wrap .u8 e.N)).2,λl hl=>by rw[Q77,em l hl,hm,eh,hh,k2,k3,n0,dd];rfl⟩
 cases k4:e.C3==4
 case true=>
  have f:∀l,Q0q P l->Q0p (setMem b l) e=(setMem {b with B0:=(Q2p b.B0 l e).1} (Q2p b.B0 l e).2.1,(Q2p b.B0 l e).2.2):=λl hl=>by rw[Q77,em l hl,hm,eh,hh,k2,k3,k4];rfl
  rcases Z56 P hd e with⟨d',k,g⟩|⟨d',g1,g2,g3,g4,g⟩
  ·exact .inl ⟨{b with B0:=d'},k,λl hl=>by rw[f l hl,g l hl]⟩
  ·exact .inr (.inl ⟨{b with B0:=d'},eq_of_beq k4,g1,g2,g3,g4,λl hl=>by rw[f l hl,g l hl]⟩)
 cases k5:e.C3==5
 case true=>
  cases n0:e.N==0
  case false=>exact .inl ⟨b,false,λl hl=>by rw[Q77,em l hl,hm,eh,hh,k2,k3,k4,k5,n0];rfl⟩
  have f:∀l,Q0q P l->Q0p (setMem b l) e=(setMem {b with C2:=(Q4o b.C2 l e.C5).1} (Q4o b.C2 l e.C5).2.1,(Q4o b.C2 l e.C5).2.2):=λl hl=>by rw[Q77,em l hl,hm,eh,hh,k2,k3,k4,k5,n0];rfl
  rcases Zbk P hc e.C5 with g|⟨g1,g2,g⟩
  ·exact .inl ⟨b,false,λl hl=>by rw[f l hl,g l hl]⟩
  ·exact .inr (.inr ⟨{b with C2:=recvd b.C2 e.C5},eq_of_beq k5,g1,g2,λl hl=>by rw[f l hl,g l hl]⟩)
 cases k6:e.C3==6
 case false=>exact .inl ⟨b,false,λl hl=>by rw[Q77,em l hl,hm,eh,hh,k2,k3,k4,k5,k6];rfl⟩
 cases dd:decide (e.C5=[])
 case false=>exact .inl ⟨b,false,λl hl=>by rw[Q77,em l hl,hm,eh,hh,k2,k3,k4,k5,k6,dd];rfl⟩
 exact .inl ⟨{b with A1:={C6:=e.N,C0:=b.A1.C0}},true,λl hl=>by rw[Q77,em l hl,hm,eh,hh,k2,k3,k4,k5,k6,dd];rfl⟩
theorem Qvm(m:Q00)(e:Q0f):Q1a m e=bif e.C3==4 then(bif(Q0p m e).2 then(bif e.N==1 then(bif m.B0.D5==1 then Q0k m.Mem m.B0.B1 else 0)else 0)else 0)else bif e.C3==5 then(bif(Q0p m e).2 then Q0k m.Mem m.C2.B6 else 0)else 0:=by kernel_rfl
section
variable {P:Nat} {m n:List Int} (h:Q0q P m) (hn:Q0q P n) {D:Nat->Prop} (hD:Agr D m n)
include h hn
theorem zae{b:Q00}(hd:Q4t b.B0)(hc:Qas b.C2)(e:Q0f):Q1a (setMem b m) e=Q1a (setMem b n) e:=by
 have e2:(Q0p (setMem b m) e).2=(Q0p (setMem b n) e).2:=by
  rcases Z0l hd hc e m h with⟨z,k,f⟩|⟨z,_,_,_,_,_,f⟩|⟨z,_,_,_,f⟩<;>rw[f m h,f n hn]
 have e3:∀f,Q0k (setMem b m).Mem f=Q0k (setMem b n).Mem f:=λf=>Qee h hn f
 rw[Qvm,Qvm,e2,e3,e3]
 rfl
include hD
theorem ym{b:Q00}(hd:Q4t b.B0)(hc:Qas b.C2){e:Q0f}(hs:Sub (Q1a (setMem b m) e) D):Two D m n (Q0p (setMem b m) e) (Q0p (setMem b n) e):=by
 rcases Z0l hd hc e m h with⟨z,k,f⟩|⟨z,k4,n1,c1,f1,l1,f⟩|⟨z,k5,f1,l1,f⟩
 ·rw[f m h,f n hn];exact Two.mk0 hD z k
 ·have hq:D b.B0.B1.toNat:=by
   refine(Qe8 h hd.opFrame).1 ?_ f1
   have e0:Q1a (setMem b m) e=Q0k m b.B0.B1:=by
    rw[Qvm,f m h,show(e.C3==4)=true from by rw[k4];rfl,show(e.N==1)=true from by rw[n1];rfl,show((setMem b m).B0.D5==1)=true from by rw[show(setMem b m).B0.D5=1 from c1];rfl]
    rfl
   rw[e0]at hs;exact hs
  rw[f m h,f n hn]
  have r1:=Ql4 h hn hD hd.opFrame.1 f1 hq l1
  have r2:=Ql4 hn h hD.symm hd.opFrame.1 f1 hq l1
  exact⟨z,_,_,true,rfl,rfl,r1.1,r1.2,r2.2⟩
 ·have hq:D b.C2.B6.toNat:=by
   refine(Qe8 h hc.buffer).1 ?_ f1
   have e0:Q1a (setMem b m) e=Q0k m b.C2.B6:=by
    rw[Qvm,f m h,show(e.C3==4)=false from by rw[k5];rfl,show(e.C3==5)=true from by rw[k5];rfl]
    rfl
   rw[e0]at hs;exact hs
  rw[f m h,f n hn,<-Zb4 h hn hD hc.buffer.1 λ_=>hq]
  have pl:=((Tree.pp (Qrs h hc.buffer.1 f1)).2.1).1
  change(Q12 m b.C2.B6).1.length=128 at pl
  have r1:=Ql4 h hn hD hc.buffer.1 f1 hq (Zl0 pl l1)
  have r2:=Ql4 hn h hD.symm hc.buffer.1 f1 hq (Zl0 pl l1)
  exact⟨z,_,_,true,rfl,rfl,r1.1,r1.2,r2.2⟩
end
theorem Zc0{x:Nat}(h0:x≠0)(h:x<2^32):Lib.ctz 32 x<32/\x.testBit (Lib.ctz 32 x)=true/\(∀j,j<Lib.ctz 32 x->x.testBit j=false)/\(∀j,(x&&&(x-1)).testBit j=(x.testBit j&&!decide (j=Lib.ctz 32 x)))/\x&&&(x-1)<x:=by
 have e:Lib.ctz 32 x=Lib.ctzFrom 32 x:=by unfold Lib.ctz;rw[if_neg h0]
 obtain⟨m,hm,ht⟩:=Lib.ctzFrom_spec 32 x (by omega) h
 rw[<-e]at hm ht
 generalize Lib.ctz 32 x=t at*
 have p:=Nat.two_pow_pos t
 have hs:2^(t+1)=2^t*2:=Nat.pow_succ 2 t
 have ex:x=2^(t+1)*m+2^t:=by rw[hs,Nat.mul_assoc,hm];rw[Nat.mul_add,Nat.mul_one]
 have ey:x-1=2^(t+1)*m+(2^t-1):=by omega
 have bx:∀j,x.testBit j=if j<t+1 then decide (t=j)else m.testBit (j-(t+1)):=λj=>by
  rw[ex,fL _ (by omega),fD]
 have bn:∀j,(x-1).testBit j=if j<t+1 then decide (j<t)else m.testBit (j-(t+1)):=λj=>by
  rw[ey,fL _ (by omega),Nat.testBit_two_pow_sub_one]
 refine⟨ht,by rw[bx];simp,λj hj=>by rw[bx,if_pos (by omega)];simp;omega,λj=>?_,?_⟩
 ·rw[eY,bx,bn]
  by_cases h1:j<t+1
  ·simp only[if_pos h1]
   by_cases h2:t=j
   ·subst h2;simp
   ·simp[h2]
  ·simp only[if_neg h1]
   rw[dN (show¬j=t by omega)]
   simp
 ·exact Nat.lt_of_le_of_lt Nat.and_le_right (by omega)
def mems(S:Int):List Int:=((cY 32).filter λi=>S.toNat.testBit i).map λ(i:Nat)=>(i:Int)
theorem Z6w{p q:Nat->Bool}{t:Nat}(ht:p t=true)(hl:∀j,j<t->p j=false)(hq:∀j,q j=(p j&&!decide (j=t))):∀n:Nat,((cY n).filter p=if t<n then t::(cY n).filter q else[])/\(n<=t->(cY n).filter q=[])
 |0=>⟨by simp,λ_=>rfl⟩
 |n + 1 =>by
  obtain⟨h1,h2⟩:=Z6w ht hl hq n
  rw[fM,fN,fN,h1]
  refine⟨?_,λhn=>?_⟩
  ·by_cases hn:t<n
   ·rw[if_pos hn,if_pos (by omega)]
    have:q n=p n:=by rw[hq,dN (by omega:¬n=t)];simp
    simp[fO,this]
   ·rw[if_neg hn,h2 (by omega)]
    by_cases e:n=t
    ·subst e
     rw[if_pos (by omega)]
     have:q n=false:=by rw[hq];simp
     simp[fO,ht,this]
    ·rw[if_neg (by omega)]
     simp[fO,hl n (by omega)]
  ·rw[h2 (by omega)]
   have:q n=false:=by rw[hq,hl n (by omega)];rfl
   simp[fO,this]
theorem qaw:mems 0=[]:=by simp[mems]
theorem yS(x:Int):Q0i x=(Lib.ctz 32 x.toNat:Int):=rfl
theorem xI{f:Int}(hf:U f)(h0:f≠0):iand .u32 f (wrap .u32 (f-1))=((f.toNat&&&(f.toNat-1):Nat):Int):=by
 obtain⟨f0,f1⟩:=hf
 have e:wrap .u32 (f-1)=f-1:=by rw[wrap_u32];omega
 rw[e,Z2r ⟨f0,f1⟩ ⟨by omega,by omega⟩]
 congr 2
 omega
theorem zI{f:Int}(hf:U f)(h0:f≠0):mems f=Q0i f::mems (iand .u32 f (wrap .u32 (f-1)))/\iand .u32 f (wrap .u32 (f-1))<f/\U (iand .u32 f (wrap .u32 (f-1))):=by
 obtain⟨c1,c2,c3,c4,c5⟩:=Zc0 (x:=f.toNat) (by have:=hf.1;omega) (by have:=hf.2;omega)
 rw[xI hf h0,yS]
 refine⟨?_,by have:=hf.1;omega,⟨by omega,by have:=hf.2;omega⟩⟩
 unfold mems
 rw[dZ]
 have:=(Z6w (p:=λi=>f.toNat.testBit i) (q:=λi=>(f.toNat&&&(f.toNat-1)).testBit i) c2 c3 c4 32).1
 rw[this,if_pos c1]
 rfl
theorem zaw{S:Int}(hS:U S):(Q4d S).w (λr=>r=mems S):=by
 unfold Q4d
 refine w_lp (inv:=λv=>U v.1/\v.2++mems v.1=mems S/\v.2.length+v.1.toNat<=4294967296) (μ:=Qb7 S) ⟨hS,rfl,by have:=hS.2;simp;omega⟩ (cL _) (λv hv=>?_)
 obtain⟨v1,v2,v3⟩:=hv
 refine w_br (λhb=>?_) (λhb=>?_)
 ·have hb:v.1≠0:=by simpa using hb
  obtain⟨m1,m2,m3⟩:=zI v1 hb
  refine w_an ⟨v1.1,v1.2⟩ (w_lv λx0 hx=>w_cn (dY ?_) (w_nx ?_))
  ·have:=v1.1;omega
  ·rw[hx]
   refine⟨⟨m3,?_,?_⟩,?_⟩
   ·show(v.2++[_])++mems _=_
    rw[eZ,<-v2,m1];rfl
   ·show(v.2++[_]).length+_<=_
    have:=v1.1;have:=m3.1
    simp;omega
   ·show(iand .u32 v.1 (wrap .u32 (v.1-1))).toNat<v.1.toNat
    have:=v1.1;have:=m3.1;omega
 ·have hb:v.1=0:=by simpa using hb
  rw[hb,qaw,cJ]at v2
  exact v2
theorem yI{S:Int}(hS:U S)(f:Int):f∈mems S↔0<=f/\inS S f.toNat:=by
 unfold mems
 simp only[List.mem_map,fP,fQ]
 constructor
 ·rintro⟨a,⟨h1,h2⟩,rfl⟩;exact⟨by omega,by simpa[inS]using h2⟩
 ·rintro⟨h1,h2⟩
  refine⟨f.toNat,⟨?_,h2⟩,by omega⟩
  refine Decidable.byContradiction λhc=>?_
  have:S.toNat.testBit f.toNat=false:=fK (bI (by have:=hS.2;omega:S.toNat<2^32) (dP (by decide) (by omega)))
  rw[inS,this]at h2;cases h2
theorem vm{m:List Int}{f:Int}(hf:U f):(Q4r m f).w (λ_=>True):=by
 unfold Q4r
 exact w_lv λ_ _=>w_br (λ_=>trivial) (λ_=>w_cn (dY hf.1) trivial)
theorem Qji(m:List Int){f:Int}(hf:U f):Q1u m f:=(Tree.pp (vm (m:=m) hf)).1
section
variable {P:Nat} {m:List Int} (h:Q0q P m)
include h
theorem Zei{c:Q02}(hc:Q29 c){v:Int}(hv:U v){s:Int}(hs:s=1\/s=4)(k:Int):(Q82 c m v s k).w (λ_=>True):=by
 have sp:∀x,(Tree.an (Q1u m (wrap .u32 x)) (.lv (Q0k m (wrap .u32 x)) λx1=>.lf x1)).w (λ_=>True):=λx=>w_an (Qji m (Q0s _)) (w_lv λ_ _=>trivial)
 unfold Q82
 refine w_cn (dY (by rcases hs with rfl|rfl<;>decide)) (w_br (λ_=>trivial) λ_=>w_lv λx0 _=>w_br (λ_=>sp _) λ_=>w_br (λ_=>sp _) λ_=>w_br (λ_=>trivial) λ_=>w_an (Qji m hc.a6) (w_lv λx3 _=>w_an (Tree.pp (xu h hv k)).1 (w_lv λx4 _=>w_br (λ_=>w_an (Qji m (Q0s _)) (w_lv λ_ _=>trivial)) (λ_=>trivial))))
theorem xae{q:Q00}(hd:Q4t q.B0)(hn:Qas q.C2){c:Q02}(hc:Q29 c){i:Q0g}(hi:Qbq i):(Q6c q c m i).w (λ_=>True):=by
 have hB:iand .i64 i.B 15=i.B:=and15 hi.b.1 hi.b.2
 have hA:iand .i64 i.A 15=i.A:=and15 hi.a.1 hi.a.2
 have b1:=hi.b.1;have b2:=hi.b.2;have a1:=hi.a.1;have a2:=hi.a.2
 have ap:∀x {s:Int} (hs:s=1\/s=4) k,(Tree.an (Q2e c m (wrap .u32 x) s k) (.lv (Q0l c m (wrap .u32 x) s k) λx0=>.lf x0)).w (λ_=>True):=λx s hs k=>w_an (Tree.pp (Zei h hc (Q0s _) hs k)).1 (w_lv λ_ _=>trivial)
 have op:∀p {v:Int},U v->(Q22 q p v).w (λ_=>True):=λp v hv=>by
  unfold Q22
  refine w_br (λ_=>w_br (λ_=>w_br (λ_=>w_br (λ_=>w_an (Qji _ hd.frame) (w_lv λ_ _=>trivial)) λ_=>trivial) λ_=>trivial) λ_=>trivial) λ_=>w_br (λ_=>w_br (λ_=>w_br (λ_=>w_br (λ_=>w_an (Qji _ hn.frame) (w_lv λ_ _=>trivial)) λ_=>trivial) λ_=>trivial) λ_=>trivial) λ_=>w_br (λ_=>w_an (Qji _ hv) (w_lv λ_ _=>trivial)) λ_=>trivial
 unfold Q6c
 refine w_cn (by rw[hB];exact rc ⟨b1,b2⟩) (w_br (λ_=>ap _ (.inr rfl) _) λ_=>w_br (λ_=>ap _ (.inl rfl) _) λ_=>w_br (λ_=>ap _ (.inl rfl) _) λ_=>w_br (λ_=>ap _ (.inr rfl) _) λ_=>w_br (λ_=>ap _ (.inl rfl) _) λ_=>w_br (λ_=>w_cn (by rw[hA];exact rc ⟨a1,a2⟩) (w_an (Tree.pp (op _ (hc.r _))).1 (w_lv λ_ _=>trivial))) λ_=>trivial)
end
theorem vI{P:Nat}{m:Q00}(h:okV m)(hm:Q0q P m.Mem):(Q6p m).w (λ_=>True):=by
 have go:∀{c:Q02},Q29 c->(Tree.an (Q2e c m.Mem c.Pc 4 1) (.lv (Q0l c m.Mem c.Pc 4 1) λ(x5:Int)=>.an (Qdi c m.Mem) (.lv (Q0h c m.Mem) λ(x6:Int×List Int×Int)=>.br (x6.2.2 !=0) (.lf x5) (.an (Qbd x6.1) (.lv (Q11 x6.1) λ(x7:Q0g×Bool)=>.br (!x7.2) (.lf x5) (.lv (Q2r c) λ(x8:Bool)=>.br x8 (.lv (Q2j x7.1.Op) λ(x9:Bool)=>.br x9 (.lf x5) (.an (Q4z m c x6.2.1 x7.1) (.lv (Q1g m c x6.2.1 x7.1) λ(x10:Int)=>.lf (ior .u32 x5 x10)))) (.an (Q4z m c x6.2.1 x7.1) (.lv (Q1g m c x6.2.1 x7.1) λ(x11:Int)=>.lf (ior .u32 x5 x11))))))))).w (λ_=>True):=fun{c} hc=>by
  refine w_an (Tree.pp (Zei hm hc hc.pc (.inr rfl) 1)).1 (w_lv λx5 _=>Q0e (Qcy hm hc) λx6 h6=>w_br (λ_=>trivial) λ_=>w_an (Tree.pp (Qnv x6.1)).1 (w_lv λx7 e7=>w_br (λ_=>trivial) λhb=>?_))
  have h7:Qbq x7.1:=by
   rw[e7];exact decP _ (by rw[<-e7];simpa using hb)
  have o:=(Tree.pp (xae h6.2 h.disk h.nic hc h7 (q:=m))).1
  exact w_lv λx8 _=>w_br (λ_=>w_lv λx9 _=>w_br (λ_=>trivial) λ_=>w_an o (w_lv λ_ _=>trivial)) λ_=>w_an o (w_lv λ_ _=>trivial)
 have hg:=h.bal.2
 unfold Q6p
 refine w_an (Tree.pp (Z6d hg)).1 (w_lv λx0 _=>w_br (λ_=>trivial) λ_=>w_br (λ_=>trivial) λ_=>w_an (xab hg) (w_lv λx1 _=>w_br (λ_=>trivial) λ_=>w_br (λ_=>trivial) λ_=>w_an (Tree.pp (Z8z hg)).1 (w_lv λx2 _=>w_br (λ_=>w_br (λ_=>w_an ⟨(Z9q _ _).1,(Z9q _ _).2⟩ (w_lv λx3 _=>w_lv λx4 h4=>go (by rw[h4];exact Qot h.cpu _ U_0))) λ_=>go h.cpu) λ_=>go h.cpu)))
theorem Qlh{P:Nat}{m:Q00}(g:good P m){clock:Int}(hc:U clock):good P (Q0z m clock).1/\(Q0z m clock).2.length<=1/\(Q0z m clock).1.A2<=m.A2+1:=by
 cases hs:Q7u m
 ·obtain⟨a,b,c⟩:=Zk9 g hs hc
  rw[g.step hs];exact⟨a,c,by show(Q2a m clock).2.A2<=_;omega⟩
 ·have e:Q0z m clock=(m,[]):=by rw[Qsm,Z1p g.v,hs];rfl
  rw[e];exact⟨g,Nat.zero_le _,by show m.A2<=m.A2+1;omega⟩
theorem Qs{P:Nat}{m:Q00}(g:good P m){e:Q0f}(he:U e.N):good P (Q0p m e).1:=by
 rw[g.app];exact(Zjt g he).1
theorem qaf{P:Nat}{m:Q00}(g:good P m){clock:Int}(hc:U clock):Qm m clock/\Qli m clock=Q0z m clock:=by
 refine⟨?_,(Z0b g.v clock).symm⟩
 have:(Qei m clock).w (λ_=>True):=by
  unfold Qei
  refine Q0e (ownV g.len) λx0 h0=>?_
  subst h0
  exact w_an (Tree.pp (zan x0)).1 (w_lv λx1 _=>w_br (λ_=>trivial) λ_=>w_an (Tree.pp (Qw0 g.ok hc)).1 (w_lv λ_ _=>trivial))
 exact(Tree.pp this).1
theorem at_w{kind:Int}{prog:List Int}(hl:prog.length*8<=reachBytes)(h60:prog.length<=60){steps:Int}(s0:0<=steps)(s1:steps<=100):(Ql8 kind prog steps).w (λm=>good 8 m/\m.A2<=1000):=by
 unfold Ql8
 obtain⟨a,b⟩:=Qxb kind prog hl h60
 refine w_an (Tree.pp (Zfo kind prog hl)).1 (w_lv λx0 h0=>?_)
 rw[<-h0]at a b
 refine w_lp (inv:=λv=>0<=v.1/\v.1<=steps/\good 8 v.2/\v.2.A2<=87+v.1) (μ:=Qqr kind prog steps) ⟨fR 0,s0,a,by show x0.A2<=87+0;omega⟩ (cL _) (λv hv=>?_)
 obtain⟨v1,v2,v3,v4⟩:=hv
 refine w_br (λhb=>?_) (λ_=>⟨v3,by omega⟩)
 have hb:=oY hb
 obtain⟨p,q⟩:=qaf v3 (Q0s v.1)
 refine w_an p (w_lv λx1 h1=>?_)
 obtain⟨g1,_,g3⟩:=Qlh v3 (Q0s v.1)
 rw[<-q,<-h1]at g1 g3
 refine w_br (λ_=>w_an (Tree.pp (Zhi _)).1 (w_lv λx2 h2=>?_)) (λ_=>w_nx ?_)
 ·have hu:U x2.N:=by rw[h2];exact xk _
  obtain⟨k1,k2⟩:=Zjt g1 hu
  refine w_an (rapplyV g1.v g1.len hu).1 (w_lv λx3 h3=>w_nx ?_)
  have e3:x3=((Q5w x1.1 x2).2,(Q5w x1.1 x2).1):=by
   rw[h3]
   simp only[Qap,Q70,Tree.m,letv,Z7g,g1.rmay];rfl
  show(0<=i64.wrap (v.1+1)/\i64.wrap (v.1+1)<=steps/\good 8 x3.1/\x3.1.A2<=87+i64.wrap (v.1+1))/\(steps-i64.wrap (v.1+1)).toNat<(steps-v.1).toNat
  rw[w64 (by omega) (by omega),e3]
  exact⟨⟨by omega,by omega,k1,by show(Q5w x1.1 x2).2.A2<=_;omega⟩,by omega⟩
 ·show(0<=i64.wrap (v.1+1)/\i64.wrap (v.1+1)<=steps/\good 8 x1.1/\x1.1.A2<=87+i64.wrap (v.1+1))/\(steps-i64.wrap (v.1+1)).toNat<(steps-v.1).toNat
  rw[w64 (by omega) (by omega)]
  exact⟨⟨by omega,by omega,g1,by omega⟩,by omega⟩
structure okP(P:Nat)(p:Q01):Prop where
 g:good P p.A0
 pos:0<P
 pres:p.A7.length=P
 last0:0<=p.C9
 last1:p.C9<P
 flt0:0<=p.B4
 flt1:p.B4<=1000000
section
variable {P:Nat} {p:Q01} (h:okP P p)
include h
theorem okP.P32:P<=32:=h.g.ok.mem.p2
theorem okP.valid:Q4w p=true:=by
 have h1:=h.pres;have h2:=h.last0;have h3:=h.last1;have h4:=h.flt0
 simp only[Q4w,Q6n,Tree.m,letv,Q1z h.g.ok.mem,h.g.may,h1]
 simp[h2,h3,h4]
theorem Z5s:Q39 p:=by
 have hg:=h.g.ok.target.2
 have:(Q6n p).w (λ_=>True):=by
  unfold Q6n
  exact w_lv λx0 _=>w_an (Tree.pp (Z6d hg)).1 (w_lv λx1 _=>w_br (λ_=>w_br (λ_=>w_br (λ_=>w_br (λ_=>trivial) λ_=>trivial) λ_=>trivial) λ_=>trivial) λ_=>trivial)
 exact(Tree.pp this).1
theorem Qy4:Q3b p/\Q5s p=p:=by
 have h1:=h.g.len;have h2:=h.pres;have h3:=h.P32
 refine⟨?_,rfl⟩
 have:(Q8t p).w (λ_=>True):=by
  unfold Q8t
  exact w_an (show p.A0.Mem.length<=35184372088832 by omega) (w_lv λ_ _=>w_an (show p.A7.length<=140737488355328 by omega) (w_lv λ_ _=>trivial))
 exact(Tree.pp this).1
def prs(p:Q01)(f:Nat):Prop:=p.A7.getD f false=true
theorem Zep:(Q79 p).w (λr=>U r/\∀f,inS r f↔prs p f):=by
 have h2:=h.pres;have h3:=h.P32
 unfold Q79
 refine w_lp (inv:=λv=>U v.1/\0<=v.2/\v.2<=P/\∀f:Nat,inS v.1 f↔(f:Int)<v.2/\prs p f) (μ:=Q4c p) ⟨U_0,fR 0,by show(0:Int)<=_;omega,λf=>⟨λx=>absurd x (inS0 f),λx=>by have:=x.1;change(f:Int)<0 at this;omega⟩⟩ (cL _) (λv hv=>?_)
 obtain⟨v1,v2,v3,v4⟩:=hv
 refine w_br (λhb=>?_) (λhb=>⟨v1,λf=>?_⟩)
 ·have hb:=oY hb
  refine w_cn (by show(_&&decide _)=true;simp[bJ];omega) ?_
  obtain⟨k,hk⟩:∃k:Nat,v.2=k:=⟨v.2.toNat,by omega⟩
  have hk32:k<32:=by omega
  have e1:v.2.toNat=k:=by omega
  have e2:wrap .i64 (v.2+1)=v.2+1:=w64 (by omega) (by omega)
  have m1:∀{l:Int},(Q4c p (l,wrap .i64 (v.2+1)))<Q4c p v:=fun{l}=>by
   rw[e2];unfold Q4c;dsimp only;omega
  have n1:0<=wrap .i64 (v.2+1)/\wrap .i64 (v.2+1)<=P:=by rw[e2];omega
  refine w_br (λht=>w_cn (dY v2) (w_nx ⟨⟨U_or _ _,n1.1,n1.2,λf=>?_⟩,m1⟩)) (λht=>w_nx ⟨⟨v1,n1.1,n1.2,λf=>?_⟩,m1⟩)
  ·show inS (ior .u32 v.1 (ishl .u32 1 v.2)) f↔(f:Int)<wrap .i64 (v.2+1)/\prs p f
   rw[e1]at ht
   rw[e2,hk,Z8f hk32,Qn9 v1 ⟨fC _,Int.ofNat_lt.2 (Zl3 hk32)⟩,v4]
   have e3:inS ((2^k:Nat):Int) f↔f=k:=by
    unfold inS
    rw[dZ,fD]
    simp[eq_comm]
   rw[e3]
   constructor
   ·rintro(⟨a,b⟩|a)
    ·exact⟨by omega,b⟩
    ·subst a;exact⟨by omega,ht⟩
   ·rintro⟨a,b⟩
    by_cases e:f=k
    ·exact .inr e
    ·exact .inl ⟨by omega,b⟩
  ·show inS v.1 f↔(f:Int)<wrap .i64 (v.2+1)/\prs p f
   rw[e1]at ht
   rw[e2,v4]
   constructor
   ·rintro⟨a,b⟩;exact⟨by omega,b⟩
   ·rintro⟨a,b⟩
    refine⟨?_,b⟩
    by_cases e:f=k
    ·subst e;unfold prs at b;rw[b]at ht;cases ht
    ·omega
 ·have hb:=oN hb
  rw[v4]
  refine⟨λx=>x.2,λx=>⟨?_,x⟩⟩
  unfold prs at x
  by_cases e:f<p.A7.length
  ·omega
  ·rw[cZ,aM (by omega)]at x;cases x
theorem needsP:Q9a p.A0:=(Tree.pp (vI h.g.v h.g.ok.mem)).1
theorem Zai:Q5i p:=(Tree.pp (Zep h)).1
theorem Qzs:U (Q44 p)/\∀f,inS (Q44 p) f↔prs p f:=(Tree.pp (Zep h)).2
end
theorem Z8a{P:Nat}{m:Q00}(g:good P m):U (Q19 m)/\∀f,inS (Q19 m) f->f<P:=by
 have both:∀S:Int,(U S/\∀f,inS S f->f<P)->(U S/\∀f,inS S f->f<P):=λ_ h=>h
 cases hr:Q14 m
 ·have:=Qvn (b:=m) (m:=m.Mem) (show Q14 (setMem m m.Mem)=false from hr)
  change Q19 m=0 at this
  rw[this];exact⟨U_0,λf hf=>absurd hf (inS0 f)⟩
 ·have:=Qno (b:=m) (m:=m.Mem) (show okV (setMem m m.Mem) from g.v) (show Q14 (setMem m m.Mem)=true from hr)
  change Q19 m=nd m (Q07 m) m.Mem at this
  have hc:=Qzo (b:=m) (m:=m.Mem) (n:=m.Mem) (D:=λ_=>True) g.ok.mem g.ok.mem (show okV (setMem m m.Mem) from g.v) (show okV (setMem m m.Mem) from g.v) (λ_ _=>rfl) (show Q14 (setMem m m.Mem)=true from hr)
  change Q29 (Q07 m)at hc
  have hm:=g.ok.mem
  have sg:∀{f:Int},U f->∀g,inS (Q0k m.Mem f) g->g<P:=λhf g hg=>by have:=((Q47 hm hf).2 g).1 hg;omega
  have au:∀{l:List Int},Q0q P l->∀{v:Int},U v->∀s k g,inS (Q0l (Q07 m) l v s k) g->g<P:=fun{l} ol {v} hv s k g=>by
   have sl:∀{f:Int},U f->inS (Q0k l f) g->g<P:=λhf hg=>by have:=((Q47 ol hf).2 g).1 hg;omega
   rw[Q7p]
   cases dA v s !=0
   case true=>intro hf;exact absurd hf (inS0 g)
   cases Q2r (Q07 m)
   case false=>exact sl (Q0s _)
   cases iand .u32 (Q07 m).B3.a0 4==0
   case true=>exact sl (Q0s _)
   cases decide (v>=4096)
   case true=>intro hf;exact absurd hf (inS0 g)
   show inS (bif _==0 then _ else _) g->_
   cases(Q0t l (Q07 m).B3.a6 v k).D1==0
   ·exact sl hc.a6
   ·intro hf
    rcases(Qn9 (Q47 ol hc.a6).1 (Zhl ol _) g).1 hf with hf|hf
    ·exact sl hc.a6 hf
    ·exact sl (Q0s _) hf
  obtain⟨_,o1⟩:=(Tree.pp (Qcy hm hc)).2
  change Q0q P (Q0h (Q07 m) m.Mem).2.1 at o1
  have ou:∀f,inS (Q1g m (Q07 m) (Q0h (Q07 m) m.Mem).2.1 (Q11 (Q0h (Q07 m) m.Mem).1).1) f->f<P:=λf=>by
   rw[Qpe]
   generalize(Q11 (Q0h (Q07 m) m.Mem).1).1=i
   cases i.Op==32
   case true=>exact au o1 (Q0s _) 4 2 f
   cases i.Op==33
   case true=>exact au o1 (Q0s _) 1 2 f
   cases i.Op==34
   case true=>exact au o1 (Q0s _) 1 2 f
   cases i.Op==35
   case true=>exact au o1 (Q0s _) 4 3 f
   cases i.Op==36
   case true=>exact au o1 (Q0s _) 1 3 f
   cases i.Op==61
   case false=>intro hf;exact absurd hf (inS0 f)
   show inS (Q1n m _ _) f->_
   have hu:=hc.r (dB (iand .i64 i.A 15))
   generalize aK (A16.l (Q07 m).X) (dB (iand .i64 i.A 15)) 0=w at*
   show Tree.V (Q22 m (wrap .i64 i.Imm) w) (λS=>inS S f->f<P)
   unfold Q22
   have z:inS 0 f->f<P:=λhf=>absurd hf (inS0 f)
   refine v_br (λ_=>v_br (λ_=>v_br (λ_=>v_br (λ_=>v_an (v_lv λx hx=>v_lf ?_)) λ_=>v_lf z) λ_=>v_lf z) λ_=>v_lf z) λ_=>v_br (λ_=>v_br (λ_=>v_br (λ_=>v_br (λ_=>v_an (v_lv λx hx=>v_lf ?_)) λ_=>v_lf z) λ_=>v_lf z) λ_=>v_lf z) λ_=>v_br (λ_=>v_an (v_lv λx hx=>v_lf ?_)) λ_=>v_lf z
   ·rw[hx];exact sg g.ok.disk.frame f
   ·rw[hx];exact sg g.ok.nic.frame f
   ·rw[hx];intro hf
    exact sg hu f ((Qsq (Q47 hm hu).1 g.ok.target.2 f).1 hf).1
  rw[this,Zld]
  have a1:=Qp9 hm hc hc.pc 4 1
  have a2:=Zf1 o1 hm g.ok.disk g.ok.nic hc (Q11 (Q0h (Q07 m) m.Mem).1).1
  cases goes (Q07 m) (Q0h (Q07 m) m.Mem).1 (Q0h (Q07 m) m.Mem).2.2
  ·exact⟨a1,au hm hc.pc 4 1⟩
  ·exact⟨U_or _ _,λf hf=>((Qn9 a1 a2 f).1 hf).elim (au hm hc.pc 4 1 f) (ou f)⟩
def zers(P:Nat):List Int:=cM (32*P) 0
theorem zaf{P:Nat}(h:P<=32):Q0q P (zers P):=⟨by simp[zers],by omega,h,λw hw=>by rw[(List.mem_replicate.1 hw).2];exact U_0⟩
theorem qJ(P j:Nat):(zers P).getD j 0=0:=by
 unfold zers
 by_cases h:j<32*P
 ·simp[aK,h]
 ·simp[aK,aM (show(cM (32*P) (0:Int)).length<=j by simp;omega)]
theorem good.setMem{P:Nat}{m:Q00}(g:good P m){l:List Int}(hl:Q0q P l):good P (setMem m l):=
 ⟨⟨g.ok.cpu,hl,g.ok.disk,g.ok.nic,g.ok.target,g.ok.cnt⟩,(Zgp (b:=m) hl g.ok.mem).trans g.may⟩
def begF(P:Nat)(m:Q00):Q01:={A0:=setMem m (zers P),A7:=cM P false,C9:=0,B4:=0}
theorem qn{P:Nat}{m:Q00}(g:good P m)(hP:0<P):(Q8l m).w (λr=>r=(begF P m,true)):=by
 have h32:=g.ok.mem.p2
 have ew:wrap .i64 ((P:Int)*32)=32*P:=by rw[w64 (by omega) (by omega)];omega
 have nw:(Qft (P:Int)).w (λr=>r=zers P):=by
  unfold Qft
  refine w_br (λhb=>?_) λ_=>w_br (λhb=>?_) λ_=>w_cn ?_ ?_
  ·have:=oY hb;omega
  ·have:=oY hb;omega
  ·rw[ew];simp[bJ,D.plain];omega
  ·show cM (wrap .i64 ((P:Int)*32)).toNat 0=zers P
   rw[ew];unfold zers;congr 1
 unfold Q8l
 refine w_an (Tree.pp (Z6d g.ok.target.2)).1 (w_lv λx0 h0=>w_br (λhb=>?_) λ_=>w_lv λx1 h1=>?_)
 ·rw[h0,g.may]at hb;cases hb
 ·have h1:x1=(P:Int):=h1.trans (Q1z g.ok.mem)
  subst h1
  refine Q0e nw λx2 h2=>w_cn ?_ ?_
  ·simp[bJ,D.plain];omega
  ·subst h2
   show(_,true)=(_,true)
   unfold begF setMem
   simp
theorem xn{P:Nat}{m:Q00}(g:good P m)(hP:0<P):okP P (begF P m):=⟨g.setMem (zaf g.ok.mem.p2),hP,by simp[begF],fR 0,by show(0:Int)<P;omega,fR 0,by show(0:Int)<=_;omega⟩
def ms(p:Q01):Int:=Q7 .u32 (Q19 p.A0) (Q44 p)
def msF(p:Q01)(e:Q0f):Int:=Q7 .u32 (Q1a p.A0 e) (Q44 p)
def fltF(p:Q01)(S:Int):Q01:={A0:=p.A0,A7:=p.A7,C9:=Q0i S,B4:=wrap .i64 (p.B4+1)}
def stpF(p:Q01)(clock:Int):Q01×List Q0a×Bool:=bif ms p !=0 then(fltF p (ms p),[],false)else({A0:=(Q0z p.A0 clock).1,A7:=p.A7,C9:=p.C9,B4:=p.B4},(Q0z p.A0 clock).2,true)
def appF(p:Q01)(e:Q0f):Q01×Bool:=bif msF p e !=0 then(fltF p (msF p e),false)else({A0:=(Q0p p.A0 e).1,A7:=p.A7,C9:=p.C9,B4:=p.B4},(Q0p p.A0 e).2)
theorem for_U{P:Nat}{m:Q00}(g:good P m)(e:Q0f):U (Q1a m e):=by
 rw[Qvm]
 cases e.C3==4
 ·cases e.C3==5
  ·exact U_0
  ·cases(Q0p m e).2
   ·exact U_0
   ·exact(Q47 g.ok.mem g.ok.nic.buffer).1
 ·cases(Q0p m e).2
  ·exact U_0
  ·cases e.N==1
   ·exact U_0
   ·cases m.B0.D5==1
    ·exact U_0
    ·exact(Q47 g.ok.mem g.ok.disk.opFrame).1
theorem forP{P:Nat}{m:Q00}(g:good P m){e:Q0f}(he:U e.N):Q74 m e:=by
 have ap:Q33 m e:=Qw9 g.v g.len he
 have:(Q63 m e).w (λ_=>True):=by
  unfold Q63
  exact w_br (λ_=>w_an ap (w_lv λ_ _=>w_br (λ_=>w_br (λ_=>w_br (λ_=>w_an (Qji _ g.ok.disk.opFrame) (w_lv λ_ _=>trivial)) λ_=>trivial) λ_=>trivial) λ_=>trivial)) λ_=>w_br (λ_=>w_an ap (w_lv λ_ _=>w_br (λ_=>w_an (Qji _ g.ok.nic.buffer) (w_lv λ_ _=>trivial)) λ_=>trivial)) λ_=>trivial
 exact(Tree.pp this).1
section
variable {P:Nat} {p:Q01} (h:okP P p)
include h
theorem Zc6:(Q73 p).w (λr=>r=bif ms p==0 then(0,false)else(Q0i (ms p),true)):=by
 unfold Q73
 refine w_an (Z5s h) (w_lv λx0 h0=>w_br (λhb=>?_) λ_=>w_an (needsP h) (w_lv λx1 h1=>w_an (Zai h) (w_lv λx2 h2=>?_)))
 ·rw[h0,h.valid]at hb;cases hb
 ·have e:Q7 .u32 x1 x2=ms p:=by rw[h1,h2];rfl
  refine w_br (λhb=>?_) λhb=>w_an ⟨(Qo _ _).1,(Qo _ _).2⟩ (w_lv λx3 h3=>?_)
  ·rw[e]at hb
   show(0,false)=_
   rw[hb];rfl
  ·rw[e]at hb h3
   show(x3,true)=_
   rw[hb,h3];rfl
theorem zn{S:Int}(hS:U S):(Q8m p S).w (λr=>r=fltF p S):=by
 unfold Q8m
 refine w_an (Qy4 h).1 (w_lv λx0 h0=>w_an ⟨hS.1,hS.2⟩ (w_lv λx1 h1=>?_))
 have h0:x0=p:=h0.trans (Qy4 h).2
 subst h0;subst h1;rfl
theorem Z9{clock:Int}(hc:U clock):(Qa5 p clock).w (λr=>r=stpF p clock):=by
 unfold Qa5
 refine w_an (Z5s h) (w_lv λx0 h0=>w_br (λhb=>?_) λ_=>w_an (needsP h) (w_lv λx2 h2=>w_an (Zai h) (w_lv λx3 h3=>?_)))
 ·rw[h0,h.valid]at hb;cases hb
 ·have e:Q7 .u32 x2 x3=ms p:=by rw[h2,h3];rfl
  refine w_br (λhb=>Q0e (zn h (Qo _ _)) λx4 h4=>?_) λhb=>w_an (Qy4 h).1 (w_lv λx5 h5=>w_an (Zc4 h.g.v h.g.len hc).1 (w_lv λx6 h6=>?_))
  ·rw[e]at hb h4
   show(x4,[],false)=_
   unfold stpF;rw[hb,h4];rfl
  ·rw[e]at hb
   have h5:x5=p:=h5.trans (Qy4 h).2
   subst h5;subst h6
   show _=_
   unfold stpF;rw[hb];rfl
theorem xJ{e:Q0f}(he:U e.N):(Q8u p e).w (λr=>r=appF p e):=by
 unfold Q8u
 refine w_an (Z5s h) (w_lv λx0 h0=>w_br (λhb=>?_) λ_=>w_an (forP h.g he) (w_lv λx2 h2=>w_an (Zai h) (w_lv λx3 h3=>?_)))
 ·rw[h0,h.valid]at hb;cases hb
 ·have e1:Q7 .u32 x2 x3=msF p e:=by rw[h2,h3];rfl
  refine w_br (λhb=>Q0e (zn h (Qo _ _)) λx4 h4=>?_) λhb=>w_an (Qy4 h).1 (w_lv λx5 h5=>w_an (Qw9 h.g.v h.g.len he) (w_lv λx6 h6=>?_))
  ·rw[e1]at hb h4
   show(x4,false)=_
   unfold appF;rw[hb,h4];rfl
  ·rw[e1]at hb
   have h5:x5=p:=h5.trans (Qy4 h).2
   subst h5;subst h6
   show _=_
   unfold appF;rw[hb];rfl
def arrF(p:Q01)(f:Int)(s:List UInt8):Q01:={A0:=setMem p.A0 (Q0r p.A0.Mem f s).1,A7:=p.A7.set f.toNat true,C9:=p.C9,B4:=p.B4}
theorem Z2h{c:Q3l}(hl:0<=c.Frame->c.Frame<P->c.C5.length=128):(Q7y p c).w (λr=>(r=(p,false)/\(c.Frame<0\/(P:Int)<=c.Frame\/prs p c.Frame.toNat))\/(r=(arrF p c.Frame c.C5,true)/\0<=c.Frame/\c.Frame<P/\¬prs p c.Frame.toNat)):=by
 have hp:=h.pres
 unfold Q7y
 refine w_an (Qy4 h).1 (w_lv λx0 h0=>w_an (Z5s h) (w_lv λx1 h1=>w_br (λhb=>?_) λ_=>?_))
 ·rw[h1,h.valid]at hb;cases hb
 have h0:x0=p:=h0.trans (Qy4 h).2
 subst h0
 refine w_br (λhb=>?_) λhb=>w_br (λhb2=>?_) λhb2=>?_
 ·exact .inl ⟨rfl,.inl (oY hb)⟩
 ·exact .inl ⟨rfl,.inr (.inl (by have:=oY hb2;omega))⟩
 have f0:0<=c.Frame:=by have:=oN hb;omega
 have f1:c.Frame<P:=by have:=oN hb2;omega
 refine w_cn (dY (by omega)) (w_br (λht=>.inl ⟨rfl,.inr (.inr ht)⟩) λht=>w_an (Tree.pp (Qsw h.g.ok.mem c.Frame c.C5)).1 (w_lv λx2 h2=>w_br (λhb3=>?_) λ_=>w_cn (dY (by omega)) ?_))
 ·rw[h2,(Zli h.g.ok.mem f0 f1 (hl f0 f1)).1]at hb3;cases hb3
 ·refine .inr ⟨?_,f0,f1,λe=>by unfold prs at e;rw[e]at ht;cases ht⟩
  subst h2;rfl
def ksF(p:Q01)(n:Nat):List Nat:=(cY n).filter λk=>!p.A7.getD ((p.C9.toNat+k)%p.A7.length) false
def frm(p:Q01)(k:Nat):Int:=(((p.C9.toNat+k)%p.A7.length:Nat):Int)
def Zls(p:Q01)(most:Int):List Int:=((ksF p p.A7.length).map (frm p)).take most.toNat
omit h in
theorem Zg6(p:Q01)(n:Nat):ksF p (n+1)=ksF p n++(if p.A7.getD ((p.C9.toNat+n)%p.A7.length) false=false then[n]else[]):=by
 unfold ksF
 rw[fM,fN]
 congr 1
 cases hq:p.A7.getD ((p.C9.toNat+n)%p.A7.length) false
 ·simp only[fO,fS,hq];rfl
 ·simp only[fO,fS,hq];rfl
omit h in
theorem vS(p:Q01)(n:Nat):(ksF p n).length<=n:=by
 unfold ksF
 exact bH (fT _ _) (by simp)
theorem qT(most:Int):(Qa4 p most).w (λr=>r=Zls p most):=by
 have hp:=h.pres;have h32:=h.P32;have hpos:=h.pos;have l0:=h.last0;have l1:=h.last1
 unfold Qa4
 refine w_an (Z5s h) (w_lv λx0 h0=>w_br (λhb=>?_) λ_=>?_)
 ·rw[h0,h.valid]at hb;cases hb
 refine w_lp (inv:=λv=>∃n:Nat,v.1=n/\n<=P/\v.2=((ksF p n).map (frm p)).take most.toNat) (μ:=Q60 p most) ⟨0,rfl,by omega,by simp[ksF]⟩ (cL _) (λv hv=>?_)
 obtain⟨n,v1,v2,v3⟩:=hv
 obtain⟨i,l⟩:=v
 have v1:i=(n:Int):=v1
 subst v1
 have v3:l=_:=v3
 have lk:=vS p n
 have ll:l.length<=32:=by rw[v3];simp;omega
 refine w_br (λhb=>?_) λhb=>?_
 ·have hb:=oY hb
  have hn:n<P:=by have:(n:Int)<(p.A7.length:Int):=hb;omega
  have ei:wrap .i64 ((n:Int)+1)=((n+1:Nat):Int):=by rw[w64 (by omega) (by omega)];omega
  have ef:dA (wrap .i64 (p.C9+(n:Int))) (p.A7.length:Int)=frm p n:=by
   rw[w64 (by omega) (by omega),eA (by omega)]
   unfold frm
   rw[Int.natCast_emod]
   congr 1
   omega
  have fr0:0<=frm p n/\frm p n<P:=by
   unfold frm
   have:=Nat.mod_lt (p.C9.toNat+n) (show 0<p.A7.length by omega)
   omega
  have et:(frm p n).toNat=(p.C9.toNat+n)%p.A7.length:=rfl
  have mu:∀l',Q60 p most (wrap .i64 ((n:Int)+1),l')<Q60 p most ((n:Int),l):=λl'=>by
   rw[ei];unfold Q60;dsimp only;omega
  have go:∀l',l'=((ksF p (n+1)).map (frm p)).take most.toNat->∃q:Nat,wrap .i64 ((n:Int)+1)=q/\q<=P/\l'=((ksF p q).map (frm p)).take most.toNat:=λl' e=>⟨n+1,ei,by omega,e⟩
  refine w_cn (dY (by show(p.A7.length:Int)≠0;omega)) (w_br (λhm=>w_cn ?_ (w_br (λht=>w_cn ?_ (w_nx ⟨go _ ?_,mu _⟩)) λht=>w_nx ⟨go _ ?_,mu _⟩)) λhm=>w_nx ⟨go _ ?_,mu _⟩)
  ·show(_&&decide (0<=dA (wrap .i64 (p.C9+(n:Int))) (p.A7.length:Int)/\dA (wrap .i64 (p.C9+(n:Int))) (p.A7.length:Int)<(p.A7.length:Int)))=true
   rw[ef];simp[bJ];omega
  ·exact dY (by show 8*(l.length+1)<=_;omega)
  ·show l++[dA (wrap .i64 (p.C9+(n:Int))) (p.A7.length:Int)]=_
   have ht:(!p.A7.getD (dA (wrap .i64 (p.C9+(n:Int))) (p.A7.length:Int)).toNat false)=true:=ht
   rw[ef,et]at ht
   have ht:p.A7.getD ((p.C9.toNat+n)%p.A7.length) false=false:=by simpa using ht
   have hm:(l.length:Int)<most:=oY hm
   rw[ef,Zg6,if_pos ht,v3]
   rw[v3]at hm
   rw[bD,fU]at hm
   rw[bL,fV,fU,fW (by rw[fU];omega)]
   congr 1
   rw[fW (by simp;omega)]
   rfl
  ·show l=_
   have ht:(!p.A7.getD (dA (wrap .i64 (p.C9+(n:Int))) (p.A7.length:Int)).toNat false)=false:=ht
   rw[ef,et]at ht
   have ht:p.A7.getD ((p.C9.toNat+n)%p.A7.length) false=true:=by simpa using ht
   rw[Zg6,if_neg (by rw[ht];decide),cJ];exact v3
  ·show l=_
   have hm:¬(l.length:Int)<most:=oN hm
   rw[v3]at hm⊢
   rw[bD,fU]at hm
   rw[Zg6,bL,fV,fU,show most.toNat-(ksF p n).length=0 by omega]
   simp
 ·have hb:¬(n:Int)<(p.A7.length:Int):=oN hb
  have:n=p.A7.length:=by omega
  show l=_
  rw[v3,this];rfl
omit h in
theorem xaf(s:List Bool)(hs:s.length<=1000):(Q3o s false).w (λr=>r>=0↔ ∃i,i<s.length/\s.getD i false=false):=by
 unfold Q3o
 refine w_lp (inv:=λv=>0<=v/\v<=s.length/\∀i:Nat,(i:Int)<v->s.getD i false=true) (μ:=Q9c s false) ⟨fR 0,by omega,λi hi=>by omega⟩ (cL _) (λv hv=>?_)
 obtain⟨v1,v2,v3⟩:=hv
 refine w_br (λhb=>?_) λhb=>?_
 ·have hb:=oY hb
  refine w_cn (by show(_&&decide _)=true;simp[bJ];omega) (w_br (λht=>?_) λht=>w_nx ?_)
  ·refine⟨λ_=>⟨v.toNat,by omega,?_⟩,λ_=>v1⟩
   exact(eq_of_beq ht).symm
  ·have e:wrap .i64 (v+1)=v+1:=w64 (by omega) (by omega)
   show(0<=wrap .i64 (v+1)/\wrap .i64 (v+1)<=s.length/\∀i:Nat,(i:Int)<wrap .i64 (v+1)->s.getD i false=true)/\((s.length:Int)-wrap .i64 (v+1)).toNat<((s.length:Int)-v).toNat
   rw[e]
   refine⟨⟨by omega,by omega,λi hi=>?_⟩,by omega⟩
   by_cases hi2:(i:Int)<v
   ·exact v3 i hi2
   ·have:i=v.toNat:=by omega
    subst this
    cases hq:s.getD v.toNat false
    ·rw[hq]at ht;cases ht
    ·rfl
 ·have hb:=oN hb
  show(-1:Int)>=0↔_
  refine⟨λx=>by omega,fun⟨i,h1,h2⟩=>?_⟩
  rw[v3 i (by omega)]at h2;cases h2
theorem xT:(Q9t p).w (λr=>r=true↔ ∀f,f<P->prs p f):=by
 have hp:=h.pres;have h32:=h.P32
 unfold Q9t
 refine w_an (Z5s h) (w_lv λx0 h0=>w_br (λ_=>?_) λhb=>?_)
 ·have cw:(Q2z p.A7 false).w (λr=>r=true↔ ∃i,i<p.A7.length/\p.A7.getD i false=false):=by
   unfold Q2z
   refine Q0e (xaf p.A7 (by omega)) λx hx=>?_
   show decide (x>=0)=true↔_
   rw[decide_eq_true_eq];exact hx
  refine Q0e cw λx1 h1=>?_
  show(!x1)=true↔_
  constructor
  ·intro hx f hf
   unfold prs
   cases hq:p.A7.getD f false
   ·have:=h1.2 ⟨f,by omega,hq⟩
    rw[this]at hx;cases hx
   ·rfl
  ·intro hx
   cases hq:x1
   ·rfl
   ·obtain⟨i,a,b⟩:=h1.1 hq
    have:=hx i (by omega)
    unfold prs at this
    rw[this]at b;cases b
 ·rw[h0,h.valid]at hb;cases hb
end
theorem tz_in{S:Int}(hS:U S)(h0:S≠0):0<=Q0i S/\inS S (Q0i S).toNat:=by
 obtain⟨c1,c2,_⟩:=Zc0 (x:=S.toNat) (by have:=hS.1;omega) (by have:=hS.2;omega)
 rw[yS]
 exact⟨by omega,by show S.toNat.testBit _=true;rw[dZ];exact c2⟩
theorem ms_in{P:Nat}{p:Q01}(h:okP P p)(f:Nat):inS (ms p) f↔inS (Q19 p.A0) f/\¬prs p f:=by
 unfold ms
 rw[Qsq (Z8a h.g).1 (Qzs h).1,(Qzs h).2]
theorem yn{P:Nat}{p:Q01}(h:okP P p)(e:Q0f)(f:Nat):inS (msF p e) f↔inS (Q1a p.A0 e) f/\¬prs p f:=by
 unfold msF
 rw[Qsq (for_U h.g e) (Qzs h).1,(Qzs h).2]
theorem zT{P:Nat}{m:Q00}(g:good P m)(e:Q0f)(f:Nat)(hf:inS (Q1a m e) f):f<P:=by
 have sg:∀{x:Int},U x->inS (Q0k m.Mem x) f->f<P:=λhx hg=>by have:=((Q47 g.ok.mem hx).2 f).1 hg;omega
 rw[Qvm]at hf
 cases h4:e.C3==4
 ·rw[h4]at hf
  cases h5:e.C3==5
  ·rw[h5]at hf;exact absurd hf (inS0 f)
  ·rw[h5]at hf
   cases h6:(Q0p m e).2
   ·rw[h6]at hf;exact absurd hf (inS0 f)
   ·rw[h6]at hf;exact sg g.ok.nic.buffer hf
 ·rw [h4]at hf
  cases h6:(Q0p m e).2
  ·rw[h6]at hf;exact absurd hf (inS0 f)
  ·rw[h6]at hf
   cases h7:e.N==1
   ·rw[h7]at hf;exact absurd hf (inS0 f)
   ·rw[h7]at hf
    cases h8:m.B0.D5==1
    ·rw[h8]at hf;exact absurd hf (inS0 f)
    ·rw[h8]at hf;exact sg g.ok.disk.opFrame hf
theorem okP.flt{P:Nat}{p:Q01}(h:okP P p)(hf:p.B4<1000000){S:Int}(hS:U S)(h0:S≠0)(hl:∀f,inS S f->f<P):okP P (fltF p S):=by
 obtain⟨a,b⟩:=tz_in hS h0
 have c:=hl _ b
 have f0:=h.flt0
 have e:wrap .i64 (p.B4+1)=p.B4+1:=w64 (by omega) (by omega)
 exact⟨h.g,h.pos,h.pres,a,by show Q0i S<P;omega,by show 0<=wrap .i64 (p.B4+1);rw[e];omega,by show wrap .i64 (p.B4+1)<=_;rw[e];omega⟩
theorem okP.stp{P:Nat}{p:Q01}(h:okP P p)(hf:p.B4<1000000){clock:Int}(hc:U clock):okP P (stpF p clock).1:=by
 unfold stpF
 cases h0:ms p !=0
 ·exact⟨(Qlh h.g hc).1,h.pos,h.pres,h.last0,h.last1,h.flt0,h.flt1⟩
 ·exact h.flt hf (Qo _ _) (by simpa using h0) λf hf=>(Z8a h.g).2 f ((ms_in h f).1 hf).1
theorem okP.app{P:Nat}{p:Q01}(h:okP P p)(hf:p.B4<1000000){e:Q0f}(he:U e.N):okP P (appF p e).1:=by
 unfold appF
 cases h0:msF p e !=0
 ·exact⟨Qs h.g he,h.pos,h.pres,h.last0,h.last1,h.flt0,h.flt1⟩
 ·exact h.flt hf (Qo _ _) (by simpa using h0) λf hf=>zT h.g e f ((yn h e f).1 hf).1
theorem okP.arr{P:Nat}{p:Q01}(h:okP P p){f:Int}(f0:0<=f)(f1:f<P){s:List UInt8}(hs:s.length=128):okP P (arrF p f s):=
 ⟨h.g.setMem (Zli h.g.ok.mem f0 f1 hs).2.1,h.pos,by show(p.A7.set _ _).length=P;rw[List.length_set];exact h.pres,h.last0,h.last1,h.flt0,h.flt1⟩
theorem Z01{P:Nat}{l:List Int}(h:Q0q P l){f:Int}(f0:0<=f)(f1:f<P):(Q12 l f).1.length=128/\isPg l f (Q12 l f).1:=by
 obtain⟨a1,a2⟩:=(Tree.pp (Qrs h f0 f1)).2
 exact⟨a1.1,a1⟩
theorem Z3l:Q7e=true:=by kernel_rfl
theorem Zac:Q3e:=by
 have:Qd1.w (λ_=>True):=by
  unfold Qd1
  obtain⟨a,_⟩:=Qxb 2 [0] (by decide) (by decide)
  refine w_an (Tree.pp (Zfo 2 [0] (by decide))).1 (w_lv λx0 h0=>?_)
  rw[<-h0]at a
  refine Q0e (qn a (by decide)) λx1 h1=>?_
  have o1:okP 8 x1.1:=by rw[h1];exact xn a (by decide)
  have f1:x1.1.B4=0:=by rw[h1];rfl
  have l1:x1.1.B4<1000000:=by omega
  refine Q0e (Zc6 o1) λx2 _=>Q0e (Z9 o1 U_0) λx3 h3=>?_
  have o3:okP 8 x3.1:=by rw[h3];exact o1.stp l1 U_0
  have l3:x3.1.B4<1000000:=by
   rw[h3];unfold stpF
   cases ms x1.1 !=0
   ·exact l1
   ·show wrap .i64 (x1.1.B4+1)<1000000
    rw[f1];decide
  have pl:=(Z01 (f:=0) a.ok.mem (by decide) (by decide)).1
  refine w_an (Tree.pp (Qwl a.ok.mem 0)).1 (w_lv λx4 h4=>?_)
  rw[<-h4]at pl
  refine Q0e (Z2h o3 (c:={Frame:=0,C5:=x4.1}) λ_ _=>pl) λx5 h5=>?_
  have o5:okP 8 x5.1/\x5.1.B4<1000000:=by
   rcases h5 with⟨e,_⟩|⟨e,q0,q1,_⟩
   ·rw[e];exact⟨o3,l3⟩
   ·rw[e];exact⟨o3.arr q0 q1 pl,l3⟩
  refine Q0e (Z9 o5.1 U_0) λx6 h6=>Q0e (qT o5.1 2) λx7 h7=>?_
  have o6:okP 8 x6.1:=by rw[h6];exact o5.1.stp o5.2 U_0
  refine w_br (λ_=>w_br (λ_=>w_br (λ_=>w_br (λ_=>w_br (λ_=>w_br (λ_=>w_br (λ_=>w_br (λ_=>w_br (λhb=>w_cn ?_ (w_br (λ_=>Q0e (xT o6) λx8 _=>trivial) λ_=>trivial)) λ_=>trivial) λ_=>trivial) λ_=>trivial) λ_=>trivial) λ_=>trivial) λ_=>trivial) λ_=>trivial) λ_=>trivial) λ_=>trivial
  have:(x7.length:Int)=2:=eq_of_beq hb
  exact dY (by omega)
 exact(Tree.pp this).1
theorem aw31{W:Bool->Prop}(h:W true):(Tree.an Q3e (.lv Q7e λx=>.lf x)).w W:=w_an Zac (w_lv λx e=>by show W x;rw[e,Z3l];exact h)
theorem qag{P:Nat}{m n:List Int}(h:Q0q P m)(hn:Q0q P n)(e:∀j,m.getD j 0=n.getD j 0):m=n:=by
 refine List.ext_getElem (by rw[h.len,hn.len]) λi h1 h2=>?_
 have:=e i
 simpa[aK,h1,h2]using this
structure Sim(p:Q01)(src:Q00)(pages:List Int):Prop where
 ok:okP 8 p
 g:good 8 src
 pg:Q0q 8 pages
 same:p.A0=setMem src p.A0.Mem
 agr:Agr (prs p) p.A0.Mem src.Mem
 zer:Zer (prs p) p.A0.Mem
 old:Kept (prs p) pages src.Mem
theorem xaw(m:Q00)(g:Nat):¬prs (begF 8 m) g:=by
 unfold prs
 show¬(cM 8 false).getD g false=true
 rw[cZ,List.getElem?_replicate]
 split<;>decide
theorem vn{m:Q00}(g:good 8 m):Sim (begF 8 m) m m.Mem:=
 ⟨xn g (by decide),g,g.ok.mem,rfl,λj hj=>absurd hj (xaw m _),λj _=>qJ 8 j,λj _=>rfl⟩
section
variable {p:Q01} {src:Q00} {pages:List Int} (h:Sim p src pages)
include h
theorem qo{f:Int}(f0:0<=f)(f1:f<8)(s:List UInt8)(g:Nat):prs (arrF p f s) g↔prs p g\/g=f.toNat:=by
 have hp:=h.ok.pres
 unfold prs
 show(p.A7.set f.toNat true).getD g false=true↔_
 simp only[cZ,fE]
 by_cases e:f.toNat=g
 ·subst e;simp[show f.toNat<p.A7.length by omega]
 ·simp[e];exactλx=>absurd x.symm e
theorem zag{f:Int}(f0:0<=f)(f1:f<8)(hn:¬prs p f.toNat):Sim (arrF p f (Q12 pages f).1) src pages:=by
 obtain⟨w1,w2⟩:=Z01 h.pg f0 f1
 obtain⟨_,d2,d3,d4⟩:=Zli h.ok.g.ok.mem f0 f1 w1
 have ap:=qo h f0 f1 (Q12 pages f).1
 refine⟨h.ok.arr f0 f1 w1,h.g,h.pg,?_,λj hj=>?_,λj hj=>?_,λj hj=>h.old j λe=>hj ((ap _).2 (.inl e))⟩
 ·show setMem p.A0 _=setMem src _
  rw[h.same];rfl
 ·show(Q0r p.A0.Mem f (Q12 pages f).1).1.getD j 0=_
  by_cases e:j/32=f.toNat
  ·rw[Zki d2 h.pg f0 d4 w2 e]
   exact(h.old j (by rw[e];exact hn)).symm
  ·rw[d3 j e]
   rcases(ap _).1 hj with q|q
   ·exact h.agr j q
   ·exact absurd q e
 ·show(Q0r p.A0.Mem f (Q12 pages f).1).1.getD j 0=0
  rw[d3 j λe=>hj ((ap _).2 (.inr e))]
  exact h.zer j λe=>hj ((ap _).2 (.inl e))
theorem Zkc{c:Q3l}(hc:c.C5=(Q12 pages c.Frame).1){r:Q01×Bool}(hr:(r=(p,false)/\(c.Frame<0\/((8:Nat):Int)<=c.Frame\/prs p c.Frame.toNat))\/(r=(arrF p c.Frame c.C5,true)/\0<=c.Frame/\c.Frame<((8:Nat):Int)/\¬prs p c.Frame.toNat)):
 Sim r.1 src pages/\r.1.B4=p.B4/\(∀g,prs p g->prs r.1 g)/\(0<=c.Frame->c.Frame<8->prs r.1 c.Frame.toNat)/\(r.2=true->0<=c.Frame/\c.Frame<8):=by
 rcases hr with⟨e,q⟩|⟨e,q0,q1,q2⟩
 ·subst e
  refine⟨h,rfl,λ_ x=>x,λa b=>?_,λx=>by cases x⟩
  rcases q with q|q|q
  ·omega
  ·omega
  ·exact q
 ·have q1:c.Frame<8:=q1
  subst e
  rw[hc]
  have ap:=qo h q0 q1 (Q12 pages c.Frame).1
  exact⟨zag h q0 q1 q2,rfl,λg x=>(ap g).2 (.inl x),λ_ _=>(ap _).2 (.inr rfl),λ_=>⟨q0,q1⟩⟩
theorem Z6z(f:Nat)(hf:inS (Q19 p.A0) f):inS (Q19 src) f:=by
 have om:=h.ok.g.ok.mem
 have on:=h.g.ok.mem
 have e1:p.A0=setMem src p.A0.Mem:=h.same
 have hv:okV (setMem src p.A0.Mem):=e1▸h.ok.g.v
 have hvn:okV (setMem src src.Mem):=h.g.v
 rw[e1]at hf
 show inS (Q19 (setMem src src.Mem)) f
 cases hr:Q14 (setMem src p.A0.Mem)
 ·rw[Qvn hr]at hf;exact absurd hf (inS0 f)
 ·have hrn:Q14 (setMem src src.Mem)=true:=by rw[<-Zb5 om on];exact hr
  rw[Qno hv hr]at hf
  rw[Qno hvn hrn,Zkl om on hv hvn]
  have hc:=Qzo om on hv hvn h.agr hr
  exact zad om on h.agr hc h.zer (q:=setMem src p.A0.Mem) (q':=setMem src src.Mem) om on hv.disk hv.nic rfl rfl rfl f hf
theorem zJ(hs:ms p=0){clock:Int}(hc:U clock):Sim {A0:=(Q0z p.A0 clock).1,A7:=p.A7,C9:=p.C9,B4:=p.B4} (Q0z src clock).1 pages/\(Q0z p.A0 clock).2=(Q0z src clock).2/\(Q0z p.A0 clock).1.A4=(Q0z src clock).1.A4/\(Q0z p.A0 clock).1.A2=(Q0z src clock).1.A2:=by
 have om:=h.ok.g.ok.mem
 have on:=h.g.ok.mem
 have e1:p.A0=setMem src p.A0.Mem:=h.same
 have hv:okV (setMem src p.A0.Mem):=e1▸h.ok.g.v
 have hsub:Sub (Q19 (setMem src p.A0.Mem)) (prs p):=λf hf=>fI λhn=>by
  rw[<-e1]at hf
  have:=(ms_in h.ok f).2 ⟨hf,hn⟩
  rw[hs]at this;exact inS0 f this
 have o:=h.ok
 have st:=o.stp
 have g1:=(Qlh h.ok.g hc).1
 have g2:=(Qlh h.g hc).1
 obtain⟨z,m1,n1,o1,x1,x2,x3,x4,x5⟩:=qI (b:=src) om on hv h.g.v h.agr hsub clock
 rw[<-e1]at x1
 have x2:Q0z src clock=(setMem z n1,o1):=x2
 rw[x1]at g1⊢
 rw[x2]at g2⊢
 exact⟨⟨⟨g1,o.pos,o.pres,o.last0,o.last1,o.flt0,o.flt1⟩,g2,h.pg,rfl,x3,h.zer.kept x4,h.old.trans x5⟩,rfl,rfl,rfl⟩
theorem xag{e:Q0f}(he:U e.N)(hs:msF p e=0):Sim {A0:=(Q0p p.A0 e).1,A7:=p.A7,C9:=p.C9,B4:=p.B4} (Q0p src e).1 pages/\(Q0p p.A0 e).2=(Q0p src e).2:=by
 have om:=h.ok.g.ok.mem
 have on:=h.g.ok.mem
 have e1:p.A0=setMem src p.A0.Mem:=h.same
 have hsub:Sub (Q1a (setMem src p.A0.Mem) e) (prs p):=λf hf=>fI λhn=>by
  rw[<-e1]at hf
  have:=(yn h.ok e f).2 ⟨hf,hn⟩
  rw[hs]at this;exact inS0 f this
 have o:=h.ok
 have g1:=Qs h.ok.g he
 have g2:=Qs h.g he
 obtain⟨z,m1,n1,o1,x1,x2,x3,x4,x5⟩:=ym om on h.agr (b:=src) h.g.ok.disk h.g.ok.nic hsub
 rw[<-e1]at x1
 have x2:Q0p src e=(setMem z n1,o1):=x2
 rw[x1]at g1⊢
 rw[x2]at g2⊢
 exact⟨⟨⟨g1,o.pos,o.pres,o.last0,o.last1,o.flt0,o.flt1⟩,g2,h.pg,rfl,x3,h.zer.kept x4,h.old.trans x5⟩,rfl⟩
theorem qah{S:Int}(hf:p.B4<1000000)(hS:U S)(h0:S≠0)(hl:∀f,inS S f->f<8):Sim (fltF p S) src pages:=
 ⟨h.ok.flt hf hS h0 hl,h.g,h.pg,h.same,h.agr,h.zer,h.old⟩
theorem zah(ha:∀f,f<8->prs p f):p.A0=src:=by
 have e:p.A0.Mem=src.Mem:=qag h.ok.g.ok.mem h.g.ok.mem λj=>by
  by_cases hj:j/32<8
  ·exact h.agr j (ha _ hj)
  ·have l1:=h.ok.g.ok.mem.len;have l2:=h.g.ok.mem.len
   rw[cZ,cZ,aM (by omega),aM (by omega)]
 rw[h.same,e];rfl
end
theorem Qq2{P:Nat}{m:List Int}(h:Q0q P m){f:Int}(hf:U f):∃L:List Nat,L.length<=1/\∀g,inS (Q0k m f) g->g∈L:=
 ⟨[f.toNat],Nat.le_refl 1,λg hg=>by have:=((Q47 h hf).2 g).1 hg;simp;omega⟩
theorem Qh{P:Nat}{m:List Int}(h:Q0q P m){c:Q02}(hc:Q29 c)(v s k:Int):∃L:List Nat,L.length<=2/\∀g,inS (Q0l c m v s k) g->g∈L:=by
 have one:∀{f:Int},U f->∃L:List Nat,L.length<=2/\∀g,inS (Q0k m f) g->g∈L:=λhf=>by
  obtain⟨L,a,b⟩:=Qq2 h hf;exact⟨L,by omega,b⟩
 have z:∃L:List Nat,L.length<=2/\∀g,inS 0 g->g∈L:=⟨[],by simp,λg hg=>absurd hg (inS0 g)⟩
 rw[Q7p]
 cases dA v s !=0
 case true=>exact z
 cases Q2r c
 case false=>exact one (Q0s _)
 cases iand .u32 c.B3.a0 4==0
 case true=>exact one (Q0s _)
 cases decide (v>=4096)
 case true=>exact z
 show∃L:List Nat,L.length<=2/\∀g,inS (bif _==0 then _ else _) g->g∈L
 cases(Q0t m c.B3.a6 v k).D1==0
 ·exact one hc.a6
 ·obtain⟨L1,a1,b1⟩:=Qq2 h hc.a6
  obtain⟨L2,a2,b2⟩:=Qq2 h (f:=wrap .u32 (eN (Q0t m c.B3.a6 v k).Addr 128)) (Q0s _)
  refine⟨L1++L2,by rw[lA];omega,λg hg=>?_⟩
  rw[bX]
  rcases(Qn9 (Q47 h hc.a6).1 (Zhl h _) g).1 hg with x|x
  ·exact .inl (b1 g x)
  ·exact .inr (b2 g x)
theorem yJ{P:Nat}{q:Q00}{m:List Int}(h:Q0q P m)(hq:Q0q P q.Mem)(hd:Q4t q.B0)(hn:Qas q.C2)(hg:U q.A1.C0){c:Q02}(hc:Q29 c)(i:Q0g):∃L:List Nat,L.length<=2/\∀g,inS (Q1g q c m i) g->g∈L:=by
 rw[Qpe]
 have z:∃L:List Nat,L.length<=2/\∀g,inS 0 g->g∈L:=⟨[],by simp,λg hg=>absurd hg (inS0 g)⟩
 cases i.Op==32
 case true=>exact Qh h hc _ 4 2
 cases i.Op==33
 case true=>exact Qh h hc _ 1 2
 cases i.Op==34
 case true=>exact Qh h hc _ 1 2
 cases i.Op==35
 case true=>exact Qh h hc _ 4 3
 cases i.Op==36
 case true=>exact Qh h hc _ 1 3
 cases i.Op==61
 case false=>exact z
 show∃L:List Nat,L.length<=2/\∀g,inS (Q1n q _ _) g->g∈L
 have hu:=hc.r (dB (iand .i64 i.A 15))
 generalize aK (A16.l c.X) (dB (iand .i64 i.A 15)) 0=w at*
 have one:∀{f:Int},U f->∃L:List Nat,L.length<=2/\∀g,inS (Q0k q.Mem f) g->g∈L:=λhf=>by
  obtain⟨L,a,b⟩:=Qq2 hq hf;exact⟨L,by omega,b⟩
 show Tree.V (Q22 q (wrap .i64 i.Imm) w) (λS=>∃L:List Nat,L.length<=2/\∀g,inS S g->g∈L)
 unfold Q22
 refine v_br (λ_=>v_br (λ_=>v_br (λ_=>v_br (λ_=>v_an (v_lv λx hx=>v_lf ?_)) λ_=>v_lf z) λ_=>v_lf z) λ_=>v_lf z) λ_=>v_br (λ_=>v_br (λ_=>v_br (λ_=>v_br (λ_=>v_an (v_lv λx hx=>v_lf ?_)) λ_=>v_lf z) λ_=>v_lf z) λ_=>v_lf z) λ_=>v_br (λ_=>v_an (v_lv λx hx=>v_lf ?_)) λ_=>v_lf z
 ·rw[hx];exact one hd.frame
 ·rw[hx];exact one hn.frame
 ·rw[hx]
  obtain⟨L,a,b⟩:=one hu
  exact⟨L,a,λg hg'=>b g ((Qsq (Q47 hq hu).1 hg g).1 hg').1⟩
theorem Zmw{P:Nat}{m:Q00}(g:good P m):∃L:List Nat,L.length<=4/\∀f,inS (Q19 m) f->f∈L:=by
 cases hr:Q14 m
 ·have:=Qvn (b:=m) (m:=m.Mem) (show Q14 (setMem m m.Mem)=false from hr)
  change Q19 m=0 at this
  rw[this];exact⟨[],by simp,λf hf=>absurd hf (inS0 f)⟩
 ·have:=Qno (b:=m) (m:=m.Mem) (show okV (setMem m m.Mem) from g.v) (show Q14 (setMem m m.Mem)=true from hr)
  change Q19 m=nd m (Q07 m) m.Mem at this
  have hc:=Qzo (b:=m) (m:=m.Mem) (n:=m.Mem) (D:=λ_=>True) g.ok.mem g.ok.mem (show okV (setMem m m.Mem) from g.v) (show okV (setMem m m.Mem) from g.v) (λ_ _=>rfl) (show Q14 (setMem m m.Mem)=true from hr)
  change Q29 (Q07 m)at hc
  have hm:=g.ok.mem
  obtain⟨_,o1⟩:=(Tree.pp (Qcy hm hc)).2
  change Q0q P (Q0h (Q07 m) m.Mem).2.1 at o1
  have a1:=Qp9 hm hc hc.pc 4 1
  have a2:=Zf1 o1 hm g.ok.disk g.ok.nic hc (Q11 (Q0h (Q07 m) m.Mem).1).1
  obtain⟨L1,l1,b1⟩:=Qh hm hc (Q07 m).Pc 4 1
  obtain⟨L2,l2,b2⟩:=yJ o1 hm g.ok.disk g.ok.nic g.ok.target.2 hc (Q11 (Q0h (Q07 m) m.Mem).1).1
  rw[this,Zld]
  cases goes (Q07 m) (Q0h (Q07 m) m.Mem).1 (Q0h (Q07 m) m.Mem).2.2
  ·exact⟨L1,by omega,b1⟩
  ·refine⟨L1++L2,by rw[lA];omega,λf hf=>?_⟩
   rw[bX]
   rcases(Qn9 a1 a2 f).1 hf with x|x
   ·exact .inl (b1 f x)
   ·exact .inr (b2 f x)
theorem Z99{p:Q01}{src:Q00}{pages:List Int}(h:Sim p src pages){l:List Int}(hl:l.length<=1000):(Qbh p pages l).w (λr=>Sim r src pages/\r.B4=p.B4/\(∀g,prs p g->prs r g)/\∀f∈l,0<=f->f<8->prs r f.toNat):=by
 unfold Qbh
 refine w_lp (inv:=λv=>0<=v.1/\v.1<=l.length/\Sim v.2 src pages/\v.2.B4=p.B4/\(∀g,prs p g->prs v.2 g)/\∀i:Nat,(i:Int)<v.1->0<=l.getD i 0->l.getD i 0<8->prs v.2 (l.getD i 0).toNat) (μ:=Qjz p pages l) ⟨fR 0,by show(0:Int)<=_;omega,h,rfl,λ_ x=>x,λi hi=>by have:(i:Int)<0:=hi;omega⟩ (cL _) (λv hv=>?_)
 obtain⟨i,q⟩:=v
 obtain⟨v0,v1,v2,v3,v4,v5⟩:=hv
 change 0<=i at v0;change i<=l.length at v1;change Sim q src pages at v2;change q.B4=p.B4 at v3;change∀g,prs p g->prs q g at v4;change∀k:Nat,(k:Int)<i->0<=l.getD k 0->l.getD k 0<8->prs q (l.getD k 0).toNat at v5
 refine w_br (λhb=>?_) λhb=>?_
 ·have hb:i<(l.length:Int):=oY hb
  have rcv:(Nat.beq 1 1&&bJ 0 1&&decide (0<=i/\i<(l.length:Int)))=true:=by simp[bJ];omega
  refine w_cn rcv (w_an (Tree.pp (Qwl h.pg (l.getD i.toNat 0))).1 (w_lv λx0 h0=>w_cn rcv ?_))
  refine Q0e (Z2h v2.ok (c:={Frame:=l.getD i.toNat 0,C5:=x0.1}) λa b=>by rw[h0];exact(Z01 h.pg a b).1) λx1 h1=>w_nx ?_
  obtain⟨s1,s2,s3,s4,_⟩:=Zkc v2 (c:={Frame:=l.getD i.toNat 0,C5:=x0.1}) (by rw[h0]) h1
  have e:wrap .i64 (i+1)=i+1:=w64 (by omega) (by omega)
  show(0<=wrap .i64 (i+1)/\wrap .i64 (i+1)<=l.length/\Sim x1.1 src pages/\x1.1.B4=p.B4/\(∀g,prs p g->prs x1.1 g)/\∀k:Nat,(k:Int)<wrap .i64 (i+1)->0<=l.getD k 0->l.getD k 0<8->prs x1.1 (l.getD k 0).toNat)/\((l.length:Int)-wrap .i64 (i+1)).toNat<((l.length:Int)-i).toNat
  rw[e]
  refine⟨⟨by omega,by omega,s1,s2.trans v3,λg x=>s3 g (v4 g x),λk hk a b=>?_⟩,by omega⟩
  by_cases hk2:(k:Int)<i
  ·exact s3 _ (v5 k hk2 a b)
  ·have:k=i.toNat:=by omega
   subst this;exact s4 a b
 ·have hb:¬i<(l.length:Int):=oN hb
  refine⟨v2,v3,v4,λf hf a b=>?_⟩
  obtain⟨k,hk,e⟩:=List.getElem_of_mem hf
  have e2:l.getD k 0=f:=by simp[aK,hk,e]
  have:=v5 k (by omega)
  rw[e2]at this
  exact this a b
abbrev R31:Type:=(Int×Bool×Int×Q01)⊕((Int×Q00×Q01)⊕Bool)
theorem empty0{S:Int}(hS:U S)(h:∀f,¬inS S f):S=0:=by
 have:S.toNat=0:=eG λi=>by
  rw[eX]
  cases hq:S.toNat.testBit i
  ·rfl
  ·exact absurd hq (h i)
 have:=hS.1
 omega
def Qoh(p:Q01):Int×Bool:=bif ms p==0 then(0,false)else(Q0i (ms p),true)
def I31(S:Q00)(pages:List Int)(B:Int)(v:Int×Bool×Int×Q01):Prop:=
 Sim v.2.2.2 S pages/\v.1=(Qoh v.2.2.2).1/\v.2.1=(Qoh v.2.2.2).2/\0<=v.2.2.1/\v.2.2.1<=4/\v.2.2.2.B4<=B+v.2.2.1/\∃L:List Nat,(L.length:Int)<=4-v.2.2.1/\∀f,inS (Q19 S) f->¬prs v.2.2.2 f->f∈L
theorem Za1{p:Q01}(h:(Qoh p).2=false):ms p=0:=by
 unfold Qoh at h
 cases hq:ms p==0
 ·rw[hq]at h;cases h
 ·exact eq_of_beq hq
theorem xo{p:Q01}(h:(Qoh p).2=true):ms p≠0/\(Qoh p).1=Q0i (ms p):=by
 unfold Qoh at*
 cases hq:ms p==0
 ·exact⟨by simpa using hq,rfl⟩
 ·rw[hq]at h;cases h
section
variable {S:Q00} {pages:List Int} {q:Q01} (h:Sim q S pages)
include h
theorem tail31(hm:ms q=0){i:Int}{W:R31->Prop}(hW:∀p' s',Sim p' s' pages->p'.B4=q.B4->W (.inr (.inl (wrap .i64 (i+1),s',p'))))
 {C:Q01×List Q0a×Bool->Q00×List Q0a->Bool} (hC:∀a b,a.1.A0.A4=b.1.A4->C a b=false)
 {F:Q01×List Q0a×Bool->Q00×List Q0a->Bool->Prop} {H:∀a b c,F a b c}:
 (Tree.an (Q1o q (wrap .u32 i)) (.lv (Q34 q (wrap .u32 i)) λ(x19:Q01×List Q0a×Bool)=>.an (Q46 S (wrap .u32 i)) (.lv (Q0z S (wrap .u32 i)) λ(x20:Q00×List Q0a)=>.br (!x19.2.2) (.lf (Sum.inr (Sum.inr false))) (.an (Q2l x19.2.1 x20.2) (.lv (Q6q x19.2.1 x20.2) λ(x21:Bool)=>.br (!x21) (.lf (Sum.inr (Sum.inr false))) (.br (C x19 x20) (.lf (Sum.inr (Sum.inr false))) (.br (x19.1.A0.A2 !=x20.1.A2) (.lf (Sum.inr (Sum.inr false))) (.nx (F x19 x20 x21) (Sum.inr (Sum.inl (wrap .i64 (i+1),x20.1,x19.1))) (H x19 x20 x21)))))))):Tree R31).w W:=by
 have hc:U (wrap .u32 i):=Q0s i
 obtain⟨s1,s2,s3,s4⟩:=zJ h hm hc
 refine Q0e (Z9 h.ok hc) λx19 h19=>?_
 have e19:x19=({A0:=(Q0z q.A0 (wrap .u32 i)).1,A7:=q.A7,C9:=q.C9,B4:=q.B4},(Q0z q.A0 (wrap .u32 i)).2,true):=by
  rw[h19];unfold stpF;rw[hm];rfl
 refine w_an (Zc4 h.g.v h.g.len hc).1 (w_lv λx20 h20=>?_)
 have ol:=(Qlh h.g hc).2.1
 rw[<-h20]at s1 s2 s3 s4 ol
 subst e19
 refine w_br (λhb=>by cases hb) λ_=>?_
 dsimp only at*
 rw[s2]
 refine w_an (show x20.2.length<=1000000000000 by omega) (w_lv λx21 h21=>?_)
 have h21:x21=true:=h21.trans (Tree.post _ (qk x20.2 (by omega)))
 subst h21
 refine w_br (λhb=>by cases hb) λ_=>w_br (λhb=>?_) λ_=>w_br (λhb=>?_) λ_=>w_nx (hW _ _ s1 rfl)
 ·rw[hC _ _ s3]at hb;cases hb
 ·rw[s4]at hb;simp at hb
theorem Zgt{f k i B:Int}(hv:I31 S pages B (f,true,k,q))(hB:B<=1000)(hk:k<4){W:R31->Prop}(hW:∀p',I31 S pages B ((Qoh p').1,(Qoh p').2,wrap .i64 (k+1),p')->W (.inl ((Qoh p').1,(Qoh p').2,wrap .i64 (k+1),p')))
 {F:Q01×List Q0a×Bool->Q01->Int×Bool->Prop} {H:∀a b c,F a b c}:
 (Tree.an (Q1o q (wrap .u32 i)) (.lv (Q34 q (wrap .u32 i)) λ(x16:Q01×List Q0a×Bool)=>.br x16.2.2 (.lf (Sum.inr (Sum.inr false))) (.br ((x16.2.1.length:Int) !=0) (.lf (Sum.inr (Sum.inr false))) (.br (x16.1.C9 !=f) (.lf (Sum.inr (Sum.inr false))) (.br (x16.1.B4 !=wrap .i64 (q.B4+1)) (.lf (Sum.inr (Sum.inr false))) (.an (Q30 x16.1 pages [f]) (.lv (Q5r x16.1 pages [f]) λ(x17:Q01)=>.an (Q1l x17) (.lv (Q2g x17) λ(x18:Int×Bool)=>.nx (F x16 x17 x18) (Sum.inl (x18.1,x18.2,wrap .i64 (k+1),x17)) (H x16 x17 x18)))))))):Tree R31).w W:=by
 obtain⟨v1,v2,v3,v4,v5,v6,L,l1,l2⟩:=hv
 dsimp only at v1 v2 v3 v4 v5 v6 l1 l2
 have hc:U (wrap .u32 i):=Q0s i
 obtain⟨m1,m2⟩:=xo v3.symm
 have mu:U (ms q):=Qo _ _
 obtain⟨t1,t2⟩:=tz_in mu m1
 obtain⟨t3,t4⟩:=(ms_in h.ok _).1 t2
 have fr:f=Q0i (ms q):=v2.trans m2
 rw[<-fr]at t1 t2 t3 t4
 have f8:f<8:=by have:=(Z8a h.ok.g).2 _ t3;omega
 have f0:=h.ok.flt0
 have fl:q.B4<1000000:=by omega
 have s0:=qah h fl mu m1 λg hg=>(Z8a h.ok.g).2 g ((ms_in h.ok g).1 hg).1
 refine Q0e (Z9 h.ok hc) λx16 h16=>?_
 have e16:x16=(fltF q (ms q),[],false):=by
  rw[h16];unfold stpF;rw[show(ms q !=0)=true by simpa using m1];rfl
 subst e16
 refine w_br (λhb=>by cases hb) λ_=>w_br (λhb=>by cases hb) λ_=>w_br (λhb=>?_) λ_=>w_br (λhb=>?_) λ_=>?_
 ·have hb:(Q0i (ms q) !=f)=true:=hb
  rw[fr]at hb;simp at hb
 ·have hb:(wrap .i64 (q.B4+1) !=wrap .i64 (q.B4+1))=true:=hb
  simp at hb
 ·refine Q0e (Z99 s0 (l:=[f]) (by simp)) λx17 h17=>?_
  obtain⟨a1,a2,a3,a4⟩:=h17
  have pf:=a4 f (by simp) t1 f8
  refine Q0e (Zc6 a1.ok) λx18 h18=>w_nx ?_
  have e18:x18=Qoh x17:=h18
  subst e18
  refine hW x17 ⟨a1,rfl,rfl,?_,?_,?_,L.erase f.toNat,?_,?_⟩
  ·show 0<=wrap .i64 (k+1);rw[w64 (by omega) (by omega)];omega
  ·show wrap .i64 (k+1)<=4;rw[w64 (by omega) (by omega)];omega
  ·show x17.B4<=B+wrap .i64 (k+1)
   rw[a2,w64 (show-9223372036854775808<=k+1 by omega) (by omega)]
   show wrap .i64 (q.B4+1)<=_
   rw[w64 (by omega) (by omega)];omega
  ·show((L.erase f.toNat).length:Int)<=4-wrap .i64 (k+1)
   have hm:=l2 _ (Z6z h _ t3) t4
   have hp:0<L.length:=fX hm
   rw[w64 (by omega) (by omega),List.length_erase_of_mem hm];omega
  ·intro g hg hn
   have ne:g≠f.toNat:=λe=>hn (e▸pf)
   exact(List.mem_erase_of_ne ne).2 (l2 g hg λe=>hn (a3 g e))
end
theorem vJ{p:Q01}(h:okP 8 p){g:Nat}(hg:g<8)(hn:¬prs p g):(g:Int)∈Zls p 32/\(Zls p 32).length<=1000:=by
 have hp:=h.pres;have l0:=h.last0;have l1:=h.last1
 have e:Zls p 32=(ksF p 8).map (frm p):=by
  unfold Zls;rw[hp]
  exact fW (by rw[fU];exact bH (fT _ _) (by simp))
 have hl:(ksF p 8).length<=8:=bH (fT _ _) (by simp)
 rw[e]
 refine⟨List.mem_map.2 ⟨(g+8-p.C9.toNat)%8,?_,?_⟩,by rw[fU];omega⟩
 ·unfold ksF
  rw[fP,fQ,hp]
  refine⟨by omega,?_⟩
  rw[show(p.C9.toNat+(g+8-p.C9.toNat)%8)%8=g by omega]
  unfold prs at hn
  simpa using hn
 ·unfold frm
  rw[hp,show(p.C9.toNat+(g+8-p.C9.toNat)%8)%8=g by omega]
theorem Zha{q:Q01}{S:Q00}{pages:List Int}(h:Sim q S pages){B:Int}(hB:q.B4<=B):I31 S pages B ((Qoh q).1,(Qoh q).2,0,q):=by
 obtain⟨L,a,b⟩:=Zmw h.g
 exact⟨h,rfl,rfl,fR 0,by show(0:Int)<=4;decide,by show q.B4<=B+0;omega,L,by show(L.length:Int)<=4-0;omega,λf hf _=>b f hf⟩
theorem end31{q:Q01}{S:Q00}{pages:List Int}{B f k:Int}(h:I31 S pages B (f,true,k,q)):k<4:=by
 obtain⟨v1,v2,v3,v4,v5,v6,L,l1,l2⟩:=h
 dsimp only at v1 v2 v3 v4 v5 v6 l1 l2
 obtain⟨m1,m2⟩:=xo v3.symm
 obtain⟨t1,t2⟩:=tz_in (Qo _ _:U (ms q)) m1
 obtain⟨t3,t4⟩:=(ms_in v1.ok _).1 t2
 have:=fX (l2 _ (Z6z v1 _ t3) t4)
 omega
theorem event31{q:Q01}{S:Q00}{pages:List Int}(h:Sim q S pages)(e:Q0f)(he:U e.N){β:Type}{W:β->Prop}{K:Q01×Bool->Q00×Bool->Tree β}
 (hK:∀p' s' k,Sim p' s' pages->p'.B4=q.B4->(K (p',k) (s',k)).w W):
 (Tree.an (Q6y q.A0 e) (.lv (Qah q.A0 e) λ(x11:List Int)=>.an (Q30 q pages x11) (.lv (Q5r q pages x11) λ(x12:Q01)=>.an (Q9d x12 e) (.lv (Qev x12 e) λ(x13:Q01×Bool)=>.an (Q33 S e) (.lv (Q0p S e) λ(x14:Q00×Bool)=>K x13 x14))))).w W:=by
 have fu:=for_U h.ok.g e
 have nw:(Q62 q.A0 e).w (λr=>r=mems (Q1a q.A0 e)):=by
  unfold Q62
  refine w_an (forP h.ok.g he) (w_lv λy hy=>?_)
  subst hy
  exact Q0e (zaw fu) λr hr=>hr
 refine Q0e nw λx11 h11=>?_
 have hlen:x11.length<=32:=by rw[h11];unfold mems;rw[fU];exact bH (fT _ _) (by simp)
 refine Q0e (Z99 h (l:=x11) (by omega)) λx12 h12=>?_
 obtain⟨a1,a2,a3,a4⟩:=h12
 have f0:msF x12 e=0:=by
  refine empty0 (Qo _ _) λf hf=>?_
  obtain⟨b1,b2⟩:=(yn a1.ok e f).1 hf
  have e1:Q1a x12.A0 e=Q1a q.A0 e:=by
   rw[a1.same,h.same]
   exact zae a1.ok.g.ok.mem h.ok.g.ok.mem h.g.ok.disk h.g.ok.nic e
  rw[e1]at b1
  have lt:=zT h.ok.g e f b1
  refine b2 ?_
  have hm:(f:Int)∈x11:=by rw[h11];exact(yI fu _).2 ⟨by omega,by simpa using b1⟩
  simpa using a4 (f:Int) hm (by omega) (by omega)
 obtain⟨c1,c2⟩:=xag a1 he f0
 refine Q0e (xJ a1.ok he) λx13 h13=>w_an (Qw9 h.g.v h.g.len he) (w_lv λx14 h14=>?_)
 have e13:x13=({A0:=(Q0p x12.A0 e).1,A7:=x12.A7,C9:=x12.C9,B4:=x12.B4},(Q0p S e).2):=by
  rw[h13];unfold appF;rw[f0,<-c2];rfl
 have e14:x14=((Q0p S e).1,(Q0p S e).2):=h14
 rw[e13,e14]
 exact hK _ _ _ c1 a2
theorem runs31(kind:Int)(prog:List Int)(steps:Int)(order events:List Int)(hl:prog.length*8<=reachBytes):Qjs kind prog steps order events/\Qk4 kind prog steps order events=true:=by
 refine Tree.pp (t:=Q8s kind prog steps order events) (W:=λr=>r=true) ?_
 unfold Q8s
 refine w_br (λ_=>aw31 rfl) λh60=>w_br (λ_=>aw31 rfl) λhs0=>w_br (λ_=>aw31 rfl) λhs1=>w_br (λ_=>aw31 rfl) λho=>w_br (λ_=>aw31 rfl) λhe=>?_
 have h60:=oN h60;have hs0:=oN hs0;have hs1:=oN hs1;have ho:=oN ho;have he:=oN he
 refine Q0e (at_w hl (by omega) (show(0:Int)<=20 by decide) (by decide)) λx5 h5=>?_
 obtain⟨g,_⟩:=h5
 refine Q0e (qn g (by decide)) λx6 h6=>?_
 have b0:=vn g
 subst h6
 refine w_br (λhb=>by cases hb) λ_=>?_
 have aw:∀{α:Type},(Tree.an Q3e (.lv Q7e λx=>.lf (Sum.inr x)):Tree (α⊕Bool)).w (Sum.elim (λ_=>False) λr=>r=true):=fun{α}=>w_an Zac (w_lv λx e=>by show x=true;rw[e,Z3l])
 refine w_lp (inv:=λv=>0<=v.1/\v.1<=steps/\Sim v.2.2 v.2.1 x5.Mem/\v.2.2.B4<=4*v.1) (μ:=Q5j kind prog steps order events) ⟨fR 0,by show(0:Int)<=steps;omega,b0,by show(0:Int)<=4*0;omega⟩ (cL _) (λv hv=>?_)
 obtain⟨i,S,p⟩:=v
 obtain⟨v0,v1,v2,v3⟩:=hv
 change 0<=i at v0;change i<=steps at v1;change Sim p S x5.Mem at v2;change p.B4<=4*i at v3
 refine w_br (λhb=>?_) λhb=>?_
 ·have hb:i<steps:=oY hb
  have nx:∀{q:Q01},q.B4<=4*i+4->∀p' s',Sim p' s' x5.Mem->p'.B4=q.B4->(0<=wrap .i64 (i+1)/\wrap .i64 (i+1)<=steps/\Sim p' s' x5.Mem/\p'.B4<=4*wrap .i64 (i+1))/\Q5j kind prog steps order events (wrap .i64 (i+1),s',p')<Q5j kind prog steps order events (i,S,p):=fun{q} hq p' s' a b=>by
   unfold Q5j
   dsimp only
   rw[w64 (by omega) (by omega),b]
   exact⟨⟨by omega,by omega,a,by omega⟩,by omega⟩
  have cpu:∀(a:Q01×List Q0a×Bool) (b:Q00×List Q0a),a.1.A0.A4=b.1.A4->(!eqs [D.int .u32 a.1.A0.A4.X.a0,D.int .u32 a.1.A0.A4.X.a1,D.int .u32 a.1.A0.A4.X.a2,D.int .u32 a.1.A0.A4.X.a3,D.int .u32 a.1.A0.A4.X.a4,D.int .u32 a.1.A0.A4.X.a5,D.int .u32 a.1.A0.A4.X.a6,D.int .u32 a.1.A0.A4.X.a7,D.int .u32 a.1.A0.A4.X.a8,D.int .u32 a.1.A0.A4.X.a9,D.int .u32 a.1.A0.A4.X.a10,D.int .u32 a.1.A0.A4.X.a11,D.int .u32 a.1.A0.A4.X.a12,D.int .u32 a.1.A0.A4.X.a13,D.int .u32 a.1.A0.A4.X.a14,D.int .u32 a.1.A0.A4.X.a15,D.int .u32 a.1.A0.A4.Pc,D.int .u32 a.1.A0.A4.B3.a0,D.int .u32 a.1.A0.A4.B3.a1,D.int .u32 a.1.A0.A4.B3.a2,D.int .u32 a.1.A0.A4.B3.a3,D.int .u32 a.1.A0.A4.B3.a4,D.int .u32 a.1.A0.A4.B3.a5,D.int .u32 a.1.A0.A4.B3.a6,D.int .u32 a.1.A0.A4.B3.a7] [D.int .u32 b.1.A4.X.a0,D.int .u32 b.1.A4.X.a1,D.int .u32 b.1.A4.X.a2,D.int .u32 b.1.A4.X.a3,D.int .u32 b.1.A4.X.a4,D.int .u32 b.1.A4.X.a5,D.int .u32 b.1.A4.X.a6,D.int .u32 b.1.A4.X.a7,D.int .u32 b.1.A4.X.a8,D.int .u32 b.1.A4.X.a9,D.int .u32 b.1.A4.X.a10,D.int .u32 b.1.A4.X.a11,D.int .u32 b.1.A4.X.a12,D.int .u32 b.1.A4.X.a13,D.int .u32 b.1.A4.X.a14,D.int .u32 b.1.A4.X.a15,D.int .u32 b.1.A4.Pc,D.int .u32 b.1.A4.B3.a0,D.int .u32 b.1.A4.B3.a1,D.int .u32 b.1.A4.B3.a2,D.int .u32 b.1.A4.B3.a3,D.int .u32 b.1.A4.B3.a4,D.int .u32 b.1.A4.B3.a5,D.int .u32 b.1.A4.B3.a6,D.int .u32 b.1.A4.B3.a7])=false:=λa b e=>by
   rw[e];simp[eqs,eq1]
  have rcv:∀{l:List Int},i<(l.length:Int)->(Nat.beq 1 1&&bJ 0 1&&decide (0<=i/\i<(l.length:Int)))=true:=λh=>by simp[bJ];omega
  have page:∀f:Int,0<=f->f<16->Q4y x5.Mem f/\(f<8->(Q12 x5.Mem f).2=true)/\(0<=f->f<((8:Nat):Int)->(Q12 x5.Mem f).1.length=128):=λf f0 f1=>⟨(Tree.pp (Qwl g.ok.mem f)).1,λh8=>(Tree.pp (Qrs g.ok.mem f0 (show f<((8:Nat):Int) from h8))).2.2,λa b=>(Z01 g.ok.mem a b).1⟩
  have ev:∀n:Int,Qbf n/\U (Qh2 n).N:=λn=>⟨(Tree.pp (Zhi n)).1,xk n⟩
  refine w_br (λhq=>w_cn (rcv (oY hq)) (w_an (Qhy (by decide)) (w_lv λx7 h7=>?_))) λ_=>w_br (λhq=>w_cn (rcv (oY hq)) (w_an (ev _).1 (w_lv λx10 h10=>event31 v2 x10 (h10▸(ev _).2) λq S' k hs hf=>w_br (λhb=>by simp at hb) λ_=>?_))) λ_=>?_
  ·obtain⟨r0,r1⟩:=Z21 (n:=order.getD i.toNat 0) (k:=16) (by decide) (by decide)
   rw[<-h7]at r0 r1
   obtain⟨p1,p2,p3⟩:=page x7 r0 r1
   refine w_an p1 (w_lv λx8 h8=>Q0e (Z2h v2.ok (c:={Frame:=x7,C5:=x8.1}) λa b=>by rw[h8];exact p3 a b) λx9 h9=>?_)
   obtain⟨s1,s2,_,_,s5⟩:=Zkc v2 (c:={Frame:=x7,C5:=x8.1}) (by rw[h8]) h9
   have s2:x9.1.B4<=4*i:=by omega
   have e8:x9.2=true->(!x8.2)=false:=λe=>by rw[h8,p2 (s5 e).2];rfl
   clear h9
   obtain⟨q0,k0⟩:=x9
   have s1:Sim q0 S x5.Mem:=s1
   have s2:q0.B4<=4*i:=s2
   have e8:k0=true->(!x8.2)=false:=e8
   refine w_br (λhk=>w_br (λhk2=>by rw[e8 hk]at hk2;cases hk2) λ_=>?_) λ_=>?_
   all_goals
    refine w_br (λhq=>w_cn (rcv (oY hq)) (w_an (ev _).1 (w_lv λx10 h10=>event31 s1 x10 (h10▸(ev _).2) λq S' k hs hf=>w_br (λhb=>by simp at hb) λ_=>?_))) λ_=>?_
   all_goals
    first
     |(have hs':=hs;have hF:_<=4*i:=fY (fZ hf) s2)
     |(have hs':=s1;have hF:=s2)
    refine Q0e (Zc6 hs'.ok) λx15 h15=>?_
    have h15:x15=Qoh _:=h15
    subst h15
    refine w_lp (inv:=I31 _ x5.Mem (4*i)) (μ:=Q1y kind prog steps order events (i,S,p)) (Zha hs' hF) (cL _) (λv1 hv1=>?_)
    obtain⟨f,mi,k,r⟩:=v1
    have hr:=hv1.1
    have hrf:=hv1.2.2.2.2.2.1
    have hr3:=hv1.2.2.1
    have hr4:=hv1.2.2.2.1
    have hr5:=hv1.2.2.2.2.1
    dsimp only at hr hrf hr3 hr4 hr5
    cases mi
    ·exact w_br (λhb=>by cases hb) λ_=>tail31 hr (Za1 hr3.symm) (λp' s' a b=>nx (q:=r) (by omega) p' s' a b) cpu
    ·have hk:=end31 hv1
     refine w_br (λ_=>w_br (λ_=>Zgt hr hv1 (by omega) hk λp' hp'=>⟨hp',?_⟩) λhb=>absurd (dY hk) (by rw[hb];decide)) λhb=>by cases hb
     unfold Q1y
     dsimp only
     rw[w64 (by omega) (by omega)];omega
  ·have hs':=hs
   have hF:_<=4*i:=fY (fZ hf) v3
   refine Q0e (Zc6 hs'.ok) λx15 h15=>?_
   have h15:x15=Qoh _:=h15
   subst h15
   refine w_lp (inv:=I31 _ x5.Mem (4*i)) (μ:=Q1y kind prog steps order events (i,S,p)) (Zha hs' hF) (cL _) (λv1 hv1=>?_)
   obtain⟨f,mi,k,r⟩:=v1
   have hr:=hv1.1
   have hrf:=hv1.2.2.2.2.2.1
   have hr3:=hv1.2.2.1
   have hr4:=hv1.2.2.2.1
   have hr5:=hv1.2.2.2.2.1
   dsimp only at hr hrf hr3 hr4 hr5
   cases mi
   ·exact w_br (λhb=>by cases hb) λ_=>tail31 hr (Za1 hr3.symm) (λp' s' a b=>nx (q:=r) (by omega) p' s' a b) cpu
   ·have hk:=end31 hv1
    refine w_br (λ_=>w_br (λ_=>Zgt hr hv1 (by omega) hk λp' hp'=>⟨hp',?_⟩) λhb=>absurd (dY hk) (by rw[hb];decide)) λhb=>by cases hb
    unfold Q1y
    dsimp only
    rw[w64 (by omega) (by omega)];omega
  ·have hs':=v2
   have hF:=v3
   refine Q0e (Zc6 hs'.ok) λx15 h15=>?_
   have h15:x15=Qoh _:=h15
   subst h15
   refine w_lp (inv:=I31 _ x5.Mem (4*i)) (μ:=Q1y kind prog steps order events (i,S,p)) (Zha hs' hF) (cL _) (λv1 hv1=>?_)
   obtain⟨f,mi,k,r⟩:=v1
   have hr:=hv1.1
   have hrf:=hv1.2.2.2.2.2.1
   have hr3:=hv1.2.2.1
   have hr4:=hv1.2.2.2.1
   have hr5:=hv1.2.2.2.2.1
   dsimp only at hr hrf hr3 hr4 hr5
   cases mi
   ·exact w_br (λhb=>by cases hb) λ_=>tail31 hr (Za1 hr3.symm) (λp' s' a b=>nx (q:=r) (by omega) p' s' a b) cpu
   ·have hk:=end31 hv1
    refine w_br (λ_=>w_br (λ_=>Zgt hr hv1 (by omega) hk λp' hp'=>⟨hp',?_⟩) λhb=>absurd (dY hk) (by rw[hb];decide)) λhb=>by cases hb
    unfold Q1y
    dsimp only
    rw[w64 (by omega) (by omega)];omega
 ·refine Q0e (qT v2.ok 32) λx85 h85=>?_
  have pl:x85.length<=1000:=by
   rw[h85];unfold Zls
   rw[bD,fU]
   have:(ksF p p.A7.length).length<=p.A7.length:=vS p _
   have:=v2.ok.pres
   omega
  refine Q0e (Z99 v2 pl) λx86 h86=>?_
  obtain⟨a1,_,a3,a4⟩:=h86
  have all:∀f,f<8->prs x86 f:=λf hf=>fI λhn=>by
   have h0:¬prs p f:=λe=>hn (a3 f e)
   have:=(vJ v2.ok hf h0).1
   rw[<-h85]at this
   exact hn (by simpa using a4 (f:Int) this (by omega) (by omega))
  refine Q0e (xT a1.ok) λx87 h87=>?_
  have e87:x87=true:=h87.2 all
  subst e87
  refine w_br (λ_=>?_) λhb=>by cases hb
  have e:=zah a1 all
  rw[e]
  have ml:=v2.g.len
  refine Q0e (zab S (by omega)) λx88 h88=>?_
  subst h88
  exact w_br (λ_=>w_an Zac (w_lv λx e=>by show x=true;rw[e,Z3l])) λhb=>by cases hb

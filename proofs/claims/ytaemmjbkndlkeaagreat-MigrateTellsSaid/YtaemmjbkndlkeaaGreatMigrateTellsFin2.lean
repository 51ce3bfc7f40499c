import Derived.Test.YtaemmjbkndlkeaaGreatMigrateTellsFin1
open Nat renaming le_refl->aX,beq->bX,blt->bN,zero_le->bC,lt_succ_self->cN,not_lt_zero->fT
open List renaming drop_eq_getElem_cons->aO,getElem?_eq_getElem->aI,length_cons->dD,drop_eq_nil_of_le->aN,append_assoc->aM,singleton_append->eZ,replicate->cO,set_append_right->fB,replicate_succ->fC,replicate_succ'->fD,getD->aV,length_singleton->cY,length_replicate->cS,eq_of_mem_replicate->fE,ext_getElem->bR,mem_append_left->fF,getD_eq_getElem?_getD->cX,getElem?_eq_none->aJ,getElem_mem->fG,mem_cons_self->fH,mem_cons_of_mem->fI,length_set->dC,length_map->fJ,length_take->aD,mem_append_right->fK,getElem?_replicate->fL,foldl_append->fO,take_add_one->fP,set->dB,take_of_length_le->fQ,getElem_map->bS,getElem_range->fR,append_nil->cM
open Int renaming toNat_natCast->dX,le_refl->eY,tmod_eq_emod_of_nonneg->dZ,tdiv_eq_ediv_of_nonneg->eO,toNat->dA,NonNeg->fS,natCast_inj->fU
open Bool renaming cond_false_right->fA,false_ne_true->fM,true_eq_false->fN
open BitVec renaming ofInt->dR
set_option maxRecDepth 100000
set_option linter.all false
namespace Go.Proofs.YtaemmjbkndlkeaaGreat
open Go Go.GD
open Go.IntKind(wrap i64 u32 wrap_i64 wrap_u64)
theorem iFN.{u}{c:Prop}{h:Decidable c}(g:¬c){α:Sort u}{t e:α}:ite c t e=e:=if_neg g
theorem iFP.{u}{c:Prop}{h:Decidable c}(g:c){α:Sort u}{t e:α}:ite c t e=t:=if_pos g
variable {Dd:List Bool}{P f i k n:Nat}{a b fs:List Int}{clock host ej:Int}{es:List D}{g:cj}{l xs:List ep}{nc:Bool}{x:ep}
def fi:List Bool->Int->List Int
 |[],_=>[]
 |b::l,k=>if b=true then k::fi l (k+1)else fi l (k+1)
theorem P5:∀(l:List Bool) (k:Int),(fi l k).length<=l.length
 |[],_=>aX _
 |b::l,k=>by
  have:=P5 l (k+1);simp only[fi];split<;>(try simp)<;>omega
theorem J8:∀{l:List Bool} {k x:Int},x∈fi l k->k<=x/\x<k+l.length
 |[],_,_,h=>by simp[fi]at h
 |b ::l,k,x,h=>by
  simp only[fi]at h;have go:x∈fi l (k+1)->k<=x/\x<k+(b::l).length:=λh=>by
   have:=J8 h;simp;omega
  split at h
  ·rcases List.mem_cons.1 h with e|e
   ·subst e;simp;omega
   ·exact go e
  ·exact go h
theorem zk{l:List Bool}(h:i<l.length):l.drop i=l.getD i false::l.drop (i+1):=by
 rw[aO h];show _=(l[i]?).getD false::_;rw[aI h];rfl
theorem Zt6{l:List Bool}(h:i<l.length)(hb:l.getD i false=true)(k:Int):fi (l.drop i) k=k::fi (l.drop (i+1)) (k+1):=by
 rw[zk h,fi,iFP hb]
theorem yk{l:List Bool}(h:i<l.length)(hb:l.getD i false=false)(k:Int):fi (l.drop i) k=fi (l.drop (i+1)) (k+1):=by
 rw[zk h,fi,iFN (by rw[hb];simp)]
theorem wi{x:Int}(h0: -9223372036854775808<=x)(h1:x<=9223372036854775807):wrap .i64 x=x:=by rw[wrap_i64];omega
theorem lh{i:Nat}(h:(i:Int)<9223372036854775807):wrap .i64 ((i:Int)+1)=((i+1:Nat):Int):=by rw[wi (by omega) (by omega)];omega
theorem jb(h:i<n):(bX 1 1&&bN 0 1&&decide (0<=(i:Int)/\(i:Int)<(n:Int)))=true:=by
 rw[dY (by omega)];rfl
theorem xar{n:Int}{l:List Bool}(h0:0<=n)(hb:n+l.length<=1000000000000):(P6 n l).w λr=>r=(n+(fi l 0).length,l):=by
 unfold P6;refine ed (inv:=λz:Int×Int=>∃i:Nat,z.1=i/\i<=l.length/\0<=z.2/\z.2<=n+i/\z.2+(fi (l.drop i) i).length=n+(fi l 0).length) (μ:=VP n l) ⟨0,rfl,bC _,h0,by simp,by simp⟩ (cN _) ?_;rintro⟨_,x⟩ ⟨i,rfl,hi,nT,hx,hs⟩;simp only at nT hx hs;refine aa (λbc=>?_) (λe6=>?_)
 ·have bc:i<l.length:=by simpa using bc
  have ew:=lh (i:=i) (by omega);refine ar (jb bc) (aa (λsA=>?_) (λsA=>?_))
  ·rw[dX]at sA;refine ai λy hy=>?_;have hy:y=(true,wrap .i64 (x+1)):=hy;rw[wi (by omega) (by omega)]at hy;subst hy;refine aa (λh=>by cases h) (λ_=>dj ?_);refine⟨⟨i+1,ew,bc,by show 0<=x+1;omega,by show x+1<=_;omega,?_⟩,?_⟩
   ·rw[Zt6 bc sA]at hs;simp only[dD]at hs;show x+1+((fi (l.drop (i+1)) ((i+1:Nat):Int)).length:Int)=_;have:((i+1:Nat):Int)=(i:Int)+1:=by omega
    rw[this];omega
   ·simp only[VP,ew];omega
  ·rw[dX]at sA;refine dj ⟨⟨i+1,ew,bc,nT,by show x<=_;omega,?_⟩,?_⟩
   ·rw[yk bc sA]at hs;simpa using hs
   ·simp only[VP,ew];omega
 ·have e6:l.length<=i:=by simpa using e6
  rw[aN e6]at hs;refine aw ?_;show((x,l):Int×List Bool)=_;rw[<-hs];simp[fi]
theorem xO{c:fc}(hb:c.A6.length<=1000000000000):Qhy c/\VQ c=(fi c.A6 0).length:=by
 have h1:=Tree.pp (xar (n:=0) (l:=c.A6) (eY _) (by omega));have h4:(P7 c).w λr=>r=(fi c.A6 0).length:=by
  unfold P7;refine ai λ_ _=>bz h1.1 (ai λy hy=>aw ?_);have hy:y=VR 0 c.A6:=hy;have e:VR 0 c.A6=(0+((fi c.A6 0).length:Int),c.A6):=h1.2;rw[hy,e];simp
 exact Tree.pp h4
theorem Dj{m:List Int}(hl:m.length=32*P)(hp:P<=32):jX m=P:=by
 simp only[jX,Hx,Tree.m,hl];have e1:Int.tmod ((32*P:Nat):Int) 32=0:=by rw[dZ (by omega)];omega
 have e2:Int.tdiv ((32*P:Nat):Int) 32=P:=by rw[eO (by omega)];omega
 rw[e1,e2,dN (by omega),wi (by omega) (by omega)];rfl
theorem Zpp{m:List Int}(h:jX m=P)(h1:1<=P):m.length=32*P/\P<=32:=by
 simp only[jX,Hx,Tree.m]at h;rw[dZ (by omega),eO (by omega)]at h
 cases hb:(((m.length:Int)%32 !=0):Bool)with
 |true=>rw[hb]at h;simp only[cond_true]at h;omega
 |false=>
  rw[hb]at h;simp only[cond_false]at h;have hb:(m.length:Int)%32=0:=by simpa using hb
  cases hc:decide ((m.length:Int)>1024)with
  |true=>rw[hc]at h;simp only[cond_true]at h;omega
  |false=>
   rw[hc]at h;simp only[cond_false]at h;have hc:(m.length:Int)<=1024:=by simpa using hc
   rw[wi (by omega) (by omega)]at h;omega
theorem Zvw{m:List Int}(hl:m.length=32*P)(hp:P<=32){f:Int}(f0:0<=f)(f1:f<P):P8 m f:=by
 show(EG m f).p;have hh:FE m f=true:=by
  simp only[FE,Md,Tree.m,eu,Dj hl hp];rw[dY (by omega:f>=0),dY f1];rfl
 have e1:wrap .i64 (f*32)=f*32:=wi (by omega) (by omega);have e2:wrap .i64 (f*32+32)=f*32+32:=wi (by omega) (by omega);unfold EG;refine ai λx hx=>?_;rw[hh]at hx;subst hx;refine aa (λh=>by cases h) (λ_=>?_);rw[e1,e2];refine ar (by rw[dY (by rw[hl];omega)];rfl) (bz ?_ (ai λ_ _=>aw trivial));show List.length _<=1000000000000;simp;omega
def kp(m l:List Int):List kz:=l.map λf=>⟨f,(jO m f).1⟩
theorem qas{m:List Int}(hl:m.length=32*P)(hp:P<=32){d:List Bool}(hd:d.length=P):(P9 m [] d).w λr=>r=(m,kp m (fi d 0),d):=by
 unfold P9;refine ed (inv:=λz:Int×List Int×List kz=>∃i:Nat,z.1=i/\i<=d.length/\z.2.1=m/\z.2.2.length<=i/\z.2.2++kp m (fi (d.drop i) i)=kp m (fi d 0)) (μ:=Qe m [] d) ⟨0,rfl,bC _,rfl,by simp,by simp⟩ (cN _) ?_;rintro⟨_,_,x⟩ ⟨i,rfl,hi,hm,hx,hs⟩;simp only at hm hx hs;subst hm;refine aa (λbc=>?_) (λe6=>?_)
 ·have bc:i<d.length:=by simpa using bc
  have ew:=lh (i:=i) (by omega);refine ar (jb bc) (aa (λsA=>?_) (λsA=>?_))
  ·rw [dX]at sA;refine bz (?_:(VS i _ x).p) (ai λy hy=>?_)
   ·exact bz (Zvw hl hp (by omega) (by omega)) (ai λ_ _=>ar (dY (by omega)) (aw trivial))
   ·have hy:y=(true,_,x++[⟨(i:Int),(jO _ i).1⟩]):=hy;subst hy;refine aa (λh=>by cases h) (λ_=>dj ?_);refine⟨⟨i+1,ew,bc,rfl,by simp;omega,?_⟩,?_⟩
    ·rw[Zt6 bc sA]at hs;simp only[aM,eZ];rw[<-hs];simp[kp]
    ·simp only[Qe,ew];omega
  ·rw[dX]at sA;refine dj ⟨⟨i+1,ew,bc,rfl,by show x.length<=_;omega,?_⟩,?_⟩
   ·rw[yk bc sA]at hs;simpa using hs
   ·simp only[Qe,ew];omega
 ·have e6:d.length<=i:=by simpa using e6
  rw[aN e6]at hs;refine aw ?_;show((_,x,d):List Int×List kz×List Bool)=_;rw[<-hs];simp[fi,kp]
def pV(c:fc)(m:List Int):fc×List kz:=
 if pW c=true/\c.B5<=10/\jX m=c.A6.length then
  ({A6:=cO c.A6.length false,B5:=wrap .i64 (c.B5+1),D6:=wrap .i64 (c.D6+(fi c.A6 0).length)},kp m (fi c.A6 0))
 else(c,[])
theorem Zdc{c:fc}(h:pW c=true):1<=c.A6.length/\c.A6.length<=32/\0<=c.B5/\c.B5<=11/\0<=c.D6/\c.D6<=352:=by
 simp only[pW,VT,Tree.m,fA,aE,decide_eq_true_eq]at h;omega
theorem Zoh{c:fc}:pW c=decide (1<=c.A6.length/\c.A6.length<=32/\0<=c.B5/\c.B5<=11/\0<=c.D6/\c.D6<=352):=by
 cases h:pW c with
 |true=>exact(dY (Zdc h)).symm
 |false=>
  refine(dN λhh=>?_).symm;have:pW c=true:=by
   simp only[pW,VT,Tree.m,fA,aE,decide_eq_true_eq];omega
  rw[h]at this;cases this
theorem Z9{c:fc}(hb:c.A6.length<=1000000000000):Qbu c/\QA c=c:=by
 refine⟨?_,rfl⟩;show(VU c).p;exact bz (show c.A6.length<=140737488355328 by omega) (ai λ_ _=>aw trivial)
theorem vk{c:fc}(hb:c.A6.length<=1000000000000):Qk4 c ej/\HT c ej=(pW c&&(decide (((fi c.A6 0).length:Int)<=ej)||decide (c.B5>=10))):=by
 have h:(QB c ej).w λr=>r=(pW c&&(decide (((fi c.A6 0).length:Int)<=ej)||decide (c.B5>=10))):=by
  unfold QB;refine ai λv hv=>?_;have hv:v=pW c:=hv;subst hv;refine aa (λh1=>?_) (λh1=>aw ?_)
  ·obtain⟨g1,g2⟩:=xO hb;refine bz g1 (ai λx hx=>?_);have hx:x=VQ c:=hx;rw[g2]at hx;subst hx;rw[h1];refine aa (λh2=>aw ?_) (λh2=>aw ?_)
   ·rw[h2];rfl
   ·rw[h2];simp
  ·rw[h1];rfl
 exact Tree.pp h
theorem xaN(h0:1<=P)(h1:P<=32):Qpp P/\Z57 P=cO (32*P) 0:=by
 have h:(QC P).w λr=>r=cO (32*P) 0:=by
  unfold QC;have e:wrap .i64 ((P:Int)*32)=(P:Int)*32:=wi (by omega) (by omega);refine aa (λh=>by simp at h;omega) (λ_=>aa (λh=>by simp at h;omega) (λ_=>?_));rw[e];refine ar (by rw[dY (by omega)];rfl) (aw ?_)
  congr 1;omega
 exact Tree.pp h
theorem zas(h0:1<=P)(h1:P<=32):Qhj P/\Qra P=(⟨cO P true,0,0⟩,true):=by
 have h:(QD P).w λr=>r=(⟨cO P true,0,0⟩,true):=by
  unfold QD;refine aa (λh=>by simp at h;omega) (λ_=>aa (λh=>by simp at h;omega) (λ_=>ar (by rw[dY (by omega)];rfl) ?_));refine ed (inv:=λz:Int×List Bool=>∃i:Nat,z.1=i/\i<=P/\z.2=cO i true++cO (P-i) false) (μ:=Qec P) ⟨0,rfl,bC _,by simp⟩ (cN _) ?_;rintro⟨_,x⟩ ⟨i,rfl,hi,hx⟩;simp only at hx;refine aa (λbc=>?_) (λe6=>?_)
  ·have bc:i<P:=by simpa using bc
   have ew:=lh (i:=i) (by omega);have hl:x.length=P:=by rw[hx];simp;omega
   refine ar (by rw[hl];exact jb bc) (dj ⟨⟨i+1,ew,bc,?_⟩,?_⟩)
   ·show x.set (dA (i:Int)) true=_;rw[hx,dX,fB _ _ (by simp),show P-i=(P-(i+1))+1 by omega,fC,fD];simp
   ·simp only[Qec,ew];omega
  ·have e6:P<=i:=by simpa using e6
   have:i=P:=by omega
   subst this;refine aw ?_;show(({A6:=x,B5:=(0:Int),D6:=(0:Int)}:fc),true)=_;rw[hx];simp
 exact Tree.pp h
def nn:List Bool->List Int->List Bool
 |d,[]=>d
 |d,f::l=>nn (if 0<=f/\f<d.length then d.set f.toNat true else d) l
theorem Z68:∀(l:List Int) (d:List Bool),(nn d l).length=d.length
 |[],_=>rfl
 |f::l,d=>by simp only[nn];rw[Z68];split<;>simp
theorem qaO{c:fc}{l:List Int}(hb:c.A6.length<=1000000000000)(hl:l.length<=1000000000000):Qdw c l/\VV c l={c with A6:=nn c.A6 l}:=by
 have h:(QE c l).w λr=>r={c with A6:=nn c.A6 l}:=by
  unfold QE;refine bz (Z9 hb).1 (ai λx hx=>?_);have hx:x=QA c:=hx;rw[(Z9 hb).2]at hx;subst hx;refine ed (inv:=λz:Int×List Bool=>∃i:Nat,z.1=i/\i<=l.length/\nn z.2 (l.drop i)=nn x.A6 l) (μ:=M6 x l) ⟨0,rfl,bC _,by simp⟩ (cN _) ?_;rintro⟨_,d⟩ ⟨i,rfl,hi,hd⟩;simp only at hd;refine aa (λbc=>?_) (λe6=>?_)
  ·have bc:i<l.length:=by simpa using bc
   have ew:=lh (i:=i) (by omega);have lZ:l.drop i=l.getD i 0::l.drop (i+1):=by
    rw[aO bc];congr 1;simp[aV,bc]
   rw[lZ,nn]at hd;have mx:M6 x l (wrap .i64 ((i:Int)+1),d)<M6 x l ((i:Int),d):=by simp only[M6,ew];omega
   have skip:¬(0<=l.getD i 0/\l.getD i 0<d.length)->(∃j:Nat,wrap .i64 ((i:Int)+1)=j/\j<=l.length/\nn d (l.drop j)=nn x.A6 l):=λhn=>by
    rw[iFN hn]at hd;exact⟨i+1,ew,bc,hd⟩
   refine ar (jb bc) ?_;refine aa (λh1=>?_) (λh1=>dj ⟨skip (λh=>oN h1 h.1),mx⟩);have h1:0<=l.getD i 0:=oY h1;refine aa (λh2=>?_) (λh2=>dj ⟨skip (λh=>oN h2 h.2),mx⟩);have h2:l.getD i 0<d.length:=oY h2;refine ar (Bool.and_eq_true_iff.2 ⟨rfl,dY ⟨h1,h2⟩⟩) (dj ⟨⟨i+1,ew,bc,?_⟩,?_⟩)
   ·rw[iFP ⟨h1,h2⟩]at hd;exact hd
   ·simp only[M6,ew];omega
  ·have e6:l.length<=i:=by simpa using e6
   rw[aN e6,nn]at hd;refine aw ?_;show({A6:=d,B5:=x.B5,D6:=x.D6}:fc)=_;rw[hd]
 exact Tree.pp h
attribute [local irreducible] L9
def Tree.V{β:Type}(t:Tree β)(W:β->Prop):Prop:=W t.m
section
variable {α β:Type} {W:β->Prop} {c:Bool} {t e:Tree β}
theorem mW{x:β}(h:W x):Tree.V (.lf x) W:=h
theorem J9{f:Prop}{x:β}{hf:f}(h:W x):Tree.V (.nx f x hf) W:=h
theorem lU(h:c=true->Tree.V t W)(g:c=false->Tree.V e W):Tree.V (.br c t e) W:=by
 cases c
 ·exact g rfl
 ·exact h rfl
theorem Dk(g:Tree.V t W):Tree.V (.cn c t) W:=g
theorem oq{p:Prop}(g:Tree.V t W):Tree.V (.an p t) W:=g
theorem my{x:α}{k:α->Tree β}(h:∀y,y=x->Tree.V (k y) W):Tree.V (.lv x k) W:=h x rfl
theorem FV{d:Inhabited β}{n:Nat}{f:Prop}{x:α}{k:α->Tree (α⊕β)}{hf:f}{inv:α->Prop}{μ:α->Nat}(h:inv x)(hn:μ x<n)(g:∀y,inv y->Tree.V (k y) (Sum.elim (λz=>inv z/\μ z<μ y) W)):Tree.V (.lp d n f x k hf) W:=by
 refine vC (P:=inv) (R:=W) (μ:=μ) (λa ha=>?_) n x h hn;have:=g a ha;unfold Tree.V at this
 revert this
 cases(k a).m with
 |inl z=>exactλh=>h
 |inr b=>exactλh=>h
end
structure gy(P:Nat)(m:bj):Prop where
 ok:sw P m
 may:BO m=true
section
variable {P:Nat} {m:bj} (h:gy P m)
include h
theorem gy.v:HO m:=⟨h.ok.oV,h.ok.mem.u,h.ok.mV,h.ok.Ae,h.ok.target,h.ok.uu⟩
theorem gy.s:Bd P m:=⟨h.ok.oV,h.ok.mem,h.ok.mV,h.ok.Ae,h.ok.target.1,h.ok.target.2⟩
theorem gy.QF:Ag m=true:=(Zv h.v).symm.trans h.may
theorem Zo7:HP m=false↔m.B8=false/\J5 m=false/\m.B9<1152921504606846976:=by
 simp only[HP,J6,Tree.m,eu,h.QF]
 cases m.B8<;>cases J5 m<;>simp
theorem zO(hs:HP m=false)(hc:U clock):gy P (Bi m clock).2/\(Bi m clock).2.B9=m.B9+1/\(Bi m clock).1.length<=1:=by
 have o:=Tree.post _ (Y2 h.ok hc)
 change(Bi m clock).1.length<=1/\sw P (Bi m clock).2/\(Bi m clock).2.B9=wrap .u64 (m.B9+1)at o
 have s:=(Tree.pp (ZI h.s h.ok.uu hc)).2
 change _/\Good P m (BW m clock).1 at s
 have e:BW m clock=((Bi m clock).2,(Bi m clock).1):=by rw[Znc h.v,Zv2,hs];rfl
 rw[e]at s;have hct:=((Zo7 h).1 hs).2.2;have h0:=h.ok.uu;refine⟨⟨o.2.1,s.2.may h.may⟩,?_,o.1⟩;rw[o.2.2,wrap_u64];omega
end
theorem Zwp{i:List Int}(hu:∀w∈i,U w)(hl:i.length<=256):gy 8 (lT 8 4 i).1/\(lT 8 4 i).1.B9=0:=by
 obtain⟨a,b⟩:=(Tree.pp (CQ i hu hl)).2
 change sw 8 (lT 8 4 i).1 at a
 refine⟨⟨a,?_⟩,b⟩;have e:(lT 8 4 i).2=true:=by
  have w:i64.wrap (8*32)=256:=by decide
  simp only[lT,Hw,Tree.m,w,eu,dN (show¬((i.length:Int)>256) by omega)]
  rfl
 obtain⟨a1,a2,a3,a4,a5,a6⟩:=xaV 8 4 i e;exact(qaW _ 8 4 a1 a2 a3 a4 a5 _ a6).1
theorem ql{m:bj}(h:gy 8 m)(hc:m.B9<=87):Tree.V (JE m [] 87) (λx=>x.2.2.2=0->gy 8 x.1/\x.1.B9<=87):=by
 have z:∀{k:Int} {p:Prop},k≠0->k=0->p:=λa b=>absurd b a;unfold JE;refine my λx0 _=>lU (λ_=>mW (z (by decide))) λ_=>lU (λ_=>mW (z (by decide))) λ_=>lU (λ_=>mW (z (by decide))) λ_=>oq (my λx1 _=>lU (λ_=>mW (z (by decide))) λ_=>oq (my λx2 hx=>?_));rw[xab]at hx;refine FV (inv:=λv:bj×List ir=>gy 8 v.1/\v.1.B9<=87) (μ:=Y6 m [] 87) ⟨by rw[hx];exact h,by rw[hx];exact hc⟩ (cN _) λv0 ⟨a1,a3⟩=>?_;have a2:=a1.ok.uu;refine lU (λhb=>lU (λhm=>?_) (λ_=>mW λ_=>⟨a1,a3⟩)) (λ_=>mW λ_=>⟨a1,a3⟩);have hb:=oY hb;have hm:=oY hm;refine FV (inv:=λ_=>True) (μ:=Y7 m [] 87 v0) trivial (cN _) λv1 _=>?_;refine lU (λ_=>mW λ_=>⟨a1,a3⟩) λhh=>oq (my λx3 h3=>lU (λ_=>mW λ_=>⟨a1,a3⟩) λhi=>oq (my λx4 _=>lU (λ_=>mW (z (by decide))) λ_=>oq (my λx5 h5=>Dk (J9 ?_))));obtain⟨b1,b2,_⟩:=zO a1 ((Zo7 a1).2 ⟨hh,h3.symm.trans hi,hm⟩) (clock:=0) gm;rw[<-h5]at b1 b2;show(gy 8 x5.2/\x5.2.B9<=87)/\(87-x5.2.B9).toNat<(87-v0.1.B9).toNat;exact⟨⟨b1,by omega⟩,by omega⟩
theorem Znn(kind:Int)(l:List Int)(hl:l.length*8<=reachBytes)(h40:l.length<=60):gy 8 (VW kind l)/\(VW kind l).B9<=87:=by
 show Tree.V (Q8 kind l) (λm=>gy 8 m/\m.B9<=87);have code:=(Tree.pp (yd l hl)).2
 change((VX l).length:Int)=l.length/\∀w∈VX l,U w at code
 obtain⟨b1,b2⟩:=code;unfold Q8;refine oq (my λx0 nT=>lU (λ_=>oq (my λx1 e1=>?_)) (λhk=>?_))
 ·have eb:x1.1=j8:=by rw[e1];rfl
  obtain⟨q1,q2⟩:j8.length<=160/\∀w∈j8,U w:=ye;refine FV (inv:=λv:List Int=>v.length<=160/\v=j8++cO (v.length-j8.length) 0) (μ:=Qg kind l) ⟨by rw[eb];exact q1,by rw[eb];simp⟩ (cN _) λv0 ⟨a1,a2⟩=>?_;have a3:j8.length<=v0.length:=by rw[a2,lA];omega
  refine lU (λhb=>?_) (λhb=>?_)
  ·have hb:=oY hb;refine Dk (J9 ?_);show(_/\_)/\(_:Nat)<_;refine⟨⟨by rw[lA,cY];omega,?_⟩,by show 160-(v0++[0]).length<160-v0.length;rw[lA,cY];omega⟩;show v0++[0]=j8++cO ((v0++[0]).length-j8.length) 0;rw[lA,cY,show v0.length+1-j8.length=(v0.length-j8.length)+1 by omega,fD,<-aM,<-a2]
  ·have hb:=oN hb;have hv:v0=ur:=by
    unfold ur;rw[show(160:Nat)=v0.length by omega];exact a2
   subst hv;have hp:=xf;have Y8:∀w∈ur,U w:=λw hw=>(List.mem_append.1 hw).elim (q2 w) (CO _ w);refine oq (my λx2 e2=>Dk ?_);rw[<-e2]at b1 b2;have hu:∀w∈ur++x2,U w:=λw hw=>(List.mem_append.1 hw).elim (Y8 w) (b2 w);have hlen:(ur++x2).length<=256:=by rw[lA];omega
   refine lU (λhb=>?_) (λhb=>?_)
   ·have hb:=oY hb;omega
   ·obtain⟨c1,c2⟩:=Zwp hu hlen;refine oq (my λx3 h3=>?_);rw[<-h3]at c1 c2;have rn:=ql c1 (by omega);refine lU (λ_=>oq (my λx4 hx=>mW ?_)) (λ_=>mW ⟨c1,by omega⟩);have e:x3=lT 8 4 (ur++(x2++cO (96-x2.length) 0)):=by
     rw[h3];have JF:(x2++cO (96-x2.length) (0:Int)).length=96:=by rw[lA,cS];omega
     refine qf _ _ hlen (by rw[lA,JF];omega) ?_;rw[lA,lA,JF,hp,aM,aM,aM,show 256-(160+96)=0 by omega,show 256-(160+x2.length)=96-x2.length by omega];simp
    have h0:x4.2.2.2=0:=by
     rw[hx,e];exact v8 _ (by rw[lA,cS];omega)
    exact(by rw[hx];exact rn:x4.2.2.2=0->gy 8 x4.1/\x4.1.B9<=87) h0
 ·have hk:=oN hk;refine oq (my λx2 e2=>Dk ?_);rw[<-e2]at b1 b2;refine lU (λhb=>?_) (λhb=>?_)
  ·have hb:=oY hb;omega
  ·obtain⟨c1,c2⟩:=Zwp b2 (by omega);refine oq (my λx3 h3=>?_);rw[<-h3]at c1 c2;exact lU (λh=>absurd (eq_of_beq h) (by omega)) (λ_=>mW ⟨c1,by omega⟩)
theorem FW{m:bj}(g:gy P m)(hc:U clock):gy P (BW m clock).1:=by
 have s:=(Tree.pp (ZI g.s g.ok.uu hc)).2
 change _/\Good P m (BW m clock).1 at s
 have k:=s.2.ok;exact⟨⟨k.oV,k.mem,k.mV,k.Ae,⟨k.target,k.given⟩,s.2.uu⟩,s.2.may g.may⟩
theorem Z9b{m:bj}(g:gy P m)(hc:U clock):VY m clock:=(Tree.pp (ZI g.s g.ok.uu hc)).1
theorem gy.lu{m:bj}(h:gy P m):dy P m.Mem:=h.ok.mem
theorem Zus{m:bj}(h:gy 8 m){M:List Int}(hM:dy 8 M):gy 8 {m with Mem:=M}:=by
 refine⟨⟨h.ok.oV,hM,h.ok.mV,h.ok.Ae,h.ok.target,h.ok.uu⟩,?_⟩;obtain⟨g1,g2,g3,g4,g5⟩:=(Ms m).1 h.may;have id:∀{p:Prop},p->p:=λh=>h;refine(Ms _).2 ⟨?_,g2,g3,g4,?_⟩
 ·show jX M≠0;rw[uv hM];decide
 ·exact JJ (m:=m) (P:=8) h.ok.mem hM id id id id id g5
theorem yO:dy 8 (cO 256 0):=⟨by simp,by decide,by decide,λw hw=>by rw[fE hw];exact gm⟩
theorem xas{s t:List Int}(hl:s.length<=1000000000000):VZ s t=true->s=t:=by
 have h:(HU s t).w λr=>r=true->s=t:=by
  unfold HU;refine aa (λ_=>aw λh=>by cases h) (λhe=>?_);have he:s.length=t.length:=by
   have:(s.length:Int)=t.length:=by simpa using he
   omega
  refine ed (inv:=λz:Int=>∃i:Nat,z=i/\i<=s.length/\∀j,j<i->s.getD j 0=t.getD j 0) (μ:=Ka s t) ⟨0,rfl,bC _,λj h=>by omega⟩ (cN _) ?_;rintro _ ⟨i,rfl,hi,hj⟩;refine aa (λbc=>?_) (λe6=>aw λ_=>?_)
  ·have bc:i<s.length:=by simpa using bc
   have ew:=lh (i:=i) (by omega);refine ar (jb bc) (ar (jb (by omega)) (aa (λ_=>aw λh=>by cases h) (λheq=>dj ⟨⟨i+1,ew,bc,λj EV=>?_⟩,by simp only[Ka,ew];omega⟩)));rw[dX]at heq;rcases Nat.lt_succ_iff_lt_or_eq.1 EV with h|h
   ·exact hj j h
   ·subst h;simpa using heq
  ·have e6:s.length<=i:=by simpa using e6
   refine bR he λj h1 h2=>?_;have:=hj j (by omega);simpa[aV,h1,h2]using this
 exact(Tree.pp h).2
theorem Z9p(ha:dy P a)(hb:dy P b):Qai a b/\(Bj a b).length<=P/\ ∀k:Nat,k<P->(k:Int)∈Bj a b\/(a.drop (k*32)).take 32=(b.drop (k*32)).take 32:=by
  have h:(Kb a b).w λr=>r.length<=P/\ ∀k:Nat,k<P->(k:Int)∈r\/(a.drop (k*32)).take 32=(b.drop (k*32)).take 32:=by
    have la:=ha.len;have lb:=hb.len;have hp:=ha.p2;unfold Kb;refine ai λx0 h0=>ai λx1 h1=> ?_;have h0:x0=P:=h0.trans (Dj la hp);have h1:x1=P:=h1.trans (Dj lb hp);subst h0;subst h1;refine aa (λh=>by simp at h) (λ_=> ?_);refine ed (inv:=λz:Int×List Int=> ∃i:Nat,z.1=i/\i<=P/\z.2.length<=i/\ ∀k:Nat,k<i->(k:Int)∈z.2\/(a.drop (k*32)).take 32=(b.drop (k*32)).take 32) (μ:=λz=>(P-z.1).toNat) ⟨0,rfl,bC _,by simp,λk h=>by omega⟩ (by simp only[Qct];omega) ?_;rintro⟨_,x⟩ ⟨i,rfl,hi,hx,hk⟩;simp only at hx hk;refine aa (λbc=> ?_) (λe6=>aw ?_)
    . have bc:i<P:=by simpa using bc
      have ew:=lh (i:=i) (by omega);have e1:wrap .i64 ((i:Int)*32)=((i*32:Nat):Int):=by rw[wi (by omega) (by omega)];omega
      have e2:wrap .i64 (((i+1:Nat):Int)*32)=((i*32+32:Nat):Int):=by rw[wi (by omega) (by omega)];omega
      simp only[ew,e1,e2,dX,show i*32+32-i*32=32 by omega];refine ar (by rw[dY (by omega)];rfl) (ar (by rw[dY (by omega)];rfl) (bz (show _<=_ by simp;omega) (ai λx2 h2=> ?_)));have h2:x2=VZ _ _:=h2;refine aa (λhn=>ar (dY (by omega)) (dj ⟨⟨i+1,rfl,bc,by simp;omega,λk wT=> ?_⟩,by omega⟩)) (λhn=>dj ⟨⟨i+1,rfl,bc,by show x.length<=_;omega,λk wT=> ?_⟩,by omega⟩)
      . rcases Nat.lt_succ_iff_lt_or_eq.1 wT with h|h
        . rcases hk k h with h|h
          . exact .inl (fF _ h)
          . exact .inr h
        . subst h;exact .inl (by simp)
      . rcases Nat.lt_succ_iff_lt_or_eq.1 wT with h|h
        . exact hk k h
        . subst h
          have:x2=true:=by simpa using hn
          exact .inr (xas (by simp;omega) (h2.symm.trans this))
    . have e6:P<=i:=by simpa using e6
      exact⟨by show x.length<=P;omega,λk wT=>hk k (by omega)⟩
  exact Tree.pp h
theorem V0:∀{l:List Int} {d:List Bool} {k:Nat},k<d.length->(d.getD k false=true\/(k:Int)∈l)->(nn d l).getD k false=true
 |[],d,k,_,h=>by
  rcases h with h|h
  ·exact h
  ·cases h
 |f :: l,d,k,hk,h=>by
  simp only[nn]
  by_cases hf:0<=f/\f<d.length
  ·rw [iFP hf];refine V0 (by simpa using hk) ?_
   by_cases e:f.toNat=k
   ·refine .inl ?_;subst e;simp[aV,hk]
   ·rcases h with h|h
    ·refine .inl ?_;rw[cX,List.getElem?_set_ne e,<-cX];exact h
    ·rcases List.mem_cons.1 h with h|h
     ·omega
     ·exact .inr h
  ·rw[iFN hf];refine V0 hk ?_;rcases h with h|h
   ·exact .inl h
   ·rcases List.mem_cons.1 h with h|h
    ·omega
    ·exact .inr h
theorem xl{j:Nat}(h:(a.drop (j/32*32)).take 32=(b.drop (j/32*32)).take 32):a.getD j 0=b.getD j 0:=by
 have e:=congrArg (λl=>l.getD (j%32) 0) h;have hm:j%32<32:=Nat.mod_lt _ (by decide);simp only[cX,List.getElem?_take,hm,if_true,List.getElem?_drop]at e;rw[show j/32*32+j%32=j by omega]at e;simpa only[cX]using e
theorem qac{m d:List Int}{b:Nat}(h:m.getD (b/4) 0=d.getD (b/4) 0):kv m b=kv d b:=by unfold kv;rw[h]
theorem zl{c:fc}{m:List Int}(hP:1<=P)(hm:dy P m)(hd:c.A6.length=P)(r0:0<=c.B5)(r1:c.B5<=10)(s0:0<=c.D6)(s1:c.D6<=352):pV c m=(⟨cO P false,c.B5+1,c.D6+(fi c.A6 0).length⟩,kp m (fi c.A6 0)):=by
 have:=P5 c.A6 0;have hP2:=hm.p2;unfold pV;rw[iFP ⟨by rw[Zoh];exact dY (by omega),r1,by rw[Dj (P:=P) hm.len hP2,hd]⟩,wi (by omega) (by omega),wi (by omega) (by omega),hd]
theorem vl{c:fc}{m:List Int}(hb:c.A6.length<=1000000000000):Qef c m/\Kc c m=pV c m:=by
 have h:(QG c m).w λr=>r=pV c m:=by
  unfold QG;refine bz (Z9 hb).1 (ai λx hx=>?_);have hx:x=QA c:=hx;rw[(Z9 hb).2]at hx;subst hx;refine ai λv hv=>?_;have hv:v=pW x:=hv;refine aa (λh1=>aw ?_) (λh1=>?_)
  ·have:pW x=false:=by rw[hv]at h1;simpa using h1
   simp[pV,this]
  have hV:pW x=true:=by rw[hv]at h1;simpa using h1
  obtain⟨v1,v2,v3,v4,v5,v6⟩:=Zdc hV;refine aa (λh2=>aw ?_) (λh2=>?_)
  ·have:¬x.B5<=10:=by simpa using h2
   simp[pV,this]
  have h2:x.B5<=10:=by simpa using h2
  refine ai λp hp=>?_;have hp:p=jX m:=hp;refine aa (λh3=>aw ?_) (λh3=>?_)
  ·have:¬jX m=x.A6.length:=by rw[hp]at h3;simpa using h3
   simp[pV,this]
  have h3:jX m=x.A6.length:=by rw[hp]at h3;simpa using h3
  obtain⟨l1,l2⟩:=Zpp h3 v1;have hr:=Tree.pp (qas l1 l2 rfl);refine ai λ_ _=>bz hr.1 (ai λy hy=>ar ?_ (aw ?_))
  ·rw[dY (by omega)];rfl
  ·have hy:y=Qx m [] x.A6:=hy;have e:Qx m [] x.A6=(m,kp m (fi x.A6 0),x.A6):=hr.2;rw[hy,e];simp[pV,hV,h2,h3,kp]
 exact Tree.pp h
theorem vO{c:fc}{m:List Int}(hm:dy 8 m)(hd:c.A6.length=8)(r0:0<=c.B5)(r1:c.B5<=10)(s0:0<=c.D6)(s1:c.D6<=8*c.B5):pV c m=(⟨cO 8 false,c.B5+1,c.D6+(fi c.A6 0).length⟩,kp m (fi c.A6 0)):=
 zl (P:=8) (by decide) hm hd r0 r1 s0 (by omega)
theorem Kd{m:List Int}(hm:dy 8 m)(hf:f<8):Da m f (jO m f).1/\(jO m f).2=true:=(Tree.pp (vh hm (f:=(f:Int)) (by omega) (by omega))).2
theorem qm{m:List Int}(hm:dy 8 m)(hf:f<8):(jO m f).1.length=128:=(Kd hm hf).1.1
theorem Ziy(ha:dy 8 a)(hb:dy 8 b)(hf:f<8)(h:∀k:Nat,k<128->kv a (f*128+k)=kv b (f*128+k)):(jO a f).1=(jO b f).1:=by
 obtain⟨p1,p2⟩:=(Kd ha hf).1;obtain⟨q1,q2⟩:=(Kd hb hf).1;have e:((f:Int)*128).toNat=f*128:=by omega
 refine yh (m:=a) (f:=f) ⟨p1,p2⟩ ⟨q1,λk hk=>?_⟩;rw[q2 k hk,e,h k hk]
theorem qP(ha:dy 8 a)(hb:dy 8 b)(hf:f<8)(h:(jO a f).1=(jO b f).1)(hk:k<128):kv a (f*128+k)=kv b (f*128+k):=by
 have p:=(Kd ha hf).1.2 k hk;have q:=(Kd hb hf).1.2 k hk;have e:((f:Int)*128).toNat=f*128:=by omega
 rw[e]at p q;rw[<-p,<-q,h]
theorem xP(ha:dy 8 a)(hb:dy 8 b)(hf:f<8)(h:¬(f:Int)∈Bj a b):(jO a f).1=(jO b f).1:=by
 obtain⟨_,_,c⟩:=Z9p ha hb;refine Ziy ha hb hf λk hk=>qac ?_;rcases c f hf with c|c
 ·exact absurd c h
 ·exact xl (by rw[show(f*128+k)/4/32=f by omega];exact c)
theorem V1{m:List Int}(hm:dy 8 m)(hf:f<8){d:List UInt8}(hd:d.length=128):(pR m f d).2=true/\dy 8 (pR m f d).1/\∀b:Nat,kv (pR m f d).1 b=if(f:Int)*128<=b/\(b:Int)<(f:Int)*128+128 then((d.getD (b-(f:Int)*128).toNat 0).toNat:Int)else kv m b:=(Tree.pp (Vo hm (f:=(f:Int)) (by omega) (by omega) hd)).2
theorem Znp{m:List Int}(hm:dy 8 m)(hf:f<8){d:List UInt8}(hd:d.length=128):V2 m f d:=(Tree.pp (Vo hm (f:=(f:Int)) (by omega) (by omega) hd)).1
theorem Zu{m:List Int}(hm:dy 8 m)(hf:f<8){d:List UInt8}(hd:d.length=128):dy 8 (pR m f d).1:=(V1 hm hf hd).2.1
theorem Ztf{m:List Int}(hm:dy 8 m)(hf:f<8){d:List UInt8}(hd:d.length=128):(jO (pR m f d).1 f).1=d:=by
 obtain⟨_,ok,h⟩:=V1 hm hf hd;refine yh (Kd ok hf).1 ⟨hd,λk hk=>?_⟩;rw[h,iFP (by omega)]
 congr 3;omega
theorem Zsi{m:List Int}(hm:dy 8 m)(hf:f<8)(hk:k<8)(hn:k≠f){d:List UInt8}(hd:d.length=128):(jO (pR m f d).1 k).1=(jO m k).1:=by
 obtain⟨_,ok,h⟩:=V1 hm hf hd;refine Ziy ok hm hk λj hj=>?_;rw[h,iFN (by omega)]
theorem xm(ha:dy 8 a)(hb:dy 8 b)(h:∀f:Nat,f<8->(jO a f).1=(jO b f).1):a=b:=by
 have la:=ha.len;have lb:=hb.len;refine ZT (la.trans lb.symm) ha.u hb.u λk=>?_
 by_cases hk:k/128<8
 ·have:=qP ha hb hk (h _ hk) (k:=k%128) (Nat.mod_lt _ (by decide))
  rwa [show k/128*128+k%128=k by omega]at this
 ·refine qac ?_;simp[aV,aJ (show a.length<=k/4 by omega),aJ (show b.length<=k/4 by omega)]
theorem qat{c:fc}(hd:c.A6.length=8)(r0:0<=c.B5)(r1:c.B5<=11)(s0:0<=c.D6)(s1:c.D6<=8*c.B5):HT c 32=true:=by
 have:=P5 c.A6 0;rw[(vk (c:=c) (ej:=32) (by omega)).2,Zoh,dY (show 1<=c.A6.length/\c.A6.length<=32/\0<=c.B5/\c.B5<=11/\0<=c.D6/\c.D6<=352 by omega),dY (show((fi c.A6 0).length:Int)<=32 by omega)]
 rfl
def Bk(s:gu):Prop:=s.ab.length=4/\(∀b∈s.ab,b.length=128)/\1<=s.D3/\s.D3<=2/\0<=s.D7
theorem Zwh{s:gu}(h:Bk s):(QH s).w λr=>r=true:=by
 obtain⟨b1,b2,b3,b4,b5⟩:=h;unfold QH;refine aa (λh=>absurd (oY h) (by omega)) λ_=>aa (λh=>absurd (oY h) (by omega)) λ_=>aa (λh=>absurd (oY h) (by omega)) λ_=>?_;refine ed (inv:=λz:Int=>∃i:Nat,z=i/\i<=s.ab.length) (μ:=Qeh s) ⟨0,rfl,bC _⟩ (cN _) ?_;rintro _ ⟨i,rfl,hi⟩;refine aa (λbc=>?_) (λe6=>aa (λh=>?_) (λ_=>aw (dY (by omega))))
 ·have bc:i<s.ab.length:=by simpa using bc
  have ew:=lh (i:=i) (by omega);refine ar (jb bc) (aa (λh=>?_) (λ_=>dj ⟨⟨i+1,ew,bc⟩,by simp only[Qeh,ew];omega⟩));exfalso;have e:s.ab.getD (dA (i:Int)) (RK.dk RK.str)=s.ab[i]:=by simp[aV,bc]
  rw[e,b2 _ (fG bc)]at h
  cases h
 ·have h:s.D3=0:=by simpa using h
  omega
theorem Zrz{s:gu}(h:Bk s)(h0:0<=host)(seen:Int):(QI s host seen).w λr=>r=if s.D3=seen then({s with D3:=s.D3+1,D7:=host},true)else(s,false):=by
 have v:=Tree.pp (Zwh h);obtain⟨b1,b2,b3,b4,b5⟩:=h;unfold QI;have cp:(QJ s).w λr=>r=s:=by
  unfold QJ;exact bz (show s.ab.length<=1000000000000 by omega) (ai λx hx=>by have hx:x=s.ab:=hx;subst hx;exact aw rfl)
 refine cf cp λx0 e0=>?_;subst e0;refine bz v.1 (ai λx1 h1=>?_);have h1:x1=true:=h1.trans v.2;subst h1;refine aa (λh=>by cases h) λ_=>aa (λh=>absurd (oY h) (by omega)) λ_=>aa (λh=>aw ?_) λh=>?_
 ·have:x0.D3≠seen:=by simpa using h
  rw[iFN this]
 ·have h:x0.D3=seen:=by simpa using h
  refine aa (λh=>absurd (oY h) (by omega)) λ_=>aw ?_;have e:wrap .u64 (x0.D3+1)=x0.D3+1:=by rw[wrap_u64];omega
  rw[iFP h,e]
theorem Zma{s:gu}(h:Bk s)(h0:0<=host)(seen:Int):mI s host seen=if s.D3=seen then({s with D3:=s.D3+1,D7:=host},true)else(s,false):=(Tree.pp (Zrz h h0 seen)).2
def zM:bj:=(RK.dk RK.ae).A0
def gq(l:List ep)(x:ep):List ep:=if l.length<64 then l++[x]else l
def oC(l xs:List ep):List ep:=xs.foldl gq l
theorem M7{x y:ep}(h:y∈gq l x):y∈l\/y=x:=by
 unfold gq at h;split at h
 ·rcases List.mem_append.1 h with h|h
  ·exact .inl h
  ·exact .inr (List.mem_singleton.1 h)
 ·exact .inl h
theorem M8(h:l.length<=64):(gq l x).length<=64:=by
 unfold gq;split
 ·rw[lA,cY];omega
 ·exact h
theorem QK:∀{l:List ep} {y:ep},y∈oC l xs->y∈l\/y∈xs:=by
 induction xs with
 |nil=>intro l y h;exact .inl h
 |cons x xs ih=>
  intro l y h;rcases ih (l:=gq l x) h with h|h
  ·rcases M7 h with h|h
   ·exact .inl h
   ·exact .inr (by rw[h];exact fH ..)
  ·exact .inr (fI _ h)
theorem QL:∀{l:List ep},l.length<=64->(oC l xs).length<=64:=by
 induction xs with
 |nil=>intro l h;exact h
 |cons x xs ih=>intro l h;exact ih (l:=gq l x) (M8 h)
theorem zP:∀{l:List ep},l.length+xs.length<=64->oC l xs=l++xs:=by
 induction xs with
 |nil=>intro l h;simp[oC]
 |cons x xs ih=>
  intro l h;have h:l.length+(xs.length+1)<=64:=h;have e:gq l x=l++[x]:=iFP (by omega);have:=ih (l:=l++[x]) (by rw[lA,cY];omega);show oC (gq l x) xs=_;rw[e,this,aM];rfl
def pX(r f:Int)(d:List UInt8):ep:=⟨1,r,f,d,zM,[]⟩
def tz(s:fu):ep:=⟨2,0,0,[],{s.A0 with Mem:=[]},s.A3⟩
def Dl(k:Int):ep:=⟨k,0,0,[],zM,[]⟩
def sB(R fs:List Int)(v:Int):List Int:=fs.foldl (λR f=>R.set f.toNat v) R
theorem M9{v:Int}:∀{R:List Int},(sB R fs v).length=R.length:=by
 induction fs with
 |nil=>intro R;rfl
 |cons x xs ih=>intro R;exact(ih (R:=R.set x.toNat v)).trans dC
theorem Fo{R:List Int}{v:Int}(hk:k<R.length):(R.set i v).getD k 0=if i=k then v else R.getD k 0:=by
 simp only[cX,List.getElem?_set]
 by_cases h:i=k
 ·subst h;simp[hk]
 ·simp[h]
theorem Zh4{v:Int}(hf:∀f∈fs,0<=f):∀{R:List Int} {k:Nat},k<R.length->(sB R fs v).getD k 0=if(k:Int)∈fs then v else R.getD k 0:=by
 induction fs with
 |nil=>intro R k hk;simp[sB]
 |cons x xs ih=>
  intro R k hk;have h:=ih (λf h=>hf f (fI _ h)) (R:=R.set x.toNat v) (k:=k) (by rw[dC];exact hk);show(sB (R.set x.toNat v) xs v).getD k 0=_;rw[h,Fo hk];have x0:=hf x (fH ..)
  by_cases h1:(k:Int)∈xs
  ·rw[iFP h1,iFP (fI _ h1)]
  ·rw [iFN h1]
   by_cases h2:x.toNat=k
   ·rw[iFP h2,iFP (by rw[show(k:Int)=x by omega];exact fH ..)]
   ·rw[iFN h2,iFN (λh=>by
     rcases List.mem_cons.1 h with h|h
     ·omega
     ·exact h1 h)]
theorem zm:∀{Dd:List Bool} {k:Int} {f:Nat},k+(f:Int)∈fi Dd k↔Dd.getD f false=true
 |[],k,f=>by simp[fi]
 |b::Dd,k,0=>by
  have no:¬k∈fi Dd (k+1):=λh=>by have:=J8 h;omega
  simp only[fi]
  cases b<;>simp[no]
 |b ::Dd,k,f+1=>by
  have ih:=zm (Dd:=Dd) (k:=k+1) (f:=f);have e:k+((f+1:Nat):Int)=k+1+(f:Int):=by omega
  rw[e];simp only[fi,List.getD_cons_succ];split
  ·rw[List.mem_cons];constructor
   ·rintro(h|h)
    ·omega
    ·exact ih.1 h
   ·exactλh=>.inr (ih.2 h)
  ·exact ih
theorem V3:(f:Int)∈fi Dd 0↔Dd.getD f false=true:=by
 have:=zm (Dd:=Dd) (k:=0) (f:=f)
 rwa [Int.zero_add]at this
def Na(g:cj):cj:=
 { g with
   A1:={g.A1 with B1:=(pV g.A1.B1 g.A1.A0.Mem).1,A3:=sB g.A1.A3 ((pV g.A1.B1 g.A1.A0.Mem).2.map (·.Frame)) (pV g.A1.B1 g.A1.A0.Mem).1.B5}
   A7:=oC g.A7 ((pV g.A1.B1 g.A1.A0.Mem).2.map λp=>pX (pV g.A1.B1 g.A1.A0.Mem).1.B5 p.Frame p.F0)}
def HV(g:cj):cj:=
 {g with A1:={g.A1 with A4:=2},A7:=gq g.A7 (tz g.A1)}
def Dm(g:cj)(ej:Int):cj:=
 if g.A1.A4=1/\HT g.A1.B1 ej=true then HV (Na g)else g
def nV(s:fu):List ep:=(List.range 8).map λf=>pX (s.A3.getD f 0) f (jO s.A0.Mem f).1
theorem Zne(s:fu):(nV s).length=8:=by
 unfold nV;rw[fJ,List.length_range]
def Ke(g:cj):cj:=
 if g.A1.A4=2 then{g with A7:=oC g.A7 (nV g.A1++[tz g.A1])}else g
def jA(g:cj):Int:=if g.A1.A4=1\/g.A1.A4=3 then 0 else if g.A2.A4=3 then 1 else-1
def kW(m:bj)(clock:Int):Nat->bj
 |0=>m
 |n+1=>(BW (kW m clock n) clock).1
def runN(n:Int):Nat:=(min (max n 0) 64).toNat
def rJ(s:fu)(m:bj):fc:=if s.A4=1 then{s.B1 with A6:=nn s.B1.A6 (Bj s.A0.Mem m.Mem)}else s.B1
def jY(g:cj)(n clock:Int):cj:=
 if g.A1.A4=1\/g.A1.A4=3 then{g with A1:={g.A1 with A0:=kW g.A1.A0 clock (runN n),B1:=rJ g.A1 (kW g.A1.A0 clock (runN n))}}
 else if g.A2.A4=3 then{g with A2:={g.A2 with A0:=kW g.A2.A0 clock (runN n)}}
 else g
def ij(t:fu)(x:ep):fu:=
 if¬(t.A4=0\/t.A4=1\/t.A4=2)then t
 else if x.C2=1 then
  (if 0<=x.Frame/\x.Frame<t.A3.length/\t.A3.getD x.Frame.toNat 0<x.B5 then
   {t with A4:=if t.A4=0 then 1 else t.A4,A0:={t.A0 with Mem:=(pR t.A0.Mem x.Frame x.F0).1},A3:=t.A3.set x.Frame.toNat x.B5}
  else t)
 else if x.C2=2 then(if t.A4=2 then t else{t with A4:=2,A0:={x.A0 with Mem:=t.A0.Mem},B7:=x.A3})
 else if x.C2=4 then{t with A4:=4}else t
def lV(g:cj)(back:Bool):List ep:=if back=true then g.C0 else g.A7
def pY(g:cj)(back:Bool)(l:List ep):cj:=if back=true then{g with C0:=l}else{g with A7:=l}
def lI(l:List ep)(i:Int):Prop:=0<=i/\i<l.length
instance (l:List ep) (i:Int):Decidable (lI l i):=by unfold lI;infer_instance
def pC(l:List ep)(i:Int):ep:=l.getD i.toNat (RK.dk RK.ae)
def kE(l:List ep)(i:Int):List ep:=l.take i.toNat++l.drop (i.toNat+1)
def oD(g:cj)(back:Bool)(i:Int):cj:=if lI (lV g back) i then pY g back (kE (lV g back) i)else g
def Nb(g:cj)(back:Bool)(x:ep):cj:=
 if back=true then(if g.A1.A4=2/\x.C2=3 then{g with A1:={g.A1 with A4:=4}}else g)else{g with A2:=ij g.A2 x}
def mX(g:cj)(back:Bool)(i:Int):cj:=if lI (lV g back) i then Nb (oD g back i) back (pC (lV g back) i)else g
def Ai(g:cj)(back:Bool)(i:Int):cj:=if lI (lV g back) i then pY g back (gq (lV g back) (pC (lV g back) i))else g
def BX(g:cj):Prop:=g.A2.A4=2/\g.A2.A3=g.A2.B7
instance (g:cj):Decidable (BX g):=by unfold BX;infer_instance
def r7(g:cj):cj:=
 if BX g then
  (if(mI g.A9 1 g.A2.D3).2=true then{g with A9:=(mI g.A9 1 g.A2.D3).1,A2:={g.A2 with A4:=3,D3:=(mI g.A9 1 g.A2.D3).1.D3},C0:=gq g.C0 (Dl 3)}
  else{g with A2:={g.A2 with A4:=4}})
 else g
def ot(g:cj):cj:=
 if g.A1.A4=1 then{g with A1:={g.A1 with A4:=3},A7:=gq g.A7 (Dl 4)}
 else if g.A1.A4=2 then
  (if(mI g.A9 0 g.A1.D3).2=true then{g with A9:=(mI g.A9 0 g.A1.D3).1,A1:={g.A1 with A4:=3,D3:=(mI g.A9 0 g.A1.D3).1.D3},A7:=gq g.A7 (Dl 4)}
  else{g with A1:={g.A1 with A4:=4}})
 else g
def Nc(g:cj)(back:Bool):cj:=if back=true then{g with A2:={g.A2 with A4:=4}}else{g with A1:={g.A1 with A4:=4}}
def oX(g:cj)(a:jd):cj×Bool:=
 if a.C2=1 then(jY g a.N a.F2,true)
 else if a.C2=2 then(if g.A1.A4=1/\g.A1.B1.B5<10 then Na g else g,true)
 else if a.C2=3 then(Dm g a.N,true)
 else if a.C2=4 then(Ke g,true)
 else if a.C2=5 then(mX g a.C0 a.N,true)
 else if a.C2=6 then(oD g a.C0 a.N,true)
 else if a.C2=7 then(Ai g a.C0 a.N,true)
 else if a.C2=8 then(r7 g,true)
 else if a.C2=9 then(ot g,true)
 else if a.C2=10 then(Nc g a.C0,true)
 else(g,false)
structure jR(x:ep):Prop where
 mem:x.A0.Mem=[]
 rl:x.A3.length<=8
 pg:x.C2=1->0<=x.Frame/\x.Frame<8/\x.F0.length=128
 stt:x.C2=2->∀M,dy 8 M->gy 8 {x.A0 with Mem:=M}
structure ft(g:cj):Prop where
 src:gy 8 g.A1.A0
 dl:g.A1.B1.A6.length=8
 r0:0<=g.A1.B1.B5
 r1:g.A1.B1.B5<=11
 r2:g.A1.A4=1->g.A1.B1.B5<=10
 s0:0<=g.A1.B1.D6
 s1:g.A1.B1.D6<=8*g.A1.B1.B5
 rl:g.A1.A3.length=8
 sf:g.A1.B7.length<=8
 tc:g.A2.B1.A6.length<=8
 tl:g.A2.A3.length=8
 tm:dy 8 g.A2.A0.Mem
 tg:g.A2.A4=2\/g.A2.A4=3->gy 8 g.A2.A0
 tf:g.A2.B7.length<=8
 fl:g.A7.length<=64
 fo:∀x∈g.A7,jR x
 bl:g.C0.length<=64
 bo:∀x∈g.C0,jR x
 st:Bk g.A9
theorem Zqx{m:List Int}(hm:dy 8 m){r:Int}(hf:f<8):jR (pX r f (jO m f).1):=
 ⟨rfl,bC _,λ_=>⟨by show(0:Int)<=(f:Int);omega,by show(f:Int)<8;omega,qm hm hf⟩,λh=>absurd (show(1:Int)=2 from h) (by decide)⟩
theorem Zij{s:fu}(h:gy 8 s.A0)(hr:s.A3.length<=8):jR (tz s):=
 ⟨rfl,hr,λh=>absurd (show(2:Int)=1 from h) (by decide),λ_ M hM=>Zus h hM⟩
theorem Zdt{k:Int}(h1:k≠1)(h2:k≠2):jR (Dl k):=⟨rfl,bC _,λh=>absurd h h1,λh=>absurd h h2⟩
theorem tA(h:∀y∈l,jR y)(hx:jR x):∀y∈gq l x,jR y:=λy hy=>by
 rcases M7 hy with h1|h1
 ·exact h y h1
 ·rw[h1];exact hx
theorem Dn(h:∀y∈l,jR y)(hx:∀y∈xs,jR y):∀y∈oC l xs,jR y:=λy hy=>(QK hy).elim (h y) (hx y)
section
variable {g:cj} (h:ft g)
include h
theorem ft.mY:dy 8 g.A1.A0.Mem:=h.src.lu
theorem ft.round(hr:g.A1.B1.B5<=10):pV g.A1.B1 g.A1.A0.Mem=(⟨cO 8 false,g.A1.B1.B5+1,g.A1.B1.D6+(fi g.A1.B1.A6 0).length⟩,kp g.A1.A0.Mem (fi g.A1.B1.A6 0)):=vO h.mY h.dl h.r0 hr h.s0 h.s1
end
theorem Zk7(m l:List Int):(kp m l).map (·.Frame)=l:=by
 unfold kp;rw[List.map_map];exact List.map_id' l
def pD(c:fc)(m:List Int):List ep:=(kp m (fi c.A6 0)).map λp=>pX (c.B5+1) p.Frame p.F0
def lJ(g:cj):cj:=
 { g with
   A1:={g.A1 with B1:=⟨cO 8 false,g.A1.B1.B5+1,g.A1.B1.D6+(fi g.A1.B1.A6 0).length⟩,A3:=sB g.A1.A3 (fi g.A1.B1.A6 0) (g.A1.B1.B5+1)}
   A7:=oC g.A7 (pD g.A1.B1 g.A1.A0.Mem)}
theorem FX(h:ft g)(hr:g.A1.B1.B5<=10):Na g=lJ g:=by
 unfold Na lJ pD;rw[h.round hr];simp only[Zk7]
theorem V4(h:Dd.length=8):(fi Dd 0).length<=8:=by have:=P5 Dd 0;omega
theorem zac:∀f∈fi Dd 0,0<=f:=λf hf=>(J8 hf).1
theorem V5{c:fc}{m:List Int}(hd:c.A6.length=8)(h:x∈pD c m):∃f:Nat,f<8/\c.A6.getD f false=true/\x=pX (c.B5+1) f (jO m f).1:=by
 unfold pD kp at h;obtain⟨p,hp,rfl⟩:=List.mem_map.1 h;obtain⟨f,hf,rfl⟩:=List.mem_map.1 hp;have h1:=J8 hf;obtain⟨k,rfl⟩:∃k:Nat,f=k:=⟨f.toNat,by omega⟩;exact⟨k,by omega,V3.1 hf,rfl⟩
theorem yP{c:fc}{m:List Int}(h:c.A6.getD f false=true):pX (c.B5+1) f (jO m f).1∈pD c m:=by
 unfold pD kp;exact List.mem_map.2 ⟨_,List.mem_map.2 ⟨(f:Int),V3.2 h,rfl⟩,rfl⟩
theorem vP{c:fc}{m:List Int}(hd:c.A6.length=8):(pD c m).length<=8:=by
 unfold pD kp;rw[fJ,fJ];exact V4 hd
theorem Zv3(h:ft g)(hr:g.A1.B1.B5<=10)(hp:g.A1.A4=1->g.A1.B1.B5<=9):ft (lJ g):=by
 have hs:=V4 h.dl;obtain⟨a1,a2,a3,a4,a5,a6,a7,a8,a9,ug,uh,a12,ui,uj,uk,a16,a17,a18,a19⟩:=h;refine⟨a1,by simp[lJ],by show 0<=g.A1.B1.B5+1;omega,by show g.A1.B1.B5+1<=11;omega,λe=>by have:=hp e;show g.A1.B1.B5+1<=10;omega,by show 0<=g.A1.B1.D6+_;omega,by show g.A1.B1.D6+((fi g.A1.B1.A6 0).length:Int)<=8*(g.A1.B1.B5+1);omega,M9.trans a8,a9,ug,uh,a12,ui,uj,QL uk,Dn a16 λy hy=>?_,a17,a18,a19⟩;obtain⟨f,hf,_,rfl⟩:=V5 a2 hy;exact Zqx a1.lu hf
def FY(g:cj):cj:=HV (lJ g)
theorem ym(h:ft g)(hp:g.A1.A4=1):ft (FY g):=by
 have h2:=h.r2 hp;have h':ft {g with A1:={g.A1 with A4:=2}}:=⟨h.src,h.dl,h.r0,h.r1,λe=>absurd (show(2:Int)=1 from e) (by decide),h.s0,h.s1,h.rl,h.sf,h.tc,h.tl,h.tm,h.tg,h.tf,h.fl,h.fo,h.bl,h.bo,h.st⟩;have r:=Zv3 h' h2 (λe=>absurd (show(2:Int)=1 from e) (by decide));exact⟨r.src,r.dl,r.r0,r.r1,λe=>absurd (show(2:Int)=1 from e) (by decide),r.s0,r.s1,r.rl,r.sf,r.tc,r.tl,r.tm,r.tg,r.tf,M8 r.fl,tA r.fo (Zij r.src (Nat.le_of_eq r.rl)),r.bl,r.bo,r.st⟩
theorem vm{s:fu}(h:x∈nV s):∃f:Nat,f<8/\x=pX (s.A3.getD f 0) f (jO s.A0.Mem f).1:=by
 obtain⟨f,hf,rfl⟩:=List.mem_map.1 h;exact⟨f,List.mem_range.1 hf,rfl⟩
theorem Zco{s:fu}(h:x∈nV s++[tz s]):(∃f:Nat,f<8/\x=pX (s.A3.getD f 0) f (jO s.A0.Mem f).1)\/x=tz s:=by
 rcases List.mem_append.1 h with h|h
 ·exact .inl (vm h)
 ·exact .inr (List.mem_singleton.1 h)
theorem ft.Kf(h:ft g)(hl:l.length<=64)(ho:∀x∈l,jR x):ft {g with A7:=l}:=
 ⟨h.src,h.dl,h.r0,h.r1,h.r2,h.s0,h.s1,h.rl,h.sf,h.tc,h.tl,h.tm,h.tg,h.tf,hl,ho,h.bl,h.bo,h.st⟩
def HW(g:cj):cj:={g with A7:=oC g.A7 (nV g.A1++[tz g.A1])}
theorem qn(h:ft g):ft (HW g):=by
 refine h.Kf (l:=oC g.A7 (nV g.A1++[tz g.A1])) (QL h.fl) (Dn h.fo λy hy=>?_);rcases Zco hy with⟨f,hf,rfl⟩|rfl
 ·exact Zqx h.mY hf
 ·exact Zij h.src (by have:=h.rl;omega)
theorem FZ{m:bj}(g:gy 8 m){clock:Int}(hc:U clock):∀n,gy 8 (kW m clock n)
 |0=>g
 |n+1=>FW (FZ g hc n) hc
theorem xn{s:fu}{m:bj}:(rJ s m).A6.length=s.B1.A6.length/\(rJ s m).B5=s.B1.B5/\(rJ s m).D6=s.B1.D6:=by
 unfold rJ;split
 ·exact⟨Z68 _ _,rfl,rfl⟩
 ·exact⟨rfl,rfl,rfl⟩
theorem zat(h:ft g)(hc:U clock)(n:Int):ft (jY g n clock):=by
 unfold jY;split
 ·obtain⟨e1,e2,e3⟩:=xn (s:=g.A1) (m:=kW g.A1.A0 clock (runN n));exact⟨FZ h.src hc _,e1.trans h.dl,by show 0<=(rJ _ _).B5;rw[e2];exact h.r0,by show(rJ _ _).B5<=_;rw[e2];exact h.r1,λe=>by show(rJ _ _).B5<=_;rw[e2];exact h.r2 e,by show 0<=(rJ _ _).D6;rw[e3];exact h.s0,by show(rJ _ _).D6<=8*(rJ _ _).B5;rw[e2,e3];exact h.s1,h.rl,h.sf,h.tc,h.tl,h.tm,h.tg,h.tf,h.fl,h.fo,h.bl,h.bo,h.st⟩
 ·split
  ·rename_i hp
   have gt:=FZ (h.tg (.inr hp)) hc (runN n);exact⟨h.src,h.dl,h.r0,h.r1,h.r2,h.s0,h.s1,h.rl,h.sf,h.tc,h.tl,gt.lu,λ_=>gt,h.tf,h.fl,h.fo,h.bl,h.bo,h.st⟩
  ·exact h
structure QM(t:fu):Prop where
 tc:t.B1.A6.length<=8
 tl:t.A3.length=8
 tm:dy 8 t.A0.Mem
 tg:t.A4=2\/t.A4=3->gy 8 t.A0
 tf:t.B7.length<=8
theorem ft.t(h:ft g):QM g.A2:=⟨h.tc,h.tl,h.tm,h.tg,h.tf⟩
theorem ft.Kg(h:ft g){t:fu}(k:QM t):ft {g with A2:=t}:=
 ⟨h.src,h.dl,h.r0,h.r1,h.r2,h.s0,h.s1,h.rl,h.sf,k.tc,k.tl,k.tm,k.tg,k.tf,h.fl,h.fo,h.bl,h.bo,h.st⟩
theorem xat{t:fu}(h:QM t)(hx:jR x):QM (ij t x):=by
 unfold ij;split
 ·exact h
 ·rename_i hp
  split
  ·rename_i hk
   split
   ·rename_i hf
    obtain⟨f0,f1,hd⟩:=hx.pg hk;obtain⟨f,e⟩:∃f:Nat,x.Frame=f:=⟨x.Frame.toNat,by omega⟩;have hm:dy 8 (pR t.A0.Mem x.Frame x.F0).1:=by rw[e];exact Zu h.tm (by omega) hd
    refine⟨h.tc,List.length_set.trans h.tl,hm,λhq=>?_,h.tf⟩;have hq:(if t.A4=0 then(1:Int)else t.A4)=2\/(if t.A4=0 then(1:Int)else t.A4)=3:=hq;refine Zus (h.tg ?_) hm
    by_cases h0:t.A4=0
    ·rw[iFP h0]at hq;omega
    ·rw[iFN h0]at hq;exact hq
   ·exact h
  ·split
   ·rename_i hk
    split
    ·exact h
    ·exact⟨h.tc,h.tl,h.tm,λ_=>hx.stt hk _ h.tm,hx.rl⟩
   ·split
    ·exact⟨h.tc,h.tl,h.tm,λhq=>by have hq:(4:Int)=2\/(4:Int)=3:=hq;omega,h.tf⟩
    ·exact h
theorem Ga{i:Int}(h:lI l i):pC l i∈l:=by
 obtain⟨h0,h1⟩:=h;have hl:i.toNat<l.length:=by omega
 have e:pC l i=l[i.toNat]:=by simp[pC,aV,hl]
 rw[e];exact fG hl
theorem QN{i:Int}(h:x∈kE l i):x∈l:=by
 rcases List.mem_append.1 h with h|h
 ·exact List.mem_of_mem_take h
 ·exact List.mem_of_mem_drop h
theorem zn{i:Int}(h:lI l i):(kE l i).length+1=l.length:=by
 obtain⟨h0,h1⟩:=h;unfold kE;rw[lA,aD,List.length_drop];omega
theorem yn{i:Int}(h:lI l i)(hx:x∈l):x∈kE l i\/x=pC l i:=by
 obtain⟨h0,h1⟩:=h;have hl:i.toNat<l.length:=by omega
 have e:l=l.take i.toNat++l.drop i.toNat:=(List.take_append_drop ..).symm;have e2:l.drop i.toNat=l[i.toNat]::l.drop (i.toNat+1):=aO hl;have e3:pC l i=l[i.toNat]:=by simp[pC,aV,hl]
 rw[e,e2]at hx;rcases List.mem_append.1 hx with h|h
 ·exact .inl (fF _ h)
 ·rcases List.mem_cons.1 h with h|h
  ·exact .inr (h.trans e3.symm)
  ·exact .inl (fK _ h)
theorem ft.Gb(h:ft g)(hl:l.length<=64)(ho:∀x∈l,jR x):ft {g with C0:=l}:=
 ⟨h.src,h.dl,h.r0,h.r1,h.r2,h.s0,h.s1,h.rl,h.sf,h.tc,h.tl,h.tm,h.tg,h.tf,h.fl,h.fo,hl,ho,h.st⟩
theorem ft.F4(h:ft g)(b:Bool):(lV g b).length<=64/\∀x∈lV g b,jR x:=by
 cases b
 ·exact⟨h.fl,h.fo⟩
 ·exact⟨h.bl,h.bo⟩
theorem ft.set(h:ft g)(b:Bool)(hl:l.length<=64)(ho:∀x∈l,jR x):ft (pY g b l):=by
 cases b
 ·exact h.Kf hl ho
 ·exact h.Gb hl ho
theorem Zs5(h:ft g)(b:Bool)(i:Int):ft (oD g b i):=by
 unfold oD;split
 ·rename_i hi
  have:=zn hi;have:=(h.F4 b).1;exact h.set b (by omega) λx hx=>(h.F4 b).2 x (QN hx)
 ·exact h
theorem vn(h:ft g)(b:Bool)(i:Int):ft (Ai g b i):=by
 unfold Ai;split
 ·rename_i hi
  exact h.set b (M8 (h.F4 b).1) (tA (h.F4 b).2 ((h.F4 b).2 _ (Ga hi)))
 ·exact h
theorem ft.phase(h:ft g){p:Int}(hp:p=1->g.A1.B1.B5<=10):ft {g with A1:={g.A1 with A4:=p}}:=
 ⟨h.src,h.dl,h.r0,h.r1,hp,h.s0,h.s1,h.rl,h.sf,h.tc,h.tl,h.tm,h.tg,h.tf,h.fl,h.fo,h.bl,h.bo,h.st⟩
theorem qau(h:ft g)(b:Bool)(hx:jR x):ft (Nb g b x):=by
 cases b
 ·exact h.Kg (xat h.t hx)
 ·show ft (if g.A1.A4=2/\x.C2=3 then _ else g);split
  ·exact h.phase (λe=>absurd e (by decide))
  ·exact h
theorem Ziq(h:ft g)(b:Bool)(i:Int):ft (mX g b i):=by
 unfold mX;split
 ·rename_i hi
  exact qau (Zs5 h b i) b ((h.F4 b).2 _ (Ga hi))
 ·exact h
theorem qQ(h:ft g)(b:Bool):ft (Nc g b):=by
 cases b
 ·exact h.phase (λe=>absurd e (by decide))
 ·exact h.Kg ⟨h.tc,h.tl,h.tm,λhq=>by have hq:(4:Int)=2\/(4:Int)=3:=hq;omega,h.tf⟩
def Bl(g:cj):Prop:=∀f:Nat,f<8->
 g.A2.A3.getD f 0<=g.A1.A3.getD f 0/\
 g.A1.A3.getD f 0<=g.A1.B1.B5/\
 (g.A1.B1.A6.getD f false=false->0<g.A1.A3.getD f 0/\(g.A2.A3.getD f 0=g.A1.A3.getD f 0->(jO g.A1.A0.Mem f).1=(jO g.A2.A0.Mem f).1))/\
 ∀x∈g.A7,x.C2=1->x.Frame=f->x.B5<=g.A1.A3.getD f 0/\(g.A1.B1.A6.getD f false=false->x.B5=g.A1.A3.getD f 0->x.F0=(jO g.A1.A0.Mem f).1)
structure Dp(nc:Bool)(m:bj)(g:cj):Prop where
 sp:g.A1.A4=1
 gn:g.A9.D3=1/\g.A1.D3=1/\g.A2.D3=1
 mc:g.A1.A0=m
 tp:g.A2.A4=0\/g.A2.A4=1\/(g.A2.A4=4/\nc=false)
 ks:∀x∈g.A7,x.C2=1
 bk:g.C0=[]
 tr:Bl g
structure HX(nc:Bool)(m:bj)(g:cj):Prop where
 sp:g.A1.A4=3\/(g.A1.A4=4/\nc=false)
 gn:g.A9.D3=1/\g.A1.D3=1/\g.A2.D3=1
 mc:g.A1.A4=3->g.A1.A0=m
 tp:g.A2.A4=0\/g.A2.A4=1\/g.A2.A4=4
 ks:∀x∈g.A7,x.C2=1\/x.C2=4
 bk:g.C0=[]
structure pZ(nc:Bool)(m:bj)(g:cj):Prop where
 sp:g.A1.A4=2\/(g.A1.A4=4/\nc=false)
 gn:g.A9.D3=1/\g.A1.D3=1/\g.A2.D3=1
 mc:g.A1.A0=m
 cl:∀f,g.A1.B1.A6.getD f false=false
 tp:g.A2.A4=0\/g.A2.A4=1\/g.A2.A4=2\/(g.A2.A4=4/\nc=false)
 ks:∀x∈g.A7,x.C2=1\/(x.C2=2/\x.A0={m with Mem:=[]}/\x.A3=g.A1.A3)
 ts:g.A2.A4=2->g.A2.B7=g.A1.A3/\{g.A2.A0 with Mem:=[]}={m with Mem:=[]}
 bk:g.C0=[]
 tr:Bl g
structure HY(nc:Bool)(m:bj)(g:cj):Prop where
 sp:g.A1.A4=3\/(g.A1.A4=4/\nc=false)
 gn:g.A9.D3=2/\g.A9.D7=0/\g.A2.D3=1
 mc:g.A1.A4=3->g.A1.A0=m
 tp:g.A2.A4≠3
 bk:g.C0=[]
structure Nd(nc:Bool)(m:bj)(g:cj):Prop where
 sp:g.A1.A4=2\/g.A1.A4=4
 gn:g.A9.D3=2/\g.A9.D7=1/\g.A1.D3=1
 tp:g.A2.A4=3\/(g.A2.A4=4/\nc=false)
 mc:g.A2.A4=3->g.A2.A0=m
def EW(nc:Bool)(m:bj)(g:cj):Prop:=Dp nc m g\/HX nc m g\/pZ nc m g\/HY nc m g\/Nd nc m g
def Inv(nc:Bool)(m:bj)(g:cj):Prop:=ft g/\EW nc m g
theorem Zz2(f:Nat):(cO 8 false).getD f false=false:=by
 simp only[cX,fL];split<;>rfl
theorem Zu4(h:ft g)(t:Bl g):Bl (lJ g):=by
 intro f hf;obtain⟨t1,t2,t3,t4⟩:=t f hf;have hg:(sB g.A1.A3 (fi g.A1.B1.A6 0) (g.A1.B1.B5+1)).getD f 0=if g.A1.B1.A6.getD f false=true then g.A1.B1.B5+1 else g.A1.A3.getD f 0:=by
  rw[Zh4 zac (by rw[h.rl];exact hf)];simp only[V3]
 show g.A2.A3.getD f 0<=(sB _ _ _).getD f 0/\(sB _ _ _).getD f 0<=g.A1.B1.B5+1/\((cO 8 false).getD f false=false->0<(sB _ _ _).getD f 0/\(g.A2.A3.getD f 0=(sB _ _ _).getD f 0->_))/\∀x∈oC _ _,x.C2=1->x.Frame=f->x.B5<=(sB _ _ _).getD f 0/\((cO 8 false).getD f false=false->x.B5=(sB _ _ _).getD f 0->_);have r0:=h.r0;rw[hg]
 cases hd:g.A1.B1.A6.getD f false
 ·rw[iFN (by decide)];refine⟨t1,by omega,λ_=>t3 hd,λx hx k1 k2=>?_⟩;rcases QK hx with hx|hx
  ·exact⟨(t4 x hx k1 k2).1,λ_=>(t4 x hx k1 k2).2 hd⟩
  ·obtain⟨f',V6,ra,rfl⟩:=V5 h.dl hx;have e:(f':Int)=f:=k2;have e:f'=f:=by omega
   rw[e,hd]at ra;cases ra
 ·rw[iFP rfl];refine⟨by omega,by omega,λ_=>⟨by omega,λe=>by omega⟩,λx hx k1 k2=>?_⟩;rcases QK hx with hx|hx
  ·have:=(t4 x hx k1 k2).1;exact⟨by omega,λ_ e=>by omega⟩
  ·obtain⟨f',V6,ra,rfl⟩:=V5 h.dl hx;have e:(f':Int)=f:=k2;have e:f'=f:=by omega
   subst e;exact⟨eY _,λ_ _=>rfl⟩
theorem Bl.rK(t:Bl g)(hl:∀x∈l,x.C2=1->x∈g.A7\/∃f:Nat,f<8/\x=pX (g.A1.A3.getD f 0) f (jO g.A1.A0.Mem f).1):Bl {g with A7:=l}:=by
 intro f hf;obtain⟨t1,t2,t3,t4⟩:=t f hf;refine⟨t1,t2,t3,λx hx k1 k2=>?_⟩;rcases hl x hx k1 with hx|⟨f',V6,rfl⟩
 ·exact t4 x hx k1 k2
 ·have e:(f':Int)=f:=k2;have e:f'=f:=by omega
  subst e;exact⟨eY _,λ_ _=>rfl⟩
theorem qo{t:fu}(hk:x.C2=1):ij t x=t\/((t.A4=0\/t.A4=1\/t.A4=2)/\0<=x.Frame/\x.Frame<t.A3.length/\t.A3.getD x.Frame.toNat 0<x.B5/\ij t x={t with A4:=if t.A4=0 then 1 else t.A4,A0:={t.A0 with Mem:=(pR t.A0.Mem x.Frame x.F0).1},A3:=t.A3.set x.Frame.toNat x.B5}):=by
 by_cases hp:t.A4=0\/t.A4=1\/t.A4=2
 ·by_cases hc:0<=x.Frame/\x.Frame<t.A3.length/\t.A3.getD x.Frame.toNat 0<x.B5
  ·exact .inr ⟨hp,hc.1,hc.2.1,hc.2.2,by unfold ij;rw[iFN (λh=>h hp),iFP hk,iFP hc]⟩
  ·exact .inl (by unfold ij;rw[iFN (λh=>h hp),iFP hk,iFN hc])
 ·exact .inl (by unfold ij;rw[iFP hp])
theorem Zif(h:ft g)(t:Bl g)(hx:jR x)(hk:x.C2=1)(hm:∀f:Nat,f<8->x.Frame=f->x.B5<=g.A1.A3.getD f 0/\(g.A1.B1.A6.getD f false=false->x.B5=g.A1.A3.getD f 0->x.F0=(jO g.A1.A0.Mem f).1)):Bl {g with A2:=ij g.A2 x}:=by
 obtain⟨f0,f1,hd⟩:=hx.pg hk;obtain⟨k,ek⟩:∃f:Nat,x.Frame=f:=⟨x.Frame.toNat,by omega⟩;have k8:k<8:=by omega
 intro f hf;obtain⟨t1,t2,t3,t4⟩:=t f hf;rcases qo (t:=g.A2) hk with e|⟨_,_,_,_,e⟩
 ·rw[e];exact⟨t1,t2,t3,t4⟩
 ·rw[e];obtain⟨m1,m2⟩:=hm k k8 ek;have tl:=h.tl;have sg:(g.A2.A3.set k x.B5).getD f 0=if k=f then x.B5 else g.A2.A3.getD f 0:=Fo (by omega)
  show(g.A2.A3.set x.Frame.toNat x.B5).getD f 0<=_/\_/\(_->_/\((g.A2.A3.set x.Frame.toNat x.B5).getD f 0=_->_=(jO (pR g.A2.A0.Mem x.Frame x.F0).1 f).1))/\_;rw[ek,dX,sg]
  by_cases e:k=f
  ·subst e;rw[iFP rfl];exact⟨m1,t2,λd=>⟨(t3 d).1,λe2=>by rw[Ztf h.tm k8 hd];exact(m2 d e2).symm⟩,t4⟩
  ·rw[iFN e];exact⟨t1,t2,λd=>⟨(t3 d).1,λe2=>by rw[Zsi h.tm k8 hf (λe3=>e e3.symm) hd];exact(t3 d).2 e2⟩,t4⟩
theorem Nf{t:fu}(hk:x.C2=1):(t.A4=0/\(ij t x).A4=1)\/(ij t x).A4=t.A4:=by
 rcases qo (t:=t) hk with e|⟨_,_,_,_,e⟩
 ·rw[e];exact .inr rfl
 ·rw[e]
  by_cases h:t.A4=0
  ·exact .inl ⟨h,by show(if t.A4=0 then(1:Int)else t.A4)=1;rw[iFP h]⟩
  ·exact .inr (by show(if t.A4=0 then(1:Int)else t.A4)=_;rw[iFN h])
theorem Zp9{t:fu}(hk:x.C2=1):(ij t x).D3=t.D3/\(ij t x).B7=t.B7/\{(ij t x).A0 with Mem:=[]}={t.A0 with Mem:=[]}:=by
 rcases qo (t:=t) hk with e|⟨_,_,_,_,e⟩<;>rw[e]<;>exact⟨rfl,rfl,rfl⟩
theorem Zuw{t:fu}:(ij t x).D3=t.D3:=by
 unfold ij
 repeat' split
 all_goals rfl
theorem xo{t:fu}(h:t.A4=3\/t.A4=4):ij t x=t:=by
 unfold ij;rw[iFP (by omega)]
theorem zau{t:fu}(h:t.A4≠3):(ij t x).A4≠3:=by
 by_cases hk:x.C2=1
 ·rcases Nf (t:=t) hk with⟨a,b⟩|b<;>omega
 ·unfold ij;split
  ·exact h
  split
  ·split
   ·exact h
   ·show(2:Int)≠3;decide
  ·split
   ·show(4:Int)≠3;decide
   ·exact h
theorem zo{t:fu}(hk:x.C2=2)(hp:t.A4=0\/t.A4=1):ij t x={t with A4:=2,A0:={x.A0 with Mem:=t.A0.Mem},B7:=x.A3}:=by
 unfold ij;rw[iFN (by omega),iFN (by omega),iFP hk,iFN (by omega)]
theorem yo{t:fu}(hk:x.C2=2)(hp:t.A4=2):ij t x=t:=by
 unfold ij;rw[iFN (by omega),iFN (by omega),iFP hk,iFP hp]
theorem zaO{t:fu}(hk:x.C2=4):(ij t x).A4=4\/ij t x=t:=by
 by_cases hp:t.A4=0\/t.A4=1\/t.A4=2
 ·exact .inl (by unfold ij;rw[iFN (λh=>h hp),iFN (by omega),iFN (by omega),iFP hk])
 ·exact .inr (by unfold ij;rw[iFP hp])
def wj(m:bj)(g:cj)(a:jd):bj:=if a.C2=1/\0<=jA g then kW m a.F2 (runN a.N)else m
theorem QO(h:g.A1.A4=1\/g.A1.A4=3):jA g=0:=iFP h
theorem xac(h:g.A1.A4=2\/g.A1.A4=4)(t:g.A2.A4=3):jA g=1:=by
 unfold jA;rw[iFN (by omega),iFP t]
theorem V7(h:g.A1.A4=2\/g.A1.A4=4)(t:g.A2.A4≠3):jA g= -1:=by
 unfold jA;rw[iFN (by omega),iFN t]
section
variable {nc:Bool} {m:bj} {g:cj}
theorem Inv.ok(h:Inv nc m g):ft g:=h.1
theorem xau(h:Inv nc m g)(hc:U clock)(n:Int):Inv nc (if 0<=jA g then kW m clock (runN n)else m) (jY g n clock):=by
 obtain⟨ok,c⟩:=h;refine⟨zat ok hc n,?_⟩;rcases c with c|c|c|c|c
 ·have hr:jA g=0:=QO (.inl c.sp);have e:jY g n clock={g with A1:={g.A1 with A0:=kW g.A1.A0 clock (runN n),B1:=rJ g.A1 (kW g.A1.A0 clock (runN n))}}:=iFP (.inl c.sp);rw[hr,iFP (by decide),e];have sg:=FZ ok.src hc (runN n);have en:rJ g.A1 (kW g.A1.A0 clock (runN n))={g.A1.B1 with A6:=nn g.A1.B1.A6 (Bj g.A1.A0.Mem (kW g.A1.A0 clock (runN n)).Mem)}:=iFP c.sp;refine .inl ⟨c.sp,c.gn,by rw[<-c.mc],c.tp,c.ks,c.bk,λf hf=>?_⟩;obtain⟨t1,t2,t3,t4⟩:=c.tr f hf;rw[en];show _/\_/\((nn g.A1.B1.A6 _).getD f false=false->_/\(_->(jO (kW g.A1.A0 clock (runN n)).Mem f).1=_))/\∀x∈g.A7,_->_->_/\((nn g.A1.B1.A6 _).getD f false=false->_->_=(jO (kW g.A1.A0 clock (runN n)).Mem f).1);have dl:=ok.dl;have no:(nn g.A1.B1.A6 (Bj g.A1.A0.Mem (kW g.A1.A0 clock (runN n)).Mem)).getD f false=false->g.A1.B1.A6.getD f false=false/\(jO g.A1.A0.Mem f).1=(jO (kW g.A1.A0 clock (runN n)).Mem f).1:=λhd=>by
   constructor
   ·cases h:g.A1.B1.A6.getD f false with
    |false=>rfl
    |true=>rw[V0 (by omega) (.inl h)]at hd;cases hd
   ·refine xP ok.mY sg.lu hf λh=>?_;rw[V0 (by omega) (.inr h)]at hd;cases hd
  refine⟨t1,t2,λd=>?_,λx hx k1 k2=>⟨(t4 x hx k1 k2).1,λd e=>?_⟩⟩
  ·obtain⟨d1,d2⟩:=no d;exact⟨(t3 d1).1,λe=>by rw[<-d2];exact(t3 d1).2 e⟩
  ·obtain⟨d1,d2⟩:=no d;rw[<-d2];exact(t4 x hx k1 k2).2 d1 e
 ·rcases c.sp with sp|⟨sp,np⟩
  ·have hr:jA g=0:=QO (.inr sp);have e:jY g n clock={g with A1:={g.A1 with A0:=kW g.A1.A0 clock (runN n),B1:=rJ g.A1 (kW g.A1.A0 clock (runN n))}}:=iFP (.inr sp);rw[hr,iFP (by decide),e];exact .inr (.inl ⟨.inl sp,c.gn,λ_=>by rw[<-c.mc sp],c.tp,c.ks,c.bk⟩)
  ·have hr:jA g= -1:=V7 (.inr sp) (by have:=c.tp;omega);have e:jY g n clock=g:=by unfold jY;rw[iFN (by omega),iFN (by have:=c.tp;omega)]
   rw[hr,iFN (by decide),e];exact .inr (.inl c)
 ·have tp:=c.tp;have sp:g.A1.A4=2\/g.A1.A4=4:=by have:=c.sp;omega
  have hr:jA g= -1:=V7 sp (by omega);have e:jY g n clock=g:=by unfold jY;rw[iFN (by omega),iFN (by omega)]
  rw[hr,iFN (by decide),e];exact .inr (.inr (.inl c))
 ·rcases c.sp with sp|⟨sp,np⟩
  ·have hr:jA g=0:=QO (.inr sp);have e:jY g n clock={g with A1:={g.A1 with A0:=kW g.A1.A0 clock (runN n),B1:=rJ g.A1 (kW g.A1.A0 clock (runN n))}}:=iFP (.inr sp);rw[hr,iFP (by decide),e];exact .inr (.inr (.inr (.inl ⟨.inl sp,c.gn,λ_=>by rw[<-c.mc sp],c.tp,c.bk⟩)))
  ·have hr:jA g= -1:=V7 (.inr sp) c.tp;have e:jY g n clock=g:=by unfold jY;rw[iFN (by omega),iFN c.tp]
   rw[hr,iFN (by decide),e];exact .inr (.inr (.inr (.inl c)))
 ·rcases c.tp with tp|⟨tp,np⟩
  ·have hr:jA g=1:=xac c.sp tp;have sp:=c.sp;have e:jY g n clock={g with A2:={g.A2 with A0:=kW g.A2.A0 clock (runN n)}}:=by unfold jY;rw[iFN (by omega),iFP tp]
   rw[hr,iFP (by decide),e];exact .inr (.inr (.inr (.inr ⟨c.sp,c.gn,.inl tp,λ_=>by rw[<-c.mc tp]⟩)))
  ·have sp:=c.sp;have hr:jA g= -1:=V7 sp (by omega);have e:jY g n clock=g:=by unfold jY;rw[iFN (by omega),iFN (by omega)]
   rw[hr,iFN (by decide),e];exact .inr (.inr (.inr (.inr c)))
theorem V8(ok:ft g)(c:Dp nc m g):Dp nc m (lJ g):=
 ⟨c.sp,c.gn,c.mc,c.tp,λx hx=>by
  rcases QK hx with hx|hx
  ·exact c.ks x hx
  ·obtain⟨f,_,_,rfl⟩:=V5 ok.dl hx;rfl,c.bk,Zu4 ok c.tr⟩
theorem Zrl(h:Inv nc m g):Inv nc m (if g.A1.A4=1/\g.A1.B1.B5<10 then Na g else g):=by
 split
 ·rename_i hp
  obtain⟨ok,c⟩:=h;rw[FX ok (by omega)];refine⟨Zv3 ok (by omega) (λ_=>by omega),?_⟩;rcases c with c|c|c|c|c
  ·exact .inl (V8 ok c)
  ·have:=c.sp;omega
  ·have:=c.sp;omega
  ·have:=c.sp;omega
  ·have:=c.sp;omega
 ·exact h
theorem Z3b(ok:ft g)(c:Dp nc m g):pZ nc m (FY g):=by
 have r:=V8 ok c;refine⟨.inl rfl,r.gn,r.mc,λf=>Zz2 f,?_,λx hx=>?_,λh=>?_,r.bk,?_⟩
 ·have:=r.tp;rcases this with p|p|p
  ·exact .inl p
  ·exact .inr (.inl p)
  ·exact .inr (.inr (.inr p))
 ·rcases M7 hx with hx|hx
  ·exact .inl (r.ks x hx)
  ·rw[hx];exact .inr ⟨rfl,by rw[<-r.mc];rfl,rfl⟩
 ·have h:(lJ g).A2.A4=2:=h;have:=r.tp;omega
 ·refine Bl.rK (g:={lJ g with A1:={(lJ g).A1 with A4:=2}}) r.tr (l:=gq (lJ g).A7 (tz (lJ g).A1)) λx hx k1=>?_;rcases M7 hx with hx|hx
  ·exact .inl hx
  ·rw[hx]at k1;exact absurd (show(2:Int)=1 from k1) (by decide)
theorem xQ(h:Inv nc m g)(ej:Int):Inv nc m (Dm g ej):=by
 unfold Dm;split
 ·rename_i hp
  obtain⟨ok,c⟩:=h;rw[FX ok (ok.r2 hp.1)];refine⟨ym ok hp.1,?_⟩;rcases c with c|c|c|c|c
  ·exact .inr (.inr (.inl (Z3b ok c)))
  ·have:=c.sp;omega
  ·have:=c.sp;omega
  ·have:=c.sp;omega
  ·have:=c.sp;omega
 ·exact h
theorem pZ.rK(c:pZ nc m g)(hk:∀x∈l,x∈g.A7\/(∃f:Nat,f<8/\x=pX (g.A1.A3.getD f 0) f (jO g.A1.A0.Mem f).1)\/x=tz g.A1):pZ nc m {g with A7:=l}:=by
 refine⟨c.sp,c.gn,c.mc,c.cl,c.tp,λx hx=>?_,c.ts,c.bk,c.tr.rK λx hx k1=>?_⟩
 ·rcases hk x hx with h|⟨f,hf,rfl⟩|rfl
  ·exact c.ks x h
  ·exact .inl rfl
  ·exact .inr ⟨rfl,by rw[<-c.mc];rfl,rfl⟩
 ·rcases hk x hx with h|h|rfl
  ·exact .inl h
  ·exact .inr h
  ·exact absurd (show(2:Int)=1 from k1) (by decide)
theorem Zp6(c:pZ nc m g):pZ nc m (HW g):=
 pZ.rK c (l:=oC g.A7 (nV g.A1++[tz g.A1])) λx hx=>by
  rcases QK hx with hx|hx
  ·exact .inl hx
  ·exact .inr (Zco hx)
theorem Zy3(h:Inv nc m g):Inv nc m (Ke g):=by
 unfold Ke;split
 ·rename_i hp
  obtain⟨ok,c⟩:=h;refine⟨qn ok,?_⟩;rcases c with c|c|c|c|c
  ·have:=c.sp;omega
  ·have:=c.sp;omega
  ·exact .inr (.inr (.inl (Zp6 c)))
  ·have:=c.sp;omega
  ·exact .inr (.inr (.inr (.inr ⟨c.sp,c.gn,c.tp,c.mc⟩)))
 ·exact h
theorem V9(c:EW nc m g)(b:Bool)(hl:∀x∈l,x∈lV g b):EW nc m (pY g b l):=by
 cases b
 ·have hl:∀x∈l,x∈g.A7:=hl;show EW nc m {g with A7:=l};rcases c with c|c|c|c|c
  ·exact .inl ⟨c.sp,c.gn,c.mc,c.tp,λx hx=>c.ks x (hl x hx),c.bk,c.tr.rK λx hx _=>.inl (hl x hx)⟩
  ·exact .inr (.inl ⟨c.sp,c.gn,c.mc,c.tp,λx hx=>c.ks x (hl x hx),c.bk⟩)
  ·exact .inr (.inr (.inl ⟨c.sp,c.gn,c.mc,c.cl,c.tp,λx hx=>c.ks x (hl x hx),c.ts,c.bk,c.tr.rK λx hx _=>.inl (hl x hx)⟩))
  ·exact .inr (.inr (.inr (.inl ⟨c.sp,c.gn,c.mc,c.tp,c.bk⟩)))
  ·exact .inr (.inr (.inr (.inr ⟨c.sp,c.gn,c.tp,c.mc⟩)))
 ·have hl:∀x∈l,x∈g.C0:=hl;have hb:g.C0=[]->l=[]:=λe=>by
   cases l with
   |nil=>rfl
   |cons y l=>have:=hl y (fH ..);rw[e]at this;cases this
  show EW nc m {g with C0:=l};rcases c with c|c|c|c|c
  ·exact .inl ⟨c.sp,c.gn,c.mc,c.tp,c.ks,hb c.bk,c.tr⟩
  ·exact .inr (.inl ⟨c.sp,c.gn,c.mc,c.tp,c.ks,hb c.bk⟩)
  ·exact .inr (.inr (.inl ⟨c.sp,c.gn,c.mc,c.cl,c.tp,c.ks,c.ts,hb c.bk,c.tr⟩))
  ·exact .inr (.inr (.inr (.inl ⟨c.sp,c.gn,c.mc,c.tp,hb c.bk⟩)))
  ·exact .inr (.inr (.inr (.inr ⟨c.sp,c.gn,c.tp,c.mc⟩)))
theorem zQ(h:Inv nc m g)(b:Bool)(i:Int):Inv nc m (oD g b i):=by
 refine⟨Zs5 h.1 b i,?_⟩;unfold oD;split
 ·exact V9 h.2 b λx hx=>QN hx
 ·exact h.2
theorem Zxf(h:Inv nc m g)(b:Bool)(i:Int):Inv nc m (Ai g b i):=by
 refine⟨vn h.1 b i,?_⟩;unfold Ai;split
 ·rename_i hi
  refine V9 h.2 b λx hx=>?_;rcases M7 hx with hx|hx
  ·exact hx
  ·rw[hx];exact Ga hi
 ·exact h.2
theorem vo(h:Inv nc m g)(b:Bool)(hn:nc=false):Inv nc m (Nc g b):=by
 obtain⟨ok,c⟩:=h;refine⟨qQ ok b,?_⟩
 cases b
 ·show EW nc m {g with A1:={g.A1 with A4:=4}};have n3:({g.A1 with A4:=4}:fu).A4=3->False:=λe=>absurd (show(4:Int)=3 from e) (by decide);rcases c with c|c|c|c|c
  ·exact .inr (.inl ⟨.inr ⟨rfl,hn⟩,c.gn,λe=>(n3 e).elim,by have:=c.tp;show g.A2.A4=0\/g.A2.A4=1\/g.A2.A4=4;omega,λx hx=>.inl (c.ks x hx),c.bk⟩)
  ·exact .inr (.inl ⟨.inr ⟨rfl,hn⟩,c.gn,λe=>(n3 e).elim,c.tp,c.ks,c.bk⟩)
  ·exact .inr (.inr (.inl ⟨.inr ⟨rfl,hn⟩,c.gn,c.mc,c.cl,c.tp,c.ks,c.ts,c.bk,c.tr⟩))
  ·exact .inr (.inr (.inr (.inl ⟨.inr ⟨rfl,hn⟩,c.gn,λe=>(n3 e).elim,c.tp,c.bk⟩)))
  ·exact .inr (.inr (.inr (.inr ⟨.inr rfl,c.gn,c.tp,c.mc⟩)))
 ·show EW nc m {g with A2:={g.A2 with A4:=4}};have n2:({g.A2 with A4:=4}:fu).A4=2->False:=λe=>absurd (show(4:Int)=2 from e) (by decide);have n3:({g.A2 with A4:=4}:fu).A4=3->False:=λe=>absurd (show(4:Int)=3 from e) (by decide);rcases c with c|c|c|c|c
  ·exact .inl ⟨c.sp,c.gn,c.mc,.inr (.inr ⟨rfl,hn⟩),c.ks,c.bk,c.tr⟩
  ·exact .inr (.inl ⟨c.sp,c.gn,c.mc,.inr (.inr rfl),c.ks,c.bk⟩)
  ·exact .inr (.inr (.inl ⟨c.sp,c.gn,c.mc,c.cl,.inr (.inr (.inr ⟨rfl,hn⟩)),c.ks,λe=>(n2 e).elim,c.bk,c.tr⟩))
  ·exact .inr (.inr (.inr (.inl ⟨c.sp,c.gn,c.mc,λe=>n3 e,c.bk⟩)))
  ·exact .inr (.inr (.inr (.inr ⟨c.sp,c.gn,.inr ⟨rfl,hn⟩,λe=>(n3 e).elim⟩)))
theorem Zyb(ok:ft g)(c:EW nc m g)(ox:jR x)(hx:x∈g.A7):EW nc m {g with A2:=ij g.A2 x}:=by
 rcases c with c|c|c|c|c
 ·have k:x.C2=1:=c.ks x hx;have q:=Zp9 (t:=g.A2) (x:=x) k;refine .inl ⟨c.sp,⟨c.gn.1,c.gn.2.1,q.1.trans c.gn.2.2⟩,c.mc,?_,c.ks,c.bk,?_⟩
  ·show(ij g.A2 x).A4=0\/(ij g.A2 x).A4=1\/((ij g.A2 x).A4=4/\nc=false);rcases Nf (t:=g.A2) k with⟨a,b⟩|b
   ·exact .inr (.inl b)
   ·rw[b];exact c.tp
  ·exact Zif ok c.tr ox k (λf hf ef=>(c.tr f hf).2.2.2 x hx k ef)
 ·have k:x.C2=1\/x.C2=4:=c.ks x hx;refine .inr (.inl ⟨c.sp,⟨c.gn.1,c.gn.2.1,Zuw.trans c.gn.2.2⟩,c.mc,?_,c.ks,c.bk⟩);have:=c.tp;show(ij g.A2 x).A4=0\/(ij g.A2 x).A4=1\/(ij g.A2 x).A4=4;rcases k with k|k
  ·rcases Nf (t:=g.A2) k with⟨a,b⟩|b<;>omega
  ·rcases zaO (t:=g.A2) k with b|b
   ·omega
   ·rw[b];exact this
 ·have k:x.C2=1\/(x.C2=2/\x.A0={m with Mem:=[]}/\x.A3=g.A1.A3):=c.ks x hx;have tp:=c.tp;rcases k with k|⟨k,e1,e2⟩
  ·have q:=Zp9 (t:=g.A2) (x:=x) k;have tr:Bl {g with A2:=ij g.A2 x}:=Zif ok c.tr ox k (λf hf ef=>(c.tr f hf).2.2.2 x hx k ef);refine .inr (.inr (.inl ⟨c.sp,⟨c.gn.1,c.gn.2.1,q.1.trans c.gn.2.2⟩,c.mc,c.cl,?_,c.ks,λh2=>?_,c.bk,tr⟩))
   ·show(ij g.A2 x).A4=0\/(ij g.A2 x).A4=1\/(ij g.A2 x).A4=2\/((ij g.A2 x).A4=4/\nc=false);rcases Nf (t:=g.A2) k with⟨a,b⟩|b
    ·exact .inr (.inl b)
    ·rw[b];exact tp
   ·have h2:(ij g.A2 x).A4=2:=h2;have h3:g.A2.A4=2:=by rcases Nf (t:=g.A2) k with⟨a,b⟩|b<;>omega
    exact⟨q.2.1.trans (c.ts h3).1,q.2.2.trans (c.ts h3).2⟩
  ·rcases tp with tp|tp|tp|⟨tp,np⟩
   ·rw[zo k (.inl tp)];exact .inr (.inr (.inl ⟨c.sp,c.gn,c.mc,c.cl,.inr (.inr (.inl rfl)),c.ks,λ_=>⟨e2,by rw[e1]⟩,c.bk,c.tr⟩))
   ·rw[zo k (.inr tp)];exact .inr (.inr (.inl ⟨c.sp,c.gn,c.mc,c.cl,.inr (.inr (.inl rfl)),c.ks,λ_=>⟨e2,by rw[e1]⟩,c.bk,c.tr⟩))
   ·rw[yo k tp];exact .inr (.inr (.inl c))
   ·rw[xo (.inr tp)];exact .inr (.inr (.inl c))
 ·exact .inr (.inr (.inr (.inl ⟨c.sp,⟨c.gn.1,c.gn.2.1,Zuw.trans c.gn.2.2⟩,c.mc,zau c.tp,c.bk⟩)))
 ·rw[xo (by have:=c.tp;omega)];exact .inr (.inr (.inr (.inr c)))
end
section
variable {nc:Bool} {m:bj} {g:cj}
theorem Zd7(h:Inv nc m g)(b:Bool)(i:Int):Inv nc m (mX g b i):=by
 refine⟨Ziq h.1 b i,?_⟩;obtain⟨ok,c⟩:=h;unfold mX;split
 ·rename_i hi
  have hx:=Ga hi;have ox:=(ok.F4 b).2 _ hx;have el:oD g b i=pY g b (kE (lV g b) i):=iFP hi;rw[el]
  cases b
  ·exact V9 (Zyb ok c ox hx) false λx hx=>(QN hx:x∈g.A7)
  ·by_cases hc:(pY g true (kE (lV g true) i)).A1.A4=2/\(pC (lV g true) i).C2=3
   ·have eg:Nb (pY g true (kE (lV g true) i)) true (pC (lV g true) i)={g with C0:=kE g.C0 i,A1:={g.A1 with A4:=4}}:=iFP hc;rw[eg];have hb:g.C0≠[]:=λe=>by have hx:_∈g.C0:=hx;rw[e]at hx;cases hx
    rcases c with d|d|d|d|d
    ·exact absurd d.bk hb
    ·exact absurd d.bk hb
    ·exact absurd d.bk hb
    ·exact absurd d.bk hb
    ·exact .inr (.inr (.inr (.inr ⟨.inr rfl,d.gn,d.tp,d.mc⟩)))
   ·have eg:Nb (pY g true (kE (lV g true) i)) true (pC (lV g true) i)=pY g true (kE (lV g true) i):=iFN hc;rw[eg];exact V9 c true λx hx=>QN hx
 ·exact c
theorem ft.store(h:ft g){s:gu}(hs:Bk s):ft {g with A9:=s}:=
 ⟨h.src,h.dl,h.r0,h.r1,h.r2,h.s0,h.s1,h.rl,h.sf,h.tc,h.tl,h.tm,h.tg,h.tf,h.fl,h.fo,h.bl,h.bo,hs⟩
theorem qp(ok:ft g)(c:pZ nc m g)(hf:BX g):g.A2.A0=m:=by
 obtain⟨h1,h2⟩:=hf;obtain⟨f1,f2⟩:=c.ts h1;have e:g.A2.A0.Mem=m.Mem:=by
  rw[<-c.mc];refine(xm ok.mY ok.tm λf hf=>?_).symm;exact((c.tr f hf).2.2.1 (c.cl f)).2 (by rw[h2,f1])
 have q:∀a:bj,a={({a with Mem:=[]}:bj)with Mem:=a.Mem}:=λa=>rfl;rw[q g.A2.A0,f2,e]
theorem Zoo{s:gu}(h:Bk s){host seen:Int}(h0:0<=host)(e1:s.D3=1)(e2:seen=1):mI s host seen=({s with D3:=2,D7:=host},true):=by
 rw[Zma h h0,iFP (e1.trans e2.symm),e1];rfl
theorem Zv7{s:gu}(h:Bk s){host seen:Int}(h0:0<=host)(e:s.D3≠seen):mI s host seen=(s,false):=by
 rw[Zma h h0,iFN e]
theorem xp(ok:ft g)(c:pZ nc m g)(hf:BX g):r7 g={g with A9:={g.A9 with D3:=2,D7:=1},A2:={g.A2 with A4:=3,D3:=2},C0:=gq g.C0 (Dl 3)}:=by
 unfold r7;rw[iFP hf,Zoo ok.st (by decide) c.gn.1 c.gn.2.2,iFP rfl]
theorem Zvi(ok:ft g)(c:pZ nc m g)(hf:BX g):ft (r7 g)/\Nd nc m (r7 g)/\(r7 g).A2.A4=3:=by
 rw[xp ok c hf];obtain⟨b1,b2,b3,b4,b5⟩:=ok.st;have hm:=qp ok c hf;refine⟨⟨ok.src,ok.dl,ok.r0,ok.r1,ok.r2,ok.s0,ok.s1,ok.rl,ok.sf,ok.tc,ok.tl,ok.tm,λ_=>ok.tg (.inl hf.1),ok.tf,ok.fl,ok.fo,M8 ok.bl,tA ok.bo (Zdt (by decide) (by decide)),b1,b2,by show(1:Int)<=2;decide,by show(2:Int)<=2;decide,by show(0:Int)<=1;decide⟩,?_,rfl⟩;exact⟨by have:=c.sp;show g.A1.A4=2\/g.A1.A4=4;omega,⟨rfl,rfl,c.gn.2.1⟩,.inl rfl,λ_=>hm⟩
theorem Zzi(h:Inv nc m g):Inv nc m (r7 g):=by
 obtain⟨ok,c⟩:=h
 by_cases hf:BX g
 ·rcases c with c|c|c|c|c
  ·have:=c.tp;have:=hf.1;omega
  ·have:=c.tp;have:=hf.1;omega
  ·obtain⟨a,b,_⟩:=Zvi ok c hf;exact⟨a,.inr (.inr (.inr (.inr b)))⟩
  ·have e:r7 g={g with A2:={g.A2 with A4:=4}}:=by
    unfold r7;rw[iFP hf,Zv7 ok.st (by decide) (by rw[c.gn.1,c.gn.2.2];decide),iFN fM]
   rw[e];refine⟨ok.Kg ⟨ok.tc,ok.tl,ok.tm,λhq=>by have hq:(4:Int)=2\/(4:Int)=3:=hq;omega,ok.tf⟩,.inr (.inr (.inr (.inl ⟨c.sp,c.gn,c.mc,by show(4:Int)≠3;decide,c.bk⟩)))⟩
  ·have:=c.tp;have:=hf.1;omega
 ·have e:r7 g=g:=iFN hf;rw[e];exact⟨ok,c⟩
theorem yQ(ok:ft g)(c:Dp nc m g):ft (ot g)/\HX nc m (ot g):=by
 have e:ot g={g with A1:={g.A1 with A4:=3},A7:=gq g.A7 (Dl 4)}:=iFP c.sp;rw[e];have k:=ok.phase (p:=3) (λe=>absurd e (by decide));refine⟨k.Kf (M8 ok.fl) (tA ok.fo (Zdt (by decide) (by decide))),.inl rfl,c.gn,λ_=>c.mc,by have:=c.tp;show g.A2.A4=0\/g.A2.A4=1\/g.A2.A4=4;omega,λx hx=>?_,c.bk⟩;rcases M7 hx with hx|rfl
 ·exact .inl (c.ks x hx)
 ·exact .inr rfl
theorem zp(ok:ft g)(c:pZ nc m g)(hp:g.A1.A4=2):ot g={g with A9:={g.A9 with D3:=2,D7:=0},A1:={g.A1 with A4:=3,D3:=2},A7:=gq g.A7 (Dl 4)}:=by
 unfold ot;rw[iFN (by omega),iFP hp,Zoo ok.st (by decide) c.gn.1 c.gn.2.1,iFP rfl]
theorem vQ(ok:ft g)(c:pZ nc m g)(hp:g.A1.A4=2):ft (ot g)/\HY nc m (ot g)/\(ot g).A1.A4=3:=by
 rw[zp ok c hp];obtain⟨b1,b2,b3,b4,b5⟩:=ok.st;refine⟨⟨ok.src,ok.dl,ok.r0,ok.r1,λe=>absurd (show(3:Int)=1 from e) (by decide),ok.s0,ok.s1,ok.rl,ok.sf,ok.tc,ok.tl,ok.tm,ok.tg,ok.tf,M8 ok.fl,tA ok.fo (Zdt (by decide) (by decide)),ok.bl,ok.bo,b1,b2,by show(1:Int)<=2;decide,by show(2:Int)<=2;decide,by show(0:Int)<=0;decide⟩,?_,rfl⟩;exact⟨.inl rfl,⟨rfl,rfl,c.gn.2.2⟩,λ_=>c.mc,by have:=c.tp;show g.A2.A4≠3;omega,c.bk⟩
theorem qR(ok:ft g)(c:Nd nc m g):ft (ot g)/\Nd nc m (ot g)/\(ot g).A2=g.A2:=by
 have sp:=c.sp
 by_cases hp:g.A1.A4=2
 ·have e:ot g={g with A1:={g.A1 with A4:=4}}:=by
   unfold ot;rw[iFN (by omega),iFP hp,Zv7 ok.st (by decide) (by rw[c.gn.1,c.gn.2.2];decide),iFN fM]
  rw[e];exact⟨ok.phase (λe=>absurd e (by decide)),⟨.inr rfl,c.gn,c.tp,c.mc⟩,rfl⟩
 ·have e:ot g=g:=by unfold ot;rw[iFN (by omega),iFN hp]
  rw[e];exact⟨ok,c,rfl⟩
theorem Zys(h:Inv nc m g):Inv nc m (ot g):=by
 obtain⟨ok,c⟩:=h;have no:g.A1.A4≠1->g.A1.A4≠2->ot g=g:=λa b=>by unfold ot;rw[iFN a,iFN b]
 rcases c with c|c|c|c|c
 ·obtain⟨a,b⟩:=yQ ok c;exact⟨a,.inr (.inl b)⟩
 ·have:=c.sp;rw[no (by omega) (by omega)];exact⟨ok,.inr (.inl c)⟩
 ·rcases c.sp with p|⟨p,_⟩
  ·obtain⟨a,b,_⟩:=vQ ok c p;exact⟨a,.inr (.inr (.inr (.inl b)))⟩
  ·rw[no (by omega) (by omega)];exact⟨ok,.inr (.inr (.inl c))⟩
 ·have:=c.sp;rw[no (by omega) (by omega)];exact⟨ok,.inr (.inr (.inr (.inl c)))⟩
 ·obtain⟨a,b,_⟩:=qR ok c;exact⟨a,.inr (.inr (.inr (.inr b)))⟩
theorem Wa(h:Inv nc m g){a:jd}(hc:U a.F2)(hn:nc=true->a.C2≠10):Inv nc (wj m g a) (oX g a).1:=by
 unfold oX wj
 by_cases k1:a.C2=1
 ·rw[iFP k1];have:=xau h hc a.N
  by_cases hr:0<=jA g
  ·rw[iFP ⟨k1,hr⟩];rw[iFP hr]at this;exact this
  ·rw[iFN (λh=>hr h.2)];rw[iFN hr]at this;exact this
 rw[iFN k1,iFN (λh=>k1 h.1)]
 by_cases k2:a.C2=2
 ·rw[iFP k2];exact Zrl h
 rw[iFN k2]
 by_cases k3:a.C2=3
 ·rw[iFP k3];exact xQ h _
 rw[iFN k3]
 by_cases k4:a.C2=4
 ·rw[iFP k4];exact Zy3 h
 rw[iFN k4]
 by_cases k5:a.C2=5
 ·rw[iFP k5];exact Zd7 h _ _
 rw[iFN k5]
 by_cases k6:a.C2=6
 ·rw[iFP k6];exact zQ h _ _
 rw[iFN k6]
 by_cases k7:a.C2=7
 ·rw[iFP k7];exact Zxf h _ _
 rw[iFN k7]
 by_cases k8:a.C2=8
 ·rw[iFP k8];exact Zzi h
 rw[iFN k8]
 by_cases k9:a.C2=9
 ·rw[iFP k9];exact Zys h
 rw[iFN k9]
 by_cases k10:a.C2=10
 ·rw[iFP k10];refine vo h _ ?_
  cases nc
  ·rfl
  ·exact absurd k10 (hn rfl)
 rw[iFN k10];exact h
end
def Have(g:cj):Prop:=∀f:Nat,f<8->g.A2.A3.getD f 0=g.A1.A3.getD f 0\/∃x∈g.A7,x.C2=1/\x.Frame=f/\x.B5=g.A1.A3.getD f 0
def Gc(g:cj):Prop:=g.A2.A4=2\/∃x∈g.A7,x.C2=2
def Le(g:cj):Prop:=∀f:Nat,f<8->g.A2.A3.getD f 0<=g.A1.A3.getD f 0/\∀x∈g.A7,x.C2=1->x.Frame=f->x.B5<=g.A1.A3.getD f 0
theorem Bl.le(t:Bl g):Le g:=λf hf=>⟨(t f hf).1,λx hx k e=>((t f hf).2.2.2 x hx k e).1⟩
theorem Zu9{t:fu}(ht:t.A3.length=8)(hp:t.A4=0\/t.A4=1\/t.A4=2)(ox:jR x)(hf:f<8):(ij t x).A3.getD f 0=if x.C2=1/\x.Frame=f/\t.A3.getD f 0<x.B5 then x.B5 else t.A3.getD f 0:=by
 by_cases hk:x.C2=1
 ·obtain⟨f0,f1,_⟩:=ox.pg hk;obtain⟨k,ek⟩:∃k:Nat,x.Frame=k:=⟨x.Frame.toNat,by omega⟩
  by_cases hc:0<=x.Frame/\x.Frame<t.A3.length/\t.A3.getD x.Frame.toNat 0<x.B5
  ·have e:ij t x={t with A4:=if t.A4=0 then 1 else t.A4,A0:={t.A0 with Mem:=(pR t.A0.Mem x.Frame x.F0).1},A3:=t.A3.set x.Frame.toNat x.B5}:=by
    unfold ij;rw[iFN (λh=>h hp),iFP hk,iFP hc]
   rw[e];show(t.A3.set x.Frame.toNat x.B5).getD f 0=_;rw[Fo (by omega)];rw[ek,dX]at hc⊢
   by_cases e:k=f
   ·subst e;rw[iFP rfl,iFP ⟨hk,rfl,hc.2.2⟩]
   ·rw[iFN e,iFN (λh=>e (by omega))]
  ·have e:ij t x=t:=by unfold ij;rw[iFN (λh=>h hp),iFP hk,iFN hc]
   rw[e,iFN (λh=>hc ⟨f0,by omega,by rw[h.2.1,dX];exact h.2.2⟩)]
 ·rw[iFN (λh=>hk h.1)];unfold ij
  repeat' split
  all_goals first|rfl|exact absurd (by assumption) hk
structure Kh(g r:cj)(x:ep):Prop where
 src:r.A1=g.A1
 sto:r.A9=g.A9
 bak:r.C0=g.C0
 sub:∀y∈r.A7,y∈g.A7
 spl:∀y∈g.A7,y∈r.A7\/y=x
 len:r.A7.length+1=g.A7.length
 mem:x∈g.A7
 tgt:r.A2=ij g.A2 x
theorem dlv{i:Int}(hi:lI g.A7 i):Kh g (mX g false i) (pC g.A7 i):=by
 have e:mX g false i={g with A7:=kE g.A7 i,A2:=ij g.A2 (pC g.A7 i)}:=by
  unfold mX oD lV;simp only[Bool.false_eq_true,if_false,iFP hi]
  rfl
 rw[e];exact⟨rfl,rfl,rfl,λy hy=>QN hy,λy hy=>yn hi hy,zn hi,Ga hi,rfl⟩
theorem yp{i:Int}(hi:¬lI g.A7 i):mX g false i=g:=iFN hi
section
variable {g r:cj} {x:ep} (d:Kh g r x) (ok:ft g) (hp:g.A2.A4=0\/g.A2.A4=1\/g.A2.A4=2)
include d ok hp
theorem Kh.rounds(hf:f<8):r.A2.A3.getD f 0=if x.C2=1/\x.Frame=f/\g.A2.A3.getD f 0<x.B5 then x.B5 else g.A2.A3.getD f 0:=by
 rw[d.tgt];exact Zu9 ok.tl hp (ok.fo x d.mem) hf
theorem Kh.le(h:Le g):Le r:=λf hf=>by
 rw[d.rounds ok hp hf,d.src];obtain⟨h1,h2⟩:=h f hf;refine⟨?_,λy hy=>h2 y (d.sub y hy)⟩;split
 ·rename_i hc;exact h2 x d.mem hc.1 hc.2.1
 ·exact h1
theorem Kh.have(l:Le g)(h:Have g):Have r:=λf hf=>by
 rw[d.rounds ok hp hf,d.src];obtain⟨l1,l2⟩:=l f hf;rcases h f hf with h|⟨y,hy,k1,k2,k3⟩
 ·left
  rw[iFN];exact h;intro hc;have:=l2 x d.mem hc.1 hc.2.1;omega
 ·rcases d.spl y hy with hy|rfl
  ·exact .inr ⟨y,hy,k1,k2,k3⟩
  ·left
   split
   ·exact k3
   ·rename_i hc
    have:¬g.A2.A3.getD f 0<y.B5:=λh=>hc ⟨k1,k2,h⟩;omega
omit ok in
theorem Kh.phase(hk:∀y∈g.A7,y.C2=1\/y.C2=2):(r.A2.A4=0\/r.A2.A4=1\/r.A2.A4=2)/\(r.A2.A4=2↔g.A2.A4=2\/x.C2=2):=by
 rw[d.tgt];rcases hk x d.mem with k|k
 ·rcases Nf (t:=g.A2) k with⟨a,b⟩|b
  ·rw[b];omega
  ·rw[b];omega
 ·by_cases h2:g.A2.A4=2
  ·rw[yo k h2];omega
  ·rw[zo k (by omega)];show((2:Int)=0\/(2:Int)=1\/(2:Int)=2)/\((2:Int)=2↔_);omega
omit ok in
theorem Kh.QP(hk:∀y∈g.A7,y.C2=1\/y.C2=2)(h:Gc g):Gc r:=by
 obtain⟨_,p⟩:=d.phase hp hk;rcases h with h|⟨y,hy,k⟩
 ·exact .inl (p.2 (.inl h))
 ·rcases d.spl y hy with hy|rfl
  ·exact .inr ⟨y,hy,k⟩
  ·exact .inl (p.2 (.inr k))
end
def kq:Nat->cj->cj
 |0,g=>g
 |n+1,g=>kq n (mX g false 0)
theorem in0(h:l≠[]):lI l 0:=by
 cases l with
 |nil=>exact absurd rfl h
 |cons y l=>exact⟨by decide,by show(0:Int)<((l.length+1:Nat):Int);omega⟩
theorem vp{nc:Bool}{m:bj}:∀(n:Nat) {g:cj},Inv nc m g->Inv nc m (kq n g)
 |0,_,h=>h
 |n+1,_,h=>vp n (Zd7 h false 0)
theorem qq:∀(n:Nat) (g:cj),(kq n g).A1=g.A1/\(kq n g).A9=g.A9/\(kq n g).C0=g.C0
 |0,g=>⟨rfl,rfl,rfl⟩
 |n +1,g=>by
  obtain⟨a,b,c⟩:=qq n (mX g false 0)
  by_cases h:lI g.A7 0
  ·have d:=dlv h;exact⟨a.trans d.src,b.trans d.sto,c.trans d.bak⟩
  ·have e:=yp h;rw[e]at a b c;show(kq n (mX g false 0)).A1=_/\(kq n (mX g false 0)).A9=_/\(kq n (mX g false 0)).C0=_;rw[e];exact⟨a,b,c⟩
theorem xq:∀(n:Nat) (g:cj),(kq n g).A7.length<=g.A7.length-n
 |0,g=>aX _
 |n + 1,g=>by
  have:=xq n (mX g false 0)
  by_cases h:lI g.A7 0
  ·have:=(dlv h).len;show(kq n (mX g false 0)).A7.length<=_;omega
  ·have e:=yp h;have h0:g.A7.length=0:=by
    cases hl:g.A7 with
    |nil=>rfl
    |cons y l=>exact absurd (in0 (by rw[hl];simp)) h
   rw[e]at this;show(kq n (mX g false 0)).A7.length<=_;rw[e];omega
theorem zq(h:g.A7.length<=n):(kq n g).A7=[]:=by
 have:=xq n g;exact List.eq_nil_of_length_eq_zero (by omega)
structure Way(g:cj):Prop where
 le:Le g
 hv:Have g
 ph:g.A2.A4=0\/g.A2.A4=1\/g.A2.A4=2
 ks:∀x∈g.A7,x.C2=1\/x.C2=2
theorem Way.next(w:Way g)(ok:ft g)(i:Int):Way (mX g false i)/\(Gc g->Gc (mX g false i)):=by
 by_cases h:lI g.A7 i
 ·have d:=dlv h;exact⟨⟨d.le ok w.ph w.le,d.have ok w.ph w.le w.hv,(d.phase w.ph w.ks).1,λx hx=>w.ks x (d.sub x hx)⟩,d.QP w.ph w.ks⟩
 ·rw[yp h];exact⟨w,λh=>h⟩
theorem Way.all:∀(n:Nat) {g:cj},Way g->ft g->Way (kq n g)/\(Gc g->Gc (kq n g))
 |0,_,w,_=>⟨w,λh=>h⟩
 |n+1,g,w,ok=>by
  obtain⟨a,b⟩:=w.next ok 0
  obtain⟨c,d⟩:=Way.all n a (Ziq ok false 0);exact⟨c,λh=>d (b h)⟩
theorem yq(ha:a.length=8)(hb:b.length=8)(h:∀f:Nat,f<8->a.getD f 0=b.getD f 0):a=b:=by
 refine bR (by omega) λi h1 h2=>?_;have:=h i (by omega);simpa[aV,h1,h2]using this
theorem Way.done(w:Way g)(ok:ft g)(he:g.A7=[]):g.A2.A3=g.A1.A3:=
 yq ok.tl ok.rl λf hf=>by
  rcases w.hv f hf with h|⟨x,hx,_⟩
  ·exact h
  ·rw[he]at hx;cases hx
theorem Way.full{m:bj}(w:Way g)(ok:ft g)(c:pZ nc m g)(hs:Gc g)(he:g.A7=[]):BX g:=by
 have hp:g.A2.A4=2:=by
  rcases hs with h|⟨x,hx,_⟩
  ·exact h
  ·rw[he]at hx;cases hx
 exact⟨hp,(w.done ok he).trans (c.ts hp).1.symm⟩
theorem pZ.live{m:bj}(c:pZ true m g):g.A1.A4=2/\(g.A2.A4=0\/g.A2.A4=1\/g.A2.A4=2):=by
 have h1:=c.sp;have h2:=c.tp;simp only[fN,and_false,or_false]at h1 h2;exact⟨h1,h2⟩
theorem pZ.ks2{m:bj}(c:pZ nc m g):∀x∈g.A7,x.C2=1\/x.C2=2:=λx hx=>(c.ks x hx).elim .inl (λh=>.inr h.1)
section
variable {nc:Bool} {m:bj} {g:cj}
def wm(m:bj)(b:List (List UInt8)):cj:=
 ⟨⟨1,m,⟨cO 8 true,0,0⟩,cO 8 0,[],1⟩,⟨0,{zM with Mem:=cO 256 0},⟨[],0,0⟩,cO 8 0,[],1⟩,[],[],⟨b,1,0⟩⟩
theorem xaO(f:Nat):(cO 8 (0:Int)).getD f 0=0:=by
 simp only[cX,fL];split<;>rfl
theorem vq(hf:f<8):(cO 8 true).getD f false=true:=by
 simp only[cX,fL,hf,if_true]
 rfl
theorem Zwb(hm:gy 8 m){b:List (List UInt8)}(hb:b.length=4)(hB:∀x∈b,x.length=128):ft (wm m b):=
 ⟨hm,rfl,eY 0,by show(0:Int)<=11;decide,λ_=>by show(0:Int)<=10;decide,eY 0,by show(0:Int)<=8*0;decide,rfl,bC _,bC _,rfl,yO,λh=>by have h:(0:Int)=2\/(0:Int)=3:=h;omega,bC _,bC _,λx hx=>(by cases hx),bC _,λx hx=>(by cases hx),hb,hB,by show(1:Int)<=1;decide,by show(1:Int)<=2;decide,by show(0:Int)<=0;decide⟩
theorem Aj(hm:gy 8 m)(b:List (List UInt8)):Dp nc m (wm m b):=
 ⟨rfl,⟨rfl,rfl,rfl⟩,rfl,.inl rfl,λx hx=>(by cases hx),rfl,λf hf=>by
  show(cO 8 (0:Int)).getD f 0<=(cO 8 (0:Int)).getD f 0/\(cO 8 (0:Int)).getD f 0<=0/\((cO 8 true).getD f false=false->_)/\_;rw[xaO,vq hf];exact⟨eY 0,eY 0,λh=>(by cases h),λx hx=>(by cases hx)⟩⟩
def wo(g:cj)(l:List jd):cj:=l.foldl (λg a=>(oX g a).1) g
theorem Znf(g:cj)(l k:List jd):wo g (l++k)=wo (wo g l) k:=fO ..
def oZ(k n:Int):jd:=⟨k,n,false,0⟩
theorem Zof:∀(n:Nat) (g:cj),wo g (cO n (oZ 5 0))=kq n g
 |0,g=>rfl
 |n+1,g=>Zof n (mX g false 0)
theorem qaP(c:EW nc m g)(hs:g.A9.D3=1)(hp:g.A1.A4=2):pZ nc m g:=by
 rcases c with c|c|c|c|c
 ·have:=c.sp;omega
 ·have:=c.sp;omega
 ·exact c
 ·have:=c.gn.1;omega
 ·have:=c.gn.1;omega
theorem seen(h:Inv nc m g)(hr:0<=jA g):(jA g=0/\g.A1.A0=m)\/(jA g=1/\g.A2.A0=m):=by
 by_cases h0:g.A1.A4=1\/g.A1.A4=3
 ·refine .inl ⟨QO h0,?_⟩;rcases h.2 with c|c|c|c|c
  ·exact c.mc
  ·have:=c.sp;exact c.mc (by omega)
  ·have:=c.sp;omega
  ·have:=c.sp;exact c.mc (by omega)
  ·have:=c.sp;omega
 ·by_cases h1:g.A2.A4=3
  ·have e:jA g=1:=by unfold jA;rw[iFN h0,iFP h1]
   refine .inr ⟨e,?_⟩;rcases h.2 with c|c|c|c|c
   ·have:=c.tp;omega
   ·have:=c.tp;omega
   ·have:=c.tp;omega
   ·exact absurd h1 c.tp
   ·exact c.mc h1
  ·have e:jA g= -1:=by unfold jA;rw[iFN h0,iFN h1]
   omega
theorem Zy7(h:Inv true m g)(c:pZ true m g)(w:Way g)(hs:Gc g)(hn:g.A7.length<=n):Inv true m (r7 (kq n g))/\Nd true m (r7 (kq n g))/\(r7 (kq n g)).A2.A4=3:=by
 obtain⟨e1,e2,e3⟩:=qq n g;have hi:=vp n h;obtain⟨w2,s2⟩:=Way.all n w h.1;have c2:pZ true m (kq n g):=qaP hi.2 (by rw[e2];exact c.gn.1) (by rw[e1];exact c.live.1);obtain⟨a,b,p⟩:=Zvi hi.1 c2 (w2.full hi.1 c2 (s2 hs) (zq hn));exact⟨⟨a,.inr (.inr (.inr (.inr b)))⟩,b,p⟩
theorem zaP(h:Inv nc m g)(c:Nd nc m g)(hp:g.A2.A4=3):jA g=1/\g.A2.A0=m/\g.A9.D3=2/\g.A9.D7=1:=⟨xac c.sp hp,c.mc hp,c.gn.1,c.gn.2.1⟩
theorem Zhe(g:cj)(a:jd)(l:List jd):wo g (a::l)=wo (oX g a).1 l:=rfl
theorem xR(b:Nat)(g:cj):wo g (oZ 2 0::oZ 3 32::(cO b (oZ 5 0)++[oZ 8 0]))=r7 (kq b (oX (oX g (oZ 2 0)).1 (oZ 3 32)).1):=by
 rw[Zhe,Zhe,Znf,Zof];rfl
theorem Zp1(ok:ft g)(c:Dp true m g)(w:Way g)(hl:g.A7.length+8<=64):Way (lJ g)/\(lJ g).A7.length<=g.A7.length+8:=by
 have cr:=V8 ok c;have sl:=vP (m:=g.A1.A0.Mem) ok.dl;have e:(lJ g).A7=g.A7++pD g.A1.B1 g.A1.A0.Mem:=zP (by omega);have tp:g.A2.A4=0\/g.A2.A4=1\/g.A2.A4=2:=w.ph;refine⟨⟨cr.tr.le,λf hf=>?_,tp,λx hx=>.inl (cr.ks x hx)⟩,by rw[e,lA];omega⟩;have hg:(lJ g).A1.A3.getD f 0=if g.A1.B1.A6.getD f false=true then g.A1.B1.B5+1 else g.A1.A3.getD f 0:=by
  show(sB _ _ _).getD f 0=_;rw[Zh4 zac (by rw[ok.rl];exact hf)];simp only[V3]
 rw[hg,e]
 cases hd:g.A1.B1.A6.getD f false
 ·rw[iFN fM];rcases w.hv f hf with h|⟨x,hx,k⟩
  ·exact .inl h
  ·exact .inr ⟨x,fF _ hx,k⟩
 ·rw[iFP rfl];exact .inr ⟨_,fK _ (yP hd),rfl,rfl,rfl⟩
theorem zR(ok:ft g)(c:Dp true m g)(w:Way g)(hl:g.A7.length+9<=64):Way (FY g)/\Gc (FY g)/\(FY g).A7.length<=g.A7.length+9:=by
 obtain⟨w1,l1⟩:=Zp1 ok c w (by omega);have cb:=Z3b ok c;have e:(FY g).A7=(lJ g).A7++[tz (lJ g).A1]:=iFP (by omega);refine⟨⟨cb.tr.le,λf hf=>?_,cb.live.2,cb.ks2⟩,.inr ⟨tz (lJ g).A1,by rw[e];exact fK _ (List.mem_singleton.2 rfl),rfl⟩,by rw[e,lA,cY];omega⟩;rw[e];rcases w1.hv f hf with h|⟨x,hx,k⟩
 ·exact .inl h
 ·exact .inr ⟨x,fF _ hx,k⟩
structure Calm(i:Int)(m:bj)(g:cj):Prop where
 inv:Inv true m g
 c:Dp true m g
 f:g.A7=[]
 w:Way g
 r:g.A1.B1.B5=i
theorem Dp.Jae(c:Dp true m g)(hf:g.A7=[])(he:g.A2.A3=g.A1.A3):Way g:=
 ⟨c.tr.le,λf _=>.inl (by rw[he]),by have:=c.tp;simp only[fN,and_false,or_false]at this;omega,λx hx=>by rw[hf]at hx;cases hx⟩
theorem yR(hm:gy 8 m){b:List (List UInt8)}(hb:b.length=4)(hB:∀x∈b,x.length=128):Calm 0 m (wm m b):=
 ⟨⟨Zwb hm hb hB,.inl (Aj hm b)⟩,Aj hm b,rfl,(Aj hm b).Jae rfl rfl,rfl⟩
theorem vR{i:Int}(h:Calm i m g)(hi:i<=9):(oX g (oZ 2 0)).1=lJ g:=by
 have hr:=h.r;have e:(oX g (oZ 2 0)).1=if g.A1.A4=1/\g.A1.B1.B5<10 then Na g else g:=rfl
 rw[e,iFP ⟨h.c.sp,by omega⟩,FX h.inv.1 (by omega)]
theorem qav(ok:ft g)(hp:g.A1.A4=1):(oX g (oZ 3 32)).1=FY g:=by
 have e:(oX g (oZ 3 32)).1=Dm g 32:=rfl;rw[e];unfold Dm;rw[iFP ⟨hp,qat ok.dl ok.r0 ok.r1 ok.s0 ok.s1⟩,FX ok (ok.r2 hp)]
 rfl
def Dq:List jd:=oZ 2 0::oZ 3 32::(cO 64 (oZ 5 0)++[oZ 8 0])
theorem Gd{i:Int}(h:Calm i m g)(hi:i<=9):Inv true m (wo g Dq)/\jA (wo g Dq)=1/\(wo g Dq).A2.A0=m/\(wo g Dq).A9.D3=2/\(wo g Dq).A9.D7=1:=by
 have hr:=h.r;have ok:=h.inv.1;have i1:Inv true m (lJ g):=by
  have:=Zrl h.inv
  rwa [iFP ⟨h.c.sp,by omega⟩,FX ok (by omega)]at this
 have c1:=V8 ok h.c;obtain⟨w1,l1⟩:=Zp1 ok h.c h.w (by rw[h.f];decide);rw[h.f]at l1;have l1:(lJ g).A7.length<=8:=by simpa using l1
 obtain⟨w2,s2,l2⟩:=zR i1.1 c1 w1 (by omega);have ok2:=ym i1.1 c1.sp;have c2:=Z3b i1.1 c1;obtain⟨i3,c3,p3⟩:=Zy7 (n:=64) ⟨ok2,.inr (.inr (.inl c2))⟩ c2 w2 s2 (by omega);have e:wo g Dq=r7 (kq 64 (FY (lJ g))):=by
  refine(xR 64 g).trans ?_;rw[vR h hi,qav i1.1 c1.sp]
 rw[e];exact⟨i3,zaP i3 c3 p3⟩
end
theorem bt{a b:Int}(h:(a==b)=true):a=b:=by simpa using h
theorem bf{a b:Int}(h:(a==b)=false):a≠b:=by simpa using h
theorem nt{a b:Int}(h:(a !=b)=true):a≠b:=by simpa using h
theorem BY{a b:Int}(h:(a !=b)=false):a=b:=by simpa using h
def mv(g:cj):fm:=⟨g.A1,g.A2,g.A7,g.C0,g.A9⟩
theorem qr(b:Bool)(x:ep):(Ki (mv g) b x).w λr=>r=mv (pY g b (gq (lV g b) x)):=by
 unfold Ki;refine aa (λhb=>ai λ_ _=>aa (λh=>?_) (λh=>aw ?_)) (λhb=>ai λ_ _=>aa (λh=>?_) (λh=>aw ?_))
 ·subst hb;have h:(g.C0.length:Int)<64:=oY h;refine ar (dY (by show 328*(g.C0.length+1)<=_;omega)) (aw ?_);have e:gq g.C0 x=g.C0++[x]:=iFP (by omega);show _=mv {g with C0:=gq g.C0 x};rw[e]<;>rfl
 ·subst hb;have h:¬(g.C0.length:Int)<64:=oN h;have e:gq g.C0 x=g.C0:=iFN (by omega);show _=mv {g with C0:=gq g.C0 x};rw[e]<;>rfl
 ·subst hb;have h:(g.A7.length:Int)<64:=oY h;refine ar (dY (by show 328*(g.A7.length+1)<=_;omega)) (aw ?_);have e:gq g.A7 x=g.A7++[x]:=iFP (by omega);show _=mv {g with A7:=gq g.A7 x};rw[e]<;>rfl
 ·subst hb;have h:¬(g.A7.length:Int)<64:=oN h;have e:gq g.A7 x=g.A7:=iFN (by omega);show _=mv {g with A7:=gq g.A7 x};rw[e]<;>rfl
theorem QQ(x:ep):(Ki (mv g) false x).w λr=>r=mv {g with A7:=gq g.A7 x}:=qr false x
theorem xr(x:ep):(Ki (mv g) true x).w λr=>r=mv {g with C0:=gq g.C0 x}:=qr true x
theorem Zie{c:kz}(h0:0<=c.Frame)(h1:c.Frame<g.A1.A3.length):(QR (mv g) c).w λr=>r=mv {g with A7:=gq g.A7 (pX (g.A1.A3.getD c.Frame.toNat 0) c.Frame c.F0)}:=by
 unfold QR;refine aa (λ_=>aa (λ_=>ar ?_ (cf (QQ (pX (g.A1.A3.getD c.Frame.toNat 0) c.Frame c.F0)) λx hx=>aw hx)) (λh=>absurd h1 (oN h))) (λh=>absurd h0 (oN h));show(bX _ _&&bN _ _&&decide _)=true;rw[dY (show 0<=c.Frame/\c.Frame<((mv g).A1.A3.length:Int) from⟨h0,h1⟩)];rfl
theorem Zal(h:g.A1.A3.length=8):(QS (mv g)).w λr=>r=mv {g with A7:=gq g.A7 (tz g.A1)}:=by
 unfold QS;refine bz (show g.A1.A3.length<=1000000000000 by omega) (ai λx0 h0=>?_);have h0:x0=g.A1.A3:=h0;subst h0;exact cf (QQ (tz g.A1)) λx hx=>aw hx
theorem zav(b:Bool):(Wb (mv g) b).w λr=>r=mv (Nc g b):=by
 unfold Wb;refine aa (λh=>aw ?_) (λh=>aw ?_)<;>(subst h;rfl)
theorem qS(h:Bk g.A9)(h0:0<=host):(QT (mv g) host).w λr=>r=if(mI g.A9 host g.A1.D3).2=true then(true,mv {g with A9:=(mI g.A9 host g.A1.D3).1,A1:={g.A1 with A4:=3,D3:=(mI g.A9 host g.A1.D3).1.D3}})else(false,mv {g with A1:={g.A1 with A4:=4}}):=by
 unfold QT;have c:=Tree.pp (Zrz h h0 g.A1.D3);refine bz c.1 (ai λx hx=>?_);have hx:x=mI g.A9 host g.A1.D3:=hx;subst hx;refine aa (λhb=>aw ?_) (λhb=>aw ?_)
 ·have hb:(mI g.A9 host g.A1.D3).2=false:=by simpa using hb
  rw[iFN (by rw[hb];decide)];rfl
 ·have hb:(mI g.A9 host g.A1.D3).2=true:=by simpa using hb
  rw[iFP hb];rfl
theorem xS(h:Bk g.A9)(h0:0<=host):(QU (mv g) host).w λr=>r=if(mI g.A9 host g.A2.D3).2=true then(true,mv {g with A9:=(mI g.A9 host g.A2.D3).1,A2:={g.A2 with A4:=3,D3:=(mI g.A9 host g.A2.D3).1.D3}})else(false,mv {g with A2:={g.A2 with A4:=4}}):=by
 unfold QU;have c:=Tree.pp (Zrz h h0 g.A2.D3);refine bz c.1 (ai λx hx=>?_);have hx:x=mI g.A9 host g.A2.D3:=hx;subst hx;refine aa (λhb=>aw ?_) (λhb=>aw ?_)
 ·have hb:(mI g.A9 host g.A2.D3).2=false:=by simpa using hb
  rw[iFN (by rw[hb];decide)];rfl
 ·have hb:(mI g.A9 host g.A2.D3).2=true:=by simpa using hb
  rw[iFP hb];rfl
theorem zS(h:Bk g.A9):(QV (mv g)).w λr=>r=mv (ot g):=by
 unfold QV;refine aa (λh1=>?_) (λh1=>aa (λh2=>?_) (λh2=>aw ?_))
 ·have h1:g.A1.A4=1:=bt h1;have e:ot g={g with A1:={g.A1 with A4:=3},A7:=gq g.A7 (Dl 4)}:=iFP h1;rw[e];exact cf (QQ (g:={g with A1:={g.A1 with A4:=3}}) (Dl 4)) λx hx=>aw hx
 ·have h1:¬g.A1.A4=1:=bf h1;have h2:g.A1.A4=2:=bt h2;refine cf (qS h (eY 0)) λy hy=>?_;unfold ot;rw[iFN h1,iFP h2]
  by_cases hb:(mI g.A9 0 g.A1.D3).2=true
  ·rw[iFP hb]at hy⊢;subst hy;exact aa (λh=>by cases h) λ_=>cf (QQ (g:={g with A9:=(mI g.A9 0 g.A1.D3).1,A1:={g.A1 with A4:=3,D3:=(mI g.A9 0 g.A1.D3).1.D3}}) (Dl 4)) λx hx=>aw hx
  ·rw[iFN hb]at hy⊢;subst hy;exact aa (λ_=>aw rfl) λh=>by cases h
 ·have h1:¬g.A1.A4=1:=bf h1;have h2:¬g.A1.A4=2:=bf h2;unfold ot;rw[iFN h1,iFN h2]
theorem xav(ok:ft g)(ox:jR x)(hk:x.C2=1)(hp:g.A2.A4=0\/g.A2.A4=1\/g.A2.A4=2):(QW (mv g) x).w λr=>r=mv {g with A2:=ij g.A2 x}:=by
 obtain⟨f0,f1,hd⟩:=ox.pg hk;obtain⟨k,ek⟩:∃f:Nat,x.Frame=f:=⟨x.Frame.toNat,by omega⟩;have k8:k<8:=by omega
 have tl:=ok.tl;have sp:V2 g.A2.A0.Mem x.Frame x.F0:=by rw[ek];exact Znp ok.tm k8 hd
 have s2:(pR g.A2.A0.Mem x.Frame x.F0).2=true:=by rw[ek];exact(V1 ok.tm k8 hd).1
 have cn:∀l:List Int,l.length=8->(bX 1 1&&bN 0 1&&decide (0<=x.Frame/\x.Frame<(l.length:Int)))=true:=λl hl=>by
  rw[dY (show 0<=x.Frame/\x.Frame<(l.length:Int) by omega)];rfl
 unfold QW;refine aa (λh=>absurd (oY h) (by omega)) λ_=>aa (λh=>absurd (oY h) (by show¬x.Frame>=(g.A2.A3.length:Int);omega)) λ_=>ar (cn _ tl) (aa (λh=>aw ?_) λh=>bz sp (ai λy hy=>?_))
 ·have h:x.B5<=g.A2.A3.getD x.Frame.toNat 0:=oY h;have e:ij g.A2 x=g.A2:=by
   unfold ij;rw[iFN (λh=>h hp),iFP hk,iFN (λh=>by have:=h.2.2;omega)]
  rw[e]
 ·have h:¬x.B5<=g.A2.A3.getD x.Frame.toNat 0:=oN h;have hy:y=pR g.A2.A0.Mem x.Frame x.F0:=hy;subst hy;have e:ij g.A2 x={g.A2 with A4:=if g.A2.A4=0 then 1 else g.A2.A4,A0:={g.A2.A0 with Mem:=(pR g.A2.A0.Mem x.Frame x.F0).1},A3:=g.A2.A3.set x.Frame.toNat x.B5}:=by
   unfold ij;rw[iFN (λh=>h hp),iFP hk,iFP ⟨by omega,by omega,by omega⟩]
  rw[e];refine aa (λhb=>?_) λ_=>ar (cn _ tl) (aa (λh0=>aw ?_) λh0=>aw ?_)
  ·rw[s2]at hb;cases hb
  ·have h0:g.A2.A4=0:=bt h0;rw[iFP h0];rfl
  ·have h0:¬g.A2.A4=0:=bf h0;rw[iFN h0];rfl
theorem zr(ok:ft g)(ox:jR x):(QX (mv g) x).w λr=>r=mv {g with A2:=ij g.A2 x}:=by
 have leaf:(g.A2.A4=0\/g.A2.A4=1\/g.A2.A4=2)->∀(k1:x.C2≠1),(x.C2=2->g.A2.A4=2->ij g.A2 x=g.A2)/\(x.C2=2->g.A2.A4≠2->ij g.A2 x={g.A2 with A4:=2,A0:={x.A0 with Mem:=g.A2.A0.Mem},B7:=x.A3})/\(x.C2≠2->x.C2=4->ij g.A2 x={g.A2 with A4:=4})/\(x.C2≠2->x.C2≠4->ij g.A2 x=g.A2):=λhp k1=>by
  refine⟨λk p=>?_,λk p=>?_,λk p=>?_,λk p=>?_⟩
  ·unfold ij;rw[iFN (λh=>h hp),iFN k1,iFP k,iFP p]
  ·unfold ij;rw[iFN (λh=>h hp),iFN k1,iFP k,iFN p]
  ·unfold ij;rw[iFN (λh=>h hp),iFN k1,iFN k,iFP p]
  ·unfold ij;rw[iFN (λh=>h hp),iFN k1,iFN k,iFN p]
 unfold QX;refine aa (λh0=>aa (λh1=>aa (λh2=>aw ?_) (λh2=>?_)) (λh1=>?_)) (λh0=>?_)
 ·have h0:g.A2.A4≠0:=nt h0;have h1:g.A2.A4≠1:=nt h1;have h2:g.A2.A4≠2:=nt h2;have e:ij g.A2 x=g.A2:=by unfold ij;rw[iFP (by omega)]
  rw[e]
 all_goals
  have hp:g.A2.A4=0\/g.A2.A4=1\/g.A2.A4=2:=by
   first
    |exact .inr (.inr (BY h2))
    |exact .inr (.inl (BY h1))
    |exact .inl (BY h0)
  refine aa (λk=>cf (xav ok ox (bt k) hp) λy hy=>aw hy) (λk1=>?_);have k1:x.C2≠1:=bf k1;obtain⟨q1,q2,q3,q4⟩:=leaf hp k1;refine aa (λk2=>?_) (λk2=>?_)
  ·have k2:x.C2=2:=bt k2;refine aa (λp=>aw ?_) (λp=>aw ?_)
   ·rw[q1 k2 (bt p)]
   ·rw[q2 k2 (bf p)];rfl
  ·have k2:x.C2≠2:=bf k2;refine aa (λp=>aw ?_) (λp=>aw ?_)
   ·rw[q3 k2 (bt p)];rfl
   ·rw[q4 k2 (bf p)]
theorem Za2(R l:List Int)(x v:Int):sB R (l++[x]) v=(sB R l v).set x.toNat v:=by
 unfold sB;rw[fO];rfl
theorem Ng(l k:List ep)(x:ep):oC l (k++[x])=gq (oC l k) x:=by
 unfold oC;rw[fO];rfl
theorem HZ{α:Type}{l:List α}(h:i<l.length):l.take (i+1)=l.take i++[l[i]]:=by
 rw[fP,aI h];rfl
theorem Dr(h:i<n):(bX 2 2&&bN 0 2&&decide (0<=(i:Int)/\(i:Int)<(n:Int)))=true:=by
 rw[dY (by omega)];rfl
def rL(g:cj)(i:Nat):cj:=
 { g with
   A1:={g.A1 with B1:=⟨cO 8 false,g.A1.B1.B5+1,g.A1.B1.D6+(fi g.A1.B1.A6 0).length⟩,A3:=sB g.A1.A3 ((fi g.A1.B1.A6 0).take i) (g.A1.B1.B5+1)}
   A7:=oC g.A7 ((pD g.A1.B1 g.A1.A0.Mem).take i)}
theorem Zvk(ok:ft g)(hr:g.A1.B1.B5<=10):(QY (mv g)).w λr=>r=mv (lJ g):=by
 obtain⟨r1,r2⟩:=vl (c:=g.A1.B1) (m:=g.A1.A0.Mem) (by have:=ok.dl;omega);rw[ok.round hr]at r2;have sl:=V4 ok.dl;have rl:=ok.rl;have lS:(pD g.A1.B1 g.A1.A0.Mem).length=(fi g.A1.B1.A6 0).length:=by unfold pD kp;rw[fJ,fJ]
 have lC:(kp g.A1.A0.Mem (fi g.A1.B1.A6 0)).length=(fi g.A1.B1.A6 0).length:=by unfold kp;rw[fJ]
 unfold QY;refine bz r1 (ai λx0 h0=>?_);have h0:x0=Kc g.A1.B1 g.A1.A0.Mem:=h0;have h0:=h0.trans r2;subst h0;refine ed (inv:=λz:Int×fm=>∃i:Nat,z.1=i/\i<=(fi g.A1.B1.A6 0).length/\z.2=mv (rL g i)) (μ:=Qex (mv g)) ⟨0,rfl,bC _,rfl⟩ (cN _) ?_;rintro⟨_,y⟩ ⟨i,rfl,hi,hy⟩;simp only at hy;subst hy;refine aa (λbc=>?_) (λe6=>aw ?_)
 ·have bc:(i:Int)<((kp g.A1.A0.Mem (fi g.A1.B1.A6 0)).length:Int):=oY bc;have hl:i<(fi g.A1.B1.A6 0).length:=by rw[lC]at bc;omega
  have ew:=lh (i:=i) (by omega);have eg:(kp g.A1.A0.Mem (fi g.A1.B1.A6 0)).getD (dA (i:Int)) (RK.dk RK.bh)=⟨(fi g.A1.B1.A6 0)[i],(jO g.A1.A0.Mem (fi g.A1.B1.A6 0)[i]).1⟩:=by
   simp[aV,kp,hl]
  have hm:=J8 (fG hl);have dl:=ok.dl;have lp:(rL g i).A1.A3.length=8:=M9.trans rl;generalize hf:(fi g.A1.B1.A6 0)[i]=f at eg hm;have f0:0<=f:=hm.1;have f8:f<8:=by omega
  have QZ:(f:Int)<(((mv (rL g i)).A1.A3).length:Int):=by show f<((rL g i).A1.A3.length:Int);omega
  have Wc:i<(kp g.A1.A0.Mem (fi g.A1.B1.A6 0)).length:=by rw[lC];exact hl
  refine ar (Dr Wc) ?_;rw[eg];refine aa (λ_=>aa (λ_=>ar ?_ ?_) (λh=>absurd QZ (oN h))) (λh=>absurd f0 (oN h))
  ·show(bX _ _&&bN _ _&&decide (0<=f/\f<_))=true;rw[dY ⟨f0,QZ⟩];rfl
  ·have e1:∀l:List Int,l.length=8->(l.set f.toNat (g.A1.B1.B5+1)).getD f.toNat 0=g.A1.B1.B5+1:=λl hl=>by rw[Fo (by omega),iFP rfl]
   refine cf (Zie (g:={rL g i with A1:={(rL g i).A1 with A3:=(rL g i).A1.A3.set f.toNat (g.A1.B1.B5+1)}}) (c:=⟨f,(jO g.A1.A0.Mem f).1⟩) f0 (by show f<(((rL g i).A1.A3.set f.toNat (g.A1.B1.B5+1)).length:Int);rw[dC];exact QZ)) λy hy=>dj ⟨⟨i+1,ew,by omega,?_⟩,?_⟩
   ·rw[hy];show mv _=mv _
    congr 1
    have t1:(fi g.A1.B1.A6 0).take (i+1)=(fi g.A1.B1.A6 0).take i++[f]:=by rw[HZ hl,hf]
    have t2:(pD g.A1.B1 g.A1.A0.Mem).take (i+1)=(pD g.A1.B1 g.A1.A0.Mem).take i++[pX (g.A1.B1.B5+1) f (jO g.A1.A0.Mem f).1]:=by
     rw[HZ (by omega)]
     congr 2
     have:(pD g.A1.B1 g.A1.A0.Mem)[i]'(by omega)=pX (g.A1.B1.B5+1) (fi g.A1.B1.A6 0)[i] (jO g.A1.A0.Mem (fi g.A1.B1.A6 0)[i]).1:=by simp[pD,kp]
     rw[this,hf]
    unfold rL;rw[t1,t2,Za2,Ng];show cj.mk _ _ (gq _ (pX ((dB _ f.toNat _).getD f.toNat 0) f _)) _ _=_;rw[e1 _ (M9.trans rl)]
   ·show(_-wrap .i64 ((i:Int)+1)).toNat<(_-(i:Int)).toNat;rw[ew];show(((Kc g.A1.B1 g.A1.A0.Mem).2.length:Int)-((i+1:Nat):Int)).toNat<_;show _<(((Kc g.A1.B1 g.A1.A0.Mem).2.length:Int)-(i:Int)).toNat;rw[r2];show(((kp g.A1.A0.Mem (fi g.A1.B1.A6 0)).length:Int)-((i+1:Nat):Int)).toNat<(((kp g.A1.A0.Mem (fi g.A1.B1.A6 0)).length:Int)-(i:Int)).toNat;rw[lC];omega
 ·have e6:¬(i:Int)<((kp g.A1.A0.Mem (fi g.A1.B1.A6 0)).length:Int):=oN e6;have hi2:i=(fi g.A1.B1.A6 0).length:=by rw[lC]at e6;omega
  show mv _=mv _
  congr 1
  unfold rL lJ;rw[fQ (by omega),fQ (by omega)]
theorem qaw(ok:ft g)(ej:Int):(Ra (mv g) ej).w λr=>r=mv (Dm g ej):=by
 unfold Ra;refine aa (λh=>aw ?_) (λh=>?_)
 ·have h:¬g.A1.A4=1:=nt h;unfold Dm;rw[iFN (λq=>h q.1)]
 ·have h:g.A1.A4=1:=BY h;obtain⟨s1,s2⟩:=vk (c:=g.A1.B1) (ej:=ej) (by have:=ok.dl;omega);refine bz s1 (ai λx0 h0=>?_);have h0:x0=HT g.A1.B1 ej:=h0;subst h0;refine aa (λhb=>aw ?_) (λhb=>?_)
  ·have hb:HT g.A1.B1 ej=false:=by simpa using hb
   unfold Dm;rw[iFN (λq=>by rw[hb]at q;cases q.2)]
  ·have hb:HT g.A1.B1 ej=true:=by simpa using hb
   have e:Dm g ej=FY g:=by
    unfold Dm;rw[iFP ⟨h,hb⟩,FX ok (ok.r2 h)];rfl
   rw[e];refine cf (Zvk ok (ok.r2 h)) λx1 h1=>?_;subst h1;have rl:(lJ g).A1.A3.length=8:=M9.trans ok.rl;exact cf (Zal (g:={lJ g with A1:={(lJ g).A1 with A4:=2}}) rl) λy hy=>aw hy
theorem yr(ok:ft g):(Rb (mv g)).w λr=>r=mv (Ke g):=by
 unfold Rb;refine aa (λh=>aw ?_) (λh=>?_)
 ·have h:¬g.A1.A4=2:=nt h;unfold Ke;rw[iFN h]
 ·have h:g.A1.A4=2:=BY h;have e:Ke g=HW g:=iFP h;rw[e];have mp:jX g.A1.A0.Mem=((8:Nat):Int):=Dj (P:=8) ok.mY.len (by decide);refine ai λx0 h0=>?_;have h0:x0=((8:Nat):Int):=h0.trans mp;subst h0;refine ed (inv:=λz:Int×fm=>∃i:Nat,z.1=i/\i<=8/\z.2=mv {g with A7:=oC g.A7 ((nV g.A1).take i)}) (μ:=Qd (mv g)) ⟨0,rfl,bC _,rfl⟩ (cN _) ?_;rintro⟨_,y⟩ ⟨i,rfl,hi,hy⟩;simp only at hy;subst hy;have lP:=Zne g.A1;refine aa (λbc=>?_) (λe6=>?_)
  ·have bc:(i:Int)<((8:Nat):Int):=oY bc;have i8:i<8:=by omega
   have ew:=lh (i:=i) (by omega);refine bz (Zvw (P:=8) ok.mY.len (by decide) (by omega) (by omega)) (ai λx1 h1=>?_);have h1:x1=jO g.A1.A0.Mem i:=h1;subst h1;have rl:=ok.rl;refine aa (λ_=>cf (Zie (g:={g with A7:=oC g.A7 ((nV g.A1).take i)}) (c:=⟨i,(jO g.A1.A0.Mem i).1⟩) (by show(0:Int)<=(i:Int);omega) (by show(i:Int)<(g.A1.A3.length:Int);omega)) λy hy=>dj ⟨⟨i+1,ew,by omega,?_⟩,?_⟩) (λhb=>?_)
   ·rw[hy];show mv _=mv _
    congr 1
    have t:(nV g.A1).take (i+1)=(nV g.A1).take i++[pX (g.A1.A3.getD i 0) i (jO g.A1.A0.Mem i).1]:=by
     rw[HZ (by omega)]
     congr 2
     unfold nV;rw[bS,fR]
    rw[t,Ng]
    rfl
   ·show(_-wrap .i64 ((i:Int)+1)).toNat<(_-(i:Int)).toNat;rw[ew];show(jX g.A1.A0.Mem-((i+1:Nat):Int)).toNat<(jX g.A1.A0.Mem-(i:Int)).toNat;rw[mp];omega
   ·exfalso;have:(jO g.A1.A0.Mem i).2=true:=(Kd ok.mY i8).2;rw[this]at hb;cases hb
  ·have e6:¬(i:Int)<((8:Nat):Int):=oN e6;have i8:i=8:=by omega
   subst i8;have e3:(nV g.A1).take 8=nV g.A1:=fQ (by omega);have e2:HW g={g with A7:=gq (oC g.A7 (nV g.A1)) (tz g.A1)}:=by
    unfold HW;rw[Ng]
   rw[e2,e3];generalize nV g.A1=L;exact cf (Zal (g:={g with A7:=oC g.A7 L}) ok.rl) λy hy=>aw hy
theorem Wd(n:Int):(if 64<(if 0>n then 0 else n)then 64 else if 0>n then 0 else n)=((runN n:Nat):Int):=by
 unfold runN;split<;>split<;>omega
theorem xaP(ok:ft g)(hc:U clock)(n:Int):(Rc (mv g) n clock).w λr=>r=mv (jY g n clock):=by
 have rn:runN n<=64:=by unfold runN;omega
 have er:Dt g=jA g:=by
  unfold jA;simp only[Dt,We,Tree.m]
  by_cases h1:g.A1.A4=1
  ·simp[h1]
  ·by_cases h3:g.A1.A4=3
   ·simp[h3]
   ·by_cases ht:g.A2.A4=3
    ·simp[beq_false_of_ne h1,beq_false_of_ne h3,h1,h3,ht]
    ·simp[beq_false_of_ne h1,beq_false_of_ne h3,beq_false_of_ne ht,h1,h3,ht]
 unfold Rc;refine ai λx0 h0=>?_;have h0:x0=jA g:=h0.trans er;subst h0;refine aa (λh=>aw ?_) (λh=>aa (λh1=>?_) (λh1=>?_))
 ·have h:jA g= -1:=bt h;unfold jA at h;unfold jY;split at h
  ·omega
  ·rename_i q1
   split at h
   ·omega
   ·rename_i q2
    rw[iFN q1,iFN q2]
 ·have h1:jA g=1:=bt h1;have q:¬(g.A1.A4=1\/g.A1.A4=3)/\g.A2.A4=3:=by
   unfold jA at h1;split at h1
   ·omega
   ·rename_i q1
    split at h1
    ·rename_i q2;exact⟨q1,q2⟩
    ·omega
  have gt:=ok.tg (.inr q.2);have e:jY g n clock={g with A2:={g.A2 with A0:=kW g.A2.A0 clock (runN n)}}:=by unfold jY;rw[iFN q.1,iFP q.2]
  rw[e];refine ed (inv:=λz:Int×bj=>∃i:Nat,z.1=i/\i<=runN n/\z.2=kW g.A2.A0 clock i) (μ:=λz=>(1000-z.1).toNat) ⟨0,rfl,bC _,rfl⟩ (by simp only[Q7];omega) ?_;rintro⟨_,y⟩ ⟨i,rfl,hi,hy⟩;simp only at hy;subst hy;refine aa (λbc=>?_) (λe6=>aa (λhp=>?_) (λhp=>aw ?_))
  ·have bc:(i:Int)<(if 64<(if 0>n then 0 else n)then 64 else if 0>n then 0 else n):=oY bc;rw[Wd]at bc;have ew:=lh (i:=i) (by omega);refine bz (Z9b (FZ gt hc i) hc) (ai λx1 h1=>dj ⟨⟨i+1,ew,by omega,?_⟩,by show(1000-wrap .i64 ((i:Int)+1)).toNat<(1000-(i:Int)).toNat;rw[ew];omega⟩);show x1.1=_;rw[h1];rfl
  ·exfalso;have hp:g.A2.A4=1:=bt hp;omega
  ·have e6:¬(i:Int)<(if 64<(if 0>n then 0 else n)then 64 else if 0>n then 0 else n):=oN e6;rw[Wd]at e6;have:i=runN n:=by omega
   subst this
   rfl
 ·have hn:¬jA g= -1:=bf h;have h1:¬jA g=1:=bf h1;have q:g.A1.A4=1\/g.A1.A4=3:=by
   unfold jA at hn h1;split at hn
   ·assumption
   ·rename_i q1
    rw[iFN q1]at h1;split at hn
    ·rename_i q2;rw[iFP q2]at h1;exact absurd rfl h1
    ·exact absurd rfl hn
  have e:jY g n clock={g with A1:={g.A1 with A0:=kW g.A1.A0 clock (runN n),B1:=rJ g.A1 (kW g.A1.A0 clock (runN n))}}:=iFP q;rw[e];refine ed (inv:=λz:Int×bj=>∃i:Nat,z.1=i/\i<=runN n/\z.2=kW g.A1.A0 clock i) (μ:=λz=>(1000-z.1).toNat) ⟨0,rfl,bC _,rfl⟩ (by simp only[Q7];omega) ?_;rintro⟨_,y⟩ ⟨i,rfl,hi,hy⟩;simp only at hy;subst hy;refine aa (λbc=>?_) (λe6=>?_)
  ·have bc:(i:Int)<(if 64<(if 0>n then 0 else n)then 64 else if 0>n then 0 else n):=oY bc;rw[Wd]at bc;have ew:=lh (i:=i) (by omega);refine bz (Z9b (FZ ok.src hc i) hc) (ai λx1 h1=>dj ⟨⟨i+1,ew,by omega,?_⟩,by show(1000-wrap .i64 ((i:Int)+1)).toNat<(1000-(i:Int)).toNat;rw[ew];omega⟩);show x1.1=_;rw[h1];rfl
  ·have e6:¬(i:Int)<(if 64<(if 0>n then 0 else n)then 64 else if 0>n then 0 else n):=oN e6;rw[Wd]at e6;have hi:i=runN n:=by omega
   subst hi;have sg:=FZ ok.src hc (runN n);refine aa (λhp=>?_) (λhp=>aw ?_)
   ·have hp:g.A1.A4=1:=bt hp;obtain⟨c1,c2,_⟩:=Z9p ok.mY sg.lu;refine bz c1 (ai λx2 h2=>?_);have h2:x2=Bj g.A1.A0.Mem (kW g.A1.A0 clock (runN n)).Mem:=h2;rw[<-h2]at c2;obtain⟨n1,n2⟩:=qaO (c:=g.A1.B1) (l:=x2) (by have:=ok.dl;omega) (by omega);refine bz n1 (ai λx3 h3=>aw ?_);have h3:x3=VV g.A1.B1 x2:=h3;rw[n2,h2]at h3;subst h3;have en:rJ g.A1 (kW g.A1.A0 clock (runN n))={g.A1.B1 with A6:=nn g.A1.B1.A6 (Bj g.A1.A0.Mem (kW g.A1.A0 clock (runN n)).Mem)}:=iFP hp;rw[en];rfl
   ·have hp:¬g.A1.A4=1:=bf hp;have en:rJ g.A1 (kW g.A1.A0 clock (runN n))=g.A1.B1:=iFN hp;rw[en];rfl
theorem Zts(ok:ft g)(b:Bool)(i:Int):(Kj (mv g) b i).w λr=>(lI (lV g b) i->r=(pC (lV g b) i,true,mv (oD g b i)))/\(¬lI (lV g b) i->r.2.1=false/\r.2.2=mv g):=by
 have cn:∀l:List ep,lI l i->(bX 54 54&&bN 0 54&&decide (0<=i/\i<(l.length:Int)))=true:=λl hl=>by rw[dY (show 0<=i/\i<(l.length:Int) from hl)];rfl
 have fin:∀l:List ep,l.length<=64->lI l i->wrap .i64 (i+1)=i+1/\l.take i.toNat++l.drop (i+1).toNat=kE l i/\(fS (i-0)/\fS (wrap .i64 (i+1)-(i+1))/\fS ((l.length:Int)-wrap .i64 (i+1))):=λl hl hi=>by
  obtain⟨h0,h1⟩:=hi;have ew:wrap .i64 (i+1)=i+1:=wi (by omega) (by omega);refine⟨ew,?_,?_⟩
  ·unfold kE;rw[show(i+1).toNat=i.toNat+1 by omega]
  ·rw[ew];exact⟨(h0:(0:Int)<=i),(eY _:i+1<=i+1),(show i+1<=(l.length:Int) by omega)⟩
 unfold Kj;refine aa (λhb=>ai λ_ _=>aa (λh=>aw ?_) (λh=>aa (λh2=>aw ?_) λh2=>?_)) (λhb=>ai λ_ _=>aa (λh=>aw ?_) (λh=>aa (λh2=>aw ?_) λh2=>?_))
 all_goals subst hb
 ·have h:i<0:=oY h;exact⟨λq=>absurd q.1 (by omega),λ_=>⟨rfl,rfl⟩⟩
 ·have h2:i>=(g.C0.length:Int):=oY h2;exact⟨λq=>absurd q.2 (by show¬i<(g.C0.length:Int);omega),λ_=>⟨rfl,rfl⟩⟩
 ·have h:¬i<0:=oN h;have h2:¬i>=(g.C0.length:Int):=oN h2;have hi:lI g.C0 i:=⟨by omega,by omega⟩;obtain⟨e1,e2,e3⟩:=fin g.C0 ok.bl hi;refine ar (cn _ hi) (bz e3 (ai λx3 h3=>aw ⟨λ_=>?_,λq=>absurd hi q⟩));have h3:x3=g.C0.take i.toNat++g.C0.drop (wrap .i64 (i+1)).toNat:=h3;rw[e1,e2]at h3;have el:oD g true i={g with C0:=kE g.C0 i}:=iFP hi;rw[el,h3];rfl
 ·have h:i<0:=oY h;exact⟨λq=>absurd q.1 (by omega),λ_=>⟨rfl,rfl⟩⟩
 ·have h2:i>=(g.A7.length:Int):=oY h2;exact⟨λq=>absurd q.2 (by show¬i<(g.A7.length:Int);omega),λ_=>⟨rfl,rfl⟩⟩
 ·have h:¬i<0:=oN h;have h2:¬i>=(g.A7.length:Int):=oN h2;have hi:lI g.A7 i:=⟨by omega,by omega⟩;obtain⟨e1,e2,e3⟩:=fin g.A7 ok.fl hi;refine ar (cn _ hi) (bz e3 (ai λx3 h3=>aw ⟨λ_=>?_,λq=>absurd hi q⟩));have h3:x3=g.A7.take i.toNat++g.A7.drop (wrap .i64 (i+1)).toNat:=h3;rw[e1,e2]at h3;have el:oD g false i={g with A7:=kE g.A7 i}:=iFP hi;rw[el,h3];rfl
theorem Zx8(ok:ft g)(b:Bool)(i:Int):(Kj (mv g) b i).w λr=>r.2.2=mv (oD g b i):=by
 have t:=Tree.pp (Zts ok b i);refine(Kj (mv g) b i).mono (λr (h:(lI (lV g b) i->r=(pC (lV g b) i,true,mv (oD g b i)))/\(¬lI (lV g b) i->r.2.1=false/\r.2.2=mv g))=>?_) (Zts ok b i)
 by_cases hi:lI (lV g b) i
 ·rw[h.1 hi]
 ·have e:oD g b i=g:=iFN hi;rw[(h.2 hi).2,e]
theorem Zxg(ok:ft g)(b:Bool)(i:Int):(Rd (mv g) b i).w λr=>r=mv (mX g b i):=by
 unfold Rd;refine cf (Zts ok b i) λx0 ⟨t1,t2⟩=>?_
 by_cases hi:lI (lV g b) i
 ·rw[t1 hi];have e:mX g b i=Nb (oD g b i) b (pC (lV g b) i):=iFP hi;rw[e];have ox:=(ok.F4 b).2 _ (Ga hi);have ol:=Zs5 ok b i;generalize pC (lV g b) i=x at ox;generalize oD g b i=l at ol;refine aa (λh=>by cases h) λ_=>?_
  cases b
  ·exact aa (λ_=>cf (zr ol ox) λy hy=>aw hy) λh=>by cases h
  ·have et:Nb l true x=if l.A1.A4=2/\x.C2=3 then{l with A1:={l.A1 with A4:=4}}else l:=iFP rfl
   rw[et];refine aa (λh=>by cases h) λ_=>aa (λh1=>aa (λh2=>aw ?_) (λh2=>aw ?_)) (λh1=>aw ?_)
   ·rw[iFP (show l.A1.A4=2/\x.C2=3 from⟨bt h1,bt h2⟩)];rfl
   ·rw[iFN (show¬(l.A1.A4=2/\x.C2=3) fromλq=>bf h2 q.2)]
   ·rw[iFN (show¬(l.A1.A4=2/\x.C2=3) fromλq=>bf h1 q.1)]
 ·obtain⟨a,c⟩:=t2 hi;have e:mX g b i=g:=iFN hi;rw[e];refine aa (λ_=>aw c) λh=>?_;rw[a]at h;cases h
theorem Zm1(h:jR x):(Re x).w λr=>r=x:=by
 unfold Re;have cm:(Q1 x.A0).w λr=>r=x.A0:=by
  unfold Q1;exact bz (show x.A0.Mem.length<=35184372088832 by rw[h.mem];decide) (ai λy hy=>by have hy:y=x.A0.Mem:=hy;subst hy;exact aw rfl)
 refine cf cm λy hy=>?_;subst hy;refine bz (show x.A3.length<=1000000000000 by have:=h.rl;omega) (ai λz hz=>?_);have hz:z=x.A3:=hz;subst hz;exact aw rfl
theorem vr(ok:ft g)(b:Bool)(i:Int):(Rf (mv g) b i).w λr=>r=mv (Ai g b i):=by
 have cn:∀l:List ep,lI l i->(bX 54 54&&bN 0 54&&decide (0<=i/\i<(l.length:Int)))=true:=λl hl=>by rw[dY (show 0<=i/\i<(l.length:Int) from hl)];rfl
 unfold Rf;refine aa (λhb=>ai λ_ _=>aa (λh=>aa (λh2=>?_) (λh2=>aw ?_)) (λh=>aw ?_)) (λhb=>ai λ_ _=>aa (λh=>aa (λh2=>?_) (λh2=>aw ?_)) (λh=>aw ?_))
 all_goals subst hb
 ·have hi:lI g.C0 i:=⟨oY h,oY h2⟩;have e:Ai g true i={g with C0:=gq g.C0 (pC g.C0 i)}:=iFP hi;rw[e];refine ar (cn _ hi) (cf (Zm1 (x:=pC g.C0 i) (ok.bo _ (Ga hi))) λx1 h1=>?_);subst h1;exact cf (xr _) λy hy=>aw hy
 ·have h2:¬i<(g.C0.length:Int):=oN h2;have e:Ai g true i=g:=iFN (λq=>h2 q.2);rw[e]
 ·have h:¬i>=0:=oN h;have e:Ai g true i=g:=iFN (λq=>h q.1);rw[e]
 ·have hi:lI g.A7 i:=⟨oY h,oY h2⟩;have e:Ai g false i={g with A7:=gq g.A7 (pC g.A7 i)}:=iFP hi;rw[e];refine ar (cn _ hi) (cf (Zm1 (x:=pC g.A7 i) (ok.fo _ (Ga hi))) λx1 h1=>?_);subst h1;exact cf (QQ _) λy hy=>aw hy
 ·have h2:¬i<(g.A7.length:Int):=oN h2;have e:Ai g false i=g:=iFN (λq=>h2 q.2);rw[e]
 ·have h:¬i>=0:=oN h;have e:Ai g false i=g:=iFN (λq=>h q.1);rw[e]
theorem Zqm(hl:l.length<=64)(h:∀x∈l,jR x):(Rg l).w λr=>r=l:=by
 unfold Rg;refine ed (inv:=λz:Int×List ep=>∃i:Nat,z.1=i/\i<=l.length/\z.2=l.take i) (μ:=Q72 l) ⟨0,rfl,bC _,rfl⟩ (cN _) ?_;rintro⟨_,y⟩ ⟨i,rfl,hi,hy⟩;simp only at hy;subst hy;refine aa (λbc=>?_) (λe6=>aw ?_)
 ·have bc:i<l.length:=by have:(i:Int)<(l.length:Int):=oY bc;omega
  have ew:=lh (i:=i) (by omega);have eg:l.getD (dA (i:Int)) (RK.dk RK.ae)=l[i]:=by simp[aV,bc]
  have lt:(l.take i).length=i:=by rw[aD];omega
  refine ar (by rw[dY (show 0<=(i:Int)/\(i:Int)<(l.length:Int) by omega)];rfl) ?_;rw[eg];refine cf (Zm1 (h _ (fG bc))) λx0 h0=>?_;subst h0;refine ar (dY (by show 328*((l.take i).length+1)<=_;omega)) (dj ⟨⟨i+1,ew,bc,(HZ bc).symm⟩,by simp only[Q72,ew];omega⟩)
 ·have e6:¬(i:Int)<(l.length:Int):=oN e6;exact fQ (by omega)
theorem Zdy{s:fu}(hm:s.A0.Mem.length<=1024)(hd:s.B1.A6.length<=8)(hr:s.A3.length<=8)(hf:s.B7.length<=8):(Rh s).w λr=>r=s:=by
 unfold Rh;have cm:(Q1 s.A0).w λr=>r=s.A0:=by
  unfold Q1;exact bz (show s.A0.Mem.length<=35184372088832 by omega) (ai λy hy=>by have hy:y=s.A0.Mem:=hy;subst hy;exact aw rfl)
 refine cf cm λy hy=>?_;subst hy;refine bz (show s.B1.A6.length<=140737488355328 by omega) (ai λa ha=>bz (show s.A3.length<=1000000000000 by omega) (ai λb hb=>bz (show s.B7.length<=1000000000000 by omega) (ai λc hc=>aw ?_)));have ha:a=s.B1.A6:=ha;have hb:b=s.A3:=hb;have hc:c=s.B7:=hc;subst ha;subst hb;subst hc
 rfl
theorem ft.Du(h:ft g):g.A1.A0.Mem.length<=1024/\g.A2.A0.Mem.length<=1024:=by
 have a:=h.mY.len;have b:=h.tm.len;omega
theorem Zw3(ok:ft g):(Ri g).w λr=>r=g:=by
 obtain⟨l1,l2⟩:=ok.Du;unfold Ri;refine cf (Zdy l1 (by have:=ok.dl;omega) (by have:=ok.rl;omega) ok.sf) λx0 h0=>cf (Zdy l2 ok.tc (by have:=ok.tl;omega) ok.tf) λx1 h1=>cf (Zqm ok.fl ok.fo) λx2 h2=>cf (Zqm ok.bl ok.bo) λx3 h3=>bz (show g.A9.ab.length<=1000000000000 by have:=ok.st.1;omega) (ai λx4 h4=>aw ?_);have h4:x4=g.A9.ab:=h4;subst h0;subst h1;subst h2;subst h3;subst h4
 rfl
theorem Rj{s t:List Int}(hl:s.length<=1000000):(Nh s t).w λr=>r=decide (s=t):=by
 unfold Nh;refine aa (λh=>aw ?_) (λhe=>?_)
 ·have h:¬(s.length:Int)=t.length:=by simpa using h
  exact(dN (λe=>h (by rw[e]))).symm
 ·have he:s.length=t.length:=by
   have:(s.length:Int)=t.length:=by simpa using he
   omega
  refine ed (inv:=λz:Int=>∃i:Nat,z=i/\i<=s.length/\∀j,j<i->s.getD j 0=t.getD j 0) (μ:=Rk s t) ⟨0,rfl,bC _,λj h=>by omega⟩ (cN _) ?_;rintro _ ⟨i,rfl,hi,hj⟩;refine aa (λbc=>?_) (λe6=>aw ?_)
  ·have bc:i<s.length:=by simpa using bc
   have ew:=lh (i:=i) (by omega);refine ar (jb bc) (ar (jb (by omega)) (aa (λhn=>aw ?_) (λheq=>dj ⟨⟨i+1,ew,bc,λj EV=>?_⟩,by simp only[Rk,ew];omega⟩)))
   ·rw[dX]at hn;exact(dN (λe=>nt hn (by rw[e]))).symm
   ·rw[dX]at heq;rcases Nat.lt_succ_iff_lt_or_eq.1 EV with h|h
    ·exact hj j h
    ·subst h;exact BY heq
  ·have e6:s.length<=i:=by simpa using e6
   refine(dY (bR he λj h1 h2=>?_)).symm;have:=hj j (by omega);simpa[aV,h1,h2]using this
theorem Z6l(ok:ft g):(Rl g).w λr=>r=decide (BX g):=by
 unfold Rl;have tl:=ok.tl;refine aa (λh=>bz (show g.A2.A3.length<=1000000000000 by omega) (ai λx hx=>aw ?_)) (λh=>aw ?_)
 ·rw[show x=decide (g.A2.A3=g.A2.B7) from hx.trans (Tree.pp (Rj (s:=g.A2.A3) (t:=g.A2.B7) (by omega))).2];refine decide_eq_decide.2 ⟨λe=>⟨bt h,e⟩,λe=>e.2⟩
 ·exact(dN (λe=>bf h e.1)).symm
theorem Dv(ok:ft g){a:jd}(hc:U a.F2):(Rm g a).w λr=>r=oX g a:=by
 unfold Rm;refine cf (Zw3 ok) λx0 h0=>?_;subst h0;unfold oX;refine aa (λk=>?_) λk=>?_
 ·rw[iFP (bt k)];exact cf (xaP ok hc a.N) λy hy=>aw (by rw[hy];rfl)
 rw[iFN (bf k)];refine aa (λk=>?_) λk=>?_
 ·rw[iFP (bt k)];refine aa (λh1=>aa (λh2=>?_) (λh2=>aw ?_)) (λh1=>aw ?_)
  ·have h1:=bt h1;have h2:x0.A1.B1.B5<10:=oY h2;rw[iFP ⟨h1,h2⟩,FX ok (by omega)];exact cf (Zvk ok (by omega)) λy hy=>aw (by rw[hy];rfl)
  ·have h2:¬x0.A1.B1.B5<10:=oN h2;rw[iFN (λq=>h2 q.2)]
  ·rw[iFN (λq=>bf h1 q.1)]
 rw[iFN (bf k)];refine aa (λk=>?_) λk=>?_
 ·rw[iFP (bt k)];exact cf (qaw ok a.N) λy hy=>aw (by rw[hy];rfl)
 rw[iFN (bf k)];refine aa (λk=>?_) λk=>?_
 ·rw[iFP (bt k)];exact cf (yr ok) λy hy=>aw (by rw[hy];rfl)
 rw[iFN (bf k)];refine aa (λk=>?_) λk=>?_
 ·rw[iFP (bt k)];exact cf (Zxg ok a.C0 a.N) λy hy=>aw (by rw[hy];rfl)
 rw[iFN (bf k)];refine aa (λk=>?_) λk=>?_
 ·rw[iFP (bt k)];exact cf (Zx8 ok a.C0 a.N) λy hy=>aw (by rw[hy];rfl)
 rw[iFN (bf k)];refine aa (λk=>?_) λk=>?_
 ·rw[iFP (bt k)];exact cf (vr ok a.C0 a.N) λy hy=>aw (by rw[hy];rfl)
 rw[iFN (bf k)];refine aa (λk=>?_) λk=>?_
 ·rw [iFP (bt k)];refine cf (Z6l ok) λx8 h8=>aa (λhb=>?_) λhb=>aw ?_
  ·rw[h8]at hb;have hf:BX x0:=oY hb;unfold r7;rw[iFP hf];refine cf (xS ok.st (host:=1) (by decide)) λx9 h9=>?_
   by_cases hc:(mI x0.A9 1 x0.A2.D3).2=true
   ·rw[iFP hc]at h9⊢;subst h9;exact aa (λ_=>cf (xr (g:={x0 with A9:=(mI x0.A9 1 x0.A2.D3).1,A2:={x0.A2 with A4:=3,D3:=(mI x0.A9 1 x0.A2.D3).1.D3}}) (Dl 3)) λy hy=>aw (by rw[hy];rfl)) λh=>by cases h
   ·rw[iFN hc]at h9⊢;subst h9;exact aa (λh=>by cases h) λ_=>aw rfl
  ·rw[h8]at hb;have hf:¬BX x0:=oN hb;unfold r7;rw[iFN hf]
 rw[iFN (bf k)];refine aa (λk=>?_) λk=>?_
 ·rw[iFP (bt k)];exact cf (zS ok.st) λy hy=>aw (by rw[hy];rfl)
 rw[iFN (bf k)];refine aa (λk=>?_) λk=>?_
 ·rw[iFP (bt k)];refine ai λy hy=>aw ?_;have hy:y=mv (Nc x0 a.C0):=hy.trans (Tree.pp (zav (g:=x0) a.C0)).2;rw[hy];rfl
 rw[iFN (bf k)];exact aw rfl
theorem Ge(n:Int):Rn n 128/\(Zba n 128).length=128:=by
 refine⟨by show(128:Int)<=1000000000000;decide,?_⟩;show Tree.V (Ni n 128) (λs=>s.length=128);unfold Ni;refine FV (inv:=λv:Int×List Int=>0<=v.1/\v.1<=128/\v.2.length=v.1.toNat) (μ:=Wf n 128) ⟨eY 0,by decide,rfl⟩ (cN _) λv ⟨a,b,c⟩=>?_;refine lU (λhb=>my λx0 _=>Dk (J9 ?_)) λhb=>mW ?_
 ·have hb:=oY hb;show(0<=wrap .i64 (v.1+1)/\wrap .i64 (v.1+1)<=128/\(v.2++[_]).length=(wrap .i64 (v.1+1)).toNat)/\(128-wrap .i64 (v.1+1)).toNat<(128-v.1).toNat;rw[wi (by omega) (by omega)];refine⟨⟨by omega,by omega,?_⟩,by omega⟩;rw[lA,c];simp;omega
 ·have hb:=oN hb;show(bytesOf v.2).length=128;unfold bytesOf;rw[fJ,c];omega
theorem yS(n:Int):(Ro n).w λr=>r.length=4/\∀b∈r,b.length=128:=by
 unfold Ro;refine ed (inv:=λz:Int×List (List UInt8)=>∃i:Nat,z.1=i/\i<=4/\z.2.length=i/\∀b∈z.2,b.length=128) (μ:=Qhg n) ⟨0,rfl,bC _,rfl,λb hb=>(by cases hb)⟩ (cN _) ?_;rintro⟨_,y⟩ ⟨i,rfl,hi,hl,hb⟩;simp only at hl hb;refine aa (λbc=>?_) (λe6=>aw ?_)
 ·have bc:(i:Int)<4:=oY bc;have ew:=lh (i:=i) (by omega);obtain⟨d1,d2⟩:=Ge (wrap .i64 (n+(i:Int)));refine bz d1 (ai λx0 h0=>ar (dY (by show 16*(y.length+1)<=_;omega)) (dj ⟨⟨i+1,ew,by omega,by simp;omega,λb su=>?_⟩,by simp only[Qhg,ew];omega⟩));rcases List.mem_append.1 su with h|h
  ·exact hb b h
  ·rw[List.mem_singleton.1 h,h0];exact d2
 ·have e6:¬(i:Int)<4:=oN e6;exact⟨by show y.length=4;omega,hb⟩
theorem Zur{s:gu}(hb:s.ab.length=4)(hB:∀b∈s.ab,b.length=128)(hg:0<=s.D3/\s.D3<=2)(ho:s.D3=0->s.D7= -1)(ho2:0<s.D3->0<=s.D7):(Gf s).w λr=>r=true:=by
 unfold Gf;refine aa (λh=>absurd (oY h) (by omega)) λ_=>aa (λh=>absurd (oY h) (by omega)) λ_=>aa (λh=>absurd (oY h) (by omega)) λ_=>aa (λh0=>aa (λh=>absurd (ho (bt h0)) (nt h)) (λ_=>aa (λh=>absurd (oY h) (by have:=bt h0;omega)) (λ_=>?_))) (λh0=>aa (λhp=>aa (λh=>absurd (oY h) (by have:=ho2 (oY hp);omega)) (λ_=>?_)) (λhp=>?_))
 all_goals
  refine ed (inv:=λz:Int=>∃i:Nat,z=i/\i<=s.ab.length) (μ:=Kk s) ⟨0,rfl,bC _⟩ (cN _) ?_;rintro _ ⟨i,rfl,hi⟩;refine aa (λbc=>?_) (λe6=>aw rfl);have bc:i<s.ab.length:=by simpa using bc
  have ew:=lh (i:=i) (by omega);refine ar (jb bc) (aa (λh=>?_) (λ_=>dj ⟨⟨i+1,ew,bc⟩,by simp only[Kk,ew];omega⟩));exfalso;have e:s.ab.getD (dA (i:Int)) (RK.dk RK.str)=s.ab[i]:=by simp[aV,bc]
  rw[e,hB _ (fG bc)]at h
  cases h
theorem Zx9{b:List (List UInt8)}(hb:b.length=4)(hB:∀x∈b,x.length=128):(Rp b).w λr=>r=(⟨b,0,-1⟩,true):=by
 unfold Rp;refine ar (dY (by omega)) (cf (Zur (s:=⟨b,0,-1⟩) hb hB ⟨eY 0,by show(0:Int)<=2;decide⟩ (λ_=>rfl) (λh=>absurd h (by show¬(0:Int)<0;decide))) λx hx=>?_);subst hx;exact aa (λh=>by cases h) λ_=>aw rfl
theorem vS{b:List (List UInt8)}(hb:b.length=4)(hB:∀x∈b,x.length=128):(Kl ⟨b,0,-1⟩ 0 0).w λr=>r=(⟨b,1,0⟩,true):=by
 unfold Kl;refine cf (Zur (s:=⟨b,0,-1⟩) hb hB ⟨eY 0,by show(0:Int)<=2;decide⟩ (λ_=>rfl) (λh=>absurd h (by show¬(0:Int)<0;decide))) λx hx=>?_;subst hx;exact aa (λh=>by cases h) λ_=>aa (λh=>by cases h) λ_=>aa (λh=>by cases h) λ_=>aa (λh=>by cases h) λ_=>aw rfl
theorem qaQ{m:bj}(hm:gy 8 m){b:List (List UInt8)}(hb:b.length=4)(hB:∀x∈b,x.length=128):(Rq m ⟨b,1,0⟩).w λr=>r=(wm m b,true):=by
 have hs:Bk ⟨b,1,0⟩:=⟨hb,hB,by show(1:Int)<=1;decide,by show(1:Int)<=2;decide,by show(0:Int)<=0;decide⟩;have mp:jX m.Mem=((8:Nat):Int):=Dj (P:=8) hm.lu.len (by decide);have ml:=hm.lu.len;unfold Rq;refine bz (Tree.pp (zaf hm.ok.target.2)).1 (ai λx0 h0=>?_);have h0:x0=true:=h0.trans hm.may;subst h0;refine aa (λh=>by cases h) λ_=>cf (Zwh hs) λx1 h1=>?_;subst h1;refine aa (λh=>by cases h) λ_=>aa (λh=>by cases h) λ_=>?_;obtain⟨b1,b2⟩:=zas (P:=8) (by decide) (by decide);obtain⟨n1,n2⟩:=xaN (P:=8) (by decide) (by decide);have cm:(Q1 m).w λr=>r=m:=by
  unfold Q1;exact bz (show m.Mem.length<=35184372088832 by omega) (ai λy hy=>by have hy:y=m.Mem:=hy;subst hy;exact aw rfl)
 refine ai λx2 h2=>?_;have h2:x2=((8:Nat):Int):=h2.trans mp;subst h2;refine bz b1 (ai λx3 h3=>?_);have h3:x3=(⟨cO 8 true,0,0⟩,true):=h3.trans b2;subst h3;refine aa (λh=>by cases h) λ_=>cf cm λx4 h4=>?_;subst h4;refine ar (by rw[dY (by decide)];rfl) (ar (by rw[dY (by decide)];rfl) (bz n1 (ai λx5 h5=>bz (show b.length<=1000000000000 by omega) (ai λx6 h6=>aw ?_))));have h5:x5=cO (32*8) 0:=h5.trans n2;have h6:x6=b:=h6;subst h5;subst h6
 rfl
theorem Zrd(kind:Int)(prog:List Int)(hl:prog.length*8<=reachBytes)(h60:prog.length<=60):(Rr kind prog).w λr=>∃m b,r=(wm m b,m,true)/\gy 8 m/\b.length=4/\∀x∈b,x.length=128:=by
 unfold Rr;have mg:=(Znn kind prog hl h60).1;refine bz (Tree.pp (Zsg kind prog hl h60)).1 (ai λx0 h0=>?_);have h0:x0=VW kind prog:=h0;rw[<-h0]at mg;refine cf (yS 1) λx1 ⟨k1,k2⟩=>cf (Zx9 k1 k2) λx2 h2=>?_;subst h2;refine cf (vS k1 k2) λx3 h3=>?_;subst h3;refine cf (qaQ mg k1 k2) λx4 h4=>aw ?_;subst h4;exact⟨x0,x1,rfl,mg,k1,k2⟩
theorem zaw(n k:Int):0<=Wg n k:=by
 show Tree.V (Wh n k) (λx=>0<=x);unfold Wh;refine my λx hx=>mW ?_;have r:0<=x.1/\x.1<18446744073709551616:=by
  rw[hx];show 0<=wrap .u64 _/\wrap .u64 _<_;rw[wrap_u64];omega
 show 0<=wrap .i64 (x.1.fdiv 2);rw[Int.fdiv_eq_ediv_of_nonneg _ (by decide),wrap_i64];omega
theorem Rs(a:Int):0<=bm .i64 a 1/\bm .i64 a 1<2:=by
 have h:(dR 64 a&&&dR 64 1).toNat<=1:=by
  rw[BitVec.toNat_and];exact Nat.and_le_right
 show 0<=wrap .i64 ((dR 64 a&&&dR 64 1).toNat:Int)/\wrap .i64 ((dR 64 a&&&dR 64 1).toNat:Int)<2;rw[wi (by omega) (by omega)];omega
theorem zaQ{x:Int}(h:0<=x)(k:Int):0<=bn .i64 x k:=by
 unfold bn;exact Int.fdiv_nonneg h (Int.le_of_lt (Int.pow_pos (by decide)))
theorem Zxr(n:Int):(Rt n).w λa=>U a.F2:=by
 unfold Rt;refine ai λx0 h0=>?_;have x0p:0<=x0:=by rw[h0];exact zaw n 12
 have s0:=zaQ x0p 8;have t0:=Int.tmod_nonneg 6 s0;have t1:=Int.tmod_lt_of_pos (bn .i64 x0 8) (b:=6) (by decide);have a1:=Rs (bn .i64 x0 8)
 repeat'(first
  |exact aw (fv _)
  |refine ar (Bool.and_eq_true_iff.2 ⟨rfl,dY a1⟩) ?_
  |refine ar (Bool.and_eq_true_iff.2 ⟨rfl,dY ⟨t0,t1⟩⟩) ?_
  |refine aa (λ_=>?_) (λ_=>?_))
theorem Ak(a:bj)(ha:a.Mem.length<=1000000000000):(Ru a a).w (λb=>b=true):=by
 have Z3m:∀s:List Int,s.length<=1000000000000->Nj s s=true:=λs hb=>by
  have h:(Gg s s).w λr=>r=true:=by
   unfold Gg;refine aa (λh=>by simp at h) (λ_=>?_);refine ed (inv:=λz:Int=>∃i:Nat,z=i/\i<=s.length) (μ:=H4 s s) ⟨0,rfl,bC _⟩ (cN _) ?_;rintro _ ⟨i,rfl,hi⟩;refine aa (λbc=>?_) (λe6=>aw rfl);have bc:i<s.length:=by simpa using bc
   have ew:=lh (i:=i) (by omega);refine ar (jb bc) (ar (jb bc) (aa (λh=>by simp at h) (λ_=>dj ⟨⟨i+1,ew,bc⟩,by simp only[H4,ew];omega⟩)))
  exact(Tree.pp (W:=λr=>r=true) h).2
 unfold Ru
 repeat'(first
  |refine aa (λ_=>?_) (λh=>absurd h (by simp[eqs,Rv];done))
  |exact bz ha (ai λx hx=>by rw[hx];exact Z3m _ ha)
  |refine bz ha (ai λx hx=>aa (λ_=>?_) (λh=>by rw[hx,Z3m _ ha]at h;cases h))
  |exact rfl)
 all_goals(show(_==_)=true;simp)
theorem qT{m:bj}(h:Inv nc m g)(hk:True){l:List jd}(hl:l.length<=200)(hu:∀a∈l,U a.F2)(hn:nc=true->∀a∈l,a.C2≠10)(h1:∀a∈l,a.C2≠1):(Rw g l).w λr=>r=wo g l/\Inv nc m r:=by
 unfold Rw;refine cf (Zw3 h.1) λx0 h0=>?_;subst h0;refine ed (inv:=λz:Int×cj=>∃i:Nat,z.1=i/\i<=l.length/\z.2=wo x0 (l.take i)/\Inv nc m z.2) (μ:=Qhw x0 l) ⟨0,rfl,bC _,rfl,h⟩ (cN _) ?_;rintro⟨_,y⟩ ⟨i,rfl,hi,hy,hI⟩;simp only at hy hI;refine aa (λbc=>?_) (λe6=>aw ?_)
 ·have bc:i<l.length:=by have:(i:Int)<(l.length:Int):=oY bc;omega
  have ew:=lh (i:=i) (by omega);have eg:l.getD (dA (i:Int)) (RK.dk RK.ba)=l[i]:=by simp[aV,bc]
  have am:l[i]∈l:=fG bc;refine ar (by rw[dY (show 0<=(i:Int)/\(i:Int)<(l.length:Int) by omega)];rfl) (aa (λh2=>?_) λ_=>?_)
  ·exfalso;have h2:(i:Int)=200:=bt h2;omega
  rw[eg];refine cf (Dv hI.1 (hu _ am)) λx1 e1=>dj ⟨⟨i+1,ew,bc,?_,?_⟩,by simp only[Qhw,ew];omega⟩
  ·show x1.1=_;rw[e1,hy,HZ bc,Znf];rfl
  ·show Inv nc m x1.1;rw[e1];have:=Wa hI (hu _ am) (λe=>hn e _ am);have eq:wj m y l[i]=m:=iFN (λq=>h1 _ am q.1)
   rwa [eq]at this
 ·have e6:¬(i:Int)<(l.length:Int):=oN e6;have:i=l.length:=by omega
  subst this;rw[List.take_length]at hy;exact⟨hy,hI⟩
theorem Rx(g:cj):Dt g=jA g:=by
 unfold jA;simp only[Dt,We,Tree.m]
 by_cases h1:g.A1.A4=1
 ·simp[h1]
 ·by_cases h3:g.A1.A4=3
  ·simp[h3]
  ·by_cases ht:g.A2.A4=3
   ·simp[beq_false_of_ne h1,beq_false_of_ne h3,h1,h3,ht]
   ·simp[beq_false_of_ne h1,beq_false_of_ne h3,beq_false_of_ne ht,h1,h3,ht]
theorem Zt4(ok:ft g):(Km g).w λr=>(jA g=0->r=(g.A1.A0,true))/\(jA g=1->r=(g.A2.A0,true))/\(jA g<0->r.2=false):=by
 obtain⟨l1,l2⟩:=ok.Du;have cm:∀m:bj,m.Mem.length<=1024->(Q1 m).w λr=>r=m:=λm hm=>by
  unfold Q1;exact bz (show m.Mem.length<=35184372088832 by omega) (ai λy hy=>by have hy:y=m.Mem:=hy;subst hy;exact aw rfl)
 unfold Km;refine ai λx0 h0=>?_;have h0:x0=jA g:=h0.trans (Rx g);subst h0;refine aa (λh=>cf (cm _ l1) λy hy=>aw ?_) λh=>aa (λh1=>cf (cm _ l2) λy hy=>aw ?_) λh1=>aw ?_
 ·have h:=bt h;rw[hy];exact⟨λ_=>rfl,λq=>by omega,λq=>by omega⟩
 ·have h1:=bt h1;rw[hy];exact⟨λq=>by omega,λ_=>rfl,λq=>by omega⟩
 ·exact⟨λq=>absurd q (bf h),λq=>absurd q (bf h1),λ_=>rfl⟩
theorem xaw:(Ry).w λr=>r=Dq:=by
 unfold Ry;refine ed (inv:=λz:Int×List jd=>∃i:Nat,z.1=i/\i<=64/\z.2=oZ 2 0::oZ 3 32::cO i (oZ 5 0)) (μ:=Qh3) ⟨0,rfl,bC _,rfl⟩ (cN _) ?_;rintro⟨_,y⟩ ⟨i,rfl,hi,hy⟩;simp only at hy;have yl:y.length=i+2:=by rw[hy];simp
 refine aa (λbc=>?_) (λe6=>ar (dY (by show 24*(y.length+1)<=_;omega)) (aw ?_))
 ·have bc:(i:Int)<64:=oY bc;have ew:=lh (i:=i) (by omega);refine ar (dY (by show 24*(y.length+1)<=_;omega)) (dj ⟨⟨i+1,ew,by omega,?_⟩,by simp only[Qh3,ew];omega⟩);show y++[oZ 5 0]=_;rw[hy,fD];rfl
 ·have e6:¬(i:Int)<64:=oN e6;have:i=64:=by omega
  subst this;show y++[oZ 8 0]=_;rw[hy];rfl
theorem Zbf:∀a∈Dq,U a.F2/\a.C2≠10/\a.C2≠1:=by
 intro a ha;have k:∀x y:Int,x≠10->x≠1->U (oZ x y).F2/\(oZ x y).C2≠10/\(oZ x y).C2≠1:=λx y h1 h2=>⟨⟨eY 0,by show(0:Int)<4294967296;decide⟩,h1,h2⟩;unfold Dq at ha;rcases List.mem_cons.1 ha with rfl|ha
 ·exact k _ _ (by decide) (by decide)
 rcases List.mem_cons.1 ha with rfl|ha
 ·exact k _ _ (by decide) (by decide)
 rcases List.mem_append.1 ha with ha|ha
 ·rw[fE ha];exact k _ _ (by decide) (by decide)
 ·rw[List.mem_singleton.1 ha];exact k _ _ (by decide) (by decide)
theorem Zyt:Dq.length=67:=by
 unfold Dq;simp only[dD,lA,cS,List.length_nil]
theorem qad:Rz.w λr=>r=true:=by
 unfold Rz;refine cf (Zrd 2 [0] (by decide) (by decide)) λx0 ⟨m,b,e,hm,k1,k2⟩=>?_;subst e;have calm:=yR hm k1 k2;refine aa (λh=>by cases h) λ_=>ai λx1 h1=>?_;have h1:x1=0:=h1.trans ((Rx _).trans (QO (.inl rfl)));subst h1;refine aa (λh=>by cases h) λ_=>cf xaw λx2 h2=>?_;subst h2;refine cf (qT calm.inv trivial (by rw[Zyt];decide) (λa ha=>(Zbf a ha).1) (λ_ a ha=>(Zbf a ha).2.1) (λa ha=>(Zbf a ha).2.2)) λx3 ⟨e3,i3⟩=>?_;obtain⟨_,q2,q3,q4,q5⟩:=Gd calm (by decide);rw[<-e3]at q2 q3 q4 q5;refine cf (Zt4 i3.1) λx4 ⟨_,m2,_⟩=>?_;have m2:=m2 q2;subst m2;refine cf (Dv i3.1 (a:={C2:=99,N:=0,C0:=false,F2:=0}) ⟨by decide,by decide⟩) λx5 h5=>ai λx6 h6=>?_;have h6:x6=1:=h6.trans ((Rx _).trans q2);subst h6;have h5:x5.2=false:=by rw[h5];rfl
 refine aa (λ_=>aa (λ_=>?_) (λh=>by cases h)) (λh=>by cases h);show(Tree.an (Kn x3.A2.A0 m) _).w _;rw[q3];have ml:=hm.lu.len;refine cf (Ak m (by omega)) λx7 h7=>aa (λ_=>aw ?_) (λh=>by rw[h7]at h;cases h);rw[h5];rfl
theorem Ko{W:Bool->Prop}(h:W true):(Tree.an Nk (.lv Nl λx=>.lf x)).w W:=by
 have a:=Tree.pp qad;exact bz a.1 (ai λx hx=>aw (by rw[show x=true from hx.trans a.2];exact h))
theorem RA{α:Type}{W:Bool->Prop}{V:α->Prop}(h:W true):(Tree.an Nk (.lv Nl λx=>.lf (Sum.inr x:α⊕Bool))).w (Sum.elim V W):=by
 have a:=Tree.pp qad;exact bz a.1 (ai λx hx=>aw (by rw[show x=true from hx.trans a.2];exact h))
theorem Gh{m:bj}(g:gy 8 m)(hc:U clock):Qri m clock/\P4 m clock=BW m clock:=by
 refine⟨?_,(Znc g.v clock).symm⟩;have:(M5 m clock).w (λ_=>True):=by
  unfold M5;refine cf (y7 g.ok) λx0 ⟨o,_⟩=>?_;exact bz (Tree.pp (zaG x0)).1 (ai λx1 _=>aa (λ_=>trivial) λ_=>bz (Tree.pp (Y2 o hc)).1 (ai λ_ _=>trivial))
 exact(Tree.pp this).1
theorem Wi{t:lG}{ts:List lG}(h:Fits (t::ts) es):∃d ds,es=d::ds/\Fit t d/\Fits ts ds:=by
 cases es with
 |nil=>exact absurd h (by simp[Fits])
 |cons d ds=>unfold Fits at h;exact⟨d,ds,rfl,h.1,h.2⟩
theorem xT(h:Fits [] es):es=[]:=by
 cases es with
 |nil=>rfl
 |cons d ds=>exact absurd h (by simp[Fits])
theorem Jaf{x:Int}(h:u32.min<=x/\x<=u32.max):U x:=⟨h.1,by have:u32.max=4294967295:=rfl;have:=h.2;omega⟩
theorem gr.Jag{k:RK}{es:List (List D)}{fr:Bool}{l:List (RK.T k)}(h:es=l.map (RK.cells k)):gr (.sl k.size (.gen es) fr) (.sl k.size (.ao k l) false):=by
 intro c w v hv;obtain⟨a,cap,hv,hc,gz⟩:=hv;have he:(ag.gen es).l=(ag.ao k l).l:=by subst h;rfl
 rw[he]at hv hc gz;refine⟨a,cap,hv,hc,?_⟩;rcases gz with gz|⟨b,off,arr,ty,fz,ha,hI,hf,hh,hE⟩
 ·exact .inl gz
 ·exact .inr ⟨b,off,arr,ty,fz,ha,hI,(λe=>by cases e),hh,hE⟩
theorem ki.rfl:∀{l:List D},ki l l
 |[]=>trivial
 |_::_=>⟨gr.rfl,ki.rfl⟩
theorem Al(a:List Int)(h:a.length<=1000000000000):(H5 a a).w λr=>r=true:=by
 unfold H5;refine aa (λh=>by simp at h) (λ_=>?_);refine ed (inv:=λz:Int=>∃i:Nat,z=i/\i<=a.length) (μ:=Kp a a) ⟨0,rfl,bC _⟩ (cN _) ?_;rintro _ ⟨i,rfl,hi⟩;refine aa (λbc=>?_) (λe6=>aw rfl);have bc:i<a.length:=by simpa using bc
 have ew:=lh (i:=i) (by omega);exact ar (jb bc) (ar (jb bc) (aa (λh=>by simp at h) (λ_=>dj ⟨⟨i+1,ew,bc⟩,by simp only[Kp,ew];omega⟩)))
theorem Gi(a:List Bool)(h:a.length<=1000000000000):(Nn a a).w λr=>r=true:=by
 unfold Nn;refine aa (λh=>by simp at h) (λ_=>?_);refine ed (inv:=λz:Int=>∃i:Nat,z=i/\i<=a.length) (μ:=RB a a) ⟨0,rfl,bC _⟩ (cN _) ?_;rintro _ ⟨i,rfl,hi⟩;refine aa (λbc=>?_) (λe6=>aw rfl);have bc:i<a.length:=by simpa using bc
 have ew:=lh (i:=i) (by omega);exact ar (jb bc) (ar (jb bc) (aa (λh=>by simp at h) (λ_=>dj ⟨⟨i+1,ew,bc⟩,by simp only[RB,ew];omega⟩)))
theorem Gj(a:List (List UInt8))(h:a.length<=1000000000000):(No a a).w λr=>r=true:=by
 unfold No;refine aa (λh=>by simp at h) (λ_=>?_);refine ed (inv:=λz:Int=>∃i:Nat,z=i/\i<=a.length) (μ:=RC a a) ⟨0,rfl,bC _⟩ (cN _) ?_;rintro _ ⟨i,rfl,hi⟩;refine aa (λbc=>?_) (λe6=>aw rfl);have bc:i<a.length:=by simpa using bc
 have ew:=lh (i:=i) (by omega);exact ar (jb bc) (ar (jb bc) (aa (λh=>by simp at h) (λ_=>dj ⟨⟨i+1,ew,bc⟩,by simp only[RC,ew];omega⟩)))
structure szS(s:fu):Prop where
 m:s.A0.Mem.length<=2000
 d:s.B1.A6.length<=2000
 r:s.A3.length<=2000
 f:s.B7.length<=2000
def Wj(l:List ep):Prop:=l.length<=2000/\∀x∈l,x.A0.Mem.length<=2000/\x.A3.length<=2000
structure szG(g:cj):Prop where
 s:szS g.A1
 t:szS g.A2
 f:Wj g.A7
 b:Wj g.C0
 st:g.A9.ab.length<=2000
theorem Zgw{s:fu}(h:szS s):(RD s s).w λr=>r=true:=by
 obtain⟨h1,h2,h3,h4⟩:=h;have sI:∀a:List Int,a.length<=2000->H6 a a/\Np a a=true:=λa ha=>⟨by show a.length<=1000000000000;omega,(Tree.pp (Al a (by omega))).2⟩;have sC:(RE s.B1 s.B1).w λr=>r=true:=by
  unfold RE;exact aa (λ_=>aa (λ_=>bz (show s.B1.A6.length<=1000000000000 by omega) (ai λx hx=>aw (hx.trans (Tree.pp (Gi _ (by omega))).2))) (λh=>by simp at h)) (λh=>by simp at h)
 unfold RD;refine aa (λ_=>aa (λ_=>cf (Ak s.A0 (by omega)) λx0 e0=>aa (λ_=>cf sC λx1 e1=>aa (λ_=>bz (sI _ h3).1 (ai λx2 e2=>aa (λ_=>bz (sI _ h4).1 (ai λx3 e3=>aw (e3.trans (sI _ h4).2))) (λh=>?_))) (λh=>?_)) (λh=>?_)) (λh=>by simp at h)) (λh=>by simp at h)
 ·rw[show x2=true from e2.trans (sI _ h3).2]at h;cases h
 ·rw[e1]at h;cases h
 ·rw[e0]at h;cases h
theorem Gk(h:Wj l):(RG l l).w λr=>r=true:=by
 obtain⟨h1,h2⟩:=h;unfold RG;refine aa (λh=>by simp at h) (λ_=>?_);refine ed (inv:=λz:Int=>∃i:Nat,z=i/\i<=l.length) (μ:=Q9b l l) ⟨0,rfl,bC _⟩ (cN _) ?_;rintro _ ⟨i,rfl,hi⟩;refine aa (λbc=>?_) (λe6=>aw rfl);have bc:i<l.length:=by simpa using bc
 have ew:=lh (i:=i) (by omega);have eg:l.getD (dA (i:Int)) (RK.dk RK.ae)=l[i]:=by simp[aV,bc]
 obtain⟨m1,m2⟩:=h2 _ (fG bc);have cn:(bX 54 54&&bN 0 54&&decide (0<=(i:Int)/\(i:Int)<(l.length:Int)))=true:=by
  rw[dY (by omega)];rfl
 rw[eg];generalize l[i]=x at m1 m2;refine ar cn (ar cn (aa (λh=>by simp at h) λ_=>ar cn (ar cn (aa (λh=>by simp at h) λ_=>ar cn (ar cn (aa (λh=>by simp at h) λ_=>ar cn (ar cn (aa (λh=>by simp at h) λ_=>ar cn (ar cn (cf (Ak x.A0 (by omega)) λx0 e0=>aa (λh=>by rw[e0]at h;cases h) λ_=>ar cn (ar cn (bz (show x.A3.length<=1000000000000 by omega) (ai λx1 e1=>aa (λh=>?_) λ_=>dj ⟨⟨i+1,ew,bc⟩,by simp only[Q9b,ew];omega⟩)))))))))))));have e1:x1=true:=e1.trans (Tree.pp (Al x.A3 (by omega))).2;rw[e1]at h;cases h
theorem Bm(h:szG g):(Nq g g).w λr=>r=true:=by
 obtain⟨h1,h2,h3,h4,h5⟩:=h;have sT:(RH g.A9 g.A9).w λr=>r=true:=by
  unfold RH;exact aa (λ_=>aa (λ_=>bz (show g.A9.ab.length<=1000000000000 by omega) (ai λx hx=>aw (hx.trans (Tree.pp (Gj _ (by omega))).2))) (λh=>by simp at h)) (λh=>by simp at h)
 have no:∀{x:Bool} {p:Prop},x=true->x=false->p:=λa b=>by rw[a]at b;cases b
 have sl:∀l,Wj l->Q7h l l/\Qcj l l=true:=λl hl=>Tree.pp (Gk hl);unfold Nq;exact cf (Zgw h1) λx0 e0=>aa (λ_=>cf (Zgw h2) λx1 e1=>aa (λ_=>bz (sl _ h3).1 (ai λx2 e2=>aa (λ_=>bz (sl _ h4).1 (ai λx3 e3=>aa (λ_=>cf sT λx4 e4=>aw e4) (no (e3.trans (sl _ h4).2)))) (no (e2.trans (sl _ h3).2)))) (no e1)) (no e0)
def Nr(s:gu):Prop:=1<=s.ab.length/\s.ab.length<=64/\s.D3<=4611686018427387904/\(∀j,j<s.ab.length->(s.ab.getD j []).length=128)/\(s.D3=0->s.D7= -1)/\(s.D3≠0->0<=s.D7)
theorem RI{s:gu}(h:∀j,j<i->(s.ab.getD j []).length=128)(k:(s.ab.getD i []).length=128):∀j,j<i+1->(s.ab.getD j []).length=128:=λj hj=>by
 rcases Nat.lt_succ_iff_lt_or_eq.1 hj with h1|h1
 ·exact h j h1
 ·rw[h1];exact k
theorem Ze1(s:gu)(hg:0<=s.D3):(Gf s).w λr=>r=true↔Nr s:=by
 have no:∀{p:Prop},¬p->(false=true↔p):=λh=>⟨λe=>(by cases e),λe=>absurd e h⟩;unfold Gf;refine aa (λh=>aw (no λv=>?_)) λh1=>aa (λh=>aw (no λv=>?_)) λh2=>aa (λh=>aw (no λv=>?_)) λh3=>?_
 ·have h:=oY h;have:=v.1;omega
 ·have h:=oY h;have:=v.2.1;omega
 ·have h:=oY h;have:=v.2.2.1;omega
 have h1:=oN h1;have h2:=oN h2;have h3:=oN h3;refine aa (λg0=>aa (λh=>aw (no λv=>?_)) λho=>aa (λgp=>?_) λgp=>?_) λg0=>aa (λgp=>aa (λh=>aw (no λv=>?_)) λho=>?_) λgp=>?_
 ·have g0:s.D3=0:=by simpa using g0
  rw[v.2.2.2.2.1 g0]at h;cases h
 ·have g0:s.D3=0:=by simpa using g0
  have gp:=oY gp;omega
 ·have g0:s.D3=0:=by simpa using g0
  have ho:s.D7= -1:=by simpa using ho
  have go:(s.D3=0->s.D7= -1)/\(s.D3≠0->0<=s.D7):=⟨λ_=>ho,λk=>absurd g0 k⟩;refine ed (inv:=λz:Int=>∃i:Nat,z=i/\i<=s.ab.length/\∀j,j<i->(s.ab.getD j []).length=128) (μ:=Kk s) ⟨0,rfl,bC _,λj hj=>absurd hj (fT _)⟩ (cN _) ?_;rintro _ ⟨i,rfl,hi,ha⟩;refine aa (λbc=>?_) (λe6=>aw ?_)
  ·have bc:i<s.ab.length:=by simpa using bc
   have ew:=lh (i:=i) (by omega);have e:s.ab.getD (dA (i:Int)) (RK.dk RK.str)=s.ab.getD i []:=rfl;refine ar (jb bc) (aa (λh=>aw (no λv=>?_)) (λh=>dj ⟨⟨i+1,ew,bc,RI ha ?_⟩,by simp only[Kk,ew];omega⟩))
   ·rw[e,v.2.2.2.1 i bc]at h;cases h
   ·rw[e]at h;have h:=bne_eq_false_iff_eq.1 h;omega
  ·have e6:¬i<s.ab.length:=by simpa using e6
   obtain rfl:i=s.ab.length:=by omega
   exact⟨λ_=>⟨by omega,by omega,by omega,ha,go.1,go.2⟩,λ_=>rfl⟩
 ·have g0:¬s.D3=0:=by simpa using g0
  have:=v.2.2.2.2.2 g0;exact absurd (oY h) (by omega)
 ·have g0:¬s.D3=0:=by simpa using g0
  have ho:=oN ho;have go:(s.D3=0->s.D7= -1)/\(s.D3≠0->0<=s.D7):=⟨λk=>absurd k g0,λ_=>by omega⟩;refine ed (inv:=λz:Int=>∃i:Nat,z=i/\i<=s.ab.length/\∀j,j<i->(s.ab.getD j []).length=128) (μ:=Kk s) ⟨0,rfl,bC _,λj hj=>absurd hj (fT _)⟩ (cN _) ?_;rintro _ ⟨i,rfl,hi,ha⟩;refine aa (λbc=>?_) (λe6=>aw ?_)
  ·have bc:i<s.ab.length:=by simpa using bc
   have ew:=lh (i:=i) (by omega);have e:s.ab.getD (dA (i:Int)) (RK.dk RK.str)=s.ab.getD i []:=rfl;refine ar (jb bc) (aa (λh=>aw (no λv=>?_)) (λh=>dj ⟨⟨i+1,ew,bc,RI ha ?_⟩,by simp only[Kk,ew];omega⟩))
   ·rw[e,v.2.2.2.1 i bc]at h;cases h
   ·rw[e]at h;have h:=bne_eq_false_iff_eq.1 h;omega
  ·have e6:¬i<s.ab.length:=by simpa using e6
   obtain rfl:i=s.ab.length:=by omega
   exact⟨λ_=>⟨by omega,by omega,by omega,ha,go.1,go.2⟩,λ_=>rfl⟩
 ·have g0:¬s.D3=0:=by simpa using g0
  have gp:=oN gp;exact absurd (show s.D3>0 by omega) gp
def Kq(P:Nat)(m:bj)(s:gu):cj:=
 ⟨⟨1,m,⟨cO P true,0,0⟩,cO P 0,[],s.D3⟩,⟨0,{zM with Mem:=cO (32*P) 0},⟨[],0,0⟩,cO P 0,[],s.D3⟩,[],[],s⟩
def zG:cj:=⟨⟨0,zM,⟨[],0,0⟩,[],[],0⟩,⟨0,zM,⟨[],0,0⟩,[],[],0⟩,[],[],⟨[],0,0⟩⟩
def H7(m:bj)(s:gu)(r:cj×Bool):Prop:=
 (Ag m=true/\Nr s/\s.D3≠0->r=(Kq (oW m.Mem).toNat m s,true))/\(¬(Ag m=true/\Nr s/\s.D3≠0)->r=(zG,false))
theorem qt{m:bj}(h:HO m)(hm:Ag m=true):∃P:Nat,1<=P/\P<=32/\m.Mem.length=32*P/\oW m.Mem=P/\jX m.Mem=P:=by
 obtain⟨e,c⟩:=VL m.Mem h.mem;have a:=((Zwf m).1 hm).1;rcases c with c|⟨P,hP,k⟩
 ·exact absurd (show oW m.Mem<1 by omega) a
 ·have q:=uv k;exact⟨P,hP,k.p2,k.len,by omega,q⟩
theorem zT(h0:1<=P)(h1:P<=32):Qmj P/\Qyv P=(⟨cO P true,0,0⟩,true):=by
 have h:(RJ P).w λr=>r=(⟨cO P true,0,0⟩,true):=by
  unfold RJ;refine aa (λh=>by simp at h;omega) (λ_=>aa (λh=>by simp at h;omega) (λ_=>ar (by rw[dY (by omega)];rfl) ?_));refine ed (inv:=λz:Int×List Bool=>∃i:Nat,z.1=i/\i<=P/\z.2=cO i true++cO (P-i) false) (μ:=Qh P) ⟨0,rfl,bC _,by simp⟩ (cN _) ?_;rintro⟨_,x⟩ ⟨i,rfl,hi,hx⟩;simp only at hx;refine aa (λbc=>?_) (λe6=>?_)
  ·have bc:i<P:=by simpa using bc
   have ew:=lh (i:=i) (by omega);have hl:x.length=P:=by rw[hx];simp;omega
   refine ar (by rw[hl];exact jb bc) (dj ⟨⟨i+1,ew,bc,?_⟩,?_⟩)
   ·show x.set (dA (i:Int)) true=_;rw[hx,dX,fB _ _ (by simp),show P-i=(P-(i+1))+1 by omega,fC,fD];simp
   ·simp only[Qh,ew];omega
  ·have e6:P<=i:=by simpa using e6
   have:i=P:=by omega
   subst this;refine aw ?_;show(({A6:=x,B5:=(0:Int),D6:=(0:Int)}:fc),true)=_;rw[hx];simp
 exact Tree.pp h
theorem qax(h0:1<=P)(h1:P<=32):RL P/\Mb P=cO (32*P) 0:=by
 have h:(Kr P).w λr=>r=cO (32*P) 0:=by
  unfold Kr;have e:wrap .i64 ((P:Int)*32)=(P:Int)*32:=wi (by omega) (by omega);refine aa (λh=>by simp at h;omega) (λ_=>aa (λh=>by simp at h;omega) (λ_=>?_));rw[e];refine ar (by rw[dY (by omega)];rfl) (aw ?_)
  congr 1;omega
 exact Tree.pp h
theorem xt{d:D}(h:Fit (.sl [.int .i64,.int .i64,.bool,.int .u32]) d):∃l:List jd,gr d (.sl 4 (.ao .ba l) false)/\∀a∈l,U a.F2:=by
 unfold Fit at h;obtain⟨es,rfl,hl,h⟩:=h;clear hl;have:∃l:List jd,es=l.map (RK.cells .ba)/\∀a∈l,U a.F2:=by
  induction es with
  |nil=>exact⟨[],rfl,λa ha=>by cases ha⟩
  |cons x es ih=>
   obtain⟨l,h1,h2⟩:=ih (λe he=>h e (by simp[he]));obtain⟨d0,e0,rfl,h0,H0⟩:=Wi (h x (by simp));obtain⟨x0,rfl,b0⟩:=U4 h0;obtain⟨d1,e1,rfl,g1,H1⟩:=Wi H0;obtain⟨x1,rfl,b1⟩:=U4 g1;obtain⟨d2,e2,rfl,g2,H2⟩:=Wi H1;obtain⟨x2,rfl⟩:=xJ g2;obtain⟨d3,e3,rfl,g3,H3⟩:=Wi H2;obtain⟨x3,rfl,b3⟩:=U4 g3;obtain rfl:=xT H3;refine⟨⟨x0,x1,x2,x3⟩::l,by rw[h1];rfl,λq hq=>?_⟩;rcases List.mem_cons.1 hq with hq|hq
   ·rw[hq];exact Jaf b3
   ·exact h2 q hq
 obtain⟨l,rfl,h2⟩:=this;exact⟨l,gr.Jag (k:=.ba) rfl,h2⟩
theorem yt{c:fc}(hb:c.A6.length<=1000000000000):Qcf c/\RM c=fi c.A6 0:=by
  have h:(RN c).w λr=>r=fi c.A6 0:=by
    unfold RN;refine ed (inv:=λz:Int×List Int=> ∃i:Nat,z.1=i/\i<=c.A6.length/\z.2.length<=i/\z.2++fi (c.A6.drop i) i=fi c.A6 0) (μ:=Wk c) ⟨0,rfl,bC _,by simp,by simp⟩ (cN _) ?_;rintro⟨_,x⟩ ⟨i,rfl,hi,hx,hs⟩;simp only at hx hs;refine aa (λbc=> ?_) (λe6=> ?_)
    . have bc:i<c.A6.length:=by simpa using bc
      have ew:=lh (i:=i) (by omega);refine ar (jb bc) (aa (λsA=> ?_) (λsA=> ?_))
      . rw[dX]at sA
        refine ar (dY (by show 8*(x.length+1)<=_;omega)) (dj ⟨⟨i+1,ew,bc,by simp;omega,?_⟩,?_⟩)
        . rw[Zt6 bc sA]at hs
          simp only[aM,eZ];rw[<-hs];simp
        . simp only[Wk,ew];omega
      . rw[dX]at sA
        refine dj ⟨⟨i+1,ew,bc,by show x.length<=_;omega,?_⟩,?_⟩
        . rw[yk bc sA]at hs;simpa using hs
        . simp only[Wk,ew];omega
    . have e6:c.A6.length<=i:=by simpa using e6
      rw[aN e6]at hs;refine aw ?_;show x=_;rw[<-hs];simp [fi]
  exact Tree.pp h
theorem zax{α:Type}{l:List α}(h:i<l.length)(d:α):l.take (i+1)=l.take i++[l.getD i d]:=by
 rw[fP];simp[aV,h]
theorem yT{c:fc}{m:List Int}(hu:∀w∈m,U w)(hb:c.A6.length<=1000000000000):Qnf c m/\Qst c m=pV c m:=by
 have h:(RO c m).w λr=>r=pV c m:=by
  unfold RO;refine ai λv hv=>?_;have hv:v=pW c:=hv;refine aa (λh1=>aw ?_) (λh1=>?_)
  ·have:pW c=false:=by rw[hv]at h1;simpa using h1
   simp[pV,this]
  have hV:pW c=true:=by rw[hv]at h1;simpa using h1
  obtain⟨v1,v2,v3,v4,v5,v6⟩:=Zdc hV;refine aa (λh2=>aw ?_) (λh2=>?_)
  ·have:¬c.B5<=10:=by simpa using h2
   simp[pV,this]
  have h2:c.B5<=10:=by simpa using h2
  refine ai λp hp=>?_;have hp:p=jX m:=hp;refine aa (λh3=>aw ?_) (λh3=>?_)
  ·have:¬jX m=c.A6.length:=by rw[hp]at h3;simpa using h3
   simp[pV,this]
  have h3:jX m=c.A6.length:=by rw[hp]at h3;simpa using h3
  obtain⟨l1,l2⟩:=Zpp h3 v1;have ok:dy c.A6.length m:=⟨l1,bC _,l2,hu⟩;obtain⟨p1,p2⟩:=yt hb;refine bz p1 (ai λx hx=>?_);have hx:x=RM c:=hx;rw[p2]at hx;subst hx;have sl:=P5 c.A6 0;refine ed (inv:=λz:Int×List kz=>∃i:Nat,z.1=i/\i<=(fi c.A6 0).length/\z.2=kp m ((fi c.A6 0).take i)) (μ:=λz=>((fi c.A6 0).length-z.1).toNat) ⟨0,rfl,bC _,by simp[kp]⟩ (by simp only[Qqf];omega) ?_;rintro⟨_,x⟩ ⟨i,rfl,hi,hx⟩;simp only at hx;have hxl:x.length<=i:=by rw[hx];simp[kp];omega
  refine aa (λbc=>?_) (λe6=>?_)
  ·have bc:i<(fi c.A6 0).length:=by simpa using bc
   have ew:=lh (i:=i) (by omega);have hm:(fi c.A6 0).getD i 0∈fi c.A6 0:=by
    have:(fi c.A6 0).getD i 0=(fi c.A6 0)[i]:=by simp[aV,bc]
    rw[this];exact fG bc
   obtain⟨f0,f1⟩:=J8 hm;refine ar (jb bc) (bz (Tree.pp (ZY ok f0 (by omega))).1 (ai λy hy=>ar (jb bc) (ar (dY (by show 24*(x.length+1)<=_;omega)) (dj ⟨⟨i+1,ew,bc,?_⟩,?_⟩))))
   ·have hy:y=EO m ((fi c.A6 0).getD i 0):=hy;rw[<-Vr ok]at hy;rw[hx,zax bc 0,hy];simp[kp]
   ·simp only[ew];omega
  ·have e6:(fi c.A6 0).length<=i:=by simpa using e6
   rw[fQ e6]at hx;refine ar ?_ (aw ?_)
   ·rw[dY (by omega)];rfl
   ·simp[pV,hV,h2,h3,hx,kp]
 exact Tree.pp h
theorem xax{c:fc}(hb:c.A6.length<=1000000000000):Qp4 c ej/\Z38 c ej=(pW c&&(decide (((fi c.A6 0).length:Int)<=ej)||decide (c.B5>=10))):=by
 have h:(RP c ej).w λr=>r=(pW c&&(decide (((fi c.A6 0).length:Int)<=ej)||decide (c.B5>=10))):=by
  unfold RP;refine ai λv hv=>?_;have hv:v=pW c:=hv;subst hv;refine aa (λh1=>?_) (λh1=>aw ?_)
  ·obtain⟨g1,g2⟩:=yt hb;refine bz g1 (ai λx hx=>?_);have hx:x=RM c:=hx;rw[g2]at hx;subst hx;rw[h1];refine aa (λh2=>aw ?_) (λh2=>aw ?_)
   ·rw[h2];rfl
   ·rw[h2];simp
  ·rw[h1];rfl
 exact Tree.pp h
theorem qay{c:fc}{l:List Int}(hb:c.A6.length<=1000000000000)(hl:l.length<=1000000000000):Qpj c l/\Qwx c l={c with A6:=nn c.A6 l}:=by
 have h:(RQ c l).w λr=>r={c with A6:=nn c.A6 l}:=by
  unfold RQ;refine ar (dY (by omega)) ?_;refine ed (inv:=λz:Int×List Bool=>∃i:Nat,z.1=i/\i<=l.length/\nn z.2 (l.drop i)=nn c.A6 l) (μ:=Ns c l) ⟨0,rfl,bC _,by simp⟩ (cN _) ?_;rintro⟨_,d⟩ ⟨i,rfl,hi,hd⟩;simp only at hd;refine aa (λbc=>?_) (λe6=>?_)
  ·have bc:i<l.length:=by simpa using bc
   have ew:=lh (i:=i) (by omega);have lZ:l.drop i=l.getD i 0::l.drop (i+1):=by
    rw[aO bc];congr 1;simp[aV,bc]
   rw[lZ,nn]at hd;have mx:Ns c l (wrap .i64 ((i:Int)+1),d)<Ns c l ((i:Int),d):=by simp only[Ns,ew];omega
   have skip:¬(0<=l.getD i 0/\l.getD i 0<d.length)->(∃j:Nat,wrap .i64 ((i:Int)+1)=j/\j<=l.length/\nn d (l.drop j)=nn c.A6 l):=λhn=>by
    rw[iFN hn]at hd;exact⟨i+1,ew,bc,hd⟩
   refine ar (jb bc) ?_;refine aa (λh1=>?_) (λh1=>dj ⟨skip (λh=>oN h1 h.1),mx⟩);have h1:0<=l.getD i 0:=oY h1;refine ar (jb bc) (aa (λh2=>?_) (λh2=>dj ⟨skip (λh=>oN h2 h.2),mx⟩));have h2:l.getD i 0<d.length:=oY h2;refine ar (jb bc) (ar (Bool.and_eq_true_iff.2 ⟨rfl,dY ⟨h1,h2⟩⟩) (dj ⟨⟨i+1,ew,bc,?_⟩,?_⟩))
   ·rw[iFP ⟨h1,h2⟩]at hd;exact hd
   ·simp only[Ns,ew];omega
  ·have e6:l.length<=i:=by simpa using e6
   rw[aN e6,nn]at hd;refine aw ?_;show({A6:=d,B5:=c.B5,D6:=c.D6}:fc)=_;rw[hd]
 exact Tree.pp h
theorem vt(hl:a.length=b.length)(h:∀i:Nat,i<a.length->a.getD i 0=b.getD i 0):a=b:=by
 refine bR hl λi h1 h2=>?_;have:=h i h1;simpa[aV,h1,h2]using this
theorem zay(ha:a.length<=1000000):(Gg a b).w (λr=>r=true↔a=b):=by
 have no:a.length≠b.length->(false=true↔a=b):=λh=>⟨(λh=>by cases h),λe=>(h (by rw[e])).elim⟩;unfold Gg;refine aa (λh=>aw (no ?_)) λh=>?_
 ·have h:((a.length:Int) !=b.length)=true:=h;simp only[bne_iff_ne,ne_eq,fU]at h;exact h
 have hl:a.length=b.length:=by
  have h:((a.length:Int) !=b.length)=false:=h;simp only[bne_eq_false_iff_eq,fU]at h;exact h
 refine ed (inv:=λv:Int=>0<=v/\v<=a.length/\∀i:Nat,(i:Int)<v->a.getD i 0=b.getD i 0) (μ:=H4 a b) ⟨eY 0,by omega,λi hi=>by omega⟩ (cN _) λv ⟨v0,v1,v2⟩=>?_;refine aa (λhb=>?_) (λhb=>aw ?_)
 ·have hb:v<a.length:=oY hb;have ew:i64.wrap (v+1)=v+1:=by rw[wrap_i64];omega
  refine ar (by simp[bN];omega) (ar (by simp[bN];omega) (aa (λh=>aw ⟨(λh=>by cases h),λe=>?_⟩) λh=>dj ?_))
  ·rw[e,bne_self_eq_false]at h;cases h
  ·have h:a.getD v.toNat 0=b.getD v.toNat 0:=by simpa using h
   show(0<=i64.wrap (v+1)/\i64.wrap (v+1)<=a.length/\∀i:Nat,(i:Int)<i64.wrap (v+1)->a.getD i 0=b.getD i 0)/\(a.length-i64.wrap (v+1)).toNat<(a.length-v).toNat;rw[ew];refine⟨⟨by omega,by omega,λi hi=>?_⟩,by omega⟩
   by_cases e:(i:Int)<v
   ·exact v2 i e
   ·rw[show i=v.toNat by omega];exact h
 ·have hb:¬v<a.length:=oN hb;exact⟨λ_=>vt hl λi hi=>v2 i (by omega),λ_=>rfl⟩
theorem RR{s t:List Int}(hl:s.length<=1000000):(HU s t).w λr=>r=decide (s=t):=by
 unfold HU;refine aa (λh=>aw ?_) (λhe=>?_)
 ·have h:¬(s.length:Int)=t.length:=by simpa using h
  exact(dN (λe=>h (by rw[e]))).symm
 ·have he:s.length=t.length:=by
   have:(s.length:Int)=t.length:=by simpa using he
   omega
  refine ed (inv:=λz:Int=>∃i:Nat,z=i/\i<=s.length/\∀j,j<i->s.getD j 0=t.getD j 0) (μ:=Ka s t) ⟨0,rfl,bC _,λj h=>by omega⟩ (cN _) ?_;rintro _ ⟨i,rfl,hi,hj⟩;refine aa (λbc=>?_) (λe6=>aw ?_)
  ·have bc:i<s.length:=by simpa using bc
   have ew:=lh (i:=i) (by omega);refine ar (jb bc) (ar (jb (by omega)) (aa (λhn=>aw ?_) (λheq=>dj ⟨⟨i+1,ew,bc,λj EV=>?_⟩,by simp only[Ka,ew];omega⟩)))
   ·rw[dX]at hn;exact(dN (λe=>nt hn (by rw[e]))).symm
   ·rw[dX]at heq;rcases Nat.lt_succ_iff_lt_or_eq.1 EV with h|h
    ·exact hj j h
    ·subst h;exact BY heq
  ·have e6:s.length<=i:=by simpa using e6
   refine(dY (bR he λj h1 h2=>?_)).symm;have:=hj j (by omega);simpa[aV,h1,h2]using this
def Dw(a b:List Int):Nat->List Int
 |0=>[]
 |i+1=>Dw a b i++(if(a.drop (i*32)).take 32=(b.drop (i*32)).take 32 then[]else[(i:Int)])
theorem Zud(a b:List Int):∀i,(Dw a b i).length<=i
 |0=>aX _
 |i+1=>by
  have:=Zud a b i;simp only[Dw];split<;>simp<;>omega
theorem Zwx(ha:dy 8 a)(hb:dy 8 b):(Kb a b).w λr=>r=Dw a b 8:=by
 have la:=ha.len;have lb:=hb.len;unfold Kb;refine ai λx0 h0=>ai λx1 h1=>?_;have h0:x0=((8:Nat):Int):=h0.trans (Dj la (by decide));have h1:x1=((8:Nat):Int):=h1.trans (Dj lb (by decide));subst h0;subst h1;refine aa (λh=>by simp at h) (λ_=>?_);refine ed (inv:=λz:Int×List Int=>∃i:Nat,z.1=i/\i<=8/\z.2=Dw a b i) (μ:=λz=>(8-z.1).toNat) ⟨0,rfl,bC _,rfl⟩ (by simp only[Qct];omega) ?_;rintro⟨_,x⟩ ⟨i,rfl,hi,hx⟩;simp only at hx;have dl:=Zud a b i;refine aa (λbc=>?_) (λe6=>aw ?_)
 ·have bc:i<8:=by have bc:(i:Int)<((8:Nat):Int):=oY bc;omega
  have ew:=lh (i:=i) (by omega);have e1:wrap .i64 ((i:Int)*32)=((i*32:Nat):Int):=by rw[wi (by omega) (by omega)];omega
  have e2:wrap .i64 (((i+1:Nat):Int)*32)=((i*32+32:Nat):Int):=by rw[wi (by omega) (by omega)];omega
  simp only[ew,e1,e2,dX,show i*32+32-i*32=32 by omega];refine ar (by rw[dY (by omega)];rfl) (ar (by rw[dY (by omega)];rfl) (bz (show _<=_ by simp;omega) (ai λx2 h2=>?_)));have q:=(Tree.pp (RR (s:=(a.drop (i*32)).take 32) (t:=(b.drop (i*32)).take 32) (by simp;omega))).2;have h2:x2=decide ((a.drop (i*32)).take 32=(b.drop (i*32)).take 32):=h2.trans q;refine aa (λhn=>ar (dY (by rw[hx];omega)) (dj ⟨⟨i+1,rfl,bc,?_⟩,by omega⟩)) (λhn=>dj ⟨⟨i+1,rfl,bc,?_⟩,by omega⟩)
  ·rw[h2]at hn;have hn:¬(a.drop (i*32)).take 32=(b.drop (i*32)).take 32:=by simpa using hn
   simp only[Dw];rw[iFN hn,hx]
  ·rw[h2]at hn;have hn:(a.drop (i*32)).take 32=(b.drop (i*32)).take 32:=by simpa using hn
   simp only[Dw];rw[iFP hn,hx,cM]
 ·have e6:¬(i:Int)<((8:Nat):Int):=oN e6;have:i=8:=by omega
  subst this;exact hx
theorem Zi5(ha:dy 8 a)(hb:dy 8 b):(RS a b).w λr=>r=Dw a b 8:=by
 have la:=ha.len;have lb:=hb.len;unfold RS;refine aa (λh=>absurd (nt h) (by omega)) (λ_=>?_);refine ed (inv:=λz:Int×List Int=>∃i:Nat,z.1=i/\i<=8/\z.2=Dw a b i) (μ:=λz=>(8-z.1).toNat) ⟨0,rfl,bC _,rfl⟩ (by simp only[Qo8];omega) ?_;rintro⟨_,x⟩ ⟨i,rfl,hi,hx⟩;simp only at hx;have dl:=Zud a b i;refine ai λx0 h0=>?_;have h0:x0=((8:Nat):Int):=h0.trans (Dj la (by decide));subst h0;refine aa (λbc=>?_) (λe6=>aw ?_)
 ·have bc:i<8:=by have bc:(i:Int)<((8:Nat):Int):=oY bc;omega
  have ew:=lh (i:=i) (by omega);have e1:wrap .i64 ((i:Int)*32)=((i*32:Nat):Int):=by rw[wi (by omega) (by omega)];omega
  have e2:wrap .i64 (((i+1:Nat):Int)*32)=((i*32+32:Nat):Int):=by rw[wi (by omega) (by omega)];omega
  simp only[ew,e1,e2,dX,show i*32+32-i*32=32 by omega];have q:=Tree.pp (zay (a:=(a.drop (i*32)).take 32) (b:=(b.drop (i*32)).take 32) (by simp;omega));refine ar (by rw[dY (by omega)];rfl) (ar (by rw[dY (by omega)];rfl) (bz (show _<=_ by simp;omega) (ai λx2 h2=>?_)));have h2:x2=true↔(a.drop (i*32)).take 32=(b.drop (i*32)).take 32:=by rw[show x2=_ from h2];exact q.2
  refine aa (λhn=>ar (dY (by rw[hx];omega)) (dj ⟨⟨i+1,rfl,bc,?_⟩,by omega⟩)) (λhn=>dj ⟨⟨i+1,rfl,bc,?_⟩,by omega⟩)
  ·have hn:x2=false:=by simpa using hn
   simp only[Dw];rw[iFN (λq=>by rw[h2.2 q]at hn;cases hn),hx]
  ·have hn:x2=true:=by simpa using hn
   simp only[Dw];rw[iFP (h2.1 hn),hx,cM]
 ·have e6:¬(i:Int)<((8:Nat):Int):=oN e6;have:i=8:=by omega
  subst this;exact hx
theorem Zq6(ha:dy 8 a)(hb:dy 8 b):Qjw a b/\Qv4 a b=Bj a b:=
 ⟨(Tree.pp (Zi5 ha hb)).1,(Tree.pp (Zi5 ha hb)).2.trans (Tree.pp (Zwx ha hb)).2.symm⟩
theorem Gl(hl:l.length<=64)(x:ep):(RU l x).w λr=>r=gq l x:=by
 unfold RU gq;refine aa (λh=>aw ?_) (λh=>ar (dY (by omega)) (ar (dY (by omega)) (aw ?_)))
 ·have h:=oY h;rw[iFN (by omega)]
 ·have h:=oN h;rw[iFP (by omega)]
theorem Zi8(hl:l.length<=64){i:Int}(hi:lI l i):(RV l i).w λr=>r=kE l i:=by
 obtain⟨h0,h1⟩:=hi;obtain⟨k,rfl⟩:∃k:Nat,i=k:=⟨i.toNat,by omega⟩;have ew:wrap .i64 ((k:Int)+1)=((k+1:Nat):Int):=by rw[wi (by omega) (by omega)];omega
 unfold RV;simp only[ew,dX];refine ar (by rw[dY (by omega)];rfl) (ar (by rw[dY (by omega)];rfl) (ar (dY ?_) (ar (dY ?_) (aw ?_))))
 ·simp;omega
 ·simp;omega
 ·unfold kE;simp only[dX,Int.toNat_zero,Nat.sub_zero,List.drop_zero];rw[fQ (l:=l.drop (k+1)) (by simp)]
theorem qu{s:fu}(hm:dy 8 s.A0.Mem)(hr:s.A3.length=8){f:Int}(f0:0<=f)(f1:f<8):(RW s f).w λr=>r=pX (s.A3.getD f.toNat 0) f (jO s.A0.Mem f).1:=by
 unfold RW;refine bz (Tree.pp (ZY hm f0 f1)).1 (ai λx0 h0=>ar (dY (by omega)) (aw ?_));have h0:x0=EO s.A0.Mem f:=h0;rw[h0,<-Vr hm];rfl
theorem Zwt{s:fu}(hr:s.A3.length<=8):(RX s).w λr=>r=tz s:=by
 unfold RX;exact ar (dY (by omega)) (aw rfl)
theorem xu(ok:ft g):(RY g).w λr=>r=HW g:=by
 have rl:=ok.rl;have lP:=Zne g.A1;unfold RY;refine ed (inv:=λz:Int×cj=>∃i:Nat,z.1=i/\i<=8/\z.2={g with A7:=oC g.A7 ((nV g.A1).take i)}) (μ:=λz=>(8-z.1).toNat) ⟨0,rfl,bC _,rfl⟩ (by simp only[Qok];omega) ?_;rintro⟨_,y⟩ ⟨i,rfl,hi,hy⟩;simp only at hy;subst hy;have ll:(oC g.A7 ((nV g.A1).take i)).length<=64:=QL ok.fl;refine aa (λbc=>?_) (λe6=>?_)
 ·have bc:(i:Int)<(g.A1.A3.length:Int):=oY bc;have ew:=lh (i:=i) (by omega);refine cf (qu (s:=g.A1) ok.mY rl (f:=(i:Int)) (by omega) (by omega)) λx0 h0=>cf (Gl ll x0) λx1 h1=>dj ⟨⟨i+1,ew,by omega,?_⟩,by show(8-wrap .i64 ((i:Int)+1)).toNat<(8-(i:Int)).toNat;rw[ew];omega⟩;have t:(nV g.A1).take (i+1)=(nV g.A1).take i++[pX (g.A1.A3.getD i 0) i (jO g.A1.A0.Mem i).1]:=by
   rw[HZ (by omega)]
   congr 2
   unfold nV;rw[bS,fR]
  rw[h1,h0,t,Ng]
  rfl
 ·have e6:¬(i:Int)<(g.A1.A3.length:Int):=oN e6;have i8:i=8:=by omega
  subst i8;have e3:(nV g.A1).take 8=nV g.A1:=fQ (by omega);have e2:HW g={g with A7:=gq (oC g.A7 (nV g.A1)) (tz g.A1)}:=by
   unfold HW;rw[Ng]
  rw[e3]at ll⊢;rw[e2];generalize nV g.A1=L at ll⊢;refine cf (Zwt (s:=g.A1) (by omega)) λx2 h2=>cf (Gl ll x2) λx3 h3=>aw ?_;rw[h3,h2]
  rfl
theorem RZ{a n:Int}(h0:0<=a)(h1:a<n):(bX 1 1&&bN 0 1&&decide (0<=a/\a<n))=true:=by
 rw[dY ⟨h0,h1⟩];rfl
theorem Zi6(ok:ft g)(hr:g.A1.B1.B5<=10):(R3 g).w λr=>r=lJ g:=by
 obtain⟨r1,r2⟩:=yT (c:=g.A1.B1) (m:=g.A1.A0.Mem) ok.mY.u (by have:=ok.dl;omega);rw[ok.round hr]at r2;have sl:=V4 ok.dl;have rl:=ok.rl;have lS:(pD g.A1.B1 g.A1.A0.Mem).length=(fi g.A1.B1.A6 0).length:=by unfold pD kp;rw[fJ,fJ]
 have lC:(kp g.A1.A0.Mem (fi g.A1.B1.A6 0)).length=(fi g.A1.B1.A6 0).length:=by unfold kp;rw[fJ]
 unfold R3;refine bz r1 (ai λx0 h0=>?_);have h0:x0=Qst g.A1.B1 g.A1.A0.Mem:=h0;have h0:=h0.trans r2;subst h0;refine ar (dY (by omega)) ?_;refine ed (inv:=λz:Int×cj=>∃i:Nat,z.1=i/\i<=(fi g.A1.B1.A6 0).length/\z.2=rL g i) (μ:=λz=>(8-z.1).toNat) ⟨0,rfl,bC _,rfl⟩ (by simp only[Qpt];omega) ?_;rintro⟨_,y⟩ ⟨i,rfl,hi,hy⟩;simp only at hy;subst hy;refine aa (λbc=>?_) (λe6=>aw ?_)
 ·have bc:(i:Int)<((kp g.A1.A0.Mem (fi g.A1.B1.A6 0)).length:Int):=oY bc;have hl:i<(fi g.A1.B1.A6 0).length:=by rw[lC]at bc;omega
  have ew:=lh (i:=i) (by omega);have eg:(kp g.A1.A0.Mem (fi g.A1.B1.A6 0)).getD (dA (i:Int)) (RK.dk RK.bh)=⟨(fi g.A1.B1.A6 0)[i],(jO g.A1.A0.Mem (fi g.A1.B1.A6 0)[i]).1⟩:=by
   simp[aV,kp,hl]
  have hm:=J8 (fG hl);have dl:=ok.dl;have lp:(rL g i).A1.A3.length=8:=M9.trans rl;generalize hf:(fi g.A1.B1.A6 0)[i]=f at eg hm;have f0:0<=f:=hm.1;have f8:f<8:=by omega
  have QZ:(f:Int)<((rL g i).A1.A3.length:Int):=by omega
  have Wc:i<(kp g.A1.A0.Mem (fi g.A1.B1.A6 0)).length:=by rw[lC];exact hl
  have ll:(rL g i).A7.length<=64:=QL ok.fl;refine ar (Dr Wc) ?_;have pf:((kp g.A1.A0.Mem (fi g.A1.B1.A6 0)).getD (dA (i:Int)) (RK.dk RK.bh)).Frame=f:=by rw[eg]
  refine ar (RZ (by rw[pf];exact f0) (by rw[pf];exact QZ)) (ar (Dr Wc) ?_);have e1:∀l:List Int,l.length=8->(l.set f.toNat (g.A1.B1.B5+1)).getD f.toNat 0=g.A1.B1.B5+1:=λl hl=>by rw[Fo (by omega),iFP rfl]
  refine cf (qu (s:={(rL g i).A1 with A3:=(rL g i).A1.A3.set (dA ((kp g.A1.A0.Mem (fi g.A1.B1.A6 0)).getD (dA (i:Int)) (RK.dk RK.bh)).Frame) (g.A1.B1.B5+1)}) ok.mY (by show(dB _ _ _).length=8;rw[dC];exact lp) (by rw[pf];exact f0) (by rw[pf];exact f8)) λx1 h1=>cf (Gl ll x1) λx2 h2=>dj ⟨⟨i+1,ew,by omega,?_⟩,by show(8-wrap .i64 ((i:Int)+1)).toNat<(8-(i:Int)).toNat;rw[ew];omega⟩;have t1:(fi g.A1.B1.A6 0).take (i+1)=(fi g.A1.B1.A6 0).take i++[f]:=by rw[HZ hl,hf]
  have t2:(pD g.A1.B1 g.A1.A0.Mem).take (i+1)=(pD g.A1.B1 g.A1.A0.Mem).take i++[pX (g.A1.B1.B5+1) f (jO g.A1.A0.Mem f).1]:=by
   rw[HZ (by omega)]
   congr 2
   have:(pD g.A1.B1 g.A1.A0.Mem)[i]'(by omega)=pX (g.A1.B1.B5+1) (fi g.A1.B1.A6 0)[i] (jO g.A1.A0.Mem (fi g.A1.B1.A6 0)[i]).1:=by simp[pD,kp]
   rw[this,hf]
  rw[h2,h1];simp only[pf];show cj.mk _ _ (gq _ (pX ((dB _ f.toNat _).getD f.toNat 0) f _)) _ _=rL g (i+1);rw[e1 _ lp];unfold rL;rw[t1,t2,Za2,Ng]
 ·have e6:¬(i:Int)<((kp g.A1.A0.Mem (fi g.A1.B1.A6 0)).length:Int):=oN e6;have hi2:i=(fi g.A1.B1.A6 0).length:=by rw[lC]at e6;omega
  show rL g i=_;unfold rL lJ;rw[fQ (by omega),fQ (by omega)]
theorem zu(g:cj):Ks g=jA g:=by
 unfold jA;simp only[Ks,Qnt,Tree.m]
 by_cases h1:g.A1.A4=1
 ·simp[h1]
 ·by_cases h3:g.A1.A4=3
  ·simp[h3]
  ·by_cases ht:g.A2.A4=3
   ·simp[beq_false_of_ne h1,beq_false_of_ne h3,h1,h3,ht]
   ·simp[beq_false_of_ne h1,beq_false_of_ne h3,beq_false_of_ne ht,h1,h3,ht]
theorem H8(n:Int):(if(if 64<n then 64 else n)>0 then(if 64<n then 64 else n)else 0)=((runN n:Nat):Int):=by
 unfold runN;split<;>split<;>omega
theorem Zvz{m:bj}(hm:gy 8 m)(hc:U clock)(n:Int):(R4 m n clock).w λr=>r=kW m clock (runN n):=by
 unfold R4;refine ed (inv:=λz:Int×bj=>∃i:Nat,z.1=i/\i<=runN n/\z.2=kW m clock i) (μ:=Qh5 m n clock) ⟨0,rfl,bC _,rfl⟩ (cN _) ?_;rintro⟨_,y⟩ ⟨i,rfl,hi,hy⟩;simp only at hy;subst hy;have rn:runN n<=64/\((runN n:Nat):Int)<=max n 0:=by unfold runN;omega
 refine aa (λbc=>?_) (λe6=>aw ?_)
 ·have bc:(i:Int)<(if(if 64<n then 64 else n)>0 then(if 64<n then 64 else n)else 0):=oY bc;rw[H8]at bc;have ew:=lh (i:=i) (by omega);obtain⟨p,q⟩:=Gh (FZ hm hc i) hc;refine bz p (ai λx h=>dj ⟨⟨i+1,ew,by omega,?_⟩,by simp only[Qh5,ew];omega⟩);show x.1=_;rw[show x=BW (kW m clock i) clock from h.trans q];rfl
 ·have e6:¬(i:Int)<(if(if 64<n then 64 else n)>0 then(if 64<n then 64 else n)else 0):=oN e6;rw[H8]at e6;have:i=runN n:=by omega
  subst this;rfl
theorem xay(ok:ft g){a:jd}(hc:U a.F2):(R5 g a).w λr=>r=jY g a.N a.F2:=by
 unfold R5;refine ai λx0 h0=>?_;have h0:x0=jA g:=h0.trans (zu g);subst h0;unfold jY;refine aa (λh=>?_) (λh=>aa (λh1=>?_) (λh1=>aw ?_))
 ·have h:jA g=0:=bt h;have q:g.A1.A4=1\/g.A1.A4=3:=by
   unfold jA at h;split at h
   ·assumption
   ·split at h<;>omega
  rw[iFP q];have sg:=FZ ok.src hc (runN a.N);refine cf (Zvz ok.src hc a.N) λx1 h1=>?_;subst h1;refine aa (λhp=>?_) (λhp=>aw ?_)
  ·have hp:g.A1.A4=1:=bt hp;obtain⟨c1,c2⟩:=Zq6 ok.mY sg.lu;obtain⟨_,c3,_⟩:=Z9p ok.mY sg.lu;refine bz c1 (ai λx2 h2=>?_);have h2:x2=Bj g.A1.A0.Mem (kW g.A1.A0 a.F2 (runN a.N)).Mem:=h2.trans c2;rw[<-h2]at c3;obtain⟨n1,n2⟩:=qay (c:=g.A1.B1) (l:=x2) (by have:=ok.dl;omega) (by omega);refine bz n1 (ai λx3 h3=>aw ?_);have h3:x3=Qwx g.A1.B1 x2:=h3;rw[n2,h2]at h3;subst h3;have en:rJ g.A1 (kW g.A1.A0 a.F2 (runN a.N))={g.A1.B1 with A6:=nn g.A1.B1.A6 (Bj g.A1.A0.Mem (kW g.A1.A0 a.F2 (runN a.N)).Mem)}:=iFP hp;rw[en]
  ·have hp:¬g.A1.A4=1:=bf hp;have en:rJ g.A1 (kW g.A1.A0 a.F2 (runN a.N))=g.A1.B1:=iFN hp;rw[en]
 ·have h1:jA g=1:=bt h1;have q:¬(g.A1.A4=1\/g.A1.A4=3)/\g.A2.A4=3:=by
   unfold jA at h1;split at h1
   ·omega
   ·rename_i q1
    split at h1
    ·rename_i q2;exact⟨q1,q2⟩
    ·omega
  rw[iFN q.1,iFP q.2];exact cf (Zvz (ok.tg (.inr q.2)) hc a.N) λx1 h1=>aw (by rw[h1])
 ·have h:¬jA g=0:=bf h;have h1:¬jA g=1:=bf h1;have q:¬(g.A1.A4=1\/g.A1.A4=3)/\¬g.A2.A4=3:=by
   unfold jA at h h1;refine⟨λq=>h (iFP q),λq=>?_⟩
   by_cases q1:g.A1.A4=1\/g.A1.A4=3
   ·exact h (iFP q1)
   ·rw[iFN q1,iFP q]at h1;exact h1 rfl
  rw[iFN q.1,iFN q.2]
theorem vT{s:gu}(h:Bk s):(Gf s).w λr=>r=true:=by
 obtain⟨b1,b2,b3,b4,b5⟩:=h;have q:=Tree.pp (Ze1 s (by omega));refine(Gf s).mono (λr hr=>?_) (Ze1 s (by omega));refine hr.2 ⟨by omega,by omega,by omega,λj hj=>?_,λe=>by omega,λ_=>b5⟩;have e:s.ab.getD j []=s.ab[j]:=by simp[aV,hj]
 rw[e];exact b2 _ (fG hj)
theorem Zhp{s:gu}(h:Bk s)(h0:0<=host)(seen:Int):(Kl s host seen).w λr=>r=mI s host seen:=by
 rw[Zma h h0 seen];have v:=vT h;obtain⟨b1,b2,b3,b4,b5⟩:=h;unfold Kl;refine cf v λx1 h1=>?_;subst h1;refine aa (λh=>by cases h) λ_=>aa (λh=>absurd (oY h) (by omega)) λ_=>aa (λh=>aw ?_) λh=>?_
 ·have:s.D3≠seen:=by simpa using h
  rw[iFN this]
 ·have h:s.D3=seen:=by simpa using h
  refine aa (λh=>absurd (oY h) (by omega)) λ_=>aw ?_;have e:wrap .u64 (s.D3+1)=s.D3+1:=by rw[wrap_u64];omega
  rw[iFP h,e]
theorem qU(ha:a.length<=1000000):(H5 a b).w λr=>r=decide (a=b):=by
 unfold H5;refine aa (λh=>aw ?_) (λh=>?_)
 ·have h:((a.length:Int))≠b.length:=by simpa using h
  exact(dN (λe=>h (by rw[e]))).symm
 have hl:a.length=b.length:=by
  have h:((a.length:Int))=b.length:=by simpa using h
  omega
 refine ed (inv:=λz:Int=>∃i:Nat,z=i/\i<=a.length/\∀j:Nat,j<i->a.getD j 0=b.getD j 0) (μ:=Kp a b) ⟨0,rfl,bC _,λj hj=>absurd hj (fT _)⟩ (cN _) ?_;rintro _ ⟨i,rfl,hi,hj⟩;refine aa (λbc=>?_) (λe6=>aw ?_)
 ·have bc:i<a.length:=by simpa using bc
  have ew:=lh (i:=i) (by omega);refine ar (jb bc) (ar (jb (by omega)) (aa (λh=>aw ?_) (λh=>dj ⟨⟨i+1,ew,bc,λj EV=>?_⟩,by simp only[Kp,ew];omega⟩)))
  ·have h:a.getD i 0≠b.getD i 0:=nt h;exact(dN (λe=>h (by rw[e]))).symm
  ·have h:a.getD i 0=b.getD i 0:=BY h;rcases Nat.lt_succ_iff_lt_or_eq.1 EV with c|c
   ·exact hj j c
   ·rw[c];exact h
 ·have e6:¬i<a.length:=by simpa using e6
  refine(dY ?_).symm;exact vt hl λj q=>hj j (by omega)
theorem Zd1(ok:ft g):(R6 g).w λr=>r=decide (BX g):=by
 unfold R6;have tl:=ok.tl;refine aa (λh=>bz (show g.A2.A3.length<=1000000000000 by omega) (ai λx hx=>aw ?_)) (λh=>aw ?_)
 ·rw[show x=decide (g.A2.A3=g.A2.B7) from hx.trans (Tree.pp (qU (a:=g.A2.A3) (b:=g.A2.B7) (by omega))).2];exact decide_eq_decide.2 ⟨λe=>⟨bt h,e⟩,λe=>e.2⟩
 ·exact(dN (λe=>bf h e.1)).symm
theorem yu(ok:ft g):(R7 g).w λr=>r=r7 g:=by
 unfold R7 r7;refine cf (Zd1 ok) λx0 h0=>aa (λh=>aw ?_) (λh=>?_)
 ·rw[h0]at h;rw[iFN (by simpa using h)]
 ·rw[h0]at h;rw[iFP (by simpa using h)];refine cf (Zhp ok.st (host:=1) (by decide) g.A2.D3) λx1 h1=>?_;subst h1;refine aa (λh=>aw ?_) (λh=>cf (Gl ok.bl _) λx2 h2=>aw ?_)
  ·rw[iFN (by simpa using h)]
  ·rw[iFP (by simpa using h),h2];rfl
theorem vu(ok:ft g):(R8 g).w λr=>r=ot g:=by
 unfold R8 ot;refine aa (λh=>cf (Gl ok.fl _) λx0 h0=>aw ?_) (λh=>aa (λh2=>?_) (λh2=>aw ?_))
 ·rw[iFP (bt h),h0];rfl
 ·rw[iFN (bf h),iFP (bt h2)];refine cf (Zhp ok.st (host:=0) (by decide) g.A1.D3) λx1 h1=>?_;subst h1;refine aa (λh=>aw ?_) (λh=>cf (Gl ok.fl _) λx2 h2=>aw ?_)
  ·rw[iFN (by simpa using h)]
  ·rw[iFP (by simpa using h),h2];rfl
 ·rw[iFN (bf h),iFN (bf h2)]
theorem qaz{m:List Int}(hl:m.length<=1000000000000):Ql7 m/\P3 m=m:=by
 have h:(HS m).w λr=>r=m:=by
  unfold HS;refine ar (by rw[dY (by omega)];rfl) (aw ?_);simp
 exact Tree.pp h
def H9(P:Int)(c:kz):Prop:=0<=c.Frame/\c.Frame<P/\c.F0.length=128
instance (P:Int) (c:kz):Decidable (H9 P c):=by unfold H9;infer_instance
theorem xU{m:List Int}(hm:dy 8 m){f:Int}(f0:0<=f)(f1:f<8){d:List UInt8}(hd:d.length=128):(R9 m f d).w λr=>r=pR m f d/\r.2=true:=by
 have ml:=hm.len;obtain⟨c1,c2⟩:=qaz (m:=m) (by omega);unfold R9;refine bz c1 (ai λx hx=>?_);have hx:x=m:=hx.trans c2;subst hx;refine aa (λh=>absurd (oY h) (by omega)) λ_=>ai λp hp=>?_;have hp:p=((8:Nat):Int):=hp.trans (Dj ml (by decide));subst hp;refine aa (λh=>absurd (oY h) (by omega)) λ_=>aa (λh=>absurd (nt h) (by omega)) λ_=>?_;refine bz (Tree.pp (qab hm f0 f1 d)).1 (ai λy hy=>aw ?_);have hy:y=PB x f d:=hy;rw[Zqb hm f0 f1 hd,hy];exact⟨rfl,rfl⟩
theorem xaQ{t:fu}(h:QM t)(hx:jR x):(Sa t x).w λr=>r=ij t x:=by
 have tl:=h.tl;unfold Sa;refine aa (λp0=>aa (λp1=>aa (λp2=>aw ?_) (λp2=>?_)) (λp1=>?_)) (λp0=>?_)
 ·unfold ij;rw[iFP (λq=>q.elim (nt p0) (λq=>q.elim (nt p1) (nt p2)))]
 all_goals
  have hp:t.A4=0\/t.A4=1\/t.A4=2:=by
   first|exact .inl (BY p0)|exact .inr (.inl (BY p1))|exact .inr (.inr (BY p2))
  refine aa (λk1=>?_) (λk1=>aa (λk2=>aa (λq=>aw ?_) (λq=>aw ?_)) (λk2=>aa (λk4=>aw ?_) (λk4=>aw ?_)))
  ·have k1:=bt k1;obtain⟨f0,f1,hd⟩:=hx.pg k1;have e:ij t x=if 0<=x.Frame/\x.Frame<t.A3.length/\t.A3.getD x.Frame.toNat 0<x.B5 then{t with A4:=if t.A4=0 then 1 else t.A4,A0:={t.A0 with Mem:=(pR t.A0.Mem x.Frame x.F0).1},A3:=t.A3.set x.Frame.toNat x.B5}else t:=by
    unfold ij;rw[iFN (λh=>h hp),iFP k1]
   rw[e];refine aa (λh=>absurd (oY h) (by omega)) λ_=>aa (λh=>absurd (oY h) (by omega)) λ_=>ar (dY (by omega)) (aa (λhr=>aw ?_) (λhr=>?_))
   ·have hr:=oY hr;rw[iFN (λq=>by omega)]
   ·have hr:=oN hr;rw[iFP ⟨f0,by omega,by omega⟩];refine cf (xU h.tm f0 f1 hd) λx0 ⟨e0,e1⟩=>aa (λq=>by rw[e1]at q;cases q) λ_=>ar (dY (by omega)) (ar (dY (by omega)) (aa (λq=>aw ?_) (λq=>aw ?_)))
    ·rw[iFP (bt q),e0]
    ·rw[iFN (bf q),e0]
  ·unfold ij;rw[iFN (λh=>h hp),iFN (bf k1),iFP (bt k2),iFN (nt q)]
  ·unfold ij;rw[iFN (λh=>h hp),iFN (bf k1),iFP (bt k2),iFP (BY q)]
  ·unfold ij;rw[iFN (λh=>h hp),iFN (bf k1),iFN (bf k2),iFP (bt k4)]
  ·unfold ij;rw[iFN (λh=>h hp),iFN (bf k1),iFN (bf k2),iFN (bf k4)]
def wq(g:cj)(a:jd):cj:=
 if a.C2=5 then mX g a.C0 a.N else if a.C2=6 then oD g a.C0 a.N else Ai g a.C0 a.N
theorem Wl{a:jd}(h:¬lI (lV g a.C0) a.N):g=wq g a:=by
 unfold wq mX oD Ai;rw[iFN h,iFN h,iFN h];split
 ·rfl
 ·split<;>rfl
theorem Ia{k:Int}(h:lI l k):(bX 54 54&&bN 0 54&&decide (0<=k/\k<(l.length:Int)))=true:=by
 rw[dY (show 0<=k/\k<(l.length:Int) from h)];rfl
theorem Zc(ok:ft g){a:jd}(hk:a.C2=5\/a.C2=6\/a.C2=7):(Nt g a).w λr=>r=wq g a:=by
 obtain⟨k,n,b,c⟩:=a;have hk:k=5\/k=6\/k=7:=hk;unfold Nt
 cases b
 ·refine aa (λh=>by cases h) λ_=>aa (λh=>aw (Wl (λq=>absurd (oY h) (by have:=q.1;omega)))) λh1=>aa (λh=>aw (Wl (λq=>absurd (oY h) (by have:=q.2;exact Int.not_le.2 this)))) λh2=>?_;have h1:¬n<0:=oN h1;have h2:¬n>=(g.A7.length:Int):=oN h2;have hi:lI g.A7 n:=⟨by omega,by omega⟩;have hl:lI (lV g false) n:=hi;refine ar (Ia hi) (aa (λk7=>cf (Gl ok.fl _) λx0 e0=>?_) (λk7=>cf (Zi8 ok.fl hi) λx0 e0=>?_))
  ·have k7:k=7:=bt k7;subst k7;refine aa (λh=>by cases h) λ_=>aa (λh=>by cases h) λ_=>aw ?_;rw[e0];exact(iFP hl).symm
  ·have k7:¬k=7:=bf k7;refine aa (λk5=>aa (λ_=>cf (xaQ ok.t (ok.fo _ (Ga hi))) λy ey=>aw ?_) (λh=>absurd (bt k5) (bf h))) (λk5=>aa (λh=>absurd (bt h) (bf k5)) (λ_=>aw ?_))
   ·have k5:k=5:=bt k5;subst k5;rw[e0,ey];show _=mX g false n;unfold mX oD;rw[iFP hl,iFP hl]
    rfl
   ·have k5:¬k=5:=bf k5;have k6:k=6:=by omega
    subst k6;rw[e0];show _=oD g false n;unfold oD;rw[iFP hl];rfl
 ·refine aa (λ_=>?_) (λh=>by cases h);refine aa (λh=>aw (Wl (λq=>absurd (oY h) (by have:=q.1;omega)))) λh1=>aa (λh=>aw (Wl (λq=>absurd (oY h) (by have:=q.2;exact Int.not_le.2 this)))) λh2=>?_;have h1:¬n<0:=oN h1;have h2:¬n>=(g.C0.length:Int):=oN h2;have hi:lI g.C0 n:=⟨by omega,by omega⟩;have hl:lI (lV g true) n:=hi;refine ar (Ia hi) (aa (λk7=>cf (Gl ok.bl _) λx0 e0=>?_) (λk7=>cf (Zi8 ok.bl hi) λx0 e0=>?_))
  ·have k7:k=7:=bt k7;subst k7;refine aa (λh=>by cases h) λ_=>aa (λh=>by cases h) λ_=>aw ?_;rw[e0];exact(iFP hl).symm
  ·have k7:¬k=7:=bf k7;refine aa (λk5=>?_) (λk5=>aa (λh=>absurd (bt h) (bf k5)) (λ_=>aw ?_))
   ·have k5:k=5:=bt k5;subst k5;have e:wq g ⟨5,n,true,c⟩=if g.A1.A4=2/\(pC g.C0 n).C2=3 then{g with C0:=kE g.C0 n,A1:={g.A1 with A4:=4}}else{g with C0:=kE g.C0 n}:=by
     show mX g true n=_;unfold mX oD;rw[iFP hl,iFP hl]
     rfl
    refine aa (λx3=>aa (λp2=>aa (λ_=>aw ?_) (λh=>by cases h)) (λp2=>aa (λ_=>aw ?_) (λh=>by cases h))) (λx3=>aa (λ_=>aw ?_) (λh=>by cases h))
    ·rw[e0,e,iFP ⟨bt p2,bt x3⟩]
    ·rw[e0,e,iFN (λq=>bf p2 q.1)]
    ·rw[e0,e,iFN (λq=>bf x3 q.2)]
   ·have k5:¬k=5:=bf k5;have k6:k=6:=by omega
    subst k6;rw[e0];show _=oD g true n;unfold oD;rw[iFP hl];rfl
theorem Sb(ok:ft g){a:jd}(hc:U a.F2):(Sc g a).w λr=>r=oX g a:=by
 unfold Sc oX;refine aa (λk=>?_) λk=>?_
 ·rw[iFP (bt k)];exact cf (xay ok hc) λy hy=>aw (by rw[hy])
 rw[iFN (bf k)];refine aa (λk=>?_) λk=>?_
 ·rw[iFP (bt k)];refine aa (λh1=>aa (λh2=>?_) (λh2=>aw ?_)) (λh1=>aw ?_)
  ·have h1:=bt h1;have h2:g.A1.B1.B5<10:=oY h2;rw[iFP ⟨h1,h2⟩,FX ok (by omega)];exact cf (Zi6 ok (by omega)) λy hy=>aw (by rw[hy])
  ·have h2:¬g.A1.B1.B5<10:=oN h2;rw[iFN (λq=>h2 q.2)]
  ·rw[iFN (λq=>bf h1 q.1)]
 rw[iFN (bf k)];refine aa (λk=>?_) λk=>?_
 ·rw [iFP (bt k)];unfold Dm;refine aa (λh1=>?_) (λh1=>aw ?_)
  ·have h1:g.A1.A4=1:=bt h1;obtain⟨s1,s2⟩:=xax (c:=g.A1.B1) (ej:=a.N) (by have:=ok.dl;omega);obtain⟨_,s3⟩:=vk (c:=g.A1.B1) (ej:=a.N) (by have:=ok.dl;omega);refine bz s1 (ai λx2 h2=>?_);have h2:x2=HT g.A1.B1 a.N:=h2.trans (s2.trans s3.symm);refine aa (λhb=>?_) (λhb=>aw ?_)
   ·rw[h2]at hb;rw[iFP ⟨h1,hb⟩,FX ok (ok.r2 h1)];refine cf (Zi6 ok (ok.r2 h1)) λx3 h3=>?_;subst h3;have rl:(lJ g).A1.A3.length=8:=M9.trans ok.rl;have fl:(lJ g).A7.length<=64:=QL ok.fl;refine cf (Zwt (s:={(lJ g).A1 with A4:=2}) (by show(lJ g).A1.A3.length<=8;omega)) λx4 h4=>cf (Gl fl x4) λx5 h5=>aw ?_;rw[h5,h4];rfl
   ·rw[h2]at hb;rw[iFN (λq=>by rw[hb]at q;cases q.2)]
  ·rw[iFN (λq=>bf h1 q.1)]
 rw[iFN (bf k)];refine aa (λk=>?_) λk=>?_
 ·rw[iFP (bt k)];unfold Ke;refine aa (λh1=>?_) (λh1=>aw ?_)
  ·rw[iFP (bt h1)];exact cf (xu ok) λy hy=>aw (by rw[hy];rfl)
  ·rw[iFN (bf h1)]
 rw[iFN (bf k)];refine aa (λk=>?_) λk5=>?_
 ·rw[iFP (bt k)];exact cf (Zc ok (.inl (bt k))) λy hy=>aw (by rw[hy];unfold wq;rw[iFP (bt k)])
 rw[iFN (bf k5)];refine aa (λk=>?_) λk6=>?_
 ·rw[iFP (bt k)];exact cf (Zc ok (.inr (.inl (bt k)))) λy hy=>aw (by rw[hy];unfold wq;rw[iFN (bf k5),iFP (bt k)])
 rw[iFN (bf k6)];refine aa (λk=>?_) λk=>?_
 ·rw[iFP (bt k)];exact cf (Zc ok (.inr (.inr (bt k)))) λy hy=>aw (by rw[hy];unfold wq;rw[iFN (bf k5),iFN (bf k6)])
 rw[iFN (bf k)];refine aa (λk=>?_) λk=>?_
 ·rw[iFP (bt k)];exact cf (yu ok) λy hy=>aw (by rw[hy])
 rw[iFN (bf k)];refine aa (λk=>?_) λk=>?_
 ·rw[iFP (bt k)];exact cf (vu ok) λy hy=>aw (by rw[hy])
 rw[iFN (bf k)];refine aa (λk=>?_) λk=>?_
 ·rw[iFP (bt k)];unfold Nc
  cases hb:a.C0
  ·exact aa (λh=>by cases h) λ_=>aw rfl
  ·exact aa (λ_=>aw rfl) λh=>by cases h
 ·rw[iFN (bf k)];exact aw rfl
def Ib(g:cj):bj×Bool:=if jA g=0 then(g.A1.A0,true)else if jA g=1 then(g.A2.A0,true)else(zM,false)
theorem zU(ok:ft g):(Km g).w λr=>r=Ib g:=by
 obtain⟨l1,l2⟩:=ok.Du;have cm:∀m:bj,m.Mem.length<=1024->(Q1 m).w λr=>r=m:=λm hm=>by
  unfold Q1;exact bz (show m.Mem.length<=35184372088832 by omega) (ai λy hy=>by have hy:y=m.Mem:=hy;subst hy;exact aw rfl)
 unfold Km Ib;refine ai λx0 h0=>?_;have h0:x0=jA g:=h0.trans (Rx g);subst h0;refine aa (λh=>cf (cm _ l1) λy hy=>aw ?_) λh=>aa (λh1=>cf (cm _ l2) λy hy=>aw ?_) λh1=>aw ?_
 ·rw[iFP (bt h),hy]
 ·rw[iFN (bf h),iFP (bt h1),hy]
 ·rw[iFN (bf h),iFN (bf h1)];rfl
theorem Kt(g:cj):Wm g=Ib g:=by
 have h:(Wn g).w λr=>r=Ib g:=by
  unfold Wn Ib;refine ai λx0 h0=>?_;have h0:x0=jA g:=h0.trans (zu g);subst h0;refine aa (λh=>aw ?_) λh=>aa (λh1=>aw ?_) λh1=>aw ?_
  ·rw[iFP (bt h)]
  ·rw[iFN (bf h),iFP (bt h1)]
  ·rw[iFN (bf h),iFN (bf h1)];rfl
 exact(Tree.pp h).2
theorem qv(ok:ft g):(Ib g).1.Mem.length<=1024:=by
 obtain⟨l1,l2⟩:=ok.Du;unfold Ib;split
 ·exact l1
 ·split
  ·exact l2
  ·exact bC _
theorem qaR(ok:ft g):szG g:=by
 obtain⟨l1,l2⟩:=ok.Du;have a1:=ok.dl;have a2:=ok.rl;have a3:=ok.sf;have a4:=ok.tc;have a5:=ok.tl;have a6:=ok.tf;have a7:=ok.fl;have a8:=ok.bl;have a9:=ok.st.1;exact⟨⟨by omega,by omega,by omega,by omega⟩,⟨by omega,by omega,by omega,by omega⟩,⟨by omega,λx hx=>⟨by rw[(ok.fo x hx).mem];exact bC _,by have:=(ok.fo x hx).rl;omega⟩⟩,⟨by omega,λx hx=>⟨by rw[(ok.bo x hx).mem];exact bC _,by have:=(ok.bo x hx).rl;omega⟩⟩,by omega⟩
theorem yU{m:bj}{s:gu}(h:HO m)(hg:0<=s.D3)(hb:s.ab.length<=100):(Sd m s).w (H7 m s):=by
 unfold Sd;refine ai λx0 h0=>?_;have h0:x0=Ag m:=h0;subst h0;have bad:¬(Ag m=true/\Nr s/\s.D3≠0)->H7 m s (zG,false):=λn=>⟨λk=>absurd k n,λ_=>rfl⟩;refine aa (λk=>aw (bad λv=>by rw[v.1]at k;cases k)) λk=>cf (Ze1 s hg) λx1 h1=>?_;have hm:Ag m=true:=by simpa using k
 refine aa (λk=>aw (bad λv=>by rw[h1.2 v.2.1]at k;cases k)) λk=>aa (λk=>aw (bad λv=>v.2.2 (by simpa using k))) λg0=>?_;have hv:Nr s:=h1.1 (by simpa using k);have g0:s.D3≠0:=by simpa using g0
 obtain⟨P,p1,p2,pl,e1,e2⟩:=qt h hm;obtain⟨b1,b2⟩:=zT (P:=P) p1 p2;obtain⟨n1,n2⟩:=qax (P:=P) p1 p2;refine ai λx2 h2=>?_;have h2:x2=(P:Int):=h2.trans e1;subst h2;refine bz b1 (ai λx3 h3=>?_);have h3:x3=(⟨cO P true,0,0⟩,true):=h3.trans b2;subst h3;refine ar (by rw[dY (by omega)];rfl) (ar (by rw[dY (by omega)];rfl) (bz n1 (ai λx4 h4=>aw ?_)));have h4:x4=cO (32*P) 0:=h4.trans n2;subst h4;refine⟨λ_=>?_,λn=>absurd ⟨hm,hv,g0⟩ n⟩;rw[e1];rfl
theorem Dx(ok:ft g):(Nq g g).w λr=>r=true:=Bm (qaR ok)
theorem zaz{m:bj}(hm:gy 8 m)(b:List (List UInt8)):Kq (oW m.Mem).toNat m ⟨b,1,0⟩=wm m b:=by
 have e:oW m.Mem=((8:Nat):Int):=by
  obtain⟨e,_⟩:=VL m.Mem hm.v.mem;exact e.symm.trans (Dj (P:=8) hm.lu.len (by decide))
 rw[e];rfl
theorem Se{α:Type}{W:α⊕Bool->Prop}{a:jd}(ok:ft g)(Nu:ft (oX g a).1)(hc:U a.F2){T:cj×Bool->cj×Bool->Tree (α⊕Bool)}(hT:(T (oX g a) (oX g a)).w W):
 (Tree.an (Sf g a) (.lv (Sg g a) λx7=>.an (Q88 g a) (.lv (Qdu g a) λx8=>.an (Wo x7.1) (.lv (Wp x7.1) λx9=>.lv (Wm x8.1) λkF=>.br (!x7.2==x8.2) (.lf (Sum.inr false)) (.an (Wq x7.1 x8.1) (.lv (Wr x7.1 x8.1) λkX=>.br (!kX) (.lf (Sum.inr false)) (.lv (Dt x7.1) λnW=>.lv (Ks x8.1) λr8=>.br (nW !=r8) (.lf (Sum.inr false)) (.an (Ws x7.1) (.lv (Wt x7.1) λAm=>.an (Wu x8.1) (.lv (Wv x8.1) λKu=>.br (!Am==Ku) (.lf (Sum.inr false)) (.br (!x9.2==kF.2) (.lf (Sum.inr false)) (.an (Kn x9.1 kF.1) (.lv (Nv x9.1 kF.1) λAn=>.br (!An) (.lf (Sum.inr false)) (T x7 x8)))))))))))))).w W:=by
 refine cf (Dv ok hc) λx7 e7=>cf (Sb ok hc) λx8 e8=>?_;subst e7;subst e8;generalize oX g a=y at Nu hT;have no:∀{b:Bool} {p:Prop},(!(b==b))=true->p:=λh=>by simp at h
 refine cf (zU Nu) λx9 e9=>ai λkF e10=>aa (λh=>no h) λ_=>cf (Dx Nu) λkX e11=>aa (λh=>by rw[e11]at h;cases h) λ_=>?_;have e10:kF=Ib y.1:=e10.trans (Kt y.1);subst e9;subst e10;refine ai λnW e12=>ai λr8 e13=>aa (λh=>?_) λ_=>?_
 ·rw[show nW=jA y.1 from e12.trans (Rx y.1),show r8=jA y.1 from e13.trans (zu y.1)]at h;simp at h
 refine cf (Z6l Nu) λAm e14=>cf (Zd1 Nu) λKu e15=>aa (λh=>?_) λ_=>aa (λh=>no h) λ_=>?_
 ·rw[e14,e15]at h;exact no h
 have gl:=qv Nu;exact cf (Ak _ (by omega)) λAn e16=>aa (λh=>by rw[e16]at h;cases h) λ_=>hT
theorem xv(kind:Int)(prog l:List Int)(raw:List jd)(hl:prog.length*8<=reachBytes)(hr:∀a∈raw,U a.F2):(Sh kind prog l raw).w λr=>r=true:=by
 unfold Sh;refine aa (λ_=>Ko rfl) (λh1=>aa (λ_=>Ko rfl) (λh2=>aa (λ_=>Ko rfl) (λh3=>?_)));have h1:=oN h1;have h2:=oN h2;have h3:=oN h3;refine cf (Zrd kind prog hl (by omega)) λx3 ⟨m,b,e,hm,k1,k2⟩=>?_;subst e;refine cf (yU (m:=m) (s:=⟨b,1,0⟩) hm.v (by show(0:Int)<=1;decide) (by show b.length<=100;omega)) λx4 k4=>?_;have vs:Nr ⟨b,1,0⟩:=⟨by show 1<=b.length;omega,by show b.length<=64;omega,by show(1:Int)<=_;decide,λj hj=>by
  have hj:j<b.length:=hj;show(b.getD j []).length=128;have e:b.getD j []=b[j]:=by simp[aV,hj]
  rw[e];exact k2 _ (fG hj),λh=>(by cases h),λ_=>eY 0⟩
 have k4:x4=(wm m b,true):=by rw[k4.1 ⟨hm.QF,vs,by show(1:Int)≠0;decide⟩,zaz hm b]
 subst k4;have ok0:=Zwb hm k1 k2;refine aa (λh=>by cases h) λ_=>aa (λh=>by cases h) λ_=>cf (Dx ok0) λx5 e5=>aa (λh=>by rw[e5]at h;cases h) λ_=>?_;refine ed (inv:=λz:Int×cj×cj=>∃i:Nat,z.1=i/\i<=l.length+raw.length/\z.2.2=z.2.1/\∃n,Inv false n z.2.1) (μ:=Si kind prog l raw) ⟨0,rfl,bC _,rfl,m,ok0,.inl (Aj hm b)⟩ (cN _) ?_;rintro⟨_,g,h⟩ ⟨i,rfl,hi,e,n,hI⟩;simp only at e hI;subst e;have el:wrap .i64 ((l.length:Int)+(raw.length:Int))=((l.length+raw.length:Nat):Int):=by rw[wi (by omega) (by omega)];omega
 have ew:=lh (i:=i) (by omega);rw[el];refine aa (λbc=>?_) (λe6=>RA rfl);have bc:i<l.length+raw.length:=by have:=oY bc;simp only at this;omega
 have nx:∀{a},U a.F2->(∃j:Nat,wrap .i64 ((i:Int)+1)=j/\j<=l.length+raw.length/\(oX h a).1=(oX h a).1/\∃n,Inv false n (oX h a).1)/\Si kind prog l raw (wrap .i64 ((i:Int)+1),(oX h a).1,(oX h a).1)<Si kind prog l raw ((i:Int),h,h):=λhU=>
  ⟨⟨i+1,ew,bc,rfl,_,Wa hI hU (λe=>by cases e)⟩,by simp only[Si,ew];omega⟩
 refine aa (λKv=>?_) (λSj=>?_)
 ·have Kv:i<l.length:=by have:=oY Kv;simp only at this;omega
  exact ar (jb Kv) (cf (Zxr _) λx6 hU=>Se hI.1 (Wa hI hU (λe=>by cases e)).1 hU (dj (nx hU)))
 ·have Sj:¬i<l.length:=by have:=oN Sj;simp only at this;omega
  have es:wrap .i64 ((i:Int)-(l.length:Int))=((i-l.length:Nat):Int):=by rw[wi (by omega) (by omega)];omega
  have hlr:i-l.length<raw.length:=by omega
  have eg:raw.getD (i-l.length) (RK.dk RK.ba)=raw[i-l.length]:=by simp[aV,hlr]
  have hU:=hr _ (fG hlr);refine ar (by show(bX 4 4&&bN 0 4&&decide (0<=wrap .i64 ((i:Int)-(l.length:Int))/\wrap .i64 ((i:Int)-(l.length:Int))<(raw.length:Int)))=true;rw[es,dY (show 0<=((i-l.length:Nat):Int)/\((i-l.length:Nat):Int)<(raw.length:Int) by omega)];rfl) ?_;have ea:raw.getD (dA (wrap .i64 ((i:Int)-(l.length:Int)))) (RK.dk RK.ba)=raw[i-l.length]:=by rw[es,dX,eg]
  simp only[ea];exact Se hI.1 (Wa hI hU (λe=>by cases e)).1 hU (dj (nx hU))

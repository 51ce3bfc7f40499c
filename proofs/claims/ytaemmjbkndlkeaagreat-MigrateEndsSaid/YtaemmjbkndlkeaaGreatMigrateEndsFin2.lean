import Derived.Test.YtaemmjbkndlkeaaGreatMigrateEndsFin1
open Nat renaming le_refl->aX,beq->bX,blt->bN,zero_le->bC,lt_succ_self->cN
open List renaming drop_eq_getElem_cons->aO,getElem?_eq_getElem->aI,length_cons->dD,drop_eq_nil_of_le->aN,append_assoc->aM,singleton_append->eO,replicate->cO,replicate_succ'->eR,getD->aV,length_singleton->cY,length_replicate->cS,eq_of_mem_replicate->eS,ext_getElem->bR,mem_append_left->eT,getD_eq_getElem?_getD->cX,getElem?_eq_none->aJ,getElem_mem->eU,mem_cons_self->eV,mem_cons_of_mem->eW,length_set->dC,length_map->eX,length_take->aD,mem_append_right->eY,getElem?_replicate->eZ,eq_nil_of_length_eq_zero->fB,length_nil->dE,foldl_append->fD,take_of_length_le->fE,take_length->fG
open Int renaming toNat_natCast->dX,le_refl->eN,tmod_eq_emod_of_nonneg->dZ,tdiv_eq_ediv_of_nonneg->eG,toNat->dA,NonNeg->fF
open Bool renaming cond_false_right->eQ,false_ne_true->fA,true_eq_false->fC
open BitVec renaming ofInt->dR
set_option maxRecDepth 100000
set_option linter.all false
namespace Go.Proofs.YtaemmjbkndlkeaaGreat
open Go Go.GD
open Go.IntKind(wrap i64 wrap_i64 wrap_u64)
variable {Dd:List Bool}{P f i j k n:Nat}{a b fs:List Int}{clock host:Int}{g:dk}{l xs:List fh}{nc:Bool}{x:fh}
def ig:List Bool->Int->List Int
 |[],_=>[]
 |b::l,k=>if b=true then k::ig l (k+1)else ig l (k+1)
theorem TC:∀(l:List Bool) (k:Int),(ig l k).length<=l.length
 |[],_=>aX _
 |b::l,k=>by
  have:=TC l (k+1)
  simp only[ig];split<;>(try simp)<;>omega
theorem Ou:∀{l:List Bool} {k x:Int},x∈ig l k->k<=x/\x<k+l.length
 |[],_,_,h=>by simp[ig]at h
 |b ::l,k,x,h=>by
  simp only[ig]at h
  have go:x∈ig l (k+1)->k<=x/\x<k+(b::l).length:=λh=>by
   have:=Ou h;simp;omega
  split at h
  ·rcases List.mem_cons.1 h with e|e
   ·subst e;simp;omega
   ·exact go e
  ·exact go h
theorem yk{l:List Bool}(h:i<l.length):l.drop i=l.getD i false::l.drop (i+1):=by
 rw[aO h]
 show _=(l[i]?).getD false::_
 rw[aI h];rfl
theorem vk{l:List Bool}(h:i<l.length)(hb:l.getD i false=true)(k:Int):ig (l.drop i) k=k::ig (l.drop (i+1)) (k+1):=by
 rw[yk h,ig,if_pos hb]
theorem y5{l:List Bool}(h:i<l.length)(hb:l.getD i false=false)(k:Int):ig (l.drop i) k=ig (l.drop (i+1)) (k+1):=by
 rw[yk h,ig,if_neg (by rw[hb];simp)]
theorem wi{x:Int}(h0: -9223372036854775808<=x)(h1:x<=9223372036854775807):wrap .i64 x=x:=by rw[wrap_i64];omega
theorem mU(h:i<n):(bX 1 1&&bN 0 1&&decide (0<=(i:Int)/\(i:Int)<(n:Int)))=true:=by
 rw[dY (by omega)];rfl
theorem zam{n:Int}{l:List Bool}(h0:0<=n)(hb:n+l.length<=1000000000000):(Ov n l).w λr=>r=(n+(ig l 0).length,l):=by
 unfold Ov
 refine fj (inv:=λz:Int×Int=>∃i:Nat,z.1=i/\i<=l.length/\0<=z.2/\z.2<=n+i/\z.2+(ig (l.drop i) i).length=n+(ig l 0).length) (μ:=TE n l) ⟨0,rfl,bC _,h0,by simp,by simp⟩ (cN _) ?_
 rintro⟨_,x⟩ ⟨i,rfl,hi,nO,hx,hs⟩
 simp only at nO hx hs
 refine ab (λbh=>?_) (λgl=>?_)
 ·have bh:i<l.length:=by simpa using bh
  have ew:wrap .i64 ((i:Int)+1)=((i+1:Nat):Int):=by rw[wi (by omega) (by omega)];omega
  refine ax (mU bh) (ab (λBb=>?_) (λBb=>?_))
  ·rw[dX]at Bb
   refine aq λy hy=>?_
   have hy:y=(true,wrap .i64 (x+1)):=hy
   rw[wi (by omega) (by omega)]at hy
   subst hy
   refine ab (λh=>by cases h) (λ_=>ei ?_)
   refine⟨⟨i+1,ew,bh,by show 0<=x+1;omega,by show x+1<=_;omega,?_⟩,?_⟩
   ·rw[vk bh Bb]at hs
    simp only[dD]at hs
    show x+1+((ig (l.drop (i+1)) ((i+1:Nat):Int)).length:Int)=_
    have:((i+1:Nat):Int)=(i:Int)+1:=by omega
    rw[this];omega
   ·simp only[TE,ew];omega
  ·rw[dX]at Bb
   refine ei ⟨⟨i+1,ew,bh,nO,by show x<=_;omega,?_⟩,?_⟩
   ·rw[y5 bh Bb]at hs;simpa using hs
   ·simp only[TE,ew];omega
 ·have gl:l.length<=i:=by simpa using gl
  rw[aN gl]at hs
  refine bj ?_
  show((x,l):Int×List Bool)=_
  rw[<-hs];simp[ig]
theorem xN{c:gd}(hb:c.B1.length<=1000000000000):X1 c/\TF c=(ig c.B1 0).length:=by
 have h1:=Tree.pp (zam (n:=0) (l:=c.B1) (eN _) (by omega))
 have h4:(Ow c).w λr=>r=(ig c.B1 0).length:=by
  unfold Ow
  refine aq λ_ _=>c6 h1.1 (aq λy hy=>bj ?_)
  have hy:y=TG 0 c.B1:=hy
  have e:TG 0 c.B1=(0+((ig c.B1 0).length:Int),c.B1):=h1.2
  rw[hy,e];simp
 exact Tree.pp h4
theorem LD{m:List Int}(hl:m.length=32*P)(hp:P<=32):jU m=P:=by
 simp only[jU,Gs,Tree.m,hl]
 have e1:Int.tmod ((32*P:Nat):Int) 32=0:=by rw[dZ (by omega)];omega
 have e2:Int.tdiv ((32*P:Nat):Int) 32=P:=by rw[eG (by omega)];omega
 rw[e1,e2,dN (by omega),wi (by omega) (by omega)];rfl
theorem ql{m:List Int}(h:jU m=P)(h1:1<=P):m.length=32*P/\P<=32:=by
 simp only[jU,Gs,Tree.m]at h
 rw[dZ (by omega),eG (by omega)]at h
 cases hb:(((m.length:Int)%32 !=0):Bool)with
 |true=>rw[hb]at h;simp only[cond_true]at h;omega
 |false=>
  rw[hb]at h
  simp only[cond_false]at h
  have hb:(m.length:Int)%32=0:=by simpa using hb
  cases hc:decide ((m.length:Int)>1024)with
  |true=>rw[hc]at h;simp only[cond_true]at h;omega
  |false=>
   rw[hc]at h
   simp only[cond_false]at h
   have hc:(m.length:Int)<=1024:=by simpa using hc
   rw[wi (by omega) (by omega)]at h
   omega
theorem Zq0{m:List Int}(hl:m.length=32*P)(hp:P<=32){f:Int}(f0:0<=f)(f1:f<P):Ox m f:=by
 show(DA m f).p
 have hh:Ev m f=true:=by
  simp only[Ev,KG,Tree.m,ee,LD hl hp]
  rw[dY (by omega:f>=0),dY f1];rfl
 have e1:wrap .i64 (f*32)=f*32:=wi (by omega) (by omega)
 have e2:wrap .i64 (f*32+32)=f*32+32:=wi (by omega) (by omega)
 unfold DA
 refine aq λx hx=>?_
 rw[hh]at hx;subst hx
 refine ab (λh=>by cases h) (λ_=>?_)
 rw[e1,e2]
 refine ax (by rw[dY (by rw[hl];omega)];rfl) (c6 ?_ (aq λ_ _=>bj trivial))
 show List.length _<=1000000000000
 simp;omega
def mI(m l:List Int):List kY:=l.map λf=>⟨f,(jB m f).1⟩
theorem xam{m:List Int}(hl:m.length=32*P)(hp:P<=32){d:List Bool}(hd:d.length=P):(Oy m [] d).w λr=>r=(m,mI m (ig d 0),d):=by
 unfold Oy
 refine fj (inv:=λz:Int×List Int×List kY=>∃i:Nat,z.1=i/\i<=d.length/\z.2.1=m/\z.2.2.length<=i/\z.2.2++mI m (ig (d.drop i) i)=mI m (ig d 0)) (μ:=TH m [] d) ⟨0,rfl,bC _,rfl,by simp,by simp⟩ (cN _) ?_
 rintro⟨_,_,x⟩ ⟨i,rfl,hi,hm,hx,hs⟩
 simp only at hm hx hs
 subst hm
 refine ab (λbh=>?_) (λgl=>?_)
 ·have bh:i<d.length:=by simpa using bh
  have ew:wrap .i64 ((i:Int)+1)=((i+1:Nat):Int):=by rw[wi (by omega) (by omega)];omega
  refine ax (mU bh) (ab (λBb=>?_) (λBb=>?_))
  ·rw [dX]at Bb
   refine c6 (?_:(TJ i _ x).p) (aq λy hy=>?_)
   ·exact c6 (Zq0 hl hp (by omega) (by omega)) (aq λ_ _=>ax (dY (by omega)) (bj trivial))
   ·have hy:y=(true,_,x++[⟨(i:Int),(jB _ i).1⟩]):=hy
    subst hy
    refine ab (λh=>by cases h) (λ_=>ei ?_)
    refine⟨⟨i+1,ew,bh,rfl,by simp;omega,?_⟩,?_⟩
    ·rw[vk bh Bb]at hs
     simp only[aM,eO]
     rw[<-hs];simp[mI]
    ·simp only[TH,ew];omega
  ·rw[dX]at Bb
   refine ei ⟨⟨i+1,ew,bh,rfl,by show x.length<=_;omega,?_⟩,?_⟩
   ·rw[y5 bh Bb]at hs;simpa using hs
   ·simp only[TH,ew];omega
 ·have gl:d.length<=i:=by simpa using gl
  rw[aN gl]at hs
  refine bj ?_
  show((_,x,d):List Int×List kY×List Bool)=_
  rw[<-hs];simp[ig,mI]
def uq(c:gd)(m:List Int):gd×List kY:=
 if ur c=true/\c.C0<=10/\jU m=c.B1.length then
  ({B1:=cO c.B1.length false,C0:=wrap .i64 (c.C0+1),D6:=wrap .i64 (c.D6+(ig c.B1 0).length)},mI m (ig c.B1 0))
 else(c,[])
theorem Zig{c:gd}(h:ur c=true):1<=c.B1.length/\c.B1.length<=32/\0<=c.C0/\c.C0<=11/\0<=c.D6/\c.D6<=352:=by
 simp only[ur,TL,Tree.m,eQ,aE,decide_eq_true_eq]at h
 omega
theorem Zlp{c:gd}:ur c=decide (1<=c.B1.length/\c.B1.length<=32/\0<=c.C0/\c.C0<=11/\0<=c.D6/\c.D6<=352):=by
 cases h:ur c with
 |true=>exact(dY (Zig h)).symm
 |false=>
  refine(dN λhh=>?_).symm
  have:ur c=true:=by
   simp only[ur,TL,Tree.m,eQ,aE,decide_eq_true_eq]
   omega
  rw[h]at this;cases this
theorem TM{c:gd}(hb:c.B1.length<=1000000000000):X2 c/\Oz c=c:=by
 refine⟨?_,rfl⟩
 show(TN c).p
 exact c6 (show c.B1.length<=140737488355328 by omega) (aq λ_ _=>bj trivial)
theorem z6{c:gd}{fm:Int}(hb:c.B1.length<=1000000000000):Qhq c fm/\IQ c fm=(ur c&&(decide (((ig c.B1 0).length:Int)<=fm)||decide (c.C0>=10))):=by
 have h:(OA c fm).w λr=>r=(ur c&&(decide (((ig c.B1 0).length:Int)<=fm)||decide (c.C0>=10))):=by
  unfold OA
  refine aq λv hv=>?_
  have hv:v=ur c:=hv
  subst hv
  refine ab (λh1=>?_) (λh1=>bj ?_)
  ·obtain⟨g1,g2⟩:=xN hb
   refine c6 g1 (aq λx hx=>?_)
   have hx:x=TF c:=hx
   rw[g2]at hx;subst hx
   rw[h1]
   refine ab (λh2=>bj ?_) (λh2=>bj ?_)
   ·rw[h2];rfl
   ·rw[h2];simp
  ·rw[h1];rfl
 exact Tree.pp h
theorem xaG(h0:1<=P)(h1:P<=32):Qmt P/\Z09 P=cO (32*P) 0:=by
 have h:(OB P).w λr=>r=cO (32*P) 0:=by
  unfold OB
  have e:wrap .i64 ((P:Int)*32)=(P:Int)*32:=wi (by omega) (by omega)
  refine ab (λh=>by simp at h;omega) (λ_=>ab (λh=>by simp at h;omega) (λ_=>?_))
  rw[e]
  refine ax (by rw[dY (by omega)];rfl) (bj ?_)
  congr 1;omega
 exact Tree.pp h
theorem qan(h0:1<=P)(h1:P<=32):Qf9 P/\Qpe P=(⟨cO P true,0,0⟩,true):=by
 have h:(OC P).w λr=>r=(⟨cO P true,0,0⟩,true):=by
  unfold OC
  refine ab (λh=>by simp at h;omega) (λ_=>ab (λh=>by simp at h;omega) (λ_=>ax (by rw[dY (by omega)];rfl) ?_))
  refine fj (inv:=λz:Int×List Bool=>∃i:Nat,z.1=i/\i<=P/\z.2=cO i true++cO (P-i) false) (μ:=X3 P) ⟨0,rfl,bC _,by simp⟩ (cN _) ?_
  rintro⟨_,x⟩ ⟨i,rfl,hi,hx⟩
  simp only at hx
  refine ab (λbh=>?_) (λgl=>?_)
  ·have bh:i<P:=by simpa using bh
   have ew:wrap .i64 ((i:Int)+1)=((i+1:Nat):Int):=by rw[wi (by omega) (by omega)];omega
   have hl:x.length=P:=by rw[hx];simp;omega
   refine ax (by rw[hl];exact mU bh) (ei ⟨⟨i+1,ew,bh,?_⟩,?_⟩)
   ·show x.set (dA (i:Int)) true=_
    rw[hx,dX,List.set_append_right _ _ (by simp),show P-i=(P-(i+1))+1 by omega,List.replicate_succ,eR]
    simp
   ·simp only[X3,ew];omega
  ·have gl:P<=i:=by simpa using gl
   have:i=P:=by omega
   subst this
   refine bj ?_
   show(({B1:=x,C0:=(0:Int),D6:=(0:Int)}:gd),true)=_
   rw[hx];simp
 exact Tree.pp h
def ri:List Bool->List Int->List Bool
 |d,[]=>d
 |d,f::l=>ri (if 0<=f/\f<d.length then d.set f.toNat true else d) l
theorem Z2i:∀(l:List Int) (d:List Bool),(ri d l).length=d.length
 |[],_=>rfl
 |f::l,d=>by simp only[ri];rw[Z2i];split<;>simp
theorem qaH{c:gd}{l:List Int}(hb:c.B1.length<=1000000000000)(hl:l.length<=1000000000000):X4 c l/\TO c l={c with B1:=ri c.B1 l}:=by
 have h:(OD c l).w λr=>r={c with B1:=ri c.B1 l}:=by
  unfold OD
  refine c6 (TM hb).1 (aq λx hx=>?_)
  have hx:x=Oz c:=hx
  rw[(TM hb).2]at hx;subst hx
  refine fj (inv:=λz:Int×List Bool=>∃i:Nat,z.1=i/\i<=l.length/\ri z.2 (l.drop i)=ri x.B1 l) (μ:=Q5 x l) ⟨0,rfl,bC _,by simp⟩ (cN _) ?_
  rintro⟨_,d⟩ ⟨i,rfl,hi,hd⟩
  simp only at hd
  refine ab (λbh=>?_) (λgl=>?_)
  ·have bh:i<l.length:=by simpa using bh
   have ew:wrap .i64 ((i:Int)+1)=((i+1:Nat):Int):=by rw[wi (by omega) (by omega)];omega
   have lW:l.drop i=l.getD i 0::l.drop (i+1):=by
    rw[aO bh];congr 1;simp[aV,bh]
   rw[lW,ri]at hd
   have mx:Q5 x l (wrap .i64 ((i:Int)+1),d)<Q5 x l ((i:Int),d):=by simp only[Q5,ew];omega
   have skip:¬(0<=l.getD i 0/\l.getD i 0<d.length)->(∃j:Nat,wrap .i64 ((i:Int)+1)=j/\j<=l.length/\ri d (l.drop j)=ri x.B1 l):=λhn=>by
    rw[if_neg hn]at hd
    exact⟨i+1,ew,bh,hd⟩
   refine ax (mU bh) ?_
   refine ab (λh1=>?_) (λh1=>ei ⟨skip (λh=>oN h1 h.1),mx⟩)
   have h1:0<=l.getD i 0:=oY h1
   refine ab (λh2=>?_) (λh2=>ei ⟨skip (λh=>oN h2 h.2),mx⟩)
   have h2:l.getD i 0<d.length:=oY h2
   refine ax (Bool.and_eq_true_iff.2 ⟨rfl,dY ⟨h1,h2⟩⟩) (ei ⟨⟨i+1,ew,bh,?_⟩,?_⟩)
   ·rw[if_pos ⟨h1,h2⟩]at hd;exact hd
   ·simp only[Q5,ew];omega
  ·have gl:l.length<=i:=by simpa using gl
   rw[aN gl,ri]at hd
   refine bj ?_
   show({B1:=d,C0:=x.C0,D6:=x.D6}:gd)=_
   rw[hd]
 exact Tree.pp h
attribute [local irreducible] KD
def Tree.V{β:Type}(t:Tree β)(W:β->Prop):Prop:=W t.m
section
variable {α β:Type} {W:β->Prop} {c:Bool} {t e:Tree β}
theorem mo{x:β}(h:W x):Tree.V (.lf x) W:=h
theorem IS{f:Prop}{x:β}{hf:f}(h:W x):Tree.V (.nx f x hf) W:=h
theorem lj(h:c=true->Tree.V t W)(g:c=false->Tree.V e W):Tree.V (.br c t e) W:=by
 cases c
 ·exact g rfl
 ·exact h rfl
theorem Cg(g:Tree.V t W):Tree.V (.cn c t) W:=g
theorem nG{p:Prop}(g:Tree.V t W):Tree.V (.an p t) W:=g
theorem lR{x:α}{k:α->Tree β}(h:∀y,y=x->Tree.V (k y) W):Tree.V (.lv x k) W:=h x rfl
theorem EO{d:Inhabited β}{n:Nat}{f:Prop}{x:α}{k:α->Tree (α⊕β)}{hf:f}{inv:α->Prop}{μ:α->Nat}(h:inv x)(hn:μ x<n)(g:∀y,inv y->Tree.V (k y) (Sum.elim (λz=>inv z/\μ z<μ y) W)):Tree.V (.lp d n f x k hf) W:=by
 refine qC (P:=inv) (R:=W) (μ:=μ) (λa ha=>?_) n x h hn
 have:=g a ha
 unfold Tree.V at this
 revert this
 cases(k a).m with
 |inl z=>exactλh=>h
 |inr b=>exactλh=>h
end
structure gh(P:Nat)(m:bg):Prop where
 ok:rJ P m
 may:AS m=true
section
variable {P:Nat} {m:bg} (h:gh P m)
include h
theorem gh.v:Ls m:=⟨h.ok.oh,h.ok.mem.u,h.ok.mn,h.ok.wm,h.ok.target,h.ok.tw⟩
theorem gh.s:Ai P m:=⟨h.ok.oh,h.ok.mem,h.ok.mn,h.ok.wm,h.ok.target.1,h.ok.target.2⟩
theorem gh.X5:IK m=true:=(Zqe h.v).symm.trans h.may
theorem Zhx:GK m=false↔m.B6=false/\IM m=false/\m.B7<1152921504606846976:=by
 simp only[GK,IN,Tree.m,ee,h.X5]
 cases m.B6<;>cases IM m<;>simp
theorem zN(hs:GK m=false)(hc:U clock):gh P (Am m clock).2/\(Am m clock).2.B7=m.B7+1/\(Am m clock).1.length<=1:=by
 have o:=Tree.post _ (WO h.ok hc)
 change(Am m clock).1.length<=1/\rJ P (Am m clock).2/\(Am m clock).2.B7=wrap .u64 (m.B7+1)at o
 have s:=(Tree.pp (W7 h.s h.ok.tw hc)).2
 change _/\Good P m (Ba m clock).1 at s
 have e:Ba m clock=((Am m clock).2,(Am m clock).1):=by rw[Zk2 h.v,Zp8,hs];rfl
 rw[e]at s
 have hct:=((Zhx h).1 hs).2.2
 have h0:=h.ok.tw
 refine⟨⟨o.2.1,s.2.may h.may⟩,?_,o.1⟩
 rw[o.2.2,wrap_u64];omega
end
theorem Zr8{i:List Int}(hu:∀w∈i,U w)(hl:i.length<=256):gh 8 (lh 8 4 i).1/\(lh 8 4 i).1.B7=0:=by
 obtain⟨a,b⟩:=(Tree.pp (BP i hu hl)).2
 change rJ 8 (lh 8 4 i).1 at a
 refine⟨⟨a,?_⟩,b⟩
 have e:(lh 8 4 i).2=true:=by
  have w:i64.wrap (8*32)=256:=by decide
  simp only[lh,Qd,Tree.m,w,ee,dN (show¬((i.length:Int)>256) by omega)]
  rfl
 obtain⟨a1,a2,a3,a4,a5,a6⟩:=zaO 8 4 i e
 exact(xaO _ 8 4 a1 a2 a3 a4 a5 _ a6).1
theorem xl{m:bg}(h:gh 8 m)(hc:m.B7<=87):Tree.V (Ij m [] 87) (λx=>x.2.2.2=0->gh 8 x.1/\x.1.B7<=87):=by
 have z:∀{k:Int} {p:Prop},k≠0->k=0->p:=λa b=>absurd b a
 unfold Ij
 refine lR λx0 _=>lj (λ_=>mo (z (by decide))) λ_=>lj (λ_=>mo (z (by decide))) λ_=>lj (λ_=>mo (z (by decide))) λ_=>nG (lR λx1 _=>lj (λ_=>mo (z (by decide))) λ_=>nG (lR λx2 hx=>?_))
 rw[y4]at hx
 refine EO (inv:=λv:bg×List iq=>gh 8 v.1/\v.1.B7<=87) (μ:=WT m [] 87) ⟨by rw[hx];exact h,by rw[hx];exact hc⟩ (cN _) λv0 ⟨a1,a3⟩=>?_
 have a2:=a1.ok.tw
 refine lj (λhb=>lj (λhm=>?_) (λ_=>mo λ_=>⟨a1,a3⟩)) (λ_=>mo λ_=>⟨a1,a3⟩)
 have hb:=oY hb
 have hm:=oY hm
 refine EO (inv:=λ_=>True) (μ:=WU m [] 87 v0) trivial (cN _) λv1 _=>?_
 refine lj (λ_=>mo λ_=>⟨a1,a3⟩) λhh=>nG (lR λx3 h3=>lj (λ_=>mo λ_=>⟨a1,a3⟩) λhi=>nG (lR λx4 _=>lj (λ_=>mo (z (by decide))) λ_=>nG (lR λx5 h5=>Cg (IS ?_))))
 obtain⟨b1,b2,_⟩:=zN a1 ((Zhx a1).2 ⟨hh,h3.symm.trans hi,hm⟩) (clock:=0) gj
 rw[<-h5]at b1 b2
 show(gh 8 x5.2/\x5.2.B7<=87)/\(87-x5.2.B7).toNat<(87-v0.1.B7).toNat
 exact⟨⟨b1,by omega⟩,by omega⟩
theorem Zls(kind:Int)(l:List Int)(hl:l.length*8<=reachBytes)(h40:l.length<=60):gh 8 (TP kind l)/\(TP kind l).B7<=87:=by
 show Tree.V (Ik kind l) (λm=>gh 8 m/\m.B7<=87)
 have code:=(Tree.pp (yd l hl)).2
 change((TQ l).length:Int)=l.length/\∀w∈TQ l,U w at code
 obtain⟨b1,b2⟩:=code
 unfold Ik
 refine nG (lR λx0 nO=>lj (λ_=>nG (lR λx1 e1=>?_)) (λhk=>?_))
 ·have eb:x1.1=jP:=by rw[e1];rfl
  obtain⟨q1,q2⟩:jP.length<=160/\∀w∈jP,U w:=ye
  refine EO (inv:=λv:List Int=>v.length<=160/\v=jP++cO (v.length-jP.length) 0) (μ:=WV kind l) ⟨by rw[eb];exact q1,by rw[eb];simp⟩ (cN _) λv0 ⟨a1,a2⟩=>?_
  have a3:jP.length<=v0.length:=by rw[a2,lA];omega
  refine lj (λhb=>?_) (λhb=>?_)
  ·have hb:=oY hb
   refine Cg (IS ?_)
   show(_/\_)/\(_:Nat)<_
   refine⟨⟨by rw[lA,cY];omega,?_⟩,by show 160-(v0++[0]).length<160-v0.length;rw[lA,cY];omega⟩
   show v0++[0]=jP++cO ((v0++[0]).length-jP.length) 0
   rw[lA,cY,show v0.length+1-jP.length=(v0.length-jP.length)+1 by omega,eR,<-aM,<-a2]
  ·have hb:=oN hb
   have hv:v0=tv:=by
    unfold tv
    rw[show(160:Nat)=v0.length by omega]
    exact a2
   subst hv
   have hp:=xf
   have WW:∀w∈tv,U w:=λw hw=>(List.mem_append.1 hw).elim (q2 w) (BN _ w)
   refine nG (lR λx2 e2=>Cg ?_)
   rw[<-e2]at b1 b2
   have hu:∀w∈tv++x2,U w:=λw hw=>(List.mem_append.1 hw).elim (WW w) (b2 w)
   have hlen:(tv++x2).length<=256:=by rw[lA];omega
   refine lj (λhb=>?_) (λhb=>?_)
   ·have hb:=oY hb;omega
   ·obtain⟨c1,c2⟩:=Zr8 hu hlen
    refine nG (lR λx3 h3=>?_)
    rw[<-h3]at c1 c2
    have rn:=xl c1 (by omega)
    refine lj (λ_=>nG (lR λx4 hx=>mo ?_)) (λ_=>mo ⟨c1,by omega⟩)
    have e:x3=lh 8 4 (tv++(x2++cO (96-x2.length) 0)):=by
     rw[h3]
     have Il:(x2++cO (96-x2.length) (0:Int)).length=96:=by rw[lA,cS];omega
     refine qf _ _ hlen (by rw[lA,Il];omega) ?_
     rw[lA,lA,Il,hp,aM,aM,aM,show 256-(160+96)=0 by omega,show 256-(160+x2.length)=96-x2.length by omega]
     simp
    have h0:x4.2.2.2=0:=by
     rw[hx,e]
     exact xZ _ (by rw[lA,cS];omega)
    exact(by rw[hx];exact rn:x4.2.2.2=0->gh 8 x4.1/\x4.1.B7<=87) h0
 ·have hk:=oN hk
  refine nG (lR λx2 e2=>Cg ?_)
  rw[<-e2]at b1 b2
  refine lj (λhb=>?_) (λhb=>?_)
  ·have hb:=oY hb;omega
  ·obtain⟨c1,c2⟩:=Zr8 b2 (by omega)
   refine nG (lR λx3 h3=>?_)
   rw[<-h3]at c1 c2
   exact lj (λh=>absurd (eq_of_beq h) (by omega)) (λ_=>mo ⟨c1,by omega⟩)
theorem EP{m:bg}(g:gh P m)(hc:U clock):gh P (Ba m clock).1:=by
 have s:=(Tree.pp (W7 g.s g.ok.tw hc)).2
 change _/\Good P m (Ba m clock).1 at s
 have k:=s.2.ok
 exact⟨⟨k.oh,k.mem,k.mn,k.wm,⟨k.target,k.given⟩,s.2.tw⟩,s.2.may g.may⟩
theorem Z4r{m:bg}(g:gh P m)(hc:U clock):TR m clock:=(Tree.pp (W7 g.s g.ok.tw hc)).1
theorem gh.mq{m:bg}(h:gh P m):ep P m.Mem:=h.ok.mem
theorem Zqa{m:bg}(h:gh 8 m){M:List Int}(hM:ep 8 M):gh 8 {m with Mem:=M}:=by
 refine⟨⟨h.ok.oh,hM,h.ok.mn,h.ok.wm,h.ok.target,h.ok.tw⟩,?_⟩
 obtain⟨g1,g2,g3,g4,g5⟩:=(KV m).1 h.may
 have id:∀{p:Prop},p->p:=λh=>h
 refine(KV _).2 ⟨?_,g2,g3,g4,?_⟩
 ·show jU M≠0
  rw[ug hM];decide
 ·exact Iq (m:=m) (P:=8) h.ok.mem hM id id id id id g5
theorem yN:ep 8 (cO 256 0):=⟨by simp,by decide,by decide,λw hw=>by rw[eS hw];exact gj⟩
theorem zan{s t:List Int}(hl:s.length<=1000000000000):TS s t=true->s=t:=by
 have h:(LF s t).w λr=>r=true->s=t:=by
  unfold LF
  refine ab (λ_=>bj λh=>by cases h) (λhe=>?_)
  have he:s.length=t.length:=by
   have:(s.length:Int)=t.length:=by simpa using he
   omega
  refine fj (inv:=λz:Int=>∃i:Nat,z=i/\i<=s.length/\∀j,j<i->s.getD j 0=t.getD j 0) (μ:=OE s t) ⟨0,rfl,bC _,λj h=>by omega⟩ (cN _) ?_
  rintro _ ⟨i,rfl,hi,hj⟩
  refine ab (λbh=>?_) (λgl=>bj λ_=>?_)
  ·have bh:i<s.length:=by simpa using bh
   have ew:wrap .i64 ((i:Int)+1)=((i+1:Nat):Int):=by rw[wi (by omega) (by omega)];omega
   refine ax (mU bh) (ax (mU (by omega)) (ab (λ_=>bj λh=>by cases h) (λheq=>ei ⟨⟨i+1,ew,bh,λj LG=>?_⟩,by simp only[OE,ew];omega⟩)))
   rw[dX]at heq
   rcases Nat.lt_succ_iff_lt_or_eq.1 LG with h|h
   ·exact hj j h
   ·subst h;simpa using heq
  ·have gl:s.length<=i:=by simpa using gl
   refine bR he λj h1 h2=>?_
   have:=hj j (by omega)
   simpa[aV,h1,h2]using this
 exact(Tree.pp h).2
theorem Zm(ha:ep P a)(hb:ep P b):X6 a b/\(Q3 a b).length<=P/\ ∀k:Nat,k<P->(k:Int)∈Q3 a b\/(a.drop (k*32)).take 32=(b.drop (k*32)).take 32:=by
  have h:(OF a b).w λr=>r.length<=P/\ ∀k:Nat,k<P->(k:Int)∈r\/(a.drop (k*32)).take 32=(b.drop (k*32)).take 32:=by
    have la:=ha.len
    have lb:=hb.len
    have hp:=ha.p2
    unfold OF
    refine aq λx0 h0=>aq λx1 h1=> ?_
    have h0:x0=P:=h0.trans (LD la hp)
    have h1:x1=P:=h1.trans (LD lb hp)
    subst h0;subst h1
    refine ab (λh=>by simp at h) (λ_=> ?_)
    refine fj (inv:=λz:Int×List Int=> ∃i:Nat,z.1=i/\i<=P/\z.2.length<=i/\ ∀k:Nat,k<i->(k:Int)∈z.2\/(a.drop (k*32)).take 32=(b.drop (k*32)).take 32) (μ:=λz=>(P-z.1).toNat) ⟨0,rfl,bC _,by simp,λk h=>by omega⟩ (by simp only[Qif];omega) ?_
    rintro⟨_,x⟩ ⟨i,rfl,hi,hx,hk⟩
    simp only at hx hk
    refine ab (λbh=> ?_) (λgl=>bj ?_)
    . have bh:i<P:=by simpa using bh
      have ew:wrap .i64 ((i:Int)+1)=((i+1:Nat):Int):=by rw[wi (by omega) (by omega)];omega
      have e1:wrap .i64 ((i:Int)*32)=((i*32:Nat):Int):=by rw[wi (by omega) (by omega)];omega
      have e2:wrap .i64 (((i+1:Nat):Int)*32)=((i*32+32:Nat):Int):=by rw[wi (by omega) (by omega)];omega
      simp only[ew,e1,e2,dX,show i*32+32-i*32=32 by omega]
      refine ax (by rw[dY (by omega)];rfl) (ax (by rw[dY (by omega)];rfl) (c6 (show _<=_ by simp;omega) (aq λx2 h2=> ?_)))
      have h2:x2=TS _ _:=h2
      refine ab (λhn=>ax (dY (by omega)) (ei ⟨⟨i+1,rfl,bh,by simp;omega,λk uV=> ?_⟩,by omega⟩)) (λhn=>ei ⟨⟨i+1,rfl,bh,by show x.length<=_;omega,λk uV=> ?_⟩,by omega⟩)
      . rcases Nat.lt_succ_iff_lt_or_eq.1 uV with h|h
        . rcases hk k h with h|h
          . exact .inl (eT _ h)
          . exact .inr h
        . subst h;exact .inl (by simp)
      . rcases Nat.lt_succ_iff_lt_or_eq.1 uV with h|h
        . exact hk k h
        . subst h
          have:x2=true:=by simpa using hn
          exact .inr (zan (by simp;omega) (h2.symm.trans this))
    . have gl:P<=i:=by simpa using gl
      exact⟨by show x.length<=P;omega,λk uV=>hk k (by omega)⟩
  exact Tree.pp h
theorem TT:∀{l:List Int} {d:List Bool} {k:Nat},k<d.length->(d.getD k false=true\/(k:Int)∈l)->(ri d l).getD k false=true
 |[],d,k,_,h=>by
  rcases h with h|h
  ·exact h
  ·cases h
 |f :: l,d,k,hk,h=>by
  simp only[ri]
  by_cases hf:0<=f/\f<d.length
  ·rw [if_pos hf]
   refine TT (by simpa using hk) ?_
   by_cases e:f.toNat=k
   ·refine .inl ?_
    subst e
    simp[aV,hk]
   ·rcases h with h|h
    ·refine .inl ?_
     rw[cX,List.getElem?_set_ne e,<-cX];exact h
    ·rcases List.mem_cons.1 h with h|h
     ·omega
     ·exact .inr h
  ·rw[if_neg hf]
   refine TT hk ?_
   rcases h with h|h
   ·exact .inl h
   ·rcases List.mem_cons.1 h with h|h
    ·omega
    ·exact .inr h
theorem zl(h:(a.drop (j/32*32)).take 32=(b.drop (j/32*32)).take 32):a.getD j 0=b.getD j 0:=by
 have e:=congrArg (λl=>l.getD (j%32) 0) h
 have hm:j%32<32:=Nat.mod_lt _ (by decide)
 simp only[cX,List.getElem?_take,hm,if_true,List.getElem?_drop]at e
 rw[show j/32*32+j%32=j by omega]at e
 simpa only[cX]using e
theorem y6{m d:List Int}{b:Nat}(h:m.getD (b/4) 0=d.getD (b/4) 0):lD m b=lD d b:=by unfold lD;rw[h]
theorem qm{c:gd}{m:List Int}(hP:1<=P)(hm:ep P m)(hd:c.B1.length=P)(r0:0<=c.C0)(r1:c.C0<=10)(s0:0<=c.D6)(s1:c.D6<=352):uq c m=(⟨cO P false,c.C0+1,c.D6+(ig c.B1 0).length⟩,mI m (ig c.B1 0)):=by
 have:=TC c.B1 0
 have hP2:=hm.p2
 unfold uq
 rw[if_pos ⟨by rw[Zlp];exact dY (by omega),r1,by rw[LD (P:=P) hm.len hP2,hd]⟩,wi (by omega) (by omega),wi (by omega) (by omega),hd]
theorem xm{c:gd}{m:List Int}(hb:c.B1.length<=1000000000000):X7 c m/\IT c m=uq c m:=by
 have h:(OG c m).w λr=>r=uq c m:=by
  unfold OG
  refine c6 (TM hb).1 (aq λx hx=>?_)
  have hx:x=Oz c:=hx
  rw[(TM hb).2]at hx;subst hx
  refine aq λv hv=>?_
  have hv:v=ur x:=hv
  refine ab (λh1=>bj ?_) (λh1=>?_)
  ·have:ur x=false:=by rw[hv]at h1;simpa using h1
   simp[uq,this]
  have hV:ur x=true:=by rw[hv]at h1;simpa using h1
  obtain⟨v1,v2,v3,v4,v5,v6⟩:=Zig hV
  refine ab (λh2=>bj ?_) (λh2=>?_)
  ·have:¬x.C0<=10:=by simpa using h2
   simp[uq,this]
  have h2:x.C0<=10:=by simpa using h2
  refine aq λp hp=>?_
  have hp:p=jU m:=hp
  refine ab (λh3=>bj ?_) (λh3=>?_)
  ·have:¬jU m=x.B1.length:=by rw[hp]at h3;simpa using h3
   simp[uq,this]
  have h3:jU m=x.B1.length:=by rw[hp]at h3;simpa using h3
  obtain⟨l1,l2⟩:=ql h3 v1
  have hr:=Tree.pp (xam l1 l2 rfl)
  refine aq λ_ _=>c6 hr.1 (aq λy hy=>ax ?_ (bj ?_))
  ·rw[dY (by omega)];rfl
  ·have hy:y=TU m [] x.B1:=hy
   have e:TU m [] x.B1=(m,mI m (ig x.B1 0),x.B1):=hr.2
   rw[hy,e]
   simp[uq,hV,h2,h3,mI]
 exact Tree.pp h
theorem vN{c:gd}{m:List Int}(hm:ep 8 m)(hd:c.B1.length=8)(r0:0<=c.C0)(r1:c.C0<=10)(s0:0<=c.D6)(s1:c.D6<=8*c.C0):uq c m=(⟨cO 8 false,c.C0+1,c.D6+(ig c.B1 0).length⟩,mI m (ig c.B1 0)):=
 qm (P:=8) (by decide) hm hd r0 r1 s0 (by omega)
theorem IU{m:List Int}(hm:ep 8 m)(hf:f<8):BY m f (jB m f).1/\(jB m f).2=true:=(Tree.pp (qi hm (f:=(f:Int)) (by omega) (by omega))).2
theorem zm{m:List Int}(hm:ep 8 m)(hf:f<8):(jB m f).1.length=128:=(IU hm hf).1.1
theorem Zcm(ha:ep 8 a)(hb:ep 8 b)(hf:f<8)(h:∀k:Nat,k<128->lD a (f*128+k)=lD b (f*128+k)):(jB a f).1=(jB b f).1:=by
 obtain⟨p1,p2⟩:=(IU ha hf).1
 obtain⟨q1,q2⟩:=(IU hb hf).1
 have e:((f:Int)*128).toNat=f*128:=by omega
 refine vh (m:=a) (f:=f) ⟨p1,p2⟩ ⟨q1,λk hk=>?_⟩
 rw[q2 k hk,e,h k hk]
theorem qO(ha:ep 8 a)(hb:ep 8 b)(hf:f<8)(h:(jB a f).1=(jB b f).1)(hk:k<128):lD a (f*128+k)=lD b (f*128+k):=by
 have p:=(IU ha hf).1.2 k hk
 have q:=(IU hb hf).1.2 k hk
 have e:((f:Int)*128).toNat=f*128:=by omega
 rw[e]at p q
 rw[<-p,<-q,h]
theorem xO(ha:ep 8 a)(hb:ep 8 b)(hf:f<8)(h:¬(f:Int)∈Q3 a b):(jB a f).1=(jB b f).1:=by
 obtain⟨_,_,c⟩:=Zm ha hb
 refine Zcm ha hb hf λk hk=>y6 ?_
 rcases c f hf with c|c
 ·exact absurd c h
 ·exact zl (by rw[show(f*128+k)/4/32=f by omega];exact c)
theorem TV{m:List Int}(hm:ep 8 m)(hf:f<8){d:List UInt8}(hd:d.length=128):(rL m f d).2=true/\ep 8 (rL m f d).1/\∀b:Nat,lD (rL m f d).1 b=if(f:Int)*128<=b/\(b:Int)<(f:Int)*128+128 then((d.getD (b-(f:Int)*128).toNat 0).toNat:Int)else lD m b:=(Tree.pp (Xh hm (f:=(f:Int)) (by omega) (by omega) hd)).2
theorem Zm4{m:List Int}(hm:ep 8 m)(hf:f<8){d:List UInt8}(hd:d.length=128):TW m f d:=(Tree.pp (Xh hm (f:=(f:Int)) (by omega) (by omega) hd)).1
theorem Zm7{m:List Int}(hm:ep 8 m)(hf:f<8){d:List UInt8}(hd:d.length=128):ep 8 (rL m f d).1:=(TV hm hf hd).2.1
theorem Zp4{m:List Int}(hm:ep 8 m)(hf:f<8){d:List UInt8}(hd:d.length=128):(jB (rL m f d).1 f).1=d:=by
 obtain⟨_,ok,h⟩:=TV hm hf hd
 refine vh (IU ok hf).1 ⟨hd,λk hk=>?_⟩
 rw[h,if_pos (by omega)]
 congr 3;omega
theorem Zmm{m:List Int}(hm:ep 8 m)(hf:f<8)(hk:k<8)(hn:k≠f){d:List UInt8}(hd:d.length=128):(jB (rL m f d).1 k).1=(jB m k).1:=by
 obtain⟨_,ok,h⟩:=TV hm hf hd
 refine Zcm ok hm hk λj hj=>?_
 rw[h,if_neg (by omega)]
theorem ym(ha:ep 8 a)(hb:ep 8 b)(h:∀f:Nat,f<8->(jB a f).1=(jB b f).1):a=b:=by
 have la:=ha.len
 have lb:=hb.len
 refine xh (la.trans lb.symm) ha.u hb.u λk=>?_
 by_cases hk:k/128<8
 ·have:=qO ha hb hk (h _ hk) (k:=k%128) (Nat.mod_lt _ (by decide))
  rwa [show k/128*128+k%128=k by omega]at this
 ·refine y6 ?_
  simp[aV,aJ (show a.length<=k/4 by omega),aJ (show b.length<=k/4 by omega)]
theorem xan{c:gd}(hd:c.B1.length=8)(r0:0<=c.C0)(r1:c.C0<=11)(s0:0<=c.D6)(s1:c.D6<=8*c.C0):IQ c 32=true:=by
 have:=TC c.B1 0
 rw[(z6 (c:=c) (fm:=32) (by omega)).2,Zlp,dY (show 1<=c.B1.length/\c.B1.length<=32/\0<=c.C0/\c.C0<=11/\0<=c.D6/\c.D6<=352 by omega),dY (show((ig c.B1 0).length:Int)<=32 by omega)]
 rfl
def Ch(s:iO):Prop:=s.ae.length=4/\(∀b∈s.ae,b.length=128)/\1<=s.D5/\s.D5<=2/\0<=s.D7
theorem Zq6{s:iO}(h:Ch s):(OH s).w λr=>r=true:=by
 obtain⟨b1,b2,b3,b4,b5⟩:=h
 unfold OH
 refine ab (λh=>absurd (oY h) (by omega)) λ_=>ab (λh=>absurd (oY h) (by omega)) λ_=>ab (λh=>absurd (oY h) (by omega)) λ_=>?_
 refine fj (inv:=λz:Int=>∃i:Nat,z=i/\i<=s.ae.length) (μ:=X8 s) ⟨0,rfl,bC _⟩ (cN _) ?_
 rintro _ ⟨i,rfl,hi⟩
 refine ab (λbh=>?_) (λgl=>ab (λh=>?_) (λ_=>bj (dY (by omega))))
 ·have bh:i<s.ae.length:=by simpa using bh
  have ew:wrap .i64 ((i:Int)+1)=((i+1:Nat):Int):=by rw[wi (by omega) (by omega)];omega
  refine ax (mU bh) (ab (λh=>?_) (λ_=>ei ⟨⟨i+1,ew,bh⟩,by simp only[X8,ew];omega⟩))
  exfalso
  have e:s.ae.getD (dA (i:Int)) (RK.ed RK.str)=s.ae[i]:=by simp[aV,bh]
  rw[e,b2 _ (eU bh)]at h
  cases h
 ·have h:s.D5=0:=by simpa using h
  omega
theorem X9{s:iO}(h:Ch s)(h0:0<=host)(seen:Int):(OI s host seen).w λr=>r=if s.D5=seen then({s with D5:=s.D5+1,D7:=host},true)else(s,false):=by
 have v:=Tree.pp (Zq6 h)
 obtain⟨b1,b2,b3,b4,b5⟩:=h
 unfold OI
 have cp:(OJ s).w λr=>r=s:=by
  unfold OJ
  exact c6 (show s.ae.length<=1000000000000 by omega) (aq λx hx=>by have hx:x=s.ae:=hx;subst hx;exact bj rfl)
 refine cv cp λx0 e0=>?_
 subst e0
 refine c6 v.1 (aq λx1 h1=>?_)
 have h1:x1=true:=h1.trans v.2
 subst h1
 refine ab (λh=>by cases h) λ_=>ab (λh=>absurd (oY h) (by omega)) λ_=>ab (λh=>bj ?_) λh=>?_
 ·have:x0.D5≠seen:=by simpa using h
  rw[if_neg this]
 ·have h:x0.D5=seen:=by simpa using h
  refine ab (λh=>absurd (oY h) (by omega)) λ_=>bj ?_
  have e:wrap .u64 (x0.D5+1)=x0.D5+1:=by rw[wrap_u64];omega
  rw[if_pos h,e]
theorem Zqj{s:iO}(h:Ch s)(h0:0<=host)(seen:Int):mr s host seen=if s.D5=seen then({s with D5:=s.D5+1,D7:=host},true)else(s,false):=(Tree.pp (X9 h h0 seen)).2
def zM:bg:=(RK.ed RK.aa).A0
def gw(l:List fh)(x:fh):List fh:=if l.length<64 then l++[x]else l
def oM(l xs:List fh):List fh:=xs.foldl gw l
theorem LH{x y:fh}(h:y∈gw l x):y∈l\/y=x:=by
 unfold gw at h;split at h
 ·rcases List.mem_append.1 h with h|h
  ·exact .inl h
  ·exact .inr (List.mem_singleton.1 h)
 ·exact .inl h
theorem LI(h:l.length<=64):(gw l x).length<=64:=by
 unfold gw;split
 ·rw[lA,cY];omega
 ·exact h
theorem OK:∀{l:List fh} {y:fh},y∈oM l xs->y∈l\/y∈xs:=by
 induction xs with
 |nil=>intro l y h;exact .inl h
 |cons x xs ih=>
  intro l y h
  rcases ih (l:=gw l x) h with h|h
  ·rcases LH h with h|h
   ·exact .inl h
   ·exact .inr (by rw[h];exact eV ..)
  ·exact .inr (eW _ h)
theorem Zif:∀{l:List fh},l.length<=64->(oM l xs).length<=64:=by
 induction xs with
 |nil=>intro l h;exact h
 |cons x xs ih=>intro l h;exact ih (l:=gw l x) (LI h)
theorem Zqz:∀{l:List fh},l.length+xs.length<=64->oM l xs=l++xs:=by
 induction xs with
 |nil=>intro l h;simp[oM]
 |cons x xs ih=>
  intro l h
  have h:l.length+(xs.length+1)<=64:=h
  have e:gw l x=l++[x]:=if_pos (by omega)
  have:=ih (l:=l++[x]) (by rw[lA,cY];omega)
  show oM (gw l x) xs=_
  rw[e,this,aM];rfl
def rj(r f:Int)(d:List UInt8):fh:=⟨1,r,f,d,zM,[]⟩
def pf(s:ic):fh:=⟨2,0,0,[],{s.A0 with Mem:=[]},s.A3⟩
def Ci(k:Int):fh:=⟨k,0,0,[],zM,[]⟩
def Qf(R fs:List Int)(v:Int):List Int:=fs.foldl (λR f=>R.set f.toNat v) R
theorem TX{v:Int}:∀{R:List Int},(Qf R fs v).length=R.length:=by
 induction fs with
 |nil=>intro R;rfl
 |cons x xs ih=>intro R;exact(ih (R:=R.set x.toNat v)).trans dC
theorem FV{R:List Int}{v:Int}(hk:k<R.length):(R.set i v).getD k 0=if i=k then v else R.getD k 0:=by
 simp only[cX,List.getElem?_set]
 by_cases h:i=k
 ·subst h;simp[hk]
 ·simp[h]
theorem Zdi{v:Int}(hf:∀f∈fs,0<=f):∀{R:List Int} {k:Nat},k<R.length->(Qf R fs v).getD k 0=if(k:Int)∈fs then v else R.getD k 0:=by
 induction fs with
 |nil=>intro R k hk;simp[Qf]
 |cons x xs ih=>
  intro R k hk
  have h:=ih (λf h=>hf f (eW _ h)) (R:=R.set x.toNat v) (k:=k) (by rw[dC];exact hk)
  show(Qf (R.set x.toNat v) xs v).getD k 0=_
  rw[h,FV hk]
  have x0:=hf x (eV ..)
  by_cases h1:(k:Int)∈xs
  ·rw[if_pos h1,if_pos (eW _ h1)]
  ·rw [if_neg h1]
   by_cases h2:x.toNat=k
   ·rw[if_pos h2,if_pos (by rw[show(k:Int)=x by omega];exact eV ..)]
   ·rw[if_neg h2,if_neg (λh=>by
     rcases List.mem_cons.1 h with h|h
     ·omega
     ·exact h1 h)]
theorem vm:∀{Dd:List Bool} {k:Int} {f:Nat},k+(f:Int)∈ig Dd k↔Dd.getD f false=true
 |[],k,f=>by simp[ig]
 |b::Dd,k,0=>by
  have no:¬k∈ig Dd (k+1):=λh=>by have:=Ou h;omega
  simp only[ig]
  cases b<;>simp[no]
 |b ::Dd,k,f+1=>by
  have ih:=vm (Dd:=Dd) (k:=k+1) (f:=f)
  have e:k+((f+1:Nat):Int)=k+1+(f:Int):=by omega
  rw[e]
  simp only[ig,List.getD_cons_succ]
  split
  ·rw[List.mem_cons]
   constructor
   ·rintro(h|h)
    ·omega
    ·exact ih.1 h
   ·exactλh=>.inr (ih.2 h)
  ·exact ih
theorem TY:(f:Int)∈ig Dd 0↔Dd.getD f false=true:=by
 have:=vm (Dd:=Dd) (k:=0) (f:=f)
 rwa [Int.zero_add]at this
def LJ(g:dk):dk:=
 { g with
   A1:={g.A1 with B0:=(uq g.A1.B0 g.A1.A0.Mem).1,A3:=Qf g.A1.A3 ((uq g.A1.B0 g.A1.A0.Mem).2.map (·.Frame)) (uq g.A1.B0 g.A1.A0.Mem).1.C0}
   A7:=oM g.A7 ((uq g.A1.B0 g.A1.A0.Mem).2.map λp=>rj (uq g.A1.B0 g.A1.A0.Mem).1.C0 p.Frame p.F2)}
def GN(g:dk):dk:=
 {g with A1:={g.A1 with A4:=2},A7:=gw g.A7 (pf g.A1)}
def DN(g:dk)(fm:Int):dk:=
 if g.A1.A4=1/\IQ g.A1.B0 fm=true then GN (LJ g)else g
def oi(s:ic):List fh:=(List.range 8).map λf=>rj (s.A3.getD f 0) f (jB s.A0.Mem f).1
theorem qn(s:ic)(hf:f<8):rj (s.A3.getD f 0) f (jB s.A0.Mem f).1∈oi s:=by
 unfold oi;exact List.mem_map.2 ⟨f,List.mem_range.2 hf,rfl⟩
theorem Zl4(s:ic):(oi s).length=8:=by
 unfold oi;rw[eX,List.length_range]
theorem Zox(s:ic):(oi s++[pf s]).length=9:=by
 rw[lA,Zl4];rfl
def ER(g:dk):dk:=
 if g.A1.A4=2 then{g with A7:=oM g.A7 (oi g.A1++[pf g.A1])}else g
def jj(g:dk):Int:=if g.A1.A4=1\/g.A1.A4=3 then 0 else if g.A2.A4=3 then 1 else-1
def ll(m:bg)(clock:Int):Nat->bg
 |0=>m
 |n+1=>(Ba (ll m clock n) clock).1
def runN(n:Int):Nat:=(min (max n 0) 64).toNat
def rM(s:ic)(m:bg):gd:=if s.A4=1 then{s.B0 with B1:=ri s.B0.B1 (Q3 s.A0.Mem m.Mem)}else s.B0
def jY(g:dk)(n clock:Int):dk:=
 if g.A1.A4=1\/g.A1.A4=3 then{g with A1:={g.A1 with A0:=ll g.A1.A0 clock (runN n),B0:=rM g.A1 (ll g.A1.A0 clock (runN n))}}
 else if g.A2.A4=3 then{g with A2:={g.A2 with A0:=ll g.A2.A0 clock (runN n)}}
 else g
def iN(t:ic)(x:fh):ic:=
 if¬(t.A4=0\/t.A4=1\/t.A4=2)then t
 else if x.C2=1 then
  (if 0<=x.Frame/\x.Frame<t.A3.length/\t.A3.getD x.Frame.toNat 0<x.C0 then
   {t with A4:=if t.A4=0 then 1 else t.A4,A0:={t.A0 with Mem:=(rL t.A0.Mem x.Frame x.F2).1},A3:=t.A3.set x.Frame.toNat x.C0}
  else t)
 else if x.C2=2 then(if t.A4=2 then t else{t with A4:=2,A0:={x.A0 with Mem:=t.A0.Mem},B8:=x.A3})
 else if x.C2=4 then{t with A4:=4}else t
def lG(g:dk)(back:Bool):List fh:=if back=true then g.C1 else g.A7
def pj(g:dk)(back:Bool)(l:List fh):dk:=if back=true then{g with C1:=l}else{g with A7:=l}
def lY(l:List fh)(i:Int):Prop:=0<=i/\i<l.length
instance (l:List fh) (i:Int):Decidable (lY l i):=by unfold lY;infer_instance
def pk(l:List fh)(i:Int):fh:=l.getD i.toNat (RK.ed RK.aa)
def kG(l:List fh)(i:Int):List fh:=l.take i.toNat++l.drop (i.toNat+1)
def nH(g:dk)(back:Bool)(i:Int):dk:=if lY (lG g back) i then pj g back (kG (lG g back) i)else g
def LK(g:dk)(back:Bool)(x:fh):dk:=
 if back=true then(if g.A1.A4=2/\x.C2=3 then{g with A1:={g.A1 with A4:=4}}else g)else{g with A2:=iN g.A2 x}
def oj(g:dk)(back:Bool)(i:Int):dk:=if lY (lG g back) i then LK (nH g back i) back (pk (lG g back) i)else g
def Bc(g:dk)(back:Bool)(i:Int):dk:=if lY (lG g back) i then pj g back (gw (lG g back) (pk (lG g back) i))else g
def Cj(g:dk):Prop:=g.A2.A4=2/\g.A2.A3=g.A2.B8
instance (g:dk):Decidable (Cj g):=by unfold Cj;infer_instance
def rk(g:dk):dk:=
 if Cj g then
  (if(mr g.A9 1 g.A2.D5).2=true then{g with A9:=(mr g.A9 1 g.A2.D5).1,A2:={g.A2 with A4:=3,D5:=(mr g.A9 1 g.A2.D5).1.D5},C1:=gw g.C1 (Ci 3)}
  else{g with A2:={g.A2 with A4:=4}})
 else g
def nI(g:dk):dk:=
 if g.A1.A4=1 then{g with A1:={g.A1 with A4:=3},A7:=gw g.A7 (Ci 4)}
 else if g.A1.A4=2 then
  (if(mr g.A9 0 g.A1.D5).2=true then{g with A9:=(mr g.A9 0 g.A1.D5).1,A1:={g.A1 with A4:=3,D5:=(mr g.A9 0 g.A1.D5).1.D5},A7:=gw g.A7 (Ci 4)}
  else{g with A1:={g.A1 with A4:=4}})
 else g
def OL(g:dk)(back:Bool):dk:=if back=true then{g with A2:={g.A2 with A4:=4}}else{g with A1:={g.A1 with A4:=4}}
def wx(g:dk)(a:jt):dk×Bool:=
 if a.C2=1 then(jY g a.N a.D8,true)
 else if a.C2=2 then(if g.A1.A4=1/\g.A1.B0.C0<10 then LJ g else g,true)
 else if a.C2=3 then(DN g a.N,true)
 else if a.C2=4 then(ER g,true)
 else if a.C2=5 then(oj g a.C1 a.N,true)
 else if a.C2=6 then(nH g a.C1 a.N,true)
 else if a.C2=7 then(Bc g a.C1 a.N,true)
 else if a.C2=8 then(rk g,true)
 else if a.C2=9 then(nI g,true)
 else if a.C2=10 then(OL g a.C1,true)
 else(g,false)
structure jG(x:fh):Prop where
 mem:x.A0.Mem=[]
 rl:x.A3.length<=8
 pg:x.C2=1->0<=x.Frame/\x.Frame<8/\x.F2.length=128
 stt:x.C2=2->∀M,ep 8 M->gh 8 {x.A0 with Mem:=M}
structure ga(g:dk):Prop where
 src:gh 8 g.A1.A0
 dl:g.A1.B0.B1.length=8
 r0:0<=g.A1.B0.C0
 r1:g.A1.B0.C0<=11
 r2:g.A1.A4=1->g.A1.B0.C0<=10
 s0:0<=g.A1.B0.D6
 s1:g.A1.B0.D6<=8*g.A1.B0.C0
 rl:g.A1.A3.length=8
 sf:g.A1.B8.length<=8
 tc:g.A2.B0.B1.length<=8
 tl:g.A2.A3.length=8
 tm:ep 8 g.A2.A0.Mem
 tg:g.A2.A4=2\/g.A2.A4=3->gh 8 g.A2.A0
 tf:g.A2.B8.length<=8
 fl:g.A7.length<=64
 fo:∀x∈g.A7,jG x
 bl:g.C1.length<=64
 bo:∀x∈g.C1,jG x
 st:Ch g.A9
theorem Zhr{m:List Int}(hm:ep 8 m){r:Int}(hf:f<8):jG (rj r f (jB m f).1):=
 ⟨rfl,bC _,λ_=>⟨by show(0:Int)<=(f:Int);omega,by show(f:Int)<8;omega,zm hm hf⟩,λh=>absurd (show(1:Int)=2 from h) (by decide)⟩
theorem Zcf{s:ic}(h:gh 8 s.A0)(hr:s.A3.length<=8):jG (pf s):=
 ⟨rfl,hr,λh=>absurd (show(2:Int)=1 from h) (by decide),λ_ M hM=>Zqa h hM⟩
theorem Ya{k:Int}(h1:k≠1)(h2:k≠2):jG (Ci k):=⟨rfl,bC _,λh=>absurd h h1,λh=>absurd h h2⟩
theorem sB(h:∀y∈l,jG y)(hx:jG x):∀y∈gw l x,jG y:=λy hy=>by
 rcases LH hy with h1|h1
 ·exact h y h1
 ·rw[h1];exact hx
theorem Cl(h:∀y∈l,jG y)(hx:∀y∈xs,jG y):∀y∈oM l xs,jG y:=λy hy=>(OK hy).elim (h y) (hx y)
section
variable {g:dk} (h:ga g)
include h
theorem ga.rm:ep 8 g.A1.A0.Mem:=h.src.mq
theorem ga.round(hr:g.A1.B0.C0<=10):uq g.A1.B0 g.A1.A0.Mem=(⟨cO 8 false,g.A1.B0.C0+1,g.A1.B0.D6+(ig g.A1.B0.B1 0).length⟩,mI g.A1.A0.Mem (ig g.A1.B0.B1 0)):=vN h.rm h.dl h.r0 hr h.s0 h.s1
end
theorem Zeu(m l:List Int):(mI m l).map (·.Frame)=l:=by
 unfold mI;rw[List.map_map];exact List.map_id' l
def tC(c:gd)(m:List Int):List fh:=(mI m (ig c.B1 0)).map λp=>rj (c.C0+1) p.Frame p.F2
def mJ(g:dk):dk:=
 { g with
   A1:={g.A1 with B0:=⟨cO 8 false,g.A1.B0.C0+1,g.A1.B0.D6+(ig g.A1.B0.B1 0).length⟩,A3:=Qf g.A1.A3 (ig g.A1.B0.B1 0) (g.A1.B0.C0+1)}
   A7:=oM g.A7 (tC g.A1.B0 g.A1.A0.Mem)}
theorem IV(h:ga g)(hr:g.A1.B0.C0<=10):LJ g=mJ g:=by
 unfold LJ mJ tC
 rw[h.round hr]
 simp only[Zeu]
theorem Yb(h:Dd.length=8):(ig Dd 0).length<=8:=by have:=TC Dd 0;omega
theorem z7:∀f∈ig Dd 0,0<=f:=λf hf=>(Ou hf).1
theorem TZ{c:gd}{m:List Int}(hd:c.B1.length=8)(h:x∈tC c m):∃f:Nat,f<8/\c.B1.getD f false=true/\x=rj (c.C0+1) f (jB m f).1:=by
 unfold tC mI at h
 obtain⟨p,hp,rfl⟩:=List.mem_map.1 h
 obtain⟨f,hf,rfl⟩:=List.mem_map.1 hp
 have h1:=Ou hf
 obtain⟨k,rfl⟩:∃k:Nat,f=k:=⟨f.toNat,by omega⟩
 exact⟨k,by omega,TY.1 hf,rfl⟩
theorem zO{c:gd}{m:List Int}(h:c.B1.getD f false=true):rj (c.C0+1) f (jB m f).1∈tC c m:=by
 unfold tC mI
 exact List.mem_map.2 ⟨_,List.mem_map.2 ⟨(f:Int),TY.2 h,rfl⟩,rfl⟩
theorem yO{c:gd}{m:List Int}(hd:c.B1.length=8):(tC c m).length<=8:=by
 unfold tC mI
 rw[eX,eX]
 exact Yb hd
theorem Zqn(h:ga g)(hr:g.A1.B0.C0<=10)(hp:g.A1.A4=1->g.A1.B0.C0<=9):ga (mJ g):=by
 have hs:=Yb h.dl
 obtain⟨a1,a2,a3,a4,a5,a6,a7,a8,a9,kz,kA,a12,kB,kC,kD,a16,a17,a18,a19⟩:=h
 refine⟨a1,by simp[mJ],by show 0<=g.A1.B0.C0+1;omega,by show g.A1.B0.C0+1<=11;omega,λe=>by have:=hp e;show g.A1.B0.C0+1<=10;omega,by show 0<=g.A1.B0.D6+_;omega,by show g.A1.B0.D6+((ig g.A1.B0.B1 0).length:Int)<=8*(g.A1.B0.C0+1);omega,TX.trans a8,a9,kz,kA,a12,kB,kC,Zif kD,Cl a16 λy hy=>?_,a17,a18,a19⟩
 obtain⟨f,hf,_,rfl⟩:=TZ a2 hy
 exact Zhr a1.mq hf
def ES(g:dk):dk:=GN (mJ g)
theorem xn(h:ga g)(hp:g.A1.A4=1):ga (ES g):=by
 have h2:=h.r2 hp
 have h':ga {g with A1:={g.A1 with A4:=2}}:=⟨h.src,h.dl,h.r0,h.r1,λe=>absurd (show(2:Int)=1 from e) (by decide),h.s0,h.s1,h.rl,h.sf,h.tc,h.tl,h.tm,h.tg,h.tf,h.fl,h.fo,h.bl,h.bo,h.st⟩
 have r:=Zqn h' h2 (λe=>absurd (show(2:Int)=1 from e) (by decide))
 exact⟨r.src,r.dl,r.r0,r.r1,λe=>absurd (show(2:Int)=1 from e) (by decide),r.s0,r.s1,r.rl,r.sf,r.tc,r.tl,r.tm,r.tg,r.tf,LI r.fl,sB r.fo (Zcf r.src (Nat.le_of_eq r.rl)),r.bl,r.bo,r.st⟩
theorem zn{s:ic}(h:x∈oi s):∃f:Nat,f<8/\x=rj (s.A3.getD f 0) f (jB s.A0.Mem f).1:=by
 obtain⟨f,hf,rfl⟩:=List.mem_map.1 h
 exact⟨f,List.mem_range.1 hf,rfl⟩
theorem Z7c{s:ic}(h:x∈oi s++[pf s]):(∃f:Nat,f<8/\x=rj (s.A3.getD f 0) f (jB s.A0.Mem f).1)\/x=pf s:=by
 rcases List.mem_append.1 h with h|h
 ·exact .inl (zn h)
 ·exact .inr (List.mem_singleton.1 h)
theorem ga.IW(h:ga g)(hl:l.length<=64)(ho:∀x∈l,jG x):ga {g with A7:=l}:=
 ⟨h.src,h.dl,h.r0,h.r1,h.r2,h.s0,h.s1,h.rl,h.sf,h.tc,h.tl,h.tm,h.tg,h.tf,hl,ho,h.bl,h.bo,h.st⟩
def Cm(g:dk):dk:={g with A7:=oM g.A7 (oi g.A1++[pf g.A1])}
theorem yn(h:ga g):ga (Cm g):=by
 refine h.IW (l:=oM g.A7 (oi g.A1++[pf g.A1])) (Zif h.fl) (Cl h.fo λy hy=>?_)
 rcases Z7c hy with⟨f,hf,rfl⟩|rfl
 ·exact Zhr h.rm hf
 ·exact Zcf h.src (by have:=h.rl;omega)
theorem GO{m:bg}(g:gh 8 m){clock:Int}(hc:U clock):∀n,gh 8 (ll m clock n)
 |0=>g
 |n+1=>EP (GO g hc n) hc
theorem vn{s:ic}{m:bg}:(rM s m).B1.length=s.B0.B1.length/\(rM s m).C0=s.B0.C0/\(rM s m).D6=s.B0.D6:=by
 unfold rM;split
 ·exact⟨Z2i _ _,rfl,rfl⟩
 ·exact⟨rfl,rfl,rfl⟩
theorem qao(h:ga g)(hc:U clock)(n:Int):ga (jY g n clock):=by
 unfold jY
 split
 ·obtain⟨e1,e2,e3⟩:=vn (s:=g.A1) (m:=ll g.A1.A0 clock (runN n))
  exact⟨GO h.src hc _,e1.trans h.dl,by show 0<=(rM _ _).C0;rw[e2];exact h.r0,by show(rM _ _).C0<=_;rw[e2];exact h.r1,λe=>by show(rM _ _).C0<=_;rw[e2];exact h.r2 e,by show 0<=(rM _ _).D6;rw[e3];exact h.s0,by show(rM _ _).D6<=8*(rM _ _).C0;rw[e2,e3];exact h.s1,h.rl,h.sf,h.tc,h.tl,h.tm,h.tg,h.tf,h.fl,h.fo,h.bl,h.bo,h.st⟩
 ·split
  ·rename_i hp
   have gt:=GO (h.tg (.inr hp)) hc (runN n)
   exact⟨h.src,h.dl,h.r0,h.r1,h.r2,h.s0,h.s1,h.rl,h.sf,h.tc,h.tl,gt.mq,λ_=>gt,h.tf,h.fl,h.fo,h.bl,h.bo,h.st⟩
  ·exact h
structure T0(t:ic):Prop where
 tc:t.B0.B1.length<=8
 tl:t.A3.length=8
 tm:ep 8 t.A0.Mem
 tg:t.A4=2\/t.A4=3->gh 8 t.A0
 tf:t.B8.length<=8
theorem ga.t(h:ga g):T0 g.A2:=⟨h.tc,h.tl,h.tm,h.tg,h.tf⟩
theorem ga.IX(h:ga g){t:ic}(k:T0 t):ga {g with A2:=t}:=
 ⟨h.src,h.dl,h.r0,h.r1,h.r2,h.s0,h.s1,h.rl,h.sf,k.tc,k.tl,k.tm,k.tg,k.tf,h.fl,h.fo,h.bl,h.bo,h.st⟩
theorem zao{t:ic}(h:T0 t)(hx:jG x):T0 (iN t x):=by
 unfold iN
 split
 ·exact h
 ·rename_i hp
  split
  ·rename_i hk
   split
   ·rename_i hf
    obtain⟨f0,f1,hd⟩:=hx.pg hk
    obtain⟨f,e⟩:∃f:Nat,x.Frame=f:=⟨x.Frame.toNat,by omega⟩
    have hm:ep 8 (rL t.A0.Mem x.Frame x.F2).1:=by rw[e];exact Zm7 h.tm (by omega) hd
    refine⟨h.tc,List.length_set.trans h.tl,hm,λhq=>?_,h.tf⟩
    have hq:(if t.A4=0 then(1:Int)else t.A4)=2\/(if t.A4=0 then(1:Int)else t.A4)=3:=hq
    refine Zqa (h.tg ?_) hm
    by_cases h0:t.A4=0
    ·rw[if_pos h0]at hq;omega
    ·rw[if_neg h0]at hq;exact hq
   ·exact h
  ·split
   ·rename_i hk
    split
    ·exact h
    ·exact⟨h.tc,h.tl,h.tm,λ_=>hx.stt hk _ h.tm,hx.rl⟩
   ·split
    ·exact⟨h.tc,h.tl,h.tm,λhq=>by have hq:(4:Int)=2\/(4:Int)=3:=hq;omega,h.tf⟩
    ·exact h
theorem GP{i:Int}(h:lY l i):pk l i∈l:=by
 obtain⟨h0,h1⟩:=h
 have hl:i.toNat<l.length:=by omega
 have e:pk l i=l[i.toNat]:=by simp[pk,aV,hl]
 rw[e];exact eU hl
theorem OM{i:Int}(h:x∈kG l i):x∈l:=by
 rcases List.mem_append.1 h with h|h
 ·exact List.mem_of_mem_take h
 ·exact List.mem_of_mem_drop h
theorem Yc{i:Int}(h:lY l i):(kG l i).length+1=l.length:=by
 obtain⟨h0,h1⟩:=h
 unfold kG
 rw[lA,aD,List.length_drop];omega
theorem qo{i:Int}(h:lY l i)(hx:x∈l):x∈kG l i\/x=pk l i:=by
 obtain⟨h0,h1⟩:=h
 have hl:i.toNat<l.length:=by omega
 have e:l=l.take i.toNat++l.drop i.toNat:=(List.take_append_drop ..).symm
 have e2:l.drop i.toNat=l[i.toNat]::l.drop (i.toNat+1):=aO hl
 have e3:pk l i=l[i.toNat]:=by simp[pk,aV,hl]
 rw[e,e2]at hx
 rcases List.mem_append.1 hx with h|h
 ·exact .inl (eT _ h)
 ·rcases List.mem_cons.1 h with h|h
  ·exact .inr (h.trans e3.symm)
  ·exact .inl (eY _ h)
theorem ga.ET(h:ga g)(hl:l.length<=64)(ho:∀x∈l,jG x):ga {g with C1:=l}:=
 ⟨h.src,h.dl,h.r0,h.r1,h.r2,h.s0,h.s1,h.rl,h.sf,h.tc,h.tl,h.tm,h.tg,h.tf,h.fl,h.fo,hl,ho,h.st⟩
theorem ga.F4(h:ga g)(b:Bool):(lG g b).length<=64/\∀x∈lG g b,jG x:=by
 cases b
 ·exact⟨h.fl,h.fo⟩
 ·exact⟨h.bl,h.bo⟩
theorem ga.set(h:ga g)(b:Bool)(hl:l.length<=64)(ho:∀x∈l,jG x):ga (pj g b l):=by
 cases b
 ·exact h.IW hl ho
 ·exact h.ET hl ho
theorem Yd(h:ga g)(b:Bool)(i:Int):ga (nH g b i):=by
 unfold nH;split
 ·rename_i hi
  have:=Yc hi
  have:=(h.F4 b).1
  exact h.set b (by omega) λx hx=>(h.F4 b).2 x (OM hx)
 ·exact h
theorem xo(h:ga g)(b:Bool)(i:Int):ga (Bc g b i):=by
 unfold Bc;split
 ·rename_i hi
  exact h.set b (LI (h.F4 b).1) (sB (h.F4 b).2 ((h.F4 b).2 _ (GP hi)))
 ·exact h
theorem ga.phase(h:ga g){p:Int}(hp:p=1->g.A1.B0.C0<=10):ga {g with A1:={g.A1 with A4:=p}}:=
 ⟨h.src,h.dl,h.r0,h.r1,hp,h.s0,h.s1,h.rl,h.sf,h.tc,h.tl,h.tm,h.tg,h.tf,h.fl,h.fo,h.bl,h.bo,h.st⟩
theorem xao(h:ga g)(b:Bool)(hx:jG x):ga (LK g b x):=by
 cases b
 ·exact h.IX (zao h.t hx)
 ·show ga (if g.A1.A4=2/\x.C2=3 then _ else g)
  split
  ·exact h.phase (λe=>absurd e (by decide))
  ·exact h
theorem Zbh(h:ga g)(b:Bool)(i:Int):ga (oj g b i):=by
 unfold oj;split
 ·rename_i hi
  exact xao (Yd h b i) b ((h.F4 b).2 _ (GP hi))
 ·exact h
theorem vO(h:ga g)(b:Bool):ga (OL g b):=by
 cases b
 ·exact h.phase (λe=>absurd e (by decide))
 ·exact h.IX ⟨h.tc,h.tl,h.tm,λhq=>by have hq:(4:Int)=2\/(4:Int)=3:=hq;omega,h.tf⟩
def An(g:dk):Prop:=∀f:Nat,f<8->
 g.A2.A3.getD f 0<=g.A1.A3.getD f 0/\
 g.A1.A3.getD f 0<=g.A1.B0.C0/\
 (g.A1.B0.B1.getD f false=false->0<g.A1.A3.getD f 0/\(g.A2.A3.getD f 0=g.A1.A3.getD f 0->(jB g.A1.A0.Mem f).1=(jB g.A2.A0.Mem f).1))/\
 ∀x∈g.A7,x.C2=1->x.Frame=f->x.C0<=g.A1.A3.getD f 0/\(g.A1.B0.B1.getD f false=false->x.C0=g.A1.A3.getD f 0->x.F2=(jB g.A1.A0.Mem f).1)
structure Cn(nc:Bool)(m:bg)(g:dk):Prop where
 sp:g.A1.A4=1
 gn:g.A9.D5=1/\g.A1.D5=1/\g.A2.D5=1
 mc:g.A1.A0=m
 tp:g.A2.A4=0\/g.A2.A4=1\/(g.A2.A4=4/\nc=false)
 ks:∀x∈g.A7,x.C2=1
 bk:g.C1=[]
 tr:An g
structure GQ(nc:Bool)(m:bg)(g:dk):Prop where
 sp:g.A1.A4=3\/(g.A1.A4=4/\nc=false)
 gn:g.A9.D5=1/\g.A1.D5=1/\g.A2.D5=1
 mc:g.A1.A4=3->g.A1.A0=m
 tp:g.A2.A4=0\/g.A2.A4=1\/g.A2.A4=4
 ks:∀x∈g.A7,x.C2=1\/x.C2=4
 bk:g.C1=[]
structure Qi(nc:Bool)(m:bg)(g:dk):Prop where
 sp:g.A1.A4=2\/(g.A1.A4=4/\nc=false)
 gn:g.A9.D5=1/\g.A1.D5=1/\g.A2.D5=1
 mc:g.A1.A0=m
 cl:∀f,g.A1.B0.B1.getD f false=false
 tp:g.A2.A4=0\/g.A2.A4=1\/g.A2.A4=2\/(g.A2.A4=4/\nc=false)
 ks:∀x∈g.A7,x.C2=1\/(x.C2=2/\x.A0={m with Mem:=[]}/\x.A3=g.A1.A3)
 ts:g.A2.A4=2->g.A2.B8=g.A1.A3/\{g.A2.A0 with Mem:=[]}={m with Mem:=[]}
 bk:g.C1=[]
 tr:An g
structure GR(nc:Bool)(m:bg)(g:dk):Prop where
 sp:g.A1.A4=3\/(g.A1.A4=4/\nc=false)
 gn:g.A9.D5=2/\g.A9.D7=0/\g.A2.D5=1
 mc:g.A1.A4=3->g.A1.A0=m
 tp:g.A2.A4≠3
 bk:g.C1=[]
structure LM(nc:Bool)(m:bg)(g:dk):Prop where
 sp:g.A1.A4=2\/g.A1.A4=4
 gn:g.A9.D5=2/\g.A9.D7=1/\g.A1.D5=1
 tp:g.A2.A4=3\/(g.A2.A4=4/\nc=false)
 mc:g.A2.A4=3->g.A2.A0=m
def DO(nc:Bool)(m:bg)(g:dk):Prop:=Cn nc m g\/GQ nc m g\/Qi nc m g\/GR nc m g\/LM nc m g
def Inv(nc:Bool)(m:bg)(g:dk):Prop:=ga g/\DO nc m g
theorem Zs8(f:Nat):(cO 8 false).getD f false=false:=by
 simp only[cX,eZ]
 split<;>rfl
theorem Zop(h:ga g)(t:An g):An (mJ g):=by
 intro f hf
 obtain⟨t1,t2,t3,t4⟩:=t f hf
 have hg:(Qf g.A1.A3 (ig g.A1.B0.B1 0) (g.A1.B0.C0+1)).getD f 0=if g.A1.B0.B1.getD f false=true then g.A1.B0.C0+1 else g.A1.A3.getD f 0:=by
  rw[Zdi z7 (by rw[h.rl];exact hf)]
  simp only[TY]
 show g.A2.A3.getD f 0<=(Qf _ _ _).getD f 0/\(Qf _ _ _).getD f 0<=g.A1.B0.C0+1/\((cO 8 false).getD f false=false->0<(Qf _ _ _).getD f 0/\(g.A2.A3.getD f 0=(Qf _ _ _).getD f 0->_))/\∀x∈oM _ _,x.C2=1->x.Frame=f->x.C0<=(Qf _ _ _).getD f 0/\((cO 8 false).getD f false=false->x.C0=(Qf _ _ _).getD f 0->_)
 have r0:=h.r0
 rw[hg]
 cases hd:g.A1.B0.B1.getD f false
 ·rw[if_neg (by decide)]
  refine⟨t1,by omega,λ_=>t3 hd,λx hx k1 k2=>?_⟩
  rcases OK hx with hx|hx
  ·exact⟨(t4 x hx k1 k2).1,λ_=>(t4 x hx k1 k2).2 hd⟩
  ·obtain⟨f',T8,pn,rfl⟩:=TZ h.dl hx
   have e:(f':Int)=f:=k2
   have e:f'=f:=by omega
   rw[e,hd]at pn;cases pn
 ·rw[if_pos rfl]
  refine⟨by omega,by omega,λ_=>⟨by omega,λe=>by omega⟩,λx hx k1 k2=>?_⟩
  rcases OK hx with hx|hx
  ·have:=(t4 x hx k1 k2).1
   exact⟨by omega,λ_ e=>by omega⟩
  ·obtain⟨f',T8,pn,rfl⟩:=TZ h.dl hx
   have e:(f':Int)=f:=k2
   have e:f'=f:=by omega
   subst e
   exact⟨eN _,λ_ _=>rfl⟩
theorem An.pO(t:An g)(hl:∀x∈l,x.C2=1->x∈g.A7\/∃f:Nat,f<8/\x=rj (g.A1.A3.getD f 0) f (jB g.A1.A0.Mem f).1):An {g with A7:=l}:=by
 intro f hf
 obtain⟨t1,t2,t3,t4⟩:=t f hf
 refine⟨t1,t2,t3,λx hx k1 k2=>?_⟩
 rcases hl x hx k1 with hx|⟨f',T8,rfl⟩
 ·exact t4 x hx k1 k2
 ·have e:(f':Int)=f:=k2
  have e:f'=f:=by omega
  subst e
  exact⟨eN _,λ_ _=>rfl⟩
theorem zo{t:ic}(hk:x.C2=1):iN t x=t\/((t.A4=0\/t.A4=1\/t.A4=2)/\0<=x.Frame/\x.Frame<t.A3.length/\t.A3.getD x.Frame.toNat 0<x.C0/\iN t x={t with A4:=if t.A4=0 then 1 else t.A4,A0:={t.A0 with Mem:=(rL t.A0.Mem x.Frame x.F2).1},A3:=t.A3.set x.Frame.toNat x.C0}):=by
 by_cases hp:t.A4=0\/t.A4=1\/t.A4=2
 ·by_cases hc:0<=x.Frame/\x.Frame<t.A3.length/\t.A3.getD x.Frame.toNat 0<x.C0
  ·exact .inr ⟨hp,hc.1,hc.2.1,hc.2.2,by unfold iN;rw[if_neg (λh=>h hp),if_pos hk,if_pos hc]⟩
  ·exact .inl (by unfold iN;rw[if_neg (λh=>h hp),if_pos hk,if_neg hc])
 ·exact .inl (by unfold iN;rw[if_pos hp])
theorem Zde(h:ga g)(t:An g)(hx:jG x)(hk:x.C2=1)(hm:∀f:Nat,f<8->x.Frame=f->x.C0<=g.A1.A3.getD f 0/\(g.A1.B0.B1.getD f false=false->x.C0=g.A1.A3.getD f 0->x.F2=(jB g.A1.A0.Mem f).1)):An {g with A2:=iN g.A2 x}:=by
 obtain⟨f0,f1,hd⟩:=hx.pg hk
 obtain⟨k,ek⟩:∃f:Nat,x.Frame=f:=⟨x.Frame.toNat,by omega⟩
 have k8:k<8:=by omega
 intro f hf
 obtain⟨t1,t2,t3,t4⟩:=t f hf
 rcases zo (t:=g.A2) hk with e|⟨_,_,_,_,e⟩
 ·rw[e];exact⟨t1,t2,t3,t4⟩
 ·rw[e]
  obtain⟨m1,m2⟩:=hm k k8 ek
  have tl:=h.tl
  have sg:(g.A2.A3.set k x.C0).getD f 0=if k=f then x.C0 else g.A2.A3.getD f 0:=FV (by omega)
  show(g.A2.A3.set x.Frame.toNat x.C0).getD f 0<=_/\_/\(_->_/\((g.A2.A3.set x.Frame.toNat x.C0).getD f 0=_->_=(jB (rL g.A2.A0.Mem x.Frame x.F2).1 f).1))/\_
  rw[ek,dX,sg]
  by_cases e:k=f
  ·subst e
   rw[if_pos rfl]
   exact⟨m1,t2,λd=>⟨(t3 d).1,λe2=>by rw[Zp4 h.tm k8 hd];exact(m2 d e2).symm⟩,t4⟩
  ·rw[if_neg e]
   exact⟨t1,t2,λd=>⟨(t3 d).1,λe2=>by rw[Zmm h.tm k8 hf (λe3=>e e3.symm) hd];exact(t3 d).2 e2⟩,t4⟩
theorem LN{t:ic}(hk:x.C2=1):(t.A4=0/\(iN t x).A4=1)\/(iN t x).A4=t.A4:=by
 rcases zo (t:=t) hk with e|⟨_,_,_,_,e⟩
 ·rw[e];exact .inr rfl
 ·rw[e]
  by_cases h:t.A4=0
  ·exact .inl ⟨h,by show(if t.A4=0 then(1:Int)else t.A4)=1;rw[if_pos h]⟩
  ·exact .inr (by show(if t.A4=0 then(1:Int)else t.A4)=_;rw[if_neg h])
theorem Zkr{t:ic}(hk:x.C2=1):(iN t x).D5=t.D5/\(iN t x).B8=t.B8/\{(iN t x).A0 with Mem:=[]}={t.A0 with Mem:=[]}:=by
 rcases zo (t:=t) hk with e|⟨_,_,_,_,e⟩<;>rw[e]<;>exact⟨rfl,rfl,rfl⟩
theorem Zpq{t:ic}:(iN t x).D5=t.D5:=by
 unfold iN
 repeat' split
 all_goals rfl
theorem yo{t:ic}(h:t.A4=3\/t.A4=4):iN t x=t:=by
 unfold iN
 rw[if_pos (by omega)]
theorem qap{t:ic}(h:t.A4≠3):(iN t x).A4≠3:=by
 by_cases hk:x.C2=1
 ·rcases LN (t:=t) hk with⟨a,b⟩|b<;>omega
 ·unfold iN
  split
  ·exact h
  split
  ·split
   ·exact h
   ·show(2:Int)≠3;decide
  ·split
   ·show(4:Int)≠3;decide
   ·exact h
theorem vo{t:ic}(hk:x.C2=2)(hp:t.A4=0\/t.A4=1):iN t x={t with A4:=2,A0:={x.A0 with Mem:=t.A0.Mem},B8:=x.A3}:=by
 unfold iN
 rw[if_neg (by omega),if_neg (by omega),if_pos hk,if_neg (by omega)]
theorem qp{t:ic}(hk:x.C2=2)(hp:t.A4=2):iN t x=t:=by
 unfold iN
 rw[if_neg (by omega),if_neg (by omega),if_pos hk,if_pos hp]
theorem zaH{t:ic}(hk:x.C2=4):(iN t x).A4=4\/iN t x=t:=by
 by_cases hp:t.A4=0\/t.A4=1\/t.A4=2
 ·exact .inl (by unfold iN;rw[if_neg (λh=>h hp),if_neg (by omega),if_neg (by omega),if_pos hk])
 ·exact .inr (by unfold iN;rw[if_pos hp])
def LO(m:bg)(g:dk)(a:jt):bg:=if a.C2=1/\0<=jj g then ll m a.D8 (runN a.N)else m
theorem LP(h:g.A1.A4=1\/g.A1.A4=3):jj g=0:=if_pos h
theorem T9(h:g.A1.A4=2\/g.A1.A4=4)(t:g.A2.A4=3):jj g=1:=by
 unfold jj;rw[if_neg (by omega),if_pos t]
theorem Ua(h:g.A1.A4=2\/g.A1.A4=4)(t:g.A2.A4≠3):jj g= -1:=by
 unfold jj;rw[if_neg (by omega),if_neg t]
section
variable {nc:Bool} {m:bg} {g:dk}
theorem Inv.ok(h:Inv nc m g):ga g:=h.1
theorem zap(h:Inv nc m g)(hc:U clock)(n:Int):Inv nc (if 0<=jj g then ll m clock (runN n)else m) (jY g n clock):=by
 obtain⟨ok,c⟩:=h
 refine⟨qao ok hc n,?_⟩
 rcases c with c|c|c|c|c
 ·have hr:jj g=0:=LP (.inl c.sp)
  have e:jY g n clock={g with A1:={g.A1 with A0:=ll g.A1.A0 clock (runN n),B0:=rM g.A1 (ll g.A1.A0 clock (runN n))}}:=if_pos (.inl c.sp)
  rw[hr,if_pos (by decide),e]
  have sg:=GO ok.src hc (runN n)
  have en:rM g.A1 (ll g.A1.A0 clock (runN n))={g.A1.B0 with B1:=ri g.A1.B0.B1 (Q3 g.A1.A0.Mem (ll g.A1.A0 clock (runN n)).Mem)}:=if_pos c.sp
  refine .inl ⟨c.sp,c.gn,by rw[<-c.mc],c.tp,c.ks,c.bk,λf hf=>?_⟩
  obtain⟨t1,t2,t3,t4⟩:=c.tr f hf
  rw[en]
  show _/\_/\((ri g.A1.B0.B1 _).getD f false=false->_/\(_->(jB (ll g.A1.A0 clock (runN n)).Mem f).1=_))/\∀x∈g.A7,_->_->_/\((ri g.A1.B0.B1 _).getD f false=false->_->_=(jB (ll g.A1.A0 clock (runN n)).Mem f).1)
  have dl:=ok.dl
  have no:(ri g.A1.B0.B1 (Q3 g.A1.A0.Mem (ll g.A1.A0 clock (runN n)).Mem)).getD f false=false->g.A1.B0.B1.getD f false=false/\(jB g.A1.A0.Mem f).1=(jB (ll g.A1.A0 clock (runN n)).Mem f).1:=λhd=>by
   constructor
   ·cases h:g.A1.B0.B1.getD f false with
    |false=>rfl
    |true=>rw[TT (by omega) (.inl h)]at hd;cases hd
   ·refine xO ok.rm sg.mq hf λh=>?_
    rw[TT (by omega) (.inr h)]at hd;cases hd
  refine⟨t1,t2,λd=>?_,λx hx k1 k2=>⟨(t4 x hx k1 k2).1,λd e=>?_⟩⟩
  ·obtain⟨d1,d2⟩:=no d
   exact⟨(t3 d1).1,λe=>by rw[<-d2];exact(t3 d1).2 e⟩
  ·obtain⟨d1,d2⟩:=no d
   rw[<-d2];exact(t4 x hx k1 k2).2 d1 e
 ·rcases c.sp with sp|⟨sp,np⟩
  ·have hr:jj g=0:=LP (.inr sp)
   have e:jY g n clock={g with A1:={g.A1 with A0:=ll g.A1.A0 clock (runN n),B0:=rM g.A1 (ll g.A1.A0 clock (runN n))}}:=if_pos (.inr sp)
   rw[hr,if_pos (by decide),e]
   exact .inr (.inl ⟨.inl sp,c.gn,λ_=>by rw[<-c.mc sp],c.tp,c.ks,c.bk⟩)
  ·have hr:jj g= -1:=Ua (.inr sp) (by have:=c.tp;omega)
   have e:jY g n clock=g:=by unfold jY;rw[if_neg (by omega),if_neg (by have:=c.tp;omega)]
   rw[hr,if_neg (by decide),e]
   exact .inr (.inl c)
 ·have tp:=c.tp
  have sp:g.A1.A4=2\/g.A1.A4=4:=by have:=c.sp;omega
  have hr:jj g= -1:=Ua sp (by omega)
  have e:jY g n clock=g:=by unfold jY;rw[if_neg (by omega),if_neg (by omega)]
  rw[hr,if_neg (by decide),e]
  exact .inr (.inr (.inl c))
 ·rcases c.sp with sp|⟨sp,np⟩
  ·have hr:jj g=0:=LP (.inr sp)
   have e:jY g n clock={g with A1:={g.A1 with A0:=ll g.A1.A0 clock (runN n),B0:=rM g.A1 (ll g.A1.A0 clock (runN n))}}:=if_pos (.inr sp)
   rw[hr,if_pos (by decide),e]
   exact .inr (.inr (.inr (.inl ⟨.inl sp,c.gn,λ_=>by rw[<-c.mc sp],c.tp,c.bk⟩)))
  ·have hr:jj g= -1:=Ua (.inr sp) c.tp
   have e:jY g n clock=g:=by unfold jY;rw[if_neg (by omega),if_neg c.tp]
   rw[hr,if_neg (by decide),e]
   exact .inr (.inr (.inr (.inl c)))
 ·rcases c.tp with tp|⟨tp,np⟩
  ·have hr:jj g=1:=T9 c.sp tp
   have sp:=c.sp
   have e:jY g n clock={g with A2:={g.A2 with A0:=ll g.A2.A0 clock (runN n)}}:=by unfold jY;rw[if_neg (by omega),if_pos tp]
   rw[hr,if_pos (by decide),e]
   exact .inr (.inr (.inr (.inr ⟨c.sp,c.gn,.inl tp,λ_=>by rw[<-c.mc tp]⟩)))
  ·have sp:=c.sp
   have hr:jj g= -1:=Ua sp (by omega)
   have e:jY g n clock=g:=by unfold jY;rw[if_neg (by omega),if_neg (by omega)]
   rw[hr,if_neg (by decide),e]
   exact .inr (.inr (.inr (.inr c)))
theorem Ub(ok:ga g)(c:Cn nc m g):Cn nc m (mJ g):=
 ⟨c.sp,c.gn,c.mc,c.tp,λx hx=>by
  rcases OK hx with hx|hx
  ·exact c.ks x hx
  ·obtain⟨f,_,_,rfl⟩:=TZ ok.dl hx;rfl,c.bk,Zop ok c.tr⟩
theorem Zlo(h:Inv nc m g):Inv nc m (if g.A1.A4=1/\g.A1.B0.C0<10 then LJ g else g):=by
 split
 ·rename_i hp
  obtain⟨ok,c⟩:=h
  rw[IV ok (by omega)]
  refine⟨Zqn ok (by omega) (λ_=>by omega),?_⟩
  rcases c with c|c|c|c|c
  ·exact .inl (Ub ok c)
  ·have:=c.sp;omega
  ·have:=c.sp;omega
  ·have:=c.sp;omega
  ·have:=c.sp;omega
 ·exact h
theorem Ye(ok:ga g)(c:Cn nc m g):Qi nc m (ES g):=by
 have r:=Ub ok c
 refine⟨.inl rfl,r.gn,r.mc,λf=>Zs8 f,?_,λx hx=>?_,λh=>?_,r.bk,?_⟩
 ·have:=r.tp
  rcases this with p|p|p
  ·exact .inl p
  ·exact .inr (.inl p)
  ·exact .inr (.inr (.inr p))
 ·rcases LH hx with hx|hx
  ·exact .inl (r.ks x hx)
  ·rw[hx];exact .inr ⟨rfl,by rw[<-r.mc];rfl,rfl⟩
 ·have h:(mJ g).A2.A4=2:=h
  have:=r.tp
  omega
 ·refine An.pO (g:={mJ g with A1:={(mJ g).A1 with A4:=2}}) r.tr (l:=gw (mJ g).A7 (pf (mJ g).A1)) λx hx k1=>?_
  rcases LH hx with hx|hx
  ·exact .inl hx
  ·rw[hx]at k1;exact absurd (show(2:Int)=1 from k1) (by decide)
theorem qP(h:Inv nc m g)(fm:Int):Inv nc m (DN g fm):=by
 unfold DN
 split
 ·rename_i hp
  obtain⟨ok,c⟩:=h
  rw[IV ok (ok.r2 hp.1)]
  refine⟨xn ok hp.1,?_⟩
  rcases c with c|c|c|c|c
  ·exact .inr (.inr (.inl (Ye ok c)))
  ·have:=c.sp;omega
  ·have:=c.sp;omega
  ·have:=c.sp;omega
  ·have:=c.sp;omega
 ·exact h
theorem Qi.pO(c:Qi nc m g)(hk:∀x∈l,x∈g.A7\/(∃f:Nat,f<8/\x=rj (g.A1.A3.getD f 0) f (jB g.A1.A0.Mem f).1)\/x=pf g.A1):Qi nc m {g with A7:=l}:=by
 refine⟨c.sp,c.gn,c.mc,c.cl,c.tp,λx hx=>?_,c.ts,c.bk,c.tr.pO λx hx k1=>?_⟩
 ·rcases hk x hx with h|⟨f,hf,rfl⟩|rfl
  ·exact c.ks x h
  ·exact .inl rfl
  ·exact .inr ⟨rfl,by rw[<-c.mc];rfl,rfl⟩
 ·rcases hk x hx with h|h|rfl
  ·exact .inl h
  ·exact .inr h
  ·exact absurd (show(2:Int)=1 from k1) (by decide)
theorem Yf(c:Qi nc m g):Qi nc m (Cm g):=
 Qi.pO c (l:=oM g.A7 (oi g.A1++[pf g.A1])) λx hx=>by
  rcases OK hx with hx|hx
  ·exact .inl hx
  ·exact .inr (Z7c hx)
theorem Zda(h:Inv nc m g):Inv nc m (ER g):=by
 unfold ER
 split
 ·rename_i hp
  obtain⟨ok,c⟩:=h
  refine⟨yn ok,?_⟩
  rcases c with c|c|c|c|c
  ·have:=c.sp;omega
  ·have:=c.sp;omega
  ·exact .inr (.inr (.inl (Yf c)))
  ·have:=c.sp;omega
  ·exact .inr (.inr (.inr (.inr ⟨c.sp,c.gn,c.tp,c.mc⟩)))
 ·exact h
theorem Uc(c:DO nc m g)(b:Bool)(hl:∀x∈l,x∈lG g b):DO nc m (pj g b l):=by
 cases b
 ·have hl:∀x∈l,x∈g.A7:=hl
  show DO nc m {g with A7:=l}
  rcases c with c|c|c|c|c
  ·exact .inl ⟨c.sp,c.gn,c.mc,c.tp,λx hx=>c.ks x (hl x hx),c.bk,c.tr.pO λx hx _=>.inl (hl x hx)⟩
  ·exact .inr (.inl ⟨c.sp,c.gn,c.mc,c.tp,λx hx=>c.ks x (hl x hx),c.bk⟩)
  ·exact .inr (.inr (.inl ⟨c.sp,c.gn,c.mc,c.cl,c.tp,λx hx=>c.ks x (hl x hx),c.ts,c.bk,c.tr.pO λx hx _=>.inl (hl x hx)⟩))
  ·exact .inr (.inr (.inr (.inl ⟨c.sp,c.gn,c.mc,c.tp,c.bk⟩)))
  ·exact .inr (.inr (.inr (.inr ⟨c.sp,c.gn,c.tp,c.mc⟩)))
 ·have hl:∀x∈l,x∈g.C1:=hl
  have hb:g.C1=[]->l=[]:=λe=>by
   cases l with
   |nil=>rfl
   |cons y l=>have:=hl y (eV ..);rw[e]at this;cases this
  show DO nc m {g with C1:=l}
  rcases c with c|c|c|c|c
  ·exact .inl ⟨c.sp,c.gn,c.mc,c.tp,c.ks,hb c.bk,c.tr⟩
  ·exact .inr (.inl ⟨c.sp,c.gn,c.mc,c.tp,c.ks,hb c.bk⟩)
  ·exact .inr (.inr (.inl ⟨c.sp,c.gn,c.mc,c.cl,c.tp,c.ks,c.ts,hb c.bk,c.tr⟩))
  ·exact .inr (.inr (.inr (.inl ⟨c.sp,c.gn,c.mc,c.tp,hb c.bk⟩)))
  ·exact .inr (.inr (.inr (.inr ⟨c.sp,c.gn,c.tp,c.mc⟩)))
theorem Zq1(h:Inv nc m g)(b:Bool)(i:Int):Inv nc m (nH g b i):=by
 refine⟨Yd h.1 b i,?_⟩
 unfold nH;split
 ·exact Uc h.2 b λx hx=>OM hx
 ·exact h.2
theorem Zrl(h:Inv nc m g)(b:Bool)(i:Int):Inv nc m (Bc g b i):=by
 refine⟨xo h.1 b i,?_⟩
 unfold Bc;split
 ·rename_i hi
  refine Uc h.2 b λx hx=>?_
  rcases LH hx with hx|hx
  ·exact hx
  ·rw[hx];exact GP hi
 ·exact h.2
theorem xp(h:Inv nc m g)(b:Bool)(hn:nc=false):Inv nc m (OL g b):=by
 obtain⟨ok,c⟩:=h
 refine⟨vO ok b,?_⟩
 cases b
 ·show DO nc m {g with A1:={g.A1 with A4:=4}}
  have n3:({g.A1 with A4:=4}:ic).A4=3->False:=λe=>absurd (show(4:Int)=3 from e) (by decide)
  rcases c with c|c|c|c|c
  ·exact .inr (.inl ⟨.inr ⟨rfl,hn⟩,c.gn,λe=>(n3 e).elim,by have:=c.tp;show g.A2.A4=0\/g.A2.A4=1\/g.A2.A4=4;omega,λx hx=>.inl (c.ks x hx),c.bk⟩)
  ·exact .inr (.inl ⟨.inr ⟨rfl,hn⟩,c.gn,λe=>(n3 e).elim,c.tp,c.ks,c.bk⟩)
  ·exact .inr (.inr (.inl ⟨.inr ⟨rfl,hn⟩,c.gn,c.mc,c.cl,c.tp,c.ks,c.ts,c.bk,c.tr⟩))
  ·exact .inr (.inr (.inr (.inl ⟨.inr ⟨rfl,hn⟩,c.gn,λe=>(n3 e).elim,c.tp,c.bk⟩)))
  ·exact .inr (.inr (.inr (.inr ⟨.inr rfl,c.gn,c.tp,c.mc⟩)))
 ·show DO nc m {g with A2:={g.A2 with A4:=4}}
  have n2:({g.A2 with A4:=4}:ic).A4=2->False:=λe=>absurd (show(4:Int)=2 from e) (by decide)
  have n3:({g.A2 with A4:=4}:ic).A4=3->False:=λe=>absurd (show(4:Int)=3 from e) (by decide)
  rcases c with c|c|c|c|c
  ·exact .inl ⟨c.sp,c.gn,c.mc,.inr (.inr ⟨rfl,hn⟩),c.ks,c.bk,c.tr⟩
  ·exact .inr (.inl ⟨c.sp,c.gn,c.mc,.inr (.inr rfl),c.ks,c.bk⟩)
  ·exact .inr (.inr (.inl ⟨c.sp,c.gn,c.mc,c.cl,.inr (.inr (.inr ⟨rfl,hn⟩)),c.ks,λe=>(n2 e).elim,c.bk,c.tr⟩))
  ·exact .inr (.inr (.inr (.inl ⟨c.sp,c.gn,c.mc,λe=>n3 e,c.bk⟩)))
  ·exact .inr (.inr (.inr (.inr ⟨c.sp,c.gn,.inr ⟨rfl,hn⟩,λe=>(n3 e).elim⟩)))
theorem Zs0(ok:ga g)(c:DO nc m g)(ox:jG x)(hx:x∈g.A7):DO nc m {g with A2:=iN g.A2 x}:=by
 rcases c with c|c|c|c|c
 ·have k:x.C2=1:=c.ks x hx
  have q:=Zkr (t:=g.A2) (x:=x) k
  refine .inl ⟨c.sp,⟨c.gn.1,c.gn.2.1,q.1.trans c.gn.2.2⟩,c.mc,?_,c.ks,c.bk,?_⟩
  ·show(iN g.A2 x).A4=0\/(iN g.A2 x).A4=1\/((iN g.A2 x).A4=4/\nc=false)
   rcases LN (t:=g.A2) k with⟨a,b⟩|b
   ·exact .inr (.inl b)
   ·rw[b];exact c.tp
  ·exact Zde ok c.tr ox k (λf hf ef=>(c.tr f hf).2.2.2 x hx k ef)
 ·have k:x.C2=1\/x.C2=4:=c.ks x hx
  refine .inr (.inl ⟨c.sp,⟨c.gn.1,c.gn.2.1,Zpq.trans c.gn.2.2⟩,c.mc,?_,c.ks,c.bk⟩)
  have:=c.tp
  show(iN g.A2 x).A4=0\/(iN g.A2 x).A4=1\/(iN g.A2 x).A4=4
  rcases k with k|k
  ·rcases LN (t:=g.A2) k with⟨a,b⟩|b<;>omega
  ·rcases zaH (t:=g.A2) k with b|b
   ·omega
   ·rw[b];exact this
 ·have k:x.C2=1\/(x.C2=2/\x.A0={m with Mem:=[]}/\x.A3=g.A1.A3):=c.ks x hx
  have tp:=c.tp
  rcases k with k|⟨k,e1,e2⟩
  ·have q:=Zkr (t:=g.A2) (x:=x) k
   have tr:An {g with A2:=iN g.A2 x}:=Zde ok c.tr ox k (λf hf ef=>(c.tr f hf).2.2.2 x hx k ef)
   refine .inr (.inr (.inl ⟨c.sp,⟨c.gn.1,c.gn.2.1,q.1.trans c.gn.2.2⟩,c.mc,c.cl,?_,c.ks,λh2=>?_,c.bk,tr⟩))
   ·show(iN g.A2 x).A4=0\/(iN g.A2 x).A4=1\/(iN g.A2 x).A4=2\/((iN g.A2 x).A4=4/\nc=false)
    rcases LN (t:=g.A2) k with⟨a,b⟩|b
    ·exact .inr (.inl b)
    ·rw[b];exact tp
   ·have h2:(iN g.A2 x).A4=2:=h2
    have h3:g.A2.A4=2:=by rcases LN (t:=g.A2) k with⟨a,b⟩|b<;>omega
    exact⟨q.2.1.trans (c.ts h3).1,q.2.2.trans (c.ts h3).2⟩
  ·rcases tp with tp|tp|tp|⟨tp,np⟩
   ·rw[vo k (.inl tp)]
    exact .inr (.inr (.inl ⟨c.sp,c.gn,c.mc,c.cl,.inr (.inr (.inl rfl)),c.ks,λ_=>⟨e2,by rw[e1]⟩,c.bk,c.tr⟩))
   ·rw[vo k (.inr tp)]
    exact .inr (.inr (.inl ⟨c.sp,c.gn,c.mc,c.cl,.inr (.inr (.inl rfl)),c.ks,λ_=>⟨e2,by rw[e1]⟩,c.bk,c.tr⟩))
   ·rw[qp k tp];exact .inr (.inr (.inl c))
   ·rw[yo (.inr tp)];exact .inr (.inr (.inl c))
 ·exact .inr (.inr (.inr (.inl ⟨c.sp,⟨c.gn.1,c.gn.2.1,Zpq.trans c.gn.2.2⟩,c.mc,qap c.tp,c.bk⟩)))
 ·rw[yo (by have:=c.tp;omega)];exact .inr (.inr (.inr (.inr c)))
end
section
variable {nc:Bool} {m:bg} {g:dk}
theorem Z8s(h:Inv nc m g)(b:Bool)(i:Int):Inv nc m (oj g b i):=by
 refine⟨Zbh h.1 b i,?_⟩
 obtain⟨ok,c⟩:=h
 unfold oj
 split
 ·rename_i hi
  have hx:=GP hi
  have ox:=(ok.F4 b).2 _ hx
  have el:nH g b i=pj g b (kG (lG g b) i):=if_pos hi
  rw[el]
  cases b
  ·exact Uc (Zs0 ok c ox hx) false λx hx=>(OM hx:x∈g.A7)
  ·by_cases hc:(pj g true (kG (lG g true) i)).A1.A4=2/\(pk (lG g true) i).C2=3
   ·have eg:LK (pj g true (kG (lG g true) i)) true (pk (lG g true) i)={g with C1:=kG g.C1 i,A1:={g.A1 with A4:=4}}:=if_pos hc
    rw[eg]
    have hb:g.C1≠[]:=λe=>by have hx:_∈g.C1:=hx;rw[e]at hx;cases hx
    rcases c with d|d|d|d|d
    ·exact absurd d.bk hb
    ·exact absurd d.bk hb
    ·exact absurd d.bk hb
    ·exact absurd d.bk hb
    ·exact .inr (.inr (.inr (.inr ⟨.inr rfl,d.gn,d.tp,d.mc⟩)))
   ·have eg:LK (pj g true (kG (lG g true) i)) true (pk (lG g true) i)=pj g true (kG (lG g true) i):=if_neg hc
    rw[eg]
    exact Uc c true λx hx=>OM hx
 ·exact c
theorem ga.store(h:ga g){s:iO}(hs:Ch s):ga {g with A9:=s}:=
 ⟨h.src,h.dl,h.r0,h.r1,h.r2,h.s0,h.s1,h.rl,h.sf,h.tc,h.tl,h.tm,h.tg,h.tf,h.fl,h.fo,h.bl,h.bo,hs⟩
theorem zp(ok:ga g)(c:Qi nc m g)(hf:Cj g):g.A2.A0=m:=by
 obtain⟨h1,h2⟩:=hf
 obtain⟨f1,f2⟩:=c.ts h1
 have e:g.A2.A0.Mem=m.Mem:=by
  rw[<-c.mc]
  refine(ym ok.rm ok.tm λf hf=>?_).symm
  exact((c.tr f hf).2.2.1 (c.cl f)).2 (by rw[h2,f1])
 have q:∀a:bg,a={({a with Mem:=[]}:bg)with Mem:=a.Mem}:=λa=>rfl
 rw[q g.A2.A0,f2,e]
theorem Zlj{s:iO}(h:Ch s){host seen:Int}(h0:0<=host)(e1:s.D5=1)(e2:seen=1):mr s host seen=({s with D5:=2,D7:=host},true):=by
 rw[Zqj h h0,if_pos (e1.trans e2.symm),e1];rfl
theorem Zqc{s:iO}(h:Ch s){host seen:Int}(h0:0<=host)(e:s.D5≠seen):mr s host seen=(s,false):=by
 rw[Zqj h h0,if_neg e]
theorem yp(ok:ga g)(c:Qi nc m g)(hf:Cj g):rk g={g with A9:={g.A9 with D5:=2,D7:=1},A2:={g.A2 with A4:=3,D5:=2},C1:=gw g.C1 (Ci 3)}:=by
 unfold rk
 rw[if_pos hf,Zlj ok.st (by decide) c.gn.1 c.gn.2.2,if_pos rfl]
theorem Zq7(ok:ga g)(c:Qi nc m g)(hf:Cj g):ga (rk g)/\LM nc m (rk g)/\(rk g).A2.A4=3:=by
 rw[yp ok c hf]
 obtain⟨b1,b2,b3,b4,b5⟩:=ok.st
 have hm:=zp ok c hf
 refine⟨⟨ok.src,ok.dl,ok.r0,ok.r1,ok.r2,ok.s0,ok.s1,ok.rl,ok.sf,ok.tc,ok.tl,ok.tm,λ_=>ok.tg (.inl hf.1),ok.tf,ok.fl,ok.fo,LI ok.bl,sB ok.bo (Ya (by decide) (by decide)),b1,b2,by show(1:Int)<=2;decide,by show(2:Int)<=2;decide,by show(0:Int)<=1;decide⟩,?_,rfl⟩
 exact⟨by have:=c.sp;show g.A1.A4=2\/g.A1.A4=4;omega,⟨rfl,rfl,c.gn.2.1⟩,.inl rfl,λ_=>hm⟩
theorem Zu3(h:Inv nc m g):Inv nc m (rk g):=by
 obtain⟨ok,c⟩:=h
 by_cases hf:Cj g
 ·rcases c with c|c|c|c|c
  ·have:=c.tp;have:=hf.1;omega
  ·have:=c.tp;have:=hf.1;omega
  ·obtain⟨a,b,_⟩:=Zq7 ok c hf
   exact⟨a,.inr (.inr (.inr (.inr b)))⟩
  ·have e:rk g={g with A2:={g.A2 with A4:=4}}:=by
    unfold rk
    rw[if_pos hf,Zqc ok.st (by decide) (by rw[c.gn.1,c.gn.2.2];decide),if_neg fA]
   rw[e]
   refine⟨ok.IX ⟨ok.tc,ok.tl,ok.tm,λhq=>by have hq:(4:Int)=2\/(4:Int)=3:=hq;omega,ok.tf⟩,.inr (.inr (.inr (.inl ⟨c.sp,c.gn,c.mc,by show(4:Int)≠3;decide,c.bk⟩)))⟩
  ·have:=c.tp;have:=hf.1;omega
 ·have e:rk g=g:=if_neg hf
  rw[e];exact⟨ok,c⟩
theorem xP(ok:ga g)(c:Cn nc m g):ga (nI g)/\GQ nc m (nI g):=by
 have e:nI g={g with A1:={g.A1 with A4:=3},A7:=gw g.A7 (Ci 4)}:=if_pos c.sp
 rw[e]
 have k:=ok.phase (p:=3) (λe=>absurd e (by decide))
 refine⟨k.IW (LI ok.fl) (sB ok.fo (Ya (by decide) (by decide))),.inl rfl,c.gn,λ_=>c.mc,by have:=c.tp;show g.A2.A4=0\/g.A2.A4=1\/g.A2.A4=4;omega,λx hx=>?_,c.bk⟩
 rcases LH hx with hx|rfl
 ·exact .inl (c.ks x hx)
 ·exact .inr rfl
theorem vp(ok:ga g)(c:Qi nc m g)(hp:g.A1.A4=2):nI g={g with A9:={g.A9 with D5:=2,D7:=0},A1:={g.A1 with A4:=3,D5:=2},A7:=gw g.A7 (Ci 4)}:=by
 unfold nI
 rw[if_neg (by omega),if_pos hp,Zlj ok.st (by decide) c.gn.1 c.gn.2.1,if_pos rfl]
theorem zP(ok:ga g)(c:Qi nc m g)(hp:g.A1.A4=2):ga (nI g)/\GR nc m (nI g)/\(nI g).A1.A4=3:=by
 rw[vp ok c hp]
 obtain⟨b1,b2,b3,b4,b5⟩:=ok.st
 refine⟨⟨ok.src,ok.dl,ok.r0,ok.r1,λe=>absurd (show(3:Int)=1 from e) (by decide),ok.s0,ok.s1,ok.rl,ok.sf,ok.tc,ok.tl,ok.tm,ok.tg,ok.tf,LI ok.fl,sB ok.fo (Ya (by decide) (by decide)),ok.bl,ok.bo,b1,b2,by show(1:Int)<=2;decide,by show(2:Int)<=2;decide,by show(0:Int)<=0;decide⟩,?_,rfl⟩
 exact⟨.inl rfl,⟨rfl,rfl,c.gn.2.2⟩,λ_=>c.mc,by have:=c.tp;show g.A2.A4≠3;omega,c.bk⟩
theorem Zqm(ok:ga g)(c:LM nc m g):ga (nI g)/\LM nc m (nI g)/\(nI g).A2=g.A2:=by
 have sp:=c.sp
 by_cases hp:g.A1.A4=2
 ·have e:nI g={g with A1:={g.A1 with A4:=4}}:=by
   unfold nI
   rw[if_neg (by omega),if_pos hp,Zqc ok.st (by decide) (by rw[c.gn.1,c.gn.2.2];decide),if_neg fA]
  rw[e]
  exact⟨ok.phase (λe=>absurd e (by decide)),⟨.inr rfl,c.gn,c.tp,c.mc⟩,rfl⟩
 ·have e:nI g=g:=by unfold nI;rw[if_neg (by omega),if_neg hp]
  rw[e];exact⟨ok,c,rfl⟩
theorem Zs2(h:Inv nc m g):Inv nc m (nI g):=by
 obtain⟨ok,c⟩:=h
 have no:g.A1.A4≠1->g.A1.A4≠2->nI g=g:=λa b=>by unfold nI;rw[if_neg a,if_neg b]
 rcases c with c|c|c|c|c
 ·obtain⟨a,b⟩:=xP ok c;exact⟨a,.inr (.inl b)⟩
 ·have:=c.sp
  rw[no (by omega) (by omega)];exact⟨ok,.inr (.inl c)⟩
 ·rcases c.sp with p|⟨p,_⟩
  ·obtain⟨a,b,_⟩:=zP ok c p;exact⟨a,.inr (.inr (.inr (.inl b)))⟩
  ·rw[no (by omega) (by omega)];exact⟨ok,.inr (.inr (.inl c))⟩
 ·have:=c.sp
  rw[no (by omega) (by omega)];exact⟨ok,.inr (.inr (.inr (.inl c)))⟩
 ·obtain⟨a,b,_⟩:=Zqm ok c;exact⟨a,.inr (.inr (.inr (.inr b)))⟩
theorem qq(h:Inv nc m g){a:jt}(hc:U a.D8)(hn:nc=true->a.C2≠10):Inv nc (LO m g a) (wx g a).1:=by
 unfold wx LO
 by_cases k1:a.C2=1
 ·rw[if_pos k1]
  have:=zap h hc a.N
  by_cases hr:0<=jj g
  ·rw[if_pos ⟨k1,hr⟩];rw[if_pos hr]at this;exact this
  ·rw[if_neg (λh=>hr h.2)];rw[if_neg hr]at this;exact this
 rw[if_neg k1,if_neg (λh=>k1 h.1)]
 by_cases k2:a.C2=2
 ·rw[if_pos k2];exact Zlo h
 rw[if_neg k2]
 by_cases k3:a.C2=3
 ·rw[if_pos k3];exact qP h _
 rw[if_neg k3]
 by_cases k4:a.C2=4
 ·rw[if_pos k4];exact Zda h
 rw[if_neg k4]
 by_cases k5:a.C2=5
 ·rw[if_pos k5];exact Z8s h _ _
 rw[if_neg k5]
 by_cases k6:a.C2=6
 ·rw[if_pos k6];exact Zq1 h _ _
 rw[if_neg k6]
 by_cases k7:a.C2=7
 ·rw[if_pos k7];exact Zrl h _ _
 rw[if_neg k7]
 by_cases k8:a.C2=8
 ·rw[if_pos k8];exact Zu3 h
 rw[if_neg k8]
 by_cases k9:a.C2=9
 ·rw[if_pos k9];exact Zs2 h
 rw[if_neg k9]
 by_cases ON:a.C2=10
 ·rw[if_pos ON]
  refine xp h _ ?_
  cases nc
  ·rfl
  ·exact absurd ON (hn rfl)
 rw[if_neg ON];exact h
end
def Have(g:dk):Prop:=∀f:Nat,f<8->g.A2.A3.getD f 0=g.A1.A3.getD f 0\/∃x∈g.A7,x.C2=1/\x.Frame=f/\x.C0=g.A1.A3.getD f 0
def Co(g:dk):Prop:=g.A2.A4=2\/∃x∈g.A7,x.C2=2
def Le(g:dk):Prop:=∀f:Nat,f<8->g.A2.A3.getD f 0<=g.A1.A3.getD f 0/\∀x∈g.A7,x.C2=1->x.Frame=f->x.C0<=g.A1.A3.getD f 0
theorem An.le(t:An g):Le g:=λf hf=>⟨(t f hf).1,λx hx k e=>((t f hf).2.2.2 x hx k e).1⟩
theorem Zmg{t:ic}(ht:t.A3.length=8)(hp:t.A4=0\/t.A4=1\/t.A4=2)(ox:jG x)(hf:f<8):(iN t x).A3.getD f 0=if x.C2=1/\x.Frame=f/\t.A3.getD f 0<x.C0 then x.C0 else t.A3.getD f 0:=by
 by_cases hk:x.C2=1
 ·obtain⟨f0,f1,_⟩:=ox.pg hk
  obtain⟨k,ek⟩:∃k:Nat,x.Frame=k:=⟨x.Frame.toNat,by omega⟩
  by_cases hc:0<=x.Frame/\x.Frame<t.A3.length/\t.A3.getD x.Frame.toNat 0<x.C0
  ·have e:iN t x={t with A4:=if t.A4=0 then 1 else t.A4,A0:={t.A0 with Mem:=(rL t.A0.Mem x.Frame x.F2).1},A3:=t.A3.set x.Frame.toNat x.C0}:=by
    unfold iN;rw[if_neg (λh=>h hp),if_pos hk,if_pos hc]
   rw[e]
   show(t.A3.set x.Frame.toNat x.C0).getD f 0=_
   rw[FV (by omega)]
   rw[ek,dX]at hc⊢
   by_cases e:k=f
   ·subst e
    rw[if_pos rfl,if_pos ⟨hk,rfl,hc.2.2⟩]
   ·rw[if_neg e,if_neg (λh=>e (by omega))]
  ·have e:iN t x=t:=by unfold iN;rw[if_neg (λh=>h hp),if_pos hk,if_neg hc]
   rw[e,if_neg (λh=>hc ⟨f0,by omega,by rw[h.2.1,dX];exact h.2.2⟩)]
 ·rw[if_neg (λh=>hk h.1)]
  unfold iN
  repeat' split
  all_goals first|rfl|exact absurd (by assumption) hk
structure IY(g r:dk)(x:fh):Prop where
 src:r.A1=g.A1
 sto:r.A9=g.A9
 bak:r.C1=g.C1
 sub:∀y∈r.A7,y∈g.A7
 spl:∀y∈g.A7,y∈r.A7\/y=x
 len:r.A7.length+1=g.A7.length
 mem:x∈g.A7
 tgt:r.A2=iN g.A2 x
theorem Yg{i:Int}(hi:lY g.A7 i):IY g (oj g false i) (pk g.A7 i):=by
 have e:oj g false i={g with A7:=kG g.A7 i,A2:=iN g.A2 (pk g.A7 i)}:=by
  unfold oj nH lG
  simp only[Bool.false_eq_true,if_false,if_pos hi]
  rfl
 rw[e]
 exact⟨rfl,rfl,rfl,λy hy=>OM hy,λy hy=>qo hi hy,Yc hi,GP hi,rfl⟩
theorem xq{i:Int}(hi:¬lY g.A7 i):oj g false i=g:=if_neg hi
section
variable {g r:dk} {x:fh} (d:IY g r x) (ok:ga g) (hp:g.A2.A4=0\/g.A2.A4=1\/g.A2.A4=2)
include d ok hp
theorem IY.rounds(hf:f<8):r.A2.A3.getD f 0=if x.C2=1/\x.Frame=f/\g.A2.A3.getD f 0<x.C0 then x.C0 else g.A2.A3.getD f 0:=by
 rw[d.tgt];exact Zmg ok.tl hp (ok.fo x d.mem) hf
theorem IY.le(h:Le g):Le r:=λf hf=>by
 rw[d.rounds ok hp hf,d.src]
 obtain⟨h1,h2⟩:=h f hf
 refine⟨?_,λy hy=>h2 y (d.sub y hy)⟩
 split
 ·rename_i hc;exact h2 x d.mem hc.1 hc.2.1
 ·exact h1
theorem IY.have(l:Le g)(h:Have g):Have r:=λf hf=>by
 rw[d.rounds ok hp hf,d.src]
 obtain⟨l1,l2⟩:=l f hf
 rcases h f hf with h|⟨y,hy,k1,k2,k3⟩
 ·left
  rw[if_neg];exact h
  intro hc;have:=l2 x d.mem hc.1 hc.2.1;omega
 ·rcases d.spl y hy with hy|rfl
  ·exact .inr ⟨y,hy,k1,k2,k3⟩
  ·left
   split
   ·exact k3
   ·rename_i hc
    have:¬g.A2.A3.getD f 0<y.C0:=λh=>hc ⟨k1,k2,h⟩
    omega
omit ok in
theorem IY.phase(hk:∀y∈g.A7,y.C2=1\/y.C2=2):(r.A2.A4=0\/r.A2.A4=1\/r.A2.A4=2)/\(r.A2.A4=2↔g.A2.A4=2\/x.C2=2):=by
 rw[d.tgt]
 rcases hk x d.mem with k|k
 ·rcases LN (t:=g.A2) k with⟨a,b⟩|b
  ·rw[b];omega
  ·rw[b];omega
 ·by_cases h2:g.A2.A4=2
  ·rw[qp k h2];omega
  ·rw[vo k (by omega)]
   show((2:Int)=0\/(2:Int)=1\/(2:Int)=2)/\((2:Int)=2↔_)
   omega
omit ok in
theorem IY.OO(hk:∀y∈g.A7,y.C2=1\/y.C2=2)(h:Co g):Co r:=by
 obtain⟨_,p⟩:=d.phase hp hk
 rcases h with h|⟨y,hy,k⟩
 ·exact .inl (p.2 (.inl h))
 ·rcases d.spl y hy with hy|rfl
  ·exact .inr ⟨y,hy,k⟩
  ·exact .inl (p.2 (.inr k))
end
def jR:Nat->dk->dk
 |0,g=>g
 |n+1,g=>jR n (oj g false 0)
theorem in0(h:l≠[]):lY l 0:=by
 cases l with
 |nil=>exact absurd rfl h
 |cons y l=>exact⟨by decide,by show(0:Int)<((l.length+1:Nat):Int);omega⟩
theorem zq{nc:Bool}{m:bg}:∀(n:Nat) {g:dk},Inv nc m g->Inv nc m (jR n g)
 |0,_,h=>h
 |n+1,_,h=>zq n (Z8s h false 0)
theorem yq:∀(n:Nat) (g:dk),(jR n g).A1=g.A1/\(jR n g).A9=g.A9/\(jR n g).C1=g.C1
 |0,g=>⟨rfl,rfl,rfl⟩
 |n +1,g=>by
  obtain⟨a,b,c⟩:=yq n (oj g false 0)
  by_cases h:lY g.A7 0
  ·have d:=Yg h
   exact⟨a.trans d.src,b.trans d.sto,c.trans d.bak⟩
  ·have e:=xq h
   rw[e]at a b c
   show(jR n (oj g false 0)).A1=_/\(jR n (oj g false 0)).A9=_/\(jR n (oj g false 0)).C1=_
   rw[e]
   exact⟨a,b,c⟩
theorem vq:∀(n:Nat) (g:dk),(jR n g).A7.length<=g.A7.length-n
 |0,g=>aX _
 |n + 1,g=>by
  have:=vq n (oj g false 0)
  by_cases h:lY g.A7 0
  ·have:=(Yg h).len
   show(jR n (oj g false 0)).A7.length<=_;omega
  ·have e:=xq h
   have h0:g.A7.length=0:=by
    cases hl:g.A7 with
    |nil=>rfl
    |cons y l=>exact absurd (in0 (by rw[hl];simp)) h
   rw[e]at this
   show(jR n (oj g false 0)).A7.length<=_;rw[e];omega
theorem qr(h:g.A7.length<=n):(jR n g).A7=[]:=by
 have:=vq n g
 exact fB (by omega)
structure Way(g:dk):Prop where
 le:Le g
 hv:Have g
 ph:g.A2.A4=0\/g.A2.A4=1\/g.A2.A4=2
 ks:∀x∈g.A7,x.C2=1\/x.C2=2
theorem Way.next(w:Way g)(ok:ga g)(i:Int):Way (oj g false i)/\(Co g->Co (oj g false i)):=by
 by_cases h:lY g.A7 i
 ·have d:=Yg h
  exact⟨⟨d.le ok w.ph w.le,d.have ok w.ph w.le w.hv,(d.phase w.ph w.ks).1,λx hx=>w.ks x (d.sub x hx)⟩,d.OO w.ph w.ks⟩
 ·rw[xq h];exact⟨w,λh=>h⟩
theorem Way.all:∀(n:Nat) {g:dk},Way g->ga g->Way (jR n g)/\(Co g->Co (jR n g))
 |0,_,w,_=>⟨w,λh=>h⟩
 |n+1,g,w,ok=>by
  obtain⟨a,b⟩:=w.next ok 0
  obtain⟨c,d⟩:=Way.all n a (Zbh ok false 0)
  exact⟨c,λh=>d (b h)⟩
theorem xr(ha:a.length=8)(hb:b.length=8)(h:∀f:Nat,f<8->a.getD f 0=b.getD f 0):a=b:=by
 refine bR (by omega) λi h1 h2=>?_
 have:=h i (by omega)
 simpa[aV,h1,h2]using this
theorem Way.done(w:Way g)(ok:ga g)(he:g.A7=[]):g.A2.A3=g.A1.A3:=
 xr ok.tl ok.rl λf hf=>by
  rcases w.hv f hf with h|⟨x,hx,_⟩
  ·exact h
  ·rw[he]at hx;cases hx
theorem Way.full{m:bg}(w:Way g)(ok:ga g)(c:Qi nc m g)(hs:Co g)(he:g.A7=[]):Cj g:=by
 have hp:g.A2.A4=2:=by
  rcases hs with h|⟨x,hx,_⟩
  ·exact h
  ·rw[he]at hx;cases hx
 exact⟨hp,(w.done ok he).trans (c.ts hp).1.symm⟩
theorem Qi.live{m:bg}(c:Qi true m g):g.A1.A4=2/\(g.A2.A4=0\/g.A2.A4=1\/g.A2.A4=2):=by
 have h1:=c.sp
 have h2:=c.tp
 simp only[fC,and_false,or_false]at h1 h2
 exact⟨h1,h2⟩
theorem Qi.ks2{m:bg}(c:Qi nc m g):∀x∈g.A7,x.C2=1\/x.C2=2:=λx hx=>(c.ks x hx).elim .inl (λh=>.inr h.1)
theorem zr(h0:l=[])(h:xs.length<=64):oM l xs=xs:=by
 subst h0
 exact Zqz (l:=[]) (by rw[dE,Nat.zero_add];exact h)
theorem xaH{m:bg}{L:List fh}(c:Qi true m {g with A7:=L})(h1:∀f:Nat,f<8->rj (g.A1.A3.getD f 0) f (jB g.A1.A0.Mem f).1∈L)(h2:pf g.A1∈L):Way {g with A7:=L}/\Co {g with A7:=L}:=
 ⟨⟨c.tr.le,λf hf=>.inr ⟨_,h1 f hf,rfl,rfl,rfl⟩,c.live.2,c.ks2⟩,.inr ⟨_,h2,rfl⟩⟩
theorem Zst{m:bg}(c:Qi true m g)(hf:g.A7=[]):Way (Cm g)/\Co (Cm g)/\(Cm g).A7.length=9:=by
 have cb:=Yf c
 have hl:=Zox g.A1
 have h1:∀f:Nat,f<8->rj (g.A1.A3.getD f 0) f (jB g.A1.A0.Mem f).1∈oi g.A1++[pf g.A1]:=λf hf=>eT _ (qn _ hf)
 have h2:pf g.A1∈oi g.A1++[pf g.A1]:=eY _ (List.mem_singleton.2 rfl)
 unfold Cm at cb⊢
 generalize oi g.A1++[pf g.A1]=L at cb hl h1 h2⊢
 rw[zr hf (by omega)]at cb⊢
 obtain⟨a,b⟩:=xaH cb h1 h2
 exact⟨a,b,hl⟩
section
variable {nc:Bool} {m:bg} {g:dk}
def Cp(m:bg)(b:List (List UInt8)):dk:=
 ⟨⟨1,m,⟨cO 8 true,0,0⟩,cO 8 0,[],1⟩,⟨0,{zM with Mem:=cO 256 0},⟨[],0,0⟩,cO 8 0,[],1⟩,[],[],⟨b,1,0⟩⟩
theorem qaI(f:Nat):(cO 8 (0:Int)).getD f 0=0:=by
 simp only[cX,eZ]
 split<;>rfl
theorem yr(hf:f<8):(cO 8 true).getD f false=true:=by
 simp only[cX,eZ,hf,if_true]
 rfl
theorem Zqv(hm:gh 8 m){b:List (List UInt8)}(hb:b.length=4)(hB:∀x∈b,x.length=128):ga (Cp m b):=
 ⟨hm,rfl,eN 0,by show(0:Int)<=11;decide,λ_=>by show(0:Int)<=10;decide,eN 0,by show(0:Int)<=8*0;decide,rfl,bC _,bC _,rfl,yN,λh=>by have h:(0:Int)=2\/(0:Int)=3:=h;omega,bC _,bC _,λx hx=>(by cases hx),bC _,λx hx=>(by cases hx),hb,hB,by show(1:Int)<=1;decide,by show(1:Int)<=2;decide,by show(0:Int)<=0;decide⟩
theorem wy(hm:gh 8 m)(b:List (List UInt8)):Cn nc m (Cp m b):=
 ⟨rfl,⟨rfl,rfl,rfl⟩,rfl,.inl rfl,λx hx=>(by cases hx),rfl,λf hf=>by
  show(cO 8 (0:Int)).getD f 0<=(cO 8 (0:Int)).getD f 0/\(cO 8 (0:Int)).getD f 0<=0/\((cO 8 true).getD f false=false->_)/\_
  rw[qaI,yr hf]
  exact⟨eN 0,eN 0,λh=>(by cases h),λx hx=>(by cases hx)⟩⟩
def oO(g:dk)(l:List jt):dk:=l.foldl (λg a=>(wx g a).1) g
theorem OP(g:dk)(l k:List jt):oO g (l++k)=oO (oO g l) k:=fD ..
def jm(k n:Int):jt:=⟨k,n,false,0⟩
theorem Yh:∀(n:Nat) (g:dk),oO g (cO n (jm 5 0))=jR n g
 |0,g=>rfl
 |n+1,g=>Yh n (oj g false 0)
def uu:Nat->dk->dk
 |0,g=>g
 |n+1,g=>uu n (nH g false 0)
theorem Zbg:∀(n:Nat) (g:dk),oO g (cO n (jm 6 0))=uu n g
 |0,g=>rfl
 |n+1,g=>Zbg n (nH g false 0)
theorem OQ(g:dk):(nH g false 0).A1=g.A1/\(nH g false 0).A2=g.A2/\(nH g false 0).A9=g.A9/\(nH g false 0).A7.length<=g.A7.length-1:=by
 by_cases h:lY (lG g false) 0
 ·have e:nH g false 0={g with A7:=kG g.A7 0}:=if_pos h
  rw[e]
  have h:lY g.A7 0:=h
  have:=Yc h
  exact⟨rfl,rfl,rfl,by show(kG g.A7 0).length<=_;omega⟩
 ·have e:nH g false 0=g:=if_neg h
  rw[e]
  refine⟨rfl,rfl,rfl,?_⟩
  cases hl:g.A7 with
  |nil=>exact bC _
  |cons y l=>exact absurd (show lY (lG g false) 0 from in0 (by show g.A7≠[];rw[hl];simp)) h
theorem Zk1:∀(n:Nat) {g:dk},Inv nc m g->Inv nc m (uu n g)/\(uu n g).A1=g.A1/\(uu n g).A2=g.A2/\(uu n g).A9=g.A9/\(uu n g).A7.length<=g.A7.length-n
 |0,g,h=>⟨h,rfl,rfl,rfl,aX _⟩
 |n+1,g,h=>by
  obtain⟨a,b,c,d,e⟩:=Zk1 n (Zq1 h false 0)
  obtain⟨p,q,r,s⟩:=OQ g
  exact⟨a,b.trans p,c.trans q,d.trans r,by show(uu n (nH g false 0)).A7.length<=_;omega⟩
theorem y7(c:DO nc m g)(hs:g.A9.D5=1)(hp:g.A1.A4=2):Qi nc m g:=by
 rcases c with c|c|c|c|c
 ·have:=c.sp;omega
 ·have:=c.sp;omega
 ·exact c
 ·have:=c.gn.1;omega
 ·have:=c.gn.1;omega
theorem xap(h:Inv true m g)(hr:jj g<0):Qi true m g:=by
 have r0:g.A1.A4=1\/g.A1.A4=3->False:=λh=>by rw[LP h]at hr;omega
 rcases h.2 with c|c|c|c|c
 ·exact(r0 (.inl c.sp)).elim
 ·rcases c.sp with p|⟨_,p⟩
  ·exact(r0 (.inr p)).elim
  ·cases p
 ·exact c
 ·rcases c.sp with p|⟨_,p⟩
  ·exact(r0 (.inr p)).elim
  ·cases p
 ·rcases c.tp with p|⟨_,p⟩
  ·rw[T9 c.sp p]at hr;omega
  ·cases p
theorem seen(h:Inv nc m g)(hr:0<=jj g):(jj g=0/\g.A1.A0=m)\/(jj g=1/\g.A2.A0=m):=by
 by_cases h0:g.A1.A4=1\/g.A1.A4=3
 ·refine .inl ⟨LP h0,?_⟩
  rcases h.2 with c|c|c|c|c
  ·exact c.mc
  ·have:=c.sp;exact c.mc (by omega)
  ·have:=c.sp;omega
  ·have:=c.sp;exact c.mc (by omega)
  ·have:=c.sp;omega
 ·by_cases h1:g.A2.A4=3
  ·have e:jj g=1:=by unfold jj;rw[if_neg h0,if_pos h1]
   refine .inr ⟨e,?_⟩
   rcases h.2 with c|c|c|c|c
   ·have:=c.tp;omega
   ·have:=c.tp;omega
   ·have:=c.tp;omega
   ·exact absurd h1 c.tp
   ·exact c.mc h1
  ·have e:jj g= -1:=by unfold jj;rw[if_neg h0,if_neg h1]
   omega
theorem Zcy(h:Inv true m g)(c:Qi true m g)(w:Way g)(hs:Co g)(hn:g.A7.length<=n):Inv true m (rk (jR n g))/\LM true m (rk (jR n g))/\(rk (jR n g)).A2.A4=3:=by
 obtain⟨e1,e2,e3⟩:=yq n g
 have hi:=zq n h
 obtain⟨w2,s2⟩:=Way.all n w h.1
 have c2:Qi true m (jR n g):=y7 hi.2 (by rw[e2];exact c.gn.1) (by rw[e1];exact c.live.1)
 obtain⟨a,b,p⟩:=Zq7 hi.1 c2 (w2.full hi.1 c2 (s2 hs) (qr hn))
 exact⟨⟨a,.inr (.inr (.inr (.inr b)))⟩,b,p⟩
theorem zaI(h:Inv nc m g)(c:LM nc m g)(hp:g.A2.A4=3):jj g=1/\g.A2.A0=m/\g.A9.D5=2/\g.A9.D7=1:=⟨T9 c.sp hp,c.mc hp,c.gn.1,c.gn.2.1⟩
theorem Yi(g:dk)(a:jt)(l:List jt):oO g (a::l)=oO (wx g a).1 l:=rfl
theorem qaq(a b:Nat)(g:dk):oO g (cO a (jm 6 0)++(jm 4 0::(cO b (jm 5 0)++[jm 8 0,jm 9 0])))=nI (rk (jR b (ER (uu a g)))):=by
 rw[OP,Zbg,Yi,OP,Yh];rfl
theorem yP(b:Nat)(g:dk):oO g (jm 2 0::jm 3 32::(cO b (jm 5 0)++[jm 8 0]))=rk (jR b (wx (wx g (jm 2 0)).1 (jm 3 32)).1):=by
 rw[Yi,Yi,OP,Yh];rfl
def DP:List jt:=cO 64 (jm 6 0)++(jm 4 0::(cO 64 (jm 5 0)++[jm 8 0,jm 9 0]))
theorem IZ(h:Inv true m g)(hr:jj g<0):Inv true m (oO g DP)/\jj (oO g DP)=1:=by
 have c:=xap h hr
 obtain⟨i1,e1,e2,e3,e4⟩:=Zk1 64 h
 have c1:Qi true m (uu 64 g):=y7 i1.2 (by rw[e3];exact c.gn.1) (by rw[e1];exact c.live.1)
 have f1:(uu 64 g).A7=[]:=fB (by have:=h.1.fl;omega)
 have er:ER (uu 64 g)=Cm (uu 64 g):=if_pos c1.live.1
 obtain⟨w,s,l⟩:=Zst c1 f1
 have i2:Inv true m (Cm (uu 64 g)):=by rw[<-er];exact Zda i1
 obtain⟨i3,c3,p3⟩:=Zcy (n:=64) i2 (Yf c1) w s (by rw[l];decide)
 have e:oO g DP=nI (rk (jR 64 (ER (uu 64 g)))):=qaq 64 64 g
 rw[e,er]
 obtain⟨a,b,t⟩:=Zqm i3.1 c3
 exact⟨⟨a,.inr (.inr (.inr (.inr b)))⟩,(T9 b.sp (by rw[t];exact p3))⟩
theorem Zhq(ok:ga g)(c:Cn true m g)(w:Way g)(hl:g.A7.length+8<=64):Way (mJ g)/\(mJ g).A7.length<=g.A7.length+8:=by
 have cr:=Ub ok c
 have sl:=yO (m:=g.A1.A0.Mem) ok.dl
 have e:(mJ g).A7=g.A7++tC g.A1.B0 g.A1.A0.Mem:=Zqz (by omega)
 have tp:g.A2.A4=0\/g.A2.A4=1\/g.A2.A4=2:=w.ph
 refine⟨⟨cr.tr.le,λf hf=>?_,tp,λx hx=>.inl (cr.ks x hx)⟩,by rw[e,lA];omega⟩
 have hg:(mJ g).A1.A3.getD f 0=if g.A1.B0.B1.getD f false=true then g.A1.B0.C0+1 else g.A1.A3.getD f 0:=by
  show(Qf _ _ _).getD f 0=_
  rw[Zdi z7 (by rw[ok.rl];exact hf)]
  simp only[TY]
 rw[hg,e]
 cases hd:g.A1.B0.B1.getD f false
 ·rw[if_neg fA]
  rcases w.hv f hf with h|⟨x,hx,k⟩
  ·exact .inl h
  ·exact .inr ⟨x,eT _ hx,k⟩
 ·rw[if_pos rfl]
  exact .inr ⟨_,eY _ (zO hd),rfl,rfl,rfl⟩
theorem vP(ok:ga g)(c:Cn true m g)(w:Way g)(hl:g.A7.length+9<=64):Way (ES g)/\Co (ES g)/\(ES g).A7.length<=g.A7.length+9:=by
 obtain⟨w1,l1⟩:=Zhq ok c w (by omega)
 have cb:=Ye ok c
 have e:(ES g).A7=(mJ g).A7++[pf (mJ g).A1]:=if_pos (by omega)
 refine⟨⟨cb.tr.le,λf hf=>?_,cb.live.2,cb.ks2⟩,.inr ⟨pf (mJ g).A1,by rw[e];exact eY _ (List.mem_singleton.2 rfl),rfl⟩,by rw[e,lA,cY];omega⟩
 rw[e]
 rcases w1.hv f hf with h|⟨x,hx,k⟩
 ·exact .inl h
 ·exact .inr ⟨x,eT _ hx,k⟩
structure Calm(i:Int)(m:bg)(g:dk):Prop where
 inv:Inv true m g
 c:Cn true m g
 f:g.A7=[]
 w:Way g
 r:g.A1.B0.C0=i
theorem Cn.Yj(c:Cn true m g)(hf:g.A7=[])(he:g.A2.A3=g.A1.A3):Way g:=
 ⟨c.tr.le,λf _=>.inl (by rw[he]),by have:=c.tp;simp only[fC,and_false,or_false]at this;omega,λx hx=>by rw[hf]at hx;cases hx⟩
theorem qQ(hm:gh 8 m){b:List (List UInt8)}(hb:b.length=4)(hB:∀x∈b,x.length=128):Calm 0 m (Cp m b):=
 ⟨⟨Zqv hm hb hB,.inl (wy hm b)⟩,wy hm b,rfl,(wy hm b).Yj rfl rfl,rfl⟩
theorem xQ{i:Int}(h:Calm i m g)(hi:i<=9):(wx g (jm 2 0)).1=mJ g:=by
 have hr:=h.r
 have e:(wx g (jm 2 0)).1=if g.A1.A4=1/\g.A1.B0.C0<10 then LJ g else g:=rfl
 rw[e,if_pos ⟨h.c.sp,by omega⟩,IV h.inv.1 (by omega)]
theorem zaq(ok:ga g)(hp:g.A1.A4=1):(wx g (jm 3 32)).1=ES g:=by
 have e:(wx g (jm 3 32)).1=DN g 32:=rfl
 rw[e]
 unfold DN
 rw[if_pos ⟨hp,xan ok.dl ok.r0 ok.r1 ok.s0 ok.s1⟩,IV ok (ok.r2 hp)]
 rfl
def Cq:List jt:=jm 2 0::jm 3 32::(cO 64 (jm 5 0)++[jm 8 0])
theorem EU{i:Int}(h:Calm i m g)(hi:i<=9):Inv true m (oO g Cq)/\jj (oO g Cq)=1/\(oO g Cq).A2.A0=m/\(oO g Cq).A9.D5=2/\(oO g Cq).A9.D7=1:=by
 have hr:=h.r
 have ok:=h.inv.1
 have i1:Inv true m (mJ g):=by
  have:=Zlo h.inv
  rwa [if_pos ⟨h.c.sp,by omega⟩,IV ok (by omega)]at this
 have c1:=Ub ok h.c
 obtain⟨w1,l1⟩:=Zhq ok h.c h.w (by rw[h.f];decide)
 rw[h.f]at l1
 have l1:(mJ g).A7.length<=8:=by simpa using l1
 obtain⟨w2,s2,l2⟩:=vP i1.1 c1 w1 (by omega)
 have ok2:=xn i1.1 c1.sp
 have c2:=Ye i1.1 c1
 obtain⟨i3,c3,p3⟩:=Zcy (n:=64) ⟨ok2,.inr (.inr (.inl c2))⟩ c2 w2 s2 (by omega)
 have e:oO g Cq=rk (jR 64 (ES (mJ g))):=by
  refine(yP 64 g).trans ?_
  rw[xQ h hi,zaq i1.1 c1.sp]
 rw[e]
 exact⟨i3,zaI i3 c3 p3⟩
end
theorem bt{a b:Int}(h:(a==b)=true):a=b:=by simpa using h
theorem bf{a b:Int}(h:(a==b)=false):a≠b:=by simpa using h
theorem nt{a b:Int}(h:(a !=b)=true):a≠b:=by simpa using h
theorem LQ{a b:Int}(h:(a !=b)=false):a=b:=by simpa using h
def mv(g:dk):de:=⟨g.A1,g.A2,g.A7,g.C1,g.A9⟩
theorem vr(b:Bool)(x:fh):(I0 (mv g) b x).w λr=>r=mv (pj g b (gw (lG g b) x)):=by
 unfold I0
 refine ab (λhb=>aq λ_ _=>ab (λh=>?_) (λh=>bj ?_)) (λhb=>aq λ_ _=>ab (λh=>?_) (λh=>bj ?_))
 ·subst hb
  have h:(g.C1.length:Int)<64:=oY h
  refine ax (dY (by show 328*(g.C1.length+1)<=_;omega)) (bj ?_)
  have e:gw g.C1 x=g.C1++[x]:=if_pos (by omega)
  show _=mv {g with C1:=gw g.C1 x}
  rw[e]<;>rfl
 ·subst hb
  have h:¬(g.C1.length:Int)<64:=oN h
  have e:gw g.C1 x=g.C1:=if_neg (by omega)
  show _=mv {g with C1:=gw g.C1 x}
  rw[e]<;>rfl
 ·subst hb
  have h:(g.A7.length:Int)<64:=oY h
  refine ax (dY (by show 328*(g.A7.length+1)<=_;omega)) (bj ?_)
  have e:gw g.A7 x=g.A7++[x]:=if_pos (by omega)
  show _=mv {g with A7:=gw g.A7 x}
  rw[e]<;>rfl
 ·subst hb
  have h:¬(g.A7.length:Int)<64:=oN h
  have e:gw g.A7 x=g.A7:=if_neg (by omega)
  show _=mv {g with A7:=gw g.A7 x}
  rw[e]<;>rfl
theorem OR(x:fh):(I0 (mv g) false x).w λr=>r=mv {g with A7:=gw g.A7 x}:=vr false x
theorem qt(x:fh):(I0 (mv g) true x).w λr=>r=mv {g with C1:=gw g.C1 x}:=vr true x
theorem Zbs{c:kY}(h0:0<=c.Frame)(h1:c.Frame<g.A1.A3.length):(OS (mv g) c).w λr=>r=mv {g with A7:=gw g.A7 (rj (g.A1.A3.getD c.Frame.toNat 0) c.Frame c.F2)}:=by
 unfold OS
 refine ab (λ_=>ab (λ_=>ax ?_ (cv (OR (rj (g.A1.A3.getD c.Frame.toNat 0) c.Frame c.F2)) λx hx=>bj hx)) (λh=>absurd h1 (oN h))) (λh=>absurd h0 (oN h))
 show(bX _ _&&bN _ _&&decide _)=true
 rw[dY (show 0<=c.Frame/\c.Frame<((mv g).A1.A3.length:Int) from⟨h0,h1⟩)];rfl
theorem Z87(h:g.A1.A3.length=8):(OT (mv g)).w λr=>r=mv {g with A7:=gw g.A7 (pf g.A1)}:=by
 unfold OT
 refine c6 (show g.A1.A3.length<=1000000000000 by omega) (aq λx0 h0=>?_)
 have h0:x0=g.A1.A3:=h0
 subst h0
 exact cv (OR (pf g.A1)) λx hx=>bj hx
theorem xaq(b:Bool):(Ud (mv g) b).w λr=>r=mv (OL g b):=by
 unfold Ud
 refine ab (λh=>bj ?_) (λh=>bj ?_)<;>(subst h;rfl)
theorem zQ(h:Ch g.A9)(h0:0<=host):(OU (mv g) host).w λr=>r=if(mr g.A9 host g.A1.D5).2=true then(true,mv {g with A9:=(mr g.A9 host g.A1.D5).1,A1:={g.A1 with A4:=3,D5:=(mr g.A9 host g.A1.D5).1.D5}})else(false,mv {g with A1:={g.A1 with A4:=4}}):=by
 unfold OU
 have c:=Tree.pp (X9 h h0 g.A1.D5)
 refine c6 c.1 (aq λx hx=>?_)
 have hx:x=mr g.A9 host g.A1.D5:=hx
 subst hx
 refine ab (λhb=>bj ?_) (λhb=>bj ?_)
 ·have hb:(mr g.A9 host g.A1.D5).2=false:=by simpa using hb
  rw[if_neg (by rw[hb];decide)];rfl
 ·have hb:(mr g.A9 host g.A1.D5).2=true:=by simpa using hb
  rw[if_pos hb];rfl
theorem yQ(h:Ch g.A9)(h0:0<=host):(OV (mv g) host).w λr=>r=if(mr g.A9 host g.A2.D5).2=true then(true,mv {g with A9:=(mr g.A9 host g.A2.D5).1,A2:={g.A2 with A4:=3,D5:=(mr g.A9 host g.A2.D5).1.D5}})else(false,mv {g with A2:={g.A2 with A4:=4}}):=by
 unfold OV
 have c:=Tree.pp (X9 h h0 g.A2.D5)
 refine c6 c.1 (aq λx hx=>?_)
 have hx:x=mr g.A9 host g.A2.D5:=hx
 subst hx
 refine ab (λhb=>bj ?_) (λhb=>bj ?_)
 ·have hb:(mr g.A9 host g.A2.D5).2=false:=by simpa using hb
  rw[if_neg (by rw[hb];decide)];rfl
 ·have hb:(mr g.A9 host g.A2.D5).2=true:=by simpa using hb
  rw[if_pos hb];rfl
theorem vQ(h:Ch g.A9):(OW (mv g)).w λr=>r=mv (nI g):=by
 unfold OW
 refine ab (λh1=>?_) (λh1=>ab (λh2=>?_) (λh2=>bj ?_))
 ·have h1:g.A1.A4=1:=bt h1
  have e:nI g={g with A1:={g.A1 with A4:=3},A7:=gw g.A7 (Ci 4)}:=if_pos h1
  rw[e]
  exact cv (OR (g:={g with A1:={g.A1 with A4:=3}}) (Ci 4)) λx hx=>bj hx
 ·have h1:¬g.A1.A4=1:=bf h1
  have h2:g.A1.A4=2:=bt h2
  refine cv (zQ h (eN 0)) λy hy=>?_
  unfold nI
  rw[if_neg h1,if_pos h2]
  by_cases hb:(mr g.A9 0 g.A1.D5).2=true
  ·rw[if_pos hb]at hy⊢
   subst hy
   exact ab (λh=>by cases h) λ_=>cv (OR (g:={g with A9:=(mr g.A9 0 g.A1.D5).1,A1:={g.A1 with A4:=3,D5:=(mr g.A9 0 g.A1.D5).1.D5}}) (Ci 4)) λx hx=>bj hx
  ·rw[if_neg hb]at hy⊢
   subst hy
   exact ab (λ_=>bj rfl) λh=>by cases h
 ·have h1:¬g.A1.A4=1:=bf h1
  have h2:¬g.A1.A4=2:=bf h2
  unfold nI
  rw[if_neg h1,if_neg h2]
theorem qar(ok:ga g)(ox:jG x)(hk:x.C2=1)(hp:g.A2.A4=0\/g.A2.A4=1\/g.A2.A4=2):(OX (mv g) x).w λr=>r=mv {g with A2:=iN g.A2 x}:=by
 obtain⟨f0,f1,hd⟩:=ox.pg hk
 obtain⟨k,ek⟩:∃f:Nat,x.Frame=f:=⟨x.Frame.toNat,by omega⟩
 have k8:k<8:=by omega
 have tl:=ok.tl
 have sp:TW g.A2.A0.Mem x.Frame x.F2:=by rw[ek];exact Zm4 ok.tm k8 hd
 have s2:(rL g.A2.A0.Mem x.Frame x.F2).2=true:=by rw[ek];exact(TV ok.tm k8 hd).1
 have cn:∀l:List Int,l.length=8->(bX 1 1&&bN 0 1&&decide (0<=x.Frame/\x.Frame<(l.length:Int)))=true:=λl hl=>by
  rw[dY (show 0<=x.Frame/\x.Frame<(l.length:Int) by omega)];rfl
 unfold OX
 refine ab (λh=>absurd (oY h) (by omega)) λ_=>ab (λh=>absurd (oY h) (by show¬x.Frame>=(g.A2.A3.length:Int);omega)) λ_=>ax (cn _ tl) (ab (λh=>bj ?_) λh=>c6 sp (aq λy hy=>?_))
 ·have h:x.C0<=g.A2.A3.getD x.Frame.toNat 0:=oY h
  have e:iN g.A2 x=g.A2:=by
   unfold iN
   rw[if_neg (λh=>h hp),if_pos hk,if_neg (λh=>by have:=h.2.2;omega)]
  rw[e]
 ·have h:¬x.C0<=g.A2.A3.getD x.Frame.toNat 0:=oN h
  have hy:y=rL g.A2.A0.Mem x.Frame x.F2:=hy
  subst hy
  have e:iN g.A2 x={g.A2 with A4:=if g.A2.A4=0 then 1 else g.A2.A4,A0:={g.A2.A0 with Mem:=(rL g.A2.A0.Mem x.Frame x.F2).1},A3:=g.A2.A3.set x.Frame.toNat x.C0}:=by
   unfold iN
   rw[if_neg (λh=>h hp),if_pos hk,if_pos ⟨by omega,by omega,by omega⟩]
  rw[e]
  refine ab (λhb=>?_) λ_=>ax (cn _ tl) (ab (λh0=>bj ?_) λh0=>bj ?_)
  ·rw[s2]at hb;cases hb
  ·have h0:g.A2.A4=0:=bt h0
   rw[if_pos h0];rfl
  ·have h0:¬g.A2.A4=0:=bf h0
   rw[if_neg h0];rfl
theorem xt(ok:ga g)(ox:jG x):(OY (mv g) x).w λr=>r=mv {g with A2:=iN g.A2 x}:=by
 have leaf:(g.A2.A4=0\/g.A2.A4=1\/g.A2.A4=2)->∀(k1:x.C2≠1),(x.C2=2->g.A2.A4=2->iN g.A2 x=g.A2)/\(x.C2=2->g.A2.A4≠2->iN g.A2 x={g.A2 with A4:=2,A0:={x.A0 with Mem:=g.A2.A0.Mem},B8:=x.A3})/\(x.C2≠2->x.C2=4->iN g.A2 x={g.A2 with A4:=4})/\(x.C2≠2->x.C2≠4->iN g.A2 x=g.A2):=λhp k1=>by
  refine⟨λk p=>?_,λk p=>?_,λk p=>?_,λk p=>?_⟩
  ·unfold iN;rw[if_neg (λh=>h hp),if_neg k1,if_pos k,if_pos p]
  ·unfold iN;rw[if_neg (λh=>h hp),if_neg k1,if_pos k,if_neg p]
  ·unfold iN;rw[if_neg (λh=>h hp),if_neg k1,if_neg k,if_pos p]
  ·unfold iN;rw[if_neg (λh=>h hp),if_neg k1,if_neg k,if_neg p]
 unfold OY
 refine ab (λh0=>ab (λh1=>ab (λh2=>bj ?_) (λh2=>?_)) (λh1=>?_)) (λh0=>?_)
 ·have h0:g.A2.A4≠0:=nt h0
  have h1:g.A2.A4≠1:=nt h1
  have h2:g.A2.A4≠2:=nt h2
  have e:iN g.A2 x=g.A2:=by unfold iN;rw[if_pos (by omega)]
  rw[e]
 all_goals
  have hp:g.A2.A4=0\/g.A2.A4=1\/g.A2.A4=2:=by
   first
    |exact .inr (.inr (LQ h2))
    |exact .inr (.inl (LQ h1))
    |exact .inl (LQ h0)
  refine ab (λk=>cv (qar ok ox (bt k) hp) λy hy=>bj hy) (λk1=>?_)
  have k1:x.C2≠1:=bf k1
  obtain⟨q1,q2,q3,q4⟩:=leaf hp k1
  refine ab (λk2=>?_) (λk2=>?_)
  ·have k2:x.C2=2:=bt k2
   refine ab (λp=>bj ?_) (λp=>bj ?_)
   ·rw[q1 k2 (bt p)]
   ·rw[q2 k2 (bf p)];rfl
  ·have k2:x.C2≠2:=bf k2
   refine ab (λp=>bj ?_) (λp=>bj ?_)
   ·rw[q3 k2 (bt p)];rfl
   ·rw[q4 k2 (bf p)]
theorem Znu(R l:List Int)(x v:Int):Qf R (l++[x]) v=(Qf R l v).set x.toNat v:=by
 unfold Qf;rw[fD];rfl
theorem Yk(l k:List fh)(x:fh):oM l (k++[x])=gw (oM l k) x:=by
 unfold oM;rw[fD];rfl
theorem LR{α:Type}{l:List α}(h:i<l.length):l.take (i+1)=l.take i++[l[i]]:=by
 rw[List.take_add_one,aI h];rfl
theorem OZ(h:i<n):(bX 2 2&&bN 0 2&&decide (0<=(i:Int)/\(i:Int)<(n:Int)))=true:=by
 rw[dY (by omega)];rfl
def DQ(g:dk)(i:Nat):dk:=
 { g with
   A1:={g.A1 with B0:=⟨cO 8 false,g.A1.B0.C0+1,g.A1.B0.D6+(ig g.A1.B0.B1 0).length⟩,A3:=Qf g.A1.A3 ((ig g.A1.B0.B1 0).take i) (g.A1.B0.C0+1)}
   A7:=oM g.A7 ((tC g.A1.B0 g.A1.A0.Mem).take i)}
theorem Zpy(ok:ga g)(hr:g.A1.B0.C0<=10):(O0 (mv g)).w λr=>r=mv (mJ g):=by
 obtain⟨r1,r2⟩:=xm (c:=g.A1.B0) (m:=g.A1.A0.Mem) (by have:=ok.dl;omega)
 rw[ok.round hr]at r2
 have sl:=Yb ok.dl
 have rl:=ok.rl
 have lS:(tC g.A1.B0 g.A1.A0.Mem).length=(ig g.A1.B0.B1 0).length:=by unfold tC mI;rw[eX,eX]
 have lC:(mI g.A1.A0.Mem (ig g.A1.B0.B1 0)).length=(ig g.A1.B0.B1 0).length:=by unfold mI;rw[eX]
 unfold O0
 refine c6 r1 (aq λx0 h0=>?_)
 have h0:x0=IT g.A1.B0 g.A1.A0.Mem:=h0
 have h0:=h0.trans r2
 subst h0
 refine fj (inv:=λz:Int×de=>∃i:Nat,z.1=i/\i<=(ig g.A1.B0.B1 0).length/\z.2=mv (DQ g i)) (μ:=Qd9 (mv g)) ⟨0,rfl,bC _,rfl⟩ (cN _) ?_
 rintro⟨_,y⟩ ⟨i,rfl,hi,hy⟩
 simp only at hy
 subst hy
 refine ab (λbh=>?_) (λgl=>bj ?_)
 ·have bh:(i:Int)<((mI g.A1.A0.Mem (ig g.A1.B0.B1 0)).length:Int):=oY bh
  have hl:i<(ig g.A1.B0.B1 0).length:=by rw[lC]at bh;omega
  have ew:wrap .i64 ((i:Int)+1)=((i+1:Nat):Int):=by rw[wi (by omega) (by omega)];omega
  have eg:(mI g.A1.A0.Mem (ig g.A1.B0.B1 0)).getD (dA (i:Int)) (RK.ed RK.bq)=⟨(ig g.A1.B0.B1 0)[i],(jB g.A1.A0.Mem (ig g.A1.B0.B1 0)[i]).1⟩:=by
   simp[aV,mI,hl]
  have hm:=Ou (eU hl)
  have dl:=ok.dl
  have lp:(DQ g i).A1.A3.length=8:=TX.trans rl
  generalize hf:(ig g.A1.B0.B1 0)[i]=f at eg hm
  have f0:0<=f:=hm.1
  have f8:f<8:=by omega
  have Yl:(f:Int)<(((mv (DQ g i)).A1.A3).length:Int):=by show f<((DQ g i).A1.A3.length:Int);omega
  have hlC:i<(mI g.A1.A0.Mem (ig g.A1.B0.B1 0)).length:=by rw[lC];exact hl
  refine ax (OZ hlC) ?_
  rw[eg]
  refine ab (λ_=>ab (λ_=>ax ?_ ?_) (λh=>absurd Yl (oN h))) (λh=>absurd f0 (oN h))
  ·show(bX _ _&&bN _ _&&decide (0<=f/\f<_))=true
   rw[dY ⟨f0,Yl⟩];rfl
  ·have e1:∀l:List Int,l.length=8->(l.set f.toNat (g.A1.B0.C0+1)).getD f.toNat 0=g.A1.B0.C0+1:=λl hl=>by rw[FV (by omega),if_pos rfl]
   refine cv (Zbs (g:={DQ g i with A1:={(DQ g i).A1 with A3:=(DQ g i).A1.A3.set f.toNat (g.A1.B0.C0+1)}}) (c:=⟨f,(jB g.A1.A0.Mem f).1⟩) f0 (by show f<(((DQ g i).A1.A3.set f.toNat (g.A1.B0.C0+1)).length:Int);rw[dC];exact Yl)) λy hy=>ei ⟨⟨i+1,ew,by omega,?_⟩,?_⟩
   ·rw[hy]
    show mv _=mv _
    congr 1
    have t1:(ig g.A1.B0.B1 0).take (i+1)=(ig g.A1.B0.B1 0).take i++[f]:=by rw[LR hl,hf]
    have t2:(tC g.A1.B0 g.A1.A0.Mem).take (i+1)=(tC g.A1.B0 g.A1.A0.Mem).take i++[rj (g.A1.B0.C0+1) f (jB g.A1.A0.Mem f).1]:=by
     rw[LR (by omega)]
     congr 2
     have:(tC g.A1.B0 g.A1.A0.Mem)[i]'(by omega)=rj (g.A1.B0.C0+1) (ig g.A1.B0.B1 0)[i] (jB g.A1.A0.Mem (ig g.A1.B0.B1 0)[i]).1:=by simp[tC,mI]
     rw[this,hf]
    unfold DQ
    rw[t1,t2,Znu,Yk]
    show dk.mk _ _ (gw _ (rj ((List.set _ f.toNat _).getD f.toNat 0) f _)) _ _=_
    rw[e1 _ (TX.trans rl)]
   ·show(_-wrap .i64 ((i:Int)+1)).toNat<(_-(i:Int)).toNat
    rw[ew]
    show(((IT g.A1.B0 g.A1.A0.Mem).2.length:Int)-((i+1:Nat):Int)).toNat<_
    show _<(((IT g.A1.B0 g.A1.A0.Mem).2.length:Int)-(i:Int)).toNat
    rw[r2]
    show(((mI g.A1.A0.Mem (ig g.A1.B0.B1 0)).length:Int)-((i+1:Nat):Int)).toNat<(((mI g.A1.A0.Mem (ig g.A1.B0.B1 0)).length:Int)-(i:Int)).toNat
    rw[lC];omega
 ·have gl:¬(i:Int)<((mI g.A1.A0.Mem (ig g.A1.B0.B1 0)).length:Int):=oN gl
  have hi2:i=(ig g.A1.B0.B1 0).length:=by rw[lC]at gl;omega
  show mv _=mv _
  congr 1
  unfold DQ mJ
  rw[fE (by omega),fE (by omega)]
theorem zar(ok:ga g)(fm:Int):(O1 (mv g) fm).w λr=>r=mv (DN g fm):=by
 unfold O1
 refine ab (λh=>bj ?_) (λh=>?_)
 ·have h:¬g.A1.A4=1:=nt h
  unfold DN
  rw[if_neg (λq=>h q.1)]
 ·have h:g.A1.A4=1:=LQ h
  obtain⟨s1,s2⟩:=z6 (c:=g.A1.B0) (fm:=fm) (by have:=ok.dl;omega)
  refine c6 s1 (aq λx0 h0=>?_)
  have h0:x0=IQ g.A1.B0 fm:=h0
  subst h0
  refine ab (λhb=>bj ?_) (λhb=>?_)
  ·have hb:IQ g.A1.B0 fm=false:=by simpa using hb
   unfold DN
   rw[if_neg (λq=>by rw[hb]at q;cases q.2)]
  ·have hb:IQ g.A1.B0 fm=true:=by simpa using hb
   have e:DN g fm=ES g:=by
    unfold DN
    rw[if_pos ⟨h,hb⟩,IV ok (ok.r2 h)];rfl
   rw[e]
   refine cv (Zpy ok (ok.r2 h)) λx1 h1=>?_
   subst h1
   have rl:(mJ g).A1.A3.length=8:=TX.trans ok.rl
   exact cv (Z87 (g:={mJ g with A1:={(mJ g).A1 with A4:=2}}) rl) λy hy=>bj hy
theorem yt(ok:ga g):(O2 (mv g)).w λr=>r=mv (ER g):=by
 unfold O2
 refine ab (λh=>bj ?_) (λh=>?_)
 ·have h:¬g.A1.A4=2:=nt h
  unfold ER
  rw[if_neg h]
 ·have h:g.A1.A4=2:=LQ h
  have e:ER g=Cm g:=if_pos h
  rw[e]
  have mp:jU g.A1.A0.Mem=((8:Nat):Int):=LD (P:=8) ok.rm.len (by decide)
  refine aq λx0 h0=>?_
  have h0:x0=((8:Nat):Int):=h0.trans mp
  subst h0
  refine fj (inv:=λz:Int×de=>∃i:Nat,z.1=i/\i<=8/\z.2=mv {g with A7:=oM g.A7 ((oi g.A1).take i)}) (μ:=Qc2 (mv g)) ⟨0,rfl,bC _,rfl⟩ (cN _) ?_
  rintro⟨_,y⟩ ⟨i,rfl,hi,hy⟩
  simp only at hy
  subst hy
  have lP:=Zl4 g.A1
  refine ab (λbh=>?_) (λgl=>?_)
  ·have bh:(i:Int)<((8:Nat):Int):=oY bh
   have i8:i<8:=by omega
   have ew:wrap .i64 ((i:Int)+1)=((i+1:Nat):Int):=by rw[wi (by omega) (by omega)];omega
   refine c6 (Zq0 (P:=8) ok.rm.len (by decide) (by omega) (by omega)) (aq λx1 h1=>?_)
   have h1:x1=jB g.A1.A0.Mem i:=h1
   subst h1
   have rl:=ok.rl
   refine ab (λ_=>cv (Zbs (g:={g with A7:=oM g.A7 ((oi g.A1).take i)}) (c:=⟨i,(jB g.A1.A0.Mem i).1⟩) (by show(0:Int)<=(i:Int);omega) (by show(i:Int)<(g.A1.A3.length:Int);omega)) λy hy=>ei ⟨⟨i+1,ew,by omega,?_⟩,?_⟩) (λhb=>?_)
   ·rw[hy]
    show mv _=mv _
    congr 1
    have t:(oi g.A1).take (i+1)=(oi g.A1).take i++[rj (g.A1.A3.getD i 0) i (jB g.A1.A0.Mem i).1]:=by
     rw[LR (by omega)]
     congr 2
     unfold oi
     rw[List.getElem_map,List.getElem_range]
    rw[t,Yk]
    rfl
   ·show(_-wrap .i64 ((i:Int)+1)).toNat<(_-(i:Int)).toNat
    rw[ew]
    show(jU g.A1.A0.Mem-((i+1:Nat):Int)).toNat<(jU g.A1.A0.Mem-(i:Int)).toNat
    rw[mp];omega
   ·exfalso
    have:(jB g.A1.A0.Mem i).2=true:=(IU ok.rm i8).2
    rw[this]at hb;cases hb
  ·have gl:¬(i:Int)<((8:Nat):Int):=oN gl
   have i8:i=8:=by omega
   subst i8
   have e3:(oi g.A1).take 8=oi g.A1:=fE (by omega)
   have e2:Cm g={g with A7:=gw (oM g.A7 (oi g.A1)) (pf g.A1)}:=by
    unfold Cm;rw[Yk]
   rw[e2,e3]
   generalize oi g.A1=L
   exact cv (Z87 (g:={g with A7:=oM g.A7 L}) ok.rl) λy hy=>bj hy
theorem Ue(n:Int):(if 64<(if 0>n then 0 else n)then 64 else if 0>n then 0 else n)=((runN n:Nat):Int):=by
 unfold runN
 split<;>split<;>omega
theorem xaI(ok:ga g)(hc:U clock)(n:Int):(O3 (mv g) n clock).w λr=>r=mv (jY g n clock):=by
 have rn:runN n<=64:=by unfold runN;omega
 have er:DR g=jj g:=by
  unfold jj
  simp only[DR,Uf,Tree.m]
  by_cases h1:g.A1.A4=1
  ·simp[h1]
  ·by_cases h3:g.A1.A4=3
   ·simp[h3]
   ·by_cases ht:g.A2.A4=3
    ·simp[beq_false_of_ne h1,beq_false_of_ne h3,h1,h3,ht]
    ·simp[beq_false_of_ne h1,beq_false_of_ne h3,beq_false_of_ne ht,h1,h3,ht]
 unfold O3
 refine aq λx0 h0=>?_
 have h0:x0=jj g:=h0.trans er
 subst h0
 refine ab (λh=>bj ?_) (λh=>ab (λh1=>?_) (λh1=>?_))
 ·have h:jj g= -1:=bt h
  unfold jj at h
  unfold jY
  split at h
  ·omega
  ·rename_i q1
   split at h
   ·omega
   ·rename_i q2
    rw[if_neg q1,if_neg q2]
 ·have h1:jj g=1:=bt h1
  have q:¬(g.A1.A4=1\/g.A1.A4=3)/\g.A2.A4=3:=by
   unfold jj at h1
   split at h1
   ·omega
   ·rename_i q1
    split at h1
    ·rename_i q2;exact⟨q1,q2⟩
    ·omega
  have gt:=ok.tg (.inr q.2)
  have e:jY g n clock={g with A2:={g.A2 with A0:=ll g.A2.A0 clock (runN n)}}:=by unfold jY;rw[if_neg q.1,if_pos q.2]
  rw[e]
  refine fj (inv:=λz:Int×bg=>∃i:Nat,z.1=i/\i<=runN n/\z.2=ll g.A2.A0 clock i) (μ:=λz=>(1000-z.1).toNat) ⟨0,rfl,bC _,rfl⟩ (by simp only[Ug];omega) ?_
  rintro⟨_,y⟩ ⟨i,rfl,hi,hy⟩
  simp only at hy
  subst hy
  refine ab (λbh=>?_) (λgl=>ab (λhp=>?_) (λhp=>bj ?_))
  ·have bh:(i:Int)<(if 64<(if 0>n then 0 else n)then 64 else if 0>n then 0 else n):=oY bh
   rw[Ue]at bh
   have ew:wrap .i64 ((i:Int)+1)=((i+1:Nat):Int):=by rw[wi (by omega) (by omega)];omega
   refine c6 (Z4r (GO gt hc i) hc) (aq λx1 h1=>ei ⟨⟨i+1,ew,by omega,?_⟩,by show(1000-wrap .i64 ((i:Int)+1)).toNat<(1000-(i:Int)).toNat;rw[ew];omega⟩)
   show x1.1=_
   rw[h1];rfl
  ·exfalso
   have hp:g.A2.A4=1:=bt hp
   omega
  ·have gl:¬(i:Int)<(if 64<(if 0>n then 0 else n)then 64 else if 0>n then 0 else n):=oN gl
   rw[Ue]at gl
   have:i=runN n:=by omega
   subst this
   rfl
 ·have hn:¬jj g= -1:=bf h
  have h1:¬jj g=1:=bf h1
  have q:g.A1.A4=1\/g.A1.A4=3:=by
   unfold jj at hn h1
   split at hn
   ·assumption
   ·rename_i q1
    rw[if_neg q1]at h1
    split at hn
    ·rename_i q2;rw[if_pos q2]at h1;exact absurd rfl h1
    ·exact absurd rfl hn
  have e:jY g n clock={g with A1:={g.A1 with A0:=ll g.A1.A0 clock (runN n),B0:=rM g.A1 (ll g.A1.A0 clock (runN n))}}:=if_pos q
  rw[e]
  refine fj (inv:=λz:Int×bg=>∃i:Nat,z.1=i/\i<=runN n/\z.2=ll g.A1.A0 clock i) (μ:=λz=>(1000-z.1).toNat) ⟨0,rfl,bC _,rfl⟩ (by simp only[Ug];omega) ?_
  rintro⟨_,y⟩ ⟨i,rfl,hi,hy⟩
  simp only at hy
  subst hy
  refine ab (λbh=>?_) (λgl=>?_)
  ·have bh:(i:Int)<(if 64<(if 0>n then 0 else n)then 64 else if 0>n then 0 else n):=oY bh
   rw[Ue]at bh
   have ew:wrap .i64 ((i:Int)+1)=((i+1:Nat):Int):=by rw[wi (by omega) (by omega)];omega
   refine c6 (Z4r (GO ok.src hc i) hc) (aq λx1 h1=>ei ⟨⟨i+1,ew,by omega,?_⟩,by show(1000-wrap .i64 ((i:Int)+1)).toNat<(1000-(i:Int)).toNat;rw[ew];omega⟩)
   show x1.1=_
   rw[h1];rfl
  ·have gl:¬(i:Int)<(if 64<(if 0>n then 0 else n)then 64 else if 0>n then 0 else n):=oN gl
   rw[Ue]at gl
   have hi:i=runN n:=by omega
   subst hi
   have sg:=GO ok.src hc (runN n)
   refine ab (λhp=>?_) (λhp=>bj ?_)
   ·have hp:g.A1.A4=1:=bt hp
    obtain⟨c1,c2,_⟩:=Zm ok.rm sg.mq
    refine c6 c1 (aq λx2 h2=>?_)
    have h2:x2=Q3 g.A1.A0.Mem (ll g.A1.A0 clock (runN n)).Mem:=h2
    rw[<-h2]at c2
    obtain⟨n1,n2⟩:=qaH (c:=g.A1.B0) (l:=x2) (by have:=ok.dl;omega) (by omega)
    refine c6 n1 (aq λx3 h3=>bj ?_)
    have h3:x3=TO g.A1.B0 x2:=h3
    rw[n2,h2]at h3
    subst h3
    have en:rM g.A1 (ll g.A1.A0 clock (runN n))={g.A1.B0 with B1:=ri g.A1.B0.B1 (Q3 g.A1.A0.Mem (ll g.A1.A0 clock (runN n)).Mem)}:=if_pos hp
    rw[en];rfl
   ·have hp:¬g.A1.A4=1:=bf hp
    have en:rM g.A1 (ll g.A1.A0 clock (runN n))=g.A1.B0:=if_neg hp
    rw[en];rfl
theorem Ym(ok:ga g)(b:Bool)(i:Int):(I1 (mv g) b i).w λr=>(lY (lG g b) i->r=(pk (lG g b) i,true,mv (nH g b i)))/\(¬lY (lG g b) i->r.2.1=false/\r.2.2=mv g):=by
 have cn:∀l:List fh,lY l i->(bX 54 54&&bN 0 54&&decide (0<=i/\i<(l.length:Int)))=true:=λl hl=>by rw[dY (show 0<=i/\i<(l.length:Int) from hl)];rfl
 have fin:∀l:List fh,l.length<=64->lY l i->wrap .i64 (i+1)=i+1/\l.take i.toNat++l.drop (i+1).toNat=kG l i/\(fF (i-0)/\fF (wrap .i64 (i+1)-(i+1))/\fF ((l.length:Int)-wrap .i64 (i+1))):=λl hl hi=>by
  obtain⟨h0,h1⟩:=hi
  have ew:wrap .i64 (i+1)=i+1:=wi (by omega) (by omega)
  refine⟨ew,?_,?_⟩
  ·unfold kG;rw[show(i+1).toNat=i.toNat+1 by omega]
  ·rw[ew]
   exact⟨(h0:(0:Int)<=i),(eN _:i+1<=i+1),(show i+1<=(l.length:Int) by omega)⟩
 unfold I1
 refine ab (λhb=>aq λ_ _=>ab (λh=>bj ?_) (λh=>ab (λh2=>bj ?_) λh2=>?_)) (λhb=>aq λ_ _=>ab (λh=>bj ?_) (λh=>ab (λh2=>bj ?_) λh2=>?_))
 all_goals subst hb
 ·have h:i<0:=oY h
  exact⟨λq=>absurd q.1 (by omega),λ_=>⟨rfl,rfl⟩⟩
 ·have h2:i>=(g.C1.length:Int):=oY h2
  exact⟨λq=>absurd q.2 (by show¬i<(g.C1.length:Int);omega),λ_=>⟨rfl,rfl⟩⟩
 ·have h:¬i<0:=oN h
  have h2:¬i>=(g.C1.length:Int):=oN h2
  have hi:lY g.C1 i:=⟨by omega,by omega⟩
  obtain⟨e1,e2,e3⟩:=fin g.C1 ok.bl hi
  refine ax (cn _ hi) (c6 e3 (aq λx3 h3=>bj ⟨λ_=>?_,λq=>absurd hi q⟩))
  have h3:x3=g.C1.take i.toNat++g.C1.drop (wrap .i64 (i+1)).toNat:=h3
  rw[e1,e2]at h3
  have el:nH g true i={g with C1:=kG g.C1 i}:=if_pos hi
  rw[el,h3];rfl
 ·have h:i<0:=oY h
  exact⟨λq=>absurd q.1 (by omega),λ_=>⟨rfl,rfl⟩⟩
 ·have h2:i>=(g.A7.length:Int):=oY h2
  exact⟨λq=>absurd q.2 (by show¬i<(g.A7.length:Int);omega),λ_=>⟨rfl,rfl⟩⟩
 ·have h:¬i<0:=oN h
  have h2:¬i>=(g.A7.length:Int):=oN h2
  have hi:lY g.A7 i:=⟨by omega,by omega⟩
  obtain⟨e1,e2,e3⟩:=fin g.A7 ok.fl hi
  refine ax (cn _ hi) (c6 e3 (aq λx3 h3=>bj ⟨λ_=>?_,λq=>absurd hi q⟩))
  have h3:x3=g.A7.take i.toNat++g.A7.drop (wrap .i64 (i+1)).toNat:=h3
  rw[e1,e2]at h3
  have el:nH g false i={g with A7:=kG g.A7 i}:=if_pos hi
  rw[el,h3];rfl
theorem Ztz(ok:ga g)(b:Bool)(i:Int):(I1 (mv g) b i).w λr=>r.2.2=mv (nH g b i):=by
 have t:=Tree.pp (Ym ok b i)
 refine(I1 (mv g) b i).mono (λr (h:(lY (lG g b) i->r=(pk (lG g b) i,true,mv (nH g b i)))/\(¬lY (lG g b) i->r.2.1=false/\r.2.2=mv g))=>?_) (Ym ok b i)
 by_cases hi:lY (lG g b) i
 ·rw[h.1 hi]
 ·have e:nH g b i=g:=if_neg hi
  rw[(h.2 hi).2,e]
theorem Zsv(ok:ga g)(b:Bool)(i:Int):(O4 (mv g) b i).w λr=>r=mv (oj g b i):=by
 unfold O4
 refine cv (Ym ok b i) λx0 ⟨t1,t2⟩=>?_
 by_cases hi:lY (lG g b) i
 ·rw[t1 hi]
  have e:oj g b i=LK (nH g b i) b (pk (lG g b) i):=if_pos hi
  rw[e]
  have ox:=(ok.F4 b).2 _ (GP hi)
  have ol:=Yd ok b i
  generalize pk (lG g b) i=x at ox
  generalize nH g b i=l at ol
  refine ab (λh=>by cases h) λ_=>?_
  cases b
  ·exact ab (λ_=>cv (xt ol ox) λy hy=>bj hy) λh=>by cases h
  ·have et:LK l true x=if l.A1.A4=2/\x.C2=3 then{l with A1:={l.A1 with A4:=4}}else l:=if_pos rfl
   rw[et]
   refine ab (λh=>by cases h) λ_=>ab (λh1=>ab (λh2=>bj ?_) (λh2=>bj ?_)) (λh1=>bj ?_)
   ·rw[if_pos (show l.A1.A4=2/\x.C2=3 from⟨bt h1,bt h2⟩)];rfl
   ·rw[if_neg (show¬(l.A1.A4=2/\x.C2=3) fromλq=>bf h2 q.2)]
   ·rw[if_neg (show¬(l.A1.A4=2/\x.C2=3) fromλq=>bf h1 q.1)]
 ·obtain⟨a,c⟩:=t2 hi
  have e:oj g b i=g:=if_neg hi
  rw[e]
  refine ab (λ_=>bj c) λh=>?_
  rw[a]at h;cases h
theorem Yn(h:jG x):(O5 x).w λr=>r=x:=by
 unfold O5
 have cm:(Cr x.A0).w λr=>r=x.A0:=by
  unfold Cr
  exact c6 (show x.A0.Mem.length<=35184372088832 by rw[h.mem];decide) (aq λy hy=>by have hy:y=x.A0.Mem:=hy;subst hy;exact bj rfl)
 refine cv cm λy hy=>?_
 subst hy
 refine c6 (show x.A3.length<=1000000000000 by have:=h.rl;omega) (aq λz hz=>?_)
 have hz:z=x.A3:=hz
 subst hz
 exact bj rfl
theorem vt(ok:ga g)(b:Bool)(i:Int):(O6 (mv g) b i).w λr=>r=mv (Bc g b i):=by
 have cn:∀l:List fh,lY l i->(bX 54 54&&bN 0 54&&decide (0<=i/\i<(l.length:Int)))=true:=λl hl=>by rw[dY (show 0<=i/\i<(l.length:Int) from hl)];rfl
 unfold O6
 refine ab (λhb=>aq λ_ _=>ab (λh=>ab (λh2=>?_) (λh2=>bj ?_)) (λh=>bj ?_)) (λhb=>aq λ_ _=>ab (λh=>ab (λh2=>?_) (λh2=>bj ?_)) (λh=>bj ?_))
 all_goals subst hb
 ·have hi:lY g.C1 i:=⟨oY h,oY h2⟩
  have e:Bc g true i={g with C1:=gw g.C1 (pk g.C1 i)}:=if_pos hi
  rw[e]
  refine ax (cn _ hi) (cv (Yn (x:=pk g.C1 i) (ok.bo _ (GP hi))) λx1 h1=>?_)
  subst h1
  exact cv (qt _) λy hy=>bj hy
 ·have h2:¬i<(g.C1.length:Int):=oN h2
  have e:Bc g true i=g:=if_neg (λq=>h2 q.2)
  rw[e]
 ·have h:¬i>=0:=oN h
  have e:Bc g true i=g:=if_neg (λq=>h q.1)
  rw[e]
 ·have hi:lY g.A7 i:=⟨oY h,oY h2⟩
  have e:Bc g false i={g with A7:=gw g.A7 (pk g.A7 i)}:=if_pos hi
  rw[e]
  refine ax (cn _ hi) (cv (Yn (x:=pk g.A7 i) (ok.fo _ (GP hi))) λx1 h1=>?_)
  subst h1
  exact cv (OR _) λy hy=>bj hy
 ·have h2:¬i<(g.A7.length:Int):=oN h2
  have e:Bc g false i=g:=if_neg (λq=>h2 q.2)
  rw[e]
 ·have h:¬i>=0:=oN h
  have e:Bc g false i=g:=if_neg (λq=>h q.1)
  rw[e]
theorem Zlk(hl:l.length<=64)(h:∀x∈l,jG x):(O7 l).w λr=>r=l:=by
 unfold O7
 refine fj (inv:=λz:Int×List fh=>∃i:Nat,z.1=i/\i<=l.length/\z.2=l.take i) (μ:=Yo l) ⟨0,rfl,bC _,rfl⟩ (cN _) ?_
 rintro⟨_,y⟩ ⟨i,rfl,hi,hy⟩
 simp only at hy
 subst hy
 refine ab (λbh=>?_) (λgl=>bj ?_)
 ·have bh:i<l.length:=by have:(i:Int)<(l.length:Int):=oY bh;omega
  have ew:wrap .i64 ((i:Int)+1)=((i+1:Nat):Int):=by rw[wi (by omega) (by omega)];omega
  have eg:l.getD (dA (i:Int)) (RK.ed RK.aa)=l[i]:=by simp[aV,bh]
  have lt:(l.take i).length=i:=by rw[aD];omega
  refine ax (by rw[dY (show 0<=(i:Int)/\(i:Int)<(l.length:Int) by omega)];rfl) ?_
  rw[eg]
  refine cv (Yn (h _ (eU bh))) λx0 h0=>?_
  subst h0
  refine ax (dY (by show 328*((l.take i).length+1)<=_;omega)) (ei ⟨⟨i+1,ew,bh,(LR bh).symm⟩,by simp only[Yo,ew];omega⟩)
 ·have gl:¬(i:Int)<(l.length:Int):=oN gl
  exact fE (by omega)
theorem Z4v{s:ic}(hm:s.A0.Mem.length<=1024)(hd:s.B0.B1.length<=8)(hr:s.A3.length<=8)(hf:s.B8.length<=8):(O8 s).w λr=>r=s:=by
 unfold O8
 have cm:(Cr s.A0).w λr=>r=s.A0:=by
  unfold Cr
  exact c6 (show s.A0.Mem.length<=35184372088832 by omega) (aq λy hy=>by have hy:y=s.A0.Mem:=hy;subst hy;exact bj rfl)
 refine cv cm λy hy=>?_
 subst hy
 refine c6 (show s.B0.B1.length<=140737488355328 by omega) (aq λa ha=>c6 (show s.A3.length<=1000000000000 by omega) (aq λb hb=>c6 (show s.B8.length<=1000000000000 by omega) (aq λc hc=>bj ?_)))
 have ha:a=s.B0.B1:=ha
 have hb:b=s.A3:=hb
 have hc:c=s.B8:=hc
 subst ha;subst hb;subst hc
 rfl
theorem ga.O9(h:ga g):g.A1.A0.Mem.length<=1024/\g.A2.A0.Mem.length<=1024:=by
 have a:=h.rm.len
 have b:=h.tm.len
 omega
theorem Yp(ok:ga g):(Pa g).w λr=>r=g:=by
 obtain⟨l1,l2⟩:=ok.O9
 unfold Pa
 refine cv (Z4v l1 (by have:=ok.dl;omega) (by have:=ok.rl;omega) ok.sf) λx0 h0=>cv (Z4v l2 ok.tc (by have:=ok.tl;omega) ok.tf) λx1 h1=>cv (Zlk ok.fl ok.fo) λx2 h2=>cv (Zlk ok.bl ok.bo) λx3 h3=>c6 (show g.A9.ae.length<=1000000000000 by have:=ok.st.1;omega) (aq λx4 h4=>bj ?_)
 have h4:x4=g.A9.ae:=h4
 subst h0;subst h1;subst h2;subst h3;subst h4
 rfl
theorem Pb{s t:List Int}(hl:s.length<=1000000):(LS s t).w λr=>r=decide (s=t):=by
 unfold LS
 refine ab (λh=>bj ?_) (λhe=>?_)
 ·have h:¬(s.length:Int)=t.length:=by simpa using h
  exact(dN (λe=>h (by rw[e]))).symm
 ·have he:s.length=t.length:=by
   have:(s.length:Int)=t.length:=by simpa using he
   omega
  refine fj (inv:=λz:Int=>∃i:Nat,z=i/\i<=s.length/\∀j,j<i->s.getD j 0=t.getD j 0) (μ:=Pd s t) ⟨0,rfl,bC _,λj h=>by omega⟩ (cN _) ?_
  rintro _ ⟨i,rfl,hi,hj⟩
  refine ab (λbh=>?_) (λgl=>bj ?_)
  ·have bh:i<s.length:=by simpa using bh
   have ew:wrap .i64 ((i:Int)+1)=((i+1:Nat):Int):=by rw[wi (by omega) (by omega)];omega
   refine ax (mU bh) (ax (mU (by omega)) (ab (λhn=>bj ?_) (λheq=>ei ⟨⟨i+1,ew,bh,λj LG=>?_⟩,by simp only[Pd,ew];omega⟩)))
   ·rw[dX]at hn
    exact(dN (λe=>nt hn (by rw[e]))).symm
   ·rw[dX]at heq
    rcases Nat.lt_succ_iff_lt_or_eq.1 LG with h|h
    ·exact hj j h
    ·subst h;exact LQ heq
  ·have gl:s.length<=i:=by simpa using gl
   refine(dY (bR he λj h1 h2=>?_)).symm
   have:=hj j (by omega)
   simpa[aV,h1,h2]using this
theorem Zhl(ok:ga g):(Pe g).w λr=>r=decide (Cj g):=by
 unfold Pe
 have tl:=ok.tl
 refine ab (λh=>c6 (show g.A2.A3.length<=1000000000000 by omega) (aq λx hx=>bj ?_)) (λh=>bj ?_)
 ·rw[show x=decide (g.A2.A3=g.A2.B8) from hx.trans (Tree.pp (Pb (s:=g.A2.A3) (t:=g.A2.B8) (by omega))).2]
  refine decide_eq_decide.2 ⟨λe=>⟨bt h,e⟩,λe=>e.2⟩
 ·exact(dN (λe=>bf h e.1)).symm
theorem wz(ok:ga g){a:jt}(hc:U a.D8):(Pf g a).w λr=>r=wx g a:=by
 unfold Pf
 refine cv (Yp ok) λx0 h0=>?_
 subst h0
 unfold wx
 refine ab (λk=>?_) λk=>?_
 ·rw[if_pos (bt k)]
  exact cv (xaI ok hc a.N) λy hy=>bj (by rw[hy];rfl)
 rw[if_neg (bf k)]
 refine ab (λk=>?_) λk=>?_
 ·rw[if_pos (bt k)]
  refine ab (λh1=>ab (λh2=>?_) (λh2=>bj ?_)) (λh1=>bj ?_)
  ·have h1:=bt h1
   have h2:x0.A1.B0.C0<10:=oY h2
   rw[if_pos ⟨h1,h2⟩,IV ok (by omega)]
   exact cv (Zpy ok (by omega)) λy hy=>bj (by rw[hy];rfl)
  ·have h2:¬x0.A1.B0.C0<10:=oN h2
   rw[if_neg (λq=>h2 q.2)]
  ·rw[if_neg (λq=>bf h1 q.1)]
 rw[if_neg (bf k)]
 refine ab (λk=>?_) λk=>?_
 ·rw[if_pos (bt k)]
  exact cv (zar ok a.N) λy hy=>bj (by rw[hy];rfl)
 rw[if_neg (bf k)]
 refine ab (λk=>?_) λk=>?_
 ·rw[if_pos (bt k)]
  exact cv (yt ok) λy hy=>bj (by rw[hy];rfl)
 rw[if_neg (bf k)]
 refine ab (λk=>?_) λk=>?_
 ·rw[if_pos (bt k)]
  exact cv (Zsv ok a.C1 a.N) λy hy=>bj (by rw[hy];rfl)
 rw[if_neg (bf k)]
 refine ab (λk=>?_) λk=>?_
 ·rw[if_pos (bt k)]
  exact cv (Ztz ok a.C1 a.N) λy hy=>bj (by rw[hy];rfl)
 rw[if_neg (bf k)]
 refine ab (λk=>?_) λk=>?_
 ·rw[if_pos (bt k)]
  exact cv (vt ok a.C1 a.N) λy hy=>bj (by rw[hy];rfl)
 rw[if_neg (bf k)]
 refine ab (λk=>?_) λk=>?_
 ·rw [if_pos (bt k)]
  refine cv (Zhl ok) λx8 h8=>ab (λhb=>?_) λhb=>bj ?_
  ·rw[h8]at hb
   have hf:Cj x0:=oY hb
   unfold rk
   rw[if_pos hf]
   refine cv (yQ ok.st (host:=1) (by decide)) λx9 h9=>?_
   by_cases hc:(mr x0.A9 1 x0.A2.D5).2=true
   ·rw[if_pos hc]at h9⊢
    subst h9
    exact ab (λ_=>cv (qt (g:={x0 with A9:=(mr x0.A9 1 x0.A2.D5).1,A2:={x0.A2 with A4:=3,D5:=(mr x0.A9 1 x0.A2.D5).1.D5}}) (Ci 3)) λy hy=>bj (by rw[hy];rfl)) λh=>by cases h
   ·rw[if_neg hc]at h9⊢
    subst h9
    exact ab (λh=>by cases h) λ_=>bj rfl
  ·rw[h8]at hb
   have hf:¬Cj x0:=oN hb
   unfold rk
   rw[if_neg hf]
 rw[if_neg (bf k)]
 refine ab (λk=>?_) λk=>?_
 ·rw[if_pos (bt k)]
  exact cv (vQ ok.st) λy hy=>bj (by rw[hy];rfl)
 rw[if_neg (bf k)]
 refine ab (λk=>?_) λk=>?_
 ·rw[if_pos (bt k)]
  refine aq λy hy=>bj ?_
  have hy:y=mv (OL x0 a.C1):=hy.trans (Tree.pp (xaq (g:=x0) a.C1)).2
  rw[hy];rfl
 rw[if_neg (bf k)]
 exact bj rfl
theorem EV(n:Int):Pg n 128/\(Yq n 128).length=128:=by
 refine⟨by show(128:Int)<=1000000000000;decide,?_⟩
 show Tree.V (LU n 128) (λs=>s.length=128)
 unfold LU
 refine EO (inv:=λv:Int×List Int=>0<=v.1/\v.1<=128/\v.2.length=v.1.toNat) (μ:=Uh n 128) ⟨eN 0,by decide,rfl⟩ (cN _) λv ⟨a,b,c⟩=>?_
 refine lj (λhb=>lR λx0 _=>Cg (IS ?_)) λhb=>mo ?_
 ·have hb:=oY hb
  show(0<=wrap .i64 (v.1+1)/\wrap .i64 (v.1+1)<=128/\(v.2++[_]).length=(wrap .i64 (v.1+1)).toNat)/\(128-wrap .i64 (v.1+1)).toNat<(128-v.1).toNat
  rw[wi (by omega) (by omega)]
  refine⟨⟨by omega,by omega,?_⟩,by omega⟩
  rw[lA,c];simp;omega
 ·have hb:=oN hb
  show(bytesOf v.2).length=128
  unfold bytesOf
  rw[eX,c];omega
theorem qR(n:Int):(Ph n).w λr=>r.length=4/\∀b∈r,b.length=128:=by
 unfold Ph
 refine fj (inv:=λz:Int×List (List UInt8)=>∃i:Nat,z.1=i/\i<=4/\z.2.length=i/\∀b∈z.2,b.length=128) (μ:=Yr n) ⟨0,rfl,bC _,rfl,λb hb=>(by cases hb)⟩ (cN _) ?_
 rintro⟨_,y⟩ ⟨i,rfl,hi,hl,hb⟩
 simp only at hl hb
 refine ab (λbh=>?_) (λgl=>bj ?_)
 ·have bh:(i:Int)<4:=oY bh
  have ew:wrap .i64 ((i:Int)+1)=((i+1:Nat):Int):=by rw[wi (by omega) (by omega)];omega
  obtain⟨d1,d2⟩:=EV (wrap .i64 (n+(i:Int)))
  refine c6 d1 (aq λx0 h0=>ax (dY (by show 16*(y.length+1)<=_;omega)) (ei ⟨⟨i+1,ew,by omega,by simp;omega,λb rI=>?_⟩,by simp only[Yr,ew];omega⟩))
  rcases List.mem_append.1 rI with h|h
  ·exact hb b h
  ·rw[List.mem_singleton.1 h,h0];exact d2
 ·have gl:¬(i:Int)<4:=oN gl
  exact⟨by show y.length=4;omega,hb⟩
theorem Zqs{s:iO}(hb:s.ae.length=4)(hB:∀b∈s.ae,b.length=128)(hg:0<=s.D5/\s.D5<=2)(ho:s.D5=0->s.D7= -1)(ho2:0<s.D5->0<=s.D7):(Pj s).w λr=>r=true:=by
 unfold Pj
 refine ab (λh=>absurd (oY h) (by omega)) λ_=>ab (λh=>absurd (oY h) (by omega)) λ_=>ab (λh=>absurd (oY h) (by omega)) λ_=>ab (λh0=>ab (λh=>absurd (ho (bt h0)) (nt h)) (λ_=>ab (λh=>absurd (oY h) (by have:=bt h0;omega)) (λ_=>?_))) (λh0=>ab (λhp=>ab (λh=>absurd (oY h) (by have:=ho2 (oY hp);omega)) (λ_=>?_)) (λhp=>?_))
 all_goals
  refine fj (inv:=λz:Int=>∃i:Nat,z=i/\i<=s.ae.length) (μ:=Ys s) ⟨0,rfl,bC _⟩ (cN _) ?_
  rintro _ ⟨i,rfl,hi⟩
  refine ab (λbh=>?_) (λgl=>bj rfl)
  have bh:i<s.ae.length:=by simpa using bh
  have ew:wrap .i64 ((i:Int)+1)=((i+1:Nat):Int):=by rw[wi (by omega) (by omega)];omega
  refine ax (mU bh) (ab (λh=>?_) (λ_=>ei ⟨⟨i+1,ew,bh⟩,by simp only[Ys,ew];omega⟩))
  exfalso
  have e:s.ae.getD (dA (i:Int)) (RK.ed RK.str)=s.ae[i]:=by simp[aV,bh]
  rw[e,hB _ (eU bh)]at h
  cases h
theorem Zri{b:List (List UInt8)}(hb:b.length=4)(hB:∀x∈b,x.length=128):(Pk b).w λr=>r=(⟨b,0,-1⟩,true):=by
 unfold Pk
 refine ax (dY (by omega)) (cv (Zqs (s:=⟨b,0,-1⟩) hb hB ⟨eN 0,by show(0:Int)<=2;decide⟩ (λ_=>rfl) (λh=>absurd h (by show¬(0:Int)<0;decide))) λx hx=>?_)
 subst hx
 exact ab (λh=>by cases h) λ_=>bj rfl
theorem xR{b:List (List UInt8)}(hb:b.length=4)(hB:∀x∈b,x.length=128):(Pl ⟨b,0,-1⟩ 0 0).w λr=>r=(⟨b,1,0⟩,true):=by
 unfold Pl
 refine cv (Zqs (s:=⟨b,0,-1⟩) hb hB ⟨eN 0,by show(0:Int)<=2;decide⟩ (λ_=>rfl) (λh=>absurd h (by show¬(0:Int)<0;decide))) λx hx=>?_
 subst hx
 exact ab (λh=>by cases h) λ_=>ab (λh=>by cases h) λ_=>ab (λh=>by cases h) λ_=>ab (λh=>by cases h) λ_=>bj rfl
theorem qaJ{m:bg}(hm:gh 8 m){b:List (List UInt8)}(hb:b.length=4)(hB:∀x∈b,x.length=128):(Pm m ⟨b,1,0⟩).w λr=>r=(Cp m b,true):=by
 have hs:Ch ⟨b,1,0⟩:=⟨hb,hB,by show(1:Int)<=1;decide,by show(1:Int)<=2;decide,by show(0:Int)<=0;decide⟩
 have mp:jU m.Mem=((8:Nat):Int):=LD (P:=8) hm.mq.len (by decide)
 have ml:=hm.mq.len
 unfold Pm
 refine c6 (Tree.pp (xaa hm.ok.target.2)).1 (aq λx0 h0=>?_)
 have h0:x0=true:=h0.trans hm.may
 subst h0
 refine ab (λh=>by cases h) λ_=>cv (Zq6 hs) λx1 h1=>?_
 subst h1
 refine ab (λh=>by cases h) λ_=>ab (λh=>by cases h) λ_=>?_
 obtain⟨b1,b2⟩:=qan (P:=8) (by decide) (by decide)
 obtain⟨n1,n2⟩:=xaG (P:=8) (by decide) (by decide)
 have cm:(Cr m).w λr=>r=m:=by
  unfold Cr
  exact c6 (show m.Mem.length<=35184372088832 by omega) (aq λy hy=>by have hy:y=m.Mem:=hy;subst hy;exact bj rfl)
 refine aq λx2 h2=>?_
 have h2:x2=((8:Nat):Int):=h2.trans mp
 subst h2
 refine c6 b1 (aq λx3 h3=>?_)
 have h3:x3=(⟨cO 8 true,0,0⟩,true):=h3.trans b2
 subst h3
 refine ab (λh=>by cases h) λ_=>cv cm λx4 h4=>?_
 subst h4
 refine ax (by rw[dY (by decide)];rfl) (ax (by rw[dY (by decide)];rfl) (c6 n1 (aq λx5 h5=>c6 (show b.length<=1000000000000 by omega) (aq λx6 h6=>bj ?_))))
 have h5:x5=cO (32*8) 0:=h5.trans n2
 have h6:x6=b:=h6
 subst h5;subst h6
 rfl
theorem Zi7(kind:Int)(prog:List Int)(hl:prog.length*8<=reachBytes)(h60:prog.length<=60):(Pn kind prog).w λr=>∃m b,r=(Cp m b,m,true)/\gh 8 m/\b.length=4/\∀x∈b,x.length=128:=by
 unfold Pn
 have mg:=(Zls kind prog hl h60).1
 refine c6 (Tree.pp (Zn8 kind prog hl h60)).1 (aq λx0 h0=>?_)
 have h0:x0=TP kind prog:=h0
 rw[<-h0]at mg
 refine cv (qR 1) λx1 ⟨k1,k2⟩=>cv (Zri k1 k2) λx2 h2=>?_
 subst h2
 refine cv (xR k1 k2) λx3 h3=>?_
 subst h3
 refine cv (qaJ mg k1 k2) λx4 h4=>bj ?_
 subst h4
 exact⟨x0,x1,rfl,mg,k1,k2⟩
theorem xar(n k:Int):0<=Ui n k:=by
 show Tree.V (Uj n k) (λx=>0<=x)
 unfold Uj
 refine lR λx hx=>mo ?_
 have r:0<=x.1/\x.1<18446744073709551616:=by
  rw[hx]
  show 0<=wrap .u64 _/\wrap .u64 _<_
  rw[wrap_u64];omega
 show 0<=wrap .i64 (x.1.fdiv 2)
 rw[Int.fdiv_eq_ediv_of_nonneg _ (by decide),wrap_i64];omega
theorem Po(a:Int):0<=bb .i64 a 1/\bb .i64 a 1<2:=by
 have h:(dR 64 a&&&dR 64 1).toNat<=1:=by
  rw[BitVec.toNat_and];exact Nat.and_le_right
 show 0<=wrap .i64 ((dR 64 a&&&dR 64 1).toNat:Int)/\wrap .i64 ((dR 64 a&&&dR 64 1).toNat:Int)<2
 rw[wi (by omega) (by omega)];omega
theorem zaJ{x:Int}(h:0<=x)(k:Int):0<=bc .i64 x k:=by
 unfold bc
 exact Int.fdiv_nonneg h (Int.le_of_lt (Int.pow_pos (by decide)))
theorem Zrr(n:Int):(Pp n).w λa=>U a.D8:=by
 unfold Pp
 refine aq λx0 h0=>?_
 have x0p:0<=x0:=by rw[h0];exact xar n 12
 have s0:=zaJ x0p 8
 have t0:=Int.tmod_nonneg 6 s0
 have t1:=Int.tmod_lt_of_pos (bc .i64 x0 8) (b:=6) (by decide)
 have a1:=Po (bc .i64 x0 8)
 repeat'(first
  |exact bj (fp _)
  |refine ax (Bool.and_eq_true_iff.2 ⟨rfl,dY a1⟩) ?_
  |refine ax (Bool.and_eq_true_iff.2 ⟨rfl,dY ⟨t0,t1⟩⟩) ?_
  |refine ab (λ_=>?_) (λ_=>?_))
theorem GS(a:bg)(ha:a.Mem.length<=1000000000000):(Pq a a).w (λb=>b=true):=by
 have Yt:∀s:List Int,s.length<=1000000000000->Pr s s=true:=λs hb=>by
  have h:(I3 s s).w λr=>r=true:=by
   unfold I3
   refine ab (λh=>by simp at h) (λ_=>?_)
   refine fj (inv:=λz:Int=>∃i:Nat,z=i/\i<=s.length) (μ:=I4 s s) ⟨0,rfl,bC _⟩ (cN _) ?_
   rintro _ ⟨i,rfl,hi⟩
   refine ab (λbh=>?_) (λgl=>bj rfl)
   have bh:i<s.length:=by simpa using bh
   have ew:wrap .i64 ((i:Int)+1)=((i+1:Nat):Int):=by rw[wi (by omega) (by omega)];omega
   refine ax (mU bh) (ax (mU bh) (ab (λh=>by simp at h) (λ_=>ei ⟨⟨i+1,ew,bh⟩,by simp only[I4,ew];omega⟩)))
  exact(Tree.pp (W:=λr=>r=true) h).2
 unfold Pq
 repeat'(first
  |refine ab (λ_=>?_) (λh=>absurd h (by simp[eqs,Ps];done))
  |exact c6 ha (aq λx hx=>by rw[hx];exact Yt _ ha)
  |refine c6 ha (aq λx hx=>ab (λ_=>?_) (λh=>by rw[hx,Yt _ ha]at h;cases h))
  |exact rfl)
 all_goals(show(_==_)=true;simp)
theorem zR{m:bg}(h:Inv nc m g)(hk:True){l:List jt}(hl:l.length<=200)(hu:∀a∈l,U a.D8)(hn:nc=true->∀a∈l,a.C2≠10)(h1:∀a∈l,a.C2≠1):(Pt g l).w λr=>r=oO g l/\Inv nc m r:=by
 unfold Pt
 refine cv (Yp h.1) λx0 h0=>?_
 subst h0
 refine fj (inv:=λz:Int×dk=>∃i:Nat,z.1=i/\i<=l.length/\z.2=oO x0 (l.take i)/\Inv nc m z.2) (μ:=Yu x0 l) ⟨0,rfl,bC _,rfl,h⟩ (cN _) ?_
 rintro⟨_,y⟩ ⟨i,rfl,hi,hy,hI⟩
 simp only at hy hI
 refine ab (λbh=>?_) (λgl=>bj ?_)
 ·have bh:i<l.length:=by have:(i:Int)<(l.length:Int):=oY bh;omega
  have ew:wrap .i64 ((i:Int)+1)=((i+1:Nat):Int):=by rw[wi (by omega) (by omega)];omega
  have eg:l.getD (dA (i:Int)) (RK.ed RK.aw)=l[i]:=by simp[aV,bh]
  have am:l[i]∈l:=eU bh
  refine ax (by rw[dY (show 0<=(i:Int)/\(i:Int)<(l.length:Int) by omega)];rfl) (ab (λh2=>?_) λ_=>?_)
  ·exfalso
   have h2:(i:Int)=200:=bt h2
   omega
  rw[eg]
  refine cv (wz hI.1 (hu _ am)) λx1 e1=>ei ⟨⟨i+1,ew,bh,?_,?_⟩,by simp only[Yu,ew];omega⟩
  ·show x1.1=_
   rw[e1,hy,LR bh,OP];rfl
  ·show Inv nc m x1.1
   rw[e1]
   have:=qq hI (hu _ am) (λe=>hn e _ am)
   have eq:LO m y l[i]=m:=if_neg (λq=>h1 _ am q.1)
   rwa [eq]at this
 ·have gl:¬(i:Int)<(l.length:Int):=oN gl
  have:i=l.length:=by omega
  subst this
  rw[fG]at hy
  exact⟨hy,hI⟩
theorem LV(g:dk):DR g=jj g:=by
 unfold jj
 simp only[DR,Uf,Tree.m]
 by_cases h1:g.A1.A4=1
 ·simp[h1]
 ·by_cases h3:g.A1.A4=3
  ·simp[h3]
  ·by_cases ht:g.A2.A4=3
   ·simp[beq_false_of_ne h1,beq_false_of_ne h3,h1,h3,ht]
   ·simp[beq_false_of_ne h1,beq_false_of_ne h3,beq_false_of_ne ht,h1,h3,ht]
theorem Z90(ok:ga g):(Pu g).w λr=>(jj g=0->r=(g.A1.A0,true))/\(jj g=1->r=(g.A2.A0,true))/\(jj g<0->r.2=false):=by
 obtain⟨l1,l2⟩:=ok.O9
 have cm:∀m:bg,m.Mem.length<=1024->(Cr m).w λr=>r=m:=λm hm=>by
  unfold Cr
  exact c6 (show m.Mem.length<=35184372088832 by omega) (aq λy hy=>by have hy:y=m.Mem:=hy;subst hy;exact bj rfl)
 unfold Pu
 refine aq λx0 h0=>?_
 have h0:x0=jj g:=h0.trans (LV g)
 subst h0
 refine ab (λh=>cv (cm _ l1) λy hy=>bj ?_) λh=>ab (λh1=>cv (cm _ l2) λy hy=>bj ?_) λh1=>bj ?_
 ·have h:=bt h
  rw[hy]
  exact⟨λ_=>rfl,λq=>by omega,λq=>by omega⟩
 ·have h1:=bt h1
  rw[hy]
  exact⟨λq=>by omega,λ_=>rfl,λq=>by omega⟩
 ·exact⟨λq=>absurd q (bf h),λq=>absurd q (bf h1),λ_=>rfl⟩
theorem qas:(Pv).w λr=>r=Cq:=by
 unfold Pv
 refine fj (inv:=λz:Int×List jt=>∃i:Nat,z.1=i/\i<=64/\z.2=jm 2 0::jm 3 32::cO i (jm 5 0)) (μ:=Yv) ⟨0,rfl,bC _,rfl⟩ (cN _) ?_
 rintro⟨_,y⟩ ⟨i,rfl,hi,hy⟩
 simp only at hy
 have yl:y.length=i+2:=by rw[hy];simp
 refine ab (λbh=>?_) (λgl=>ax (dY (by show 24*(y.length+1)<=_;omega)) (bj ?_))
 ·have bh:(i:Int)<64:=oY bh
  have ew:wrap .i64 ((i:Int)+1)=((i+1:Nat):Int):=by rw[wi (by omega) (by omega)];omega
  refine ax (dY (by show 24*(y.length+1)<=_;omega)) (ei ⟨⟨i+1,ew,by omega,?_⟩,by simp only[Yv,ew];omega⟩)
  show y++[jm 5 0]=_
  rw[hy,eR];rfl
 ·have gl:¬(i:Int)<64:=oN gl
  have:i=64:=by omega
  subst this
  show y++[jm 8 0]=_
  rw[hy];rfl
theorem Yw:∀a∈Cq,U a.D8/\a.C2≠10/\a.C2≠1:=by
 intro a ha
 have k:∀x y:Int,x≠10->x≠1->U (jm x y).D8/\(jm x y).C2≠10/\(jm x y).C2≠1:=λx y h1 h2=>⟨⟨eN 0,by show(0:Int)<4294967296;decide⟩,h1,h2⟩
 unfold Cq at ha
 rcases List.mem_cons.1 ha with rfl|ha
 ·exact k _ _ (by decide) (by decide)
 rcases List.mem_cons.1 ha with rfl|ha
 ·exact k _ _ (by decide) (by decide)
 rcases List.mem_append.1 ha with ha|ha
 ·rw[eS ha];exact k _ _ (by decide) (by decide)
 ·rw[List.mem_singleton.1 ha];exact k _ _ (by decide) (by decide)
theorem Zse:Cq.length=67:=by
 unfold Cq
 simp only[dD,lA,cS,dE]
theorem v7:Pw.w λr=>r=true:=by
 unfold Pw
 refine cv (Zi7 2 [0] (by decide) (by decide)) λx0 ⟨m,b,e,hm,k1,k2⟩=>?_
 subst e
 have calm:=qQ hm k1 k2
 refine ab (λh=>by cases h) λ_=>aq λx1 h1=>?_
 have h1:x1=0:=h1.trans ((LV _).trans (LP (.inl rfl)))
 subst h1
 refine ab (λh=>by cases h) λ_=>cv qas λx2 h2=>?_
 subst h2
 refine cv (zR calm.inv trivial (by rw[Zse];decide) (λa ha=>(Yw a ha).1) (λ_ a ha=>(Yw a ha).2.1) (λa ha=>(Yw a ha).2.2)) λx3 ⟨e3,i3⟩=>?_
 obtain⟨_,q2,q3,q4,q5⟩:=EU calm (by decide)
 rw[<-e3]at q2 q3 q4 q5
 refine cv (Z90 i3.1) λx4 ⟨_,m2,_⟩=>?_
 have m2:=m2 q2
 subst m2
 refine cv (wz i3.1 (a:={C2:=99,N:=0,C1:=false,D8:=0}) ⟨by decide,by decide⟩) λx5 h5=>aq λx6 h6=>?_
 have h6:x6=1:=h6.trans ((LV _).trans q2)
 subst h6
 have h5:x5.2=false:=by rw[h5];rfl
 refine ab (λ_=>ab (λ_=>?_) (λh=>by cases h)) (λh=>by cases h)
 show(Tree.an (Px x3.A2.A0 m) _).w _
 rw[q3]
 have ml:=hm.mq.len
 refine cv (GS m (by omega)) λx7 h7=>ab (λ_=>bj ?_) (λh=>by rw[h7]at h;cases h)
 rw[h5];rfl
theorem Py{W:Bool->Prop}(h:W true):(Tree.an I5 (.lv I6 λx=>.lf x)).w W:=by
 have a:=Tree.pp v7
 exact c6 a.1 (aq λx hx=>bj (by rw[show x=true from hx.trans a.2];exact h))
theorem EW{m:bg}(g:gh 8 m)(hc:U clock):Qpf m clock/\Ot m clock=Ba m clock:=by
 refine⟨?_,(Zk2 g.v clock).symm⟩
 have:(LC m clock).w (λ_=>True):=by
  unfold LC
  refine cv (zY g.ok) λx0 ⟨o,_⟩=>?_
  exact c6 (Tree.pp (zaz x0)).1 (aq λx1 _=>ab (λ_=>trivial) λ_=>c6 (Tree.pp (WO o hc)).1 (aq λ_ _=>trivial))
 exact(Tree.pp this).1
theorem Pz{β:Type}{W:β->Prop}{f:Bool->β}(h:W (f true)):(Tree.an I5 (.lv I6 λx=>.lf (f x))).w W:=by
 have a:=Tree.pp v7
 exact c6 a.1 (aq λx hx=>bj (by rw[show x=true from hx.trans a.2];exact h))
theorem Zq3{m:bg}{a:jt}(h:¬(a.C2=1/\0<=jj g)):LO m g a=m:=if_neg h
theorem qu{m:bg}{a:jt}(h1:a.C2=1)(h2:0<=jj g):LO m g a=ll m a.D8 (runN a.N):=if_pos ⟨h1,h2⟩
theorem xu{n:Int}:(k:Int)<(if 64<n then 64 else n)↔k<runN n:=by
 unfold runN
 split<;>omega
theorem zas(n:Int):runN n<=64:=by unfold runN;omega
theorem xaJ{m:bg}(h:Inv nc m g)(hk:True){l:List jt}(hl:l.length<=200)(hu:∀a∈l,U a.D8)(hn:nc=true->∀a∈l,a.C2≠10)(h1:∀a∈l,a.C2≠1):(PA g l).w λr=>r=oO g l/\Inv nc m r:=by
 unfold PA
 refine cv (Yp h.1) λx0 h0=>?_
 subst h0
 refine fj (inv:=λz:Int×dk=>∃i:Nat,z.1=i/\i<=l.length/\z.2=oO x0 (l.take i)/\Inv nc m z.2) (μ:=Yx x0 l) ⟨0,rfl,bC _,rfl,h⟩ (cN _) ?_
 rintro⟨_,y⟩ ⟨i,rfl,hi,hy,hI⟩
 simp only at hy hI
 refine ab (λbh=>?_) (λgl=>bj ?_)
 ·have bh:i<l.length:=by have:(i:Int)<(l.length:Int):=oY bh;omega
  have ew:wrap .i64 ((i:Int)+1)=((i+1:Nat):Int):=by rw[wi (by omega) (by omega)];omega
  have eg:l.getD (dA (i:Int)) (RK.ed RK.aw)=l[i]:=by simp[aV,bh]
  have am:l[i]∈l:=eU bh
  refine ax (by rw[dY (show 0<=(i:Int)/\(i:Int)<(l.length:Int) by omega)];rfl) (ab (λh2=>?_) λ_=>?_)
  ·exfalso
   have h2:(i:Int)=200:=bt h2
   omega
  rw[eg]
  refine cv (wz hI.1 (hu _ am)) λx1 e1=>ei ⟨⟨i+1,ew,bh,?_,?_⟩,by simp only[Yx,ew];omega⟩
  ·show x1.1=_
   rw[e1,hy,LR bh,OP];rfl
  ·show Inv nc m x1.1
   rw[e1]
   have:=qq hI (hu _ am) (λe=>hn e _ am)
   have eq:LO m y l[i]=m:=if_neg (λq=>h1 _ am q.1)
   rwa [eq]at this
 ·have gl:¬(i:Int)<(l.length:Int):=oN gl
  have:i=l.length:=by omega
  subst this
  rw[fG]at hy
  exact⟨hy,hI⟩
theorem Yy:∀a∈DP,U a.D8/\a.C2≠10/\a.C2≠1:=by
 intro a ha
 have k:∀x y:Int,x≠10->x≠1->U (jm x y).D8/\(jm x y).C2≠10/\(jm x y).C2≠1:=λx y h1 h2=>⟨⟨eN 0,by show(0:Int)<4294967296;decide⟩,h1,h2⟩
 unfold DP at ha
 rcases List.mem_append.1 ha with ha|ha
 ·rw[eS ha];exact k _ _ (by decide) (by decide)
 rcases List.mem_cons.1 ha with rfl|ha
 ·exact k _ _ (by decide) (by decide)
 rcases List.mem_append.1 ha with ha|ha
 ·rw[eS ha];exact k _ _ (by decide) (by decide)
 rcases List.mem_cons.1 ha with rfl|ha
 ·exact k _ _ (by decide) (by decide)
 ·rw[List.mem_singleton.1 ha];exact k _ _ (by decide) (by decide)
theorem zu:DP.length=131:=by
 unfold DP
 simp only[dD,lA,cS,dE]
theorem yR(hi:i=64)(hj:j=64):(cO i (jm 6 0)++[jm 4 0])++cO j (jm 5 0)++[jm 8 0,jm 9 0]=DP:=by
 unfold DP
 rw[hi,hj]
 simp only[aM,eO,List.cons_append,List.nil_append]
theorem Zq8{α:Type}{W:α->Prop}{n:bg}(hI:Inv true n g)(hr:0<=jj g)(gn:gh 8 n){f:Bool->α}(hW:W (f true)):
 (Tree.an (Uk g) (.lv (Ul g) λy=>.br y.2 (.an (Px y.1 n) (.lv (Um y.1 n) λz=>.br z (.an I5 (.lv I6 λu=>.lf (f u))) (.lf (f false)))) (.lf (f false)))).w W:=by
 have q:=Tree.pp (Z90 hI.1)
 refine c6 q.1 (aq λy hy=>?_)
 obtain⟨q1,q2,q3⟩:(jj g=0->y=(g.A1.A0,true))/\(jj g=1->y=(g.A2.A0,true))/\(jj g<0->y.2=false):=by rw[hy];exact q.2
 have ml:=gn.mq.len
 have ey:y=(n,true):=by
  rcases seen hI hr with⟨a,b⟩|⟨a,b⟩
  ·rw[q1 a,b]
  ·rw[q2 a,b]
 subst ey
 exact ab (λ_=>cv (GS n (by omega)) λz hz=>ab (λ_=>Pz hW) (λh=>by rw[hz]at h;cases h)) (λh=>by cases h)
theorem PB(kind:Int)(prog l:List Int)(hl:prog.length*8<=reachBytes):(Q6 kind prog l).w λr=>r=true:=by
 unfold Q6
 refine ab (λ_=>Py rfl) (λh1=>ab (λ_=>Py rfl) (λh2=>?_))
 have h1:=oN h1
 have h2:=oN h2
 refine cv (Zi7 kind prog hl (by omega)) λx2 ⟨m,b,e,hm,k1,k2⟩=>?_
 subst e
 refine ab (λh=>by cases h) λ_=>?_
 refine fj (inv:=λz:Int×dk×bg=>∃i:Nat,z.1=i/\i<=l.length/\gh 8 z.2.2/\Inv true z.2.2 z.2.1) (μ:=PC kind prog l) ⟨0,rfl,bC _,hm,Zqv hm k1 k2,.inl (wy hm b)⟩ (cN _) ?_
 rintro⟨_,g,n⟩ ⟨i,rfl,hi,gn,hI⟩
 simp only at gn hI
 refine ab (λbh=>?_) (λgl=>?_)
 ·have bh:i<l.length:=by have:(i:Int)<(l.length:Int):=oY bh;omega
  have ew:wrap .i64 ((i:Int)+1)=((i+1:Nat):Int):=by rw[wi (by omega) (by omega)];omega
  refine ax (mU bh) (cv (Zrr _) λx3 hU=>?_)
  have nx:∀g' n',gh 8 n'->Inv true n' g'->(∃j:Nat,wrap .i64 ((i:Int)+1)=j/\j<=l.length/\gh 8 n'/\Inv true n' g')/\PC kind prog l (wrap .i64 ((i:Int)+1),g',n')<PC kind prog l ((i:Int),g,n):=λg' n' a b=>
   ⟨⟨i+1,ew,bh,a,b⟩,by simp only[PC,ew];omega⟩
  refine ab (λ_=>ei (nx _ _ gn hI)) λON=>?_
  have I2:=qq hI hU (λ_=>bf ON)
  have fin:∀n',gh 8 n'->Inv true n' (wx g x3).1->∀{α:Type} {W:α->Prop} {K:dk×Bool->Tree α},(K (wx g x3)).w W->(Tree.an (LW g x3) (.lv (LX g x3) K)).w W:=λ_ _ _ _ _ _ hK=>cv (wz hI.1 hU) λx hx=>by rw[hx];exact hK
  refine ab (λhk=>aq λx4 h4=>ab (λhr=>?_) (λhr=>?_)) (λhk=>?_)
  ·have hr:0<=jj g:=by
    have:x4>=0:=oY hr
    rw[show x4=jj g from h4.trans (LV g)]at this;exact this
   rw[qu (bt hk) hr]at I2
   refine fj (inv:=λz:Int×bg=>∃k:Nat,z.1=k/\k<=runN x3.N/\z.2=ll n x3.D8 k) (μ:=λz=>(100-z.1).toNat) ⟨0,rfl,bC _,rfl⟩ (by simp only[Qep];omega) ?_
   rintro⟨_,y⟩ ⟨k,rfl,pW,hy⟩
   simp only at hy
   subst hy
   have gy:=GO gn hU k
   have r64:=zas x3.N
   refine ab (λI7=>?_) (λYz=>?_)
   ·have I7:k<runN x3.N:=xu.1 (oY I7)
    have ek:wrap .i64 ((k:Int)+1)=((k+1:Nat):Int):=by rw[wi (by omega) (by omega)];omega
    obtain⟨p,q⟩:=EW gy hU
    refine c6 p (aq λx5 h5=>ei ⟨⟨k+1,ek,I7,?_⟩,by show(100-wrap .i64 ((k:Int)+1)).toNat<(100-(k:Int)).toNat;rw[ek];omega⟩)
    show x5.1=_
    rw[show x5=Ba (ll n x3.D8 k) x3.D8 from h5.trans q];rfl
   ·have:k=runN x3.N:=by
     have:¬k<runN x3.N:=λh=>oN Yz (xu.2 h)
     omega
    subst this
    exact fin _ gy I2 (ei (nx _ _ gy I2))
  ·have hr:¬0<=jj g:=by
    have:¬x4>=0:=oN hr
    rw[show x4=jj g from h4.trans (LV g)]at this;exact this
   rw[Zq3 (λq=>hr q.2)]at I2
   exact fin _ gn I2 (ei (nx _ _ gn I2))
  ·rw[Zq3 (λq=>bf hk q.1)]at I2
   exact fin _ gn I2 (ei (nx _ _ gn I2))
 ·refine aq λx9 h9=>?_
  have h9:x9=jj g:=h9.trans (LV g)
  subst h9
  refine ab (λhr=>?_) (λhr=>Zq8 hI (by have:=oN hr;omega) gn rfl)
  have hr:jj g<0:=oY hr
  refine fj (inv:=λz:Int×List jt=>∃i:Nat,z.1=i/\i<=64/\z.2=cO i (jm 6 0)) (μ:=YA kind prog l) ⟨0,rfl,bC _,rfl⟩ (cN _) ?_
  rintro⟨_,y⟩ ⟨j,rfl,hj,hy⟩
  simp only at hy
  have yl:y.length=j:=by rw[hy];simp
  refine ab (λbh=>?_) (λgl=>?_)
  ·have bh:(j:Int)<64:=oY bh
   have ej:wrap .i64 ((j:Int)+1)=((j+1:Nat):Int):=by rw[wi (by omega) (by omega)];omega
   refine ax (dY (by show 24*(y.length+1)<=_;omega)) (ei ⟨⟨j+1,ej,by omega,?_⟩,by simp only[YA,ej];omega⟩)
   show y++[jm 6 0]=_
   rw[hy,eR]
  ·have gl:¬(j:Int)<64:=oN gl
   have j64:j=64:=by omega
   refine ax (dY (by show 24*(y.length+1)<=_;omega)) ?_
   refine fj (inv:=λz:Int×List jt=>∃i:Nat,z.1=i/\i<=64/\z.2=(cO j (jm 6 0)++[jm 4 0])++cO i (jm 5 0)) (μ:=YC kind prog l) ⟨0,rfl,bC _,by show y++[jm 4 0]=_;rw[hy];simp⟩ (cN _) ?_
   rintro⟨_,v⟩ ⟨k,rfl,hk,hv⟩
   simp only at hv
   have vl:v.length=j+1+k:=by rw[hv];simp;omega
   refine ab (λbh=>?_) (λgl=>?_)
   ·have bh:(k:Int)<64:=oY bh
    have ek:wrap .i64 ((k:Int)+1)=((k+1:Nat):Int):=by rw[wi (by omega) (by omega)];omega
    refine ax (dY (by show 24*(v.length+1)<=_;omega)) (ei ⟨⟨k+1,ek,by omega,?_⟩,by simp only[YC,ek];omega⟩)
    show v++[jm 5 0]=_
    rw[hv,eR,aM]
   ·have gl:¬(k:Int)<64:=oN gl
    have k64:k=64:=by omega
    have ve:v++[jm 8 0,jm 9 0]=DP:=by rw[hv];exact yR j64 k64
    refine ax (dY (by show 24*(v.length+2)<=_;omega)) ?_
    show(Tree.an (YD g (v++[jm 8 0,jm 9 0])) (.lv (YE g (v++[jm 8 0,jm 9 0])) _)).w _
    rw[ve]
    refine cv (xaJ hI trivial (by rw[zu];decide) (λa ha=>(Yy a ha).1) (λ_ a ha=>(Yy a ha).2.1) (λa ha=>(Yy a ha).2.2)) λx9 ⟨e9,i9⟩=>?_
    obtain⟨_,q⟩:=IZ hI hr
    rw[<-e9]at q
    exact Zq8 i9 (by rw[q];decide) gn rfl

import Derived.Test.YtaemmjbkndlkeaaGreatMigrateStartsFin1
open List renaming drop_eq_getElem_cons->aO,getElem?_eq_getElem->aI,length_cons->dD,drop_eq_nil_of_le->aN,append_assoc->aM,replicate->cO,set_append_right->eQ,replicate_succ->eR,replicate_succ'->eS,getD->aV,length_singleton->cY,length_replicate->cS,eq_of_mem_replicate->eT,ext_getElem->bR,mem_append_left->eU,getD_eq_getElem?_getD->cX,getElem?_eq_none->aJ,getElem_mem->eV,mem_cons_self->eW,mem_cons_of_mem->eX,length_set->dC,mem_cons->cQ,length_map->eY,length_take->aD,mem_append_right->eZ,getElem?_replicate->fA,foldl_append->fD,take_of_length_le->fE,not_mem_nil->cR
open Nat renaming beq->bX,blt->bN,zero_le->bC,lt_succ_self->cN,not_lt_zero->fG
open Int renaming toNat_natCast->dX,le_refl->eN,tmod_eq_emod_of_nonneg->dZ,tdiv_eq_ediv_of_nonneg->eG,toNat->dA,NonNeg->fF
open Bool renaming cond_false_right->eO,false_ne_true->fB,true_eq_false->fC
set_option maxRecDepth 100000
set_option linter.all false
namespace Go.Proofs.YtaemmjbkndlkeaaGreat
open Go Go.GD
open Go.IntKind(wrap i64 u32 wrap_i64 wrap_u64)
variable {Dd:List Bool}{P f i k n:Nat}{a b fs:List Int}{clock host:Int}{es:List D}{g:dv}{l xs:List fi}{nc:Bool}{x:fi}
def ig:List Bool->Int->List Int
 |[],_=>[]
 |b::l,k=>if b=true then k::ig l (k+1)else ig l (k+1)
theorem Uj:∀(l:List Bool) (k:Int),(ig l k).length<=l.length
 |[],_=>Nat.le_refl _
 |b::l,k=>by
  have:=Uj l (k+1)
  simp only[ig];split<;>(try simp)<;>omega
theorem OW:∀{l:List Bool} {k x:Int},x∈ig l k->k<=x/\x<k+l.length
 |[],_,_,h=>by simp[ig]at h
 |b ::l,k,x,h=>by
  simp only[ig]at h
  have go:x∈ig l (k+1)->k<=x/\x<k+(b::l).length:=λh=>by
   have:=OW h;simp;omega
  split at h
  ·rcases List.mem_cons.1 h with e|e
   ·subst e;simp;omega
   ·exact go e
  ·exact go h
theorem vk{l:List Bool}(h:i<l.length):l.drop i=l.getD i false::l.drop (i+1):=by
 rw[aO h]
 show _=(l[i]?).getD false::_
 rw[aI h];rfl
theorem ql{l:List Bool}(h:i<l.length)(hb:l.getD i false=true)(k:Int):ig (l.drop i) k=k::ig (l.drop (i+1)) (k+1):=by
 rw[vk h,ig,if_pos hb]
theorem v8{l:List Bool}(h:i<l.length)(hb:l.getD i false=false)(k:Int):ig (l.drop i) k=ig (l.drop (i+1)) (k+1):=by
 rw[vk h,ig,if_neg (by rw[hb];simp)]
theorem wi{x:Int}(h0: -9223372036854775808<=x)(h1:x<=9223372036854775807):wrap .i64 x=x:=by rw[wrap_i64];omega
theorem jR(h:i<n):(bX 1 1&&bN 0 1&&decide (0<=(i:Int)/\(i:Int)<(n:Int)))=true:=by
 rw[dY (by omega)];rfl
theorem zao{n:Int}{l:List Bool}(h0:0<=n)(hb:n+l.length<=1000000000000):(OX n l).w λr=>r=(n+(ig l 0).length,l):=by
 unfold OX
 refine eu (inv:=λz:Int×Int=>∃i:Nat,z.1=i/\i<=l.length/\0<=z.2/\z.2<=n+i/\z.2+(ig (l.drop i) i).length=n+(ig l 0).length) (μ:=Uk n l) ⟨0,rfl,bC _,h0,by simp,by simp⟩ (cN _) ?_
 rintro⟨_,x⟩ ⟨i,rfl,hi,nP,hx,hs⟩
 simp only at nP hx hs
 refine ae (λbd=>?_) (λfx=>?_)
 ·have bd:i<l.length:=by simpa using bd
  have ew:wrap .i64 ((i:Int)+1)=((i+1:Nat):Int):=by rw[wi (by omega) (by omega)];omega
  refine av (jR bd) (ae (λBg=>?_) (λBg=>?_))
  ·rw[dX]at Bg
   refine aq λy hy=>?_
   have hy:y=(true,wrap .i64 (x+1)):=hy
   rw[wi (by omega) (by omega)]at hy
   subst hy
   refine ae (λh=>by cases h) (λ_=>ee ?_)
   refine⟨⟨i+1,ew,bd,by show 0<=x+1;omega,by show x+1<=_;omega,?_⟩,?_⟩
   ·rw[ql bd Bg]at hs
    simp only[dD]at hs
    show x+1+((ig (l.drop (i+1)) ((i+1:Nat):Int)).length:Int)=_
    have:((i+1:Nat):Int)=(i:Int)+1:=by omega
    rw[this];omega
   ·simp only[Uk,ew];omega
  ·rw[dX]at Bg
   refine ee ⟨⟨i+1,ew,bd,nP,by show x<=_;omega,?_⟩,?_⟩
   ·rw[v8 bd Bg]at hs;simpa using hs
   ·simp only[Uk,ew];omega
 ·have fx:l.length<=i:=by simpa using fx
  rw[aN fx]at hs
  refine ba ?_
  show((x,l):Int×List Bool)=_
  rw[<-hs];simp[ig]
theorem yN{c:fu}(hb:c.B0.length<=1000000000000):Yv c/\Ul c=(ig c.B0 0).length:=by
 have h1:=Tree.pp (zao (n:=0) (l:=c.B0) (eN _) (by omega))
 have h4:(OY c).w λr=>r=(ig c.B0 0).length:=by
  unfold OY
  refine aq λ_ _=>cg h1.1 (aq λy hy=>ba ?_)
  have hy:y=Um 0 c.B0:=hy
  have e:Um 0 c.B0=(0+((ig c.B0 0).length:Int),c.B0):=h1.2
  rw[hy,e];simp
 exact Tree.pp h4
theorem L9{m:List Int}(hl:m.length=32*P)(hp:P<=32):jP m=P:=by
 simp only[jP,GF,Tree.m,hl]
 have e1:Int.tmod ((32*P:Nat):Int) 32=0:=by rw[dZ (by omega)];omega
 have e2:Int.tdiv ((32*P:Nat):Int) 32=P:=by rw[eG (by omega)];omega
 rw[e1,e2,dN (by omega),wi (by omega) (by omega)];rfl
theorem xl{m:List Int}(h:jP m=P)(h1:1<=P):m.length=32*P/\P<=32:=by
 simp only[jP,GF,Tree.m]at h
 rw[dZ (by omega),eG (by omega)]at h
 cases hb:(((m.length:Int)%32 !=0):Bool)with
 |true=>rw[hb]at h;simp only[cond_true]at h;omega
 |false=>
  rw[hb]at h
  simp only[cond_false]at h
  have hb:(m.length:Int)%32=0:=by simpa using hb
  cases hc:decide ((m.length:Int)>1024)with
  |true=>rw[hc]at h;simp only[cond_true]at h;omega
  |false=>
   rw[hc]at h
   simp only[cond_false]at h
   have hc:(m.length:Int)<=1024:=by simpa using hc
   rw[wi (by omega) (by omega)]at h
   omega
theorem Zrx{m:List Int}(hl:m.length=32*P)(hp:P<=32){f:Int}(f0:0<=f)(f1:f<P):OZ m f:=by
 show(DJ m f).p
 have hh:EC m f=true:=by
  simp only[EC,Ld,Tree.m,eh,L9 hl hp]
  rw[dY (by omega:f>=0),dY f1];rfl
 have e1:wrap .i64 (f*32)=f*32:=wi (by omega) (by omega)
 have e2:wrap .i64 (f*32+32)=f*32+32:=wi (by omega) (by omega)
 unfold DJ
 refine aq λx hx=>?_
 rw[hh]at hx;subst hx
 refine ae (λh=>by cases h) (λ_=>?_)
 rw[e1,e2]
 refine av (by rw[dY (by rw[hl];omega)];rfl) (cg ?_ (aq λ_ _=>ba trivial))
 show List.length _<=1000000000000
 simp;omega
def mJ(m l:List Int):List lh:=l.map λf=>⟨f,(jG m f).1⟩
theorem xao{m:List Int}(hl:m.length=32*P)(hp:P<=32){d:List Bool}(hd:d.length=P):(O0 m [] d).w λr=>r=(m,mJ m (ig d 0),d):=by
 unfold O0
 refine eu (inv:=λz:Int×List Int×List lh=>∃i:Nat,z.1=i/\i<=d.length/\z.2.1=m/\z.2.2.length<=i/\z.2.2++mJ m (ig (d.drop i) i)=mJ m (ig d 0)) (μ:=Un m [] d) ⟨0,rfl,bC _,rfl,by simp,by simp⟩ (cN _) ?_
 rintro⟨_,_,x⟩ ⟨i,rfl,hi,hm,hx,hs⟩
 simp only at hm hx hs
 subst hm
 refine ae (λbd=>?_) (λfx=>?_)
 ·have bd:i<d.length:=by simpa using bd
  have ew:wrap .i64 ((i:Int)+1)=((i+1:Nat):Int):=by rw[wi (by omega) (by omega)];omega
  refine av (jR bd) (ae (λBg=>?_) (λBg=>?_))
  ·rw [dX]at Bg
   refine cg (?_:(Uo i _ x).p) (aq λy hy=>?_)
   ·exact cg (Zrx hl hp (by omega) (by omega)) (aq λ_ _=>av (dY (by omega)) (ba trivial))
   ·have hy:y=(true,_,x++[⟨(i:Int),(jG _ i).1⟩]):=hy
    subst hy
    refine ae (λh=>by cases h) (λ_=>ee ?_)
    refine⟨⟨i+1,ew,bd,rfl,by simp;omega,?_⟩,?_⟩
    ·rw[ql bd Bg]at hs
     simp only[aM,List.singleton_append]
     rw[<-hs];simp[mJ]
    ·simp only[Un,ew];omega
  ·rw[dX]at Bg
   refine ee ⟨⟨i+1,ew,bd,rfl,by show x.length<=_;omega,?_⟩,?_⟩
   ·rw[v8 bd Bg]at hs;simpa using hs
   ·simp only[Un,ew];omega
 ·have fx:d.length<=i:=by simpa using fx
  rw[aN fx]at hs
  refine ba ?_
  show((_,x,d):List Int×List lh×List Bool)=_
  rw[<-hs];simp[ig,mJ]
def uA(c:fu)(m:List Int):fu×List lh:=
 if uB c=true/\c.B9<=10/\jP m=c.B0.length then
  ({B0:=cO c.B0.length false,B9:=wrap .i64 (c.B9+1),D7:=wrap .i64 (c.D7+(ig c.B0 0).length)},mJ m (ig c.B0 0))
 else(c,[])
theorem Zlm{c:fu}(h:uB c=true):1<=c.B0.length/\c.B0.length<=32/\0<=c.B9/\c.B9<=11/\0<=c.D7/\c.D7<=352:=by
 simp only[uB,Up,Tree.m,eO,aE,decide_eq_true_eq]at h
 omega
theorem Zkr{c:fu}:uB c=decide (1<=c.B0.length/\c.B0.length<=32/\0<=c.B9/\c.B9<=11/\0<=c.D7/\c.D7<=352):=by
 cases h:uB c with
 |true=>exact(dY (Zlm h)).symm
 |false=>
  refine(dN λhh=>?_).symm
  have:uB c=true:=by
   simp only[uB,Up,Tree.m,eO,aE,decide_eq_true_eq]
   omega
  rw[h]at this;cases this
theorem Uq{c:fu}(hb:c.B0.length<=1000000000000):Yw c/\O1 c=c:=by
 refine⟨?_,rfl⟩
 show(Ur c).p
 exact cg (show c.B0.length<=140737488355328 by omega) (aq λ_ _=>ba trivial)
theorem y9{c:fu}{fm:Int}(hb:c.B0.length<=1000000000000):Qid c fm/\Jg c fm=(uB c&&(decide (((ig c.B0 0).length:Int)<=fm)||decide (c.B9>=10))):=by
 have h:(O2 c fm).w λr=>r=(uB c&&(decide (((ig c.B0 0).length:Int)<=fm)||decide (c.B9>=10))):=by
  unfold O2
  refine aq λv hv=>?_
  have hv:v=uB c:=hv
  subst hv
  refine ae (λh1=>?_) (λh1=>ba ?_)
  ·obtain⟨g1,g2⟩:=yN hb
   refine cg g1 (aq λx hx=>?_)
   have hx:x=Ul c:=hx
   rw[g2]at hx;subst hx
   rw[h1]
   refine ae (λh2=>ba ?_) (λh2=>ba ?_)
   ·rw[h2];rfl
   ·rw[h2];simp
  ·rw[h1];rfl
 exact Tree.pp h
theorem qaa(h0:1<=P)(h1:P<=32):Qna P/\Z0h P=cO (32*P) 0:=by
 have h:(O3 P).w λr=>r=cO (32*P) 0:=by
  unfold O3
  have e:wrap .i64 ((P:Int)*32)=(P:Int)*32:=wi (by omega) (by omega)
  refine ae (λh=>by simp at h;omega) (λ_=>ae (λh=>by simp at h;omega) (λ_=>?_))
  rw[e]
  refine av (by rw[dY (by omega)];rfl) (ba ?_)
  congr 1;omega
 exact Tree.pp h
theorem zl(h0:1<=P)(h1:P<=32):Qgl P/\Qq P=(⟨cO P true,0,0⟩,true):=by
 have h:(O4 P).w λr=>r=(⟨cO P true,0,0⟩,true):=by
  unfold O4
  refine ae (λh=>by simp at h;omega) (λ_=>ae (λh=>by simp at h;omega) (λ_=>av (by rw[dY (by omega)];rfl) ?_))
  refine eu (inv:=λz:Int×List Bool=>∃i:Nat,z.1=i/\i<=P/\z.2=cO i true++cO (P-i) false) (μ:=Yx P) ⟨0,rfl,bC _,by simp⟩ (cN _) ?_
  rintro⟨_,x⟩ ⟨i,rfl,hi,hx⟩
  simp only at hx
  refine ae (λbd=>?_) (λfx=>?_)
  ·have bd:i<P:=by simpa using bd
   have ew:wrap .i64 ((i:Int)+1)=((i+1:Nat):Int):=by rw[wi (by omega) (by omega)];omega
   have hl:x.length=P:=by rw[hx];simp;omega
   refine av (by rw[hl];exact jR bd) (ee ⟨⟨i+1,ew,bd,?_⟩,?_⟩)
   ·show x.set (dA (i:Int)) true=_
    rw[hx,dX,eQ _ _ (by simp),show P-i=(P-(i+1))+1 by omega,eR,eS]
    simp
   ·simp only[Yx,ew];omega
  ·have fx:P<=i:=by simpa using fx
   have:i=P:=by omega
   subst this
   refine ba ?_
   show(({B0:=x,B9:=(0:Int),D7:=(0:Int)}:fu),true)=_
   rw[hx];simp
 exact Tree.pp h
def rj:List Bool->List Int->List Bool
 |d,[]=>d
 |d,f::l=>rj (if 0<=f/\f<d.length then d.set f.toNat true else d) l
theorem Z37:∀(l:List Int) (d:List Bool),(rj d l).length=d.length
 |[],_=>rfl
 |f::l,d=>by simp only[rj];rw[Z37];split<;>simp
theorem xaH{c:fu}{l:List Int}(hb:c.B0.length<=1000000000000)(hl:l.length<=1000000000000):Yy c l/\Us c l={c with B0:=rj c.B0 l}:=by
 have h:(O5 c l).w λr=>r={c with B0:=rj c.B0 l}:=by
  unfold O5
  refine cg (Uq hb).1 (aq λx hx=>?_)
  have hx:x=O1 c:=hx
  rw[(Uq hb).2]at hx;subst hx
  refine eu (inv:=λz:Int×List Bool=>∃i:Nat,z.1=i/\i<=l.length/\rj z.2 (l.drop i)=rj x.B0 l) (μ:=Ma x l) ⟨0,rfl,bC _,by simp⟩ (cN _) ?_
  rintro⟨_,d⟩ ⟨i,rfl,hi,hd⟩
  simp only at hd
  refine ae (λbd=>?_) (λfx=>?_)
  ·have bd:i<l.length:=by simpa using bd
   have ew:wrap .i64 ((i:Int)+1)=((i+1:Nat):Int):=by rw[wi (by omega) (by omega)];omega
   have lX:l.drop i=l.getD i 0::l.drop (i+1):=by
    rw[aO bd];congr 1;simp[aV,bd]
   rw[lX,rj]at hd
   have mx:Ma x l (wrap .i64 ((i:Int)+1),d)<Ma x l ((i:Int),d):=by simp only[Ma,ew];omega
   have skip:¬(0<=l.getD i 0/\l.getD i 0<d.length)->(∃j:Nat,wrap .i64 ((i:Int)+1)=j/\j<=l.length/\rj d (l.drop j)=rj x.B0 l):=λhn=>by
    rw[if_neg hn]at hd
    exact⟨i+1,ew,bd,hd⟩
   refine av (jR bd) ?_
   refine ae (λh1=>?_) (λh1=>ee ⟨skip (λh=>oN h1 h.1),mx⟩)
   have h1:0<=l.getD i 0:=oY h1
   refine ae (λh2=>?_) (λh2=>ee ⟨skip (λh=>oN h2 h.2),mx⟩)
   have h2:l.getD i 0<d.length:=oY h2
   refine av (Bool.and_eq_true_iff.2 ⟨rfl,dY ⟨h1,h2⟩⟩) (ee ⟨⟨i+1,ew,bd,?_⟩,?_⟩)
   ·rw[if_pos ⟨h1,h2⟩]at hd;exact hd
   ·simp only[Ma,ew];omega
  ·have fx:l.length<=i:=by simpa using fx
   rw[aN fx,rj]at hd
   refine ba ?_
   show({B0:=d,B9:=x.B9,D7:=x.D7}:fu)=_
   rw[hd]
 exact Tree.pp h
attribute [local irreducible] K9
def Tree.V{β:Type}(t:Tree β)(W:β->Prop):Prop:=W t.m
section
variable {α β:Type} {W:β->Prop} {c:Bool} {t e:Tree β}
theorem mW{x:β}(h:W x):Tree.V (.lf x) W:=h
theorem Jh{f:Prop}{x:β}{hf:f}(h:W x):Tree.V (.nx f x hf) W:=h
theorem lu(h:c=true->Tree.V t W)(g:c=false->Tree.V e W):Tree.V (.br c t e) W:=by
 cases c
 ·exact g rfl
 ·exact h rfl
theorem Cq(g:Tree.V t W):Tree.V (.cn c t) W:=g
theorem nK{p:Prop}(g:Tree.V t W):Tree.V (.an p t) W:=g
theorem mq{x:α}{k:α->Tree β}(h:∀y,y=x->Tree.V (k y) W):Tree.V (.lv x k) W:=h x rfl
theorem EW{d:Inhabited β}{n:Nat}{f:Prop}{x:α}{k:α->Tree (α⊕β)}{hf:f}{inv:α->Prop}{μ:α->Nat}(h:inv x)(hn:μ x<n)(g:∀y,inv y->Tree.V (k y) (Sum.elim (λz=>inv z/\μ z<μ y) W)):Tree.V (.lp d n f x k hf) W:=by
 refine xC (P:=inv) (R:=W) (μ:=μ) (λa ha=>?_) n x h hn
 have:=g a ha
 unfold Tree.V at this
 revert this
 cases(k a).m with
 |inl z=>exactλh=>h
 |inr b=>exactλh=>h
end
structure ic(P:Nat)(m:bg):Prop where
 ok:rK P m
 may:AY m=true
section
variable {P:Nat} {m:bg} (h:ic P m)
include h
theorem ic.v:Be m:=⟨h.ok.oi,h.ok.mem.u,h.ok.mo,h.ok.wA,h.ok.target,h.ok.tF⟩
theorem ic.s:Ao P m:=⟨h.ok.oi,h.ok.mem,h.ok.mo,h.ok.wA,h.ok.target.1,h.ok.target.2⟩
theorem ic.Yz:rh m=true:=(Yj h.v).symm.trans h.may
theorem Zku:GW m=false↔m.B5=false/\Je m=false/\m.B6<1152921504606846976:=by
 simp only[GW,Uh,Tree.m,eh,h.Yz]
 cases m.B5<;>cases Je m<;>simp
theorem vN(hs:GW m=false)(hc:U clock):ic P (Au m clock).2/\(Au m clock).2.B6=m.B6+1/\(Au m clock).1.length<=1:=by
 have o:=Tree.post _ (Zep h.ok hc)
 change(Au m clock).1.length<=1/\rK P (Au m clock).2/\(Au m clock).2.B6=wrap .u64 (m.B6+1)at o
 have s:=(Tree.pp (Xv h.s h.ok.tF hc)).2
 change _/\Good P m (DW m clock).1 at s
 have e:DW m clock=((Au m clock).2,(Au m clock).1):=by rw[yk h.v,Zqj,hs];rfl
 rw[e]at s
 have hct:=((Zku h).1 hs).2.2
 have h0:=h.ok.tF
 refine⟨⟨o.2.1,s.2.may h.may⟩,?_,o.1⟩
 rw[o.2.2,wrap_u64];omega
end
theorem Zqt{i:List Int}(hu:∀w∈i,U w)(hl:i.length<=256):ic 8 (lr 8 4 i).1/\(lr 8 4 i).1.B6=0:=by
 obtain⟨a,b⟩:=(Tree.pp (BY i hu hl)).2
 change rK 8 (lr 8 4 i).1 at a
 refine⟨⟨a,?_⟩,b⟩
 have e:(lr 8 4 i).2=true:=by
  have w:i64.wrap (8*32)=256:=by decide
  simp only[lr,GC,Tree.m,w,eh,dN (show¬((i.length:Int)>256) by omega)]
  rfl
 obtain⟨a1,a2,a3,a4,a5,a6⟩:=zaP 8 4 i e
 exact(xaP _ 8 4 a1 a2 a3 a4 a5 _ a6).1
theorem vl{m:bg}(h:ic 8 m)(hc:m.B6<=87):Tree.V (IL m [] 87) (λx=>x.2.2.2=0->ic 8 x.1/\x.1.B6<=87):=by
 have z:∀{k:Int} {p:Prop},k≠0->k=0->p:=λa b=>absurd b a
 unfold IL
 refine mq λx0 _=>lu (λ_=>mW (z (by decide))) λ_=>lu (λ_=>mW (z (by decide))) λ_=>lu (λ_=>mW (z (by decide))) λ_=>nK (mq λx1 _=>lu (λ_=>mW (z (by decide))) λ_=>nK (mq λx2 hx=>?_))
 rw[y8]at hx
 refine EW (inv:=λv:bg×List ir=>ic 8 v.1/\v.1.B6<=87) (μ:=Xi m [] 87) ⟨by rw[hx];exact h,by rw[hx];exact hc⟩ (cN _) λv0 ⟨a1,a3⟩=>?_
 have a2:=a1.ok.tF
 refine lu (λhb=>lu (λhm=>?_) (λ_=>mW λ_=>⟨a1,a3⟩)) (λ_=>mW λ_=>⟨a1,a3⟩)
 have hb:=oY hb
 have hm:=oY hm
 refine EW (inv:=λ_=>True) (μ:=Xj m [] 87 v0) trivial (cN _) λv1 _=>?_
 refine lu (λ_=>mW λ_=>⟨a1,a3⟩) λhh=>nK (mq λx3 h3=>lu (λ_=>mW λ_=>⟨a1,a3⟩) λhi=>nK (mq λx4 _=>lu (λ_=>mW (z (by decide))) λ_=>nK (mq λx5 h5=>Cq (Jh ?_))))
 obtain⟨b1,b2,_⟩:=vN a1 ((Zku a1).2 ⟨hh,h3.symm.trans hi,hm⟩) (clock:=0) gk
 rw[<-h5]at b1 b2
 show(ic 8 x5.2/\x5.2.B6<=87)/\(87-x5.2.B6).toNat<(87-v0.1.B6).toNat
 exact⟨⟨b1,by omega⟩,by omega⟩
theorem Zls(kind:Int)(l:List Int)(hl:l.length*8<=reachBytes)(Xk:l.length<=60):ic 8 (Ut kind l)/\(Ut kind l).B6<=87:=by
 show Tree.V (IM kind l) (λm=>ic 8 m/\m.B6<=87)
 have code:=(Tree.pp (yd l hl)).2
 change((Uu l).length:Int)=l.length/\∀w∈Uu l,U w at code
 obtain⟨b1,b2⟩:=code
 unfold IM
 refine nK (mq λx0 nP=>lu (λ_=>nK (mq λx1 e1=>?_)) (λhk=>?_))
 ·have eb:x1.1=jO:=by rw[e1];rfl
  obtain⟨q1,q2⟩:jO.length<=160/\∀w∈jO,U w:=ye
  refine EW (inv:=λv:List Int=>v.length<=160/\v=jO++cO (v.length-jO.length) 0) (μ:=Qf kind l) ⟨by rw[eb];exact q1,by rw[eb];simp⟩ (cN _) λv0 ⟨a1,a2⟩=>?_
  have a3:jO.length<=v0.length:=by rw[a2,lA];omega
  refine lu (λhb=>?_) (λhb=>?_)
  ·have hb:=oY hb
   refine Cq (Jh ?_)
   show(_/\_)/\(_:Nat)<_
   refine⟨⟨by rw[lA,cY];omega,?_⟩,by show 160-(v0++[0]).length<160-v0.length;rw[lA,cY];omega⟩
   show v0++[0]=jO++cO ((v0++[0]).length-jO.length) 0
   rw[lA,cY,show v0.length+1-jO.length=(v0.length-jO.length)+1 by omega,eS,<-aM,<-a2]
  ·have hb:=oN hb
   have hv:v0=tE:=by
    unfold tE
    rw[show(160:Nat)=v0.length by omega]
    exact a2
   subst hv
   have hp:=xf
   have Xl:∀w∈tE,U w:=λw hw=>(List.mem_append.1 hw).elim (q2 w) (BW _ w)
   refine nK (mq λx2 e2=>Cq ?_)
   rw[<-e2]at b1 b2
   have hu:∀w∈tE++x2,U w:=λw hw=>(List.mem_append.1 hw).elim (Xl w) (b2 w)
   have hlen:(tE++x2).length<=256:=by rw[lA];omega
   refine lu (λhb=>?_) (λhb=>?_)
   ·have hb:=oY hb;omega
   ·obtain⟨c1,c2⟩:=Zqt hu hlen
    refine nK (mq λx3 h3=>?_)
    rw[<-h3]at c1 c2
    have rn:=vl c1 (by omega)
    refine lu (λ_=>nK (mq λx4 hx=>mW ?_)) (λ_=>mW ⟨c1,by omega⟩)
    have e:x3=lr 8 4 (tE++(x2++cO (96-x2.length) 0)):=by
     rw[h3]
     have IN:(x2++cO (96-x2.length) (0:Int)).length=96:=by rw[lA,cS];omega
     refine qf _ _ hlen (by rw[lA,IN];omega) ?_
     rw[lA,lA,IN,hp,aM,aM,aM,show 256-(160+96)=0 by omega,show 256-(160+x2.length)=96-x2.length by omega]
     simp
    have h0:x4.2.2.2=0:=by
     rw[hx,e]
     exact z6 _ (by rw[lA,cS];omega)
    exact(by rw[hx];exact rn:x4.2.2.2=0->ic 8 x4.1/\x4.1.B6<=87) h0
 ·have hk:=oN hk
  refine nK (mq λx2 e2=>Cq ?_)
  rw[<-e2]at b1 b2
  refine lu (λhb=>?_) (λhb=>?_)
  ·have hb:=oY hb;omega
  ·obtain⟨c1,c2⟩:=Zqt b2 (by omega)
   refine nK (mq λx3 h3=>?_)
   rw[<-h3]at c1 c2
   exact lu (λh=>absurd (eq_of_beq h) (by omega)) (λ_=>mW ⟨c1,by omega⟩)
theorem EY{m:bg}(g:ic P m)(hc:U clock):ic P (DW m clock).1:=by
 have s:=(Tree.pp (Xv g.s g.ok.tF hc)).2
 change _/\Good P m (DW m clock).1 at s
 have k:=s.2.ok
 exact⟨⟨k.oi,k.mem,k.mo,k.wA,⟨k.target,k.given⟩,s.2.tF⟩,s.2.may g.may⟩
theorem Z8q{m:bg}(g:ic P m)(hc:U clock):Uv m clock:=(Tree.pp (Xv g.s g.ok.tF hc)).1
theorem ic.nq{m:bg}(h:ic P m):ej P m.Mem:=h.ok.mem
theorem Zsb{m:bg}(h:ic 8 m){M:List Int}(hM:ej 8 M):ic 8 {m with Mem:=M}:=by
 refine⟨⟨h.ok.oi,hM,h.ok.mo,h.ok.wA,h.ok.target,h.ok.tF⟩,?_⟩
 obtain⟨g1,g2,g3,g4,g5⟩:=(Lt m).1 h.may
 have id:∀{p:Prop},p->p:=λh=>h
 refine(Lt _).2 ⟨?_,g2,g3,g4,?_⟩
 ·show jP M≠0
  rw[tG hM];decide
 ·exact IT (m:=m) (P:=8) h.ok.mem hM id id id id id g5
theorem qO:ej 8 (cO 256 0):=⟨by simp,by decide,by decide,λw hw=>by rw[eT hw];exact gk⟩
theorem qap{s t:List Int}(hl:s.length<=1000000000000):Uw s t=true->s=t:=by
 have h:(Mb s t).w λr=>r=true->s=t:=by
  unfold Mb
  refine ae (λ_=>ba λh=>by cases h) (λhe=>?_)
  have he:s.length=t.length:=by
   have:(s.length:Int)=t.length:=by simpa using he
   omega
  refine eu (inv:=λz:Int=>∃i:Nat,z=i/\i<=s.length/\∀j,j<i->s.getD j 0=t.getD j 0) (μ:=O6 s t) ⟨0,rfl,bC _,λj h=>by omega⟩ (cN _) ?_
  rintro _ ⟨i,rfl,hi,hj⟩
  refine ae (λbd=>?_) (λfx=>ba λ_=>?_)
  ·have bd:i<s.length:=by simpa using bd
   have ew:wrap .i64 ((i:Int)+1)=((i+1:Nat):Int):=by rw[wi (by omega) (by omega)];omega
   refine av (jR bd) (av (jR (by omega)) (ae (λ_=>ba λh=>by cases h) (λheq=>ee ⟨⟨i+1,ew,bd,λj Mc=>?_⟩,by simp only[O6,ew];omega⟩)))
   rw[dX]at heq
   rcases Nat.lt_succ_iff_lt_or_eq.1 Mc with h|h
   ·exact hj j h
   ·subst h;simpa using heq
  ·have fx:s.length<=i:=by simpa using fx
   refine bR he λj h1 h2=>?_
   have:=hj j (by omega)
   simpa[aV,h1,h2]using this
 exact(Tree.pp h).2
theorem Zmv(ha:ej P a)(hb:ej P b):YA a b/\(DX a b).length<=P/\ ∀k:Nat,k<P->(k:Int)∈DX a b\/(a.drop (k*32)).take 32=(b.drop (k*32)).take 32:=by
  have h:(O7 a b).w λr=>r.length<=P/\ ∀k:Nat,k<P->(k:Int)∈r\/(a.drop (k*32)).take 32=(b.drop (k*32)).take 32:=by
    have la:=ha.len
    have lb:=hb.len
    have hp:=ha.p2
    unfold O7
    refine aq λx0 h0=>aq λx1 h1=> ?_
    have h0:x0=P:=h0.trans (L9 la hp)
    have h1:x1=P:=h1.trans (L9 lb hp)
    subst h0;subst h1
    refine ae (λh=>by simp at h) (λ_=> ?_)
    refine eu (inv:=λz:Int×List Int=> ∃i:Nat,z.1=i/\i<=P/\z.2.length<=i/\ ∀k:Nat,k<i->(k:Int)∈z.2\/(a.drop (k*32)).take 32=(b.drop (k*32)).take 32) (μ:=λz=>(P-z.1).toNat) ⟨0,rfl,bC _,by simp,λk h=>by omega⟩ (by simp only[Qil];omega) ?_
    rintro⟨_,x⟩ ⟨i,rfl,hi,hx,hk⟩
    simp only at hx hk
    refine ae (λbd=> ?_) (λfx=>ba ?_)
    . have bd:i<P:=by simpa using bd
      have ew:wrap .i64 ((i:Int)+1)=((i+1:Nat):Int):=by rw[wi (by omega) (by omega)];omega
      have e1:wrap .i64 ((i:Int)*32)=((i*32:Nat):Int):=by rw[wi (by omega) (by omega)];omega
      have e2:wrap .i64 (((i+1:Nat):Int)*32)=((i*32+32:Nat):Int):=by rw[wi (by omega) (by omega)];omega
      simp only[ew,e1,e2,dX,show i*32+32-i*32=32 by omega]
      refine av (by rw[dY (by omega)];rfl) (av (by rw[dY (by omega)];rfl) (cg (show _<=_ by simp;omega) (aq λx2 h2=> ?_)))
      have h2:x2=Uw _ _:=h2
      refine ae (λhn=>av (dY (by omega)) (ee ⟨⟨i+1,rfl,bd,by simp;omega,λk u7=> ?_⟩,by omega⟩)) (λhn=>ee ⟨⟨i+1,rfl,bd,by show x.length<=_;omega,λk u7=> ?_⟩,by omega⟩)
      . rcases Nat.lt_succ_iff_lt_or_eq.1 u7 with h|h
        . rcases hk k h with h|h
          . exact .inl (eU _ h)
          . exact .inr h
        . subst h;exact .inl (by simp)
      . rcases Nat.lt_succ_iff_lt_or_eq.1 u7 with h|h
        . exact hk k h
        . subst h
          have:x2=true:=by simpa using hn
          exact .inr (qap (by simp;omega) (h2.symm.trans this))
    . have fx:P<=i:=by simpa using fx
      exact⟨by show x.length<=P;omega,λk u7=>hk k (by omega)⟩
  exact Tree.pp h
theorem Ux:∀{l:List Int} {d:List Bool} {k:Nat},k<d.length->(d.getD k false=true\/(k:Int)∈l)->(rj d l).getD k false=true
 |[],d,k,_,h=>by
  rcases h with h|h
  ·exact h
  ·cases h
 |f :: l,d,k,hk,h=>by
  simp only[rj]
  by_cases hf:0<=f/\f<d.length
  ·rw [if_pos hf]
   refine Ux (by simpa using hk) ?_
   by_cases e:f.toNat=k
   ·refine .inl ?_
    subst e
    simp[aV,hk]
   ·rcases h with h|h
    ·refine .inl ?_
     rw[cX,List.getElem?_set_ne e,<-cX];exact h
    ·rcases List.mem_cons.1 h with h|h
     ·omega
     ·exact .inr h
  ·rw[if_neg hf]
   refine Ux hk ?_
   rcases h with h|h
   ·exact .inl h
   ·rcases List.mem_cons.1 h with h|h
    ·omega
    ·exact .inr h
theorem qm{j:Nat}(h:(a.drop (j/32*32)).take 32=(b.drop (j/32*32)).take 32):a.getD j 0=b.getD j 0:=by
 have e:=congrArg (λl=>l.getD (j%32) 0) h
 have hm:j%32<32:=Nat.mod_lt _ (by decide)
 simp only[cX,List.getElem?_take,hm,if_true,List.getElem?_drop]at e
 rw[show j/32*32+j%32=j by omega]at e
 simpa only[cX]using e
theorem zaa{m d:List Int}{b:Nat}(h:m.getD (b/4) 0=d.getD (b/4) 0):lG m b=lG d b:=by unfold lG;rw[h]
theorem xm{c:fu}{m:List Int}(hP:1<=P)(hm:ej P m)(hd:c.B0.length=P)(r0:0<=c.B9)(r1:c.B9<=10)(s0:0<=c.D7)(s1:c.D7<=352):uA c m=(⟨cO P false,c.B9+1,c.D7+(ig c.B0 0).length⟩,mJ m (ig c.B0 0)):=by
 have:=Uj c.B0 0
 have hP2:=hm.p2
 unfold uA
 rw[if_pos ⟨by rw[Zkr];exact dY (by omega),r1,by rw[L9 (P:=P) hm.len hP2,hd]⟩,wi (by omega) (by omega),wi (by omega) (by omega),hd]
theorem zm{c:fu}{m:List Int}(hb:c.B0.length<=1000000000000):YC c m/\Ji c m=uA c m:=by
 have h:(O8 c m).w λr=>r=uA c m:=by
  unfold O8
  refine cg (Uq hb).1 (aq λx hx=>?_)
  have hx:x=O1 c:=hx
  rw[(Uq hb).2]at hx;subst hx
  refine aq λv hv=>?_
  have hv:v=uB x:=hv
  refine ae (λh1=>ba ?_) (λh1=>?_)
  ·have:uB x=false:=by rw[hv]at h1;simpa using h1
   simp[uA,this]
  have hV:uB x=true:=by rw[hv]at h1;simpa using h1
  obtain⟨v1,v2,v3,v4,v5,v6⟩:=Zlm hV
  refine ae (λh2=>ba ?_) (λh2=>?_)
  ·have:¬x.B9<=10:=by simpa using h2
   simp[uA,this]
  have h2:x.B9<=10:=by simpa using h2
  refine aq λp hp=>?_
  have hp:p=jP m:=hp
  refine ae (λh3=>ba ?_) (λh3=>?_)
  ·have:¬jP m=x.B0.length:=by rw[hp]at h3;simpa using h3
   simp[uA,this]
  have h3:jP m=x.B0.length:=by rw[hp]at h3;simpa using h3
  obtain⟨l1,l2⟩:=xl h3 v1
  have hr:=Tree.pp (xao l1 l2 rfl)
  refine aq λ_ _=>cg hr.1 (aq λy hy=>av ?_ (ba ?_))
  ·rw[dY (by omega)];rfl
  ·have hy:y=Uy m [] x.B0:=hy
   have e:Uy m [] x.B0=(m,mJ m (ig x.B0 0),x.B0):=hr.2
   rw[hy,e]
   simp[uA,hV,h2,h3,mJ]
 exact Tree.pp h
theorem xO{c:fu}{m:List Int}(hm:ej 8 m)(hd:c.B0.length=8)(r0:0<=c.B9)(r1:c.B9<=10)(s0:0<=c.D7)(s1:c.D7<=8*c.B9):uA c m=(⟨cO 8 false,c.B9+1,c.D7+(ig c.B0 0).length⟩,mJ m (ig c.B0 0)):=
 xm (P:=8) (by decide) hm hd r0 r1 s0 (by omega)
theorem Jj{m:List Int}(hm:ej 8 m)(hf:f<8):Ch m f (jG m f).1/\(jG m f).2=true:=(Tree.pp (qi hm (f:=(f:Int)) (by omega) (by omega))).2
theorem ym{m:List Int}(hm:ej 8 m)(hf:f<8):(jG m f).1.length=128:=(Jj hm hf).1.1
theorem Zdc(ha:ej 8 a)(hb:ej 8 b)(hf:f<8)(h:∀k:Nat,k<128->lG a (f*128+k)=lG b (f*128+k)):(jG a f).1=(jG b f).1:=by
 obtain⟨p1,p2⟩:=(Jj ha hf).1
 obtain⟨q1,q2⟩:=(Jj hb hf).1
 have e:((f:Int)*128).toNat=f*128:=by omega
 refine vh (m:=a) (f:=f) ⟨p1,p2⟩ ⟨q1,λk hk=>?_⟩
 rw[q2 k hk,e,h k hk]
theorem zO(ha:ej 8 a)(hb:ej 8 b)(hf:f<8)(h:(jG a f).1=(jG b f).1)(hk:k<128):lG a (f*128+k)=lG b (f*128+k):=by
 have p:=(Jj ha hf).1.2 k hk
 have q:=(Jj hb hf).1.2 k hk
 have e:((f:Int)*128).toNat=f*128:=by omega
 rw[e]at p q
 rw[<-p,<-q,h]
theorem yO(ha:ej 8 a)(hb:ej 8 b)(hf:f<8)(h:¬(f:Int)∈DX a b):(jG a f).1=(jG b f).1:=by
 obtain⟨_,_,c⟩:=Zmv ha hb
 refine Zdc ha hb hf λk hk=>zaa ?_
 rcases c f hf with c|c
 ·exact absurd c h
 ·exact qm (by rw[show(f*128+k)/4/32=f by omega];exact c)
theorem Uz{m:List Int}(hm:ej 8 m)(hf:f<8){d:List UInt8}(hd:d.length=128):(rO m f d).2=true/\ej 8 (rO m f d).1/\∀b:Nat,lG (rO m f d).1 b=if(f:Int)*128<=b/\(b:Int)<(f:Int)*128+128 then((d.getD (b-(f:Int)*128).toNat 0).toNat:Int)else lG m b:=(Tree.pp (XH hm (f:=(f:Int)) (by omega) (by omega) hd)).2
theorem Zj0{m:List Int}(hm:ej 8 m)(hf:f<8){d:List UInt8}(hd:d.length=128):UA m f d:=(Tree.pp (XH hm (f:=(f:Int)) (by omega) (by omega) hd)).1
theorem Zoo{m:List Int}(hm:ej 8 m)(hf:f<8){d:List UInt8}(hd:d.length=128):ej 8 (rO m f d).1:=(Uz hm hf hd).2.1
theorem Zop{m:List Int}(hm:ej 8 m)(hf:f<8){d:List UInt8}(hd:d.length=128):(jG (rO m f d).1 f).1=d:=by
 obtain⟨_,ok,h⟩:=Uz hm hf hd
 refine vh (Jj ok hf).1 ⟨hd,λk hk=>?_⟩
 rw[h,if_pos (by omega)]
 congr 3;omega
theorem Znc{m:List Int}(hm:ej 8 m)(hf:f<8)(hk:k<8)(hn:k≠f){d:List UInt8}(hd:d.length=128):(jG (rO m f d).1 k).1=(jG m k).1:=by
 obtain⟨_,ok,h⟩:=Uz hm hf hd
 refine Zdc ok hm hk λj hj=>?_
 rw[h,if_neg (by omega)]
theorem vm(ha:ej 8 a)(hb:ej 8 b)(h:∀f:Nat,f<8->(jG a f).1=(jG b f).1):a=b:=by
 have la:=ha.len
 have lb:=hb.len
 refine xh (la.trans lb.symm) ha.u hb.u λk=>?_
 by_cases hk:k/128<8
 ·have:=zO ha hb hk (h _ hk) (k:=k%128) (Nat.mod_lt _ (by decide))
  rwa [show k/128*128+k%128=k by omega]at this
 ·refine zaa ?_
  simp[aV,aJ (show a.length<=k/4 by omega),aJ (show b.length<=k/4 by omega)]
theorem zap{c:fu}(hd:c.B0.length=8)(r0:0<=c.B9)(r1:c.B9<=11)(s0:0<=c.D7)(s1:c.D7<=8*c.B9):Jg c 32=true:=by
 have:=Uj c.B0 0
 rw[(y9 (c:=c) (fm:=32) (by omega)).2,Zkr,dY (show 1<=c.B0.length/\c.B0.length<=32/\0<=c.B9/\c.B9<=11/\0<=c.D7/\c.D7<=352 by omega),dY (show((ig c.B0 0).length:Int)<=32 by omega)]
 rfl
def Cr(s:gj):Prop:=s.ab.length=4/\(∀b∈s.ab,b.length=128)/\1<=s.D5/\s.D5<=2/\0<=s.D6
theorem Zs9{s:gj}(h:Cr s):(Jk s).w λr=>r=true:=by
 obtain⟨b1,b2,b3,b4,b5⟩:=h
 unfold Jk
 refine ae (λh=>absurd (oY h) (by omega)) λ_=>ae (λh=>absurd (oY h) (by omega)) λ_=>ae (λh=>absurd (oY h) (by omega)) λ_=>?_
 refine eu (inv:=λz:Int=>∃i:Nat,z=i/\i<=s.ab.length) (μ:=O9 s) ⟨0,rfl,bC _⟩ (cN _) ?_
 rintro _ ⟨i,rfl,hi⟩
 refine ae (λbd=>?_) (λfx=>ae (λh=>?_) (λ_=>ba (dY (by omega))))
 ·have bd:i<s.ab.length:=by simpa using bd
  have ew:wrap .i64 ((i:Int)+1)=((i+1:Nat):Int):=by rw[wi (by omega) (by omega)];omega
  refine av (jR bd) (ae (λh=>?_) (λ_=>ee ⟨⟨i+1,ew,bd⟩,by simp only[O9,ew];omega⟩))
  exfalso
  have e:s.ab.getD (dA (i:Int)) (RK.dx RK.str)=s.ab[i]:=by simp[aV,bd]
  rw[e,b2 _ (eV bd)]at h
  cases h
 ·have h:s.D5=0:=by simpa using h
  omega
theorem YD{s:gj}(h:Cr s)(h0:0<=host)(seen:Int):(Pa s host seen).w λr=>r=if s.D5=seen then({s with D5:=s.D5+1,D6:=host},true)else(s,false):=by
 have v:=Tree.pp (Zs9 h)
 obtain⟨b1,b2,b3,b4,b5⟩:=h
 unfold Pa
 have cp:(Pb s).w λr=>r=s:=by
  unfold Pb
  exact cg (show s.ab.length<=1000000000000 by omega) (aq λx hx=>by have hx:x=s.ab:=hx;subst hx;exact ba rfl)
 refine cw cp λx0 e0=>?_
 subst e0
 refine cg v.1 (aq λx1 h1=>?_)
 have h1:x1=true:=h1.trans v.2
 subst h1
 refine ae (λh=>by cases h) λ_=>ae (λh=>absurd (oY h) (by omega)) λ_=>ae (λh=>ba ?_) λh=>?_
 ·have:x0.D5≠seen:=by simpa using h
  rw[if_neg this]
 ·have h:x0.D5=seen:=by simpa using h
  refine ae (λh=>absurd (oY h) (by omega)) λ_=>ba ?_
  have e:wrap .u64 (x0.D5+1)=x0.D5+1:=by rw[wrap_u64];omega
  rw[if_pos h,e]
theorem Zqi{s:gj}(h:Cr s)(h0:0<=host)(seen:Int):mr s host seen=if s.D5=seen then({s with D5:=s.D5+1,D6:=host},true)else(s,false):=(Tree.pp (YD h h0 seen)).2
def zM:bg:=(RK.dx RK.aa).A0
def gy(l:List fi)(x:fi):List fi:=if l.length<64 then l++[x]else l
def pf(l xs:List fi):List fi:=xs.foldl gy l
theorem Md{x y:fi}(h:y∈gy l x):y∈l\/y=x:=by
 unfold gy at h;split at h
 ·rcases List.mem_append.1 h with h|h
  ·exact .inl h
  ·exact .inr (List.mem_singleton.1 h)
 ·exact .inl h
theorem Me(h:l.length<=64):(gy l x).length<=64:=by
 unfold gy;split
 ·rw[lA,cY];omega
 ·exact h
theorem Pd:∀{l:List fi} {y:fi},y∈pf l xs->y∈l\/y∈xs:=by
 induction xs with
 |nil=>intro l y h;exact .inl h
 |cons x xs ih=>
  intro l y h
  rcases ih (l:=gy l x) h with h|h
  ·rcases Md h with h|h
   ·exact .inl h
   ·exact .inr (by rw[h];exact eW ..)
  ·exact .inr (eX _ h)
theorem Zkz:∀{l:List fi},l.length<=64->(pf l xs).length<=64:=by
 induction xs with
 |nil=>intro l h;exact h
 |cons x xs ih=>intro l h;exact ih (l:=gy l x) (Me h)
theorem vO:∀{l:List fi},l.length+xs.length<=64->pf l xs=l++xs:=by
 induction xs with
 |nil=>intro l h;simp[pf]
 |cons x xs ih=>
  intro l h
  have h:l.length+(xs.length+1)<=64:=h
  have e:gy l x=l++[x]:=if_pos (by omega)
  have:=ih (l:=l++[x]) (by rw[lA,cY];omega)
  show pf (gy l x) xs=_
  rw[e,this,aM];rfl
def tK(r f:Int)(d:List UInt8):fi:=⟨1,r,f,d,zM,[]⟩
def uD(s:ia):fi:=⟨2,0,0,[],{s.A0 with Mem:=[]},s.A3⟩
def Cs(k:Int):fi:=⟨k,0,0,[],zM,[]⟩
def rP(R fs:List Int)(v:Int):List Int:=fs.foldl (λR f=>R.set f.toNat v) R
theorem UB{v:Int}:∀{R:List Int},(rP R fs v).length=R.length:=by
 induction fs with
 |nil=>intro R;rfl
 |cons x xs ih=>intro R;exact(ih (R:=R.set x.toNat v)).trans dC
theorem Gf{R:List Int}{v:Int}(hk:k<R.length):(R.set i v).getD k 0=if i=k then v else R.getD k 0:=by
 simp only[cX,List.getElem?_set]
 by_cases h:i=k
 ·subst h;simp[hk]
 ·simp[h]
theorem Zdv{v:Int}(hf:∀f∈fs,0<=f):∀{R:List Int} {k:Nat},k<R.length->(rP R fs v).getD k 0=if(k:Int)∈fs then v else R.getD k 0:=by
 induction fs with
 |nil=>intro R k hk;simp[rP]
 |cons x xs ih=>
  intro R k hk
  have h:=ih (λf h=>hf f (eX _ h)) (R:=R.set x.toNat v) (k:=k) (by rw[dC];exact hk)
  show(rP (R.set x.toNat v) xs v).getD k 0=_
  rw[h,Gf hk]
  have x0:=hf x (eW ..)
  by_cases h1:(k:Int)∈xs
  ·rw[if_pos h1,if_pos (eX _ h1)]
  ·rw [if_neg h1]
   by_cases h2:x.toNat=k
   ·rw[if_pos h2,if_pos (by rw[show(k:Int)=x by omega];exact eW ..)]
   ·rw[if_neg h2,if_neg (λh=>by
     rcases List.mem_cons.1 h with h|h
     ·omega
     ·exact h1 h)]
theorem qn:∀{Dd:List Bool} {k:Int} {f:Nat},k+(f:Int)∈ig Dd k↔Dd.getD f false=true
 |[],k,f=>by simp[ig]
 |b::Dd,k,0=>by
  have no:¬k∈ig Dd (k+1):=λh=>by have:=OW h;omega
  simp only[ig]
  cases b<;>simp[no]
 |b ::Dd,k,f+1=>by
  have ih:=qn (Dd:=Dd) (k:=k+1) (f:=f)
  have e:k+((f+1:Nat):Int)=k+1+(f:Int):=by omega
  rw[e]
  simp only[ig,List.getD_cons_succ]
  split
  ·rw[cQ]
   constructor
   ·rintro(h|h)
    ·omega
    ·exact ih.1 h
   ·exactλh=>.inr (ih.2 h)
  ·exact ih
theorem UC:(f:Int)∈ig Dd 0↔Dd.getD f false=true:=by
 have:=qn (Dd:=Dd) (k:=0) (f:=f)
 rwa [Int.zero_add]at this
def Mf(g:dv):dv:=
 { g with
   A1:={g.A1 with B3:=(uA g.A1.B3 g.A1.A0.Mem).1,A3:=rP g.A1.A3 ((uA g.A1.B3 g.A1.A0.Mem).2.map (·.Frame)) (uA g.A1.B3 g.A1.A0.Mem).1.B9}
   A7:=pf g.A7 ((uA g.A1.B3 g.A1.A0.Mem).2.map λp=>tK (uA g.A1.B3 g.A1.A0.Mem).1.B9 p.Frame p.F0)}
def GZ(g:dv):dv:=
 {g with A1:={g.A1 with A4:=2},A7:=gy g.A7 (uD g.A1)}
def DY(g:dv)(fm:Int):dv:=
 if g.A1.A4=1/\Jg g.A1.B3 fm=true then GZ (Mf g)else g
def sF(s:ia):List fi:=(List.range 8).map λf=>tK (s.A3.getD f 0) f (jG s.A0.Mem f).1
theorem xn(s:ia):(sF s).length=8:=by
 unfold sF;rw[eY,List.length_range]
def Mg(g:dv):dv:=
 if g.A1.A4=2 then{g with A7:=pf g.A7 (sF g.A1++[uD g.A1])}else g
def kb(g:dv):Int:=if g.A1.A4=1\/g.A1.A4=3 then 0 else if g.A2.A4=3 then 1 else-1
def lZ(m:bg)(clock:Int):Nat->bg
 |0=>m
 |n+1=>(DW (lZ m clock n) clock).1
def runN(n:Int):Nat:=(min (max n 0) 64).toNat
def rQ(s:ia)(m:bg):fu:=if s.A4=1 then{s.B3 with B0:=rj s.B3.B0 (DX s.A0.Mem m.Mem)}else s.B3
def jX(g:dv)(n clock:Int):dv:=
 if g.A1.A4=1\/g.A1.A4=3 then{g with A1:={g.A1 with A0:=lZ g.A1.A0 clock (runN n),B3:=rQ g.A1 (lZ g.A1.A0 clock (runN n))}}
 else if g.A2.A4=3 then{g with A2:={g.A2 with A0:=lZ g.A2.A0 clock (runN n)}}
 else g
def iO(t:ia)(x:fi):ia:=
 if¬(t.A4=0\/t.A4=1\/t.A4=2)then t
 else if x.C2=1 then
  (if 0<=x.Frame/\x.Frame<t.A3.length/\t.A3.getD x.Frame.toNat 0<x.B9 then
   {t with A4:=if t.A4=0 then 1 else t.A4,A0:={t.A0 with Mem:=(rO t.A0.Mem x.Frame x.F0).1},A3:=t.A3.set x.Frame.toNat x.B9}
  else t)
 else if x.C2=2 then(if t.A4=2 then t else{t with A4:=2,A0:={x.A0 with Mem:=t.A0.Mem},C1:=x.A3})
 else if x.C2=4 then{t with A4:=4}else t
def ma(g:dv)(back:Bool):List fi:=if back=true then g.C0 else g.A7
def pj(g:dv)(back:Bool)(l:List fi):dv:=if back=true then{g with C0:=l}else{g with A7:=l}
def mX(l:List fi)(i:Int):Prop:=0<=i/\i<l.length
instance (l:List fi) (i:Int):Decidable (mX l i):=by unfold mX;infer_instance
def pk(l:List fi)(i:Int):fi:=l.getD i.toNat (RK.dx RK.aa)
def ly(l:List fi)(i:Int):List fi:=l.take i.toNat++l.drop (i.toNat+1)
def tL(g:dv)(back:Bool)(i:Int):dv:=if mX (ma g back) i then pj g back (ly (ma g back) i)else g
def Mh(g:dv)(back:Bool)(x:fi):dv:=
 if back=true then(if g.A1.A4=2/\x.C2=3 then{g with A1:={g.A1 with A4:=4}}else g)else{g with A2:=iO g.A2 x}
def oj(g:dv)(back:Bool)(i:Int):dv:=if mX (ma g back) i then Mh (tL g back i) back (pk (ma g back) i)else g
def Bh(g:dv)(back:Bool)(i:Int):dv:=if mX (ma g back) i then pj g back (gy (ma g back) (pk (ma g back) i))else g
def Ct(g:dv):Prop:=g.A2.A4=2/\g.A2.A3=g.A2.C1
instance (g:dv):Decidable (Ct g):=by unfold Ct;infer_instance
def sG(g:dv):dv:=
 if Ct g then
  (if(mr g.A9 1 g.A2.D5).2=true then{g with A9:=(mr g.A9 1 g.A2.D5).1,A2:={g.A2 with A4:=3,D5:=(mr g.A9 1 g.A2.D5).1.D5},C0:=gy g.C0 (Cs 3)}
  else{g with A2:={g.A2 with A4:=4}})
 else g
def om(g:dv):dv:=
 if g.A1.A4=1 then{g with A1:={g.A1 with A4:=3},A7:=gy g.A7 (Cs 4)}
 else if g.A1.A4=2 then
  (if(mr g.A9 0 g.A1.D5).2=true then{g with A9:=(mr g.A9 0 g.A1.D5).1,A1:={g.A1 with A4:=3,D5:=(mr g.A9 0 g.A1.D5).1.D5},A7:=gy g.A7 (Cs 4)}
  else{g with A1:={g.A1 with A4:=4}})
 else g
def Pe(g:dv)(back:Bool):dv:=if back=true then{g with A2:={g.A2 with A4:=4}}else{g with A1:={g.A1 with A4:=4}}
def Bi(g:dv)(a:kT):dv×Bool:=
 if a.C2=1 then(jX g a.N a.F8,true)
 else if a.C2=2 then(if g.A1.A4=1/\g.A1.B3.B9<10 then Mf g else g,true)
 else if a.C2=3 then(DY g a.N,true)
 else if a.C2=4 then(Mg g,true)
 else if a.C2=5 then(oj g a.C0 a.N,true)
 else if a.C2=6 then(tL g a.C0 a.N,true)
 else if a.C2=7 then(Bh g a.C0 a.N,true)
 else if a.C2=8 then(sG g,true)
 else if a.C2=9 then(om g,true)
 else if a.C2=10 then(Pe g a.C0,true)
 else(g,false)
structure jE(x:fi):Prop where
 mem:x.A0.Mem=[]
 rl:x.A3.length<=8
 pg:x.C2=1->0<=x.Frame/\x.Frame<8/\x.F0.length=128
 stt:x.C2=2->∀M,ej 8 M->ic 8 {x.A0 with Mem:=M}
structure gb(g:dv):Prop where
 src:ic 8 g.A1.A0
 dl:g.A1.B3.B0.length=8
 r0:0<=g.A1.B3.B9
 r1:g.A1.B3.B9<=11
 r2:g.A1.A4=1->g.A1.B3.B9<=10
 s0:0<=g.A1.B3.D7
 s1:g.A1.B3.D7<=8*g.A1.B3.B9
 rl:g.A1.A3.length=8
 sf:g.A1.C1.length<=8
 tc:g.A2.B3.B0.length<=8
 tl:g.A2.A3.length=8
 tm:ej 8 g.A2.A0.Mem
 tg:g.A2.A4=2\/g.A2.A4=3->ic 8 g.A2.A0
 tf:g.A2.C1.length<=8
 fl:g.A7.length<=64
 fo:∀x∈g.A7,jE x
 bl:g.C0.length<=64
 bo:∀x∈g.C0,jE x
 st:Cr g.A9
theorem Zlh{m:List Int}(hm:ej 8 m){r:Int}(hf:f<8):jE (tK r f (jG m f).1):=
 ⟨rfl,bC _,λ_=>⟨by show(0:Int)<=(f:Int);omega,by show(f:Int)<8;omega,ym hm hf⟩,λh=>absurd (show(1:Int)=2 from h) (by decide)⟩
theorem Zd0{s:ia}(h:ic 8 s.A0)(hr:s.A3.length<=8):jE (uD s):=
 ⟨rfl,hr,λh=>absurd (show(2:Int)=1 from h) (by decide),λ_ M hM=>Zsb h hM⟩
theorem YE{k:Int}(h1:k≠1)(h2:k≠2):jE (Cs k):=⟨rfl,bC _,λh=>absurd h h1,λh=>absurd h h2⟩
theorem sH(h:∀y∈l,jE y)(hx:jE x):∀y∈gy l x,jE y:=λy hy=>by
 rcases Md hy with h1|h1
 ·exact h y h1
 ·rw[h1];exact hx
theorem Cu(h:∀y∈l,jE y)(hx:∀y∈xs,jE y):∀y∈pf l xs,jE y:=λy hy=>(Pd hy).elim (h y) (hx y)
section
variable {g:dv} (h:gb g)
include h
theorem gb.rk:ej 8 g.A1.A0.Mem:=h.src.nq
theorem gb.round(hr:g.A1.B3.B9<=10):uA g.A1.B3 g.A1.A0.Mem=(⟨cO 8 false,g.A1.B3.B9+1,g.A1.B3.D7+(ig g.A1.B3.B0 0).length⟩,mJ g.A1.A0.Mem (ig g.A1.B3.B0 0)):=xO h.rk h.dl h.r0 hr h.s0 h.s1
end
theorem Zgu(m l:List Int):(mJ m l).map (·.Frame)=l:=by
 unfold mJ;rw[List.map_map];exact List.map_id' l
def tM(c:fu)(m:List Int):List fi:=(mJ m (ig c.B0 0)).map λp=>tK (c.B9+1) p.Frame p.F0
def mK(g:dv):dv:=
 { g with
   A1:={g.A1 with B3:=⟨cO 8 false,g.A1.B3.B9+1,g.A1.B3.D7+(ig g.A1.B3.B0 0).length⟩,A3:=rP g.A1.A3 (ig g.A1.B3.B0 0) (g.A1.B3.B9+1)}
   A7:=pf g.A7 (tM g.A1.B3 g.A1.A0.Mem)}
theorem Jl(h:gb g)(hr:g.A1.B3.B9<=10):Mf g=mK g:=by
 unfold Mf mK tM
 rw[h.round hr]
 simp only[Zgu]
theorem YF(h:Dd.length=8):(ig Dd 0).length<=8:=by have:=Uj Dd 0;omega
theorem xaa:∀f∈ig Dd 0,0<=f:=λf hf=>(OW hf).1
theorem UD{c:fu}{m:List Int}(hd:c.B0.length=8)(h:x∈tM c m):∃f:Nat,f<8/\c.B0.getD f false=true/\x=tK (c.B9+1) f (jG m f).1:=by
 unfold tM mJ at h
 obtain⟨p,hp,rfl⟩:=List.mem_map.1 h
 obtain⟨f,hf,rfl⟩:=List.mem_map.1 hp
 have h1:=OW hf
 obtain⟨k,rfl⟩:∃k:Nat,f=k:=⟨f.toNat,by omega⟩
 exact⟨k,by omega,UC.1 hf,rfl⟩
theorem qP{c:fu}{m:List Int}(h:c.B0.getD f false=true):tK (c.B9+1) f (jG m f).1∈tM c m:=by
 unfold tM mJ
 exact List.mem_map.2 ⟨_,List.mem_map.2 ⟨(f:Int),UC.2 h,rfl⟩,rfl⟩
theorem xP{c:fu}{m:List Int}(hd:c.B0.length=8):(tM c m).length<=8:=by
 unfold tM mJ
 rw[eY,eY]
 exact YF hd
theorem Zr8(h:gb g)(hr:g.A1.B3.B9<=10)(hp:g.A1.A4=1->g.A1.B3.B9<=9):gb (mK g):=by
 have hs:=YF h.dl
 obtain⟨a1,a2,a3,a4,a5,a6,a7,a8,a9,kO,kP,a12,kQ,kR,kS,a16,a17,a18,a19⟩:=h
 refine⟨a1,by simp[mK],by show 0<=g.A1.B3.B9+1;omega,by show g.A1.B3.B9+1<=11;omega,λe=>by have:=hp e;show g.A1.B3.B9+1<=10;omega,by show 0<=g.A1.B3.D7+_;omega,by show g.A1.B3.D7+((ig g.A1.B3.B0 0).length:Int)<=8*(g.A1.B3.B9+1);omega,UB.trans a8,a9,kO,kP,a12,kQ,kR,Zkz kS,Cu a16 λy hy=>?_,a17,a18,a19⟩
 obtain⟨f,hf,_,rfl⟩:=UD a2 hy
 exact Zlh a1.nq hf
def EZ(g:dv):dv:=GZ (mK g)
theorem zn(h:gb g)(hp:g.A1.A4=1):gb (EZ g):=by
 have h2:=h.r2 hp
 have h':gb {g with A1:={g.A1 with A4:=2}}:=⟨h.src,h.dl,h.r0,h.r1,λe=>absurd (show(2:Int)=1 from e) (by decide),h.s0,h.s1,h.rl,h.sf,h.tc,h.tl,h.tm,h.tg,h.tf,h.fl,h.fo,h.bl,h.bo,h.st⟩
 have r:=Zr8 h' h2 (λe=>absurd (show(2:Int)=1 from e) (by decide))
 exact⟨r.src,r.dl,r.r0,r.r1,λe=>absurd (show(2:Int)=1 from e) (by decide),r.s0,r.s1,r.rl,r.sf,r.tc,r.tl,r.tm,r.tg,r.tf,Me r.fl,sH r.fo (Zd0 r.src (Nat.le_of_eq r.rl)),r.bl,r.bo,r.st⟩
theorem yn{s:ia}(h:x∈sF s):∃f:Nat,f<8/\x=tK (s.A3.getD f 0) f (jG s.A0.Mem f).1:=by
 obtain⟨f,hf,rfl⟩:=List.mem_map.1 h
 exact⟨f,List.mem_range.1 hf,rfl⟩
theorem Z6x{s:ia}(h:x∈sF s++[uD s]):(∃f:Nat,f<8/\x=tK (s.A3.getD f 0) f (jG s.A0.Mem f).1)\/x=uD s:=by
 rcases List.mem_append.1 h with h|h
 ·exact .inl (yn h)
 ·exact .inr (List.mem_singleton.1 h)
theorem gb.Jm(h:gb g)(hl:l.length<=64)(ho:∀x∈l,jE x):gb {g with A7:=l}:=
 ⟨h.src,h.dl,h.r0,h.r1,h.r2,h.s0,h.s1,h.rl,h.sf,h.tc,h.tl,h.tm,h.tg,h.tf,hl,ho,h.bl,h.bo,h.st⟩
def Pf(g:dv):dv:={g with A7:=pf g.A7 (sF g.A1++[uD g.A1])}
theorem vn(h:gb g):gb (Pf g):=by
 refine h.Jm (l:=pf g.A7 (sF g.A1++[uD g.A1])) (Zkz h.fl) (Cu h.fo λy hy=>?_)
 rcases Z6x hy with⟨f,hf,rfl⟩|rfl
 ·exact Zlh h.rk hf
 ·exact Zd0 h.src (by have:=h.rl;omega)
theorem Jn{m:bg}(g:ic 8 m){clock:Int}(hc:U clock):∀n,ic 8 (lZ m clock n)
 |0=>g
 |n+1=>EY (Jn g hc n) hc
theorem qo{s:ia}{m:bg}:(rQ s m).B0.length=s.B3.B0.length/\(rQ s m).B9=s.B3.B9/\(rQ s m).D7=s.B3.D7:=by
 unfold rQ;split
 ·exact⟨Z37 _ _,rfl,rfl⟩
 ·exact⟨rfl,rfl,rfl⟩
theorem xap(h:gb g)(hc:U clock)(n:Int):gb (jX g n clock):=by
 unfold jX
 split
 ·obtain⟨e1,e2,e3⟩:=qo (s:=g.A1) (m:=lZ g.A1.A0 clock (runN n))
  exact⟨Jn h.src hc _,e1.trans h.dl,by show 0<=(rQ _ _).B9;rw[e2];exact h.r0,by show(rQ _ _).B9<=_;rw[e2];exact h.r1,λe=>by show(rQ _ _).B9<=_;rw[e2];exact h.r2 e,by show 0<=(rQ _ _).D7;rw[e3];exact h.s0,by show(rQ _ _).D7<=8*(rQ _ _).B9;rw[e2,e3];exact h.s1,h.rl,h.sf,h.tc,h.tl,h.tm,h.tg,h.tf,h.fl,h.fo,h.bl,h.bo,h.st⟩
 ·split
  ·rename_i hp
   have gt:=Jn (h.tg (.inr hp)) hc (runN n)
   exact⟨h.src,h.dl,h.r0,h.r1,h.r2,h.s0,h.s1,h.rl,h.sf,h.tc,h.tl,gt.nq,λ_=>gt,h.tf,h.fl,h.fo,h.bl,h.bo,h.st⟩
  ·exact h
structure UE(t:ia):Prop where
 tc:t.B3.B0.length<=8
 tl:t.A3.length=8
 tm:ej 8 t.A0.Mem
 tg:t.A4=2\/t.A4=3->ic 8 t.A0
 tf:t.C1.length<=8
theorem gb.t(h:gb g):UE g.A2:=⟨h.tc,h.tl,h.tm,h.tg,h.tf⟩
theorem gb.Jo(h:gb g){t:ia}(k:UE t):gb {g with A2:=t}:=
 ⟨h.src,h.dl,h.r0,h.r1,h.r2,h.s0,h.s1,h.rl,h.sf,k.tc,k.tl,k.tm,k.tg,k.tf,h.fl,h.fo,h.bl,h.bo,h.st⟩
theorem qaq{t:ia}(h:UE t)(hx:jE x):UE (iO t x):=by
 unfold iO
 split
 ·exact h
 ·rename_i hp
  split
  ·rename_i hk
   split
   ·rename_i hf
    obtain⟨f0,f1,hd⟩:=hx.pg hk
    obtain⟨f,e⟩:∃f:Nat,x.Frame=f:=⟨x.Frame.toNat,by omega⟩
    have hm:ej 8 (rO t.A0.Mem x.Frame x.F0).1:=by rw[e];exact Zoo h.tm (by omega) hd
    refine⟨h.tc,List.length_set.trans h.tl,hm,λhq=>?_,h.tf⟩
    have hq:(if t.A4=0 then(1:Int)else t.A4)=2\/(if t.A4=0 then(1:Int)else t.A4)=3:=hq
    refine Zsb (h.tg ?_) hm
    by_cases h0:t.A4=0
    ·rw[if_pos h0]at hq;omega
    ·rw[if_neg h0]at hq;exact hq
   ·exact h
  ·split
   ·rename_i hk
    split
    ·exact h
    ·exact⟨h.tc,h.tl,h.tm,λ_=>hx.stt hk _ h.tm,hx.rl⟩
   ·split
    ·exact⟨h.tc,h.tl,h.tm,λhq=>by have hq:(4:Int)=2\/(4:Int)=3:=hq;omega,h.tf⟩
    ·exact h
theorem G2{i:Int}(h:mX l i):pk l i∈l:=by
 obtain⟨h0,h1⟩:=h
 have hl:i.toNat<l.length:=by omega
 have e:pk l i=l[i.toNat]:=by simp[pk,aV,hl]
 rw[e];exact eV hl
theorem Pg{i:Int}(h:x∈ly l i):x∈l:=by
 rcases List.mem_append.1 h with h|h
 ·exact List.mem_of_mem_take h
 ·exact List.mem_of_mem_drop h
theorem xo{i:Int}(h:mX l i):(ly l i).length+1=l.length:=by
 obtain⟨h0,h1⟩:=h
 unfold ly
 rw[lA,aD,List.length_drop];omega
theorem zo{i:Int}(h:mX l i)(hx:x∈l):x∈ly l i\/x=pk l i:=by
 obtain⟨h0,h1⟩:=h
 have hl:i.toNat<l.length:=by omega
 have e:l=l.take i.toNat++l.drop i.toNat:=(List.take_append_drop ..).symm
 have e2:l.drop i.toNat=l[i.toNat]::l.drop (i.toNat+1):=aO hl
 have e3:pk l i=l[i.toNat]:=by simp[pk,aV,hl]
 rw[e,e2]at hx
 rcases List.mem_append.1 hx with h|h
 ·exact .inl (eU _ h)
 ·rcases List.mem_cons.1 h with h|h
  ·exact .inr (h.trans e3.symm)
  ·exact .inl (eZ _ h)
theorem gb.Fa(h:gb g)(hl:l.length<=64)(ho:∀x∈l,jE x):gb {g with C0:=l}:=
 ⟨h.src,h.dl,h.r0,h.r1,h.r2,h.s0,h.s1,h.rl,h.sf,h.tc,h.tl,h.tm,h.tg,h.tf,h.fl,h.fo,hl,ho,h.st⟩
theorem gb.F3(h:gb g)(b:Bool):(ma g b).length<=64/\∀x∈ma g b,jE x:=by
 cases b
 ·exact⟨h.fl,h.fo⟩
 ·exact⟨h.bl,h.bo⟩
theorem gb.set(h:gb g)(b:Bool)(hl:l.length<=64)(ho:∀x∈l,jE x):gb (pj g b l):=by
 cases b
 ·exact h.Jm hl ho
 ·exact h.Fa hl ho
theorem YG(h:gb g)(b:Bool)(i:Int):gb (tL g b i):=by
 unfold tL;split
 ·rename_i hi
  have:=xo hi
  have:=(h.F3 b).1
  exact h.set b (by omega) λx hx=>(h.F3 b).2 x (Pg hx)
 ·exact h
theorem yo(h:gb g)(b:Bool)(i:Int):gb (Bh g b i):=by
 unfold Bh;split
 ·rename_i hi
  exact h.set b (Me (h.F3 b).1) (sH (h.F3 b).2 ((h.F3 b).2 _ (G2 hi)))
 ·exact h
theorem gb.phase(h:gb g){p:Int}(hp:p=1->g.A1.B3.B9<=10):gb {g with A1:={g.A1 with A4:=p}}:=
 ⟨h.src,h.dl,h.r0,h.r1,hp,h.s0,h.s1,h.rl,h.sf,h.tc,h.tl,h.tm,h.tg,h.tf,h.fl,h.fo,h.bl,h.bo,h.st⟩
theorem zaq(h:gb g)(b:Bool)(hx:jE x):gb (Mh g b x):=by
 cases b
 ·exact h.Jo (qaq h.t hx)
 ·show gb (if g.A1.A4=2/\x.C2=3 then _ else g)
  split
  ·exact h.phase (λe=>absurd e (by decide))
  ·exact h
theorem Zd9(h:gb g)(b:Bool)(i:Int):gb (oj g b i):=by
 unfold oj;split
 ·rename_i hi
  exact zaq (YG h b i) b ((h.F3 b).2 _ (G2 hi))
 ·exact h
theorem zP(h:gb g)(b:Bool):gb (Pe g b):=by
 cases b
 ·exact h.phase (λe=>absurd e (by decide))
 ·exact h.Jo ⟨h.tc,h.tl,h.tm,λhq=>by have hq:(4:Int)=2\/(4:Int)=3:=hq;omega,h.tf⟩
def Av(g:dv):Prop:=∀f:Nat,f<8->
 g.A2.A3.getD f 0<=g.A1.A3.getD f 0/\
 g.A1.A3.getD f 0<=g.A1.B3.B9/\
 (g.A1.B3.B0.getD f false=false->0<g.A1.A3.getD f 0/\(g.A2.A3.getD f 0=g.A1.A3.getD f 0->(jG g.A1.A0.Mem f).1=(jG g.A2.A0.Mem f).1))/\
 ∀x∈g.A7,x.C2=1->x.Frame=f->x.B9<=g.A1.A3.getD f 0/\(g.A1.B3.B0.getD f false=false->x.B9=g.A1.A3.getD f 0->x.F0=(jG g.A1.A0.Mem f).1)
structure Cv(nc:Bool)(m:bg)(g:dv):Prop where
 sp:g.A1.A4=1
 gn:g.A9.D5=1/\g.A1.D5=1/\g.A2.D5=1
 mc:g.A1.A0=m
 tp:g.A2.A4=0\/g.A2.A4=1\/(g.A2.A4=4/\nc=false)
 ks:∀x∈g.A7,x.C2=1
 bk:g.C0=[]
 tr:Av g
structure G3(nc:Bool)(m:bg)(g:dv):Prop where
 sp:g.A1.A4=3\/(g.A1.A4=4/\nc=false)
 gn:g.A9.D5=1/\g.A1.D5=1/\g.A2.D5=1
 mc:g.A1.A4=3->g.A1.A0=m
 tp:g.A2.A4=0\/g.A2.A4=1\/g.A2.A4=4
 ks:∀x∈g.A7,x.C2=1\/x.C2=4
 bk:g.C0=[]
structure pn(nc:Bool)(m:bg)(g:dv):Prop where
 sp:g.A1.A4=2\/(g.A1.A4=4/\nc=false)
 gn:g.A9.D5=1/\g.A1.D5=1/\g.A2.D5=1
 mc:g.A1.A0=m
 cl:∀f,g.A1.B3.B0.getD f false=false
 tp:g.A2.A4=0\/g.A2.A4=1\/g.A2.A4=2\/(g.A2.A4=4/\nc=false)
 ks:∀x∈g.A7,x.C2=1\/(x.C2=2/\x.A0={m with Mem:=[]}/\x.A3=g.A1.A3)
 ts:g.A2.A4=2->g.A2.C1=g.A1.A3/\{g.A2.A0 with Mem:=[]}={m with Mem:=[]}
 bk:g.C0=[]
 tr:Av g
structure G4(nc:Bool)(m:bg)(g:dv):Prop where
 sp:g.A1.A4=3\/(g.A1.A4=4/\nc=false)
 gn:g.A9.D5=2/\g.A9.D6=0/\g.A2.D5=1
 mc:g.A1.A4=3->g.A1.A0=m
 tp:g.A2.A4≠3
 bk:g.C0=[]
structure Zu(nc:Bool)(m:bg)(g:dv):Prop where
 sp:g.A1.A4=2\/g.A1.A4=4
 gn:g.A9.D5=2/\g.A9.D6=1/\g.A1.D5=1
 tp:g.A2.A4=3\/(g.A2.A4=4/\nc=false)
 mc:g.A2.A4=3->g.A2.A0=m
def Zc(nc:Bool)(m:bg)(g:dv):Prop:=Cv nc m g\/G3 nc m g\/pn nc m g\/G4 nc m g\/Zu nc m g
def Inv(nc:Bool)(m:bg)(g:dv):Prop:=gb g/\Zc nc m g
theorem Zt0(f:Nat):(cO 8 false).getD f false=false:=by
 simp only[cX,fA]
 split<;>rfl
theorem Zpb(h:gb g)(t:Av g):Av (mK g):=by
 intro f hf
 obtain⟨t1,t2,t3,t4⟩:=t f hf
 have hg:(rP g.A1.A3 (ig g.A1.B3.B0 0) (g.A1.B3.B9+1)).getD f 0=if g.A1.B3.B0.getD f false=true then g.A1.B3.B9+1 else g.A1.A3.getD f 0:=by
  rw[Zdv xaa (by rw[h.rl];exact hf)]
  simp only[UC]
 show g.A2.A3.getD f 0<=(rP _ _ _).getD f 0/\(rP _ _ _).getD f 0<=g.A1.B3.B9+1/\((cO 8 false).getD f false=false->0<(rP _ _ _).getD f 0/\(g.A2.A3.getD f 0=(rP _ _ _).getD f 0->_))/\∀x∈pf _ _,x.C2=1->x.Frame=f->x.B9<=(rP _ _ _).getD f 0/\((cO 8 false).getD f false=false->x.B9=(rP _ _ _).getD f 0->_)
 have r0:=h.r0
 rw[hg]
 cases hd:g.A1.B3.B0.getD f false
 ·rw[if_neg (by decide)]
  refine⟨t1,by omega,λ_=>t3 hd,λx hx k1 k2=>?_⟩
  rcases Pd hx with hx|hx
  ·exact⟨(t4 x hx k1 k2).1,λ_=>(t4 x hx k1 k2).2 hd⟩
  ·obtain⟨f',UF,pq,rfl⟩:=UD h.dl hx
   have e:(f':Int)=f:=k2
   have e:f'=f:=by omega
   rw[e,hd]at pq;cases pq
 ·rw[if_pos rfl]
  refine⟨by omega,by omega,λ_=>⟨by omega,λe=>by omega⟩,λx hx k1 k2=>?_⟩
  rcases Pd hx with hx|hx
  ·have:=(t4 x hx k1 k2).1
   exact⟨by omega,λ_ e=>by omega⟩
  ·obtain⟨f',UF,pq,rfl⟩:=UD h.dl hx
   have e:(f':Int)=f:=k2
   have e:f'=f:=by omega
   subst e
   exact⟨eN _,λ_ _=>rfl⟩
theorem Av.pP(t:Av g)(hl:∀x∈l,x.C2=1->x∈g.A7\/∃f:Nat,f<8/\x=tK (g.A1.A3.getD f 0) f (jG g.A1.A0.Mem f).1):Av {g with A7:=l}:=by
 intro f hf
 obtain⟨t1,t2,t3,t4⟩:=t f hf
 refine⟨t1,t2,t3,λx hx k1 k2=>?_⟩
 rcases hl x hx k1 with hx|⟨f',UF,rfl⟩
 ·exact t4 x hx k1 k2
 ·have e:(f':Int)=f:=k2
  have e:f'=f:=by omega
  subst e
  exact⟨eN _,λ_ _=>rfl⟩
theorem vo{t:ia}(hk:x.C2=1):iO t x=t\/((t.A4=0\/t.A4=1\/t.A4=2)/\0<=x.Frame/\x.Frame<t.A3.length/\t.A3.getD x.Frame.toNat 0<x.B9/\iO t x={t with A4:=if t.A4=0 then 1 else t.A4,A0:={t.A0 with Mem:=(rO t.A0.Mem x.Frame x.F0).1},A3:=t.A3.set x.Frame.toNat x.B9}):=by
 by_cases hp:t.A4=0\/t.A4=1\/t.A4=2
 ·by_cases hc:0<=x.Frame/\x.Frame<t.A3.length/\t.A3.getD x.Frame.toNat 0<x.B9
  ·exact .inr ⟨hp,hc.1,hc.2.1,hc.2.2,by unfold iO;rw[if_neg (λh=>h hp),if_pos hk,if_pos hc]⟩
  ·exact .inl (by unfold iO;rw[if_neg (λh=>h hp),if_pos hk,if_neg hc])
 ·exact .inl (by unfold iO;rw[if_pos hp])
theorem Zex(h:gb g)(t:Av g)(hx:jE x)(hk:x.C2=1)(hm:∀f:Nat,f<8->x.Frame=f->x.B9<=g.A1.A3.getD f 0/\(g.A1.B3.B0.getD f false=false->x.B9=g.A1.A3.getD f 0->x.F0=(jG g.A1.A0.Mem f).1)):Av {g with A2:=iO g.A2 x}:=by
 obtain⟨f0,f1,hd⟩:=hx.pg hk
 obtain⟨k,ek⟩:∃f:Nat,x.Frame=f:=⟨x.Frame.toNat,by omega⟩
 have k8:k<8:=by omega
 intro f hf
 obtain⟨t1,t2,t3,t4⟩:=t f hf
 rcases vo (t:=g.A2) hk with e|⟨_,_,_,_,e⟩
 ·rw[e];exact⟨t1,t2,t3,t4⟩
 ·rw[e]
  obtain⟨m1,m2⟩:=hm k k8 ek
  have tl:=h.tl
  have sg:(g.A2.A3.set k x.B9).getD f 0=if k=f then x.B9 else g.A2.A3.getD f 0:=Gf (by omega)
  show(g.A2.A3.set x.Frame.toNat x.B9).getD f 0<=_/\_/\(_->_/\((g.A2.A3.set x.Frame.toNat x.B9).getD f 0=_->_=(jG (rO g.A2.A0.Mem x.Frame x.F0).1 f).1))/\_
  rw[ek,dX,sg]
  by_cases e:k=f
  ·subst e
   rw[if_pos rfl]
   exact⟨m1,t2,λd=>⟨(t3 d).1,λe2=>by rw[Zop h.tm k8 hd];exact(m2 d e2).symm⟩,t4⟩
  ·rw[if_neg e]
   exact⟨t1,t2,λd=>⟨(t3 d).1,λe2=>by rw[Znc h.tm k8 hf (λe3=>e e3.symm) hd];exact(t3 d).2 e2⟩,t4⟩
theorem Mi{t:ia}(hk:x.C2=1):(t.A4=0/\(iO t x).A4=1)\/(iO t x).A4=t.A4:=by
 rcases vo (t:=t) hk with e|⟨_,_,_,_,e⟩
 ·rw[e];exact .inr rfl
 ·rw[e]
  by_cases h:t.A4=0
  ·exact .inl ⟨h,by show(if t.A4=0 then(1:Int)else t.A4)=1;rw[if_pos h]⟩
  ·exact .inr (by show(if t.A4=0 then(1:Int)else t.A4)=_;rw[if_neg h])
theorem Zjd{t:ia}(hk:x.C2=1):(iO t x).D5=t.D5/\(iO t x).C1=t.C1/\{(iO t x).A0 with Mem:=[]}={t.A0 with Mem:=[]}:=by
 rcases vo (t:=t) hk with e|⟨_,_,_,_,e⟩<;>rw[e]<;>exact⟨rfl,rfl,rfl⟩
theorem Zqn{t:ia}:(iO t x).D5=t.D5:=by
 unfold iO
 repeat' split
 all_goals rfl
theorem qp{t:ia}(h:t.A4=3\/t.A4=4):iO t x=t:=by
 unfold iO
 rw[if_pos (by omega)]
theorem xaq{t:ia}(h:t.A4≠3):(iO t x).A4≠3:=by
 by_cases hk:x.C2=1
 ·rcases Mi (t:=t) hk with⟨a,b⟩|b<;>omega
 ·unfold iO
  split
  ·exact h
  split
  ·split
   ·exact h
   ·show(2:Int)≠3;decide
  ·split
   ·show(4:Int)≠3;decide
   ·exact h
theorem xp{t:ia}(hk:x.C2=2)(hp:t.A4=0\/t.A4=1):iO t x={t with A4:=2,A0:={x.A0 with Mem:=t.A0.Mem},C1:=x.A3}:=by
 unfold iO
 rw[if_neg (by omega),if_neg (by omega),if_pos hk,if_neg (by omega)]
theorem zp{t:ia}(hk:x.C2=2)(hp:t.A4=2):iO t x=t:=by
 unfold iO
 rw[if_neg (by omega),if_neg (by omega),if_pos hk,if_pos hp]
theorem qaI{t:ia}(hk:x.C2=4):(iO t x).A4=4\/iO t x=t:=by
 by_cases hp:t.A4=0\/t.A4=1\/t.A4=2
 ·exact .inl (by unfold iO;rw[if_neg (λh=>h hp),if_neg (by omega),if_neg (by omega),if_pos hk])
 ·exact .inr (by unfold iO;rw[if_pos hp])
def uE(m:bg)(g:dv)(a:kT):bg:=if a.C2=1/\0<=kb g then lZ m a.F8 (runN a.N)else m
theorem Ph(h:g.A1.A4=1\/g.A1.A4=3):kb g=0:=if_pos h
theorem qab(h:g.A1.A4=2\/g.A1.A4=4)(t:g.A2.A4=3):kb g=1:=by
 unfold kb;rw[if_neg (by omega),if_pos t]
theorem UG(h:g.A1.A4=2\/g.A1.A4=4)(t:g.A2.A4≠3):kb g= -1:=by
 unfold kb;rw[if_neg (by omega),if_neg t]
section
variable {nc:Bool} {m:bg} {g:dv}
theorem Inv.ok(h:Inv nc m g):gb g:=h.1
theorem qar(h:Inv nc m g)(hc:U clock)(n:Int):Inv nc (if 0<=kb g then lZ m clock (runN n)else m) (jX g n clock):=by
 obtain⟨ok,c⟩:=h
 refine⟨xap ok hc n,?_⟩
 rcases c with c|c|c|c|c
 ·have hr:kb g=0:=Ph (.inl c.sp)
  have e:jX g n clock={g with A1:={g.A1 with A0:=lZ g.A1.A0 clock (runN n),B3:=rQ g.A1 (lZ g.A1.A0 clock (runN n))}}:=if_pos (.inl c.sp)
  rw[hr,if_pos (by decide),e]
  have sg:=Jn ok.src hc (runN n)
  have en:rQ g.A1 (lZ g.A1.A0 clock (runN n))={g.A1.B3 with B0:=rj g.A1.B3.B0 (DX g.A1.A0.Mem (lZ g.A1.A0 clock (runN n)).Mem)}:=if_pos c.sp
  refine .inl ⟨c.sp,c.gn,by rw[<-c.mc],c.tp,c.ks,c.bk,λf hf=>?_⟩
  obtain⟨t1,t2,t3,t4⟩:=c.tr f hf
  rw[en]
  show _/\_/\((rj g.A1.B3.B0 _).getD f false=false->_/\(_->(jG (lZ g.A1.A0 clock (runN n)).Mem f).1=_))/\∀x∈g.A7,_->_->_/\((rj g.A1.B3.B0 _).getD f false=false->_->_=(jG (lZ g.A1.A0 clock (runN n)).Mem f).1)
  have dl:=ok.dl
  have no:(rj g.A1.B3.B0 (DX g.A1.A0.Mem (lZ g.A1.A0 clock (runN n)).Mem)).getD f false=false->g.A1.B3.B0.getD f false=false/\(jG g.A1.A0.Mem f).1=(jG (lZ g.A1.A0 clock (runN n)).Mem f).1:=λhd=>by
   constructor
   ·cases h:g.A1.B3.B0.getD f false with
    |false=>rfl
    |true=>rw[Ux (by omega) (.inl h)]at hd;cases hd
   ·refine yO ok.rk sg.nq hf λh=>?_
    rw[Ux (by omega) (.inr h)]at hd;cases hd
  refine⟨t1,t2,λd=>?_,λx hx k1 k2=>⟨(t4 x hx k1 k2).1,λd e=>?_⟩⟩
  ·obtain⟨d1,d2⟩:=no d
   exact⟨(t3 d1).1,λe=>by rw[<-d2];exact(t3 d1).2 e⟩
  ·obtain⟨d1,d2⟩:=no d
   rw[<-d2];exact(t4 x hx k1 k2).2 d1 e
 ·rcases c.sp with sp|⟨sp,np⟩
  ·have hr:kb g=0:=Ph (.inr sp)
   have e:jX g n clock={g with A1:={g.A1 with A0:=lZ g.A1.A0 clock (runN n),B3:=rQ g.A1 (lZ g.A1.A0 clock (runN n))}}:=if_pos (.inr sp)
   rw[hr,if_pos (by decide),e]
   exact .inr (.inl ⟨.inl sp,c.gn,λ_=>by rw[<-c.mc sp],c.tp,c.ks,c.bk⟩)
  ·have hr:kb g= -1:=UG (.inr sp) (by have:=c.tp;omega)
   have e:jX g n clock=g:=by unfold jX;rw[if_neg (by omega),if_neg (by have:=c.tp;omega)]
   rw[hr,if_neg (by decide),e]
   exact .inr (.inl c)
 ·have tp:=c.tp
  have sp:g.A1.A4=2\/g.A1.A4=4:=by have:=c.sp;omega
  have hr:kb g= -1:=UG sp (by omega)
  have e:jX g n clock=g:=by unfold jX;rw[if_neg (by omega),if_neg (by omega)]
  rw[hr,if_neg (by decide),e]
  exact .inr (.inr (.inl c))
 ·rcases c.sp with sp|⟨sp,np⟩
  ·have hr:kb g=0:=Ph (.inr sp)
   have e:jX g n clock={g with A1:={g.A1 with A0:=lZ g.A1.A0 clock (runN n),B3:=rQ g.A1 (lZ g.A1.A0 clock (runN n))}}:=if_pos (.inr sp)
   rw[hr,if_pos (by decide),e]
   exact .inr (.inr (.inr (.inl ⟨.inl sp,c.gn,λ_=>by rw[<-c.mc sp],c.tp,c.bk⟩)))
  ·have hr:kb g= -1:=UG (.inr sp) c.tp
   have e:jX g n clock=g:=by unfold jX;rw[if_neg (by omega),if_neg c.tp]
   rw[hr,if_neg (by decide),e]
   exact .inr (.inr (.inr (.inl c)))
 ·rcases c.tp with tp|⟨tp,np⟩
  ·have hr:kb g=1:=qab c.sp tp
   have sp:=c.sp
   have e:jX g n clock={g with A2:={g.A2 with A0:=lZ g.A2.A0 clock (runN n)}}:=by unfold jX;rw[if_neg (by omega),if_pos tp]
   rw[hr,if_pos (by decide),e]
   exact .inr (.inr (.inr (.inr ⟨c.sp,c.gn,.inl tp,λ_=>by rw[<-c.mc tp]⟩)))
  ·have sp:=c.sp
   have hr:kb g= -1:=UG sp (by omega)
   have e:jX g n clock=g:=by unfold jX;rw[if_neg (by omega),if_neg (by omega)]
   rw[hr,if_neg (by decide),e]
   exact .inr (.inr (.inr (.inr c)))
theorem UH(ok:gb g)(c:Cv nc m g):Cv nc m (mK g):=
 ⟨c.sp,c.gn,c.mc,c.tp,λx hx=>by
  rcases Pd hx with hx|hx
  ·exact c.ks x hx
  ·obtain⟨f,_,_,rfl⟩:=UD ok.dl hx;rfl,c.bk,Zpb ok c.tr⟩
theorem Zjs(h:Inv nc m g):Inv nc m (if g.A1.A4=1/\g.A1.B3.B9<10 then Mf g else g):=by
 split
 ·rename_i hp
  obtain⟨ok,c⟩:=h
  rw[Jl ok (by omega)]
  refine⟨Zr8 ok (by omega) (λ_=>by omega),?_⟩
  rcases c with c|c|c|c|c
  ·exact .inl (UH ok c)
  ·have:=c.sp;omega
  ·have:=c.sp;omega
  ·have:=c.sp;omega
  ·have:=c.sp;omega
 ·exact h
theorem YH(ok:gb g)(c:Cv nc m g):pn nc m (EZ g):=by
 have r:=UH ok c
 refine⟨.inl rfl,r.gn,r.mc,λf=>Zt0 f,?_,λx hx=>?_,λh=>?_,r.bk,?_⟩
 ·have:=r.tp
  rcases this with p|p|p
  ·exact .inl p
  ·exact .inr (.inl p)
  ·exact .inr (.inr (.inr p))
 ·rcases Md hx with hx|hx
  ·exact .inl (r.ks x hx)
  ·rw[hx];exact .inr ⟨rfl,by rw[<-r.mc];rfl,rfl⟩
 ·have h:(mK g).A2.A4=2:=h
  have:=r.tp
  omega
 ·refine Av.pP (g:={mK g with A1:={(mK g).A1 with A4:=2}}) r.tr (l:=gy (mK g).A7 (uD (mK g).A1)) λx hx k1=>?_
  rcases Md hx with hx|hx
  ·exact .inl hx
  ·rw[hx]at k1;exact absurd (show(2:Int)=1 from k1) (by decide)
theorem yP(h:Inv nc m g)(fm:Int):Inv nc m (DY g fm):=by
 unfold DY
 split
 ·rename_i hp
  obtain⟨ok,c⟩:=h
  rw[Jl ok (ok.r2 hp.1)]
  refine⟨zn ok hp.1,?_⟩
  rcases c with c|c|c|c|c
  ·exact .inr (.inr (.inl (YH ok c)))
  ·have:=c.sp;omega
  ·have:=c.sp;omega
  ·have:=c.sp;omega
  ·have:=c.sp;omega
 ·exact h
theorem pn.pP(c:pn nc m g)(hk:∀x∈l,x∈g.A7\/(∃f:Nat,f<8/\x=tK (g.A1.A3.getD f 0) f (jG g.A1.A0.Mem f).1)\/x=uD g.A1):pn nc m {g with A7:=l}:=by
 refine⟨c.sp,c.gn,c.mc,c.cl,c.tp,λx hx=>?_,c.ts,c.bk,c.tr.pP λx hx k1=>?_⟩
 ·rcases hk x hx with h|⟨f,hf,rfl⟩|rfl
  ·exact c.ks x h
  ·exact .inl rfl
  ·exact .inr ⟨rfl,by rw[<-c.mc];rfl,rfl⟩
 ·rcases hk x hx with h|h|rfl
  ·exact .inl h
  ·exact .inr h
  ·exact absurd (show(2:Int)=1 from k1) (by decide)
theorem Zm9(c:pn nc m g):pn nc m (Pf g):=
 pn.pP c (l:=pf g.A7 (sF g.A1++[uD g.A1])) λx hx=>by
  rcases Pd hx with hx|hx
  ·exact .inl hx
  ·exact .inr (Z6x hx)
theorem Ztz(h:Inv nc m g):Inv nc m (Mg g):=by
 unfold Mg
 split
 ·rename_i hp
  obtain⟨ok,c⟩:=h
  refine⟨vn ok,?_⟩
  rcases c with c|c|c|c|c
  ·have:=c.sp;omega
  ·have:=c.sp;omega
  ·exact .inr (.inr (.inl (Zm9 c)))
  ·have:=c.sp;omega
  ·exact .inr (.inr (.inr (.inr ⟨c.sp,c.gn,c.tp,c.mc⟩)))
 ·exact h
theorem UI(c:Zc nc m g)(b:Bool)(hl:∀x∈l,x∈ma g b):Zc nc m (pj g b l):=by
 cases b
 ·have hl:∀x∈l,x∈g.A7:=hl
  show Zc nc m {g with A7:=l}
  rcases c with c|c|c|c|c
  ·exact .inl ⟨c.sp,c.gn,c.mc,c.tp,λx hx=>c.ks x (hl x hx),c.bk,c.tr.pP λx hx _=>.inl (hl x hx)⟩
  ·exact .inr (.inl ⟨c.sp,c.gn,c.mc,c.tp,λx hx=>c.ks x (hl x hx),c.bk⟩)
  ·exact .inr (.inr (.inl ⟨c.sp,c.gn,c.mc,c.cl,c.tp,λx hx=>c.ks x (hl x hx),c.ts,c.bk,c.tr.pP λx hx _=>.inl (hl x hx)⟩))
  ·exact .inr (.inr (.inr (.inl ⟨c.sp,c.gn,c.mc,c.tp,c.bk⟩)))
  ·exact .inr (.inr (.inr (.inr ⟨c.sp,c.gn,c.tp,c.mc⟩)))
 ·have hl:∀x∈l,x∈g.C0:=hl
  have hb:g.C0=[]->l=[]:=λe=>by
   cases l with
   |nil=>rfl
   |cons y l=>have:=hl y (eW ..);rw[e]at this;cases this
  show Zc nc m {g with C0:=l}
  rcases c with c|c|c|c|c
  ·exact .inl ⟨c.sp,c.gn,c.mc,c.tp,c.ks,hb c.bk,c.tr⟩
  ·exact .inr (.inl ⟨c.sp,c.gn,c.mc,c.tp,c.ks,hb c.bk⟩)
  ·exact .inr (.inr (.inl ⟨c.sp,c.gn,c.mc,c.cl,c.tp,c.ks,c.ts,hb c.bk,c.tr⟩))
  ·exact .inr (.inr (.inr (.inl ⟨c.sp,c.gn,c.mc,c.tp,hb c.bk⟩)))
  ·exact .inr (.inr (.inr (.inr ⟨c.sp,c.gn,c.tp,c.mc⟩)))
theorem vP(h:Inv nc m g)(b:Bool)(i:Int):Inv nc m (tL g b i):=by
 refine⟨YG h.1 b i,?_⟩
 unfold tL;split
 ·exact UI h.2 b λx hx=>Pg hx
 ·exact h.2
theorem Zv4(h:Inv nc m g)(b:Bool)(i:Int):Inv nc m (Bh g b i):=by
 refine⟨yo h.1 b i,?_⟩
 unfold Bh;split
 ·rename_i hi
  refine UI h.2 b λx hx=>?_
  rcases Md hx with hx|hx
  ·exact hx
  ·rw[hx];exact G2 hi
 ·exact h.2
theorem yp(h:Inv nc m g)(b:Bool)(hn:nc=false):Inv nc m (Pe g b):=by
 obtain⟨ok,c⟩:=h
 refine⟨zP ok b,?_⟩
 cases b
 ·show Zc nc m {g with A1:={g.A1 with A4:=4}}
  have n3:({g.A1 with A4:=4}:ia).A4=3->False:=λe=>absurd (show(4:Int)=3 from e) (by decide)
  rcases c with c|c|c|c|c
  ·exact .inr (.inl ⟨.inr ⟨rfl,hn⟩,c.gn,λe=>(n3 e).elim,by have:=c.tp;show g.A2.A4=0\/g.A2.A4=1\/g.A2.A4=4;omega,λx hx=>.inl (c.ks x hx),c.bk⟩)
  ·exact .inr (.inl ⟨.inr ⟨rfl,hn⟩,c.gn,λe=>(n3 e).elim,c.tp,c.ks,c.bk⟩)
  ·exact .inr (.inr (.inl ⟨.inr ⟨rfl,hn⟩,c.gn,c.mc,c.cl,c.tp,c.ks,c.ts,c.bk,c.tr⟩))
  ·exact .inr (.inr (.inr (.inl ⟨.inr ⟨rfl,hn⟩,c.gn,λe=>(n3 e).elim,c.tp,c.bk⟩)))
  ·exact .inr (.inr (.inr (.inr ⟨.inr rfl,c.gn,c.tp,c.mc⟩)))
 ·show Zc nc m {g with A2:={g.A2 with A4:=4}}
  have n2:({g.A2 with A4:=4}:ia).A4=2->False:=λe=>absurd (show(4:Int)=2 from e) (by decide)
  have n3:({g.A2 with A4:=4}:ia).A4=3->False:=λe=>absurd (show(4:Int)=3 from e) (by decide)
  rcases c with c|c|c|c|c
  ·exact .inl ⟨c.sp,c.gn,c.mc,.inr (.inr ⟨rfl,hn⟩),c.ks,c.bk,c.tr⟩
  ·exact .inr (.inl ⟨c.sp,c.gn,c.mc,.inr (.inr rfl),c.ks,c.bk⟩)
  ·exact .inr (.inr (.inl ⟨c.sp,c.gn,c.mc,c.cl,.inr (.inr (.inr ⟨rfl,hn⟩)),c.ks,λe=>(n2 e).elim,c.bk,c.tr⟩))
  ·exact .inr (.inr (.inr (.inl ⟨c.sp,c.gn,c.mc,λe=>n3 e,c.bk⟩)))
  ·exact .inr (.inr (.inr (.inr ⟨c.sp,c.gn,.inr ⟨rfl,hn⟩,λe=>(n3 e).elim⟩)))
theorem Zsl(ok:gb g)(c:Zc nc m g)(ox:jE x)(hx:x∈g.A7):Zc nc m {g with A2:=iO g.A2 x}:=by
 rcases c with c|c|c|c|c
 ·have k:x.C2=1:=c.ks x hx
  have q:=Zjd (t:=g.A2) (x:=x) k
  refine .inl ⟨c.sp,⟨c.gn.1,c.gn.2.1,q.1.trans c.gn.2.2⟩,c.mc,?_,c.ks,c.bk,?_⟩
  ·show(iO g.A2 x).A4=0\/(iO g.A2 x).A4=1\/((iO g.A2 x).A4=4/\nc=false)
   rcases Mi (t:=g.A2) k with⟨a,b⟩|b
   ·exact .inr (.inl b)
   ·rw[b];exact c.tp
  ·exact Zex ok c.tr ox k (λf hf ef=>(c.tr f hf).2.2.2 x hx k ef)
 ·have k:x.C2=1\/x.C2=4:=c.ks x hx
  refine .inr (.inl ⟨c.sp,⟨c.gn.1,c.gn.2.1,Zqn.trans c.gn.2.2⟩,c.mc,?_,c.ks,c.bk⟩)
  have:=c.tp
  show(iO g.A2 x).A4=0\/(iO g.A2 x).A4=1\/(iO g.A2 x).A4=4
  rcases k with k|k
  ·rcases Mi (t:=g.A2) k with⟨a,b⟩|b<;>omega
  ·rcases qaI (t:=g.A2) k with b|b
   ·omega
   ·rw[b];exact this
 ·have k:x.C2=1\/(x.C2=2/\x.A0={m with Mem:=[]}/\x.A3=g.A1.A3):=c.ks x hx
  have tp:=c.tp
  rcases k with k|⟨k,e1,e2⟩
  ·have q:=Zjd (t:=g.A2) (x:=x) k
   have tr:Av {g with A2:=iO g.A2 x}:=Zex ok c.tr ox k (λf hf ef=>(c.tr f hf).2.2.2 x hx k ef)
   refine .inr (.inr (.inl ⟨c.sp,⟨c.gn.1,c.gn.2.1,q.1.trans c.gn.2.2⟩,c.mc,c.cl,?_,c.ks,λh2=>?_,c.bk,tr⟩))
   ·show(iO g.A2 x).A4=0\/(iO g.A2 x).A4=1\/(iO g.A2 x).A4=2\/((iO g.A2 x).A4=4/\nc=false)
    rcases Mi (t:=g.A2) k with⟨a,b⟩|b
    ·exact .inr (.inl b)
    ·rw[b];exact tp
   ·have h2:(iO g.A2 x).A4=2:=h2
    have h3:g.A2.A4=2:=by rcases Mi (t:=g.A2) k with⟨a,b⟩|b<;>omega
    exact⟨q.2.1.trans (c.ts h3).1,q.2.2.trans (c.ts h3).2⟩
  ·rcases tp with tp|tp|tp|⟨tp,np⟩
   ·rw[xp k (.inl tp)]
    exact .inr (.inr (.inl ⟨c.sp,c.gn,c.mc,c.cl,.inr (.inr (.inl rfl)),c.ks,λ_=>⟨e2,by rw[e1]⟩,c.bk,c.tr⟩))
   ·rw[xp k (.inr tp)]
    exact .inr (.inr (.inl ⟨c.sp,c.gn,c.mc,c.cl,.inr (.inr (.inl rfl)),c.ks,λ_=>⟨e2,by rw[e1]⟩,c.bk,c.tr⟩))
   ·rw[zp k tp];exact .inr (.inr (.inl c))
   ·rw[qp (.inr tp)];exact .inr (.inr (.inl c))
 ·exact .inr (.inr (.inr (.inl ⟨c.sp,⟨c.gn.1,c.gn.2.1,Zqn.trans c.gn.2.2⟩,c.mc,xaq c.tp,c.bk⟩)))
 ·rw[qp (by have:=c.tp;omega)];exact .inr (.inr (.inr (.inr c)))
end
section
variable {nc:Bool} {m:bg} {g:dv}
theorem Z86(h:Inv nc m g)(b:Bool)(i:Int):Inv nc m (oj g b i):=by
 refine⟨Zd9 h.1 b i,?_⟩
 obtain⟨ok,c⟩:=h
 unfold oj
 split
 ·rename_i hi
  have hx:=G2 hi
  have ox:=(ok.F3 b).2 _ hx
  have el:tL g b i=pj g b (ly (ma g b) i):=if_pos hi
  rw[el]
  cases b
  ·exact UI (Zsl ok c ox hx) false λx hx=>(Pg hx:x∈g.A7)
  ·by_cases hc:(pj g true (ly (ma g true) i)).A1.A4=2/\(pk (ma g true) i).C2=3
   ·have eg:Mh (pj g true (ly (ma g true) i)) true (pk (ma g true) i)={g with C0:=ly g.C0 i,A1:={g.A1 with A4:=4}}:=if_pos hc
    rw[eg]
    have hb:g.C0≠[]:=λe=>by have hx:_∈g.C0:=hx;rw[e]at hx;cases hx
    rcases c with d|d|d|d|d
    ·exact absurd d.bk hb
    ·exact absurd d.bk hb
    ·exact absurd d.bk hb
    ·exact absurd d.bk hb
    ·exact .inr (.inr (.inr (.inr ⟨.inr rfl,d.gn,d.tp,d.mc⟩)))
   ·have eg:Mh (pj g true (ly (ma g true) i)) true (pk (ma g true) i)=pj g true (ly (ma g true) i):=if_neg hc
    rw[eg]
    exact UI c true λx hx=>Pg hx
 ·exact c
theorem gb.store(h:gb g){s:gj}(hs:Cr s):gb {g with A9:=s}:=
 ⟨h.src,h.dl,h.r0,h.r1,h.r2,h.s0,h.s1,h.rl,h.sf,h.tc,h.tl,h.tm,h.tg,h.tf,h.fl,h.fo,h.bl,h.bo,hs⟩
theorem vp(ok:gb g)(c:pn nc m g)(hf:Ct g):g.A2.A0=m:=by
 obtain⟨h1,h2⟩:=hf
 obtain⟨f1,f2⟩:=c.ts h1
 have e:g.A2.A0.Mem=m.Mem:=by
  rw[<-c.mc]
  refine(vm ok.rk ok.tm λf hf=>?_).symm
  exact((c.tr f hf).2.2.1 (c.cl f)).2 (by rw[h2,f1])
 have q:∀a:bg,a={({a with Mem:=[]}:bg)with Mem:=a.Mem}:=λa=>rfl
 rw[q g.A2.A0,f2,e]
theorem Zlw{s:gj}(h:Cr s){host seen:Int}(h0:0<=host)(e1:s.D5=1)(e2:seen=1):mr s host seen=({s with D5:=2,D6:=host},true):=by
 rw[Zqi h h0,if_pos (e1.trans e2.symm),e1];rfl
theorem Zry{s:gj}(h:Cr s){host seen:Int}(h0:0<=host)(e:s.D5≠seen):mr s host seen=(s,false):=by
 rw[Zqi h h0,if_neg e]
theorem qq(ok:gb g)(c:pn nc m g)(hf:Ct g):sG g={g with A9:={g.A9 with D5:=2,D6:=1},A2:={g.A2 with A4:=3,D5:=2},C0:=gy g.C0 (Cs 3)}:=by
 unfold sG
 rw[if_pos hf,Zlw ok.st (by decide) c.gn.1 c.gn.2.2,if_pos rfl]
theorem Zro(ok:gb g)(c:pn nc m g)(hf:Ct g):gb (sG g)/\Zu nc m (sG g)/\(sG g).A2.A4=3:=by
 rw[qq ok c hf]
 obtain⟨b1,b2,b3,b4,b5⟩:=ok.st
 have hm:=vp ok c hf
 refine⟨⟨ok.src,ok.dl,ok.r0,ok.r1,ok.r2,ok.s0,ok.s1,ok.rl,ok.sf,ok.tc,ok.tl,ok.tm,λ_=>ok.tg (.inl hf.1),ok.tf,ok.fl,ok.fo,Me ok.bl,sH ok.bo (YE (by decide) (by decide)),b1,b2,by show(1:Int)<=2;decide,by show(2:Int)<=2;decide,by show(0:Int)<=1;decide⟩,?_,rfl⟩
 exact⟨by have:=c.sp;show g.A1.A4=2\/g.A1.A4=4;omega,⟨rfl,rfl,c.gn.2.1⟩,.inl rfl,λ_=>hm⟩
theorem Zu7(h:Inv nc m g):Inv nc m (sG g):=by
 obtain⟨ok,c⟩:=h
 by_cases hf:Ct g
 ·rcases c with c|c|c|c|c
  ·have:=c.tp;have:=hf.1;omega
  ·have:=c.tp;have:=hf.1;omega
  ·obtain⟨a,b,_⟩:=Zro ok c hf
   exact⟨a,.inr (.inr (.inr (.inr b)))⟩
  ·have e:sG g={g with A2:={g.A2 with A4:=4}}:=by
    unfold sG
    rw[if_pos hf,Zry ok.st (by decide) (by rw[c.gn.1,c.gn.2.2];decide),if_neg fB]
   rw[e]
   refine⟨ok.Jo ⟨ok.tc,ok.tl,ok.tm,λhq=>by have hq:(4:Int)=2\/(4:Int)=3:=hq;omega,ok.tf⟩,.inr (.inr (.inr (.inl ⟨c.sp,c.gn,c.mc,by show(4:Int)≠3;decide,c.bk⟩)))⟩
  ·have:=c.tp;have:=hf.1;omega
 ·have e:sG g=g:=if_neg hf
  rw[e];exact⟨ok,c⟩
theorem qQ(ok:gb g)(c:Cv nc m g):gb (om g)/\G3 nc m (om g):=by
 have e:om g={g with A1:={g.A1 with A4:=3},A7:=gy g.A7 (Cs 4)}:=if_pos c.sp
 rw[e]
 have k:=ok.phase (p:=3) (λe=>absurd e (by decide))
 refine⟨k.Jm (Me ok.fl) (sH ok.fo (YE (by decide) (by decide))),.inl rfl,c.gn,λ_=>c.mc,by have:=c.tp;show g.A2.A4=0\/g.A2.A4=1\/g.A2.A4=4;omega,λx hx=>?_,c.bk⟩
 rcases Md hx with hx|rfl
 ·exact .inl (c.ks x hx)
 ·exact .inr rfl
theorem xq(ok:gb g)(c:pn nc m g)(hp:g.A1.A4=2):om g={g with A9:={g.A9 with D5:=2,D6:=0},A1:={g.A1 with A4:=3,D5:=2},A7:=gy g.A7 (Cs 4)}:=by
 unfold om
 rw[if_neg (by omega),if_pos hp,Zlw ok.st (by decide) c.gn.1 c.gn.2.1,if_pos rfl]
theorem xQ(ok:gb g)(c:pn nc m g)(hp:g.A1.A4=2):gb (om g)/\G4 nc m (om g)/\(om g).A1.A4=3:=by
 rw[xq ok c hp]
 obtain⟨b1,b2,b3,b4,b5⟩:=ok.st
 refine⟨⟨ok.src,ok.dl,ok.r0,ok.r1,λe=>absurd (show(3:Int)=1 from e) (by decide),ok.s0,ok.s1,ok.rl,ok.sf,ok.tc,ok.tl,ok.tm,ok.tg,ok.tf,Me ok.fl,sH ok.fo (YE (by decide) (by decide)),ok.bl,ok.bo,b1,b2,by show(1:Int)<=2;decide,by show(2:Int)<=2;decide,by show(0:Int)<=0;decide⟩,?_,rfl⟩
 exact⟨.inl rfl,⟨rfl,rfl,c.gn.2.2⟩,λ_=>c.mc,by have:=c.tp;show g.A2.A4≠3;omega,c.bk⟩
theorem zQ(ok:gb g)(c:Zu nc m g):gb (om g)/\Zu nc m (om g)/\(om g).A2=g.A2:=by
 have sp:=c.sp
 by_cases hp:g.A1.A4=2
 ·have e:om g={g with A1:={g.A1 with A4:=4}}:=by
   unfold om
   rw[if_neg (by omega),if_pos hp,Zry ok.st (by decide) (by rw[c.gn.1,c.gn.2.2];decide),if_neg fB]
  rw[e]
  exact⟨ok.phase (λe=>absurd e (by decide)),⟨.inr rfl,c.gn,c.tp,c.mc⟩,rfl⟩
 ·have e:om g=g:=by unfold om;rw[if_neg (by omega),if_neg hp]
  rw[e];exact⟨ok,c,rfl⟩
theorem Ztj(h:Inv nc m g):Inv nc m (om g):=by
 obtain⟨ok,c⟩:=h
 have no:g.A1.A4≠1->g.A1.A4≠2->om g=g:=λa b=>by unfold om;rw[if_neg a,if_neg b]
 rcases c with c|c|c|c|c
 ·obtain⟨a,b⟩:=qQ ok c;exact⟨a,.inr (.inl b)⟩
 ·have:=c.sp
  rw[no (by omega) (by omega)];exact⟨ok,.inr (.inl c)⟩
 ·rcases c.sp with p|⟨p,_⟩
  ·obtain⟨a,b,_⟩:=xQ ok c p;exact⟨a,.inr (.inr (.inr (.inl b)))⟩
  ·rw[no (by omega) (by omega)];exact⟨ok,.inr (.inr (.inl c))⟩
 ·have:=c.sp
  rw[no (by omega) (by omega)];exact⟨ok,.inr (.inr (.inr (.inl c)))⟩
 ·obtain⟨a,b,_⟩:=zQ ok c;exact⟨a,.inr (.inr (.inr (.inr b)))⟩
theorem zaI(h:Inv nc m g){a:kT}(hc:U a.F8)(hn:nc=true->a.C2≠10):Inv nc (uE m g a) (Bi g a).1:=by
 unfold Bi uE
 by_cases k1:a.C2=1
 ·rw[if_pos k1]
  have:=qar h hc a.N
  by_cases hr:0<=kb g
  ·rw[if_pos ⟨k1,hr⟩];rw[if_pos hr]at this;exact this
  ·rw[if_neg (λh=>hr h.2)];rw[if_neg hr]at this;exact this
 rw[if_neg k1,if_neg (λh=>k1 h.1)]
 by_cases k2:a.C2=2
 ·rw[if_pos k2];exact Zjs h
 rw[if_neg k2]
 by_cases k3:a.C2=3
 ·rw[if_pos k3];exact yP h _
 rw[if_neg k3]
 by_cases k4:a.C2=4
 ·rw[if_pos k4];exact Ztz h
 rw[if_neg k4]
 by_cases k5:a.C2=5
 ·rw[if_pos k5];exact Z86 h _ _
 rw[if_neg k5]
 by_cases k6:a.C2=6
 ·rw[if_pos k6];exact vP h _ _
 rw[if_neg k6]
 by_cases k7:a.C2=7
 ·rw[if_pos k7];exact Zv4 h _ _
 rw[if_neg k7]
 by_cases k8:a.C2=8
 ·rw[if_pos k8];exact Zu7 h
 rw[if_neg k8]
 by_cases k9:a.C2=9
 ·rw[if_pos k9];exact Ztj h
 rw[if_neg k9]
 by_cases YI:a.C2=10
 ·rw[if_pos YI]
  refine yp h _ ?_
  cases nc
  ·rfl
  ·exact absurd YI (hn rfl)
 rw[if_neg YI];exact h
end
def Have(g:dv):Prop:=∀f:Nat,f<8->g.A2.A3.getD f 0=g.A1.A3.getD f 0\/∃x∈g.A7,x.C2=1/\x.Frame=f/\x.B9=g.A1.A3.getD f 0
def Fb(g:dv):Prop:=g.A2.A4=2\/∃x∈g.A7,x.C2=2
def Le(g:dv):Prop:=∀f:Nat,f<8->g.A2.A3.getD f 0<=g.A1.A3.getD f 0/\∀x∈g.A7,x.C2=1->x.Frame=f->x.B9<=g.A1.A3.getD f 0
theorem Av.le(t:Av g):Le g:=λf hf=>⟨(t f hf).1,λx hx k e=>((t f hf).2.2.2 x hx k e).1⟩
theorem Zp1{t:ia}(ht:t.A3.length=8)(hp:t.A4=0\/t.A4=1\/t.A4=2)(ox:jE x)(hf:f<8):(iO t x).A3.getD f 0=if x.C2=1/\x.Frame=f/\t.A3.getD f 0<x.B9 then x.B9 else t.A3.getD f 0:=by
 by_cases hk:x.C2=1
 ·obtain⟨f0,f1,_⟩:=ox.pg hk
  obtain⟨k,ek⟩:∃k:Nat,x.Frame=k:=⟨x.Frame.toNat,by omega⟩
  by_cases hc:0<=x.Frame/\x.Frame<t.A3.length/\t.A3.getD x.Frame.toNat 0<x.B9
  ·have e:iO t x={t with A4:=if t.A4=0 then 1 else t.A4,A0:={t.A0 with Mem:=(rO t.A0.Mem x.Frame x.F0).1},A3:=t.A3.set x.Frame.toNat x.B9}:=by
    unfold iO;rw[if_neg (λh=>h hp),if_pos hk,if_pos hc]
   rw[e]
   show(t.A3.set x.Frame.toNat x.B9).getD f 0=_
   rw[Gf (by omega)]
   rw[ek,dX]at hc⊢
   by_cases e:k=f
   ·subst e
    rw[if_pos rfl,if_pos ⟨hk,rfl,hc.2.2⟩]
   ·rw[if_neg e,if_neg (λh=>e (by omega))]
  ·have e:iO t x=t:=by unfold iO;rw[if_neg (λh=>h hp),if_pos hk,if_neg hc]
   rw[e,if_neg (λh=>hc ⟨f0,by omega,by rw[h.2.1,dX];exact h.2.2⟩)]
 ·rw[if_neg (λh=>hk h.1)]
  unfold iO
  repeat' split
  all_goals first|rfl|exact absurd (by assumption) hk
structure Jp(g r:dv)(x:fi):Prop where
 src:r.A1=g.A1
 sto:r.A9=g.A9
 bak:r.C0=g.C0
 sub:∀y∈r.A7,y∈g.A7
 spl:∀y∈g.A7,y∈r.A7\/y=x
 len:r.A7.length+1=g.A7.length
 mem:x∈g.A7
 tgt:r.A2=iO g.A2 x
theorem YJ{i:Int}(hi:mX g.A7 i):Jp g (oj g false i) (pk g.A7 i):=by
 have e:oj g false i={g with A7:=ly g.A7 i,A2:=iO g.A2 (pk g.A7 i)}:=by
  unfold oj tL ma
  simp only[Bool.false_eq_true,if_false,if_pos hi]
  rfl
 rw[e]
 exact⟨rfl,rfl,rfl,λy hy=>Pg hy,λy hy=>zo hi hy,xo hi,G2 hi,rfl⟩
theorem zq{i:Int}(hi:¬mX g.A7 i):oj g false i=g:=if_neg hi
section
variable {g r:dv} {x:fi} (d:Jp g r x) (ok:gb g) (hp:g.A2.A4=0\/g.A2.A4=1\/g.A2.A4=2)
include d ok hp
theorem Jp.rounds(hf:f<8):r.A2.A3.getD f 0=if x.C2=1/\x.Frame=f/\g.A2.A3.getD f 0<x.B9 then x.B9 else g.A2.A3.getD f 0:=by
 rw[d.tgt];exact Zp1 ok.tl hp (ok.fo x d.mem) hf
theorem Jp.le(h:Le g):Le r:=λf hf=>by
 rw[d.rounds ok hp hf,d.src]
 obtain⟨h1,h2⟩:=h f hf
 refine⟨?_,λy hy=>h2 y (d.sub y hy)⟩
 split
 ·rename_i hc;exact h2 x d.mem hc.1 hc.2.1
 ·exact h1
theorem Jp.have(l:Le g)(h:Have g):Have r:=λf hf=>by
 rw[d.rounds ok hp hf,d.src]
 obtain⟨l1,l2⟩:=l f hf
 rcases h f hf with h|⟨y,hy,k1,k2,k3⟩
 ·left
  rw[if_neg];exact h
  intro hc;have:=l2 x d.mem hc.1 hc.2.1;omega
 ·rcases d.spl y hy with hy|rfl
  ·exact .inr ⟨y,hy,k1,k2,k3⟩
  ·left
   split
   ·exact k3
   ·rename_i hc
    have:¬g.A2.A3.getD f 0<y.B9:=λh=>hc ⟨k1,k2,h⟩
    omega
omit ok in
theorem Jp.phase(hk:∀y∈g.A7,y.C2=1\/y.C2=2):(r.A2.A4=0\/r.A2.A4=1\/r.A2.A4=2)/\(r.A2.A4=2↔g.A2.A4=2\/x.C2=2):=by
 rw[d.tgt]
 rcases hk x d.mem with k|k
 ·rcases Mi (t:=g.A2) k with⟨a,b⟩|b
  ·rw[b];omega
  ·rw[b];omega
 ·by_cases h2:g.A2.A4=2
  ·rw[zp k h2];omega
  ·rw[xp k (by omega)]
   show((2:Int)=0\/(2:Int)=1\/(2:Int)=2)/\((2:Int)=2↔_)
   omega
omit ok in
theorem Jp.Pj(hk:∀y∈g.A7,y.C2=1\/y.C2=2)(h:Fb g):Fb r:=by
 obtain⟨_,p⟩:=d.phase hp hk
 rcases h with h|⟨y,hy,k⟩
 ·exact .inl (p.2 (.inl h))
 ·rcases d.spl y hy with hy|rfl
  ·exact .inr ⟨y,hy,k⟩
  ·exact .inl (p.2 (.inr k))
end
def j4:Nat->dv->dv
 |0,g=>g
 |n+1,g=>j4 n (oj g false 0)
theorem in0(h:l≠[]):mX l 0:=by
 cases l with
 |nil=>exact absurd rfl h
 |cons y l=>exact⟨by decide,by show(0:Int)<((l.length+1:Nat):Int);omega⟩
theorem yq{nc:Bool}{m:bg}:∀(n:Nat) {g:dv},Inv nc m g->Inv nc m (j4 n g)
 |0,_,h=>h
 |n+1,_,h=>yq n (Z86 h false 0)
theorem vq:∀(n:Nat) (g:dv),(j4 n g).A1=g.A1/\(j4 n g).A9=g.A9/\(j4 n g).C0=g.C0
 |0,g=>⟨rfl,rfl,rfl⟩
 |n +1,g=>by
  obtain⟨a,b,c⟩:=vq n (oj g false 0)
  by_cases h:mX g.A7 0
  ·have d:=YJ h
   exact⟨a.trans d.src,b.trans d.sto,c.trans d.bak⟩
  ·have e:=zq h
   rw[e]at a b c
   show(j4 n (oj g false 0)).A1=_/\(j4 n (oj g false 0)).A9=_/\(j4 n (oj g false 0)).C0=_
   rw[e]
   exact⟨a,b,c⟩
theorem qr:∀(n:Nat) (g:dv),(j4 n g).A7.length<=g.A7.length-n
 |0,g=>Nat.le_refl _
 |n + 1,g=>by
  have:=qr n (oj g false 0)
  by_cases h:mX g.A7 0
  ·have:=(YJ h).len
   show(j4 n (oj g false 0)).A7.length<=_;omega
  ·have e:=zq h
   have h0:g.A7.length=0:=by
    cases hl:g.A7 with
    |nil=>rfl
    |cons y l=>exact absurd (in0 (by rw[hl];simp)) h
   rw[e]at this
   show(j4 n (oj g false 0)).A7.length<=_;rw[e];omega
theorem xr(h:g.A7.length<=n):(j4 n g).A7=[]:=by
 have:=qr n g
 exact List.eq_nil_of_length_eq_zero (by omega)
structure Way(g:dv):Prop where
 le:Le g
 hv:Have g
 ph:g.A2.A4=0\/g.A2.A4=1\/g.A2.A4=2
 ks:∀x∈g.A7,x.C2=1\/x.C2=2
theorem Way.next(w:Way g)(ok:gb g)(i:Int):Way (oj g false i)/\(Fb g->Fb (oj g false i)):=by
 by_cases h:mX g.A7 i
 ·have d:=YJ h
  exact⟨⟨d.le ok w.ph w.le,d.have ok w.ph w.le w.hv,(d.phase w.ph w.ks).1,λx hx=>w.ks x (d.sub x hx)⟩,d.Pj w.ph w.ks⟩
 ·rw[zq h];exact⟨w,λh=>h⟩
theorem Way.all:∀(n:Nat) {g:dv},Way g->gb g->Way (j4 n g)/\(Fb g->Fb (j4 n g))
 |0,_,w,_=>⟨w,λh=>h⟩
 |n+1,g,w,ok=>by
  obtain⟨a,b⟩:=w.next ok 0
  obtain⟨c,d⟩:=Way.all n a (Zd9 ok false 0)
  exact⟨c,λh=>d (b h)⟩
theorem zr(ha:a.length=8)(hb:b.length=8)(h:∀f:Nat,f<8->a.getD f 0=b.getD f 0):a=b:=by
 refine bR (by omega) λi h1 h2=>?_
 have:=h i (by omega)
 simpa[aV,h1,h2]using this
theorem Way.done(w:Way g)(ok:gb g)(he:g.A7=[]):g.A2.A3=g.A1.A3:=
 zr ok.tl ok.rl λf hf=>by
  rcases w.hv f hf with h|⟨x,hx,_⟩
  ·exact h
  ·rw[he]at hx;cases hx
theorem Way.full{m:bg}(w:Way g)(ok:gb g)(c:pn nc m g)(hs:Fb g)(he:g.A7=[]):Ct g:=by
 have hp:g.A2.A4=2:=by
  rcases hs with h|⟨x,hx,_⟩
  ·exact h
  ·rw[he]at hx;cases hx
 exact⟨hp,(w.done ok he).trans (c.ts hp).1.symm⟩
theorem pn.live{m:bg}(c:pn true m g):g.A1.A4=2/\(g.A2.A4=0\/g.A2.A4=1\/g.A2.A4=2):=by
 have h1:=c.sp
 have h2:=c.tp
 simp only[fC,and_false,or_false]at h1 h2
 exact⟨h1,h2⟩
theorem pn.ks2{m:bg}(c:pn nc m g):∀x∈g.A7,x.C2=1\/x.C2=2:=λx hx=>(c.ks x hx).elim .inl (λh=>.inr h.1)
section
variable {nc:Bool} {m:bg} {g:dv}
def Cw(m:bg)(b:List (List UInt8)):dv:=
 ⟨⟨1,m,⟨cO 8 true,0,0⟩,cO 8 0,[],1⟩,⟨0,{zM with Mem:=cO 256 0},⟨[],0,0⟩,cO 8 0,[],1⟩,[],[],⟨b,1,0⟩⟩
theorem xaI(f:Nat):(cO 8 (0:Int)).getD f 0=0:=by
 simp only[cX,fA]
 split<;>rfl
theorem yr(hf:f<8):(cO 8 true).getD f false=true:=by
 simp only[cX,fA,hf,if_true]
 rfl
theorem yQ(hm:ic 8 m){b:List (List UInt8)}(hb:b.length=4)(hB:∀x∈b,x.length=128):gb (Cw m b):=
 ⟨hm,rfl,eN 0,by show(0:Int)<=11;decide,λ_=>by show(0:Int)<=10;decide,eN 0,by show(0:Int)<=8*0;decide,rfl,bC _,bC _,rfl,qO,λh=>by have h:(0:Int)=2\/(0:Int)=3:=h;omega,bC _,bC _,λx hx=>(by cases hx),bC _,λx hx=>(by cases hx),hb,hB,by show(1:Int)<=1;decide,by show(1:Int)<=2;decide,by show(0:Int)<=0;decide⟩
theorem Cx(hm:ic 8 m)(b:List (List UInt8)):Cv nc m (Cw m b):=
 ⟨rfl,⟨rfl,rfl,rfl⟩,rfl,.inl rfl,λx hx=>(by cases hx),rfl,λf hf=>by
  show(cO 8 (0:Int)).getD f 0<=(cO 8 (0:Int)).getD f 0/\(cO 8 (0:Int)).getD f 0<=0/\((cO 8 true).getD f false=false->_)/\_
  rw[xaI,yr hf]
  exact⟨eN 0,eN 0,λh=>(by cases h),λx hx=>(by cases hx)⟩⟩
def uF(g:dv)(l:List kT):dv:=l.foldl (λg a=>(Bi g a).1) g
theorem Zjl(g:dv)(l k:List kT):uF g (l++k)=uF (uF g l) k:=fD ..
def oq(k n:Int):kT:=⟨k,n,false,0⟩
theorem Zit:∀(n:Nat) (g:dv),uF g (cO n (oq 5 0))=j4 n g
 |0,g=>rfl
 |n+1,g=>Zit n (oj g false 0)
theorem qaJ(c:Zc nc m g)(hs:g.A9.D5=1)(hp:g.A1.A4=2):pn nc m g:=by
 rcases c with c|c|c|c|c
 ·have:=c.sp;omega
 ·have:=c.sp;omega
 ·exact c
 ·have:=c.gn.1;omega
 ·have:=c.gn.1;omega
theorem seen(h:Inv nc m g)(hr:0<=kb g):(kb g=0/\g.A1.A0=m)\/(kb g=1/\g.A2.A0=m):=by
 by_cases h0:g.A1.A4=1\/g.A1.A4=3
 ·refine .inl ⟨Ph h0,?_⟩
  rcases h.2 with c|c|c|c|c
  ·exact c.mc
  ·have:=c.sp;exact c.mc (by omega)
  ·have:=c.sp;omega
  ·have:=c.sp;exact c.mc (by omega)
  ·have:=c.sp;omega
 ·by_cases h1:g.A2.A4=3
  ·have e:kb g=1:=by unfold kb;rw[if_neg h0,if_pos h1]
   refine .inr ⟨e,?_⟩
   rcases h.2 with c|c|c|c|c
   ·have:=c.tp;omega
   ·have:=c.tp;omega
   ·have:=c.tp;omega
   ·exact absurd h1 c.tp
   ·exact c.mc h1
  ·have e:kb g= -1:=by unfold kb;rw[if_neg h0,if_neg h1]
   omega
theorem Ztn(h:Inv true m g)(c:pn true m g)(w:Way g)(hs:Fb g)(hn:g.A7.length<=n):Inv true m (sG (j4 n g))/\Zu true m (sG (j4 n g))/\(sG (j4 n g)).A2.A4=3:=by
 obtain⟨e1,e2,e3⟩:=vq n g
 have hi:=yq n h
 obtain⟨w2,s2⟩:=Way.all n w h.1
 have c2:pn true m (j4 n g):=qaJ hi.2 (by rw[e2];exact c.gn.1) (by rw[e1];exact c.live.1)
 obtain⟨a,b,p⟩:=Zro hi.1 c2 (w2.full hi.1 c2 (s2 hs) (xr hn))
 exact⟨⟨a,.inr (.inr (.inr (.inr b)))⟩,b,p⟩
theorem zaJ(h:Inv nc m g)(c:Zu nc m g)(hp:g.A2.A4=3):kb g=1/\g.A2.A0=m/\g.A9.D5=2/\g.A9.D6=1:=⟨qab c.sp hp,c.mc hp,c.gn.1,c.gn.2.1⟩
theorem Zcx(g:dv)(a:kT)(l:List kT):uF g (a::l)=uF (Bi g a).1 l:=rfl
theorem vQ(b:Nat)(g:dv):uF g (oq 2 0::oq 3 32::(cO b (oq 5 0)++[oq 8 0]))=sG (j4 b (Bi (Bi g (oq 2 0)).1 (oq 3 32)).1):=by
 rw[Zcx,Zcx,Zjl,Zit];rfl
theorem Zl3(ok:gb g)(c:Cv true m g)(w:Way g)(hl:g.A7.length+8<=64):Way (mK g)/\(mK g).A7.length<=g.A7.length+8:=by
 have cr:=UH ok c
 have sl:=xP (m:=g.A1.A0.Mem) ok.dl
 have e:(mK g).A7=g.A7++tM g.A1.B3 g.A1.A0.Mem:=vO (by omega)
 have tp:g.A2.A4=0\/g.A2.A4=1\/g.A2.A4=2:=w.ph
 refine⟨⟨cr.tr.le,λf hf=>?_,tp,λx hx=>.inl (cr.ks x hx)⟩,by rw[e,lA];omega⟩
 have hg:(mK g).A1.A3.getD f 0=if g.A1.B3.B0.getD f false=true then g.A1.B3.B9+1 else g.A1.A3.getD f 0:=by
  show(rP _ _ _).getD f 0=_
  rw[Zdv xaa (by rw[ok.rl];exact hf)]
  simp only[UC]
 rw[hg,e]
 cases hd:g.A1.B3.B0.getD f false
 ·rw[if_neg fB]
  rcases w.hv f hf with h|⟨x,hx,k⟩
  ·exact .inl h
  ·exact .inr ⟨x,eU _ hx,k⟩
 ·rw[if_pos rfl]
  exact .inr ⟨_,eZ _ (qP hd),rfl,rfl,rfl⟩
theorem qR(ok:gb g)(c:Cv true m g)(w:Way g)(hl:g.A7.length+9<=64):Way (EZ g)/\Fb (EZ g)/\(EZ g).A7.length<=g.A7.length+9:=by
 obtain⟨w1,l1⟩:=Zl3 ok c w (by omega)
 have cb:=YH ok c
 have e:(EZ g).A7=(mK g).A7++[uD (mK g).A1]:=if_pos (by omega)
 refine⟨⟨cb.tr.le,λf hf=>?_,cb.live.2,cb.ks2⟩,.inr ⟨uD (mK g).A1,by rw[e];exact eZ _ (List.mem_singleton.2 rfl),rfl⟩,by rw[e,lA,cY];omega⟩
 rw[e]
 rcases w1.hv f hf with h|⟨x,hx,k⟩
 ·exact .inl h
 ·exact .inr ⟨x,eU _ hx,k⟩
structure Calm(i:Int)(m:bg)(g:dv):Prop where
 inv:Inv true m g
 c:Cv true m g
 f:g.A7=[]
 w:Way g
 r:g.A1.B3.B9=i
theorem Cv.YL(c:Cv true m g)(hf:g.A7=[])(he:g.A2.A3=g.A1.A3):Way g:=
 ⟨c.tr.le,λf _=>.inl (by rw[he]),by have:=c.tp;simp only[fC,and_false,or_false]at this;omega,λx hx=>by rw[hf]at hx;cases hx⟩
theorem xR(hm:ic 8 m){b:List (List UInt8)}(hb:b.length=4)(hB:∀x∈b,x.length=128):Calm 0 m (Cw m b):=
 ⟨⟨yQ hm hb hB,.inl (Cx hm b)⟩,Cx hm b,rfl,(Cx hm b).YL rfl rfl,rfl⟩
theorem zR{i:Int}(h:Calm i m g)(hi:i<=9):(Bi g (oq 2 0)).1=mK g:=by
 have hr:=h.r
 have e:(Bi g (oq 2 0)).1=if g.A1.A4=1/\g.A1.B3.B9<10 then Mf g else g:=rfl
 rw[e,if_pos ⟨h.c.sp,by omega⟩,Jl h.inv.1 (by omega)]
theorem zar(ok:gb g)(hp:g.A1.A4=1):(Bi g (oq 3 32)).1=EZ g:=by
 have e:(Bi g (oq 3 32)).1=DY g 32:=rfl
 rw[e]
 unfold DY
 rw[if_pos ⟨hp,zap ok.dl ok.r0 ok.r1 ok.s0 ok.s1⟩,Jl ok (ok.r2 hp)]
 rfl
def Cy:List kT:=oq 2 0::oq 3 32::(cO 64 (oq 5 0)++[oq 8 0])
theorem Fc{i:Int}(h:Calm i m g)(hi:i<=9):Inv true m (uF g Cy)/\kb (uF g Cy)=1/\(uF g Cy).A2.A0=m/\(uF g Cy).A9.D5=2/\(uF g Cy).A9.D6=1:=by
 have hr:=h.r
 have ok:=h.inv.1
 have i1:Inv true m (mK g):=by
  have:=Zjs h.inv
  rwa [if_pos ⟨h.c.sp,by omega⟩,Jl ok (by omega)]at this
 have c1:=UH ok h.c
 obtain⟨w1,l1⟩:=Zl3 ok h.c h.w (by rw[h.f];decide)
 rw[h.f]at l1
 have l1:(mK g).A7.length<=8:=by simpa using l1
 obtain⟨w2,s2,l2⟩:=qR i1.1 c1 w1 (by omega)
 have ok2:=zn i1.1 c1.sp
 have c2:=YH i1.1 c1
 obtain⟨i3,c3,p3⟩:=Ztn (n:=64) ⟨ok2,.inr (.inr (.inl c2))⟩ c2 w2 s2 (by omega)
 have e:uF g Cy=sG (j4 64 (EZ (mK g))):=by
  refine(vQ 64 g).trans ?_
  rw[zR h hi,zar i1.1 c1.sp]
 rw[e]
 exact⟨i3,zaJ i3 c3 p3⟩
end
theorem bt{a b:Int}(h:(a==b)=true):a=b:=by simpa using h
theorem bf{a b:Int}(h:(a==b)=false):a≠b:=by simpa using h
theorem nt{a b:Int}(h:(a !=b)=true):a≠b:=by simpa using h
theorem Mj{a b:Int}(h:(a !=b)=false):a=b:=by simpa using h
def mv(g:dv):df:=⟨g.A1,g.A2,g.A7,g.C0,g.A9⟩
theorem vr(b:Bool)(x:fi):(Jq (mv g) b x).w λr=>r=mv (pj g b (gy (ma g b) x)):=by
 unfold Jq
 refine ae (λhb=>aq λ_ _=>ae (λh=>?_) (λh=>ba ?_)) (λhb=>aq λ_ _=>ae (λh=>?_) (λh=>ba ?_))
 ·subst hb
  have h:(g.C0.length:Int)<64:=oY h
  refine av (dY (by show 328*(g.C0.length+1)<=_;omega)) (ba ?_)
  have e:gy g.C0 x=g.C0++[x]:=if_pos (by omega)
  show _=mv {g with C0:=gy g.C0 x}
  rw[e]<;>rfl
 ·subst hb
  have h:¬(g.C0.length:Int)<64:=oN h
  have e:gy g.C0 x=g.C0:=if_neg (by omega)
  show _=mv {g with C0:=gy g.C0 x}
  rw[e]<;>rfl
 ·subst hb
  have h:(g.A7.length:Int)<64:=oY h
  refine av (dY (by show 328*(g.A7.length+1)<=_;omega)) (ba ?_)
  have e:gy g.A7 x=g.A7++[x]:=if_pos (by omega)
  show _=mv {g with A7:=gy g.A7 x}
  rw[e]<;>rfl
 ·subst hb
  have h:¬(g.A7.length:Int)<64:=oN h
  have e:gy g.A7 x=g.A7:=if_neg (by omega)
  show _=mv {g with A7:=gy g.A7 x}
  rw[e]<;>rfl
theorem Pk(x:fi):(Jq (mv g) false x).w λr=>r=mv {g with A7:=gy g.A7 x}:=vr false x
theorem qt(x:fi):(Jq (mv g) true x).w λr=>r=mv {g with C0:=gy g.C0 x}:=vr true x
theorem Zeh{c:lh}(h0:0<=c.Frame)(h1:c.Frame<g.A1.A3.length):(Pl (mv g) c).w λr=>r=mv {g with A7:=gy g.A7 (tK (g.A1.A3.getD c.Frame.toNat 0) c.Frame c.F0)}:=by
 unfold Pl
 refine ae (λ_=>ae (λ_=>av ?_ (cw (Pk (tK (g.A1.A3.getD c.Frame.toNat 0) c.Frame c.F0)) λx hx=>ba hx)) (λh=>absurd h1 (oN h))) (λh=>absurd h0 (oN h))
 show(bX _ _&&bN _ _&&decide _)=true
 rw[dY (show 0<=c.Frame/\c.Frame<((mv g).A1.A3.length:Int) from⟨h0,h1⟩)];rfl
theorem Z6p(h:g.A1.A3.length=8):(Pm (mv g)).w λr=>r=mv {g with A7:=gy g.A7 (uD g.A1)}:=by
 unfold Pm
 refine cg (show g.A1.A3.length<=1000000000000 by omega) (aq λx0 h0=>?_)
 have h0:x0=g.A1.A3:=h0
 subst h0
 exact cw (Pk (uD g.A1)) λx hx=>ba hx
theorem xar(b:Bool):(UJ (mv g) b).w λr=>r=mv (Pe g b):=by
 unfold UJ
 refine ae (λh=>ba ?_) (λh=>ba ?_)<;>(subst h;rfl)
theorem yR(h:Cr g.A9)(h0:0<=host):(Pn (mv g) host).w λr=>r=if(mr g.A9 host g.A1.D5).2=true then(true,mv {g with A9:=(mr g.A9 host g.A1.D5).1,A1:={g.A1 with A4:=3,D5:=(mr g.A9 host g.A1.D5).1.D5}})else(false,mv {g with A1:={g.A1 with A4:=4}}):=by
 unfold Pn
 have c:=Tree.pp (YD h h0 g.A1.D5)
 refine cg c.1 (aq λx hx=>?_)
 have hx:x=mr g.A9 host g.A1.D5:=hx
 subst hx
 refine ae (λhb=>ba ?_) (λhb=>ba ?_)
 ·have hb:(mr g.A9 host g.A1.D5).2=false:=by simpa using hb
  rw[if_neg (by rw[hb];decide)];rfl
 ·have hb:(mr g.A9 host g.A1.D5).2=true:=by simpa using hb
  rw[if_pos hb];rfl
theorem vR(h:Cr g.A9)(h0:0<=host):(Po (mv g) host).w λr=>r=if(mr g.A9 host g.A2.D5).2=true then(true,mv {g with A9:=(mr g.A9 host g.A2.D5).1,A2:={g.A2 with A4:=3,D5:=(mr g.A9 host g.A2.D5).1.D5}})else(false,mv {g with A2:={g.A2 with A4:=4}}):=by
 unfold Po
 have c:=Tree.pp (YD h h0 g.A2.D5)
 refine cg c.1 (aq λx hx=>?_)
 have hx:x=mr g.A9 host g.A2.D5:=hx
 subst hx
 refine ae (λhb=>ba ?_) (λhb=>ba ?_)
 ·have hb:(mr g.A9 host g.A2.D5).2=false:=by simpa using hb
  rw[if_neg (by rw[hb];decide)];rfl
 ·have hb:(mr g.A9 host g.A2.D5).2=true:=by simpa using hb
  rw[if_pos hb];rfl
theorem qS(h:Cr g.A9):(Pp (mv g)).w λr=>r=mv (om g):=by
 unfold Pp
 refine ae (λh1=>?_) (λh1=>ae (λh2=>?_) (λh2=>ba ?_))
 ·have h1:g.A1.A4=1:=bt h1
  have e:om g={g with A1:={g.A1 with A4:=3},A7:=gy g.A7 (Cs 4)}:=if_pos h1
  rw[e]
  exact cw (Pk (g:={g with A1:={g.A1 with A4:=3}}) (Cs 4)) λx hx=>ba hx
 ·have h1:¬g.A1.A4=1:=bf h1
  have h2:g.A1.A4=2:=bt h2
  refine cw (yR h (eN 0)) λy hy=>?_
  unfold om
  rw[if_neg h1,if_pos h2]
  by_cases hb:(mr g.A9 0 g.A1.D5).2=true
  ·rw[if_pos hb]at hy⊢
   subst hy
   exact ae (λh=>by cases h) λ_=>cw (Pk (g:={g with A9:=(mr g.A9 0 g.A1.D5).1,A1:={g.A1 with A4:=3,D5:=(mr g.A9 0 g.A1.D5).1.D5}}) (Cs 4)) λx hx=>ba hx
  ·rw[if_neg hb]at hy⊢
   subst hy
   exact ae (λ_=>ba rfl) λh=>by cases h
 ·have h1:¬g.A1.A4=1:=bf h1
  have h2:¬g.A1.A4=2:=bf h2
  unfold om
  rw[if_neg h1,if_neg h2]
theorem qas(ok:gb g)(ox:jE x)(hk:x.C2=1)(hp:g.A2.A4=0\/g.A2.A4=1\/g.A2.A4=2):(Pq (mv g) x).w λr=>r=mv {g with A2:=iO g.A2 x}:=by
 obtain⟨f0,f1,hd⟩:=ox.pg hk
 obtain⟨k,ek⟩:∃f:Nat,x.Frame=f:=⟨x.Frame.toNat,by omega⟩
 have k8:k<8:=by omega
 have tl:=ok.tl
 have sp:UA g.A2.A0.Mem x.Frame x.F0:=by rw[ek];exact Zj0 ok.tm k8 hd
 have s2:(rO g.A2.A0.Mem x.Frame x.F0).2=true:=by rw[ek];exact(Uz ok.tm k8 hd).1
 have cn:∀l:List Int,l.length=8->(bX 1 1&&bN 0 1&&decide (0<=x.Frame/\x.Frame<(l.length:Int)))=true:=λl hl=>by
  rw[dY (show 0<=x.Frame/\x.Frame<(l.length:Int) by omega)];rfl
 unfold Pq
 refine ae (λh=>absurd (oY h) (by omega)) λ_=>ae (λh=>absurd (oY h) (by show¬x.Frame>=(g.A2.A3.length:Int);omega)) λ_=>av (cn _ tl) (ae (λh=>ba ?_) λh=>cg sp (aq λy hy=>?_))
 ·have h:x.B9<=g.A2.A3.getD x.Frame.toNat 0:=oY h
  have e:iO g.A2 x=g.A2:=by
   unfold iO
   rw[if_neg (λh=>h hp),if_pos hk,if_neg (λh=>by have:=h.2.2;omega)]
  rw[e]
 ·have h:¬x.B9<=g.A2.A3.getD x.Frame.toNat 0:=oN h
  have hy:y=rO g.A2.A0.Mem x.Frame x.F0:=hy
  subst hy
  have e:iO g.A2 x={g.A2 with A4:=if g.A2.A4=0 then 1 else g.A2.A4,A0:={g.A2.A0 with Mem:=(rO g.A2.A0.Mem x.Frame x.F0).1},A3:=g.A2.A3.set x.Frame.toNat x.B9}:=by
   unfold iO
   rw[if_neg (λh=>h hp),if_pos hk,if_pos ⟨by omega,by omega,by omega⟩]
  rw[e]
  refine ae (λhb=>?_) λ_=>av (cn _ tl) (ae (λh0=>ba ?_) λh0=>ba ?_)
  ·rw[s2]at hb;cases hb
  ·have h0:g.A2.A4=0:=bt h0
   rw[if_pos h0];rfl
  ·have h0:¬g.A2.A4=0:=bf h0
   rw[if_neg h0];rfl
theorem xt(ok:gb g)(ox:jE x):(Pr (mv g) x).w λr=>r=mv {g with A2:=iO g.A2 x}:=by
 have leaf:(g.A2.A4=0\/g.A2.A4=1\/g.A2.A4=2)->∀(k1:x.C2≠1),(x.C2=2->g.A2.A4=2->iO g.A2 x=g.A2)/\(x.C2=2->g.A2.A4≠2->iO g.A2 x={g.A2 with A4:=2,A0:={x.A0 with Mem:=g.A2.A0.Mem},C1:=x.A3})/\(x.C2≠2->x.C2=4->iO g.A2 x={g.A2 with A4:=4})/\(x.C2≠2->x.C2≠4->iO g.A2 x=g.A2):=λhp k1=>by
  refine⟨λk p=>?_,λk p=>?_,λk p=>?_,λk p=>?_⟩
  ·unfold iO;rw[if_neg (λh=>h hp),if_neg k1,if_pos k,if_pos p]
  ·unfold iO;rw[if_neg (λh=>h hp),if_neg k1,if_pos k,if_neg p]
  ·unfold iO;rw[if_neg (λh=>h hp),if_neg k1,if_neg k,if_pos p]
  ·unfold iO;rw[if_neg (λh=>h hp),if_neg k1,if_neg k,if_neg p]
 unfold Pr
 refine ae (λh0=>ae (λh1=>ae (λh2=>ba ?_) (λh2=>?_)) (λh1=>?_)) (λh0=>?_)
 ·have h0:g.A2.A4≠0:=nt h0
  have h1:g.A2.A4≠1:=nt h1
  have h2:g.A2.A4≠2:=nt h2
  have e:iO g.A2 x=g.A2:=by unfold iO;rw[if_pos (by omega)]
  rw[e]
 all_goals
  have hp:g.A2.A4=0\/g.A2.A4=1\/g.A2.A4=2:=by
   first
    |exact .inr (.inr (Mj h2))
    |exact .inr (.inl (Mj h1))
    |exact .inl (Mj h0)
  refine ae (λk=>cw (qas ok ox (bt k) hp) λy hy=>ba hy) (λk1=>?_)
  have k1:x.C2≠1:=bf k1
  obtain⟨q1,q2,q3,q4⟩:=leaf hp k1
  refine ae (λk2=>?_) (λk2=>?_)
  ·have k2:x.C2=2:=bt k2
   refine ae (λp=>ba ?_) (λp=>ba ?_)
   ·rw[q1 k2 (bt p)]
   ·rw[q2 k2 (bf p)];rfl
  ·have k2:x.C2≠2:=bf k2
   refine ae (λp=>ba ?_) (λp=>ba ?_)
   ·rw[q3 k2 (bt p)];rfl
   ·rw[q4 k2 (bf p)]
theorem Znu(R l:List Int)(x v:Int):rP R (l++[x]) v=(rP R l v).set x.toNat v:=by
 unfold rP;rw[fD];rfl
theorem YM(l k:List fi)(x:fi):pf l (k++[x])=gy (pf l k) x:=by
 unfold pf;rw[fD];rfl
theorem Ps{α:Type}{l:List α}(h:i<l.length):l.take (i+1)=l.take i++[l[i]]:=by
 rw[List.take_add_one,aI h];rfl
theorem Pt(h:i<n):(bX 2 2&&bN 0 2&&decide (0<=(i:Int)/\(i:Int)<(n:Int)))=true:=by
 rw[dY (by omega)];rfl
def DZ(g:dv)(i:Nat):dv:=
 { g with
   A1:={g.A1 with B3:=⟨cO 8 false,g.A1.B3.B9+1,g.A1.B3.D7+(ig g.A1.B3.B0 0).length⟩,A3:=rP g.A1.A3 ((ig g.A1.B3.B0 0).take i) (g.A1.B3.B9+1)}
   A7:=pf g.A7 ((tM g.A1.B3 g.A1.A0.Mem).take i)}
theorem Zrh(ok:gb g)(hr:g.A1.B3.B9<=10):(Pu (mv g)).w λr=>r=mv (mK g):=by
 obtain⟨r1,r2⟩:=zm (c:=g.A1.B3) (m:=g.A1.A0.Mem) (by have:=ok.dl;omega)
 rw[ok.round hr]at r2
 have sl:=YF ok.dl
 have rl:=ok.rl
 have lS:(tM g.A1.B3 g.A1.A0.Mem).length=(ig g.A1.B3.B0 0).length:=by unfold tM mJ;rw[eY,eY]
 have lC:(mJ g.A1.A0.Mem (ig g.A1.B3.B0 0)).length=(ig g.A1.B3.B0 0).length:=by unfold mJ;rw[eY]
 unfold Pu
 refine cg r1 (aq λx0 h0=>?_)
 have h0:x0=Ji g.A1.B3 g.A1.A0.Mem:=h0
 have h0:=h0.trans r2
 subst h0
 refine eu (inv:=λz:Int×df=>∃i:Nat,z.1=i/\i<=(ig g.A1.B3.B0 0).length/\z.2=mv (DZ g i)) (μ:=Qdt (mv g)) ⟨0,rfl,bC _,rfl⟩ (cN _) ?_
 rintro⟨_,y⟩ ⟨i,rfl,hi,hy⟩
 simp only at hy
 subst hy
 refine ae (λbd=>?_) (λfx=>ba ?_)
 ·have bd:(i:Int)<((mJ g.A1.A0.Mem (ig g.A1.B3.B0 0)).length:Int):=oY bd
  have hl:i<(ig g.A1.B3.B0 0).length:=by rw[lC]at bd;omega
  have ew:wrap .i64 ((i:Int)+1)=((i+1:Nat):Int):=by rw[wi (by omega) (by omega)];omega
  have eg:(mJ g.A1.A0.Mem (ig g.A1.B3.B0 0)).getD (dA (i:Int)) (RK.dx RK.bn)=⟨(ig g.A1.B3.B0 0)[i],(jG g.A1.A0.Mem (ig g.A1.B3.B0 0)[i]).1⟩:=by
   simp[aV,mJ,hl]
  have hm:=OW (eV hl)
  have dl:=ok.dl
  have lp:(DZ g i).A1.A3.length=8:=UB.trans rl
  generalize hf:(ig g.A1.B3.B0 0)[i]=f at eg hm
  have f0:0<=f:=hm.1
  have f8:f<8:=by omega
  have YN:(f:Int)<(((mv (DZ g i)).A1.A3).length:Int):=by show f<((DZ g i).A1.A3.length:Int);omega
  have hlC:i<(mJ g.A1.A0.Mem (ig g.A1.B3.B0 0)).length:=by rw[lC];exact hl
  refine av (Pt hlC) ?_
  rw[eg]
  refine ae (λ_=>ae (λ_=>av ?_ ?_) (λh=>absurd YN (oN h))) (λh=>absurd f0 (oN h))
  ·show(bX _ _&&bN _ _&&decide (0<=f/\f<_))=true
   rw[dY ⟨f0,YN⟩];rfl
  ·have e1:∀l:List Int,l.length=8->(l.set f.toNat (g.A1.B3.B9+1)).getD f.toNat 0=g.A1.B3.B9+1:=λl hl=>by rw[Gf (by omega),if_pos rfl]
   refine cw (Zeh (g:={DZ g i with A1:={(DZ g i).A1 with A3:=(DZ g i).A1.A3.set f.toNat (g.A1.B3.B9+1)}}) (c:=⟨f,(jG g.A1.A0.Mem f).1⟩) f0 (by show f<(((DZ g i).A1.A3.set f.toNat (g.A1.B3.B9+1)).length:Int);rw[dC];exact YN)) λy hy=>ee ⟨⟨i+1,ew,by omega,?_⟩,?_⟩
   ·rw[hy]
    show mv _=mv _
    congr 1
    have t1:(ig g.A1.B3.B0 0).take (i+1)=(ig g.A1.B3.B0 0).take i++[f]:=by rw[Ps hl,hf]
    have t2:(tM g.A1.B3 g.A1.A0.Mem).take (i+1)=(tM g.A1.B3 g.A1.A0.Mem).take i++[tK (g.A1.B3.B9+1) f (jG g.A1.A0.Mem f).1]:=by
     rw[Ps (by omega)]
     congr 2
     have:(tM g.A1.B3 g.A1.A0.Mem)[i]'(by omega)=tK (g.A1.B3.B9+1) (ig g.A1.B3.B0 0)[i] (jG g.A1.A0.Mem (ig g.A1.B3.B0 0)[i]).1:=by simp[tM,mJ]
     rw[this,hf]
    unfold DZ
    rw[t1,t2,Znu,YM]
    show dv.mk _ _ (gy _ (tK ((List.set _ f.toNat _).getD f.toNat 0) f _)) _ _=_
    rw[e1 _ (UB.trans rl)]
   ·show(_-wrap .i64 ((i:Int)+1)).toNat<(_-(i:Int)).toNat
    rw[ew]
    show(((Ji g.A1.B3 g.A1.A0.Mem).2.length:Int)-((i+1:Nat):Int)).toNat<_
    show _<(((Ji g.A1.B3 g.A1.A0.Mem).2.length:Int)-(i:Int)).toNat
    rw[r2]
    show(((mJ g.A1.A0.Mem (ig g.A1.B3.B0 0)).length:Int)-((i+1:Nat):Int)).toNat<(((mJ g.A1.A0.Mem (ig g.A1.B3.B0 0)).length:Int)-(i:Int)).toNat
    rw[lC];omega
 ·have fx:¬(i:Int)<((mJ g.A1.A0.Mem (ig g.A1.B3.B0 0)).length:Int):=oN fx
  have hi2:i=(ig g.A1.B3.B0 0).length:=by rw[lC]at fx;omega
  show mv _=mv _
  congr 1
  unfold DZ mK
  rw[fE (by omega),fE (by omega)]
theorem zas(ok:gb g)(fm:Int):(Pv (mv g) fm).w λr=>r=mv (DY g fm):=by
 unfold Pv
 refine ae (λh=>ba ?_) (λh=>?_)
 ·have h:¬g.A1.A4=1:=nt h
  unfold DY
  rw[if_neg (λq=>h q.1)]
 ·have h:g.A1.A4=1:=Mj h
  obtain⟨s1,s2⟩:=y9 (c:=g.A1.B3) (fm:=fm) (by have:=ok.dl;omega)
  refine cg s1 (aq λx0 h0=>?_)
  have h0:x0=Jg g.A1.B3 fm:=h0
  subst h0
  refine ae (λhb=>ba ?_) (λhb=>?_)
  ·have hb:Jg g.A1.B3 fm=false:=by simpa using hb
   unfold DY
   rw[if_neg (λq=>by rw[hb]at q;cases q.2)]
  ·have hb:Jg g.A1.B3 fm=true:=by simpa using hb
   have e:DY g fm=EZ g:=by
    unfold DY
    rw[if_pos ⟨h,hb⟩,Jl ok (ok.r2 h)];rfl
   rw[e]
   refine cw (Zrh ok (ok.r2 h)) λx1 h1=>?_
   subst h1
   have rl:(mK g).A1.A3.length=8:=UB.trans ok.rl
   exact cw (Z6p (g:={mK g with A1:={(mK g).A1 with A4:=2}}) rl) λy hy=>ba hy
theorem yt(ok:gb g):(Pw (mv g)).w λr=>r=mv (Mg g):=by
 unfold Pw
 refine ae (λh=>ba ?_) (λh=>?_)
 ·have h:¬g.A1.A4=2:=nt h
  unfold Mg
  rw[if_neg h]
 ·have h:g.A1.A4=2:=Mj h
  have e:Mg g=Pf g:=if_pos h
  rw[e]
  have mp:jP g.A1.A0.Mem=((8:Nat):Int):=L9 (P:=8) ok.rk.len (by decide)
  refine aq λx0 h0=>?_
  have h0:x0=((8:Nat):Int):=h0.trans mp
  subst h0
  refine eu (inv:=λz:Int×df=>∃i:Nat,z.1=i/\i<=8/\z.2=mv {g with A7:=pf g.A7 ((sF g.A1).take i)}) (μ:=Qc3 (mv g)) ⟨0,rfl,bC _,rfl⟩ (cN _) ?_
  rintro⟨_,y⟩ ⟨i,rfl,hi,hy⟩
  simp only at hy
  subst hy
  have lP:=xn g.A1
  refine ae (λbd=>?_) (λfx=>?_)
  ·have bd:(i:Int)<((8:Nat):Int):=oY bd
   have i8:i<8:=by omega
   have ew:wrap .i64 ((i:Int)+1)=((i+1:Nat):Int):=by rw[wi (by omega) (by omega)];omega
   refine cg (Zrx (P:=8) ok.rk.len (by decide) (by omega) (by omega)) (aq λx1 h1=>?_)
   have h1:x1=jG g.A1.A0.Mem i:=h1
   subst h1
   have rl:=ok.rl
   refine ae (λ_=>cw (Zeh (g:={g with A7:=pf g.A7 ((sF g.A1).take i)}) (c:=⟨i,(jG g.A1.A0.Mem i).1⟩) (by show(0:Int)<=(i:Int);omega) (by show(i:Int)<(g.A1.A3.length:Int);omega)) λy hy=>ee ⟨⟨i+1,ew,by omega,?_⟩,?_⟩) (λhb=>?_)
   ·rw[hy]
    show mv _=mv _
    congr 1
    have t:(sF g.A1).take (i+1)=(sF g.A1).take i++[tK (g.A1.A3.getD i 0) i (jG g.A1.A0.Mem i).1]:=by
     rw[Ps (by omega)]
     congr 2
     unfold sF
     rw[List.getElem_map,List.getElem_range]
    rw[t,YM]
    rfl
   ·show(_-wrap .i64 ((i:Int)+1)).toNat<(_-(i:Int)).toNat
    rw[ew]
    show(jP g.A1.A0.Mem-((i+1:Nat):Int)).toNat<(jP g.A1.A0.Mem-(i:Int)).toNat
    rw[mp];omega
   ·exfalso
    have:(jG g.A1.A0.Mem i).2=true:=(Jj ok.rk i8).2
    rw[this]at hb;cases hb
  ·have fx:¬(i:Int)<((8:Nat):Int):=oN fx
   have i8:i=8:=by omega
   subst i8
   have e3:(sF g.A1).take 8=sF g.A1:=fE (by omega)
   have e2:Pf g={g with A7:=gy (pf g.A7 (sF g.A1)) (uD g.A1)}:=by
    unfold Pf;rw[YM]
   rw[e2,e3]
   generalize sF g.A1=L
   exact cw (Z6p (g:={g with A7:=pf g.A7 L}) ok.rl) λy hy=>ba hy
theorem UK(n:Int):(if 64<(if 0>n then 0 else n)then 64 else if 0>n then 0 else n)=((runN n:Nat):Int):=by
 unfold runN
 split<;>split<;>omega
theorem xaJ(ok:gb g)(hc:U clock)(n:Int):(Px (mv g) n clock).w λr=>r=mv (jX g n clock):=by
 have rn:runN n<=64:=by unfold runN;omega
 have er:G5 g=kb g:=by
  unfold kb
  simp only[G5,UL,Tree.m]
  by_cases h1:g.A1.A4=1
  ·simp[h1]
  ·by_cases h3:g.A1.A4=3
   ·simp[h3]
   ·by_cases ht:g.A2.A4=3
    ·simp[beq_false_of_ne h1,beq_false_of_ne h3,h1,h3,ht]
    ·simp[beq_false_of_ne h1,beq_false_of_ne h3,beq_false_of_ne ht,h1,h3,ht]
 unfold Px
 refine aq λx0 h0=>?_
 have h0:x0=kb g:=h0.trans er
 subst h0
 refine ae (λh=>ba ?_) (λh=>ae (λh1=>?_) (λh1=>?_))
 ·have h:kb g= -1:=bt h
  unfold kb at h
  unfold jX
  split at h
  ·omega
  ·rename_i q1
   split at h
   ·omega
   ·rename_i q2
    rw[if_neg q1,if_neg q2]
 ·have h1:kb g=1:=bt h1
  have q:¬(g.A1.A4=1\/g.A1.A4=3)/\g.A2.A4=3:=by
   unfold kb at h1
   split at h1
   ·omega
   ·rename_i q1
    split at h1
    ·rename_i q2;exact⟨q1,q2⟩
    ·omega
  have gt:=ok.tg (.inr q.2)
  have e:jX g n clock={g with A2:={g.A2 with A0:=lZ g.A2.A0 clock (runN n)}}:=by unfold jX;rw[if_neg q.1,if_pos q.2]
  rw[e]
  refine eu (inv:=λz:Int×bg=>∃i:Nat,z.1=i/\i<=runN n/\z.2=lZ g.A2.A0 clock i) (μ:=λz=>(1000-z.1).toNat) ⟨0,rfl,bC _,rfl⟩ (by simp only[UM];omega) ?_
  rintro⟨_,y⟩ ⟨i,rfl,hi,hy⟩
  simp only at hy
  subst hy
  refine ae (λbd=>?_) (λfx=>ae (λhp=>?_) (λhp=>ba ?_))
  ·have bd:(i:Int)<(if 64<(if 0>n then 0 else n)then 64 else if 0>n then 0 else n):=oY bd
   rw[UK]at bd
   have ew:wrap .i64 ((i:Int)+1)=((i+1:Nat):Int):=by rw[wi (by omega) (by omega)];omega
   refine cg (Z8q (Jn gt hc i) hc) (aq λx1 h1=>ee ⟨⟨i+1,ew,by omega,?_⟩,by show(1000-wrap .i64 ((i:Int)+1)).toNat<(1000-(i:Int)).toNat;rw[ew];omega⟩)
   show x1.1=_
   rw[h1];rfl
  ·exfalso
   have hp:g.A2.A4=1:=bt hp
   omega
  ·have fx:¬(i:Int)<(if 64<(if 0>n then 0 else n)then 64 else if 0>n then 0 else n):=oN fx
   rw[UK]at fx
   have:i=runN n:=by omega
   subst this
   rfl
 ·have hn:¬kb g= -1:=bf h
  have h1:¬kb g=1:=bf h1
  have q:g.A1.A4=1\/g.A1.A4=3:=by
   unfold kb at hn h1
   split at hn
   ·assumption
   ·rename_i q1
    rw[if_neg q1]at h1
    split at hn
    ·rename_i q2;rw[if_pos q2]at h1;exact absurd rfl h1
    ·exact absurd rfl hn
  have e:jX g n clock={g with A1:={g.A1 with A0:=lZ g.A1.A0 clock (runN n),B3:=rQ g.A1 (lZ g.A1.A0 clock (runN n))}}:=if_pos q
  rw[e]
  refine eu (inv:=λz:Int×bg=>∃i:Nat,z.1=i/\i<=runN n/\z.2=lZ g.A1.A0 clock i) (μ:=λz=>(1000-z.1).toNat) ⟨0,rfl,bC _,rfl⟩ (by simp only[UM];omega) ?_
  rintro⟨_,y⟩ ⟨i,rfl,hi,hy⟩
  simp only at hy
  subst hy
  refine ae (λbd=>?_) (λfx=>?_)
  ·have bd:(i:Int)<(if 64<(if 0>n then 0 else n)then 64 else if 0>n then 0 else n):=oY bd
   rw[UK]at bd
   have ew:wrap .i64 ((i:Int)+1)=((i+1:Nat):Int):=by rw[wi (by omega) (by omega)];omega
   refine cg (Z8q (Jn ok.src hc i) hc) (aq λx1 h1=>ee ⟨⟨i+1,ew,by omega,?_⟩,by show(1000-wrap .i64 ((i:Int)+1)).toNat<(1000-(i:Int)).toNat;rw[ew];omega⟩)
   show x1.1=_
   rw[h1];rfl
  ·have fx:¬(i:Int)<(if 64<(if 0>n then 0 else n)then 64 else if 0>n then 0 else n):=oN fx
   rw[UK]at fx
   have hi:i=runN n:=by omega
   subst hi
   have sg:=Jn ok.src hc (runN n)
   refine ae (λhp=>?_) (λhp=>ba ?_)
   ·have hp:g.A1.A4=1:=bt hp
    obtain⟨c1,c2,_⟩:=Zmv ok.rk sg.nq
    refine cg c1 (aq λx2 h2=>?_)
    have h2:x2=DX g.A1.A0.Mem (lZ g.A1.A0 clock (runN n)).Mem:=h2
    rw[<-h2]at c2
    obtain⟨n1,n2⟩:=xaH (c:=g.A1.B3) (l:=x2) (by have:=ok.dl;omega) (by omega)
    refine cg n1 (aq λx3 h3=>ba ?_)
    have h3:x3=Us g.A1.B3 x2:=h3
    rw[n2,h2]at h3
    subst h3
    have en:rQ g.A1 (lZ g.A1.A0 clock (runN n))={g.A1.B3 with B0:=rj g.A1.B3.B0 (DX g.A1.A0.Mem (lZ g.A1.A0 clock (runN n)).Mem)}:=if_pos hp
    rw[en];rfl
   ·have hp:¬g.A1.A4=1:=bf hp
    have en:rQ g.A1 (lZ g.A1.A0 clock (runN n))=g.A1.B3:=if_neg hp
    rw[en];rfl
theorem YO(ok:gb g)(b:Bool)(i:Int):(Jr (mv g) b i).w λr=>(mX (ma g b) i->r=(pk (ma g b) i,true,mv (tL g b i)))/\(¬mX (ma g b) i->r.2.1=false/\r.2.2=mv g):=by
 have cn:∀l:List fi,mX l i->(bX 54 54&&bN 0 54&&decide (0<=i/\i<(l.length:Int)))=true:=λl hl=>by rw[dY (show 0<=i/\i<(l.length:Int) from hl)];rfl
 have fin:∀l:List fi,l.length<=64->mX l i->wrap .i64 (i+1)=i+1/\l.take i.toNat++l.drop (i+1).toNat=ly l i/\(fF (i-0)/\fF (wrap .i64 (i+1)-(i+1))/\fF ((l.length:Int)-wrap .i64 (i+1))):=λl hl hi=>by
  obtain⟨h0,h1⟩:=hi
  have ew:wrap .i64 (i+1)=i+1:=wi (by omega) (by omega)
  refine⟨ew,?_,?_⟩
  ·unfold ly;rw[show(i+1).toNat=i.toNat+1 by omega]
  ·rw[ew]
   exact⟨(h0:(0:Int)<=i),(eN _:i+1<=i+1),(show i+1<=(l.length:Int) by omega)⟩
 unfold Jr
 refine ae (λhb=>aq λ_ _=>ae (λh=>ba ?_) (λh=>ae (λh2=>ba ?_) λh2=>?_)) (λhb=>aq λ_ _=>ae (λh=>ba ?_) (λh=>ae (λh2=>ba ?_) λh2=>?_))
 all_goals subst hb
 ·have h:i<0:=oY h
  exact⟨λq=>absurd q.1 (by omega),λ_=>⟨rfl,rfl⟩⟩
 ·have h2:i>=(g.C0.length:Int):=oY h2
  exact⟨λq=>absurd q.2 (by show¬i<(g.C0.length:Int);omega),λ_=>⟨rfl,rfl⟩⟩
 ·have h:¬i<0:=oN h
  have h2:¬i>=(g.C0.length:Int):=oN h2
  have hi:mX g.C0 i:=⟨by omega,by omega⟩
  obtain⟨e1,e2,e3⟩:=fin g.C0 ok.bl hi
  refine av (cn _ hi) (cg e3 (aq λx3 h3=>ba ⟨λ_=>?_,λq=>absurd hi q⟩))
  have h3:x3=g.C0.take i.toNat++g.C0.drop (wrap .i64 (i+1)).toNat:=h3
  rw[e1,e2]at h3
  have el:tL g true i={g with C0:=ly g.C0 i}:=if_pos hi
  rw[el,h3];rfl
 ·have h:i<0:=oY h
  exact⟨λq=>absurd q.1 (by omega),λ_=>⟨rfl,rfl⟩⟩
 ·have h2:i>=(g.A7.length:Int):=oY h2
  exact⟨λq=>absurd q.2 (by show¬i<(g.A7.length:Int);omega),λ_=>⟨rfl,rfl⟩⟩
 ·have h:¬i<0:=oN h
  have h2:¬i>=(g.A7.length:Int):=oN h2
  have hi:mX g.A7 i:=⟨by omega,by omega⟩
  obtain⟨e1,e2,e3⟩:=fin g.A7 ok.fl hi
  refine av (cn _ hi) (cg e3 (aq λx3 h3=>ba ⟨λ_=>?_,λq=>absurd hi q⟩))
  have h3:x3=g.A7.take i.toNat++g.A7.drop (wrap .i64 (i+1)).toNat:=h3
  rw[e1,e2]at h3
  have el:tL g false i={g with A7:=ly g.A7 i}:=if_pos hi
  rw[el,h3];rfl
theorem Zsn(ok:gb g)(b:Bool)(i:Int):(Jr (mv g) b i).w λr=>r.2.2=mv (tL g b i):=by
 have t:=Tree.pp (YO ok b i)
 refine(Jr (mv g) b i).mono (λr (h:(mX (ma g b) i->r=(pk (ma g b) i,true,mv (tL g b i)))/\(¬mX (ma g b) i->r.2.1=false/\r.2.2=mv g))=>?_) (YO ok b i)
 by_cases hi:mX (ma g b) i
 ·rw[h.1 hi]
 ·have e:tL g b i=g:=if_neg hi
  rw[(h.2 hi).2,e]
theorem Ztu(ok:gb g)(b:Bool)(i:Int):(Py (mv g) b i).w λr=>r=mv (oj g b i):=by
 unfold Py
 refine cw (YO ok b i) λx0 ⟨t1,t2⟩=>?_
 by_cases hi:mX (ma g b) i
 ·rw[t1 hi]
  have e:oj g b i=Mh (tL g b i) b (pk (ma g b) i):=if_pos hi
  rw[e]
  have ox:=(ok.F3 b).2 _ (G2 hi)
  have ol:=YG ok b i
  generalize pk (ma g b) i=x at ox
  generalize tL g b i=l at ol
  refine ae (λh=>by cases h) λ_=>?_
  cases b
  ·exact ae (λ_=>cw (xt ol ox) λy hy=>ba hy) λh=>by cases h
  ·have et:Mh l true x=if l.A1.A4=2/\x.C2=3 then{l with A1:={l.A1 with A4:=4}}else l:=if_pos rfl
   rw[et]
   refine ae (λh=>by cases h) λ_=>ae (λh1=>ae (λh2=>ba ?_) (λh2=>ba ?_)) (λh1=>ba ?_)
   ·rw[if_pos (show l.A1.A4=2/\x.C2=3 from⟨bt h1,bt h2⟩)];rfl
   ·rw[if_neg (show¬(l.A1.A4=2/\x.C2=3) fromλq=>bf h2 q.2)]
   ·rw[if_neg (show¬(l.A1.A4=2/\x.C2=3) fromλq=>bf h1 q.1)]
 ·obtain⟨a,c⟩:=t2 hi
  have e:oj g b i=g:=if_neg hi
  rw[e]
  refine ae (λ_=>ba c) λh=>?_
  rw[a]at h;cases h
theorem YP(h:jE x):(Pz x).w λr=>r=x:=by
 unfold Pz
 have cm:(Q1 x.A0).w λr=>r=x.A0:=by
  unfold Q1
  exact cg (show x.A0.Mem.length<=35184372088832 by rw[h.mem];decide) (aq λy hy=>by have hy:y=x.A0.Mem:=hy;subst hy;exact ba rfl)
 refine cw cm λy hy=>?_
 subst hy
 refine cg (show x.A3.length<=1000000000000 by have:=h.rl;omega) (aq λz hz=>?_)
 have hz:z=x.A3:=hz
 subst hz
 exact ba rfl
theorem vt(ok:gb g)(b:Bool)(i:Int):(PA (mv g) b i).w λr=>r=mv (Bh g b i):=by
 have cn:∀l:List fi,mX l i->(bX 54 54&&bN 0 54&&decide (0<=i/\i<(l.length:Int)))=true:=λl hl=>by rw[dY (show 0<=i/\i<(l.length:Int) from hl)];rfl
 unfold PA
 refine ae (λhb=>aq λ_ _=>ae (λh=>ae (λh2=>?_) (λh2=>ba ?_)) (λh=>ba ?_)) (λhb=>aq λ_ _=>ae (λh=>ae (λh2=>?_) (λh2=>ba ?_)) (λh=>ba ?_))
 all_goals subst hb
 ·have hi:mX g.C0 i:=⟨oY h,oY h2⟩
  have e:Bh g true i={g with C0:=gy g.C0 (pk g.C0 i)}:=if_pos hi
  rw[e]
  refine av (cn _ hi) (cw (YP (x:=pk g.C0 i) (ok.bo _ (G2 hi))) λx1 h1=>?_)
  subst h1
  exact cw (qt _) λy hy=>ba hy
 ·have h2:¬i<(g.C0.length:Int):=oN h2
  have e:Bh g true i=g:=if_neg (λq=>h2 q.2)
  rw[e]
 ·have h:¬i>=0:=oN h
  have e:Bh g true i=g:=if_neg (λq=>h q.1)
  rw[e]
 ·have hi:mX g.A7 i:=⟨oY h,oY h2⟩
  have e:Bh g false i={g with A7:=gy g.A7 (pk g.A7 i)}:=if_pos hi
  rw[e]
  refine av (cn _ hi) (cw (YP (x:=pk g.A7 i) (ok.fo _ (G2 hi))) λx1 h1=>?_)
  subst h1
  exact cw (Pk _) λy hy=>ba hy
 ·have h2:¬i<(g.A7.length:Int):=oN h2
  have e:Bh g false i=g:=if_neg (λq=>h2 q.2)
  rw[e]
 ·have h:¬i>=0:=oN h
  have e:Bh g false i=g:=if_neg (λq=>h q.1)
  rw[e]
theorem Zix(hl:l.length<=64)(h:∀x∈l,jE x):(PB l).w λr=>r=l:=by
 unfold PB
 refine eu (inv:=λz:Int×List fi=>∃i:Nat,z.1=i/\i<=l.length/\z.2=l.take i) (μ:=YQ l) ⟨0,rfl,bC _,rfl⟩ (cN _) ?_
 rintro⟨_,y⟩ ⟨i,rfl,hi,hy⟩
 simp only at hy
 subst hy
 refine ae (λbd=>?_) (λfx=>ba ?_)
 ·have bd:i<l.length:=by have:(i:Int)<(l.length:Int):=oY bd;omega
  have ew:wrap .i64 ((i:Int)+1)=((i+1:Nat):Int):=by rw[wi (by omega) (by omega)];omega
  have eg:l.getD (dA (i:Int)) (RK.dx RK.aa)=l[i]:=by simp[aV,bd]
  have lt:(l.take i).length=i:=by rw[aD];omega
  refine av (by rw[dY (show 0<=(i:Int)/\(i:Int)<(l.length:Int) by omega)];rfl) ?_
  rw[eg]
  refine cw (YP (h _ (eV bd))) λx0 h0=>?_
  subst h0
  refine av (dY (by show 328*((l.take i).length+1)<=_;omega)) (ee ⟨⟨i+1,ew,bd,(Ps bd).symm⟩,by simp only[YQ,ew];omega⟩)
 ·have fx:¬(i:Int)<(l.length:Int):=oN fx
  exact fE (by omega)
theorem Z7{s:ia}(hm:s.A0.Mem.length<=1024)(hd:s.B3.B0.length<=8)(hr:s.A3.length<=8)(hf:s.C1.length<=8):(PC s).w λr=>r=s:=by
 unfold PC
 have cm:(Q1 s.A0).w λr=>r=s.A0:=by
  unfold Q1
  exact cg (show s.A0.Mem.length<=35184372088832 by omega) (aq λy hy=>by have hy:y=s.A0.Mem:=hy;subst hy;exact ba rfl)
 refine cw cm λy hy=>?_
 subst hy
 refine cg (show s.B3.B0.length<=140737488355328 by omega) (aq λa ha=>cg (show s.A3.length<=1000000000000 by omega) (aq λb hb=>cg (show s.C1.length<=1000000000000 by omega) (aq λc hc=>ba ?_)))
 have ha:a=s.B3.B0:=ha
 have hb:b=s.A3:=hb
 have hc:c=s.C1:=hc
 subst ha;subst hb;subst hc
 rfl
theorem gb.PD(h:gb g):g.A1.A0.Mem.length<=1024/\g.A2.A0.Mem.length<=1024:=by
 have a:=h.rk.len
 have b:=h.tm.len
 omega
theorem Zrp(ok:gb g):(PE g).w λr=>r=g:=by
 obtain⟨l1,l2⟩:=ok.PD
 unfold PE
 refine cw (Z7 l1 (by have:=ok.dl;omega) (by have:=ok.rl;omega) ok.sf) λx0 h0=>cw (Z7 l2 ok.tc (by have:=ok.tl;omega) ok.tf) λx1 h1=>cw (Zix ok.fl ok.fo) λx2 h2=>cw (Zix ok.bl ok.bo) λx3 h3=>cg (show g.A9.ab.length<=1000000000000 by have:=ok.st.1;omega) (aq λx4 h4=>ba ?_)
 have h4:x4=g.A9.ab:=h4
 subst h0;subst h1;subst h2;subst h3;subst h4
 rfl
theorem PF{s t:List Int}(hl:s.length<=1000000):(Mk s t).w λr=>r=decide (s=t):=by
 unfold Mk
 refine ae (λh=>ba ?_) (λhe=>?_)
 ·have h:¬(s.length:Int)=t.length:=by simpa using h
  exact(dN (λe=>h (by rw[e]))).symm
 ·have he:s.length=t.length:=by
   have:(s.length:Int)=t.length:=by simpa using he
   omega
  refine eu (inv:=λz:Int=>∃i:Nat,z=i/\i<=s.length/\∀j,j<i->s.getD j 0=t.getD j 0) (μ:=PG s t) ⟨0,rfl,bC _,λj h=>by omega⟩ (cN _) ?_
  rintro _ ⟨i,rfl,hi,hj⟩
  refine ae (λbd=>?_) (λfx=>ba ?_)
  ·have bd:i<s.length:=by simpa using bd
   have ew:wrap .i64 ((i:Int)+1)=((i+1:Nat):Int):=by rw[wi (by omega) (by omega)];omega
   refine av (jR bd) (av (jR (by omega)) (ae (λhn=>ba ?_) (λheq=>ee ⟨⟨i+1,ew,bd,λj Mc=>?_⟩,by simp only[PG,ew];omega⟩)))
   ·rw[dX]at hn
    exact(dN (λe=>nt hn (by rw[e]))).symm
   ·rw[dX]at heq
    rcases Nat.lt_succ_iff_lt_or_eq.1 Mc with h|h
    ·exact hj j h
    ·subst h;exact Mj heq
  ·have fx:s.length<=i:=by simpa using fx
   refine(dY (bR he λj h1 h2=>?_)).symm
   have:=hj j (by omega)
   simpa[aV,h1,h2]using this
theorem Zis(ok:gb g):(PH g).w λr=>r=decide (Ct g):=by
 unfold PH
 have tl:=ok.tl
 refine ae (λh=>cg (show g.A2.A3.length<=1000000000000 by omega) (aq λx hx=>ba ?_)) (λh=>ba ?_)
 ·rw[show x=decide (g.A2.A3=g.A2.C1) from hx.trans (Tree.pp (PF (s:=g.A2.A3) (t:=g.A2.C1) (by omega))).2]
  refine decide_eq_decide.2 ⟨λe=>⟨bt h,e⟩,λe=>e.2⟩
 ·exact(dN (λe=>bf h e.1)).symm
theorem G6(ok:gb g){a:kT}(hc:U a.F8):(PI g a).w λr=>r=Bi g a:=by
 unfold PI
 refine cw (Zrp ok) λx0 h0=>?_
 subst h0
 unfold Bi
 refine ae (λk=>?_) λk=>?_
 ·rw[if_pos (bt k)]
  exact cw (xaJ ok hc a.N) λy hy=>ba (by rw[hy];rfl)
 rw[if_neg (bf k)]
 refine ae (λk=>?_) λk=>?_
 ·rw[if_pos (bt k)]
  refine ae (λh1=>ae (λh2=>?_) (λh2=>ba ?_)) (λh1=>ba ?_)
  ·have h1:=bt h1
   have h2:x0.A1.B3.B9<10:=oY h2
   rw[if_pos ⟨h1,h2⟩,Jl ok (by omega)]
   exact cw (Zrh ok (by omega)) λy hy=>ba (by rw[hy];rfl)
  ·have h2:¬x0.A1.B3.B9<10:=oN h2
   rw[if_neg (λq=>h2 q.2)]
  ·rw[if_neg (λq=>bf h1 q.1)]
 rw[if_neg (bf k)]
 refine ae (λk=>?_) λk=>?_
 ·rw[if_pos (bt k)]
  exact cw (zas ok a.N) λy hy=>ba (by rw[hy];rfl)
 rw[if_neg (bf k)]
 refine ae (λk=>?_) λk=>?_
 ·rw[if_pos (bt k)]
  exact cw (yt ok) λy hy=>ba (by rw[hy];rfl)
 rw[if_neg (bf k)]
 refine ae (λk=>?_) λk=>?_
 ·rw[if_pos (bt k)]
  exact cw (Ztu ok a.C0 a.N) λy hy=>ba (by rw[hy];rfl)
 rw[if_neg (bf k)]
 refine ae (λk=>?_) λk=>?_
 ·rw[if_pos (bt k)]
  exact cw (Zsn ok a.C0 a.N) λy hy=>ba (by rw[hy];rfl)
 rw[if_neg (bf k)]
 refine ae (λk=>?_) λk=>?_
 ·rw[if_pos (bt k)]
  exact cw (vt ok a.C0 a.N) λy hy=>ba (by rw[hy];rfl)
 rw[if_neg (bf k)]
 refine ae (λk=>?_) λk=>?_
 ·rw [if_pos (bt k)]
  refine cw (Zis ok) λx8 h8=>ae (λhb=>?_) λhb=>ba ?_
  ·rw[h8]at hb
   have hf:Ct x0:=oY hb
   unfold sG
   rw[if_pos hf]
   refine cw (vR ok.st (host:=1) (by decide)) λx9 h9=>?_
   by_cases hc:(mr x0.A9 1 x0.A2.D5).2=true
   ·rw[if_pos hc]at h9⊢
    subst h9
    exact ae (λ_=>cw (qt (g:={x0 with A9:=(mr x0.A9 1 x0.A2.D5).1,A2:={x0.A2 with A4:=3,D5:=(mr x0.A9 1 x0.A2.D5).1.D5}}) (Cs 3)) λy hy=>ba (by rw[hy];rfl)) λh=>by cases h
   ·rw[if_neg hc]at h9⊢
    subst h9
    exact ae (λh=>by cases h) λ_=>ba rfl
  ·rw[h8]at hb
   have hf:¬Ct x0:=oN hb
   unfold sG
   rw[if_neg hf]
 rw[if_neg (bf k)]
 refine ae (λk=>?_) λk=>?_
 ·rw[if_pos (bt k)]
  exact cw (qS ok.st) λy hy=>ba (by rw[hy];rfl)
 rw[if_neg (bf k)]
 refine ae (λk=>?_) λk=>?_
 ·rw[if_pos (bt k)]
  refine aq λy hy=>ba ?_
  have hy:y=mv (Pe x0 a.C0):=hy.trans (Tree.pp (xar (g:=x0) a.C0)).2
  rw[hy];rfl
 rw[if_neg (bf k)]
 exact ba rfl
theorem Fe(n:Int):PJ n 128/\(YR n 128).length=128:=by
 refine⟨by show(128:Int)<=1000000000000;decide,?_⟩
 show Tree.V (Ml n 128) (λs=>s.length=128)
 unfold Ml
 refine EW (inv:=λv:Int×List Int=>0<=v.1/\v.1<=128/\v.2.length=v.1.toNat) (μ:=UN n 128) ⟨eN 0,by decide,rfl⟩ (cN _) λv ⟨a,b,c⟩=>?_
 refine lu (λhb=>mq λx0 _=>Cq (Jh ?_)) λhb=>mW ?_
 ·have hb:=oY hb
  show(0<=wrap .i64 (v.1+1)/\wrap .i64 (v.1+1)<=128/\(v.2++[_]).length=(wrap .i64 (v.1+1)).toNat)/\(128-wrap .i64 (v.1+1)).toNat<(128-v.1).toNat
  rw[wi (by omega) (by omega)]
  refine⟨⟨by omega,by omega,?_⟩,by omega⟩
  rw[lA,c];simp;omega
 ·have hb:=oN hb
  show(bytesOf v.2).length=128
  unfold bytesOf
  rw[eY,c];omega
theorem xS(n:Int):(PK n).w λr=>r.length=4/\∀b∈r,b.length=128:=by
 unfold PK
 refine eu (inv:=λz:Int×List (List UInt8)=>∃i:Nat,z.1=i/\i<=4/\z.2.length=i/\∀b∈z.2,b.length=128) (μ:=YS n) ⟨0,rfl,bC _,rfl,λb hb=>(by cases hb)⟩ (cN _) ?_
 rintro⟨_,y⟩ ⟨i,rfl,hi,hl,hb⟩
 simp only at hl hb
 refine ae (λbd=>?_) (λfx=>ba ?_)
 ·have bd:(i:Int)<4:=oY bd
  have ew:wrap .i64 ((i:Int)+1)=((i+1:Nat):Int):=by rw[wi (by omega) (by omega)];omega
  obtain⟨d1,d2⟩:=Fe (wrap .i64 (n+(i:Int)))
  refine cg d1 (aq λx0 h0=>av (dY (by show 16*(y.length+1)<=_;omega)) (ee ⟨⟨i+1,ew,by omega,by simp;omega,λb rJ=>?_⟩,by simp only[YS,ew];omega⟩))
  rcases List.mem_append.1 rJ with h|h
  ·exact hb b h
  ·rw[List.mem_singleton.1 h,h0];exact d2
 ·have fx:¬(i:Int)<4:=oN fx
  exact⟨by show y.length=4;omega,hb⟩
theorem Zr9{s:gj}(hb:s.ab.length=4)(hB:∀b∈s.ab,b.length=128)(hg:0<=s.D5/\s.D5<=2)(ho:s.D5=0->s.D6= -1)(ho2:0<s.D5->0<=s.D6):(Js s).w λr=>r=true:=by
 unfold Js
 refine ae (λh=>absurd (oY h) (by omega)) λ_=>ae (λh=>absurd (oY h) (by omega)) λ_=>ae (λh=>absurd (oY h) (by omega)) λ_=>ae (λh0=>ae (λh=>absurd (ho (bt h0)) (nt h)) (λ_=>ae (λh=>absurd (oY h) (by have:=bt h0;omega)) (λ_=>?_))) (λh0=>ae (λhp=>ae (λh=>absurd (oY h) (by have:=ho2 (oY hp);omega)) (λ_=>?_)) (λhp=>?_))
 all_goals
  refine eu (inv:=λz:Int=>∃i:Nat,z=i/\i<=s.ab.length) (μ:=Jt s) ⟨0,rfl,bC _⟩ (cN _) ?_
  rintro _ ⟨i,rfl,hi⟩
  refine ae (λbd=>?_) (λfx=>ba rfl)
  have bd:i<s.ab.length:=by simpa using bd
  have ew:wrap .i64 ((i:Int)+1)=((i+1:Nat):Int):=by rw[wi (by omega) (by omega)];omega
  refine av (jR bd) (ae (λh=>?_) (λ_=>ee ⟨⟨i+1,ew,bd⟩,by simp only[Jt,ew];omega⟩))
  exfalso
  have e:s.ab.getD (dA (i:Int)) (RK.dx RK.str)=s.ab[i]:=by simp[aV,bd]
  rw[e,hB _ (eV bd)]at h
  cases h
theorem Zuz{b:List (List UInt8)}(hb:b.length=4)(hB:∀x∈b,x.length=128):(PL b).w λr=>r=(⟨b,0,-1⟩,true):=by
 unfold PL
 refine av (dY (by omega)) (cw (Zr9 (s:=⟨b,0,-1⟩) hb hB ⟨eN 0,by show(0:Int)<=2;decide⟩ (λ_=>rfl) (λh=>absurd h (by show¬(0:Int)<0;decide))) λx hx=>?_)
 subst hx
 exact ae (λh=>by cases h) λ_=>ba rfl
theorem zS{b:List (List UInt8)}(hb:b.length=4)(hB:∀x∈b,x.length=128):(PM ⟨b,0,-1⟩ 0 0).w λr=>r=(⟨b,1,0⟩,true):=by
 unfold PM
 refine cw (Zr9 (s:=⟨b,0,-1⟩) hb hB ⟨eN 0,by show(0:Int)<=2;decide⟩ (λ_=>rfl) (λh=>absurd h (by show¬(0:Int)<0;decide))) λx hx=>?_
 subst hx
 exact ae (λh=>by cases h) λ_=>ae (λh=>by cases h) λ_=>ae (λh=>by cases h) λ_=>ae (λh=>by cases h) λ_=>ba rfl
theorem qaK{m:bg}(hm:ic 8 m){b:List (List UInt8)}(hb:b.length=4)(hB:∀x∈b,x.length=128):(Ju m ⟨b,1,0⟩).w λr=>r=(Cw m b,true):=by
 have hs:Cr ⟨b,1,0⟩:=⟨hb,hB,by show(1:Int)<=1;decide,by show(1:Int)<=2;decide,by show(0:Int)<=0;decide⟩
 have mp:jP m.Mem=((8:Nat):Int):=L9 (P:=8) hm.nq.len (by decide)
 have ml:=hm.nq.len
 unfold Ju
 refine cg (Tree.pp (xA hm.ok.target.2)).1 (aq λx0 h0=>?_)
 have h0:x0=true:=h0.trans hm.may
 subst h0
 refine ae (λh=>by cases h) λ_=>cw (Zs9 hs) λx1 h1=>?_
 subst h1
 refine ae (λh=>by cases h) λ_=>ae (λh=>by cases h) λ_=>?_
 obtain⟨b1,b2⟩:=zl (P:=8) (by decide) (by decide)
 obtain⟨n1,n2⟩:=qaa (P:=8) (by decide) (by decide)
 have cm:(Q1 m).w λr=>r=m:=by
  unfold Q1
  exact cg (show m.Mem.length<=35184372088832 by omega) (aq λy hy=>by have hy:y=m.Mem:=hy;subst hy;exact ba rfl)
 refine aq λx2 h2=>?_
 have h2:x2=((8:Nat):Int):=h2.trans mp
 subst h2
 refine cg b1 (aq λx3 h3=>?_)
 have h3:x3=(⟨cO 8 true,0,0⟩,true):=h3.trans b2
 subst h3
 refine ae (λh=>by cases h) λ_=>cw cm λx4 h4=>?_
 subst h4
 refine av (by rw[dY (by decide)];rfl) (av (by rw[dY (by decide)];rfl) (cg n1 (aq λx5 h5=>cg (show b.length<=1000000000000 by omega) (aq λx6 h6=>ba ?_))))
 have h5:x5=cO (32*8) 0:=h5.trans n2
 have h6:x6=b:=h6
 subst h5;subst h6
 rfl
theorem qu(kind:Int)(prog:List Int)(hl:prog.length*8<=reachBytes)(h60:prog.length<=60):(PN kind prog).w λr=>∃m b,r=(Cw m b,m,true)/\ic 8 m/\b.length=4/\∀x∈b,x.length=128:=by
 unfold PN
 have mg:=(Zls kind prog hl h60).1
 refine cg (Tree.pp (Zq5 kind prog hl h60)).1 (aq λx0 h0=>?_)
 have h0:x0=Ut kind prog:=h0
 rw[<-h0]at mg
 refine cw (xS 1) λx1 ⟨k1,k2⟩=>cw (Zuz k1 k2) λx2 h2=>?_
 subst h2
 refine cw (zS k1 k2) λx3 h3=>?_
 subst h3
 refine cw (qaK mg k1 k2) λx4 h4=>ba ?_
 subst h4
 exact⟨x0,x1,rfl,mg,k1,k2⟩
theorem Cz(a:bg)(ha:a.Mem.length<=1000000000000):(PO a a).w (λb=>b=true):=by
 have YT:∀s:List Int,s.length<=1000000000000->PQ s s=true:=λs hb=>by
  have h:(Jv s s).w λr=>r=true:=by
   unfold Jv
   refine ae (λh=>by simp at h) (λ_=>?_)
   refine eu (inv:=λz:Int=>∃i:Nat,z=i/\i<=s.length) (μ:=Jw s s) ⟨0,rfl,bC _⟩ (cN _) ?_
   rintro _ ⟨i,rfl,hi⟩
   refine ae (λbd=>?_) (λfx=>ba rfl)
   have bd:i<s.length:=by simpa using bd
   have ew:wrap .i64 ((i:Int)+1)=((i+1:Nat):Int):=by rw[wi (by omega) (by omega)];omega
   refine av (jR bd) (av (jR bd) (ae (λh=>by simp at h) (λ_=>ee ⟨⟨i+1,ew,bd⟩,by simp only[Jw,ew];omega⟩)))
  exact(Tree.pp (W:=λr=>r=true) h).2
 unfold PO
 repeat'(first
  |refine ae (λ_=>?_) (λh=>absurd h (by simp[eqs,PR];done))
  |exact cg ha (aq λx hx=>by rw[hx];exact YT _ ha)
  |refine cg ha (aq λx hx=>ae (λ_=>?_) (λh=>by rw[hx,YT _ ha]at h;cases h))
  |exact rfl)
 all_goals(show(_==_)=true;simp)
theorem yS{m:bg}(h:Inv nc m g)(hk:True){l:List kT}(hl:l.length<=200)(hu:∀a∈l,U a.F8)(hn:nc=true->∀a∈l,a.C2≠10)(h1:∀a∈l,a.C2≠1):(PS g l).w λr=>r=uF g l/\Inv nc m r:=by
 unfold PS
 refine cw (Zrp h.1) λx0 h0=>?_
 subst h0
 refine eu (inv:=λz:Int×dv=>∃i:Nat,z.1=i/\i<=l.length/\z.2=uF x0 (l.take i)/\Inv nc m z.2) (μ:=YU x0 l) ⟨0,rfl,bC _,rfl,h⟩ (cN _) ?_
 rintro⟨_,y⟩ ⟨i,rfl,hi,hy,hI⟩
 simp only at hy hI
 refine ae (λbd=>?_) (λfx=>ba ?_)
 ·have bd:i<l.length:=by have:(i:Int)<(l.length:Int):=oY bd;omega
  have ew:wrap .i64 ((i:Int)+1)=((i+1:Nat):Int):=by rw[wi (by omega) (by omega)];omega
  have eg:l.getD (dA (i:Int)) (RK.dx RK.bw)=l[i]:=by simp[aV,bd]
  have am:l[i]∈l:=eV bd
  refine av (by rw[dY (show 0<=(i:Int)/\(i:Int)<(l.length:Int) by omega)];rfl) (ae (λh2=>?_) λ_=>?_)
  ·exfalso
   have h2:(i:Int)=200:=bt h2
   omega
  rw[eg]
  refine cw (G6 hI.1 (hu _ am)) λx1 e1=>ee ⟨⟨i+1,ew,bd,?_,?_⟩,by simp only[YU,ew];omega⟩
  ·show x1.1=_
   rw[e1,hy,Ps bd,Zjl];rfl
  ·show Inv nc m x1.1
   rw[e1]
   have:=zaI hI (hu _ am) (λe=>hn e _ am)
   have eq:uE m y l[i]=m:=if_neg (λq=>h1 _ am q.1)
   rwa [eq]at this
 ·have fx:¬(i:Int)<(l.length:Int):=oN fx
  have:i=l.length:=by omega
  subst this
  rw[List.take_length]at hy
  exact⟨hy,hI⟩
theorem YV(g:dv):G5 g=kb g:=by
 unfold kb
 simp only[G5,UL,Tree.m]
 by_cases h1:g.A1.A4=1
 ·simp[h1]
 ·by_cases h3:g.A1.A4=3
  ·simp[h3]
  ·by_cases ht:g.A2.A4=3
   ·simp[beq_false_of_ne h1,beq_false_of_ne h3,h1,h3,ht]
   ·simp[beq_false_of_ne h1,beq_false_of_ne h3,beq_false_of_ne ht,h1,h3,ht]
theorem Zpf(ok:gb g):(PU g).w λr=>(kb g=0->r=(g.A1.A0,true))/\(kb g=1->r=(g.A2.A0,true))/\(kb g<0->r.2=false):=by
 obtain⟨l1,l2⟩:=ok.PD
 have cm:∀m:bg,m.Mem.length<=1024->(Q1 m).w λr=>r=m:=λm hm=>by
  unfold Q1
  exact cg (show m.Mem.length<=35184372088832 by omega) (aq λy hy=>by have hy:y=m.Mem:=hy;subst hy;exact ba rfl)
 unfold PU
 refine aq λx0 h0=>?_
 have h0:x0=kb g:=h0.trans (YV g)
 subst h0
 refine ae (λh=>cw (cm _ l1) λy hy=>ba ?_) λh=>ae (λh1=>cw (cm _ l2) λy hy=>ba ?_) λh1=>ba ?_
 ·have h:=bt h
  rw[hy]
  exact⟨λ_=>rfl,λq=>by omega,λq=>by omega⟩
 ·have h1:=bt h1
  rw[hy]
  exact⟨λq=>by omega,λ_=>rfl,λq=>by omega⟩
 ·exact⟨λq=>absurd q (bf h),λq=>absurd q (bf h1),λ_=>rfl⟩
theorem xas:(PV).w λr=>r=Cy:=by
 unfold PV
 refine eu (inv:=λz:Int×List kT=>∃i:Nat,z.1=i/\i<=64/\z.2=oq 2 0::oq 3 32::cO i (oq 5 0)) (μ:=YW) ⟨0,rfl,bC _,rfl⟩ (cN _) ?_
 rintro⟨_,y⟩ ⟨i,rfl,hi,hy⟩
 simp only at hy
 have yl:y.length=i+2:=by rw[hy];simp
 refine ae (λbd=>?_) (λfx=>av (dY (by show 24*(y.length+1)<=_;omega)) (ba ?_))
 ·have bd:(i:Int)<64:=oY bd
  have ew:wrap .i64 ((i:Int)+1)=((i+1:Nat):Int):=by rw[wi (by omega) (by omega)];omega
  refine av (dY (by show 24*(y.length+1)<=_;omega)) (ee ⟨⟨i+1,ew,by omega,?_⟩,by simp only[YW,ew];omega⟩)
  show y++[oq 5 0]=_
  rw[hy,eS];rfl
 ·have fx:¬(i:Int)<64:=oN fx
  have:i=64:=by omega
  subst this
  show y++[oq 8 0]=_
  rw[hy];rfl
theorem YX:∀a∈Cy,U a.F8/\a.C2≠10/\a.C2≠1:=by
 intro a ha
 have k:∀x y:Int,x≠10->x≠1->U (oq x y).F8/\(oq x y).C2≠10/\(oq x y).C2≠1:=λx y h1 h2=>⟨⟨eN 0,by show(0:Int)<4294967296;decide⟩,h1,h2⟩
 unfold Cy at ha
 rcases List.mem_cons.1 ha with rfl|ha
 ·exact k _ _ (by decide) (by decide)
 rcases List.mem_cons.1 ha with rfl|ha
 ·exact k _ _ (by decide) (by decide)
 rcases List.mem_append.1 ha with ha|ha
 ·rw[eT ha];exact k _ _ (by decide) (by decide)
 ·rw[List.mem_singleton.1 ha];exact k _ _ (by decide) (by decide)
theorem Zt3:Cy.length=67:=by
 unfold Cy
 simp only[dD,lA,cS,List.length_nil]
theorem zab:PW.w λr=>r=true:=by
 unfold PW
 refine cw (qu 2 [0] (by decide) (by decide)) λx0 ⟨m,b,e,hm,k1,k2⟩=>?_
 subst e
 have calm:=xR hm k1 k2
 refine ae (λh=>by cases h) λ_=>aq λx1 h1=>?_
 have h1:x1=0:=h1.trans ((YV _).trans (Ph (.inl rfl)))
 subst h1
 refine ae (λh=>by cases h) λ_=>cw xas λx2 h2=>?_
 subst h2
 refine cw (yS calm.inv trivial (by rw[Zt3];decide) (λa ha=>(YX a ha).1) (λ_ a ha=>(YX a ha).2.1) (λa ha=>(YX a ha).2.2)) λx3 ⟨e3,i3⟩=>?_
 obtain⟨_,q2,q3,q4,q5⟩:=Fc calm (by decide)
 rw[<-e3]at q2 q3 q4 q5
 refine cw (Zpf i3.1) λx4 ⟨_,m2,_⟩=>?_
 have m2:=m2 q2
 subst m2
 refine cw (G6 i3.1 (a:={C2:=99,N:=0,C0:=false,F8:=0}) ⟨by decide,by decide⟩) λx5 h5=>aq λx6 h6=>?_
 have h6:x6=1:=h6.trans ((YV _).trans q2)
 subst h6
 have h5:x5.2=false:=by rw[h5];rfl
 refine ae (λ_=>ae (λ_=>?_) (λh=>by cases h)) (λh=>by cases h)
 show(Tree.an (Qe x3.A2.A0 m) _).w _
 rw[q3]
 have ml:=hm.nq.len
 refine cw (Cz m (by omega)) λx7 h7=>ae (λ_=>ba ?_) (λh=>by rw[h7]at h;cases h)
 rw[h5];rfl
theorem Ff{W:Bool->Prop}(h:W true):(Tree.an G7 (.lv G8 λx=>.lf x)).w W:=by
 have a:=Tree.pp zab
 exact cg a.1 (aq λx hx=>ba (by rw[show x=true from hx.trans a.2];exact h))
theorem jx{t:ll}{ts:List ll}(h:Fits (t::ts) es):∃d ds,es=d::ds/\Fit t d/\Fits ts ds:=by
 cases es with
 |nil=>exact absurd h (by simp[Fits])
 |cons d ds=>unfold Fits at h;exact⟨d,ds,rfl,h.1,h.2⟩
theorem YY(h:Fits [] es):es=[]:=by
 cases es with
 |nil=>rfl
 |cons d ds=>exact absurd h (by simp[Fits])
theorem ie{x:Int}(h:u32.min<=x/\x<=u32.max):U x:=⟨h.1,by have:u32.max=4294967295:=rfl;have:=h.2;omega⟩
theorem Zmz(h:Fits [.int .u32,.int .u32,.int .u32,.int .u32,.int .u32,.int .u32,.int .u32,.int .u32,.int .u32,.int .u32,.int .u32,.int .u32,.int .u32,.int .u32,.int .u32,.int .u32,.int .u32,.int .u32,.int .u32,.int .u32,.int .u32,.int .u32,.int .u32,.int .u32,.int .u32,.sl [.int .u32],.str,.bool,.int .u32,.bool,.int .u32,.int .u32,.int .u32,.int .i64,.int .i64,.int .u32,.int .u32,.str,.int .u32,.int .u32,.bool,.int .u32,.bool,.int .u32,.int .u32,.int .u32,.int .u64,.bool,.bool] es):∃m:bg,es=m.cells/\Be m:=by
 obtain⟨d0,e0,rfl,h0,H0⟩:=jx h
 obtain⟨x0,rfl,b0⟩:=j7 h0
 obtain⟨d1,e1,rfl,h1,H1⟩:=jx H0
 obtain⟨x1,rfl,b1⟩:=j7 h1
 obtain⟨d2,e2,rfl,h2,H2⟩:=jx H1
 obtain⟨x2,rfl,b2⟩:=j7 h2
 obtain⟨d3,e3,rfl,h3,H3⟩:=jx H2
 obtain⟨x3,rfl,b3⟩:=j7 h3
 obtain⟨d4,e4,rfl,h4,H4⟩:=jx H3
 obtain⟨x4,rfl,b4⟩:=j7 h4
 obtain⟨d5,e5,rfl,h5,H5⟩:=jx H4
 obtain⟨x5,rfl,b5⟩:=j7 h5
 obtain⟨d6,e6,rfl,h6,H6⟩:=jx H5
 obtain⟨x6,rfl,b6⟩:=j7 h6
 obtain⟨d7,e7,rfl,h7,H7⟩:=jx H6
 obtain⟨x7,rfl,b7⟩:=j7 h7
 obtain⟨d8,e8,rfl,h8,H8⟩:=jx H7
 obtain⟨x8,rfl,b8⟩:=j7 h8
 obtain⟨d9,e9,rfl,h9,H9⟩:=jx H8
 obtain⟨x9,rfl,b9⟩:=j7 h9
 obtain⟨d10,e10,rfl,ER,H10⟩:=jx H9
 obtain⟨lI,rfl,Xw⟩:=j7 ER
 obtain⟨d11,e11,rfl,h11,H11⟩:=jx H10
 obtain⟨mu,rfl,Xx⟩:=j7 h11
 obtain⟨d12,e12,rfl,h12,H12⟩:=jx H11
 obtain⟨ot,rfl,b12⟩:=j7 h12
 obtain⟨d13,e13,rfl,BU,H13⟩:=jx H12
 obtain⟨tN,rfl,b13⟩:=j7 BU
 obtain⟨d14,e14,rfl,h14,H14⟩:=jx H13
 obtain⟨Bj,rfl,b14⟩:=j7 h14
 obtain⟨d15,e15,rfl,h15,H15⟩:=jx H14
 obtain⟨PX,rfl,b15⟩:=j7 h15
 obtain⟨d16,e16,rfl,h16,H16⟩:=jx H15
 obtain⟨CA,rfl,b16⟩:=j7 h16
 obtain⟨d17,e17,rfl,h17,H17⟩:=jx H16
 obtain⟨PY,rfl,b17⟩:=j7 h17
 obtain⟨d18,e18,rfl,h18,H18⟩:=jx H17
 obtain⟨PZ,rfl,b18⟩:=j7 h18
 obtain⟨d19,e19,rfl,h19,H19⟩:=jx H18
 obtain⟨x19,rfl,b19⟩:=j7 h19
 obtain⟨d20,e20,rfl,YZ,H20⟩:=jx H19
 obtain⟨x20,rfl,b20⟩:=j7 YZ
 obtain⟨d21,e21,rfl,h21,H21⟩:=jx H20
 obtain⟨Mm,rfl,b21⟩:=j7 h21
 obtain⟨d22,e22,rfl,h22,H22⟩:=jx H21
 obtain⟨Mn,rfl,b22⟩:=j7 h22
 obtain⟨d23,e23,rfl,h23,H23⟩:=jx H22
 obtain⟨G9,rfl,b23⟩:=j7 h23
 obtain⟨d24,e24,rfl,h24,H24⟩:=jx H23
 obtain⟨Aw,rfl,b24⟩:=j7 h24
 obtain⟨d25,e25,rfl,h25,H25⟩:=jx H24
 obtain⟨Y0,rfl,r25,b25⟩:=zI h25
 obtain⟨d26,e26,rfl,h26,H26⟩:=jx H25
 obtain⟨Y1,rfl,b26⟩:=Xc h26
 obtain⟨d27,e27,rfl,h27,H27⟩:=jx H26
 obtain⟨P0,rfl⟩:=KP h27
 obtain⟨d28,e28,rfl,h28,H28⟩:=jx H27
 obtain⟨Ha,rfl,b28⟩:=j7 h28
 obtain⟨d29,e29,rfl,h29,H29⟩:=jx H28
 obtain⟨P1,rfl⟩:=KP h29
 obtain⟨d30,e30,rfl,h30,H30⟩:=jx H29
 obtain⟨CB,rfl,b30⟩:=j7 h30
 obtain⟨d31,e31,rfl,h31,H31⟩:=jx H30
 obtain⟨Y2,rfl,b31⟩:=j7 h31
 obtain⟨d32,e32,rfl,OT,H32⟩:=jx H31
 obtain⟨Mo,rfl,b32⟩:=j7 OT
 obtain⟨d33,e33,rfl,h33,H33⟩:=jx H32
 obtain⟨UO,rfl,b33⟩:=j7 h33
 obtain⟨d34,e34,rfl,h34,H34⟩:=jx H33
 obtain⟨P2,rfl,b34⟩:=j7 h34
 obtain⟨d35,e35,rfl,h35,H35⟩:=jx H34
 obtain⟨P3,rfl,b35⟩:=j7 h35
 obtain⟨d36,e36,rfl,h36,H36⟩:=jx H35
 obtain⟨x36,rfl,b36⟩:=j7 h36
 obtain⟨d37,e37,rfl,h37,H37⟩:=jx H36
 obtain⟨x37,rfl,b37⟩:=Xc h37
 obtain⟨d38,e38,rfl,h38,H38⟩:=jx H37
 obtain⟨x38,rfl,b38⟩:=j7 h38
 obtain⟨d39,e39,rfl,h39,H39⟩:=jx H38
 obtain⟨x39,rfl,b39⟩:=j7 h39
 obtain⟨d40,e40,rfl,Xk,H40⟩:=jx H39
 obtain⟨x40,rfl⟩:=KP Xk
 obtain⟨d41,e41,rfl,h41,H41⟩:=jx H40
 obtain⟨x41,rfl,b41⟩:=j7 h41
 obtain⟨d42,e42,rfl,h42,H42⟩:=jx H41
 obtain⟨x42,rfl⟩:=KP h42
 obtain⟨d43,e43,rfl,h43,H43⟩:=jx H42
 obtain⟨x43,rfl,b43⟩:=j7 h43
 obtain⟨d44,e44,rfl,h44,H44⟩:=jx H43
 obtain⟨x44,rfl,b44⟩:=j7 h44
 obtain⟨d45,e45,rfl,h45,H45⟩:=jx H44
 obtain⟨x45,rfl,b45⟩:=j7 h45
 obtain⟨d46,e46,rfl,h46,H46⟩:=jx H45
 obtain⟨x46,rfl,b46⟩:=j7 h46
 obtain⟨d47,e47,rfl,h47,H47⟩:=jx H46
 obtain⟨x47,rfl⟩:=KP h47
 obtain⟨d48,e48,rfl,h48,H48⟩:=jx H47
 obtain⟨x48,rfl⟩:=KP h48
 obtain rfl:=YY H48
 refine⟨⟨⟨⟨x0,x1,x2,x3,x4,x5,x6,x7,x8,x9,lI,mu,ot,tN,Bj,PX⟩,CA,⟨PY,PZ,x19,x20,Mm,Mn,G9,Aw⟩⟩,Y0,⟨Y1⟩,⟨P0,Ha,P1⟩,⟨CB,Y2,Mo,UO,P2,P3,x36,x37⟩,⟨x38,x39,x40,x41,x42,x43⟩,⟨x44,x45⟩,x46,x47,x48⟩,rfl,⟨⟨?_,ie b16,?_⟩,λw hw=>ie (b25 w hw),⟨ie b31,ie b32,ie b35,ie b36⟩,⟨ie b38,ie b39,ie b41,ie b43⟩,⟨ie b44,ie b45⟩,b46.1⟩⟩
 ·intro w hw
  have hw:w∈[x0,x1,x2,x3,x4,x5,x6,x7,x8,x9,lI,mu,ot,tN,Bj,PX]:=hw
  simp only[cQ,cR,or_false]at hw
  rcases hw with rfl|rfl|rfl|rfl|rfl|rfl|rfl|rfl|rfl|rfl|rfl|rfl|rfl|rfl|rfl|rfl
  ·exact ie b0
  ·exact ie b1
  ·exact ie b2
  ·exact ie b3
  ·exact ie b4
  ·exact ie b5
  ·exact ie b6
  ·exact ie b7
  ·exact ie b8
  ·exact ie b9
  ·exact ie Xw
  ·exact ie Xx
  ·exact ie b12
  ·exact ie b13
  ·exact ie b14
  ·exact ie b15
 ·intro w hw
  have hw:w∈[PY,PZ,x19,x20,Mm,Mn,G9,Aw]:=hw
  simp only[cQ,cR,or_false]at hw
  rcases hw with rfl|rfl|rfl|rfl|rfl|rfl|rfl|rfl
  ·exact ie b17
  ·exact ie b18
  ·exact ie b19
  ·exact ie b20
  ·exact ie b21
  ·exact ie b22
  ·exact ie b23
  ·exact ie b24
theorem gd.Y3{k:RK}{es:List (List D)}{fr:Bool}{l:List (RK.T k)}(h:es=l.map (RK.cells k)):gd (.sl k.size (.gen es) fr) (.sl k.size (.ah k l) false):=by
 intro c w v hv
 obtain⟨a,cap,hv,hc,gu⟩:=hv
 have he:(ai.gen es).l=(ai.ah k l).l:=by subst h;rfl
 rw[he]at hv hc gu
 refine⟨a,cap,hv,hc,?_⟩
 rcases gu with gu|⟨b,off,arr,ty,fz,ha,hI,hf,hh,hE⟩
 ·exact .inl gu
 ·exact .inr ⟨b,off,arr,ty,fz,ha,hI,(λe=>by cases e),hh,hE⟩
theorem kd.rfl:∀{l:List D},kd l l
 |[]=>trivial
 |_::_=>⟨gd.rfl,kd.rfl⟩
theorem vS{d:D}(h:Fit (.sl [.str]) d):∃l:List (List UInt8),gd d (.sl 1 (.ah .str l) false)/\l.length<=1000000000000000:=by
 unfold Fit at h
 obtain⟨es,rfl,hl,h⟩:=h
 have:∃l:List (List UInt8),es=l.map (RK.cells .str):=by
  clear hl
  induction es with
  |nil=>exact⟨[],rfl⟩
  |cons x es ih=>
   obtain⟨l,h1⟩:=ih (λe he=>h e (by simp[he]))
   obtain⟨d0,e0,rfl,h0,H0⟩:=jx (h x (by simp))
   obtain⟨x0,rfl,b0⟩:=Xc h0
   obtain rfl:=YY H0
   exact⟨x0::l,by rw[h1];rfl⟩
 obtain⟨l,rfl⟩:=this
 refine⟨l,gd.Y3 (k:=.str) rfl,?_⟩
 rw[eY]at hl
 have hl:=Nat.le_trans (Nat.le_mul_of_pos_right l.length (by decide)) hl
 unfold reachBytes at hl;omega
theorem Zuu(h:Fits [.sl [.str],.int .u64,.int .i64] es):∃s:gj,rm (.agg es) (.agg s.cells)/\s.ab.length<=1000000000000000/\0<=s.D5:=by
 obtain⟨d0,e0,rfl,h0,H0⟩:=jx h
 obtain⟨l,hl,hn⟩:=vS h0
 obtain⟨d1,e1,rfl,h1,H1⟩:=jx H0
 obtain⟨x1,rfl,b1⟩:=j7 h1
 obtain⟨d2,e2,rfl,h2,H2⟩:=jx H1
 obtain⟨x2,rfl,b2⟩:=j7 h2
 obtain rfl:=YY H2
 exact⟨⟨l,x1,x2⟩,⟨hl,gd.rfl,gd.rfl,trivial⟩,hn,b1.1⟩
theorem wF(a:List Int)(h:a.length<=1000000000000):(Mp a a).w λr=>r=true:=by
 unfold Mp
 refine ae (λh=>by simp at h) (λ_=>?_)
 refine eu (inv:=λz:Int=>∃i:Nat,z=i/\i<=a.length) (μ:=P4 a a) ⟨0,rfl,bC _⟩ (cN _) ?_
 rintro _ ⟨i,rfl,hi⟩
 refine ae (λbd=>?_) (λfx=>ba rfl)
 have bd:i<a.length:=by simpa using bd
 have ew:wrap .i64 ((i:Int)+1)=((i+1:Nat):Int):=by rw[wi (by omega) (by omega)];omega
 exact av (jR bd) (av (jR bd) (ae (λh=>by simp at h) (λ_=>ee ⟨⟨i+1,ew,bd⟩,by simp only[P4,ew];omega⟩)))
theorem Fg(a:List Bool)(h:a.length<=1000000000000):(Mq a a).w λr=>r=true:=by
 unfold Mq
 refine ae (λh=>by simp at h) (λ_=>?_)
 refine eu (inv:=λz:Int=>∃i:Nat,z=i/\i<=a.length) (μ:=P5 a a) ⟨0,rfl,bC _⟩ (cN _) ?_
 rintro _ ⟨i,rfl,hi⟩
 refine ae (λbd=>?_) (λfx=>ba rfl)
 have bd:i<a.length:=by simpa using bd
 have ew:wrap .i64 ((i:Int)+1)=((i+1:Nat):Int):=by rw[wi (by omega) (by omega)];omega
 exact av (jR bd) (av (jR bd) (ae (λh=>by simp at h) (λ_=>ee ⟨⟨i+1,ew,bd⟩,by simp only[P5,ew];omega⟩)))
theorem Fh(a:List (List UInt8))(h:a.length<=1000000000000):(Mr a a).w λr=>r=true:=by
 unfold Mr
 refine ae (λh=>by simp at h) (λ_=>?_)
 refine eu (inv:=λz:Int=>∃i:Nat,z=i/\i<=a.length) (μ:=P6 a a) ⟨0,rfl,bC _⟩ (cN _) ?_
 rintro _ ⟨i,rfl,hi⟩
 refine ae (λbd=>?_) (λfx=>ba rfl)
 have bd:i<a.length:=by simpa using bd
 have ew:wrap .i64 ((i:Int)+1)=((i+1:Nat):Int):=by rw[wi (by omega) (by omega)];omega
 exact av (jR bd) (av (jR bd) (ae (λh=>by simp at h) (λ_=>ee ⟨⟨i+1,ew,bd⟩,by simp only[P6,ew];omega⟩)))
structure Y4(s:ia):Prop where
 m:s.A0.Mem.length<=2000
 d:s.B3.B0.length<=2000
 r:s.A3.length<=2000
 f:s.C1.length<=2000
def UP(l:List fi):Prop:=l.length<=2000/\∀x∈l,x.A0.Mem.length<=2000/\x.A3.length<=2000
structure szG(g:dv):Prop where
 s:Y4 g.A1
 t:Y4 g.A2
 f:UP g.A7
 b:UP g.C0
 st:g.A9.ab.length<=2000
theorem Zdw{s:ia}(h:Y4 s):(P7 s s).w λr=>r=true:=by
 obtain⟨h1,h2,h3,h4⟩:=h
 have sI:∀a:List Int,a.length<=2000->Jx a a/\P8 a a=true:=λa ha=>⟨by show a.length<=1000000000000;omega,(Tree.pp (wF a (by omega))).2⟩
 have sC:(P9 s.B3 s.B3).w λr=>r=true:=by
  unfold P9
  exact ae (λ_=>ae (λ_=>cg (show s.B3.B0.length<=1000000000000 by omega) (aq λx hx=>ba (hx.trans (Tree.pp (Fg _ (by omega))).2))) (λh=>by simp at h)) (λh=>by simp at h)
 unfold P7
 refine ae (λ_=>ae (λ_=>cw (Cz s.A0 (by omega)) λx0 e0=>ae (λ_=>cw sC λx1 e1=>ae (λ_=>cg (sI _ h3).1 (aq λx2 e2=>ae (λ_=>cg (sI _ h4).1 (aq λx3 e3=>ba (e3.trans (sI _ h4).2))) (λh=>?_))) (λh=>?_)) (λh=>?_)) (λh=>by simp at h)) (λh=>by simp at h)
 ·rw[show x2=true from e2.trans (sI _ h3).2]at h;cases h
 ·rw[e1]at h;cases h
 ·rw[e0]at h;cases h
theorem Fi(h:UP l):(QA l l).w λr=>r=true:=by
 obtain⟨h1,h2⟩:=h
 unfold QA
 refine ae (λh=>by simp at h) (λ_=>?_)
 refine eu (inv:=λz:Int=>∃i:Nat,z=i/\i<=l.length) (μ:=Y5 l l) ⟨0,rfl,bC _⟩ (cN _) ?_
 rintro _ ⟨i,rfl,hi⟩
 refine ae (λbd=>?_) (λfx=>ba rfl)
 have bd:i<l.length:=by simpa using bd
 have ew:wrap .i64 ((i:Int)+1)=((i+1:Nat):Int):=by rw[wi (by omega) (by omega)];omega
 have eg:l.getD (dA (i:Int)) (RK.dx RK.aa)=l[i]:=by simp[aV,bd]
 obtain⟨m1,m2⟩:=h2 _ (eV bd)
 have cn:(bX 54 54&&bN 0 54&&decide (0<=(i:Int)/\(i:Int)<(l.length:Int)))=true:=by
  rw[dY (by omega)];rfl
 rw[eg]
 generalize l[i]=x at m1 m2
 refine av cn (av cn (ae (λh=>by simp at h) λ_=>av cn (av cn (ae (λh=>by simp at h) λ_=>av cn (av cn (ae (λh=>by simp at h) λ_=>av cn (av cn (ae (λh=>by simp at h) λ_=>av cn (av cn (cw (Cz x.A0 (by omega)) λx0 e0=>ae (λh=>by rw[e0]at h;cases h) λ_=>av cn (av cn (cg (show x.A3.length<=1000000000000 by omega) (aq λx1 e1=>ae (λh=>?_) λ_=>ee ⟨⟨i+1,ew,bd⟩,by simp only[Y5,ew];omega⟩)))))))))))))
 have e1:x1=true:=e1.trans (Tree.pp (wF x.A3 (by omega))).2
 rw[e1]at h;cases h
theorem Ax(h:szG g):(QB g g).w λr=>r=true:=by
 obtain⟨h1,h2,h3,h4,h5⟩:=h
 have sT:(QC g.A9 g.A9).w λr=>r=true:=by
  unfold QC
  exact ae (λ_=>ae (λ_=>cg (show g.A9.ab.length<=1000000000000 by omega) (aq λx hx=>ba (hx.trans (Tree.pp (Fh _ (by omega))).2))) (λh=>by simp at h)) (λh=>by simp at h)
 have no:∀{x:Bool} {p:Prop},x=true->x=false->p:=λa b=>by rw[a]at b;cases b
 have sl:∀l,UP l->Y6 l l/\Y7 l l=true:=λl hl=>Tree.pp (Fi hl)
 unfold QB
 exact cw (Zdw h1) λx0 e0=>ae (λ_=>cw (Zdw h2) λx1 e1=>ae (λ_=>cg (sl _ h3).1 (aq λx2 e2=>ae (λ_=>cg (sl _ h4).1 (aq λx3 e3=>ae (λ_=>cw sT λx4 e4=>ba e4) (no (e3.trans (sl _ h4).2)))) (no (e2.trans (sl _ h3).2)))) (no e1)) (no e0)
theorem Hb{β:Type}{W:β->Prop}{f:Bool->β}(h:W (f true)):(Tree.an G7 (.lv G8 λx=>.lf (f x))).w W:=by
 have a:=Tree.pp zab
 exact cg a.1 (aq λx hx=>ba (by rw[show x=true from hx.trans a.2];exact h))
def Ea(s:gj):Prop:=1<=s.ab.length/\s.ab.length<=64/\s.D5<=4611686018427387904/\(∀j,j<s.ab.length->(s.ab.getD j []).length=128)/\(s.D5=0->s.D6= -1)/\(s.D5≠0->0<=s.D6)
theorem Jy{s:gj}(h:∀j,j<i->(s.ab.getD j []).length=128)(k:(s.ab.getD i []).length=128):∀j,j<i+1->(s.ab.getD j []).length=128:=λj hj=>by
 rcases Nat.lt_succ_iff_lt_or_eq.1 hj with h1|h1
 ·exact h j h1
 ·rw[h1];exact k
theorem xu(s:gj):(Jk s).w λr=>r=true↔Ea s:=by
 have no:∀{p:Prop},¬p->(false=true↔p):=λh=>⟨λe=>(by cases e),λe=>absurd e h⟩
 unfold Jk
 refine ae (λh=>ba (no λv=>?_)) λh1=>ae (λh=>ba (no λv=>?_)) λh2=>ae (λh=>ba (no λv=>?_)) λh3=>?_
 ·have h:=oY h;have:=v.1;omega
 ·have h:=oY h;have:=v.2.1;omega
 ·have h:=oY h;have:=v.2.2.1;omega
 have h1:=oN h1
 have h2:=oN h2
 have h3:=oN h3
 refine eu (inv:=λz:Int=>∃i:Nat,z=i/\i<=s.ab.length/\∀j,j<i->(s.ab.getD j []).length=128) (μ:=O9 s) ⟨0,rfl,bC _,λj hj=>absurd hj (fG _)⟩ (cN _) ?_
 rintro _ ⟨i,rfl,hi,ha⟩
 refine ae (λbd=>?_) (λfx=>?_)
 ·have bd:i<s.ab.length:=by simpa using bd
  have ew:wrap .i64 ((i:Int)+1)=((i+1:Nat):Int):=by rw[wi (by omega) (by omega)];omega
  have e:s.ab.getD (dA (i:Int)) (RK.dx RK.str)=s.ab.getD i []:=rfl
  refine av (jR bd) (ae (λh=>ba (no λv=>?_)) (λh=>ee ⟨⟨i+1,ew,bd,Jy ha ?_⟩,by simp only[O9,ew];omega⟩))
  ·rw[e,v.2.2.2.1 i bd]at h;cases h
  ·rw[e]at h;have h:=bne_eq_false_iff_eq.1 h;omega
 ·have fx:¬i<s.ab.length:=by simpa using fx
  obtain rfl:i=s.ab.length:=by omega
  refine ae (λh=>ba ?_) (λh=>ba ?_)
  ·have h:s.D5=0:=by simpa using h
   show(s.D6== -1)=true↔_
   exact⟨λo=>⟨by omega,by omega,by omega,ha,λ_=>by simpa using o,λk=>absurd h k⟩,λv=>by simpa using v.2.2.2.2.1 h⟩
  ·have h:¬s.D5=0:=by simpa using h
   show decide (s.D6>=0)=true↔_
   exact⟨λo=>⟨by omega,by omega,by omega,ha,λk=>absurd k h,λ_=>oY o⟩,λv=>dY (v.2.2.2.2.2 h)⟩
theorem zu(s:gj)(hg:0<=s.D5):(Js s).w λr=>r=true↔Ea s:=by
 have no:∀{p:Prop},¬p->(false=true↔p):=λh=>⟨λe=>(by cases e),λe=>absurd e h⟩
 unfold Js
 refine ae (λh=>ba (no λv=>?_)) λh1=>ae (λh=>ba (no λv=>?_)) λh2=>ae (λh=>ba (no λv=>?_)) λh3=>?_
 ·have h:=oY h;have:=v.1;omega
 ·have h:=oY h;have:=v.2.1;omega
 ·have h:=oY h;have:=v.2.2.1;omega
 have h1:=oN h1
 have h2:=oN h2
 have h3:=oN h3
 refine ae (λg0=>ae (λh=>ba (no λv=>?_)) λho=>ae (λgp=>?_) λgp=>?_) λg0=>ae (λgp=>ae (λh=>ba (no λv=>?_)) λho=>?_) λgp=>?_
 ·have g0:s.D5=0:=by simpa using g0
  rw[v.2.2.2.2.1 g0]at h;cases h
 ·have g0:s.D5=0:=by simpa using g0
  have gp:=oY gp
  omega
 ·have g0:s.D5=0:=by simpa using g0
  have ho:s.D6= -1:=by simpa using ho
  have go:(s.D5=0->s.D6= -1)/\(s.D5≠0->0<=s.D6):=⟨λ_=>ho,λk=>absurd g0 k⟩
  refine eu (inv:=λz:Int=>∃i:Nat,z=i/\i<=s.ab.length/\∀j,j<i->(s.ab.getD j []).length=128) (μ:=Jt s) ⟨0,rfl,bC _,λj hj=>absurd hj (fG _)⟩ (cN _) ?_
  rintro _ ⟨i,rfl,hi,ha⟩
  refine ae (λbd=>?_) (λfx=>ba ?_)
  ·have bd:i<s.ab.length:=by simpa using bd
   have ew:wrap .i64 ((i:Int)+1)=((i+1:Nat):Int):=by rw[wi (by omega) (by omega)];omega
   have e:s.ab.getD (dA (i:Int)) (RK.dx RK.str)=s.ab.getD i []:=rfl
   refine av (jR bd) (ae (λh=>ba (no λv=>?_)) (λh=>ee ⟨⟨i+1,ew,bd,Jy ha ?_⟩,by simp only[Jt,ew];omega⟩))
   ·rw[e,v.2.2.2.1 i bd]at h;cases h
   ·rw[e]at h;have h:=bne_eq_false_iff_eq.1 h;omega
  ·have fx:¬i<s.ab.length:=by simpa using fx
   obtain rfl:i=s.ab.length:=by omega
   exact⟨λ_=>⟨by omega,by omega,by omega,ha,go.1,go.2⟩,λ_=>rfl⟩
 ·have g0:¬s.D5=0:=by simpa using g0
  have:=v.2.2.2.2.2 g0
  exact absurd (oY h) (by omega)
 ·have g0:¬s.D5=0:=by simpa using g0
  have ho:=oN ho
  have go:(s.D5=0->s.D6= -1)/\(s.D5≠0->0<=s.D6):=⟨λk=>absurd k g0,λ_=>by omega⟩
  refine eu (inv:=λz:Int=>∃i:Nat,z=i/\i<=s.ab.length/\∀j,j<i->(s.ab.getD j []).length=128) (μ:=Jt s) ⟨0,rfl,bC _,λj hj=>absurd hj (fG _)⟩ (cN _) ?_
  rintro _ ⟨i,rfl,hi,ha⟩
  refine ae (λbd=>?_) (λfx=>ba ?_)
  ·have bd:i<s.ab.length:=by simpa using bd
   have ew:wrap .i64 ((i:Int)+1)=((i+1:Nat):Int):=by rw[wi (by omega) (by omega)];omega
   have e:s.ab.getD (dA (i:Int)) (RK.dx RK.str)=s.ab.getD i []:=rfl
   refine av (jR bd) (ae (λh=>ba (no λv=>?_)) (λh=>ee ⟨⟨i+1,ew,bd,Jy ha ?_⟩,by simp only[Jt,ew];omega⟩))
   ·rw[e,v.2.2.2.1 i bd]at h;cases h
   ·rw[e]at h;have h:=bne_eq_false_iff_eq.1 h;omega
  ·have fx:¬i<s.ab.length:=by simpa using fx
   obtain rfl:i=s.ab.length:=by omega
   exact⟨λ_=>⟨by omega,by omega,by omega,ha,go.1,go.2⟩,λ_=>rfl⟩
 ·have g0:¬s.D5=0:=by simpa using g0
  have gp:=oN gp
  exact absurd (show s.D5>0 by omega) gp
def QD(P:Nat)(m:bg)(s:gj):dv:=
 ⟨⟨1,m,⟨cO P true,0,0⟩,cO P 0,[],s.D5⟩,⟨0,{zM with Mem:=cO (32*P) 0},⟨[],0,0⟩,cO P 0,[],s.D5⟩,[],[],s⟩
def zG:dv:=⟨⟨0,zM,⟨[],0,0⟩,[],[],0⟩,⟨0,zM,⟨[],0,0⟩,[],[],0⟩,[],[],⟨[],0,0⟩⟩
def Jz(m:bg)(s:gj)(r:dv×Bool):Prop:=
 (rh m=true/\Ea s/\s.D5≠0->r=(QD (rL m.Mem).toNat m s,true))/\(¬(rh m=true/\Ea s/\s.D5≠0)->r=(zG,false))
theorem Y8{m:bg}(h:Be m)(hm:rh m=true):∃P:Nat,1<=P/\P<=32/\m.Mem.length=32*P/\rL m.Mem=P/\jP m.Mem=P:=by
 obtain⟨e,c⟩:=Yh m.Mem h.mem
 have a:=((Zqd m).1 hm).1
 rcases c with c|⟨P,hP,k⟩
 ·exact absurd (show rL m.Mem<1 by omega) a
 ·have q:=tG k
  exact⟨P,hP,k.p2,k.len,by omega,q⟩
theorem zaK{m:bg}{s:gj}(h:Be m)(hb:s.ab.length<=100):(Ju m s).w (Jz m s):=by
 unfold Ju
 refine cg (Tree.pp (xA h.Jc.2)).1 (aq λx0 h0=>?_)
 have h0:x0=rh m:=h0.trans (Yj h)
 subst h0
 have bad:¬(rh m=true/\Ea s/\s.D5≠0)->Jz m s (zG,false):=λn=>⟨λk=>absurd k n,λ_=>rfl⟩
 refine ae (λk=>ba (bad λv=>by rw[v.1]at k;cases k)) λk=>cw (xu s) λx1 h1=>?_
 have hm:rh m=true:=by simpa using k
 refine ae (λk=>ba (bad λv=>by rw[h1.2 v.2.1]at k;cases k)) λk=>ae (λk=>ba (bad λv=>v.2.2 (by simpa using k))) λg0=>?_
 have hv:Ea s:=h1.1 (by simpa using k)
 have g0:s.D5≠0:=by simpa using g0
 obtain⟨P,p1,p2,pl,e1,e2⟩:=Y8 h hm
 obtain⟨b1,b2⟩:=zl (P:=P) p1 p2
 obtain⟨n1,n2⟩:=qaa (P:=P) p1 p2
 have cm:(Q1 m).w λr=>r=m:=by
  unfold Q1
  exact cg (show m.Mem.length<=35184372088832 by omega) (aq λy hy=>by have hy:y=m.Mem:=hy;subst hy;exact ba rfl)
 refine aq λx2 h2=>?_
 have h2:x2=(P:Int):=h2.trans e2
 subst h2
 refine cg b1 (aq λx3 h3=>?_)
 have h3:x3=(⟨cO P true,0,0⟩,true):=h3.trans b2
 subst h3
 refine ae (λh=>by cases h) λ_=>cw cm λx4 h4=>?_
 subst h4
 refine av (by rw[dY (by omega)];rfl) (av (by rw[dY (by omega)];rfl) (cg n1 (aq λx5 h5=>cg (show s.ab.length<=1000000000000 by omega) (aq λx6 h6=>ba ?_))))
 have h5:x5=cO (32*P) 0:=h5.trans n2
 have h6:x6=s.ab:=h6
 subst h5;subst h6
 refine⟨λ_=>?_,λn=>absurd ⟨hm,hv,g0⟩ n⟩
 rw[e1];rfl
theorem qT(h0:1<=P)(h1:P<=32):Ql6 P/\Qx6 P=(⟨cO P true,0,0⟩,true):=by
 have h:(QE P).w λr=>r=(⟨cO P true,0,0⟩,true):=by
  unfold QE
  refine ae (λh=>by simp at h;omega) (λ_=>ae (λh=>by simp at h;omega) (λ_=>av (by rw[dY (by omega)];rfl) ?_))
  refine eu (inv:=λz:Int×List Bool=>∃i:Nat,z.1=i/\i<=P/\z.2=cO i true++cO (P-i) false) (μ:=Y9 P) ⟨0,rfl,bC _,by simp⟩ (cN _) ?_
  rintro⟨_,x⟩ ⟨i,rfl,hi,hx⟩
  simp only at hx
  refine ae (λbd=>?_) (λfx=>?_)
  ·have bd:i<P:=by simpa using bd
   have ew:wrap .i64 ((i:Int)+1)=((i+1:Nat):Int):=by rw[wi (by omega) (by omega)];omega
   have hl:x.length=P:=by rw[hx];simp;omega
   refine av (by rw[hl];exact jR bd) (ee ⟨⟨i+1,ew,bd,?_⟩,?_⟩)
   ·show x.set (dA (i:Int)) true=_
    rw[hx,dX,eQ _ _ (by simp),show P-i=(P-(i+1))+1 by omega,eR,eS]
    simp
   ·simp only[Y9,ew];omega
  ·have fx:P<=i:=by simpa using fx
   have:i=P:=by omega
   subst this
   refine ba ?_
   show(({B0:=x,B9:=(0:Int),D7:=(0:Int)}:fu),true)=_
   rw[hx];simp
 exact Tree.pp h
theorem qat(h0:1<=P)(h1:P<=32):QF P/\Lb P=cO (32*P) 0:=by
 have h:(JA P).w λr=>r=cO (32*P) 0:=by
  unfold JA
  have e:wrap .i64 ((P:Int)*32)=(P:Int)*32:=wi (by omega) (by omega)
  refine ae (λh=>by simp at h;omega) (λ_=>ae (λh=>by simp at h;omega) (λ_=>?_))
  rw[e]
  refine av (by rw[dY (by omega)];rfl) (ba ?_)
  congr 1;omega
 exact Tree.pp h
theorem zat{m:bg}{s:gj}(h:Be m)(hg:0<=s.D5)(hb:s.ab.length<=100):(QG m s).w (Jz m s):=by
 unfold QG
 refine aq λx0 h0=>?_
 have h0:x0=rh m:=h0
 subst h0
 have bad:¬(rh m=true/\Ea s/\s.D5≠0)->Jz m s (zG,false):=λn=>⟨λk=>absurd k n,λ_=>rfl⟩
 refine ae (λk=>ba (bad λv=>by rw[v.1]at k;cases k)) λk=>cw (zu s hg) λx1 h1=>?_
 have hm:rh m=true:=by simpa using k
 refine ae (λk=>ba (bad λv=>by rw[h1.2 v.2.1]at k;cases k)) λk=>ae (λk=>ba (bad λv=>v.2.2 (by simpa using k))) λg0=>?_
 have hv:Ea s:=h1.1 (by simpa using k)
 have g0:s.D5≠0:=by simpa using g0
 obtain⟨P,p1,p2,pl,e1,e2⟩:=Y8 h hm
 obtain⟨b1,b2⟩:=qT (P:=P) p1 p2
 obtain⟨n1,n2⟩:=qat (P:=P) p1 p2
 refine aq λx2 h2=>?_
 have h2:x2=(P:Int):=h2.trans e1
 subst h2
 refine cg b1 (aq λx3 h3=>?_)
 have h3:x3=(⟨cO P true,0,0⟩,true):=h3.trans b2
 subst h3
 refine av (by rw[dY (by omega)];rfl) (av (by rw[dY (by omega)];rfl) (cg n1 (aq λx4 h4=>ba ?_)))
 have h4:x4=cO (32*P) 0:=h4.trans n2
 subst h4
 refine⟨λ_=>?_,λn=>absurd ⟨hm,hv,g0⟩ n⟩
 rw[e1];rfl
theorem Zv{m:bg}{s:gj}{a b:dv×Bool}(ha:Jz m s a)(hb:Jz m s b):a=b:=by
 by_cases h:rh m=true/\Ea s/\s.D5≠0
 ·rw[ha.1 h,hb.1 h]
 ·rw[ha.2 h,hb.2 h]
theorem xT{m:bg}{s:gj}{a:dv×Bool}(hv:Be m)(hb:s.ab.length<=100)(ha:Jz m s a):szG a.1:=by
 by_cases h:rh m=true/\Ea s/\s.D5≠0
 ·obtain⟨P,p1,p2,pl,e1,e2⟩:=Y8 hv h.1
  rw[ha.1 h,e1]
  refine⟨⟨by show m.Mem.length<=2000;omega,?_,?_,bC _⟩,⟨?_,bC _,?_,bC _⟩,⟨bC _,λx hx=>(by cases hx)⟩,⟨bC _,λx hx=>(by cases hx)⟩,by show s.ab.length<=2000;omega⟩
  ·show(cO (dA (P:Int)) true).length<=2000;rw[cS];omega
  ·show(cO (dA (P:Int)) (0:Int)).length<=2000;rw[cS];omega
  ·show(cO (32*dA (P:Int)) (0:Int)).length<=2000;rw[cS];omega
  ·show(cO (dA (P:Int)) (0:Int)).length<=2000;rw[cS];omega
 ·rw[ha.2 h]
  exact⟨⟨bC _,bC _,bC _,bC _⟩,⟨bC _,bC _,bC _,bC _⟩,⟨bC _,λx hx=>(by cases hx)⟩,⟨bC _,λx hx=>(by cases hx)⟩,bC _⟩
theorem zT{m:bg}{s:gj}(h:Be m)(hg:0<=s.D5):(QH m s).w λr=>r=true:=by
 unfold QH
 refine ae (λ_=>Ff rfl) λ_=>ae (λ_=>Ff rfl) λ_=>ae (λ_=>Ff rfl) λ_=>ae (λ_=>Ff rfl) λhb=>?_
 have hb:=oN hb
 have hb:s.ab.length<=100:=by omega
 refine eu (inv:=λz:Int=>∃i:Nat,z=i/\i<=s.ab.length) (μ:=Zw m s) ⟨0,rfl,bC _⟩ (cN _) ?_
 rintro _ ⟨i,rfl,hi⟩
 refine ae (λbd=>?_) (λ_=>?_)
 ·have bd:i<s.ab.length:=by simpa using bd
  have ew:wrap .i64 ((i:Int)+1)=((i+1:Nat):Int):=by rw[wi (by omega) (by omega)];omega
  exact av (jR bd) (ae (λ_=>Hb rfl) λ_=>ee ⟨⟨i+1,ew,bd⟩,by simp only[Zw,ew];omega⟩)
 ·refine cw (zaK h hb) λx5 h5=>cw (zat h hg hb) λx6 h6=>?_
  have sz:=xT h hb h5
  obtain rfl:=Zv h5 h6
  exact ae (λ_=>cw (Ax sz) λx7 h7=>ae (λ_=>Hb rfl) (λk=>by rw[h7]at k;cases k)) (λk=>by simp at k)

import Derived.Test.YtaemmjbkndlkeaaGreatMigrateCancelsFin1
open List renaming drop_eq_getElem_cons->aO,getElem?_eq_getElem->aI,length_cons->dD,drop_eq_nil_of_le->aN,append_assoc->aM,replicate->cO,replicate_succ'->eQ,getD->aV,length_singleton->cY,length_replicate->cS,eq_of_mem_replicate->eR,ext_getElem->bR,mem_append_left->eS,getD_eq_getElem?_getD->cX,getElem?_eq_none->aJ,getElem_mem->eT,mem_cons_self->eU,mem_cons_of_mem->eV,length_set->dC,length_map->eW,length_take->aD,mem_append_right->eX,getElem?_replicate->eY,eq_nil_of_length_eq_zero->fA,length_nil->dE,foldl_append->fC,take_of_length_le->fD
open Nat renaming beq->bX,blt->bN,zero_le->bC,lt_succ_self->cN
open Int renaming toNat_natCast->dX,le_refl->eN,tmod_eq_emod_of_nonneg->dZ,tdiv_eq_ediv_of_nonneg->eG,toNat->dA,NonNeg->fE
open Bool renaming cond_false_right->eO,false_ne_true->eZ,true_eq_false->fB
open BitVec renaming ofInt->dR
set_option maxRecDepth 100000
set_option linter.all false
namespace Go.Proofs.YtaemmjbkndlkeaaGreat
open Go Go.GD
open Go.IntKind(wrap i64 wrap_i64 wrap_u64)
variable {D:List Bool}{P f k n:Nat}{a b fs:List Int}{clock host i:Int}{g:du}{l xs:List ft}{nc:Bool}{x:ft}
def ir:List Bool->Int->List Int
 |[],_=>[]
 |b::l,k=>if b=true then k::ir l (k+1)else ir l (k+1)
theorem Qt:∀(l:List Bool) (k:Int),(ir l k).length<=l.length
 |[],_=>Nat.le_refl _
 |b::l,k=>by
  have:=Qt l (k+1)
  simp only[ir];split<;>(try simp)<;>omega
theorem OM:∀{l:List Bool} {k x:Int},x∈ir l k->k<=x/\x<k+l.length
 |[],_,_,h=>by simp[ir]at h
 |b ::l,k,x,h=>by
  simp only[ir]at h
  have go:x∈ir l (k+1)->k<=x/\x<k+(b::l).length:=λh=>by
   have:=OM h;simp;omega
  split at h
  ·rcases List.mem_cons.1 h with e|e
   ·subst e;simp;omega
   ·exact go e
  ·exact go h
theorem vk{l:List Bool}{i:Nat}(h:i<l.length):l.drop i=l.getD i false::l.drop (i+1):=by
 rw[aO h]
 show _=(l[i]?).getD false::_
 rw[aI h];rfl
theorem ql{l:List Bool}{i:Nat}(h:i<l.length)(hb:l.getD i false=true)(k:Int):ir (l.drop i) k=k::ir (l.drop (i+1)) (k+1):=by
 rw[vk h,ir,if_pos hb]
theorem y3{l:List Bool}{i:Nat}(h:i<l.length)(hb:l.getD i false=false)(k:Int):ir (l.drop i) k=ir (l.drop (i+1)) (k+1):=by
 rw[vk h,ir,if_neg (by rw[hb];simp)]
theorem wi{x:Int}(h0: -9223372036854775808<=x)(h1:x<=9223372036854775807):wrap .i64 x=x:=by rw[wrap_i64];omega
theorem lV{i:Nat}(h:i<n):(bX 1 1&&bN 0 1&&decide (0<=(i:Int)/\(i:Int)<(n:Int)))=true:=by
 rw[dY (by omega)];rfl
theorem zal{n:Int}{l:List Bool}(h0:0<=n)(hb:n+l.length<=1000000000000):(ON n l).w λr=>r=(n+(ir l 0).length,l):=by
 unfold ON
 refine fv (inv:=λz:Int×Int=>∃i:Nat,z.1=i/\i<=l.length/\0<=z.2/\z.2<=n+i/\z.2+(ir (l.drop i) i).length=n+(ir l 0).length) (μ:=TT n l) ⟨0,rfl,bC _,h0,by simp,by simp⟩ (cN _) ?_
 rintro⟨_,x⟩ ⟨i,rfl,hi,ob,hx,hs⟩
 simp only at ob hx hs
 refine ae (λbg=>?_) (λgz=>?_)
 ·have bg:i<l.length:=by simpa using bg
  have ew:wrap .i64 ((i:Int)+1)=((i+1:Nat):Int):=by rw[wi (by omega) (by omega)];omega
  refine aw (lV bg) (ae (λBk=>?_) (λBk=>?_))
  ·rw[dX]at Bk
   refine aq λy hy=>?_
   have hy:y=(true,wrap .i64 (x+1)):=hy
   rw[wi (by omega) (by omega)]at hy
   subst hy
   refine ae (λh=>by cases h) (λ_=>ff ?_)
   refine⟨⟨i+1,ew,bg,by show 0<=x+1;omega,by show x+1<=_;omega,?_⟩,?_⟩
   ·rw[ql bg Bk]at hs
    simp only[dD]at hs
    show x+1+((ir (l.drop (i+1)) ((i+1:Nat):Int)).length:Int)=_
    have:((i+1:Nat):Int)=(i:Int)+1:=by omega
    rw[this];omega
   ·simp only[TT,ew];omega
  ·rw[dX]at Bk
   refine ff ⟨⟨i+1,ew,bg,ob,by show x<=_;omega,?_⟩,?_⟩
   ·rw[y3 bg Bk]at hs;simpa using hs
   ·simp only[TT,ew];omega
 ·have gz:l.length<=i:=by simpa using gz
  rw[aN gz]at hs
  refine bh ?_
  show((x,l):Int×List Bool)=_
  rw[<-hs];simp[ir]
theorem vM{c:gl}(hb:c.B1.length<=1000000000000):Yd c/\TU c=(ir c.B1 0).length:=by
 have h1:=Tree.pp (zal (n:=0) (l:=c.B1) (eN _) (by omega))
 have h4:(OO c).w λr=>r=(ir c.B1 0).length:=by
  unfold OO
  refine aq λ_ _=>df h1.1 (aq λy hy=>bh ?_)
  have hy:y=TV 0 c.B1:=hy
  have e:TV 0 c.B1=(0+((ir c.B1 0).length:Int),c.B1):=h1.2
  rw[hy,e];simp
 exact Tree.pp h4
theorem L4{m:List Int}(hl:m.length=32*P)(hp:P<=32):jW m=P:=by
 simp only[jW,GG,Tree.m,hl]
 have e1:Int.tmod ((32*P:Nat):Int) 32=0:=by rw[dZ (by omega)];omega
 have e2:Int.tdiv ((32*P:Nat):Int) 32=P:=by rw[eG (by omega)];omega
 rw[e1,e2,dN (by omega),wi (by omega) (by omega)];rfl
theorem xl{m:List Int}(h:jW m=P)(h1:1<=P):m.length=32*P/\P<=32:=by
 simp only[jW,GG,Tree.m]at h
 rw[dZ (by omega),eG (by omega)]at h
 cases hb:(((m.length:Int)%32 !=0):Bool)with
 |true=>rw[hb]at h;simp only[cond_true]at h;omega
 |false=>
  rw[hb]at h
  simp only[cond_false]at h
  have hb:(m.length:Int)%32=0:=by simpa using hb
  cases hc:decide ((m.length:Int)>1024)with
  |true=>rw[hc]at h;simp only[cond_true]at h;omega
  |false=>
   rw[hc]at h
   simp only[cond_false]at h
   have hc:(m.length:Int)<=1024:=by simpa using hc
   rw[wi (by omega) (by omega)]at h
   omega
theorem Zpd{m:List Int}(hl:m.length=32*P)(hp:P<=32){f:Int}(f0:0<=f)(f1:f<P):OP m f:=by
 show(DN m f).p
 have hh:EH m f=true:=by
  simp only[EH,K4,Tree.m,e9,L4 hl hp]
  rw[dY (by omega:f>=0),dY f1];rfl
 have e1:wrap .i64 (f*32)=f*32:=wi (by omega) (by omega)
 have e2:wrap .i64 (f*32+32)=f*32+32:=wi (by omega) (by omega)
 unfold DN
 refine aq λx hx=>?_
 rw[hh]at hx;subst hx
 refine ae (λh=>by cases h) (λ_=>?_)
 rw[e1,e2]
 refine aw (by rw[dY (by rw[hl];omega)];rfl) (df ?_ (aq λ_ _=>bh trivial))
 show List.length _<=1000000000000
 simp;omega
def mM(m l:List Int):List lj:=l.map λf=>⟨f,(jD m f).1⟩
theorem xal{m:List Int}(hl:m.length=32*P)(hp:P<=32){d:List Bool}(hd:d.length=P):(OQ m [] d).w λr=>r=(m,mM m (ir d 0),d):=by
 unfold OQ
 refine fv (inv:=λz:Int×List Int×List lj=>∃i:Nat,z.1=i/\i<=d.length/\z.2.1=m/\z.2.2.length<=i/\z.2.2++mM m (ir (d.drop i) i)=mM m (ir d 0)) (μ:=TW m [] d) ⟨0,rfl,bC _,rfl,by simp,by simp⟩ (cN _) ?_
 rintro⟨_,_,x⟩ ⟨i,rfl,hi,hm,hx,hs⟩
 simp only at hm hx hs
 subst hm
 refine ae (λbg=>?_) (λgz=>?_)
 ·have bg:i<d.length:=by simpa using bg
  have ew:wrap .i64 ((i:Int)+1)=((i+1:Nat):Int):=by rw[wi (by omega) (by omega)];omega
  refine aw (lV bg) (ae (λBk=>?_) (λBk=>?_))
  ·rw [dX]at Bk
   refine df (?_:(TX i _ x).p) (aq λy hy=>?_)
   ·exact df (Zpd hl hp (by omega) (by omega)) (aq λ_ _=>aw (dY (by omega)) (bh trivial))
   ·have hy:y=(true,_,x++[⟨(i:Int),(jD _ i).1⟩]):=hy
    subst hy
    refine ae (λh=>by cases h) (λ_=>ff ?_)
    refine⟨⟨i+1,ew,bg,rfl,by simp;omega,?_⟩,?_⟩
    ·rw[ql bg Bk]at hs
     simp only[aM,List.singleton_append]
     rw[<-hs];simp[mM]
    ·simp only[TW,ew];omega
  ·rw[dX]at Bk
   refine ff ⟨⟨i+1,ew,bg,rfl,by show x.length<=_;omega,?_⟩,?_⟩
   ·rw[y3 bg Bk]at hs;simpa using hs
   ·simp only[TW,ew];omega
 ·have gz:d.length<=i:=by simpa using gz
  rw[aN gz]at hs
  refine bh ?_
  show((_,x,d):List Int×List lj×List Bool)=_
  rw[<-hs];simp[ir,mM]
def uG(c:gl)(m:List Int):gl×List lj:=
 if uH c=true/\c.C0<=10/\jW m=c.B1.length then
  ({B1:=cO c.B1.length false,C0:=wrap .i64 (c.C0+1),D6:=wrap .i64 (c.D6+(ir c.B1 0).length)},mM m (ir c.B1 0))
 else(c,[])
theorem Zi9{c:gl}(h:uH c=true):1<=c.B1.length/\c.B1.length<=32/\0<=c.C0/\c.C0<=11/\0<=c.D6/\c.D6<=352:=by
 simp only[uH,TY,Tree.m,eO,aE,decide_eq_true_eq]at h
 omega
theorem Zjj{c:gl}:uH c=decide (1<=c.B1.length/\c.B1.length<=32/\0<=c.C0/\c.C0<=11/\0<=c.D6/\c.D6<=352):=by
 cases h:uH c with
 |true=>exact(dY (Zi9 h)).symm
 |false=>
  refine(dN λhh=>?_).symm
  have:uH c=true:=by
   simp only[uH,TY,Tree.m,eO,aE,decide_eq_true_eq]
   omega
  rw[h]at this;cases this
theorem TZ{c:gl}(hb:c.B1.length<=1000000000000):Ye c/\Qb c=c:=by
 refine⟨?_,rfl⟩
 show(T0 c).p
 exact df (show c.B1.length<=140737488355328 by omega) (aq λ_ _=>bh trivial)
theorem y4{c:gl}{fx:Int}(hb:c.B1.length<=1000000000000):Qhc c fx/\I4 c fx=(uH c&&(decide (((ir c.B1 0).length:Int)<=fx)||decide (c.C0>=10))):=by
 have h:(OR c fx).w λr=>r=(uH c&&(decide (((ir c.B1 0).length:Int)<=fx)||decide (c.C0>=10))):=by
  unfold OR
  refine aq λv hv=>?_
  have hv:v=uH c:=hv
  subst hv
  refine ae (λh1=>?_) (λh1=>bh ?_)
  ·obtain⟨g1,g2⟩:=vM hb
   refine df g1 (aq λx hx=>?_)
   have hx:x=TU c:=hx
   rw[g2]at hx;subst hx
   rw[h1]
   refine ae (λh2=>bh ?_) (λh2=>bh ?_)
   ·rw[h2];rfl
   ·rw[h2];simp
  ·rw[h1];rfl
 exact Tree.pp h
theorem xaE(h0:1<=P)(h1:P<=32):Qmq P/\Z0m P=cO (32*P) 0:=by
 have h:(OS P).w λr=>r=cO (32*P) 0:=by
  unfold OS
  have e:wrap .i64 ((P:Int)*32)=(P:Int)*32:=wi (by omega) (by omega)
  refine ae (λh=>by simp at h;omega) (λ_=>ae (λh=>by simp at h;omega) (λ_=>?_))
  rw[e]
  refine aw (by rw[dY (by omega)];rfl) (bh ?_)
  congr 1;omega
 exact Tree.pp h
theorem qam(h0:1<=P)(h1:P<=32):Qfd P/\Qod P=(⟨cO P true,0,0⟩,true):=by
 have h:(OT P).w λr=>r=(⟨cO P true,0,0⟩,true):=by
  unfold OT
  refine ae (λh=>by simp at h;omega) (λ_=>ae (λh=>by simp at h;omega) (λ_=>aw (by rw[dY (by omega)];rfl) ?_))
  refine fv (inv:=λz:Int×List Bool=>∃i:Nat,z.1=i/\i<=P/\z.2=cO i true++cO (P-i) false) (μ:=Yf P) ⟨0,rfl,bC _,by simp⟩ (cN _) ?_
  rintro⟨_,x⟩ ⟨i,rfl,hi,hx⟩
  simp only at hx
  refine ae (λbg=>?_) (λgz=>?_)
  ·have bg:i<P:=by simpa using bg
   have ew:wrap .i64 ((i:Int)+1)=((i+1:Nat):Int):=by rw[wi (by omega) (by omega)];omega
   have hl:x.length=P:=by rw[hx];simp;omega
   refine aw (by rw[hl];exact lV bg) (ff ⟨⟨i+1,ew,bg,?_⟩,?_⟩)
   ·show x.set (dA (i:Int)) true=_
    rw[hx,dX,List.set_append_right _ _ (by simp),show P-i=(P-(i+1))+1 by omega,List.replicate_succ,eQ]
    simp
   ·simp only[Yf,ew];omega
  ·have gz:P<=i:=by simpa using gz
   have:i=P:=by omega
   subst this
   refine bh ?_
   show(({B1:=x,C0:=(0:Int),D6:=(0:Int)}:gl),true)=_
   rw[hx];simp
 exact Tree.pp h
def rG:List Bool->List Int->List Bool
 |d,[]=>d
 |d,f::l=>rG (if 0<=f/\f<d.length then d.set f.toNat true else d) l
theorem Z1b:∀(l:List Int) (d:List Bool),(rG d l).length=d.length
 |[],_=>rfl
 |f::l,d=>by simp only[rG];rw[Z1b];split<;>simp
theorem qaF{c:gl}{l:List Int}(hb:c.B1.length<=1000000000000)(hl:l.length<=1000000000000):Yg c l/\T8 c l={c with B1:=rG c.B1 l}:=by
 have h:(OU c l).w λr=>r={c with B1:=rG c.B1 l}:=by
  unfold OU
  refine df (TZ hb).1 (aq λx hx=>?_)
  have hx:x=Qb c:=hx
  rw[(TZ hb).2]at hx;subst hx
  refine fv (inv:=λz:Int×List Bool=>∃i:Nat,z.1=i/\i<=l.length/\rG z.2 (l.drop i)=rG x.B1 l) (μ:=L5 x l) ⟨0,rfl,bC _,by simp⟩ (cN _) ?_
  rintro⟨_,d⟩ ⟨i,rfl,hi,hd⟩
  simp only at hd
  refine ae (λbg=>?_) (λgz=>?_)
  ·have bg:i<l.length:=by simpa using bg
   have ew:wrap .i64 ((i:Int)+1)=((i+1:Nat):Int):=by rw[wi (by omega) (by omega)];omega
   have me:l.drop i=l.getD i 0::l.drop (i+1):=by
    rw[aO bg];congr 1;simp[aV,bg]
   rw[me,rG]at hd
   have mx:L5 x l (wrap .i64 ((i:Int)+1),d)<L5 x l ((i:Int),d):=by simp only[L5,ew];omega
   have skip:¬(0<=l.getD i 0/\l.getD i 0<d.length)->(∃j:Nat,wrap .i64 ((i:Int)+1)=j/\j<=l.length/\rG d (l.drop j)=rG x.B1 l):=λhn=>by
    rw[if_neg hn]at hd
    exact⟨i+1,ew,bg,hd⟩
   refine aw (lV bg) ?_
   refine ae (λh1=>?_) (λh1=>ff ⟨skip (λh=>oN h1 h.1),mx⟩)
   have h1:0<=l.getD i 0:=oY h1
   refine ae (λh2=>?_) (λh2=>ff ⟨skip (λh=>oN h2 h.2),mx⟩)
   have h2:l.getD i 0<d.length:=oY h2
   refine aw (Bool.and_eq_true_iff.2 ⟨rfl,dY ⟨h1,h2⟩⟩) (ff ⟨⟨i+1,ew,bg,?_⟩,?_⟩)
   ·rw[if_pos ⟨h1,h2⟩]at hd;exact hd
   ·simp only[L5,ew];omega
  ·have gz:l.length<=i:=by simpa using gz
   rw[aN gz,rG]at hd
   refine bh ?_
   show({B1:=d,C0:=x.C0,D6:=x.D6}:gl)=_
   rw[hd]
 exact Tree.pp h
attribute [local irreducible] K0
def Tree.V{β:Type}(t:Tree β)(W:β->Prop):Prop:=W t.m
section
variable {α β:Type} {W:β->Prop} {c:Bool} {t e:Tree β}
theorem my{x:β}(h:W x):Tree.V (.lf x) W:=h
theorem I5{f:Prop}{x:β}{hf:f}(h:W x):Tree.V (.nx f x hf) W:=h
theorem lu(h:c=true->Tree.V t W)(g:c=false->Tree.V e W):Tree.V (.br c t e) W:=by
 cases c
 ·exact g rfl
 ·exact h rfl
theorem Cu(g:Tree.V t W):Tree.V (.cn c t) W:=g
theorem nT{p:Prop}(g:Tree.V t W):Tree.V (.an p t) W:=g
theorem lW{x:α}{k:α->Tree β}(h:∀y,y=x->Tree.V (k y) W):Tree.V (.lv x k) W:=h x rfl
theorem Fb{d:Inhabited β}{n:Nat}{f:Prop}{x:α}{k:α->Tree (α⊕β)}{hf:f}{inv:α->Prop}{μ:α->Nat}(h:inv x)(hn:μ x<n)(g:∀y,inv y->Tree.V (k y) (Sum.elim (λz=>inv z/\μ z<μ y) W)):Tree.V (.lp d n f x k hf) W:=by
 refine zB (P:=inv) (R:=W) (μ:=μ) (λa ha=>?_) n x h hn
 have:=g a ha
 unfold Tree.V at this
 revert this
 cases(k a).m with
 |inl z=>exactλh=>h
 |inr b=>exactλh=>h
end
structure iq(P:Nat)(m:bd):Prop where
 ok:rV P m
 may:Bc m=true
section
variable {P:Nat} {m:bd} (h:iq P m)
include h
theorem iq.v:LU m:=⟨h.ok.oB,h.ok.mem.u,h.ok.mw,h.ok.wE,h.ok.target,h.ok.tL⟩
theorem iq.s:Av P m:=⟨h.ok.oB,h.ok.mem,h.ok.mw,h.ok.wE,h.ok.target.1,h.ok.target.2⟩
theorem iq.Yh:I0 m=true:=(Zpk h.v).symm.trans h.may
theorem Zl7:GX m=false↔m.B6=false/\I2 m=false/\m.B7<1152921504606846976:=by
 simp only[GX,TR,Tree.m,e9,h.Yh]
 cases m.B6<;>cases I2 m<;>simp
theorem qN(hs:GX m=false)(hc:U clock):iq P (Q3 m clock).2/\(Q3 m clock).2.B7=m.B7+1/\(Q3 m clock).1.length<=1:=by
 have o:=Tree.post _ (Zbx h.ok hc)
 change(Q3 m clock).1.length<=1/\rV P (Q3 m clock).2/\(Q3 m clock).2.B7=wrap .u64 (m.B7+1)at o
 have s:=(Tree.pp (Xi h.s h.ok.tL hc)).2
 change _/\Good P m (Ea m clock).1 at s
 have e:Ea m clock=((Q3 m clock).2,(Q3 m clock).1):=by rw[yk h.v,Zp,hs];rfl
 rw[e]at s
 have hct:=((Zl7 h).1 hs).2.2
 have h0:=h.ok.tL
 refine⟨⟨o.2.1,s.2.may h.may⟩,?_,o.1⟩
 rw[o.2.2,wrap_u64];omega
end
theorem Zpl{i:List Int}(hu:∀w∈i,U w)(hl:i.length<=256):iq 8 (lr 8 4 i).1/\(lr 8 4 i).1.B7=0:=by
 obtain⟨a,b⟩:=(Tree.pp (Cc i hu hl)).2
 change rV 8 (lr 8 4 i).1 at a
 refine⟨⟨a,?_⟩,b⟩
 have e:(lr 8 4 i).2=true:=by
  have w:i64.wrap (8*32)=256:=by decide
  simp only[lr,GF,Tree.m,w,e9,dN (show¬((i.length:Int)>256) by omega)]
  rfl
 obtain⟨a1,a2,a3,a4,a5,a6⟩:=qaN 8 4 i e
 exact(zaN _ 8 4 a1 a2 a3 a4 a5 _ a6).1
theorem zl{m:bd}(h:iq 8 m)(hc:m.B7<=87):Tree.V (IA m [] 87) (λx=>x.2.2.2=0->iq 8 x.1/\x.1.B7<=87):=by
 have z:∀{k:Int} {p:Prop},k≠0->k=0->p:=λa b=>absurd b a
 unfold IA
 refine lW λx0 _=>lu (λ_=>my (z (by decide))) λ_=>lu (λ_=>my (z (by decide))) λ_=>lu (λ_=>my (z (by decide))) λ_=>nT (lW λx1 _=>lu (λ_=>my (z (by decide))) λ_=>nT (lW λx2 hx=>?_))
 rw[y0]at hx
 refine Fb (inv:=λv:bd×List iB=>iq 8 v.1/\v.1.B7<=87) (μ:=W5 m [] 87) ⟨by rw[hx];exact h,by rw[hx];exact hc⟩ (cN _) λv0 ⟨a1,a3⟩=>?_
 have a2:=a1.ok.tL
 refine lu (λhb=>lu (λhm=>?_) (λ_=>my λ_=>⟨a1,a3⟩)) (λ_=>my λ_=>⟨a1,a3⟩)
 have hb:=oY hb
 have hm:=oY hm
 refine Fb (inv:=λ_=>True) (μ:=W6 m [] 87 v0) trivial (cN _) λv1 _=>?_
 refine lu (λ_=>my λ_=>⟨a1,a3⟩) λhh=>nT (lW λx3 h3=>lu (λ_=>my λ_=>⟨a1,a3⟩) λhi=>nT (lW λx4 _=>lu (λ_=>my (z (by decide))) λ_=>nT (lW λx5 h5=>Cu (I5 ?_))))
 obtain⟨b1,b2,_⟩:=qN a1 ((Zl7 a1).2 ⟨hh,h3.symm.trans hi,hm⟩) (clock:=0) gu
 rw[<-h5]at b1 b2
 show(iq 8 x5.2/\x5.2.B7<=87)/\(87-x5.2.B7).toNat<(87-v0.1.B7).toNat
 exact⟨⟨b1,by omega⟩,by omega⟩
theorem Zj1(kind:Int)(l:List Int)(hl:l.length*8<=reachBytes)(h40:l.length<=60):iq 8 (T9 kind l)/\(T9 kind l).B7<=87:=by
 show Tree.V (IB kind l) (λm=>iq 8 m/\m.B7<=87)
 have code:=(Tree.pp (yd l hl)).2
 change((Ua l).length:Int)=l.length/\∀w∈Ua l,U w at code
 obtain⟨b1,b2⟩:=code
 unfold IB
 refine nT (lW λx0 ob=>lu (λ_=>nT (lW λx1 e1=>?_)) (λhk=>?_))
 ·have eb:x1.1=jR:=by rw[e1];rfl
  obtain⟨q1,q2⟩:jR.length<=160/\∀w∈jR,U w:=ye
  refine Fb (inv:=λv:List Int=>v.length<=160/\v=jR++cO (v.length-jR.length) 0) (μ:=W7 kind l) ⟨by rw[eb];exact q1,by rw[eb];simp⟩ (cN _) λv0 ⟨a1,a2⟩=>?_
  have a3:jR.length<=v0.length:=by rw[a2,lA];omega
  refine lu (λhb=>?_) (λhb=>?_)
  ·have hb:=oY hb
   refine Cu (I5 ?_)
   show(_/\_)/\(_:Nat)<_
   refine⟨⟨by rw[lA,cY];omega,?_⟩,by show 160-(v0++[0]).length<160-v0.length;rw[lA,cY];omega⟩
   show v0++[0]=jR++cO ((v0++[0]).length-jR.length) 0
   rw[lA,cY,show v0.length+1-jR.length=(v0.length-jR.length)+1 by omega,eQ,<-aM,<-a2]
  ·have hb:=oN hb
   have hv:v0=tK:=by
    unfold tK
    rw[show(160:Nat)=v0.length by omega]
    exact a2
   subst hv
   have hp:=xf
   have W8:∀w∈tK,U w:=λw hw=>(List.mem_append.1 hw).elim (q2 w) (Ca _ w)
   refine nT (lW λx2 e2=>Cu ?_)
   rw[<-e2]at b1 b2
   have hu:∀w∈tK++x2,U w:=λw hw=>(List.mem_append.1 hw).elim (W8 w) (b2 w)
   have hlen:(tK++x2).length<=256:=by rw[lA];omega
   refine lu (λhb=>?_) (λhb=>?_)
   ·have hb:=oY hb;omega
   ·obtain⟨c1,c2⟩:=Zpl hu hlen
    refine nT (lW λx3 h3=>?_)
    rw[<-h3]at c1 c2
    have rn:=zl c1 (by omega)
    refine lu (λ_=>nT (lW λx4 hx=>my ?_)) (λ_=>my ⟨c1,by omega⟩)
    have e:x3=lr 8 4 (tK++(x2++cO (96-x2.length) 0)):=by
     rw[h3]
     have IC:(x2++cO (96-x2.length) (0:Int)).length=96:=by rw[lA,cS];omega
     refine qf _ _ hlen (by rw[lA,IC];omega) ?_
     rw[lA,lA,IC,hp,aM,aM,aM,show 256-(160+96)=0 by omega,show 256-(160+x2.length)=96-x2.length by omega]
     simp
    have h0:x4.2.2.2=0:=by
     rw[hx,e]
     exact vY _ (by rw[lA,cS];omega)
    exact(by rw[hx];exact rn:x4.2.2.2=0->iq 8 x4.1/\x4.1.B7<=87) h0
 ·have hk:=oN hk
  refine nT (lW λx2 e2=>Cu ?_)
  rw[<-e2]at b1 b2
  refine lu (λhb=>?_) (λhb=>?_)
  ·have hb:=oY hb;omega
  ·obtain⟨c1,c2⟩:=Zpl b2 (by omega)
   refine nT (lW λx3 h3=>?_)
   rw[<-h3]at c1 c2
   exact lu (λh=>absurd (eq_of_beq h) (by omega)) (λ_=>my ⟨c1,by omega⟩)
theorem Fc{m:bd}(g:iq P m)(hc:U clock):iq P (Ea m clock).1:=by
 have s:=(Tree.pp (Xi g.s g.ok.tL hc)).2
 change _/\Good P m (Ea m clock).1 at s
 have k:=s.2.ok
 exact⟨⟨k.oB,k.mem,k.mw,k.wE,⟨k.target,k.given⟩,s.2.tL⟩,s.2.may g.may⟩
theorem Z6x{m:bd}(g:iq P m)(hc:U clock):Ub m clock:=(Tree.pp (Xi g.s g.ok.tL hc)).1
theorem iq.nD{m:bd}(h:iq P m):fg P m.Mem:=h.ok.mem
theorem Zp0{m:bd}(h:iq 8 m){M:List Int}(hM:fg 8 M):iq 8 {m with Mem:=M}:=by
 refine⟨⟨h.ok.oB,hM,h.ok.mw,h.ok.wE,h.ok.target,h.ok.tL⟩,?_⟩
 obtain⟨g1,g2,g3,g4,g5⟩:=(Lk m).1 h.may
 have id:∀{p:Prop},p->p:=λh=>h
 refine(Lk _).2 ⟨?_,g2,g3,g4,?_⟩
 ·show jW M≠0
  rw[uy hM];decide
 ·exact IG (m:=m) (P:=8) h.ok.mem hM id id id id id g5
theorem xN:fg 8 (cO 256 0):=⟨by simp,by decide,by decide,λw hw=>by rw[eR hw];exact gu⟩
theorem zam{s t:List Int}(hl:s.length<=1000000000000):Uc s t=true->s=t:=by
 have h:(L6 s t).w λr=>r=true->s=t:=by
  unfold L6
  refine ae (λ_=>bh λh=>by cases h) (λhe=>?_)
  have he:s.length=t.length:=by
   have:(s.length:Int)=t.length:=by simpa using he
   omega
  refine fv (inv:=λz:Int=>∃i:Nat,z=i/\i<=s.length/\∀j,j<i->s.getD j 0=t.getD j 0) (μ:=OV s t) ⟨0,rfl,bC _,λj h=>by omega⟩ (cN _) ?_
  rintro _ ⟨i,rfl,hi,hj⟩
  refine ae (λbg=>?_) (λgz=>bh λ_=>?_)
  ·have bg:i<s.length:=by simpa using bg
   have ew:wrap .i64 ((i:Int)+1)=((i+1:Nat):Int):=by rw[wi (by omega) (by omega)];omega
   refine aw (lV bg) (aw (lV (by omega)) (ae (λ_=>bh λh=>by cases h) (λheq=>ff ⟨⟨i+1,ew,bg,λj L7=>?_⟩,by simp only[OV,ew];omega⟩)))
   rw[dX]at heq
   rcases Nat.lt_succ_iff_lt_or_eq.1 L7 with h|h
   ·exact hj j h
   ·subst h;simpa using heq
  ·have gz:s.length<=i:=by simpa using gz
   refine bR he λj h1 h2=>?_
   have:=hj j (by omega)
   simpa[aV,h1,h2]using this
 exact(Tree.pp h).2
theorem Zl1(ha:fg P a)(hb:fg P b):Yi a b/\(Eb a b).length<=P/\ ∀k:Nat,k<P->(k:Int)∈Eb a b\/(a.drop (k*32)).take 32=(b.drop (k*32)).take 32:=by
  have h:(OW a b).w λr=>r.length<=P/\ ∀k:Nat,k<P->(k:Int)∈r\/(a.drop (k*32)).take 32=(b.drop (k*32)).take 32:=by
    have la:=ha.len
    have lb:=hb.len
    have hp:=ha.p2
    unfold OW
    refine aq λx0 h0=>aq λx1 h1=> ?_
    have h0:x0=P:=h0.trans (L4 la hp)
    have h1:x1=P:=h1.trans (L4 lb hp)
    subst h0;subst h1
    refine ae (λh=>by simp at h) (λ_=> ?_)
    refine fv (inv:=λz:Int×List Int=> ∃i:Nat,z.1=i/\i<=P/\z.2.length<=i/\ ∀k:Nat,k<i->(k:Int)∈z.2\/(a.drop (k*32)).take 32=(b.drop (k*32)).take 32) (μ:=λz=>(P-z.1).toNat) ⟨0,rfl,bC _,by simp,λk h=>by omega⟩ (by simp only[Qi1];omega) ?_
    rintro⟨_,x⟩ ⟨i,rfl,hi,hx,hk⟩
    simp only at hx hk
    refine ae (λbg=> ?_) (λgz=>bh ?_)
    . have bg:i<P:=by simpa using bg
      have ew:wrap .i64 ((i:Int)+1)=((i+1:Nat):Int):=by rw[wi (by omega) (by omega)];omega
      have e1:wrap .i64 ((i:Int)*32)=((i*32:Nat):Int):=by rw[wi (by omega) (by omega)];omega
      have e2:wrap .i64 (((i+1:Nat):Int)*32)=((i*32+32:Nat):Int):=by rw[wi (by omega) (by omega)];omega
      simp only[ew,e1,e2,dX,show i*32+32-i*32=32 by omega]
      refine aw (by rw[dY (by omega)];rfl) (aw (by rw[dY (by omega)];rfl) (df (show _<=_ by simp;omega) (aq λx2 h2=> ?_)))
      have h2:x2=Uc _ _:=h2
      refine ae (λhn=>aw (dY (by omega)) (ff ⟨⟨i+1,rfl,bg,by simp;omega,λk wc=> ?_⟩,by omega⟩)) (λhn=>ff ⟨⟨i+1,rfl,bg,by show x.length<=_;omega,λk wc=> ?_⟩,by omega⟩)
      . rcases Nat.lt_succ_iff_lt_or_eq.1 wc with h|h
        . rcases hk k h with h|h
          . exact .inl (eS _ h)
          . exact .inr h
        . subst h;exact .inl (by simp)
      . rcases Nat.lt_succ_iff_lt_or_eq.1 wc with h|h
        . exact hk k h
        . subst h
          have:x2=true:=by simpa using hn
          exact .inr (zam (by simp;omega) (h2.symm.trans this))
    . have gz:P<=i:=by simpa using gz
      exact⟨by show x.length<=P;omega,λk wc=>hk k (by omega)⟩
  exact Tree.pp h
theorem Ud:∀{l:List Int} {d:List Bool} {k:Nat},k<d.length->(d.getD k false=true\/(k:Int)∈l)->(rG d l).getD k false=true
 |[],d,k,_,h=>by
  rcases h with h|h
  ·exact h
  ·cases h
 |f :: l,d,k,hk,h=>by
  simp only[rG]
  by_cases hf:0<=f/\f<d.length
  ·rw [if_pos hf]
   refine Ud (by simpa using hk) ?_
   by_cases e:f.toNat=k
   ·refine .inl ?_
    subst e
    simp[aV,hk]
   ·rcases h with h|h
    ·refine .inl ?_
     rw[cX,List.getElem?_set_ne e,<-cX];exact h
    ·rcases List.mem_cons.1 h with h|h
     ·omega
     ·exact .inr h
  ·rw[if_neg hf]
   refine Ud hk ?_
   rcases h with h|h
   ·exact .inl h
   ·rcases List.mem_cons.1 h with h|h
    ·omega
    ·exact .inr h
theorem vl{j:Nat}(h:(a.drop (j/32*32)).take 32=(b.drop (j/32*32)).take 32):a.getD j 0=b.getD j 0:=by
 have e:=congrArg (λl=>l.getD (j%32) 0) h
 have hm:j%32<32:=Nat.mod_lt _ (by decide)
 simp only[cX,List.getElem?_take,hm,if_true,List.getElem?_drop]at e
 rw[show j/32*32+j%32=j by omega]at e
 simpa only[cX]using e
theorem y5{m d:List Int}{b:Nat}(h:m.getD (b/4) 0=d.getD (b/4) 0):lJ m b=lJ d b:=by unfold lJ;rw[h]
theorem qm{c:gl}{m:List Int}(hP:1<=P)(hm:fg P m)(hd:c.B1.length=P)(r0:0<=c.C0)(r1:c.C0<=10)(s0:0<=c.D6)(s1:c.D6<=352):uG c m=(⟨cO P false,c.C0+1,c.D6+(ir c.B1 0).length⟩,mM m (ir c.B1 0)):=by
 have:=Qt c.B1 0
 have hP2:=hm.p2
 unfold uG
 rw[if_pos ⟨by rw[Zjj];exact dY (by omega),r1,by rw[L4 (P:=P) hm.len hP2,hd]⟩,wi (by omega) (by omega),wi (by omega) (by omega),hd]
theorem xm{c:gl}{m:List Int}(hb:c.B1.length<=1000000000000):Yj c m/\I8 c m=uG c m:=by
 have h:(OX c m).w λr=>r=uG c m:=by
  unfold OX
  refine df (TZ hb).1 (aq λx hx=>?_)
  have hx:x=Qb c:=hx
  rw[(TZ hb).2]at hx;subst hx
  refine aq λv hv=>?_
  have hv:v=uH x:=hv
  refine ae (λh1=>bh ?_) (λh1=>?_)
  ·have:uH x=false:=by rw[hv]at h1;simpa using h1
   simp[uG,this]
  have hV:uH x=true:=by rw[hv]at h1;simpa using h1
  obtain⟨v1,v2,v3,v4,v5,v6⟩:=Zi9 hV
  refine ae (λh2=>bh ?_) (λh2=>?_)
  ·have:¬x.C0<=10:=by simpa using h2
   simp[uG,this]
  have h2:x.C0<=10:=by simpa using h2
  refine aq λp hp=>?_
  have hp:p=jW m:=hp
  refine ae (λh3=>bh ?_) (λh3=>?_)
  ·have:¬jW m=x.B1.length:=by rw[hp]at h3;simpa using h3
   simp[uG,this]
  have h3:jW m=x.B1.length:=by rw[hp]at h3;simpa using h3
  obtain⟨l1,l2⟩:=xl h3 v1
  have hr:=Tree.pp (xal l1 l2 rfl)
  refine aq λ_ _=>df hr.1 (aq λy hy=>aw ?_ (bh ?_))
  ·rw[dY (by omega)];rfl
  ·have hy:y=Ue m [] x.B1:=hy
   have e:Ue m [] x.B1=(m,mM m (ir x.B1 0),x.B1):=hr.2
   rw[hy,e]
   simp[uG,hV,h2,h3,mM]
 exact Tree.pp h
theorem zN{c:gl}{m:List Int}(hm:fg 8 m)(hd:c.B1.length=8)(r0:0<=c.C0)(r1:c.C0<=10)(s0:0<=c.D6)(s1:c.D6<=8*c.C0):uG c m=(⟨cO 8 false,c.C0+1,c.D6+(ir c.B1 0).length⟩,mM m (ir c.B1 0)):=
 qm (P:=8) (by decide) hm hd r0 r1 s0 (by omega)
theorem I9{m:List Int}(hm:fg 8 m)(hf:f<8):Cm m f (jD m f).1/\(jD m f).2=true:=(Tree.pp (qi hm (f:=(f:Int)) (by omega) (by omega))).2
theorem zm{m:List Int}(hm:fg 8 m)(hf:f<8):(jD m f).1.length=128:=(I9 hm hf).1.1
theorem Zc7(ha:fg 8 a)(hb:fg 8 b)(hf:f<8)(h:∀k:Nat,k<128->lJ a (f*128+k)=lJ b (f*128+k)):(jD a f).1=(jD b f).1:=by
 obtain⟨p1,p2⟩:=(I9 ha hf).1
 obtain⟨q1,q2⟩:=(I9 hb hf).1
 have e:((f:Int)*128).toNat=f*128:=by omega
 refine vh (m:=a) (f:=f) ⟨p1,p2⟩ ⟨q1,λk hk=>?_⟩
 rw[q2 k hk,e,h k hk]
theorem yN(ha:fg 8 a)(hb:fg 8 b)(hf:f<8)(h:(jD a f).1=(jD b f).1)(hk:k<128):lJ a (f*128+k)=lJ b (f*128+k):=by
 have p:=(I9 ha hf).1.2 k hk
 have q:=(I9 hb hf).1.2 k hk
 have e:((f:Int)*128).toNat=f*128:=by omega
 rw[e]at p q
 rw[<-p,<-q,h]
theorem vN(ha:fg 8 a)(hb:fg 8 b)(hf:f<8)(h:¬(f:Int)∈Eb a b):(jD a f).1=(jD b f).1:=by
 obtain⟨_,_,c⟩:=Zl1 ha hb
 refine Zc7 ha hb hf λk hk=>y5 ?_
 rcases c f hf with c|c
 ·exact absurd c h
 ·exact vl (by rw[show(f*128+k)/4/32=f by omega];exact c)
theorem Uf{m:List Int}(hm:fg 8 m)(hf:f<8){d:List UInt8}(hd:d.length=128):(rY m f d).2=true/\fg 8 (rY m f d).1/\∀b:Nat,lJ (rY m f d).1 b=if(f:Int)*128<=b/\(b:Int)<(f:Int)*128+128 then((d.getD (b-(f:Int)*128).toNat 0).toNat:Int)else lJ m b:=(Tree.pp (Xs hm (f:=(f:Int)) (by omega) (by omega) hd)).2
theorem Zjq{m:List Int}(hm:fg 8 m)(hf:f<8){d:List UInt8}(hd:d.length=128):Ug m f d:=(Tree.pp (Xs hm (f:=(f:Int)) (by omega) (by omega) hd)).1
theorem Zoc{m:List Int}(hm:fg 8 m)(hf:f<8){d:List UInt8}(hd:d.length=128):fg 8 (rY m f d).1:=(Uf hm hf hd).2.1
theorem Zo8{m:List Int}(hm:fg 8 m)(hf:f<8){d:List UInt8}(hd:d.length=128):(jD (rY m f d).1 f).1=d:=by
 obtain⟨_,ok,h⟩:=Uf hm hf hd
 refine vh (I9 ok hf).1 ⟨hd,λk hk=>?_⟩
 rw[h,if_pos (by omega)]
 congr 3;omega
theorem Zmj{m:List Int}(hm:fg 8 m)(hf:f<8)(hk:k<8)(hn:k≠f){d:List UInt8}(hd:d.length=128):(jD (rY m f d).1 k).1=(jD m k).1:=by
 obtain⟨_,ok,h⟩:=Uf hm hf hd
 refine Zc7 ok hm hk λj hj=>?_
 rw[h,if_neg (by omega)]
theorem ym(ha:fg 8 a)(hb:fg 8 b)(h:∀f:Nat,f<8->(jD a f).1=(jD b f).1):a=b:=by
 have la:=ha.len
 have lb:=hb.len
 refine xh (la.trans lb.symm) ha.u hb.u λk=>?_
 by_cases hk:k/128<8
 ·have:=yN ha hb hk (h _ hk) (k:=k%128) (Nat.mod_lt _ (by decide))
  rwa [show k/128*128+k%128=k by omega]at this
 ·refine y5 ?_
  simp[aV,aJ (show a.length<=k/4 by omega),aJ (show b.length<=k/4 by omega)]
theorem xam{c:gl}(hd:c.B1.length=8)(r0:0<=c.C0)(r1:c.C0<=11)(s0:0<=c.D6)(s1:c.D6<=8*c.C0):I4 c 32=true:=by
 have:=Qt c.B1 0
 rw[(y4 (c:=c) (fx:=32) (by omega)).2,Zjj,dY (show 1<=c.B1.length/\c.B1.length<=32/\0<=c.C0/\c.C0<=11/\0<=c.D6/\c.D6<=352 by omega),dY (show((ir c.B1 0).length:Int)<=32 by omega)]
 rfl
def Cv(s:iN):Prop:=s.ab.length=4/\(∀b∈s.ab,b.length=128)/\1<=s.D5/\s.D5<=2/\0<=s.D7
theorem Zqn{s:iN}(h:Cv s):(OY s).w λr=>r=true:=by
 obtain⟨b1,b2,b3,b4,b5⟩:=h
 unfold OY
 refine ae (λh=>absurd (oY h) (by omega)) λ_=>ae (λh=>absurd (oY h) (by omega)) λ_=>ae (λh=>absurd (oY h) (by omega)) λ_=>?_
 refine fv (inv:=λz:Int=>∃i:Nat,z=i/\i<=s.ab.length) (μ:=Yk s) ⟨0,rfl,bC _⟩ (cN _) ?_
 rintro _ ⟨i,rfl,hi⟩
 refine ae (λbg=>?_) (λgz=>ae (λh=>?_) (λ_=>bh (dY (by omega))))
 ·have bg:i<s.ab.length:=by simpa using bg
  have ew:wrap .i64 ((i:Int)+1)=((i+1:Nat):Int):=by rw[wi (by omega) (by omega)];omega
  refine aw (lV bg) (ae (λh=>?_) (λ_=>ff ⟨⟨i+1,ew,bg⟩,by simp only[Yk,ew];omega⟩))
  exfalso
  have e:s.ab.getD (dA (i:Int)) (RK.fc RK.str)=s.ab[i]:=by simp[aV,bg]
  rw[e,b2 _ (eT bg)]at h
  cases h
 ·have h:s.D5=0:=by simpa using h
  omega
theorem Yl{s:iN}(h:Cv s)(h0:0<=host)(seen:Int):(OZ s host seen).w λr=>r=if s.D5=seen then({s with D5:=s.D5+1,D7:=host},true)else(s,false):=by
 have v:=Tree.pp (Zqn h)
 obtain⟨b1,b2,b3,b4,b5⟩:=h
 unfold OZ
 have cp:(O0 s).w λr=>r=s:=by
  unfold O0
  exact df (show s.ab.length<=1000000000000 by omega) (aq λx hx=>by have hx:x=s.ab:=hx;subst hx;exact bh rfl)
 refine cj cp λx0 e0=>?_
 subst e0
 refine df v.1 (aq λx1 h1=>?_)
 have h1:x1=true:=h1.trans v.2
 subst h1
 refine ae (λh=>by cases h) λ_=>ae (λh=>absurd (oY h) (by omega)) λ_=>ae (λh=>bh ?_) λh=>?_
 ·have:x0.D5≠seen:=by simpa using h
  rw[if_neg this]
 ·have h:x0.D5=seen:=by simpa using h
  refine ae (λh=>absurd (oY h) (by omega)) λ_=>bh ?_
  have e:wrap .u64 (x0.D5+1)=x0.D5+1:=by rw[wrap_u64];omega
  rw[if_pos h,e]
theorem Zqe{s:iN}(h:Cv s)(h0:0<=host)(seen:Int):mz s host seen=if s.D5=seen then({s with D5:=s.D5+1,D7:=host},true)else(s,false):=(Tree.pp (Yl h h0 seen)).2
def zM:bd:=(RK.fc RK.aa).A0
def ie(l:List ft)(x:ft):List ft:=if l.length<64 then l++[x]else l
def o8(l xs:List ft):List ft:=xs.foldl ie l
theorem L8{x y:ft}(h:y∈ie l x):y∈l\/y=x:=by
 unfold ie at h;split at h
 ·rcases List.mem_append.1 h with h|h
  ·exact .inl h
  ·exact .inr (List.mem_singleton.1 h)
 ·exact .inl h
theorem L9(h:l.length<=64):(ie l x).length<=64:=by
 unfold ie;split
 ·rw[lA,cY];omega
 ·exact h
theorem O1:∀{l:List ft} {y:ft},y∈o8 l xs->y∈l\/y∈xs:=by
 induction xs with
 |nil=>intro l y h;exact .inl h
 |cons x xs ih=>
  intro l y h
  rcases ih (l:=ie l x) h with h|h
  ·rcases L8 h with h|h
   ·exact .inl h
   ·exact .inr (by rw[h];exact eU ..)
  ·exact .inr (eV _ h)
theorem Zl0:∀{l:List ft},l.length<=64->(o8 l xs).length<=64:=by
 induction xs with
 |nil=>intro l h;exact h
 |cons x xs ih=>intro l h;exact ih (l:=ie l x) (L9 h)
theorem Zqx:∀{l:List ft},l.length+xs.length<=64->o8 l xs=l++xs:=by
 induction xs with
 |nil=>intro l h;simp[o8]
 |cons x xs ih=>
  intro l h
  have h:l.length+(xs.length+1)<=64:=h
  have e:ie l x=l++[x]:=if_pos (by omega)
  have:=ih (l:=l++[x]) (by rw[lA,cY];omega)
  show o8 (ie l x) xs=_
  rw[e,this,aM];rfl
def rH(r f:Int)(d:List UInt8):ft:=⟨1,r,f,d,zM,[]⟩
def pF(s:ig):ft:=⟨2,0,0,[],{s.A0 with Mem:=[]},s.A4⟩
def Cw(k:Int):ft:=⟨k,0,0,[],zM,[]⟩
def r3(R fs:List Int)(v:Int):List Int:=fs.foldl (λR f=>R.set f.toNat v) R
theorem Uh{v:Int}:∀{R:List Int},(r3 R fs v).length=R.length:=by
 induction fs with
 |nil=>intro R;rfl
 |cons x xs ih=>intro R;exact(ih (R:=R.set x.toNat v)).trans dC
theorem Gg{R:List Int}{i k:Nat}{v:Int}(hk:k<R.length):(R.set i v).getD k 0=if i=k then v else R.getD k 0:=by
 simp only[cX,List.getElem?_set]
 by_cases h:i=k
 ·subst h;simp[hk]
 ·simp[h]
theorem Zc5{v:Int}(hf:∀f∈fs,0<=f):∀{R:List Int} {k:Nat},k<R.length->(r3 R fs v).getD k 0=if(k:Int)∈fs then v else R.getD k 0:=by
 induction fs with
 |nil=>intro R k hk;simp[r3]
 |cons x xs ih=>
  intro R k hk
  have h:=ih (λf h=>hf f (eV _ h)) (R:=R.set x.toNat v) (k:=k) (by rw[dC];exact hk)
  show(r3 (R.set x.toNat v) xs v).getD k 0=_
  rw[h,Gg hk]
  have x0:=hf x (eU ..)
  by_cases h1:(k:Int)∈xs
  ·rw[if_pos h1,if_pos (eV _ h1)]
  ·rw [if_neg h1]
   by_cases h2:x.toNat=k
   ·rw[if_pos h2,if_pos (by rw[show(k:Int)=x by omega];exact eU ..)]
   ·rw[if_neg h2,if_neg (λh=>by
     rcases List.mem_cons.1 h with h|h
     ·omega
     ·exact h1 h)]
theorem vm:∀{D:List Bool} {k:Int} {f:Nat},k+(f:Int)∈ir D k↔D.getD f false=true
 |[],k,f=>by simp[ir]
 |b::D,k,0=>by
  have no:¬k∈ir D (k+1):=λh=>by have:=OM h;omega
  simp only[ir]
  cases b<;>simp[no]
 |b ::D,k,f+1=>by
  have ih:=vm (D:=D) (k:=k+1) (f:=f)
  have e:k+((f+1:Nat):Int)=k+1+(f:Int):=by omega
  rw[e]
  simp only[ir,List.getD_cons_succ]
  split
  ·rw[List.mem_cons]
   constructor
   ·rintro(h|h)
    ·omega
    ·exact ih.1 h
   ·exactλh=>.inr (ih.2 h)
  ·exact ih
theorem Ui:(f:Int)∈ir D 0↔D.getD f false=true:=by
 have:=vm (D:=D) (k:=0) (f:=f)
 rwa [Int.zero_add]at this
def Fe(g:du):du:=
 { g with
   A1:={g.A1 with B0:=(uG g.A1.B0 g.A1.A0.Mem).1,A4:=r3 g.A1.A4 ((uG g.A1.B0 g.A1.A0.Mem).2.map (·.Frame)) (uG g.A1.B0 g.A1.A0.Mem).1.C0}
   A9:=o8 g.A9 ((uG g.A1.B0 g.A1.A0.Mem).2.map λp=>rH (uG g.A1.B0 g.A1.A0.Mem).1.C0 p.Frame p.F1)}
def G2(g:du):du:=
 {g with A1:={g.A1 with A3:=2},A9:=ie g.A9 (pF g.A1)}
def r4(g:du)(fx:Int):du:=
 if g.A1.A3=1/\I4 g.A1.B0 fx=true then G2 (Fe g)else g
def oC(s:ig):List ft:=(List.range 8).map λf=>rH (s.A4.getD f 0) f (jD s.A0.Mem f).1
theorem qn(s:ig)(hf:f<8):rH (s.A4.getD f 0) f (jD s.A0.Mem f).1∈oC s:=by
 unfold oC;exact List.mem_map.2 ⟨f,List.mem_range.2 hf,rfl⟩
theorem Zl(s:ig):(oC s).length=8:=by
 unfold oC;rw[eW,List.length_range]
theorem Zo2(s:ig):(oC s++[pF s]).length=9:=by
 rw[lA,Zl];rfl
def Az(g:du):du:=
 if g.A1.A3=2 then{g with A9:=o8 g.A9 (oC g.A1++[pF g.A1])}else g
def j6(g:du):Int:=if g.A1.A3=1\/g.A1.A3=3 then 0 else if g.A2.A3=3 then 1 else-1
def mh(m:bd)(clock:Int):Nat->bd
 |0=>m
 |n+1=>(Ea (mh m clock n) clock).1
def runN(n:Int):Nat:=(min (max n 0) 64).toNat
def r5(s:ig)(m:bd):gl:=if s.A3=1 then{s.B0 with B1:=rG s.B0.B1 (Eb s.A0.Mem m.Mem)}else s.B0
def jt(g:du)(n clock:Int):du:=
 if g.A1.A3=1\/g.A1.A3=3 then{g with A1:={g.A1 with A0:=mh g.A1.A0 clock (runN n),B0:=r5 g.A1 (mh g.A1.A0 clock (runN n))}}
 else if g.A2.A3=3 then{g with A2:={g.A2 with A0:=mh g.A2.A0 clock (runN n)}}
 else g
def iV(t:ig)(x:ft):ig:=
 if¬(t.A3=0\/t.A3=1\/t.A3=2)then t
 else if x.C2=1 then
  (if 0<=x.Frame/\x.Frame<t.A4.length/\t.A4.getD x.Frame.toNat 0<x.C0 then
   {t with A3:=if t.A3=0 then 1 else t.A3,A0:={t.A0 with Mem:=(rY t.A0.Mem x.Frame x.F1).1},A4:=t.A4.set x.Frame.toNat x.C0}
  else t)
 else if x.C2=2 then(if t.A3=2 then t else{t with A3:=2,A0:={x.A0 with Mem:=t.A0.Mem},B9:=x.A4})
 else if x.C2=4 then{t with A3:=4}else t
def lX(g:du)(back:Bool):List ft:=if back=true then g.C1 else g.A9
def nU(g:du)(back:Bool)(l:List ft):du:=if back=true then{g with C1:=l}else{g with A9:=l}
def mN(l:List ft)(i:Int):Prop:=0<=i/\i<l.length
instance (l:List ft) (i:Int):Decidable (mN l i):=by unfold mN;infer_instance
def o9(l:List ft)(i:Int):ft:=l.getD i.toNat (RK.fc RK.aa)
def ly(l:List ft)(i:Int):List ft:=l.take i.toNat++l.drop (i.toNat+1)
def pb(g:du)(back:Bool)(i:Int):du:=if mN (lX g back) i then nU g back (ly (lX g back) i)else g
def Ff(g:du)(back:Bool)(x:ft):du:=
 if back=true then(if g.A1.A3=2/\x.C2=3 then{g with A1:={g.A1 with A3:=4}}else g)else{g with A2:=iV g.A2 x}
def lL(g:du)(back:Bool)(i:Int):du:=if mN (lX g back) i then Ff (pb g back i) back (o9 (lX g back) i)else g
def sM(g:du)(back:Bool)(i:Int):du:=if mN (lX g back) i then nU g back (ie (lX g back) (o9 (lX g back) i))else g
def Cx(g:du):Prop:=g.A2.A3=2/\g.A2.A4=g.A2.B9
instance (g:du):Decidable (Cx g):=by unfold Cx;infer_instance
def re(g:du):du:=
 if Cx g then
  (if(mz g.A6 1 g.A2.D5).2=true then{g with A6:=(mz g.A6 1 g.A2.D5).1,A2:={g.A2 with A3:=3,D5:=(mz g.A6 1 g.A2.D5).1.D5},C1:=ie g.C1 (Cw 3)}
  else{g with A2:={g.A2 with A3:=4}})
 else g
def nd(g:du):du:=
 if g.A1.A3=1 then{g with A1:={g.A1 with A3:=3},A9:=ie g.A9 (Cw 4)}
 else if g.A1.A3=2 then
  (if(mz g.A6 0 g.A1.D5).2=true then{g with A6:=(mz g.A6 0 g.A1.D5).1,A1:={g.A1 with A3:=3,D5:=(mz g.A6 0 g.A1.D5).1.D5},A9:=ie g.A9 (Cw 4)}
  else{g with A1:={g.A1 with A3:=4}})
 else g
def Ma(g:du)(back:Bool):du:=if back=true then{g with A2:={g.A2 with A3:=4}}else{g with A1:={g.A1 with A3:=4}}
def nf(g:du)(a:jY):du×Bool:=
 if a.C2=1 then(jt g a.N a.F2,true)
 else if a.C2=2 then(if g.A1.A3=1/\g.A1.B0.C0<10 then Fe g else g,true)
 else if a.C2=3 then(r4 g a.N,true)
 else if a.C2=4 then(Az g,true)
 else if a.C2=5 then(lL g a.C1 a.N,true)
 else if a.C2=6 then(pb g a.C1 a.N,true)
 else if a.C2=7 then(sM g a.C1 a.N,true)
 else if a.C2=8 then(re g,true)
 else if a.C2=9 then(nd g,true)
 else if a.C2=10 then(Ma g a.C1,true)
 else(g,false)
structure jJ(x:ft):Prop where
 mem:x.A0.Mem=[]
 rl:x.A4.length<=8
 pg:x.C2=1->0<=x.Frame/\x.Frame<8/\x.F1.length=128
 stt:x.C2=2->∀M,fg 8 M->iq 8 {x.A0 with Mem:=M}
structure gp(g:du):Prop where
 src:iq 8 g.A1.A0
 dl:g.A1.B0.B1.length=8
 r0:0<=g.A1.B0.C0
 r1:g.A1.B0.C0<=11
 r2:g.A1.A3=1->g.A1.B0.C0<=10
 s0:0<=g.A1.B0.D6
 s1:g.A1.B0.D6<=8*g.A1.B0.C0
 rl:g.A1.A4.length=8
 sf:g.A1.B9.length<=8
 tc:g.A2.B0.B1.length<=8
 tl:g.A2.A4.length=8
 tm:fg 8 g.A2.A0.Mem
 tg:g.A2.A3=2\/g.A2.A3=3->iq 8 g.A2.A0
 tf:g.A2.B9.length<=8
 fl:g.A9.length<=64
 fo:∀x∈g.A9,jJ x
 bl:g.C1.length<=64
 bo:∀x∈g.C1,jJ x
 st:Cv g.A6
theorem Zk6{m:List Int}(hm:fg 8 m){r:Int}(hf:f<8):jJ (rH r f (jD m f).1):=
 ⟨rfl,bC _,λ_=>⟨by show(0:Int)<=(f:Int);omega,by show(f:Int)<8;omega,zm hm hf⟩,λh=>absurd (show(1:Int)=2 from h) (by decide)⟩
theorem Zc{s:ig}(h:iq 8 s.A0)(hr:s.A4.length<=8):jJ (pF s):=
 ⟨rfl,hr,λh=>absurd (show(2:Int)=1 from h) (by decide),λ_ M hM=>Zp0 h hM⟩
theorem Ym{k:Int}(h1:k≠1)(h2:k≠2):jJ (Cw k):=⟨rfl,bC _,λh=>absurd h h1,λh=>absurd h h2⟩
theorem sN(h:∀y∈l,jJ y)(hx:jJ x):∀y∈ie l x,jJ y:=λy hy=>by
 rcases L8 hy with h1|h1
 ·exact h y h1
 ·rw[h1];exact hx
theorem Cy(h:∀y∈l,jJ y)(hx:∀y∈xs,jJ y):∀y∈o8 l xs,jJ y:=λy hy=>(O1 hy).elim (h y) (hx y)
section
variable {g:du} (h:gp g)
include h
theorem gp.rI:fg 8 g.A1.A0.Mem:=h.src.nD
theorem gp.round(hr:g.A1.B0.C0<=10):uG g.A1.B0 g.A1.A0.Mem=(⟨cO 8 false,g.A1.B0.C0+1,g.A1.B0.D6+(ir g.A1.B0.B1 0).length⟩,mM g.A1.A0.Mem (ir g.A1.B0.B1 0)):=zN h.rI h.dl h.r0 hr h.s0 h.s1
end
theorem Zdr(m l:List Int):(mM m l).map (·.Frame)=l:=by
 unfold mM;rw[List.map_map];exact List.map_id' l
def tP(c:gl)(m:List Int):List ft:=(mM m (ir c.B1 0)).map λp=>rH (c.C0+1) p.Frame p.F1
def mO(g:du):du:=
 { g with
   A1:={g.A1 with B0:=⟨cO 8 false,g.A1.B0.C0+1,g.A1.B0.D6+(ir g.A1.B0.B1 0).length⟩,A4:=r3 g.A1.A4 (ir g.A1.B0.B1 0) (g.A1.B0.C0+1)}
   A9:=o8 g.A9 (tP g.A1.B0 g.A1.A0.Mem)}
theorem Ja(h:gp g)(hr:g.A1.B0.C0<=10):Fe g=mO g:=by
 unfold Fe mO tP
 rw[h.round hr]
 simp only[Zdr]
theorem Yn(h:D.length=8):(ir D 0).length<=8:=by have:=Qt D 0;omega
theorem z6:∀f∈ir D 0,0<=f:=λf hf=>(OM hf).1
theorem Uj{c:gl}{m:List Int}(hd:c.B1.length=8)(h:x∈tP c m):∃f:Nat,f<8/\c.B1.getD f false=true/\x=rH (c.C0+1) f (jD m f).1:=by
 unfold tP mM at h
 obtain⟨p,hp,rfl⟩:=List.mem_map.1 h
 obtain⟨f,hf,rfl⟩:=List.mem_map.1 hp
 have h1:=OM hf
 obtain⟨k,rfl⟩:∃k:Nat,f=k:=⟨f.toNat,by omega⟩
 exact⟨k,by omega,Ui.1 hf,rfl⟩
theorem qO{c:gl}{m:List Int}(h:c.B1.getD f false=true):rH (c.C0+1) f (jD m f).1∈tP c m:=by
 unfold tP mM
 exact List.mem_map.2 ⟨_,List.mem_map.2 ⟨(f:Int),Ui.2 h,rfl⟩,rfl⟩
theorem xO{c:gl}{m:List Int}(hd:c.B1.length=8):(tP c m).length<=8:=by
 unfold tP mM
 rw[eW,eW]
 exact Yn hd
theorem Zpq(h:gp g)(hr:g.A1.B0.C0<=10)(hp:g.A1.A3=1->g.A1.B0.C0<=9):gp (mO g):=by
 have hs:=Yn h.dl
 obtain⟨a1,a2,a3,a4,a5,a6,a7,a8,a9,kq,kr,a12,ku,kv,ky,a16,a17,a18,a19⟩:=h
 refine⟨a1,by simp[mO],by show 0<=g.A1.B0.C0+1;omega,by show g.A1.B0.C0+1<=11;omega,λe=>by have:=hp e;show g.A1.B0.C0+1<=10;omega,by show 0<=g.A1.B0.D6+_;omega,by show g.A1.B0.D6+((ir g.A1.B0.B1 0).length:Int)<=8*(g.A1.B0.C0+1);omega,Uh.trans a8,a9,kq,kr,a12,ku,kv,Zl0 ky,Cy a16 λy hy=>?_,a17,a18,a19⟩
 obtain⟨f,hf,_,rfl⟩:=Uj a2 hy
 exact Zk6 a1.nD hf
def Fg(g:du):du:=G2 (mO g)
theorem xn(h:gp g)(hp:g.A1.A3=1):gp (Fg g):=by
 have h2:=h.r2 hp
 have h':gp {g with A1:={g.A1 with A3:=2}}:=⟨h.src,h.dl,h.r0,h.r1,λe=>absurd (show(2:Int)=1 from e) (by decide),h.s0,h.s1,h.rl,h.sf,h.tc,h.tl,h.tm,h.tg,h.tf,h.fl,h.fo,h.bl,h.bo,h.st⟩
 have r:=Zpq h' h2 (λe=>absurd (show(2:Int)=1 from e) (by decide))
 exact⟨r.src,r.dl,r.r0,r.r1,λe=>absurd (show(2:Int)=1 from e) (by decide),r.s0,r.s1,r.rl,r.sf,r.tc,r.tl,r.tm,r.tg,r.tf,L9 r.fl,sN r.fo (Zc r.src (Nat.le_of_eq r.rl)),r.bl,r.bo,r.st⟩
theorem zn{s:ig}(h:x∈oC s):∃f:Nat,f<8/\x=rH (s.A4.getD f 0) f (jD s.A0.Mem f).1:=by
 obtain⟨f,hf,rfl⟩:=List.mem_map.1 h
 exact⟨f,List.mem_range.1 hf,rfl⟩
theorem Z6f{s:ig}(h:x∈oC s++[pF s]):(∃f:Nat,f<8/\x=rH (s.A4.getD f 0) f (jD s.A0.Mem f).1)\/x=pF s:=by
 rcases List.mem_append.1 h with h|h
 ·exact .inl (zn h)
 ·exact .inr (List.mem_singleton.1 h)
theorem gp.Jb(h:gp g)(hl:l.length<=64)(ho:∀x∈l,jJ x):gp {g with A9:=l}:=
 ⟨h.src,h.dl,h.r0,h.r1,h.r2,h.s0,h.s1,h.rl,h.sf,h.tc,h.tl,h.tm,h.tg,h.tf,hl,ho,h.bl,h.bo,h.st⟩
def AA(g:du):du:={g with A9:=o8 g.A9 (oC g.A1++[pF g.A1])}
theorem yn(h:gp g):gp (AA g):=by
 refine h.Jb (l:=o8 g.A9 (oC g.A1++[pF g.A1])) (Zl0 h.fl) (Cy h.fo λy hy=>?_)
 rcases Z6f hy with⟨f,hf,rfl⟩|rfl
 ·exact Zk6 h.rI hf
 ·exact Zc h.src (by have:=h.rl;omega)
theorem Jc{m:bd}(g:iq 8 m){clock:Int}(hc:U clock):∀n,iq 8 (mh m clock n)
 |0=>g
 |n+1=>Fc (Jc g hc n) hc
theorem vn{s:ig}{m:bd}:(r5 s m).B1.length=s.B0.B1.length/\(r5 s m).C0=s.B0.C0/\(r5 s m).D6=s.B0.D6:=by
 unfold r5;split
 ·exact⟨Z1b _ _,rfl,rfl⟩
 ·exact⟨rfl,rfl,rfl⟩
theorem qan(h:gp g)(hc:U clock)(n:Int):gp (jt g n clock):=by
 unfold jt
 split
 ·obtain⟨e1,e2,e3⟩:=vn (s:=g.A1) (m:=mh g.A1.A0 clock (runN n))
  exact⟨Jc h.src hc _,e1.trans h.dl,by show 0<=(r5 _ _).C0;rw[e2];exact h.r0,by show(r5 _ _).C0<=_;rw[e2];exact h.r1,λe=>by show(r5 _ _).C0<=_;rw[e2];exact h.r2 e,by show 0<=(r5 _ _).D6;rw[e3];exact h.s0,by show(r5 _ _).D6<=8*(r5 _ _).C0;rw[e2,e3];exact h.s1,h.rl,h.sf,h.tc,h.tl,h.tm,h.tg,h.tf,h.fl,h.fo,h.bl,h.bo,h.st⟩
 ·split
  ·rename_i hp
   have gt:=Jc (h.tg (.inr hp)) hc (runN n)
   exact⟨h.src,h.dl,h.r0,h.r1,h.r2,h.s0,h.s1,h.rl,h.sf,h.tc,h.tl,gt.nD,λ_=>gt,h.tf,h.fl,h.fo,h.bl,h.bo,h.st⟩
  ·exact h
structure Uk(t:ig):Prop where
 tc:t.B0.B1.length<=8
 tl:t.A4.length=8
 tm:fg 8 t.A0.Mem
 tg:t.A3=2\/t.A3=3->iq 8 t.A0
 tf:t.B9.length<=8
theorem gp.t(h:gp g):Uk g.A2:=⟨h.tc,h.tl,h.tm,h.tg,h.tf⟩
theorem gp.Jd(h:gp g){t:ig}(k:Uk t):gp {g with A2:=t}:=
 ⟨h.src,h.dl,h.r0,h.r1,h.r2,h.s0,h.s1,h.rl,h.sf,k.tc,k.tl,k.tm,k.tg,k.tf,h.fl,h.fo,h.bl,h.bo,h.st⟩
theorem zan{t:ig}(h:Uk t)(hx:jJ x):Uk (iV t x):=by
 unfold iV
 split
 ·exact h
 ·rename_i hp
  split
  ·rename_i hk
   split
   ·rename_i hf
    obtain⟨f0,f1,hd⟩:=hx.pg hk
    obtain⟨f,e⟩:∃f:Nat,x.Frame=f:=⟨x.Frame.toNat,by omega⟩
    have hm:fg 8 (rY t.A0.Mem x.Frame x.F1).1:=by rw[e];exact Zoc h.tm (by omega) hd
    refine⟨h.tc,List.length_set.trans h.tl,hm,λhq=>?_,h.tf⟩
    have hq:(if t.A3=0 then(1:Int)else t.A3)=2\/(if t.A3=0 then(1:Int)else t.A3)=3:=hq
    refine Zp0 (h.tg ?_) hm
    by_cases h0:t.A3=0
    ·rw[if_pos h0]at hq;omega
    ·rw[if_neg h0]at hq;exact hq
   ·exact h
  ·split
   ·rename_i hk
    split
    ·exact h
    ·exact⟨h.tc,h.tl,h.tm,λ_=>hx.stt hk _ h.tm,hx.rl⟩
   ·split
    ·exact⟨h.tc,h.tl,h.tm,λhq=>by have hq:(4:Int)=2\/(4:Int)=3:=hq;omega,h.tf⟩
    ·exact h
theorem G3(h:mN l i):o9 l i∈l:=by
 obtain⟨h0,h1⟩:=h
 have hl:i.toNat<l.length:=by omega
 have e:o9 l i=l[i.toNat]:=by simp[o9,aV,hl]
 rw[e];exact eT hl
theorem O2(h:x∈ly l i):x∈l:=by
 rcases List.mem_append.1 h with h|h
 ·exact List.mem_of_mem_take h
 ·exact List.mem_of_mem_drop h
theorem qo(h:mN l i):(ly l i).length+1=l.length:=by
 obtain⟨h0,h1⟩:=h
 unfold ly
 rw[lA,aD,List.length_drop];omega
theorem xo(h:mN l i)(hx:x∈l):x∈ly l i\/x=o9 l i:=by
 obtain⟨h0,h1⟩:=h
 have hl:i.toNat<l.length:=by omega
 have e:l=l.take i.toNat++l.drop i.toNat:=(List.take_append_drop ..).symm
 have e2:l.drop i.toNat=l[i.toNat]::l.drop (i.toNat+1):=aO hl
 have e3:o9 l i=l[i.toNat]:=by simp[o9,aV,hl]
 rw[e,e2]at hx
 rcases List.mem_append.1 hx with h|h
 ·exact .inl (eS _ h)
 ·rcases List.mem_cons.1 h with h|h
  ·exact .inr (h.trans e3.symm)
  ·exact .inl (eX _ h)
theorem gp.Fh(h:gp g)(hl:l.length<=64)(ho:∀x∈l,jJ x):gp {g with C1:=l}:=
 ⟨h.src,h.dl,h.r0,h.r1,h.r2,h.s0,h.s1,h.rl,h.sf,h.tc,h.tl,h.tm,h.tg,h.tf,h.fl,h.fo,hl,ho,h.st⟩
theorem gp.F4(h:gp g)(b:Bool):(lX g b).length<=64/\∀x∈lX g b,jJ x:=by
 cases b
 ·exact⟨h.fl,h.fo⟩
 ·exact⟨h.bl,h.bo⟩
theorem gp.set(h:gp g)(b:Bool)(hl:l.length<=64)(ho:∀x∈l,jJ x):gp (nU g b l):=by
 cases b
 ·exact h.Jb hl ho
 ·exact h.Fh hl ho
theorem Yo(h:gp g)(b:Bool)(i:Int):gp (pb g b i):=by
 unfold pb;split
 ·rename_i hi
  have:=qo hi
  have:=(h.F4 b).1
  exact h.set b (by omega) λx hx=>(h.F4 b).2 x (O2 hx)
 ·exact h
theorem zo(h:gp g)(b:Bool)(i:Int):gp (sM g b i):=by
 unfold sM;split
 ·rename_i hi
  exact h.set b (L9 (h.F4 b).1) (sN (h.F4 b).2 ((h.F4 b).2 _ (G3 hi)))
 ·exact h
theorem gp.phase(h:gp g){p:Int}(hp:p=1->g.A1.B0.C0<=10):gp {g with A1:={g.A1 with A3:=p}}:=
 ⟨h.src,h.dl,h.r0,h.r1,hp,h.s0,h.s1,h.rl,h.sf,h.tc,h.tl,h.tm,h.tg,h.tf,h.fl,h.fo,h.bl,h.bo,h.st⟩
theorem xan(h:gp g)(b:Bool)(hx:jJ x):gp (Ff g b x):=by
 cases b
 ·exact h.Jd (zan h.t hx)
 ·show gp (if g.A1.A3=2/\x.C2=3 then _ else g)
  split
  ·exact h.phase (λe=>absurd e (by decide))
  ·exact h
theorem Zcs(h:gp g)(b:Bool)(i:Int):gp (lL g b i):=by
 unfold lL;split
 ·rename_i hi
  exact xan (Yo h b i) b ((h.F4 b).2 _ (G3 hi))
 ·exact h
theorem zO(h:gp g)(b:Bool):gp (Ma g b):=by
 cases b
 ·exact h.phase (λe=>absurd e (by decide))
 ·exact h.Jd ⟨h.tc,h.tl,h.tm,λhq=>by have hq:(4:Int)=2\/(4:Int)=3:=hq;omega,h.tf⟩
def AB(g:du):Prop:=∀f:Nat,f<8->
 g.A2.A4.getD f 0<=g.A1.A4.getD f 0/\
 g.A1.A4.getD f 0<=g.A1.B0.C0/\
 (g.A1.B0.B1.getD f false=false->0<g.A1.A4.getD f 0/\(g.A2.A4.getD f 0=g.A1.A4.getD f 0->(jD g.A1.A0.Mem f).1=(jD g.A2.A0.Mem f).1))/\
 ∀x∈g.A9,x.C2=1->x.Frame=f->x.C0<=g.A1.A4.getD f 0/\(g.A1.B0.B1.getD f false=false->x.C0=g.A1.A4.getD f 0->x.F1=(jD g.A1.A0.Mem f).1)
structure Cz(nc:Bool)(m:bd)(g:du):Prop where
 sp:g.A1.A3=1
 gn:g.A6.D5=1/\g.A1.D5=1/\g.A2.D5=1
 mc:g.A1.A0=m
 tp:g.A2.A3=0\/g.A2.A3=1\/(g.A2.A3=4/\nc=false)
 ks:∀x∈g.A9,x.C2=1
 bk:g.C1=[]
 tr:AB g
structure G4(nc:Bool)(m:bd)(g:du):Prop where
 sp:g.A1.A3=3\/(g.A1.A3=4/\nc=false)
 gn:g.A6.D5=1/\g.A1.D5=1/\g.A2.D5=1
 mc:g.A1.A3=3->g.A1.A0=m
 tp:g.A2.A3=0\/g.A2.A3=1\/g.A2.A3=4
 ks:∀x∈g.A9,x.C2=1\/x.C2=4
 bk:g.C1=[]
structure mP(nc:Bool)(m:bd)(g:du):Prop where
 sp:g.A1.A3=2\/(g.A1.A3=4/\nc=false)
 gn:g.A6.D5=1/\g.A1.D5=1/\g.A2.D5=1
 mc:g.A1.A0=m
 cl:∀f,g.A1.B0.B1.getD f false=false
 tp:g.A2.A3=0\/g.A2.A3=1\/g.A2.A3=2\/(g.A2.A3=4/\nc=false)
 ks:∀x∈g.A9,x.C2=1\/(x.C2=2/\x.A0={m with Mem:=[]}/\x.A4=g.A1.A4)
 ts:g.A2.A3=2->g.A2.B9=g.A1.A4/\{g.A2.A0 with Mem:=[]}={m with Mem:=[]}
 bk:g.C1=[]
 tr:AB g
structure CA(nc:Bool)(m:bd)(g:du):Prop where
 sp:g.A1.A3=3\/(g.A1.A3=4/\nc=false)
 gn:g.A6.D5=2/\g.A6.D7=0/\g.A2.D5=1
 mc:g.A1.A3=3->g.A1.A0=m
 tp:g.A2.A3≠3
 bk:g.C1=[]
structure Je(nc:Bool)(m:bd)(g:du):Prop where
 sp:g.A1.A3=2\/g.A1.A3=4
 gn:g.A6.D5=2/\g.A6.D7=1/\g.A1.D5=1
 tp:g.A2.A3=3\/(g.A2.A3=4/\nc=false)
 mc:g.A2.A3=3->g.A2.A0=m
def Bl(nc:Bool)(m:bd)(g:du):Prop:=Cz nc m g\/G4 nc m g\/mP nc m g\/CA nc m g\/Je nc m g
def Inv(nc:Bool)(m:bd)(g:du):Prop:=gp g/\Bl nc m g
theorem Zst(f:Nat):(cO 8 false).getD f false=false:=by
 simp only[cX,eY]
 split<;>rfl
theorem Zo0(h:gp g)(t:AB g):AB (mO g):=by
 intro f hf
 obtain⟨t1,t2,t3,t4⟩:=t f hf
 have hg:(r3 g.A1.A4 (ir g.A1.B0.B1 0) (g.A1.B0.C0+1)).getD f 0=if g.A1.B0.B1.getD f false=true then g.A1.B0.C0+1 else g.A1.A4.getD f 0:=by
  rw[Zc5 z6 (by rw[h.rl];exact hf)]
  simp only[Ui]
 show g.A2.A4.getD f 0<=(r3 _ _ _).getD f 0/\(r3 _ _ _).getD f 0<=g.A1.B0.C0+1/\((cO 8 false).getD f false=false->0<(r3 _ _ _).getD f 0/\(g.A2.A4.getD f 0=(r3 _ _ _).getD f 0->_))/\∀x∈o8 _ _,x.C2=1->x.Frame=f->x.C0<=(r3 _ _ _).getD f 0/\((cO 8 false).getD f false=false->x.C0=(r3 _ _ _).getD f 0->_)
 have r0:=h.r0
 rw[hg]
 cases hd:g.A1.B0.B1.getD f false
 ·rw[if_neg (by decide)]
  refine⟨t1,by omega,λ_=>t3 hd,λx hx k1 k2=>?_⟩
  rcases O1 hx with hx|hx
  ·exact⟨(t4 x hx k1 k2).1,λ_=>(t4 x hx k1 k2).2 hd⟩
  ·obtain⟨f',Ul,pH,rfl⟩:=Uj h.dl hx
   have e:(f':Int)=f:=k2
   have e:f'=f:=by omega
   rw[e,hd]at pH;cases pH
 ·rw[if_pos rfl]
  refine⟨by omega,by omega,λ_=>⟨by omega,λe=>by omega⟩,λx hx k1 k2=>?_⟩
  rcases O1 hx with hx|hx
  ·have:=(t4 x hx k1 k2).1
   exact⟨by omega,λ_ e=>by omega⟩
  ·obtain⟨f',Ul,pH,rfl⟩:=Uj h.dl hx
   have e:(f':Int)=f:=k2
   have e:f'=f:=by omega
   subst e
   exact⟨eN _,λ_ _=>rfl⟩
theorem AB.rh(t:AB g)(hl:∀x∈l,x.C2=1->x∈g.A9\/∃f:Nat,f<8/\x=rH (g.A1.A4.getD f 0) f (jD g.A1.A0.Mem f).1):AB {g with A9:=l}:=by
 intro f hf
 obtain⟨t1,t2,t3,t4⟩:=t f hf
 refine⟨t1,t2,t3,λx hx k1 k2=>?_⟩
 rcases hl x hx k1 with hx|⟨f',Ul,rfl⟩
 ·exact t4 x hx k1 k2
 ·have e:(f':Int)=f:=k2
  have e:f'=f:=by omega
  subst e
  exact⟨eN _,λ_ _=>rfl⟩
theorem yo{t:ig}(hk:x.C2=1):iV t x=t\/((t.A3=0\/t.A3=1\/t.A3=2)/\0<=x.Frame/\x.Frame<t.A4.length/\t.A4.getD x.Frame.toNat 0<x.C0/\iV t x={t with A3:=if t.A3=0 then 1 else t.A3,A0:={t.A0 with Mem:=(rY t.A0.Mem x.Frame x.F1).1},A4:=t.A4.set x.Frame.toNat x.C0}):=by
 by_cases hp:t.A3=0\/t.A3=1\/t.A3=2
 ·by_cases hc:0<=x.Frame/\x.Frame<t.A4.length/\t.A4.getD x.Frame.toNat 0<x.C0
  ·exact .inr ⟨hp,hc.1,hc.2.1,hc.2.2,by unfold iV;rw[if_neg (λh=>h hp),if_pos hk,if_pos hc]⟩
  ·exact .inl (by unfold iV;rw[if_neg (λh=>h hp),if_pos hk,if_neg hc])
 ·exact .inl (by unfold iV;rw[if_pos hp])
theorem Zb2(h:gp g)(t:AB g)(hx:jJ x)(hk:x.C2=1)(hm:∀f:Nat,f<8->x.Frame=f->x.C0<=g.A1.A4.getD f 0/\(g.A1.B0.B1.getD f false=false->x.C0=g.A1.A4.getD f 0->x.F1=(jD g.A1.A0.Mem f).1)):AB {g with A2:=iV g.A2 x}:=by
 obtain⟨f0,f1,hd⟩:=hx.pg hk
 obtain⟨k,ek⟩:∃f:Nat,x.Frame=f:=⟨x.Frame.toNat,by omega⟩
 have k8:k<8:=by omega
 intro f hf
 obtain⟨t1,t2,t3,t4⟩:=t f hf
 rcases yo (t:=g.A2) hk with e|⟨_,_,_,_,e⟩
 ·rw[e];exact⟨t1,t2,t3,t4⟩
 ·rw[e]
  obtain⟨m1,m2⟩:=hm k k8 ek
  have tl:=h.tl
  have sg:(g.A2.A4.set k x.C0).getD f 0=if k=f then x.C0 else g.A2.A4.getD f 0:=Gg (by omega)
  show(g.A2.A4.set x.Frame.toNat x.C0).getD f 0<=_/\_/\(_->_/\((g.A2.A4.set x.Frame.toNat x.C0).getD f 0=_->_=(jD (rY g.A2.A0.Mem x.Frame x.F1).1 f).1))/\_
  rw[ek,dX,sg]
  by_cases e:k=f
  ·subst e
   rw[if_pos rfl]
   exact⟨m1,t2,λd=>⟨(t3 d).1,λe2=>by rw[Zo8 h.tm k8 hd];exact(m2 d e2).symm⟩,t4⟩
  ·rw[if_neg e]
   exact⟨t1,t2,λd=>⟨(t3 d).1,λe2=>by rw[Zmj h.tm k8 hf (λe3=>e e3.symm) hd];exact(t3 d).2 e2⟩,t4⟩
theorem Mb{t:ig}(hk:x.C2=1):(t.A3=0/\(iV t x).A3=1)\/(iV t x).A3=t.A3:=by
 rcases yo (t:=t) hk with e|⟨_,_,_,_,e⟩
 ·rw[e];exact .inr rfl
 ·rw[e]
  by_cases h:t.A3=0
  ·exact .inl ⟨h,by show(if t.A3=0 then(1:Int)else t.A3)=1;rw[if_pos h]⟩
  ·exact .inr (by show(if t.A3=0 then(1:Int)else t.A3)=_;rw[if_neg h])
theorem Zk8{t:ig}(hk:x.C2=1):(iV t x).D5=t.D5/\(iV t x).B9=t.B9/\{(iV t x).A0 with Mem:=[]}={t.A0 with Mem:=[]}:=by
 rcases yo (t:=t) hk with e|⟨_,_,_,_,e⟩<;>rw[e]<;>exact⟨rfl,rfl,rfl⟩
theorem Zpi{t:ig}:(iV t x).D5=t.D5:=by
 unfold iV
 repeat' split
 all_goals rfl
theorem vo{t:ig}(h:t.A3=3\/t.A3=4):iV t x=t:=by
 unfold iV
 rw[if_pos (by omega)]
theorem qao{t:ig}(h:t.A3≠3):(iV t x).A3≠3:=by
 by_cases hk:x.C2=1
 ·rcases Mb (t:=t) hk with⟨a,b⟩|b<;>omega
 ·unfold iV
  split
  ·exact h
  split
  ·split
   ·exact h
   ·show(2:Int)≠3;decide
  ·split
   ·show(4:Int)≠3;decide
   ·exact h
theorem qp{t:ig}(hk:x.C2=2)(hp:t.A3=0\/t.A3=1):iV t x={t with A3:=2,A0:={x.A0 with Mem:=t.A0.Mem},B9:=x.A4}:=by
 unfold iV
 rw[if_neg (by omega),if_neg (by omega),if_pos hk,if_neg (by omega)]
theorem xp{t:ig}(hk:x.C2=2)(hp:t.A3=2):iV t x=t:=by
 unfold iV
 rw[if_neg (by omega),if_neg (by omega),if_pos hk,if_pos hp]
theorem zaF{t:ig}(hk:x.C2=4):(iV t x).A3=4\/iV t x=t:=by
 by_cases hp:t.A3=0\/t.A3=1\/t.A3=2
 ·exact .inl (by unfold iV;rw[if_neg (λh=>h hp),if_neg (by omega),if_neg (by omega),if_pos hk])
 ·exact .inr (by unfold iV;rw[if_pos hp])
def uJ(m:bd)(g:du)(a:jY):bd:=if a.C2=1/\0<=j6 g then mh m a.F2 (runN a.N)else m
theorem Jf(h:g.A1.A3=1\/g.A1.A3=3):j6 g=0:=if_pos h
theorem Um(h:g.A1.A3=2\/g.A1.A3=4)(t:g.A2.A3=3):j6 g=1:=by
 unfold j6;rw[if_neg (by omega),if_pos t]
theorem Mc(h:g.A1.A3=2\/g.A1.A3=4)(t:g.A2.A3≠3):j6 g= -1:=by
 unfold j6;rw[if_neg (by omega),if_neg t]
section
variable {nc:Bool} {m:bd} {g:du}
theorem Inv.ok(h:Inv nc m g):gp g:=h.1
theorem zao(h:Inv nc m g)(hc:U clock)(n:Int):Inv nc (if 0<=j6 g then mh m clock (runN n)else m) (jt g n clock):=by
 obtain⟨ok,c⟩:=h
 refine⟨qan ok hc n,?_⟩
 rcases c with c|c|c|c|c
 ·have hr:j6 g=0:=Jf (.inl c.sp)
  have e:jt g n clock={g with A1:={g.A1 with A0:=mh g.A1.A0 clock (runN n),B0:=r5 g.A1 (mh g.A1.A0 clock (runN n))}}:=if_pos (.inl c.sp)
  rw[hr,if_pos (by decide),e]
  have sg:=Jc ok.src hc (runN n)
  have en:r5 g.A1 (mh g.A1.A0 clock (runN n))={g.A1.B0 with B1:=rG g.A1.B0.B1 (Eb g.A1.A0.Mem (mh g.A1.A0 clock (runN n)).Mem)}:=if_pos c.sp
  refine .inl ⟨c.sp,c.gn,by rw[<-c.mc],c.tp,c.ks,c.bk,λf hf=>?_⟩
  obtain⟨t1,t2,t3,t4⟩:=c.tr f hf
  rw[en]
  show _/\_/\((rG g.A1.B0.B1 _).getD f false=false->_/\(_->(jD (mh g.A1.A0 clock (runN n)).Mem f).1=_))/\∀x∈g.A9,_->_->_/\((rG g.A1.B0.B1 _).getD f false=false->_->_=(jD (mh g.A1.A0 clock (runN n)).Mem f).1)
  have dl:=ok.dl
  have no:(rG g.A1.B0.B1 (Eb g.A1.A0.Mem (mh g.A1.A0 clock (runN n)).Mem)).getD f false=false->g.A1.B0.B1.getD f false=false/\(jD g.A1.A0.Mem f).1=(jD (mh g.A1.A0 clock (runN n)).Mem f).1:=λhd=>by
   constructor
   ·cases h:g.A1.B0.B1.getD f false with
    |false=>rfl
    |true=>rw[Ud (by omega) (.inl h)]at hd;cases hd
   ·refine vN ok.rI sg.nD hf λh=>?_
    rw[Ud (by omega) (.inr h)]at hd;cases hd
  refine⟨t1,t2,λd=>?_,λx hx k1 k2=>⟨(t4 x hx k1 k2).1,λd e=>?_⟩⟩
  ·obtain⟨d1,d2⟩:=no d
   exact⟨(t3 d1).1,λe=>by rw[<-d2];exact(t3 d1).2 e⟩
  ·obtain⟨d1,d2⟩:=no d
   rw[<-d2];exact(t4 x hx k1 k2).2 d1 e
 ·rcases c.sp with sp|⟨sp,np⟩
  ·have hr:j6 g=0:=Jf (.inr sp)
   have e:jt g n clock={g with A1:={g.A1 with A0:=mh g.A1.A0 clock (runN n),B0:=r5 g.A1 (mh g.A1.A0 clock (runN n))}}:=if_pos (.inr sp)
   rw[hr,if_pos (by decide),e]
   exact .inr (.inl ⟨.inl sp,c.gn,λ_=>by rw[<-c.mc sp],c.tp,c.ks,c.bk⟩)
  ·have hr:j6 g= -1:=Mc (.inr sp) (by have:=c.tp;omega)
   have e:jt g n clock=g:=by unfold jt;rw[if_neg (by omega),if_neg (by have:=c.tp;omega)]
   rw[hr,if_neg (by decide),e]
   exact .inr (.inl c)
 ·have tp:=c.tp
  have sp:g.A1.A3=2\/g.A1.A3=4:=by have:=c.sp;omega
  have hr:j6 g= -1:=Mc sp (by omega)
  have e:jt g n clock=g:=by unfold jt;rw[if_neg (by omega),if_neg (by omega)]
  rw[hr,if_neg (by decide),e]
  exact .inr (.inr (.inl c))
 ·rcases c.sp with sp|⟨sp,np⟩
  ·have hr:j6 g=0:=Jf (.inr sp)
   have e:jt g n clock={g with A1:={g.A1 with A0:=mh g.A1.A0 clock (runN n),B0:=r5 g.A1 (mh g.A1.A0 clock (runN n))}}:=if_pos (.inr sp)
   rw[hr,if_pos (by decide),e]
   exact .inr (.inr (.inr (.inl ⟨.inl sp,c.gn,λ_=>by rw[<-c.mc sp],c.tp,c.bk⟩)))
  ·have hr:j6 g= -1:=Mc (.inr sp) c.tp
   have e:jt g n clock=g:=by unfold jt;rw[if_neg (by omega),if_neg c.tp]
   rw[hr,if_neg (by decide),e]
   exact .inr (.inr (.inr (.inl c)))
 ·rcases c.tp with tp|⟨tp,np⟩
  ·have hr:j6 g=1:=Um c.sp tp
   have sp:=c.sp
   have e:jt g n clock={g with A2:={g.A2 with A0:=mh g.A2.A0 clock (runN n)}}:=by unfold jt;rw[if_neg (by omega),if_pos tp]
   rw[hr,if_pos (by decide),e]
   exact .inr (.inr (.inr (.inr ⟨c.sp,c.gn,.inl tp,λ_=>by rw[<-c.mc tp]⟩)))
  ·have sp:=c.sp
   have hr:j6 g= -1:=Mc sp (by omega)
   have e:jt g n clock=g:=by unfold jt;rw[if_neg (by omega),if_neg (by omega)]
   rw[hr,if_neg (by decide),e]
   exact .inr (.inr (.inr (.inr c)))
theorem Un(ok:gp g)(c:Cz nc m g):Cz nc m (mO g):=
 ⟨c.sp,c.gn,c.mc,c.tp,λx hx=>by
  rcases O1 hx with hx|hx
  ·exact c.ks x hx
  ·obtain⟨f,_,_,rfl⟩:=Uj ok.dl hx;rfl,c.bk,Zo0 ok c.tr⟩
theorem Zjz(h:Inv nc m g):Inv nc m (if g.A1.A3=1/\g.A1.B0.C0<10 then Fe g else g):=by
 split
 ·rename_i hp
  obtain⟨ok,c⟩:=h
  rw[Ja ok (by omega)]
  refine⟨Zpq ok (by omega) (λ_=>by omega),?_⟩
  rcases c with c|c|c|c|c
  ·exact .inl (Un ok c)
  ·have:=c.sp;omega
  ·have:=c.sp;omega
  ·have:=c.sp;omega
  ·have:=c.sp;omega
 ·exact h
theorem Yp(ok:gp g)(c:Cz nc m g):mP nc m (Fg g):=by
 have r:=Un ok c
 refine⟨.inl rfl,r.gn,r.mc,λf=>Zst f,?_,λx hx=>?_,λh=>?_,r.bk,?_⟩
 ·have:=r.tp
  rcases this with p|p|p
  ·exact .inl p
  ·exact .inr (.inl p)
  ·exact .inr (.inr (.inr p))
 ·rcases L8 hx with hx|hx
  ·exact .inl (r.ks x hx)
  ·rw[hx];exact .inr ⟨rfl,by rw[<-r.mc];rfl,rfl⟩
 ·have h:(mO g).A2.A3=2:=h
  have:=r.tp
  omega
 ·refine AB.rh (g:={mO g with A1:={(mO g).A1 with A3:=2}}) r.tr (l:=ie (mO g).A9 (pF (mO g).A1)) λx hx k1=>?_
  rcases L8 hx with hx|hx
  ·exact .inl hx
  ·rw[hx]at k1;exact absurd (show(2:Int)=1 from k1) (by decide)
theorem yO(h:Inv nc m g)(fx:Int):Inv nc m (r4 g fx):=by
 unfold r4
 split
 ·rename_i hp
  obtain⟨ok,c⟩:=h
  rw[Ja ok (ok.r2 hp.1)]
  refine⟨xn ok hp.1,?_⟩
  rcases c with c|c|c|c|c
  ·exact .inr (.inr (.inl (Yp ok c)))
  ·have:=c.sp;omega
  ·have:=c.sp;omega
  ·have:=c.sp;omega
  ·have:=c.sp;omega
 ·exact h
theorem mP.rh(c:mP nc m g)(hk:∀x∈l,x∈g.A9\/(∃f:Nat,f<8/\x=rH (g.A1.A4.getD f 0) f (jD g.A1.A0.Mem f).1)\/x=pF g.A1):mP nc m {g with A9:=l}:=by
 refine⟨c.sp,c.gn,c.mc,c.cl,c.tp,λx hx=>?_,c.ts,c.bk,c.tr.rh λx hx k1=>?_⟩
 ·rcases hk x hx with h|⟨f,hf,rfl⟩|rfl
  ·exact c.ks x h
  ·exact .inl rfl
  ·exact .inr ⟨rfl,by rw[<-c.mc];rfl,rfl⟩
 ·rcases hk x hx with h|h|rfl
  ·exact .inl h
  ·exact .inr h
  ·exact absurd (show(2:Int)=1 from k1) (by decide)
theorem Uo(c:mP nc m g):mP nc m (AA g):=
 mP.rh c (l:=o8 g.A9 (oC g.A1++[pF g.A1])) λx hx=>by
  rcases O1 hx with hx|hx
  ·exact .inl hx
  ·exact .inr (Z6f hx)
theorem Qz(h:Inv nc m g):Inv nc m (Az g):=by
 unfold Az
 split
 ·rename_i hp
  obtain⟨ok,c⟩:=h
  refine⟨yn ok,?_⟩
  rcases c with c|c|c|c|c
  ·have:=c.sp;omega
  ·have:=c.sp;omega
  ·exact .inr (.inr (.inl (Uo c)))
  ·have:=c.sp;omega
  ·exact .inr (.inr (.inr (.inr ⟨c.sp,c.gn,c.tp,c.mc⟩)))
 ·exact h
theorem Up(c:Bl nc m g)(b:Bool)(hl:∀x∈l,x∈lX g b):Bl nc m (nU g b l):=by
 cases b
 ·have hl:∀x∈l,x∈g.A9:=hl
  show Bl nc m {g with A9:=l}
  rcases c with c|c|c|c|c
  ·exact .inl ⟨c.sp,c.gn,c.mc,c.tp,λx hx=>c.ks x (hl x hx),c.bk,c.tr.rh λx hx _=>.inl (hl x hx)⟩
  ·exact .inr (.inl ⟨c.sp,c.gn,c.mc,c.tp,λx hx=>c.ks x (hl x hx),c.bk⟩)
  ·exact .inr (.inr (.inl ⟨c.sp,c.gn,c.mc,c.cl,c.tp,λx hx=>c.ks x (hl x hx),c.ts,c.bk,c.tr.rh λx hx _=>.inl (hl x hx)⟩))
  ·exact .inr (.inr (.inr (.inl ⟨c.sp,c.gn,c.mc,c.tp,c.bk⟩)))
  ·exact .inr (.inr (.inr (.inr ⟨c.sp,c.gn,c.tp,c.mc⟩)))
 ·have hl:∀x∈l,x∈g.C1:=hl
  have hb:g.C1=[]->l=[]:=λe=>by
   cases l with
   |nil=>rfl
   |cons y l=>have:=hl y (eU ..);rw[e]at this;cases this
  show Bl nc m {g with C1:=l}
  rcases c with c|c|c|c|c
  ·exact .inl ⟨c.sp,c.gn,c.mc,c.tp,c.ks,hb c.bk,c.tr⟩
  ·exact .inr (.inl ⟨c.sp,c.gn,c.mc,c.tp,c.ks,hb c.bk⟩)
  ·exact .inr (.inr (.inl ⟨c.sp,c.gn,c.mc,c.cl,c.tp,c.ks,c.ts,hb c.bk,c.tr⟩))
  ·exact .inr (.inr (.inr (.inl ⟨c.sp,c.gn,c.mc,c.tp,hb c.bk⟩)))
  ·exact .inr (.inr (.inr (.inr ⟨c.sp,c.gn,c.tp,c.mc⟩)))
theorem vO(h:Inv nc m g)(b:Bool)(i:Int):Inv nc m (pb g b i):=by
 refine⟨Yo h.1 b i,?_⟩
 unfold pb;split
 ·exact Up h.2 b λx hx=>O2 hx
 ·exact h.2
theorem Zt4(h:Inv nc m g)(b:Bool)(i:Int):Inv nc m (sM g b i):=by
 refine⟨zo h.1 b i,?_⟩
 unfold sM;split
 ·rename_i hi
  refine Up h.2 b λx hx=>?_
  rcases L8 hx with hx|hx
  ·exact hx
  ·rw[hx];exact G3 hi
 ·exact h.2
theorem zp(h:Inv nc m g)(b:Bool)(hn:nc=false):Inv nc m (Ma g b):=by
 obtain⟨ok,c⟩:=h
 refine⟨zO ok b,?_⟩
 cases b
 ·show Bl nc m {g with A1:={g.A1 with A3:=4}}
  have n3:({g.A1 with A3:=4}:ig).A3=3->False:=λe=>absurd (show(4:Int)=3 from e) (by decide)
  rcases c with c|c|c|c|c
  ·exact .inr (.inl ⟨.inr ⟨rfl,hn⟩,c.gn,λe=>(n3 e).elim,by have:=c.tp;show g.A2.A3=0\/g.A2.A3=1\/g.A2.A3=4;omega,λx hx=>.inl (c.ks x hx),c.bk⟩)
  ·exact .inr (.inl ⟨.inr ⟨rfl,hn⟩,c.gn,λe=>(n3 e).elim,c.tp,c.ks,c.bk⟩)
  ·exact .inr (.inr (.inl ⟨.inr ⟨rfl,hn⟩,c.gn,c.mc,c.cl,c.tp,c.ks,c.ts,c.bk,c.tr⟩))
  ·exact .inr (.inr (.inr (.inl ⟨.inr ⟨rfl,hn⟩,c.gn,λe=>(n3 e).elim,c.tp,c.bk⟩)))
  ·exact .inr (.inr (.inr (.inr ⟨.inr rfl,c.gn,c.tp,c.mc⟩)))
 ·show Bl nc m {g with A2:={g.A2 with A3:=4}}
  have n2:({g.A2 with A3:=4}:ig).A3=2->False:=λe=>absurd (show(4:Int)=2 from e) (by decide)
  have n3:({g.A2 with A3:=4}:ig).A3=3->False:=λe=>absurd (show(4:Int)=3 from e) (by decide)
  rcases c with c|c|c|c|c
  ·exact .inl ⟨c.sp,c.gn,c.mc,.inr (.inr ⟨rfl,hn⟩),c.ks,c.bk,c.tr⟩
  ·exact .inr (.inl ⟨c.sp,c.gn,c.mc,.inr (.inr rfl),c.ks,c.bk⟩)
  ·exact .inr (.inr (.inl ⟨c.sp,c.gn,c.mc,c.cl,.inr (.inr (.inr ⟨rfl,hn⟩)),c.ks,λe=>(n2 e).elim,c.bk,c.tr⟩))
  ·exact .inr (.inr (.inr (.inl ⟨c.sp,c.gn,c.mc,λe=>n3 e,c.bk⟩)))
  ·exact .inr (.inr (.inr (.inr ⟨c.sp,c.gn,.inr ⟨rfl,hn⟩,λe=>(n3 e).elim⟩)))
theorem Zr4(ok:gp g)(c:Bl nc m g)(ox:jJ x)(hx:x∈g.A9):Bl nc m {g with A2:=iV g.A2 x}:=by
 rcases c with c|c|c|c|c
 ·have k:x.C2=1:=c.ks x hx
  have q:=Zk8 (t:=g.A2) (x:=x) k
  refine .inl ⟨c.sp,⟨c.gn.1,c.gn.2.1,q.1.trans c.gn.2.2⟩,c.mc,?_,c.ks,c.bk,?_⟩
  ·show(iV g.A2 x).A3=0\/(iV g.A2 x).A3=1\/((iV g.A2 x).A3=4/\nc=false)
   rcases Mb (t:=g.A2) k with⟨a,b⟩|b
   ·exact .inr (.inl b)
   ·rw[b];exact c.tp
  ·exact Zb2 ok c.tr ox k (λf hf ef=>(c.tr f hf).2.2.2 x hx k ef)
 ·have k:x.C2=1\/x.C2=4:=c.ks x hx
  refine .inr (.inl ⟨c.sp,⟨c.gn.1,c.gn.2.1,Zpi.trans c.gn.2.2⟩,c.mc,?_,c.ks,c.bk⟩)
  have:=c.tp
  show(iV g.A2 x).A3=0\/(iV g.A2 x).A3=1\/(iV g.A2 x).A3=4
  rcases k with k|k
  ·rcases Mb (t:=g.A2) k with⟨a,b⟩|b<;>omega
  ·rcases zaF (t:=g.A2) k with b|b
   ·omega
   ·rw[b];exact this
 ·have k:x.C2=1\/(x.C2=2/\x.A0={m with Mem:=[]}/\x.A4=g.A1.A4):=c.ks x hx
  have tp:=c.tp
  rcases k with k|⟨k,e1,e2⟩
  ·have q:=Zk8 (t:=g.A2) (x:=x) k
   have tr:AB {g with A2:=iV g.A2 x}:=Zb2 ok c.tr ox k (λf hf ef=>(c.tr f hf).2.2.2 x hx k ef)
   refine .inr (.inr (.inl ⟨c.sp,⟨c.gn.1,c.gn.2.1,q.1.trans c.gn.2.2⟩,c.mc,c.cl,?_,c.ks,λh2=>?_,c.bk,tr⟩))
   ·show(iV g.A2 x).A3=0\/(iV g.A2 x).A3=1\/(iV g.A2 x).A3=2\/((iV g.A2 x).A3=4/\nc=false)
    rcases Mb (t:=g.A2) k with⟨a,b⟩|b
    ·exact .inr (.inl b)
    ·rw[b];exact tp
   ·have h2:(iV g.A2 x).A3=2:=h2
    have h3:g.A2.A3=2:=by rcases Mb (t:=g.A2) k with⟨a,b⟩|b<;>omega
    exact⟨q.2.1.trans (c.ts h3).1,q.2.2.trans (c.ts h3).2⟩
  ·rcases tp with tp|tp|tp|⟨tp,np⟩
   ·rw[qp k (.inl tp)]
    exact .inr (.inr (.inl ⟨c.sp,c.gn,c.mc,c.cl,.inr (.inr (.inl rfl)),c.ks,λ_=>⟨e2,by rw[e1]⟩,c.bk,c.tr⟩))
   ·rw[qp k (.inr tp)]
    exact .inr (.inr (.inl ⟨c.sp,c.gn,c.mc,c.cl,.inr (.inr (.inl rfl)),c.ks,λ_=>⟨e2,by rw[e1]⟩,c.bk,c.tr⟩))
   ·rw[xp k tp];exact .inr (.inr (.inl c))
   ·rw[vo (.inr tp)];exact .inr (.inr (.inl c))
 ·exact .inr (.inr (.inr (.inl ⟨c.sp,⟨c.gn.1,c.gn.2.1,Zpi.trans c.gn.2.2⟩,c.mc,qao c.tp,c.bk⟩)))
 ·rw[vo (by have:=c.tp;omega)];exact .inr (.inr (.inr (.inr c)))
end
section
variable {nc:Bool} {m:bd} {g:du}
theorem Yq(h:Inv nc m g)(b:Bool)(i:Int):Inv nc m (lL g b i):=by
 refine⟨Zcs h.1 b i,?_⟩
 obtain⟨ok,c⟩:=h
 unfold lL
 split
 ·rename_i hi
  have hx:=G3 hi
  have ox:=(ok.F4 b).2 _ hx
  have el:pb g b i=nU g b (ly (lX g b) i):=if_pos hi
  rw[el]
  cases b
  ·exact Up (Zr4 ok c ox hx) false λx hx=>(O2 hx:x∈g.A9)
  ·by_cases hc:(nU g true (ly (lX g true) i)).A1.A3=2/\(o9 (lX g true) i).C2=3
   ·have eg:Ff (nU g true (ly (lX g true) i)) true (o9 (lX g true) i)={g with C1:=ly g.C1 i,A1:={g.A1 with A3:=4}}:=if_pos hc
    rw[eg]
    have hb:g.C1≠[]:=λe=>by have hx:_∈g.C1:=hx;rw[e]at hx;cases hx
    rcases c with d|d|d|d|d
    ·exact absurd d.bk hb
    ·exact absurd d.bk hb
    ·exact absurd d.bk hb
    ·exact absurd d.bk hb
    ·exact .inr (.inr (.inr (.inr ⟨.inr rfl,d.gn,d.tp,d.mc⟩)))
   ·have eg:Ff (nU g true (ly (lX g true) i)) true (o9 (lX g true) i)=nU g true (ly (lX g true) i):=if_neg hc
    rw[eg]
    exact Up c true λx hx=>O2 hx
 ·exact c
theorem gp.store(h:gp g){s:iN}(hs:Cv s):gp {g with A6:=s}:=
 ⟨h.src,h.dl,h.r0,h.r1,h.r2,h.s0,h.s1,h.rl,h.sf,h.tc,h.tl,h.tm,h.tg,h.tf,h.fl,h.fo,h.bl,h.bo,hs⟩
theorem yp(ok:gp g)(c:mP nc m g)(hf:Cx g):g.A2.A0=m:=by
 obtain⟨h1,h2⟩:=hf
 obtain⟨f1,f2⟩:=c.ts h1
 have e:g.A2.A0.Mem=m.Mem:=by
  rw[<-c.mc]
  refine(ym ok.rI ok.tm λf hf=>?_).symm
  exact((c.tr f hf).2.2.1 (c.cl f)).2 (by rw[h2,f1])
 have q:∀a:bd,a={({a with Mem:=[]}:bd)with Mem:=a.Mem}:=λa=>rfl
 rw[q g.A2.A0,f2,e]
theorem Zlf{s:iN}(h:Cv s){host seen:Int}(h0:0<=host)(e1:s.D5=1)(e2:seen=1):mz s host seen=({s with D5:=2,D7:=host},true):=by
 rw[Zqe h h0,if_pos (e1.trans e2.symm),e1];rfl
theorem Uq{s:iN}(h:Cv s){host seen:Int}(h0:0<=host)(e:s.D5≠seen):mz s host seen=(s,false):=by
 rw[Zqe h h0,if_neg e]
theorem vp(ok:gp g)(c:mP nc m g)(hf:Cx g):re g={g with A6:={g.A6 with D5:=2,D7:=1},A2:={g.A2 with A3:=3,D5:=2},C1:=ie g.C1 (Cw 3)}:=by
 unfold re
 rw[if_pos hf,Zlf ok.st (by decide) c.gn.1 c.gn.2.2,if_pos rfl]
theorem Yr(ok:gp g)(c:mP nc m g)(hf:Cx g):gp (re g)/\Je nc m (re g)/\(re g).A2.A3=3:=by
 rw[vp ok c hf]
 obtain⟨b1,b2,b3,b4,b5⟩:=ok.st
 have hm:=yp ok c hf
 refine⟨⟨ok.src,ok.dl,ok.r0,ok.r1,ok.r2,ok.s0,ok.s1,ok.rl,ok.sf,ok.tc,ok.tl,ok.tm,λ_=>ok.tg (.inl hf.1),ok.tf,ok.fl,ok.fo,L9 ok.bl,sN ok.bo (Ym (by decide) (by decide)),b1,b2,by show(1:Int)<=2;decide,by show(2:Int)<=2;decide,by show(0:Int)<=1;decide⟩,?_,rfl⟩
 exact⟨by have:=c.sp;show g.A1.A3=2\/g.A1.A3=4;omega,⟨rfl,rfl,c.gn.2.1⟩,.inl rfl,λ_=>hm⟩
theorem Zr2(h:Inv nc m g):Inv nc m (re g):=by
 obtain⟨ok,c⟩:=h
 by_cases hf:Cx g
 ·rcases c with c|c|c|c|c
  ·have:=c.tp;have:=hf.1;omega
  ·have:=c.tp;have:=hf.1;omega
  ·obtain⟨a,b,_⟩:=Yr ok c hf
   exact⟨a,.inr (.inr (.inr (.inr b)))⟩
  ·have e:re g={g with A2:={g.A2 with A3:=4}}:=by
    unfold re
    rw[if_pos hf,Uq ok.st (by decide) (by rw[c.gn.1,c.gn.2.2];decide),if_neg eZ]
   rw[e]
   refine⟨ok.Jd ⟨ok.tc,ok.tl,ok.tm,λhq=>by have hq:(4:Int)=2\/(4:Int)=3:=hq;omega,ok.tf⟩,.inr (.inr (.inr (.inl ⟨c.sp,c.gn,c.mc,by show(4:Int)≠3;decide,c.bk⟩)))⟩
  ·have:=c.tp;have:=hf.1;omega
 ·have e:re g=g:=if_neg hf
  rw[e];exact⟨ok,c⟩
theorem qP(ok:gp g)(c:Cz nc m g):gp (nd g)/\G4 nc m (nd g):=by
 have e:nd g={g with A1:={g.A1 with A3:=3},A9:=ie g.A9 (Cw 4)}:=if_pos c.sp
 rw[e]
 have k:=ok.phase (p:=3) (λe=>absurd e (by decide))
 refine⟨k.Jb (L9 ok.fl) (sN ok.fo (Ym (by decide) (by decide))),.inl rfl,c.gn,λ_=>c.mc,by have:=c.tp;show g.A2.A3=0\/g.A2.A3=1\/g.A2.A3=4;omega,λx hx=>?_,c.bk⟩
 rcases L8 hx with hx|rfl
 ·exact .inl (c.ks x hx)
 ·exact .inr rfl
theorem qq(ok:gp g)(c:mP nc m g)(hp:g.A1.A3=2):nd g={g with A6:={g.A6 with D5:=2,D7:=0},A1:={g.A1 with A3:=3,D5:=2},A9:=ie g.A9 (Cw 4)}:=by
 unfold nd
 rw[if_neg (by omega),if_pos hp,Zlf ok.st (by decide) c.gn.1 c.gn.2.1,if_pos rfl]
theorem Zph(ok:gp g)(c:mP nc m g)(hp:g.A1.A3=2):gp (nd g)/\CA nc m (nd g)/\(nd g).A1.A3=3:=by
 rw[qq ok c hp]
 obtain⟨b1,b2,b3,b4,b5⟩:=ok.st
 refine⟨⟨ok.src,ok.dl,ok.r0,ok.r1,λe=>absurd (show(3:Int)=1 from e) (by decide),ok.s0,ok.s1,ok.rl,ok.sf,ok.tc,ok.tl,ok.tm,ok.tg,ok.tf,L9 ok.fl,sN ok.fo (Ym (by decide) (by decide)),ok.bl,ok.bo,b1,b2,by show(1:Int)<=2;decide,by show(2:Int)<=2;decide,by show(0:Int)<=0;decide⟩,?_,rfl⟩
 exact⟨.inl rfl,⟨rfl,rfl,c.gn.2.2⟩,λ_=>c.mc,by have:=c.tp;show g.A2.A3≠3;omega,c.bk⟩
theorem xP(ok:gp g)(c:Je nc m g):gp (nd g)/\Je nc m (nd g)/\(nd g).A2=g.A2:=by
 have sp:=c.sp
 by_cases hp:g.A1.A3=2
 ·have e:nd g={g with A1:={g.A1 with A3:=4}}:=by
   unfold nd
   rw[if_neg (by omega),if_pos hp,Uq ok.st (by decide) (by rw[c.gn.1,c.gn.2.2];decide),if_neg eZ]
  rw[e]
  exact⟨ok.phase (λe=>absurd e (by decide)),⟨.inr rfl,c.gn,c.tp,c.mc⟩,rfl⟩
 ·have e:nd g=g:=by unfold nd;rw[if_neg (by omega),if_neg hp]
  rw[e];exact⟨ok,c,rfl⟩
theorem Zt(h:Inv nc m g):Inv nc m (nd g):=by
 obtain⟨ok,c⟩:=h
 have no:g.A1.A3≠1->g.A1.A3≠2->nd g=g:=λa b=>by unfold nd;rw[if_neg a,if_neg b]
 rcases c with c|c|c|c|c
 ·obtain⟨a,b⟩:=qP ok c;exact⟨a,.inr (.inl b)⟩
 ·have:=c.sp
  rw[no (by omega) (by omega)];exact⟨ok,.inr (.inl c)⟩
 ·rcases c.sp with p|⟨p,_⟩
  ·obtain⟨a,b,_⟩:=Zph ok c p;exact⟨a,.inr (.inr (.inr (.inl b)))⟩
  ·rw[no (by omega) (by omega)];exact⟨ok,.inr (.inr (.inl c))⟩
 ·have:=c.sp
  rw[no (by omega) (by omega)];exact⟨ok,.inr (.inr (.inr (.inl c)))⟩
 ·obtain⟨a,b,_⟩:=xP ok c;exact⟨a,.inr (.inr (.inr (.inr b)))⟩
theorem y6(h:Inv nc m g){a:jY}(hc:U a.F2)(hn:nc=true->a.C2≠10):Inv nc (uJ m g a) (nf g a).1:=by
 unfold nf uJ
 by_cases k1:a.C2=1
 ·rw[if_pos k1]
  have:=zao h hc a.N
  by_cases hr:0<=j6 g
  ·rw[if_pos ⟨k1,hr⟩];rw[if_pos hr]at this;exact this
  ·rw[if_neg (λh=>hr h.2)];rw[if_neg hr]at this;exact this
 rw[if_neg k1,if_neg (λh=>k1 h.1)]
 by_cases k2:a.C2=2
 ·rw[if_pos k2];exact Zjz h
 rw[if_neg k2]
 by_cases k3:a.C2=3
 ·rw[if_pos k3];exact yO h _
 rw[if_neg k3]
 by_cases k4:a.C2=4
 ·rw[if_pos k4];exact Qz h
 rw[if_neg k4]
 by_cases k5:a.C2=5
 ·rw[if_pos k5];exact Yq h _ _
 rw[if_neg k5]
 by_cases k6:a.C2=6
 ·rw[if_pos k6];exact vO h _ _
 rw[if_neg k6]
 by_cases k7:a.C2=7
 ·rw[if_pos k7];exact Zt4 h _ _
 rw[if_neg k7]
 by_cases k8:a.C2=8
 ·rw[if_pos k8];exact Zr2 h
 rw[if_neg k8]
 by_cases k9:a.C2=9
 ·rw[if_pos k9];exact Zt h
 rw[if_neg k9]
 by_cases Md:a.C2=10
 ·rw[if_pos Md]
  refine zp h _ ?_
  cases nc
  ·rfl
  ·exact absurd Md (hn rfl)
 rw[if_neg Md];exact h
end
def Have(g:du):Prop:=∀f:Nat,f<8->g.A2.A4.getD f 0=g.A1.A4.getD f 0\/∃x∈g.A9,x.C2=1/\x.Frame=f/\x.C0=g.A1.A4.getD f 0
def Bm(g:du):Prop:=g.A2.A3=2\/∃x∈g.A9,x.C2=2
def Le(g:du):Prop:=∀f:Nat,f<8->g.A2.A4.getD f 0<=g.A1.A4.getD f 0/\∀x∈g.A9,x.C2=1->x.Frame=f->x.C0<=g.A1.A4.getD f 0
theorem AB.le(t:AB g):Le g:=λf hf=>⟨(t f hf).1,λx hx k e=>((t f hf).2.2.2 x hx k e).1⟩
theorem Zm3{t:ig}(ht:t.A4.length=8)(hp:t.A3=0\/t.A3=1\/t.A3=2)(ox:jJ x)(hf:f<8):(iV t x).A4.getD f 0=if x.C2=1/\x.Frame=f/\t.A4.getD f 0<x.C0 then x.C0 else t.A4.getD f 0:=by
 by_cases hk:x.C2=1
 ·obtain⟨f0,f1,_⟩:=ox.pg hk
  obtain⟨k,ek⟩:∃k:Nat,x.Frame=k:=⟨x.Frame.toNat,by omega⟩
  by_cases hc:0<=x.Frame/\x.Frame<t.A4.length/\t.A4.getD x.Frame.toNat 0<x.C0
  ·have e:iV t x={t with A3:=if t.A3=0 then 1 else t.A3,A0:={t.A0 with Mem:=(rY t.A0.Mem x.Frame x.F1).1},A4:=t.A4.set x.Frame.toNat x.C0}:=by
    unfold iV;rw[if_neg (λh=>h hp),if_pos hk,if_pos hc]
   rw[e]
   show(t.A4.set x.Frame.toNat x.C0).getD f 0=_
   rw[Gg (by omega)]
   rw[ek,dX]at hc⊢
   by_cases e:k=f
   ·subst e
    rw[if_pos rfl,if_pos ⟨hk,rfl,hc.2.2⟩]
   ·rw[if_neg e,if_neg (λh=>e (by omega))]
  ·have e:iV t x=t:=by unfold iV;rw[if_neg (λh=>h hp),if_pos hk,if_neg hc]
   rw[e,if_neg (λh=>hc ⟨f0,by omega,by rw[h.2.1,dX];exact h.2.2⟩)]
 ·rw[if_neg (λh=>hk h.1)]
  unfold iV
  repeat' split
  all_goals first|rfl|exact absurd (by assumption) hk
structure Jg(g r:du)(x:ft):Prop where
 src:r.A1=g.A1
 sto:r.A6=g.A6
 bak:r.C1=g.C1
 sub:∀y∈r.A9,y∈g.A9
 spl:∀y∈g.A9,y∈r.A9\/y=x
 len:r.A9.length+1=g.A9.length
 mem:x∈g.A9
 tgt:r.A2=iV g.A2 x
theorem Ys(hi:mN g.A9 i):Jg g (lL g false i) (o9 g.A9 i):=by
 have e:lL g false i={g with A9:=ly g.A9 i,A2:=iV g.A2 (o9 g.A9 i)}:=by
  unfold lL pb lX
  simp only[Bool.false_eq_true,if_false,if_pos hi]
  rfl
 rw[e]
 exact⟨rfl,rfl,rfl,λy hy=>O2 hy,λy hy=>xo hi hy,qo hi,G3 hi,rfl⟩
theorem xq(hi:¬mN g.A9 i):lL g false i=g:=if_neg hi
section
variable {g r:du} {x:ft} (d:Jg g r x) (ok:gp g) (hp:g.A2.A3=0\/g.A2.A3=1\/g.A2.A3=2)
include d ok hp
theorem Jg.rounds(hf:f<8):r.A2.A4.getD f 0=if x.C2=1/\x.Frame=f/\g.A2.A4.getD f 0<x.C0 then x.C0 else g.A2.A4.getD f 0:=by
 rw[d.tgt];exact Zm3 ok.tl hp (ok.fo x d.mem) hf
theorem Jg.le(h:Le g):Le r:=λf hf=>by
 rw[d.rounds ok hp hf,d.src]
 obtain⟨h1,h2⟩:=h f hf
 refine⟨?_,λy hy=>h2 y (d.sub y hy)⟩
 split
 ·rename_i hc;exact h2 x d.mem hc.1 hc.2.1
 ·exact h1
theorem Jg.have(l:Le g)(h:Have g):Have r:=λf hf=>by
 rw[d.rounds ok hp hf,d.src]
 obtain⟨l1,l2⟩:=l f hf
 rcases h f hf with h|⟨y,hy,k1,k2,k3⟩
 ·left
  rw[if_neg];exact h
  intro hc;have:=l2 x d.mem hc.1 hc.2.1;omega
 ·rcases d.spl y hy with hy|rfl
  ·exact .inr ⟨y,hy,k1,k2,k3⟩
  ·left
   split
   ·exact k3
   ·rename_i hc
    have:¬g.A2.A4.getD f 0<y.C0:=λh=>hc ⟨k1,k2,h⟩
    omega
omit ok in
theorem Jg.phase(hk:∀y∈g.A9,y.C2=1\/y.C2=2):(r.A2.A3=0\/r.A2.A3=1\/r.A2.A3=2)/\(r.A2.A3=2↔g.A2.A3=2\/x.C2=2):=by
 rw[d.tgt]
 rcases hk x d.mem with k|k
 ·rcases Mb (t:=g.A2) k with⟨a,b⟩|b
  ·rw[b];omega
  ·rw[b];omega
 ·by_cases h2:g.A2.A3=2
  ·rw[xp k h2];omega
  ·rw[qp k (by omega)]
   show((2:Int)=0\/(2:Int)=1\/(2:Int)=2)/\((2:Int)=2↔_)
   omega
omit ok in
theorem Jg.O3(hk:∀y∈g.A9,y.C2=1\/y.C2=2)(h:Bm g):Bm r:=by
 obtain⟨_,p⟩:=d.phase hp hk
 rcases h with h|⟨y,hy,k⟩
 ·exact .inl (p.2 (.inl h))
 ·rcases d.spl y hy with hy|rfl
  ·exact .inr ⟨y,hy,k⟩
  ·exact .inl (p.2 (.inr k))
end
def jT:Nat->du->du
 |0,g=>g
 |n+1,g=>jT n (lL g false 0)
theorem in0(h:l≠[]):mN l 0:=by
 cases l with
 |nil=>exact absurd rfl h
 |cons y l=>exact⟨by decide,by show(0:Int)<((l.length+1:Nat):Int);omega⟩
theorem zq{nc:Bool}{m:bd}:∀(n:Nat) {g:du},Inv nc m g->Inv nc m (jT n g)
 |0,_,h=>h
 |n+1,_,h=>zq n (Yq h false 0)
theorem Yt:∀(n:Nat) (g:du),(jT n g).A1=g.A1/\(jT n g).A6=g.A6/\(jT n g).C1=g.C1
 |0,g=>⟨rfl,rfl,rfl⟩
 |n +1,g=>by
  obtain⟨a,b,c⟩:=Yt n (lL g false 0)
  by_cases h:mN g.A9 0
  ·have d:=Ys h
   exact⟨a.trans d.src,b.trans d.sto,c.trans d.bak⟩
  ·have e:=xq h
   rw[e]at a b c
   show(jT n (lL g false 0)).A1=_/\(jT n (lL g false 0)).A6=_/\(jT n (lL g false 0)).C1=_
   rw[e]
   exact⟨a,b,c⟩
theorem Yu:∀(n:Nat) (g:du),(jT n g).A9.length<=g.A9.length-n
 |0,g=>Nat.le_refl _
 |n + 1,g=>by
  have:=Yu n (lL g false 0)
  by_cases h:mN g.A9 0
  ·have:=(Ys h).len
   show(jT n (lL g false 0)).A9.length<=_;omega
  ·have e:=xq h
   have h0:g.A9.length=0:=by
    cases hl:g.A9 with
    |nil=>rfl
    |cons y l=>exact absurd (in0 (by rw[hl];simp)) h
   rw[e]at this
   show(jT n (lL g false 0)).A9.length<=_;rw[e];omega
theorem yq(h:g.A9.length<=n):(jT n g).A9=[]:=by
 have:=Yu n g
 exact fA (by omega)
structure Way(g:du):Prop where
 le:Le g
 hv:Have g
 ph:g.A2.A3=0\/g.A2.A3=1\/g.A2.A3=2
 ks:∀x∈g.A9,x.C2=1\/x.C2=2
theorem Way.next(w:Way g)(ok:gp g)(i:Int):Way (lL g false i)/\(Bm g->Bm (lL g false i)):=by
 by_cases h:mN g.A9 i
 ·have d:=Ys h
  exact⟨⟨d.le ok w.ph w.le,d.have ok w.ph w.le w.hv,(d.phase w.ph w.ks).1,λx hx=>w.ks x (d.sub x hx)⟩,d.O3 w.ph w.ks⟩
 ·rw[xq h];exact⟨w,λh=>h⟩
theorem Way.all:∀(n:Nat) {g:du},Way g->gp g->Way (jT n g)/\(Bm g->Bm (jT n g))
 |0,_,w,_=>⟨w,λh=>h⟩
 |n+1,g,w,ok=>by
  obtain⟨a,b⟩:=w.next ok 0
  obtain⟨c,d⟩:=Way.all n a (Zcs ok false 0)
  exact⟨c,λh=>d (b h)⟩
theorem vq(ha:a.length=8)(hb:b.length=8)(h:∀f:Nat,f<8->a.getD f 0=b.getD f 0):a=b:=by
 refine bR (by omega) λi h1 h2=>?_
 have:=h i (by omega)
 simpa[aV,h1,h2]using this
theorem Way.done(w:Way g)(ok:gp g)(he:g.A9=[]):g.A2.A4=g.A1.A4:=
 vq ok.tl ok.rl λf hf=>by
  rcases w.hv f hf with h|⟨x,hx,_⟩
  ·exact h
  ·rw[he]at hx;cases hx
theorem Way.full{m:bd}(w:Way g)(ok:gp g)(c:mP nc m g)(hs:Bm g)(he:g.A9=[]):Cx g:=by
 have hp:g.A2.A3=2:=by
  rcases hs with h|⟨x,hx,_⟩
  ·exact h
  ·rw[he]at hx;cases hx
 exact⟨hp,(w.done ok he).trans (c.ts hp).1.symm⟩
theorem mP.live{m:bd}(c:mP true m g):g.A1.A3=2/\(g.A2.A3=0\/g.A2.A3=1\/g.A2.A3=2):=by
 have h1:=c.sp
 have h2:=c.tp
 simp only[fB,and_false,or_false]at h1 h2
 exact⟨h1,h2⟩
theorem mP.ks2{m:bd}(c:mP nc m g):∀x∈g.A9,x.C2=1\/x.C2=2:=λx hx=>(c.ks x hx).elim .inl (λh=>.inr h.1)
theorem qr(h0:l=[])(h:xs.length<=64):o8 l xs=xs:=by
 subst h0
 exact Zqx (l:=[]) (by rw[dE,Nat.zero_add];exact h)
theorem xaF{m:bd}{L:List ft}(c:mP true m {g with A9:=L})(h1:∀f:Nat,f<8->rH (g.A1.A4.getD f 0) f (jD g.A1.A0.Mem f).1∈L)(h2:pF g.A1∈L):Way {g with A9:=L}/\Bm {g with A9:=L}:=
 ⟨⟨c.tr.le,λf hf=>.inr ⟨_,h1 f hf,rfl,rfl,rfl⟩,c.live.2,c.ks2⟩,.inr ⟨_,h2,rfl⟩⟩
theorem Zrz{m:bd}(c:mP true m g)(hf:g.A9=[]):Way (AA g)/\Bm (AA g)/\(AA g).A9.length=9:=by
 have cb:=Uo c
 have hl:=Zo2 g.A1
 have h1:∀f:Nat,f<8->rH (g.A1.A4.getD f 0) f (jD g.A1.A0.Mem f).1∈oC g.A1++[pF g.A1]:=λf hf=>eS _ (qn _ hf)
 have h2:pF g.A1∈oC g.A1++[pF g.A1]:=eX _ (List.mem_singleton.2 rfl)
 unfold AA at cb⊢
 generalize oC g.A1++[pF g.A1]=L at cb hl h1 h2⊢
 rw[qr hf (by omega)]at cb⊢
 obtain⟨a,b⟩:=xaF cb h1 h2
 exact⟨a,b,hl⟩
section
variable {nc:Bool} {m:bd} {g:du}
def CB(m:bd)(b:List (List UInt8)):du:=
 ⟨⟨1,m,⟨cO 8 true,0,0⟩,cO 8 0,[],1⟩,⟨0,{zM with Mem:=cO 256 0},⟨[],0,0⟩,cO 8 0,[],1⟩,[],[],⟨b,1,0⟩⟩
theorem qaG(f:Nat):(cO 8 (0:Int)).getD f 0=0:=by
 simp only[cX,eY]
 split<;>rfl
theorem xr(hf:f<8):(cO 8 true).getD f false=true:=by
 simp only[cX,eY,hf,if_true]
 rfl
theorem Zq5(hm:iq 8 m){b:List (List UInt8)}(hb:b.length=4)(hB:∀x∈b,x.length=128):gp (CB m b):=
 ⟨hm,rfl,eN 0,by show(0:Int)<=11;decide,λ_=>by show(0:Int)<=10;decide,eN 0,by show(0:Int)<=8*0;decide,rfl,bC _,bC _,rfl,xN,λh=>by have h:(0:Int)=2\/(0:Int)=3:=h;omega,bC _,bC _,λx hx=>(by cases hx),bC _,λx hx=>(by cases hx),hb,hB,by show(1:Int)<=1;decide,by show(1:Int)<=2;decide,by show(0:Int)<=0;decide⟩
theorem wJ(hm:iq 8 m)(b:List (List UInt8)):Cz nc m (CB m b):=
 ⟨rfl,⟨rfl,rfl,rfl⟩,rfl,.inl rfl,λx hx=>(by cases hx),rfl,λf hf=>by
  show(cO 8 (0:Int)).getD f 0<=(cO 8 (0:Int)).getD f 0/\(cO 8 (0:Int)).getD f 0<=0/\((cO 8 true).getD f false=false->_)/\_
  rw[qaG,xr hf]
  exact⟨eN 0,eN 0,λh=>(by cases h),λx hx=>(by cases hx)⟩⟩
def uK(g:du)(l:List jY):du:=l.foldl (λg a=>(nf g a).1) g
theorem Zhq(g:du)(l k:List jY):uK g (l++k)=uK (uK g l) k:=fC ..
def kW(k n:Int):jY:=⟨k,n,false,0⟩
theorem Zhn:∀(n:Nat) (g:du),uK g (cO n (kW 5 0))=jT n g
 |0,g=>rfl
 |n+1,g=>Zhn n (lL g false 0)
theorem zr(c:Bl nc m g)(hs:g.A6.D5=1)(hp:g.A1.A3=2):mP nc m g:=by
 rcases c with c|c|c|c|c
 ·have:=c.sp;omega
 ·have:=c.sp;omega
 ·exact c
 ·have:=c.gn.1;omega
 ·have:=c.gn.1;omega
theorem zaG(c:Bl nc m g)(hs:g.A6.D5=2)(ho:g.A6.D7=0):CA nc m g:=by
 rcases c with c|c|c|c|c
 ·have:=c.gn.1;omega
 ·have:=c.gn.1;omega
 ·have:=c.gn.1;omega
 ·exact c
 ·have:=c.gn.2.1;omega
theorem xaG(c:Bl nc m g)(hs:g.A6.D5=2)(ho:g.A6.D7=1):Je nc m g:=by
 rcases c with c|c|c|c|c
 ·have:=c.gn.1;omega
 ·have:=c.gn.1;omega
 ·have:=c.gn.1;omega
 ·have:=c.gn.2.1;omega
 ·exact c
theorem seen(h:Inv nc m g)(hr:0<=j6 g):(j6 g=0/\g.A1.A0=m)\/(j6 g=1/\g.A2.A0=m):=by
 by_cases h0:g.A1.A3=1\/g.A1.A3=3
 ·refine .inl ⟨Jf h0,?_⟩
  rcases h.2 with c|c|c|c|c
  ·exact c.mc
  ·have:=c.sp;exact c.mc (by omega)
  ·have:=c.sp;omega
  ·have:=c.sp;exact c.mc (by omega)
  ·have:=c.sp;omega
 ·by_cases h1:g.A2.A3=3
  ·have e:j6 g=1:=by unfold j6;rw[if_neg h0,if_pos h1]
   refine .inr ⟨e,?_⟩
   rcases h.2 with c|c|c|c|c
   ·have:=c.tp;omega
   ·have:=c.tp;omega
   ·have:=c.tp;omega
   ·exact absurd h1 c.tp
   ·exact c.mc h1
  ·have e:j6 g= -1:=by unfold j6;rw[if_neg h0,if_neg h1]
   omega
theorem Zs1(h:Inv true m g)(c:mP true m g)(w:Way g)(hs:Bm g)(hn:g.A9.length<=n):Inv true m (re (jT n g))/\Je true m (re (jT n g))/\(re (jT n g)).A2.A3=3:=by
 obtain⟨e1,e2,e3⟩:=Yt n g
 have hi:=zq n h
 obtain⟨w2,s2⟩:=Way.all n w h.1
 have c2:mP true m (jT n g):=zr hi.2 (by rw[e2];exact c.gn.1) (by rw[e1];exact c.live.1)
 obtain⟨a,b,p⟩:=Yr hi.1 c2 (w2.full hi.1 c2 (s2 hs) (yq hn))
 exact⟨⟨a,.inr (.inr (.inr (.inr b)))⟩,b,p⟩
theorem qaH(h:Inv nc m g)(c:Je nc m g)(hp:g.A2.A3=3):j6 g=1/\g.A2.A0=m/\g.A6.D5=2/\g.A6.D7=1:=⟨Um c.sp hp,c.mc hp,c.gn.1,c.gn.2.1⟩
theorem Zcu(g:du)(a:jY)(l:List jY):uK g (a::l)=uK (nf g a).1 l:=rfl
theorem zP(b:Nat)(g:du):uK g (kW 2 0::kW 3 32::(cO b (kW 5 0)++[kW 8 0]))=re (jT b (nf (nf g (kW 2 0)).1 (kW 3 32)).1):=by
 rw[Zcu,Zcu,Zhq,Zhn];rfl
theorem Zhs(ok:gp g)(c:Cz true m g)(w:Way g)(hl:g.A9.length+8<=64):Way (mO g)/\(mO g).A9.length<=g.A9.length+8:=by
 have cr:=Un ok c
 have sl:=xO (m:=g.A1.A0.Mem) ok.dl
 have e:(mO g).A9=g.A9++tP g.A1.B0 g.A1.A0.Mem:=Zqx (by omega)
 have tp:g.A2.A3=0\/g.A2.A3=1\/g.A2.A3=2:=w.ph
 refine⟨⟨cr.tr.le,λf hf=>?_,tp,λx hx=>.inl (cr.ks x hx)⟩,by rw[e,lA];omega⟩
 have hg:(mO g).A1.A4.getD f 0=if g.A1.B0.B1.getD f false=true then g.A1.B0.C0+1 else g.A1.A4.getD f 0:=by
  show(r3 _ _ _).getD f 0=_
  rw[Zc5 z6 (by rw[ok.rl];exact hf)]
  simp only[Ui]
 rw[hg,e]
 cases hd:g.A1.B0.B1.getD f false
 ·rw[if_neg eZ]
  rcases w.hv f hf with h|⟨x,hx,k⟩
  ·exact .inl h
  ·exact .inr ⟨x,eS _ hx,k⟩
 ·rw[if_pos rfl]
  exact .inr ⟨_,eX _ (qO hd),rfl,rfl,rfl⟩
theorem yP(ok:gp g)(c:Cz true m g)(w:Way g)(hl:g.A9.length+9<=64):Way (Fg g)/\Bm (Fg g)/\(Fg g).A9.length<=g.A9.length+9:=by
 obtain⟨w1,l1⟩:=Zhs ok c w (by omega)
 have cb:=Yp ok c
 have e:(Fg g).A9=(mO g).A9++[pF (mO g).A1]:=if_pos (by omega)
 refine⟨⟨cb.tr.le,λf hf=>?_,cb.live.2,cb.ks2⟩,.inr ⟨pF (mO g).A1,by rw[e];exact eX _ (List.mem_singleton.2 rfl),rfl⟩,by rw[e,lA,cY];omega⟩
 rw[e]
 rcases w1.hv f hf with h|⟨x,hx,k⟩
 ·exact .inl h
 ·exact .inr ⟨x,eS _ hx,k⟩
structure Calm(i:Int)(m:bd)(g:du):Prop where
 inv:Inv true m g
 c:Cz true m g
 f:g.A9=[]
 w:Way g
 r:g.A1.B0.C0=i
theorem Cz.Yv(c:Cz true m g)(hf:g.A9=[])(he:g.A2.A4=g.A1.A4):Way g:=
 ⟨c.tr.le,λf _=>.inl (by rw[he]),by have:=c.tp;simp only[fB,and_false,or_false]at this;omega,λx hx=>by rw[hf]at hx;cases hx⟩
theorem vP(hm:iq 8 m){b:List (List UInt8)}(hb:b.length=4)(hB:∀x∈b,x.length=128):Calm 0 m (CB m b):=
 ⟨⟨Zq5 hm hb hB,.inl (wJ hm b)⟩,wJ hm b,rfl,(wJ hm b).Yv rfl rfl,rfl⟩
theorem qQ(h:Calm i m g)(hi:i<=9):(nf g (kW 2 0)).1=mO g:=by
 have hr:=h.r
 have e:(nf g (kW 2 0)).1=if g.A1.A3=1/\g.A1.B0.C0<10 then Fe g else g:=rfl
 rw[e,if_pos ⟨h.c.sp,by omega⟩,Ja h.inv.1 (by omega)]
theorem yr(ok:gp g)(hp:g.A1.A3=1):(nf g (kW 3 32)).1=Fg g:=by
 have e:(nf g (kW 3 32)).1=r4 g 32:=rfl
 rw[e]
 unfold r4
 rw[if_pos ⟨hp,xam ok.dl ok.r0 ok.r1 ok.s0 ok.s1⟩,Ja ok (ok.r2 hp)]
 rfl
def CC:List jY:=kW 2 0::kW 3 32::(cO 64 (kW 5 0)++[kW 8 0])
theorem Fi(h:Calm i m g)(hi:i<=9):Inv true m (uK g CC)/\j6 (uK g CC)=1/\(uK g CC).A2.A0=m/\(uK g CC).A6.D5=2/\(uK g CC).A6.D7=1:=by
 have hr:=h.r
 have ok:=h.inv.1
 have i1:Inv true m (mO g):=by
  have:=Zjz h.inv
  rwa [if_pos ⟨h.c.sp,by omega⟩,Ja ok (by omega)]at this
 have c1:=Un ok h.c
 obtain⟨w1,l1⟩:=Zhs ok h.c h.w (by rw[h.f];decide)
 rw[h.f]at l1
 have l1:(mO g).A9.length<=8:=by simpa using l1
 obtain⟨w2,s2,l2⟩:=yP i1.1 c1 w1 (by omega)
 have ok2:=xn i1.1 c1.sp
 have c2:=Yp i1.1 c1
 obtain⟨i3,c3,p3⟩:=Zs1 (n:=64) ⟨ok2,.inr (.inr (.inl c2))⟩ c2 w2 s2 (by omega)
 have e:uK g CC=re (jT 64 (Fg (mO g))):=by
  refine(zP 64 g).trans ?_
  rw[qQ h hi,yr i1.1 c1.sp]
 rw[e]
 exact⟨i3,qaH i3 c3 p3⟩
end
theorem bt{a b:Int}(h:(a==b)=true):a=b:=by simpa using h
theorem bf{a b:Int}(h:(a==b)=false):a≠b:=by simpa using h
theorem nt{a b:Int}(h:(a !=b)=true):a≠b:=by simpa using h
theorem Me{a b:Int}(h:(a !=b)=false):a=b:=by simpa using h
def mv(g:du):dr:=⟨g.A1,g.A2,g.A9,g.C1,g.A6⟩
theorem vr(b:Bool)(x:ft):(Jh (mv g) b x).w λr=>r=mv (nU g b (ie (lX g b) x)):=by
 unfold Jh
 refine ae (λhb=>aq λ_ _=>ae (λh=>?_) (λh=>bh ?_)) (λhb=>aq λ_ _=>ae (λh=>?_) (λh=>bh ?_))
 ·subst hb
  have h:(g.C1.length:Int)<64:=oY h
  refine aw (dY (by show 328*(g.C1.length+1)<=_;omega)) (bh ?_)
  have e:ie g.C1 x=g.C1++[x]:=if_pos (by omega)
  show _=mv {g with C1:=ie g.C1 x}
  rw[e]<;>rfl
 ·subst hb
  have h:¬(g.C1.length:Int)<64:=oN h
  have e:ie g.C1 x=g.C1:=if_neg (by omega)
  show _=mv {g with C1:=ie g.C1 x}
  rw[e]<;>rfl
 ·subst hb
  have h:(g.A9.length:Int)<64:=oY h
  refine aw (dY (by show 328*(g.A9.length+1)<=_;omega)) (bh ?_)
  have e:ie g.A9 x=g.A9++[x]:=if_pos (by omega)
  show _=mv {g with A9:=ie g.A9 x}
  rw[e]<;>rfl
 ·subst hb
  have h:¬(g.A9.length:Int)<64:=oN h
  have e:ie g.A9 x=g.A9:=if_neg (by omega)
  show _=mv {g with A9:=ie g.A9 x}
  rw[e]<;>rfl
theorem O4(x:ft):(Jh (mv g) false x).w λr=>r=mv {g with A9:=ie g.A9 x}:=vr false x
theorem qt(x:ft):(Jh (mv g) true x).w λr=>r=mv {g with C1:=ie g.C1 x}:=vr true x
theorem Zbv{c:lj}(h0:0<=c.Frame)(h1:c.Frame<g.A1.A4.length):(O5 (mv g) c).w λr=>r=mv {g with A9:=ie g.A9 (rH (g.A1.A4.getD c.Frame.toNat 0) c.Frame c.F1)}:=by
 unfold O5
 refine ae (λ_=>ae (λ_=>aw ?_ (cj (O4 (rH (g.A1.A4.getD c.Frame.toNat 0) c.Frame c.F1)) λx hx=>bh hx)) (λh=>absurd h1 (oN h))) (λh=>absurd h0 (oN h))
 show(bX _ _&&bN _ _&&decide _)=true
 rw[dY (show 0<=c.Frame/\c.Frame<((mv g).A1.A4.length:Int) from⟨h0,h1⟩)];rfl
theorem Z60(h:g.A1.A4.length=8):(O6 (mv g)).w λr=>r=mv {g with A9:=ie g.A9 (pF g.A1)}:=by
 unfold O6
 refine df (show g.A1.A4.length<=1000000000000 by omega) (aq λx0 h0=>?_)
 have h0:x0=g.A1.A4:=h0
 subst h0
 exact cj (O4 (pF g.A1)) λx hx=>bh hx
theorem xao(b:Bool):(Ur (mv g) b).w λr=>r=mv (Ma g b):=by
 unfold Ur
 refine ae (λh=>bh ?_) (λh=>bh ?_)<;>(subst h;rfl)
theorem xQ(h:Cv g.A6)(h0:0<=host):(Q4 (mv g) host).w λr=>r=if(mz g.A6 host g.A1.D5).2=true then(true,mv {g with A6:=(mz g.A6 host g.A1.D5).1,A1:={g.A1 with A3:=3,D5:=(mz g.A6 host g.A1.D5).1.D5}})else(false,mv {g with A1:={g.A1 with A3:=4}}):=by
 unfold Q4
 have c:=Tree.pp (Yl h h0 g.A1.D5)
 refine df c.1 (aq λx hx=>?_)
 have hx:x=mz g.A6 host g.A1.D5:=hx
 subst hx
 refine ae (λhb=>bh ?_) (λhb=>bh ?_)
 ·have hb:(mz g.A6 host g.A1.D5).2=false:=by simpa using hb
  rw[if_neg (by rw[hb];decide)];rfl
 ·have hb:(mz g.A6 host g.A1.D5).2=true:=by simpa using hb
  rw[if_pos hb];rfl
theorem zQ(h:Cv g.A6)(h0:0<=host):(O7 (mv g) host).w λr=>r=if(mz g.A6 host g.A2.D5).2=true then(true,mv {g with A6:=(mz g.A6 host g.A2.D5).1,A2:={g.A2 with A3:=3,D5:=(mz g.A6 host g.A2.D5).1.D5}})else(false,mv {g with A2:={g.A2 with A3:=4}}):=by
 unfold O7
 have c:=Tree.pp (Yl h h0 g.A2.D5)
 refine df c.1 (aq λx hx=>?_)
 have hx:x=mz g.A6 host g.A2.D5:=hx
 subst hx
 refine ae (λhb=>bh ?_) (λhb=>bh ?_)
 ·have hb:(mz g.A6 host g.A2.D5).2=false:=by simpa using hb
  rw[if_neg (by rw[hb];decide)];rfl
 ·have hb:(mz g.A6 host g.A2.D5).2=true:=by simpa using hb
  rw[if_pos hb];rfl
theorem yQ(h:Cv g.A6):(O8 (mv g)).w λr=>r=mv (nd g):=by
 unfold O8
 refine ae (λh1=>?_) (λh1=>ae (λh2=>?_) (λh2=>bh ?_))
 ·have h1:g.A1.A3=1:=bt h1
  have e:nd g={g with A1:={g.A1 with A3:=3},A9:=ie g.A9 (Cw 4)}:=if_pos h1
  rw[e]
  exact cj (O4 (g:={g with A1:={g.A1 with A3:=3}}) (Cw 4)) λx hx=>bh hx
 ·have h1:¬g.A1.A3=1:=bf h1
  have h2:g.A1.A3=2:=bt h2
  refine cj (xQ h (eN 0)) λy hy=>?_
  unfold nd
  rw[if_neg h1,if_pos h2]
  by_cases hb:(mz g.A6 0 g.A1.D5).2=true
  ·rw[if_pos hb]at hy⊢
   subst hy
   exact ae (λh=>by cases h) λ_=>cj (O4 (g:={g with A6:=(mz g.A6 0 g.A1.D5).1,A1:={g.A1 with A3:=3,D5:=(mz g.A6 0 g.A1.D5).1.D5}}) (Cw 4)) λx hx=>bh hx
  ·rw[if_neg hb]at hy⊢
   subst hy
   exact ae (λ_=>bh rfl) λh=>by cases h
 ·have h1:¬g.A1.A3=1:=bf h1
  have h2:¬g.A1.A3=2:=bf h2
  unfold nd
  rw[if_neg h1,if_neg h2]
theorem qap(ok:gp g)(ox:jJ x)(hk:x.C2=1)(hp:g.A2.A3=0\/g.A2.A3=1\/g.A2.A3=2):(O9 (mv g) x).w λr=>r=mv {g with A2:=iV g.A2 x}:=by
 obtain⟨f0,f1,hd⟩:=ox.pg hk
 obtain⟨k,ek⟩:∃f:Nat,x.Frame=f:=⟨x.Frame.toNat,by omega⟩
 have k8:k<8:=by omega
 have tl:=ok.tl
 have sp:Ug g.A2.A0.Mem x.Frame x.F1:=by rw[ek];exact Zjq ok.tm k8 hd
 have s2:(rY g.A2.A0.Mem x.Frame x.F1).2=true:=by rw[ek];exact(Uf ok.tm k8 hd).1
 have cn:∀l:List Int,l.length=8->(bX 1 1&&bN 0 1&&decide (0<=x.Frame/\x.Frame<(l.length:Int)))=true:=λl hl=>by
  rw[dY (show 0<=x.Frame/\x.Frame<(l.length:Int) by omega)];rfl
 unfold O9
 refine ae (λh=>absurd (oY h) (by omega)) λ_=>ae (λh=>absurd (oY h) (by show¬x.Frame>=(g.A2.A4.length:Int);omega)) λ_=>aw (cn _ tl) (ae (λh=>bh ?_) λh=>df sp (aq λy hy=>?_))
 ·have h:x.C0<=g.A2.A4.getD x.Frame.toNat 0:=oY h
  have e:iV g.A2 x=g.A2:=by
   unfold iV
   rw[if_neg (λh=>h hp),if_pos hk,if_neg (λh=>by have:=h.2.2;omega)]
  rw[e]
 ·have h:¬x.C0<=g.A2.A4.getD x.Frame.toNat 0:=oN h
  have hy:y=rY g.A2.A0.Mem x.Frame x.F1:=hy
  subst hy
  have e:iV g.A2 x={g.A2 with A3:=if g.A2.A3=0 then 1 else g.A2.A3,A0:={g.A2.A0 with Mem:=(rY g.A2.A0.Mem x.Frame x.F1).1},A4:=g.A2.A4.set x.Frame.toNat x.C0}:=by
   unfold iV
   rw[if_neg (λh=>h hp),if_pos hk,if_pos ⟨by omega,by omega,by omega⟩]
  rw[e]
  refine ae (λhb=>?_) λ_=>aw (cn _ tl) (ae (λh0=>bh ?_) λh0=>bh ?_)
  ·rw[s2]at hb;cases hb
  ·have h0:g.A2.A3=0:=bt h0
   rw[if_pos h0];rfl
  ·have h0:¬g.A2.A3=0:=bf h0
   rw[if_neg h0];rfl
theorem xt(ok:gp g)(ox:jJ x):(Pa (mv g) x).w λr=>r=mv {g with A2:=iV g.A2 x}:=by
 have leaf:(g.A2.A3=0\/g.A2.A3=1\/g.A2.A3=2)->∀(k1:x.C2≠1),(x.C2=2->g.A2.A3=2->iV g.A2 x=g.A2)/\(x.C2=2->g.A2.A3≠2->iV g.A2 x={g.A2 with A3:=2,A0:={x.A0 with Mem:=g.A2.A0.Mem},B9:=x.A4})/\(x.C2≠2->x.C2=4->iV g.A2 x={g.A2 with A3:=4})/\(x.C2≠2->x.C2≠4->iV g.A2 x=g.A2):=λhp k1=>by
  refine⟨λk p=>?_,λk p=>?_,λk p=>?_,λk p=>?_⟩
  ·unfold iV;rw[if_neg (λh=>h hp),if_neg k1,if_pos k,if_pos p]
  ·unfold iV;rw[if_neg (λh=>h hp),if_neg k1,if_pos k,if_neg p]
  ·unfold iV;rw[if_neg (λh=>h hp),if_neg k1,if_neg k,if_pos p]
  ·unfold iV;rw[if_neg (λh=>h hp),if_neg k1,if_neg k,if_neg p]
 unfold Pa
 refine ae (λh0=>ae (λh1=>ae (λh2=>bh ?_) (λh2=>?_)) (λh1=>?_)) (λh0=>?_)
 ·have h0:g.A2.A3≠0:=nt h0
  have h1:g.A2.A3≠1:=nt h1
  have h2:g.A2.A3≠2:=nt h2
  have e:iV g.A2 x=g.A2:=by unfold iV;rw[if_pos (by omega)]
  rw[e]
 all_goals
  have hp:g.A2.A3=0\/g.A2.A3=1\/g.A2.A3=2:=by
   first
    |exact .inr (.inr (Me h2))
    |exact .inr (.inl (Me h1))
    |exact .inl (Me h0)
  refine ae (λk=>cj (qap ok ox (bt k) hp) λy hy=>bh hy) (λk1=>?_)
  have k1:x.C2≠1:=bf k1
  obtain⟨q1,q2,q3,q4⟩:=leaf hp k1
  refine ae (λk2=>?_) (λk2=>?_)
  ·have k2:x.C2=2:=bt k2
   refine ae (λp=>bh ?_) (λp=>bh ?_)
   ·rw[q1 k2 (bt p)]
   ·rw[q2 k2 (bf p)];rfl
  ·have k2:x.C2≠2:=bf k2
   refine ae (λp=>bh ?_) (λp=>bh ?_)
   ·rw[q3 k2 (bt p)];rfl
   ·rw[q4 k2 (bf p)]
theorem Zlz(R l:List Int)(x v:Int):r3 R (l++[x]) v=(r3 R l v).set x.toNat v:=by
 unfold r3;rw[fC];rfl
theorem Yw(l k:List ft)(x:ft):o8 l (k++[x])=ie (o8 l k) x:=by
 unfold o8;rw[fC];rfl
theorem Pb{α:Type}{l:List α}{i:Nat}(h:i<l.length):l.take (i+1)=l.take i++[l[i]]:=by
 rw[List.take_add_one,aI h];rfl
theorem Pd{n i:Nat}(h:i<n):(bX 2 2&&bN 0 2&&decide (0<=(i:Int)/\(i:Int)<(n:Int)))=true:=by
 rw[dY (by omega)];rfl
def Ec(g:du)(i:Nat):du:=
 { g with
   A1:={g.A1 with B0:=⟨cO 8 false,g.A1.B0.C0+1,g.A1.B0.D6+(ir g.A1.B0.B1 0).length⟩,A4:=r3 g.A1.A4 ((ir g.A1.B0.B1 0).take i) (g.A1.B0.C0+1)}
   A9:=o8 g.A9 ((tP g.A1.B0 g.A1.A0.Mem).take i)}
theorem Zqf(ok:gp g)(hr:g.A1.B0.C0<=10):(Pe (mv g)).w λr=>r=mv (mO g):=by
 obtain⟨r1,r2⟩:=xm (c:=g.A1.B0) (m:=g.A1.A0.Mem) (by have:=ok.dl;omega)
 rw[ok.round hr]at r2
 have sl:=Yn ok.dl
 have rl:=ok.rl
 have lS:(tP g.A1.B0 g.A1.A0.Mem).length=(ir g.A1.B0.B1 0).length:=by unfold tP mM;rw[eW,eW]
 have lC:(mM g.A1.A0.Mem (ir g.A1.B0.B1 0)).length=(ir g.A1.B0.B1 0).length:=by unfold mM;rw[eW]
 unfold Pe
 refine df r1 (aq λx0 h0=>?_)
 have h0:x0=I8 g.A1.B0 g.A1.A0.Mem:=h0
 have h0:=h0.trans r2
 subst h0
 refine fv (inv:=λz:Int×dr=>∃i:Nat,z.1=i/\i<=(ir g.A1.B0.B1 0).length/\z.2=mv (Ec g i)) (μ:=Qcz (mv g)) ⟨0,rfl,bC _,rfl⟩ (cN _) ?_
 rintro⟨_,y⟩ ⟨i,rfl,hi,hy⟩
 simp only at hy
 subst hy
 refine ae (λbg=>?_) (λgz=>bh ?_)
 ·have bg:(i:Int)<((mM g.A1.A0.Mem (ir g.A1.B0.B1 0)).length:Int):=oY bg
  have hl:i<(ir g.A1.B0.B1 0).length:=by rw[lC]at bg;omega
  have ew:wrap .i64 ((i:Int)+1)=((i+1:Nat):Int):=by rw[wi (by omega) (by omega)];omega
  have eg:(mM g.A1.A0.Mem (ir g.A1.B0.B1 0)).getD (dA (i:Int)) (RK.fc RK.bn)=⟨(ir g.A1.B0.B1 0)[i],(jD g.A1.A0.Mem (ir g.A1.B0.B1 0)[i]).1⟩:=by
   simp[aV,mM,hl]
  have hm:=OM (eT hl)
  have dl:=ok.dl
  have lp:(Ec g i).A1.A4.length=8:=Uh.trans rl
  generalize hf:(ir g.A1.B0.B1 0)[i]=f at eg hm
  have f0:0<=f:=hm.1
  have f8:f<8:=by omega
  have Yx:(f:Int)<(((mv (Ec g i)).A1.A4).length:Int):=by show f<((Ec g i).A1.A4.length:Int);omega
  have hlC:i<(mM g.A1.A0.Mem (ir g.A1.B0.B1 0)).length:=by rw[lC];exact hl
  refine aw (Pd hlC) ?_
  rw[eg]
  refine ae (λ_=>ae (λ_=>aw ?_ ?_) (λh=>absurd Yx (oN h))) (λh=>absurd f0 (oN h))
  ·show(bX _ _&&bN _ _&&decide (0<=f/\f<_))=true
   rw[dY ⟨f0,Yx⟩];rfl
  ·have e1:∀l:List Int,l.length=8->(l.set f.toNat (g.A1.B0.C0+1)).getD f.toNat 0=g.A1.B0.C0+1:=λl hl=>by rw[Gg (by omega),if_pos rfl]
   refine cj (Zbv (g:={Ec g i with A1:={(Ec g i).A1 with A4:=(Ec g i).A1.A4.set f.toNat (g.A1.B0.C0+1)}}) (c:=⟨f,(jD g.A1.A0.Mem f).1⟩) f0 (by show f<(((Ec g i).A1.A4.set f.toNat (g.A1.B0.C0+1)).length:Int);rw[dC];exact Yx)) λy hy=>ff ⟨⟨i+1,ew,by omega,?_⟩,?_⟩
   ·rw[hy]
    show mv _=mv _
    congr 1
    have t1:(ir g.A1.B0.B1 0).take (i+1)=(ir g.A1.B0.B1 0).take i++[f]:=by rw[Pb hl,hf]
    have t2:(tP g.A1.B0 g.A1.A0.Mem).take (i+1)=(tP g.A1.B0 g.A1.A0.Mem).take i++[rH (g.A1.B0.C0+1) f (jD g.A1.A0.Mem f).1]:=by
     rw[Pb (by omega)]
     congr 2
     have:(tP g.A1.B0 g.A1.A0.Mem)[i]'(by omega)=rH (g.A1.B0.C0+1) (ir g.A1.B0.B1 0)[i] (jD g.A1.A0.Mem (ir g.A1.B0.B1 0)[i]).1:=by simp[tP,mM]
     rw[this,hf]
    unfold Ec
    rw[t1,t2,Zlz,Yw]
    show du.mk _ _ (ie _ (rH ((List.set _ f.toNat _).getD f.toNat 0) f _)) _ _=_
    rw[e1 _ (Uh.trans rl)]
   ·show(_-wrap .i64 ((i:Int)+1)).toNat<(_-(i:Int)).toNat
    rw[ew]
    show(((I8 g.A1.B0 g.A1.A0.Mem).2.length:Int)-((i+1:Nat):Int)).toNat<_
    show _<(((I8 g.A1.B0 g.A1.A0.Mem).2.length:Int)-(i:Int)).toNat
    rw[r2]
    show(((mM g.A1.A0.Mem (ir g.A1.B0.B1 0)).length:Int)-((i+1:Nat):Int)).toNat<(((mM g.A1.A0.Mem (ir g.A1.B0.B1 0)).length:Int)-(i:Int)).toNat
    rw[lC];omega
 ·have gz:¬(i:Int)<((mM g.A1.A0.Mem (ir g.A1.B0.B1 0)).length:Int):=oN gz
  have hi2:i=(ir g.A1.B0.B1 0).length:=by rw[lC]at gz;omega
  show mv _=mv _
  congr 1
  unfold Ec mO
  rw[fD (by omega),fD (by omega)]
theorem zap(ok:gp g)(fx:Int):(Pf (mv g) fx).w λr=>r=mv (r4 g fx):=by
 unfold Pf
 refine ae (λh=>bh ?_) (λh=>?_)
 ·have h:¬g.A1.A3=1:=nt h
  unfold r4
  rw[if_neg (λq=>h q.1)]
 ·have h:g.A1.A3=1:=Me h
  obtain⟨s1,s2⟩:=y4 (c:=g.A1.B0) (fx:=fx) (by have:=ok.dl;omega)
  refine df s1 (aq λx0 h0=>?_)
  have h0:x0=I4 g.A1.B0 fx:=h0
  subst h0
  refine ae (λhb=>bh ?_) (λhb=>?_)
  ·have hb:I4 g.A1.B0 fx=false:=by simpa using hb
   unfold r4
   rw[if_neg (λq=>by rw[hb]at q;cases q.2)]
  ·have hb:I4 g.A1.B0 fx=true:=by simpa using hb
   have e:r4 g fx=Fg g:=by
    unfold r4
    rw[if_pos ⟨h,hb⟩,Ja ok (ok.r2 h)];rfl
   rw[e]
   refine cj (Zqf ok (ok.r2 h)) λx1 h1=>?_
   subst h1
   have rl:(mO g).A1.A4.length=8:=Uh.trans ok.rl
   exact cj (Z60 (g:={mO g with A1:={(mO g).A1 with A3:=2}}) rl) λy hy=>bh hy
theorem yt(ok:gp g):(Pg (mv g)).w λr=>r=mv (Az g):=by
 unfold Pg
 refine ae (λh=>bh ?_) (λh=>?_)
 ·have h:¬g.A1.A3=2:=nt h
  unfold Az
  rw[if_neg h]
 ·have h:g.A1.A3=2:=Me h
  have e:Az g=AA g:=if_pos h
  rw[e]
  have mp:jW g.A1.A0.Mem=((8:Nat):Int):=L4 (P:=8) ok.rI.len (by decide)
  refine aq λx0 h0=>?_
  have h0:x0=((8:Nat):Int):=h0.trans mp
  subst h0
  refine fv (inv:=λz:Int×dr=>∃i:Nat,z.1=i/\i<=8/\z.2=mv {g with A9:=o8 g.A9 ((oC g.A1).take i)}) (μ:=Qbu (mv g)) ⟨0,rfl,bC _,rfl⟩ (cN _) ?_
  rintro⟨_,y⟩ ⟨i,rfl,hi,hy⟩
  simp only at hy
  subst hy
  have lP:=Zl g.A1
  refine ae (λbg=>?_) (λgz=>?_)
  ·have bg:(i:Int)<((8:Nat):Int):=oY bg
   have i8:i<8:=by omega
   have ew:wrap .i64 ((i:Int)+1)=((i+1:Nat):Int):=by rw[wi (by omega) (by omega)];omega
   refine df (Zpd (P:=8) ok.rI.len (by decide) (by omega) (by omega)) (aq λx1 h1=>?_)
   have h1:x1=jD g.A1.A0.Mem i:=h1
   subst h1
   have rl:=ok.rl
   refine ae (λ_=>cj (Zbv (g:={g with A9:=o8 g.A9 ((oC g.A1).take i)}) (c:=⟨i,(jD g.A1.A0.Mem i).1⟩) (by show(0:Int)<=(i:Int);omega) (by show(i:Int)<(g.A1.A4.length:Int);omega)) λy hy=>ff ⟨⟨i+1,ew,by omega,?_⟩,?_⟩) (λhb=>?_)
   ·rw[hy]
    show mv _=mv _
    congr 1
    have t:(oC g.A1).take (i+1)=(oC g.A1).take i++[rH (g.A1.A4.getD i 0) i (jD g.A1.A0.Mem i).1]:=by
     rw[Pb (by omega)]
     congr 2
     unfold oC
     rw[List.getElem_map,List.getElem_range]
    rw[t,Yw]
    rfl
   ·show(_-wrap .i64 ((i:Int)+1)).toNat<(_-(i:Int)).toNat
    rw[ew]
    show(jW g.A1.A0.Mem-((i+1:Nat):Int)).toNat<(jW g.A1.A0.Mem-(i:Int)).toNat
    rw[mp];omega
   ·exfalso
    have:(jD g.A1.A0.Mem i).2=true:=(I9 ok.rI i8).2
    rw[this]at hb;cases hb
  ·have gz:¬(i:Int)<((8:Nat):Int):=oN gz
   have i8:i=8:=by omega
   subst i8
   have e3:(oC g.A1).take 8=oC g.A1:=fD (by omega)
   have e2:AA g={g with A9:=ie (o8 g.A9 (oC g.A1)) (pF g.A1)}:=by
    unfold AA;rw[Yw]
   rw[e2,e3]
   generalize oC g.A1=L
   exact cj (Z60 (g:={g with A9:=o8 g.A9 L}) ok.rl) λy hy=>bh hy
theorem Us(n:Int):(if 64<(if 0>n then 0 else n)then 64 else if 0>n then 0 else n)=((runN n:Nat):Int):=by
 unfold runN
 split<;>split<;>omega
theorem zaH(ok:gp g)(hc:U clock)(n:Int):(Ph (mv g) n clock).w λr=>r=mv (jt g n clock):=by
 have rn:runN n<=64:=by unfold runN;omega
 have er:Bn g=j6 g:=by
  unfold j6
  simp only[Bn,Ut,Tree.m]
  by_cases h1:g.A1.A3=1
  ·simp[h1]
  ·by_cases h3:g.A1.A3=3
   ·simp[h3]
   ·by_cases ht:g.A2.A3=3
    ·simp[beq_false_of_ne h1,beq_false_of_ne h3,h1,h3,ht]
    ·simp[beq_false_of_ne h1,beq_false_of_ne h3,beq_false_of_ne ht,h1,h3,ht]
 unfold Ph
 refine aq λx0 h0=>?_
 have h0:x0=j6 g:=h0.trans er
 subst h0
 refine ae (λh=>bh ?_) (λh=>ae (λh1=>?_) (λh1=>?_))
 ·have h:j6 g= -1:=bt h
  unfold j6 at h
  unfold jt
  split at h
  ·omega
  ·rename_i q1
   split at h
   ·omega
   ·rename_i q2
    rw[if_neg q1,if_neg q2]
 ·have h1:j6 g=1:=bt h1
  have q:¬(g.A1.A3=1\/g.A1.A3=3)/\g.A2.A3=3:=by
   unfold j6 at h1
   split at h1
   ·omega
   ·rename_i q1
    split at h1
    ·rename_i q2;exact⟨q1,q2⟩
    ·omega
  have gt:=ok.tg (.inr q.2)
  have e:jt g n clock={g with A2:={g.A2 with A0:=mh g.A2.A0 clock (runN n)}}:=by unfold jt;rw[if_neg q.1,if_pos q.2]
  rw[e]
  refine fv (inv:=λz:Int×bd=>∃i:Nat,z.1=i/\i<=runN n/\z.2=mh g.A2.A0 clock i) (μ:=λz=>(1000-z.1).toNat) ⟨0,rfl,bC _,rfl⟩ (by simp only[Uu];omega) ?_
  rintro⟨_,y⟩ ⟨i,rfl,hi,hy⟩
  simp only at hy
  subst hy
  refine ae (λbg=>?_) (λgz=>ae (λhp=>?_) (λhp=>bh ?_))
  ·have bg:(i:Int)<(if 64<(if 0>n then 0 else n)then 64 else if 0>n then 0 else n):=oY bg
   rw[Us]at bg
   have ew:wrap .i64 ((i:Int)+1)=((i+1:Nat):Int):=by rw[wi (by omega) (by omega)];omega
   refine df (Z6x (Jc gt hc i) hc) (aq λx1 h1=>ff ⟨⟨i+1,ew,by omega,?_⟩,by show(1000-wrap .i64 ((i:Int)+1)).toNat<(1000-(i:Int)).toNat;rw[ew];omega⟩)
   show x1.1=_
   rw[h1];rfl
  ·exfalso
   have hp:g.A2.A3=1:=bt hp
   omega
  ·have gz:¬(i:Int)<(if 64<(if 0>n then 0 else n)then 64 else if 0>n then 0 else n):=oN gz
   rw[Us]at gz
   have:i=runN n:=by omega
   subst this
   rfl
 ·have hn:¬j6 g= -1:=bf h
  have h1:¬j6 g=1:=bf h1
  have q:g.A1.A3=1\/g.A1.A3=3:=by
   unfold j6 at hn h1
   split at hn
   ·assumption
   ·rename_i q1
    rw[if_neg q1]at h1
    split at hn
    ·rename_i q2;rw[if_pos q2]at h1;exact absurd rfl h1
    ·exact absurd rfl hn
  have e:jt g n clock={g with A1:={g.A1 with A0:=mh g.A1.A0 clock (runN n),B0:=r5 g.A1 (mh g.A1.A0 clock (runN n))}}:=if_pos q
  rw[e]
  refine fv (inv:=λz:Int×bd=>∃i:Nat,z.1=i/\i<=runN n/\z.2=mh g.A1.A0 clock i) (μ:=λz=>(1000-z.1).toNat) ⟨0,rfl,bC _,rfl⟩ (by simp only[Uu];omega) ?_
  rintro⟨_,y⟩ ⟨i,rfl,hi,hy⟩
  simp only at hy
  subst hy
  refine ae (λbg=>?_) (λgz=>?_)
  ·have bg:(i:Int)<(if 64<(if 0>n then 0 else n)then 64 else if 0>n then 0 else n):=oY bg
   rw[Us]at bg
   have ew:wrap .i64 ((i:Int)+1)=((i+1:Nat):Int):=by rw[wi (by omega) (by omega)];omega
   refine df (Z6x (Jc ok.src hc i) hc) (aq λx1 h1=>ff ⟨⟨i+1,ew,by omega,?_⟩,by show(1000-wrap .i64 ((i:Int)+1)).toNat<(1000-(i:Int)).toNat;rw[ew];omega⟩)
   show x1.1=_
   rw[h1];rfl
  ·have gz:¬(i:Int)<(if 64<(if 0>n then 0 else n)then 64 else if 0>n then 0 else n):=oN gz
   rw[Us]at gz
   have hi:i=runN n:=by omega
   subst hi
   have sg:=Jc ok.src hc (runN n)
   refine ae (λhp=>?_) (λhp=>bh ?_)
   ·have hp:g.A1.A3=1:=bt hp
    obtain⟨c1,c2,_⟩:=Zl1 ok.rI sg.nD
    refine df c1 (aq λx2 h2=>?_)
    have h2:x2=Eb g.A1.A0.Mem (mh g.A1.A0 clock (runN n)).Mem:=h2
    rw[<-h2]at c2
    obtain⟨n1,n2⟩:=qaF (c:=g.A1.B0) (l:=x2) (by have:=ok.dl;omega) (by omega)
    refine df n1 (aq λx3 h3=>bh ?_)
    have h3:x3=T8 g.A1.B0 x2:=h3
    rw[n2,h2]at h3
    subst h3
    have en:r5 g.A1 (mh g.A1.A0 clock (runN n))={g.A1.B0 with B1:=rG g.A1.B0.B1 (Eb g.A1.A0.Mem (mh g.A1.A0 clock (runN n)).Mem)}:=if_pos hp
    rw[en];rfl
   ·have hp:¬g.A1.A3=1:=bf hp
    have en:r5 g.A1 (mh g.A1.A0 clock (runN n))=g.A1.B0:=if_neg hp
    rw[en];rfl
theorem Yy(ok:gp g)(b:Bool)(i:Int):(Ji (mv g) b i).w λr=>(mN (lX g b) i->r=(o9 (lX g b) i,true,mv (pb g b i)))/\(¬mN (lX g b) i->r.2.1=false/\r.2.2=mv g):=by
 have cn:∀l:List ft,mN l i->(bX 54 54&&bN 0 54&&decide (0<=i/\i<(l.length:Int)))=true:=λl hl=>by rw[dY (show 0<=i/\i<(l.length:Int) from hl)];rfl
 have fin:∀l:List ft,l.length<=64->mN l i->wrap .i64 (i+1)=i+1/\l.take i.toNat++l.drop (i+1).toNat=ly l i/\(fE (i-0)/\fE (wrap .i64 (i+1)-(i+1))/\fE ((l.length:Int)-wrap .i64 (i+1))):=λl hl hi=>by
  obtain⟨h0,h1⟩:=hi
  have ew:wrap .i64 (i+1)=i+1:=wi (by omega) (by omega)
  refine⟨ew,?_,?_⟩
  ·unfold ly;rw[show(i+1).toNat=i.toNat+1 by omega]
  ·rw[ew]
   exact⟨(h0:(0:Int)<=i),(eN _:i+1<=i+1),(show i+1<=(l.length:Int) by omega)⟩
 unfold Ji
 refine ae (λhb=>aq λ_ _=>ae (λh=>bh ?_) (λh=>ae (λh2=>bh ?_) λh2=>?_)) (λhb=>aq λ_ _=>ae (λh=>bh ?_) (λh=>ae (λh2=>bh ?_) λh2=>?_))
 all_goals subst hb
 ·have h:i<0:=oY h
  exact⟨λq=>absurd q.1 (by omega),λ_=>⟨rfl,rfl⟩⟩
 ·have h2:i>=(g.C1.length:Int):=oY h2
  exact⟨λq=>absurd q.2 (by show¬i<(g.C1.length:Int);omega),λ_=>⟨rfl,rfl⟩⟩
 ·have h:¬i<0:=oN h
  have h2:¬i>=(g.C1.length:Int):=oN h2
  have hi:mN g.C1 i:=⟨by omega,by omega⟩
  obtain⟨e1,e2,e3⟩:=fin g.C1 ok.bl hi
  refine aw (cn _ hi) (df e3 (aq λx3 h3=>bh ⟨λ_=>?_,λq=>absurd hi q⟩))
  have h3:x3=g.C1.take i.toNat++g.C1.drop (wrap .i64 (i+1)).toNat:=h3
  rw[e1,e2]at h3
  have el:pb g true i={g with C1:=ly g.C1 i}:=if_pos hi
  rw[el,h3];rfl
 ·have h:i<0:=oY h
  exact⟨λq=>absurd q.1 (by omega),λ_=>⟨rfl,rfl⟩⟩
 ·have h2:i>=(g.A9.length:Int):=oY h2
  exact⟨λq=>absurd q.2 (by show¬i<(g.A9.length:Int);omega),λ_=>⟨rfl,rfl⟩⟩
 ·have h:¬i<0:=oN h
  have h2:¬i>=(g.A9.length:Int):=oN h2
  have hi:mN g.A9 i:=⟨by omega,by omega⟩
  obtain⟨e1,e2,e3⟩:=fin g.A9 ok.fl hi
  refine aw (cn _ hi) (df e3 (aq λx3 h3=>bh ⟨λ_=>?_,λq=>absurd hi q⟩))
  have h3:x3=g.A9.take i.toNat++g.A9.drop (wrap .i64 (i+1)).toNat:=h3
  rw[e1,e2]at h3
  have el:pb g false i={g with A9:=ly g.A9 i}:=if_pos hi
  rw[el,h3];rfl
theorem Zr0(ok:gp g)(b:Bool)(i:Int):(Ji (mv g) b i).w λr=>r.2.2=mv (pb g b i):=by
 have t:=Tree.pp (Yy ok b i)
 refine(Ji (mv g) b i).mono (λr (h:(mN (lX g b) i->r=(o9 (lX g b) i,true,mv (pb g b i)))/\(¬mN (lX g b) i->r.2.1=false/\r.2.2=mv g))=>?_) (Yy ok b i)
 by_cases hi:mN (lX g b) i
 ·rw[h.1 hi]
 ·have e:pb g b i=g:=if_neg hi
  rw[(h.2 hi).2,e]
theorem Ztf(ok:gp g)(b:Bool)(i:Int):(Pj (mv g) b i).w λr=>r=mv (lL g b i):=by
 unfold Pj
 refine cj (Yy ok b i) λx0 ⟨t1,t2⟩=>?_
 by_cases hi:mN (lX g b) i
 ·rw[t1 hi]
  have e:lL g b i=Ff (pb g b i) b (o9 (lX g b) i):=if_pos hi
  rw[e]
  have ox:=(ok.F4 b).2 _ (G3 hi)
  have ol:=Yo ok b i
  generalize o9 (lX g b) i=x at ox
  generalize pb g b i=l at ol
  refine ae (λh=>by cases h) λ_=>?_
  cases b
  ·exact ae (λ_=>cj (xt ol ox) λy hy=>bh hy) λh=>by cases h
  ·have et:Ff l true x=if l.A1.A3=2/\x.C2=3 then{l with A1:={l.A1 with A3:=4}}else l:=if_pos rfl
   rw[et]
   refine ae (λh=>by cases h) λ_=>ae (λh1=>ae (λh2=>bh ?_) (λh2=>bh ?_)) (λh1=>bh ?_)
   ·rw[if_pos (show l.A1.A3=2/\x.C2=3 from⟨bt h1,bt h2⟩)];rfl
   ·rw[if_neg (show¬(l.A1.A3=2/\x.C2=3) fromλq=>bf h2 q.2)]
   ·rw[if_neg (show¬(l.A1.A3=2/\x.C2=3) fromλq=>bf h1 q.1)]
 ·obtain⟨a,c⟩:=t2 hi
  have e:lL g b i=g:=if_neg hi
  rw[e]
  refine ae (λ_=>bh c) λh=>?_
  rw[a]at h;cases h
theorem Yz(h:jJ x):(Pk x).w λr=>r=x:=by
 unfold Pk
 have cm:(CD x.A0).w λr=>r=x.A0:=by
  unfold CD
  exact df (show x.A0.Mem.length<=35184372088832 by rw[h.mem];decide) (aq λy hy=>by have hy:y=x.A0.Mem:=hy;subst hy;exact bh rfl)
 refine cj cm λy hy=>?_
 subst hy
 refine df (show x.A4.length<=1000000000000 by have:=h.rl;omega) (aq λz hz=>?_)
 have hz:z=x.A4:=hz
 subst hz
 exact bh rfl
theorem vt(ok:gp g)(b:Bool)(i:Int):(Pl (mv g) b i).w λr=>r=mv (sM g b i):=by
 have cn:∀l:List ft,mN l i->(bX 54 54&&bN 0 54&&decide (0<=i/\i<(l.length:Int)))=true:=λl hl=>by rw[dY (show 0<=i/\i<(l.length:Int) from hl)];rfl
 unfold Pl
 refine ae (λhb=>aq λ_ _=>ae (λh=>ae (λh2=>?_) (λh2=>bh ?_)) (λh=>bh ?_)) (λhb=>aq λ_ _=>ae (λh=>ae (λh2=>?_) (λh2=>bh ?_)) (λh=>bh ?_))
 all_goals subst hb
 ·have hi:mN g.C1 i:=⟨oY h,oY h2⟩
  have e:sM g true i={g with C1:=ie g.C1 (o9 g.C1 i)}:=if_pos hi
  rw[e]
  refine aw (cn _ hi) (cj (Yz (x:=o9 g.C1 i) (ok.bo _ (G3 hi))) λx1 h1=>?_)
  subst h1
  exact cj (qt _) λy hy=>bh hy
 ·have h2:¬i<(g.C1.length:Int):=oN h2
  have e:sM g true i=g:=if_neg (λq=>h2 q.2)
  rw[e]
 ·have h:¬i>=0:=oN h
  have e:sM g true i=g:=if_neg (λq=>h q.1)
  rw[e]
 ·have hi:mN g.A9 i:=⟨oY h,oY h2⟩
  have e:sM g false i={g with A9:=ie g.A9 (o9 g.A9 i)}:=if_pos hi
  rw[e]
  refine aw (cn _ hi) (cj (Yz (x:=o9 g.A9 i) (ok.fo _ (G3 hi))) λx1 h1=>?_)
  subst h1
  exact cj (O4 _) λy hy=>bh hy
 ·have h2:¬i<(g.A9.length:Int):=oN h2
  have e:sM g false i=g:=if_neg (λq=>h2 q.2)
  rw[e]
 ·have h:¬i>=0:=oN h
  have e:sM g false i=g:=if_neg (λq=>h q.1)
  rw[e]
theorem Zle(hl:l.length<=64)(h:∀x∈l,jJ x):(Pm l).w λr=>r=l:=by
 unfold Pm
 refine fv (inv:=λz:Int×List ft=>∃i:Nat,z.1=i/\i<=l.length/\z.2=l.take i) (μ:=YA l) ⟨0,rfl,bC _,rfl⟩ (cN _) ?_
 rintro⟨_,y⟩ ⟨i,rfl,hi,hy⟩
 simp only at hy
 subst hy
 refine ae (λbg=>?_) (λgz=>bh ?_)
 ·have bg:i<l.length:=by have:(i:Int)<(l.length:Int):=oY bg;omega
  have ew:wrap .i64 ((i:Int)+1)=((i+1:Nat):Int):=by rw[wi (by omega) (by omega)];omega
  have eg:l.getD (dA (i:Int)) (RK.fc RK.aa)=l[i]:=by simp[aV,bg]
  have lt:(l.take i).length=i:=by rw[aD];omega
  refine aw (by rw[dY (show 0<=(i:Int)/\(i:Int)<(l.length:Int) by omega)];rfl) ?_
  rw[eg]
  refine cj (Yz (h _ (eT bg))) λx0 h0=>?_
  subst h0
  refine aw (dY (by show 328*((l.take i).length+1)<=_;omega)) (ff ⟨⟨i+1,ew,bg,(Pb bg).symm⟩,by simp only[YA,ew];omega⟩)
 ·have gz:¬(i:Int)<(l.length:Int):=oN gz
  exact fD (by omega)
theorem Z4x{s:ig}(hm:s.A0.Mem.length<=1024)(hd:s.B0.B1.length<=8)(hr:s.A4.length<=8)(hf:s.B9.length<=8):(Pn s).w λr=>r=s:=by
 unfold Pn
 have cm:(CD s.A0).w λr=>r=s.A0:=by
  unfold CD
  exact df (show s.A0.Mem.length<=35184372088832 by omega) (aq λy hy=>by have hy:y=s.A0.Mem:=hy;subst hy;exact bh rfl)
 refine cj cm λy hy=>?_
 subst hy
 refine df (show s.B0.B1.length<=140737488355328 by omega) (aq λa ha=>df (show s.A4.length<=1000000000000 by omega) (aq λb hb=>df (show s.B9.length<=1000000000000 by omega) (aq λc hc=>bh ?_)))
 have ha:a=s.B0.B1:=ha
 have hb:b=s.A4:=hb
 have hc:c=s.B9:=hc
 subst ha;subst hb;subst hc
 rfl
theorem gp.Po(h:gp g):g.A1.A0.Mem.length<=1024/\g.A2.A0.Mem.length<=1024:=by
 have a:=h.rI.len
 have b:=h.tm.len
 omega
theorem Zp8(ok:gp g):(Pp g).w λr=>r=g:=by
 obtain⟨l1,l2⟩:=ok.Po
 unfold Pp
 refine cj (Z4x l1 (by have:=ok.dl;omega) (by have:=ok.rl;omega) ok.sf) λx0 h0=>cj (Z4x l2 ok.tc (by have:=ok.tl;omega) ok.tf) λx1 h1=>cj (Zle ok.fl ok.fo) λx2 h2=>cj (Zle ok.bl ok.bo) λx3 h3=>df (show g.A6.ab.length<=1000000000000 by have:=ok.st.1;omega) (aq λx4 h4=>bh ?_)
 have h4:x4=g.A6.ab:=h4
 subst h0;subst h1;subst h2;subst h3;subst h4
 rfl
theorem Pq{s t:List Int}(hl:s.length<=1000000):(Mf s t).w λr=>r=decide (s=t):=by
 unfold Mf
 refine ae (λh=>bh ?_) (λhe=>?_)
 ·have h:¬(s.length:Int)=t.length:=by simpa using h
  exact(dN (λe=>h (by rw[e]))).symm
 ·have he:s.length=t.length:=by
   have:(s.length:Int)=t.length:=by simpa using he
   omega
  refine fv (inv:=λz:Int=>∃i:Nat,z=i/\i<=s.length/\∀j,j<i->s.getD j 0=t.getD j 0) (μ:=Pr s t) ⟨0,rfl,bC _,λj h=>by omega⟩ (cN _) ?_
  rintro _ ⟨i,rfl,hi,hj⟩
  refine ae (λbg=>?_) (λgz=>bh ?_)
  ·have bg:i<s.length:=by simpa using bg
   have ew:wrap .i64 ((i:Int)+1)=((i+1:Nat):Int):=by rw[wi (by omega) (by omega)];omega
   refine aw (lV bg) (aw (lV (by omega)) (ae (λhn=>bh ?_) (λheq=>ff ⟨⟨i+1,ew,bg,λj L7=>?_⟩,by simp only[Pr,ew];omega⟩)))
   ·rw[dX]at hn
    exact(dN (λe=>nt hn (by rw[e]))).symm
   ·rw[dX]at heq
    rcases Nat.lt_succ_iff_lt_or_eq.1 L7 with h|h
    ·exact hj j h
    ·subst h;exact Me heq
  ·have gz:s.length<=i:=by simpa using gz
   refine(dY (bR he λj h1 h2=>?_)).symm
   have:=hj j (by omega)
   simpa[aV,h1,h2]using this
theorem Zi6(ok:gp g):(Ps g).w λr=>r=decide (Cx g):=by
 unfold Ps
 have tl:=ok.tl
 refine ae (λh=>df (show g.A2.A4.length<=1000000000000 by omega) (aq λx hx=>bh ?_)) (λh=>bh ?_)
 ·rw[show x=decide (g.A2.A4=g.A2.B9) from hx.trans (Tree.pp (Pq (s:=g.A2.A4) (t:=g.A2.B9) (by omega))).2]
  refine decide_eq_decide.2 ⟨λe=>⟨bt h,e⟩,λe=>e.2⟩
 ·exact(dN (λe=>bf h e.1)).symm
theorem CE(ok:gp g){a:jY}(hc:U a.F2):(Pt g a).w λr=>r=nf g a:=by
 unfold Pt
 refine cj (Zp8 ok) λx0 h0=>?_
 subst h0
 unfold nf
 refine ae (λk=>?_) λk=>?_
 ·rw[if_pos (bt k)]
  exact cj (zaH ok hc a.N) λy hy=>bh (by rw[hy];rfl)
 rw[if_neg (bf k)]
 refine ae (λk=>?_) λk=>?_
 ·rw[if_pos (bt k)]
  refine ae (λh1=>ae (λh2=>?_) (λh2=>bh ?_)) (λh1=>bh ?_)
  ·have h1:=bt h1
   have h2:x0.A1.B0.C0<10:=oY h2
   rw[if_pos ⟨h1,h2⟩,Ja ok (by omega)]
   exact cj (Zqf ok (by omega)) λy hy=>bh (by rw[hy];rfl)
  ·have h2:¬x0.A1.B0.C0<10:=oN h2
   rw[if_neg (λq=>h2 q.2)]
  ·rw[if_neg (λq=>bf h1 q.1)]
 rw[if_neg (bf k)]
 refine ae (λk=>?_) λk=>?_
 ·rw[if_pos (bt k)]
  exact cj (zap ok a.N) λy hy=>bh (by rw[hy];rfl)
 rw[if_neg (bf k)]
 refine ae (λk=>?_) λk=>?_
 ·rw[if_pos (bt k)]
  exact cj (yt ok) λy hy=>bh (by rw[hy];rfl)
 rw[if_neg (bf k)]
 refine ae (λk=>?_) λk=>?_
 ·rw[if_pos (bt k)]
  exact cj (Ztf ok a.C1 a.N) λy hy=>bh (by rw[hy];rfl)
 rw[if_neg (bf k)]
 refine ae (λk=>?_) λk=>?_
 ·rw[if_pos (bt k)]
  exact cj (Zr0 ok a.C1 a.N) λy hy=>bh (by rw[hy];rfl)
 rw[if_neg (bf k)]
 refine ae (λk=>?_) λk=>?_
 ·rw[if_pos (bt k)]
  exact cj (vt ok a.C1 a.N) λy hy=>bh (by rw[hy];rfl)
 rw[if_neg (bf k)]
 refine ae (λk=>?_) λk=>?_
 ·rw [if_pos (bt k)]
  refine cj (Zi6 ok) λx8 h8=>ae (λhb=>?_) λhb=>bh ?_
  ·rw[h8]at hb
   have hf:Cx x0:=oY hb
   unfold re
   rw[if_pos hf]
   refine cj (zQ ok.st (host:=1) (by decide)) λx9 h9=>?_
   by_cases hc:(mz x0.A6 1 x0.A2.D5).2=true
   ·rw[if_pos hc]at h9⊢
    subst h9
    exact ae (λ_=>cj (qt (g:={x0 with A6:=(mz x0.A6 1 x0.A2.D5).1,A2:={x0.A2 with A3:=3,D5:=(mz x0.A6 1 x0.A2.D5).1.D5}}) (Cw 3)) λy hy=>bh (by rw[hy];rfl)) λh=>by cases h
   ·rw[if_neg hc]at h9⊢
    subst h9
    exact ae (λh=>by cases h) λ_=>bh rfl
  ·rw[h8]at hb
   have hf:¬Cx x0:=oN hb
   unfold re
   rw[if_neg hf]
 rw[if_neg (bf k)]
 refine ae (λk=>?_) λk=>?_
 ·rw[if_pos (bt k)]
  exact cj (yQ ok.st) λy hy=>bh (by rw[hy];rfl)
 rw[if_neg (bf k)]
 refine ae (λk=>?_) λk=>?_
 ·rw[if_pos (bt k)]
  refine aq λy hy=>bh ?_
  have hy:y=mv (Ma x0 a.C1):=hy.trans (Tree.pp (xao (g:=x0) a.C1)).2
  rw[hy];rfl
 rw[if_neg (bf k)]
 exact bh rfl
theorem Fj(n:Int):Pu n 128/\(YC n 128).length=128:=by
 refine⟨by show(128:Int)<=1000000000000;decide,?_⟩
 show Tree.V (Mg n 128) (λs=>s.length=128)
 unfold Mg
 refine Fb (inv:=λv:Int×List Int=>0<=v.1/\v.1<=128/\v.2.length=v.1.toNat) (μ:=Uv n 128) ⟨eN 0,by decide,rfl⟩ (cN _) λv ⟨a,b,c⟩=>?_
 refine lu (λhb=>lW λx0 _=>Cu (I5 ?_)) λhb=>my ?_
 ·have hb:=oY hb
  show(0<=wrap .i64 (v.1+1)/\wrap .i64 (v.1+1)<=128/\(v.2++[_]).length=(wrap .i64 (v.1+1)).toNat)/\(128-wrap .i64 (v.1+1)).toNat<(128-v.1).toNat
  rw[wi (by omega) (by omega)]
  refine⟨⟨by omega,by omega,?_⟩,by omega⟩
  rw[lA,c];simp;omega
 ·have hb:=oN hb
  show(bytesOf v.2).length=128
  unfold bytesOf
  rw[eW,c];omega
theorem vQ(n:Int):(Pv n).w λr=>r.length=4/\∀b∈r,b.length=128:=by
 unfold Pv
 refine fv (inv:=λz:Int×List (List UInt8)=>∃i:Nat,z.1=i/\i<=4/\z.2.length=i/\∀b∈z.2,b.length=128) (μ:=YD n) ⟨0,rfl,bC _,rfl,λb hb=>(by cases hb)⟩ (cN _) ?_
 rintro⟨_,y⟩ ⟨i,rfl,hi,hl,hb⟩
 simp only at hl hb
 refine ae (λbg=>?_) (λgz=>bh ?_)
 ·have bg:(i:Int)<4:=oY bg
  have ew:wrap .i64 ((i:Int)+1)=((i+1:Nat):Int):=by rw[wi (by omega) (by omega)];omega
  obtain⟨d1,d2⟩:=Fj (wrap .i64 (n+(i:Int)))
  refine df d1 (aq λx0 h0=>aw (dY (by show 16*(y.length+1)<=_;omega)) (ff ⟨⟨i+1,ew,by omega,by simp;omega,λb rU=>?_⟩,by simp only[YD,ew];omega⟩))
  rcases List.mem_append.1 rU with h|h
  ·exact hb b h
  ·rw[List.mem_singleton.1 h,h0];exact d2
 ·have gz:¬(i:Int)<4:=oN gz
  exact⟨by show y.length=4;omega,hb⟩
theorem Zqh{s:iN}(hb:s.ab.length=4)(hB:∀b∈s.ab,b.length=128)(hg:0<=s.D5/\s.D5<=2)(ho:s.D5=0->s.D7= -1)(ho2:0<s.D5->0<=s.D7):(Pw s).w λr=>r=true:=by
 unfold Pw
 refine ae (λh=>absurd (oY h) (by omega)) λ_=>ae (λh=>absurd (oY h) (by omega)) λ_=>ae (λh=>absurd (oY h) (by omega)) λ_=>ae (λh0=>ae (λh=>absurd (ho (bt h0)) (nt h)) (λ_=>ae (λh=>absurd (oY h) (by have:=bt h0;omega)) (λ_=>?_))) (λh0=>ae (λhp=>ae (λh=>absurd (oY h) (by have:=ho2 (oY hp);omega)) (λ_=>?_)) (λhp=>?_))
 all_goals
  refine fv (inv:=λz:Int=>∃i:Nat,z=i/\i<=s.ab.length) (μ:=YE s) ⟨0,rfl,bC _⟩ (cN _) ?_
  rintro _ ⟨i,rfl,hi⟩
  refine ae (λbg=>?_) (λgz=>bh rfl)
  have bg:i<s.ab.length:=by simpa using bg
  have ew:wrap .i64 ((i:Int)+1)=((i+1:Nat):Int):=by rw[wi (by omega) (by omega)];omega
  refine aw (lV bg) (ae (λh=>?_) (λ_=>ff ⟨⟨i+1,ew,bg⟩,by simp only[YE,ew];omega⟩))
  exfalso
  have e:s.ab.getD (dA (i:Int)) (RK.fc RK.str)=s.ab[i]:=by simp[aV,bg]
  rw[e,hB _ (eT bg)]at h
  cases h
theorem Zsk{b:List (List UInt8)}(hb:b.length=4)(hB:∀x∈b,x.length=128):(Px b).w λr=>r=(⟨b,0,-1⟩,true):=by
 unfold Px
 refine aw (dY (by omega)) (cj (Zqh (s:=⟨b,0,-1⟩) hb hB ⟨eN 0,by show(0:Int)<=2;decide⟩ (λ_=>rfl) (λh=>absurd h (by show¬(0:Int)<0;decide))) λx hx=>?_)
 subst hx
 exact ae (λh=>by cases h) λ_=>bh rfl
theorem qR{b:List (List UInt8)}(hb:b.length=4)(hB:∀x∈b,x.length=128):(Py ⟨b,0,-1⟩ 0 0).w λr=>r=(⟨b,1,0⟩,true):=by
 unfold Py
 refine cj (Zqh (s:=⟨b,0,-1⟩) hb hB ⟨eN 0,by show(0:Int)<=2;decide⟩ (λ_=>rfl) (λh=>absurd h (by show¬(0:Int)<0;decide))) λx hx=>?_
 subst hx
 exact ae (λh=>by cases h) λ_=>ae (λh=>by cases h) λ_=>ae (λh=>by cases h) λ_=>ae (λh=>by cases h) λ_=>bh rfl
theorem xaH{m:bd}(hm:iq 8 m){b:List (List UInt8)}(hb:b.length=4)(hB:∀x∈b,x.length=128):(Pz m ⟨b,1,0⟩).w λr=>r=(CB m b,true):=by
 have hs:Cv ⟨b,1,0⟩:=⟨hb,hB,by show(1:Int)<=1;decide,by show(1:Int)<=2;decide,by show(0:Int)<=0;decide⟩
 have mp:jW m.Mem=((8:Nat):Int):=L4 (P:=8) hm.nD.len (by decide)
 have ml:=hm.nD.len
 unfold Pz
 refine df (Tree.pp (qaa hm.ok.target.2)).1 (aq λx0 h0=>?_)
 have h0:x0=true:=h0.trans hm.may
 subst h0
 refine ae (λh=>by cases h) λ_=>cj (Zqn hs) λx1 h1=>?_
 subst h1
 refine ae (λh=>by cases h) λ_=>ae (λh=>by cases h) λ_=>?_
 obtain⟨b1,b2⟩:=qam (P:=8) (by decide) (by decide)
 obtain⟨n1,n2⟩:=xaE (P:=8) (by decide) (by decide)
 have cm:(CD m).w λr=>r=m:=by
  unfold CD
  exact df (show m.Mem.length<=35184372088832 by omega) (aq λy hy=>by have hy:y=m.Mem:=hy;subst hy;exact bh rfl)
 refine aq λx2 h2=>?_
 have h2:x2=((8:Nat):Int):=h2.trans mp
 subst h2
 refine df b1 (aq λx3 h3=>?_)
 have h3:x3=(⟨cO 8 true,0,0⟩,true):=h3.trans b2
 subst h3
 refine ae (λh=>by cases h) λ_=>cj cm λx4 h4=>?_
 subst h4
 refine aw (by rw[dY (by decide)];rfl) (aw (by rw[dY (by decide)];rfl) (df n1 (aq λx5 h5=>df (show b.length<=1000000000000 by omega) (aq λx6 h6=>bh ?_))))
 have h5:x5=cO (32*8) 0:=h5.trans n2
 have h6:x6=b:=h6
 subst h5;subst h6
 rfl
theorem Zj3(kind:Int)(prog:List Int)(hl:prog.length*8<=reachBytes)(h60:prog.length<=60):(PA kind prog).w λr=>∃m b,r=(CB m b,m,true)/\iq 8 m/\b.length=4/\∀x∈b,x.length=128:=by
 unfold PA
 have mg:=(Zj1 kind prog hl h60).1
 refine df (Tree.pp (Znj kind prog hl h60)).1 (aq λx0 h0=>?_)
 have h0:x0=T9 kind prog:=h0
 rw[<-h0]at mg
 refine cj (vQ 1) λx1 ⟨k1,k2⟩=>cj (Zsk k1 k2) λx2 h2=>?_
 subst h2
 refine cj (qR k1 k2) λx3 h3=>?_
 subst h3
 refine cj (xaH mg k1 k2) λx4 h4=>bh ?_
 subst h4
 exact⟨x0,x1,rfl,mg,k1,k2⟩
theorem xap(n k:Int):0<=Uw n k:=by
 show Tree.V (Ux n k) (λx=>0<=x)
 unfold Ux
 refine lW λx hx=>my ?_
 have r:0<=x.1/\x.1<18446744073709551616:=by
  rw[hx]
  show 0<=wrap .u64 _/\wrap .u64 _<_
  rw[wrap_u64];omega
 show 0<=wrap .i64 (x.1.fdiv 2)
 rw[Int.fdiv_eq_ediv_of_nonneg _ (by decide),wrap_i64];omega
theorem PB(a:Int):0<=ba .i64 a 1/\ba .i64 a 1<2:=by
 have h:(dR 64 a&&&dR 64 1).toNat<=1:=by
  rw[BitVec.toNat_and];exact Nat.and_le_right
 show 0<=wrap .i64 ((dR 64 a&&&dR 64 1).toNat:Int)/\wrap .i64 ((dR 64 a&&&dR 64 1).toNat:Int)<2
 rw[wi (by omega) (by omega)];omega
theorem qaI{x:Int}(h:0<=x)(k:Int):0<=bb .i64 x k:=by
 unfold bb
 exact Int.fdiv_nonneg h (Int.le_of_lt (Int.pow_pos (by decide)))
theorem YF(n:Int):(PC n).w λa=>U a.F2:=by
 unfold PC
 refine aq λx0 h0=>?_
 have x0p:0<=x0:=by rw[h0];exact xap n 12
 have s0:=qaI x0p 8
 have t0:=Int.tmod_nonneg 6 s0
 have t1:=Int.tmod_lt_of_pos (bb .i64 x0 8) (b:=6) (by decide)
 have a1:=PB (bb .i64 x0 8)
 repeat'(first
  |exact bh (ga _)
  |refine aw (Bool.and_eq_true_iff.2 ⟨rfl,dY a1⟩) ?_
  |refine aw (Bool.and_eq_true_iff.2 ⟨rfl,dY ⟨t0,t1⟩⟩) ?_
  |refine ae (λ_=>?_) (λ_=>?_))
theorem PD(a:bd)(ha:a.Mem.length<=1000000000000):(PE a a).w (λb=>b=true):=by
 have YG:∀s:List Int,s.length<=1000000000000->PF s s=true:=λs hb=>by
  have h:(Jj s s).w λr=>r=true:=by
   unfold Jj
   refine ae (λh=>by simp at h) (λ_=>?_)
   refine fv (inv:=λz:Int=>∃i:Nat,z=i/\i<=s.length) (μ:=Jk s s) ⟨0,rfl,bC _⟩ (cN _) ?_
   rintro _ ⟨i,rfl,hi⟩
   refine ae (λbg=>?_) (λgz=>bh rfl)
   have bg:i<s.length:=by simpa using bg
   have ew:wrap .i64 ((i:Int)+1)=((i+1:Nat):Int):=by rw[wi (by omega) (by omega)];omega
   refine aw (lV bg) (aw (lV bg) (ae (λh=>by simp at h) (λ_=>ff ⟨⟨i+1,ew,bg⟩,by simp only[Jk,ew];omega⟩)))
  exact(Tree.pp (W:=λr=>r=true) h).2
 unfold PE
 repeat'(first
  |refine ae (λ_=>?_) (λh=>absurd h (by simp[eqs,PG];done))
  |exact df ha (aq λx hx=>by rw[hx];exact YG _ ha)
  |refine df ha (aq λx hx=>ae (λ_=>?_) (λh=>by rw[hx,YG _ ha]at h;cases h))
  |exact rfl)
 all_goals(show(_==_)=true;simp)
theorem xR{m:bd}(h:Inv nc m g)(hk:True){l:List jY}(hl:l.length<=200)(hu:∀a∈l,U a.F2)(hn:nc=true->∀a∈l,a.C2≠10)(h1:∀a∈l,a.C2≠1):(PH g l).w λr=>r=uK g l/\Inv nc m r:=by
 unfold PH
 refine cj (Zp8 h.1) λx0 h0=>?_
 subst h0
 refine fv (inv:=λz:Int×du=>∃i:Nat,z.1=i/\i<=l.length/\z.2=uK x0 (l.take i)/\Inv nc m z.2) (μ:=YH x0 l) ⟨0,rfl,bC _,rfl,h⟩ (cN _) ?_
 rintro⟨_,y⟩ ⟨i,rfl,hi,hy,hI⟩
 simp only at hy hI
 refine ae (λbg=>?_) (λgz=>bh ?_)
 ·have bg:i<l.length:=by have:(i:Int)<(l.length:Int):=oY bg;omega
  have ew:wrap .i64 ((i:Int)+1)=((i+1:Nat):Int):=by rw[wi (by omega) (by omega)];omega
  have eg:l.getD (dA (i:Int)) (RK.fc RK.bw)=l[i]:=by simp[aV,bg]
  have am:l[i]∈l:=eT bg
  refine aw (by rw[dY (show 0<=(i:Int)/\(i:Int)<(l.length:Int) by omega)];rfl) (ae (λh2=>?_) λ_=>?_)
  ·exfalso
   have h2:(i:Int)=200:=bt h2
   omega
  rw[eg]
  refine cj (CE hI.1 (hu _ am)) λx1 e1=>ff ⟨⟨i+1,ew,bg,?_,?_⟩,by simp only[YH,ew];omega⟩
  ·show x1.1=_
   rw[e1,hy,Pb bg,Zhq];rfl
  ·show Inv nc m x1.1
   rw[e1]
   have:=y6 hI (hu _ am) (λe=>hn e _ am)
   have eq:uJ m y l[i]=m:=if_neg (λq=>h1 _ am q.1)
   rwa [eq]at this
 ·have gz:¬(i:Int)<(l.length:Int):=oN gz
  have:i=l.length:=by omega
  subst this
  rw[List.take_length]at hy
  exact⟨hy,hI⟩
theorem Jl(g:du):Bn g=j6 g:=by
 unfold j6
 simp only[Bn,Ut,Tree.m]
 by_cases h1:g.A1.A3=1
 ·simp[h1]
 ·by_cases h3:g.A1.A3=3
  ·simp[h3]
  ·by_cases ht:g.A2.A3=3
   ·simp[beq_false_of_ne h1,beq_false_of_ne h3,h1,h3,ht]
   ·simp[beq_false_of_ne h1,beq_false_of_ne h3,beq_false_of_ne ht,h1,h3,ht]
theorem Zn5(ok:gp g):(PI g).w λr=>(j6 g=0->r=(g.A1.A0,true))/\(j6 g=1->r=(g.A2.A0,true))/\(j6 g<0->r.2=false):=by
 obtain⟨l1,l2⟩:=ok.Po
 have cm:∀m:bd,m.Mem.length<=1024->(CD m).w λr=>r=m:=λm hm=>by
  unfold CD
  exact df (show m.Mem.length<=35184372088832 by omega) (aq λy hy=>by have hy:y=m.Mem:=hy;subst hy;exact bh rfl)
 unfold PI
 refine aq λx0 h0=>?_
 have h0:x0=j6 g:=h0.trans (Jl g)
 subst h0
 refine ae (λh=>cj (cm _ l1) λy hy=>bh ?_) λh=>ae (λh1=>cj (cm _ l2) λy hy=>bh ?_) λh1=>bh ?_
 ·have h:=bt h
  rw[hy]
  exact⟨λ_=>rfl,λq=>by omega,λq=>by omega⟩
 ·have h1:=bt h1
  rw[hy]
  exact⟨λq=>by omega,λ_=>rfl,λq=>by omega⟩
 ·exact⟨λq=>absurd q (bf h),λq=>absurd q (bf h1),λ_=>rfl⟩
theorem qaq:(PJ).w λr=>r=CC:=by
 unfold PJ
 refine fv (inv:=λz:Int×List jY=>∃i:Nat,z.1=i/\i<=64/\z.2=kW 2 0::kW 3 32::cO i (kW 5 0)) (μ:=YI) ⟨0,rfl,bC _,rfl⟩ (cN _) ?_
 rintro⟨_,y⟩ ⟨i,rfl,hi,hy⟩
 simp only at hy
 have yl:y.length=i+2:=by rw[hy];simp
 refine ae (λbg=>?_) (λgz=>aw (dY (by show 24*(y.length+1)<=_;omega)) (bh ?_))
 ·have bg:(i:Int)<64:=oY bg
  have ew:wrap .i64 ((i:Int)+1)=((i+1:Nat):Int):=by rw[wi (by omega) (by omega)];omega
  refine aw (dY (by show 24*(y.length+1)<=_;omega)) (ff ⟨⟨i+1,ew,by omega,?_⟩,by simp only[YI,ew];omega⟩)
  show y++[kW 5 0]=_
  rw[hy,eQ];rfl
 ·have gz:¬(i:Int)<64:=oN gz
  have:i=64:=by omega
  subst this
  show y++[kW 8 0]=_
  rw[hy];rfl
theorem YJ:∀a∈CC,U a.F2/\a.C2≠10/\a.C2≠1:=by
 intro a ha
 have k:∀x y:Int,x≠10->x≠1->U (kW x y).F2/\(kW x y).C2≠10/\(kW x y).C2≠1:=λx y h1 h2=>⟨⟨eN 0,by show(0:Int)<4294967296;decide⟩,h1,h2⟩
 unfold CC at ha
 rcases List.mem_cons.1 ha with rfl|ha
 ·exact k _ _ (by decide) (by decide)
 rcases List.mem_cons.1 ha with rfl|ha
 ·exact k _ _ (by decide) (by decide)
 rcases List.mem_append.1 ha with ha|ha
 ·rw[eR ha];exact k _ _ (by decide) (by decide)
 ·rw[List.mem_singleton.1 ha];exact k _ _ (by decide) (by decide)
theorem Zrr:CC.length=67:=by
 unfold CC
 simp only[dD,lA,cS,dE]
theorem z7:PK.w λr=>r=true:=by
 unfold PK
 refine cj (Zj3 2 [0] (by decide) (by decide)) λx0 ⟨m,b,e,hm,k1,k2⟩=>?_
 subst e
 have calm:=vP hm k1 k2
 refine ae (λh=>by cases h) λ_=>aq λx1 h1=>?_
 have h1:x1=0:=h1.trans ((Jl _).trans (Jf (.inl rfl)))
 subst h1
 refine ae (λh=>by cases h) λ_=>cj qaq λx2 h2=>?_
 subst h2
 refine cj (xR calm.inv trivial (by rw[Zrr];decide) (λa ha=>(YJ a ha).1) (λ_ a ha=>(YJ a ha).2.1) (λa ha=>(YJ a ha).2.2)) λx3 ⟨e3,i3⟩=>?_
 obtain⟨_,q2,q3,q4,q5⟩:=Fi calm (by decide)
 rw[<-e3]at q2 q3 q4 q5
 refine cj (Zn5 i3.1) λx4 ⟨_,m2,_⟩=>?_
 have m2:=m2 q2
 subst m2
 refine cj (CE i3.1 (a:={C2:=99,N:=0,C1:=false,F2:=0}) ⟨by decide,by decide⟩) λx5 h5=>aq λx6 h6=>?_
 have h6:x6=1:=h6.trans ((Jl _).trans q2)
 subst h6
 have h5:x5.2=false:=by rw[h5];rfl
 refine ae (λ_=>ae (λ_=>?_) (λh=>by cases h)) (λh=>by cases h)
 show(Tree.an (Qos x3.A2.A0 m) _).w _
 rw[q3]
 have ml:=hm.nD.len
 refine cj (PD m (by omega)) λx7 h7=>ae (λ_=>bh ?_) (λh=>by rw[h7]at h;cases h)
 rw[h5];rfl
theorem Jm{W:Bool->Prop}(h:W true):(Tree.an Jn (.lv Jo λx=>.lf x)).w W:=by
 have a:=Tree.pp z7
 exact df a.1 (aq λx hx=>bh (by rw[show x=true from hx.trans a.2];exact h))
theorem G5{β:Type}{W:β->Prop}{f:Bool->β}(h:W (f true)):(Tree.an Jn (.lv Jo λx=>.lf (f x))).w W:=by
 have a:=Tree.pp z7
 exact df a.1 (aq λx hx=>bh (by rw[show x=true from hx.trans a.2];exact h))
section
variable {g:du}
theorem Zlc(n clock:Int):(jt g n clock).A6=g.A6/\(jt g n clock).A1.A3=g.A1.A3:=by
 unfold jt
 split
 ·exact⟨rfl,rfl⟩
 ·split
  ·exact⟨rfl,rfl⟩
  ·exact⟨rfl,rfl⟩
theorem Zc0(l:Int):(r4 g l).A6=g.A6/\((r4 g l).A1.A3=g.A1.A3\/(r4 g l).A1.A3=2):=by
 unfold r4
 split
 ·exact⟨rfl,.inr rfl⟩
 ·exact⟨rfl,.inl rfl⟩
theorem Z2f:(Az g).A6=g.A6/\(Az g).A1=g.A1:=by
 unfold Az
 split<;>exact⟨rfl,rfl⟩
theorem Zlb(b:Bool)(l:List ft):(nU g b l).A6=g.A6/\(nU g b l).A1=g.A1:=by
 cases b<;>exact⟨rfl,rfl⟩
theorem YL(b:Bool)(i:Int):(pb g b i).A6=g.A6/\(pb g b i).A1=g.A1:=by
 unfold pb
 split
 ·exact Zlb _ _
 ·exact⟨rfl,rfl⟩
theorem Z27(b:Bool)(i:Int):(sM g b i).A6=g.A6/\(sM g b i).A1=g.A1:=by
 unfold sM
 split
 ·exact Zlb _ _
 ·exact⟨rfl,rfl⟩
theorem Zsg(b:Bool)(x:ft):(Ff g b x).A6=g.A6/\(b=false->(Ff g b x).A1=g.A1):=by
 cases b
 ·exact⟨rfl,λ_=>rfl⟩
 ·have e:Ff g true x=if g.A1.A3=2/\x.C2=3 then{g with A1:={g.A1 with A3:=4}}else g:=if_pos rfl
  rw[e]
  split
  ·exact⟨rfl,λh=>by cases h⟩
  ·exact⟨rfl,λh=>by cases h⟩
theorem Qx8(b:Bool)(i:Int):(lL g b i).A6=g.A6/\(b=false\/g.C1=[]->(lL g b i).A1=g.A1):=by
 unfold lL
 split
 ·rename_i hi
  obtain⟨a,c⟩:=Zsg (g:=pb g b i) b (o9 (lX g b) i)
  obtain⟨p,q⟩:=YL (g:=g) b i
  refine⟨a.trans p,λh=>?_⟩
  rcases h with h|h
  ·exact(c h).trans q
  ·cases b
   ·exact(c rfl).trans q
   ·have hi:mN g.C1 i:=hi
    rw[h]at hi
    have:i<((0:Nat):Int):=hi.2
    have:=hi.1
    omega
 ·exact⟨rfl,λ_=>rfl⟩
theorem Zhk(b:Bool):(Ma g b).A6=g.A6:=by cases b<;>rfl
theorem YM{a:jY}(h8:a.C2≠8)(h9:a.C2≠9):(nf g a).1.A6=g.A6:=by
 unfold nf
 by_cases k1:a.C2=1
 ·rw[if_pos k1];exact(Zlc _ _).1
 rw[if_neg k1]
 by_cases k2:a.C2=2
 ·rw[if_pos k2]
  show(if _ then Fe g else g:du).A6=_
  split<;>rfl
 rw[if_neg k2]
 by_cases k3:a.C2=3
 ·rw[if_pos k3];exact(Zc0 _).1
 rw[if_neg k3]
 by_cases k4:a.C2=4
 ·rw[if_pos k4];exact Z2f.1
 rw[if_neg k4]
 by_cases k5:a.C2=5
 ·rw[if_pos k5];exact(Qx8 _ _).1
 rw[if_neg k5]
 by_cases k6:a.C2=6
 ·rw[if_pos k6];exact(YL _ _).1
 rw[if_neg k6]
 by_cases k7:a.C2=7
 ·rw[if_pos k7];exact(Z27 _ _).1
 rw[if_neg k7,if_neg h8,if_neg h9]
 by_cases Md:a.C2=10
 ·rw[if_pos Md];exact Zhk _
 ·rw[if_neg Md]
theorem zR{a:jY}(h8:a.C2≠8)(h9:a.C2≠9)(EV:a.C2≠10)(hb:g.C1=[])(hp:g.A1.A3=1\/g.A1.A3=2):(nf g a).1.A1.A3=1\/(nf g a).1.A1.A3=2:=by
 unfold nf
 by_cases k1:a.C2=1
 ·rw[if_pos k1];show(jt g _ _).A1.A3=1\/(jt g _ _).A1.A3=2;rw[(Zlc _ _).2];exact hp
 rw[if_neg k1]
 by_cases k2:a.C2=2
 ·rw[if_pos k2]
  show(if _ then Fe g else g:du).A1.A3=1\/(if _ then Fe g else g:du).A1.A3=2
  split<;>exact hp
 rw[if_neg k2]
 by_cases k3:a.C2=3
 ·rw[if_pos k3]
  show(r4 g _).A1.A3=1\/(r4 g _).A1.A3=2
  rcases(Zc0 (g:=g) a.N).2 with e|e
  ·rw[e];exact hp
  ·exact .inr e
 rw[if_neg k3]
 by_cases k4:a.C2=4
 ·rw[if_pos k4];show(Az g).A1.A3=1\/(Az g).A1.A3=2;rw[Z2f.2];exact hp
 rw[if_neg k4]
 by_cases k5:a.C2=5
 ·rw[if_pos k5];show(lL g _ _).A1.A3=1\/(lL g _ _).A1.A3=2;rw[(Qx8 _ _).2 (.inr hb)];exact hp
 rw[if_neg k5]
 by_cases k6:a.C2=6
 ·rw[if_pos k6];show(pb g _ _).A1.A3=1\/(pb g _ _).A1.A3=2;rw[(YL _ _).2];exact hp
 rw[if_neg k6]
 by_cases k7:a.C2=7
 ·rw[if_pos k7];show(sM g _ _).A1.A3=1\/(sM g _ _).A1.A3=2;rw[(Z27 _ _).2];exact hp
 rw[if_neg k7,if_neg h8,if_neg h9,if_neg EV];exact hp
variable {nc:Bool} {m:bd}
theorem Zch(h:Inv nc m g)(hs:g.A6.D5=2)(a:jY):(nf g a).1.A6=g.A6:=by
 by_cases h8:a.C2=8
 ·have e:(nf g a).1=re g:=by
   unfold nf;rw[if_neg (by omega),if_neg (by omega),if_neg (by omega),if_neg (by omega),if_neg (by omega),if_neg (by omega),if_neg (by omega),if_pos h8]
  rw[e]
  unfold re
  split
  ·rename_i hf
   rcases h.2 with c|c|c|c|c
   ·have:=c.gn.1;omega
   ·have:=c.gn.1;omega
   ·have:=c.gn.1;omega
   ·rw[Uq h.1.st (by decide) (by rw[c.gn.1,c.gn.2.2];decide),if_neg eZ]
   ·have:=c.tp;have:=hf.1;omega
  ·rfl
 by_cases h9:a.C2=9
 ·have e:(nf g a).1=nd g:=by
   unfold nf;rw[if_neg (by omega),if_neg (by omega),if_neg (by omega),if_neg (by omega),if_neg (by omega),if_neg (by omega),if_neg (by omega),if_neg h8,if_pos h9]
  rw[e]
  rcases h.2 with c|c|c|c|c
  ·have:=c.gn.1;omega
  ·have:=c.gn.1;omega
  ·have:=c.gn.1;omega
  ·have:=c.sp
   unfold nd
   rw[if_neg (by omega),if_neg (by omega)]
  ·have:=c.sp
   unfold nd
   rw[if_neg (by omega)]
   split
   ·rw[Uq h.1.st (by decide) (by rw[c.gn.1,c.gn.2.2];decide),if_neg eZ]
   ·rfl
 exact YM h8 h9
theorem Inv.PL(h:Inv true m g):Inv false m g:=by
 have w:∀{p:Prop},p/\true=false->p/\false=false:=λh=>⟨h.1,rfl⟩
 refine⟨h.1,?_⟩
 rcases h.2 with c|c|c|c|c
 ·exact .inl ⟨c.sp,c.gn,c.mc,c.tp.imp id (·.imp id w),c.ks,c.bk,c.tr⟩
 ·exact .inr (.inl ⟨c.sp.imp id w,c.gn,c.mc,c.tp,c.ks,c.bk⟩)
 ·exact .inr (.inr (.inl ⟨c.sp.imp id w,c.gn,c.mc,c.cl,c.tp.imp id (·.imp id (·.imp id w)),c.ks,c.ts,c.bk,c.tr⟩))
 ·exact .inr (.inr (.inr (.inl ⟨c.sp.imp id w,c.gn,c.mc,c.tp,c.bk⟩)))
 ·exact .inr (.inr (.inr (.inr ⟨c.sp,c.gn,c.tp.imp id w,c.mc⟩)))
theorem zaq(h:Inv nc m g)(hs:g.A6.D5=1)(hp:g.A1.A3=1\/g.A1.A3=2):g.C1=[]:=by
 rcases h.2 with c|c|c|c|c
 ·exact c.bk
 ·exact c.bk
 ·exact c.bk
 ·exact c.bk
 ·have:=c.gn.1;omega
theorem Uy(h:Inv nc m g){a:jY}(hc:U a.F2)(hn:nc=true->a.C2≠10):∃n,Inv nc n (nf g a).1:=⟨_,y6 h hc hn⟩
end
def Jp(i:Nat)(g:du):Prop:=(i<=64->g.A9.length<=64-i)/\(65<=i->g.A9.length<=9-(i-65)/\Way g/\Bm g)
theorem YN(g:du):(lL g false 0).A9.length<=g.A9.length-1:=by
 have:=Yu 1 g
 exact this
theorem PM(kind:Int)(prog before after:List Int)(back:Bool)(hl:prog.length*8<=reachBytes):(PN kind prog before after back).w λr=>r=true:=by
 unfold PN
 refine ae (λ_=>Jm rfl) (λh1=>ae (λ_=>Jm rfl) (λh2=>ae (λ_=>Jm rfl) (λh3=>?_)))
 have h1:=oN h1
 have h2:=oN h2
 have h3:=oN h3
 have Jq:U 0:=⟨by decide,by decide⟩
 refine cj (Zj3 kind prog hl (by omega)) λx3 ⟨m,b,e,hm,k1,k2⟩=>?_
 subst e
 refine ae (λh=>by cases h) λ_=>?_
 refine fv (inv:=λz:Int×du=>∃i:Nat,z.1=i/\i<=before.length/\z.2.A6.D5=1/\(z.2.A1.A3=1\/z.2.A1.A3=2)/\∃n,Inv true n z.2) (μ:=PO kind prog before after back) ⟨0,rfl,bC _,rfl,.inl rfl,m,Zq5 hm k1 k2,.inl (wJ hm b)⟩ (cN _) ?_
 rintro⟨_,g⟩ ⟨i,rfl,hi,hs,hp,n,hI⟩
 simp only at hs hp hI
 refine ae (λbg=>?_) (λgz=>?_)
 ·have bg:i<before.length:=by have:(i:Int)<(before.length:Int):=oY bg;omega
  have ew:wrap .i64 ((i:Int)+1)=((i+1:Nat):Int):=by rw[wi (by omega) (by omega)];omega
  have nx:∀g':du,g'.A6.D5=1->(g'.A1.A3=1\/g'.A1.A3=2)->(∃n,Inv true n g')->(∃j:Nat,wrap .i64 ((i:Int)+1)=j/\j<=before.length/\g'.A6.D5=1/\(g'.A1.A3=1\/g'.A1.A3=2)/\∃n,Inv true n g')/\PO kind prog before after back (wrap .i64 ((i:Int)+1),g')<PO kind prog before after back ((i:Int),g):=λg' a b c=>
   ⟨⟨i+1,ew,bg,a,b,c⟩,by simp only[PO,ew];omega⟩
  refine aw (lV bg) (cj (YF _) λx4 hU=>ae (λc10=>ae (λc9=>ae (λc8=>?_) (λ_=>ff (nx g hs hp ⟨n,hI⟩))) (λ_=>ff (nx g hs hp ⟨n,hI⟩))) (λ_=>ff (nx g hs hp ⟨n,hI⟩)))
  refine cj (CE hI.1 hU) λx5 e5=>ff (nx x5.1 ?_ ?_ ?_)
  ·rw[e5,YM (nt c8) (nt c9)];exact hs
  ·rw[e5];exact zR (nt c8) (nt c9) (nt c10) (zaq hI hs hp) hp
  ·rw[e5];exact Uy hI hU (λ_=>nt c10)
 ·clear hi
  have es:(nf g (kW 3 32)).1.A6=g.A6:=YM (by show(3:Int)≠8;decide) (by show(3:Int)≠9;decide)
  have ep:(nf g (kW 3 32)).1.A1.A3=2:=by
   rcases hp with hp|hp
   ·rw[yr hI.1 hp];rfl
   ·show(r4 g 32).A1.A3=2
    unfold r4
    rw[if_neg (by omega)];exact hp
  obtain⟨n6,I6⟩:=Uy hI (a:=kW 3 32) Jq (λ_=>by show(3:Int)≠10;decide)
  refine cj (CE (a:=kW 3 32) hI.1 Jq) λx6 e6=>?_
  subst e6
  have c6:mP true n6 (nf g (kW 3 32)).1:=zr I6.2 (by rw[es];exact hs) ep
  revert I6 c6 ep
  generalize(nf g (kW 3 32)).1=g6
  intro ep I6 c6
  refine ae (λh=>absurd ep (nt h)) λ_=>?_
  refine ae (λhb=>?_) (λhb=>?_)
  ·
   obtain⟨o7,c7,p7⟩:=Zph I6.1 c6 ep
   refine cj (CE (a:=kW 9 0) I6.1 Jq) λx7 e7=>?_
   have e7:x7.1=nd g6:=by rw[e7];rfl
   rw[<-e7]at o7 c7 p7
   have I7:Inv true n6 x7.1:=⟨o7,.inr (.inr (.inr (.inl c7)))⟩
   refine aq λx8 h8=>?_
   have h8:x8=0:=h8.trans ((Jl _).trans (Jf (.inr p7)))
   subst h8
   refine ae (λh=>by cases h) λ_=>?_
   refine fv (inv:=λz:Int×du=>∃i:Nat,z.1=i/\i<=after.length/\z.2.A6.D5=2/\z.2.A6.D7=0/\∃n,Inv false n z.2) (μ:=Q2 kind prog before after back) ⟨0,rfl,bC _,c7.gn.1,c7.gn.2.1,n6,I7.PL⟩ (cN _) ?_
   rintro⟨_,y⟩ ⟨j,rfl,hj,s1,s2,ny,Iy⟩
   simp only at s1 s2 Iy
   refine ae (λbg=>?_) (λ_=>G5 rfl)
   have bg:j<after.length:=by have:(j:Int)<(after.length:Int):=oY bg;omega
   have ej:wrap .i64 ((j:Int)+1)=((j+1:Nat):Int):=by rw[wi (by omega) (by omega)];omega
   refine aw (lV bg) (cj (YF _) λx9 hU=>cj (CE Iy.1 hU) λkj e10=>aq λlY h11=>?_)
   obtain⟨nz,Iz⟩:=Uy Iy hU (λe=>by cases e)
   have st:=Zch Iy s1 x9
   rw[<-e10]at Iz st
   have cz:=zaG Iz.2 (by rw[st];exact s1) (by rw[st];exact s2)
   refine ae (λh=>?_) (λ_=>ff ⟨⟨j+1,ej,bg,by rw[st];exact s1,by rw[st];exact s2,nz,Iz⟩,by simp only[Q2,ej];omega⟩)
   exfalso
   have h:lY=1:=bt h
   rw[show lY=j6 kj.1 from h11.trans (Jl _)]at h
   have hp:=cz.sp
   have ht:=cz.tp
   by_cases q:kj.1.A1.A3=3
   ·rw[Jf (.inr q)]at h;omega
   ·rw[Mc (by omega) ht]at h;omega
  ·
   have Uz:=Qz I6
   have er:Az g6=AA g6:=if_pos ep
   have c13:=Uo c6
   rw[er]at Uz
   refine cj (CE (a:=kW 4 0) I6.1 Jq) λoD YO=>?_
   have YO:oD.1=AA g6:=by rw[YO];exact er
   rw[<-YO]at Uz c13
   refine fv (inv:=λz:Int×du=>∃i:Nat,z.1=i/\i<=128/\Inv true n6 z.2/\mP true n6 z.2/\Jp i z.2) (μ:=UA kind prog before after back) ⟨0,rfl,bC _,Uz,c13,⟨λ_=>Uz.1.fl,λh=>by omega⟩⟩ (cN _) ?_
   rintro⟨_,y⟩ ⟨j,rfl,hj,Iy,cy,fy⟩
   simp only at Iy cy fy
   refine ae (λbg=>?_) (λgz=>?_)
   ·have bg:(j:Int)<128:=oY bg
    have ej:wrap .i64 ((j:Int)+1)=((j+1:Nat):Int):=by rw[wi (by omega) (by omega)];omega
    have Id:=Yq Iy false 0
    obtain⟨d1,d2,d3⟩:=Yt 1 y
    have cd:mP true n6 (lL y false 0):=zr Id.2 (by show(jT 1 y).A6.D5=1;rw[d2];exact cy.gn.1) (by show(jT 1 y).A1.A3=2;rw[d1];exact cy.live.1)
    have dl:=YN y
    refine cj (CE (a:=kW 5 0) Iy.1 Jq) λnE UB=>?_
    have UB:nE.1=lL y false 0:=by rw[UB];rfl
    refine ae (λPQ=>?_) (λPQ=>?_)
    ·have PQ:j=64:=by have:(j:Int)=64:=bt PQ;omega
     have hf:(lL y false 0).A9=[]:=fA (by have:=fy.1 (by omega);omega)
     rw[<-UB]at Id cd hf
     obtain⟨w,s,l9⟩:=Zrz cd hf
     have Ir:=Qz Id
     have er:Az nE.1=AA nE.1:=if_pos cd.live.1
     rw[er]at Ir
     refine cj (CE (a:=kW 4 0) Id.1 Jq) λwK YP=>ff ⟨⟨j+1,ej,by omega,?_⟩,by simp only[UA,ej];omega⟩
     have YP:wK.1=AA nE.1:=by rw[YP];exact er
     show Inv true n6 wK.1/\mP true n6 wK.1/\Jp (j+1) wK.1
     rw[YP]
     exact⟨Ir,Uo cd,λh=>by omega,λ_=>⟨by omega,w,s⟩⟩
    ·have PQ:j≠64:=λh=>bf PQ (by omega)
     refine ff ⟨⟨j+1,ej,by omega,?_⟩,by simp only[UA,ej];omega⟩
     show Inv true n6 nE.1/\mP true n6 nE.1/\Jp (j+1) nE.1
     rw[UB]
     refine⟨Id,cd,λh=>?_,λh=>?_⟩
     ·have:=fy.1 (by omega);omega
     ·obtain⟨a,w,s⟩:=fy.2 (by omega)
      obtain⟨w2,s2⟩:=w.next Iy.1 0
      exact⟨by omega,w2,s2 s⟩
   ·have gz:¬(j:Int)<128:=oN gz
    obtain⟨a,w,s⟩:=fy.2 (by omega)
    have hf:y.A9=[]:=fA (by omega)
    obtain⟨o16,PR,p16⟩:=Yr Iy.1 cy (w.full Iy.1 cy s hf)
    refine cj (CE (a:=kW 8 0) Iy.1 Jq) λpI YQ=>aq λMh YR=>?_
    have YQ:pI.1=re y:=by rw[YQ];rfl
    rw[<-YQ]at o16 PR p16
    have I16:Inv true n6 pI.1:=⟨o16,.inr (.inr (.inr (.inr PR)))⟩
    have YR:Mh=1:=YR.trans ((Jl _).trans (Um PR.sp p16))
    subst YR
    refine ae (λh=>by cases h) λ_=>?_
    refine fv (inv:=λz:Int×du=>∃i:Nat,z.1=i/\i<=after.length/\z.2.A6.D5=2/\z.2.A6.D7=1/\∃n,Inv false n z.2) (μ:=Q2 kind prog before after back) ⟨0,rfl,bC _,PR.gn.1,PR.gn.2.1,n6,I16.PL⟩ (cN _) ?_
    rintro⟨_,v⟩ ⟨k,rfl,hk,s1,s2,nv,Iv⟩
    simp only at s1 s2 Iv
    refine ae (λbg=>?_) (λ_=>G5 rfl)
    have bg:k<after.length:=by have:(k:Int)<(after.length:Int):=oY bg;omega
    have ek:wrap .i64 ((k:Int)+1)=((k+1:Nat):Int):=by rw[wi (by omega) (by omega)];omega
    refine aw (lV bg) (cj (YF _) λJr hU=>cj (CE Iv.1 hU) λEd e19=>aq λUC YS=>?_)
    obtain⟨nz,Iz⟩:=Uy Iv hU (λe=>by cases e)
    have st:=Zch Iv s1 Jr
    rw[<-e19]at Iz st
    have cz:=xaG Iz.2 (by rw[st];exact s1) (by rw[st];exact s2)
    refine ae (λh=>?_) (λ_=>ff ⟨⟨k+1,ek,bg,by rw[st];exact s1,by rw[st];exact s2,nz,Iz⟩,by simp only[Q2,ek];omega⟩)
    exfalso
    have h:UC=0:=bt h
    rw[show UC=j6 Ed.1 from YS.trans (Jl _)]at h
    by_cases q:Ed.1.A2.A3=3
    ·rw[Um cz.sp q]at h;omega
    ·rw[Mc cz.sp q]at h;omega

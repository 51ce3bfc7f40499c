import Derived.Test.YtaemmjbkndlkeaaGreatMigrateOneFin1
open List renaming drop_eq_getElem_cons->aO,getElem?_eq_getElem->aI,length_cons->dD,drop_eq_nil_of_le->aN,append_assoc->aM,replicate->cO,replicate_succ'->eQ,getD->aV,length_singleton->cY,length_replicate->cS,eq_of_mem_replicate->eR,ext_getElem->bR,mem_append_left->eS,getD_eq_getElem?_getD->cX,getElem?_eq_none->aJ,getElem_mem->eT,mem_cons_self->eU,mem_cons_of_mem->eV,length_set->dC,length_map->eW,length_take->aD,mem_append_right->eX,getElem?_replicate->eY,foldl_append->fB,take_of_length_le->fC
open Nat renaming beq->bX,blt->bN,zero_le->bC,lt_succ_self->cN
open Int renaming toNat_natCast->dX,le_refl->eN,tmod_eq_emod_of_nonneg->dZ,tdiv_eq_ediv_of_nonneg->eG,toNat->dA,NonNeg->fD
open Bool renaming cond_false_right->eO,false_ne_true->eZ,true_eq_false->fA
open BitVec renaming ofInt->dR
set_option maxRecDepth 100000
set_option linter.all false
namespace Go.Proofs.YtaemmjbkndlkeaaGreat
open Go Go.GD
open Go.IntKind(wrap i64 wrap_i64 wrap_u64)
def ia:List Bool->Int->List Int
 |[],_=>[]
 |b::l,k=>if b=true then k::ia l (k+1)else ia l (k+1)
theorem Tb:∀(l:List Bool) (k:Int),(ia l k).length<=l.length
 |[],_=>Nat.le_refl _
 |b::l,k=>by
  have:=Tb l (k+1)
  simp only[ia];split<;>(try simp)<;>omega
theorem N6:∀{l:List Bool} {k x:Int},x∈ia l k->k<=x/\x<k+l.length
 |[],_,_,h=>by simp[ia]at h
 |b ::l,k,x,h=>by
  simp only[ia]at h
  have go:x∈ia l (k+1)->k<=x/\x<k+(b::l).length:=λh=>by
   have:=N6 h;simp;omega
  split at h
  ·rcases List.mem_cons.1 h with e|e
   ·subst e;simp;omega
   ·exact go e
  ·exact go h
theorem vk{l:List Bool}{i:Nat}(h:i<l.length):l.drop i=l.getD i false::l.drop (i+1):=by
 rw[aO h]
 show _=(l[i]?).getD false::_
 rw[aI h];rfl
theorem ql{l:List Bool}{i:Nat}(h:i<l.length)(hb:l.getD i false=true)(k:Int):ia (l.drop i) k=k::ia (l.drop (i+1)) (k+1):=by
 rw[vk h,ia,if_pos hb]
theorem y3{l:List Bool}{i:Nat}(h:i<l.length)(hb:l.getD i false=false)(k:Int):ia (l.drop i) k=ia (l.drop (i+1)) (k+1):=by
 rw[vk h,ia,if_neg (by rw[hb];simp)]
theorem wi{x:Int}(h0: -9223372036854775808<=x)(h1:x<=9223372036854775807):wrap .i64 x=x:=by rw[wrap_i64];omega
theorem mJ{n:Nat}{i:Nat}(h:i<n):(bX 1 1&&bN 0 1&&decide (0<=(i:Int)/\(i:Int)<(n:Int)))=true:=by
 rw[dY (by omega)];rfl
theorem xal{n:Int}{l:List Bool}(h0:0<=n)(hb:n+l.length<=1000000000000):(N7 n l).w λr=>r=(n+(ia l 0).length,l):=by
 unfold N7
 refine fp (inv:=λz:Int×Int=>∃i:Nat,z.1=i/\i<=l.length/\0<=z.2/\z.2<=n+i/\z.2+(ia (l.drop i) i).length=n+(ia l 0).length) (μ:=Tc n l) ⟨0,rfl,bC _,h0,by simp,by simp⟩ (cN _) ?_
 rintro⟨_,x⟩ ⟨i,rfl,hi,nH,hx,hs⟩
 simp only at nH hx hs
 refine ae (λbg=>?_) (λgu=>?_)
 ·have bg:i<l.length:=by simpa using bg
  have ew:wrap .i64 ((i:Int)+1)=((i+1:Nat):Int):=by rw[wi (by omega) (by omega)];omega
  refine ax (mJ bg) (ae (λAO=>?_) (λAO=>?_))
  ·rw[dX]at AO
   refine aq λy hy=>?_
   have hy:y=(true,wrap .i64 (x+1)):=hy
   rw[wi (by omega) (by omega)]at hy
   subst hy
   refine ae (λh=>by cases h) (λ_=>e6 ?_)
   refine⟨⟨i+1,ew,bg,by show 0<=x+1;omega,by show x+1<=_;omega,?_⟩,?_⟩
   ·rw[ql bg AO]at hs
    simp only[dD]at hs
    show x+1+((ia (l.drop (i+1)) ((i+1:Nat):Int)).length:Int)=_
    have:((i+1:Nat):Int)=(i:Int)+1:=by omega
    rw[this];omega
   ·simp only[Tc,ew];omega
  ·rw[dX]at AO
   refine e6 ⟨⟨i+1,ew,bg,nH,by show x<=_;omega,?_⟩,?_⟩
   ·rw[y3 bg AO]at hs;simpa using hs
   ·simp only[Tc,ew];omega
 ·have gu:l.length<=i:=by simpa using gu
  rw[aN gu]at hs
  refine bh ?_
  show((x,l):Int×List Bool)=_
  rw[<-hs];simp[ia]
theorem yM{c:gg}(hb:c.B0.length<=1000000000000):Xx c/\Td c=(ia c.B0 0).length:=by
 have h1:=Tree.pp (xal (n:=0) (l:=c.B0) (eN _) (by omega))
 have h4:(N8 c).w λr=>r=(ia c.B0 0).length:=by
  unfold N8
  refine aq λ_ _=>c9 h1.1 (aq λy hy=>bh ?_)
  have hy:y=Te 0 c.B0:=hy
  have e:Te 0 c.B0=(0+((ia c.B0 0).length:Int),c.B0):=h1.2
  rw[hy,e];simp
 exact Tree.pp h4
theorem Lo{m:List Int}{P:Nat}(hl:m.length=32*P)(hp:P<=32):jK m=P:=by
 simp only[jK,Gg,Tree.m,hl]
 have e1:Int.tmod ((32*P:Nat):Int) 32=0:=by rw[dZ (by omega)];omega
 have e2:Int.tdiv ((32*P:Nat):Int) 32=P:=by rw[eG (by omega)];omega
 rw[e1,e2,dN (by omega),wi (by omega) (by omega)];rfl
theorem xl{m:List Int}{P:Nat}(h:jK m=P)(h1:1<=P):m.length=32*P/\P<=32:=by
 simp only[jK,Gg,Tree.m]at h
 rw[dZ (by omega),eG (by omega)]at h
 cases hb:(((m.length:Int)%32 !=0):Bool)with
 |true=>rw[hb]at h;simp only[cond_true]at h;omega
 |false=>
  rw[hb]at h
  simp only[cond_false]at h
  have hb:(m.length:Int)%32=0:=by simpa using hb
  cases hc:decide ((m.length:Int)>1024)with
  |true=>rw[hc]at h;simp only[cond_true]at h;omega
  |false=>
   rw[hc]at h
   simp only[cond_false]at h
   have hc:(m.length:Int)<=1024:=by simpa using hc
   rw[wi (by omega) (by omega)]at h
   omega
theorem Zoj{m:List Int}{P:Nat}(hl:m.length=32*P)(hp:P<=32){f:Int}(f0:0<=f)(f1:f<P):N9 m f:=by
 show(Dl m f).p
 have hh:Eg m f=true:=by
  simp only[Eg,Kr,Tree.m,eh,Lo hl hp]
  rw[dY (by omega:f>=0),dY f1];rfl
 have e1:wrap .i64 (f*32)=f*32:=wi (by omega) (by omega)
 have e2:wrap .i64 (f*32+32)=f*32+32:=wi (by omega) (by omega)
 unfold Dl
 refine aq λx hx=>?_
 rw[hh]at hx;subst hx
 refine ae (λh=>by cases h) (λ_=>?_)
 rw[e1,e2]
 refine ax (by rw[dY (by rw[hl];omega)];rfl) (c9 ?_ (aq λ_ _=>bh trivial))
 show List.length _<=1000000000000
 simp;omega
def mq(m l:List Int):List kO:=l.map λf=>⟨f,(jz m f).1⟩
theorem qam{m:List Int}{P:Nat}(hl:m.length=32*P)(hp:P<=32){d:List Bool}(hd:d.length=P):(Oa m [] d).w λr=>r=(m,mq m (ia d 0),d):=by
 unfold Oa
 refine fp (inv:=λz:Int×List Int×List kO=>∃i:Nat,z.1=i/\i<=d.length/\z.2.1=m/\z.2.2.length<=i/\z.2.2++mq m (ia (d.drop i) i)=mq m (ia d 0)) (μ:=Tf m [] d) ⟨0,rfl,bC _,rfl,by simp,by simp⟩ (cN _) ?_
 rintro⟨_,_,x⟩ ⟨i,rfl,hi,hm,hx,hs⟩
 simp only at hm hx hs
 subst hm
 refine ae (λbg=>?_) (λgu=>?_)
 ·have bg:i<d.length:=by simpa using bg
  have ew:wrap .i64 ((i:Int)+1)=((i+1:Nat):Int):=by rw[wi (by omega) (by omega)];omega
  refine ax (mJ bg) (ae (λAO=>?_) (λAO=>?_))
  ·rw [dX]at AO
   refine c9 (?_:(Tg i _ x).p) (aq λy hy=>?_)
   ·exact c9 (Zoj hl hp (by omega) (by omega)) (aq λ_ _=>ax (dY (by omega)) (bh trivial))
   ·have hy:y=(true,_,x++[⟨(i:Int),(jz _ i).1⟩]):=hy
    subst hy
    refine ae (λh=>by cases h) (λ_=>e6 ?_)
    refine⟨⟨i+1,ew,bg,rfl,by simp;omega,?_⟩,?_⟩
    ·rw[ql bg AO]at hs
     simp only[aM,List.singleton_append]
     rw[<-hs];simp[mq]
    ·simp only[Tf,ew];omega
  ·rw[dX]at AO
   refine e6 ⟨⟨i+1,ew,bg,rfl,by show x.length<=_;omega,?_⟩,?_⟩
   ·rw[y3 bg AO]at hs;simpa using hs
   ·simp only[Tf,ew];omega
 ·have gu:d.length<=i:=by simpa using gu
  rw[aN gu]at hs
  refine bh ?_
  show((_,x,d):List Int×List kO×List Bool)=_
  rw[<-hs];simp[ia,mq]
def ue(c:gg)(m:List Int):gg×List kO:=
 if uf c=true/\c.B9<=10/\jK m=c.B0.length then
  ({B0:=cO c.B0.length false,B9:=wrap .i64 (c.B9+1),D6:=wrap .i64 (c.D6+(ia c.B0 0).length)},mq m (ia c.B0 0))
 else(c,[])
theorem Zki{c:gg}(h:uf c=true):1<=c.B0.length/\c.B0.length<=32/\0<=c.B9/\c.B9<=11/\0<=c.D6/\c.D6<=352:=by
 simp only[uf,Th,Tree.m,eO,aE,decide_eq_true_eq]at h
 omega
theorem Zjf{c:gg}:uf c=decide (1<=c.B0.length/\c.B0.length<=32/\0<=c.B9/\c.B9<=11/\0<=c.D6/\c.D6<=352):=by
 cases h:uf c with
 |true=>exact(dY (Zki h)).symm
 |false=>
  refine(dN λhh=>?_).symm
  have:uf c=true:=by
   simp only[uf,Th,Tree.m,eO,aE,decide_eq_true_eq]
   omega
  rw[h]at this;cases this
theorem Ti{c:gg}(hb:c.B0.length<=1000000000000):Xy c/\Ob c=c:=by
 refine⟨?_,rfl⟩
 show(Tj c).p
 exact c9 (show c.B0.length<=140737488355328 by omega) (aq λ_ _=>bh trivial)
theorem y4{c:gg}{fi:Int}(hb:c.B0.length<=1000000000000):Qhb c fi/\IB c fi=(uf c&&(decide (((ia c.B0 0).length:Int)<=fi)||decide (c.B9>=10))):=by
 have h:(Oc c fi).w λr=>r=(uf c&&(decide (((ia c.B0 0).length:Int)<=fi)||decide (c.B9>=10))):=by
  unfold Oc
  refine aq λv hv=>?_
  have hv:v=uf c:=hv
  subst hv
  refine ae (λh1=>?_) (λh1=>bh ?_)
  ·obtain⟨g1,g2⟩:=yM hb
   refine c9 g1 (aq λx hx=>?_)
   have hx:x=Td c:=hx
   rw[g2]at hx;subst hx
   rw[h1]
   refine ae (λh2=>bh ?_) (λh2=>bh ?_)
   ·rw[h2];rfl
   ·rw[h2];simp
  ·rw[h1];rfl
 exact Tree.pp h
theorem qaF{P:Nat}(h0:1<=P)(h1:P<=32):Qm9 P/\Z0s P=cO (32*P) 0:=by
 have h:(Od P).w λr=>r=cO (32*P) 0:=by
  unfold Od
  have e:wrap .i64 ((P:Int)*32)=(P:Int)*32:=wi (by omega) (by omega)
  refine ae (λh=>by simp at h;omega) (λ_=>ae (λh=>by simp at h;omega) (λ_=>?_))
  rw[e]
  refine ax (by rw[dY (by omega)];rfl) (bh ?_)
  congr 1;omega
 exact Tree.pp h
theorem zam{P:Nat}(h0:1<=P)(h1:P<=32):Qf P/\Qp2 P=(⟨cO P true,0,0⟩,true):=by
 have h:(Oe P).w λr=>r=(⟨cO P true,0,0⟩,true):=by
  unfold Oe
  refine ae (λh=>by simp at h;omega) (λ_=>ae (λh=>by simp at h;omega) (λ_=>ax (by rw[dY (by omega)];rfl) ?_))
  refine fp (inv:=λz:Int×List Bool=>∃i:Nat,z.1=i/\i<=P/\z.2=cO i true++cO (P-i) false) (μ:=Xz P) ⟨0,rfl,bC _,by simp⟩ (cN _) ?_
  rintro⟨_,x⟩ ⟨i,rfl,hi,hx⟩
  simp only at hx
  refine ae (λbg=>?_) (λgu=>?_)
  ·have bg:i<P:=by simpa using bg
   have ew:wrap .i64 ((i:Int)+1)=((i+1:Nat):Int):=by rw[wi (by omega) (by omega)];omega
   have hl:x.length=P:=by rw[hx];simp;omega
   refine ax (by rw[hl];exact mJ bg) (e6 ⟨⟨i+1,ew,bg,?_⟩,?_⟩)
   ·show x.set (dA (i:Int)) true=_
    rw[hx,dX,List.set_append_right _ _ (by simp),show P-i=(P-(i+1))+1 by omega,List.replicate_succ,eQ]
    simp
   ·simp only[Xz,ew];omega
  ·have gu:P<=i:=by simpa using gu
   have:i=P:=by omega
   subst this
   refine bh ?_
   show(({B0:=x,B9:=(0:Int),D6:=(0:Int)}:gg),true)=_
   rw[hx];simp
 exact Tree.pp h
def pW:List Bool->List Int->List Bool
 |d,[]=>d
 |d,f::l=>pW (if 0<=f/\f<d.length then d.set f.toNat true else d) l
theorem Z1h:∀(l:List Int) (d:List Bool),(pW d l).length=d.length
 |[],_=>rfl
 |f::l,d=>by simp only[pW];rw[Z1h];split<;>simp
theorem zaF{c:gg}{l:List Int}(hb:c.B0.length<=1000000000000)(hl:l.length<=1000000000000):XA c l/\Tk c l={c with B0:=pW c.B0 l}:=by
 have h:(Of c l).w λr=>r={c with B0:=pW c.B0 l}:=by
  unfold Of
  refine c9 (Ti hb).1 (aq λx hx=>?_)
  have hx:x=Ob c:=hx
  rw[(Ti hb).2]at hx;subst hx
  refine fp (inv:=λz:Int×List Bool=>∃i:Nat,z.1=i/\i<=l.length/\pW z.2 (l.drop i)=pW x.B0 l) (μ:=Lp x l) ⟨0,rfl,bC _,by simp⟩ (cN _) ?_
  rintro⟨_,d⟩ ⟨i,rfl,hi,hd⟩
  simp only at hd
  refine ae (λbg=>?_) (λgu=>?_)
  ·have bg:i<l.length:=by simpa using bg
   have ew:wrap .i64 ((i:Int)+1)=((i+1:Nat):Int):=by rw[wi (by omega) (by omega)];omega
   have lJ:l.drop i=l.getD i 0::l.drop (i+1):=by
    rw[aO bg];congr 1;simp[aV,bg]
   rw[lJ,pW]at hd
   have mx:Lp x l (wrap .i64 ((i:Int)+1),d)<Lp x l ((i:Int),d):=by simp only[Lp,ew];omega
   have skip:¬(0<=l.getD i 0/\l.getD i 0<d.length)->(∃j:Nat,wrap .i64 ((i:Int)+1)=j/\j<=l.length/\pW d (l.drop j)=pW x.B0 l):=λhn=>by
    rw[if_neg hn]at hd
    exact⟨i+1,ew,bg,hd⟩
   refine ax (mJ bg) ?_
   refine ae (λh1=>?_) (λh1=>e6 ⟨skip (λh=>oN h1 h.1),mx⟩)
   have h1:0<=l.getD i 0:=oY h1
   refine ae (λh2=>?_) (λh2=>e6 ⟨skip (λh=>oN h2 h.2),mx⟩)
   have h2:l.getD i 0<d.length:=oY h2
   refine ax (Bool.and_eq_true_iff.2 ⟨rfl,dY ⟨h1,h2⟩⟩) (e6 ⟨⟨i+1,ew,bg,?_⟩,?_⟩)
   ·rw[if_pos ⟨h1,h2⟩]at hd;exact hd
   ·simp only[Lp,ew];omega
  ·have gu:l.length<=i:=by simpa using gu
   rw[aN gu,pW]at hd
   refine bh ?_
   show({B0:=d,B9:=x.B9,D6:=x.D6}:gg)=_
   rw[hd]
 exact Tree.pp h
attribute [local irreducible] Ko
def Tree.V{β:Type}(t:Tree β)(W:β->Prop):Prop:=W t.m
section
variable {α β:Type} {W:β->Prop} {c:Bool} {t e:Tree β}
theorem lY{x:β}(h:W x):Tree.V (.lf x) W:=h
theorem IC{f:Prop}{x:β}{hf:f}(h:W x):Tree.V (.nx f x hf) W:=h
theorem kS(h:c=true->Tree.V t W)(g:c=false->Tree.V e W):Tree.V (.br c t e) W:=by
 cases c
 ·exact g rfl
 ·exact h rfl
theorem BV(g:Tree.V t W):Tree.V (.cn c t) W:=g
theorem nA{p:Prop}(g:Tree.V t W):Tree.V (.an p t) W:=g
theorem lF{x:α}{k:α->Tree β}(h:∀y,y=x->Tree.V (k y) W):Tree.V (.lv x k) W:=h x rfl
theorem EA{d:Inhabited β}{n:Nat}{f:Prop}{x:α}{k:α->Tree (α⊕β)}{hf:f}{inv:α->Prop}{μ:α->Nat}(h:inv x)(hn:μ x<n)(g:∀y,inv y->Tree.V (k y) (Sum.elim (λz=>inv z/\μ z<μ y) W)):Tree.V (.lp d n f x k hf) W:=by
 refine zB (P:=inv) (R:=W) (μ:=μ) (λa ha=>?_) n x h hn
 have:=g a ha
 unfold Tree.V at this
 revert this
 cases(k a).m with
 |inl z=>exactλh=>h
 |inr b=>exactλh=>h
end
structure gz(P:Nat)(m:bd):Prop where
 ok:ry P m
 may:AG m=true
section
variable {P:Nat} {m:bd} (h:gz P m)
include h
theorem gz.v:Ld m:=⟨h.ok.nZ,h.ok.mem.u,h.ok.lX,h.ok.u5,h.ok.target,h.ok.te⟩
theorem gz.s:w6 P m:=⟨h.ok.nZ,h.ok.mem,h.ok.lX,h.ok.u5,h.ok.target.1,h.ok.target.2⟩
theorem gz.XB:Ix m=true:=(Zpx h.v).symm.trans h.may
theorem Zkd:Gx m=false↔m.B5=false/\Iz m=false/\m.B6<1152921504606846976:=by
 simp only[Gx,S9,Tree.m,eh,h.XB]
 cases m.B5<;>cases Iz m<;>simp
theorem vM(hs:Gx m=false){clock:Int}(hc:U clock):gz P (Ab m clock).2/\(Ab m clock).2.B6=m.B6+1/\(Ab m clock).1.length<=1:=by
 have o:=Tree.post _ (Zaj h.ok hc)
 change(Ab m clock).1.length<=1/\ry P (Ab m clock).2/\(Ab m clock).2.B6=wrap .u64 (m.B6+1)at o
 have s:=(Tree.pp (Ww h.s h.ok.te hc)).2
 change _/\Good P m (DA m clock).1 at s
 have e:DA m clock=((Ab m clock).2,(Ab m clock).1):=by rw[yk h.v,Zol,hs];rfl
 rw[e]at s
 have hct:=((Zkd h).1 hs).2.2
 have h0:=h.ok.te
 refine⟨⟨o.2.1,s.2.may h.may⟩,?_,o.1⟩
 rw[o.2.2,wrap_u64];omega
end
theorem Zob{i:List Int}(hu:∀w∈i,U w)(hl:i.length<=256):gz 8 (kR 8 4 i).1/\(kR 8 4 i).1.B6=0:=by
 obtain⟨a,b⟩:=(Tree.pp (BE i hu hl)).2
 change ry 8 (kR 8 4 i).1 at a
 refine⟨⟨a,?_⟩,b⟩
 have e:(kR 8 4 i).2=true:=by
  have w:i64.wrap (8*32)=256:=by decide
  simp only[kR,Gf,Tree.m,w,eh,dN (show¬((i.length:Int)>256) by omega)]
  rfl
 obtain⟨a1,a2,a3,a4,a5,a6⟩:=xaM 8 4 i e
 exact(qaN _ 8 4 a1 a2 a3 a4 a5 _ a6).1
theorem zl{m:bd}(h:gz 8 m)(hc:m.B6<=87):Tree.V (H4 m [] 87) (λx=>x.2.2.2=0->gz 8 x.1/\x.1.B6<=87):=by
 have z:∀{k:Int} {p:Prop},k≠0->k=0->p:=λa b=>absurd b a
 unfold H4
 refine lF λx0 _=>kS (λ_=>lY (z (by decide))) λ_=>kS (λ_=>lY (z (by decide))) λ_=>kS (λ_=>lY (z (by decide))) λ_=>nA (lF λx1 _=>kS (λ_=>lY (z (by decide))) λ_=>nA (lF λx2 hx=>?_))
 rw[y0]at hx
 refine EA (inv:=λv:bd×List il=>gz 8 v.1/\v.1.B6<=87) (μ:=Wk m [] 87) ⟨by rw[hx];exact h,by rw[hx];exact hc⟩ (cN _) λv0 ⟨a1,a3⟩=>?_
 have a2:=a1.ok.te
 refine kS (λhb=>kS (λhm=>?_) (λ_=>lY λ_=>⟨a1,a3⟩)) (λ_=>lY λ_=>⟨a1,a3⟩)
 have hb:=oY hb
 have hm:=oY hm
 refine EA (inv:=λ_=>True) (μ:=Wl m [] 87 v0) trivial (cN _) λv1 _=>?_
 refine kS (λ_=>lY λ_=>⟨a1,a3⟩) λhh=>nA (lF λx3 h3=>kS (λ_=>lY λ_=>⟨a1,a3⟩) λhi=>nA (lF λx4 _=>kS (λ_=>lY (z (by decide))) λ_=>nA (lF λx5 h5=>BV (IC ?_))))
 obtain⟨b1,b2,_⟩:=vM a1 ((Zkd a1).2 ⟨hh,h3.symm.trans hi,hm⟩) (clock:=0) gh
 rw[<-h5]at b1 b2
 show(gz 8 x5.2/\x5.2.B6<=87)/\(87-x5.2.B6).toNat<(87-v0.1.B6).toNat
 exact⟨⟨b1,by omega⟩,by omega⟩
theorem Zie(kind:Int)(l:List Int)(hl:l.length*8<=reachBytes)(h40:l.length<=60):gz 8 (Tl kind l)/\(Tl kind l).B6<=87:=by
 show Tree.V (H5 kind l) (λm=>gz 8 m/\m.B6<=87)
 have code:=(Tree.pp (yd l hl)).2
 change((Tm l).length:Int)=l.length/\∀w∈Tm l,U w at code
 obtain⟨b1,b2⟩:=code
 unfold H5
 refine nA (lF λx0 nH=>kS (λ_=>nA (lF λx1 e1=>?_)) (λhk=>?_))
 ·have eb:x1.1=jG:=by rw[e1];rfl
  obtain⟨q1,q2⟩:jG.length<=160/\∀w∈jG,U w:=ye
  refine EA (inv:=λv:List Int=>v.length<=160/\v=jG++cO (v.length-jG.length) 0) (μ:=Wm kind l) ⟨by rw[eb];exact q1,by rw[eb];simp⟩ (cN _) λv0 ⟨a1,a2⟩=>?_
  have a3:jG.length<=v0.length:=by rw[a2,lA];omega
  refine kS (λhb=>?_) (λhb=>?_)
  ·have hb:=oY hb
   refine BV (IC ?_)
   show(_/\_)/\(_:Nat)<_
   refine⟨⟨by rw[lA,cY];omega,?_⟩,by show 160-(v0++[0]).length<160-v0.length;rw[lA,cY];omega⟩
   show v0++[0]=jG++cO ((v0++[0]).length-jG.length) 0
   rw[lA,cY,show v0.length+1-jG.length=(v0.length-jG.length)+1 by omega,eQ,<-aM,<-a2]
  ·have hb:=oN hb
   have hv:v0=ta:=by
    unfold ta
    rw[show(160:Nat)=v0.length by omega]
    exact a2
   subst hv
   have hp:=xf
   have Wn:∀w∈ta,U w:=λw hw=>(List.mem_append.1 hw).elim (q2 w) (BC _ w)
   refine nA (lF λx2 e2=>BV ?_)
   rw[<-e2]at b1 b2
   have hu:∀w∈ta++x2,U w:=λw hw=>(List.mem_append.1 hw).elim (Wn w) (b2 w)
   have hlen:(ta++x2).length<=256:=by rw[lA];omega
   refine kS (λhb=>?_) (λhb=>?_)
   ·have hb:=oY hb;omega
   ·obtain⟨c1,c2⟩:=Zob hu hlen
    refine nA (lF λx3 h3=>?_)
    rw[<-h3]at c1 c2
    have rn:=zl c1 (by omega)
    refine kS (λ_=>nA (lF λx4 hx=>lY ?_)) (λ_=>lY ⟨c1,by omega⟩)
    have e:x3=kR 8 4 (ta++(x2++cO (96-x2.length) 0)):=by
     rw[h3]
     have H6:(x2++cO (96-x2.length) (0:Int)).length=96:=by rw[lA,cS];omega
     refine qf _ _ hlen (by rw[lA,H6];omega) ?_
     rw[lA,lA,H6,hp,aM,aM,aM,show 256-(160+96)=0 by omega,show 256-(160+x2.length)=96-x2.length by omega]
     simp
    have h0:x4.2.2.2=0:=by
     rw[hx,e]
     exact vY _ (by rw[lA,cS];omega)
    exact(by rw[hx];exact rn:x4.2.2.2=0->gz 8 x4.1/\x4.1.B6<=87) h0
 ·have hk:=oN hk
  refine nA (lF λx2 e2=>BV ?_)
  rw[<-e2]at b1 b2
  refine kS (λhb=>?_) (λhb=>?_)
  ·have hb:=oY hb;omega
  ·obtain⟨c1,c2⟩:=Zob b2 (by omega)
   refine nA (lF λx3 h3=>?_)
   rw[<-h3]at c1 c2
   exact kS (λh=>absurd (eq_of_beq h) (by omega)) (λ_=>lY ⟨c1,by omega⟩)
theorem EB{P:Nat}{m:bd}(g:gz P m){clock:Int}(hc:U clock):gz P (DA m clock).1:=by
 have s:=(Tree.pp (Ww g.s g.ok.te hc)).2
 change _/\Good P m (DA m clock).1 at s
 have k:=s.2.ok
 exact⟨⟨k.nZ,k.mem,k.lX,k.u5,⟨k.target,k.given⟩,s.2.te⟩,s.2.may g.may⟩
theorem Z6e{P:Nat}{m:bd}(g:gz P m){clock:Int}(hc:U clock):Tn m clock:=(Tree.pp (Ww g.s g.ok.te hc)).1
theorem gz.mY{P:Nat}{m:bd}(h:gz P m):ep P m.Mem:=h.ok.mem
theorem Zpf{m:bd}(h:gz 8 m){M:List Int}(hM:ep 8 M):gz 8 {m with Mem:=M}:=by
 refine⟨⟨h.ok.nZ,hM,h.ok.lX,h.ok.u5,h.ok.target,h.ok.te⟩,?_⟩
 obtain⟨g1,g2,g3,g4,g5⟩:=(KG m).1 h.may
 have id:∀{p:Prop},p->p:=λh=>h
 refine(KG _).2 ⟨?_,g2,g3,g4,?_⟩
 ·show jK M≠0
  rw[tX hM];decide
 ·exact Ia (m:=m) (P:=8) h.ok.mem hM id id id id id g5
theorem qN:ep 8 (cO 256 0):=⟨by simp,by decide,by decide,λw hw=>by rw[eR hw];exact gh⟩
theorem xam{s t:List Int}(hl:s.length<=1000000000000):To s t=true->s=t:=by
 have h:(Lq s t).w λr=>r=true->s=t:=by
  unfold Lq
  refine ae (λ_=>bh λh=>by cases h) (λhe=>?_)
  have he:s.length=t.length:=by
   have:(s.length:Int)=t.length:=by simpa using he
   omega
  refine fp (inv:=λz:Int=>∃i:Nat,z=i/\i<=s.length/\∀j,j<i->s.getD j 0=t.getD j 0) (μ:=Og s t) ⟨0,rfl,bC _,λj h=>by omega⟩ (cN _) ?_
  rintro _ ⟨i,rfl,hi,hj⟩
  refine ae (λbg=>?_) (λgu=>bh λ_=>?_)
  ·have bg:i<s.length:=by simpa using bg
   have ew:wrap .i64 ((i:Int)+1)=((i+1:Nat):Int):=by rw[wi (by omega) (by omega)];omega
   refine ax (mJ bg) (ax (mJ (by omega)) (ae (λ_=>bh λh=>by cases h) (λheq=>e6 ⟨⟨i+1,ew,bg,λj Lr=>?_⟩,by simp only[Og,ew];omega⟩)))
   rw[dX]at heq
   rcases Nat.lt_succ_iff_lt_or_eq.1 Lr with h|h
   ·exact hj j h
   ·subst h;simpa using heq
  ·have gu:s.length<=i:=by simpa using gu
   refine bR he λj h1 h2=>?_
   have:=hj j (by omega)
   simpa[aV,h1,h2]using this
 exact(Tree.pp h).2
theorem Zir{a b:List Int}{P:Nat}(ha:ep P a)(hb:ep P b):XC a b/\(DB a b).length<=P/\ ∀k:Nat,k<P->(k:Int)∈DB a b\/(a.drop (k*32)).take 32=(b.drop (k*32)).take 32:=by
  have h:(Oh a b).w λr=>r.length<=P/\ ∀k:Nat,k<P->(k:Int)∈r\/(a.drop (k*32)).take 32=(b.drop (k*32)).take 32:=by
    have la:=ha.len
    have lb:=hb.len
    have hp:=ha.p2
    unfold Oh
    refine aq λx0 h0=>aq λx1 h1=> ?_
    have h0:x0=P:=h0.trans (Lo la hp)
    have h1:x1=P:=h1.trans (Lo lb hp)
    subst h0;subst h1
    refine ae (λh=>by simp at h) (λ_=> ?_)
    refine fp (inv:=λz:Int×List Int=> ∃i:Nat,z.1=i/\i<=P/\z.2.length<=i/\ ∀k:Nat,k<i->(k:Int)∈z.2\/(a.drop (k*32)).take 32=(b.drop (k*32)).take 32) (μ:=λz=>(P-z.1).toNat) ⟨0,rfl,bC _,by simp,λk h=>by omega⟩ (by simp only[Qht];omega) ?_
    rintro⟨_,x⟩ ⟨i,rfl,hi,hx,hk⟩
    simp only at hx hk
    refine ae (λbg=> ?_) (λgu=>bh ?_)
    . have bg:i<P:=by simpa using bg
      have ew:wrap .i64 ((i:Int)+1)=((i+1:Nat):Int):=by rw[wi (by omega) (by omega)];omega
      have e1:wrap .i64 ((i:Int)*32)=((i*32:Nat):Int):=by rw[wi (by omega) (by omega)];omega
      have e2:wrap .i64 (((i+1:Nat):Int)*32)=((i*32+32:Nat):Int):=by rw[wi (by omega) (by omega)];omega
      simp only[ew,e1,e2,dX,show i*32+32-i*32=32 by omega]
      refine ax (by rw[dY (by omega)];rfl) (ax (by rw[dY (by omega)];rfl) (c9 (show _<=_ by simp;omega) (aq λx2 h2=> ?_)))
      have h2:x2=To _ _:=h2
      refine ae (λhn=>ax (dY (by omega)) (e6 ⟨⟨i+1,rfl,bg,by simp;omega,λk uM=> ?_⟩,by omega⟩)) (λhn=>e6 ⟨⟨i+1,rfl,bg,by show x.length<=_;omega,λk uM=> ?_⟩,by omega⟩)
      . rcases Nat.lt_succ_iff_lt_or_eq.1 uM with h|h
        . rcases hk k h with h|h
          . exact .inl (eS _ h)
          . exact .inr h
        . subst h;exact .inl (by simp)
      . rcases Nat.lt_succ_iff_lt_or_eq.1 uM with h|h
        . exact hk k h
        . subst h
          have:x2=true:=by simpa using hn
          exact .inr (xam (by simp;omega) (h2.symm.trans this))
    . have gu:P<=i:=by simpa using gu
      exact⟨by show x.length<=P;omega,λk uM=>hk k (by omega)⟩
  exact Tree.pp h
theorem Tp:∀{l:List Int} {d:List Bool} {k:Nat},k<d.length->(d.getD k false=true\/(k:Int)∈l)->(pW d l).getD k false=true
 |[],d,k,_,h=>by
  rcases h with h|h
  ·exact h
  ·cases h
 |f :: l,d,k,hk,h=>by
  simp only[pW]
  by_cases hf:0<=f/\f<d.length
  ·rw [if_pos hf]
   refine Tp (by simpa using hk) ?_
   by_cases e:f.toNat=k
   ·refine .inl ?_
    subst e
    simp[aV,hk]
   ·rcases h with h|h
    ·refine .inl ?_
     rw[cX,List.getElem?_set_ne e,<-cX];exact h
    ·rcases List.mem_cons.1 h with h|h
     ·omega
     ·exact .inr h
  ·rw[if_neg hf]
   refine Tp hk ?_
   rcases h with h|h
   ·exact .inl h
   ·rcases List.mem_cons.1 h with h|h
    ·omega
    ·exact .inr h
theorem vl{a b:List Int}{j:Nat}(h:(a.drop (j/32*32)).take 32=(b.drop (j/32*32)).take 32):a.getD j 0=b.getD j 0:=by
 have e:=congrArg (λl=>l.getD (j%32) 0) h
 have hm:j%32<32:=Nat.mod_lt _ (by decide)
 simp only[cX,List.getElem?_take,hm,if_true,List.getElem?_drop]at e
 rw[show j/32*32+j%32=j by omega]at e
 simpa only[cX]using e
theorem y5{m d:List Int}{b:Nat}(h:m.getD (b/4) 0=d.getD (b/4) 0):lj m b=lj d b:=by unfold lj;rw[h]
theorem qm{c:gg}{m:List Int}{P:Nat}(hP:1<=P)(hm:ep P m)(hd:c.B0.length=P)(r0:0<=c.B9)(r1:c.B9<=10)(s0:0<=c.D6)(s1:c.D6<=352):ue c m=(⟨cO P false,c.B9+1,c.D6+(ia c.B0 0).length⟩,mq m (ia c.B0 0)):=by
 have:=Tb c.B0 0
 have hP2:=hm.p2
 unfold ue
 rw[if_pos ⟨by rw[Zjf];exact dY (by omega),r1,by rw[Lo (P:=P) hm.len hP2,hd]⟩,wi (by omega) (by omega),wi (by omega) (by omega),hd]
theorem xm{c:gg}{m:List Int}(hb:c.B0.length<=1000000000000):XD c m/\ID c m=ue c m:=by
 have h:(Oi c m).w λr=>r=ue c m:=by
  unfold Oi
  refine c9 (Ti hb).1 (aq λx hx=>?_)
  have hx:x=Ob c:=hx
  rw[(Ti hb).2]at hx;subst hx
  refine aq λv hv=>?_
  have hv:v=uf x:=hv
  refine ae (λh1=>bh ?_) (λh1=>?_)
  ·have:uf x=false:=by rw[hv]at h1;simpa using h1
   simp[ue,this]
  have hV:uf x=true:=by rw[hv]at h1;simpa using h1
  obtain⟨v1,v2,v3,v4,v5,v6⟩:=Zki hV
  refine ae (λh2=>bh ?_) (λh2=>?_)
  ·have:¬x.B9<=10:=by simpa using h2
   simp[ue,this]
  have h2:x.B9<=10:=by simpa using h2
  refine aq λp hp=>?_
  have hp:p=jK m:=hp
  refine ae (λh3=>bh ?_) (λh3=>?_)
  ·have:¬jK m=x.B0.length:=by rw[hp]at h3;simpa using h3
   simp[ue,this]
  have h3:jK m=x.B0.length:=by rw[hp]at h3;simpa using h3
  obtain⟨l1,l2⟩:=xl h3 v1
  have hr:=Tree.pp (qam l1 l2 rfl)
  refine aq λ_ _=>c9 hr.1 (aq λy hy=>ax ?_ (bh ?_))
  ·rw[dY (by omega)];rfl
  ·have hy:y=Tq m [] x.B0:=hy
   have e:Tq m [] x.B0=(m,mq m (ia x.B0 0),x.B0):=hr.2
   rw[hy,e]
   simp[ue,hV,h2,h3,mq]
 exact Tree.pp h
theorem xN{c:gg}{m:List Int}(hm:ep 8 m)(hd:c.B0.length=8)(r0:0<=c.B9)(r1:c.B9<=10)(s0:0<=c.D6)(s1:c.D6<=8*c.B9):ue c m=(⟨cO 8 false,c.B9+1,c.D6+(ia c.B0 0).length⟩,mq m (ia c.B0 0)):=
 qm (P:=8) (by decide) hm hd r0 r1 s0 (by omega)
theorem IE{m:List Int}(hm:ep 8 m){f:Nat}(hf:f<8):BN m f (jz m f).1/\(jz m f).2=true:=(Tree.pp (qi hm (f:=(f:Int)) (by omega) (by omega))).2
theorem zm{m:List Int}(hm:ep 8 m){f:Nat}(hf:f<8):(jz m f).1.length=128:=(IE hm hf).1.1
theorem Zco{a b:List Int}(ha:ep 8 a)(hb:ep 8 b){f:Nat}(hf:f<8)(h:∀k:Nat,k<128->lj a (f*128+k)=lj b (f*128+k)):(jz a f).1=(jz b f).1:=by
 obtain⟨p1,p2⟩:=(IE ha hf).1
 obtain⟨q1,q2⟩:=(IE hb hf).1
 have e:((f:Int)*128).toNat=f*128:=by omega
 refine vh (m:=a) (f:=f) ⟨p1,p2⟩ ⟨q1,λk hk=>?_⟩
 rw[q2 k hk,e,h k hk]
theorem zN{a b:List Int}(ha:ep 8 a)(hb:ep 8 b){f:Nat}(hf:f<8)(h:(jz a f).1=(jz b f).1){k:Nat}(hk:k<128):lj a (f*128+k)=lj b (f*128+k):=by
 have p:=(IE ha hf).1.2 k hk
 have q:=(IE hb hf).1.2 k hk
 have e:((f:Int)*128).toNat=f*128:=by omega
 rw[e]at p q
 rw[<-p,<-q,h]
theorem yN{a b:List Int}(ha:ep 8 a)(hb:ep 8 b){f:Nat}(hf:f<8)(h:¬(f:Int)∈DB a b):(jz a f).1=(jz b f).1:=by
 obtain⟨_,_,c⟩:=Zir ha hb
 refine Zco ha hb hf λk hk=>y5 ?_
 rcases c f hf with c|c
 ·exact absurd c h
 ·exact vl (by rw[show(f*128+k)/4/32=f by omega];exact c)
theorem Ts{m:List Int}(hm:ep 8 m){f:Nat}(hf:f<8){d:List UInt8}(hd:d.length=128):(rA m f d).2=true/\ep 8 (rA m f d).1/\∀b:Nat,lj (rA m f d).1 b=if(f:Int)*128<=b/\(b:Int)<(f:Int)*128+128 then((d.getD (b-(f:Int)*128).toNat 0).toNat:Int)else lj m b:=(Tree.pp (WH hm (f:=(f:Int)) (by omega) (by omega) hd)).2
theorem Zj7{m:List Int}(hm:ep 8 m){f:Nat}(hf:f<8){d:List UInt8}(hd:d.length=128):Tt m f d:=(Tree.pp (WH hm (f:=(f:Int)) (by omega) (by omega) hd)).1
theorem Zle{m:List Int}(hm:ep 8 m){f:Nat}(hf:f<8){d:List UInt8}(hd:d.length=128):ep 8 (rA m f d).1:=(Ts hm hf hd).2.1
theorem Znh{m:List Int}(hm:ep 8 m){f:Nat}(hf:f<8){d:List UInt8}(hd:d.length=128):(jz (rA m f d).1 f).1=d:=by
 obtain⟨_,ok,h⟩:=Ts hm hf hd
 refine vh (IE ok hf).1 ⟨hd,λk hk=>?_⟩
 rw[h,if_pos (by omega)]
 congr 3;omega
theorem Zlb{m:List Int}(hm:ep 8 m){f k:Nat}(hf:f<8)(hk:k<8)(hn:k≠f){d:List UInt8}(hd:d.length=128):(jz (rA m f d).1 k).1=(jz m k).1:=by
 obtain⟨_,ok,h⟩:=Ts hm hf hd
 refine Zco ok hm hk λj hj=>?_
 rw[h,if_neg (by omega)]
theorem ym{a b:List Int}(ha:ep 8 a)(hb:ep 8 b)(h:∀f:Nat,f<8->(jz a f).1=(jz b f).1):a=b:=by
 have la:=ha.len
 have lb:=hb.len
 refine xh (la.trans lb.symm) ha.u hb.u λk=>?_
 by_cases hk:k/128<8
 ·have:=zN ha hb hk (h _ hk) (k:=k%128) (Nat.mod_lt _ (by decide))
  rwa [show k/128*128+k%128=k by omega]at this
 ·refine y5 ?_
  simp[aV,aJ (show a.length<=k/4 by omega),aJ (show b.length<=k/4 by omega)]
theorem qan{c:gg}(hd:c.B0.length=8)(r0:0<=c.B9)(r1:c.B9<=11)(s0:0<=c.D6)(s1:c.D6<=8*c.B9):IB c 32=true:=by
 have:=Tb c.B0 0
 rw[(y4 (c:=c) (fi:=32) (by omega)).2,Zjf,dY (show 1<=c.B0.length/\c.B0.length<=32/\0<=c.B9/\c.B9<=11/\0<=c.D6/\c.D6<=352 by omega),dY (show((ia c.B0 0).length:Int)<=32 by omega)]
 rfl
def BW(s:iL):Prop:=s.ab.length=4/\(∀b∈s.ab,b.length=128)/\1<=s.D5/\s.D5<=2/\0<=s.D7
theorem Zpy{s:iL}(h:BW s):(Oj s).w λr=>r=true:=by
 obtain⟨b1,b2,b3,b4,b5⟩:=h
 unfold Oj
 refine ae (λh=>absurd (oY h) (by omega)) λ_=>ae (λh=>absurd (oY h) (by omega)) λ_=>ae (λh=>absurd (oY h) (by omega)) λ_=>?_
 refine fp (inv:=λz:Int=>∃i:Nat,z=i/\i<=s.ab.length) (μ:=XE s) ⟨0,rfl,bC _⟩ (cN _) ?_
 rintro _ ⟨i,rfl,hi⟩
 refine ae (λbg=>?_) (λgu=>ae (λh=>?_) (λ_=>bh (dY (by omega))))
 ·have bg:i<s.ab.length:=by simpa using bg
  have ew:wrap .i64 ((i:Int)+1)=((i+1:Nat):Int):=by rw[wi (by omega) (by omega)];omega
  refine ax (mJ bg) (ae (λh=>?_) (λ_=>e6 ⟨⟨i+1,ew,bg⟩,by simp only[XE,ew];omega⟩))
  exfalso
  have e:s.ab.getD (dA (i:Int)) (RK.ei RK.str)=s.ab[i]:=by simp[aV,bg]
  rw[e,b2 _ (eT bg)]at h
  cases h
 ·have h:s.D5=0:=by simpa using h
  omega
theorem XF{s:iL}(h:BW s){host:Int}(h0:0<=host)(seen:Int):(Ok s host seen).w λr=>r=if s.D5=seen then({s with D5:=s.D5+1,D7:=host},true)else(s,false):=by
 have v:=Tree.pp (Zpy h)
 obtain⟨b1,b2,b3,b4,b5⟩:=h
 unfold Ok
 have cp:(Ol s).w λr=>r=s:=by
  unfold Ol
  exact c9 (show s.ab.length<=1000000000000 by omega) (aq λx hx=>by have hx:x=s.ab:=hx;subst hx;exact bh rfl)
 refine c6 cp λx0 e0=>?_
 subst e0
 refine c9 v.1 (aq λx1 h1=>?_)
 have h1:x1=true:=h1.trans v.2
 subst h1
 refine ae (λh=>by cases h) λ_=>ae (λh=>absurd (oY h) (by omega)) λ_=>ae (λh=>bh ?_) λh=>?_
 ·have:x0.D5≠seen:=by simpa using h
  rw[if_neg this]
 ·have h:x0.D5=seen:=by simpa using h
  refine ae (λh=>absurd (oY h) (by omega)) λ_=>bh ?_
  have e:wrap .u64 (x0.D5+1)=x0.D5+1:=by rw[wrap_u64];omega
  rw[if_pos h,e]
theorem Zpe{s:iL}(h:BW s){host:Int}(h0:0<=host)(seen:Int):lZ s host seen=if s.D5=seen then({s with D5:=s.D5+1,D7:=host},true)else(s,false):=(Tree.pp (XF h h0 seen)).2
def zM:bd:=(RK.ei RK.aa).A0
def gq(l:List dx)(x:dx):List dx:=if l.length<64 then l++[x]else l
def oZ(l xs:List dx):List dx:=xs.foldl gq l
theorem Ls{l:List dx}{x y:dx}(h:y∈gq l x):y∈l\/y=x:=by
 unfold gq at h;split at h
 ·rcases List.mem_append.1 h with h|h
  ·exact .inl h
  ·exact .inr (List.mem_singleton.1 h)
 ·exact .inl h
theorem Lt{l:List dx}{x:dx}(h:l.length<=64):(gq l x).length<=64:=by
 unfold gq;split
 ·rw[lA,cY];omega
 ·exact h
theorem Qr{xs:List dx}:∀{l:List dx} {y:dx},y∈oZ l xs->y∈l\/y∈xs:=by
 induction xs with
 |nil=>intro l y h;exact .inl h
 |cons x xs ih=>
  intro l y h
  rcases ih (l:=gq l x) h with h|h
  ·rcases Ls h with h|h
   ·exact .inl h
   ·exact .inr (by rw[h];exact eU ..)
  ·exact .inr (eV _ h)
theorem Zgz{xs:List dx}:∀{l:List dx},l.length<=64->(oZ l xs).length<=64:=by
 induction xs with
 |nil=>intro l h;exact h
 |cons x xs ih=>intro l h;exact ih (l:=gq l x) (Lt h)
theorem vN{xs:List dx}:∀{l:List dx},l.length+xs.length<=64->oZ l xs=l++xs:=by
 induction xs with
 |nil=>intro l h;simp[oZ]
 |cons x xs ih=>
  intro l h
  have h:l.length+(xs.length+1)<=64:=h
  have e:gq l x=l++[x]:=if_pos (by omega)
  have:=ih (l:=l++[x]) (by rw[lA,cY];omega)
  show oZ (gq l x) xs=_
  rw[e,this,aM];rfl
def tn(r f:Int)(d:List UInt8):dx:=⟨1,r,f,d,zM,[]⟩
def ug(s:ik):dx:=⟨2,0,0,[],{s.A0 with Mem:=[]},s.A3⟩
def BX(k:Int):dx:=⟨k,0,0,[],zM,[]⟩
def rB(R fs:List Int)(v:Int):List Int:=fs.foldl (λR f=>R.set f.toNat v) R
theorem Tu{fs:List Int}{v:Int}:∀{R:List Int},(rB R fs v).length=R.length:=by
 induction fs with
 |nil=>intro R;rfl
 |cons x xs ih=>intro R;exact(ih (R:=R.set x.toNat v)).trans dC
theorem FI{R:List Int}{i k:Nat}{v:Int}(hk:k<R.length):(R.set i v).getD k 0=if i=k then v else R.getD k 0:=by
 simp only[cX,List.getElem?_set]
 by_cases h:i=k
 ·subst h;simp[hk]
 ·simp[h]
theorem Zc8{fs:List Int}{v:Int}(hf:∀f∈fs,0<=f):∀{R:List Int} {k:Nat},k<R.length->(rB R fs v).getD k 0=if(k:Int)∈fs then v else R.getD k 0:=by
 induction fs with
 |nil=>intro R k hk;simp[rB]
 |cons x xs ih=>
  intro R k hk
  have h:=ih (λf h=>hf f (eV _ h)) (R:=R.set x.toNat v) (k:=k) (by rw[dC];exact hk)
  show(rB (R.set x.toNat v) xs v).getD k 0=_
  rw[h,FI hk]
  have x0:=hf x (eU ..)
  by_cases h1:(k:Int)∈xs
  ·rw[if_pos h1,if_pos (eV _ h1)]
  ·rw [if_neg h1]
   by_cases h2:x.toNat=k
   ·rw[if_pos h2,if_pos (by rw[show(k:Int)=x by omega];exact eU ..)]
   ·rw[if_neg h2,if_neg (λh=>by
     rcases List.mem_cons.1 h with h|h
     ·omega
     ·exact h1 h)]
theorem vm:∀{D:List Bool} {k:Int} {f:Nat},k+(f:Int)∈ia D k↔D.getD f false=true
 |[],k,f=>by simp[ia]
 |b::D,k,0=>by
  have no:¬k∈ia D (k+1):=λh=>by have:=N6 h;omega
  simp only[ia]
  cases b<;>simp[no]
 |b ::D,k,f+1=>by
  have ih:=vm (D:=D) (k:=k+1) (f:=f)
  have e:k+((f+1:Nat):Int)=k+1+(f:Int):=by omega
  rw[e]
  simp only[ia,List.getD_cons_succ]
  split
  ·rw[List.mem_cons]
   constructor
   ·rintro(h|h)
    ·omega
    ·exact ih.1 h
   ·exactλh=>.inr (ih.2 h)
  ·exact ih
theorem Tv{D:List Bool}{f:Nat}:(f:Int)∈ia D 0↔D.getD f false=true:=by
 have:=vm (D:=D) (k:=0) (f:=f)
 rwa [Int.zero_add]at this
def Lu(g:da):da:=
 { g with
   A1:={g.A1 with B3:=(ue g.A1.B3 g.A1.A0.Mem).1,A3:=rB g.A1.A3 ((ue g.A1.B3 g.A1.A0.Mem).2.map (·.Frame)) (ue g.A1.B3 g.A1.A0.Mem).1.B9}
   A7:=oZ g.A7 ((ue g.A1.B3 g.A1.A0.Mem).2.map λp=>tn (ue g.A1.B3 g.A1.A0.Mem).1.B9 p.Frame p.F0)}
def GA(g:da):da:=
 {g with A1:={g.A1 with A4:=2},A7:=gq g.A7 (ug g.A1)}
def DC(g:da)(fi:Int):da:=
 if g.A1.A4=1/\IB g.A1.B3 fi=true then GA (Lu g)else g
def Qg(s:ik):List dx:=(List.range 8).map λf=>tn (s.A3.getD f 0) f (jz s.A0.Mem f).1
theorem qn(s:ik):(Qg s).length=8:=by
 unfold Qg;rw[eW,List.length_range]
def Lv(g:da):da:=
 if g.A1.A4=2 then{g with A7:=oZ g.A7 (Qg g.A1++[ug g.A1])}else g
def jX(g:da):Int:=if g.A1.A4=1\/g.A1.A4=3 then 0 else if g.A2.A4=3 then 1 else-1
def lL(m:bd)(clock:Int):Nat->bd
 |0=>m
 |n+1=>(DA (lL m clock n) clock).1
def runN(n:Int):Nat:=(min (max n 0) 64).toNat
def rC(s:ik)(m:bd):gg:=if s.A4=1 then{s.B3 with B0:=pW s.B3.B0 (DB s.A0.Mem m.Mem)}else s.B3
def jO(g:da)(n clock:Int):da:=
 if g.A1.A4=1\/g.A1.A4=3 then{g with A1:={g.A1 with A0:=lL g.A1.A0 clock (runN n),B3:=rC g.A1 (lL g.A1.A0 clock (runN n))}}
 else if g.A2.A4=3 then{g with A2:={g.A2 with A0:=lL g.A2.A0 clock (runN n)}}
 else g
def iH(t:ik)(x:dx):ik:=
 if¬(t.A4=0\/t.A4=1\/t.A4=2)then t
 else if x.C2=1 then
  (if 0<=x.Frame/\x.Frame<t.A3.length/\t.A3.getD x.Frame.toNat 0<x.B9 then
   {t with A4:=if t.A4=0 then 1 else t.A4,A0:={t.A0 with Mem:=(rA t.A0.Mem x.Frame x.F0).1},A3:=t.A3.set x.Frame.toNat x.B9}
  else t)
 else if x.C2=2 then(if t.A4=2 then t else{t with A4:=2,A0:={x.A0 with Mem:=t.A0.Mem},C1:=x.A3})
 else if x.C2=4 then{t with A4:=4}else t
def lM(g:da)(back:Bool):List dx:=if back=true then g.C0 else g.A7
def o4(g:da)(back:Bool)(l:List dx):da:=if back=true then{g with C0:=l}else{g with A7:=l}
def mK(l:List dx)(i:Int):Prop:=0<=i/\i<l.length
instance (l:List dx) (i:Int):Decidable (mK l i):=by unfold mK;infer_instance
def o5(l:List dx)(i:Int):dx:=l.getD i.toNat (RK.ei RK.aa)
def kT(l:List dx)(i:Int):List dx:=l.take i.toNat++l.drop (i.toNat+1)
def tq(g:da)(back:Bool)(i:Int):da:=if mK (lM g back) i then o4 g back (kT (lM g back) i)else g
def Lw(g:da)(back:Bool)(x:dx):da:=
 if back=true then(if g.A1.A4=2/\x.C2=3 then{g with A1:={g.A1 with A4:=4}}else g)else{g with A2:=iH g.A2 x}
def oa(g:da)(back:Bool)(i:Int):da:=if mK (lM g back) i then Lw (tq g back i) back (o5 (lM g back) i)else g
def AP(g:da)(back:Bool)(i:Int):da:=if mK (lM g back) i then o4 g back (gq (lM g back) (o5 (lM g back) i))else g
def Z4(g:da):Prop:=g.A2.A4=2/\g.A2.A3=g.A2.C1
instance (g:da):Decidable (Z4 g):=by unfold Z4;infer_instance
def sk(g:da):da:=
 if Z4 g then
  (if(lZ g.A9 1 g.A2.D5).2=true then{g with A9:=(lZ g.A9 1 g.A2.D5).1,A2:={g.A2 with A4:=3,D5:=(lZ g.A9 1 g.A2.D5).1.D5},C0:=gq g.C0 (BX 3)}
  else{g with A2:={g.A2 with A4:=4}})
 else g
def ob(g:da):da:=
 if g.A1.A4=1 then{g with A1:={g.A1 with A4:=3},A7:=gq g.A7 (BX 4)}
 else if g.A1.A4=2 then
  (if(lZ g.A9 0 g.A1.D5).2=true then{g with A9:=(lZ g.A9 0 g.A1.D5).1,A1:={g.A1 with A4:=3,D5:=(lZ g.A9 0 g.A1.D5).1.D5},A7:=gq g.A7 (BX 4)}
  else{g with A1:={g.A1 with A4:=4}})
 else g
def Om(g:da)(back:Bool):da:=if back=true then{g with A2:={g.A2 with A4:=4}}else{g with A1:={g.A1 with A4:=4}}
def AQ(g:da)(a:j7):da×Bool:=
 if a.C2=1 then(jO g a.N a.F5,true)
 else if a.C2=2 then(if g.A1.A4=1/\g.A1.B3.B9<10 then Lu g else g,true)
 else if a.C2=3 then(DC g a.N,true)
 else if a.C2=4 then(Lv g,true)
 else if a.C2=5 then(oa g a.C0 a.N,true)
 else if a.C2=6 then(tq g a.C0 a.N,true)
 else if a.C2=7 then(AP g a.C0 a.N,true)
 else if a.C2=8 then(sk g,true)
 else if a.C2=9 then(ob g,true)
 else if a.C2=10 then(Om g a.C0,true)
 else(g,false)
structure jx(x:dx):Prop where
 mem:x.A0.Mem=[]
 rl:x.A3.length<=8
 pg:x.C2=1->0<=x.Frame/\x.Frame<8/\x.F0.length=128
 stt:x.C2=2->∀M,ep 8 M->gz 8 {x.A0 with Mem:=M}
structure fy(g:da):Prop where
 src:gz 8 g.A1.A0
 dl:g.A1.B3.B0.length=8
 r0:0<=g.A1.B3.B9
 r1:g.A1.B3.B9<=11
 r2:g.A1.A4=1->g.A1.B3.B9<=10
 s0:0<=g.A1.B3.D6
 s1:g.A1.B3.D6<=8*g.A1.B3.B9
 rl:g.A1.A3.length=8
 sf:g.A1.C1.length<=8
 tc:g.A2.B3.B0.length<=8
 tl:g.A2.A3.length=8
 tm:ep 8 g.A2.A0.Mem
 tg:g.A2.A4=2\/g.A2.A4=3->gz 8 g.A2.A0
 tf:g.A2.C1.length<=8
 fl:g.A7.length<=64
 fo:∀x∈g.A7,jx x
 bl:g.C0.length<=64
 bo:∀x∈g.C0,jx x
 st:BW g.A9
theorem Zk0{m:List Int}(hm:ep 8 m){r:Int}{f:Nat}(hf:f<8):jx (tn r f (jz m f).1):=
 ⟨rfl,bC _,λ_=>⟨by show(0:Int)<=(f:Int);omega,by show(f:Int)<8;omega,zm hm hf⟩,λh=>absurd (show(1:Int)=2 from h) (by decide)⟩
theorem Zbe{s:ik}(h:gz 8 s.A0)(hr:s.A3.length<=8):jx (ug s):=
 ⟨rfl,hr,λh=>absurd (show(2:Int)=1 from h) (by decide),λ_ M hM=>Zpf h hM⟩
theorem XG{k:Int}(h1:k≠1)(h2:k≠2):jx (BX k):=⟨rfl,bC _,λh=>absurd h h1,λh=>absurd h h2⟩
theorem sn{l:List dx}{x:dx}(h:∀y∈l,jx y)(hx:jx x):∀y∈gq l x,jx y:=λy hy=>by
 rcases Ls hy with h1|h1
 ·exact h y h1
 ·rw[h1];exact hx
theorem BY{l xs:List dx}(h:∀y∈l,jx y)(hx:∀y∈xs,jx y):∀y∈oZ l xs,jx y:=λy hy=>(Qr hy).elim (h y) (hx y)
section
variable {g:da} (h:fy g)
include h
theorem fy.pX:ep 8 g.A1.A0.Mem:=h.src.mY
theorem fy.round(hr:g.A1.B3.B9<=10):ue g.A1.B3 g.A1.A0.Mem=(⟨cO 8 false,g.A1.B3.B9+1,g.A1.B3.D6+(ia g.A1.B3.B0 0).length⟩,mq g.A1.A0.Mem (ia g.A1.B3.B0 0)):=xN h.pX h.dl h.r0 hr h.s0 h.s1
end
theorem Zf(m l:List Int):(mq m l).map (·.Frame)=l:=by
 unfold mq;rw[List.map_map];exact List.map_id' l
def tt(c:gg)(m:List Int):List dx:=(mq m (ia c.B0 0)).map λp=>tn (c.B9+1) p.Frame p.F0
def mr(g:da):da:=
 { g with
   A1:={g.A1 with B3:=⟨cO 8 false,g.A1.B3.B9+1,g.A1.B3.D6+(ia g.A1.B3.B0 0).length⟩,A3:=rB g.A1.A3 (ia g.A1.B3.B0 0) (g.A1.B3.B9+1)}
   A7:=oZ g.A7 (tt g.A1.B3 g.A1.A0.Mem)}
theorem IF{g:da}(h:fy g)(hr:g.A1.B3.B9<=10):Lu g=mr g:=by
 unfold Lu mr tt
 rw[h.round hr]
 simp only[Zf]
theorem XH{D:List Bool}(h:D.length=8):(ia D 0).length<=8:=by have:=Tb D 0;omega
theorem z6{D:List Bool}:∀f∈ia D 0,0<=f:=λf hf=>(N6 hf).1
theorem Tw{c:gg}{m:List Int}{x:dx}(hd:c.B0.length=8)(h:x∈tt c m):∃f:Nat,f<8/\c.B0.getD f false=true/\x=tn (c.B9+1) f (jz m f).1:=by
 unfold tt mq at h
 obtain⟨p,hp,rfl⟩:=List.mem_map.1 h
 obtain⟨f,hf,rfl⟩:=List.mem_map.1 hp
 have h1:=N6 hf
 obtain⟨k,rfl⟩:∃k:Nat,f=k:=⟨f.toNat,by omega⟩
 exact⟨k,by omega,Tv.1 hf,rfl⟩
theorem qO{c:gg}{m:List Int}{f:Nat}(h:c.B0.getD f false=true):tn (c.B9+1) f (jz m f).1∈tt c m:=by
 unfold tt mq
 exact List.mem_map.2 ⟨_,List.mem_map.2 ⟨(f:Int),Tv.2 h,rfl⟩,rfl⟩
theorem xO{c:gg}{m:List Int}(hd:c.B0.length=8):(tt c m).length<=8:=by
 unfold tt mq
 rw[eW,eW]
 exact XH hd
theorem Zpz{g:da}(h:fy g)(hr:g.A1.B3.B9<=10)(hp:g.A1.A4=1->g.A1.B3.B9<=9):fy (mr g):=by
 have hs:=XH h.dl
 obtain⟨a1,a2,a3,a4,a5,a6,a7,a8,a9,kv,ky,a12,kz,kA,kB,a16,a17,a18,a19⟩:=h
 refine⟨a1,by simp[mr],by show 0<=g.A1.B3.B9+1;omega,by show g.A1.B3.B9+1<=11;omega,λe=>by have:=hp e;show g.A1.B3.B9+1<=10;omega,by show 0<=g.A1.B3.D6+_;omega,by show g.A1.B3.D6+((ia g.A1.B3.B0 0).length:Int)<=8*(g.A1.B3.B9+1);omega,Tu.trans a8,a9,kv,ky,a12,kz,kA,Zgz kB,BY a16 λy hy=>?_,a17,a18,a19⟩
 obtain⟨f,hf,_,rfl⟩:=Tw a2 hy
 exact Zk0 a1.mY hf
def EC(g:da):da:=GA (mr g)
theorem xn{g:da}(h:fy g)(hp:g.A1.A4=1):fy (EC g):=by
 have h2:=h.r2 hp
 have h':fy {g with A1:={g.A1 with A4:=2}}:=⟨h.src,h.dl,h.r0,h.r1,λe=>absurd (show(2:Int)=1 from e) (by decide),h.s0,h.s1,h.rl,h.sf,h.tc,h.tl,h.tm,h.tg,h.tf,h.fl,h.fo,h.bl,h.bo,h.st⟩
 have r:=Zpz h' h2 (λe=>absurd (show(2:Int)=1 from e) (by decide))
 exact⟨r.src,r.dl,r.r0,r.r1,λe=>absurd (show(2:Int)=1 from e) (by decide),r.s0,r.s1,r.rl,r.sf,r.tc,r.tl,r.tm,r.tg,r.tf,Lt r.fl,sn r.fo (Zbe r.src (Nat.le_of_eq r.rl)),r.bl,r.bo,r.st⟩
theorem zn{s:ik}{x:dx}(h:x∈Qg s):∃f:Nat,f<8/\x=tn (s.A3.getD f 0) f (jz s.A0.Mem f).1:=by
 obtain⟨f,hf,rfl⟩:=List.mem_map.1 h
 exact⟨f,List.mem_range.1 hf,rfl⟩
theorem Z7j{s:ik}{x:dx}(h:x∈Qg s++[ug s]):(∃f:Nat,f<8/\x=tn (s.A3.getD f 0) f (jz s.A0.Mem f).1)\/x=ug s:=by
 rcases List.mem_append.1 h with h|h
 ·exact .inl (zn h)
 ·exact .inr (List.mem_singleton.1 h)
theorem fy.IG{g:da}(h:fy g){l:List dx}(hl:l.length<=64)(ho:∀x∈l,jx x):fy {g with A7:=l}:=
 ⟨h.src,h.dl,h.r0,h.r1,h.r2,h.s0,h.s1,h.rl,h.sf,h.tc,h.tl,h.tm,h.tg,h.tf,hl,ho,h.bl,h.bo,h.st⟩
def On(g:da):da:={g with A7:=oZ g.A7 (Qg g.A1++[ug g.A1])}
theorem yn{g:da}(h:fy g):fy (On g):=by
 refine h.IG (l:=oZ g.A7 (Qg g.A1++[ug g.A1])) (Zgz h.fl) (BY h.fo λy hy=>?_)
 rcases Z7j hy with⟨f,hf,rfl⟩|rfl
 ·exact Zk0 h.pX hf
 ·exact Zbe h.src (by have:=h.rl;omega)
theorem IH{m:bd}(g:gz 8 m){clock:Int}(hc:U clock):∀n,gz 8 (lL m clock n)
 |0=>g
 |n+1=>EB (IH g hc n) hc
theorem vn{s:ik}{m:bd}:(rC s m).B0.length=s.B3.B0.length/\(rC s m).B9=s.B3.B9/\(rC s m).D6=s.B3.D6:=by
 unfold rC;split
 ·exact⟨Z1h _ _,rfl,rfl⟩
 ·exact⟨rfl,rfl,rfl⟩
theorem zan{g:da}(h:fy g){clock:Int}(hc:U clock)(n:Int):fy (jO g n clock):=by
 unfold jO
 split
 ·obtain⟨e1,e2,e3⟩:=vn (s:=g.A1) (m:=lL g.A1.A0 clock (runN n))
  exact⟨IH h.src hc _,e1.trans h.dl,by show 0<=(rC _ _).B9;rw[e2];exact h.r0,by show(rC _ _).B9<=_;rw[e2];exact h.r1,λe=>by show(rC _ _).B9<=_;rw[e2];exact h.r2 e,by show 0<=(rC _ _).D6;rw[e3];exact h.s0,by show(rC _ _).D6<=8*(rC _ _).B9;rw[e2,e3];exact h.s1,h.rl,h.sf,h.tc,h.tl,h.tm,h.tg,h.tf,h.fl,h.fo,h.bl,h.bo,h.st⟩
 ·split
  ·rename_i hp
   have gt:=IH (h.tg (.inr hp)) hc (runN n)
   exact⟨h.src,h.dl,h.r0,h.r1,h.r2,h.s0,h.s1,h.rl,h.sf,h.tc,h.tl,gt.mY,λ_=>gt,h.tf,h.fl,h.fo,h.bl,h.bo,h.st⟩
  ·exact h
structure Tx(t:ik):Prop where
 tc:t.B3.B0.length<=8
 tl:t.A3.length=8
 tm:ep 8 t.A0.Mem
 tg:t.A4=2\/t.A4=3->gz 8 t.A0
 tf:t.C1.length<=8
theorem fy.t{g:da}(h:fy g):Tx g.A2:=⟨h.tc,h.tl,h.tm,h.tg,h.tf⟩
theorem fy.II{g:da}(h:fy g){t:ik}(k:Tx t):fy {g with A2:=t}:=
 ⟨h.src,h.dl,h.r0,h.r1,h.r2,h.s0,h.s1,h.rl,h.sf,k.tc,k.tl,k.tm,k.tg,k.tf,h.fl,h.fo,h.bl,h.bo,h.st⟩
theorem xan{t:ik}(h:Tx t){x:dx}(hx:jx x):Tx (iH t x):=by
 unfold iH
 split
 ·exact h
 ·rename_i hp
  split
  ·rename_i hk
   split
   ·rename_i hf
    obtain⟨f0,f1,hd⟩:=hx.pg hk
    obtain⟨f,e⟩:∃f:Nat,x.Frame=f:=⟨x.Frame.toNat,by omega⟩
    have hm:ep 8 (rA t.A0.Mem x.Frame x.F0).1:=by rw[e];exact Zle h.tm (by omega) hd
    refine⟨h.tc,List.length_set.trans h.tl,hm,λhq=>?_,h.tf⟩
    have hq:(if t.A4=0 then(1:Int)else t.A4)=2\/(if t.A4=0 then(1:Int)else t.A4)=3:=hq
    refine Zpf (h.tg ?_) hm
    by_cases h0:t.A4=0
    ·rw[if_pos h0]at hq;omega
    ·rw[if_neg h0]at hq;exact hq
   ·exact h
  ·split
   ·rename_i hk
    split
    ·exact h
    ·exact⟨h.tc,h.tl,h.tm,λ_=>hx.stt hk _ h.tm,hx.rl⟩
   ·split
    ·exact⟨h.tc,h.tl,h.tm,λhq=>by have hq:(4:Int)=2\/(4:Int)=3:=hq;omega,h.tf⟩
    ·exact h
theorem GB{l:List dx}{i:Int}(h:mK l i):o5 l i∈l:=by
 obtain⟨h0,h1⟩:=h
 have hl:i.toNat<l.length:=by omega
 have e:o5 l i=l[i.toNat]:=by simp[o5,aV,hl]
 rw[e];exact eT hl
theorem Oo{l:List dx}{i:Int}{x:dx}(h:x∈kT l i):x∈l:=by
 rcases List.mem_append.1 h with h|h
 ·exact List.mem_of_mem_take h
 ·exact List.mem_of_mem_drop h
theorem qo{l:List dx}{i:Int}(h:mK l i):(kT l i).length+1=l.length:=by
 obtain⟨h0,h1⟩:=h
 unfold kT
 rw[lA,aD,List.length_drop];omega
theorem xo{l:List dx}{i:Int}(h:mK l i){x:dx}(hx:x∈l):x∈kT l i\/x=o5 l i:=by
 obtain⟨h0,h1⟩:=h
 have hl:i.toNat<l.length:=by omega
 have e:l=l.take i.toNat++l.drop i.toNat:=(List.take_append_drop ..).symm
 have e2:l.drop i.toNat=l[i.toNat]::l.drop (i.toNat+1):=aO hl
 have e3:o5 l i=l[i.toNat]:=by simp[o5,aV,hl]
 rw[e,e2]at hx
 rcases List.mem_append.1 hx with h|h
 ·exact .inl (eS _ h)
 ·rcases List.mem_cons.1 h with h|h
  ·exact .inr (h.trans e3.symm)
  ·exact .inl (eX _ h)
theorem fy.ED{g:da}(h:fy g){l:List dx}(hl:l.length<=64)(ho:∀x∈l,jx x):fy {g with C0:=l}:=
 ⟨h.src,h.dl,h.r0,h.r1,h.r2,h.s0,h.s1,h.rl,h.sf,h.tc,h.tl,h.tm,h.tg,h.tf,h.fl,h.fo,hl,ho,h.st⟩
theorem fy.F3{g:da}(h:fy g)(b:Bool):(lM g b).length<=64/\∀x∈lM g b,jx x:=by
 cases b
 ·exact⟨h.fl,h.fo⟩
 ·exact⟨h.bl,h.bo⟩
theorem fy.set{g:da}(h:fy g)(b:Bool){l:List dx}(hl:l.length<=64)(ho:∀x∈l,jx x):fy (o4 g b l):=by
 cases b
 ·exact h.IG hl ho
 ·exact h.ED hl ho
theorem XI{g:da}(h:fy g)(b:Bool)(i:Int):fy (tq g b i):=by
 unfold tq;split
 ·rename_i hi
  have:=qo hi
  have:=(h.F3 b).1
  exact h.set b (by omega) λx hx=>(h.F3 b).2 x (Oo hx)
 ·exact h
theorem zo{g:da}(h:fy g)(b:Bool)(i:Int):fy (AP g b i):=by
 unfold AP;split
 ·rename_i hi
  exact h.set b (Lt (h.F3 b).1) (sn (h.F3 b).2 ((h.F3 b).2 _ (GB hi)))
 ·exact h
theorem fy.phase{g:da}(h:fy g){p:Int}(hp:p=1->g.A1.B3.B9<=10):fy {g with A1:={g.A1 with A4:=p}}:=
 ⟨h.src,h.dl,h.r0,h.r1,hp,h.s0,h.s1,h.rl,h.sf,h.tc,h.tl,h.tm,h.tg,h.tf,h.fl,h.fo,h.bl,h.bo,h.st⟩
theorem qao{g:da}(h:fy g)(b:Bool){x:dx}(hx:jx x):fy (Lw g b x):=by
 cases b
 ·exact h.II (xan h.t hx)
 ·show fy (if g.A1.A4=2/\x.C2=3 then _ else g)
  split
  ·exact h.phase (λe=>absurd e (by decide))
  ·exact h
theorem Zau{g:da}(h:fy g)(b:Bool)(i:Int):fy (oa g b i):=by
 unfold oa;split
 ·rename_i hi
  exact qao (XI h b i) b ((h.F3 b).2 _ (GB hi))
 ·exact h
theorem zO{g:da}(h:fy g)(b:Bool):fy (Om g b):=by
 cases b
 ·exact h.phase (λe=>absurd e (by decide))
 ·exact h.II ⟨h.tc,h.tl,h.tm,λhq=>by have hq:(4:Int)=2\/(4:Int)=3:=hq;omega,h.tf⟩
def Ac(g:da):Prop:=∀f:Nat,f<8->
 g.A2.A3.getD f 0<=g.A1.A3.getD f 0/\
 g.A1.A3.getD f 0<=g.A1.B3.B9/\
 (g.A1.B3.B0.getD f false=false->0<g.A1.A3.getD f 0/\(g.A2.A3.getD f 0=g.A1.A3.getD f 0->(jz g.A1.A0.Mem f).1=(jz g.A2.A0.Mem f).1))/\
 ∀x∈g.A7,x.C2=1->x.Frame=f->x.B9<=g.A1.A3.getD f 0/\(g.A1.B3.B0.getD f false=false->x.B9=g.A1.A3.getD f 0->x.F0=(jz g.A1.A0.Mem f).1)
structure BZ(nc:Bool)(m:bd)(g:da):Prop where
 sp:g.A1.A4=1
 gn:g.A9.D5=1/\g.A1.D5=1/\g.A2.D5=1
 mc:g.A1.A0=m
 tp:g.A2.A4=0\/g.A2.A4=1\/(g.A2.A4=4/\nc=false)
 ks:∀x∈g.A7,x.C2=1
 bk:g.C0=[]
 tr:Ac g
structure GC(nc:Bool)(m:bd)(g:da):Prop where
 sp:g.A1.A4=3\/(g.A1.A4=4/\nc=false)
 gn:g.A9.D5=1/\g.A1.D5=1/\g.A2.D5=1
 mc:g.A1.A4=3->g.A1.A0=m
 tp:g.A2.A4=0\/g.A2.A4=1\/g.A2.A4=4
 ks:∀x∈g.A7,x.C2=1\/x.C2=4
 bk:g.C0=[]
structure o6(nc:Bool)(m:bd)(g:da):Prop where
 sp:g.A1.A4=2\/(g.A1.A4=4/\nc=false)
 gn:g.A9.D5=1/\g.A1.D5=1/\g.A2.D5=1
 mc:g.A1.A0=m
 cl:∀f,g.A1.B3.B0.getD f false=false
 tp:g.A2.A4=0\/g.A2.A4=1\/g.A2.A4=2\/(g.A2.A4=4/\nc=false)
 ks:∀x∈g.A7,x.C2=1\/(x.C2=2/\x.A0={m with Mem:=[]}/\x.A3=g.A1.A3)
 ts:g.A2.A4=2->g.A2.C1=g.A1.A3/\{g.A2.A0 with Mem:=[]}={m with Mem:=[]}
 bk:g.C0=[]
 tr:Ac g
structure GF(nc:Bool)(m:bd)(g:da):Prop where
 sp:g.A1.A4=3\/(g.A1.A4=4/\nc=false)
 gn:g.A9.D5=2/\g.A9.D7=0/\g.A2.D5=1
 mc:g.A1.A4=3->g.A1.A0=m
 tp:g.A2.A4≠3
 bk:g.C0=[]
structure Lx(nc:Bool)(m:bd)(g:da):Prop where
 sp:g.A1.A4=2\/g.A1.A4=4
 gn:g.A9.D5=2/\g.A9.D7=1/\g.A1.D5=1
 tp:g.A2.A4=3\/(g.A2.A4=4/\nc=false)
 mc:g.A2.A4=3->g.A2.A0=m
def DD(nc:Bool)(m:bd)(g:da):Prop:=BZ nc m g\/GC nc m g\/o6 nc m g\/GF nc m g\/Lx nc m g
def Inv(nc:Bool)(m:bd)(g:da):Prop:=fy g/\DD nc m g
theorem Zse(f:Nat):(cO 8 false).getD f false=false:=by
 simp only[cX,eY]
 split<;>rfl
theorem Zn1{g:da}(h:fy g)(t:Ac g):Ac (mr g):=by
 intro f hf
 obtain⟨t1,t2,t3,t4⟩:=t f hf
 have hg:(rB g.A1.A3 (ia g.A1.B3.B0 0) (g.A1.B3.B9+1)).getD f 0=if g.A1.B3.B0.getD f false=true then g.A1.B3.B9+1 else g.A1.A3.getD f 0:=by
  rw[Zc8 z6 (by rw[h.rl];exact hf)]
  simp only[Tv]
 show g.A2.A3.getD f 0<=(rB _ _ _).getD f 0/\(rB _ _ _).getD f 0<=g.A1.B3.B9+1/\((cO 8 false).getD f false=false->0<(rB _ _ _).getD f 0/\(g.A2.A3.getD f 0=(rB _ _ _).getD f 0->_))/\∀x∈oZ _ _,x.C2=1->x.Frame=f->x.B9<=(rB _ _ _).getD f 0/\((cO 8 false).getD f false=false->x.B9=(rB _ _ _).getD f 0->_)
 have r0:=h.r0
 rw[hg]
 cases hd:g.A1.B3.B0.getD f false
 ·rw[if_neg (by decide)]
  refine⟨t1,by omega,λ_=>t3 hd,λx hx k1 k2=>?_⟩
  rcases Qr hx with hx|hx
  ·exact⟨(t4 x hx k1 k2).1,λ_=>(t4 x hx k1 k2).2 hd⟩
  ·obtain⟨f',Ty,o7,rfl⟩:=Tw h.dl hx
   have e:(f':Int)=f:=k2
   have e:f'=f:=by omega
   rw[e,hd]at o7;cases o7
 ·rw[if_pos rfl]
  refine⟨by omega,by omega,λ_=>⟨by omega,λe=>by omega⟩,λx hx k1 k2=>?_⟩
  rcases Qr hx with hx|hx
  ·have:=(t4 x hx k1 k2).1
   exact⟨by omega,λ_ e=>by omega⟩
  ·obtain⟨f',Ty,o7,rfl⟩:=Tw h.dl hx
   have e:(f':Int)=f:=k2
   have e:f'=f:=by omega
   subst e
   exact⟨eN _,λ_ _=>rfl⟩
theorem Ac.pF{g:da}(t:Ac g){l:List dx}(hl:∀x∈l,x.C2=1->x∈g.A7\/∃f:Nat,f<8/\x=tn (g.A1.A3.getD f 0) f (jz g.A1.A0.Mem f).1):Ac {g with A7:=l}:=by
 intro f hf
 obtain⟨t1,t2,t3,t4⟩:=t f hf
 refine⟨t1,t2,t3,λx hx k1 k2=>?_⟩
 rcases hl x hx k1 with hx|⟨f',Ty,rfl⟩
 ·exact t4 x hx k1 k2
 ·have e:(f':Int)=f:=k2
  have e:f'=f:=by omega
  subst e
  exact⟨eN _,λ_ _=>rfl⟩
theorem yo{t:ik}{x:dx}(hk:x.C2=1):iH t x=t\/((t.A4=0\/t.A4=1\/t.A4=2)/\0<=x.Frame/\x.Frame<t.A3.length/\t.A3.getD x.Frame.toNat 0<x.B9/\iH t x={t with A4:=if t.A4=0 then 1 else t.A4,A0:={t.A0 with Mem:=(rA t.A0.Mem x.Frame x.F0).1},A3:=t.A3.set x.Frame.toNat x.B9}):=by
 by_cases hp:t.A4=0\/t.A4=1\/t.A4=2
 ·by_cases hc:0<=x.Frame/\x.Frame<t.A3.length/\t.A3.getD x.Frame.toNat 0<x.B9
  ·exact .inr ⟨hp,hc.1,hc.2.1,hc.2.2,by unfold iH;rw[if_neg (λh=>h hp),if_pos hk,if_pos hc]⟩
  ·exact .inl (by unfold iH;rw[if_neg (λh=>h hp),if_pos hk,if_neg hc])
 ·exact .inl (by unfold iH;rw[if_pos hp])
theorem Zck{g:da}(h:fy g)(t:Ac g){x:dx}(hx:jx x)(hk:x.C2=1)(hm:∀f:Nat,f<8->x.Frame=f->x.B9<=g.A1.A3.getD f 0/\(g.A1.B3.B0.getD f false=false->x.B9=g.A1.A3.getD f 0->x.F0=(jz g.A1.A0.Mem f).1)):Ac {g with A2:=iH g.A2 x}:=by
 obtain⟨f0,f1,hd⟩:=hx.pg hk
 obtain⟨k,ek⟩:∃f:Nat,x.Frame=f:=⟨x.Frame.toNat,by omega⟩
 have k8:k<8:=by omega
 intro f hf
 obtain⟨t1,t2,t3,t4⟩:=t f hf
 rcases yo (t:=g.A2) hk with e|⟨_,_,_,_,e⟩
 ·rw[e];exact⟨t1,t2,t3,t4⟩
 ·rw[e]
  obtain⟨m1,m2⟩:=hm k k8 ek
  have tl:=h.tl
  have sg:(g.A2.A3.set k x.B9).getD f 0=if k=f then x.B9 else g.A2.A3.getD f 0:=FI (by omega)
  show(g.A2.A3.set x.Frame.toNat x.B9).getD f 0<=_/\_/\(_->_/\((g.A2.A3.set x.Frame.toNat x.B9).getD f 0=_->_=(jz (rA g.A2.A0.Mem x.Frame x.F0).1 f).1))/\_
  rw[ek,dX,sg]
  by_cases e:k=f
  ·subst e
   rw[if_pos rfl]
   exact⟨m1,t2,λd=>⟨(t3 d).1,λe2=>by rw[Znh h.tm k8 hd];exact(m2 d e2).symm⟩,t4⟩
  ·rw[if_neg e]
   exact⟨t1,t2,λd=>⟨(t3 d).1,λe2=>by rw[Zlb h.tm k8 hf (λe3=>e e3.symm) hd];exact(t3 d).2 e2⟩,t4⟩
theorem Ly{t:ik}{x:dx}(hk:x.C2=1):(t.A4=0/\(iH t x).A4=1)\/(iH t x).A4=t.A4:=by
 rcases yo (t:=t) hk with e|⟨_,_,_,_,e⟩
 ·rw[e];exact .inr rfl
 ·rw[e]
  by_cases h:t.A4=0
  ·exact .inl ⟨h,by show(if t.A4=0 then(1:Int)else t.A4)=1;rw[if_pos h]⟩
  ·exact .inr (by show(if t.A4=0 then(1:Int)else t.A4)=_;rw[if_neg h])
theorem Zkg{t:ik}{x:dx}(hk:x.C2=1):(iH t x).D5=t.D5/\(iH t x).C1=t.C1/\{(iH t x).A0 with Mem:=[]}={t.A0 with Mem:=[]}:=by
 rcases yo (t:=t) hk with e|⟨_,_,_,_,e⟩<;>rw[e]<;>exact⟨rfl,rfl,rfl⟩
theorem Zpw{t:ik}{x:dx}:(iH t x).D5=t.D5:=by
 unfold iH
 repeat' split
 all_goals rfl
theorem vo{t:ik}{x:dx}(h:t.A4=3\/t.A4=4):iH t x=t:=by
 unfold iH
 rw[if_pos (by omega)]
theorem zao{t:ik}{x:dx}(h:t.A4≠3):(iH t x).A4≠3:=by
 by_cases hk:x.C2=1
 ·rcases Ly (t:=t) hk with⟨a,b⟩|b<;>omega
 ·unfold iH
  split
  ·exact h
  split
  ·split
   ·exact h
   ·show(2:Int)≠3;decide
  ·split
   ·show(4:Int)≠3;decide
   ·exact h
theorem qp{t:ik}{x:dx}(hk:x.C2=2)(hp:t.A4=0\/t.A4=1):iH t x={t with A4:=2,A0:={x.A0 with Mem:=t.A0.Mem},C1:=x.A3}:=by
 unfold iH
 rw[if_neg (by omega),if_neg (by omega),if_pos hk,if_neg (by omega)]
theorem xp{t:ik}{x:dx}(hk:x.C2=2)(hp:t.A4=2):iH t x=t:=by
 unfold iH
 rw[if_neg (by omega),if_neg (by omega),if_pos hk,if_pos hp]
theorem xaF{t:ik}{x:dx}(hk:x.C2=4):(iH t x).A4=4\/iH t x=t:=by
 by_cases hp:t.A4=0\/t.A4=1\/t.A4=2
 ·exact .inl (by unfold iH;rw[if_neg (λh=>h hp),if_neg (by omega),if_neg (by omega),if_pos hk])
 ·exact .inr (by unfold iH;rw[if_pos hp])
def uh(m:bd)(g:da)(a:j7):bd:=if a.C2=1/\0<=jX g then lL m a.F5 (runN a.N)else m
theorem Oq{g:da}(h:g.A1.A4=1\/g.A1.A4=3):jX g=0:=if_pos h
theorem y6{g:da}(h:g.A1.A4=2\/g.A1.A4=4)(t:g.A2.A4=3):jX g=1:=by
 unfold jX;rw[if_neg (by omega),if_pos t]
theorem Tz{g:da}(h:g.A1.A4=2\/g.A1.A4=4)(t:g.A2.A4≠3):jX g= -1:=by
 unfold jX;rw[if_neg (by omega),if_neg t]
section
variable {nc:Bool} {m:bd} {g:da}
theorem Inv.ok(h:Inv nc m g):fy g:=h.1
theorem xao(h:Inv nc m g){clock:Int}(hc:U clock)(n:Int):Inv nc (if 0<=jX g then lL m clock (runN n)else m) (jO g n clock):=by
 obtain⟨ok,c⟩:=h
 refine⟨zan ok hc n,?_⟩
 rcases c with c|c|c|c|c
 ·have hr:jX g=0:=Oq (.inl c.sp)
  have e:jO g n clock={g with A1:={g.A1 with A0:=lL g.A1.A0 clock (runN n),B3:=rC g.A1 (lL g.A1.A0 clock (runN n))}}:=if_pos (.inl c.sp)
  rw[hr,if_pos (by decide),e]
  have sg:=IH ok.src hc (runN n)
  have en:rC g.A1 (lL g.A1.A0 clock (runN n))={g.A1.B3 with B0:=pW g.A1.B3.B0 (DB g.A1.A0.Mem (lL g.A1.A0 clock (runN n)).Mem)}:=if_pos c.sp
  refine .inl ⟨c.sp,c.gn,by rw[<-c.mc],c.tp,c.ks,c.bk,λf hf=>?_⟩
  obtain⟨t1,t2,t3,t4⟩:=c.tr f hf
  rw[en]
  show _/\_/\((pW g.A1.B3.B0 _).getD f false=false->_/\(_->(jz (lL g.A1.A0 clock (runN n)).Mem f).1=_))/\∀x∈g.A7,_->_->_/\((pW g.A1.B3.B0 _).getD f false=false->_->_=(jz (lL g.A1.A0 clock (runN n)).Mem f).1)
  have dl:=ok.dl
  have no:(pW g.A1.B3.B0 (DB g.A1.A0.Mem (lL g.A1.A0 clock (runN n)).Mem)).getD f false=false->g.A1.B3.B0.getD f false=false/\(jz g.A1.A0.Mem f).1=(jz (lL g.A1.A0 clock (runN n)).Mem f).1:=λhd=>by
   constructor
   ·cases h:g.A1.B3.B0.getD f false with
    |false=>rfl
    |true=>rw[Tp (by omega) (.inl h)]at hd;cases hd
   ·refine yN ok.pX sg.mY hf λh=>?_
    rw[Tp (by omega) (.inr h)]at hd;cases hd
  refine⟨t1,t2,λd=>?_,λx hx k1 k2=>⟨(t4 x hx k1 k2).1,λd e=>?_⟩⟩
  ·obtain⟨d1,d2⟩:=no d
   exact⟨(t3 d1).1,λe=>by rw[<-d2];exact(t3 d1).2 e⟩
  ·obtain⟨d1,d2⟩:=no d
   rw[<-d2];exact(t4 x hx k1 k2).2 d1 e
 ·rcases c.sp with sp|⟨sp,np⟩
  ·have hr:jX g=0:=Oq (.inr sp)
   have e:jO g n clock={g with A1:={g.A1 with A0:=lL g.A1.A0 clock (runN n),B3:=rC g.A1 (lL g.A1.A0 clock (runN n))}}:=if_pos (.inr sp)
   rw[hr,if_pos (by decide),e]
   exact .inr (.inl ⟨.inl sp,c.gn,λ_=>by rw[<-c.mc sp],c.tp,c.ks,c.bk⟩)
  ·have hr:jX g= -1:=Tz (.inr sp) (by have:=c.tp;omega)
   have e:jO g n clock=g:=by unfold jO;rw[if_neg (by omega),if_neg (by have:=c.tp;omega)]
   rw[hr,if_neg (by decide),e]
   exact .inr (.inl c)
 ·have tp:=c.tp
  have sp:g.A1.A4=2\/g.A1.A4=4:=by have:=c.sp;omega
  have hr:jX g= -1:=Tz sp (by omega)
  have e:jO g n clock=g:=by unfold jO;rw[if_neg (by omega),if_neg (by omega)]
  rw[hr,if_neg (by decide),e]
  exact .inr (.inr (.inl c))
 ·rcases c.sp with sp|⟨sp,np⟩
  ·have hr:jX g=0:=Oq (.inr sp)
   have e:jO g n clock={g with A1:={g.A1 with A0:=lL g.A1.A0 clock (runN n),B3:=rC g.A1 (lL g.A1.A0 clock (runN n))}}:=if_pos (.inr sp)
   rw[hr,if_pos (by decide),e]
   exact .inr (.inr (.inr (.inl ⟨.inl sp,c.gn,λ_=>by rw[<-c.mc sp],c.tp,c.bk⟩)))
  ·have hr:jX g= -1:=Tz (.inr sp) c.tp
   have e:jO g n clock=g:=by unfold jO;rw[if_neg (by omega),if_neg c.tp]
   rw[hr,if_neg (by decide),e]
   exact .inr (.inr (.inr (.inl c)))
 ·rcases c.tp with tp|⟨tp,np⟩
  ·have hr:jX g=1:=y6 c.sp tp
   have sp:=c.sp
   have e:jO g n clock={g with A2:={g.A2 with A0:=lL g.A2.A0 clock (runN n)}}:=by unfold jO;rw[if_neg (by omega),if_pos tp]
   rw[hr,if_pos (by decide),e]
   exact .inr (.inr (.inr (.inr ⟨c.sp,c.gn,.inl tp,λ_=>by rw[<-c.mc tp]⟩)))
  ·have sp:=c.sp
   have hr:jX g= -1:=Tz sp (by omega)
   have e:jO g n clock=g:=by unfold jO;rw[if_neg (by omega),if_neg (by omega)]
   rw[hr,if_neg (by decide),e]
   exact .inr (.inr (.inr (.inr c)))
theorem TA(ok:fy g)(c:BZ nc m g):BZ nc m (mr g):=
 ⟨c.sp,c.gn,c.mc,c.tp,λx hx=>by
  rcases Qr hx with hx|hx
  ·exact c.ks x hx
  ·obtain⟨f,_,_,rfl⟩:=Tw ok.dl hx;rfl,c.bk,Zn1 ok c.tr⟩
theorem Zh5(h:Inv nc m g):Inv nc m (if g.A1.A4=1/\g.A1.B3.B9<10 then Lu g else g):=by
 split
 ·rename_i hp
  obtain⟨ok,c⟩:=h
  rw[IF ok (by omega)]
  refine⟨Zpz ok (by omega) (λ_=>by omega),?_⟩
  rcases c with c|c|c|c|c
  ·exact .inl (TA ok c)
  ·have:=c.sp;omega
  ·have:=c.sp;omega
  ·have:=c.sp;omega
  ·have:=c.sp;omega
 ·exact h
theorem XJ(ok:fy g)(c:BZ nc m g):o6 nc m (EC g):=by
 have r:=TA ok c
 refine⟨.inl rfl,r.gn,r.mc,λf=>Zse f,?_,λx hx=>?_,λh=>?_,r.bk,?_⟩
 ·have:=r.tp
  rcases this with p|p|p
  ·exact .inl p
  ·exact .inr (.inl p)
  ·exact .inr (.inr (.inr p))
 ·rcases Ls hx with hx|hx
  ·exact .inl (r.ks x hx)
  ·rw[hx];exact .inr ⟨rfl,by rw[<-r.mc];rfl,rfl⟩
 ·have h:(mr g).A2.A4=2:=h
  have:=r.tp
  omega
 ·refine Ac.pF (g:={mr g with A1:={(mr g).A1 with A4:=2}}) r.tr (l:=gq (mr g).A7 (ug (mr g).A1)) λx hx k1=>?_
  rcases Ls hx with hx|hx
  ·exact .inl hx
  ·rw[hx]at k1;exact absurd (show(2:Int)=1 from k1) (by decide)
theorem yO(h:Inv nc m g)(fi:Int):Inv nc m (DC g fi):=by
 unfold DC
 split
 ·rename_i hp
  obtain⟨ok,c⟩:=h
  rw[IF ok (ok.r2 hp.1)]
  refine⟨xn ok hp.1,?_⟩
  rcases c with c|c|c|c|c
  ·exact .inr (.inr (.inl (XJ ok c)))
  ·have:=c.sp;omega
  ·have:=c.sp;omega
  ·have:=c.sp;omega
  ·have:=c.sp;omega
 ·exact h
theorem o6.pF(c:o6 nc m g){l:List dx}(hk:∀x∈l,x∈g.A7\/(∃f:Nat,f<8/\x=tn (g.A1.A3.getD f 0) f (jz g.A1.A0.Mem f).1)\/x=ug g.A1):o6 nc m {g with A7:=l}:=by
 refine⟨c.sp,c.gn,c.mc,c.cl,c.tp,λx hx=>?_,c.ts,c.bk,c.tr.pF λx hx k1=>?_⟩
 ·rcases hk x hx with h|⟨f,hf,rfl⟩|rfl
  ·exact c.ks x h
  ·exact .inl rfl
  ·exact .inr ⟨rfl,by rw[<-c.mc];rfl,rfl⟩
 ·rcases hk x hx with h|h|rfl
  ·exact .inl h
  ·exact .inr h
  ·exact absurd (show(2:Int)=1 from k1) (by decide)
theorem Zjl(c:o6 nc m g):o6 nc m (On g):=
 o6.pF c (l:=oZ g.A7 (Qg g.A1++[ug g.A1])) λx hx=>by
  rcases Qr hx with hx|hx
  ·exact .inl hx
  ·exact .inr (Z7j hx)
theorem Zsm(h:Inv nc m g):Inv nc m (Lv g):=by
 unfold Lv
 split
 ·rename_i hp
  obtain⟨ok,c⟩:=h
  refine⟨yn ok,?_⟩
  rcases c with c|c|c|c|c
  ·have:=c.sp;omega
  ·have:=c.sp;omega
  ·exact .inr (.inr (.inl (Zjl c)))
  ·have:=c.sp;omega
  ·exact .inr (.inr (.inr (.inr ⟨c.sp,c.gn,c.tp,c.mc⟩)))
 ·exact h
theorem TB(c:DD nc m g)(b:Bool){l:List dx}(hl:∀x∈l,x∈lM g b):DD nc m (o4 g b l):=by
 cases b
 ·have hl:∀x∈l,x∈g.A7:=hl
  show DD nc m {g with A7:=l}
  rcases c with c|c|c|c|c
  ·exact .inl ⟨c.sp,c.gn,c.mc,c.tp,λx hx=>c.ks x (hl x hx),c.bk,c.tr.pF λx hx _=>.inl (hl x hx)⟩
  ·exact .inr (.inl ⟨c.sp,c.gn,c.mc,c.tp,λx hx=>c.ks x (hl x hx),c.bk⟩)
  ·exact .inr (.inr (.inl ⟨c.sp,c.gn,c.mc,c.cl,c.tp,λx hx=>c.ks x (hl x hx),c.ts,c.bk,c.tr.pF λx hx _=>.inl (hl x hx)⟩))
  ·exact .inr (.inr (.inr (.inl ⟨c.sp,c.gn,c.mc,c.tp,c.bk⟩)))
  ·exact .inr (.inr (.inr (.inr ⟨c.sp,c.gn,c.tp,c.mc⟩)))
 ·have hl:∀x∈l,x∈g.C0:=hl
  have hb:g.C0=[]->l=[]:=λe=>by
   cases l with
   |nil=>rfl
   |cons y l=>have:=hl y (eU ..);rw[e]at this;cases this
  show DD nc m {g with C0:=l}
  rcases c with c|c|c|c|c
  ·exact .inl ⟨c.sp,c.gn,c.mc,c.tp,c.ks,hb c.bk,c.tr⟩
  ·exact .inr (.inl ⟨c.sp,c.gn,c.mc,c.tp,c.ks,hb c.bk⟩)
  ·exact .inr (.inr (.inl ⟨c.sp,c.gn,c.mc,c.cl,c.tp,c.ks,c.ts,hb c.bk,c.tr⟩))
  ·exact .inr (.inr (.inr (.inl ⟨c.sp,c.gn,c.mc,c.tp,hb c.bk⟩)))
  ·exact .inr (.inr (.inr (.inr ⟨c.sp,c.gn,c.tp,c.mc⟩)))
theorem vO(h:Inv nc m g)(b:Bool)(i:Int):Inv nc m (tq g b i):=by
 refine⟨XI h.1 b i,?_⟩
 unfold tq;split
 ·exact TB h.2 b λx hx=>Oo hx
 ·exact h.2
theorem Zsg(h:Inv nc m g)(b:Bool)(i:Int):Inv nc m (AP g b i):=by
 refine⟨zo h.1 b i,?_⟩
 unfold AP;split
 ·rename_i hi
  refine TB h.2 b λx hx=>?_
  rcases Ls hx with hx|hx
  ·exact hx
  ·rw[hx];exact GB hi
 ·exact h.2
theorem zp(h:Inv nc m g)(b:Bool)(hn:nc=false):Inv nc m (Om g b):=by
 obtain⟨ok,c⟩:=h
 refine⟨zO ok b,?_⟩
 cases b
 ·show DD nc m {g with A1:={g.A1 with A4:=4}}
  have n3:({g.A1 with A4:=4}:ik).A4=3->False:=λe=>absurd (show(4:Int)=3 from e) (by decide)
  rcases c with c|c|c|c|c
  ·exact .inr (.inl ⟨.inr ⟨rfl,hn⟩,c.gn,λe=>(n3 e).elim,by have:=c.tp;show g.A2.A4=0\/g.A2.A4=1\/g.A2.A4=4;omega,λx hx=>.inl (c.ks x hx),c.bk⟩)
  ·exact .inr (.inl ⟨.inr ⟨rfl,hn⟩,c.gn,λe=>(n3 e).elim,c.tp,c.ks,c.bk⟩)
  ·exact .inr (.inr (.inl ⟨.inr ⟨rfl,hn⟩,c.gn,c.mc,c.cl,c.tp,c.ks,c.ts,c.bk,c.tr⟩))
  ·exact .inr (.inr (.inr (.inl ⟨.inr ⟨rfl,hn⟩,c.gn,λe=>(n3 e).elim,c.tp,c.bk⟩)))
  ·exact .inr (.inr (.inr (.inr ⟨.inr rfl,c.gn,c.tp,c.mc⟩)))
 ·show DD nc m {g with A2:={g.A2 with A4:=4}}
  have n2:({g.A2 with A4:=4}:ik).A4=2->False:=λe=>absurd (show(4:Int)=2 from e) (by decide)
  have n3:({g.A2 with A4:=4}:ik).A4=3->False:=λe=>absurd (show(4:Int)=3 from e) (by decide)
  rcases c with c|c|c|c|c
  ·exact .inl ⟨c.sp,c.gn,c.mc,.inr (.inr ⟨rfl,hn⟩),c.ks,c.bk,c.tr⟩
  ·exact .inr (.inl ⟨c.sp,c.gn,c.mc,.inr (.inr rfl),c.ks,c.bk⟩)
  ·exact .inr (.inr (.inl ⟨c.sp,c.gn,c.mc,c.cl,.inr (.inr (.inr ⟨rfl,hn⟩)),c.ks,λe=>(n2 e).elim,c.bk,c.tr⟩))
  ·exact .inr (.inr (.inr (.inl ⟨c.sp,c.gn,c.mc,λe=>n3 e,c.bk⟩)))
  ·exact .inr (.inr (.inr (.inr ⟨c.sp,c.gn,.inr ⟨rfl,hn⟩,λe=>(n3 e).elim⟩)))
theorem Zt3(ok:fy g)(c:DD nc m g){x:dx}(ox:jx x)(hx:x∈g.A7):DD nc m {g with A2:=iH g.A2 x}:=by
 rcases c with c|c|c|c|c
 ·have k:x.C2=1:=c.ks x hx
  have q:=Zkg (t:=g.A2) (x:=x) k
  refine .inl ⟨c.sp,⟨c.gn.1,c.gn.2.1,q.1.trans c.gn.2.2⟩,c.mc,?_,c.ks,c.bk,?_⟩
  ·show(iH g.A2 x).A4=0\/(iH g.A2 x).A4=1\/((iH g.A2 x).A4=4/\nc=false)
   rcases Ly (t:=g.A2) k with⟨a,b⟩|b
   ·exact .inr (.inl b)
   ·rw[b];exact c.tp
  ·exact Zck ok c.tr ox k (λf hf ef=>(c.tr f hf).2.2.2 x hx k ef)
 ·have k:x.C2=1\/x.C2=4:=c.ks x hx
  refine .inr (.inl ⟨c.sp,⟨c.gn.1,c.gn.2.1,Zpw.trans c.gn.2.2⟩,c.mc,?_,c.ks,c.bk⟩)
  have:=c.tp
  show(iH g.A2 x).A4=0\/(iH g.A2 x).A4=1\/(iH g.A2 x).A4=4
  rcases k with k|k
  ·rcases Ly (t:=g.A2) k with⟨a,b⟩|b<;>omega
  ·rcases xaF (t:=g.A2) k with b|b
   ·omega
   ·rw[b];exact this
 ·have k:x.C2=1\/(x.C2=2/\x.A0={m with Mem:=[]}/\x.A3=g.A1.A3):=c.ks x hx
  have tp:=c.tp
  rcases k with k|⟨k,e1,e2⟩
  ·have q:=Zkg (t:=g.A2) (x:=x) k
   have tr:Ac {g with A2:=iH g.A2 x}:=Zck ok c.tr ox k (λf hf ef=>(c.tr f hf).2.2.2 x hx k ef)
   refine .inr (.inr (.inl ⟨c.sp,⟨c.gn.1,c.gn.2.1,q.1.trans c.gn.2.2⟩,c.mc,c.cl,?_,c.ks,λh2=>?_,c.bk,tr⟩))
   ·show(iH g.A2 x).A4=0\/(iH g.A2 x).A4=1\/(iH g.A2 x).A4=2\/((iH g.A2 x).A4=4/\nc=false)
    rcases Ly (t:=g.A2) k with⟨a,b⟩|b
    ·exact .inr (.inl b)
    ·rw[b];exact tp
   ·have h2:(iH g.A2 x).A4=2:=h2
    have h3:g.A2.A4=2:=by rcases Ly (t:=g.A2) k with⟨a,b⟩|b<;>omega
    exact⟨q.2.1.trans (c.ts h3).1,q.2.2.trans (c.ts h3).2⟩
  ·rcases tp with tp|tp|tp|⟨tp,np⟩
   ·rw[qp k (.inl tp)]
    exact .inr (.inr (.inl ⟨c.sp,c.gn,c.mc,c.cl,.inr (.inr (.inl rfl)),c.ks,λ_=>⟨e2,by rw[e1]⟩,c.bk,c.tr⟩))
   ·rw[qp k (.inr tp)]
    exact .inr (.inr (.inl ⟨c.sp,c.gn,c.mc,c.cl,.inr (.inr (.inl rfl)),c.ks,λ_=>⟨e2,by rw[e1]⟩,c.bk,c.tr⟩))
   ·rw[xp k tp];exact .inr (.inr (.inl c))
   ·rw[vo (.inr tp)];exact .inr (.inr (.inl c))
 ·exact .inr (.inr (.inr (.inl ⟨c.sp,⟨c.gn.1,c.gn.2.1,Zpw.trans c.gn.2.2⟩,c.mc,zao c.tp,c.bk⟩)))
 ·rw[vo (by have:=c.tp;omega)];exact .inr (.inr (.inr (.inr c)))
end
section
variable {nc:Bool} {m:bd} {g:da}
theorem Z6l(h:Inv nc m g)(b:Bool)(i:Int):Inv nc m (oa g b i):=by
 refine⟨Zau h.1 b i,?_⟩
 obtain⟨ok,c⟩:=h
 unfold oa
 split
 ·rename_i hi
  have hx:=GB hi
  have ox:=(ok.F3 b).2 _ hx
  have el:tq g b i=o4 g b (kT (lM g b) i):=if_pos hi
  rw[el]
  cases b
  ·exact TB (Zt3 ok c ox hx) false λx hx=>(Oo hx:x∈g.A7)
  ·by_cases hc:(o4 g true (kT (lM g true) i)).A1.A4=2/\(o5 (lM g true) i).C2=3
   ·have eg:Lw (o4 g true (kT (lM g true) i)) true (o5 (lM g true) i)={g with C0:=kT g.C0 i,A1:={g.A1 with A4:=4}}:=if_pos hc
    rw[eg]
    have hb:g.C0≠[]:=λe=>by have hx:_∈g.C0:=hx;rw[e]at hx;cases hx
    rcases c with d|d|d|d|d
    ·exact absurd d.bk hb
    ·exact absurd d.bk hb
    ·exact absurd d.bk hb
    ·exact absurd d.bk hb
    ·exact .inr (.inr (.inr (.inr ⟨.inr rfl,d.gn,d.tp,d.mc⟩)))
   ·have eg:Lw (o4 g true (kT (lM g true) i)) true (o5 (lM g true) i)=o4 g true (kT (lM g true) i):=if_neg hc
    rw[eg]
    exact TB c true λx hx=>Oo hx
 ·exact c
theorem fy.store{g:da}(h:fy g){s:iL}(hs:BW s):fy {g with A9:=s}:=
 ⟨h.src,h.dl,h.r0,h.r1,h.r2,h.s0,h.s1,h.rl,h.sf,h.tc,h.tl,h.tm,h.tg,h.tf,h.fl,h.fo,h.bl,h.bo,hs⟩
theorem yp(ok:fy g)(c:o6 nc m g)(hf:Z4 g):g.A2.A0=m:=by
 obtain⟨h1,h2⟩:=hf
 obtain⟨f1,f2⟩:=c.ts h1
 have e:g.A2.A0.Mem=m.Mem:=by
  rw[<-c.mc]
  refine(ym ok.pX ok.tm λf hf=>?_).symm
  exact((c.tr f hf).2.2.1 (c.cl f)).2 (by rw[h2,f1])
 have q:∀a:bd,a={({a with Mem:=[]}:bd)with Mem:=a.Mem}:=λa=>rfl
 rw[q g.A2.A0,f2,e]
theorem Zk8{s:iL}(h:BW s){host seen:Int}(h0:0<=host)(e1:s.D5=1)(e2:seen=1):lZ s host seen=({s with D5:=2,D7:=host},true):=by
 rw[Zpe h h0,if_pos (e1.trans e2.symm),e1];rfl
theorem Zq1{s:iL}(h:BW s){host seen:Int}(h0:0<=host)(e:s.D5≠seen):lZ s host seen=(s,false):=by
 rw[Zpe h h0,if_neg e]
theorem vp(ok:fy g)(c:o6 nc m g)(hf:Z4 g):sk g={g with A9:={g.A9 with D5:=2,D7:=1},A2:={g.A2 with A4:=3,D5:=2},C0:=gq g.C0 (BX 3)}:=by
 unfold sk
 rw[if_pos hf,Zk8 ok.st (by decide) c.gn.1 c.gn.2.2,if_pos rfl]
theorem Zoz(ok:fy g)(c:o6 nc m g)(hf:Z4 g):fy (sk g)/\Lx nc m (sk g)/\(sk g).A2.A4=3:=by
 rw[vp ok c hf]
 obtain⟨b1,b2,b3,b4,b5⟩:=ok.st
 have hm:=yp ok c hf
 refine⟨⟨ok.src,ok.dl,ok.r0,ok.r1,ok.r2,ok.s0,ok.s1,ok.rl,ok.sf,ok.tc,ok.tl,ok.tm,λ_=>ok.tg (.inl hf.1),ok.tf,ok.fl,ok.fo,Lt ok.bl,sn ok.bo (XG (by decide) (by decide)),b1,b2,by show(1:Int)<=2;decide,by show(2:Int)<=2;decide,by show(0:Int)<=1;decide⟩,?_,rfl⟩
 exact⟨by have:=c.sp;show g.A1.A4=2\/g.A1.A4=4;omega,⟨rfl,rfl,c.gn.2.1⟩,.inl rfl,λ_=>hm⟩
theorem Zsp(h:Inv nc m g):Inv nc m (sk g):=by
 obtain⟨ok,c⟩:=h
 by_cases hf:Z4 g
 ·rcases c with c|c|c|c|c
  ·have:=c.tp;have:=hf.1;omega
  ·have:=c.tp;have:=hf.1;omega
  ·obtain⟨a,b,_⟩:=Zoz ok c hf
   exact⟨a,.inr (.inr (.inr (.inr b)))⟩
  ·have e:sk g={g with A2:={g.A2 with A4:=4}}:=by
    unfold sk
    rw[if_pos hf,Zq1 ok.st (by decide) (by rw[c.gn.1,c.gn.2.2];decide),if_neg eZ]
   rw[e]
   refine⟨ok.II ⟨ok.tc,ok.tl,ok.tm,λhq=>by have hq:(4:Int)=2\/(4:Int)=3:=hq;omega,ok.tf⟩,.inr (.inr (.inr (.inl ⟨c.sp,c.gn,c.mc,by show(4:Int)≠3;decide,c.bk⟩)))⟩
  ·have:=c.tp;have:=hf.1;omega
 ·have e:sk g=g:=if_neg hf
  rw[e];exact⟨ok,c⟩
theorem qP(ok:fy g)(c:BZ nc m g):fy (ob g)/\GC nc m (ob g):=by
 have e:ob g={g with A1:={g.A1 with A4:=3},A7:=gq g.A7 (BX 4)}:=if_pos c.sp
 rw[e]
 have k:=ok.phase (p:=3) (λe=>absurd e (by decide))
 refine⟨k.IG (Lt ok.fl) (sn ok.fo (XG (by decide) (by decide))),.inl rfl,c.gn,λ_=>c.mc,by have:=c.tp;show g.A2.A4=0\/g.A2.A4=1\/g.A2.A4=4;omega,λx hx=>?_,c.bk⟩
 rcases Ls hx with hx|rfl
 ·exact .inl (c.ks x hx)
 ·exact .inr rfl
theorem qq(ok:fy g)(c:o6 nc m g)(hp:g.A1.A4=2):ob g={g with A9:={g.A9 with D5:=2,D7:=0},A1:={g.A1 with A4:=3,D5:=2},A7:=gq g.A7 (BX 4)}:=by
 unfold ob
 rw[if_neg (by omega),if_pos hp,Zk8 ok.st (by decide) c.gn.1 c.gn.2.1,if_pos rfl]
theorem xP(ok:fy g)(c:o6 nc m g)(hp:g.A1.A4=2):fy (ob g)/\GF nc m (ob g)/\(ob g).A1.A4=3:=by
 rw[qq ok c hp]
 obtain⟨b1,b2,b3,b4,b5⟩:=ok.st
 refine⟨⟨ok.src,ok.dl,ok.r0,ok.r1,λe=>absurd (show(3:Int)=1 from e) (by decide),ok.s0,ok.s1,ok.rl,ok.sf,ok.tc,ok.tl,ok.tm,ok.tg,ok.tf,Lt ok.fl,sn ok.fo (XG (by decide) (by decide)),ok.bl,ok.bo,b1,b2,by show(1:Int)<=2;decide,by show(2:Int)<=2;decide,by show(0:Int)<=0;decide⟩,?_,rfl⟩
 exact⟨.inl rfl,⟨rfl,rfl,c.gn.2.2⟩,λ_=>c.mc,by have:=c.tp;show g.A2.A4≠3;omega,c.bk⟩
theorem zP(ok:fy g)(c:Lx nc m g):fy (ob g)/\Lx nc m (ob g)/\(ob g).A2=g.A2:=by
 have sp:=c.sp
 by_cases hp:g.A1.A4=2
 ·have e:ob g={g with A1:={g.A1 with A4:=4}}:=by
   unfold ob
   rw[if_neg (by omega),if_pos hp,Zq1 ok.st (by decide) (by rw[c.gn.1,c.gn.2.2];decide),if_neg eZ]
  rw[e]
  exact⟨ok.phase (λe=>absurd e (by decide)),⟨.inr rfl,c.gn,c.tp,c.mc⟩,rfl⟩
 ·have e:ob g=g:=by unfold ob;rw[if_neg (by omega),if_neg hp]
  rw[e];exact⟨ok,c,rfl⟩
theorem Zrw(h:Inv nc m g):Inv nc m (ob g):=by
 obtain⟨ok,c⟩:=h
 have no:g.A1.A4≠1->g.A1.A4≠2->ob g=g:=λa b=>by unfold ob;rw[if_neg a,if_neg b]
 rcases c with c|c|c|c|c
 ·obtain⟨a,b⟩:=qP ok c;exact⟨a,.inr (.inl b)⟩
 ·have:=c.sp
  rw[no (by omega) (by omega)];exact⟨ok,.inr (.inl c)⟩
 ·rcases c.sp with p|⟨p,_⟩
  ·obtain⟨a,b,_⟩:=xP ok c p;exact⟨a,.inr (.inr (.inr (.inl b)))⟩
  ·rw[no (by omega) (by omega)];exact⟨ok,.inr (.inr (.inl c))⟩
 ·have:=c.sp
  rw[no (by omega) (by omega)];exact⟨ok,.inr (.inr (.inr (.inl c)))⟩
 ·obtain⟨a,b,_⟩:=zP ok c;exact⟨a,.inr (.inr (.inr (.inr b)))⟩
theorem z7(h:Inv nc m g){a:j7}(hc:U a.F5)(hn:nc=true->a.C2≠10):Inv nc (uh m g a) (AQ g a).1:=by
 unfold AQ uh
 by_cases k1:a.C2=1
 ·rw[if_pos k1]
  have:=xao h hc a.N
  by_cases hr:0<=jX g
  ·rw[if_pos ⟨k1,hr⟩];rw[if_pos hr]at this;exact this
  ·rw[if_neg (λh=>hr h.2)];rw[if_neg hr]at this;exact this
 rw[if_neg k1,if_neg (λh=>k1 h.1)]
 by_cases k2:a.C2=2
 ·rw[if_pos k2];exact Zh5 h
 rw[if_neg k2]
 by_cases k3:a.C2=3
 ·rw[if_pos k3];exact yO h _
 rw[if_neg k3]
 by_cases k4:a.C2=4
 ·rw[if_pos k4];exact Zsm h
 rw[if_neg k4]
 by_cases k5:a.C2=5
 ·rw[if_pos k5];exact Z6l h _ _
 rw[if_neg k5]
 by_cases k6:a.C2=6
 ·rw[if_pos k6];exact vO h _ _
 rw[if_neg k6]
 by_cases k7:a.C2=7
 ·rw[if_pos k7];exact Zsg h _ _
 rw[if_neg k7]
 by_cases k8:a.C2=8
 ·rw[if_pos k8];exact Zsp h
 rw[if_neg k8]
 by_cases k9:a.C2=9
 ·rw[if_pos k9];exact Zrw h
 rw[if_neg k9]
 by_cases XK:a.C2=10
 ·rw[if_pos XK]
  refine zp h _ ?_
  cases nc
  ·rfl
  ·exact absurd XK (hn rfl)
 rw[if_neg XK];exact h
end
def Have(g:da):Prop:=∀f:Nat,f<8->g.A2.A3.getD f 0=g.A1.A3.getD f 0\/∃x∈g.A7,x.C2=1/\x.Frame=f/\x.B9=g.A1.A3.getD f 0
def EE(g:da):Prop:=g.A2.A4=2\/∃x∈g.A7,x.C2=2
def Le(g:da):Prop:=∀f:Nat,f<8->g.A2.A3.getD f 0<=g.A1.A3.getD f 0/\∀x∈g.A7,x.C2=1->x.Frame=f->x.B9<=g.A1.A3.getD f 0
theorem Ac.le{g:da}(t:Ac g):Le g:=λf hf=>⟨(t f hf).1,λx hx k e=>((t f hf).2.2.2 x hx k e).1⟩
theorem Zno{t:ik}{x:dx}(ht:t.A3.length=8)(hp:t.A4=0\/t.A4=1\/t.A4=2)(ox:jx x){f:Nat}(hf:f<8):(iH t x).A3.getD f 0=if x.C2=1/\x.Frame=f/\t.A3.getD f 0<x.B9 then x.B9 else t.A3.getD f 0:=by
 by_cases hk:x.C2=1
 ·obtain⟨f0,f1,_⟩:=ox.pg hk
  obtain⟨k,ek⟩:∃k:Nat,x.Frame=k:=⟨x.Frame.toNat,by omega⟩
  by_cases hc:0<=x.Frame/\x.Frame<t.A3.length/\t.A3.getD x.Frame.toNat 0<x.B9
  ·have e:iH t x={t with A4:=if t.A4=0 then 1 else t.A4,A0:={t.A0 with Mem:=(rA t.A0.Mem x.Frame x.F0).1},A3:=t.A3.set x.Frame.toNat x.B9}:=by
    unfold iH;rw[if_neg (λh=>h hp),if_pos hk,if_pos hc]
   rw[e]
   show(t.A3.set x.Frame.toNat x.B9).getD f 0=_
   rw[FI (by omega)]
   rw[ek,dX]at hc⊢
   by_cases e:k=f
   ·subst e
    rw[if_pos rfl,if_pos ⟨hk,rfl,hc.2.2⟩]
   ·rw[if_neg e,if_neg (λh=>e (by omega))]
  ·have e:iH t x=t:=by unfold iH;rw[if_neg (λh=>h hp),if_pos hk,if_neg hc]
   rw[e,if_neg (λh=>hc ⟨f0,by omega,by rw[h.2.1,dX];exact h.2.2⟩)]
 ·rw[if_neg (λh=>hk h.1)]
  unfold iH
  repeat' split
  all_goals first|rfl|exact absurd (by assumption) hk
structure IJ(g r:da)(x:dx):Prop where
 src:r.A1=g.A1
 sto:r.A9=g.A9
 bak:r.C0=g.C0
 sub:∀y∈r.A7,y∈g.A7
 spl:∀y∈g.A7,y∈r.A7\/y=x
 len:r.A7.length+1=g.A7.length
 mem:x∈g.A7
 tgt:r.A2=iH g.A2 x
theorem XL{g:da}{i:Int}(hi:mK g.A7 i):IJ g (oa g false i) (o5 g.A7 i):=by
 have e:oa g false i={g with A7:=kT g.A7 i,A2:=iH g.A2 (o5 g.A7 i)}:=by
  unfold oa tq lM
  simp only[Bool.false_eq_true,if_false,if_pos hi]
  rfl
 rw[e]
 exact⟨rfl,rfl,rfl,λy hy=>Oo hy,λy hy=>xo hi hy,qo hi,GB hi,rfl⟩
theorem xq{g:da}{i:Int}(hi:¬mK g.A7 i):oa g false i=g:=if_neg hi
section
variable {g r:da} {x:dx} (d:IJ g r x) (ok:fy g) (hp:g.A2.A4=0\/g.A2.A4=1\/g.A2.A4=2)
include d ok hp
theorem IJ.rounds{f:Nat}(hf:f<8):r.A2.A3.getD f 0=if x.C2=1/\x.Frame=f/\g.A2.A3.getD f 0<x.B9 then x.B9 else g.A2.A3.getD f 0:=by
 rw[d.tgt];exact Zno ok.tl hp (ok.fo x d.mem) hf
theorem IJ.le(h:Le g):Le r:=λf hf=>by
 rw[d.rounds ok hp hf,d.src]
 obtain⟨h1,h2⟩:=h f hf
 refine⟨?_,λy hy=>h2 y (d.sub y hy)⟩
 split
 ·rename_i hc;exact h2 x d.mem hc.1 hc.2.1
 ·exact h1
theorem IJ.have(l:Le g)(h:Have g):Have r:=λf hf=>by
 rw[d.rounds ok hp hf,d.src]
 obtain⟨l1,l2⟩:=l f hf
 rcases h f hf with h|⟨y,hy,k1,k2,k3⟩
 ·left
  rw[if_neg];exact h
  intro hc;have:=l2 x d.mem hc.1 hc.2.1;omega
 ·rcases d.spl y hy with hy|rfl
  ·exact .inr ⟨y,hy,k1,k2,k3⟩
  ·left
   split
   ·exact k3
   ·rename_i hc
    have:¬g.A2.A3.getD f 0<y.B9:=λh=>hc ⟨k1,k2,h⟩
    omega
omit ok in
theorem IJ.phase(hk:∀y∈g.A7,y.C2=1\/y.C2=2):(r.A2.A4=0\/r.A2.A4=1\/r.A2.A4=2)/\(r.A2.A4=2↔g.A2.A4=2\/x.C2=2):=by
 rw[d.tgt]
 rcases hk x d.mem with k|k
 ·rcases Ly (t:=g.A2) k with⟨a,b⟩|b
  ·rw[b];omega
  ·rw[b];omega
 ·by_cases h2:g.A2.A4=2
  ·rw[xp k h2];omega
  ·rw[qp k (by omega)]
   show((2:Int)=0\/(2:Int)=1\/(2:Int)=2)/\((2:Int)=2↔_)
   omega
omit ok in
theorem IJ.Ot(hk:∀y∈g.A7,y.C2=1\/y.C2=2)(h:EE g):EE r:=by
 obtain⟨_,p⟩:=d.phase hp hk
 rcases h with h|⟨y,hy,k⟩
 ·exact .inl (p.2 (.inl h))
 ·rcases d.spl y hy with hy|rfl
  ·exact .inr ⟨y,hy,k⟩
  ·exact .inl (p.2 (.inr k))
end
def jR:Nat->da->da
 |0,g=>g
 |n+1,g=>jR n (oa g false 0)
theorem in0{l:List dx}(h:l≠[]):mK l 0:=by
 cases l with
 |nil=>exact absurd rfl h
 |cons y l=>exact⟨by decide,by show(0:Int)<((l.length+1:Nat):Int);omega⟩
theorem zq{nc:Bool}{m:bd}:∀(n:Nat) {g:da},Inv nc m g->Inv nc m (jR n g)
 |0,_,h=>h
 |n+1,_,h=>zq n (Z6l h false 0)
theorem yq:∀(n:Nat) (g:da),(jR n g).A1=g.A1/\(jR n g).A9=g.A9/\(jR n g).C0=g.C0
 |0,g=>⟨rfl,rfl,rfl⟩
 |n +1,g=>by
  obtain⟨a,b,c⟩:=yq n (oa g false 0)
  by_cases h:mK g.A7 0
  ·have d:=XL h
   exact⟨a.trans d.src,b.trans d.sto,c.trans d.bak⟩
  ·have e:=xq h
   rw[e]at a b c
   show(jR n (oa g false 0)).A1=_/\(jR n (oa g false 0)).A9=_/\(jR n (oa g false 0)).C0=_
   rw[e]
   exact⟨a,b,c⟩
theorem vq:∀(n:Nat) (g:da),(jR n g).A7.length<=g.A7.length-n
 |0,g=>Nat.le_refl _
 |n + 1,g=>by
  have:=vq n (oa g false 0)
  by_cases h:mK g.A7 0
  ·have:=(XL h).len
   show(jR n (oa g false 0)).A7.length<=_;omega
  ·have e:=xq h
   have h0:g.A7.length=0:=by
    cases hl:g.A7 with
    |nil=>rfl
    |cons y l=>exact absurd (in0 (by rw[hl];simp)) h
   rw[e]at this
   show(jR n (oa g false 0)).A7.length<=_;rw[e];omega
theorem qr{n:Nat}{g:da}(h:g.A7.length<=n):(jR n g).A7=[]:=by
 have:=vq n g
 exact List.eq_nil_of_length_eq_zero (by omega)
structure Way(g:da):Prop where
 le:Le g
 hv:Have g
 ph:g.A2.A4=0\/g.A2.A4=1\/g.A2.A4=2
 ks:∀x∈g.A7,x.C2=1\/x.C2=2
theorem Way.next{g:da}(w:Way g)(ok:fy g)(i:Int):Way (oa g false i)/\(EE g->EE (oa g false i)):=by
 by_cases h:mK g.A7 i
 ·have d:=XL h
  exact⟨⟨d.le ok w.ph w.le,d.have ok w.ph w.le w.hv,(d.phase w.ph w.ks).1,λx hx=>w.ks x (d.sub x hx)⟩,d.Ot w.ph w.ks⟩
 ·rw[xq h];exact⟨w,λh=>h⟩
theorem Way.all:∀(n:Nat) {g:da},Way g->fy g->Way (jR n g)/\(EE g->EE (jR n g))
 |0,_,w,_=>⟨w,λh=>h⟩
 |n+1,g,w,ok=>by
  obtain⟨a,b⟩:=w.next ok 0
  obtain⟨c,d⟩:=Way.all n a (Zau ok false 0)
  exact⟨c,λh=>d (b h)⟩
theorem xr{a b:List Int}(ha:a.length=8)(hb:b.length=8)(h:∀f:Nat,f<8->a.getD f 0=b.getD f 0):a=b:=by
 refine bR (by omega) λi h1 h2=>?_
 have:=h i (by omega)
 simpa[aV,h1,h2]using this
theorem Way.done{g:da}(w:Way g)(ok:fy g)(he:g.A7=[]):g.A2.A3=g.A1.A3:=
 xr ok.tl ok.rl λf hf=>by
  rcases w.hv f hf with h|⟨x,hx,_⟩
  ·exact h
  ·rw[he]at hx;cases hx
theorem Way.full{nc:Bool}{m:bd}{g:da}(w:Way g)(ok:fy g)(c:o6 nc m g)(hs:EE g)(he:g.A7=[]):Z4 g:=by
 have hp:g.A2.A4=2:=by
  rcases hs with h|⟨x,hx,_⟩
  ·exact h
  ·rw[he]at hx;cases hx
 exact⟨hp,(w.done ok he).trans (c.ts hp).1.symm⟩
theorem o6.live{m:bd}{g:da}(c:o6 true m g):g.A1.A4=2/\(g.A2.A4=0\/g.A2.A4=1\/g.A2.A4=2):=by
 have h1:=c.sp
 have h2:=c.tp
 simp only[fA,and_false,or_false]at h1 h2
 exact⟨h1,h2⟩
theorem o6.ks2{nc:Bool}{m:bd}{g:da}(c:o6 nc m g):∀x∈g.A7,x.C2=1\/x.C2=2:=λx hx=>(c.ks x hx).elim .inl (λh=>.inr h.1)
section
variable {nc:Bool} {m:bd} {g:da}
def Ca(m:bd)(b:List (List UInt8)):da:=
 ⟨⟨1,m,⟨cO 8 true,0,0⟩,cO 8 0,[],1⟩,⟨0,{zM with Mem:=cO 256 0},⟨[],0,0⟩,cO 8 0,[],1⟩,[],[],⟨b,1,0⟩⟩
theorem qaG(f:Nat):(cO 8 (0:Int)).getD f 0=0:=by
 simp only[cX,eY]
 split<;>rfl
theorem zr{f:Nat}(hf:f<8):(cO 8 true).getD f false=true:=by
 simp only[cX,eY,hf,if_true]
 rfl
theorem Zpq(hm:gz 8 m){b:List (List UInt8)}(hb:b.length=4)(hB:∀x∈b,x.length=128):fy (Ca m b):=
 ⟨hm,rfl,eN 0,by show(0:Int)<=11;decide,λ_=>by show(0:Int)<=10;decide,eN 0,by show(0:Int)<=8*0;decide,rfl,bC _,bC _,rfl,qN,λh=>by have h:(0:Int)=2\/(0:Int)=3:=h;omega,bC _,bC _,λx hx=>(by cases hx),bC _,λx hx=>(by cases hx),hb,hB,by show(1:Int)<=1;decide,by show(1:Int)<=2;decide,by show(0:Int)<=0;decide⟩
theorem wc(hm:gz 8 m)(b:List (List UInt8)):BZ nc m (Ca m b):=
 ⟨rfl,⟨rfl,rfl,rfl⟩,rfl,.inl rfl,λx hx=>(by cases hx),rfl,λf hf=>by
  show(cO 8 (0:Int)).getD f 0<=(cO 8 (0:Int)).getD f 0/\(cO 8 (0:Int)).getD f 0<=0/\((cO 8 true).getD f false=false->_)/\_
  rw[qaG,zr hf]
  exact⟨eN 0,eN 0,λh=>(by cases h),λx hx=>(by cases hx)⟩⟩
def ui(g:da)(l:List j7):da:=l.foldl (λg a=>(AQ g a).1) g
theorem Zgv(g:da)(l k:List j7):ui g (l++k)=ui (ui g l) k:=fB ..
def oc(k n:Int):j7:=⟨k,n,false,0⟩
theorem Zgf:∀(n:Nat) (g:da),ui g (cO n (oc 5 0))=jR n g
 |0,g=>rfl
 |n+1,g=>Zgf n (oa g false 0)
theorem zaG(c:DD nc m g)(hs:g.A9.D5=1)(hp:g.A1.A4=2):o6 nc m g:=by
 rcases c with c|c|c|c|c
 ·have:=c.sp;omega
 ·have:=c.sp;omega
 ·exact c
 ·have:=c.gn.1;omega
 ·have:=c.gn.1;omega
theorem seen(h:Inv nc m g)(hr:0<=jX g):(jX g=0/\g.A1.A0=m)\/(jX g=1/\g.A2.A0=m):=by
 by_cases h0:g.A1.A4=1\/g.A1.A4=3
 ·refine .inl ⟨Oq h0,?_⟩
  rcases h.2 with c|c|c|c|c
  ·exact c.mc
  ·have:=c.sp;exact c.mc (by omega)
  ·have:=c.sp;omega
  ·have:=c.sp;exact c.mc (by omega)
  ·have:=c.sp;omega
 ·by_cases h1:g.A2.A4=3
  ·have e:jX g=1:=by unfold jX;rw[if_neg h0,if_pos h1]
   refine .inr ⟨e,?_⟩
   rcases h.2 with c|c|c|c|c
   ·have:=c.tp;omega
   ·have:=c.tp;omega
   ·have:=c.tp;omega
   ·exact absurd h1 c.tp
   ·exact c.mc h1
  ·have e:jX g= -1:=by unfold jX;rw[if_neg h0,if_neg h1]
   omega
theorem Zr9{n:Nat}(h:Inv true m g)(c:o6 true m g)(w:Way g)(hs:EE g)(hn:g.A7.length<=n):Inv true m (sk (jR n g))/\Lx true m (sk (jR n g))/\(sk (jR n g)).A2.A4=3:=by
 obtain⟨e1,e2,e3⟩:=yq n g
 have hi:=zq n h
 obtain⟨w2,s2⟩:=Way.all n w h.1
 have c2:o6 true m (jR n g):=zaG hi.2 (by rw[e2];exact c.gn.1) (by rw[e1];exact c.live.1)
 obtain⟨a,b,p⟩:=Zoz hi.1 c2 (w2.full hi.1 c2 (s2 hs) (qr hn))
 exact⟨⟨a,.inr (.inr (.inr (.inr b)))⟩,b,p⟩
theorem xaG(h:Inv nc m g)(c:Lx nc m g)(hp:g.A2.A4=3):jX g=1/\g.A2.A0=m/\g.A9.D5=2/\g.A9.D7=1:=⟨y6 c.sp hp,c.mc hp,c.gn.1,c.gn.2.1⟩
theorem Zb4(g:da)(a:j7)(l:List j7):ui g (a::l)=ui (AQ g a).1 l:=rfl
theorem yP(b:Nat)(g:da):ui g (oc 2 0::oc 3 32::(cO b (oc 5 0)++[oc 8 0]))=sk (jR b (AQ (AQ g (oc 2 0)).1 (oc 3 32)).1):=by
 rw[Zb4,Zb4,Zgv,Zgf];rfl
theorem Zjh(ok:fy g)(c:BZ true m g)(w:Way g)(hl:g.A7.length+8<=64):Way (mr g)/\(mr g).A7.length<=g.A7.length+8:=by
 have cr:=TA ok c
 have sl:=xO (m:=g.A1.A0.Mem) ok.dl
 have e:(mr g).A7=g.A7++tt g.A1.B3 g.A1.A0.Mem:=vN (by omega)
 have tp:g.A2.A4=0\/g.A2.A4=1\/g.A2.A4=2:=w.ph
 refine⟨⟨cr.tr.le,λf hf=>?_,tp,λx hx=>.inl (cr.ks x hx)⟩,by rw[e,lA];omega⟩
 have hg:(mr g).A1.A3.getD f 0=if g.A1.B3.B0.getD f false=true then g.A1.B3.B9+1 else g.A1.A3.getD f 0:=by
  show(rB _ _ _).getD f 0=_
  rw[Zc8 z6 (by rw[ok.rl];exact hf)]
  simp only[Tv]
 rw[hg,e]
 cases hd:g.A1.B3.B0.getD f false
 ·rw[if_neg eZ]
  rcases w.hv f hf with h|⟨x,hx,k⟩
  ·exact .inl h
  ·exact .inr ⟨x,eS _ hx,k⟩
 ·rw[if_pos rfl]
  exact .inr ⟨_,eX _ (qO hd),rfl,rfl,rfl⟩
theorem vP(ok:fy g)(c:BZ true m g)(w:Way g)(hl:g.A7.length+9<=64):Way (EC g)/\EE (EC g)/\(EC g).A7.length<=g.A7.length+9:=by
 obtain⟨w1,l1⟩:=Zjh ok c w (by omega)
 have cb:=XJ ok c
 have e:(EC g).A7=(mr g).A7++[ug (mr g).A1]:=if_pos (by omega)
 refine⟨⟨cb.tr.le,λf hf=>?_,cb.live.2,cb.ks2⟩,.inr ⟨ug (mr g).A1,by rw[e];exact eX _ (List.mem_singleton.2 rfl),rfl⟩,by rw[e,lA,cY];omega⟩
 rw[e]
 rcases w1.hv f hf with h|⟨x,hx,k⟩
 ·exact .inl h
 ·exact .inr ⟨x,eS _ hx,k⟩
structure Calm(i:Int)(m:bd)(g:da):Prop where
 inv:Inv true m g
 c:BZ true m g
 f:g.A7=[]
 w:Way g
 r:g.A1.B3.B9=i
theorem BZ.XM(c:BZ true m g)(hf:g.A7=[])(he:g.A2.A3=g.A1.A3):Way g:=
 ⟨c.tr.le,λf _=>.inl (by rw[he]),by have:=c.tp;simp only[fA,and_false,or_false]at this;omega,λx hx=>by rw[hf]at hx;cases hx⟩
theorem qQ(hm:gz 8 m){b:List (List UInt8)}(hb:b.length=4)(hB:∀x∈b,x.length=128):Calm 0 m (Ca m b):=
 ⟨⟨Zpq hm hb hB,.inl (wc hm b)⟩,wc hm b,rfl,(wc hm b).XM rfl rfl,rfl⟩
theorem xQ{i:Int}(h:Calm i m g)(hi:i<=9):(AQ g (oc 2 0)).1=mr g:=by
 have hr:=h.r
 have e:(AQ g (oc 2 0)).1=if g.A1.A4=1/\g.A1.B3.B9<10 then Lu g else g:=rfl
 rw[e,if_pos ⟨h.c.sp,by omega⟩,IF h.inv.1 (by omega)]
theorem qap(ok:fy g)(hp:g.A1.A4=1):(AQ g (oc 3 32)).1=EC g:=by
 have e:(AQ g (oc 3 32)).1=DC g 32:=rfl
 rw[e]
 unfold DC
 rw[if_pos ⟨hp,qan ok.dl ok.r0 ok.r1 ok.s0 ok.s1⟩,IF ok (ok.r2 hp)]
 rfl
def Cb:List j7:=oc 2 0::oc 3 32::(cO 64 (oc 5 0)++[oc 8 0])
theorem EF{i:Int}(h:Calm i m g)(hi:i<=9):Inv true m (ui g Cb)/\jX (ui g Cb)=1/\(ui g Cb).A2.A0=m/\(ui g Cb).A9.D5=2/\(ui g Cb).A9.D7=1:=by
 have hr:=h.r
 have ok:=h.inv.1
 have i1:Inv true m (mr g):=by
  have:=Zh5 h.inv
  rwa [if_pos ⟨h.c.sp,by omega⟩,IF ok (by omega)]at this
 have c1:=TA ok h.c
 obtain⟨w1,l1⟩:=Zjh ok h.c h.w (by rw[h.f];decide)
 rw[h.f]at l1
 have l1:(mr g).A7.length<=8:=by simpa using l1
 obtain⟨w2,s2,l2⟩:=vP i1.1 c1 w1 (by omega)
 have ok2:=xn i1.1 c1.sp
 have c2:=XJ i1.1 c1
 obtain⟨i3,c3,p3⟩:=Zr9 (n:=64) ⟨ok2,.inr (.inr (.inl c2))⟩ c2 w2 s2 (by omega)
 have e:ui g Cb=sk (jR 64 (EC (mr g))):=by
  refine(yP 64 g).trans ?_
  rw[xQ h hi,qap i1.1 c1.sp]
 rw[e]
 exact⟨i3,xaG i3 c3 p3⟩
end
theorem bt{a b:Int}(h:(a==b)=true):a=b:=by simpa using h
theorem bf{a b:Int}(h:(a==b)=false):a≠b:=by simpa using h
theorem nt{a b:Int}(h:(a !=b)=true):a≠b:=by simpa using h
theorem Lz{a b:Int}(h:(a !=b)=false):a=b:=by simpa using h
def mv(g:da):dj:=⟨g.A1,g.A2,g.A7,g.C0,g.A9⟩
theorem yr{g:da}(b:Bool)(x:dx):(IK (mv g) b x).w λr=>r=mv (o4 g b (gq (lM g b) x)):=by
 unfold IK
 refine ae (λhb=>aq λ_ _=>ae (λh=>?_) (λh=>bh ?_)) (λhb=>aq λ_ _=>ae (λh=>?_) (λh=>bh ?_))
 ·subst hb
  have h:(g.C0.length:Int)<64:=oY h
  refine ax (dY (by show 328*(g.C0.length+1)<=_;omega)) (bh ?_)
  have e:gq g.C0 x=g.C0++[x]:=if_pos (by omega)
  show _=mv {g with C0:=gq g.C0 x}
  rw[e]<;>rfl
 ·subst hb
  have h:¬(g.C0.length:Int)<64:=oN h
  have e:gq g.C0 x=g.C0:=if_neg (by omega)
  show _=mv {g with C0:=gq g.C0 x}
  rw[e]<;>rfl
 ·subst hb
  have h:(g.A7.length:Int)<64:=oY h
  refine ax (dY (by show 328*(g.A7.length+1)<=_;omega)) (bh ?_)
  have e:gq g.A7 x=g.A7++[x]:=if_pos (by omega)
  show _=mv {g with A7:=gq g.A7 x}
  rw[e]<;>rfl
 ·subst hb
  have h:¬(g.A7.length:Int)<64:=oN h
  have e:gq g.A7 x=g.A7:=if_neg (by omega)
  show _=mv {g with A7:=gq g.A7 x}
  rw[e]<;>rfl
theorem Ou{g:da}(x:dx):(IK (mv g) false x).w λr=>r=mv {g with A7:=gq g.A7 x}:=yr false x
theorem vr{g:da}(x:dx):(IK (mv g) true x).w λr=>r=mv {g with C0:=gq g.C0 x}:=yr true x
theorem Zav{g:da}{c:kO}(h0:0<=c.Frame)(h1:c.Frame<g.A1.A3.length):(Ov (mv g) c).w λr=>r=mv {g with A7:=gq g.A7 (tn (g.A1.A3.getD c.Frame.toNat 0) c.Frame c.F0)}:=by
 unfold Ov
 refine ae (λ_=>ae (λ_=>ax ?_ (c6 (Ou (tn (g.A1.A3.getD c.Frame.toNat 0) c.Frame c.F0)) λx hx=>bh hx)) (λh=>absurd h1 (oN h))) (λh=>absurd h0 (oN h))
 show(bX _ _&&bN _ _&&decide _)=true
 rw[dY (show 0<=c.Frame/\c.Frame<((mv g).A1.A3.length:Int) from⟨h0,h1⟩)];rfl
theorem Z3v{g:da}(h:g.A1.A3.length=8):(Ow (mv g)).w λr=>r=mv {g with A7:=gq g.A7 (ug g.A1)}:=by
 unfold Ow
 refine c9 (show g.A1.A3.length<=1000000000000 by omega) (aq λx0 h0=>?_)
 have h0:x0=g.A1.A3:=h0
 subst h0
 exact c6 (Ou (ug g.A1)) λx hx=>bh hx
theorem zap{g:da}(b:Bool):(TC (mv g) b).w λr=>r=mv (Om g b):=by
 unfold TC
 refine ae (λh=>bh ?_) (λh=>bh ?_)<;>(subst h;rfl)
theorem zQ{g:da}(h:BW g.A9){host:Int}(h0:0<=host):(Ox (mv g) host).w λr=>r=if(lZ g.A9 host g.A1.D5).2=true then(true,mv {g with A9:=(lZ g.A9 host g.A1.D5).1,A1:={g.A1 with A4:=3,D5:=(lZ g.A9 host g.A1.D5).1.D5}})else(false,mv {g with A1:={g.A1 with A4:=4}}):=by
 unfold Ox
 have c:=Tree.pp (XF h h0 g.A1.D5)
 refine c9 c.1 (aq λx hx=>?_)
 have hx:x=lZ g.A9 host g.A1.D5:=hx
 subst hx
 refine ae (λhb=>bh ?_) (λhb=>bh ?_)
 ·have hb:(lZ g.A9 host g.A1.D5).2=false:=by simpa using hb
  rw[if_neg (by rw[hb];decide)];rfl
 ·have hb:(lZ g.A9 host g.A1.D5).2=true:=by simpa using hb
  rw[if_pos hb];rfl
theorem yQ{g:da}(h:BW g.A9){host:Int}(h0:0<=host):(Oy (mv g) host).w λr=>r=if(lZ g.A9 host g.A2.D5).2=true then(true,mv {g with A9:=(lZ g.A9 host g.A2.D5).1,A2:={g.A2 with A4:=3,D5:=(lZ g.A9 host g.A2.D5).1.D5}})else(false,mv {g with A2:={g.A2 with A4:=4}}):=by
 unfold Oy
 have c:=Tree.pp (XF h h0 g.A2.D5)
 refine c9 c.1 (aq λx hx=>?_)
 have hx:x=lZ g.A9 host g.A2.D5:=hx
 subst hx
 refine ae (λhb=>bh ?_) (λhb=>bh ?_)
 ·have hb:(lZ g.A9 host g.A2.D5).2=false:=by simpa using hb
  rw[if_neg (by rw[hb];decide)];rfl
 ·have hb:(lZ g.A9 host g.A2.D5).2=true:=by simpa using hb
  rw[if_pos hb];rfl
theorem vQ{g:da}(h:BW g.A9):(Oz (mv g)).w λr=>r=mv (ob g):=by
 unfold Oz
 refine ae (λh1=>?_) (λh1=>ae (λh2=>?_) (λh2=>bh ?_))
 ·have h1:g.A1.A4=1:=bt h1
  have e:ob g={g with A1:={g.A1 with A4:=3},A7:=gq g.A7 (BX 4)}:=if_pos h1
  rw[e]
  exact c6 (Ou (g:={g with A1:={g.A1 with A4:=3}}) (BX 4)) λx hx=>bh hx
 ·have h1:¬g.A1.A4=1:=bf h1
  have h2:g.A1.A4=2:=bt h2
  refine c6 (zQ h (eN 0)) λy hy=>?_
  unfold ob
  rw[if_neg h1,if_pos h2]
  by_cases hb:(lZ g.A9 0 g.A1.D5).2=true
  ·rw[if_pos hb]at hy⊢
   subst hy
   exact ae (λh=>by cases h) λ_=>c6 (Ou (g:={g with A9:=(lZ g.A9 0 g.A1.D5).1,A1:={g.A1 with A4:=3,D5:=(lZ g.A9 0 g.A1.D5).1.D5}}) (BX 4)) λx hx=>bh hx
  ·rw[if_neg hb]at hy⊢
   subst hy
   exact ae (λ_=>bh rfl) λh=>by cases h
 ·have h1:¬g.A1.A4=1:=bf h1
  have h2:¬g.A1.A4=2:=bf h2
  unfold ob
  rw[if_neg h1,if_neg h2]
theorem xap{g:da}(ok:fy g){x:dx}(ox:jx x)(hk:x.C2=1)(hp:g.A2.A4=0\/g.A2.A4=1\/g.A2.A4=2):(OA (mv g) x).w λr=>r=mv {g with A2:=iH g.A2 x}:=by
 obtain⟨f0,f1,hd⟩:=ox.pg hk
 obtain⟨k,ek⟩:∃f:Nat,x.Frame=f:=⟨x.Frame.toNat,by omega⟩
 have k8:k<8:=by omega
 have tl:=ok.tl
 have sp:Tt g.A2.A0.Mem x.Frame x.F0:=by rw[ek];exact Zj7 ok.tm k8 hd
 have s2:(rA g.A2.A0.Mem x.Frame x.F0).2=true:=by rw[ek];exact(Ts ok.tm k8 hd).1
 have cn:∀l:List Int,l.length=8->(bX 1 1&&bN 0 1&&decide (0<=x.Frame/\x.Frame<(l.length:Int)))=true:=λl hl=>by
  rw[dY (show 0<=x.Frame/\x.Frame<(l.length:Int) by omega)];rfl
 unfold OA
 refine ae (λh=>absurd (oY h) (by omega)) λ_=>ae (λh=>absurd (oY h) (by show¬x.Frame>=(g.A2.A3.length:Int);omega)) λ_=>ax (cn _ tl) (ae (λh=>bh ?_) λh=>c9 sp (aq λy hy=>?_))
 ·have h:x.B9<=g.A2.A3.getD x.Frame.toNat 0:=oY h
  have e:iH g.A2 x=g.A2:=by
   unfold iH
   rw[if_neg (λh=>h hp),if_pos hk,if_neg (λh=>by have:=h.2.2;omega)]
  rw[e]
 ·have h:¬x.B9<=g.A2.A3.getD x.Frame.toNat 0:=oN h
  have hy:y=rA g.A2.A0.Mem x.Frame x.F0:=hy
  subst hy
  have e:iH g.A2 x={g.A2 with A4:=if g.A2.A4=0 then 1 else g.A2.A4,A0:={g.A2.A0 with Mem:=(rA g.A2.A0.Mem x.Frame x.F0).1},A3:=g.A2.A3.set x.Frame.toNat x.B9}:=by
   unfold iH
   rw[if_neg (λh=>h hp),if_pos hk,if_pos ⟨by omega,by omega,by omega⟩]
  rw[e]
  refine ae (λhb=>?_) λ_=>ax (cn _ tl) (ae (λh0=>bh ?_) λh0=>bh ?_)
  ·rw[s2]at hb;cases hb
  ·have h0:g.A2.A4=0:=bt h0
   rw[if_pos h0];rfl
  ·have h0:¬g.A2.A4=0:=bf h0
   rw[if_neg h0];rfl
theorem qt{g:da}(ok:fy g){x:dx}(ox:jx x):(OB (mv g) x).w λr=>r=mv {g with A2:=iH g.A2 x}:=by
 have leaf:(g.A2.A4=0\/g.A2.A4=1\/g.A2.A4=2)->∀(k1:x.C2≠1),(x.C2=2->g.A2.A4=2->iH g.A2 x=g.A2)/\(x.C2=2->g.A2.A4≠2->iH g.A2 x={g.A2 with A4:=2,A0:={x.A0 with Mem:=g.A2.A0.Mem},C1:=x.A3})/\(x.C2≠2->x.C2=4->iH g.A2 x={g.A2 with A4:=4})/\(x.C2≠2->x.C2≠4->iH g.A2 x=g.A2):=λhp k1=>by
  refine⟨λk p=>?_,λk p=>?_,λk p=>?_,λk p=>?_⟩
  ·unfold iH;rw[if_neg (λh=>h hp),if_neg k1,if_pos k,if_pos p]
  ·unfold iH;rw[if_neg (λh=>h hp),if_neg k1,if_pos k,if_neg p]
  ·unfold iH;rw[if_neg (λh=>h hp),if_neg k1,if_neg k,if_pos p]
  ·unfold iH;rw[if_neg (λh=>h hp),if_neg k1,if_neg k,if_neg p]
 unfold OB
 refine ae (λh0=>ae (λh1=>ae (λh2=>bh ?_) (λh2=>?_)) (λh1=>?_)) (λh0=>?_)
 ·have h0:g.A2.A4≠0:=nt h0
  have h1:g.A2.A4≠1:=nt h1
  have h2:g.A2.A4≠2:=nt h2
  have e:iH g.A2 x=g.A2:=by unfold iH;rw[if_pos (by omega)]
  rw[e]
 all_goals
  have hp:g.A2.A4=0\/g.A2.A4=1\/g.A2.A4=2:=by
   first
    |exact .inr (.inr (Lz h2))
    |exact .inr (.inl (Lz h1))
    |exact .inl (Lz h0)
  refine ae (λk=>c6 (xap ok ox (bt k) hp) λy hy=>bh hy) (λk1=>?_)
  have k1:x.C2≠1:=bf k1
  obtain⟨q1,q2,q3,q4⟩:=leaf hp k1
  refine ae (λk2=>?_) (λk2=>?_)
  ·have k2:x.C2=2:=bt k2
   refine ae (λp=>bh ?_) (λp=>bh ?_)
   ·rw[q1 k2 (bt p)]
   ·rw[q2 k2 (bf p)];rfl
  ·have k2:x.C2≠2:=bf k2
   refine ae (λp=>bh ?_) (λp=>bh ?_)
   ·rw[q3 k2 (bt p)];rfl
   ·rw[q4 k2 (bf p)]
theorem Zlm(R l:List Int)(x v:Int):rB R (l++[x]) v=(rB R l v).set x.toNat v:=by
 unfold rB;rw[fB];rfl
theorem XN(l k:List dx)(x:dx):oZ l (k++[x])=gq (oZ l k) x:=by
 unfold oZ;rw[fB];rfl
theorem OC{α:Type}{l:List α}{i:Nat}(h:i<l.length):l.take (i+1)=l.take i++[l[i]]:=by
 rw[List.take_add_one,aI h];rfl
theorem OD{n i:Nat}(h:i<n):(bX 2 2&&bN 0 2&&decide (0<=(i:Int)/\(i:Int)<(n:Int)))=true:=by
 rw[dY (by omega)];rfl
def DE(g:da)(i:Nat):da:=
 { g with
   A1:={g.A1 with B3:=⟨cO 8 false,g.A1.B3.B9+1,g.A1.B3.D6+(ia g.A1.B3.B0 0).length⟩,A3:=rB g.A1.A3 ((ia g.A1.B3.B0 0).take i) (g.A1.B3.B9+1)}
   A7:=oZ g.A7 ((tt g.A1.B3 g.A1.A0.Mem).take i)}
theorem Zoy{g:da}(ok:fy g)(hr:g.A1.B3.B9<=10):(OE (mv g)).w λr=>r=mv (mr g):=by
 obtain⟨r1,r2⟩:=xm (c:=g.A1.B3) (m:=g.A1.A0.Mem) (by have:=ok.dl;omega)
 rw[ok.round hr]at r2
 have sl:=XH ok.dl
 have rl:=ok.rl
 have lS:(tt g.A1.B3 g.A1.A0.Mem).length=(ia g.A1.B3.B0 0).length:=by unfold tt mq;rw[eW,eW]
 have lC:(mq g.A1.A0.Mem (ia g.A1.B3.B0 0)).length=(ia g.A1.B3.B0 0).length:=by unfold mq;rw[eW]
 unfold OE
 refine c9 r1 (aq λx0 h0=>?_)
 have h0:x0=ID g.A1.B3 g.A1.A0.Mem:=h0
 have h0:=h0.trans r2
 subst h0
 refine fp (inv:=λz:Int×dj=>∃i:Nat,z.1=i/\i<=(ia g.A1.B3.B0 0).length/\z.2=mv (DE g i)) (μ:=Qcz (mv g)) ⟨0,rfl,bC _,rfl⟩ (cN _) ?_
 rintro⟨_,y⟩ ⟨i,rfl,hi,hy⟩
 simp only at hy
 subst hy
 refine ae (λbg=>?_) (λgu=>bh ?_)
 ·have bg:(i:Int)<((mq g.A1.A0.Mem (ia g.A1.B3.B0 0)).length:Int):=oY bg
  have hl:i<(ia g.A1.B3.B0 0).length:=by rw[lC]at bg;omega
  have ew:wrap .i64 ((i:Int)+1)=((i+1:Nat):Int):=by rw[wi (by omega) (by omega)];omega
  have eg:(mq g.A1.A0.Mem (ia g.A1.B3.B0 0)).getD (dA (i:Int)) (RK.ei RK.bq)=⟨(ia g.A1.B3.B0 0)[i],(jz g.A1.A0.Mem (ia g.A1.B3.B0 0)[i]).1⟩:=by
   simp[aV,mq,hl]
  have hm:=N6 (eT hl)
  have dl:=ok.dl
  have lp:(DE g i).A1.A3.length=8:=Tu.trans rl
  generalize hf:(ia g.A1.B3.B0 0)[i]=f at eg hm
  have f0:0<=f:=hm.1
  have f8:f<8:=by omega
  have XO:(f:Int)<(((mv (DE g i)).A1.A3).length:Int):=by show f<((DE g i).A1.A3.length:Int);omega
  have hlC:i<(mq g.A1.A0.Mem (ia g.A1.B3.B0 0)).length:=by rw[lC];exact hl
  refine ax (OD hlC) ?_
  rw[eg]
  refine ae (λ_=>ae (λ_=>ax ?_ ?_) (λh=>absurd XO (oN h))) (λh=>absurd f0 (oN h))
  ·show(bX _ _&&bN _ _&&decide (0<=f/\f<_))=true
   rw[dY ⟨f0,XO⟩];rfl
  ·have e1:∀l:List Int,l.length=8->(l.set f.toNat (g.A1.B3.B9+1)).getD f.toNat 0=g.A1.B3.B9+1:=λl hl=>by rw[FI (by omega),if_pos rfl]
   refine c6 (Zav (g:={DE g i with A1:={(DE g i).A1 with A3:=(DE g i).A1.A3.set f.toNat (g.A1.B3.B9+1)}}) (c:=⟨f,(jz g.A1.A0.Mem f).1⟩) f0 (by show f<(((DE g i).A1.A3.set f.toNat (g.A1.B3.B9+1)).length:Int);rw[dC];exact XO)) λy hy=>e6 ⟨⟨i+1,ew,by omega,?_⟩,?_⟩
   ·rw[hy]
    show mv _=mv _
    congr 1
    have t1:(ia g.A1.B3.B0 0).take (i+1)=(ia g.A1.B3.B0 0).take i++[f]:=by rw[OC hl,hf]
    have t2:(tt g.A1.B3 g.A1.A0.Mem).take (i+1)=(tt g.A1.B3 g.A1.A0.Mem).take i++[tn (g.A1.B3.B9+1) f (jz g.A1.A0.Mem f).1]:=by
     rw[OC (by omega)]
     congr 2
     have:(tt g.A1.B3 g.A1.A0.Mem)[i]'(by omega)=tn (g.A1.B3.B9+1) (ia g.A1.B3.B0 0)[i] (jz g.A1.A0.Mem (ia g.A1.B3.B0 0)[i]).1:=by simp[tt,mq]
     rw[this,hf]
    unfold DE
    rw[t1,t2,Zlm,XN]
    show da.mk _ _ (gq _ (tn ((List.set _ f.toNat _).getD f.toNat 0) f _)) _ _=_
    rw[e1 _ (Tu.trans rl)]
   ·show(_-wrap .i64 ((i:Int)+1)).toNat<(_-(i:Int)).toNat
    rw[ew]
    show(((ID g.A1.B3 g.A1.A0.Mem).2.length:Int)-((i+1:Nat):Int)).toNat<_
    show _<(((ID g.A1.B3 g.A1.A0.Mem).2.length:Int)-(i:Int)).toNat
    rw[r2]
    show(((mq g.A1.A0.Mem (ia g.A1.B3.B0 0)).length:Int)-((i+1:Nat):Int)).toNat<(((mq g.A1.A0.Mem (ia g.A1.B3.B0 0)).length:Int)-(i:Int)).toNat
    rw[lC];omega
 ·have gu:¬(i:Int)<((mq g.A1.A0.Mem (ia g.A1.B3.B0 0)).length:Int):=oN gu
  have hi2:i=(ia g.A1.B3.B0 0).length:=by rw[lC]at gu;omega
  show mv _=mv _
  congr 1
  unfold DE mr
  rw[fC (by omega),fC (by omega)]
theorem qaq{g:da}(ok:fy g)(fi:Int):(OF (mv g) fi).w λr=>r=mv (DC g fi):=by
 unfold OF
 refine ae (λh=>bh ?_) (λh=>?_)
 ·have h:¬g.A1.A4=1:=nt h
  unfold DC
  rw[if_neg (λq=>h q.1)]
 ·have h:g.A1.A4=1:=Lz h
  obtain⟨s1,s2⟩:=y4 (c:=g.A1.B3) (fi:=fi) (by have:=ok.dl;omega)
  refine c9 s1 (aq λx0 h0=>?_)
  have h0:x0=IB g.A1.B3 fi:=h0
  subst h0
  refine ae (λhb=>bh ?_) (λhb=>?_)
  ·have hb:IB g.A1.B3 fi=false:=by simpa using hb
   unfold DC
   rw[if_neg (λq=>by rw[hb]at q;cases q.2)]
  ·have hb:IB g.A1.B3 fi=true:=by simpa using hb
   have e:DC g fi=EC g:=by
    unfold DC
    rw[if_pos ⟨h,hb⟩,IF ok (ok.r2 h)];rfl
   rw[e]
   refine c6 (Zoy ok (ok.r2 h)) λx1 h1=>?_
   subst h1
   have rl:(mr g).A1.A3.length=8:=Tu.trans ok.rl
   exact c6 (Z3v (g:={mr g with A1:={(mr g).A1 with A4:=2}}) rl) λy hy=>bh hy
theorem xt{g:da}(ok:fy g):(OG (mv g)).w λr=>r=mv (Lv g):=by
 unfold OG
 refine ae (λh=>bh ?_) (λh=>?_)
 ·have h:¬g.A1.A4=2:=nt h
  unfold Lv
  rw[if_neg h]
 ·have h:g.A1.A4=2:=Lz h
  have e:Lv g=On g:=if_pos h
  rw[e]
  have mp:jK g.A1.A0.Mem=((8:Nat):Int):=Lo (P:=8) ok.pX.len (by decide)
  refine aq λx0 h0=>?_
  have h0:x0=((8:Nat):Int):=h0.trans mp
  subst h0
  refine fp (inv:=λz:Int×dj=>∃i:Nat,z.1=i/\i<=8/\z.2=mv {g with A7:=oZ g.A7 ((Qg g.A1).take i)}) (μ:=Qbp (mv g)) ⟨0,rfl,bC _,rfl⟩ (cN _) ?_
  rintro⟨_,y⟩ ⟨i,rfl,hi,hy⟩
  simp only at hy
  subst hy
  have lP:=qn g.A1
  refine ae (λbg=>?_) (λgu=>?_)
  ·have bg:(i:Int)<((8:Nat):Int):=oY bg
   have i8:i<8:=by omega
   have ew:wrap .i64 ((i:Int)+1)=((i+1:Nat):Int):=by rw[wi (by omega) (by omega)];omega
   refine c9 (Zoj (P:=8) ok.pX.len (by decide) (by omega) (by omega)) (aq λx1 h1=>?_)
   have h1:x1=jz g.A1.A0.Mem i:=h1
   subst h1
   have rl:=ok.rl
   refine ae (λ_=>c6 (Zav (g:={g with A7:=oZ g.A7 ((Qg g.A1).take i)}) (c:=⟨i,(jz g.A1.A0.Mem i).1⟩) (by show(0:Int)<=(i:Int);omega) (by show(i:Int)<(g.A1.A3.length:Int);omega)) λy hy=>e6 ⟨⟨i+1,ew,by omega,?_⟩,?_⟩) (λhb=>?_)
   ·rw[hy]
    show mv _=mv _
    congr 1
    have t:(Qg g.A1).take (i+1)=(Qg g.A1).take i++[tn (g.A1.A3.getD i 0) i (jz g.A1.A0.Mem i).1]:=by
     rw[OC (by omega)]
     congr 2
     unfold Qg
     rw[List.getElem_map,List.getElem_range]
    rw[t,XN]
    rfl
   ·show(_-wrap .i64 ((i:Int)+1)).toNat<(_-(i:Int)).toNat
    rw[ew]
    show(jK g.A1.A0.Mem-((i+1:Nat):Int)).toNat<(jK g.A1.A0.Mem-(i:Int)).toNat
    rw[mp];omega
   ·exfalso
    have:(jz g.A1.A0.Mem i).2=true:=(IE ok.pX i8).2
    rw[this]at hb;cases hb
  ·have gu:¬(i:Int)<((8:Nat):Int):=oN gu
   have i8:i=8:=by omega
   subst i8
   have e3:(Qg g.A1).take 8=Qg g.A1:=fC (by omega)
   have e2:On g={g with A7:=gq (oZ g.A7 (Qg g.A1)) (ug g.A1)}:=by
    unfold On;rw[XN]
   rw[e2,e3]
   generalize Qg g.A1=L
   exact c6 (Z3v (g:={g with A7:=oZ g.A7 L}) ok.rl) λy hy=>bh hy
theorem TE(n:Int):(if 64<(if 0>n then 0 else n)then 64 else if 0>n then 0 else n)=((runN n:Nat):Int):=by
 unfold runN
 split<;>split<;>omega
theorem qaH{g:da}(ok:fy g){clock:Int}(hc:U clock)(n:Int):(OH (mv g) n clock).w λr=>r=mv (jO g n clock):=by
 have rn:runN n<=64:=by unfold runN;omega
 have er:GG g=jX g:=by
  unfold jX
  simp only[GG,TF,Tree.m]
  by_cases h1:g.A1.A4=1
  ·simp[h1]
  ·by_cases h3:g.A1.A4=3
   ·simp[h3]
   ·by_cases ht:g.A2.A4=3
    ·simp[beq_false_of_ne h1,beq_false_of_ne h3,h1,h3,ht]
    ·simp[beq_false_of_ne h1,beq_false_of_ne h3,beq_false_of_ne ht,h1,h3,ht]
 unfold OH
 refine aq λx0 h0=>?_
 have h0:x0=jX g:=h0.trans er
 subst h0
 refine ae (λh=>bh ?_) (λh=>ae (λh1=>?_) (λh1=>?_))
 ·have h:jX g= -1:=bt h
  unfold jX at h
  unfold jO
  split at h
  ·omega
  ·rename_i q1
   split at h
   ·omega
   ·rename_i q2
    rw[if_neg q1,if_neg q2]
 ·have h1:jX g=1:=bt h1
  have q:¬(g.A1.A4=1\/g.A1.A4=3)/\g.A2.A4=3:=by
   unfold jX at h1
   split at h1
   ·omega
   ·rename_i q1
    split at h1
    ·rename_i q2;exact⟨q1,q2⟩
    ·omega
  have gt:=ok.tg (.inr q.2)
  have e:jO g n clock={g with A2:={g.A2 with A0:=lL g.A2.A0 clock (runN n)}}:=by unfold jO;rw[if_neg q.1,if_pos q.2]
  rw[e]
  refine fp (inv:=λz:Int×bd=>∃i:Nat,z.1=i/\i<=runN n/\z.2=lL g.A2.A0 clock i) (μ:=λz=>(1000-z.1).toNat) ⟨0,rfl,bC _,rfl⟩ (by simp only[TG];omega) ?_
  rintro⟨_,y⟩ ⟨i,rfl,hi,hy⟩
  simp only at hy
  subst hy
  refine ae (λbg=>?_) (λgu=>ae (λhp=>?_) (λhp=>bh ?_))
  ·have bg:(i:Int)<(if 64<(if 0>n then 0 else n)then 64 else if 0>n then 0 else n):=oY bg
   rw[TE]at bg
   have ew:wrap .i64 ((i:Int)+1)=((i+1:Nat):Int):=by rw[wi (by omega) (by omega)];omega
   refine c9 (Z6e (IH gt hc i) hc) (aq λx1 h1=>e6 ⟨⟨i+1,ew,by omega,?_⟩,by show(1000-wrap .i64 ((i:Int)+1)).toNat<(1000-(i:Int)).toNat;rw[ew];omega⟩)
   show x1.1=_
   rw[h1];rfl
  ·exfalso
   have hp:g.A2.A4=1:=bt hp
   omega
  ·have gu:¬(i:Int)<(if 64<(if 0>n then 0 else n)then 64 else if 0>n then 0 else n):=oN gu
   rw[TE]at gu
   have:i=runN n:=by omega
   subst this
   rfl
 ·have hn:¬jX g= -1:=bf h
  have h1:¬jX g=1:=bf h1
  have q:g.A1.A4=1\/g.A1.A4=3:=by
   unfold jX at hn h1
   split at hn
   ·assumption
   ·rename_i q1
    rw[if_neg q1]at h1
    split at hn
    ·rename_i q2;rw[if_pos q2]at h1;exact absurd rfl h1
    ·exact absurd rfl hn
  have e:jO g n clock={g with A1:={g.A1 with A0:=lL g.A1.A0 clock (runN n),B3:=rC g.A1 (lL g.A1.A0 clock (runN n))}}:=if_pos q
  rw[e]
  refine fp (inv:=λz:Int×bd=>∃i:Nat,z.1=i/\i<=runN n/\z.2=lL g.A1.A0 clock i) (μ:=λz=>(1000-z.1).toNat) ⟨0,rfl,bC _,rfl⟩ (by simp only[TG];omega) ?_
  rintro⟨_,y⟩ ⟨i,rfl,hi,hy⟩
  simp only at hy
  subst hy
  refine ae (λbg=>?_) (λgu=>?_)
  ·have bg:(i:Int)<(if 64<(if 0>n then 0 else n)then 64 else if 0>n then 0 else n):=oY bg
   rw[TE]at bg
   have ew:wrap .i64 ((i:Int)+1)=((i+1:Nat):Int):=by rw[wi (by omega) (by omega)];omega
   refine c9 (Z6e (IH ok.src hc i) hc) (aq λx1 h1=>e6 ⟨⟨i+1,ew,by omega,?_⟩,by show(1000-wrap .i64 ((i:Int)+1)).toNat<(1000-(i:Int)).toNat;rw[ew];omega⟩)
   show x1.1=_
   rw[h1];rfl
  ·have gu:¬(i:Int)<(if 64<(if 0>n then 0 else n)then 64 else if 0>n then 0 else n):=oN gu
   rw[TE]at gu
   have hi:i=runN n:=by omega
   subst hi
   have sg:=IH ok.src hc (runN n)
   refine ae (λhp=>?_) (λhp=>bh ?_)
   ·have hp:g.A1.A4=1:=bt hp
    obtain⟨c1,c2,_⟩:=Zir ok.pX sg.mY
    refine c9 c1 (aq λx2 h2=>?_)
    have h2:x2=DB g.A1.A0.Mem (lL g.A1.A0 clock (runN n)).Mem:=h2
    rw[<-h2]at c2
    obtain⟨n1,n2⟩:=zaF (c:=g.A1.B3) (l:=x2) (by have:=ok.dl;omega) (by omega)
    refine c9 n1 (aq λx3 h3=>bh ?_)
    have h3:x3=Tk g.A1.B3 x2:=h3
    rw[n2,h2]at h3
    subst h3
    have en:rC g.A1 (lL g.A1.A0 clock (runN n))={g.A1.B3 with B0:=pW g.A1.B3.B0 (DB g.A1.A0.Mem (lL g.A1.A0 clock (runN n)).Mem)}:=if_pos hp
    rw[en];rfl
   ·have hp:¬g.A1.A4=1:=bf hp
    have en:rC g.A1 (lL g.A1.A0 clock (runN n))=g.A1.B3:=if_neg hp
    rw[en];rfl
theorem XP{g:da}(ok:fy g)(b:Bool)(i:Int):(IL (mv g) b i).w λr=>(mK (lM g b) i->r=(o5 (lM g b) i,true,mv (tq g b i)))/\(¬mK (lM g b) i->r.2.1=false/\r.2.2=mv g):=by
 have cn:∀l:List dx,mK l i->(bX 54 54&&bN 0 54&&decide (0<=i/\i<(l.length:Int)))=true:=λl hl=>by rw[dY (show 0<=i/\i<(l.length:Int) from hl)];rfl
 have fin:∀l:List dx,l.length<=64->mK l i->wrap .i64 (i+1)=i+1/\l.take i.toNat++l.drop (i+1).toNat=kT l i/\(fD (i-0)/\fD (wrap .i64 (i+1)-(i+1))/\fD ((l.length:Int)-wrap .i64 (i+1))):=λl hl hi=>by
  obtain⟨h0,h1⟩:=hi
  have ew:wrap .i64 (i+1)=i+1:=wi (by omega) (by omega)
  refine⟨ew,?_,?_⟩
  ·unfold kT;rw[show(i+1).toNat=i.toNat+1 by omega]
  ·rw[ew]
   exact⟨(h0:(0:Int)<=i),(eN _:i+1<=i+1),(show i+1<=(l.length:Int) by omega)⟩
 unfold IL
 refine ae (λhb=>aq λ_ _=>ae (λh=>bh ?_) (λh=>ae (λh2=>bh ?_) λh2=>?_)) (λhb=>aq λ_ _=>ae (λh=>bh ?_) (λh=>ae (λh2=>bh ?_) λh2=>?_))
 all_goals subst hb
 ·have h:i<0:=oY h
  exact⟨λq=>absurd q.1 (by omega),λ_=>⟨rfl,rfl⟩⟩
 ·have h2:i>=(g.C0.length:Int):=oY h2
  exact⟨λq=>absurd q.2 (by show¬i<(g.C0.length:Int);omega),λ_=>⟨rfl,rfl⟩⟩
 ·have h:¬i<0:=oN h
  have h2:¬i>=(g.C0.length:Int):=oN h2
  have hi:mK g.C0 i:=⟨by omega,by omega⟩
  obtain⟨e1,e2,e3⟩:=fin g.C0 ok.bl hi
  refine ax (cn _ hi) (c9 e3 (aq λx3 h3=>bh ⟨λ_=>?_,λq=>absurd hi q⟩))
  have h3:x3=g.C0.take i.toNat++g.C0.drop (wrap .i64 (i+1)).toNat:=h3
  rw[e1,e2]at h3
  have el:tq g true i={g with C0:=kT g.C0 i}:=if_pos hi
  rw[el,h3];rfl
 ·have h:i<0:=oY h
  exact⟨λq=>absurd q.1 (by omega),λ_=>⟨rfl,rfl⟩⟩
 ·have h2:i>=(g.A7.length:Int):=oY h2
  exact⟨λq=>absurd q.2 (by show¬i<(g.A7.length:Int);omega),λ_=>⟨rfl,rfl⟩⟩
 ·have h:¬i<0:=oN h
  have h2:¬i>=(g.A7.length:Int):=oN h2
  have hi:mK g.A7 i:=⟨by omega,by omega⟩
  obtain⟨e1,e2,e3⟩:=fin g.A7 ok.fl hi
  refine ax (cn _ hi) (c9 e3 (aq λx3 h3=>bh ⟨λ_=>?_,λq=>absurd hi q⟩))
  have h3:x3=g.A7.take i.toNat++g.A7.drop (wrap .i64 (i+1)).toNat:=h3
  rw[e1,e2]at h3
  have el:tq g false i={g with A7:=kT g.A7 i}:=if_pos hi
  rw[el,h3];rfl
theorem Zrl{g:da}(ok:fy g)(b:Bool)(i:Int):(IL (mv g) b i).w λr=>r.2.2=mv (tq g b i):=by
 have t:=Tree.pp (XP ok b i)
 refine(IL (mv g) b i).mono (λr (h:(mK (lM g b) i->r=(o5 (lM g b) i,true,mv (tq g b i)))/\(¬mK (lM g b) i->r.2.1=false/\r.2.2=mv g))=>?_) (XP ok b i)
 by_cases hi:mK (lM g b) i
 ·rw[h.1 hi]
 ·have e:tq g b i=g:=if_neg hi
  rw[(h.2 hi).2,e]
theorem Zqm{g:da}(ok:fy g)(b:Bool)(i:Int):(OI (mv g) b i).w λr=>r=mv (oa g b i):=by
 unfold OI
 refine c6 (XP ok b i) λx0 ⟨t1,t2⟩=>?_
 by_cases hi:mK (lM g b) i
 ·rw[t1 hi]
  have e:oa g b i=Lw (tq g b i) b (o5 (lM g b) i):=if_pos hi
  rw[e]
  have ox:=(ok.F3 b).2 _ (GB hi)
  have ol:=XI ok b i
  generalize o5 (lM g b) i=x at ox
  generalize tq g b i=l at ol
  refine ae (λh=>by cases h) λ_=>?_
  cases b
  ·exact ae (λ_=>c6 (qt ol ox) λy hy=>bh hy) λh=>by cases h
  ·have et:Lw l true x=if l.A1.A4=2/\x.C2=3 then{l with A1:={l.A1 with A4:=4}}else l:=if_pos rfl
   rw[et]
   refine ae (λh=>by cases h) λ_=>ae (λh1=>ae (λh2=>bh ?_) (λh2=>bh ?_)) (λh1=>bh ?_)
   ·rw[if_pos (show l.A1.A4=2/\x.C2=3 from⟨bt h1,bt h2⟩)];rfl
   ·rw[if_neg (show¬(l.A1.A4=2/\x.C2=3) fromλq=>bf h2 q.2)]
   ·rw[if_neg (show¬(l.A1.A4=2/\x.C2=3) fromλq=>bf h1 q.1)]
 ·obtain⟨a,c⟩:=t2 hi
  have e:oa g b i=g:=if_neg hi
  rw[e]
  refine ae (λ_=>bh c) λh=>?_
  rw[a]at h;cases h
theorem XQ{x:dx}(h:jx x):(OJ x).w λr=>r=x:=by
 unfold OJ
 have cm:(Cc x.A0).w λr=>r=x.A0:=by
  unfold Cc
  exact c9 (show x.A0.Mem.length<=35184372088832 by rw[h.mem];decide) (aq λy hy=>by have hy:y=x.A0.Mem:=hy;subst hy;exact bh rfl)
 refine c6 cm λy hy=>?_
 subst hy
 refine c9 (show x.A3.length<=1000000000000 by have:=h.rl;omega) (aq λz hz=>?_)
 have hz:z=x.A3:=hz
 subst hz
 exact bh rfl
theorem yt{g:da}(ok:fy g)(b:Bool)(i:Int):(OK (mv g) b i).w λr=>r=mv (AP g b i):=by
 have cn:∀l:List dx,mK l i->(bX 54 54&&bN 0 54&&decide (0<=i/\i<(l.length:Int)))=true:=λl hl=>by rw[dY (show 0<=i/\i<(l.length:Int) from hl)];rfl
 unfold OK
 refine ae (λhb=>aq λ_ _=>ae (λh=>ae (λh2=>?_) (λh2=>bh ?_)) (λh=>bh ?_)) (λhb=>aq λ_ _=>ae (λh=>ae (λh2=>?_) (λh2=>bh ?_)) (λh=>bh ?_))
 all_goals subst hb
 ·have hi:mK g.C0 i:=⟨oY h,oY h2⟩
  have e:AP g true i={g with C0:=gq g.C0 (o5 g.C0 i)}:=if_pos hi
  rw[e]
  refine ax (cn _ hi) (c6 (XQ (x:=o5 g.C0 i) (ok.bo _ (GB hi))) λx1 h1=>?_)
  subst h1
  exact c6 (vr _) λy hy=>bh hy
 ·have h2:¬i<(g.C0.length:Int):=oN h2
  have e:AP g true i=g:=if_neg (λq=>h2 q.2)
  rw[e]
 ·have h:¬i>=0:=oN h
  have e:AP g true i=g:=if_neg (λq=>h q.1)
  rw[e]
 ·have hi:mK g.A7 i:=⟨oY h,oY h2⟩
  have e:AP g false i={g with A7:=gq g.A7 (o5 g.A7 i)}:=if_pos hi
  rw[e]
  refine ax (cn _ hi) (c6 (XQ (x:=o5 g.A7 i) (ok.fo _ (GB hi))) λx1 h1=>?_)
  subst h1
  exact c6 (Ou _) λy hy=>bh hy
 ·have h2:¬i<(g.A7.length:Int):=oN h2
  have e:AP g false i=g:=if_neg (λq=>h2 q.2)
  rw[e]
 ·have h:¬i>=0:=oN h
  have e:AP g false i=g:=if_neg (λq=>h q.1)
  rw[e]
theorem Zih{l:List dx}(hl:l.length<=64)(h:∀x∈l,jx x):(Q4 l).w λr=>r=l:=by
 unfold Q4
 refine fp (inv:=λz:Int×List dx=>∃i:Nat,z.1=i/\i<=l.length/\z.2=l.take i) (μ:=XR l) ⟨0,rfl,bC _,rfl⟩ (cN _) ?_
 rintro⟨_,y⟩ ⟨i,rfl,hi,hy⟩
 simp only at hy
 subst hy
 refine ae (λbg=>?_) (λgu=>bh ?_)
 ·have bg:i<l.length:=by have:(i:Int)<(l.length:Int):=oY bg;omega
  have ew:wrap .i64 ((i:Int)+1)=((i+1:Nat):Int):=by rw[wi (by omega) (by omega)];omega
  have eg:l.getD (dA (i:Int)) (RK.ei RK.aa)=l[i]:=by simp[aV,bg]
  have lt:(l.take i).length=i:=by rw[aD];omega
  refine ax (by rw[dY (show 0<=(i:Int)/\(i:Int)<(l.length:Int) by omega)];rfl) ?_
  rw[eg]
  refine c6 (XQ (h _ (eT bg))) λx0 h0=>?_
  subst h0
  refine ax (dY (by show 328*((l.take i).length+1)<=_;omega)) (e6 ⟨⟨i+1,ew,bg,(OC bg).symm⟩,by simp only[XR,ew];omega⟩)
 ·have gu:¬(i:Int)<(l.length:Int):=oN gu
  exact fC (by omega)
theorem Z4a{s:ik}(hm:s.A0.Mem.length<=1024)(hd:s.B3.B0.length<=8)(hr:s.A3.length<=8)(hf:s.C1.length<=8):(OL s).w λr=>r=s:=by
 unfold OL
 have cm:(Cc s.A0).w λr=>r=s.A0:=by
  unfold Cc
  exact c9 (show s.A0.Mem.length<=35184372088832 by omega) (aq λy hy=>by have hy:y=s.A0.Mem:=hy;subst hy;exact bh rfl)
 refine c6 cm λy hy=>?_
 subst hy
 refine c9 (show s.B3.B0.length<=140737488355328 by omega) (aq λa ha=>c9 (show s.A3.length<=1000000000000 by omega) (aq λb hb=>c9 (show s.C1.length<=1000000000000 by omega) (aq λc hc=>bh ?_)))
 have ha:a=s.B3.B0:=ha
 have hb:b=s.A3:=hb
 have hc:c=s.C1:=hc
 subst ha;subst hb;subst hc
 rfl
theorem fy.OM{g:da}(h:fy g):g.A1.A0.Mem.length<=1024/\g.A2.A0.Mem.length<=1024:=by
 have a:=h.pX.len
 have b:=h.tm.len
 omega
theorem Zp8{g:da}(ok:fy g):(ON g).w λr=>r=g:=by
 obtain⟨l1,l2⟩:=ok.OM
 unfold ON
 refine c6 (Z4a l1 (by have:=ok.dl;omega) (by have:=ok.rl;omega) ok.sf) λx0 h0=>c6 (Z4a l2 ok.tc (by have:=ok.tl;omega) ok.tf) λx1 h1=>c6 (Zih ok.fl ok.fo) λx2 h2=>c6 (Zih ok.bl ok.bo) λx3 h3=>c9 (show g.A9.ab.length<=1000000000000 by have:=ok.st.1;omega) (aq λx4 h4=>bh ?_)
 have h4:x4=g.A9.ab:=h4
 subst h0;subst h1;subst h2;subst h3;subst h4
 rfl
theorem OO{s t:List Int}(hl:s.length<=1000000):(LA s t).w λr=>r=decide (s=t):=by
 unfold LA
 refine ae (λh=>bh ?_) (λhe=>?_)
 ·have h:¬(s.length:Int)=t.length:=by simpa using h
  exact(dN (λe=>h (by rw[e]))).symm
 ·have he:s.length=t.length:=by
   have:(s.length:Int)=t.length:=by simpa using he
   omega
  refine fp (inv:=λz:Int=>∃i:Nat,z=i/\i<=s.length/\∀j,j<i->s.getD j 0=t.getD j 0) (μ:=OP s t) ⟨0,rfl,bC _,λj h=>by omega⟩ (cN _) ?_
  rintro _ ⟨i,rfl,hi,hj⟩
  refine ae (λbg=>?_) (λgu=>bh ?_)
  ·have bg:i<s.length:=by simpa using bg
   have ew:wrap .i64 ((i:Int)+1)=((i+1:Nat):Int):=by rw[wi (by omega) (by omega)];omega
   refine ax (mJ bg) (ax (mJ (by omega)) (ae (λhn=>bh ?_) (λheq=>e6 ⟨⟨i+1,ew,bg,λj Lr=>?_⟩,by simp only[OP,ew];omega⟩)))
   ·rw[dX]at hn
    exact(dN (λe=>nt hn (by rw[e]))).symm
   ·rw[dX]at heq
    rcases Nat.lt_succ_iff_lt_or_eq.1 Lr with h|h
    ·exact hj j h
    ·subst h;exact Lz heq
  ·have gu:s.length<=i:=by simpa using gu
   refine(dY (bR he λj h1 h2=>?_)).symm
   have:=hj j (by omega)
   simpa[aV,h1,h2]using this
theorem Zkp{g:da}(ok:fy g):(OQ g).w λr=>r=decide (Z4 g):=by
 unfold OQ
 have tl:=ok.tl
 refine ae (λh=>c9 (show g.A2.A3.length<=1000000000000 by omega) (aq λx hx=>bh ?_)) (λh=>bh ?_)
 ·rw[show x=decide (g.A2.A3=g.A2.C1) from hx.trans (Tree.pp (OO (s:=g.A2.A3) (t:=g.A2.C1) (by omega))).2]
  refine decide_eq_decide.2 ⟨λe=>⟨bt h,e⟩,λe=>e.2⟩
 ·exact(dN (λe=>bf h e.1)).symm
theorem Cd{g:da}(ok:fy g){a:j7}(hc:U a.F5):(OR g a).w λr=>r=AQ g a:=by
 unfold OR
 refine c6 (Zp8 ok) λx0 h0=>?_
 subst h0
 unfold AQ
 refine ae (λk=>?_) λk=>?_
 ·rw[if_pos (bt k)]
  exact c6 (qaH ok hc a.N) λy hy=>bh (by rw[hy];rfl)
 rw[if_neg (bf k)]
 refine ae (λk=>?_) λk=>?_
 ·rw[if_pos (bt k)]
  refine ae (λh1=>ae (λh2=>?_) (λh2=>bh ?_)) (λh1=>bh ?_)
  ·have h1:=bt h1
   have h2:x0.A1.B3.B9<10:=oY h2
   rw[if_pos ⟨h1,h2⟩,IF ok (by omega)]
   exact c6 (Zoy ok (by omega)) λy hy=>bh (by rw[hy];rfl)
  ·have h2:¬x0.A1.B3.B9<10:=oN h2
   rw[if_neg (λq=>h2 q.2)]
  ·rw[if_neg (λq=>bf h1 q.1)]
 rw[if_neg (bf k)]
 refine ae (λk=>?_) λk=>?_
 ·rw[if_pos (bt k)]
  exact c6 (qaq ok a.N) λy hy=>bh (by rw[hy];rfl)
 rw[if_neg (bf k)]
 refine ae (λk=>?_) λk=>?_
 ·rw[if_pos (bt k)]
  exact c6 (xt ok) λy hy=>bh (by rw[hy];rfl)
 rw[if_neg (bf k)]
 refine ae (λk=>?_) λk=>?_
 ·rw[if_pos (bt k)]
  exact c6 (Zqm ok a.C0 a.N) λy hy=>bh (by rw[hy];rfl)
 rw[if_neg (bf k)]
 refine ae (λk=>?_) λk=>?_
 ·rw[if_pos (bt k)]
  exact c6 (Zrl ok a.C0 a.N) λy hy=>bh (by rw[hy];rfl)
 rw[if_neg (bf k)]
 refine ae (λk=>?_) λk=>?_
 ·rw[if_pos (bt k)]
  exact c6 (yt ok a.C0 a.N) λy hy=>bh (by rw[hy];rfl)
 rw[if_neg (bf k)]
 refine ae (λk=>?_) λk=>?_
 ·rw [if_pos (bt k)]
  refine c6 (Zkp ok) λx8 h8=>ae (λhb=>?_) λhb=>bh ?_
  ·rw[h8]at hb
   have hf:Z4 x0:=oY hb
   unfold sk
   rw[if_pos hf]
   refine c6 (yQ ok.st (host:=1) (by decide)) λx9 h9=>?_
   by_cases hc:(lZ x0.A9 1 x0.A2.D5).2=true
   ·rw[if_pos hc]at h9⊢
    subst h9
    exact ae (λ_=>c6 (vr (g:={x0 with A9:=(lZ x0.A9 1 x0.A2.D5).1,A2:={x0.A2 with A4:=3,D5:=(lZ x0.A9 1 x0.A2.D5).1.D5}}) (BX 3)) λy hy=>bh (by rw[hy];rfl)) λh=>by cases h
   ·rw[if_neg hc]at h9⊢
    subst h9
    exact ae (λh=>by cases h) λ_=>bh rfl
  ·rw[h8]at hb
   have hf:¬Z4 x0:=oN hb
   unfold sk
   rw[if_neg hf]
 rw[if_neg (bf k)]
 refine ae (λk=>?_) λk=>?_
 ·rw[if_pos (bt k)]
  exact c6 (vQ ok.st) λy hy=>bh (by rw[hy];rfl)
 rw[if_neg (bf k)]
 refine ae (λk=>?_) λk=>?_
 ·rw[if_pos (bt k)]
  refine aq λy hy=>bh ?_
  have hy:y=mv (Om x0 a.C0):=hy.trans (Tree.pp (zap (g:=x0) a.C0)).2
  rw[hy];rfl
 rw[if_neg (bf k)]
 exact bh rfl
theorem EG(n:Int):OS n 128/\(XS n 128).length=128:=by
 refine⟨by show(128:Int)<=1000000000000;decide,?_⟩
 show Tree.V (LB n 128) (λs=>s.length=128)
 unfold LB
 refine EA (inv:=λv:Int×List Int=>0<=v.1/\v.1<=128/\v.2.length=v.1.toNat) (μ:=TH n 128) ⟨eN 0,by decide,rfl⟩ (cN _) λv ⟨a,b,c⟩=>?_
 refine kS (λhb=>lF λx0 _=>BV (IC ?_)) λhb=>lY ?_
 ·have hb:=oY hb
  show(0<=wrap .i64 (v.1+1)/\wrap .i64 (v.1+1)<=128/\(v.2++[_]).length=(wrap .i64 (v.1+1)).toNat)/\(128-wrap .i64 (v.1+1)).toNat<(128-v.1).toNat
  rw[wi (by omega) (by omega)]
  refine⟨⟨by omega,by omega,?_⟩,by omega⟩
  rw[lA,c];simp;omega
 ·have hb:=oN hb
  show(bytesOf v.2).length=128
  unfold bytesOf
  rw[eW,c];omega
theorem qR(n:Int):(OT n).w λr=>r.length=4/\∀b∈r,b.length=128:=by
 unfold OT
 refine fp (inv:=λz:Int×List (List UInt8)=>∃i:Nat,z.1=i/\i<=4/\z.2.length=i/\∀b∈z.2,b.length=128) (μ:=XT n) ⟨0,rfl,bC _,rfl,λb hb=>(by cases hb)⟩ (cN _) ?_
 rintro⟨_,y⟩ ⟨i,rfl,hi,hl,hb⟩
 simp only at hl hb
 refine ae (λbg=>?_) (λgu=>bh ?_)
 ·have bg:(i:Int)<4:=oY bg
  have ew:wrap .i64 ((i:Int)+1)=((i+1:Nat):Int):=by rw[wi (by omega) (by omega)];omega
  obtain⟨d1,d2⟩:=EG (wrap .i64 (n+(i:Int)))
  refine c9 d1 (aq λx0 h0=>ax (dY (by show 16*(y.length+1)<=_;omega)) (e6 ⟨⟨i+1,ew,by omega,by simp;omega,λb rr=>?_⟩,by simp only[XT,ew];omega⟩))
  rcases List.mem_append.1 rr with h|h
  ·exact hb b h
  ·rw[List.mem_singleton.1 h,h0];exact d2
 ·have gu:¬(i:Int)<4:=oN gu
  exact⟨by show y.length=4;omega,hb⟩
theorem Zpj{s:iL}(hb:s.ab.length=4)(hB:∀b∈s.ab,b.length=128)(hg:0<=s.D5/\s.D5<=2)(ho:s.D5=0->s.D7= -1)(ho2:0<s.D5->0<=s.D7):(OU s).w λr=>r=true:=by
 unfold OU
 refine ae (λh=>absurd (oY h) (by omega)) λ_=>ae (λh=>absurd (oY h) (by omega)) λ_=>ae (λh=>absurd (oY h) (by omega)) λ_=>ae (λh0=>ae (λh=>absurd (ho (bt h0)) (nt h)) (λ_=>ae (λh=>absurd (oY h) (by have:=bt h0;omega)) (λ_=>?_))) (λh0=>ae (λhp=>ae (λh=>absurd (oY h) (by have:=ho2 (oY hp);omega)) (λ_=>?_)) (λhp=>?_))
 all_goals
  refine fp (inv:=λz:Int=>∃i:Nat,z=i/\i<=s.ab.length) (μ:=XU s) ⟨0,rfl,bC _⟩ (cN _) ?_
  rintro _ ⟨i,rfl,hi⟩
  refine ae (λbg=>?_) (λgu=>bh rfl)
  have bg:i<s.ab.length:=by simpa using bg
  have ew:wrap .i64 ((i:Int)+1)=((i+1:Nat):Int):=by rw[wi (by omega) (by omega)];omega
  refine ax (mJ bg) (ae (λh=>?_) (λ_=>e6 ⟨⟨i+1,ew,bg⟩,by simp only[XU,ew];omega⟩))
  exfalso
  have e:s.ab.getD (dA (i:Int)) (RK.ei RK.str)=s.ab[i]:=by simp[aV,bg]
  rw[e,hB _ (eT bg)]at h
  cases h
theorem Zt2{b:List (List UInt8)}(hb:b.length=4)(hB:∀x∈b,x.length=128):(OV b).w λr=>r=(⟨b,0,-1⟩,true):=by
 unfold OV
 refine ax (dY (by omega)) (c6 (Zpj (s:=⟨b,0,-1⟩) hb hB ⟨eN 0,by show(0:Int)<=2;decide⟩ (λ_=>rfl) (λh=>absurd h (by show¬(0:Int)<0;decide))) λx hx=>?_)
 subst hx
 exact ae (λh=>by cases h) λ_=>bh rfl
theorem xR{b:List (List UInt8)}(hb:b.length=4)(hB:∀x∈b,x.length=128):(OW ⟨b,0,-1⟩ 0 0).w λr=>r=(⟨b,1,0⟩,true):=by
 unfold OW
 refine c6 (Zpj (s:=⟨b,0,-1⟩) hb hB ⟨eN 0,by show(0:Int)<=2;decide⟩ (λ_=>rfl) (λh=>absurd h (by show¬(0:Int)<0;decide))) λx hx=>?_
 subst hx
 exact ae (λh=>by cases h) λ_=>ae (λh=>by cases h) λ_=>ae (λh=>by cases h) λ_=>ae (λh=>by cases h) λ_=>bh rfl
theorem zaH{m:bd}(hm:gz 8 m){b:List (List UInt8)}(hb:b.length=4)(hB:∀x∈b,x.length=128):(OX m ⟨b,1,0⟩).w λr=>r=(Ca m b,true):=by
 have hs:BW ⟨b,1,0⟩:=⟨hb,hB,by show(1:Int)<=1;decide,by show(1:Int)<=2;decide,by show(0:Int)<=0;decide⟩
 have mp:jK m.Mem=((8:Nat):Int):=Lo (P:=8) hm.mY.len (by decide)
 have ml:=hm.mY.len
 unfold OX
 refine c9 (Tree.pp (zaa hm.ok.target.2)).1 (aq λx0 h0=>?_)
 have h0:x0=true:=h0.trans hm.may
 subst h0
 refine ae (λh=>by cases h) λ_=>c6 (Zpy hs) λx1 h1=>?_
 subst h1
 refine ae (λh=>by cases h) λ_=>ae (λh=>by cases h) λ_=>?_
 obtain⟨b1,b2⟩:=zam (P:=8) (by decide) (by decide)
 obtain⟨n1,n2⟩:=qaF (P:=8) (by decide) (by decide)
 have cm:(Cc m).w λr=>r=m:=by
  unfold Cc
  exact c9 (show m.Mem.length<=35184372088832 by omega) (aq λy hy=>by have hy:y=m.Mem:=hy;subst hy;exact bh rfl)
 refine aq λx2 h2=>?_
 have h2:x2=((8:Nat):Int):=h2.trans mp
 subst h2
 refine c9 b1 (aq λx3 h3=>?_)
 have h3:x3=(⟨cO 8 true,0,0⟩,true):=h3.trans b2
 subst h3
 refine ae (λh=>by cases h) λ_=>c6 cm λx4 h4=>?_
 subst h4
 refine ax (by rw[dY (by decide)];rfl) (ax (by rw[dY (by decide)];rfl) (c9 n1 (aq λx5 h5=>c9 (show b.length<=1000000000000 by omega) (aq λx6 h6=>bh ?_))))
 have h5:x5=cO (32*8) 0:=h5.trans n2
 have h6:x6=b:=h6
 subst h5;subst h6
 rfl
theorem Zh6(kind:Int)(prog:List Int)(hl:prog.length*8<=reachBytes)(h60:prog.length<=60):(OY kind prog).w λr=>∃m b,r=(Ca m b,m,true)/\gz 8 m/\b.length=4/\∀x∈b,x.length=128:=by
 unfold OY
 have mg:=(Zie kind prog hl h60).1
 refine c9 (Tree.pp (Zn4 kind prog hl h60)).1 (aq λx0 h0=>?_)
 have h0:x0=Tl kind prog:=h0
 rw[<-h0]at mg
 refine c6 (qR 1) λx1 ⟨k1,k2⟩=>c6 (Zt2 k1 k2) λx2 h2=>?_
 subst h2
 refine c6 (xR k1 k2) λx3 h3=>?_
 subst h3
 refine c6 (zaH mg k1 k2) λx4 h4=>bh ?_
 subst h4
 exact⟨x0,x1,rfl,mg,k1,k2⟩
theorem zaq(n k:Int):0<=TJ n k:=by
 show Tree.V (TL n k) (λx=>0<=x)
 unfold TL
 refine lF λx hx=>lY ?_
 have r:0<=x.1/\x.1<18446744073709551616:=by
  rw[hx]
  show 0<=wrap .u64 _/\wrap .u64 _<_
  rw[wrap_u64];omega
 show 0<=wrap .i64 (x.1.fdiv 2)
 rw[Int.fdiv_eq_ediv_of_nonneg _ (by decide),wrap_i64];omega
theorem OZ(a:Int):0<=bb .i64 a 1/\bb .i64 a 1<2:=by
 have h:(dR 64 a&&&dR 64 1).toNat<=1:=by
  rw[BitVec.toNat_and];exact Nat.and_le_right
 show 0<=wrap .i64 ((dR 64 a&&&dR 64 1).toNat:Int)/\wrap .i64 ((dR 64 a&&&dR 64 1).toNat:Int)<2
 rw[wi (by omega) (by omega)];omega
theorem xaH{x:Int}(h:0<=x)(k:Int):0<=bc .i64 x k:=by
 unfold bc
 exact Int.fdiv_nonneg h (Int.le_of_lt (Int.pow_pos (by decide)))
theorem Zsh(n:Int):(O0 n).w λa=>U a.F5:=by
 unfold O0
 refine aq λx0 h0=>?_
 have x0p:0<=x0:=by rw[h0];exact zaq n 12
 have s0:=xaH x0p 8
 have t0:=Int.tmod_nonneg 6 s0
 have t1:=Int.tmod_lt_of_pos (bc .i64 x0 8) (b:=6) (by decide)
 have a1:=OZ (bc .i64 x0 8)
 repeat'(first
  |exact bh (fj _)
  |refine ax (Bool.and_eq_true_iff.2 ⟨rfl,dY a1⟩) ?_
  |refine ax (Bool.and_eq_true_iff.2 ⟨rfl,dY ⟨t0,t1⟩⟩) ?_
  |refine ae (λ_=>?_) (λ_=>?_))
theorem O1(a:bd)(ha:a.Mem.length<=1000000000000):(O2 a a).w (λb=>b=true):=by
 have XV:∀s:List Int,s.length<=1000000000000->O3 s s=true:=λs hb=>by
  have h:(IM s s).w λr=>r=true:=by
   unfold IM
   refine ae (λh=>by simp at h) (λ_=>?_)
   refine fp (inv:=λz:Int=>∃i:Nat,z=i/\i<=s.length) (μ:=IN s s) ⟨0,rfl,bC _⟩ (cN _) ?_
   rintro _ ⟨i,rfl,hi⟩
   refine ae (λbg=>?_) (λgu=>bh rfl)
   have bg:i<s.length:=by simpa using bg
   have ew:wrap .i64 ((i:Int)+1)=((i+1:Nat):Int):=by rw[wi (by omega) (by omega)];omega
   refine ax (mJ bg) (ax (mJ bg) (ae (λh=>by simp at h) (λ_=>e6 ⟨⟨i+1,ew,bg⟩,by simp only[IN,ew];omega⟩)))
  exact(Tree.pp (W:=λr=>r=true) h).2
 unfold O2
 repeat'(first
  |refine ae (λ_=>?_) (λh=>absurd h (by simp[eqs,O4];done))
  |exact c9 ha (aq λx hx=>by rw[hx];exact XV _ ha)
  |refine c9 ha (aq λx hx=>ae (λ_=>?_) (λh=>by rw[hx,XV _ ha]at h;cases h))
  |exact rfl)
 all_goals(show(_==_)=true;simp)
theorem zR{nc:Bool}{m:bd}{g:da}(h:Inv nc m g)(hk:True){l:List j7}(hl:l.length<=200)(hu:∀a∈l,U a.F5)(hn:nc=true->∀a∈l,a.C2≠10)(h1:∀a∈l,a.C2≠1):(O5 g l).w λr=>r=ui g l/\Inv nc m r:=by
 unfold O5
 refine c6 (Zp8 h.1) λx0 h0=>?_
 subst h0
 refine fp (inv:=λz:Int×da=>∃i:Nat,z.1=i/\i<=l.length/\z.2=ui x0 (l.take i)/\Inv nc m z.2) (μ:=XW x0 l) ⟨0,rfl,bC _,rfl,h⟩ (cN _) ?_
 rintro⟨_,y⟩ ⟨i,rfl,hi,hy,hI⟩
 simp only at hy hI
 refine ae (λbg=>?_) (λgu=>bh ?_)
 ·have bg:i<l.length:=by have:(i:Int)<(l.length:Int):=oY bg;omega
  have ew:wrap .i64 ((i:Int)+1)=((i+1:Nat):Int):=by rw[wi (by omega) (by omega)];omega
  have eg:l.getD (dA (i:Int)) (RK.ei RK.bu)=l[i]:=by simp[aV,bg]
  have am:l[i]∈l:=eT bg
  refine ax (by rw[dY (show 0<=(i:Int)/\(i:Int)<(l.length:Int) by omega)];rfl) (ae (λh2=>?_) λ_=>?_)
  ·exfalso
   have h2:(i:Int)=200:=bt h2
   omega
  rw[eg]
  refine c6 (Cd hI.1 (hu _ am)) λx1 e1=>e6 ⟨⟨i+1,ew,bg,?_,?_⟩,by simp only[XW,ew];omega⟩
  ·show x1.1=_
   rw[e1,hy,OC bg,Zgv];rfl
  ·show Inv nc m x1.1
   rw[e1]
   have:=z7 hI (hu _ am) (λe=>hn e _ am)
   have eq:uh m y l[i]=m:=if_neg (λq=>h1 _ am q.1)
   rwa [eq]at this
 ·have gu:¬(i:Int)<(l.length:Int):=oN gu
  have:i=l.length:=by omega
  subst this
  rw[List.take_length]at hy
  exact⟨hy,hI⟩
theorem XX(g:da):GG g=jX g:=by
 unfold jX
 simp only[GG,TF,Tree.m]
 by_cases h1:g.A1.A4=1
 ·simp[h1]
 ·by_cases h3:g.A1.A4=3
  ·simp[h3]
  ·by_cases ht:g.A2.A4=3
   ·simp[beq_false_of_ne h1,beq_false_of_ne h3,h1,h3,ht]
   ·simp[beq_false_of_ne h1,beq_false_of_ne h3,beq_false_of_ne ht,h1,h3,ht]
theorem Zls{g:da}(ok:fy g):(O6 g).w λr=>(jX g=0->r=(g.A1.A0,true))/\(jX g=1->r=(g.A2.A0,true))/\(jX g<0->r.2=false):=by
 obtain⟨l1,l2⟩:=ok.OM
 have cm:∀m:bd,m.Mem.length<=1024->(Cc m).w λr=>r=m:=λm hm=>by
  unfold Cc
  exact c9 (show m.Mem.length<=35184372088832 by omega) (aq λy hy=>by have hy:y=m.Mem:=hy;subst hy;exact bh rfl)
 unfold O6
 refine aq λx0 h0=>?_
 have h0:x0=jX g:=h0.trans (XX g)
 subst h0
 refine ae (λh=>c6 (cm _ l1) λy hy=>bh ?_) λh=>ae (λh1=>c6 (cm _ l2) λy hy=>bh ?_) λh1=>bh ?_
 ·have h:=bt h
  rw[hy]
  exact⟨λ_=>rfl,λq=>by omega,λq=>by omega⟩
 ·have h1:=bt h1
  rw[hy]
  exact⟨λq=>by omega,λ_=>rfl,λq=>by omega⟩
 ·exact⟨λq=>absurd q (bf h),λq=>absurd q (bf h1),λ_=>rfl⟩
theorem xaq:(O7).w λr=>r=Cb:=by
 unfold O7
 refine fp (inv:=λz:Int×List j7=>∃i:Nat,z.1=i/\i<=64/\z.2=oc 2 0::oc 3 32::cO i (oc 5 0)) (μ:=XY) ⟨0,rfl,bC _,rfl⟩ (cN _) ?_
 rintro⟨_,y⟩ ⟨i,rfl,hi,hy⟩
 simp only at hy
 have yl:y.length=i+2:=by rw[hy];simp
 refine ae (λbg=>?_) (λgu=>ax (dY (by show 24*(y.length+1)<=_;omega)) (bh ?_))
 ·have bg:(i:Int)<64:=oY bg
  have ew:wrap .i64 ((i:Int)+1)=((i+1:Nat):Int):=by rw[wi (by omega) (by omega)];omega
  refine ax (dY (by show 24*(y.length+1)<=_;omega)) (e6 ⟨⟨i+1,ew,by omega,?_⟩,by simp only[XY,ew];omega⟩)
  show y++[oc 5 0]=_
  rw[hy,eQ];rfl
 ·have gu:¬(i:Int)<64:=oN gu
  have:i=64:=by omega
  subst this
  show y++[oc 8 0]=_
  rw[hy];rfl
theorem XZ:∀a∈Cb,U a.F5/\a.C2≠10/\a.C2≠1:=by
 intro a ha
 have k:∀x y:Int,x≠10->x≠1->U (oc x y).F5/\(oc x y).C2≠10/\(oc x y).C2≠1:=λx y h1 h2=>⟨⟨eN 0,by show(0:Int)<4294967296;decide⟩,h1,h2⟩
 unfold Cb at ha
 rcases List.mem_cons.1 ha with rfl|ha
 ·exact k _ _ (by decide) (by decide)
 rcases List.mem_cons.1 ha with rfl|ha
 ·exact k _ _ (by decide) (by decide)
 rcases List.mem_append.1 ha with ha|ha
 ·rw[eR ha];exact k _ _ (by decide) (by decide)
 ·rw[List.mem_singleton.1 ha];exact k _ _ (by decide) (by decide)
theorem Zqq:Cb.length=67:=by
 unfold Cb
 simp only[dD,lA,cS,List.length_nil]
theorem y7:O8.w λr=>r=true:=by
 unfold O8
 refine c6 (Zh6 2 [0] (by decide) (by decide)) λx0 ⟨m,b,e,hm,k1,k2⟩=>?_
 subst e
 have calm:=qQ hm k1 k2
 refine ae (λh=>by cases h) λ_=>aq λx1 h1=>?_
 have h1:x1=0:=h1.trans ((XX _).trans (Oq (.inl rfl)))
 subst h1
 refine ae (λh=>by cases h) λ_=>c6 xaq λx2 h2=>?_
 subst h2
 refine c6 (zR calm.inv trivial (by rw[Zqq];decide) (λa ha=>(XZ a ha).1) (λ_ a ha=>(XZ a ha).2.1) (λa ha=>(XZ a ha).2.2)) λx3 ⟨e3,i3⟩=>?_
 obtain⟨_,q2,q3,q4,q5⟩:=EF calm (by decide)
 rw[<-e3]at q2 q3 q4 q5
 refine c6 (Zls i3.1) λx4 ⟨_,m2,_⟩=>?_
 have m2:=m2 q2
 subst m2
 refine c6 (Cd i3.1 (a:={C2:=99,N:=0,C0:=false,F5:=0}) ⟨by decide,by decide⟩) λx5 h5=>aq λx6 h6=>?_
 have h6:x6=1:=h6.trans ((XX _).trans q2)
 subst h6
 have h5:x5.2=false:=by rw[h5];rfl
 refine ae (λ_=>ae (λ_=>?_) (λh=>by cases h)) (λh=>by cases h)
 show(Tree.an (Qob x3.A2.A0 m) _).w _
 rw[q3]
 have ml:=hm.mY.len
 refine c6 (O1 m (by omega)) λx7 h7=>ae (λ_=>bh ?_) (λh=>by rw[h7]at h;cases h)
 rw[h5];rfl
theorem O9{W:Bool->Prop}(h:W true):(Tree.an Pa (.lv Pb λx=>.lf x)).w W:=by
 have a:=Tree.pp y7
 exact c9 a.1 (aq λx hx=>bh (by rw[show x=true from hx.trans a.2];exact h))
theorem Pd{α:Type}{W:Bool->Prop}{V:α->Prop}(h:W true):(Tree.an Pa (.lv Pb λx=>.lf (Sum.inr x:α⊕Bool))).w (Sum.elim V W):=by
 have a:=Tree.pp y7
 exact c9 a.1 (aq λx hx=>bh (by rw[show x=true from hx.trans a.2];exact h))
theorem vt{nc:Bool}{m:bd}{g:da}(h:Inv nc m g):(g.A1.A4=1\/g.A1.A4=3->g.A2.A4≠3)/\1<=g.A9.D5/\g.A9.D5<=2/\(g.A2.A4=3->g.A9.D5=2/\g.A9.D7=1):=by
 obtain⟨b1,b2,b3,b4,b5⟩:=h.1.st
 refine⟨λhp=>?_,b3,b4,λht=>?_⟩
 ·rcases h.2 with c|c|c|c|c
  ·have:=c.tp;omega
  ·have:=c.tp;omega
  ·have:=c.tp;omega
  ·exact c.tp
  ·have:=c.sp;omega
 ·rcases h.2 with c|c|c|c|c
  ·have:=c.tp;omega
  ·have:=c.tp;omega
  ·have:=c.tp;omega
  ·exact absurd ht c.tp
  ·exact⟨c.gn.1,c.gn.2.1⟩
theorem Pe(kind:Int)(prog l:List Int)(hl:prog.length*8<=reachBytes):(Pf kind prog l).w λr=>r=true:=by
 unfold Pf
 refine ae (λ_=>O9 rfl) (λh1=>ae (λ_=>O9 rfl) (λh2=>?_))
 have h1:=oN h1
 have h2:=oN h2
 refine c6 (Zh6 kind prog hl (by omega)) λx2 ⟨m,b,e,hm,k1,k2⟩=>?_
 subst e
 refine ae (λh=>by cases h) λ_=>?_
 refine fp (inv:=λz:Int×da=>∃i:Nat,z.1=i/\i<=l.length/\∃n,Inv false n z.2) (μ:=Pg kind prog l) ⟨0,rfl,bC _,m,Zpq hm k1 k2,.inl (wc hm b)⟩ (cN _) ?_
 rintro⟨_,g⟩ ⟨i,rfl,hi,n,hI⟩
 simp only at hI
 refine ae (λbg=>?_) (λgu=>Pd rfl)
 have bg:i<l.length:=by have:(i:Int)<(l.length:Int):=oY bg;omega
 have ew:wrap .i64 ((i:Int)+1)=((i+1:Nat):Int):=by rw[wi (by omega) (by omega)];omega
 refine ax (mJ bg) (c6 (Zsh _) λx3 hU=>c6 (Cd hI.1 hU) λx4 e4=>?_)
 have I2:=z7 hI hU (λe=>by cases e)
 rw[<-e4]at I2
 obtain⟨f1,f2,f3,f4⟩:=vt I2
 have nx:(∃j:Nat,wrap .i64 ((i:Int)+1)=j/\j<=l.length/\∃n,Inv false n x4.1)/\Pg kind prog l (wrap .i64 ((i:Int)+1),x4.1)<Pg kind prog l ((i:Int),g):=
  ⟨⟨i+1,ew,bg,_,I2⟩,by simp only[Pg,ew];omega⟩
 refine ae (λs1=>ae (λt=>absurd (bt t) (f1 (.inl (bt s1)))) λ_=>?_) (λs1=>ae (λs3=>ae (λt=>absurd (bt t) (f1 (.inr (bt s3)))) λ_=>?_) (λs3=>?_))
 all_goals
  refine ae (λq=>absurd (oY q) (by omega)) λ_=>ae (λq=>absurd (oY q) (by omega)) λ_=>ae (λt=>ae (λq=>absurd (f4 (bt t)).1 (nt q)) λ_=>ae (λq=>absurd (f4 (bt t)).2 (nt q)) λ_=>e6 nx) λ_=>e6 nx

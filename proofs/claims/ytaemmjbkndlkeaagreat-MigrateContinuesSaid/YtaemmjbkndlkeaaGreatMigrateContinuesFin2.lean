import Derived.Test.YtaemmjbkndlkeaaGreatMigrateContinuesFin1
open List renaming drop_eq_getElem_cons->aO,getElem?_eq_getElem->aI,length_cons->dD,drop_eq_nil_of_le->aN,append_assoc->aM,replicate->cO,replicate_succ'->eQ,getD->aV,length_singleton->cY,length_replicate->cS,eq_of_mem_replicate->eR,ext_getElem->bR,mem_append_left->eS,getD_eq_getElem?_getD->cX,getElem?_eq_none->aJ,getElem_mem->eT,mem_cons_self->eU,mem_cons_of_mem->eV,length_set->dC,length_map->eW,length_take->aD,mem_append_right->eX,getElem?_replicate->eY,foldl_append->fB,take_of_length_le->fC
open Nat renaming beq->bX,blt->bN,zero_le->bC,lt_succ_self->cN
open Int renaming toNat_natCast->dX,le_refl->eN,tmod_eq_emod_of_nonneg->dZ,tdiv_eq_ediv_of_nonneg->eG,toNat->dA,NonNeg->fD
open Bool renaming cond_false_right->eO,false_ne_true->eZ,true_eq_false->fA
open BitVec renaming ofInt->dR
set_option maxRecDepth 100000
set_option linter.all false
namespace Go.Proofs.YtaemmjbkndlkeaaGreat
open Go Go.GD
open Go.IntKind(wrap i64 wrap_i64 wrap_u64)
variable {D:List Bool}{P f k n:Nat}{a b fs:List Int}{clock host i:Int}{g:dw}{l xs:List fg}{nc:Bool}{x:fg}
def ia:List Bool->Int->List Int
 |[],_=>[]
 |b::l,k=>if b=true then k::ia l (k+1)else ia l (k+1)
theorem Tg:∀(l:List Bool) (k:Int),(ia l k).length<=l.length
 |[],_=>Nat.le_refl _
 |b::l,k=>by
  have:=Tg l (k+1)
  simp only[ia];split<;>(try simp)<;>omega
theorem N6:∀{l:List Bool} {k x:Int},x∈ia l k->k<=x/\x<k+l.length
 |[],_,_,h=>by simp[ia]at h
 |b ::l,k,x,h=>by
  simp only[ia]at h
  have go:x∈ia l (k+1)->k<=x/\x<k+(b::l).length:=λh=>by
   have:=N6 h;simp;omega
  split at h
  ·rcases List.mem_cons.1 h with e|e
   ·subst e;simp;omega
   ·exact go e
  ·exact go h
theorem yk{l:List Bool}{i:Nat}(h:i<l.length):l.drop i=l.getD i false::l.drop (i+1):=by
 rw[aO h]
 show _=(l[i]?).getD false::_
 rw[aI h];rfl
theorem vk{l:List Bool}{i:Nat}(h:i<l.length)(hb:l.getD i false=true)(k:Int):ia (l.drop i) k=k::ia (l.drop (i+1)) (k+1):=by
 rw[yk h,ia,if_pos hb]
theorem y4{l:List Bool}{i:Nat}(h:i<l.length)(hb:l.getD i false=false)(k:Int):ia (l.drop i) k=ia (l.drop (i+1)) (k+1):=by
 rw[yk h,ia,if_neg (by rw[hb];simp)]
theorem wi{x:Int}(h0: -9223372036854775808<=x)(h1:x<=9223372036854775807):wrap .i64 x=x:=by rw[wrap_i64];omega
theorem mK{i:Nat}(h:i<n):(bX 1 1&&bN 0 1&&decide (0<=(i:Int)/\(i:Int)<(n:Int)))=true:=by
 rw[dY (by omega)];rfl
theorem zam{n:Int}{l:List Bool}(h0:0<=n)(hb:n+l.length<=1000000000000):(N7 n l).w λr=>r=(n+(ia l 0).length,l):=by
 unfold N7
 refine fj (inv:=λz:Int×Int=>∃i:Nat,z.1=i/\i<=l.length/\0<=z.2/\z.2<=n+i/\z.2+(ia (l.drop i) i).length=n+(ia l 0).length) (μ:=Th n l) ⟨0,rfl,bC _,h0,by simp,by simp⟩ (cN _) ?_
 rintro⟨_,x⟩ ⟨i,rfl,hi,nG,hx,hs⟩
 simp only at nG hx hs
 refine ab (λbg=>?_) (λgr=>?_)
 ·have bg:i<l.length:=by simpa using bg
  have ew:wrap .i64 ((i:Int)+1)=((i+1:Nat):Int):=by rw[wi (by omega) (by omega)];omega
  refine ax (mK bg) (ab (λAP=>?_) (λAP=>?_))
  ·rw[dX]at AP
   refine aq λy hy=>?_
   have hy:y=(true,wrap .i64 (x+1)):=hy
   rw[wi (by omega) (by omega)]at hy
   subst hy
   refine ab (λh=>by cases h) (λ_=>ez ?_)
   refine⟨⟨i+1,ew,bg,by show 0<=x+1;omega,by show x+1<=_;omega,?_⟩,?_⟩
   ·rw[vk bg AP]at hs
    simp only[dD]at hs
    show x+1+((ia (l.drop (i+1)) ((i+1:Nat):Int)).length:Int)=_
    have:((i+1:Nat):Int)=(i:Int)+1:=by omega
    rw[this];omega
   ·simp only[Th,ew];omega
  ·rw[dX]at AP
   refine ez ⟨⟨i+1,ew,bg,nG,by show x<=_;omega,?_⟩,?_⟩
   ·rw[y4 bg AP]at hs;simpa using hs
   ·simp only[Th,ew];omega
 ·have gr:l.length<=i:=by simpa using gr
  rw[aN gr]at hs
  refine bh ?_
  show((x,l):Int×List Bool)=_
  rw[<-hs];simp[ia]
theorem yM{c:gb}(hb:c.B0.length<=1000000000000):XJ c/\Ti c=(ia c.B0 0).length:=by
 have h1:=Tree.pp (zam (n:=0) (l:=c.B0) (eN _) (by omega))
 have h4:(N8 c).w λr=>r=(ia c.B0 0).length:=by
  unfold N8
  refine aq λ_ _=>c7 h1.1 (aq λy hy=>bh ?_)
  have hy:y=Tj 0 c.B0:=hy
  have e:Tj 0 c.B0=(0+((ia c.B0 0).length:Int),c.B0):=h1.2
  rw[hy,e];simp
 exact Tree.pp h4
theorem Lp{m:List Int}(hl:m.length=32*P)(hp:P<=32):jL m=P:=by
 simp only[jL,Gf,Tree.m,hl]
 have e1:Int.tmod ((32*P:Nat):Int) 32=0:=by rw[dZ (by omega)];omega
 have e2:Int.tdiv ((32*P:Nat):Int) 32=P:=by rw[eG (by omega)];omega
 rw[e1,e2,dN (by omega),wi (by omega) (by omega)];rfl
theorem ql{m:List Int}(h:jL m=P)(h1:1<=P):m.length=32*P/\P<=32:=by
 simp only[jL,Gf,Tree.m]at h
 rw[dZ (by omega),eG (by omega)]at h
 cases hb:(((m.length:Int)%32 !=0):Bool)with
 |true=>rw[hb]at h;simp only[cond_true]at h;omega
 |false=>
  rw[hb]at h
  simp only[cond_false]at h
  have hb:(m.length:Int)%32=0:=by simpa using hb
  cases hc:decide ((m.length:Int)>1024)with
  |true=>rw[hc]at h;simp only[cond_true]at h;omega
  |false=>
   rw[hc]at h
   simp only[cond_false]at h
   have hc:(m.length:Int)<=1024:=by simpa using hc
   rw[wi (by omega) (by omega)]at h
   omega
theorem Zoi{m:List Int}(hl:m.length=32*P)(hp:P<=32){f:Int}(f0:0<=f)(f1:f<P):N9 m f:=by
 show(Dl m f).p
 have hh:Ef m f=true:=by
  simp only[Ef,Kt,Tree.m,ee,Lp hl hp]
  rw[dY (by omega:f>=0),dY f1];rfl
 have e1:wrap .i64 (f*32)=f*32:=wi (by omega) (by omega)
 have e2:wrap .i64 (f*32+32)=f*32+32:=wi (by omega) (by omega)
 unfold Dl
 refine aq λx hx=>?_
 rw[hh]at hx;subst hx
 refine ab (λh=>by cases h) (λ_=>?_)
 rw[e1,e2]
 refine ax (by rw[dY (by rw[hl];omega)];rfl) (c7 ?_ (aq λ_ _=>bh trivial))
 show List.length _<=1000000000000
 simp;omega
def mu(m l:List Int):List kP:=l.map λf=>⟨f,(jz m f).1⟩
theorem xam{m:List Int}(hl:m.length=32*P)(hp:P<=32){d:List Bool}(hd:d.length=P):(Oa m [] d).w λr=>r=(m,mu m (ia d 0),d):=by
 unfold Oa
 refine fj (inv:=λz:Int×List Int×List kP=>∃i:Nat,z.1=i/\i<=d.length/\z.2.1=m/\z.2.2.length<=i/\z.2.2++mu m (ia (d.drop i) i)=mu m (ia d 0)) (μ:=Tk m [] d) ⟨0,rfl,bC _,rfl,by simp,by simp⟩ (cN _) ?_
 rintro⟨_,_,x⟩ ⟨i,rfl,hi,hm,hx,hs⟩
 simp only at hm hx hs
 subst hm
 refine ab (λbg=>?_) (λgr=>?_)
 ·have bg:i<d.length:=by simpa using bg
  have ew:wrap .i64 ((i:Int)+1)=((i+1:Nat):Int):=by rw[wi (by omega) (by omega)];omega
  refine ax (mK bg) (ab (λAP=>?_) (λAP=>?_))
  ·rw [dX]at AP
   refine c7 (?_:(Tl i _ x).p) (aq λy hy=>?_)
   ·exact c7 (Zoi hl hp (by omega) (by omega)) (aq λ_ _=>ax (dY (by omega)) (bh trivial))
   ·have hy:y=(true,_,x++[⟨(i:Int),(jz _ i).1⟩]):=hy
    subst hy
    refine ab (λh=>by cases h) (λ_=>ez ?_)
    refine⟨⟨i+1,ew,bg,rfl,by simp;omega,?_⟩,?_⟩
    ·rw[vk bg AP]at hs
     simp only[aM,List.singleton_append]
     rw[<-hs];simp[mu]
    ·simp only[Tk,ew];omega
  ·rw[dX]at AP
   refine ez ⟨⟨i+1,ew,bg,rfl,by show x.length<=_;omega,?_⟩,?_⟩
   ·rw[y4 bg AP]at hs;simpa using hs
   ·simp only[Tk,ew];omega
 ·have gr:d.length<=i:=by simpa using gr
  rw[aN gr]at hs
  refine bh ?_
  show((_,x,d):List Int×List kP×List Bool)=_
  rw[<-hs];simp[ia,mu]
def ug(c:gb)(m:List Int):gb×List kP:=
 if uh c=true/\c.B9<=10/\jL m=c.B0.length then
  ({B0:=cO c.B0.length false,B9:=wrap .i64 (c.B9+1),D6:=wrap .i64 (c.D6+(ia c.B0 0).length)},mu m (ia c.B0 0))
 else(c,[])
theorem Zje{c:gb}(h:uh c=true):1<=c.B0.length/\c.B0.length<=32/\0<=c.B9/\c.B9<=11/\0<=c.D6/\c.D6<=352:=by
 simp only[uh,Tm,Tree.m,eO,aE,decide_eq_true_eq]at h
 omega
theorem Zjo{c:gb}:uh c=decide (1<=c.B0.length/\c.B0.length<=32/\0<=c.B9/\c.B9<=11/\0<=c.D6/\c.D6<=352):=by
 cases h:uh c with
 |true=>exact(dY (Zje h)).symm
 |false=>
  refine(dN λhh=>?_).symm
  have:uh c=true:=by
   simp only[uh,Tm,Tree.m,eO,aE,decide_eq_true_eq]
   omega
  rw[h]at this;cases this
theorem Tn{c:gb}(hb:c.B0.length<=1000000000000):XK c/\Ob c=c:=by
 refine⟨?_,rfl⟩
 show(To c).p
 exact c7 (show c.B0.length<=140737488355328 by omega) (aq λ_ _=>bh trivial)
theorem y5{c:gb}{fi:Int}(hb:c.B0.length<=1000000000000):Qh9 c fi/\ID c fi=(uh c&&(decide (((ia c.B0 0).length:Int)<=fi)||decide (c.B9>=10))):=by
 have h:(Oc c fi).w λr=>r=(uh c&&(decide (((ia c.B0 0).length:Int)<=fi)||decide (c.B9>=10))):=by
  unfold Oc
  refine aq λv hv=>?_
  have hv:v=uh c:=hv
  subst hv
  refine ab (λh1=>?_) (λh1=>bh ?_)
  ·obtain⟨g1,g2⟩:=yM hb
   refine c7 g1 (aq λx hx=>?_)
   have hx:x=Ti c:=hx
   rw[g2]at hx;subst hx
   rw[h1]
   refine ab (λh2=>bh ?_) (λh2=>bh ?_)
   ·rw[h2];rfl
   ·rw[h2];simp
  ·rw[h1];rfl
 exact Tree.pp h
theorem qaG(h0:1<=P)(h1:P<=32):Qmo P/\Qzm P=cO (32*P) 0:=by
 have h:(Od P).w λr=>r=cO (32*P) 0:=by
  unfold Od
  have e:wrap .i64 ((P:Int)*32)=(P:Int)*32:=wi (by omega) (by omega)
  refine ab (λh=>by simp at h;omega) (λ_=>ab (λh=>by simp at h;omega) (λ_=>?_))
  rw[e]
  refine ax (by rw[dY (by omega)];rfl) (bh ?_)
  congr 1;omega
 exact Tree.pp h
theorem qan(h0:1<=P)(h1:P<=32):Qfr P/\Qph P=(⟨cO P true,0,0⟩,true):=by
 have h:(Qa P).w λr=>r=(⟨cO P true,0,0⟩,true):=by
  unfold Qa
  refine ab (λh=>by simp at h;omega) (λ_=>ab (λh=>by simp at h;omega) (λ_=>ax (by rw[dY (by omega)];rfl) ?_))
  refine fj (inv:=λz:Int×List Bool=>∃i:Nat,z.1=i/\i<=P/\z.2=cO i true++cO (P-i) false) (μ:=XL P) ⟨0,rfl,bC _,by simp⟩ (cN _) ?_
  rintro⟨_,x⟩ ⟨i,rfl,hi,hx⟩
  simp only at hx
  refine ab (λbg=>?_) (λgr=>?_)
  ·have bg:i<P:=by simpa using bg
   have ew:wrap .i64 ((i:Int)+1)=((i+1:Nat):Int):=by rw[wi (by omega) (by omega)];omega
   have hl:x.length=P:=by rw[hx];simp;omega
   refine ax (by rw[hl];exact mK bg) (ez ⟨⟨i+1,ew,bg,?_⟩,?_⟩)
   ·show x.set (dA (i:Int)) true=_
    rw[hx,dX,List.set_append_right _ _ (by simp),show P-i=(P-(i+1))+1 by omega,List.replicate_succ,eQ]
    simp
   ·simp only[XL,ew];omega
  ·have gr:P<=i:=by simpa using gr
   have:i=P:=by omega
   subst this
   refine bh ?_
   show(({B0:=x,B9:=(0:Int),D6:=(0:Int)}:gb),true)=_
   rw[hx];simp
 exact Tree.pp h
def pX:List Bool->List Int->List Bool
 |d,[]=>d
 |d,f::l=>pX (if 0<=f/\f<d.length then d.set f.toNat true else d) l
theorem Z18:∀(l:List Int) (d:List Bool),(pX d l).length=d.length
 |[],_=>rfl
 |f::l,d=>by simp only[pX];rw[Z18];split<;>simp
theorem zaG{c:gb}{l:List Int}(hb:c.B0.length<=1000000000000)(hl:l.length<=1000000000000):XM c l/\Tp c l={c with B0:=pX c.B0 l}:=by
 have h:(Oe c l).w λr=>r={c with B0:=pX c.B0 l}:=by
  unfold Oe
  refine c7 (Tn hb).1 (aq λx hx=>?_)
  have hx:x=Ob c:=hx
  rw[(Tn hb).2]at hx;subst hx
  refine fj (inv:=λz:Int×List Bool=>∃i:Nat,z.1=i/\i<=l.length/\pX z.2 (l.drop i)=pX x.B0 l) (μ:=Lq x l) ⟨0,rfl,bC _,by simp⟩ (cN _) ?_
  rintro⟨_,d⟩ ⟨i,rfl,hi,hd⟩
  simp only at hd
  refine ab (λbg=>?_) (λgr=>?_)
  ·have bg:i<l.length:=by simpa using bg
   have ew:wrap .i64 ((i:Int)+1)=((i+1:Nat):Int):=by rw[wi (by omega) (by omega)];omega
   have lM:l.drop i=l.getD i 0::l.drop (i+1):=by
    rw[aO bg];congr 1;simp[aV,bg]
   rw[lM,pX]at hd
   have mx:Lq x l (wrap .i64 ((i:Int)+1),d)<Lq x l ((i:Int),d):=by simp only[Lq,ew];omega
   have skip:¬(0<=l.getD i 0/\l.getD i 0<d.length)->(∃j:Nat,wrap .i64 ((i:Int)+1)=j/\j<=l.length/\pX d (l.drop j)=pX x.B0 l):=λhn=>by
    rw[if_neg hn]at hd
    exact⟨i+1,ew,bg,hd⟩
   refine ax (mK bg) ?_
   refine ab (λh1=>?_) (λh1=>ez ⟨skip (λh=>oN h1 h.1),mx⟩)
   have h1:0<=l.getD i 0:=oY h1
   refine ab (λh2=>?_) (λh2=>ez ⟨skip (λh=>oN h2 h.2),mx⟩)
   have h2:l.getD i 0<d.length:=oY h2
   refine ax (Bool.and_eq_true_iff.2 ⟨rfl,dY ⟨h1,h2⟩⟩) (ez ⟨⟨i+1,ew,bg,?_⟩,?_⟩)
   ·rw[if_pos ⟨h1,h2⟩]at hd;exact hd
   ·simp only[Lq,ew];omega
  ·have gr:l.length<=i:=by simpa using gr
   rw[aN gr,pX]at hd
   refine bh ?_
   show({B0:=d,B9:=x.B9,D6:=x.D6}:gb)=_
   rw[hd]
 exact Tree.pp h
attribute [local irreducible] Kq
def Tree.V{β:Type}(t:Tree β)(W:β->Prop):Prop:=W t.m
section
variable {α β:Type} {W:β->Prop} {c:Bool} {t e:Tree β}
theorem ma{x:β}(h:W x):Tree.V (.lf x) W:=h
theorem IE{f:Prop}{x:β}{hf:f}(h:W x):Tree.V (.nx f x hf) W:=h
theorem kT(h:c=true->Tree.V t W)(g:c=false->Tree.V e W):Tree.V (.br c t e) W:=by
 cases c
 ·exact g rfl
 ·exact h rfl
theorem BU(g:Tree.V t W):Tree.V (.cn c t) W:=g
theorem nz{p:Prop}(g:Tree.V t W):Tree.V (.an p t) W:=g
theorem lI{x:α}{k:α->Tree β}(h:∀y,y=x->Tree.V (k y) W):Tree.V (.lv x k) W:=h x rfl
theorem Ez{d:Inhabited β}{n:Nat}{f:Prop}{x:α}{k:α->Tree (α⊕β)}{hf:f}{inv:α->Prop}{μ:α->Nat}(h:inv x)(hn:μ x<n)(g:∀y,inv y->Tree.V (k y) (Sum.elim (λz=>inv z/\μ z<μ y) W)):Tree.V (.lp d n f x k hf) W:=by
 refine zB (P:=inv) (R:=W) (μ:=μ) (λa ha=>?_) n x h hn
 have:=g a ha
 unfold Tree.V at this
 revert this
 cases(k a).m with
 |inl z=>exactλh=>h
 |inr b=>exactλh=>h
end
structure gh(P:Nat)(m:bd):Prop where
 ok:ry P m
 may:AG m=true
section
variable {P:Nat} {m:bd} (h:gh P m)
include h
theorem gh.v:Lf m:=⟨h.ok.nZ,h.ok.mem.u,h.ok.lZ,h.ok.u7,h.ok.target,h.ok.th⟩
theorem gh.s:w5 P m:=⟨h.ok.nZ,h.ok.mem,h.ok.lZ,h.ok.u7,h.ok.target.1,h.ok.target.2⟩
theorem gh.XN:Iz m=true:=(Zpr h.v).symm.trans h.may
theorem Zkv:Gw m=false↔m.B6=false/\Qh m=false/\m.B7<1152921504606846976:=by
 simp only[Gw,IB,Tree.m,ee,h.XN]
 cases m.B6<;>cases Qh m<;>simp
theorem vM(hs:Gw m=false)(hc:U clock):gh P (Aa m clock).2/\(Aa m clock).2.B7=m.B7+1/\(Aa m clock).1.length<=1:=by
 have o:=Tree.post _ (Ws h.ok hc)
 change(Aa m clock).1.length<=1/\ry P (Aa m clock).2/\(Aa m clock).2.B7=wrap .u64 (m.B7+1)at o
 have s:=(Tree.pp (WK h.s h.ok.th hc)).2
 change _/\Good P m (AO m clock).1 at s
 have e:AO m clock=((Aa m clock).2,(Aa m clock).1):=by rw[Ziz h.v,Zp9,hs];rfl
 rw[e]at s
 have hct:=((Zkv h).1 hs).2.2
 have h0:=h.ok.th
 refine⟨⟨o.2.1,s.2.may h.may⟩,?_,o.1⟩
 rw[o.2.2,wrap_u64];omega
end
theorem Zq3{i:List Int}(hu:∀w∈i,U w)(hl:i.length<=256):gh 8 (kS 8 4 i).1/\(kS 8 4 i).1.B7=0:=by
 obtain⟨a,b⟩:=(Tree.pp (BD i hu hl)).2
 change ry 8 (kS 8 4 i).1 at a
 refine⟨⟨a,?_⟩,b⟩
 have e:(kS 8 4 i).2=true:=by
  have w:i64.wrap (8*32)=256:=by decide
  simp only[kS,Ge,Tree.m,w,ee,dN (show¬((i.length:Int)>256) by omega)]
  rfl
 obtain⟨a1,a2,a3,a4,a5,a6⟩:=zaN 8 4 i e
 exact(xaN _ 8 4 a1 a2 a3 a4 a5 _ a6).1
theorem xl{m:bd}(h:gh 8 m)(hc:m.B7<=87):Tree.V (H6 m [] 87) (λx=>x.2.2.2=0->gh 8 x.1/\x.1.B7<=87):=by
 have z:∀{k:Int} {p:Prop},k≠0->k=0->p:=λa b=>absurd b a
 unfold H6
 refine lI λx0 _=>kT (λ_=>ma (z (by decide))) λ_=>kT (λ_=>ma (z (by decide))) λ_=>kT (λ_=>ma (z (by decide))) λ_=>nz (lI λx1 _=>kT (λ_=>ma (z (by decide))) λ_=>nz (lI λx2 hx=>?_))
 rw[y3]at hx
 refine Ez (inv:=λv:bd×List ik=>gh 8 v.1/\v.1.B7<=87) (μ:=Ww m [] 87) ⟨by rw[hx];exact h,by rw[hx];exact hc⟩ (cN _) λv0 ⟨a1,a3⟩=>?_
 have a2:=a1.ok.th
 refine kT (λhb=>kT (λhm=>?_) (λ_=>ma λ_=>⟨a1,a3⟩)) (λ_=>ma λ_=>⟨a1,a3⟩)
 have hb:=oY hb
 have hm:=oY hm
 refine Ez (inv:=λ_=>True) (μ:=Wx m [] 87 v0) trivial (cN _) λv1 _=>?_
 refine kT (λ_=>ma λ_=>⟨a1,a3⟩) λhh=>nz (lI λx3 h3=>kT (λ_=>ma λ_=>⟨a1,a3⟩) λhi=>nz (lI λx4 _=>kT (λ_=>ma (z (by decide))) λ_=>nz (lI λx5 h5=>BU (IE ?_))))
 obtain⟨b1,b2,_⟩:=vM a1 ((Zkv a1).2 ⟨hh,h3.symm.trans hi,hm⟩) (clock:=0) gd
 rw[<-h5]at b1 b2
 show(gh 8 x5.2/\x5.2.B7<=87)/\(87-x5.2.B7).toNat<(87-v0.1.B7).toNat
 exact⟨⟨b1,by omega⟩,by omega⟩
theorem Zhc(kind:Int)(l:List Int)(hl:l.length*8<=reachBytes)(h40:l.length<=60):gh 8 (Tq kind l)/\(Tq kind l).B7<=87:=by
 show Tree.V (H7 kind l) (λm=>gh 8 m/\m.B7<=87)
 have code:=(Tree.pp (yd l hl)).2
 change((Ts l).length:Int)=l.length/\∀w∈Ts l,U w at code
 obtain⟨b1,b2⟩:=code
 unfold H7
 refine nz (lI λx0 nG=>kT (λ_=>nz (lI λx1 e1=>?_)) (λhk=>?_))
 ·have eb:x1.1=jG:=by rw[e1];rfl
  obtain⟨q1,q2⟩:jG.length<=160/\∀w∈jG,U w:=ye
  refine Ez (inv:=λv:List Int=>v.length<=160/\v=jG++cO (v.length-jG.length) 0) (μ:=Wy kind l) ⟨by rw[eb];exact q1,by rw[eb];simp⟩ (cN _) λv0 ⟨a1,a2⟩=>?_
  have a3:jG.length<=v0.length:=by rw[a2,lA];omega
  refine kT (λhb=>?_) (λhb=>?_)
  ·have hb:=oY hb
   refine BU (IE ?_)
   show(_/\_)/\(_:Nat)<_
   refine⟨⟨by rw[lA,cY];omega,?_⟩,by show 160-(v0++[0]).length<160-v0.length;rw[lA,cY];omega⟩
   show v0++[0]=jG++cO ((v0++[0]).length-jG.length) 0
   rw[lA,cY,show v0.length+1-jG.length=(v0.length-jG.length)+1 by omega,eQ,<-aM,<-a2]
  ·have hb:=oN hb
   have hv:v0=te:=by
    unfold te
    rw[show(160:Nat)=v0.length by omega]
    exact a2
   subst hv
   have hp:=xf
   have Wz:∀w∈te,U w:=λw hw=>(List.mem_append.1 hw).elim (q2 w) (BB _ w)
   refine nz (lI λx2 e2=>BU ?_)
   rw[<-e2]at b1 b2
   have hu:∀w∈te++x2,U w:=λw hw=>(List.mem_append.1 hw).elim (Wz w) (b2 w)
   have hlen:(te++x2).length<=256:=by rw[lA];omega
   refine kT (λhb=>?_) (λhb=>?_)
   ·have hb:=oY hb;omega
   ·obtain⟨c1,c2⟩:=Zq3 hu hlen
    refine nz (lI λx3 h3=>?_)
    rw[<-h3]at c1 c2
    have rn:=xl c1 (by omega)
    refine kT (λ_=>nz (lI λx4 hx=>ma ?_)) (λ_=>ma ⟨c1,by omega⟩)
    have e:x3=kS 8 4 (te++(x2++cO (96-x2.length) 0)):=by
     rw[h3]
     have H8:(x2++cO (96-x2.length) (0:Int)).length=96:=by rw[lA,cS];omega
     refine qf _ _ hlen (by rw[lA,H8];omega) ?_
     rw[lA,lA,H8,hp,aM,aM,aM,show 256-(160+96)=0 by omega,show 256-(160+x2.length)=96-x2.length by omega]
     simp
    have h0:x4.2.2.2=0:=by
     rw[hx,e]
     exact qZ _ (by rw[lA,cS];omega)
    exact(by rw[hx];exact rn:x4.2.2.2=0->gh 8 x4.1/\x4.1.B7<=87) h0
 ·have hk:=oN hk
  refine nz (lI λx2 e2=>BU ?_)
  rw[<-e2]at b1 b2
  refine kT (λhb=>?_) (λhb=>?_)
  ·have hb:=oY hb;omega
  ·obtain⟨c1,c2⟩:=Zq3 b2 (by omega)
   refine nz (lI λx3 h3=>?_)
   rw[<-h3]at c1 c2
   exact kT (λh=>absurd (eq_of_beq h) (by omega)) (λ_=>ma ⟨c1,by omega⟩)
theorem EA{m:bd}(g:gh P m)(hc:U clock):gh P (AO m clock).1:=by
 have s:=(Tree.pp (WK g.s g.ok.th hc)).2
 change _/\Good P m (AO m clock).1 at s
 have k:=s.2.ok
 exact⟨⟨k.nZ,k.mem,k.lZ,k.u7,⟨k.target,k.given⟩,s.2.th⟩,s.2.may g.may⟩
theorem Z5i{m:bd}(g:gh P m)(hc:U clock):Tt m clock:=(Tree.pp (WK g.s g.ok.th hc)).1
theorem gh.mb{m:bd}(h:gh P m):ej P m.Mem:=h.ok.mem
theorem Zoz{m:bd}(h:gh 8 m){M:List Int}(hM:ej 8 M):gh 8 {m with Mem:=M}:=by
 refine⟨⟨h.ok.nZ,hM,h.ok.lZ,h.ok.u7,h.ok.target,h.ok.th⟩,?_⟩
 obtain⟨g1,g2,g3,g4,g5⟩:=(KG m).1 h.may
 have id:∀{p:Prop},p->p:=λh=>h
 refine(KG _).2 ⟨?_,g2,g3,g4,?_⟩
 ·show jL M≠0
  rw[tZ hM];decide
 ·exact Ic (m:=m) (P:=8) h.ok.mem hM id id id id id g5
theorem qN:ej 8 (cO 256 0):=⟨by simp,by decide,by decide,λw hw=>by rw[eR hw];exact gd⟩
theorem zan{s t:List Int}(hl:s.length<=1000000000000):Tu s t=true->s=t:=by
 have h:(Lr s t).w λr=>r=true->s=t:=by
  unfold Lr
  refine ab (λ_=>bh λh=>by cases h) (λhe=>?_)
  have he:s.length=t.length:=by
   have:(s.length:Int)=t.length:=by simpa using he
   omega
  refine fj (inv:=λz:Int=>∃i:Nat,z=i/\i<=s.length/\∀j,j<i->s.getD j 0=t.getD j 0) (μ:=Of s t) ⟨0,rfl,bC _,λj h=>by omega⟩ (cN _) ?_
  rintro _ ⟨i,rfl,hi,hj⟩
  refine ab (λbg=>?_) (λgr=>bh λ_=>?_)
  ·have bg:i<s.length:=by simpa using bg
   have ew:wrap .i64 ((i:Int)+1)=((i+1:Nat):Int):=by rw[wi (by omega) (by omega)];omega
   refine ax (mK bg) (ax (mK (by omega)) (ab (λ_=>bh λh=>by cases h) (λheq=>ez ⟨⟨i+1,ew,bg,λj Ls=>?_⟩,by simp only[Of,ew];omega⟩)))
   rw[dX]at heq
   rcases Nat.lt_succ_iff_lt_or_eq.1 Ls with h|h
   ·exact hj j h
   ·subst h;simpa using heq
  ·have gr:s.length<=i:=by simpa using gr
   refine bR he λj h1 h2=>?_
   have:=hj j (by omega)
   simpa[aV,h1,h2]using this
 exact(Tree.pp h).2
theorem Zhk(ha:ej P a)(hb:ej P b):XO a b/\(DA a b).length<=P/\ ∀k:Nat,k<P->(k:Int)∈DA a b\/(a.drop (k*32)).take 32=(b.drop (k*32)).take 32:=by
  have h:(Og a b).w λr=>r.length<=P/\ ∀k:Nat,k<P->(k:Int)∈r\/(a.drop (k*32)).take 32=(b.drop (k*32)).take 32:=by
    have la:=ha.len
    have lb:=hb.len
    have hp:=ha.p2
    unfold Og
    refine aq λx0 h0=>aq λx1 h1=> ?_
    have h0:x0=P:=h0.trans (Lp la hp)
    have h1:x1=P:=h1.trans (Lp lb hp)
    subst h0;subst h1
    refine ab (λh=>by simp at h) (λ_=> ?_)
    refine fj (inv:=λz:Int×List Int=> ∃i:Nat,z.1=i/\i<=P/\z.2.length<=i/\ ∀k:Nat,k<i->(k:Int)∈z.2\/(a.drop (k*32)).take 32=(b.drop (k*32)).take 32) (μ:=λz=>(P-z.1).toNat) ⟨0,rfl,bC _,by simp,λk h=>by omega⟩ (by simp only[Qi1];omega) ?_
    rintro⟨_,x⟩ ⟨i,rfl,hi,hx,hk⟩
    simp only at hx hk
    refine ab (λbg=> ?_) (λgr=>bh ?_)
    . have bg:i<P:=by simpa using bg
      have ew:wrap .i64 ((i:Int)+1)=((i+1:Nat):Int):=by rw[wi (by omega) (by omega)];omega
      have e1:wrap .i64 ((i:Int)*32)=((i*32:Nat):Int):=by rw[wi (by omega) (by omega)];omega
      have e2:wrap .i64 (((i+1:Nat):Int)*32)=((i*32+32:Nat):Int):=by rw[wi (by omega) (by omega)];omega
      simp only[ew,e1,e2,dX,show i*32+32-i*32=32 by omega]
      refine ax (by rw[dY (by omega)];rfl) (ax (by rw[dY (by omega)];rfl) (c7 (show _<=_ by simp;omega) (aq λx2 h2=> ?_)))
      have h2:x2=Tu _ _:=h2
      refine ab (λhn=>ax (dY (by omega)) (ez ⟨⟨i+1,rfl,bg,by simp;omega,λk uN=> ?_⟩,by omega⟩)) (λhn=>ez ⟨⟨i+1,rfl,bg,by show x.length<=_;omega,λk uN=> ?_⟩,by omega⟩)
      . rcases Nat.lt_succ_iff_lt_or_eq.1 uN with h|h
        . rcases hk k h with h|h
          . exact .inl (eS _ h)
          . exact .inr h
        . subst h;exact .inl (by simp)
      . rcases Nat.lt_succ_iff_lt_or_eq.1 uN with h|h
        . exact hk k h
        . subst h
          have:x2=true:=by simpa using hn
          exact .inr (zan (by simp;omega) (h2.symm.trans this))
    . have gr:P<=i:=by simpa using gr
      exact⟨by show x.length<=P;omega,λk uN=>hk k (by omega)⟩
  exact Tree.pp h
theorem Tv:∀{l:List Int} {d:List Bool} {k:Nat},k<d.length->(d.getD k false=true\/(k:Int)∈l)->(pX d l).getD k false=true
 |[],d,k,_,h=>by
  rcases h with h|h
  ·exact h
  ·cases h
 |f :: l,d,k,hk,h=>by
  simp only[pX]
  by_cases hf:0<=f/\f<d.length
  ·rw [if_pos hf]
   refine Tv (by simpa using hk) ?_
   by_cases e:f.toNat=k
   ·refine .inl ?_
    subst e
    simp[aV,hk]
   ·rcases h with h|h
    ·refine .inl ?_
     rw[cX,List.getElem?_set_ne e,<-cX];exact h
    ·rcases List.mem_cons.1 h with h|h
     ·omega
     ·exact .inr h
  ·rw[if_neg hf]
   refine Tv hk ?_
   rcases h with h|h
   ·exact .inl h
   ·rcases List.mem_cons.1 h with h|h
    ·omega
    ·exact .inr h
theorem zl{j:Nat}(h:(a.drop (j/32*32)).take 32=(b.drop (j/32*32)).take 32):a.getD j 0=b.getD j 0:=by
 have e:=congrArg (λl=>l.getD (j%32) 0) h
 have hm:j%32<32:=Nat.mod_lt _ (by decide)
 simp only[cX,List.getElem?_take,hm,if_true,List.getElem?_drop]at e
 rw[show j/32*32+j%32=j by omega]at e
 simpa only[cX]using e
theorem z6{m d:List Int}{b:Nat}(h:m.getD (b/4) 0=d.getD (b/4) 0):lr m b=lr d b:=by unfold lr;rw[h]
theorem vl{c:gb}{m:List Int}(hP:1<=P)(hm:ej P m)(hd:c.B0.length=P)(r0:0<=c.B9)(r1:c.B9<=10)(s0:0<=c.D6)(s1:c.D6<=352):ug c m=(⟨cO P false,c.B9+1,c.D6+(ia c.B0 0).length⟩,mu m (ia c.B0 0)):=by
 have:=Tg c.B0 0
 have hP2:=hm.p2
 unfold ug
 rw[if_pos ⟨by rw[Zjo];exact dY (by omega),r1,by rw[Lp (P:=P) hm.len hP2,hd]⟩,wi (by omega) (by omega),wi (by omega) (by omega),hd]
theorem qm{c:gb}{m:List Int}(hb:c.B0.length<=1000000000000):XP c m/\Q6 c m=ug c m:=by
 have h:(Oh c m).w λr=>r=ug c m:=by
  unfold Oh
  refine c7 (Tn hb).1 (aq λx hx=>?_)
  have hx:x=Ob c:=hx
  rw[(Tn hb).2]at hx;subst hx
  refine aq λv hv=>?_
  have hv:v=uh x:=hv
  refine ab (λh1=>bh ?_) (λh1=>?_)
  ·have:uh x=false:=by rw[hv]at h1;simpa using h1
   simp[ug,this]
  have hV:uh x=true:=by rw[hv]at h1;simpa using h1
  obtain⟨v1,v2,v3,v4,v5,v6⟩:=Zje hV
  refine ab (λh2=>bh ?_) (λh2=>?_)
  ·have:¬x.B9<=10:=by simpa using h2
   simp[ug,this]
  have h2:x.B9<=10:=by simpa using h2
  refine aq λp hp=>?_
  have hp:p=jL m:=hp
  refine ab (λh3=>bh ?_) (λh3=>?_)
  ·have:¬jL m=x.B0.length:=by rw[hp]at h3;simpa using h3
   simp[ug,this]
  have h3:jL m=x.B0.length:=by rw[hp]at h3;simpa using h3
  obtain⟨l1,l2⟩:=ql h3 v1
  have hr:=Tree.pp (xam l1 l2 rfl)
  refine aq λ_ _=>c7 hr.1 (aq λy hy=>ax ?_ (bh ?_))
  ·rw[dY (by omega)];rfl
  ·have hy:y=Tw m [] x.B0:=hy
   have e:Tw m [] x.B0=(m,mu m (ia x.B0 0),x.B0):=hr.2
   rw[hy,e]
   simp[ug,hV,h2,h3,mu]
 exact Tree.pp h
theorem xN{c:gb}{m:List Int}(hm:ej 8 m)(hd:c.B0.length=8)(r0:0<=c.B9)(r1:c.B9<=10)(s0:0<=c.D6)(s1:c.D6<=8*c.B9):ug c m=(⟨cO 8 false,c.B9+1,c.D6+(ia c.B0 0).length⟩,mu m (ia c.B0 0)):=
 vl (P:=8) (by decide) hm hd r0 r1 s0 (by omega)
theorem IF{m:List Int}(hm:ej 8 m)(hf:f<8):BM m f (jz m f).1/\(jz m f).2=true:=(Tree.pp (qi hm (f:=(f:Int)) (by omega) (by omega))).2
theorem xm{m:List Int}(hm:ej 8 m)(hf:f<8):(jz m f).1.length=128:=(IF hm hf).1.1
theorem Zb(ha:ej 8 a)(hb:ej 8 b)(hf:f<8)(h:∀k:Nat,k<128->lr a (f*128+k)=lr b (f*128+k)):(jz a f).1=(jz b f).1:=by
 obtain⟨p1,p2⟩:=(IF ha hf).1
 obtain⟨q1,q2⟩:=(IF hb hf).1
 have e:((f:Int)*128).toNat=f*128:=by omega
 refine vh (m:=a) (f:=f) ⟨p1,p2⟩ ⟨q1,λk hk=>?_⟩
 rw[q2 k hk,e,h k hk]
theorem zN(ha:ej 8 a)(hb:ej 8 b)(hf:f<8)(h:(jz a f).1=(jz b f).1)(hk:k<128):lr a (f*128+k)=lr b (f*128+k):=by
 have p:=(IF ha hf).1.2 k hk
 have q:=(IF hb hf).1.2 k hk
 have e:((f:Int)*128).toNat=f*128:=by omega
 rw[e]at p q
 rw[<-p,<-q,h]
theorem yN(ha:ej 8 a)(hb:ej 8 b)(hf:f<8)(h:¬(f:Int)∈DA a b):(jz a f).1=(jz b f).1:=by
 obtain⟨_,_,c⟩:=Zhk ha hb
 refine Zb ha hb hf λk hk=>z6 ?_
 rcases c f hf with c|c
 ·exact absurd c h
 ·exact zl (by rw[show(f*128+k)/4/32=f by omega];exact c)
theorem Tx{m:List Int}(hm:ej 8 m)(hf:f<8){d:List UInt8}(hd:d.length=128):(rA m f d).2=true/\ej 8 (rA m f d).1/\∀b:Nat,lr (rA m f d).1 b=if(f:Int)*128<=b/\(b:Int)<(f:Int)*128+128 then((d.getD (b-(f:Int)*128).toNat 0).toNat:Int)else lr m b:=(Tree.pp (WV hm (f:=(f:Int)) (by omega) (by omega) hd)).2
theorem Zjn{m:List Int}(hm:ej 8 m)(hf:f<8){d:List UInt8}(hd:d.length=128):Ty m f d:=(Tree.pp (WV hm (f:=(f:Int)) (by omega) (by omega) hd)).1
theorem Zlv{m:List Int}(hm:ej 8 m)(hf:f<8){d:List UInt8}(hd:d.length=128):ej 8 (rA m f d).1:=(Tx hm hf hd).2.1
theorem Zo5{m:List Int}(hm:ej 8 m)(hf:f<8){d:List UInt8}(hd:d.length=128):(jz (rA m f d).1 f).1=d:=by
 obtain⟨_,ok,h⟩:=Tx hm hf hd
 refine vh (IF ok hf).1 ⟨hd,λk hk=>?_⟩
 rw[h,if_pos (by omega)]
 congr 3;omega
theorem Znm{m:List Int}(hm:ej 8 m)(hf:f<8)(hk:k<8)(hn:k≠f){d:List UInt8}(hd:d.length=128):(jz (rA m f d).1 k).1=(jz m k).1:=by
 obtain⟨_,ok,h⟩:=Tx hm hf hd
 refine Zb ok hm hk λj hj=>?_
 rw[h,if_neg (by omega)]
theorem zm(ha:ej 8 a)(hb:ej 8 b)(h:∀f:Nat,f<8->(jz a f).1=(jz b f).1):a=b:=by
 have la:=ha.len
 have lb:=hb.len
 refine xh (la.trans lb.symm) ha.u hb.u λk=>?_
 by_cases hk:k/128<8
 ·have:=zN ha hb hk (h _ hk) (k:=k%128) (Nat.mod_lt _ (by decide))
  rwa [show k/128*128+k%128=k by omega]at this
 ·refine z6 ?_
  simp[aV,aJ (show a.length<=k/4 by omega),aJ (show b.length<=k/4 by omega)]
theorem xan{c:gb}(hd:c.B0.length=8)(r0:0<=c.B9)(r1:c.B9<=11)(s0:0<=c.D6)(s1:c.D6<=8*c.B9):ID c 32=true:=by
 have:=Tg c.B0 0
 rw[(y5 (c:=c) (fi:=32) (by omega)).2,Zjo,dY (show 1<=c.B0.length/\c.B0.length<=32/\0<=c.B9/\c.B9<=11/\0<=c.D6/\c.D6<=352 by omega),dY (show((ia c.B0 0).length:Int)<=32 by omega)]
 rfl
def BV(s:iL):Prop:=s.ae.length=4/\(∀b∈s.ae,b.length=128)/\1<=s.D5/\s.D5<=2/\0<=s.D7
theorem Zpo{s:iL}(h:BV s):(Oi s).w λr=>r=true:=by
 obtain⟨b1,b2,b3,b4,b5⟩:=h
 unfold Oi
 refine ab (λh=>absurd (oY h) (by omega)) λ_=>ab (λh=>absurd (oY h) (by omega)) λ_=>ab (λh=>absurd (oY h) (by omega)) λ_=>?_
 refine fj (inv:=λz:Int=>∃i:Nat,z=i/\i<=s.ae.length) (μ:=XQ s) ⟨0,rfl,bC _⟩ (cN _) ?_
 rintro _ ⟨i,rfl,hi⟩
 refine ab (λbg=>?_) (λgr=>ab (λh=>?_) (λ_=>bh (dY (by omega))))
 ·have bg:i<s.ae.length:=by simpa using bg
  have ew:wrap .i64 ((i:Int)+1)=((i+1:Nat):Int):=by rw[wi (by omega) (by omega)];omega
  refine ax (mK bg) (ab (λh=>?_) (λ_=>ez ⟨⟨i+1,ew,bg⟩,by simp only[XQ,ew];omega⟩))
  exfalso
  have e:s.ae.getD (dA (i:Int)) (RK.eh RK.str)=s.ae[i]:=by simp[aV,bg]
  rw[e,b2 _ (eT bg)]at h
  cases h
 ·have h:s.D5=0:=by simpa using h
  omega
theorem XR{s:iL}(h:BV s)(h0:0<=host)(seen:Int):(Oj s host seen).w λr=>r=if s.D5=seen then({s with D5:=s.D5+1,D7:=host},true)else(s,false):=by
 have v:=Tree.pp (Zpo h)
 obtain⟨b1,b2,b3,b4,b5⟩:=h
 unfold Oj
 have cp:(Ok s).w λr=>r=s:=by
  unfold Ok
  exact c7 (show s.ae.length<=1000000000000 by omega) (aq λx hx=>by have hx:x=s.ae:=hx;subst hx;exact bh rfl)
 refine cy cp λx0 e0=>?_
 subst e0
 refine c7 v.1 (aq λx1 h1=>?_)
 have h1:x1=true:=h1.trans v.2
 subst h1
 refine ab (λh=>by cases h) λ_=>ab (λh=>absurd (oY h) (by omega)) λ_=>ab (λh=>bh ?_) λh=>?_
 ·have:x0.D5≠seen:=by simpa using h
  rw[if_neg this]
 ·have h:x0.D5=seen:=by simpa using h
  refine ab (λh=>absurd (oY h) (by omega)) λ_=>bh ?_
  have e:wrap .u64 (x0.D5+1)=x0.D5+1:=by rw[wrap_u64];omega
  rw[if_pos h,e]
theorem Zow{s:iL}(h:BV s)(h0:0<=host)(seen:Int):me s host seen=if s.D5=seen then({s with D5:=s.D5+1,D7:=host},true)else(s,false):=(Tree.pp (XR h h0 seen)).2
def zM:bd:=(RK.eh RK.aa).A0
def gq(l:List fg)(x:fg):List fg:=if l.length<64 then l++[x]else l
def oX(l xs:List fg):List fg:=xs.foldl gq l
theorem Lt{x y:fg}(h:y∈gq l x):y∈l\/y=x:=by
 unfold gq at h;split at h
 ·rcases List.mem_append.1 h with h|h
  ·exact .inl h
  ·exact .inr (List.mem_singleton.1 h)
 ·exact .inl h
theorem Lu(h:l.length<=64):(gq l x).length<=64:=by
 unfold gq;split
 ·rw[lA,cY];omega
 ·exact h
theorem Ol:∀{l:List fg} {y:fg},y∈oX l xs->y∈l\/y∈xs:=by
 induction xs with
 |nil=>intro l y h;exact .inl h
 |cons x xs ih=>
  intro l y h
  rcases ih (l:=gq l x) h with h|h
  ·rcases Lt h with h|h
   ·exact .inl h
   ·exact .inr (by rw[h];exact eU ..)
  ·exact .inr (eV _ h)
theorem Zi3:∀{l:List fg},l.length<=64->(oX l xs).length<=64:=by
 induction xs with
 |nil=>intro l h;exact h
 |cons x xs ih=>intro l h;exact ih (l:=gq l x) (Lu h)
theorem vN:∀{l:List fg},l.length+xs.length<=64->oX l xs=l++xs:=by
 induction xs with
 |nil=>intro l h;simp[oX]
 |cons x xs ih=>
  intro l h
  have h:l.length+(xs.length+1)<=64:=h
  have e:gq l x=l++[x]:=if_pos (by omega)
  have:=ih (l:=l++[x]) (by rw[lA,cY];omega)
  show oX (gq l x) xs=_
  rw[e,this,aM];rfl
def tq(r f:Int)(d:List UInt8):fg:=⟨1,r,f,d,zM,[]⟩
def ui(s:il):fg:=⟨2,0,0,[],{s.A0 with Mem:=[]},s.A3⟩
def BW(k:Int):fg:=⟨k,0,0,[],zM,[]⟩
def rB(R fs:List Int)(v:Int):List Int:=fs.foldl (λR f=>R.set f.toNat v) R
theorem Tz{v:Int}:∀{R:List Int},(rB R fs v).length=R.length:=by
 induction fs with
 |nil=>intro R;rfl
 |cons x xs ih=>intro R;exact(ih (R:=R.set x.toNat v)).trans dC
theorem FH{R:List Int}{i k:Nat}{v:Int}(hk:k<R.length):(R.set i v).getD k 0=if i=k then v else R.getD k 0:=by
 simp only[cX,List.getElem?_set]
 by_cases h:i=k
 ·subst h;simp[hk]
 ·simp[h]
theorem Zbk{v:Int}(hf:∀f∈fs,0<=f):∀{R:List Int} {k:Nat},k<R.length->(rB R fs v).getD k 0=if(k:Int)∈fs then v else R.getD k 0:=by
 induction fs with
 |nil=>intro R k hk;simp[rB]
 |cons x xs ih=>
  intro R k hk
  have h:=ih (λf h=>hf f (eV _ h)) (R:=R.set x.toNat v) (k:=k) (by rw[dC];exact hk)
  show(rB (R.set x.toNat v) xs v).getD k 0=_
  rw[h,FH hk]
  have x0:=hf x (eU ..)
  by_cases h1:(k:Int)∈xs
  ·rw[if_pos h1,if_pos (eV _ h1)]
  ·rw [if_neg h1]
   by_cases h2:x.toNat=k
   ·rw[if_pos h2,if_pos (by rw[show(k:Int)=x by omega];exact eU ..)]
   ·rw[if_neg h2,if_neg (λh=>by
     rcases List.mem_cons.1 h with h|h
     ·omega
     ·exact h1 h)]
theorem ym:∀{D:List Bool} {k:Int} {f:Nat},k+(f:Int)∈ia D k↔D.getD f false=true
 |[],k,f=>by simp[ia]
 |b::D,k,0=>by
  have no:¬k∈ia D (k+1):=λh=>by have:=N6 h;omega
  simp only[ia]
  cases b<;>simp[no]
 |b ::D,k,f+1=>by
  have ih:=ym (D:=D) (k:=k+1) (f:=f)
  have e:k+((f+1:Nat):Int)=k+1+(f:Int):=by omega
  rw[e]
  simp only[ia,List.getD_cons_succ]
  split
  ·rw[List.mem_cons]
   constructor
   ·rintro(h|h)
    ·omega
    ·exact ih.1 h
   ·exactλh=>.inr (ih.2 h)
  ·exact ih
theorem TA:(f:Int)∈ia D 0↔D.getD f false=true:=by
 have:=ym (D:=D) (k:=0) (f:=f)
 rwa [Int.zero_add]at this
def Lv(g:dw):dw:=
 { g with
   A1:={g.A1 with B1:=(ug g.A1.B1 g.A1.A0.Mem).1,A3:=rB g.A1.A3 ((ug g.A1.B1 g.A1.A0.Mem).2.map (·.Frame)) (ug g.A1.B1 g.A1.A0.Mem).1.B9}
   A7:=oX g.A7 ((ug g.A1.B1 g.A1.A0.Mem).2.map λp=>tq (ug g.A1.B1 g.A1.A0.Mem).1.B9 p.Frame p.F1)}
def Gz(g:dw):dw:=
 {g with A1:={g.A1 with A4:=2},A7:=gq g.A7 (ui g.A1)}
def DB(g:dw)(fi:Int):dw:=
 if g.A1.A4=1/\ID g.A1.B1 fi=true then Gz (Lv g)else g
def sk(s:il):List fg:=(List.range 8).map λf=>tq (s.A3.getD f 0) f (jz s.A0.Mem f).1
theorem vm(s:il):(sk s).length=8:=by
 unfold sk;rw[eW,List.length_range]
def Lw(g:dw):dw:=
 if g.A1.A4=2 then{g with A7:=oX g.A7 (sk g.A1++[ui g.A1])}else g
def jm(g:dw):Int:=if g.A1.A4=1\/g.A1.A4=3 then 0 else if g.A2.A4=3 then 1 else-1
def kU(m:bd)(clock:Int):Nat->bd
 |0=>m
 |n+1=>(AO (kU m clock n) clock).1
def runN(n:Int):Nat:=(min (max n 0) 64).toNat
def rC(s:il)(m:bd):gb:=if s.A4=1 then{s.B1 with B0:=pX s.B1.B0 (DA s.A0.Mem m.Mem)}else s.B1
def jP(g:dw)(n clock:Int):dw:=
 if g.A1.A4=1\/g.A1.A4=3 then{g with A1:={g.A1 with A0:=kU g.A1.A0 clock (runN n),B1:=rC g.A1 (kU g.A1.A0 clock (runN n))}}
 else if g.A2.A4=3 then{g with A2:={g.A2 with A0:=kU g.A2.A0 clock (runN n)}}
 else g
def Q3(t:il)(x:fg):il:=
 if¬(t.A4=0\/t.A4=1\/t.A4=2)then t
 else if x.C3=1 then
  (if 0<=x.Frame/\x.Frame<t.A3.length/\t.A3.getD x.Frame.toNat 0<x.B9 then
   {t with A4:=if t.A4=0 then 1 else t.A4,A0:={t.A0 with Mem:=(rA t.A0.Mem x.Frame x.F1).1},A3:=t.A3.set x.Frame.toNat x.B9}
  else t)
 else if x.C3=2 then(if t.A4=2 then t else{t with A4:=2,A0:={x.A0 with Mem:=t.A0.Mem},C0:=x.A3})
 else if x.C3=4 then{t with A4:=4}else t
def lO(g:dw)(back:Bool):List fg:=if back=true then g.C1 else g.A7
def oZ(g:dw)(back:Bool)(l:List fg):dw:=if back=true then{g with C1:=l}else{g with A7:=l}
def mL(l:List fg)(i:Int):Prop:=0<=i/\i<l.length
instance (l:List fg) (i:Int):Decidable (mL l i):=by unfold mL;infer_instance
def o4(l:List fg)(i:Int):fg:=l.getD i.toNat (RK.eh RK.aa)
def kW(l:List fg)(i:Int):List fg:=l.take i.toNat++l.drop (i.toNat+1)
def tt(g:dw)(back:Bool)(i:Int):dw:=if mL (lO g back) i then oZ g back (kW (lO g back) i)else g
def Lx(g:dw)(back:Bool)(x:fg):dw:=
 if back=true then(if g.A1.A4=2/\x.C3=3 then{g with A1:={g.A1 with A4:=4}}else g)else{g with A2:=Q3 g.A2 x}
def oa(g:dw)(back:Bool)(i:Int):dw:=if mL (lO g back) i then Lx (tt g back i) back (o4 (lO g back) i)else g
def AQ(g:dw)(back:Bool)(i:Int):dw:=if mL (lO g back) i then oZ g back (gq (lO g back) (o4 (lO g back) i))else g
def BX(g:dw):Prop:=g.A2.A4=2/\g.A2.A3=g.A2.C0
instance (g:dw):Decidable (BX g):=by unfold BX;infer_instance
def sn(g:dw):dw:=
 if BX g then
  (if(me g.A9 1 g.A2.D5).2=true then{g with A9:=(me g.A9 1 g.A2.D5).1,A2:={g.A2 with A4:=3,D5:=(me g.A9 1 g.A2.D5).1.D5},C1:=gq g.C1 (BW 3)}
  else{g with A2:={g.A2 with A4:=4}})
 else g
def ob(g:dw):dw:=
 if g.A1.A4=1 then{g with A1:={g.A1 with A4:=3},A7:=gq g.A7 (BW 4)}
 else if g.A1.A4=2 then
  (if(me g.A9 0 g.A1.D5).2=true then{g with A9:=(me g.A9 0 g.A1.D5).1,A1:={g.A1 with A4:=3,D5:=(me g.A9 0 g.A1.D5).1.D5},A7:=gq g.A7 (BW 4)}
  else{g with A1:={g.A1 with A4:=4}})
 else g
def Om(g:dw)(back:Bool):dw:=if back=true then{g with A2:={g.A2 with A4:=4}}else{g with A1:={g.A1 with A4:=4}}
def o5(g:dw)(a:jU):dw×Bool:=
 if a.C3=1 then(jP g a.N a.F2,true)
 else if a.C3=2 then(if g.A1.A4=1/\g.A1.B1.B9<10 then Lv g else g,true)
 else if a.C3=3 then(DB g a.N,true)
 else if a.C3=4 then(Lw g,true)
 else if a.C3=5 then(oa g a.C1 a.N,true)
 else if a.C3=6 then(tt g a.C1 a.N,true)
 else if a.C3=7 then(AQ g a.C1 a.N,true)
 else if a.C3=8 then(sn g,true)
 else if a.C3=9 then(ob g,true)
 else if a.C3=10 then(Om g a.C1,true)
 else(g,false)
structure jx(x:fg):Prop where
 mem:x.A0.Mem=[]
 rl:x.A3.length<=8
 pg:x.C3=1->0<=x.Frame/\x.Frame<8/\x.F1.length=128
 stt:x.C3=2->∀M,ej 8 M->gh 8 {x.A0 with Mem:=M}
structure fu(g:dw):Prop where
 src:gh 8 g.A1.A0
 dl:g.A1.B1.B0.length=8
 r0:0<=g.A1.B1.B9
 r1:g.A1.B1.B9<=11
 r2:g.A1.A4=1->g.A1.B1.B9<=10
 s0:0<=g.A1.B1.D6
 s1:g.A1.B1.D6<=8*g.A1.B1.B9
 rl:g.A1.A3.length=8
 sf:g.A1.C0.length<=8
 tc:g.A2.B1.B0.length<=8
 tl:g.A2.A3.length=8
 tm:ej 8 g.A2.A0.Mem
 tg:g.A2.A4=2\/g.A2.A4=3->gh 8 g.A2.A0
 tf:g.A2.C0.length<=8
 fl:g.A7.length<=64
 fo:∀x∈g.A7,jx x
 bl:g.C1.length<=64
 bo:∀x∈g.C1,jx x
 st:BV g.A9
theorem Zji{m:List Int}(hm:ej 8 m){r:Int}(hf:f<8):jx (tq r f (jz m f).1):=
 ⟨rfl,bC _,λ_=>⟨by show(0:Int)<=(f:Int);omega,by show(f:Int)<8;omega,xm hm hf⟩,λh=>absurd (show(1:Int)=2 from h) (by decide)⟩
theorem Zct{s:il}(h:gh 8 s.A0)(hr:s.A3.length<=8):jx (ui s):=
 ⟨rfl,hr,λh=>absurd (show(2:Int)=1 from h) (by decide),λ_ M hM=>Zoz h hM⟩
theorem XS{k:Int}(h1:k≠1)(h2:k≠2):jx (BW k):=⟨rfl,bC _,λh=>absurd h h1,λh=>absurd h h2⟩
theorem so(h:∀y∈l,jx y)(hx:jx x):∀y∈gq l x,jx y:=λy hy=>by
 rcases Lt hy with h1|h1
 ·exact h y h1
 ·rw[h1];exact hx
theorem BY(h:∀y∈l,jx y)(hx:∀y∈xs,jx y):∀y∈oX l xs,jx y:=λy hy=>(Ol hy).elim (h y) (hx y)
section
variable {g:dw} (h:fu g)
include h
theorem fu.pY:ej 8 g.A1.A0.Mem:=h.src.mb
theorem fu.round(hr:g.A1.B1.B9<=10):ug g.A1.B1 g.A1.A0.Mem=(⟨cO 8 false,g.A1.B1.B9+1,g.A1.B1.D6+(ia g.A1.B1.B0 0).length⟩,mu g.A1.A0.Mem (ia g.A1.B1.B0 0)):=xN h.pY h.dl h.r0 hr h.s0 h.s1
end
theorem Zex(m l:List Int):(mu m l).map (·.Frame)=l:=by
 unfold mu;rw[List.map_map];exact List.map_id' l
def tu(c:gb)(m:List Int):List fg:=(mu m (ia c.B0 0)).map λp=>tq (c.B9+1) p.Frame p.F1
def mw(g:dw):dw:=
 { g with
   A1:={g.A1 with B1:=⟨cO 8 false,g.A1.B1.B9+1,g.A1.B1.D6+(ia g.A1.B1.B0 0).length⟩,A3:=rB g.A1.A3 (ia g.A1.B1.B0 0) (g.A1.B1.B9+1)}
   A7:=oX g.A7 (tu g.A1.B1 g.A1.A0.Mem)}
theorem IG(h:fu g)(hr:g.A1.B1.B9<=10):Lv g=mw g:=by
 unfold Lv mw tu
 rw[h.round hr]
 simp only[Zex]
theorem XT(h:D.length=8):(ia D 0).length<=8:=by have:=Tg D 0;omega
theorem y6:∀f∈ia D 0,0<=f:=λf hf=>(N6 hf).1
theorem TB{c:gb}{m:List Int}(hd:c.B0.length=8)(h:x∈tu c m):∃f:Nat,f<8/\c.B0.getD f false=true/\x=tq (c.B9+1) f (jz m f).1:=by
 unfold tu mu at h
 obtain⟨p,hp,rfl⟩:=List.mem_map.1 h
 obtain⟨f,hf,rfl⟩:=List.mem_map.1 hp
 have h1:=N6 hf
 obtain⟨k,rfl⟩:∃k:Nat,f=k:=⟨f.toNat,by omega⟩
 exact⟨k,by omega,TA.1 hf,rfl⟩
theorem qO{c:gb}{m:List Int}(h:c.B0.getD f false=true):tq (c.B9+1) f (jz m f).1∈tu c m:=by
 unfold tu mu
 exact List.mem_map.2 ⟨_,List.mem_map.2 ⟨(f:Int),TA.2 h,rfl⟩,rfl⟩
theorem xO{c:gb}{m:List Int}(hd:c.B0.length=8):(tu c m).length<=8:=by
 unfold tu mu
 rw[eW,eW]
 exact XT hd
theorem Zpc(h:fu g)(hr:g.A1.B1.B9<=10)(hp:g.A1.A4=1->g.A1.B1.B9<=9):fu (mw g):=by
 have hs:=XT h.dl
 obtain⟨a1,a2,a3,a4,a5,a6,a7,a8,a9,kv,ky,a12,kz,kA,kB,a16,a17,a18,a19⟩:=h
 refine⟨a1,by simp[mw],by show 0<=g.A1.B1.B9+1;omega,by show g.A1.B1.B9+1<=11;omega,λe=>by have:=hp e;show g.A1.B1.B9+1<=10;omega,by show 0<=g.A1.B1.D6+_;omega,by show g.A1.B1.D6+((ia g.A1.B1.B0 0).length:Int)<=8*(g.A1.B1.B9+1);omega,Tz.trans a8,a9,kv,ky,a12,kz,kA,Zi3 kB,BY a16 λy hy=>?_,a17,a18,a19⟩
 obtain⟨f,hf,_,rfl⟩:=TB a2 hy
 exact Zji a1.mb hf
def EB(g:dw):dw:=Gz (mw g)
theorem qn(h:fu g)(hp:g.A1.A4=1):fu (EB g):=by
 have h2:=h.r2 hp
 have h':fu {g with A1:={g.A1 with A4:=2}}:=⟨h.src,h.dl,h.r0,h.r1,λe=>absurd (show(2:Int)=1 from e) (by decide),h.s0,h.s1,h.rl,h.sf,h.tc,h.tl,h.tm,h.tg,h.tf,h.fl,h.fo,h.bl,h.bo,h.st⟩
 have r:=Zpc h' h2 (λe=>absurd (show(2:Int)=1 from e) (by decide))
 exact⟨r.src,r.dl,r.r0,r.r1,λe=>absurd (show(2:Int)=1 from e) (by decide),r.s0,r.s1,r.rl,r.sf,r.tc,r.tl,r.tm,r.tg,r.tf,Lu r.fl,so r.fo (Zct r.src (Nat.le_of_eq r.rl)),r.bl,r.bo,r.st⟩
theorem xn{s:il}(h:x∈sk s):∃f:Nat,f<8/\x=tq (s.A3.getD f 0) f (jz s.A0.Mem f).1:=by
 obtain⟨f,hf,rfl⟩:=List.mem_map.1 h
 exact⟨f,List.mem_range.1 hf,rfl⟩
theorem Z78{s:il}(h:x∈sk s++[ui s]):(∃f:Nat,f<8/\x=tq (s.A3.getD f 0) f (jz s.A0.Mem f).1)\/x=ui s:=by
 rcases List.mem_append.1 h with h|h
 ·exact .inl (xn h)
 ·exact .inr (List.mem_singleton.1 h)
theorem fu.IH(h:fu g)(hl:l.length<=64)(ho:∀x∈l,jx x):fu {g with A7:=l}:=
 ⟨h.src,h.dl,h.r0,h.r1,h.r2,h.s0,h.s1,h.rl,h.sf,h.tc,h.tl,h.tm,h.tg,h.tf,hl,ho,h.bl,h.bo,h.st⟩
def On(g:dw):dw:={g with A7:=oX g.A7 (sk g.A1++[ui g.A1])}
theorem zn(h:fu g):fu (On g):=by
 refine h.IH (l:=oX g.A7 (sk g.A1++[ui g.A1])) (Zi3 h.fl) (BY h.fo λy hy=>?_)
 rcases Z78 hy with⟨f,hf,rfl⟩|rfl
 ·exact Zji h.pY hf
 ·exact Zct h.src (by have:=h.rl;omega)
theorem GA{m:bd}(g:gh 8 m){clock:Int}(hc:U clock):∀n,gh 8 (kU m clock n)
 |0=>g
 |n+1=>EA (GA g hc n) hc
theorem yn{s:il}{m:bd}:(rC s m).B0.length=s.B1.B0.length/\(rC s m).B9=s.B1.B9/\(rC s m).D6=s.B1.D6:=by
 unfold rC;split
 ·exact⟨Z18 _ _,rfl,rfl⟩
 ·exact⟨rfl,rfl,rfl⟩
theorem qao(h:fu g)(hc:U clock)(n:Int):fu (jP g n clock):=by
 unfold jP
 split
 ·obtain⟨e1,e2,e3⟩:=yn (s:=g.A1) (m:=kU g.A1.A0 clock (runN n))
  exact⟨GA h.src hc _,e1.trans h.dl,by show 0<=(rC _ _).B9;rw[e2];exact h.r0,by show(rC _ _).B9<=_;rw[e2];exact h.r1,λe=>by show(rC _ _).B9<=_;rw[e2];exact h.r2 e,by show 0<=(rC _ _).D6;rw[e3];exact h.s0,by show(rC _ _).D6<=8*(rC _ _).B9;rw[e2,e3];exact h.s1,h.rl,h.sf,h.tc,h.tl,h.tm,h.tg,h.tf,h.fl,h.fo,h.bl,h.bo,h.st⟩
 ·split
  ·rename_i hp
   have gt:=GA (h.tg (.inr hp)) hc (runN n)
   exact⟨h.src,h.dl,h.r0,h.r1,h.r2,h.s0,h.s1,h.rl,h.sf,h.tc,h.tl,gt.mb,λ_=>gt,h.tf,h.fl,h.fo,h.bl,h.bo,h.st⟩
  ·exact h
structure TC(t:il):Prop where
 tc:t.B1.B0.length<=8
 tl:t.A3.length=8
 tm:ej 8 t.A0.Mem
 tg:t.A4=2\/t.A4=3->gh 8 t.A0
 tf:t.C0.length<=8
theorem fu.t(h:fu g):TC g.A2:=⟨h.tc,h.tl,h.tm,h.tg,h.tf⟩
theorem fu.II(h:fu g){t:il}(k:TC t):fu {g with A2:=t}:=
 ⟨h.src,h.dl,h.r0,h.r1,h.r2,h.s0,h.s1,h.rl,h.sf,k.tc,k.tl,k.tm,k.tg,k.tf,h.fl,h.fo,h.bl,h.bo,h.st⟩
theorem zao{t:il}(h:TC t)(hx:jx x):TC (Q3 t x):=by
 unfold Q3
 split
 ·exact h
 ·rename_i hp
  split
  ·rename_i hk
   split
   ·rename_i hf
    obtain⟨f0,f1,hd⟩:=hx.pg hk
    obtain⟨f,e⟩:∃f:Nat,x.Frame=f:=⟨x.Frame.toNat,by omega⟩
    have hm:ej 8 (rA t.A0.Mem x.Frame x.F1).1:=by rw[e];exact Zlv h.tm (by omega) hd
    refine⟨h.tc,List.length_set.trans h.tl,hm,λhq=>?_,h.tf⟩
    have hq:(if t.A4=0 then(1:Int)else t.A4)=2\/(if t.A4=0 then(1:Int)else t.A4)=3:=hq
    refine Zoz (h.tg ?_) hm
    by_cases h0:t.A4=0
    ·rw[if_pos h0]at hq;omega
    ·rw[if_neg h0]at hq;exact hq
   ·exact h
  ·split
   ·rename_i hk
    split
    ·exact h
    ·exact⟨h.tc,h.tl,h.tm,λ_=>hx.stt hk _ h.tm,hx.rl⟩
   ·split
    ·exact⟨h.tc,h.tl,h.tm,λhq=>by have hq:(4:Int)=2\/(4:Int)=3:=hq;omega,h.tf⟩
    ·exact h
theorem GB(h:mL l i):o4 l i∈l:=by
 obtain⟨h0,h1⟩:=h
 have hl:i.toNat<l.length:=by omega
 have e:o4 l i=l[i.toNat]:=by simp[o4,aV,hl]
 rw[e];exact eT hl
theorem Oo(h:x∈kW l i):x∈l:=by
 rcases List.mem_append.1 h with h|h
 ·exact List.mem_of_mem_take h
 ·exact List.mem_of_mem_drop h
theorem vn(h:mL l i):(kW l i).length+1=l.length:=by
 obtain⟨h0,h1⟩:=h
 unfold kW
 rw[lA,aD,List.length_drop];omega
theorem qo(h:mL l i)(hx:x∈l):x∈kW l i\/x=o4 l i:=by
 obtain⟨h0,h1⟩:=h
 have hl:i.toNat<l.length:=by omega
 have e:l=l.take i.toNat++l.drop i.toNat:=(List.take_append_drop ..).symm
 have e2:l.drop i.toNat=l[i.toNat]::l.drop (i.toNat+1):=aO hl
 have e3:o4 l i=l[i.toNat]:=by simp[o4,aV,hl]
 rw[e,e2]at hx
 rcases List.mem_append.1 hx with h|h
 ·exact .inl (eS _ h)
 ·rcases List.mem_cons.1 h with h|h
  ·exact .inr (h.trans e3.symm)
  ·exact .inl (eX _ h)
theorem fu.EC(h:fu g)(hl:l.length<=64)(ho:∀x∈l,jx x):fu {g with C1:=l}:=
 ⟨h.src,h.dl,h.r0,h.r1,h.r2,h.s0,h.s1,h.rl,h.sf,h.tc,h.tl,h.tm,h.tg,h.tf,h.fl,h.fo,hl,ho,h.st⟩
theorem fu.F4(h:fu g)(b:Bool):(lO g b).length<=64/\∀x∈lO g b,jx x:=by
 cases b
 ·exact⟨h.fl,h.fo⟩
 ·exact⟨h.bl,h.bo⟩
theorem fu.set(h:fu g)(b:Bool)(hl:l.length<=64)(ho:∀x∈l,jx x):fu (oZ g b l):=by
 cases b
 ·exact h.IH hl ho
 ·exact h.EC hl ho
theorem XU(h:fu g)(b:Bool)(i:Int):fu (tt g b i):=by
 unfold tt;split
 ·rename_i hi
  have:=vn hi
  have:=(h.F4 b).1
  exact h.set b (by omega) λx hx=>(h.F4 b).2 x (Oo hx)
 ·exact h
theorem xo(h:fu g)(b:Bool)(i:Int):fu (AQ g b i):=by
 unfold AQ;split
 ·rename_i hi
  exact h.set b (Lu (h.F4 b).1) (so (h.F4 b).2 ((h.F4 b).2 _ (GB hi)))
 ·exact h
theorem fu.phase(h:fu g){p:Int}(hp:p=1->g.A1.B1.B9<=10):fu {g with A1:={g.A1 with A4:=p}}:=
 ⟨h.src,h.dl,h.r0,h.r1,hp,h.s0,h.s1,h.rl,h.sf,h.tc,h.tl,h.tm,h.tg,h.tf,h.fl,h.fo,h.bl,h.bo,h.st⟩
theorem xao(h:fu g)(b:Bool)(hx:jx x):fu (Lx g b x):=by
 cases b
 ·exact h.II (zao h.t hx)
 ·show fu (if g.A1.A4=2/\x.C3=3 then _ else g)
  split
  ·exact h.phase (λe=>absurd e (by decide))
  ·exact h
theorem Zcq(h:fu g)(b:Bool)(i:Int):fu (oa g b i):=by
 unfold oa;split
 ·rename_i hi
  exact xao (XU h b i) b ((h.F4 b).2 _ (GB hi))
 ·exact h
theorem zO(h:fu g)(b:Bool):fu (Om g b):=by
 cases b
 ·exact h.phase (λe=>absurd e (by decide))
 ·exact h.II ⟨h.tc,h.tl,h.tm,λhq=>by have hq:(4:Int)=2\/(4:Int)=3:=hq;omega,h.tf⟩
def Ab(g:dw):Prop:=∀f:Nat,f<8->
 g.A2.A3.getD f 0<=g.A1.A3.getD f 0/\
 g.A1.A3.getD f 0<=g.A1.B1.B9/\
 (g.A1.B1.B0.getD f false=false->0<g.A1.A3.getD f 0/\(g.A2.A3.getD f 0=g.A1.A3.getD f 0->(jz g.A1.A0.Mem f).1=(jz g.A2.A0.Mem f).1))/\
 ∀x∈g.A7,x.C3=1->x.Frame=f->x.B9<=g.A1.A3.getD f 0/\(g.A1.B1.B0.getD f false=false->x.B9=g.A1.A3.getD f 0->x.F1=(jz g.A1.A0.Mem f).1)
structure BZ(nc:Bool)(m:bd)(g:dw):Prop where
 sp:g.A1.A4=1
 gn:g.A9.D5=1/\g.A1.D5=1/\g.A2.D5=1
 mc:g.A1.A0=m
 tp:g.A2.A4=0\/g.A2.A4=1\/(g.A2.A4=4/\nc=false)
 ks:∀x∈g.A7,x.C3=1
 bk:g.C1=[]
 tr:Ab g
structure GC(nc:Bool)(m:bd)(g:dw):Prop where
 sp:g.A1.A4=3\/(g.A1.A4=4/\nc=false)
 gn:g.A9.D5=1/\g.A1.D5=1/\g.A2.D5=1
 mc:g.A1.A4=3->g.A1.A0=m
 tp:g.A2.A4=0\/g.A2.A4=1\/g.A2.A4=4
 ks:∀x∈g.A7,x.C3=1\/x.C3=4
 bk:g.C1=[]
structure o6(nc:Bool)(m:bd)(g:dw):Prop where
 sp:g.A1.A4=2\/(g.A1.A4=4/\nc=false)
 gn:g.A9.D5=1/\g.A1.D5=1/\g.A2.D5=1
 mc:g.A1.A0=m
 cl:∀f,g.A1.B1.B0.getD f false=false
 tp:g.A2.A4=0\/g.A2.A4=1\/g.A2.A4=2\/(g.A2.A4=4/\nc=false)
 ks:∀x∈g.A7,x.C3=1\/(x.C3=2/\x.A0={m with Mem:=[]}/\x.A3=g.A1.A3)
 ts:g.A2.A4=2->g.A2.C0=g.A1.A3/\{g.A2.A0 with Mem:=[]}={m with Mem:=[]}
 bk:g.C1=[]
 tr:Ab g
structure GF(nc:Bool)(m:bd)(g:dw):Prop where
 sp:g.A1.A4=3\/(g.A1.A4=4/\nc=false)
 gn:g.A9.D5=2/\g.A9.D7=0/\g.A2.D5=1
 mc:g.A1.A4=3->g.A1.A0=m
 tp:g.A2.A4≠3
 bk:g.C1=[]
structure Ly(nc:Bool)(m:bd)(g:dw):Prop where
 sp:g.A1.A4=2\/g.A1.A4=4
 gn:g.A9.D5=2/\g.A9.D7=1/\g.A1.D5=1
 tp:g.A2.A4=3\/(g.A2.A4=4/\nc=false)
 mc:g.A2.A4=3->g.A2.A0=m
def DC(nc:Bool)(m:bd)(g:dw):Prop:=BZ nc m g\/GC nc m g\/o6 nc m g\/GF nc m g\/Ly nc m g
def Inv(nc:Bool)(m:bd)(g:dw):Prop:=fu g/\DC nc m g
theorem Zt6(f:Nat):(cO 8 false).getD f false=false:=by
 simp only[cX,eY]
 split<;>rfl
theorem Znf(h:fu g)(t:Ab g):Ab (mw g):=by
 intro f hf
 obtain⟨t1,t2,t3,t4⟩:=t f hf
 have hg:(rB g.A1.A3 (ia g.A1.B1.B0 0) (g.A1.B1.B9+1)).getD f 0=if g.A1.B1.B0.getD f false=true then g.A1.B1.B9+1 else g.A1.A3.getD f 0:=by
  rw[Zbk y6 (by rw[h.rl];exact hf)]
  simp only[TA]
 show g.A2.A3.getD f 0<=(rB _ _ _).getD f 0/\(rB _ _ _).getD f 0<=g.A1.B1.B9+1/\((cO 8 false).getD f false=false->0<(rB _ _ _).getD f 0/\(g.A2.A3.getD f 0=(rB _ _ _).getD f 0->_))/\∀x∈oX _ _,x.C3=1->x.Frame=f->x.B9<=(rB _ _ _).getD f 0/\((cO 8 false).getD f false=false->x.B9=(rB _ _ _).getD f 0->_)
 have r0:=h.r0
 rw[hg]
 cases hd:g.A1.B1.B0.getD f false
 ·rw[if_neg (by decide)]
  refine⟨t1,by omega,λ_=>t3 hd,λx hx k1 k2=>?_⟩
  rcases Ol hx with hx|hx
  ·exact⟨(t4 x hx k1 k2).1,λ_=>(t4 x hx k1 k2).2 hd⟩
  ·obtain⟨f',TE,o7,rfl⟩:=TB h.dl hx
   have e:(f':Int)=f:=k2
   have e:f'=f:=by omega
   rw[e,hd]at o7;cases o7
 ·rw[if_pos rfl]
  refine⟨by omega,by omega,λ_=>⟨by omega,λe=>by omega⟩,λx hx k1 k2=>?_⟩
  rcases Ol hx with hx|hx
  ·have:=(t4 x hx k1 k2).1
   exact⟨by omega,λ_ e=>by omega⟩
  ·obtain⟨f',TE,o7,rfl⟩:=TB h.dl hx
   have e:(f':Int)=f:=k2
   have e:f'=f:=by omega
   subst e
   exact⟨eN _,λ_ _=>rfl⟩
theorem Ab.pF(t:Ab g)(hl:∀x∈l,x.C3=1->x∈g.A7\/∃f:Nat,f<8/\x=tq (g.A1.A3.getD f 0) f (jz g.A1.A0.Mem f).1):Ab {g with A7:=l}:=by
 intro f hf
 obtain⟨t1,t2,t3,t4⟩:=t f hf
 refine⟨t1,t2,t3,λx hx k1 k2=>?_⟩
 rcases hl x hx k1 with hx|⟨f',TE,rfl⟩
 ·exact t4 x hx k1 k2
 ·have e:(f':Int)=f:=k2
  have e:f'=f:=by omega
  subst e
  exact⟨eN _,λ_ _=>rfl⟩
theorem zo{t:il}(hk:x.C3=1):Q3 t x=t\/((t.A4=0\/t.A4=1\/t.A4=2)/\0<=x.Frame/\x.Frame<t.A3.length/\t.A3.getD x.Frame.toNat 0<x.B9/\Q3 t x={t with A4:=if t.A4=0 then 1 else t.A4,A0:={t.A0 with Mem:=(rA t.A0.Mem x.Frame x.F1).1},A3:=t.A3.set x.Frame.toNat x.B9}):=by
 by_cases hp:t.A4=0\/t.A4=1\/t.A4=2
 ·by_cases hc:0<=x.Frame/\x.Frame<t.A3.length/\t.A3.getD x.Frame.toNat 0<x.B9
  ·exact .inr ⟨hp,hc.1,hc.2.1,hc.2.2,by unfold Q3;rw[if_neg (λh=>h hp),if_pos hk,if_pos hc]⟩
  ·exact .inl (by unfold Q3;rw[if_neg (λh=>h hp),if_pos hk,if_neg hc])
 ·exact .inl (by unfold Q3;rw[if_pos hp])
theorem Zbz(h:fu g)(t:Ab g)(hx:jx x)(hk:x.C3=1)(hm:∀f:Nat,f<8->x.Frame=f->x.B9<=g.A1.A3.getD f 0/\(g.A1.B1.B0.getD f false=false->x.B9=g.A1.A3.getD f 0->x.F1=(jz g.A1.A0.Mem f).1)):Ab {g with A2:=Q3 g.A2 x}:=by
 obtain⟨f0,f1,hd⟩:=hx.pg hk
 obtain⟨k,ek⟩:∃f:Nat,x.Frame=f:=⟨x.Frame.toNat,by omega⟩
 have k8:k<8:=by omega
 intro f hf
 obtain⟨t1,t2,t3,t4⟩:=t f hf
 rcases zo (t:=g.A2) hk with e|⟨_,_,_,_,e⟩
 ·rw[e];exact⟨t1,t2,t3,t4⟩
 ·rw[e]
  obtain⟨m1,m2⟩:=hm k k8 ek
  have tl:=h.tl
  have sg:(g.A2.A3.set k x.B9).getD f 0=if k=f then x.B9 else g.A2.A3.getD f 0:=FH (by omega)
  show(g.A2.A3.set x.Frame.toNat x.B9).getD f 0<=_/\_/\(_->_/\((g.A2.A3.set x.Frame.toNat x.B9).getD f 0=_->_=(jz (rA g.A2.A0.Mem x.Frame x.F1).1 f).1))/\_
  rw[ek,dX,sg]
  by_cases e:k=f
  ·subst e
   rw[if_pos rfl]
   exact⟨m1,t2,λd=>⟨(t3 d).1,λe2=>by rw[Zo5 h.tm k8 hd];exact(m2 d e2).symm⟩,t4⟩
  ·rw[if_neg e]
   exact⟨t1,t2,λd=>⟨(t3 d).1,λe2=>by rw[Znm h.tm k8 hf (λe3=>e e3.symm) hd];exact(t3 d).2 e2⟩,t4⟩
theorem Lz{t:il}(hk:x.C3=1):(t.A4=0/\(Q3 t x).A4=1)\/(Q3 t x).A4=t.A4:=by
 rcases zo (t:=t) hk with e|⟨_,_,_,_,e⟩
 ·rw[e];exact .inr rfl
 ·rw[e]
  by_cases h:t.A4=0
  ·exact .inl ⟨h,by show(if t.A4=0 then(1:Int)else t.A4)=1;rw[if_pos h]⟩
  ·exact .inr (by show(if t.A4=0 then(1:Int)else t.A4)=_;rw[if_neg h])
theorem Ziu{t:il}(hk:x.C3=1):(Q3 t x).D5=t.D5/\(Q3 t x).C0=t.C0/\{(Q3 t x).A0 with Mem:=[]}={t.A0 with Mem:=[]}:=by
 rcases zo (t:=t) hk with e|⟨_,_,_,_,e⟩<;>rw[e]<;>exact⟨rfl,rfl,rfl⟩
theorem Zpi{t:il}:(Q3 t x).D5=t.D5:=by
 unfold Q3
 repeat' split
 all_goals rfl
theorem yo{t:il}(h:t.A4=3\/t.A4=4):Q3 t x=t:=by
 unfold Q3
 rw[if_pos (by omega)]
theorem qap{t:il}(h:t.A4≠3):(Q3 t x).A4≠3:=by
 by_cases hk:x.C3=1
 ·rcases Lz (t:=t) hk with⟨a,b⟩|b<;>omega
 ·unfold Q3
  split
  ·exact h
  split
  ·split
   ·exact h
   ·show(2:Int)≠3;decide
  ·split
   ·show(4:Int)≠3;decide
   ·exact h
theorem vo{t:il}(hk:x.C3=2)(hp:t.A4=0\/t.A4=1):Q3 t x={t with A4:=2,A0:={x.A0 with Mem:=t.A0.Mem},C0:=x.A3}:=by
 unfold Q3
 rw[if_neg (by omega),if_neg (by omega),if_pos hk,if_neg (by omega)]
theorem qp{t:il}(hk:x.C3=2)(hp:t.A4=2):Q3 t x=t:=by
 unfold Q3
 rw[if_neg (by omega),if_neg (by omega),if_pos hk,if_pos hp]
theorem xaG{t:il}(hk:x.C3=4):(Q3 t x).A4=4\/Q3 t x=t:=by
 by_cases hp:t.A4=0\/t.A4=1\/t.A4=2
 ·exact .inl (by unfold Q3;rw[if_neg (λh=>h hp),if_neg (by omega),if_neg (by omega),if_pos hk])
 ·exact .inr (by unfold Q3;rw[if_pos hp])
def Oq(m:bd)(g:dw)(a:jU):bd:=if a.C3=1/\0<=jm g then kU m a.F2 (runN a.N)else m
theorem Ot(h:g.A1.A4=1\/g.A1.A4=3):jm g=0:=if_pos h
theorem z7(h:g.A1.A4=2\/g.A1.A4=4)(t:g.A2.A4=3):jm g=1:=by
 unfold jm;rw[if_neg (by omega),if_pos t]
theorem TF(h:g.A1.A4=2\/g.A1.A4=4)(t:g.A2.A4≠3):jm g= -1:=by
 unfold jm;rw[if_neg (by omega),if_neg t]
section
variable {nc:Bool} {m:bd} {g:dw}
theorem Inv.ok(h:Inv nc m g):fu g:=h.1
theorem zap(h:Inv nc m g)(hc:U clock)(n:Int):Inv nc (if 0<=jm g then kU m clock (runN n)else m) (jP g n clock):=by
 obtain⟨ok,c⟩:=h
 refine⟨qao ok hc n,?_⟩
 rcases c with c|c|c|c|c
 ·have hr:jm g=0:=Ot (.inl c.sp)
  have e:jP g n clock={g with A1:={g.A1 with A0:=kU g.A1.A0 clock (runN n),B1:=rC g.A1 (kU g.A1.A0 clock (runN n))}}:=if_pos (.inl c.sp)
  rw[hr,if_pos (by decide),e]
  have sg:=GA ok.src hc (runN n)
  have en:rC g.A1 (kU g.A1.A0 clock (runN n))={g.A1.B1 with B0:=pX g.A1.B1.B0 (DA g.A1.A0.Mem (kU g.A1.A0 clock (runN n)).Mem)}:=if_pos c.sp
  refine .inl ⟨c.sp,c.gn,by rw[<-c.mc],c.tp,c.ks,c.bk,λf hf=>?_⟩
  obtain⟨t1,t2,t3,t4⟩:=c.tr f hf
  rw[en]
  show _/\_/\((pX g.A1.B1.B0 _).getD f false=false->_/\(_->(jz (kU g.A1.A0 clock (runN n)).Mem f).1=_))/\∀x∈g.A7,_->_->_/\((pX g.A1.B1.B0 _).getD f false=false->_->_=(jz (kU g.A1.A0 clock (runN n)).Mem f).1)
  have dl:=ok.dl
  have no:(pX g.A1.B1.B0 (DA g.A1.A0.Mem (kU g.A1.A0 clock (runN n)).Mem)).getD f false=false->g.A1.B1.B0.getD f false=false/\(jz g.A1.A0.Mem f).1=(jz (kU g.A1.A0 clock (runN n)).Mem f).1:=λhd=>by
   constructor
   ·cases h:g.A1.B1.B0.getD f false with
    |false=>rfl
    |true=>rw[Tv (by omega) (.inl h)]at hd;cases hd
   ·refine yN ok.pY sg.mb hf λh=>?_
    rw[Tv (by omega) (.inr h)]at hd;cases hd
  refine⟨t1,t2,λd=>?_,λx hx k1 k2=>⟨(t4 x hx k1 k2).1,λd e=>?_⟩⟩
  ·obtain⟨d1,d2⟩:=no d
   exact⟨(t3 d1).1,λe=>by rw[<-d2];exact(t3 d1).2 e⟩
  ·obtain⟨d1,d2⟩:=no d
   rw[<-d2];exact(t4 x hx k1 k2).2 d1 e
 ·rcases c.sp with sp|⟨sp,np⟩
  ·have hr:jm g=0:=Ot (.inr sp)
   have e:jP g n clock={g with A1:={g.A1 with A0:=kU g.A1.A0 clock (runN n),B1:=rC g.A1 (kU g.A1.A0 clock (runN n))}}:=if_pos (.inr sp)
   rw[hr,if_pos (by decide),e]
   exact .inr (.inl ⟨.inl sp,c.gn,λ_=>by rw[<-c.mc sp],c.tp,c.ks,c.bk⟩)
  ·have hr:jm g= -1:=TF (.inr sp) (by have:=c.tp;omega)
   have e:jP g n clock=g:=by unfold jP;rw[if_neg (by omega),if_neg (by have:=c.tp;omega)]
   rw[hr,if_neg (by decide),e]
   exact .inr (.inl c)
 ·have tp:=c.tp
  have sp:g.A1.A4=2\/g.A1.A4=4:=by have:=c.sp;omega
  have hr:jm g= -1:=TF sp (by omega)
  have e:jP g n clock=g:=by unfold jP;rw[if_neg (by omega),if_neg (by omega)]
  rw[hr,if_neg (by decide),e]
  exact .inr (.inr (.inl c))
 ·rcases c.sp with sp|⟨sp,np⟩
  ·have hr:jm g=0:=Ot (.inr sp)
   have e:jP g n clock={g with A1:={g.A1 with A0:=kU g.A1.A0 clock (runN n),B1:=rC g.A1 (kU g.A1.A0 clock (runN n))}}:=if_pos (.inr sp)
   rw[hr,if_pos (by decide),e]
   exact .inr (.inr (.inr (.inl ⟨.inl sp,c.gn,λ_=>by rw[<-c.mc sp],c.tp,c.bk⟩)))
  ·have hr:jm g= -1:=TF (.inr sp) c.tp
   have e:jP g n clock=g:=by unfold jP;rw[if_neg (by omega),if_neg c.tp]
   rw[hr,if_neg (by decide),e]
   exact .inr (.inr (.inr (.inl c)))
 ·rcases c.tp with tp|⟨tp,np⟩
  ·have hr:jm g=1:=z7 c.sp tp
   have sp:=c.sp
   have e:jP g n clock={g with A2:={g.A2 with A0:=kU g.A2.A0 clock (runN n)}}:=by unfold jP;rw[if_neg (by omega),if_pos tp]
   rw[hr,if_pos (by decide),e]
   exact .inr (.inr (.inr (.inr ⟨c.sp,c.gn,.inl tp,λ_=>by rw[<-c.mc tp]⟩)))
  ·have sp:=c.sp
   have hr:jm g= -1:=TF sp (by omega)
   have e:jP g n clock=g:=by unfold jP;rw[if_neg (by omega),if_neg (by omega)]
   rw[hr,if_neg (by decide),e]
   exact .inr (.inr (.inr (.inr c)))
theorem TG(ok:fu g)(c:BZ nc m g):BZ nc m (mw g):=
 ⟨c.sp,c.gn,c.mc,c.tp,λx hx=>by
  rcases Ol hx with hx|hx
  ·exact c.ks x hx
  ·obtain⟨f,_,_,rfl⟩:=TB ok.dl hx;rfl,c.bk,Znf ok c.tr⟩
theorem Zit(h:Inv nc m g):Inv nc m (if g.A1.A4=1/\g.A1.B1.B9<10 then Lv g else g):=by
 split
 ·rename_i hp
  obtain⟨ok,c⟩:=h
  rw[IG ok (by omega)]
  refine⟨Zpc ok (by omega) (λ_=>by omega),?_⟩
  rcases c with c|c|c|c|c
  ·exact .inl (TG ok c)
  ·have:=c.sp;omega
  ·have:=c.sp;omega
  ·have:=c.sp;omega
  ·have:=c.sp;omega
 ·exact h
theorem XV(ok:fu g)(c:BZ nc m g):o6 nc m (EB g):=by
 have r:=TG ok c
 refine⟨.inl rfl,r.gn,r.mc,λf=>Zt6 f,?_,λx hx=>?_,λh=>?_,r.bk,?_⟩
 ·have:=r.tp
  rcases this with p|p|p
  ·exact .inl p
  ·exact .inr (.inl p)
  ·exact .inr (.inr (.inr p))
 ·rcases Lt hx with hx|hx
  ·exact .inl (r.ks x hx)
  ·rw[hx];exact .inr ⟨rfl,by rw[<-r.mc];rfl,rfl⟩
 ·have h:(mw g).A2.A4=2:=h
  have:=r.tp
  omega
 ·refine Ab.pF (g:={mw g with A1:={(mw g).A1 with A4:=2}}) r.tr (l:=gq (mw g).A7 (ui (mw g).A1)) λx hx k1=>?_
  rcases Lt hx with hx|hx
  ·exact .inl hx
  ·rw[hx]at k1;exact absurd (show(2:Int)=1 from k1) (by decide)
theorem yO(h:Inv nc m g)(fi:Int):Inv nc m (DB g fi):=by
 unfold DB
 split
 ·rename_i hp
  obtain⟨ok,c⟩:=h
  rw[IG ok (ok.r2 hp.1)]
  refine⟨qn ok hp.1,?_⟩
  rcases c with c|c|c|c|c
  ·exact .inr (.inr (.inl (XV ok c)))
  ·have:=c.sp;omega
  ·have:=c.sp;omega
  ·have:=c.sp;omega
  ·have:=c.sp;omega
 ·exact h
theorem o6.pF(c:o6 nc m g)(hk:∀x∈l,x∈g.A7\/(∃f:Nat,f<8/\x=tq (g.A1.A3.getD f 0) f (jz g.A1.A0.Mem f).1)\/x=ui g.A1):o6 nc m {g with A7:=l}:=by
 refine⟨c.sp,c.gn,c.mc,c.cl,c.tp,λx hx=>?_,c.ts,c.bk,c.tr.pF λx hx k1=>?_⟩
 ·rcases hk x hx with h|⟨f,hf,rfl⟩|rfl
  ·exact c.ks x h
  ·exact .inl rfl
  ·exact .inr ⟨rfl,by rw[<-c.mc];rfl,rfl⟩
 ·rcases hk x hx with h|h|rfl
  ·exact .inl h
  ·exact .inr h
  ·exact absurd (show(2:Int)=1 from k1) (by decide)
theorem Zha(c:o6 nc m g):o6 nc m (On g):=
 o6.pF c (l:=oX g.A7 (sk g.A1++[ui g.A1])) λx hx=>by
  rcases Ol hx with hx|hx
  ·exact .inl hx
  ·exact .inr (Z78 hx)
theorem Zrw(h:Inv nc m g):Inv nc m (Lw g):=by
 unfold Lw
 split
 ·rename_i hp
  obtain⟨ok,c⟩:=h
  refine⟨zn ok,?_⟩
  rcases c with c|c|c|c|c
  ·have:=c.sp;omega
  ·have:=c.sp;omega
  ·exact .inr (.inr (.inl (Zha c)))
  ·have:=c.sp;omega
  ·exact .inr (.inr (.inr (.inr ⟨c.sp,c.gn,c.tp,c.mc⟩)))
 ·exact h
theorem TH(c:DC nc m g)(b:Bool)(hl:∀x∈l,x∈lO g b):DC nc m (oZ g b l):=by
 cases b
 ·have hl:∀x∈l,x∈g.A7:=hl
  show DC nc m {g with A7:=l}
  rcases c with c|c|c|c|c
  ·exact .inl ⟨c.sp,c.gn,c.mc,c.tp,λx hx=>c.ks x (hl x hx),c.bk,c.tr.pF λx hx _=>.inl (hl x hx)⟩
  ·exact .inr (.inl ⟨c.sp,c.gn,c.mc,c.tp,λx hx=>c.ks x (hl x hx),c.bk⟩)
  ·exact .inr (.inr (.inl ⟨c.sp,c.gn,c.mc,c.cl,c.tp,λx hx=>c.ks x (hl x hx),c.ts,c.bk,c.tr.pF λx hx _=>.inl (hl x hx)⟩))
  ·exact .inr (.inr (.inr (.inl ⟨c.sp,c.gn,c.mc,c.tp,c.bk⟩)))
  ·exact .inr (.inr (.inr (.inr ⟨c.sp,c.gn,c.tp,c.mc⟩)))
 ·have hl:∀x∈l,x∈g.C1:=hl
  have hb:g.C1=[]->l=[]:=λe=>by
   cases l with
   |nil=>rfl
   |cons y l=>have:=hl y (eU ..);rw[e]at this;cases this
  show DC nc m {g with C1:=l}
  rcases c with c|c|c|c|c
  ·exact .inl ⟨c.sp,c.gn,c.mc,c.tp,c.ks,hb c.bk,c.tr⟩
  ·exact .inr (.inl ⟨c.sp,c.gn,c.mc,c.tp,c.ks,hb c.bk⟩)
  ·exact .inr (.inr (.inl ⟨c.sp,c.gn,c.mc,c.cl,c.tp,c.ks,c.ts,hb c.bk,c.tr⟩))
  ·exact .inr (.inr (.inr (.inl ⟨c.sp,c.gn,c.mc,c.tp,hb c.bk⟩)))
  ·exact .inr (.inr (.inr (.inr ⟨c.sp,c.gn,c.tp,c.mc⟩)))
theorem vO(h:Inv nc m g)(b:Bool)(i:Int):Inv nc m (tt g b i):=by
 refine⟨XU h.1 b i,?_⟩
 unfold tt;split
 ·exact TH h.2 b λx hx=>Oo hx
 ·exact h.2
theorem Zri(h:Inv nc m g)(b:Bool)(i:Int):Inv nc m (AQ g b i):=by
 refine⟨xo h.1 b i,?_⟩
 unfold AQ;split
 ·rename_i hi
  refine TH h.2 b λx hx=>?_
  rcases Lt hx with hx|hx
  ·exact hx
  ·rw[hx];exact GB hi
 ·exact h.2
theorem xp(h:Inv nc m g)(b:Bool)(hn:nc=false):Inv nc m (Om g b):=by
 obtain⟨ok,c⟩:=h
 refine⟨zO ok b,?_⟩
 cases b
 ·show DC nc m {g with A1:={g.A1 with A4:=4}}
  have n3:({g.A1 with A4:=4}:il).A4=3->False:=λe=>absurd (show(4:Int)=3 from e) (by decide)
  rcases c with c|c|c|c|c
  ·exact .inr (.inl ⟨.inr ⟨rfl,hn⟩,c.gn,λe=>(n3 e).elim,by have:=c.tp;show g.A2.A4=0\/g.A2.A4=1\/g.A2.A4=4;omega,λx hx=>.inl (c.ks x hx),c.bk⟩)
  ·exact .inr (.inl ⟨.inr ⟨rfl,hn⟩,c.gn,λe=>(n3 e).elim,c.tp,c.ks,c.bk⟩)
  ·exact .inr (.inr (.inl ⟨.inr ⟨rfl,hn⟩,c.gn,c.mc,c.cl,c.tp,c.ks,c.ts,c.bk,c.tr⟩))
  ·exact .inr (.inr (.inr (.inl ⟨.inr ⟨rfl,hn⟩,c.gn,λe=>(n3 e).elim,c.tp,c.bk⟩)))
  ·exact .inr (.inr (.inr (.inr ⟨.inr rfl,c.gn,c.tp,c.mc⟩)))
 ·show DC nc m {g with A2:={g.A2 with A4:=4}}
  have n2:({g.A2 with A4:=4}:il).A4=2->False:=λe=>absurd (show(4:Int)=2 from e) (by decide)
  have n3:({g.A2 with A4:=4}:il).A4=3->False:=λe=>absurd (show(4:Int)=3 from e) (by decide)
  rcases c with c|c|c|c|c
  ·exact .inl ⟨c.sp,c.gn,c.mc,.inr (.inr ⟨rfl,hn⟩),c.ks,c.bk,c.tr⟩
  ·exact .inr (.inl ⟨c.sp,c.gn,c.mc,.inr (.inr rfl),c.ks,c.bk⟩)
  ·exact .inr (.inr (.inl ⟨c.sp,c.gn,c.mc,c.cl,.inr (.inr (.inr ⟨rfl,hn⟩)),c.ks,λe=>(n2 e).elim,c.bk,c.tr⟩))
  ·exact .inr (.inr (.inr (.inl ⟨c.sp,c.gn,c.mc,λe=>n3 e,c.bk⟩)))
  ·exact .inr (.inr (.inr (.inr ⟨c.sp,c.gn,.inr ⟨rfl,hn⟩,λe=>(n3 e).elim⟩)))
theorem Zs2(ok:fu g)(c:DC nc m g)(ox:jx x)(hx:x∈g.A7):DC nc m {g with A2:=Q3 g.A2 x}:=by
 rcases c with c|c|c|c|c
 ·have k:x.C3=1:=c.ks x hx
  have q:=Ziu (t:=g.A2) (x:=x) k
  refine .inl ⟨c.sp,⟨c.gn.1,c.gn.2.1,q.1.trans c.gn.2.2⟩,c.mc,?_,c.ks,c.bk,?_⟩
  ·show(Q3 g.A2 x).A4=0\/(Q3 g.A2 x).A4=1\/((Q3 g.A2 x).A4=4/\nc=false)
   rcases Lz (t:=g.A2) k with⟨a,b⟩|b
   ·exact .inr (.inl b)
   ·rw[b];exact c.tp
  ·exact Zbz ok c.tr ox k (λf hf ef=>(c.tr f hf).2.2.2 x hx k ef)
 ·have k:x.C3=1\/x.C3=4:=c.ks x hx
  refine .inr (.inl ⟨c.sp,⟨c.gn.1,c.gn.2.1,Zpi.trans c.gn.2.2⟩,c.mc,?_,c.ks,c.bk⟩)
  have:=c.tp
  show(Q3 g.A2 x).A4=0\/(Q3 g.A2 x).A4=1\/(Q3 g.A2 x).A4=4
  rcases k with k|k
  ·rcases Lz (t:=g.A2) k with⟨a,b⟩|b<;>omega
  ·rcases xaG (t:=g.A2) k with b|b
   ·omega
   ·rw[b];exact this
 ·have k:x.C3=1\/(x.C3=2/\x.A0={m with Mem:=[]}/\x.A3=g.A1.A3):=c.ks x hx
  have tp:=c.tp
  rcases k with k|⟨k,e1,e2⟩
  ·have q:=Ziu (t:=g.A2) (x:=x) k
   have tr:Ab {g with A2:=Q3 g.A2 x}:=Zbz ok c.tr ox k (λf hf ef=>(c.tr f hf).2.2.2 x hx k ef)
   refine .inr (.inr (.inl ⟨c.sp,⟨c.gn.1,c.gn.2.1,q.1.trans c.gn.2.2⟩,c.mc,c.cl,?_,c.ks,λh2=>?_,c.bk,tr⟩))
   ·show(Q3 g.A2 x).A4=0\/(Q3 g.A2 x).A4=1\/(Q3 g.A2 x).A4=2\/((Q3 g.A2 x).A4=4/\nc=false)
    rcases Lz (t:=g.A2) k with⟨a,b⟩|b
    ·exact .inr (.inl b)
    ·rw[b];exact tp
   ·have h2:(Q3 g.A2 x).A4=2:=h2
    have h3:g.A2.A4=2:=by rcases Lz (t:=g.A2) k with⟨a,b⟩|b<;>omega
    exact⟨q.2.1.trans (c.ts h3).1,q.2.2.trans (c.ts h3).2⟩
  ·rcases tp with tp|tp|tp|⟨tp,np⟩
   ·rw[vo k (.inl tp)]
    exact .inr (.inr (.inl ⟨c.sp,c.gn,c.mc,c.cl,.inr (.inr (.inl rfl)),c.ks,λ_=>⟨e2,by rw[e1]⟩,c.bk,c.tr⟩))
   ·rw[vo k (.inr tp)]
    exact .inr (.inr (.inl ⟨c.sp,c.gn,c.mc,c.cl,.inr (.inr (.inl rfl)),c.ks,λ_=>⟨e2,by rw[e1]⟩,c.bk,c.tr⟩))
   ·rw[qp k tp];exact .inr (.inr (.inl c))
   ·rw[yo (.inr tp)];exact .inr (.inr (.inl c))
 ·exact .inr (.inr (.inr (.inl ⟨c.sp,⟨c.gn.1,c.gn.2.1,Zpi.trans c.gn.2.2⟩,c.mc,qap c.tp,c.bk⟩)))
 ·rw[yo (by have:=c.tp;omega)];exact .inr (.inr (.inr (.inr c)))
end
section
variable {nc:Bool} {m:bd} {g:dw}
theorem Z85(h:Inv nc m g)(b:Bool)(i:Int):Inv nc m (oa g b i):=by
 refine⟨Zcq h.1 b i,?_⟩
 obtain⟨ok,c⟩:=h
 unfold oa
 split
 ·rename_i hi
  have hx:=GB hi
  have ox:=(ok.F4 b).2 _ hx
  have el:tt g b i=oZ g b (kW (lO g b) i):=if_pos hi
  rw[el]
  cases b
  ·exact TH (Zs2 ok c ox hx) false λx hx=>(Oo hx:x∈g.A7)
  ·by_cases hc:(oZ g true (kW (lO g true) i)).A1.A4=2/\(o4 (lO g true) i).C3=3
   ·have eg:Lx (oZ g true (kW (lO g true) i)) true (o4 (lO g true) i)={g with C1:=kW g.C1 i,A1:={g.A1 with A4:=4}}:=if_pos hc
    rw[eg]
    have hb:g.C1≠[]:=λe=>by have hx:_∈g.C1:=hx;rw[e]at hx;cases hx
    rcases c with d|d|d|d|d
    ·exact absurd d.bk hb
    ·exact absurd d.bk hb
    ·exact absurd d.bk hb
    ·exact absurd d.bk hb
    ·exact .inr (.inr (.inr (.inr ⟨.inr rfl,d.gn,d.tp,d.mc⟩)))
   ·have eg:Lx (oZ g true (kW (lO g true) i)) true (o4 (lO g true) i)=oZ g true (kW (lO g true) i):=if_neg hc
    rw[eg]
    exact TH c true λx hx=>Oo hx
 ·exact c
theorem fu.store(h:fu g){s:iL}(hs:BV s):fu {g with A9:=s}:=
 ⟨h.src,h.dl,h.r0,h.r1,h.r2,h.s0,h.s1,h.rl,h.sf,h.tc,h.tl,h.tm,h.tg,h.tf,h.fl,h.fo,h.bl,h.bo,hs⟩
theorem zp(ok:fu g)(c:o6 nc m g)(hf:BX g):g.A2.A0=m:=by
 obtain⟨h1,h2⟩:=hf
 obtain⟨f1,f2⟩:=c.ts h1
 have e:g.A2.A0.Mem=m.Mem:=by
  rw[<-c.mc]
  refine(zm ok.pY ok.tm λf hf=>?_).symm
  exact((c.tr f hf).2.2.1 (c.cl f)).2 (by rw[h2,f1])
 have q:∀a:bd,a={({a with Mem:=[]}:bd)with Mem:=a.Mem}:=λa=>rfl
 rw[q g.A2.A0,f2,e]
theorem Zj4{s:iL}(h:BV s){host seen:Int}(h0:0<=host)(e1:s.D5=1)(e2:seen=1):me s host seen=({s with D5:=2,D7:=host},true):=by
 rw[Zow h h0,if_pos (e1.trans e2.symm),e1];rfl
theorem Zp4{s:iL}(h:BV s){host seen:Int}(h0:0<=host)(e:s.D5≠seen):me s host seen=(s,false):=by
 rw[Zow h h0,if_neg e]
theorem yp(ok:fu g)(c:o6 nc m g)(hf:BX g):sn g={g with A9:={g.A9 with D5:=2,D7:=1},A2:={g.A2 with A4:=3,D5:=2},C1:=gq g.C1 (BW 3)}:=by
 unfold sn
 rw[if_pos hf,Zj4 ok.st (by decide) c.gn.1 c.gn.2.2,if_pos rfl]
theorem Zpk(ok:fu g)(c:o6 nc m g)(hf:BX g):fu (sn g)/\Ly nc m (sn g)/\(sn g).A2.A4=3:=by
 rw[yp ok c hf]
 obtain⟨b1,b2,b3,b4,b5⟩:=ok.st
 have hm:=zp ok c hf
 refine⟨⟨ok.src,ok.dl,ok.r0,ok.r1,ok.r2,ok.s0,ok.s1,ok.rl,ok.sf,ok.tc,ok.tl,ok.tm,λ_=>ok.tg (.inl hf.1),ok.tf,ok.fl,ok.fo,Lu ok.bl,so ok.bo (XS (by decide) (by decide)),b1,b2,by show(1:Int)<=2;decide,by show(2:Int)<=2;decide,by show(0:Int)<=1;decide⟩,?_,rfl⟩
 exact⟨by have:=c.sp;show g.A1.A4=2\/g.A1.A4=4;omega,⟨rfl,rfl,c.gn.2.1⟩,.inl rfl,λ_=>hm⟩
theorem Zra(h:Inv nc m g):Inv nc m (sn g):=by
 obtain⟨ok,c⟩:=h
 by_cases hf:BX g
 ·rcases c with c|c|c|c|c
  ·have:=c.tp;have:=hf.1;omega
  ·have:=c.tp;have:=hf.1;omega
  ·obtain⟨a,b,_⟩:=Zpk ok c hf
   exact⟨a,.inr (.inr (.inr (.inr b)))⟩
  ·have e:sn g={g with A2:={g.A2 with A4:=4}}:=by
    unfold sn
    rw[if_pos hf,Zp4 ok.st (by decide) (by rw[c.gn.1,c.gn.2.2];decide),if_neg eZ]
   rw[e]
   refine⟨ok.II ⟨ok.tc,ok.tl,ok.tm,λhq=>by have hq:(4:Int)=2\/(4:Int)=3:=hq;omega,ok.tf⟩,.inr (.inr (.inr (.inl ⟨c.sp,c.gn,c.mc,by show(4:Int)≠3;decide,c.bk⟩)))⟩
  ·have:=c.tp;have:=hf.1;omega
 ·have e:sn g=g:=if_neg hf
  rw[e];exact⟨ok,c⟩
theorem qP(ok:fu g)(c:BZ nc m g):fu (ob g)/\GC nc m (ob g):=by
 have e:ob g={g with A1:={g.A1 with A4:=3},A7:=gq g.A7 (BW 4)}:=if_pos c.sp
 rw[e]
 have k:=ok.phase (p:=3) (λe=>absurd e (by decide))
 refine⟨k.IH (Lu ok.fl) (so ok.fo (XS (by decide) (by decide))),.inl rfl,c.gn,λ_=>c.mc,by have:=c.tp;show g.A2.A4=0\/g.A2.A4=1\/g.A2.A4=4;omega,λx hx=>?_,c.bk⟩
 rcases Lt hx with hx|rfl
 ·exact .inl (c.ks x hx)
 ·exact .inr rfl
theorem vp(ok:fu g)(c:o6 nc m g)(hp:g.A1.A4=2):ob g={g with A9:={g.A9 with D5:=2,D7:=0},A1:={g.A1 with A4:=3,D5:=2},A7:=gq g.A7 (BW 4)}:=by
 unfold ob
 rw[if_neg (by omega),if_pos hp,Zj4 ok.st (by decide) c.gn.1 c.gn.2.1,if_pos rfl]
theorem xP(ok:fu g)(c:o6 nc m g)(hp:g.A1.A4=2):fu (ob g)/\GF nc m (ob g)/\(ob g).A1.A4=3:=by
 rw[vp ok c hp]
 obtain⟨b1,b2,b3,b4,b5⟩:=ok.st
 refine⟨⟨ok.src,ok.dl,ok.r0,ok.r1,λe=>absurd (show(3:Int)=1 from e) (by decide),ok.s0,ok.s1,ok.rl,ok.sf,ok.tc,ok.tl,ok.tm,ok.tg,ok.tf,Lu ok.fl,so ok.fo (XS (by decide) (by decide)),ok.bl,ok.bo,b1,b2,by show(1:Int)<=2;decide,by show(2:Int)<=2;decide,by show(0:Int)<=0;decide⟩,?_,rfl⟩
 exact⟨.inl rfl,⟨rfl,rfl,c.gn.2.2⟩,λ_=>c.mc,by have:=c.tp;show g.A2.A4≠3;omega,c.bk⟩
theorem zP(ok:fu g)(c:Ly nc m g):fu (ob g)/\Ly nc m (ob g)/\(ob g).A2=g.A2:=by
 have sp:=c.sp
 by_cases hp:g.A1.A4=2
 ·have e:ob g={g with A1:={g.A1 with A4:=4}}:=by
   unfold ob
   rw[if_neg (by omega),if_pos hp,Zp4 ok.st (by decide) (by rw[c.gn.1,c.gn.2.2];decide),if_neg eZ]
  rw[e]
  exact⟨ok.phase (λe=>absurd e (by decide)),⟨.inr rfl,c.gn,c.tp,c.mc⟩,rfl⟩
 ·have e:ob g=g:=by unfold ob;rw[if_neg (by omega),if_neg hp]
  rw[e];exact⟨ok,c,rfl⟩
theorem Zqz(h:Inv nc m g):Inv nc m (ob g):=by
 obtain⟨ok,c⟩:=h
 have no:g.A1.A4≠1->g.A1.A4≠2->ob g=g:=λa b=>by unfold ob;rw[if_neg a,if_neg b]
 rcases c with c|c|c|c|c
 ·obtain⟨a,b⟩:=qP ok c;exact⟨a,.inr (.inl b)⟩
 ·have:=c.sp
  rw[no (by omega) (by omega)];exact⟨ok,.inr (.inl c)⟩
 ·rcases c.sp with p|⟨p,_⟩
  ·obtain⟨a,b,_⟩:=xP ok c p;exact⟨a,.inr (.inr (.inr (.inl b)))⟩
  ·rw[no (by omega) (by omega)];exact⟨ok,.inr (.inr (.inl c))⟩
 ·have:=c.sp
  rw[no (by omega) (by omega)];exact⟨ok,.inr (.inr (.inr (.inl c)))⟩
 ·obtain⟨a,b,_⟩:=zP ok c;exact⟨a,.inr (.inr (.inr (.inr b)))⟩
theorem y7(h:Inv nc m g){a:jU}(hc:U a.F2)(hn:nc=true->a.C3≠10):Inv nc (Oq m g a) (o5 g a).1:=by
 unfold o5 Oq
 by_cases k1:a.C3=1
 ·rw[if_pos k1]
  have:=zap h hc a.N
  by_cases hr:0<=jm g
  ·rw[if_pos ⟨k1,hr⟩];rw[if_pos hr]at this;exact this
  ·rw[if_neg (λh=>hr h.2)];rw[if_neg hr]at this;exact this
 rw[if_neg k1,if_neg (λh=>k1 h.1)]
 by_cases k2:a.C3=2
 ·rw[if_pos k2];exact Zit h
 rw[if_neg k2]
 by_cases k3:a.C3=3
 ·rw[if_pos k3];exact yO h _
 rw[if_neg k3]
 by_cases k4:a.C3=4
 ·rw[if_pos k4];exact Zrw h
 rw[if_neg k4]
 by_cases k5:a.C3=5
 ·rw[if_pos k5];exact Z85 h _ _
 rw[if_neg k5]
 by_cases k6:a.C3=6
 ·rw[if_pos k6];exact vO h _ _
 rw[if_neg k6]
 by_cases k7:a.C3=7
 ·rw[if_pos k7];exact Zri h _ _
 rw[if_neg k7]
 by_cases k8:a.C3=8
 ·rw[if_pos k8];exact Zra h
 rw[if_neg k8]
 by_cases k9:a.C3=9
 ·rw[if_pos k9];exact Zqz h
 rw[if_neg k9]
 by_cases XW:a.C3=10
 ·rw[if_pos XW]
  refine xp h _ ?_
  cases nc
  ·rfl
  ·exact absurd XW (hn rfl)
 rw[if_neg XW];exact h
end
def Have(g:dw):Prop:=∀f:Nat,f<8->g.A2.A3.getD f 0=g.A1.A3.getD f 0\/∃x∈g.A7,x.C3=1/\x.Frame=f/\x.B9=g.A1.A3.getD f 0
def ED(g:dw):Prop:=g.A2.A4=2\/∃x∈g.A7,x.C3=2
def Le(g:dw):Prop:=∀f:Nat,f<8->g.A2.A3.getD f 0<=g.A1.A3.getD f 0/\∀x∈g.A7,x.C3=1->x.Frame=f->x.B9<=g.A1.A3.getD f 0
theorem Ab.le(t:Ab g):Le g:=λf hf=>⟨(t f hf).1,λx hx k e=>((t f hf).2.2.2 x hx k e).1⟩
theorem Znb{t:il}(ht:t.A3.length=8)(hp:t.A4=0\/t.A4=1\/t.A4=2)(ox:jx x)(hf:f<8):(Q3 t x).A3.getD f 0=if x.C3=1/\x.Frame=f/\t.A3.getD f 0<x.B9 then x.B9 else t.A3.getD f 0:=by
 by_cases hk:x.C3=1
 ·obtain⟨f0,f1,_⟩:=ox.pg hk
  obtain⟨k,ek⟩:∃k:Nat,x.Frame=k:=⟨x.Frame.toNat,by omega⟩
  by_cases hc:0<=x.Frame/\x.Frame<t.A3.length/\t.A3.getD x.Frame.toNat 0<x.B9
  ·have e:Q3 t x={t with A4:=if t.A4=0 then 1 else t.A4,A0:={t.A0 with Mem:=(rA t.A0.Mem x.Frame x.F1).1},A3:=t.A3.set x.Frame.toNat x.B9}:=by
    unfold Q3;rw[if_neg (λh=>h hp),if_pos hk,if_pos hc]
   rw[e]
   show(t.A3.set x.Frame.toNat x.B9).getD f 0=_
   rw[FH (by omega)]
   rw[ek,dX]at hc⊢
   by_cases e:k=f
   ·subst e
    rw[if_pos rfl,if_pos ⟨hk,rfl,hc.2.2⟩]
   ·rw[if_neg e,if_neg (λh=>e (by omega))]
  ·have e:Q3 t x=t:=by unfold Q3;rw[if_neg (λh=>h hp),if_pos hk,if_neg hc]
   rw[e,if_neg (λh=>hc ⟨f0,by omega,by rw[h.2.1,dX];exact h.2.2⟩)]
 ·rw[if_neg (λh=>hk h.1)]
  unfold Q3
  repeat' split
  all_goals first|rfl|exact absurd (by assumption) hk
structure IJ(g r:dw)(x:fg):Prop where
 src:r.A1=g.A1
 sto:r.A9=g.A9
 bak:r.C1=g.C1
 sub:∀y∈r.A7,y∈g.A7
 spl:∀y∈g.A7,y∈r.A7\/y=x
 len:r.A7.length+1=g.A7.length
 mem:x∈g.A7
 tgt:r.A2=Q3 g.A2 x
theorem XX(hi:mL g.A7 i):IJ g (oa g false i) (o4 g.A7 i):=by
 have e:oa g false i={g with A7:=kW g.A7 i,A2:=Q3 g.A2 (o4 g.A7 i)}:=by
  unfold oa tt lO
  simp only[Bool.false_eq_true,if_false,if_pos hi]
  rfl
 rw[e]
 exact⟨rfl,rfl,rfl,λy hy=>Oo hy,λy hy=>qo hi hy,vn hi,GB hi,rfl⟩
theorem qq(hi:¬mL g.A7 i):oa g false i=g:=if_neg hi
section
variable {g r:dw} {x:fg} (d:IJ g r x) (ok:fu g) (hp:g.A2.A4=0\/g.A2.A4=1\/g.A2.A4=2)
include d ok hp
theorem IJ.rounds(hf:f<8):r.A2.A3.getD f 0=if x.C3=1/\x.Frame=f/\g.A2.A3.getD f 0<x.B9 then x.B9 else g.A2.A3.getD f 0:=by
 rw[d.tgt];exact Znb ok.tl hp (ok.fo x d.mem) hf
theorem IJ.le(h:Le g):Le r:=λf hf=>by
 rw[d.rounds ok hp hf,d.src]
 obtain⟨h1,h2⟩:=h f hf
 refine⟨?_,λy hy=>h2 y (d.sub y hy)⟩
 split
 ·rename_i hc;exact h2 x d.mem hc.1 hc.2.1
 ·exact h1
theorem IJ.have(l:Le g)(h:Have g):Have r:=λf hf=>by
 rw[d.rounds ok hp hf,d.src]
 obtain⟨l1,l2⟩:=l f hf
 rcases h f hf with h|⟨y,hy,k1,k2,k3⟩
 ·left
  rw[if_neg];exact h
  intro hc;have:=l2 x d.mem hc.1 hc.2.1;omega
 ·rcases d.spl y hy with hy|rfl
  ·exact .inr ⟨y,hy,k1,k2,k3⟩
  ·left
   split
   ·exact k3
   ·rename_i hc
    have:¬g.A2.A3.getD f 0<y.B9:=λh=>hc ⟨k1,k2,h⟩
    omega
omit ok in
theorem IJ.phase(hk:∀y∈g.A7,y.C3=1\/y.C3=2):(r.A2.A4=0\/r.A2.A4=1\/r.A2.A4=2)/\(r.A2.A4=2↔g.A2.A4=2\/x.C3=2):=by
 rw[d.tgt]
 rcases hk x d.mem with k|k
 ·rcases Lz (t:=g.A2) k with⟨a,b⟩|b
  ·rw[b];omega
  ·rw[b];omega
 ·by_cases h2:g.A2.A4=2
  ·rw[qp k h2];omega
  ·rw[vo k (by omega)]
   show((2:Int)=0\/(2:Int)=1\/(2:Int)=2)/\((2:Int)=2↔_)
   omega
omit ok in
theorem IJ.Ou(hk:∀y∈g.A7,y.C3=1\/y.C3=2)(h:ED g):ED r:=by
 obtain⟨_,p⟩:=d.phase hp hk
 rcases h with h|⟨y,hy,k⟩
 ·exact .inl (p.2 (.inl h))
 ·rcases d.spl y hy with hy|rfl
  ·exact .inr ⟨y,hy,k⟩
  ·exact .inl (p.2 (.inr k))
end
def jS:Nat->dw->dw
 |0,g=>g
 |n+1,g=>jS n (oa g false 0)
theorem in0(h:l≠[]):mL l 0:=by
 cases l with
 |nil=>exact absurd rfl h
 |cons y l=>exact⟨by decide,by show(0:Int)<((l.length+1:Nat):Int);omega⟩
theorem xq{nc:Bool}{m:bd}:∀(n:Nat) {g:dw},Inv nc m g->Inv nc m (jS n g)
 |0,_,h=>h
 |n+1,_,h=>xq n (Z85 h false 0)
theorem zq:∀(n:Nat) (g:dw),(jS n g).A1=g.A1/\(jS n g).A9=g.A9/\(jS n g).C1=g.C1
 |0,g=>⟨rfl,rfl,rfl⟩
 |n +1,g=>by
  obtain⟨a,b,c⟩:=zq n (oa g false 0)
  by_cases h:mL g.A7 0
  ·have d:=XX h
   exact⟨a.trans d.src,b.trans d.sto,c.trans d.bak⟩
  ·have e:=qq h
   rw[e]at a b c
   show(jS n (oa g false 0)).A1=_/\(jS n (oa g false 0)).A9=_/\(jS n (oa g false 0)).C1=_
   rw[e]
   exact⟨a,b,c⟩
theorem yq:∀(n:Nat) (g:dw),(jS n g).A7.length<=g.A7.length-n
 |0,g=>Nat.le_refl _
 |n + 1,g=>by
  have:=yq n (oa g false 0)
  by_cases h:mL g.A7 0
  ·have:=(XX h).len
   show(jS n (oa g false 0)).A7.length<=_;omega
  ·have e:=qq h
   have h0:g.A7.length=0:=by
    cases hl:g.A7 with
    |nil=>rfl
    |cons y l=>exact absurd (in0 (by rw[hl];simp)) h
   rw[e]at this
   show(jS n (oa g false 0)).A7.length<=_;rw[e];omega
theorem vq(h:g.A7.length<=n):(jS n g).A7=[]:=by
 have:=yq n g
 exact List.eq_nil_of_length_eq_zero (by omega)
structure Way(g:dw):Prop where
 le:Le g
 hv:Have g
 ph:g.A2.A4=0\/g.A2.A4=1\/g.A2.A4=2
 ks:∀x∈g.A7,x.C3=1\/x.C3=2
theorem Way.next(w:Way g)(ok:fu g)(i:Int):Way (oa g false i)/\(ED g->ED (oa g false i)):=by
 by_cases h:mL g.A7 i
 ·have d:=XX h
  exact⟨⟨d.le ok w.ph w.le,d.have ok w.ph w.le w.hv,(d.phase w.ph w.ks).1,λx hx=>w.ks x (d.sub x hx)⟩,d.Ou w.ph w.ks⟩
 ·rw[qq h];exact⟨w,λh=>h⟩
theorem Way.all:∀(n:Nat) {g:dw},Way g->fu g->Way (jS n g)/\(ED g->ED (jS n g))
 |0,_,w,_=>⟨w,λh=>h⟩
 |n+1,g,w,ok=>by
  obtain⟨a,b⟩:=w.next ok 0
  obtain⟨c,d⟩:=Way.all n a (Zcq ok false 0)
  exact⟨c,λh=>d (b h)⟩
theorem qr(ha:a.length=8)(hb:b.length=8)(h:∀f:Nat,f<8->a.getD f 0=b.getD f 0):a=b:=by
 refine bR (by omega) λi h1 h2=>?_
 have:=h i (by omega)
 simpa[aV,h1,h2]using this
theorem Way.done(w:Way g)(ok:fu g)(he:g.A7=[]):g.A2.A3=g.A1.A3:=
 qr ok.tl ok.rl λf hf=>by
  rcases w.hv f hf with h|⟨x,hx,_⟩
  ·exact h
  ·rw[he]at hx;cases hx
theorem Way.full{m:bd}(w:Way g)(ok:fu g)(c:o6 nc m g)(hs:ED g)(he:g.A7=[]):BX g:=by
 have hp:g.A2.A4=2:=by
  rcases hs with h|⟨x,hx,_⟩
  ·exact h
  ·rw[he]at hx;cases hx
 exact⟨hp,(w.done ok he).trans (c.ts hp).1.symm⟩
theorem o6.live{m:bd}(c:o6 true m g):g.A1.A4=2/\(g.A2.A4=0\/g.A2.A4=1\/g.A2.A4=2):=by
 have h1:=c.sp
 have h2:=c.tp
 simp only[fA,and_false,or_false]at h1 h2
 exact⟨h1,h2⟩
theorem o6.ks2{m:bd}(c:o6 nc m g):∀x∈g.A7,x.C3=1\/x.C3=2:=λx hx=>(c.ks x hx).elim .inl (λh=>.inr h.1)
section
variable {nc:Bool} {m:bd} {g:dw}
def Ca(m:bd)(b:List (List UInt8)):dw:=
 ⟨⟨1,m,⟨cO 8 true,0,0⟩,cO 8 0,[],1⟩,⟨0,{zM with Mem:=cO 256 0},⟨[],0,0⟩,cO 8 0,[],1⟩,[],[],⟨b,1,0⟩⟩
theorem qaH(f:Nat):(cO 8 (0:Int)).getD f 0=0:=by
 simp only[cX,eY]
 split<;>rfl
theorem xr(hf:f<8):(cO 8 true).getD f false=true:=by
 simp only[cX,eY,hf,if_true]
 rfl
theorem Zp2(hm:gh 8 m){b:List (List UInt8)}(hb:b.length=4)(hB:∀x∈b,x.length=128):fu (Ca m b):=
 ⟨hm,rfl,eN 0,by show(0:Int)<=11;decide,λ_=>by show(0:Int)<=10;decide,eN 0,by show(0:Int)<=8*0;decide,rfl,bC _,bC _,rfl,qN,λh=>by have h:(0:Int)=2\/(0:Int)=3:=h;omega,bC _,bC _,λx hx=>(by cases hx),bC _,λx hx=>(by cases hx),hb,hB,by show(1:Int)<=1;decide,by show(1:Int)<=2;decide,by show(0:Int)<=0;decide⟩
theorem wg(hm:gh 8 m)(b:List (List UInt8)):BZ nc m (Ca m b):=
 ⟨rfl,⟨rfl,rfl,rfl⟩,rfl,.inl rfl,λx hx=>(by cases hx),rfl,λf hf=>by
  show(cO 8 (0:Int)).getD f 0<=(cO 8 (0:Int)).getD f 0/\(cO 8 (0:Int)).getD f 0<=0/\((cO 8 true).getD f false=false->_)/\_
  rw[qaH,xr hf]
  exact⟨eN 0,eN 0,λh=>(by cases h),λx hx=>(by cases hx)⟩⟩
def uj(g:dw)(l:List jU):dw:=l.foldl (λg a=>(o5 g a).1) g
theorem Zjr(g:dw)(l k:List jU):uj g (l++k)=uj (uj g l) k:=fB ..
def oc(k n:Int):jU:=⟨k,n,false,0⟩
theorem Zkh:∀(n:Nat) (g:dw),uj g (cO n (oc 5 0))=jS n g
 |0,g=>rfl
 |n+1,g=>Zkh n (oa g false 0)
theorem zaH(c:DC nc m g)(hs:g.A9.D5=1)(hp:g.A1.A4=2):o6 nc m g:=by
 rcases c with c|c|c|c|c
 ·have:=c.sp;omega
 ·have:=c.sp;omega
 ·exact c
 ·have:=c.gn.1;omega
 ·have:=c.gn.1;omega
theorem seen(h:Inv nc m g)(hr:0<=jm g):(jm g=0/\g.A1.A0=m)\/(jm g=1/\g.A2.A0=m):=by
 by_cases h0:g.A1.A4=1\/g.A1.A4=3
 ·refine .inl ⟨Ot h0,?_⟩
  rcases h.2 with c|c|c|c|c
  ·exact c.mc
  ·have:=c.sp;exact c.mc (by omega)
  ·have:=c.sp;omega
  ·have:=c.sp;exact c.mc (by omega)
  ·have:=c.sp;omega
 ·by_cases h1:g.A2.A4=3
  ·have e:jm g=1:=by unfold jm;rw[if_neg h0,if_pos h1]
   refine .inr ⟨e,?_⟩
   rcases h.2 with c|c|c|c|c
   ·have:=c.tp;omega
   ·have:=c.tp;omega
   ·have:=c.tp;omega
   ·exact absurd h1 c.tp
   ·exact c.mc h1
  ·have e:jm g= -1:=by unfold jm;rw[if_neg h0,if_neg h1]
   omega
theorem Zt9(h:Inv true m g)(c:o6 true m g)(w:Way g)(hs:ED g)(hn:g.A7.length<=n):Inv true m (sn (jS n g))/\Ly true m (sn (jS n g))/\(sn (jS n g)).A2.A4=3:=by
 obtain⟨e1,e2,e3⟩:=zq n g
 have hi:=xq n h
 obtain⟨w2,s2⟩:=Way.all n w h.1
 have c2:o6 true m (jS n g):=zaH hi.2 (by rw[e2];exact c.gn.1) (by rw[e1];exact c.live.1)
 obtain⟨a,b,p⟩:=Zpk hi.1 c2 (w2.full hi.1 c2 (s2 hs) (vq hn))
 exact⟨⟨a,.inr (.inr (.inr (.inr b)))⟩,b,p⟩
theorem xaH(h:Inv nc m g)(c:Ly nc m g)(hp:g.A2.A4=3):jm g=1/\g.A2.A0=m/\g.A9.D5=2/\g.A9.D7=1:=⟨z7 c.sp hp,c.mc hp,c.gn.1,c.gn.2.1⟩
theorem Zcs(g:dw)(a:jU)(l:List jU):uj g (a::l)=uj (o5 g a).1 l:=rfl
theorem yP(b:Nat)(g:dw):uj g (oc 2 0::oc 3 32::(cO b (oc 5 0)++[oc 8 0]))=sn (jS b (o5 (o5 g (oc 2 0)).1 (oc 3 32)).1):=by
 rw[Zcs,Zcs,Zjr,Zkh];rfl
theorem Zik(ok:fu g)(c:BZ true m g)(w:Way g)(hl:g.A7.length+8<=64):Way (mw g)/\(mw g).A7.length<=g.A7.length+8:=by
 have cr:=TG ok c
 have sl:=xO (m:=g.A1.A0.Mem) ok.dl
 have e:(mw g).A7=g.A7++tu g.A1.B1 g.A1.A0.Mem:=vN (by omega)
 have tp:g.A2.A4=0\/g.A2.A4=1\/g.A2.A4=2:=w.ph
 refine⟨⟨cr.tr.le,λf hf=>?_,tp,λx hx=>.inl (cr.ks x hx)⟩,by rw[e,lA];omega⟩
 have hg:(mw g).A1.A3.getD f 0=if g.A1.B1.B0.getD f false=true then g.A1.B1.B9+1 else g.A1.A3.getD f 0:=by
  show(rB _ _ _).getD f 0=_
  rw[Zbk y6 (by rw[ok.rl];exact hf)]
  simp only[TA]
 rw[hg,e]
 cases hd:g.A1.B1.B0.getD f false
 ·rw[if_neg eZ]
  rcases w.hv f hf with h|⟨x,hx,k⟩
  ·exact .inl h
  ·exact .inr ⟨x,eS _ hx,k⟩
 ·rw[if_pos rfl]
  exact .inr ⟨_,eX _ (qO hd),rfl,rfl,rfl⟩
theorem vP(ok:fu g)(c:BZ true m g)(w:Way g)(hl:g.A7.length+9<=64):Way (EB g)/\ED (EB g)/\(EB g).A7.length<=g.A7.length+9:=by
 obtain⟨w1,l1⟩:=Zik ok c w (by omega)
 have cb:=XV ok c
 have e:(EB g).A7=(mw g).A7++[ui (mw g).A1]:=if_pos (by omega)
 refine⟨⟨cb.tr.le,λf hf=>?_,cb.live.2,cb.ks2⟩,.inr ⟨ui (mw g).A1,by rw[e];exact eX _ (List.mem_singleton.2 rfl),rfl⟩,by rw[e,lA,cY];omega⟩
 rw[e]
 rcases w1.hv f hf with h|⟨x,hx,k⟩
 ·exact .inl h
 ·exact .inr ⟨x,eS _ hx,k⟩
structure Calm(i:Int)(m:bd)(g:dw):Prop where
 inv:Inv true m g
 c:BZ true m g
 f:g.A7=[]
 w:Way g
 r:g.A1.B1.B9=i
theorem BZ.XY(c:BZ true m g)(hf:g.A7=[])(he:g.A2.A3=g.A1.A3):Way g:=
 ⟨c.tr.le,λf _=>.inl (by rw[he]),by have:=c.tp;simp only[fA,and_false,or_false]at this;omega,λx hx=>by rw[hf]at hx;cases hx⟩
theorem qQ(hm:gh 8 m){b:List (List UInt8)}(hb:b.length=4)(hB:∀x∈b,x.length=128):Calm 0 m (Ca m b):=
 ⟨⟨Zp2 hm hb hB,.inl (wg hm b)⟩,wg hm b,rfl,(wg hm b).XY rfl rfl,rfl⟩
theorem xQ(h:Calm i m g)(hi:i<=9):(o5 g (oc 2 0)).1=mw g:=by
 have hr:=h.r
 have e:(o5 g (oc 2 0)).1=if g.A1.A4=1/\g.A1.B1.B9<10 then Lv g else g:=rfl
 rw[e,if_pos ⟨h.c.sp,by omega⟩,IG h.inv.1 (by omega)]
theorem xap(ok:fu g)(hp:g.A1.A4=1):(o5 g (oc 3 32)).1=EB g:=by
 have e:(o5 g (oc 3 32)).1=DB g 32:=rfl
 rw[e]
 unfold DB
 rw[if_pos ⟨hp,xan ok.dl ok.r0 ok.r1 ok.s0 ok.s1⟩,IG ok (ok.r2 hp)]
 rfl
def Cb:List jU:=oc 2 0::oc 3 32::(cO 64 (oc 5 0)++[oc 8 0])
theorem EE(h:Calm i m g)(hi:i<=9):Inv true m (uj g Cb)/\jm (uj g Cb)=1/\(uj g Cb).A2.A0=m/\(uj g Cb).A9.D5=2/\(uj g Cb).A9.D7=1:=by
 have hr:=h.r
 have ok:=h.inv.1
 have i1:Inv true m (mw g):=by
  have:=Zit h.inv
  rwa [if_pos ⟨h.c.sp,by omega⟩,IG ok (by omega)]at this
 have c1:=TG ok h.c
 obtain⟨w1,l1⟩:=Zik ok h.c h.w (by rw[h.f];decide)
 rw[h.f]at l1
 have l1:(mw g).A7.length<=8:=by simpa using l1
 obtain⟨w2,s2,l2⟩:=vP i1.1 c1 w1 (by omega)
 have ok2:=qn i1.1 c1.sp
 have c2:=XV i1.1 c1
 obtain⟨i3,c3,p3⟩:=Zt9 (n:=64) ⟨ok2,.inr (.inr (.inl c2))⟩ c2 w2 s2 (by omega)
 have e:uj g Cb=sn (jS 64 (EB (mw g))):=by
  refine(yP 64 g).trans ?_
  rw[xQ h hi,xap i1.1 c1.sp]
 rw[e]
 exact⟨i3,xaH i3 c3 p3⟩
end
theorem bt{a b:Int}(h:(a==b)=true):a=b:=by simpa using h
theorem bf{a b:Int}(h:(a==b)=false):a≠b:=by simpa using h
theorem nt{a b:Int}(h:(a !=b)=true):a≠b:=by simpa using h
theorem LA{a b:Int}(h:(a !=b)=false):a=b:=by simpa using h
def mv(g:dw):de:=⟨g.A1,g.A2,g.A7,g.C1,g.A9⟩
theorem zr(b:Bool)(x:fg):(IK (mv g) b x).w λr=>r=mv (oZ g b (gq (lO g b) x)):=by
 unfold IK
 refine ab (λhb=>aq λ_ _=>ab (λh=>?_) (λh=>bh ?_)) (λhb=>aq λ_ _=>ab (λh=>?_) (λh=>bh ?_))
 ·subst hb
  have h:(g.C1.length:Int)<64:=oY h
  refine ax (dY (by show 328*(g.C1.length+1)<=_;omega)) (bh ?_)
  have e:gq g.C1 x=g.C1++[x]:=if_pos (by omega)
  show _=mv {g with C1:=gq g.C1 x}
  rw[e]<;>rfl
 ·subst hb
  have h:¬(g.C1.length:Int)<64:=oN h
  have e:gq g.C1 x=g.C1:=if_neg (by omega)
  show _=mv {g with C1:=gq g.C1 x}
  rw[e]<;>rfl
 ·subst hb
  have h:(g.A7.length:Int)<64:=oY h
  refine ax (dY (by show 328*(g.A7.length+1)<=_;omega)) (bh ?_)
  have e:gq g.A7 x=g.A7++[x]:=if_pos (by omega)
  show _=mv {g with A7:=gq g.A7 x}
  rw[e]<;>rfl
 ·subst hb
  have h:¬(g.A7.length:Int)<64:=oN h
  have e:gq g.A7 x=g.A7:=if_neg (by omega)
  show _=mv {g with A7:=gq g.A7 x}
  rw[e]<;>rfl
theorem Ov(x:fg):(IK (mv g) false x).w λr=>r=mv {g with A7:=gq g.A7 x}:=zr false x
theorem yr(x:fg):(IK (mv g) true x).w λr=>r=mv {g with C1:=gq g.C1 x}:=zr true x
theorem Zbx{c:kP}(h0:0<=c.Frame)(h1:c.Frame<g.A1.A3.length):(Ow (mv g) c).w λr=>r=mv {g with A7:=gq g.A7 (tq (g.A1.A3.getD c.Frame.toNat 0) c.Frame c.F1)}:=by
 unfold Ow
 refine ab (λ_=>ab (λ_=>ax ?_ (cy (Ov (tq (g.A1.A3.getD c.Frame.toNat 0) c.Frame c.F1)) λx hx=>bh hx)) (λh=>absurd h1 (oN h))) (λh=>absurd h0 (oN h))
 show(bX _ _&&bN _ _&&decide _)=true
 rw[dY (show 0<=c.Frame/\c.Frame<((mv g).A1.A3.length:Int) from⟨h0,h1⟩)];rfl
theorem Z7b(h:g.A1.A3.length=8):(Ox (mv g)).w λr=>r=mv {g with A7:=gq g.A7 (ui g.A1)}:=by
 unfold Ox
 refine c7 (show g.A1.A3.length<=1000000000000 by omega) (aq λx0 h0=>?_)
 have h0:x0=g.A1.A3:=h0
 subst h0
 exact cy (Ov (ui g.A1)) λx hx=>bh hx
theorem qaq(b:Bool):(TJ (mv g) b).w λr=>r=mv (Om g b):=by
 unfold TJ
 refine ab (λh=>bh ?_) (λh=>bh ?_)<;>(subst h;rfl)
theorem zQ(h:BV g.A9)(h0:0<=host):(Oy (mv g) host).w λr=>r=if(me g.A9 host g.A1.D5).2=true then(true,mv {g with A9:=(me g.A9 host g.A1.D5).1,A1:={g.A1 with A4:=3,D5:=(me g.A9 host g.A1.D5).1.D5}})else(false,mv {g with A1:={g.A1 with A4:=4}}):=by
 unfold Oy
 have c:=Tree.pp (XR h h0 g.A1.D5)
 refine c7 c.1 (aq λx hx=>?_)
 have hx:x=me g.A9 host g.A1.D5:=hx
 subst hx
 refine ab (λhb=>bh ?_) (λhb=>bh ?_)
 ·have hb:(me g.A9 host g.A1.D5).2=false:=by simpa using hb
  rw[if_neg (by rw[hb];decide)];rfl
 ·have hb:(me g.A9 host g.A1.D5).2=true:=by simpa using hb
  rw[if_pos hb];rfl
theorem yQ(h:BV g.A9)(h0:0<=host):(Oz (mv g) host).w λr=>r=if(me g.A9 host g.A2.D5).2=true then(true,mv {g with A9:=(me g.A9 host g.A2.D5).1,A2:={g.A2 with A4:=3,D5:=(me g.A9 host g.A2.D5).1.D5}})else(false,mv {g with A2:={g.A2 with A4:=4}}):=by
 unfold Oz
 have c:=Tree.pp (XR h h0 g.A2.D5)
 refine c7 c.1 (aq λx hx=>?_)
 have hx:x=me g.A9 host g.A2.D5:=hx
 subst hx
 refine ab (λhb=>bh ?_) (λhb=>bh ?_)
 ·have hb:(me g.A9 host g.A2.D5).2=false:=by simpa using hb
  rw[if_neg (by rw[hb];decide)];rfl
 ·have hb:(me g.A9 host g.A2.D5).2=true:=by simpa using hb
  rw[if_pos hb];rfl
theorem vQ(h:BV g.A9):(OA (mv g)).w λr=>r=mv (ob g):=by
 unfold OA
 refine ab (λh1=>?_) (λh1=>ab (λh2=>?_) (λh2=>bh ?_))
 ·have h1:g.A1.A4=1:=bt h1
  have e:ob g={g with A1:={g.A1 with A4:=3},A7:=gq g.A7 (BW 4)}:=if_pos h1
  rw[e]
  exact cy (Ov (g:={g with A1:={g.A1 with A4:=3}}) (BW 4)) λx hx=>bh hx
 ·have h1:¬g.A1.A4=1:=bf h1
  have h2:g.A1.A4=2:=bt h2
  refine cy (zQ h (eN 0)) λy hy=>?_
  unfold ob
  rw[if_neg h1,if_pos h2]
  by_cases hb:(me g.A9 0 g.A1.D5).2=true
  ·rw[if_pos hb]at hy⊢
   subst hy
   exact ab (λh=>by cases h) λ_=>cy (Ov (g:={g with A9:=(me g.A9 0 g.A1.D5).1,A1:={g.A1 with A4:=3,D5:=(me g.A9 0 g.A1.D5).1.D5}}) (BW 4)) λx hx=>bh hx
  ·rw[if_neg hb]at hy⊢
   subst hy
   exact ab (λ_=>bh rfl) λh=>by cases h
 ·have h1:¬g.A1.A4=1:=bf h1
  have h2:¬g.A1.A4=2:=bf h2
  unfold ob
  rw[if_neg h1,if_neg h2]
theorem zaq(ok:fu g)(ox:jx x)(hk:x.C3=1)(hp:g.A2.A4=0\/g.A2.A4=1\/g.A2.A4=2):(OB (mv g) x).w λr=>r=mv {g with A2:=Q3 g.A2 x}:=by
 obtain⟨f0,f1,hd⟩:=ox.pg hk
 obtain⟨k,ek⟩:∃f:Nat,x.Frame=f:=⟨x.Frame.toNat,by omega⟩
 have k8:k<8:=by omega
 have tl:=ok.tl
 have sp:Ty g.A2.A0.Mem x.Frame x.F1:=by rw[ek];exact Zjn ok.tm k8 hd
 have s2:(rA g.A2.A0.Mem x.Frame x.F1).2=true:=by rw[ek];exact(Tx ok.tm k8 hd).1
 have cn:∀l:List Int,l.length=8->(bX 1 1&&bN 0 1&&decide (0<=x.Frame/\x.Frame<(l.length:Int)))=true:=λl hl=>by
  rw[dY (show 0<=x.Frame/\x.Frame<(l.length:Int) by omega)];rfl
 unfold OB
 refine ab (λh=>absurd (oY h) (by omega)) λ_=>ab (λh=>absurd (oY h) (by show¬x.Frame>=(g.A2.A3.length:Int);omega)) λ_=>ax (cn _ tl) (ab (λh=>bh ?_) λh=>c7 sp (aq λy hy=>?_))
 ·have h:x.B9<=g.A2.A3.getD x.Frame.toNat 0:=oY h
  have e:Q3 g.A2 x=g.A2:=by
   unfold Q3
   rw[if_neg (λh=>h hp),if_pos hk,if_neg (λh=>by have:=h.2.2;omega)]
  rw[e]
 ·have h:¬x.B9<=g.A2.A3.getD x.Frame.toNat 0:=oN h
  have hy:y=rA g.A2.A0.Mem x.Frame x.F1:=hy
  subst hy
  have e:Q3 g.A2 x={g.A2 with A4:=if g.A2.A4=0 then 1 else g.A2.A4,A0:={g.A2.A0 with Mem:=(rA g.A2.A0.Mem x.Frame x.F1).1},A3:=g.A2.A3.set x.Frame.toNat x.B9}:=by
   unfold Q3
   rw[if_neg (λh=>h hp),if_pos hk,if_pos ⟨by omega,by omega,by omega⟩]
  rw[e]
  refine ab (λhb=>?_) λ_=>ax (cn _ tl) (ab (λh0=>bh ?_) λh0=>bh ?_)
  ·rw[s2]at hb;cases hb
  ·have h0:g.A2.A4=0:=bt h0
   rw[if_pos h0];rfl
  ·have h0:¬g.A2.A4=0:=bf h0
   rw[if_neg h0];rfl
theorem vr(ok:fu g)(ox:jx x):(OC (mv g) x).w λr=>r=mv {g with A2:=Q3 g.A2 x}:=by
 have leaf:(g.A2.A4=0\/g.A2.A4=1\/g.A2.A4=2)->∀(k1:x.C3≠1),(x.C3=2->g.A2.A4=2->Q3 g.A2 x=g.A2)/\(x.C3=2->g.A2.A4≠2->Q3 g.A2 x={g.A2 with A4:=2,A0:={x.A0 with Mem:=g.A2.A0.Mem},C0:=x.A3})/\(x.C3≠2->x.C3=4->Q3 g.A2 x={g.A2 with A4:=4})/\(x.C3≠2->x.C3≠4->Q3 g.A2 x=g.A2):=λhp k1=>by
  refine⟨λk p=>?_,λk p=>?_,λk p=>?_,λk p=>?_⟩
  ·unfold Q3;rw[if_neg (λh=>h hp),if_neg k1,if_pos k,if_pos p]
  ·unfold Q3;rw[if_neg (λh=>h hp),if_neg k1,if_pos k,if_neg p]
  ·unfold Q3;rw[if_neg (λh=>h hp),if_neg k1,if_neg k,if_pos p]
  ·unfold Q3;rw[if_neg (λh=>h hp),if_neg k1,if_neg k,if_neg p]
 unfold OC
 refine ab (λh0=>ab (λh1=>ab (λh2=>bh ?_) (λh2=>?_)) (λh1=>?_)) (λh0=>?_)
 ·have h0:g.A2.A4≠0:=nt h0
  have h1:g.A2.A4≠1:=nt h1
  have h2:g.A2.A4≠2:=nt h2
  have e:Q3 g.A2 x=g.A2:=by unfold Q3;rw[if_pos (by omega)]
  rw[e]
 all_goals
  have hp:g.A2.A4=0\/g.A2.A4=1\/g.A2.A4=2:=by
   first
    |exact .inr (.inr (LA h2))
    |exact .inr (.inl (LA h1))
    |exact .inl (LA h0)
  refine ab (λk=>cy (zaq ok ox (bt k) hp) λy hy=>bh hy) (λk1=>?_)
  have k1:x.C3≠1:=bf k1
  obtain⟨q1,q2,q3,q4⟩:=leaf hp k1
  refine ab (λk2=>?_) (λk2=>?_)
  ·have k2:x.C3=2:=bt k2
   refine ab (λp=>bh ?_) (λp=>bh ?_)
   ·rw[q1 k2 (bt p)]
   ·rw[q2 k2 (bf p)];rfl
  ·have k2:x.C3≠2:=bf k2
   refine ab (λp=>bh ?_) (λp=>bh ?_)
   ·rw[q3 k2 (bt p)];rfl
   ·rw[q4 k2 (bf p)]
theorem Zmo(R l:List Int)(x v:Int):rB R (l++[x]) v=(rB R l v).set x.toNat v:=by
 unfold rB;rw[fB];rfl
theorem XZ(l k:List fg)(x:fg):oX l (k++[x])=gq (oX l k) x:=by
 unfold oX;rw[fB];rfl
theorem OD{α:Type}{l:List α}{i:Nat}(h:i<l.length):l.take (i+1)=l.take i++[l[i]]:=by
 rw[List.take_add_one,aI h];rfl
theorem OE{n i:Nat}(h:i<n):(bX 2 2&&bN 0 2&&decide (0<=(i:Int)/\(i:Int)<(n:Int)))=true:=by
 rw[dY (by omega)];rfl
def DD(g:dw)(i:Nat):dw:=
 { g with
   A1:={g.A1 with B1:=⟨cO 8 false,g.A1.B1.B9+1,g.A1.B1.D6+(ia g.A1.B1.B0 0).length⟩,A3:=rB g.A1.A3 ((ia g.A1.B1.B0 0).take i) (g.A1.B1.B9+1)}
   A7:=oX g.A7 ((tu g.A1.B1 g.A1.A0.Mem).take i)}
theorem Zp(ok:fu g)(hr:g.A1.B1.B9<=10):(OF (mv g)).w λr=>r=mv (mw g):=by
 obtain⟨r1,r2⟩:=qm (c:=g.A1.B1) (m:=g.A1.A0.Mem) (by have:=ok.dl;omega)
 rw[ok.round hr]at r2
 have sl:=XT ok.dl
 have rl:=ok.rl
 have lS:(tu g.A1.B1 g.A1.A0.Mem).length=(ia g.A1.B1.B0 0).length:=by unfold tu mu;rw[eW,eW]
 have lC:(mu g.A1.A0.Mem (ia g.A1.B1.B0 0)).length=(ia g.A1.B1.B0 0).length:=by unfold mu;rw[eW]
 unfold OF
 refine c7 r1 (aq λx0 h0=>?_)
 have h0:x0=Q6 g.A1.B1 g.A1.A0.Mem:=h0
 have h0:=h0.trans r2
 subst h0
 refine fj (inv:=λz:Int×de=>∃i:Nat,z.1=i/\i<=(ia g.A1.B1.B0 0).length/\z.2=mv (DD g i)) (μ:=Qd2 (mv g)) ⟨0,rfl,bC _,rfl⟩ (cN _) ?_
 rintro⟨_,y⟩ ⟨i,rfl,hi,hy⟩
 simp only at hy
 subst hy
 refine ab (λbg=>?_) (λgr=>bh ?_)
 ·have bg:(i:Int)<((mu g.A1.A0.Mem (ia g.A1.B1.B0 0)).length:Int):=oY bg
  have hl:i<(ia g.A1.B1.B0 0).length:=by rw[lC]at bg;omega
  have ew:wrap .i64 ((i:Int)+1)=((i+1:Nat):Int):=by rw[wi (by omega) (by omega)];omega
  have eg:(mu g.A1.A0.Mem (ia g.A1.B1.B0 0)).getD (dA (i:Int)) (RK.eh RK.bn)=⟨(ia g.A1.B1.B0 0)[i],(jz g.A1.A0.Mem (ia g.A1.B1.B0 0)[i]).1⟩:=by
   simp[aV,mu,hl]
  have hm:=N6 (eT hl)
  have dl:=ok.dl
  have lp:(DD g i).A1.A3.length=8:=Tz.trans rl
  generalize hf:(ia g.A1.B1.B0 0)[i]=f at eg hm
  have f0:0<=f:=hm.1
  have f8:f<8:=by omega
  have X0:(f:Int)<(((mv (DD g i)).A1.A3).length:Int):=by show f<((DD g i).A1.A3.length:Int);omega
  have hlC:i<(mu g.A1.A0.Mem (ia g.A1.B1.B0 0)).length:=by rw[lC];exact hl
  refine ax (OE hlC) ?_
  rw[eg]
  refine ab (λ_=>ab (λ_=>ax ?_ ?_) (λh=>absurd X0 (oN h))) (λh=>absurd f0 (oN h))
  ·show(bX _ _&&bN _ _&&decide (0<=f/\f<_))=true
   rw[dY ⟨f0,X0⟩];rfl
  ·have e1:∀l:List Int,l.length=8->(l.set f.toNat (g.A1.B1.B9+1)).getD f.toNat 0=g.A1.B1.B9+1:=λl hl=>by rw[FH (by omega),if_pos rfl]
   refine cy (Zbx (g:={DD g i with A1:={(DD g i).A1 with A3:=(DD g i).A1.A3.set f.toNat (g.A1.B1.B9+1)}}) (c:=⟨f,(jz g.A1.A0.Mem f).1⟩) f0 (by show f<(((DD g i).A1.A3.set f.toNat (g.A1.B1.B9+1)).length:Int);rw[dC];exact X0)) λy hy=>ez ⟨⟨i+1,ew,by omega,?_⟩,?_⟩
   ·rw[hy]
    show mv _=mv _
    congr 1
    have t1:(ia g.A1.B1.B0 0).take (i+1)=(ia g.A1.B1.B0 0).take i++[f]:=by rw[OD hl,hf]
    have t2:(tu g.A1.B1 g.A1.A0.Mem).take (i+1)=(tu g.A1.B1 g.A1.A0.Mem).take i++[tq (g.A1.B1.B9+1) f (jz g.A1.A0.Mem f).1]:=by
     rw[OD (by omega)]
     congr 2
     have:(tu g.A1.B1 g.A1.A0.Mem)[i]'(by omega)=tq (g.A1.B1.B9+1) (ia g.A1.B1.B0 0)[i] (jz g.A1.A0.Mem (ia g.A1.B1.B0 0)[i]).1:=by simp[tu,mu]
     rw[this,hf]
    unfold DD
    rw[t1,t2,Zmo,XZ]
    show dw.mk _ _ (gq _ (tq ((List.set _ f.toNat _).getD f.toNat 0) f _)) _ _=_
    rw[e1 _ (Tz.trans rl)]
   ·show(_-wrap .i64 ((i:Int)+1)).toNat<(_-(i:Int)).toNat
    rw[ew]
    show(((Q6 g.A1.B1 g.A1.A0.Mem).2.length:Int)-((i+1:Nat):Int)).toNat<_
    show _<(((Q6 g.A1.B1 g.A1.A0.Mem).2.length:Int)-(i:Int)).toNat
    rw[r2]
    show(((mu g.A1.A0.Mem (ia g.A1.B1.B0 0)).length:Int)-((i+1:Nat):Int)).toNat<(((mu g.A1.A0.Mem (ia g.A1.B1.B0 0)).length:Int)-(i:Int)).toNat
    rw[lC];omega
 ·have gr:¬(i:Int)<((mu g.A1.A0.Mem (ia g.A1.B1.B0 0)).length:Int):=oN gr
  have hi2:i=(ia g.A1.B1.B0 0).length:=by rw[lC]at gr;omega
  show mv _=mv _
  congr 1
  unfold DD mw
  rw[fC (by omega),fC (by omega)]
theorem xaq(ok:fu g)(fi:Int):(OG (mv g) fi).w λr=>r=mv (DB g fi):=by
 unfold OG
 refine ab (λh=>bh ?_) (λh=>?_)
 ·have h:¬g.A1.A4=1:=nt h
  unfold DB
  rw[if_neg (λq=>h q.1)]
 ·have h:g.A1.A4=1:=LA h
  obtain⟨s1,s2⟩:=y5 (c:=g.A1.B1) (fi:=fi) (by have:=ok.dl;omega)
  refine c7 s1 (aq λx0 h0=>?_)
  have h0:x0=ID g.A1.B1 fi:=h0
  subst h0
  refine ab (λhb=>bh ?_) (λhb=>?_)
  ·have hb:ID g.A1.B1 fi=false:=by simpa using hb
   unfold DB
   rw[if_neg (λq=>by rw[hb]at q;cases q.2)]
  ·have hb:ID g.A1.B1 fi=true:=by simpa using hb
   have e:DB g fi=EB g:=by
    unfold DB
    rw[if_pos ⟨h,hb⟩,IG ok (ok.r2 h)];rfl
   rw[e]
   refine cy (Zp ok (ok.r2 h)) λx1 h1=>?_
   subst h1
   have rl:(mw g).A1.A3.length=8:=Tz.trans ok.rl
   exact cy (Z7b (g:={mw g with A1:={(mw g).A1 with A4:=2}}) rl) λy hy=>bh hy
theorem qt(ok:fu g):(OH (mv g)).w λr=>r=mv (Lw g):=by
 unfold OH
 refine ab (λh=>bh ?_) (λh=>?_)
 ·have h:¬g.A1.A4=2:=nt h
  unfold Lw
  rw[if_neg h]
 ·have h:g.A1.A4=2:=LA h
  have e:Lw g=On g:=if_pos h
  rw[e]
  have mp:jL g.A1.A0.Mem=((8:Nat):Int):=Lp (P:=8) ok.pY.len (by decide)
  refine aq λx0 h0=>?_
  have h0:x0=((8:Nat):Int):=h0.trans mp
  subst h0
  refine fj (inv:=λz:Int×de=>∃i:Nat,z.1=i/\i<=8/\z.2=mv {g with A7:=oX g.A7 ((sk g.A1).take i)}) (μ:=Qbx (mv g)) ⟨0,rfl,bC _,rfl⟩ (cN _) ?_
  rintro⟨_,y⟩ ⟨i,rfl,hi,hy⟩
  simp only at hy
  subst hy
  have lP:=vm g.A1
  refine ab (λbg=>?_) (λgr=>?_)
  ·have bg:(i:Int)<((8:Nat):Int):=oY bg
   have i8:i<8:=by omega
   have ew:wrap .i64 ((i:Int)+1)=((i+1:Nat):Int):=by rw[wi (by omega) (by omega)];omega
   refine c7 (Zoi (P:=8) ok.pY.len (by decide) (by omega) (by omega)) (aq λx1 h1=>?_)
   have h1:x1=jz g.A1.A0.Mem i:=h1
   subst h1
   have rl:=ok.rl
   refine ab (λ_=>cy (Zbx (g:={g with A7:=oX g.A7 ((sk g.A1).take i)}) (c:=⟨i,(jz g.A1.A0.Mem i).1⟩) (by show(0:Int)<=(i:Int);omega) (by show(i:Int)<(g.A1.A3.length:Int);omega)) λy hy=>ez ⟨⟨i+1,ew,by omega,?_⟩,?_⟩) (λhb=>?_)
   ·rw[hy]
    show mv _=mv _
    congr 1
    have t:(sk g.A1).take (i+1)=(sk g.A1).take i++[tq (g.A1.A3.getD i 0) i (jz g.A1.A0.Mem i).1]:=by
     rw[OD (by omega)]
     congr 2
     unfold sk
     rw[List.getElem_map,List.getElem_range]
    rw[t,XZ]
    rfl
   ·show(_-wrap .i64 ((i:Int)+1)).toNat<(_-(i:Int)).toNat
    rw[ew]
    show(jL g.A1.A0.Mem-((i+1:Nat):Int)).toNat<(jL g.A1.A0.Mem-(i:Int)).toNat
    rw[mp];omega
   ·exfalso
    have:(jz g.A1.A0.Mem i).2=true:=(IF ok.pY i8).2
    rw[this]at hb;cases hb
  ·have gr:¬(i:Int)<((8:Nat):Int):=oN gr
   have i8:i=8:=by omega
   subst i8
   have e3:(sk g.A1).take 8=sk g.A1:=fC (by omega)
   have e2:On g={g with A7:=gq (oX g.A7 (sk g.A1)) (ui g.A1)}:=by
    unfold On;rw[XZ]
   rw[e2,e3]
   generalize sk g.A1=L
   exact cy (Z7b (g:={g with A7:=oX g.A7 L}) ok.rl) λy hy=>bh hy
theorem TL(n:Int):(if 64<(if 0>n then 0 else n)then 64 else if 0>n then 0 else n)=((runN n:Nat):Int):=by
 unfold runN
 split<;>split<;>omega
theorem qaI(ok:fu g)(hc:U clock)(n:Int):(Q7 (mv g) n clock).w λr=>r=mv (jP g n clock):=by
 have rn:runN n<=64:=by unfold runN;omega
 have er:EF g=jm g:=by
  unfold jm
  simp only[EF,TM,Tree.m]
  by_cases h1:g.A1.A4=1
  ·simp[h1]
  ·by_cases h3:g.A1.A4=3
   ·simp[h3]
   ·by_cases ht:g.A2.A4=3
    ·simp[beq_false_of_ne h1,beq_false_of_ne h3,h1,h3,ht]
    ·simp[beq_false_of_ne h1,beq_false_of_ne h3,beq_false_of_ne ht,h1,h3,ht]
 unfold Q7
 refine aq λx0 h0=>?_
 have h0:x0=jm g:=h0.trans er
 subst h0
 refine ab (λh=>bh ?_) (λh=>ab (λh1=>?_) (λh1=>?_))
 ·have h:jm g= -1:=bt h
  unfold jm at h
  unfold jP
  split at h
  ·omega
  ·rename_i q1
   split at h
   ·omega
   ·rename_i q2
    rw[if_neg q1,if_neg q2]
 ·have h1:jm g=1:=bt h1
  have q:¬(g.A1.A4=1\/g.A1.A4=3)/\g.A2.A4=3:=by
   unfold jm at h1
   split at h1
   ·omega
   ·rename_i q1
    split at h1
    ·rename_i q2;exact⟨q1,q2⟩
    ·omega
  have gt:=ok.tg (.inr q.2)
  have e:jP g n clock={g with A2:={g.A2 with A0:=kU g.A2.A0 clock (runN n)}}:=by unfold jP;rw[if_neg q.1,if_pos q.2]
  rw[e]
  refine fj (inv:=λz:Int×bd=>∃i:Nat,z.1=i/\i<=runN n/\z.2=kU g.A2.A0 clock i) (μ:=λz=>(1000-z.1).toNat) ⟨0,rfl,bC _,rfl⟩ (by simp only[TN];omega) ?_
  rintro⟨_,y⟩ ⟨i,rfl,hi,hy⟩
  simp only at hy
  subst hy
  refine ab (λbg=>?_) (λgr=>ab (λhp=>?_) (λhp=>bh ?_))
  ·have bg:(i:Int)<(if 64<(if 0>n then 0 else n)then 64 else if 0>n then 0 else n):=oY bg
   rw[TL]at bg
   have ew:wrap .i64 ((i:Int)+1)=((i+1:Nat):Int):=by rw[wi (by omega) (by omega)];omega
   refine c7 (Z5i (GA gt hc i) hc) (aq λx1 h1=>ez ⟨⟨i+1,ew,by omega,?_⟩,by show(1000-wrap .i64 ((i:Int)+1)).toNat<(1000-(i:Int)).toNat;rw[ew];omega⟩)
   show x1.1=_
   rw[h1];rfl
  ·exfalso
   have hp:g.A2.A4=1:=bt hp
   omega
  ·have gr:¬(i:Int)<(if 64<(if 0>n then 0 else n)then 64 else if 0>n then 0 else n):=oN gr
   rw[TL]at gr
   have:i=runN n:=by omega
   subst this
   rfl
 ·have hn:¬jm g= -1:=bf h
  have h1:¬jm g=1:=bf h1
  have q:g.A1.A4=1\/g.A1.A4=3:=by
   unfold jm at hn h1
   split at hn
   ·assumption
   ·rename_i q1
    rw[if_neg q1]at h1
    split at hn
    ·rename_i q2;rw[if_pos q2]at h1;exact absurd rfl h1
    ·exact absurd rfl hn
  have e:jP g n clock={g with A1:={g.A1 with A0:=kU g.A1.A0 clock (runN n),B1:=rC g.A1 (kU g.A1.A0 clock (runN n))}}:=if_pos q
  rw[e]
  refine fj (inv:=λz:Int×bd=>∃i:Nat,z.1=i/\i<=runN n/\z.2=kU g.A1.A0 clock i) (μ:=λz=>(1000-z.1).toNat) ⟨0,rfl,bC _,rfl⟩ (by simp only[TN];omega) ?_
  rintro⟨_,y⟩ ⟨i,rfl,hi,hy⟩
  simp only at hy
  subst hy
  refine ab (λbg=>?_) (λgr=>?_)
  ·have bg:(i:Int)<(if 64<(if 0>n then 0 else n)then 64 else if 0>n then 0 else n):=oY bg
   rw[TL]at bg
   have ew:wrap .i64 ((i:Int)+1)=((i+1:Nat):Int):=by rw[wi (by omega) (by omega)];omega
   refine c7 (Z5i (GA ok.src hc i) hc) (aq λx1 h1=>ez ⟨⟨i+1,ew,by omega,?_⟩,by show(1000-wrap .i64 ((i:Int)+1)).toNat<(1000-(i:Int)).toNat;rw[ew];omega⟩)
   show x1.1=_
   rw[h1];rfl
  ·have gr:¬(i:Int)<(if 64<(if 0>n then 0 else n)then 64 else if 0>n then 0 else n):=oN gr
   rw[TL]at gr
   have hi:i=runN n:=by omega
   subst hi
   have sg:=GA ok.src hc (runN n)
   refine ab (λhp=>?_) (λhp=>bh ?_)
   ·have hp:g.A1.A4=1:=bt hp
    obtain⟨c1,c2,_⟩:=Zhk ok.pY sg.mb
    refine c7 c1 (aq λx2 h2=>?_)
    have h2:x2=DA g.A1.A0.Mem (kU g.A1.A0 clock (runN n)).Mem:=h2
    rw[<-h2]at c2
    obtain⟨n1,n2⟩:=zaG (c:=g.A1.B1) (l:=x2) (by have:=ok.dl;omega) (by omega)
    refine c7 n1 (aq λx3 h3=>bh ?_)
    have h3:x3=Tp g.A1.B1 x2:=h3
    rw[n2,h2]at h3
    subst h3
    have en:rC g.A1 (kU g.A1.A0 clock (runN n))={g.A1.B1 with B0:=pX g.A1.B1.B0 (DA g.A1.A0.Mem (kU g.A1.A0 clock (runN n)).Mem)}:=if_pos hp
    rw[en];rfl
   ·have hp:¬g.A1.A4=1:=bf hp
    have en:rC g.A1 (kU g.A1.A0 clock (runN n))=g.A1.B1:=if_neg hp
    rw[en];rfl
theorem X1(ok:fu g)(b:Bool)(i:Int):(IL (mv g) b i).w λr=>(mL (lO g b) i->r=(o4 (lO g b) i,true,mv (tt g b i)))/\(¬mL (lO g b) i->r.2.1=false/\r.2.2=mv g):=by
 have cn:∀l:List fg,mL l i->(bX 54 54&&bN 0 54&&decide (0<=i/\i<(l.length:Int)))=true:=λl hl=>by rw[dY (show 0<=i/\i<(l.length:Int) from hl)];rfl
 have fin:∀l:List fg,l.length<=64->mL l i->wrap .i64 (i+1)=i+1/\l.take i.toNat++l.drop (i+1).toNat=kW l i/\(fD (i-0)/\fD (wrap .i64 (i+1)-(i+1))/\fD ((l.length:Int)-wrap .i64 (i+1))):=λl hl hi=>by
  obtain⟨h0,h1⟩:=hi
  have ew:wrap .i64 (i+1)=i+1:=wi (by omega) (by omega)
  refine⟨ew,?_,?_⟩
  ·unfold kW;rw[show(i+1).toNat=i.toNat+1 by omega]
  ·rw[ew]
   exact⟨(h0:(0:Int)<=i),(eN _:i+1<=i+1),(show i+1<=(l.length:Int) by omega)⟩
 unfold IL
 refine ab (λhb=>aq λ_ _=>ab (λh=>bh ?_) (λh=>ab (λh2=>bh ?_) λh2=>?_)) (λhb=>aq λ_ _=>ab (λh=>bh ?_) (λh=>ab (λh2=>bh ?_) λh2=>?_))
 all_goals subst hb
 ·have h:i<0:=oY h
  exact⟨λq=>absurd q.1 (by omega),λ_=>⟨rfl,rfl⟩⟩
 ·have h2:i>=(g.C1.length:Int):=oY h2
  exact⟨λq=>absurd q.2 (by show¬i<(g.C1.length:Int);omega),λ_=>⟨rfl,rfl⟩⟩
 ·have h:¬i<0:=oN h
  have h2:¬i>=(g.C1.length:Int):=oN h2
  have hi:mL g.C1 i:=⟨by omega,by omega⟩
  obtain⟨e1,e2,e3⟩:=fin g.C1 ok.bl hi
  refine ax (cn _ hi) (c7 e3 (aq λx3 h3=>bh ⟨λ_=>?_,λq=>absurd hi q⟩))
  have h3:x3=g.C1.take i.toNat++g.C1.drop (wrap .i64 (i+1)).toNat:=h3
  rw[e1,e2]at h3
  have el:tt g true i={g with C1:=kW g.C1 i}:=if_pos hi
  rw[el,h3];rfl
 ·have h:i<0:=oY h
  exact⟨λq=>absurd q.1 (by omega),λ_=>⟨rfl,rfl⟩⟩
 ·have h2:i>=(g.A7.length:Int):=oY h2
  exact⟨λq=>absurd q.2 (by show¬i<(g.A7.length:Int);omega),λ_=>⟨rfl,rfl⟩⟩
 ·have h:¬i<0:=oN h
  have h2:¬i>=(g.A7.length:Int):=oN h2
  have hi:mL g.A7 i:=⟨by omega,by omega⟩
  obtain⟨e1,e2,e3⟩:=fin g.A7 ok.fl hi
  refine ax (cn _ hi) (c7 e3 (aq λx3 h3=>bh ⟨λ_=>?_,λq=>absurd hi q⟩))
  have h3:x3=g.A7.take i.toNat++g.A7.drop (wrap .i64 (i+1)).toNat:=h3
  rw[e1,e2]at h3
  have el:tt g false i={g with A7:=kW g.A7 i}:=if_pos hi
  rw[el,h3];rfl
theorem Zsv(ok:fu g)(b:Bool)(i:Int):(IL (mv g) b i).w λr=>r.2.2=mv (tt g b i):=by
 have t:=Tree.pp (X1 ok b i)
 refine(IL (mv g) b i).mono (λr (h:(mL (lO g b) i->r=(o4 (lO g b) i,true,mv (tt g b i)))/\(¬mL (lO g b) i->r.2.1=false/\r.2.2=mv g))=>?_) (X1 ok b i)
 by_cases hi:mL (lO g b) i
 ·rw[h.1 hi]
 ·have e:tt g b i=g:=if_neg hi
  rw[(h.2 hi).2,e]
theorem Zsj(ok:fu g)(b:Bool)(i:Int):(OI (mv g) b i).w λr=>r=mv (oa g b i):=by
 unfold OI
 refine cy (X1 ok b i) λx0 ⟨t1,t2⟩=>?_
 by_cases hi:mL (lO g b) i
 ·rw[t1 hi]
  have e:oa g b i=Lx (tt g b i) b (o4 (lO g b) i):=if_pos hi
  rw[e]
  have ox:=(ok.F4 b).2 _ (GB hi)
  have ol:=XU ok b i
  generalize o4 (lO g b) i=x at ox
  generalize tt g b i=l at ol
  refine ab (λh=>by cases h) λ_=>?_
  cases b
  ·exact ab (λ_=>cy (vr ol ox) λy hy=>bh hy) λh=>by cases h
  ·have et:Lx l true x=if l.A1.A4=2/\x.C3=3 then{l with A1:={l.A1 with A4:=4}}else l:=if_pos rfl
   rw[et]
   refine ab (λh=>by cases h) λ_=>ab (λh1=>ab (λh2=>bh ?_) (λh2=>bh ?_)) (λh1=>bh ?_)
   ·rw[if_pos (show l.A1.A4=2/\x.C3=3 from⟨bt h1,bt h2⟩)];rfl
   ·rw[if_neg (show¬(l.A1.A4=2/\x.C3=3) fromλq=>bf h2 q.2)]
   ·rw[if_neg (show¬(l.A1.A4=2/\x.C3=3) fromλq=>bf h1 q.1)]
 ·obtain⟨a,c⟩:=t2 hi
  have e:oa g b i=g:=if_neg hi
  rw[e]
  refine ab (λ_=>bh c) λh=>?_
  rw[a]at h;cases h
theorem X2(h:jx x):(OJ x).w λr=>r=x:=by
 unfold OJ
 have cm:(Cc x.A0).w λr=>r=x.A0:=by
  unfold Cc
  exact c7 (show x.A0.Mem.length<=35184372088832 by rw[h.mem];decide) (aq λy hy=>by have hy:y=x.A0.Mem:=hy;subst hy;exact bh rfl)
 refine cy cm λy hy=>?_
 subst hy
 refine c7 (show x.A3.length<=1000000000000 by have:=h.rl;omega) (aq λz hz=>?_)
 have hz:z=x.A3:=hz
 subst hz
 exact bh rfl
theorem xt(ok:fu g)(b:Bool)(i:Int):(OK (mv g) b i).w λr=>r=mv (AQ g b i):=by
 have cn:∀l:List fg,mL l i->(bX 54 54&&bN 0 54&&decide (0<=i/\i<(l.length:Int)))=true:=λl hl=>by rw[dY (show 0<=i/\i<(l.length:Int) from hl)];rfl
 unfold OK
 refine ab (λhb=>aq λ_ _=>ab (λh=>ab (λh2=>?_) (λh2=>bh ?_)) (λh=>bh ?_)) (λhb=>aq λ_ _=>ab (λh=>ab (λh2=>?_) (λh2=>bh ?_)) (λh=>bh ?_))
 all_goals subst hb
 ·have hi:mL g.C1 i:=⟨oY h,oY h2⟩
  have e:AQ g true i={g with C1:=gq g.C1 (o4 g.C1 i)}:=if_pos hi
  rw[e]
  refine ax (cn _ hi) (cy (X2 (x:=o4 g.C1 i) (ok.bo _ (GB hi))) λx1 h1=>?_)
  subst h1
  exact cy (yr _) λy hy=>bh hy
 ·have h2:¬i<(g.C1.length:Int):=oN h2
  have e:AQ g true i=g:=if_neg (λq=>h2 q.2)
  rw[e]
 ·have h:¬i>=0:=oN h
  have e:AQ g true i=g:=if_neg (λq=>h q.1)
  rw[e]
 ·have hi:mL g.A7 i:=⟨oY h,oY h2⟩
  have e:AQ g false i={g with A7:=gq g.A7 (o4 g.A7 i)}:=if_pos hi
  rw[e]
  refine ax (cn _ hi) (cy (X2 (x:=o4 g.A7 i) (ok.fo _ (GB hi))) λx1 h1=>?_)
  subst h1
  exact cy (Ov _) λy hy=>bh hy
 ·have h2:¬i<(g.A7.length:Int):=oN h2
  have e:AQ g false i=g:=if_neg (λq=>h2 q.2)
  rw[e]
 ·have h:¬i>=0:=oN h
  have e:AQ g false i=g:=if_neg (λq=>h q.1)
  rw[e]
theorem Zl9(hl:l.length<=64)(h:∀x∈l,jx x):(OL l).w λr=>r=l:=by
 unfold OL
 refine fj (inv:=λz:Int×List fg=>∃i:Nat,z.1=i/\i<=l.length/\z.2=l.take i) (μ:=X3 l) ⟨0,rfl,bC _,rfl⟩ (cN _) ?_
 rintro⟨_,y⟩ ⟨i,rfl,hi,hy⟩
 simp only at hy
 subst hy
 refine ab (λbg=>?_) (λgr=>bh ?_)
 ·have bg:i<l.length:=by have:(i:Int)<(l.length:Int):=oY bg;omega
  have ew:wrap .i64 ((i:Int)+1)=((i+1:Nat):Int):=by rw[wi (by omega) (by omega)];omega
  have eg:l.getD (dA (i:Int)) (RK.eh RK.aa)=l[i]:=by simp[aV,bg]
  have lt:(l.take i).length=i:=by rw[aD];omega
  refine ax (by rw[dY (show 0<=(i:Int)/\(i:Int)<(l.length:Int) by omega)];rfl) ?_
  rw[eg]
  refine cy (X2 (h _ (eT bg))) λx0 h0=>?_
  subst h0
  refine ax (dY (by show 328*((l.take i).length+1)<=_;omega)) (ez ⟨⟨i+1,ew,bg,(OD bg).symm⟩,by simp only[X3,ew];omega⟩)
 ·have gr:¬(i:Int)<(l.length:Int):=oN gr
  exact fC (by omega)
theorem Z6l{s:il}(hm:s.A0.Mem.length<=1024)(hd:s.B1.B0.length<=8)(hr:s.A3.length<=8)(hf:s.C0.length<=8):(OM s).w λr=>r=s:=by
 unfold OM
 have cm:(Cc s.A0).w λr=>r=s.A0:=by
  unfold Cc
  exact c7 (show s.A0.Mem.length<=35184372088832 by omega) (aq λy hy=>by have hy:y=s.A0.Mem:=hy;subst hy;exact bh rfl)
 refine cy cm λy hy=>?_
 subst hy
 refine c7 (show s.B1.B0.length<=140737488355328 by omega) (aq λa ha=>c7 (show s.A3.length<=1000000000000 by omega) (aq λb hb=>c7 (show s.C0.length<=1000000000000 by omega) (aq λc hc=>bh ?_)))
 have ha:a=s.B1.B0:=ha
 have hb:b=s.A3:=hb
 have hc:c=s.C0:=hc
 subst ha;subst hb;subst hc
 rfl
theorem fu.ON(h:fu g):g.A1.A0.Mem.length<=1024/\g.A2.A0.Mem.length<=1024:=by
 have a:=h.pY.len
 have b:=h.tm.len
 omega
theorem Zpm(ok:fu g):(OO g).w λr=>r=g:=by
 obtain⟨l1,l2⟩:=ok.ON
 unfold OO
 refine cy (Z6l l1 (by have:=ok.dl;omega) (by have:=ok.rl;omega) ok.sf) λx0 h0=>cy (Z6l l2 ok.tc (by have:=ok.tl;omega) ok.tf) λx1 h1=>cy (Zl9 ok.fl ok.fo) λx2 h2=>cy (Zl9 ok.bl ok.bo) λx3 h3=>c7 (show g.A9.ae.length<=1000000000000 by have:=ok.st.1;omega) (aq λx4 h4=>bh ?_)
 have h4:x4=g.A9.ae:=h4
 subst h0;subst h1;subst h2;subst h3;subst h4
 rfl
theorem OP{s t:List Int}(hl:s.length<=1000000):(LB s t).w λr=>r=decide (s=t):=by
 unfold LB
 refine ab (λh=>bh ?_) (λhe=>?_)
 ·have h:¬(s.length:Int)=t.length:=by simpa using h
  exact(dN (λe=>h (by rw[e]))).symm
 ·have he:s.length=t.length:=by
   have:(s.length:Int)=t.length:=by simpa using he
   omega
  refine fj (inv:=λz:Int=>∃i:Nat,z=i/\i<=s.length/\∀j,j<i->s.getD j 0=t.getD j 0) (μ:=OQ s t) ⟨0,rfl,bC _,λj h=>by omega⟩ (cN _) ?_
  rintro _ ⟨i,rfl,hi,hj⟩
  refine ab (λbg=>?_) (λgr=>bh ?_)
  ·have bg:i<s.length:=by simpa using bg
   have ew:wrap .i64 ((i:Int)+1)=((i+1:Nat):Int):=by rw[wi (by omega) (by omega)];omega
   refine ax (mK bg) (ax (mK (by omega)) (ab (λhn=>bh ?_) (λheq=>ez ⟨⟨i+1,ew,bg,λj Ls=>?_⟩,by simp only[OQ,ew];omega⟩)))
   ·rw[dX]at hn
    exact(dN (λe=>nt hn (by rw[e]))).symm
   ·rw[dX]at heq
    rcases Nat.lt_succ_iff_lt_or_eq.1 Ls with h|h
    ·exact hj j h
    ·subst h;exact LA heq
  ·have gr:s.length<=i:=by simpa using gr
   refine(dY (bR he λj h1 h2=>?_)).symm
   have:=hj j (by omega)
   simpa[aV,h1,h2]using this
theorem Zj1(ok:fu g):(OR g).w λr=>r=decide (BX g):=by
 unfold OR
 have tl:=ok.tl
 refine ab (λh=>c7 (show g.A2.A3.length<=1000000000000 by omega) (aq λx hx=>bh ?_)) (λh=>bh ?_)
 ·rw[show x=decide (g.A2.A3=g.A2.C0) from hx.trans (Tree.pp (OP (s:=g.A2.A3) (t:=g.A2.C0) (by omega))).2]
  refine decide_eq_decide.2 ⟨λe=>⟨bt h,e⟩,λe=>e.2⟩
 ·exact(dN (λe=>bf h e.1)).symm
theorem Cd(ok:fu g){a:jU}(hc:U a.F2):(OS g a).w λr=>r=o5 g a:=by
 unfold OS
 refine cy (Zpm ok) λx0 h0=>?_
 subst h0
 unfold o5
 refine ab (λk=>?_) λk=>?_
 ·rw[if_pos (bt k)]
  exact cy (qaI ok hc a.N) λy hy=>bh (by rw[hy];rfl)
 rw[if_neg (bf k)]
 refine ab (λk=>?_) λk=>?_
 ·rw[if_pos (bt k)]
  refine ab (λh1=>ab (λh2=>?_) (λh2=>bh ?_)) (λh1=>bh ?_)
  ·have h1:=bt h1
   have h2:x0.A1.B1.B9<10:=oY h2
   rw[if_pos ⟨h1,h2⟩,IG ok (by omega)]
   exact cy (Zp ok (by omega)) λy hy=>bh (by rw[hy];rfl)
  ·have h2:¬x0.A1.B1.B9<10:=oN h2
   rw[if_neg (λq=>h2 q.2)]
  ·rw[if_neg (λq=>bf h1 q.1)]
 rw[if_neg (bf k)]
 refine ab (λk=>?_) λk=>?_
 ·rw[if_pos (bt k)]
  exact cy (xaq ok a.N) λy hy=>bh (by rw[hy];rfl)
 rw[if_neg (bf k)]
 refine ab (λk=>?_) λk=>?_
 ·rw[if_pos (bt k)]
  exact cy (qt ok) λy hy=>bh (by rw[hy];rfl)
 rw[if_neg (bf k)]
 refine ab (λk=>?_) λk=>?_
 ·rw[if_pos (bt k)]
  exact cy (Zsj ok a.C1 a.N) λy hy=>bh (by rw[hy];rfl)
 rw[if_neg (bf k)]
 refine ab (λk=>?_) λk=>?_
 ·rw[if_pos (bt k)]
  exact cy (Zsv ok a.C1 a.N) λy hy=>bh (by rw[hy];rfl)
 rw[if_neg (bf k)]
 refine ab (λk=>?_) λk=>?_
 ·rw[if_pos (bt k)]
  exact cy (xt ok a.C1 a.N) λy hy=>bh (by rw[hy];rfl)
 rw[if_neg (bf k)]
 refine ab (λk=>?_) λk=>?_
 ·rw [if_pos (bt k)]
  refine cy (Zj1 ok) λx8 h8=>ab (λhb=>?_) λhb=>bh ?_
  ·rw[h8]at hb
   have hf:BX x0:=oY hb
   unfold sn
   rw[if_pos hf]
   refine cy (yQ ok.st (host:=1) (by decide)) λx9 h9=>?_
   by_cases hc:(me x0.A9 1 x0.A2.D5).2=true
   ·rw[if_pos hc]at h9⊢
    subst h9
    exact ab (λ_=>cy (yr (g:={x0 with A9:=(me x0.A9 1 x0.A2.D5).1,A2:={x0.A2 with A4:=3,D5:=(me x0.A9 1 x0.A2.D5).1.D5}}) (BW 3)) λy hy=>bh (by rw[hy];rfl)) λh=>by cases h
   ·rw[if_neg hc]at h9⊢
    subst h9
    exact ab (λh=>by cases h) λ_=>bh rfl
  ·rw[h8]at hb
   have hf:¬BX x0:=oN hb
   unfold sn
   rw[if_neg hf]
 rw[if_neg (bf k)]
 refine ab (λk=>?_) λk=>?_
 ·rw[if_pos (bt k)]
  exact cy (vQ ok.st) λy hy=>bh (by rw[hy];rfl)
 rw[if_neg (bf k)]
 refine ab (λk=>?_) λk=>?_
 ·rw[if_pos (bt k)]
  refine aq λy hy=>bh ?_
  have hy:y=mv (Om x0 a.C1):=hy.trans (Tree.pp (qaq (g:=x0) a.C1)).2
  rw[hy];rfl
 rw[if_neg (bf k)]
 exact bh rfl
theorem EG(n:Int):OT n 128/\(X4 n 128).length=128:=by
 refine⟨by show(128:Int)<=1000000000000;decide,?_⟩
 show Tree.V (LC n 128) (λs=>s.length=128)
 unfold LC
 refine Ez (inv:=λv:Int×List Int=>0<=v.1/\v.1<=128/\v.2.length=v.1.toNat) (μ:=TO n 128) ⟨eN 0,by decide,rfl⟩ (cN _) λv ⟨a,b,c⟩=>?_
 refine kT (λhb=>lI λx0 _=>BU (IE ?_)) λhb=>ma ?_
 ·have hb:=oY hb
  show(0<=wrap .i64 (v.1+1)/\wrap .i64 (v.1+1)<=128/\(v.2++[_]).length=(wrap .i64 (v.1+1)).toNat)/\(128-wrap .i64 (v.1+1)).toNat<(128-v.1).toNat
  rw[wi (by omega) (by omega)]
  refine⟨⟨by omega,by omega,?_⟩,by omega⟩
  rw[lA,c];simp;omega
 ·have hb:=oN hb
  show(bytesOf v.2).length=128
  unfold bytesOf
  rw[eW,c];omega
theorem qR(n:Int):(OU n).w λr=>r.length=4/\∀b∈r,b.length=128:=by
 unfold OU
 refine fj (inv:=λz:Int×List (List UInt8)=>∃i:Nat,z.1=i/\i<=4/\z.2.length=i/\∀b∈z.2,b.length=128) (μ:=X5 n) ⟨0,rfl,bC _,rfl,λb hb=>(by cases hb)⟩ (cN _) ?_
 rintro⟨_,y⟩ ⟨i,rfl,hi,hl,hb⟩
 simp only at hl hb
 refine ab (λbg=>?_) (λgr=>bh ?_)
 ·have bg:(i:Int)<4:=oY bg
  have ew:wrap .i64 ((i:Int)+1)=((i+1:Nat):Int):=by rw[wi (by omega) (by omega)];omega
  obtain⟨d1,d2⟩:=EG (wrap .i64 (n+(i:Int)))
  refine c7 d1 (aq λx0 h0=>ax (dY (by show 16*(y.length+1)<=_;omega)) (ez ⟨⟨i+1,ew,by omega,by simp;omega,λb rr=>?_⟩,by simp only[X5,ew];omega⟩))
  rcases List.mem_append.1 rr with h|h
  ·exact hb b h
  ·rw[List.mem_singleton.1 h,h0];exact d2
 ·have gr:¬(i:Int)<4:=oN gr
  exact⟨by show y.length=4;omega,hb⟩
theorem Zou{s:iL}(hb:s.ae.length=4)(hB:∀b∈s.ae,b.length=128)(hg:0<=s.D5/\s.D5<=2)(ho:s.D5=0->s.D7= -1)(ho2:0<s.D5->0<=s.D7):(OV s).w λr=>r=true:=by
 unfold OV
 refine ab (λh=>absurd (oY h) (by omega)) λ_=>ab (λh=>absurd (oY h) (by omega)) λ_=>ab (λh=>absurd (oY h) (by omega)) λ_=>ab (λh0=>ab (λh=>absurd (ho (bt h0)) (nt h)) (λ_=>ab (λh=>absurd (oY h) (by have:=bt h0;omega)) (λ_=>?_))) (λh0=>ab (λhp=>ab (λh=>absurd (oY h) (by have:=ho2 (oY hp);omega)) (λ_=>?_)) (λhp=>?_))
 all_goals
  refine fj (inv:=λz:Int=>∃i:Nat,z=i/\i<=s.ae.length) (μ:=X6 s) ⟨0,rfl,bC _⟩ (cN _) ?_
  rintro _ ⟨i,rfl,hi⟩
  refine ab (λbg=>?_) (λgr=>bh rfl)
  have bg:i<s.ae.length:=by simpa using bg
  have ew:wrap .i64 ((i:Int)+1)=((i+1:Nat):Int):=by rw[wi (by omega) (by omega)];omega
  refine ax (mK bg) (ab (λh=>?_) (λ_=>ez ⟨⟨i+1,ew,bg⟩,by simp only[X6,ew];omega⟩))
  exfalso
  have e:s.ae.getD (dA (i:Int)) (RK.eh RK.str)=s.ae[i]:=by simp[aV,bg]
  rw[e,hB _ (eT bg)]at h
  cases h
theorem Zr7{b:List (List UInt8)}(hb:b.length=4)(hB:∀x∈b,x.length=128):(OW b).w λr=>r=(⟨b,0,-1⟩,true):=by
 unfold OW
 refine ax (dY (by omega)) (cy (Zou (s:=⟨b,0,-1⟩) hb hB ⟨eN 0,by show(0:Int)<=2;decide⟩ (λ_=>rfl) (λh=>absurd h (by show¬(0:Int)<0;decide))) λx hx=>?_)
 subst hx
 exact ab (λh=>by cases h) λ_=>bh rfl
theorem xR{b:List (List UInt8)}(hb:b.length=4)(hB:∀x∈b,x.length=128):(OX ⟨b,0,-1⟩ 0 0).w λr=>r=(⟨b,1,0⟩,true):=by
 unfold OX
 refine cy (Zou (s:=⟨b,0,-1⟩) hb hB ⟨eN 0,by show(0:Int)<=2;decide⟩ (λ_=>rfl) (λh=>absurd h (by show¬(0:Int)<0;decide))) λx hx=>?_
 subst hx
 exact ab (λh=>by cases h) λ_=>ab (λh=>by cases h) λ_=>ab (λh=>by cases h) λ_=>ab (λh=>by cases h) λ_=>bh rfl
theorem zaI{m:bd}(hm:gh 8 m){b:List (List UInt8)}(hb:b.length=4)(hB:∀x∈b,x.length=128):(OY m ⟨b,1,0⟩).w λr=>r=(Ca m b,true):=by
 have hs:BV ⟨b,1,0⟩:=⟨hb,hB,by show(1:Int)<=1;decide,by show(1:Int)<=2;decide,by show(0:Int)<=0;decide⟩
 have mp:jL m.Mem=((8:Nat):Int):=Lp (P:=8) hm.mb.len (by decide)
 have ml:=hm.mb.len
 unfold OY
 refine c7 (Tree.pp (xaa hm.ok.target.2)).1 (aq λx0 h0=>?_)
 have h0:x0=true:=h0.trans hm.may
 subst h0
 refine ab (λh=>by cases h) λ_=>cy (Zpo hs) λx1 h1=>?_
 subst h1
 refine ab (λh=>by cases h) λ_=>ab (λh=>by cases h) λ_=>?_
 obtain⟨b1,b2⟩:=qan (P:=8) (by decide) (by decide)
 obtain⟨n1,n2⟩:=qaG (P:=8) (by decide) (by decide)
 have cm:(Cc m).w λr=>r=m:=by
  unfold Cc
  exact c7 (show m.Mem.length<=35184372088832 by omega) (aq λy hy=>by have hy:y=m.Mem:=hy;subst hy;exact bh rfl)
 refine aq λx2 h2=>?_
 have h2:x2=((8:Nat):Int):=h2.trans mp
 subst h2
 refine c7 b1 (aq λx3 h3=>?_)
 have h3:x3=(⟨cO 8 true,0,0⟩,true):=h3.trans b2
 subst h3
 refine ab (λh=>by cases h) λ_=>cy cm λx4 h4=>?_
 subst h4
 refine ax (by rw[dY (by decide)];rfl) (ax (by rw[dY (by decide)];rfl) (c7 n1 (aq λx5 h5=>c7 (show b.length<=1000000000000 by omega) (aq λx6 h6=>bh ?_))))
 have h5:x5=cO (32*8) 0:=h5.trans n2
 have h6:x6=b:=h6
 subst h5;subst h6
 rfl
theorem Zh6(kind:Int)(prog:List Int)(hl:prog.length*8<=reachBytes)(h60:prog.length<=60):(OZ kind prog).w λr=>∃m b,r=(Ca m b,m,true)/\gh 8 m/\b.length=4/\∀x∈b,x.length=128:=by
 unfold OZ
 have mg:=(Zhc kind prog hl h60).1
 refine c7 (Tree.pp (Zmt kind prog hl h60)).1 (aq λx0 h0=>?_)
 have h0:x0=Tq kind prog:=h0
 rw[<-h0]at mg
 refine cy (qR 1) λx1 ⟨k1,k2⟩=>cy (Zr7 k1 k2) λx2 h2=>?_
 subst h2
 refine cy (xR k1 k2) λx3 h3=>?_
 subst h3
 refine cy (zaI mg k1 k2) λx4 h4=>bh ?_
 subst h4
 exact⟨x0,x1,rfl,mg,k1,k2⟩
theorem qar(n k:Int):0<=TP n k:=by
 show Tree.V (TQ n k) (λx=>0<=x)
 unfold TQ
 refine lI λx hx=>ma ?_
 have r:0<=x.1/\x.1<18446744073709551616:=by
  rw[hx]
  show 0<=wrap .u64 _/\wrap .u64 _<_
  rw[wrap_u64];omega
 show 0<=wrap .i64 (x.1.fdiv 2)
 rw[Int.fdiv_eq_ediv_of_nonneg _ (by decide),wrap_i64];omega
theorem O0(a:Int):0<=ba .i64 a 1/\ba .i64 a 1<2:=by
 have h:(dR 64 a&&&dR 64 1).toNat<=1:=by
  rw[BitVec.toNat_and];exact Nat.and_le_right
 show 0<=wrap .i64 ((dR 64 a&&&dR 64 1).toNat:Int)/\wrap .i64 ((dR 64 a&&&dR 64 1).toNat:Int)<2
 rw[wi (by omega) (by omega)];omega
theorem xaI{x:Int}(h:0<=x)(k:Int):0<=bb .i64 x k:=by
 unfold bb
 exact Int.fdiv_nonneg h (Int.le_of_lt (Int.pow_pos (by decide)))
theorem Zsh(n:Int):(O1 n).w λa=>U a.F2:=by
 unfold O1
 refine aq λx0 h0=>?_
 have x0p:0<=x0:=by rw[h0];exact qar n 12
 have s0:=xaI x0p 8
 have t0:=Int.tmod_nonneg 6 s0
 have t1:=Int.tmod_lt_of_pos (bb .i64 x0 8) (b:=6) (by decide)
 have a1:=O0 (bb .i64 x0 8)
 repeat'(first
  |exact bh (fk _)
  |refine ax (Bool.and_eq_true_iff.2 ⟨rfl,dY a1⟩) ?_
  |refine ax (Bool.and_eq_true_iff.2 ⟨rfl,dY ⟨t0,t1⟩⟩) ?_
  |refine ab (λ_=>?_) (λ_=>?_))
theorem GG(a:bd)(ha:a.Mem.length<=1000000000000):(O2 a a).w (λb=>b=true):=by
 have X7:∀s:List Int,s.length<=1000000000000->O3 s s=true:=λs hb=>by
  have h:(IM s s).w λr=>r=true:=by
   unfold IM
   refine ab (λh=>by simp at h) (λ_=>?_)
   refine fj (inv:=λz:Int=>∃i:Nat,z=i/\i<=s.length) (μ:=IN s s) ⟨0,rfl,bC _⟩ (cN _) ?_
   rintro _ ⟨i,rfl,hi⟩
   refine ab (λbg=>?_) (λgr=>bh rfl)
   have bg:i<s.length:=by simpa using bg
   have ew:wrap .i64 ((i:Int)+1)=((i+1:Nat):Int):=by rw[wi (by omega) (by omega)];omega
   refine ax (mK bg) (ax (mK bg) (ab (λh=>by simp at h) (λ_=>ez ⟨⟨i+1,ew,bg⟩,by simp only[IN,ew];omega⟩)))
  exact(Tree.pp (W:=λr=>r=true) h).2
 unfold O2
 repeat'(first
  |refine ab (λ_=>?_) (λh=>absurd h (by simp[eqs,O4];done))
  |exact c7 ha (aq λx hx=>by rw[hx];exact X7 _ ha)
  |refine c7 ha (aq λx hx=>ab (λ_=>?_) (λh=>by rw[hx,X7 _ ha]at h;cases h))
  |exact rfl)
 all_goals(show(_==_)=true;simp)
theorem zR{m:bd}(h:Inv nc m g)(hk:True){l:List jU}(hl:l.length<=200)(hu:∀a∈l,U a.F2)(hn:nc=true->∀a∈l,a.C3≠10)(h1:∀a∈l,a.C3≠1):(O5 g l).w λr=>r=uj g l/\Inv nc m r:=by
 unfold O5
 refine cy (Zpm h.1) λx0 h0=>?_
 subst h0
 refine fj (inv:=λz:Int×dw=>∃i:Nat,z.1=i/\i<=l.length/\z.2=uj x0 (l.take i)/\Inv nc m z.2) (μ:=X8 x0 l) ⟨0,rfl,bC _,rfl,h⟩ (cN _) ?_
 rintro⟨_,y⟩ ⟨i,rfl,hi,hy,hI⟩
 simp only at hy hI
 refine ab (λbg=>?_) (λgr=>bh ?_)
 ·have bg:i<l.length:=by have:(i:Int)<(l.length:Int):=oY bg;omega
  have ew:wrap .i64 ((i:Int)+1)=((i+1:Nat):Int):=by rw[wi (by omega) (by omega)];omega
  have eg:l.getD (dA (i:Int)) (RK.eh RK.bw)=l[i]:=by simp[aV,bg]
  have am:l[i]∈l:=eT bg
  refine ax (by rw[dY (show 0<=(i:Int)/\(i:Int)<(l.length:Int) by omega)];rfl) (ab (λh2=>?_) λ_=>?_)
  ·exfalso
   have h2:(i:Int)=200:=bt h2
   omega
  rw[eg]
  refine cy (Cd hI.1 (hu _ am)) λx1 e1=>ez ⟨⟨i+1,ew,bg,?_,?_⟩,by simp only[X8,ew];omega⟩
  ·show x1.1=_
   rw[e1,hy,OD bg,Zjr];rfl
  ·show Inv nc m x1.1
   rw[e1]
   have:=y7 hI (hu _ am) (λe=>hn e _ am)
   have eq:Oq m y l[i]=m:=if_neg (λq=>h1 _ am q.1)
   rwa [eq]at this
 ·have gr:¬(i:Int)<(l.length:Int):=oN gr
  have:i=l.length:=by omega
  subst this
  rw[List.take_length]at hy
  exact⟨hy,hI⟩
theorem O6(g:dw):EF g=jm g:=by
 unfold jm
 simp only[EF,TM,Tree.m]
 by_cases h1:g.A1.A4=1
 ·simp[h1]
 ·by_cases h3:g.A1.A4=3
  ·simp[h3]
  ·by_cases ht:g.A2.A4=3
   ·simp[beq_false_of_ne h1,beq_false_of_ne h3,h1,h3,ht]
   ·simp[beq_false_of_ne h1,beq_false_of_ne h3,beq_false_of_ne ht,h1,h3,ht]
theorem Z7e(ok:fu g):(O7 g).w λr=>(jm g=0->r=(g.A1.A0,true))/\(jm g=1->r=(g.A2.A0,true))/\(jm g<0->r.2=false):=by
 obtain⟨l1,l2⟩:=ok.ON
 have cm:∀m:bd,m.Mem.length<=1024->(Cc m).w λr=>r=m:=λm hm=>by
  unfold Cc
  exact c7 (show m.Mem.length<=35184372088832 by omega) (aq λy hy=>by have hy:y=m.Mem:=hy;subst hy;exact bh rfl)
 unfold O7
 refine aq λx0 h0=>?_
 have h0:x0=jm g:=h0.trans (O6 g)
 subst h0
 refine ab (λh=>cy (cm _ l1) λy hy=>bh ?_) λh=>ab (λh1=>cy (cm _ l2) λy hy=>bh ?_) λh1=>bh ?_
 ·have h:=bt h
  rw[hy]
  exact⟨λ_=>rfl,λq=>by omega,λq=>by omega⟩
 ·have h1:=bt h1
  rw[hy]
  exact⟨λq=>by omega,λ_=>rfl,λq=>by omega⟩
 ·exact⟨λq=>absurd q (bf h),λq=>absurd q (bf h1),λ_=>rfl⟩
theorem zar:(O8).w λr=>r=Cb:=by
 unfold O8
 refine fj (inv:=λz:Int×List jU=>∃i:Nat,z.1=i/\i<=64/\z.2=oc 2 0::oc 3 32::cO i (oc 5 0)) (μ:=X9) ⟨0,rfl,bC _,rfl⟩ (cN _) ?_
 rintro⟨_,y⟩ ⟨i,rfl,hi,hy⟩
 simp only at hy
 have yl:y.length=i+2:=by rw[hy];simp
 refine ab (λbg=>?_) (λgr=>ax (dY (by show 24*(y.length+1)<=_;omega)) (bh ?_))
 ·have bg:(i:Int)<64:=oY bg
  have ew:wrap .i64 ((i:Int)+1)=((i+1:Nat):Int):=by rw[wi (by omega) (by omega)];omega
  refine ax (dY (by show 24*(y.length+1)<=_;omega)) (ez ⟨⟨i+1,ew,by omega,?_⟩,by simp only[X9,ew];omega⟩)
  show y++[oc 5 0]=_
  rw[hy,eQ];rfl
 ·have gr:¬(i:Int)<64:=oN gr
  have:i=64:=by omega
  subst this
  show y++[oc 8 0]=_
  rw[hy];rfl
theorem Ya:∀a∈Cb,U a.F2/\a.C3≠10/\a.C3≠1:=by
 intro a ha
 have k:∀x y:Int,x≠10->x≠1->U (oc x y).F2/\(oc x y).C3≠10/\(oc x y).C3≠1:=λx y h1 h2=>⟨⟨eN 0,by show(0:Int)<4294967296;decide⟩,h1,h2⟩
 unfold Cb at ha
 rcases List.mem_cons.1 ha with rfl|ha
 ·exact k _ _ (by decide) (by decide)
 rcases List.mem_cons.1 ha with rfl|ha
 ·exact k _ _ (by decide) (by decide)
 rcases List.mem_append.1 ha with ha|ha
 ·rw[eR ha];exact k _ _ (by decide) (by decide)
 ·rw[List.mem_singleton.1 ha];exact k _ _ (by decide) (by decide)
theorem Zso:Cb.length=67:=by
 unfold Cb
 simp only[dD,lA,cS,List.length_nil]
theorem v7:O9.w λr=>r=true:=by
 unfold O9
 refine cy (Zh6 2 [0] (by decide) (by decide)) λx0 ⟨m,b,e,hm,k1,k2⟩=>?_
 subst e
 have calm:=qQ hm k1 k2
 refine ab (λh=>by cases h) λ_=>aq λx1 h1=>?_
 have h1:x1=0:=h1.trans ((O6 _).trans (Ot (.inl rfl)))
 subst h1
 refine ab (λh=>by cases h) λ_=>cy zar λx2 h2=>?_
 subst h2
 refine cy (zR calm.inv trivial (by rw[Zso];decide) (λa ha=>(Ya a ha).1) (λ_ a ha=>(Ya a ha).2.1) (λa ha=>(Ya a ha).2.2)) λx3 ⟨e3,i3⟩=>?_
 obtain⟨_,q2,q3,q4,q5⟩:=EE calm (by decide)
 rw[<-e3]at q2 q3 q4 q5
 refine cy (Z7e i3.1) λx4 ⟨_,m2,_⟩=>?_
 have m2:=m2 q2
 subst m2
 refine cy (Cd i3.1 (a:={C3:=99,N:=0,C1:=false,F2:=0}) ⟨by decide,by decide⟩) λx5 h5=>aq λx6 h6=>?_
 have h6:x6=1:=h6.trans ((O6 _).trans q2)
 subst h6
 have h5:x5.2=false:=by rw[h5];rfl
 refine ab (λ_=>ab (λ_=>?_) (λh=>by cases h)) (λh=>by cases h)
 show(Tree.an (Pa x3.A2.A0 m) _).w _
 rw[q3]
 have ml:=hm.mb.len
 refine cy (GG m (by omega)) λx7 h7=>ab (λ_=>bh ?_) (λh=>by rw[h7]at h;cases h)
 rw[h5];rfl
theorem Pb{W:Bool->Prop}(h:W true):(Tree.an Pd (.lv Pe λx=>.lf x)).w W:=by
 have a:=Tree.pp v7
 exact c7 a.1 (aq λx hx=>bh (by rw[show x=true from hx.trans a.2];exact h))
theorem EH{m:bd}(g:gh 8 m)(hc:U clock):Qom m clock/\N5 m clock=AO m clock:=by
 refine⟨?_,(Ziz g.v clock).symm⟩
 have:(Lo m clock).w (λ_=>True):=by
  unfold Lo
  refine cy (xY g.ok) λx0 ⟨o,_⟩=>?_
  exact c7 (Tree.pp (xay x0)).1 (aq λx1 _=>ab (λ_=>trivial) λ_=>c7 (Tree.pp (Ws o hc)).1 (aq λ_ _=>trivial))
 exact(Tree.pp this).1
theorem Pf{β:Type}{W:β->Prop}{f:Bool->β}(h:W (f true)):(Tree.an Pd (.lv Pe λx=>.lf (f x))).w W:=by
 have a:=Tree.pp v7
 exact c7 a.1 (aq λx hx=>bh (by rw[show x=true from hx.trans a.2];exact h))
theorem Yb{α:Type}{W:α->Prop}{n:bd}{a:jU}(ok:fu g)(hU:U a.F2)(hI:Inv nc n (o5 g a).1)(gn:gh 8 n){F K:dw×Bool->Tree α}(hK:(K (o5 g a)).w W):
 (Tree.an (Pg g a) (.lv (Ph g a) λx=>.an (TR x.1) (.lv (TS x.1) λy=>.br y.2 (.an (Pa y.1 n) (.lv (TT y.1 n) λz=>.br (!z) (F x) (K x))) (K x)))).w W:=by
 refine cy (Cd ok hU) λx hx=>?_
 subst hx
 have q:=Tree.pp (Z7e hI.1)
 refine c7 q.1 (aq λy hy=>?_)
 obtain⟨q1,q2,q3⟩:(jm (o5 g a).1=0->y=((o5 g a).1.A1.A0,true))/\(jm (o5 g a).1=1->y=((o5 g a).1.A2.A0,true))/\(jm (o5 g a).1<0->y.2=false):=by rw[hy];exact q.2
 have ml:=gn.mb.len
 refine ab (λhb=>?_) (λ_=>hK)
 have hr:0<=jm (o5 g a).1:=by
  by_cases h:0<=jm (o5 g a).1
  ·exact h
  ·rw[q3 (by omega)]at hb;cases hb
 have ey:y=(n,true):=by
  rcases seen hI hr with⟨a,b⟩|⟨a,b⟩
  ·rw[q1 a,b]
  ·rw[q2 a,b]
 subst ey
 exact cy (GG n (by omega)) λz hz=>ab (λh=>by rw[hz]at h;cases h) (λ_=>hK)
theorem Zq5{m:bd}{a:jU}(h:¬(a.C3=1/\0<=jm g)):Oq m g a=m:=if_neg h
theorem yt{m:bd}{a:jU}(h1:a.C3=1)(h2:0<=jm g):Oq m g a=kU m a.F2 (runN a.N):=if_pos ⟨h1,h2⟩
theorem vt{n:Int}:(k:Int)<(if 64<n then 64 else n)↔k<runN n:=by
 unfold runN
 split<;>omega
theorem xar(n:Int):runN n<=64:=by unfold runN;omega
theorem Pj(kind:Int)(prog l:List Int)(hl:prog.length*8<=reachBytes):(Pk kind prog l).w λr=>r=true:=by
 unfold Pk
 refine ab (λ_=>Pb rfl) (λh1=>ab (λ_=>Pb rfl) (λh2=>?_))
 have h1:=oN h1
 have h2:=oN h2
 refine cy (Zh6 kind prog hl (by omega)) λx2 ⟨m,b,e,hm,k1,k2⟩=>?_
 subst e
 refine ab (λh=>by cases h) λ_=>?_
 refine fj (inv:=λz:Int×dw×bd=>∃i:Nat,z.1=i/\i<=l.length/\gh 8 z.2.2/\Inv false z.2.2 z.2.1) (μ:=Pl kind prog l) ⟨0,rfl,bC _,hm,Zp2 hm k1 k2,.inl (wg hm b)⟩ (cN _) ?_
 rintro⟨_,g,n⟩ ⟨i,rfl,hi,gn,hI⟩
 simp only at gn hI
 refine ab (λbg=>?_) (λgr=>Pf rfl)
 have bg:i<l.length:=by have:(i:Int)<(l.length:Int):=oY bg;omega
 have ew:wrap .i64 ((i:Int)+1)=((i+1:Nat):Int):=by rw[wi (by omega) (by omega)];omega
 refine ax (mK bg) (cy (Zsh _) λx3 hU=>?_)
 have nx:∀g' n',gh 8 n'->Inv false n' g'->(∃j:Nat,wrap .i64 ((i:Int)+1)=j/\j<=l.length/\gh 8 n'/\Inv false n' g')/\Pl kind prog l (wrap .i64 ((i:Int)+1),g',n')<Pl kind prog l ((i:Int),g,n):=λg' n' a b=>
  ⟨⟨i+1,ew,bg,a,b⟩,by simp only[Pl,ew];omega⟩
 have I2:=y7 hI hU (λe=>by cases e)
 refine ab (λhk=>aq λx4 h4=>ab (λhr=>?_) (λhr=>?_)) (λhk=>?_)
 ·have hr:0<=jm g:=by
   have:x4>=0:=oY hr
   rw[show x4=jm g from h4.trans (O6 g)]at this;exact this
  rw[yt (bt hk) hr]at I2
  refine fj (inv:=λz:Int×bd=>∃k:Nat,z.1=k/\k<=runN x3.N/\z.2=kU n x3.F2 k) (μ:=λz=>(100-z.1).toNat) ⟨0,rfl,bC _,rfl⟩ (by simp only[Q9a];omega) ?_
  rintro⟨_,y⟩ ⟨k,rfl,pP,hy⟩
  simp only at hy
  subst hy
  have gy:=GA gn hU k
  have r64:=xar x3.N
  refine ab (λIP=>?_) (λYc=>?_)
  ·have IP:k<runN x3.N:=vt.1 (oY IP)
   have ek:wrap .i64 ((k:Int)+1)=((k+1:Nat):Int):=by rw[wi (by omega) (by omega)];omega
   obtain⟨p,q⟩:=EH gy hU
   refine c7 p (aq λx5 h5=>ez ⟨⟨k+1,ek,IP,?_⟩,by show(100-wrap .i64 ((k:Int)+1)).toNat<(100-(k:Int)).toNat;rw[ek];omega⟩)
   show x5.1=_
   rw[show x5=AO (kU n x3.F2 k) x3.F2 from h5.trans q];rfl
  ·have:k=runN x3.N:=by
    have:¬k<runN x3.N:=λh=>oN Yc (vt.2 h)
    omega
   subst this
   exact Yb hI.1 hU I2 gy (ez (nx _ _ gy I2))
 ·have hr:¬0<=jm g:=by
   have:¬x4>=0:=oN hr
   rw[show x4=jm g from h4.trans (O6 g)]at this;exact this
  rw[Zq5 (λq=>hr q.2)]at I2
  exact Yb hI.1 hU I2 gn (ez (nx _ _ gn I2))
 ·rw[Zq5 (λq=>bf hk q.1)]at I2
  exact Yb hI.1 hU I2 gn (ez (nx _ _ gn I2))

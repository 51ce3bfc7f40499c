import Derived.Test.YtaemmjbkndlkeaaGreatMigrateTellsZt
open List renaming set->dB,mem_cons->cQ,not_mem_nil->cR
open Nat renaming blt->bN,beq->bX,lt_succ_self->cN,le_refl->aX,zero_le->bC
open Int renaming pow_pos->dI,le_of_lt->dK,fdiv_eq_ediv_of_nonneg->dJ,tmod->cZ,mul_tmod_right->iE,mul_tdiv_cancel_left->iF,tdiv->eN,tdiv_eq_ediv_of_nonneg->eO,emod_eq_of_lt->dH,lt_of_lt_of_le->iG,le_of_eq->iH
open BitVec renaming ofInt->dR,toNat_and->dU
set_option maxRecDepth 100000
set_option linter.all false
namespace Go.Proofs.YtaemmjbkndlkeaaGreat
open Go Go.GD
open Go.IntKind(wrap i64 u32 u64 u8 i32 wrap_i64 wrap_u32 wrap_u64 wrap_u8 wrap_i32)
variable {P:Nat}{b f root size v va x:Int}{c:cq}{d:gk}{i:ig}{m:List Int}{n:iq}
def U(x:Int):Prop:=0<=x/\x<4294967296
theorem fv(x:Int):U (u32.wrap x):=by rw[wrap_u32];unfold U;omega
theorem JV(x y:Int):U (bm .u32 x y):=fv _
theorem nC(x y:Int):U (ja .u32 x y):=fv _
theorem gm:U 0:=⟨by omega,by omega⟩
theorem EF(h:∀w∈m,U w)(hv:U v)(i:Nat):∀w∈m.set i v,U w:=by
 intro w hw
 rcases List.mem_or_eq_of_mem_set hw with h1|h1
 ·exact h w h1
 ·rw[h1];exact hv
structure dy(P:Nat)(m:List Int):Prop where
 len:m.length=32*P
 p1:0<=P
 p2:P<=32
 u:∀w∈m,U w
structure Bc(d:gk):Prop where
 block:U d.C8
 frame:U d.Frame
 kN:U d.C5
 kO:U d.C6
structure u7(n:iq):Prop where
 frame:U n.Frame
 len:U n.F7
 buffer:U n.D5
 HB:U n.F8
theorem Bg{l:List Int}(h:∀w∈l,U w)(i:Nat):U (l.getD i 0):=by
 by_cases hi:i<l.length
 ·have:l.getD i 0=l[i]:=by simp[List.getD,hi]
  rw[this];exact h _ (List.getElem_mem hi)
 ·have:l.getD i 0=0:=by simp[List.getD,List.getElem?_eq_none (by omega:l.length<=i)]
  rw[this];exact gm
structure je(c:cq):Prop where
 x:∀w∈jg.l c.X,U w
 pc:U c.Pc
 jK:∀w∈A8.l c.C4,U w
theorem ZK{X:jg Int}(h:∀w∈jg.l X,U w)(hv:U v)(i:Nat):∀w∈jg.l (jg.of 0 (dB (jg.l X) i v)),U w:=by
 have hs:=EF h hv i
 intro w hw
 simp only[jg.l,jg.of,cQ,cR,or_false]at hw
 repeat(first|(rcases hw with rfl|hw;· exact Bg hs _)|(subst hw;exact Bg hs _))
theorem Zno{X:A8 Int}(h:∀w∈A8.l X,U w)(hv:U v)(i:Nat):∀w∈A8.l (A8.of 0 (dB (A8.l X) i v)),U w:=by
 have hs:=EF h hv i
 intro w hw
 simp only[A8.l,A8.of,cQ,cR,or_false]at hw
 repeat(first|(rcases hw with rfl|hw;· exact Bg hs _)|(subst hw;exact Bg hs _))
section
variable {c:cq} (h:je c)
include h
theorem je.a(i:Nat):U ((A8.l c.C4).getD i 0):=Bg h.jK i
theorem je.r(i:Nat):U ((jg.l c.X).getD i 0):=Bg h.x i
theorem je.a0:U c.C4.a0:=h.a 0
theorem je.a1:U c.C4.a1:=h.a 1
theorem je.a2:U c.C4.a2:=h.a 2
theorem je.a3:U c.C4.a3:=h.a 3
theorem je.a4:U c.C4.a4:=h.a 4
theorem je.a5:U c.C4.a5:=h.a 5
theorem je.a6:U c.C4.a6:=h.a 6
theorem je.a7:U c.C4.a7:=h.a 7
theorem je.BA{p:Int}(hp:U p):je {X:=c.X,Pc:=p,C4:=c.C4}:=⟨h.x,hp,h.jK⟩
end
section
variable {α β:Type} {W:β->Prop} {t:Tree α} {Q:α->Prop} {k:α->Tree β}
theorem cf(hq:t.w Q)(g:∀x,Q x->(k x).w W):(Tree.an t.p (Tree.lv t.m k)).w W:=⟨(Tree.pp hq).1,λy hy=>g y (by rw[hy];exact(Tree.pp hq).2)⟩
theorem U7(hq:t.w Q)(g:∀x,Q x->(k x).w W):(Tree.lv t.m k).w W:=λy hy=>g y (by rw[hy];exact t.post hq)
end
theorem rc{r:Int}(h:0<=r/\r<16):(bN 0 1&&decide (0<=r/\r<((16:Nat):Int)))=true:=by simp[bN];omega
theorem Bf{a:Int}(h:U a)(b:Int):U (bn .u32 a b):=by
 unfold bn U
 obtain⟨h1,h2⟩:=h
 have hp:(0:Int)<2^(min b.toNat u32.bits):=dI (by decide)
 have:=Int.fdiv_nonneg h1 (dK hp)
 refine⟨this,?_⟩
 rw[dJ _ (dK hp)]
 have h3:=Int.ediv_le_self (2^(min b.toNat u32.bits)) h1
 omega
structure tv(i:ig):Prop where
 a:0<=i.A/\i.A<16
 b:0<=i.B/\i.B<16
 c:0<=i.C/\i.C<16
 jK:i.Op=58->0<=i.cv/\i.cv<8
theorem Ze4(h:dy P m):jX m=P:=by
 obtain⟨h1,h2,h3,_⟩:=h
 simp only[jX,Hx,Tree.m]
 have e:(m.length:Int)=32*P:=by omega
 rw[e]
 have e1:(cZ (32*(P:Int)) 32 !=0)=false:=by simp[iE]
 have e2:decide ((32*(P:Int))>1024)=false:=dN (by omega)
 rw[e1,e2]
 simp only[cond_false]
 rw[iF _ (by decide),wrap_i64];omega
theorem qaf(n:Int):(Tf n).w (λ_=>True):=by
 unfold Tf
 exact aa (λ_=>trivial) (λ_=>ar (dY (by rw[wrap_u64];omega)) trivial)
theorem NW(w low n:Int):(Tg w low n).w U:=by
 unfold Tg
 exact aa (λ_=>gm) (λ_=>aa (λ_=>gm) (λ_=>aa (λ_=>gm) (λ_=>ar (dY (by rw[wrap_u64];omega)) (cf (qaf n) λ_ _=>JV _ _))))
theorem Zym{w:Int}(hw:U w)(low n v:Int):(Th w low n v).w U:=by
 have h0:decide (0<=wrap u64 low)=true:=dY (by rw[wrap_u64];omega)
 unfold Th
 exact aa (λ_=>hw) (λ_=>aa (λ_=>hw) (λ_=>aa (λ_=>hw) (λ_=>cf (qaf n) λ_ _=>ar h0 (ar h0 (nC _ _)))))
theorem ZF(hx:U x)(n:Int):(Ti x n).w U:=by
 have h0:∀y,decide (0<=wrap u64 y)=true:=λy=>dY (by rw[wrap_u64];omega)
 unfold Ti
 exact aa (λ_=>gm) (λ_=>aa (λ_=>hx) (λ_=>ar (h0 _) (ar (h0 _) (fv _))))
section
variable {P:Nat} {m:List Int} (h:dy P m)
include h
theorem Hy:oB m:=by
 have:=h.len
 have:=h.p2
 show m.length<=35184372088832
 omega
theorem Znj{a:Int}(ha:U a)(hs:size=1\/size=4):(JY m a size).w (λb=>b=true->a+size<=128*P):=by
 have hp:=Ze4 h
 have h2:=h.p2
 obtain⟨a1,a2⟩:=ha
 have e:decide (wrap u32 size≠0)=true:=by rcases hs with rfl|rfl<;>decide
 have l:∀x,x=jX m->decide (wrap u64 (wrap u64 a+wrap u64 size)<=wrap u64 (wrap u64 x*128))=true->a+size<=128*P:=λx hx hd=>by
  rw[hx,hp]at hd
  have:=oY hd
  simp only[wrap_u64]at this
  omega
 unfold JY
 refine aa (λ_=>aa (λ_=>λh=>by cases h) (λ_=>?_)) (λ_=>?_)<;>
 exact ar e (aa (λ_=>λh=>by cases h) (λ_=>ai λx hx=>l x hx))
theorem GP{a:Int}(ha:U a)(hl:a<128*P):(bX 1 1&&bN 0 1&&decide (0<=wrap u32 (eN a 4)/\wrap u32 (eN a 4)<(m.length:Int)))=true:=by
 obtain⟨a1,a2⟩:=ha
 have e:wrap u32 (eN a 4)=a/4:=by rw[wrap_u32,eO a1];omega
 have:=h.len
 rw[e];simp[bN];omega
theorem JO{a:Int}(ha:U a)(hs:size=1\/size=4):(MB m a size).w (λr=>U r.1/\(r.2=true->a<128*P)):=by
 unfold MB
 refine cf (Znj h ha hs) λx hx=>aa (λ_=>⟨gm,λh=>by cases h⟩) (λhb=>?_)
 have hl:=hx (by simpa using hb)
 have hl:a<128*P:=by omega
 exact ar (GP h ha hl) (aa (λ_=>cf (NW _ _ _) λy hy=>⟨hy,λ_=>hl⟩) (λ_=>⟨Bg h.u _,λ_=>hl⟩))
theorem Vi{a:Int}(ha:U a)(hs:size=1\/size=4)(hv:U v):(MD m a size v).w (λr=>dy P r.1):=by
 have st:∀i v,U v->dy P (m.set i v):=λi v hv=>⟨by simp[h.len],h.p1,h.p2,EF h.u hv i⟩
 have jH:kU m=m:=rfl
 unfold MD
 refine bz (Hy h) (ai λx0 nT=>?_)
 rw[jH]at nT;subst nT
 refine cf (Znj h ha hs) λx hx=>aa (λ_=>h) (λhb=>?_)
 have hl:=hx (by simpa using hb)
 have hl:a<128*P:=by omega
 exact aa (λ_=>ar (GP h ha hl) (cf (Zym (Bg h.u _) _ _ _) λy hy=>ar (GP h ha hl) (st _ _ hy))) (λ_=>ar (GP h ha hl) (st _ _ hv))
end
theorem Zrp{r:Int}{used:Bool}(h:Mw r used=true):0<=r/\r<16:=by
 simp only[Mw,Vl,Tree.m]at h
 cases used
 ·have h:(r==0)=true:=h
  have:=eq_of_beq h;omega
 ·cases h1:decide (r>=0)<;>rw[h1]at h
  ·cases h
  ·have h1:=oY h1
   have h:=oY h
   omega
theorem yA(h:JU i=true):tv i:=by
 have no:false=true->tv i:=λh=>by cases h
 refine(Tree.post (Px i) (W:=λb=>b=true->tv i) ?_) h
 unfold Px
 refine ai λx0 h0=>aa (λ_=>ai λx1 h1=>aa (λb1=>ai λx2 h2=>aa (λb2=>ai λx3 h3=>aa (λb3=>aa (λb4=>λb5=>?_) (λ_=>no)) (λ_=>no)) (λ_=>no)) (λ_=>no)) (λ_=>no)
 have b4:=oY b4
 have b5:=oY b5
 refine⟨Zrp (h1.symm.trans b1),Zrp (h2.symm.trans b2),Zrp (h3.symm.trans b3),λe=>?_⟩
 rw[e]at h0
 have h0:x0=({a:=true,b:=false,c:=false,low:=0,F6:=7},true):=h0
 subst h0
 simp at b4 b5;omega
theorem ZH(w:Int):(My w).w (λr=>r.2=true->tv r.1):=by
 have no:∀{p:Prop},false=true->p:=λh=>by cases h
 have l:∀i,(Tree.lv (JU i) λx=>.br (!x) (.lf ((⟨0,0,0,0,0⟩:ig),false)) (.lf (i,true))).w (λr=>r.2=true->tv r.1):=λi=>ai λx hx=>aa (λ_=>no) (λhb=>λ_=>yA (hx.symm.trans (by simpa using hb)))
 unfold My
 exact cf (NW _ _ _) λx0 _=>cf (NW _ _ _) λx1 _=>cf (NW _ _ _) λx2 _=>ai λx3 _=>aa (λ_=>no) (λ_=>cf (NW _ _ _) λx4 h4=>aa (λ_=>l _) (λ_=>aa (λ_=>cf (ZF h4 _) λx6 _=>l _) (λ_=>l _)))
section
variable {P:Nat} {m:List Int} (h:dy P m)
include h
theorem yY(hf:U f):PE m f=decide (f<P):=by
 have:=Ze4 h
 obtain⟨h1,h2⟩:=hf
 have h3:=h.p2
 simp only[PE,Qmv,Tree.m,eu,this]
 congr 1
 rw[wrap_u64,wrap_u64,dH h1 (by omega),dH (by omega) (by omega)]
theorem xaD(hv:U va)(access:Int):(ME m root va access).w (λt=>U t.Addr/\U t.G1):=by
 have bad:U (0:Int)/\U (0:Int):=⟨gm,gm⟩
 have fr:∀x,(Tj x).w U:=λx=>by
  unfold Tj
  exact cf (NW _ _ _) λy hy=>hy
 unfold ME
 exact ai λx0 _=>aa (λ_=>bad) (λ_=>aa (λ_=>bad) (λ_=>ai λx1 _=>aa (λ_=>bad) (λ_=>cf (JO h (fv _) (.inr rfl)) λx2 _=>aa (λ_=>bad) (λ_=>ai λx3 _=>aa (λ_=>bad) (λ_=>cf (fr _) λx4 _=>ai λx5 _=>aa (λ_=>bad) (λ_=>cf (fr _) λx6 _=>⟨fv _,fv _⟩))))))
theorem vY{a:Int}(ha:U a)(access:Int):(MF m a access).w (dy P):=by
 have jH:kU m=m:=rfl
 unfold MF
 exact cf (JO h ha (.inr rfl)) λx0 _=>aa (λ_=>bz (Hy h) (ai λx1 h1=>by rw[h1,jH];exact h)) (λ_=>aa (λ_=>cf (Vi h ha (.inr rfl) (nC _ _)) λx hx=>hx) (λ_=>cf (Vi h ha (.inr rfl) (nC _ _)) λx hx=>hx))
theorem Pt(hv:U va)(hs:size=1\/size=4)(access:Int):(ML c m va size access).w (λr=>U r.1/\dy P r.2.1):=by
 have jH:kU m=m:=rfl
 have e:decide (wrap u32 size≠0)=true:=by rcases hs with rfl|rfl<;>decide
 have cl:∀(K:List Int->Int×List Int×Int),(∀x,x=m->U (K x).1/\dy P (K x).2.1)->(Tree.an (oB m) (.lv (kU m) λx=>.lf (K x))).w (λr=>U r.1/\dy P r.2.1):=λK hK=>bz (Hy h) (ai λx hx=>hK x (hx.trans jH))
 have z:∀(k:Nat) (x:List Int),x=m->U (0:Int)/\dy P x:=λ_ x hx=>⟨gm,hx▸h⟩
 have v:∀x,x=m->U va/\dy P x:=λx hx=>⟨hv,hx▸h⟩
 have main:∀(x0:Int×Bool),(Tree.cn (decide (wrap u32 size≠0)) (.br (cZ va (wrap u32 size) !=0) (.an (oB m) (.lv (kU m) λx3=>.lf ((0:Int),x3,(3:Int)))) (.lv (JZ c) λx4=>.br (!x4) (.br (bm u32 c.C4.a0 4 !=0) (.an (Qn1 m c.C4.a6 va access) (.lv (Qm m c.C4.a6 va access) λx5=>.br (x5.G0 !=0) (.an (oB m) (.lv (kU m) λx6=>.lf (0,x6,x5.G0))) (.an (Qjp m x5.G1 access) (.lv (PG m x5.G1 access) λx7=>.lf (x5.Addr,x7,0))))) (.an (K1 m va size) (.lv (Db m va size) λx8=>.br (!x8.2) (.an (oB m) (.lv (kU m) λx9=>.lf (0,x9,x0.1))) (.an (oB m) (.lv (kU m) λkF=>.lf (va,kF,0)))))) (.an (K1 m va size) (.lv (Db m va size) λkX=>.br (!kX.2) (.an (oB m) (.lv (kU m) λnW=>.lf (0,nW,x0.1))) (.an (oB m) (.lv (kU m) λr8=>.lf (va,r8,0)))))))).w (λr=>U r.1/\dy P r.2.1):=λx0=>
  ar e (aa (λ_=>cl _ (z 0)) (λ_=>ai λx4 _=>aa (λ_=>aa (λ_=>cf (xaD h hv access) λx5 hx=>aa (λ_=>cl _ (z 0)) (λ_=>cf (vY h hx.2 access) λx7 h7=>⟨hx.1,h7⟩)) (λ_=>cf (JO h hv hs) λx8 _=>aa (λ_=>cl _ (z 0)) (λ_=>cl _ v))) (λ_=>cf (JO h hv hs) λx8 _=>aa (λ_=>cl _ (z 0)) (λ_=>cl _ v))))
 unfold ML
 exact ai λx0 _=>aa (λ_=>cl _ (z 0)) (λ_=>aa (λ_=>aa (λ_=>cl _ (z 0)) (λ_=>main x0)) (λ_=>main x0))
theorem ZG(hc:je c):(Tk c m).w (λr=>U r.1/\dy P r.2.1):=by
 unfold Tk
 exact cf (Pt h hc.pc (.inr rfl) 1) λx0 h0=>aa (λ_=>⟨gm,h0.2⟩) (λ_=>cf (JO h0.2 h0.1 (.inr rfl)) λx1 h1=>⟨h1.1,h0.2⟩)
end
theorem qaE{s a b:Int}:U (Be s a b):=by
 refine Tree.post (Xn s a b) (W:=U) ?_
 unfold Xn
 exact aa (λ_=>fv _) (λ_=>fv _)
section
variable {c:cq} (h:je c)
include h
theorem JR(k:Int)(hb:U b):je (r4 c k b):=by
 refine(Tree.post (PH c k b) (W:=je) ?_)
 unfold PH
 refine ai λ_ _=>ai λ_ _=>⟨h.x,h.a1,?_⟩
 intro w hw
 simp only[A8.l,cQ,cR,or_false]at hw
 rcases hw with rfl|rfl|rfl|rfl|rfl|rfl|rfl|rfl
 ·exact fv _
 ·exact h.a1
 ·exact h.pc
 ·exact fv _
 ·exact hb
 ·exact h.a5
 ·exact h.a6
 ·exact h.a7
theorem vA:je (Mp c):=by
 refine(Tree.post (PJ c) (W:=je) ?_)
 unfold PJ
 refine ai λx0 _=>ai λx1 h1=>⟨h.x,h.a2,?_⟩
 intro w hw
 simp only[A8.l,cQ,cR,or_false]at hw
 rcases hw with rfl|rfl|rfl|rfl|rfl|rfl|rfl|rfl
 ·rw[h1];exact qaE
 ·exact h.a1
 ·exact h.a2
 ·exact h.a3
 ·exact h.a4
 ·exact h.a5
 ·exact h.a6
 ·exact h.a7
theorem EK{r:Int}(hr:0<=r/\r<16)(hv:U v):(FI c r v).w je:=by
 unfold FI
 exact aa (λ_=>ar (rc hr) ⟨ZK h.x hv _,h.pc,h.jK⟩) (λ_=>h)
theorem Zwv(k:Int)(hv:U v):(JM c k v).w je:=by
 have ok:∀i v,U v->je {X:=c.X,Pc:=c.Pc,C4:=A8.of 0 (dB (A8.l c.C4) i v)}:=λi v hv=>⟨h.x,h.pc,Zno h.jK hv i⟩
 unfold JM
 repeat'(first
  |exact h
  |exact ok _ _ (fv _)
  |exact ok _ _ hv
  |refine aa (λhk=>?_) (λ_=>?_)
  |refine ar (by rw[eq_of_beq (by assumption:(k==_)=true)];decide) ?_)
end
theorem Znz{a b:Int}(ha:U a)(hb:U b):(MJ a b).w (λr=>U r.1/\U r.2):=by
 have u1:U 4294967295:=⟨by omega,by omega⟩
 unfold MJ
 refine aa (λ_=>⟨u1,ha⟩) (λh=>?_)
 have h:¬b=0:=by simpa using h
 obtain⟨b1,b2⟩:=hb
 have hc:decide (wrap i32 b≠0)=true:=dY (by rw[wrap_i32];omega)
 exact aa (λ_=>aa (λ_=>⟨ha,gm⟩) (λ_=>ar hc (ar hc ⟨fv _,fv _⟩))) (λ_=>ar hc (ar hc ⟨fv _,fv _⟩))
theorem zaE(b:Bool):U (Xo b):=by cases b<;>exact⟨by decide,by decide⟩
theorem Mr(op:Int){a b:Int}(ha:U a)(hb:U b):(Tl op a b).w (λr=>U r.1):=by
 unfold Tl
 repeat'(first
  |refine aa (λ_=>?_) (λ_=>?_)
  |exact cf (Znz ha hb) λx hx=>hx.1
  |exact cf (Znz ha hb) λx hx=>hx.2
  |exact ai λx hx=>(by rw[hx];exact zaE _)
  |refine aw ?_)
 all_goals(first
  |exact fv _
  |exact Bf ha _
  |exact gm)
theorem Vh(op:Int):K3 op=1\/K3 op=4:=by
 simp only[K3,Z02,Tree.m]
 cases op==32<;>cases op==35<;>simp
section
variable {c:cq} (h:je c) {i:ig} (hi:tv i)
include h hi
theorem Zxb:(FJ c i).w (λr=>je r.1/\U r.2.Value):=by
 have k:∀{x:cq} {p:Int},je x->U p->je {X:=x.X,Pc:=p,C4:=x.C4}:=λhx hp=>⟨hx.x,hp,hx.jK⟩
 unfold FJ
 refine ar (rc hi.a) (ar (rc hi.b) ?_)
 repeat'(first
  |refine aa (λ_=>?_) (λ_=>?_)
  |exact cf (EK h hi.a (fv _)) λx hx=>⟨k hx (fv _),gm⟩
  |exact ai λx _=>aa (λ_=>⟨k h (fv _),gm⟩) (λ_=>⟨k h (fv _),gm⟩)
  |exact ai λx hx=>⟨by rw[hx];exact JR h _ gm,gm⟩
  |exact ai λx hx=>⟨by rw[hx];exact vA h,gm⟩
  |exact ar (by have:=hi.jK (by simp_all);simp[bN];omega) (cf (EK h hi.a (h.a _)) λx hx=>⟨k hx (fv _),gm⟩)
  |exact cf (Zwv h _ (h.r _)) λx hx=>⟨k hx (fv _),gm⟩
  |refine ar (rc hi.c) ?_
  |exact cf (Mr _ (h.r _) (fv _)) λy hy=>cf (EK h hi.a hy) λx hx=>⟨k hx (fv _),gm⟩
  |exact cf (Mr _ (h.r _) (h.r _)) λy hy=>cf (EK h hi.a hy) λx hx=>⟨k hx (fv _),gm⟩
  |refine aw ?_)
 all_goals(first
  |exact⟨k h (fv _),gm⟩
  |exact⟨k h (fv _),h.r _⟩)
theorem Zdd(hm:dy P m):(JN c m i).w (λr=>je r.1/\dy P r.2):=by
 have w:=Vh i.Op
 unfold JN
 refine ar (rc hi.b) (ai λx0 h0=>?_)
 rw[<-h0]at w
 refine cf (Pt hm (fv _) w 2) λx1 h1=>aa (λ_=>ai λy hy=>⟨by rw[hy];exact JR h _ (fv _),h1.2⟩) (λ_=>ai λx3 h3=>?_)
 rw[h0,<-h3]at w
 exact cf (JO h1.2 h1.1 w) λx4 h4=>aa (λ_=>cf (ZF h4.1 8) λy hy=>cf (EK h hi.a hy) λx hx=>⟨⟨hx.x,fv _,hx.jK⟩,h1.2⟩) (λ_=>cf (EK h hi.a h4.1) λx hx=>⟨⟨hx.x,fv _,hx.jK⟩,h1.2⟩)
theorem Z66(hm:dy P m):(JP c m i).w (λr=>je r.1/\dy P r.2):=by
 have w:=Vh i.Op
 unfold JP
 refine ar (rc hi.b) (ai λx0 h0=>?_)
 rw[<-h0]at w
 refine cf (Pt hm (fv _) w 3) λx1 h1=>aa (λ_=>ai λy hy=>⟨by rw[hy];exact JR h _ (fv _),h1.2⟩) (λ_=>ai λx3 h3=>ar (rc hi.a) ?_)
 rw[h0,<-h3]at w
 exact cf (Vi h1.2 h1.1 w (h.r _)) λx hx=>⟨⟨h.x,fv _,h.jK⟩,hx⟩
end
theorem xaE(h:je c)(hm:dy P m):(FK c m).w (λr=>je r.1/\dy P r.2.1/\U r.2.2.Value):=by
 unfold FK
 refine cf (ZG hm h) λx0 h0=>aa (λ_=>ai λy hy=>⟨by rw[hy];exact JR h _ h.pc,h0.2,gm⟩) (λ_=>cf (ZH _) λx2 h2=>aa (λ_=>ai λy hy=>⟨by rw[hy];exact JR h _ h0.1,h0.2,gm⟩) (λhb=>?_))
 have hi:=h2 (by simpa using hb)
 refine ai λx4 _=>?_
 repeat'(first
  |refine aa (λ_=>?_) (λ_=>?_)
  |exact cf (Zdd h hi h0.2) λx hx=>⟨hx.1,hx.2,gm⟩
  |exact cf (Z66 h hi h0.2) λx hx=>⟨hx.1,hx.2,gm⟩
  |exact cf (Zxb h hi) λx hx=>⟨hx.1,h0.2,hx.2⟩
  |exact ai λy hy=>⟨by rw[hy];exact JR h _ h0.1,h0.2,gm⟩
  |refine ai λ_ _=>?_)
theorem Xp{a:Int}(h:U a)(k:Nat)(hk:k<=32):0<=bn .u32 a k/\bn .u32 a k*2^k<=a:=by
 obtain⟨h1,h2⟩:=h
 unfold bn
 have e:min (k:Int).toNat u32.bits=k:=by show min (k:Int).toNat 32=k;omega
 have hp:(0:Int)<2^k:=dI (by decide)
 rw[e,dJ _ (dK hp)]
 exact⟨Int.ediv_nonneg h1 (dK hp),Int.ediv_mul_le a (Int.ne_of_gt hp)⟩
theorem Zw(x:Int):0<=u8.wrap x/\u8.wrap x<256:=by rw[wrap_u8];omega
theorem qaF(h:U x):(EI x).w (λ_=>True):=by
 have BP:=Xp h 16 (by omega)
 have s8:=Xp h 8 (by omega)
 have u9:=Xp (Bf h 16) 8 (by omega)
 obtain⟨h1,h2⟩:=h
 unfold EI
 repeat'(first
  |refine aa (λ_=>?_) (λ_=>?_)
  |refine ar (dY ⟨?_,iG (b:=256) ?_ (iH (by kernel_rfl))⟩) ?_
  |exact trivial
  |refine aw ?_)
 all_goals(first
  |trivial
  |exact(Zw _).1
  |exact(Zw _).2
  |(simp only[decide_eq_true_eq,decide_eq_false_iff_not]at*;simp at BP s8 u9;omega))
theorem CV(a:Int):bm .u32 a 255<256:=by
 unfold bm
 rw[wrap_u32]
 have:(dR u32.bits a&&&dR u32.bits 255).toNat<=255:=by
  show(dR 32 a&&&dR 32 255).toNat<=255
  rw[dU]
  exact Nat.le_trans Nat.and_le_right (by decide)
 omega
theorem xaS(h:U x):(Tm x).w (λ_=>True):=by
 have u9:=Xp h 24 (by omega)
 obtain⟨h1,h2⟩:=h
 have i24:bn .u32 x 24<256:=by simp at u9;omega
 unfold Tm
 repeat'(first
  |refine ar (dY ⟨?_,iG (b:=256) ?_ (iH (by kernel_rfl))⟩) ?_
  |exact trivial
  |refine aw ?_)
 all_goals(first
  |trivial
  |exact(fv _).1
  |exact u9.1
  |exact i24
  |exact CV _)
structure Bd(P:Nat)(m:bj):Prop where
 oV:je m.B2
 mem:dy P m.Mem
 mV:Bc m.B6
 Ae:u7 m.D4
 target:U m.B0.A2
 given:U m.B0.D1
theorem Zw6{b:ie}(h:U b.D1):(Tn b).w (λ_=>True):=by
 unfold Tn
 exact cf (xaS h) λ_ _=>trivial
theorem zaf{m:bj}(h:U m.B0.D1):(K4 m).w (λ_=>True):=by
 have b:∀x,(JH m.B0 x).w (λ_=>True):=λx=>by
  unfold JH
  exact cf (qaF h) λ_ _=>trivial
 have d:(Hz m).w (λ_=>True):=by
  unfold Hz
  exact ai λ_ _=>ai λ_ _=>aa (λ_=>ai λ_ _=>aa (λ_=>ai λ_ _=>aa (λ_=>ai λ_ _=>aa (λ_=>cf (b _) λ_ _=>trivial) (λ_=>trivial)) (λ_=>trivial)) (λ_=>trivial)) (λ_=>trivial)
 unfold K4
 repeat'(first
  |refine aa (λ_=>?_) (λ_=>?_)
  |exact cf d λ_ _=>trivial
  |refine ai λ_ _=>?_
  |exact trivial)
theorem qZ{m:bj}(h:U m.B0.D1):(MX m).w (λ_=>True):=by
 have p:(MS m.B0).w (λ_=>True):=by
  unfold MS
  exact cf (Zw6 h) λ_ _=>trivial
 unfold MX
 refine ai λx0 _=>ai λx1 _=>ai λx2 _=>ai λx3 _=>cf p λx4 _=>ed (inv:=λz=>0<=z.2/\z.2<=5) (μ:=Qng m) ⟨by omega,by omega⟩ (cN _) (λz hz=>?_)
 obtain⟨z1,z2⟩:=hz
 have ew:z.2<5->i64.wrap (z.2+1)=z.2+1:=λ_=>by rw[wrap_i64];omega
 refine aa (λhb=>?_) (λ_=>trivial)
 have hb:=oY hb
 have nx:(0<=i64.wrap (z.2+1)/\i64.wrap (z.2+1)<=5)/\(5-i64.wrap (z.2+1)).toNat<(5-z.2).toNat:=by rw[ew hb];omega
 refine ar (by simp;omega) (aa (λ_=>ar (dY z1) (dj nx)) (λ_=>dj nx))
theorem Zh3{m:bj}(h:U m.B0.D1):(MZ m).w U:=by
 unfold MZ
 exact cf (qZ h) λ_ _=>JV _ _
theorem zaF{m:bj}(h:U m.B0.D1):(JQ m).w (λ_=>True):=by
 have i:(M1 m).w (λ_=>True):=by
  unfold M1
  exact aa (λ_=>cf (Zh3 h) λ_ _=>trivial) (λ_=>trivial)
 unfold JQ
 exact cf (zaf h) λ_ _=>aa (λ_=>aa (λ_=>cf i λ_ _=>aa (λ_=>trivial) (λ_=>trivial)) (λ_=>trivial)) (λ_=>trivial)
theorem EM(h:dy P m):oW m=P:=by
 obtain⟨h1,h2,h3,_⟩:=h
 simp only[oW,Qv3,Tree.m]
 have e:(m.length:Int)=32*P:=by omega
 rw[e]
 have e1:(cZ (32*(P:Int)) 32 !=0)=false:=by simp[iE]
 have e2:decide ((32*(P:Int))>1024)=false:=dN (by omega)
 rw[e1,e2]
 simp only[cond_false]
 rw[iF _ (by decide),wrap_i64];omega
theorem VK(h:dy P m)(hf:U f):uz m f=decide (f<P):=by
 have:=EM h
 obtain⟨h1,h2⟩:=hf
 have h3:=h.p2
 simp only[uz,PW,Tree.m,eu,this]
 congr 1
 rw[wrap_u64,wrap_u64,dH h1 (by omega),dH (by omega) (by omega)]
theorem qaT(h:dy P m):(HS m).w (λr=>r=m):=by
 obtain⟨h1,h2,h3,_⟩:=h
 unfold HS
 refine ar ?_ ?_
 ·simp[bN,D.plain];omega
 ·show _=_
  simp
theorem HF(h:dy P m){addr size v:Int}(ha:U addr)(hl:addr<4*m.length)(hv:U v):(JW m addr size v).w (dy P):=by
 obtain⟨h1,h2,h3,h4⟩:=h
 obtain⟨a1,a2⟩:=ha
 have e:wrap u32 (eN addr 4)=addr/4:=by rw[wrap_u32,eO a1];omega
 have hc:(bX 1 1&&bN 0 1&&decide (0<=wrap u32 (eN addr 4)/\wrap u32 (eN addr 4)<(m.length:Int)))=true:=by
  rw[e];simp[bN];omega
 have h0:∀x,decide (0<=wrap u32 x)=true:=λx=>dY (fv x).1
 have hs:∀i v,U v->dy P (m.set i v):=λi v hv=>⟨by simp[h1],h2,h3,EF h4 hv i⟩
 unfold JW
 exact aa (λ_=>ar hc (hs _ _ hv)) (λ_=>ar hc (ar (h0 _) (ar (h0 _) (ar hc (hs _ _ (nC _ _))))))
section
variable {c:cq} (h:je c)
include h
theorem K5(k:Int)(hb:U b):je (rH c k b):=by
 refine(Tree.post (PI c k b) (W:=je) ?_)
 unfold PI
 refine ai λ_ _=>ai λ_ _=>⟨h.x,h.a1,?_⟩
 intro w hw
 simp only[A8.l,cQ,cR,or_false]at hw
 rcases hw with rfl|rfl|rfl|rfl|rfl|rfl|rfl|rfl
 ·exact nC _ _
 ·exact h.a1
 ·exact h.pc
 ·exact fv _
 ·exact hb
 ·exact h.a5
 ·exact h.a6
 ·exact h.a7
theorem xZ:je (Vu c):=by
 refine(Tree.post (PK c) (W:=je) ?_)
 unfold PK
 refine ai λ_ _=>ai λ_ _=>⟨h.x,h.a2,?_⟩
 intro w hw
 simp only[A8.l,cQ,cR,or_false]at hw
 rcases hw with rfl|rfl|rfl|rfl|rfl|rfl|rfl|rfl
 ·exact nC _ _
 ·exact h.a1
 ·exact h.a2
 ·exact h.a3
 ·exact h.a4
 ·exact h.a5
 ·exact h.a6
 ·exact h.a7
theorem FC(r:Int)(hv:U v):(J0 c r v).w je:=by
 unfold J0
 refine aa (λh1=>aa (λh2=>ar ?_ ⟨ZK h.x hv _,h.pc,h.jK⟩) (λ_=>h)) (λ_=>h)
 have h1:=oY h1
 have h2:=oY h2
 simp[bN];omega
theorem xaF(k:Int)(hv:U v):(MN c k v).w je:=by
 have ok:∀i v,U v->je {X:=c.X,Pc:=c.Pc,C4:=A8.of 0 (dB (A8.l c.C4) i v)}:=λi v hv=>⟨h.x,h.pc,Zno h.jK hv i⟩
 unfold MN
 repeat'(first
  |exact h
  |exact ok _ _ (fv _)
  |exact ok _ _ hv
  |refine aa (λhk=>?_) (λ_=>?_)
  |refine ar (by rw[eq_of_beq (by assumption:(k==_)=true)];decide) ?_)
end
section
variable {P:Nat} {m:List Int} (h:dy P m)
include h
theorem Zms(a:Int)(hs:size=1\/size=4):(JX m a size).w (λb=>b=true->a<128*P):=by
 have hp:=EM h
 have h2:=h.p2
 have e:decide (wrap u32 size≠0)=true:=by rcases hs with rfl|rfl<;>decide
 have l:∀x,x=oW m->decide (a<wrap u32 (wrap i64 (128*x)))=true->a<128*P:=λx hx hd=>by
  rw[hx,hp,wrap_u32,wrap_i64]at hd
  have:=oY hd
  omega
 unfold JX
 refine aa (λ_=>aa (λ_=>λh=>by cases h) (λ_=>?_)) (λ_=>?_)<;>
 exact ar e (aa (λ_=>ai λx hx=>l x hx) (λ_=>λh=>by cases h))
theorem idx{a:Int}(ha:U a)(hl:a<128*P):(bX 1 1&&bN 0 1&&decide (0<=wrap u32 (eN a 4)/\wrap u32 (eN a 4)<(m.length:Int)))=true:=by
 obtain⟨a1,a2⟩:=ha
 have e:wrap u32 (eN a 4)=a/4:=by rw[wrap_u32,eO a1];omega
 have:=h.len
 rw[e];simp[bN];omega
theorem PU{a:Int}(ha:U a)(hs:size=1\/size=4):(EP m a size).w (λr=>U r.1):=by
 obtain⟨g1,g2⟩:=Tree.pp (Zms h a hs)
 unfold EP
 refine bz g1 (ai λx hx=>aa (λ_=>gm) (λhb=>?_))
 have hb:x=true:=by simpa using hb
 have hl:=g2 (hx.symm.trans hb)
 refine ar (idx h ha hl) (aa (λ_=>ar (dY (fv _).1) (fv _)) (λ_=>Bg h.u _))
theorem zaT{a:Int}(ha:U a)(access:Int):(MG m a access).w (dy P):=by
 obtain⟨g1,g2⟩:=Tree.pp (Zms h a (size:=4) (.inr rfl))
 have hs:∀{m:List Int} i v,dy P m->U v->dy P (m.set i v):=λi v h hv=>⟨by simp[h.len],h.p1,h.p2,EF h.u hv i⟩
 unfold MG
 refine bz g1 (ai λx hx=>aa (λ_=>h) (λhb=>?_))
 have hb:x=true:=by simpa using hb
 have hl:=g2 (hx.symm.trans hb)
 have i0:=idx h ha hl
 have h':=hs (Int.toNat (wrap u32 (eN a 4))) (ja u32 (m.getD (Int.toNat (wrap u32 (eN a 4))) 0) 8) h (nC _ _)
 have i1:=idx h' ha hl
 exact ar i0 (ar i0 (aa (λ_=>ar i1 (ar i1 (hs _ _ h' (nC _ _)))) (λ_=>h')))
theorem xaf(hr:U root)(hv:U va)(access:Int):(HJ m root va access).w (λt=>U t.Addr/\U t.G1/\(t.G0=0->t.Addr<128*P)):=by
 have hp:=EM h
 have h2:=h.p2
 have hlen:=h.len
 obtain⟨r1,r2⟩:=hr
 obtain⟨v1,v2⟩:=hv
 unfold HJ
 refine ai λx0 nT=>ai λx1 pP=>ai λx2 _=>?_
 have hc:x0≠0:=by
  rw[nT]
  simp only[Dc,MM,Tree.m]
  cases access==1<;>cases access==3<;>simp
 rw[hp]at pP
 have bad:U (0:Int)/\U (0:Int)/\(x0=0->(0:Int)<128*P):=⟨gm,gm,λe=>absurd e hc⟩
 refine aa (λ_=>bad) (λ_=>aa (λ_=>bad) (λES=>aa (λ_=>bad) (λED=>?_)))
 have ES:=oN ES
 have ED:=oN ED
 have e1:wrap u32 x1=P:=by rw[pP,wrap_u32];omega
 rw[e1]at ED
 have e2:wrap u32 (wrap u32 (root*128)+wrap u32 (4*wrap u32 (eN va 128)))=root*128+4*(va/128):=by
  rw[eO v1,wrap_u32,wrap_u32,wrap_u32,wrap_u32];omega
 have hU:U (wrap u32 (wrap u32 (root*128)+wrap u32 (4*wrap u32 (eN va 128)))):=fv _
 have ci:=idx h hU (by rw[e2];omega)
 have gy:∀w:Int,decide (bm u32 w 255>=wrap u32 x1)=false->(U (wrap u32 (wrap u32 (bm u32 w 255*128)+cZ va 128))/\U (wrap u32 (wrap u32 (root*128)+wrap u32 (4*wrap u32 (eN va 128))))/\((0:Int)=0->wrap u32 (wrap u32 (bm u32 w 255*128)+cZ va 128)<128*P)):=λw hw=>by
  have hw:=oN hw
  rw[e1]at hw
  have hn:=(JV w 255).1
  refine⟨fv _,fv _,λ_=>?_⟩
  rw[Int.tmod_eq_emod_of_nonneg v1,wrap_u32,wrap_u32]
  generalize bm u32 w 255=q at*
  omega
 refine ar ci ?_
 repeat'(first
  |exact bad
  |exact gy _ (by assumption)
  |refine aa (λ_=>?_) (λ_=>?_)
  |refine ar ci ?_)
theorem Vy(hc:je c)(hv:U va)(hs:size=1\/size=4)(access:Int):(J1 c m va size access).w (λr=>dy P r.2.2/\U r.1/\(r.2.1=0->r.1<128*P)):=by
 have e:decide (wrap u32 size≠0)=true:=by rcases hs with rfl|rfl<;>decide
 obtain⟨g1,g2⟩:=Tree.pp (Zms h va hs)
 obtain⟨k1,k2⟩:=Tree.pp (xaf h hc.a6 hv access)
 have bad:∀k:Int,k≠0->dy P m/\U (0:Int)/\(k=0->(0:Int)<128*P):=λk hk=>⟨h,gm,λe=>absurd e hk⟩
 have hca:Dc access≠0:=by
  simp only[Dc,MM,Tree.m]
  cases access==1<;>cases access==3<;>simp
 unfold J1
 refine ai λx0 _=>aa (λ_=>bad 5 (by decide)) (λ_=>aa (λh1=>aa (λh2=>?_) (λ_=>?_)) (λ_=>?_))
 ·exact bad 5 (by decide)
 all_goals(
  refine ar e (aa (λ_=>bad 3 (by decide)) (λ_=>ai λx1 _=>aa (λ_=>bz g1 (ai λx2 JS=>aa (λ_=>ai λx3 hx3=>bad x3 (by rw[hx3];exact hca)) (λhb=>?_))) (λ_=>bz k1 (ai λx4 hx4=>aa (λhb=>?_) (λhb=>?_)))))
  ·have hb:x2=true:=by simpa using hb
   exact⟨h,hv,λ_=>g2 (JS.symm.trans hb)⟩
  ·exact bad _ (by simpa using hb)
  ·obtain⟨t1,t2,t3⟩:=k2
   rw[show(HJ m c.C4.a6 va access).m=x4 from hx4.symm]at t1 t2 t3
   obtain⟨m1,m2⟩:=Tree.pp (zaT h t2 access)
   refine bz m1 (ai λx5 hx5=>?_)
   exact⟨hx5▸m2,t1,λ_=>t3 (by simpa using hb)⟩)
end
theorem qB{r:Int}(h:Mx r=true):0<=r/\r<16:=by
 simp only[Mx,Vm,Tree.m]at h
 cases h1:decide (r>=0)<;>rw[h1]at h
 ·cases h
 ·have h1:=oY h1
  have h:=oY h
  omega
theorem zZ(hi:wrap .i64 i.cv=i.cv)(h:FN i=true):tv i:=by
 have no:false=true->tv i:=λh=>by cases h
 refine(Tree.post (Py i) (W:=λb=>b=true->tv i) ?_) h
 unfold Py
 refine ai λx0 h0=>aa (λ_=>no) (λ_=>ai λx1 h1=>aa (λ_=>no) (λb1=>ai λx2 h2=>aa (λ_=>no) (λb2=>ai λx3 h3=>aa (λ_=>no) (λb3=>ai λx4 h4=>aa (λ_=>no) (λb4=>aa (λ_=>no) (λb5=>?_))))))
 have b1:x1=true:=by simpa using b1
 have b2:x2=true:=by simpa using b2
 have b3:x3=true:=by simpa using b3
 have b4:=oN b4
 have b5:=oN b5
 rw[hi]at b4 b5
 have ok:tv i:=⟨qB (h1.symm.trans b1),qB (h2.symm.trans b2),qB (h3.symm.trans b3),λe=>by
  rw[e]at h0
  have h0:x0=8:=h0
  subst h0
  have h4:x4=(0,7):=h4
  subst h4
  simp at b4 b5;omega⟩
 repeat'(first
  |exactλ_=>ok
  |exact no
  |refine aa (λ_=>?_) (λ_=>?_))
theorem Zwd(w:Int):(Mz w).w (λr=>r.2=true->tv r.1):=by
 have no:∀{p:Prop},false=true->p:=λh=>by cases h
 have e:∀x,wrap .i64 (wrap .i32 x)=wrap .i32 x:=λx=>by rw[wrap_i64,wrap_i32];omega
 have ok:∀i,wrap .i64 i.cv=i.cv->∀x,x=FN i->(!x)=false->true=true->tv i:=λi hi x hx hb _=>zZ hi (hx.symm.trans (by simpa using hb))
 unfold Mz
 refine ai λx0 _=>?_
 have l:∀i,wrap .i64 i.cv=i.cv->(Tree.lv (FN i) λx=>.br (!x) (.lf ((⟨0,0,0,0,0⟩:ig),false)) (.lf (i,true))).w (λr=>r.2=true->tv r.1):=λi hi=>ai λx hx=>aa (λ_=>no) (λhb=>ok i hi x hx hb)
 refine aa (λ_=>no) (λ_=>aa (λ_=>l _ rfl) (λ_=>aa (λ_=>l _ (e _)) (λ_=>aa (λ_=>l _ (e _)) (λ_=>l _ (e _)))))
theorem To(b:Bool):U (De b):=by cases b<;>exact⟨by decide,by decide⟩
theorem Zwl{a b:Int}(ha:U a)(hb:U b):(MK a b).w (λr=>U r.1/\U r.2):=by
 unfold MK
 refine aa (λ_=>⟨⟨by omega,by omega⟩,ha⟩) (λh=>?_)
 have h:¬b=0:=by simpa using h
 obtain⟨b1,b2⟩:=hb
 have hc:decide (wrap i64 (wrap i32 b)≠0)=true:=dY (by rw[wrap_i64,wrap_i32];omega)
 exact ar hc (ar hc ⟨fv _,fv _⟩)
theorem IP(op:Int){a b:Int}(ha:U a)(hb:U b):(Tp op a b).w (λr=>U r.1):=by
 unfold Tp
 refine ai λx0 _=>?_
 repeat'(first
  |exact fv _
  |exact Bf ha _
  |exact gm
  |refine aa (λ_=>?_) (λ_=>?_)
  |exact cf (Zwl ha hb) λx hx=>hx.1
  |exact cf (Zwl ha hb) λx hx=>hx.2
  |exact ai λx hx=>(by rw[hx];exact To _))
theorem xB(hx:U x):(Tq x 8).w U:=by
 unfold Tq
 have h0:decide (0<=wrap u64 8)=true:=by decide
 refine aa (λh=>absurd h (by decide)) λ_=>aa (λh=>absurd h (by decide)) λ_=>ar h0 (ar (by decide) (aa (λ_=>ar h0 (nC _ _)) (λ_=>JV _ _)))
section
variable {c:cq} (h:je c) {i:ig} (hi:tv i)
include h hi
theorem yZ:(Ts c i).w (λr=>je r.1/\U r.2.Value):=by
 unfold Ts
 refine aa (λ_=>ai λx hx=>⟨hx▸K5 h _ gm,gm⟩) (λ_=>aa (λ_=>ai λx hx=>⟨hx▸xZ h,gm⟩) (λ_=>aa (λe=>ar ?_ (cf (FC h _ (h.a _)) λx hx=>⟨hx.BA (fv _),gm⟩)) (λ_=>aa (λ_=>ar (rc hi.a) (cf (xaF h _ (h.r _)) λx hx=>⟨hx.BA (fv _),gm⟩)) (λ_=>?_))))
 ·have:=hi.jK (by simpa using e)
  simp[bN];omega
 ·have k:=h.BA (fv (c.Pc+4))
  repeat'(first
   |exact⟨k,gm⟩
   |exact⟨k,h.r _⟩
   |refine aa (λ_=>?_) (λ_=>?_)
   |refine ar (rc hi.a) ?_)
theorem xaT:(Tt c i).w je:=by
 unfold Tt
 exact aa (λ_=>cf (FC h _ (fv _)) λx hx=>hx.BA (fv _)) (λ_=>aa (λ_=>ar (rc hi.b) (cf (FC h _ (fv _)) λx hx=>hx.BA (fv _))) (λ_=>ar (rc hi.a) (ar (rc hi.b) (ai λx _=>aa (λ_=>h.BA (fv _)) (λ_=>h.BA (fv _))))))
theorem Zx4(hm:dy P m):(Tu c m i).w (λr=>je r.1/\dy P r.2):=by
  unfold Tu
  refine ar (rc hi.b) ?_
  have e1:(1:Int)=1\/(1:Int)=4:= .inl rfl
  have e4:(4:Int)=1\/(4:Int)=4:= .inr rfl
  repeat'(first
    |refine aa (λ_=> ?_) (λ_=> ?_)
    | (refine cf (Vy hm h (fv _) e4 _) λx hx=> ?_
       obtain⟨m1,m2,m3⟩:=hx
       refine aa (λ_=>ai λy hy=>⟨hy▸K5 h _ (fv _),m1⟩) (λhb=> ?_)
       have m3:=m3 (by simpa using hb)
       have m4:x.1<4*x.2.2.length:=by rw[m1.len];omega
       clear hb)
    | (refine cf (Vy hm h (fv _) e1 _) λx hx=> ?_
       obtain⟨m1,m2,m3⟩:=hx
       refine aa (λ_=>ai λy hy=>⟨hy▸K5 h _ (fv _),m1⟩) (λhb=> ?_)
       have m3:=m3 (by simpa using hb)
       have m4:x.1<4*x.2.2.length:=by rw[m1.len];omega
       clear hb)
    |exact ar (rc hi.a) (cf (HF (by assumption) (by assumption) (by assumption) (h.r _)) λy hy=>⟨h.BA (fv _),hy⟩)
    |(refine cf (PU (by assumption) (by assumption) e4) λy hy=> ?_)
    |(refine cf (PU (by assumption) (by assumption) e1) λy hy=> ?_)
    |exact cf (xB (by assumption)) λz hz=>cf (FC h _ hz) λu hu=>⟨hu.BA (fv _),by assumption⟩
    |exact cf (FC h _ (by assumption)) λu hu=>⟨hu.BA (fv _),by assumption⟩)
end
theorem OU(h:je c)(hm:dy P m):(Tv c m).w (λr=>je r.1/\U r.2.1.Value/\dy P r.2.2):=by
 unfold Tv
 refine cf (Vy hm h h.pc (.inr rfl) 1) λx0 hx=>?_
 obtain⟨m1,m2,m3⟩:=hx
 refine aa (λ_=>ai λy hy=>⟨hy▸K5 h _ h.pc,gm,m1⟩) (λhb=>?_)
 refine cf (PU m1 m2 (.inr rfl)) λx2 h2=>U7 (Zwd _) λx3 h3=>aa (λ_=>ai λy hy=>⟨hy▸K5 h _ h2,gm,m1⟩) (λb3=>?_)
 have hi:=h3 (by simpa using b3)
 refine ai λx5 _=>?_
 repeat'(first
  |refine aa (λ_=>?_) (λ_=>?_)
  |exact ai λy hy=>⟨hy▸K5 h _ h2,gm,m1⟩
  |exact cf (yZ h hi) λy hy=>⟨hy.1,hy.2,m1⟩
  |exact cf (xaT h hi) λy hy=>⟨hy,gm,m1⟩
  |exact cf (Zx4 h hi m1) λy hy=>⟨hy.1,gm,hy.2⟩
  |exact cf (FC h _ (fv _)) λy hy=>⟨hy.BA (fv _),gm,m1⟩
  |refine ar (rc hi.c) ?_
  |refine ar (rc hi.b) ?_
  |exact cf (IP _ (h.r _) (h.r _)) λy hy=>cf (FC h _ hy) λz hz=>⟨hz.BA (fv _),gm,m1⟩
  |exact cf (IP _ (h.r _) (fv _)) λy hy=>cf (FC h _ hy) λz hz=>⟨hz.BA (fv _),gm,m1⟩)
theorem FP{q:Int}(h:U q):bm .u32 q 1=q%2:=by
 obtain⟨h1,h2⟩:=h
 unfold bm
 rw[wrap_u32]
 have e1:(dR 32 q).toNat=q.toNat:=by rw[BitVec.toNat_ofInt];omega
 have e2:(dR 32 1).toNat=1:=by decide
 have:(dR u32.bits q&&&dR u32.bits 1).toNat=q.toNat%2:=by
  show(dR 32 q&&&dR 32 1).toNat=_
  rw[dU,e1,e2,Nat.and_one_is_mod]
 rw[this];omega
theorem Tw(b:Bool)(n:Int):(Tx b n).w (λ_=>True):=by
 unfold Tx
 exact aa (λ_=>ar (dY (by rw[wrap_u64];omega)) trivial) (λ_=>trivial)
theorem qaG(m:bj):(Ty m).w (λ_=>True):=by
 unfold Ty
 exact ai λ_ _=>cf (Tw _ _) λ_ _=>ai λ_ _=>cf (Tw _ _) λ_ _=>ai λ_ _=>cf (Tw _ _) λ_ _=>ai λ_ _=>cf (Tw _ _) λ_ _=>ai λ_ _=>cf (Tw _ _) λ_ _=>trivial
theorem Znu(m:bj):(M0 m).w U:=by
 unfold M0
 exact cf (qaG m) λ_ _=>JV _ _
theorem qag(m:bj):(M3 m).w (λ_=>True):=by
 unfold M3
 exact aa (λ_=>cf (Znu m) λ_ _=>trivial) (λ_=>trivial)
theorem zaG(m:bj):(J6 m).w (λ_=>True):=by
 unfold J6
 exact ai λ_ _=>aa (λ_=>trivial) (λ_=>aa (λ_=>trivial) (λ_=>cf (qag m) λ_ _=>aa (λ_=>trivial) (λ_=>trivial)))
theorem Z0s{m:bj}(h:je m.B2):(M4 m).w je:=by
 unfold M4
 refine cf (Znu m) λx0 hx=>aa (λ_=>h) (λ_=>aa (λ_=>h) (λhb=>?_))
 have hb:x0≠0:=by simpa using hb
 have sh:∀z:Int,0<=z->z<=31->bn .u32 x0 (wrap .u64 z)=x0/2^z.toNat:=λz h1 h2=>by
  unfold bn
  have e:min (wrap .u64 z).toNat u32.bits=z.toNat:=by
   show min (wrap .u64 z).toNat 32=z.toNat
   rw[wrap_u64];omega
  rw[e,dJ _ (dK (dI (by decide)))]
 refine ed (inv:=λz=>0<=z/\z<=31/\x0/2^z.toNat≠0) (μ:=Qgt m) ⟨by omega,by omega,by simpa using hb⟩ (cN _) (λz hz=>?_)
 obtain⟨z1,z2,z3⟩:=hz
 refine ar (dY (by rw[wrap_u64];omega)) (aa (λe=>dj ?_) (λ_=>ai λy hy=>hy▸K5 h _ gm))
 have e:=eq_of_beq e
 have hq:=Bf hx (wrap .u64 z)
 rw[FP hq,sh z z1 z2]at e
 rw[sh z z1 z2]at hq
 have bc:x0/2^z.toNat/2≠0:=by omega
 have z4:z<=30:=by
  rcases Int.lt_or_le z 31 with h|h
  ·omega
  ·have:z=31:=by omega
   subst this
   have:=hx.2
   have:=hx.1
   simp at z3 e bc
   omega
 show(0<=i64.wrap (z+1)/\i64.wrap (z+1)<=31/\x0/2^(i64.wrap (z+1)).toNat≠0)/\(32-i64.wrap (z+1)).toNat<(32-z).toNat
 have ew:i64.wrap (z+1)=z+1:=by rw[wrap_i64];omega
 rw[ew]
 refine⟨⟨by omega,by omega,?_⟩,by omega⟩
 have et:(z+1).toNat=z.toNat+1:=by omega
 rw[et,Int.pow_succ,<-Int.ediv_ediv_of_nonneg (dK (dI (by decide)))]
 exact bc
theorem xaG{m:bj}(h:je m.B2)(hm:dy P m.Mem):(Tz m).w (λ_=>True):=by
 unfold Tz
 refine cf (Z0s h) λx0 hx=>aa (λ_=>trivial) (λ_=>cf (PU hm hx.pc (.inr rfl)) λx1 _=>ai λx2 _=>?_)
 exact aa (λ_=>aa (λ_=>aa (λ_=>trivial) (λ_=>trivial)) (λ_=>trivial)) (λ_=>trivial)
theorem Pe(l:List Int):(bytesOf l).length=l.length:=by simp[bytesOf]
theorem Vq(l:List UInt8):(pQ l).length=l.length:=by simp[pQ]
theorem TA(x:Int):(NX x 4).w (λr=>r.length=4):=by
 unfold NX
 refine ed (inv:=λz=>0<=z.1/\z.1<=4/\(z.2.length:Int)=z.1) (μ:=Xq x 4) ⟨by omega,by omega,rfl⟩ (cN _) (λz hz=>?_)
 obtain⟨z1,z2,z3⟩:=hz
 refine aa (λh=>ar (dY (by rw[wrap_u64];omega)) (ar (dY (by omega)) (dj ?_))) (λh=>?_)
 ·have h:=oY h
  show(0<=i64.wrap (z.1+1)/\i64.wrap (z.1+1)<=4/\((z.2++[_]).length:Int)=i64.wrap (z.1+1))/\(4-i64.wrap (z.1+1)).toNat<(4-z.1).toNat
  have ew:i64.wrap (z.1+1)=z.1+1:=by rw[wrap_i64];omega
  rw[ew]
  refine⟨⟨by omega,by omega,by simp;omega⟩,by omega⟩
 ·have h:=oN h
  show(bytesOf z.2).length=4
  rw[Pe];omega
theorem zag(hm:dy P m)(frame:Int):(HI m frame).w (λr=>0<=frame->frame<P->r.1.length=128):=by
 have hp:=EM hm
 have hl:=hm.len
 have h2:=hm.p2
 unfold HI
 refine aa (λh=>λh0 _=>by have:=oY h;omega) (λh=>ai λx0 hx=>aa (λh1=>λ_ h2=>by have:=oY h1;rw[hx,hp]at this;omega) (λh1=>?_))
 have h:=oN h
 have h1:=oN h1
 rw[hx,hp]at h1
 refine ed (inv:=λz=>0<=z.1/\z.1<=32/\(z.2.length:Int)=4*z.1) (μ:=ZZ m frame) ⟨by omega,by omega,rfl⟩ (cN _) (λz hz=>?_)
 obtain⟨z1,z2,z3⟩:=hz
 refine aa (λhb=>?_) (λhb=>?_)
 ·have hb:=oY hb
  have e:wrap i64 (wrap i64 (frame*32)+z.1)=frame*32+z.1:=by rw[wrap_i64,wrap_i64];omega
  refine ar (by rw[e];simp[bN];omega) (bz (show(4:Int)<=1000000000000 by decide) (U7 (TA _) λx1 h4=>ar (dY (by rw[Vq,h4];omega)) (dj ?_)))
  show(0<=i64.wrap (z.1+1)/\i64.wrap (z.1+1)<=32/\((z.2++pQ x1).length:Int)=4*i64.wrap (z.1+1))/\(32-i64.wrap (z.1+1)).toNat<(32-z.1).toNat
  have ew:i64.wrap (z.1+1)=z.1+1:=by rw[wrap_i64];omega
  rw[ew,lA,Vq,h4]
  exact⟨⟨by omega,by omega,by omega⟩,by omega⟩
 ·have hb:=oN hb
  intro _ _
  show(bytesOf z.2).length=128
  rw[Pe];omega
theorem zB(hm:dy P m)(hd:Bc d)(port:Int)(hv:U v)(fw:Int):(MR d m port v fw).w (λr=>Bc r.1/\r.2.length<=1):=by
 have k:∀st,Bc {ab:=d.ab,C8:=d.C8,Frame:=d.Frame,C9:=st,F5:=d.F5,C5:=d.C5,C6:=d.C6,C7:=d.C7}:=λst=>⟨hd.block,hd.frame,hd.kN,hd.kO⟩
 have k2:∀c o,Bc {ab:=d.ab,C8:=d.C8,Frame:=d.Frame,C9:=1,F5:=c,C5:=d.C8,C6:=d.Frame,C7:=o}:=λc o=>⟨hd.block,hd.frame,hd.block,hd.frame⟩
 have k3:Bc {ab:=d.ab,C8:=v,Frame:=d.Frame,C9:=d.C9,F5:=d.F5,C5:=d.C5,C6:=d.C6,C7:=d.C7}:=⟨hv,hd.frame,hd.kN,hd.kO⟩
 have k4:Bc {ab:=d.ab,C8:=d.C8,Frame:=v,C9:=d.C9,F5:=d.F5,C5:=d.C5,C6:=d.C6,C7:=d.C7}:=⟨hd.block,hv,hd.kN,hd.kO⟩
 unfold MR
 repeat'(first
  |refine aa (λ_=>?_) (λ_=>?_)
  |exact cf (zag hm _) λ_ _=>ai λ_ _=>⟨k2 _ _,aX _⟩
  |refine ai (λ_ _=>?_)
  |refine aw ?_)
 all_goals(first
  |exact⟨hd,bC _⟩
  |exact⟨k _,bC _⟩
  |exact⟨k2 _ _,aX _⟩
  |exact⟨k3,bC _⟩
  |exact⟨k4,bC _⟩)
theorem vZ(hm:dy P m)(hn:u7 n)(port:Int)(hv:U v)(fw:Int):(Qc n m port v fw).w (λr=>u7 r.1/\r.2.length<=1):=by
 have k1:u7 {Frame:=v,F7:=n.F7,D2:=n.D2,D5:=n.D5,C3:=n.C3,F8:=n.F8}:=⟨hv,hn.len,hn.buffer,hn.HB⟩
 have k2:u7 {Frame:=n.Frame,F7:=v,D2:=n.D2,D5:=n.D5,C3:=n.C3,F8:=n.F8}:=⟨hn.frame,hv,hn.buffer,hn.HB⟩
 have k3:u7 {Frame:=n.Frame,F7:=n.F7,D2:=n.D2,D5:=n.D5,C3:=false,F8:=0}:=⟨hn.frame,hn.len,hn.buffer,gm⟩
 have k4:∀p r,u7 {Frame:=n.Frame,F7:=n.F7,D2:=p,D5:=n.Frame,C3:=r,F8:=n.F8}:=λp r=>⟨hn.frame,hn.len,hn.frame,hn.HB⟩
 have send:∀K:List UInt8×Bool->Tree (iq×List ir),uz m n.Frame=true->(∀x:List UInt8×Bool,x.1.length=128->(K x).w (λr=>u7 r.1/\r.2.length<=1))->(Tree.an (TB m (wrap .i64 n.Frame)) (.lv (EO m (wrap .i64 n.Frame)) K)).w (λr=>u7 r.1/\r.2.length<=1):=λK hp hK=>by
  rw[VK hm hn.frame]at hp
  have hp:=oY hp
  obtain⟨f1,f2⟩:=hn.frame
  have ew:i64.wrap n.Frame=n.Frame:=by rw[wrap_i64];omega
  exact cf (zag hm _) λx hx=>hK x (hx (by rw[ew];exact f1) (by rw[ew];exact hp))
 unfold Qc
 repeat'(first
  |refine aa (λ_=>?_) (λ_=>?_)
  |refine send _ (by simp_all) (λx hx=>ar (by simp_all;exact hn.len.1) ?_)
  |refine ai (λ_ _=>?_)
  |refine aw ?_)
 all_goals(first
  |exact⟨hn,bC _⟩
  |exact⟨hn,aX _⟩
  |exact⟨k1,bC _⟩
  |exact⟨k2,bC _⟩
  |exact⟨k3,bC _⟩
  |exact⟨k4 _ _,bC _⟩)
def okB(b:ie):Prop:=U b.A2/\U b.D1
theorem qaU(hm:dy P m){b:ie}(hb:okB b)(port:Int)(hv:U v):(BT b m port v).w (λr=>okB r.1/\dy P r.2):=by
 have BK:decide (0<=v)=true:=dY hv.1
 have h2:=hm.p2
 have rest:(Tree.br (port==11) (.br (decide (v<32)) (.cn (decide (0<=v)) (.lf (({A2:=b.A2,D1:=oA .u32 b.D1 (ei .u32 1 v)}:ie),m))) (.lf (b,m))) (.lf (b,m))).w (λr=>okB r.1/\dy P r.2):=
  aa (λ_=>aa (λ_=>ar BK ⟨⟨hb.1,fv _⟩,hm⟩) (λ_=>⟨hb,hm⟩)) (λ_=>⟨hb,hm⟩)
 unfold BT
 refine aa (λ_=>ai λx0 hx=>aa (λhp=>ar BK (aa (λ_=>ar BK ?_) (λ_=>rest))) (λ_=>rest)) (λ_=>rest)
 have hp:uz m v=true:=hx.symm.trans hp
 rw[VK hm hv]at hp
 have hp:=oY hp
 obtain⟨v1,v2⟩:=hv
 refine ed (inv:=λz=>0<=z.1/\z.1<=32/\dy P z.2) (μ:=Qne b m port v) ⟨by omega,by omega,hm⟩ (cN _) (λz hz=>?_)
 obtain⟨z1,z2,z3⟩:=hz
 have hl:=z3.len
 refine aa (λh=>?_) (λ_=>⟨⟨hb.1,fv _⟩,z3⟩)
 have h:=oY h
 have e:wrap i64 (wrap i64 (wrap i64 v*32)+z.1)=v*32+z.1:=by rw[wrap_i64,wrap_i64,wrap_i64];omega
 refine ar (by rw[e];simp[bN];omega) (dj ?_)
 show(0<=i64.wrap (z.1+1)/\i64.wrap (z.1+1)<=32/\dy P (dB _ _ _))/\(32-i64.wrap (z.1+1)).toNat<(32-z.1).toNat
 have ew:i64.wrap (z.1+1)=z.1+1:=by rw[wrap_i64];omega
 rw[ew]
 exact⟨⟨by omega,by omega,⟨by simp[hl],z3.p1,z3.p2,EF z3.u gm _⟩⟩,by omega⟩
structure sw(P:Nat)(m:bj):Prop where
 oV:je m.B2
 mem:dy P m.Mem
 mV:Bc m.B6
 Ae:u7 m.D4
 target:okB m.B0
 uu:0<=m.B9
theorem Zuj(c:jn)(port:Int):U (MQ c port).2:=by
 refine Tree.post (HM c port) (W:=λr=>U r.2) ?_
 have u1:U 4294967295:=⟨by omega,by omega⟩
 unfold HM
 refine aa (λ_=>aa (λ_=>u1) (λh=>aa (λ_=>ar ?_ (ar ?_ (fv _))) (λ_=>aa (λ_=>fv _) (λ_=>gm)))) (λh1=>aa (λh=>(by rw[h1]at h;cases h)) (λ_=>aa (λ_=>fv _) (λ_=>gm)))
 ·have h:¬(c.D9.length:Int)=0:=by simpa using h
  exact dY ⟨by omega,by omega,by omega⟩
 ·have h:¬(c.D9.length:Int)=0:=by simpa using h
  simp[bN];omega
theorem qaH(h:u7 n)(port:Int):U (VB n port):=by
 refine Tree.post (PV n port) (W:=U) ?_
 have u1:U 1:=⟨by omega,by omega⟩
 unfold PV
 exact aa (λ_=>h.frame) (λ_=>aa (λ_=>h.HB) (λ_=>aa (λ_=>aa (λ_=>aa (λ_=>fv _) (λ_=>u1)) (λ_=>aa (λ_=>fv _) (λ_=>gm))) (λ_=>gm)))
theorem y0(h:Bc d)(port:Int):U (Qsc d port):=by
 refine Tree.post (Xr d port) (W:=U) ?_
 unfold Xr
 exact aa (λ_=>h.block) (λ_=>aa (λ_=>h.frame) (λ_=>aa (λ_=>fv _) (λ_=>gm)))
theorem yB(t:jx):U (Qot t):=by
 refine Tree.post (Xs t) (W:=U) ?_
 unfold Xs
 exact aa (λ_=>⟨by omega,by omega⟩) (λ_=>gm)
theorem Zrw{b:ie}(h:U b.A2)(port:Int):U (MT b port):=by
 refine Tree.post (MU b port) (W:=U) ?_
 unfold MU
 exact aa (λ_=>h) (λ_=>aa (λ_=>ai λ_ _=>fv _) (λ_=>gm))
theorem w0(x:Int):0<=u64.wrap x:=by rw[wrap_u64];omega
section
end
section

import Derived.Test.YthjfindbamdacaaGreatDoorAuditAcceptsZx
open List renaming set->dG,mem_cons->cS,not_mem_nil->cU
open Nat renaming blt->bJ,beq->bT,lt_succ_self->cO,le_refl->aO,zero_le->aT
open Int renaming pow_pos->dO,le_of_lt->dQ,fdiv_eq_ediv_of_nonneg->dP,tmod->dE,mul_tmod_right->gZ,mul_tdiv_cancel_left->hH,tdiv->eU,tdiv_eq_ediv_of_nonneg->eV,emod_eq_of_lt->dM,lt_of_lt_of_le->hJ,le_of_eq->hY
open BitVec renaming ofInt->dW,toNat_and->eA
set_option maxRecDepth 100000
set_option linter.all false
namespace Go.Proofs.YthjfindbamdacaaGreatDoor
open Go Go.GD
open Go.IntKind(wrap i64 u32 u64 u8 i32 wrap_i64 wrap_u32 wrap_u64 wrap_u8 wrap_i32)
variable {P:Nat}{b clock f root size v va x:Int}{c:bm}{d:fv}{e:ib}{i:gw}{m:List Int}{n:ik}
def U(x:Int):Prop:=0<=x/\x<4294967296
theorem fm(x:Int):U (u32.wrap x):=by rw[wrap_u32];unfold U;omega
theorem Jo(x y:Int):U (bd .u32 x y):=fm _
theorem nm(x y:Int):U (ij .u32 x y):=fm _
theorem ey:U 0:=⟨by omega,by omega⟩
theorem Ek(h:∀w∈m,U w)(hv:U v)(i:Nat):∀w∈m.set i v,U w:=by
 intro w hw
 rcases List.mem_or_eq_of_mem_set hw with h1|h1
 ·exact h w h1
 ·rw[h1];exact hv
structure fg(P:Nat)(m:List Int):Prop where
 len:m.length=32*P
 p1:0<=P
 p2:P<=32
 u:∀w∈m,U w
structure oG(d:fv):Prop where
 block:U d.C2
 frame:U d.Frame
 kE:U d.B6
 ie:U d.B2
structure pB(n:ik):Prop where
 frame:U n.Frame
 len:U n.D9
 buffer:U n.B9
 G3:U n.F0
theorem AV{l:List Int}(h:∀w∈l,U w)(i:Nat):U (l.getD i 0):=by
 by_cases hi:i<l.length
 ·have:l.getD i 0=l[i]:=by simp[List.getD,hi]
  rw[this];exact h _ (List.getElem_mem hi)
 ·have:l.getD i 0=0:=by simp[List.getD,List.getElem?_eq_none (by omega:l.length<=i)]
  rw[this];exact ey
structure iz(c:bm):Prop where
 x:∀w∈gn.l c.X,U w
 pc:U c.Pc
 jt:∀w∈A8.l c.B3,U w
theorem XQ{X:gn Int}(h:∀w∈gn.l X,U w)(hv:U v)(i:Nat):∀w∈gn.l (gn.of 0 (dG (gn.l X) i v)),U w:=by
 have hs:=Ek h hv i
 intro w hw
 simp only[gn.l,gn.of,cS,cU,or_false]at hw
 repeat(first|(rcases hw with rfl|hw;· exact AV hs _)|(subst hw;exact AV hs _))
theorem Zh7{X:A8 Int}(h:∀w∈A8.l X,U w)(hv:U v)(i:Nat):∀w∈A8.l (A8.of 0 (dG (A8.l X) i v)),U w:=by
 have hs:=Ek h hv i
 intro w hw
 simp only[A8.l,A8.of,cS,cU,or_false]at hw
 repeat(first|(rcases hw with rfl|hw;· exact AV hs _)|(subst hw;exact AV hs _))
section
variable {c:bm} (h:iz c)
include h
theorem iz.a(i:Nat):U ((A8.l c.B3).getD i 0):=AV h.jt i
theorem iz.r(i:Nat):U ((gn.l c.X).getD i 0):=AV h.x i
theorem iz.a0:U c.B3.a0:=h.a 0
theorem iz.a1:U c.B3.a1:=h.a 1
theorem iz.a2:U c.B3.a2:=h.a 2
theorem iz.a3:U c.B3.a3:=h.a 3
theorem iz.a4:U c.B3.a4:=h.a 4
theorem iz.a5:U c.B3.a5:=h.a 5
theorem iz.a6:U c.B3.a6:=h.a 6
theorem iz.a7:U c.B3.a7:=h.a 7
theorem iz.Bt{p:Int}(hp:U p):iz {X:=c.X,Pc:=p,B3:=c.B3}:=⟨h.x,hp,h.jt⟩
end
section
variable {α β:Type} {W:β->Prop} {t:Tree α} {Q:α->Prop} {k:α->Tree β}
theorem bh(hq:t.w Q)(g:∀x,Q x->(k x).w W):(Tree.an t.p (Tree.lv t.m k)).w W:=⟨(Tree.pp hq).1,λy hy=>g y (by rw[hy];exact(Tree.pp hq).2)⟩
theorem N4(hq:t.w Q)(g:∀x,Q x->(k x).w W):(Tree.lv t.m k).w W:=λy hy=>g y (by rw[hy];exact t.post hq)
end
theorem rc{r:Int}(h:0<=r/\r<16):(bJ 0 1&&decide (0<=r/\r<((16:Nat):Int)))=true:=by simp[bJ];omega
theorem AU{a:Int}(h:U a)(b:Int):U (bg .u32 a b):=by
 unfold bg U
 obtain⟨h1,h2⟩:=h
 have hp:(0:Int)<2^(min b.toNat u32.bits):=dO (by decide)
 have:=Int.fdiv_nonneg h1 (dQ hp)
 refine⟨this,?_⟩
 rw[dP _ (dQ hp)]
 have h3:=Int.ediv_le_self (2^(min b.toNat u32.bits)) h1
 omega
structure sZ(i:gw):Prop where
 a:0<=i.A/\i.A<16
 b:0<=i.B/\i.B<16
 c:0<=i.C/\i.C<16
 jt:i.Op=58->0<=i.bo/\i.bo<8
theorem X7(h:fg P m):me m=P:=by
 obtain⟨h1,h2,h3,_⟩:=h
 simp only[me,Ls,Tree.m]
 have e:(m.length:Int)=32*P:=by omega
 rw[e]
 have e1:(dE (32*(P:Int)) 32 !=0)=false:=by simp[gZ]
 have e2:decide ((32*(P:Int))>1024)=false:=dN (by omega)
 rw[e1,e2]
 simp only[cond_false]
 rw[hH _ (by decide),wrap_i64];omega
theorem xab(n:Int):(RM n).w (λ_=>True):=by
 unfold RM
 exact aa (λ_=>trivial) (λ_=>au (dY (by rw[wrap_u64];omega)) trivial)
theorem M8(w low n:Int):(RN w low n).w U:=by
 unfold RN
 exact aa (λ_=>ey) (λ_=>aa (λ_=>ey) (λ_=>aa (λ_=>ey) (λ_=>au (dY (by rw[wrap_u64];omega)) (bh (xab n) λ_ _=>Jo _ _))))
theorem Zsl{w:Int}(hw:U w)(low n v:Int):(RO w low n v).w U:=by
 have h0:decide (0<=wrap u64 low)=true:=dY (by rw[wrap_u64];omega)
 unfold RO
 exact aa (λ_=>hw) (λ_=>aa (λ_=>hw) (λ_=>aa (λ_=>hw) (λ_=>bh (xab n) λ_ _=>au h0 (au h0 (nm _ _)))))
theorem XI(hx:U x)(n:Int):(RP x n).w U:=by
 have h0:∀y,decide (0<=wrap u64 y)=true:=λy=>dY (by rw[wrap_u64];omega)
 unfold RP
 exact aa (λ_=>ey) (λ_=>aa (λ_=>hx) (λ_=>au (h0 _) (au (h0 _) (fm _))))
section
variable {P:Nat} {m:List Int} (h:fg P m)
include h
theorem sg:mY m:=by
 have:=h.len
 have:=h.p2
 show m.length<=35184372088832
 omega
theorem Zjj{a:Int}(ha:U a)(hs:size=1\/size=4):(Jr m a size).w (λb=>b=true->a+size<=128*P):=by
 have hp:=X7 h
 have h2:=h.p2
 obtain⟨a1,a2⟩:=ha
 have e:decide (wrap u32 size≠0)=true:=by rcases hs with rfl|rfl<;>decide
 have l:∀x,x=me m->decide (wrap u64 (wrap u64 a+wrap u64 size)<=wrap u64 (wrap u64 x*128))=true->a+size<=128*P:=λx hx hd=>by
  rw[hx,hp]at hd
  have:=oY hd
  simp only[wrap_u64]at this
  omega
 unfold Jr
 refine aa (λ_=>aa (λ_=>λh=>by cases h) (λ_=>?_)) (λ_=>?_)<;>
 exact au e (aa (λ_=>λh=>by cases h) (λ_=>aq λx hx=>l x hx))
theorem Gr{a:Int}(ha:U a)(hl:a<128*P):(bT 1 1&&bJ 0 1&&decide (0<=wrap u32 (eU a 4)/\wrap u32 (eU a 4)<(m.length:Int)))=true:=by
 obtain⟨a1,a2⟩:=ha
 have e:wrap u32 (eU a 4)=a/4:=by rw[wrap_u32,eV a1];omega
 have:=h.len
 rw[e];simp[bJ];omega
theorem Ji{a:Int}(ha:U a)(hs:size=1\/size=4):(LU m a size).w (λr=>U r.1/\(r.2=true->a<128*P)):=by
 unfold LU
 refine bh (Zjj h ha hs) λx hx=>aa (λ_=>⟨ey,λh=>by cases h⟩) (λhb=>?_)
 have hl:=hx (by simpa using hb)
 have hl:a<128*P:=by omega
 exact au (Gr h ha hl) (aa (λ_=>bh (M8 _ _ _) λy hy=>⟨hy,λ_=>hl⟩) (λ_=>⟨AV h.u _,λ_=>hl⟩))
theorem TT{a:Int}(ha:U a)(hs:size=1\/size=4)(hv:U v):(LW m a size v).w (λr=>fg P r.1):=by
 have st:∀i v,U v->fg P (m.set i v):=λi v hv=>⟨by simp[h.len],h.p1,h.p2,Ek h.u hv i⟩
 have gl:jH m=m:=rfl
 unfold LW
 refine cj (sg h) (aq λx0 nO=>?_)
 rw[gl]at nO;subst nO
 refine bh (Zjj h ha hs) λx hx=>aa (λ_=>h) (λhb=>?_)
 have hl:=hx (by simpa using hb)
 have hl:a<128*P:=by omega
 exact aa (λ_=>au (Gr h ha hl) (bh (Zsl (AV h.u _) _ _ _) λy hy=>au (Gr h ha hl) (st _ _ hy))) (λ_=>au (Gr h ha hl) (st _ _ hv))
end
theorem Zo0{r:Int}{used:Bool}(h:LN r used=true):0<=r/\r<16:=by
 simp only[LN,TX,Tree.m]at h
 cases used
 ·have h:(r==0)=true:=h
  have:=eq_of_beq h;omega
 ·cases h1:decide (r>=0)<;>rw[h1]at h
  ·cases h
  ·have h1:=oY h1
   have h:=oY h
   omega
theorem vA(h:Jn i=true):sZ i:=by
 have no:false=true->sZ i:=λh=>by cases h
 refine(Tree.post (OH i) (W:=λb=>b=true->sZ i) ?_) h
 unfold OH
 refine aq λx0 h0=>aa (λ_=>aq λx1 h1=>aa (λb1=>aq λx2 h2=>aa (λb2=>aq λx3 h3=>aa (λb3=>aa (λb4=>λb5=>?_) (λ_=>no)) (λ_=>no)) (λ_=>no)) (λ_=>no)) (λ_=>no)
 have b4:=oY b4
 have b5:=oY b5
 refine⟨Zo0 (h1.symm.trans b1),Zo0 (h2.symm.trans b2),Zo0 (h3.symm.trans b3),λe=>?_⟩
 rw[e]at h0
 have h0:x0=({a:=true,b:=false,c:=false,low:=0,D6:=7},true):=h0
 subst h0
 simp at b4 b5;omega
theorem XK(w:Int):(LP w).w (λr=>r.2=true->sZ r.1):=by
 have no:∀{p:Prop},false=true->p:=λh=>by cases h
 have l:∀i,(Tree.lv (Jn i) λx=>.br (!x) (.lf ((⟨0,0,0,0,0⟩:gw),false)) (.lf (i,true))).w (λr=>r.2=true->sZ r.1):=λi=>aq λx hx=>aa (λ_=>no) (λhb=>λ_=>vA (hx.symm.trans (by simpa using hb)))
 unfold LP
 exact bh (M8 _ _ _) λx0 _=>bh (M8 _ _ _) λx1 _=>bh (M8 _ _ _) λx2 _=>aq λx3 _=>aa (λ_=>no) (λ_=>bh (M8 _ _ _) λx4 h4=>aa (λ_=>l _) (λ_=>aa (λ_=>bh (XI h4 _) λx6 _=>l _) (λ_=>l _)))
section
variable {P:Nat} {m:List Int} (h:fg P m)
include h
theorem zU(hf:U f):OM m f=decide (f<P):=by
 have:=X7 h
 obtain⟨h1,h2⟩:=hf
 have h3:=h.p2
 simp only[OM,Qi4,Tree.m,df,this]
 congr 1
 rw[wrap_u64,wrap_u64,dM h1 (by omega),dM (by omega) (by omega)]
theorem zaA(hv:U va)(access:Int):(LY m root va access).w (λt=>U t.Addr/\U t.F3):=by
 have bad:U (0:Int)/\U (0:Int):=⟨ey,ey⟩
 have fr:∀x,(Q8 x).w U:=λx=>by
  unfold Q8
  exact bh (M8 _ _ _) λy hy=>hy
 unfold LY
 exact aq λx0 _=>aa (λ_=>bad) (λ_=>aa (λ_=>bad) (λ_=>aq λx1 _=>aa (λ_=>bad) (λ_=>bh (Ji h (fm _) (.inr rfl)) λx2 _=>aa (λ_=>bad) (λ_=>aq λx3 _=>aa (λ_=>bad) (λ_=>bh (fr _) λx4 _=>aq λx5 _=>aa (λ_=>bad) (λ_=>bh (fr _) λx6 _=>⟨fm _,fm _⟩))))))
theorem yU{a:Int}(ha:U a)(access:Int):(LZ m a access).w (fg P):=by
 have gl:jH m=m:=rfl
 unfold LZ
 exact bh (Ji h ha (.inr rfl)) λx0 _=>aa (λ_=>cj (sg h) (aq λx1 h1=>by rw[h1,gl];exact h)) (λ_=>aa (λ_=>bh (TT h ha (.inr rfl) (nm _ _)) λx hx=>hx) (λ_=>bh (TT h ha (.inr rfl) (nm _ _)) λx hx=>hx))
theorem OE(hv:U va)(hs:size=1\/size=4)(access:Int):(L5 c m va size access).w (λr=>U r.1/\fg P r.2.1):=by
 have gl:jH m=m:=rfl
 have e:decide (wrap u32 size≠0)=true:=by rcases hs with rfl|rfl<;>decide
 have cl:∀(K:List Int->Int×List Int×Int),(∀x,x=m->U (K x).1/\fg P (K x).2.1)->(Tree.an (mY m) (.lv (jH m) λx=>.lf (K x))).w (λr=>U r.1/\fg P r.2.1):=λK hK=>cj (sg h) (aq λx hx=>hK x (hx.trans gl))
 have z:∀(k:Nat) (x:List Int),x=m->U (0:Int)/\fg P x:=λ_ x hx=>⟨ey,hx▸h⟩
 have v:∀x,x=m->U va/\fg P x:=λx hx=>⟨hv,hx▸h⟩
 have main:∀(x0:Int×Bool),(Tree.cn (decide (wrap u32 size≠0)) (.br (dE va (wrap u32 size) !=0) (.an (mY m) (.lv (jH m) λx3=>.lf ((0:Int),x3,(3:Int)))) (.lv (Hj c) λx4=>.br (!x4) (.br (bd u32 c.B3.a0 4 !=0) (.an (Qje m c.B3.a6 va access) (.lv (Ua m c.B3.a6 va access) λx5=>.br (x5.F1 !=0) (.an (mY m) (.lv (jH m) λx6=>.lf (0,x6,x5.F1))) (.an (Qg3 m x5.F3 access) (.lv (ON m x5.F3 access) λx7=>.lf (x5.Addr,x7,0))))) (.an (Kt m va size) (.lv (CG m va size) λx8=>.br (!x8.2) (.an (mY m) (.lv (jH m) λx9=>.lf (0,x9,x0.1))) (.an (mY m) (.lv (jH m) λjc=>.lf (va,jc,0)))))) (.an (Kt m va size) (.lv (CG m va size) λjM=>.br (!jM.2) (.an (mY m) (.lv (jH m) λjz=>.lf (0,jz,x0.1))) (.an (mY m) (.lv (jH m) λjN=>.lf (va,jN,0)))))))).w (λr=>U r.1/\fg P r.2.1):=λx0=>
  au e (aa (λ_=>cl _ (z 0)) (λ_=>aq λx4 _=>aa (λ_=>aa (λ_=>bh (zaA h hv access) λx5 hx=>aa (λ_=>cl _ (z 0)) (λ_=>bh (yU h hx.2 access) λx7 h7=>⟨hx.1,h7⟩)) (λ_=>bh (Ji h hv hs) λx8 _=>aa (λ_=>cl _ (z 0)) (λ_=>cl _ v))) (λ_=>bh (Ji h hv hs) λx8 _=>aa (λ_=>cl _ (z 0)) (λ_=>cl _ v))))
 unfold L5
 exact aq λx0 _=>aa (λ_=>cl _ (z 0)) (λ_=>aa (λ_=>aa (λ_=>cl _ (z 0)) (λ_=>main x0)) (λ_=>main x0))
theorem XJ(hc:iz c):(RQ c m).w (λr=>U r.1/\fg P r.2.1):=by
 unfold RQ
 exact bh (OE h hc.pc (.inr rfl) 1) λx0 h0=>aa (λ_=>⟨ey,h0.2⟩) (λ_=>bh (Ji h0.2 h0.1 (.inr rfl)) λx1 h1=>⟨h1.1,h0.2⟩)
end
theorem xaA{s a b:Int}:U (AS s a b):=by
 refine Tree.post (VJ s a b) (W:=U) ?_
 unfold VJ
 exact aa (λ_=>fm _) (λ_=>fm _)
section
variable {c:bm} (h:iz c)
include h
theorem G8(k:Int)(hb:U b):iz (rH c k b):=by
 refine(Tree.post (Ql c k b) (W:=iz) ?_)
 unfold Ql
 refine aq λ_ _=>aq λ_ _=>⟨h.x,h.a1,?_⟩
 intro w hw
 simp only[A8.l,cS,cU,or_false]at hw
 rcases hw with rfl|rfl|rfl|rfl|rfl|rfl|rfl|rfl
 ·exact fm _
 ·exact h.a1
 ·exact h.pc
 ·exact fm _
 ·exact hb
 ·exact h.a5
 ·exact h.a6
 ·exact h.a7
theorem qB:iz (LI c):=by
 refine(Tree.post (OQ c) (W:=iz) ?_)
 unfold OQ
 refine aq λx0 _=>aq λx1 h1=>⟨h.x,h.a2,?_⟩
 intro w hw
 simp only[A8.l,cS,cU,or_false]at hw
 rcases hw with rfl|rfl|rfl|rfl|rfl|rfl|rfl|rfl
 ·rw[h1];exact xaA
 ·exact h.a1
 ·exact h.a2
 ·exact h.a3
 ·exact h.a4
 ·exact h.a5
 ·exact h.a6
 ·exact h.a7
theorem Ep{r:Int}(hr:0<=r/\r<16)(hv:U v):(FI c r v).w iz:=by
 unfold FI
 exact aa (λ_=>au (rc hr) ⟨XQ h.x hv _,h.pc,h.jt⟩) (λ_=>h)
theorem Zpa(k:Int)(hv:U v):(Jg c k v).w iz:=by
 have ok:∀i v,U v->iz {X:=c.X,Pc:=c.Pc,B3:=A8.of 0 (dG (A8.l c.B3) i v)}:=λi v hv=>⟨h.x,h.pc,Zh7 h.jt hv i⟩
 unfold Jg
 repeat'(first
  |exact h
  |exact ok _ _ (fm _)
  |exact ok _ _ hv
  |refine aa (λhk=>?_) (λ_=>?_)
  |refine au (by rw[eq_of_beq (by assumption:(k==_)=true)];decide) ?_)
end
theorem Zj5{a b:Int}(ha:U a)(hb:U b):(L3 a b).w (λr=>U r.1/\U r.2):=by
 have u1:U 4294967295:=⟨by omega,by omega⟩
 unfold L3
 refine aa (λ_=>⟨u1,ha⟩) (λh=>?_)
 have h:¬b=0:=by simpa using h
 obtain⟨b1,b2⟩:=hb
 have hc:decide (wrap i32 b≠0)=true:=dY (by rw[wrap_i32];omega)
 exact aa (λ_=>aa (λ_=>⟨ha,ey⟩) (λ_=>au hc (au hc ⟨fm _,fm _⟩))) (λ_=>au hc (au hc ⟨fm _,fm _⟩))
theorem qaB(b:Bool):U (VK b):=by cases b<;>exact⟨by decide,by decide⟩
theorem Zb(op:Int){a b:Int}(ha:U a)(hb:U b):(RR op a b).w (λr=>U r.1):=by
 unfold RR
 repeat'(first
  |refine aa (λ_=>?_) (λ_=>?_)
  |exact bh (Zj5 ha hb) λx hx=>hx.1
  |exact bh (Zj5 ha hb) λx hx=>hx.2
  |exact aq λx hx=>(by rw[hx];exact qaB _)
  |refine dc ?_)
 all_goals(first
  |exact fm _
  |exact AU ha _
  |exact ey)
theorem TS(op:Int):Ku op=1\/Ku op=4:=by
 simp only[Ku,Qud,Tree.m]
 cases op==32<;>cases op==35<;>simp
section
variable {c:bm} (h:iz c) {i:gw} (hi:sZ i)
include h hi
theorem Zrw:(FJ c i).w (λr=>iz r.1/\U r.2.Value):=by
 have k:∀{x:bm} {p:Int},iz x->U p->iz {X:=x.X,Pc:=p,B3:=x.B3}:=λhx hp=>⟨hx.x,hp,hx.jt⟩
 unfold FJ
 refine au (rc hi.a) (au (rc hi.b) ?_)
 repeat'(first
  |refine aa (λ_=>?_) (λ_=>?_)
  |exact bh (Ep h hi.a (fm _)) λx hx=>⟨k hx (fm _),ey⟩
  |exact aq λx _=>aa (λ_=>⟨k h (fm _),ey⟩) (λ_=>⟨k h (fm _),ey⟩)
  |exact aq λx hx=>⟨by rw[hx];exact G8 h _ ey,ey⟩
  |exact aq λx hx=>⟨by rw[hx];exact qB h,ey⟩
  |exact au (by have:=hi.jt (by simp_all);simp[bJ];omega) (bh (Ep h hi.a (h.a _)) λx hx=>⟨k hx (fm _),ey⟩)
  |exact bh (Zpa h _ (h.r _)) λx hx=>⟨k hx (fm _),ey⟩
  |refine au (rc hi.c) ?_
  |exact bh (Zb _ (h.r _) (fm _)) λy hy=>bh (Ep h hi.a hy) λx hx=>⟨k hx (fm _),ey⟩
  |exact bh (Zb _ (h.r _) (h.r _)) λy hy=>bh (Ep h hi.a hy) λx hx=>⟨k hx (fm _),ey⟩
  |refine dc ?_)
 all_goals(first
  |exact⟨k h (fm _),ey⟩
  |exact⟨k h (fm _),h.r _⟩)
theorem Z5k(hm:fg P m):(Jh c m i).w (λr=>iz r.1/\fg P r.2):=by
 have w:=TS i.Op
 unfold Jh
 refine au (rc hi.b) (aq λx0 h0=>?_)
 rw[<-h0]at w
 refine bh (OE hm (fm _) w 2) λx1 h1=>aa (λ_=>aq λy hy=>⟨by rw[hy];exact G8 h _ (fm _),h1.2⟩) (λ_=>aq λx3 h3=>?_)
 rw[h0,<-h3]at w
 exact bh (Ji h1.2 h1.1 w) λx4 h4=>aa (λ_=>bh (XI h4.1 8) λy hy=>bh (Ep h hi.a hy) λx hx=>⟨⟨hx.x,fm _,hx.jt⟩,h1.2⟩) (λ_=>bh (Ep h hi.a h4.1) λx hx=>⟨⟨hx.x,fm _,hx.jt⟩,h1.2⟩)
theorem Z19(hm:fg P m):(Jj c m i).w (λr=>iz r.1/\fg P r.2):=by
 have w:=TS i.Op
 unfold Jj
 refine au (rc hi.b) (aq λx0 h0=>?_)
 rw[<-h0]at w
 refine bh (OE hm (fm _) w 3) λx1 h1=>aa (λ_=>aq λy hy=>⟨by rw[hy];exact G8 h _ (fm _),h1.2⟩) (λ_=>aq λx3 h3=>au (rc hi.a) ?_)
 rw[h0,<-h3]at w
 exact bh (TT h1.2 h1.1 w (h.r _)) λx hx=>⟨⟨h.x,fm _,h.jt⟩,hx⟩
end
theorem xB(h:iz c)(hm:fg P m):(FK c m).w (λr=>iz r.1/\fg P r.2.1/\U r.2.2.Value):=by
 unfold FK
 refine bh (XJ hm h) λx0 h0=>aa (λ_=>aq λy hy=>⟨by rw[hy];exact G8 h _ h.pc,h0.2,ey⟩) (λ_=>bh (XK _) λx2 h2=>aa (λ_=>aq λy hy=>⟨by rw[hy];exact G8 h _ h0.1,h0.2,ey⟩) (λhb=>?_))
 have hi:=h2 (by simpa using hb)
 refine aq λx4 _=>?_
 repeat'(first
  |refine aa (λ_=>?_) (λ_=>?_)
  |exact bh (Z5k h hi h0.2) λx hx=>⟨hx.1,hx.2,ey⟩
  |exact bh (Z19 h hi h0.2) λx hx=>⟨hx.1,hx.2,ey⟩
  |exact bh (Zrw h hi) λx hx=>⟨hx.1,h0.2,hx.2⟩
  |exact aq λy hy=>⟨by rw[hy];exact G8 h _ h0.1,h0.2,ey⟩
  |refine aq λ_ _=>?_)
theorem VL{a:Int}(h:U a)(k:Nat)(hk:k<=32):0<=bg .u32 a k/\bg .u32 a k*2^k<=a:=by
 obtain⟨h1,h2⟩:=h
 unfold bg
 have e:min (k:Int).toNat u32.bits=k:=by show min (k:Int).toNat 32=k;omega
 have hp:(0:Int)<2^k:=dO (by decide)
 rw[e,dP _ (dQ hp)]
 exact⟨Int.ediv_nonneg h1 (dQ hp),Int.ediv_mul_le a (Int.ne_of_gt hp)⟩
theorem Zpl(x:Int):0<=u8.wrap x/\u8.wrap x<256:=by rw[wrap_u8];omega
theorem zaB(h:U x):(En x).w (λ_=>True):=by
 have BB:=VL h 16 (by omega)
 have s8:=VL h 8 (by omega)
 have uO:=VL (AU h 16) 8 (by omega)
 obtain⟨h1,h2⟩:=h
 unfold En
 repeat'(first
  |refine aa (λ_=>?_) (λ_=>?_)
  |refine au (dY ⟨?_,hJ (b:=256) ?_ (hY (by kernel_rfl))⟩) ?_
  |exact trivial
  |refine dc ?_)
 all_goals(first
  |trivial
  |exact(Zpl _).1
  |exact(Zpl _).2
  |(simp only[decide_eq_true_eq,decide_eq_false_iff_not]at*;simp at BB s8 uO;omega))
theorem CA(a:Int):bd .u32 a 255<256:=by
 unfold bd
 rw[wrap_u32]
 have:(dW u32.bits a&&&dW u32.bits 255).toNat<=255:=by
  show(dW 32 a&&&dW 32 255).toNat<=255
  rw[eA]
  exact Nat.le_trans Nat.and_le_right (by decide)
 omega
theorem xaR(h:U x):(RS x).w (λ_=>True):=by
 have uO:=VL h 24 (by omega)
 obtain⟨h1,h2⟩:=h
 have i24:bg .u32 x 24<256:=by simp at uO;omega
 unfold RS
 repeat'(first
  |refine au (dY ⟨?_,hJ (b:=256) ?_ (hY (by kernel_rfl))⟩) ?_
  |exact trivial
  |refine dc ?_)
 all_goals(first
  |trivial
  |exact(fm _).1
  |exact uO.1
  |exact i24
  |exact CA _)
structure rG(P:Nat)(m:av):Prop where
 lK:iz m.B0
 mem:fg P m.Mem
 kQ:oG m.A7
 si:pB m.C1
 target:U m.A2.C7
 given:U m.A2.C4
theorem Zp4{b:iu}(h:U b.C4):(RU b).w (λ_=>True):=by
 unfold RU
 exact bh (xaR h) λ_ _=>trivial
theorem TV{m:av}(h:U m.A2.C4):(Kv m).w (λ_=>True):=by
 have b:∀x,(G1 m.A2 x).w (λ_=>True):=λx=>by
  unfold G1
  exact bh (zaB h) λ_ _=>trivial
 have d:(El m).w (λ_=>True):=by
  unfold El
  exact aq λ_ _=>aq λ_ _=>aa (λ_=>aq λ_ _=>aa (λ_=>aq λ_ _=>aa (λ_=>aq λ_ _=>aa (λ_=>bh (b _) λ_ _=>trivial) (λ_=>trivial)) (λ_=>trivial)) (λ_=>trivial)) (λ_=>trivial)
 unfold Kv
 repeat'(first
  |refine aa (λ_=>?_) (λ_=>?_)
  |exact bh d λ_ _=>trivial
  |refine aq λ_ _=>?_
  |exact trivial)
theorem Zpr{m:av}(h:U m.A2.C4):(Mh m).w (λ_=>True):=by
 have p:(Me m.A2).w (λ_=>True):=by
  unfold Me
  exact bh (Zp4 h) λ_ _=>trivial
 unfold Mh
 refine aq λx0 _=>aq λx1 _=>aq λx2 _=>aq λx3 _=>bh p λx4 _=>fi (inv:=λz=>0<=z.2/\z.2<=5) (μ:=Qis m) ⟨by omega,by omega⟩ (cO _) (λz hz=>?_)
 obtain⟨z1,z2⟩:=hz
 have ew:z.2<5->i64.wrap (z.2+1)=z.2+1:=λ_=>by rw[wrap_i64];omega
 refine aa (λhb=>?_) (λ_=>trivial)
 have hb:=oY hb
 have nx:(0<=i64.wrap (z.2+1)/\i64.wrap (z.2+1)<=5)/\(5-i64.wrap (z.2+1)).toNat<(5-z.2).toNat:=by rw[ew hb];omega
 refine au (by simp;omega) (aa (λ_=>au (dY z1) (ea nx)) (λ_=>ea nx))
theorem XM{m:av}(h:U m.A2.C4):(Hs m).w U:=by
 unfold Hs
 exact bh (Zpr h) λ_ _=>Jo _ _
theorem XO{m:av}(h:U m.A2.C4):(Jk m).w (λ_=>True):=by
 have i:(Ht m).w (λ_=>True):=by
  unfold Ht
  exact aa (λ_=>bh (XM h) λ_ _=>trivial) (λ_=>trivial)
 unfold Jk
 exact bh (TV h) λ_ _=>aa (λ_=>aa (λ_=>bh i λ_ _=>aa (λ_=>trivial) (λ_=>trivial)) (λ_=>trivial)) (λ_=>trivial)
theorem vU{m:av}(h:rG P m):(G7 m).w (rG P):=by
 obtain⟨h1,h2,h3,h4,h5,h6⟩:=h
 unfold G7
 refine aa (λ_=>⟨h1,h2,h3,h4,h5,h6⟩) (λ_=>bh (XM (m:=⟨_,_,_,_,_,_,m.A2,_,_,_⟩) h6) λx0 _=>fi (inv:=λz=>0<=z/\z<=5) (μ:=XN m) ⟨by omega,by omega⟩ (cO _) (λz hz=>?_))
 obtain⟨z1,z2⟩:=hz
 refine aa (λhb=>au (dY z1) (aa (λ_=>aq λx1 hx=>⟨by rw[hx];exact G8 h1 _ ey,h2,h3,h4,h5,h6⟩) (λ_=>ea ?_))) (λ_=>⟨h1,h2,h3,h4,h5,h6⟩)
 have hb:=oY hb
 show(0<=i64.wrap (z+1)/\i64.wrap (z+1)<=5)/\(5-i64.wrap (z+1)).toNat<(5-z).toNat
 have ew:i64.wrap (z+1)=z+1:=by rw[wrap_i64];omega
 rw[ew];omega
theorem Et(h:fg P m):wX m=P:=by
 obtain⟨h1,h2,h3,_⟩:=h
 simp only[wX,Qq4,Tree.m]
 have e:(m.length:Int)=32*P:=by omega
 rw[e]
 have e1:(dE (32*(P:Int)) 32 !=0)=false:=by simp[gZ]
 have e2:decide ((32*(P:Int))>1024)=false:=dN (by omega)
 rw[e1,e2]
 simp only[cond_false]
 rw[hH _ (by decide),wrap_i64];omega
theorem FO(h:fg P m)(hf:U f):ob m f=decide (f<P):=by
 have:=Et h
 obtain⟨h1,h2⟩:=hf
 have h3:=h.p2
 simp only[ob,O3,Tree.m,df,this]
 congr 1
 rw[wrap_u64,wrap_u64,dM h1 (by omega),dM (by omega) (by omega)]
theorem qac(h:fg P m):(Mm m).w (λr=>r=m):=by
 obtain⟨h1,h2,h3,_⟩:=h
 unfold Mm
 refine au ?_ ?_
 ·simp[bJ,D.plain];omega
 ·show _=_
  simp
theorem CF(h:fg P m){addr size v:Int}(ha:U addr)(hl:addr<4*m.length)(hv:U v):(Jp m addr size v).w (fg P):=by
 obtain⟨h1,h2,h3,h4⟩:=h
 obtain⟨a1,a2⟩:=ha
 have e:wrap u32 (eU addr 4)=addr/4:=by rw[wrap_u32,eV a1];omega
 have hc:(bT 1 1&&bJ 0 1&&decide (0<=wrap u32 (eU addr 4)/\wrap u32 (eU addr 4)<(m.length:Int)))=true:=by
  rw[e];simp[bJ];omega
 have h0:∀x,decide (0<=wrap u32 x)=true:=λx=>dY (fm x).1
 have hs:∀i v,U v->fg P (m.set i v):=λi v hv=>⟨by simp[h1],h2,h3,Ek h4 hv i⟩
 unfold Jp
 exact aa (λ_=>au hc (hs _ _ hv)) (λ_=>au hc (au (h0 _) (au (h0 _) (au hc (hs _ _ (nm _ _))))))
theorem zac(h:fg P m){frame:Int}(f0:0<=frame)(f1:frame<P)(s:List UInt8):(He m frame s).w (fg P):=by
 unfold He
 have h3:=h.p2
 refine fi (inv:=λz=>0<=z.1/\z.1<=128/\fg P z.2) (μ:=X0 m frame s) ⟨by omega,by omega,h⟩ (cO _) (λv0 wR=>?_)
 obtain⟨i0,i1,hm⟩:=wR
 refine aa (λh1=>aa (λh2=>au ?_ ?_) (λ_=>hm)) (λ_=>hm)
 ·have:=oY h1
  simp[bJ];omega
 ·have h2:=oY h2
  have e:wrap u32 (wrap i64 (wrap i64 (frame*128)+v0.1))=frame*128+v0.1:=by
   rw[wrap_u32,wrap_i64,wrap_i64];omega
  rw[e]
  obtain⟨g1,g2⟩:=Tree.pp (CF hm (size:=1) (addr:=frame*128+v0.1) ⟨by omega,by omega⟩ (by rw[hm.len];omega) (fm (UInt8.toNat (s.getD v0.1.toNat 0))))
  refine cj g1 (aq λx0 nO=>?_)
  rw[nO]
  have ew:i64.wrap (v0.1+1)=v0.1+1:=by rw[wrap_i64];omega
  refine ea ?_
  show(0<=i64.wrap (v0.1+1)/\i64.wrap (v0.1+1)<=128/\fg P _)/\(128-i64.wrap (v0.1+1)).toNat<(128-v0.1).toNat
  rw[ew]
  exact⟨⟨by omega,by omega,g2⟩,by omega⟩
theorem Zqe(h:fg P m)(hd:oG d)(e:ib):(Hq d m e).w (λr=>oG r.1/\fg P r.2.2):=by
 have fl:ob m d.B2=true->(He m (i64.wrap d.B2) e.D0).w (fg P):=λhp=>by
   rw[FO h hd.ie]at hp
   have:=oY hp
   have h1:=hd.ie.1
   have h3:=h.p2
   have ew:i64.wrap d.B2=d.B2:=by rw[wrap_i64];omega
   rw[ew]
   exact zac h h1 this _
 have l0:oG d/\fg P m:=⟨hd,h⟩
 have l1: ∀st,oG {ag:=d.ag,C2:=d.C2,Frame:=d.Frame,B8:=st,D5:=0,B6:=0,B2:=0,B7:=[]}:=λst=>⟨hd.block,hd.frame,ey,ey⟩
 unfold Hq
 repeat'(first
   |exact l0
   |exact⟨l1 _,h⟩
   |refine aa (λ_=> ?_) (λ_=> ?_)
   |refine aq (λ_ _=> ?_))
 all_goals(
   first
     | (have hp:ob m d.B2=true:=by simp_all
        obtain⟨g1,g2⟩:=Tree.pp (fl hp)
        refine cj g1 (aq λx hx=> ?_)
        rw[hx]
        exact aa (λ_=>⟨l1 _,g2⟩) (λ_=>⟨l1 _,g2⟩))
     |(exfalso;simp_all;done))
section
variable {c:bm} (h:iz c)
include h
theorem Kw(k:Int)(hb:U b):iz (rb c k b):=by
 refine(Tree.post (OP c k b) (W:=iz) ?_)
 unfold OP
 refine aq λ_ _=>aq λ_ _=>⟨h.x,h.a1,?_⟩
 intro w hw
 simp only[A8.l,cS,cU,or_false]at hw
 rcases hw with rfl|rfl|rfl|rfl|rfl|rfl|rfl|rfl
 ·exact nm _ _
 ·exact h.a1
 ·exact h.pc
 ·exact fm _
 ·exact hb
 ·exact h.a5
 ·exact h.a6
 ·exact h.a7
theorem xV:iz (Ud c):=by
 refine(Tree.post (OR c) (W:=iz) ?_)
 unfold OR
 refine aq λ_ _=>aq λ_ _=>⟨h.x,h.a2,?_⟩
 intro w hw
 simp only[A8.l,cS,cU,or_false]at hw
 rcases hw with rfl|rfl|rfl|rfl|rfl|rfl|rfl|rfl
 ·exact nm _ _
 ·exact h.a1
 ·exact h.a2
 ·exact h.a3
 ·exact h.a4
 ·exact h.a5
 ·exact h.a6
 ·exact h.a7
theorem Eh(r:Int)(hv:U v):(Js c r v).w iz:=by
 unfold Js
 refine aa (λh1=>aa (λh2=>au ?_ ⟨XQ h.x hv _,h.pc,h.jt⟩) (λ_=>h)) (λ_=>h)
 have h1:=oY h1
 have h2:=oY h2
 simp[bJ];omega
theorem xaB(k:Int)(hv:U v):(L7 c k v).w iz:=by
 have ok:∀i v,U v->iz {X:=c.X,Pc:=c.Pc,B3:=A8.of 0 (dG (A8.l c.B3) i v)}:=λi v hv=>⟨h.x,h.pc,Zh7 h.jt hv i⟩
 unfold L7
 repeat'(first
  |exact h
  |exact ok _ _ (fm _)
  |exact ok _ _ hv
  |refine aa (λhk=>?_) (λ_=>?_)
  |refine au (by rw[eq_of_beq (by assumption:(k==_)=true)];decide) ?_)
end
section
variable {P:Nat} {m:List Int} (h:fg P m)
include h
theorem Zdx(a:Int)(hs:size=1\/size=4):(Jq m a size).w (λb=>b=true->a<128*P):=by
 have hp:=Et h
 have h2:=h.p2
 have e:decide (wrap u32 size≠0)=true:=by rcases hs with rfl|rfl<;>decide
 have l:∀x,x=wX m->decide (a<wrap u32 (wrap i64 (128*x)))=true->a<128*P:=λx hx hd=>by
  rw[hx,hp,wrap_u32,wrap_i64]at hd
  have:=oY hd
  omega
 unfold Jq
 refine aa (λ_=>aa (λ_=>λh=>by cases h) (λ_=>?_)) (λ_=>?_)<;>
 exact au e (aa (λ_=>aq λx hx=>l x hx) (λ_=>λh=>by cases h))
theorem idx{a:Int}(ha:U a)(hl:a<128*P):(bT 1 1&&bJ 0 1&&decide (0<=wrap u32 (eU a 4)/\wrap u32 (eU a 4)<(m.length:Int)))=true:=by
 obtain⟨a1,a2⟩:=ha
 have e:wrap u32 (eU a 4)=a/4:=by rw[wrap_u32,eV a1];omega
 have:=h.len
 rw[e];simp[bJ];omega
theorem OY{a:Int}(ha:U a)(hs:size=1\/size=4):(AX m a size).w (λr=>U r.1):=by
 obtain⟨g1,g2⟩:=Tree.pp (Zdx h a hs)
 unfold AX
 refine cj g1 (aq λx hx=>aa (λ_=>ey) (λhb=>?_))
 have hb:x=true:=by simpa using hb
 have hl:=g2 (hx.symm.trans hb)
 refine au (idx h ha hl) (aa (λ_=>au (dY (fm _).1) (fm _)) (λ_=>AV h.u _))
theorem qaS{a:Int}(ha:U a)(access:Int):(L0 m a access).w (fg P):=by
 obtain⟨g1,g2⟩:=Tree.pp (Zdx h a (size:=4) (.inr rfl))
 have hs:∀{m:List Int} i v,fg P m->U v->fg P (m.set i v):=λi v h hv=>⟨by simp[h.len],h.p1,h.p2,Ek h.u hv i⟩
 unfold L0
 refine cj g1 (aq λx hx=>aa (λ_=>h) (λhb=>?_))
 have hb:x=true:=by simpa using hb
 have hl:=g2 (hx.symm.trans hb)
 have i0:=idx h ha hl
 have h':=hs (Int.toNat (wrap u32 (eU a 4))) (ij u32 (m.getD (Int.toNat (wrap u32 (eU a 4))) 0) 8) h (nm _ _)
 have i1:=idx h' ha hl
 exact au i0 (au i0 (aa (λ_=>au i1 (au i1 (hs _ _ h' (nm _ _)))) (λ_=>h')))
theorem xac(hr:U root)(hv:U va)(access:Int):(Hi m root va access).w (λt=>U t.Addr/\U t.F3/\(t.F1=0->t.Addr<128*P)):=by
 have hp:=Et h
 have h2:=h.p2
 have hlen:=h.len
 obtain⟨r1,r2⟩:=hr
 obtain⟨v1,v2⟩:=hv
 unfold Hi
 refine aq λx0 nO=>aq λx1 nP=>aq λx2 _=>?_
 have hc:x0≠0:=by
  rw[nO]
  simp only[tU,L6,Tree.m]
  cases access==1<;>cases access==3<;>simp
 rw[hp]at nP
 have bad:U (0:Int)/\U (0:Int)/\(x0=0->(0:Int)<128*P):=⟨ey,ey,λe=>absurd e hc⟩
 refine aa (λ_=>bad) (λ_=>aa (λ_=>bad) (λEz=>aa (λ_=>bad) (λEe=>?_)))
 have Ez:=oN Ez
 have Ee:=oN Ee
 have e1:wrap u32 x1=P:=by rw[nP,wrap_u32];omega
 rw[e1]at Ee
 have e2:wrap u32 (wrap u32 (root*128)+wrap u32 (4*wrap u32 (eU va 128)))=root*128+4*(va/128):=by
  rw[eV v1,wrap_u32,wrap_u32,wrap_u32,wrap_u32];omega
 have hU:U (wrap u32 (wrap u32 (root*128)+wrap u32 (4*wrap u32 (eU va 128)))):=fm _
 have ci:=idx h hU (by rw[e2];omega)
 have eu:∀w:Int,decide (bd u32 w 255>=wrap u32 x1)=false->(U (wrap u32 (wrap u32 (bd u32 w 255*128)+dE va 128))/\U (wrap u32 (wrap u32 (root*128)+wrap u32 (4*wrap u32 (eU va 128))))/\((0:Int)=0->wrap u32 (wrap u32 (bd u32 w 255*128)+dE va 128)<128*P)):=λw hw=>by
  have hw:=oN hw
  rw[e1]at hw
  have hn:=(Jo w 255).1
  refine⟨fm _,fm _,λ_=>?_⟩
  rw[Int.tmod_eq_emod_of_nonneg v1,wrap_u32,wrap_u32]
  generalize bd u32 w 255=q at*
  omega
 refine au ci ?_
 repeat'(first
  |exact bad
  |exact eu _ (by assumption)
  |refine aa (λ_=>?_) (λ_=>?_)
  |refine au ci ?_)
theorem Uj(hc:iz c)(hv:U va)(hs:size=1\/size=4)(access:Int):(Hk c m va size access).w (λr=>fg P r.2.2/\U r.1/\(r.2.1=0->r.1<128*P)):=by
 have e:decide (wrap u32 size≠0)=true:=by rcases hs with rfl|rfl<;>decide
 obtain⟨g1,g2⟩:=Tree.pp (Zdx h va hs)
 obtain⟨k1,k2⟩:=Tree.pp (xac h hc.a6 hv access)
 have bad:∀k:Int,k≠0->fg P m/\U (0:Int)/\(k=0->(0:Int)<128*P):=λk hk=>⟨h,ey,λe=>absurd e hk⟩
 have hca:tU access≠0:=by
  simp only[tU,L6,Tree.m]
  cases access==1<;>cases access==3<;>simp
 unfold Hk
 refine aq λx0 _=>aa (λ_=>bad 5 (by decide)) (λ_=>aa (λh1=>aa (λh2=>?_) (λ_=>?_)) (λ_=>?_))
 ·exact bad 5 (by decide)
 all_goals(
  refine au e (aa (λ_=>bad 3 (by decide)) (λ_=>aq λx1 _=>aa (λ_=>cj g1 (aq λx2 Jl=>aa (λ_=>aq λx3 Eg=>bad x3 (by rw[Eg];exact hca)) (λhb=>?_))) (λ_=>cj k1 (aq λx4 Om=>aa (λhb=>?_) (λhb=>?_)))))
  ·have hb:x2=true:=by simpa using hb
   exact⟨h,hv,λ_=>g2 (Jl.symm.trans hb)⟩
  ·exact bad _ (by simpa using hb)
  ·obtain⟨t1,t2,t3⟩:=k2
   rw[show(Hi m c.B3.a6 va access).m=x4 from Om.symm]at t1 t2 t3
   obtain⟨m1,m2⟩:=Tree.pp (qaS h t2 access)
   refine cj m1 (aq λx5 hx5=>?_)
   exact⟨hx5▸m2,t1,λ_=>t3 (by simpa using hb)⟩)
end
theorem zB{r:Int}(h:LO r=true):0<=r/\r<16:=by
 simp only[LO,TY,Tree.m]at h
 cases h1:decide (r>=0)<;>rw[h1]at h
 ·cases h
 ·have h1:=oY h1
  have h:=oY h
  omega
theorem zV(hi:wrap .i64 i.bo=i.bo)(h:Er i=true):sZ i:=by
 have no:false=true->sZ i:=λh=>by cases h
 refine(Tree.post (OI i) (W:=λb=>b=true->sZ i) ?_) h
 unfold OI
 refine aq λx0 h0=>aa (λ_=>no) (λ_=>aq λx1 h1=>aa (λ_=>no) (λb1=>aq λx2 h2=>aa (λ_=>no) (λb2=>aq λx3 h3=>aa (λ_=>no) (λb3=>aq λx4 h4=>aa (λ_=>no) (λb4=>aa (λ_=>no) (λb5=>?_))))))
 have b1:x1=true:=by simpa using b1
 have b2:x2=true:=by simpa using b2
 have b3:x3=true:=by simpa using b3
 have b4:=oN b4
 have b5:=oN b5
 rw[hi]at b4 b5
 have ok:sZ i:=⟨zB (h1.symm.trans b1),zB (h2.symm.trans b2),zB (h3.symm.trans b3),λe=>by
  rw[e]at h0
  have h0:x0=8:=h0
  subst h0
  have h4:x4=(0,7):=h4
  subst h4
  simp at b4 b5;omega⟩
 repeat'(first
  |exactλ_=>ok
  |exact no
  |refine aa (λ_=>?_) (λ_=>?_))
theorem Zpy(w:Int):(Hd w).w (λr=>r.2=true->sZ r.1):=by
 have no:∀{p:Prop},false=true->p:=λh=>by cases h
 have e:∀x,wrap .i64 (wrap .i32 x)=wrap .i32 x:=λx=>by rw[wrap_i64,wrap_i32];omega
 have ok:∀i,wrap .i64 i.bo=i.bo->∀x,x=Er i->(!x)=false->true=true->sZ i:=λi hi x hx hb _=>zV hi (hx.symm.trans (by simpa using hb))
 unfold Hd
 refine aq λx0 _=>?_
 have l:∀i,wrap .i64 i.bo=i.bo->(Tree.lv (Er i) λx=>.br (!x) (.lf ((⟨0,0,0,0,0⟩:gw),false)) (.lf (i,true))).w (λr=>r.2=true->sZ r.1):=λi hi=>aq λx hx=>aa (λ_=>no) (λhb=>ok i hi x hx hb)
 refine aa (λ_=>no) (λ_=>aa (λ_=>l _ rfl) (λ_=>aa (λ_=>l _ (e _)) (λ_=>aa (λ_=>l _ (e _)) (λ_=>l _ (e _)))))
theorem RV(b:Bool):U (CH b):=by cases b<;>exact⟨by decide,by decide⟩
theorem Zoe{a b:Int}(ha:U a)(hb:U b):(L4 a b).w (λr=>U r.1/\U r.2):=by
 unfold L4
 refine aa (λ_=>⟨⟨by omega,by omega⟩,ha⟩) (λh=>?_)
 have h:¬b=0:=by simpa using h
 obtain⟨b1,b2⟩:=hb
 have hc:decide (wrap i64 (wrap i32 b)≠0)=true:=dY (by rw[wrap_i64,wrap_i32];omega)
 exact au hc (au hc ⟨fm _,fm _⟩)
theorem Ia(op:Int){a b:Int}(ha:U a)(hb:U b):(RW op a b).w (λr=>U r.1):=by
 unfold RW
 refine aq λx0 _=>?_
 repeat'(first
  |exact fm _
  |exact AU ha _
  |exact ey
  |refine aa (λ_=>?_) (λ_=>?_)
  |exact bh (Zoe ha hb) λx hx=>hx.1
  |exact bh (Zoe ha hb) λx hx=>hx.2
  |exact aq λx hx=>(by rw[hx];exact RV _))
theorem yB(hx:U x):(RX x 8).w U:=by
 unfold RX
 have h0:decide (0<=wrap u64 8)=true:=by decide
 refine aa (λh=>absurd h (by decide)) λ_=>aa (λh=>absurd h (by decide)) λ_=>au h0 (au (by decide) (aa (λ_=>au h0 (nm _ _)) (λ_=>Jo _ _)))
section
variable {c:bm} (h:iz c) {i:gw} (hi:sZ i)
include h hi
theorem yV:(JF c i).w (λr=>iz r.1/\U r.2.Value):=by
 unfold JF
 refine aa (λ_=>aq λx hx=>⟨hx▸Kw h _ ey,ey⟩) (λ_=>aa (λ_=>aq λx hx=>⟨hx▸xV h,ey⟩) (λ_=>aa (λe=>au ?_ (bh (Eh h _ (h.a _)) λx hx=>⟨hx.Bt (fm _),ey⟩)) (λ_=>aa (λ_=>au (rc hi.a) (bh (xaB h _ (h.r _)) λx hx=>⟨hx.Bt (fm _),ey⟩)) (λ_=>?_))))
 ·have:=hi.jt (by simpa using e)
  simp[bJ];omega
 ·have k:=h.Bt (fm (c.Pc+4))
  repeat'(first
   |exact⟨k,ey⟩
   |exact⟨k,h.r _⟩
   |refine aa (λ_=>?_) (λ_=>?_)
   |refine au (rc hi.a) ?_)
theorem zaS:(RY c i).w iz:=by
 unfold RY
 exact aa (λ_=>bh (Eh h _ (fm _)) λx hx=>hx.Bt (fm _)) (λ_=>aa (λ_=>au (rc hi.b) (bh (Eh h _ (fm _)) λx hx=>hx.Bt (fm _))) (λ_=>au (rc hi.a) (au (rc hi.b) (aq λx _=>aa (λ_=>h.Bt (fm _)) (λ_=>h.Bt (fm _))))))
theorem Zsy(hm:fg P m):(RZ c m i).w (λr=>iz r.1/\fg P r.2):=by
  unfold RZ
  refine au (rc hi.b) ?_
  have e1:(1:Int)=1\/(1:Int)=4:= .inl rfl
  have e4:(4:Int)=1\/(4:Int)=4:= .inr rfl
  repeat'(first
    |refine aa (λ_=> ?_) (λ_=> ?_)
    | (refine bh (Uj hm h (fm _) e4 _) λx hx=> ?_
       obtain⟨m1,m2,m3⟩:=hx
       refine aa (λ_=>aq λy hy=>⟨hy▸Kw h _ (fm _),m1⟩) (λhb=> ?_)
       have m3:=m3 (by simpa using hb)
       have m4:x.1<4*x.2.2.length:=by rw[m1.len];omega
       clear hb)
    | (refine bh (Uj hm h (fm _) e1 _) λx hx=> ?_
       obtain⟨m1,m2,m3⟩:=hx
       refine aa (λ_=>aq λy hy=>⟨hy▸Kw h _ (fm _),m1⟩) (λhb=> ?_)
       have m3:=m3 (by simpa using hb)
       have m4:x.1<4*x.2.2.length:=by rw[m1.len];omega
       clear hb)
    |exact au (rc hi.a) (bh (CF (by assumption) (by assumption) (by assumption) (h.r _)) λy hy=>⟨h.Bt (fm _),hy⟩)
    |(refine bh (OY (by assumption) (by assumption) e4) λy hy=> ?_)
    |(refine bh (OY (by assumption) (by assumption) e1) λy hy=> ?_)
    |exact bh (yB (by assumption)) λz hz=>bh (Eh h _ hz) λu hu=>⟨hu.Bt (fm _),by assumption⟩
    |exact bh (Eh h _ (by assumption)) λu hu=>⟨hu.Bt (fm _),by assumption⟩)
end
theorem Fz(h:iz c)(hm:fg P m):(R3 c m).w (λr=>iz r.1/\U r.2.1.Value/\fg P r.2.2):=by
 unfold R3
 refine bh (Uj hm h h.pc (.inr rfl) 1) λx0 hx=>?_
 obtain⟨m1,m2,m3⟩:=hx
 refine aa (λ_=>aq λy hy=>⟨hy▸Kw h _ h.pc,ey,m1⟩) (λhb=>?_)
 refine bh (OY m1 m2 (.inr rfl)) λx2 h2=>N4 (Zpy _) λx3 h3=>aa (λ_=>aq λy hy=>⟨hy▸Kw h _ h2,ey,m1⟩) (λb3=>?_)
 have hi:=h3 (by simpa using b3)
 refine aq λx5 _=>?_
 repeat'(first
  |refine aa (λ_=>?_) (λ_=>?_)
  |exact aq λy hy=>⟨hy▸Kw h _ h2,ey,m1⟩
  |exact bh (yV h hi) λy hy=>⟨hy.1,hy.2,m1⟩
  |exact bh (zaS h hi) λy hy=>⟨hy,ey,m1⟩
  |exact bh (Zsy h hi m1) λy hy=>⟨hy.1,ey,hy.2⟩
  |exact bh (Eh h _ (fm _)) λy hy=>⟨hy.Bt (fm _),ey,m1⟩
  |refine au (rc hi.c) ?_
  |refine au (rc hi.b) ?_
  |exact bh (Ia _ (h.r _) (h.r _)) λy hy=>bh (Eh h _ hy) λz hz=>⟨hz.Bt (fm _),ey,m1⟩
  |exact bh (Ia _ (h.r _) (fm _)) λy hy=>bh (Eh h _ hy) λz hz=>⟨hz.Bt (fm _),ey,m1⟩)
theorem FN{q:Int}(h:U q):bd .u32 q 1=q%2:=by
 obtain⟨h1,h2⟩:=h
 unfold bd
 rw[wrap_u32]
 have e1:(dW 32 q).toNat=q.toNat:=by rw[BitVec.toNat_ofInt];omega
 have e2:(dW 32 1).toNat=1:=by decide
 have:(dW u32.bits q&&&dW u32.bits 1).toNat=q.toNat%2:=by
  show(dW 32 q&&&dW 32 1).toNat=_
  rw[eA,e1,e2,Nat.and_one_is_mod]
 rw[this];omega
theorem R4(b:Bool)(n:Int):(R5 b n).w (λ_=>True):=by
 unfold R5
 exact aa (λ_=>au (dY (by rw[wrap_u64];omega)) trivial) (λ_=>trivial)
theorem qaC(m:av):(R6 m).w (λ_=>True):=by
 unfold R6
 exact aq λ_ _=>bh (R4 _ _) λ_ _=>aq λ_ _=>bh (R4 _ _) λ_ _=>aq λ_ _=>bh (R4 _ _) λ_ _=>aq λ_ _=>bh (R4 _ _) λ_ _=>aq λ_ _=>bh (R4 _ _) λ_ _=>trivial
theorem Zj0(m:av):(Mj m).w U:=by
 unfold Mj
 exact bh (qaC m) λ_ _=>Jo _ _
theorem vB(m:av):(Mk m).w (λ_=>True):=by
 unfold Mk
 exact aa (λ_=>bh (Zj0 m) λ_ _=>trivial) (λ_=>trivial)
theorem Xt(m:av):(Jz m).w (λ_=>True):=by
 unfold Jz
 exact aq λ_ _=>aa (λ_=>trivial) (λ_=>aa (λ_=>trivial) (λ_=>bh (vB m) λ_ _=>aa (λ_=>trivial) (λ_=>trivial)))
theorem Ty{m:av}(h:iz m.B0):(Ml m).w iz:=by
 unfold Ml
 refine bh (Zj0 m) λx0 hx=>aa (λ_=>h) (λ_=>aa (λ_=>h) (λhb=>?_))
 have hb:x0≠0:=by simpa using hb
 have sh:∀z:Int,0<=z->z<=31->bg .u32 x0 (wrap .u64 z)=x0/2^z.toNat:=λz h1 h2=>by
  unfold bg
  have e:min (wrap .u64 z).toNat u32.bits=z.toNat:=by
   show min (wrap .u64 z).toNat 32=z.toNat
   rw[wrap_u64];omega
  rw[e,dP _ (dQ (dO (by decide)))]
 refine fi (inv:=λz=>0<=z/\z<=31/\x0/2^z.toNat≠0) (μ:=Qdn m) ⟨by omega,by omega,by simpa using hb⟩ (cO _) (λz hz=>?_)
 obtain⟨z1,z2,z3⟩:=hz
 refine au (dY (by rw[wrap_u64];omega)) (aa (λe=>ea ?_) (λ_=>aq λy hy=>hy▸Kw h _ ey))
 have e:=eq_of_beq e
 have hq:=AU hx (wrap .u64 z)
 rw[FN hq,sh z z1 z2]at e
 rw[sh z z1 z2]at hq
 have bz:x0/2^z.toNat/2≠0:=by omega
 have z4:z<=30:=by
  rcases Int.lt_or_le z 31 with h|h
  ·omega
  ·have:z=31:=by omega
   subst this
   have:=hx.2
   have:=hx.1
   simp at z3 e bz
   omega
 show(0<=i64.wrap (z+1)/\i64.wrap (z+1)<=31/\x0/2^(i64.wrap (z+1)).toNat≠0)/\(32-i64.wrap (z+1)).toNat<(32-z).toNat
 have ew:i64.wrap (z+1)=z+1:=by rw[wrap_i64];omega
 rw[ew]
 refine⟨⟨by omega,by omega,?_⟩,by omega⟩
 have et:(z+1).toNat=z.toNat+1:=by omega
 rw[et,Int.pow_succ,<-Int.ediv_ediv_of_nonneg (dQ (dO (by decide)))]
 exact bz
theorem TC{m:av}(h:iz m.B0)(hm:fg P m.Mem):(R7 m).w (λ_=>True):=by
 unfold R7
 refine bh (Ty h) λx0 hx=>aa (λ_=>trivial) (λ_=>bh (OY hm hx.pc (.inr rfl)) λx1 _=>aq λx2 _=>?_)
 exact aa (λ_=>aa (λ_=>aa (λ_=>trivial) (λ_=>trivial)) (λ_=>trivial)) (λ_=>trivial)
theorem Z0u{m:av}(h:iz m.B0)(hm:fg P m.Mem):(R8 m).w (λ_=>True):=by
 unfold R8
 exact bh (Xt m) λ_ _=>aa (λ_=>trivial) (λ_=>bh (TC h hm) λ_ _=>trivial)
theorem Ol(l:List Int):(bytesOf l).length=l.length:=by simp[bytesOf]
theorem T9(l:List UInt8):(iW l).length=l.length:=by simp[iW]
theorem R9(x:Int):(M9 x 4).w (λr=>r.length=4):=by
 unfold M9
 refine fi (inv:=λz=>0<=z.1/\z.1<=4/\(z.2.length:Int)=z.1) (μ:=VM x 4) ⟨by omega,by omega,rfl⟩ (cO _) (λz hz=>?_)
 obtain⟨z1,z2,z3⟩:=hz
 refine aa (λh=>au (dY (by rw[wrap_u64];omega)) (au (dY (by omega)) (ea ?_))) (λh=>?_)
 ·have h:=oY h
  show(0<=i64.wrap (z.1+1)/\i64.wrap (z.1+1)<=4/\((z.2++[_]).length:Int)=i64.wrap (z.1+1))/\(4-i64.wrap (z.1+1)).toNat<(4-z.1).toNat
  have ew:i64.wrap (z.1+1)=z.1+1:=by rw[wrap_i64];omega
  rw[ew]
  refine⟨⟨by omega,by omega,by simp;omega⟩,by omega⟩
 ·have h:=oN h
  show(bytesOf z.2).length=4
  rw[Ol];omega
theorem qad(hm:fg P m)(frame:Int):(Hh m frame).w (λr=>0<=frame->frame<P->r.1.length=128):=by
 have hp:=Et hm
 have hl:=hm.len
 have h2:=hm.p2
 unfold Hh
 refine aa (λh=>λh0 _=>by have:=oY h;omega) (λh=>aq λx0 hx=>aa (λh1=>λ_ h2=>by have:=oY h1;rw[hx,hp]at this;omega) (λh1=>?_))
 have h:=oN h
 have h1:=oN h1
 rw[hx,hp]at h1
 refine fi (inv:=λz=>0<=z.1/\z.1<=32/\(z.2.length:Int)=4*z.1) (μ:=X5 m frame) ⟨by omega,by omega,rfl⟩ (cO _) (λz hz=>?_)
 obtain⟨z1,z2,z3⟩:=hz
 refine aa (λhb=>?_) (λhb=>?_)
 ·have hb:=oY hb
  have e:wrap i64 (wrap i64 (frame*32)+z.1)=frame*32+z.1:=by rw[wrap_i64,wrap_i64];omega
  refine au (by rw[e];simp[bJ];omega) (cj (show(4:Int)<=1000000000000 by decide) (N4 (R9 _) λx1 h4=>au (dY (by rw[T9,h4];omega)) (ea ?_)))
  show(0<=i64.wrap (z.1+1)/\i64.wrap (z.1+1)<=32/\((z.2++iW x1).length:Int)=4*i64.wrap (z.1+1))/\(32-i64.wrap (z.1+1)).toNat<(32-z.1).toNat
  have ew:i64.wrap (z.1+1)=z.1+1:=by rw[wrap_i64];omega
  rw[ew,lA,T9,h4]
  exact⟨⟨by omega,by omega,by omega⟩,by omega⟩
 ·have hb:=oN hb
  intro _ _
  show(bytesOf z.2).length=128
  rw[Ol];omega
theorem Zhd(hm:fg P m)(hd:oG d)(port:Int)(hv:U v)(cr:Int):(Hp d m port v cr).w (λr=>oG r.1/\r.2.length<=1):=by
 have k:∀st,oG {ag:=d.ag,C2:=d.C2,Frame:=d.Frame,B8:=st,D5:=d.D5,B6:=d.B6,B2:=d.B2,B7:=d.B7}:=λst=>⟨hd.block,hd.frame,hd.kE,hd.ie⟩
 have k2:∀c o,oG {ag:=d.ag,C2:=d.C2,Frame:=d.Frame,B8:=1,D5:=c,B6:=d.C2,B2:=d.Frame,B7:=o}:=λc o=>⟨hd.block,hd.frame,hd.block,hd.frame⟩
 have k3:oG {ag:=d.ag,C2:=v,Frame:=d.Frame,B8:=d.B8,D5:=d.D5,B6:=d.B6,B2:=d.B2,B7:=d.B7}:=⟨hv,hd.frame,hd.kE,hd.ie⟩
 have k4:oG {ag:=d.ag,C2:=d.C2,Frame:=v,B8:=d.B8,D5:=d.D5,B6:=d.B6,B2:=d.B2,B7:=d.B7}:=⟨hd.block,hv,hd.kE,hd.ie⟩
 unfold Hp
 repeat'(first
  |refine aa (λ_=>?_) (λ_=>?_)
  |exact bh (qad hm _) λ_ _=>aq λ_ _=>⟨k2 _ _,aO _⟩
  |refine aq (λ_ _=>?_)
  |refine dc ?_)
 all_goals(first
  |exact⟨hd,aT _⟩
  |exact⟨k _,aT _⟩
  |exact⟨k2 _ _,aO _⟩
  |exact⟨k3,aT _⟩
  |exact⟨k4,aT _⟩)
theorem Zq1(hm:fg P m)(hn:pB n)(port:Int)(hv:U v)(cr:Int):(Mb n m port v cr).w (λr=>pB r.1/\r.2.length<=1):=by
 have k1:pB {Frame:=v,D9:=n.D9,C5:=n.C5,B9:=n.B9,B5:=n.B5,F0:=n.F0}:=⟨hv,hn.len,hn.buffer,hn.G3⟩
 have k2:pB {Frame:=n.Frame,D9:=v,C5:=n.C5,B9:=n.B9,B5:=n.B5,F0:=n.F0}:=⟨hn.frame,hv,hn.buffer,hn.G3⟩
 have k3:pB {Frame:=n.Frame,D9:=n.D9,C5:=n.C5,B9:=n.B9,B5:=false,F0:=0}:=⟨hn.frame,hn.len,hn.buffer,ey⟩
 have k4:∀p r,pB {Frame:=n.Frame,D9:=n.D9,C5:=p,B9:=n.Frame,B5:=r,F0:=n.F0}:=λp r=>⟨hn.frame,hn.len,hn.frame,hn.G3⟩
 have send:∀K:List UInt8×Bool->Tree (ik×List dk),ob m n.Frame=true->(∀x:List UInt8×Bool,x.1.length=128->(K x).w (λr=>pB r.1/\r.2.length<=1))->(Tree.an (Qh2 m (wrap .i64 n.Frame)) (.lv (LQ m (wrap .i64 n.Frame)) K)).w (λr=>pB r.1/\r.2.length<=1):=λK hp hK=>by
  rw[FO hm hn.frame]at hp
  have hp:=oY hp
  obtain⟨f1,f2⟩:=hn.frame
  have ew:i64.wrap n.Frame=n.Frame:=by rw[wrap_i64];omega
  exact bh (qad hm _) λx hx=>hK x (hx (by rw[ew];exact f1) (by rw[ew];exact hp))
 unfold Mb
 repeat'(first
  |refine aa (λ_=>?_) (λ_=>?_)
  |refine send _ (by simp_all) (λx hx=>au (by simp_all;exact hn.len.1) ?_)
  |refine aq (λ_ _=>?_)
  |refine dc ?_)
 all_goals(first
  |exact⟨hn,aT _⟩
  |exact⟨hn,aO _⟩
  |exact⟨k1,aT _⟩
  |exact⟨k2,aT _⟩
  |exact⟨k3,aT _⟩
  |exact⟨k4 _ _,aT _⟩)
def okB(b:iu):Prop:=U b.C7/\U b.C4
theorem zad(hm:fg P m){b:iu}(hb:okB b)(port:Int)(hv:U v):(BD b m port v).w (λr=>okB r.1/\fg P r.2):=by
 have wR:decide (0<=v)=true:=dY hv.1
 have h2:=hm.p2
 have rest:(Tree.br (port==11) (.br (decide (v<32)) (.cn (decide (0<=v)) (.lf (({C7:=b.C7,C4:=oa .u32 b.C4 (ek .u32 1 v)}:iu),m))) (.lf (b,m))) (.lf (b,m))).w (λr=>okB r.1/\fg P r.2):=
  aa (λ_=>aa (λ_=>au wR ⟨⟨hb.1,fm _⟩,hm⟩) (λ_=>⟨hb,hm⟩)) (λ_=>⟨hb,hm⟩)
 unfold BD
 refine aa (λ_=>aq λx0 hx=>aa (λhp=>au wR (aa (λ_=>au wR ?_) (λ_=>rest))) (λ_=>rest)) (λ_=>rest)
 have hp:ob m v=true:=hx.symm.trans hp
 rw[FO hm hv]at hp
 have hp:=oY hp
 obtain⟨v1,v2⟩:=hv
 refine fi (inv:=λz=>0<=z.1/\z.1<=32/\fg P z.2) (μ:=Yw b m port v) ⟨by omega,by omega,hm⟩ (cO _) (λz hz=>?_)
 obtain⟨z1,z2,z3⟩:=hz
 have hl:=z3.len
 refine aa (λh=>?_) (λ_=>⟨⟨hb.1,fm _⟩,z3⟩)
 have h:=oY h
 have e:wrap i64 (wrap i64 (wrap i64 v*32)+z.1)=v*32+z.1:=by rw[wrap_i64,wrap_i64,wrap_i64];omega
 refine au (by rw[e];simp[bJ];omega) (ea ?_)
 show(0<=i64.wrap (z.1+1)/\i64.wrap (z.1+1)<=32/\fg P (dG _ _ _))/\(32-i64.wrap (z.1+1)).toNat<(32-z.1).toNat
 have ew:i64.wrap (z.1+1)=z.1+1:=by rw[wrap_i64];omega
 rw[ew]
 exact⟨⟨by omega,by omega,⟨by simp[hl],z3.p1,z3.p2,Ek z3.u ey _⟩⟩,by omega⟩
structure nN(P:Nat)(m:av):Prop where
 lK:iz m.B0
 mem:fg P m.Mem
 kQ:oG m.A7
 si:pB m.C1
 target:okB m.A2
 lM:0<=m.A1
theorem Z5l(c:iY)(port:Int):U (Ju c port).2:=by
 refine Tree.post (Ho c port) (W:=λr=>U r.2) ?_
 have u1:U 4294967295:=⟨by omega,by omega⟩
 unfold Ho
 refine aa (λ_=>aa (λ_=>u1) (λh=>aa (λ_=>au ?_ (au ?_ (fm _))) (λ_=>aa (λ_=>fm _) (λ_=>ey)))) (λh1=>aa (λh=>(by rw[h1]at h;cases h)) (λ_=>aa (λ_=>fm _) (λ_=>ey)))
 ·have h:¬(c.C9.length:Int)=0:=by simpa using h
  exact dY ⟨by omega,by omega,by omega⟩
 ·have h:¬(c.C9.length:Int)=0:=by simpa using h
  simp[bJ];omega
theorem qC(h:pB n)(port:Int):U (OZ n port):=by
 refine Tree.post (O0 n port) (W:=U) ?_
 have u1:U 1:=⟨by omega,by omega⟩
 unfold O0
 exact aa (λ_=>h.frame) (λ_=>aa (λ_=>h.G3) (λ_=>aa (λ_=>aa (λ_=>aa (λ_=>fm _) (λ_=>u1)) (λ_=>aa (λ_=>fm _) (λ_=>ey))) (λ_=>ey)))
theorem Zp8(h:oG d)(port:Int):U (Uw d port):=by
 refine Tree.post (VN d port) (W:=U) ?_
 unfold VN
 exact aa (λ_=>h.block) (λ_=>aa (λ_=>h.frame) (λ_=>aa (λ_=>fm _) (λ_=>ey)))
theorem Zhe(t:iZ):U (Ux t):=by
 refine Tree.post (VO t) (W:=U) ?_
 unfold VO
 exact aa (λ_=>⟨by omega,by omega⟩) (λ_=>ey)
theorem Z4u{b:iu}(h:U b.C7)(port:Int):U (Q5 b port):=by
 refine Tree.post (Mf b port) (W:=U) ?_
 unfold Mf
 exact aa (λ_=>h) (λ_=>aa (λ_=>aq λ_ _=>fm _) (λ_=>ey))
structure pA(P:Nat)(r:dj):Prop where
 m:nN P r.A0
 clock:U r.B4
structure Ib(P:Nat)(r x:dj):Prop where
 ok:pA P x
 log:x.C8=r.C8
 queue:x.B1=r.B1
theorem w0(x:Int):0<=u64.wrap x:=by rw[wrap_u64];omega
section
variable {P:Nat} {r:dj} (h:pA P r)
include h
theorem Jal(port:Int)(hc:U clock):(Pf r port clock).w (λx=>U x.1/\Ib P r x.2):=by
 have k:Ib P r r:=⟨h,rfl,rfl⟩
 obtain⟨⟨h1,h2,h3,h4,h5,h7⟩,h6⟩:=h
 unfold Pf
 exact aa (λ_=>aq λx hx=>⟨hx▸Z5l _ _,⟨⟨⟨h1,h2,h3,h4,h5,h7⟩,h6⟩,rfl,rfl⟩⟩) (λ_=>aa (λ_=>⟨hc,k⟩) (λ_=>aa (λ_=>aq λx hx=>⟨hx▸Zhe _,k⟩) (λ_=>aa (λ_=>aq λx hx=>⟨hx▸Zp8 h3 _,k⟩) (λ_=>aa (λ_=>aq λx hx=>⟨hx▸qC h4 _,k⟩) (λ_=>aq λx hx=>⟨hx▸Z4u h5.1 _,k⟩)))))
theorem Sa(port:Int)(hv:U v):(Mp r port v).w (λx=>x.1.length<=1/\Ib P r x.2):=by
 have k:Ib P r r:=⟨h,rfl,rfl⟩
 obtain⟨⟨h1,h2,h3,h4,h5,h7⟩,h6⟩:=h
 unfold Mp
 exact aa (λ_=>⟨aO _,k⟩) (λ_=>aa (λ_=>⟨aT _,k⟩) (λ_=>aa (λ_=>aq λ_ _=>⟨aT _,⟨⟨⟨h1,h2,h3,h4,h5,h7⟩,h6⟩,rfl,rfl⟩⟩) (λ_=>aa (λ_=>bh (Zhd h2 h3 _ hv _) λx hx=>⟨hx.2,⟨⟨⟨h1,h2,hx.1,h4,h5,h7⟩,h6⟩,rfl,rfl⟩⟩) (λ_=>aa (λ_=>bh (Zq1 h2 h4 _ hv _) λx hx=>⟨hx.2,⟨⟨⟨h1,h2,h3,hx.1,h5,h7⟩,h6⟩,rfl,rfl⟩⟩) (λ_=>bh (zad h2 h5 _ hv) λx hx=>⟨aT _,⟨⟨⟨h1,hx.2,h3,h4,hx.1,h7⟩,h6⟩,rfl,rfl⟩⟩)))))
theorem Tx(hc:U clock):(Ms r clock).w (λx=>x.1.length<=1/\Ib P r x.2):=by
 obtain⟨⟨h1,h2,h3,h4,h5,h7⟩,h6⟩:=h
 unfold Ms
 refine bh (Ty h1) λx0 c0=>bh (Fz c0 h2) λx1 hx=>?_
 obtain⟨c1,v1,m1⟩:=hx
 refine aa (λ_=>N4 (Jal (r:=⟨⟨_,_,_,_,_,_,_,_,_,_⟩,_,_,_⟩) ⟨⟨c1,m1,h3,h4,h5,h7⟩,h6⟩ _ hc) λx2 hx=>?_) (λ_=>aa (λ_=>bh (Sa (r:=⟨⟨_,_,_,_,_,_,_,_,_,_⟩,_,_,_⟩) ⟨⟨c1,m1,h3,h4,h5,h7⟩,h6⟩ _ v1) λx4 hx=>?_) (λ_=>?_))
 ·obtain⟨u,⟨⟨⟨k1,k2,k3,k4,k5,k7⟩,k6⟩,e1,e2⟩⟩:=hx
  exact bh (Eh k1 _ u) λx3 h3=>⟨aT _,⟨⟨⟨h3,k2,k3,k4,k5,w0 _⟩,k6⟩,e1,e2⟩⟩
 ·obtain⟨u,⟨⟨⟨k1,k2,k3,k4,k5,k7⟩,k6⟩,e1,e2⟩⟩:=hx
  exact⟨u,⟨⟨⟨k1,k2,k3,k4,k5,w0 _⟩,k6⟩,e1,e2⟩⟩
 ·repeat'(first
   |exact⟨aT _,⟨⟨⟨c1,m1,h3,h4,h5,w0 _⟩,h6⟩,rfl,rfl⟩⟩
   |refine aa (λ_=>?_) (λ_=>?_))
end
theorem xad(c:iY)(b:Int):(Sb c b).w (λ_=>True):=by
 unfold Sb
 refine aa (λ_=>trivial) (λh=>au (dY ?_) trivial)
 have h:=oN h
 simp[maxLen];omega
theorem Zod(hm:fg P m)(hn:pB n)(frame:List UInt8):(Md n m frame).w (λr=>pB r.1/\fg P r.2.2):=by
 unfold Md
 refine aa (λ_=>⟨hn,hm⟩) (λ_=>aa (λ_=>⟨hn,hm⟩) (λ_=>aa (λ_=>⟨hn,hm⟩) (λ_=>aq λx0 hx=>aa (λ_=>⟨hn,hm⟩) (λhb=>?_))))
 have hp:ob m n.B9=true:=hx.symm.trans (by simpa using hb)
 rw[FO hm hn.buffer]at hp
 have hp:=oY hp
 obtain⟨b1,b2⟩:=hn.buffer
 have ew:i64.wrap n.B9=n.B9:=by rw[wrap_i64];omega
 exact bh (zac hm (frame:=i64.wrap n.B9) (by rw[ew];exact b1) (by rw[ew];exact hp) frame) λx hx=>⟨⟨hn.frame,hn.len,ey,fm _⟩,hx⟩
section
variable {P:Nat} {r:dj} (h:pA P r)
include h
theorem zaC(he:U e.N):(Mq r e).w (λx=>Ib P r x.2):=by
 have k:Ib P r r:=⟨h,rfl,rfl⟩
 obtain⟨⟨h1,h2,h3,h4,h5,h7⟩,h6⟩:=h
 unfold Mq
 repeat'(first
  |exact k
  |exact⟨⟨⟨h1,h2,h3,h4,⟨he,h5.2⟩,h7⟩,h6⟩,rfl,rfl⟩
  |exact aq λ_ _=>⟨⟨⟨h1,h2,h3,h4,h5,h7⟩,h6⟩,rfl,rfl⟩
  |exact bh (xad _ _) λ_ _=>⟨⟨⟨h1,h2,h3,h4,h5,h7⟩,h6⟩,rfl,rfl⟩
  |exact bh (Zqe h2 h3 _) λx hx=>⟨⟨⟨h1,hx.2,hx.1,h4,h5,h7⟩,h6⟩,rfl,rfl⟩
  |exact bh (Zod h2 h4 _) λx hx=>⟨⟨⟨h1,hx.2,h3,hx.1,h5,h7⟩,h6⟩,rfl,rfl⟩
  |refine aa (λ_=>?_) (λ_=>?_))
theorem xC(he:U e.N)(hl:r.C8.length<=1000000):(Mu r e).w (λx=>pA P x/\x.C8.length<=r.C8.length+1/\x.B1=r.B1):=by
 have acc:(Mt r e).w (λx=>Ib P r x.2):=by
  unfold Mt
  exact bh (zaC h he) λx hx=>hx
 unfold Mu
 refine bh acc λx hx=>?_
 obtain⟨⟨k1,k2⟩,e1,e2⟩:=hx
 refine aa (λ_=>au (dY (by rw[e1];omega)) ⟨⟨k1,k2⟩,by simp[e1],e2⟩) (λ_=>⟨⟨k1,k2⟩,by rw[e1];omega,e2⟩)
theorem GS(hl:r.C8.length<=1000000)(hq:r.B1.length<=1000000):(Mv r).w (λx=>pA P x/\x.C8=r.C8/\x.B1=r.B1):=by
 have ow:(GU r.A0).w (λm=>nN P m):=by
  obtain⟨⟨h1,h2,h3,h4,h5,h7⟩,h6⟩:=h
  unfold GU
  exact bh (qac h2) λx hx=>⟨h1,by rw[hx];exact h2,h3,h4,h5,h7⟩
 unfold Mv
 refine bh ow λx hx=>au (dY (by simp;omega)) (au (dY (by simp;omega)) ⟨⟨hx,h.clock⟩,rfl,rfl⟩)
theorem vV(e:ib)(hl:r.C8.length<=1000000)(hq:r.B1.length<=16)(hu:∀q∈r.B1,U q.N)(he:U e.N):(Mw r e).w (λx=>pA P x.1/\x.1.C8=r.C8/\x.1.B1.length<=16/\∀q∈x.1.B1,U q.N):=by
 unfold Mw
 refine bh (GS h hl (by omega)) λx hx=>?_
 obtain⟨k1,k2,k3⟩:=hx
 have g:pA P x/\x.C8=r.C8/\x.B1.length<=16/\∀q∈x.B1,U q.N:=⟨k1,k2,by rw[k3];exact hq,by rw[k3];exact hu⟩
 refine aq λx1 _=>aa (λ_=>g) (λ_=>aa (λ_=>g) (λ_=>aa (λ_=>g) (λhb=>au (dY (by rw[k3];omega)) ?_)))
 have hb:=oN hb
 refine⟨⟨k1.m,k1.clock⟩,k2,?_,?_⟩
 ·show(x.B1++[e]).length<=16
  rw[lA];simp at hb⊢;omega
 ·intro q hq
  have hq:q∈x.B1++[e]:=hq
  rw[List.mem_append]at hq
  rcases hq with hq|hq
  ·exact hu q (k3▸hq)
  ·rw[List.mem_singleton.1 hq];exact he
end
theorem zC(n:Int):(Sc n).w (λe=>U e.N):=by
 have u1:U 1:=⟨by omega,by omega⟩
 have Jam:∀x y,Na x (wrap .i64 (1+dE y 40)):=λx y=>by
  show wrap .i64 (1+dE y 40)<=1000000000000
  have h1:=Int.tmod_lt_of_pos y (b:=40) (by decide)
  have h2:=Int.lt_tmod_of_pos y (b:=40) (by decide)
  rw[wrap_i64];omega
 unfold Sc
 refine aq λx0 _=>?_
 repeat'(first
  |exact ey
  |exact u1
  |exact fm _
  |exact cj (show(128:Int)<=1000000000000 by decide) (aq λ_ _=>u1)
  |exact cj (Jam _ _) (aq λ_ _=>ey)
  |refine aa (λ_=>?_) (λ_=>?_))

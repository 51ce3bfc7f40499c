import Derived.Test.YthjfindbamdacaaGreatDoorAuditFewerZx
open List renaming set->dG,mem_cons->cS,not_mem_nil->cU
open Nat renaming blt->bJ,beq->bT,lt_succ_self->cO,le_refl->aO,zero_le->aT
open Int renaming pow_pos->dO,le_of_lt->dQ,fdiv_eq_ediv_of_nonneg->dP,tmod->dE,mul_tmod_right->hJ,mul_tdiv_cancel_left->hY,tdiv->eU,tdiv_eq_ediv_of_nonneg->eV,emod_eq_of_lt->dM,lt_of_lt_of_le->hZ,le_of_eq->iA
open BitVec renaming ofInt->dW,toNat_and->eA
set_option maxRecDepth 100000
set_option linter.all false
namespace Go.Proofs.YthjfindbamdacaaGreatDoor
open Go Go.GD
open Go.IntKind(wrap i64 u32 u64 u8 i32 wrap_i64 wrap_u32 wrap_u64 wrap_u8 wrap_i32)
def U(x:Int):Prop:=0<=x/\x<4294967296
theorem fj(x:Int):U (u32.wrap x):=by rw[wrap_u32];unfold U;omega
theorem Zk(x y:Int):U (bg .u32 x y):=fj _
theorem nh(x y:Int):U (ir .u32 x y):=fj _
theorem ep:U 0:=⟨by omega,by omega⟩
theorem Eb{m:List Int}(h:∀w∈m,U w){v:Int}(hv:U v)(i:Nat):∀w∈m.set i v,U w:=by
 intro w hw
 rcases List.mem_or_eq_of_mem_set hw with h1|h1
 ·exact h w h1
 ·rw[h1];exact hv
structure eu(P:Nat)(m:List Int):Prop where
 len:m.length=32*P
 p1:0<=P
 p2:P<=32
 u:∀w∈m,U w
structure oF(d:fp):Prop where
 block:U d.C4
 frame:U d.Frame
 ku:U d.B9
 ib:U d.B5
structure pD(n:ia):Prop where
 frame:U n.Frame
 len:U n.F1
 buffer:U n.C2
 G0:U n.F4
theorem AN{l:List Int}(h:∀w∈l,U w)(i:Nat):U (l.getD i 0):=by
 by_cases hi:i<l.length
 ·have:l.getD i 0=l[i]:=by simp[List.getD,hi]
  rw[this];exact h _ (List.getElem_mem hi)
 ·have:l.getD i 0=0:=by simp[List.getD,List.getElem?_eq_none (by omega:l.length<=i)]
  rw[this];exact ep
structure iz(c:bj):Prop where
 x:∀w∈iV.l c.X,U w
 pc:U c.Pc
 jt:∀w∈A8.l c.B7,U w
theorem XF{X:iV Int}(h:∀w∈iV.l X,U w){v:Int}(hv:U v)(i:Nat):∀w∈iV.l (iV.of 0 (dG (iV.l X) i v)),U w:=by
 have hs:=Eb h hv i
 intro w hw
 simp only[iV.l,iV.of,cS,cU,or_false]at hw
 repeat(first|(rcases hw with rfl|hw;· exact AN hs _)|(subst hw;exact AN hs _))
theorem Zip{X:A8 Int}(h:∀w∈A8.l X,U w){v:Int}(hv:U v)(i:Nat):∀w∈A8.l (A8.of 0 (dG (A8.l X) i v)),U w:=by
 have hs:=Eb h hv i
 intro w hw
 simp only[A8.l,A8.of,cS,cU,or_false]at hw
 repeat(first|(rcases hw with rfl|hw;· exact AN hs _)|(subst hw;exact AN hs _))
section
variable {c:bj} (h:iz c)
include h
theorem iz.a(i:Nat):U ((A8.l c.B7).getD i 0):=AN h.jt i
theorem iz.r(i:Nat):U ((iV.l c.X).getD i 0):=AN h.x i
theorem iz.a0:U c.B7.a0:=h.a 0
theorem iz.a1:U c.B7.a1:=h.a 1
theorem iz.a2:U c.B7.a2:=h.a 2
theorem iz.a3:U c.B7.a3:=h.a 3
theorem iz.a4:U c.B7.a4:=h.a 4
theorem iz.a5:U c.B7.a5:=h.a 5
theorem iz.a6:U c.B7.a6:=h.a 6
theorem iz.a7:U c.B7.a7:=h.a 7
theorem iz.Bm{p:Int}(hp:U p):iz {X:=c.X,Pc:=p,B7:=c.B7}:=⟨h.x,hp,h.jt⟩
end
section
variable {α β:Type} {W:β->Prop} {t:Tree α} {Q:α->Prop} {k:α->Tree β}
theorem bo(hq:t.w Q)(g:∀x,Q x->(k x).w W):(Tree.an t.p (Tree.lv t.m k)).w W:=⟨(Tree.pp hq).1,λy hy=>g y (by rw[hy];exact(Tree.pp hq).2)⟩
theorem NY(hq:t.w Q)(g:∀x,Q x->(k x).w W):(Tree.lv t.m k).w W:=λy hy=>g y (by rw[hy];exact t.post hq)
end
theorem rc{r:Int}(h:0<=r/\r<16):(bJ 0 1&&decide (0<=r/\r<((16:Nat):Int)))=true:=by simp[bJ];omega
theorem AM{a:Int}(h:U a)(b:Int):U (bh .u32 a b):=by
 unfold bh U
 obtain⟨h1,h2⟩:=h
 have hp:(0:Int)<2^(min b.toNat u32.bits):=dO (by decide)
 have:=Int.fdiv_nonneg h1 (dQ hp)
 refine⟨this,?_⟩
 rw[dP _ (dQ hp)]
 have h3:=Int.ediv_le_self (2^(min b.toNat u32.bits)) h1
 omega
structure sV(i:gu):Prop where
 a:0<=i.A/\i.A<16
 b:0<=i.B/\i.B<16
 c:0<=i.C/\i.C<16
 jt:i.Op=58->0<=i.bq/\i.bq<8
theorem XX{P:Nat}{m:List Int}(h:eu P m):mb m=P:=by
 obtain⟨h1,h2,h3,_⟩:=h
 simp only[mb,Q8,Tree.m]
 have e:(m.length:Int)=32*P:=by omega
 rw[e]
 have e1:(dE (32*(P:Int)) 32 !=0)=false:=by simp[hJ]
 have e2:decide ((32*(P:Int))>1024)=false:=dN (by omega)
 rw[e1,e2]
 simp only[cond_false]
 rw[hY _ (by decide),wrap_i64];omega
theorem xaa(n:Int):(Rz n).w (λ_=>True):=by
 unfold Rz
 exact aa (λ_=>trivial) (λ_=>ay (dY (by rw[wrap_u64];omega)) trivial)
theorem MZ(w low n:Int):(RA w low n).w U:=by
 unfold RA
 exact aa (λ_=>ep) (λ_=>aa (λ_=>ep) (λ_=>aa (λ_=>ep) (λ_=>ay (dY (by rw[wrap_u64];omega)) (bo (xaa n) λ_ _=>Zk _ _))))
theorem Zpf{w:Int}(hw:U w)(low n v:Int):(RB w low n v).w U:=by
 have h0:decide (0<=wrap u64 low)=true:=dY (by rw[wrap_u64];omega)
 unfold RB
 exact aa (λ_=>hw) (λ_=>aa (λ_=>hw) (λ_=>aa (λ_=>hw) (λ_=>bo (xaa n) λ_ _=>ay h0 (ay h0 (nh _ _)))))
theorem Xy{x:Int}(hx:U x)(n:Int):(RC x n).w U:=by
 have h0:∀y,decide (0<=wrap u64 y)=true:=λy=>dY (by rw[wrap_u64];omega)
 unfold RC
 exact aa (λ_=>ep) (λ_=>aa (λ_=>hx) (λ_=>ay (h0 _) (ay (h0 _) (fj _))))
section
variable {P:Nat} {m:List Int} (h:eu P m)
include h
theorem r7:mQ m:=by
 have:=h.len
 have:=h.p2
 show m.length<=35184372088832
 omega
theorem Zi{a:Int}(ha:U a){size:Int}(hs:size=1\/size=4):(Jq m a size).w (λb=>b=true->a+size<=128*P):=by
 have hp:=XX h
 have h2:=h.p2
 obtain⟨a1,a2⟩:=ha
 have e:decide (wrap u32 size≠0)=true:=by rcases hs with rfl|rfl<;>decide
 have l:∀x,x=mb m->decide (wrap u64 (wrap u64 a+wrap u64 size)<=wrap u64 (wrap u64 x*128))=true->a+size<=128*P:=λx hx hd=>by
  rw[hx,hp]at hd
  have:=oY hd
  simp only[wrap_u64]at this
  omega
 unfold Jq
 refine aa (λ_=>aa (λ_=>λh=>by cases h) (λ_=>?_)) (λ_=>?_)<;>
 exact ay e (aa (λ_=>λh=>by cases h) (λ_=>ar λx hx=>l x hx))
theorem Gm{a:Int}(ha:U a)(hl:a<128*P):(bT 1 1&&bJ 0 1&&decide (0<=wrap u32 (eU a 4)/\wrap u32 (eU a 4)<(m.length:Int)))=true:=by
 obtain⟨a1,a2⟩:=ha
 have e:wrap u32 (eU a 4)=a/4:=by rw[wrap_u32,eV a1];omega
 have:=h.len
 rw[e];simp[bJ];omega
theorem Ji{a:Int}(ha:U a){size:Int}(hs:size=1\/size=4):(LK m a size).w (λr=>U r.1/\(r.2=true->a<128*P)):=by
 unfold LK
 refine bo (Zi h ha hs) λx hx=>aa (λ_=>⟨ep,λh=>by cases h⟩) (λhb=>?_)
 have hl:=hx (by simpa using hb)
 have hl:a<128*P:=by omega
 exact ay (Gm h ha hl) (aa (λ_=>bo (MZ _ _ _) λy hy=>⟨hy,λ_=>hl⟩) (λ_=>⟨AN h.u _,λ_=>hl⟩))
theorem TG{a:Int}(ha:U a){size:Int}(hs:size=1\/size=4){v:Int}(hv:U v):(LN m a size v).w (λr=>eu P r.1):=by
 have st:∀i v,U v->eu P (m.set i v):=λi v hv=>⟨by simp[h.len],h.p1,h.p2,Eb h.u hv i⟩
 have gm:jF m=m:=rfl
 unfold LN
 refine cz (r7 h) (ar λx0 nP=>?_)
 rw[gm]at nP;subst nP
 refine bo (Zi h ha hs) λx hx=>aa (λ_=>h) (λhb=>?_)
 have hl:=hx (by simpa using hb)
 have hl:a<128*P:=by omega
 exact aa (λ_=>ay (Gm h ha hl) (bo (Zpf (AN h.u _) _ _ _) λy hy=>ay (Gm h ha hl) (st _ _ hy))) (λ_=>ay (Gm h ha hl) (st _ _ hv))
end
theorem Zks{r:Int}{used:Bool}(h:LD r used=true):0<=r/\r<16:=by
 simp only[LD,TM,Tree.m]at h
 cases used
 ·have h:(r==0)=true:=h
  have:=eq_of_beq h;omega
 ·cases h1:decide (r>=0)<;>rw[h1]at h
  ·cases h
  ·have h1:=oY h1
   have h:=oY h
   omega
theorem zz{i:gu}(h:Jn i=true):sV i:=by
 have no:false=true->sV i:=λh=>by cases h
 refine(Tree.post (Qi i) (W:=λb=>b=true->sV i) ?_) h
 unfold Qi
 refine ar λx0 h0=>aa (λ_=>ar λx1 h1=>aa (λb1=>ar λx2 h2=>aa (λb2=>ar λx3 h3=>aa (λb3=>aa (λb4=>λb5=>?_) (λ_=>no)) (λ_=>no)) (λ_=>no)) (λ_=>no)) (λ_=>no)
 have b4:=oY b4
 have b5:=oY b5
 refine⟨Zks (h1.symm.trans b1),Zks (h2.symm.trans b2),Zks (h3.symm.trans b3),λe=>?_⟩
 rw[e]at h0
 have h0:x0=({a:=true,b:=false,c:=false,low:=0,D9:=7},true):=h0
 subst h0
 simp at b4 b5;omega
theorem XA(w:Int):(LG w).w (λr=>r.2=true->sV r.1):=by
 have no:∀{p:Prop},false=true->p:=λh=>by cases h
 have l:∀i,(Tree.lv (Jn i) λx=>.br (!x) (.lf ((⟨0,0,0,0,0⟩:gu),false)) (.lf (i,true))).w (λr=>r.2=true->sV r.1):=λi=>ar λx hx=>aa (λ_=>no) (λhb=>λ_=>zz (hx.symm.trans (by simpa using hb)))
 unfold LG
 exact bo (MZ _ _ _) λx0 _=>bo (MZ _ _ _) λx1 _=>bo (MZ _ _ _) λx2 _=>ar λx3 _=>aa (λ_=>no) (λ_=>bo (MZ _ _ _) λx4 h4=>aa (λ_=>l _) (λ_=>aa (λ_=>bo (Xy h4 _) λx6 _=>l _) (λ_=>l _)))
section
variable {P:Nat} {m:List Int} (h:eu P m)
include h
theorem vT{f:Int}(hf:U f):OI m f=decide (f<P):=by
 have:=XX h
 obtain⟨h1,h2⟩:=hf
 have h3:=h.p2
 simp only[OI,Qh6,Tree.m,df,this]
 congr 1
 rw[wrap_u64,wrap_u64,dM h1 (by omega),dM (by omega) (by omega)]
theorem zaA{root va:Int}(hv:U va)(access:Int):(LP m root va access).w (λt=>U t.Addr/\U t.F6):=by
 have bad:U (0:Int)/\U (0:Int):=⟨ep,ep⟩
 have fr:∀x,(RD x).w U:=λx=>by
  unfold RD
  exact bo (MZ _ _ _) λy hy=>hy
 unfold LP
 exact ar λx0 _=>aa (λ_=>bad) (λ_=>aa (λ_=>bad) (λ_=>ar λx1 _=>aa (λ_=>bad) (λ_=>bo (Ji h (fj _) (.inr rfl)) λx2 _=>aa (λ_=>bad) (λ_=>ar λx3 _=>aa (λ_=>bad) (λ_=>bo (fr _) λx4 _=>ar λx5 _=>aa (λ_=>bad) (λ_=>bo (fr _) λx6 _=>⟨fj _,fj _⟩))))))
theorem qU{a:Int}(ha:U a)(access:Int):(LQ m a access).w (eu P):=by
 have gm:jF m=m:=rfl
 unfold LQ
 exact bo (Ji h ha (.inr rfl)) λx0 _=>aa (λ_=>cz (r7 h) (ar λx1 h1=>by rw[h1,gm];exact h)) (λ_=>aa (λ_=>bo (TG h ha (.inr rfl) (nh _ _)) λx hx=>hx) (λ_=>bo (TG h ha (.inr rfl) (nh _ _)) λx hx=>hx))
theorem OB{c:bj}{va:Int}(hv:U va){size:Int}(hs:size=1\/size=4)(access:Int):(LW c m va size access).w (λr=>U r.1/\eu P r.2.1):=by
 have gm:jF m=m:=rfl
 have e:decide (wrap u32 size≠0)=true:=by rcases hs with rfl|rfl<;>decide
 have cl:∀(K:List Int->Int×List Int×Int),(∀x,x=m->U (K x).1/\eu P (K x).2.1)->(Tree.an (mQ m) (.lv (jF m) λx=>.lf (K x))).w (λr=>U r.1/\eu P r.2.1):=λK hK=>cz (r7 h) (ar λx hx=>hK x (hx.trans gm))
 have z:∀(k:Nat) (x:List Int),x=m->U (0:Int)/\eu P x:=λ_ x hx=>⟨ep,hx▸h⟩
 have v:∀x,x=m->U va/\eu P x:=λx hx=>⟨hv,hx▸h⟩
 have main:∀(x0:Int×Bool),(Tree.cn (decide (wrap u32 size≠0)) (.br (dE va (wrap u32 size) !=0) (.an (mQ m) (.lv (jF m) λx3=>.lf ((0:Int),x3,(3:Int)))) (.lv (Hg c) λx4=>.br (!x4) (.br (bg u32 c.B7.a0 4 !=0) (.an (Qh3 m c.B7.a6 va access) (.lv (TR m c.B7.a6 va access) λx5=>.br (x5.F5 !=0) (.an (mQ m) (.lv (jF m) λx6=>.lf (0,x6,x5.F5))) (.an (Qfo m x5.F6 access) (.lv (OJ m x5.F6 access) λx7=>.lf (x5.Addr,x7,0))))) (.an (Q4 m va size) (.lv (Cz m va size) λx8=>.br (!x8.2) (.an (mQ m) (.lv (jF m) λx9=>.lf (0,x9,x0.1))) (.an (mQ m) (.lv (jF m) λki=>.lf (va,ki,0)))))) (.an (Q4 m va size) (.lv (Cz m va size) λmI=>.br (!mI.2) (.an (mQ m) (.lv (jF m) λlO=>.lf (0,lO,x0.1))) (.an (mQ m) (.lv (jF m) λme=>.lf (va,me,0)))))))).w (λr=>U r.1/\eu P r.2.1):=λx0=>
  ay e (aa (λ_=>cl _ (z 0)) (λ_=>ar λx4 _=>aa (λ_=>aa (λ_=>bo (zaA h hv access) λx5 hx=>aa (λ_=>cl _ (z 0)) (λ_=>bo (qU h hx.2 access) λx7 h7=>⟨hx.1,h7⟩)) (λ_=>bo (Ji h hv hs) λx8 _=>aa (λ_=>cl _ (z 0)) (λ_=>cl _ v))) (λ_=>bo (Ji h hv hs) λx8 _=>aa (λ_=>cl _ (z 0)) (λ_=>cl _ v))))
 unfold LW
 exact ar λx0 _=>aa (λ_=>cl _ (z 0)) (λ_=>aa (λ_=>aa (λ_=>cl _ (z 0)) (λ_=>main x0)) (λ_=>main x0))
theorem Xz{c:bj}(hc:iz c):(RE c m).w (λr=>U r.1/\eu P r.2.1):=by
 unfold RE
 exact bo (OB h hc.pc (.inr rfl) 1) λx0 h0=>aa (λ_=>⟨ep,h0.2⟩) (λ_=>bo (Ji h0.2 h0.1 (.inr rfl)) λx1 h1=>⟨h1.1,h0.2⟩)
end
theorem xaA{s a b:Int}:U (AK s a b):=by
 refine Tree.post (VE s a b) (W:=U) ?_
 unfold VE
 exact aa (λ_=>fj _) (λ_=>fj _)
section
variable {c:bj} (h:iz c)
include h
theorem G5(k:Int){b:Int}(hb:U b):iz (rC c k b):=by
 refine(Tree.post (OL c k b) (W:=iz) ?_)
 unfold OL
 refine ar λ_ _=>ar λ_ _=>⟨h.x,h.a1,?_⟩
 intro w hw
 simp only[A8.l,cS,cU,or_false]at hw
 rcases hw with rfl|rfl|rfl|rfl|rfl|rfl|rfl|rfl
 ·exact fj _
 ·exact h.a1
 ·exact h.pc
 ·exact fj _
 ·exact hb
 ·exact h.a5
 ·exact h.a6
 ·exact h.a7
theorem yz:iz (Lz c):=by
 refine(Tree.post (ON c) (W:=iz) ?_)
 unfold ON
 refine ar λx0 _=>ar λx1 h1=>⟨h.x,h.a2,?_⟩
 intro w hw
 simp only[A8.l,cS,cU,or_false]at hw
 rcases hw with rfl|rfl|rfl|rfl|rfl|rfl|rfl|rfl
 ·rw[h1];exact xaA
 ·exact h.a1
 ·exact h.a2
 ·exact h.a3
 ·exact h.a4
 ·exact h.a5
 ·exact h.a6
 ·exact h.a7
theorem Eg{r:Int}(hr:0<=r/\r<16){v:Int}(hv:U v):(Fy c r v).w iz:=by
 unfold Fy
 exact aa (λ_=>ay (rc hr) ⟨XF h.x hv _,h.pc,h.jt⟩) (λ_=>h)
theorem Zn9(k:Int){v:Int}(hv:U v):(Jg c k v).w iz:=by
 have ok:∀i v,U v->iz {X:=c.X,Pc:=c.Pc,B7:=A8.of 0 (dG (A8.l c.B7) i v)}:=λi v hv=>⟨h.x,h.pc,Zip h.jt hv i⟩
 unfold Jg
 repeat'(first
  |exact h
  |exact ok _ _ (fj _)
  |exact ok _ _ hv
  |refine aa (λhk=>?_) (λ_=>?_)
  |refine ay (by rw[eq_of_beq (by assumption:(k==_)=true)];decide) ?_)
end
theorem Zh{a b:Int}(ha:U a)(hb:U b):(LV a b).w (λr=>U r.1/\U r.2):=by
 have u1:U 4294967295:=⟨by omega,by omega⟩
 unfold LV
 refine aa (λ_=>⟨u1,ha⟩) (λh=>?_)
 have h:¬b=0:=by simpa using h
 obtain⟨b1,b2⟩:=hb
 have hc:decide (wrap i32 b≠0)=true:=dY (by rw[wrap_i32];omega)
 exact aa (λ_=>aa (λ_=>⟨ha,ep⟩) (λ_=>ay hc (ay hc ⟨fj _,fj _⟩))) (λ_=>ay hc (ay hc ⟨fj _,fj _⟩))
theorem qaB(b:Bool):U (VF b):=by cases b<;>exact⟨by decide,by decide⟩
theorem LB(op:Int){a b:Int}(ha:U a)(hb:U b):(RG op a b).w (λr=>U r.1):=by
 unfold RG
 repeat'(first
  |refine aa (λ_=>?_) (λ_=>?_)
  |exact bo (Zh ha hb) λx hx=>hx.1
  |exact bo (Zh ha hb) λx hx=>hx.2
  |exact ar λx hx=>(by rw[hx];exact qaB _)
  |refine fe ?_)
 all_goals(first
  |exact fj _
  |exact AM ha _
  |exact ep)
theorem TF(op:Int):Km op=1\/Km op=4:=by
 simp only[Km,Qsn,Tree.m]
 cases op==32<;>cases op==35<;>simp
section
variable {c:bj} (h:iz c) {i:gu} (hi:sV i)
include h hi
theorem Zqw:(Fz c i).w (λr=>iz r.1/\U r.2.Value):=by
 have k:∀{x:bj} {p:Int},iz x->U p->iz {X:=x.X,Pc:=p,B7:=x.B7}:=λhx hp=>⟨hx.x,hp,hx.jt⟩
 unfold Fz
 refine ay (rc hi.a) (ay (rc hi.b) ?_)
 repeat'(first
  |refine aa (λ_=>?_) (λ_=>?_)
  |exact bo (Eg h hi.a (fj _)) λx hx=>⟨k hx (fj _),ep⟩
  |exact ar λx _=>aa (λ_=>⟨k h (fj _),ep⟩) (λ_=>⟨k h (fj _),ep⟩)
  |exact ar λx hx=>⟨by rw[hx];exact G5 h _ ep,ep⟩
  |exact ar λx hx=>⟨by rw[hx];exact yz h,ep⟩
  |exact ay (by have:=hi.jt (by simp_all);simp[bJ];omega) (bo (Eg h hi.a (h.a _)) λx hx=>⟨k hx (fj _),ep⟩)
  |exact bo (Zn9 h _ (h.r _)) λx hx=>⟨k hx (fj _),ep⟩
  |refine ay (rc hi.c) ?_
  |exact bo (LB _ (h.r _) (fj _)) λy hy=>bo (Eg h hi.a hy) λx hx=>⟨k hx (fj _),ep⟩
  |exact bo (LB _ (h.r _) (h.r _)) λy hy=>bo (Eg h hi.a hy) λx hx=>⟨k hx (fj _),ep⟩
  |refine fe ?_)
 all_goals(first
  |exact⟨k h (fj _),ep⟩
  |exact⟨k h (fj _),h.r _⟩)
theorem Z5f{P:Nat}{m:List Int}(hm:eu P m):(Jh c m i).w (λr=>iz r.1/\eu P r.2):=by
 have w:=TF i.Op
 unfold Jh
 refine ay (rc hi.b) (ar λx0 h0=>?_)
 rw[<-h0]at w
 refine bo (OB hm (fj _) w 2) λx1 h1=>aa (λ_=>ar λy hy=>⟨by rw[hy];exact G5 h _ (fj _),h1.2⟩) (λ_=>ar λx3 h3=>?_)
 rw[h0,<-h3]at w
 exact bo (Ji h1.2 h1.1 w) λx4 h4=>aa (λ_=>bo (Xy h4.1 8) λy hy=>bo (Eg h hi.a hy) λx hx=>⟨⟨hx.x,fj _,hx.jt⟩,h1.2⟩) (λ_=>bo (Eg h hi.a h4.1) λx hx=>⟨⟨hx.x,fj _,hx.jt⟩,h1.2⟩)
theorem Qzc{P:Nat}{m:List Int}(hm:eu P m):(Jj c m i).w (λr=>iz r.1/\eu P r.2):=by
 have w:=TF i.Op
 unfold Jj
 refine ay (rc hi.b) (ar λx0 h0=>?_)
 rw[<-h0]at w
 refine bo (OB hm (fj _) w 3) λx1 h1=>aa (λ_=>ar λy hy=>⟨by rw[hy];exact G5 h _ (fj _),h1.2⟩) (λ_=>ar λx3 h3=>ay (rc hi.a) ?_)
 rw[h0,<-h3]at w
 exact bo (TG h1.2 h1.1 w (h.r _)) λx hx=>⟨⟨h.x,fj _,h.jt⟩,hx⟩
end
theorem vz{c:bj}(h:iz c){P:Nat}{m:List Int}(hm:eu P m):(FA c m).w (λr=>iz r.1/\eu P r.2.1/\U r.2.2.Value):=by
 unfold FA
 refine bo (Xz hm h) λx0 h0=>aa (λ_=>ar λy hy=>⟨by rw[hy];exact G5 h _ h.pc,h0.2,ep⟩) (λ_=>bo (XA _) λx2 h2=>aa (λ_=>ar λy hy=>⟨by rw[hy];exact G5 h _ h0.1,h0.2,ep⟩) (λhb=>?_))
 have hi:=h2 (by simpa using hb)
 refine ar λx4 _=>?_
 repeat'(first
  |refine aa (λ_=>?_) (λ_=>?_)
  |exact bo (Z5f h hi h0.2) λx hx=>⟨hx.1,hx.2,ep⟩
  |exact bo (Qzc h hi h0.2) λx hx=>⟨hx.1,hx.2,ep⟩
  |exact bo (Zqw h hi) λx hx=>⟨hx.1,h0.2,hx.2⟩
  |exact ar λy hy=>⟨by rw[hy];exact G5 h _ h0.1,h0.2,ep⟩
  |refine ar λ_ _=>?_)
theorem VG{a:Int}(h:U a)(k:Nat)(hk:k<=32):0<=bh .u32 a k/\bh .u32 a k*2^k<=a:=by
 obtain⟨h1,h2⟩:=h
 unfold bh
 have e:min (k:Int).toNat u32.bits=k:=by show min (k:Int).toNat 32=k;omega
 have hp:(0:Int)<2^k:=dO (by decide)
 rw[e,dP _ (dQ hp)]
 exact⟨Int.ediv_nonneg h1 (dQ hp),Int.ediv_mul_le a (Int.ne_of_gt hp)⟩
theorem Zmi(x:Int):0<=u8.wrap x/\u8.wrap x<256:=by rw[wrap_u8];omega
theorem zaB{x:Int}(h:U x):(Ee x).w (λ_=>True):=by
 have Bu:=VG h 16 (by omega)
 have s8:=VG h 8 (by omega)
 have uE:=VG (AM h 16) 8 (by omega)
 obtain⟨h1,h2⟩:=h
 unfold Ee
 repeat'(first
  |refine aa (λ_=>?_) (λ_=>?_)
  |refine ay (dY ⟨?_,hZ (b:=256) ?_ (iA (by kernel_rfl))⟩) ?_
  |exact trivial
  |refine fe ?_)
 all_goals(first
  |trivial
  |exact(Zmi _).1
  |exact(Zmi _).2
  |(simp only[decide_eq_true_eq,decide_eq_false_iff_not]at*;simp at Bu s8 uE;omega))
theorem Ct(a:Int):bg .u32 a 255<256:=by
 unfold bg
 rw[wrap_u32]
 have:(dW u32.bits a&&&dW u32.bits 255).toNat<=255:=by
  show(dW 32 a&&&dW 32 255).toNat<=255
  rw[eA]
  exact Nat.le_trans Nat.and_le_right (by decide)
 omega
theorem qaR{x:Int}(h:U x):(RH x).w (λ_=>True):=by
 have uE:=VG h 24 (by omega)
 obtain⟨h1,h2⟩:=h
 have i24:bh .u32 x 24<256:=by simp at uE;omega
 unfold RH
 repeat'(first
  |refine ay (dY ⟨?_,hZ (b:=256) ?_ (iA (by kernel_rfl))⟩) ?_
  |exact trivial
  |refine fe ?_)
 all_goals(first
  |trivial
  |exact(fj _).1
  |exact uE.1
  |exact i24
  |exact Ct _)
structure rB(P:Nat)(m:au):Prop where
 mj:iz m.B4
 mem:eu P m.Mem
 kY:oF m.B1
 sW:pD m.C6
 target:U m.A6.C9
 given:U m.A6.C5
theorem Zm8{b:gv}(h:U b.C5):(RI b).w (λ_=>True):=by
 unfold RI
 exact bo (qaR h) λ_ _=>trivial
theorem TJ{m:au}(h:U m.A6.C5):(Kn m).w (λ_=>True):=by
 have b:∀x,(GY m.A6 x).w (λ_=>True):=λx=>by
  unfold GY
  exact bo (zaB h) λ_ _=>trivial
 have d:(Ec m).w (λ_=>True):=by
  unfold Ec
  exact ar λ_ _=>ar λ_ _=>aa (λ_=>ar λ_ _=>aa (λ_=>ar λ_ _=>aa (λ_=>ar λ_ _=>aa (λ_=>bo (b _) λ_ _=>trivial) (λ_=>trivial)) (λ_=>trivial)) (λ_=>trivial)) (λ_=>trivial)
 unfold Kn
 repeat'(first
  |refine aa (λ_=>?_) (λ_=>?_)
  |exact bo d λ_ _=>trivial
  |refine ar λ_ _=>?_
  |exact trivial)
theorem Znr{m:au}(h:U m.A6.C5):(L7 m).w (λ_=>True):=by
 have p:(Q5 m.A6).w (λ_=>True):=by
  unfold Q5
  exact bo (Zm8 h) λ_ _=>trivial
 unfold L7
 refine ar λx0 _=>ar λx1 _=>ar λx2 _=>ar λx3 _=>bo p λx4 _=>fy (inv:=λz=>0<=z.2/\z.2<=5) (μ:=Qgz m) ⟨by omega,by omega⟩ (cO _) (λz hz=>?_)
 obtain⟨z1,z2⟩:=hz
 have ew:z.2<5->i64.wrap (z.2+1)=z.2+1:=λ_=>by rw[wrap_i64];omega
 refine aa (λhb=>?_) (λ_=>trivial)
 have hb:=oY hb
 have nx:(0<=i64.wrap (z.2+1)/\i64.wrap (z.2+1)<=5)/\(5-i64.wrap (z.2+1)).toNat<(5-z.2).toNat:=by rw[ew hb];omega
 refine ay (by simp;omega) (aa (λ_=>ay (dY z1) (ff nx)) (λ_=>ff nx))
theorem XB{m:au}(h:U m.A6.C5):(Hp m).w U:=by
 unfold Hp
 exact bo (Znr h) λ_ _=>Zk _ _
theorem XD{m:au}(h:U m.A6.C5):(Jk m).w (λ_=>True):=by
 have i:(Hq m).w (λ_=>True):=by
  unfold Hq
  exact aa (λ_=>bo (XB h) λ_ _=>trivial) (λ_=>trivial)
 unfold Jk
 exact bo (TJ h) λ_ _=>aa (λ_=>aa (λ_=>bo i λ_ _=>aa (λ_=>trivial) (λ_=>trivial)) (λ_=>trivial)) (λ_=>trivial)
theorem xU{P:Nat}{m:au}(h:rB P m):(G4 m).w (rB P):=by
 obtain⟨h1,h2,h3,h4,h5,h6⟩:=h
 unfold G4
 refine aa (λ_=>⟨h1,h2,h3,h4,h5,h6⟩) (λ_=>bo (XB (m:=⟨_,_,_,_,_,_,m.A6,_,_,_⟩) h6) λx0 _=>fy (inv:=λz=>0<=z/\z<=5) (μ:=XC m) ⟨by omega,by omega⟩ (cO _) (λz hz=>?_))
 obtain⟨z1,z2⟩:=hz
 refine aa (λhb=>ay (dY z1) (aa (λ_=>ar λx1 hx=>⟨by rw[hx];exact G5 h1 _ ep,h2,h3,h4,h5,h6⟩) (λ_=>ff ?_))) (λ_=>⟨h1,h2,h3,h4,h5,h6⟩)
 have hb:=oY hb
 show(0<=i64.wrap (z+1)/\i64.wrap (z+1)<=5)/\(5-i64.wrap (z+1)).toNat<(5-z).toNat
 have ew:i64.wrap (z+1)=z+1:=by rw[wrap_i64];omega
 rw[ew];omega
theorem Ej{P:Nat}{m:List Int}(h:eu P m):wQ m=P:=by
 obtain⟨h1,h2,h3,_⟩:=h
 simp only[wQ,Qpf,Tree.m]
 have e:(m.length:Int)=32*P:=by omega
 rw[e]
 have e1:(dE (32*(P:Int)) 32 !=0)=false:=by simp[hJ]
 have e2:decide ((32*(P:Int))>1024)=false:=dN (by omega)
 rw[e1,e2]
 simp only[cond_false]
 rw[hY _ (by decide),wrap_i64];omega
theorem FE{P:Nat}{m:List Int}(h:eu P m){f:Int}(hf:U f):nZ m f=decide (f<P):=by
 have:=Ej h
 obtain⟨h1,h2⟩:=hf
 have h3:=h.p2
 simp only[nZ,OZ,Tree.m,df,this]
 congr 1
 rw[wrap_u64,wrap_u64,dM h1 (by omega),dM (by omega) (by omega)]
theorem qab{P:Nat}{m:List Int}(h:eu P m):(Md m).w (λr=>r=m):=by
 obtain⟨h1,h2,h3,_⟩:=h
 unfold Md
 refine ay ?_ ?_
 ·simp[bJ,D.plain];omega
 ·show _=_
  simp
theorem Cy{P:Nat}{m:List Int}(h:eu P m){addr size v:Int}(ha:U addr)(hl:addr<4*m.length)(hv:U v):(Jo m addr size v).w (eu P):=by
 obtain⟨h1,h2,h3,h4⟩:=h
 obtain⟨a1,a2⟩:=ha
 have e:wrap u32 (eU addr 4)=addr/4:=by rw[wrap_u32,eV a1];omega
 have hc:(bT 1 1&&bJ 0 1&&decide (0<=wrap u32 (eU addr 4)/\wrap u32 (eU addr 4)<(m.length:Int)))=true:=by
  rw[e];simp[bJ];omega
 have h0:∀x,decide (0<=wrap u32 x)=true:=λx=>dY (fj x).1
 have hs:∀i v,U v->eu P (m.set i v):=λi v hv=>⟨by simp[h1],h2,h3,Eb h4 hv i⟩
 unfold Jo
 exact aa (λ_=>ay hc (hs _ _ hv)) (λ_=>ay hc (ay (h0 _) (ay (h0 _) (ay hc (hs _ _ (nh _ _))))))
theorem zab{P:Nat}{m:List Int}(h:eu P m){frame:Int}(f0:0<=frame)(f1:frame<P)(s:List UInt8):(Hb m frame s).w (eu P):=by
 unfold Hb
 have h3:=h.p2
 refine fy (inv:=λz=>0<=z.1/\z.1<=128/\eu P z.2) (μ:=XQ m frame s) ⟨by omega,by omega,h⟩ (cO _) (λv0 wJ=>?_)
 obtain⟨i0,i1,hm⟩:=wJ
 refine aa (λh1=>aa (λh2=>ay ?_ ?_) (λ_=>hm)) (λ_=>hm)
 ·have:=oY h1
  simp[bJ];omega
 ·have h2:=oY h2
  have e:wrap u32 (wrap i64 (wrap i64 (frame*128)+v0.1))=frame*128+v0.1:=by
   rw[wrap_u32,wrap_i64,wrap_i64];omega
  rw[e]
  obtain⟨g1,g2⟩:=Tree.pp (Cy hm (size:=1) (addr:=frame*128+v0.1) ⟨by omega,by omega⟩ (by rw[hm.len];omega) (fj (UInt8.toNat (s.getD v0.1.toNat 0))))
  refine cz g1 (ar λx0 nP=>?_)
  rw[nP]
  have ew:i64.wrap (v0.1+1)=v0.1+1:=by rw[wrap_i64];omega
  refine ff ?_
  show(0<=i64.wrap (v0.1+1)/\i64.wrap (v0.1+1)<=128/\eu P _)/\(128-i64.wrap (v0.1+1)).toNat<(128-v0.1).toNat
  rw[ew]
  exact⟨⟨by omega,by omega,g2⟩,by omega⟩
theorem Zmu{P:Nat}{m:List Int}(h:eu P m){d:fp}(hd:oF d)(e:gx):(Hn d m e).w (λr=>oF r.1/\eu P r.2.2):=by
 have fl:nZ m d.B5=true->(Hb m (i64.wrap d.B5) e.D2).w (eu P):=λhp=>by
   rw[FE h hd.ib]at hp
   have:=oY hp
   have h1:=hd.ib.1
   have h3:=h.p2
   have ew:i64.wrap d.B5=d.B5:=by rw[wrap_i64];omega
   rw[ew]
   exact zab h h1 this _
 have l0:oF d/\eu P m:=⟨hd,h⟩
 have l1: ∀st,oF {ag:=d.ag,C4:=d.C4,Frame:=d.Frame,C0:=st,D8:=0,B9:=0,B5:=0,C1:=[]}:=λst=>⟨hd.block,hd.frame,ep,ep⟩
 unfold Hn
 repeat'(first
   |exact l0
   |exact⟨l1 _,h⟩
   |refine aa (λ_=> ?_) (λ_=> ?_)
   |refine ar (λ_ _=> ?_))
 all_goals(
   first
     | (have hp:nZ m d.B5=true:=by simp_all
        obtain⟨g1,g2⟩:=Tree.pp (fl hp)
        refine cz g1 (ar λx hx=> ?_)
        rw[hx]
        exact aa (λ_=>⟨l1 _,g2⟩) (λ_=>⟨l1 _,g2⟩))
     |(exfalso;simp_all;done))
section
variable {c:bj} (h:iz c)
include h
theorem Ko(k:Int){b:Int}(hb:U b):iz (pY c k b):=by
 refine(Tree.post (OM c k b) (W:=iz) ?_)
 unfold OM
 refine ar λ_ _=>ar λ_ _=>⟨h.x,h.a1,?_⟩
 intro w hw
 simp only[A8.l,cS,cU,or_false]at hw
 rcases hw with rfl|rfl|rfl|rfl|rfl|rfl|rfl|rfl
 ·exact nh _ _
 ·exact h.a1
 ·exact h.pc
 ·exact fj _
 ·exact hb
 ·exact h.a5
 ·exact h.a6
 ·exact h.a7
theorem zU:iz (TU c):=by
 refine(Tree.post (Qd c) (W:=iz) ?_)
 unfold Qd
 refine ar λ_ _=>ar λ_ _=>⟨h.x,h.a2,?_⟩
 intro w hw
 simp only[A8.l,cS,cU,or_false]at hw
 rcases hw with rfl|rfl|rfl|rfl|rfl|rfl|rfl|rfl
 ·exact nh _ _
 ·exact h.a1
 ·exact h.a2
 ·exact h.a3
 ·exact h.a4
 ·exact h.a5
 ·exact h.a6
 ·exact h.a7
theorem DY(r:Int){v:Int}(hv:U v):(Jr c r v).w iz:=by
 unfold Jr
 refine aa (λh1=>aa (λh2=>ay ?_ ⟨XF h.x hv _,h.pc,h.jt⟩) (λ_=>h)) (λ_=>h)
 have h1:=oY h1
 have h2:=oY h2
 simp[bJ];omega
theorem xaB(k:Int){v:Int}(hv:U v):(LY c k v).w iz:=by
 have ok:∀i v,U v->iz {X:=c.X,Pc:=c.Pc,B7:=A8.of 0 (dG (A8.l c.B7) i v)}:=λi v hv=>⟨h.x,h.pc,Zip h.jt hv i⟩
 unfold LY
 repeat'(first
  |exact h
  |exact ok _ _ (fj _)
  |exact ok _ _ hv
  |refine aa (λhk=>?_) (λ_=>?_)
  |refine ay (by rw[eq_of_beq (by assumption:(k==_)=true)];decide) ?_)
end
section
variable {P:Nat} {m:List Int} (h:eu P m)
include h
theorem Zbf(a:Int){size:Int}(hs:size=1\/size=4):(Jp m a size).w (λb=>b=true->a<128*P):=by
 have hp:=Ej h
 have h2:=h.p2
 have e:decide (wrap u32 size≠0)=true:=by rcases hs with rfl|rfl<;>decide
 have l:∀x,x=wQ m->decide (a<wrap u32 (wrap i64 (128*x)))=true->a<128*P:=λx hx hd=>by
  rw[hx,hp,wrap_u32,wrap_i64]at hd
  have:=oY hd
  omega
 unfold Jp
 refine aa (λ_=>aa (λ_=>λh=>by cases h) (λ_=>?_)) (λ_=>?_)<;>
 exact ay e (aa (λ_=>ar λx hx=>l x hx) (λ_=>λh=>by cases h))
theorem idx{a:Int}(ha:U a)(hl:a<128*P):(bT 1 1&&bJ 0 1&&decide (0<=wrap u32 (eU a 4)/\wrap u32 (eU a 4)<(m.length:Int)))=true:=by
 obtain⟨a1,a2⟩:=ha
 have e:wrap u32 (eU a 4)=a/4:=by rw[wrap_u32,eV a1];omega
 have:=h.len
 rw[e];simp[bJ];omega
theorem OU{a:Int}(ha:U a){size:Int}(hs:size=1\/size=4):(AP m a size).w (λr=>U r.1):=by
 obtain⟨g1,g2⟩:=Tree.pp (Zbf h a hs)
 unfold AP
 refine cz g1 (ar λx hx=>aa (λ_=>ep) (λhb=>?_))
 have hb:x=true:=by simpa using hb
 have hl:=g2 (hx.symm.trans hb)
 refine ay (idx h ha hl) (aa (λ_=>ay (dY (fj _).1) (fj _)) (λ_=>AN h.u _))
theorem zaR{a:Int}(ha:U a)(access:Int):(LR m a access).w (eu P):=by
 obtain⟨g1,g2⟩:=Tree.pp (Zbf h a (size:=4) (.inr rfl))
 have hs:∀{m:List Int} i v,eu P m->U v->eu P (m.set i v):=λi v h hv=>⟨by simp[h.len],h.p1,h.p2,Eb h.u hv i⟩
 unfold LR
 refine cz g1 (ar λx hx=>aa (λ_=>h) (λhb=>?_))
 have hb:x=true:=by simpa using hb
 have hl:=g2 (hx.symm.trans hb)
 have i0:=idx h ha hl
 have h':=hs (Int.toNat (wrap u32 (eU a 4))) (ir u32 (m.getD (Int.toNat (wrap u32 (eU a 4))) 0) 8) h (nh _ _)
 have i1:=idx h' ha hl
 exact ay i0 (ay i0 (aa (λ_=>ay i1 (ay i1 (hs _ _ h' (nh _ _)))) (λ_=>h')))
theorem xab{root va:Int}(hr:U root)(hv:U va)(access:Int):(Hf m root va access).w (λt=>U t.Addr/\U t.F6/\(t.F5=0->t.Addr<128*P)):=by
 have hp:=Ej h
 have h2:=h.p2
 have hlen:=h.len
 obtain⟨r1,r2⟩:=hr
 obtain⟨v1,v2⟩:=hv
 unfold Hf
 refine ar λx0 nP=>ar λx1 nQ=>ar λx2 _=>?_
 have hc:x0≠0:=by
  rw[nP]
  simp only[tQ,LX,Tree.m]
  cases access==1<;>cases access==3<;>simp
 rw[hp]at nQ
 have bad:U (0:Int)/\U (0:Int)/\(x0=0->(0:Int)<128*P):=⟨ep,ep,λe=>absurd e hc⟩
 refine aa (λ_=>bad) (λ_=>aa (λ_=>bad) (λEo=>aa (λ_=>bad) (λDV=>?_)))
 have Eo:=oN Eo
 have DV:=oN DV
 have e1:wrap u32 x1=P:=by rw[nQ,wrap_u32];omega
 rw[e1]at DV
 have e2:wrap u32 (wrap u32 (root*128)+wrap u32 (4*wrap u32 (eU va 128)))=root*128+4*(va/128):=by
  rw[eV v1,wrap_u32,wrap_u32,wrap_u32,wrap_u32];omega
 have hU:U (wrap u32 (wrap u32 (root*128)+wrap u32 (4*wrap u32 (eU va 128)))):=fj _
 have ci:=idx h hU (by rw[e2];omega)
 have ez:∀w:Int,decide (bg u32 w 255>=wrap u32 x1)=false->(U (wrap u32 (wrap u32 (bg u32 w 255*128)+dE va 128))/\U (wrap u32 (wrap u32 (root*128)+wrap u32 (4*wrap u32 (eU va 128))))/\((0:Int)=0->wrap u32 (wrap u32 (bg u32 w 255*128)+dE va 128)<128*P)):=λw hw=>by
  have hw:=oN hw
  rw[e1]at hw
  have hn:=(Zk w 255).1
  refine⟨fj _,fj _,λ_=>?_⟩
  rw[Int.tmod_eq_emod_of_nonneg v1,wrap_u32,wrap_u32]
  generalize bg u32 w 255=q at*
  omega
 refine ay ci ?_
 repeat'(first
  |exact bad
  |exact ez _ (by assumption)
  |refine aa (λ_=>?_) (λ_=>?_)
  |refine ay ci ?_)
theorem T0{c:bj}(hc:iz c){va:Int}(hv:U va){size:Int}(hs:size=1\/size=4)(access:Int):(Hh c m va size access).w (λr=>eu P r.2.2/\U r.1/\(r.2.1=0->r.1<128*P)):=by
 have e:decide (wrap u32 size≠0)=true:=by rcases hs with rfl|rfl<;>decide
 obtain⟨g1,g2⟩:=Tree.pp (Zbf h va hs)
 obtain⟨k1,k2⟩:=Tree.pp (xab h hc.a6 hv access)
 have bad:∀k:Int,k≠0->eu P m/\U (0:Int)/\(k=0->(0:Int)<128*P):=λk hk=>⟨h,ep,λe=>absurd e hk⟩
 have hca:tQ access≠0:=by
  simp only[tQ,LX,Tree.m]
  cases access==1<;>cases access==3<;>simp
 unfold Hh
 refine ar λx0 _=>aa (λ_=>bad 5 (by decide)) (λ_=>aa (λh1=>aa (λh2=>?_) (λ_=>?_)) (λ_=>?_))
 ·exact bad 5 (by decide)
 all_goals(
  refine ay e (aa (λ_=>bad 3 (by decide)) (λ_=>ar λx1 _=>aa (λ_=>cz g1 (ar λx2 Jl=>aa (λ_=>ar λx3 DX=>bad x3 (by rw[DX];exact hca)) (λhb=>?_))) (λ_=>cz k1 (ar λx4 Oj=>aa (λhb=>?_) (λhb=>?_)))))
  ·have hb:x2=true:=by simpa using hb
   exact⟨h,hv,λ_=>g2 (Jl.symm.trans hb)⟩
  ·exact bad _ (by simpa using hb)
  ·obtain⟨t1,t2,t3⟩:=k2
   rw[show(Hf m c.B7.a6 va access).m=x4 from Oj.symm]at t1 t2 t3
   obtain⟨m1,m2⟩:=Tree.pp (zaR h t2 access)
   refine cz m1 (ar λx5 hx5=>?_)
   exact⟨hx5▸m2,t1,λ_=>t3 (by simpa using hb)⟩)
end
theorem qA{r:Int}(h:LF r=true):0<=r/\r<16:=by
 simp only[LF,TN,Tree.m]at h
 cases h1:decide (r>=0)<;>rw[h1]at h
 ·cases h
 ·have h1:=oY h1
  have h:=oY h
  omega
theorem yU{i:gu}(hi:wrap .i64 i.bq=i.bq)(h:Eh i=true):sV i:=by
 have no:false=true->sV i:=λh=>by cases h
 refine(Tree.post (OE i) (W:=λb=>b=true->sV i) ?_) h
 unfold OE
 refine ar λx0 h0=>aa (λ_=>no) (λ_=>ar λx1 h1=>aa (λ_=>no) (λb1=>ar λx2 h2=>aa (λ_=>no) (λb2=>ar λx3 h3=>aa (λ_=>no) (λb3=>ar λx4 h4=>aa (λ_=>no) (λb4=>aa (λ_=>no) (λb5=>?_))))))
 have b1:x1=true:=by simpa using b1
 have b2:x2=true:=by simpa using b2
 have b3:x3=true:=by simpa using b3
 have b4:=oN b4
 have b5:=oN b5
 rw[hi]at b4 b5
 have ok:sV i:=⟨qA (h1.symm.trans b1),qA (h2.symm.trans b2),qA (h3.symm.trans b3),λe=>by
  rw[e]at h0
  have h0:x0=8:=h0
  subst h0
  have h4:x4=(0,7):=h4
  subst h4
  simp at b4 b5;omega⟩
 repeat'(first
  |exactλ_=>ok
  |exact no
  |refine aa (λ_=>?_) (λ_=>?_))
theorem Zm5(w:Int):(Ha w).w (λr=>r.2=true->sV r.1):=by
 have no:∀{p:Prop},false=true->p:=λh=>by cases h
 have e:∀x,wrap .i64 (wrap .i32 x)=wrap .i32 x:=λx=>by rw[wrap_i64,wrap_i32];omega
 have ok:∀i,wrap .i64 i.bq=i.bq->∀x,x=Eh i->(!x)=false->true=true->sV i:=λi hi x hx hb _=>yU hi (hx.symm.trans (by simpa using hb))
 unfold Ha
 refine ar λx0 _=>?_
 have l:∀i,wrap .i64 i.bq=i.bq->(Tree.lv (Eh i) λx=>.br (!x) (.lf ((⟨0,0,0,0,0⟩:gu),false)) (.lf (i,true))).w (λr=>r.2=true->sV r.1):=λi hi=>ar λx hx=>aa (λ_=>no) (λhb=>ok i hi x hx hb)
 refine aa (λ_=>no) (λ_=>aa (λ_=>l _ rfl) (λ_=>aa (λ_=>l _ (e _)) (λ_=>aa (λ_=>l _ (e _)) (λ_=>l _ (e _)))))
theorem RJ(b:Bool):U (CA b):=by cases b<;>exact⟨by decide,by decide⟩
theorem Zn3{a b:Int}(ha:U a)(hb:U b):(Qa a b).w (λr=>U r.1/\U r.2):=by
 unfold Qa
 refine aa (λ_=>⟨⟨by omega,by omega⟩,ha⟩) (λh=>?_)
 have h:¬b=0:=by simpa using h
 obtain⟨b1,b2⟩:=hb
 have hc:decide (wrap i64 (wrap i32 b)≠0)=true:=dY (by rw[wrap_i64,wrap_i32];omega)
 exact ay hc (ay hc ⟨fj _,fj _⟩)
theorem Ib(op:Int){a b:Int}(ha:U a)(hb:U b):(RL op a b).w (λr=>U r.1):=by
 unfold RL
 refine ar λx0 _=>?_
 repeat'(first
  |exact fj _
  |exact AM ha _
  |exact ep
  |refine aa (λ_=>?_) (λ_=>?_)
  |exact bo (Zn3 ha hb) λx hx=>hx.1
  |exact bo (Zn3 ha hb) λx hx=>hx.2
  |exact ar λx hx=>(by rw[hx];exact RJ _))
theorem xA{x:Int}(hx:U x):(RM x 8).w U:=by
 unfold RM
 have h0:decide (0<=wrap u64 8)=true:=by decide
 refine aa (λh=>absurd h (by decide)) λ_=>aa (λh=>absurd h (by decide)) λ_=>ay h0 (ay (by decide) (aa (λ_=>ay h0 (nh _ _)) (λ_=>Zk _ _)))
section
variable {c:bj} (h:iz c) {i:gu} (hi:sV i)
include h hi
theorem vU:(JD c i).w (λr=>iz r.1/\U r.2.Value):=by
 unfold JD
 refine aa (λ_=>ar λx hx=>⟨hx▸Ko h _ ep,ep⟩) (λ_=>aa (λ_=>ar λx hx=>⟨hx▸zU h,ep⟩) (λ_=>aa (λe=>ay ?_ (bo (DY h _ (h.a _)) λx hx=>⟨hx.Bm (fj _),ep⟩)) (λ_=>aa (λ_=>ay (rc hi.a) (bo (xaB h _ (h.r _)) λx hx=>⟨hx.Bm (fj _),ep⟩)) (λ_=>?_))))
 ·have:=hi.jt (by simpa using e)
  simp[bJ];omega
 ·have k:=h.Bm (fj (c.Pc+4))
  repeat'(first
   |exact⟨k,ep⟩
   |exact⟨k,h.r _⟩
   |refine aa (λ_=>?_) (λ_=>?_)
   |refine ay (rc hi.a) ?_)
theorem xaR:(RN c i).w iz:=by
 unfold RN
 exact aa (λ_=>bo (DY h _ (fj _)) λx hx=>hx.Bm (fj _)) (λ_=>aa (λ_=>ay (rc hi.b) (bo (DY h _ (fj _)) λx hx=>hx.Bm (fj _))) (λ_=>ay (rc hi.a) (ay (rc hi.b) (ar λx _=>aa (λ_=>h.Bm (fj _)) (λ_=>h.Bm (fj _))))))
theorem Zpa{P:Nat}{m:List Int}(hm:eu P m):(RO c m i).w (λr=>iz r.1/\eu P r.2):=by
  unfold RO
  refine ay (rc hi.b) ?_
  have e1:(1:Int)=1\/(1:Int)=4:= .inl rfl
  have e4:(4:Int)=1\/(4:Int)=4:= .inr rfl
  repeat'(first
    |refine aa (λ_=> ?_) (λ_=> ?_)
    | (refine bo (T0 hm h (fj _) e4 _) λx hx=> ?_
       obtain⟨m1,m2,m3⟩:=hx
       refine aa (λ_=>ar λy hy=>⟨hy▸Ko h _ (fj _),m1⟩) (λhb=> ?_)
       have m3:=m3 (by simpa using hb)
       have m4:x.1<4*x.2.2.length:=by rw[m1.len];omega
       clear hb)
    | (refine bo (T0 hm h (fj _) e1 _) λx hx=> ?_
       obtain⟨m1,m2,m3⟩:=hx
       refine aa (λ_=>ar λy hy=>⟨hy▸Ko h _ (fj _),m1⟩) (λhb=> ?_)
       have m3:=m3 (by simpa using hb)
       have m4:x.1<4*x.2.2.length:=by rw[m1.len];omega
       clear hb)
    |exact ay (rc hi.a) (bo (Cy (by assumption) (by assumption) (by assumption) (h.r _)) λy hy=>⟨h.Bm (fj _),hy⟩)
    |(refine bo (OU (by assumption) (by assumption) e4) λy hy=> ?_)
    |(refine bo (OU (by assumption) (by assumption) e1) λy hy=> ?_)
    |exact bo (xA (by assumption)) λz hz=>bo (DY h _ hz) λu hu=>⟨hu.Bm (fj _),by assumption⟩
    |exact bo (DY h _ (by assumption)) λu hu=>⟨hu.Bm (fj _),by assumption⟩)
end
theorem Fo{c:bj}(h:iz c){P:Nat}{m:List Int}(hm:eu P m):(RP c m).w (λr=>iz r.1/\U r.2.1.Value/\eu P r.2.2):=by
 unfold RP
 refine bo (T0 hm h h.pc (.inr rfl) 1) λx0 hx=>?_
 obtain⟨m1,m2,m3⟩:=hx
 refine aa (λ_=>ar λy hy=>⟨hy▸Ko h _ h.pc,ep,m1⟩) (λhb=>?_)
 refine bo (OU m1 m2 (.inr rfl)) λx2 h2=>NY (Zm5 _) λx3 h3=>aa (λ_=>ar λy hy=>⟨hy▸Ko h _ h2,ep,m1⟩) (λb3=>?_)
 have hi:=h3 (by simpa using b3)
 refine ar λx5 _=>?_
 repeat'(first
  |refine aa (λ_=>?_) (λ_=>?_)
  |exact ar λy hy=>⟨hy▸Ko h _ h2,ep,m1⟩
  |exact bo (vU h hi) λy hy=>⟨hy.1,hy.2,m1⟩
  |exact bo (xaR h hi) λy hy=>⟨hy,ep,m1⟩
  |exact bo (Zpa h hi m1) λy hy=>⟨hy.1,ep,hy.2⟩
  |exact bo (DY h _ (fj _)) λy hy=>⟨hy.Bm (fj _),ep,m1⟩
  |refine ay (rc hi.c) ?_
  |refine ay (rc hi.b) ?_
  |exact bo (Ib _ (h.r _) (h.r _)) λy hy=>bo (DY h _ hy) λz hz=>⟨hz.Bm (fj _),ep,m1⟩
  |exact bo (Ib _ (h.r _) (fj _)) λy hy=>bo (DY h _ hy) λz hz=>⟨hz.Bm (fj _),ep,m1⟩)
theorem FD{q:Int}(h:U q):bg .u32 q 1=q%2:=by
 obtain⟨h1,h2⟩:=h
 unfold bg
 rw[wrap_u32]
 have e1:(dW 32 q).toNat=q.toNat:=by rw[BitVec.toNat_ofInt];omega
 have e2:(dW 32 1).toNat=1:=by decide
 have:(dW u32.bits q&&&dW u32.bits 1).toNat=q.toNat%2:=by
  show(dW 32 q&&&dW 32 1).toNat=_
  rw[eA,e1,e2,Nat.and_one_is_mod]
 rw[this];omega
theorem RQ(b:Bool)(n:Int):(RR b n).w (λ_=>True):=by
 unfold RR
 exact aa (λ_=>ay (dY (by rw[wrap_u64];omega)) trivial) (λ_=>trivial)
theorem qaC(m:au):(RS m).w (λ_=>True):=by
 unfold RS
 exact ar λ_ _=>bo (RQ _ _) λ_ _=>ar λ_ _=>bo (RQ _ _) λ_ _=>ar λ_ _=>bo (RQ _ _) λ_ _=>ar λ_ _=>bo (RQ _ _) λ_ _=>ar λ_ _=>bo (RQ _ _) λ_ _=>trivial
theorem Zer(m:au):(Ma m).w U:=by
 unfold Ma
 exact bo (qaC m) λ_ _=>Zk _ _
theorem qac(m:au):(Mb m).w (λ_=>True):=by
 unfold Mb
 exact aa (λ_=>bo (Zer m) λ_ _=>trivial) (λ_=>trivial)
theorem Xk(m:au):(Jy m).w (λ_=>True):=by
 unfold Jy
 exact ar λ_ _=>aa (λ_=>trivial) (λ_=>aa (λ_=>trivial) (λ_=>bo (qac m) λ_ _=>aa (λ_=>trivial) (λ_=>trivial)))
theorem Tn{m:au}(h:iz m.B4):(Mc m).w iz:=by
 unfold Mc
 refine bo (Zer m) λx0 hx=>aa (λ_=>h) (λ_=>aa (λ_=>h) (λhb=>?_))
 have hb:x0≠0:=by simpa using hb
 have sh:∀z:Int,0<=z->z<=31->bh .u32 x0 (wrap .u64 z)=x0/2^z.toNat:=λz h1 h2=>by
  unfold bh
  have e:min (wrap .u64 z).toNat u32.bits=z.toNat:=by
   show min (wrap .u64 z).toNat 32=z.toNat
   rw[wrap_u64];omega
  rw[e,dP _ (dQ (dO (by decide)))]
 refine fy (inv:=λz=>0<=z/\z<=31/\x0/2^z.toNat≠0) (μ:=Qd6 m) ⟨by omega,by omega,by simpa using hb⟩ (cO _) (λz hz=>?_)
 obtain⟨z1,z2,z3⟩:=hz
 refine ay (dY (by rw[wrap_u64];omega)) (aa (λe=>ff ?_) (λ_=>ar λy hy=>hy▸Ko h _ ep))
 have e:=eq_of_beq e
 have hq:=AM hx (wrap .u64 z)
 rw[FD hq,sh z z1 z2]at e
 rw[sh z z1 z2]at hq
 have cj:x0/2^z.toNat/2≠0:=by omega
 have z4:z<=30:=by
  rcases Int.lt_or_le z 31 with h|h
  ·omega
  ·have:z=31:=by omega
   subst this
   have:=hx.2
   have:=hx.1
   simp at z3 e cj
   omega
 show(0<=i64.wrap (z+1)/\i64.wrap (z+1)<=31/\x0/2^(i64.wrap (z+1)).toNat≠0)/\(32-i64.wrap (z+1)).toNat<(32-z).toNat
 have ew:i64.wrap (z+1)=z+1:=by rw[wrap_i64];omega
 rw[ew]
 refine⟨⟨by omega,by omega,?_⟩,by omega⟩
 have et:(z+1).toNat=z.toNat+1:=by omega
 rw[et,Int.pow_succ,<-Int.ediv_ediv_of_nonneg (dQ (dO (by decide)))]
 exact cj
theorem zA{P:Nat}{m:au}(h:iz m.B4)(hm:eu P m.Mem):(RU m).w (λ_=>True):=by
 unfold RU
 refine bo (Tn h) λx0 hx=>aa (λ_=>trivial) (λ_=>bo (OU hm hx.pc (.inr rfl)) λx1 _=>ar λx2 _=>?_)
 exact aa (λ_=>aa (λ_=>aa (λ_=>trivial) (λ_=>trivial)) (λ_=>trivial)) (λ_=>trivial)
theorem Qye{P:Nat}{m:au}(h:iz m.B4)(hm:eu P m.Mem):(RV m).w (λ_=>True):=by
 unfold RV
 exact bo (Xk m) λ_ _=>aa (λ_=>trivial) (λ_=>bo (zA h hm) λ_ _=>trivial)
theorem Oi(l:List Int):(bytesOf l).length=l.length:=by simp[bytesOf]
theorem Qq(l:List UInt8):(Q2 l).length=l.length:=by simp[Q2]
theorem RW(x:Int):(M0 x 4).w (λr=>r.length=4):=by
 unfold M0
 refine fy (inv:=λz=>0<=z.1/\z.1<=4/\(z.2.length:Int)=z.1) (μ:=VH x 4) ⟨by omega,by omega,rfl⟩ (cO _) (λz hz=>?_)
 obtain⟨z1,z2,z3⟩:=hz
 refine aa (λh=>ay (dY (by rw[wrap_u64];omega)) (ay (dY (by omega)) (ff ?_))) (λh=>?_)
 ·have h:=oY h
  show(0<=i64.wrap (z.1+1)/\i64.wrap (z.1+1)<=4/\((z.2++[_]).length:Int)=i64.wrap (z.1+1))/\(4-i64.wrap (z.1+1)).toNat<(4-z.1).toNat
  have ew:i64.wrap (z.1+1)=z.1+1:=by rw[wrap_i64];omega
  rw[ew]
  refine⟨⟨by omega,by omega,by simp;omega⟩,by omega⟩
 ·have h:=oN h
  show(bytesOf z.2).length=4
  rw[Oi];omega
theorem zac{P:Nat}{m:List Int}(hm:eu P m)(frame:Int):(He m frame).w (λr=>0<=frame->frame<P->r.1.length=128):=by
 have hp:=Ej hm
 have hl:=hm.len
 have h2:=hm.p2
 unfold He
 refine aa (λh=>λh0 _=>by have:=oY h;omega) (λh=>ar λx0 hx=>aa (λh1=>λ_ h2=>by have:=oY h1;rw[hx,hp]at this;omega) (λh1=>?_))
 have h:=oN h
 have h1:=oN h1
 rw[hx,hp]at h1
 refine fy (inv:=λz=>0<=z.1/\z.1<=32/\(z.2.length:Int)=4*z.1) (μ:=XV m frame) ⟨by omega,by omega,rfl⟩ (cO _) (λz hz=>?_)
 obtain⟨z1,z2,z3⟩:=hz
 refine aa (λhb=>?_) (λhb=>?_)
 ·have hb:=oY hb
  have e:wrap i64 (wrap i64 (frame*32)+z.1)=frame*32+z.1:=by rw[wrap_i64,wrap_i64];omega
  refine ay (by rw[e];simp[bJ];omega) (cz (show(4:Int)<=1000000000000 by decide) (NY (RW _) λx1 h4=>ay (dY (by rw[Qq,h4];omega)) (ff ?_)))
  show(0<=i64.wrap (z.1+1)/\i64.wrap (z.1+1)<=32/\((z.2++Q2 x1).length:Int)=4*i64.wrap (z.1+1))/\(32-i64.wrap (z.1+1)).toNat<(32-z.1).toNat
  have ew:i64.wrap (z.1+1)=z.1+1:=by rw[wrap_i64];omega
  rw[ew,lA,Qq,h4]
  exact⟨⟨by omega,by omega,by omega⟩,by omega⟩
 ·have hb:=oN hb
  intro _ _
  show(bytesOf z.2).length=128
  rw[Oi];omega
theorem Zik{P:Nat}{m:List Int}(hm:eu P m){d:fp}(hd:oF d)(port:Int){v:Int}(hv:U v)(dj:Int):(Hm d m port v dj).w (λr=>oF r.1/\r.2.length<=1):=by
 have k:∀st,oF {ag:=d.ag,C4:=d.C4,Frame:=d.Frame,C0:=st,D8:=d.D8,B9:=d.B9,B5:=d.B5,C1:=d.C1}:=λst=>⟨hd.block,hd.frame,hd.ku,hd.ib⟩
 have k2:∀c o,oF {ag:=d.ag,C4:=d.C4,Frame:=d.Frame,C0:=1,D8:=c,B9:=d.C4,B5:=d.Frame,C1:=o}:=λc o=>⟨hd.block,hd.frame,hd.block,hd.frame⟩
 have k3:oF {ag:=d.ag,C4:=v,Frame:=d.Frame,C0:=d.C0,D8:=d.D8,B9:=d.B9,B5:=d.B5,C1:=d.C1}:=⟨hv,hd.frame,hd.ku,hd.ib⟩
 have k4:oF {ag:=d.ag,C4:=d.C4,Frame:=v,C0:=d.C0,D8:=d.D8,B9:=d.B9,B5:=d.B5,C1:=d.C1}:=⟨hd.block,hv,hd.ku,hd.ib⟩
 unfold Hm
 repeat'(first
  |refine aa (λ_=>?_) (λ_=>?_)
  |exact bo (zac hm _) λ_ _=>ar λ_ _=>⟨k2 _ _,aO _⟩
  |refine ar (λ_ _=>?_)
  |refine fe ?_)
 all_goals(first
  |exact⟨hd,aT _⟩
  |exact⟨k _,aT _⟩
  |exact⟨k2 _ _,aO _⟩
  |exact⟨k3,aT _⟩
  |exact⟨k4,aT _⟩)
theorem Zmm{P:Nat}{m:List Int}(hm:eu P m){n:ia}(hn:pD n)(port:Int){v:Int}(hv:U v)(dj:Int):(L1 n m port v dj).w (λr=>pD r.1/\r.2.length<=1):=by
 have k1:pD {Frame:=v,F1:=n.F1,C8:=n.C8,C2:=n.C2,B8:=n.B8,F4:=n.F4}:=⟨hv,hn.len,hn.buffer,hn.G0⟩
 have k2:pD {Frame:=n.Frame,F1:=v,C8:=n.C8,C2:=n.C2,B8:=n.B8,F4:=n.F4}:=⟨hn.frame,hv,hn.buffer,hn.G0⟩
 have k3:pD {Frame:=n.Frame,F1:=n.F1,C8:=n.C8,C2:=n.C2,B8:=false,F4:=0}:=⟨hn.frame,hn.len,hn.buffer,ep⟩
 have k4:∀p r,pD {Frame:=n.Frame,F1:=n.F1,C8:=p,C2:=n.Frame,B8:=r,F4:=n.F4}:=λp r=>⟨hn.frame,hn.len,hn.frame,hn.G0⟩
 have send:∀K:List UInt8×Bool->Tree (ia×List dw),nZ m n.Frame=true->(∀x:List UInt8×Bool,x.1.length=128->(K x).w (λr=>pD r.1/\r.2.length<=1))->(Tree.an (Qgj m (wrap .i64 n.Frame)) (.lv (LH m (wrap .i64 n.Frame)) K)).w (λr=>pD r.1/\r.2.length<=1):=λK hp hK=>by
  rw[FE hm hn.frame]at hp
  have hp:=oY hp
  obtain⟨f1,f2⟩:=hn.frame
  have ew:i64.wrap n.Frame=n.Frame:=by rw[wrap_i64];omega
  exact bo (zac hm _) λx hx=>hK x (hx (by rw[ew];exact f1) (by rw[ew];exact hp))
 unfold L1
 repeat'(first
  |refine aa (λ_=>?_) (λ_=>?_)
  |refine send _ (by simp_all) (λx hx=>ay (by simp_all;exact hn.len.1) ?_)
  |refine ar (λ_ _=>?_)
  |refine fe ?_)
 all_goals(first
  |exact⟨hn,aT _⟩
  |exact⟨hn,aO _⟩
  |exact⟨k1,aT _⟩
  |exact⟨k2,aT _⟩
  |exact⟨k3,aT _⟩
  |exact⟨k4 _ _,aT _⟩)
def okB(b:gv):Prop:=U b.C9/\U b.C5
theorem xac{P:Nat}{m:List Int}(hm:eu P m){b:gv}(hb:okB b)(port:Int){v:Int}(hv:U v):(Bw b m port v).w (λr=>okB r.1/\eu P r.2):=by
 have wJ:decide (0<=v)=true:=dY hv.1
 have h2:=hm.p2
 have rest:(Tree.br (port==11) (.br (decide (v<32)) (.cn (decide (0<=v)) (.lf (({C9:=b.C9,C5:=nY .u32 b.C5 (eh .u32 1 v)}:gv),m))) (.lf (b,m))) (.lf (b,m))).w (λr=>okB r.1/\eu P r.2):=
  aa (λ_=>aa (λ_=>ay wJ ⟨⟨hb.1,fj _⟩,hm⟩) (λ_=>⟨hb,hm⟩)) (λ_=>⟨hb,hm⟩)
 unfold Bw
 refine aa (λ_=>ar λx0 hx=>aa (λhp=>ay wJ (aa (λ_=>ay wJ ?_) (λ_=>rest))) (λ_=>rest)) (λ_=>rest)
 have hp:nZ m v=true:=hx.symm.trans hp
 rw[FE hm hv]at hp
 have hp:=oY hp
 obtain⟨v1,v2⟩:=hv
 refine fy (inv:=λz=>0<=z.1/\z.1<=32/\eu P z.2) (μ:=Qh b m port v) ⟨by omega,by omega,hm⟩ (cO _) (λz hz=>?_)
 obtain⟨z1,z2,z3⟩:=hz
 have hl:=z3.len
 refine aa (λh=>?_) (λ_=>⟨⟨hb.1,fj _⟩,z3⟩)
 have h:=oY h
 have e:wrap i64 (wrap i64 (wrap i64 v*32)+z.1)=v*32+z.1:=by rw[wrap_i64,wrap_i64,wrap_i64];omega
 refine ay (by rw[e];simp[bJ];omega) (ff ?_)
 show(0<=i64.wrap (z.1+1)/\i64.wrap (z.1+1)<=32/\eu P (dG _ _ _))/\(32-i64.wrap (z.1+1)).toNat<(32-z.1).toNat
 have ew:i64.wrap (z.1+1)=z.1+1:=by rw[wrap_i64];omega
 rw[ew]
 exact⟨⟨by omega,by omega,⟨by simp[hl],z3.p1,z3.p2,Eb z3.u ep _⟩⟩,by omega⟩
structure nO(P:Nat)(m:au):Prop where
 mj:iz m.B4
 mem:eu P m.Mem
 kY:oF m.B1
 sW:pD m.C6
 target:okB m.A6
 lS:0<=m.A4
theorem Z2k(c:iW)(port:Int):U (Jt c port).2:=by
 refine Tree.post (Hl c port) (W:=λr=>U r.2) ?_
 have u1:U 4294967295:=⟨by omega,by omega⟩
 unfold Hl
 refine aa (λ_=>aa (λ_=>u1) (λh=>aa (λ_=>ay ?_ (ay ?_ (fj _))) (λ_=>aa (λ_=>fj _) (λ_=>ep)))) (λh1=>aa (λh=>(by rw[h1]at h;cases h)) (λ_=>aa (λ_=>fj _) (λ_=>ep)))
 ·have h:¬(c.D5.length:Int)=0:=by simpa using h
  exact dY ⟨by omega,by omega,by omega⟩
 ·have h:¬(c.D5.length:Int)=0:=by simpa using h
  simp[bJ];omega
theorem yA{n:ia}(h:pD n)(port:Int):U (OV n port):=by
 refine Tree.post (OW n port) (W:=U) ?_
 have u1:U 1:=⟨by omega,by omega⟩
 unfold OW
 exact aa (λ_=>h.frame) (λ_=>aa (λ_=>h.G0) (λ_=>aa (λ_=>aa (λ_=>aa (λ_=>fj _) (λ_=>u1)) (λ_=>aa (λ_=>fj _) (λ_=>ep))) (λ_=>ep)))
theorem Zo8{d:fp}(h:oF d)(port:Int):U (Uk d port):=by
 refine Tree.post (VI d port) (W:=U) ?_
 unfold VI
 exact aa (λ_=>h.block) (λ_=>aa (λ_=>h.frame) (λ_=>aa (λ_=>fj _) (λ_=>ep)))
theorem Zio(t:iX):U (Ul t):=by
 refine Tree.post (VJ t) (W:=U) ?_
 unfold VJ
 exact aa (λ_=>⟨by omega,by omega⟩) (λ_=>ep)
theorem Z36{b:gv}(h:U b.C9)(port:Int):U (Jv b port):=by
 refine Tree.post (L4 b port) (W:=U) ?_
 unfold L4
 exact aa (λ_=>h) (λ_=>aa (λ_=>ar λ_ _=>fj _) (λ_=>ep))
structure pC(P:Nat)(r:cy):Prop where
 m:nO P r.A0
 clock:U r.B6
structure Ic(P:Nat)(r x:cy):Prop where
 ok:pC P x
 log:x.D0=r.D0
 queue:x.B3=r.B3
theorem w0(x:Int):0<=u64.wrap x:=by rw[wrap_u64];omega
section
variable {P:Nat} {r:cy} (h:pC P r)
include h
theorem Jak(port:Int){clock:Int}(hc:U clock):(Pa r port clock).w (λx=>U x.1/\Ic P r x.2):=by
 have k:Ic P r r:=⟨h,rfl,rfl⟩
 obtain⟨⟨h1,h2,h3,h4,h5,h7⟩,h6⟩:=h
 unfold Pa
 exact aa (λ_=>ar λx hx=>⟨hx▸Z2k _ _,⟨⟨⟨h1,h2,h3,h4,h5,h7⟩,h6⟩,rfl,rfl⟩⟩) (λ_=>aa (λ_=>⟨hc,k⟩) (λ_=>aa (λ_=>ar λx hx=>⟨hx▸Zio _,k⟩) (λ_=>aa (λ_=>ar λx hx=>⟨hx▸Zo8 h3 _,k⟩) (λ_=>aa (λ_=>ar λx hx=>⟨hx▸yA h4 _,k⟩) (λ_=>ar λx hx=>⟨hx▸Z36 h5.1 _,k⟩)))))
theorem RX(port:Int){v:Int}(hv:U v):(Mg r port v).w (λx=>x.1.length<=1/\Ic P r x.2):=by
 have k:Ic P r r:=⟨h,rfl,rfl⟩
 obtain⟨⟨h1,h2,h3,h4,h5,h7⟩,h6⟩:=h
 unfold Mg
 exact aa (λ_=>⟨aO _,k⟩) (λ_=>aa (λ_=>⟨aT _,k⟩) (λ_=>aa (λ_=>ar λ_ _=>⟨aT _,⟨⟨⟨h1,h2,h3,h4,h5,h7⟩,h6⟩,rfl,rfl⟩⟩) (λ_=>aa (λ_=>bo (Zik h2 h3 _ hv _) λx hx=>⟨hx.2,⟨⟨⟨h1,h2,hx.1,h4,h5,h7⟩,h6⟩,rfl,rfl⟩⟩) (λ_=>aa (λ_=>bo (Zmm h2 h4 _ hv _) λx hx=>⟨hx.2,⟨⟨⟨h1,h2,h3,hx.1,h5,h7⟩,h6⟩,rfl,rfl⟩⟩) (λ_=>bo (xac h2 h5 _ hv) λx hx=>⟨aT _,⟨⟨⟨h1,hx.2,h3,h4,hx.1,h7⟩,h6⟩,rfl,rfl⟩⟩)))))
theorem Tm{clock:Int}(hc:U clock):(Mj r clock).w (λx=>x.1.length<=1/\Ic P r x.2):=by
 obtain⟨⟨h1,h2,h3,h4,h5,h7⟩,h6⟩:=h
 unfold Mj
 refine bo (Tn h1) λx0 c0=>bo (Fo c0 h2) λx1 hx=>?_
 obtain⟨c1,v1,m1⟩:=hx
 refine aa (λ_=>NY (Jak (r:=⟨⟨_,_,_,_,_,_,_,_,_,_⟩,_,_,_⟩) ⟨⟨c1,m1,h3,h4,h5,h7⟩,h6⟩ _ hc) λx2 hx=>?_) (λ_=>aa (λ_=>bo (RX (r:=⟨⟨_,_,_,_,_,_,_,_,_,_⟩,_,_,_⟩) ⟨⟨c1,m1,h3,h4,h5,h7⟩,h6⟩ _ v1) λx4 hx=>?_) (λ_=>?_))
 ·obtain⟨u,⟨⟨⟨k1,k2,k3,k4,k5,k7⟩,k6⟩,e1,e2⟩⟩:=hx
  exact bo (DY k1 _ u) λx3 h3=>⟨aT _,⟨⟨⟨h3,k2,k3,k4,k5,w0 _⟩,k6⟩,e1,e2⟩⟩
 ·obtain⟨u,⟨⟨⟨k1,k2,k3,k4,k5,k7⟩,k6⟩,e1,e2⟩⟩:=hx
  exact⟨u,⟨⟨⟨k1,k2,k3,k4,k5,w0 _⟩,k6⟩,e1,e2⟩⟩
 ·repeat'(first
   |exact⟨aT _,⟨⟨⟨c1,m1,h3,h4,h5,w0 _⟩,h6⟩,rfl,rfl⟩⟩
   |refine aa (λ_=>?_) (λ_=>?_))
end
theorem qad(c:iW)(b:Int):(RY c b).w (λ_=>True):=by
 unfold RY
 refine aa (λ_=>trivial) (λh=>ay (dY ?_) trivial)
 have h:=oN h
 simp[maxLen];omega
theorem Zm7{P:Nat}{m:List Int}(hm:eu P m){n:ia}(hn:pD n)(frame:List UInt8):(L3 n m frame).w (λr=>pD r.1/\eu P r.2.2):=by
 unfold L3
 refine aa (λ_=>⟨hn,hm⟩) (λ_=>aa (λ_=>⟨hn,hm⟩) (λ_=>aa (λ_=>⟨hn,hm⟩) (λ_=>ar λx0 hx=>aa (λ_=>⟨hn,hm⟩) (λhb=>?_))))
 have hp:nZ m n.C2=true:=hx.symm.trans (by simpa using hb)
 rw[FE hm hn.buffer]at hp
 have hp:=oY hp
 obtain⟨b1,b2⟩:=hn.buffer
 have ew:i64.wrap n.C2=n.C2:=by rw[wrap_i64];omega
 exact bo (zab hm (frame:=i64.wrap n.C2) (by rw[ew];exact b1) (by rw[ew];exact hp) frame) λx hx=>⟨⟨hn.frame,hn.len,ep,fj _⟩,hx⟩
section
variable {P:Nat} {r:cy} (h:pC P r)
include h
theorem zaC{e:gx}(he:U e.N):(Mh r e).w (λx=>Ic P r x.2):=by
 have k:Ic P r r:=⟨h,rfl,rfl⟩
 obtain⟨⟨h1,h2,h3,h4,h5,h7⟩,h6⟩:=h
 unfold Mh
 repeat'(first
  |exact k
  |exact⟨⟨⟨h1,h2,h3,h4,⟨he,h5.2⟩,h7⟩,h6⟩,rfl,rfl⟩
  |exact ar λ_ _=>⟨⟨⟨h1,h2,h3,h4,h5,h7⟩,h6⟩,rfl,rfl⟩
  |exact bo (qad _ _) λ_ _=>⟨⟨⟨h1,h2,h3,h4,h5,h7⟩,h6⟩,rfl,rfl⟩
  |exact bo (Zmu h2 h3 _) λx hx=>⟨⟨⟨h1,hx.2,hx.1,h4,h5,h7⟩,h6⟩,rfl,rfl⟩
  |exact bo (Zm7 h2 h4 _) λx hx=>⟨⟨⟨h1,hx.2,h3,hx.1,h5,h7⟩,h6⟩,rfl,rfl⟩
  |refine aa (λ_=>?_) (λ_=>?_))
theorem vA{e:gx}(he:U e.N)(hl:r.D0.length<=1000000):(Ml r e).w (λx=>pC P x/\x.D0.length<=r.D0.length+1/\x.B3=r.B3):=by
 have acc:(Mk r e).w (λx=>Ic P r x.2):=by
  unfold Mk
  exact bo (zaC h he) λx hx=>hx
 unfold Ml
 refine bo acc λx hx=>?_
 obtain⟨⟨k1,k2⟩,e1,e2⟩:=hx
 refine aa (λ_=>ay (dY (by rw[e1];omega)) ⟨⟨k1,k2⟩,by simp[e1],e2⟩) (λ_=>⟨⟨k1,k2⟩,by rw[e1];omega,e2⟩)
theorem GP(hl:r.D0.length<=1000000)(hq:r.B3.length<=1000000):(Mm r).w (λx=>pC P x/\x.D0=r.D0/\x.B3=r.B3):=by
 have ow:(GR r.A0).w (λm=>nO P m):=by
  obtain⟨⟨h1,h2,h3,h4,h5,h7⟩,h6⟩:=h
  unfold GR
  exact bo (qab h2) λx hx=>⟨h1,by rw[hx];exact h2,h3,h4,h5,h7⟩
 unfold Mm
 refine bo ow λx hx=>ay (dY (by simp;omega)) (ay (dY (by simp;omega)) ⟨⟨hx,h.clock⟩,rfl,rfl⟩)
theorem xV(e:gx)(hl:r.D0.length<=1000000)(hq:r.B3.length<=16)(hu:∀q∈r.B3,U q.N)(he:U e.N):(Mp r e).w (λx=>pC P x.1/\x.1.D0=r.D0/\x.1.B3.length<=16/\∀q∈x.1.B3,U q.N):=by
 unfold Mp
 refine bo (GP h hl (by omega)) λx hx=>?_
 obtain⟨k1,k2,k3⟩:=hx
 have g:pC P x/\x.D0=r.D0/\x.B3.length<=16/\∀q∈x.B3,U q.N:=⟨k1,k2,by rw[k3];exact hq,by rw[k3];exact hu⟩
 refine ar λx1 _=>aa (λ_=>g) (λ_=>aa (λ_=>g) (λ_=>aa (λ_=>g) (λhb=>ay (dY (by rw[k3];omega)) ?_)))
 have hb:=oN hb
 refine⟨⟨k1.m,k1.clock⟩,k2,?_,?_⟩
 ·show(x.B3++[e]).length<=16
  rw[lA];simp at hb⊢;omega
 ·intro q hq
  have hq:q∈x.B3++[e]:=hq
  rw[List.mem_append]at hq
  rcases hq with hq|hq
  ·exact hu q (k3▸hq)
  ·rw[List.mem_singleton.1 hq];exact he
end
theorem qB(n:Int):(RZ n).w (λe=>U e.N):=by
 have u1:U 1:=⟨by omega,by omega⟩
 have Jal:∀x y,M1 x (wrap .i64 (1+dE y 40)):=λx y=>by
  show wrap .i64 (1+dE y 40)<=1000000000000
  have h1:=Int.tmod_lt_of_pos y (b:=40) (by decide)
  have h2:=Int.lt_tmod_of_pos y (b:=40) (by decide)
  rw[wrap_i64];omega
 unfold RZ
 refine ar λx0 _=>?_
 repeat'(first
  |exact ep
  |exact u1
  |exact fj _
  |exact cz (show(128:Int)<=1000000000000 by decide) (ar λ_ _=>u1)
  |exact cz (Jal _ _) (ar λ_ _=>ep)
  |refine aa (λ_=>?_) (λ_=>?_))

import Derived.Test.YthjfindbamdacaaGreatDoorAuditComparesZx
open List renaming set->dG,mem_cons->cR,not_mem_nil->cS
open Nat renaming blt->bJ,beq->bT,lt_succ_self->cO,le_refl->aO,zero_le->aT
open Int renaming pow_pos->dO,le_of_lt->dQ,fdiv_eq_ediv_of_nonneg->dP,tmod->dE,mul_tmod_right->hJ,mul_tdiv_cancel_left->hY,tdiv->eU,tdiv_eq_ediv_of_nonneg->eV,emod_eq_of_lt->dM,lt_of_lt_of_le->hZ,le_of_eq->iA
open BitVec renaming ofInt->dW,toNat_and->eA
set_option maxRecDepth 100000
set_option linter.all false
namespace Go.Proofs.YthjfindbamdacaaGreatDoor
open Go Go.GD
open Go.IntKind(wrap i64 u32 u64 u8 i32 wrap_i64 wrap_u32 wrap_u64 wrap_u8 wrap_i32)
def U(x:Int):Prop:=0<=x/\x<4294967296
theorem fj(x:Int):U (u32.wrap x):=by rw[wrap_u32];unfold U;omega
theorem Iy(x y:Int):U (bb .u32 x y):=fj _
theorem mC(x y:Int):U (ie .u32 x y):=fj _
theorem eh:U 0:=⟨by omega,by omega⟩
theorem Dm{m:List Int}(h:∀w∈m,U w){v:Int}(hv:U v)(i:Nat):∀w∈m.set i v,U w:=by
 intro w hw
 rcases List.mem_or_eq_of_mem_set hw with h1|h1
 ·exact h w h1
 ·rw[h1];exact hv
structure ei(P:Nat)(m:List Int):Prop where
 len:m.length=32*P
 p1:0<=P
 p2:P<=32
 u:∀w∈m,U w
structure oc(d:fe):Prop where
 block:U d.B9
 frame:U d.Frame
 j6:U d.B4
 gr:U d.B0
structure oR(n:gq):Prop where
 frame:U n.Frame
 len:U n.D6
 buffer:U n.B7
 F7:U n.D8
theorem Ai{l:List Int}(h:∀w∈l,U w)(i:Nat):U (l.getD i 0):=by
 by_cases hi:i<l.length
 ·have:l.getD i 0=l[i]:=by simp[List.getD,hi]
  rw[this];exact h _ (List.getElem_mem hi)
 ·have:l.getD i 0=0:=by simp[List.getD,List.getElem?_eq_none (by omega:l.length<=i)]
  rw[this];exact eh
structure ir(c:bg):Prop where
 x:∀w∈fv.l c.X,U w
 pc:U c.Pc
 jj:∀w∈A8.l c.B2,U w
theorem Wl{X:fv Int}(h:∀w∈fv.l X,U w){v:Int}(hv:U v)(i:Nat):∀w∈fv.l (fv.of 0 (dG (fv.l X) i v)),U w:=by
 have hs:=Dm h hv i
 intro w hw
 simp only[fv.l,fv.of,cR,cS,or_false]at hw
 repeat(first|(rcases hw with rfl|hw;· exact Ai hs _)|(subst hw;exact Ai hs _))
theorem Zfq{X:A8 Int}(h:∀w∈A8.l X,U w){v:Int}(hv:U v)(i:Nat):∀w∈A8.l (A8.of 0 (dG (A8.l X) i v)),U w:=by
 have hs:=Dm h hv i
 intro w hw
 simp only[A8.l,A8.of,cR,cS,or_false]at hw
 repeat(first|(rcases hw with rfl|hw;· exact Ai hs _)|(subst hw;exact Ai hs _))
section
variable {c:bg} (h:ir c)
include h
theorem ir.a(i:Nat):U ((A8.l c.B2).getD i 0):=Ai h.jj i
theorem ir.r(i:Nat):U ((fv.l c.X).getD i 0):=Ai h.x i
theorem ir.a0:U c.B2.a0:=h.a 0
theorem ir.a1:U c.B2.a1:=h.a 1
theorem ir.a2:U c.B2.a2:=h.a 2
theorem ir.a3:U c.B2.a3:=h.a 3
theorem ir.a4:U c.B2.a4:=h.a 4
theorem ir.a5:U c.B2.a5:=h.a 5
theorem ir.a6:U c.B2.a6:=h.a 6
theorem ir.a7:U c.B2.a7:=h.a 7
theorem ir.AF{p:Int}(hp:U p):ir {X:=c.X,Pc:=p,B2:=c.B2}:=⟨h.x,hp,h.jj⟩
end
section
variable {α β:Type} {W:β->Prop} {t:Tree α} {Q:α->Prop} {k:α->Tree β}
theorem bm(hq:t.w Q)(g:∀x,Q x->(k x).w W):(Tree.an t.p (Tree.lv t.m k)).w W:=⟨(Tree.pp hq).1,λy hy=>g y (by rw[hy];exact(Tree.pp hq).2)⟩
theorem Sg(hq:t.w Q)(g:∀x,Q x->(k x).w W):(Tree.lv t.m k).w W:=λy hy=>g y (by rw[hy];exact t.post hq)
end
theorem rc{r:Int}(h:0<=r/\r<16):(bJ 0 1&&decide (0<=r/\r<((16:Nat):Int)))=true:=by simp[bJ];omega
theorem Ah{a:Int}(h:U a)(b:Int):U (bf .u32 a b):=by
 unfold bf U
 obtain⟨h1,h2⟩:=h
 have hp:(0:Int)<2^(min b.toNat u32.bits):=dO (by decide)
 have:=Int.fdiv_nonneg h1 (dQ hp)
 refine⟨this,?_⟩
 rw[dP _ (dQ hp)]
 have h3:=Int.ediv_le_self (2^(min b.toNat u32.bits)) h1
 omega
structure sg(i:gj):Prop where
 a:0<=i.A/\i.A<16
 b:0<=i.B/\i.B<16
 c:0<=i.C/\i.C<16
 jj:i.Op=58->0<=i.bh/\i.bh<8
theorem WD{P:Nat}{m:List Int}(h:ei P m):lC m=P:=by
 obtain⟨h1,h2,h3,_⟩:=h
 simp only[lC,Kr,Tree.m]
 have e:(m.length:Int)=32*P:=by omega
 rw[e]
 have e1:(dE (32*(P:Int)) 32 !=0)=false:=by simp[hJ]
 have e2:decide ((32*(P:Int))>1024)=false:=dN (by omega)
 rw[e1,e2]
 simp only[cond_false]
 rw[hY _ (by decide),wrap_i64];omega
theorem v6(n:Int):(P1 n).w (λ_=>True):=by
 unfold P1
 exact aa (λ_=>trivial) (λ_=>ax (dY (by rw[wrap_u64];omega)) trivial)
theorem L5(w low n:Int):(P2 w low n).w U:=by
 unfold P2
 exact aa (λ_=>eh) (λ_=>aa (λ_=>eh) (λ_=>aa (λ_=>eh) (λ_=>ax (dY (by rw[wrap_u64];omega)) (bm (v6 n) λ_ _=>Iy _ _))))
theorem Zo{w:Int}(hw:U w)(low n v:Int):(P3 w low n v).w U:=by
 have h0:decide (0<=wrap u64 low)=true:=dY (by rw[wrap_u64];omega)
 unfold P3
 exact aa (λ_=>hw) (λ_=>aa (λ_=>hw) (λ_=>aa (λ_=>hw) (λ_=>bm (v6 n) λ_ _=>ax h0 (ax h0 (mC _ _)))))
theorem Wd{x:Int}(hx:U x)(n:Int):(P4 x n).w U:=by
 have h0:∀y,decide (0<=wrap u64 y)=true:=λy=>dY (by rw[wrap_u64];omega)
 unfold P4
 exact aa (λ_=>eh) (λ_=>aa (λ_=>hx) (λ_=>ax (h0 _) (ax (h0 _) (fj _))))
section
variable {P:Nat} {m:List Int} (h:ei P m)
include h
theorem rm:mh m:=by
 have:=h.len
 have:=h.p2
 show m.length<=35184372088832
 omega
theorem Zg7{a:Int}(ha:U a){size:Int}(hs:size=1\/size=4):(IA m a size).w (λb=>b=true->a+size<=128*P):=by
 have hp:=WD h
 have h2:=h.p2
 obtain⟨a1,a2⟩:=ha
 have e:decide (wrap u32 size≠0)=true:=by rcases hs with rfl|rfl<;>decide
 have l:∀x,x=lC m->decide (wrap u64 (wrap u64 a+wrap u64 size)<=wrap u64 (wrap u64 x*128))=true->a+size<=128*P:=λx hx hd=>by
  rw[hx,hp]at hd
  have:=oY hd
  simp only[wrap_u64]at this
  omega
 unfold IA
 refine aa (λ_=>aa (λ_=>λh=>by cases h) (λ_=>?_)) (λ_=>?_)<;>
 exact ax e (aa (λ_=>λh=>by cases h) (λ_=>aq λx hx=>l x hx))
theorem Fs{a:Int}(ha:U a)(hl:a<128*P):(bT 1 1&&bJ 0 1&&decide (0<=wrap u32 (eU a 4)/\wrap u32 (eU a 4)<(m.length:Int)))=true:=by
 obtain⟨a1,a2⟩:=ha
 have e:wrap u32 (eU a 4)=a/4:=by rw[wrap_u32,eV a1];omega
 have:=h.len
 rw[e];simp[bJ];omega
theorem Is{a:Int}(ha:U a){size:Int}(hs:size=1\/size=4):(KR m a size).w (λr=>U r.1/\(r.2=true->a<128*P)):=by
 unfold KR
 refine bm (Zg7 h ha hs) λx hx=>aa (λ_=>⟨eh,λh=>by cases h⟩) (λhb=>?_)
 have hl:=hx (by simpa using hb)
 have hl:a<128*P:=by omega
 exact ax (Fs h ha hl) (aa (λ_=>bm (L5 _ _ _) λy hy=>⟨hy,λ_=>hl⟩) (λ_=>⟨Ai h.u _,λ_=>hl⟩))
theorem Z0{a:Int}(ha:U a){size:Int}(hs:size=1\/size=4){v:Int}(hv:U v):(KT m a size v).w (λr=>ei P r.1):=by
 have st:∀i v,U v->ei P (m.set i v):=λi v hv=>⟨by simp[h.len],h.p1,h.p2,Dm h.u hv i⟩
 have gp:jy m=m:=rfl
 unfold KT
 refine cr (rm h) (aq λx0 mU=>?_)
 rw[gp]at mU;subst mU
 refine bm (Zg7 h ha hs) λx hx=>aa (λ_=>h) (λhb=>?_)
 have hl:=hx (by simpa using hb)
 have hl:a<128*P:=by omega
 exact aa (λ_=>ax (Fs h ha hl) (bm (Zo (Ai h.u _) _ _ _) λy hy=>ax (Fs h ha hl) (st _ _ hy))) (λ_=>ax (Fs h ha hl) (st _ _ hv))
end
theorem YZ{r:Int}{used:Bool}(h:KL r used=true):0<=r/\r<16:=by
 simp only[KL,Sw,Tree.m]at h
 cases used
 ·have h:(r==0)=true:=h
  have:=eq_of_beq h;omega
 ·cases h1:decide (r>=0)<;>rw[h1]at h
  ·cases h
  ·have h1:=oY h1
   have h:=oY h
   omega
theorem qx{i:gj}(h:Ix i=true):sg i:=by
 have no:false=true->sg i:=λh=>by cases h
 refine(Tree.post (NG i) (W:=λb=>b=true->sg i) ?_) h
 unfold NG
 refine aq λx0 h0=>aa (λ_=>aq λx1 h1=>aa (λb1=>aq λx2 h2=>aa (λb2=>aq λx3 h3=>aa (λb3=>aa (λb4=>λb5=>?_) (λ_=>no)) (λ_=>no)) (λ_=>no)) (λ_=>no)) (λ_=>no)
 have b4:=oY b4
 have b5:=oY b5
 refine⟨YZ (h1.symm.trans b1),YZ (h2.symm.trans b2),YZ (h3.symm.trans b3),λe=>?_⟩
 rw[e]at h0
 have h0:x0=({a:=true,b:=false,c:=false,low:=0,D3:=7},true):=h0
 subst h0
 simp at b4 b5;omega
theorem Wf(w:Int):(KN w).w (λr=>r.2=true->sg r.1):=by
 have no:∀{p:Prop},false=true->p:=λh=>by cases h
 have l:∀i,(Tree.lv (Ix i) λx=>.br (!x) (.lf ((⟨0,0,0,0,0⟩:gj),false)) (.lf (i,true))).w (λr=>r.2=true->sg r.1):=λi=>aq λx hx=>aa (λ_=>no) (λhb=>λ_=>qx (hx.symm.trans (by simpa using hb)))
 unfold KN
 exact bm (L5 _ _ _) λx0 _=>bm (L5 _ _ _) λx1 _=>bm (L5 _ _ _) λx2 _=>aq λx3 _=>aa (λ_=>no) (λ_=>bm (L5 _ _ _) λx4 h4=>aa (λ_=>l _) (λ_=>aa (λ_=>bm (Wd h4 _) λx6 _=>l _) (λ_=>l _)))
section
variable {P:Nat} {m:List Int} (h:ei P m)
include h
theorem vS{f:Int}(hf:U f):NL m f=decide (f<P):=by
 have:=WD h
 obtain⟨h1,h2⟩:=hf
 have h3:=h.p2
 simp only[NL,Y0,Tree.m,dj,this]
 congr 1
 rw[wrap_u64,wrap_u64,dM h1 (by omega),dM (by omega) (by omega)]
theorem xau{root va:Int}(hv:U va)(access:Int):(KV m root va access).w (λt=>U t.Addr/\U t.E0):=by
 have bad:U (0:Int)/\U (0:Int):=⟨eh,eh⟩
 have fr:∀x,(P5 x).w U:=λx=>by
  unfold P5
  exact bm (L5 _ _ _) λy hy=>hy
 unfold KV
 exact aq λx0 _=>aa (λ_=>bad) (λ_=>aa (λ_=>bad) (λ_=>aq λx1 _=>aa (λ_=>bad) (λ_=>bm (Is h (fj _) (.inr rfl)) λx2 _=>aa (λ_=>bad) (λ_=>aq λx3 _=>aa (λ_=>bad) (λ_=>bm (fr _) λx4 _=>aq λx5 _=>aa (λ_=>bad) (λ_=>bm (fr _) λx6 _=>⟨fj _,fj _⟩))))))
theorem qT{a:Int}(ha:U a)(access:Int):(KW m a access).w (ei P):=by
 have gp:jy m=m:=rfl
 unfold KW
 exact bm (Is h ha (.inr rfl)) λx0 _=>aa (λ_=>cr (rm h) (aq λx1 h1=>by rw[h1,gp];exact h)) (λ_=>aa (λ_=>bm (Z0 h ha (.inr rfl) (mC _ _)) λx hx=>hx) (λ_=>bm (Z0 h ha (.inr rfl) (mC _ _)) λx hx=>hx))
theorem NC{c:bg}{va:Int}(hv:U va){size:Int}(hs:size=1\/size=4)(access:Int):(K3 c m va size access).w (λr=>U r.1/\ei P r.2.1):=by
 have gp:jy m=m:=rfl
 have e:decide (wrap u32 size≠0)=true:=by rcases hs with rfl|rfl<;>decide
 have cl:∀(K:List Int->Int×List Int×Int),(∀x,x=m->U (K x).1/\ei P (K x).2.1)->(Tree.an (mh m) (.lv (jy m) λx=>.lf (K x))).w (λr=>U r.1/\ei P r.2.1):=λK hK=>cr (rm h) (aq λx hx=>hK x (hx.trans gp))
 have z:∀(k:Nat) (x:List Int),x=m->U (0:Int)/\ei P x:=λ_ x hx=>⟨eh,hx▸h⟩
 have v:∀x,x=m->U va/\ei P x:=λx hx=>⟨hv,hx▸h⟩
 have main:∀(x0:Int×Bool),(Tree.cn (decide (wrap u32 size≠0)) (.br (dE va (wrap u32 size) !=0) (.an (mh m) (.lv (jy m) λx3=>.lf ((0:Int),x3,(3:Int)))) (.lv (Gm c) λx4=>.br (!x4) (.br (bb u32 c.B2.a0 4 !=0) (.an (Qhe m c.B2.a6 va access) (.lv (SC m c.B2.a6 va access) λx5=>.br (x5.D9 !=0) (.an (mh m) (.lv (jy m) λx6=>.lf (0,x6,x5.D9))) (.an (Qex m x5.E0 access) (.lv (Qb m x5.E0 access) λx7=>.lf (x5.Addr,x7,0))))) (.an (Jv m va size) (.lv (BS m va size) λx8=>.br (!x8.2) (.an (mh m) (.lv (jy m) λx9=>.lf (0,x9,x0.1))) (.an (mh m) (.lv (jy m) λkZ=>.lf (va,kZ,0)))))) (.an (Jv m va size) (.lv (BS m va size) λnq=>.br (!nq.2) (.an (mh m) (.lv (jy m) λpz=>.lf (0,pz,x0.1))) (.an (mh m) (.lv (jy m) λry=>.lf (va,ry,0)))))))).w (λr=>U r.1/\ei P r.2.1):=λx0=>
  ax e (aa (λ_=>cl _ (z 0)) (λ_=>aq λx4 _=>aa (λ_=>aa (λ_=>bm (xau h hv access) λx5 hx=>aa (λ_=>cl _ (z 0)) (λ_=>bm (qT h hx.2 access) λx7 h7=>⟨hx.1,h7⟩)) (λ_=>bm (Is h hv hs) λx8 _=>aa (λ_=>cl _ (z 0)) (λ_=>cl _ v))) (λ_=>bm (Is h hv hs) λx8 _=>aa (λ_=>cl _ (z 0)) (λ_=>cl _ v))))
 unfold K3
 exact aq λx0 _=>aa (λ_=>cl _ (z 0)) (λ_=>aa (λ_=>aa (λ_=>cl _ (z 0)) (λ_=>main x0)) (λ_=>main x0))
theorem We{c:bg}(hc:ir c):(P6 c m).w (λr=>U r.1/\ei P r.2.1):=by
 unfold P6
 exact bm (NC h hc.pc (.inr rfl) 1) λx0 h0=>aa (λ_=>⟨eh,h0.2⟩) (λ_=>bm (Is h0.2 h0.1 (.inr rfl)) λx1 h1=>⟨h1.1,h0.2⟩)
end
theorem qav{s a b:Int}:U (Af s a b):=by
 refine Tree.post (Un s a b) (W:=U) ?_
 unfold Un
 exact aa (λ_=>fj _) (λ_=>fj _)
section
variable {c:bg} (h:ir c)
include h
theorem Gc(k:Int){b:Int}(hb:U b):ir (pO c k b):=by
 refine(Tree.post (NN c k b) (W:=ir) ?_)
 unfold NN
 refine aq λ_ _=>aq λ_ _=>⟨h.x,h.a1,?_⟩
 intro w hw
 simp only[A8.l,cR,cS,or_false]at hw
 rcases hw with rfl|rfl|rfl|rfl|rfl|rfl|rfl|rfl
 ·exact fj _
 ·exact h.a1
 ·exact h.pc
 ·exact fj _
 ·exact hb
 ·exact h.a5
 ·exact h.a6
 ·exact h.a7
theorem xx:ir (KG c):=by
 refine(Tree.post (NP c) (W:=ir) ?_)
 unfold NP
 refine aq λx0 _=>aq λx1 h1=>⟨h.x,h.a2,?_⟩
 intro w hw
 simp only[A8.l,cR,cS,or_false]at hw
 rcases hw with rfl|rfl|rfl|rfl|rfl|rfl|rfl|rfl
 ·rw[h1];exact qav
 ·exact h.a1
 ·exact h.a2
 ·exact h.a3
 ·exact h.a4
 ·exact h.a5
 ·exact h.a6
 ·exact h.a7
theorem Dt{r:Int}(hr:0<=r/\r<16){v:Int}(hv:U v):(Ey c r v).w ir:=by
 unfold Ey
 exact aa (λ_=>ax (rc hr) ⟨Wl h.x hv _,h.pc,h.jj⟩) (λ_=>h)
theorem Zkp(k:Int){v:Int}(hv:U v):(Iq c k v).w ir:=by
 have ok:∀i v,U v->ir {X:=c.X,Pc:=c.Pc,B2:=A8.of 0 (dG (A8.l c.B2) i v)}:=λi v hv=>⟨h.x,h.pc,Zfq h.jj hv i⟩
 unfold Iq
 repeat'(first
  |exact h
  |exact ok _ _ (fj _)
  |exact ok _ _ hv
  |refine aa (λhk=>?_) (λ_=>?_)
  |refine ax (by rw[eq_of_beq (by assumption:(k==_)=true)];decide) ?_)
end
theorem Zc9{a b:Int}(ha:U a)(hb:U b):(K0 a b).w (λr=>U r.1/\U r.2):=by
 have u1:U 4294967295:=⟨by omega,by omega⟩
 unfold K0
 refine aa (λ_=>⟨u1,ha⟩) (λh=>?_)
 have h:¬b=0:=by simpa using h
 obtain⟨b1,b2⟩:=hb
 have hc:decide (wrap i32 b≠0)=true:=dY (by rw[wrap_i32];omega)
 exact aa (λ_=>aa (λ_=>⟨ha,eh⟩) (λ_=>ax hc (ax hc ⟨fj _,fj _⟩))) (λ_=>ax hc (ax hc ⟨fj _,fj _⟩))
theorem zav(b:Bool):U (Uo b):=by cases b<;>exact⟨by decide,by decide⟩
theorem KI(op:Int){a b:Int}(ha:U a)(hb:U b):(P7 op a b).w (λr=>U r.1):=by
 unfold P7
 repeat'(first
  |refine aa (λ_=>?_) (λ_=>?_)
  |exact bm (Zc9 ha hb) λx hx=>hx.1
  |exact bm (Zc9 ha hb) λx hx=>hx.2
  |exact aq λx hx=>(by rw[hx];exact zav _)
  |refine bu ?_)
 all_goals(first
  |exact fj _
  |exact Ah ha _
  |exact eh)
theorem Ss(op:Int):Jw op=1\/Jw op=4:=by
 simp only[Jw,Y1,Tree.m]
 cases op==32<;>cases op==35<;>simp
section
variable {c:bg} (h:ir c) {i:gj} (hi:sg i)
include h hi
theorem Zmc:(Ez c i).w (λr=>ir r.1/\U r.2.Value):=by
 have k:∀{x:bg} {p:Int},ir x->U p->ir {X:=x.X,Pc:=p,B2:=x.B2}:=λhx hp=>⟨hx.x,hp,hx.jj⟩
 unfold Ez
 refine ax (rc hi.a) (ax (rc hi.b) ?_)
 repeat'(first
  |refine aa (λ_=>?_) (λ_=>?_)
  |exact bm (Dt h hi.a (fj _)) λx hx=>⟨k hx (fj _),eh⟩
  |exact aq λx _=>aa (λ_=>⟨k h (fj _),eh⟩) (λ_=>⟨k h (fj _),eh⟩)
  |exact aq λx hx=>⟨by rw[hx];exact Gc h _ eh,eh⟩
  |exact aq λx hx=>⟨by rw[hx];exact xx h,eh⟩
  |exact ax (by have:=hi.jj (by simp_all);simp[bJ];omega) (bm (Dt h hi.a (h.a _)) λx hx=>⟨k hx (fj _),eh⟩)
  |exact bm (Zkp h _ (h.r _)) λx hx=>⟨k hx (fj _),eh⟩
  |refine ax (rc hi.c) ?_
  |exact bm (KI _ (h.r _) (fj _)) λy hy=>bm (Dt h hi.a hy) λx hx=>⟨k hx (fj _),eh⟩
  |exact bm (KI _ (h.r _) (h.r _)) λy hy=>bm (Dt h hi.a hy) λx hx=>⟨k hx (fj _),eh⟩
  |refine bu ?_)
 all_goals(first
  |exact⟨k h (fj _),eh⟩
  |exact⟨k h (fj _),h.r _⟩)
theorem Z0s{P:Nat}{m:List Int}(hm:ei P m):(Ir c m i).w (λr=>ir r.1/\ei P r.2):=by
 have w:=Ss i.Op
 unfold Ir
 refine ax (rc hi.b) (aq λx0 h0=>?_)
 rw[<-h0]at w
 refine bm (NC hm (fj _) w 2) λx1 h1=>aa (λ_=>aq λy hy=>⟨by rw[hy];exact Gc h _ (fj _),h1.2⟩) (λ_=>aq λx3 h3=>?_)
 rw[h0,<-h3]at w
 exact bm (Is h1.2 h1.1 w) λx4 h4=>aa (λ_=>bm (Wd h4.1 8) λy hy=>bm (Dt h hi.a hy) λx hx=>⟨⟨hx.x,fj _,hx.jj⟩,h1.2⟩) (λ_=>bm (Dt h hi.a h4.1) λx hx=>⟨⟨hx.x,fj _,hx.jj⟩,h1.2⟩)
theorem Qx3{P:Nat}{m:List Int}(hm:ei P m):(It c m i).w (λr=>ir r.1/\ei P r.2):=by
 have w:=Ss i.Op
 unfold It
 refine ax (rc hi.b) (aq λx0 h0=>?_)
 rw[<-h0]at w
 refine bm (NC hm (fj _) w 3) λx1 h1=>aa (λ_=>aq λy hy=>⟨by rw[hy];exact Gc h _ (fj _),h1.2⟩) (λ_=>aq λx3 h3=>ax (rc hi.a) ?_)
 rw[h0,<-h3]at w
 exact bm (Z0 h1.2 h1.1 w (h.r _)) λx hx=>⟨⟨h.x,fj _,h.jj⟩,hx⟩
end
theorem zx{c:bg}(h:ir c){P:Nat}{m:List Int}(hm:ei P m):(EA c m).w (λr=>ir r.1/\ei P r.2.1/\U r.2.2.Value):=by
 unfold EA
 refine bm (We hm h) λx0 h0=>aa (λ_=>aq λy hy=>⟨by rw[hy];exact Gc h _ h.pc,h0.2,eh⟩) (λ_=>bm (Wf _) λx2 h2=>aa (λ_=>aq λy hy=>⟨by rw[hy];exact Gc h _ h0.1,h0.2,eh⟩) (λhb=>?_))
 have hi:=h2 (by simpa using hb)
 refine aq λx4 _=>?_
 repeat'(first
  |refine aa (λ_=>?_) (λ_=>?_)
  |exact bm (Z0s h hi h0.2) λx hx=>⟨hx.1,hx.2,eh⟩
  |exact bm (Qx3 h hi h0.2) λx hx=>⟨hx.1,hx.2,eh⟩
  |exact bm (Zmc h hi) λx hx=>⟨hx.1,h0.2,hx.2⟩
  |exact aq λy hy=>⟨by rw[hy];exact Gc h _ h0.1,h0.2,eh⟩
  |refine aq λ_ _=>?_)
theorem Up{a:Int}(h:U a)(k:Nat)(hk:k<=32):0<=bf .u32 a k/\bf .u32 a k*2^k<=a:=by
 obtain⟨h1,h2⟩:=h
 unfold bf
 have e:min (k:Int).toNat u32.bits=k:=by show min (k:Int).toNat 32=k;omega
 have hp:(0:Int)<2^k:=dO (by decide)
 rw[e,dP _ (dQ hp)]
 exact⟨Int.ediv_nonneg h1 (dQ hp),Int.ediv_mul_le a (Int.ne_of_gt hp)⟩
theorem Zku(x:Int):0<=u8.wrap x/\u8.wrap x<256:=by rw[wrap_u8];omega
theorem xav{x:Int}(h:U x):(Dq x).w (λ_=>True):=by
 have AN:=Up h 16 (by omega)
 have s8:=Up h 8 (by omega)
 have tW:=Up (Ah h 16) 8 (by omega)
 obtain⟨h1,h2⟩:=h
 unfold Dq
 repeat'(first
  |refine aa (λ_=>?_) (λ_=>?_)
  |refine ax (dY ⟨?_,hZ (b:=256) ?_ (iA (by kernel_rfl))⟩) ?_
  |exact trivial
  |refine bu ?_)
 all_goals(first
  |trivial
  |exact(Zku _).1
  |exact(Zku _).2
  |(simp only[decide_eq_true_eq,decide_eq_false_iff_not]at*;simp at AN s8 tW;omega))
theorem BM(a:Int):bb .u32 a 255<256:=by
 unfold bb
 rw[wrap_u32]
 have:(dW u32.bits a&&&dW u32.bits 255).toNat<=255:=by
  show(dW 32 a&&&dW 32 255).toNat<=255
  rw[eA]
  exact Nat.le_trans Nat.and_le_right (by decide)
 omega
theorem zaJ{x:Int}(h:U x):(P8 x).w (λ_=>True):=by
 have tW:=Up h 24 (by omega)
 obtain⟨h1,h2⟩:=h
 have i24:bf .u32 x 24<256:=by simp at tW;omega
 unfold P8
 repeat'(first
  |refine ax (dY ⟨?_,hZ (b:=256) ?_ (iA (by kernel_rfl))⟩) ?_
  |exact trivial
  |refine bu ?_)
 all_goals(first
  |trivial
  |exact(fj _).1
  |exact tW.1
  |exact i24
  |exact BM _)
structure pN(P:Nat)(m:au):Prop where
 lS:ir m.A9
 mem:ei P m.Mem
 kJ:oc m.A6
 si:oR m.C1
 target:U m.A1.C3
 given:U m.A1.C0
theorem Zka{b:gh}(h:U b.C0):(P9 b).w (λ_=>True):=by
 unfold P9
 exact bm (zaJ h) λ_ _=>trivial
theorem Zl{m:au}(h:U m.A1.C0):(Jx m).w (λ_=>True):=by
 have b:∀x,(F5 m.A1 x).w (λ_=>True):=λx=>by
  unfold F5
  exact bm (xav h) λ_ _=>trivial
 have d:(Dn m).w (λ_=>True):=by
  unfold Dn
  exact aq λ_ _=>aq λ_ _=>aa (λ_=>aq λ_ _=>aa (λ_=>aq λ_ _=>aa (λ_=>aq λ_ _=>aa (λ_=>bm (b _) λ_ _=>trivial) (λ_=>trivial)) (λ_=>trivial)) (λ_=>trivial)) (λ_=>trivial)
 unfold Jx
 repeat'(first
  |refine aa (λ_=>?_) (λ_=>?_)
  |exact bm d λ_ _=>trivial
  |refine aq λ_ _=>?_
  |exact trivial)
theorem Zk0{m:au}(h:U m.A1.C0):(Lh m).w (λ_=>True):=by
 have p:(Lc m.A1).w (λ_=>True):=by
  unfold Lc
  exact bm (Zka h) λ_ _=>trivial
 unfold Lh
 refine aq λx0 _=>aq λx1 _=>aq λx2 _=>aq λx3 _=>bm p λx4 _=>fg (inv:=λz=>0<=z.2/\z.2<=5) (μ:=Qhr m) ⟨by omega,by omega⟩ (cO _) (λz hz=>?_)
 obtain⟨z1,z2⟩:=hz
 have ew:z.2<5->i64.wrap (z.2+1)=z.2+1:=λ_=>by rw[wrap_i64];omega
 refine aa (λhb=>?_) (λ_=>trivial)
 have hb:=oY hb
 have nx:(0<=i64.wrap (z.2+1)/\i64.wrap (z.2+1)<=5)/\(5-i64.wrap (z.2+1)).toNat<(5-z.2).toNat:=by rw[ew hb];omega
 refine ax (by simp;omega) (aa (λ_=>ax (dY z1) (ek nx)) (λ_=>ek nx))
theorem Wh{m:au}(h:U m.A1.C0):(Gw m).w U:=by
 unfold Gw
 exact bm (Zk0 h) λ_ _=>Iy _ _
theorem Wj{m:au}(h:U m.A1.C0):(Iu m).w (λ_=>True):=by
 have i:(Gx m).w (λ_=>True):=by
  unfold Gx
  exact aa (λ_=>bm (Wh h) λ_ _=>trivial) (λ_=>trivial)
 unfold Iu
 exact bm (Zl h) λ_ _=>aa (λ_=>aa (λ_=>bm i λ_ _=>aa (λ_=>trivial) (λ_=>trivial)) (λ_=>trivial)) (λ_=>trivial)
theorem xT{P:Nat}{m:au}(h:pN P m):(Gb m).w (pN P):=by
 obtain⟨h1,h2,h3,h4,h5,h6⟩:=h
 unfold Gb
 refine aa (λ_=>⟨h1,h2,h3,h4,h5,h6⟩) (λ_=>bm (Wh (m:=⟨_,_,_,_,_,_,m.A1,_,_,_⟩) h6) λx0 _=>fg (inv:=λz=>0<=z/\z<=5) (μ:=Wi m) ⟨by omega,by omega⟩ (cO _) (λz hz=>?_))
 obtain⟨z1,z2⟩:=hz
 refine aa (λhb=>ax (dY z1) (aa (λ_=>aq λx1 hx=>⟨by rw[hx];exact Gc h1 _ eh,h2,h3,h4,h5,h6⟩) (λ_=>ek ?_))) (λ_=>⟨h1,h2,h3,h4,h5,h6⟩)
 have hb:=oY hb
 show(0<=i64.wrap (z+1)/\i64.wrap (z+1)<=5)/\(5-i64.wrap (z+1)).toNat<(5-z).toNat
 have ew:i64.wrap (z+1)=z+1:=by rw[wrap_i64];omega
 rw[ew];omega
theorem Dw{P:Nat}{m:List Int}(h:ei P m):wc m=P:=by
 obtain⟨h1,h2,h3,_⟩:=h
 simp only[wc,Y2,Tree.m]
 have e:(m.length:Int)=32*P:=by omega
 rw[e]
 have e1:(dE (32*(P:Int)) 32 !=0)=false:=by simp[hJ]
 have e2:decide ((32*(P:Int))>1024)=false:=dN (by omega)
 rw[e1,e2]
 simp only[cond_false]
 rw[hY _ (by decide),wrap_i64];omega
theorem EE{P:Nat}{m:List Int}(h:ei P m){f:Int}(hf:U f):nD m f=decide (f<P):=by
 have:=Dw h
 obtain⟨h1,h2⟩:=hf
 have h3:=h.p2
 simp only[nD,N0,Tree.m,dj,this]
 congr 1
 rw[wrap_u64,wrap_u64,dM h1 (by omega),dM (by omega) (by omega)]
theorem y7{P:Nat}{m:List Int}(h:ei P m):(Lm m).w (λr=>r=m):=by
 obtain⟨h1,h2,h3,_⟩:=h
 unfold Lm
 refine ax ?_ ?_
 ·simp[bJ,D.plain];omega
 ·show _=_
  simp
theorem BR{P:Nat}{m:List Int}(h:ei P m){addr size v:Int}(ha:U addr)(hl:addr<4*m.length)(hv:U v):(Qd m addr size v).w (ei P):=by
 obtain⟨h1,h2,h3,h4⟩:=h
 obtain⟨a1,a2⟩:=ha
 have e:wrap u32 (eU addr 4)=addr/4:=by rw[wrap_u32,eV a1];omega
 have hc:(bT 1 1&&bJ 0 1&&decide (0<=wrap u32 (eU addr 4)/\wrap u32 (eU addr 4)<(m.length:Int)))=true:=by
  rw[e];simp[bJ];omega
 have h0:∀x,decide (0<=wrap u32 x)=true:=λx=>dY (fj x).1
 have hs:∀i v,U v->ei P (m.set i v):=λi v hv=>⟨by simp[h1],h2,h3,Dm h4 hv i⟩
 unfold Qd
 exact aa (λ_=>ax hc (hs _ _ hv)) (λ_=>ax hc (ax (h0 _) (ax (h0 _) (ax hc (hs _ _ (mC _ _))))))
theorem v7{P:Nat}{m:List Int}(h:ei P m){frame:Int}(f0:0<=frame)(f1:frame<P)(s:List UInt8):(Gi m frame s).w (ei P):=by
 unfold Gi
 have h3:=h.p2
 refine fg (inv:=λz=>0<=z.1/\z.1<=128/\ei P z.2) (μ:=Ww m frame s) ⟨by omega,by omega,h⟩ (cO _) (λv0 u5=>?_)
 obtain⟨i0,i1,hm⟩:=u5
 refine aa (λh1=>aa (λh2=>ax ?_ ?_) (λ_=>hm)) (λ_=>hm)
 ·have:=oY h1
  simp[bJ];omega
 ·have h2:=oY h2
  have e:wrap u32 (wrap i64 (wrap i64 (frame*128)+v0.1))=frame*128+v0.1:=by
   rw[wrap_u32,wrap_i64,wrap_i64];omega
  rw[e]
  obtain⟨g1,g2⟩:=Tree.pp (BR hm (size:=1) (addr:=frame*128+v0.1) ⟨by omega,by omega⟩ (by rw[hm.len];omega) (fj (UInt8.toNat (s.getD v0.1.toNat 0))))
  refine cr g1 (aq λx0 mU=>?_)
  rw[mU]
  have ew:i64.wrap (v0.1+1)=v0.1+1:=by rw[wrap_i64];omega
  refine ek ?_
  show(0<=i64.wrap (v0.1+1)/\i64.wrap (v0.1+1)<=128/\ei P _)/\(128-i64.wrap (v0.1+1)).toNat<(128-v0.1).toNat
  rw[ew]
  exact⟨⟨by omega,by omega,g2⟩,by omega⟩
theorem zT{P:Nat}{m:List Int}(h:ei P m){d:fe}(hd:oc d)(e:jX):(Gu d m e).w (λr=>oc r.1/\ei P r.2.2):=by
 have fl:nD m d.B0=true->(Gi m (i64.wrap d.B0) e.D2).w (ei P):=λhp=>by
   rw[EE h hd.gr]at hp
   have:=oY hp
   have h1:=hd.gr.1
   have h3:=h.p2
   have ew:i64.wrap d.B0=d.B0:=by rw[wrap_i64];omega
   rw[ew]
   exact v7 h h1 this _
 have l0:oc d/\ei P m:=⟨hd,h⟩
 have l1: ∀st,oc {ab:=d.ab,B9:=d.B9,Frame:=d.Frame,B5:=st,D1:=0,B4:=0,B0:=0,B6:=[]}:=λst=>⟨hd.block,hd.frame,eh,eh⟩
 unfold Gu
 repeat'(first
   |exact l0
   |exact⟨l1 _,h⟩
   |refine aa (λ_=> ?_) (λ_=> ?_)
   |refine aq (λ_ _=> ?_))
 all_goals(
   first
     | (have hp:nD m d.B0=true:=by simp_all
        obtain⟨g1,g2⟩:=Tree.pp (fl hp)
        refine cr g1 (aq λx hx=> ?_)
        rw[hx]
        exact aa (λ_=>⟨l1 _,g2⟩) (λ_=>⟨l1 _,g2⟩))
     |(exfalso;simp_all;done))
section
variable {c:bg} (h:ir c)
include h
theorem Jy(k:Int){b:Int}(hb:U b):ir (px c k b):=by
 refine(Tree.post (NO c k b) (W:=ir) ?_)
 unfold NO
 refine aq λ_ _=>aq λ_ _=>⟨h.x,h.a1,?_⟩
 intro w hw
 simp only[A8.l,cR,cS,or_false]at hw
 rcases hw with rfl|rfl|rfl|rfl|rfl|rfl|rfl|rfl
 ·exact mC _ _
 ·exact h.a1
 ·exact h.pc
 ·exact fj _
 ·exact hb
 ·exact h.a5
 ·exact h.a6
 ·exact h.a7
theorem yT:ir (SF c):=by
 refine(Tree.post (NQ c) (W:=ir) ?_)
 unfold NQ
 refine aq λ_ _=>aq λ_ _=>⟨h.x,h.a2,?_⟩
 intro w hw
 simp only[A8.l,cR,cS,or_false]at hw
 rcases hw with rfl|rfl|rfl|rfl|rfl|rfl|rfl|rfl
 ·exact mC _ _
 ·exact h.a1
 ·exact h.a2
 ·exact h.a3
 ·exact h.a4
 ·exact h.a5
 ·exact h.a6
 ·exact h.a7
theorem Er(r:Int){v:Int}(hv:U v):(IB c r v).w ir:=by
 unfold IB
 refine aa (λh1=>aa (λh2=>ax ?_ ⟨Wl h.x hv _,h.pc,h.jj⟩) (λ_=>h)) (λ_=>h)
 have h1:=oY h1
 have h2:=oY h2
 simp[bJ];omega
theorem qaw(k:Int){v:Int}(hv:U v):(K5 c k v).w ir:=by
 have ok:∀i v,U v->ir {X:=c.X,Pc:=c.Pc,B2:=A8.of 0 (dG (A8.l c.B2) i v)}:=λi v hv=>⟨h.x,h.pc,Zfq h.jj hv i⟩
 unfold K5
 repeat'(first
  |exact h
  |exact ok _ _ (fj _)
  |exact ok _ _ hv
  |refine aa (λhk=>?_) (λ_=>?_)
  |refine ax (by rw[eq_of_beq (by assumption:(k==_)=true)];decide) ?_)
end
section
variable {P:Nat} {m:List Int} (h:ei P m)
include h
theorem Y3(a:Int){size:Int}(hs:size=1\/size=4):(Iz m a size).w (λb=>b=true->a<128*P):=by
 have hp:=Dw h
 have h2:=h.p2
 have e:decide (wrap u32 size≠0)=true:=by rcases hs with rfl|rfl<;>decide
 have l:∀x,x=wc m->decide (a<wrap u32 (wrap i64 (128*x)))=true->a<128*P:=λx hx hd=>by
  rw[hx,hp,wrap_u32,wrap_i64]at hd
  have:=oY hd
  omega
 unfold Iz
 refine aa (λ_=>aa (λ_=>λh=>by cases h) (λ_=>?_)) (λ_=>?_)<;>
 exact ax e (aa (λ_=>aq λx hx=>l x hx) (λ_=>λh=>by cases h))
theorem idx{a:Int}(ha:U a)(hl:a<128*P):(bT 1 1&&bJ 0 1&&decide (0<=wrap u32 (eU a 4)/\wrap u32 (eU a 4)<(m.length:Int)))=true:=by
 obtain⟨a1,a2⟩:=ha
 have e:wrap u32 (eU a 4)=a/4:=by rw[wrap_u32,eV a1];omega
 have:=h.len
 rw[e];simp[bJ];omega
theorem NX{a:Int}(ha:U a){size:Int}(hs:size=1\/size=4):(Ak m a size).w (λr=>U r.1):=by
 obtain⟨g1,g2⟩:=Tree.pp (Y3 h a hs)
 unfold Ak
 refine cr g1 (aq λx hx=>aa (λ_=>eh) (λhb=>?_))
 have hb:x=true:=by simpa using hb
 have hl:=g2 (hx.symm.trans hb)
 refine ax (idx h ha hl) (aa (λ_=>ax (dY (fj _).1) (fj _)) (λ_=>Ai h.u _))
theorem xaJ{a:Int}(ha:U a)(access:Int):(KX m a access).w (ei P):=by
 obtain⟨g1,g2⟩:=Tree.pp (Y3 h a (size:=4) (.inr rfl))
 have hs:∀{m:List Int} i v,ei P m->U v->ei P (m.set i v):=λi v h hv=>⟨by simp[h.len],h.p1,h.p2,Dm h.u hv i⟩
 unfold KX
 refine cr g1 (aq λx hx=>aa (λ_=>h) (λhb=>?_))
 have hb:x=true:=by simpa using hb
 have hl:=g2 (hx.symm.trans hb)
 have i0:=idx h ha hl
 have h':=hs (Int.toNat (wrap u32 (eU a 4))) (ie u32 (m.getD (Int.toNat (wrap u32 (eU a 4))) 0) 8) h (mC _ _)
 have i1:=idx h' ha hl
 exact ax i0 (ax i0 (aa (λ_=>ax i1 (ax i1 (hs _ _ h' (mC _ _)))) (λ_=>h')))
theorem y8{root va:Int}(hr:U root)(hv:U va)(access:Int):(Gl m root va access).w (λt=>U t.Addr/\U t.E0/\(t.D9=0->t.Addr<128*P)):=by
 have hp:=Dw h
 have h2:=h.p2
 have hlen:=h.len
 obtain⟨r1,r2⟩:=hr
 obtain⟨v1,v2⟩:=hv
 unfold Gl
 refine aq λx0 mU=>aq λx1 nm=>aq λx2 _=>?_
 have hc:x0≠0:=by
  rw[mU]
  simp only[tg,K4,Tree.m]
  cases access==1<;>cases access==3<;>simp
 rw[hp]at nm
 have bad:U (0:Int)/\U (0:Int)/\(x0=0->(0:Int)<128*P):=⟨eh,eh,λe=>absurd e hc⟩
 refine aa (λ_=>bad) (λ_=>aa (λ_=>bad) (λDB=>aa (λ_=>bad) (λDj=>?_)))
 have DB:=oN DB
 have Dj:=oN Dj
 have e1:wrap u32 x1=P:=by rw[nm,wrap_u32];omega
 rw[e1]at Dj
 have e2:wrap u32 (wrap u32 (root*128)+wrap u32 (4*wrap u32 (eU va 128)))=root*128+4*(va/128):=by
  rw[eV v1,wrap_u32,wrap_u32,wrap_u32,wrap_u32];omega
 have hU:U (wrap u32 (wrap u32 (root*128)+wrap u32 (4*wrap u32 (eU va 128)))):=fj _
 have ci:=idx h hU (by rw[e2];omega)
 have e9:∀w:Int,decide (bb u32 w 255>=wrap u32 x1)=false->(U (wrap u32 (wrap u32 (bb u32 w 255*128)+dE va 128))/\U (wrap u32 (wrap u32 (root*128)+wrap u32 (4*wrap u32 (eU va 128))))/\((0:Int)=0->wrap u32 (wrap u32 (bb u32 w 255*128)+dE va 128)<128*P)):=λw hw=>by
  have hw:=oN hw
  rw[e1]at hw
  have hn:=(Iy w 255).1
  refine⟨fj _,fj _,λ_=>?_⟩
  rw[Int.tmod_eq_emod_of_nonneg v1,wrap_u32,wrap_u32]
  generalize bb u32 w 255=q at*
  omega
 refine ax ci ?_
 repeat'(first
  |exact bad
  |exact e9 _ (by assumption)
  |refine aa (λ_=>?_) (λ_=>?_)
  |refine ax ci ?_)
theorem SL{c:bg}(hc:ir c){va:Int}(hv:U va){size:Int}(hs:size=1\/size=4)(access:Int):(Gn c m va size access).w (λr=>ei P r.2.2/\U r.1/\(r.2.1=0->r.1<128*P)):=by
 have e:decide (wrap u32 size≠0)=true:=by rcases hs with rfl|rfl<;>decide
 obtain⟨g1,g2⟩:=Tree.pp (Y3 h va hs)
 obtain⟨k1,k2⟩:=Tree.pp (y8 h hc.a6 hv access)
 have bad:∀k:Int,k≠0->ei P m/\U (0:Int)/\(k=0->(0:Int)<128*P):=λk hk=>⟨h,eh,λe=>absurd e hk⟩
 have hca:tg access≠0:=by
  simp only[tg,K4,Tree.m]
  cases access==1<;>cases access==3<;>simp
 unfold Gn
 refine aq λx0 _=>aa (λ_=>bad 5 (by decide)) (λ_=>aa (λh1=>aa (λh2=>?_) (λ_=>?_)) (λ_=>?_))
 ·exact bad 5 (by decide)
 all_goals(
  refine ax e (aa (λ_=>bad 3 (by decide)) (λ_=>aq λx1 _=>aa (λ_=>cr g1 (aq λx2 Iv=>aa (λ_=>aq λx3 F3=>bad x3 (by rw[F3];exact hca)) (λhb=>?_))) (λ_=>cr k1 (aq λx4 No=>aa (λhb=>?_) (λhb=>?_)))))
  ·have hb:x2=true:=by simpa using hb
   exact⟨h,hv,λ_=>g2 (Iv.symm.trans hb)⟩
  ·exact bad _ (by simpa using hb)
  ·obtain⟨t1,t2,t3⟩:=k2
   rw[show(Gl m c.B2.a6 va access).m=x4 from No.symm]at t1 t2 t3
   obtain⟨m1,m2⟩:=Tree.pp (xaJ h t2 access)
   refine cr m1 (aq λx5 hx5=>?_)
   exact⟨hx5▸m2,t1,λ_=>t3 (by simpa using hb)⟩)
end
theorem yx{r:Int}(h:KM r=true):0<=r/\r<16:=by
 simp only[KM,Sx,Tree.m]at h
 cases h1:decide (r>=0)<;>rw[h1]at h
 ·cases h
 ·have h1:=oY h1
  have h:=oY h
  omega
theorem vT{i:gj}(hi:wrap .i64 i.bh=i.bh)(h:Du i=true):sg i:=by
 have no:false=true->sg i:=λh=>by cases h
 refine(Tree.post (NH i) (W:=λb=>b=true->sg i) ?_) h
 unfold NH
 refine aq λx0 h0=>aa (λ_=>no) (λ_=>aq λx1 h1=>aa (λ_=>no) (λb1=>aq λx2 h2=>aa (λ_=>no) (λb2=>aq λx3 h3=>aa (λ_=>no) (λb3=>aq λx4 h4=>aa (λ_=>no) (λb4=>aa (λ_=>no) (λb5=>?_))))))
 have b1:x1=true:=by simpa using b1
 have b2:x2=true:=by simpa using b2
 have b3:x3=true:=by simpa using b3
 have b4:=oN b4
 have b5:=oN b5
 rw[hi]at b4 b5
 have ok:sg i:=⟨yx (h1.symm.trans b1),yx (h2.symm.trans b2),yx (h3.symm.trans b3),λe=>by
  rw[e]at h0
  have h0:x0=8:=h0
  subst h0
  have h4:x4=(0,7):=h4
  subst h4
  simp at b4 b5;omega⟩
 repeat'(first
  |exactλ_=>ok
  |exact no
  |refine aa (λ_=>?_) (λ_=>?_))
theorem Zkz(w:Int):(Gh w).w (λr=>r.2=true->sg r.1):=by
 have no:∀{p:Prop},false=true->p:=λh=>by cases h
 have e:∀x,wrap .i64 (wrap .i32 x)=wrap .i32 x:=λx=>by rw[wrap_i64,wrap_i32];omega
 have ok:∀i,wrap .i64 i.bh=i.bh->∀x,x=Du i->(!x)=false->true=true->sg i:=λi hi x hx hb _=>vT hi (hx.symm.trans (by simpa using hb))
 unfold Gh
 refine aq λx0 _=>?_
 have l:∀i,wrap .i64 i.bh=i.bh->(Tree.lv (Du i) λx=>.br (!x) (.lf ((⟨0,0,0,0,0⟩:gj),false)) (.lf (i,true))).w (λr=>r.2=true->sg r.1):=λi hi=>aq λx hx=>aa (λ_=>no) (λhb=>ok i hi x hx hb)
 refine aa (λ_=>no) (λ_=>aa (λ_=>l _ rfl) (λ_=>aa (λ_=>l _ (e _)) (λ_=>aa (λ_=>l _ (e _)) (λ_=>l _ (e _)))))
theorem QA(b:Bool):U (BT b):=by cases b<;>exact⟨by decide,by decide⟩
theorem Zjs{a b:Int}(ha:U a)(hb:U b):(K1 a b).w (λr=>U r.1/\U r.2):=by
 unfold K1
 refine aa (λ_=>⟨⟨by omega,by omega⟩,ha⟩) (λh=>?_)
 have h:¬b=0:=by simpa using h
 obtain⟨b1,b2⟩:=hb
 have hc:decide (wrap i64 (wrap i32 b)≠0)=true:=dY (by rw[wrap_i64,wrap_i32];omega)
 exact ax hc (ax hc ⟨fj _,fj _⟩)
theorem Hn(op:Int){a b:Int}(ha:U a)(hb:U b):(QB op a b).w (λr=>U r.1):=by
 unfold QB
 refine aq λx0 _=>?_
 repeat'(first
  |exact fj _
  |exact Ah ha _
  |exact eh
  |refine aa (λ_=>?_) (λ_=>?_)
  |exact bm (Zjs ha hb) λx hx=>hx.1
  |exact bm (Zjs ha hb) λx hx=>hx.2
  |exact aq λx hx=>(by rw[hx];exact QA _))
theorem qy{x:Int}(hx:U x):(QC x 8).w U:=by
 unfold QC
 have h0:decide (0<=wrap u64 8)=true:=by decide
 refine aa (λh=>absurd h (by decide)) λ_=>aa (λh=>absurd h (by decide)) λ_=>ax h0 (ax (by decide) (aa (λ_=>ax h0 (mC _ _)) (λ_=>Iy _ _)))
section
variable {c:bg} (h:ir c) {i:gj} (hi:sg i)
include h hi
theorem qU:(II c i).w (λr=>ir r.1/\U r.2.Value):=by
 unfold II
 refine aa (λ_=>aq λx hx=>⟨hx▸Jy h _ eh,eh⟩) (λ_=>aa (λ_=>aq λx hx=>⟨hx▸yT h,eh⟩) (λ_=>aa (λe=>ax ?_ (bm (Er h _ (h.a _)) λx hx=>⟨hx.AF (fj _),eh⟩)) (λ_=>aa (λ_=>ax (rc hi.a) (bm (qaw h _ (h.r _)) λx hx=>⟨hx.AF (fj _),eh⟩)) (λ_=>?_))))
 ·have:=hi.jj (by simpa using e)
  simp[bJ];omega
 ·have k:=h.AF (fj (c.Pc+4))
  repeat'(first
   |exact⟨k,eh⟩
   |exact⟨k,h.r _⟩
   |refine aa (λ_=>?_) (λ_=>?_)
   |refine ax (rc hi.a) ?_)
theorem qaK:(QD c i).w ir:=by
 unfold QD
 exact aa (λ_=>bm (Er h _ (fj _)) λx hx=>hx.AF (fj _)) (λ_=>aa (λ_=>ax (rc hi.b) (bm (Er h _ (fj _)) λx hx=>hx.AF (fj _))) (λ_=>ax (rc hi.a) (ax (rc hi.b) (aq λx _=>aa (λ_=>h.AF (fj _)) (λ_=>h.AF (fj _))))))
theorem Znx{P:Nat}{m:List Int}(hm:ei P m):(QE c m i).w (λr=>ir r.1/\ei P r.2):=by
  unfold QE
  refine ax (rc hi.b) ?_
  have e1:(1:Int)=1\/(1:Int)=4:= .inl rfl
  have e4:(4:Int)=1\/(4:Int)=4:= .inr rfl
  repeat'(first
    |refine aa (λ_=> ?_) (λ_=> ?_)
    | (refine bm (SL hm h (fj _) e4 _) λx hx=> ?_
       obtain⟨m1,m2,m3⟩:=hx
       refine aa (λ_=>aq λy hy=>⟨hy▸Jy h _ (fj _),m1⟩) (λhb=> ?_)
       have m3:=m3 (by simpa using hb)
       have m4:x.1<4*x.2.2.length:=by rw[m1.len];omega
       clear hb)
    | (refine bm (SL hm h (fj _) e1 _) λx hx=> ?_
       obtain⟨m1,m2,m3⟩:=hx
       refine aa (λ_=>aq λy hy=>⟨hy▸Jy h _ (fj _),m1⟩) (λhb=> ?_)
       have m3:=m3 (by simpa using hb)
       have m4:x.1<4*x.2.2.length:=by rw[m1.len];omega
       clear hb)
    |exact ax (rc hi.a) (bm (BR (by assumption) (by assumption) (by assumption) (h.r _)) λy hy=>⟨h.AF (fj _),hy⟩)
    |(refine bm (NX (by assumption) (by assumption) e4) λy hy=> ?_)
    |(refine bm (NX (by assumption) (by assumption) e1) λy hy=> ?_)
    |exact bm (qy (by assumption)) λz hz=>bm (Er h _ hz) λu hu=>⟨hu.AF (fj _),by assumption⟩
    |exact bm (Er h _ (by assumption)) λu hu=>⟨hu.AF (fj _),by assumption⟩)
end
theorem H9{c:bg}(h:ir c){P:Nat}{m:List Int}(hm:ei P m):(QF c m).w (λr=>ir r.1/\U r.2.1.Value/\ei P r.2.2):=by
 unfold QF
 refine bm (SL hm h h.pc (.inr rfl) 1) λx0 hx=>?_
 obtain⟨m1,m2,m3⟩:=hx
 refine aa (λ_=>aq λy hy=>⟨hy▸Jy h _ h.pc,eh,m1⟩) (λhb=>?_)
 refine bm (NX m1 m2 (.inr rfl)) λx2 h2=>Sg (Zkz _) λx3 h3=>aa (λ_=>aq λy hy=>⟨hy▸Jy h _ h2,eh,m1⟩) (λb3=>?_)
 have hi:=h3 (by simpa using b3)
 refine aq λx5 _=>?_
 repeat'(first
  |refine aa (λ_=>?_) (λ_=>?_)
  |exact aq λy hy=>⟨hy▸Jy h _ h2,eh,m1⟩
  |exact bm (qU h hi) λy hy=>⟨hy.1,hy.2,m1⟩
  |exact bm (qaK h hi) λy hy=>⟨hy,eh,m1⟩
  |exact bm (Znx h hi m1) λy hy=>⟨hy.1,eh,hy.2⟩
  |exact bm (Er h _ (fj _)) λy hy=>⟨hy.AF (fj _),eh,m1⟩
  |refine ax (rc hi.c) ?_
  |refine ax (rc hi.b) ?_
  |exact bm (Hn _ (h.r _) (h.r _)) λy hy=>bm (Er h _ hy) λz hz=>⟨hz.AF (fj _),eh,m1⟩
  |exact bm (Hn _ (h.r _) (fj _)) λy hy=>bm (Er h _ hy) λz hz=>⟨hz.AF (fj _),eh,m1⟩)
theorem ED{q:Int}(h:U q):bb .u32 q 1=q%2:=by
 obtain⟨h1,h2⟩:=h
 unfold bb
 rw[wrap_u32]
 have e1:(dW 32 q).toNat=q.toNat:=by rw[BitVec.toNat_ofInt];omega
 have e2:(dW 32 1).toNat=1:=by decide
 have:(dW u32.bits q&&&dW u32.bits 1).toNat=q.toNat%2:=by
  show(dW 32 q&&&dW 32 1).toNat=_
  rw[eA,e1,e2,Nat.and_one_is_mod]
 rw[this];omega
theorem QG(b:Bool)(n:Int):(QH b n).w (λ_=>True):=by
 unfold QH
 exact aa (λ_=>ax (dY (by rw[wrap_u64];omega)) trivial) (λ_=>trivial)
theorem zaw(m:au):(QI m).w (λ_=>True):=by
 unfold QI
 exact aq λ_ _=>bm (QG _ _) λ_ _=>aq λ_ _=>bm (QG _ _) λ_ _=>aq λ_ _=>bm (QG _ _) λ_ _=>aq λ_ _=>bm (QG _ _) λ_ _=>aq λ_ _=>bm (QG _ _) λ_ _=>trivial
theorem Zc1(m:au):(Lj m).w U:=by
 unfold Lj
 exact bm (zaw m) λ_ _=>Iy _ _
theorem xy(m:au):(Lk m).w (λ_=>True):=by
 unfold Lk
 exact aa (λ_=>bm (Zc1 m) λ_ _=>trivial) (λ_=>trivial)
theorem xaw(m:au):(IE m).w (λ_=>True):=by
 unfold IE
 exact aq λ_ _=>aa (λ_=>trivial) (λ_=>aa (λ_=>trivial) (λ_=>bm (xy m) λ_ _=>aa (λ_=>trivial) (λ_=>trivial)))
theorem VZ{m:au}(h:ir m.A9):(Ll m).w ir:=by
 unfold Ll
 refine bm (Zc1 m) λx0 hx=>aa (λ_=>h) (λ_=>aa (λ_=>h) (λhb=>?_))
 have hb:x0≠0:=by simpa using hb
 have sh:∀z:Int,0<=z->z<=31->bf .u32 x0 (wrap .u64 z)=x0/2^z.toNat:=λz h1 h2=>by
  unfold bf
  have e:min (wrap .u64 z).toNat u32.bits=z.toNat:=by
   show min (wrap .u64 z).toNat 32=z.toNat
   rw[wrap_u64];omega
  rw[e,dP _ (dQ (dO (by decide)))]
 refine fg (inv:=λz=>0<=z/\z<=31/\x0/2^z.toNat≠0) (μ:=Qch m) ⟨by omega,by omega,by simpa using hb⟩ (cO _) (λz hz=>?_)
 obtain⟨z1,z2,z3⟩:=hz
 refine ax (dY (by rw[wrap_u64];omega)) (aa (λe=>ek ?_) (λ_=>aq λy hy=>hy▸Jy h _ eh))
 have e:=eq_of_beq e
 have hq:=Ah hx (wrap .u64 z)
 rw[ED hq,sh z z1 z2]at e
 rw[sh z z1 z2]at hq
 have cj:x0/2^z.toNat/2≠0:=by omega
 have z4:z<=30:=by
  rcases Int.lt_or_le z 31 with h|h
  ·omega
  ·have:z=31:=by omega
   subst this
   have:=hx.2
   have:=hx.1
   simp at z3 e cj
   omega
 show(0<=i64.wrap (z+1)/\i64.wrap (z+1)<=31/\x0/2^(i64.wrap (z+1)).toNat≠0)/\(32-i64.wrap (z+1)).toNat<(32-z).toNat
 have ew:i64.wrap (z+1)=z+1:=by rw[wrap_i64];omega
 rw[ew]
 refine⟨⟨by omega,by omega,?_⟩,by omega⟩
 have et:(z+1).toNat=z.toNat+1:=by omega
 rw[et,Int.pow_succ,<-Int.ediv_ediv_of_nonneg (dQ (dO (by decide)))]
 exact cj
theorem zy{P:Nat}{m:au}(h:ir m.A9)(hm:ei P m.Mem):(QJ m).w (λ_=>True):=by
 unfold QJ
 refine bm (VZ h) λx0 hx=>aa (λ_=>trivial) (λ_=>bm (NX hm hx.pc (.inr rfl)) λx1 _=>aq λx2 _=>?_)
 exact aa (λ_=>aa (λ_=>aa (λ_=>trivial) (λ_=>trivial)) (λ_=>trivial)) (λ_=>trivial)
theorem Nn(l:List Int):(bytesOf l).length=l.length:=by simp[bytesOf]
theorem SB(l:List UInt8):(jq l).length=l.length:=by simp[jq]
theorem QK(x:Int):(L6 x 4).w (λr=>r.length=4):=by
 unfold L6
 refine fg (inv:=λz=>0<=z.1/\z.1<=4/\(z.2.length:Int)=z.1) (μ:=Uq x 4) ⟨by omega,by omega,rfl⟩ (cO _) (λz hz=>?_)
 obtain⟨z1,z2,z3⟩:=hz
 refine aa (λh=>ax (dY (by rw[wrap_u64];omega)) (ax (dY (by omega)) (ek ?_))) (λh=>?_)
 ·have h:=oY h
  show(0<=i64.wrap (z.1+1)/\i64.wrap (z.1+1)<=4/\((z.2++[_]).length:Int)=i64.wrap (z.1+1))/\(4-i64.wrap (z.1+1)).toNat<(4-z.1).toNat
  have ew:i64.wrap (z.1+1)=z.1+1:=by rw[wrap_i64];omega
  rw[ew]
  refine⟨⟨by omega,by omega,by simp;omega⟩,by omega⟩
 ·have h:=oN h
  show(bytesOf z.2).length=4
  rw[Nn];omega
theorem v8{P:Nat}{m:List Int}(hm:ei P m)(frame:Int):(Q9 m frame).w (λr=>0<=frame->frame<P->r.1.length=128):=by
 have hp:=Dw hm
 have hl:=hm.len
 have h2:=hm.p2
 unfold Q9
 refine aa (λh=>λh0 _=>by have:=oY h;omega) (λh=>aq λx0 hx=>aa (λh1=>λ_ h2=>by have:=oY h1;rw[hx,hp]at this;omega) (λh1=>?_))
 have h:=oN h
 have h1:=oN h1
 rw[hx,hp]at h1
 refine fg (inv:=λz=>0<=z.1/\z.1<=32/\(z.2.length:Int)=4*z.1) (μ:=WB m frame) ⟨by omega,by omega,rfl⟩ (cO _) (λz hz=>?_)
 obtain⟨z1,z2,z3⟩:=hz
 refine aa (λhb=>?_) (λhb=>?_)
 ·have hb:=oY hb
  have e:wrap i64 (wrap i64 (frame*32)+z.1)=frame*32+z.1:=by rw[wrap_i64,wrap_i64];omega
  refine ax (by rw[e];simp[bJ];omega) (cr (show(4:Int)<=1000000000000 by decide) (Sg (QK _) λx1 h4=>ax (dY (by rw[SB,h4];omega)) (ek ?_)))
  show(0<=i64.wrap (z.1+1)/\i64.wrap (z.1+1)<=32/\((z.2++jq x1).length:Int)=4*i64.wrap (z.1+1))/\(32-i64.wrap (z.1+1)).toNat<(32-z.1).toNat
  have ew:i64.wrap (z.1+1)=z.1+1:=by rw[wrap_i64];omega
  rw[ew,lA,SB,h4]
  exact⟨⟨by omega,by omega,by omega⟩,by omega⟩
 ·have hb:=oN hb
  intro _ _
  show(bytesOf z.2).length=128
  rw[Nn];omega
theorem yy{P:Nat}{m:List Int}(hm:ei P m){d:fe}(hd:oc d)(port:Int){v:Int}(hv:U v)(dk:Int):(Gt d m port v dk).w (λr=>oc r.1/\r.2.length<=1):=by
 have k:∀st,oc {ab:=d.ab,B9:=d.B9,Frame:=d.Frame,B5:=st,D1:=d.D1,B4:=d.B4,B0:=d.B0,B6:=d.B6}:=λst=>⟨hd.block,hd.frame,hd.j6,hd.gr⟩
 have k2:∀c o,oc {ab:=d.ab,B9:=d.B9,Frame:=d.Frame,B5:=1,D1:=c,B4:=d.B9,B0:=d.Frame,B6:=o}:=λc o=>⟨hd.block,hd.frame,hd.block,hd.frame⟩
 have k3:oc {ab:=d.ab,B9:=v,Frame:=d.Frame,B5:=d.B5,D1:=d.D1,B4:=d.B4,B0:=d.B0,B6:=d.B6}:=⟨hv,hd.frame,hd.j6,hd.gr⟩
 have k4:oc {ab:=d.ab,B9:=d.B9,Frame:=v,B5:=d.B5,D1:=d.D1,B4:=d.B4,B0:=d.B0,B6:=d.B6}:=⟨hd.block,hv,hd.j6,hd.gr⟩
 unfold Gt
 repeat'(first
  |refine aa (λ_=>?_) (λ_=>?_)
  |exact bm (v8 hm _) λ_ _=>aq λ_ _=>⟨k2 _ _,aO _⟩
  |refine aq (λ_ _=>?_)
  |refine bu ?_)
 all_goals(first
  |exact⟨hd,aT _⟩
  |exact⟨k _,aT _⟩
  |exact⟨k2 _ _,aO _⟩
  |exact⟨k3,aT _⟩
  |exact⟨k4,aT _⟩)
theorem xU{P:Nat}{m:List Int}(hm:ei P m){n:gq}(hn:oR n)(port:Int){v:Int}(hv:U v)(dk:Int):(K9 n m port v dk).w (λr=>oR r.1/\r.2.length<=1):=by
 have k1:oR {Frame:=v,D6:=n.D6,C2:=n.C2,B7:=n.B7,B3:=n.B3,D8:=n.D8}:=⟨hv,hn.len,hn.buffer,hn.F7⟩
 have k2:oR {Frame:=n.Frame,D6:=v,C2:=n.C2,B7:=n.B7,B3:=n.B3,D8:=n.D8}:=⟨hn.frame,hv,hn.buffer,hn.F7⟩
 have k3:oR {Frame:=n.Frame,D6:=n.D6,C2:=n.C2,B7:=n.B7,B3:=false,D8:=0}:=⟨hn.frame,hn.len,hn.buffer,eh⟩
 have k4:∀p r,oR {Frame:=n.Frame,D6:=n.D6,C2:=p,B7:=n.Frame,B3:=r,D8:=n.D8}:=λp r=>⟨hn.frame,hn.len,hn.frame,hn.F7⟩
 have send:∀K:List UInt8×Bool->Tree (gq×List fm),nD m n.Frame=true->(∀x:List UInt8×Bool,x.1.length=128->(K x).w (λr=>oR r.1/\r.2.length<=1))->(Tree.an (Y4 m (wrap .i64 n.Frame)) (.lv (KO m (wrap .i64 n.Frame)) K)).w (λr=>oR r.1/\r.2.length<=1):=λK hp hK=>by
  rw[EE hm hn.frame]at hp
  have hp:=oY hp
  obtain⟨f1,f2⟩:=hn.frame
  have ew:i64.wrap n.Frame=n.Frame:=by rw[wrap_i64];omega
  exact bm (v8 hm _) λx hx=>hK x (hx (by rw[ew];exact f1) (by rw[ew];exact hp))
 unfold K9
 repeat'(first
  |refine aa (λ_=>?_) (λ_=>?_)
  |refine send _ (by simp_all) (λx hx=>ax (by simp_all;exact hn.len.1) ?_)
  |refine aq (λ_ _=>?_)
  |refine bu ?_)
 all_goals(first
  |exact⟨hn,aT _⟩
  |exact⟨hn,aO _⟩
  |exact⟨k1,aT _⟩
  |exact⟨k2,aT _⟩
  |exact⟨k3,aT _⟩
  |exact⟨k4 _ _,aT _⟩)
def okB(b:gh):Prop:=U b.C3/\U b.C0
theorem zaK{P:Nat}{m:List Int}(hm:ei P m){b:gh}(hb:okB b)(port:Int){v:Int}(hv:U v):(AP b m port v).w (λr=>okB r.1/\ei P r.2):=by
 have u5:decide (0<=v)=true:=dY hv.1
 have h2:=hm.p2
 have rest:(Tree.br (port==11) (.br (decide (v<32)) (.cn (decide (0<=v)) (.lf (({C3:=b.C3,C0:=nC .u32 b.C0 (ea .u32 1 v)}:gh),m))) (.lf (b,m))) (.lf (b,m))).w (λr=>okB r.1/\ei P r.2):=
  aa (λ_=>aa (λ_=>ax u5 ⟨⟨hb.1,fj _⟩,hm⟩) (λ_=>⟨hb,hm⟩)) (λ_=>⟨hb,hm⟩)
 unfold AP
 refine aa (λ_=>aq λx0 hx=>aa (λhp=>ax u5 (aa (λ_=>ax u5 ?_) (λ_=>rest))) (λ_=>rest)) (λ_=>rest)
 have hp:nD m v=true:=hx.symm.trans hp
 rw[EE hm hv]at hp
 have hp:=oY hp
 obtain⟨v1,v2⟩:=hv
 refine fg (inv:=λz=>0<=z.1/\z.1<=32/\ei P z.2) (μ:=W7 b m port v) ⟨by omega,by omega,hm⟩ (cO _) (λz hz=>?_)
 obtain⟨z1,z2,z3⟩:=hz
 have hl:=z3.len
 refine aa (λh=>?_) (λ_=>⟨⟨hb.1,fj _⟩,z3⟩)
 have h:=oY h
 have e:wrap i64 (wrap i64 (wrap i64 v*32)+z.1)=v*32+z.1:=by rw[wrap_i64,wrap_i64,wrap_i64];omega
 refine ax (by rw[e];simp[bJ];omega) (ek ?_)
 show(0<=i64.wrap (z.1+1)/\i64.wrap (z.1+1)<=32/\ei P (dG _ _ _))/\(32-i64.wrap (z.1+1)).toNat<(32-z.1).toNat
 have ew:i64.wrap (z.1+1)=z.1+1:=by rw[wrap_i64];omega
 rw[ew]
 exact⟨⟨by omega,by omega,⟨by simp[hl],z3.p1,z3.p2,Dm z3.u eh _⟩⟩,by omega⟩
structure kH(P:Nat)(m:au):Prop where
 lS:ir m.A9
 mem:ei P m.Mem
 kJ:oc m.A6
 si:oR m.C1
 target:okB m.A1
 pM:0<=m.A0
theorem Zho(c:iO)(port:Int):U (K8 c port).2:=by
 refine Tree.post (Gs c port) (W:=λr=>U r.2) ?_
 have u1:U 4294967295:=⟨by omega,by omega⟩
 unfold Gs
 refine aa (λ_=>aa (λ_=>u1) (λh=>aa (λ_=>ax ?_ (ax ?_ (fj _))) (λ_=>aa (λ_=>fj _) (λ_=>eh)))) (λh1=>aa (λh=>(by rw[h1]at h;cases h)) (λ_=>aa (λ_=>fj _) (λ_=>eh)))
 ·have h:¬(c.C5.length:Int)=0:=by simpa using h
  exact dY ⟨by omega,by omega,by omega⟩
 ·have h:¬(c.C5.length:Int)=0:=by simpa using h
  simp[bJ];omega
theorem qax{n:gq}(h:oR n)(port:Int):U (SN n port):=by
 refine Tree.post (NY n port) (W:=U) ?_
 have u1:U 1:=⟨by omega,by omega⟩
 unfold NY
 exact aa (λ_=>h.frame) (λ_=>aa (λ_=>h.F7) (λ_=>aa (λ_=>aa (λ_=>aa (λ_=>fj _) (λ_=>u1)) (λ_=>aa (λ_=>fj _) (λ_=>eh))) (λ_=>eh)))
theorem zU{d:fe}(h:oc d)(port:Int):U (Xh d port):=by
 refine Tree.post (Ur d port) (W:=U) ?_
 unfold Ur
 exact aa (λ_=>h.block) (λ_=>aa (λ_=>h.frame) (λ_=>aa (λ_=>fj _) (λ_=>eh)))
theorem qz(t:iS):U (Xi t):=by
 refine Tree.post (Us t) (W:=U) ?_
 unfold Us
 exact aa (λ_=>⟨by omega,by omega⟩) (λ_=>eh)
theorem Zhr{b:gh}(h:U b.C3)(port:Int):U (Ld b port):=by
 refine Tree.post (Le b port) (W:=U) ?_
 unfold Le
 exact aa (λ_=>h) (λ_=>aa (λ_=>aq λ_ _=>fj _) (λ_=>eh))
structure Y5(P:Nat)(r:pj):Prop where
 m:kH P r.B1
 clock:U r.Bk
structure okL(P:Nat)(r x:pj):Prop where
 ok:Y5 P x
 log:x.Log=r.Log
 queue:x.Queue=r.Queue
theorem w0(x:Int):0<=u64.wrap x:=by rw[wrap_u64];omega
section
variable {P:Nat} {r:pj} (h:Y5 P r)
include h
end
theorem xaK(c:iO)(b:Int):(QL c b).w (λ_=>True):=by
 unfold QL
 refine aa (λ_=>trivial) (λh=>ax (dY ?_) trivial)
 have h:=oN h
 simp[maxLen];omega
theorem yU{P:Nat}{m:List Int}(hm:ei P m){n:gq}(hn:oR n)(frame:List UInt8):(Lb n m frame).w (λr=>oR r.1/\ei P r.2.2):=by
 unfold Lb
 refine aa (λ_=>⟨hn,hm⟩) (λ_=>aa (λ_=>⟨hn,hm⟩) (λ_=>aa (λ_=>⟨hn,hm⟩) (λ_=>aq λx0 hx=>aa (λ_=>⟨hn,hm⟩) (λhb=>?_))))
 have hp:nD m n.B7=true:=hx.symm.trans (by simpa using hb)
 rw[EE hm hn.buffer]at hp
 have hp:=oY hp
 obtain⟨b1,b2⟩:=hn.buffer
 have ew:i64.wrap n.B7=n.B7:=by rw[wrap_i64];omega
 exact bm (v7 hm (frame:=i64.wrap n.B7) (by rw[ew];exact b1) (by rw[ew];exact hp) frame) λx hx=>⟨⟨hn.frame,hn.len,eh,fj _⟩,hx⟩
section
variable {P:Nat} {r:pj} (h:Y5 P r)
include h

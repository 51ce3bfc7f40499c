import Derived.Test.YtmalmklaonainaaGreatReplayTellsYz
open UInt8 renaming toNat->eR, ofNat->eS
open List renaming take->cY, drop->dA, length->dF, getD->aK
open Int renaming toNat->cZ, tdiv->eO
open Nat renaming lt_succ_self->cK, beq->bS, blt->bT
set_option maxRecDepth 100000
set_option linter.all false
namespace Go.Proofs.YtmalmklaonainaaGreat
open Go Go.GD Go.IntKind
noncomputable section
instance sumInhZd {α β:Type} [Inhabited β]:Inhabited (α⊕β):=⟨.inr default⟩
def Z1t(src:List UInt8)(z:(Int)×(Int)×(List (List UInt8))):Nat:=(src.length-z.2.1).toNat
def Qgu(src:List UInt8):Tree (List (List UInt8)):=
.lp inferInstance (Z1t src (0,0,[])+1) ((rE (src:List UInt8)/\True/\rE (0:Int)/\rE (0:Int)/\True)/\rE ([]:List (RK.T RK.str))/\True) (0,0,[]) λ(v0:Int×Int×List (List UInt8))=>let E1:=decide (16*(v0.2.2.length+1)<=140737488355328); .br (decide (v0.2.1<(src.length:Int))) (.cn (decide (0<=v0.2.1/\v0.2.1<(src.length:Int))) (.br ((↑(eR (src.getD v0.2.1.toNat (0:UInt8))):Int)==(10:Int)) (.cn (decide (0<=v0.1/\v0.1<=v0.2.1/\v0.2.1<=(src.length:Int))) (.cn E1 (.nx ((rE (src:List UInt8)/\True/\rE ((wrap i64 (v0.2.1+1)):Int)/\rE ((wrap i64 (v0.2.1+1)):Int)/\True)/\rE ((v0.2.2++[cY (cZ v0.2.1-cZ v0.1) (dA v0.1.toNat src)]):List (RK.T RK.str))/\True) (Sum.inl (wrap i64 (v0.2.1+1),wrap i64 (v0.2.1+1),v0.2.2++[cY (cZ v0.2.1-cZ v0.1) (dA v0.1.toNat src)]))))) (.nx ((rE (src:List UInt8)/\True/\rE v0.1/\rE ((wrap i64 (v0.2.1+1)):Int)/\True)/\rE v0.2.2/\True) (Sum.inl (v0.1,wrap i64 (v0.2.1+1),v0.2.2))))) (.br (decide (v0.1<(src.length:Int))) (.cn (decide (0<=v0.1/\v0.1<=(src.length:Int)/\(src.length:Int)<=(src.length:Int))) (.cn E1 (.lf (Sum.inr (v0.2.2++[cY (cZ (src.length:Int)-cZ v0.1) (dA v0.1.toNat src)]))))) (.lf (Sum.inr v0.2.2)))
def Qz src:=(Qgu src).m
abbrev Qm1 src:=(Qgu src).p
def Zcy:LInv:={
 α:=(Int)×(Int)×(List (List UInt8))
 F:=λst a=>([(0,(lk st 0)),(3, .all 0),(4, .int i64 a.1),(5, .int i64 a.2.1)],[⟨false,9,1, .recs RK.str a.2.2⟩])
 a0:=λst=>((lk st 4).toInt,(lk st 5).toInt,(Q5 RK.str st.rows (rN st 3)))
 ex0:=λst=>[]++[(rX st 3 0)]}
def Z6p:List (Nat×LInv):=[(4,Zcy)]
def Zfo:Q0f:=mT 189 [] true [.one (.str)] [] (λa r=>Qgu (argS a 0)) (λX=> .all 0) (λX=>[⟨false,9,1, .recs .str X⟩])
theorem Zdq:Q06 pG Zfo:=oT (.nil) Tryz.func189 Tryz.call189 [.row 9 1 (.recs .str)] Z6p 3
def Qw(c:Int):Tree Bool:=
.br (decide (c>=97)) (.lf (decide (c<=122))) (.lf false)
def Qk0 c:=(Qw c).m
def Zci:Q0f:=mS 282 [] true [.one (.int .u8)] [] (λa r=>Qw (argI a 0)) (λX=> .bool X) (λX=>[])
theorem Qt3:Q06 pG Zci:=oS (.nil) Tryz.func282 Tryz.call282 [] [] 2
def Qzf(c:Int):Tree Bool:=
.br (decide (c>=48)) (.lf (decide (c<=57))) (.lf false)
def Qg4 c:=(Qzf c).m
def Zhy:Q0f:=mS 283 [] true [.one (.int .u8)] [] (λa r=>Qzf (argI a 0)) (λX=> .bool X) (λX=>[])
theorem Qvn:Q06 pG Zhy:=oS (.nil) Tryz.func283 Tryz.call283 [] [] 2
def Qy8(s:List UInt8)(z:(Bool)×(Int)×(List Q0l)):Nat:=(s.length-z.2.1).toNat
def Qyc(s:List UInt8)(v0:Bool×Int×List Q0l)(z:(Int)):Nat:=(s.length-z).toNat
def Qyy(s:List UInt8)(v0:Bool×Int×List Q0l)(z:(Int)):Nat:=(s.length-z).toNat
def Qf7(s:List UInt8):Tree ((List Q0l)×Bool):=
.lp inferInstance (Qy8 s (true,0,[])+1) ((rE (s:List UInt8)/\True/\rE (true:Bool)/\rE (0:Int)/\True)/\rE ([]:List (RK.T RK.vmfleetref1Token))/\True) (true,0,[]) λ(v0:Bool×Int×List Q0l)=> .br (decide (v0.2.1<(s.length:Int))) (.cn (decide (0<=v0.2.1/\v0.2.1<(s.length:Int))) (let E7:=(↑(eR (s.getD v0.2.1.toNat (0:UInt8))):Int); .br (E7==(32:Int)) (.nx ((rE (s:List UInt8)/\True/\rE (true:Bool)/\rE ((wrap i64 (v0.2.1+1)):Int)/\True)/\rE v0.2.2/\True) (Sum.inl (true,wrap i64 (v0.2.1+1),v0.2.2))) (.lv (Qk0 E7) λ(x0:Bool)=>let E10:=decide (32*(v0.2.2.length+1)<=140737488355328);let E13:=dA v0.2.1.toNat s; .br x0 (.lp inferInstance (Qyc s v0 v0.2.1+1) ((rE (s:List UInt8)/\True/\rE v0.1/\rE v0.2.1/\rE v0.2.1/\True)/\rE v0.2.2/\True) v0.2.1 λ(v1:Int)=>let T3:Tree ((Int)⊕((Bool×Int×List Q0l)⊕(((List Q0l)×Bool)))):= .cn (decide (0<=v0.2.1/\v0.2.1<=v1/\v1<=(s.length:Int))) (.cn E10 (.nx ((rE (s:List UInt8)/\True/\rE (false:Bool)/\rE (v1:Int)/\True)/\rE ((v0.2.2++[{kind:=1,D5:=cY (cZ v1-cZ v0.2.1) (dA v0.2.1.toNat s),gap:=v0.1}]):List (RK.T RK.vmfleetref1Token))/\True) (Sum.inr (Sum.inl (false,v1,v0.2.2++[{kind:=1,D5:=cY (cZ v1-cZ v0.2.1) E13,gap:=v0.1}]))))); .br (decide (v1<(s.length:Int))) (let E11:=decide (0<=v1/\v1<(s.length:Int)); .cn E11 (let E8:=(↑(eR (s.getD v1.toNat (0:UInt8))):Int); .lv (Qk0 E8) λ(x1:Bool)=>let T5:Tree ((Int)⊕((Bool×Int×List Q0l)⊕(((List Q0l)×Bool)))):= .nx ((rE (s:List UInt8)/\True/\rE v0.1/\rE ((wrap i64 (v1+1)):Int)/\rE v0.2.1/\True)/\rE v0.2.2/\True) (Sum.inl (wrap i64 (v1+1))); .br x1 T5 (.cn E11 (.lv (Qg4 E8) λ(x2:Bool)=> .br x2 T5 (.cn E11 (.br (E8==(95:Int)) T5 T3)))))) T3) (.lv (Qg4 E7) λ(x3:Bool)=>let T2:Tree ((Bool×Int×List Q0l)⊕(((List Q0l)×Bool))):= .lp inferInstance (Qyy s v0 (wrap i64 (v0.2.1+1))+1) ((rE (s:List UInt8)/\True/\rE v0.1/\rE ((wrap i64 (v0.2.1+1)):Int)/\rE v0.2.1/\True)/\rE v0.2.2/\True) (wrap i64 (v0.2.1+1)) λ(v1:Int)=>let T4:Tree ((Int)⊕((Bool×Int×List Q0l)⊕(((List Q0l)×Bool)))):= .cn (decide (0<=v0.2.1/\v0.2.1<=v1/\v1<=(s.length:Int))) (.cn E10 (.nx ((rE (s:List UInt8)/\True/\rE (false:Bool)/\rE (v1:Int)/\True)/\rE ((v0.2.2++[{kind:=2,D5:=cY (cZ v1-cZ v0.2.1) (dA v0.2.1.toNat s),gap:=v0.1}]):List (RK.T RK.vmfleetref1Token))/\True) (Sum.inr (Sum.inl (false,v1,v0.2.2++[{kind:=2,D5:=cY (cZ v1-cZ v0.2.1) E13,gap:=v0.1}]))))); .br (decide (v1<(s.length:Int))) (let E12:=decide (0<=v1/\v1<(s.length:Int)); .cn E12 (let E9:=(↑(eR (s.getD v1.toNat (0:UInt8))):Int); .lv (Qk0 E9) λ(x4:Bool)=>let T6:Tree ((Int)⊕((Bool×Int×List Q0l)⊕(((List Q0l)×Bool)))):= .nx ((rE (s:List UInt8)/\True/\rE v0.1/\rE ((wrap i64 (v1+1)):Int)/\rE v0.2.1/\True)/\rE v0.2.2/\True) (Sum.inl (wrap i64 (v1+1))); .br x4 T6 (.cn E12 (.lv (Qg4 E9) λ(x5:Bool)=> .br x5 T6 (.cn E12 (.br (E9==(95:Int)) T6 T4)))))) T4; .br x3 T2 (.br (E7==(45:Int)) T2 (let T1:Tree ((Bool×Int×List Q0l)⊕(((List Q0l)×Bool))):= .cn (decide (0<=v0.2.1/\v0.2.1<=wrap i64 (v0.2.1+1)/\wrap i64 (v0.2.1+1)<=(s.length:Int))) (.cn E10 (.nx ((rE (s:List UInt8)/\True/\rE (false:Bool)/\rE ((wrap i64 (v0.2.1+1)):Int)/\True)/\rE ((v0.2.2++[{kind:=3,D5:=cY (cZ (wrap i64 (v0.2.1+1))-cZ v0.2.1) (dA v0.2.1.toNat s),gap:=v0.1}]):List (RK.T RK.vmfleetref1Token))/\True) (Sum.inl (false,wrap i64 (v0.2.1+1),v0.2.2++[{kind:=3,D5:=cY (cZ (wrap i64 (v0.2.1+1))-cZ v0.2.1) E13,gap:=v0.1}])))); .br (E7==(44:Int)) T1 (.br (E7==(58:Int)) T1 (.br (E7==(40:Int)) T1 (.br (E7==(41:Int)) T1 (.br (E7==(46:Int)) T1 (.lf (Sum.inr ([],false))))))))))))) (.lf (Sum.inr (v0.2.2,true)))
def Z6c s:=(Qf7 s).m
abbrev Qjb s:=(Qf7 s).p
def Z8z:LInv:={
 α:=(Bool)×(Int)×(List Q0l)
 F:=λst a=>([(0,(lk st 0)),(4, .all 0),(5, .bool a.1),(6, .int i64 a.2.1)],[⟨false,311,3, .recs RK.vmfleetref1Token a.2.2⟩])
 a0:=λst=>((lk st 5).toBool,(lk st 6).toInt,(Q5 RK.vmfleetref1Token st.rows (rN st 4)))
 ex0:=λst=>[]++[(rX st 4 0)]}
def Z8:LInv:={
 α:=(Int)
 F:=λst a=>([(0,(lk st 0)),(4, .all 0),(5,(lk st 5)),(6, .int i64 a),(8,(lk st 8))],[⟨false,311,3,esOf st.rows (rN st 4)⟩])
 a0:=λst=>(lk st 6).toInt
 ex0:=λst=>[]++[(rX st 4 0)]}
def Z7g:LInv:={
 α:=(Int)
 F:=λst a=>([(0,(lk st 0)),(4, .all 0),(5,(lk st 5)),(6, .int i64 a),(8,(lk st 8))],[⟨false,311,3,esOf st.rows (rN st 4)⟩])
 a0:=λst=>(lk st 6).toInt
 ex0:=λst=>[]++[(rX st 4 0)]}
def Z1n:List (Nat×LInv):=[(4,Z8z),(12,Z8),(17,Z7g)]
def Zcb:Q0f:=mT 246 [] true [.one (.str)] [] (λa r=>Qf7 (argS a 0)) (λX=> .tup [.all 0, .bool (X.2)]) (λX=>[⟨false,311,3, .recs .vmfleetref1Token (X.1)⟩])
theorem Z8a:Q06 pG Zcb:=oT (.cons Qt3 (.cons Qvn (.nil))) Tryz.func246 Tryz.call246 [.row 311 3 (.recs .vmfleetref1Token)] Z1n 3
 def digT (p:Int->Prop) (r:Int->List UInt8) (n:Int):Tree (List UInt8):=
 .br (decide (n<(10:Int))) (.lf ([(λ(n:Int)=>eS n.toNat) (wrap u8 (wrap u64 ((48:Int)+n)))])) (.an (p (wrap u64 (eO n (10:Int)))) (.lv (r (wrap u64 (eO n (10:Int)))) λ(x0:List UInt8)=> .cn (decide (x0.length+dF [(λ(n:Int)=>eS n.toNat) (wrap u8 (wrap u64 ((48:Int)+Int.tmod n (10:Int))))]<=maxLen)) (.lf (x0++[(λ(n:Int)=>eS n.toNat) (wrap u8 (wrap u64 ((48:Int)+Int.tmod n (10:Int))))]))))
 def digF:Nat->Int->List UInt8
   |0,_=>[]
   |k+1,n=>(digT (λ_=>True) (digF k) n).m
 def digP (k:Nat) (n:Int):Prop:=0<=n/\n<10^k/\n<18446744073709551616/\0<k/\k<=30
 def digM (k:Nat):Q0f:=mkP 123 [] true [.one (.int .u64)] [] (λargs rows=>digP k (argI args 0)) (λargs rows=>digF k (argI args 0)) (λX=> .str X) (λX=>[])
 theorem digF_len: ∀k n,(digF k n).length<=k
   |0,_=>Nat.le_refl _
   | k+1,n=>by
     show(bif decide (n<10) then _ else letv (digF k _) λx0=>x0++_).length<=k+1
     have:=digF_len k (wrap u64 (eO n 10))
     cases decide (n<10)
     . simp [letv,Tree.m];omega
     . simp [Tree.m]
 theorem digM_ok: ∀k,Q06 pG (digM k)
   |0=>Qzx Tryz.call123 (λargs rows h=>absurd h.2.2.2.1 (Nat.lt_irrefl 0)) (λ_ X=>by kernel_rfl)
   | k + 1=>by
     refine Q0m drawn Q0k (.cons (digM_ok k) .nil) Tryz.func123 Tryz.call123 (λargs rows=>digT (digP k) (digF k) (argI args 0)) [] [] 2 (λ_ _ _=>by kernel_rfl) (λ_ _=>rfl) (λargs rows h=> ?_) (λ_ X=>by kernel_rfl)
     obtain⟨h0,h1,h2,h3,h4⟩:=h
     generalize argI args 0=n at*
     refine w_br (λ_=>trivial) (λhn=> ?_)
     have hn:=oN hn
     have e:wrap u64 (eO n 10)=n/10:=by rw[wrap_u64,Int.tdiv_eq_ediv_of_nonneg h0];omega
     refine w_an (show digP k _ from ?_) (w_lv λx hx=>w_cn (dY ?_) trivial)
     . rw[e]
       rw[Int.pow_succ]at h1
       have hk:0<k:=by
         rcases Nat.eq_zero_or_pos k with rfl|h
         . simp at h1;omega
         . exact h
       exact⟨by omega,by omega,by omega,hk,by omega⟩
     . have:=digF_len k (wrap u64 (eO n 10))
       rw[<-hx]at this
       simp [maxLen];omega
def Qg6(n:Int):(List UInt8):=
digF 20 n
def Q3l(n:Int):Prop:=
0<=n/\n<18446744073709551616
def Qov(n:Int):List D:=[.int .u64 n]
def Qp7(n:Int):List Row:=[]
def Qku(X:List UInt8):D:= .str X
def Ql2(X:List UInt8):List Row:=[]
def Qpx:List PT:=[.one (.int .u64)]
def Qot:List RT:=[]
def Z3r(args:List D)(rows:List Row):(List UInt8):=Qg6 (argI args 0)
def Z4i(args:List D)(rows:List Row):Prop:=Q3l (argI args 0)
def Zc8:Q0f:=mkP 123 [] true Qpx Qot Z4i Z3r Qku Ql2
theorem Qz2(n:Int)(hw:Q3l n):Q4b pG 123 (Qov n) (Qp7 n) (Qku (Qg6 n)) (Ql2 (Qg6 n)):=by
 have h20:(18446744073709551616:Int)<=10^20:=by decide
 exact xA (args:=[.int .u64 n]) (rows:=[]) (digM_ok 20) (by kernel_rfl) ⟨hw.1,Int.lt_of_lt_of_le hw.2 h20,hw.2,by decide,by decide⟩
set_option maxRecDepth 100000 in
theorem Z1h(args:List D)(rows:List Row):Qh2 Qpx args 0=Qov (argI args 0):=by kernel_rfl
set_option maxRecDepth 100000 in
theorem Qxs(args:List D)(rows:List Row):Q6j Qot rows 0=Qp7 (argI args 0):=by kernel_rfl
set_option maxRecDepth 100000 in
theorem Z7d(X:List UInt8):(ffB (Qku X)&&ffBR (Ql2 X))=true:=by kernel_rfl
theorem Z8e:Q06 pG Zc8:=Qzx Tryz.call123 (λargs rows hp=>by rw[Z1h args rows,Qxs args rows];exact Qz2 (argI args 0) hp) (λ_ X=>Z7d X)
def Q7c(n:Int):Tree (List UInt8):=
.br (decide (n<0)) (let E1:=wrap u64 (wrap u64 (wrap i64 (0-wrap i64 (n+1)))+1); .an (Q3l E1) (.lv (Qg6 E1) λ(x0:List UInt8)=> .cn (decide (1+x0.length<=maxLen)) (.lf ((45:UInt8)::x0)))) (.an (Q3l (wrap u64 n)) (.lv (Qg6 (wrap u64 n)) λ(x1:List UInt8)=> .lf x1))
def Qqw n:=(Q7c n).m
abbrev Qhx n:=(Q7c n).p
def Z80:Q0f:=mT 35 [] true [.one (.int .i64)] [] (λa r=>Q7c (argI a 0)) (λX=> .str X) (λX=>[])
theorem Z5k:Q06 pG Z80:=oT (.cons Z8e (.nil)) Tryz.func35 Tryz.call35 [] [] 2
def Qga(r:Int):Tree (List UInt8):=
.an (Qhx r) (.lv (Qqw r) λ(x0:List UInt8)=> .cn (decide (1+x0.length<=maxLen)) (.lf ((114:UInt8)::x0)))
def Znu r:=(Qga r).m
abbrev Qqb r:=(Qga r).p
def Zqd:Q0f:=mT 310 [] true [.one (.int .i64)] [] (λa r=>Qga (argI a 0)) (λX=> .str X) (λX=>[])
theorem Zmp:Q06 pG Zqd:=oT (.cons Z5k (.nil)) Tryz.func310 Tryz.call310 [] [] 2
def Qss(s:List UInt8)(z:(Int)):Prop:=0<=z/\z<=16
def Qgs(s:List UInt8)(z:(Int)):Nat:=(16-z).toNat
def Qbb(s:List UInt8):Tree (Int×Bool):=
.lp inferInstance (Qgs s 0+1) ((rE (s:List UInt8)/\rE (0:Int)/\True)/\True) 0 λ(v0:Int)=> .br (decide (v0<16)) (.an (Qqb v0) (.lv (Znu v0) λ(x0:List UInt8)=> .br (decide (s=x0)) (.lf (Sum.inr (v0,true))) (.nx ((rE (s:List UInt8)/\rE ((wrap i64 (v0+1)):Int)/\True)/\True) (Sum.inl (wrap i64 (v0+1)))))) (.lf (Sum.inr (0,false)))
def Qkf s:=(Qbb s).m
theorem Qu7(s:List UInt8):(Qbb s).p:=by
 unfold Tree.p Qbb
 have dp: ∀x,Q3l (wrap .u64 x):=λx=>by unfold Q3l;rw[wrap_u64];omega
 have dl: ∀x,(Qg6 x).length<=20:=λx=>digF_len 20 x
 have hd: ∀x,(Q7c x).w (λr=>r.length<=21):=λx=>by
   unfold Q7c
   refine w_br (λ_=>w_an (dp _) (w_lv λx0 h0=>w_cn (dY ?_) ?_)) (λ_=>w_an (dp _) (w_lv λx1 h1=> ?_))
   . have:=dl (wrap .u64 (wrap .u64 (wrap .i64 (0-wrap .i64 (x+1)))+1));rw[<-h0]at this;simp [maxLen];omega
   . have:=dl (wrap .u64 (wrap .u64 (wrap .i64 (0-wrap .i64 (x+1)))+1));rw[<-h0]at this;show(_::x0).length<=21;simp;omega
   . rw[h1];exact Nat.le_trans (dl _) (by decide)
 have hr: ∀x,(Qga x).p:=λx=>by
   unfold Tree.p Qga
   refine w_an (Tree.pp (hd x)).1 (w_lv λx0 h0=>w_cn (dY ?_) trivial)
   have:(Qqw x).length<=21:=(Tree.pp (hd x)).2
   rw[<-h0]at this;simp [maxLen];omega
 refine w_lp (inv:=Qss s) (μ:=Qgs s) ⟨by decide,by decide⟩ (cK _) (λz hz=> ?_)
 obtain⟨z1,z2⟩:=hz
 refine w_br (λhb=>w_an (hr _) (w_lv λx0 _=>w_br (λ_=>trivial) (λ_=>w_nx ?_))) (λ_=>trivial)
 have hb:=oY hb
 show(0<=i64.wrap (z+1)/\i64.wrap (z+1)<=16)/\(16-i64.wrap (z+1)).toNat<(16-z).toNat
 rw[wrap_i64];omega
def Qwx:LInv:={
 α:=(Int)
 F:=λst a=>([(0,(lk st 0)),(4, .int i64 a)],[])
 a0:=λst=>(lk st 4).toInt
 ex0:=λst=>[]++[]}
def Qsv:List (Nat×LInv):=[(2,Qwx)]
def Qyd:Q0f:=mS 284 [] true [.one (.str)] [] (λa r=>Qbb (argS a 0)) (λX=> .tup [.int .i64 (X.1), .bool (X.2)]) (λX=>[])
theorem Qlu:Q06 pG Qyd:=oS (.cons Zmp (.nil)) Tryz.func284 Tryz.call284 [] Qsv 3 (λ_ _ _=>by kernel_rfl) (λa r=>Qu7 (argS a 0)) (λ_ X=>by kernel_rfl)
def Qkw(s:List UInt8):Tree Bool:=
.lv (Qkf s) λ(x0:Int×Bool)=> .br (decide ((s.length:Int)>=(1:Int))) (.br (decide ((s.length:Int)<=(12:Int))) (.cn (decide ((0:Int)<=(0:Int)/\0<(s.length:Int))) (.lv (Qk0 (↑(eR (s.getD (cZ 0) (0:UInt8))):Int)) λ(x1:Bool)=> .br x1 (.lf (!x0.2)) (.lf false))) (.lf false)) (.lf false)
def Z4o s:=(Qkw s).m
abbrev Qim s:=(Qkw s).p
def Zm8:Q0f:=mT 247 [] true [.one (.str)] [] (λa r=>Qkw (argS a 0)) (λX=> .bool X) (λX=>[])
theorem Qzy:Q06 pG Zm8:=oT (.cons Qlu (.cons Qt3 (.nil))) Tryz.func247 Tryz.call247 [] [] 2
def Qam(op:Int):Tree (List UInt8):=
let T1:Tree ((List UInt8)):=let T3:Tree ((List UInt8)):= .br (op==48) (.lf ([(106:UInt8),97,108])) (.br (op==49) (.lf ([(106:UInt8),97,108,114])) (.br (decide (op>=56)) (.br (decide (op<=64)) (.cn (bS 1 1&&bT 0 1&&decide (0<=wrap i64 (op-56)/\wrap i64 (op-56)<(↑9:Int))) (.lf (aK [[(101:UInt8),99,97,108,108],[(101:UInt8),114,101,116],[(99:UInt8),115,114,114],[(99:UInt8),115,114,119],[(105:UInt8),110],[(111:UInt8),117,116],[(119:UInt8),102,105],[(102:UInt8),108,117,115,104],[(104:UInt8),97,108,116]] (cZ (wrap i64 (op-56))) (RK.dflt RK.str)))) (.lf ([]))) (.lf ([])))); .br (decide (op>=40)) (.br (decide (op<=45)) (.cn (bS 1 1&&bT 0 1&&decide (0<=wrap i64 (op-40)/\wrap i64 (op-40)<(↑6:Int))) (.lf (aK [[(98:UInt8),101,113],[(98:UInt8),110,101],[(98:UInt8),108,116],[(98:UInt8),103,101],[(98:UInt8),108,116,117],[(98:UInt8),103,101,117]] (cZ (wrap i64 (op-40))) (RK.dflt RK.str)))) T3) T3;let T2:Tree ((List UInt8)):=let T4:Tree ((List UInt8)):= .br (decide (op>=32)) (.br (decide (op<=36)) (.cn (bS 1 1&&bT 0 1&&decide (0<=wrap i64 (op-32)/\wrap i64 (op-32)<(↑5:Int))) (.lf (aK [[(108:UInt8),119],[(108:UInt8),98],[(108:UInt8),98,117],[(115:UInt8),119],[(115:UInt8),98]] (cZ (wrap i64 (op-32))) (RK.dflt RK.str)))) T1) T1; .br (decide (op>=16)) (.br (decide (op<=24)) (.cn (bS 1 1&&bT 0 1&&decide (0<=wrap i64 (op-16)/\wrap i64 (op-16)<(↑9:Int))) (.lf (aK [[(97:UInt8),100,100,105],[(97:UInt8),110,100,105],[(111:UInt8),114,105],[(120:UInt8),111,114,105],[(115:UInt8),104,108,105],[(115:UInt8),104,114,105],[(115:UInt8),97,114,105],[(115:UInt8),108,116,105],[(108:UInt8),117,105]] (cZ (wrap i64 (op-16))) (RK.dflt RK.str)))) T4) T4; .br (decide (op>=1)) (.br (decide (op<=13)) (.cn (bS 1 1&&bT 0 1&&decide (0<=wrap i64 (op-1)/\wrap i64 (op-1)<(↑13:Int))) (.lf (aK [[(97:UInt8),100,100],[(115:UInt8),117,98],[(97:UInt8),110,100],[(111:UInt8),114],[(120:UInt8),111,114],[(115:UInt8),104,108],[(115:UInt8),104,114],[(115:UInt8),97,114],[(109:UInt8),117,108],[(100:UInt8),105,118],[(114:UInt8),101,109],[(115:UInt8),108,116],[(115:UInt8),108,116,117]] (cZ (wrap i64 (op-1))) (RK.dflt RK.str)))) T2) T2
def Qux op:=(Qam op).m
abbrev Qg2 op:=(Qam op).p
def Z62:Q0f:=mT 286 [] true [.one (.int .i64)] [] (λa r=>Qam (argI a 0)) (λX=> .str X) (λX=>[])
theorem Z1o:Q06 pG Z62:=oT (.nil) Tryz.func286 Tryz.call286 [] [] 2
def Qsq(s:List UInt8)(z:(Int)):Nat:=(65-z).toNat
def Q90(s:List UInt8):Tree Int:=
.lp inferInstance (Qsq s 1+1) ((rE (s:List UInt8)/\rE (1:Int)/\True)/\True) 1 λ(v0:Int)=> .br (decide (v0<=64)) (.lv (Q2i v0) λ(x0:Int)=> .br (decide (x0>0)) (.an (Qg2 v0) (.lv (Qux v0) λ(x1:List UInt8)=> .br (decide (x1=s)) (.lf (Sum.inr v0)) (.nx ((rE (s:List UInt8)/\rE ((wrap i64 (v0+1)):Int)/\True)/\True) (Sum.inl (wrap i64 (v0+1)))))) (.nx ((rE (s:List UInt8)/\rE ((wrap i64 (v0+1)):Int)/\True)/\True) (Sum.inl (wrap i64 (v0+1))))) (.lf (Sum.inr 0))
def Q98 s:=(Q90 s).m
abbrev Q3p s:=(Q90 s).p
def Qy9:LInv:={
 α:=(Int)
 F:=λst a=>([(0,(lk st 0)),(3, .int i64 a)],[])
 a0:=λst=>(lk st 3).toInt
 ex0:=λst=>[]++[]}
def Quf:List (Nat×LInv):=[(2,Qy9)]
def Z1f:Q0f:=mT 250 [] true [.one (.str)] [] (λa r=>Q90 (argS a 0)) (λX=> .int .i64 X) (λX=>[])
theorem Qmk:Q06 pG Z1f:=oT (.cons Qh3 (.cons Z1o (.nil))) Tryz.func250 Tryz.call250 [] Quf 3
def Qcm(what:List UInt8):Tree ((List UInt8)×Bool):=
.an (Q3p what) (.lv (Q98 what) λ(x0:Int)=> .br (decide (what=[(46:UInt8),119,111,114,100])) (.lf ([(120:UInt8)],true)) (.br (decide (what=[(46:UInt8),115,112,97,99,101])) (.lf ([(110:UInt8)],true)) (.br (decide (what=[(108:UInt8),105])) (.lf ([(114:UInt8),44,120],true)) (.br (decide (what=[(109:UInt8),118])) (.lf ([(114:UInt8),44,114],true)) (.br (decide (what=[(110:UInt8),111,112])) (.lf ([],true)) (.br (x0==0) (.lf ([],false)) (let T1:Tree (((List UInt8)×Bool)):= .br (x0==48) (.lf ([(114:UInt8),44,120],true)) (.lv (Q2i x0) λ(x1:Int)=> .br (x1==1) (.lf ([],true)) (.br (x1==2) (.lf ([(114:UInt8),44,114,44,114],true)) (.br (decide (x1>=6)) (.lf ([(114:UInt8),44,110],true)) (.lf ([(114:UInt8),44,114,44,110],true)))));let T2:Tree (((List UInt8)×Bool)):= .br (decide (x0>=40)) (.br (decide (x0<=45)) (.lf ([(114:UInt8),44,114,44,120],true)) T1) T1; .br (decide (x0>=32)) (.br (decide (x0<=36)) (.lf ([(114:UInt8),44,110,40,114,41],true)) T2) T2)))))))
def Qhh what:=(Qcm what).m
abbrev Q6u what:=(Qcm what).p
def Z7i:Q0f:=mT 248 [] true [.one (.str)] [] (λa r=>Qcm (argS a 0)) (λX=> .tup [.str (X.1), .bool (X.2)]) (λX=>[])
theorem Z4n:Q06 pG Z7i:=oT (.cons Qmk (.cons Qh3 (.nil))) Tryz.func248 Tryz.call248 [] [] 2
def Qyw(s:List UInt8)(z:(Int)×(Int)):Nat:=(s.length-z.2).toNat
def Qn0(s:List UInt8)(z:(Int)×(Int)):Nat:=(s.length-z.2).toNat
def Qf6(s:List UInt8):Tree (Int×Bool):=
let E7:=decide ((0:Int)<=(0:Int)/\0<(s.length:Int));let E8:=(↑(eR (s.getD (cZ 0) (0:UInt8))):Int);let T1:Tree ((Int×Bool)):=let T2:Tree ((Int×Bool)):= .br (decide (wrap i64 ((s.length:Int)-(0:Int))<1)) (.lf (0,false)) (.br (decide (wrap i64 ((s.length:Int)-(0:Int))>10)) (.lf (0,false)) (.lp inferInstance (Qn0 s (0,0)+1) ((rE (s:List UInt8)/\rE (0:Int)/\rE (0:Int)/\rE (0:Int)/\True)/\True) (0,0) λ(v0:Int×Int)=> .br (decide (v0.2<(s.length:Int))) (let E9:=decide (0<=v0.2/\v0.2<(s.length:Int)); .cn E9 (let E5:=(↑(eR (s.getD v0.2.toNat (0:UInt8))):Int); .lv (Qg4 E5) λ(x2:Bool)=> .br (!x2) (.lf (Sum.inr (0,false))) (.cn E9 (.nx ((rE (s:List UInt8)/\rE (0:Int)/\rE ((wrap i64 (wrap i64 (10*v0.1)+wrap i64 (wrap u8 ((↑(eR (s.getD v0.2.toNat (0:UInt8))):Int)-(48:Int))))):Int)/\rE ((wrap i64 (v0.2+1)):Int)/\True)/\True) (Sum.inl (wrap i64 (wrap i64 (10*v0.1)+wrap i64 (wrap u8 (E5-(48:Int)))),wrap i64 (v0.2+1))))))) (.br (decide (v0.1>=(-2147483648))) (.lf (Sum.inr (v0.1,decide (v0.1<=4294967295)))) (.lf (Sum.inr (v0.1,false)))))); .br (decide ((s.length:Int)>(0:Int))) (.cn E7 (.br (E8==(45:Int)) (.br (decide (wrap i64 ((s.length:Int)-(1:Int))<1)) (.lf (0,false)) (.br (decide (wrap i64 ((s.length:Int)-(1:Int))>10)) (.lf (0,false)) (.lp inferInstance (Qn0 s (0,1)+1) ((rE (s:List UInt8)/\rE (1:Int)/\rE (0:Int)/\rE (1:Int)/\True)/\True) (0,1) λ(v0:Int×Int)=> .br (decide (v0.2<(s.length:Int))) (let E10:=decide (0<=v0.2/\v0.2<(s.length:Int)); .cn E10 (let E6:=(↑(eR (s.getD v0.2.toNat (0:UInt8))):Int); .lv (Qg4 E6) λ(x1:Bool)=> .br (!x1) (.lf (Sum.inr (0,false))) (.cn E10 (.nx ((rE (s:List UInt8)/\rE (1:Int)/\rE ((wrap i64 (wrap i64 (10*v0.1)+wrap i64 (wrap u8 ((↑(eR (s.getD v0.2.toNat (0:UInt8))):Int)-(48:Int))))):Int)/\rE ((wrap i64 (v0.2+1)):Int)/\True)/\True) (Sum.inl (wrap i64 (wrap i64 (10*v0.1)+wrap i64 (wrap u8 (E6-(48:Int)))),wrap i64 (v0.2+1))))))) (.br (decide (wrap i64 (0-v0.1)>=(-2147483648))) (.lf (Sum.inr (wrap i64 (0-v0.1),decide (wrap i64 (0-v0.1)<=4294967295)))) (.lf (Sum.inr (wrap i64 (0-v0.1),false))))))) T2)) T2; .br (decide ((s.length:Int)>(2:Int))) (.cn E7 (.br (E8==(48:Int)) (.cn (decide ((0:Int)<=(1:Int)/\1<(s.length:Int))) (.br ((↑(eR (s.getD (cZ 1) (0:UInt8))):Int)==(120:Int)) (.br (decide ((s.length:Int)>(10:Int))) (.lf (0,false)) (.lp inferInstance (Qyw s (0,2)+1) ((rE (s:List UInt8)/\rE (0:Int)/\rE (2:Int)/\True)/\True) (0,2) λ(v0:Int×Int)=> .br (decide (v0.2<(s.length:Int))) (let E4:=decide (0<=v0.2/\v0.2<(s.length:Int)); .cn E4 (let E3:=(↑(eR (s.getD v0.2.toNat (0:UInt8))):Int); .lv (Qg4 E3) λ(x0:Bool)=> .br x0 (.cn E4 (.nx ((rE (s:List UInt8)/\rE ((wrap i64 (wrap i64 (16*v0.1)+wrap i64 (wrap u8 ((↑(eR (s.getD v0.2.toNat (0:UInt8))):Int)-(48:Int))))):Int)/\rE ((wrap i64 (v0.2+1)):Int)/\True)/\True) (Sum.inl (wrap i64 (wrap i64 (16*v0.1)+wrap i64 (wrap u8 (E3-(48:Int)))),wrap i64 (v0.2+1))))) (.cn E4 (.br (decide (E3>=(97:Int))) (.cn E4 (.br (decide (E3<=(102:Int))) (.cn E4 (.nx ((rE (s:List UInt8)/\rE ((wrap i64 (wrap i64 (wrap i64 (16*v0.1)+wrap i64 (wrap u8 ((↑(eR (s.getD v0.2.toNat (0:UInt8))):Int)-(97:Int))))+10)):Int)/\rE ((wrap i64 (v0.2+1)):Int)/\True)/\True) (Sum.inl (wrap i64 (wrap i64 (wrap i64 (16*v0.1)+wrap i64 (wrap u8 (E3-(97:Int))))+10),wrap i64 (v0.2+1))))) (.lf (Sum.inr (0,false))))) (.lf (Sum.inr (0,false))))))) (.lf (Sum.inr (v0.1,true))))) T1)) T1)) T1
def Z4a s:=(Qf6 s).m
abbrev Ql0 s:=(Qf6 s).p
def Z7p:LInv:={
 α:=(Int)×(Int)
 F:=λst a=>([(0,(lk st 0)),(4, .int i64 a.1),(5, .int i64 a.2)],[])
 a0:=λst=>((lk st 4).toInt,(lk st 5).toInt)
 ex0:=λst=>[]++[]}
def Z7e:LInv:={
 α:=(Int)×(Int)
 F:=λst a=>([(0,(lk st 0)),(6,(lk st 6)),(7, .int i64 a.1),(8, .int i64 a.2)],[])
 a0:=λst=>((lk st 7).toInt,(lk st 8).toInt)
 ex0:=λst=>[]++[]}
def Z2:List (Nat×LInv):=[(6,Z7p),(21,Z7e)]
def Ze7:Q0f:=mT 285 [] true [.one (.str)] [] (λa r=>Qf6 (argS a 0)) (λX=> .tup [.int .i64 (X.1), .bool (X.2)]) (λX=>[])
theorem Z7v:Q06 pG Ze7:=oT (.cons Qvn (.nil)) Tryz.func285 Tryz.call285 [] Z2 3
def Quw(l:List Q0l)(p:List UInt8)(z:(Int)×(List Q0x)):Nat:=(l.length-z.1).toNat
def Qc7(l:List Q0l)(p:List UInt8):Tree ((List Q0x)×Bool):=
.br ((l.length:Int) !=(p.length:Int)) (.lf ([],false)) (.lp inferInstance (Quw l p (0,[])+1) ((nR RK.vmfleetref1Token 3 l/\rE (p:List UInt8)/\True/\rE (0:Int)/\True)/\rE ([]:List (RK.T RK.vmfleetref1Arg))/\True) (0,[]) λ(v0:Int×List Q0x)=> .br (decide (v0.1<(l.length:Int))) (.cn (bS 3 3&&bT 0 3&&decide (0<=v0.1/\v0.1<(l.length:Int))) (let E6:=decide (0<=v0.1/\v0.1<(p.length:Int)); .cn E6 (let E3:=l.getD v0.1.toNat (RK.dflt RK.vmfleetref1Token);let E4:=(↑(eR (p.getD v0.1.toNat (0:UInt8))):Int);let E5:=decide (32*(v0.2.length+1)<=140737488355328); .br (E4==(114:Int)) (.lv (Qkf E3.D5) λ(x0:Int×Bool)=> .br (E3.kind !=1) (.lf (Sum.inr ([],false))) (.br (!x0.2) (.lf (Sum.inr ([],false))) (.cn E5 (.nx ((nR RK.vmfleetref1Token 3 l/\rE (p:List UInt8)/\True/\rE ((wrap i64 (v0.1+1)):Int)/\True)/\rE ((v0.2++[{reg:=x0.1,num:=0,label:=[]}]):List (RK.T RK.vmfleetref1Arg))/\True) (Sum.inl (wrap i64 (v0.1+1),v0.2++[{reg:=x0.1,num:=0,label:=[]}])))))) (let T1:Tree ((Int×List Q0x)⊕(((List Q0x)×Bool))):= .an (Ql0 E3.D5) (.lv (Z4a E3.D5) λ(x2:Int×Bool)=> .br (E3.kind !=2) (.lf (Sum.inr ([],false))) (.br (!x2.2) (.lf (Sum.inr ([],false))) (.cn E5 (.nx ((nR RK.vmfleetref1Token 3 l/\rE (p:List UInt8)/\True/\rE ((wrap i64 (v0.1+1)):Int)/\True)/\rE ((v0.2++[{reg:=0,num:=x2.1,label:=[]}]):List (RK.T RK.vmfleetref1Arg))/\True) (Sum.inl (wrap i64 (v0.1+1),v0.2++[{reg:=0,num:=x2.1,label:=[]}]))))));let T2:Tree ((Int×List Q0x)⊕(((List Q0x)×Bool))):= .cn E6 (.br (E4==(120:Int)) (.br (E3.kind==1) (.an (Qim E3.D5) (.lv (Z4o E3.D5) λ(x1:Bool)=> .br x1 (.cn E5 (.nx ((nR RK.vmfleetref1Token 3 l/\rE (p:List UInt8)/\True/\rE ((wrap i64 (v0.1+1)):Int)/\True)/\rE ((v0.2++[{reg:=0,num:=0,label:=(l.getD v0.1.toNat (RK.dflt RK.vmfleetref1Token)).D5}]):List (RK.T RK.vmfleetref1Arg))/\True) (Sum.inl (wrap i64 (v0.1+1),v0.2++[{reg:=0,num:=0,label:=E3.D5}])))) T1)) T1) T1); .br (E4==(110:Int)) T2 (.br (E4==(120:Int)) T2 (.br (E3.kind !=3) (.lf (Sum.inr ([],false))) (.cn (decide (0<=v0.1/\v0.1<=wrap i64 (v0.1+1)/\wrap i64 (v0.1+1)<=(p.length:Int))) (.br (!decide (E3.D5=cY (cZ (wrap i64 (v0.1+1))-cZ v0.1) (dA v0.1.toNat p))) (.lf (Sum.inr ([],false))) (.nx ((nR RK.vmfleetref1Token 3 l/\rE (p:List UInt8)/\True/\rE ((wrap i64 (v0.1+1)):Int)/\True)/\rE v0.2/\True) (Sum.inl (wrap i64 (v0.1+1),v0.2))))))))))) (.lf (Sum.inr (v0.2,true))))
def Qgt l p:=(Qc7 l p).m
abbrev Q6p l p:=(Qc7 l p).p
def Z7:LInv:={
 α:=(Int)×(List Q0x)
 F:=λst a=>([(0,(lk st 0)),(1,(lk st 1)),(6, .all 0),(7, .int i64 a.1)],[⟨false,183,3, .recs RK.vmfleetref1Arg a.2⟩])
 a0:=λst=>((lk st 7).toInt,(Q5 RK.vmfleetref1Arg st.rows (rN st 6)))
 ex0:=λst=>[]++[(rX st 6 0)]}
def Qz0:List (Nat×LInv):=[(5,Z7)]
def Z8x:Q0f:=mT 249 [] true [.one (.recs .vmfleetref1Token), .one (.str)] [] (λa r=>Qc7 (argR .vmfleetref1Token a 0) (argS a 1)) (λX=> .tup [.all 0, .bool (X.2)]) (λX=>[⟨false,183,3, .recs .vmfleetref1Arg (X.1)⟩])
theorem Z4u:Q06 pG Z8x:=oT (.cons Qlu (.cons Qzy (.cons Z7v (.nil)))) Tryz.func249 Tryz.call249 [.row 183 3 (.recs .vmfleetref1Arg)] Qz0 3
def Qxb(s:List UInt8)(z:(List UInt8)×(Int)):Nat:=(s.length-z.2).toNat
def Qex(s:List UInt8):Tree ((List UInt8)×Q0d×Bool):=
.lp inferInstance (Qxb s (s,0)+1) ((rE (s:List UInt8)/\rE ([]:List UInt8)/\rZ/\rE (false:Bool)/\rE (0:Int)/\True)/\(rE ([]:List UInt8)/\rE (0:Int)/\True/\rE (0:Int)/\rE (0:Int)/\rE (0:Int)/\True)/\True) (s,0) λ(v0:List UInt8×Int)=> .br (decide (v0.2<(v0.1.length:Int))) (.cn (decide (0<=v0.2/\v0.2<(v0.1.length:Int))) (.br ((↑(eR (v0.1.getD v0.2.toNat (0:UInt8))):Int)==(59:Int)) (.cn (decide ((0:Int)<=(0:Int)/\0<=v0.2/\v0.2<=(v0.1.length:Int))) (.nx ((rE ((cY (cZ v0.2-cZ 0) (dA (cZ 0) v0.1)):List UInt8)/\rE ([]:List UInt8)/\rZ/\rE (false:Bool)/\rE ((wrap i64 (v0.2+1)):Int)/\True)/\(rE ([]:List UInt8)/\rE (0:Int)/\True/\rE (0:Int)/\rE (0:Int)/\rE (0:Int)/\True)/\True) (Sum.inl (cY (cZ v0.2-cZ 0) (dA (cZ 0) v0.1),wrap i64 (v0.2+1))))) (.nx ((rE v0.1/\rE ([]:List UInt8)/\rZ/\rE (false:Bool)/\rE ((wrap i64 (v0.2+1)):Int)/\True)/\(rE ([]:List UInt8)/\rE (0:Int)/\True/\rE (0:Int)/\rE (0:Int)/\rE (0:Int)/\True)/\True) (Sum.inl (v0.1,wrap i64 (v0.2+1)))))) (.an (Qjb v0.1) (.lv (Z6c v0.1) λ(x0:List Q0l×Bool)=> .br (!x0.2) (.lf (Sum.inr ([],{what:=[],op:=0,l:=[],D7:=0,at_:=0,size:=0},false))) (let E9:=x0.1.getD (cZ 0) (RK.dflt RK.vmfleetref1Token);let T1:Tree ((List UInt8×Int)⊕(((List UInt8)×Q0d×Bool))):= .an (Q6u E9.D5) (.lv (Qhh E9.D5) λ(x27:List UInt8×Bool)=> .br (!x27.2) (.lf (Sum.inr ([],{what:=[],op:=0,l:=[],D7:=0,at_:=0,size:=0},false))) (let E20:=cZ (x0.1.length:Int)-cZ 1;let T6:Tree ((List UInt8×Int)⊕(((List UInt8)×Q0d×Bool))):=let E31:=cY E20 (dA (cZ 1) x0.1); .an (Q6p E31 x27.1) (.lv (Qgt E31 x27.1) λ(x28:List Q0x×Bool)=> .br (!x28.2) (.lf (Sum.inr ([],{what:=[],op:=0,l:=[],D7:=0,at_:=0,size:=0},false))) (.an (Q3p E9.D5) (.lv (Q98 E9.D5) λ(x29:Int)=> .br (decide (E9.D5=[(108:UInt8),105])) (.lf (Sum.inr ([],{what:=E9.D5,op:=x29,l:=x28.1,D7:=0,at_:=0,size:=2},true))) (.br (decide (E9.D5=[(46:UInt8),115,112,97,99,101])) (let E13:=bS 3 3&&bT 0 3&&decide ((0:Int)<=(0:Int)/\0<(x28.1.length:Int)); .cn E13 (let E21:=x28.1.getD (cZ 0) (RK.dflt RK.vmfleetref1Arg); .br (decide (E21.num<0)) (.lf (Sum.inr ([],{what:=[],op:=0,l:=[],D7:=0,at_:=0,size:=0},false))) (.cn E13 (.br (decide (E21.num>1024)) (.lf (Sum.inr ([],{what:=[],op:=0,l:=[],D7:=0,at_:=0,size:=0},false))) (.cn E13 (.lf (Sum.inr ([],{what:=E9.D5,op:=x29,l:=x28.1,D7:=0,at_:=0,size:=E21.num},true)))))))) (.lf (Sum.inr ([],{what:=E9.D5,op:=x29,l:=x28.1,D7:=0,at_:=0,size:=1},true))))))); .br (decide ((↑E20:Int)>(0:Int))) (.cn (bS 3 3&&bT 0 3&&decide ((0:Int)<=(0:Int)/\0<(↑E20:Int))) (.br (!(x0.1.getD (cZ 1+cZ 0) (RK.dflt RK.vmfleetref1Token)).gap) (.lf (Sum.inr ([],{what:=[],op:=0,l:=[],D7:=0,at_:=0,size:=0},false))) T6)) T6));let E25:=cZ (x0.1.length:Int)-cZ 2;let E8:=(↑E25:Int);let E10:=x0.1.getD (cZ 2+cZ 0) (RK.dflt RK.vmfleetref1Token);let E12:=x0.1.getD (cZ 1) (RK.dflt RK.vmfleetref1Token);let E16:=bS 3 3&&bT 0 3&&decide ((0:Int)<=(0:Int)/\0<(x0.1.length:Int));let E17:=bS 3 3&&bT 0 3&&decide ((0:Int)<=(1:Int)/\1<(x0.1.length:Int));let E19:=bS 3 3&&bT 0 3&&decide ((0:Int)<=(2:Int)/\2<=(x0.1.length:Int)/\(x0.1.length:Int)<=(x0.1.length:Int));let E28:=bS 3 3&&bT 0 3&&decide ((0:Int)<=(0:Int)/\0<E8);let E30:=decide ((x0.1.length:Int)>=(2:Int));let T3:Tree ((List UInt8×Int)⊕(((List UInt8)×Q0d×Bool))):= .br ((x0.1.length:Int)==(0:Int)) (.lf (Sum.inr ([],{what:=[],op:=0,l:=[],D7:=0,at_:=0,size:=0},true))) (.cn E16 (.cn (bS 3 3&&bT 0 3&&decide ((0:Int)<=(1:Int)/\1<=(x0.1.length:Int)/\(x0.1.length:Int)<=(x0.1.length:Int))) (.br (decide (E9.D5=[(46:UInt8)])) (.br E30 (.cn E17 (.br (!E12.gap) (.cn E17 (.cn (decide (1+dF E12.D5<=maxLen)) (.cn E19 (.an (Q6u ((46:UInt8)::E12.D5)) (.lv (Qhh ([(46:UInt8)]++E12.D5)) λ(x22:List UInt8×Bool)=> .br (!x22.2) (.lf (Sum.inr ([],{what:=[],op:=0,l:=[],D7:=0,at_:=0,size:=0},false))) (let T7:Tree ((List UInt8×Int)⊕(((List UInt8)×Q0d×Bool))):=let E32:=cY E25 (dA (cZ 2) x0.1); .an (Q6p E32 x22.1) (.lv (Qgt E32 x22.1) λ(x23:List Q0x×Bool)=> .br (!x23.2) (.lf (Sum.inr ([],{what:=[],op:=0,l:=[],D7:=0,at_:=0,size:=0},false))) (.an (Q3p ((46:UInt8)::E12.D5)) (.lv (Q98 ([(46:UInt8)]++E12.D5)) λ(x24:Int)=> .br (decide ([(46:UInt8)]++E12.D5=[(46:UInt8),115,112,97,99,101])) (let E14:=bS 3 3&&bT 0 3&&decide ((0:Int)<=(0:Int)/\0<(x23.1.length:Int)); .cn E14 (let E22:=x23.1.getD (cZ 0) (RK.dflt RK.vmfleetref1Arg); .br (decide (E22.num<0)) (.lf (Sum.inr ([],{what:=[],op:=0,l:=[],D7:=0,at_:=0,size:=0},false))) (.cn E14 (.br (decide (E22.num>1024)) (.lf (Sum.inr ([],{what:=[],op:=0,l:=[],D7:=0,at_:=0,size:=0},false))) (.cn E14 (.lf (Sum.inr ([],{what:=(46:UInt8)::E12.D5,op:=x24,l:=x23.1,D7:=0,at_:=0,size:=E22.num},true)))))))) (.lf (Sum.inr ([],{what:=(46:UInt8)::E12.D5,op:=x24,l:=x23.1,D7:=0,at_:=0,size:=1},true)))))); .br (decide (E8>(0:Int))) (.cn E28 (.br (!E10.gap) (.lf (Sum.inr ([],{what:=[],op:=0,l:=[],D7:=0,at_:=0,size:=0},false))) T7)) T7)))))) T1)) T1) T1))); .br E30 (.cn E17 (.br (decide (E12.D5=[(58:UInt8)])) (.cn E16 (.cn E16 (.br (E9.kind !=1) (.lf (Sum.inr ([],{what:=[],op:=0,l:=[],D7:=0,at_:=0,size:=0},false))) (.an (Qim E9.D5) (.lv (Z4o E9.D5) λ(x1:Bool)=> .br (!x1) (.lf (Sum.inr ([],{what:=[],op:=0,l:=[],D7:=0,at_:=0,size:=0},false))) (.cn E19 (.br (E8==(0:Int)) (.lf (Sum.inr (E9.D5,{what:=[],op:=0,l:=[],D7:=0,at_:=0,size:=0},true))) (.cn E28 (.cn (bS 3 3&&bT 0 3&&decide ((0:Int)<=(1:Int)/\1<=E8/\E8<=E8)) (let T2:Tree ((List UInt8×Int)⊕(((List UInt8)×Q0d×Bool))):= .an (Q6u E10.D5) (.lv (Qhh E10.D5) λ(x7:List UInt8×Bool)=> .br (!x7.2) (.lf (Sum.inr ([],{what:=[],op:=0,l:=[],D7:=0,at_:=0,size:=0},false))) (let T4:Tree ((List UInt8×Int)⊕(((List UInt8)×Q0d×Bool))):=let E26:=cY (cZ E8-cZ 1) (dA (cZ 2+cZ 1) x0.1); .an (Q6p E26 x7.1) (.lv (Qgt E26 x7.1) λ(x8:List Q0x×Bool)=> .br (!x8.2) (.lf (Sum.inr ([],{what:=[],op:=0,l:=[],D7:=0,at_:=0,size:=0},false))) (.an (Q3p E10.D5) (.lv (Q98 E10.D5) λ(x9:Int)=> .br (decide (E10.D5=[(108:UInt8),105])) (.lf (Sum.inr (E9.D5,{what:=E10.D5,op:=x9,l:=x8.1,D7:=0,at_:=0,size:=2},true))) (.br (decide (E10.D5=[(46:UInt8),115,112,97,99,101])) (let E15:=bS 3 3&&bT 0 3&&decide ((0:Int)<=(0:Int)/\0<(x8.1.length:Int)); .cn E15 (let E23:=x8.1.getD (cZ 0) (RK.dflt RK.vmfleetref1Arg); .br (decide (E23.num<0)) (.lf (Sum.inr ([],{what:=[],op:=0,l:=[],D7:=0,at_:=0,size:=0},false))) (.cn E15 (.br (decide (E23.num>1024)) (.lf (Sum.inr ([],{what:=[],op:=0,l:=[],D7:=0,at_:=0,size:=0},false))) (.cn E15 (.lf (Sum.inr (E9.D5,{what:=E10.D5,op:=x9,l:=x8.1,D7:=0,at_:=0,size:=E23.num},true)))))))) (.lf (Sum.inr (E9.D5,{what:=E10.D5,op:=x9,l:=x8.1,D7:=0,at_:=0,size:=1},true))))))); .br (decide ((↑(cZ E8-cZ 1):Int)>(0:Int))) (.cn (bS 3 3&&bT 0 3&&decide ((0:Int)<=(0:Int)/\0<(↑(cZ E8-cZ 1):Int))) (.br (!(x0.1.getD (cZ 2+cZ 1+cZ 0) (RK.dflt RK.vmfleetref1Token)).gap) (.lf (Sum.inr ([],{what:=[],op:=0,l:=[],D7:=0,at_:=0,size:=0},false))) T4)) T4)); .br (decide (E10.D5=[(46:UInt8)])) (.br (decide (E8>=(2:Int))) (let E29:=bS 3 3&&bT 0 3&&decide ((0:Int)<=(1:Int)/\1<E8); .cn E29 (let E11:=x0.1.getD (cZ 2+cZ 1) (RK.dflt RK.vmfleetref1Token); .br (!E11.gap) (.cn E29 (.cn (decide (1+dF E11.D5<=maxLen)) (.cn (bS 3 3&&bT 0 3&&decide ((0:Int)<=(2:Int)/\2<=E8/\E8<=E8)) (.an (Q6u ((46:UInt8)::E11.D5)) (.lv (Qhh ([(46:UInt8)]++E11.D5)) λ(x2:List UInt8×Bool)=> .br (!x2.2) (.lf (Sum.inr ([],{what:=[],op:=0,l:=[],D7:=0,at_:=0,size:=0},false))) (let T5:Tree ((List UInt8×Int)⊕(((List UInt8)×Q0d×Bool))):=let E27:=cY (cZ E8-cZ 2) (dA (cZ 2+cZ 2) x0.1); .an (Q6p E27 x2.1) (.lv (Qgt E27 x2.1) λ(x3:List Q0x×Bool)=> .br (!x3.2) (.lf (Sum.inr ([],{what:=[],op:=0,l:=[],D7:=0,at_:=0,size:=0},false))) (.an (Q3p ((46:UInt8)::E11.D5)) (.lv (Q98 ([(46:UInt8)]++E11.D5)) λ(x4:Int)=> .br (decide ([(46:UInt8)]++E11.D5=[(46:UInt8),115,112,97,99,101])) (let E18:=bS 3 3&&bT 0 3&&decide ((0:Int)<=(0:Int)/\0<(x3.1.length:Int)); .cn E18 (let E24:=x3.1.getD (cZ 0) (RK.dflt RK.vmfleetref1Arg); .br (decide (E24.num<0)) (.lf (Sum.inr ([],{what:=[],op:=0,l:=[],D7:=0,at_:=0,size:=0},false))) (.cn E18 (.br (decide (E24.num>1024)) (.lf (Sum.inr ([],{what:=[],op:=0,l:=[],D7:=0,at_:=0,size:=0},false))) (.cn E18 (.lf (Sum.inr (E9.D5,{what:=(46:UInt8)::E11.D5,op:=x4,l:=x3.1,D7:=0,at_:=0,size:=E24.num},true)))))))) (.lf (Sum.inr (E9.D5,{what:=(46:UInt8)::E11.D5,op:=x4,l:=x3.1,D7:=0,at_:=0,size:=1},true)))))); .br (decide ((↑(cZ E8-cZ 2):Int)>(0:Int))) (.cn (bS 3 3&&bT 0 3&&decide ((0:Int)<=(0:Int)/\0<(↑(cZ E8-cZ 2):Int))) (.br (!(x0.1.getD (cZ 2+cZ 2+cZ 0) (RK.dflt RK.vmfleetref1Token)).gap) (.lf (Sum.inr ([],{what:=[],op:=0,l:=[],D7:=0,at_:=0,size:=0},false))) T5)) T5)))))) T2)) T2) T2)))))))))) T3)) T3)))
def Z69 s:=(Qex s).m
abbrev Qjt s:=(Qex s).p
def Z9c:LInv:={
 α:=(List UInt8)×(Int)
 F:=λst a=>([(0, .str a.1),(2,(lk st 2)),(3, .ptr 0 0 0),(4,(lk st 4)),(5, .int i64 a.2)],[⟨true,181,6, .gen [[(cT st 3 0),(cT st 3 1),(cT st 3 2),(cT st 3 3),(cT st 3 4),(cT st 3 5)]]⟩])
 a0:=λst=>((lk st 0).toStr,(lk st 5).toInt)
 ex0:=λst=>[]++[(rX st 3 0)]}
def Z1:List (Nat×LInv):=[(2,Z9c)]
def Zc1:Q0f:=mT 190 [] false [.one (.str)] [] (λa r=>Qex (argS a 0)) (λX=> .tup [.str (X.1), .agg (Q0d.cells (X.2.1)), .bool (X.2.2)]) (λX=>[])
theorem Z8t:Q06 pG Zc1:=oT (.cons Z8a (.cons Qzy (.cons Z4n (.cons Z4u (.cons Qmk (.nil)))))) Tryz.func190 Tryz.call190 [.sl (.recs .vmfleetref1Arg) false] Z1 3 (hff:=nofun)
def Qmy(l:List Q2a)(label:List UInt8)(z:(Int)):Prop:=0<=z/\z<=l.length
def Qf1(l:List Q2a)(label:List UInt8)(z:(Int)):Nat:=(l.length-z).toNat
def Qgm(l:List Q2a)(label:List UInt8):Tree (Int×Bool):=
.lp inferInstance (Qf1 l label 0+1) ((nR RK.apiSymbol 2 l/\rE (label:List UInt8)/\rE (0:Int)/\True)/\True) 0 λ(v0:Int)=> .br (decide (v0<(l.length:Int))) (let E1:=bS 2 2&&bT 0 2&&decide (0<=v0/\v0<(l.length:Int)); .cn E1 (let E2:=l.getD v0.toNat (RK.dflt RK.apiSymbol); .br (decide (E2.Name=label)) (.cn E1 (.lf (Sum.inr (E2.Addr,true)))) (.nx ((nR RK.apiSymbol 2 l/\rE (label:List UInt8)/\rE ((wrap i64 (v0+1)):Int)/\True)/\True) (Sum.inl (wrap i64 (v0+1)))))) (.lf (Sum.inr (0,false)))
def Qrf l label:=(Qgm l label).m
def Q3s(l:List Q2a)(label:List UInt8):Prop:=
l.length<=1000000000000
theorem Z1i(l:List Q2a)(label:List UInt8)(hw:Q3s l label):(Qgm l label).p:=by
 simp only[Q3s]at hw
 unfold Tree.p Qgm
 repeat'(first|refine w_lp (inv:=Qmy l label) (μ:=Qf1 l label) ?_ (cK _) (λ_ _=> ?_)|exact trivial|refine w_br (λ_=> ?_) (λ_=> ?_)|refine w_cn ?_ ?_|refine w_an ?_ ?_|refine w_lv (λ_ _=> ?_)|refine w_nx ?_|refine w_lf ?_|refine And.intro ?_ ?_)
 all_goals((try simp only[Qmy,Qf1]at*);exact fin0)
def Z41:LInv:={
 α:=(Int)
 F:=λst a=>([(0,(lk st 0)),(1,(lk st 1)),(6, .int i64 a)],[])
 a0:=λst=>(lk st 6).toInt
 ex0:=λst=>[]++[]}
def Qz9:List (Nat×LInv):=[(2,Z41)]
def Z8s:Q0f:=mkP 125 [] true [.one (.recs .apiSymbol), .one (.str)] [] (λa r=>Q3s (argR .apiSymbol a 0) (argS a 1)) (λa r=>Qrf (argR .apiSymbol a 0) (argS a 1)) (λX=> .tup [.int .u32 (X.1), .bool (X.2)]) (λX=>[])
theorem Qqt:Q06 pG Z8s:=Q0m drawn Q0k (.nil) Tryz.func125 Tryz.call125 (λa r=>Qgm (argR .apiSymbol a 0) (argS a 1)) [] Qz9 3 (hp:=λa r h=>Z1i (argR .apiSymbol a 0) (argS a 1) h)
def Z33(src:List UInt8)(z:(Int)×(Int)×(List Q2a)×(List Q0d)):Nat:=((Qz src).length-z.2.1).toNat
def Qk6(src:List UInt8):Tree ((List Q2a)×(List Q0d)×Q1l):=
.br (decide ((src.length:Int)>(8192:Int))) (.lf ([],[],{Err:=300,Line:=0})) (.an (Qm1 src) (.lv (Qz src) λ(x0:List (List UInt8))=> .lp inferInstance (Z33 src (0,0,[],[])+1) ((rZ/\True/\True/\rE (0:Int)/\True/\rE (0:Int)/\True)/\(rE (0:Int)/\rE (0:Int)/\True)/\rE (x0:List (RK.T RK.str))/\rE ([]:List (RK.T RK.apiSymbol))/\rE ([]:List (RK.T RK.vmfleetref1Statement))/\True) (0,0,[],[]) λ(v0:Int×Int×List Q2a×List Q0d)=> .br (decide (v0.2.1<(x0.length:Int))) (.cn (bS 1 1&&bT 0 1&&decide (0<=v0.2.1/\v0.2.1<(x0.length:Int))) (let E3:=x0.getD v0.2.1.toNat (RK.dflt RK.str); .an (Qjt E3) (.lv (Z69 E3) λ(x1:List UInt8×Q0d×Bool)=> .br (!x1.2.2) (.lf (Sum.inr ([],[],{Err:=301,Line:=wrap i64 (v0.2.1+1)}))) (let E1:=({Err:=305,Line:=wrap i64 (v0.2.1+1)}:Q1l);let E2:=decide (72*(v0.2.2.2.length+1)<=140737488355328);let E4:=decide (wrap i64 (v0.1+x1.2.1.size)>1024); .br (!decide (x1.1=[])) (.an (Q3s v0.2.2.1 x1.1) (.lv (Qrf v0.2.2.1 x1.1) λ(x2:Int×Bool)=> .br x2.2 (.lf (Sum.inr ([],[],{Err:=303,Line:=wrap i64 (v0.2.1+1)}))) (.cn (decide (24*(v0.2.2.1.length+1)<=140737488355328)) (let E5:=({Name:=x1.1,Addr:=wrap u32 (wrap i64 (4*v0.1))}:Q2a); .br (!decide (x1.2.1.what=[])) (.cn E2 (.br E4 (.lf (Sum.inr ([],[],E1))) (.nx ((rZ/\True/\True/\rE ((wrap i64 (v0.1+x1.2.1.size)):Int)/\True/\rE ((wrap i64 (v0.2.1+1)):Int)/\True)/\(rE (0:Int)/\rE (0:Int)/\True)/\rE (x0:List (RK.T RK.str))/\rE ((v0.2.2.1++[{Name:=x1.1,Addr:=wrap u32 (wrap i64 (4*v0.1))}]):List (RK.T RK.apiSymbol))/\rE ((v0.2.2.2++[{what:=x1.2.1.what,op:=x1.2.1.op,l:=x1.2.1.l,D7:=wrap i64 (v0.2.1+1),at_:=v0.1,size:=x1.2.1.size}]):List (RK.T RK.vmfleetref1Statement))/\True) (Sum.inl (wrap i64 (v0.1+x1.2.1.size),wrap i64 (v0.2.1+1),v0.2.2.1++[E5],v0.2.2.2++[{what:=x1.2.1.what,op:=x1.2.1.op,l:=x1.2.1.l,D7:=wrap i64 (v0.2.1+1),at_:=v0.1,size:=x1.2.1.size}]))))) (.br (decide (v0.1>1024)) (.lf (Sum.inr ([],[],E1))) (.nx ((rZ/\True/\True/\rE v0.1/\True/\rE ((wrap i64 (v0.2.1+1)):Int)/\True)/\(rE (0:Int)/\rE (0:Int)/\True)/\rE (x0:List (RK.T RK.str))/\rE ((v0.2.2.1++[{Name:=x1.1,Addr:=wrap u32 (wrap i64 (4*v0.1))}]):List (RK.T RK.apiSymbol))/\rE v0.2.2.2/\True) (Sum.inl (v0.1,wrap i64 (v0.2.1+1),v0.2.2.1++[E5],v0.2.2.2)))))))) (.br (!decide (x1.2.1.what=[])) (.cn E2 (.br E4 (.lf (Sum.inr ([],[],E1))) (.nx ((rZ/\True/\True/\rE ((wrap i64 (v0.1+x1.2.1.size)):Int)/\True/\rE ((wrap i64 (v0.2.1+1)):Int)/\True)/\(rE (0:Int)/\rE (0:Int)/\True)/\rE (x0:List (RK.T RK.str))/\rE v0.2.2.1/\rE ((v0.2.2.2++[{what:=x1.2.1.what,op:=x1.2.1.op,l:=x1.2.1.l,D7:=wrap i64 (v0.2.1+1),at_:=v0.1,size:=x1.2.1.size}]):List (RK.T RK.vmfleetref1Statement))/\True) (Sum.inl (wrap i64 (v0.1+x1.2.1.size),wrap i64 (v0.2.1+1),v0.2.2.1,v0.2.2.2++[{what:=x1.2.1.what,op:=x1.2.1.op,l:=x1.2.1.l,D7:=wrap i64 (v0.2.1+1),at_:=v0.1,size:=x1.2.1.size}]))))) (.br (decide (v0.1>1024)) (.lf (Sum.inr ([],[],E1))) (.nx ((rZ/\True/\True/\rE v0.1/\True/\rE ((wrap i64 (v0.2.1+1)):Int)/\True)/\(rE (0:Int)/\rE (0:Int)/\True)/\rE (x0:List (RK.T RK.str))/\rE v0.2.2.1/\rE v0.2.2.2/\True) (Sum.inl (v0.1,wrap i64 (v0.2.1+1),v0.2.2.1,v0.2.2.2))))))))) (.lf (Sum.inr (v0.2.2.1,v0.2.2.2,{Err:=0,Line:=0})))))
def Z3 src:=(Qk6 src).m
abbrev Qnu src:=(Qk6 src).p
def Zfj:LInv:={
 α:=(Int)×(Int)×(List Q2a)×(List Q0d)
 F:=λst a=>([(4, .ptr 0 0 0),(5, .all 2),(6, .all 3),(7, .int i64 a.1),(8, .all 1),(9, .int i64 a.2.1)],[⟨true,59,2, .gen [[(cT st 4 0),(cT st 4 1)]]⟩,⟨false,9,1,esOf st.rows (rN st 8)⟩,⟨false,257,2, .recs RK.apiSymbol a.2.2.1⟩,⟨false,181,6, .recs RK.vmfleetref1Statement a.2.2.2⟩])
 a0:=λst=>((lk st 7).toInt,(lk st 9).toInt,(Q5 RK.apiSymbol st.rows (rN st 5)),(Q5 RK.vmfleetref1Statement st.rows (rN st 6)))
 ex0:=λst=>[]++[(rX st 4 0),(rX st 8 1),(rX st 5 2),(rX st 6 3)]}
def Z7b:List (Nat×LInv):=[(8,Zfj)]
def Zl0:Q0f:=mT 124 [] false [.one (.str)] [] (λa r=>Qk6 (argS a 0)) (λX=> .tup [.all 0, .all 1, .agg (Q1l.cells (X.2.2))]) (λX=>[⟨false,257,2, .recs .apiSymbol (X.1)⟩,⟨false,181,6, .recs .vmfleetref1Statement (X.2.1)⟩])
theorem Zi2:Q06 pG Zl0:=oT (.cons Zdq (.cons Z8t (.cons Qqt (.nil)))) Tryz.func124 Tryz.call124 [.row 257 2 (.recs .apiSymbol), .row 181 6 (.recs .vmfleetref1Statement)] Z7b 3 (hff:=nofun)
def Qkp(st:Q0d)(v:Int):Tree (Int×Bool):=
.lv (Q2i st.op) λ(x0:Int)=> .lv (Qo9 x0) λ(x1:Int×Int)=>let E7:=st.l.getD (cZ 0) (RK.dflt RK.vmfleetref1Arg);let E8:=st.l.getD (cZ 1) (RK.dflt RK.vmfleetref1Arg);let E9:=bS 3 3&&bT 0 3&&decide ((0:Int)<=(0:Int)/\0<(st.l.length:Int));let E10:=bS 3 3&&bT 0 3&&decide ((0:Int)<=(1:Int)/\1<(st.l.length:Int));let E11:=st.l.getD (cZ 2) (RK.dflt RK.vmfleetref1Arg);let E12:=bS 3 3&&bT 0 3&&decide ((0:Int)<=(2:Int)/\2<(st.l.length:Int)); .br (x0==2) (.cn E9 (.cn E10 (.cn E12 (let T2:Tree ((Int×Bool)):= .br (decide (0<x1.1)) (.lf (0,false)) (.br (decide (0>x1.2)) (.lf (0,false)) (.lv (Q1t {Op:=st.op,A:=E7.reg,B:=E8.reg,C:=E11.reg,Imm:=wrap i32 0}) λ(x2:Int×Bool)=> .lf (x2.1,x2.2))); .br (x0==2) T2 (.br (x0==1) T2 (.br (decide (v<x1.1)) (.lf (0,false)) (.br (decide (v>x1.2)) (.lf (0,false)) (.lv (Q1t {Op:=st.op,A:=E7.reg,B:=E8.reg,C:=E11.reg,Imm:=wrap i32 v}) λ(x4:Int×Bool)=> .lf (x4.1,x4.2))))))))) (let T1:Tree ((Int×Bool)):= .br (decide (x0>=6)) (.cn E9 (let T5:Tree ((Int×Bool)):= .br (decide (0<x1.1)) (.lf (0,false)) (.br (decide (0>x1.2)) (.lf (0,false)) (.lv (Q1t {Op:=st.op,A:=E7.reg,B:=0,C:=0,Imm:=wrap i32 0}) λ(x8:Int×Bool)=> .lf (x8.1,x8.2))); .br (x0==2) T5 (.br (x0==1) T5 (.br (decide (v<x1.1)) (.lf (0,false)) (.br (decide (v>x1.2)) (.lf (0,false)) (.lv (Q1t {Op:=st.op,A:=E7.reg,B:=0,C:=0,Imm:=wrap i32 v}) λ(x10:Int×Bool)=> .lf (x10.1,x10.2))))))) (.br (x0 !=1) (.cn E9 (.cn E10 (let T3:Tree ((Int×Bool)):= .br (decide (0<x1.1)) (.lf (0,false)) (.br (decide (0>x1.2)) (.lf (0,false)) (.lv (Q1t {Op:=st.op,A:=E7.reg,B:=E8.reg,C:=0,Imm:=wrap i32 0}) λ(x11:Int×Bool)=> .lf (x11.1,x11.2))); .br (x0==2) T3 (.br (x0==1) T3 (.br (decide (v<x1.1)) (.lf (0,false)) (.br (decide (v>x1.2)) (.lf (0,false)) (.lv (Q1t {Op:=st.op,A:=E7.reg,B:=E8.reg,C:=0,Imm:=wrap i32 v}) λ(x13:Int×Bool)=> .lf (x13.1,x13.2)))))))) (let T6:Tree ((Int×Bool)):= .br (decide (0<x1.1)) (.lf (0,false)) (.br (decide (0>x1.2)) (.lf (0,false)) (.lv (Q1t {Op:=st.op,A:=0,B:=0,C:=0,Imm:=wrap i32 0}) λ(x14:Int×Bool)=> .lf (x14.1,x14.2))); .br (x0==2) T6 (.br (x0==1) T6 (.br (decide (v<x1.1)) (.lf (0,false)) (.br (decide (v>x1.2)) (.lf (0,false)) (.lv (Q1t {Op:=st.op,A:=0,B:=0,C:=0,Imm:=wrap i32 v}) λ(x16:Int×Bool)=> .lf (x16.1,x16.2))))))); .br (decide (st.op>=32)) (.br (decide (st.op<=36)) (.cn E9 (.cn E12 (.cn E10 (let T4:Tree ((Int×Bool)):= .br (decide (0<x1.1)) (.lf (0,false)) (.br (decide (0>x1.2)) (.lf (0,false)) (.lv (Q1t {Op:=st.op,A:=E7.reg,B:=E11.reg,C:=0,Imm:=wrap i32 0}) λ(x5:Int×Bool)=> .lf (x5.1,x5.2))); .br (x0==2) T4 (.br (x0==1) T4 (.br (decide (E8.num<x1.1)) (.lf (0,false)) (.br (decide (E8.num>x1.2)) (.lf (0,false)) (.lv (Q1t {Op:=st.op,A:=E7.reg,B:=E11.reg,C:=0,Imm:=wrap i32 E8.num}) λ(x7:Int×Bool)=> .lf (x7.1,x7.2))))))))) T1) T1)
def Qr9 st v:=(Qkp st v).m
abbrev Qb6 st v:=(Qkp st v).p
def Zl2:Q0f:=mT 126 [] true [.agg Q0d.sig, .one (.int .i64)] [] (λa r=>Qkp (Q0d.of (aC a 0)) (argI a 1)) (λX=> .tup [.int .u32 (X.1), .bool (X.2)]) (λX=>[])
theorem Zhw:Q06 pG Zl2:=oT (.cons Qh3 (.cons Qtd (.cons Qm3 (.nil)))) Tryz.func126 Tryz.call126 [] [] 2

import Derived.Test.YtmalmklaonainaaGreatReplayBoundsYz
open UInt8 renaming toNat->eU, ofNat->eV
open List renaming take->cY, drop->cZ, length->dH, getD->aK
open Int renaming toNat->dC, tdiv->eS
open Nat renaming lt_succ_self->cK, beq->bS, blt->bT
set_option maxRecDepth 100000
set_option linter.all false
namespace Go.Proofs.YtmalmklaonainaaGreat
open Go Go.GD Go.IntKind
noncomputable section
instance sumInhZd {α β:Type} [Inhabited β]:Inhabited (α⊕β):=⟨.inr default⟩
def Z0f(src:List UInt8)(z:(Int)×(Int)×(List (List UInt8))):Nat:=(src.length-z.2.1).toNat
def Qg8(src:List UInt8):Tree (List (List UInt8)):=
.lp inferInstance (Z0f src (0,0,[])+1) ((rE (src:List UInt8)/\True/\rE (0:Int)/\rE (0:Int)/\True)/\rE ([]:List (RK.T RK.str))/\True) (0,0,[]) λ(v0:Int×Int×List (List UInt8))=>let E1:=decide (16*(v0.2.2.length+1)<=140737488355328); .br (decide (v0.2.1<(src.length:Int))) (.cn (decide (0<=v0.2.1/\v0.2.1<(src.length:Int))) (.br ((↑(eU (src.getD v0.2.1.toNat (0:UInt8))):Int)==(10:Int)) (.cn (decide (0<=v0.1/\v0.1<=v0.2.1/\v0.2.1<=(src.length:Int))) (.cn E1 (.nx ((rE (src:List UInt8)/\True/\rE ((wrap i64 (v0.2.1+1)):Int)/\rE ((wrap i64 (v0.2.1+1)):Int)/\True)/\rE ((v0.2.2++[cY (dC v0.2.1-dC v0.1) (cZ v0.1.toNat src)]):List (RK.T RK.str))/\True) (Sum.inl (wrap i64 (v0.2.1+1),wrap i64 (v0.2.1+1),v0.2.2++[cY (dC v0.2.1-dC v0.1) (cZ v0.1.toNat src)]))))) (.nx ((rE (src:List UInt8)/\True/\rE v0.1/\rE ((wrap i64 (v0.2.1+1)):Int)/\True)/\rE v0.2.2/\True) (Sum.inl (v0.1,wrap i64 (v0.2.1+1),v0.2.2))))) (.br (decide (v0.1<(src.length:Int))) (.cn (decide (0<=v0.1/\v0.1<=(src.length:Int)/\(src.length:Int)<=(src.length:Int))) (.cn E1 (.lf (Sum.inr (v0.2.2++[cY (dC (src.length:Int)-dC v0.1) (cZ v0.1.toNat src)]))))) (.lf (Sum.inr v0.2.2)))
def Qvd src:=(Qg8 src).m
abbrev Qki src:=(Qg8 src).p
def Zal:LInv:={
 α:=(Int)×(Int)×(List (List UInt8))
 F:=λst a=>([(0,(lk st 0)),(3, .all 0),(4, .int i64 a.1),(5, .int i64 a.2.1)],[⟨false,9,1, .recs RK.str a.2.2⟩])
 a0:=λst=>((lk st 4).toInt,(lk st 5).toInt,(Q5f RK.str st.rows (rN st 3)))
 ex0:=λst=>[]++[(rX st 3 0)]}
def Z4w:List (Nat×LInv):=[(4,Zal)]
def Zf6:Q0d:=mT 189 [] true [.one (.str)] [] (λa r=>Qg8 (argS a 0)) (λX=> .all 0) (λX=>[⟨false,9,1, .recs .str X⟩])
theorem Zcl:Q06 pG Zf6:=oT (.nil) Tryz.func189 Tryz.call189 [.row 9 1 (.recs .str)] Z4w 3
def Qtp(c:Int):Tree Bool:=
.br (decide (c>=97)) (.lf (decide (c<=122))) (.lf false)
def Qim c:=(Qtp c).m
def Zbi:Q0d:=mS 282 [] true [.one (.int .u8)] [] (λa r=>Qtp (argI a 0)) (λX=> .bool X) (λX=>[])
theorem Qqw:Q06 pG Zbi:=oS (.nil) Tryz.func282 Tryz.call282 [] [] 2
def Qxs(c:Int):Tree Bool:=
.br (decide (c>=48)) (.lf (decide (c<=57))) (.lf false)
def Qfc c:=(Qxs c).m
def Zg4:Q0d:=mS 283 [] true [.one (.int .u8)] [] (λa r=>Qxs (argI a 0)) (λX=> .bool X) (λX=>[])
theorem Qtt:Q06 pG Zg4:=oS (.nil) Tryz.func283 Tryz.call283 [] [] 2
def Qwg(s:List UInt8)(z:(Bool)×(Int)×(List Q0k)):Nat:=(s.length-z.2.1).toNat
def Qx0(s:List UInt8)(v0:Bool×Int×List Q0k)(z:(Int)):Nat:=(s.length-z).toNat
def Qw8(s:List UInt8)(v0:Bool×Int×List Q0k)(z:(Int)):Nat:=(s.length-z).toNat
def Qdy(s:List UInt8):Tree ((List Q0k)×Bool):=
.lp inferInstance (Qwg s (true,0,[])+1) ((rE (s:List UInt8)/\True/\rE (true:Bool)/\rE (0:Int)/\True)/\rE ([]:List (RK.T RK.vmfleetref1Token))/\True) (true,0,[]) λ(v0:Bool×Int×List Q0k)=> .br (decide (v0.2.1<(s.length:Int))) (.cn (decide (0<=v0.2.1/\v0.2.1<(s.length:Int))) (let E7:=(↑(eU (s.getD v0.2.1.toNat (0:UInt8))):Int); .br (E7==(32:Int)) (.nx ((rE (s:List UInt8)/\True/\rE (true:Bool)/\rE ((wrap i64 (v0.2.1+1)):Int)/\True)/\rE v0.2.2/\True) (Sum.inl (true,wrap i64 (v0.2.1+1),v0.2.2))) (.lv (Qim E7) λ(x0:Bool)=>let E10:=decide (32*(v0.2.2.length+1)<=140737488355328);let E13:=cZ v0.2.1.toNat s; .br x0 (.lp inferInstance (Qx0 s v0 v0.2.1+1) ((rE (s:List UInt8)/\True/\rE v0.1/\rE v0.2.1/\rE v0.2.1/\True)/\rE v0.2.2/\True) v0.2.1 λ(v1:Int)=>let T3:Tree ((Int)⊕((Bool×Int×List Q0k)⊕(((List Q0k)×Bool)))):= .cn (decide (0<=v0.2.1/\v0.2.1<=v1/\v1<=(s.length:Int))) (.cn E10 (.nx ((rE (s:List UInt8)/\True/\rE (false:Bool)/\rE (v1:Int)/\True)/\rE ((v0.2.2++[{kind:=1,D4:=cY (dC v1-dC v0.2.1) (cZ v0.2.1.toNat s),gap:=v0.1}]):List (RK.T RK.vmfleetref1Token))/\True) (Sum.inr (Sum.inl (false,v1,v0.2.2++[{kind:=1,D4:=cY (dC v1-dC v0.2.1) E13,gap:=v0.1}]))))); .br (decide (v1<(s.length:Int))) (let E11:=decide (0<=v1/\v1<(s.length:Int)); .cn E11 (let E8:=(↑(eU (s.getD v1.toNat (0:UInt8))):Int); .lv (Qim E8) λ(x1:Bool)=>let T5:Tree ((Int)⊕((Bool×Int×List Q0k)⊕(((List Q0k)×Bool)))):= .nx ((rE (s:List UInt8)/\True/\rE v0.1/\rE ((wrap i64 (v1+1)):Int)/\rE v0.2.1/\True)/\rE v0.2.2/\True) (Sum.inl (wrap i64 (v1+1))); .br x1 T5 (.cn E11 (.lv (Qfc E8) λ(x2:Bool)=> .br x2 T5 (.cn E11 (.br (E8==(95:Int)) T5 T3)))))) T3) (.lv (Qfc E7) λ(x3:Bool)=>let T2:Tree ((Bool×Int×List Q0k)⊕(((List Q0k)×Bool))):= .lp inferInstance (Qw8 s v0 (wrap i64 (v0.2.1+1))+1) ((rE (s:List UInt8)/\True/\rE v0.1/\rE ((wrap i64 (v0.2.1+1)):Int)/\rE v0.2.1/\True)/\rE v0.2.2/\True) (wrap i64 (v0.2.1+1)) λ(v1:Int)=>let T4:Tree ((Int)⊕((Bool×Int×List Q0k)⊕(((List Q0k)×Bool)))):= .cn (decide (0<=v0.2.1/\v0.2.1<=v1/\v1<=(s.length:Int))) (.cn E10 (.nx ((rE (s:List UInt8)/\True/\rE (false:Bool)/\rE (v1:Int)/\True)/\rE ((v0.2.2++[{kind:=2,D4:=cY (dC v1-dC v0.2.1) (cZ v0.2.1.toNat s),gap:=v0.1}]):List (RK.T RK.vmfleetref1Token))/\True) (Sum.inr (Sum.inl (false,v1,v0.2.2++[{kind:=2,D4:=cY (dC v1-dC v0.2.1) E13,gap:=v0.1}]))))); .br (decide (v1<(s.length:Int))) (let E12:=decide (0<=v1/\v1<(s.length:Int)); .cn E12 (let E9:=(↑(eU (s.getD v1.toNat (0:UInt8))):Int); .lv (Qim E9) λ(x4:Bool)=>let T6:Tree ((Int)⊕((Bool×Int×List Q0k)⊕(((List Q0k)×Bool)))):= .nx ((rE (s:List UInt8)/\True/\rE v0.1/\rE ((wrap i64 (v1+1)):Int)/\rE v0.2.1/\True)/\rE v0.2.2/\True) (Sum.inl (wrap i64 (v1+1))); .br x4 T6 (.cn E12 (.lv (Qfc E9) λ(x5:Bool)=> .br x5 T6 (.cn E12 (.br (E9==(95:Int)) T6 T4)))))) T4; .br x3 T2 (.br (E7==(45:Int)) T2 (let T1:Tree ((Bool×Int×List Q0k)⊕(((List Q0k)×Bool))):= .cn (decide (0<=v0.2.1/\v0.2.1<=wrap i64 (v0.2.1+1)/\wrap i64 (v0.2.1+1)<=(s.length:Int))) (.cn E10 (.nx ((rE (s:List UInt8)/\True/\rE (false:Bool)/\rE ((wrap i64 (v0.2.1+1)):Int)/\True)/\rE ((v0.2.2++[{kind:=3,D4:=cY (dC (wrap i64 (v0.2.1+1))-dC v0.2.1) (cZ v0.2.1.toNat s),gap:=v0.1}]):List (RK.T RK.vmfleetref1Token))/\True) (Sum.inl (false,wrap i64 (v0.2.1+1),v0.2.2++[{kind:=3,D4:=cY (dC (wrap i64 (v0.2.1+1))-dC v0.2.1) E13,gap:=v0.1}])))); .br (E7==(44:Int)) T1 (.br (E7==(58:Int)) T1 (.br (E7==(40:Int)) T1 (.br (E7==(41:Int)) T1 (.br (E7==(46:Int)) T1 (.lf (Sum.inr ([],false))))))))))))) (.lf (Sum.inr (v0.2.2,true)))
def Z3c s:=(Qdy s).m
abbrev Qi6 s:=(Qdy s).p
def Z54:LInv:={
 α:=(Bool)×(Int)×(List Q0k)
 F:=λst a=>([(0,(lk st 0)),(4, .all 0),(5, .bool a.1),(6, .int i64 a.2.1)],[⟨false,311,3, .recs RK.vmfleetref1Token a.2.2⟩])
 a0:=λst=>((lk st 5).toBool,(lk st 6).toInt,(Q5f RK.vmfleetref1Token st.rows (rN st 4)))
 ex0:=λst=>[]++[(rX st 4 0)]}
def Z70:LInv:={
 α:=(Int)
 F:=λst a=>([(0,(lk st 0)),(4, .all 0),(5,(lk st 5)),(6, .int i64 a),(8,(lk st 8))],[⟨false,311,3,esOf st.rows (rN st 4)⟩])
 a0:=λst=>(lk st 6).toInt
 ex0:=λst=>[]++[(rX st 4 0)]}
def Z6v:LInv:={
 α:=(Int)
 F:=λst a=>([(0,(lk st 0)),(4, .all 0),(5,(lk st 5)),(6, .int i64 a),(8,(lk st 8))],[⟨false,311,3,esOf st.rows (rN st 4)⟩])
 a0:=λst=>(lk st 6).toInt
 ex0:=λst=>[]++[(rX st 4 0)]}
def Z0e:List (Nat×LInv):=[(4,Z54),(12,Z70),(17,Z6v)]
def Zau:Q0d:=mT 246 [] true [.one (.str)] [] (λa r=>Qdy (argS a 0)) (λX=> .tup [.all 0, .bool (X.2)]) (λX=>[⟨false,311,3, .recs .vmfleetref1Token (X.1)⟩])
theorem Z6t:Q06 pG Zau:=oT (.cons Qqw (.cons Qtt (.nil))) Tryz.func246 Tryz.call246 [.row 311 3 (.recs .vmfleetref1Token)] Z0e 3
 def digT (p:Int->Prop) (r:Int->List UInt8) (n:Int):Tree (List UInt8):=
 .br (decide (n<(10:Int))) (.lf ([(λ(n:Int)=>eV n.toNat) (wrap u8 (wrap u64 ((48:Int)+n)))])) (.an (p (wrap u64 (eS n (10:Int)))) (.lv (r (wrap u64 (eS n (10:Int)))) λ(x0:List UInt8)=> .cn (decide (x0.length+dH [(λ(n:Int)=>eV n.toNat) (wrap u8 (wrap u64 ((48:Int)+Int.tmod n (10:Int))))]<=maxLen)) (.lf (x0++[(λ(n:Int)=>eV n.toNat) (wrap u8 (wrap u64 ((48:Int)+Int.tmod n (10:Int))))]))))
 def digF:Nat->Int->List UInt8
   |0,_=>[]
   |k+1,n=>(digT (λ_=>True) (digF k) n).m
 def digP (k:Nat) (n:Int):Prop:=0<=n/\n<10^k/\n<18446744073709551616/\0<k/\k<=30
 def digM (k:Nat):Q0d:=mkP 123 [] true [.one (.int .u64)] [] (λargs rows=>digP k (argI args 0)) (λargs rows=>digF k (argI args 0)) (λX=> .str X) (λX=>[])
 theorem digF_len: ∀k n,(digF k n).length<=k
   |0,_=>Nat.le_refl _
   | k+1,n=>by
     show(bif decide (n<10) then _ else letv (digF k _) λx0=>x0++_).length<=k+1
     have:=digF_len k (wrap u64 (eS n 10))
     cases decide (n<10)
     . simp [letv,Tree.m];omega
     . simp [Tree.m]
 theorem digM_ok: ∀k,Q06 pG (digM k)
   |0=>Qyi Tryz.call123 (λargs rows h=>absurd h.2.2.2.1 (Nat.lt_irrefl 0)) (λ_ X=>by kernel_rfl)
   | k + 1=>by
     refine Q0q drawn Q0m (.cons (digM_ok k) .nil) Tryz.func123 Tryz.call123 (λargs rows=>digT (digP k) (digF k) (argI args 0)) [] [] 2 (λ_ _ _=>by kernel_rfl) (λ_ _=>rfl) (λargs rows h=> ?_) (λ_ X=>by kernel_rfl)
     obtain⟨h0,h1,h2,h3,h4⟩:=h
     generalize argI args 0=n at*
     refine w_br (λ_=>trivial) (λhn=> ?_)
     have hn:=oN hn
     have e:wrap u64 (eS n 10)=n/10:=by rw[wrap_u64,Int.tdiv_eq_ediv_of_nonneg h0];omega
     refine w_an (show digP k _ from ?_) (w_lv λx hx=>w_cn (dY ?_) trivial)
     . rw[e]
       rw[Int.pow_succ]at h1
       have hk:0<k:=by
         rcases Nat.eq_zero_or_pos k with rfl|h
         . simp at h1;omega
         . exact h
       exact⟨by omega,by omega,by omega,hk,by omega⟩
     . have:=digF_len k (wrap u64 (eS n 10))
       rw[<-hx]at this
       simp [maxLen];omega
def Qf0(n:Int):(List UInt8):=
digF 20 n
def Q3b(n:Int):Prop:=
0<=n/\n<18446744073709551616
def Qnl(n:Int):List D:=[.int .u64 n]
def Qne(n:Int):List Row:=[]
def Qip(X:List UInt8):D:= .str X
def Qi8(X:List UInt8):List Row:=[]
def Qpj:List PT:=[.one (.int .u64)]
def Qnk:List RT:=[]
def Z3d(args:List D)(rows:List Row):(List UInt8):=Qf0 (argI args 0)
def Z3e(args:List D)(rows:List Row):Prop:=Q3b (argI args 0)
def Z9g:Q0d:=mkP 123 [] true Qpj Qnk Z3e Z3d Qip Qi8
theorem Qxf(n:Int)(hw:Q3b n):Q4k pG 123 (Qnl n) (Qne n) (Qip (Qf0 n)) (Qi8 (Qf0 n)):=by
 have h20:(18446744073709551616:Int)<=10^20:=by decide
 exact xz (args:=[.int .u64 n]) (rows:=[]) (digM_ok 20) (by kernel_rfl) ⟨hw.1,Int.lt_of_lt_of_le hw.2 h20,hw.2,by decide,by decide⟩
set_option maxRecDepth 100000 in
theorem Z04(args:List D)(rows:List Row):Qgf Qpj args 0=Qnl (argI args 0):=by kernel_rfl
set_option maxRecDepth 100000 in
theorem Qwi(args:List D)(rows:List Row):Q65 Qnk rows 0=Qne (argI args 0):=by kernel_rfl
set_option maxRecDepth 100000 in
theorem Z6x(X:List UInt8):(ffB (Qip X)&&ffBR (Qi8 X))=true:=by kernel_rfl
theorem Z6c:Q06 pG Z9g:=Qyi Tryz.call123 (λargs rows hp=>by rw[Z04 args rows,Qwi args rows];exact Qxf (argI args 0) hp) (λ_ X=>Z6x X)
def Q76(n:Int):Tree (List UInt8):=
.br (decide (n<0)) (let E1:=wrap u64 (wrap u64 (wrap i64 (0-wrap i64 (n+1)))+1); .an (Q3b E1) (.lv (Qf0 E1) λ(x0:List UInt8)=> .cn (decide (1+x0.length<=maxLen)) (.lf ((45:UInt8)::x0)))) (.an (Q3b (wrap u64 n)) (.lv (Qf0 (wrap u64 n)) λ(x1:List UInt8)=> .lf x1))
def Qpi n:=(Q76 n).m
abbrev Qgw n:=(Q76 n).p
def Z55:Q0d:=mT 35 [] true [.one (.int .i64)] [] (λa r=>Q76 (argI a 0)) (λX=> .str X) (λX=>[])
theorem Z20:Q06 pG Z55:=oT (.cons Z6c (.nil)) Tryz.func35 Tryz.call35 [] [] 2
def Qf6(r:Int):Tree (List UInt8):=
.an (Qgw r) (.lv (Qpi r) λ(x0:List UInt8)=> .cn (decide (1+x0.length<=maxLen)) (.lf ((114:UInt8)::x0)))
def Zma r:=(Qf6 r).m
abbrev Qoe r:=(Qf6 r).p
def Zmm:Q0d:=mT 310 [] true [.one (.int .i64)] [] (λa r=>Qf6 (argI a 0)) (λX=> .str X) (λX=>[])
theorem Zk0:Q06 pG Zmm:=oT (.cons Z20 (.nil)) Tryz.func310 Tryz.call310 [] [] 2
def Qqj(s:List UInt8)(z:(Int)):Prop:=0<=z/\z<=16
def Qft(s:List UInt8)(z:(Int)):Nat:=(16-z).toNat
def Qag(s:List UInt8):Tree (Int×Bool):=
.lp inferInstance (Qft s 0+1) ((rE (s:List UInt8)/\rE (0:Int)/\True)/\True) 0 λ(v0:Int)=> .br (decide (v0<16)) (.an (Qoe v0) (.lv (Zma v0) λ(x0:List UInt8)=> .br (decide (s=x0)) (.lf (Sum.inr (v0,true))) (.nx ((rE (s:List UInt8)/\rE ((wrap i64 (v0+1)):Int)/\True)/\True) (Sum.inl (wrap i64 (v0+1)))))) (.lf (Sum.inr (0,false)))
def Qiw s:=(Qag s).m
theorem Qrr(s:List UInt8):(Qag s).p:=by
 unfold Tree.p Qag
 have dp: ∀x,Q3b (wrap .u64 x):=λx=>by unfold Q3b;rw[wrap_u64];omega
 have dl: ∀x,(Qf0 x).length<=20:=λx=>digF_len 20 x
 have hd: ∀x,(Q76 x).w (λr=>r.length<=21):=λx=>by
   unfold Q76
   refine w_br (λ_=>w_an (dp _) (w_lv λx0 h0=>w_cn (dY ?_) ?_)) (λ_=>w_an (dp _) (w_lv λx1 h1=> ?_))
   . have:=dl (wrap .u64 (wrap .u64 (wrap .i64 (0-wrap .i64 (x+1)))+1));rw[<-h0]at this;simp [maxLen];omega
   . have:=dl (wrap .u64 (wrap .u64 (wrap .i64 (0-wrap .i64 (x+1)))+1));rw[<-h0]at this;show(_::x0).length<=21;simp;omega
   . rw[h1];exact Nat.le_trans (dl _) (by decide)
 have hr: ∀x,(Qf6 x).p:=λx=>by
   unfold Tree.p Qf6
   refine w_an (Tree.pp (hd x)).1 (w_lv λx0 h0=>w_cn (dY ?_) trivial)
   have:(Qpi x).length<=21:=(Tree.pp (hd x)).2
   rw[<-h0]at this;simp [maxLen];omega
 refine w_lp (inv:=Qqj s) (μ:=Qft s) ⟨by decide,by decide⟩ (cK _) (λz hz=> ?_)
 obtain⟨z1,z2⟩:=hz
 refine w_br (λhb=>w_an (hr _) (w_lv λx0 _=>w_br (λ_=>trivial) (λ_=>w_nx ?_))) (λ_=>trivial)
 have hb:=oY hb
 show(0<=i64.wrap (z+1)/\i64.wrap (z+1)<=16)/\(16-i64.wrap (z+1)).toNat<(16-z).toNat
 rw[wrap_i64];omega
def Qt3:LInv:={
 α:=(Int)
 F:=λst a=>([(0,(lk st 0)),(4, .int i64 a)],[])
 a0:=λst=>(lk st 4).toInt
 ex0:=λst=>[]++[]}
def Qqk:List (Nat×LInv):=[(2,Qt3)]
def Qw6:Q0d:=mS 284 [] true [.one (.str)] [] (λa r=>Qag (argS a 0)) (λX=> .tup [.int .i64 (X.1), .bool (X.2)]) (λX=>[])
theorem Qkb:Q06 pG Qw6:=oS (.cons Zk0 (.nil)) Tryz.func284 Tryz.call284 [] Qqk 3 (λ_ _ _=>by kernel_rfl) (λa r=>Qrr (argS a 0)) (λ_ X=>by kernel_rfl)
def Qig(s:List UInt8):Tree Bool:=
.lv (Qiw s) λ(x0:Int×Bool)=> .br (decide ((s.length:Int)>=(1:Int))) (.br (decide ((s.length:Int)<=(12:Int))) (.cn (decide ((0:Int)<=(0:Int)/\0<(s.length:Int))) (.lv (Qim (↑(eU (s.getD (dC 0) (0:UInt8))):Int)) λ(x1:Bool)=> .br x1 (.lf (!x0.2)) (.lf false))) (.lf false)) (.lf false)
def Z4n s:=(Qig s).m
abbrev Qhd s:=(Qig s).p
def Zii:Q0d:=mT 247 [] true [.one (.str)] [] (λa r=>Qig (argS a 0)) (λX=> .bool X) (λX=>[])
theorem Qxr:Q06 pG Zii:=oT (.cons Qkb (.cons Qqw (.nil))) Tryz.func247 Tryz.call247 [] [] 2
def Q9r(op:Int):Tree (List UInt8):=
let T1:Tree ((List UInt8)):=let T3:Tree ((List UInt8)):= .br (op==48) (.lf ([(106:UInt8),97,108])) (.br (op==49) (.lf ([(106:UInt8),97,108,114])) (.br (decide (op>=56)) (.br (decide (op<=64)) (.cn (bS 1 1&&bT 0 1&&decide (0<=wrap i64 (op-56)/\wrap i64 (op-56)<(↑9:Int))) (.lf (aK [[(101:UInt8),99,97,108,108],[(101:UInt8),114,101,116],[(99:UInt8),115,114,114],[(99:UInt8),115,114,119],[(105:UInt8),110],[(111:UInt8),117,116],[(119:UInt8),102,105],[(102:UInt8),108,117,115,104],[(104:UInt8),97,108,116]] (dC (wrap i64 (op-56))) (RK.dflt RK.str)))) (.lf ([]))) (.lf ([])))); .br (decide (op>=40)) (.br (decide (op<=45)) (.cn (bS 1 1&&bT 0 1&&decide (0<=wrap i64 (op-40)/\wrap i64 (op-40)<(↑6:Int))) (.lf (aK [[(98:UInt8),101,113],[(98:UInt8),110,101],[(98:UInt8),108,116],[(98:UInt8),103,101],[(98:UInt8),108,116,117],[(98:UInt8),103,101,117]] (dC (wrap i64 (op-40))) (RK.dflt RK.str)))) T3) T3;let T2:Tree ((List UInt8)):=let T4:Tree ((List UInt8)):= .br (decide (op>=32)) (.br (decide (op<=36)) (.cn (bS 1 1&&bT 0 1&&decide (0<=wrap i64 (op-32)/\wrap i64 (op-32)<(↑5:Int))) (.lf (aK [[(108:UInt8),119],[(108:UInt8),98],[(108:UInt8),98,117],[(115:UInt8),119],[(115:UInt8),98]] (dC (wrap i64 (op-32))) (RK.dflt RK.str)))) T1) T1; .br (decide (op>=16)) (.br (decide (op<=24)) (.cn (bS 1 1&&bT 0 1&&decide (0<=wrap i64 (op-16)/\wrap i64 (op-16)<(↑9:Int))) (.lf (aK [[(97:UInt8),100,100,105],[(97:UInt8),110,100,105],[(111:UInt8),114,105],[(120:UInt8),111,114,105],[(115:UInt8),104,108,105],[(115:UInt8),104,114,105],[(115:UInt8),97,114,105],[(115:UInt8),108,116,105],[(108:UInt8),117,105]] (dC (wrap i64 (op-16))) (RK.dflt RK.str)))) T4) T4; .br (decide (op>=1)) (.br (decide (op<=13)) (.cn (bS 1 1&&bT 0 1&&decide (0<=wrap i64 (op-1)/\wrap i64 (op-1)<(↑13:Int))) (.lf (aK [[(97:UInt8),100,100],[(115:UInt8),117,98],[(97:UInt8),110,100],[(111:UInt8),114],[(120:UInt8),111,114],[(115:UInt8),104,108],[(115:UInt8),104,114],[(115:UInt8),97,114],[(109:UInt8),117,108],[(100:UInt8),105,118],[(114:UInt8),101,109],[(115:UInt8),108,116],[(115:UInt8),108,116,117]] (dC (wrap i64 (op-1))) (RK.dflt RK.str)))) T2) T2
def Qsm op:=(Q9r op).m
abbrev Qf4 op:=(Q9r op).p
def Z4u:Q0d:=mT 286 [] true [.one (.int .i64)] [] (λa r=>Q9r (argI a 0)) (λX=> .str X) (λX=>[])
theorem Qzt:Q06 pG Z4u:=oT (.nil) Tryz.func286 Tryz.call286 [] [] 2
def Qqn(s:List UInt8)(z:(Int)):Nat:=(65-z).toNat
def Q8j(s:List UInt8):Tree Int:=
.lp inferInstance (Qqn s 1+1) ((rE (s:List UInt8)/\rE (1:Int)/\True)/\True) 1 λ(v0:Int)=> .br (decide (v0<=64)) (.lv (Q2h v0) λ(x0:Int)=> .br (decide (x0>0)) (.an (Qf4 v0) (.lv (Qsm v0) λ(x1:List UInt8)=> .br (decide (x1=s)) (.lf (Sum.inr v0)) (.nx ((rE (s:List UInt8)/\rE ((wrap i64 (v0+1)):Int)/\True)/\True) (Sum.inl (wrap i64 (v0+1)))))) (.nx ((rE (s:List UInt8)/\rE ((wrap i64 (v0+1)):Int)/\True)/\True) (Sum.inl (wrap i64 (v0+1))))) (.lf (Sum.inr 0))
def Q8p s:=(Q8j s).m
abbrev Q3c s:=(Q8j s).p
def Qvh:LInv:={
 α:=(Int)
 F:=λst a=>([(0,(lk st 0)),(3, .int i64 a)],[])
 a0:=λst=>(lk st 3).toInt
 ex0:=λst=>[]++[]}
def Qs7:List (Nat×LInv):=[(2,Qvh)]
def Z05:Q0d:=mT 250 [] true [.one (.str)] [] (λa r=>Q8j (argS a 0)) (λX=> .int .i64 X) (λX=>[])
theorem Ql4:Q06 pG Z05:=oT (.cons Qfv (.cons Qzt (.nil))) Tryz.func250 Tryz.call250 [] Qs7 3
def Qbk(what:List UInt8):Tree ((List UInt8)×Bool):=
.an (Q3c what) (.lv (Q8p what) λ(x0:Int)=> .br (decide (what=[(46:UInt8),119,111,114,100])) (.lf ([(120:UInt8)],true)) (.br (decide (what=[(46:UInt8),115,112,97,99,101])) (.lf ([(110:UInt8)],true)) (.br (decide (what=[(108:UInt8),105])) (.lf ([(114:UInt8),44,120],true)) (.br (decide (what=[(109:UInt8),118])) (.lf ([(114:UInt8),44,114],true)) (.br (decide (what=[(110:UInt8),111,112])) (.lf ([],true)) (.br (x0==0) (.lf ([],false)) (let T1:Tree (((List UInt8)×Bool)):= .br (x0==48) (.lf ([(114:UInt8),44,120],true)) (.lv (Q2h x0) λ(x1:Int)=> .br (x1==1) (.lf ([],true)) (.br (x1==2) (.lf ([(114:UInt8),44,114,44,114],true)) (.br (decide (x1>=6)) (.lf ([(114:UInt8),44,110],true)) (.lf ([(114:UInt8),44,114,44,110],true)))));let T2:Tree (((List UInt8)×Bool)):= .br (decide (x0>=40)) (.br (decide (x0<=45)) (.lf ([(114:UInt8),44,114,44,120],true)) T1) T1; .br (decide (x0>=32)) (.br (decide (x0<=36)) (.lf ([(114:UInt8),44,110,40,114,41],true)) T2) T2)))))))
def Qg5 what:=(Qbk what).m
abbrev Q69 what:=(Qbk what).p
def Z6m:Q0d:=mT 248 [] true [.one (.str)] [] (λa r=>Qbk (argS a 0)) (λX=> .tup [.str (X.1), .bool (X.2)]) (λX=>[])
theorem Z1x:Q06 pG Z6m:=oT (.cons Ql4 (.cons Qfv (.nil))) Tryz.func248 Tryz.call248 [] [] 2
def Qvm(s:List UInt8)(z:(Int)×(Int)):Nat:=(s.length-z.2).toNat
def Qla(s:List UInt8)(z:(Int)×(Int)):Nat:=(s.length-z.2).toNat
def Qe6(s:List UInt8):Tree (Int×Bool):=
let E7:=decide ((0:Int)<=(0:Int)/\0<(s.length:Int));let E8:=(↑(eU (s.getD (dC 0) (0:UInt8))):Int);let T1:Tree ((Int×Bool)):=let T2:Tree ((Int×Bool)):= .br (decide (wrap i64 ((s.length:Int)-(0:Int))<1)) (.lf (0,false)) (.br (decide (wrap i64 ((s.length:Int)-(0:Int))>10)) (.lf (0,false)) (.lp inferInstance (Qla s (0,0)+1) ((rE (s:List UInt8)/\rE (0:Int)/\rE (0:Int)/\rE (0:Int)/\True)/\True) (0,0) λ(v0:Int×Int)=> .br (decide (v0.2<(s.length:Int))) (let E9:=decide (0<=v0.2/\v0.2<(s.length:Int)); .cn E9 (let E5:=(↑(eU (s.getD v0.2.toNat (0:UInt8))):Int); .lv (Qfc E5) λ(x2:Bool)=> .br (!x2) (.lf (Sum.inr (0,false))) (.cn E9 (.nx ((rE (s:List UInt8)/\rE (0:Int)/\rE ((wrap i64 (wrap i64 (10*v0.1)+wrap i64 (wrap u8 ((↑(eU (s.getD v0.2.toNat (0:UInt8))):Int)-(48:Int))))):Int)/\rE ((wrap i64 (v0.2+1)):Int)/\True)/\True) (Sum.inl (wrap i64 (wrap i64 (10*v0.1)+wrap i64 (wrap u8 (E5-(48:Int)))),wrap i64 (v0.2+1))))))) (.br (decide (v0.1>=(-2147483648))) (.lf (Sum.inr (v0.1,decide (v0.1<=4294967295)))) (.lf (Sum.inr (v0.1,false)))))); .br (decide ((s.length:Int)>(0:Int))) (.cn E7 (.br (E8==(45:Int)) (.br (decide (wrap i64 ((s.length:Int)-(1:Int))<1)) (.lf (0,false)) (.br (decide (wrap i64 ((s.length:Int)-(1:Int))>10)) (.lf (0,false)) (.lp inferInstance (Qla s (0,1)+1) ((rE (s:List UInt8)/\rE (1:Int)/\rE (0:Int)/\rE (1:Int)/\True)/\True) (0,1) λ(v0:Int×Int)=> .br (decide (v0.2<(s.length:Int))) (let E10:=decide (0<=v0.2/\v0.2<(s.length:Int)); .cn E10 (let E6:=(↑(eU (s.getD v0.2.toNat (0:UInt8))):Int); .lv (Qfc E6) λ(x1:Bool)=> .br (!x1) (.lf (Sum.inr (0,false))) (.cn E10 (.nx ((rE (s:List UInt8)/\rE (1:Int)/\rE ((wrap i64 (wrap i64 (10*v0.1)+wrap i64 (wrap u8 ((↑(eU (s.getD v0.2.toNat (0:UInt8))):Int)-(48:Int))))):Int)/\rE ((wrap i64 (v0.2+1)):Int)/\True)/\True) (Sum.inl (wrap i64 (wrap i64 (10*v0.1)+wrap i64 (wrap u8 (E6-(48:Int)))),wrap i64 (v0.2+1))))))) (.br (decide (wrap i64 (0-v0.1)>=(-2147483648))) (.lf (Sum.inr (wrap i64 (0-v0.1),decide (wrap i64 (0-v0.1)<=4294967295)))) (.lf (Sum.inr (wrap i64 (0-v0.1),false))))))) T2)) T2; .br (decide ((s.length:Int)>(2:Int))) (.cn E7 (.br (E8==(48:Int)) (.cn (decide ((0:Int)<=(1:Int)/\1<(s.length:Int))) (.br ((↑(eU (s.getD (dC 1) (0:UInt8))):Int)==(120:Int)) (.br (decide ((s.length:Int)>(10:Int))) (.lf (0,false)) (.lp inferInstance (Qvm s (0,2)+1) ((rE (s:List UInt8)/\rE (0:Int)/\rE (2:Int)/\True)/\True) (0,2) λ(v0:Int×Int)=> .br (decide (v0.2<(s.length:Int))) (let E4:=decide (0<=v0.2/\v0.2<(s.length:Int)); .cn E4 (let E3:=(↑(eU (s.getD v0.2.toNat (0:UInt8))):Int); .lv (Qfc E3) λ(x0:Bool)=> .br x0 (.cn E4 (.nx ((rE (s:List UInt8)/\rE ((wrap i64 (wrap i64 (16*v0.1)+wrap i64 (wrap u8 ((↑(eU (s.getD v0.2.toNat (0:UInt8))):Int)-(48:Int))))):Int)/\rE ((wrap i64 (v0.2+1)):Int)/\True)/\True) (Sum.inl (wrap i64 (wrap i64 (16*v0.1)+wrap i64 (wrap u8 (E3-(48:Int)))),wrap i64 (v0.2+1))))) (.cn E4 (.br (decide (E3>=(97:Int))) (.cn E4 (.br (decide (E3<=(102:Int))) (.cn E4 (.nx ((rE (s:List UInt8)/\rE ((wrap i64 (wrap i64 (wrap i64 (16*v0.1)+wrap i64 (wrap u8 ((↑(eU (s.getD v0.2.toNat (0:UInt8))):Int)-(97:Int))))+10)):Int)/\rE ((wrap i64 (v0.2+1)):Int)/\True)/\True) (Sum.inl (wrap i64 (wrap i64 (wrap i64 (16*v0.1)+wrap i64 (wrap u8 (E3-(97:Int))))+10),wrap i64 (v0.2+1))))) (.lf (Sum.inr (0,false))))) (.lf (Sum.inr (0,false))))))) (.lf (Sum.inr (v0.1,true))))) T1)) T1)) T1
def Z3p s:=(Qe6 s).m
abbrev Qib s:=(Qe6 s).p
def Z6z:LInv:={
 α:=(Int)×(Int)
 F:=λst a=>([(0,(lk st 0)),(4, .int i64 a.1),(5, .int i64 a.2)],[])
 a0:=λst=>((lk st 4).toInt,(lk st 5).toInt)
 ex0:=λst=>[]++[]}
def Z5v:LInv:={
 α:=(Int)×(Int)
 F:=λst a=>([(0,(lk st 0)),(6,(lk st 6)),(7, .int i64 a.1),(8, .int i64 a.2)],[])
 a0:=λst=>((lk st 7).toInt,(lk st 8).toInt)
 ex0:=λst=>[]++[]}
def Qzj:List (Nat×LInv):=[(6,Z6z),(21,Z5v)]
def Zbf:Q0d:=mT 285 [] true [.one (.str)] [] (λa r=>Qe6 (argS a 0)) (λX=> .tup [.int .i64 (X.1), .bool (X.2)]) (λX=>[])
theorem Z6:Q06 pG Zbf:=oT (.cons Qtt (.nil)) Tryz.func285 Tryz.call285 [] Qzj 3
def Qt8(l:List Q0k)(p:List UInt8)(z:(Int)×(List Q0z)):Nat:=(l.length-z.1).toNat
def Qbt(l:List Q0k)(p:List UInt8):Tree ((List Q0z)×Bool):=
.br ((l.length:Int) !=(p.length:Int)) (.lf ([],false)) (.lp inferInstance (Qt8 l p (0,[])+1) ((nR RK.vmfleetref1Token 3 l/\rE (p:List UInt8)/\True/\rE (0:Int)/\True)/\rE ([]:List (RK.T RK.vmfleetref1Arg))/\True) (0,[]) λ(v0:Int×List Q0z)=> .br (decide (v0.1<(l.length:Int))) (.cn (bS 3 3&&bT 0 3&&decide (0<=v0.1/\v0.1<(l.length:Int))) (let E6:=decide (0<=v0.1/\v0.1<(p.length:Int)); .cn E6 (let E3:=l.getD v0.1.toNat (RK.dflt RK.vmfleetref1Token);let E4:=(↑(eU (p.getD v0.1.toNat (0:UInt8))):Int);let E5:=decide (32*(v0.2.length+1)<=140737488355328); .br (E4==(114:Int)) (.lv (Qiw E3.D4) λ(x0:Int×Bool)=> .br (E3.kind !=1) (.lf (Sum.inr ([],false))) (.br (!x0.2) (.lf (Sum.inr ([],false))) (.cn E5 (.nx ((nR RK.vmfleetref1Token 3 l/\rE (p:List UInt8)/\True/\rE ((wrap i64 (v0.1+1)):Int)/\True)/\rE ((v0.2++[{reg:=x0.1,num:=0,label:=[]}]):List (RK.T RK.vmfleetref1Arg))/\True) (Sum.inl (wrap i64 (v0.1+1),v0.2++[{reg:=x0.1,num:=0,label:=[]}])))))) (let T1:Tree ((Int×List Q0z)⊕(((List Q0z)×Bool))):= .an (Qib E3.D4) (.lv (Z3p E3.D4) λ(x2:Int×Bool)=> .br (E3.kind !=2) (.lf (Sum.inr ([],false))) (.br (!x2.2) (.lf (Sum.inr ([],false))) (.cn E5 (.nx ((nR RK.vmfleetref1Token 3 l/\rE (p:List UInt8)/\True/\rE ((wrap i64 (v0.1+1)):Int)/\True)/\rE ((v0.2++[{reg:=0,num:=x2.1,label:=[]}]):List (RK.T RK.vmfleetref1Arg))/\True) (Sum.inl (wrap i64 (v0.1+1),v0.2++[{reg:=0,num:=x2.1,label:=[]}]))))));let T2:Tree ((Int×List Q0z)⊕(((List Q0z)×Bool))):= .cn E6 (.br (E4==(120:Int)) (.br (E3.kind==1) (.an (Qhd E3.D4) (.lv (Z4n E3.D4) λ(x1:Bool)=> .br x1 (.cn E5 (.nx ((nR RK.vmfleetref1Token 3 l/\rE (p:List UInt8)/\True/\rE ((wrap i64 (v0.1+1)):Int)/\True)/\rE ((v0.2++[{reg:=0,num:=0,label:=(l.getD v0.1.toNat (RK.dflt RK.vmfleetref1Token)).D4}]):List (RK.T RK.vmfleetref1Arg))/\True) (Sum.inl (wrap i64 (v0.1+1),v0.2++[{reg:=0,num:=0,label:=E3.D4}])))) T1)) T1) T1); .br (E4==(110:Int)) T2 (.br (E4==(120:Int)) T2 (.br (E3.kind !=3) (.lf (Sum.inr ([],false))) (.cn (decide (0<=v0.1/\v0.1<=wrap i64 (v0.1+1)/\wrap i64 (v0.1+1)<=(p.length:Int))) (.br (!decide (E3.D4=cY (dC (wrap i64 (v0.1+1))-dC v0.1) (cZ v0.1.toNat p))) (.lf (Sum.inr ([],false))) (.nx ((nR RK.vmfleetref1Token 3 l/\rE (p:List UInt8)/\True/\rE ((wrap i64 (v0.1+1)):Int)/\True)/\rE v0.2/\True) (Sum.inl (wrap i64 (v0.1+1),v0.2))))))))))) (.lf (Sum.inr (v0.2,true))))
def Qfs l p:=(Qbt l p).m
abbrev Q6e l p:=(Qbt l p).p
def Z4d:LInv:={
 α:=(Int)×(List Q0z)
 F:=λst a=>([(0,(lk st 0)),(1,(lk st 1)),(6, .all 0),(7, .int i64 a.1)],[⟨false,183,3, .recs RK.vmfleetref1Arg a.2⟩])
 a0:=λst=>((lk st 7).toInt,(Q5f RK.vmfleetref1Arg st.rows (rN st 6)))
 ex0:=λst=>[]++[(rX st 6 0)]}
def Qve:List (Nat×LInv):=[(5,Z4d)]
def Z5f:Q0d:=mT 249 [] true [.one (.recs .vmfleetref1Token), .one (.str)] [] (λa r=>Qbt (argR .vmfleetref1Token a 0) (argS a 1)) (λX=> .tup [.all 0, .bool (X.2)]) (λX=>[⟨false,183,3, .recs .vmfleetref1Arg (X.1)⟩])
theorem Z1g:Q06 pG Z5f:=oT (.cons Qkb (.cons Qxr (.cons Z6 (.nil)))) Tryz.func249 Tryz.call249 [.row 183 3 (.recs .vmfleetref1Arg)] Qve 3
def Qvr(s:List UInt8)(z:(List UInt8)×(Int)):Nat:=(s.length-z.2).toNat
def Qdp(s:List UInt8):Tree ((List UInt8)×Q0b×Bool):=
.lp inferInstance (Qvr s (s,0)+1) ((rE (s:List UInt8)/\rE ([]:List UInt8)/\rZ/\rE (false:Bool)/\rE (0:Int)/\True)/\(rE ([]:List UInt8)/\rE (0:Int)/\True/\rE (0:Int)/\rE (0:Int)/\rE (0:Int)/\True)/\True) (s,0) λ(v0:List UInt8×Int)=> .br (decide (v0.2<(v0.1.length:Int))) (.cn (decide (0<=v0.2/\v0.2<(v0.1.length:Int))) (.br ((↑(eU (v0.1.getD v0.2.toNat (0:UInt8))):Int)==(59:Int)) (.cn (decide ((0:Int)<=(0:Int)/\0<=v0.2/\v0.2<=(v0.1.length:Int))) (.nx ((rE ((cY (dC v0.2-dC 0) (cZ (dC 0) v0.1)):List UInt8)/\rE ([]:List UInt8)/\rZ/\rE (false:Bool)/\rE ((wrap i64 (v0.2+1)):Int)/\True)/\(rE ([]:List UInt8)/\rE (0:Int)/\True/\rE (0:Int)/\rE (0:Int)/\rE (0:Int)/\True)/\True) (Sum.inl (cY (dC v0.2-dC 0) (cZ (dC 0) v0.1),wrap i64 (v0.2+1))))) (.nx ((rE v0.1/\rE ([]:List UInt8)/\rZ/\rE (false:Bool)/\rE ((wrap i64 (v0.2+1)):Int)/\True)/\(rE ([]:List UInt8)/\rE (0:Int)/\True/\rE (0:Int)/\rE (0:Int)/\rE (0:Int)/\True)/\True) (Sum.inl (v0.1,wrap i64 (v0.2+1)))))) (.an (Qi6 v0.1) (.lv (Z3c v0.1) λ(x0:List Q0k×Bool)=> .br (!x0.2) (.lf (Sum.inr ([],{what:=[],op:=0,l:=[],D7:=0,at_:=0,size:=0},false))) (let E9:=x0.1.getD (dC 0) (RK.dflt RK.vmfleetref1Token);let T1:Tree ((List UInt8×Int)⊕(((List UInt8)×Q0b×Bool))):= .an (Q69 E9.D4) (.lv (Qg5 E9.D4) λ(x27:List UInt8×Bool)=> .br (!x27.2) (.lf (Sum.inr ([],{what:=[],op:=0,l:=[],D7:=0,at_:=0,size:=0},false))) (let E20:=dC (x0.1.length:Int)-dC 1;let T6:Tree ((List UInt8×Int)⊕(((List UInt8)×Q0b×Bool))):=let E31:=cY E20 (cZ (dC 1) x0.1); .an (Q6e E31 x27.1) (.lv (Qfs E31 x27.1) λ(x28:List Q0z×Bool)=> .br (!x28.2) (.lf (Sum.inr ([],{what:=[],op:=0,l:=[],D7:=0,at_:=0,size:=0},false))) (.an (Q3c E9.D4) (.lv (Q8p E9.D4) λ(x29:Int)=> .br (decide (E9.D4=[(108:UInt8),105])) (.lf (Sum.inr ([],{what:=E9.D4,op:=x29,l:=x28.1,D7:=0,at_:=0,size:=2},true))) (.br (decide (E9.D4=[(46:UInt8),115,112,97,99,101])) (let E13:=bS 3 3&&bT 0 3&&decide ((0:Int)<=(0:Int)/\0<(x28.1.length:Int)); .cn E13 (let E21:=x28.1.getD (dC 0) (RK.dflt RK.vmfleetref1Arg); .br (decide (E21.num<0)) (.lf (Sum.inr ([],{what:=[],op:=0,l:=[],D7:=0,at_:=0,size:=0},false))) (.cn E13 (.br (decide (E21.num>1024)) (.lf (Sum.inr ([],{what:=[],op:=0,l:=[],D7:=0,at_:=0,size:=0},false))) (.cn E13 (.lf (Sum.inr ([],{what:=E9.D4,op:=x29,l:=x28.1,D7:=0,at_:=0,size:=E21.num},true)))))))) (.lf (Sum.inr ([],{what:=E9.D4,op:=x29,l:=x28.1,D7:=0,at_:=0,size:=1},true))))))); .br (decide ((↑E20:Int)>(0:Int))) (.cn (bS 3 3&&bT 0 3&&decide ((0:Int)<=(0:Int)/\0<(↑E20:Int))) (.br (!(x0.1.getD (dC 1+dC 0) (RK.dflt RK.vmfleetref1Token)).gap) (.lf (Sum.inr ([],{what:=[],op:=0,l:=[],D7:=0,at_:=0,size:=0},false))) T6)) T6));let E25:=dC (x0.1.length:Int)-dC 2;let E8:=(↑E25:Int);let E10:=x0.1.getD (dC 2+dC 0) (RK.dflt RK.vmfleetref1Token);let E12:=x0.1.getD (dC 1) (RK.dflt RK.vmfleetref1Token);let E16:=bS 3 3&&bT 0 3&&decide ((0:Int)<=(0:Int)/\0<(x0.1.length:Int));let E17:=bS 3 3&&bT 0 3&&decide ((0:Int)<=(1:Int)/\1<(x0.1.length:Int));let E19:=bS 3 3&&bT 0 3&&decide ((0:Int)<=(2:Int)/\2<=(x0.1.length:Int)/\(x0.1.length:Int)<=(x0.1.length:Int));let E28:=bS 3 3&&bT 0 3&&decide ((0:Int)<=(0:Int)/\0<E8);let E30:=decide ((x0.1.length:Int)>=(2:Int));let T3:Tree ((List UInt8×Int)⊕(((List UInt8)×Q0b×Bool))):= .br ((x0.1.length:Int)==(0:Int)) (.lf (Sum.inr ([],{what:=[],op:=0,l:=[],D7:=0,at_:=0,size:=0},true))) (.cn E16 (.cn (bS 3 3&&bT 0 3&&decide ((0:Int)<=(1:Int)/\1<=(x0.1.length:Int)/\(x0.1.length:Int)<=(x0.1.length:Int))) (.br (decide (E9.D4=[(46:UInt8)])) (.br E30 (.cn E17 (.br (!E12.gap) (.cn E17 (.cn (decide (1+dH E12.D4<=maxLen)) (.cn E19 (.an (Q69 ((46:UInt8)::E12.D4)) (.lv (Qg5 ([(46:UInt8)]++E12.D4)) λ(x22:List UInt8×Bool)=> .br (!x22.2) (.lf (Sum.inr ([],{what:=[],op:=0,l:=[],D7:=0,at_:=0,size:=0},false))) (let T7:Tree ((List UInt8×Int)⊕(((List UInt8)×Q0b×Bool))):=let E32:=cY E25 (cZ (dC 2) x0.1); .an (Q6e E32 x22.1) (.lv (Qfs E32 x22.1) λ(x23:List Q0z×Bool)=> .br (!x23.2) (.lf (Sum.inr ([],{what:=[],op:=0,l:=[],D7:=0,at_:=0,size:=0},false))) (.an (Q3c ((46:UInt8)::E12.D4)) (.lv (Q8p ([(46:UInt8)]++E12.D4)) λ(x24:Int)=> .br (decide ([(46:UInt8)]++E12.D4=[(46:UInt8),115,112,97,99,101])) (let E14:=bS 3 3&&bT 0 3&&decide ((0:Int)<=(0:Int)/\0<(x23.1.length:Int)); .cn E14 (let E22:=x23.1.getD (dC 0) (RK.dflt RK.vmfleetref1Arg); .br (decide (E22.num<0)) (.lf (Sum.inr ([],{what:=[],op:=0,l:=[],D7:=0,at_:=0,size:=0},false))) (.cn E14 (.br (decide (E22.num>1024)) (.lf (Sum.inr ([],{what:=[],op:=0,l:=[],D7:=0,at_:=0,size:=0},false))) (.cn E14 (.lf (Sum.inr ([],{what:=(46:UInt8)::E12.D4,op:=x24,l:=x23.1,D7:=0,at_:=0,size:=E22.num},true)))))))) (.lf (Sum.inr ([],{what:=(46:UInt8)::E12.D4,op:=x24,l:=x23.1,D7:=0,at_:=0,size:=1},true)))))); .br (decide (E8>(0:Int))) (.cn E28 (.br (!E10.gap) (.lf (Sum.inr ([],{what:=[],op:=0,l:=[],D7:=0,at_:=0,size:=0},false))) T7)) T7)))))) T1)) T1) T1))); .br E30 (.cn E17 (.br (decide (E12.D4=[(58:UInt8)])) (.cn E16 (.cn E16 (.br (E9.kind !=1) (.lf (Sum.inr ([],{what:=[],op:=0,l:=[],D7:=0,at_:=0,size:=0},false))) (.an (Qhd E9.D4) (.lv (Z4n E9.D4) λ(x1:Bool)=> .br (!x1) (.lf (Sum.inr ([],{what:=[],op:=0,l:=[],D7:=0,at_:=0,size:=0},false))) (.cn E19 (.br (E8==(0:Int)) (.lf (Sum.inr (E9.D4,{what:=[],op:=0,l:=[],D7:=0,at_:=0,size:=0},true))) (.cn E28 (.cn (bS 3 3&&bT 0 3&&decide ((0:Int)<=(1:Int)/\1<=E8/\E8<=E8)) (let T2:Tree ((List UInt8×Int)⊕(((List UInt8)×Q0b×Bool))):= .an (Q69 E10.D4) (.lv (Qg5 E10.D4) λ(x7:List UInt8×Bool)=> .br (!x7.2) (.lf (Sum.inr ([],{what:=[],op:=0,l:=[],D7:=0,at_:=0,size:=0},false))) (let T4:Tree ((List UInt8×Int)⊕(((List UInt8)×Q0b×Bool))):=let E26:=cY (dC E8-dC 1) (cZ (dC 2+dC 1) x0.1); .an (Q6e E26 x7.1) (.lv (Qfs E26 x7.1) λ(x8:List Q0z×Bool)=> .br (!x8.2) (.lf (Sum.inr ([],{what:=[],op:=0,l:=[],D7:=0,at_:=0,size:=0},false))) (.an (Q3c E10.D4) (.lv (Q8p E10.D4) λ(x9:Int)=> .br (decide (E10.D4=[(108:UInt8),105])) (.lf (Sum.inr (E9.D4,{what:=E10.D4,op:=x9,l:=x8.1,D7:=0,at_:=0,size:=2},true))) (.br (decide (E10.D4=[(46:UInt8),115,112,97,99,101])) (let E15:=bS 3 3&&bT 0 3&&decide ((0:Int)<=(0:Int)/\0<(x8.1.length:Int)); .cn E15 (let E23:=x8.1.getD (dC 0) (RK.dflt RK.vmfleetref1Arg); .br (decide (E23.num<0)) (.lf (Sum.inr ([],{what:=[],op:=0,l:=[],D7:=0,at_:=0,size:=0},false))) (.cn E15 (.br (decide (E23.num>1024)) (.lf (Sum.inr ([],{what:=[],op:=0,l:=[],D7:=0,at_:=0,size:=0},false))) (.cn E15 (.lf (Sum.inr (E9.D4,{what:=E10.D4,op:=x9,l:=x8.1,D7:=0,at_:=0,size:=E23.num},true)))))))) (.lf (Sum.inr (E9.D4,{what:=E10.D4,op:=x9,l:=x8.1,D7:=0,at_:=0,size:=1},true))))))); .br (decide ((↑(dC E8-dC 1):Int)>(0:Int))) (.cn (bS 3 3&&bT 0 3&&decide ((0:Int)<=(0:Int)/\0<(↑(dC E8-dC 1):Int))) (.br (!(x0.1.getD (dC 2+dC 1+dC 0) (RK.dflt RK.vmfleetref1Token)).gap) (.lf (Sum.inr ([],{what:=[],op:=0,l:=[],D7:=0,at_:=0,size:=0},false))) T4)) T4)); .br (decide (E10.D4=[(46:UInt8)])) (.br (decide (E8>=(2:Int))) (let E29:=bS 3 3&&bT 0 3&&decide ((0:Int)<=(1:Int)/\1<E8); .cn E29 (let E11:=x0.1.getD (dC 2+dC 1) (RK.dflt RK.vmfleetref1Token); .br (!E11.gap) (.cn E29 (.cn (decide (1+dH E11.D4<=maxLen)) (.cn (bS 3 3&&bT 0 3&&decide ((0:Int)<=(2:Int)/\2<=E8/\E8<=E8)) (.an (Q69 ((46:UInt8)::E11.D4)) (.lv (Qg5 ([(46:UInt8)]++E11.D4)) λ(x2:List UInt8×Bool)=> .br (!x2.2) (.lf (Sum.inr ([],{what:=[],op:=0,l:=[],D7:=0,at_:=0,size:=0},false))) (let T5:Tree ((List UInt8×Int)⊕(((List UInt8)×Q0b×Bool))):=let E27:=cY (dC E8-dC 2) (cZ (dC 2+dC 2) x0.1); .an (Q6e E27 x2.1) (.lv (Qfs E27 x2.1) λ(x3:List Q0z×Bool)=> .br (!x3.2) (.lf (Sum.inr ([],{what:=[],op:=0,l:=[],D7:=0,at_:=0,size:=0},false))) (.an (Q3c ((46:UInt8)::E11.D4)) (.lv (Q8p ([(46:UInt8)]++E11.D4)) λ(x4:Int)=> .br (decide ([(46:UInt8)]++E11.D4=[(46:UInt8),115,112,97,99,101])) (let E18:=bS 3 3&&bT 0 3&&decide ((0:Int)<=(0:Int)/\0<(x3.1.length:Int)); .cn E18 (let E24:=x3.1.getD (dC 0) (RK.dflt RK.vmfleetref1Arg); .br (decide (E24.num<0)) (.lf (Sum.inr ([],{what:=[],op:=0,l:=[],D7:=0,at_:=0,size:=0},false))) (.cn E18 (.br (decide (E24.num>1024)) (.lf (Sum.inr ([],{what:=[],op:=0,l:=[],D7:=0,at_:=0,size:=0},false))) (.cn E18 (.lf (Sum.inr (E9.D4,{what:=(46:UInt8)::E11.D4,op:=x4,l:=x3.1,D7:=0,at_:=0,size:=E24.num},true)))))))) (.lf (Sum.inr (E9.D4,{what:=(46:UInt8)::E11.D4,op:=x4,l:=x3.1,D7:=0,at_:=0,size:=1},true)))))); .br (decide ((↑(dC E8-dC 2):Int)>(0:Int))) (.cn (bS 3 3&&bT 0 3&&decide ((0:Int)<=(0:Int)/\0<(↑(dC E8-dC 2):Int))) (.br (!(x0.1.getD (dC 2+dC 2+dC 0) (RK.dflt RK.vmfleetref1Token)).gap) (.lf (Sum.inr ([],{what:=[],op:=0,l:=[],D7:=0,at_:=0,size:=0},false))) T5)) T5)))))) T2)) T2) T2)))))))))) T3)) T3)))
def Z30 s:=(Qdp s).m
abbrev Qja s:=(Qdp s).p
def Z6u:LInv:={
 α:=(List UInt8)×(Int)
 F:=λst a=>([(0, .str a.1),(2,(lk st 2)),(3, .ptr 0 0 0),(4,(lk st 4)),(5, .int i64 a.2)],[⟨true,181,6, .gen [[(cT st 3 0),(cT st 3 1),(cT st 3 2),(cT st 3 3),(cT st 3 4),(cT st 3 5)]]⟩])
 a0:=λst=>((lk st 0).toStr,(lk st 5).toInt)
 ex0:=λst=>[]++[(rX st 3 0)]}
def Qzo:List (Nat×LInv):=[(2,Z6u)]
def Z9w:Q0d:=mT 190 [] false [.one (.str)] [] (λa r=>Qdp (argS a 0)) (λX=> .tup [.str (X.1), .agg (Q0b.cells (X.2.1)), .bool (X.2.2)]) (λX=>[])
theorem Z6q:Q06 pG Z9w:=oT (.cons Z6t (.cons Qxr (.cons Z1x (.cons Z1g (.cons Ql4 (.nil)))))) Tryz.func190 Tryz.call190 [.sl (.recs .vmfleetref1Arg) false] Qzo 3 (hff:=nofun)
def Ql8(l:List Q26)(label:List UInt8)(z:(Int)):Prop:=0<=z/\z<=l.length
def Qdt(l:List Q26)(label:List UInt8)(z:(Int)):Nat:=(l.length-z).toNat
def Qfl(l:List Q26)(label:List UInt8):Tree (Int×Bool):=
.lp inferInstance (Qdt l label 0+1) ((nR RK.apiSymbol 2 l/\rE (label:List UInt8)/\rE (0:Int)/\True)/\True) 0 λ(v0:Int)=> .br (decide (v0<(l.length:Int))) (let E1:=bS 2 2&&bT 0 2&&decide (0<=v0/\v0<(l.length:Int)); .cn E1 (let E2:=l.getD v0.toNat (RK.dflt RK.apiSymbol); .br (decide (E2.Name=label)) (.cn E1 (.lf (Sum.inr (E2.Addr,true)))) (.nx ((nR RK.apiSymbol 2 l/\rE (label:List UInt8)/\rE ((wrap i64 (v0+1)):Int)/\True)/\True) (Sum.inl (wrap i64 (v0+1)))))) (.lf (Sum.inr (0,false)))
def Qov l label:=(Qfl l label).m
def Q3m(l:List Q26)(label:List UInt8):Prop:=
l.length<=1000000000000
theorem Qzp(l:List Q26)(label:List UInt8)(hw:Q3m l label):(Qfl l label).p:=by
 simp only[Q3m]at hw
 unfold Tree.p Qfl
 repeat'(first|refine w_lp (inv:=Ql8 l label) (μ:=Qdt l label) ?_ (cK _) (λ_ _=> ?_)|exact trivial|refine w_br (λ_=> ?_) (λ_=> ?_)|refine w_cn ?_ ?_|refine w_an ?_ ?_|refine w_lv (λ_ _=> ?_)|refine w_nx ?_|refine w_lf ?_|refine And.intro ?_ ?_)
 all_goals((try simp only[Ql8,Qdt]at*);exact fin0)
def Z4m:LInv:={
 α:=(Int)
 F:=λst a=>([(0,(lk st 0)),(1,(lk st 1)),(6, .int i64 a)],[])
 a0:=λst=>(lk st 6).toInt
 ex0:=λst=>[]++[]}
def Qxb:List (Nat×LInv):=[(2,Z4m)]
def Z6j:Q0d:=mkP 125 [] true [.one (.recs .apiSymbol), .one (.str)] [] (λa r=>Q3m (argR .apiSymbol a 0) (argS a 1)) (λa r=>Qov (argR .apiSymbol a 0) (argS a 1)) (λX=> .tup [.int .u32 (X.1), .bool (X.2)]) (λX=>[])
theorem Qp1:Q06 pG Z6j:=Q0q drawn Q0m (.nil) Tryz.func125 Tryz.call125 (λa r=>Qfl (argR .apiSymbol a 0) (argS a 1)) [] Qxb 3 (hp:=λa r h=>Qzp (argR .apiSymbol a 0) (argS a 1) h)
def Z1r(src:List UInt8)(z:(Int)×(Int)×(List Q26)×(List Q0b)):Nat:=((Qvd src).length-z.2.1).toNat
def Qi1(src:List UInt8):Tree ((List Q26)×(List Q0b)×Q1k):=
.br (decide ((src.length:Int)>(8192:Int))) (.lf ([],[],{Err:=300,Line:=0})) (.an (Qki src) (.lv (Qvd src) λ(x0:List (List UInt8))=> .lp inferInstance (Z1r src (0,0,[],[])+1) ((rZ/\True/\True/\rE (0:Int)/\True/\rE (0:Int)/\True)/\(rE (0:Int)/\rE (0:Int)/\True)/\rE (x0:List (RK.T RK.str))/\rE ([]:List (RK.T RK.apiSymbol))/\rE ([]:List (RK.T RK.vmfleetref1Statement))/\True) (0,0,[],[]) λ(v0:Int×Int×List Q26×List Q0b)=> .br (decide (v0.2.1<(x0.length:Int))) (.cn (bS 1 1&&bT 0 1&&decide (0<=v0.2.1/\v0.2.1<(x0.length:Int))) (let E3:=x0.getD v0.2.1.toNat (RK.dflt RK.str); .an (Qja E3) (.lv (Z30 E3) λ(x1:List UInt8×Q0b×Bool)=> .br (!x1.2.2) (.lf (Sum.inr ([],[],{Err:=301,Line:=wrap i64 (v0.2.1+1)}))) (let E1:=({Err:=305,Line:=wrap i64 (v0.2.1+1)}:Q1k);let E2:=decide (72*(v0.2.2.2.length+1)<=140737488355328);let E4:=decide (wrap i64 (v0.1+x1.2.1.size)>1024); .br (!decide (x1.1=[])) (.an (Q3m v0.2.2.1 x1.1) (.lv (Qov v0.2.2.1 x1.1) λ(x2:Int×Bool)=> .br x2.2 (.lf (Sum.inr ([],[],{Err:=303,Line:=wrap i64 (v0.2.1+1)}))) (.cn (decide (24*(v0.2.2.1.length+1)<=140737488355328)) (let E5:=({Name:=x1.1,Addr:=wrap u32 (wrap i64 (4*v0.1))}:Q26); .br (!decide (x1.2.1.what=[])) (.cn E2 (.br E4 (.lf (Sum.inr ([],[],E1))) (.nx ((rZ/\True/\True/\rE ((wrap i64 (v0.1+x1.2.1.size)):Int)/\True/\rE ((wrap i64 (v0.2.1+1)):Int)/\True)/\(rE (0:Int)/\rE (0:Int)/\True)/\rE (x0:List (RK.T RK.str))/\rE ((v0.2.2.1++[{Name:=x1.1,Addr:=wrap u32 (wrap i64 (4*v0.1))}]):List (RK.T RK.apiSymbol))/\rE ((v0.2.2.2++[{what:=x1.2.1.what,op:=x1.2.1.op,l:=x1.2.1.l,D7:=wrap i64 (v0.2.1+1),at_:=v0.1,size:=x1.2.1.size}]):List (RK.T RK.vmfleetref1Statement))/\True) (Sum.inl (wrap i64 (v0.1+x1.2.1.size),wrap i64 (v0.2.1+1),v0.2.2.1++[E5],v0.2.2.2++[{what:=x1.2.1.what,op:=x1.2.1.op,l:=x1.2.1.l,D7:=wrap i64 (v0.2.1+1),at_:=v0.1,size:=x1.2.1.size}]))))) (.br (decide (v0.1>1024)) (.lf (Sum.inr ([],[],E1))) (.nx ((rZ/\True/\True/\rE v0.1/\True/\rE ((wrap i64 (v0.2.1+1)):Int)/\True)/\(rE (0:Int)/\rE (0:Int)/\True)/\rE (x0:List (RK.T RK.str))/\rE ((v0.2.2.1++[{Name:=x1.1,Addr:=wrap u32 (wrap i64 (4*v0.1))}]):List (RK.T RK.apiSymbol))/\rE v0.2.2.2/\True) (Sum.inl (v0.1,wrap i64 (v0.2.1+1),v0.2.2.1++[E5],v0.2.2.2)))))))) (.br (!decide (x1.2.1.what=[])) (.cn E2 (.br E4 (.lf (Sum.inr ([],[],E1))) (.nx ((rZ/\True/\True/\rE ((wrap i64 (v0.1+x1.2.1.size)):Int)/\True/\rE ((wrap i64 (v0.2.1+1)):Int)/\True)/\(rE (0:Int)/\rE (0:Int)/\True)/\rE (x0:List (RK.T RK.str))/\rE v0.2.2.1/\rE ((v0.2.2.2++[{what:=x1.2.1.what,op:=x1.2.1.op,l:=x1.2.1.l,D7:=wrap i64 (v0.2.1+1),at_:=v0.1,size:=x1.2.1.size}]):List (RK.T RK.vmfleetref1Statement))/\True) (Sum.inl (wrap i64 (v0.1+x1.2.1.size),wrap i64 (v0.2.1+1),v0.2.2.1,v0.2.2.2++[{what:=x1.2.1.what,op:=x1.2.1.op,l:=x1.2.1.l,D7:=wrap i64 (v0.2.1+1),at_:=v0.1,size:=x1.2.1.size}]))))) (.br (decide (v0.1>1024)) (.lf (Sum.inr ([],[],E1))) (.nx ((rZ/\True/\True/\rE v0.1/\True/\rE ((wrap i64 (v0.2.1+1)):Int)/\True)/\(rE (0:Int)/\rE (0:Int)/\True)/\rE (x0:List (RK.T RK.str))/\rE v0.2.2.1/\rE v0.2.2.2/\True) (Sum.inl (v0.1,wrap i64 (v0.2.1+1),v0.2.2.1,v0.2.2.2))))))))) (.lf (Sum.inr (v0.2.2.1,v0.2.2.2,{Err:=0,Line:=0})))))
def Z4h src:=(Qi1 src).m
abbrev Qm5 src:=(Qi1 src).p
def Zec:LInv:={
 α:=(Int)×(Int)×(List Q26)×(List Q0b)
 F:=λst a=>([(4, .ptr 0 0 0),(5, .all 2),(6, .all 3),(7, .int i64 a.1),(8, .all 1),(9, .int i64 a.2.1)],[⟨true,59,2, .gen [[(cT st 4 0),(cT st 4 1)]]⟩,⟨false,9,1,esOf st.rows (rN st 8)⟩,⟨false,257,2, .recs RK.apiSymbol a.2.2.1⟩,⟨false,181,6, .recs RK.vmfleetref1Statement a.2.2.2⟩])
 a0:=λst=>((lk st 7).toInt,(lk st 9).toInt,(Q5f RK.apiSymbol st.rows (rN st 5)),(Q5f RK.vmfleetref1Statement st.rows (rN st 6)))
 ex0:=λst=>[]++[(rX st 4 0),(rX st 8 1),(rX st 5 2),(rX st 6 3)]}
def Z59:List (Nat×LInv):=[(8,Zec)]
def Zjx:Q0d:=mT 124 [] false [.one (.str)] [] (λa r=>Qi1 (argS a 0)) (λX=> .tup [.all 0, .all 1, .agg (Q1k.cells (X.2.2))]) (λX=>[⟨false,257,2, .recs .apiSymbol (X.1)⟩,⟨false,181,6, .recs .vmfleetref1Statement (X.2.1)⟩])
theorem Zex:Q06 pG Zjx:=oT (.cons Zcl (.cons Z6q (.cons Qp1 (.nil)))) Tryz.func124 Tryz.call124 [.row 257 2 (.recs .apiSymbol), .row 181 6 (.recs .vmfleetref1Statement)] Z59 3 (hff:=nofun)
def Qis(st:Q0b)(v:Int):Tree (Int×Bool):=
.lv (Q2h st.op) λ(x0:Int)=> .lv (Qm9 x0) λ(x1:Int×Int)=>let E7:=st.l.getD (dC 0) (RK.dflt RK.vmfleetref1Arg);let E8:=st.l.getD (dC 1) (RK.dflt RK.vmfleetref1Arg);let E9:=bS 3 3&&bT 0 3&&decide ((0:Int)<=(0:Int)/\0<(st.l.length:Int));let E10:=bS 3 3&&bT 0 3&&decide ((0:Int)<=(1:Int)/\1<(st.l.length:Int));let E11:=st.l.getD (dC 2) (RK.dflt RK.vmfleetref1Arg);let E12:=bS 3 3&&bT 0 3&&decide ((0:Int)<=(2:Int)/\2<(st.l.length:Int)); .br (x0==2) (.cn E9 (.cn E10 (.cn E12 (let T2:Tree ((Int×Bool)):= .br (decide (0<x1.1)) (.lf (0,false)) (.br (decide (0>x1.2)) (.lf (0,false)) (.lv (Q1n {Op:=st.op,A:=E7.reg,B:=E8.reg,C:=E11.reg,Imm:=wrap i32 0}) λ(x2:Int×Bool)=> .lf (x2.1,x2.2))); .br (x0==2) T2 (.br (x0==1) T2 (.br (decide (v<x1.1)) (.lf (0,false)) (.br (decide (v>x1.2)) (.lf (0,false)) (.lv (Q1n {Op:=st.op,A:=E7.reg,B:=E8.reg,C:=E11.reg,Imm:=wrap i32 v}) λ(x4:Int×Bool)=> .lf (x4.1,x4.2))))))))) (let T1:Tree ((Int×Bool)):= .br (decide (x0>=6)) (.cn E9 (let T5:Tree ((Int×Bool)):= .br (decide (0<x1.1)) (.lf (0,false)) (.br (decide (0>x1.2)) (.lf (0,false)) (.lv (Q1n {Op:=st.op,A:=E7.reg,B:=0,C:=0,Imm:=wrap i32 0}) λ(x8:Int×Bool)=> .lf (x8.1,x8.2))); .br (x0==2) T5 (.br (x0==1) T5 (.br (decide (v<x1.1)) (.lf (0,false)) (.br (decide (v>x1.2)) (.lf (0,false)) (.lv (Q1n {Op:=st.op,A:=E7.reg,B:=0,C:=0,Imm:=wrap i32 v}) λ(x10:Int×Bool)=> .lf (x10.1,x10.2))))))) (.br (x0 !=1) (.cn E9 (.cn E10 (let T3:Tree ((Int×Bool)):= .br (decide (0<x1.1)) (.lf (0,false)) (.br (decide (0>x1.2)) (.lf (0,false)) (.lv (Q1n {Op:=st.op,A:=E7.reg,B:=E8.reg,C:=0,Imm:=wrap i32 0}) λ(x11:Int×Bool)=> .lf (x11.1,x11.2))); .br (x0==2) T3 (.br (x0==1) T3 (.br (decide (v<x1.1)) (.lf (0,false)) (.br (decide (v>x1.2)) (.lf (0,false)) (.lv (Q1n {Op:=st.op,A:=E7.reg,B:=E8.reg,C:=0,Imm:=wrap i32 v}) λ(x13:Int×Bool)=> .lf (x13.1,x13.2)))))))) (let T6:Tree ((Int×Bool)):= .br (decide (0<x1.1)) (.lf (0,false)) (.br (decide (0>x1.2)) (.lf (0,false)) (.lv (Q1n {Op:=st.op,A:=0,B:=0,C:=0,Imm:=wrap i32 0}) λ(x14:Int×Bool)=> .lf (x14.1,x14.2))); .br (x0==2) T6 (.br (x0==1) T6 (.br (decide (v<x1.1)) (.lf (0,false)) (.br (decide (v>x1.2)) (.lf (0,false)) (.lv (Q1n {Op:=st.op,A:=0,B:=0,C:=0,Imm:=wrap i32 v}) λ(x16:Int×Bool)=> .lf (x16.1,x16.2))))))); .br (decide (st.op>=32)) (.br (decide (st.op<=36)) (.cn E9 (.cn E12 (.cn E10 (let T4:Tree ((Int×Bool)):= .br (decide (0<x1.1)) (.lf (0,false)) (.br (decide (0>x1.2)) (.lf (0,false)) (.lv (Q1n {Op:=st.op,A:=E7.reg,B:=E11.reg,C:=0,Imm:=wrap i32 0}) λ(x5:Int×Bool)=> .lf (x5.1,x5.2))); .br (x0==2) T4 (.br (x0==1) T4 (.br (decide (E8.num<x1.1)) (.lf (0,false)) (.br (decide (E8.num>x1.2)) (.lf (0,false)) (.lv (Q1n {Op:=st.op,A:=E7.reg,B:=E11.reg,C:=0,Imm:=wrap i32 E8.num}) λ(x7:Int×Bool)=> .lf (x7.1,x7.2))))))))) T1) T1)
def Qof st v:=(Qis st v).m
abbrev Qal st v:=(Qis st v).p
def Zi0:Q0d:=mT 126 [] true [.agg Q0b.sig, .one (.int .i64)] [] (λa r=>Qis (Q0b.of (aC a 0)) (argI a 1)) (λX=> .tup [.int .u32 (X.1), .bool (X.2)]) (λX=>[])
theorem Zen:Q06 pG Zi0:=oT (.cons Qfv (.cons Qqr (.cons Qkt (.nil)))) Tryz.func126 Tryz.call126 [] [] 2

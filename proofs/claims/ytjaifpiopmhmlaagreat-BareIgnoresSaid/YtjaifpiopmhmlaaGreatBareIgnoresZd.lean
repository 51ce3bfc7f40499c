/-
  Functions of the program: models, and that its calls come to them (by a program: gen3.py).
-/
import Derived.Test.YtjaifpiopmhmlaaGreatBareIgnoresBase
import Derived.Test.YtjaifpiopmhmlaaGreatBareIgnoresHand
import Derived.Test.YtjaifpiopmhmlaaGreatBareIgnoresYe
set_option maxRecDepth 100000
set_option linter.all false
namespace Go.Proofs.YtjaifpiopmhmlaaGreat
open Go Go.GD Go.IntKind
noncomputable section
instance sumInhZd {α β:Type} [Inhabited β]:Inhabited (α⊕β):=⟨.inr default⟩
def Qxd(src:(List UInt8))(z:(Int)×(Int)×(List (List UInt8))):Nat:=(src.length-z.2.1).toNat
def Qe1(src:(List UInt8)):Tree (List (List UInt8)):=
.lp inferInstance (Qxd src (0,0,[])+1) ((rE (src:List UInt8)/\True/\rE (0:Int)/\rE (0:Int)/\True)/\rE ([]:List (RK.T RK.str))/\True) (0,0,[]) λ(v0:Int×Int×List (List UInt8))=>let E1:=decide (16*(v0.2.2.length+1)<=140737488355328); .br (decide (v0.2.1<(src.length:Int))) (.cn (decide (0<=v0.2.1/\v0.2.1<(src.length:Int))) (.br ((↑(UInt8.toNat (src.getD v0.2.1.toNat (0:UInt8))):Int)==(10:Int)) (.cn (decide (0<=v0.1/\v0.1<=v0.2.1/\v0.2.1<=(src.length:Int))) (.cn E1 (.nx ((rE (src:List UInt8)/\True/\rE ((wrap i64 (v0.2.1+1)):Int)/\rE ((wrap i64 (v0.2.1+1)):Int)/\True)/\rE ((v0.2.2++[List.take (Int.toNat v0.2.1-Int.toNat v0.1) (List.drop v0.1.toNat src)]):List (RK.T RK.str))/\True) (Sum.inl (wrap i64 (v0.2.1+1),wrap i64 (v0.2.1+1),v0.2.2++[List.take (Int.toNat v0.2.1-Int.toNat v0.1) (List.drop v0.1.toNat src)]))))) (.nx ((rE (src:List UInt8)/\True/\rE v0.1/\rE ((wrap i64 (v0.2.1+1)):Int)/\True)/\rE v0.2.2/\True) (Sum.inl (v0.1,wrap i64 (v0.2.1+1),v0.2.2))))) (.br (decide (v0.1<(src.length:Int))) (.cn (decide (0<=v0.1/\v0.1<=(src.length:Int)/\(src.length:Int)<=(src.length:Int))) (.cn E1 (.lf (Sum.inr (v0.2.2++[List.take (Int.toNat (src.length:Int)-Int.toNat v0.1) (List.drop v0.1.toNat src)]))))) (.lf (Sum.inr v0.2.2)))
def Qtt(src:(List UInt8)):(List (List UInt8)):=(Qe1 src).m
abbrev Qj6(src:(List UInt8)):Prop:=(Qe1 src).p
def Z6n:LInv:={
 α:=(Int)×(Int)×(List (List UInt8))
 F:=λst a=>([(0,(lk st 0)),(3, .all 0),(4, .int i64 a.1),(5, .int i64 a.2.1)],[⟨false,9,1, .recs RK.str a.2.2⟩])
 a0:=λst=>((lk st 4).toInt,(lk st 5).toInt,(Q46 RK.str st.rows (rN st 3)))
 ex0:=λst=>[]++[(Q0r (lk st 3) (st.rows.length+0))]
 next:=λst=>((lk st 4).toInt,(lk st 5).toInt,(Q46 RK.str st.rows (rN st 3)))
 ex:=λst=>[]++[(Q0r (lk st 3) (st.rows.length+0))]}
def Z0q:List (Nat×LInv):=[(4,Z6n)]
def Zb7:Q0c:=mkP 162 [] true [.one (.str)] [] (λargs rows=>Qj6 (argS args 0)) (λargs rows=>Qtt (argS args 0)) (λX=> .all 0) (λX=>[⟨false,9,1, .recs .str X⟩])
theorem Z9e:Q05 Tryz.prog Zb7:=Q0n Q0j Q0k (.nil) Tryz.func162 Tryz.call162 (λargs rows=>Qe1 (argS args 0)) [.row 9 1 (.recs .str)] Z0q 3 (λ_ _ _=>by kernel_rfl) (λ_ _=>rfl) (λ_ _ h=>h) (λ_ X=>by kernel_rfl)
def Qrd(c:Int):Tree Bool:=
.br (decide (c>=97)) (.lf (decide (c<=122))) (.lf false)
def Qi5(c:Int):Bool:=(Qrd c).m
def Z93:Q0c:=mkR 258 [] true [.one (.int .u8)] [] (λargs rows=>Qi5 (argI args 0)) (λX=> .bool X) (λX=>[])
theorem Qpl:Q05 Tryz.prog Z93:=Q0z Q0j Q0k (.nil) Tryz.func258 Tryz.call258 (λargs rows=>Qrd (argI args 0)) [] [] 2 (λ_ _ _=>by kernel_rfl) (λ_ _=>rfl) (λ_ _=>Tree.free_ok (by kernel_rfl)) (λ_ X=>by kernel_rfl)
def Qwf(c:Int):Tree Bool:=
.br (decide (c>=48)) (.lf (decide (c<=57))) (.lf false)
def Qd3(c:Int):Bool:=(Qwf c).m
def Ze0:Q0c:=mkR 259 [] true [.one (.int .u8)] [] (λargs rows=>Qd3 (argI args 0)) (λX=> .bool X) (λX=>[])
theorem Qsr:Q05 Tryz.prog Ze0:=Q0z Q0j Q0k (.nil) Tryz.func259 Tryz.call259 (λargs rows=>Qwf (argI args 0)) [] [] 2 (λ_ _ _=>by kernel_rfl) (λ_ _=>rfl) (λ_ _=>Tree.free_ok (by kernel_rfl)) (λ_ X=>by kernel_rfl)
def Qva(s:(List UInt8))(z:(Bool)×(Int)×(List Q0h)):Nat:=(s.length-z.2.1).toNat
def Quz(s:(List UInt8))(v0:Bool×Int×List Q0h)(z:(Int)):Nat:=(s.length-z).toNat
def Quw(s:(List UInt8))(v0:Bool×Int×List Q0h)(z:(Int)):Nat:=(s.length-z).toNat
def Qc2(s:(List UInt8)):Tree ((List Q0h)×Bool):=
.lp inferInstance (Qva s (true,0,[])+1) ((rE (s:List UInt8)/\True/\rE (true:Bool)/\rE (0:Int)/\True)/\rE ([]:List (RK.T RK.vmfleetref1Token))/\True) (true,0,[]) λ(v0:Bool×Int×List Q0h)=> .br (decide (v0.2.1<(s.length:Int))) (.cn (decide (0<=v0.2.1/\v0.2.1<(s.length:Int))) (let E7:=(↑(UInt8.toNat (s.getD v0.2.1.toNat (0:UInt8))):Int); .br (E7==(32:Int)) (.nx ((rE (s:List UInt8)/\True/\rE (true:Bool)/\rE ((wrap i64 (v0.2.1+1)):Int)/\True)/\rE v0.2.2/\True) (Sum.inl (true,wrap i64 (v0.2.1+1),v0.2.2))) (.lv (Qi5 E7) λ(x0:Bool)=>let E10:=decide (32*(v0.2.2.length+1)<=140737488355328);let E13:=List.drop v0.2.1.toNat s; .br x0 (.lp inferInstance (Quz s v0 v0.2.1+1) ((rE (s:List UInt8)/\True/\rE v0.1/\rE v0.2.1/\rE v0.2.1/\True)/\rE v0.2.2/\True) v0.2.1 λ(v1:Int)=>let T3:Tree ((Int)⊕((Bool×Int×List Q0h)⊕(((List Q0h)×Bool)))):= .cn (decide (0<=v0.2.1/\v0.2.1<=v1/\v1<=(s.length:Int))) (.cn E10 (.nx ((rE (s:List UInt8)/\True/\rE (false:Bool)/\rE (v1:Int)/\True)/\rE ((v0.2.2++[{kind:=1,D4:=List.take (Int.toNat v1-Int.toNat v0.2.1) (List.drop v0.2.1.toNat s),gap:=v0.1}]):List (RK.T RK.vmfleetref1Token))/\True) (Sum.inr (Sum.inl (false,v1,v0.2.2++[{kind:=1,D4:=List.take (Int.toNat v1-Int.toNat v0.2.1) E13,gap:=v0.1}]))))); .br (decide (v1<(s.length:Int))) (let E11:=decide (0<=v1/\v1<(s.length:Int)); .cn E11 (let E8:=(↑(UInt8.toNat (s.getD v1.toNat (0:UInt8))):Int); .lv (Qi5 E8) λ(x1:Bool)=>let T5:Tree ((Int)⊕((Bool×Int×List Q0h)⊕(((List Q0h)×Bool)))):= .nx ((rE (s:List UInt8)/\True/\rE v0.1/\rE ((wrap i64 (v1+1)):Int)/\rE v0.2.1/\True)/\rE v0.2.2/\True) (Sum.inl (wrap i64 (v1+1))); .br x1 T5 (.cn E11 (.lv (Qd3 E8) λ(x2:Bool)=> .br x2 T5 (.cn E11 (.br (E8==(95:Int)) T5 T3)))))) T3) (.lv (Qd3 E7) λ(x3:Bool)=>let T2:Tree ((Bool×Int×List Q0h)⊕(((List Q0h)×Bool))):= .lp inferInstance (Quw s v0 (wrap i64 (v0.2.1+1))+1) ((rE (s:List UInt8)/\True/\rE v0.1/\rE ((wrap i64 (v0.2.1+1)):Int)/\rE v0.2.1/\True)/\rE v0.2.2/\True) (wrap i64 (v0.2.1+1)) λ(v1:Int)=>let T4:Tree ((Int)⊕((Bool×Int×List Q0h)⊕(((List Q0h)×Bool)))):= .cn (decide (0<=v0.2.1/\v0.2.1<=v1/\v1<=(s.length:Int))) (.cn E10 (.nx ((rE (s:List UInt8)/\True/\rE (false:Bool)/\rE (v1:Int)/\True)/\rE ((v0.2.2++[{kind:=2,D4:=List.take (Int.toNat v1-Int.toNat v0.2.1) (List.drop v0.2.1.toNat s),gap:=v0.1}]):List (RK.T RK.vmfleetref1Token))/\True) (Sum.inr (Sum.inl (false,v1,v0.2.2++[{kind:=2,D4:=List.take (Int.toNat v1-Int.toNat v0.2.1) E13,gap:=v0.1}]))))); .br (decide (v1<(s.length:Int))) (let E12:=decide (0<=v1/\v1<(s.length:Int)); .cn E12 (let E9:=(↑(UInt8.toNat (s.getD v1.toNat (0:UInt8))):Int); .lv (Qi5 E9) λ(x4:Bool)=>let T6:Tree ((Int)⊕((Bool×Int×List Q0h)⊕(((List Q0h)×Bool)))):= .nx ((rE (s:List UInt8)/\True/\rE v0.1/\rE ((wrap i64 (v1+1)):Int)/\rE v0.2.1/\True)/\rE v0.2.2/\True) (Sum.inl (wrap i64 (v1+1))); .br x4 T6 (.cn E12 (.lv (Qd3 E9) λ(x5:Bool)=> .br x5 T6 (.cn E12 (.br (E9==(95:Int)) T6 T4)))))) T4; .br x3 T2 (.br (E7==(45:Int)) T2 (let T1:Tree ((Bool×Int×List Q0h)⊕(((List Q0h)×Bool))):= .cn (decide (0<=v0.2.1/\v0.2.1<=wrap i64 (v0.2.1+1)/\wrap i64 (v0.2.1+1)<=(s.length:Int))) (.cn E10 (.nx ((rE (s:List UInt8)/\True/\rE (false:Bool)/\rE ((wrap i64 (v0.2.1+1)):Int)/\True)/\rE ((v0.2.2++[{kind:=3,D4:=List.take (Int.toNat (wrap i64 (v0.2.1+1))-Int.toNat v0.2.1) (List.drop v0.2.1.toNat s),gap:=v0.1}]):List (RK.T RK.vmfleetref1Token))/\True) (Sum.inl (false,wrap i64 (v0.2.1+1),v0.2.2++[{kind:=3,D4:=List.take (Int.toNat (wrap i64 (v0.2.1+1))-Int.toNat v0.2.1) E13,gap:=v0.1}])))); .br (E7==(44:Int)) T1 (.br (E7==(58:Int)) T1 (.br (E7==(40:Int)) T1 (.br (E7==(41:Int)) T1 (.br (E7==(46:Int)) T1 (.lf (Sum.inr ([],false))))))))))))) (.lf (Sum.inr (v0.2.2,true)))
def Z1u(s:(List UInt8)):((List Q0h)×Bool):=(Qc2 s).m
abbrev Qh9(s:(List UInt8)):Prop:=(Qc2 s).p
def Z3h:LInv:={
 α:=(Bool)×(Int)×(List Q0h)
 F:=λst a=>([(0,(lk st 0)),(4, .all 0),(5, .bool a.1),(6, .int i64 a.2.1)],[⟨false,273,3, .recs RK.vmfleetref1Token a.2.2⟩])
 a0:=λst=>((lk st 5).toBool,(lk st 6).toInt,(Q46 RK.vmfleetref1Token st.rows (rN st 4)))
 ex0:=λst=>[]++[(Q0r (lk st 4) (st.rows.length+0))]
 next:=λst=>((lk st 5).toBool,(lk st 6).toInt,(Q46 RK.vmfleetref1Token st.rows (rN st 4)))
 ex:=λst=>[]++[(Q0r (lk st 4) (st.rows.length+0))]}
def Z3g:LInv:={
 α:=(Int)
 F:=λst a=>([(0,(lk st 0)),(4, .all 0),(5,(lk st 5)),(6, .int i64 a),(8,(lk st 8))],[⟨false,273,3,esOf st.rows (rN st 4)⟩])
 a0:=λst=>(lk st 6).toInt
 ex0:=λst=>[]++[(Q0r (lk st 4) (st.rows.length+0))]
 next:=λst=>(lk st 6).toInt
 ex:=λst=>[]++[(Q0r (lk st 4) (st.rows.length+0))]}
def Z3x:LInv:={
 α:=(Int)
 F:=λst a=>([(0,(lk st 0)),(4, .all 0),(5,(lk st 5)),(6, .int i64 a),(8,(lk st 8))],[⟨false,273,3,esOf st.rows (rN st 4)⟩])
 a0:=λst=>(lk st 6).toInt
 ex0:=λst=>[]++[(Q0r (lk st 4) (st.rows.length+0))]
 next:=λst=>(lk st 6).toInt
 ex:=λst=>[]++[(Q0r (lk st 4) (st.rows.length+0))]}
def Qxg:List (Nat×LInv):=[(4,Z3h),(12,Z3g),(17,Z3x)]
def Z92:Q0c:=mkP 223 [] true [.one (.str)] [] (λargs rows=>Qh9 (argS args 0)) (λargs rows=>Z1u (argS args 0)) (λX=> .tup [.all 0, .bool (X.2)]) (λX=>[⟨false,273,3, .recs .vmfleetref1Token (X.1)⟩])
theorem Z2f:Q05 Tryz.prog Z92:=Q0n Q0j Q0k (.cons Qpl (.cons Qsr (.nil))) Tryz.func223 Tryz.call223 (λargs rows=>Qc2 (argS args 0)) [.row 273 3 (.recs .vmfleetref1Token)] Qxg 3 (λ_ _ _=>by kernel_rfl) (λ_ _=>rfl) (λ_ _ h=>h) (λ_ X=>by kernel_rfl)
 def digT (p:Int->Prop) (r:Int->List UInt8) (n:Int):Tree (List UInt8):=
 .br (decide (n<(10:Int))) (.lf ([(λ(n:Int)=>UInt8.ofNat n.toNat) (IntKind.wrap IntKind.u8 (IntKind.wrap IntKind.u64 ((48:Int)+n)))])) (.an (p (IntKind.wrap IntKind.u64 (Int.tdiv n (10:Int)))) (.lv (r (IntKind.wrap IntKind.u64 (Int.tdiv n (10:Int)))) λ(x0:List UInt8)=> .cn (decide (x0.length+List.length [(λ(n:Int)=>UInt8.ofNat n.toNat) (IntKind.wrap IntKind.u8 (IntKind.wrap IntKind.u64 ((48:Int)+Int.tmod n (10:Int))))]<=maxLen)) (.lf (x0++[(λ(n:Int)=>UInt8.ofNat n.toNat) (IntKind.wrap IntKind.u8 (IntKind.wrap IntKind.u64 ((48:Int)+Int.tmod n (10:Int))))]))))
 def digF:Nat->Int->List UInt8
   |0,_=>[]
   |k+1,n=>(digT (λ_=>True) (digF k) n).m
 def digP (k:Nat) (n:Int):Prop:=0<=n/\n<10^k/\n<18446744073709551616/\0<k/\k<=30
 def digM (k:Nat):Q0c:=mkP 115 [] true [.one (.int .u64)] [] (λargs rows=>digP k (argI args 0)) (λargs rows=>digF k (argI args 0)) (λX=> .str X) (λX=>[])
 theorem digF_len: ∀k n,(digF k n).length<=k
   |0,_=>Nat.le_refl _
   | k+1,n=>by
     show(bif decide (n<10) then _ else letv (digF k _) λx0=>x0++_).length<=k+1
     have:=digF_len k (IntKind.wrap IntKind.u64 (Int.tdiv n 10))
     cases decide (n<10)
     . simp [letv,Tree.m];omega
     . simp [Tree.m]
 theorem digM_ok: ∀k,Q05 Tryz.prog (digM k)
   |0=>Z4t Tryz.call115 (λargs rows h=>absurd h.2.2.2.1 (Nat.lt_irrefl 0)) (λ_ X=>by kernel_rfl)
   | k + 1=>by
     refine Q0n Q0j Q0k (.cons (digM_ok k) .nil) Tryz.func115 Tryz.call115 (λargs rows=>digT (digP k) (digF k) (argI args 0)) [] [] 2 (λ_ _ _=>by kernel_rfl) (λ_ _=>rfl) (λargs rows h=> ?_) (λ_ X=>by kernel_rfl)
     obtain⟨h0,h1,h2,h3,h4⟩:=h
     generalize argI args 0=n at*
     refine w_br (λ_=>trivial) (λhn=> ?_)
     have hn:=of_decide_eq_false hn
     have e:IntKind.wrap IntKind.u64 (Int.tdiv n 10)=n/10:=by rw[IntKind.wrap_u64,Int.tdiv_eq_ediv_of_nonneg h0];omega
     refine w_an (show digP k _ from ?_) (w_lv λx hx=>w_cn (decide_eq_true ?_) trivial)
     . rw[e]
       rw[Int.pow_succ]at h1
       have hk:0<k:=by
         rcases Nat.eq_zero_or_pos k with rfl|h
         . simp at h1;omega
         . exact h
       exact⟨by omega,by omega,by omega,hk,by omega⟩
     . have:=digF_len k (IntKind.wrap IntKind.u64 (Int.tdiv n 10))
       rw[<-hx]at this
       simp [maxLen];omega
def Qd2(n:Int):(List UInt8):=
digF 20 n
def Q33(n:Int):Prop:=
0<=n/\n<18446744073709551616
def Qlt(n:Int):List D:=[.int .u64 n]
def Qlv(n:Int):List Row:=[]
def Qha(X:(List UInt8)):D:= .str X
def Qgt(X:(List UInt8)):List Row:=[]
def Qnr:List PT:=[.one (.int .u64)]
def Qlp:List RT:=[]
def Qz2(args:List D)(rows:List Row):(List UInt8):=Qd2 (argI args 0)
def Qyu(args:List D)(rows:List Row):Prop:=Q33 (argI args 0)
def Z8i:Q0c:=mkP 115 [] true Qnr Qlp Qyu Qz2 Qha Qgt
theorem Quy(n:Int)(hw:Q33 n):Q40 Tryz.prog 115 (Qlt n) (Qlv n) (Qha (Qd2 n)) (Qgt (Qd2 n)):=by
 have h20:(18446744073709551616:Int)<=10^20:=by decide
 exact xz (args:=[.int .u64 n]) (rows:=[]) (digM_ok 20) (by kernel_rfl) ⟨hw.1,Int.lt_of_lt_of_le hw.2 h20,hw.2,by decide,by decide⟩
set_option maxRecDepth 100000 in
theorem Qy(args:List D)(rows:List Row):Qih Qnr args 0=Qlt (argI args 0):=by kernel_rfl
set_option maxRecDepth 100000 in
theorem Qu6(args:List D)(rows:List Row):Q70 Qlp rows 0=Qlv (argI args 0):=by kernel_rfl
set_option maxRecDepth 100000 in
theorem Z3z(X:(List UInt8)):(ffB (Qha X)&&ffBR (Qgt X))=true:=by kernel_rfl
theorem Z28:Q05 Tryz.prog Z8i:=Z4t Tryz.call115 (λargs rows hp=>by rw[Qy args rows,Qu6 args rows];exact Quy (argI args 0) hp) (λ_ X=>Z3z X)
def Q6c(n:Int):Tree (List UInt8):=
.br (decide (n<0)) (let E1:=wrap u64 (wrap u64 (wrap i64 (0-wrap i64 (n+1)))+1); .an (Q33 E1) (.lv (Qd2 E1) λ(x0:List UInt8)=> .cn (decide (1+x0.length<=maxLen)) (.lf ((45:UInt8)::x0)))) (.an (Q33 (wrap u64 n)) (.lv (Qd2 (wrap u64 n)) λ(x1:List UInt8)=> .lf x1))
def Qni(n:Int):(List UInt8):=(Q6c n).m
abbrev Qf8(n:Int):Prop:=(Q6c n).p
def Z27:Q0c:=mkP 54 [] true [.one (.int .i64)] [] (λargs rows=>Qf8 (argI args 0)) (λargs rows=>Qni (argI args 0)) (λX=> .str X) (λX=>[])
theorem Z07:Q05 Tryz.prog Z27:=Q0n Q0j Q0k (.cons Z28 (.nil)) Tryz.func54 Tryz.call54 (λargs rows=>Q6c (argI args 0)) [] [] 2 (λ_ _ _=>by kernel_rfl) (λ_ _=>rfl) (λ_ _ h=>h) (λ_ X=>by kernel_rfl)
def Qdd(r:Int):Tree (List UInt8):=
.an (Qf8 r) (.lv (Qni r) λ(x0:List UInt8)=> .cn (decide (1+x0.length<=maxLen)) (.lf ((114:UInt8)::x0)))
def Zi2(r:Int):(List UInt8):=(Qdd r).m
abbrev Qnm(r:Int):Prop:=(Qdd r).p
def Zjy:Q0c:=mkP 273 [] true [.one (.int .i64)] [] (λargs rows=>Qnm (argI args 0)) (λargs rows=>Zi2 (argI args 0)) (λX=> .str X) (λX=>[])
theorem Zgg:Q05 Tryz.prog Zjy:=Q0n Q0j Q0k (.cons Z07 (.nil)) Tryz.func273 Tryz.call273 (λargs rows=>Qdd (argI args 0)) [] [] 2 (λ_ _ _=>by kernel_rfl) (λ_ _=>rfl) (λ_ _ h=>h) (λ_ X=>by kernel_rfl)
def Qow(s:(List UInt8))(z:(Int)):Prop:=0<=z/\z<=16
def Qee(s:(List UInt8))(z:(Int)):Nat:=(16-z).toNat
def Q9q(s:(List UInt8)):Tree (Int×Bool):=
.lp inferInstance (Qee s 0+1) ((rE (s:List UInt8)/\rE (0:Int)/\True)/\True) 0 λ(v0:Int)=> .br (decide (v0<16)) (.an (Qnm v0) (.lv (Zi2 v0) λ(x0:List UInt8)=> .br (decide (s=x0)) (.lf (Sum.inr (v0,true))) (.nx ((rE (s:List UInt8)/\rE ((wrap i64 (v0+1)):Int)/\True)/\True) (Sum.inl (wrap i64 (v0+1)))))) (.lf (Sum.inr (0,false)))
def Qgw(s:(List UInt8)):(Int×Bool):=(Q9q s).m
theorem Qq9(s:(List UInt8)):(Q9q s).p:=by
 unfold Tree.p Q9q
 have dp: ∀x,Q33 (IntKind.wrap .u64 x):=λx=>by unfold Q33;rw[IntKind.wrap_u64];omega
 have dl: ∀x,(Qd2 x).length<=20:=λx=>digF_len 20 x
 have hd: ∀x,(Q6c x).w (λr=>r.length<=21):=λx=>by
   unfold Q6c
   refine w_br (λ_=>w_an (dp _) (w_lv λx0 h0=>w_cn (decide_eq_true ?_) ?_)) (λ_=>w_an (dp _) (w_lv λx1 h1=> ?_))
   . have:=dl (IntKind.wrap .u64 (IntKind.wrap .u64 (IntKind.wrap .i64 (0-IntKind.wrap .i64 (x+1)))+1));rw[<-h0]at this;simp [maxLen];omega
   . have:=dl (IntKind.wrap .u64 (IntKind.wrap .u64 (IntKind.wrap .i64 (0-IntKind.wrap .i64 (x+1)))+1));rw[<-h0]at this;show(_::x0).length<=21;simp;omega
   . rw[h1];exact Nat.le_trans (dl _) (by decide)
 have hr: ∀x,(Qdd x).p:=λx=>by
   unfold Tree.p Qdd
   refine w_an (Tree.pp (hd x)).1 (w_lv λx0 h0=>w_cn (decide_eq_true ?_) trivial)
   have:(Qni x).length<=21:=(Tree.pp (hd x)).2
   rw[<-h0]at this;simp [maxLen];omega
 refine w_lp (inv:=Qow s) (μ:=Qee s) ⟨by decide,by decide⟩ (Nat.lt_succ_self _) (λz hz=> ?_)
 obtain⟨z1,z2⟩:=hz
 refine w_br (λhb=>w_an (hr _) (w_lv λx0 _=>w_br (λ_=>trivial) (λ_=>w_nx ?_))) (λ_=>trivial)
 have hb:=of_decide_eq_true hb
 show(0<=IntKind.i64.wrap (z+1)/\IntKind.i64.wrap (z+1)<=16)/\(16-IntKind.i64.wrap (z+1)).toNat<(16-z).toNat
 rw[IntKind.wrap_i64];omega
def Qs8:LInv:={
 α:=(Int)
 F:=λst a=>([(0,(lk st 0)),(4, .int i64 a)],[])
 a0:=λst=>(lk st 4).toInt
 ex0:=λst=>[]++[]
 next:=λst=>(lk st 4).toInt
 ex:=λst=>[]++[]}
def Qp:List (Nat×LInv):=[(2,Qs8)]
def Que:Q0c:=mkR 260 [] true [.one (.str)] [] (λargs rows=>Qgw (argS args 0)) (λX=> .tup [.int .i64 (X.1), .bool (X.2)]) (λX=>[])
theorem Qim:Q05 Tryz.prog Que:=Q0z Q0j Q0k (.cons Zgg (.nil)) Tryz.func260 Tryz.call260 (λargs rows=>Q9q (argS args 0)) [] Qp 3 (λ_ _ _=>by kernel_rfl) (λ_ _=>rfl) (λargs rows=>Qq9 (argS args 0)) (λ_ X=>by kernel_rfl)
def Qhw(s:(List UInt8)):Tree Bool:=
.lv (Qgw s) λ(x0:Int×Bool)=> .br (decide ((s.length:Int)>=(1:Int))) (.br (decide ((s.length:Int)<=(12:Int))) (.cn (decide ((0:Int)<=(0:Int)/\0<(s.length:Int))) (.lv (Qi5 (↑(UInt8.toNat (s.getD (Int.toNat 0) (0:UInt8))):Int)) λ(x1:Bool)=> .br x1 (.lf (!x0.2)) (.lf false))) (.lf false)) (.lf false)
def Z1h(s:(List UInt8)):Bool:=(Qhw s).m
abbrev Qfq(s:(List UInt8)):Prop:=(Qhw s).p
def Zem:Q0c:=mkP 224 [] true [.one (.str)] [] (λargs rows=>Qfq (argS args 0)) (λargs rows=>Z1h (argS args 0)) (λX=> .bool X) (λX=>[])
theorem Qw4:Q05 Tryz.prog Zem:=Q0n Q0j Q0k (.cons Qim (.cons Qpl (.nil))) Tryz.func224 Tryz.call224 (λargs rows=>Qhw (argS args 0)) [] [] 2 (λ_ _ _=>by kernel_rfl) (λ_ _=>rfl) (λ_ _ h=>h) (λ_ X=>by kernel_rfl)
def Q9c(op:Int):Tree (List UInt8):=
let T1:Tree ((List UInt8)):=let T3:Tree ((List UInt8)):= .br (op==48) (.lf ([(106:UInt8),97,108])) (.br (op==49) (.lf ([(106:UInt8),97,108,114])) (.br (decide (op>=56)) (.br (decide (op<=64)) (.cn (Nat.beq 1 1&&Nat.blt 0 1&&decide (0<=wrap i64 (op-56)/\wrap i64 (op-56)<(↑9:Int))) (.lf (List.getD [[(101:UInt8),99,97,108,108],[(101:UInt8),114,101,116],[(99:UInt8),115,114,114],[(99:UInt8),115,114,119],[(105:UInt8),110],[(111:UInt8),117,116],[(119:UInt8),102,105],[(102:UInt8),108,117,115,104],[(104:UInt8),97,108,116]] (Int.toNat (wrap i64 (op-56))) (RK.dflt RK.str)))) (.lf ([]))) (.lf ([])))); .br (decide (op>=40)) (.br (decide (op<=45)) (.cn (Nat.beq 1 1&&Nat.blt 0 1&&decide (0<=wrap i64 (op-40)/\wrap i64 (op-40)<(↑6:Int))) (.lf (List.getD [[(98:UInt8),101,113],[(98:UInt8),110,101],[(98:UInt8),108,116],[(98:UInt8),103,101],[(98:UInt8),108,116,117],[(98:UInt8),103,101,117]] (Int.toNat (wrap i64 (op-40))) (RK.dflt RK.str)))) T3) T3;let T2:Tree ((List UInt8)):=let T4:Tree ((List UInt8)):= .br (decide (op>=32)) (.br (decide (op<=36)) (.cn (Nat.beq 1 1&&Nat.blt 0 1&&decide (0<=wrap i64 (op-32)/\wrap i64 (op-32)<(↑5:Int))) (.lf (List.getD [[(108:UInt8),119],[(108:UInt8),98],[(108:UInt8),98,117],[(115:UInt8),119],[(115:UInt8),98]] (Int.toNat (wrap i64 (op-32))) (RK.dflt RK.str)))) T1) T1; .br (decide (op>=16)) (.br (decide (op<=24)) (.cn (Nat.beq 1 1&&Nat.blt 0 1&&decide (0<=wrap i64 (op-16)/\wrap i64 (op-16)<(↑9:Int))) (.lf (List.getD [[(97:UInt8),100,100,105],[(97:UInt8),110,100,105],[(111:UInt8),114,105],[(120:UInt8),111,114,105],[(115:UInt8),104,108,105],[(115:UInt8),104,114,105],[(115:UInt8),97,114,105],[(115:UInt8),108,116,105],[(108:UInt8),117,105]] (Int.toNat (wrap i64 (op-16))) (RK.dflt RK.str)))) T4) T4; .br (decide (op>=1)) (.br (decide (op<=13)) (.cn (Nat.beq 1 1&&Nat.blt 0 1&&decide (0<=wrap i64 (op-1)/\wrap i64 (op-1)<(↑13:Int))) (.lf (List.getD [[(97:UInt8),100,100],[(115:UInt8),117,98],[(97:UInt8),110,100],[(111:UInt8),114],[(120:UInt8),111,114],[(115:UInt8),104,108],[(115:UInt8),104,114],[(115:UInt8),97,114],[(109:UInt8),117,108],[(100:UInt8),105,118],[(114:UInt8),101,109],[(115:UInt8),108,116],[(115:UInt8),108,116,117]] (Int.toNat (wrap i64 (op-1))) (RK.dflt RK.str)))) T2) T2
def Qs4(op:Int):(List UInt8):=(Q9c op).m
abbrev Qcr(op:Int):Prop:=(Q9c op).p
def Z14:Q0c:=mkP 262 [] true [.one (.int .i64)] [] (λargs rows=>Qcr (argI args 0)) (λargs rows=>Qs4 (argI args 0)) (λX=> .str X) (λX=>[])
theorem Qwz:Q05 Tryz.prog Z14:=Q0n Q0j Q0k (.nil) Tryz.func262 Tryz.call262 (λargs rows=>Q9c (argI args 0)) [] [] 2 (λ_ _ _=>by kernel_rfl) (λ_ _=>rfl) (λ_ _ h=>h) (λ_ X=>by kernel_rfl)
def Qp0(s:(List UInt8))(z:(Int)):Nat:=(65-z).toNat
def Q7v(s:(List UInt8)):Tree Int:=
.lp inferInstance (Qp0 s 1+1) ((rE (s:List UInt8)/\rE (1:Int)/\True)/\True) 1 λ(v0:Int)=> .br (decide (v0<=64)) (.lv (Q25 v0) λ(x0:Int)=> .br (decide (x0>0)) (.an (Qcr v0) (.lv (Qs4 v0) λ(x1:List UInt8)=> .br (decide (x1=s)) (.lf (Sum.inr v0)) (.nx ((rE (s:List UInt8)/\rE ((wrap i64 (v0+1)):Int)/\True)/\True) (Sum.inl (wrap i64 (v0+1)))))) (.nx ((rE (s:List UInt8)/\rE ((wrap i64 (v0+1)):Int)/\True)/\True) (Sum.inl (wrap i64 (v0+1))))) (.lf (Sum.inr 0))
def Q8(s:(List UInt8)):Int:=(Q7v s).m
abbrev Q2z(s:(List UInt8)):Prop:=(Q7v s).p
def Qv8:LInv:={
 α:=(Int)
 F:=λst a=>([(0,(lk st 0)),(3, .int i64 a)],[])
 a0:=λst=>(lk st 3).toInt
 ex0:=λst=>[]++[]
 next:=λst=>(lk st 3).toInt
 ex:=λst=>[]++[]}
def Qqh:List (Nat×LInv):=[(2,Qv8)]
def Qxc:Q0c:=mkP 227 [] true [.one (.str)] [] (λargs rows=>Q2z (argS args 0)) (λargs rows=>Q8 (argS args 0)) (λX=> .int .i64 X) (λX=>[])
theorem Qkf:Q05 Tryz.prog Qxc:=Q0n Q0j Q0k (.cons Qei (.cons Qwz (.nil))) Tryz.func227 Tryz.call227 (λargs rows=>Q7v (argS args 0)) [] Qqh 3 (λ_ _ _=>by kernel_rfl) (λ_ _=>rfl) (λ_ _ h=>h) (λ_ X=>by kernel_rfl)
def Qak(what:(List UInt8)):Tree ((List UInt8)×Bool):=
.an (Q2z what) (.lv (Q8 what) λ(x0:Int)=> .br (decide (what=[(46:UInt8),119,111,114,100])) (.lf ([(120:UInt8)],true)) (.br (decide (what=[(46:UInt8),115,112,97,99,101])) (.lf ([(110:UInt8)],true)) (.br (decide (what=[(108:UInt8),105])) (.lf ([(114:UInt8),44,120],true)) (.br (decide (what=[(109:UInt8),118])) (.lf ([(114:UInt8),44,114],true)) (.br (decide (what=[(110:UInt8),111,112])) (.lf ([],true)) (.br (x0==0) (.lf ([],false)) (let T1:Tree (((List UInt8)×Bool)):= .br (x0==48) (.lf ([(114:UInt8),44,120],true)) (.lv (Q25 x0) λ(x1:Int)=> .br (x1==1) (.lf ([],true)) (.br (x1==2) (.lf ([(114:UInt8),44,114,44,114],true)) (.br (decide (x1>=6)) (.lf ([(114:UInt8),44,110],true)) (.lf ([(114:UInt8),44,114,44,110],true)))));let T2:Tree (((List UInt8)×Bool)):= .br (decide (x0>=40)) (.br (decide (x0<=45)) (.lf ([(114:UInt8),44,114,44,120],true)) T1) T1; .br (decide (x0>=32)) (.br (decide (x0<=36)) (.lf ([(114:UInt8),44,110,40,114,41],true)) T2) T2)))))))
def Qe8(what:(List UInt8)):((List UInt8)×Bool):=(Qak what).m
abbrev Q5s(what:(List UInt8)):Prop:=(Qak what).p
def Z2x:Q0c:=mkP 225 [] true [.one (.str)] [] (λargs rows=>Q5s (argS args 0)) (λargs rows=>Qe8 (argS args 0)) (λX=> .tup [.str (X.1), .bool (X.2)]) (λX=>[])
theorem Qyv:Q05 Tryz.prog Z2x:=Q0n Q0j Q0k (.cons Qkf (.cons Qei (.nil))) Tryz.func225 Tryz.call225 (λargs rows=>Qak (argS args 0)) [] [] 2 (λ_ _ _=>by kernel_rfl) (λ_ _=>rfl) (λ_ _ h=>h) (λ_ X=>by kernel_rfl)
def Qtm(s:(List UInt8))(z:(Int)×(Int)):Nat:=(s.length-z.2).toNat
def Qkk(s:(List UInt8))(z:(Int)×(Int)):Nat:=(s.length-z.2).toNat
def Qcj(s:(List UInt8)):Tree (Int×Bool):=
let E7:=decide ((0:Int)<=(0:Int)/\0<(s.length:Int));let E8:=(↑(UInt8.toNat (s.getD (Int.toNat 0) (0:UInt8))):Int);let T1:Tree ((Int×Bool)):=let T2:Tree ((Int×Bool)):= .br (decide (wrap i64 ((s.length:Int)-(0:Int))<1)) (.lf (0,false)) (.br (decide (wrap i64 ((s.length:Int)-(0:Int))>10)) (.lf (0,false)) (.lp inferInstance (Qkk s (0,0)+1) ((rE (s:List UInt8)/\rE (0:Int)/\rE (0:Int)/\rE (0:Int)/\True)/\True) (0,0) λ(v0:Int×Int)=> .br (decide (v0.2<(s.length:Int))) (let E9:=decide (0<=v0.2/\v0.2<(s.length:Int)); .cn E9 (let E5:=(↑(UInt8.toNat (s.getD v0.2.toNat (0:UInt8))):Int); .lv (Qd3 E5) λ(x2:Bool)=> .br (!x2) (.lf (Sum.inr (0,false))) (.cn E9 (.nx ((rE (s:List UInt8)/\rE (0:Int)/\rE ((wrap i64 (wrap i64 (10*v0.1)+wrap i64 (wrap u8 ((↑(UInt8.toNat (s.getD v0.2.toNat (0:UInt8))):Int)-(48:Int))))):Int)/\rE ((wrap i64 (v0.2+1)):Int)/\True)/\True) (Sum.inl (wrap i64 (wrap i64 (10*v0.1)+wrap i64 (wrap u8 (E5-(48:Int)))),wrap i64 (v0.2+1))))))) (.br (decide (v0.1>=(-2147483648))) (.lf (Sum.inr (v0.1,decide (v0.1<=4294967295)))) (.lf (Sum.inr (v0.1,false)))))); .br (decide ((s.length:Int)>(0:Int))) (.cn E7 (.br (E8==(45:Int)) (.br (decide (wrap i64 ((s.length:Int)-(1:Int))<1)) (.lf (0,false)) (.br (decide (wrap i64 ((s.length:Int)-(1:Int))>10)) (.lf (0,false)) (.lp inferInstance (Qkk s (0,1)+1) ((rE (s:List UInt8)/\rE (1:Int)/\rE (0:Int)/\rE (1:Int)/\True)/\True) (0,1) λ(v0:Int×Int)=> .br (decide (v0.2<(s.length:Int))) (let E10:=decide (0<=v0.2/\v0.2<(s.length:Int)); .cn E10 (let E6:=(↑(UInt8.toNat (s.getD v0.2.toNat (0:UInt8))):Int); .lv (Qd3 E6) λ(x1:Bool)=> .br (!x1) (.lf (Sum.inr (0,false))) (.cn E10 (.nx ((rE (s:List UInt8)/\rE (1:Int)/\rE ((wrap i64 (wrap i64 (10*v0.1)+wrap i64 (wrap u8 ((↑(UInt8.toNat (s.getD v0.2.toNat (0:UInt8))):Int)-(48:Int))))):Int)/\rE ((wrap i64 (v0.2+1)):Int)/\True)/\True) (Sum.inl (wrap i64 (wrap i64 (10*v0.1)+wrap i64 (wrap u8 (E6-(48:Int)))),wrap i64 (v0.2+1))))))) (.br (decide (wrap i64 (0-v0.1)>=(-2147483648))) (.lf (Sum.inr (wrap i64 (0-v0.1),decide (wrap i64 (0-v0.1)<=4294967295)))) (.lf (Sum.inr (wrap i64 (0-v0.1),false))))))) T2)) T2; .br (decide ((s.length:Int)>(2:Int))) (.cn E7 (.br (E8==(48:Int)) (.cn (decide ((0:Int)<=(1:Int)/\1<(s.length:Int))) (.br ((↑(UInt8.toNat (s.getD (Int.toNat 1) (0:UInt8))):Int)==(120:Int)) (.br (decide ((s.length:Int)>(10:Int))) (.lf (0,false)) (.lp inferInstance (Qtm s (0,2)+1) ((rE (s:List UInt8)/\rE (0:Int)/\rE (2:Int)/\True)/\True) (0,2) λ(v0:Int×Int)=> .br (decide (v0.2<(s.length:Int))) (let E4:=decide (0<=v0.2/\v0.2<(s.length:Int)); .cn E4 (let E3:=(↑(UInt8.toNat (s.getD v0.2.toNat (0:UInt8))):Int); .lv (Qd3 E3) λ(x0:Bool)=> .br x0 (.cn E4 (.nx ((rE (s:List UInt8)/\rE ((wrap i64 (wrap i64 (16*v0.1)+wrap i64 (wrap u8 ((↑(UInt8.toNat (s.getD v0.2.toNat (0:UInt8))):Int)-(48:Int))))):Int)/\rE ((wrap i64 (v0.2+1)):Int)/\True)/\True) (Sum.inl (wrap i64 (wrap i64 (16*v0.1)+wrap i64 (wrap u8 (E3-(48:Int)))),wrap i64 (v0.2+1))))) (.cn E4 (.br (decide (E3>=(97:Int))) (.cn E4 (.br (decide (E3<=(102:Int))) (.cn E4 (.nx ((rE (s:List UInt8)/\rE ((wrap i64 (wrap i64 (wrap i64 (16*v0.1)+wrap i64 (wrap u8 ((↑(UInt8.toNat (s.getD v0.2.toNat (0:UInt8))):Int)-(97:Int))))+10)):Int)/\rE ((wrap i64 (v0.2+1)):Int)/\True)/\True) (Sum.inl (wrap i64 (wrap i64 (wrap i64 (16*v0.1)+wrap i64 (wrap u8 (E3-(97:Int))))+10),wrap i64 (v0.2+1))))) (.lf (Sum.inr (0,false))))) (.lf (Sum.inr (0,false))))))) (.lf (Sum.inr (v0.1,true))))) T1)) T1)) T1
def Z16(s:(List UInt8)):(Int×Bool):=(Qcj s).m
abbrev Qhq(s:(List UInt8)):Prop:=(Qcj s).p
def Z36:LInv:={
 α:=(Int)×(Int)
 F:=λst a=>([(0,(lk st 0)),(4, .int i64 a.1),(5, .int i64 a.2)],[])
 a0:=λst=>((lk st 4).toInt,(lk st 5).toInt)
 ex0:=λst=>[]++[]
 next:=λst=>((lk st 4).toInt,(lk st 5).toInt)
 ex:=λst=>[]++[]}
def Z3i:LInv:={
 α:=(Int)×(Int)
 F:=λst a=>([(0,(lk st 0)),(6,(lk st 6)),(7, .int i64 a.1),(8, .int i64 a.2)],[])
 a0:=λst=>((lk st 7).toInt,(lk st 8).toInt)
 ex0:=λst=>[]++[]
 next:=λst=>((lk st 7).toInt,(lk st 8).toInt)
 ex:=λst=>[]++[]}
def Qxf:List (Nat×LInv):=[(6,Z36),(21,Z3i)]
def Z8p:Q0c:=mkP 261 [] true [.one (.str)] [] (λargs rows=>Qhq (argS args 0)) (λargs rows=>Z16 (argS args 0)) (λX=> .tup [.int .i64 (X.1), .bool (X.2)]) (λX=>[])
theorem Z41:Q05 Tryz.prog Z8p:=Q0n Q0j Q0k (.cons Qsr (.nil)) Tryz.func261 Tryz.call261 (λargs rows=>Qcj (argS args 0)) [] Qxf 3 (λ_ _ _=>by kernel_rfl) (λ_ _=>rfl) (λ_ _ h=>h) (λ_ X=>by kernel_rfl)
def Qrs(l:(List Q0h))(p:(List UInt8))(z:(Int)×(List Q0u)):Nat:=(l.length-z.1).toNat
def Qac(l:(List Q0h))(p:(List UInt8)):Tree ((List Q0u)×Bool):=
.br ((l.length:Int) !=(p.length:Int)) (.lf ([],false)) (.lp inferInstance (Qrs l p (0,[])+1) ((((Els.Nil (Els.recs RK.vmfleetref1Token l)\/rE (3:Nat))/\rE (l:List (RK.T RK.vmfleetref1Token)))/\rE (p:List UInt8)/\True/\rE (0:Int)/\True)/\rE ([]:List (RK.T RK.vmfleetref1Arg))/\True) (0,[]) λ(v0:Int×List Q0u)=> .br (decide (v0.1<(l.length:Int))) (.cn (Nat.beq 3 3&&Nat.blt 0 3&&decide (0<=v0.1/\v0.1<(l.length:Int))) (let E6:=decide (0<=v0.1/\v0.1<(p.length:Int)); .cn E6 (let E3:=l.getD v0.1.toNat (RK.dflt RK.vmfleetref1Token);let E4:=(↑(UInt8.toNat (p.getD v0.1.toNat (0:UInt8))):Int);let E5:=decide (32*(v0.2.length+1)<=140737488355328); .br (E4==(114:Int)) (.lv (Qgw E3.D4) λ(x0:Int×Bool)=> .br (E3.kind !=1) (.lf (Sum.inr ([],false))) (.br (!x0.2) (.lf (Sum.inr ([],false))) (.cn E5 (.nx ((((Els.Nil (Els.recs RK.vmfleetref1Token l)\/rE (3:Nat))/\rE (l:List (RK.T RK.vmfleetref1Token)))/\rE (p:List UInt8)/\True/\rE ((wrap i64 (v0.1+1)):Int)/\True)/\rE ((v0.2++[{reg:=x0.1,num:=0,label:=[]}]):List (RK.T RK.vmfleetref1Arg))/\True) (Sum.inl (wrap i64 (v0.1+1),v0.2++[{reg:=x0.1,num:=0,label:=[]}])))))) (let T1:Tree ((Int×List Q0u)⊕(((List Q0u)×Bool))):= .an (Qhq E3.D4) (.lv (Z16 E3.D4) λ(x2:Int×Bool)=> .br (E3.kind !=2) (.lf (Sum.inr ([],false))) (.br (!x2.2) (.lf (Sum.inr ([],false))) (.cn E5 (.nx ((((Els.Nil (Els.recs RK.vmfleetref1Token l)\/rE (3:Nat))/\rE (l:List (RK.T RK.vmfleetref1Token)))/\rE (p:List UInt8)/\True/\rE ((wrap i64 (v0.1+1)):Int)/\True)/\rE ((v0.2++[{reg:=0,num:=x2.1,label:=[]}]):List (RK.T RK.vmfleetref1Arg))/\True) (Sum.inl (wrap i64 (v0.1+1),v0.2++[{reg:=0,num:=x2.1,label:=[]}]))))));let T2:Tree ((Int×List Q0u)⊕(((List Q0u)×Bool))):= .cn E6 (.br (E4==(120:Int)) (.br (E3.kind==1) (.an (Qfq E3.D4) (.lv (Z1h E3.D4) λ(x1:Bool)=> .br x1 (.cn E5 (.nx ((((Els.Nil (Els.recs RK.vmfleetref1Token l)\/rE (3:Nat))/\rE (l:List (RK.T RK.vmfleetref1Token)))/\rE (p:List UInt8)/\True/\rE ((wrap i64 (v0.1+1)):Int)/\True)/\rE ((v0.2++[{reg:=0,num:=0,label:=(l.getD v0.1.toNat (RK.dflt RK.vmfleetref1Token)).D4}]):List (RK.T RK.vmfleetref1Arg))/\True) (Sum.inl (wrap i64 (v0.1+1),v0.2++[{reg:=0,num:=0,label:=E3.D4}])))) T1)) T1) T1); .br (E4==(110:Int)) T2 (.br (E4==(120:Int)) T2 (.br (E3.kind !=3) (.lf (Sum.inr ([],false))) (.cn (decide (0<=v0.1/\v0.1<=wrap i64 (v0.1+1)/\wrap i64 (v0.1+1)<=(p.length:Int))) (.br (!decide (E3.D4=List.take (Int.toNat (wrap i64 (v0.1+1))-Int.toNat v0.1) (List.drop v0.1.toNat p))) (.lf (Sum.inr ([],false))) (.nx ((((Els.Nil (Els.recs RK.vmfleetref1Token l)\/rE (3:Nat))/\rE (l:List (RK.T RK.vmfleetref1Token)))/\rE (p:List UInt8)/\True/\rE ((wrap i64 (v0.1+1)):Int)/\True)/\rE v0.2/\True) (Sum.inl (wrap i64 (v0.1+1),v0.2))))))))))) (.lf (Sum.inr (v0.2,true))))
def Qeh(l:(List Q0h))(p:(List UInt8)):((List Q0u)×Bool):=(Qac l p).m
abbrev Q5u(l:(List Q0h))(p:(List UInt8)):Prop:=(Qac l p).p
def Z0p:LInv:={
 α:=(Int)×(List Q0u)
 F:=λst a=>([(0,(lk st 0)),(1,(lk st 1)),(6, .all 0),(7, .int i64 a.1)],[⟨false,168,3, .recs RK.vmfleetref1Arg a.2⟩])
 a0:=λst=>((lk st 7).toInt,(Q46 RK.vmfleetref1Arg st.rows (rN st 6)))
 ex0:=λst=>[]++[(Q0r (lk st 6) (st.rows.length+0))]
 next:=λst=>((lk st 7).toInt,(Q46 RK.vmfleetref1Arg st.rows (rN st 6)))
 ex:=λst=>[]++[(Q0r (lk st 6) (st.rows.length+0))]}
def Qv2:List (Nat×LInv):=[(5,Z0p)]
def Z2s:Q0c:=mkP 226 [] true [.one (.recs .vmfleetref1Token), .one (.str)] [] (λargs rows=>Q5u (argR .vmfleetref1Token args 0) (argS args 1)) (λargs rows=>Qeh (argR .vmfleetref1Token args 0) (argS args 1)) (λX=> .tup [.all 0, .bool (X.2)]) (λX=>[⟨false,168,3, .recs .vmfleetref1Arg (X.1)⟩])
theorem Z17:Q05 Tryz.prog Z2s:=Q0n Q0j Q0k (.cons Qim (.cons Qw4 (.cons Z41 (.nil)))) Tryz.func226 Tryz.call226 (λargs rows=>Qac (argR .vmfleetref1Token args 0) (argS args 1)) [.row 168 3 (.recs .vmfleetref1Arg)] Qv2 3 (λ_ _ _=>by kernel_rfl) (λ_ _=>rfl) (λ_ _ h=>h) (λ_ X=>by kernel_rfl)
def Qtn(s:(List UInt8))(z:(List UInt8)×(Int)):Nat:=(s.length-z.2).toNat
def Qbr(s:(List UInt8)):Tree ((List UInt8)×Q09×Bool):=
.lp inferInstance (Qtn s (s,0)+1) ((rE (s:List UInt8)/\rE ([]:List UInt8)/\(rE (0:Nat)/\rE (0:Nat))/\rE (false:Bool)/\rE (0:Int)/\True)/\(rE ([]:List UInt8)/\rE (0:Int)/\True/\rE (0:Int)/\rE (0:Int)/\rE (0:Int)/\True)/\True) (s,0) λ(v0:List UInt8×Int)=> .br (decide (v0.2<(v0.1.length:Int))) (.cn (decide (0<=v0.2/\v0.2<(v0.1.length:Int))) (.br ((↑(UInt8.toNat (v0.1.getD v0.2.toNat (0:UInt8))):Int)==(59:Int)) (.cn (decide ((0:Int)<=(0:Int)/\0<=v0.2/\v0.2<=(v0.1.length:Int))) (.nx ((rE ((List.take (Int.toNat v0.2-Int.toNat 0) (List.drop (Int.toNat 0) v0.1)):List UInt8)/\rE ([]:List UInt8)/\(rE (0:Nat)/\rE (0:Nat))/\rE (false:Bool)/\rE ((wrap i64 (v0.2+1)):Int)/\True)/\(rE ([]:List UInt8)/\rE (0:Int)/\True/\rE (0:Int)/\rE (0:Int)/\rE (0:Int)/\True)/\True) (Sum.inl (List.take (Int.toNat v0.2-Int.toNat 0) (List.drop (Int.toNat 0) v0.1),wrap i64 (v0.2+1))))) (.nx ((rE v0.1/\rE ([]:List UInt8)/\(rE (0:Nat)/\rE (0:Nat))/\rE (false:Bool)/\rE ((wrap i64 (v0.2+1)):Int)/\True)/\(rE ([]:List UInt8)/\rE (0:Int)/\True/\rE (0:Int)/\rE (0:Int)/\rE (0:Int)/\True)/\True) (Sum.inl (v0.1,wrap i64 (v0.2+1)))))) (.an (Qh9 v0.1) (.lv (Z1u v0.1) λ(x0:List Q0h×Bool)=> .br (!x0.2) (.lf (Sum.inr ([],{what:=[],op:=0,l:=[],D7:=0,at_:=0,size:=0},false))) (let E9:=x0.1.getD (Int.toNat 0) (RK.dflt RK.vmfleetref1Token);let T1:Tree ((List UInt8×Int)⊕(((List UInt8)×Q09×Bool))):= .an (Q5s E9.D4) (.lv (Qe8 E9.D4) λ(x27:List UInt8×Bool)=> .br (!x27.2) (.lf (Sum.inr ([],{what:=[],op:=0,l:=[],D7:=0,at_:=0,size:=0},false))) (let E20:=Int.toNat (x0.1.length:Int)-Int.toNat 1;let T6:Tree ((List UInt8×Int)⊕(((List UInt8)×Q09×Bool))):=let E31:=List.take E20 (List.drop (Int.toNat 1) x0.1); .an (Q5u E31 x27.1) (.lv (Qeh E31 x27.1) λ(x28:List Q0u×Bool)=> .br (!x28.2) (.lf (Sum.inr ([],{what:=[],op:=0,l:=[],D7:=0,at_:=0,size:=0},false))) (.an (Q2z E9.D4) (.lv (Q8 E9.D4) λ(x29:Int)=> .br (decide (E9.D4=[(108:UInt8),105])) (.lf (Sum.inr ([],{what:=E9.D4,op:=x29,l:=x28.1,D7:=0,at_:=0,size:=2},true))) (.br (decide (E9.D4=[(46:UInt8),115,112,97,99,101])) (let E13:=Nat.beq 3 3&&Nat.blt 0 3&&decide ((0:Int)<=(0:Int)/\0<(x28.1.length:Int)); .cn E13 (let E21:=x28.1.getD (Int.toNat 0) (RK.dflt RK.vmfleetref1Arg); .br (decide (E21.num<0)) (.lf (Sum.inr ([],{what:=[],op:=0,l:=[],D7:=0,at_:=0,size:=0},false))) (.cn E13 (.br (decide (E21.num>1024)) (.lf (Sum.inr ([],{what:=[],op:=0,l:=[],D7:=0,at_:=0,size:=0},false))) (.cn E13 (.lf (Sum.inr ([],{what:=E9.D4,op:=x29,l:=x28.1,D7:=0,at_:=0,size:=E21.num},true)))))))) (.lf (Sum.inr ([],{what:=E9.D4,op:=x29,l:=x28.1,D7:=0,at_:=0,size:=1},true))))))); .br (decide ((↑E20:Int)>(0:Int))) (.cn (Nat.beq 3 3&&Nat.blt 0 3&&decide ((0:Int)<=(0:Int)/\0<(↑E20:Int))) (.br (!(x0.1.getD (Int.toNat 1+Int.toNat 0) (RK.dflt RK.vmfleetref1Token)).gap) (.lf (Sum.inr ([],{what:=[],op:=0,l:=[],D7:=0,at_:=0,size:=0},false))) T6)) T6));let E25:=Int.toNat (x0.1.length:Int)-Int.toNat 2;let E8:=(↑E25:Int);let E10:=x0.1.getD (Int.toNat 2+Int.toNat 0) (RK.dflt RK.vmfleetref1Token);let E12:=x0.1.getD (Int.toNat 1) (RK.dflt RK.vmfleetref1Token);let E16:=Nat.beq 3 3&&Nat.blt 0 3&&decide ((0:Int)<=(0:Int)/\0<(x0.1.length:Int));let E17:=Nat.beq 3 3&&Nat.blt 0 3&&decide ((0:Int)<=(1:Int)/\1<(x0.1.length:Int));let E19:=Nat.beq 3 3&&Nat.blt 0 3&&decide ((0:Int)<=(2:Int)/\2<=(x0.1.length:Int)/\(x0.1.length:Int)<=(x0.1.length:Int));let E28:=Nat.beq 3 3&&Nat.blt 0 3&&decide ((0:Int)<=(0:Int)/\0<E8);let E30:=decide ((x0.1.length:Int)>=(2:Int));let T3:Tree ((List UInt8×Int)⊕(((List UInt8)×Q09×Bool))):= .br ((x0.1.length:Int)==(0:Int)) (.lf (Sum.inr ([],{what:=[],op:=0,l:=[],D7:=0,at_:=0,size:=0},true))) (.cn E16 (.cn (Nat.beq 3 3&&Nat.blt 0 3&&decide ((0:Int)<=(1:Int)/\1<=(x0.1.length:Int)/\(x0.1.length:Int)<=(x0.1.length:Int))) (.br (decide (E9.D4=[(46:UInt8)])) (.br E30 (.cn E17 (.br (!E12.gap) (.cn E17 (.cn (decide (1+List.length E12.D4<=maxLen)) (.cn E19 (.an (Q5s ((46:UInt8)::E12.D4)) (.lv (Qe8 ([(46:UInt8)]++E12.D4)) λ(x22:List UInt8×Bool)=> .br (!x22.2) (.lf (Sum.inr ([],{what:=[],op:=0,l:=[],D7:=0,at_:=0,size:=0},false))) (let T7:Tree ((List UInt8×Int)⊕(((List UInt8)×Q09×Bool))):=let E32:=List.take E25 (List.drop (Int.toNat 2) x0.1); .an (Q5u E32 x22.1) (.lv (Qeh E32 x22.1) λ(x23:List Q0u×Bool)=> .br (!x23.2) (.lf (Sum.inr ([],{what:=[],op:=0,l:=[],D7:=0,at_:=0,size:=0},false))) (.an (Q2z ((46:UInt8)::E12.D4)) (.lv (Q8 ([(46:UInt8)]++E12.D4)) λ(x24:Int)=> .br (decide ([(46:UInt8)]++E12.D4=[(46:UInt8),115,112,97,99,101])) (let E14:=Nat.beq 3 3&&Nat.blt 0 3&&decide ((0:Int)<=(0:Int)/\0<(x23.1.length:Int)); .cn E14 (let E22:=x23.1.getD (Int.toNat 0) (RK.dflt RK.vmfleetref1Arg); .br (decide (E22.num<0)) (.lf (Sum.inr ([],{what:=[],op:=0,l:=[],D7:=0,at_:=0,size:=0},false))) (.cn E14 (.br (decide (E22.num>1024)) (.lf (Sum.inr ([],{what:=[],op:=0,l:=[],D7:=0,at_:=0,size:=0},false))) (.cn E14 (.lf (Sum.inr ([],{what:=(46:UInt8)::E12.D4,op:=x24,l:=x23.1,D7:=0,at_:=0,size:=E22.num},true)))))))) (.lf (Sum.inr ([],{what:=(46:UInt8)::E12.D4,op:=x24,l:=x23.1,D7:=0,at_:=0,size:=1},true)))))); .br (decide (E8>(0:Int))) (.cn E28 (.br (!E10.gap) (.lf (Sum.inr ([],{what:=[],op:=0,l:=[],D7:=0,at_:=0,size:=0},false))) T7)) T7)))))) T1)) T1) T1))); .br E30 (.cn E17 (.br (decide (E12.D4=[(58:UInt8)])) (.cn E16 (.cn E16 (.br (E9.kind !=1) (.lf (Sum.inr ([],{what:=[],op:=0,l:=[],D7:=0,at_:=0,size:=0},false))) (.an (Qfq E9.D4) (.lv (Z1h E9.D4) λ(x1:Bool)=> .br (!x1) (.lf (Sum.inr ([],{what:=[],op:=0,l:=[],D7:=0,at_:=0,size:=0},false))) (.cn E19 (.br (E8==(0:Int)) (.lf (Sum.inr (E9.D4,{what:=[],op:=0,l:=[],D7:=0,at_:=0,size:=0},true))) (.cn E28 (.cn (Nat.beq 3 3&&Nat.blt 0 3&&decide ((0:Int)<=(1:Int)/\1<=E8/\E8<=E8)) (let T2:Tree ((List UInt8×Int)⊕(((List UInt8)×Q09×Bool))):= .an (Q5s E10.D4) (.lv (Qe8 E10.D4) λ(x7:List UInt8×Bool)=> .br (!x7.2) (.lf (Sum.inr ([],{what:=[],op:=0,l:=[],D7:=0,at_:=0,size:=0},false))) (let T4:Tree ((List UInt8×Int)⊕(((List UInt8)×Q09×Bool))):=let E26:=List.take (Int.toNat E8-Int.toNat 1) (List.drop (Int.toNat 2+Int.toNat 1) x0.1); .an (Q5u E26 x7.1) (.lv (Qeh E26 x7.1) λ(x8:List Q0u×Bool)=> .br (!x8.2) (.lf (Sum.inr ([],{what:=[],op:=0,l:=[],D7:=0,at_:=0,size:=0},false))) (.an (Q2z E10.D4) (.lv (Q8 E10.D4) λ(x9:Int)=> .br (decide (E10.D4=[(108:UInt8),105])) (.lf (Sum.inr (E9.D4,{what:=E10.D4,op:=x9,l:=x8.1,D7:=0,at_:=0,size:=2},true))) (.br (decide (E10.D4=[(46:UInt8),115,112,97,99,101])) (let E15:=Nat.beq 3 3&&Nat.blt 0 3&&decide ((0:Int)<=(0:Int)/\0<(x8.1.length:Int)); .cn E15 (let E23:=x8.1.getD (Int.toNat 0) (RK.dflt RK.vmfleetref1Arg); .br (decide (E23.num<0)) (.lf (Sum.inr ([],{what:=[],op:=0,l:=[],D7:=0,at_:=0,size:=0},false))) (.cn E15 (.br (decide (E23.num>1024)) (.lf (Sum.inr ([],{what:=[],op:=0,l:=[],D7:=0,at_:=0,size:=0},false))) (.cn E15 (.lf (Sum.inr (E9.D4,{what:=E10.D4,op:=x9,l:=x8.1,D7:=0,at_:=0,size:=E23.num},true)))))))) (.lf (Sum.inr (E9.D4,{what:=E10.D4,op:=x9,l:=x8.1,D7:=0,at_:=0,size:=1},true))))))); .br (decide ((↑(Int.toNat E8-Int.toNat 1):Int)>(0:Int))) (.cn (Nat.beq 3 3&&Nat.blt 0 3&&decide ((0:Int)<=(0:Int)/\0<(↑(Int.toNat E8-Int.toNat 1):Int))) (.br (!(x0.1.getD (Int.toNat 2+Int.toNat 1+Int.toNat 0) (RK.dflt RK.vmfleetref1Token)).gap) (.lf (Sum.inr ([],{what:=[],op:=0,l:=[],D7:=0,at_:=0,size:=0},false))) T4)) T4)); .br (decide (E10.D4=[(46:UInt8)])) (.br (decide (E8>=(2:Int))) (let E29:=Nat.beq 3 3&&Nat.blt 0 3&&decide ((0:Int)<=(1:Int)/\1<E8); .cn E29 (let E11:=x0.1.getD (Int.toNat 2+Int.toNat 1) (RK.dflt RK.vmfleetref1Token); .br (!E11.gap) (.cn E29 (.cn (decide (1+List.length E11.D4<=maxLen)) (.cn (Nat.beq 3 3&&Nat.blt 0 3&&decide ((0:Int)<=(2:Int)/\2<=E8/\E8<=E8)) (.an (Q5s ((46:UInt8)::E11.D4)) (.lv (Qe8 ([(46:UInt8)]++E11.D4)) λ(x2:List UInt8×Bool)=> .br (!x2.2) (.lf (Sum.inr ([],{what:=[],op:=0,l:=[],D7:=0,at_:=0,size:=0},false))) (let T5:Tree ((List UInt8×Int)⊕(((List UInt8)×Q09×Bool))):=let E27:=List.take (Int.toNat E8-Int.toNat 2) (List.drop (Int.toNat 2+Int.toNat 2) x0.1); .an (Q5u E27 x2.1) (.lv (Qeh E27 x2.1) λ(x3:List Q0u×Bool)=> .br (!x3.2) (.lf (Sum.inr ([],{what:=[],op:=0,l:=[],D7:=0,at_:=0,size:=0},false))) (.an (Q2z ((46:UInt8)::E11.D4)) (.lv (Q8 ([(46:UInt8)]++E11.D4)) λ(x4:Int)=> .br (decide ([(46:UInt8)]++E11.D4=[(46:UInt8),115,112,97,99,101])) (let E18:=Nat.beq 3 3&&Nat.blt 0 3&&decide ((0:Int)<=(0:Int)/\0<(x3.1.length:Int)); .cn E18 (let E24:=x3.1.getD (Int.toNat 0) (RK.dflt RK.vmfleetref1Arg); .br (decide (E24.num<0)) (.lf (Sum.inr ([],{what:=[],op:=0,l:=[],D7:=0,at_:=0,size:=0},false))) (.cn E18 (.br (decide (E24.num>1024)) (.lf (Sum.inr ([],{what:=[],op:=0,l:=[],D7:=0,at_:=0,size:=0},false))) (.cn E18 (.lf (Sum.inr (E9.D4,{what:=(46:UInt8)::E11.D4,op:=x4,l:=x3.1,D7:=0,at_:=0,size:=E24.num},true)))))))) (.lf (Sum.inr (E9.D4,{what:=(46:UInt8)::E11.D4,op:=x4,l:=x3.1,D7:=0,at_:=0,size:=1},true)))))); .br (decide ((↑(Int.toNat E8-Int.toNat 2):Int)>(0:Int))) (.cn (Nat.beq 3 3&&Nat.blt 0 3&&decide ((0:Int)<=(0:Int)/\0<(↑(Int.toNat E8-Int.toNat 2):Int))) (.br (!(x0.1.getD (Int.toNat 2+Int.toNat 2+Int.toNat 0) (RK.dflt RK.vmfleetref1Token)).gap) (.lf (Sum.inr ([],{what:=[],op:=0,l:=[],D7:=0,at_:=0,size:=0},false))) T5)) T5)))))) T2)) T2) T2)))))))))) T3)) T3)))
def Qz1(s:(List UInt8)):((List UInt8)×Q09×Bool):=(Qbr s).m
abbrev Qh2(s:(List UInt8)):Prop:=(Qbr s).p
def Z2v:LInv:={
 α:=(List UInt8)×(Int)
 F:=λst a=>([(0, .str a.1),(2,(lk st 2)),(3, .ptr 0 0 0),(4,(lk st 4)),(5, .int i64 a.2)],[⟨true,166,6, .gen [[(cT st 3 0),(cT st 3 1),(cT st 3 2),(cT st 3 3),(cT st 3 4),(cT st 3 5)]]⟩])
 a0:=λst=>((lk st 0).toStr,(lk st 5).toInt)
 ex0:=λst=>[]++[(Q0r (lk st 3) (st.rows.length+0))]
 next:=λst=>((lk st 0).toStr,(lk st 5).toInt)
 ex:=λst=>[]++[(Q0r (lk st 3) (st.rows.length+0))]}
def Qwt:List (Nat×LInv):=[(2,Z2v)]
def Z97:Q0c:=mkP 163 [] false [.one (.str)] [] (λargs rows=>Qh2 (argS args 0)) (λargs rows=>Qz1 (argS args 0)) (λX=> .tup [.str (X.1), .agg (Q09.cells (X.2.1)), .bool (X.2.2)]) (λX=>[])
theorem Z3o:Q05 Tryz.prog Z97:=Q0n Q0j Q0k (.cons Z2f (.cons Qw4 (.cons Qyv (.cons Z17 (.cons Qkf (.nil)))))) Tryz.func163 Tryz.call163 (λargs rows=>Qbr (argS args 0)) [.sl (.recs .vmfleetref1Arg) false] Qwt 3 (λ_ _ _=>by kernel_rfl) (λ_ _=>rfl) (λ_ _ h=>h) (λh=>by cases h)
def Qka(l:(List Q2))(label:(List UInt8))(z:(Int)):Prop:=0<=z/\z<=l.length
def Qci(l:(List Q2))(label:(List UInt8))(z:(Int)):Nat:=(l.length-z).toNat
def Qds(l:(List Q2))(label:(List UInt8)):Tree (Int×Bool):=
.lp inferInstance (Qci l label 0+1) ((((Els.Nil (Els.recs RK.apiSymbol l)\/rE (2:Nat))/\rE (l:List (RK.T RK.apiSymbol)))/\rE (label:List UInt8)/\rE (0:Int)/\True)/\True) 0 λ(v0:Int)=> .br (decide (v0<(l.length:Int))) (let E1:=Nat.beq 2 2&&Nat.blt 0 2&&decide (0<=v0/\v0<(l.length:Int)); .cn E1 (let E2:=l.getD v0.toNat (RK.dflt RK.apiSymbol); .br (decide (E2.Name=label)) (.cn E1 (.lf (Sum.inr (E2.Addr,true)))) (.nx ((((Els.Nil (Els.recs RK.apiSymbol l)\/rE (2:Nat))/\rE (l:List (RK.T RK.apiSymbol)))/\rE (label:List UInt8)/\rE ((wrap i64 (v0+1)):Int)/\True)/\True) (Sum.inl (wrap i64 (v0+1)))))) (.lf (Sum.inr (0,false)))
def Qng(l:(List Q2))(label:(List UInt8)):(Int×Bool):=(Qds l label).m
def Q36(l:(List Q2))(label:(List UInt8)):Prop:=
l.length<=1000000000000
theorem Qwu(l:(List Q2))(label:(List UInt8))(hw:Q36 l label):(Qds l label).p:=by
 simp only[Q36]at hw
 unfold Tree.p Qds
 repeat'(first|refine w_lp (inv:=Qka l label) (μ:=Qci l label) ?_ (Nat.lt_succ_self _) (λ_ _=> ?_)|exact trivial|refine w_br (λ_=> ?_) (λ_=> ?_)|refine w_cn ?_ ?_|refine w_an ?_ ?_|refine w_lv (λ_ _=> ?_)|refine w_nx ?_|refine w_lf ?_|refine And.intro ?_ ?_)
 all_goals((try simp only[Qka,Qci]at*);((subst_vars;first|trivial|assumption|omega|((simp(config:={decide:=true,failIfUnchanged:=false}) only[Bool.and_eq_true,Bool.or_eq_true,Bool.and_eq_false_iff,Bool.or_eq_false_iff,Bool.not_eq_true',Bool.not_eq_false',Bool.not_eq_true,Bool.not_eq_false,decide_eq_true_eq,decide_eq_false_iff_not,Q4j,Q2t,Q4f,Q2u,beq_iff_eq,beq_eq_false_iff_ne,bne_iff_ne,bne_eq_false_iff_eq,ne_eq,List.all_cons,List.all_nil,D.plain,List.length_cons,List.length_nil,List.length_append,List.length_set,List.length_replicate,IntKind.wrap_i64,IntKind.wrap_u64,IntKind.wrap_u32,IntKind.wrap_i32,IntKind.wrap_u8,true_and,and_true,or_false,false_or,or_true,true_or,not_true_eq_false,not_false_eq_true,Prod.fst,Prod.snd]at*);first|done|assumption|omega)|((simp(config:={decide:=true,failIfUnchanged:=false}) only[Bool.and_eq_true,Bool.or_eq_true,Bool.and_eq_false_iff,Bool.or_eq_false_iff,Bool.not_eq_true',Bool.not_eq_false',Bool.not_eq_true,Bool.not_eq_false,decide_eq_true_eq,decide_eq_false_iff_not,Q4j,Q2t,Q4f,Q2u,beq_iff_eq,beq_eq_false_iff_ne,bne_iff_ne,bne_eq_false_iff_eq,ne_eq,List.all_cons,List.all_nil,D.plain,List.length_cons,List.length_nil,List.length_append,List.length_set,List.length_replicate,IntKind.wrap_i64,IntKind.wrap_u64,IntKind.wrap_u32,IntKind.wrap_i32,IntKind.wrap_u8,true_and,and_true,or_false,false_or,or_true,true_or,not_true_eq_false,not_false_eq_true,Prod.fst,Prod.snd]at*);simp only[<-List.length_pos_iff]at*;omega)|(simp_all;done)|(have:= @Qfc;simp_all;try omega))))
def Z0v:LInv:={
 α:=(Int)
 F:=λst a=>([(0,(lk st 0)),(1,(lk st 1)),(6, .int i64 a)],[])
 a0:=λst=>(lk st 6).toInt
 ex0:=λst=>[]++[]
 next:=λst=>(lk st 6).toInt
 ex:=λst=>[]++[]}
def Qtb:List (Nat×LInv):=[(2,Z0v)]
def Z2b:Q0c:=mkP 117 [] true [.one (.recs .apiSymbol), .one (.str)] [] (λargs rows=>Q36 (argR .apiSymbol args 0) (argS args 1)) (λargs rows=>Qng (argR .apiSymbol args 0) (argS args 1)) (λX=> .tup [.int .u32 (X.1), .bool (X.2)]) (λX=>[])
theorem Qmb:Q05 Tryz.prog Z2b:=Q0n Q0j Q0k (.nil) Tryz.func117 Tryz.call117 (λargs rows=>Qds (argR .apiSymbol args 0) (argS args 1)) [] Qtb 3 (λ_ _ _=>by kernel_rfl) (λ_ _=>rfl) (λargs rows h=>Qwu (argR .apiSymbol args 0) (argS args 1) h) (λ_ X=>by kernel_rfl)
def Z05(src:(List UInt8))(z:(Int)×(Int)×(List Q2)×(List Q09)):Nat:=((Qtt src).length-z.2.1).toNat
def Qi4(src:(List UInt8)):Tree ((List Q2)×(List Q09)×Q1b):=
.br (decide ((src.length:Int)>(8192:Int))) (.lf ([],[],{Err:=300,Line:=0})) (.an (Qj6 src) (.lv (Qtt src) λ(x0:List (List UInt8))=> .lp inferInstance (Z05 src (0,0,[],[])+1) (((rE (0:Nat)/\rE (0:Nat))/\True/\True/\rE (0:Int)/\True/\rE (0:Int)/\True)/\(rE (0:Int)/\rE (0:Int)/\True)/\rE (x0:List (RK.T RK.str))/\rE ([]:List (RK.T RK.apiSymbol))/\rE ([]:List (RK.T RK.vmfleetref1Statement))/\True) (0,0,[],[]) λ(v0:Int×Int×List Q2×List Q09)=> .br (decide (v0.2.1<(x0.length:Int))) (.cn (Nat.beq 1 1&&Nat.blt 0 1&&decide (0<=v0.2.1/\v0.2.1<(x0.length:Int))) (let E3:=x0.getD v0.2.1.toNat (RK.dflt RK.str); .an (Qh2 E3) (.lv (Qz1 E3) λ(x1:List UInt8×Q09×Bool)=> .br (!x1.2.2) (.lf (Sum.inr ([],[],{Err:=301,Line:=wrap i64 (v0.2.1+1)}))) (let E1:=({Err:=305,Line:=wrap i64 (v0.2.1+1)}:Q1b);let E2:=decide (72*(v0.2.2.2.length+1)<=140737488355328);let E4:=decide (wrap i64 (v0.1+x1.2.1.size)>1024); .br (!decide (x1.1=[])) (.an (Q36 v0.2.2.1 x1.1) (.lv (Qng v0.2.2.1 x1.1) λ(x2:Int×Bool)=> .br x2.2 (.lf (Sum.inr ([],[],{Err:=303,Line:=wrap i64 (v0.2.1+1)}))) (.cn (decide (24*(v0.2.2.1.length+1)<=140737488355328)) (let E5:=({Name:=x1.1,Addr:=wrap u32 (wrap i64 (4*v0.1))}:Q2); .br (!decide (x1.2.1.what=[])) (.cn E2 (.br E4 (.lf (Sum.inr ([],[],E1))) (.nx (((rE (0:Nat)/\rE (0:Nat))/\True/\True/\rE ((wrap i64 (v0.1+x1.2.1.size)):Int)/\True/\rE ((wrap i64 (v0.2.1+1)):Int)/\True)/\(rE (0:Int)/\rE (0:Int)/\True)/\rE (x0:List (RK.T RK.str))/\rE ((v0.2.2.1++[{Name:=x1.1,Addr:=wrap u32 (wrap i64 (4*v0.1))}]):List (RK.T RK.apiSymbol))/\rE ((v0.2.2.2++[{what:=x1.2.1.what,op:=x1.2.1.op,l:=x1.2.1.l,D7:=wrap i64 (v0.2.1+1),at_:=v0.1,size:=x1.2.1.size}]):List (RK.T RK.vmfleetref1Statement))/\True) (Sum.inl (wrap i64 (v0.1+x1.2.1.size),wrap i64 (v0.2.1+1),v0.2.2.1++[E5],v0.2.2.2++[{what:=x1.2.1.what,op:=x1.2.1.op,l:=x1.2.1.l,D7:=wrap i64 (v0.2.1+1),at_:=v0.1,size:=x1.2.1.size}]))))) (.br (decide (v0.1>1024)) (.lf (Sum.inr ([],[],E1))) (.nx (((rE (0:Nat)/\rE (0:Nat))/\True/\True/\rE v0.1/\True/\rE ((wrap i64 (v0.2.1+1)):Int)/\True)/\(rE (0:Int)/\rE (0:Int)/\True)/\rE (x0:List (RK.T RK.str))/\rE ((v0.2.2.1++[{Name:=x1.1,Addr:=wrap u32 (wrap i64 (4*v0.1))}]):List (RK.T RK.apiSymbol))/\rE v0.2.2.2/\True) (Sum.inl (v0.1,wrap i64 (v0.2.1+1),v0.2.2.1++[E5],v0.2.2.2)))))))) (.br (!decide (x1.2.1.what=[])) (.cn E2 (.br E4 (.lf (Sum.inr ([],[],E1))) (.nx (((rE (0:Nat)/\rE (0:Nat))/\True/\True/\rE ((wrap i64 (v0.1+x1.2.1.size)):Int)/\True/\rE ((wrap i64 (v0.2.1+1)):Int)/\True)/\(rE (0:Int)/\rE (0:Int)/\True)/\rE (x0:List (RK.T RK.str))/\rE v0.2.2.1/\rE ((v0.2.2.2++[{what:=x1.2.1.what,op:=x1.2.1.op,l:=x1.2.1.l,D7:=wrap i64 (v0.2.1+1),at_:=v0.1,size:=x1.2.1.size}]):List (RK.T RK.vmfleetref1Statement))/\True) (Sum.inl (wrap i64 (v0.1+x1.2.1.size),wrap i64 (v0.2.1+1),v0.2.2.1,v0.2.2.2++[{what:=x1.2.1.what,op:=x1.2.1.op,l:=x1.2.1.l,D7:=wrap i64 (v0.2.1+1),at_:=v0.1,size:=x1.2.1.size}]))))) (.br (decide (v0.1>1024)) (.lf (Sum.inr ([],[],E1))) (.nx (((rE (0:Nat)/\rE (0:Nat))/\True/\True/\rE v0.1/\True/\rE ((wrap i64 (v0.2.1+1)):Int)/\True)/\(rE (0:Int)/\rE (0:Int)/\True)/\rE (x0:List (RK.T RK.str))/\rE v0.2.2.1/\rE v0.2.2.2/\True) (Sum.inl (v0.1,wrap i64 (v0.2.1+1),v0.2.2.1,v0.2.2.2))))))))) (.lf (Sum.inr (v0.2.2.1,v0.2.2.2,{Err:=0,Line:=0})))))
def Z0k(src:(List UInt8)):((List Q2)×(List Q09)×Q1b):=(Qi4 src).m
abbrev Qli(src:(List UInt8)):Prop:=(Qi4 src).p
def Zdh:LInv:={
 α:=(Int)×(Int)×(List Q2)×(List Q09)
 F:=λst a=>([(4, .ptr 0 0 0),(5, .all 2),(6, .all 3),(7, .int i64 a.1),(8, .all 1),(9, .int i64 a.2.1)],[⟨true,95,2, .gen [[(cT st 4 0),(cT st 4 1)]]⟩,⟨false,9,1,esOf st.rows (rN st 8)⟩,⟨false,216,2, .recs RK.apiSymbol a.2.2.1⟩,⟨false,166,6, .recs RK.vmfleetref1Statement a.2.2.2⟩])
 a0:=λst=>((lk st 7).toInt,(lk st 9).toInt,(Q46 RK.apiSymbol st.rows (rN st 5)),(Q46 RK.vmfleetref1Statement st.rows (rN st 6)))
 ex0:=λst=>[]++[(Q0r (lk st 4) (st.rows.length+0)),(Q0r (lk st 8) (st.rows.length+1)),(Q0r (lk st 5) (st.rows.length+2)),(Q0r (lk st 6) (st.rows.length+3))]
 next:=λst=>((lk st 7).toInt,(lk st 9).toInt,(Q46 RK.apiSymbol st.rows (rN st 5)),(Q46 RK.vmfleetref1Statement st.rows (rN st 6)))
 ex:=λst=>[]++[(Q0r (lk st 4) (st.rows.length+0)),(Q0r (lk st 8) (st.rows.length+1)),(Q0r (lk st 5) (st.rows.length+2)),(Q0r (lk st 6) (st.rows.length+3))]}
def Z3:List (Nat×LInv):=[(8,Zdh)]
def Zf8:Q0c:=mkP 116 [] false [.one (.str)] [] (λargs rows=>Qli (argS args 0)) (λargs rows=>Z0k (argS args 0)) (λX=> .tup [.all 0, .all 1, .agg (Q1b.cells (X.2.2))]) (λX=>[⟨false,216,2, .recs .apiSymbol (X.1)⟩,⟨false,166,6, .recs .vmfleetref1Statement (X.2.1)⟩])
theorem Zdo:Q05 Tryz.prog Zf8:=Q0n Q0j Q0k (.cons Z9e (.cons Z3o (.cons Qmb (.nil)))) Tryz.func116 Tryz.call116 (λargs rows=>Qi4 (argS args 0)) [.row 216 2 (.recs .apiSymbol), .row 166 6 (.recs .vmfleetref1Statement)] Z3 3 (λ_ _ _=>by kernel_rfl) (λ_ _=>rfl) (λ_ _ h=>h) (λh=>by cases h)
def Qgl(st:Q09)(v:Int):Tree (Int×Bool):=
.lv (Q25 st.op) λ(x0:Int)=> .lv (Qky x0) λ(x1:Int×Int)=>let E7:=st.l.getD (Int.toNat 0) (RK.dflt RK.vmfleetref1Arg);let E8:=st.l.getD (Int.toNat 1) (RK.dflt RK.vmfleetref1Arg);let E9:=Nat.beq 3 3&&Nat.blt 0 3&&decide ((0:Int)<=(0:Int)/\0<(st.l.length:Int));let E10:=Nat.beq 3 3&&Nat.blt 0 3&&decide ((0:Int)<=(1:Int)/\1<(st.l.length:Int));let E11:=st.l.getD (Int.toNat 2) (RK.dflt RK.vmfleetref1Arg);let E12:=Nat.beq 3 3&&Nat.blt 0 3&&decide ((0:Int)<=(2:Int)/\2<(st.l.length:Int)); .br (x0==2) (.cn E9 (.cn E10 (.cn E12 (let T2:Tree ((Int×Bool)):= .br (decide (0<x1.1)) (.lf (0,false)) (.br (decide (0>x1.2)) (.lf (0,false)) (.lv (Q1f {Op:=st.op,A:=E7.reg,B:=E8.reg,C:=E11.reg,Imm:=wrap i32 0}) λ(x2:Int×Bool)=> .lf (x2.1,x2.2))); .br (x0==2) T2 (.br (x0==1) T2 (.br (decide (v<x1.1)) (.lf (0,false)) (.br (decide (v>x1.2)) (.lf (0,false)) (.lv (Q1f {Op:=st.op,A:=E7.reg,B:=E8.reg,C:=E11.reg,Imm:=wrap i32 v}) λ(x4:Int×Bool)=> .lf (x4.1,x4.2))))))))) (let T1:Tree ((Int×Bool)):= .br (decide (x0>=6)) (.cn E9 (let T5:Tree ((Int×Bool)):= .br (decide (0<x1.1)) (.lf (0,false)) (.br (decide (0>x1.2)) (.lf (0,false)) (.lv (Q1f {Op:=st.op,A:=E7.reg,B:=0,C:=0,Imm:=wrap i32 0}) λ(x8:Int×Bool)=> .lf (x8.1,x8.2))); .br (x0==2) T5 (.br (x0==1) T5 (.br (decide (v<x1.1)) (.lf (0,false)) (.br (decide (v>x1.2)) (.lf (0,false)) (.lv (Q1f {Op:=st.op,A:=E7.reg,B:=0,C:=0,Imm:=wrap i32 v}) λ(x10:Int×Bool)=> .lf (x10.1,x10.2))))))) (.br (x0 !=1) (.cn E9 (.cn E10 (let T3:Tree ((Int×Bool)):= .br (decide (0<x1.1)) (.lf (0,false)) (.br (decide (0>x1.2)) (.lf (0,false)) (.lv (Q1f {Op:=st.op,A:=E7.reg,B:=E8.reg,C:=0,Imm:=wrap i32 0}) λ(x11:Int×Bool)=> .lf (x11.1,x11.2))); .br (x0==2) T3 (.br (x0==1) T3 (.br (decide (v<x1.1)) (.lf (0,false)) (.br (decide (v>x1.2)) (.lf (0,false)) (.lv (Q1f {Op:=st.op,A:=E7.reg,B:=E8.reg,C:=0,Imm:=wrap i32 v}) λ(x13:Int×Bool)=> .lf (x13.1,x13.2)))))))) (let T6:Tree ((Int×Bool)):= .br (decide (0<x1.1)) (.lf (0,false)) (.br (decide (0>x1.2)) (.lf (0,false)) (.lv (Q1f {Op:=st.op,A:=0,B:=0,C:=0,Imm:=wrap i32 0}) λ(x14:Int×Bool)=> .lf (x14.1,x14.2))); .br (x0==2) T6 (.br (x0==1) T6 (.br (decide (v<x1.1)) (.lf (0,false)) (.br (decide (v>x1.2)) (.lf (0,false)) (.lv (Q1f {Op:=st.op,A:=0,B:=0,C:=0,Imm:=wrap i32 v}) λ(x16:Int×Bool)=> .lf (x16.1,x16.2))))))); .br (decide (st.op>=32)) (.br (decide (st.op<=36)) (.cn E9 (.cn E12 (.cn E10 (let T4:Tree ((Int×Bool)):= .br (decide (0<x1.1)) (.lf (0,false)) (.br (decide (0>x1.2)) (.lf (0,false)) (.lv (Q1f {Op:=st.op,A:=E7.reg,B:=E11.reg,C:=0,Imm:=wrap i32 0}) λ(x5:Int×Bool)=> .lf (x5.1,x5.2))); .br (x0==2) T4 (.br (x0==1) T4 (.br (decide (E8.num<x1.1)) (.lf (0,false)) (.br (decide (E8.num>x1.2)) (.lf (0,false)) (.lv (Q1f {Op:=st.op,A:=E7.reg,B:=E11.reg,C:=0,Imm:=wrap i32 E8.num}) λ(x7:Int×Bool)=> .lf (x7.1,x7.2))))))))) T1) T1)
def Qnw(st:Q09)(v:Int):(Int×Bool):=(Qgl st v).m
abbrev Q9p(st:Q09)(v:Int):Prop:=(Qgl st v).p
def Zh2:Q0c:=mkP 118 [] true [.agg Q09.sig, .one (.int .i64)] [] (λargs rows=>Q9p (Q09.of (args.getD 0 .dead).cells) (argI args 1)) (λargs rows=>Qnw (Q09.of (args.getD 0 .dead).cells) (argI args 1)) (λX=> .tup [.int .u32 (X.1), .bool (X.2)]) (λX=>[])
theorem Zd1:Q05 Tryz.prog Zh2:=Q0n Q0j Q0k (.cons Qei (.cons Qpq (.cons Qjc (.nil)))) Tryz.func118 Tryz.call118 (λargs rows=>Qgl (Q09.of (args.getD 0 .dead).cells) (argI args 1)) [] [] 2 (λ_ _ _=>by kernel_rfl) (λ_ _=>rfl) (λ_ _ h=>h) (λ_ X=>by kernel_rfl)
end
end Go.Proofs.YtjaifpiopmhmlaaGreat

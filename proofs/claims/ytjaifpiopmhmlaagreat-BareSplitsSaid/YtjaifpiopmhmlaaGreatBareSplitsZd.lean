/-
  Functions of the program: models, and that its calls come to them (by a program: gen3.py).
-/
import Derived.Test.YtjaifpiopmhmlaaGreatBareSplitsBase
import Derived.Test.YtjaifpiopmhmlaaGreatBareSplitsHand
import Derived.Test.YtjaifpiopmhmlaaGreatBareSplitsYe
set_option maxRecDepth 100000
set_option linter.all false
namespace Go.Proofs.YtjaifpiopmhmlaaGreat
open Go Go.GD Go.IntKind
noncomputable section
instance sumInhZd {α β:Type} [Inhabited β]:Inhabited (α⊕β):=⟨.inr default⟩
def Qxu(src:(List UInt8))(z:(Int)×(Int)×(List (List UInt8))):Nat:=(src.length-z.2.1).toNat
def Qew(src:(List UInt8)):Tree (List (List UInt8)):=
.lp inferInstance (Qxu src (0,0,[])+1) ((rE (src:List UInt8)/\True/\rE (0:Int)/\rE (0:Int)/\True)/\rE ([]:List (RK.T RK.str))/\True) (0,0,[]) λ(v0:Int×Int×List (List UInt8))=>let E1:=decide (16*(v0.2.2.length+1)<=140737488355328); .br (decide (v0.2.1<(src.length:Int))) (.cn (decide (0<=v0.2.1/\v0.2.1<(src.length:Int))) (.br ((↑(UInt8.toNat (src.getD v0.2.1.toNat (0:UInt8))):Int)==(10:Int)) (.cn (decide (0<=v0.1/\v0.1<=v0.2.1/\v0.2.1<=(src.length:Int))) (.cn E1 (.nx ((rE (src:List UInt8)/\True/\rE ((wrap i64 (v0.2.1+1)):Int)/\rE ((wrap i64 (v0.2.1+1)):Int)/\True)/\rE ((v0.2.2++[List.take (Int.toNat v0.2.1-Int.toNat v0.1) (List.drop v0.1.toNat src)]):List (RK.T RK.str))/\True) (Sum.inl (wrap i64 (v0.2.1+1),wrap i64 (v0.2.1+1),v0.2.2++[List.take (Int.toNat v0.2.1-Int.toNat v0.1) (List.drop v0.1.toNat src)]))))) (.nx ((rE (src:List UInt8)/\True/\rE v0.1/\rE ((wrap i64 (v0.2.1+1)):Int)/\True)/\rE v0.2.2/\True) (Sum.inl (v0.1,wrap i64 (v0.2.1+1),v0.2.2))))) (.br (decide (v0.1<(src.length:Int))) (.cn (decide (0<=v0.1/\v0.1<=(src.length:Int)/\(src.length:Int)<=(src.length:Int))) (.cn E1 (.lf (Sum.inr (v0.2.2++[List.take (Int.toNat (src.length:Int)-Int.toNat v0.1) (List.drop v0.1.toNat src)]))))) (.lf (Sum.inr v0.2.2)))
def Qu2(src:(List UInt8)):(List (List UInt8)):=(Qew src).m
abbrev Qj5(src:(List UInt8)):Prop:=(Qew src).p
def Z8n:LInv:={
 α:=(Int)×(Int)×(List (List UInt8))
 F:=λst a=>([(0,(lk st 0)),(3, .all 0),(4, .int i64 a.1),(5, .int i64 a.2.1)],[⟨false,9,1, .recs RK.str a.2.2⟩])
 a0:=λst=>((lk st 4).toInt,(lk st 5).toInt,(Q4d RK.str st.rows (rN st 3)))
 ex0:=λst=>[]++[(Q0r (lk st 3) (st.rows.length+0))]
 next:=λst=>((lk st 4).toInt,(lk st 5).toInt,(Q4d RK.str st.rows (rN st 3)))
 ex:=λst=>[]++[(Q0r (lk st 3) (st.rows.length+0))]}
def Qzt:List (Nat×LInv):=[(4,Z8n)]
def Zcl:Q0c:=mkP 162 [] true [.one (.str)] [] (λargs rows=>Qj5 (argS args 0)) (λargs rows=>Qu2 (argS args 0)) (λX=> .all 0) (λX=>[⟨false,9,1, .recs .str X⟩])
theorem Z6j:Q05 Tryz.prog Zcl:=Q0n Q0j Q0k (.nil) Tryz.func162 Tryz.call162 (λargs rows=>Qew (argS args 0)) [.row 9 1 (.recs .str)] Qzt 3 (λ_ _ _=>by kernel_rfl) (λ_ _=>rfl) (λ_ _ h=>h) (λ_ X=>by kernel_rfl)
def Qsf(c:Int):Tree Bool:=
.br (decide (c>=97)) (.lf (decide (c<=122))) (.lf false)
def Qi2(c:Int):Bool:=(Qsf c).m
def Z7u:Q0c:=mkR 258 [] true [.one (.int .u8)] [] (λargs rows=>Qi2 (argI args 0)) (λX=> .bool X) (λX=>[])
theorem Qph:Q05 Tryz.prog Z7u:=Q0z Q0j Q0k (.nil) Tryz.func258 Tryz.call258 (λargs rows=>Qsf (argI args 0)) [] [] 2 (λ_ _ _=>by kernel_rfl) (λ_ _=>rfl) (λ_ _=>Tree.free_ok (by kernel_rfl)) (λ_ X=>by kernel_rfl)
def Qw9(c:Int):Tree Bool:=
.br (decide (c>=48)) (.lf (decide (c<=57))) (.lf false)
def Qcz(c:Int):Bool:=(Qw9 c).m
def Zc4:Q0c:=mkR 259 [] true [.one (.int .u8)] [] (λargs rows=>Qcz (argI args 0)) (λX=> .bool X) (λX=>[])
theorem Qss:Q05 Tryz.prog Zc4:=Q0z Q0j Q0k (.nil) Tryz.func259 Tryz.call259 (λargs rows=>Qw9 (argI args 0)) [] [] 2 (λ_ _ _=>by kernel_rfl) (λ_ _=>rfl) (λ_ _=>Tree.free_ok (by kernel_rfl)) (λ_ X=>by kernel_rfl)
def Quc(s:(List UInt8))(z:(Bool)×(Int)×(List Q0h)):Nat:=(s.length-z.2.1).toNat
def Qtk(s:(List UInt8))(v0:Bool×Int×List Q0h)(z:(Int)):Nat:=(s.length-z).toNat
def Qtp(s:(List UInt8))(v0:Bool×Int×List Q0h)(z:(Int)):Nat:=(s.length-z).toNat
def Qbr(s:(List UInt8)):Tree ((List Q0h)×Bool):=
.lp inferInstance (Quc s (true,0,[])+1) ((rE (s:List UInt8)/\True/\rE (true:Bool)/\rE (0:Int)/\True)/\rE ([]:List (RK.T RK.vmfleetref1Token))/\True) (true,0,[]) λ(v0:Bool×Int×List Q0h)=> .br (decide (v0.2.1<(s.length:Int))) (.cn (decide (0<=v0.2.1/\v0.2.1<(s.length:Int))) (let E7:=(↑(UInt8.toNat (s.getD v0.2.1.toNat (0:UInt8))):Int); .br (E7==(32:Int)) (.nx ((rE (s:List UInt8)/\True/\rE (true:Bool)/\rE ((wrap i64 (v0.2.1+1)):Int)/\True)/\rE v0.2.2/\True) (Sum.inl (true,wrap i64 (v0.2.1+1),v0.2.2))) (.lv (Qi2 E7) λ(x0:Bool)=>let E10:=decide (32*(v0.2.2.length+1)<=140737488355328);let E13:=List.drop v0.2.1.toNat s; .br x0 (.lp inferInstance (Qtk s v0 v0.2.1+1) ((rE (s:List UInt8)/\True/\rE v0.1/\rE v0.2.1/\rE v0.2.1/\True)/\rE v0.2.2/\True) v0.2.1 λ(v1:Int)=>let T3:Tree ((Int)⊕((Bool×Int×List Q0h)⊕(((List Q0h)×Bool)))):= .cn (decide (0<=v0.2.1/\v0.2.1<=v1/\v1<=(s.length:Int))) (.cn E10 (.nx ((rE (s:List UInt8)/\True/\rE (false:Bool)/\rE (v1:Int)/\True)/\rE ((v0.2.2++[{kind:=1,D4:=List.take (Int.toNat v1-Int.toNat v0.2.1) (List.drop v0.2.1.toNat s),gap:=v0.1}]):List (RK.T RK.vmfleetref1Token))/\True) (Sum.inr (Sum.inl (false,v1,v0.2.2++[{kind:=1,D4:=List.take (Int.toNat v1-Int.toNat v0.2.1) E13,gap:=v0.1}]))))); .br (decide (v1<(s.length:Int))) (let E11:=decide (0<=v1/\v1<(s.length:Int)); .cn E11 (let E8:=(↑(UInt8.toNat (s.getD v1.toNat (0:UInt8))):Int); .lv (Qi2 E8) λ(x1:Bool)=>let T5:Tree ((Int)⊕((Bool×Int×List Q0h)⊕(((List Q0h)×Bool)))):= .nx ((rE (s:List UInt8)/\True/\rE v0.1/\rE ((wrap i64 (v1+1)):Int)/\rE v0.2.1/\True)/\rE v0.2.2/\True) (Sum.inl (wrap i64 (v1+1))); .br x1 T5 (.cn E11 (.lv (Qcz E8) λ(x2:Bool)=> .br x2 T5 (.cn E11 (.br (E8==(95:Int)) T5 T3)))))) T3) (.lv (Qcz E7) λ(x3:Bool)=>let T2:Tree ((Bool×Int×List Q0h)⊕(((List Q0h)×Bool))):= .lp inferInstance (Qtp s v0 (wrap i64 (v0.2.1+1))+1) ((rE (s:List UInt8)/\True/\rE v0.1/\rE ((wrap i64 (v0.2.1+1)):Int)/\rE v0.2.1/\True)/\rE v0.2.2/\True) (wrap i64 (v0.2.1+1)) λ(v1:Int)=>let T4:Tree ((Int)⊕((Bool×Int×List Q0h)⊕(((List Q0h)×Bool)))):= .cn (decide (0<=v0.2.1/\v0.2.1<=v1/\v1<=(s.length:Int))) (.cn E10 (.nx ((rE (s:List UInt8)/\True/\rE (false:Bool)/\rE (v1:Int)/\True)/\rE ((v0.2.2++[{kind:=2,D4:=List.take (Int.toNat v1-Int.toNat v0.2.1) (List.drop v0.2.1.toNat s),gap:=v0.1}]):List (RK.T RK.vmfleetref1Token))/\True) (Sum.inr (Sum.inl (false,v1,v0.2.2++[{kind:=2,D4:=List.take (Int.toNat v1-Int.toNat v0.2.1) E13,gap:=v0.1}]))))); .br (decide (v1<(s.length:Int))) (let E12:=decide (0<=v1/\v1<(s.length:Int)); .cn E12 (let E9:=(↑(UInt8.toNat (s.getD v1.toNat (0:UInt8))):Int); .lv (Qi2 E9) λ(x4:Bool)=>let T6:Tree ((Int)⊕((Bool×Int×List Q0h)⊕(((List Q0h)×Bool)))):= .nx ((rE (s:List UInt8)/\True/\rE v0.1/\rE ((wrap i64 (v1+1)):Int)/\rE v0.2.1/\True)/\rE v0.2.2/\True) (Sum.inl (wrap i64 (v1+1))); .br x4 T6 (.cn E12 (.lv (Qcz E9) λ(x5:Bool)=> .br x5 T6 (.cn E12 (.br (E9==(95:Int)) T6 T4)))))) T4; .br x3 T2 (.br (E7==(45:Int)) T2 (let T1:Tree ((Bool×Int×List Q0h)⊕(((List Q0h)×Bool))):= .cn (decide (0<=v0.2.1/\v0.2.1<=wrap i64 (v0.2.1+1)/\wrap i64 (v0.2.1+1)<=(s.length:Int))) (.cn E10 (.nx ((rE (s:List UInt8)/\True/\rE (false:Bool)/\rE ((wrap i64 (v0.2.1+1)):Int)/\True)/\rE ((v0.2.2++[{kind:=3,D4:=List.take (Int.toNat (wrap i64 (v0.2.1+1))-Int.toNat v0.2.1) (List.drop v0.2.1.toNat s),gap:=v0.1}]):List (RK.T RK.vmfleetref1Token))/\True) (Sum.inl (false,wrap i64 (v0.2.1+1),v0.2.2++[{kind:=3,D4:=List.take (Int.toNat (wrap i64 (v0.2.1+1))-Int.toNat v0.2.1) E13,gap:=v0.1}])))); .br (E7==(44:Int)) T1 (.br (E7==(58:Int)) T1 (.br (E7==(40:Int)) T1 (.br (E7==(41:Int)) T1 (.br (E7==(46:Int)) T1 (.lf (Sum.inr ([],false))))))))))))) (.lf (Sum.inr (v0.2.2,true)))
def Z12(s:(List UInt8)):((List Q0h)×Bool):=(Qbr s).m
abbrev Qi9(s:(List UInt8)):Prop:=(Qbr s).p
def Z32:LInv:={
 α:=(Bool)×(Int)×(List Q0h)
 F:=λst a=>([(0,(lk st 0)),(4, .all 0),(5, .bool a.1),(6, .int i64 a.2.1)],[⟨false,273,3, .recs RK.vmfleetref1Token a.2.2⟩])
 a0:=λst=>((lk st 5).toBool,(lk st 6).toInt,(Q4d RK.vmfleetref1Token st.rows (rN st 4)))
 ex0:=λst=>[]++[(Q0r (lk st 4) (st.rows.length+0))]
 next:=λst=>((lk st 5).toBool,(lk st 6).toInt,(Q4d RK.vmfleetref1Token st.rows (rN st 4)))
 ex:=λst=>[]++[(Q0r (lk st 4) (st.rows.length+0))]}
def Z3s:LInv:={
 α:=(Int)
 F:=λst a=>([(0,(lk st 0)),(4, .all 0),(5,(lk st 5)),(6, .int i64 a),(8,(lk st 8))],[⟨false,273,3,esOf st.rows (rN st 4)⟩])
 a0:=λst=>(lk st 6).toInt
 ex0:=λst=>[]++[(Q0r (lk st 4) (st.rows.length+0))]
 next:=λst=>(lk st 6).toInt
 ex:=λst=>[]++[(Q0r (lk st 4) (st.rows.length+0))]}
def Z37:LInv:={
 α:=(Int)
 F:=λst a=>([(0,(lk st 0)),(4, .all 0),(5,(lk st 5)),(6, .int i64 a),(8,(lk st 8))],[⟨false,273,3,esOf st.rows (rN st 4)⟩])
 a0:=λst=>(lk st 6).toInt
 ex0:=λst=>[]++[(Q0r (lk st 4) (st.rows.length+0))]
 next:=λst=>(lk st 6).toInt
 ex:=λst=>[]++[(Q0r (lk st 4) (st.rows.length+0))]}
def Qxe:List (Nat×LInv):=[(4,Z32),(12,Z3s),(17,Z37)]
def Z76:Q0c:=mkP 223 [] true [.one (.str)] [] (λargs rows=>Qi9 (argS args 0)) (λargs rows=>Z12 (argS args 0)) (λX=> .tup [.all 0, .bool (X.2)]) (λX=>[⟨false,273,3, .recs .vmfleetref1Token (X.1)⟩])
theorem Z25:Q05 Tryz.prog Z76:=Q0n Q0j Q0k (.cons Qph (.cons Qss (.nil))) Tryz.func223 Tryz.call223 (λargs rows=>Qbr (argS args 0)) [.row 273 3 (.recs .vmfleetref1Token)] Qxe 3 (λ_ _ _=>by kernel_rfl) (λ_ _=>rfl) (λ_ _ h=>h) (λ_ X=>by kernel_rfl)
 def digT (p:Int->Prop) (r:Int->List UInt8) (n:Int):Tree (List UInt8):=
 .br (decide (n<(10:Int))) (.lf ([(λ(n:Int)=>UInt8.ofNat n.toNat) (IntKind.wrap IntKind.u8 (IntKind.wrap IntKind.u64 ((48:Int)+n)))])) (.an (p (IntKind.wrap IntKind.u64 (Int.tdiv n (10:Int)))) (.lv (r (IntKind.wrap IntKind.u64 (Int.tdiv n (10:Int)))) λ(x0:List UInt8)=> .cn (decide (x0.length+List.length [(λ(n:Int)=>UInt8.ofNat n.toNat) (IntKind.wrap IntKind.u8 (IntKind.wrap IntKind.u64 ((48:Int)+Int.tmod n (10:Int))))]<=maxLen)) (.lf (x0++[(λ(n:Int)=>UInt8.ofNat n.toNat) (IntKind.wrap IntKind.u8 (IntKind.wrap IntKind.u64 ((48:Int)+Int.tmod n (10:Int))))]))))
 def digF:Nat->Int->List UInt8
   |0,_=>[]
   |k+1,n=>(digT (λ_=>True) (digF k) n).m
 def digP (k:Nat) (n:Int):Prop:=0<=n/\n<10^k/\n<18446744073709551616/\0<k/\k<=30
 def digM (k:Nat):Q0c:=mkP 115 [] true [.one (.int .u64)] [] (λargs rows=>digP k (argI args 0)) (λargs rows=>digF k (argI args 0)) (λX=> .str X) (λX=>[])
 theorem digF_len: ∀k n,(digF k n).length<=k
   |0,_=>Nat.le_refl _
   | k+1,n=>by
     show(bif decide (n<10) then _ else letv (digF k _) λx0=>x0++_).length<=k+1
     have:=digF_len k (IntKind.wrap IntKind.u64 (Int.tdiv n 10))
     cases decide (n<10)
     . simp [letv,Tree.m];omega
     . simp [Tree.m]
 theorem digM_ok: ∀k,Q05 Tryz.prog (digM k)
   |0=>Z5b Tryz.call115 (λargs rows h=>absurd h.2.2.2.1 (Nat.lt_irrefl 0)) (λ_ X=>by kernel_rfl)
   | k + 1=>by
     refine Q0n Q0j Q0k (.cons (digM_ok k) .nil) Tryz.func115 Tryz.call115 (λargs rows=>digT (digP k) (digF k) (argI args 0)) [] [] 2 (λ_ _ _=>by kernel_rfl) (λ_ _=>rfl) (λargs rows h=> ?_) (λ_ X=>by kernel_rfl)
     obtain⟨h0,h1,h2,h3,h4⟩:=h
     generalize argI args 0=n at*
     refine w_br (λ_=>trivial) (λhn=> ?_)
     have hn:=of_decide_eq_false hn
     have e:IntKind.wrap IntKind.u64 (Int.tdiv n 10)=n/10:=by rw[IntKind.wrap_u64,Int.tdiv_eq_ediv_of_nonneg h0];omega
     refine w_an (show digP k _ from ?_) (w_lv λx hx=>w_cn (decide_eq_true ?_) trivial)
     . rw[e]
       rw[Int.pow_succ]at h1
       have hk:0<k:=by
         rcases Nat.eq_zero_or_pos k with rfl|h
         . simp at h1;omega
         . exact h
       exact⟨by omega,by omega,by omega,hk,by omega⟩
     . have:=digF_len k (IntKind.wrap IntKind.u64 (Int.tdiv n 10))
       rw[<-hx]at this
       simp [maxLen];omega
def Qdf(n:Int):(List UInt8):=
digF 20 n
def Q2z(n:Int):Prop:=
0<=n/\n<18446744073709551616
def Qm1(n:Int):List D:=[.int .u64 n]
def Qlo(n:Int):List Row:=[]
def Qhm(X:(List UInt8)):D:= .str X
def Qhx(X:(List UInt8)):List Row:=[]
def Qmb:List PT:=[.one (.int .u64)]
def Qlv:List RT:=[]
def Z1f(args:List D)(rows:List Row):(List UInt8):=Qdf (argI args 0)
def Z0o(args:List D)(rows:List Row):Prop:=Q2z (argI args 0)
def Z87:Q0c:=mkP 115 [] true Qmb Qlv Z0o Z1f Qhm Qhx
theorem Qto(n:Int)(hw:Q2z n):Q3y Tryz.prog 115 (Qm1 n) (Qlo n) (Qhm (Qdf n)) (Qhx (Qdf n)):=by
 have h20:(18446744073709551616:Int)<=10^20:=by decide
 exact yy (args:=[.int .u64 n]) (rows:=[]) (digM_ok 20) (by kernel_rfl) ⟨hw.1,Int.lt_of_lt_of_le hw.2 h20,hw.2,by decide,by decide⟩
set_option maxRecDepth 100000 in
theorem Qxd(args:List D)(rows:List Row):Qib Qmb args 0=Qm1 (argI args 0):=by kernel_rfl
set_option maxRecDepth 100000 in
theorem Qta(args:List D)(rows:List Row):Q74 Qlv rows 0=Qlo (argI args 0):=by kernel_rfl
set_option maxRecDepth 100000 in
theorem Z2g(X:(List UInt8)):(ffB (Qhm X)&&ffBR (Qhx X))=true:=by kernel_rfl
theorem Z39:Q05 Tryz.prog Z87:=Z5b Tryz.call115 (λargs rows hp=>by rw[Qxd args rows,Qta args rows];exact Qto (argI args 0) hp) (λ_ X=>Z2g X)
def Q69(n:Int):Tree (List UInt8):=
.br (decide (n<0)) (let E1:=wrap u64 (wrap u64 (wrap i64 (0-wrap i64 (n+1)))+1); .an (Q2z E1) (.lv (Qdf E1) λ(x0:List UInt8)=> .cn (decide (1+x0.length<=maxLen)) (.lf ((45:UInt8)::x0)))) (.an (Q2z (wrap u64 n)) (.lv (Qdf (wrap u64 n)) λ(x1:List UInt8)=> .lf x1))
def Qmh(n:Int):(List UInt8):=(Q69 n).m
abbrev Qf9(n:Int):Prop:=(Q69 n).p
def Z3v:Q0c:=mkP 54 [] true [.one (.int .i64)] [] (λargs rows=>Qf9 (argI args 0)) (λargs rows=>Qmh (argI args 0)) (λX=> .str X) (λX=>[])
theorem Qz4:Q05 Tryz.prog Z3v:=Q0n Q0j Q0k (.cons Z39 (.nil)) Tryz.func54 Tryz.call54 (λargs rows=>Q69 (argI args 0)) [] [] 2 (λ_ _ _=>by kernel_rfl) (λ_ _=>rfl) (λ_ _ h=>h) (λ_ X=>by kernel_rfl)
def Qd6(r:Int):Tree (List UInt8):=
.an (Qf9 r) (.lv (Qmh r) λ(x0:List UInt8)=> .cn (decide (1+x0.length<=maxLen)) (.lf ((114:UInt8)::x0)))
def Zj5(r:Int):(List UInt8):=(Qd6 r).m
abbrev Qn3(r:Int):Prop:=(Qd6 r).p
def Zjt:Q0c:=mkP 273 [] true [.one (.int .i64)] [] (λargs rows=>Qn3 (argI args 0)) (λargs rows=>Zj5 (argI args 0)) (λX=> .str X) (λX=>[])
theorem Zep:Q05 Tryz.prog Zjt:=Q0n Q0j Q0k (.cons Qz4 (.nil)) Tryz.func273 Tryz.call273 (λargs rows=>Qd6 (argI args 0)) [] [] 2 (λ_ _ _=>by kernel_rfl) (λ_ _=>rfl) (λ_ _ h=>h) (λ_ X=>by kernel_rfl)
def Qor(s:(List UInt8))(z:(Int)):Prop:=0<=z/\z<=16
def Qeu(s:(List UInt8))(z:(Int)):Nat:=(16-z).toNat
def Qa0(s:(List UInt8)):Tree (Int×Bool):=
.lp inferInstance (Qeu s 0+1) ((rE (s:List UInt8)/\rE (0:Int)/\True)/\True) 0 λ(v0:Int)=> .br (decide (v0<16)) (.an (Qn3 v0) (.lv (Zj5 v0) λ(x0:List UInt8)=> .br (decide (s=x0)) (.lf (Sum.inr (v0,true))) (.nx ((rE (s:List UInt8)/\rE ((wrap i64 (v0+1)):Int)/\True)/\True) (Sum.inl (wrap i64 (v0+1)))))) (.lf (Sum.inr (0,false)))
def Qh8(s:(List UInt8)):(Int×Bool):=(Qa0 s).m
theorem Qq0(s:(List UInt8)):(Qa0 s).p:=by
 unfold Tree.p Qa0
 have dp: ∀x,Q2z (IntKind.wrap .u64 x):=λx=>by unfold Q2z;rw[IntKind.wrap_u64];omega
 have dl: ∀x,(Qdf x).length<=20:=λx=>digF_len 20 x
 have hd: ∀x,(Q69 x).w (λr=>r.length<=21):=λx=>by
   unfold Q69
   refine w_br (λ_=>w_an (dp _) (w_lv λx0 h0=>w_cn (decide_eq_true ?_) ?_)) (λ_=>w_an (dp _) (w_lv λx1 h1=> ?_))
   . have:=dl (IntKind.wrap .u64 (IntKind.wrap .u64 (IntKind.wrap .i64 (0-IntKind.wrap .i64 (x+1)))+1));rw[<-h0]at this;simp [maxLen];omega
   . have:=dl (IntKind.wrap .u64 (IntKind.wrap .u64 (IntKind.wrap .i64 (0-IntKind.wrap .i64 (x+1)))+1));rw[<-h0]at this;show(_::x0).length<=21;simp;omega
   . rw[h1];exact Nat.le_trans (dl _) (by decide)
 have hr: ∀x,(Qd6 x).p:=λx=>by
   unfold Tree.p Qd6
   refine w_an (Tree.pp (hd x)).1 (w_lv λx0 h0=>w_cn (decide_eq_true ?_) trivial)
   have:(Qmh x).length<=21:=(Tree.pp (hd x)).2
   rw[<-h0]at this;simp [maxLen];omega
 refine w_lp (inv:=Qor s) (μ:=Qeu s) ⟨by decide,by decide⟩ (Nat.lt_succ_self _) (λz hz=> ?_)
 obtain⟨z1,z2⟩:=hz
 refine w_br (λhb=>w_an (hr _) (w_lv λx0 _=>w_br (λ_=>trivial) (λ_=>w_nx ?_))) (λ_=>trivial)
 have hb:=of_decide_eq_true hb
 show(0<=IntKind.i64.wrap (z+1)/\IntKind.i64.wrap (z+1)<=16)/\(16-IntKind.i64.wrap (z+1)).toNat<(16-z).toNat
 rw[IntKind.wrap_i64];omega
def Qsa:LInv:={
 α:=(Int)
 F:=λst a=>([(0,(lk st 0)),(4, .int i64 a)],[])
 a0:=λst=>(lk st 4).toInt
 ex0:=λst=>[]++[]
 next:=λst=>(lk st 4).toInt
 ex:=λst=>[]++[]}
def Qox:List (Nat×LInv):=[(2,Qsa)]
def Qts:Q0c:=mkR 260 [] true [.one (.str)] [] (λargs rows=>Qh8 (argS args 0)) (λX=> .tup [.int .i64 (X.1), .bool (X.2)]) (λX=>[])
theorem Qig:Q05 Tryz.prog Qts:=Q0z Q0j Q0k (.cons Zep (.nil)) Tryz.func260 Tryz.call260 (λargs rows=>Qa0 (argS args 0)) [] Qox 3 (λ_ _ _=>by kernel_rfl) (λ_ _=>rfl) (λargs rows=>Qq0 (argS args 0)) (λ_ X=>by kernel_rfl)
def Qi6(s:(List UInt8)):Tree Bool:=
.lv (Qh8 s) λ(x0:Int×Bool)=> .br (decide ((s.length:Int)>=(1:Int))) (.br (decide ((s.length:Int)<=(12:Int))) (.cn (decide ((0:Int)<=(0:Int)/\0<(s.length:Int))) (.lv (Qi2 (↑(UInt8.toNat (s.getD (Int.toNat 0) (0:UInt8))):Int)) λ(x1:Bool)=> .br x1 (.lf (!x0.2)) (.lf false))) (.lf false)) (.lf false)
def Z1x(s:(List UInt8)):Bool:=(Qi6 s).m
abbrev Qfx(s:(List UInt8)):Prop:=(Qi6 s).p
def Zgy:Q0c:=mkP 224 [] true [.one (.str)] [] (λargs rows=>Qfx (argS args 0)) (λargs rows=>Z1x (argS args 0)) (λX=> .bool X) (λX=>[])
theorem Qvi:Q05 Tryz.prog Zgy:=Q0n Q0j Q0k (.cons Qig (.cons Qph (.nil))) Tryz.func224 Tryz.call224 (λargs rows=>Qi6 (argS args 0)) [] [] 2 (λ_ _ _=>by kernel_rfl) (λ_ _=>rfl) (λ_ _ h=>h) (λ_ X=>by kernel_rfl)
def Q9g(op:Int):Tree (List UInt8):=
let T1:Tree ((List UInt8)):=let T3:Tree ((List UInt8)):= .br (op==48) (.lf ([(106:UInt8),97,108])) (.br (op==49) (.lf ([(106:UInt8),97,108,114])) (.br (decide (op>=56)) (.br (decide (op<=64)) (.cn (Nat.beq 1 1&&Nat.blt 0 1&&decide (0<=wrap i64 (op-56)/\wrap i64 (op-56)<(↑9:Int))) (.lf (List.getD [[(101:UInt8),99,97,108,108],[(101:UInt8),114,101,116],[(99:UInt8),115,114,114],[(99:UInt8),115,114,119],[(105:UInt8),110],[(111:UInt8),117,116],[(119:UInt8),102,105],[(102:UInt8),108,117,115,104],[(104:UInt8),97,108,116]] (Int.toNat (wrap i64 (op-56))) (RK.dflt RK.str)))) (.lf ([]))) (.lf ([])))); .br (decide (op>=40)) (.br (decide (op<=45)) (.cn (Nat.beq 1 1&&Nat.blt 0 1&&decide (0<=wrap i64 (op-40)/\wrap i64 (op-40)<(↑6:Int))) (.lf (List.getD [[(98:UInt8),101,113],[(98:UInt8),110,101],[(98:UInt8),108,116],[(98:UInt8),103,101],[(98:UInt8),108,116,117],[(98:UInt8),103,101,117]] (Int.toNat (wrap i64 (op-40))) (RK.dflt RK.str)))) T3) T3;let T2:Tree ((List UInt8)):=let T4:Tree ((List UInt8)):= .br (decide (op>=32)) (.br (decide (op<=36)) (.cn (Nat.beq 1 1&&Nat.blt 0 1&&decide (0<=wrap i64 (op-32)/\wrap i64 (op-32)<(↑5:Int))) (.lf (List.getD [[(108:UInt8),119],[(108:UInt8),98],[(108:UInt8),98,117],[(115:UInt8),119],[(115:UInt8),98]] (Int.toNat (wrap i64 (op-32))) (RK.dflt RK.str)))) T1) T1; .br (decide (op>=16)) (.br (decide (op<=24)) (.cn (Nat.beq 1 1&&Nat.blt 0 1&&decide (0<=wrap i64 (op-16)/\wrap i64 (op-16)<(↑9:Int))) (.lf (List.getD [[(97:UInt8),100,100,105],[(97:UInt8),110,100,105],[(111:UInt8),114,105],[(120:UInt8),111,114,105],[(115:UInt8),104,108,105],[(115:UInt8),104,114,105],[(115:UInt8),97,114,105],[(115:UInt8),108,116,105],[(108:UInt8),117,105]] (Int.toNat (wrap i64 (op-16))) (RK.dflt RK.str)))) T4) T4; .br (decide (op>=1)) (.br (decide (op<=13)) (.cn (Nat.beq 1 1&&Nat.blt 0 1&&decide (0<=wrap i64 (op-1)/\wrap i64 (op-1)<(↑13:Int))) (.lf (List.getD [[(97:UInt8),100,100],[(115:UInt8),117,98],[(97:UInt8),110,100],[(111:UInt8),114],[(120:UInt8),111,114],[(115:UInt8),104,108],[(115:UInt8),104,114],[(115:UInt8),97,114],[(109:UInt8),117,108],[(100:UInt8),105,118],[(114:UInt8),101,109],[(115:UInt8),108,116],[(115:UInt8),108,116,117]] (Int.toNat (wrap i64 (op-1))) (RK.dflt RK.str)))) T2) T2
def Qqu(op:Int):(List UInt8):=(Q9g op).m
abbrev Qcy(op:Int):Prop:=(Q9g op).p
def Z0f:Q0c:=mkP 262 [] true [.one (.int .i64)] [] (λargs rows=>Qcy (argI args 0)) (λargs rows=>Qqu (argI args 0)) (λX=> .str X) (λX=>[])
theorem Qxz:Q05 Tryz.prog Z0f:=Q0n Q0j Q0k (.nil) Tryz.func262 Tryz.call262 (λargs rows=>Q9g (argI args 0)) [] [] 2 (λ_ _ _=>by kernel_rfl) (λ_ _=>rfl) (λ_ _ h=>h) (λ_ X=>by kernel_rfl)
def Qov(s:(List UInt8))(z:(Int)):Nat:=(65-z).toNat
def Q7v(s:(List UInt8)):Tree Int:=
.lp inferInstance (Qov s 1+1) ((rE (s:List UInt8)/\rE (1:Int)/\True)/\True) 1 λ(v0:Int)=> .br (decide (v0<=64)) (.lv (Q28 v0) λ(x0:Int)=> .br (decide (x0>0)) (.an (Qcy v0) (.lv (Qqu v0) λ(x1:List UInt8)=> .br (decide (x1=s)) (.lf (Sum.inr v0)) (.nx ((rE (s:List UInt8)/\rE ((wrap i64 (v0+1)):Int)/\True)/\True) (Sum.inl (wrap i64 (v0+1)))))) (.nx ((rE (s:List UInt8)/\rE ((wrap i64 (v0+1)):Int)/\True)/\True) (Sum.inl (wrap i64 (v0+1))))) (.lf (Sum.inr 0))
def Q82(s:(List UInt8)):Int:=(Q7v s).m
abbrev Q31(s:(List UInt8)):Prop:=(Q7v s).p
def Quv:LInv:={
 α:=(Int)
 F:=λst a=>([(0,(lk st 0)),(3, .int i64 a)],[])
 a0:=λst=>(lk st 3).toInt
 ex0:=λst=>[]++[]
 next:=λst=>(lk st 3).toInt
 ex:=λst=>[]++[]}
def Qqi:List (Nat×LInv):=[(2,Quv)]
def Qxr:Q0c:=mkP 227 [] true [.one (.str)] [] (λargs rows=>Q31 (argS args 0)) (λargs rows=>Q82 (argS args 0)) (λX=> .int .i64 X) (λX=>[])
theorem Qjq:Q05 Tryz.prog Qxr:=Q0n Q0j Q0k (.cons Qe2 (.cons Qxz (.nil))) Tryz.func227 Tryz.call227 (λargs rows=>Q7v (argS args 0)) [] Qqi 3 (λ_ _ _=>by kernel_rfl) (λ_ _=>rfl) (λ_ _ h=>h) (λ_ X=>by kernel_rfl)
def Qaf(what:(List UInt8)):Tree ((List UInt8)×Bool):=
.an (Q31 what) (.lv (Q82 what) λ(x0:Int)=> .br (decide (what=[(46:UInt8),119,111,114,100])) (.lf ([(120:UInt8)],true)) (.br (decide (what=[(46:UInt8),115,112,97,99,101])) (.lf ([(110:UInt8)],true)) (.br (decide (what=[(108:UInt8),105])) (.lf ([(114:UInt8),44,120],true)) (.br (decide (what=[(109:UInt8),118])) (.lf ([(114:UInt8),44,114],true)) (.br (decide (what=[(110:UInt8),111,112])) (.lf ([],true)) (.br (x0==0) (.lf ([],false)) (let T1:Tree (((List UInt8)×Bool)):= .br (x0==48) (.lf ([(114:UInt8),44,120],true)) (.lv (Q28 x0) λ(x1:Int)=> .br (x1==1) (.lf ([],true)) (.br (x1==2) (.lf ([(114:UInt8),44,114,44,114],true)) (.br (decide (x1>=6)) (.lf ([(114:UInt8),44,110],true)) (.lf ([(114:UInt8),44,114,44,110],true)))));let T2:Tree (((List UInt8)×Bool)):= .br (decide (x0>=40)) (.br (decide (x0<=45)) (.lf ([(114:UInt8),44,114,44,120],true)) T1) T1; .br (decide (x0>=32)) (.br (decide (x0<=36)) (.lf ([(114:UInt8),44,110,40,114,41],true)) T2) T2)))))))
def Qet(what:(List UInt8)):((List UInt8)×Bool):=(Qaf what).m
abbrev Q5n(what:(List UInt8)):Prop:=(Qaf what).p
def Z24:Q0c:=mkP 225 [] true [.one (.str)] [] (λargs rows=>Q5n (argS args 0)) (λargs rows=>Qet (argS args 0)) (λX=> .tup [.str (X.1), .bool (X.2)]) (λX=>[])
theorem Qz:Q05 Tryz.prog Z24:=Q0n Q0j Q0k (.cons Qjq (.cons Qe2 (.nil))) Tryz.func225 Tryz.call225 (λargs rows=>Qaf (argS args 0)) [] [] 2 (λ_ _ _=>by kernel_rfl) (λ_ _=>rfl) (λ_ _ h=>h) (λ_ X=>by kernel_rfl)
def Qtq(s:(List UInt8))(z:(Int)×(Int)):Nat:=(s.length-z.2).toNat
def Qji(s:(List UInt8))(z:(Int)×(Int)):Nat:=(s.length-z.2).toNat
def Qbz(s:(List UInt8)):Tree (Int×Bool):=
let E7:=decide ((0:Int)<=(0:Int)/\0<(s.length:Int));let E8:=(↑(UInt8.toNat (s.getD (Int.toNat 0) (0:UInt8))):Int);let T1:Tree ((Int×Bool)):=let T2:Tree ((Int×Bool)):= .br (decide (wrap i64 ((s.length:Int)-(0:Int))<1)) (.lf (0,false)) (.br (decide (wrap i64 ((s.length:Int)-(0:Int))>10)) (.lf (0,false)) (.lp inferInstance (Qji s (0,0)+1) ((rE (s:List UInt8)/\rE (0:Int)/\rE (0:Int)/\rE (0:Int)/\True)/\True) (0,0) λ(v0:Int×Int)=> .br (decide (v0.2<(s.length:Int))) (let E9:=decide (0<=v0.2/\v0.2<(s.length:Int)); .cn E9 (let E5:=(↑(UInt8.toNat (s.getD v0.2.toNat (0:UInt8))):Int); .lv (Qcz E5) λ(x2:Bool)=> .br (!x2) (.lf (Sum.inr (0,false))) (.cn E9 (.nx ((rE (s:List UInt8)/\rE (0:Int)/\rE ((wrap i64 (wrap i64 (10*v0.1)+wrap i64 (wrap u8 ((↑(UInt8.toNat (s.getD v0.2.toNat (0:UInt8))):Int)-(48:Int))))):Int)/\rE ((wrap i64 (v0.2+1)):Int)/\True)/\True) (Sum.inl (wrap i64 (wrap i64 (10*v0.1)+wrap i64 (wrap u8 (E5-(48:Int)))),wrap i64 (v0.2+1))))))) (.br (decide (v0.1>=(-2147483648))) (.lf (Sum.inr (v0.1,decide (v0.1<=4294967295)))) (.lf (Sum.inr (v0.1,false)))))); .br (decide ((s.length:Int)>(0:Int))) (.cn E7 (.br (E8==(45:Int)) (.br (decide (wrap i64 ((s.length:Int)-(1:Int))<1)) (.lf (0,false)) (.br (decide (wrap i64 ((s.length:Int)-(1:Int))>10)) (.lf (0,false)) (.lp inferInstance (Qji s (0,1)+1) ((rE (s:List UInt8)/\rE (1:Int)/\rE (0:Int)/\rE (1:Int)/\True)/\True) (0,1) λ(v0:Int×Int)=> .br (decide (v0.2<(s.length:Int))) (let E10:=decide (0<=v0.2/\v0.2<(s.length:Int)); .cn E10 (let E6:=(↑(UInt8.toNat (s.getD v0.2.toNat (0:UInt8))):Int); .lv (Qcz E6) λ(x1:Bool)=> .br (!x1) (.lf (Sum.inr (0,false))) (.cn E10 (.nx ((rE (s:List UInt8)/\rE (1:Int)/\rE ((wrap i64 (wrap i64 (10*v0.1)+wrap i64 (wrap u8 ((↑(UInt8.toNat (s.getD v0.2.toNat (0:UInt8))):Int)-(48:Int))))):Int)/\rE ((wrap i64 (v0.2+1)):Int)/\True)/\True) (Sum.inl (wrap i64 (wrap i64 (10*v0.1)+wrap i64 (wrap u8 (E6-(48:Int)))),wrap i64 (v0.2+1))))))) (.br (decide (wrap i64 (0-v0.1)>=(-2147483648))) (.lf (Sum.inr (wrap i64 (0-v0.1),decide (wrap i64 (0-v0.1)<=4294967295)))) (.lf (Sum.inr (wrap i64 (0-v0.1),false))))))) T2)) T2; .br (decide ((s.length:Int)>(2:Int))) (.cn E7 (.br (E8==(48:Int)) (.cn (decide ((0:Int)<=(1:Int)/\1<(s.length:Int))) (.br ((↑(UInt8.toNat (s.getD (Int.toNat 1) (0:UInt8))):Int)==(120:Int)) (.br (decide ((s.length:Int)>(10:Int))) (.lf (0,false)) (.lp inferInstance (Qtq s (0,2)+1) ((rE (s:List UInt8)/\rE (0:Int)/\rE (2:Int)/\True)/\True) (0,2) λ(v0:Int×Int)=> .br (decide (v0.2<(s.length:Int))) (let E4:=decide (0<=v0.2/\v0.2<(s.length:Int)); .cn E4 (let E3:=(↑(UInt8.toNat (s.getD v0.2.toNat (0:UInt8))):Int); .lv (Qcz E3) λ(x0:Bool)=> .br x0 (.cn E4 (.nx ((rE (s:List UInt8)/\rE ((wrap i64 (wrap i64 (16*v0.1)+wrap i64 (wrap u8 ((↑(UInt8.toNat (s.getD v0.2.toNat (0:UInt8))):Int)-(48:Int))))):Int)/\rE ((wrap i64 (v0.2+1)):Int)/\True)/\True) (Sum.inl (wrap i64 (wrap i64 (16*v0.1)+wrap i64 (wrap u8 (E3-(48:Int)))),wrap i64 (v0.2+1))))) (.cn E4 (.br (decide (E3>=(97:Int))) (.cn E4 (.br (decide (E3<=(102:Int))) (.cn E4 (.nx ((rE (s:List UInt8)/\rE ((wrap i64 (wrap i64 (wrap i64 (16*v0.1)+wrap i64 (wrap u8 ((↑(UInt8.toNat (s.getD v0.2.toNat (0:UInt8))):Int)-(97:Int))))+10)):Int)/\rE ((wrap i64 (v0.2+1)):Int)/\True)/\True) (Sum.inl (wrap i64 (wrap i64 (wrap i64 (16*v0.1)+wrap i64 (wrap u8 (E3-(97:Int))))+10),wrap i64 (v0.2+1))))) (.lf (Sum.inr (0,false))))) (.lf (Sum.inr (0,false))))))) (.lf (Sum.inr (v0.1,true))))) T1)) T1)) T1
def Z0w(s:(List UInt8)):(Int×Bool):=(Qbz s).m
abbrev Qh4(s:(List UInt8)):Prop:=(Qbz s).p
def Z3:LInv:={
 α:=(Int)×(Int)
 F:=λst a=>([(0,(lk st 0)),(4, .int i64 a.1),(5, .int i64 a.2)],[])
 a0:=λst=>((lk st 4).toInt,(lk st 5).toInt)
 ex0:=λst=>[]++[]
 next:=λst=>((lk st 4).toInt,(lk st 5).toInt)
 ex:=λst=>[]++[]}
def Z3e:LInv:={
 α:=(Int)×(Int)
 F:=λst a=>([(0,(lk st 0)),(6,(lk st 6)),(7, .int i64 a.1),(8, .int i64 a.2)],[])
 a0:=λst=>((lk st 7).toInt,(lk st 8).toInt)
 ex0:=λst=>[]++[]
 next:=λst=>((lk st 7).toInt,(lk st 8).toInt)
 ex:=λst=>[]++[]}
def Qxy:List (Nat×LInv):=[(6,Z3),(21,Z3e)]
def Z7b:Q0c:=mkP 261 [] true [.one (.str)] [] (λargs rows=>Qh4 (argS args 0)) (λargs rows=>Z0w (argS args 0)) (λX=> .tup [.int .i64 (X.1), .bool (X.2)]) (λX=>[])
theorem Z3u:Q05 Tryz.prog Z7b:=Q0n Q0j Q0k (.cons Qss (.nil)) Tryz.func261 Tryz.call261 (λargs rows=>Qbz (argS args 0)) [] Qxy 3 (λ_ _ _=>by kernel_rfl) (λ_ _=>rfl) (λ_ _ h=>h) (λ_ X=>by kernel_rfl)
def Qsm(l:(List Q0h))(p:(List UInt8))(z:(Int)×(List Q0u)):Nat:=(l.length-z.1).toNat
def Qae(l:(List Q0h))(p:(List UInt8)):Tree ((List Q0u)×Bool):=
.br ((l.length:Int) !=(p.length:Int)) (.lf ([],false)) (.lp inferInstance (Qsm l p (0,[])+1) ((((Els.Nil (Els.recs RK.vmfleetref1Token l)\/rE (3:Nat))/\rE (l:List (RK.T RK.vmfleetref1Token)))/\rE (p:List UInt8)/\True/\rE (0:Int)/\True)/\rE ([]:List (RK.T RK.vmfleetref1Arg))/\True) (0,[]) λ(v0:Int×List Q0u)=> .br (decide (v0.1<(l.length:Int))) (.cn (Nat.beq 3 3&&Nat.blt 0 3&&decide (0<=v0.1/\v0.1<(l.length:Int))) (let E6:=decide (0<=v0.1/\v0.1<(p.length:Int)); .cn E6 (let E3:=l.getD v0.1.toNat (RK.dflt RK.vmfleetref1Token);let E4:=(↑(UInt8.toNat (p.getD v0.1.toNat (0:UInt8))):Int);let E5:=decide (32*(v0.2.length+1)<=140737488355328); .br (E4==(114:Int)) (.lv (Qh8 E3.D4) λ(x0:Int×Bool)=> .br (E3.kind !=1) (.lf (Sum.inr ([],false))) (.br (!x0.2) (.lf (Sum.inr ([],false))) (.cn E5 (.nx ((((Els.Nil (Els.recs RK.vmfleetref1Token l)\/rE (3:Nat))/\rE (l:List (RK.T RK.vmfleetref1Token)))/\rE (p:List UInt8)/\True/\rE ((wrap i64 (v0.1+1)):Int)/\True)/\rE ((v0.2++[{reg:=x0.1,num:=0,label:=[]}]):List (RK.T RK.vmfleetref1Arg))/\True) (Sum.inl (wrap i64 (v0.1+1),v0.2++[{reg:=x0.1,num:=0,label:=[]}])))))) (let T1:Tree ((Int×List Q0u)⊕(((List Q0u)×Bool))):= .an (Qh4 E3.D4) (.lv (Z0w E3.D4) λ(x2:Int×Bool)=> .br (E3.kind !=2) (.lf (Sum.inr ([],false))) (.br (!x2.2) (.lf (Sum.inr ([],false))) (.cn E5 (.nx ((((Els.Nil (Els.recs RK.vmfleetref1Token l)\/rE (3:Nat))/\rE (l:List (RK.T RK.vmfleetref1Token)))/\rE (p:List UInt8)/\True/\rE ((wrap i64 (v0.1+1)):Int)/\True)/\rE ((v0.2++[{reg:=0,num:=x2.1,label:=[]}]):List (RK.T RK.vmfleetref1Arg))/\True) (Sum.inl (wrap i64 (v0.1+1),v0.2++[{reg:=0,num:=x2.1,label:=[]}]))))));let T2:Tree ((Int×List Q0u)⊕(((List Q0u)×Bool))):= .cn E6 (.br (E4==(120:Int)) (.br (E3.kind==1) (.an (Qfx E3.D4) (.lv (Z1x E3.D4) λ(x1:Bool)=> .br x1 (.cn E5 (.nx ((((Els.Nil (Els.recs RK.vmfleetref1Token l)\/rE (3:Nat))/\rE (l:List (RK.T RK.vmfleetref1Token)))/\rE (p:List UInt8)/\True/\rE ((wrap i64 (v0.1+1)):Int)/\True)/\rE ((v0.2++[{reg:=0,num:=0,label:=(l.getD v0.1.toNat (RK.dflt RK.vmfleetref1Token)).D4}]):List (RK.T RK.vmfleetref1Arg))/\True) (Sum.inl (wrap i64 (v0.1+1),v0.2++[{reg:=0,num:=0,label:=E3.D4}])))) T1)) T1) T1); .br (E4==(110:Int)) T2 (.br (E4==(120:Int)) T2 (.br (E3.kind !=3) (.lf (Sum.inr ([],false))) (.cn (decide (0<=v0.1/\v0.1<=wrap i64 (v0.1+1)/\wrap i64 (v0.1+1)<=(p.length:Int))) (.br (!decide (E3.D4=List.take (Int.toNat (wrap i64 (v0.1+1))-Int.toNat v0.1) (List.drop v0.1.toNat p))) (.lf (Sum.inr ([],false))) (.nx ((((Els.Nil (Els.recs RK.vmfleetref1Token l)\/rE (3:Nat))/\rE (l:List (RK.T RK.vmfleetref1Token)))/\rE (p:List UInt8)/\True/\rE ((wrap i64 (v0.1+1)):Int)/\True)/\rE v0.2/\True) (Sum.inl (wrap i64 (v0.1+1),v0.2))))))))))) (.lf (Sum.inr (v0.2,true))))
def Qeq(l:(List Q0h))(p:(List UInt8)):((List Q0u)×Bool):=(Qae l p).m
abbrev Q5m(l:(List Q0h))(p:(List UInt8)):Prop:=(Qae l p).p
def Qza:LInv:={
 α:=(Int)×(List Q0u)
 F:=λst a=>([(0,(lk st 0)),(1,(lk st 1)),(6, .all 0),(7, .int i64 a.1)],[⟨false,168,3, .recs RK.vmfleetref1Arg a.2⟩])
 a0:=λst=>((lk st 7).toInt,(Q4d RK.vmfleetref1Arg st.rows (rN st 6)))
 ex0:=λst=>[]++[(Q0r (lk st 6) (st.rows.length+0))]
 next:=λst=>((lk st 7).toInt,(Q4d RK.vmfleetref1Arg st.rows (rN st 6)))
 ex:=λst=>[]++[(Q0r (lk st 6) (st.rows.length+0))]}
def Qug:List (Nat×LInv):=[(5,Qza)]
def Z34:Q0c:=mkP 226 [] true [.one (.recs .vmfleetref1Token), .one (.str)] [] (λargs rows=>Q5m (argR .vmfleetref1Token args 0) (argS args 1)) (λargs rows=>Qeq (argR .vmfleetref1Token args 0) (argS args 1)) (λX=> .tup [.all 0, .bool (X.2)]) (λX=>[⟨false,168,3, .recs .vmfleetref1Arg (X.1)⟩])
theorem Z1q:Q05 Tryz.prog Z34:=Q0n Q0j Q0k (.cons Qig (.cons Qvi (.cons Z3u (.nil)))) Tryz.func226 Tryz.call226 (λargs rows=>Qae (argR .vmfleetref1Token args 0) (argS args 1)) [.row 168 3 (.recs .vmfleetref1Arg)] Qug 3 (λ_ _ _=>by kernel_rfl) (λ_ _=>rfl) (λ_ _ h=>h) (λ_ X=>by kernel_rfl)
def Qtv(s:(List UInt8))(z:(List UInt8)×(Int)):Nat:=(s.length-z.2).toNat
def Qcf(s:(List UInt8)):Tree ((List UInt8)×Q09×Bool):=
.lp inferInstance (Qtv s (s,0)+1) ((rE (s:List UInt8)/\rE ([]:List UInt8)/\(rE (0:Nat)/\rE (0:Nat))/\rE (false:Bool)/\rE (0:Int)/\True)/\(rE ([]:List UInt8)/\rE (0:Int)/\True/\rE (0:Int)/\rE (0:Int)/\rE (0:Int)/\True)/\True) (s,0) λ(v0:List UInt8×Int)=> .br (decide (v0.2<(v0.1.length:Int))) (.cn (decide (0<=v0.2/\v0.2<(v0.1.length:Int))) (.br ((↑(UInt8.toNat (v0.1.getD v0.2.toNat (0:UInt8))):Int)==(59:Int)) (.cn (decide ((0:Int)<=(0:Int)/\0<=v0.2/\v0.2<=(v0.1.length:Int))) (.nx ((rE ((List.take (Int.toNat v0.2-Int.toNat 0) (List.drop (Int.toNat 0) v0.1)):List UInt8)/\rE ([]:List UInt8)/\(rE (0:Nat)/\rE (0:Nat))/\rE (false:Bool)/\rE ((wrap i64 (v0.2+1)):Int)/\True)/\(rE ([]:List UInt8)/\rE (0:Int)/\True/\rE (0:Int)/\rE (0:Int)/\rE (0:Int)/\True)/\True) (Sum.inl (List.take (Int.toNat v0.2-Int.toNat 0) (List.drop (Int.toNat 0) v0.1),wrap i64 (v0.2+1))))) (.nx ((rE v0.1/\rE ([]:List UInt8)/\(rE (0:Nat)/\rE (0:Nat))/\rE (false:Bool)/\rE ((wrap i64 (v0.2+1)):Int)/\True)/\(rE ([]:List UInt8)/\rE (0:Int)/\True/\rE (0:Int)/\rE (0:Int)/\rE (0:Int)/\True)/\True) (Sum.inl (v0.1,wrap i64 (v0.2+1)))))) (.an (Qi9 v0.1) (.lv (Z12 v0.1) λ(x0:List Q0h×Bool)=> .br (!x0.2) (.lf (Sum.inr ([],{what:=[],op:=0,l:=[],D7:=0,at_:=0,size:=0},false))) (let E9:=x0.1.getD (Int.toNat 0) (RK.dflt RK.vmfleetref1Token);let T1:Tree ((List UInt8×Int)⊕(((List UInt8)×Q09×Bool))):= .an (Q5n E9.D4) (.lv (Qet E9.D4) λ(x27:List UInt8×Bool)=> .br (!x27.2) (.lf (Sum.inr ([],{what:=[],op:=0,l:=[],D7:=0,at_:=0,size:=0},false))) (let E20:=Int.toNat (x0.1.length:Int)-Int.toNat 1;let T6:Tree ((List UInt8×Int)⊕(((List UInt8)×Q09×Bool))):=let E31:=List.take E20 (List.drop (Int.toNat 1) x0.1); .an (Q5m E31 x27.1) (.lv (Qeq E31 x27.1) λ(x28:List Q0u×Bool)=> .br (!x28.2) (.lf (Sum.inr ([],{what:=[],op:=0,l:=[],D7:=0,at_:=0,size:=0},false))) (.an (Q31 E9.D4) (.lv (Q82 E9.D4) λ(x29:Int)=> .br (decide (E9.D4=[(108:UInt8),105])) (.lf (Sum.inr ([],{what:=E9.D4,op:=x29,l:=x28.1,D7:=0,at_:=0,size:=2},true))) (.br (decide (E9.D4=[(46:UInt8),115,112,97,99,101])) (let E13:=Nat.beq 3 3&&Nat.blt 0 3&&decide ((0:Int)<=(0:Int)/\0<(x28.1.length:Int)); .cn E13 (let E21:=x28.1.getD (Int.toNat 0) (RK.dflt RK.vmfleetref1Arg); .br (decide (E21.num<0)) (.lf (Sum.inr ([],{what:=[],op:=0,l:=[],D7:=0,at_:=0,size:=0},false))) (.cn E13 (.br (decide (E21.num>1024)) (.lf (Sum.inr ([],{what:=[],op:=0,l:=[],D7:=0,at_:=0,size:=0},false))) (.cn E13 (.lf (Sum.inr ([],{what:=E9.D4,op:=x29,l:=x28.1,D7:=0,at_:=0,size:=E21.num},true)))))))) (.lf (Sum.inr ([],{what:=E9.D4,op:=x29,l:=x28.1,D7:=0,at_:=0,size:=1},true))))))); .br (decide ((↑E20:Int)>(0:Int))) (.cn (Nat.beq 3 3&&Nat.blt 0 3&&decide ((0:Int)<=(0:Int)/\0<(↑E20:Int))) (.br (!(x0.1.getD (Int.toNat 1+Int.toNat 0) (RK.dflt RK.vmfleetref1Token)).gap) (.lf (Sum.inr ([],{what:=[],op:=0,l:=[],D7:=0,at_:=0,size:=0},false))) T6)) T6));let E25:=Int.toNat (x0.1.length:Int)-Int.toNat 2;let E8:=(↑E25:Int);let E10:=x0.1.getD (Int.toNat 2+Int.toNat 0) (RK.dflt RK.vmfleetref1Token);let E12:=x0.1.getD (Int.toNat 1) (RK.dflt RK.vmfleetref1Token);let E16:=Nat.beq 3 3&&Nat.blt 0 3&&decide ((0:Int)<=(0:Int)/\0<(x0.1.length:Int));let E17:=Nat.beq 3 3&&Nat.blt 0 3&&decide ((0:Int)<=(1:Int)/\1<(x0.1.length:Int));let E19:=Nat.beq 3 3&&Nat.blt 0 3&&decide ((0:Int)<=(2:Int)/\2<=(x0.1.length:Int)/\(x0.1.length:Int)<=(x0.1.length:Int));let E28:=Nat.beq 3 3&&Nat.blt 0 3&&decide ((0:Int)<=(0:Int)/\0<E8);let E30:=decide ((x0.1.length:Int)>=(2:Int));let T3:Tree ((List UInt8×Int)⊕(((List UInt8)×Q09×Bool))):= .br ((x0.1.length:Int)==(0:Int)) (.lf (Sum.inr ([],{what:=[],op:=0,l:=[],D7:=0,at_:=0,size:=0},true))) (.cn E16 (.cn (Nat.beq 3 3&&Nat.blt 0 3&&decide ((0:Int)<=(1:Int)/\1<=(x0.1.length:Int)/\(x0.1.length:Int)<=(x0.1.length:Int))) (.br (decide (E9.D4=[(46:UInt8)])) (.br E30 (.cn E17 (.br (!E12.gap) (.cn E17 (.cn (decide (1+List.length E12.D4<=maxLen)) (.cn E19 (.an (Q5n ((46:UInt8)::E12.D4)) (.lv (Qet ([(46:UInt8)]++E12.D4)) λ(x22:List UInt8×Bool)=> .br (!x22.2) (.lf (Sum.inr ([],{what:=[],op:=0,l:=[],D7:=0,at_:=0,size:=0},false))) (let T7:Tree ((List UInt8×Int)⊕(((List UInt8)×Q09×Bool))):=let E32:=List.take E25 (List.drop (Int.toNat 2) x0.1); .an (Q5m E32 x22.1) (.lv (Qeq E32 x22.1) λ(x23:List Q0u×Bool)=> .br (!x23.2) (.lf (Sum.inr ([],{what:=[],op:=0,l:=[],D7:=0,at_:=0,size:=0},false))) (.an (Q31 ((46:UInt8)::E12.D4)) (.lv (Q82 ([(46:UInt8)]++E12.D4)) λ(x24:Int)=> .br (decide ([(46:UInt8)]++E12.D4=[(46:UInt8),115,112,97,99,101])) (let E14:=Nat.beq 3 3&&Nat.blt 0 3&&decide ((0:Int)<=(0:Int)/\0<(x23.1.length:Int)); .cn E14 (let E22:=x23.1.getD (Int.toNat 0) (RK.dflt RK.vmfleetref1Arg); .br (decide (E22.num<0)) (.lf (Sum.inr ([],{what:=[],op:=0,l:=[],D7:=0,at_:=0,size:=0},false))) (.cn E14 (.br (decide (E22.num>1024)) (.lf (Sum.inr ([],{what:=[],op:=0,l:=[],D7:=0,at_:=0,size:=0},false))) (.cn E14 (.lf (Sum.inr ([],{what:=(46:UInt8)::E12.D4,op:=x24,l:=x23.1,D7:=0,at_:=0,size:=E22.num},true)))))))) (.lf (Sum.inr ([],{what:=(46:UInt8)::E12.D4,op:=x24,l:=x23.1,D7:=0,at_:=0,size:=1},true)))))); .br (decide (E8>(0:Int))) (.cn E28 (.br (!E10.gap) (.lf (Sum.inr ([],{what:=[],op:=0,l:=[],D7:=0,at_:=0,size:=0},false))) T7)) T7)))))) T1)) T1) T1))); .br E30 (.cn E17 (.br (decide (E12.D4=[(58:UInt8)])) (.cn E16 (.cn E16 (.br (E9.kind !=1) (.lf (Sum.inr ([],{what:=[],op:=0,l:=[],D7:=0,at_:=0,size:=0},false))) (.an (Qfx E9.D4) (.lv (Z1x E9.D4) λ(x1:Bool)=> .br (!x1) (.lf (Sum.inr ([],{what:=[],op:=0,l:=[],D7:=0,at_:=0,size:=0},false))) (.cn E19 (.br (E8==(0:Int)) (.lf (Sum.inr (E9.D4,{what:=[],op:=0,l:=[],D7:=0,at_:=0,size:=0},true))) (.cn E28 (.cn (Nat.beq 3 3&&Nat.blt 0 3&&decide ((0:Int)<=(1:Int)/\1<=E8/\E8<=E8)) (let T2:Tree ((List UInt8×Int)⊕(((List UInt8)×Q09×Bool))):= .an (Q5n E10.D4) (.lv (Qet E10.D4) λ(x7:List UInt8×Bool)=> .br (!x7.2) (.lf (Sum.inr ([],{what:=[],op:=0,l:=[],D7:=0,at_:=0,size:=0},false))) (let T4:Tree ((List UInt8×Int)⊕(((List UInt8)×Q09×Bool))):=let E26:=List.take (Int.toNat E8-Int.toNat 1) (List.drop (Int.toNat 2+Int.toNat 1) x0.1); .an (Q5m E26 x7.1) (.lv (Qeq E26 x7.1) λ(x8:List Q0u×Bool)=> .br (!x8.2) (.lf (Sum.inr ([],{what:=[],op:=0,l:=[],D7:=0,at_:=0,size:=0},false))) (.an (Q31 E10.D4) (.lv (Q82 E10.D4) λ(x9:Int)=> .br (decide (E10.D4=[(108:UInt8),105])) (.lf (Sum.inr (E9.D4,{what:=E10.D4,op:=x9,l:=x8.1,D7:=0,at_:=0,size:=2},true))) (.br (decide (E10.D4=[(46:UInt8),115,112,97,99,101])) (let E15:=Nat.beq 3 3&&Nat.blt 0 3&&decide ((0:Int)<=(0:Int)/\0<(x8.1.length:Int)); .cn E15 (let E23:=x8.1.getD (Int.toNat 0) (RK.dflt RK.vmfleetref1Arg); .br (decide (E23.num<0)) (.lf (Sum.inr ([],{what:=[],op:=0,l:=[],D7:=0,at_:=0,size:=0},false))) (.cn E15 (.br (decide (E23.num>1024)) (.lf (Sum.inr ([],{what:=[],op:=0,l:=[],D7:=0,at_:=0,size:=0},false))) (.cn E15 (.lf (Sum.inr (E9.D4,{what:=E10.D4,op:=x9,l:=x8.1,D7:=0,at_:=0,size:=E23.num},true)))))))) (.lf (Sum.inr (E9.D4,{what:=E10.D4,op:=x9,l:=x8.1,D7:=0,at_:=0,size:=1},true))))))); .br (decide ((↑(Int.toNat E8-Int.toNat 1):Int)>(0:Int))) (.cn (Nat.beq 3 3&&Nat.blt 0 3&&decide ((0:Int)<=(0:Int)/\0<(↑(Int.toNat E8-Int.toNat 1):Int))) (.br (!(x0.1.getD (Int.toNat 2+Int.toNat 1+Int.toNat 0) (RK.dflt RK.vmfleetref1Token)).gap) (.lf (Sum.inr ([],{what:=[],op:=0,l:=[],D7:=0,at_:=0,size:=0},false))) T4)) T4)); .br (decide (E10.D4=[(46:UInt8)])) (.br (decide (E8>=(2:Int))) (let E29:=Nat.beq 3 3&&Nat.blt 0 3&&decide ((0:Int)<=(1:Int)/\1<E8); .cn E29 (let E11:=x0.1.getD (Int.toNat 2+Int.toNat 1) (RK.dflt RK.vmfleetref1Token); .br (!E11.gap) (.cn E29 (.cn (decide (1+List.length E11.D4<=maxLen)) (.cn (Nat.beq 3 3&&Nat.blt 0 3&&decide ((0:Int)<=(2:Int)/\2<=E8/\E8<=E8)) (.an (Q5n ((46:UInt8)::E11.D4)) (.lv (Qet ([(46:UInt8)]++E11.D4)) λ(x2:List UInt8×Bool)=> .br (!x2.2) (.lf (Sum.inr ([],{what:=[],op:=0,l:=[],D7:=0,at_:=0,size:=0},false))) (let T5:Tree ((List UInt8×Int)⊕(((List UInt8)×Q09×Bool))):=let E27:=List.take (Int.toNat E8-Int.toNat 2) (List.drop (Int.toNat 2+Int.toNat 2) x0.1); .an (Q5m E27 x2.1) (.lv (Qeq E27 x2.1) λ(x3:List Q0u×Bool)=> .br (!x3.2) (.lf (Sum.inr ([],{what:=[],op:=0,l:=[],D7:=0,at_:=0,size:=0},false))) (.an (Q31 ((46:UInt8)::E11.D4)) (.lv (Q82 ([(46:UInt8)]++E11.D4)) λ(x4:Int)=> .br (decide ([(46:UInt8)]++E11.D4=[(46:UInt8),115,112,97,99,101])) (let E18:=Nat.beq 3 3&&Nat.blt 0 3&&decide ((0:Int)<=(0:Int)/\0<(x3.1.length:Int)); .cn E18 (let E24:=x3.1.getD (Int.toNat 0) (RK.dflt RK.vmfleetref1Arg); .br (decide (E24.num<0)) (.lf (Sum.inr ([],{what:=[],op:=0,l:=[],D7:=0,at_:=0,size:=0},false))) (.cn E18 (.br (decide (E24.num>1024)) (.lf (Sum.inr ([],{what:=[],op:=0,l:=[],D7:=0,at_:=0,size:=0},false))) (.cn E18 (.lf (Sum.inr (E9.D4,{what:=(46:UInt8)::E11.D4,op:=x4,l:=x3.1,D7:=0,at_:=0,size:=E24.num},true)))))))) (.lf (Sum.inr (E9.D4,{what:=(46:UInt8)::E11.D4,op:=x4,l:=x3.1,D7:=0,at_:=0,size:=1},true)))))); .br (decide ((↑(Int.toNat E8-Int.toNat 2):Int)>(0:Int))) (.cn (Nat.beq 3 3&&Nat.blt 0 3&&decide ((0:Int)<=(0:Int)/\0<(↑(Int.toNat E8-Int.toNat 2):Int))) (.br (!(x0.1.getD (Int.toNat 2+Int.toNat 2+Int.toNat 0) (RK.dflt RK.vmfleetref1Token)).gap) (.lf (Sum.inr ([],{what:=[],op:=0,l:=[],D7:=0,at_:=0,size:=0},false))) T5)) T5)))))) T2)) T2) T2)))))))))) T3)) T3)))
def Z0d(s:(List UInt8)):((List UInt8)×Q09×Bool):=(Qcf s).m
abbrev Qhk(s:(List UInt8)):Prop:=(Qcf s).p
def Z40:LInv:={
 α:=(List UInt8)×(Int)
 F:=λst a=>([(0, .str a.1),(2,(lk st 2)),(3, .ptr 0 0 0),(4,(lk st 4)),(5, .int i64 a.2)],[⟨true,166,6, .gen [[(cT st 3 0),(cT st 3 1),(cT st 3 2),(cT st 3 3),(cT st 3 4),(cT st 3 5)]]⟩])
 a0:=λst=>((lk st 0).toStr,(lk st 5).toInt)
 ex0:=λst=>[]++[(Q0r (lk st 3) (st.rows.length+0))]
 next:=λst=>((lk st 0).toStr,(lk st 5).toInt)
 ex:=λst=>[]++[(Q0r (lk st 3) (st.rows.length+0))]}
def Qx2:List (Nat×LInv):=[(2,Z40)]
def Z83:Q0c:=mkP 163 [] false [.one (.str)] [] (λargs rows=>Qhk (argS args 0)) (λargs rows=>Z0d (argS args 0)) (λX=> .tup [.str (X.1), .agg (Q09.cells (X.2.1)), .bool (X.2.2)]) (λX=>[])
theorem Z2i:Q05 Tryz.prog Z83:=Q0n Q0j Q0k (.cons Z25 (.cons Qvi (.cons Qz (.cons Z1q (.cons Qjq (.nil)))))) Tryz.func163 Tryz.call163 (λargs rows=>Qcf (argS args 0)) [.sl (.recs .vmfleetref1Arg) false] Qx2 3 (λ_ _ _=>by kernel_rfl) (λ_ _=>rfl) (λ_ _ h=>h) (λh=>by cases h)
def Qkh(l:(List Q1z))(label:(List UInt8))(z:(Int)):Prop:=0<=z/\z<=l.length
def Qcb(l:(List Q1z))(label:(List UInt8))(z:(Int)):Nat:=(l.length-z).toNat
def Qdt(l:(List Q1z))(label:(List UInt8)):Tree (Int×Bool):=
.lp inferInstance (Qcb l label 0+1) ((((Els.Nil (Els.recs RK.apiSymbol l)\/rE (2:Nat))/\rE (l:List (RK.T RK.apiSymbol)))/\rE (label:List UInt8)/\rE (0:Int)/\True)/\True) 0 λ(v0:Int)=> .br (decide (v0<(l.length:Int))) (let E1:=Nat.beq 2 2&&Nat.blt 0 2&&decide (0<=v0/\v0<(l.length:Int)); .cn E1 (let E2:=l.getD v0.toNat (RK.dflt RK.apiSymbol); .br (decide (E2.Name=label)) (.cn E1 (.lf (Sum.inr (E2.Addr,true)))) (.nx ((((Els.Nil (Els.recs RK.apiSymbol l)\/rE (2:Nat))/\rE (l:List (RK.T RK.apiSymbol)))/\rE (label:List UInt8)/\rE ((wrap i64 (v0+1)):Int)/\True)/\True) (Sum.inl (wrap i64 (v0+1)))))) (.lf (Sum.inr (0,false)))
def Qmg(l:(List Q1z))(label:(List UInt8)):(Int×Bool):=(Qdt l label).m
def Q34(l:(List Q1z))(label:(List UInt8)):Prop:=
l.length<=1000000000000
theorem Qxw(l:(List Q1z))(label:(List UInt8))(hw:Q34 l label):(Qdt l label).p:=by
 simp only[Q34]at hw
 unfold Tree.p Qdt
 repeat'(first|refine w_lp (inv:=Qkh l label) (μ:=Qcb l label) ?_ (Nat.lt_succ_self _) (λ_ _=> ?_)|exact trivial|refine w_br (λ_=> ?_) (λ_=> ?_)|refine w_cn ?_ ?_|refine w_an ?_ ?_|refine w_lv (λ_ _=> ?_)|refine w_nx ?_|refine w_lf ?_|refine And.intro ?_ ?_)
 all_goals((try simp only[Qkh,Qcb]at*);((subst_vars;first|trivial|assumption|omega|((simp(config:={decide:=true,failIfUnchanged:=false}) only[Bool.and_eq_true,Bool.or_eq_true,Bool.and_eq_false_iff,Bool.or_eq_false_iff,Bool.not_eq_true',Bool.not_eq_false',Bool.not_eq_true,Bool.not_eq_false,decide_eq_true_eq,decide_eq_false_iff_not,Q4i,Q2t,Q4e,Q2s,beq_iff_eq,beq_eq_false_iff_ne,bne_iff_ne,bne_eq_false_iff_eq,ne_eq,List.all_cons,List.all_nil,D.plain,List.length_cons,List.length_nil,List.length_append,List.length_set,List.length_replicate,IntKind.wrap_i64,IntKind.wrap_u64,IntKind.wrap_u32,IntKind.wrap_i32,IntKind.wrap_u8,true_and,and_true,or_false,false_or,or_true,true_or,not_true_eq_false,not_false_eq_true,Prod.fst,Prod.snd]at*);first|done|assumption|omega)|((simp(config:={decide:=true,failIfUnchanged:=false}) only[Bool.and_eq_true,Bool.or_eq_true,Bool.and_eq_false_iff,Bool.or_eq_false_iff,Bool.not_eq_true',Bool.not_eq_false',Bool.not_eq_true,Bool.not_eq_false,decide_eq_true_eq,decide_eq_false_iff_not,Q4i,Q2t,Q4e,Q2s,beq_iff_eq,beq_eq_false_iff_ne,bne_iff_ne,bne_eq_false_iff_eq,ne_eq,List.all_cons,List.all_nil,D.plain,List.length_cons,List.length_nil,List.length_append,List.length_set,List.length_replicate,IntKind.wrap_i64,IntKind.wrap_u64,IntKind.wrap_u32,IntKind.wrap_i32,IntKind.wrap_u8,true_and,and_true,or_false,false_or,or_true,true_or,not_true_eq_false,not_false_eq_true,Prod.fst,Prod.snd]at*);simp only[<-List.length_pos_iff]at*;omega)|(simp_all;done)|(have:= @Qfb;simp_all;try omega))))
def Qym:LInv:={
 α:=(Int)
 F:=λst a=>([(0,(lk st 0)),(1,(lk st 1)),(6, .int i64 a)],[])
 a0:=λst=>(lk st 6).toInt
 ex0:=λst=>[]++[]
 next:=λst=>(lk st 6).toInt
 ex:=λst=>[]++[]}
def Qtl:List (Nat×LInv):=[(2,Qym)]
def Z4:Q0c:=mkP 117 [] true [.one (.recs .apiSymbol), .one (.str)] [] (λargs rows=>Q34 (argR .apiSymbol args 0) (argS args 1)) (λargs rows=>Qmg (argR .apiSymbol args 0) (argS args 1)) (λX=> .tup [.int .u32 (X.1), .bool (X.2)]) (λX=>[])
theorem Qnn:Q05 Tryz.prog Z4:=Q0n Q0j Q0k (.nil) Tryz.func117 Tryz.call117 (λargs rows=>Qdt (argR .apiSymbol args 0) (argS args 1)) [] Qtl 3 (λ_ _ _=>by kernel_rfl) (λ_ _=>rfl) (λargs rows h=>Qxw (argR .apiSymbol args 0) (argS args 1) h) (λ_ X=>by kernel_rfl)
def Qyt(src:(List UInt8))(z:(Int)×(Int)×(List Q1z)×(List Q09)):Nat:=((Qu2 src).length-z.2.1).toNat
def Qi4(src:(List UInt8)):Tree ((List Q1z)×(List Q09)×Q1b):=
.br (decide ((src.length:Int)>(8192:Int))) (.lf ([],[],{Err:=300,Line:=0})) (.an (Qj5 src) (.lv (Qu2 src) λ(x0:List (List UInt8))=> .lp inferInstance (Qyt src (0,0,[],[])+1) (((rE (0:Nat)/\rE (0:Nat))/\True/\True/\rE (0:Int)/\True/\rE (0:Int)/\True)/\(rE (0:Int)/\rE (0:Int)/\True)/\rE (x0:List (RK.T RK.str))/\rE ([]:List (RK.T RK.apiSymbol))/\rE ([]:List (RK.T RK.vmfleetref1Statement))/\True) (0,0,[],[]) λ(v0:Int×Int×List Q1z×List Q09)=> .br (decide (v0.2.1<(x0.length:Int))) (.cn (Nat.beq 1 1&&Nat.blt 0 1&&decide (0<=v0.2.1/\v0.2.1<(x0.length:Int))) (let E3:=x0.getD v0.2.1.toNat (RK.dflt RK.str); .an (Qhk E3) (.lv (Z0d E3) λ(x1:List UInt8×Q09×Bool)=> .br (!x1.2.2) (.lf (Sum.inr ([],[],{Err:=301,Line:=wrap i64 (v0.2.1+1)}))) (let E1:=({Err:=305,Line:=wrap i64 (v0.2.1+1)}:Q1b);let E2:=decide (72*(v0.2.2.2.length+1)<=140737488355328);let E4:=decide (wrap i64 (v0.1+x1.2.1.size)>1024); .br (!decide (x1.1=[])) (.an (Q34 v0.2.2.1 x1.1) (.lv (Qmg v0.2.2.1 x1.1) λ(x2:Int×Bool)=> .br x2.2 (.lf (Sum.inr ([],[],{Err:=303,Line:=wrap i64 (v0.2.1+1)}))) (.cn (decide (24*(v0.2.2.1.length+1)<=140737488355328)) (let E5:=({Name:=x1.1,Addr:=wrap u32 (wrap i64 (4*v0.1))}:Q1z); .br (!decide (x1.2.1.what=[])) (.cn E2 (.br E4 (.lf (Sum.inr ([],[],E1))) (.nx (((rE (0:Nat)/\rE (0:Nat))/\True/\True/\rE ((wrap i64 (v0.1+x1.2.1.size)):Int)/\True/\rE ((wrap i64 (v0.2.1+1)):Int)/\True)/\(rE (0:Int)/\rE (0:Int)/\True)/\rE (x0:List (RK.T RK.str))/\rE ((v0.2.2.1++[{Name:=x1.1,Addr:=wrap u32 (wrap i64 (4*v0.1))}]):List (RK.T RK.apiSymbol))/\rE ((v0.2.2.2++[{what:=x1.2.1.what,op:=x1.2.1.op,l:=x1.2.1.l,D7:=wrap i64 (v0.2.1+1),at_:=v0.1,size:=x1.2.1.size}]):List (RK.T RK.vmfleetref1Statement))/\True) (Sum.inl (wrap i64 (v0.1+x1.2.1.size),wrap i64 (v0.2.1+1),v0.2.2.1++[E5],v0.2.2.2++[{what:=x1.2.1.what,op:=x1.2.1.op,l:=x1.2.1.l,D7:=wrap i64 (v0.2.1+1),at_:=v0.1,size:=x1.2.1.size}]))))) (.br (decide (v0.1>1024)) (.lf (Sum.inr ([],[],E1))) (.nx (((rE (0:Nat)/\rE (0:Nat))/\True/\True/\rE v0.1/\True/\rE ((wrap i64 (v0.2.1+1)):Int)/\True)/\(rE (0:Int)/\rE (0:Int)/\True)/\rE (x0:List (RK.T RK.str))/\rE ((v0.2.2.1++[{Name:=x1.1,Addr:=wrap u32 (wrap i64 (4*v0.1))}]):List (RK.T RK.apiSymbol))/\rE v0.2.2.2/\True) (Sum.inl (v0.1,wrap i64 (v0.2.1+1),v0.2.2.1++[E5],v0.2.2.2)))))))) (.br (!decide (x1.2.1.what=[])) (.cn E2 (.br E4 (.lf (Sum.inr ([],[],E1))) (.nx (((rE (0:Nat)/\rE (0:Nat))/\True/\True/\rE ((wrap i64 (v0.1+x1.2.1.size)):Int)/\True/\rE ((wrap i64 (v0.2.1+1)):Int)/\True)/\(rE (0:Int)/\rE (0:Int)/\True)/\rE (x0:List (RK.T RK.str))/\rE v0.2.2.1/\rE ((v0.2.2.2++[{what:=x1.2.1.what,op:=x1.2.1.op,l:=x1.2.1.l,D7:=wrap i64 (v0.2.1+1),at_:=v0.1,size:=x1.2.1.size}]):List (RK.T RK.vmfleetref1Statement))/\True) (Sum.inl (wrap i64 (v0.1+x1.2.1.size),wrap i64 (v0.2.1+1),v0.2.2.1,v0.2.2.2++[{what:=x1.2.1.what,op:=x1.2.1.op,l:=x1.2.1.l,D7:=wrap i64 (v0.2.1+1),at_:=v0.1,size:=x1.2.1.size}]))))) (.br (decide (v0.1>1024)) (.lf (Sum.inr ([],[],E1))) (.nx (((rE (0:Nat)/\rE (0:Nat))/\True/\True/\rE v0.1/\True/\rE ((wrap i64 (v0.2.1+1)):Int)/\True)/\(rE (0:Int)/\rE (0:Int)/\True)/\rE (x0:List (RK.T RK.str))/\rE v0.2.2.1/\rE v0.2.2.2/\True) (Sum.inl (v0.1,wrap i64 (v0.2.1+1),v0.2.2.1,v0.2.2.2))))))))) (.lf (Sum.inr (v0.2.2.1,v0.2.2.2,{Err:=0,Line:=0})))))
def Z1d(src:(List UInt8)):((List Q1z)×(List Q09)×Q1b):=(Qi4 src).m
abbrev Qlf(src:(List UInt8)):Prop:=(Qi4 src).p
def Zc7:LInv:={
 α:=(Int)×(Int)×(List Q1z)×(List Q09)
 F:=λst a=>([(4, .ptr 0 0 0),(5, .all 2),(6, .all 3),(7, .int i64 a.1),(8, .all 1),(9, .int i64 a.2.1)],[⟨true,95,2, .gen [[(cT st 4 0),(cT st 4 1)]]⟩,⟨false,9,1,esOf st.rows (rN st 8)⟩,⟨false,216,2, .recs RK.apiSymbol a.2.2.1⟩,⟨false,166,6, .recs RK.vmfleetref1Statement a.2.2.2⟩])
 a0:=λst=>((lk st 7).toInt,(lk st 9).toInt,(Q4d RK.apiSymbol st.rows (rN st 5)),(Q4d RK.vmfleetref1Statement st.rows (rN st 6)))
 ex0:=λst=>[]++[(Q0r (lk st 4) (st.rows.length+0)),(Q0r (lk st 8) (st.rows.length+1)),(Q0r (lk st 5) (st.rows.length+2)),(Q0r (lk st 6) (st.rows.length+3))]
 next:=λst=>((lk st 7).toInt,(lk st 9).toInt,(Q4d RK.apiSymbol st.rows (rN st 5)),(Q4d RK.vmfleetref1Statement st.rows (rN st 6)))
 ex:=λst=>[]++[(Q0r (lk st 4) (st.rows.length+0)),(Q0r (lk st 8) (st.rows.length+1)),(Q0r (lk st 5) (st.rows.length+2)),(Q0r (lk st 6) (st.rows.length+3))]}
def Z28:List (Nat×LInv):=[(8,Zc7)]
def Zeu:Q0c:=mkP 116 [] false [.one (.str)] [] (λargs rows=>Qlf (argS args 0)) (λargs rows=>Z1d (argS args 0)) (λX=> .tup [.all 0, .all 1, .agg (Q1b.cells (X.2.2))]) (λX=>[⟨false,216,2, .recs .apiSymbol (X.1)⟩,⟨false,166,6, .recs .vmfleetref1Statement (X.2.1)⟩])
theorem Z9z:Q05 Tryz.prog Zeu:=Q0n Q0j Q0k (.cons Z6j (.cons Z2i (.cons Qnn (.nil)))) Tryz.func116 Tryz.call116 (λargs rows=>Qi4 (argS args 0)) [.row 216 2 (.recs .apiSymbol), .row 166 6 (.recs .vmfleetref1Statement)] Z28 3 (λ_ _ _=>by kernel_rfl) (λ_ _=>rfl) (λ_ _ h=>h) (λh=>by cases h)
def Qhr(st:Q09)(v:Int):Tree (Int×Bool):=
.lv (Q28 st.op) λ(x0:Int)=> .lv (Qky x0) λ(x1:Int×Int)=>let E7:=st.l.getD (Int.toNat 0) (RK.dflt RK.vmfleetref1Arg);let E8:=st.l.getD (Int.toNat 1) (RK.dflt RK.vmfleetref1Arg);let E9:=Nat.beq 3 3&&Nat.blt 0 3&&decide ((0:Int)<=(0:Int)/\0<(st.l.length:Int));let E10:=Nat.beq 3 3&&Nat.blt 0 3&&decide ((0:Int)<=(1:Int)/\1<(st.l.length:Int));let E11:=st.l.getD (Int.toNat 2) (RK.dflt RK.vmfleetref1Arg);let E12:=Nat.beq 3 3&&Nat.blt 0 3&&decide ((0:Int)<=(2:Int)/\2<(st.l.length:Int)); .br (x0==2) (.cn E9 (.cn E10 (.cn E12 (let T2:Tree ((Int×Bool)):= .br (decide (0<x1.1)) (.lf (0,false)) (.br (decide (0>x1.2)) (.lf (0,false)) (.lv (Q1f {Op:=st.op,A:=E7.reg,B:=E8.reg,C:=E11.reg,Imm:=wrap i32 0}) λ(x2:Int×Bool)=> .lf (x2.1,x2.2))); .br (x0==2) T2 (.br (x0==1) T2 (.br (decide (v<x1.1)) (.lf (0,false)) (.br (decide (v>x1.2)) (.lf (0,false)) (.lv (Q1f {Op:=st.op,A:=E7.reg,B:=E8.reg,C:=E11.reg,Imm:=wrap i32 v}) λ(x4:Int×Bool)=> .lf (x4.1,x4.2))))))))) (let T1:Tree ((Int×Bool)):= .br (decide (x0>=6)) (.cn E9 (let T5:Tree ((Int×Bool)):= .br (decide (0<x1.1)) (.lf (0,false)) (.br (decide (0>x1.2)) (.lf (0,false)) (.lv (Q1f {Op:=st.op,A:=E7.reg,B:=0,C:=0,Imm:=wrap i32 0}) λ(x8:Int×Bool)=> .lf (x8.1,x8.2))); .br (x0==2) T5 (.br (x0==1) T5 (.br (decide (v<x1.1)) (.lf (0,false)) (.br (decide (v>x1.2)) (.lf (0,false)) (.lv (Q1f {Op:=st.op,A:=E7.reg,B:=0,C:=0,Imm:=wrap i32 v}) λ(x10:Int×Bool)=> .lf (x10.1,x10.2))))))) (.br (x0 !=1) (.cn E9 (.cn E10 (let T3:Tree ((Int×Bool)):= .br (decide (0<x1.1)) (.lf (0,false)) (.br (decide (0>x1.2)) (.lf (0,false)) (.lv (Q1f {Op:=st.op,A:=E7.reg,B:=E8.reg,C:=0,Imm:=wrap i32 0}) λ(x11:Int×Bool)=> .lf (x11.1,x11.2))); .br (x0==2) T3 (.br (x0==1) T3 (.br (decide (v<x1.1)) (.lf (0,false)) (.br (decide (v>x1.2)) (.lf (0,false)) (.lv (Q1f {Op:=st.op,A:=E7.reg,B:=E8.reg,C:=0,Imm:=wrap i32 v}) λ(x13:Int×Bool)=> .lf (x13.1,x13.2)))))))) (let T6:Tree ((Int×Bool)):= .br (decide (0<x1.1)) (.lf (0,false)) (.br (decide (0>x1.2)) (.lf (0,false)) (.lv (Q1f {Op:=st.op,A:=0,B:=0,C:=0,Imm:=wrap i32 0}) λ(x14:Int×Bool)=> .lf (x14.1,x14.2))); .br (x0==2) T6 (.br (x0==1) T6 (.br (decide (v<x1.1)) (.lf (0,false)) (.br (decide (v>x1.2)) (.lf (0,false)) (.lv (Q1f {Op:=st.op,A:=0,B:=0,C:=0,Imm:=wrap i32 v}) λ(x16:Int×Bool)=> .lf (x16.1,x16.2))))))); .br (decide (st.op>=32)) (.br (decide (st.op<=36)) (.cn E9 (.cn E12 (.cn E10 (let T4:Tree ((Int×Bool)):= .br (decide (0<x1.1)) (.lf (0,false)) (.br (decide (0>x1.2)) (.lf (0,false)) (.lv (Q1f {Op:=st.op,A:=E7.reg,B:=E11.reg,C:=0,Imm:=wrap i32 0}) λ(x5:Int×Bool)=> .lf (x5.1,x5.2))); .br (x0==2) T4 (.br (x0==1) T4 (.br (decide (E8.num<x1.1)) (.lf (0,false)) (.br (decide (E8.num>x1.2)) (.lf (0,false)) (.lv (Q1f {Op:=st.op,A:=E7.reg,B:=E11.reg,C:=0,Imm:=wrap i32 E8.num}) λ(x7:Int×Bool)=> .lf (x7.1,x7.2))))))))) T1) T1)
def Qnd(st:Q09)(v:Int):(Int×Bool):=(Qhr st v).m
abbrev Q9s(st:Q09)(v:Int):Prop:=(Qhr st v).p
def Ze8:Q0c:=mkP 118 [] true [.agg Q09.sig, .one (.int .i64)] [] (λargs rows=>Q9s (Q09.of (args.getD 0 .dead).cells) (argI args 1)) (λargs rows=>Qnd (Q09.of (args.getD 0 .dead).cells) (argI args 1)) (λX=> .tup [.int .u32 (X.1), .bool (X.2)]) (λX=>[])
theorem Zav:Q05 Tryz.prog Ze8:=Q0n Q0j Q0k (.cons Qe2 (.cons Qpd (.cons Qj6 (.nil)))) Tryz.func118 Tryz.call118 (λargs rows=>Qhr (Q09.of (args.getD 0 .dead).cells) (argI args 1)) [] [] 2 (λ_ _ _=>by kernel_rfl) (λ_ _=>rfl) (λ_ _ h=>h) (λ_ X=>by kernel_rfl)
end
end Go.Proofs.YtjaifpiopmhmlaaGreat

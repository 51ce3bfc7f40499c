/-
  Functions of the program: models, and that its calls come to them (by a program: gen3.py).
-/
import Derived.Test.YtjaifpiopmhmlaaGreatBareDriversBase
import Derived.Test.YtjaifpiopmhmlaaGreatBareDriversHand
import Derived.Test.YtjaifpiopmhmlaaGreatBareDriversYe
set_option maxRecDepth 100000
set_option linter.unusedVariables false
set_option linter.unusedSimpArgs false
namespace Go.Proofs.YtjaifpiopmhmlaaGreat
open Go Go.GD Go.IntKind
noncomputable section
instance sumInhZd {α β:Type} [Inhabited β]:Inhabited (α⊕β):=⟨.inr default⟩
def Qrb(src:(List UInt8))(z:(Int)×(Int)×(List (List UInt8))):Nat:=(src.length-z.2.1).toNat
def Qbt(src:(List UInt8)):Tree (List (List UInt8)):=
.lp inferInstance (Qrb src (0,0,[])+1) ((rE (src:List UInt8)∧True∧rE (0:Int)∧rE (0:Int)∧True)∧rE ([]:List (RK.T RK.str))∧True) (0,0,[]) λ(v0:Int×Int×List (List UInt8))=>let E1:=decide (16*(v0.2.2.length+1)≤140737488355328); .br (decide (v0.2.1<(src.length:Int))) (.cn (decide (0≤v0.2.1∧v0.2.1<(src.length:Int))) (.br ((↑(UInt8.toNat (src.getD v0.2.1.toNat (0:UInt8))):Int)==(10:Int)) (.cn (decide (0≤v0.1∧v0.1≤v0.2.1∧v0.2.1≤(src.length:Int))) (.cn E1 (.nx ((rE (src:List UInt8)∧True∧rE ((wrap i64 (v0.2.1+1)):Int)∧rE ((wrap i64 (v0.2.1+1)):Int)∧True)∧rE ((v0.2.2++[List.take (Int.toNat v0.2.1-Int.toNat v0.1) (List.drop v0.1.toNat src)]):List (RK.T RK.str))∧True) (Sum.inl (wrap i64 (v0.2.1+1),wrap i64 (v0.2.1+1),v0.2.2++[List.take (Int.toNat v0.2.1-Int.toNat v0.1) (List.drop v0.1.toNat src)]))))) (.nx ((rE (src:List UInt8)∧True∧rE v0.1∧rE ((wrap i64 (v0.2.1+1)):Int)∧True)∧rE v0.2.2∧True) (Sum.inl (v0.1,wrap i64 (v0.2.1+1),v0.2.2))))) (.br (decide (v0.1<(src.length:Int))) (.cn (decide (0≤v0.1∧v0.1≤(src.length:Int)∧(src.length:Int)≤(src.length:Int))) (.cn E1 (.lf (Sum.inr (v0.2.2++[List.take (Int.toNat (src.length:Int)-Int.toNat v0.1) (List.drop v0.1.toNat src)]))))) (.lf (Sum.inr v0.2.2)))
def Qp7(src:(List UInt8)):(List (List UInt8)):=(Qbt src).m
abbrev Qg2(src:(List UInt8)):Prop:=(Qbt src).p
def Qz7:LInv:={
 α:=(Int)×(Int)×(List (List UInt8))
 F:=λst a=>([(0,(lk st 0)),(3, .all 0),(4, .int i64 a.1),(5, .int i64 a.2.1)],[⟨false,9,1, .recs RK.str a.2.2⟩])
 a0:=λst=>((lk st 4).toInt,(lk st 5).toInt,(Qam RK.str st.rows (rN st 3)))
 ex0:=λst=>[]++[(Q1m (lk st 3) (st.rows.length+0))]
 next:=λst=>((lk st 4).toInt,(lk st 5).toInt,(Qam RK.str st.rows (rN st 3)))
 ex:=λst=>[]++[(Q1m (lk st 3) (st.rows.length+0))]}
def Qsb:List (Nat×LInv):=[(4,Qz7)]
def Z3s:Q0e:=mkP 162 [] true [.one (.str)] [] (λargs rows=>Qg2 (argS args 0)) (λargs rows=>Qp7 (argS args 0)) (λX=> .all 0) (λX=>[⟨false,9,1, .recs .str X⟩])
theorem Z1b:Q08 Tryz.prog Z3s:=Q0x Q0r Q0s (.nil) Tryz.func162 Tryz.call162 (λargs rows=>Qbt (argS args 0)) [.row 9 1 (.recs .str)] Qsb 3 (λ_ _ _=>by kernel_rfl) (λ_ _=>rfl) (λ_ _ h=>h) (λ_ X=>by kernel_rfl)
def Qmd(c:Int):Tree Bool:=
.br (decide (c≥97)) (.lf (decide (c≤122))) (.lf false)
def Qe4(c:Int):Bool:=(Qmd c).m
def Qz9:Q0e:=mkR 258 [] true [.one (.int .u8)] [] (λargs rows=>Qe4 (argI args 0)) (λX=> .bool X) (λX=>[])
theorem Ql9:Q08 Tryz.prog Qz9:=Q2j Q0r Q0s (.nil) Tryz.func258 Tryz.call258 (λargs rows=>Qmd (argI args 0)) [] [] 2 (λ_ _ _=>by kernel_rfl) (λ_ _=>rfl) (λ_ _=>Tree.free_ok (by kernel_rfl)) (λ_ X=>by kernel_rfl)
def Qpo(c:Int):Tree Bool:=
.br (decide (c≥48)) (.lf (decide (c≤57))) (.lf false)
def Qbb(c:Int):Bool:=(Qpo c).m
def Z2g:Q0e:=mkR 259 [] true [.one (.int .u8)] [] (λargs rows=>Qbb (argI args 0)) (λX=> .bool X) (λX=>[])
theorem Qm7:Q08 Tryz.prog Z2g:=Q2j Q0r Q0s (.nil) Tryz.func259 Tryz.call259 (λargs rows=>Qpo (argI args 0)) [] [] 2 (λ_ _ _=>by kernel_rfl) (λ_ _=>rfl) (λ_ _=>Tree.free_ok (by kernel_rfl)) (λ_ X=>by kernel_rfl)
def Qpc(s:(List UInt8))(z:(Bool)×(Int)×(List Q0d)):Nat:=(s.length-z.2.1).toNat
def Qom(s:(List UInt8))(v0:Bool×Int×List Q0d)(z:(Int)):Nat:=(s.length-z).toNat
def Qp4(s:(List UInt8))(v0:Bool×Int×List Q0d)(z:(Int)):Nat:=(s.length-z).toNat
def Q9t(s:(List UInt8)):Tree ((List Q0d)×Bool):=
.lp inferInstance (Qpc s (true,0,[])+1) ((rE (s:List UInt8)∧True∧rE (true:Bool)∧rE (0:Int)∧True)∧rE ([]:List (RK.T RK.vmfleetref1Token))∧True) (true,0,[]) λ(v0:Bool×Int×List Q0d)=> .br (decide (v0.2.1<(s.length:Int))) (.cn (decide (0≤v0.2.1∧v0.2.1<(s.length:Int))) (let E7:=(↑(UInt8.toNat (s.getD v0.2.1.toNat (0:UInt8))):Int); .br (E7==(32:Int)) (.nx ((rE (s:List UInt8)∧True∧rE (true:Bool)∧rE ((wrap i64 (v0.2.1+1)):Int)∧True)∧rE v0.2.2∧True) (Sum.inl (true,wrap i64 (v0.2.1+1),v0.2.2))) (.lv (Qe4 E7) λ(x0:Bool)=>let E10:=decide (32*(v0.2.2.length+1)≤140737488355328);let E13:=List.drop v0.2.1.toNat s; .br x0 (.lp inferInstance (Qom s v0 v0.2.1+1) ((rE (s:List UInt8)∧True∧rE v0.1∧rE v0.2.1∧rE v0.2.1∧True)∧rE v0.2.2∧True) v0.2.1 λ(v1:Int)=>let T3:Tree ((Int)⊕((Bool×Int×List Q0d)⊕(((List Q0d)×Bool)))):= .cn (decide (0≤v0.2.1∧v0.2.1≤v1∧v1≤(s.length:Int))) (.cn E10 (.nx ((rE (s:List UInt8)∧True∧rE (false:Bool)∧rE (v1:Int)∧True)∧rE ((v0.2.2++[{kind:=1,D0:=List.take (Int.toNat v1-Int.toNat v0.2.1) (List.drop v0.2.1.toNat s),gap:=v0.1}]):List (RK.T RK.vmfleetref1Token))∧True) (Sum.inr (Sum.inl (false,v1,v0.2.2++[{kind:=1,D0:=List.take (Int.toNat v1-Int.toNat v0.2.1) E13,gap:=v0.1}]))))); .br (decide (v1<(s.length:Int))) (let E11:=decide (0≤v1∧v1<(s.length:Int)); .cn E11 (let E8:=(↑(UInt8.toNat (s.getD v1.toNat (0:UInt8))):Int); .lv (Qe4 E8) λ(x1:Bool)=>let T5:Tree ((Int)⊕((Bool×Int×List Q0d)⊕(((List Q0d)×Bool)))):= .nx ((rE (s:List UInt8)∧True∧rE v0.1∧rE ((wrap i64 (v1+1)):Int)∧rE v0.2.1∧True)∧rE v0.2.2∧True) (Sum.inl (wrap i64 (v1+1))); .br x1 T5 (.cn E11 (.lv (Qbb E8) λ(x2:Bool)=> .br x2 T5 (.cn E11 (.br (E8==(95:Int)) T5 T3)))))) T3) (.lv (Qbb E7) λ(x3:Bool)=>let T2:Tree ((Bool×Int×List Q0d)⊕(((List Q0d)×Bool))):= .lp inferInstance (Qp4 s v0 (wrap i64 (v0.2.1+1))+1) ((rE (s:List UInt8)∧True∧rE v0.1∧rE ((wrap i64 (v0.2.1+1)):Int)∧rE v0.2.1∧True)∧rE v0.2.2∧True) (wrap i64 (v0.2.1+1)) λ(v1:Int)=>let T4:Tree ((Int)⊕((Bool×Int×List Q0d)⊕(((List Q0d)×Bool)))):= .cn (decide (0≤v0.2.1∧v0.2.1≤v1∧v1≤(s.length:Int))) (.cn E10 (.nx ((rE (s:List UInt8)∧True∧rE (false:Bool)∧rE (v1:Int)∧True)∧rE ((v0.2.2++[{kind:=2,D0:=List.take (Int.toNat v1-Int.toNat v0.2.1) (List.drop v0.2.1.toNat s),gap:=v0.1}]):List (RK.T RK.vmfleetref1Token))∧True) (Sum.inr (Sum.inl (false,v1,v0.2.2++[{kind:=2,D0:=List.take (Int.toNat v1-Int.toNat v0.2.1) E13,gap:=v0.1}]))))); .br (decide (v1<(s.length:Int))) (let E12:=decide (0≤v1∧v1<(s.length:Int)); .cn E12 (let E9:=(↑(UInt8.toNat (s.getD v1.toNat (0:UInt8))):Int); .lv (Qe4 E9) λ(x4:Bool)=>let T6:Tree ((Int)⊕((Bool×Int×List Q0d)⊕(((List Q0d)×Bool)))):= .nx ((rE (s:List UInt8)∧True∧rE v0.1∧rE ((wrap i64 (v1+1)):Int)∧rE v0.2.1∧True)∧rE v0.2.2∧True) (Sum.inl (wrap i64 (v1+1))); .br x4 T6 (.cn E12 (.lv (Qbb E9) λ(x5:Bool)=> .br x5 T6 (.cn E12 (.br (E9==(95:Int)) T6 T4)))))) T4; .br x3 T2 (.br (E7==(45:Int)) T2 (let T1:Tree ((Bool×Int×List Q0d)⊕(((List Q0d)×Bool))):= .cn (decide (0≤v0.2.1∧v0.2.1≤wrap i64 (v0.2.1+1)∧wrap i64 (v0.2.1+1)≤(s.length:Int))) (.cn E10 (.nx ((rE (s:List UInt8)∧True∧rE (false:Bool)∧rE ((wrap i64 (v0.2.1+1)):Int)∧True)∧rE ((v0.2.2++[{kind:=3,D0:=List.take (Int.toNat (wrap i64 (v0.2.1+1))-Int.toNat v0.2.1) (List.drop v0.2.1.toNat s),gap:=v0.1}]):List (RK.T RK.vmfleetref1Token))∧True) (Sum.inl (false,wrap i64 (v0.2.1+1),v0.2.2++[{kind:=3,D0:=List.take (Int.toNat (wrap i64 (v0.2.1+1))-Int.toNat v0.2.1) E13,gap:=v0.1}])))); .br (E7==(44:Int)) T1 (.br (E7==(58:Int)) T1 (.br (E7==(40:Int)) T1 (.br (E7==(41:Int)) T1 (.br (E7==(46:Int)) T1 (.lf (Sum.inr ([],false))))))))))))) (.lf (Sum.inr (v0.2.2,true)))
def Qun(s:(List UInt8)):((List Q0d)×Bool):=(Q9t s).m
abbrev Qec(s:(List UInt8)):Prop:=(Q9t s).p
def Qw7:LInv:={
 α:=(Bool)×(Int)×(List Q0d)
 F:=λst a=>([(0,(lk st 0)),(4, .all 0),(5, .bool a.1),(6, .int i64 a.2.1)],[⟨false,273,3, .recs RK.vmfleetref1Token a.2.2⟩])
 a0:=λst=>((lk st 5).toBool,(lk st 6).toInt,(Qam RK.vmfleetref1Token st.rows (rN st 4)))
 ex0:=λst=>[]++[(Q1m (lk st 4) (st.rows.length+0))]
 next:=λst=>((lk st 5).toBool,(lk st 6).toInt,(Qam RK.vmfleetref1Token st.rows (rN st 4)))
 ex:=λst=>[]++[(Q1m (lk st 4) (st.rows.length+0))]}
def Qv8:LInv:={
 α:=(Int)
 F:=λst a=>([(0,(lk st 0)),(4, .all 0),(5,(lk st 5)),(6, .int i64 a),(8,(lk st 8))],[⟨false,273,3,esOf st.rows (rN st 4)⟩])
 a0:=λst=>(lk st 6).toInt
 ex0:=λst=>[]++[(Q1m (lk st 4) (st.rows.length+0))]
 next:=λst=>(lk st 6).toInt
 ex:=λst=>[]++[(Q1m (lk st 4) (st.rows.length+0))]}
def Qwa:LInv:={
 α:=(Int)
 F:=λst a=>([(0,(lk st 0)),(4, .all 0),(5,(lk st 5)),(6, .int i64 a),(8,(lk st 8))],[⟨false,273,3,esOf st.rows (rN st 4)⟩])
 a0:=λst=>(lk st 6).toInt
 ex0:=λst=>[]++[(Q1m (lk st 4) (st.rows.length+0))]
 next:=λst=>(lk st 6).toInt
 ex:=λst=>[]++[(Q1m (lk st 4) (st.rows.length+0))]}
def Qr3:List (Nat×LInv):=[(4,Qw7),(12,Qv8),(17,Qwa)]
def Qyj:Q0e:=mkP 223 [] true [.one (.str)] [] (λargs rows=>Qec (argS args 0)) (λargs rows=>Qun (argS args 0)) (λX=> .tup [.all 0, .bool (X.2)]) (λX=>[⟨false,273,3, .recs .vmfleetref1Token (X.1)⟩])
theorem Qw:Q08 Tryz.prog Qyj:=Q0x Q0r Q0s (.cons Ql9 (.cons Qm7 (.nil))) Tryz.func223 Tryz.call223 (λargs rows=>Q9t (argS args 0)) [.row 273 3 (.recs .vmfleetref1Token)] Qr3 3 (λ_ _ _=>by kernel_rfl) (λ_ _=>rfl) (λ_ _ h=>h) (λ_ X=>by kernel_rfl)
 def digT (p:Int→Prop) (r:Int→List UInt8) (n:Int):Tree (List UInt8):=
 .br (decide (n<(10:Int))) (.lf ([(λ(n:Int)=>UInt8.ofNat n.toNat) (IntKind.wrap IntKind.u8 (IntKind.wrap IntKind.u64 ((48:Int)+n)))])) (.an (p (IntKind.wrap IntKind.u64 (Int.tdiv n (10:Int)))) (.lv (r (IntKind.wrap IntKind.u64 (Int.tdiv n (10:Int)))) λ(x0:List UInt8)=> .cn (decide (x0.length+List.length [(λ(n:Int)=>UInt8.ofNat n.toNat) (IntKind.wrap IntKind.u8 (IntKind.wrap IntKind.u64 ((48:Int)+Int.tmod n (10:Int))))]≤maxLen)) (.lf (x0++[(λ(n:Int)=>UInt8.ofNat n.toNat) (IntKind.wrap IntKind.u8 (IntKind.wrap IntKind.u64 ((48:Int)+Int.tmod n (10:Int))))]))))
 def digF:Nat→Int→List UInt8
   |0,_=>[]
   |k+1,n=>(digT (λ_=>True) (digF k) n).m
 def digP (k:Nat) (n:Int):Prop:=0≤n∧n<10^k∧n<18446744073709551616∧0<k∧k≤30
 def digM (k:Nat):Q0e:=mkP 115 [] true [.one (.int .u64)] [] (λargs rows=>digP k (argI args 0)) (λargs rows=>digF k (argI args 0)) (λX=> .str X) (λX=>[])
 theorem digF_len: ∀k n,(digF k n).length≤k
   |0,_=>Nat.le_refl _
   | k+1,n=>by
     show(bif decide (n<10) then _ else letv (digF k _) λx0=>x0++_).length≤k+1
     have:=digF_len k (IntKind.wrap IntKind.u64 (Int.tdiv n 10))
     cases decide (n<10)
     · simp [letv,Tree.m];omega
     · simp [Tree.m]
 theorem digM_ok: ∀k,Q08 Tryz.prog (digM k)
   |0=>Qwq Tryz.call115 (λargs rows h=>absurd h.2.2.2.1 (Nat.lt_irrefl 0)) (λ_ X=>by kernel_rfl)
   | k + 1=>by
     refine Q0x Q0r Q0s (.cons (digM_ok k) .nil) Tryz.func115 Tryz.call115 (λargs rows=>digT (digP k) (digF k) (argI args 0)) [] [] 2 (λ_ _ _=>by kernel_rfl) (λ_ _=>rfl) (λargs rows h=> ?_) (λ_ X=>by kernel_rfl)
     obtain⟨h0,h1,h2,h3,h4⟩:=h
     generalize argI args 0=n at*
     refine w_br (λ_=>trivial) (λhn=> ?_)
     have hn:=of_decide_eq_false hn
     have e:IntKind.wrap IntKind.u64 (Int.tdiv n 10)=n/10:=by rw[IntKind.wrap_u64,Int.tdiv_eq_ediv_of_nonneg h0];omega
     refine w_an (show digP k _ from ?_) (w_lv λx hx=>w_cn (decide_eq_true ?_) trivial)
     · rw[e]
       rw[Int.pow_succ]at h1
       have hk:0<k:=by
         rcases Nat.eq_zero_or_pos k with rfl|h
         · simp at h1;omega
         · exact h
       exact⟨by omega,by omega,by omega,hk,by omega⟩
     · have:=digF_len k (IntKind.wrap IntKind.u64 (Int.tdiv n 10))
       rw[←hx]at this
       simp [maxLen];omega
def Qb8(n:Int):(List UInt8):=
digF 20 n
def Q3(n:Int):Prop:=
0≤n∧n<18446744073709551616
def Qif(n:Int):List D:=[.int .u64 n]
def Qi1(n:Int):List Row:=[]
def Qf0(X:(List UInt8)):D:= .str X
def Qe(X:(List UInt8)):List Row:=[]
def Qip:List PT:=[.one (.int .u64)]
def Qie:List RT:=[]
def Qtz(args:List D)(rows:List Row):(List UInt8):=Qb8 (argI args 0)
def Qti(args:List D)(rows:List Row):Prop:=Q3 (argI args 0)
def Z0p:Q0e:=mkP 115 [] true Qip Qie Qti Qtz Qf0 Qe
theorem Qp1(n:Int)(hw:Q3 n):Q3q Tryz.prog 115 (Qif n) (Qi1 n) (Qf0 (Qb8 n)) (Qe (Qb8 n)):=by
 have h20:(18446744073709551616:Int)≤10^20:=by decide
 exact mkP_calls (args:=[.int .u64 n]) (rows:=[]) (digM_ok 20) (by kernel_rfl) ⟨hw.1,Int.lt_of_lt_of_le hw.2 h20,hw.2,by decide,by decide⟩
set_option maxRecDepth 100000 in
theorem Qrc(args:List D)(rows:List Row):Qfb Qip args 0=Qif (argI args 0):=by kernel_rfl
set_option maxRecDepth 100000 in
theorem Qnx(args:List D)(rows:List Row):Q66 Qie rows 0=Qi1 (argI args 0):=by kernel_rfl
set_option maxRecDepth 100000 in
theorem Qv2(X:(List UInt8)):(ffB (Qf0 X)&&ffBR (Qe X))=true:=by kernel_rfl
theorem Qvy:Q08 Tryz.prog Z0p:=Qwq Tryz.call115 (λargs rows hp=>by rw[Qrc args rows,Qnx args rows];exact Qp1 (argI args 0) hp) (λ_ X=>Qv2 X)
def Q5n(n:Int):Tree (List UInt8):=
.br (decide (n<0)) (let E1:=wrap u64 (wrap u64 (wrap i64 (0-wrap i64 (n+1)))+1); .an (Q3 E1) (.lv (Qb8 E1) λ(x0:List UInt8)=> .cn (decide (1+x0.length≤maxLen)) (.lf ((45:UInt8)::x0)))) (.an (Q3 (wrap u64 n)) (.lv (Qb8 (wrap u64 n)) λ(x1:List UInt8)=> .lf x1))
def Qik(n:Int):(List UInt8):=(Q5n n).m
abbrev Qcx(n:Int):Prop:=(Q5n n).p
def Qwe:Q0e:=mkP 54 [] true [.one (.int .i64)] [] (λargs rows=>Qcx (argI args 0)) (λargs rows=>Qik (argI args 0)) (λX=> .str X) (λX=>[])
theorem Qtg:Q08 Tryz.prog Qwe:=Q0x Q0r Q0s (.cons Qvy (.nil)) Tryz.func54 Tryz.call54 (λargs rows=>Q5n (argI args 0)) [] [] 2 (λ_ _ _=>by kernel_rfl) (λ_ _=>rfl) (λ_ _ h=>h) (λ_ X=>by kernel_rfl)
def Qbe(r:Int):Tree (List UInt8):=
.an (Qcx r) (.lv (Qik r) λ(x0:List UInt8)=> .cn (decide (1+x0.length≤maxLen)) (.lf ((114:UInt8)::x0)))
def Z8e(r:Int):(List UInt8):=(Qbe r).m
abbrev Qiz(r:Int):Prop:=(Qbe r).p
def Za7:Q0e:=mkP 273 [] true [.one (.int .i64)] [] (λargs rows=>Qiz (argI args 0)) (λargs rows=>Z8e (argI args 0)) (λX=> .str X) (λX=>[])
theorem Z54:Q08 Tryz.prog Za7:=Q0x Q0r Q0s (.cons Qtg (.nil)) Tryz.func273 Tryz.call273 (λargs rows=>Qbe (argI args 0)) [] [] 2 (λ_ _ _=>by kernel_rfl) (λ_ _=>rfl) (λ_ _ h=>h) (λ_ X=>by kernel_rfl)
def Qkr(s:(List UInt8))(z:(Int)):Prop:=0≤z∧z≤16
def Qbq(s:(List UInt8))(z:(Int)):Nat:=(16-z).toNat
def Q8f(s:(List UInt8)):Tree (Int×Bool):=
.lp inferInstance (Qbq s 0+1) ((rE (s:List UInt8)∧rE (0:Int)∧True)∧True) 0 λ(v0:Int)=> .br (decide (v0<16)) (.an (Qiz v0) (.lv (Z8e v0) λ(x0:List UInt8)=> .br (decide (s=x0)) (.lf (Sum.inr (v0,true))) (.nx ((rE (s:List UInt8)∧rE ((wrap i64 (v0+1)):Int)∧True)∧True) (Sum.inl (wrap i64 (v0+1)))))) (.lf (Sum.inr (0,false)))
def Qe7(s:(List UInt8)):(Int×Bool):=(Q8f s).m
theorem Qlp(s:(List UInt8)):(Q8f s).p:=by
 unfold Tree.p Q8f
 have dp: ∀x,Q3 (IntKind.wrap .u64 x):=λx=>by unfold Q3;rw[IntKind.wrap_u64];omega
 have dl: ∀x,(Qb8 x).length≤20:=λx=>digF_len 20 x
 have hd: ∀x,(Q5n x).w (λr=>r.length≤21):=λx=>by
   unfold Q5n
   refine w_br (λ_=>w_an (dp _) (w_lv λx0 h0=>w_cn (decide_eq_true ?_) ?_)) (λ_=>w_an (dp _) (w_lv λx1 h1=> ?_))
   · have:=dl (IntKind.wrap .u64 (IntKind.wrap .u64 (IntKind.wrap .i64 (0-IntKind.wrap .i64 (x+1)))+1));rw[←h0]at this;simp [maxLen];omega
   · have:=dl (IntKind.wrap .u64 (IntKind.wrap .u64 (IntKind.wrap .i64 (0-IntKind.wrap .i64 (x+1)))+1));rw[←h0]at this;show(_::x0).length≤21;simp;omega
   · rw[h1];exact Nat.le_trans (dl _) (by decide)
 have hr: ∀x,(Qbe x).p:=λx=>by
   unfold Tree.p Qbe
   refine w_an (Tree.pp (hd x)).1 (w_lv λx0 h0=>w_cn (decide_eq_true ?_) trivial)
   have:(Qik x).length≤21:=(Tree.pp (hd x)).2
   rw[←h0]at this;simp [maxLen];omega
 refine w_lp (inv:=Qkr s) (μ:=Qbq s) ⟨by decide,by decide⟩ (Nat.lt_succ_self _) (λz hz=> ?_)
 obtain⟨z1,z2⟩:=hz
 refine w_br (λhb=>w_an (hr _) (w_lv λx0 _=>w_br (λ_=>trivial) (λ_=>w_nx ?_))) (λ_=>trivial)
 have hb:=of_decide_eq_true hb
 show(0≤IntKind.i64.wrap (z+1)∧IntKind.i64.wrap (z+1)≤16)∧(16-IntKind.i64.wrap (z+1)).toNat<(16-z).toNat
 rw[IntKind.wrap_i64];omega
def Qn1:LInv:={
 α:=(Int)
 F:=λst a=>([(0,(lk st 0)),(4, .int i64 a)],[])
 a0:=λst=>(lk st 4).toInt
 ex0:=λst=>[]++[]
 next:=λst=>(lk st 4).toInt
 ex:=λst=>[]++[]}
def Qkq:List (Nat×LInv):=[(2,Qn1)]
def Qnz:Q0e:=mkR 260 [] true [.one (.str)] [] (λargs rows=>Qe7 (argS args 0)) (λX=> .tup [.int .i64 (X.1), .bool (X.2)]) (λX=>[])
theorem Qfr:Q08 Tryz.prog Qnz:=Q2j Q0r Q0s (.cons Z54 (.nil)) Tryz.func260 Tryz.call260 (λargs rows=>Q8f (argS args 0)) [] Qkq 3 (λ_ _ _=>by kernel_rfl) (λ_ _=>rfl) (λargs rows=>Qlp (argS args 0)) (λ_ X=>by kernel_rfl)
def Qf7(s:(List UInt8)):Tree Bool:=
.lv (Qe7 s) λ(x0:Int×Bool)=> .br (decide ((s.length:Int)≥(1:Int))) (.br (decide ((s.length:Int)≤(12:Int))) (.cn (decide ((0:Int)≤(0:Int)∧0<(s.length:Int))) (.lv (Qe4 (↑(UInt8.toNat (s.getD (Int.toNat 0) (0:UInt8))):Int)) λ(x1:Bool)=> .br x1 (.lf (!x0.2)) (.lf false))) (.lf false)) (.lf false)
def Qub(s:(List UInt8)):Bool:=(Qf7 s).m
abbrev Qdo(s:(List UInt8)):Prop:=(Qf7 s).p
def Z5o:Q0e:=mkP 224 [] true [.one (.str)] [] (λargs rows=>Qdo (argS args 0)) (λargs rows=>Qub (argS args 0)) (λX=> .bool X) (λX=>[])
theorem Qq1:Q08 Tryz.prog Z5o:=Q0x Q0r Q0s (.cons Qfr (.cons Ql9 (.nil))) Tryz.func224 Tryz.call224 (λargs rows=>Qf7 (argS args 0)) [] [] 2 (λ_ _ _=>by kernel_rfl) (λ_ _=>rfl) (λ_ _ h=>h) (λ_ X=>by kernel_rfl)
def Q7o(op:Int):Tree (List UInt8):=
let T1:Tree ((List UInt8)):=let T3:Tree ((List UInt8)):= .br (op==48) (.lf ([(106:UInt8),97,108])) (.br (op==49) (.lf ([(106:UInt8),97,108,114])) (.br (decide (op≥56)) (.br (decide (op≤64)) (.cn (Nat.beq 1 1&&Nat.blt 0 1&&decide (0≤wrap i64 (op-56)∧wrap i64 (op-56)<(↑9:Int))) (.lf (List.getD [[(101:UInt8),99,97,108,108],[(101:UInt8),114,101,116],[(99:UInt8),115,114,114],[(99:UInt8),115,114,119],[(105:UInt8),110],[(111:UInt8),117,116],[(119:UInt8),102,105],[(102:UInt8),108,117,115,104],[(104:UInt8),97,108,116]] (Int.toNat (wrap i64 (op-56))) (RK.dflt RK.str)))) (.lf ([]))) (.lf ([])))); .br (decide (op≥40)) (.br (decide (op≤45)) (.cn (Nat.beq 1 1&&Nat.blt 0 1&&decide (0≤wrap i64 (op-40)∧wrap i64 (op-40)<(↑6:Int))) (.lf (List.getD [[(98:UInt8),101,113],[(98:UInt8),110,101],[(98:UInt8),108,116],[(98:UInt8),103,101],[(98:UInt8),108,116,117],[(98:UInt8),103,101,117]] (Int.toNat (wrap i64 (op-40))) (RK.dflt RK.str)))) T3) T3;let T2:Tree ((List UInt8)):=let T4:Tree ((List UInt8)):= .br (decide (op≥32)) (.br (decide (op≤36)) (.cn (Nat.beq 1 1&&Nat.blt 0 1&&decide (0≤wrap i64 (op-32)∧wrap i64 (op-32)<(↑5:Int))) (.lf (List.getD [[(108:UInt8),119],[(108:UInt8),98],[(108:UInt8),98,117],[(115:UInt8),119],[(115:UInt8),98]] (Int.toNat (wrap i64 (op-32))) (RK.dflt RK.str)))) T1) T1; .br (decide (op≥16)) (.br (decide (op≤24)) (.cn (Nat.beq 1 1&&Nat.blt 0 1&&decide (0≤wrap i64 (op-16)∧wrap i64 (op-16)<(↑9:Int))) (.lf (List.getD [[(97:UInt8),100,100,105],[(97:UInt8),110,100,105],[(111:UInt8),114,105],[(120:UInt8),111,114,105],[(115:UInt8),104,108,105],[(115:UInt8),104,114,105],[(115:UInt8),97,114,105],[(115:UInt8),108,116,105],[(108:UInt8),117,105]] (Int.toNat (wrap i64 (op-16))) (RK.dflt RK.str)))) T4) T4; .br (decide (op≥1)) (.br (decide (op≤13)) (.cn (Nat.beq 1 1&&Nat.blt 0 1&&decide (0≤wrap i64 (op-1)∧wrap i64 (op-1)<(↑13:Int))) (.lf (List.getD [[(97:UInt8),100,100],[(115:UInt8),117,98],[(97:UInt8),110,100],[(111:UInt8),114],[(120:UInt8),111,114],[(115:UInt8),104,108],[(115:UInt8),104,114],[(115:UInt8),97,114],[(109:UInt8),117,108],[(100:UInt8),105,118],[(114:UInt8),101,109],[(115:UInt8),108,116],[(115:UInt8),108,116,117]] (Int.toNat (wrap i64 (op-1))) (RK.dflt RK.str)))) T2) T2
def Qm9(op:Int):(List UInt8):=(Q7o op).m
abbrev Qas(op:Int):Prop:=(Q7o op).p
def Qv0:Q0e:=mkP 262 [] true [.one (.int .i64)] [] (λargs rows=>Qas (argI args 0)) (λargs rows=>Qm9 (argI args 0)) (λX=> .str X) (λX=>[])
theorem Qra:Q08 Tryz.prog Qv0:=Q0x Q0r Q0s (.nil) Tryz.func262 Tryz.call262 (λargs rows=>Q7o (argI args 0)) [] [] 2 (λ_ _ _=>by kernel_rfl) (λ_ _=>rfl) (λ_ _ h=>h) (λ_ X=>by kernel_rfl)
def Qks(s:(List UInt8))(z:(Int)):Nat:=(65-z).toNat
def Q70(s:(List UInt8)):Tree Int:=
.lp inferInstance (Qks s 1+1) ((rE (s:List UInt8)∧rE (1:Int)∧True)∧True) 1 λ(v0:Int)=> .br (decide (v0≤64)) (.lv (Q23 v0) λ(x0:Int)=> .br (decide (x0>0)) (.an (Qas v0) (.lv (Qm9 v0) λ(x1:List UInt8)=> .br (decide (x1=s)) (.lf (Sum.inr v0)) (.nx ((rE (s:List UInt8)∧rE ((wrap i64 (v0+1)):Int)∧True)∧True) (Sum.inl (wrap i64 (v0+1)))))) (.nx ((rE (s:List UInt8)∧rE ((wrap i64 (v0+1)):Int)∧True)∧True) (Sum.inl (wrap i64 (v0+1))))) (.lf (Sum.inr 0))
def Q7a(s:(List UInt8)):Int:=(Q70 s).m
abbrev Q31(s:(List UInt8)):Prop:=(Q70 s).p
def Qop:LInv:={
 α:=(Int)
 F:=λst a=>([(0,(lk st 0)),(3, .int i64 a)],[])
 a0:=λst=>(lk st 3).toInt
 ex0:=λst=>[]++[]
 next:=λst=>(lk st 3).toInt
 ex:=λst=>[]++[]}
def Qm2:List (Nat×LInv):=[(2,Qop)]
def Qqm:Q0e:=mkP 227 [] true [.one (.str)] [] (λargs rows=>Q31 (argS args 0)) (λargs rows=>Q7a (argS args 0)) (λX=> .int .i64 X) (λX=>[])
theorem Qgm:Q08 Tryz.prog Qqm:=Q0x Q0r Q0s (.cons Qft (.cons Qra (.nil))) Tryz.func227 Tryz.call227 (λargs rows=>Q70 (argS args 0)) [] Qm2 3 (λ_ _ _=>by kernel_rfl) (λ_ _=>rfl) (λ_ _ h=>h) (λ_ X=>by kernel_rfl)
def Q8u(what:(List UInt8)):Tree ((List UInt8)×Bool):=
.an (Q31 what) (.lv (Q7a what) λ(x0:Int)=> .br (decide (what=[(46:UInt8),119,111,114,100])) (.lf ([(120:UInt8)],true)) (.br (decide (what=[(46:UInt8),115,112,97,99,101])) (.lf ([(110:UInt8)],true)) (.br (decide (what=[(108:UInt8),105])) (.lf ([(114:UInt8),44,120],true)) (.br (decide (what=[(109:UInt8),118])) (.lf ([(114:UInt8),44,114],true)) (.br (decide (what=[(110:UInt8),111,112])) (.lf ([],true)) (.br (x0==0) (.lf ([],false)) (let T1:Tree (((List UInt8)×Bool)):= .br (x0==48) (.lf ([(114:UInt8),44,120],true)) (.lv (Q23 x0) λ(x1:Int)=> .br (x1==1) (.lf ([],true)) (.br (x1==2) (.lf ([(114:UInt8),44,114,44,114],true)) (.br (decide (x1≥6)) (.lf ([(114:UInt8),44,110],true)) (.lf ([(114:UInt8),44,114,44,110],true)))));let T2:Tree (((List UInt8)×Bool)):= .br (decide (x0≥40)) (.br (decide (x0≤45)) (.lf ([(114:UInt8),44,114,44,120],true)) T1) T1; .br (decide (x0≥32)) (.br (decide (x0≤36)) (.lf ([(114:UInt8),44,110,40,114,41],true)) T2) T2)))))))
def Qce(what:(List UInt8)):((List UInt8)×Bool):=(Q8u what).m
abbrev Q56(what:(List UInt8)):Prop:=(Q8u what).p
def Qvp:Q0e:=mkP 225 [] true [.one (.str)] [] (λargs rows=>Q56 (argS args 0)) (λargs rows=>Qce (argS args 0)) (λX=> .tup [.str (X.1), .bool (X.2)]) (λX=>[])
theorem Qu:Q08 Tryz.prog Qvp:=Q0x Q0r Q0s (.cons Qgm (.cons Qft (.nil))) Tryz.func225 Tryz.call225 (λargs rows=>Q8u (argS args 0)) [] [] 2 (λ_ _ _=>by kernel_rfl) (λ_ _=>rfl) (λ_ _ h=>h) (λ_ X=>by kernel_rfl)
def Qp8(s:(List UInt8))(z:(Int)×(Int)):Nat:=(s.length-z.2).toNat
def Qgu(s:(List UInt8))(z:(Int)×(Int)):Nat:=(s.length-z.2).toNat
def Qae(s:(List UInt8)):Tree (Int×Bool):=
let E7:=decide ((0:Int)≤(0:Int)∧0<(s.length:Int));let E8:=(↑(UInt8.toNat (s.getD (Int.toNat 0) (0:UInt8))):Int);let T1:Tree ((Int×Bool)):=let T2:Tree ((Int×Bool)):= .br (decide (wrap i64 ((s.length:Int)-(0:Int))<1)) (.lf (0,false)) (.br (decide (wrap i64 ((s.length:Int)-(0:Int))>10)) (.lf (0,false)) (.lp inferInstance (Qgu s (0,0)+1) ((rE (s:List UInt8)∧rE (0:Int)∧rE (0:Int)∧rE (0:Int)∧True)∧True) (0,0) λ(v0:Int×Int)=> .br (decide (v0.2<(s.length:Int))) (let E9:=decide (0≤v0.2∧v0.2<(s.length:Int)); .cn E9 (let E5:=(↑(UInt8.toNat (s.getD v0.2.toNat (0:UInt8))):Int); .lv (Qbb E5) λ(x2:Bool)=> .br (!x2) (.lf (Sum.inr (0,false))) (.cn E9 (.nx ((rE (s:List UInt8)∧rE (0:Int)∧rE ((wrap i64 (wrap i64 (10*v0.1)+wrap i64 (wrap u8 ((↑(UInt8.toNat (s.getD v0.2.toNat (0:UInt8))):Int)-(48:Int))))):Int)∧rE ((wrap i64 (v0.2+1)):Int)∧True)∧True) (Sum.inl (wrap i64 (wrap i64 (10*v0.1)+wrap i64 (wrap u8 (E5-(48:Int)))),wrap i64 (v0.2+1))))))) (.br (decide (v0.1≥(-2147483648))) (.lf (Sum.inr (v0.1,decide (v0.1≤4294967295)))) (.lf (Sum.inr (v0.1,false)))))); .br (decide ((s.length:Int)>(0:Int))) (.cn E7 (.br (E8==(45:Int)) (.br (decide (wrap i64 ((s.length:Int)-(1:Int))<1)) (.lf (0,false)) (.br (decide (wrap i64 ((s.length:Int)-(1:Int))>10)) (.lf (0,false)) (.lp inferInstance (Qgu s (0,1)+1) ((rE (s:List UInt8)∧rE (1:Int)∧rE (0:Int)∧rE (1:Int)∧True)∧True) (0,1) λ(v0:Int×Int)=> .br (decide (v0.2<(s.length:Int))) (let E10:=decide (0≤v0.2∧v0.2<(s.length:Int)); .cn E10 (let E6:=(↑(UInt8.toNat (s.getD v0.2.toNat (0:UInt8))):Int); .lv (Qbb E6) λ(x1:Bool)=> .br (!x1) (.lf (Sum.inr (0,false))) (.cn E10 (.nx ((rE (s:List UInt8)∧rE (1:Int)∧rE ((wrap i64 (wrap i64 (10*v0.1)+wrap i64 (wrap u8 ((↑(UInt8.toNat (s.getD v0.2.toNat (0:UInt8))):Int)-(48:Int))))):Int)∧rE ((wrap i64 (v0.2+1)):Int)∧True)∧True) (Sum.inl (wrap i64 (wrap i64 (10*v0.1)+wrap i64 (wrap u8 (E6-(48:Int)))),wrap i64 (v0.2+1))))))) (.br (decide (wrap i64 (0-v0.1)≥(-2147483648))) (.lf (Sum.inr (wrap i64 (0-v0.1),decide (wrap i64 (0-v0.1)≤4294967295)))) (.lf (Sum.inr (wrap i64 (0-v0.1),false))))))) T2)) T2; .br (decide ((s.length:Int)>(2:Int))) (.cn E7 (.br (E8==(48:Int)) (.cn (decide ((0:Int)≤(1:Int)∧1<(s.length:Int))) (.br ((↑(UInt8.toNat (s.getD (Int.toNat 1) (0:UInt8))):Int)==(120:Int)) (.br (decide ((s.length:Int)>(10:Int))) (.lf (0,false)) (.lp inferInstance (Qp8 s (0,2)+1) ((rE (s:List UInt8)∧rE (0:Int)∧rE (2:Int)∧True)∧True) (0,2) λ(v0:Int×Int)=> .br (decide (v0.2<(s.length:Int))) (let E4:=decide (0≤v0.2∧v0.2<(s.length:Int)); .cn E4 (let E3:=(↑(UInt8.toNat (s.getD v0.2.toNat (0:UInt8))):Int); .lv (Qbb E3) λ(x0:Bool)=> .br x0 (.cn E4 (.nx ((rE (s:List UInt8)∧rE ((wrap i64 (wrap i64 (16*v0.1)+wrap i64 (wrap u8 ((↑(UInt8.toNat (s.getD v0.2.toNat (0:UInt8))):Int)-(48:Int))))):Int)∧rE ((wrap i64 (v0.2+1)):Int)∧True)∧True) (Sum.inl (wrap i64 (wrap i64 (16*v0.1)+wrap i64 (wrap u8 (E3-(48:Int)))),wrap i64 (v0.2+1))))) (.cn E4 (.br (decide (E3≥(97:Int))) (.cn E4 (.br (decide (E3≤(102:Int))) (.cn E4 (.nx ((rE (s:List UInt8)∧rE ((wrap i64 (wrap i64 (wrap i64 (16*v0.1)+wrap i64 (wrap u8 ((↑(UInt8.toNat (s.getD v0.2.toNat (0:UInt8))):Int)-(97:Int))))+10)):Int)∧rE ((wrap i64 (v0.2+1)):Int)∧True)∧True) (Sum.inl (wrap i64 (wrap i64 (wrap i64 (16*v0.1)+wrap i64 (wrap u8 (E3-(97:Int))))+10),wrap i64 (v0.2+1))))) (.lf (Sum.inr (0,false))))) (.lf (Sum.inr (0,false))))))) (.lf (Sum.inr (v0.1,true))))) T1)) T1)) T1
def Qtp(s:(List UInt8)):(Int×Bool):=(Qae s).m
abbrev Qeq(s:(List UInt8)):Prop:=(Qae s).p
def Qwc:LInv:={
 α:=(Int)×(Int)
 F:=λst a=>([(0,(lk st 0)),(4, .int i64 a.1),(5, .int i64 a.2)],[])
 a0:=λst=>((lk st 4).toInt,(lk st 5).toInt)
 ex0:=λst=>[]++[]
 next:=λst=>((lk st 4).toInt,(lk st 5).toInt)
 ex:=λst=>[]++[]}
def Qw8:LInv:={
 α:=(Int)×(Int)
 F:=λst a=>([(0,(lk st 0)),(6,(lk st 6)),(7, .int i64 a.1),(8, .int i64 a.2)],[])
 a0:=λst=>((lk st 7).toInt,(lk st 8).toInt)
 ex0:=λst=>[]++[]
 next:=λst=>((lk st 7).toInt,(lk st 8).toInt)
 ex:=λst=>[]++[]}
def Qrd:List (Nat×LInv):=[(6,Qwc),(21,Qw8)]
def Z1d:Q0e:=mkP 261 [] true [.one (.str)] [] (λargs rows=>Qeq (argS args 0)) (λargs rows=>Qtp (argS args 0)) (λX=> .tup [.int .i64 (X.1), .bool (X.2)]) (λX=>[])
theorem Qwd:Q08 Tryz.prog Z1d:=Q0x Q0r Q0s (.cons Qm7 (.nil)) Tryz.func261 Tryz.call261 (λargs rows=>Qae (argS args 0)) [] Qrd 3 (λ_ _ _=>by kernel_rfl) (λ_ _=>rfl) (λ_ _ h=>h) (λ_ X=>by kernel_rfl)
def Qn(l:(List Q0d))(p:(List UInt8))(z:(Int)×(List Q0l)):Nat:=(l.length-z.1).toNat
def Q95(l:(List Q0d))(p:(List UInt8)):Tree ((List Q0l)×Bool):=
.br ((l.length:Int) !=(p.length:Int)) (.lf ([],false)) (.lp inferInstance (Qn l p (0,[])+1) ((((Els.Nil (Els.recs RK.vmfleetref1Token l)∨rE (3:Nat))∧rE (l:List (RK.T RK.vmfleetref1Token)))∧rE (p:List UInt8)∧True∧rE (0:Int)∧True)∧rE ([]:List (RK.T RK.vmfleetref1Arg))∧True) (0,[]) λ(v0:Int×List Q0l)=> .br (decide (v0.1<(l.length:Int))) (.cn (Nat.beq 3 3&&Nat.blt 0 3&&decide (0≤v0.1∧v0.1<(l.length:Int))) (let E6:=decide (0≤v0.1∧v0.1<(p.length:Int)); .cn E6 (let E3:=l.getD v0.1.toNat (RK.dflt RK.vmfleetref1Token);let E4:=(↑(UInt8.toNat (p.getD v0.1.toNat (0:UInt8))):Int);let E5:=decide (32*(v0.2.length+1)≤140737488355328); .br (E4==(114:Int)) (.lv (Qe7 E3.D0) λ(x0:Int×Bool)=> .br (E3.kind !=1) (.lf (Sum.inr ([],false))) (.br (!x0.2) (.lf (Sum.inr ([],false))) (.cn E5 (.nx ((((Els.Nil (Els.recs RK.vmfleetref1Token l)∨rE (3:Nat))∧rE (l:List (RK.T RK.vmfleetref1Token)))∧rE (p:List UInt8)∧True∧rE ((wrap i64 (v0.1+1)):Int)∧True)∧rE ((v0.2++[{reg:=x0.1,num:=0,label:=[]}]):List (RK.T RK.vmfleetref1Arg))∧True) (Sum.inl (wrap i64 (v0.1+1),v0.2++[{reg:=x0.1,num:=0,label:=[]}])))))) (let T1:Tree ((Int×List Q0l)⊕(((List Q0l)×Bool))):= .an (Qeq E3.D0) (.lv (Qtp E3.D0) λ(x2:Int×Bool)=> .br (E3.kind !=2) (.lf (Sum.inr ([],false))) (.br (!x2.2) (.lf (Sum.inr ([],false))) (.cn E5 (.nx ((((Els.Nil (Els.recs RK.vmfleetref1Token l)∨rE (3:Nat))∧rE (l:List (RK.T RK.vmfleetref1Token)))∧rE (p:List UInt8)∧True∧rE ((wrap i64 (v0.1+1)):Int)∧True)∧rE ((v0.2++[{reg:=0,num:=x2.1,label:=[]}]):List (RK.T RK.vmfleetref1Arg))∧True) (Sum.inl (wrap i64 (v0.1+1),v0.2++[{reg:=0,num:=x2.1,label:=[]}]))))));let T2:Tree ((Int×List Q0l)⊕(((List Q0l)×Bool))):= .cn E6 (.br (E4==(120:Int)) (.br (E3.kind==1) (.an (Qdo E3.D0) (.lv (Qub E3.D0) λ(x1:Bool)=> .br x1 (.cn E5 (.nx ((((Els.Nil (Els.recs RK.vmfleetref1Token l)∨rE (3:Nat))∧rE (l:List (RK.T RK.vmfleetref1Token)))∧rE (p:List UInt8)∧True∧rE ((wrap i64 (v0.1+1)):Int)∧True)∧rE ((v0.2++[{reg:=0,num:=0,label:=(l.getD v0.1.toNat (RK.dflt RK.vmfleetref1Token)).D0}]):List (RK.T RK.vmfleetref1Arg))∧True) (Sum.inl (wrap i64 (v0.1+1),v0.2++[{reg:=0,num:=0,label:=E3.D0}])))) T1)) T1) T1); .br (E4==(110:Int)) T2 (.br (E4==(120:Int)) T2 (.br (E3.kind !=3) (.lf (Sum.inr ([],false))) (.cn (decide (0≤v0.1∧v0.1≤wrap i64 (v0.1+1)∧wrap i64 (v0.1+1)≤(p.length:Int))) (.br (!decide (E3.D0=List.take (Int.toNat (wrap i64 (v0.1+1))-Int.toNat v0.1) (List.drop v0.1.toNat p))) (.lf (Sum.inr ([],false))) (.nx ((((Els.Nil (Els.recs RK.vmfleetref1Token l)∨rE (3:Nat))∧rE (l:List (RK.T RK.vmfleetref1Token)))∧rE (p:List UInt8)∧True∧rE ((wrap i64 (v0.1+1)):Int)∧True)∧rE v0.2∧True) (Sum.inl (wrap i64 (v0.1+1),v0.2))))))))))) (.lf (Sum.inr (v0.2,true))))
def Qbx(l:(List Q0d))(p:(List UInt8)):((List Q0l)×Bool):=(Q95 l p).m
abbrev Q55(l:(List Q0d))(p:(List UInt8)):Prop:=(Q95 l p).p
def Qu8:LInv:={
 α:=(Int)×(List Q0l)
 F:=λst a=>([(0,(lk st 0)),(1,(lk st 1)),(6, .all 0),(7, .int i64 a.1)],[⟨false,168,3, .recs RK.vmfleetref1Arg a.2⟩])
 a0:=λst=>((lk st 7).toInt,(Qam RK.vmfleetref1Arg st.rows (rN st 6)))
 ex0:=λst=>[]++[(Q1m (lk st 6) (st.rows.length+0))]
 next:=λst=>((lk st 7).toInt,(Qam RK.vmfleetref1Arg st.rows (rN st 6)))
 ex:=λst=>[]++[(Q1m (lk st 6) (st.rows.length+0))]}
def Qon:List (Nat×LInv):=[(5,Qu8)]
def Qwf:Q0e:=mkP 226 [] true [.one (.recs .vmfleetref1Token), .one (.str)] [] (λargs rows=>Q55 (argR .vmfleetref1Token args 0) (argS args 1)) (λargs rows=>Qbx (argR .vmfleetref1Token args 0) (argS args 1)) (λX=> .tup [.all 0, .bool (X.2)]) (λX=>[⟨false,168,3, .recs .vmfleetref1Arg (X.1)⟩])
theorem Qup:Q08 Tryz.prog Qwf:=Q0x Q0r Q0s (.cons Qfr (.cons Qq1 (.cons Qwd (.nil)))) Tryz.func226 Tryz.call226 (λargs rows=>Q95 (argR .vmfleetref1Token args 0) (argS args 1)) [.row 168 3 (.recs .vmfleetref1Arg)] Qon 3 (λ_ _ _=>by kernel_rfl) (λ_ _=>rfl) (λ_ _ h=>h) (λ_ X=>by kernel_rfl)
def Qoy(s:(List UInt8))(z:(List UInt8)×(Int)):Nat:=(s.length-z.2).toNat
def Qaa(s:(List UInt8)):Tree ((List UInt8)×Q05×Bool):=
.lp inferInstance (Qoy s (s,0)+1) ((rE (s:List UInt8)∧rE ([]:List UInt8)∧(rE (0:Nat)∧rE (0:Nat))∧rE (false:Bool)∧rE (0:Int)∧True)∧(rE ([]:List UInt8)∧rE (0:Int)∧True∧rE (0:Int)∧rE (0:Int)∧rE (0:Int)∧True)∧True) (s,0) λ(v0:List UInt8×Int)=> .br (decide (v0.2<(v0.1.length:Int))) (.cn (decide (0≤v0.2∧v0.2<(v0.1.length:Int))) (.br ((↑(UInt8.toNat (v0.1.getD v0.2.toNat (0:UInt8))):Int)==(59:Int)) (.cn (decide ((0:Int)≤(0:Int)∧0≤v0.2∧v0.2≤(v0.1.length:Int))) (.nx ((rE ((List.take (Int.toNat v0.2-Int.toNat 0) (List.drop (Int.toNat 0) v0.1)):List UInt8)∧rE ([]:List UInt8)∧(rE (0:Nat)∧rE (0:Nat))∧rE (false:Bool)∧rE ((wrap i64 (v0.2+1)):Int)∧True)∧(rE ([]:List UInt8)∧rE (0:Int)∧True∧rE (0:Int)∧rE (0:Int)∧rE (0:Int)∧True)∧True) (Sum.inl (List.take (Int.toNat v0.2-Int.toNat 0) (List.drop (Int.toNat 0) v0.1),wrap i64 (v0.2+1))))) (.nx ((rE v0.1∧rE ([]:List UInt8)∧(rE (0:Nat)∧rE (0:Nat))∧rE (false:Bool)∧rE ((wrap i64 (v0.2+1)):Int)∧True)∧(rE ([]:List UInt8)∧rE (0:Int)∧True∧rE (0:Int)∧rE (0:Int)∧rE (0:Int)∧True)∧True) (Sum.inl (v0.1,wrap i64 (v0.2+1)))))) (.an (Qec v0.1) (.lv (Qun v0.1) λ(x0:List Q0d×Bool)=> .br (!x0.2) (.lf (Sum.inr ([],{what:=[],op:=0,l:=[],D3:=0,at_:=0,size:=0},false))) (let E9:=x0.1.getD (Int.toNat 0) (RK.dflt RK.vmfleetref1Token);let T1:Tree ((List UInt8×Int)⊕(((List UInt8)×Q05×Bool))):= .an (Q56 E9.D0) (.lv (Qce E9.D0) λ(x27:List UInt8×Bool)=> .br (!x27.2) (.lf (Sum.inr ([],{what:=[],op:=0,l:=[],D3:=0,at_:=0,size:=0},false))) (let E20:=Int.toNat (x0.1.length:Int)-Int.toNat 1;let T6:Tree ((List UInt8×Int)⊕(((List UInt8)×Q05×Bool))):=let E31:=List.take E20 (List.drop (Int.toNat 1) x0.1); .an (Q55 E31 x27.1) (.lv (Qbx E31 x27.1) λ(x28:List Q0l×Bool)=> .br (!x28.2) (.lf (Sum.inr ([],{what:=[],op:=0,l:=[],D3:=0,at_:=0,size:=0},false))) (.an (Q31 E9.D0) (.lv (Q7a E9.D0) λ(x29:Int)=> .br (decide (E9.D0=[(108:UInt8),105])) (.lf (Sum.inr ([],{what:=E9.D0,op:=x29,l:=x28.1,D3:=0,at_:=0,size:=2},true))) (.br (decide (E9.D0=[(46:UInt8),115,112,97,99,101])) (let E13:=Nat.beq 3 3&&Nat.blt 0 3&&decide ((0:Int)≤(0:Int)∧0<(x28.1.length:Int)); .cn E13 (let E21:=x28.1.getD (Int.toNat 0) (RK.dflt RK.vmfleetref1Arg); .br (decide (E21.num<0)) (.lf (Sum.inr ([],{what:=[],op:=0,l:=[],D3:=0,at_:=0,size:=0},false))) (.cn E13 (.br (decide (E21.num>1024)) (.lf (Sum.inr ([],{what:=[],op:=0,l:=[],D3:=0,at_:=0,size:=0},false))) (.cn E13 (.lf (Sum.inr ([],{what:=E9.D0,op:=x29,l:=x28.1,D3:=0,at_:=0,size:=E21.num},true)))))))) (.lf (Sum.inr ([],{what:=E9.D0,op:=x29,l:=x28.1,D3:=0,at_:=0,size:=1},true))))))); .br (decide ((↑E20:Int)>(0:Int))) (.cn (Nat.beq 3 3&&Nat.blt 0 3&&decide ((0:Int)≤(0:Int)∧0<(↑E20:Int))) (.br (!(x0.1.getD (Int.toNat 1+Int.toNat 0) (RK.dflt RK.vmfleetref1Token)).gap) (.lf (Sum.inr ([],{what:=[],op:=0,l:=[],D3:=0,at_:=0,size:=0},false))) T6)) T6));let E25:=Int.toNat (x0.1.length:Int)-Int.toNat 2;let E8:=(↑E25:Int);let E10:=x0.1.getD (Int.toNat 2+Int.toNat 0) (RK.dflt RK.vmfleetref1Token);let E12:=x0.1.getD (Int.toNat 1) (RK.dflt RK.vmfleetref1Token);let E16:=Nat.beq 3 3&&Nat.blt 0 3&&decide ((0:Int)≤(0:Int)∧0<(x0.1.length:Int));let E17:=Nat.beq 3 3&&Nat.blt 0 3&&decide ((0:Int)≤(1:Int)∧1<(x0.1.length:Int));let E19:=Nat.beq 3 3&&Nat.blt 0 3&&decide ((0:Int)≤(2:Int)∧2≤(x0.1.length:Int)∧(x0.1.length:Int)≤(x0.1.length:Int));let E28:=Nat.beq 3 3&&Nat.blt 0 3&&decide ((0:Int)≤(0:Int)∧0<E8);let E30:=decide ((x0.1.length:Int)≥(2:Int));let T3:Tree ((List UInt8×Int)⊕(((List UInt8)×Q05×Bool))):= .br ((x0.1.length:Int)==(0:Int)) (.lf (Sum.inr ([],{what:=[],op:=0,l:=[],D3:=0,at_:=0,size:=0},true))) (.cn E16 (.cn (Nat.beq 3 3&&Nat.blt 0 3&&decide ((0:Int)≤(1:Int)∧1≤(x0.1.length:Int)∧(x0.1.length:Int)≤(x0.1.length:Int))) (.br (decide (E9.D0=[(46:UInt8)])) (.br E30 (.cn E17 (.br (!E12.gap) (.cn E17 (.cn (decide (1+List.length E12.D0≤maxLen)) (.cn E19 (.an (Q56 ((46:UInt8)::E12.D0)) (.lv (Qce ([(46:UInt8)]++E12.D0)) λ(x22:List UInt8×Bool)=> .br (!x22.2) (.lf (Sum.inr ([],{what:=[],op:=0,l:=[],D3:=0,at_:=0,size:=0},false))) (let T7:Tree ((List UInt8×Int)⊕(((List UInt8)×Q05×Bool))):=let E32:=List.take E25 (List.drop (Int.toNat 2) x0.1); .an (Q55 E32 x22.1) (.lv (Qbx E32 x22.1) λ(x23:List Q0l×Bool)=> .br (!x23.2) (.lf (Sum.inr ([],{what:=[],op:=0,l:=[],D3:=0,at_:=0,size:=0},false))) (.an (Q31 ((46:UInt8)::E12.D0)) (.lv (Q7a ([(46:UInt8)]++E12.D0)) λ(x24:Int)=> .br (decide ([(46:UInt8)]++E12.D0=[(46:UInt8),115,112,97,99,101])) (let E14:=Nat.beq 3 3&&Nat.blt 0 3&&decide ((0:Int)≤(0:Int)∧0<(x23.1.length:Int)); .cn E14 (let E22:=x23.1.getD (Int.toNat 0) (RK.dflt RK.vmfleetref1Arg); .br (decide (E22.num<0)) (.lf (Sum.inr ([],{what:=[],op:=0,l:=[],D3:=0,at_:=0,size:=0},false))) (.cn E14 (.br (decide (E22.num>1024)) (.lf (Sum.inr ([],{what:=[],op:=0,l:=[],D3:=0,at_:=0,size:=0},false))) (.cn E14 (.lf (Sum.inr ([],{what:=(46:UInt8)::E12.D0,op:=x24,l:=x23.1,D3:=0,at_:=0,size:=E22.num},true)))))))) (.lf (Sum.inr ([],{what:=(46:UInt8)::E12.D0,op:=x24,l:=x23.1,D3:=0,at_:=0,size:=1},true)))))); .br (decide (E8>(0:Int))) (.cn E28 (.br (!E10.gap) (.lf (Sum.inr ([],{what:=[],op:=0,l:=[],D3:=0,at_:=0,size:=0},false))) T7)) T7)))))) T1)) T1) T1))); .br E30 (.cn E17 (.br (decide (E12.D0=[(58:UInt8)])) (.cn E16 (.cn E16 (.br (E9.kind !=1) (.lf (Sum.inr ([],{what:=[],op:=0,l:=[],D3:=0,at_:=0,size:=0},false))) (.an (Qdo E9.D0) (.lv (Qub E9.D0) λ(x1:Bool)=> .br (!x1) (.lf (Sum.inr ([],{what:=[],op:=0,l:=[],D3:=0,at_:=0,size:=0},false))) (.cn E19 (.br (E8==(0:Int)) (.lf (Sum.inr (E9.D0,{what:=[],op:=0,l:=[],D3:=0,at_:=0,size:=0},true))) (.cn E28 (.cn (Nat.beq 3 3&&Nat.blt 0 3&&decide ((0:Int)≤(1:Int)∧1≤E8∧E8≤E8)) (let T2:Tree ((List UInt8×Int)⊕(((List UInt8)×Q05×Bool))):= .an (Q56 E10.D0) (.lv (Qce E10.D0) λ(x7:List UInt8×Bool)=> .br (!x7.2) (.lf (Sum.inr ([],{what:=[],op:=0,l:=[],D3:=0,at_:=0,size:=0},false))) (let T4:Tree ((List UInt8×Int)⊕(((List UInt8)×Q05×Bool))):=let E26:=List.take (Int.toNat E8-Int.toNat 1) (List.drop (Int.toNat 2+Int.toNat 1) x0.1); .an (Q55 E26 x7.1) (.lv (Qbx E26 x7.1) λ(x8:List Q0l×Bool)=> .br (!x8.2) (.lf (Sum.inr ([],{what:=[],op:=0,l:=[],D3:=0,at_:=0,size:=0},false))) (.an (Q31 E10.D0) (.lv (Q7a E10.D0) λ(x9:Int)=> .br (decide (E10.D0=[(108:UInt8),105])) (.lf (Sum.inr (E9.D0,{what:=E10.D0,op:=x9,l:=x8.1,D3:=0,at_:=0,size:=2},true))) (.br (decide (E10.D0=[(46:UInt8),115,112,97,99,101])) (let E15:=Nat.beq 3 3&&Nat.blt 0 3&&decide ((0:Int)≤(0:Int)∧0<(x8.1.length:Int)); .cn E15 (let E23:=x8.1.getD (Int.toNat 0) (RK.dflt RK.vmfleetref1Arg); .br (decide (E23.num<0)) (.lf (Sum.inr ([],{what:=[],op:=0,l:=[],D3:=0,at_:=0,size:=0},false))) (.cn E15 (.br (decide (E23.num>1024)) (.lf (Sum.inr ([],{what:=[],op:=0,l:=[],D3:=0,at_:=0,size:=0},false))) (.cn E15 (.lf (Sum.inr (E9.D0,{what:=E10.D0,op:=x9,l:=x8.1,D3:=0,at_:=0,size:=E23.num},true)))))))) (.lf (Sum.inr (E9.D0,{what:=E10.D0,op:=x9,l:=x8.1,D3:=0,at_:=0,size:=1},true))))))); .br (decide ((↑(Int.toNat E8-Int.toNat 1):Int)>(0:Int))) (.cn (Nat.beq 3 3&&Nat.blt 0 3&&decide ((0:Int)≤(0:Int)∧0<(↑(Int.toNat E8-Int.toNat 1):Int))) (.br (!(x0.1.getD (Int.toNat 2+Int.toNat 1+Int.toNat 0) (RK.dflt RK.vmfleetref1Token)).gap) (.lf (Sum.inr ([],{what:=[],op:=0,l:=[],D3:=0,at_:=0,size:=0},false))) T4)) T4)); .br (decide (E10.D0=[(46:UInt8)])) (.br (decide (E8≥(2:Int))) (let E29:=Nat.beq 3 3&&Nat.blt 0 3&&decide ((0:Int)≤(1:Int)∧1<E8); .cn E29 (let E11:=x0.1.getD (Int.toNat 2+Int.toNat 1) (RK.dflt RK.vmfleetref1Token); .br (!E11.gap) (.cn E29 (.cn (decide (1+List.length E11.D0≤maxLen)) (.cn (Nat.beq 3 3&&Nat.blt 0 3&&decide ((0:Int)≤(2:Int)∧2≤E8∧E8≤E8)) (.an (Q56 ((46:UInt8)::E11.D0)) (.lv (Qce ([(46:UInt8)]++E11.D0)) λ(x2:List UInt8×Bool)=> .br (!x2.2) (.lf (Sum.inr ([],{what:=[],op:=0,l:=[],D3:=0,at_:=0,size:=0},false))) (let T5:Tree ((List UInt8×Int)⊕(((List UInt8)×Q05×Bool))):=let E27:=List.take (Int.toNat E8-Int.toNat 2) (List.drop (Int.toNat 2+Int.toNat 2) x0.1); .an (Q55 E27 x2.1) (.lv (Qbx E27 x2.1) λ(x3:List Q0l×Bool)=> .br (!x3.2) (.lf (Sum.inr ([],{what:=[],op:=0,l:=[],D3:=0,at_:=0,size:=0},false))) (.an (Q31 ((46:UInt8)::E11.D0)) (.lv (Q7a ([(46:UInt8)]++E11.D0)) λ(x4:Int)=> .br (decide ([(46:UInt8)]++E11.D0=[(46:UInt8),115,112,97,99,101])) (let E18:=Nat.beq 3 3&&Nat.blt 0 3&&decide ((0:Int)≤(0:Int)∧0<(x3.1.length:Int)); .cn E18 (let E24:=x3.1.getD (Int.toNat 0) (RK.dflt RK.vmfleetref1Arg); .br (decide (E24.num<0)) (.lf (Sum.inr ([],{what:=[],op:=0,l:=[],D3:=0,at_:=0,size:=0},false))) (.cn E18 (.br (decide (E24.num>1024)) (.lf (Sum.inr ([],{what:=[],op:=0,l:=[],D3:=0,at_:=0,size:=0},false))) (.cn E18 (.lf (Sum.inr (E9.D0,{what:=(46:UInt8)::E11.D0,op:=x4,l:=x3.1,D3:=0,at_:=0,size:=E24.num},true)))))))) (.lf (Sum.inr (E9.D0,{what:=(46:UInt8)::E11.D0,op:=x4,l:=x3.1,D3:=0,at_:=0,size:=1},true)))))); .br (decide ((↑(Int.toNat E8-Int.toNat 2):Int)>(0:Int))) (.cn (Nat.beq 3 3&&Nat.blt 0 3&&decide ((0:Int)≤(0:Int)∧0<(↑(Int.toNat E8-Int.toNat 2):Int))) (.br (!(x0.1.getD (Int.toNat 2+Int.toNat 2+Int.toNat 0) (RK.dflt RK.vmfleetref1Token)).gap) (.lf (Sum.inr ([],{what:=[],op:=0,l:=[],D3:=0,at_:=0,size:=0},false))) T5)) T5)))))) T2)) T2) T2)))))))))) T3)) T3)))
def Qus(s:(List UInt8)):((List UInt8)×Q05×Bool):=(Qaa s).m
abbrev Qel(s:(List UInt8)):Prop:=(Qaa s).p
def Qwb:LInv:={
 α:=(List UInt8)×(Int)
 F:=λst a=>([(0, .str a.1),(2,(lk st 2)),(3, .ptr 0 0 0),(4,(lk st 4)),(5, .int i64 a.2)],[⟨true,166,6, .gen [[(cT st 3 0),(cT st 3 1),(cT st 3 2),(cT st 3 3),(cT st 3 4),(cT st 3 5)]]⟩])
 a0:=λst=>((lk st 0).toStr,(lk st 5).toInt)
 ex0:=λst=>[]++[(Q1m (lk st 3) (st.rows.length+0))]
 next:=λst=>((lk st 0).toStr,(lk st 5).toInt)
 ex:=λst=>[]++[(Q1m (lk st 3) (st.rows.length+0))]}
def Qqs:List (Nat×LInv):=[(2,Qwb)]
def Z13:Q0e:=mkP 163 [] false [.one (.str)] [] (λargs rows=>Qel (argS args 0)) (λargs rows=>Qus (argS args 0)) (λX=> .tup [.str (X.1), .agg (Q05.cells (X.2.1)), .bool (X.2.2)]) (λX=>[])
theorem Qvb:Q08 Tryz.prog Z13:=Q0x Q0r Q0s (.cons Qw (.cons Qq1 (.cons Qu (.cons Qup (.cons Qgm (.nil)))))) Tryz.func163 Tryz.call163 (λargs rows=>Qaa (argS args 0)) [.sl (.recs .vmfleetref1Arg) false] Qqs 3 (λ_ _ _=>by kernel_rfl) (λ_ _=>rfl) (λ_ _ h=>h) (λh=>by cases h)
def Qgi(l:(List Q1u))(label:(List UInt8))(z:(Int)):Prop:=0≤z∧z≤l.length
def Q9p(l:(List Q1u))(label:(List UInt8))(z:(Int)):Nat:=(l.length-z).toNat
def Qbo(l:(List Q1u))(label:(List UInt8)):Tree (Int×Bool):=
.lp inferInstance (Q9p l label 0+1) ((((Els.Nil (Els.recs RK.apiSymbol l)∨rE (2:Nat))∧rE (l:List (RK.T RK.apiSymbol)))∧rE (label:List UInt8)∧rE (0:Int)∧True)∧True) 0 λ(v0:Int)=> .br (decide (v0<(l.length:Int))) (let E1:=Nat.beq 2 2&&Nat.blt 0 2&&decide (0≤v0∧v0<(l.length:Int)); .cn E1 (let E2:=l.getD v0.toNat (RK.dflt RK.apiSymbol); .br (decide (E2.Name=label)) (.cn E1 (.lf (Sum.inr (E2.Addr,true)))) (.nx ((((Els.Nil (Els.recs RK.apiSymbol l)∨rE (2:Nat))∧rE (l:List (RK.T RK.apiSymbol)))∧rE (label:List UInt8)∧rE ((wrap i64 (v0+1)):Int)∧True)∧True) (Sum.inl (wrap i64 (v0+1)))))) (.lf (Sum.inr (0,false)))
def Qjs(l:(List Q1u))(label:(List UInt8)):(Int×Bool):=(Qbo l label).m
def Q34(l:(List Q1u))(label:(List UInt8)):Prop:=
l.length≤1000000000000
theorem Qr1(l:(List Q1u))(label:(List UInt8))(hw:Q34 l label):(Qbo l label).p:=by
 simp only[Q34]at hw
 unfold Tree.p Qbo
 repeat'(first|refine w_lp (inv:=Qgi l label) (μ:=Q9p l label) ?_ (Nat.lt_succ_self _) (λ_ _=> ?_)|exact trivial|refine w_br (λ_=> ?_) (λ_=> ?_)|refine w_cn ?_ ?_|refine w_an ?_ ?_|refine w_lv (λ_ _=> ?_)|refine w_nx ?_|refine w_lf ?_|refine And.intro ?_ ?_)
 all_goals((try simp only[Qgi,Q9p]at*);((subst_vars;first|trivial|assumption|omega|((simp(config:={decide:=true,failIfUnchanged:=false}) only[Bool.and_eq_true,Bool.or_eq_true,Bool.and_eq_false_iff,Bool.or_eq_false_iff,Bool.not_eq_true',Bool.not_eq_false',Bool.not_eq_true,Bool.not_eq_false,decide_eq_true_eq,decide_eq_false_iff_not,Qh8,Qfg,Qhs,Qfv,beq_iff_eq,beq_eq_false_iff_ne,bne_iff_ne,bne_eq_false_iff_eq,ne_eq,List.all_cons,List.all_nil,D.plain,List.length_cons,List.length_nil,List.length_append,List.length_set,List.length_replicate,IntKind.wrap_i64,IntKind.wrap_u64,IntKind.wrap_u32,IntKind.wrap_i32,IntKind.wrap_u8,true_and,and_true,or_false,false_or,or_true,true_or,not_true_eq_false,not_false_eq_true,Prod.fst,Prod.snd]at*);first|done|assumption|omega)|((simp(config:={decide:=true,failIfUnchanged:=false}) only[Bool.and_eq_true,Bool.or_eq_true,Bool.and_eq_false_iff,Bool.or_eq_false_iff,Bool.not_eq_true',Bool.not_eq_false',Bool.not_eq_true,Bool.not_eq_false,decide_eq_true_eq,decide_eq_false_iff_not,Qh8,Qfg,Qhs,Qfv,beq_iff_eq,beq_eq_false_iff_ne,bne_iff_ne,bne_eq_false_iff_eq,ne_eq,List.all_cons,List.all_nil,D.plain,List.length_cons,List.length_nil,List.length_append,List.length_set,List.length_replicate,IntKind.wrap_i64,IntKind.wrap_u64,IntKind.wrap_u32,IntKind.wrap_i32,IntKind.wrap_u8,true_and,and_true,or_false,false_or,or_true,true_or,not_true_eq_false,not_false_eq_true,Prod.fst,Prod.snd]at*);simp only[←List.length_pos_iff]at*;omega)|(simp_all;done)|(have:= @Qcy;simp_all;try omega))))
def Qsn:LInv:={
 α:=(Int)
 F:=λst a=>([(0,(lk st 0)),(1,(lk st 1)),(6, .int i64 a)],[])
 a0:=λst=>(lk st 6).toInt
 ex0:=λst=>[]++[]
 next:=λst=>(lk st 6).toInt
 ex:=λst=>[]++[]}
def Qof:List (Nat×LInv):=[(2,Qsn)]
def Qvj:Q0e:=mkP 117 [] true [.one (.recs .apiSymbol), .one (.str)] [] (λargs rows=>Q34 (argR .apiSymbol args 0) (argS args 1)) (λargs rows=>Qjs (argR .apiSymbol args 0) (argS args 1)) (λX=> .tup [.int .u32 (X.1), .bool (X.2)]) (λX=>[])
theorem Qiw:Q08 Tryz.prog Qvj:=Q0x Q0r Q0s (.nil) Tryz.func117 Tryz.call117 (λargs rows=>Qbo (argR .apiSymbol args 0) (argS args 1)) [] Qof 3 (λ_ _ _=>by kernel_rfl) (λ_ _=>rfl) (λargs rows h=>Qr1 (argR .apiSymbol args 0) (argS args 1) h) (λ_ X=>by kernel_rfl)
def Qug(src:(List UInt8))(z:(Int)×(Int)×(List Q1u)×(List Q05)):Nat:=((Qp7 src).length-z.2.1).toNat
def Qe3(src:(List UInt8)):Tree ((List Q1u)×(List Q05)×Q15):=
.br (decide ((src.length:Int)>(8192:Int))) (.lf ([],[],{Err:=300,Line:=0})) (.an (Qg2 src) (.lv (Qp7 src) λ(x0:List (List UInt8))=> .lp inferInstance (Qug src (0,0,[],[])+1) (((rE (0:Nat)∧rE (0:Nat))∧True∧True∧rE (0:Int)∧True∧rE (0:Int)∧True)∧(rE (0:Int)∧rE (0:Int)∧True)∧rE (x0:List (RK.T RK.str))∧rE ([]:List (RK.T RK.apiSymbol))∧rE ([]:List (RK.T RK.vmfleetref1Statement))∧True) (0,0,[],[]) λ(v0:Int×Int×List Q1u×List Q05)=> .br (decide (v0.2.1<(x0.length:Int))) (.cn (Nat.beq 1 1&&Nat.blt 0 1&&decide (0≤v0.2.1∧v0.2.1<(x0.length:Int))) (let E3:=x0.getD v0.2.1.toNat (RK.dflt RK.str); .an (Qel E3) (.lv (Qus E3) λ(x1:List UInt8×Q05×Bool)=> .br (!x1.2.2) (.lf (Sum.inr ([],[],{Err:=301,Line:=wrap i64 (v0.2.1+1)}))) (let E1:=({Err:=305,Line:=wrap i64 (v0.2.1+1)}:Q15);let E2:=decide (72*(v0.2.2.2.length+1)≤140737488355328);let E4:=decide (wrap i64 (v0.1+x1.2.1.size)>1024); .br (!decide (x1.1=[])) (.an (Q34 v0.2.2.1 x1.1) (.lv (Qjs v0.2.2.1 x1.1) λ(x2:Int×Bool)=> .br x2.2 (.lf (Sum.inr ([],[],{Err:=303,Line:=wrap i64 (v0.2.1+1)}))) (.cn (decide (24*(v0.2.2.1.length+1)≤140737488355328)) (let E5:=({Name:=x1.1,Addr:=wrap u32 (wrap i64 (4*v0.1))}:Q1u); .br (!decide (x1.2.1.what=[])) (.cn E2 (.br E4 (.lf (Sum.inr ([],[],E1))) (.nx (((rE (0:Nat)∧rE (0:Nat))∧True∧True∧rE ((wrap i64 (v0.1+x1.2.1.size)):Int)∧True∧rE ((wrap i64 (v0.2.1+1)):Int)∧True)∧(rE (0:Int)∧rE (0:Int)∧True)∧rE (x0:List (RK.T RK.str))∧rE ((v0.2.2.1++[{Name:=x1.1,Addr:=wrap u32 (wrap i64 (4*v0.1))}]):List (RK.T RK.apiSymbol))∧rE ((v0.2.2.2++[{what:=x1.2.1.what,op:=x1.2.1.op,l:=x1.2.1.l,D3:=wrap i64 (v0.2.1+1),at_:=v0.1,size:=x1.2.1.size}]):List (RK.T RK.vmfleetref1Statement))∧True) (Sum.inl (wrap i64 (v0.1+x1.2.1.size),wrap i64 (v0.2.1+1),v0.2.2.1++[E5],v0.2.2.2++[{what:=x1.2.1.what,op:=x1.2.1.op,l:=x1.2.1.l,D3:=wrap i64 (v0.2.1+1),at_:=v0.1,size:=x1.2.1.size}]))))) (.br (decide (v0.1>1024)) (.lf (Sum.inr ([],[],E1))) (.nx (((rE (0:Nat)∧rE (0:Nat))∧True∧True∧rE v0.1∧True∧rE ((wrap i64 (v0.2.1+1)):Int)∧True)∧(rE (0:Int)∧rE (0:Int)∧True)∧rE (x0:List (RK.T RK.str))∧rE ((v0.2.2.1++[{Name:=x1.1,Addr:=wrap u32 (wrap i64 (4*v0.1))}]):List (RK.T RK.apiSymbol))∧rE v0.2.2.2∧True) (Sum.inl (v0.1,wrap i64 (v0.2.1+1),v0.2.2.1++[E5],v0.2.2.2)))))))) (.br (!decide (x1.2.1.what=[])) (.cn E2 (.br E4 (.lf (Sum.inr ([],[],E1))) (.nx (((rE (0:Nat)∧rE (0:Nat))∧True∧True∧rE ((wrap i64 (v0.1+x1.2.1.size)):Int)∧True∧rE ((wrap i64 (v0.2.1+1)):Int)∧True)∧(rE (0:Int)∧rE (0:Int)∧True)∧rE (x0:List (RK.T RK.str))∧rE v0.2.2.1∧rE ((v0.2.2.2++[{what:=x1.2.1.what,op:=x1.2.1.op,l:=x1.2.1.l,D3:=wrap i64 (v0.2.1+1),at_:=v0.1,size:=x1.2.1.size}]):List (RK.T RK.vmfleetref1Statement))∧True) (Sum.inl (wrap i64 (v0.1+x1.2.1.size),wrap i64 (v0.2.1+1),v0.2.2.1,v0.2.2.2++[{what:=x1.2.1.what,op:=x1.2.1.op,l:=x1.2.1.l,D3:=wrap i64 (v0.2.1+1),at_:=v0.1,size:=x1.2.1.size}]))))) (.br (decide (v0.1>1024)) (.lf (Sum.inr ([],[],E1))) (.nx (((rE (0:Nat)∧rE (0:Nat))∧True∧True∧rE v0.1∧True∧rE ((wrap i64 (v0.2.1+1)):Int)∧True)∧(rE (0:Int)∧rE (0:Int)∧True)∧rE (x0:List (RK.T RK.str))∧rE v0.2.2.1∧rE v0.2.2.2∧True) (Sum.inl (v0.1,wrap i64 (v0.2.1+1),v0.2.2.1,v0.2.2.2))))))))) (.lf (Sum.inr (v0.2.2.1,v0.2.2.2,{Err:=0,Line:=0})))))
def Qsq(src:(List UInt8)):((List Q1u)×(List Q05)×Q15):=(Qe3 src).m
abbrev Qha(src:(List UInt8)):Prop:=(Qe3 src).p
def Z27:LInv:={
 α:=(Int)×(Int)×(List Q1u)×(List Q05)
 F:=λst a=>([(4, .ptr 0 0 0),(5, .all 2),(6, .all 3),(7, .int i64 a.1),(8, .all 1),(9, .int i64 a.2.1)],[⟨true,95,2, .gen [[(cT st 4 0),(cT st 4 1)]]⟩,⟨false,9,1,esOf st.rows (rN st 8)⟩,⟨false,216,2, .recs RK.apiSymbol a.2.2.1⟩,⟨false,166,6, .recs RK.vmfleetref1Statement a.2.2.2⟩])
 a0:=λst=>((lk st 7).toInt,(lk st 9).toInt,(Qam RK.apiSymbol st.rows (rN st 5)),(Qam RK.vmfleetref1Statement st.rows (rN st 6)))
 ex0:=λst=>[]++[(Q1m (lk st 4) (st.rows.length+0)),(Q1m (lk st 8) (st.rows.length+1)),(Q1m (lk st 5) (st.rows.length+2)),(Q1m (lk st 6) (st.rows.length+3))]
 next:=λst=>((lk st 7).toInt,(lk st 9).toInt,(Qam RK.apiSymbol st.rows (rN st 5)),(Qam RK.vmfleetref1Statement st.rows (rN st 6)))
 ex:=λst=>[]++[(Q1m (lk st 4) (st.rows.length+0)),(Q1m (lk st 8) (st.rows.length+1)),(Q1m (lk st 5) (st.rows.length+2)),(Q1m (lk st 6) (st.rows.length+3))]}
def Qw5:List (Nat×LInv):=[(8,Z27)]
def Z6l:Q0e:=mkP 116 [] false [.one (.str)] [] (λargs rows=>Qha (argS args 0)) (λargs rows=>Qsq (argS args 0)) (λX=> .tup [.all 0, .all 1, .agg (Q15.cells (X.2.2))]) (λX=>[⟨false,216,2, .recs .apiSymbol (X.1)⟩,⟨false,166,6, .recs .vmfleetref1Statement (X.2.1)⟩])
theorem Z2c:Q08 Tryz.prog Z6l:=Q0x Q0r Q0s (.cons Z1b (.cons Qvb (.cons Qiw (.nil)))) Tryz.func116 Tryz.call116 (λargs rows=>Qe3 (argS args 0)) [.row 216 2 (.recs .apiSymbol), .row 166 6 (.recs .vmfleetref1Statement)] Qw5 3 (λ_ _ _=>by kernel_rfl) (λ_ _=>rfl) (λ_ _ h=>h) (λh=>by cases h)
def Qf1(st:Q05)(v:Int):Tree (Int×Bool):=
.lv (Q23 st.op) λ(x0:Int)=> .lv (Qh x0) λ(x1:Int×Int)=>let E7:=st.l.getD (Int.toNat 0) (RK.dflt RK.vmfleetref1Arg);let E8:=st.l.getD (Int.toNat 1) (RK.dflt RK.vmfleetref1Arg);let E9:=Nat.beq 3 3&&Nat.blt 0 3&&decide ((0:Int)≤(0:Int)∧0<(st.l.length:Int));let E10:=Nat.beq 3 3&&Nat.blt 0 3&&decide ((0:Int)≤(1:Int)∧1<(st.l.length:Int));let E11:=st.l.getD (Int.toNat 2) (RK.dflt RK.vmfleetref1Arg);let E12:=Nat.beq 3 3&&Nat.blt 0 3&&decide ((0:Int)≤(2:Int)∧2<(st.l.length:Int)); .br (x0==2) (.cn E9 (.cn E10 (.cn E12 (let T2:Tree ((Int×Bool)):= .br (decide (0<x1.1)) (.lf (0,false)) (.br (decide (0>x1.2)) (.lf (0,false)) (.lv (Q1i {Op:=st.op,A:=E7.reg,B:=E8.reg,C:=E11.reg,Imm:=wrap i32 0}) λ(x2:Int×Bool)=> .lf (x2.1,x2.2))); .br (x0==2) T2 (.br (x0==1) T2 (.br (decide (v<x1.1)) (.lf (0,false)) (.br (decide (v>x1.2)) (.lf (0,false)) (.lv (Q1i {Op:=st.op,A:=E7.reg,B:=E8.reg,C:=E11.reg,Imm:=wrap i32 v}) λ(x4:Int×Bool)=> .lf (x4.1,x4.2))))))))) (let T1:Tree ((Int×Bool)):= .br (decide (x0≥6)) (.cn E9 (let T5:Tree ((Int×Bool)):= .br (decide (0<x1.1)) (.lf (0,false)) (.br (decide (0>x1.2)) (.lf (0,false)) (.lv (Q1i {Op:=st.op,A:=E7.reg,B:=0,C:=0,Imm:=wrap i32 0}) λ(x8:Int×Bool)=> .lf (x8.1,x8.2))); .br (x0==2) T5 (.br (x0==1) T5 (.br (decide (v<x1.1)) (.lf (0,false)) (.br (decide (v>x1.2)) (.lf (0,false)) (.lv (Q1i {Op:=st.op,A:=E7.reg,B:=0,C:=0,Imm:=wrap i32 v}) λ(x10:Int×Bool)=> .lf (x10.1,x10.2))))))) (.br (x0 !=1) (.cn E9 (.cn E10 (let T3:Tree ((Int×Bool)):= .br (decide (0<x1.1)) (.lf (0,false)) (.br (decide (0>x1.2)) (.lf (0,false)) (.lv (Q1i {Op:=st.op,A:=E7.reg,B:=E8.reg,C:=0,Imm:=wrap i32 0}) λ(x11:Int×Bool)=> .lf (x11.1,x11.2))); .br (x0==2) T3 (.br (x0==1) T3 (.br (decide (v<x1.1)) (.lf (0,false)) (.br (decide (v>x1.2)) (.lf (0,false)) (.lv (Q1i {Op:=st.op,A:=E7.reg,B:=E8.reg,C:=0,Imm:=wrap i32 v}) λ(x13:Int×Bool)=> .lf (x13.1,x13.2)))))))) (let T6:Tree ((Int×Bool)):= .br (decide (0<x1.1)) (.lf (0,false)) (.br (decide (0>x1.2)) (.lf (0,false)) (.lv (Q1i {Op:=st.op,A:=0,B:=0,C:=0,Imm:=wrap i32 0}) λ(x14:Int×Bool)=> .lf (x14.1,x14.2))); .br (x0==2) T6 (.br (x0==1) T6 (.br (decide (v<x1.1)) (.lf (0,false)) (.br (decide (v>x1.2)) (.lf (0,false)) (.lv (Q1i {Op:=st.op,A:=0,B:=0,C:=0,Imm:=wrap i32 v}) λ(x16:Int×Bool)=> .lf (x16.1,x16.2))))))); .br (decide (st.op≥32)) (.br (decide (st.op≤36)) (.cn E9 (.cn E12 (.cn E10 (let T4:Tree ((Int×Bool)):= .br (decide (0<x1.1)) (.lf (0,false)) (.br (decide (0>x1.2)) (.lf (0,false)) (.lv (Q1i {Op:=st.op,A:=E7.reg,B:=E11.reg,C:=0,Imm:=wrap i32 0}) λ(x5:Int×Bool)=> .lf (x5.1,x5.2))); .br (x0==2) T4 (.br (x0==1) T4 (.br (decide (E8.num<x1.1)) (.lf (0,false)) (.br (decide (E8.num>x1.2)) (.lf (0,false)) (.lv (Q1i {Op:=st.op,A:=E7.reg,B:=E11.reg,C:=0,Imm:=wrap i32 E8.num}) λ(x7:Int×Bool)=> .lf (x7.1,x7.2))))))))) T1) T1)
def Qix(st:Q05)(v:Int):(Int×Bool):=(Qf1 st v).m
abbrev Q8k(st:Q05)(v:Int):Prop:=(Qf1 st v).p
def Z5g:Q0e:=mkP 118 [] true [.agg Q05.sig, .one (.int .i64)] [] (λargs rows=>Q8k (Q05.of (args.getD 0 .dead).cells) (argI args 1)) (λargs rows=>Qix (Q05.of (args.getD 0 .dead).cells) (argI args 1)) (λX=> .tup [.int .u32 (X.1), .bool (X.2)]) (λX=>[])
theorem Z4m:Q08 Tryz.prog Z5g:=Q0x Q0r Q0s (.cons Qft (.cons Qkx (.cons Ql3 (.nil)))) Tryz.func118 Tryz.call118 (λargs rows=>Qf1 (Q05.of (args.getD 0 .dead).cells) (argI args 1)) [] [] 2 (λ_ _ _=>by kernel_rfl) (λ_ _=>rfl) (λ_ _ h=>h) (λ_ X=>by kernel_rfl)
end
end Go.Proofs.YtjaifpiopmhmlaaGreat

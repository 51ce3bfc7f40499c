/-
  Functions of the program: models, and that its calls come to them (by a program: gen3.py).
-/
import Derived.Test.YtmalmklaonainaaGreatPrecopyCopiesBase
import Derived.Test.YtmalmklaonainaaGreatPrecopyCopiesHand
import Derived.Test.YtmalmklaonainaaGreatPrecopyCopiesYe
set_option maxRecDepth 100000
set_option linter.unusedVariables false
set_option linter.unusedSimpArgs false
namespace Go.Proofs.YtmalmklaonainaaGreat
open Go Go.GD Go.IntKind
noncomputable section
instance sumInhZd {α β:Type} [Inhabited β]:Inhabited (α⊕β):=⟨.inr default⟩
def Qth(src:(List UInt8))(z:(Int)×(Int)×(List (List UInt8))):Nat:=(src.length-z.2.1).toNat
def Qb2(src:(List UInt8)):Tree (List (List UInt8)):=
.lp inferInstance (Qth src (0,0,[])+1) ((rE (src:List UInt8)∧True∧rE (0:Int)∧rE (0:Int)∧True)∧rE ([]:List (RK.T RK.str))∧True) (0,0,[]) λ(v0:Int×Int×List (List UInt8))=>let E1:=decide (16*(v0.2.2.length+1)≤140737488355328); .br (decide (v0.2.1<(src.length:Int))) (.cn (decide (0≤v0.2.1∧v0.2.1<(src.length:Int))) (.br ((↑(UInt8.toNat (src.getD v0.2.1.toNat (0:UInt8))):Int)==(10:Int)) (.cn (decide (0≤v0.1∧v0.1≤v0.2.1∧v0.2.1≤(src.length:Int))) (.cn E1 (.nx ((rE (src:List UInt8)∧True∧rE ((wrap i64 (v0.2.1+1)):Int)∧rE ((wrap i64 (v0.2.1+1)):Int)∧True)∧rE ((v0.2.2++[List.take (Int.toNat v0.2.1-Int.toNat v0.1) (List.drop v0.1.toNat src)]):List (RK.T RK.str))∧True) (Sum.inl (wrap i64 (v0.2.1+1),wrap i64 (v0.2.1+1),v0.2.2++[List.take (Int.toNat v0.2.1-Int.toNat v0.1) (List.drop v0.1.toNat src)]))))) (.nx ((rE (src:List UInt8)∧True∧rE v0.1∧rE ((wrap i64 (v0.2.1+1)):Int)∧True)∧rE v0.2.2∧True) (Sum.inl (v0.1,wrap i64 (v0.2.1+1),v0.2.2))))) (.br (decide (v0.1<(src.length:Int))) (.cn (decide (0≤v0.1∧v0.1≤(src.length:Int)∧(src.length:Int)≤(src.length:Int))) (.cn E1 (.lf (Sum.inr (v0.2.2++[List.take (Int.toNat (src.length:Int)-Int.toNat v0.1) (List.drop v0.1.toNat src)]))))) (.lf (Sum.inr v0.2.2)))
def Qqa(src:(List UInt8)):(List (List UInt8)):=(Qb2 src).m
abbrev Qf5(src:(List UInt8)):Prop:=(Qb2 src).p
def Z42:LInv:={
 α:=(Int)×(Int)×(List (List UInt8))
 F:=λst a=>([(0,(lk st 0)),(3, .all 0),(4, .int i64 a.1),(5, .int i64 a.2.1)],[⟨false,9,1, .recs RK.str a.2.2⟩])
 a0:=λst=>((lk st 4).toInt,(lk st 5).toInt,(Qem RK.str st.rows (rN st 3)))
 ex0:=λst=>[]++[(Q0o (lk st 3) (st.rows.length+0))]
 next:=λst=>((lk st 4).toInt,(lk st 5).toInt,(Qem RK.str st.rows (rN st 3)))
 ex:=λst=>[]++[(Q0o (lk st 3) (st.rows.length+0))]}
def Qwi:List (Nat×LInv):=[(4,Z42)]
def Z6q:Q09:=mkP 189 [] true [.one (.str)] [] (λargs rows=>Qf5 (argS args 0)) (λargs rows=>Qqa (argS args 0)) (λX=> .all 0) (λX=>[⟨false,9,1, .recs .str X⟩])
theorem Z2r:Q01 Tryz.prog Z6q:=Q0j drawn Q0g (.nil) Tryz.func189 Tryz.call189 (λargs rows=>Qb2 (argS args 0)) [.row 9 1 (.recs .str)] Qwi 3 (λ_ _ _=>by kernel_rfl) (λ_ _=>rfl) (λ_ _ h=>h) (λ_ X=>by kernel_rfl)
def Qp5(c:Int):Tree Bool:=
.br (decide (c≥97)) (.lf (decide (c≤122))) (.lf false)
def Qco(c:Int):Bool:=(Qp5 c).m
def Z3i:Q09:=mkR 282 [] true [.one (.int .u8)] [] (λargs rows=>Qco (argI args 0)) (λX=> .bool X) (λX=>[])
theorem Qld:Q01 Tryz.prog Z3i:=Q0p drawn Q0g (.nil) Tryz.func282 Tryz.call282 (λargs rows=>Qp5 (argI args 0)) [] [] 2 (λ_ _ _=>by kernel_rfl) (λ_ _=>rfl) (λ_ _=>Tree.free_ok (by kernel_rfl)) (λ_ X=>by kernel_rfl)
def Qrx(c:Int):Tree Bool:=
.br (decide (c≥48)) (.lf (decide (c≤57))) (.lf false)
def Q9g(c:Int):Bool:=(Qrx c).m
def Z6c:Q09:=mkR 283 [] true [.one (.int .u8)] [] (λargs rows=>Q9g (argI args 0)) (λX=> .bool X) (λX=>[])
theorem Qnq:Q01 Tryz.prog Z6c:=Q0p drawn Q0g (.nil) Tryz.func283 Tryz.call283 (λargs rows=>Qrx (argI args 0)) [] [] 2 (λ_ _ _=>by kernel_rfl) (λ_ _=>rfl) (λ_ _=>Tree.free_ok (by kernel_rfl)) (λ_ X=>by kernel_rfl)
def Qrb(s:(List UInt8))(z:(Bool)×(Int)×(List Q0c)):Nat:=(s.length-z.2.1).toNat
def Qqh(s:(List UInt8))(v0:Bool×Int×List Q0c)(z:(Int)):Nat:=(s.length-z).toNat
def Qr6(s:(List UInt8))(v0:Bool×Int×List Q0c)(z:(Int)):Nat:=(s.length-z).toNat
def Q9(s:(List UInt8)):Tree ((List Q0c)×Bool):=
.lp inferInstance (Qrb s (true,0,[])+1) ((rE (s:List UInt8)∧True∧rE (true:Bool)∧rE (0:Int)∧True)∧rE ([]:List (RK.T RK.vmfleetref1Token))∧True) (true,0,[]) λ(v0:Bool×Int×List Q0c)=> .br (decide (v0.2.1<(s.length:Int))) (.cn (decide (0≤v0.2.1∧v0.2.1<(s.length:Int))) (let E7:=(↑(UInt8.toNat (s.getD v0.2.1.toNat (0:UInt8))):Int); .br (E7==(32:Int)) (.nx ((rE (s:List UInt8)∧True∧rE (true:Bool)∧rE ((wrap i64 (v0.2.1+1)):Int)∧True)∧rE v0.2.2∧True) (Sum.inl (true,wrap i64 (v0.2.1+1),v0.2.2))) (.lv (Qco E7) λ(x0:Bool)=>let E10:=decide (32*(v0.2.2.length+1)≤140737488355328);let E13:=List.drop v0.2.1.toNat s; .br x0 (.lp inferInstance (Qqh s v0 v0.2.1+1) ((rE (s:List UInt8)∧True∧rE v0.1∧rE v0.2.1∧rE v0.2.1∧True)∧rE v0.2.2∧True) v0.2.1 λ(v1:Int)=>let T3:Tree ((Int)⊕((Bool×Int×List Q0c)⊕(((List Q0c)×Bool)))):= .cn (decide (0≤v0.2.1∧v0.2.1≤v1∧v1≤(s.length:Int))) (.cn E10 (.nx ((rE (s:List UInt8)∧True∧rE (false:Bool)∧rE (v1:Int)∧True)∧rE ((v0.2.2++[{kind:=1,C7:=List.take (Int.toNat v1-Int.toNat v0.2.1) (List.drop v0.2.1.toNat s),gap:=v0.1}]):List (RK.T RK.vmfleetref1Token))∧True) (Sum.inr (Sum.inl (false,v1,v0.2.2++[{kind:=1,C7:=List.take (Int.toNat v1-Int.toNat v0.2.1) E13,gap:=v0.1}]))))); .br (decide (v1<(s.length:Int))) (let E11:=decide (0≤v1∧v1<(s.length:Int)); .cn E11 (let E8:=(↑(UInt8.toNat (s.getD v1.toNat (0:UInt8))):Int); .lv (Qco E8) λ(x1:Bool)=>let T5:Tree ((Int)⊕((Bool×Int×List Q0c)⊕(((List Q0c)×Bool)))):= .nx ((rE (s:List UInt8)∧True∧rE v0.1∧rE ((wrap i64 (v1+1)):Int)∧rE v0.2.1∧True)∧rE v0.2.2∧True) (Sum.inl (wrap i64 (v1+1))); .br x1 T5 (.cn E11 (.lv (Q9g E8) λ(x2:Bool)=> .br x2 T5 (.cn E11 (.br (E8==(95:Int)) T5 T3)))))) T3) (.lv (Q9g E7) λ(x3:Bool)=>let T2:Tree ((Bool×Int×List Q0c)⊕(((List Q0c)×Bool))):= .lp inferInstance (Qr6 s v0 (wrap i64 (v0.2.1+1))+1) ((rE (s:List UInt8)∧True∧rE v0.1∧rE ((wrap i64 (v0.2.1+1)):Int)∧rE v0.2.1∧True)∧rE v0.2.2∧True) (wrap i64 (v0.2.1+1)) λ(v1:Int)=>let T4:Tree ((Int)⊕((Bool×Int×List Q0c)⊕(((List Q0c)×Bool)))):= .cn (decide (0≤v0.2.1∧v0.2.1≤v1∧v1≤(s.length:Int))) (.cn E10 (.nx ((rE (s:List UInt8)∧True∧rE (false:Bool)∧rE (v1:Int)∧True)∧rE ((v0.2.2++[{kind:=2,C7:=List.take (Int.toNat v1-Int.toNat v0.2.1) (List.drop v0.2.1.toNat s),gap:=v0.1}]):List (RK.T RK.vmfleetref1Token))∧True) (Sum.inr (Sum.inl (false,v1,v0.2.2++[{kind:=2,C7:=List.take (Int.toNat v1-Int.toNat v0.2.1) E13,gap:=v0.1}]))))); .br (decide (v1<(s.length:Int))) (let E12:=decide (0≤v1∧v1<(s.length:Int)); .cn E12 (let E9:=(↑(UInt8.toNat (s.getD v1.toNat (0:UInt8))):Int); .lv (Qco E9) λ(x4:Bool)=>let T6:Tree ((Int)⊕((Bool×Int×List Q0c)⊕(((List Q0c)×Bool)))):= .nx ((rE (s:List UInt8)∧True∧rE v0.1∧rE ((wrap i64 (v1+1)):Int)∧rE v0.2.1∧True)∧rE v0.2.2∧True) (Sum.inl (wrap i64 (v1+1))); .br x4 T6 (.cn E12 (.lv (Q9g E9) λ(x5:Bool)=> .br x5 T6 (.cn E12 (.br (E9==(95:Int)) T6 T4)))))) T4; .br x3 T2 (.br (E7==(45:Int)) T2 (let T1:Tree ((Bool×Int×List Q0c)⊕(((List Q0c)×Bool))):= .cn (decide (0≤v0.2.1∧v0.2.1≤wrap i64 (v0.2.1+1)∧wrap i64 (v0.2.1+1)≤(s.length:Int))) (.cn E10 (.nx ((rE (s:List UInt8)∧True∧rE (false:Bool)∧rE ((wrap i64 (v0.2.1+1)):Int)∧True)∧rE ((v0.2.2++[{kind:=3,C7:=List.take (Int.toNat (wrap i64 (v0.2.1+1))-Int.toNat v0.2.1) (List.drop v0.2.1.toNat s),gap:=v0.1}]):List (RK.T RK.vmfleetref1Token))∧True) (Sum.inl (false,wrap i64 (v0.2.1+1),v0.2.2++[{kind:=3,C7:=List.take (Int.toNat (wrap i64 (v0.2.1+1))-Int.toNat v0.2.1) E13,gap:=v0.1}])))); .br (E7==(44:Int)) T1 (.br (E7==(58:Int)) T1 (.br (E7==(40:Int)) T1 (.br (E7==(41:Int)) T1 (.br (E7==(46:Int)) T1 (.lf (Sum.inr ([],false))))))))))))) (.lf (Sum.inr (v0.2.2,true)))
def Qwz(s:(List UInt8)):((List Q0c)×Bool):=(Q9 s).m
abbrev Qcl(s:(List UInt8)):Prop:=(Q9 s).p
def Z00:LInv:={
 α:=(Bool)×(Int)×(List Q0c)
 F:=λst a=>([(0,(lk st 0)),(4, .all 0),(5, .bool a.1),(6, .int i64 a.2.1)],[⟨false,311,3, .recs RK.vmfleetref1Token a.2.2⟩])
 a0:=λst=>((lk st 5).toBool,(lk st 6).toInt,(Qem RK.vmfleetref1Token st.rows (rN st 4)))
 ex0:=λst=>[]++[(Q0o (lk st 4) (st.rows.length+0))]
 next:=λst=>((lk st 5).toBool,(lk st 6).toInt,(Qem RK.vmfleetref1Token st.rows (rN st 4)))
 ex:=λst=>[]++[(Q0o (lk st 4) (st.rows.length+0))]}
def Qyk:LInv:={
 α:=(Int)
 F:=λst a=>([(0,(lk st 0)),(4, .all 0),(5,(lk st 5)),(6, .int i64 a),(8,(lk st 8))],[⟨false,311,3,esOf st.rows (rN st 4)⟩])
 a0:=λst=>(lk st 6).toInt
 ex0:=λst=>[]++[(Q0o (lk st 4) (st.rows.length+0))]
 next:=λst=>(lk st 6).toInt
 ex:=λst=>[]++[(Q0o (lk st 4) (st.rows.length+0))]}
def Qyz:LInv:={
 α:=(Int)
 F:=λst a=>([(0,(lk st 0)),(4, .all 0),(5,(lk st 5)),(6, .int i64 a),(8,(lk st 8))],[⟨false,311,3,esOf st.rows (rN st 4)⟩])
 a0:=λst=>(lk st 6).toInt
 ex0:=λst=>[]++[(Q0o (lk st 4) (st.rows.length+0))]
 next:=λst=>(lk st 6).toInt
 ex:=λst=>[]++[(Q0o (lk st 4) (st.rows.length+0))]}
def Qt5:List (Nat×LInv):=[(4,Z00),(12,Qyk),(17,Qyz)]
def Z54:Q09:=mkP 246 [] true [.one (.str)] [] (λargs rows=>Qcl (argS args 0)) (λargs rows=>Qwz (argS args 0)) (λX=> .tup [.all 0, .bool (X.2)]) (λX=>[⟨false,311,3, .recs .vmfleetref1Token (X.1)⟩])
theorem Qza:Q01 Tryz.prog Z54:=Q0j drawn Q0g (.cons Qld (.cons Qnq (.nil))) Tryz.func246 Tryz.call246 (λargs rows=>Q9 (argS args 0)) [.row 311 3 (.recs .vmfleetref1Token)] Qt5 3 (λ_ _ _=>by kernel_rfl) (λ_ _=>rfl) (λ_ _ h=>h) (λ_ X=>by kernel_rfl)
 def digT (p:Int→Prop) (r:Int→List UInt8) (n:Int):Tree (List UInt8):=
 .br (decide (n<(10:Int))) (.lf ([(λ(n:Int)=>UInt8.ofNat n.toNat) (IntKind.wrap IntKind.u8 (IntKind.wrap IntKind.u64 ((48:Int)+n)))])) (.an (p (IntKind.wrap IntKind.u64 (Int.tdiv n (10:Int)))) (.lv (r (IntKind.wrap IntKind.u64 (Int.tdiv n (10:Int)))) λ(x0:List UInt8)=> .cn (decide (x0.length+List.length [(λ(n:Int)=>UInt8.ofNat n.toNat) (IntKind.wrap IntKind.u8 (IntKind.wrap IntKind.u64 ((48:Int)+Int.tmod n (10:Int))))]≤maxLen)) (.lf (x0++[(λ(n:Int)=>UInt8.ofNat n.toNat) (IntKind.wrap IntKind.u8 (IntKind.wrap IntKind.u64 ((48:Int)+Int.tmod n (10:Int))))]))))
 def digF:Nat→Int→List UInt8
   |0,_=>[]
   |k+1,n=>(digT (λ_=>True) (digF k) n).m
 def digP (k:Nat) (n:Int):Prop:=0≤n∧n<10^k∧n<18446744073709551616∧0<k∧k≤30
 def digM (k:Nat):Q09:=mkP 123 [] true [.one (.int .u64)] [] (λargs rows=>digP k (argI args 0)) (λargs rows=>digF k (argI args 0)) (λX=> .str X) (λX=>[])
 theorem digF_len: ∀k n,(digF k n).length≤k
   |0,_=>Nat.le_refl _
   | k+1,n=>by
     show(bif decide (n<10) then _ else letv (digF k _) λx0=>x0++_).length≤k+1
     have:=digF_len k (IntKind.wrap IntKind.u64 (Int.tdiv n 10))
     cases decide (n<10)
     · simp [letv,Tree.m];omega
     · simp [Tree.m]
 theorem digM_ok: ∀k,Q01 Tryz.prog (digM k)
   |0=>Z1b Tryz.call123 (λargs rows h=>absurd h.2.2.2.1 (Nat.lt_irrefl 0)) (λ_ X=>by kernel_rfl)
   | k + 1=>by
     refine Q0j drawn Q0g (.cons (digM_ok k) .nil) Tryz.func123 Tryz.call123 (λargs rows=>digT (digP k) (digF k) (argI args 0)) [] [] 2 (λ_ _ _=>by kernel_rfl) (λ_ _=>rfl) (λargs rows h=> ?_) (λ_ X=>by kernel_rfl)
     obtain⟨h0,h1,h2,h3,h4⟩:=h
     generalize argI args 0=n at*
     refine w_br (λ_=>trivial) (λhn=> ?_)
     have hn:=of_decide_eq_false hn
     have e:IntKind.wrap IntKind.u64 (Int.tdiv n 10)=n/10:=by rw[IntKind.wrap_u64,Int.tdiv_eq_ediv_of_nonneg h0];omega
     refine w_an (show digP k _ from ?_) (w_lv λx hx=>w_cn (decide_eq_true ?_) trivial)
     · rw[e]
       rw[Int.pow_succ]at h1
       have hk:0<k:=by
         rcases Nat.eq_zero_or_pos k with rfl|h
         · simp at h1;omega
         · exact h
       exact⟨by omega,by omega,by omega,hk,by omega⟩
     · have:=digF_len k (IntKind.wrap IntKind.u64 (Int.tdiv n 10))
       rw[←hx]at this
       simp [maxLen];omega
def Q9r(n:Int):(List UInt8):=
digF 20 n
def Q1x(n:Int):Prop:=
0≤n∧n<18446744073709551616
def Qhz(n:Int):List D:=[.int .u64 n]
def Qhx(n:Int):List Row:=[]
def Qcw(X:(List UInt8)):D:= .str X
def Qcm(X:(List UInt8)):List Row:=[]
def Qio:List PT:=[.one (.int .u64)]
def Qhb:List RT:=[]
def Qxi(args:List D)(rows:List Row):(List UInt8):=Q9r (argI args 0)
def Qxb(args:List D)(rows:List Row):Prop:=Q1x (argI args 0)
def Z4u:Q09:=mkP 123 [] true Qio Qhb Qxb Qxi Qcw Qcm
theorem Qpv(n:Int)(hw:Q1x n):Q2x Tryz.prog 123 (Qhz n) (Qhx n) (Qcw (Q9r n)) (Qcm (Q9r n)):=by
 have h20:(18446744073709551616:Int)≤10^20:=by decide
 exact mkP_calls (args:=[.int .u64 n]) (rows:=[]) (digM_ok 20) (by kernel_rfl) ⟨hw.1,Int.lt_of_lt_of_le hw.2 h20,hw.2,by decide,by decide⟩
set_option maxRecDepth 100000 in
theorem Qts(args:List D)(rows:List Row):Q9v Qio args 0=Qhz (argI args 0):=by kernel_rfl
set_option maxRecDepth 100000 in
theorem Qqv(args:List D)(rows:List Row):Q31 Qhb rows 0=Qhx (argI args 0):=by kernel_rfl
set_option maxRecDepth 100000 in
theorem Qz(X:(List UInt8)):(ffB (Qcw X)&&ffBR (Qcm X))=true:=by kernel_rfl
theorem Qzp:Q01 Tryz.prog Z4u:=Z1b Tryz.call123 (λargs rows hp=>by rw[Qts args rows,Qqv args rows];exact Qpv (argI args 0) hp) (λ_ X=>Qz X)
def Q3u(n:Int):Tree (List UInt8):=
.br (decide (n<0)) (let E1:=wrap u64 (wrap u64 (wrap i64 (0-wrap i64 (n+1)))+1); .an (Q1x E1) (.lv (Q9r E1) λ(x0:List UInt8)=> .cn (decide (1+x0.length≤maxLen)) (.lf ((45:UInt8)::x0)))) (.an (Q1x (wrap u64 n)) (.lv (Q9r (wrap u64 n)) λ(x1:List UInt8)=> .lf x1))
def Qjo(n:Int):(List UInt8):=(Q3u n).m
abbrev Qbb(n:Int):Prop:=(Q3u n).p
def Qzd:Q09:=mkP 35 [] true [.one (.int .i64)] [] (λargs rows=>Qbb (argI args 0)) (λargs rows=>Qjo (argI args 0)) (λX=> .str X) (λX=>[])
theorem Qvz:Q01 Tryz.prog Qzd:=Q0j drawn Q0g (.cons Qzp (.nil)) Tryz.func35 Tryz.call35 (λargs rows=>Q3u (argI args 0)) [] [] 2 (λ_ _ _=>by kernel_rfl) (λ_ _=>rfl) (λ_ _ h=>h) (λ_ X=>by kernel_rfl)
def Q9k(r:Int):Tree (List UInt8):=
.an (Qbb r) (.lv (Qjo r) λ(x0:List UInt8)=> .cn (decide (1+x0.length≤maxLen)) (.lf ((114:UInt8)::x0)))
def Zdc(r:Int):(List UInt8):=(Q9k r).m
abbrev Qjx(r:Int):Prop:=(Q9k r).p
def Zfc:Q09:=mkP 310 [] true [.one (.int .i64)] [] (λargs rows=>Qjx (argI args 0)) (λargs rows=>Zdc (argI args 0)) (λX=> .str X) (λX=>[])
theorem Zaw:Q01 Tryz.prog Zfc:=Q0j drawn Q0g (.cons Qvz (.nil)) Tryz.func310 Tryz.call310 (λargs rows=>Q9k (argI args 0)) [] [] 2 (λ_ _ _=>by kernel_rfl) (λ_ _=>rfl) (λ_ _ h=>h) (λ_ X=>by kernel_rfl)
def Ql2(s:(List UInt8))(z:(Int)):Prop:=0≤z∧z≤16
def Qb(s:(List UInt8))(z:(Int)):Nat:=(16-z).toNat
def Q5v(s:(List UInt8)):Tree (Int×Bool):=
.lp inferInstance (Qb s 0+1) ((rE (s:List UInt8)∧rE (0:Int)∧True)∧True) 0 λ(v0:Int)=> .br (decide (v0<16)) (.an (Qjx v0) (.lv (Zdc v0) λ(x0:List UInt8)=> .br (decide (s=x0)) (.lf (Sum.inr (v0,true))) (.nx ((rE (s:List UInt8)∧rE ((wrap i64 (v0+1)):Int)∧True)∧True) (Sum.inl (wrap i64 (v0+1)))))) (.lf (Sum.inr (0,false)))
def Qdb(s:(List UInt8)):(Int×Bool):=(Q5v s).m
theorem Qm2(s:(List UInt8)):(Q5v s).p:=by
 unfold Tree.p Q5v
 have dp: ∀x,Q1x (IntKind.wrap .u64 x):=λx=>by unfold Q1x;rw[IntKind.wrap_u64];omega
 have dl: ∀x,(Q9r x).length≤20:=λx=>digF_len 20 x
 have hd: ∀x,(Q3u x).w (λr=>r.length≤21):=λx=>by
   unfold Q3u
   refine w_br (λ_=>w_an (dp _) (w_lv λx0 h0=>w_cn (decide_eq_true ?_) ?_)) (λ_=>w_an (dp _) (w_lv λx1 h1=> ?_))
   · have:=dl (IntKind.wrap .u64 (IntKind.wrap .u64 (IntKind.wrap .i64 (0-IntKind.wrap .i64 (x+1)))+1));rw[←h0]at this;simp [maxLen];omega
   · have:=dl (IntKind.wrap .u64 (IntKind.wrap .u64 (IntKind.wrap .i64 (0-IntKind.wrap .i64 (x+1)))+1));rw[←h0]at this;show(_::x0).length≤21;simp;omega
   · rw[h1];exact Nat.le_trans (dl _) (by decide)
 have hr: ∀x,(Q9k x).p:=λx=>by
   unfold Tree.p Q9k
   refine w_an (Tree.pp (hd x)).1 (w_lv λx0 h0=>w_cn (decide_eq_true ?_) trivial)
   have:(Qjo x).length≤21:=(Tree.pp (hd x)).2
   rw[←h0]at this;simp [maxLen];omega
 refine w_lp (inv:=Ql2 s) (μ:=Qb s) ⟨by decide,by decide⟩ (Nat.lt_succ_self _) (λz hz=> ?_)
 obtain⟨z1,z2⟩:=hz
 refine w_br (λhb=>w_an (hr _) (w_lv λx0 _=>w_br (λ_=>trivial) (λ_=>w_nx ?_))) (λ_=>trivial)
 have hb:=of_decide_eq_true hb
 show(0≤IntKind.i64.wrap (z+1)∧IntKind.i64.wrap (z+1)≤16)∧(16-IntKind.i64.wrap (z+1)).toNat<(16-z).toNat
 rw[IntKind.wrap_i64];omega
def Qn9:LInv:={
 α:=(Int)
 F:=λst a=>([(0,(lk st 0)),(4, .int i64 a)],[])
 a0:=λst=>(lk st 4).toInt
 ex0:=λst=>[]++[]
 next:=λst=>(lk st 4).toInt
 ex:=λst=>[]++[]}
def Ql0:List (Nat×LInv):=[(2,Qn9)]
def Qpl:Q09:=mkR 284 [] true [.one (.str)] [] (λargs rows=>Qdb (argS args 0)) (λX=> .tup [.int .i64 (X.1), .bool (X.2)]) (λX=>[])
theorem Qed:Q01 Tryz.prog Qpl:=Q0p drawn Q0g (.cons Zaw (.nil)) Tryz.func284 Tryz.call284 (λargs rows=>Q5v (argS args 0)) [] Ql0 3 (λ_ _ _=>by kernel_rfl) (λ_ _=>rfl) (λargs rows=>Qm2 (argS args 0)) (λ_ X=>by kernel_rfl)
def Qd(s:(List UInt8)):Tree Bool:=
.lv (Qdb s) λ(x0:Int×Bool)=> .br (decide ((s.length:Int)≥(1:Int))) (.br (decide ((s.length:Int)≤(12:Int))) (.cn (decide ((0:Int)≤(0:Int)∧0<(s.length:Int))) (.lv (Qco (↑(UInt8.toNat (s.getD (Int.toNat 0) (0:UInt8))):Int)) λ(x1:Bool)=> .br x1 (.lf (!x0.2)) (.lf false))) (.lf false)) (.lf false)
def Qwl(s:(List UInt8)):Bool:=(Qd s).m
abbrev Qc5(s:(List UInt8)):Prop:=(Qd s).p
def Zb2:Q09:=mkP 247 [] true [.one (.str)] [] (λargs rows=>Qc5 (argS args 0)) (λargs rows=>Qwl (argS args 0)) (λX=> .bool X) (λX=>[])
theorem Qss:Q01 Tryz.prog Zb2:=Q0j drawn Q0g (.cons Qed (.cons Qld (.nil))) Tryz.func247 Tryz.call247 (λargs rows=>Qd (argS args 0)) [] [] 2 (λ_ _ _=>by kernel_rfl) (λ_ _=>rfl) (λ_ _ h=>h) (λ_ X=>by kernel_rfl)
def Q5e(op:Int):Tree (List UInt8):=
let T1:Tree ((List UInt8)):=let T3:Tree ((List UInt8)):= .br (op==48) (.lf ([(106:UInt8),97,108])) (.br (op==49) (.lf ([(106:UInt8),97,108,114])) (.br (decide (op≥56)) (.br (decide (op≤64)) (.cn (Nat.beq 1 1&&Nat.blt 0 1&&decide (0≤wrap i64 (op-56)∧wrap i64 (op-56)<(↑9:Int))) (.lf (List.getD [[(101:UInt8),99,97,108,108],[(101:UInt8),114,101,116],[(99:UInt8),115,114,114],[(99:UInt8),115,114,119],[(105:UInt8),110],[(111:UInt8),117,116],[(119:UInt8),102,105],[(102:UInt8),108,117,115,104],[(104:UInt8),97,108,116]] (Int.toNat (wrap i64 (op-56))) (RK.dflt RK.str)))) (.lf ([]))) (.lf ([])))); .br (decide (op≥40)) (.br (decide (op≤45)) (.cn (Nat.beq 1 1&&Nat.blt 0 1&&decide (0≤wrap i64 (op-40)∧wrap i64 (op-40)<(↑6:Int))) (.lf (List.getD [[(98:UInt8),101,113],[(98:UInt8),110,101],[(98:UInt8),108,116],[(98:UInt8),103,101],[(98:UInt8),108,116,117],[(98:UInt8),103,101,117]] (Int.toNat (wrap i64 (op-40))) (RK.dflt RK.str)))) T3) T3;let T2:Tree ((List UInt8)):=let T4:Tree ((List UInt8)):= .br (decide (op≥32)) (.br (decide (op≤36)) (.cn (Nat.beq 1 1&&Nat.blt 0 1&&decide (0≤wrap i64 (op-32)∧wrap i64 (op-32)<(↑5:Int))) (.lf (List.getD [[(108:UInt8),119],[(108:UInt8),98],[(108:UInt8),98,117],[(115:UInt8),119],[(115:UInt8),98]] (Int.toNat (wrap i64 (op-32))) (RK.dflt RK.str)))) T1) T1; .br (decide (op≥16)) (.br (decide (op≤24)) (.cn (Nat.beq 1 1&&Nat.blt 0 1&&decide (0≤wrap i64 (op-16)∧wrap i64 (op-16)<(↑9:Int))) (.lf (List.getD [[(97:UInt8),100,100,105],[(97:UInt8),110,100,105],[(111:UInt8),114,105],[(120:UInt8),111,114,105],[(115:UInt8),104,108,105],[(115:UInt8),104,114,105],[(115:UInt8),97,114,105],[(115:UInt8),108,116,105],[(108:UInt8),117,105]] (Int.toNat (wrap i64 (op-16))) (RK.dflt RK.str)))) T4) T4; .br (decide (op≥1)) (.br (decide (op≤13)) (.cn (Nat.beq 1 1&&Nat.blt 0 1&&decide (0≤wrap i64 (op-1)∧wrap i64 (op-1)<(↑13:Int))) (.lf (List.getD [[(97:UInt8),100,100],[(115:UInt8),117,98],[(97:UInt8),110,100],[(111:UInt8),114],[(120:UInt8),111,114],[(115:UInt8),104,108],[(115:UInt8),104,114],[(115:UInt8),97,114],[(109:UInt8),117,108],[(100:UInt8),105,118],[(114:UInt8),101,109],[(115:UInt8),108,116],[(115:UInt8),108,116,117]] (Int.toNat (wrap i64 (op-1))) (RK.dflt RK.str)))) T2) T2
def Qpc(op:Int):(List UInt8):=(Q5e op).m
abbrev Q9u(op:Int):Prop:=(Q5e op).p
def Qw3:Q09:=mkP 286 [] true [.one (.int .i64)] [] (λargs rows=>Q9u (argI args 0)) (λargs rows=>Qpc (argI args 0)) (λX=> .str X) (λX=>[])
theorem Qtx:Q01 Tryz.prog Qw3:=Q0j drawn Q0g (.nil) Tryz.func286 Tryz.call286 (λargs rows=>Q5e (argI args 0)) [] [] 2 (λ_ _ _=>by kernel_rfl) (λ_ _=>rfl) (λ_ _ h=>h) (λ_ X=>by kernel_rfl)
def Qkx(s:(List UInt8))(z:(Int)):Nat:=(65-z).toNat
def Q4v(s:(List UInt8)):Tree Int:=
.lp inferInstance (Qkx s 1+1) ((rE (s:List UInt8)∧rE (1:Int)∧True)∧True) 1 λ(v0:Int)=> .br (decide (v0≤64)) (.lv (Qg9 v0) λ(x0:Int)=> .br (decide (x0>0)) (.an (Q9u v0) (.lv (Qpc v0) λ(x1:List UInt8)=> .br (decide (x1=s)) (.lf (Sum.inr v0)) (.nx ((rE (s:List UInt8)∧rE ((wrap i64 (v0+1)):Int)∧True)∧True) (Sum.inl (wrap i64 (v0+1)))))) (.nx ((rE (s:List UInt8)∧rE ((wrap i64 (v0+1)):Int)∧True)∧True) (Sum.inl (wrap i64 (v0+1))))) (.lf (Sum.inr 0))
def Q4z(s:(List UInt8)):Int:=(Q4v s).m
abbrev Q1u(s:(List UInt8)):Prop:=(Q4v s).p
def Qpz:LInv:={
 α:=(Int)
 F:=λst a=>([(0,(lk st 0)),(3, .int i64 a)],[])
 a0:=λst=>(lk st 3).toInt
 ex0:=λst=>[]++[]
 next:=λst=>(lk st 3).toInt
 ex:=λst=>[]++[]}
def Qm1:List (Nat×LInv):=[(2,Qpz)]
def Qu1:Q09:=mkP 250 [] true [.one (.str)] [] (λargs rows=>Q1u (argS args 0)) (λargs rows=>Q4z (argS args 0)) (λX=> .int .i64 X) (λX=>[])
theorem Qg2:Q01 Tryz.prog Qu1:=Q0j drawn Q0g (.cons Qau (.cons Qtx (.nil))) Tryz.func250 Tryz.call250 (λargs rows=>Q4v (argS args 0)) [] Qm1 3 (λ_ _ _=>by kernel_rfl) (λ_ _=>rfl) (λ_ _ h=>h) (λ_ X=>by kernel_rfl)
def Q6x(what:(List UInt8)):Tree ((List UInt8)×Bool):=
.an (Q1u what) (.lv (Q4z what) λ(x0:Int)=> .br (decide (what=[(46:UInt8),119,111,114,100])) (.lf ([(120:UInt8)],true)) (.br (decide (what=[(46:UInt8),115,112,97,99,101])) (.lf ([(110:UInt8)],true)) (.br (decide (what=[(108:UInt8),105])) (.lf ([(114:UInt8),44,120],true)) (.br (decide (what=[(109:UInt8),118])) (.lf ([(114:UInt8),44,114],true)) (.br (decide (what=[(110:UInt8),111,112])) (.lf ([],true)) (.br (x0==0) (.lf ([],false)) (let T1:Tree (((List UInt8)×Bool)):= .br (x0==48) (.lf ([(114:UInt8),44,120],true)) (.lv (Qg9 x0) λ(x1:Int)=> .br (x1==1) (.lf ([],true)) (.br (x1==2) (.lf ([(114:UInt8),44,114,44,114],true)) (.br (decide (x1≥6)) (.lf ([(114:UInt8),44,110],true)) (.lf ([(114:UInt8),44,114,44,110],true)))));let T2:Tree (((List UInt8)×Bool)):= .br (decide (x0≥40)) (.br (decide (x0≤45)) (.lf ([(114:UInt8),44,114,44,120],true)) T1) T1; .br (decide (x0≥32)) (.br (decide (x0≤36)) (.lf ([(114:UInt8),44,110,40,114,41],true)) T2) T2)))))))
def Qap(what:(List UInt8)):((List UInt8)×Bool):=(Q6x what).m
abbrev Q3a(what:(List UInt8)):Prop:=(Q6x what).p
def Qzc:Q09:=mkP 248 [] true [.one (.str)] [] (λargs rows=>Q3a (argS args 0)) (λargs rows=>Qap (argS args 0)) (λX=> .tup [.str (X.1), .bool (X.2)]) (λX=>[])
theorem Qx8:Q01 Tryz.prog Qzc:=Q0j drawn Q0g (.cons Qg2 (.cons Qau (.nil))) Tryz.func248 Tryz.call248 (λargs rows=>Q6x (argS args 0)) [] [] 2 (λ_ _ _=>by kernel_rfl) (λ_ _=>rfl) (λ_ _ h=>h) (λ_ X=>by kernel_rfl)
def Qr8(s:(List UInt8))(z:(Int)×(Int)):Nat:=(s.length-z.2).toNat
def Qfv(s:(List UInt8))(z:(Int)×(Int)):Nat:=(s.length-z.2).toNat
def Q89(s:(List UInt8)):Tree (Int×Bool):=
let E7:=decide ((0:Int)≤(0:Int)∧0<(s.length:Int));let E8:=(↑(UInt8.toNat (s.getD (Int.toNat 0) (0:UInt8))):Int);let T1:Tree ((Int×Bool)):=let T2:Tree ((Int×Bool)):= .br (decide (wrap i64 ((s.length:Int)-(0:Int))<1)) (.lf (0,false)) (.br (decide (wrap i64 ((s.length:Int)-(0:Int))>10)) (.lf (0,false)) (.lp inferInstance (Qfv s (0,0)+1) ((rE (s:List UInt8)∧rE (0:Int)∧rE (0:Int)∧rE (0:Int)∧True)∧True) (0,0) λ(v0:Int×Int)=> .br (decide (v0.2<(s.length:Int))) (let E9:=decide (0≤v0.2∧v0.2<(s.length:Int)); .cn E9 (let E5:=(↑(UInt8.toNat (s.getD v0.2.toNat (0:UInt8))):Int); .lv (Q9g E5) λ(x2:Bool)=> .br (!x2) (.lf (Sum.inr (0,false))) (.cn E9 (.nx ((rE (s:List UInt8)∧rE (0:Int)∧rE ((wrap i64 (wrap i64 (10*v0.1)+wrap i64 (wrap u8 ((↑(UInt8.toNat (s.getD v0.2.toNat (0:UInt8))):Int)-(48:Int))))):Int)∧rE ((wrap i64 (v0.2+1)):Int)∧True)∧True) (Sum.inl (wrap i64 (wrap i64 (10*v0.1)+wrap i64 (wrap u8 (E5-(48:Int)))),wrap i64 (v0.2+1))))))) (.br (decide (v0.1≥(-2147483648))) (.lf (Sum.inr (v0.1,decide (v0.1≤4294967295)))) (.lf (Sum.inr (v0.1,false)))))); .br (decide ((s.length:Int)>(0:Int))) (.cn E7 (.br (E8==(45:Int)) (.br (decide (wrap i64 ((s.length:Int)-(1:Int))<1)) (.lf (0,false)) (.br (decide (wrap i64 ((s.length:Int)-(1:Int))>10)) (.lf (0,false)) (.lp inferInstance (Qfv s (0,1)+1) ((rE (s:List UInt8)∧rE (1:Int)∧rE (0:Int)∧rE (1:Int)∧True)∧True) (0,1) λ(v0:Int×Int)=> .br (decide (v0.2<(s.length:Int))) (let E10:=decide (0≤v0.2∧v0.2<(s.length:Int)); .cn E10 (let E6:=(↑(UInt8.toNat (s.getD v0.2.toNat (0:UInt8))):Int); .lv (Q9g E6) λ(x1:Bool)=> .br (!x1) (.lf (Sum.inr (0,false))) (.cn E10 (.nx ((rE (s:List UInt8)∧rE (1:Int)∧rE ((wrap i64 (wrap i64 (10*v0.1)+wrap i64 (wrap u8 ((↑(UInt8.toNat (s.getD v0.2.toNat (0:UInt8))):Int)-(48:Int))))):Int)∧rE ((wrap i64 (v0.2+1)):Int)∧True)∧True) (Sum.inl (wrap i64 (wrap i64 (10*v0.1)+wrap i64 (wrap u8 (E6-(48:Int)))),wrap i64 (v0.2+1))))))) (.br (decide (wrap i64 (0-v0.1)≥(-2147483648))) (.lf (Sum.inr (wrap i64 (0-v0.1),decide (wrap i64 (0-v0.1)≤4294967295)))) (.lf (Sum.inr (wrap i64 (0-v0.1),false))))))) T2)) T2; .br (decide ((s.length:Int)>(2:Int))) (.cn E7 (.br (E8==(48:Int)) (.cn (decide ((0:Int)≤(1:Int)∧1<(s.length:Int))) (.br ((↑(UInt8.toNat (s.getD (Int.toNat 1) (0:UInt8))):Int)==(120:Int)) (.br (decide ((s.length:Int)>(10:Int))) (.lf (0,false)) (.lp inferInstance (Qr8 s (0,2)+1) ((rE (s:List UInt8)∧rE (0:Int)∧rE (2:Int)∧True)∧True) (0,2) λ(v0:Int×Int)=> .br (decide (v0.2<(s.length:Int))) (let E4:=decide (0≤v0.2∧v0.2<(s.length:Int)); .cn E4 (let E3:=(↑(UInt8.toNat (s.getD v0.2.toNat (0:UInt8))):Int); .lv (Q9g E3) λ(x0:Bool)=> .br x0 (.cn E4 (.nx ((rE (s:List UInt8)∧rE ((wrap i64 (wrap i64 (16*v0.1)+wrap i64 (wrap u8 ((↑(UInt8.toNat (s.getD v0.2.toNat (0:UInt8))):Int)-(48:Int))))):Int)∧rE ((wrap i64 (v0.2+1)):Int)∧True)∧True) (Sum.inl (wrap i64 (wrap i64 (16*v0.1)+wrap i64 (wrap u8 (E3-(48:Int)))),wrap i64 (v0.2+1))))) (.cn E4 (.br (decide (E3≥(97:Int))) (.cn E4 (.br (decide (E3≤(102:Int))) (.cn E4 (.nx ((rE (s:List UInt8)∧rE ((wrap i64 (wrap i64 (wrap i64 (16*v0.1)+wrap i64 (wrap u8 ((↑(UInt8.toNat (s.getD v0.2.toNat (0:UInt8))):Int)-(97:Int))))+10)):Int)∧rE ((wrap i64 (v0.2+1)):Int)∧True)∧True) (Sum.inl (wrap i64 (wrap i64 (wrap i64 (16*v0.1)+wrap i64 (wrap u8 (E3-(97:Int))))+10),wrap i64 (v0.2+1))))) (.lf (Sum.inr (0,false))))) (.lf (Sum.inr (0,false))))))) (.lf (Sum.inr (v0.1,true))))) T1)) T1)) T1
def Qva(s:(List UInt8)):(Int×Bool):=(Q89 s).m
abbrev Qcg(s:(List UInt8)):Prop:=(Q89 s).p
def Qzz:LInv:={
 α:=(Int)×(Int)
 F:=λst a=>([(0,(lk st 0)),(4, .int i64 a.1),(5, .int i64 a.2)],[])
 a0:=λst=>((lk st 4).toInt,(lk st 5).toInt)
 ex0:=λst=>[]++[]
 next:=λst=>((lk st 4).toInt,(lk st 5).toInt)
 ex:=λst=>[]++[]}
def Qyo:LInv:={
 α:=(Int)×(Int)
 F:=λst a=>([(0,(lk st 0)),(6,(lk st 6)),(7, .int i64 a.1),(8, .int i64 a.2)],[])
 a0:=λst=>((lk st 7).toInt,(lk st 8).toInt)
 ex0:=λst=>[]++[]
 next:=λst=>((lk st 7).toInt,(lk st 8).toInt)
 ex:=λst=>[]++[]}
def Qtg:List (Nat×LInv):=[(6,Qzz),(21,Qyo)]
def Z4w:Q09:=mkP 285 [] true [.one (.str)] [] (λargs rows=>Qcg (argS args 0)) (λargs rows=>Qva (argS args 0)) (λX=> .tup [.int .i64 (X.1), .bool (X.2)]) (λX=>[])
theorem Qz5:Q01 Tryz.prog Z4w:=Q0j drawn Q0g (.cons Qnq (.nil)) Tryz.func285 Tryz.call285 (λargs rows=>Q89 (argS args 0)) [] Qtg 3 (λ_ _ _=>by kernel_rfl) (λ_ _=>rfl) (λ_ _ h=>h) (λ_ X=>by kernel_rfl)
def Qo1(l:(List Q0c))(p:(List UInt8))(z:(Int)×(List Q0l)):Nat:=(l.length-z.1).toNat
def Q72(l:(List Q0c))(p:(List UInt8)):Tree ((List Q0l)×Bool):=
.br ((l.length:Int) !=(p.length:Int)) (.lf ([],false)) (.lp inferInstance (Qo1 l p (0,[])+1) ((((Els.Nil (Els.recs RK.vmfleetref1Token l)∨rE (3:Nat))∧rE (l:List (RK.T RK.vmfleetref1Token)))∧rE (p:List UInt8)∧True∧rE (0:Int)∧True)∧rE ([]:List (RK.T RK.vmfleetref1Arg))∧True) (0,[]) λ(v0:Int×List Q0l)=> .br (decide (v0.1<(l.length:Int))) (.cn (Nat.beq 3 3&&Nat.blt 0 3&&decide (0≤v0.1∧v0.1<(l.length:Int))) (let E6:=decide (0≤v0.1∧v0.1<(p.length:Int)); .cn E6 (let E3:=l.getD v0.1.toNat (RK.dflt RK.vmfleetref1Token);let E4:=(↑(UInt8.toNat (p.getD v0.1.toNat (0:UInt8))):Int);let E5:=decide (32*(v0.2.length+1)≤140737488355328); .br (E4==(114:Int)) (.lv (Qdb E3.C7) λ(x0:Int×Bool)=> .br (E3.kind !=1) (.lf (Sum.inr ([],false))) (.br (!x0.2) (.lf (Sum.inr ([],false))) (.cn E5 (.nx ((((Els.Nil (Els.recs RK.vmfleetref1Token l)∨rE (3:Nat))∧rE (l:List (RK.T RK.vmfleetref1Token)))∧rE (p:List UInt8)∧True∧rE ((wrap i64 (v0.1+1)):Int)∧True)∧rE ((v0.2++[{reg:=x0.1,num:=0,label:=[]}]):List (RK.T RK.vmfleetref1Arg))∧True) (Sum.inl (wrap i64 (v0.1+1),v0.2++[{reg:=x0.1,num:=0,label:=[]}])))))) (let T1:Tree ((Int×List Q0l)⊕(((List Q0l)×Bool))):= .an (Qcg E3.C7) (.lv (Qva E3.C7) λ(x2:Int×Bool)=> .br (E3.kind !=2) (.lf (Sum.inr ([],false))) (.br (!x2.2) (.lf (Sum.inr ([],false))) (.cn E5 (.nx ((((Els.Nil (Els.recs RK.vmfleetref1Token l)∨rE (3:Nat))∧rE (l:List (RK.T RK.vmfleetref1Token)))∧rE (p:List UInt8)∧True∧rE ((wrap i64 (v0.1+1)):Int)∧True)∧rE ((v0.2++[{reg:=0,num:=x2.1,label:=[]}]):List (RK.T RK.vmfleetref1Arg))∧True) (Sum.inl (wrap i64 (v0.1+1),v0.2++[{reg:=0,num:=x2.1,label:=[]}]))))));let T2:Tree ((Int×List Q0l)⊕(((List Q0l)×Bool))):= .cn E6 (.br (E4==(120:Int)) (.br (E3.kind==1) (.an (Qc5 E3.C7) (.lv (Qwl E3.C7) λ(x1:Bool)=> .br x1 (.cn E5 (.nx ((((Els.Nil (Els.recs RK.vmfleetref1Token l)∨rE (3:Nat))∧rE (l:List (RK.T RK.vmfleetref1Token)))∧rE (p:List UInt8)∧True∧rE ((wrap i64 (v0.1+1)):Int)∧True)∧rE ((v0.2++[{reg:=0,num:=0,label:=(l.getD v0.1.toNat (RK.dflt RK.vmfleetref1Token)).C7}]):List (RK.T RK.vmfleetref1Arg))∧True) (Sum.inl (wrap i64 (v0.1+1),v0.2++[{reg:=0,num:=0,label:=E3.C7}])))) T1)) T1) T1); .br (E4==(110:Int)) T2 (.br (E4==(120:Int)) T2 (.br (E3.kind !=3) (.lf (Sum.inr ([],false))) (.cn (decide (0≤v0.1∧v0.1≤wrap i64 (v0.1+1)∧wrap i64 (v0.1+1)≤(p.length:Int))) (.br (!decide (E3.C7=List.take (Int.toNat (wrap i64 (v0.1+1))-Int.toNat v0.1) (List.drop v0.1.toNat p))) (.lf (Sum.inr ([],false))) (.nx ((((Els.Nil (Els.recs RK.vmfleetref1Token l)∨rE (3:Nat))∧rE (l:List (RK.T RK.vmfleetref1Token)))∧rE (p:List UInt8)∧True∧rE ((wrap i64 (v0.1+1)):Int)∧True)∧rE v0.2∧True) (Sum.inl (wrap i64 (v0.1+1),v0.2))))))))))) (.lf (Sum.inr (v0.2,true))))
def Qax(l:(List Q0c))(p:(List UInt8)):((List Q0l)×Bool):=(Q72 l p).m
abbrev Q3c(l:(List Q0c))(p:(List UInt8)):Prop:=(Q72 l p).p
def Qw:LInv:={
 α:=(Int)×(List Q0l)
 F:=λst a=>([(0,(lk st 0)),(1,(lk st 1)),(6, .all 0),(7, .int i64 a.1)],[⟨false,183,3, .recs RK.vmfleetref1Arg a.2⟩])
 a0:=λst=>((lk st 7).toInt,(Qem RK.vmfleetref1Arg st.rows (rN st 6)))
 ex0:=λst=>[]++[(Q0o (lk st 6) (st.rows.length+0))]
 next:=λst=>((lk st 7).toInt,(Qem RK.vmfleetref1Arg st.rows (rN st 6)))
 ex:=λst=>[]++[(Q0o (lk st 6) (st.rows.length+0))]}
def Qr4:List (Nat×LInv):=[(5,Qw)]
def Qze:Q09:=mkP 249 [] true [.one (.recs .vmfleetref1Token), .one (.str)] [] (λargs rows=>Q3c (argR .vmfleetref1Token args 0) (argS args 1)) (λargs rows=>Qax (argR .vmfleetref1Token args 0) (argS args 1)) (λX=> .tup [.all 0, .bool (X.2)]) (λX=>[⟨false,183,3, .recs .vmfleetref1Arg (X.1)⟩])
theorem Qww:Q01 Tryz.prog Qze:=Q0j drawn Q0g (.cons Qed (.cons Qss (.cons Qz5 (.nil)))) Tryz.func249 Tryz.call249 (λargs rows=>Q72 (argR .vmfleetref1Token args 0) (argS args 1)) [.row 183 3 (.recs .vmfleetref1Arg)] Qr4 3 (λ_ _ _=>by kernel_rfl) (λ_ _=>rfl) (λ_ _ h=>h) (λ_ X=>by kernel_rfl)
def Qpm(s:(List UInt8))(z:(List UInt8)×(Int)):Nat:=(s.length-z.2).toNat
def Q93(s:(List UInt8)):Tree ((List UInt8)×Q06×Bool):=
.lp inferInstance (Qpm s (s,0)+1) ((rE (s:List UInt8)∧rE ([]:List UInt8)∧(rE (0:Nat)∧rE (0:Nat))∧rE (false:Bool)∧rE (0:Int)∧True)∧(rE ([]:List UInt8)∧rE (0:Int)∧True∧rE (0:Int)∧rE (0:Int)∧rE (0:Int)∧True)∧True) (s,0) λ(v0:List UInt8×Int)=> .br (decide (v0.2<(v0.1.length:Int))) (.cn (decide (0≤v0.2∧v0.2<(v0.1.length:Int))) (.br ((↑(UInt8.toNat (v0.1.getD v0.2.toNat (0:UInt8))):Int)==(59:Int)) (.cn (decide ((0:Int)≤(0:Int)∧0≤v0.2∧v0.2≤(v0.1.length:Int))) (.nx ((rE ((List.take (Int.toNat v0.2-Int.toNat 0) (List.drop (Int.toNat 0) v0.1)):List UInt8)∧rE ([]:List UInt8)∧(rE (0:Nat)∧rE (0:Nat))∧rE (false:Bool)∧rE ((wrap i64 (v0.2+1)):Int)∧True)∧(rE ([]:List UInt8)∧rE (0:Int)∧True∧rE (0:Int)∧rE (0:Int)∧rE (0:Int)∧True)∧True) (Sum.inl (List.take (Int.toNat v0.2-Int.toNat 0) (List.drop (Int.toNat 0) v0.1),wrap i64 (v0.2+1))))) (.nx ((rE v0.1∧rE ([]:List UInt8)∧(rE (0:Nat)∧rE (0:Nat))∧rE (false:Bool)∧rE ((wrap i64 (v0.2+1)):Int)∧True)∧(rE ([]:List UInt8)∧rE (0:Int)∧True∧rE (0:Int)∧rE (0:Int)∧rE (0:Int)∧True)∧True) (Sum.inl (v0.1,wrap i64 (v0.2+1)))))) (.an (Qcl v0.1) (.lv (Qwz v0.1) λ(x0:List Q0c×Bool)=> .br (!x0.2) (.lf (Sum.inr ([],{what:=[],op:=0,l:=[],D1:=0,at_:=0,size:=0},false))) (let E9:=x0.1.getD (Int.toNat 0) (RK.dflt RK.vmfleetref1Token);let T1:Tree ((List UInt8×Int)⊕(((List UInt8)×Q06×Bool))):= .an (Q3a E9.C7) (.lv (Qap E9.C7) λ(x27:List UInt8×Bool)=> .br (!x27.2) (.lf (Sum.inr ([],{what:=[],op:=0,l:=[],D1:=0,at_:=0,size:=0},false))) (let E20:=Int.toNat (x0.1.length:Int)-Int.toNat 1;let T6:Tree ((List UInt8×Int)⊕(((List UInt8)×Q06×Bool))):=let E31:=List.take E20 (List.drop (Int.toNat 1) x0.1); .an (Q3c E31 x27.1) (.lv (Qax E31 x27.1) λ(x28:List Q0l×Bool)=> .br (!x28.2) (.lf (Sum.inr ([],{what:=[],op:=0,l:=[],D1:=0,at_:=0,size:=0},false))) (.an (Q1u E9.C7) (.lv (Q4z E9.C7) λ(x29:Int)=> .br (decide (E9.C7=[(108:UInt8),105])) (.lf (Sum.inr ([],{what:=E9.C7,op:=x29,l:=x28.1,D1:=0,at_:=0,size:=2},true))) (.br (decide (E9.C7=[(46:UInt8),115,112,97,99,101])) (let E13:=Nat.beq 3 3&&Nat.blt 0 3&&decide ((0:Int)≤(0:Int)∧0<(x28.1.length:Int)); .cn E13 (let E21:=x28.1.getD (Int.toNat 0) (RK.dflt RK.vmfleetref1Arg); .br (decide (E21.num<0)) (.lf (Sum.inr ([],{what:=[],op:=0,l:=[],D1:=0,at_:=0,size:=0},false))) (.cn E13 (.br (decide (E21.num>1024)) (.lf (Sum.inr ([],{what:=[],op:=0,l:=[],D1:=0,at_:=0,size:=0},false))) (.cn E13 (.lf (Sum.inr ([],{what:=E9.C7,op:=x29,l:=x28.1,D1:=0,at_:=0,size:=E21.num},true)))))))) (.lf (Sum.inr ([],{what:=E9.C7,op:=x29,l:=x28.1,D1:=0,at_:=0,size:=1},true))))))); .br (decide ((↑E20:Int)>(0:Int))) (.cn (Nat.beq 3 3&&Nat.blt 0 3&&decide ((0:Int)≤(0:Int)∧0<(↑E20:Int))) (.br (!(x0.1.getD (Int.toNat 1+Int.toNat 0) (RK.dflt RK.vmfleetref1Token)).gap) (.lf (Sum.inr ([],{what:=[],op:=0,l:=[],D1:=0,at_:=0,size:=0},false))) T6)) T6));let E25:=Int.toNat (x0.1.length:Int)-Int.toNat 2;let E8:=(↑E25:Int);let E10:=x0.1.getD (Int.toNat 2+Int.toNat 0) (RK.dflt RK.vmfleetref1Token);let E12:=x0.1.getD (Int.toNat 1) (RK.dflt RK.vmfleetref1Token);let E16:=Nat.beq 3 3&&Nat.blt 0 3&&decide ((0:Int)≤(0:Int)∧0<(x0.1.length:Int));let E17:=Nat.beq 3 3&&Nat.blt 0 3&&decide ((0:Int)≤(1:Int)∧1<(x0.1.length:Int));let E19:=Nat.beq 3 3&&Nat.blt 0 3&&decide ((0:Int)≤(2:Int)∧2≤(x0.1.length:Int)∧(x0.1.length:Int)≤(x0.1.length:Int));let E28:=Nat.beq 3 3&&Nat.blt 0 3&&decide ((0:Int)≤(0:Int)∧0<E8);let E30:=decide ((x0.1.length:Int)≥(2:Int));let T3:Tree ((List UInt8×Int)⊕(((List UInt8)×Q06×Bool))):= .br ((x0.1.length:Int)==(0:Int)) (.lf (Sum.inr ([],{what:=[],op:=0,l:=[],D1:=0,at_:=0,size:=0},true))) (.cn E16 (.cn (Nat.beq 3 3&&Nat.blt 0 3&&decide ((0:Int)≤(1:Int)∧1≤(x0.1.length:Int)∧(x0.1.length:Int)≤(x0.1.length:Int))) (.br (decide (E9.C7=[(46:UInt8)])) (.br E30 (.cn E17 (.br (!E12.gap) (.cn E17 (.cn (decide (1+List.length E12.C7≤maxLen)) (.cn E19 (.an (Q3a ((46:UInt8)::E12.C7)) (.lv (Qap ([(46:UInt8)]++E12.C7)) λ(x22:List UInt8×Bool)=> .br (!x22.2) (.lf (Sum.inr ([],{what:=[],op:=0,l:=[],D1:=0,at_:=0,size:=0},false))) (let T7:Tree ((List UInt8×Int)⊕(((List UInt8)×Q06×Bool))):=let E32:=List.take E25 (List.drop (Int.toNat 2) x0.1); .an (Q3c E32 x22.1) (.lv (Qax E32 x22.1) λ(x23:List Q0l×Bool)=> .br (!x23.2) (.lf (Sum.inr ([],{what:=[],op:=0,l:=[],D1:=0,at_:=0,size:=0},false))) (.an (Q1u ((46:UInt8)::E12.C7)) (.lv (Q4z ([(46:UInt8)]++E12.C7)) λ(x24:Int)=> .br (decide ([(46:UInt8)]++E12.C7=[(46:UInt8),115,112,97,99,101])) (let E14:=Nat.beq 3 3&&Nat.blt 0 3&&decide ((0:Int)≤(0:Int)∧0<(x23.1.length:Int)); .cn E14 (let E22:=x23.1.getD (Int.toNat 0) (RK.dflt RK.vmfleetref1Arg); .br (decide (E22.num<0)) (.lf (Sum.inr ([],{what:=[],op:=0,l:=[],D1:=0,at_:=0,size:=0},false))) (.cn E14 (.br (decide (E22.num>1024)) (.lf (Sum.inr ([],{what:=[],op:=0,l:=[],D1:=0,at_:=0,size:=0},false))) (.cn E14 (.lf (Sum.inr ([],{what:=(46:UInt8)::E12.C7,op:=x24,l:=x23.1,D1:=0,at_:=0,size:=E22.num},true)))))))) (.lf (Sum.inr ([],{what:=(46:UInt8)::E12.C7,op:=x24,l:=x23.1,D1:=0,at_:=0,size:=1},true)))))); .br (decide (E8>(0:Int))) (.cn E28 (.br (!E10.gap) (.lf (Sum.inr ([],{what:=[],op:=0,l:=[],D1:=0,at_:=0,size:=0},false))) T7)) T7)))))) T1)) T1) T1))); .br E30 (.cn E17 (.br (decide (E12.C7=[(58:UInt8)])) (.cn E16 (.cn E16 (.br (E9.kind !=1) (.lf (Sum.inr ([],{what:=[],op:=0,l:=[],D1:=0,at_:=0,size:=0},false))) (.an (Qc5 E9.C7) (.lv (Qwl E9.C7) λ(x1:Bool)=> .br (!x1) (.lf (Sum.inr ([],{what:=[],op:=0,l:=[],D1:=0,at_:=0,size:=0},false))) (.cn E19 (.br (E8==(0:Int)) (.lf (Sum.inr (E9.C7,{what:=[],op:=0,l:=[],D1:=0,at_:=0,size:=0},true))) (.cn E28 (.cn (Nat.beq 3 3&&Nat.blt 0 3&&decide ((0:Int)≤(1:Int)∧1≤E8∧E8≤E8)) (let T2:Tree ((List UInt8×Int)⊕(((List UInt8)×Q06×Bool))):= .an (Q3a E10.C7) (.lv (Qap E10.C7) λ(x7:List UInt8×Bool)=> .br (!x7.2) (.lf (Sum.inr ([],{what:=[],op:=0,l:=[],D1:=0,at_:=0,size:=0},false))) (let T4:Tree ((List UInt8×Int)⊕(((List UInt8)×Q06×Bool))):=let E26:=List.take (Int.toNat E8-Int.toNat 1) (List.drop (Int.toNat 2+Int.toNat 1) x0.1); .an (Q3c E26 x7.1) (.lv (Qax E26 x7.1) λ(x8:List Q0l×Bool)=> .br (!x8.2) (.lf (Sum.inr ([],{what:=[],op:=0,l:=[],D1:=0,at_:=0,size:=0},false))) (.an (Q1u E10.C7) (.lv (Q4z E10.C7) λ(x9:Int)=> .br (decide (E10.C7=[(108:UInt8),105])) (.lf (Sum.inr (E9.C7,{what:=E10.C7,op:=x9,l:=x8.1,D1:=0,at_:=0,size:=2},true))) (.br (decide (E10.C7=[(46:UInt8),115,112,97,99,101])) (let E15:=Nat.beq 3 3&&Nat.blt 0 3&&decide ((0:Int)≤(0:Int)∧0<(x8.1.length:Int)); .cn E15 (let E23:=x8.1.getD (Int.toNat 0) (RK.dflt RK.vmfleetref1Arg); .br (decide (E23.num<0)) (.lf (Sum.inr ([],{what:=[],op:=0,l:=[],D1:=0,at_:=0,size:=0},false))) (.cn E15 (.br (decide (E23.num>1024)) (.lf (Sum.inr ([],{what:=[],op:=0,l:=[],D1:=0,at_:=0,size:=0},false))) (.cn E15 (.lf (Sum.inr (E9.C7,{what:=E10.C7,op:=x9,l:=x8.1,D1:=0,at_:=0,size:=E23.num},true)))))))) (.lf (Sum.inr (E9.C7,{what:=E10.C7,op:=x9,l:=x8.1,D1:=0,at_:=0,size:=1},true))))))); .br (decide ((↑(Int.toNat E8-Int.toNat 1):Int)>(0:Int))) (.cn (Nat.beq 3 3&&Nat.blt 0 3&&decide ((0:Int)≤(0:Int)∧0<(↑(Int.toNat E8-Int.toNat 1):Int))) (.br (!(x0.1.getD (Int.toNat 2+Int.toNat 1+Int.toNat 0) (RK.dflt RK.vmfleetref1Token)).gap) (.lf (Sum.inr ([],{what:=[],op:=0,l:=[],D1:=0,at_:=0,size:=0},false))) T4)) T4)); .br (decide (E10.C7=[(46:UInt8)])) (.br (decide (E8≥(2:Int))) (let E29:=Nat.beq 3 3&&Nat.blt 0 3&&decide ((0:Int)≤(1:Int)∧1<E8); .cn E29 (let E11:=x0.1.getD (Int.toNat 2+Int.toNat 1) (RK.dflt RK.vmfleetref1Token); .br (!E11.gap) (.cn E29 (.cn (decide (1+List.length E11.C7≤maxLen)) (.cn (Nat.beq 3 3&&Nat.blt 0 3&&decide ((0:Int)≤(2:Int)∧2≤E8∧E8≤E8)) (.an (Q3a ((46:UInt8)::E11.C7)) (.lv (Qap ([(46:UInt8)]++E11.C7)) λ(x2:List UInt8×Bool)=> .br (!x2.2) (.lf (Sum.inr ([],{what:=[],op:=0,l:=[],D1:=0,at_:=0,size:=0},false))) (let T5:Tree ((List UInt8×Int)⊕(((List UInt8)×Q06×Bool))):=let E27:=List.take (Int.toNat E8-Int.toNat 2) (List.drop (Int.toNat 2+Int.toNat 2) x0.1); .an (Q3c E27 x2.1) (.lv (Qax E27 x2.1) λ(x3:List Q0l×Bool)=> .br (!x3.2) (.lf (Sum.inr ([],{what:=[],op:=0,l:=[],D1:=0,at_:=0,size:=0},false))) (.an (Q1u ((46:UInt8)::E11.C7)) (.lv (Q4z ([(46:UInt8)]++E11.C7)) λ(x4:Int)=> .br (decide ([(46:UInt8)]++E11.C7=[(46:UInt8),115,112,97,99,101])) (let E18:=Nat.beq 3 3&&Nat.blt 0 3&&decide ((0:Int)≤(0:Int)∧0<(x3.1.length:Int)); .cn E18 (let E24:=x3.1.getD (Int.toNat 0) (RK.dflt RK.vmfleetref1Arg); .br (decide (E24.num<0)) (.lf (Sum.inr ([],{what:=[],op:=0,l:=[],D1:=0,at_:=0,size:=0},false))) (.cn E18 (.br (decide (E24.num>1024)) (.lf (Sum.inr ([],{what:=[],op:=0,l:=[],D1:=0,at_:=0,size:=0},false))) (.cn E18 (.lf (Sum.inr (E9.C7,{what:=(46:UInt8)::E11.C7,op:=x4,l:=x3.1,D1:=0,at_:=0,size:=E24.num},true)))))))) (.lf (Sum.inr (E9.C7,{what:=(46:UInt8)::E11.C7,op:=x4,l:=x3.1,D1:=0,at_:=0,size:=1},true)))))); .br (decide ((↑(Int.toNat E8-Int.toNat 2):Int)>(0:Int))) (.cn (Nat.beq 3 3&&Nat.blt 0 3&&decide ((0:Int)≤(0:Int)∧0<(↑(Int.toNat E8-Int.toNat 2):Int))) (.br (!(x0.1.getD (Int.toNat 2+Int.toNat 2+Int.toNat 0) (RK.dflt RK.vmfleetref1Token)).gap) (.lf (Sum.inr ([],{what:=[],op:=0,l:=[],D1:=0,at_:=0,size:=0},false))) T5)) T5)))))) T2)) T2) T2)))))))))) T3)) T3)))
def Qv8(s:(List UInt8)):((List UInt8)×Q06×Bool):=(Q93 s).m
abbrev Qci(s:(List UInt8)):Prop:=(Q93 s).p
def Qzr:LInv:={
 α:=(List UInt8)×(Int)
 F:=λst a=>([(0, .str a.1),(2,(lk st 2)),(3, .ptr 0 0 0),(4,(lk st 4)),(5, .int i64 a.2)],[⟨true,181,6, .gen [[(cT st 3 0),(cT st 3 1),(cT st 3 2),(cT st 3 3),(cT st 3 4),(cT st 3 5)]]⟩])
 a0:=λst=>((lk st 0).toStr,(lk st 5).toInt)
 ex0:=λst=>[]++[(Q0o (lk st 3) (st.rows.length+0))]
 next:=λst=>((lk st 0).toStr,(lk st 5).toInt)
 ex:=λst=>[]++[(Q0o (lk st 3) (st.rows.length+0))]}
def Qu2:List (Nat×LInv):=[(2,Qzr)]
def Z5:Q09:=mkP 190 [] false [.one (.str)] [] (λargs rows=>Qci (argS args 0)) (λargs rows=>Qv8 (argS args 0)) (λX=> .tup [.str (X.1), .agg (Q06.cells (X.2.1)), .bool (X.2.2)]) (λX=>[])
theorem Qzm:Q01 Tryz.prog Z5:=Q0j drawn Q0g (.cons Qza (.cons Qss (.cons Qx8 (.cons Qww (.cons Qg2 (.nil)))))) Tryz.func190 Tryz.call190 (λargs rows=>Q93 (argS args 0)) [.sl (.recs .vmfleetref1Arg) false] Qu2 3 (λ_ _ _=>by kernel_rfl) (λ_ _=>rfl) (λ_ _ h=>h) (λh=>by cases h)
def Qg4(l:(List Q1b))(label:(List UInt8))(z:(Int)):Prop:=0≤z∧z≤l.length
def Q8h(l:(List Q1b))(label:(List UInt8))(z:(Int)):Nat:=(l.length-z).toNat
def Qa7(l:(List Q1b))(label:(List UInt8)):Tree (Int×Bool):=
.lp inferInstance (Q8h l label 0+1) ((((Els.Nil (Els.recs RK.apiSymbol l)∨rE (2:Nat))∧rE (l:List (RK.T RK.apiSymbol)))∧rE (label:List UInt8)∧rE (0:Int)∧True)∧True) 0 λ(v0:Int)=> .br (decide (v0<(l.length:Int))) (let E1:=Nat.beq 2 2&&Nat.blt 0 2&&decide (0≤v0∧v0<(l.length:Int)); .cn E1 (let E2:=l.getD v0.toNat (RK.dflt RK.apiSymbol); .br (decide (E2.Name=label)) (.cn E1 (.lf (Sum.inr (E2.Addr,true)))) (.nx ((((Els.Nil (Els.recs RK.apiSymbol l)∨rE (2:Nat))∧rE (l:List (RK.T RK.apiSymbol)))∧rE (label:List UInt8)∧rE ((wrap i64 (v0+1)):Int)∧True)∧True) (Sum.inl (wrap i64 (v0+1)))))) (.lf (Sum.inr (0,false)))
def Qia(l:(List Q1b))(label:(List UInt8)):(Int×Bool):=(Qa7 l label).m
def Q20(l:(List Q1b))(label:(List UInt8)):Prop:=
l.length≤1000000000000
theorem Qtl(l:(List Q1b))(label:(List UInt8))(hw:Q20 l label):(Qa7 l label).p:=by
 simp only[Q20]at hw
 unfold Tree.p Qa7
 repeat'(first|refine w_lp (inv:=Qg4 l label) (μ:=Q8h l label) ?_ (Nat.lt_succ_self _) (λ_ _=> ?_)|exact trivial|refine w_br (λ_=> ?_) (λ_=> ?_)|refine w_cn ?_ ?_|refine w_an ?_ ?_|refine w_lv (λ_ _=> ?_)|refine w_nx ?_|refine w_lf ?_|refine And.intro ?_ ?_)
 all_goals((try simp only[Qg4,Q8h]at*);((subst_vars;first|trivial|assumption|omega|((simp(config:={decide:=true,failIfUnchanged:=false}) only[Bool.and_eq_true,Bool.or_eq_true,Bool.and_eq_false_iff,Bool.or_eq_false_iff,Bool.not_eq_true',Bool.not_eq_false',Bool.not_eq_true,Bool.not_eq_false,decide_eq_true_eq,decide_eq_false_iff_not,Q3t,Q2i,Q3y,Q2j,beq_iff_eq,beq_eq_false_iff_ne,bne_iff_ne,bne_eq_false_iff_eq,ne_eq,List.all_cons,List.all_nil,D.plain,List.length_cons,List.length_nil,List.length_append,List.length_set,List.length_replicate,IntKind.wrap_i64,IntKind.wrap_u64,IntKind.wrap_u32,IntKind.wrap_i32,IntKind.wrap_u8,true_and,and_true,or_false,false_or,or_true,true_or,not_true_eq_false,not_false_eq_true,Prod.fst,Prod.snd]at*);first|done|assumption|omega)|((simp(config:={decide:=true,failIfUnchanged:=false}) only[Bool.and_eq_true,Bool.or_eq_true,Bool.and_eq_false_iff,Bool.or_eq_false_iff,Bool.not_eq_true',Bool.not_eq_false',Bool.not_eq_true,Bool.not_eq_false,decide_eq_true_eq,decide_eq_false_iff_not,Q3t,Q2i,Q3y,Q2j,beq_iff_eq,beq_eq_false_iff_ne,bne_iff_ne,bne_eq_false_iff_eq,ne_eq,List.all_cons,List.all_nil,D.plain,List.length_cons,List.length_nil,List.length_append,List.length_set,List.length_replicate,IntKind.wrap_i64,IntKind.wrap_u64,IntKind.wrap_u32,IntKind.wrap_i32,IntKind.wrap_u8,true_and,and_true,or_false,false_or,or_true,true_or,not_true_eq_false,not_false_eq_true,Prod.fst,Prod.snd]at*);simp only[←List.length_pos_iff]at*;omega)|(simp_all;done)|(have:= @Qf2;simp_all;try omega))))
def Quw:LInv:={
 α:=(Int)
 F:=λst a=>([(0,(lk st 0)),(1,(lk st 1)),(6, .int i64 a)],[])
 a0:=λst=>(lk st 6).toInt
 ex0:=λst=>[]++[]
 next:=λst=>(lk st 6).toInt
 ex:=λst=>[]++[]}
def Qqt:List (Nat×LInv):=[(2,Quw)]
def Qz1:Q09:=mkP 125 [] true [.one (.recs .apiSymbol), .one (.str)] [] (λargs rows=>Q20 (argR .apiSymbol args 0) (argS args 1)) (λargs rows=>Qia (argR .apiSymbol args 0) (argS args 1)) (λX=> .tup [.int .u32 (X.1), .bool (X.2)]) (λX=>[])
theorem Qjc:Q01 Tryz.prog Qz1:=Q0j drawn Q0g (.nil) Tryz.func125 Tryz.call125 (λargs rows=>Qa7 (argR .apiSymbol args 0) (argS args 1)) [] Qqt 3 (λ_ _ _=>by kernel_rfl) (λ_ _=>rfl) (λargs rows h=>Qtl (argR .apiSymbol args 0) (argS args 1) h) (λ_ X=>by kernel_rfl)
def Qy1(src:(List UInt8))(z:(Int)×(Int)×(List Q1b)×(List Q06)):Nat:=((Qqa src).length-z.2.1).toNat
def Qdx(src:(List UInt8)):Tree ((List Q1b)×(List Q06)×Q0t):=
.br (decide ((src.length:Int)>(8192:Int))) (.lf ([],[],{Err:=300,Line:=0})) (.an (Qf5 src) (.lv (Qqa src) λ(x0:List (List UInt8))=> .lp inferInstance (Qy1 src (0,0,[],[])+1) (((rE (0:Nat)∧rE (0:Nat))∧True∧True∧rE (0:Int)∧True∧rE (0:Int)∧True)∧(rE (0:Int)∧rE (0:Int)∧True)∧rE (x0:List (RK.T RK.str))∧rE ([]:List (RK.T RK.apiSymbol))∧rE ([]:List (RK.T RK.vmfleetref1Statement))∧True) (0,0,[],[]) λ(v0:Int×Int×List Q1b×List Q06)=> .br (decide (v0.2.1<(x0.length:Int))) (.cn (Nat.beq 1 1&&Nat.blt 0 1&&decide (0≤v0.2.1∧v0.2.1<(x0.length:Int))) (let E3:=x0.getD v0.2.1.toNat (RK.dflt RK.str); .an (Qci E3) (.lv (Qv8 E3) λ(x1:List UInt8×Q06×Bool)=> .br (!x1.2.2) (.lf (Sum.inr ([],[],{Err:=301,Line:=wrap i64 (v0.2.1+1)}))) (let E1:=({Err:=305,Line:=wrap i64 (v0.2.1+1)}:Q0t);let E2:=decide (72*(v0.2.2.2.length+1)≤140737488355328);let E4:=decide (wrap i64 (v0.1+x1.2.1.size)>1024); .br (!decide (x1.1=[])) (.an (Q20 v0.2.2.1 x1.1) (.lv (Qia v0.2.2.1 x1.1) λ(x2:Int×Bool)=> .br x2.2 (.lf (Sum.inr ([],[],{Err:=303,Line:=wrap i64 (v0.2.1+1)}))) (.cn (decide (24*(v0.2.2.1.length+1)≤140737488355328)) (let E5:=({Name:=x1.1,Addr:=wrap u32 (wrap i64 (4*v0.1))}:Q1b); .br (!decide (x1.2.1.what=[])) (.cn E2 (.br E4 (.lf (Sum.inr ([],[],E1))) (.nx (((rE (0:Nat)∧rE (0:Nat))∧True∧True∧rE ((wrap i64 (v0.1+x1.2.1.size)):Int)∧True∧rE ((wrap i64 (v0.2.1+1)):Int)∧True)∧(rE (0:Int)∧rE (0:Int)∧True)∧rE (x0:List (RK.T RK.str))∧rE ((v0.2.2.1++[{Name:=x1.1,Addr:=wrap u32 (wrap i64 (4*v0.1))}]):List (RK.T RK.apiSymbol))∧rE ((v0.2.2.2++[{what:=x1.2.1.what,op:=x1.2.1.op,l:=x1.2.1.l,D1:=wrap i64 (v0.2.1+1),at_:=v0.1,size:=x1.2.1.size}]):List (RK.T RK.vmfleetref1Statement))∧True) (Sum.inl (wrap i64 (v0.1+x1.2.1.size),wrap i64 (v0.2.1+1),v0.2.2.1++[E5],v0.2.2.2++[{what:=x1.2.1.what,op:=x1.2.1.op,l:=x1.2.1.l,D1:=wrap i64 (v0.2.1+1),at_:=v0.1,size:=x1.2.1.size}]))))) (.br (decide (v0.1>1024)) (.lf (Sum.inr ([],[],E1))) (.nx (((rE (0:Nat)∧rE (0:Nat))∧True∧True∧rE v0.1∧True∧rE ((wrap i64 (v0.2.1+1)):Int)∧True)∧(rE (0:Int)∧rE (0:Int)∧True)∧rE (x0:List (RK.T RK.str))∧rE ((v0.2.2.1++[{Name:=x1.1,Addr:=wrap u32 (wrap i64 (4*v0.1))}]):List (RK.T RK.apiSymbol))∧rE v0.2.2.2∧True) (Sum.inl (v0.1,wrap i64 (v0.2.1+1),v0.2.2.1++[E5],v0.2.2.2)))))))) (.br (!decide (x1.2.1.what=[])) (.cn E2 (.br E4 (.lf (Sum.inr ([],[],E1))) (.nx (((rE (0:Nat)∧rE (0:Nat))∧True∧True∧rE ((wrap i64 (v0.1+x1.2.1.size)):Int)∧True∧rE ((wrap i64 (v0.2.1+1)):Int)∧True)∧(rE (0:Int)∧rE (0:Int)∧True)∧rE (x0:List (RK.T RK.str))∧rE v0.2.2.1∧rE ((v0.2.2.2++[{what:=x1.2.1.what,op:=x1.2.1.op,l:=x1.2.1.l,D1:=wrap i64 (v0.2.1+1),at_:=v0.1,size:=x1.2.1.size}]):List (RK.T RK.vmfleetref1Statement))∧True) (Sum.inl (wrap i64 (v0.1+x1.2.1.size),wrap i64 (v0.2.1+1),v0.2.2.1,v0.2.2.2++[{what:=x1.2.1.what,op:=x1.2.1.op,l:=x1.2.1.l,D1:=wrap i64 (v0.2.1+1),at_:=v0.1,size:=x1.2.1.size}]))))) (.br (decide (v0.1>1024)) (.lf (Sum.inr ([],[],E1))) (.nx (((rE (0:Nat)∧rE (0:Nat))∧True∧True∧rE v0.1∧True∧rE ((wrap i64 (v0.2.1+1)):Int)∧True)∧(rE (0:Int)∧rE (0:Int)∧True)∧rE (x0:List (RK.T RK.str))∧rE v0.2.2.1∧rE v0.2.2.2∧True) (Sum.inl (v0.1,wrap i64 (v0.2.1+1),v0.2.2.1,v0.2.2.2))))))))) (.lf (Sum.inr (v0.2.2.1,v0.2.2.2,{Err:=0,Line:=0})))))
def Qyg(src:(List UInt8)):((List Q1b)×(List Q06)×Q0t):=(Qdx src).m
abbrev Qgw(src:(List UInt8)):Prop:=(Qdx src).p
def Z8x:LInv:={
 α:=(Int)×(Int)×(List Q1b)×(List Q06)
 F:=λst a=>([(4, .ptr 0 0 0),(5, .all 2),(6, .all 3),(7, .int i64 a.1),(8, .all 1),(9, .int i64 a.2.1)],[⟨true,59,2, .gen [[(cT st 4 0),(cT st 4 1)]]⟩,⟨false,9,1,esOf st.rows (rN st 8)⟩,⟨false,257,2, .recs RK.apiSymbol a.2.2.1⟩,⟨false,181,6, .recs RK.vmfleetref1Statement a.2.2.2⟩])
 a0:=λst=>((lk st 7).toInt,(lk st 9).toInt,(Qem RK.apiSymbol st.rows (rN st 5)),(Qem RK.vmfleetref1Statement st.rows (rN st 6)))
 ex0:=λst=>[]++[(Q0o (lk st 4) (st.rows.length+0)),(Q0o (lk st 8) (st.rows.length+1)),(Q0o (lk st 5) (st.rows.length+2)),(Q0o (lk st 6) (st.rows.length+3))]
 next:=λst=>((lk st 7).toInt,(lk st 9).toInt,(Qem RK.apiSymbol st.rows (rN st 5)),(Qem RK.vmfleetref1Statement st.rows (rN st 6)))
 ex:=λst=>[]++[(Q0o (lk st 4) (st.rows.length+0)),(Q0o (lk st 8) (st.rows.length+1)),(Q0o (lk st 5) (st.rows.length+2)),(Q0o (lk st 6) (st.rows.length+3))]}
def Z07:List (Nat×LInv):=[(8,Z8x)]
def Zbe:Q09:=mkP 124 [] false [.one (.str)] [] (λargs rows=>Qgw (argS args 0)) (λargs rows=>Qyg (argS args 0)) (λX=> .tup [.all 0, .all 1, .agg (Q0t.cells (X.2.2))]) (λX=>[⟨false,257,2, .recs .apiSymbol (X.1)⟩,⟨false,181,6, .recs .vmfleetref1Statement (X.2.1)⟩])
theorem Z7r:Q01 Tryz.prog Zbe:=Q0j drawn Q0g (.cons Z2r (.cons Qzm (.cons Qjc (.nil)))) Tryz.func124 Tryz.call124 (λargs rows=>Qdx (argS args 0)) [.row 257 2 (.recs .apiSymbol), .row 181 6 (.recs .vmfleetref1Statement)] Z07 3 (λ_ _ _=>by kernel_rfl) (λ_ _=>rfl) (λ_ _ h=>h) (λh=>by cases h)
def Qdm(st:Q06)(v:Int):Tree (Int×Bool):=
.lv (Qg9 st.op) λ(x0:Int)=> .lv (Qml x0) λ(x1:Int×Int)=>let E7:=st.l.getD (Int.toNat 0) (RK.dflt RK.vmfleetref1Arg);let E8:=st.l.getD (Int.toNat 1) (RK.dflt RK.vmfleetref1Arg);let E9:=Nat.beq 3 3&&Nat.blt 0 3&&decide ((0:Int)≤(0:Int)∧0<(st.l.length:Int));let E10:=Nat.beq 3 3&&Nat.blt 0 3&&decide ((0:Int)≤(1:Int)∧1<(st.l.length:Int));let E11:=st.l.getD (Int.toNat 2) (RK.dflt RK.vmfleetref1Arg);let E12:=Nat.beq 3 3&&Nat.blt 0 3&&decide ((0:Int)≤(2:Int)∧2<(st.l.length:Int)); .br (x0==2) (.cn E9 (.cn E10 (.cn E12 (let T2:Tree ((Int×Bool)):= .br (decide (0<x1.1)) (.lf (0,false)) (.br (decide (0>x1.2)) (.lf (0,false)) (.lv (Q0x {Op:=st.op,A:=E7.reg,B:=E8.reg,C:=E11.reg,D3:=wrap i32 0}) λ(x2:Int×Bool)=> .lf (x2.1,x2.2))); .br (x0==2) T2 (.br (x0==1) T2 (.br (decide (v<x1.1)) (.lf (0,false)) (.br (decide (v>x1.2)) (.lf (0,false)) (.lv (Q0x {Op:=st.op,A:=E7.reg,B:=E8.reg,C:=E11.reg,D3:=wrap i32 v}) λ(x4:Int×Bool)=> .lf (x4.1,x4.2))))))))) (let T1:Tree ((Int×Bool)):= .br (decide (x0≥6)) (.cn E9 (let T5:Tree ((Int×Bool)):= .br (decide (0<x1.1)) (.lf (0,false)) (.br (decide (0>x1.2)) (.lf (0,false)) (.lv (Q0x {Op:=st.op,A:=E7.reg,B:=0,C:=0,D3:=wrap i32 0}) λ(x8:Int×Bool)=> .lf (x8.1,x8.2))); .br (x0==2) T5 (.br (x0==1) T5 (.br (decide (v<x1.1)) (.lf (0,false)) (.br (decide (v>x1.2)) (.lf (0,false)) (.lv (Q0x {Op:=st.op,A:=E7.reg,B:=0,C:=0,D3:=wrap i32 v}) λ(x10:Int×Bool)=> .lf (x10.1,x10.2))))))) (.br (x0 !=1) (.cn E9 (.cn E10 (let T3:Tree ((Int×Bool)):= .br (decide (0<x1.1)) (.lf (0,false)) (.br (decide (0>x1.2)) (.lf (0,false)) (.lv (Q0x {Op:=st.op,A:=E7.reg,B:=E8.reg,C:=0,D3:=wrap i32 0}) λ(x11:Int×Bool)=> .lf (x11.1,x11.2))); .br (x0==2) T3 (.br (x0==1) T3 (.br (decide (v<x1.1)) (.lf (0,false)) (.br (decide (v>x1.2)) (.lf (0,false)) (.lv (Q0x {Op:=st.op,A:=E7.reg,B:=E8.reg,C:=0,D3:=wrap i32 v}) λ(x13:Int×Bool)=> .lf (x13.1,x13.2)))))))) (let T6:Tree ((Int×Bool)):= .br (decide (0<x1.1)) (.lf (0,false)) (.br (decide (0>x1.2)) (.lf (0,false)) (.lv (Q0x {Op:=st.op,A:=0,B:=0,C:=0,D3:=wrap i32 0}) λ(x14:Int×Bool)=> .lf (x14.1,x14.2))); .br (x0==2) T6 (.br (x0==1) T6 (.br (decide (v<x1.1)) (.lf (0,false)) (.br (decide (v>x1.2)) (.lf (0,false)) (.lv (Q0x {Op:=st.op,A:=0,B:=0,C:=0,D3:=wrap i32 v}) λ(x16:Int×Bool)=> .lf (x16.1,x16.2))))))); .br (decide (st.op≥32)) (.br (decide (st.op≤36)) (.cn E9 (.cn E12 (.cn E10 (let T4:Tree ((Int×Bool)):= .br (decide (0<x1.1)) (.lf (0,false)) (.br (decide (0>x1.2)) (.lf (0,false)) (.lv (Q0x {Op:=st.op,A:=E7.reg,B:=E11.reg,C:=0,D3:=wrap i32 0}) λ(x5:Int×Bool)=> .lf (x5.1,x5.2))); .br (x0==2) T4 (.br (x0==1) T4 (.br (decide (E8.num<x1.1)) (.lf (0,false)) (.br (decide (E8.num>x1.2)) (.lf (0,false)) (.lv (Q0x {Op:=st.op,A:=E7.reg,B:=E11.reg,C:=0,D3:=wrap i32 E8.num}) λ(x7:Int×Bool)=> .lf (x7.1,x7.2))))))))) T1) T1)
def Qjf(st:Q06)(v:Int):(Int×Bool):=(Qdm st v).m
abbrev Q6(st:Q06)(v:Int):Prop:=(Qdm st v).p
def Zbx:Q09:=mkP 126 [] true [.agg Q06.sig, .one (.int .i64)] [] (λargs rows=>Q6 (Q06.of (args.getD 0 .dead).cells) (argI args 1)) (λargs rows=>Qjf (Q06.of (args.getD 0 .dead).cells) (argI args 1)) (λX=> .tup [.int .u32 (X.1), .bool (X.2)]) (λX=>[])
theorem Z6:Q01 Tryz.prog Zbx:=Q0j drawn Q0g (.cons Qau (.cons Qlg (.cons Qey (.nil)))) Tryz.func126 Tryz.call126 (λargs rows=>Qdm (Q06.of (args.getD 0 .dead).cells) (argI args 1)) [] [] 2 (λ_ _ _=>by kernel_rfl) (λ_ _=>rfl) (λ_ _ h=>h) (λ_ X=>by kernel_rfl)
end
end Go.Proofs.YtmalmklaonainaaGreat

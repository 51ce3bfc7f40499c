/-
  Functions of the program: models, and that its calls come to them (by a program: gen3.py).
-/
import Derived.Test.YtdkiadhigcfmkaaGreatMachineInterruptsBase
import Derived.Test.YtdkiadhigcfmkaaGreatMachineInterruptsHand
import Derived.Test.YtdkiadhigcfmkaaGreatMachineInterruptsYe
namespace Go.Proofs.YtdkiadhigcfmkaaGreat
open Go Go.GD Go.IntKind
set_option linter.unusedVariables false
set_option linter.unusedSimpArgs false
set_option maxRecDepth 100000
noncomputable section
instance sumInhZd {α β:Type} [Inhabited β]:Inhabited (α⊕β):=⟨.inr default⟩
def Quj(src:(List UInt8))(z:(Int)×(Int)×(List (List UInt8))):Nat:=(src.length-z.2.1).toNat
def Qdo(src:(List UInt8)):Tree (List (List UInt8)):=
.lp inferInstance (Quj src (0,0,[])+1) ((rE (src:List UInt8)∧True∧True∧rE (0:Int)∧rE (0:Int)∧True)∧rE ([]:List (RK.T RK.str))∧True) (0,0,[]) fun(v0:Int×Int×List (List UInt8))=>let E1:=decide (16*(List.length v0.snd.snd+1)≤140737488355328); .br (decide (v0.snd.fst<(↑(List.length src):Int))) (.cn (decide (0≤v0.snd.fst∧v0.snd.fst<(↑(List.length src):Int))) (.br ((↑(UInt8.toNat (List.getD src (Int.toNat v0.snd.fst) (0:UInt8))):Int)==(10:Int)) (.cn (decide (0≤v0.fst∧v0.fst≤v0.snd.fst∧v0.snd.fst≤(↑(List.length src):Int))) (.cn E1 (.nx ((rE (src:List UInt8)∧True∧True∧rE ((wrap i64 (v0.snd.fst+1)):Int)∧rE ((wrap i64 (v0.snd.fst+1)):Int)∧True)∧rE ((v0.snd.snd++[List.take (Int.toNat v0.snd.fst-Int.toNat v0.fst) (List.drop (Int.toNat v0.fst) src)]):List (RK.T RK.str))∧True) (Sum.inl (wrap i64 (v0.snd.fst+1),wrap i64 (v0.snd.fst+1),v0.snd.snd++[List.take (Int.toNat v0.snd.fst-Int.toNat v0.fst) (List.drop (Int.toNat v0.fst) src)]))))) (.nx ((rE (src:List UInt8)∧True∧True∧rE v0.fst∧rE ((wrap i64 (v0.snd.fst+1)):Int)∧True)∧rE v0.snd.snd∧True) (Sum.inl (v0.fst,wrap i64 (v0.snd.fst+1),v0.snd.snd))))) (.br (decide (v0.fst<(↑(List.length src):Int))) (.cn (decide (0≤v0.fst∧v0.fst≤(↑(List.length src):Int)∧(↑(List.length src):Int)≤(↑(List.length src):Int))) (.cn E1 (.lf (Sum.inr (v0.snd.snd++[List.take (Int.toNat (↑(List.length src):Int)-Int.toNat v0.fst) (List.drop (Int.toNat v0.fst) src)]))))) (.lf (Sum.inr v0.snd.snd)))
def Qrt(src:(List UInt8)):(List (List UInt8)):=(Qdo src).m
abbrev Qi3(src:(List UInt8)):Prop:=(Qdo src).p
def Z3f:LInv:={
 α:=(Int)×(Int)×(List (List UInt8))
 F:=fun st a=>([(0,(lk st 0)),(2,(lk st 2)),(3, .all 0),(4, .int IntKind.i64 a.1),(5, .int IntKind.i64 a.2.1)],[⟨false,9,1, .recs RK.str a.2.2⟩])
 a0:=fun st=>((lk st 4).toInt,(lk st 5).toInt,(Q68 RK.str st.rows (rN st 3)))
 ex0:=fun st=>[]++[(Q0s (lk st 3) (st.rows.length+0))]
 next:=fun st=>((lk st 4).toInt,(lk st 5).toInt,(Q68 RK.str st.rows (rN st 3)))
 ex:=fun st=>[]++[(Q0s (lk st 3) (st.rows.length+0))]}
def Qwz:List (Nat×LInv):=[(4,Z3f)]
def Z72:Q0b:=mkP 162 [] true [.one (.str)] [] (fun args rows=>Qi3 (argS args 0)) (fun args rows=>Qrt (argS args 0)) (fun X=> .all 0) (fun X=>[⟨false,9,1, .recs .str X⟩])
theorem Z63:Q04 Tryz.prog Z72:=Q0k Q0i Q0j (.nil) Tryz.func162 Tryz.call162 (fun args rows=>Qdo (argS args 0)) [.row 9 1 (.recs .str)] Qwz 3 (fun _ _ _=>by kernel_rfl) (fun _ _=>rfl) (fun _ _ h=>h) (fun _ X=>by kernel_rfl)
def Qqr(c:Int):Tree Bool:=
.br (decide (c≥97)) (.lf (decide (c≤122))) (.lf false)
def Qh1(c:Int):Bool:=(Qqr c).m
def Z3m:Q0b:=mkR 249 [] true [.one (.int .u8)] [] (fun args rows=>Qh1 (argI args 0)) (fun X=> .bool X) (fun X=>[])
theorem Qnp:Q04 Tryz.prog Z3m:=Q0v Q0i Q0j (.nil) Tryz.func249 Tryz.call249 (fun args rows=>Qqr (argI args 0)) [] [] 2 (fun _ _ _=>by kernel_rfl) (fun _ _=>rfl) (fun _ _=>Tree.free_ok (by kernel_rfl)) (fun _ X=>by kernel_rfl)
def Qts(c:Int):Tree Bool:=
.br (decide (c≥48)) (.lf (decide (c≤57))) (.lf false)
def Qcs(c:Int):Bool:=(Qts c).m
def Z6g:Q0b:=mkR 250 [] true [.one (.int .u8)] [] (fun args rows=>Qcs (argI args 0)) (fun X=> .bool X) (fun X=>[])
theorem Qpe:Q04 Tryz.prog Z6g:=Q0v Q0i Q0j (.nil) Tryz.func250 Tryz.call250 (fun args rows=>Qts (argI args 0)) [] [] 2 (fun _ _ _=>by kernel_rfl) (fun _ _=>rfl) (fun _ _=>Tree.free_ok (by kernel_rfl)) (fun _ X=>by kernel_rfl)
def Qro(s:(List UInt8))(z:(Bool)×(Int)×(List Q0f)):Nat:=(s.length-z.2.1).toNat
def Qqz(s:(List UInt8))(v0:Bool×Int×List Q0f)(z:(Int)):Nat:=(s.length-z).toNat
def Qsf(s:(List UInt8))(v0:Bool×Int×List Q0f)(z:(Int)):Nat:=(s.length-z).toNat
def Qbj(s:(List UInt8)):Tree ((List Q0f)×Bool):=
.lp inferInstance (Qro s (true,0,[])+1) ((rE (s:List UInt8)∧True∧rE (true:Bool)∧rE (0:Int)∧True)∧rE ([]:List (RK.T RK.vmfleetref1Token))∧True) (true,0,[]) fun(v0:Bool×Int×List Q0f)=> .br (decide (v0.snd.fst<(↑(List.length s):Int))) (.cn (decide (0≤v0.snd.fst∧v0.snd.fst<(↑(List.length s):Int))) (let E7:=(↑(UInt8.toNat (List.getD s (Int.toNat v0.snd.fst) (0:UInt8))):Int); .br (E7==(32:Int)) (.nx ((rE (s:List UInt8)∧True∧rE (true:Bool)∧rE ((wrap i64 (v0.snd.fst+1)):Int)∧True)∧rE v0.snd.snd∧True) (Sum.inl (true,wrap i64 (v0.snd.fst+1),v0.snd.snd))) (.lv (Qh1 E7) fun(x0:Bool)=>let E10:=decide (32*(List.length v0.snd.snd+1)≤140737488355328);let E13:=List.drop (Int.toNat v0.snd.fst) s; .br x0 (.lp inferInstance (Qqz s v0 v0.snd.fst+1) ((rE (s:List UInt8)∧True∧rE v0.fst∧rE v0.snd.fst∧rE v0.snd.fst∧True)∧rE v0.snd.snd∧True) v0.snd.fst fun(v1:Int)=>let T3:Tree ((Int)⊕((Bool×Int×List Q0f)⊕(((List Q0f)×Bool)))):= .cn (decide (0≤v0.snd.fst∧v0.snd.fst≤v1∧v1≤(↑(List.length s):Int))) (.cn E10 (.nx ((rE (s:List UInt8)∧True∧rE (false:Bool)∧rE (v1:Int)∧True)∧rE ((v0.snd.snd++[{kind:=1,text:=List.take (Int.toNat v1-Int.toNat v0.snd.fst) (List.drop (Int.toNat v0.snd.fst) s),gap:=v0.fst}]):List (RK.T RK.vmfleetref1Token))∧True) (Sum.inr (Sum.inl (false,v1,v0.snd.snd++[{kind:=1,text:=List.take (Int.toNat v1-Int.toNat v0.snd.fst) E13,gap:=v0.fst}]))))); .br (decide (v1<(↑(List.length s):Int))) (let E11:=decide (0≤v1∧v1<(↑(List.length s):Int)); .cn E11 (let E8:=(↑(UInt8.toNat (List.getD s (Int.toNat v1) (0:UInt8))):Int); .lv (Qh1 E8) fun(x1:Bool)=>let T5:Tree ((Int)⊕((Bool×Int×List Q0f)⊕(((List Q0f)×Bool)))):= .nx ((rE (s:List UInt8)∧True∧rE v0.fst∧rE ((wrap i64 (v1+1)):Int)∧rE v0.snd.fst∧True)∧rE v0.snd.snd∧True) (Sum.inl (wrap i64 (v1+1))); .br x1 T5 (.cn E11 (.lv (Qcs E8) fun(x2:Bool)=> .br x2 T5 (.cn E11 (.br (E8==(95:Int)) T5 T3)))))) T3) (.lv (Qcs E7) fun(x3:Bool)=>let T2:Tree ((Bool×Int×List Q0f)⊕(((List Q0f)×Bool))):= .lp inferInstance (Qsf s v0 (wrap i64 (v0.snd.fst+1))+1) ((rE (s:List UInt8)∧True∧rE v0.fst∧rE ((wrap i64 (v0.snd.fst+1)):Int)∧rE v0.snd.fst∧True)∧rE v0.snd.snd∧True) (wrap i64 (v0.snd.fst+1)) fun(v1:Int)=>let T4:Tree ((Int)⊕((Bool×Int×List Q0f)⊕(((List Q0f)×Bool)))):= .cn (decide (0≤v0.snd.fst∧v0.snd.fst≤v1∧v1≤(↑(List.length s):Int))) (.cn E10 (.nx ((rE (s:List UInt8)∧True∧rE (false:Bool)∧rE (v1:Int)∧True)∧rE ((v0.snd.snd++[{kind:=2,text:=List.take (Int.toNat v1-Int.toNat v0.snd.fst) (List.drop (Int.toNat v0.snd.fst) s),gap:=v0.fst}]):List (RK.T RK.vmfleetref1Token))∧True) (Sum.inr (Sum.inl (false,v1,v0.snd.snd++[{kind:=2,text:=List.take (Int.toNat v1-Int.toNat v0.snd.fst) E13,gap:=v0.fst}]))))); .br (decide (v1<(↑(List.length s):Int))) (let E12:=decide (0≤v1∧v1<(↑(List.length s):Int)); .cn E12 (let E9:=(↑(UInt8.toNat (List.getD s (Int.toNat v1) (0:UInt8))):Int); .lv (Qh1 E9) fun(x4:Bool)=>let T6:Tree ((Int)⊕((Bool×Int×List Q0f)⊕(((List Q0f)×Bool)))):= .nx ((rE (s:List UInt8)∧True∧rE v0.fst∧rE ((wrap i64 (v1+1)):Int)∧rE v0.snd.fst∧True)∧rE v0.snd.snd∧True) (Sum.inl (wrap i64 (v1+1))); .br x4 T6 (.cn E12 (.lv (Qcs E9) fun(x5:Bool)=> .br x5 T6 (.cn E12 (.br (E9==(95:Int)) T6 T4)))))) T4; .br x3 T2 (.br (E7==(45:Int)) T2 (let T1:Tree ((Bool×Int×List Q0f)⊕(((List Q0f)×Bool))):= .cn (decide (0≤v0.snd.fst∧v0.snd.fst≤wrap i64 (v0.snd.fst+1)∧wrap i64 (v0.snd.fst+1)≤(↑(List.length s):Int))) (.cn E10 (.nx ((rE (s:List UInt8)∧True∧rE (false:Bool)∧rE ((wrap i64 (v0.snd.fst+1)):Int)∧True)∧rE ((v0.snd.snd++[{kind:=3,text:=List.take (Int.toNat (wrap i64 (v0.snd.fst+1))-Int.toNat v0.snd.fst) (List.drop (Int.toNat v0.snd.fst) s),gap:=v0.fst}]):List (RK.T RK.vmfleetref1Token))∧True) (Sum.inl (false,wrap i64 (v0.snd.fst+1),v0.snd.snd++[{kind:=3,text:=List.take (Int.toNat (wrap i64 (v0.snd.fst+1))-Int.toNat v0.snd.fst) E13,gap:=v0.fst}])))); .br (E7==(44:Int)) T1 (.br (E7==(58:Int)) T1 (.br (E7==(40:Int)) T1 (.br (E7==(41:Int)) T1 (.br (E7==(46:Int)) T1 (.lf (Sum.inr ([],false))))))))))))) (.lf (Sum.inr (v0.snd.snd,true)))
def Qw0(s:(List UInt8)):((List Q0f)×Bool):=(Qbj s).m
abbrev Qgt(s:(List UInt8)):Prop:=(Qbj s).p
def Qzm:LInv:={
 α:=(Bool)×(Int)×(List Q0f)
 F:=fun st a=>([(0,(lk st 0)),(4, .all 0),(5, .bool a.1),(6, .int IntKind.i64 a.2.1)],[⟨false,263,3, .recs RK.vmfleetref1Token a.2.2⟩])
 a0:=fun st=>((lk st 5).toBool,(lk st 6).toInt,(Q68 RK.vmfleetref1Token st.rows (rN st 4)))
 ex0:=fun st=>[]++[(Q0s (lk st 4) (st.rows.length+0))]
 next:=fun st=>((lk st 5).toBool,(lk st 6).toInt,(Q68 RK.vmfleetref1Token st.rows (rN st 4)))
 ex:=fun st=>[]++[(Q0s (lk st 4) (st.rows.length+0))]}
def Qzb:LInv:={
 α:=(Int)
 F:=fun st a=>([(0,(lk st 0)),(4, .all 0),(5,(lk st 5)),(6, .int IntKind.i64 a),(8,(lk st 8))],[⟨false,263,3,esOf st.rows (rN st 4)⟩])
 a0:=fun st=>(lk st 6).toInt
 ex0:=fun st=>[]++[(Q0s (lk st 4) (st.rows.length+0))]
 next:=fun st=>(lk st 6).toInt
 ex:=fun st=>[]++[(Q0s (lk st 4) (st.rows.length+0))]}
def Z0k:LInv:={
 α:=(Int)
 F:=fun st a=>([(0,(lk st 0)),(4, .all 0),(5,(lk st 5)),(6, .int IntKind.i64 a),(8,(lk st 8))],[⟨false,263,3,esOf st.rows (rN st 4)⟩])
 a0:=fun st=>(lk st 6).toInt
 ex0:=fun st=>[]++[(Q0s (lk st 4) (st.rows.length+0))]
 next:=fun st=>(lk st 6).toInt
 ex:=fun st=>[]++[(Q0s (lk st 4) (st.rows.length+0))]}
def Qum:List (Nat×LInv):=[(4,Qzm),(12,Qzb),(17,Z0k)]
def Z5y:Q0b:=mkP 209 [] true [.one (.str)] [] (fun args rows=>Qgt (argS args 0)) (fun args rows=>Qw0 (argS args 0)) (fun X=> .tup [.all 0, .bool (X.2)]) (fun X=>[⟨false,263,3, .recs .vmfleetref1Token (X.1)⟩])
theorem Qz7:Q04 Tryz.prog Z5y:=Q0k Q0i Q0j (.cons Qnp (.cons Qpe (.nil))) Tryz.func209 Tryz.call209 (fun args rows=>Qbj (argS args 0)) [.row 263 3 (.recs .vmfleetref1Token)] Qum 3 (fun _ _ _=>by kernel_rfl) (fun _ _=>rfl) (fun _ _ h=>h) (fun _ X=>by kernel_rfl)
 def digT (p:Int→Prop) (r:Int→List UInt8) (n:Int):Tree (List UInt8):=
 .br (decide (n<(10:Int))) (.lf ([(fun(n:Int)=>UInt8.ofNat (Int.toNat n)) (IntKind.wrap IntKind.u8 (IntKind.wrap IntKind.u64 ((48:Int)+n)))])) (.an (p (IntKind.wrap IntKind.u64 (Int.tdiv n (10:Int)))) (.lv (r (IntKind.wrap IntKind.u64 (Int.tdiv n (10:Int)))) fun(x0:List UInt8)=> .cn (decide (List.length x0+List.length [(fun(n:Int)=>UInt8.ofNat (Int.toNat n)) (IntKind.wrap IntKind.u8 (IntKind.wrap IntKind.u64 ((48:Int)+Int.tmod n (10:Int))))]≤maxLen)) (.lf (x0++[(fun(n:Int)=>UInt8.ofNat (Int.toNat n)) (IntKind.wrap IntKind.u8 (IntKind.wrap IntKind.u64 ((48:Int)+Int.tmod n (10:Int))))]))))
 def digF:Nat→Int→List UInt8
   |0,_=>[]
   |k+1,n=>(digT (fun _=>True) (digF k) n).m
 def digP (k:Nat) (n:Int):Prop:=0≤n∧n<10^k∧n<18446744073709551616∧0<k∧k≤30
 def digM (k:Nat):Q0b:=mkP 109 [] true [.one (.int .u64)] [] (fun args rows=>digP k (argI args 0)) (fun args rows=>digF k (argI args 0)) (fun X=> .str X) (fun X=>[])
 theorem digF_len: ∀k n,(digF k n).length≤k
   |0,_=>Nat.le_refl _
   | k+1,n=>by
     show(bif decide (n<10) then _ else letv (digF k _) fun x0=>x0++_).length≤k+1
     have:=digF_len k (IntKind.wrap IntKind.u64 (Int.tdiv n 10))
     cases decide (n<10)
     · simp [letv,Tree.m];omega
     · simp [Tree.m]
 theorem digM_ok: ∀k,Q04 Tryz.prog (digM k)
   |0=>Z8l Tryz.call109 (fun args rows h=>absurd h.2.2.2.1 (Nat.lt_irrefl 0)) (fun _ X=>by kernel_rfl)
   | k + 1=>by
     refine Q0k Q0i Q0j (.cons (digM_ok k) .nil) Tryz.func109 Tryz.call109 (fun args rows=>digT (digP k) (digF k) (argI args 0)) [] [] 2 (fun _ _ _=>by kernel_rfl) (fun _ _=>rfl) (fun args rows h=> ?_) (fun _ X=>by kernel_rfl)
     obtain⟨h0,h1,h2,h3,h4⟩:=h
     generalize argI args 0=n at*
     refine w_br (fun _=>trivial) (fun hn=> ?_)
     have hn:=of_decide_eq_false hn
     have e:IntKind.wrap IntKind.u64 (Int.tdiv n 10)=n/10:=by rw[IntKind.wrap_u64,Int.tdiv_eq_ediv_of_nonneg h0];omega
     refine w_an (show digP k _ from ?_) (w_lv fun x hx=>w_cn (decide_eq_true ?_) trivial)
     · rw[e]
       rw[Int.pow_succ]at h1
       have hk:0<k:=by
         rcases Nat.eq_zero_or_pos k with rfl|h
         · simp at h1;omega
         · exact h
       exact⟨by omega,by omega,by omega,hk,by omega⟩
     · have:=digF_len k (IntKind.wrap IntKind.u64 (Int.tdiv n 10))
       rw[←hx]at this
       simp [maxLen];omega
def Qc9(n:Int):(List UInt8):=
digF 20 n
def Q3(n:Int):Prop:=
0≤n∧n<18446744073709551616
def Qkq(n:Int):List D:=[.int .u64 n]
def Qk8(n:Int):List Row:=[]
def Qgs(X:(List UInt8)):D:= .str X
def Qgd(X:(List UInt8)):List Row:=[]
def Qlk:List PT:=[.one (.int .u64)]
def Qkb:List RT:=[]
def Qxd(args:List D)(rows:List Row):(List UInt8):=Qc9 (argI args 0)
def Qyb(args:List D)(rows:List Row):Prop:=Q3 (argI args 0)
def Z57:Q0b:=mkP 109 [] true Qlk Qkb Qyb Qxd Qgs Qgd
theorem Qs3(n:Int)(hw:Q3 n):Q52 Tryz.prog 109 (Qkq n) (Qk8 n) (Qgs (Qc9 n)) (Qgd (Qc9 n)):=by
 have h20:(18446744073709551616:Int)≤10^20:=by decide
 exact mkP_calls (args:=[.int .u64 n]) (rows:=[]) (digM_ok 20) (by kernel_rfl) ⟨hw.1,Int.lt_of_lt_of_le hw.2 h20,hw.2,by decide,by decide⟩
set_option maxRecDepth 100000 in
theorem Que(args:List D)(rows:List Row):Qks Qlk args 0=Qkq (argI args 0):=by kernel_rfl
set_option maxRecDepth 100000 in
theorem Qsr(args:List D)(rows:List Row):Q9q Qkb rows 0=Qk8 (argI args 0):=by kernel_rfl
set_option maxRecDepth 100000 in
theorem Z01(X:(List UInt8)):(ffB (Qgs X)&&ffBR (Qgd X))=true:=by kernel_rfl
theorem Z0o:Q04 Tryz.prog Z57:=Z8l Tryz.call109 (fun args rows hp=>by rw[Que args rows,Qsr args rows];exact Qs3 (argI args 0) hp) (fun _ X=>Z01 X)
def Q64(n:Int):Tree (List UInt8):=
.br (decide (n<0)) (let E1:=wrap u64 (wrap u64 (wrap i64 (0-wrap i64 (n+1)))+1); .an (Q3 E1) (.lv (Qc9 E1) fun(x0:List UInt8)=> .cn (decide (1+List.length x0≤maxLen)) (.lf ((45:UInt8)::x0)))) (.an (Q3 (wrap u64 n)) (.lv (Qc9 (wrap u64 n)) fun(x1:List UInt8)=> .lf x1))
def Ql2(n:Int):(List UInt8):=(Q64 n).m
abbrev Qef(n:Int):Prop:=(Q64 n).p
def Qz6:Q0b:=mkP 48 [] true [.one (.int .i64)] [] (fun args rows=>Qef (argI args 0)) (fun args rows=>Ql2 (argI args 0)) (fun X=> .str X) (fun X=>[])
theorem Qy6:Q04 Tryz.prog Qz6:=Q0k Q0i Q0j (.cons Z0o (.nil)) Tryz.func48 Tryz.call48 (fun args rows=>Q64 (argI args 0)) [] [] 2 (fun _ _ _=>by kernel_rfl) (fun _ _=>rfl) (fun _ _ h=>h) (fun _ X=>by kernel_rfl)
def Qcp(r:Int):Tree (List UInt8):=
.an (Qef r) (.lv (Ql2 r) fun(x0:List UInt8)=> .cn (decide (1+List.length x0≤maxLen)) (.lf ((114:UInt8)::x0)))
def Ze4(r:Int):(List UInt8):=(Qcp r).m
abbrev Qlj(r:Int):Prop:=(Qcp r).p
def Zg0:Q0b:=mkP 264 [] true [.one (.int .i64)] [] (fun args rows=>Qlj (argI args 0)) (fun args rows=>Ze4 (argI args 0)) (fun X=> .str X) (fun X=>[])
theorem Zcb:Q04 Tryz.prog Zg0:=Q0k Q0i Q0j (.cons Qy6 (.nil)) Tryz.func264 Tryz.call264 (fun args rows=>Qcp (argI args 0)) [] [] 2 (fun _ _ _=>by kernel_rfl) (fun _ _=>rfl) (fun _ _ h=>h) (fun _ X=>by kernel_rfl)
def Qmz(s:(List UInt8))(z:(Int)):Prop:=0≤z∧z≤16
def Qe3(s:(List UInt8))(z:(Int)):Nat:=(16-z).toNat
def Q9j(s:(List UInt8)):Tree (Int×Bool):=
.lp inferInstance (Qe3 s 0+1) ((rE (s:List UInt8)∧rE (0:Int)∧rE (false:Bool)∧rE (0:Int)∧True)∧True) 0 fun(v0:Int)=> .br (decide (v0<16)) (.an (Qlj v0) (.lv (Ze4 v0) fun(x0:List UInt8)=> .br (decide (s=x0)) (.lf (Sum.inr (v0,true))) (.nx ((rE (s:List UInt8)∧rE (0:Int)∧rE (false:Bool)∧rE ((wrap i64 (v0+1)):Int)∧True)∧True) (Sum.inl (wrap i64 (v0+1)))))) (.lf (Sum.inr (0,false)))
def Qgw(s:(List UInt8)):(Int×Bool):=(Q9j s).m
theorem Qo9(s:(List UInt8)):(Q9j s).p:=by
 unfold Tree.p Q9j
 have dp: ∀x,Q3 (IntKind.wrap .u64 x):=fun x=>by unfold Q3;rw[IntKind.wrap_u64];omega
 have dl: ∀x,(Qc9 x).length≤20:=fun x=>digF_len 20 x
 have hd: ∀x,(Q64 x).w (fun r=>r.length≤21):=fun x=>by
   unfold Q64
   refine w_br (fun _=>w_an (dp _) (w_lv fun x0 h0=>w_cn (decide_eq_true ?_) ?_)) (fun _=>w_an (dp _) (w_lv fun x1 h1=> ?_))
   · have:=dl (IntKind.wrap .u64 (IntKind.wrap .u64 (IntKind.wrap .i64 (0-IntKind.wrap .i64 (x+1)))+1));rw[←h0]at this;simp [maxLen];omega
   · have:=dl (IntKind.wrap .u64 (IntKind.wrap .u64 (IntKind.wrap .i64 (0-IntKind.wrap .i64 (x+1)))+1));rw[←h0]at this;show(_::x0).length≤21;simp;omega
   · rw[h1];exact Nat.le_trans (dl _) (by decide)
 have hr: ∀x,(Qcp x).p:=fun x=>by
   unfold Tree.p Qcp
   refine w_an (Tree.pp (hd x)).1 (w_lv fun x0 h0=>w_cn (decide_eq_true ?_) trivial)
   have:(Ql2 x).length≤21:=(Tree.pp (hd x)).2
   rw[←h0]at this;simp [maxLen];omega
 refine w_lp (inv:=Qmz s) (μ:=Qe3 s) ⟨by decide,by decide⟩ (Nat.lt_succ_self _) (fun z hz=> ?_)
 obtain⟨z1,z2⟩:=hz
 refine w_br (fun hb=>w_an (hr _) (w_lv fun x0 _=>w_br (fun _=>trivial) (fun _=>w_nx ?_))) (fun _=>trivial)
 have hb:=of_decide_eq_true hb
 show(0≤IntKind.i64.wrap (z+1)∧IntKind.i64.wrap (z+1)≤16)∧(16-IntKind.i64.wrap (z+1)).toNat<(16-z).toNat
 rw[IntKind.wrap_i64];omega
def Qp1:LInv:={
 α:=(Int)
 F:=fun st a=>([(0,(lk st 0)),(2,(lk st 2)),(3,(lk st 3)),(4, .int IntKind.i64 a)],[])
 a0:=fun st=>(lk st 4).toInt
 ex0:=fun st=>[]++[]
 next:=fun st=>(lk st 4).toInt
 ex:=fun st=>[]++[]}
def Qn4:List (Nat×LInv):=[(2,Qp1)]
def Qrg:Q0b:=mkR 251 [] true [.one (.str)] [] (fun args rows=>Qgw (argS args 0)) (fun X=> .tup [.int .i64 (X.1), .bool (X.2)]) (fun X=>[])
theorem Qhv:Q04 Tryz.prog Qrg:=Q0v Q0i Q0j (.cons Zcb (.nil)) Tryz.func251 Tryz.call251 (fun args rows=>Q9j (argS args 0)) [] Qn4 3 (fun _ _ _=>by kernel_rfl) (fun _ _=>rfl) (fun args rows=>Qo9 (argS args 0)) (fun _ X=>by kernel_rfl)
def Qfr(s:(List UInt8)):Tree Bool:=
.lv (Qgw s) fun(x0:Int×Bool)=> .br (decide ((↑(List.length s):Int)≥(1:Int))) (.br (decide ((↑(List.length s):Int)≤(12:Int))) (.cn (decide ((0:Int)≤(0:Int)∧0<(↑(List.length s):Int))) (.lv (Qh1 (↑(UInt8.toNat (List.getD s (Int.toNat 0) (0:UInt8))):Int)) fun(x1:Bool)=> .br x1 (.lf (!x0.snd)) (.lf false))) (.lf false)) (.lf false)
def Qwh(s:(List UInt8)):Bool:=(Qfr s).m
abbrev Qen(s:(List UInt8)):Prop:=(Qfr s).p
def Zao:Q0b:=mkP 210 [] true [.one (.str)] [] (fun args rows=>Qen (argS args 0)) (fun args rows=>Qwh (argS args 0)) (fun X=> .bool X) (fun X=>[])
theorem Qu:Q04 Tryz.prog Zao:=Q0k Q0i Q0j (.cons Qhv (.cons Qnp (.nil))) Tryz.func210 Tryz.call210 (fun args rows=>Qfr (argS args 0)) [] [] 2 (fun _ _ _=>by kernel_rfl) (fun _ _=>rfl) (fun _ _ h=>h) (fun _ X=>by kernel_rfl)
def Q92(op:Int):Tree (List UInt8):=
let T1:Tree ((List UInt8)):=let T3:Tree ((List UInt8)):= .br (op==48) (.lf ([(106:UInt8),97,108])) (.br (op==49) (.lf ([(106:UInt8),97,108,114])) (.br (decide (op≥56)) (.br (decide (op≤64)) (.cn (Nat.beq 1 1&&Nat.blt 0 1&&decide (0≤wrap i64 (op-56)∧wrap i64 (op-56)<(↑(9):Int))) (.lf (List.getD [[(101:UInt8),99,97,108,108],[(101:UInt8),114,101,116],[(99:UInt8),115,114,114],[(99:UInt8),115,114,119],[(105:UInt8),110],[(111:UInt8),117,116],[(119:UInt8),102,105],[(102:UInt8),108,117,115,104],[(104:UInt8),97,108,116]] (Int.toNat (wrap i64 (op-56))) (RK.dflt RK.str)))) (.lf ([]))) (.lf ([])))); .br (decide (op≥40)) (.br (decide (op≤45)) (.cn (Nat.beq 1 1&&Nat.blt 0 1&&decide (0≤wrap i64 (op-40)∧wrap i64 (op-40)<(↑(6):Int))) (.lf (List.getD [[(98:UInt8),101,113],[(98:UInt8),110,101],[(98:UInt8),108,116],[(98:UInt8),103,101],[(98:UInt8),108,116,117],[(98:UInt8),103,101,117]] (Int.toNat (wrap i64 (op-40))) (RK.dflt RK.str)))) T3) T3;let T2:Tree ((List UInt8)):=let T4:Tree ((List UInt8)):= .br (decide (op≥32)) (.br (decide (op≤36)) (.cn (Nat.beq 1 1&&Nat.blt 0 1&&decide (0≤wrap i64 (op-32)∧wrap i64 (op-32)<(↑(5):Int))) (.lf (List.getD [[(108:UInt8),119],[(108:UInt8),98],[(108:UInt8),98,117],[(115:UInt8),119],[(115:UInt8),98]] (Int.toNat (wrap i64 (op-32))) (RK.dflt RK.str)))) T1) T1; .br (decide (op≥16)) (.br (decide (op≤24)) (.cn (Nat.beq 1 1&&Nat.blt 0 1&&decide (0≤wrap i64 (op-16)∧wrap i64 (op-16)<(↑(9):Int))) (.lf (List.getD [[(97:UInt8),100,100,105],[(97:UInt8),110,100,105],[(111:UInt8),114,105],[(120:UInt8),111,114,105],[(115:UInt8),104,108,105],[(115:UInt8),104,114,105],[(115:UInt8),97,114,105],[(115:UInt8),108,116,105],[(108:UInt8),117,105]] (Int.toNat (wrap i64 (op-16))) (RK.dflt RK.str)))) T4) T4; .br (decide (op≥1)) (.br (decide (op≤13)) (.cn (Nat.beq 1 1&&Nat.blt 0 1&&decide (0≤wrap i64 (op-1)∧wrap i64 (op-1)<(↑(13):Int))) (.lf (List.getD [[(97:UInt8),100,100],[(115:UInt8),117,98],[(97:UInt8),110,100],[(111:UInt8),114],[(120:UInt8),111,114],[(115:UInt8),104,108],[(115:UInt8),104,114],[(115:UInt8),97,114],[(109:UInt8),117,108],[(100:UInt8),105,118],[(114:UInt8),101,109],[(115:UInt8),108,116],[(115:UInt8),108,116,117]] (Int.toNat (wrap i64 (op-1))) (RK.dflt RK.str)))) T2) T2
def Qoz(op:Int):(List UInt8):=(Q92 op).m
abbrev Qcj(op:Int):Prop:=(Q92 op).p
def Qyk:Q0b:=mkP 253 [] true [.one (.int .i64)] [] (fun args rows=>Qcj (argI args 0)) (fun args rows=>Qoz (argI args 0)) (fun X=> .str X) (fun X=>[])
theorem Qui:Q04 Tryz.prog Qyk:=Q0k Q0i Q0j (.nil) Tryz.func253 Tryz.call253 (fun args rows=>Q92 (argI args 0)) [] [] 2 (fun _ _ _=>by kernel_rfl) (fun _ _=>rfl) (fun _ _ h=>h) (fun _ X=>by kernel_rfl)
def Qn5(s:(List UInt8))(z:(Int)):Nat:=(65-z).toNat
def Q7g(s:(List UInt8)):Tree Int:=
.lp inferInstance (Qn5 s 1+1) ((rE (s:List UInt8)∧rE (0:Int)∧rE (1:Int)∧True)∧True) 1 fun(v0:Int)=> .br (decide (v0≤64)) (.lv (Q29 v0) fun(x0:Int)=>let T1:Tree ((Int)⊕(Int)):= .nx ((rE (s:List UInt8)∧rE (0:Int)∧rE ((wrap i64 (v0+1)):Int)∧True)∧True) (Sum.inl (wrap i64 (v0+1))); .br (decide (x0>0)) (.an (Qcj v0) (.lv (Qoz v0) fun(x1:List UInt8)=> .br (decide (x1=s)) (.lf (Sum.inr v0)) T1)) T1) (.lf (Sum.inr 0))
def Q7r(s:(List UInt8)):Int:=(Q7g s).m
abbrev Q30(s:(List UInt8)):Prop:=(Q7g s).p
def Qrs:LInv:={
 α:=(Int)
 F:=fun st a=>([(0,(lk st 0)),(2,(lk st 2)),(3, .int IntKind.i64 a)],[])
 a0:=fun st=>(lk st 3).toInt
 ex0:=fun st=>[]++[]
 next:=fun st=>(lk st 3).toInt
 ex:=fun st=>[]++[]}
def Qo0:List (Nat×LInv):=[(2,Qrs)]
def Qv0:Q0b:=mkP 213 [] true [.one (.str)] [] (fun args rows=>Q30 (argS args 0)) (fun args rows=>Q7r (argS args 0)) (fun X=> .int .i64 X) (fun X=>[])
theorem Qis:Q04 Tryz.prog Qv0:=Q0k Q0i Q0j (.cons Qe1 (.cons Qui (.nil))) Tryz.func213 Tryz.call213 (fun args rows=>Q7g (argS args 0)) [] Qo0 3 (fun _ _ _=>by kernel_rfl) (fun _ _=>rfl) (fun _ _ h=>h) (fun _ X=>by kernel_rfl)
def Q9y(what:(List UInt8)):Tree ((List UInt8)×Bool):=
.an (Q30 what) (.lv (Q7r what) fun(x0:Int)=> .br (decide (what=[(46:UInt8),119,111,114,100])) (.lf ([(120:UInt8)],true)) (.br (decide (what=[(46:UInt8),115,112,97,99,101])) (.lf ([(110:UInt8)],true)) (.br (decide (what=[(108:UInt8),105])) (.lf ([(114:UInt8),44,120],true)) (.br (decide (what=[(109:UInt8),118])) (.lf ([(114:UInt8),44,114],true)) (.br (decide (what=[(110:UInt8),111,112])) (.lf ([],true)) (.br (x0==0) (.lf ([],false)) (let T1:Tree (((List UInt8)×Bool)):= .br (x0==48) (.lf ([(114:UInt8),44,120],true)) (.lv (Q29 x0) fun(x1:Int)=> .br (x1==1) (.lf ([],true)) (.br (x1==2) (.lf ([(114:UInt8),44,114,44,114],true)) (.br (decide (x1≥6)) (.lf ([(114:UInt8),44,110],true)) (.lf ([(114:UInt8),44,114,44,110],true)))));let T2:Tree (((List UInt8)×Bool)):= .br (decide (x0≥40)) (.br (decide (x0≤45)) (.lf ([(114:UInt8),44,114,44,120],true)) T1) T1; .br (decide (x0≥32)) (.br (decide (x0≤36)) (.lf ([(114:UInt8),44,110,40,114,41],true)) T2) T2)))))))
def Qdx(what:(List UInt8)):((List UInt8)×Bool):=(Q9y what).m
abbrev Q5e(what:(List UInt8)):Prop:=(Q9y what).p
def Qzw:Q0b:=mkP 211 [] true [.one (.str)] [] (fun args rows=>Q5e (argS args 0)) (fun args rows=>Qdx (argS args 0)) (fun X=> .tup [.str (X.1), .bool (X.2)]) (fun X=>[])
theorem Qyz:Q04 Tryz.prog Qzw:=Q0k Q0i Q0j (.cons Qis (.cons Qe1 (.nil))) Tryz.func211 Tryz.call211 (fun args rows=>Q9y (argS args 0)) [] [] 2 (fun _ _ _=>by kernel_rfl) (fun _ _=>rfl) (fun _ _ h=>h) (fun _ X=>by kernel_rfl)
def Qry(s:(List UInt8))(z:(Int)×(Int)):Nat:=(s.length-z.2).toNat
def Qiz(s:(List UInt8))(z:(Int)×(Int)):Nat:=(s.length-z.2).toNat
def Qbg(s:(List UInt8)):Tree (Int×Bool):=
let E7:=decide ((0:Int)≤(0:Int)∧0<(↑(List.length s):Int));let E8:=(↑(UInt8.toNat (List.getD s (Int.toNat 0) (0:UInt8))):Int);let T1:Tree ((Int×Bool)):=let T2:Tree ((Int×Bool)):= .br (decide (wrap i64 ((↑(List.length s):Int)-(0:Int))<1)) (.lf (0,false)) (.br (decide (wrap i64 ((↑(List.length s):Int)-(0:Int))>10)) (.lf (0,false)) (.lp inferInstance (Qiz s (0,0)+1) ((rE (s:List UInt8)∧rE (0:Int)∧rE (0:Int)∧rE (0:Int)∧True)∧True) (0,0) fun(v0:Int×Int)=> .br (decide (v0.snd<(↑(List.length s):Int))) (let E9:=decide (0≤v0.snd∧v0.snd<(↑(List.length s):Int)); .cn E9 (let E5:=(↑(UInt8.toNat (List.getD s (Int.toNat v0.snd) (0:UInt8))):Int); .lv (Qcs E5) fun(x2:Bool)=> .br (!x2) (.lf (Sum.inr (0,false))) (.cn E9 (.nx ((rE (s:List UInt8)∧rE (0:Int)∧rE ((wrap i64 (wrap i64 (10*v0.fst)+wrap i64 (wrap u8 ((↑(UInt8.toNat (List.getD s (Int.toNat v0.snd) (0:UInt8))):Int)-(48:Int))))):Int)∧rE ((wrap i64 (v0.snd+1)):Int)∧True)∧True) (Sum.inl (wrap i64 (wrap i64 (10*v0.fst)+wrap i64 (wrap u8 (E5-(48:Int)))),wrap i64 (v0.snd+1))))))) (.br (decide (v0.fst≥(-2147483648))) (.lf (Sum.inr (v0.fst,decide (v0.fst≤4294967295)))) (.lf (Sum.inr (v0.fst,false)))))); .br (decide ((↑(List.length s):Int)>(0:Int))) (.cn E7 (.br (E8==(45:Int)) (.br (decide (wrap i64 ((↑(List.length s):Int)-(1:Int))<1)) (.lf (0,false)) (.br (decide (wrap i64 ((↑(List.length s):Int)-(1:Int))>10)) (.lf (0,false)) (.lp inferInstance (Qiz s (0,1)+1) ((rE (s:List UInt8)∧rE (1:Int)∧rE (0:Int)∧rE (1:Int)∧True)∧True) (0,1) fun(v0:Int×Int)=> .br (decide (v0.snd<(↑(List.length s):Int))) (let E10:=decide (0≤v0.snd∧v0.snd<(↑(List.length s):Int)); .cn E10 (let E6:=(↑(UInt8.toNat (List.getD s (Int.toNat v0.snd) (0:UInt8))):Int); .lv (Qcs E6) fun(x1:Bool)=> .br (!x1) (.lf (Sum.inr (0,false))) (.cn E10 (.nx ((rE (s:List UInt8)∧rE (1:Int)∧rE ((wrap i64 (wrap i64 (10*v0.fst)+wrap i64 (wrap u8 ((↑(UInt8.toNat (List.getD s (Int.toNat v0.snd) (0:UInt8))):Int)-(48:Int))))):Int)∧rE ((wrap i64 (v0.snd+1)):Int)∧True)∧True) (Sum.inl (wrap i64 (wrap i64 (10*v0.fst)+wrap i64 (wrap u8 (E6-(48:Int)))),wrap i64 (v0.snd+1))))))) (.br (decide (wrap i64 (0-v0.fst)≥(-2147483648))) (.lf (Sum.inr (wrap i64 (0-v0.fst),decide (wrap i64 (0-v0.fst)≤4294967295)))) (.lf (Sum.inr (wrap i64 (0-v0.fst),false))))))) T2)) T2; .br (decide ((↑(List.length s):Int)>(2:Int))) (.cn E7 (.br (E8==(48:Int)) (.cn (decide ((0:Int)≤(1:Int)∧1<(↑(List.length s):Int))) (.br ((↑(UInt8.toNat (List.getD s (Int.toNat 1) (0:UInt8))):Int)==(120:Int)) (.br (decide ((↑(List.length s):Int)>(10:Int))) (.lf (0,false)) (.lp inferInstance (Qry s (0,2)+1) ((rE (s:List UInt8)∧rE (0:Int)∧rE (2:Int)∧True)∧True) (0,2) fun(v0:Int×Int)=> .br (decide (v0.snd<(↑(List.length s):Int))) (let E4:=decide (0≤v0.snd∧v0.snd<(↑(List.length s):Int)); .cn E4 (let E3:=(↑(UInt8.toNat (List.getD s (Int.toNat v0.snd) (0:UInt8))):Int); .lv (Qcs E3) fun(x0:Bool)=> .br x0 (.cn E4 (.nx ((rE (s:List UInt8)∧rE ((wrap i64 (wrap i64 (16*v0.fst)+wrap i64 (wrap u8 ((↑(UInt8.toNat (List.getD s (Int.toNat v0.snd) (0:UInt8))):Int)-(48:Int))))):Int)∧rE ((wrap i64 (v0.snd+1)):Int)∧True)∧True) (Sum.inl (wrap i64 (wrap i64 (16*v0.fst)+wrap i64 (wrap u8 (E3-(48:Int)))),wrap i64 (v0.snd+1))))) (.cn E4 (.br (decide (E3≥(97:Int))) (.cn E4 (.br (decide (E3≤(102:Int))) (.cn E4 (.nx ((rE (s:List UInt8)∧rE ((wrap i64 (wrap i64 (wrap i64 (16*v0.fst)+wrap i64 (wrap u8 ((↑(UInt8.toNat (List.getD s (Int.toNat v0.snd) (0:UInt8))):Int)-(97:Int))))+10)):Int)∧rE ((wrap i64 (v0.snd+1)):Int)∧True)∧True) (Sum.inl (wrap i64 (wrap i64 (wrap i64 (16*v0.fst)+wrap i64 (wrap u8 (E3-(97:Int))))+10),wrap i64 (v0.snd+1))))) (.lf (Sum.inr (0,false))))) (.lf (Sum.inr (0,false))))))) (.lf (Sum.inr (v0.fst,true))))) T1)) T1)) T1
def Qxa(s:(List UInt8)):(Int×Bool):=(Qbg s).m
abbrev Qg5(s:(List UInt8)):Prop:=(Qbg s).p
def Z0m:LInv:={
 α:=(Int)×(Int)
 F:=fun st a=>([(0,(lk st 0)),(4, .int IntKind.i64 a.1),(5, .int IntKind.i64 a.2)],[])
 a0:=fun st=>((lk st 4).toInt,(lk st 5).toInt)
 ex0:=fun st=>[]++[]
 next:=fun st=>((lk st 4).toInt,(lk st 5).toInt)
 ex:=fun st=>[]++[]}
def Qzc:LInv:={
 α:=(Int)×(Int)
 F:=fun st a=>([(0,(lk st 0)),(6,(lk st 6)),(7, .int IntKind.i64 a.1),(8, .int IntKind.i64 a.2)],[])
 a0:=fun st=>((lk st 7).toInt,(lk st 8).toInt)
 ex0:=fun st=>[]++[]
 next:=fun st=>((lk st 7).toInt,(lk st 8).toInt)
 ex:=fun st=>[]++[]}
def Quy:List (Nat×LInv):=[(6,Z0m),(21,Qzc)]
def Z32:Q0b:=mkP 252 [] true [.one (.str)] [] (fun args rows=>Qg5 (argS args 0)) (fun args rows=>Qxa (argS args 0)) (fun X=> .tup [.int .i64 (X.1), .bool (X.2)]) (fun X=>[])
theorem Qzo:Q04 Tryz.prog Z32:=Q0k Q0i Q0j (.cons Qpe (.nil)) Tryz.func252 Tryz.call252 (fun args rows=>Qbg (argS args 0)) [] Quy 3 (fun _ _ _=>by kernel_rfl) (fun _ _=>rfl) (fun _ _ h=>h) (fun _ X=>by kernel_rfl)
def Qpb(l:(List Q0f))(p:(List UInt8))(z:(Int)×(List Q0t)):Nat:=(l.length-z.1).toNat
def Qa7(l:(List Q0f))(p:(List UInt8)):Tree ((List Q0t)×Bool):=
.br ((↑(List.length l):Int) !=(↑(List.length p):Int)) (.lf ([],false)) (.lp inferInstance (Qpb l p (0,[])+1) ((((Els.Nil (Els.recs RK.vmfleetref1Token l)∨rE (3:Nat))∧rE (l:List (RK.T RK.vmfleetref1Token)))∧rE (p:List UInt8)∧True∧rE (0:Int)∧True)∧rE ([]:List (RK.T RK.vmfleetref1Arg))∧True) (0,[]) fun(v0:Int×List Q0t)=> .br (decide (v0.fst<(↑(List.length l):Int))) (.cn (Nat.beq 3 3&&Nat.blt 0 3&&decide (0≤v0.fst∧v0.fst<(↑(List.length l):Int))) (let E6:=decide (0≤v0.fst∧v0.fst<(↑(List.length p):Int)); .cn E6 (let E3:=List.getD l (Int.toNat v0.fst) (RK.dflt RK.vmfleetref1Token);let E4:=(↑(UInt8.toNat (List.getD p (Int.toNat v0.fst) (0:UInt8))):Int);let E5:=decide (32*(List.length v0.snd+1)≤140737488355328); .br (E4==(114:Int)) (.lv (Qgw E3.text) fun(x0:Int×Bool)=> .br (E3.kind !=1) (.lf (Sum.inr ([],false))) (.br (!x0.snd) (.lf (Sum.inr ([],false))) (.cn E5 (.nx ((((Els.Nil (Els.recs RK.vmfleetref1Token l)∨rE (3:Nat))∧rE (l:List (RK.T RK.vmfleetref1Token)))∧rE (p:List UInt8)∧True∧rE ((wrap i64 (v0.fst+1)):Int)∧True)∧rE ((v0.snd++[{reg:=x0.fst,num:=0,label:=[]}]):List (RK.T RK.vmfleetref1Arg))∧True) (Sum.inl (wrap i64 (v0.fst+1),v0.snd++[{reg:=x0.fst,num:=0,label:=[]}])))))) (let T1:Tree ((Int×List Q0t)⊕(((List Q0t)×Bool))):= .an (Qg5 E3.text) (.lv (Qxa E3.text) fun(x2:Int×Bool)=> .br (E3.kind !=2) (.lf (Sum.inr ([],false))) (.br (!x2.snd) (.lf (Sum.inr ([],false))) (.cn E5 (.nx ((((Els.Nil (Els.recs RK.vmfleetref1Token l)∨rE (3:Nat))∧rE (l:List (RK.T RK.vmfleetref1Token)))∧rE (p:List UInt8)∧True∧rE ((wrap i64 (v0.fst+1)):Int)∧True)∧rE ((v0.snd++[{reg:=0,num:=x2.fst,label:=[]}]):List (RK.T RK.vmfleetref1Arg))∧True) (Sum.inl (wrap i64 (v0.fst+1),v0.snd++[{reg:=0,num:=x2.fst,label:=[]}]))))));let T2:Tree ((Int×List Q0t)⊕(((List Q0t)×Bool))):= .cn E6 (.br (E4==(120:Int)) (.br (E3.kind==1) (.an (Qen E3.text) (.lv (Qwh E3.text) fun(x1:Bool)=> .br x1 (.cn E5 (.nx ((((Els.Nil (Els.recs RK.vmfleetref1Token l)∨rE (3:Nat))∧rE (l:List (RK.T RK.vmfleetref1Token)))∧rE (p:List UInt8)∧True∧rE ((wrap i64 (v0.fst+1)):Int)∧True)∧rE ((v0.snd++[{reg:=0,num:=0,label:=(List.getD l (Int.toNat v0.fst) (RK.dflt RK.vmfleetref1Token)).text}]):List (RK.T RK.vmfleetref1Arg))∧True) (Sum.inl (wrap i64 (v0.fst+1),v0.snd++[{reg:=0,num:=0,label:=E3.text}])))) T1)) T1) T1); .br (E4==(110:Int)) T2 (.br (E4==(120:Int)) T2 (.br (E3.kind !=3) (.lf (Sum.inr ([],false))) (.cn (decide (0≤v0.fst∧v0.fst≤wrap i64 (v0.fst+1)∧wrap i64 (v0.fst+1)≤(↑(List.length p):Int))) (.br (!decide (E3.text=List.take (Int.toNat (wrap i64 (v0.fst+1))-Int.toNat v0.fst) (List.drop (Int.toNat v0.fst) p))) (.lf (Sum.inr ([],false))) (.nx ((((Els.Nil (Els.recs RK.vmfleetref1Token l)∨rE (3:Nat))∧rE (l:List (RK.T RK.vmfleetref1Token)))∧rE (p:List UInt8)∧True∧rE ((wrap i64 (v0.fst+1)):Int)∧True)∧rE v0.snd∧True) (Sum.inl (wrap i64 (v0.fst+1),v0.snd))))))))))) (.lf (Sum.inr (v0.snd,true))))
def Qdr(l:(List Q0f))(p:(List UInt8)):((List Q0t)×Bool):=(Qa7 l p).m
abbrev Q5c(l:(List Q0f))(p:(List UInt8)):Prop:=(Qa7 l p).p
def Qz:LInv:={
 α:=(Int)×(List Q0t)
 F:=fun st a=>([(0,(lk st 0)),(1,(lk st 1)),(6, .all 0),(7, .int IntKind.i64 a.1)],[⟨false,162,3, .recs RK.vmfleetref1Arg a.2⟩])
 a0:=fun st=>((lk st 7).toInt,(Q68 RK.vmfleetref1Arg st.rows (rN st 6)))
 ex0:=fun st=>[]++[(Q0s (lk st 6) (st.rows.length+0))]
 next:=fun st=>((lk st 7).toInt,(Q68 RK.vmfleetref1Arg st.rows (rN st 6)))
 ex:=fun st=>[]++[(Q0s (lk st 6) (st.rows.length+0))]}
def Qre:List (Nat×LInv):=[(5,Qz)]
def Qzg:Q0b:=mkP 212 [] true [.one (.recs .vmfleetref1Token), .one (.str)] [] (fun args rows=>Q5c (argR .vmfleetref1Token args 0) (argS args 1)) (fun args rows=>Qdr (argR .vmfleetref1Token args 0) (argS args 1)) (fun X=> .tup [.all 0, .bool (X.2)]) (fun X=>[⟨false,162,3, .recs .vmfleetref1Arg (X.1)⟩])
theorem Qw8:Q04 Tryz.prog Qzg:=Q0k Q0i Q0j (.cons Qhv (.cons Qu (.cons Qzo (.nil)))) Tryz.func212 Tryz.call212 (fun args rows=>Qa7 (argR .vmfleetref1Token args 0) (argS args 1)) [.row 162 3 (.recs .vmfleetref1Arg)] Qre 3 (fun _ _ _=>by kernel_rfl) (fun _ _=>rfl) (fun _ _ h=>h) (fun _ X=>by kernel_rfl)
def Qse(s:(List UInt8))(z:(List UInt8)×(Int)):Nat:=(s.length-z.2).toNat
def Qbw(s:(List UInt8)):Tree ((List UInt8)×Q08×Bool):=
.lp inferInstance (Qse s (s,0)+1) ((rE (s:List UInt8)∧rE ([]:List UInt8)∧(rE ((nat_lit 0):Nat)∧rE ((nat_lit 0):Nat))∧rE (false:Bool)∧rE (0:Int)∧True)∧(rE ([]:List UInt8)∧rE (0:Int)∧True∧rE (0:Int)∧rE (0:Int)∧rE (0:Int)∧True)∧True) (s,0) fun(v0:List UInt8×Int)=> .br (decide (v0.snd<(↑(List.length v0.fst):Int))) (.cn (decide (0≤v0.snd∧v0.snd<(↑(List.length v0.fst):Int))) (.br ((↑(UInt8.toNat (List.getD v0.fst (Int.toNat v0.snd) (0:UInt8))):Int)==(59:Int)) (.cn (decide ((0:Int)≤(0:Int)∧0≤v0.snd∧v0.snd≤(↑(List.length v0.fst):Int))) (.nx ((rE ((List.take (Int.toNat v0.snd-Int.toNat 0) (List.drop (Int.toNat 0) v0.fst)):List UInt8)∧rE ([]:List UInt8)∧(rE ((nat_lit 0):Nat)∧rE ((nat_lit 0):Nat))∧rE (false:Bool)∧rE ((wrap i64 (v0.snd+1)):Int)∧True)∧(rE ([]:List UInt8)∧rE (0:Int)∧True∧rE (0:Int)∧rE (0:Int)∧rE (0:Int)∧True)∧True) (Sum.inl (List.take (Int.toNat v0.snd-Int.toNat 0) (List.drop (Int.toNat 0) v0.fst),wrap i64 (v0.snd+1))))) (.nx ((rE v0.fst∧rE ([]:List UInt8)∧(rE ((nat_lit 0):Nat)∧rE ((nat_lit 0):Nat))∧rE (false:Bool)∧rE ((wrap i64 (v0.snd+1)):Int)∧True)∧(rE ([]:List UInt8)∧rE (0:Int)∧True∧rE (0:Int)∧rE (0:Int)∧rE (0:Int)∧True)∧True) (Sum.inl (v0.fst,wrap i64 (v0.snd+1)))))) (.an (Qgt v0.fst) (.lv (Qw0 v0.fst) fun(x0:List Q0f×Bool)=> .br (!x0.snd) (.lf (Sum.inr ([],{what:=[],op:=0,l:=[],line:=0,at_:=0,size:=0},false))) (let E9:=List.getD x0.fst (Int.toNat 0) (RK.dflt RK.vmfleetref1Token);let T1:Tree ((List UInt8×Int)⊕(((List UInt8)×Q08×Bool))):= .an (Q5e E9.text) (.lv (Qdx E9.text) fun(x27:List UInt8×Bool)=> .br (!x27.snd) (.lf (Sum.inr ([],{what:=[],op:=0,l:=[],line:=0,at_:=0,size:=0},false))) (let E20:=Int.toNat (↑(List.length x0.fst):Int)-Int.toNat 1;let T6:Tree ((List UInt8×Int)⊕(((List UInt8)×Q08×Bool))):=let E31:=List.take E20 (List.drop (Int.toNat 1) x0.fst); .an (Q5c E31 x27.fst) (.lv (Qdr E31 x27.fst) fun(x28:List Q0t×Bool)=> .br (!x28.snd) (.lf (Sum.inr ([],{what:=[],op:=0,l:=[],line:=0,at_:=0,size:=0},false))) (.an (Q30 E9.text) (.lv (Q7r E9.text) fun(x29:Int)=> .br (decide (E9.text=[(108:UInt8),105])) (.lf (Sum.inr ([],{what:=E9.text,op:=x29,l:=x28.fst,line:=0,at_:=0,size:=2},true))) (.br (decide (E9.text=[(46:UInt8),115,112,97,99,101])) (let E13:=Nat.beq 3 3&&Nat.blt 0 3&&decide ((0:Int)≤(0:Int)∧0<(↑(List.length x28.fst):Int)); .cn E13 (let E21:=List.getD x28.fst (Int.toNat 0) (RK.dflt RK.vmfleetref1Arg); .br (decide (E21.num<0)) (.lf (Sum.inr ([],{what:=[],op:=0,l:=[],line:=0,at_:=0,size:=0},false))) (.cn E13 (.br (decide (E21.num>1024)) (.lf (Sum.inr ([],{what:=[],op:=0,l:=[],line:=0,at_:=0,size:=0},false))) (.cn E13 (.lf (Sum.inr ([],{what:=E9.text,op:=x29,l:=x28.fst,line:=0,at_:=0,size:=E21.num},true)))))))) (.lf (Sum.inr ([],{what:=E9.text,op:=x29,l:=x28.fst,line:=0,at_:=0,size:=1},true))))))); .br (decide ((↑E20:Int)>(0:Int))) (.cn (Nat.beq 3 3&&Nat.blt 0 3&&decide ((0:Int)≤(0:Int)∧0<(↑E20:Int))) (.br (!(List.getD x0.fst (Int.toNat 1+Int.toNat 0) (RK.dflt RK.vmfleetref1Token)).gap) (.lf (Sum.inr ([],{what:=[],op:=0,l:=[],line:=0,at_:=0,size:=0},false))) T6)) T6));let E25:=Int.toNat (↑(List.length x0.fst):Int)-Int.toNat 2;let E8:=(↑E25:Int);let E10:=List.getD x0.fst (Int.toNat 2+Int.toNat 0) (RK.dflt RK.vmfleetref1Token);let E12:=List.getD x0.fst (Int.toNat 1) (RK.dflt RK.vmfleetref1Token);let E16:=Nat.beq 3 3&&Nat.blt 0 3&&decide ((0:Int)≤(0:Int)∧0<(↑(List.length x0.fst):Int));let E17:=Nat.beq 3 3&&Nat.blt 0 3&&decide ((0:Int)≤(1:Int)∧1<(↑(List.length x0.fst):Int));let E19:=Nat.beq 3 3&&Nat.blt 0 3&&decide ((0:Int)≤(2:Int)∧2≤(↑(List.length x0.fst):Int)∧(↑(List.length x0.fst):Int)≤(↑(List.length x0.fst):Int));let E28:=Nat.beq 3 3&&Nat.blt 0 3&&decide ((0:Int)≤(0:Int)∧0<E8);let E30:=decide ((↑(List.length x0.fst):Int)≥(2:Int));let T3:Tree ((List UInt8×Int)⊕(((List UInt8)×Q08×Bool))):= .br ((↑(List.length x0.fst):Int)==(0:Int)) (.lf (Sum.inr ([],{what:=[],op:=0,l:=[],line:=0,at_:=0,size:=0},true))) (.cn E16 (.cn (Nat.beq 3 3&&Nat.blt 0 3&&decide ((0:Int)≤(1:Int)∧1≤(↑(List.length x0.fst):Int)∧(↑(List.length x0.fst):Int)≤(↑(List.length x0.fst):Int))) (.br (decide (E9.text=[(46:UInt8)])) (.br E30 (.cn E17 (.br (!E12.gap) (.cn E17 (.cn (decide (1+List.length E12.text≤maxLen)) (.cn E19 (.an (Q5e ((46:UInt8)::E12.text)) (.lv (Qdx ([(46:UInt8)]++E12.text)) fun(x22:List UInt8×Bool)=> .br (!x22.snd) (.lf (Sum.inr ([],{what:=[],op:=0,l:=[],line:=0,at_:=0,size:=0},false))) (let T7:Tree ((List UInt8×Int)⊕(((List UInt8)×Q08×Bool))):=let E32:=List.take E25 (List.drop (Int.toNat 2) x0.fst); .an (Q5c E32 x22.fst) (.lv (Qdr E32 x22.fst) fun(x23:List Q0t×Bool)=> .br (!x23.snd) (.lf (Sum.inr ([],{what:=[],op:=0,l:=[],line:=0,at_:=0,size:=0},false))) (.an (Q30 ((46:UInt8)::E12.text)) (.lv (Q7r ([(46:UInt8)]++E12.text)) fun(x24:Int)=> .br (decide ([(46:UInt8)]++E12.text=[(46:UInt8),115,112,97,99,101])) (let E14:=Nat.beq 3 3&&Nat.blt 0 3&&decide ((0:Int)≤(0:Int)∧0<(↑(List.length x23.fst):Int)); .cn E14 (let E22:=List.getD x23.fst (Int.toNat 0) (RK.dflt RK.vmfleetref1Arg); .br (decide (E22.num<0)) (.lf (Sum.inr ([],{what:=[],op:=0,l:=[],line:=0,at_:=0,size:=0},false))) (.cn E14 (.br (decide (E22.num>1024)) (.lf (Sum.inr ([],{what:=[],op:=0,l:=[],line:=0,at_:=0,size:=0},false))) (.cn E14 (.lf (Sum.inr ([],{what:=(46:UInt8)::E12.text,op:=x24,l:=x23.fst,line:=0,at_:=0,size:=E22.num},true)))))))) (.lf (Sum.inr ([],{what:=(46:UInt8)::E12.text,op:=x24,l:=x23.fst,line:=0,at_:=0,size:=1},true)))))); .br (decide (E8>(0:Int))) (.cn E28 (.br (!E10.gap) (.lf (Sum.inr ([],{what:=[],op:=0,l:=[],line:=0,at_:=0,size:=0},false))) T7)) T7)))))) T1)) T1) T1))); .br E30 (.cn E17 (.br (decide (E12.text=[(58:UInt8)])) (.cn E16 (.cn E16 (.br (E9.kind !=1) (.lf (Sum.inr ([],{what:=[],op:=0,l:=[],line:=0,at_:=0,size:=0},false))) (.an (Qen E9.text) (.lv (Qwh E9.text) fun(x1:Bool)=> .br (!x1) (.lf (Sum.inr ([],{what:=[],op:=0,l:=[],line:=0,at_:=0,size:=0},false))) (.cn E19 (.br (E8==(0:Int)) (.lf (Sum.inr (E9.text,{what:=[],op:=0,l:=[],line:=0,at_:=0,size:=0},true))) (.cn E28 (.cn (Nat.beq 3 3&&Nat.blt 0 3&&decide ((0:Int)≤(1:Int)∧1≤E8∧E8≤E8)) (let T2:Tree ((List UInt8×Int)⊕(((List UInt8)×Q08×Bool))):= .an (Q5e E10.text) (.lv (Qdx E10.text) fun(x7:List UInt8×Bool)=> .br (!x7.snd) (.lf (Sum.inr ([],{what:=[],op:=0,l:=[],line:=0,at_:=0,size:=0},false))) (let T4:Tree ((List UInt8×Int)⊕(((List UInt8)×Q08×Bool))):=let E26:=List.take (Int.toNat E8-Int.toNat 1) (List.drop (Int.toNat 2+Int.toNat 1) x0.fst); .an (Q5c E26 x7.fst) (.lv (Qdr E26 x7.fst) fun(x8:List Q0t×Bool)=> .br (!x8.snd) (.lf (Sum.inr ([],{what:=[],op:=0,l:=[],line:=0,at_:=0,size:=0},false))) (.an (Q30 E10.text) (.lv (Q7r E10.text) fun(x9:Int)=> .br (decide (E10.text=[(108:UInt8),105])) (.lf (Sum.inr (E9.text,{what:=E10.text,op:=x9,l:=x8.fst,line:=0,at_:=0,size:=2},true))) (.br (decide (E10.text=[(46:UInt8),115,112,97,99,101])) (let E15:=Nat.beq 3 3&&Nat.blt 0 3&&decide ((0:Int)≤(0:Int)∧0<(↑(List.length x8.fst):Int)); .cn E15 (let E23:=List.getD x8.fst (Int.toNat 0) (RK.dflt RK.vmfleetref1Arg); .br (decide (E23.num<0)) (.lf (Sum.inr ([],{what:=[],op:=0,l:=[],line:=0,at_:=0,size:=0},false))) (.cn E15 (.br (decide (E23.num>1024)) (.lf (Sum.inr ([],{what:=[],op:=0,l:=[],line:=0,at_:=0,size:=0},false))) (.cn E15 (.lf (Sum.inr (E9.text,{what:=E10.text,op:=x9,l:=x8.fst,line:=0,at_:=0,size:=E23.num},true)))))))) (.lf (Sum.inr (E9.text,{what:=E10.text,op:=x9,l:=x8.fst,line:=0,at_:=0,size:=1},true))))))); .br (decide ((↑(Int.toNat E8-Int.toNat 1):Int)>(0:Int))) (.cn (Nat.beq 3 3&&Nat.blt 0 3&&decide ((0:Int)≤(0:Int)∧0<(↑(Int.toNat E8-Int.toNat 1):Int))) (.br (!(List.getD x0.fst (Int.toNat 2+Int.toNat 1+Int.toNat 0) (RK.dflt RK.vmfleetref1Token)).gap) (.lf (Sum.inr ([],{what:=[],op:=0,l:=[],line:=0,at_:=0,size:=0},false))) T4)) T4)); .br (decide (E10.text=[(46:UInt8)])) (.br (decide (E8≥(2:Int))) (let E29:=Nat.beq 3 3&&Nat.blt 0 3&&decide ((0:Int)≤(1:Int)∧1<E8); .cn E29 (let E11:=List.getD x0.fst (Int.toNat 2+Int.toNat 1) (RK.dflt RK.vmfleetref1Token); .br (!E11.gap) (.cn E29 (.cn (decide (1+List.length E11.text≤maxLen)) (.cn (Nat.beq 3 3&&Nat.blt 0 3&&decide ((0:Int)≤(2:Int)∧2≤E8∧E8≤E8)) (.an (Q5e ((46:UInt8)::E11.text)) (.lv (Qdx ([(46:UInt8)]++E11.text)) fun(x2:List UInt8×Bool)=> .br (!x2.snd) (.lf (Sum.inr ([],{what:=[],op:=0,l:=[],line:=0,at_:=0,size:=0},false))) (let T5:Tree ((List UInt8×Int)⊕(((List UInt8)×Q08×Bool))):=let E27:=List.take (Int.toNat E8-Int.toNat 2) (List.drop (Int.toNat 2+Int.toNat 2) x0.fst); .an (Q5c E27 x2.fst) (.lv (Qdr E27 x2.fst) fun(x3:List Q0t×Bool)=> .br (!x3.snd) (.lf (Sum.inr ([],{what:=[],op:=0,l:=[],line:=0,at_:=0,size:=0},false))) (.an (Q30 ((46:UInt8)::E11.text)) (.lv (Q7r ([(46:UInt8)]++E11.text)) fun(x4:Int)=> .br (decide ([(46:UInt8)]++E11.text=[(46:UInt8),115,112,97,99,101])) (let E18:=Nat.beq 3 3&&Nat.blt 0 3&&decide ((0:Int)≤(0:Int)∧0<(↑(List.length x3.fst):Int)); .cn E18 (let E24:=List.getD x3.fst (Int.toNat 0) (RK.dflt RK.vmfleetref1Arg); .br (decide (E24.num<0)) (.lf (Sum.inr ([],{what:=[],op:=0,l:=[],line:=0,at_:=0,size:=0},false))) (.cn E18 (.br (decide (E24.num>1024)) (.lf (Sum.inr ([],{what:=[],op:=0,l:=[],line:=0,at_:=0,size:=0},false))) (.cn E18 (.lf (Sum.inr (E9.text,{what:=(46:UInt8)::E11.text,op:=x4,l:=x3.fst,line:=0,at_:=0,size:=E24.num},true)))))))) (.lf (Sum.inr (E9.text,{what:=(46:UInt8)::E11.text,op:=x4,l:=x3.fst,line:=0,at_:=0,size:=1},true)))))); .br (decide ((↑(Int.toNat E8-Int.toNat 2):Int)>(0:Int))) (.cn (Nat.beq 3 3&&Nat.blt 0 3&&decide ((0:Int)≤(0:Int)∧0<(↑(Int.toNat E8-Int.toNat 2):Int))) (.br (!(List.getD x0.fst (Int.toNat 2+Int.toNat 2+Int.toNat 0) (RK.dflt RK.vmfleetref1Token)).gap) (.lf (Sum.inr ([],{what:=[],op:=0,l:=[],line:=0,at_:=0,size:=0},false))) T5)) T5)))))) T2)) T2) T2)))))))))) T3)) T3)))
def Qxu(s:(List UInt8)):((List UInt8)×Q08×Bool):=(Qbw s).m
abbrev Qfx(s:(List UInt8)):Prop:=(Qbw s).p
def Qzk:LInv:={
 α:=(List UInt8)×(Int)
 F:=fun st a=>([(0, .str a.1),(2,(lk st 2)),(3, .ptr 0 0 0),(4,(lk st 4)),(5, .int IntKind.i64 a.2)],[⟨true,160,6, .gen [[(cT st 3 0),(cT st 3 1),(cT st 3 2),(cT st 3 3),(cT st 3 4),(cT st 3 5)]]⟩])
 a0:=fun st=>((lk st 0).toStr,(lk st 5).toInt)
 ex0:=fun st=>[]++[(Q0s (lk st 3) (st.rows.length+0))]
 next:=fun st=>((lk st 0).toStr,(lk st 5).toInt)
 ex:=fun st=>[]++[(Q0s (lk st 3) (st.rows.length+0))]}
def Quf:List (Nat×LInv):=[(2,Qzk)]
def Z3z:Q0b:=mkP 163 [] false [.one (.str)] [] (fun args rows=>Qfx (argS args 0)) (fun args rows=>Qxu (argS args 0)) (fun X=> .tup [.str (X.1), .agg (Q08.cells (X.2.1)), .bool (X.2.2)]) (fun X=>[])
theorem Qzr:Q04 Tryz.prog Z3z:=Q0k Q0i Q0j (.cons Qz7 (.cons Qu (.cons Qyz (.cons Qw8 (.cons Qis (.nil)))))) Tryz.func163 Tryz.call163 (fun args rows=>Qbw (argS args 0)) [.sl (.recs .vmfleetref1Arg) false] Quf 3 (fun _ _ _=>by kernel_rfl) (fun _ _=>rfl) (fun _ _ h=>h) (fun h=>by cases h)
def Qih(l:(List Q1r))(label:(List UInt8))(z:(Int)):Prop:=0≤z∧z≤l.length
def Qbm(l:(List Q1r))(label:(List UInt8))(z:(Int)):Nat:=(l.length-z).toNat
def Qd5(l:(List Q1r))(label:(List UInt8)):Tree (Int×Bool):=
.lp inferInstance (Qbm l label 0+1) ((((Els.Nil (Els.recs RK.apiSymbol l)∨rE (2:Nat))∧rE (l:List (RK.T RK.apiSymbol)))∧rE (label:List UInt8)∧rE (0:Int)∧rE (false:Bool)∧rE (0:Int)∧True)∧True) 0 fun(v0:Int)=> .br (decide (v0<(↑(List.length l):Int))) (let E1:=Nat.beq 2 2&&Nat.blt 0 2&&decide (0≤v0∧v0<(↑(List.length l):Int)); .cn E1 (let E2:=List.getD l (Int.toNat v0) (RK.dflt RK.apiSymbol); .br (decide (E2.Name=label)) (.cn E1 (.lf (Sum.inr (E2.Addr,true)))) (.nx ((((Els.Nil (Els.recs RK.apiSymbol l)∨rE (2:Nat))∧rE (l:List (RK.T RK.apiSymbol)))∧rE (label:List UInt8)∧rE (0:Int)∧rE (false:Bool)∧rE ((wrap i64 (v0+1)):Int)∧True)∧True) (Sum.inl (wrap i64 (v0+1)))))) (.lf (Sum.inr (0,false)))
def Qlg(l:(List Q1r))(label:(List UInt8)):(Int×Bool):=(Qd5 l label).m
def Q31(l:(List Q1r))(label:(List UInt8)):Prop:=
l.length≤1000000000000
theorem Qv4(l:(List Q1r))(label:(List UInt8))(hw:Q31 l label):(Qd5 l label).p:=by
 simp only[Q31]at hw
 unfold Tree.p Qd5
 repeat'(first|refine w_lp (inv:=Qih l label) (μ:=Qbm l label) ?_ (Nat.lt_succ_self _) (fun _ _=> ?_)|exact trivial|refine w_br (fun _=> ?_) (fun _=> ?_)|refine w_cn ?_ ?_|refine w_an ?_ ?_|refine w_lv (fun _ _=> ?_)|refine w_nx ?_|refine w_lf ?_|refine And.intro ?_ ?_)
 all_goals((try simp only[Qih,Qbm]at*);((subst_vars;first|trivial|assumption|omega|((simp(config:={decide:=true,failIfUnchanged:=false}) only[Bool.and_eq_true,Bool.or_eq_true,Bool.and_eq_false_iff,Bool.or_eq_false_iff,Bool.not_eq_true',Bool.not_eq_false',Bool.not_eq_true,Bool.not_eq_false,decide_eq_true_eq,decide_eq_false_iff_not,Q65,Q4,Q60,Q3w,beq_iff_eq,beq_eq_false_iff_ne,bne_iff_ne,bne_eq_false_iff_eq,ne_eq,List.all_cons,List.all_nil,D.plain,List.length_cons,List.length_nil,List.length_append,List.length_set,List.length_replicate,IntKind.wrap_i64,IntKind.wrap_u64,IntKind.wrap_u32,IntKind.wrap_i32,IntKind.wrap_u8,true_and,and_true,or_false,false_or,or_true,true_or,not_true_eq_false,not_false_eq_true,Prod.fst,Prod.snd]at*);first|done|assumption|omega)|((simp(config:={decide:=true,failIfUnchanged:=false}) only[Bool.and_eq_true,Bool.or_eq_true,Bool.and_eq_false_iff,Bool.or_eq_false_iff,Bool.not_eq_true',Bool.not_eq_false',Bool.not_eq_true,Bool.not_eq_false,decide_eq_true_eq,decide_eq_false_iff_not,Q65,Q4,Q60,Q3w,beq_iff_eq,beq_eq_false_iff_ne,bne_iff_ne,bne_eq_false_iff_eq,ne_eq,List.all_cons,List.all_nil,D.plain,List.length_cons,List.length_nil,List.length_append,List.length_set,List.length_replicate,IntKind.wrap_i64,IntKind.wrap_u64,IntKind.wrap_u32,IntKind.wrap_i32,IntKind.wrap_u8,true_and,and_true,or_false,false_or,or_true,true_or,not_true_eq_false,not_false_eq_true,Prod.fst,Prod.snd]at*);simp only[←List.length_pos_iff]at*;omega)|(simp_all;done)|(have:= @Qi9;simp_all;try omega))))
def Qwn:LInv:={
 α:=(Int)
 F:=fun st a=>([(0,(lk st 0)),(1,(lk st 1)),(4,(lk st 4)),(5,(lk st 5)),(6, .int IntKind.i64 a)],[])
 a0:=fun st=>(lk st 6).toInt
 ex0:=fun st=>[]++[]
 next:=fun st=>(lk st 6).toInt
 ex:=fun st=>[]++[]}
def Qrd:List (Nat×LInv):=[(2,Qwn)]
def Z0p:Q0b:=mkP 111 [] true [.one (.recs .apiSymbol), .one (.str)] [] (fun args rows=>Q31 (argR .apiSymbol args 0) (argS args 1)) (fun args rows=>Qlg (argR .apiSymbol args 0) (argS args 1)) (fun X=> .tup [.int .u32 (X.1), .bool (X.2)]) (fun X=>[])
theorem Qlr:Q04 Tryz.prog Z0p:=Q0k Q0i Q0j (.nil) Tryz.func111 Tryz.call111 (fun args rows=>Qd5 (argR .apiSymbol args 0) (argS args 1)) [] Qrd 3 (fun _ _ _=>by kernel_rfl) (fun _ _=>rfl) (fun args rows h=>Qv4 (argR .apiSymbol args 0) (argS args 1) h) (fun _ X=>by kernel_rfl)
def Qyg(src:(List UInt8))(z:(Int)×(Int)×(List Q1r)×(List Q08)):Nat:=((Qrt src).length-z.2.1).toNat
def Qh(src:(List UInt8)):Tree ((List Q1r)×(List Q08)×Q16):=
.br (decide ((↑(List.length src):Int)>(8192:Int))) (.lf ([],[],{Err:=300,Line:=0})) (.an (Qi3 src) (.lv (Qrt src) fun(x0:List (List UInt8))=> .lp inferInstance (Qyg src (0,0,[],[])+1) (((rE ((nat_lit 0):Nat)∧rE ((nat_lit 0):Nat))∧True∧True∧rE (0:Int)∧True∧rE (0:Int)∧True)∧(rE (0:Int)∧rE (0:Int)∧True)∧rE (x0:List (RK.T RK.str))∧rE ([]:List (RK.T RK.apiSymbol))∧rE ([]:List (RK.T RK.vmfleetref1Statement))∧True) (0,0,[],[]) fun(v0:Int×Int×List Q1r×List Q08)=> .br (decide (v0.snd.fst<(↑(List.length x0):Int))) (.cn (Nat.beq 1 1&&Nat.blt 0 1&&decide (0≤v0.snd.fst∧v0.snd.fst<(↑(List.length x0):Int))) (let E3:=List.getD x0 (Int.toNat v0.snd.fst) (RK.dflt RK.str); .an (Qfx E3) (.lv (Qxu E3) fun(x1:List UInt8×Q08×Bool)=> .br (!x1.snd.snd) (.lf (Sum.inr ([],[],{Err:=301,Line:=wrap i64 (v0.snd.fst+1)}))) (let E1:=({Err:=305,Line:=wrap i64 (v0.snd.fst+1)}:Q16);let E2:=decide (72*(List.length v0.snd.snd.snd+1)≤140737488355328);let E4:=decide (wrap i64 (v0.fst+x1.snd.fst.size)>1024); .br (!decide (x1.fst=[])) (.an (Q31 v0.snd.snd.fst x1.fst) (.lv (Qlg v0.snd.snd.fst x1.fst) fun(x2:Int×Bool)=> .br x2.snd (.lf (Sum.inr ([],[],{Err:=303,Line:=wrap i64 (v0.snd.fst+1)}))) (.cn (decide (24*(List.length v0.snd.snd.fst+1)≤140737488355328)) (let E5:=({Name:=x1.fst,Addr:=wrap u32 (wrap i64 (4*v0.fst))}:Q1r); .br (!decide (x1.snd.fst.what=[])) (.cn E2 (.br E4 (.lf (Sum.inr ([],[],E1))) (.nx (((rE ((nat_lit 0):Nat)∧rE ((nat_lit 0):Nat))∧True∧True∧rE ((wrap i64 (v0.fst+x1.snd.fst.size)):Int)∧True∧rE ((wrap i64 (v0.snd.fst+1)):Int)∧True)∧(rE (0:Int)∧rE (0:Int)∧True)∧rE (x0:List (RK.T RK.str))∧rE ((v0.snd.snd.fst++[{Name:=x1.fst,Addr:=wrap u32 (wrap i64 (4*v0.fst))}]):List (RK.T RK.apiSymbol))∧rE ((v0.snd.snd.snd++[{what:=x1.snd.fst.what,op:=x1.snd.fst.op,l:=x1.snd.fst.l,line:=wrap i64 (v0.snd.fst+1),at_:=v0.fst,size:=x1.snd.fst.size}]):List (RK.T RK.vmfleetref1Statement))∧True) (Sum.inl (wrap i64 (v0.fst+x1.snd.fst.size),wrap i64 (v0.snd.fst+1),v0.snd.snd.fst++[E5],v0.snd.snd.snd++[{what:=x1.snd.fst.what,op:=x1.snd.fst.op,l:=x1.snd.fst.l,line:=wrap i64 (v0.snd.fst+1),at_:=v0.fst,size:=x1.snd.fst.size}]))))) (.br (decide (v0.fst>1024)) (.lf (Sum.inr ([],[],E1))) (.nx (((rE ((nat_lit 0):Nat)∧rE ((nat_lit 0):Nat))∧True∧True∧rE v0.fst∧True∧rE ((wrap i64 (v0.snd.fst+1)):Int)∧True)∧(rE (0:Int)∧rE (0:Int)∧True)∧rE (x0:List (RK.T RK.str))∧rE ((v0.snd.snd.fst++[{Name:=x1.fst,Addr:=wrap u32 (wrap i64 (4*v0.fst))}]):List (RK.T RK.apiSymbol))∧rE v0.snd.snd.snd∧True) (Sum.inl (v0.fst,wrap i64 (v0.snd.fst+1),v0.snd.snd.fst++[E5],v0.snd.snd.snd)))))))) (.br (!decide (x1.snd.fst.what=[])) (.cn E2 (.br E4 (.lf (Sum.inr ([],[],E1))) (.nx (((rE ((nat_lit 0):Nat)∧rE ((nat_lit 0):Nat))∧True∧True∧rE ((wrap i64 (v0.fst+x1.snd.fst.size)):Int)∧True∧rE ((wrap i64 (v0.snd.fst+1)):Int)∧True)∧(rE (0:Int)∧rE (0:Int)∧True)∧rE (x0:List (RK.T RK.str))∧rE v0.snd.snd.fst∧rE ((v0.snd.snd.snd++[{what:=x1.snd.fst.what,op:=x1.snd.fst.op,l:=x1.snd.fst.l,line:=wrap i64 (v0.snd.fst+1),at_:=v0.fst,size:=x1.snd.fst.size}]):List (RK.T RK.vmfleetref1Statement))∧True) (Sum.inl (wrap i64 (v0.fst+x1.snd.fst.size),wrap i64 (v0.snd.fst+1),v0.snd.snd.fst,v0.snd.snd.snd++[{what:=x1.snd.fst.what,op:=x1.snd.fst.op,l:=x1.snd.fst.l,line:=wrap i64 (v0.snd.fst+1),at_:=v0.fst,size:=x1.snd.fst.size}]))))) (.br (decide (v0.fst>1024)) (.lf (Sum.inr ([],[],E1))) (.nx (((rE ((nat_lit 0):Nat)∧rE ((nat_lit 0):Nat))∧True∧True∧rE v0.fst∧True∧rE ((wrap i64 (v0.snd.fst+1)):Int)∧True)∧(rE (0:Int)∧rE (0:Int)∧True)∧rE (x0:List (RK.T RK.str))∧rE v0.snd.snd.fst∧rE v0.snd.snd.snd∧True) (Sum.inl (v0.fst,wrap i64 (v0.snd.fst+1),v0.snd.snd.fst,v0.snd.snd.snd))))))))) (.lf (Sum.inr (v0.snd.snd.fst,v0.snd.snd.snd,{Err:=0,Line:=0})))))
def Qw5(src:(List UInt8)):((List Q1r)×(List Q08)×Q16):=(Qh src).m
abbrev Qjw(src:(List UInt8)):Prop:=(Qh src).p
def Z83:LInv:={
 α:=(Int)×(Int)×(List Q1r)×(List Q08)
 F:=fun st a=>([(4, .ptr 0 0 0),(5, .all 2),(6, .all 3),(7, .int IntKind.i64 a.1),(8, .all 1),(9, .int IntKind.i64 a.2.1)],[⟨true,88,2, .gen [[(cT st 4 0),(cT st 4 1)]]⟩,⟨false,9,1,esOf st.rows (rN st 8)⟩,⟨false,225,2, .recs RK.apiSymbol a.2.2.1⟩,⟨false,160,6, .recs RK.vmfleetref1Statement a.2.2.2⟩])
 a0:=fun st=>((lk st 7).toInt,(lk st 9).toInt,(Q68 RK.apiSymbol st.rows (rN st 5)),(Q68 RK.vmfleetref1Statement st.rows (rN st 6)))
 ex0:=fun st=>[]++[(Q0s (lk st 4) (st.rows.length+0)),(Q0s (lk st 8) (st.rows.length+1)),(Q0s (lk st 5) (st.rows.length+2)),(Q0s (lk st 6) (st.rows.length+3))]
 next:=fun st=>((lk st 7).toInt,(lk st 9).toInt,(Q68 RK.apiSymbol st.rows (rN st 5)),(Q68 RK.vmfleetref1Statement st.rows (rN st 6)))
 ex:=fun st=>[]++[(Q0s (lk st 4) (st.rows.length+0)),(Q0s (lk st 8) (st.rows.length+1)),(Q0s (lk st 5) (st.rows.length+2)),(Q0s (lk st 6) (st.rows.length+3))]}
def Z0y:List (Nat×LInv):=[(8,Z83)]
def Za8:Q0b:=mkP 110 [] false [.one (.str)] [] (fun args rows=>Qjw (argS args 0)) (fun args rows=>Qw5 (argS args 0)) (fun X=> .tup [.all 0, .all 1, .agg (Q16.cells (X.2.2))]) (fun X=>[⟨false,225,2, .recs .apiSymbol (X.1)⟩,⟨false,160,6, .recs .vmfleetref1Statement (X.2.1)⟩])
theorem Z9j:Q04 Tryz.prog Za8:=Q0k Q0i Q0j (.cons Z63 (.cons Qzr (.cons Qlr (.nil)))) Tryz.func110 Tryz.call110 (fun args rows=>Qh (argS args 0)) [.row 225 2 (.recs .apiSymbol), .row 160 6 (.recs .vmfleetref1Statement)] Z0y 3 (fun _ _ _=>by kernel_rfl) (fun _ _=>rfl) (fun _ _ h=>h) (fun h=>by cases h)
def Qg0(st:Q08)(v:Int):Tree (Int×Bool):=
.lv (Q29 st.op) fun(x0:Int)=> .lv (Qjy x0) fun(x1:Int×Int)=>let E7:=List.getD st.l (Int.toNat 0) (RK.dflt RK.vmfleetref1Arg);let E8:=List.getD st.l (Int.toNat 1) (RK.dflt RK.vmfleetref1Arg);let E9:=Nat.beq 3 3&&Nat.blt 0 3&&decide ((0:Int)≤(0:Int)∧0<(↑(List.length st.l):Int));let E10:=Nat.beq 3 3&&Nat.blt 0 3&&decide ((0:Int)≤(1:Int)∧1<(↑(List.length st.l):Int));let E11:=List.getD st.l (Int.toNat 2) (RK.dflt RK.vmfleetref1Arg);let E12:=Nat.beq 3 3&&Nat.blt 0 3&&decide ((0:Int)≤(2:Int)∧2<(↑(List.length st.l):Int)); .br (x0==2) (.cn E9 (.cn E10 (.cn E12 (let T2:Tree ((Int×Bool)):= .br (decide (0<x1.fst)) (.lf (0,false)) (.br (decide (0>x1.snd)) (.lf (0,false)) (.lv (Q11 {Op:=st.op,A:=E7.reg,B:=E8.reg,C:=E11.reg,Imm:=wrap i32 0}) fun(x2:Int×Bool)=> .lf (x2.fst,x2.snd))); .br (x0==2) T2 (.br (x0==1) T2 (.br (decide (v<x1.fst)) (.lf (0,false)) (.br (decide (v>x1.snd)) (.lf (0,false)) (.lv (Q11 {Op:=st.op,A:=E7.reg,B:=E8.reg,C:=E11.reg,Imm:=wrap i32 v}) fun(x4:Int×Bool)=> .lf (x4.fst,x4.snd))))))))) (let T1:Tree ((Int×Bool)):= .br (decide (x0≥6)) (.cn E9 (let T5:Tree ((Int×Bool)):= .br (decide (0<x1.fst)) (.lf (0,false)) (.br (decide (0>x1.snd)) (.lf (0,false)) (.lv (Q11 {Op:=st.op,A:=E7.reg,B:=0,C:=0,Imm:=wrap i32 0}) fun(x8:Int×Bool)=> .lf (x8.fst,x8.snd))); .br (x0==2) T5 (.br (x0==1) T5 (.br (decide (v<x1.fst)) (.lf (0,false)) (.br (decide (v>x1.snd)) (.lf (0,false)) (.lv (Q11 {Op:=st.op,A:=E7.reg,B:=0,C:=0,Imm:=wrap i32 v}) fun(x10:Int×Bool)=> .lf (x10.fst,x10.snd))))))) (.br (x0 !=1) (.cn E9 (.cn E10 (let T3:Tree ((Int×Bool)):= .br (decide (0<x1.fst)) (.lf (0,false)) (.br (decide (0>x1.snd)) (.lf (0,false)) (.lv (Q11 {Op:=st.op,A:=E7.reg,B:=E8.reg,C:=0,Imm:=wrap i32 0}) fun(x11:Int×Bool)=> .lf (x11.fst,x11.snd))); .br (x0==2) T3 (.br (x0==1) T3 (.br (decide (v<x1.fst)) (.lf (0,false)) (.br (decide (v>x1.snd)) (.lf (0,false)) (.lv (Q11 {Op:=st.op,A:=E7.reg,B:=E8.reg,C:=0,Imm:=wrap i32 v}) fun(x13:Int×Bool)=> .lf (x13.fst,x13.snd)))))))) (let T6:Tree ((Int×Bool)):= .br (decide (0<x1.fst)) (.lf (0,false)) (.br (decide (0>x1.snd)) (.lf (0,false)) (.lv (Q11 {Op:=st.op,A:=0,B:=0,C:=0,Imm:=wrap i32 0}) fun(x14:Int×Bool)=> .lf (x14.fst,x14.snd))); .br (x0==2) T6 (.br (x0==1) T6 (.br (decide (v<x1.fst)) (.lf (0,false)) (.br (decide (v>x1.snd)) (.lf (0,false)) (.lv (Q11 {Op:=st.op,A:=0,B:=0,C:=0,Imm:=wrap i32 v}) fun(x16:Int×Bool)=> .lf (x16.fst,x16.snd))))))); .br (decide (st.op≥32)) (.br (decide (st.op≤36)) (.cn E9 (.cn E12 (.cn E10 (let T4:Tree ((Int×Bool)):= .br (decide (0<x1.fst)) (.lf (0,false)) (.br (decide (0>x1.snd)) (.lf (0,false)) (.lv (Q11 {Op:=st.op,A:=E7.reg,B:=E11.reg,C:=0,Imm:=wrap i32 0}) fun(x5:Int×Bool)=> .lf (x5.fst,x5.snd))); .br (x0==2) T4 (.br (x0==1) T4 (.br (decide (E8.num<x1.fst)) (.lf (0,false)) (.br (decide (E8.num>x1.snd)) (.lf (0,false)) (.lv (Q11 {Op:=st.op,A:=E7.reg,B:=E11.reg,C:=0,Imm:=wrap i32 E8.num}) fun(x7:Int×Bool)=> .lf (x7.fst,x7.snd))))))))) T1) T1)
def Qkw(st:Q08)(v:Int):(Int×Bool):=(Qg0 st v).m
abbrev Q9b(st:Q08)(v:Int):Prop:=(Qg0 st v).p
def Zca:Q0b:=mkP 112 [] true [.agg Q08.sig, .one (.int .i64)] [] (fun args rows=>Q9b (Q08.of (args.getD 0 .dead).cells) (argI args 1)) (fun args rows=>Qkw (Q08.of (args.getD 0 .dead).cells) (argI args 1)) (fun X=> .tup [.int .u32 (X.1), .bool (X.2)]) (fun X=>[])
theorem Z8i:Q04 Tryz.prog Zca:=Q0k Q0i Q0j (.cons Qe1 (.cons Qna (.cons Qd0 (.nil)))) Tryz.func112 Tryz.call112 (fun args rows=>Qg0 (Q08.of (args.getD 0 .dead).cells) (argI args 1)) [] [] 2 (fun _ _ _=>by kernel_rfl) (fun _ _=>rfl) (fun _ _ h=>h) (fun _ X=>by kernel_rfl)
end
end Go.Proofs.YtdkiadhigcfmkaaGreat

/-
  Functions of the program: models, and that its calls come to them (by a program: gen3.py).
-/
import Derived.Test.YtdkiadhigcfmkaaGreatMachineAppliesBase
import Derived.Test.YtdkiadhigcfmkaaGreatMachineAppliesHand
import Derived.Test.YtdkiadhigcfmkaaGreatMachineAppliesYe
namespace Go.Proofs.YtdkiadhigcfmkaaGreat
open Go Go.GD Go.IntKind
set_option linter.unusedVariables false
set_option linter.unusedSimpArgs false
set_option maxRecDepth 100000
noncomputable section
instance sumInhZd {α β:Type} [Inhabited β]:Inhabited (α⊕β):=⟨.inr default⟩
def Qsg(src:(List UInt8))(z:(Int)×(Int)×(List (List UInt8))):Nat:=(src.length-z.2.1).toNat
def Qag(src:(List UInt8)):Tree (List (List UInt8)):=
.lp inferInstance (Qsg src (0,0,[])+1) ((rE (src:List UInt8)∧True∧True∧rE (0:Int)∧rE (0:Int)∧True)∧rE ([]:List (RK.T RK.str))∧True) (0,0,[]) fun(v0:Int×Int×List (List UInt8))=>let E1:=decide (16*(List.length v0.snd.snd+1)≤140737488355328); .br (decide (v0.snd.fst<(↑(List.length src):Int))) (.cn (decide (0≤v0.snd.fst∧v0.snd.fst<(↑(List.length src):Int))) (.br ((↑(UInt8.toNat (List.getD src (Int.toNat v0.snd.fst) (0:UInt8))):Int)==(10:Int)) (.cn (decide (0≤v0.fst∧v0.fst≤v0.snd.fst∧v0.snd.fst≤(↑(List.length src):Int))) (.cn E1 (.nx ((rE (src:List UInt8)∧True∧True∧rE ((wrap i64 (v0.snd.fst+1)):Int)∧rE ((wrap i64 (v0.snd.fst+1)):Int)∧True)∧rE ((v0.snd.snd++[List.take (Int.toNat v0.snd.fst-Int.toNat v0.fst) (List.drop (Int.toNat v0.fst) src)]):List (RK.T RK.str))∧True) (Sum.inl (wrap i64 (v0.snd.fst+1),wrap i64 (v0.snd.fst+1),v0.snd.snd++[List.take (Int.toNat v0.snd.fst-Int.toNat v0.fst) (List.drop (Int.toNat v0.fst) src)]))))) (.nx ((rE (src:List UInt8)∧True∧True∧rE v0.fst∧rE ((wrap i64 (v0.snd.fst+1)):Int)∧True)∧rE v0.snd.snd∧True) (Sum.inl (v0.fst,wrap i64 (v0.snd.fst+1),v0.snd.snd))))) (.br (decide (v0.fst<(↑(List.length src):Int))) (.cn (decide (0≤v0.fst∧v0.fst≤(↑(List.length src):Int)∧(↑(List.length src):Int)≤(↑(List.length src):Int))) (.cn E1 (.lf (Sum.inr (v0.snd.snd++[List.take (Int.toNat (↑(List.length src):Int)-Int.toNat v0.fst) (List.drop (Int.toNat v0.fst) src)]))))) (.lf (Sum.inr v0.snd.snd)))
def Qpi(src:(List UInt8)):(List (List UInt8)):=(Qag src).m
abbrev Qf5(src:(List UInt8)):Prop:=(Qag src).p
def Z1v:LInv:={
 α:=(Int)×(Int)×(List (List UInt8))
 F:=fun st a=>([(0,(lk st 0)),(2,(lk st 2)),(3, .all 0),(4, .int IntKind.i64 a.1),(5, .int IntKind.i64 a.2.1)],[⟨false,9,1, .recs RK.str a.2.2⟩])
 a0:=fun st=>((lk st 4).toInt,(lk st 5).toInt,(Q47 RK.str st.rows (rN st 3)))
 ex0:=fun st=>[]++[(Q0p (lk st 3) (st.rows.length+0))]
 next:=fun st=>((lk st 4).toInt,(lk st 5).toInt,(Q47 RK.str st.rows (rN st 3)))
 ex:=fun st=>[]++[(Q0p (lk st 3) (st.rows.length+0))]}
def Qwx:List (Nat×LInv):=[(4,Z1v)]
def Z46:Q08:=mkP 162 [] true [.one (.str)] [] (fun args rows=>Qf5 (argS args 0)) (fun args rows=>Qpi (argS args 0)) (fun X=> .all 0) (fun X=>[⟨false,9,1, .recs .str X⟩])
theorem Z3l:Q02 Tryz.prog Z46:=Q0j Q0f Q0g (.nil) Tryz.func162 Tryz.call162 (fun args rows=>Qag (argS args 0)) [.row 9 1 (.recs .str)] Qwx 3 (fun _ _ _=>by kernel_rfl) (fun _ _=>rfl) (fun _ _ h=>h) (fun _ X=>by kernel_rfl)
def Qnu(c:Int):Tree Bool:=
.br (decide (c≥97)) (.lf (decide (c≤122))) (.lf false)
def Qd1(c:Int):Bool:=(Qnu c).m
def Z2o:Q08:=mkR 249 [] true [.one (.int .u8)] [] (fun args rows=>Qd1 (argI args 0)) (fun X=> .bool X) (fun X=>[])
theorem Qlb:Q02 Tryz.prog Z2o:=Q0q Q0f Q0g (.nil) Tryz.func249 Tryz.call249 (fun args rows=>Qnu (argI args 0)) [] [] 2 (fun _ _ _=>by kernel_rfl) (fun _ _=>rfl) (fun _ _=>Tree.free_ok (by kernel_rfl)) (fun _ X=>by kernel_rfl)
def Qrp(c:Int):Tree Bool:=
.br (decide (c≥48)) (.lf (decide (c≤57))) (.lf false)
def Q93(c:Int):Bool:=(Qrp c).m
def Z7p:Q08:=mkR 250 [] true [.one (.int .u8)] [] (fun args rows=>Q93 (argI args 0)) (fun X=> .bool X) (fun X=>[])
theorem Qmu:Q02 Tryz.prog Z7p:=Q0q Q0f Q0g (.nil) Tryz.func250 Tryz.call250 (fun args rows=>Qrp (argI args 0)) [] [] 2 (fun _ _ _=>by kernel_rfl) (fun _ _=>rfl) (fun _ _=>Tree.free_ok (by kernel_rfl)) (fun _ X=>by kernel_rfl)
def Qqf(s:(List UInt8))(z:(Bool)×(Int)×(List Q0e)):Nat:=(s.length-z.2.1).toNat
def Qqb(s:(List UInt8))(v0:Bool×Int×List Q0e)(z:(Int)):Nat:=(s.length-z).toNat
def Qqe(s:(List UInt8))(v0:Bool×Int×List Q0e)(z:(Int)):Nat:=(s.length-z).toNat
def Q7w(s:(List UInt8)):Tree ((List Q0e)×Bool):=
.lp inferInstance (Qqf s (true,0,[])+1) ((rE (s:List UInt8)∧True∧rE (true:Bool)∧rE (0:Int)∧True)∧rE ([]:List (RK.T RK.vmfleetref1Token))∧True) (true,0,[]) fun(v0:Bool×Int×List Q0e)=> .br (decide (v0.snd.fst<(↑(List.length s):Int))) (.cn (decide (0≤v0.snd.fst∧v0.snd.fst<(↑(List.length s):Int))) (let E7:=(↑(UInt8.toNat (List.getD s (Int.toNat v0.snd.fst) (0:UInt8))):Int); .br (E7==(32:Int)) (.nx ((rE (s:List UInt8)∧True∧rE (true:Bool)∧rE ((wrap i64 (v0.snd.fst+1)):Int)∧True)∧rE v0.snd.snd∧True) (Sum.inl (true,wrap i64 (v0.snd.fst+1),v0.snd.snd))) (.lv (Qd1 E7) fun(x0:Bool)=>let E10:=decide (32*(List.length v0.snd.snd+1)≤140737488355328);let E13:=List.drop (Int.toNat v0.snd.fst) s; .br x0 (.lp inferInstance (Qqb s v0 v0.snd.fst+1) ((rE (s:List UInt8)∧True∧rE v0.fst∧rE v0.snd.fst∧rE v0.snd.fst∧True)∧rE v0.snd.snd∧True) v0.snd.fst fun(v1:Int)=>let T3:Tree ((Int)⊕((Bool×Int×List Q0e)⊕(((List Q0e)×Bool)))):= .cn (decide (0≤v0.snd.fst∧v0.snd.fst≤v1∧v1≤(↑(List.length s):Int))) (.cn E10 (.nx ((rE (s:List UInt8)∧True∧rE (false:Bool)∧rE (v1:Int)∧True)∧rE ((v0.snd.snd++[{kind:=1,text:=List.take (Int.toNat v1-Int.toNat v0.snd.fst) (List.drop (Int.toNat v0.snd.fst) s),gap:=v0.fst}]):List (RK.T RK.vmfleetref1Token))∧True) (Sum.inr (Sum.inl (false,v1,v0.snd.snd++[{kind:=1,text:=List.take (Int.toNat v1-Int.toNat v0.snd.fst) E13,gap:=v0.fst}]))))); .br (decide (v1<(↑(List.length s):Int))) (let E11:=decide (0≤v1∧v1<(↑(List.length s):Int)); .cn E11 (let E8:=(↑(UInt8.toNat (List.getD s (Int.toNat v1) (0:UInt8))):Int); .lv (Qd1 E8) fun(x1:Bool)=>let T5:Tree ((Int)⊕((Bool×Int×List Q0e)⊕(((List Q0e)×Bool)))):= .nx ((rE (s:List UInt8)∧True∧rE v0.fst∧rE ((wrap i64 (v1+1)):Int)∧rE v0.snd.fst∧True)∧rE v0.snd.snd∧True) (Sum.inl (wrap i64 (v1+1))); .br x1 T5 (.cn E11 (.lv (Q93 E8) fun(x2:Bool)=> .br x2 T5 (.cn E11 (.br (E8==(95:Int)) T5 T3)))))) T3) (.lv (Q93 E7) fun(x3:Bool)=>let T2:Tree ((Bool×Int×List Q0e)⊕(((List Q0e)×Bool))):= .lp inferInstance (Qqe s v0 (wrap i64 (v0.snd.fst+1))+1) ((rE (s:List UInt8)∧True∧rE v0.fst∧rE ((wrap i64 (v0.snd.fst+1)):Int)∧rE v0.snd.fst∧True)∧rE v0.snd.snd∧True) (wrap i64 (v0.snd.fst+1)) fun(v1:Int)=>let T4:Tree ((Int)⊕((Bool×Int×List Q0e)⊕(((List Q0e)×Bool)))):= .cn (decide (0≤v0.snd.fst∧v0.snd.fst≤v1∧v1≤(↑(List.length s):Int))) (.cn E10 (.nx ((rE (s:List UInt8)∧True∧rE (false:Bool)∧rE (v1:Int)∧True)∧rE ((v0.snd.snd++[{kind:=2,text:=List.take (Int.toNat v1-Int.toNat v0.snd.fst) (List.drop (Int.toNat v0.snd.fst) s),gap:=v0.fst}]):List (RK.T RK.vmfleetref1Token))∧True) (Sum.inr (Sum.inl (false,v1,v0.snd.snd++[{kind:=2,text:=List.take (Int.toNat v1-Int.toNat v0.snd.fst) E13,gap:=v0.fst}]))))); .br (decide (v1<(↑(List.length s):Int))) (let E12:=decide (0≤v1∧v1<(↑(List.length s):Int)); .cn E12 (let E9:=(↑(UInt8.toNat (List.getD s (Int.toNat v1) (0:UInt8))):Int); .lv (Qd1 E9) fun(x4:Bool)=>let T6:Tree ((Int)⊕((Bool×Int×List Q0e)⊕(((List Q0e)×Bool)))):= .nx ((rE (s:List UInt8)∧True∧rE v0.fst∧rE ((wrap i64 (v1+1)):Int)∧rE v0.snd.fst∧True)∧rE v0.snd.snd∧True) (Sum.inl (wrap i64 (v1+1))); .br x4 T6 (.cn E12 (.lv (Q93 E9) fun(x5:Bool)=> .br x5 T6 (.cn E12 (.br (E9==(95:Int)) T6 T4)))))) T4; .br x3 T2 (.br (E7==(45:Int)) T2 (let T1:Tree ((Bool×Int×List Q0e)⊕(((List Q0e)×Bool))):= .cn (decide (0≤v0.snd.fst∧v0.snd.fst≤wrap i64 (v0.snd.fst+1)∧wrap i64 (v0.snd.fst+1)≤(↑(List.length s):Int))) (.cn E10 (.nx ((rE (s:List UInt8)∧True∧rE (false:Bool)∧rE ((wrap i64 (v0.snd.fst+1)):Int)∧True)∧rE ((v0.snd.snd++[{kind:=3,text:=List.take (Int.toNat (wrap i64 (v0.snd.fst+1))-Int.toNat v0.snd.fst) (List.drop (Int.toNat v0.snd.fst) s),gap:=v0.fst}]):List (RK.T RK.vmfleetref1Token))∧True) (Sum.inl (false,wrap i64 (v0.snd.fst+1),v0.snd.snd++[{kind:=3,text:=List.take (Int.toNat (wrap i64 (v0.snd.fst+1))-Int.toNat v0.snd.fst) E13,gap:=v0.fst}])))); .br (E7==(44:Int)) T1 (.br (E7==(58:Int)) T1 (.br (E7==(40:Int)) T1 (.br (E7==(41:Int)) T1 (.br (E7==(46:Int)) T1 (.lf (Sum.inr ([],false))))))))))))) (.lf (Sum.inr (v0.snd.snd,true)))
def Qu0(s:(List UInt8)):((List Q0e)×Bool):=(Q7w s).m
abbrev Qdd(s:(List UInt8)):Prop:=(Q7w s).p
def Qx9:LInv:={
 α:=(Bool)×(Int)×(List Q0e)
 F:=fun st a=>([(0,(lk st 0)),(4, .all 0),(5, .bool a.1),(6, .int IntKind.i64 a.2.1)],[⟨false,263,3, .recs RK.vmfleetref1Token a.2.2⟩])
 a0:=fun st=>((lk st 5).toBool,(lk st 6).toInt,(Q47 RK.vmfleetref1Token st.rows (rN st 4)))
 ex0:=fun st=>[]++[(Q0p (lk st 4) (st.rows.length+0))]
 next:=fun st=>((lk st 5).toBool,(lk st 6).toInt,(Q47 RK.vmfleetref1Token st.rows (rN st 4)))
 ex:=fun st=>[]++[(Q0p (lk st 4) (st.rows.length+0))]}
def Qyw:LInv:={
 α:=(Int)
 F:=fun st a=>([(0,(lk st 0)),(4, .all 0),(5,(lk st 5)),(6, .int IntKind.i64 a),(8,(lk st 8))],[⟨false,263,3,esOf st.rows (rN st 4)⟩])
 a0:=fun st=>(lk st 6).toInt
 ex0:=fun st=>[]++[(Q0p (lk st 4) (st.rows.length+0))]
 next:=fun st=>(lk st 6).toInt
 ex:=fun st=>[]++[(Q0p (lk st 4) (st.rows.length+0))]}
def Qx8:LInv:={
 α:=(Int)
 F:=fun st a=>([(0,(lk st 0)),(4, .all 0),(5,(lk st 5)),(6, .int IntKind.i64 a),(8,(lk st 8))],[⟨false,263,3,esOf st.rows (rN st 4)⟩])
 a0:=fun st=>(lk st 6).toInt
 ex0:=fun st=>[]++[(Q0p (lk st 4) (st.rows.length+0))]
 next:=fun st=>(lk st 6).toInt
 ex:=fun st=>[]++[(Q0p (lk st 4) (st.rows.length+0))]}
def Qsc:List (Nat×LInv):=[(4,Qx9),(12,Qyw),(17,Qx8)]
def Z3q:Q08:=mkP 209 [] true [.one (.str)] [] (fun args rows=>Qdd (argS args 0)) (fun args rows=>Qu0 (argS args 0)) (fun X=> .tup [.all 0, .bool (X.2)]) (fun X=>[⟨false,263,3, .recs .vmfleetref1Token (X.1)⟩])
theorem Qyq:Q02 Tryz.prog Z3q:=Q0j Q0f Q0g (.cons Qlb (.cons Qmu (.nil))) Tryz.func209 Tryz.call209 (fun args rows=>Q7w (argS args 0)) [.row 263 3 (.recs .vmfleetref1Token)] Qsc 3 (fun _ _ _=>by kernel_rfl) (fun _ _=>rfl) (fun _ _ h=>h) (fun _ X=>by kernel_rfl)
 def digT (p:Int→Prop) (r:Int→List UInt8) (n:Int):Tree (List UInt8):=
 .br (decide (n<(10:Int))) (.lf ([(fun(n:Int)=>UInt8.ofNat (Int.toNat n)) (IntKind.wrap IntKind.u8 (IntKind.wrap IntKind.u64 ((48:Int)+n)))])) (.an (p (IntKind.wrap IntKind.u64 (Int.tdiv n (10:Int)))) (.lv (r (IntKind.wrap IntKind.u64 (Int.tdiv n (10:Int)))) fun(x0:List UInt8)=> .cn (decide (List.length x0+List.length [(fun(n:Int)=>UInt8.ofNat (Int.toNat n)) (IntKind.wrap IntKind.u8 (IntKind.wrap IntKind.u64 ((48:Int)+Int.tmod n (10:Int))))]≤maxLen)) (.lf (x0++[(fun(n:Int)=>UInt8.ofNat (Int.toNat n)) (IntKind.wrap IntKind.u8 (IntKind.wrap IntKind.u64 ((48:Int)+Int.tmod n (10:Int))))]))))
 def digF:Nat→Int→List UInt8
   |0,_=>[]
   |k+1,n=>(digT (fun _=>True) (digF k) n).m
 def digP (k:Nat) (n:Int):Prop:=0≤n∧n<10^k∧n<18446744073709551616∧0<k∧k≤30
 def digM (k:Nat):Q08:=mkP 109 [] true [.one (.int .u64)] [] (fun args rows=>digP k (argI args 0)) (fun args rows=>digF k (argI args 0)) (fun X=> .str X) (fun X=>[])
 theorem digF_len: ∀k n,(digF k n).length≤k
   |0,_=>Nat.le_refl _
   | k+1,n=>by
     show(bif decide (n<10) then _ else letv (digF k _) fun x0=>x0++_).length≤k+1
     have:=digF_len k (IntKind.wrap IntKind.u64 (Int.tdiv n 10))
     cases decide (n<10)
     · simp [letv,Tree.m];omega
     · simp [Tree.m]
 theorem digM_ok: ∀k,Q02 Tryz.prog (digM k)
   |0=>Z4l Tryz.call109 (fun args rows h=>absurd h.2.2.2.1 (Nat.lt_irrefl 0)) (fun _ X=>by kernel_rfl)
   | k + 1=>by
     refine Q0j Q0f Q0g (.cons (digM_ok k) .nil) Tryz.func109 Tryz.call109 (fun args rows=>digT (digP k) (digF k) (argI args 0)) [] [] 2 (fun _ _ _=>by kernel_rfl) (fun _ _=>rfl) (fun args rows h=> ?_) (fun _ X=>by kernel_rfl)
     obtain⟨h0,h1,h2,h3,h4⟩:=h
     generalize argI args 0=n at*
     refine w_br (fun _=>trivial) (fun hn=> ?_)
     have hn:=of_decide_eq_false hn
     have e:IntKind.wrap IntKind.u64 (Int.tdiv n 10)=n/10:=by rw[IntKind.wrap_u64,Int.tdiv_eq_ediv_of_nonneg h0];omega
     refine w_an (show digP k _ from ?_) (w_lv fun x hx=>w_cn (decide_eq_true ?_) trivial)
     · rw[e]
       rw[Int.pow_succ]at h1
       have hk:0<k:=by
         rcases Nat.eq_zero_or_pos k with rfl|h
         · simp at h1;omega
         · exact h
       exact⟨by omega,by omega,by omega,hk,by omega⟩
     · have:=digF_len k (IntKind.wrap IntKind.u64 (Int.tdiv n 10))
       rw[←hx]at this
       simp [maxLen];omega
def Q98(n:Int):(List UInt8):=
digF 20 n
def Q1w(n:Int):Prop:=
0≤n∧n<18446744073709551616
def Qhx(n:Int):List D:=[.int .u64 n]
def Qhg(n:Int):List Row:=[]
def Qcc(X:(List UInt8)):D:= .str X
def Qce(X:(List UInt8)):List Row:=[]
def Qie:List PT:=[.one (.int .u64)]
def Qhf:List RT:=[]
def Qu1(args:List D)(rows:List Row):(List UInt8):=Q98 (argI args 0)
def Qwk(args:List D)(rows:List Row):Prop:=Q1w (argI args 0)
def Z3h:Q08:=mkP 109 [] true Qie Qhf Qwk Qu1 Qcc Qce
theorem Qpz(n:Int)(hw:Q1w n):Q31 Tryz.prog 109 (Qhx n) (Qhg n) (Qcc (Q98 n)) (Qce (Q98 n)):=by
 have h20:(18446744073709551616:Int)≤10^20:=by decide
 exact mkP_calls (args:=[.int .u64 n]) (rows:=[]) (digM_ok 20) (by kernel_rfl) ⟨hw.1,Int.lt_of_lt_of_le hw.2 h20,hw.2,by decide,by decide⟩
set_option maxRecDepth 100000 in
theorem Qso(args:List D)(rows:List Row):Qi0 Qie args 0=Qhx (argI args 0):=by kernel_rfl
set_option maxRecDepth 100000 in
theorem Qqc(args:List D)(rows:List Row):Q6e Qhf rows 0=Qhg (argI args 0):=by kernel_rfl
set_option maxRecDepth 100000 in
theorem Qx3(X:(List UInt8)):(ffB (Qcc X)&&ffBR (Qce X))=true:=by kernel_rfl
theorem Qyt:Q02 Tryz.prog Z3h:=Z4l Tryz.call109 (fun args rows hp=>by rw[Qso args rows,Qqc args rows];exact Qpz (argI args 0) hp) (fun _ X=>Qx3 X)
def Q45(n:Int):Tree (List UInt8):=
.br (decide (n<0)) (let E1:=wrap u64 (wrap u64 (wrap i64 (0-wrap i64 (n+1)))+1); .an (Q1w E1) (.lv (Q98 E1) fun(x0:List UInt8)=> .cn (decide (1+List.length x0≤maxLen)) (.lf ((45:UInt8)::x0)))) (.an (Q1w (wrap u64 n)) (.lv (Q98 (wrap u64 n)) fun(x1:List UInt8)=> .lf x1))
def Qiz(n:Int):(List UInt8):=(Q45 n).m
abbrev Qaz(n:Int):Prop:=(Q45 n).p
def Qya:Q08:=mkP 48 [] true [.one (.int .i64)] [] (fun args rows=>Qaz (argI args 0)) (fun args rows=>Qiz (argI args 0)) (fun X=> .str X) (fun X=>[])
theorem Qv3:Q02 Tryz.prog Qya:=Q0j Q0f Q0g (.cons Qyt (.nil)) Tryz.func48 Tryz.call48 (fun args rows=>Q45 (argI args 0)) [] [] 2 (fun _ _ _=>by kernel_rfl) (fun _ _=>rfl) (fun _ _ h=>h) (fun _ X=>by kernel_rfl)
def Q94(r:Int):Tree (List UInt8):=
.an (Qaz r) (.lv (Qiz r) fun(x0:List UInt8)=> .cn (decide (1+List.length x0≤maxLen)) (.lf ((114:UInt8)::x0)))
def Zbu(r:Int):(List UInt8):=(Q94 r).m
abbrev Qiv(r:Int):Prop:=(Q94 r).p
def Zef:Q08:=mkP 264 [] true [.one (.int .i64)] [] (fun args rows=>Qiv (argI args 0)) (fun args rows=>Zbu (argI args 0)) (fun X=> .str X) (fun X=>[])
theorem Z8o:Q02 Tryz.prog Zef:=Q0j Q0f Q0g (.cons Qv3 (.nil)) Tryz.func264 Tryz.call264 (fun args rows=>Q94 (argI args 0)) [] [] 2 (fun _ _ _=>by kernel_rfl) (fun _ _=>rfl) (fun _ _ h=>h) (fun _ X=>by kernel_rfl)
def Qkc(s:(List UInt8))(z:(Int)):Prop:=0≤z∧z≤16
def Qaa(s:(List UInt8))(z:(Int)):Nat:=(16-z).toNat
def Q5x(s:(List UInt8)):Tree (Int×Bool):=
.lp inferInstance (Qaa s 0+1) ((rE (s:List UInt8)∧rE (0:Int)∧rE (false:Bool)∧rE (0:Int)∧True)∧True) 0 fun(v0:Int)=> .br (decide (v0<16)) (.an (Qiv v0) (.lv (Zbu v0) fun(x0:List UInt8)=> .br (decide (s=x0)) (.lf (Sum.inr (v0,true))) (.nx ((rE (s:List UInt8)∧rE (0:Int)∧rE (false:Bool)∧rE ((wrap i64 (v0+1)):Int)∧True)∧True) (Sum.inl (wrap i64 (v0+1)))))) (.lf (Sum.inr (0,false)))
def Qcr(s:(List UInt8)):(Int×Bool):=(Q5x s).m
theorem Qlh(s:(List UInt8)):(Q5x s).p:=by
 unfold Tree.p Q5x
 have dp: ∀x,Q1w (IntKind.wrap .u64 x):=fun x=>by unfold Q1w;rw[IntKind.wrap_u64];omega
 have dl: ∀x,(Q98 x).length≤20:=fun x=>digF_len 20 x
 have hd: ∀x,(Q45 x).w (fun r=>r.length≤21):=fun x=>by
   unfold Q45
   refine w_br (fun _=>w_an (dp _) (w_lv fun x0 h0=>w_cn (decide_eq_true ?_) ?_)) (fun _=>w_an (dp _) (w_lv fun x1 h1=> ?_))
   · have:=dl (IntKind.wrap .u64 (IntKind.wrap .u64 (IntKind.wrap .i64 (0-IntKind.wrap .i64 (x+1)))+1));rw[←h0]at this;simp [maxLen];omega
   · have:=dl (IntKind.wrap .u64 (IntKind.wrap .u64 (IntKind.wrap .i64 (0-IntKind.wrap .i64 (x+1)))+1));rw[←h0]at this;show(_::x0).length≤21;simp;omega
   · rw[h1];exact Nat.le_trans (dl _) (by decide)
 have hr: ∀x,(Q94 x).p:=fun x=>by
   unfold Tree.p Q94
   refine w_an (Tree.pp (hd x)).1 (w_lv fun x0 h0=>w_cn (decide_eq_true ?_) trivial)
   have:(Qiz x).length≤21:=(Tree.pp (hd x)).2
   rw[←h0]at this;simp [maxLen];omega
 refine w_lp (inv:=Qkc s) (μ:=Qaa s) ⟨by decide,by decide⟩ (Nat.lt_succ_self _) (fun z hz=> ?_)
 obtain⟨z1,z2⟩:=hz
 refine w_br (fun hb=>w_an (hr _) (w_lv fun x0 _=>w_br (fun _=>trivial) (fun _=>w_nx ?_))) (fun _=>trivial)
 have hb:=of_decide_eq_true hb
 show(0≤IntKind.i64.wrap (z+1)∧IntKind.i64.wrap (z+1)≤16)∧(16-IntKind.i64.wrap (z+1)).toNat<(16-z).toNat
 rw[IntKind.wrap_i64];omega
def Qoq:LInv:={
 α:=(Int)
 F:=fun st a=>([(0,(lk st 0)),(2,(lk st 2)),(3,(lk st 3)),(4, .int IntKind.i64 a)],[])
 a0:=fun st=>(lk st 4).toInt
 ex0:=fun st=>[]++[]
 next:=fun st=>(lk st 4).toInt
 ex:=fun st=>[]++[]}
def Qkj:List (Nat×LInv):=[(2,Qoq)]
def Qq9:Q08:=mkR 251 [] true [.one (.str)] [] (fun args rows=>Qcr (argS args 0)) (fun X=> .tup [.int .i64 (X.1), .bool (X.2)]) (fun X=>[])
theorem Qek:Q02 Tryz.prog Qq9:=Q0q Q0f Q0g (.cons Z8o (.nil)) Tryz.func251 Tryz.call251 (fun args rows=>Q5x (argS args 0)) [] Qkj 3 (fun _ _ _=>by kernel_rfl) (fun _ _=>rfl) (fun args rows=>Qlh (argS args 0)) (fun _ X=>by kernel_rfl)
def Qdq(s:(List UInt8)):Tree Bool:=
.lv (Qcr s) fun(x0:Int×Bool)=> .br (decide ((↑(List.length s):Int)≥(1:Int))) (.br (decide ((↑(List.length s):Int)≤(12:Int))) (.cn (decide ((0:Int)≤(0:Int)∧0<(↑(List.length s):Int))) (.lv (Qd1 (↑(UInt8.toNat (List.getD s (Int.toNat 0) (0:UInt8))):Int)) fun(x1:Bool)=> .br x1 (.lf (!x0.snd)) (.lf false))) (.lf false)) (.lf false)
def Qvr(s:(List UInt8)):Bool:=(Qdq s).m
abbrev Qbe(s:(List UInt8)):Prop:=(Qdq s).p
def Za7:Q08:=mkP 210 [] true [.one (.str)] [] (fun args rows=>Qbe (argS args 0)) (fun args rows=>Qvr (argS args 0)) (fun X=> .bool X) (fun X=>[])
theorem Qrl:Q02 Tryz.prog Za7:=Q0j Q0f Q0g (.cons Qek (.cons Qlb (.nil))) Tryz.func210 Tryz.call210 (fun args rows=>Qdq (argS args 0)) [] [] 2 (fun _ _ _=>by kernel_rfl) (fun _ _=>rfl) (fun _ _ h=>h) (fun _ X=>by kernel_rfl)
def Q5l(op:Int):Tree (List UInt8):=
let T1:Tree ((List UInt8)):=let T3:Tree ((List UInt8)):= .br (op==48) (.lf ([(106:UInt8),97,108])) (.br (op==49) (.lf ([(106:UInt8),97,108,114])) (.br (decide (op≥56)) (.br (decide (op≤64)) (.cn (Nat.beq 1 1&&Nat.blt 0 1&&decide (0≤wrap i64 (op-56)∧wrap i64 (op-56)<(↑(9):Int))) (.lf (List.getD [[(101:UInt8),99,97,108,108],[(101:UInt8),114,101,116],[(99:UInt8),115,114,114],[(99:UInt8),115,114,119],[(105:UInt8),110],[(111:UInt8),117,116],[(119:UInt8),102,105],[(102:UInt8),108,117,115,104],[(104:UInt8),97,108,116]] (Int.toNat (wrap i64 (op-56))) (RK.dflt RK.str)))) (.lf ([]))) (.lf ([])))); .br (decide (op≥40)) (.br (decide (op≤45)) (.cn (Nat.beq 1 1&&Nat.blt 0 1&&decide (0≤wrap i64 (op-40)∧wrap i64 (op-40)<(↑(6):Int))) (.lf (List.getD [[(98:UInt8),101,113],[(98:UInt8),110,101],[(98:UInt8),108,116],[(98:UInt8),103,101],[(98:UInt8),108,116,117],[(98:UInt8),103,101,117]] (Int.toNat (wrap i64 (op-40))) (RK.dflt RK.str)))) T3) T3;let T2:Tree ((List UInt8)):=let T4:Tree ((List UInt8)):= .br (decide (op≥32)) (.br (decide (op≤36)) (.cn (Nat.beq 1 1&&Nat.blt 0 1&&decide (0≤wrap i64 (op-32)∧wrap i64 (op-32)<(↑(5):Int))) (.lf (List.getD [[(108:UInt8),119],[(108:UInt8),98],[(108:UInt8),98,117],[(115:UInt8),119],[(115:UInt8),98]] (Int.toNat (wrap i64 (op-32))) (RK.dflt RK.str)))) T1) T1; .br (decide (op≥16)) (.br (decide (op≤24)) (.cn (Nat.beq 1 1&&Nat.blt 0 1&&decide (0≤wrap i64 (op-16)∧wrap i64 (op-16)<(↑(9):Int))) (.lf (List.getD [[(97:UInt8),100,100,105],[(97:UInt8),110,100,105],[(111:UInt8),114,105],[(120:UInt8),111,114,105],[(115:UInt8),104,108,105],[(115:UInt8),104,114,105],[(115:UInt8),97,114,105],[(115:UInt8),108,116,105],[(108:UInt8),117,105]] (Int.toNat (wrap i64 (op-16))) (RK.dflt RK.str)))) T4) T4; .br (decide (op≥1)) (.br (decide (op≤13)) (.cn (Nat.beq 1 1&&Nat.blt 0 1&&decide (0≤wrap i64 (op-1)∧wrap i64 (op-1)<(↑(13):Int))) (.lf (List.getD [[(97:UInt8),100,100],[(115:UInt8),117,98],[(97:UInt8),110,100],[(111:UInt8),114],[(120:UInt8),111,114],[(115:UInt8),104,108],[(115:UInt8),104,114],[(115:UInt8),97,114],[(109:UInt8),117,108],[(100:UInt8),105,118],[(114:UInt8),101,109],[(115:UInt8),108,116],[(115:UInt8),108,116,117]] (Int.toNat (wrap i64 (op-1))) (RK.dflt RK.str)))) T2) T2
def Qnf(op:Int):(List UInt8):=(Q5l op).m
abbrev Q9e(op:Int):Prop:=(Q5l op).p
def Qub:Q08:=mkP 253 [] true [.one (.int .i64)] [] (fun args rows=>Q9e (argI args 0)) (fun args rows=>Qnf (argI args 0)) (fun X=> .str X) (fun X=>[])
theorem Qsz:Q02 Tryz.prog Qub:=Q0j Q0f Q0g (.nil) Tryz.func253 Tryz.call253 (fun args rows=>Q5l (argI args 0)) [] [] 2 (fun _ _ _=>by kernel_rfl) (fun _ _=>rfl) (fun _ _ h=>h) (fun _ X=>by kernel_rfl)
def Qkg(s:(List UInt8))(z:(Int)):Nat:=(65-z).toNat
def Q53(s:(List UInt8)):Tree Int:=
.lp inferInstance (Qkg s 1+1) ((rE (s:List UInt8)∧rE (0:Int)∧rE (1:Int)∧True)∧True) 1 fun(v0:Int)=> .br (decide (v0≤64)) (.lv (Qg6 v0) fun(x0:Int)=>let T1:Tree ((Int)⊕(Int)):= .nx ((rE (s:List UInt8)∧rE (0:Int)∧rE ((wrap i64 (v0+1)):Int)∧True)∧True) (Sum.inl (wrap i64 (v0+1))); .br (decide (x0>0)) (.an (Q9e v0) (.lv (Qnf v0) fun(x1:List UInt8)=> .br (decide (x1=s)) (.lf (Sum.inr v0)) T1)) T1) (.lf (Sum.inr 0))
def Q58(s:(List UInt8)):Int:=(Q53 s).m
abbrev Q1x(s:(List UInt8)):Prop:=(Q53 s).p
def Qpw:LInv:={
 α:=(Int)
 F:=fun st a=>([(0,(lk st 0)),(2,(lk st 2)),(3, .int IntKind.i64 a)],[])
 a0:=fun st=>(lk st 3).toInt
 ex0:=fun st=>[]++[]
 next:=fun st=>(lk st 3).toInt
 ex:=fun st=>[]++[]}
def Qly:List (Nat×LInv):=[(2,Qpw)]
def Qsl:Q08:=mkP 213 [] true [.one (.str)] [] (fun args rows=>Q1x (argS args 0)) (fun args rows=>Q58 (argS args 0)) (fun X=> .int .i64 X) (fun X=>[])
theorem Qfs:Q02 Tryz.prog Qsl:=Q0j Q0f Q0g (.cons Qar (.cons Qsz (.nil))) Tryz.func213 Tryz.call213 (fun args rows=>Q53 (argS args 0)) [] Qly 3 (fun _ _ _=>by kernel_rfl) (fun _ _=>rfl) (fun _ _ h=>h) (fun _ X=>by kernel_rfl)
def Q6t(what:(List UInt8)):Tree ((List UInt8)×Bool):=
.an (Q1x what) (.lv (Q58 what) fun(x0:Int)=> .br (decide (what=[(46:UInt8),119,111,114,100])) (.lf ([(120:UInt8)],true)) (.br (decide (what=[(46:UInt8),115,112,97,99,101])) (.lf ([(110:UInt8)],true)) (.br (decide (what=[(108:UInt8),105])) (.lf ([(114:UInt8),44,120],true)) (.br (decide (what=[(109:UInt8),118])) (.lf ([(114:UInt8),44,114],true)) (.br (decide (what=[(110:UInt8),111,112])) (.lf ([],true)) (.br (x0==0) (.lf ([],false)) (let T1:Tree (((List UInt8)×Bool)):= .br (x0==48) (.lf ([(114:UInt8),44,120],true)) (.lv (Qg6 x0) fun(x1:Int)=> .br (x1==1) (.lf ([],true)) (.br (x1==2) (.lf ([(114:UInt8),44,114,44,114],true)) (.br (decide (x1≥6)) (.lf ([(114:UInt8),44,110],true)) (.lf ([(114:UInt8),44,114,44,110],true)))));let T2:Tree (((List UInt8)×Bool)):= .br (decide (x0≥40)) (.br (decide (x0≤45)) (.lf ([(114:UInt8),44,114,44,120],true)) T1) T1; .br (decide (x0≥32)) (.br (decide (x0≤36)) (.lf ([(114:UInt8),44,110,40,114,41],true)) T2) T2)))))))
def Qab(what:(List UInt8)):((List UInt8)×Bool):=(Q6t what).m
abbrev Q3k(what:(List UInt8)):Prop:=(Q6t what).p
def Qys:Q08:=mkP 211 [] true [.one (.str)] [] (fun args rows=>Q3k (argS args 0)) (fun args rows=>Qab (argS args 0)) (fun X=> .tup [.str (X.1), .bool (X.2)]) (fun X=>[])
theorem Qvf:Q02 Tryz.prog Qys:=Q0j Q0f Q0g (.cons Qfs (.cons Qar (.nil))) Tryz.func211 Tryz.call211 (fun args rows=>Q6t (argS args 0)) [] [] 2 (fun _ _ _=>by kernel_rfl) (fun _ _=>rfl) (fun _ _ h=>h) (fun _ X=>by kernel_rfl)
def Qpy(s:(List UInt8))(z:(Int)×(Int)):Nat:=(s.length-z.2).toNat
def Qfa(s:(List UInt8))(z:(Int)×(Int)):Nat:=(s.length-z.2).toNat
def Q8m(s:(List UInt8)):Tree (Int×Bool):=
let E7:=decide ((0:Int)≤(0:Int)∧0<(↑(List.length s):Int));let E8:=(↑(UInt8.toNat (List.getD s (Int.toNat 0) (0:UInt8))):Int);let T1:Tree ((Int×Bool)):=let T2:Tree ((Int×Bool)):= .br (decide (wrap i64 ((↑(List.length s):Int)-(0:Int))<1)) (.lf (0,false)) (.br (decide (wrap i64 ((↑(List.length s):Int)-(0:Int))>10)) (.lf (0,false)) (.lp inferInstance (Qfa s (0,0)+1) ((rE (s:List UInt8)∧rE (0:Int)∧rE (0:Int)∧rE (0:Int)∧True)∧True) (0,0) fun(v0:Int×Int)=> .br (decide (v0.snd<(↑(List.length s):Int))) (let E9:=decide (0≤v0.snd∧v0.snd<(↑(List.length s):Int)); .cn E9 (let E5:=(↑(UInt8.toNat (List.getD s (Int.toNat v0.snd) (0:UInt8))):Int); .lv (Q93 E5) fun(x2:Bool)=> .br (!x2) (.lf (Sum.inr (0,false))) (.cn E9 (.nx ((rE (s:List UInt8)∧rE (0:Int)∧rE ((wrap i64 (wrap i64 (10*v0.fst)+wrap i64 (wrap u8 ((↑(UInt8.toNat (List.getD s (Int.toNat v0.snd) (0:UInt8))):Int)-(48:Int))))):Int)∧rE ((wrap i64 (v0.snd+1)):Int)∧True)∧True) (Sum.inl (wrap i64 (wrap i64 (10*v0.fst)+wrap i64 (wrap u8 (E5-(48:Int)))),wrap i64 (v0.snd+1))))))) (.br (decide (v0.fst≥(-2147483648))) (.lf (Sum.inr (v0.fst,decide (v0.fst≤4294967295)))) (.lf (Sum.inr (v0.fst,false)))))); .br (decide ((↑(List.length s):Int)>(0:Int))) (.cn E7 (.br (E8==(45:Int)) (.br (decide (wrap i64 ((↑(List.length s):Int)-(1:Int))<1)) (.lf (0,false)) (.br (decide (wrap i64 ((↑(List.length s):Int)-(1:Int))>10)) (.lf (0,false)) (.lp inferInstance (Qfa s (0,1)+1) ((rE (s:List UInt8)∧rE (1:Int)∧rE (0:Int)∧rE (1:Int)∧True)∧True) (0,1) fun(v0:Int×Int)=> .br (decide (v0.snd<(↑(List.length s):Int))) (let E10:=decide (0≤v0.snd∧v0.snd<(↑(List.length s):Int)); .cn E10 (let E6:=(↑(UInt8.toNat (List.getD s (Int.toNat v0.snd) (0:UInt8))):Int); .lv (Q93 E6) fun(x1:Bool)=> .br (!x1) (.lf (Sum.inr (0,false))) (.cn E10 (.nx ((rE (s:List UInt8)∧rE (1:Int)∧rE ((wrap i64 (wrap i64 (10*v0.fst)+wrap i64 (wrap u8 ((↑(UInt8.toNat (List.getD s (Int.toNat v0.snd) (0:UInt8))):Int)-(48:Int))))):Int)∧rE ((wrap i64 (v0.snd+1)):Int)∧True)∧True) (Sum.inl (wrap i64 (wrap i64 (10*v0.fst)+wrap i64 (wrap u8 (E6-(48:Int)))),wrap i64 (v0.snd+1))))))) (.br (decide (wrap i64 (0-v0.fst)≥(-2147483648))) (.lf (Sum.inr (wrap i64 (0-v0.fst),decide (wrap i64 (0-v0.fst)≤4294967295)))) (.lf (Sum.inr (wrap i64 (0-v0.fst),false))))))) T2)) T2; .br (decide ((↑(List.length s):Int)>(2:Int))) (.cn E7 (.br (E8==(48:Int)) (.cn (decide ((0:Int)≤(1:Int)∧1<(↑(List.length s):Int))) (.br ((↑(UInt8.toNat (List.getD s (Int.toNat 1) (0:UInt8))):Int)==(120:Int)) (.br (decide ((↑(List.length s):Int)>(10:Int))) (.lf (0,false)) (.lp inferInstance (Qpy s (0,2)+1) ((rE (s:List UInt8)∧rE (0:Int)∧rE (2:Int)∧True)∧True) (0,2) fun(v0:Int×Int)=> .br (decide (v0.snd<(↑(List.length s):Int))) (let E4:=decide (0≤v0.snd∧v0.snd<(↑(List.length s):Int)); .cn E4 (let E3:=(↑(UInt8.toNat (List.getD s (Int.toNat v0.snd) (0:UInt8))):Int); .lv (Q93 E3) fun(x0:Bool)=> .br x0 (.cn E4 (.nx ((rE (s:List UInt8)∧rE ((wrap i64 (wrap i64 (16*v0.fst)+wrap i64 (wrap u8 ((↑(UInt8.toNat (List.getD s (Int.toNat v0.snd) (0:UInt8))):Int)-(48:Int))))):Int)∧rE ((wrap i64 (v0.snd+1)):Int)∧True)∧True) (Sum.inl (wrap i64 (wrap i64 (16*v0.fst)+wrap i64 (wrap u8 (E3-(48:Int)))),wrap i64 (v0.snd+1))))) (.cn E4 (.br (decide (E3≥(97:Int))) (.cn E4 (.br (decide (E3≤(102:Int))) (.cn E4 (.nx ((rE (s:List UInt8)∧rE ((wrap i64 (wrap i64 (wrap i64 (16*v0.fst)+wrap i64 (wrap u8 ((↑(UInt8.toNat (List.getD s (Int.toNat v0.snd) (0:UInt8))):Int)-(97:Int))))+10)):Int)∧rE ((wrap i64 (v0.snd+1)):Int)∧True)∧True) (Sum.inl (wrap i64 (wrap i64 (wrap i64 (16*v0.fst)+wrap i64 (wrap u8 (E3-(97:Int))))+10),wrap i64 (v0.snd+1))))) (.lf (Sum.inr (0,false))))) (.lf (Sum.inr (0,false))))))) (.lf (Sum.inr (v0.fst,true))))) T1)) T1)) T1
def Qwc(s:(List UInt8)):(Int×Bool):=(Q8m s).m
abbrev Qdi(s:(List UInt8)):Prop:=(Q8m s).p
def Qyv:LInv:={
 α:=(Int)×(Int)
 F:=fun st a=>([(0,(lk st 0)),(4, .int IntKind.i64 a.1),(5, .int IntKind.i64 a.2)],[])
 a0:=fun st=>((lk st 4).toInt,(lk st 5).toInt)
 ex0:=fun st=>[]++[]
 next:=fun st=>((lk st 4).toInt,(lk st 5).toInt)
 ex:=fun st=>[]++[]}
def Qxq:LInv:={
 α:=(Int)×(Int)
 F:=fun st a=>([(0,(lk st 0)),(6,(lk st 6)),(7, .int IntKind.i64 a.1),(8, .int IntKind.i64 a.2)],[])
 a0:=fun st=>((lk st 7).toInt,(lk st 8).toInt)
 ex0:=fun st=>[]++[]
 next:=fun st=>((lk st 7).toInt,(lk st 8).toInt)
 ex:=fun st=>[]++[]}
def Qs5:List (Nat×LInv):=[(6,Qyv),(21,Qxq)]
def Z2q:Q08:=mkP 252 [] true [.one (.str)] [] (fun args rows=>Qdi (argS args 0)) (fun args rows=>Qwc (argS args 0)) (fun X=> .tup [.int .i64 (X.1), .bool (X.2)]) (fun X=>[])
theorem Qyb:Q02 Tryz.prog Z2q:=Q0j Q0f Q0g (.cons Qmu (.nil)) Tryz.func252 Tryz.call252 (fun args rows=>Q8m (argS args 0)) [] Qs5 3 (fun _ _ _=>by kernel_rfl) (fun _ _=>rfl) (fun _ _ h=>h) (fun _ X=>by kernel_rfl)
def Qo4(l:(List Q0e))(p:(List UInt8))(z:(Int)×(List Q0o)):Nat:=(l.length-z.1).toNat
def Q6s(l:(List Q0e))(p:(List UInt8)):Tree ((List Q0o)×Bool):=
.br ((↑(List.length l):Int) !=(↑(List.length p):Int)) (.lf ([],false)) (.lp inferInstance (Qo4 l p (0,[])+1) ((((Els.Nil (Els.recs RK.vmfleetref1Token l)∨rE (3:Nat))∧rE (l:List (RK.T RK.vmfleetref1Token)))∧rE (p:List UInt8)∧True∧rE (0:Int)∧True)∧rE ([]:List (RK.T RK.vmfleetref1Arg))∧True) (0,[]) fun(v0:Int×List Q0o)=> .br (decide (v0.fst<(↑(List.length l):Int))) (.cn (Nat.beq 3 3&&Nat.blt 0 3&&decide (0≤v0.fst∧v0.fst<(↑(List.length l):Int))) (let E6:=decide (0≤v0.fst∧v0.fst<(↑(List.length p):Int)); .cn E6 (let E3:=List.getD l (Int.toNat v0.fst) (RK.dflt RK.vmfleetref1Token);let E4:=(↑(UInt8.toNat (List.getD p (Int.toNat v0.fst) (0:UInt8))):Int);let E5:=decide (32*(List.length v0.snd+1)≤140737488355328); .br (E4==(114:Int)) (.lv (Qcr E3.text) fun(x0:Int×Bool)=> .br (E3.kind !=1) (.lf (Sum.inr ([],false))) (.br (!x0.snd) (.lf (Sum.inr ([],false))) (.cn E5 (.nx ((((Els.Nil (Els.recs RK.vmfleetref1Token l)∨rE (3:Nat))∧rE (l:List (RK.T RK.vmfleetref1Token)))∧rE (p:List UInt8)∧True∧rE ((wrap i64 (v0.fst+1)):Int)∧True)∧rE ((v0.snd++[{reg:=x0.fst,num:=0,label:=[]}]):List (RK.T RK.vmfleetref1Arg))∧True) (Sum.inl (wrap i64 (v0.fst+1),v0.snd++[{reg:=x0.fst,num:=0,label:=[]}])))))) (let T1:Tree ((Int×List Q0o)⊕(((List Q0o)×Bool))):= .an (Qdi E3.text) (.lv (Qwc E3.text) fun(x2:Int×Bool)=> .br (E3.kind !=2) (.lf (Sum.inr ([],false))) (.br (!x2.snd) (.lf (Sum.inr ([],false))) (.cn E5 (.nx ((((Els.Nil (Els.recs RK.vmfleetref1Token l)∨rE (3:Nat))∧rE (l:List (RK.T RK.vmfleetref1Token)))∧rE (p:List UInt8)∧True∧rE ((wrap i64 (v0.fst+1)):Int)∧True)∧rE ((v0.snd++[{reg:=0,num:=x2.fst,label:=[]}]):List (RK.T RK.vmfleetref1Arg))∧True) (Sum.inl (wrap i64 (v0.fst+1),v0.snd++[{reg:=0,num:=x2.fst,label:=[]}]))))));let T2:Tree ((Int×List Q0o)⊕(((List Q0o)×Bool))):= .cn E6 (.br (E4==(120:Int)) (.br (E3.kind==1) (.an (Qbe E3.text) (.lv (Qvr E3.text) fun(x1:Bool)=> .br x1 (.cn E5 (.nx ((((Els.Nil (Els.recs RK.vmfleetref1Token l)∨rE (3:Nat))∧rE (l:List (RK.T RK.vmfleetref1Token)))∧rE (p:List UInt8)∧True∧rE ((wrap i64 (v0.fst+1)):Int)∧True)∧rE ((v0.snd++[{reg:=0,num:=0,label:=(List.getD l (Int.toNat v0.fst) (RK.dflt RK.vmfleetref1Token)).text}]):List (RK.T RK.vmfleetref1Arg))∧True) (Sum.inl (wrap i64 (v0.fst+1),v0.snd++[{reg:=0,num:=0,label:=E3.text}])))) T1)) T1) T1); .br (E4==(110:Int)) T2 (.br (E4==(120:Int)) T2 (.br (E3.kind !=3) (.lf (Sum.inr ([],false))) (.cn (decide (0≤v0.fst∧v0.fst≤wrap i64 (v0.fst+1)∧wrap i64 (v0.fst+1)≤(↑(List.length p):Int))) (.br (!decide (E3.text=List.take (Int.toNat (wrap i64 (v0.fst+1))-Int.toNat v0.fst) (List.drop (Int.toNat v0.fst) p))) (.lf (Sum.inr ([],false))) (.nx ((((Els.Nil (Els.recs RK.vmfleetref1Token l)∨rE (3:Nat))∧rE (l:List (RK.T RK.vmfleetref1Token)))∧rE (p:List UInt8)∧True∧rE ((wrap i64 (v0.fst+1)):Int)∧True)∧rE v0.snd∧True) (Sum.inl (wrap i64 (v0.fst+1),v0.snd))))))))))) (.lf (Sum.inr (v0.snd,true))))
def Qap(l:(List Q0e))(p:(List UInt8)):((List Q0o)×Bool):=(Q6s l p).m
abbrev Q3m(l:(List Q0e))(p:(List UInt8)):Prop:=(Q6s l p).p
def Qx0:LInv:={
 α:=(Int)×(List Q0o)
 F:=fun st a=>([(0,(lk st 0)),(1,(lk st 1)),(6, .all 0),(7, .int IntKind.i64 a.1)],[⟨false,162,3, .recs RK.vmfleetref1Arg a.2⟩])
 a0:=fun st=>((lk st 7).toInt,(Q47 RK.vmfleetref1Arg st.rows (rN st 6)))
 ex0:=fun st=>[]++[(Q0p (lk st 6) (st.rows.length+0))]
 next:=fun st=>((lk st 7).toInt,(Q47 RK.vmfleetref1Arg st.rows (rN st 6)))
 ex:=fun st=>[]++[(Q0p (lk st 6) (st.rows.length+0))]}
def Qpd:List (Nat×LInv):=[(5,Qx0)]
def Qyd:Q08:=mkP 212 [] true [.one (.recs .vmfleetref1Token), .one (.str)] [] (fun args rows=>Q3m (argR .vmfleetref1Token args 0) (argS args 1)) (fun args rows=>Qap (argR .vmfleetref1Token args 0) (argS args 1)) (fun X=> .tup [.all 0, .bool (X.2)]) (fun X=>[⟨false,162,3, .recs .vmfleetref1Arg (X.1)⟩])
theorem Qwb:Q02 Tryz.prog Qyd:=Q0j Q0f Q0g (.cons Qek (.cons Qrl (.cons Qyb (.nil)))) Tryz.func212 Tryz.call212 (fun args rows=>Q6s (argR .vmfleetref1Token args 0) (argS args 1)) [.row 162 3 (.recs .vmfleetref1Arg)] Qpd 3 (fun _ _ _=>by kernel_rfl) (fun _ _=>rfl) (fun _ _ h=>h) (fun _ X=>by kernel_rfl)
def Qq4(s:(List UInt8))(z:(List UInt8)×(Int)):Nat:=(s.length-z.2).toNat
def Q8(s:(List UInt8)):Tree ((List UInt8)×Q05×Bool):=
.lp inferInstance (Qq4 s (s,0)+1) ((rE (s:List UInt8)∧rE ([]:List UInt8)∧(rE ((nat_lit 0):Nat)∧rE ((nat_lit 0):Nat))∧rE (false:Bool)∧rE (0:Int)∧True)∧(rE ([]:List UInt8)∧rE (0:Int)∧True∧rE (0:Int)∧rE (0:Int)∧rE (0:Int)∧True)∧True) (s,0) fun(v0:List UInt8×Int)=> .br (decide (v0.snd<(↑(List.length v0.fst):Int))) (.cn (decide (0≤v0.snd∧v0.snd<(↑(List.length v0.fst):Int))) (.br ((↑(UInt8.toNat (List.getD v0.fst (Int.toNat v0.snd) (0:UInt8))):Int)==(59:Int)) (.cn (decide ((0:Int)≤(0:Int)∧0≤v0.snd∧v0.snd≤(↑(List.length v0.fst):Int))) (.nx ((rE ((List.take (Int.toNat v0.snd-Int.toNat 0) (List.drop (Int.toNat 0) v0.fst)):List UInt8)∧rE ([]:List UInt8)∧(rE ((nat_lit 0):Nat)∧rE ((nat_lit 0):Nat))∧rE (false:Bool)∧rE ((wrap i64 (v0.snd+1)):Int)∧True)∧(rE ([]:List UInt8)∧rE (0:Int)∧True∧rE (0:Int)∧rE (0:Int)∧rE (0:Int)∧True)∧True) (Sum.inl (List.take (Int.toNat v0.snd-Int.toNat 0) (List.drop (Int.toNat 0) v0.fst),wrap i64 (v0.snd+1))))) (.nx ((rE v0.fst∧rE ([]:List UInt8)∧(rE ((nat_lit 0):Nat)∧rE ((nat_lit 0):Nat))∧rE (false:Bool)∧rE ((wrap i64 (v0.snd+1)):Int)∧True)∧(rE ([]:List UInt8)∧rE (0:Int)∧True∧rE (0:Int)∧rE (0:Int)∧rE (0:Int)∧True)∧True) (Sum.inl (v0.fst,wrap i64 (v0.snd+1)))))) (.an (Qdd v0.fst) (.lv (Qu0 v0.fst) fun(x0:List Q0e×Bool)=> .br (!x0.snd) (.lf (Sum.inr ([],{what:=[],op:=0,l:=[],line:=0,at_:=0,size:=0},false))) (let E9:=List.getD x0.fst (Int.toNat 0) (RK.dflt RK.vmfleetref1Token);let T1:Tree ((List UInt8×Int)⊕(((List UInt8)×Q05×Bool))):= .an (Q3k E9.text) (.lv (Qab E9.text) fun(x27:List UInt8×Bool)=> .br (!x27.snd) (.lf (Sum.inr ([],{what:=[],op:=0,l:=[],line:=0,at_:=0,size:=0},false))) (let E20:=Int.toNat (↑(List.length x0.fst):Int)-Int.toNat 1;let T6:Tree ((List UInt8×Int)⊕(((List UInt8)×Q05×Bool))):=let E31:=List.take E20 (List.drop (Int.toNat 1) x0.fst); .an (Q3m E31 x27.fst) (.lv (Qap E31 x27.fst) fun(x28:List Q0o×Bool)=> .br (!x28.snd) (.lf (Sum.inr ([],{what:=[],op:=0,l:=[],line:=0,at_:=0,size:=0},false))) (.an (Q1x E9.text) (.lv (Q58 E9.text) fun(x29:Int)=> .br (decide (E9.text=[(108:UInt8),105])) (.lf (Sum.inr ([],{what:=E9.text,op:=x29,l:=x28.fst,line:=0,at_:=0,size:=2},true))) (.br (decide (E9.text=[(46:UInt8),115,112,97,99,101])) (let E13:=Nat.beq 3 3&&Nat.blt 0 3&&decide ((0:Int)≤(0:Int)∧0<(↑(List.length x28.fst):Int)); .cn E13 (let E21:=List.getD x28.fst (Int.toNat 0) (RK.dflt RK.vmfleetref1Arg); .br (decide (E21.num<0)) (.lf (Sum.inr ([],{what:=[],op:=0,l:=[],line:=0,at_:=0,size:=0},false))) (.cn E13 (.br (decide (E21.num>1024)) (.lf (Sum.inr ([],{what:=[],op:=0,l:=[],line:=0,at_:=0,size:=0},false))) (.cn E13 (.lf (Sum.inr ([],{what:=E9.text,op:=x29,l:=x28.fst,line:=0,at_:=0,size:=E21.num},true)))))))) (.lf (Sum.inr ([],{what:=E9.text,op:=x29,l:=x28.fst,line:=0,at_:=0,size:=1},true))))))); .br (decide ((↑E20:Int)>(0:Int))) (.cn (Nat.beq 3 3&&Nat.blt 0 3&&decide ((0:Int)≤(0:Int)∧0<(↑E20:Int))) (.br (!(List.getD x0.fst (Int.toNat 1+Int.toNat 0) (RK.dflt RK.vmfleetref1Token)).gap) (.lf (Sum.inr ([],{what:=[],op:=0,l:=[],line:=0,at_:=0,size:=0},false))) T6)) T6));let E25:=Int.toNat (↑(List.length x0.fst):Int)-Int.toNat 2;let E8:=(↑E25:Int);let E10:=List.getD x0.fst (Int.toNat 2+Int.toNat 0) (RK.dflt RK.vmfleetref1Token);let E12:=List.getD x0.fst (Int.toNat 1) (RK.dflt RK.vmfleetref1Token);let E16:=Nat.beq 3 3&&Nat.blt 0 3&&decide ((0:Int)≤(0:Int)∧0<(↑(List.length x0.fst):Int));let E17:=Nat.beq 3 3&&Nat.blt 0 3&&decide ((0:Int)≤(1:Int)∧1<(↑(List.length x0.fst):Int));let E19:=Nat.beq 3 3&&Nat.blt 0 3&&decide ((0:Int)≤(2:Int)∧2≤(↑(List.length x0.fst):Int)∧(↑(List.length x0.fst):Int)≤(↑(List.length x0.fst):Int));let E28:=Nat.beq 3 3&&Nat.blt 0 3&&decide ((0:Int)≤(0:Int)∧0<E8);let E30:=decide ((↑(List.length x0.fst):Int)≥(2:Int));let T3:Tree ((List UInt8×Int)⊕(((List UInt8)×Q05×Bool))):= .br ((↑(List.length x0.fst):Int)==(0:Int)) (.lf (Sum.inr ([],{what:=[],op:=0,l:=[],line:=0,at_:=0,size:=0},true))) (.cn E16 (.cn (Nat.beq 3 3&&Nat.blt 0 3&&decide ((0:Int)≤(1:Int)∧1≤(↑(List.length x0.fst):Int)∧(↑(List.length x0.fst):Int)≤(↑(List.length x0.fst):Int))) (.br (decide (E9.text=[(46:UInt8)])) (.br E30 (.cn E17 (.br (!E12.gap) (.cn E17 (.cn (decide (1+List.length E12.text≤maxLen)) (.cn E19 (.an (Q3k ((46:UInt8)::E12.text)) (.lv (Qab ([(46:UInt8)]++E12.text)) fun(x22:List UInt8×Bool)=> .br (!x22.snd) (.lf (Sum.inr ([],{what:=[],op:=0,l:=[],line:=0,at_:=0,size:=0},false))) (let T7:Tree ((List UInt8×Int)⊕(((List UInt8)×Q05×Bool))):=let E32:=List.take E25 (List.drop (Int.toNat 2) x0.fst); .an (Q3m E32 x22.fst) (.lv (Qap E32 x22.fst) fun(x23:List Q0o×Bool)=> .br (!x23.snd) (.lf (Sum.inr ([],{what:=[],op:=0,l:=[],line:=0,at_:=0,size:=0},false))) (.an (Q1x ((46:UInt8)::E12.text)) (.lv (Q58 ([(46:UInt8)]++E12.text)) fun(x24:Int)=> .br (decide ([(46:UInt8)]++E12.text=[(46:UInt8),115,112,97,99,101])) (let E14:=Nat.beq 3 3&&Nat.blt 0 3&&decide ((0:Int)≤(0:Int)∧0<(↑(List.length x23.fst):Int)); .cn E14 (let E22:=List.getD x23.fst (Int.toNat 0) (RK.dflt RK.vmfleetref1Arg); .br (decide (E22.num<0)) (.lf (Sum.inr ([],{what:=[],op:=0,l:=[],line:=0,at_:=0,size:=0},false))) (.cn E14 (.br (decide (E22.num>1024)) (.lf (Sum.inr ([],{what:=[],op:=0,l:=[],line:=0,at_:=0,size:=0},false))) (.cn E14 (.lf (Sum.inr ([],{what:=(46:UInt8)::E12.text,op:=x24,l:=x23.fst,line:=0,at_:=0,size:=E22.num},true)))))))) (.lf (Sum.inr ([],{what:=(46:UInt8)::E12.text,op:=x24,l:=x23.fst,line:=0,at_:=0,size:=1},true)))))); .br (decide (E8>(0:Int))) (.cn E28 (.br (!E10.gap) (.lf (Sum.inr ([],{what:=[],op:=0,l:=[],line:=0,at_:=0,size:=0},false))) T7)) T7)))))) T1)) T1) T1))); .br E30 (.cn E17 (.br (decide (E12.text=[(58:UInt8)])) (.cn E16 (.cn E16 (.br (E9.kind !=1) (.lf (Sum.inr ([],{what:=[],op:=0,l:=[],line:=0,at_:=0,size:=0},false))) (.an (Qbe E9.text) (.lv (Qvr E9.text) fun(x1:Bool)=> .br (!x1) (.lf (Sum.inr ([],{what:=[],op:=0,l:=[],line:=0,at_:=0,size:=0},false))) (.cn E19 (.br (E8==(0:Int)) (.lf (Sum.inr (E9.text,{what:=[],op:=0,l:=[],line:=0,at_:=0,size:=0},true))) (.cn E28 (.cn (Nat.beq 3 3&&Nat.blt 0 3&&decide ((0:Int)≤(1:Int)∧1≤E8∧E8≤E8)) (let T2:Tree ((List UInt8×Int)⊕(((List UInt8)×Q05×Bool))):= .an (Q3k E10.text) (.lv (Qab E10.text) fun(x7:List UInt8×Bool)=> .br (!x7.snd) (.lf (Sum.inr ([],{what:=[],op:=0,l:=[],line:=0,at_:=0,size:=0},false))) (let T4:Tree ((List UInt8×Int)⊕(((List UInt8)×Q05×Bool))):=let E26:=List.take (Int.toNat E8-Int.toNat 1) (List.drop (Int.toNat 2+Int.toNat 1) x0.fst); .an (Q3m E26 x7.fst) (.lv (Qap E26 x7.fst) fun(x8:List Q0o×Bool)=> .br (!x8.snd) (.lf (Sum.inr ([],{what:=[],op:=0,l:=[],line:=0,at_:=0,size:=0},false))) (.an (Q1x E10.text) (.lv (Q58 E10.text) fun(x9:Int)=> .br (decide (E10.text=[(108:UInt8),105])) (.lf (Sum.inr (E9.text,{what:=E10.text,op:=x9,l:=x8.fst,line:=0,at_:=0,size:=2},true))) (.br (decide (E10.text=[(46:UInt8),115,112,97,99,101])) (let E15:=Nat.beq 3 3&&Nat.blt 0 3&&decide ((0:Int)≤(0:Int)∧0<(↑(List.length x8.fst):Int)); .cn E15 (let E23:=List.getD x8.fst (Int.toNat 0) (RK.dflt RK.vmfleetref1Arg); .br (decide (E23.num<0)) (.lf (Sum.inr ([],{what:=[],op:=0,l:=[],line:=0,at_:=0,size:=0},false))) (.cn E15 (.br (decide (E23.num>1024)) (.lf (Sum.inr ([],{what:=[],op:=0,l:=[],line:=0,at_:=0,size:=0},false))) (.cn E15 (.lf (Sum.inr (E9.text,{what:=E10.text,op:=x9,l:=x8.fst,line:=0,at_:=0,size:=E23.num},true)))))))) (.lf (Sum.inr (E9.text,{what:=E10.text,op:=x9,l:=x8.fst,line:=0,at_:=0,size:=1},true))))))); .br (decide ((↑(Int.toNat E8-Int.toNat 1):Int)>(0:Int))) (.cn (Nat.beq 3 3&&Nat.blt 0 3&&decide ((0:Int)≤(0:Int)∧0<(↑(Int.toNat E8-Int.toNat 1):Int))) (.br (!(List.getD x0.fst (Int.toNat 2+Int.toNat 1+Int.toNat 0) (RK.dflt RK.vmfleetref1Token)).gap) (.lf (Sum.inr ([],{what:=[],op:=0,l:=[],line:=0,at_:=0,size:=0},false))) T4)) T4)); .br (decide (E10.text=[(46:UInt8)])) (.br (decide (E8≥(2:Int))) (let E29:=Nat.beq 3 3&&Nat.blt 0 3&&decide ((0:Int)≤(1:Int)∧1<E8); .cn E29 (let E11:=List.getD x0.fst (Int.toNat 2+Int.toNat 1) (RK.dflt RK.vmfleetref1Token); .br (!E11.gap) (.cn E29 (.cn (decide (1+List.length E11.text≤maxLen)) (.cn (Nat.beq 3 3&&Nat.blt 0 3&&decide ((0:Int)≤(2:Int)∧2≤E8∧E8≤E8)) (.an (Q3k ((46:UInt8)::E11.text)) (.lv (Qab ([(46:UInt8)]++E11.text)) fun(x2:List UInt8×Bool)=> .br (!x2.snd) (.lf (Sum.inr ([],{what:=[],op:=0,l:=[],line:=0,at_:=0,size:=0},false))) (let T5:Tree ((List UInt8×Int)⊕(((List UInt8)×Q05×Bool))):=let E27:=List.take (Int.toNat E8-Int.toNat 2) (List.drop (Int.toNat 2+Int.toNat 2) x0.fst); .an (Q3m E27 x2.fst) (.lv (Qap E27 x2.fst) fun(x3:List Q0o×Bool)=> .br (!x3.snd) (.lf (Sum.inr ([],{what:=[],op:=0,l:=[],line:=0,at_:=0,size:=0},false))) (.an (Q1x ((46:UInt8)::E11.text)) (.lv (Q58 ([(46:UInt8)]++E11.text)) fun(x4:Int)=> .br (decide ([(46:UInt8)]++E11.text=[(46:UInt8),115,112,97,99,101])) (let E18:=Nat.beq 3 3&&Nat.blt 0 3&&decide ((0:Int)≤(0:Int)∧0<(↑(List.length x3.fst):Int)); .cn E18 (let E24:=List.getD x3.fst (Int.toNat 0) (RK.dflt RK.vmfleetref1Arg); .br (decide (E24.num<0)) (.lf (Sum.inr ([],{what:=[],op:=0,l:=[],line:=0,at_:=0,size:=0},false))) (.cn E18 (.br (decide (E24.num>1024)) (.lf (Sum.inr ([],{what:=[],op:=0,l:=[],line:=0,at_:=0,size:=0},false))) (.cn E18 (.lf (Sum.inr (E9.text,{what:=(46:UInt8)::E11.text,op:=x4,l:=x3.fst,line:=0,at_:=0,size:=E24.num},true)))))))) (.lf (Sum.inr (E9.text,{what:=(46:UInt8)::E11.text,op:=x4,l:=x3.fst,line:=0,at_:=0,size:=1},true)))))); .br (decide ((↑(Int.toNat E8-Int.toNat 2):Int)>(0:Int))) (.cn (Nat.beq 3 3&&Nat.blt 0 3&&decide ((0:Int)≤(0:Int)∧0<(↑(Int.toNat E8-Int.toNat 2):Int))) (.br (!(List.getD x0.fst (Int.toNat 2+Int.toNat 2+Int.toNat 0) (RK.dflt RK.vmfleetref1Token)).gap) (.lf (Sum.inr ([],{what:=[],op:=0,l:=[],line:=0,at_:=0,size:=0},false))) T5)) T5)))))) T2)) T2) T2)))))))))) T3)) T3)))
def Qwm(s:(List UInt8)):((List UInt8)×Q05×Bool):=(Q8 s).m
abbrev Qci(s:(List UInt8)):Prop:=(Q8 s).p
def Qyu:LInv:={
 α:=(List UInt8)×(Int)
 F:=fun st a=>([(0, .str a.1),(2,(lk st 2)),(3, .ptr 0 0 0),(4,(lk st 4)),(5, .int IntKind.i64 a.2)],[⟨true,160,6, .gen [[(cT st 3 0),(cT st 3 1),(cT st 3 2),(cT st 3 3),(cT st 3 4),(cT st 3 5)]]⟩])
 a0:=fun st=>((lk st 0).toStr,(lk st 5).toInt)
 ex0:=fun st=>[]++[(Q0p (lk st 3) (st.rows.length+0))]
 next:=fun st=>((lk st 0).toStr,(lk st 5).toInt)
 ex:=fun st=>[]++[(Q0p (lk st 3) (st.rows.length+0))]}
def Qt5:List (Nat×LInv):=[(2,Qyu)]
def Z3i:Q08:=mkP 163 [] false [.one (.str)] [] (fun args rows=>Qci (argS args 0)) (fun args rows=>Qwm (argS args 0)) (fun X=> .tup [.str (X.1), .agg (Q05.cells (X.2.1)), .bool (X.2.2)]) (fun X=>[])
theorem Qxm:Q02 Tryz.prog Z3i:=Q0j Q0f Q0g (.cons Qyq (.cons Qrl (.cons Qvf (.cons Qwb (.cons Qfs (.nil)))))) Tryz.func163 Tryz.call163 (fun args rows=>Q8 (argS args 0)) [.sl (.recs .vmfleetref1Arg) false] Qt5 3 (fun _ _ _=>by kernel_rfl) (fun _ _=>rfl) (fun _ _ h=>h) (fun h=>by cases h)
def Qg4(l:(List Q1e))(label:(List UInt8))(z:(Int)):Prop:=0≤z∧z≤l.length
def Q81(l:(List Q1e))(label:(List UInt8))(z:(Int)):Nat:=(l.length-z).toNat
def Q9l(l:(List Q1e))(label:(List UInt8)):Tree (Int×Bool):=
.lp inferInstance (Q81 l label 0+1) ((((Els.Nil (Els.recs RK.apiSymbol l)∨rE (2:Nat))∧rE (l:List (RK.T RK.apiSymbol)))∧rE (label:List UInt8)∧rE (0:Int)∧rE (false:Bool)∧rE (0:Int)∧True)∧True) 0 fun(v0:Int)=> .br (decide (v0<(↑(List.length l):Int))) (let E1:=Nat.beq 2 2&&Nat.blt 0 2&&decide (0≤v0∧v0<(↑(List.length l):Int)); .cn E1 (let E2:=List.getD l (Int.toNat v0) (RK.dflt RK.apiSymbol); .br (decide (E2.Name=label)) (.cn E1 (.lf (Sum.inr (E2.Addr,true)))) (.nx ((((Els.Nil (Els.recs RK.apiSymbol l)∨rE (2:Nat))∧rE (l:List (RK.T RK.apiSymbol)))∧rE (label:List UInt8)∧rE (0:Int)∧rE (false:Bool)∧rE ((wrap i64 (v0+1)):Int)∧True)∧True) (Sum.inl (wrap i64 (v0+1)))))) (.lf (Sum.inr (0,false)))
def Qit(l:(List Q1e))(label:(List UInt8)):(Int×Bool):=(Q9l l label).m
def Q1y(l:(List Q1e))(label:(List UInt8)):Prop:=
l.length≤1000000000000
theorem Qs0(l:(List Q1e))(label:(List UInt8))(hw:Q1y l label):(Q9l l label).p:=by
 simp only[Q1y]at hw
 unfold Tree.p Q9l
 repeat'(first|refine w_lp (inv:=Qg4 l label) (μ:=Q81 l label) ?_ (Nat.lt_succ_self _) (fun _ _=> ?_)|exact trivial|refine w_br (fun _=> ?_) (fun _=> ?_)|refine w_cn ?_ ?_|refine w_an ?_ ?_|refine w_lv (fun _ _=> ?_)|refine w_nx ?_|refine w_lf ?_|refine And.intro ?_ ?_)
 all_goals((try simp only[Qg4,Q81]at*);((subst_vars;first|trivial|assumption|omega|((simp(config:={decide:=true,failIfUnchanged:=false}) only[Bool.and_eq_true,Bool.or_eq_true,Bool.and_eq_false_iff,Bool.or_eq_false_iff,Bool.not_eq_true',Bool.not_eq_false',Bool.not_eq_true,Bool.not_eq_false,decide_eq_true_eq,decide_eq_false_iff_not,Q34,Q21,Q36,Q20,beq_iff_eq,beq_eq_false_iff_ne,bne_iff_ne,bne_eq_false_iff_eq,ne_eq,List.all_cons,List.all_nil,D.plain,List.length_cons,List.length_nil,List.length_append,List.length_set,List.length_replicate,IntKind.wrap_i64,IntKind.wrap_u64,IntKind.wrap_u32,IntKind.wrap_i32,IntKind.wrap_u8,true_and,and_true,or_false,false_or,or_true,true_or,not_true_eq_false,not_false_eq_true,Prod.fst,Prod.snd]at*);first|done|assumption|omega)|((simp(config:={decide:=true,failIfUnchanged:=false}) only[Bool.and_eq_true,Bool.or_eq_true,Bool.and_eq_false_iff,Bool.or_eq_false_iff,Bool.not_eq_true',Bool.not_eq_false',Bool.not_eq_true,Bool.not_eq_false,decide_eq_true_eq,decide_eq_false_iff_not,Q34,Q21,Q36,Q20,beq_iff_eq,beq_eq_false_iff_ne,bne_iff_ne,bne_eq_false_iff_eq,ne_eq,List.all_cons,List.all_nil,D.plain,List.length_cons,List.length_nil,List.length_append,List.length_set,List.length_replicate,IntKind.wrap_i64,IntKind.wrap_u64,IntKind.wrap_u32,IntKind.wrap_i32,IntKind.wrap_u8,true_and,and_true,or_false,false_or,or_true,true_or,not_true_eq_false,not_false_eq_true,Prod.fst,Prod.snd]at*);simp only[←List.length_pos_iff]at*;omega)|(simp_all;done)|(have:= @Qcx;simp_all;try omega))))
def Qtm:LInv:={
 α:=(Int)
 F:=fun st a=>([(0,(lk st 0)),(1,(lk st 1)),(4,(lk st 4)),(5,(lk st 5)),(6, .int IntKind.i64 a)],[])
 a0:=fun st=>(lk st 6).toInt
 ex0:=fun st=>[]++[]
 next:=fun st=>(lk st 6).toInt
 ex:=fun st=>[]++[]}
def Qps:List (Nat×LInv):=[(2,Qtm)]
def Qxo:Q08:=mkP 111 [] true [.one (.recs .apiSymbol), .one (.str)] [] (fun args rows=>Q1y (argR .apiSymbol args 0) (argS args 1)) (fun args rows=>Qit (argR .apiSymbol args 0) (argS args 1)) (fun X=> .tup [.int .u32 (X.1), .bool (X.2)]) (fun X=>[])
theorem Qjg:Q02 Tryz.prog Qxo:=Q0j Q0f Q0g (.nil) Tryz.func111 Tryz.call111 (fun args rows=>Q9l (argR .apiSymbol args 0) (argS args 1)) [] Qps 3 (fun _ _ _=>by kernel_rfl) (fun _ _=>rfl) (fun args rows h=>Qs0 (argR .apiSymbol args 0) (argS args 1) h) (fun _ X=>by kernel_rfl)
def Qww(src:(List UInt8))(z:(Int)×(Int)×(List Q1e)×(List Q05)):Nat:=((Qpi src).length-z.2.1).toNat
def Qd0(src:(List UInt8)):Tree ((List Q1e)×(List Q05)×Q0x):=
.br (decide ((↑(List.length src):Int)>(8192:Int))) (.lf ([],[],{Err:=300,Line:=0})) (.an (Qf5 src) (.lv (Qpi src) fun(x0:List (List UInt8))=> .lp inferInstance (Qww src (0,0,[],[])+1) (((rE ((nat_lit 0):Nat)∧rE ((nat_lit 0):Nat))∧True∧True∧rE (0:Int)∧True∧rE (0:Int)∧True)∧(rE (0:Int)∧rE (0:Int)∧True)∧rE (x0:List (RK.T RK.str))∧rE ([]:List (RK.T RK.apiSymbol))∧rE ([]:List (RK.T RK.vmfleetref1Statement))∧True) (0,0,[],[]) fun(v0:Int×Int×List Q1e×List Q05)=> .br (decide (v0.snd.fst<(↑(List.length x0):Int))) (.cn (Nat.beq 1 1&&Nat.blt 0 1&&decide (0≤v0.snd.fst∧v0.snd.fst<(↑(List.length x0):Int))) (let E3:=List.getD x0 (Int.toNat v0.snd.fst) (RK.dflt RK.str); .an (Qci E3) (.lv (Qwm E3) fun(x1:List UInt8×Q05×Bool)=> .br (!x1.snd.snd) (.lf (Sum.inr ([],[],{Err:=301,Line:=wrap i64 (v0.snd.fst+1)}))) (let E1:=({Err:=305,Line:=wrap i64 (v0.snd.fst+1)}:Q0x);let E2:=decide (72*(List.length v0.snd.snd.snd+1)≤140737488355328);let E4:=decide (wrap i64 (v0.fst+x1.snd.fst.size)>1024); .br (!decide (x1.fst=[])) (.an (Q1y v0.snd.snd.fst x1.fst) (.lv (Qit v0.snd.snd.fst x1.fst) fun(x2:Int×Bool)=> .br x2.snd (.lf (Sum.inr ([],[],{Err:=303,Line:=wrap i64 (v0.snd.fst+1)}))) (.cn (decide (24*(List.length v0.snd.snd.fst+1)≤140737488355328)) (let E5:=({Name:=x1.fst,Addr:=wrap u32 (wrap i64 (4*v0.fst))}:Q1e); .br (!decide (x1.snd.fst.what=[])) (.cn E2 (.br E4 (.lf (Sum.inr ([],[],E1))) (.nx (((rE ((nat_lit 0):Nat)∧rE ((nat_lit 0):Nat))∧True∧True∧rE ((wrap i64 (v0.fst+x1.snd.fst.size)):Int)∧True∧rE ((wrap i64 (v0.snd.fst+1)):Int)∧True)∧(rE (0:Int)∧rE (0:Int)∧True)∧rE (x0:List (RK.T RK.str))∧rE ((v0.snd.snd.fst++[{Name:=x1.fst,Addr:=wrap u32 (wrap i64 (4*v0.fst))}]):List (RK.T RK.apiSymbol))∧rE ((v0.snd.snd.snd++[{what:=x1.snd.fst.what,op:=x1.snd.fst.op,l:=x1.snd.fst.l,line:=wrap i64 (v0.snd.fst+1),at_:=v0.fst,size:=x1.snd.fst.size}]):List (RK.T RK.vmfleetref1Statement))∧True) (Sum.inl (wrap i64 (v0.fst+x1.snd.fst.size),wrap i64 (v0.snd.fst+1),v0.snd.snd.fst++[E5],v0.snd.snd.snd++[{what:=x1.snd.fst.what,op:=x1.snd.fst.op,l:=x1.snd.fst.l,line:=wrap i64 (v0.snd.fst+1),at_:=v0.fst,size:=x1.snd.fst.size}]))))) (.br (decide (v0.fst>1024)) (.lf (Sum.inr ([],[],E1))) (.nx (((rE ((nat_lit 0):Nat)∧rE ((nat_lit 0):Nat))∧True∧True∧rE v0.fst∧True∧rE ((wrap i64 (v0.snd.fst+1)):Int)∧True)∧(rE (0:Int)∧rE (0:Int)∧True)∧rE (x0:List (RK.T RK.str))∧rE ((v0.snd.snd.fst++[{Name:=x1.fst,Addr:=wrap u32 (wrap i64 (4*v0.fst))}]):List (RK.T RK.apiSymbol))∧rE v0.snd.snd.snd∧True) (Sum.inl (v0.fst,wrap i64 (v0.snd.fst+1),v0.snd.snd.fst++[E5],v0.snd.snd.snd)))))))) (.br (!decide (x1.snd.fst.what=[])) (.cn E2 (.br E4 (.lf (Sum.inr ([],[],E1))) (.nx (((rE ((nat_lit 0):Nat)∧rE ((nat_lit 0):Nat))∧True∧True∧rE ((wrap i64 (v0.fst+x1.snd.fst.size)):Int)∧True∧rE ((wrap i64 (v0.snd.fst+1)):Int)∧True)∧(rE (0:Int)∧rE (0:Int)∧True)∧rE (x0:List (RK.T RK.str))∧rE v0.snd.snd.fst∧rE ((v0.snd.snd.snd++[{what:=x1.snd.fst.what,op:=x1.snd.fst.op,l:=x1.snd.fst.l,line:=wrap i64 (v0.snd.fst+1),at_:=v0.fst,size:=x1.snd.fst.size}]):List (RK.T RK.vmfleetref1Statement))∧True) (Sum.inl (wrap i64 (v0.fst+x1.snd.fst.size),wrap i64 (v0.snd.fst+1),v0.snd.snd.fst,v0.snd.snd.snd++[{what:=x1.snd.fst.what,op:=x1.snd.fst.op,l:=x1.snd.fst.l,line:=wrap i64 (v0.snd.fst+1),at_:=v0.fst,size:=x1.snd.fst.size}]))))) (.br (decide (v0.fst>1024)) (.lf (Sum.inr ([],[],E1))) (.nx (((rE ((nat_lit 0):Nat)∧rE ((nat_lit 0):Nat))∧True∧True∧rE v0.fst∧True∧rE ((wrap i64 (v0.snd.fst+1)):Int)∧True)∧(rE (0:Int)∧rE (0:Int)∧True)∧rE (x0:List (RK.T RK.str))∧rE v0.snd.snd.fst∧rE v0.snd.snd.snd∧True) (Sum.inl (v0.fst,wrap i64 (v0.snd.fst+1),v0.snd.snd.fst,v0.snd.snd.snd))))))))) (.lf (Sum.inr (v0.snd.snd.fst,v0.snd.snd.snd,{Err:=0,Line:=0})))))
def Qur(src:(List UInt8)):((List Q1e)×(List Q05)×Q0x):=(Qd0 src).m
abbrev Qgz(src:(List UInt8)):Prop:=(Qd0 src).p
def Z7v:LInv:={
 α:=(Int)×(Int)×(List Q1e)×(List Q05)
 F:=fun st a=>([(4, .ptr 0 0 0),(5, .all 2),(6, .all 3),(7, .int IntKind.i64 a.1),(8, .all 1),(9, .int IntKind.i64 a.2.1)],[⟨true,88,2, .gen [[(cT st 4 0),(cT st 4 1)]]⟩,⟨false,9,1,esOf st.rows (rN st 8)⟩,⟨false,225,2, .recs RK.apiSymbol a.2.2.1⟩,⟨false,160,6, .recs RK.vmfleetref1Statement a.2.2.2⟩])
 a0:=fun st=>((lk st 7).toInt,(lk st 9).toInt,(Q47 RK.apiSymbol st.rows (rN st 5)),(Q47 RK.vmfleetref1Statement st.rows (rN st 6)))
 ex0:=fun st=>[]++[(Q0p (lk st 4) (st.rows.length+0)),(Q0p (lk st 8) (st.rows.length+1)),(Q0p (lk st 5) (st.rows.length+2)),(Q0p (lk st 6) (st.rows.length+3))]
 next:=fun st=>((lk st 7).toInt,(lk st 9).toInt,(Q47 RK.apiSymbol st.rows (rN st 5)),(Q47 RK.vmfleetref1Statement st.rows (rN st 6)))
 ex:=fun st=>[]++[(Q0p (lk st 4) (st.rows.length+0)),(Q0p (lk st 8) (st.rows.length+1)),(Q0p (lk st 5) (st.rows.length+2)),(Q0p (lk st 6) (st.rows.length+3))]}
def Qy1:List (Nat×LInv):=[(8,Z7v)]
def Z91:Q08:=mkP 110 [] false [.one (.str)] [] (fun args rows=>Qgz (argS args 0)) (fun args rows=>Qur (argS args 0)) (fun X=> .tup [.all 0, .all 1, .agg (Q0x.cells (X.2.2))]) (fun X=>[⟨false,225,2, .recs .apiSymbol (X.1)⟩,⟨false,160,6, .recs .vmfleetref1Statement (X.2.1)⟩])
theorem Z7u:Q02 Tryz.prog Z91:=Q0j Q0f Q0g (.cons Z3l (.cons Qxm (.cons Qjg (.nil)))) Tryz.func110 Tryz.call110 (fun args rows=>Qd0 (argS args 0)) [.row 225 2 (.recs .apiSymbol), .row 160 6 (.recs .vmfleetref1Statement)] Qy1 3 (fun _ _ _=>by kernel_rfl) (fun _ _=>rfl) (fun _ _ h=>h) (fun h=>by cases h)
def Qdo(st:Q05)(v:Int):Tree (Int×Bool):=
.lv (Qg6 st.op) fun(x0:Int)=> .lv (Qma x0) fun(x1:Int×Int)=>let E7:=List.getD st.l (Int.toNat 0) (RK.dflt RK.vmfleetref1Arg);let E8:=List.getD st.l (Int.toNat 1) (RK.dflt RK.vmfleetref1Arg);let E9:=Nat.beq 3 3&&Nat.blt 0 3&&decide ((0:Int)≤(0:Int)∧0<(↑(List.length st.l):Int));let E10:=Nat.beq 3 3&&Nat.blt 0 3&&decide ((0:Int)≤(1:Int)∧1<(↑(List.length st.l):Int));let E11:=List.getD st.l (Int.toNat 2) (RK.dflt RK.vmfleetref1Arg);let E12:=Nat.beq 3 3&&Nat.blt 0 3&&decide ((0:Int)≤(2:Int)∧2<(↑(List.length st.l):Int)); .br (x0==2) (.cn E9 (.cn E10 (.cn E12 (let T2:Tree ((Int×Bool)):= .br (decide (0<x1.fst)) (.lf (0,false)) (.br (decide (0>x1.snd)) (.lf (0,false)) (.lv (Q1 {Op:=st.op,A:=E7.reg,B:=E8.reg,C:=E11.reg,Imm:=wrap i32 0}) fun(x2:Int×Bool)=> .lf (x2.fst,x2.snd))); .br (x0==2) T2 (.br (x0==1) T2 (.br (decide (v<x1.fst)) (.lf (0,false)) (.br (decide (v>x1.snd)) (.lf (0,false)) (.lv (Q1 {Op:=st.op,A:=E7.reg,B:=E8.reg,C:=E11.reg,Imm:=wrap i32 v}) fun(x4:Int×Bool)=> .lf (x4.fst,x4.snd))))))))) (let T1:Tree ((Int×Bool)):= .br (decide (x0≥6)) (.cn E9 (let T5:Tree ((Int×Bool)):= .br (decide (0<x1.fst)) (.lf (0,false)) (.br (decide (0>x1.snd)) (.lf (0,false)) (.lv (Q1 {Op:=st.op,A:=E7.reg,B:=0,C:=0,Imm:=wrap i32 0}) fun(x8:Int×Bool)=> .lf (x8.fst,x8.snd))); .br (x0==2) T5 (.br (x0==1) T5 (.br (decide (v<x1.fst)) (.lf (0,false)) (.br (decide (v>x1.snd)) (.lf (0,false)) (.lv (Q1 {Op:=st.op,A:=E7.reg,B:=0,C:=0,Imm:=wrap i32 v}) fun(x10:Int×Bool)=> .lf (x10.fst,x10.snd))))))) (.br (x0 !=1) (.cn E9 (.cn E10 (let T3:Tree ((Int×Bool)):= .br (decide (0<x1.fst)) (.lf (0,false)) (.br (decide (0>x1.snd)) (.lf (0,false)) (.lv (Q1 {Op:=st.op,A:=E7.reg,B:=E8.reg,C:=0,Imm:=wrap i32 0}) fun(x11:Int×Bool)=> .lf (x11.fst,x11.snd))); .br (x0==2) T3 (.br (x0==1) T3 (.br (decide (v<x1.fst)) (.lf (0,false)) (.br (decide (v>x1.snd)) (.lf (0,false)) (.lv (Q1 {Op:=st.op,A:=E7.reg,B:=E8.reg,C:=0,Imm:=wrap i32 v}) fun(x13:Int×Bool)=> .lf (x13.fst,x13.snd)))))))) (let T6:Tree ((Int×Bool)):= .br (decide (0<x1.fst)) (.lf (0,false)) (.br (decide (0>x1.snd)) (.lf (0,false)) (.lv (Q1 {Op:=st.op,A:=0,B:=0,C:=0,Imm:=wrap i32 0}) fun(x14:Int×Bool)=> .lf (x14.fst,x14.snd))); .br (x0==2) T6 (.br (x0==1) T6 (.br (decide (v<x1.fst)) (.lf (0,false)) (.br (decide (v>x1.snd)) (.lf (0,false)) (.lv (Q1 {Op:=st.op,A:=0,B:=0,C:=0,Imm:=wrap i32 v}) fun(x16:Int×Bool)=> .lf (x16.fst,x16.snd))))))); .br (decide (st.op≥32)) (.br (decide (st.op≤36)) (.cn E9 (.cn E12 (.cn E10 (let T4:Tree ((Int×Bool)):= .br (decide (0<x1.fst)) (.lf (0,false)) (.br (decide (0>x1.snd)) (.lf (0,false)) (.lv (Q1 {Op:=st.op,A:=E7.reg,B:=E11.reg,C:=0,Imm:=wrap i32 0}) fun(x5:Int×Bool)=> .lf (x5.fst,x5.snd))); .br (x0==2) T4 (.br (x0==1) T4 (.br (decide (E8.num<x1.fst)) (.lf (0,false)) (.br (decide (E8.num>x1.snd)) (.lf (0,false)) (.lv (Q1 {Op:=st.op,A:=E7.reg,B:=E11.reg,C:=0,Imm:=wrap i32 E8.num}) fun(x7:Int×Bool)=> .lf (x7.fst,x7.snd))))))))) T1) T1)
def Qi4(st:Q05)(v:Int):(Int×Bool):=(Qdo st v).m
abbrev Q68(st:Q05)(v:Int):Prop:=(Qdo st v).p
def Z9h:Q08:=mkP 112 [] true [.agg Q05.sig, .one (.int .i64)] [] (fun args rows=>Q68 (Q05.of (args.getD 0 .dead).cells) (argI args 1)) (fun args rows=>Qi4 (Q05.of (args.getD 0 .dead).cells) (argI args 1)) (fun X=> .tup [.int .u32 (X.1), .bool (X.2)]) (fun X=>[])
theorem Z6z:Q02 Tryz.prog Z9h:=Q0j Q0f Q0g (.cons Qar (.cons Qkn (.cons Q9i (.nil)))) Tryz.func112 Tryz.call112 (fun args rows=>Qdo (Q05.of (args.getD 0 .dead).cells) (argI args 1)) [] [] 2 (fun _ _ _=>by kernel_rfl) (fun _ _=>rfl) (fun _ _ h=>h) (fun _ X=>by kernel_rfl)
end
end Go.Proofs.YtdkiadhigcfmkaaGreat

import Derived.Test.YtmalmklaonainaaGreatMachinePortsYz
set_option maxRecDepth 100000
set_option linter.all false
namespace Go.Proofs.YtmalmklaonainaaGreat
open Go Go.GD Go.IntKind
noncomputable section
instance sumInhZd {α β:Type} [Inhabited β]:Inhabited (α⊕β):=⟨.inr default⟩
def Qgx(src:(List UInt8))(z:(Int)×(Int)×(List (List UInt8))):Nat:=(src.length-z.2.1).toNat
def Q6r(src:(List UInt8)):Tree (List (List UInt8)):=
.lp inferInstance (Qgx src (0,0,[])+1) ((rE (src:List UInt8)/\True/\rE (0:Int)/\rE (0:Int)/\True)/\rE ([]:List (RK.T RK.str))/\True) (0,0,[]) λ(v0:Int×Int×List (List UInt8))=>let E1:=decide (16*(v0.2.2.length+1)<=140737488355328); .br (decide (v0.2.1<(src.length:Int))) (.cn (decide (0<=v0.2.1/\v0.2.1<(src.length:Int))) (.br ((↑(UInt8.toNat (src.getD v0.2.1.toNat (0:UInt8))):Int)==(10:Int)) (.cn (decide (0<=v0.1/\v0.1<=v0.2.1/\v0.2.1<=(src.length:Int))) (.cn E1 (.nx ((rE (src:List UInt8)/\True/\rE ((wrap i64 (v0.2.1+1)):Int)/\rE ((wrap i64 (v0.2.1+1)):Int)/\True)/\rE ((v0.2.2++[List.take (Int.toNat v0.2.1-Int.toNat v0.1) (List.drop v0.1.toNat src)]):List (RK.T RK.str))/\True) (Sum.inl (wrap i64 (v0.2.1+1),wrap i64 (v0.2.1+1),v0.2.2++[List.take (Int.toNat v0.2.1-Int.toNat v0.1) (List.drop v0.1.toNat src)]))))) (.nx ((rE (src:List UInt8)/\True/\rE v0.1/\rE ((wrap i64 (v0.2.1+1)):Int)/\True)/\rE v0.2.2/\True) (Sum.inl (v0.1,wrap i64 (v0.2.1+1),v0.2.2))))) (.br (decide (v0.1<(src.length:Int))) (.cn (decide (0<=v0.1/\v0.1<=(src.length:Int)/\(src.length:Int)<=(src.length:Int))) (.cn E1 (.lf (Sum.inr (v0.2.2++[List.take (Int.toNat (src.length:Int)-Int.toNat v0.1) (List.drop v0.1.toNat src)]))))) (.lf (Sum.inr v0.2.2)))
def Qc6(src:(List UInt8)):(List (List UInt8)):=(Q6r src).m
abbrev Qel(src:(List UInt8)):Prop:=(Q6r src).p
def Qyb:LInv:={
 α:=(Int)×(Int)×(List (List UInt8))
 F:=λst a=>([(0,(lk st 0)),(3, .all 0),(4, .int i64 a.1),(5, .int i64 a.2.1)],[⟨false,9,1, .recs RK.str a.2.2⟩])
 a0:=λst=>((lk st 4).toInt,(lk st 5).toInt,(Qh0 RK.str st.rows (rN st 3)))
 ex0:=λst=>[]++[(rX st 3 0)]}
def Qtn:List (Nat×LInv):=[(4,Qyb)]
def Z0f:Q0d:=mkP 189 [] true [.one (.str)] [] (λargs rows=>Qel (argS args 0)) (λargs rows=>Qc6 (argS args 0)) (λX=> .all 0) (λX=>[⟨false,9,1, .recs .str X⟩])
theorem Qxk:Q07 pG Z0f:=Q0t drawn Q0p (.nil) Tryz.func189 Tryz.call189 (λargs rows=>Q6r (argS args 0)) [.row 9 1 (.recs .str)] Qtn 3
def Qlh(c:Int):Tree Bool:=
.br (decide (c>=97)) (.lf (decide (c<=122))) (.lf false)
def Qdj(c:Int):Bool:=(Qlh c).m
def Qzh:Q0d:=mkR 282 [] true [.one (.int .u8)] [] (λargs rows=>Qdj (argI args 0)) (λX=> .bool X) (λX=>[])
theorem Qjw:Q07 pG Qzh:=Q1w drawn Q0p (.nil) Tryz.func282 Tryz.call282 (λargs rows=>Qlh (argI args 0)) [] [] 2
def Qoh(c:Int):Tree Bool:=
.br (decide (c>=48)) (.lf (decide (c<=57))) (.lf false)
def Qae(c:Int):Bool:=(Qoh c).m
def Z3o:Q0d:=mkR 283 [] true [.one (.int .u8)] [] (λargs rows=>Qae (argI args 0)) (λX=> .bool X) (λX=>[])
theorem Qm7:Q07 pG Z3o:=Q1w drawn Q0p (.nil) Tryz.func283 Tryz.call283 (λargs rows=>Qoh (argI args 0)) [] [] 2
def Qmp(s:(List UInt8))(z:(Bool)×(Int)×(List Q0b)):Nat:=(s.length-z.2.1).toNat
def Qmv(s:(List UInt8))(v0:Bool×Int×List Q0b)(z:(Int)):Nat:=(s.length-z).toNat
def Qo1(s:(List UInt8))(v0:Bool×Int×List Q0b)(z:(Int)):Nat:=(s.length-z).toNat
def Q9m(s:(List UInt8)):Tree ((List Q0b)×Bool):=
.lp inferInstance (Qmp s (true,0,[])+1) ((rE (s:List UInt8)/\True/\rE (true:Bool)/\rE (0:Int)/\True)/\rE ([]:List (RK.T RK.vmfleetref1Token))/\True) (true,0,[]) λ(v0:Bool×Int×List Q0b)=> .br (decide (v0.2.1<(s.length:Int))) (.cn (decide (0<=v0.2.1/\v0.2.1<(s.length:Int))) (let E7:=(↑(UInt8.toNat (s.getD v0.2.1.toNat (0:UInt8))):Int); .br (E7==(32:Int)) (.nx ((rE (s:List UInt8)/\True/\rE (true:Bool)/\rE ((wrap i64 (v0.2.1+1)):Int)/\True)/\rE v0.2.2/\True) (Sum.inl (true,wrap i64 (v0.2.1+1),v0.2.2))) (.lv (Qdj E7) λ(x0:Bool)=>let E10:=decide (32*(v0.2.2.length+1)<=140737488355328);let E13:=List.drop v0.2.1.toNat s; .br x0 (.lp inferInstance (Qmv s v0 v0.2.1+1) ((rE (s:List UInt8)/\True/\rE v0.1/\rE v0.2.1/\rE v0.2.1/\True)/\rE v0.2.2/\True) v0.2.1 λ(v1:Int)=>let T3:Tree ((Int)⊕((Bool×Int×List Q0b)⊕(((List Q0b)×Bool)))):= .cn (decide (0<=v0.2.1/\v0.2.1<=v1/\v1<=(s.length:Int))) (.cn E10 (.nx ((rE (s:List UInt8)/\True/\rE (false:Bool)/\rE (v1:Int)/\True)/\rE ((v0.2.2++[{kind:=1,text:=List.take (Int.toNat v1-Int.toNat v0.2.1) (List.drop v0.2.1.toNat s),gap:=v0.1}]):List (RK.T RK.vmfleetref1Token))/\True) (Sum.inr (Sum.inl (false,v1,v0.2.2++[{kind:=1,text:=List.take (Int.toNat v1-Int.toNat v0.2.1) E13,gap:=v0.1}]))))); .br (decide (v1<(s.length:Int))) (let E11:=decide (0<=v1/\v1<(s.length:Int)); .cn E11 (let E8:=(↑(UInt8.toNat (s.getD v1.toNat (0:UInt8))):Int); .lv (Qdj E8) λ(x1:Bool)=>let T5:Tree ((Int)⊕((Bool×Int×List Q0b)⊕(((List Q0b)×Bool)))):= .nx ((rE (s:List UInt8)/\True/\rE v0.1/\rE ((wrap i64 (v1+1)):Int)/\rE v0.2.1/\True)/\rE v0.2.2/\True) (Sum.inl (wrap i64 (v1+1))); .br x1 T5 (.cn E11 (.lv (Qae E8) λ(x2:Bool)=> .br x2 T5 (.cn E11 (.br (E8==(95:Int)) T5 T3)))))) T3) (.lv (Qae E7) λ(x3:Bool)=>let T2:Tree ((Bool×Int×List Q0b)⊕(((List Q0b)×Bool))):= .lp inferInstance (Qo1 s v0 (wrap i64 (v0.2.1+1))+1) ((rE (s:List UInt8)/\True/\rE v0.1/\rE ((wrap i64 (v0.2.1+1)):Int)/\rE v0.2.1/\True)/\rE v0.2.2/\True) (wrap i64 (v0.2.1+1)) λ(v1:Int)=>let T4:Tree ((Int)⊕((Bool×Int×List Q0b)⊕(((List Q0b)×Bool)))):= .cn (decide (0<=v0.2.1/\v0.2.1<=v1/\v1<=(s.length:Int))) (.cn E10 (.nx ((rE (s:List UInt8)/\True/\rE (false:Bool)/\rE (v1:Int)/\True)/\rE ((v0.2.2++[{kind:=2,text:=List.take (Int.toNat v1-Int.toNat v0.2.1) (List.drop v0.2.1.toNat s),gap:=v0.1}]):List (RK.T RK.vmfleetref1Token))/\True) (Sum.inr (Sum.inl (false,v1,v0.2.2++[{kind:=2,text:=List.take (Int.toNat v1-Int.toNat v0.2.1) E13,gap:=v0.1}]))))); .br (decide (v1<(s.length:Int))) (let E12:=decide (0<=v1/\v1<(s.length:Int)); .cn E12 (let E9:=(↑(UInt8.toNat (s.getD v1.toNat (0:UInt8))):Int); .lv (Qdj E9) λ(x4:Bool)=>let T6:Tree ((Int)⊕((Bool×Int×List Q0b)⊕(((List Q0b)×Bool)))):= .nx ((rE (s:List UInt8)/\True/\rE v0.1/\rE ((wrap i64 (v1+1)):Int)/\rE v0.2.1/\True)/\rE v0.2.2/\True) (Sum.inl (wrap i64 (v1+1))); .br x4 T6 (.cn E12 (.lv (Qae E9) λ(x5:Bool)=> .br x5 T6 (.cn E12 (.br (E9==(95:Int)) T6 T4)))))) T4; .br x3 T2 (.br (E7==(45:Int)) T2 (let T1:Tree ((Bool×Int×List Q0b)⊕(((List Q0b)×Bool))):= .cn (decide (0<=v0.2.1/\v0.2.1<=wrap i64 (v0.2.1+1)/\wrap i64 (v0.2.1+1)<=(s.length:Int))) (.cn E10 (.nx ((rE (s:List UInt8)/\True/\rE (false:Bool)/\rE ((wrap i64 (v0.2.1+1)):Int)/\True)/\rE ((v0.2.2++[{kind:=3,text:=List.take (Int.toNat (wrap i64 (v0.2.1+1))-Int.toNat v0.2.1) (List.drop v0.2.1.toNat s),gap:=v0.1}]):List (RK.T RK.vmfleetref1Token))/\True) (Sum.inl (false,wrap i64 (v0.2.1+1),v0.2.2++[{kind:=3,text:=List.take (Int.toNat (wrap i64 (v0.2.1+1))-Int.toNat v0.2.1) E13,gap:=v0.1}])))); .br (E7==(44:Int)) T1 (.br (E7==(58:Int)) T1 (.br (E7==(40:Int)) T1 (.br (E7==(41:Int)) T1 (.br (E7==(46:Int)) T1 (.lf (Sum.inr ([],false))))))))))))) (.lf (Sum.inr (v0.2.2,true)))
def Qr4(s:(List UInt8)):((List Q0b)×Bool):=(Q9m s).m
abbrev Qd8(s:(List UInt8)):Prop:=(Q9m s).p
def Quq:LInv:={
 α:=(Bool)×(Int)×(List Q0b)
 F:=λst a=>([(0,(lk st 0)),(4, .all 0),(5, .bool a.1),(6, .int i64 a.2.1)],[⟨false,311,3, .recs RK.vmfleetref1Token a.2.2⟩])
 a0:=λst=>((lk st 5).toBool,(lk st 6).toInt,(Qh0 RK.vmfleetref1Token st.rows (rN st 4)))
 ex0:=λst=>[]++[(rX st 4 0)]}
def Qup:LInv:={
 α:=(Int)
 F:=λst a=>([(0,(lk st 0)),(4, .all 0),(5,(lk st 5)),(6, .int i64 a),(8,(lk st 8))],[⟨false,311,3,esOf st.rows (rN st 4)⟩])
 a0:=λst=>(lk st 6).toInt
 ex0:=λst=>[]++[(rX st 4 0)]}
def Qv:LInv:={
 α:=(Int)
 F:=λst a=>([(0,(lk st 0)),(4, .all 0),(5,(lk st 5)),(6, .int i64 a),(8,(lk st 8))],[⟨false,311,3,esOf st.rows (rN st 4)⟩])
 a0:=λst=>(lk st 6).toInt
 ex0:=λst=>[]++[(rX st 4 0)]}
def Qpj:List (Nat×LInv):=[(4,Quq),(12,Qup),(17,Qv)]
def Qz2:Q0d:=mkP 246 [] true [.one (.str)] [] (λargs rows=>Qd8 (argS args 0)) (λargs rows=>Qr4 (argS args 0)) (λX=> .tup [.all 0, .bool (X.2)]) (λX=>[⟨false,311,3, .recs .vmfleetref1Token (X.1)⟩])
theorem Qv3:Q07 pG Qz2:=Q0t drawn Q0p (.cons Qjw (.cons Qm7 (.nil))) Tryz.func246 Tryz.call246 (λargs rows=>Q9m (argS args 0)) [.row 311 3 (.recs .vmfleetref1Token)] Qpj 3
 def digT (p:Int->Prop) (r:Int->List UInt8) (n:Int):Tree (List UInt8):=
 .br (decide (n<(10:Int))) (.lf ([(λ(n:Int)=>UInt8.ofNat n.toNat) (wrap u8 (wrap u64 ((48:Int)+n)))])) (.an (p (wrap u64 (Int.tdiv n (10:Int)))) (.lv (r (wrap u64 (Int.tdiv n (10:Int)))) λ(x0:List UInt8)=> .cn (decide (x0.length+List.length [(λ(n:Int)=>UInt8.ofNat n.toNat) (wrap u8 (wrap u64 ((48:Int)+Int.tmod n (10:Int))))]<=maxLen)) (.lf (x0++[(λ(n:Int)=>UInt8.ofNat n.toNat) (wrap u8 (wrap u64 ((48:Int)+Int.tmod n (10:Int))))]))))
 def digF:Nat->Int->List UInt8
   |0,_=>[]
   |k+1,n=>(digT (λ_=>True) (digF k) n).m
 def digP (k:Nat) (n:Int):Prop:=0<=n/\n<10^k/\n<18446744073709551616/\0<k/\k<=30
 def digM (k:Nat):Q0d:=mkP 123 [] true [.one (.int .u64)] [] (λargs rows=>digP k (argI args 0)) (λargs rows=>digF k (argI args 0)) (λX=> .str X) (λX=>[])
 theorem digF_len: ∀k n,(digF k n).length<=k
   |0,_=>Nat.le_refl _
   | k+1,n=>by
     show(bif decide (n<10) then _ else letv (digF k _) λx0=>x0++_).length<=k+1
     have:=digF_len k (wrap u64 (Int.tdiv n 10))
     cases decide (n<10)
     . simp [letv,Tree.m];omega
     . simp [Tree.m]
 theorem digM_ok: ∀k,Q07 pG (digM k)
   |0=>Z2a Tryz.call123 (λargs rows h=>absurd h.2.2.2.1 (Nat.lt_irrefl 0)) (λ_ X=>by kernel_rfl)
   | k + 1=>by
     refine Q0t drawn Q0p (.cons (digM_ok k) .nil) Tryz.func123 Tryz.call123 (λargs rows=>digT (digP k) (digF k) (argI args 0)) [] [] 2 (λ_ _ _=>by kernel_rfl) (λ_ _=>rfl) (λargs rows h=> ?_) (λ_ X=>by kernel_rfl)
     obtain⟨h0,h1,h2,h3,h4⟩:=h
     generalize argI args 0=n at*
     refine w_br (λ_=>trivial) (λhn=> ?_)
     have hn:=oN hn
     have e:wrap u64 (Int.tdiv n 10)=n/10:=by rw[wrap_u64,Int.tdiv_eq_ediv_of_nonneg h0];omega
     refine w_an (show digP k _ from ?_) (w_lv λx hx=>w_cn (dY ?_) trivial)
     . rw[e]
       rw[Int.pow_succ]at h1
       have hk:0<k:=by
         rcases Nat.eq_zero_or_pos k with rfl|h
         . simp at h1;omega
         . exact h
       exact⟨by omega,by omega,by omega,hk,by omega⟩
     . have:=digF_len k (wrap u64 (Int.tdiv n 10))
       rw[<-hx]at this
       simp [maxLen];omega
def Qa(n:Int):(List UInt8):=
digF 20 n
def Q29(n:Int):Prop:=
0<=n/\n<18446744073709551616
def Qgm(n:Int):List D:=[.int .u64 n]
def Qh1(n:Int):List Row:=[]
def Qcj(X:(List UInt8)):D:= .str X
def Qdb(X:(List UInt8)):List Row:=[]
def Qi0:List PT:=[.one (.int .u64)]
def Qh3:List RT:=[]
def Qsj(args:List D)(rows:List Row):(List UInt8):=Qa (argI args 0)
def Qtg(args:List D)(rows:List Row):Prop:=Q29 (argI args 0)
def Qxd:Q0d:=mkP 123 [] true Qi0 Qh3 Qtg Qsj Qcj Qdb
theorem Qmt(n:Int)(hw:Q29 n):Q3v pG 123 (Qgm n) (Qh1 n) (Qcj (Qa n)) (Qdb (Qa n)):=by
 have h20:(18446744073709551616:Int)<=10^20:=by decide
 exact vr (args:=[.int .u64 n]) (rows:=[]) (digM_ok 20) (by kernel_rfl) ⟨hw.1,Int.lt_of_lt_of_le hw.2 h20,hw.2,by decide,by decide⟩
set_option maxRecDepth 100000 in
theorem Qpr(args:List D)(rows:List Row):Qko Qi0 args 0=Qgm (argI args 0):=by kernel_rfl
set_option maxRecDepth 100000 in
theorem Qmq(args:List D)(rows:List Row):Q95 Qh3 rows 0=Qh1 (argI args 0):=by kernel_rfl
set_option maxRecDepth 100000 in
theorem Qu2(X:(List UInt8)):(ffB (Qcj X)&&ffBR (Qdb X))=true:=by kernel_rfl
theorem Qv7:Q07 pG Qxd:=Z2a Tryz.call123 (λargs rows hp=>by rw[Qpr args rows,Qmq args rows];exact Qmt (argI args 0) hp) (λ_ X=>Qu2 X)
def Q4u(n:Int):Tree (List UInt8):=
.br (decide (n<0)) (let E1:=wrap u64 (wrap u64 (wrap i64 (0-wrap i64 (n+1)))+1); .an (Q29 E1) (.lv (Qa E1) λ(x0:List UInt8)=> .cn (decide (1+x0.length<=maxLen)) (.lf ((45:UInt8)::x0)))) (.an (Q29 (wrap u64 n)) (.lv (Qa (wrap u64 n)) λ(x1:List UInt8)=> .lf x1))
def Q3n(n:Int):(List UInt8):=(Q4u n).m
abbrev Q4a(n:Int):Prop:=(Q4u n).p
def Qty:Q0d:=mkP 35 [] true [.one (.int .i64)] [] (λargs rows=>Q4a (argI args 0)) (λargs rows=>Q3n (argI args 0)) (λX=> .str X) (λX=>[])
theorem Qhp:Q07 pG Qty:=Q0t drawn Q0p (.cons Qv7 (.nil)) Tryz.func35 Tryz.call35 (λargs rows=>Q4u (argI args 0)) [] [] 2
def Qah(r:Int):Tree (List UInt8):=
.an (Q4a r) (.lv (Q3n r) λ(x0:List UInt8)=> .cn (decide (1+x0.length<=maxLen)) (.lf ((114:UInt8)::x0)))
def Z6s(r:Int):(List UInt8):=(Qah r).m
abbrev Qia(r:Int):Prop:=(Qah r).p
def Z8q:Q0d:=mkP 310 [] true [.one (.int .i64)] [] (λargs rows=>Qia (argI args 0)) (λargs rows=>Z6s (argI args 0)) (λX=> .str X) (λX=>[])
theorem Z4j:Q07 pG Z8q:=Q0t drawn Q0p (.cons Qhp (.nil)) Tryz.func310 Tryz.call310 (λargs rows=>Qah (argI args 0)) [] [] 2
def Qjh(s:(List UInt8))(z:(Int)):Prop:=0<=z/\z<=16
def Qap(s:(List UInt8))(z:(Int)):Nat:=(16-z).toNat
def Q78(s:(List UInt8)):Tree (Int×Bool):=
.lp inferInstance (Qap s 0+1) ((rE (s:List UInt8)/\rE (0:Int)/\True)/\True) 0 λ(v0:Int)=> .br (decide (v0<16)) (.an (Qia v0) (.lv (Z6s v0) λ(x0:List UInt8)=> .br (decide (s=x0)) (.lf (Sum.inr (v0,true))) (.nx ((rE (s:List UInt8)/\rE ((wrap i64 (v0+1)):Int)/\True)/\True) (Sum.inl (wrap i64 (v0+1)))))) (.lf (Sum.inr (0,false)))
def Qde(s:(List UInt8)):(Int×Bool):=(Q78 s).m
theorem Qkg(s:(List UInt8)):(Q78 s).p:=by
 unfold Tree.p Q78
 have dp: ∀x,Q29 (wrap .u64 x):=λx=>by unfold Q29;rw[wrap_u64];omega
 have dl: ∀x,(Qa x).length<=20:=λx=>digF_len 20 x
 have hd: ∀x,(Q4u x).w (λr=>r.length<=21):=λx=>by
   unfold Q4u
   refine w_br (λ_=>w_an (dp _) (w_lv λx0 h0=>w_cn (dY ?_) ?_)) (λ_=>w_an (dp _) (w_lv λx1 h1=> ?_))
   . have:=dl (wrap .u64 (wrap .u64 (wrap .i64 (0-wrap .i64 (x+1)))+1));rw[<-h0]at this;simp [maxLen];omega
   . have:=dl (wrap .u64 (wrap .u64 (wrap .i64 (0-wrap .i64 (x+1)))+1));rw[<-h0]at this;show(_::x0).length<=21;simp;omega
   . rw[h1];exact Nat.le_trans (dl _) (by decide)
 have hr: ∀x,(Qah x).p:=λx=>by
   unfold Tree.p Qah
   refine w_an (Tree.pp (hd x)).1 (w_lv λx0 h0=>w_cn (dY ?_) trivial)
   have:(Q3n x).length<=21:=(Tree.pp (hd x)).2
   rw[<-h0]at this;simp [maxLen];omega
 refine w_lp (inv:=Qjh s) (μ:=Qap s) ⟨by decide,by decide⟩ (Nat.lt_succ_self _) (λz hz=> ?_)
 obtain⟨z1,z2⟩:=hz
 refine w_br (λhb=>w_an (hr _) (w_lv λx0 _=>w_br (λ_=>trivial) (λ_=>w_nx ?_))) (λ_=>trivial)
 have hb:=oY hb
 show(0<=i64.wrap (z+1)/\i64.wrap (z+1)<=16)/\(16-i64.wrap (z+1)).toNat<(16-z).toNat
 rw[wrap_i64];omega
def Ql4:LInv:={
 α:=(Int)
 F:=λst a=>([(0,(lk st 0)),(4, .int i64 a)],[])
 a0:=λst=>(lk st 4).toInt
 ex0:=λst=>[]++[]}
def Qjg:List (Nat×LInv):=[(2,Ql4)]
def Qmm:Q0d:=mkR 284 [] true [.one (.str)] [] (λargs rows=>Qde (argS args 0)) (λX=> .tup [.int .i64 (X.1), .bool (X.2)]) (λX=>[])
theorem Qea:Q07 pG Qmm:=Q1w drawn Q0p (.cons Z4j (.nil)) Tryz.func284 Tryz.call284 (λargs rows=>Q78 (argS args 0)) [] Qjg 3 (λ_ _ _=>by kernel_rfl) (λ_ _=>rfl) (λargs rows=>Qkg (argS args 0)) (λ_ X=>by kernel_rfl)
def Qcz(s:(List UInt8)):Tree Bool:=
.lv (Qde s) λ(x0:Int×Bool)=> .br (decide ((s.length:Int)>=(1:Int))) (.br (decide ((s.length:Int)<=(12:Int))) (.cn (decide ((0:Int)<=(0:Int)/\0<(s.length:Int))) (.lv (Qdj (↑(UInt8.toNat (s.getD (Int.toNat 0) (0:UInt8))):Int)) λ(x1:Bool)=> .br x1 (.lf (!x0.2)) (.lf false))) (.lf false)) (.lf false)
def Qrm(s:(List UInt8)):Bool:=(Qcz s).m
abbrev Qby(s:(List UInt8)):Prop:=(Qcz s).p
def Z47:Q0d:=mkP 247 [] true [.one (.str)] [] (λargs rows=>Qby (argS args 0)) (λargs rows=>Qrm (argS args 0)) (λX=> .bool X) (λX=>[])
theorem Qop:Q07 pG Z47:=Q0t drawn Q0p (.cons Qea (.cons Qjw (.nil))) Tryz.func247 Tryz.call247 (λargs rows=>Qcz (argS args 0)) [] [] 2
def Q6q(op:Int):Tree (List UInt8):=
let T1:Tree ((List UInt8)):=let T3:Tree ((List UInt8)):= .br (op==48) (.lf ([(106:UInt8),97,108])) (.br (op==49) (.lf ([(106:UInt8),97,108,114])) (.br (decide (op>=56)) (.br (decide (op<=64)) (.cn (Nat.beq 1 1&&Nat.blt 0 1&&decide (0<=wrap i64 (op-56)/\wrap i64 (op-56)<(↑9:Int))) (.lf (List.getD [[(101:UInt8),99,97,108,108],[(101:UInt8),114,101,116],[(99:UInt8),115,114,114],[(99:UInt8),115,114,119],[(105:UInt8),110],[(111:UInt8),117,116],[(119:UInt8),102,105],[(102:UInt8),108,117,115,104],[(104:UInt8),97,108,116]] (Int.toNat (wrap i64 (op-56))) (RK.dflt RK.str)))) (.lf ([]))) (.lf ([])))); .br (decide (op>=40)) (.br (decide (op<=45)) (.cn (Nat.beq 1 1&&Nat.blt 0 1&&decide (0<=wrap i64 (op-40)/\wrap i64 (op-40)<(↑6:Int))) (.lf (List.getD [[(98:UInt8),101,113],[(98:UInt8),110,101],[(98:UInt8),108,116],[(98:UInt8),103,101],[(98:UInt8),108,116,117],[(98:UInt8),103,101,117]] (Int.toNat (wrap i64 (op-40))) (RK.dflt RK.str)))) T3) T3;let T2:Tree ((List UInt8)):=let T4:Tree ((List UInt8)):= .br (decide (op>=32)) (.br (decide (op<=36)) (.cn (Nat.beq 1 1&&Nat.blt 0 1&&decide (0<=wrap i64 (op-32)/\wrap i64 (op-32)<(↑5:Int))) (.lf (List.getD [[(108:UInt8),119],[(108:UInt8),98],[(108:UInt8),98,117],[(115:UInt8),119],[(115:UInt8),98]] (Int.toNat (wrap i64 (op-32))) (RK.dflt RK.str)))) T1) T1; .br (decide (op>=16)) (.br (decide (op<=24)) (.cn (Nat.beq 1 1&&Nat.blt 0 1&&decide (0<=wrap i64 (op-16)/\wrap i64 (op-16)<(↑9:Int))) (.lf (List.getD [[(97:UInt8),100,100,105],[(97:UInt8),110,100,105],[(111:UInt8),114,105],[(120:UInt8),111,114,105],[(115:UInt8),104,108,105],[(115:UInt8),104,114,105],[(115:UInt8),97,114,105],[(115:UInt8),108,116,105],[(108:UInt8),117,105]] (Int.toNat (wrap i64 (op-16))) (RK.dflt RK.str)))) T4) T4; .br (decide (op>=1)) (.br (decide (op<=13)) (.cn (Nat.beq 1 1&&Nat.blt 0 1&&decide (0<=wrap i64 (op-1)/\wrap i64 (op-1)<(↑13:Int))) (.lf (List.getD [[(97:UInt8),100,100],[(115:UInt8),117,98],[(97:UInt8),110,100],[(111:UInt8),114],[(120:UInt8),111,114],[(115:UInt8),104,108],[(115:UInt8),104,114],[(115:UInt8),97,114],[(109:UInt8),117,108],[(100:UInt8),105,118],[(114:UInt8),101,109],[(115:UInt8),108,116],[(115:UInt8),108,116,117]] (Int.toNat (wrap i64 (op-1))) (RK.dflt RK.str)))) T2) T2
def Qld(op:Int):(List UInt8):=(Q6q op).m
abbrev Qa5(op:Int):Prop:=(Q6q op).p
def Qrd:Q0d:=mkP 286 [] true [.one (.int .i64)] [] (λargs rows=>Qa5 (argI args 0)) (λargs rows=>Qld (argI args 0)) (λX=> .str X) (λX=>[])
theorem Qq2:Q07 pG Qrd:=Q0t drawn Q0p (.nil) Tryz.func286 Tryz.call286 (λargs rows=>Q6q (argI args 0)) [] [] 2
def Qjd(s:(List UInt8))(z:(Int)):Nat:=(65-z).toNat
def Q5y(s:(List UInt8)):Tree Int:=
.lp inferInstance (Qjd s 1+1) ((rE (s:List UInt8)/\rE (1:Int)/\True)/\True) 1 λ(v0:Int)=> .br (decide (v0<=64)) (.lv (Q1p v0) λ(x0:Int)=> .br (decide (x0>0)) (.an (Qa5 v0) (.lv (Qld v0) λ(x1:List UInt8)=> .br (decide (x1=s)) (.lf (Sum.inr v0)) (.nx ((rE (s:List UInt8)/\rE ((wrap i64 (v0+1)):Int)/\True)/\True) (Sum.inl (wrap i64 (v0+1)))))) (.nx ((rE (s:List UInt8)/\rE ((wrap i64 (v0+1)):Int)/\True)/\True) (Sum.inl (wrap i64 (v0+1))))) (.lf (Sum.inr 0))
def Q6(s:(List UInt8)):Int:=(Q5y s).m
abbrev Q2b(s:(List UInt8)):Prop:=(Q5y s).p
def Qmn:LInv:={
 α:=(Int)
 F:=λst a=>([(0,(lk st 0)),(3, .int i64 a)],[])
 a0:=λst=>(lk st 3).toInt
 ex0:=λst=>[]++[]}
def Qk3:List (Nat×LInv):=[(2,Qmn)]
def Qpu:Q0d:=mkP 250 [] true [.one (.str)] [] (λargs rows=>Q2b (argS args 0)) (λargs rows=>Q6 (argS args 0)) (λX=> .int .i64 X) (λX=>[])
theorem Qew:Q07 pG Qpu:=Q0t drawn Q0p (.cons Qe (.cons Qq2 (.nil))) Tryz.func250 Tryz.call250 (λargs rows=>Q5y (argS args 0)) [] Qk3 3
def Q7v(what:(List UInt8)):Tree ((List UInt8)×Bool):=
.an (Q2b what) (.lv (Q6 what) λ(x0:Int)=> .br (decide (what=[(46:UInt8),119,111,114,100])) (.lf ([(120:UInt8)],true)) (.br (decide (what=[(46:UInt8),115,112,97,99,101])) (.lf ([(110:UInt8)],true)) (.br (decide (what=[(108:UInt8),105])) (.lf ([(114:UInt8),44,120],true)) (.br (decide (what=[(109:UInt8),118])) (.lf ([(114:UInt8),44,114],true)) (.br (decide (what=[(110:UInt8),111,112])) (.lf ([],true)) (.br (x0==0) (.lf ([],false)) (let T1:Tree (((List UInt8)×Bool)):= .br (x0==48) (.lf ([(114:UInt8),44,120],true)) (.lv (Q1p x0) λ(x1:Int)=> .br (x1==1) (.lf ([],true)) (.br (x1==2) (.lf ([(114:UInt8),44,114,44,114],true)) (.br (decide (x1>=6)) (.lf ([(114:UInt8),44,110],true)) (.lf ([(114:UInt8),44,114,44,110],true)))));let T2:Tree (((List UInt8)×Bool)):= .br (decide (x0>=40)) (.br (decide (x0<=45)) (.lf ([(114:UInt8),44,114,44,120],true)) T1) T1; .br (decide (x0>=32)) (.br (decide (x0<=36)) (.lf ([(114:UInt8),44,110,40,114,41],true)) T2) T2)))))))
def Qau(what:(List UInt8)):((List UInt8)×Bool):=(Q7v what).m
abbrev Q45(what:(List UInt8)):Prop:=(Q7v what).p
def Qv8:Q0d:=mkP 248 [] true [.one (.str)] [] (λargs rows=>Q45 (argS args 0)) (λargs rows=>Qau (argS args 0)) (λX=> .tup [.str (X.1), .bool (X.2)]) (λX=>[])
theorem Qsr:Q07 pG Qv8:=Q0t drawn Q0p (.cons Qew (.cons Qe (.nil))) Tryz.func248 Tryz.call248 (λargs rows=>Q7v (argS args 0)) [] [] 2
def Qmk(s:(List UInt8))(z:(Int)×(Int)):Nat:=(s.length-z.2).toNat
def Qeq(s:(List UInt8))(z:(Int)×(Int)):Nat:=(s.length-z.2).toNat
def Q9n(s:(List UInt8)):Tree (Int×Bool):=
let E7:=decide ((0:Int)<=(0:Int)/\0<(s.length:Int));let E8:=(↑(UInt8.toNat (s.getD (Int.toNat 0) (0:UInt8))):Int);let T1:Tree ((Int×Bool)):=let T2:Tree ((Int×Bool)):= .br (decide (wrap i64 ((s.length:Int)-(0:Int))<1)) (.lf (0,false)) (.br (decide (wrap i64 ((s.length:Int)-(0:Int))>10)) (.lf (0,false)) (.lp inferInstance (Qeq s (0,0)+1) ((rE (s:List UInt8)/\rE (0:Int)/\rE (0:Int)/\rE (0:Int)/\True)/\True) (0,0) λ(v0:Int×Int)=> .br (decide (v0.2<(s.length:Int))) (let E9:=decide (0<=v0.2/\v0.2<(s.length:Int)); .cn E9 (let E5:=(↑(UInt8.toNat (s.getD v0.2.toNat (0:UInt8))):Int); .lv (Qae E5) λ(x2:Bool)=> .br (!x2) (.lf (Sum.inr (0,false))) (.cn E9 (.nx ((rE (s:List UInt8)/\rE (0:Int)/\rE ((wrap i64 (wrap i64 (10*v0.1)+wrap i64 (wrap u8 ((↑(UInt8.toNat (s.getD v0.2.toNat (0:UInt8))):Int)-(48:Int))))):Int)/\rE ((wrap i64 (v0.2+1)):Int)/\True)/\True) (Sum.inl (wrap i64 (wrap i64 (10*v0.1)+wrap i64 (wrap u8 (E5-(48:Int)))),wrap i64 (v0.2+1))))))) (.br (decide (v0.1>=(-2147483648))) (.lf (Sum.inr (v0.1,decide (v0.1<=4294967295)))) (.lf (Sum.inr (v0.1,false)))))); .br (decide ((s.length:Int)>(0:Int))) (.cn E7 (.br (E8==(45:Int)) (.br (decide (wrap i64 ((s.length:Int)-(1:Int))<1)) (.lf (0,false)) (.br (decide (wrap i64 ((s.length:Int)-(1:Int))>10)) (.lf (0,false)) (.lp inferInstance (Qeq s (0,1)+1) ((rE (s:List UInt8)/\rE (1:Int)/\rE (0:Int)/\rE (1:Int)/\True)/\True) (0,1) λ(v0:Int×Int)=> .br (decide (v0.2<(s.length:Int))) (let E10:=decide (0<=v0.2/\v0.2<(s.length:Int)); .cn E10 (let E6:=(↑(UInt8.toNat (s.getD v0.2.toNat (0:UInt8))):Int); .lv (Qae E6) λ(x1:Bool)=> .br (!x1) (.lf (Sum.inr (0,false))) (.cn E10 (.nx ((rE (s:List UInt8)/\rE (1:Int)/\rE ((wrap i64 (wrap i64 (10*v0.1)+wrap i64 (wrap u8 ((↑(UInt8.toNat (s.getD v0.2.toNat (0:UInt8))):Int)-(48:Int))))):Int)/\rE ((wrap i64 (v0.2+1)):Int)/\True)/\True) (Sum.inl (wrap i64 (wrap i64 (10*v0.1)+wrap i64 (wrap u8 (E6-(48:Int)))),wrap i64 (v0.2+1))))))) (.br (decide (wrap i64 (0-v0.1)>=(-2147483648))) (.lf (Sum.inr (wrap i64 (0-v0.1),decide (wrap i64 (0-v0.1)<=4294967295)))) (.lf (Sum.inr (wrap i64 (0-v0.1),false))))))) T2)) T2; .br (decide ((s.length:Int)>(2:Int))) (.cn E7 (.br (E8==(48:Int)) (.cn (decide ((0:Int)<=(1:Int)/\1<(s.length:Int))) (.br ((↑(UInt8.toNat (s.getD (Int.toNat 1) (0:UInt8))):Int)==(120:Int)) (.br (decide ((s.length:Int)>(10:Int))) (.lf (0,false)) (.lp inferInstance (Qmk s (0,2)+1) ((rE (s:List UInt8)/\rE (0:Int)/\rE (2:Int)/\True)/\True) (0,2) λ(v0:Int×Int)=> .br (decide (v0.2<(s.length:Int))) (let E4:=decide (0<=v0.2/\v0.2<(s.length:Int)); .cn E4 (let E3:=(↑(UInt8.toNat (s.getD v0.2.toNat (0:UInt8))):Int); .lv (Qae E3) λ(x0:Bool)=> .br x0 (.cn E4 (.nx ((rE (s:List UInt8)/\rE ((wrap i64 (wrap i64 (16*v0.1)+wrap i64 (wrap u8 ((↑(UInt8.toNat (s.getD v0.2.toNat (0:UInt8))):Int)-(48:Int))))):Int)/\rE ((wrap i64 (v0.2+1)):Int)/\True)/\True) (Sum.inl (wrap i64 (wrap i64 (16*v0.1)+wrap i64 (wrap u8 (E3-(48:Int)))),wrap i64 (v0.2+1))))) (.cn E4 (.br (decide (E3>=(97:Int))) (.cn E4 (.br (decide (E3<=(102:Int))) (.cn E4 (.nx ((rE (s:List UInt8)/\rE ((wrap i64 (wrap i64 (wrap i64 (16*v0.1)+wrap i64 (wrap u8 ((↑(UInt8.toNat (s.getD v0.2.toNat (0:UInt8))):Int)-(97:Int))))+10)):Int)/\rE ((wrap i64 (v0.2+1)):Int)/\True)/\True) (Sum.inl (wrap i64 (wrap i64 (wrap i64 (16*v0.1)+wrap i64 (wrap u8 (E3-(97:Int))))+10),wrap i64 (v0.2+1))))) (.lf (Sum.inr (0,false))))) (.lf (Sum.inr (0,false))))))) (.lf (Sum.inr (v0.1,true))))) T1)) T1)) T1
def Qti(s:(List UInt8)):(Int×Bool):=(Q9n s).m
abbrev Qcn(s:(List UInt8)):Prop:=(Q9n s).p
def Qu:LInv:={
 α:=(Int)×(Int)
 F:=λst a=>([(0,(lk st 0)),(4, .int i64 a.1),(5, .int i64 a.2)],[])
 a0:=λst=>((lk st 4).toInt,(lk st 5).toInt)
 ex0:=λst=>[]++[]}
def Qun:LInv:={
 α:=(Int)×(Int)
 F:=λst a=>([(0,(lk st 0)),(6,(lk st 6)),(7, .int i64 a.1),(8, .int i64 a.2)],[])
 a0:=λst=>((lk st 7).toInt,(lk st 8).toInt)
 ex0:=λst=>[]++[]}
def Qps:List (Nat×LInv):=[(6,Qu),(21,Qun)]
def Qxw:Q0d:=mkP 285 [] true [.one (.str)] [] (λargs rows=>Qcn (argS args 0)) (λargs rows=>Qti (argS args 0)) (λX=> .tup [.int .i64 (X.1), .bool (X.2)]) (λX=>[])
theorem Qu1:Q07 pG Qxw:=Q0t drawn Q0p (.cons Qm7 (.nil)) Tryz.func285 Tryz.call285 (λargs rows=>Q9n (argS args 0)) [] Qps 3
def Qkv(l:(List Q0b))(p:(List UInt8))(z:(Int)×(List Q0h)):Nat:=(l.length-z.1).toNat
def Q8(l:(List Q0b))(p:(List UInt8)):Tree ((List Q0h)×Bool):=
.br ((l.length:Int) !=(p.length:Int)) (.lf ([],false)) (.lp inferInstance (Qkv l p (0,[])+1) ((nR RK.vmfleetref1Token 3 l/\rE (p:List UInt8)/\True/\rE (0:Int)/\True)/\rE ([]:List (RK.T RK.vmfleetref1Arg))/\True) (0,[]) λ(v0:Int×List Q0h)=> .br (decide (v0.1<(l.length:Int))) (.cn (Nat.beq 3 3&&Nat.blt 0 3&&decide (0<=v0.1/\v0.1<(l.length:Int))) (let E6:=decide (0<=v0.1/\v0.1<(p.length:Int)); .cn E6 (let E3:=l.getD v0.1.toNat (RK.dflt RK.vmfleetref1Token);let E4:=(↑(UInt8.toNat (p.getD v0.1.toNat (0:UInt8))):Int);let E5:=decide (32*(v0.2.length+1)<=140737488355328); .br (E4==(114:Int)) (.lv (Qde E3.text) λ(x0:Int×Bool)=> .br (E3.kind !=1) (.lf (Sum.inr ([],false))) (.br (!x0.2) (.lf (Sum.inr ([],false))) (.cn E5 (.nx ((nR RK.vmfleetref1Token 3 l/\rE (p:List UInt8)/\True/\rE ((wrap i64 (v0.1+1)):Int)/\True)/\rE ((v0.2++[{reg:=x0.1,num:=0,label:=[]}]):List (RK.T RK.vmfleetref1Arg))/\True) (Sum.inl (wrap i64 (v0.1+1),v0.2++[{reg:=x0.1,num:=0,label:=[]}])))))) (let T1:Tree ((Int×List Q0h)⊕(((List Q0h)×Bool))):= .an (Qcn E3.text) (.lv (Qti E3.text) λ(x2:Int×Bool)=> .br (E3.kind !=2) (.lf (Sum.inr ([],false))) (.br (!x2.2) (.lf (Sum.inr ([],false))) (.cn E5 (.nx ((nR RK.vmfleetref1Token 3 l/\rE (p:List UInt8)/\True/\rE ((wrap i64 (v0.1+1)):Int)/\True)/\rE ((v0.2++[{reg:=0,num:=x2.1,label:=[]}]):List (RK.T RK.vmfleetref1Arg))/\True) (Sum.inl (wrap i64 (v0.1+1),v0.2++[{reg:=0,num:=x2.1,label:=[]}]))))));let T2:Tree ((Int×List Q0h)⊕(((List Q0h)×Bool))):= .cn E6 (.br (E4==(120:Int)) (.br (E3.kind==1) (.an (Qby E3.text) (.lv (Qrm E3.text) λ(x1:Bool)=> .br x1 (.cn E5 (.nx ((nR RK.vmfleetref1Token 3 l/\rE (p:List UInt8)/\True/\rE ((wrap i64 (v0.1+1)):Int)/\True)/\rE ((v0.2++[{reg:=0,num:=0,label:=(l.getD v0.1.toNat (RK.dflt RK.vmfleetref1Token)).text}]):List (RK.T RK.vmfleetref1Arg))/\True) (Sum.inl (wrap i64 (v0.1+1),v0.2++[{reg:=0,num:=0,label:=E3.text}])))) T1)) T1) T1); .br (E4==(110:Int)) T2 (.br (E4==(120:Int)) T2 (.br (E3.kind !=3) (.lf (Sum.inr ([],false))) (.cn (decide (0<=v0.1/\v0.1<=wrap i64 (v0.1+1)/\wrap i64 (v0.1+1)<=(p.length:Int))) (.br (!decide (E3.text=List.take (Int.toNat (wrap i64 (v0.1+1))-Int.toNat v0.1) (List.drop v0.1.toNat p))) (.lf (Sum.inr ([],false))) (.nx ((nR RK.vmfleetref1Token 3 l/\rE (p:List UInt8)/\True/\rE ((wrap i64 (v0.1+1)):Int)/\True)/\rE v0.2/\True) (Sum.inl (wrap i64 (v0.1+1),v0.2))))))))))) (.lf (Sum.inr (v0.2,true))))
def Qb6(l:(List Q0b))(p:(List UInt8)):((List Q0h)×Bool):=(Q8 l p).m
abbrev Q46(l:(List Q0b))(p:(List UInt8)):Prop:=(Q8 l p).p
def Qs1:LInv:={
 α:=(Int)×(List Q0h)
 F:=λst a=>([(0,(lk st 0)),(1,(lk st 1)),(6, .all 0),(7, .int i64 a.1)],[⟨false,183,3, .recs RK.vmfleetref1Arg a.2⟩])
 a0:=λst=>((lk st 7).toInt,(Qh0 RK.vmfleetref1Arg st.rows (rN st 6)))
 ex0:=λst=>[]++[(rX st 6 0)]}
def Qmh:List (Nat×LInv):=[(5,Qs1)]
def Qux:Q0d:=mkP 249 [] true [.one (.recs .vmfleetref1Token), .one (.str)] [] (λargs rows=>Q46 (argR .vmfleetref1Token args 0) (argS args 1)) (λargs rows=>Qb6 (argR .vmfleetref1Token args 0) (argS args 1)) (λX=> .tup [.all 0, .bool (X.2)]) (λX=>[⟨false,183,3, .recs .vmfleetref1Arg (X.1)⟩])
theorem Qrf:Q07 pG Qux:=Q0t drawn Q0p (.cons Qea (.cons Qop (.cons Qu1 (.nil)))) Tryz.func249 Tryz.call249 (λargs rows=>Q8 (argR .vmfleetref1Token args 0) (argS args 1)) [.row 183 3 (.recs .vmfleetref1Arg)] Qmh 3
def Qnq(s:(List UInt8))(z:(List UInt8)×(Int)):Nat:=(s.length-z.2).toNat
def Q99(s:(List UInt8)):Tree ((List UInt8)×Q02×Bool):=
.lp inferInstance (Qnq s (s,0)+1) ((rE (s:List UInt8)/\rE ([]:List UInt8)/\rZ/\rE (false:Bool)/\rE (0:Int)/\True)/\(rE ([]:List UInt8)/\rE (0:Int)/\True/\rE (0:Int)/\rE (0:Int)/\rE (0:Int)/\True)/\True) (s,0) λ(v0:List UInt8×Int)=> .br (decide (v0.2<(v0.1.length:Int))) (.cn (decide (0<=v0.2/\v0.2<(v0.1.length:Int))) (.br ((↑(UInt8.toNat (v0.1.getD v0.2.toNat (0:UInt8))):Int)==(59:Int)) (.cn (decide ((0:Int)<=(0:Int)/\0<=v0.2/\v0.2<=(v0.1.length:Int))) (.nx ((rE ((List.take (Int.toNat v0.2-Int.toNat 0) (List.drop (Int.toNat 0) v0.1)):List UInt8)/\rE ([]:List UInt8)/\rZ/\rE (false:Bool)/\rE ((wrap i64 (v0.2+1)):Int)/\True)/\(rE ([]:List UInt8)/\rE (0:Int)/\True/\rE (0:Int)/\rE (0:Int)/\rE (0:Int)/\True)/\True) (Sum.inl (List.take (Int.toNat v0.2-Int.toNat 0) (List.drop (Int.toNat 0) v0.1),wrap i64 (v0.2+1))))) (.nx ((rE v0.1/\rE ([]:List UInt8)/\rZ/\rE (false:Bool)/\rE ((wrap i64 (v0.2+1)):Int)/\True)/\(rE ([]:List UInt8)/\rE (0:Int)/\True/\rE (0:Int)/\rE (0:Int)/\rE (0:Int)/\True)/\True) (Sum.inl (v0.1,wrap i64 (v0.2+1)))))) (.an (Qd8 v0.1) (.lv (Qr4 v0.1) λ(x0:List Q0b×Bool)=> .br (!x0.2) (.lf (Sum.inr ([],{what:=[],op:=0,l:=[],line:=0,at_:=0,size:=0},false))) (let E9:=x0.1.getD (Int.toNat 0) (RK.dflt RK.vmfleetref1Token);let T1:Tree ((List UInt8×Int)⊕(((List UInt8)×Q02×Bool))):= .an (Q45 E9.text) (.lv (Qau E9.text) λ(x27:List UInt8×Bool)=> .br (!x27.2) (.lf (Sum.inr ([],{what:=[],op:=0,l:=[],line:=0,at_:=0,size:=0},false))) (let E20:=Int.toNat (x0.1.length:Int)-Int.toNat 1;let T6:Tree ((List UInt8×Int)⊕(((List UInt8)×Q02×Bool))):=let E31:=List.take E20 (List.drop (Int.toNat 1) x0.1); .an (Q46 E31 x27.1) (.lv (Qb6 E31 x27.1) λ(x28:List Q0h×Bool)=> .br (!x28.2) (.lf (Sum.inr ([],{what:=[],op:=0,l:=[],line:=0,at_:=0,size:=0},false))) (.an (Q2b E9.text) (.lv (Q6 E9.text) λ(x29:Int)=> .br (decide (E9.text=[(108:UInt8),105])) (.lf (Sum.inr ([],{what:=E9.text,op:=x29,l:=x28.1,line:=0,at_:=0,size:=2},true))) (.br (decide (E9.text=[(46:UInt8),115,112,97,99,101])) (let E13:=Nat.beq 3 3&&Nat.blt 0 3&&decide ((0:Int)<=(0:Int)/\0<(x28.1.length:Int)); .cn E13 (let E21:=x28.1.getD (Int.toNat 0) (RK.dflt RK.vmfleetref1Arg); .br (decide (E21.num<0)) (.lf (Sum.inr ([],{what:=[],op:=0,l:=[],line:=0,at_:=0,size:=0},false))) (.cn E13 (.br (decide (E21.num>1024)) (.lf (Sum.inr ([],{what:=[],op:=0,l:=[],line:=0,at_:=0,size:=0},false))) (.cn E13 (.lf (Sum.inr ([],{what:=E9.text,op:=x29,l:=x28.1,line:=0,at_:=0,size:=E21.num},true)))))))) (.lf (Sum.inr ([],{what:=E9.text,op:=x29,l:=x28.1,line:=0,at_:=0,size:=1},true))))))); .br (decide ((↑E20:Int)>(0:Int))) (.cn (Nat.beq 3 3&&Nat.blt 0 3&&decide ((0:Int)<=(0:Int)/\0<(↑E20:Int))) (.br (!(x0.1.getD (Int.toNat 1+Int.toNat 0) (RK.dflt RK.vmfleetref1Token)).gap) (.lf (Sum.inr ([],{what:=[],op:=0,l:=[],line:=0,at_:=0,size:=0},false))) T6)) T6));let E25:=Int.toNat (x0.1.length:Int)-Int.toNat 2;let E8:=(↑E25:Int);let E10:=x0.1.getD (Int.toNat 2+Int.toNat 0) (RK.dflt RK.vmfleetref1Token);let E12:=x0.1.getD (Int.toNat 1) (RK.dflt RK.vmfleetref1Token);let E16:=Nat.beq 3 3&&Nat.blt 0 3&&decide ((0:Int)<=(0:Int)/\0<(x0.1.length:Int));let E17:=Nat.beq 3 3&&Nat.blt 0 3&&decide ((0:Int)<=(1:Int)/\1<(x0.1.length:Int));let E19:=Nat.beq 3 3&&Nat.blt 0 3&&decide ((0:Int)<=(2:Int)/\2<=(x0.1.length:Int)/\(x0.1.length:Int)<=(x0.1.length:Int));let E28:=Nat.beq 3 3&&Nat.blt 0 3&&decide ((0:Int)<=(0:Int)/\0<E8);let E30:=decide ((x0.1.length:Int)>=(2:Int));let T3:Tree ((List UInt8×Int)⊕(((List UInt8)×Q02×Bool))):= .br ((x0.1.length:Int)==(0:Int)) (.lf (Sum.inr ([],{what:=[],op:=0,l:=[],line:=0,at_:=0,size:=0},true))) (.cn E16 (.cn (Nat.beq 3 3&&Nat.blt 0 3&&decide ((0:Int)<=(1:Int)/\1<=(x0.1.length:Int)/\(x0.1.length:Int)<=(x0.1.length:Int))) (.br (decide (E9.text=[(46:UInt8)])) (.br E30 (.cn E17 (.br (!E12.gap) (.cn E17 (.cn (decide (1+List.length E12.text<=maxLen)) (.cn E19 (.an (Q45 ((46:UInt8)::E12.text)) (.lv (Qau ([(46:UInt8)]++E12.text)) λ(x22:List UInt8×Bool)=> .br (!x22.2) (.lf (Sum.inr ([],{what:=[],op:=0,l:=[],line:=0,at_:=0,size:=0},false))) (let T7:Tree ((List UInt8×Int)⊕(((List UInt8)×Q02×Bool))):=let E32:=List.take E25 (List.drop (Int.toNat 2) x0.1); .an (Q46 E32 x22.1) (.lv (Qb6 E32 x22.1) λ(x23:List Q0h×Bool)=> .br (!x23.2) (.lf (Sum.inr ([],{what:=[],op:=0,l:=[],line:=0,at_:=0,size:=0},false))) (.an (Q2b ((46:UInt8)::E12.text)) (.lv (Q6 ([(46:UInt8)]++E12.text)) λ(x24:Int)=> .br (decide ([(46:UInt8)]++E12.text=[(46:UInt8),115,112,97,99,101])) (let E14:=Nat.beq 3 3&&Nat.blt 0 3&&decide ((0:Int)<=(0:Int)/\0<(x23.1.length:Int)); .cn E14 (let E22:=x23.1.getD (Int.toNat 0) (RK.dflt RK.vmfleetref1Arg); .br (decide (E22.num<0)) (.lf (Sum.inr ([],{what:=[],op:=0,l:=[],line:=0,at_:=0,size:=0},false))) (.cn E14 (.br (decide (E22.num>1024)) (.lf (Sum.inr ([],{what:=[],op:=0,l:=[],line:=0,at_:=0,size:=0},false))) (.cn E14 (.lf (Sum.inr ([],{what:=(46:UInt8)::E12.text,op:=x24,l:=x23.1,line:=0,at_:=0,size:=E22.num},true)))))))) (.lf (Sum.inr ([],{what:=(46:UInt8)::E12.text,op:=x24,l:=x23.1,line:=0,at_:=0,size:=1},true)))))); .br (decide (E8>(0:Int))) (.cn E28 (.br (!E10.gap) (.lf (Sum.inr ([],{what:=[],op:=0,l:=[],line:=0,at_:=0,size:=0},false))) T7)) T7)))))) T1)) T1) T1))); .br E30 (.cn E17 (.br (decide (E12.text=[(58:UInt8)])) (.cn E16 (.cn E16 (.br (E9.kind !=1) (.lf (Sum.inr ([],{what:=[],op:=0,l:=[],line:=0,at_:=0,size:=0},false))) (.an (Qby E9.text) (.lv (Qrm E9.text) λ(x1:Bool)=> .br (!x1) (.lf (Sum.inr ([],{what:=[],op:=0,l:=[],line:=0,at_:=0,size:=0},false))) (.cn E19 (.br (E8==(0:Int)) (.lf (Sum.inr (E9.text,{what:=[],op:=0,l:=[],line:=0,at_:=0,size:=0},true))) (.cn E28 (.cn (Nat.beq 3 3&&Nat.blt 0 3&&decide ((0:Int)<=(1:Int)/\1<=E8/\E8<=E8)) (let T2:Tree ((List UInt8×Int)⊕(((List UInt8)×Q02×Bool))):= .an (Q45 E10.text) (.lv (Qau E10.text) λ(x7:List UInt8×Bool)=> .br (!x7.2) (.lf (Sum.inr ([],{what:=[],op:=0,l:=[],line:=0,at_:=0,size:=0},false))) (let T4:Tree ((List UInt8×Int)⊕(((List UInt8)×Q02×Bool))):=let E26:=List.take (Int.toNat E8-Int.toNat 1) (List.drop (Int.toNat 2+Int.toNat 1) x0.1); .an (Q46 E26 x7.1) (.lv (Qb6 E26 x7.1) λ(x8:List Q0h×Bool)=> .br (!x8.2) (.lf (Sum.inr ([],{what:=[],op:=0,l:=[],line:=0,at_:=0,size:=0},false))) (.an (Q2b E10.text) (.lv (Q6 E10.text) λ(x9:Int)=> .br (decide (E10.text=[(108:UInt8),105])) (.lf (Sum.inr (E9.text,{what:=E10.text,op:=x9,l:=x8.1,line:=0,at_:=0,size:=2},true))) (.br (decide (E10.text=[(46:UInt8),115,112,97,99,101])) (let E15:=Nat.beq 3 3&&Nat.blt 0 3&&decide ((0:Int)<=(0:Int)/\0<(x8.1.length:Int)); .cn E15 (let E23:=x8.1.getD (Int.toNat 0) (RK.dflt RK.vmfleetref1Arg); .br (decide (E23.num<0)) (.lf (Sum.inr ([],{what:=[],op:=0,l:=[],line:=0,at_:=0,size:=0},false))) (.cn E15 (.br (decide (E23.num>1024)) (.lf (Sum.inr ([],{what:=[],op:=0,l:=[],line:=0,at_:=0,size:=0},false))) (.cn E15 (.lf (Sum.inr (E9.text,{what:=E10.text,op:=x9,l:=x8.1,line:=0,at_:=0,size:=E23.num},true)))))))) (.lf (Sum.inr (E9.text,{what:=E10.text,op:=x9,l:=x8.1,line:=0,at_:=0,size:=1},true))))))); .br (decide ((↑(Int.toNat E8-Int.toNat 1):Int)>(0:Int))) (.cn (Nat.beq 3 3&&Nat.blt 0 3&&decide ((0:Int)<=(0:Int)/\0<(↑(Int.toNat E8-Int.toNat 1):Int))) (.br (!(x0.1.getD (Int.toNat 2+Int.toNat 1+Int.toNat 0) (RK.dflt RK.vmfleetref1Token)).gap) (.lf (Sum.inr ([],{what:=[],op:=0,l:=[],line:=0,at_:=0,size:=0},false))) T4)) T4)); .br (decide (E10.text=[(46:UInt8)])) (.br (decide (E8>=(2:Int))) (let E29:=Nat.beq 3 3&&Nat.blt 0 3&&decide ((0:Int)<=(1:Int)/\1<E8); .cn E29 (let E11:=x0.1.getD (Int.toNat 2+Int.toNat 1) (RK.dflt RK.vmfleetref1Token); .br (!E11.gap) (.cn E29 (.cn (decide (1+List.length E11.text<=maxLen)) (.cn (Nat.beq 3 3&&Nat.blt 0 3&&decide ((0:Int)<=(2:Int)/\2<=E8/\E8<=E8)) (.an (Q45 ((46:UInt8)::E11.text)) (.lv (Qau ([(46:UInt8)]++E11.text)) λ(x2:List UInt8×Bool)=> .br (!x2.2) (.lf (Sum.inr ([],{what:=[],op:=0,l:=[],line:=0,at_:=0,size:=0},false))) (let T5:Tree ((List UInt8×Int)⊕(((List UInt8)×Q02×Bool))):=let E27:=List.take (Int.toNat E8-Int.toNat 2) (List.drop (Int.toNat 2+Int.toNat 2) x0.1); .an (Q46 E27 x2.1) (.lv (Qb6 E27 x2.1) λ(x3:List Q0h×Bool)=> .br (!x3.2) (.lf (Sum.inr ([],{what:=[],op:=0,l:=[],line:=0,at_:=0,size:=0},false))) (.an (Q2b ((46:UInt8)::E11.text)) (.lv (Q6 ([(46:UInt8)]++E11.text)) λ(x4:Int)=> .br (decide ([(46:UInt8)]++E11.text=[(46:UInt8),115,112,97,99,101])) (let E18:=Nat.beq 3 3&&Nat.blt 0 3&&decide ((0:Int)<=(0:Int)/\0<(x3.1.length:Int)); .cn E18 (let E24:=x3.1.getD (Int.toNat 0) (RK.dflt RK.vmfleetref1Arg); .br (decide (E24.num<0)) (.lf (Sum.inr ([],{what:=[],op:=0,l:=[],line:=0,at_:=0,size:=0},false))) (.cn E18 (.br (decide (E24.num>1024)) (.lf (Sum.inr ([],{what:=[],op:=0,l:=[],line:=0,at_:=0,size:=0},false))) (.cn E18 (.lf (Sum.inr (E9.text,{what:=(46:UInt8)::E11.text,op:=x4,l:=x3.1,line:=0,at_:=0,size:=E24.num},true)))))))) (.lf (Sum.inr (E9.text,{what:=(46:UInt8)::E11.text,op:=x4,l:=x3.1,line:=0,at_:=0,size:=1},true)))))); .br (decide ((↑(Int.toNat E8-Int.toNat 2):Int)>(0:Int))) (.cn (Nat.beq 3 3&&Nat.blt 0 3&&decide ((0:Int)<=(0:Int)/\0<(↑(Int.toNat E8-Int.toNat 2):Int))) (.br (!(x0.1.getD (Int.toNat 2+Int.toNat 2+Int.toNat 0) (RK.dflt RK.vmfleetref1Token)).gap) (.lf (Sum.inr ([],{what:=[],op:=0,l:=[],line:=0,at_:=0,size:=0},false))) T5)) T5)))))) T2)) T2) T2)))))))))) T3)) T3)))
def Qfw(s:(List UInt8)):((List UInt8)×Q02×Bool):=(Q99 s).m
abbrev Q70(s:(List UInt8)):Prop:=(Q99 s).p
def Quf:LInv:={
 α:=(List UInt8)×(Int)
 F:=λst a=>([(0, .str a.1),(2,(lk st 2)),(3, .ptr 0 0 0),(4,(lk st 4)),(5, .int i64 a.2)],[⟨true,181,6, .gen [[(cT st 3 0),(cT st 3 1),(cT st 3 2),(cT st 3 3),(cT st 3 4),(cT st 3 5)]]⟩])
 a0:=λst=>((lk st 0).toStr,(lk st 5).toInt)
 ex0:=λst=>[]++[(rX st 3 0)]}
def Qpa:List (Nat×LInv):=[(2,Quf)]
def Z07:Q0d:=mkP 190 [] false [.one (.str)] [] (λargs rows=>Q70 (argS args 0)) (λargs rows=>Qfw (argS args 0)) (λX=> .tup [.str (X.1), .agg (Q02.cells (X.2.1)), .bool (X.2.2)]) (λX=>[])
theorem Qu5:Q07 pG Z07:=Q0t drawn Q0p (.cons Qv3 (.cons Qop (.cons Qsr (.cons Qrf (.cons Qew (.nil)))))) Tryz.func190 Tryz.call190 (λargs rows=>Q99 (argS args 0)) [.sl (.recs .vmfleetref1Arg) false] Qpa 3 (λ_ _ _=>by kernel_rfl) (λ_ _=>rfl) (λ_ _ h=>h) (λh=>by cases h)
def Qf8(l:(List Q1d))(label:(List UInt8))(z:(Int)):Prop:=0<=z/\z<=l.length
def Q96(l:(List Q1d))(label:(List UInt8))(z:(Int)):Nat:=(l.length-z).toNat
def Qak(l:(List Q1d))(label:(List UInt8)):Tree (Int×Bool):=
.lp inferInstance (Q96 l label 0+1) ((nR RK.apiSymbol 2 l/\rE (label:List UInt8)/\rE (0:Int)/\True)/\True) 0 λ(v0:Int)=> .br (decide (v0<(l.length:Int))) (let E1:=Nat.beq 2 2&&Nat.blt 0 2&&decide (0<=v0/\v0<(l.length:Int)); .cn E1 (let E2:=l.getD v0.toNat (RK.dflt RK.apiSymbol); .br (decide (E2.Name=label)) (.cn E1 (.lf (Sum.inr (E2.Addr,true)))) (.nx ((nR RK.apiSymbol 2 l/\rE (label:List UInt8)/\rE ((wrap i64 (v0+1)):Int)/\True)/\True) (Sum.inl (wrap i64 (v0+1)))))) (.lf (Sum.inr (0,false)))
def Qhn(l:(List Q1d))(label:(List UInt8)):(Int×Bool):=(Qak l label).m
def Q2c(l:(List Q1d))(label:(List UInt8)):Prop:=
l.length<=1000000000000
theorem Qpv(l:(List Q1d))(label:(List UInt8))(hw:Q2c l label):(Qak l label).p:=by
 simp only[Q2c]at hw
 unfold Tree.p Qak
 repeat'(first|refine w_lp (inv:=Qf8 l label) (μ:=Q96 l label) ?_ (Nat.lt_succ_self _) (λ_ _=> ?_)|exact trivial|refine w_br (λ_=> ?_) (λ_=> ?_)|refine w_cn ?_ ?_|refine w_an ?_ ?_|refine w_lv (λ_ _=> ?_)|refine w_nx ?_|refine w_lf ?_|refine And.intro ?_ ?_)
 all_goals((try simp only[Qf8,Q96]at*);exact fin0)
def Qtp:LInv:={
 α:=(Int)
 F:=λst a=>([(0,(lk st 0)),(1,(lk st 1)),(6, .int i64 a)],[])
 a0:=λst=>(lk st 6).toInt
 ex0:=λst=>[]++[]}
def Qmx:List (Nat×LInv):=[(2,Qtp)]
def Qv4:Q0d:=mkP 125 [] true [.one (.recs .apiSymbol), .one (.str)] [] (λargs rows=>Q2c (argR .apiSymbol args 0) (argS args 1)) (λargs rows=>Qhn (argR .apiSymbol args 0) (argS args 1)) (λX=> .tup [.int .u32 (X.1), .bool (X.2)]) (λX=>[])
theorem Qhw:Q07 pG Qv4:=Q0t drawn Q0p (.nil) Tryz.func125 Tryz.call125 (λargs rows=>Qak (argR .apiSymbol args 0) (argS args 1)) [] Qmx 3 (hp:=λargs rows h=>Qpv (argR .apiSymbol args 0) (argS args 1) h)
def Qht(src:(List UInt8))(z:(Int)×(Int)×(List Q1d)×(List Q02)):Nat:=((Qc6 src).length-z.2.1).toNat
def Q8h(src:(List UInt8)):Tree ((List Q1d)×(List Q02)×Q0q):=
.br (decide ((src.length:Int)>(8192:Int))) (.lf ([],[],{Err:=300,D7:=0})) (.an (Qel src) (.lv (Qc6 src) λ(x0:List (List UInt8))=> .lp inferInstance (Qht src (0,0,[],[])+1) ((rZ/\True/\True/\rE (0:Int)/\True/\rE (0:Int)/\True)/\(rE (0:Int)/\rE (0:Int)/\True)/\rE (x0:List (RK.T RK.str))/\rE ([]:List (RK.T RK.apiSymbol))/\rE ([]:List (RK.T RK.vmfleetref1Statement))/\True) (0,0,[],[]) λ(v0:Int×Int×List Q1d×List Q02)=> .br (decide (v0.2.1<(x0.length:Int))) (.cn (Nat.beq 1 1&&Nat.blt 0 1&&decide (0<=v0.2.1/\v0.2.1<(x0.length:Int))) (let E3:=x0.getD v0.2.1.toNat (RK.dflt RK.str); .an (Q70 E3) (.lv (Qfw E3) λ(x1:List UInt8×Q02×Bool)=> .br (!x1.2.2) (.lf (Sum.inr ([],[],{Err:=301,D7:=wrap i64 (v0.2.1+1)}))) (let E1:=({Err:=305,D7:=wrap i64 (v0.2.1+1)}:Q0q);let E2:=decide (72*(v0.2.2.2.length+1)<=140737488355328);let E4:=decide (wrap i64 (v0.1+x1.2.1.size)>1024); .br (!decide (x1.1=[])) (.an (Q2c v0.2.2.1 x1.1) (.lv (Qhn v0.2.2.1 x1.1) λ(x2:Int×Bool)=> .br x2.2 (.lf (Sum.inr ([],[],{Err:=303,D7:=wrap i64 (v0.2.1+1)}))) (.cn (decide (24*(v0.2.2.1.length+1)<=140737488355328)) (let E5:=({Name:=x1.1,Addr:=wrap u32 (wrap i64 (4*v0.1))}:Q1d); .br (!decide (x1.2.1.what=[])) (.cn E2 (.br E4 (.lf (Sum.inr ([],[],E1))) (.nx ((rZ/\True/\True/\rE ((wrap i64 (v0.1+x1.2.1.size)):Int)/\True/\rE ((wrap i64 (v0.2.1+1)):Int)/\True)/\(rE (0:Int)/\rE (0:Int)/\True)/\rE (x0:List (RK.T RK.str))/\rE ((v0.2.2.1++[{Name:=x1.1,Addr:=wrap u32 (wrap i64 (4*v0.1))}]):List (RK.T RK.apiSymbol))/\rE ((v0.2.2.2++[{what:=x1.2.1.what,op:=x1.2.1.op,l:=x1.2.1.l,line:=wrap i64 (v0.2.1+1),at_:=v0.1,size:=x1.2.1.size}]):List (RK.T RK.vmfleetref1Statement))/\True) (Sum.inl (wrap i64 (v0.1+x1.2.1.size),wrap i64 (v0.2.1+1),v0.2.2.1++[E5],v0.2.2.2++[{what:=x1.2.1.what,op:=x1.2.1.op,l:=x1.2.1.l,line:=wrap i64 (v0.2.1+1),at_:=v0.1,size:=x1.2.1.size}]))))) (.br (decide (v0.1>1024)) (.lf (Sum.inr ([],[],E1))) (.nx ((rZ/\True/\True/\rE v0.1/\True/\rE ((wrap i64 (v0.2.1+1)):Int)/\True)/\(rE (0:Int)/\rE (0:Int)/\True)/\rE (x0:List (RK.T RK.str))/\rE ((v0.2.2.1++[{Name:=x1.1,Addr:=wrap u32 (wrap i64 (4*v0.1))}]):List (RK.T RK.apiSymbol))/\rE v0.2.2.2/\True) (Sum.inl (v0.1,wrap i64 (v0.2.1+1),v0.2.2.1++[E5],v0.2.2.2)))))))) (.br (!decide (x1.2.1.what=[])) (.cn E2 (.br E4 (.lf (Sum.inr ([],[],E1))) (.nx ((rZ/\True/\True/\rE ((wrap i64 (v0.1+x1.2.1.size)):Int)/\True/\rE ((wrap i64 (v0.2.1+1)):Int)/\True)/\(rE (0:Int)/\rE (0:Int)/\True)/\rE (x0:List (RK.T RK.str))/\rE v0.2.2.1/\rE ((v0.2.2.2++[{what:=x1.2.1.what,op:=x1.2.1.op,l:=x1.2.1.l,line:=wrap i64 (v0.2.1+1),at_:=v0.1,size:=x1.2.1.size}]):List (RK.T RK.vmfleetref1Statement))/\True) (Sum.inl (wrap i64 (v0.1+x1.2.1.size),wrap i64 (v0.2.1+1),v0.2.2.1,v0.2.2.2++[{what:=x1.2.1.what,op:=x1.2.1.op,l:=x1.2.1.l,line:=wrap i64 (v0.2.1+1),at_:=v0.1,size:=x1.2.1.size}]))))) (.br (decide (v0.1>1024)) (.lf (Sum.inr ([],[],E1))) (.nx ((rZ/\True/\True/\rE v0.1/\True/\rE ((wrap i64 (v0.2.1+1)):Int)/\True)/\(rE (0:Int)/\rE (0:Int)/\True)/\rE (x0:List (RK.T RK.str))/\rE v0.2.2.1/\rE v0.2.2.2/\True) (Sum.inl (v0.1,wrap i64 (v0.2.1+1),v0.2.2.1,v0.2.2.2))))))))) (.lf (Sum.inr (v0.2.2.1,v0.2.2.2,{Err:=0,D7:=0})))))
def Qd4(src:(List UInt8)):((List Q1d)×(List Q02)×Q0q):=(Q8h src).m
abbrev Qfp(src:(List UInt8)):Prop:=(Q8h src).p
def Z2g:LInv:={
 α:=(Int)×(Int)×(List Q1d)×(List Q02)
 F:=λst a=>([(4, .ptr 0 0 0),(5, .all 2),(6, .all 3),(7, .int i64 a.1),(8, .all 1),(9, .int i64 a.2.1)],[⟨true,59,2, .gen [[(cT st 4 0),(cT st 4 1)]]⟩,⟨false,9,1,esOf st.rows (rN st 8)⟩,⟨false,257,2, .recs RK.apiSymbol a.2.2.1⟩,⟨false,181,6, .recs RK.vmfleetref1Statement a.2.2.2⟩])
 a0:=λst=>((lk st 7).toInt,(lk st 9).toInt,(Qh0 RK.apiSymbol st.rows (rN st 5)),(Qh0 RK.vmfleetref1Statement st.rows (rN st 6)))
 ex0:=λst=>[]++[(rX st 4 0),(rX st 8 1),(rX st 5 2),(rX st 6 3)]}
def Qu6:List (Nat×LInv):=[(8,Z2g)]
def Z4c:Q0d:=mkP 124 [] false [.one (.str)] [] (λargs rows=>Qfp (argS args 0)) (λargs rows=>Qd4 (argS args 0)) (λX=> .tup [.all 0, .all 1, .agg (Q0q.cells (X.2.2))]) (λX=>[⟨false,257,2, .recs .apiSymbol (X.1)⟩,⟨false,181,6, .recs .vmfleetref1Statement (X.2.1)⟩])
theorem Z0d:Q07 pG Z4c:=Q0t drawn Q0p (.cons Qxk (.cons Qu5 (.cons Qhw (.nil)))) Tryz.func124 Tryz.call124 (λargs rows=>Q8h (argS args 0)) [.row 257 2 (.recs .apiSymbol), .row 181 6 (.recs .vmfleetref1Statement)] Qu6 3 (λ_ _ _=>by kernel_rfl) (λ_ _=>rfl) (λ_ _ h=>h) (λh=>by cases h)
def Qck(st:Q02)(v:Int):Tree (Int×Bool):=
.lv (Q1p st.op) λ(x0:Int)=> .lv (Qfu x0) λ(x1:Int×Int)=>let E7:=st.l.getD (Int.toNat 0) (RK.dflt RK.vmfleetref1Arg);let E8:=st.l.getD (Int.toNat 1) (RK.dflt RK.vmfleetref1Arg);let E9:=Nat.beq 3 3&&Nat.blt 0 3&&decide ((0:Int)<=(0:Int)/\0<(st.l.length:Int));let E10:=Nat.beq 3 3&&Nat.blt 0 3&&decide ((0:Int)<=(1:Int)/\1<(st.l.length:Int));let E11:=st.l.getD (Int.toNat 2) (RK.dflt RK.vmfleetref1Arg);let E12:=Nat.beq 3 3&&Nat.blt 0 3&&decide ((0:Int)<=(2:Int)/\2<(st.l.length:Int)); .br (x0==2) (.cn E9 (.cn E10 (.cn E12 (let T2:Tree ((Int×Bool)):= .br (decide (0<x1.1)) (.lf (0,false)) (.br (decide (0>x1.2)) (.lf (0,false)) (.lv (Q1 {Op:=st.op,A:=E7.reg,B:=E8.reg,C:=E11.reg,Imm:=wrap i32 0}) λ(x2:Int×Bool)=> .lf (x2.1,x2.2))); .br (x0==2) T2 (.br (x0==1) T2 (.br (decide (v<x1.1)) (.lf (0,false)) (.br (decide (v>x1.2)) (.lf (0,false)) (.lv (Q1 {Op:=st.op,A:=E7.reg,B:=E8.reg,C:=E11.reg,Imm:=wrap i32 v}) λ(x4:Int×Bool)=> .lf (x4.1,x4.2))))))))) (let T1:Tree ((Int×Bool)):= .br (decide (x0>=6)) (.cn E9 (let T5:Tree ((Int×Bool)):= .br (decide (0<x1.1)) (.lf (0,false)) (.br (decide (0>x1.2)) (.lf (0,false)) (.lv (Q1 {Op:=st.op,A:=E7.reg,B:=0,C:=0,Imm:=wrap i32 0}) λ(x8:Int×Bool)=> .lf (x8.1,x8.2))); .br (x0==2) T5 (.br (x0==1) T5 (.br (decide (v<x1.1)) (.lf (0,false)) (.br (decide (v>x1.2)) (.lf (0,false)) (.lv (Q1 {Op:=st.op,A:=E7.reg,B:=0,C:=0,Imm:=wrap i32 v}) λ(x10:Int×Bool)=> .lf (x10.1,x10.2))))))) (.br (x0 !=1) (.cn E9 (.cn E10 (let T3:Tree ((Int×Bool)):= .br (decide (0<x1.1)) (.lf (0,false)) (.br (decide (0>x1.2)) (.lf (0,false)) (.lv (Q1 {Op:=st.op,A:=E7.reg,B:=E8.reg,C:=0,Imm:=wrap i32 0}) λ(x11:Int×Bool)=> .lf (x11.1,x11.2))); .br (x0==2) T3 (.br (x0==1) T3 (.br (decide (v<x1.1)) (.lf (0,false)) (.br (decide (v>x1.2)) (.lf (0,false)) (.lv (Q1 {Op:=st.op,A:=E7.reg,B:=E8.reg,C:=0,Imm:=wrap i32 v}) λ(x13:Int×Bool)=> .lf (x13.1,x13.2)))))))) (let T6:Tree ((Int×Bool)):= .br (decide (0<x1.1)) (.lf (0,false)) (.br (decide (0>x1.2)) (.lf (0,false)) (.lv (Q1 {Op:=st.op,A:=0,B:=0,C:=0,Imm:=wrap i32 0}) λ(x14:Int×Bool)=> .lf (x14.1,x14.2))); .br (x0==2) T6 (.br (x0==1) T6 (.br (decide (v<x1.1)) (.lf (0,false)) (.br (decide (v>x1.2)) (.lf (0,false)) (.lv (Q1 {Op:=st.op,A:=0,B:=0,C:=0,Imm:=wrap i32 v}) λ(x16:Int×Bool)=> .lf (x16.1,x16.2))))))); .br (decide (st.op>=32)) (.br (decide (st.op<=36)) (.cn E9 (.cn E12 (.cn E10 (let T4:Tree ((Int×Bool)):= .br (decide (0<x1.1)) (.lf (0,false)) (.br (decide (0>x1.2)) (.lf (0,false)) (.lv (Q1 {Op:=st.op,A:=E7.reg,B:=E11.reg,C:=0,Imm:=wrap i32 0}) λ(x5:Int×Bool)=> .lf (x5.1,x5.2))); .br (x0==2) T4 (.br (x0==1) T4 (.br (decide (E8.num<x1.1)) (.lf (0,false)) (.br (decide (E8.num>x1.2)) (.lf (0,false)) (.lv (Q1 {Op:=st.op,A:=E7.reg,B:=E11.reg,C:=0,Imm:=wrap i32 E8.num}) λ(x7:Int×Bool)=> .lf (x7.1,x7.2))))))))) T1) T1)
def Qcl(st:Q02)(v:Int):(Int×Bool):=(Qck st v).m
abbrev Q4d(st:Q02)(v:Int):Prop:=(Qck st v).p
def Z4e:Q0d:=mkP 126 [] true [.agg Q02.sig, .one (.int .i64)] [] (λargs rows=>Q4d (Q02.of (aC args 0)) (argI args 1)) (λargs rows=>Qcl (Q02.of (aC args 0)) (argI args 1)) (λX=> .tup [.int .u32 (X.1), .bool (X.2)]) (λX=>[])
theorem Z1e:Q07 pG Z4e:=Q0t drawn Q0p (.cons Qe (.cons Qjm (.cons Qk2 (.nil)))) Tryz.func126 Tryz.call126 (λargs rows=>Qck (Q02.of (aC args 0)) (argI args 1)) [] [] 2

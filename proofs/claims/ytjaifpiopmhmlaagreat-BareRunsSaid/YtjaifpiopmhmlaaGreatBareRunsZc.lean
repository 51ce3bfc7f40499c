import Derived.Test.YtjaifpiopmhmlaaGreatBareRunsBase
import Derived.Test.YtjaifpiopmhmlaaGreatBareRunsZa
import Derived.Test.YtjaifpiopmhmlaaGreatBareRunsZb
set_option maxRecDepth 100000
set_option linter.all false
namespace Go.Proofs.YtjaifpiopmhmlaaGreat
open Go Go.GD Go.IntKind
noncomputable section
def Qc6(steps:Int):Tree Int:=
.lf (if 4000<if 0>steps then 0 else steps then 4000 else if 0>steps then 0 else steps)
def Q12(steps:Int):Int:=(Qc6 steps).m
def Z2p:Q0c:=mkR 183 [] true [.one (.int .i64)] [] (λargs rows=>Q12 (argI args 0)) (λX=> .int .i64 X) (λX=>[])
theorem Qy7:Q06 Tryz.prog Z2p:=Q0z Q0j Q0l (.nil) Tryz.func183 Tryz.call183 (λargs rows=>Qc6 (argI args 0)) [] [] 2
def Qu1(t:Q0g)(now:Int):Tree Bool:=
.br t.D2 (.lf (decide (now>=t.C8))) (.lf false)
def Q7k(t:Q0g)(now:Int):Bool:=(Qu1 t now).m
def Zlg:Q0c:=mkR 184 [] true [.agg Q0g.sig, .one (.int .u32)] [] (λargs rows=>Q7k (Q0g.of (aC args 0)) (argI args 1)) (λX=> .bool X) (λX=>[])
theorem Zhy:Q06 Tryz.prog Zlg:=Q0z Q0j Q0l (.nil) Tryz.func184 Tryz.call184 (λargs rows=>Qu1 (Q0g.of (aC args 0)) (argI args 1)) [] [] 2
def Qd6(m:Q00)(z:(Int)):Nat:=(32-z).toNat
def Q4h(m:Q00):Tree Q04:=
.an (Qfv m) (.lv (Q2y m) λ(x0:Int)=> .br (iand u32 m.B2.B5.a0 (2:Int)==(0:Int)) (.lf m.B2) (.br (x0==0) (.lf m.B2) (.lp inferInstance (Qd6 m 0+1) ((rZ/\rZ/\rE (x0:Int)/\rE (0:Int)/\True)/\(mE m (((Els.Nil (Els.ints u32 m.Mem)\/rE (1:Nat))/\rE m.Mem)) True)/\(rE (0:Int)/\rE (0:Int)/\rE (0:Int)/\rE (0:Int)/\rE (0:Int)/\rE (0:Int)/\rE (0:Int)/\rE (0:Int)/\rE (0:Int)/\rE (0:Int)/\rE (0:Int)/\rE (0:Int)/\rE (0:Int)/\rE (0:Int)/\rE (0:Int)/\rE (0:Int)/\rE (0:Int)/\rE (0:Int)/\rE (0:Int)/\rE (0:Int)/\rE (0:Int)/\rE (0:Int)/\rE (0:Int)/\rE (0:Int)/\rE (0:Int)/\True)/\True) 0 λ(v0:Int)=> .cn (decide (0<=wrap u64 v0)) (.br (iand u32 (ishr u32 x0 (wrap u64 v0)) (1:Int)==(0:Int)) (.nx ((rZ/\rZ/\rE (x0:Int)/\rE ((wrap i64 (v0+1)):Int)/\True)/\(mE m (((Els.Nil (Els.ints u32 m.Mem)\/rE (1:Nat))/\rE m.Mem)) True)/\(rE (0:Int)/\rE (0:Int)/\rE (0:Int)/\rE (0:Int)/\rE (0:Int)/\rE (0:Int)/\rE (0:Int)/\rE (0:Int)/\rE (0:Int)/\rE (0:Int)/\rE (0:Int)/\rE (0:Int)/\rE (0:Int)/\rE (0:Int)/\rE (0:Int)/\rE (0:Int)/\rE (0:Int)/\rE (0:Int)/\rE (0:Int)/\rE (0:Int)/\rE (0:Int)/\rE (0:Int)/\rE (0:Int)/\rE (0:Int)/\rE (0:Int)/\True)/\True) (Sum.inl (wrap i64 (v0+1)))) (.lv (Q2s m.B2 (wrap i64 (16+v0)) 0) λ(x1:Q04)=> .lf (Sum.inr x1))))))
def Q0m(m:Q00):Q04:=(Q4h m).m
abbrev Q6r(m:Q00):Prop:=(Q4h m).p
def Qre:LInv:={
 α:=(Int)
 F:=λst a=>([(1, .ptr 0 0 0),(2, .ptr 1 0 0),(3,(lk st 3)),(4, .int i64 a)],[⟨true,41,49, .gen [mB (cT st 1)]⟩,⟨true,27,25, .gen [[(cT st 2 0),(cT st 2 1),(cT st 2 2),(cT st 2 3),(cT st 2 4),(cT st 2 5),(cT st 2 6),(cT st 2 7),(cT st 2 8),(cT st 2 9),(cT st 2 10),(cT st 2 11),(cT st 2 12),(cT st 2 13),(cT st 2 14),(cT st 2 15),(cT st 2 16),(cT st 2 17),(cT st 2 18),(cT st 2 19),(cT st 2 20),(cT st 2 21),(cT st 2 22),(cT st 2 23),(cT st 2 24)]]⟩])
 a0:=λst=>(lk st 4).toInt
 ex0:=λst=>[]++[(Q0o (lk st 1) (st.rows.length+0)),(Q0o (lk st 2) (st.rows.length+1))]
 next:=λst=>(lk st 4).toInt
 ex:=λst=>[]++[(Q0o (lk st 1) (st.rows.length+0)),(Q0o (lk st 2) (st.rows.length+1))]}
def Qo8:List (Nat×LInv):=[(5,Qre)]
def Qt:Q0c:=mkP 136 [] true [.agg Q00.sig] [] (λargs rows=>Q6r (Q00.of (aC args 0))) (λargs rows=>Q0m (Q00.of (aC args 0))) (λX=> .agg (Q04.cells X)) (λX=>[])
theorem Qbd:Q06 Tryz.prog Qt:=Q0n Q0j Q0l (.cons Qnp (.cons Qj0 (.nil))) Tryz.func136 Tryz.call136 (λargs rows=>Q4h (Q00.of (aC args 0))) [] Qo8 3
def Qeo(m:Q00):Tree Bool:=
.an (Q6r m) (.lv (Q0m m) λ(x0:Q04)=> .br (iand u32 x0.B5.a0 (1:Int)==(0:Int)) (.lf false) (.an (Qc5 m.Mem x0.Pc 4) (.lv (Q17 m.Mem x0.Pc 4) λ(x1:Int×Bool)=> .lv (Q2 x1.1) λ(x2:Q0k×Bool)=> .br x1.2 (.br x2.2 (.br (x2.1.Op==60) (.lf (x2.1.Imm==2)) (.lf false)) (.lf false)) (.lf false))))
def Q18(m:Q00):Bool:=(Qeo m).m
abbrev Qaw(m:Q00):Prop:=(Qeo m).p
def Zap:Q0c:=mkP 69 [] true [.agg Q00.sig] [] (λargs rows=>Qaw (Q00.of (aC args 0))) (λargs rows=>Q18 (Q00.of (aC args 0))) (λX=> .bool X) (λX=>[])
theorem Qlq:Q06 Tryz.prog Zap:=Q0n Q0j Q0l (.cons Qbd (.cons Qog (.cons Qqg (.nil)))) Tryz.func69 Tryz.call69 (λargs rows=>Qeo (Q00.of (aC args 0))) [] [] 2
def Q7(m:Q00):Tree Bool:=
.an (Qec m) (.lv (Q0y m) λ(x0:Bool)=> .br x0 (.lf false) (.an (Qaw m) (.lv (Q18 m) λ(x1:Bool)=> .lf x1)))
def Q1b(m:Q00):Bool:=(Q7 m).m
abbrev Qb2(m:Q00):Prop:=(Q7 m).p
def Qw1:Q0c:=mkP 50 [] true [.agg Q00.sig] [] (λargs rows=>Qb2 (Q00.of (aC args 0))) (λargs rows=>Q1b (Q00.of (aC args 0))) (λX=> .bool X) (λX=>[])
theorem Qtv:Q06 Tryz.prog Qw1:=Q0n Q0j Q0l (.cons Qtx (.cons Qlq (.nil))) Tryz.func50 Tryz.call50 (λargs rows=>Q7 (Q00.of (aC args 0))) [] [] 2
def Q3f(c:Q0b)(port:Int):Tree (Q0b×Int):=
let T1:Tree ((Q0b×Int)):= .br (port==0) (.cn (decide ((0:Int)<=(1:Int)/\1<=(c.D3.length:Int)/\(c.D3.length:Int)<=(c.D3.length:Int))) (.cn (decide ((0:Int)<=(0:Int)/\0<(c.D3.length:Int))) (.lf ({D3:=List.take (Int.toNat (c.D3.length:Int)-Int.toNat 1) (List.drop (Int.toNat 1) c.D3)},wrap u32 (↑(UInt8.toNat (c.D3.getD (Int.toNat 0) (0:UInt8))):Int))))) (.br (port==1) (.lf (c,wrap u32 (c.D3.length:Int))) (.lf (c,0))); .br (port==0) (.br ((c.D3.length:Int)==(0:Int)) (.lf (c,4294967295)) T1) T1
def Q56(c:Q0b)(port:Int):(Q0b×Int):=(Q3f c port).m
theorem Qtf(c:Q0b)(port:Int):(Q3f c port).p:=by
 unfold Tree.p Q3f
 repeat'(first|exact trivial|refine w_br (λ_=> ?_) (λ_=> ?_)|refine w_cn ?_ ?_|refine w_an ?_ ?_|refine w_lv (λ_ _=> ?_)|refine w_nx ?_|refine w_lf ?_|refine And.intro ?_ ?_)
 all_goals(exact fin0)
def Qye:Q0c:=mkR 196 [] true [.agg Q0b.sig, .one (.int .i64)] [] (λargs rows=>Q56 (Q0b.of (aC args 0)) (argI args 1)) (λX=> .tup [.agg (Q0b.cells (X.1)), .int .u32 (X.2)]) (λX=>[])
theorem Qkr:Q06 Tryz.prog Qye:=Q0z Q0j Q0l (.nil) Tryz.func196 Tryz.call196 (λargs rows=>Q3f (Q0b.of (aC args 0)) (argI args 1)) [] [] 2 (λ_ _ _=>by kernel_rfl) (λ_ _=>rfl) (λargs rows=>Qtf (Q0b.of (aC args 0)) (argI args 1)) (λ_ X=>by kernel_rfl)
def Qeb(t:Q0g):Tree Int:=
.br t.D5 (.lf 1) (.lf 0)
def Qei(t:Q0g):Int:=(Qeb t).m
def Z4p:Q0c:=mkR 197 [] true [.agg Q0g.sig] [] (λargs rows=>Qei (Q0g.of (aC args 0))) (λX=> .int .u32 X) (λX=>[])
theorem Qnd:Q06 Tryz.prog Z4p:=Q0z Q0j Q0l (.nil) Tryz.func197 Tryz.call197 (λargs rows=>Qeb (Q0g.of (aC args 0))) [] [] 2
def Qg6(d0:Q0e)(port:Int):Tree Int:=
.br (port==4) (.lf d0.B9) (.br (port==5) (.lf d0.B4) (.br (port==6) (.lf (wrap u32 d0.C1)) (.lf 0)))
def Qic(d0:Q0e)(port:Int):Int:=(Qg6 d0 port).m
def Z8i:Q0c:=mkR 198 [] true [.agg Q0e.sig, .one (.int .i64)] [] (λargs rows=>Qic (Q0e.of (aC args 0)) (argI args 1)) (λX=> .int .u32 X) (λX=>[])
theorem Qq2:Q06 Tryz.prog Z8i:=Q0z Q0j Q0l (.nil) Tryz.func198 Tryz.call198 (λargs rows=>Qg6 (Q0e.of (aC args 0)) (argI args 1)) [] [] 2
def Qf9(n:Q0q)(port:Int):Tree Int:=
.br (port==7) (.lf n.B4) (.br (port==8) (.lf n.F3) (.br (port==9) (.br n.C7 (.br n.B8 (.lf (wrap u32 ((1:Int)+(2:Int)))) (.lf 1)) (.br n.B8 (.lf (wrap u32 ((0:Int)+(2:Int)))) (.lf 0))) (.lf 0)))
def Qgr(n:Q0q)(port:Int):Int:=(Qf9 n port).m
def Zdu:Q0c:=mkR 199 [] true [.agg Q0q.sig, .one (.int .i64)] [] (λargs rows=>Qgr (Q0q.of (aC args 0)) (argI args 1)) (λX=> .int .u32 X) (λX=>[])
theorem Qs:Q06 Tryz.prog Zdu:=Q0z Q0j Q0l (.nil) Tryz.func199 Tryz.call199 (λargs rows=>Qf9 (Q0q.of (aC args 0)) (argI args 1)) [] [] 2
def Q5x(b:Q07)(port:Int):Tree Int:=
.br (port==10) (.lf b.C9) (.br (port==11) (.lv (Qe0 b) λ(x0:Int)=> .lf (wrap u32 x0)) (.lf 0))
def Q55(b:Q07)(port:Int):Int:=(Q5x b port).m
def Qxn:Q0c:=mkR 200 [] true [.agg Q07.sig, .one (.int .i64)] [] (λargs rows=>Q55 (Q07.of (aC args 0)) (argI args 1)) (λX=> .int .u32 X) (λX=>[])
theorem Qk0:Q06 Tryz.prog Qxn:=Q0z Q0j Q0l (.cons Qtb (.nil)) Tryz.func200 Tryz.call200 (λargs rows=>Q5x (Q07.of (aC args 0)) (argI args 1)) [] [] 2
def Qjx(m:Q00)(port:Int)(clock:Int):Tree (Int×Q00):=
.br (decide (port<=1)) (.lv (Q56 m.A3 port) λ(x0:Q0b×Int)=> .lf (x0.2,{B2:=m.B2,Mem:=m.Mem,A3:=x0.1,A7:=m.A7,B0:=m.B0,C0:=m.C0,A2:=m.A2,A1:=m.A1,A4:=m.A4,A6:=m.A6})) (.br (port==2) (.lf (clock,m)) (.br (port==3) (.lv (Qei m.A7) λ(x1:Int)=> .lf (x1,m)) (.br (decide (port<=6)) (.lv (Qic m.B0 port) λ(x2:Int)=> .lf (x2,m)) (.br (decide (port<=9)) (.lv (Qgr m.C0 port) λ(x3:Int)=> .lf (x3,m)) (.lv (Q55 m.A2 port) λ(x4:Int)=> .lf (x4,m))))))
def Qc9(m:Q00)(port:Int)(clock:Int):(Int×Q00):=(Qjx m port clock).m
def qB:Q0c:=mkR 140 [true,false,false] true [.ptr 0, .one (.int .i64), .one (.int .u32)] [.box 41 49 (Q00.sigW (.row 1)), .arr 23 1 (.ints .u32)] (λargs rows=>Qc9 (Q00.ofW (rows.getD 0 default).cs (rowL .u32 rows 1)) (argI args 1) (argI args 2)) (λX=> .int .u32 (X.1)) (λX=>[⟨true,41,49, .gen [(Q00.cellsW (X.2) (.all 1))]⟩,⟨false,23,1, .ints .u32 (X.2).Mem⟩])
theorem Zke:Q06 Tryz.prog qB:=Q0z Q0j Q0l (.cons Qkr (.cons Qnd (.cons Qq2 (.cons Qs (.cons Qk0 (.nil)))))) Tryz.func140 Tryz.call140 (λargs rows=>Qjx (Q00.ofW (rows.getD 0 default).cs (rowL .u32 rows 1)) (argI args 1) (argI args 2)) [.row 23 1 (.ints .u32)] [] 2
def Qv5(deadline:Int):Tree Q0g:=
.br (deadline==0) (.lf ({D2:=false,C8:=0,D5:=false})) (.lf ({D2:=true,C8:=deadline,D5:=false}))
def Qsc(deadline:Int):Q0g:=(Qv5 deadline).m
def Zlx:Q0c:=mkR 201 [] true [.one (.int .u32)] [] (λargs rows=>Qsc (argI args 0)) (λX=> .agg (Q0g.cells X)) (λX=>[])
theorem Z2u:Q06 Tryz.prog Zlx:=Q0z Q0j Q0l (.nil) Tryz.func201 Tryz.call201 (λargs rows=>Qv5 (argI args 0)) [] [] 2
def Qto(x:Int)(n:Int)(z:(Int)×(List Int)):Prop:=0<=z.1/\(z.2.length:Int)=z.1/\(z.1<=n\/z.1=0)
def Qea(x:Int)(n:Int)(z:(Int)×(List Int)):Nat:=(n-z.1).toNat
def Qgq(x:Int)(n:Int):Tree (List UInt8):=
.lp inferInstance (Qea x n (0,[])+1) ((rE (x:Int)/\rE (n:Int)/\True/\rE (0:Int)/\True)/\rE ([]:List Int)/\True) (0,[]) λ(v0:Int×List Int)=> .br (decide (v0.1<n)) (.cn (decide (0<=wrap u64 (wrap i64 (8*v0.1)))) (.cn (decide (1*(v0.2.length+1)<=140737488355328)) (.nx ((rE (x:Int)/\rE (n:Int)/\True/\rE ((wrap i64 (v0.1+1)):Int)/\True)/\rE ((v0.2++[wrap u8 (ishr u32 x (wrap u64 (wrap i64 (8*v0.1))))]):List Int)/\True) (Sum.inl (wrap i64 (v0.1+1),v0.2++[wrap u8 (ishr u32 x (wrap u64 (wrap i64 (8*v0.1))))]))))) (.lf (Sum.inr (bytesOf v0.2)))
def Z8u(x:Int)(n:Int):(List UInt8):=(Qgq x n).m
def Qj6(x:Int)(n:Int):Prop:=
n<=1000000000000
theorem Zcw(x:Int)(n:Int)(hw:Qj6 x n):(Qgq x n).p:=by
 simp only[Qj6]at hw
 unfold Tree.p Qgq
 repeat'(first|refine w_lp (inv:=Qto x n) (μ:=Qea x n) ?_ (Nat.lt_succ_self _) (λ_ _=> ?_)|exact trivial|refine w_br (λ_=> ?_) (λ_=> ?_)|refine w_cn ?_ ?_|refine w_an ?_ ?_|refine w_lv (λ_ _=> ?_)|refine w_nx ?_|refine w_lf ?_|refine And.intro ?_ ?_)
 all_goals((try simp only[Qto,Qea]at*);exact fin0)
def Zi5:LInv:={
 α:=(Int)×(List Int)
 F:=λst a=>([(0,(lk st 0)),(1,(lk st 1)),(5, .all 0),(6, .int i64 a.1)],[⟨false,5,1, .ints u8 a.2⟩])
 a0:=λst=>((lk st 6).toInt,(Q3e st.rows (rN st 5)))
 ex0:=λst=>[]++[(Q0o (lk st 5) (st.rows.length+0))]
 next:=λst=>((lk st 6).toInt,(Q3e st.rows (rN st 5)))
 ex:=λst=>[]++[(Q0o (lk st 5) (st.rows.length+0))]}
def Zaj:List (Nat×LInv):=[(3,Zi5)]
def Zmm:Q0c:=mkP 268 [] true [.one (.int .u32), .one (.int .i64)] [] (λargs rows=>Qj6 (argI args 0) (argI args 1)) (λargs rows=>Z8u (argI args 0) (argI args 1)) (λX=> .str X) (λX=>[])
theorem Zhq:Q06 Tryz.prog Zmm:=Q0n Q0j Q0l (.nil) Tryz.func268 Tryz.call268 (λargs rows=>Qgq (argI args 0) (argI args 1)) [] Zaj 3 (hp:=λargs rows h=>Zcw (argI args 0) (argI args 1) h)
def Qi1(m:(List Int))(frame:Int)(z:(Int)×(List Int)):Nat:=(32-z.1).toNat
def Q99(m:(List Int))(frame:Int):Tree ((List UInt8)×Bool):=
.br (decide (frame<0)) (.lf ([],false)) (.lv (Q3k m) λ(x0:Int)=> .br (decide (frame>=x0)) (.lf ([],false)) (.lp inferInstance (Qi1 m frame (0,[])+1) ((((Els.Nil (Els.ints u32 m)\/rE (1:Nat))/\rE (m:List Int))/\rE (frame:Int)/\True/\rE (0:Int)/\True)/\rE ([]:List Int)/\True) (0,[]) λ(v0:Int×List Int)=> .br (decide (v0.1<32)) (.cn (Nat.beq 1 1&&Nat.blt 0 1&&decide (0<=wrap i64 (wrap i64 (frame*32)+v0.1)/\wrap i64 (wrap i64 (frame*32)+v0.1)<(m.length:Int))) (let E1:=m.getD (Int.toNat (wrap i64 (wrap i64 (frame*32)+v0.1))) 0; .an (Qj6 E1 4) (.lv (Z8u E1 4) λ(x1:List UInt8)=> .cn (decide (1*(v0.2.length+List.length (Q9j x1))<=140737488355328)) (.nx ((((Els.Nil (Els.ints u32 m)\/rE (1:Nat))/\rE (m:List Int))/\rE (frame:Int)/\True/\rE ((wrap i64 (v0.1+1)):Int)/\True)/\rE ((v0.2++Q9j x1):List Int)/\True) (Sum.inl (wrap i64 (v0.1+1),v0.2++Q9j x1)))))) (.lf (Sum.inr (bytesOf v0.2,true)))))
def Qi0(m:(List Int))(frame:Int):((List UInt8)×Bool):=(Q99 m frame).m
abbrev Qgk(m:(List Int))(frame:Int):Prop:=(Q99 m frame).p
def Zat:LInv:={
 α:=(Int)×(List Int)
 F:=λst a=>([(0,(lk st 0)),(1,(lk st 1)),(6, .all 0),(7, .int i64 a.1)],[⟨false,5,1, .ints u8 a.2⟩])
 a0:=λst=>((lk st 7).toInt,(Q3e st.rows (rN st 6)))
 ex0:=λst=>[]++[(Q0o (lk st 6) (st.rows.length+0))]
 next:=λst=>((lk st 7).toInt,(Q3e st.rows (rN st 6)))
 ex:=λst=>[]++[(Q0o (lk st 6) (st.rows.length+0))]}
def Z4n:List (Nat×LInv):=[(5,Zat)]
def Zh0:Q0c:=mkP 247 [] true [.one (.ints .u32), .one (.int .i64)] [] (λargs rows=>Qgk (argL .u32 args 0) (argI args 1)) (λargs rows=>Qi0 (argL .u32 args 0) (argI args 1)) (λX=> .tup [.str (X.1), .bool (X.2)]) (λX=>[])
theorem Qx:Q06 Tryz.prog Zh0:=Q0n Q0j Q0l (.cons Qcg (.cons Zhq (.nil))) Tryz.func247 Tryz.call247 (λargs rows=>Q99 (argL .u32 args 0) (argI args 1)) [] Z4n 3
def Qqn(d0:Q0e)(at0:Int):Tree (Q02×Bool):=
.br (d0.C1 !=1) (.lf ({B7:=0,At:=0,B9:=0,D0:=[]},false)) (.br (d0.D8==1) (.lf ({B7:=3,At:=at0,B9:=d0.B6,D0:=[]},true)) (.br (d0.D8==2) (.lf ({B7:=4,At:=at0,B9:=d0.B6,D0:=d0.C3},true)) (.lf ({B7:=0,At:=0,B9:=0,D0:=[]},false))))
def Qjd(d0:Q0e)(at0:Int):(Q02×Bool):=(Qqn d0 at0).m
def Z4o:Q0c:=mkR 248 [] true [.agg Q0e.sig, .one (.int .u64)] [] (λargs rows=>Qjd (Q0e.of (aC args 0)) (argI args 1)) (λX=> .tup [.agg (Q02.cells (X.1)), .bool (X.2)]) (λX=>[])
theorem Z0w:Q06 Tryz.prog Z4o:=Q0z Q0j Q0l (.nil) Tryz.func248 Tryz.call248 (λargs rows=>Qqn (Q0e.of (aC args 0)) (argI args 1)) [] [] 2
def Q8c(d0:Q0e)(m:(List Int))(port:Int)(v:Int)(at0:Int):Tree (Q0e×(List Q02)):=
.br (port==4) (.lf ({Blocks:=d0.Blocks,B9:=v,B4:=d0.B4,C1:=d0.C1,D8:=d0.D8,B6:=d0.B6,B3:=d0.B3,C3:=d0.C3},[])) (.br (port==5) (.lf ({Blocks:=d0.Blocks,B9:=d0.B9,B4:=v,C1:=d0.C1,D8:=d0.D8,B6:=d0.B6,B3:=d0.B3,C3:=d0.C3},[])) (.br (port !=6) (.lf (d0,[])) (let T1:Tree ((Q0e×(List Q02))):= .br (d0.C1==0) (let T2:Tree ((Q0e×(List Q02))):= .lf ({Blocks:=d0.Blocks,B9:=d0.B9,B4:=d0.B4,C1:=3,D8:=d0.D8,B6:=d0.B6,B3:=d0.B3,C3:=d0.C3},[]); .br (decide (d0.B9>=d0.Blocks)) T2 (.lv (Q26 m d0.B4) λ(x0:Bool)=> .br (!x0) T2 (.br (v==2) (.an (Qgk m (wrap i64 d0.B4)) (.lv (Qi0 m (wrap i64 d0.B4)) λ(x1:List UInt8×Bool)=>let E4:=({Blocks:=d0.Blocks,B9:=d0.B9,B4:=d0.B4,C1:=1,D8:=wrap i64 v,B6:=d0.B9,B3:=d0.B4,C3:=x1.1}:Q0e); .lv (Qjd E4 at0) λ(x2:Q02×Bool)=> .lf (E4,[x2.1]))) (let E5:=({Blocks:=d0.Blocks,B9:=d0.B9,B4:=d0.B4,C1:=1,D8:=wrap i64 v,B6:=d0.B9,B3:=d0.B4,C3:=[]}:Q0e); .lv (Qjd E5 at0) λ(x3:Q02×Bool)=> .lf (E5,[x3.1]))))) (.lf (d0,[])); .br (v==0) (let T3:Tree ((Q0e×(List Q02))):= .lf ({Blocks:=d0.Blocks,B9:=d0.B9,B4:=d0.B4,C1:=0,D8:=d0.D8,B6:=d0.B6,B3:=d0.B3,C3:=d0.C3},[]); .br (d0.C1==2) T3 (.br (d0.C1==3) T3 (.br (v==1) T1 (.br (v==2) T1 (.lf (d0,[])))))) (.br (v==1) T1 (.br (v==2) T1 (.lf (d0,[])))))))
def Qeu(d0:Q0e)(m:(List Int))(port:Int)(v:Int)(at0:Int):(Q0e×(List Q02)):=(Q8c d0 m port v at0).m
abbrev Qff(d0:Q0e)(m:(List Int))(port:Int)(v:Int)(at0:Int):Prop:=(Q8c d0 m port v at0).p
def Z4w:Q0c:=mkP 202 [] true [.agg Q0e.sig, .one (.ints .u32), .one (.int .i64), .one (.int .u32), .one (.int .u64)] [] (λargs rows=>Qff (Q0e.of (aC args 0)) (argL .u32 args 1) (argI args 2) (argI args 3) (argI args 4)) (λargs rows=>Qeu (Q0e.of (aC args 0)) (argL .u32 args 1) (argI args 2) (argI args 3) (argI args 4)) (λX=> .tup [.agg (Q0e.cells (X.1)), .sl 4 (.recs .apiOutput (X.2)) true]) (λX=>[])
theorem Qnc:Q06 Tryz.prog Z4w:=Q0n Q0j Q0l (.cons Qet (.cons Qx (.cons Z0w (.nil)))) Tryz.func202 Tryz.call202 (λargs rows=>Q8c (Q0e.of (aC args 0)) (argL .u32 args 1) (argI args 2) (argI args 3) (argI args 4)) [.sl (.recs .apiOutput) true] [] 2
def Q9w(n:Q0q)(m:(List Int))(port:Int)(v:Int)(at0:Int):Tree (Q0q×(List Q02)):=
.br (port==7) (.lf ({B4:=v,F0:=n.F0,C7:=n.C7,C2:=n.C2,B8:=n.B8,F3:=n.F3},[])) (.br (port==8) (.lf ({B4:=n.B4,F0:=v,C7:=n.C7,C2:=n.C2,B8:=n.B8,F3:=n.F3},[])) (.br (port !=9) (.lf (n,[])) (.br (v==0) (.lf ({B4:=n.B4,F0:=n.F0,C7:=n.C7,C2:=n.C2,B8:=false,F3:=0},[])) (let T1:Tree ((Q0q×(List Q02))):= .br (v==2) (.lv (Q26 m n.B4) λ(x2:Bool)=> .br x2 (.br (!n.C7) (.br (!n.B8) (.lf ({B4:=n.B4,F0:=n.F0,C7:=true,C2:=n.B4,B8:=n.B8,F3:=n.F3},[])) (.lf (n,[]))) (.lf (n,[]))) (.lf (n,[]))) (.lf (n,[])); .br (v==1) (.br (decide (n.F0>=1)) (.br (decide (n.F0<=128)) (.lv (Q26 m n.B4) λ(x0:Bool)=> .br x0 (.an (Qgk m (wrap i64 n.B4)) (.lv (Qi0 m (wrap i64 n.B4)) λ(x1:List UInt8×Bool)=> .cn (decide ((0:Int)<=(0:Int)/\0<=n.F0/\n.F0<=(x1.1.length:Int))) (.lf (n,[{B7:=2,At:=at0,B9:=0,D0:=List.take (Int.toNat n.F0-Int.toNat 0) (List.drop (Int.toNat 0) x1.1)}])))) T1) T1) T1) T1))))
def Qhq(n:Q0q)(m:(List Int))(port:Int)(v:Int)(at0:Int):(Q0q×(List Q02)):=(Q9w n m port v at0).m
abbrev Qh1(n:Q0q)(m:(List Int))(port:Int)(v:Int)(at0:Int):Prop:=(Q9w n m port v at0).p
def Z8h:Q0c:=mkP 203 [] true [.agg Q0q.sig, .one (.ints .u32), .one (.int .i64), .one (.int .u32), .one (.int .u64)] [] (λargs rows=>Qh1 (Q0q.of (aC args 0)) (argL .u32 args 1) (argI args 2) (argI args 3) (argI args 4)) (λargs rows=>Qhq (Q0q.of (aC args 0)) (argL .u32 args 1) (argI args 2) (argI args 3) (argI args 4)) (λX=> .tup [.agg (Q0q.cells (X.1)), .sl 4 (.recs .apiOutput (X.2)) true]) (λX=>[])
theorem Qq4:Q06 Tryz.prog Z8h:=Q0n Q0j Q0l (.cons Qet (.cons Qx (.nil))) Tryz.func203 Tryz.call203 (λargs rows=>Q9w (Q0q.of (aC args 0)) (argL .u32 args 1) (argI args 2) (argI args 3) (argI args 4)) [.sl (.recs .apiOutput) true] [] 2
def Qhx(b:Q07)(m:(List Int))(port:Int)(v:Int)(z:(Int)×(List Int)):Nat:=(32-z.1).toNat
def Q4u(b:Q07)(m:(List Int))(port:Int)(v:Int):Tree (Q07×(List Int)):=
let T1:Tree ((Q07×(List Int))):= .br (port==11) (.br (decide (v<32)) (.cn (decide (0<=v)) (.lf ({C9:=b.C9,C5:=Qg7 u32 b.C5 (ishl u32 1 v)},m))) (.lf (b,m))) (.lf (b,m)); .br (port==10) (.lv (Q26 m v) λ(x0:Bool)=> .br x0 (.cn (decide (0<=v)) (.br (iand u32 (ishr u32 b.C5 v) (1:Int)==(0:Int)) (.cn (decide (0<=v)) (.lp inferInstance (Qhx b m port v (0,m)+1) ((True/\rE (v:Int)/\rZ/\rZ/\rE (0:Int)/\True)/\rE (m:List Int)/\(rE b.C9/\rE ((ior u32 b.C5 (ishl u32 1 v)):Int)/\True)/\(rE (0:Int)/\rE (0:Int)/\True)/\True) (0,m) λ(v0:Int×List Int)=> .br (decide (v0.1<32)) (let E2:=wrap i64 (wrap i64 v*32)+v0.1; .cn (Nat.beq 1 1&&Nat.blt 0 1&&decide (0<=wrap i64 E2/\wrap i64 E2<(v0.2.length:Int))) (.nx ((True/\rE (v:Int)/\rZ/\rZ/\rE ((wrap i64 (v0.1+1)):Int)/\True)/\rE ((List.set v0.2 (Int.toNat (wrap i64 (wrap i64 (wrap i64 v*32)+v0.1))) 0):List Int)/\(rE b.C9/\rE ((ior u32 b.C5 (ishl u32 1 v)):Int)/\True)/\(rE (0:Int)/\rE (0:Int)/\True)/\True) (Sum.inl (wrap i64 (v0.1+1),List.set v0.2 (Int.toNat (wrap i64 E2)) 0)))) (.lf (Sum.inr ({C9:=b.C9,C5:=ior u32 b.C5 (ishl u32 1 v)},v0.2))))) T1)) T1) T1
def Q68(b:Q07)(m:(List Int))(port:Int)(v:Int):(Q07×(List Int)):=(Q4u b m port v).m
abbrev Qm6(b:Q07)(m:(List Int))(port:Int)(v:Int):Prop:=(Q4u b m port v).p
def Zca:LInv:={
 α:=(Int)×(List Int)
 F:=λst a=>([(1, .all 0),(3,(lk st 3)),(4, .ptr 1 0 0),(8, .ptr 2 0 0),(9, .int i64 a.1)],[⟨false,23,1, .ints u32 a.2⟩,⟨true,38,2, .gen [[(cT st 4 0),(cT st 4 1)]]⟩,⟨true,38,2, .gen [[(cT st 8 0),(cT st 8 1)]]⟩])
 a0:=λst=>((lk st 9).toInt,(Q3e st.rows 0))
 ex0:=λst=>[0]++[(Q0o (lk st 4) (st.rows.length+1)),(Q0o (lk st 8) (st.rows.length+2))]
 next:=λst=>((lk st 9).toInt,(Q3e st.rows 0))
 ex:=λst=>[0]++[(Q0o (lk st 4) (st.rows.length+1)),(Q0o (lk st 8) (st.rows.length+2))]}
def Z4c:List (Nat×LInv):=[(4,Zca)]
def Zho:Q0c:=mkP 204 [false,true,false,false] true [.agg Q07.sig, .one (.row 0), .one (.int .i64), .one (.int .u32)] [.arr 23 1 (.ints .u32)] (λargs rows=>Qm6 (Q07.of (aC args 0)) (rowL .u32 rows 0) (argI args 2) (argI args 3)) (λargs rows=>Q68 (Q07.of (aC args 0)) (rowL .u32 rows 0) (argI args 2) (argI args 3)) (λX=> .agg (Q07.cells (X.1))) (λX=>[⟨false,23,1, .ints .u32 (X.2)⟩])
theorem Qx3:Q06 Tryz.prog Zho:=Q0n Q0j Q0l (.cons Qet (.nil)) Tryz.func204 Tryz.call204 (λargs rows=>Q4u (Q07.of (aC args 0)) (rowL .u32 rows 0) (argI args 2) (argI args 3)) [] Z4c 3
def Qdp(m:Q00)(port:Int)(v:Int):Tree ((List Q02)×Q00):=
.br (port==0) (.lf ([{B7:=1,At:=m.A1,B9:=0,D0:=[(λ(n:Int)=>UInt8.ofNat n.toNat) (wrap u8 v)]}],m)) (.br (decide (port<=2)) (.lf ([],m)) (.br (port==3) (.lv (Qsc v) λ(x0:Q0g)=> .lf ([],{B2:=m.B2,Mem:=m.Mem,A3:=m.A3,A7:=x0,B0:=m.B0,C0:=m.C0,A2:=m.A2,A1:=m.A1,A4:=m.A4,A6:=m.A6})) (.br (decide (port<=6)) (.an (Qff m.B0 m.Mem port v m.A1) (.lv (Qeu m.B0 m.Mem port v m.A1) λ(x1:Q0e×List Q02)=> .lf (x1.2,{B2:=m.B2,Mem:=m.Mem,A3:=m.A3,A7:=m.A7,B0:=x1.1,C0:=m.C0,A2:=m.A2,A1:=m.A1,A4:=m.A4,A6:=m.A6}))) (.br (decide (port<=9)) (.an (Qh1 m.C0 m.Mem port v m.A1) (.lv (Qhq m.C0 m.Mem port v m.A1) λ(x2:Q0q×List Q02)=> .lf (x2.2,{B2:=m.B2,Mem:=m.Mem,A3:=m.A3,A7:=m.A7,B0:=m.B0,C0:=x2.1,A2:=m.A2,A1:=m.A1,A4:=m.A4,A6:=m.A6}))) (.an (Qm6 m.A2 m.Mem port v) (.lv (Q68 m.A2 m.Mem port v) λ(x3:Q07×List Int)=> .lf ([],{B2:=m.B2,Mem:=x3.2,A3:=m.A3,A7:=m.A7,B0:=m.B0,C0:=m.C0,A2:=x3.1,A1:=m.A1,A4:=m.A4,A6:=m.A6})))))))
def Qab(m:Q00)(port:Int)(v:Int):((List Q02)×Q00):=(Qdp m port v).m
abbrev Qx0(m:Q00)(port:Int)(v:Int):Prop:=(Qdp m port v).p
def Zmr:Q0c:=mkP 142 [true,false,false] true [.ptr 0, .one (.int .i64), .one (.int .u32)] [.box 41 49 (Q00.sigW (.row 1)), .arr 23 1 (.ints .u32)] (λargs rows=>Qx0 (Q00.ofW (rows.getD 0 default).cs (rowL .u32 rows 1)) (argI args 1) (argI args 2)) (λargs rows=>Qab (Q00.ofW (rows.getD 0 default).cs (rowL .u32 rows 1)) (argI args 1) (argI args 2)) (λX=> .sl 4 (.recs .apiOutput (X.1)) true) (λX=>[⟨true,41,49, .gen [(Q00.cellsW (X.2) (.all 1))]⟩,⟨false,23,1, .ints .u32 (X.2).Mem⟩])
theorem Zge:Q06 Tryz.prog Zmr:=Q0n Q0j Q0l (.cons Z2u (.cons Qnc (.cons Qq4 (.cons Qx3 (.nil))))) Tryz.func142 Tryz.call142 (λargs rows=>Qdp (Q00.ofW (rows.getD 0 default).cs (rowL .u32 rows 1)) (argI args 1) (argI args 2)) [.sl (.recs .apiOutput) true, .row 23 1 (.ints .u32)] [] 2
def Q8d(m:Q00)(clock:Int):Tree ((List Q02)×Q00):=
.an (Q6r m) (.lv (Q0m m) λ(x0:Q04)=> .an (Qrf x0 m.Mem) (.lv (Q73 x0 m.Mem) λ(x1:Q04×Q10×List Int)=>let E1:=({B2:=x1.1,Mem:=x1.2.2,A3:=m.A3,A7:=m.A7,B0:=m.B0,C0:=m.C0,A2:=m.A2,A1:=m.A1,A4:=false,A6:=m.A6}:Q00); .br (x1.2.1.B7==1) (.lv (Qc9 E1 x1.2.1.D1 clock) λ(x2:Int×Q00)=> .an (Q2w x2.2.B2 x1.2.1.E0 x2.1) (.lv (Q1y x2.2.B2 x1.2.1.E0 x2.1) λ(x3:Q04)=> .lf ([],{B2:=x3,Mem:=x2.2.Mem,A3:=x2.2.A3,A7:=x2.2.A7,B0:=x2.2.B0,C0:=x2.2.C0,A2:=x2.2.A2,A1:=wrap u64 (x2.2.A1+1),A4:=x2.2.A4,A6:=x2.2.A6}))) (.br (x1.2.1.B7==2) (.an (Qx0 E1 x1.2.1.D1 x1.2.1.Value) (.lv (Qab E1 x1.2.1.D1 x1.2.1.Value) λ(x4:List Q02×Q00)=> .lf (x4.1,{B2:=x4.2.B2,Mem:=x4.2.Mem,A3:=x4.2.A3,A7:=x4.2.A7,B0:=x4.2.B0,C0:=x4.2.C0,A2:=x4.2.A2,A1:=wrap u64 (x4.2.A1+1),A4:=x4.2.A4,A6:=x4.2.A6}))) (.br (x1.2.1.B7==3) (.lf ([],{B2:=x1.1,Mem:=x1.2.2,A3:=m.A3,A7:=m.A7,B0:=m.B0,C0:=m.C0,A2:=m.A2,A1:=wrap u64 (m.A1+1),A4:=true,A6:=m.A6})) (.br (x1.2.1.B7==4) (.lf ([],{B2:=x1.1,Mem:=x1.2.2,A3:=m.A3,A7:=m.A7,B0:=m.B0,C0:=m.C0,A2:=m.A2,A1:=wrap u64 (m.A1+1),A4:=false,A6:=true})) (.lf ([],{B2:=x1.1,Mem:=x1.2.2,A3:=m.A3,A7:=m.A7,B0:=m.B0,C0:=m.C0,A2:=m.A2,A1:=wrap u64 (m.A1+1),A4:=false,A6:=m.A6})))))))
def Q05(m:Q00)(clock:Int):((List Q02)×Q00):=(Q8d m clock).m
abbrev Q81(m:Q00)(clock:Int):Prop:=(Q8d m clock).p
def Z47:Q0c:=mkP 70 [true,false] true [.ptr 0, .one (.int .u32)] [.box 41 49 (Q00.sigW (.row 1)), .arr 23 1 (.ints .u32)] (λargs rows=>Q81 (Q00.ofW (rows.getD 0 default).cs (rowL .u32 rows 1)) (argI args 1)) (λargs rows=>Q05 (Q00.ofW (rows.getD 0 default).cs (rowL .u32 rows 1)) (argI args 1)) (λX=> .sl 4 (.recs .apiOutput (X.1)) true) (λX=>[⟨true,41,49, .gen [(Q00.cellsW (X.2) (.all 1))]⟩,⟨false,23,1, .ints .u32 (X.2).Mem⟩])
theorem Qni:Q06 Tryz.prog Z47:=Q0n Q0j Q0l (.cons Qbd (.cons Z5m (.cons Zke (.cons Qdo (.cons Zge (.nil)))))) Tryz.func70 Tryz.call70 (λargs rows=>Q8d (Q00.ofW (rows.getD 0 default).cs (rowL .u32 rows 1)) (argI args 1)) [.sl (.recs .apiOutput) true, .row 23 1 (.ints .u32)] [] 2
end
end Go.Proofs.YtjaifpiopmhmlaaGreat

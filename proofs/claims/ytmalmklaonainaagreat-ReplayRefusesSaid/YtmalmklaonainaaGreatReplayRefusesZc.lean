import Derived.Test.YtmalmklaonainaaGreatReplayRefusesZb
set_option maxRecDepth 100000
set_option linter.all false
namespace Go.Proofs.YtmalmklaonainaaGreat
open Go Go.GD Go.IntKind
noncomputable section
def Qdv(steps:Int):Tree Int:=
.lf (if 4000<if 0>steps then 0 else steps then 4000 else if 0>steps then 0 else steps)
def Q15(steps:Int):Int:=(Qdv steps).m
def Z1m:Q0d:=mkR 158 [] true [.one (.int .i64)] [] (λargs rows=>Q15 (argI args 0)) (λX=> .int .i64 X) (λX=>[])
theorem Qzc:Q05 Tryz.prog Z1m:=Q0z drawn Q0j (.nil) Tryz.func158 Tryz.call158 (λargs rows=>Qdv (argI args 0)) [] [] 2
def Qx1(t:Q0h)(now:Int):Tree Bool:=
.br t.D1 (.lf (decide (now>=t.C7))) (.lf false)
def Q8p(t:Q0h)(now:Int):Bool:=(Qx1 t now).m
def Znn:Q0d:=mkR 214 [] true [.agg Q0h.sig, .one (.int .u32)] [] (λargs rows=>Q8p (Q0h.of (aC args 0)) (argI args 1)) (λX=> .bool X) (λX=>[])
theorem Zhm:Q05 Tryz.prog Znn:=Q0z drawn Q0j (.nil) Tryz.func214 Tryz.call214 (λargs rows=>Qx1 (Q0h.of (aC args 0)) (argI args 1)) [] [] 2
def Qeu(m:Q00)(z:(Int)):Nat:=(32-z).toNat
def Q4t(m:Q00):Tree Q02:=
.an (Qh6 m) (.lv (Q31 m) λ(x0:Int)=> .br (iand u32 m.B2.B5.a0 (2:Int)==(0:Int)) (.lf m.B2) (.br (x0==0) (.lf m.B2) (.lp inferInstance (Qeu m 0+1) ((rZ/\rZ/\rE (x0:Int)/\rE (0:Int)/\True)/\(mE m (((Els.Nil (Els.ints u32 m.Mem)\/rE (1:Nat))/\rE m.Mem)) True)/\(rE (0:Int)/\rE (0:Int)/\rE (0:Int)/\rE (0:Int)/\rE (0:Int)/\rE (0:Int)/\rE (0:Int)/\rE (0:Int)/\rE (0:Int)/\rE (0:Int)/\rE (0:Int)/\rE (0:Int)/\rE (0:Int)/\rE (0:Int)/\rE (0:Int)/\rE (0:Int)/\rE (0:Int)/\rE (0:Int)/\rE (0:Int)/\rE (0:Int)/\rE (0:Int)/\rE (0:Int)/\rE (0:Int)/\rE (0:Int)/\rE (0:Int)/\True)/\True) 0 λ(v0:Int)=> .cn (decide (0<=wrap u64 v0)) (.br (iand u32 (ishr u32 x0 (wrap u64 v0)) (1:Int)==(0:Int)) (.nx ((rZ/\rZ/\rE (x0:Int)/\rE ((wrap i64 (v0+1)):Int)/\True)/\(mE m (((Els.Nil (Els.ints u32 m.Mem)\/rE (1:Nat))/\rE m.Mem)) True)/\(rE (0:Int)/\rE (0:Int)/\rE (0:Int)/\rE (0:Int)/\rE (0:Int)/\rE (0:Int)/\rE (0:Int)/\rE (0:Int)/\rE (0:Int)/\rE (0:Int)/\rE (0:Int)/\rE (0:Int)/\rE (0:Int)/\rE (0:Int)/\rE (0:Int)/\rE (0:Int)/\rE (0:Int)/\rE (0:Int)/\rE (0:Int)/\rE (0:Int)/\rE (0:Int)/\rE (0:Int)/\rE (0:Int)/\rE (0:Int)/\rE (0:Int)/\True)/\True) (Sum.inl (wrap i64 (v0+1)))) (.lv (Q2x m.B2 (wrap i64 (16+v0)) 0) λ(x1:Q02)=> .lf (Sum.inr x1))))))
def Q0n(m:Q00):Q02:=(Q4t m).m
abbrev Q7q(m:Q00):Prop:=(Q4t m).p
def Qsg:LInv:={
 α:=(Int)
 F:=λst a=>([(1, .ptr 0 0 0),(2, .ptr 1 0 0),(3,(lk st 3)),(4, .int i64 a)],[⟨true,43,49, .gen [mB (cT st 1)]⟩,⟨true,29,25, .gen [[(cT st 2 0),(cT st 2 1),(cT st 2 2),(cT st 2 3),(cT st 2 4),(cT st 2 5),(cT st 2 6),(cT st 2 7),(cT st 2 8),(cT st 2 9),(cT st 2 10),(cT st 2 11),(cT st 2 12),(cT st 2 13),(cT st 2 14),(cT st 2 15),(cT st 2 16),(cT st 2 17),(cT st 2 18),(cT st 2 19),(cT st 2 20),(cT st 2 21),(cT st 2 22),(cT st 2 23),(cT st 2 24)]]⟩])
 a0:=λst=>(lk st 4).toInt
 ex0:=λst=>[]++[(Q0r (lk st 1) (st.rows.length+0)),(Q0r (lk st 2) (st.rows.length+1))]
 next:=λst=>(lk st 4).toInt
 ex:=λst=>[]++[(Q0r (lk st 1) (st.rows.length+0)),(Q0r (lk st 2) (st.rows.length+1))]}
def Qpl:List (Nat×LInv):=[(5,Qsg)]
def Qun:Q0d:=mkP 186 [] true [.agg Q00.sig] [] (λargs rows=>Q7q (Q00.of (aC args 0))) (λargs rows=>Q0n (Q00.of (aC args 0))) (λX=> .agg (Q02.cells X)) (λX=>[])
theorem Qd2:Q05 Tryz.prog Qun:=Q0l drawn Q0j (.cons Qpo (.cons Qkh (.nil))) Tryz.func186 Tryz.call186 (λargs rows=>Q4t (Q00.of (aC args 0))) [] Qpl 3
def Qgt(m:Q00):Tree Bool:=
.an (Q7q m) (.lv (Q0n m) λ(x0:Q02)=> .br (iand u32 x0.B5.a0 (1:Int)==(0:Int)) (.lf false) (.an (Qer m.Mem x0.Pc 4) (.lv (Q1c m.Mem x0.Pc 4) λ(x1:Int×Bool)=> .lv (Q20 x1.1) λ(x2:Q0k×Bool)=> .br x1.2 (.br x2.2 (.br (x2.1.Op==60) (.lf (x2.1.Imm==2)) (.lf false)) (.lf false)) (.lf false))))
def Qi5(m:Q00):Bool:=(Qgt m).m
abbrev Qkv(m:Q00):Prop:=(Qgt m).p
def Zd:Q0d:=mkP 116 [] true [.agg Q00.sig] [] (λargs rows=>Qkv (Q00.of (aC args 0))) (λargs rows=>Qi5 (Q00.of (aC args 0))) (λX=> .bool X) (λX=>[])
theorem Qui:Q05 Tryz.prog Zd:=Q0l drawn Q0j (.cons Qd2 (.cons Qpc (.cons Qra (.nil)))) Tryz.func116 Tryz.call116 (λargs rows=>Qgt (Q00.of (aC args 0))) [] [] 2
def Q7x(m:Q00):Tree Bool:=
.an (Qfs m) (.lv (Q1f m) λ(x0:Bool)=> .br x0 (.lf false) (.an (Qkv m) (.lv (Qi5 m) λ(x1:Bool)=> .lf x1)))
def Q1v(m:Q00):Bool:=(Q7x m).m
abbrev Qd1(m:Q00):Prop:=(Q7x m).p
def Qw8:Q0d:=mkP 31 [] true [.agg Q00.sig] [] (λargs rows=>Qd1 (Q00.of (aC args 0))) (λargs rows=>Q1v (Q00.of (aC args 0))) (λX=> .bool X) (λX=>[])
theorem Qtj:Q05 Tryz.prog Qw8:=Q0l drawn Q0j (.cons Qut (.cons Qui (.nil))) Tryz.func31 Tryz.call31 (λargs rows=>Q7x (Q00.of (aC args 0))) [] [] 2
def Q3n(c:Q0c)(port:Int):Tree (Q0c×Int):=
let T1:Tree ((Q0c×Int)):= .br (port==0) (.cn (decide ((0:Int)<=(1:Int)/\1<=(c.D3.length:Int)/\(c.D3.length:Int)<=(c.D3.length:Int))) (.cn (decide ((0:Int)<=(0:Int)/\0<(c.D3.length:Int))) (.lf ({D3:=List.take (Int.toNat (c.D3.length:Int)-Int.toNat 1) (List.drop (Int.toNat 1) c.D3)},wrap u32 (↑(UInt8.toNat (c.D3.getD (Int.toNat 0) (0:UInt8))):Int))))) (.br (port==1) (.lf (c,wrap u32 (c.D3.length:Int))) (.lf (c,0))); .br (port==0) (.br ((c.D3.length:Int)==(0:Int)) (.lf (c,4294967295)) T1) T1
def Q5l(c:Q0c)(port:Int):(Q0c×Int):=(Q3n c port).m
theorem Qux(c:Q0c)(port:Int):(Q3n c port).p:=by
 unfold Tree.p Q3n
 repeat'(first|exact trivial|refine w_br (λ_=> ?_) (λ_=> ?_)|refine w_cn ?_ ?_|refine w_an ?_ ?_|refine w_lv (λ_ _=> ?_)|refine w_nx ?_|refine w_lf ?_|refine And.intro ?_ ?_)
 all_goals(exact fin0)
def Qz9:Q0d:=mkR 260 [] true [.agg Q0c.sig, .one (.int .i64)] [] (λargs rows=>Q5l (Q0c.of (aC args 0)) (argI args 1)) (λX=> .tup [.agg (Q0c.cells (X.1)), .int .u32 (X.2)]) (λX=>[])
theorem Qle:Q05 Tryz.prog Qz9:=Q0z drawn Q0j (.nil) Tryz.func260 Tryz.call260 (λargs rows=>Q3n (Q0c.of (aC args 0)) (argI args 1)) [] [] 2 (λ_ _ _=>by kernel_rfl) (λ_ _=>rfl) (λargs rows=>Qux (Q0c.of (aC args 0)) (argI args 1)) (λ_ X=>by kernel_rfl)
def Qfv(t:Q0h):Tree Int:=
.br t.D5 (.lf 1) (.lf 0)
def Qg3(t:Q0h):Int:=(Qfv t).m
def Z50:Q0d:=mkR 261 [] true [.agg Q0h.sig] [] (λargs rows=>Qg3 (Q0h.of (aC args 0))) (λX=> .int .u32 X) (λX=>[])
theorem Qoz:Q05 Tryz.prog Z50:=Q0z drawn Q0j (.nil) Tryz.func261 Tryz.call261 (λargs rows=>Qfv (Q0h.of (aC args 0))) [] [] 2
def Qhn(d0:Q0e)(port:Int):Tree Int:=
.br (port==4) (.lf d0.C1) (.br (port==5) (.lf d0.Frame) (.br (port==6) (.lf (wrap u32 d0.C0)) (.lf 0)))
def Qj6(d0:Q0e)(port:Int):Int:=(Qhn d0 port).m
def Z9k:Q0d:=mkR 262 [] true [.agg Q0e.sig, .one (.int .i64)] [] (λargs rows=>Qj6 (Q0e.of (aC args 0)) (argI args 1)) (λX=> .int .u32 X) (λX=>[])
theorem Qr4:Q05 Tryz.prog Z9k:=Q0z drawn Q0j (.nil) Tryz.func262 Tryz.call262 (λargs rows=>Qhn (Q0e.of (aC args 0)) (argI args 1)) [] [] 2
def Qh(n:Q0o)(port:Int):Tree Int:=
.br (port==7) (.lf n.Frame) (.br (port==8) (.lf n.F1) (.br (port==9) (.br n.C5 (.br n.B8 (.lf (wrap u32 ((1:Int)+(2:Int)))) (.lf 1)) (.br n.B8 (.lf (wrap u32 ((0:Int)+(2:Int)))) (.lf 0))) (.lf 0)))
def Qi3(n:Q0o)(port:Int):Int:=(Qh n port).m
def Ze8:Q0d:=mkR 263 [] true [.agg Q0o.sig, .one (.int .i64)] [] (λargs rows=>Qi3 (Q0o.of (aC args 0)) (argI args 1)) (λX=> .int .u32 X) (λX=>[])
theorem Qu7:Q05 Tryz.prog Ze8:=Q0z drawn Q0j (.nil) Tryz.func263 Tryz.call263 (λargs rows=>Qh (Q0o.of (aC args 0)) (argI args 1)) [] [] 2
def Q6n(b:Q07)(port:Int):Tree Int:=
.br (port==10) (.lf b.C8) (.br (port==11) (.lv (Qf2 b) λ(x0:Int)=> .lf (wrap u32 x0)) (.lf 0))
def Q5m(b:Q07)(port:Int):Int:=(Q6n b port).m
def Z01:Q0d:=mkR 264 [] true [.agg Q07.sig, .one (.int .i64)] [] (λargs rows=>Q5m (Q07.of (aC args 0)) (argI args 1)) (λX=> .int .u32 X) (λX=>[])
theorem Qm0:Q05 Tryz.prog Z01:=Q0z drawn Q0j (.cons Qsx (.nil)) Tryz.func264 Tryz.call264 (λargs rows=>Q6n (Q07.of (aC args 0)) (argI args 1)) [] [] 2
def Qlf(m:Q00)(port:Int)(clock:Int):Tree (Int×Q00):=
.br (decide (port<=1)) (.lv (Q5l m.A6 port) λ(x0:Q0c×Int)=> .lf (x0.2,{B2:=m.B2,Mem:=m.Mem,A6:=x0.1,B0:=m.B0,B1:=m.B1,C4:=m.C4,A2:=m.A2,A1:=m.A1,A7:=m.A7,A9:=m.A9})) (.br (port==2) (.lf (clock,m)) (.br (port==3) (.lv (Qg3 m.B0) λ(x1:Int)=> .lf (x1,m)) (.br (decide (port<=6)) (.lv (Qj6 m.B1 port) λ(x2:Int)=> .lf (x2,m)) (.br (decide (port<=9)) (.lv (Qi3 m.C4 port) λ(x3:Int)=> .lf (x3,m)) (.lv (Q5m m.A2 port) λ(x4:Int)=> .lf (x4,m))))))
def Qdy(m:Q00)(port:Int)(clock:Int):(Int×Q00):=(Qlf m port clock).m
def yB:Q0d:=mkR 218 [true,false,false] true [.ptr 0, .one (.int .i64), .one (.int .u32)] [.box 43 49 (Q00.sigW (.row 1)), .arr 25 1 (.ints .u32)] (λargs rows=>Qdy (Q00.ofW (rows.getD 0 default).cs (rowL .u32 rows 1)) (argI args 1) (argI args 2)) (λX=> .int .u32 (X.1)) (λX=>[⟨true,43,49, .gen [(Q00.cellsW (X.2) (.all 1))]⟩,⟨false,25,1, .ints .u32 (X.2).Mem⟩])
theorem Zoh:Q05 Tryz.prog yB:=Q0z drawn Q0j (.cons Qle (.cons Qoz (.cons Qr4 (.cons Qu7 (.cons Qm0 (.nil)))))) Tryz.func218 Tryz.call218 (λargs rows=>Qlf (Q00.ofW (rows.getD 0 default).cs (rowL .u32 rows 1)) (argI args 1) (argI args 2)) [.row 25 1 (.ints .u32)] [] 2
def Qva(deadline:Int):Tree Q0h:=
.br (deadline==0) (.lf ({D1:=false,C7:=0,D5:=false})) (.lf ({D1:=true,C7:=deadline,D5:=false}))
def Qt3(deadline:Int):Q0h:=(Qva deadline).m
def Zp:Q0d:=mkR 265 [] true [.one (.int .u32)] [] (λargs rows=>Qt3 (argI args 0)) (λX=> .agg (Q0h.cells X)) (λX=>[])
theorem Z4d:Q05 Tryz.prog Zp:=Q0z drawn Q0j (.nil) Tryz.func265 Tryz.call265 (λargs rows=>Qva (argI args 0)) [] [] 2
def Qtr(x:Int)(n:Int)(z:(Int)×(List Int)):Prop:=0<=z.1/\(z.2.length:Int)=z.1/\(z.1<=n\/z.1=0)
def Qfx(x:Int)(n:Int)(z:(Int)×(List Int)):Nat:=(n-z.1).toNat
def Qi2(x:Int)(n:Int):Tree (List UInt8):=
.lp inferInstance (Qfx x n (0,[])+1) ((rE (x:Int)/\rE (n:Int)/\True/\rE (0:Int)/\True)/\rE ([]:List Int)/\True) (0,[]) λ(v0:Int×List Int)=> .br (decide (v0.1<n)) (.cn (decide (0<=wrap u64 (wrap i64 (8*v0.1)))) (.cn (decide (1*(v0.2.length+1)<=140737488355328)) (.nx ((rE (x:Int)/\rE (n:Int)/\True/\rE ((wrap i64 (v0.1+1)):Int)/\True)/\rE ((v0.2++[wrap u8 (ishr u32 x (wrap u64 (wrap i64 (8*v0.1))))]):List Int)/\True) (Sum.inl (wrap i64 (v0.1+1),v0.2++[wrap u8 (ishr u32 x (wrap u64 (wrap i64 (8*v0.1))))]))))) (.lf (Sum.inr (bytesOf v0.2)))
def Z9f(x:Int)(n:Int):(List UInt8):=(Qi2 x n).m
def Qke(x:Int)(n:Int):Prop:=
n<=1000000000000
theorem Zf7(x:Int)(n:Int)(hw:Qke x n):(Qi2 x n).p:=by
 simp only[Qke]at hw
 unfold Tree.p Qi2
 repeat'(first|refine w_lp (inv:=Qtr x n) (μ:=Qfx x n) ?_ (Nat.lt_succ_self _) (λ_ _=> ?_)|exact trivial|refine w_br (λ_=> ?_) (λ_=> ?_)|refine w_cn ?_ ?_|refine w_an ?_ ?_|refine w_lv (λ_ _=> ?_)|refine w_nx ?_|refine w_lf ?_|refine And.intro ?_ ?_)
 all_goals((try simp only[Qtr,Qfx]at*);exact fin0)
def Ziv:LInv:={
 α:=(Int)×(List Int)
 F:=λst a=>([(0,(lk st 0)),(1,(lk st 1)),(5, .all 0),(6, .int i64 a.1)],[⟨false,5,1, .ints u8 a.2⟩])
 a0:=λst=>((lk st 6).toInt,(Q5q st.rows (rN st 5)))
 ex0:=λst=>[]++[(Q0r (lk st 5) (st.rows.length+0))]
 next:=λst=>((lk st 6).toInt,(Q5q st.rows (rN st 5)))
 ex:=λst=>[]++[(Q0r (lk st 5) (st.rows.length+0))]}
def Z9u:List (Nat×LInv):=[(3,Ziv)]
def Zoo:Q0d:=mkP 315 [] true [.one (.int .u32), .one (.int .i64)] [] (λargs rows=>Qke (argI args 0) (argI args 1)) (λargs rows=>Z9f (argI args 0) (argI args 1)) (λX=> .str X) (λX=>[])
theorem Zid:Q05 Tryz.prog Zoo:=Q0l drawn Q0j (.nil) Tryz.func315 Tryz.call315 (λargs rows=>Qi2 (argI args 0) (argI args 1)) [] Z9u 3 (hp:=λargs rows h=>Zf7 (argI args 0) (argI args 1) h)
def Qj8(m:(List Int))(frame:Int)(z:(Int)×(List Int)):Nat:=(32-z.1).toNat
def Qa0(m:(List Int))(frame:Int):Tree ((List UInt8)×Bool):=
.br (decide (frame<0)) (.lf ([],false)) (.lv (Q3z m) λ(x0:Int)=> .br (decide (frame>=x0)) (.lf ([],false)) (.lp inferInstance (Qj8 m frame (0,[])+1) ((((Els.Nil (Els.ints u32 m)\/rE (1:Nat))/\rE (m:List Int))/\rE (frame:Int)/\True/\rE (0:Int)/\True)/\rE ([]:List Int)/\True) (0,[]) λ(v0:Int×List Int)=> .br (decide (v0.1<32)) (.cn (Nat.beq 1 1&&Nat.blt 0 1&&decide (0<=wrap i64 (wrap i64 (frame*32)+v0.1)/\wrap i64 (wrap i64 (frame*32)+v0.1)<(m.length:Int))) (let E1:=m.getD (Int.toNat (wrap i64 (wrap i64 (frame*32)+v0.1))) 0; .an (Qke E1 4) (.lv (Z9f E1 4) λ(x1:List UInt8)=> .cn (decide (1*(v0.2.length+List.length (Qby x1))<=140737488355328)) (.nx ((((Els.Nil (Els.ints u32 m)\/rE (1:Nat))/\rE (m:List Int))/\rE (frame:Int)/\True/\rE ((wrap i64 (v0.1+1)):Int)/\True)/\rE ((v0.2++Qby x1):List Int)/\True) (Sum.inl (wrap i64 (v0.1+1),v0.2++Qby x1)))))) (.lf (Sum.inr (bytesOf v0.2,true)))))
def Qjo(m:(List Int))(frame:Int):((List UInt8)×Bool):=(Qa0 m frame).m
abbrev Qhq(m:(List Int))(frame:Int):Prop:=(Qa0 m frame).p
def Zeh:LInv:={
 α:=(Int)×(List Int)
 F:=λst a=>([(0,(lk st 0)),(1,(lk st 1)),(6, .all 0),(7, .int i64 a.1)],[⟨false,5,1, .ints u8 a.2⟩])
 a0:=λst=>((lk st 7).toInt,(Q5q st.rows (rN st 6)))
 ex0:=λst=>[]++[(Q0r (lk st 6) (st.rows.length+0))]
 next:=λst=>((lk st 7).toInt,(Q5q st.rows (rN st 6)))
 ex:=λst=>[]++[(Q0r (lk st 6) (st.rows.length+0))]}
def Z6k:List (Nat×LInv):=[(5,Zeh)]
def Zjc:Q0d:=mkP 304 [] true [.one (.ints .u32), .one (.int .i64)] [] (λargs rows=>Qhq (argL .u32 args 0) (argI args 1)) (λargs rows=>Qjo (argL .u32 args 0) (argI args 1)) (λX=> .tup [.str (X.1), .bool (X.2)]) (λX=>[])
theorem Qxq:Q05 Tryz.prog Zjc:=Q0l drawn Q0j (.cons Qe8 (.cons Zid (.nil))) Tryz.func304 Tryz.call304 (λargs rows=>Qa0 (argL .u32 args 0) (argI args 1)) [] Z6k 3
def Qr1(d0:Q0e)(at0:Int):Tree (Q06×Bool):=
.br (d0.C0 !=1) (.lf ({B6:=0,At:=0,C1:=0,C6:=[]},false)) (.br (d0.D8==1) (.lf ({B6:=3,At:=at0,C1:=d0.B7,C6:=[]},true)) (.br (d0.D8==2) (.lf ({B6:=4,At:=at0,C1:=d0.B7,C6:=d0.C3},true)) (.lf ({B6:=0,At:=0,C1:=0,C6:=[]},false))))
def Qkj(d0:Q0e)(at0:Int):(Q06×Bool):=(Qr1 d0 at0).m
def Z5n:Q0d:=mkR 305 [] true [.agg Q0e.sig, .one (.int .u64)] [] (λargs rows=>Qkj (Q0e.of (aC args 0)) (argI args 1)) (λX=> .tup [.agg (Q06.cells (X.1)), .bool (X.2)]) (λX=>[])
theorem Z37:Q05 Tryz.prog Z5n:=Q0z drawn Q0j (.nil) Tryz.func305 Tryz.call305 (λargs rows=>Qr1 (Q0e.of (aC args 0)) (argI args 1)) [] [] 2
def Q9c(d0:Q0e)(m:(List Int))(port:Int)(v:Int)(at0:Int):Tree (Q0e×(List Q06)):=
.br (port==4) (.lf ({Blocks:=d0.Blocks,C1:=v,Frame:=d0.Frame,C0:=d0.C0,D8:=d0.D8,B7:=d0.B7,B3:=d0.B3,C3:=d0.C3},[])) (.br (port==5) (.lf ({Blocks:=d0.Blocks,C1:=d0.C1,Frame:=v,C0:=d0.C0,D8:=d0.D8,B7:=d0.B7,B3:=d0.B3,C3:=d0.C3},[])) (.br (port !=6) (.lf (d0,[])) (let T1:Tree ((Q0e×(List Q06))):= .br (d0.C0==0) (let T2:Tree ((Q0e×(List Q06))):= .lf ({Blocks:=d0.Blocks,C1:=d0.C1,Frame:=d0.Frame,C0:=3,D8:=d0.D8,B7:=d0.B7,B3:=d0.B3,C3:=d0.C3},[]); .br (decide (d0.C1>=d0.Blocks)) T2 (.lv (Q27 m d0.Frame) λ(x0:Bool)=> .br (!x0) T2 (.br (v==2) (.an (Qhq m (wrap i64 d0.Frame)) (.lv (Qjo m (wrap i64 d0.Frame)) λ(x1:List UInt8×Bool)=>let E4:=({Blocks:=d0.Blocks,C1:=d0.C1,Frame:=d0.Frame,C0:=1,D8:=wrap i64 v,B7:=d0.C1,B3:=d0.Frame,C3:=x1.1}:Q0e); .lv (Qkj E4 at0) λ(x2:Q06×Bool)=> .lf (E4,[x2.1]))) (let E5:=({Blocks:=d0.Blocks,C1:=d0.C1,Frame:=d0.Frame,C0:=1,D8:=wrap i64 v,B7:=d0.C1,B3:=d0.Frame,C3:=[]}:Q0e); .lv (Qkj E5 at0) λ(x3:Q06×Bool)=> .lf (E5,[x3.1]))))) (.lf (d0,[])); .br (v==0) (let T3:Tree ((Q0e×(List Q06))):= .lf ({Blocks:=d0.Blocks,C1:=d0.C1,Frame:=d0.Frame,C0:=0,D8:=d0.D8,B7:=d0.B7,B3:=d0.B3,C3:=d0.C3},[]); .br (d0.C0==2) T3 (.br (d0.C0==3) T3 (.br (v==1) T1 (.br (v==2) T1 (.lf (d0,[])))))) (.br (v==1) T1 (.br (v==2) T1 (.lf (d0,[])))))))
def Qgx(d0:Q0e)(m:(List Int))(port:Int)(v:Int)(at0:Int):(Q0e×(List Q06)):=(Q9c d0 m port v at0).m
abbrev Qhh(d0:Q0e)(m:(List Int))(port:Int)(v:Int)(at0:Int):Prop:=(Q9c d0 m port v at0).p
def Z6e:Q0d:=mkP 266 [] true [.agg Q0e.sig, .one (.ints .u32), .one (.int .i64), .one (.int .u32), .one (.int .u64)] [] (λargs rows=>Qhh (Q0e.of (aC args 0)) (argL .u32 args 1) (argI args 2) (argI args 3) (argI args 4)) (λargs rows=>Qgx (Q0e.of (aC args 0)) (argL .u32 args 1) (argI args 2) (argI args 3) (argI args 4)) (λX=> .tup [.agg (Q0e.cells (X.1)), .sl 4 (.recs .apiOutput (X.2)) true]) (λX=>[])
theorem Qoq:Q05 Tryz.prog Z6e:=Q0l drawn Q0j (.cons Qgf (.cons Qxq (.cons Z37 (.nil)))) Tryz.func266 Tryz.call266 (λargs rows=>Q9c (Q0e.of (aC args 0)) (argL .u32 args 1) (argI args 2) (argI args 3) (argI args 4)) [.sl (.recs .apiOutput) true] [] 2
def Qay(n:Q0o)(m:(List Int))(port:Int)(v:Int)(at0:Int):Tree (Q0o×(List Q06)):=
.br (port==7) (.lf ({Frame:=v,E0:=n.E0,C5:=n.C5,B9:=n.B9,B8:=n.B8,F1:=n.F1},[])) (.br (port==8) (.lf ({Frame:=n.Frame,E0:=v,C5:=n.C5,B9:=n.B9,B8:=n.B8,F1:=n.F1},[])) (.br (port !=9) (.lf (n,[])) (.br (v==0) (.lf ({Frame:=n.Frame,E0:=n.E0,C5:=n.C5,B9:=n.B9,B8:=false,F1:=0},[])) (let T1:Tree ((Q0o×(List Q06))):= .br (v==2) (.lv (Q27 m n.Frame) λ(x2:Bool)=> .br x2 (.br (!n.C5) (.br (!n.B8) (.lf ({Frame:=n.Frame,E0:=n.E0,C5:=true,B9:=n.Frame,B8:=n.B8,F1:=n.F1},[])) (.lf (n,[]))) (.lf (n,[]))) (.lf (n,[]))) (.lf (n,[])); .br (v==1) (.br (decide (n.E0>=1)) (.br (decide (n.E0<=128)) (.lv (Q27 m n.Frame) λ(x0:Bool)=> .br x0 (.an (Qhq m (wrap i64 n.Frame)) (.lv (Qjo m (wrap i64 n.Frame)) λ(x1:List UInt8×Bool)=> .cn (decide ((0:Int)<=(0:Int)/\0<=n.E0/\n.E0<=(x1.1.length:Int))) (.lf (n,[{B6:=2,At:=at0,C1:=0,C6:=List.take (Int.toNat n.E0-Int.toNat 0) (List.drop (Int.toNat 0) x1.1)}])))) T1) T1) T1) T1))))
def Qit(n:Q0o)(m:(List Int))(port:Int)(v:Int)(at0:Int):(Q0o×(List Q06)):=(Qay n m port v at0).m
abbrev Qjv(n:Q0o)(m:(List Int))(port:Int)(v:Int)(at0:Int):Prop:=(Qay n m port v at0).p
def Za0:Q0d:=mkP 267 [] true [.agg Q0o.sig, .one (.ints .u32), .one (.int .i64), .one (.int .u32), .one (.int .u64)] [] (λargs rows=>Qjv (Q0o.of (aC args 0)) (argL .u32 args 1) (argI args 2) (argI args 3) (argI args 4)) (λargs rows=>Qit (Q0o.of (aC args 0)) (argL .u32 args 1) (argI args 2) (argI args 3) (argI args 4)) (λX=> .tup [.agg (Q0o.cells (X.1)), .sl 4 (.recs .apiOutput (X.2)) true]) (λX=>[])
theorem Qr8:Q05 Tryz.prog Za0:=Q0l drawn Q0j (.cons Qgf (.cons Qxq (.nil))) Tryz.func267 Tryz.call267 (λargs rows=>Qay (Q0o.of (aC args 0)) (argL .u32 args 1) (argI args 2) (argI args 3) (argI args 4)) [.sl (.recs .apiOutput) true] [] 2
def Qii(b:Q07)(m:(List Int))(port:Int)(v:Int)(z:(Int)×(List Int)):Nat:=(32-z.1).toNat
def Q50(b:Q07)(m:(List Int))(port:Int)(v:Int):Tree (Q07×(List Int)):=
let T1:Tree ((Q07×(List Int))):= .br (port==11) (.br (decide (v<32)) (.cn (decide (0<=v)) (.lf ({C8:=b.C8,C2:=Qhp u32 b.C2 (ishl u32 1 v)},m))) (.lf (b,m))) (.lf (b,m)); .br (port==10) (.lv (Q27 m v) λ(x0:Bool)=> .br x0 (.cn (decide (0<=v)) (.br (iand u32 (ishr u32 b.C2 v) (1:Int)==(0:Int)) (.cn (decide (0<=v)) (.lp inferInstance (Qii b m port v (0,m)+1) ((True/\rE (v:Int)/\rZ/\rZ/\rE (0:Int)/\True)/\rE (m:List Int)/\(rE b.C8/\rE ((ior u32 b.C2 (ishl u32 1 v)):Int)/\True)/\(rE (0:Int)/\rE (0:Int)/\True)/\True) (0,m) λ(v0:Int×List Int)=> .br (decide (v0.1<32)) (let E2:=wrap i64 (wrap i64 v*32)+v0.1; .cn (Nat.beq 1 1&&Nat.blt 0 1&&decide (0<=wrap i64 E2/\wrap i64 E2<(v0.2.length:Int))) (.nx ((True/\rE (v:Int)/\rZ/\rZ/\rE ((wrap i64 (v0.1+1)):Int)/\True)/\rE ((List.set v0.2 (Int.toNat (wrap i64 (wrap i64 (wrap i64 v*32)+v0.1))) 0):List Int)/\(rE b.C8/\rE ((ior u32 b.C2 (ishl u32 1 v)):Int)/\True)/\(rE (0:Int)/\rE (0:Int)/\True)/\True) (Sum.inl (wrap i64 (v0.1+1),List.set v0.2 (Int.toNat (wrap i64 E2)) 0)))) (.lf (Sum.inr ({C8:=b.C8,C2:=ior u32 b.C2 (ishl u32 1 v)},v0.2))))) T1)) T1) T1
def Q70(b:Q07)(m:(List Int))(port:Int)(v:Int):(Q07×(List Int)):=(Q50 b m port v).m
abbrev Qnc(b:Q07)(m:(List Int))(port:Int)(v:Int):Prop:=(Q50 b m port v).p
def Zdy:LInv:={
 α:=(Int)×(List Int)
 F:=λst a=>([(1, .all 0),(3,(lk st 3)),(4, .ptr 1 0 0),(8, .ptr 2 0 0),(9, .int i64 a.1)],[⟨false,25,1, .ints u32 a.2⟩,⟨true,40,2, .gen [[(cT st 4 0),(cT st 4 1)]]⟩,⟨true,40,2, .gen [[(cT st 8 0),(cT st 8 1)]]⟩])
 a0:=λst=>((lk st 9).toInt,(Q5q st.rows 0))
 ex0:=λst=>[0]++[(Q0r (lk st 4) (st.rows.length+1)),(Q0r (lk st 8) (st.rows.length+2))]
 next:=λst=>((lk st 9).toInt,(Q5q st.rows 0))
 ex:=λst=>[0]++[(Q0r (lk st 4) (st.rows.length+1)),(Q0r (lk st 8) (st.rows.length+2))]}
def Z5q:List (Nat×LInv):=[(4,Zdy)]
def Zix:Q0d:=mkP 268 [false,true,false,false] true [.agg Q07.sig, .one (.row 0), .one (.int .i64), .one (.int .u32)] [.arr 25 1 (.ints .u32)] (λargs rows=>Qnc (Q07.of (aC args 0)) (rowL .u32 rows 0) (argI args 2) (argI args 3)) (λargs rows=>Q70 (Q07.of (aC args 0)) (rowL .u32 rows 0) (argI args 2) (argI args 3)) (λX=> .agg (Q07.cells (X.1))) (λX=>[⟨false,25,1, .ints .u32 (X.2)⟩])
theorem Qyx:Q05 Tryz.prog Zix:=Q0l drawn Q0j (.cons Qgf (.nil)) Tryz.func268 Tryz.call268 (λargs rows=>Q50 (Q07.of (aC args 0)) (rowL .u32 rows 0) (argI args 2) (argI args 3)) [] Z5q 3
def Qf6(m:Q00)(port:Int)(v:Int):Tree ((List Q06)×Q00):=
.br (port==0) (.lf ([{B6:=1,At:=m.A1,C1:=0,C6:=[(λ(n:Int)=>UInt8.ofNat n.toNat) (wrap u8 v)]}],m)) (.br (decide (port<=2)) (.lf ([],m)) (.br (port==3) (.lv (Qt3 v) λ(x0:Q0h)=> .lf ([],{B2:=m.B2,Mem:=m.Mem,A6:=m.A6,B0:=x0,B1:=m.B1,C4:=m.C4,A2:=m.A2,A1:=m.A1,A7:=m.A7,A9:=m.A9})) (.br (decide (port<=6)) (.an (Qhh m.B1 m.Mem port v m.A1) (.lv (Qgx m.B1 m.Mem port v m.A1) λ(x1:Q0e×List Q06)=> .lf (x1.2,{B2:=m.B2,Mem:=m.Mem,A6:=m.A6,B0:=m.B0,B1:=x1.1,C4:=m.C4,A2:=m.A2,A1:=m.A1,A7:=m.A7,A9:=m.A9}))) (.br (decide (port<=9)) (.an (Qjv m.C4 m.Mem port v m.A1) (.lv (Qit m.C4 m.Mem port v m.A1) λ(x2:Q0o×List Q06)=> .lf (x2.2,{B2:=m.B2,Mem:=m.Mem,A6:=m.A6,B0:=m.B0,B1:=m.B1,C4:=x2.1,A2:=m.A2,A1:=m.A1,A7:=m.A7,A9:=m.A9}))) (.an (Qnc m.A2 m.Mem port v) (.lv (Q70 m.A2 m.Mem port v) λ(x3:Q07×List Int)=> .lf ([],{B2:=m.B2,Mem:=x3.2,A6:=m.A6,B0:=m.B0,B1:=m.B1,C4:=m.C4,A2:=x3.1,A1:=m.A1,A7:=m.A7,A9:=m.A9})))))))
def Qb9(m:Q00)(port:Int)(v:Int):((List Q06)×Q00):=(Qf6 m port v).m
abbrev Qyv(m:Q00)(port:Int)(v:Int):Prop:=(Qf6 m port v).p
def Zmy:Q0d:=mkP 220 [true,false,false] true [.ptr 0, .one (.int .i64), .one (.int .u32)] [.box 43 49 (Q00.sigW (.row 1)), .arr 25 1 (.ints .u32)] (λargs rows=>Qyv (Q00.ofW (rows.getD 0 default).cs (rowL .u32 rows 1)) (argI args 1) (argI args 2)) (λargs rows=>Qb9 (Q00.ofW (rows.getD 0 default).cs (rowL .u32 rows 1)) (argI args 1) (argI args 2)) (λX=> .sl 4 (.recs .apiOutput (X.1)) true) (λX=>[⟨true,43,49, .gen [(Q00.cellsW (X.2) (.all 1))]⟩,⟨false,25,1, .ints .u32 (X.2).Mem⟩])
theorem Zi8:Q05 Tryz.prog Zmy:=Q0l drawn Q0j (.cons Z4d (.cons Qoq (.cons Qr8 (.cons Qyx (.nil))))) Tryz.func220 Tryz.call220 (λargs rows=>Qf6 (Q00.ofW (rows.getD 0 default).cs (rowL .u32 rows 1)) (argI args 1) (argI args 2)) [.sl (.recs .apiOutput) true, .row 25 1 (.ints .u32)] [] 2
def Q9e(m:Q00)(clock:Int):Tree ((List Q06)×Q00):=
.an (Q7q m) (.lv (Q0n m) λ(x0:Q02)=> .an (Qsd x0 m.Mem) (.lv (Q81 x0 m.Mem) λ(x1:Q02×Q13×List Int)=>let E1:=({B2:=x1.1,Mem:=x1.2.2,A6:=m.A6,B0:=m.B0,B1:=m.B1,C4:=m.C4,A2:=m.A2,A1:=m.A1,A7:=false,A9:=m.A9}:Q00); .br (x1.2.1.B6==1) (.lv (Qdy E1 x1.2.1.D0 clock) λ(x2:Int×Q00)=> .an (Q34 x2.2.B2 x1.2.1.D9 x2.1) (.lv (Q1y x2.2.B2 x1.2.1.D9 x2.1) λ(x3:Q02)=> .lf ([],{B2:=x3,Mem:=x2.2.Mem,A6:=x2.2.A6,B0:=x2.2.B0,B1:=x2.2.B1,C4:=x2.2.C4,A2:=x2.2.A2,A1:=wrap u64 (x2.2.A1+1),A7:=x2.2.A7,A9:=x2.2.A9}))) (.br (x1.2.1.B6==2) (.an (Qyv E1 x1.2.1.D0 x1.2.1.Value) (.lv (Qb9 E1 x1.2.1.D0 x1.2.1.Value) λ(x4:List Q06×Q00)=> .lf (x4.1,{B2:=x4.2.B2,Mem:=x4.2.Mem,A6:=x4.2.A6,B0:=x4.2.B0,B1:=x4.2.B1,C4:=x4.2.C4,A2:=x4.2.A2,A1:=wrap u64 (x4.2.A1+1),A7:=x4.2.A7,A9:=x4.2.A9}))) (.br (x1.2.1.B6==3) (.lf ([],{B2:=x1.1,Mem:=x1.2.2,A6:=m.A6,B0:=m.B0,B1:=m.B1,C4:=m.C4,A2:=m.A2,A1:=wrap u64 (m.A1+1),A7:=true,A9:=m.A9})) (.br (x1.2.1.B6==4) (.lf ([],{B2:=x1.1,Mem:=x1.2.2,A6:=m.A6,B0:=m.B0,B1:=m.B1,C4:=m.C4,A2:=m.A2,A1:=wrap u64 (m.A1+1),A7:=false,A9:=true})) (.lf ([],{B2:=x1.1,Mem:=x1.2.2,A6:=m.A6,B0:=m.B0,B1:=m.B1,C4:=m.C4,A2:=m.A2,A1:=wrap u64 (m.A1+1),A7:=false,A9:=m.A9})))))))
def Q0m(m:Q00)(clock:Int):((List Q06)×Q00):=(Q9e m clock).m
abbrev Qnr(m:Q00)(clock:Int):Prop:=(Q9e m clock).p
def Z4v:Q0d:=mkP 160 [true,false] true [.ptr 0, .one (.int .u32)] [.box 43 49 (Q00.sigW (.row 1)), .arr 25 1 (.ints .u32)] (λargs rows=>Qnr (Q00.ofW (rows.getD 0 default).cs (rowL .u32 rows 1)) (argI args 1)) (λargs rows=>Q0m (Q00.ofW (rows.getD 0 default).cs (rowL .u32 rows 1)) (argI args 1)) (λX=> .sl 4 (.recs .apiOutput (X.1)) true) (λX=>[⟨true,43,49, .gen [(Q00.cellsW (X.2) (.all 1))]⟩,⟨false,25,1, .ints .u32 (X.2).Mem⟩])
theorem Z3l:Q05 Tryz.prog Z4v:=Q0l drawn Q0j (.cons Qd2 (.cons Z7t (.cons Zoh (.cons Qf3 (.cons Zi8 (.nil)))))) Tryz.func160 Tryz.call160 (λargs rows=>Q9e (Q00.ofW (rows.getD 0 default).cs (rowL .u32 rows 1)) (argI args 1)) [.sl (.recs .apiOutput) true, .row 25 1 (.ints .u32)] [] 2

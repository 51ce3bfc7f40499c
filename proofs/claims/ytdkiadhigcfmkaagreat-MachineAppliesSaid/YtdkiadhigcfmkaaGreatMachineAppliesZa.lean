/-
  Functions of the program: models, and that its calls come to them (by a program: gen3.py).
-/
import Derived.Test.YtdkiadhigcfmkaaGreatMachineAppliesBase
import Derived.Test.YtdkiadhigcfmkaaGreatMachineAppliesYe
namespace Go.Proofs.YtdkiadhigcfmkaaGreat
open Go Go.GD Go.IntKind
set_option linter.unusedVariables false
set_option linter.unusedSimpArgs false
set_option maxRecDepth 100000
noncomputable section
def Q5e(m:(List Int)):Tree (List Int):=
.cn (Nat.blt (0:Nat) (1:Nat)&&Nat.beq ((1:Nat)) (1:Nat)&&List.all [D.int u32 (0:Int)] D.plain&&decide ((0:Int)≤(↑(List.length m):Int)∧(↑(List.length m):Int)≤(↑(List.length m):Int)∧(↑(List.length m):Int)≤(9223372036854775807:Int)∧(↑(4:Nat):Int)*(↑(List.length m):Int)≤(140737488355328:Int))) (let E1:=List.length (List.replicate (Int.toNat (↑(List.length m):Int)) (0:Int)); .lf (List.take (min (List.length m) E1) m++List.drop (min (List.length m) E1) (List.replicate (Int.toNat (↑(List.length m):Int)) (0:Int))))
def Qjh(m:(List Int)):(List Int):=(Q5e m).m
abbrev Qo0(m:(List Int)):Prop:=(Q5e m).p
def Z93:Q08:=mkP 104 [] true [.one (.ints .u32)] [] (fun args rows=>Qo0 (argL .u32 args 0)) (fun args rows=>Qjh (argL .u32 args 0)) (fun X=> .all 0) (fun X=>[⟨false,27,1, .ints .u32 X⟩])
theorem Z40:Q02 Tryz.prog Z93:=Q0j Q0f Q0g (.nil) Tryz.func104 Tryz.call104 (fun args rows=>Q5e (argL .u32 args 0)) [.row 27 1 (.ints .u32)] [] 2 (fun _ _ _=>by kernel_rfl) (fun _ _=>rfl) (fun _ _ h=>h) (fun _ X=>by kernel_rfl)
def Q55(m:Q00):Tree Q00:=
.an (Qo0 m.Mem) (.lv (Qjh m.Mem) fun(x0:List Int)=> .lf ({Cpu:=m.Cpu,Mem:=x0,Console:=m.Console,Timer:=m.Timer,Disk:=m.Disk,Nic:=m.Nic,Balloon:=m.Balloon,Count:=m.Count,Waiting:=m.Waiting,Halted:=m.Halted}))
def Qe7(m:Q00):Q00:=(Q55 m).m
abbrev Q7p(m:Q00):Prop:=(Q55 m).p
def Ze6:Q08:=mkP 46 [] true [.agg Q00.sig] [] (fun args rows=>Q7p (Q00.of (args.getD 0 .dead).cells)) (fun args rows=>Qe7 (Q00.of (args.getD 0 .dead).cells)) (fun X=> .agg (Q00.cellsW X (.all 0))) (fun X=>[⟨false,27,1, .ints .u32 X.Mem⟩])
theorem Qdm:Q02 Tryz.prog Ze6:=Q0j Q0f Q0g (.cons Z40 (.nil)) Tryz.func46 Tryz.call46 (fun args rows=>Q55 (Q00.of (args.getD 0 .dead).cells)) [.row 27 1 (.ints .u32)] [] 2 (fun _ _ _=>by kernel_rfl) (fun _ _=>rfl) (fun _ _ h=>h) (fun _ X=>by kernel_rfl)
def Qkv(n:Int)(k:Int)(z:(Int)×(List Int)):Prop:=0≤z.1∧(z.2.length:Int)=z.1∧(z.1≤k∨z.1=0)
def Qcl(n:Int)(k:Int)(z:(Int)×(List Int)):Nat:=(k-z.1).toNat
def Qgc(n:Int)(k:Int):Tree (List UInt8):=
.lp inferInstance (Qcl n k (0,[])+1) ((rE (n:Int)∧rE (k:Int)∧rE ([]:List UInt8)∧True∧rE (0:Int)∧True)∧rE ([]:List Int)∧True) (0,[]) fun(v0:Int×List Int)=> .br (decide (v0.fst<k)) (.lv (Qol n (wrap i64 (Int.tdiv v0.fst 9))) fun(x0:Int)=> .cn (decide (1*(List.length v0.snd+1)≤140737488355328)) (.nx ((rE (n:Int)∧rE (k:Int)∧rE ([]:List UInt8)∧True∧rE ((wrap i64 (v0.fst+1)):Int)∧True)∧rE ((v0.snd++[wrap u8 x0]):List Int)∧True) (Sum.inl (wrap i64 (v0.fst+1),v0.snd++[wrap u8 x0])))) (.lf (Sum.inr (bytesOf v0.snd)))
def Qjf(n:Int)(k:Int):(List UInt8):=(Qgc n k).m
def Q2s(n:Int)(k:Int):Prop:=
k≤1000000000000
theorem Z1d(n:Int)(k:Int)(hw:Q2s n k):(Qgc n k).p:=by
 simp only[Q2s]at hw
 unfold Tree.p Qgc
 repeat'(first|refine w_lp (inv:=Qkv n k) (μ:=Qcl n k) ?_ (Nat.lt_succ_self _) (fun _ _=> ?_)|exact trivial|refine w_br (fun _=> ?_) (fun _=> ?_)|refine w_cn ?_ ?_|refine w_an ?_ ?_|refine w_lv (fun _ _=> ?_)|refine w_nx ?_|refine w_lf ?_|refine And.intro ?_ ?_)
 all_goals((try simp only[Qkv,Qcl]at*);((subst_vars;first|trivial|assumption|omega|((simp(config:={decide:=true,failIfUnchanged:=false}) only[Bool.and_eq_true,Bool.or_eq_true,Bool.and_eq_false_iff,Bool.or_eq_false_iff,Bool.not_eq_true',Bool.not_eq_false',Bool.not_eq_true,Bool.not_eq_false,decide_eq_true_eq,decide_eq_false_iff_not,Q34,Q21,Q36,Q20,beq_iff_eq,beq_eq_false_iff_ne,bne_iff_ne,bne_eq_false_iff_eq,ne_eq,List.all_cons,List.all_nil,D.plain,List.length_cons,List.length_nil,List.length_append,List.length_set,List.length_replicate,IntKind.wrap_i64,IntKind.wrap_u64,IntKind.wrap_u32,IntKind.wrap_i32,IntKind.wrap_u8,true_and,and_true,or_false,false_or,or_true,true_or,not_true_eq_false,not_false_eq_true,Prod.fst,Prod.snd]at*);first|done|assumption|omega)|((simp(config:={decide:=true,failIfUnchanged:=false}) only[Bool.and_eq_true,Bool.or_eq_true,Bool.and_eq_false_iff,Bool.or_eq_false_iff,Bool.not_eq_true',Bool.not_eq_false',Bool.not_eq_true,Bool.not_eq_false,decide_eq_true_eq,decide_eq_false_iff_not,Q34,Q21,Q36,Q20,beq_iff_eq,beq_eq_false_iff_ne,bne_iff_ne,bne_eq_false_iff_eq,ne_eq,List.all_cons,List.all_nil,D.plain,List.length_cons,List.length_nil,List.length_append,List.length_set,List.length_replicate,IntKind.wrap_i64,IntKind.wrap_u64,IntKind.wrap_u32,IntKind.wrap_i32,IntKind.wrap_u8,true_and,and_true,or_false,false_or,or_true,true_or,not_true_eq_false,not_false_eq_true,Prod.fst,Prod.snd]at*);simp only[←List.length_pos_iff]at*;omega)|(simp_all;done)|(have:= @Qcx;simp_all;try omega))))
def Z54:LInv:={
 α:=(Int)×(List Int)
 F:=fun st a=>([(0,(lk st 0)),(1,(lk st 1)),(4,(lk st 4)),(5, .all 0),(6, .int IntKind.i64 a.1)],[⟨false,5,1, .ints IntKind.u8 a.2⟩])
 a0:=fun st=>((lk st 6).toInt,(Q3h st.rows (rN st 5)))
 ex0:=fun st=>[]++[(Q0p (lk st 5) (st.rows.length+0))]
 next:=fun st=>((lk st 6).toInt,(Q3h st.rows (rN st 5)))
 ex:=fun st=>[]++[(Q0p (lk st 5) (st.rows.length+0))]}
def Qyo:List (Nat×LInv):=[(3,Z54)]
def Z9t:Q08:=mkP 71 [] true [.one (.int .i64), .one (.int .i64)] [] (fun args rows=>Q2s (argI args 0) (argI args 1)) (fun args rows=>Qjf (argI args 0) (argI args 1)) (fun X=> .str X) (fun X=>[])
theorem Qrf:Q02 Tryz.prog Z9t:=Q0j Q0f Q0g (.cons Qgf (.nil)) Tryz.func71 Tryz.call71 (fun args rows=>Qgc (argI args 0) (argI args 1)) [] Qyo 3 (fun _ _ _=>by kernel_rfl) (fun _ _=>rfl) (fun args rows h=>Z1d (argI args 0) (argI args 1) h) (fun _ X=>by kernel_rfl)
def Qd2(r:Q01):Tree Q01:=
.an (Q7p r.Machine) (.lv (Qe7 r.Machine) fun(x0:Q00)=> .cn (decide (40*(0+List.length r.Log)≤140737488355328)) (.cn (decide (32*(0+List.length r.Queue)≤140737488355328)) (.lf ({Machine:=x0,Clock:=r.Clock,Log:=r.Log,Queue:=r.Queue}))))
def Qtu(r:Q01):Q01:=(Qd2 r).m
abbrev Qgx(r:Q01):Prop:=(Qd2 r).p
def Za9:Q08:=mkP 243 [] true [.agg Q01.sig] [] (fun args rows=>Qgx (Q01.of (args.getD 0 .dead).cells)) (fun args rows=>Qtu (Q01.of (args.getD 0 .dead).cells)) (fun X=> .agg (Q01.cellsW X (.all 0) (.all 1) (.all 2))) (fun X=>[⟨false,27,1, .ints .u32 X.Machine.Mem⟩,⟨false,253,4, .recs .apiEntry X.Log⟩,⟨false,63,3, .recs .apiEvent X.Queue⟩])
theorem Qqv:Q02 Tryz.prog Za9:=Q0j Q0f Q0g (.cons Qdm (.nil)) Tryz.func243 Tryz.call243 (fun args rows=>Qd2 (Q01.of (args.getD 0 .dead).cells)) [.row 27 1 (.ints .u32), .row 253 4 (.recs .apiEntry), .row 63 3 (.recs .apiEvent)] [] 2 (fun _ _ _=>by kernel_rfl) (fun _ _=>rfl) (fun _ _ h=>h) (fun _ X=>by kernel_rfl)
def Qni(e:Q0d):Tree Bool:=
.br (e.Kind==1) (.lf (decide (e.Data=[]))) (.br (e.Kind==6) (.lf (decide (e.Data=[]))) (.br (e.Kind==2) (.br (e.N==0) (.lf (decide (e.Data=[]))) (.lf false)) (.br (e.Kind==3) (.br (decide (e.N≤255)) (.lf (decide (e.Data=[]))) (.lf false)) (.br (e.Kind==4) (.br (decide (e.N≤1)) (.br (decide (e.Data=[])) (.lf true) (.br (e.N==1) (.lf ((↑(List.length e.Data):Int)==(128:Int))) (.lf false))) (.lf false)) (.br (e.Kind==5) (.br (e.N==0) (.br (decide ((↑(List.length e.Data):Int)≥(1:Int))) (.lf (decide ((↑(List.length e.Data):Int)≤(128:Int)))) (.lf false)) (.lf false)) (.lf false))))))
def Qw6(e:Q0d):Bool:=(Qni e).m
def Z14:Q08:=mkR 244 [] true [.agg Q0d.sig] [] (fun args rows=>Qw6 (Q0d.of (args.getD 0 .dead).cells)) (fun X=> .bool X) (fun X=>[])
theorem Qxa:Q02 Tryz.prog Z14:=Q0q Q0f Q0g (.nil) Tryz.func244 Tryz.call244 (fun args rows=>Qni (Q0d.of (args.getD 0 .dead).cells)) [] [] 2 (fun _ _ _=>by kernel_rfl) (fun _ _=>rfl) (fun _ _=>Tree.free_ok (by kernel_rfl)) (fun _ X=>by kernel_rfl)
def Q6m(r:Q01)(e:Q0d):Tree (Q01×Bool):=
.an (Qgx r) (.lv (Qtu r) fun(x0:Q01)=> .lv (Qw6 e) fun(x1:Bool)=> .br (!x1) (.lf (x0,false)) (.br (e.Kind==1) (.lf (x0,false)) (.br (decide ((↑(List.length x0.Queue):Int)≥(16:Int))) (.lf (x0,false)) (.cn (decide (32*(List.length x0.Queue+1)≤140737488355328)) (.lf ({Machine:=x0.Machine,Clock:=x0.Clock,Log:=x0.Log,Queue:=x0.Queue++[e]},true))))))
def Qqy(r:Q01)(e:Q0d):(Q01×Bool):=(Q6m r e).m
abbrev Qho(r:Q01)(e:Q0d):Prop:=(Q6m r e).p
def Qy9:Q08:=mkP 199 [] true [.agg Q01.sig, .agg Q0d.sig] [] (fun args rows=>Qho (Q01.of (args.getD 0 .dead).cells) (Q0d.of (args.getD 1 .dead).cells)) (fun args rows=>Qqy (Q01.of (args.getD 0 .dead).cells) (Q0d.of (args.getD 1 .dead).cells)) (fun X=> .tup [.agg (Q01.cellsW (X.1) (.all 0) (.all 1) (.all 2)), .bool (X.2)]) (fun X=>[⟨false,27,1, .ints .u32 (X.1).Machine.Mem⟩,⟨false,253,4, .recs .apiEntry (X.1).Log⟩,⟨false,63,3, .recs .apiEvent (X.1).Queue⟩])
theorem Qwz:Q02 Tryz.prog Qy9:=Q0j Q0f Q0g (.cons Qqv (.cons Qxa (.nil))) Tryz.func199 Tryz.call199 (fun args rows=>Q6m (Q01.of (args.getD 0 .dead).cells) (Q0d.of (args.getD 1 .dead).cells)) [.row 27 1 (.ints .u32), .row 253 4 (.recs .apiEntry), .row 63 3 (.recs .apiEvent)] [] 2 (fun _ _ _=>by kernel_rfl) (fun _ _=>rfl) (fun _ _ h=>h) (fun _ X=>by kernel_rfl)
def Qa9(n:Int):Tree Q0d:=
.lv (Qol n 2) fun(x0:Int)=> .br (Int.tmod x0 (7:Int)==(0:Int)) (.lf ({Kind:=2,N:=0,Data:=[]})) (.br (Int.tmod x0 (7:Int)==(1:Int)) (.lf ({Kind:=3,N:=wrap u32 (iand i64 (ishr i64 x0 8) 255),Data:=[]})) (.br (Int.tmod x0 (7:Int)==(2:Int)) (.lf ({Kind:=3,N:=wrap u32 (iand i64 (ishr i64 x0 8) 255),Data:=[]})) (.br (Int.tmod x0 (7:Int)==(3:Int)) (.lf ({Kind:=4,N:=1,Data:=[]})) (.br (Int.tmod x0 (7:Int)==(4:Int)) (.an (Q2s x0 128) (.lv (Qjf x0 128) fun(x1:List UInt8)=> .lf ({Kind:=4,N:=1,Data:=x1}))) (.br (Int.tmod x0 (7:Int)==(5:Int)) (let E1:=wrap i64 (1+Int.tmod (ishr i64 x0 8) 40); .an (Q2s x0 E1) (.lv (Qjf x0 E1) fun(x2:List UInt8)=> .lf ({Kind:=5,N:=0,Data:=x2}))) (.br (Int.tmod (ishr i64 x0 8) (4:Int)==(0:Int)) (.lf ({Kind:=4,N:=0,Data:=[]})) (.lf ({Kind:=6,N:=wrap u32 (Int.tmod (ishr i64 x0 8) 3),Data:=[]}))))))))
def Qq1(n:Int):Q0d:=(Qa9 n).m
abbrev Qf4(n:Int):Prop:=(Qa9 n).p
def Z5s:Q08:=mkP 30 [] true [.one (.int .i64)] [] (fun args rows=>Qf4 (argI args 0)) (fun args rows=>Qq1 (argI args 0)) (fun X=> .agg (Q0d.cells X)) (fun X=>[])
theorem Qmj:Q02 Tryz.prog Z5s:=Q0j Q0f Q0g (.cons Qgf (.cons Qrf (.nil))) Tryz.func30 Tryz.call30 (fun args rows=>Qa9 (argI args 0)) [] [] 2 (fun _ _ _=>by kernel_rfl) (fun _ _=>rfl) (fun _ _ h=>h) (fun _ X=>by kernel_rfl)
def Qij(m:(List Int)):Tree Int:=
.br (Int.tmod (↑(List.length m):Int) (32:Int) !=(0:Int)) (.lf 0) (.br (decide ((↑(List.length m):Int)>(1024:Int))) (.lf 0) (.lf (wrap i64 (Int.tdiv (↑(List.length m):Int) 32))))
def Q2j(m:(List Int)):Int:=(Qij m).m
def Z5b:Q08:=mkR 79 [] true [.one (.ints .u32)] [] (fun args rows=>Q2j (argL .u32 args 0)) (fun X=> .int .i64 X) (fun X=>[])
theorem Q86:Q02 Tryz.prog Z5b:=Q0q Q0f Q0g (.nil) Tryz.func79 Tryz.call79 (fun args rows=>Qij (argL .u32 args 0)) [] [] 2 (fun _ _ _=>by kernel_rfl) (fun _ _=>rfl) (fun _ _=>Tree.free_ok (by kernel_rfl)) (fun _ X=>by kernel_rfl)
def Qfy(c:Q09):Tree Bool:=
.lf (decide ((↑(List.length c.Keys):Int)≤(16:Int)))
def Qd4(c:Q09):Bool:=(Qfy c).m
def Qp2:Q08:=mkR 86 [] true [.agg Q09.sig] [] (fun args rows=>Qd4 (Q09.of (args.getD 0 .dead).cells)) (fun X=> .bool X) (fun X=>[])
theorem Qno:Q02 Tryz.prog Qp2:=Q0q Q0f Q0g (.nil) Tryz.func86 Tryz.call86 (fun args rows=>Qfy (Q09.of (args.getD 0 .dead).cells)) [] [] 2 (fun _ _ _=>by kernel_rfl) (fun _ _=>rfl) (fun _ _=>Tree.free_ok (by kernel_rfl)) (fun _ X=>by kernel_rfl)
def Qdy(t:Q0h):Tree Bool:=
.br t.Armed (.br t.Fired (.lf false) (.br t.Armed (.lf (t.Deadline !=0)) (.br t.Fired (.lf true) (.lf (t.Deadline==0))))) (.br t.Armed (.lf (t.Deadline !=0)) (.br t.Fired (.lf true) (.lf (t.Deadline==0))))
def Q7y(t:Q0h):Bool:=(Qdy t).m
def Qtx:Q08:=mkR 87 [] true [.agg Q0h.sig] [] (fun args rows=>Q7y (Q0h.of (args.getD 0 .dead).cells)) (fun X=> .bool X) (fun X=>[])
theorem Qsd:Q02 Tryz.prog Qtx:=Q0q Q0f Q0g (.nil) Tryz.func87 Tryz.call87 (fun args rows=>Qdy (Q0h.of (args.getD 0 .dead).cells)) [] [] 2 (fun _ _ _=>by kernel_rfl) (fun _ _=>rfl) (fun _ _=>Tree.free_ok (by kernel_rfl)) (fun _ X=>by kernel_rfl)
def Qf2(d0:Q0b)(pages:Int):Tree Bool:=
.br (decide (d0.Blocks>64)) (.lf false) (.br (decide (d0.State<0)) (.lf false) (.br (decide (d0.State>3)) (.lf false) (.br (d0.State !=1) (.br (d0.Cmd==0) (.br (d0.OpBlock==0) (.br (d0.OpFrame==0) (.lf (decide (d0.OpData=[]))) (.lf false)) (.lf false)) (.lf false)) (.br (decide (d0.OpBlock≥d0.Blocks)) (.lf false) (.br (decide (wrap i64 d0.OpFrame≥pages)) (.lf false) (.br (d0.Cmd==1) (.br (decide (d0.OpData=[])) (.lf true) (.br (d0.Cmd==2) (.lf ((↑(List.length d0.OpData):Int)==(128:Int))) (.lf false))) (.br (d0.Cmd==2) (.lf ((↑(List.length d0.OpData):Int)==(128:Int))) (.lf false))))))))
def Qan(d0:Q0b)(pages:Int):Bool:=(Qf2 d0 pages).m
def Qxt:Q08:=mkR 88 [] true [.agg Q0b.sig, .one (.int .i64)] [] (fun args rows=>Qan (Q0b.of (args.getD 0 .dead).cells) (argI args 1)) (fun X=> .bool X) (fun X=>[])
theorem Qtr:Q02 Tryz.prog Qxt:=Q0q Q0f Q0g (.nil) Tryz.func88 Tryz.call88 (fun args rows=>Qf2 (Q0b.of (args.getD 0 .dead).cells) (argI args 1)) [] [] 2 (fun _ _ _=>by kernel_rfl) (fun _ _=>rfl) (fun _ _=>Tree.free_ok (by kernel_rfl)) (fun _ X=>by kernel_rfl)
def Qgl(n:Q0k)(pages:Int):Tree Bool:=
let T1:Tree (Bool):= .br n.Received (.br (decide (n.Got≥1)) (.lf (decide (n.Got≤128))) (.lf false)) (.lf (n.Got==0)); .br n.Posted (.br n.Received (.lf false) (.br (decide (wrap i64 n.Buffer≥pages)) (.lf false) (.br (!n.Posted) (.br (n.Buffer !=0) (.lf false) T1) T1))) (.br (!n.Posted) (.br (n.Buffer !=0) (.lf false) T1) T1)
def Qdu(n:Q0k)(pages:Int):Bool:=(Qgl n pages).m
def Z1k:Q08:=mkR 89 [] true [.agg Q0k.sig, .one (.int .i64)] [] (fun args rows=>Qdu (Q0k.of (args.getD 0 .dead).cells) (argI args 1)) (fun X=> .bool X) (fun X=>[])
theorem Qxs:Q02 Tryz.prog Z1k:=Q0q Q0f Q0g (.nil) Tryz.func89 Tryz.call89 (fun args rows=>Qgl (Q0k.of (args.getD 0 .dead).cells) (argI args 1)) [] [] 2 (fun _ _ _=>by kernel_rfl) (fun _ _=>rfl) (fun _ _=>Tree.free_ok (by kernel_rfl)) (fun _ X=>by kernel_rfl)
def Qb5(b:Q04)(pages:Int)(z:(Int)):Prop:=0≤z∧z≤32
def Q3p(b:Q04)(pages:Int)(z:(Int)):Nat:=(32-z).toNat
def Q2y(b:Q04)(pages:Int):Tree Bool:=
.lp inferInstance (Q3p b pages 0+1) (((rE b.Target∧rE b.Given∧True)∧rE (pages:Int)∧(rE ((nat_lit 0):Nat)∧rE ((nat_lit 0):Nat))∧rE (false:Bool)∧rE (0:Int)∧True)∧(rE b.Target∧rE b.Given∧True)∧True) 0 fun(v0:Int)=> .br (decide (v0<32)) (.cn (decide (0≤wrap u64 v0)) (let T1:Tree ((Int)⊕(Bool)):= .nx (((rE b.Target∧rE b.Given∧True)∧rE (pages:Int)∧(rE ((nat_lit 0):Nat)∧rE ((nat_lit 0):Nat))∧rE (false:Bool)∧rE ((wrap i64 (v0+1)):Int)∧True)∧(rE b.Target∧rE b.Given∧True)∧True) (Sum.inl (wrap i64 (v0+1))); .br (iand u32 (ishr u32 b.Given (wrap u64 v0)) (1:Int)==(1:Int)) (.br (decide (v0≥pages)) (.lf (Sum.inr false)) T1) T1)) (.lf (Sum.inr true))
def Q5t(b:Q04)(pages:Int):Bool:=(Q2y b pages).m
theorem Qlz(b:Q04)(pages:Int):(Q2y b pages).p:=by
 unfold Tree.p Q2y
 repeat'(first|refine w_lp (inv:=Qb5 b pages) (μ:=Q3p b pages) ?_ (Nat.lt_succ_self _) (fun _ _=> ?_)|exact trivial|refine w_br (fun _=> ?_) (fun _=> ?_)|refine w_cn ?_ ?_|refine w_an ?_ ?_|refine w_lv (fun _ _=> ?_)|refine w_nx ?_|refine w_lf ?_|refine And.intro ?_ ?_)
 all_goals((try simp only[Qb5,Q3p]at*);((subst_vars;first|trivial|assumption|omega|((simp(config:={decide:=true,failIfUnchanged:=false}) only[Bool.and_eq_true,Bool.or_eq_true,Bool.and_eq_false_iff,Bool.or_eq_false_iff,Bool.not_eq_true',Bool.not_eq_false',Bool.not_eq_true,Bool.not_eq_false,decide_eq_true_eq,decide_eq_false_iff_not,Q34,Q21,Q36,Q20,beq_iff_eq,beq_eq_false_iff_ne,bne_iff_ne,bne_eq_false_iff_eq,ne_eq,List.all_cons,List.all_nil,D.plain,List.length_cons,List.length_nil,List.length_append,List.length_set,List.length_replicate,IntKind.wrap_i64,IntKind.wrap_u64,IntKind.wrap_u32,IntKind.wrap_i32,IntKind.wrap_u8,true_and,and_true,or_false,false_or,or_true,true_or,not_true_eq_false,not_false_eq_true,Prod.fst,Prod.snd]at*);first|done|assumption|omega)|((simp(config:={decide:=true,failIfUnchanged:=false}) only[Bool.and_eq_true,Bool.or_eq_true,Bool.and_eq_false_iff,Bool.or_eq_false_iff,Bool.not_eq_true',Bool.not_eq_false',Bool.not_eq_true,Bool.not_eq_false,decide_eq_true_eq,decide_eq_false_iff_not,Q34,Q21,Q36,Q20,beq_iff_eq,beq_eq_false_iff_ne,bne_iff_ne,bne_eq_false_iff_eq,ne_eq,List.all_cons,List.all_nil,D.plain,List.length_cons,List.length_nil,List.length_append,List.length_set,List.length_replicate,IntKind.wrap_i64,IntKind.wrap_u64,IntKind.wrap_u32,IntKind.wrap_i32,IntKind.wrap_u8,true_and,and_true,or_false,false_or,or_true,true_or,not_true_eq_false,not_false_eq_true,Prod.fst,Prod.snd]at*);simp only[←List.length_pos_iff]at*;omega)|(simp_all;done)|(have:= @Qcx;simp_all;try omega))))
def Qms:LInv:={
 α:=(Int)
 F:=fun st a=>([(0,(lk st 0)),(1,(lk st 1)),(2, .ptr 0 0 0),(4,(lk st 4)),(5, .int IntKind.i64 a)],[⟨true,41,2, .gen [[(cT st 2 0),(cT st 2 1)]]⟩])
 a0:=fun st=>(lk st 5).toInt
 ex0:=fun st=>[]++[(Q0p (lk st 2) (st.rows.length+0))]
 next:=fun st=>(lk st 5).toInt
 ex:=fun st=>[]++[(Q0p (lk st 2) (st.rows.length+0))]}
def Qkb:List (Nat×LInv):=[(2,Qms)]
def Qqk:Q08:=mkR 90 [] true [.agg Q04.sig, .one (.int .i64)] [] (fun args rows=>Q5t (Q04.of (args.getD 0 .dead).cells) (argI args 1)) (fun X=> .bool X) (fun X=>[])
theorem Qnj:Q02 Tryz.prog Qqk:=Q0q Q0f Q0g (.nil) Tryz.func90 Tryz.call90 (fun args rows=>Q2y (Q04.of (args.getD 0 .dead).cells) (argI args 1)) [] Qkb 3 (fun _ _ _=>by kernel_rfl) (fun _ _=>rfl) (fun args rows=>Qlz (Q04.of (args.getD 0 .dead).cells) (argI args 1)) (fun _ X=>by kernel_rfl)
def Qqd(m:Q00):Tree Bool:=
.lv (Q2j m.Mem) fun(x0:Int)=> .br (decide (x0<1)) (.lf false) (.br (m.Cpu.X.a0 !=0) (.lf false) (.br (decide (m.Cpu.Csr.a0>31)) (.lf false) (.br (decide (m.Cpu.Csr.a7>31)) (.lf false) (.br (decide (m.Cpu.Csr.a6>255)) (.lf false) (.br (Int.tmod m.Cpu.Csr.a1 (4:Int) !=(0:Int)) (.lf false) (.lv (Qd4 m.Console) fun(x1:Bool)=> .br (!x1) (.lf false) (.lv (Q7y m.Timer) fun(x2:Bool)=> .br (!x2) (.lf false) (.lv (Qan m.Disk x0) fun(x3:Bool)=> .br (!x3) (.lf false) (.lv (Qdu m.Nic x0) fun(x4:Bool)=> .br (!x4) (.lf false) (.lv (Q5t m.Balloon x0) fun(x5:Bool)=> .br (!x5) (.lf false) (.br (decide (m.Count≤1152921504606846976)) (.br m.Waiting (.lf (!m.Halted)) (.lf true)) (.lf false))))))))))))
def Q9x(m:Q00):Bool:=(Qqd m).m
def Zce:Q08:=mkR 39 [] true [.agg Q00.sig] [] (fun args rows=>Q9x (Q00.of (args.getD 0 .dead).cells)) (fun X=> .bool X) (fun X=>[])
theorem Qh1:Q02 Tryz.prog Zce:=Q0q Q0f Q0g (.cons Q86 (.cons Qno (.cons Qsd (.cons Qtr (.cons Qxs (.cons Qnj (.nil))))))) Tryz.func39 Tryz.call39 (fun args rows=>Qqd (Q00.of (args.getD 0 .dead).cells)) [] [] 2 (fun _ _ _=>by kernel_rfl) (fun _ _=>rfl) (fun _ _=>Tree.free_ok (by kernel_rfl)) (fun _ X=>by kernel_rfl)
def Qu7(t:Q0h):Tree (Q0h×Bool):=
.br (!t.Armed) (.lf (t,false)) (.lf ({Armed:=false,Deadline:=t.Deadline,Fired:=true},true))
def Qmf(t:Q0h):(Q0h×Bool):=(Qu7 t).m
def Z8m:Q08:=mkR 144 [] true [.agg Q0h.sig] [] (fun args rows=>Qmf (Q0h.of (args.getD 0 .dead).cells)) (fun X=> .tup [.agg (Q0h.cells (X.1)), .bool (X.2)]) (fun X=>[])
theorem Qqq:Q02 Tryz.prog Z8m:=Q0q Q0f Q0g (.nil) Tryz.func144 Tryz.call144 (fun args rows=>Qu7 (Q0h.of (args.getD 0 .dead).cells)) [] [] 2 (fun _ _ _=>by kernel_rfl) (fun _ _=>rfl) (fun _ _=>Tree.free_ok (by kernel_rfl)) (fun _ X=>by kernel_rfl)
def Qdn(c:Q09)(b:Int):Tree (Q09×Bool):=
.br (decide ((↑(List.length c.Keys):Int)≥(16:Int))) (.lf (c,false)) (.cn (decide (List.length c.Keys+1≤maxLen)) (.lf ({Keys:=c.Keys++[(fun(n:Int)=>UInt8.ofNat (Int.toNat n)) b]},true)))
def Qo6(c:Q09)(b:Int):(Q09×Bool):=(Qdn c b).m
abbrev Qgi(c:Q09)(b:Int):Prop:=(Qdn c b).p
def Z9v:Q08:=mkP 145 [] true [.agg Q09.sig, .one (.int .u8)] [] (fun args rows=>Qgi (Q09.of (args.getD 0 .dead).cells) (argI args 1)) (fun args rows=>Qo6 (Q09.of (args.getD 0 .dead).cells) (argI args 1)) (fun X=> .tup [.agg (Q09.cells (X.1)), .bool (X.2)]) (fun X=>[])
theorem Qqs:Q02 Tryz.prog Z9v:=Q0j Q0f Q0g (.nil) Tryz.func145 Tryz.call145 (fun args rows=>Qdn (Q09.of (args.getD 0 .dead).cells) (argI args 1)) [] [] 2 (fun _ _ _=>by kernel_rfl) (fun _ _=>rfl) (fun _ _ h=>h) (fun _ X=>by kernel_rfl)
def Qcz(m:(List Int))(frame:Int):Tree Bool:=
.lv (Q2j m) fun(x0:Int)=> .lf (decide (wrap u64 frame<wrap u64 x0))
def Q1j(m:(List Int))(frame:Int):Bool:=(Qcz m frame).m
def Z8b:Q08:=mkR 202 [] true [.one (.ints .u32), .one (.int .u32)] [] (fun args rows=>Q1j (argL .u32 args 0) (argI args 1)) (fun X=> .bool X) (fun X=>[])
theorem Qa2:Q02 Tryz.prog Z8b:=Q0q Q0f Q0g (.cons Q86 (.nil)) Tryz.func202 Tryz.call202 (fun args rows=>Qcz (argL .u32 args 0) (argI args 1)) [] [] 2 (fun _ _ _=>by kernel_rfl) (fun _ _=>rfl) (fun _ _=>Tree.free_ok (by kernel_rfl)) (fun _ X=>by kernel_rfl)
def Qby(m:(List Int))(addr:Int)(size:Int)(v:Int):Tree (List Int):=
let E1:=Nat.beq 1 1&&Nat.blt 0 1&&decide (0≤wrap u32 (Int.tdiv addr 4)∧wrap u32 (Int.tdiv addr 4)<(↑(List.length m):Int));let E2:=Int.toNat (wrap u32 (Int.tdiv addr 4)); .br (size==4) (.cn E1 (.lf (List.set m E2 v))) (.cn E1 (let E3:=decide (0≤wrap u32 (8*Int.tmod addr 4)); .cn E3 (.cn E3 (.cn E1 (.lf (List.set m E2 (ior u32 (Qka u32 (List.getD m E2 0) (ishl u32 255 (wrap u32 (8*Int.tmod addr 4)))) (ishl u32 (iand u32 v 255) (wrap u32 (8*Int.tmod addr 4))))))))))
def Qbf(m:(List Int))(addr:Int)(size:Int)(v:Int):(List Int):=(Qby m addr size v).m
abbrev Qal(m:(List Int))(addr:Int)(size:Int)(v:Int):Prop:=(Qby m addr size v).p
def Ze:Q08:=mkP 237 [true,false,false,false] true [.one (.row 0), .one (.int .u32), .one (.int .i64), .one (.int .u32)] [.arr 27 1 (.ints .u32)] (fun args rows=>Qal (rowL .u32 rows 0) (argI args 1) (argI args 2) (argI args 3)) (fun args rows=>Qbf (rowL .u32 rows 0) (argI args 1) (argI args 2) (argI args 3)) (fun X=> .tup []) (fun X=>[⟨false,27,1, .ints .u32 X⟩])
theorem Qvq:Q02 Tryz.prog Ze:=Q0j Q0f Q0g (.nil) Tryz.func237 Tryz.call237 (fun args rows=>Qby (rowL .u32 rows 0) (argI args 1) (argI args 2) (argI args 3)) [] [] 2 (fun _ _ _=>by kernel_rfl) (fun _ _=>rfl) (fun _ _ h=>h) (fun _ X=>by kernel_rfl)
def Qca(m:(List Int))(frame:Int)(s:(List UInt8))(z:(Int)×(List Int)):Nat:=(128-z.1).toNat
def Q5f(m:(List Int))(frame:Int)(s:(List UInt8)):Tree (List Int):=
.lp inferInstance (Qca m frame s (0,m)+1) ((True∧rE (frame:Int)∧rE (s:List UInt8)∧rE (0:Int)∧True)∧rE (m:List Int)∧True) (0,m) fun(v0:Int×List Int)=> .br (decide (v0.fst<(↑(List.length s):Int))) (.br (decide (v0.fst<128)) (.cn (decide (0≤v0.fst∧v0.fst<(↑(List.length s):Int))) (let E1:=wrap u32 (↑(UInt8.toNat (List.getD s (Int.toNat v0.fst) (0:UInt8))):Int);let E2:=wrap u32 (wrap i64 (wrap i64 (frame*128)+v0.fst)); .an (Qal v0.snd E2 1 E1) (.lv (Qbf v0.snd E2 1 E1) fun(x0:List Int)=> .nx ((True∧rE (frame:Int)∧rE (s:List UInt8)∧rE ((wrap i64 (v0.fst+1)):Int)∧True)∧rE (x0:List Int)∧True) (Sum.inl (wrap i64 (v0.fst+1),x0))))) (.lf (Sum.inr v0.snd))) (.lf (Sum.inr v0.snd))
def Qg3(m:(List Int))(frame:Int)(s:(List UInt8)):(List Int):=(Q5f m frame s).m
abbrev Qh5(m:(List Int))(frame:Int)(s:(List UInt8)):Prop:=(Q5f m frame s).p
def Z6e:LInv:={
 α:=(Int)×(List Int)
 F:=fun st a=>([(0, .all 0),(1,(lk st 1)),(2,(lk st 2)),(6, .int IntKind.i64 a.1)],[⟨false,27,1, .ints IntKind.u32 a.2⟩])
 a0:=fun st=>((lk st 6).toInt,(Q3h st.rows 0))
 ex0:=fun st=>[0]++[]
 next:=fun st=>((lk st 6).toInt,(Q3h st.rows 0))
 ex:=fun st=>[0]++[]}
def Qy7:List (Nat×LInv):=[(1,Z6e)]
def Z8z:Q08:=mkP 203 [true,false,false] true [.one (.row 0), .one (.int .i64), .one (.str)] [.arr 27 1 (.ints .u32)] (fun args rows=>Qh5 (rowL .u32 rows 0) (argI args 1) (argS args 2)) (fun args rows=>Qg3 (rowL .u32 rows 0) (argI args 1) (argS args 2)) (fun X=> .tup []) (fun X=>[⟨false,27,1, .ints .u32 X⟩])
theorem Qrt:Q02 Tryz.prog Z8z:=Q0j Q0f Q0g (.cons Qvq (.nil)) Tryz.func203 Tryz.call203 (fun args rows=>Q5f (rowL .u32 rows 0) (argI args 1) (argS args 2)) [] Qy7 3 (fun _ _ _=>by kernel_rfl) (fun _ _=>rfl) (fun _ _ h=>h) (fun _ X=>by kernel_rfl)
def Q5w(d0:Q0b)(m:(List Int))(e:Q0d):Tree (Q0b×Bool×(List Int)):=
.br (d0.State !=1) (.lf (d0,false,m)) (.br (e.Kind !=4) (.lf (d0,false,m)) (.br (decide (e.N>1)) (.lf (d0,false,m)) (let E4:=({Blocks:=d0.Blocks,Block:=d0.Block,Frame:=d0.Frame,State:=2,Cmd:=0,OpBlock:=0,OpFrame:=0,OpData:=[]}:Q0b);let E5:=({Blocks:=d0.Blocks,Block:=d0.Block,Frame:=d0.Frame,State:=3,Cmd:=0,OpBlock:=0,OpFrame:=0,OpData:=[]}:Q0b);let T2:Tree ((Q0b×Bool×(List Int))):= .br (e.N==1) (.lf (E4,true,m)) (.lf (E5,true,m));let E6:=decide ((↑(List.length e.Data):Int)>(0:Int)); .br (e.N==1) (let T1:Tree ((Q0b×Bool×(List Int))):= .br (d0.Cmd==1) (.an (Qh5 m (wrap i64 d0.OpFrame) e.Data) (.lv (Qg3 m (wrap i64 d0.OpFrame) e.Data) fun(x1:List Int)=> .br (e.N==1) (.lf (E4,true,x1)) (.lf (E5,true,x1)))) T2;let T3:Tree ((Q0b×Bool×(List Int))):= .br (!d0.Cmd==1) (.br E6 (.lf (d0,false,m)) T1) T1; .br (d0.Cmd==1) (.br ((↑(List.length e.Data):Int) !=(128:Int)) (.lf (d0,false,m)) (.lv (Q1j m d0.OpFrame) fun(x0:Bool)=> .br (!x0) (.lf (d0,false,m)) T3)) T3) (.br E6 (.lf (d0,false,m)) T2))))
def Q7a(d0:Q0b)(m:(List Int))(e:Q0d):(Q0b×Bool×(List Int)):=(Q5w d0 m e).m
abbrev Qdg(d0:Q0b)(m:(List Int))(e:Q0d):Prop:=(Q5w d0 m e).p
def Z36:Q08:=mkP 146 [false,true,false] true [.agg Q0b.sig, .one (.row 0), .agg Q0d.sig] [.arr 27 1 (.ints .u32)] (fun args rows=>Qdg (Q0b.of (args.getD 0 .dead).cells) (rowL .u32 rows 0) (Q0d.of (args.getD 2 .dead).cells)) (fun args rows=>Q7a (Q0b.of (args.getD 0 .dead).cells) (rowL .u32 rows 0) (Q0d.of (args.getD 2 .dead).cells)) (fun X=> .tup [.agg (Q0b.cells (X.1)), .bool (X.2.1)]) (fun X=>[⟨false,27,1, .ints .u32 (X.2.2)⟩])
theorem Qkk:Q02 Tryz.prog Z36:=Q0j Q0f Q0g (.cons Qa2 (.cons Qrt (.nil))) Tryz.func146 Tryz.call146 (fun args rows=>Q5w (Q0b.of (args.getD 0 .dead).cells) (rowL .u32 rows 0) (Q0d.of (args.getD 2 .dead).cells)) [] [] 2 (fun _ _ _=>by kernel_rfl) (fun _ _=>rfl) (fun _ _ h=>h) (fun _ X=>by kernel_rfl)
def Q6b(n:Q0k)(m:(List Int))(frame:(List UInt8)):Tree (Q0k×Bool×(List Int)):=
.br (!n.Posted) (.lf (n,false,m)) (.br (decide ((↑(List.length frame):Int)<(1:Int))) (.lf (n,false,m)) (.br (decide ((↑(List.length frame):Int)>(128:Int))) (.lf (n,false,m)) (.lv (Q1j m n.Buffer) fun(x0:Bool)=> .br (!x0) (.lf (n,false,m)) (.an (Qh5 m (wrap i64 n.Buffer) frame) (.lv (Qg3 m (wrap i64 n.Buffer) frame) fun(x1:List Int)=> .lf ({Frame:=n.Frame,Len:=n.Len,Posted:=false,Buffer:=0,Received:=true,Got:=wrap u32 (↑(List.length frame):Int)},true,x1))))))
def Q7h(n:Q0k)(m:(List Int))(frame:(List UInt8)):(Q0k×Bool×(List Int)):=(Q6b n m frame).m
abbrev Qc2(n:Q0k)(m:(List Int))(frame:(List UInt8)):Prop:=(Q6b n m frame).p
def Z2j:Q08:=mkP 147 [false,true,false] true [.agg Q0k.sig, .one (.row 0), .one (.str)] [.arr 27 1 (.ints .u32)] (fun args rows=>Qc2 (Q0k.of (args.getD 0 .dead).cells) (rowL .u32 rows 0) (argS args 2)) (fun args rows=>Q7h (Q0k.of (args.getD 0 .dead).cells) (rowL .u32 rows 0) (argS args 2)) (fun X=> .tup [.agg (Q0k.cells (X.1)), .bool (X.2.1)]) (fun X=>[⟨false,27,1, .ints .u32 (X.2.2)⟩])
theorem Qky:Q02 Tryz.prog Z2j:=Q0j Q0f Q0g (.cons Qa2 (.cons Qrt (.nil))) Tryz.func147 Tryz.call147 (fun args rows=>Q6b (Q0k.of (args.getD 0 .dead).cells) (rowL .u32 rows 0) (argS args 2)) [] [] 2 (fun _ _ _=>by kernel_rfl) (fun _ _=>rfl) (fun _ _ h=>h) (fun _ X=>by kernel_rfl)
def Q7j(m:Q00)(e:Q0d):Tree (Bool×Q00):=
.br m.Halted (.lf (false,m)) (let T1:Tree ((Bool×Q00)):= .br (e.Kind==4) (.an (Qdg m.Disk m.Mem e) (.lv (Q7a m.Disk m.Mem e) fun(x2:Q0b×Bool×List Int)=> .lf (x2.snd.fst,{Cpu:=m.Cpu,Mem:=x2.snd.snd,Console:=m.Console,Timer:=m.Timer,Disk:=x2.fst,Nic:=m.Nic,Balloon:=m.Balloon,Count:=m.Count,Waiting:=m.Waiting,Halted:=m.Halted}))) (let T3:Tree ((Bool×Q00)):= .br (e.Kind==6) (.br (decide (e.Data=[])) (.lf (true,{Cpu:=m.Cpu,Mem:=m.Mem,Console:=m.Console,Timer:=m.Timer,Disk:=m.Disk,Nic:=m.Nic,Balloon:={Target:=e.N,Given:=m.Balloon.Given},Count:=m.Count,Waiting:=m.Waiting,Halted:=m.Halted})) (.lf (false,m))) (.lf (false,m)); .br (e.Kind==5) (.br (e.N==0) (.an (Qc2 m.Nic m.Mem e.Data) (.lv (Q7h m.Nic m.Mem e.Data) fun(x3:Q0k×Bool×List Int)=> .lf (x3.snd.fst,{Cpu:=m.Cpu,Mem:=x3.snd.snd,Console:=m.Console,Timer:=m.Timer,Disk:=m.Disk,Nic:=x3.fst,Balloon:=m.Balloon,Count:=m.Count,Waiting:=m.Waiting,Halted:=m.Halted}))) T3) T3);let T2:Tree ((Bool×Q00)):= .br (e.Kind==3) (.br (decide (e.N≤255)) (.br (decide (e.Data=[])) (.an (Qgi m.Console (wrap u8 e.N)) (.lv (Qo6 m.Console (wrap u8 e.N)) fun(x1:Q09×Bool)=> .lf (x1.snd,{Cpu:=m.Cpu,Mem:=m.Mem,Console:=x1.fst,Timer:=m.Timer,Disk:=m.Disk,Nic:=m.Nic,Balloon:=m.Balloon,Count:=m.Count,Waiting:=m.Waiting,Halted:=m.Halted}))) T1) T1) T1; .br (e.Kind==2) (.br (e.N==0) (.br (decide (e.Data=[])) (.lv (Qmf m.Timer) fun(x0:Q0h×Bool)=> .lf (x0.snd,{Cpu:=m.Cpu,Mem:=m.Mem,Console:=m.Console,Timer:=x0.fst,Disk:=m.Disk,Nic:=m.Nic,Balloon:=m.Balloon,Count:=m.Count,Waiting:=m.Waiting,Halted:=m.Halted})) T2) T2) T2)
def Qql(m:Q00)(e:Q0d):(Bool×Q00):=(Q7j m e).m
abbrev Ql2(m:Q00)(e:Q0d):Prop:=(Q7j m e).p
def Z4d:Q08:=mkP 69 [true,false] true [.ptr 0, .agg Q0d.sig] [.box 44 49 (Q00.sigW (.row 1)), .arr 27 1 (.ints .u32)] (fun args rows=>Ql2 (Q00.ofW (rows.getD 0 default).cs (rowL .u32 rows 1)) (Q0d.of (args.getD 1 .dead).cells)) (fun args rows=>Qql (Q00.ofW (rows.getD 0 default).cs (rowL .u32 rows 1)) (Q0d.of (args.getD 1 .dead).cells)) (fun X=> .bool (X.1)) (fun X=>[⟨true,44,49, .gen [(Q00.cellsW (X.2) (.all 1))]⟩,⟨false,27,1, .ints .u32 (X.2).Mem⟩])
theorem Qom:Q02 Tryz.prog Z4d:=Q0j Q0f Q0g (.cons Qqq (.cons Qqs (.cons Qkk (.cons Qky (.nil))))) Tryz.func69 Tryz.call69 (fun args rows=>Q7j (Q00.ofW (rows.getD 0 default).cs (rowL .u32 rows 1)) (Q0d.of (args.getD 1 .dead).cells)) [.row 27 1 (.ints .u32)] [] 2 (fun _ _ _=>by kernel_rfl) (fun _ _=>rfl) (fun _ _ h=>h) (fun _ X=>by kernel_rfl)
def Q6w(m:Q01)(e:Q0d):Tree (Bool×Q01):=
.br m.Machine.Halted (.lf (false,m)) (let T1:Tree ((Bool×Q01)):= .br (e.Kind==4) (.an (Qdg m.Machine.Disk m.Machine.Mem e) (.lv (Q7a m.Machine.Disk m.Machine.Mem e) fun(x2:Q0b×Bool×List Int)=> .lf (x2.snd.fst,{Machine:={Cpu:=m.Machine.Cpu,Mem:=x2.snd.snd,Console:=m.Machine.Console,Timer:=m.Machine.Timer,Disk:=x2.fst,Nic:=m.Machine.Nic,Balloon:=m.Machine.Balloon,Count:=m.Machine.Count,Waiting:=m.Machine.Waiting,Halted:=m.Machine.Halted},Clock:=m.Clock,Log:=m.Log,Queue:=m.Queue}))) (let T3:Tree ((Bool×Q01)):= .br (e.Kind==6) (.br (decide (e.Data=[])) (.lf (true,{Machine:={Cpu:=m.Machine.Cpu,Mem:=m.Machine.Mem,Console:=m.Machine.Console,Timer:=m.Machine.Timer,Disk:=m.Machine.Disk,Nic:=m.Machine.Nic,Balloon:={Target:=e.N,Given:=m.Machine.Balloon.Given},Count:=m.Machine.Count,Waiting:=m.Machine.Waiting,Halted:=m.Machine.Halted},Clock:=m.Clock,Log:=m.Log,Queue:=m.Queue})) (.lf (false,m))) (.lf (false,m)); .br (e.Kind==5) (.br (e.N==0) (.an (Qc2 m.Machine.Nic m.Machine.Mem e.Data) (.lv (Q7h m.Machine.Nic m.Machine.Mem e.Data) fun(x3:Q0k×Bool×List Int)=> .lf (x3.snd.fst,{Machine:={Cpu:=m.Machine.Cpu,Mem:=x3.snd.snd,Console:=m.Machine.Console,Timer:=m.Machine.Timer,Disk:=m.Machine.Disk,Nic:=x3.fst,Balloon:=m.Machine.Balloon,Count:=m.Machine.Count,Waiting:=m.Machine.Waiting,Halted:=m.Machine.Halted},Clock:=m.Clock,Log:=m.Log,Queue:=m.Queue}))) T3) T3);let T2:Tree ((Bool×Q01)):= .br (e.Kind==3) (.br (decide (e.N≤255)) (.br (decide (e.Data=[])) (.an (Qgi m.Machine.Console (wrap u8 e.N)) (.lv (Qo6 m.Machine.Console (wrap u8 e.N)) fun(x1:Q09×Bool)=> .lf (x1.snd,{Machine:={Cpu:=m.Machine.Cpu,Mem:=m.Machine.Mem,Console:=x1.fst,Timer:=m.Machine.Timer,Disk:=m.Machine.Disk,Nic:=m.Machine.Nic,Balloon:=m.Machine.Balloon,Count:=m.Machine.Count,Waiting:=m.Machine.Waiting,Halted:=m.Machine.Halted},Clock:=m.Clock,Log:=m.Log,Queue:=m.Queue}))) T1) T1) T1; .br (e.Kind==2) (.br (e.N==0) (.br (decide (e.Data=[])) (.lv (Qmf m.Machine.Timer) fun(x0:Q0h×Bool)=> .lf (x0.snd,{Machine:={Cpu:=m.Machine.Cpu,Mem:=m.Machine.Mem,Console:=m.Machine.Console,Timer:=x0.fst,Disk:=m.Machine.Disk,Nic:=m.Machine.Nic,Balloon:=m.Machine.Balloon,Count:=m.Machine.Count,Waiting:=m.Machine.Waiting,Halted:=m.Machine.Halted},Clock:=m.Clock,Log:=m.Log,Queue:=m.Queue})) T2) T2) T2)
def Qrw(m:Q01)(e:Q0d):(Bool×Q01):=(Q6w m e).m
abbrev Qhm(m:Q01)(e:Q0d):Prop:=(Q6w m e).p
def Qy:Q08:=mkP 69 [true,false] true [.ptr 0, .agg Q0d.sig] [.box 114 52 (Q01.sigW (.row 1) (.row 2) (.row 3)), .arr 27 1 (.ints .u32), .arr 253 4 (.recs .apiEntry), .arr 63 3 (.recs .apiEvent)] (fun args rows=>Qhm (Q01.ofW (rows.getD 0 default).cs (rowL .u32 rows 1) (rowR .apiEntry rows 2) (rowR .apiEvent rows 3)) (Q0d.of (args.getD 1 .dead).cells)) (fun args rows=>Qrw (Q01.ofW (rows.getD 0 default).cs (rowL .u32 rows 1) (rowR .apiEntry rows 2) (rowR .apiEvent rows 3)) (Q0d.of (args.getD 1 .dead).cells)) (fun X=> .bool (X.1)) (fun X=>[⟨true,114,52, .gen [(Q01.cellsW (X.2) (.all 1) (.all 2) (.all 3))]⟩,⟨false,27,1, .ints .u32 (X.2).Machine.Mem⟩,⟨false,253,4, .recs .apiEntry (X.2).Log⟩,⟨false,63,3, .recs .apiEvent (X.2).Queue⟩])
theorem Qvd:Q02 Tryz.prog Qy:=Q0j Q0f Q0g (.cons Qqq (.cons Qqs (.cons Qkk (.cons Qky (.nil))))) Tryz.func69 Tryz.call69 (fun args rows=>Q6w (Q01.ofW (rows.getD 0 default).cs (rowL .u32 rows 1) (rowR .apiEntry rows 2) (rowR .apiEvent rows 3)) (Q0d.of (args.getD 1 .dead).cells)) [.row 27 1 (.ints .u32), .row 253 4 (.recs .apiEntry), .row 63 3 (.recs .apiEvent)] [] 2 (fun _ _ _=>by kernel_rfl) (fun _ _=>rfl) (fun _ _ h=>h) (fun _ X=>by kernel_rfl)
def Q5o(m:Q01)(e:Q0d):Tree (Bool×Q01):=
.an (Qhm m e) (.lv (Qrw m e) fun(x0:Bool×Q01)=> .lf (x0.fst,x0.snd))
def Qmv(m:Q01)(e:Q0d):(Bool×Q01):=(Q5o m e).m
abbrev Qfn(m:Q01)(e:Q0d):Prop:=(Q5o m e).p
def Qw4:Q08:=mkP 263 [true,false] true [.ptr 0, .agg Q0d.sig] [.box 114 52 (Q01.sigW (.row 1) (.row 2) (.row 3)), .arr 27 1 (.ints .u32), .arr 253 4 (.recs .apiEntry), .arr 63 3 (.recs .apiEvent)] (fun args rows=>Qfn (Q01.ofW (rows.getD 0 default).cs (rowL .u32 rows 1) (rowR .apiEntry rows 2) (rowR .apiEvent rows 3)) (Q0d.of (args.getD 1 .dead).cells)) (fun args rows=>Qmv (Q01.ofW (rows.getD 0 default).cs (rowL .u32 rows 1) (rowR .apiEntry rows 2) (rowR .apiEvent rows 3)) (Q0d.of (args.getD 1 .dead).cells)) (fun X=> .bool (X.1)) (fun X=>[⟨true,114,52, .gen [(Q01.cellsW (X.2) (.all 1) (.all 2) (.all 3))]⟩,⟨false,27,1, .ints .u32 (X.2).Machine.Mem⟩,⟨false,253,4, .recs .apiEntry (X.2).Log⟩,⟨false,63,3, .recs .apiEvent (X.2).Queue⟩])
theorem Qsu:Q02 Tryz.prog Qw4:=Q0j Q0f Q0g (.cons Qvd (.nil)) Tryz.func263 Tryz.call263 (fun args rows=>Q5o (Q01.ofW (rows.getD 0 default).cs (rowL .u32 rows 1) (rowR .apiEntry rows 2) (rowR .apiEvent rows 3)) (Q0d.of (args.getD 1 .dead).cells)) [.row 27 1 (.ints .u32), .row 253 4 (.recs .apiEntry), .row 63 3 (.recs .apiEvent)] [] 2 (fun _ _ _=>by kernel_rfl) (fun _ _=>rfl) (fun _ _ h=>h) (fun _ X=>by kernel_rfl)
def Q80(r:Q01)(e:Q0d):Tree Q01:=
.an (Qfn r e) (.lv (Qmv r e) fun(x0:Bool×Q01)=> .br x0.fst (.cn (decide (40*(List.length x0.snd.Log+1)≤140737488355328)) (.lf ({Machine:=x0.snd.Machine,Clock:=x0.snd.Clock,Log:=x0.snd.Log++[{At:=x0.snd.Machine.Count,Event:=e}],Queue:=x0.snd.Queue}))) (.lf x0.snd))
def Qlj(r:Q01)(e:Q0d):Q01:=(Q80 r e).m
abbrev Qdr(r:Q01)(e:Q0d):Prop:=(Q80 r e).p
def Z2:Q08:=mkKP 1 245 [true,false] [.ptr 0, .agg Q0d.sig] [.box 114 52 (Q01.sigW (.row 1) (.row 2) (.row 3)), .arr 27 1 (.ints .u32), .arr 253 4 (.recs .apiEntry), .arr 63 3 (.recs .apiEvent)] (fun args rows=>Qdr (Q01.ofW (rows.getD 0 default).cs (rowL .u32 rows 1) (rowR .apiEntry rows 2) (rowR .apiEvent rows 3)) (Q0d.of (args.getD 1 .dead).cells)) (fun args rows=>Qlj (Q01.ofW (rows.getD 0 default).cs (rowL .u32 rows 1) (rowR .apiEntry rows 2) (rowR .apiEvent rows 3)) (Q0d.of (args.getD 1 .dead).cells)) (fun X=> .tup []) (fun X=>[⟨true,114,52, .gen [(Q01.cellsW X (.all 1) (.all 2) (.all 3))]⟩,⟨false,27,1, .ints .u32 X.Machine.Mem⟩,⟨false,253,4, .recs .apiEntry X.Log⟩,⟨false,63,3, .recs .apiEvent X.Queue⟩])
theorem Qz:Q02 Tryz.prog Z2:=mkKP_of Q0f Q0g (.cons Qsu (.nil)) Tryz.func245 Tryz.call245 (fun args rows=>Q80 (Q01.ofW (rows.getD 0 default).cs (rowL .u32 rows 1) (rowR .apiEntry rows 2) (rowR .apiEvent rows 3)) (Q0d.of (args.getD 1 .dead).cells)) [.row 27 1 (.ints .u32), .row 253 4 (.recs .apiEntry), .row 63 3 (.recs .apiEvent)] [] 2 (fun _ _ _=>by kernel_rfl) (fun _ _=>rfl) (fun _ _ h=>h)
def Qda(is:Bool)(n:Int):Tree Int:=
.br is (.cn (decide (0≤wrap u64 n)) (.lf (ishl u32 1 (wrap u64 n)))) (.lf 0)
def Qg1(is:Bool)(n:Int):Int:=(Qda is n).m
abbrev Q67(is:Bool)(n:Int):Prop:=(Qda is n).p
def Z96:Q08:=mkP 91 [] true [.one (.bool), .one (.int .i64)] [] (fun args rows=>Q67 (argB args 0) (argI args 1)) (fun args rows=>Qg1 (argB args 0) (argI args 1)) (fun X=> .int .u32 X) (fun X=>[])
theorem Z6u:Q02 Tryz.prog Z96:=Q0j Q0f Q0g (.nil) Tryz.func91 Tryz.call91 (fun args rows=>Qda (argB args 0) (argI args 1)) [] [] 2 (fun _ _ _=>by kernel_rfl) (fun _ _=>rfl) (fun _ _ h=>h) (fun _ X=>by kernel_rfl)
def Qdk(t:Q0h):Tree Bool:=
.lf t.Fired
def Qfi(t:Q0h):Bool:=(Qdk t).m
def Qli:Q08:=mkR 92 [] true [.agg Q0h.sig] [] (fun args rows=>Qfi (Q0h.of (args.getD 0 .dead).cells)) (fun X=> .bool X) (fun X=>[])
theorem Qkh:Q02 Tryz.prog Qli:=Q0q Q0f Q0g (.nil) Tryz.func92 Tryz.call92 (fun args rows=>Qdk (Q0h.of (args.getD 0 .dead).cells)) [] [] 2 (fun _ _ _=>by kernel_rfl) (fun _ _=>rfl) (fun _ _=>Tree.free_ok (by kernel_rfl)) (fun _ X=>by kernel_rfl)
def Qa(c:Q09):Tree Bool:=
.lf (decide ((↑(List.length c.Keys):Int)>(0:Int)))
def Qcm(c:Q09):Bool:=(Qa c).m
def Qj6:Q08:=mkR 93 [] true [.agg Q09.sig] [] (fun args rows=>Qcm (Q09.of (args.getD 0 .dead).cells)) (fun X=> .bool X) (fun X=>[])
theorem Qhy:Q02 Tryz.prog Qj6:=Q0q Q0f Q0g (.nil) Tryz.func93 Tryz.call93 (fun args rows=>Qa (Q09.of (args.getD 0 .dead).cells)) [] [] 2 (fun _ _ _=>by kernel_rfl) (fun _ _=>rfl) (fun _ _=>Tree.free_ok (by kernel_rfl)) (fun _ X=>by kernel_rfl)
def Qel(d0:Q0b):Tree Bool:=
.br (d0.State==2) (.lf true) (.lf (d0.State==3))
def Qhu(d0:Q0b):Bool:=(Qel d0).m
def Qmg:Q08:=mkR 94 [] true [.agg Q0b.sig] [] (fun args rows=>Qhu (Q0b.of (args.getD 0 .dead).cells)) (fun X=> .bool X) (fun X=>[])
theorem Qlw:Q02 Tryz.prog Qmg:=Q0q Q0f Q0g (.nil) Tryz.func94 Tryz.call94 (fun args rows=>Qel (Q0b.of (args.getD 0 .dead).cells)) [] [] 2 (fun _ _ _=>by kernel_rfl) (fun _ _=>rfl) (fun _ _=>Tree.free_ok (by kernel_rfl)) (fun _ X=>by kernel_rfl)
def Qfv(n:Q0k):Tree Bool:=
.lf n.Received
def Qj2(n:Q0k):Bool:=(Qfv n).m
def Qqi:Q08:=mkR 95 [] true [.agg Q0k.sig] [] (fun args rows=>Qj2 (Q0k.of (args.getD 0 .dead).cells)) (fun X=> .bool X) (fun X=>[])
theorem Qn8:Q02 Tryz.prog Qqi:=Q0q Q0f Q0g (.nil) Tryz.func95 Tryz.call95 (fun args rows=>Qfv (Q0k.of (args.getD 0 .dead).cells)) [] [] 2 (fun _ _ _=>by kernel_rfl) (fun _ _=>rfl) (fun _ _=>Tree.free_ok (by kernel_rfl)) (fun _ X=>by kernel_rfl)
def Qj3(b:Q04)(z:(Int)×(Int)):Prop:=0≤z.2∧z.2≤32
def Qb(b:Q04)(z:(Int)×(Int)):Nat:=(32-z.2).toNat
def Qee(b:Q04):Tree Int:=
.lp inferInstance (Qb b (0,0)+1) (((rE b.Target∧rE b.Given∧True)∧(rE ((nat_lit 0):Nat)∧rE ((nat_lit 0):Nat))∧rE (0:Int)∧rE (0:Int)∧rE (0:Int)∧True)∧(rE b.Target∧rE b.Given∧True)∧True) (0,0) fun(v0:Int×Int)=> .br (decide (v0.snd<32)) (.cn (decide (0≤wrap u64 v0.snd)) (.nx (((rE b.Target∧rE b.Given∧True)∧(rE ((nat_lit 0):Nat)∧rE ((nat_lit 0):Nat))∧rE (0:Int)∧rE ((wrap i64 (v0.fst+wrap i64 (iand u32 (ishr u32 b.Given (wrap u64 v0.snd)) 1))):Int)∧rE ((wrap i64 (v0.snd+1)):Int)∧True)∧(rE b.Target∧rE b.Given∧True)∧True) (Sum.inl (wrap i64 (v0.fst+wrap i64 (iand u32 (ishr u32 b.Given (wrap u64 v0.snd)) 1)),wrap i64 (v0.snd+1))))) (.lf (Sum.inr v0.fst))
def Qpt(b:Q04):Int:=(Qee b).m
theorem Qy3(b:Q04):(Qee b).p:=by
 unfold Tree.p Qee
 repeat'(first|refine w_lp (inv:=Qj3 b) (μ:=Qb b) ?_ (Nat.lt_succ_self _) (fun _ _=> ?_)|exact trivial|refine w_br (fun _=> ?_) (fun _=> ?_)|refine w_cn ?_ ?_|refine w_an ?_ ?_|refine w_lv (fun _ _=> ?_)|refine w_nx ?_|refine w_lf ?_|refine And.intro ?_ ?_)
 all_goals((try simp only[Qj3,Qb]at*);((subst_vars;first|trivial|assumption|omega|((simp(config:={decide:=true,failIfUnchanged:=false}) only[Bool.and_eq_true,Bool.or_eq_true,Bool.and_eq_false_iff,Bool.or_eq_false_iff,Bool.not_eq_true',Bool.not_eq_false',Bool.not_eq_true,Bool.not_eq_false,decide_eq_true_eq,decide_eq_false_iff_not,Q34,Q21,Q36,Q20,beq_iff_eq,beq_eq_false_iff_ne,bne_iff_ne,bne_eq_false_iff_eq,ne_eq,List.all_cons,List.all_nil,D.plain,List.length_cons,List.length_nil,List.length_append,List.length_set,List.length_replicate,IntKind.wrap_i64,IntKind.wrap_u64,IntKind.wrap_u32,IntKind.wrap_i32,IntKind.wrap_u8,true_and,and_true,or_false,false_or,or_true,true_or,not_true_eq_false,not_false_eq_true,Prod.fst,Prod.snd]at*);first|done|assumption|omega)|((simp(config:={decide:=true,failIfUnchanged:=false}) only[Bool.and_eq_true,Bool.or_eq_true,Bool.and_eq_false_iff,Bool.or_eq_false_iff,Bool.not_eq_true',Bool.not_eq_false',Bool.not_eq_true,Bool.not_eq_false,decide_eq_true_eq,decide_eq_false_iff_not,Q34,Q21,Q36,Q20,beq_iff_eq,beq_eq_false_iff_ne,bne_iff_ne,bne_eq_false_iff_eq,ne_eq,List.all_cons,List.all_nil,D.plain,List.length_cons,List.length_nil,List.length_append,List.length_set,List.length_replicate,IntKind.wrap_i64,IntKind.wrap_u64,IntKind.wrap_u32,IntKind.wrap_i32,IntKind.wrap_u8,true_and,and_true,or_false,false_or,or_true,true_or,not_true_eq_false,not_false_eq_true,Prod.fst,Prod.snd]at*);simp only[←List.length_pos_iff]at*;omega)|(simp_all;done)|(have:= @Qcx;simp_all;try omega))))
def Z19:LInv:={
 α:=(Int)×(Int)
 F:=fun st a=>([(0,(lk st 0)),(1, .ptr 0 0 0),(2,(lk st 2)),(3, .int IntKind.i64 a.1),(4, .int IntKind.i64 a.2)],[⟨true,41,2, .gen [[(cT st 1 0),(cT st 1 1)]]⟩])
 a0:=fun st=>((lk st 3).toInt,(lk st 4).toInt)
 ex0:=fun st=>[]++[(Q0p (lk st 1) (st.rows.length+0))]
 next:=fun st=>((lk st 3).toInt,(lk st 4).toInt)
 ex:=fun st=>[]++[(Q0p (lk st 1) (st.rows.length+0))]}
def Qvp:List (Nat×LInv):=[(3,Z19)]
def Z4c:Q08:=mkR 155 [] true [.agg Q04.sig] [] (fun args rows=>Qpt (Q04.of (args.getD 0 .dead).cells)) (fun X=> .int .i64 X) (fun X=>[])
theorem Qnn:Q02 Tryz.prog Z4c:=Q0q Q0f Q0g (.nil) Tryz.func155 Tryz.call155 (fun args rows=>Qee (Q04.of (args.getD 0 .dead).cells)) [] Qvp 3 (fun _ _ _=>by kernel_rfl) (fun _ _=>rfl) (fun args rows=>Qy3 (Q04.of (args.getD 0 .dead).cells)) (fun _ X=>by kernel_rfl)
def Qa0(b:Q04):Tree Bool:=
.lv (Qpt b) fun(x0:Int)=> .lf (wrap u64 x0 !=wrap u64 b.Target)
def Qc9(b:Q04):Bool:=(Qa0 b).m
def Qip:Q08:=mkR 96 [] true [.agg Q04.sig] [] (fun args rows=>Qc9 (Q04.of (args.getD 0 .dead).cells)) (fun X=> .bool X) (fun X=>[])
theorem Qi:Q02 Tryz.prog Qip:=Q0q Q0f Q0g (.cons Qnn (.nil)) Tryz.func96 Tryz.call96 (fun args rows=>Qa0 (Q04.of (args.getD 0 .dead).cells)) [] [] 2 (fun _ _ _=>by kernel_rfl) (fun _ _=>rfl) (fun _ _=>Tree.free_ok (by kernel_rfl)) (fun _ X=>by kernel_rfl)
def Qao(m:Q00):Tree Int:=
.lv (Qfi m.Timer) fun(x0:Bool)=> .an (Q67 x0 0) (.lv (Qg1 x0 0) fun(x1:Int)=> .lv (Qcm m.Console) fun(x2:Bool)=> .an (Q67 x2 1) (.lv (Qg1 x2 1) fun(x3:Int)=> .lv (Qhu m.Disk) fun(x4:Bool)=> .an (Q67 x4 2) (.lv (Qg1 x4 2) fun(x5:Int)=> .lv (Qj2 m.Nic) fun(x6:Bool)=> .an (Q67 x6 3) (.lv (Qg1 x6 3) fun(x7:Int)=> .lv (Qc9 m.Balloon) fun(x8:Bool)=> .an (Q67 x8 4) (.lv (Qg1 x8 4) fun(x9:Int)=> .lf (ior u32 (ior u32 (ior u32 (ior u32 x1 x3) x5) x7) x9))))))
def Qz0(m:Q00):Int:=(Qao m).m
abbrev Qkp(m:Q00):Prop:=(Qao m).p
def Z7r:Q08:=mkP 40 [] true [.agg Q00.sig] [] (fun args rows=>Qkp (Q00.of (args.getD 0 .dead).cells)) (fun args rows=>Qz0 (Q00.of (args.getD 0 .dead).cells)) (fun X=> .int .u32 X) (fun X=>[])
theorem Z3w:Q02 Tryz.prog Z7r:=Q0j Q0f Q0g (.cons Z6u (.cons Qkh (.cons Qhy (.cons Qlw (.cons Qn8 (.cons Qi (.nil))))))) Tryz.func40 Tryz.call40 (fun args rows=>Qao (Q00.of (args.getD 0 .dead).cells)) [] [] 2 (fun _ _ _=>by kernel_rfl) (fun _ _=>rfl) (fun _ _ h=>h) (fun _ X=>by kernel_rfl)
def Q6v(m:Q00):Tree Int:=
.an (Qkp m) (.lv (Qz0 m) fun(x0:Int)=> .lf (iand u32 x0 m.Cpu.Csr.a7))
def Qj(m:Q00):Int:=(Q6v m).m
abbrev Qb3(m:Q00):Prop:=(Q6v m).p
def Qxx:Q08:=mkP 97 [] true [.agg Q00.sig] [] (fun args rows=>Qb3 (Q00.of (args.getD 0 .dead).cells)) (fun args rows=>Qj (Q00.of (args.getD 0 .dead).cells)) (fun X=> .int .u32 X) (fun X=>[])
theorem Qi5:Q02 Tryz.prog Qxx:=Q0j Q0f Q0g (.cons Z3w (.nil)) Tryz.func97 Tryz.call97 (fun args rows=>Q6v (Q00.of (args.getD 0 .dead).cells)) [] [] 2 (fun _ _ _=>by kernel_rfl) (fun _ _=>rfl) (fun _ _ h=>h) (fun _ X=>by kernel_rfl)
def Qcp(m:Q00):Tree Bool:=
.br m.Waiting (.an (Qb3 m) (.lv (Qj m) fun(x0:Int)=> .lf (x0==0))) (.lf false)
def Qwn(m:Q00):Bool:=(Qcp m).m
abbrev Qgj(m:Q00):Prop:=(Qcp m).p
def Za6:Q08:=mkP 41 [] true [.agg Q00.sig] [] (fun args rows=>Qgj (Q00.of (args.getD 0 .dead).cells)) (fun args rows=>Qwn (Q00.of (args.getD 0 .dead).cells)) (fun X=> .bool X) (fun X=>[])
theorem Qr:Q02 Tryz.prog Za6:=Q0j Q0f Q0g (.cons Qi5 (.nil)) Tryz.func41 Tryz.call41 (fun args rows=>Qcp (Q00.of (args.getD 0 .dead).cells)) [] [] 2 (fun _ _ _=>by kernel_rfl) (fun _ _=>rfl) (fun _ _ h=>h) (fun _ X=>by kernel_rfl)
def Qak(m:Q00):Tree Bool:=
.lv (Q9x m) fun(x0:Bool)=> .br (!x0) (.lf true) (.br m.Halted (.lf true) (.an (Qgj m) (.lv (Qwn m) fun(x1:Bool)=> .br x1 (.lf true) (.lf (decide (m.Count≥1152921504606846976))))))
def Qjl(m:Q00):Bool:=(Qak m).m
abbrev Q9y(m:Q00):Prop:=(Qak m).p
def Z5l:Q08:=mkP 65 [] true [.agg Q00.sig] [] (fun args rows=>Q9y (Q00.of (args.getD 0 .dead).cells)) (fun args rows=>Qjl (Q00.of (args.getD 0 .dead).cells)) (fun X=> .bool X) (fun X=>[])
theorem Qo3:Q02 Tryz.prog Z5l:=Q0j Q0f Q0g (.cons Qh1 (.cons Qr (.nil))) Tryz.func65 Tryz.call65 (fun args rows=>Qak (Q00.of (args.getD 0 .dead).cells)) [] [] 2 (fun _ _ _=>by kernel_rfl) (fun _ _=>rfl) (fun _ _ h=>h) (fun _ X=>by kernel_rfl)
end
end Go.Proofs.YtdkiadhigcfmkaaGreat

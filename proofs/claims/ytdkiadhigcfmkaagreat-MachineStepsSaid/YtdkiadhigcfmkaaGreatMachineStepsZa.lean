/-
  Functions of the program: models, and that its calls come to them (by a program: gen3.py).
-/
import Derived.Test.YtdkiadhigcfmkaaGreatMachineStepsBase
import Derived.Test.YtdkiadhigcfmkaaGreatMachineStepsYe
namespace Go.Proofs.YtdkiadhigcfmkaaGreat
open Go Go.GD Go.IntKind
set_option linter.unusedVariables false
set_option linter.unusedSimpArgs false
set_option maxRecDepth 100000
noncomputable section
def Q80(m:(List Int)):Tree (List Int):=
.cn (Nat.blt (0:Nat) (1:Nat)&&Nat.beq ((1:Nat)) (1:Nat)&&List.all [D.int u32 (0:Int)] D.plain&&decide ((0:Int)≤(↑(List.length m):Int)∧(↑(List.length m):Int)≤(↑(List.length m):Int)∧(↑(List.length m):Int)≤(9223372036854775807:Int)∧(↑(4:Nat):Int)*(↑(List.length m):Int)≤(140737488355328:Int))) (let E1:=List.length (List.replicate (Int.toNat (↑(List.length m):Int)) (0:Int)); .lf (List.take (min (List.length m) E1) m++List.drop (min (List.length m) E1) (List.replicate (Int.toNat (↑(List.length m):Int)) (0:Int))))
def Ql(m:(List Int)):(List Int):=(Q80 m).m
abbrev Qpd(m:(List Int)):Prop:=(Q80 m).p
def Za6:Q0a:=mkP 104 [] true [.one (.ints .u32)] [] (fun args rows=>Qpd (argL .u32 args 0)) (fun args rows=>Ql (argL .u32 args 0)) (fun X=> .all 0) (fun X=>[⟨false,27,1, .ints .u32 X⟩])
theorem Z7w:Q03 Tryz.prog Za6:=Q0j Q0g Q0h (.nil) Tryz.func104 Tryz.call104 (fun args rows=>Q80 (argL .u32 args 0)) [.row 27 1 (.ints .u32)] [] 2 (fun _ _ _=>by kernel_rfl) (fun _ _=>rfl) (fun _ _ h=>h) (fun _ X=>by kernel_rfl)
def Q77(m:Q00):Tree Q00:=
.an (Qpd m.Mem) (.lv (Ql m.Mem) fun(x0:List Int)=> .lf ({Cpu:=m.Cpu,Mem:=x0,Console:=m.Console,Timer:=m.Timer,Disk:=m.Disk,Nic:=m.Nic,Balloon:=m.Balloon,Count:=m.Count,Waiting:=m.Waiting,Halted:=m.Halted}))
def Qh3(m:Q00):Q00:=(Q77 m).m
abbrev Q9u(m:Q00):Prop:=(Q77 m).p
def Zet:Q0a:=mkP 46 [] true [.agg Q00.sig] [] (fun args rows=>Q9u (Q00.of (args.getD 0 .dead).cells)) (fun args rows=>Qh3 (Q00.of (args.getD 0 .dead).cells)) (fun X=> .agg (Q00.cellsW X (.all 0))) (fun X=>[⟨false,27,1, .ints .u32 X.Mem⟩])
theorem Qex:Q03 Tryz.prog Zet:=Q0j Q0g Q0h (.cons Z7w (.nil)) Tryz.func46 Tryz.call46 (fun args rows=>Q77 (Q00.of (args.getD 0 .dead).cells)) [.row 27 1 (.ints .u32)] [] 2 (fun _ _ _=>by kernel_rfl) (fun _ _=>rfl) (fun _ _ h=>h) (fun _ X=>by kernel_rfl)
def Qn5(n:Int)(k:Int)(z:(Int)×(List Int)):Prop:=0≤z.1∧(z.2.length:Int)=z.1∧(z.1≤k∨z.1=0)
def Qg(n:Int)(k:Int)(z:(Int)×(List Int)):Nat:=(k-z.1).toNat
def Qiy(n:Int)(k:Int):Tree (List UInt8):=
.lp inferInstance (Qg n k (0,[])+1) ((rE (n:Int)∧rE (k:Int)∧rE ([]:List UInt8)∧True∧rE (0:Int)∧True)∧rE ([]:List Int)∧True) (0,[]) fun(v0:Int×List Int)=> .br (decide (v0.fst<k)) (.lv (Qou n (wrap i64 (Int.tdiv v0.fst 9))) fun(x0:Int)=> .cn (decide (1*(List.length v0.snd+1)≤140737488355328)) (.nx ((rE (n:Int)∧rE (k:Int)∧rE ([]:List UInt8)∧True∧rE ((wrap i64 (v0.fst+1)):Int)∧True)∧rE ((v0.snd++[wrap u8 x0]):List Int)∧True) (Sum.inl (wrap i64 (v0.fst+1),v0.snd++[wrap u8 x0])))) (.lf (Sum.inr (bytesOf v0.snd)))
def Qkb(n:Int)(k:Int):(List UInt8):=(Qiy n k).m
def Q3t(n:Int)(k:Int):Prop:=
k≤1000000000000
theorem Z5j(n:Int)(k:Int)(hw:Q3t n k):(Qiy n k).p:=by
 simp only[Q3t]at hw
 unfold Tree.p Qiy
 repeat'(first|refine w_lp (inv:=Qn5 n k) (μ:=Qg n k) ?_ (Nat.lt_succ_self _) (fun _ _=> ?_)|exact trivial|refine w_br (fun _=> ?_) (fun _=> ?_)|refine w_cn ?_ ?_|refine w_an ?_ ?_|refine w_lv (fun _ _=> ?_)|refine w_nx ?_|refine w_lf ?_|refine And.intro ?_ ?_)
 all_goals((try simp only[Qn5,Qg]at*);((subst_vars;first|trivial|assumption|omega|((simp(config:={decide:=true,failIfUnchanged:=false}) only[Bool.and_eq_true,Bool.or_eq_true,Bool.and_eq_false_iff,Bool.or_eq_false_iff,Bool.not_eq_true',Bool.not_eq_false',Bool.not_eq_true,Bool.not_eq_false,decide_eq_true_eq,decide_eq_false_iff_not,Q3n,Q2c,Q3k,Q2d,beq_iff_eq,beq_eq_false_iff_ne,bne_iff_ne,bne_eq_false_iff_eq,ne_eq,List.all_cons,List.all_nil,D.plain,List.length_cons,List.length_nil,List.length_append,List.length_set,List.length_replicate,IntKind.wrap_i64,IntKind.wrap_u64,IntKind.wrap_u32,IntKind.wrap_i32,IntKind.wrap_u8,true_and,and_true,or_false,false_or,or_true,true_or,not_true_eq_false,not_false_eq_true,Prod.fst,Prod.snd]at*);first|done|assumption|omega)|((simp(config:={decide:=true,failIfUnchanged:=false}) only[Bool.and_eq_true,Bool.or_eq_true,Bool.and_eq_false_iff,Bool.or_eq_false_iff,Bool.not_eq_true',Bool.not_eq_false',Bool.not_eq_true,Bool.not_eq_false,decide_eq_true_eq,decide_eq_false_iff_not,Q3n,Q2c,Q3k,Q2d,beq_iff_eq,beq_eq_false_iff_ne,bne_iff_ne,bne_eq_false_iff_eq,ne_eq,List.all_cons,List.all_nil,D.plain,List.length_cons,List.length_nil,List.length_append,List.length_set,List.length_replicate,IntKind.wrap_i64,IntKind.wrap_u64,IntKind.wrap_u32,IntKind.wrap_i32,IntKind.wrap_u8,true_and,and_true,or_false,false_or,or_true,true_or,not_true_eq_false,not_false_eq_true,Prod.fst,Prod.snd]at*);simp only[←List.length_pos_iff]at*;omega)|(simp_all;done)|(have:= @Qdb;simp_all;try omega))))
def Z92:LInv:={
 α:=(Int)×(List Int)
 F:=fun st a=>([(0,(lk st 0)),(1,(lk st 1)),(4,(lk st 4)),(5, .all 0),(6, .int IntKind.i64 a.1)],[⟨false,5,1, .ints IntKind.u8 a.2⟩])
 a0:=fun st=>((lk st 6).toInt,(Q4q st.rows (rN st 5)))
 ex0:=fun st=>[]++[(Q0q (lk st 5) (st.rows.length+0))]
 next:=fun st=>((lk st 6).toInt,(Q4q st.rows (rN st 5)))
 ex:=fun st=>[]++[(Q0q (lk st 5) (st.rows.length+0))]}
def Z08:List (Nat×LInv):=[(3,Z92)]
def Zap:Q0a:=mkP 71 [] true [.one (.int .i64), .one (.int .i64)] [] (fun args rows=>Q3t (argI args 0) (argI args 1)) (fun args rows=>Qkb (argI args 0) (argI args 1)) (fun X=> .str X) (fun X=>[])
theorem Qsm:Q03 Tryz.prog Zap:=Q0j Q0g Q0h (.cons Qix (.nil)) Tryz.func71 Tryz.call71 (fun args rows=>Qiy (argI args 0) (argI args 1)) [] Z08 3 (fun _ _ _=>by kernel_rfl) (fun _ _=>rfl) (fun args rows h=>Z5j (argI args 0) (argI args 1) h) (fun _ X=>by kernel_rfl)
def Qfg(r:Q01):Tree Q01:=
.an (Q9u r.Machine) (.lv (Qh3 r.Machine) fun(x0:Q00)=> .cn (decide (40*(0+List.length r.Log)≤140737488355328)) (.cn (decide (32*(0+List.length r.Queue)≤140737488355328)) (.lf ({Machine:=x0,Clock:=r.Clock,Log:=r.Log,Queue:=r.Queue}))))
def Qw1(r:Q01):Q01:=(Qfg r).m
abbrev Qj9(r:Q01):Prop:=(Qfg r).p
def Zah:Q0a:=mkP 243 [] true [.agg Q01.sig] [] (fun args rows=>Qj9 (Q01.of (args.getD 0 .dead).cells)) (fun args rows=>Qw1 (Q01.of (args.getD 0 .dead).cells)) (fun X=> .agg (Q01.cellsW X (.all 0) (.all 1) (.all 2))) (fun X=>[⟨false,27,1, .ints .u32 X.Machine.Mem⟩,⟨false,253,4, .recs .apiEntry X.Log⟩,⟨false,63,3, .recs .apiEvent X.Queue⟩])
theorem Qsd:Q03 Tryz.prog Zah:=Q0j Q0g Q0h (.cons Qex (.nil)) Tryz.func243 Tryz.call243 (fun args rows=>Qfg (Q01.of (args.getD 0 .dead).cells)) [.row 27 1 (.ints .u32), .row 253 4 (.recs .apiEntry), .row 63 3 (.recs .apiEvent)] [] 2 (fun _ _ _=>by kernel_rfl) (fun _ _=>rfl) (fun _ _ h=>h) (fun _ X=>by kernel_rfl)
def Qpj(e:Q0k):Tree Bool:=
.br (e.Kind==1) (.lf (decide (e.Data=[]))) (.br (e.Kind==6) (.lf (decide (e.Data=[]))) (.br (e.Kind==2) (.br (e.N==0) (.lf (decide (e.Data=[]))) (.lf false)) (.br (e.Kind==3) (.br (decide (e.N≤255)) (.lf (decide (e.Data=[]))) (.lf false)) (.br (e.Kind==4) (.br (decide (e.N≤1)) (.br (decide (e.Data=[])) (.lf true) (.br (e.N==1) (.lf ((↑(List.length e.Data):Int)==(128:Int))) (.lf false))) (.lf false)) (.br (e.Kind==5) (.br (e.N==0) (.br (decide ((↑(List.length e.Data):Int)≥(1:Int))) (.lf (decide ((↑(List.length e.Data):Int)≤(128:Int)))) (.lf false)) (.lf false)) (.lf false))))))
def Qw9(e:Q0k):Bool:=(Qpj e).m
def Z51:Q0a:=mkR 244 [] true [.agg Q0k.sig] [] (fun args rows=>Qw9 (Q0k.of (args.getD 0 .dead).cells)) (fun X=> .bool X) (fun X=>[])
theorem Z09:Q03 Tryz.prog Z51:=Q0t Q0g Q0h (.nil) Tryz.func244 Tryz.call244 (fun args rows=>Qpj (Q0k.of (args.getD 0 .dead).cells)) [] [] 2 (fun _ _ _=>by kernel_rfl) (fun _ _=>rfl) (fun _ _=>Tree.free_ok (by kernel_rfl)) (fun _ X=>by kernel_rfl)
def Q96(r:Q01)(e:Q0k):Tree (Q01×Bool):=
.an (Qj9 r) (.lv (Qw1 r) fun(x0:Q01)=> .lv (Qw9 e) fun(x1:Bool)=> .br (!x1) (.lf (x0,false)) (.br (e.Kind==1) (.lf (x0,false)) (.br (decide ((↑(List.length x0.Queue):Int)≥(16:Int))) (.lf (x0,false)) (.cn (decide (32*(List.length x0.Queue+1)≤140737488355328)) (.lf ({Machine:=x0.Machine,Clock:=x0.Clock,Log:=x0.Log,Queue:=x0.Queue++[e]},true))))))
def Qtj(r:Q01)(e:Q0k):(Q01×Bool):=(Q96 r e).m
abbrev Qje(r:Q01)(e:Q0k):Prop:=(Q96 r e).p
def Qyr:Q0a:=mkP 199 [] true [.agg Q01.sig, .agg Q0k.sig] [] (fun args rows=>Qje (Q01.of (args.getD 0 .dead).cells) (Q0k.of (args.getD 1 .dead).cells)) (fun args rows=>Qtj (Q01.of (args.getD 0 .dead).cells) (Q0k.of (args.getD 1 .dead).cells)) (fun X=> .tup [.agg (Q01.cellsW (X.1) (.all 0) (.all 1) (.all 2)), .bool (X.2)]) (fun X=>[⟨false,27,1, .ints .u32 (X.1).Machine.Mem⟩,⟨false,253,4, .recs .apiEntry (X.1).Log⟩,⟨false,63,3, .recs .apiEvent (X.1).Queue⟩])
theorem Qvq:Q03 Tryz.prog Qyr:=Q0j Q0g Q0h (.cons Qsd (.cons Z09 (.nil))) Tryz.func199 Tryz.call199 (fun args rows=>Q96 (Q01.of (args.getD 0 .dead).cells) (Q0k.of (args.getD 1 .dead).cells)) [.row 27 1 (.ints .u32), .row 253 4 (.recs .apiEntry), .row 63 3 (.recs .apiEvent)] [] 2 (fun _ _ _=>by kernel_rfl) (fun _ _=>rfl) (fun _ _ h=>h) (fun _ X=>by kernel_rfl)
def Qcf(n:Int):Tree Q0k:=
.lv (Qou n 2) fun(x0:Int)=> .br (Int.tmod x0 (7:Int)==(0:Int)) (.lf ({Kind:=2,N:=0,Data:=[]})) (.br (Int.tmod x0 (7:Int)==(1:Int)) (.lf ({Kind:=3,N:=wrap u32 (iand i64 (ishr i64 x0 8) 255),Data:=[]})) (.br (Int.tmod x0 (7:Int)==(2:Int)) (.lf ({Kind:=3,N:=wrap u32 (iand i64 (ishr i64 x0 8) 255),Data:=[]})) (.br (Int.tmod x0 (7:Int)==(3:Int)) (.lf ({Kind:=4,N:=1,Data:=[]})) (.br (Int.tmod x0 (7:Int)==(4:Int)) (.an (Q3t x0 128) (.lv (Qkb x0 128) fun(x1:List UInt8)=> .lf ({Kind:=4,N:=1,Data:=x1}))) (.br (Int.tmod x0 (7:Int)==(5:Int)) (let E1:=wrap i64 (1+Int.tmod (ishr i64 x0 8) 40); .an (Q3t x0 E1) (.lv (Qkb x0 E1) fun(x2:List UInt8)=> .lf ({Kind:=5,N:=0,Data:=x2}))) (.br (Int.tmod (ishr i64 x0 8) (4:Int)==(0:Int)) (.lf ({Kind:=4,N:=0,Data:=[]})) (.lf ({Kind:=6,N:=wrap u32 (Int.tmod (ishr i64 x0 8) 3),Data:=[]}))))))))
def Z1c(n:Int):Q0k:=(Qcf n).m
abbrev Qn2(n:Int):Prop:=(Qcf n).p
def Z6v:Q0a:=mkP 30 [] true [.one (.int .i64)] [] (fun args rows=>Qn2 (argI args 0)) (fun args rows=>Z1c (argI args 0)) (fun X=> .agg (Q0k.cells X)) (fun X=>[])
theorem Z3f:Q03 Tryz.prog Z6v:=Q0j Q0g Q0h (.cons Qix (.cons Qsm (.nil))) Tryz.func30 Tryz.call30 (fun args rows=>Qcf (argI args 0)) [] [] 2 (fun _ _ _=>by kernel_rfl) (fun _ _=>rfl) (fun _ _ h=>h) (fun _ X=>by kernel_rfl)
def Qlf(m:(List Int)):Tree Int:=
.br (Int.tmod (↑(List.length m):Int) (32:Int) !=(0:Int)) (.lf 0) (.br (decide ((↑(List.length m):Int)>(1024:Int))) (.lf 0) (.lf (wrap i64 (Int.tdiv (↑(List.length m):Int) 32))))
def Q2p(m:(List Int)):Int:=(Qlf m).m
def Z6o:Q0a:=mkR 79 [] true [.one (.ints .u32)] [] (fun args rows=>Q2p (argL .u32 args 0)) (fun X=> .int .i64 X) (fun X=>[])
theorem Qay:Q03 Tryz.prog Z6o:=Q0t Q0g Q0h (.nil) Tryz.func79 Tryz.call79 (fun args rows=>Qlf (argL .u32 args 0)) [] [] 2 (fun _ _ _=>by kernel_rfl) (fun _ _=>rfl) (fun _ _=>Tree.free_ok (by kernel_rfl)) (fun _ X=>by kernel_rfl)
def Qhq(c:Q0c):Tree Bool:=
.lf (decide ((↑(List.length c.Keys):Int)≤(16:Int)))
def Qfl(c:Q0c):Bool:=(Qhq c).m
def Qqc:Q0a:=mkR 86 [] true [.agg Q0c.sig] [] (fun args rows=>Qfl (Q0c.of (args.getD 0 .dead).cells)) (fun X=> .bool X) (fun X=>[])
theorem Qo7:Q03 Tryz.prog Qqc:=Q0t Q0g Q0h (.nil) Tryz.func86 Tryz.call86 (fun args rows=>Qhq (Q0c.of (args.getD 0 .dead).cells)) [] [] 2 (fun _ _ _=>by kernel_rfl) (fun _ _=>rfl) (fun _ _=>Tree.free_ok (by kernel_rfl)) (fun _ X=>by kernel_rfl)
def Qew(t:Q0i):Tree Bool:=
.br t.Armed (.br t.Fired (.lf false) (.br t.Armed (.lf (t.Deadline !=0)) (.br t.Fired (.lf true) (.lf (t.Deadline==0))))) (.br t.Armed (.lf (t.Deadline !=0)) (.br t.Fired (.lf true) (.lf (t.Deadline==0))))
def Qb1(t:Q0i):Bool:=(Qew t).m
def Qve:Q0a:=mkR 87 [] true [.agg Q0i.sig] [] (fun args rows=>Qb1 (Q0i.of (args.getD 0 .dead).cells)) (fun X=> .bool X) (fun X=>[])
theorem Qul:Q03 Tryz.prog Qve:=Q0t Q0g Q0h (.nil) Tryz.func87 Tryz.call87 (fun args rows=>Qew (Q0i.of (args.getD 0 .dead).cells)) [] [] 2 (fun _ _ _=>by kernel_rfl) (fun _ _=>rfl) (fun _ _=>Tree.free_ok (by kernel_rfl)) (fun _ X=>by kernel_rfl)
def Qhg(d0:Q0d)(pages:Int):Tree Bool:=
.br (decide (d0.Blocks>64)) (.lf false) (.br (decide (d0.State<0)) (.lf false) (.br (decide (d0.State>3)) (.lf false) (.br (d0.State !=1) (.br (d0.Cmd==0) (.br (d0.OpBlock==0) (.br (d0.OpFrame==0) (.lf (decide (d0.OpData=[]))) (.lf false)) (.lf false)) (.lf false)) (.br (decide (d0.OpBlock≥d0.Blocks)) (.lf false) (.br (decide (wrap i64 d0.OpFrame≥pages)) (.lf false) (.br (d0.Cmd==1) (.br (decide (d0.OpData=[])) (.lf true) (.br (d0.Cmd==2) (.lf ((↑(List.length d0.OpData):Int)==(128:Int))) (.lf false))) (.br (d0.Cmd==2) (.lf ((↑(List.length d0.OpData):Int)==(128:Int))) (.lf false))))))))
def Qcz(d0:Q0d)(pages:Int):Bool:=(Qhg d0 pages).m
def Z0d:Q0a:=mkR 88 [] true [.agg Q0d.sig, .one (.int .i64)] [] (fun args rows=>Qcz (Q0d.of (args.getD 0 .dead).cells) (argI args 1)) (fun X=> .bool X) (fun X=>[])
theorem Qwr:Q03 Tryz.prog Z0d:=Q0t Q0g Q0h (.nil) Tryz.func88 Tryz.call88 (fun args rows=>Qhg (Q0d.of (args.getD 0 .dead).cells) (argI args 1)) [] [] 2 (fun _ _ _=>by kernel_rfl) (fun _ _=>rfl) (fun _ _=>Tree.free_ok (by kernel_rfl)) (fun _ X=>by kernel_rfl)
def Qij(n:Q0m)(pages:Int):Tree Bool:=
let T1:Tree (Bool):= .br n.Received (.br (decide (n.Got≥1)) (.lf (decide (n.Got≤128))) (.lf false)) (.lf (n.Got==0)); .br n.Posted (.br n.Received (.lf false) (.br (decide (wrap i64 n.Buffer≥pages)) (.lf false) (.br (!n.Posted) (.br (n.Buffer !=0) (.lf false) T1) T1))) (.br (!n.Posted) (.br (n.Buffer !=0) (.lf false) T1) T1)
def Qfc(n:Q0m)(pages:Int):Bool:=(Qij n pages).m
def Z4t:Q0a:=mkR 89 [] true [.agg Q0m.sig, .one (.int .i64)] [] (fun args rows=>Qfc (Q0m.of (args.getD 0 .dead).cells) (argI args 1)) (fun X=> .bool X) (fun X=>[])
theorem Qz9:Q03 Tryz.prog Z4t:=Q0t Q0g Q0h (.nil) Tryz.func89 Tryz.call89 (fun args rows=>Qij (Q0m.of (args.getD 0 .dead).cells) (argI args 1)) [] [] 2 (fun _ _ _=>by kernel_rfl) (fun _ _=>rfl) (fun _ _=>Tree.free_ok (by kernel_rfl)) (fun _ X=>by kernel_rfl)
def Qds(b:Q05)(pages:Int)(z:(Int)):Prop:=0≤z∧z≤32
def Q57(b:Q05)(pages:Int)(z:(Int)):Nat:=(32-z).toNat
def Q44(b:Q05)(pages:Int):Tree Bool:=
.lp inferInstance (Q57 b pages 0+1) (((rE b.Target∧rE b.Given∧True)∧rE (pages:Int)∧(rE ((nat_lit 0):Nat)∧rE ((nat_lit 0):Nat))∧rE (false:Bool)∧rE (0:Int)∧True)∧(rE b.Target∧rE b.Given∧True)∧True) 0 fun(v0:Int)=> .br (decide (v0<32)) (.cn (decide (0≤wrap u64 v0)) (let T1:Tree ((Int)⊕(Bool)):= .nx (((rE b.Target∧rE b.Given∧True)∧rE (pages:Int)∧(rE ((nat_lit 0):Nat)∧rE ((nat_lit 0):Nat))∧rE (false:Bool)∧rE ((wrap i64 (v0+1)):Int)∧True)∧(rE b.Target∧rE b.Given∧True)∧True) (Sum.inl (wrap i64 (v0+1))); .br (iand u32 (ishr u32 b.Given (wrap u64 v0)) (1:Int)==(1:Int)) (.br (decide (v0≥pages)) (.lf (Sum.inr false)) T1) T1)) (.lf (Sum.inr true))
def Q8(b:Q05)(pages:Int):Bool:=(Q44 b pages).m
theorem Qo0(b:Q05)(pages:Int):(Q44 b pages).p:=by
 unfold Tree.p Q44
 repeat'(first|refine w_lp (inv:=Qds b pages) (μ:=Q57 b pages) ?_ (Nat.lt_succ_self _) (fun _ _=> ?_)|exact trivial|refine w_br (fun _=> ?_) (fun _=> ?_)|refine w_cn ?_ ?_|refine w_an ?_ ?_|refine w_lv (fun _ _=> ?_)|refine w_nx ?_|refine w_lf ?_|refine And.intro ?_ ?_)
 all_goals((try simp only[Qds,Q57]at*);((subst_vars;first|trivial|assumption|omega|((simp(config:={decide:=true,failIfUnchanged:=false}) only[Bool.and_eq_true,Bool.or_eq_true,Bool.and_eq_false_iff,Bool.or_eq_false_iff,Bool.not_eq_true',Bool.not_eq_false',Bool.not_eq_true,Bool.not_eq_false,decide_eq_true_eq,decide_eq_false_iff_not,Q3n,Q2c,Q3k,Q2d,beq_iff_eq,beq_eq_false_iff_ne,bne_iff_ne,bne_eq_false_iff_eq,ne_eq,List.all_cons,List.all_nil,D.plain,List.length_cons,List.length_nil,List.length_append,List.length_set,List.length_replicate,IntKind.wrap_i64,IntKind.wrap_u64,IntKind.wrap_u32,IntKind.wrap_i32,IntKind.wrap_u8,true_and,and_true,or_false,false_or,or_true,true_or,not_true_eq_false,not_false_eq_true,Prod.fst,Prod.snd]at*);first|done|assumption|omega)|((simp(config:={decide:=true,failIfUnchanged:=false}) only[Bool.and_eq_true,Bool.or_eq_true,Bool.and_eq_false_iff,Bool.or_eq_false_iff,Bool.not_eq_true',Bool.not_eq_false',Bool.not_eq_true,Bool.not_eq_false,decide_eq_true_eq,decide_eq_false_iff_not,Q3n,Q2c,Q3k,Q2d,beq_iff_eq,beq_eq_false_iff_ne,bne_iff_ne,bne_eq_false_iff_eq,ne_eq,List.all_cons,List.all_nil,D.plain,List.length_cons,List.length_nil,List.length_append,List.length_set,List.length_replicate,IntKind.wrap_i64,IntKind.wrap_u64,IntKind.wrap_u32,IntKind.wrap_i32,IntKind.wrap_u8,true_and,and_true,or_false,false_or,or_true,true_or,not_true_eq_false,not_false_eq_true,Prod.fst,Prod.snd]at*);simp only[←List.length_pos_iff]at*;omega)|(simp_all;done)|(have:= @Qdb;simp_all;try omega))))
def Qoi:LInv:={
 α:=(Int)
 F:=fun st a=>([(0,(lk st 0)),(1,(lk st 1)),(2, .ptr 0 0 0),(4,(lk st 4)),(5, .int IntKind.i64 a)],[⟨true,41,2, .gen [[(cT st 2 0),(cT st 2 1)]]⟩])
 a0:=fun st=>(lk st 5).toInt
 ex0:=fun st=>[]++[(Q0q (lk st 2) (st.rows.length+0))]
 next:=fun st=>(lk st 5).toInt
 ex:=fun st=>[]++[(Q0q (lk st 2) (st.rows.length+0))]}
def Qma:List (Nat×LInv):=[(2,Qoi)]
def Qs3:Q0a:=mkR 90 [] true [.agg Q05.sig, .one (.int .i64)] [] (fun args rows=>Q8 (Q05.of (args.getD 0 .dead).cells) (argI args 1)) (fun X=> .bool X) (fun X=>[])
theorem Qog:Q03 Tryz.prog Qs3:=Q0t Q0g Q0h (.nil) Tryz.func90 Tryz.call90 (fun args rows=>Q44 (Q05.of (args.getD 0 .dead).cells) (argI args 1)) [] Qma 3 (fun _ _ _=>by kernel_rfl) (fun _ _=>rfl) (fun args rows=>Qo0 (Q05.of (args.getD 0 .dead).cells) (argI args 1)) (fun _ X=>by kernel_rfl)
def Qru(m:Q00):Tree Bool:=
.lv (Q2p m.Mem) fun(x0:Int)=> .br (decide (x0<1)) (.lf false) (.br (m.Cpu.X.a0 !=0) (.lf false) (.br (decide (m.Cpu.Csr.a0>31)) (.lf false) (.br (decide (m.Cpu.Csr.a7>31)) (.lf false) (.br (decide (m.Cpu.Csr.a6>255)) (.lf false) (.br (Int.tmod m.Cpu.Csr.a1 (4:Int) !=(0:Int)) (.lf false) (.lv (Qfl m.Console) fun(x1:Bool)=> .br (!x1) (.lf false) (.lv (Qb1 m.Timer) fun(x2:Bool)=> .br (!x2) (.lf false) (.lv (Qcz m.Disk x0) fun(x3:Bool)=> .br (!x3) (.lf false) (.lv (Qfc m.Nic x0) fun(x4:Bool)=> .br (!x4) (.lf false) (.lv (Q8 m.Balloon x0) fun(x5:Bool)=> .br (!x5) (.lf false) (.br (decide (m.Count≤1152921504606846976)) (.br m.Waiting (.lf (!m.Halted)) (.lf true)) (.lf false))))))))))))
def Qgn(m:Q00):Bool:=(Qru m).m
def Zfd:Q0a:=mkR 39 [] true [.agg Q00.sig] [] (fun args rows=>Qgn (Q00.of (args.getD 0 .dead).cells)) (fun X=> .bool X) (fun X=>[])
theorem Qnd:Q03 Tryz.prog Zfd:=Q0t Q0g Q0h (.cons Qay (.cons Qo7 (.cons Qul (.cons Qwr (.cons Qz9 (.cons Qog (.nil))))))) Tryz.func39 Tryz.call39 (fun args rows=>Qru (Q00.of (args.getD 0 .dead).cells)) [] [] 2 (fun _ _ _=>by kernel_rfl) (fun _ _=>rfl) (fun _ _=>Tree.free_ok (by kernel_rfl)) (fun _ X=>by kernel_rfl)
def Qxt(t:Q0i):Tree (Q0i×Bool):=
.br (!t.Armed) (.lf (t,false)) (.lf ({Armed:=false,Deadline:=t.Deadline,Fired:=true},true))
def Qyk(t:Q0i):(Q0i×Bool):=(Qxt t).m
def Z9o:Q0a:=mkR 144 [] true [.agg Q0i.sig] [] (fun args rows=>Qyk (Q0i.of (args.getD 0 .dead).cells)) (fun X=> .tup [.agg (Q0i.cells (X.1)), .bool (X.2)]) (fun X=>[])
theorem Qsq:Q03 Tryz.prog Z9o:=Q0t Q0g Q0h (.nil) Tryz.func144 Tryz.call144 (fun args rows=>Qxt (Q0i.of (args.getD 0 .dead).cells)) [] [] 2 (fun _ _ _=>by kernel_rfl) (fun _ _=>rfl) (fun _ _=>Tree.free_ok (by kernel_rfl)) (fun _ X=>by kernel_rfl)
def Qfm(c:Q0c)(b:Int):Tree (Q0c×Bool):=
.br (decide ((↑(List.length c.Keys):Int)≥(16:Int))) (.lf (c,false)) (.cn (decide (List.length c.Keys+1≤maxLen)) (.lf ({Keys:=c.Keys++[(fun(n:Int)=>UInt8.ofNat (Int.toNat n)) b]},true)))
def Qy7(c:Q0c)(b:Int):(Q0c×Bool):=(Qfm c b).m
abbrev Qj3(c:Q0c)(b:Int):Prop:=(Qfm c b).p
def Zaz:Q0a:=mkP 145 [] true [.agg Q0c.sig, .one (.int .u8)] [] (fun args rows=>Qj3 (Q0c.of (args.getD 0 .dead).cells) (argI args 1)) (fun args rows=>Qy7 (Q0c.of (args.getD 0 .dead).cells) (argI args 1)) (fun X=> .tup [.agg (Q0c.cells (X.1)), .bool (X.2)]) (fun X=>[])
theorem Qse:Q03 Tryz.prog Zaz:=Q0j Q0g Q0h (.nil) Tryz.func145 Tryz.call145 (fun args rows=>Qfm (Q0c.of (args.getD 0 .dead).cells) (argI args 1)) [] [] 2 (fun _ _ _=>by kernel_rfl) (fun _ _=>rfl) (fun _ _ h=>h) (fun _ X=>by kernel_rfl)
def Qgb(m:(List Int))(frame:Int):Tree Bool:=
.lv (Q2p m) fun(x0:Int)=> .lf (decide (wrap u64 frame<wrap u64 x0))
def Q29(m:(List Int))(frame:Int):Bool:=(Qgb m frame).m
def Z9h:Q0a:=mkR 202 [] true [.one (.ints .u32), .one (.int .u32)] [] (fun args rows=>Q29 (argL .u32 args 0) (argI args 1)) (fun X=> .bool X) (fun X=>[])
theorem Qct:Q03 Tryz.prog Z9h:=Q0t Q0g Q0h (.cons Qay (.nil)) Tryz.func202 Tryz.call202 (fun args rows=>Qgb (argL .u32 args 0) (argI args 1)) [] [] 2 (fun _ _ _=>by kernel_rfl) (fun _ _=>rfl) (fun _ _=>Tree.free_ok (by kernel_rfl)) (fun _ X=>by kernel_rfl)
def Qef(m:(List Int))(addr:Int)(size:Int)(v:Int):Tree (List Int):=
let E1:=Nat.beq 1 1&&Nat.blt 0 1&&decide (0≤wrap u32 (Int.tdiv addr 4)∧wrap u32 (Int.tdiv addr 4)<(↑(List.length m):Int));let E2:=Int.toNat (wrap u32 (Int.tdiv addr 4)); .br (size==4) (.cn E1 (.lf (List.set m E2 v))) (.cn E1 (let E3:=decide (0≤wrap u32 (8*Int.tmod addr 4)); .cn E3 (.cn E3 (.cn E1 (.lf (List.set m E2 (ior u32 (Qgh u32 (List.getD m E2 0) (ishl u32 255 (wrap u32 (8*Int.tmod addr 4)))) (ishl u32 (iand u32 v 255) (wrap u32 (8*Int.tmod addr 4))))))))))
def Qh5(m:(List Int))(addr:Int)(size:Int)(v:Int):(List Int):=(Qef m addr size v).m
abbrev Qh6(m:(List Int))(addr:Int)(size:Int)(v:Int):Prop:=(Qef m addr size v).p
def Zfk:Q0a:=mkP 237 [true,false,false,false] true [.one (.row 0), .one (.int .u32), .one (.int .i64), .one (.int .u32)] [.arr 27 1 (.ints .u32)] (fun args rows=>Qh6 (rowL .u32 rows 0) (argI args 1) (argI args 2) (argI args 3)) (fun args rows=>Qh5 (rowL .u32 rows 0) (argI args 1) (argI args 2) (argI args 3)) (fun X=> .tup []) (fun X=>[⟨false,27,1, .ints .u32 X⟩])
theorem Qxg:Q03 Tryz.prog Zfk:=Q0j Q0g Q0h (.nil) Tryz.func237 Tryz.call237 (fun args rows=>Qef (rowL .u32 rows 0) (argI args 1) (argI args 2) (argI args 3)) [] [] 2 (fun _ _ _=>by kernel_rfl) (fun _ _=>rfl) (fun _ _ h=>h) (fun _ X=>by kernel_rfl)
def Qka(m:(List Int))(frame:Int)(s:(List UInt8))(z:(Int)×(List Int)):Nat:=(128-z.1).toNat
def Qbo(m:(List Int))(frame:Int)(s:(List UInt8)):Tree (List Int):=
.lp inferInstance (Qka m frame s (0,m)+1) ((True∧rE (frame:Int)∧rE (s:List UInt8)∧rE (0:Int)∧True)∧rE (m:List Int)∧True) (0,m) fun(v0:Int×List Int)=> .br (decide (v0.fst<(↑(List.length s):Int))) (.br (decide (v0.fst<128)) (.cn (decide (0≤v0.fst∧v0.fst<(↑(List.length s):Int))) (let E1:=wrap u32 (↑(UInt8.toNat (List.getD s (Int.toNat v0.fst) (0:UInt8))):Int);let E2:=wrap u32 (wrap i64 (wrap i64 (frame*128)+v0.fst)); .an (Qh6 v0.snd E2 1 E1) (.lv (Qh5 v0.snd E2 1 E1) fun(x0:List Int)=> .nx ((True∧rE (frame:Int)∧rE (s:List UInt8)∧rE ((wrap i64 (v0.fst+1)):Int)∧True)∧rE (x0:List Int)∧True) (Sum.inl (wrap i64 (v0.fst+1),x0))))) (.lf (Sum.inr v0.snd))) (.lf (Sum.inr v0.snd))
def Qwx(m:(List Int))(frame:Int)(s:(List UInt8)):(List Int):=(Qbo m frame s).m
abbrev Qiz(m:(List Int))(frame:Int)(s:(List UInt8)):Prop:=(Qbo m frame s).p
def Z67:LInv:={
 α:=(Int)×(List Int)
 F:=fun st a=>([(0, .all 0),(1,(lk st 1)),(2,(lk st 2)),(6, .int IntKind.i64 a.1)],[⟨false,27,1, .ints IntKind.u32 a.2⟩])
 a0:=fun st=>((lk st 6).toInt,(Q4q st.rows 0))
 ex0:=fun st=>[0]++[]
 next:=fun st=>((lk st 6).toInt,(Q4q st.rows 0))
 ex:=fun st=>[0]++[]}
def Qzl:List (Nat×LInv):=[(1,Z67)]
def Zat:Q0a:=mkP 203 [true,false,false] true [.one (.row 0), .one (.int .i64), .one (.str)] [.arr 27 1 (.ints .u32)] (fun args rows=>Qiz (rowL .u32 rows 0) (argI args 1) (argS args 2)) (fun args rows=>Qwx (rowL .u32 rows 0) (argI args 1) (argS args 2)) (fun X=> .tup []) (fun X=>[⟨false,27,1, .ints .u32 X⟩])
theorem Qt2:Q03 Tryz.prog Zat:=Q0j Q0g Q0h (.cons Qxg (.nil)) Tryz.func203 Tryz.call203 (fun args rows=>Qbo (rowL .u32 rows 0) (argI args 1) (argS args 2)) [] Qzl 3 (fun _ _ _=>by kernel_rfl) (fun _ _=>rfl) (fun _ _ h=>h) (fun _ X=>by kernel_rfl)
def Qa7(d0:Q0d)(m:(List Int))(e:Q0k):Tree (Q0d×Bool×(List Int)):=
.br (d0.State !=1) (.lf (d0,false,m)) (.br (e.Kind !=4) (.lf (d0,false,m)) (.br (decide (e.N>1)) (.lf (d0,false,m)) (let E4:=({Blocks:=d0.Blocks,Block:=d0.Block,Frame:=d0.Frame,State:=2,Cmd:=0,OpBlock:=0,OpFrame:=0,OpData:=[]}:Q0d);let E5:=({Blocks:=d0.Blocks,Block:=d0.Block,Frame:=d0.Frame,State:=3,Cmd:=0,OpBlock:=0,OpFrame:=0,OpData:=[]}:Q0d);let T2:Tree ((Q0d×Bool×(List Int))):= .br (e.N==1) (.lf (E4,true,m)) (.lf (E5,true,m));let E6:=decide ((↑(List.length e.Data):Int)>(0:Int)); .br (e.N==1) (let T1:Tree ((Q0d×Bool×(List Int))):= .br (d0.Cmd==1) (.an (Qiz m (wrap i64 d0.OpFrame) e.Data) (.lv (Qwx m (wrap i64 d0.OpFrame) e.Data) fun(x1:List Int)=> .br (e.N==1) (.lf (E4,true,x1)) (.lf (E5,true,x1)))) T2;let T3:Tree ((Q0d×Bool×(List Int))):= .br (!d0.Cmd==1) (.br E6 (.lf (d0,false,m)) T1) T1; .br (d0.Cmd==1) (.br ((↑(List.length e.Data):Int) !=(128:Int)) (.lf (d0,false,m)) (.lv (Q29 m d0.OpFrame) fun(x0:Bool)=> .br (!x0) (.lf (d0,false,m)) T3)) T3) (.br E6 (.lf (d0,false,m)) T2))))
def Qnp(d0:Q0d)(m:(List Int))(e:Q0k):(Q0d×Bool×(List Int)):=(Qa7 d0 m e).m
abbrev Qfy(d0:Q0d)(m:(List Int))(e:Q0k):Prop:=(Qa7 d0 m e).p
def Z43:Q0a:=mkP 146 [false,true,false] true [.agg Q0d.sig, .one (.row 0), .agg Q0k.sig] [.arr 27 1 (.ints .u32)] (fun args rows=>Qfy (Q0d.of (args.getD 0 .dead).cells) (rowL .u32 rows 0) (Q0k.of (args.getD 2 .dead).cells)) (fun args rows=>Qnp (Q0d.of (args.getD 0 .dead).cells) (rowL .u32 rows 0) (Q0k.of (args.getD 2 .dead).cells)) (fun X=> .tup [.agg (Q0d.cells (X.1)), .bool (X.2.1)]) (fun X=>[⟨false,27,1, .ints .u32 (X.2.2)⟩])
theorem Qmq:Q03 Tryz.prog Z43:=Q0j Q0g Q0h (.cons Qct (.cons Qt2 (.nil))) Tryz.func146 Tryz.call146 (fun args rows=>Qa7 (Q0d.of (args.getD 0 .dead).cells) (rowL .u32 rows 0) (Q0k.of (args.getD 2 .dead).cells)) [] [] 2 (fun _ _ _=>by kernel_rfl) (fun _ _=>rfl) (fun _ _ h=>h) (fun _ X=>by kernel_rfl)
def Qac(n:Q0m)(m:(List Int))(frame:(List UInt8)):Tree (Q0m×Bool×(List Int)):=
.br (!n.Posted) (.lf (n,false,m)) (.br (decide ((↑(List.length frame):Int)<(1:Int))) (.lf (n,false,m)) (.br (decide ((↑(List.length frame):Int)>(128:Int))) (.lf (n,false,m)) (.lv (Q29 m n.Buffer) fun(x0:Bool)=> .br (!x0) (.lf (n,false,m)) (.an (Qiz m (wrap i64 n.Buffer) frame) (.lv (Qwx m (wrap i64 n.Buffer) frame) fun(x1:List Int)=> .lf ({Frame:=n.Frame,Len:=n.Len,Posted:=false,Buffer:=0,Received:=true,Got:=wrap u32 (↑(List.length frame):Int)},true,x1))))))
def Qo(n:Q0m)(m:(List Int))(frame:(List UInt8)):(Q0m×Bool×(List Int)):=(Qac n m frame).m
abbrev Qf5(n:Q0m)(m:(List Int))(frame:(List UInt8)):Prop:=(Qac n m frame).p
def Z57:Q0a:=mkP 147 [false,true,false] true [.agg Q0m.sig, .one (.row 0), .one (.str)] [.arr 27 1 (.ints .u32)] (fun args rows=>Qf5 (Q0m.of (args.getD 0 .dead).cells) (rowL .u32 rows 0) (argS args 2)) (fun args rows=>Qo (Q0m.of (args.getD 0 .dead).cells) (rowL .u32 rows 0) (argS args 2)) (fun X=> .tup [.agg (Q0m.cells (X.1)), .bool (X.2.1)]) (fun X=>[⟨false,27,1, .ints .u32 (X.2.2)⟩])
theorem Qmu:Q03 Tryz.prog Z57:=Q0j Q0g Q0h (.cons Qct (.cons Qt2 (.nil))) Tryz.func147 Tryz.call147 (fun args rows=>Qac (Q0m.of (args.getD 0 .dead).cells) (rowL .u32 rows 0) (argS args 2)) [] [] 2 (fun _ _ _=>by kernel_rfl) (fun _ _=>rfl) (fun _ _ h=>h) (fun _ X=>by kernel_rfl)
def Qkg(m:Q00)(e:Q0k):Tree (Bool×Q00):=
.br m.Halted (.lf (false,m)) (let T1:Tree ((Bool×Q00)):= .br (e.Kind==4) (.an (Qfy m.Disk m.Mem e) (.lv (Qnp m.Disk m.Mem e) fun(x2:Q0d×Bool×List Int)=> .lf (x2.snd.fst,{Cpu:=m.Cpu,Mem:=x2.snd.snd,Console:=m.Console,Timer:=m.Timer,Disk:=x2.fst,Nic:=m.Nic,Balloon:=m.Balloon,Count:=m.Count,Waiting:=m.Waiting,Halted:=m.Halted}))) (let T3:Tree ((Bool×Q00)):= .br (e.Kind==6) (.br (decide (e.Data=[])) (.lf (true,{Cpu:=m.Cpu,Mem:=m.Mem,Console:=m.Console,Timer:=m.Timer,Disk:=m.Disk,Nic:=m.Nic,Balloon:={Target:=e.N,Given:=m.Balloon.Given},Count:=m.Count,Waiting:=m.Waiting,Halted:=m.Halted})) (.lf (false,m))) (.lf (false,m)); .br (e.Kind==5) (.br (e.N==0) (.an (Qf5 m.Nic m.Mem e.Data) (.lv (Qo m.Nic m.Mem e.Data) fun(x3:Q0m×Bool×List Int)=> .lf (x3.snd.fst,{Cpu:=m.Cpu,Mem:=x3.snd.snd,Console:=m.Console,Timer:=m.Timer,Disk:=m.Disk,Nic:=x3.fst,Balloon:=m.Balloon,Count:=m.Count,Waiting:=m.Waiting,Halted:=m.Halted}))) T3) T3);let T2:Tree ((Bool×Q00)):= .br (e.Kind==3) (.br (decide (e.N≤255)) (.br (decide (e.Data=[])) (.an (Qj3 m.Console (wrap u8 e.N)) (.lv (Qy7 m.Console (wrap u8 e.N)) fun(x1:Q0c×Bool)=> .lf (x1.snd,{Cpu:=m.Cpu,Mem:=m.Mem,Console:=x1.fst,Timer:=m.Timer,Disk:=m.Disk,Nic:=m.Nic,Balloon:=m.Balloon,Count:=m.Count,Waiting:=m.Waiting,Halted:=m.Halted}))) T1) T1) T1; .br (e.Kind==2) (.br (e.N==0) (.br (decide (e.Data=[])) (.lv (Qyk m.Timer) fun(x0:Q0i×Bool)=> .lf (x0.snd,{Cpu:=m.Cpu,Mem:=m.Mem,Console:=m.Console,Timer:=x0.fst,Disk:=m.Disk,Nic:=m.Nic,Balloon:=m.Balloon,Count:=m.Count,Waiting:=m.Waiting,Halted:=m.Halted})) T2) T2) T2)
def Ze3(m:Q00)(e:Q0k):(Bool×Q00):=(Qkg m e).m
abbrev Qzk(m:Q00)(e:Q0k):Prop:=(Qkg m e).p
def Z6:Q0a:=mkP 69 [true,false] true [.ptr 0, .agg Q0k.sig] [.box 44 49 (Q00.sigW (.row 1)), .arr 27 1 (.ints .u32)] (fun args rows=>Qzk (Q00.ofW (rows.getD 0 default).cs (rowL .u32 rows 1)) (Q0k.of (args.getD 1 .dead).cells)) (fun args rows=>Ze3 (Q00.ofW (rows.getD 0 default).cs (rowL .u32 rows 1)) (Q0k.of (args.getD 1 .dead).cells)) (fun X=> .bool (X.1)) (fun X=>[⟨true,44,49, .gen [(Q00.cellsW (X.2) (.all 1))]⟩,⟨false,27,1, .ints .u32 (X.2).Mem⟩])
theorem Z2m:Q03 Tryz.prog Z6:=Q0j Q0g Q0h (.cons Qsq (.cons Qse (.cons Qmq (.cons Qmu (.nil))))) Tryz.func69 Tryz.call69 (fun args rows=>Qkg (Q00.ofW (rows.getD 0 default).cs (rowL .u32 rows 1)) (Q0k.of (args.getD 1 .dead).cells)) [.row 27 1 (.ints .u32)] [] 2 (fun _ _ _=>by kernel_rfl) (fun _ _=>rfl) (fun _ _ h=>h) (fun _ X=>by kernel_rfl)
def Q99(m:Q01)(e:Q0k):Tree (Bool×Q01):=
.br m.Machine.Halted (.lf (false,m)) (let T1:Tree ((Bool×Q01)):= .br (e.Kind==4) (.an (Qfy m.Machine.Disk m.Machine.Mem e) (.lv (Qnp m.Machine.Disk m.Machine.Mem e) fun(x2:Q0d×Bool×List Int)=> .lf (x2.snd.fst,{Machine:={Cpu:=m.Machine.Cpu,Mem:=x2.snd.snd,Console:=m.Machine.Console,Timer:=m.Machine.Timer,Disk:=x2.fst,Nic:=m.Machine.Nic,Balloon:=m.Machine.Balloon,Count:=m.Machine.Count,Waiting:=m.Machine.Waiting,Halted:=m.Machine.Halted},Clock:=m.Clock,Log:=m.Log,Queue:=m.Queue}))) (let T3:Tree ((Bool×Q01)):= .br (e.Kind==6) (.br (decide (e.Data=[])) (.lf (true,{Machine:={Cpu:=m.Machine.Cpu,Mem:=m.Machine.Mem,Console:=m.Machine.Console,Timer:=m.Machine.Timer,Disk:=m.Machine.Disk,Nic:=m.Machine.Nic,Balloon:={Target:=e.N,Given:=m.Machine.Balloon.Given},Count:=m.Machine.Count,Waiting:=m.Machine.Waiting,Halted:=m.Machine.Halted},Clock:=m.Clock,Log:=m.Log,Queue:=m.Queue})) (.lf (false,m))) (.lf (false,m)); .br (e.Kind==5) (.br (e.N==0) (.an (Qf5 m.Machine.Nic m.Machine.Mem e.Data) (.lv (Qo m.Machine.Nic m.Machine.Mem e.Data) fun(x3:Q0m×Bool×List Int)=> .lf (x3.snd.fst,{Machine:={Cpu:=m.Machine.Cpu,Mem:=x3.snd.snd,Console:=m.Machine.Console,Timer:=m.Machine.Timer,Disk:=m.Machine.Disk,Nic:=x3.fst,Balloon:=m.Machine.Balloon,Count:=m.Machine.Count,Waiting:=m.Machine.Waiting,Halted:=m.Machine.Halted},Clock:=m.Clock,Log:=m.Log,Queue:=m.Queue}))) T3) T3);let T2:Tree ((Bool×Q01)):= .br (e.Kind==3) (.br (decide (e.N≤255)) (.br (decide (e.Data=[])) (.an (Qj3 m.Machine.Console (wrap u8 e.N)) (.lv (Qy7 m.Machine.Console (wrap u8 e.N)) fun(x1:Q0c×Bool)=> .lf (x1.snd,{Machine:={Cpu:=m.Machine.Cpu,Mem:=m.Machine.Mem,Console:=x1.fst,Timer:=m.Machine.Timer,Disk:=m.Machine.Disk,Nic:=m.Machine.Nic,Balloon:=m.Machine.Balloon,Count:=m.Machine.Count,Waiting:=m.Machine.Waiting,Halted:=m.Machine.Halted},Clock:=m.Clock,Log:=m.Log,Queue:=m.Queue}))) T1) T1) T1; .br (e.Kind==2) (.br (e.N==0) (.br (decide (e.Data=[])) (.lv (Qyk m.Machine.Timer) fun(x0:Q0i×Bool)=> .lf (x0.snd,{Machine:={Cpu:=m.Machine.Cpu,Mem:=m.Machine.Mem,Console:=m.Machine.Console,Timer:=x0.fst,Disk:=m.Machine.Disk,Nic:=m.Machine.Nic,Balloon:=m.Machine.Balloon,Count:=m.Machine.Count,Waiting:=m.Machine.Waiting,Halted:=m.Machine.Halted},Clock:=m.Clock,Log:=m.Log,Queue:=m.Queue})) T2) T2) T2)
def Qt7(m:Q01)(e:Q0k):(Bool×Q01):=(Q99 m e).m
abbrev Qji(m:Q01)(e:Q0k):Prop:=(Q99 m e).p
def Qzp:Q0a:=mkP 69 [true,false] true [.ptr 0, .agg Q0k.sig] [.box 114 52 (Q01.sigW (.row 1) (.row 2) (.row 3)), .arr 27 1 (.ints .u32), .arr 253 4 (.recs .apiEntry), .arr 63 3 (.recs .apiEvent)] (fun args rows=>Qji (Q01.ofW (rows.getD 0 default).cs (rowL .u32 rows 1) (rowR .apiEntry rows 2) (rowR .apiEvent rows 3)) (Q0k.of (args.getD 1 .dead).cells)) (fun args rows=>Qt7 (Q01.ofW (rows.getD 0 default).cs (rowL .u32 rows 1) (rowR .apiEntry rows 2) (rowR .apiEvent rows 3)) (Q0k.of (args.getD 1 .dead).cells)) (fun X=> .bool (X.1)) (fun X=>[⟨true,114,52, .gen [(Q01.cellsW (X.2) (.all 1) (.all 2) (.all 3))]⟩,⟨false,27,1, .ints .u32 (X.2).Machine.Mem⟩,⟨false,253,4, .recs .apiEntry (X.2).Log⟩,⟨false,63,3, .recs .apiEvent (X.2).Queue⟩])
theorem Qvi:Q03 Tryz.prog Qzp:=Q0j Q0g Q0h (.cons Qsq (.cons Qse (.cons Qmq (.cons Qmu (.nil))))) Tryz.func69 Tryz.call69 (fun args rows=>Q99 (Q01.ofW (rows.getD 0 default).cs (rowL .u32 rows 1) (rowR .apiEntry rows 2) (rowR .apiEvent rows 3)) (Q0k.of (args.getD 1 .dead).cells)) [.row 27 1 (.ints .u32), .row 253 4 (.recs .apiEntry), .row 63 3 (.recs .apiEvent)] [] 2 (fun _ _ _=>by kernel_rfl) (fun _ _=>rfl) (fun _ _ h=>h) (fun _ X=>by kernel_rfl)
def Q7r(m:Q01)(e:Q0k):Tree (Bool×Q01):=
.an (Qji m e) (.lv (Qt7 m e) fun(x0:Bool×Q01)=> .lf (x0.fst,x0.snd))
def Qp8(m:Q01)(e:Q0k):(Bool×Q01):=(Q7r m e).m
abbrev Qi4(m:Q01)(e:Q0k):Prop:=(Q7r m e).p
def Qyh:Q0a:=mkP 263 [true,false] true [.ptr 0, .agg Q0k.sig] [.box 114 52 (Q01.sigW (.row 1) (.row 2) (.row 3)), .arr 27 1 (.ints .u32), .arr 253 4 (.recs .apiEntry), .arr 63 3 (.recs .apiEvent)] (fun args rows=>Qi4 (Q01.ofW (rows.getD 0 default).cs (rowL .u32 rows 1) (rowR .apiEntry rows 2) (rowR .apiEvent rows 3)) (Q0k.of (args.getD 1 .dead).cells)) (fun args rows=>Qp8 (Q01.ofW (rows.getD 0 default).cs (rowL .u32 rows 1) (rowR .apiEntry rows 2) (rowR .apiEvent rows 3)) (Q0k.of (args.getD 1 .dead).cells)) (fun X=> .bool (X.1)) (fun X=>[⟨true,114,52, .gen [(Q01.cellsW (X.2) (.all 1) (.all 2) (.all 3))]⟩,⟨false,27,1, .ints .u32 (X.2).Machine.Mem⟩,⟨false,253,4, .recs .apiEntry (X.2).Log⟩,⟨false,63,3, .recs .apiEvent (X.2).Queue⟩])
theorem Qtn:Q03 Tryz.prog Qyh:=Q0j Q0g Q0h (.cons Qvi (.nil)) Tryz.func263 Tryz.call263 (fun args rows=>Q7r (Q01.ofW (rows.getD 0 default).cs (rowL .u32 rows 1) (rowR .apiEntry rows 2) (rowR .apiEvent rows 3)) (Q0k.of (args.getD 1 .dead).cells)) [.row 27 1 (.ints .u32), .row 253 4 (.recs .apiEntry), .row 63 3 (.recs .apiEvent)] [] 2 (fun _ _ _=>by kernel_rfl) (fun _ _=>rfl) (fun _ _ h=>h) (fun _ X=>by kernel_rfl)
def Qao(r:Q01)(e:Q0k):Tree Q01:=
.an (Qi4 r e) (.lv (Qp8 r e) fun(x0:Bool×Q01)=> .br x0.fst (.cn (decide (40*(List.length x0.snd.Log+1)≤140737488355328)) (.lf ({Machine:=x0.snd.Machine,Clock:=x0.snd.Clock,Log:=x0.snd.Log++[{At:=x0.snd.Machine.Count,Event:=e}],Queue:=x0.snd.Queue}))) (.lf x0.snd))
def Qnm(r:Q01)(e:Q0k):Q01:=(Qao r e).m
abbrev Qff(r:Q01)(e:Q0k):Prop:=(Qao r e).p
def Z3l:Q0a:=mkKP 1 245 [true,false] [.ptr 0, .agg Q0k.sig] [.box 114 52 (Q01.sigW (.row 1) (.row 2) (.row 3)), .arr 27 1 (.ints .u32), .arr 253 4 (.recs .apiEntry), .arr 63 3 (.recs .apiEvent)] (fun args rows=>Qff (Q01.ofW (rows.getD 0 default).cs (rowL .u32 rows 1) (rowR .apiEntry rows 2) (rowR .apiEvent rows 3)) (Q0k.of (args.getD 1 .dead).cells)) (fun args rows=>Qnm (Q01.ofW (rows.getD 0 default).cs (rowL .u32 rows 1) (rowR .apiEntry rows 2) (rowR .apiEvent rows 3)) (Q0k.of (args.getD 1 .dead).cells)) (fun X=> .tup []) (fun X=>[⟨true,114,52, .gen [(Q01.cellsW X (.all 1) (.all 2) (.all 3))]⟩,⟨false,27,1, .ints .u32 X.Machine.Mem⟩,⟨false,253,4, .recs .apiEntry X.Log⟩,⟨false,63,3, .recs .apiEvent X.Queue⟩])
theorem Qzc:Q03 Tryz.prog Z3l:=mkKP_of Q0g Q0h (.cons Qtn (.nil)) Tryz.func245 Tryz.call245 (fun args rows=>Qao (Q01.ofW (rows.getD 0 default).cs (rowL .u32 rows 1) (rowR .apiEntry rows 2) (rowR .apiEvent rows 3)) (Q0k.of (args.getD 1 .dead).cells)) [.row 27 1 (.ints .u32), .row 253 4 (.recs .apiEntry), .row 63 3 (.recs .apiEvent)] [] 2 (fun _ _ _=>by kernel_rfl) (fun _ _=>rfl) (fun _ _ h=>h)
def Qet(is:Bool)(n:Int):Tree Int:=
.br is (.cn (decide (0≤wrap u64 n)) (.lf (ishl u32 1 (wrap u64 n)))) (.lf 0)
def Q7t(is:Bool)(n:Int):Int:=(Qet is n).m
abbrev Q8o(is:Bool)(n:Int):Prop:=(Qet is n).p
def Zag:Q0a:=mkP 91 [] true [.one (.bool), .one (.int .i64)] [] (fun args rows=>Q8o (argB args 0) (argI args 1)) (fun args rows=>Q7t (argB args 0) (argI args 1)) (fun X=> .int .u32 X) (fun X=>[])
theorem Z6h:Q03 Tryz.prog Zag:=Q0j Q0g Q0h (.nil) Tryz.func91 Tryz.call91 (fun args rows=>Qet (argB args 0) (argI args 1)) [] [] 2 (fun _ _ _=>by kernel_rfl) (fun _ _=>rfl) (fun _ _ h=>h) (fun _ X=>by kernel_rfl)
def Qg3(t:Q0i):Tree Bool:=
.lf t.Fired
def Q8m(t:Q0i):Bool:=(Qg3 t).m
def Qno:Q0a:=mkR 92 [] true [.agg Q0i.sig] [] (fun args rows=>Q8m (Q0i.of (args.getD 0 .dead).cells)) (fun X=> .bool X) (fun X=>[])
theorem Qmd:Q03 Tryz.prog Qno:=Q0t Q0g Q0h (.nil) Tryz.func92 Tryz.call92 (fun args rows=>Qg3 (Q0i.of (args.getD 0 .dead).cells)) [] [] 2 (fun _ _ _=>by kernel_rfl) (fun _ _=>rfl) (fun _ _=>Tree.free_ok (by kernel_rfl)) (fun _ X=>by kernel_rfl)
def Qcn(c:Q0c):Tree Bool:=
.lf (decide ((↑(List.length c.Keys):Int)>(0:Int)))
def Q48(c:Q0c):Bool:=(Qcn c).m
def Qlh:Q0a:=mkR 93 [] true [.agg Q0c.sig] [] (fun args rows=>Q48 (Q0c.of (args.getD 0 .dead).cells)) (fun X=> .bool X) (fun X=>[])
theorem Qk0:Q03 Tryz.prog Qlh:=Q0t Q0g Q0h (.nil) Tryz.func93 Tryz.call93 (fun args rows=>Qcn (Q0c.of (args.getD 0 .dead).cells)) [] [] 2 (fun _ _ _=>by kernel_rfl) (fun _ _=>rfl) (fun _ _=>Tree.free_ok (by kernel_rfl)) (fun _ X=>by kernel_rfl)
def Qh(d0:Q0d):Tree Bool:=
.br (d0.State==2) (.lf true) (.lf (d0.State==3))
def Q9j(d0:Q0d):Bool:=(Qh d0).m
def Qq7:Q0a:=mkR 94 [] true [.agg Q0d.sig] [] (fun args rows=>Q9j (Q0d.of (args.getD 0 .dead).cells)) (fun X=> .bool X) (fun X=>[])
theorem Qne:Q03 Tryz.prog Qq7:=Q0t Q0g Q0h (.nil) Tryz.func94 Tryz.call94 (fun args rows=>Qh (Q0d.of (args.getD 0 .dead).cells)) [] [] 2 (fun _ _ _=>by kernel_rfl) (fun _ _=>rfl) (fun _ _=>Tree.free_ok (by kernel_rfl)) (fun _ X=>by kernel_rfl)
def Qhp(n:Q0m):Tree Bool:=
.lf n.Received
def Qak(n:Q0m):Bool:=(Qhp n).m
def Qqt:Q0a:=mkR 95 [] true [.agg Q0m.sig] [] (fun args rows=>Qak (Q0m.of (args.getD 0 .dead).cells)) (fun X=> .bool X) (fun X=>[])
theorem Qow:Q03 Tryz.prog Qqt:=Q0t Q0g Q0h (.nil) Tryz.func95 Tryz.call95 (fun args rows=>Qhp (Q0m.of (args.getD 0 .dead).cells)) [] [] 2 (fun _ _ _=>by kernel_rfl) (fun _ _=>rfl) (fun _ _=>Tree.free_ok (by kernel_rfl)) (fun _ X=>by kernel_rfl)
def Qkm(b:Q05)(z:(Int)×(Int)):Prop:=0≤z.2∧z.2≤32
def Qdh(b:Q05)(z:(Int)×(Int)):Nat:=(32-z.2).toNat
def Qgr(b:Q05):Tree Int:=
.lp inferInstance (Qdh b (0,0)+1) (((rE b.Target∧rE b.Given∧True)∧(rE ((nat_lit 0):Nat)∧rE ((nat_lit 0):Nat))∧rE (0:Int)∧rE (0:Int)∧rE (0:Int)∧True)∧(rE b.Target∧rE b.Given∧True)∧True) (0,0) fun(v0:Int×Int)=> .br (decide (v0.snd<32)) (.cn (decide (0≤wrap u64 v0.snd)) (.nx (((rE b.Target∧rE b.Given∧True)∧(rE ((nat_lit 0):Nat)∧rE ((nat_lit 0):Nat))∧rE (0:Int)∧rE ((wrap i64 (v0.fst+wrap i64 (iand u32 (ishr u32 b.Given (wrap u64 v0.snd)) 1))):Int)∧rE ((wrap i64 (v0.snd+1)):Int)∧True)∧(rE b.Target∧rE b.Given∧True)∧True) (Sum.inl (wrap i64 (v0.fst+wrap i64 (iand u32 (ishr u32 b.Given (wrap u64 v0.snd)) 1)),wrap i64 (v0.snd+1))))) (.lf (Sum.inr v0.fst))
def Qbl(b:Q05):Int:=(Qgr b).m
theorem Z06(b:Q05):(Qgr b).p:=by
 unfold Tree.p Qgr
 repeat'(first|refine w_lp (inv:=Qkm b) (μ:=Qdh b) ?_ (Nat.lt_succ_self _) (fun _ _=> ?_)|exact trivial|refine w_br (fun _=> ?_) (fun _=> ?_)|refine w_cn ?_ ?_|refine w_an ?_ ?_|refine w_lv (fun _ _=> ?_)|refine w_nx ?_|refine w_lf ?_|refine And.intro ?_ ?_)
 all_goals((try simp only[Qkm,Qdh]at*);((subst_vars;first|trivial|assumption|omega|((simp(config:={decide:=true,failIfUnchanged:=false}) only[Bool.and_eq_true,Bool.or_eq_true,Bool.and_eq_false_iff,Bool.or_eq_false_iff,Bool.not_eq_true',Bool.not_eq_false',Bool.not_eq_true,Bool.not_eq_false,decide_eq_true_eq,decide_eq_false_iff_not,Q3n,Q2c,Q3k,Q2d,beq_iff_eq,beq_eq_false_iff_ne,bne_iff_ne,bne_eq_false_iff_eq,ne_eq,List.all_cons,List.all_nil,D.plain,List.length_cons,List.length_nil,List.length_append,List.length_set,List.length_replicate,IntKind.wrap_i64,IntKind.wrap_u64,IntKind.wrap_u32,IntKind.wrap_i32,IntKind.wrap_u8,true_and,and_true,or_false,false_or,or_true,true_or,not_true_eq_false,not_false_eq_true,Prod.fst,Prod.snd]at*);first|done|assumption|omega)|((simp(config:={decide:=true,failIfUnchanged:=false}) only[Bool.and_eq_true,Bool.or_eq_true,Bool.and_eq_false_iff,Bool.or_eq_false_iff,Bool.not_eq_true',Bool.not_eq_false',Bool.not_eq_true,Bool.not_eq_false,decide_eq_true_eq,decide_eq_false_iff_not,Q3n,Q2c,Q3k,Q2d,beq_iff_eq,beq_eq_false_iff_ne,bne_iff_ne,bne_eq_false_iff_eq,ne_eq,List.all_cons,List.all_nil,D.plain,List.length_cons,List.length_nil,List.length_append,List.length_set,List.length_replicate,IntKind.wrap_i64,IntKind.wrap_u64,IntKind.wrap_u32,IntKind.wrap_i32,IntKind.wrap_u8,true_and,and_true,or_false,false_or,or_true,true_or,not_true_eq_false,not_false_eq_true,Prod.fst,Prod.snd]at*);simp only[←List.length_pos_iff]at*;omega)|(simp_all;done)|(have:= @Qdb;simp_all;try omega))))
def Z56:LInv:={
 α:=(Int)×(Int)
 F:=fun st a=>([(0,(lk st 0)),(1, .ptr 0 0 0),(2,(lk st 2)),(3, .int IntKind.i64 a.1),(4, .int IntKind.i64 a.2)],[⟨true,41,2, .gen [[(cT st 1 0),(cT st 1 1)]]⟩])
 a0:=fun st=>((lk st 3).toInt,(lk st 4).toInt)
 ex0:=fun st=>[]++[(Q0q (lk st 1) (st.rows.length+0))]
 next:=fun st=>((lk st 3).toInt,(lk st 4).toInt)
 ex:=fun st=>[]++[(Q0q (lk st 1) (st.rows.length+0))]}
def Qwk:List (Nat×LInv):=[(3,Z56)]
def Z7x:Q0a:=mkR 155 [] true [.agg Q05.sig] [] (fun args rows=>Qbl (Q05.of (args.getD 0 .dead).cells)) (fun X=> .int .i64 X) (fun X=>[])
theorem Qol:Q03 Tryz.prog Z7x:=Q0t Q0g Q0h (.nil) Tryz.func155 Tryz.call155 (fun args rows=>Qgr (Q05.of (args.getD 0 .dead).cells)) [] Qwk 3 (fun _ _ _=>by kernel_rfl) (fun _ _=>rfl) (fun args rows=>Z06 (Q05.of (args.getD 0 .dead).cells)) (fun _ X=>by kernel_rfl)
def Q7o(b:Q05):Tree Bool:=
.lv (Qbl b) fun(x0:Int)=> .lf (wrap u64 x0 !=wrap u64 b.Target)
def Q2u(b:Q05):Bool:=(Q7o b).m
def Qkd:Q0a:=mkR 96 [] true [.agg Q05.sig] [] (fun args rows=>Q2u (Q05.of (args.getD 0 .dead).cells)) (fun X=> .bool X) (fun X=>[])
theorem Qjz:Q03 Tryz.prog Qkd:=Q0t Q0g Q0h (.cons Qol (.nil)) Tryz.func96 Tryz.call96 (fun args rows=>Q7o (Q05.of (args.getD 0 .dead).cells)) [] [] 2 (fun _ _ _=>by kernel_rfl) (fun _ _=>rfl) (fun _ _=>Tree.free_ok (by kernel_rfl)) (fun _ X=>by kernel_rfl)
def Qcw(m:Q00):Tree Int:=
.lv (Q8m m.Timer) fun(x0:Bool)=> .an (Q8o x0 0) (.lv (Q7t x0 0) fun(x1:Int)=> .lv (Q48 m.Console) fun(x2:Bool)=> .an (Q8o x2 1) (.lv (Q7t x2 1) fun(x3:Int)=> .lv (Q9j m.Disk) fun(x4:Bool)=> .an (Q8o x4 2) (.lv (Q7t x4 2) fun(x5:Int)=> .lv (Qak m.Nic) fun(x6:Bool)=> .an (Q8o x6 3) (.lv (Q7t x6 3) fun(x7:Int)=> .lv (Q2u m.Balloon) fun(x8:Bool)=> .an (Q8o x8 4) (.lv (Q7t x8 4) fun(x9:Int)=> .lf (ior u32 (ior u32 (ior u32 (ior u32 x1 x3) x5) x7) x9))))))
def Qeh(m:Q00):Int:=(Qcw m).m
abbrev Qn(m:Q00):Prop:=(Qcw m).p
def Z8m:Q0a:=mkP 40 [] true [.agg Q00.sig] [] (fun args rows=>Qn (Q00.of (args.getD 0 .dead).cells)) (fun args rows=>Qeh (Q00.of (args.getD 0 .dead).cells)) (fun X=> .int .u32 X) (fun X=>[])
theorem Z3o:Q03 Tryz.prog Z8m:=Q0j Q0g Q0h (.cons Z6h (.cons Qmd (.cons Qk0 (.cons Qne (.cons Qow (.cons Qjz (.nil))))))) Tryz.func40 Tryz.call40 (fun args rows=>Qcw (Q00.of (args.getD 0 .dead).cells)) [] [] 2 (fun _ _ _=>by kernel_rfl) (fun _ _=>rfl) (fun _ _ h=>h) (fun _ X=>by kernel_rfl)
def Q7a(m:Q00):Tree Int:=
.an (Qn m) (.lv (Qeh m) fun(x0:Int)=> .lf (iand u32 x0 m.Cpu.Csr.a7))
def Q26(m:Q00):Int:=(Q7a m).m
abbrev Qda(m:Q00):Prop:=(Q7a m).p
def Qzh:Q0a:=mkP 97 [] true [.agg Q00.sig] [] (fun args rows=>Qda (Q00.of (args.getD 0 .dead).cells)) (fun args rows=>Q26 (Q00.of (args.getD 0 .dead).cells)) (fun X=> .int .u32 X) (fun X=>[])
theorem Qko:Q03 Tryz.prog Qzh:=Q0j Q0g Q0h (.cons Z3o (.nil)) Tryz.func97 Tryz.call97 (fun args rows=>Q7a (Q00.of (args.getD 0 .dead).cells)) [] [] 2 (fun _ _ _=>by kernel_rfl) (fun _ _=>rfl) (fun _ _ h=>h) (fun _ X=>by kernel_rfl)
def Qbr(m:Q00):Tree Bool:=
.br m.Waiting (.an (Qda m) (.lv (Q26 m) fun(x0:Int)=> .lf (x0==0))) (.lf false)
def Qhl(m:Q00):Bool:=(Qbr m).m
abbrev Qj8(m:Q00):Prop:=(Qbr m).p
def Zae:Q0a:=mkP 41 [] true [.agg Q00.sig] [] (fun args rows=>Qj8 (Q00.of (args.getD 0 .dead).cells)) (fun args rows=>Qhl (Q00.of (args.getD 0 .dead).cells)) (fun X=> .bool X) (fun X=>[])
theorem Qsk:Q03 Tryz.prog Zae:=Q0j Q0g Q0h (.cons Qko (.nil)) Tryz.func41 Tryz.call41 (fun args rows=>Qbr (Q00.of (args.getD 0 .dead).cells)) [] [] 2 (fun _ _ _=>by kernel_rfl) (fun _ _=>rfl) (fun _ _ h=>h) (fun _ X=>by kernel_rfl)
def Qa(m:Q00):Tree Bool:=
.lv (Qgn m) fun(x0:Bool)=> .br (!x0) (.lf true) (.br m.Halted (.lf true) (.an (Qj8 m) (.lv (Qhl m) fun(x1:Bool)=> .br x1 (.lf true) (.lf (decide (m.Count≥1152921504606846976))))))
def Q70(m:Q00):Bool:=(Qa m).m
abbrev Q9f(m:Q00):Prop:=(Qa m).p
def Z8z:Q0a:=mkP 65 [] true [.agg Q00.sig] [] (fun args rows=>Q9f (Q00.of (args.getD 0 .dead).cells)) (fun args rows=>Q70 (Q00.of (args.getD 0 .dead).cells)) (fun X=> .bool X) (fun X=>[])
theorem Qj5:Q03 Tryz.prog Z8z:=Q0j Q0g Q0h (.cons Qnd (.cons Qsk (.nil))) Tryz.func65 Tryz.call65 (fun args rows=>Qa (Q00.of (args.getD 0 .dead).cells)) [] [] 2 (fun _ _ _=>by kernel_rfl) (fun _ _=>rfl) (fun _ _ h=>h) (fun _ X=>by kernel_rfl)
end
end Go.Proofs.YtdkiadhigcfmkaaGreat

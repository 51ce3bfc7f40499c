/-
  Functions of the program: models, and that its calls come to them (by a program: gen3.py).
-/
import Derived.Test.YtdkiadhigcfmkaaGreatMachineInterruptsBase
import Derived.Test.YtdkiadhigcfmkaaGreatMachineInterruptsYe
namespace Go.Proofs.YtdkiadhigcfmkaaGreat
open Go Go.GD Go.IntKind
set_option linter.unusedVariables false
set_option linter.unusedSimpArgs false
set_option maxRecDepth 100000
noncomputable section
def Q8v(m:(List Int)):Tree (List Int):=
.cn (Nat.blt (0:Nat) (1:Nat)&&Nat.beq ((1:Nat)) (1:Nat)&&List.all [D.int u32 (0:Int)] D.plain&&decide ((0:Int)≤(↑(List.length m):Int)∧(↑(List.length m):Int)≤(↑(List.length m):Int)∧(↑(List.length m):Int)≤(9223372036854775807:Int)∧(↑(4:Nat):Int)*(↑(List.length m):Int)≤(140737488355328:Int))) (let E1:=List.length (List.replicate (Int.toNat (↑(List.length m):Int)) (0:Int)); .lf (List.take (min (List.length m) E1) m++List.drop (min (List.length m) E1) (List.replicate (Int.toNat (↑(List.length m):Int)) (0:Int))))
def Qln(m:(List Int)):(List Int):=(Q8v m).m
abbrev Qqt(m:(List Int)):Prop:=(Q8v m).p
def Za7:Q0b:=mkP 104 [] true [.one (.ints .u32)] [] (fun args rows=>Qqt (argL .u32 args 0)) (fun args rows=>Qln (argL .u32 args 0)) (fun X=> .all 0) (fun X=>[⟨false,27,1, .ints .u32 X⟩])
theorem Z7t:Q04 Tryz.prog Za7:=Q0k Q0i Q0j (.nil) Tryz.func104 Tryz.call104 (fun args rows=>Q8v (argL .u32 args 0)) [.row 27 1 (.ints .u32)] [] 2 (fun _ _ _=>by kernel_rfl) (fun _ _=>rfl) (fun _ _ h=>h) (fun _ X=>by kernel_rfl)
def Q7s(m:Q00):Tree Q00:=
.an (Qqt m.Mem) (.lv (Qln m.Mem) fun(x0:List Int)=> .lf ({Cpu:=m.Cpu,Mem:=x0,Console:=m.Console,Timer:=m.Timer,Disk:=m.Disk,Nic:=m.Nic,Balloon:=m.Balloon,Count:=m.Count,Waiting:=m.Waiting,Halted:=m.Halted}))
def Qhs(m:Q00):Q00:=(Q7s m).m
abbrev Qat(m:Q00):Prop:=(Q7s m).p
def Zg6:Q0b:=mkP 46 [] true [.agg Q00.sig] [] (fun args rows=>Qat (Q00.of (args.getD 0 .dead).cells)) (fun args rows=>Qhs (Q00.of (args.getD 0 .dead).cells)) (fun X=> .agg (Q00.cellsW X (.all 0))) (fun X=>[⟨false,27,1, .ints .u32 X.Mem⟩])
theorem Qk2:Q04 Tryz.prog Zg6:=Q0k Q0i Q0j (.cons Z7t (.nil)) Tryz.func46 Tryz.call46 (fun args rows=>Q7s (Q00.of (args.getD 0 .dead).cells)) [.row 27 1 (.ints .u32)] [] 2 (fun _ _ _=>by kernel_rfl) (fun _ _=>rfl) (fun _ _ h=>h) (fun _ X=>by kernel_rfl)
def Qnb(n:Int)(k:Int)(z:(Int)×(List Int)):Prop:=0≤z.1∧(z.2.length:Int)=z.1∧(z.1≤k∨z.1=0)
def Qfz(n:Int)(k:Int)(z:(Int)×(List Int)):Nat:=(k-z.1).toNat
def Qjn(n:Int)(k:Int):Tree (List UInt8):=
.lp inferInstance (Qfz n k (0,[])+1) ((rE (n:Int)∧rE (k:Int)∧rE ([]:List UInt8)∧True∧rE (0:Int)∧True)∧rE ([]:List Int)∧True) (0,[]) fun(v0:Int×List Int)=> .br (decide (v0.fst<k)) (.lv (Qa9 n (wrap i64 (Int.tdiv v0.fst 9))) fun(x0:Int)=> .cn (decide (1*(List.length v0.snd+1)≤140737488355328)) (.nx ((rE (n:Int)∧rE (k:Int)∧rE ([]:List UInt8)∧True∧rE ((wrap i64 (v0.fst+1)):Int)∧True)∧rE ((v0.snd++[wrap u8 x0]):List Int)∧True) (Sum.inl (wrap i64 (v0.fst+1),v0.snd++[wrap u8 x0])))) (.lf (Sum.inr (bytesOf v0.snd)))
def Qyc(n:Int)(k:Int):(List UInt8):=(Qjn n k).m
def Q96(n:Int)(k:Int):Prop:=
k≤1000000000000
theorem Z4v(n:Int)(k:Int)(hw:Q96 n k):(Qjn n k).p:=by
 simp only[Q96]at hw
 unfold Tree.p Qjn
 repeat'(first|refine w_lp (inv:=Qnb n k) (μ:=Qfz n k) ?_ (Nat.lt_succ_self _) (fun _ _=> ?_)|exact trivial|refine w_br (fun _=> ?_) (fun _=> ?_)|refine w_cn ?_ ?_|refine w_an ?_ ?_|refine w_lv (fun _ _=> ?_)|refine w_nx ?_|refine w_lf ?_|refine And.intro ?_ ?_)
 all_goals((try simp only[Qnb,Qfz]at*);((subst_vars;first|trivial|assumption|omega|((simp(config:={decide:=true,failIfUnchanged:=false}) only[Bool.and_eq_true,Bool.or_eq_true,Bool.and_eq_false_iff,Bool.or_eq_false_iff,Bool.not_eq_true',Bool.not_eq_false',Bool.not_eq_true,Bool.not_eq_false,decide_eq_true_eq,decide_eq_false_iff_not,Q65,Q4,Q60,Q3w,beq_iff_eq,beq_eq_false_iff_ne,bne_iff_ne,bne_eq_false_iff_eq,ne_eq,List.all_cons,List.all_nil,D.plain,List.length_cons,List.length_nil,List.length_append,List.length_set,List.length_replicate,IntKind.wrap_i64,IntKind.wrap_u64,IntKind.wrap_u32,IntKind.wrap_i32,IntKind.wrap_u8,true_and,and_true,or_false,false_or,or_true,true_or,not_true_eq_false,not_false_eq_true,Prod.fst,Prod.snd]at*);first|done|assumption|omega)|((simp(config:={decide:=true,failIfUnchanged:=false}) only[Bool.and_eq_true,Bool.or_eq_true,Bool.and_eq_false_iff,Bool.or_eq_false_iff,Bool.not_eq_true',Bool.not_eq_false',Bool.not_eq_true,Bool.not_eq_false,decide_eq_true_eq,decide_eq_false_iff_not,Q65,Q4,Q60,Q3w,beq_iff_eq,beq_eq_false_iff_ne,bne_iff_ne,bne_eq_false_iff_eq,ne_eq,List.all_cons,List.all_nil,D.plain,List.length_cons,List.length_nil,List.length_append,List.length_set,List.length_replicate,IntKind.wrap_i64,IntKind.wrap_u64,IntKind.wrap_u32,IntKind.wrap_i32,IntKind.wrap_u8,true_and,and_true,or_false,false_or,or_true,true_or,not_true_eq_false,not_false_eq_true,Prod.fst,Prod.snd]at*);simp only[←List.length_pos_iff]at*;omega)|(simp_all;done)|(have:= @Qi9;simp_all;try omega))))
def Z9e:LInv:={
 α:=(Int)×(List Int)
 F:=fun st a=>([(0,(lk st 0)),(1,(lk st 1)),(4,(lk st 4)),(5, .all 0),(6, .int IntKind.i64 a.1)],[⟨false,5,1, .ints IntKind.u8 a.2⟩])
 a0:=fun st=>((lk st 6).toInt,(Q56 st.rows (rN st 5)))
 ex0:=fun st=>[]++[(Q0s (lk st 5) (st.rows.length+0))]
 next:=fun st=>((lk st 6).toInt,(Q56 st.rows (rN st 5)))
 ex:=fun st=>[]++[(Q0s (lk st 5) (st.rows.length+0))]}
def Z0u:List (Nat×LInv):=[(3,Z9e)]
def Zbc:Q0b:=mkP 71 [] true [.one (.int .i64), .one (.int .i64)] [] (fun args rows=>Q96 (argI args 0) (argI args 1)) (fun args rows=>Qyc (argI args 0) (argI args 1)) (fun X=> .str X) (fun X=>[])
theorem Z9q:Q04 Tryz.prog Zbc:=Q0k Q0i Q0j (.cons Qjt (.nil)) Tryz.func71 Tryz.call71 (fun args rows=>Qjn (argI args 0) (argI args 1)) [] Z0u 3 (fun _ _ _=>by kernel_rfl) (fun _ _=>rfl) (fun args rows h=>Z4v (argI args 0) (argI args 1) h) (fun _ X=>by kernel_rfl)
def Qcu(r:Q01):Tree Q01:=
.an (Qat r.Machine) (.lv (Qhs r.Machine) fun(x0:Q00)=> .cn (decide (40*(0+List.length r.Log)≤140737488355328)) (.cn (decide (32*(0+List.length r.Queue)≤140737488355328)) (.lf ({Machine:=x0,Clock:=r.Clock,Log:=r.Log,Queue:=r.Queue}))))
def Qlx(r:Q01):Q01:=(Qcu r).m
abbrev Qk5(r:Q01):Prop:=(Qcu r).p
def Zbh:Q0b:=mkP 243 [] true [.agg Q01.sig] [] (fun args rows=>Qk5 (Q01.of (args.getD 0 .dead).cells)) (fun args rows=>Qlx (Q01.of (args.getD 0 .dead).cells)) (fun X=> .agg (Q01.cellsW X (.all 0) (.all 1) (.all 2))) (fun X=>[⟨false,27,1, .ints .u32 X.Machine.Mem⟩,⟨false,253,4, .recs .apiEntry X.Log⟩,⟨false,63,3, .recs .apiEvent X.Queue⟩])
theorem Qt3:Q04 Tryz.prog Zbh:=Q0k Q0i Q0j (.cons Qk2 (.nil)) Tryz.func243 Tryz.call243 (fun args rows=>Qcu (Q01.of (args.getD 0 .dead).cells)) [.row 27 1 (.ints .u32), .row 253 4 (.recs .apiEntry), .row 63 3 (.recs .apiEvent)] [] 2 (fun _ _ _=>by kernel_rfl) (fun _ _=>rfl) (fun _ _ h=>h) (fun _ X=>by kernel_rfl)
def Qpv(e:Q0e):Tree Bool:=
.br (e.Kind==1) (.lf (decide (e.Data=[]))) (.br (e.Kind==6) (.lf (decide (e.Data=[]))) (.br (e.Kind==2) (.br (e.N==0) (.lf (decide (e.Data=[]))) (.lf false)) (.br (e.Kind==3) (.br (decide (e.N≤255)) (.lf (decide (e.Data=[]))) (.lf false)) (.br (e.Kind==4) (.br (decide (e.N≤1)) (.br (decide (e.Data=[])) (.lf true) (.br (e.N==1) (.lf ((↑(List.length e.Data):Int)==(128:Int))) (.lf false))) (.lf false)) (.br (e.Kind==5) (.br (e.N==0) (.br (decide ((↑(List.length e.Data):Int)≥(1:Int))) (.lf (decide ((↑(List.length e.Data):Int)≤(128:Int)))) (.lf false)) (.lf false)) (.lf false))))))
def Qjh(e:Q0e):Bool:=(Qpv e).m
def Z41:Q0b:=mkR 244 [] true [.agg Q0e.sig] [] (fun args rows=>Qjh (Q0e.of (args.getD 0 .dead).cells)) (fun X=> .bool X) (fun X=>[])
theorem Qzi:Q04 Tryz.prog Z41:=Q0v Q0i Q0j (.nil) Tryz.func244 Tryz.call244 (fun args rows=>Qpv (Q0e.of (args.getD 0 .dead).cells)) [] [] 2 (fun _ _ _=>by kernel_rfl) (fun _ _=>rfl) (fun _ _=>Tree.free_ok (by kernel_rfl)) (fun _ X=>by kernel_rfl)
def Q7v(r:Q01)(e:Q0e):Tree (Q01×Bool):=
.an (Qk5 r) (.lv (Qlx r) fun(x0:Q01)=> .lv (Qjh e) fun(x1:Bool)=> .br (!x1) (.lf (x0,false)) (.br (e.Kind==1) (.lf (x0,false)) (.br (decide ((↑(List.length x0.Queue):Int)≥(16:Int))) (.lf (x0,false)) (.cn (decide (32*(List.length x0.Queue+1)≤140737488355328)) (.lf ({Machine:=x0.Machine,Clock:=x0.Clock,Log:=x0.Log,Queue:=x0.Queue++[e]},true))))))
def Q6w(r:Q01)(e:Q0e):(Q01×Bool):=(Q7v r e).m
abbrev Qkg(r:Q01)(e:Q0e):Prop:=(Q7v r e).p
def Qzu:Q0b:=mkP 199 [] true [.agg Q01.sig, .agg Q0e.sig] [] (fun args rows=>Qkg (Q01.of (args.getD 0 .dead).cells) (Q0e.of (args.getD 1 .dead).cells)) (fun args rows=>Q6w (Q01.of (args.getD 0 .dead).cells) (Q0e.of (args.getD 1 .dead).cells)) (fun X=> .tup [.agg (Q01.cellsW (X.1) (.all 0) (.all 1) (.all 2)), .bool (X.2)]) (fun X=>[⟨false,27,1, .ints .u32 (X.1).Machine.Mem⟩,⟨false,253,4, .recs .apiEntry (X.1).Log⟩,⟨false,63,3, .recs .apiEvent (X.1).Queue⟩])
theorem Qvw:Q04 Tryz.prog Qzu:=Q0k Q0i Q0j (.cons Qt3 (.cons Qzi (.nil))) Tryz.func199 Tryz.call199 (fun args rows=>Q7v (Q01.of (args.getD 0 .dead).cells) (Q0e.of (args.getD 1 .dead).cells)) [.row 27 1 (.ints .u32), .row 253 4 (.recs .apiEntry), .row 63 3 (.recs .apiEvent)] [] 2 (fun _ _ _=>by kernel_rfl) (fun _ _=>rfl) (fun _ _ h=>h) (fun _ X=>by kernel_rfl)
def Qdb(n:Int):Tree Q0e:=
.lv (Qa9 n 2) fun(x0:Int)=> .br (Int.tmod x0 (7:Int)==(0:Int)) (.lf ({Kind:=2,N:=0,Data:=[]})) (.br (Int.tmod x0 (7:Int)==(1:Int)) (.lf ({Kind:=3,N:=wrap u32 (iand i64 (ishr i64 x0 8) 255),Data:=[]})) (.br (Int.tmod x0 (7:Int)==(2:Int)) (.lf ({Kind:=3,N:=wrap u32 (iand i64 (ishr i64 x0 8) 255),Data:=[]})) (.br (Int.tmod x0 (7:Int)==(3:Int)) (.lf ({Kind:=4,N:=1,Data:=[]})) (.br (Int.tmod x0 (7:Int)==(4:Int)) (.an (Q96 x0 128) (.lv (Qyc x0 128) fun(x1:List UInt8)=> .lf ({Kind:=4,N:=1,Data:=x1}))) (.br (Int.tmod x0 (7:Int)==(5:Int)) (let E1:=wrap i64 (1+Int.tmod (ishr i64 x0 8) 40); .an (Q96 x0 E1) (.lv (Qyc x0 E1) fun(x2:List UInt8)=> .lf ({Kind:=5,N:=0,Data:=x2}))) (.br (Int.tmod (ishr i64 x0 8) (4:Int)==(0:Int)) (.lf ({Kind:=4,N:=0,Data:=[]})) (.lf ({Kind:=6,N:=wrap u32 (Int.tmod (ishr i64 x0 8) 3),Data:=[]}))))))))
def Qfe(n:Int):Q0e:=(Qdb n).m
abbrev Qi2(n:Int):Prop:=(Qdb n).p
def Z6t:Q0b:=mkP 30 [] true [.one (.int .i64)] [] (fun args rows=>Qi2 (argI args 0)) (fun args rows=>Qfe (argI args 0)) (fun X=> .agg (Q0e.cells X)) (fun X=>[])
theorem Qqq:Q04 Tryz.prog Z6t:=Q0k Q0i Q0j (.cons Qjt (.cons Z9q (.nil))) Tryz.func30 Tryz.call30 (fun args rows=>Qdb (argI args 0)) [] [] 2 (fun _ _ _=>by kernel_rfl) (fun _ _=>rfl) (fun _ _ h=>h) (fun _ X=>by kernel_rfl)
def Qlt(m:(List Int)):Tree Int:=
.br (Int.tmod (↑(List.length m):Int) (32:Int) !=(0:Int)) (.lf 0) (.br (decide ((↑(List.length m):Int)>(1024:Int))) (.lf 0) (.lf (wrap i64 (Int.tdiv (↑(List.length m):Int) 32))))
def Q3c(m:(List Int)):Int:=(Qlt m).m
def Z75:Q0b:=mkR 79 [] true [.one (.ints .u32)] [] (fun args rows=>Q3c (argL .u32 args 0)) (fun X=> .int .i64 X) (fun X=>[])
theorem Qbf:Q04 Tryz.prog Z75:=Q0v Q0i Q0j (.nil) Tryz.func79 Tryz.call79 (fun args rows=>Qlt (argL .u32 args 0)) [] [] 2 (fun _ _ _=>by kernel_rfl) (fun _ _=>rfl) (fun _ _=>Tree.free_ok (by kernel_rfl)) (fun _ X=>by kernel_rfl)
def Qif(c:Q0c):Tree Bool:=
.lf (decide ((↑(List.length c.Keys):Int)≤(16:Int)))
def Qfv(c:Q0c):Bool:=(Qif c).m
def Qrp:Q0b:=mkR 86 [] true [.agg Q0c.sig] [] (fun args rows=>Qfv (Q0c.of (args.getD 0 .dead).cells)) (fun X=> .bool X) (fun X=>[])
theorem Qop:Q04 Tryz.prog Qrp:=Q0v Q0i Q0j (.nil) Tryz.func86 Tryz.call86 (fun args rows=>Qif (Q0c.of (args.getD 0 .dead).cells)) [] [] 2 (fun _ _ _=>by kernel_rfl) (fun _ _=>rfl) (fun _ _=>Tree.free_ok (by kernel_rfl)) (fun _ X=>by kernel_rfl)
def Qfp(t:Q0h):Tree Bool:=
.br t.Armed (.br t.Fired (.lf false) (.br t.Armed (.lf (t.Deadline !=0)) (.br t.Fired (.lf true) (.lf (t.Deadline==0))))) (.br t.Armed (.lf (t.Deadline !=0)) (.br t.Fired (.lf true) (.lf (t.Deadline==0))))
def Qb0(t:Q0h):Bool:=(Qfp t).m
def Qw2:Q0b:=mkR 87 [] true [.agg Q0h.sig] [] (fun args rows=>Qb0 (Q0h.of (args.getD 0 .dead).cells)) (fun X=> .bool X) (fun X=>[])
theorem Qv2:Q04 Tryz.prog Qw2:=Q0v Q0i Q0j (.nil) Tryz.func87 Tryz.call87 (fun args rows=>Qfp (Q0h.of (args.getD 0 .dead).cells)) [] [] 2 (fun _ _ _=>by kernel_rfl) (fun _ _=>rfl) (fun _ _=>Tree.free_ok (by kernel_rfl)) (fun _ X=>by kernel_rfl)
def Qi(d0:Q0d)(pages:Int):Tree Bool:=
.br (decide (d0.Blocks>64)) (.lf false) (.br (decide (d0.State<0)) (.lf false) (.br (decide (d0.State>3)) (.lf false) (.br (d0.State !=1) (.br (d0.Cmd==0) (.br (d0.OpBlock==0) (.br (d0.OpFrame==0) (.lf (decide (d0.OpData=[]))) (.lf false)) (.lf false)) (.lf false)) (.br (decide (d0.OpBlock≥d0.Blocks)) (.lf false) (.br (decide (wrap i64 d0.OpFrame≥pages)) (.lf false) (.br (d0.Cmd==1) (.br (decide (d0.OpData=[])) (.lf true) (.br (d0.Cmd==2) (.lf ((↑(List.length d0.OpData):Int)==(128:Int))) (.lf false))) (.br (d0.Cmd==2) (.lf ((↑(List.length d0.OpData):Int)==(128:Int))) (.lf false))))))))
def Qdn(d0:Q0d)(pages:Int):Bool:=(Qi d0 pages).m
def Z0l:Q0b:=mkR 88 [] true [.agg Q0d.sig, .one (.int .i64)] [] (fun args rows=>Qdn (Q0d.of (args.getD 0 .dead).cells) (argI args 1)) (fun X=> .bool X) (fun X=>[])
theorem Qvz:Q04 Tryz.prog Z0l:=Q0v Q0i Q0j (.nil) Tryz.func88 Tryz.call88 (fun args rows=>Qi (Q0d.of (args.getD 0 .dead).cells) (argI args 1)) [] [] 2 (fun _ _ _=>by kernel_rfl) (fun _ _=>rfl) (fun _ _=>Tree.free_ok (by kernel_rfl)) (fun _ X=>by kernel_rfl)
def Qjm(n:Q0m)(pages:Int):Tree Bool:=
let T1:Tree (Bool):= .br n.Received (.br (decide (n.Got≥1)) (.lf (decide (n.Got≤128))) (.lf false)) (.lf (n.Got==0)); .br n.Posted (.br n.Received (.lf false) (.br (decide (wrap i64 n.Buffer≥pages)) (.lf false) (.br (!n.Posted) (.br (n.Buffer !=0) (.lf false) T1) T1))) (.br (!n.Posted) (.br (n.Buffer !=0) (.lf false) T1) T1)
def Qge(n:Q0m)(pages:Int):Bool:=(Qjm n pages).m
def Z55:Q0b:=mkR 89 [] true [.agg Q0m.sig, .one (.int .i64)] [] (fun args rows=>Qge (Q0m.of (args.getD 0 .dead).cells) (argI args 1)) (fun X=> .bool X) (fun X=>[])
theorem Qze:Q04 Tryz.prog Z55:=Q0v Q0i Q0j (.nil) Tryz.func89 Tryz.call89 (fun args rows=>Qjm (Q0m.of (args.getD 0 .dead).cells) (argI args 1)) [] [] 2 (fun _ _ _=>by kernel_rfl) (fun _ _=>rfl) (fun _ _=>Tree.free_ok (by kernel_rfl)) (fun _ X=>by kernel_rfl)
def Qel(b:Q05)(pages:Int)(z:(Int)):Prop:=0≤z∧z≤32
def Q5k(b:Q05)(pages:Int)(z:(Int)):Nat:=(32-z).toNat
def Q4i(b:Q05)(pages:Int):Tree Bool:=
.lp inferInstance (Q5k b pages 0+1) (((rE b.Target∧rE b.Given∧True)∧rE (pages:Int)∧(rE ((nat_lit 0):Nat)∧rE ((nat_lit 0):Nat))∧rE (false:Bool)∧rE (0:Int)∧True)∧(rE b.Target∧rE b.Given∧True)∧True) 0 fun(v0:Int)=> .br (decide (v0<32)) (.cn (decide (0≤wrap u64 v0)) (let T1:Tree ((Int)⊕(Bool)):= .nx (((rE b.Target∧rE b.Given∧True)∧rE (pages:Int)∧(rE ((nat_lit 0):Nat)∧rE ((nat_lit 0):Nat))∧rE (false:Bool)∧rE ((wrap i64 (v0+1)):Int)∧True)∧(rE b.Target∧rE b.Given∧True)∧True) (Sum.inl (wrap i64 (v0+1))); .br (iand u32 (ishr u32 b.Given (wrap u64 v0)) (1:Int)==(1:Int)) (.br (decide (v0≥pages)) (.lf (Sum.inr false)) T1) T1)) (.lf (Sum.inr true))
def Q8c(b:Q05)(pages:Int):Bool:=(Q4i b pages).m
theorem Qnx(b:Q05)(pages:Int):(Q4i b pages).p:=by
 unfold Tree.p Q4i
 repeat'(first|refine w_lp (inv:=Qel b pages) (μ:=Q5k b pages) ?_ (Nat.lt_succ_self _) (fun _ _=> ?_)|exact trivial|refine w_br (fun _=> ?_) (fun _=> ?_)|refine w_cn ?_ ?_|refine w_an ?_ ?_|refine w_lv (fun _ _=> ?_)|refine w_nx ?_|refine w_lf ?_|refine And.intro ?_ ?_)
 all_goals((try simp only[Qel,Q5k]at*);((subst_vars;first|trivial|assumption|omega|((simp(config:={decide:=true,failIfUnchanged:=false}) only[Bool.and_eq_true,Bool.or_eq_true,Bool.and_eq_false_iff,Bool.or_eq_false_iff,Bool.not_eq_true',Bool.not_eq_false',Bool.not_eq_true,Bool.not_eq_false,decide_eq_true_eq,decide_eq_false_iff_not,Q65,Q4,Q60,Q3w,beq_iff_eq,beq_eq_false_iff_ne,bne_iff_ne,bne_eq_false_iff_eq,ne_eq,List.all_cons,List.all_nil,D.plain,List.length_cons,List.length_nil,List.length_append,List.length_set,List.length_replicate,IntKind.wrap_i64,IntKind.wrap_u64,IntKind.wrap_u32,IntKind.wrap_i32,IntKind.wrap_u8,true_and,and_true,or_false,false_or,or_true,true_or,not_true_eq_false,not_false_eq_true,Prod.fst,Prod.snd]at*);first|done|assumption|omega)|((simp(config:={decide:=true,failIfUnchanged:=false}) only[Bool.and_eq_true,Bool.or_eq_true,Bool.and_eq_false_iff,Bool.or_eq_false_iff,Bool.not_eq_true',Bool.not_eq_false',Bool.not_eq_true,Bool.not_eq_false,decide_eq_true_eq,decide_eq_false_iff_not,Q65,Q4,Q60,Q3w,beq_iff_eq,beq_eq_false_iff_ne,bne_iff_ne,bne_eq_false_iff_eq,ne_eq,List.all_cons,List.all_nil,D.plain,List.length_cons,List.length_nil,List.length_append,List.length_set,List.length_replicate,IntKind.wrap_i64,IntKind.wrap_u64,IntKind.wrap_u32,IntKind.wrap_i32,IntKind.wrap_u8,true_and,and_true,or_false,false_or,or_true,true_or,not_true_eq_false,not_false_eq_true,Prod.fst,Prod.snd]at*);simp only[←List.length_pos_iff]at*;omega)|(simp_all;done)|(have:= @Qi9;simp_all;try omega))))
def Qp2:LInv:={
 α:=(Int)
 F:=fun st a=>([(0,(lk st 0)),(1,(lk st 1)),(2, .ptr 0 0 0),(4,(lk st 4)),(5, .int IntKind.i64 a)],[⟨true,41,2, .gen [[(cT st 2 0),(cT st 2 1)]]⟩])
 a0:=fun st=>(lk st 5).toInt
 ex0:=fun st=>[]++[(Q0s (lk st 2) (st.rows.length+0))]
 next:=fun st=>(lk st 5).toInt
 ex:=fun st=>[]++[(Q0s (lk st 2) (st.rows.length+0))]}
def Qmy:List (Nat×LInv):=[(2,Qp2)]
def Qs2:Q0b:=mkR 90 [] true [.agg Q05.sig, .one (.int .i64)] [] (fun args rows=>Q8c (Q05.of (args.getD 0 .dead).cells) (argI args 1)) (fun X=> .bool X) (fun X=>[])
theorem Qq0:Q04 Tryz.prog Qs2:=Q0v Q0i Q0j (.nil) Tryz.func90 Tryz.call90 (fun args rows=>Q4i (Q05.of (args.getD 0 .dead).cells) (argI args 1)) [] Qmy 3 (fun _ _ _=>by kernel_rfl) (fun _ _=>rfl) (fun args rows=>Qnx (Q05.of (args.getD 0 .dead).cells) (argI args 1)) (fun _ X=>by kernel_rfl)
def Qr6(m:Q00):Tree Bool:=
.lv (Q3c m.Mem) fun(x0:Int)=> .br (decide (x0<1)) (.lf false) (.br (m.Cpu.X.a0 !=0) (.lf false) (.br (decide (m.Cpu.Csr.a0>31)) (.lf false) (.br (decide (m.Cpu.Csr.a7>31)) (.lf false) (.br (decide (m.Cpu.Csr.a6>255)) (.lf false) (.br (Int.tmod m.Cpu.Csr.a1 (4:Int) !=(0:Int)) (.lf false) (.lv (Qfv m.Console) fun(x1:Bool)=> .br (!x1) (.lf false) (.lv (Qb0 m.Timer) fun(x2:Bool)=> .br (!x2) (.lf false) (.lv (Qdn m.Disk x0) fun(x3:Bool)=> .br (!x3) (.lf false) (.lv (Qge m.Nic x0) fun(x4:Bool)=> .br (!x4) (.lf false) (.lv (Q8c m.Balloon x0) fun(x5:Bool)=> .br (!x5) (.lf false) (.br (decide (m.Count≤1152921504606846976)) (.br m.Waiting (.lf (!m.Halted)) (.lf true)) (.lf false))))))))))))
def Q9d(m:Q00):Bool:=(Qr6 m).m
def Zev:Q0b:=mkR 39 [] true [.agg Q00.sig] [] (fun args rows=>Q9d (Q00.of (args.getD 0 .dead).cells)) (fun X=> .bool X) (fun X=>[])
theorem Qjq:Q04 Tryz.prog Zev:=Q0v Q0i Q0j (.cons Qbf (.cons Qop (.cons Qv2 (.cons Qvz (.cons Qze (.cons Qq0 (.nil))))))) Tryz.func39 Tryz.call39 (fun args rows=>Qr6 (Q00.of (args.getD 0 .dead).cells)) [] [] 2 (fun _ _ _=>by kernel_rfl) (fun _ _=>rfl) (fun _ _=>Tree.free_ok (by kernel_rfl)) (fun _ X=>by kernel_rfl)
def Qxy(t:Q0h):Tree (Q0h×Bool):=
.br (!t.Armed) (.lf (t,false)) (.lf ({Armed:=false,Deadline:=t.Deadline,Fired:=true},true))
def Qq3(t:Q0h):(Q0h×Bool):=(Qxy t).m
def Zbu:Q0b:=mkR 144 [] true [.agg Q0h.sig] [] (fun args rows=>Qq3 (Q0h.of (args.getD 0 .dead).cells)) (fun X=> .tup [.agg (Q0h.cells (X.1)), .bool (X.2)]) (fun X=>[])
theorem Qt9:Q04 Tryz.prog Zbu:=Q0v Q0i Q0j (.nil) Tryz.func144 Tryz.call144 (fun args rows=>Qxy (Q0h.of (args.getD 0 .dead).cells)) [] [] 2 (fun _ _ _=>by kernel_rfl) (fun _ _=>rfl) (fun _ _=>Tree.free_ok (by kernel_rfl)) (fun _ X=>by kernel_rfl)
def Qgq(c:Q0c)(b:Int):Tree (Q0c×Bool):=
.br (decide ((↑(List.length c.Keys):Int)≥(16:Int))) (.lf (c,false)) (.cn (decide (List.length c.Keys+1≤maxLen)) (.lf ({Keys:=c.Keys++[(fun(n:Int)=>UInt8.ofNat (Int.toNat n)) b]},true)))
def Qpg(c:Q0c)(b:Int):(Q0c×Bool):=(Qgq c b).m
abbrev Qk0(c:Q0c)(b:Int):Prop:=(Qgq c b).p
def Zav:Q0b:=mkP 145 [] true [.agg Q0c.sig, .one (.int .u8)] [] (fun args rows=>Qk0 (Q0c.of (args.getD 0 .dead).cells) (argI args 1)) (fun args rows=>Qpg (Q0c.of (args.getD 0 .dead).cells) (argI args 1)) (fun X=> .tup [.agg (Q0c.cells (X.1)), .bool (X.2)]) (fun X=>[])
theorem Qta:Q04 Tryz.prog Zav:=Q0k Q0i Q0j (.nil) Tryz.func145 Tryz.call145 (fun args rows=>Qgq (Q0c.of (args.getD 0 .dead).cells) (argI args 1)) [] [] 2 (fun _ _ _=>by kernel_rfl) (fun _ _=>rfl) (fun _ _ h=>h) (fun _ X=>by kernel_rfl)
def Qg7(m:(List Int))(frame:Int):Tree Bool:=
.lv (Q3c m) fun(x0:Int)=> .lf (decide (wrap u64 frame<wrap u64 x0))
def Q1p(m:(List Int))(frame:Int):Bool:=(Qg7 m frame).m
def Zay:Q0b:=mkR 202 [] true [.one (.ints .u32), .one (.int .u32)] [] (fun args rows=>Q1p (argL .u32 args 0) (argI args 1)) (fun X=> .bool X) (fun X=>[])
theorem Qdv:Q04 Tryz.prog Zay:=Q0v Q0i Q0j (.cons Qbf (.nil)) Tryz.func202 Tryz.call202 (fun args rows=>Qg7 (argL .u32 args 0) (argI args 1)) [] [] 2 (fun _ _ _=>by kernel_rfl) (fun _ _=>rfl) (fun _ _=>Tree.free_ok (by kernel_rfl)) (fun _ X=>by kernel_rfl)
def Qci(m:(List Int))(addr:Int)(size:Int)(v:Int):Tree (List Int):=
let E1:=Nat.beq 1 1&&Nat.blt 0 1&&decide (0≤wrap u32 (Int.tdiv addr 4)∧wrap u32 (Int.tdiv addr 4)<(↑(List.length m):Int));let E2:=Int.toNat (wrap u32 (Int.tdiv addr 4)); .br (size==4) (.cn E1 (.lf (List.set m E2 v))) (.cn E1 (let E3:=decide (0≤wrap u32 (8*Int.tmod addr 4)); .cn E3 (.cn E3 (.cn E1 (.lf (List.set m E2 (ior u32 (Qey u32 (List.getD m E2 0) (ishl u32 255 (wrap u32 (8*Int.tmod addr 4)))) (ishl u32 (iand u32 v 255) (wrap u32 (8*Int.tmod addr 4))))))))))
def Q9m(m:(List Int))(addr:Int)(size:Int)(v:Int):(List Int):=(Qci m addr size v).m
abbrev Qdp(m:(List Int))(addr:Int)(size:Int)(v:Int):Prop:=(Qci m addr size v).p
def Zgt:Q0b:=mkP 237 [true,false,false,false] true [.one (.row 0), .one (.int .u32), .one (.int .i64), .one (.int .u32)] [.arr 27 1 (.ints .u32)] (fun args rows=>Qdp (rowL .u32 rows 0) (argI args 1) (argI args 2) (argI args 3)) (fun args rows=>Q9m (rowL .u32 rows 0) (argI args 1) (argI args 2) (argI args 3)) (fun X=> .tup []) (fun X=>[⟨false,27,1, .ints .u32 X⟩])
theorem Qw6:Q04 Tryz.prog Zgt:=Q0k Q0i Q0j (.nil) Tryz.func237 Tryz.call237 (fun args rows=>Qci (rowL .u32 rows 0) (argI args 1) (argI args 2) (argI args 3)) [] [] 2 (fun _ _ _=>by kernel_rfl) (fun _ _=>rfl) (fun _ _ h=>h) (fun _ X=>by kernel_rfl)
def Qgk(m:(List Int))(frame:Int)(s:(List UInt8))(z:(Int)×(List Int)):Nat:=(128-z.1).toNat
def Q8x(m:(List Int))(frame:Int)(s:(List UInt8)):Tree (List Int):=
.lp inferInstance (Qgk m frame s (0,m)+1) ((True∧rE (frame:Int)∧rE (s:List UInt8)∧rE (0:Int)∧True)∧rE (m:List Int)∧True) (0,m) fun(v0:Int×List Int)=> .br (decide (v0.fst<(↑(List.length s):Int))) (.br (decide (v0.fst<128)) (.cn (decide (0≤v0.fst∧v0.fst<(↑(List.length s):Int))) (let E1:=wrap u32 (↑(UInt8.toNat (List.getD s (Int.toNat v0.fst) (0:UInt8))):Int);let E2:=wrap u32 (wrap i64 (wrap i64 (frame*128)+v0.fst)); .an (Qdp v0.snd E2 1 E1) (.lv (Q9m v0.snd E2 1 E1) fun(x0:List Int)=> .nx ((True∧rE (frame:Int)∧rE (s:List UInt8)∧rE ((wrap i64 (v0.fst+1)):Int)∧True)∧rE (x0:List Int)∧True) (Sum.inl (wrap i64 (v0.fst+1),x0))))) (.lf (Sum.inr v0.snd))) (.lf (Sum.inr v0.snd))
def Qj5(m:(List Int))(frame:Int)(s:(List UInt8)):(List Int):=(Q8x m frame s).m
abbrev Qjs(m:(List Int))(frame:Int)(s:(List UInt8)):Prop:=(Q8x m frame s).p
def Z7i:LInv:={
 α:=(Int)×(List Int)
 F:=fun st a=>([(0, .all 0),(1,(lk st 1)),(2,(lk st 2)),(6, .int IntKind.i64 a.1)],[⟨false,27,1, .ints IntKind.u32 a.2⟩])
 a0:=fun st=>((lk st 6).toInt,(Q56 st.rows 0))
 ex0:=fun st=>[0]++[]
 next:=fun st=>((lk st 6).toInt,(Q56 st.rows 0))
 ex:=fun st=>[0]++[]}
def Qzh:List (Nat×LInv):=[(1,Z7i)]
def Zce:Q0b:=mkP 203 [true,false,false] true [.one (.row 0), .one (.int .i64), .one (.str)] [.arr 27 1 (.ints .u32)] (fun args rows=>Qjs (rowL .u32 rows 0) (argI args 1) (argS args 2)) (fun args rows=>Qj5 (rowL .u32 rows 0) (argI args 1) (argS args 2)) (fun X=> .tup []) (fun X=>[⟨false,27,1, .ints .u32 X⟩])
theorem Qth:Q04 Tryz.prog Zce:=Q0k Q0i Q0j (.cons Qw6 (.nil)) Tryz.func203 Tryz.call203 (fun args rows=>Q8x (rowL .u32 rows 0) (argI args 1) (argS args 2)) [] Qzh 3 (fun _ _ _=>by kernel_rfl) (fun _ _=>rfl) (fun _ _ h=>h) (fun _ X=>by kernel_rfl)
def Q9f(d0:Q0d)(m:(List Int))(e:Q0e):Tree (Q0d×Bool×(List Int)):=
.br (d0.State !=1) (.lf (d0,false,m)) (.br (e.Kind !=4) (.lf (d0,false,m)) (.br (decide (e.N>1)) (.lf (d0,false,m)) (let E4:=({Blocks:=d0.Blocks,Block:=d0.Block,Frame:=d0.Frame,State:=2,Cmd:=0,OpBlock:=0,OpFrame:=0,OpData:=[]}:Q0d);let E5:=({Blocks:=d0.Blocks,Block:=d0.Block,Frame:=d0.Frame,State:=3,Cmd:=0,OpBlock:=0,OpFrame:=0,OpData:=[]}:Q0d);let T2:Tree ((Q0d×Bool×(List Int))):= .br (e.N==1) (.lf (E4,true,m)) (.lf (E5,true,m));let E6:=decide ((↑(List.length e.Data):Int)>(0:Int)); .br (e.N==1) (let T1:Tree ((Q0d×Bool×(List Int))):= .br (d0.Cmd==1) (.an (Qjs m (wrap i64 d0.OpFrame) e.Data) (.lv (Qj5 m (wrap i64 d0.OpFrame) e.Data) fun(x1:List Int)=> .br (e.N==1) (.lf (E4,true,x1)) (.lf (E5,true,x1)))) T2;let T3:Tree ((Q0d×Bool×(List Int))):= .br (!d0.Cmd==1) (.br E6 (.lf (d0,false,m)) T1) T1; .br (d0.Cmd==1) (.br ((↑(List.length e.Data):Int) !=(128:Int)) (.lf (d0,false,m)) (.lv (Q1p m d0.OpFrame) fun(x0:Bool)=> .br (!x0) (.lf (d0,false,m)) T3)) T3) (.br E6 (.lf (d0,false,m)) T2))))
def Qaj(d0:Q0d)(m:(List Int))(e:Q0e):(Q0d×Bool×(List Int)):=(Q9f d0 m e).m
abbrev Qg8(d0:Q0d)(m:(List Int))(e:Q0e):Prop:=(Q9f d0 m e).p
def Z3l:Q0b:=mkP 146 [false,true,false] true [.agg Q0d.sig, .one (.row 0), .agg Q0e.sig] [.arr 27 1 (.ints .u32)] (fun args rows=>Qg8 (Q0d.of (args.getD 0 .dead).cells) (rowL .u32 rows 0) (Q0e.of (args.getD 2 .dead).cells)) (fun args rows=>Qaj (Q0d.of (args.getD 0 .dead).cells) (rowL .u32 rows 0) (Q0e.of (args.getD 2 .dead).cells)) (fun X=> .tup [.agg (Q0d.cells (X.1)), .bool (X.2.1)]) (fun X=>[⟨false,27,1, .ints .u32 (X.2.2)⟩])
theorem Qnd:Q04 Tryz.prog Z3l:=Q0k Q0i Q0j (.cons Qdv (.cons Qth (.nil))) Tryz.func146 Tryz.call146 (fun args rows=>Q9f (Q0d.of (args.getD 0 .dead).cells) (rowL .u32 rows 0) (Q0e.of (args.getD 2 .dead).cells)) [] [] 2 (fun _ _ _=>by kernel_rfl) (fun _ _=>rfl) (fun _ _ h=>h) (fun _ X=>by kernel_rfl)
def Q9c(n:Q0m)(m:(List Int))(frame:(List UInt8)):Tree (Q0m×Bool×(List Int)):=
.br (!n.Posted) (.lf (n,false,m)) (.br (decide ((↑(List.length frame):Int)<(1:Int))) (.lf (n,false,m)) (.br (decide ((↑(List.length frame):Int)>(128:Int))) (.lf (n,false,m)) (.lv (Q1p m n.Buffer) fun(x0:Bool)=> .br (!x0) (.lf (n,false,m)) (.an (Qjs m (wrap i64 n.Buffer) frame) (.lv (Qj5 m (wrap i64 n.Buffer) frame) fun(x1:List Int)=> .lf ({Frame:=n.Frame,Len:=n.Len,Posted:=false,Buffer:=0,Received:=true,Got:=wrap u32 (↑(List.length frame):Int)},true,x1))))))
def Qad(n:Q0m)(m:(List Int))(frame:(List UInt8)):(Q0m×Bool×(List Int)):=(Q9c n m frame).m
abbrev Qfo(n:Q0m)(m:(List Int))(frame:(List UInt8)):Prop:=(Q9c n m frame).p
def Z4f:Q0b:=mkP 147 [false,true,false] true [.agg Q0m.sig, .one (.row 0), .one (.str)] [.arr 27 1 (.ints .u32)] (fun args rows=>Qfo (Q0m.of (args.getD 0 .dead).cells) (rowL .u32 rows 0) (argS args 2)) (fun args rows=>Qad (Q0m.of (args.getD 0 .dead).cells) (rowL .u32 rows 0) (argS args 2)) (fun X=> .tup [.agg (Q0m.cells (X.1)), .bool (X.2.1)]) (fun X=>[⟨false,27,1, .ints .u32 (X.2.2)⟩])
theorem Qn7:Q04 Tryz.prog Z4f:=Q0k Q0i Q0j (.cons Qdv (.cons Qth (.nil))) Tryz.func147 Tryz.call147 (fun args rows=>Q9c (Q0m.of (args.getD 0 .dead).cells) (rowL .u32 rows 0) (argS args 2)) [] [] 2 (fun _ _ _=>by kernel_rfl) (fun _ _=>rfl) (fun _ _ h=>h) (fun _ X=>by kernel_rfl)
def Q6u(m:Q00)(e:Q0e):Tree (Bool×Q00):=
.br m.Halted (.lf (false,m)) (let T1:Tree ((Bool×Q00)):= .br (e.Kind==4) (.an (Qg8 m.Disk m.Mem e) (.lv (Qaj m.Disk m.Mem e) fun(x2:Q0d×Bool×List Int)=> .lf (x2.snd.fst,{Cpu:=m.Cpu,Mem:=x2.snd.snd,Console:=m.Console,Timer:=m.Timer,Disk:=x2.fst,Nic:=m.Nic,Balloon:=m.Balloon,Count:=m.Count,Waiting:=m.Waiting,Halted:=m.Halted}))) (let T3:Tree ((Bool×Q00)):= .br (e.Kind==6) (.br (decide (e.Data=[])) (.lf (true,{Cpu:=m.Cpu,Mem:=m.Mem,Console:=m.Console,Timer:=m.Timer,Disk:=m.Disk,Nic:=m.Nic,Balloon:={Target:=e.N,Given:=m.Balloon.Given},Count:=m.Count,Waiting:=m.Waiting,Halted:=m.Halted})) (.lf (false,m))) (.lf (false,m)); .br (e.Kind==5) (.br (e.N==0) (.an (Qfo m.Nic m.Mem e.Data) (.lv (Qad m.Nic m.Mem e.Data) fun(x3:Q0m×Bool×List Int)=> .lf (x3.snd.fst,{Cpu:=m.Cpu,Mem:=x3.snd.snd,Console:=m.Console,Timer:=m.Timer,Disk:=m.Disk,Nic:=x3.fst,Balloon:=m.Balloon,Count:=m.Count,Waiting:=m.Waiting,Halted:=m.Halted}))) T3) T3);let T2:Tree ((Bool×Q00)):= .br (e.Kind==3) (.br (decide (e.N≤255)) (.br (decide (e.Data=[])) (.an (Qk0 m.Console (wrap u8 e.N)) (.lv (Qpg m.Console (wrap u8 e.N)) fun(x1:Q0c×Bool)=> .lf (x1.snd,{Cpu:=m.Cpu,Mem:=m.Mem,Console:=x1.fst,Timer:=m.Timer,Disk:=m.Disk,Nic:=m.Nic,Balloon:=m.Balloon,Count:=m.Count,Waiting:=m.Waiting,Halted:=m.Halted}))) T1) T1) T1; .br (e.Kind==2) (.br (e.N==0) (.br (decide (e.Data=[])) (.lv (Qq3 m.Timer) fun(x0:Q0h×Bool)=> .lf (x0.snd,{Cpu:=m.Cpu,Mem:=m.Mem,Console:=m.Console,Timer:=x0.fst,Disk:=m.Disk,Nic:=m.Nic,Balloon:=m.Balloon,Count:=m.Count,Waiting:=m.Waiting,Halted:=m.Halted})) T2) T2) T2)
def Q13(m:Q00)(e:Q0e):(Bool×Q00):=(Q6u m e).m
abbrev Qno(m:Q00)(e:Q0e):Prop:=(Q6u m e).p
def Z6w:Q0b:=mkP 69 [true,false] true [.ptr 0, .agg Q0e.sig] [.box 44 49 (Q00.sigW (.row 1)), .arr 27 1 (.ints .u32)] (fun args rows=>Qno (Q00.ofW (rows.getD 0 default).cs (rowL .u32 rows 1)) (Q0e.of (args.getD 1 .dead).cells)) (fun args rows=>Q13 (Q00.ofW (rows.getD 0 default).cs (rowL .u32 rows 1)) (Q0e.of (args.getD 1 .dead).cells)) (fun X=> .bool (X.1)) (fun X=>[⟨true,44,49, .gen [(Q00.cellsW (X.2) (.all 1))]⟩,⟨false,27,1, .ints .u32 (X.2).Mem⟩])
theorem Qqb:Q04 Tryz.prog Z6w:=Q0k Q0i Q0j (.cons Qt9 (.cons Qta (.cons Qnd (.cons Qn7 (.nil))))) Tryz.func69 Tryz.call69 (fun args rows=>Q6u (Q00.ofW (rows.getD 0 default).cs (rowL .u32 rows 1)) (Q0e.of (args.getD 1 .dead).cells)) [.row 27 1 (.ints .u32)] [] 2 (fun _ _ _=>by kernel_rfl) (fun _ _=>rfl) (fun _ _ h=>h) (fun _ X=>by kernel_rfl)
def Q7y(m:Q01)(e:Q0e):Tree (Bool×Q01):=
.br m.Machine.Halted (.lf (false,m)) (let T1:Tree ((Bool×Q01)):= .br (e.Kind==4) (.an (Qg8 m.Machine.Disk m.Machine.Mem e) (.lv (Qaj m.Machine.Disk m.Machine.Mem e) fun(x2:Q0d×Bool×List Int)=> .lf (x2.snd.fst,{Machine:={Cpu:=m.Machine.Cpu,Mem:=x2.snd.snd,Console:=m.Machine.Console,Timer:=m.Machine.Timer,Disk:=x2.fst,Nic:=m.Machine.Nic,Balloon:=m.Machine.Balloon,Count:=m.Machine.Count,Waiting:=m.Machine.Waiting,Halted:=m.Machine.Halted},Clock:=m.Clock,Log:=m.Log,Queue:=m.Queue}))) (let T3:Tree ((Bool×Q01)):= .br (e.Kind==6) (.br (decide (e.Data=[])) (.lf (true,{Machine:={Cpu:=m.Machine.Cpu,Mem:=m.Machine.Mem,Console:=m.Machine.Console,Timer:=m.Machine.Timer,Disk:=m.Machine.Disk,Nic:=m.Machine.Nic,Balloon:={Target:=e.N,Given:=m.Machine.Balloon.Given},Count:=m.Machine.Count,Waiting:=m.Machine.Waiting,Halted:=m.Machine.Halted},Clock:=m.Clock,Log:=m.Log,Queue:=m.Queue})) (.lf (false,m))) (.lf (false,m)); .br (e.Kind==5) (.br (e.N==0) (.an (Qfo m.Machine.Nic m.Machine.Mem e.Data) (.lv (Qad m.Machine.Nic m.Machine.Mem e.Data) fun(x3:Q0m×Bool×List Int)=> .lf (x3.snd.fst,{Machine:={Cpu:=m.Machine.Cpu,Mem:=x3.snd.snd,Console:=m.Machine.Console,Timer:=m.Machine.Timer,Disk:=m.Machine.Disk,Nic:=x3.fst,Balloon:=m.Machine.Balloon,Count:=m.Machine.Count,Waiting:=m.Machine.Waiting,Halted:=m.Machine.Halted},Clock:=m.Clock,Log:=m.Log,Queue:=m.Queue}))) T3) T3);let T2:Tree ((Bool×Q01)):= .br (e.Kind==3) (.br (decide (e.N≤255)) (.br (decide (e.Data=[])) (.an (Qk0 m.Machine.Console (wrap u8 e.N)) (.lv (Qpg m.Machine.Console (wrap u8 e.N)) fun(x1:Q0c×Bool)=> .lf (x1.snd,{Machine:={Cpu:=m.Machine.Cpu,Mem:=m.Machine.Mem,Console:=x1.fst,Timer:=m.Machine.Timer,Disk:=m.Machine.Disk,Nic:=m.Machine.Nic,Balloon:=m.Machine.Balloon,Count:=m.Machine.Count,Waiting:=m.Machine.Waiting,Halted:=m.Machine.Halted},Clock:=m.Clock,Log:=m.Log,Queue:=m.Queue}))) T1) T1) T1; .br (e.Kind==2) (.br (e.N==0) (.br (decide (e.Data=[])) (.lv (Qq3 m.Machine.Timer) fun(x0:Q0h×Bool)=> .lf (x0.snd,{Machine:={Cpu:=m.Machine.Cpu,Mem:=m.Machine.Mem,Console:=m.Machine.Console,Timer:=x0.fst,Disk:=m.Machine.Disk,Nic:=m.Machine.Nic,Balloon:=m.Machine.Balloon,Count:=m.Machine.Count,Waiting:=m.Machine.Waiting,Halted:=m.Machine.Halted},Clock:=m.Clock,Log:=m.Log,Queue:=m.Queue})) T2) T2) T2)
def Qhq(m:Q01)(e:Q0e):(Bool×Q01):=(Q7y m e).m
abbrev Qke(m:Q01)(e:Q0e):Prop:=(Q7y m e).p
def Qzq:Q0b:=mkP 69 [true,false] true [.ptr 0, .agg Q0e.sig] [.box 114 52 (Q01.sigW (.row 1) (.row 2) (.row 3)), .arr 27 1 (.ints .u32), .arr 253 4 (.recs .apiEntry), .arr 63 3 (.recs .apiEvent)] (fun args rows=>Qke (Q01.ofW (rows.getD 0 default).cs (rowL .u32 rows 1) (rowR .apiEntry rows 2) (rowR .apiEvent rows 3)) (Q0e.of (args.getD 1 .dead).cells)) (fun args rows=>Qhq (Q01.ofW (rows.getD 0 default).cs (rowL .u32 rows 1) (rowR .apiEntry rows 2) (rowR .apiEvent rows 3)) (Q0e.of (args.getD 1 .dead).cells)) (fun X=> .bool (X.1)) (fun X=>[⟨true,114,52, .gen [(Q01.cellsW (X.2) (.all 1) (.all 2) (.all 3))]⟩,⟨false,27,1, .ints .u32 (X.2).Machine.Mem⟩,⟨false,253,4, .recs .apiEntry (X.2).Log⟩,⟨false,63,3, .recs .apiEvent (X.2).Queue⟩])
theorem Qwx:Q04 Tryz.prog Qzq:=Q0k Q0i Q0j (.cons Qt9 (.cons Qta (.cons Qnd (.cons Qn7 (.nil))))) Tryz.func69 Tryz.call69 (fun args rows=>Q7y (Q01.ofW (rows.getD 0 default).cs (rowL .u32 rows 1) (rowR .apiEntry rows 2) (rowR .apiEvent rows 3)) (Q0e.of (args.getD 1 .dead).cells)) [.row 27 1 (.ints .u32), .row 253 4 (.recs .apiEntry), .row 63 3 (.recs .apiEvent)] [] 2 (fun _ _ _=>by kernel_rfl) (fun _ _=>rfl) (fun _ _ h=>h) (fun _ X=>by kernel_rfl)
def Q6m(m:Q01)(e:Q0e):Tree (Bool×Q01):=
.an (Qke m e) (.lv (Qhq m e) fun(x0:Bool×Q01)=> .lf (x0.fst,x0.snd))
def Qet(m:Q01)(e:Q0e):(Bool×Q01):=(Q6m m e).m
abbrev Qil(m:Q01)(e:Q0e):Prop:=(Q6m m e).p
def Qvt:Q0b:=mkP 263 [true,false] true [.ptr 0, .agg Q0e.sig] [.box 114 52 (Q01.sigW (.row 1) (.row 2) (.row 3)), .arr 27 1 (.ints .u32), .arr 253 4 (.recs .apiEntry), .arr 63 3 (.recs .apiEvent)] (fun args rows=>Qil (Q01.ofW (rows.getD 0 default).cs (rowL .u32 rows 1) (rowR .apiEntry rows 2) (rowR .apiEvent rows 3)) (Q0e.of (args.getD 1 .dead).cells)) (fun args rows=>Qet (Q01.ofW (rows.getD 0 default).cs (rowL .u32 rows 1) (rowR .apiEntry rows 2) (rowR .apiEvent rows 3)) (Q0e.of (args.getD 1 .dead).cells)) (fun X=> .bool (X.1)) (fun X=>[⟨true,114,52, .gen [(Q01.cellsW (X.2) (.all 1) (.all 2) (.all 3))]⟩,⟨false,27,1, .ints .u32 (X.2).Machine.Mem⟩,⟨false,253,4, .recs .apiEntry (X.2).Log⟩,⟨false,63,3, .recs .apiEvent (X.2).Queue⟩])
theorem Qus:Q04 Tryz.prog Qvt:=Q0k Q0i Q0j (.cons Qwx (.nil)) Tryz.func263 Tryz.call263 (fun args rows=>Q6m (Q01.ofW (rows.getD 0 default).cs (rowL .u32 rows 1) (rowR .apiEntry rows 2) (rowR .apiEvent rows 3)) (Q0e.of (args.getD 1 .dead).cells)) [.row 27 1 (.ints .u32), .row 253 4 (.recs .apiEntry), .row 63 3 (.recs .apiEvent)] [] 2 (fun _ _ _=>by kernel_rfl) (fun _ _=>rfl) (fun _ _ h=>h) (fun _ X=>by kernel_rfl)
def Q9i(r:Q01)(e:Q0e):Tree Q01:=
.an (Qil r e) (.lv (Qet r e) fun(x0:Bool×Q01)=> .br x0.fst (.cn (decide (40*(List.length x0.snd.Log+1)≤140737488355328)) (.lf ({Machine:=x0.snd.Machine,Clock:=x0.snd.Clock,Log:=x0.snd.Log++[{At:=x0.snd.Machine.Count,Event:=e}],Queue:=x0.snd.Queue}))) (.lf x0.snd))
def Qgh(r:Q01)(e:Q0e):Q01:=(Q9i r e).m
abbrev Qgz(r:Q01)(e:Q0e):Prop:=(Q9i r e).p
def Z4d:Q0b:=mkKP 1 245 [true,false] [.ptr 0, .agg Q0e.sig] [.box 114 52 (Q01.sigW (.row 1) (.row 2) (.row 3)), .arr 27 1 (.ints .u32), .arr 253 4 (.recs .apiEntry), .arr 63 3 (.recs .apiEvent)] (fun args rows=>Qgz (Q01.ofW (rows.getD 0 default).cs (rowL .u32 rows 1) (rowR .apiEntry rows 2) (rowR .apiEvent rows 3)) (Q0e.of (args.getD 1 .dead).cells)) (fun args rows=>Qgh (Q01.ofW (rows.getD 0 default).cs (rowL .u32 rows 1) (rowR .apiEntry rows 2) (rowR .apiEvent rows 3)) (Q0e.of (args.getD 1 .dead).cells)) (fun X=> .tup []) (fun X=>[⟨true,114,52, .gen [(Q01.cellsW X (.all 1) (.all 2) (.all 3))]⟩,⟨false,27,1, .ints .u32 X.Machine.Mem⟩,⟨false,253,4, .recs .apiEntry X.Log⟩,⟨false,63,3, .recs .apiEvent X.Queue⟩])
theorem Qzx:Q04 Tryz.prog Z4d:=mkKP_of Q0i Q0j (.cons Qus (.nil)) Tryz.func245 Tryz.call245 (fun args rows=>Q9i (Q01.ofW (rows.getD 0 default).cs (rowL .u32 rows 1) (rowR .apiEntry rows 2) (rowR .apiEvent rows 3)) (Q0e.of (args.getD 1 .dead).cells)) [.row 27 1 (.ints .u32), .row 253 4 (.recs .apiEntry), .row 63 3 (.recs .apiEvent)] [] 2 (fun _ _ _=>by kernel_rfl) (fun _ _=>rfl) (fun _ _ h=>h)
def Qgy(is:Bool)(n:Int):Tree Int:=
.br is (.cn (decide (0≤wrap u64 n)) (.lf (ishl u32 1 (wrap u64 n)))) (.lf 0)
def Q8e(is:Bool)(n:Int):Int:=(Qgy is n).m
abbrev Q94(is:Bool)(n:Int):Prop:=(Qgy is n).p
def Zba:Q0b:=mkP 91 [] true [.one (.bool), .one (.int .i64)] [] (fun args rows=>Q94 (argB args 0) (argI args 1)) (fun args rows=>Q8e (argB args 0) (argI args 1)) (fun X=> .int .u32 X) (fun X=>[])
theorem Z7:Q04 Tryz.prog Zba:=Q0k Q0i Q0j (.nil) Tryz.func91 Tryz.call91 (fun args rows=>Qgy (argB args 0) (argI args 1)) [] [] 2 (fun _ _ _=>by kernel_rfl) (fun _ _=>rfl) (fun _ _ h=>h) (fun _ X=>by kernel_rfl)
def Qfh(t:Q0h):Tree Bool:=
.lf t.Fired
def Q98(t:Q0h):Bool:=(Qfh t).m
def Qoo:Q0b:=mkR 92 [] true [.agg Q0h.sig] [] (fun args rows=>Q98 (Q0h.of (args.getD 0 .dead).cells)) (fun X=> .bool X) (fun X=>[])
theorem Qn2:Q04 Tryz.prog Qoo:=Q0v Q0i Q0j (.nil) Tryz.func92 Tryz.call92 (fun args rows=>Qfh (Q0h.of (args.getD 0 .dead).cells)) [] [] 2 (fun _ _ _=>by kernel_rfl) (fun _ _=>rfl) (fun _ _=>Tree.free_ok (by kernel_rfl)) (fun _ X=>by kernel_rfl)
def Qda(c:Q0c):Tree Bool:=
.lf (decide ((↑(List.length c.Keys):Int)>(0:Int)))
def Q4w(c:Q0c):Bool:=(Qda c).m
def Qlf:Q0b:=mkR 93 [] true [.agg Q0c.sig] [] (fun args rows=>Q4w (Q0c.of (args.getD 0 .dead).cells)) (fun X=> .bool X) (fun X=>[])
theorem Qkt:Q04 Tryz.prog Qlf:=Q0v Q0i Q0j (.nil) Tryz.func93 Tryz.call93 (fun args rows=>Qda (Q0c.of (args.getD 0 .dead).cells)) [] [] 2 (fun _ _ _=>by kernel_rfl) (fun _ _=>rfl) (fun _ _=>Tree.free_ok (by kernel_rfl)) (fun _ X=>by kernel_rfl)
def Qht(d0:Q0d):Tree Bool:=
.br (d0.State==2) (.lf true) (.lf (d0.State==3))
def Qab(d0:Q0d):Bool:=(Qht d0).m
def Qpl:Q0b:=mkR 94 [] true [.agg Q0d.sig] [] (fun args rows=>Qab (Q0d.of (args.getD 0 .dead).cells)) (fun X=> .bool X) (fun X=>[])
theorem Qo7:Q04 Tryz.prog Qpl:=Q0v Q0i Q0j (.nil) Tryz.func94 Tryz.call94 (fun args rows=>Qht (Q0d.of (args.getD 0 .dead).cells)) [] [] 2 (fun _ _ _=>by kernel_rfl) (fun _ _=>rfl) (fun _ _=>Tree.free_ok (by kernel_rfl)) (fun _ X=>by kernel_rfl)
def Qin(n:Q0m):Tree Bool:=
.lf n.Received
def Qbh(n:Q0m):Bool:=(Qin n).m
def Qsd:Q0b:=mkR 95 [] true [.agg Q0m.sig] [] (fun args rows=>Qbh (Q0m.of (args.getD 0 .dead).cells)) (fun X=> .bool X) (fun X=>[])
theorem Qq2:Q04 Tryz.prog Qsd:=Q0v Q0i Q0j (.nil) Tryz.func95 Tryz.call95 (fun args rows=>Qin (Q0m.of (args.getD 0 .dead).cells)) [] [] 2 (fun _ _ _=>by kernel_rfl) (fun _ _=>rfl) (fun _ _=>Tree.free_ok (by kernel_rfl)) (fun _ X=>by kernel_rfl)
def Qlb(b:Q05)(z:(Int)×(Int)):Prop:=0≤z.2∧z.2≤32
def Qek(b:Q05)(z:(Int)×(Int)):Nat:=(32-z.2).toNat
def Qhl(b:Q05):Tree Int:=
.lp inferInstance (Qek b (0,0)+1) (((rE b.Target∧rE b.Given∧True)∧(rE ((nat_lit 0):Nat)∧rE ((nat_lit 0):Nat))∧rE (0:Int)∧rE (0:Int)∧rE (0:Int)∧True)∧(rE b.Target∧rE b.Given∧True)∧True) (0,0) fun(v0:Int×Int)=> .br (decide (v0.snd<32)) (.cn (decide (0≤wrap u64 v0.snd)) (.nx (((rE b.Target∧rE b.Given∧True)∧(rE ((nat_lit 0):Nat)∧rE ((nat_lit 0):Nat))∧rE (0:Int)∧rE ((wrap i64 (v0.fst+wrap i64 (iand u32 (ishr u32 b.Given (wrap u64 v0.snd)) 1))):Int)∧rE ((wrap i64 (v0.snd+1)):Int)∧True)∧(rE b.Target∧rE b.Given∧True)∧True) (Sum.inl (wrap i64 (v0.fst+wrap i64 (iand u32 (ishr u32 b.Given (wrap u64 v0.snd)) 1)),wrap i64 (v0.snd+1))))) (.lf (Sum.inr v0.fst))
def Qc3(b:Q05):Int:=(Qhl b).m
theorem Z0n(b:Q05):(Qhl b).p:=by
 unfold Tree.p Qhl
 repeat'(first|refine w_lp (inv:=Qlb b) (μ:=Qek b) ?_ (Nat.lt_succ_self _) (fun _ _=> ?_)|exact trivial|refine w_br (fun _=> ?_) (fun _=> ?_)|refine w_cn ?_ ?_|refine w_an ?_ ?_|refine w_lv (fun _ _=> ?_)|refine w_nx ?_|refine w_lf ?_|refine And.intro ?_ ?_)
 all_goals((try simp only[Qlb,Qek]at*);((subst_vars;first|trivial|assumption|omega|((simp(config:={decide:=true,failIfUnchanged:=false}) only[Bool.and_eq_true,Bool.or_eq_true,Bool.and_eq_false_iff,Bool.or_eq_false_iff,Bool.not_eq_true',Bool.not_eq_false',Bool.not_eq_true,Bool.not_eq_false,decide_eq_true_eq,decide_eq_false_iff_not,Q65,Q4,Q60,Q3w,beq_iff_eq,beq_eq_false_iff_ne,bne_iff_ne,bne_eq_false_iff_eq,ne_eq,List.all_cons,List.all_nil,D.plain,List.length_cons,List.length_nil,List.length_append,List.length_set,List.length_replicate,IntKind.wrap_i64,IntKind.wrap_u64,IntKind.wrap_u32,IntKind.wrap_i32,IntKind.wrap_u8,true_and,and_true,or_false,false_or,or_true,true_or,not_true_eq_false,not_false_eq_true,Prod.fst,Prod.snd]at*);first|done|assumption|omega)|((simp(config:={decide:=true,failIfUnchanged:=false}) only[Bool.and_eq_true,Bool.or_eq_true,Bool.and_eq_false_iff,Bool.or_eq_false_iff,Bool.not_eq_true',Bool.not_eq_false',Bool.not_eq_true,Bool.not_eq_false,decide_eq_true_eq,decide_eq_false_iff_not,Q65,Q4,Q60,Q3w,beq_iff_eq,beq_eq_false_iff_ne,bne_iff_ne,bne_eq_false_iff_eq,ne_eq,List.all_cons,List.all_nil,D.plain,List.length_cons,List.length_nil,List.length_append,List.length_set,List.length_replicate,IntKind.wrap_i64,IntKind.wrap_u64,IntKind.wrap_u32,IntKind.wrap_i32,IntKind.wrap_u8,true_and,and_true,or_false,false_or,or_true,true_or,not_true_eq_false,not_false_eq_true,Prod.fst,Prod.snd]at*);simp only[←List.length_pos_iff]at*;omega)|(simp_all;done)|(have:= @Qi9;simp_all;try omega))))
def Z5z:LInv:={
 α:=(Int)×(Int)
 F:=fun st a=>([(0,(lk st 0)),(1, .ptr 0 0 0),(2,(lk st 2)),(3, .int IntKind.i64 a.1),(4, .int IntKind.i64 a.2)],[⟨true,41,2, .gen [[(cT st 1 0),(cT st 1 1)]]⟩])
 a0:=fun st=>((lk st 3).toInt,(lk st 4).toInt)
 ex0:=fun st=>[]++[(Q0s (lk st 1) (st.rows.length+0))]
 next:=fun st=>((lk st 3).toInt,(lk st 4).toInt)
 ex:=fun st=>[]++[(Q0s (lk st 1) (st.rows.length+0))]}
def Qxh:List (Nat×LInv):=[(3,Z5z)]
def Z95:Q0b:=mkR 155 [] true [.agg Q05.sig] [] (fun args rows=>Qc3 (Q05.of (args.getD 0 .dead).cells)) (fun X=> .int .i64 X) (fun X=>[])
theorem Qql:Q04 Tryz.prog Z95:=Q0v Q0i Q0j (.nil) Tryz.func155 Tryz.call155 (fun args rows=>Qhl (Q05.of (args.getD 0 .dead).cells)) [] Qxh 3 (fun _ _ _=>by kernel_rfl) (fun _ _=>rfl) (fun args rows=>Z0n (Q05.of (args.getD 0 .dead).cells)) (fun _ X=>by kernel_rfl)
def Q8q(b:Q05):Tree Bool:=
.lv (Qc3 b) fun(x0:Int)=> .lf (wrap u64 x0 !=wrap u64 b.Target)
def Q3b(b:Q05):Bool:=(Q8q b).m
def Ql3:Q0b:=mkR 96 [] true [.agg Q05.sig] [] (fun args rows=>Q3b (Q05.of (args.getD 0 .dead).cells)) (fun X=> .bool X) (fun X=>[])
theorem Qkr:Q04 Tryz.prog Ql3:=Q0v Q0i Q0j (.cons Qql (.nil)) Tryz.func96 Tryz.call96 (fun args rows=>Q8q (Q05.of (args.getD 0 .dead).cells)) [] [] 2 (fun _ _ _=>by kernel_rfl) (fun _ _=>rfl) (fun _ _=>Tree.free_ok (by kernel_rfl)) (fun _ X=>by kernel_rfl)
def Qdg(m:Q00):Tree Int:=
.lv (Q98 m.Timer) fun(x0:Bool)=> .an (Q94 x0 0) (.lv (Q8e x0 0) fun(x1:Int)=> .lv (Q4w m.Console) fun(x2:Bool)=> .an (Q94 x2 1) (.lv (Q8e x2 1) fun(x3:Int)=> .lv (Qab m.Disk) fun(x4:Bool)=> .an (Q94 x4 2) (.lv (Q8e x4 2) fun(x5:Int)=> .lv (Qbh m.Nic) fun(x6:Bool)=> .an (Q94 x6 3) (.lv (Q8e x6 3) fun(x7:Int)=> .lv (Q3b m.Balloon) fun(x8:Bool)=> .an (Q94 x8 4) (.lv (Q8e x8 4) fun(x9:Int)=> .lf (ior u32 (ior u32 (ior u32 (ior u32 x1 x3) x5) x7) x9))))))
def Qf9(m:Q00):Int:=(Qdg m).m
abbrev Qnm(m:Q00):Prop:=(Qdg m).p
def Z8h:Q0b:=mkP 40 [] true [.agg Q00.sig] [] (fun args rows=>Qnm (Q00.of (args.getD 0 .dead).cells)) (fun args rows=>Qf9 (Q00.of (args.getD 0 .dead).cells)) (fun X=> .int .u32 X) (fun X=>[])
theorem Z5t:Q04 Tryz.prog Z8h:=Q0k Q0i Q0j (.cons Z7 (.cons Qn2 (.cons Qkt (.cons Qo7 (.cons Qq2 (.cons Qkr (.nil))))))) Tryz.func40 Tryz.call40 (fun args rows=>Qdg (Q00.of (args.getD 0 .dead).cells)) [] [] 2 (fun _ _ _=>by kernel_rfl) (fun _ _=>rfl) (fun _ _ h=>h) (fun _ X=>by kernel_rfl)
def Q80(m:Q00):Tree Int:=
.an (Qnm m) (.lv (Qf9 m) fun(x0:Int)=> .lf (iand u32 x0 m.Cpu.Csr.a7))
def Q2s(m:Q00):Int:=(Q80 m).m
abbrev Qe8(m:Q00):Prop:=(Q80 m).p
def Qz4:Q0b:=mkP 97 [] true [.agg Q00.sig] [] (fun args rows=>Qe8 (Q00.of (args.getD 0 .dead).cells)) (fun args rows=>Q2s (Q00.of (args.getD 0 .dead).cells)) (fun X=> .int .u32 X) (fun X=>[])
theorem Qll:Q04 Tryz.prog Qz4:=Q0k Q0i Q0j (.cons Z5t (.nil)) Tryz.func97 Tryz.call97 (fun args rows=>Q80 (Q00.of (args.getD 0 .dead).cells)) [] [] 2 (fun _ _ _=>by kernel_rfl) (fun _ _=>rfl) (fun _ _ h=>h) (fun _ X=>by kernel_rfl)
def Qco(m:Q00):Tree Bool:=
.br m.Waiting (.an (Qe8 m) (.lv (Q2s m) fun(x0:Int)=> .lf (x0==0))) (.lf false)
def Qbs(m:Q00):Bool:=(Qco m).m
abbrev Qjx(m:Q00):Prop:=(Qco m).p
def Zb2:Q0b:=mkP 41 [] true [.agg Q00.sig] [] (fun args rows=>Qjx (Q00.of (args.getD 0 .dead).cells)) (fun args rows=>Qbs (Q00.of (args.getD 0 .dead).cells)) (fun X=> .bool X) (fun X=>[])
theorem Qte:Q04 Tryz.prog Zb2:=Q0k Q0i Q0j (.cons Qll (.nil)) Tryz.func41 Tryz.call41 (fun args rows=>Qco (Q00.of (args.getD 0 .dead).cells)) [] [] 2 (fun _ _ _=>by kernel_rfl) (fun _ _=>rfl) (fun _ _ h=>h) (fun _ X=>by kernel_rfl)
def Q8d(m:Q00):Tree Bool:=
.lv (Q9d m) fun(x0:Bool)=> .br (!x0) (.lf true) (.br m.Halted (.lf true) (.an (Qjx m) (.lv (Qbs m) fun(x1:Bool)=> .br x1 (.lf true) (.lf (decide (m.Count≥1152921504606846976))))))
def Q2c(m:Q00):Bool:=(Q8d m).m
abbrev Q9z(m:Q00):Prop:=(Q8d m).p
def Z7w:Q0b:=mkP 65 [] true [.agg Q00.sig] [] (fun args rows=>Q9z (Q00.of (args.getD 0 .dead).cells)) (fun args rows=>Q2c (Q00.of (args.getD 0 .dead).cells)) (fun X=> .bool X) (fun X=>[])
theorem Qpq:Q04 Tryz.prog Z7w:=Q0k Q0i Q0j (.cons Qjq (.cons Qte (.nil))) Tryz.func65 Tryz.call65 (fun args rows=>Q8d (Q00.of (args.getD 0 .dead).cells)) [] [] 2 (fun _ _ _=>by kernel_rfl) (fun _ _=>rfl) (fun _ _ h=>h) (fun _ X=>by kernel_rfl)
end
end Go.Proofs.YtdkiadhigcfmkaaGreat

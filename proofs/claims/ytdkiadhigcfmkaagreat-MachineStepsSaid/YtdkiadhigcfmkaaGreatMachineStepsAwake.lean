/-
  A part of the proof.
-/
import Derived.Test.YtdkiadhigcfmkaaGreatMachineStepsYe
import Derived.Test.YtdkiadhigcfmkaaGreatMachineStepsFe
namespace Go.Proofs.YtdkiadhigcfmkaaGreat
open Go Go.GD
set_option linter.unusedVariables false
set_option maxRecDepth 100000
set_option synthInstance.maxHeartbeats 2000000
set_option synthInstance.maxSize 100000
noncomputable section
set_option maxRecDepth 100000 in
instance Qt9 (s:(List Int)):Decidable (Q09 s):=by delta Q09;infer_instance
set_option maxRecDepth 100000 in
instance Zdw (m:(List Int)) (addr:Int) (size:Int):Decidable (Q67 m addr size):=by delta Q67 Tree.p Q32;dsimp only[Tree.w];infer_instance
set_option maxRecDepth 100000 in
instance bits_mask_dec (n:Int):Decidable (Qah n):=by delta Qah Tree.p Qbw;dsimp only[Tree.w];infer_instance
set_option maxRecDepth 100000 in
instance bits_Field_dec (w:Int) (low:Int) (n:Int):Decidable (Q3 w low n):=by delta Q3 Tree.p Qa1;dsimp only[Tree.w];infer_instance
set_option maxRecDepth 100000 in
instance Zdm (w:Int) (low:Int) (n:Int) (v:Int):Decidable (Q8p w low n v):=by delta Q8p Tree.p Q61;dsimp only[Tree.w];infer_instance
set_option maxRecDepth 100000 in
instance Zfz (m:(List Int)) (addr:Int) (size:Int) (v:Int):Decidable (Q4y m addr size v):=by delta Q4y Tree.p Q5k;dsimp only[Tree.w];infer_instance
set_option maxRecDepth 100000 in
instance Z9l (x:Int) (n:Int):Decidable (Q4c x n):=by delta Q4c Tree.p Q43;dsimp only[Tree.w];infer_instance
set_option maxRecDepth 100000 in
instance isa_Decode_dec (w:Int):Decidable (Qce w):=by delta Qce Tree.p Q85;dsimp only[Tree.w];infer_instance
set_option maxRecDepth 100000 in
instance bits_Divide_dec (a:Int) (b:Int):Decidable (Q7p a b):=by delta Q7p Tree.p Q6k;dsimp only[Tree.w];infer_instance
set_option maxRecDepth 100000 in
instance cpu_Alu_dec (op:Int) (a:Int) (b:Int):Decidable (Qge op a b):=by delta Qge Tree.p Qhk;dsimp only[Tree.w];infer_instance
set_option maxRecDepth 100000 in
instance memory_Load_dec (m:(List Int)) (addr:Int) (size:Int):Decidable (Q21 m addr size):=by delta Q21 Tree.p Q6i;dsimp only[Tree.w];infer_instance
set_option maxRecDepth 100000 in
instance Zd9 (pte:Int):Decidable (Q52 pte):=by delta Q52 Tree.p Q4u;dsimp only[Tree.w];infer_instance
set_option maxRecDepth 100000 in
instance paging_Walk_dec (m:(List Int)) (root:Int) (va:Int) (access:Int):Decidable (Q7v m root va access):=by delta Q7v Tree.p Q6o;dsimp only[Tree.w];infer_instance
set_option maxRecDepth 100000 in
instance Zg (m:(List Int)) (entry:Int) (access:Int):Decidable (Q6s m entry access):=by delta Q6s Tree.p Q5l;dsimp only[Tree.w];infer_instance
set_option maxRecDepth 100000 in
instance cpu_Resolve_dec (c:Q02) (m:(List Int)) (va:Int) (size:Int) (access:Int):Decidable (Q5z c m va size access):=by delta Q5z Tree.p Q6d;dsimp only[Tree.w];infer_instance
set_option maxRecDepth 100000 in
instance cpu_Fetch_dec (c:Q02) (m:(List Int)):Decidable (Qe2 c m):=by delta Qe2 Tree.p Qbn;dsimp only[Tree.w];infer_instance
set_option maxRecDepth 100000 in
instance cpu_set_dec (c:Q02) (register:Int) (v:Int):Decidable (Q4e c register v):=by delta Q4e Tree.p Q97;dsimp only[Tree.w];infer_instance
set_option maxRecDepth 100000 in
instance cpu_load_dec (c:Q02) (m:(List Int)) (i:Q0f):Decidable (Qgk c m i):=by delta Qgk Tree.p Q9x;dsimp only[Tree.w];infer_instance
set_option maxRecDepth 100000 in
instance cpu_store_dec (c:Q02) (m:(List Int)) (i:Q0f):Decidable (Qe7 c m i):=by delta Qe7 Tree.p Q7n;dsimp only[Tree.w];infer_instance
set_option maxRecDepth 100000 in
instance cpu_Write_dec (c:Q02) (csr:Int) (v:Int):Decidable (Qe8 c csr v):=by delta Qe8 Tree.p Q89;dsimp only[Tree.w];infer_instance
set_option maxRecDepth 100000 in
instance cpu_execute_dec (c:Q02) (i:Q0f):Decidable (Qap c i):=by delta Qap Tree.p Q2y;dsimp only[Tree.w];infer_instance
set_option maxRecDepth 100000 in
instance cpu_Exec_dec (c:Q02) (m:(List Int)):Decidable (Qcm c m):=by delta Qcm Tree.p Q75;dsimp only[Tree.w];infer_instance
set_option maxRecDepth 100000 in
instance Zac (x:Int):Decidable (Q6e x):=by delta Q6e Tree.p Q1x;dsimp only[Tree.w];infer_instance
set_option maxRecDepth 100000 in
instance balloon_May_dec (b:Q05) (pages:Int):Decidable (Q7j b pages):=by delta Q7j Tree.p Q59;dsimp only[Tree.w];infer_instance
set_option maxRecDepth 100000 in
instance Z5k (m:Q00):Decidable (Q1m m):=by delta Q1m Tree.p Q1e;dsimp only[Tree.w];infer_instance
set_option maxRecDepth 100000 in
instance machine_May_dec (m:Q00):Decidable (Q22 m):=by delta Q22 Tree.p Q56;dsimp only[Tree.w];infer_instance
set_option maxRecDepth 100000 in
instance Z0k (x:Int):Decidable (Q2z x):=by delta Q2z Tree.p Q1t;dsimp only[Tree.w];infer_instance
set_option maxRecDepth 100000 in
instance Zfx (b:Q05):Decidable (Q66 b):=by delta Q66 Tree.p Q5t;dsimp only[Tree.w];infer_instance
set_option maxRecDepth 100000 in
instance Zaa (b:Q05):Decidable (Q6c b):=by delta Q6c Tree.p Q2v;dsimp only[Tree.w];infer_instance
set_option maxRecDepth 100000 in
instance Zdp (m:Q00):Decidable (Q8d m):=by delta Q8d Tree.p Q4h;dsimp only[Tree.w];infer_instance
set_option maxRecDepth 100000 in
instance Zbk (m:Q00):Decidable (Q4k m):=by delta Q4k Tree.p Q2s;dsimp only[Tree.w];infer_instance
set_option maxRecDepth 100000 in
instance Zg1 (m:Q00):Decidable (Q2n m):=by delta Q2n Tree.p Q31;dsimp only[Tree.w];infer_instance
set_option maxRecDepth 100000 in
instance Zg4 (m:Q00):Decidable (Q6t m):=by delta Q6t Tree.p Q3z;dsimp only[Tree.w];infer_instance
set_option maxRecDepth 100000 in
instance Zdr (m:Q00):Decidable (Q68 m):=by delta Q68 Tree.p Q4d;dsimp only[Tree.w];infer_instance
set_option maxRecDepth 100000 in
instance balloon_In_dec (b:Q05) (port:Int):Decidable (Qc7 b port):=by delta Qc7 Tree.p Q83;dsimp only[Tree.w];infer_instance
set_option maxRecDepth 100000 in
instance Z9g (m:Q00) (port:Int) (clock:Int):Decidable (Q3p m port clock):=by delta Q3p Tree.p Q2g;dsimp only[Tree.w];infer_instance
set_option maxRecDepth 100000 in
instance memory_text_dec (words:(List Int)):Decidable (Q5x words):=by delta Q5x;infer_instance
set_option maxRecDepth 100000 in
instance memory_Page_dec (m:(List Int)) (frame:Int):Decidable (Q8c m frame):=by delta Q8c Tree.p Q3x;dsimp only[Tree.w];infer_instance
set_option maxRecDepth 100000 in
instance disk_issue_dec (d0:Q0d) (m:(List Int)) (cmd:Int) (at0:Int):Decidable (Qc8 d0 m cmd at0):=by delta Qc8 Tree.p Q7k;dsimp only[Tree.w];infer_instance
set_option maxRecDepth 100000 in
instance disk_Out_dec (d0:Q0d) (m:(List Int)) (port:Int) (v:Int) (at0:Int):Decidable (Qgv d0 m port v at0):=by delta Qgv Tree.p Qbv;dsimp only[Tree.w];infer_instance
set_option maxRecDepth 100000 in
instance nic_send_dec (n:Q0m) (m:(List Int)) (at0:Int):Decidable (Qgy n m at0):=by delta Qgy Tree.p Qbd;dsimp only[Tree.w];infer_instance
set_option maxRecDepth 100000 in
instance nic_Out_dec (n:Q0m) (m:(List Int)) (port:Int) (v:Int) (at0:Int):Decidable (Qiq n m port v at0):=by delta Qiq Tree.p Qen;dsimp only[Tree.w];infer_instance
set_option maxRecDepth 100000 in
instance Zct (m:(List Int)) (frame:Int) (s:(List UInt8)):Decidable (Q7f m frame s):=by delta Q7f Tree.p Q2k;dsimp only[Tree.w];infer_instance
set_option maxRecDepth 100000 in
instance Zcp (s:(List UInt8)) (count:Int):Decidable (Q5b s count):=by delta Q5b;infer_instance
set_option maxRecDepth 100000 in
instance balloon_Out_dec (b:Q05) (m:(List Int)) (port:Int) (v:Int):Decidable (Qax b m port v):=by delta Qax Tree.p Q2f;dsimp only[Tree.w];infer_instance
set_option maxRecDepth 100000 in
instance Z8t (m:Q00) (port:Int) (v:Int) (at0:Int):Decidable (Q34 m port v at0):=by delta Q34 Tree.p Q24;dsimp only[Tree.w];infer_instance
set_option maxRecDepth 100000 in
instance Zch (m:Q00) (clock:Int):Decidable (Q7e m clock):=by delta Q7e Tree.p Q9h;dsimp only[Tree.w];infer_instance
set_option maxRecDepth 100000 in
instance make_Round_dec (n:Int) (k:Int):Decidable (Q0y n k):=by delta Q0y Tree.p Qgu;dsimp only[Tree.w];infer_instance
set_option maxRecDepth 100000 in
instance make_Inst_dec (n:Int):Decidable (Q6j n):=by delta Q6j Tree.p Qev;dsimp only[Tree.w];infer_instance
set_option maxRecDepth 100000 in
instance make_Code_dec (l:(List Int)):Decidable (Q58 l):=by delta Q58 Tree.p Q9r;dsimp only[Tree.w];infer_instance
set_option maxRecDepth 100000 in
instance memory_New_dec (pages:Int):Decidable (Q74 pages):=by delta Q74 Tree.p Qa4;dsimp only[Tree.w];infer_instance
set_option maxRecDepth 100000 in
instance machine_New_dec (pages:Int) (blocks:Int) (image:(List Int)):Decidable (Q3b pages blocks image):=by delta Q3b Tree.p Q5;dsimp only[Tree.w];infer_instance
set_option maxRecDepth 100000 in
instance Qti (s1:(List Int)) (s2:(List Int)):Decidable (Q18 s1 s2):=by delta Q18;infer_instance
set_option maxRecDepth 100000 in
instance Zg2 (a:Q00) (b:Q00):Decidable (Q9i a b):=by delta Q9i Tree.p Qc9;dsimp only[Tree.w];infer_instance
set_option maxRecDepth 100000 in
instance ref1_New_dec (pages:Int):Decidable (Qh1 pages):=by delta Qh1 Tree.p Qln;dsimp only[Tree.w];infer_instance
set_option maxRecDepth 100000 in
instance ref7_New_dec (pages:Int) (blocks:Int) (image:(List Int)):Decidable (Q3a pages blocks image):=by delta Q3a Tree.p Q8s;dsimp only[Tree.w];infer_instance
set_option maxRecDepth 100000 in
instance Zcw (a:(List Int)) (b:(List Int)):Decidable (Q3g a b):=by delta Q3g;infer_instance
set_option maxRecDepth 100000 in
instance ref7_Same_dec (a:Q00) (b:Q00):Decidable (Q4z a b):=by delta Q4z Tree.p Q86;dsimp only[Tree.w];infer_instance
set_option maxRecDepth 100000 in
instance law12_awake_dec:Decidable (Q1i):=by delta Q1i Tree.p Qdy;dsimp only[Tree.w];infer_instance
set_option maxRecDepth 100000 in
instance Z99 (pages:Int) (blocks:Int) (image:(List Int)) (l:(List Int)) (made:Bool):Decidable (Q88 pages blocks image l made):=by delta Q88 Tree.p Q6n;dsimp only[Tree.w];infer_instance
theorem Qia:Q1i:=of_decide_eq_true (by kernel_rfl)
theorem Z12:Q3m=true:=by kernel_rfl
end
end Go.Proofs.YtdkiadhigcfmkaaGreat

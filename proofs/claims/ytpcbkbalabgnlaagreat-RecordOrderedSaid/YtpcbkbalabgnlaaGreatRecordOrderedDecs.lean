/-
  A part of the proof.
-/
import Derived.Test.YtpcbkbalabgnlaaGreatRecordOrderedYe
import Derived.Test.YtpcbkbalabgnlaaGreatRecordOrderedFe
set_option linter.unusedVariables false
namespace Go.Proofs.YtpcbkbalabgnlaaGreat
open Go Go.GD
set_option maxRecDepth 100000
set_option synthInstance.maxHeartbeats 2000000
set_option synthInstance.maxSize 100000
noncomputable section
set_option maxRecDepth 100000 in
instance Qup (s:(List Int)):Decidable (Q04 s):=by delta Q04;infer_instance
set_option maxRecDepth 100000 in
instance Zj8 (m:(List Int)) (addr:Int) (size:Int):Decidable (Q5s m addr size):=by delta Q5s Tree.p Q3;dsimp only[Tree.w];infer_instance
set_option maxRecDepth 100000 in
instance bits_mask_dec (n:Int):Decidable (Qab n):=by delta Qab Tree.p Q9b;dsimp only[Tree.w];infer_instance
set_option maxRecDepth 100000 in
instance bits_Field_dec (w:Int) (low:Int) (n:Int):Decidable (Q3h w low n):=by delta Q3h Tree.p Q80;dsimp only[Tree.w];infer_instance
set_option maxRecDepth 100000 in
instance Zk7 (w:Int) (low:Int) (n:Int) (v:Int):Decidable (Q7n w low n v):=by delta Q7n Tree.p Q4j;dsimp only[Tree.w];infer_instance
set_option maxRecDepth 100000 in
instance Zkt (m:(List Int)) (addr:Int) (size:Int) (v:Int):Decidable (Q52 m addr size v):=by delta Q52 Tree.p Q4b;dsimp only[Tree.w];infer_instance
set_option maxRecDepth 100000 in
instance Zf1 (x:Int) (n:Int):Decidable (Q45 x n):=by delta Q45 Tree.p Q3e;dsimp only[Tree.w];infer_instance
set_option maxRecDepth 100000 in
instance isa_Decode_dec (w:Int):Decidable (Qb3 w):=by delta Qb3 Tree.p Q6w;dsimp only[Tree.w];infer_instance
set_option maxRecDepth 100000 in
instance bits_Divide_dec (a:Int) (b:Int):Decidable (Q7t a b):=by delta Q7t Tree.p Q5a;dsimp only[Tree.w];infer_instance
set_option maxRecDepth 100000 in
instance cpu_Alu_dec (op:Int) (a:Int) (b:Int):Decidable (Qdi op a b):=by delta Qdi Tree.p Qer;dsimp only[Tree.w];infer_instance
set_option maxRecDepth 100000 in
instance memory_Load_dec (m:(List Int)) (addr:Int) (size:Int):Decidable (Q2j m addr size):=by delta Q2j Tree.p Q5h;dsimp only[Tree.w];infer_instance
set_option maxRecDepth 100000 in
instance Zgr (pte:Int):Decidable (Q4v pte):=by delta Q4v Tree.p Q3x;dsimp only[Tree.w];infer_instance
set_option maxRecDepth 100000 in
instance paging_Walk_dec (m:(List Int)) (root:Int) (va:Int) (access:Int):Decidable (Q7o m root va access):=by delta Q7o Tree.p Q5i;dsimp only[Tree.w];infer_instance
set_option maxRecDepth 100000 in
instance Zkk (m:(List Int)) (entry:Int) (access:Int):Decidable (Q6f m entry access):=by delta Q6f Tree.p Q4c;dsimp only[Tree.w];infer_instance
set_option maxRecDepth 100000 in
instance cpu_Resolve_dec (c:Q03) (m:(List Int)) (va:Int) (size:Int) (access:Int):Decidable (Q5z c m va size access):=by delta Q5z Tree.p Q5c;dsimp only[Tree.w];infer_instance
set_option maxRecDepth 100000 in
instance cpu_Fetch_dec (c:Q03) (m:(List Int)):Decidable (Qcm c m):=by delta Qcm Tree.p Q9d;dsimp only[Tree.w];infer_instance
set_option maxRecDepth 100000 in
instance cpu_set_dec (c:Q03) (register:Int) (v:Int):Decidable (Q54 c register v):=by delta Q54 Tree.p Q8n;dsimp only[Tree.w];infer_instance
set_option maxRecDepth 100000 in
instance cpu_load_dec (c:Q03) (m:(List Int)) (i:Q0g):Decidable (Qev c m i):=by delta Qev Tree.p Q8u;dsimp only[Tree.w];infer_instance
set_option maxRecDepth 100000 in
instance cpu_store_dec (c:Q03) (m:(List Int)) (i:Q0g):Decidable (Qcp c m i):=by delta Qcp Tree.p Q79;dsimp only[Tree.w];infer_instance
set_option maxRecDepth 100000 in
instance cpu_Write_dec (c:Q03) (csr:Int) (v:Int):Decidable (Qcc c csr v):=by delta Qcc Tree.p Q76;dsimp only[Tree.w];infer_instance
set_option maxRecDepth 100000 in
instance cpu_execute_dec (c:Q03) (i:Q0g):Decidable (Q9o c i):=by delta Q9o Tree.p Q36;dsimp only[Tree.w];infer_instance
set_option maxRecDepth 100000 in
instance cpu_Exec_dec (c:Q03) (m:(List Int)):Decidable (Qc3 c m):=by delta Qc3 Tree.p Q6h;dsimp only[Tree.w];infer_instance
set_option maxRecDepth 100000 in
instance Zcv (x:Int):Decidable (Q5x x):=by delta Q5x Tree.p Q1y;dsimp only[Tree.w];infer_instance
set_option maxRecDepth 100000 in
instance balloon_May_dec (b:Q06) (pages:Int):Decidable (Q7p b pages):=by delta Q7p Tree.p Q3l;dsimp only[Tree.w];infer_instance
set_option maxRecDepth 100000 in
instance Z80 (m:Q00):Decidable (Q1s m):=by delta Q1s Tree.p Q1h;dsimp only[Tree.w];infer_instance
set_option maxRecDepth 100000 in
instance machine_May_dec (m:Q00):Decidable (Q3j m):=by delta Q3j Tree.p Q4f;dsimp only[Tree.w];infer_instance
set_option maxRecDepth 100000 in
instance Z19 (x:Int):Decidable (Q30 x):=by delta Q30 Tree.p Q1o;dsimp only[Tree.w];infer_instance
set_option maxRecDepth 100000 in
instance Zjb (b:Q06):Decidable (Q5p b):=by delta Q5p Tree.p Q4q;dsimp only[Tree.w];infer_instance
set_option maxRecDepth 100000 in
instance Zd7 (b:Q06):Decidable (Q5y b):=by delta Q5y Tree.p Q2k;dsimp only[Tree.w];infer_instance
set_option maxRecDepth 100000 in
instance Zk (m:Q00):Decidable (Q7r m):=by delta Q7r Tree.p Q3t;dsimp only[Tree.w];infer_instance
set_option maxRecDepth 100000 in
instance Zeg (m:Q00):Decidable (Q48 m):=by delta Q48 Tree.p Q1x;dsimp only[Tree.w];infer_instance
set_option maxRecDepth 100000 in
instance Zkp (m:Q00):Decidable (Q34 m):=by delta Q34 Tree.p Q2z;dsimp only[Tree.w];infer_instance
set_option maxRecDepth 100000 in
instance Zkg (m:Q00):Decidable (Q6c m):=by delta Q6c Tree.p Q3i;dsimp only[Tree.w];infer_instance
set_option maxRecDepth 100000 in
instance Zjw (m:Q00):Decidable (Q5u m):=by delta Q5u Tree.p Q2h;dsimp only[Tree.w];infer_instance
set_option maxRecDepth 100000 in
instance balloon_In_dec (b:Q06) (port:Int):Decidable (Qb2 b port):=by delta Qb2 Tree.p Q6x;dsimp only[Tree.w];infer_instance
set_option maxRecDepth 100000 in
instance Zcj (m:Q00) (port:Int) (clock:Int):Decidable (Q57 m port clock):=by delta Q57 Tree.p Q2b;dsimp only[Tree.w];infer_instance
set_option maxRecDepth 100000 in
instance memory_text_dec (words:(List Int)):Decidable (Q3p words):=by delta Q3p;infer_instance
set_option maxRecDepth 100000 in
instance memory_Page_dec (m:(List Int)) (frame:Int):Decidable (Q60 m frame):=by delta Q60 Tree.p Q3m;dsimp only[Tree.w];infer_instance
set_option maxRecDepth 100000 in
instance disk_issue_dec (d0:Q0c) (m:(List Int)) (cmd:Int) (at0:Int):Decidable (Qb6 d0 m cmd at0):=by delta Qb6 Tree.p Q6s;dsimp only[Tree.w];infer_instance
set_option maxRecDepth 100000 in
instance disk_Out_dec (d0:Q0c) (m:(List Int)) (port:Int) (v:Int) (at0:Int):Decidable (Qf d0 m port v at0):=by delta Qf Tree.p Qa9;dsimp only[Tree.w];infer_instance
set_option maxRecDepth 100000 in
instance nic_send_dec (n:Q0m) (m:(List Int)) (at0:Int):Decidable (Qf1 n m at0):=by delta Qf1 Tree.p Qa7;dsimp only[Tree.w];infer_instance
set_option maxRecDepth 100000 in
instance nic_Out_dec (n:Q0m) (m:(List Int)) (port:Int) (v:Int) (at0:Int):Decidable (Qib n m port v at0):=by delta Qib Tree.p Qd5;dsimp only[Tree.w];infer_instance
set_option maxRecDepth 100000 in
instance Zg (m:(List Int)) (frame:Int) (s:(List UInt8)):Decidable (Q3r m frame s):=by delta Q3r Tree.p Q26;dsimp only[Tree.w];infer_instance
set_option maxRecDepth 100000 in
instance Zgu (s:(List UInt8)) (count:Int):Decidable (Q2v s count):=by delta Q2v;infer_instance
set_option maxRecDepth 100000 in
instance balloon_Out_dec (b:Q06) (m:(List Int)) (port:Int) (v:Int):Decidable (Q9l b m port v):=by delta Q9l Tree.p Q2n;dsimp only[Tree.w];infer_instance
set_option maxRecDepth 100000 in
instance Z9a (m:Q00) (port:Int) (v:Int) (at0:Int):Decidable (Q4m m port v at0):=by delta Q4m Tree.p Q22;dsimp only[Tree.w];infer_instance
set_option maxRecDepth 100000 in
instance Zks (m:Q00) (clock:Int):Decidable (Q35 m clock):=by delta Q35 Tree.p Q31;dsimp only[Tree.w];infer_instance
set_option maxRecDepth 100000 in
instance make_Round_dec (n:Int) (k:Int):Decidable (Q27 n k):=by delta Q27 Tree.p Qc5;dsimp only[Tree.w];infer_instance
set_option maxRecDepth 100000 in
instance make_Inst_dec (n:Int):Decidable (Q87 n):=by delta Q87 Tree.p Qbr;dsimp only[Tree.w];infer_instance
set_option maxRecDepth 100000 in
instance make_Code_dec (l:(List Int)):Decidable (Qap l):=by delta Qap Tree.p Q9s;dsimp only[Tree.w];infer_instance
set_option maxRecDepth 100000 in
instance ref1_New_dec (pages:Int):Decidable (Q9r pages):=by delta Q9r Tree.p Qc9;dsimp only[Tree.w];infer_instance
set_option maxRecDepth 100000 in
instance ref7_New_dec (pages:Int) (blocks:Int) (image:(List Int)):Decidable (Q6i pages blocks image):=by delta Q6i Tree.p Q7i;dsimp only[Tree.w];infer_instance
set_option maxRecDepth 100000 in
instance Zgt (a:(List Int)) (b:(List Int)):Decidable (Q4t a b):=by delta Q4t;infer_instance
set_option maxRecDepth 100000 in
instance ref7_Same_dec (a:Q00) (b:Q00):Decidable (Qkt a b):=by delta Qkt Tree.p Qki;dsimp only[Tree.w];infer_instance
set_option maxRecDepth 100000 in
instance Z81 (m:Q00):Decidable (Q29 m):=by delta Q29 Tree.p Q28;dsimp only[Tree.w];infer_instance
end
end Go.Proofs.YtpcbkbalabgnlaaGreat

/-
  A part of the proof.
-/
import Derived.Test.YtpcbkbalabgnlaaGreatRecordBareYe
import Derived.Test.YtpcbkbalabgnlaaGreatRecordBareFe
set_option maxRecDepth 100000
set_option linter.unusedVariables false
namespace Go.Proofs.YtpcbkbalabgnlaaGreat
open Go Go.GD
set_option synthInstance.maxHeartbeats 2000000
set_option synthInstance.maxSize 100000
noncomputable section
set_option maxRecDepth 100000 in
instance Qvq (s:(List Int)):Decidable (Q05 s):=by delta Q05;infer_instance
set_option maxRecDepth 100000 in
instance Zls (m:(List Int)) (addr:Int) (size:Int):Decidable (Q5z m addr size):=by delta Q5z Tree.p Q3a;dsimp only[Tree.w];infer_instance
set_option maxRecDepth 100000 in
instance bits_mask_dec (n:Int):Decidable (Qb3 n):=by delta Qb3 Tree.p Qah;dsimp only[Tree.w];infer_instance
set_option maxRecDepth 100000 in
instance bits_Field_dec (w:Int) (low:Int) (n:Int):Decidable (Q3r w low n):=by delta Q3r Tree.p Q88;dsimp only[Tree.w];infer_instance
set_option maxRecDepth 100000 in
instance Zlx (w:Int) (low:Int) (n:Int) (v:Int):Decidable (Q7y w low n v):=by delta Q7y Tree.p Q4t;dsimp only[Tree.w];infer_instance
set_option maxRecDepth 100000 in
instance Zmg (m:(List Int)) (addr:Int) (size:Int) (v:Int):Decidable (Q59 m addr size v):=by delta Q59 Tree.p Q4l;dsimp only[Tree.w];infer_instance
set_option maxRecDepth 100000 in
instance Zf4 (x:Int) (n:Int):Decidable (Q4b x n):=by delta Q4b Tree.p Q3k;dsimp only[Tree.w];infer_instance
set_option maxRecDepth 100000 in
instance isa_Decode_dec (w:Int):Decidable (Qbi w):=by delta Qbi Tree.p Q6u;dsimp only[Tree.w];infer_instance
set_option maxRecDepth 100000 in
instance bits_Divide_dec (a:Int) (b:Int):Decidable (Q87 a b):=by delta Q87 Tree.p Q5n;dsimp only[Tree.w];infer_instance
set_option maxRecDepth 100000 in
instance cpu_Alu_dec (op:Int) (a:Int) (b:Int):Decidable (Qej op a b):=by delta Qej Tree.p Qf7;dsimp only[Tree.w];infer_instance
set_option maxRecDepth 100000 in
instance memory_Load_dec (m:(List Int)) (addr:Int) (size:Int):Decidable (Q2o m addr size):=by delta Q2o Tree.p Q5r;dsimp only[Tree.w];infer_instance
set_option maxRecDepth 100000 in
instance Zjd (pte:Int):Decidable (Q52 pte):=by delta Q52 Tree.p Q43;dsimp only[Tree.w];infer_instance
set_option maxRecDepth 100000 in
instance paging_Walk_dec (m:(List Int)) (root:Int) (va:Int) (access:Int):Decidable (Q7x m root va access):=by delta Q7x Tree.p Q5q;dsimp only[Tree.w];infer_instance
set_option maxRecDepth 100000 in
instance Zm8 (m:(List Int)) (entry:Int) (access:Int):Decidable (Q6p m entry access):=by delta Q6p Tree.p Q4m;dsimp only[Tree.w];infer_instance
set_option maxRecDepth 100000 in
instance cpu_Resolve_dec (c:Q04) (m:(List Int)) (va:Int) (size:Int) (access:Int):Decidable (Q63 c m va size access):=by delta Q63 Tree.p Q5o;dsimp only[Tree.w];infer_instance
set_option maxRecDepth 100000 in
instance cpu_Fetch_dec (c:Q04) (m:(List Int)):Decidable (Qcs c m):=by delta Qcs Tree.p Q9w;dsimp only[Tree.w];infer_instance
set_option maxRecDepth 100000 in
instance cpu_set_dec (c:Q04) (register:Int) (v:Int):Decidable (Q5b c register v):=by delta Q5b Tree.p Q8z;dsimp only[Tree.w];infer_instance
set_option maxRecDepth 100000 in
instance cpu_load_dec (c:Q04) (m:(List Int)) (i:Q0i):Decidable (Qf c m i):=by delta Qf Tree.p Q93;dsimp only[Tree.w];infer_instance
set_option maxRecDepth 100000 in
instance cpu_store_dec (c:Q04) (m:(List Int)) (i:Q0i):Decidable (Qct c m i):=by delta Qct Tree.p Q7e;dsimp only[Tree.w];infer_instance
set_option maxRecDepth 100000 in
instance cpu_Write_dec (c:Q04) (csr:Int) (v:Int):Decidable (Qd8 c csr v):=by delta Qd8 Tree.p Q7f;dsimp only[Tree.w];infer_instance
set_option maxRecDepth 100000 in
instance cpu_execute_dec (c:Q04) (i:Q0i):Decidable (Qa9 c i):=by delta Qa9 Tree.p Q3d;dsimp only[Tree.w];infer_instance
set_option maxRecDepth 100000 in
instance cpu_Exec_dec (c:Q04) (m:(List Int)):Decidable (Qcm c m):=by delta Qcm Tree.p Q6m;dsimp only[Tree.w];infer_instance
set_option maxRecDepth 100000 in
instance Zg9 (x:Int):Decidable (Q69 x):=by delta Q69 Tree.p Q24;dsimp only[Tree.w];infer_instance
set_option maxRecDepth 100000 in
instance balloon_May_dec (b:Q06) (pages:Int):Decidable (Q7t b pages):=by delta Q7t Tree.p Q41;dsimp only[Tree.w];infer_instance
set_option maxRecDepth 100000 in
instance Z9i (m:Q00):Decidable (Q1y m):=by delta Q1y Tree.p Q1j;dsimp only[Tree.w];infer_instance
set_option maxRecDepth 100000 in
instance machine_May_dec (m:Q00):Decidable (Q3b m):=by delta Q3b Tree.p Q4k;dsimp only[Tree.w];infer_instance
set_option maxRecDepth 100000 in
instance Z2h (x:Int):Decidable (Q38 x):=by delta Q38 Tree.p Q1s;dsimp only[Tree.w];infer_instance
set_option maxRecDepth 100000 in
instance Zki (b:Q06):Decidable (Q61 b):=by delta Q61 Tree.p Q4q;dsimp only[Tree.w];infer_instance
set_option maxRecDepth 100000 in
instance Zgu (b:Q06):Decidable (Q6d b):=by delta Q6d Tree.p Q2x;dsimp only[Tree.w];infer_instance
set_option maxRecDepth 100000 in
instance Zjz (m:Q00):Decidable (Q85 m):=by delta Q85 Tree.p Q3z;dsimp only[Tree.w];infer_instance
set_option maxRecDepth 100000 in
instance Zfv (m:Q00):Decidable (Q4a m):=by delta Q4a Tree.p Q23;dsimp only[Tree.w];infer_instance
set_option maxRecDepth 100000 in
instance Zmi (m:Q00):Decidable (Q2g m):=by delta Q2g Tree.p Q37;dsimp only[Tree.w];infer_instance
set_option maxRecDepth 100000 in
instance Zmc (m:Q00):Decidable (Q6t m):=by delta Q6t Tree.p Q3q;dsimp only[Tree.w];infer_instance
set_option maxRecDepth 100000 in
instance Zlh (m:Q00):Decidable (Q6 m):=by delta Q6 Tree.p Q2r;dsimp only[Tree.w];infer_instance
set_option maxRecDepth 100000 in
instance balloon_In_dec (b:Q06) (port:Int):Decidable (Qbo b port):=by delta Qbo Tree.p Q72;dsimp only[Tree.w];infer_instance
set_option maxRecDepth 100000 in
instance Ze5 (m:Q00) (port:Int) (clock:Int):Decidable (Q5f m port clock):=by delta Q5f Tree.p Q26;dsimp only[Tree.w];infer_instance
set_option maxRecDepth 100000 in
instance memory_text_dec (words:(List Int)):Decidable (Q40 words):=by delta Q40;infer_instance
set_option maxRecDepth 100000 in
instance memory_Page_dec (m:(List Int)) (frame:Int):Decidable (Q6f m frame):=by delta Q6f Tree.p Q4;dsimp only[Tree.w];infer_instance
set_option maxRecDepth 100000 in
instance disk_issue_dec (d0:Q0c) (m:(List Int)) (cmd:Int) (at0:Int):Decidable (Qbh d0 m cmd at0):=by delta Qbh Tree.p Q79;dsimp only[Tree.w];infer_instance
set_option maxRecDepth 100000 in
instance disk_Out_dec (d0:Q0c) (m:(List Int)) (port:Int) (v:Int) (at0:Int):Decidable (Qf9 d0 m port v at0):=by delta Qf9 Tree.p Qas;dsimp only[Tree.w];infer_instance
set_option maxRecDepth 100000 in
instance nic_send_dec (n:Q0o) (m:(List Int)) (at0:Int):Decidable (Qfc n m at0):=by delta Qfc Tree.p Qb4;dsimp only[Tree.w];infer_instance
set_option maxRecDepth 100000 in
instance nic_Out_dec (n:Q0o) (m:(List Int)) (port:Int) (v:Int) (at0:Int):Decidable (Qij n m port v at0):=by delta Qij Tree.p Qdl;dsimp only[Tree.w];infer_instance
set_option maxRecDepth 100000 in
instance Zii (m:(List Int)) (frame:Int) (s:(List UInt8)):Decidable (Q3s m frame s):=by delta Q3s Tree.p Q2f;dsimp only[Tree.w];infer_instance
set_option maxRecDepth 100000 in
instance Zje (s:(List UInt8)) (count:Int):Decidable (Q34 s count):=by delta Q34;infer_instance
set_option maxRecDepth 100000 in
instance balloon_Out_dec (b:Q06) (m:(List Int)) (port:Int) (v:Int):Decidable (Qa1 b m port v):=by delta Qa1 Tree.p Q2w;dsimp only[Tree.w];infer_instance
set_option maxRecDepth 100000 in
instance Zdf (m:Q00) (port:Int) (v:Int) (at0:Int):Decidable (Q4s m port v at0):=by delta Q4s Tree.p Q2a;dsimp only[Tree.w];infer_instance
set_option maxRecDepth 100000 in
instance Zme (m:Q00) (clock:Int):Decidable (Q2c m clock):=by delta Q2c Tree.p Q2t;dsimp only[Tree.w];infer_instance
set_option maxRecDepth 100000 in
instance make_Round_dec (n:Int) (k:Int):Decidable (Q2h n k):=by delta Q2h Tree.p Qcn;dsimp only[Tree.w];infer_instance
set_option maxRecDepth 100000 in
instance make_Inst_dec (n:Int):Decidable (Q8j n):=by delta Q8j Tree.p Qc6;dsimp only[Tree.w];infer_instance
set_option maxRecDepth 100000 in
instance make_Code_dec (l:(List Int)):Decidable (Qak l):=by delta Qak Tree.p Qa4;dsimp only[Tree.w];infer_instance
set_option maxRecDepth 100000 in
instance ref1_New_dec (pages:Int):Decidable (Q9r pages):=by delta Q9r Tree.p Qch;dsimp only[Tree.w];infer_instance
set_option maxRecDepth 100000 in
instance ref7_New_dec (pages:Int) (blocks:Int) (image:(List Int)):Decidable (Q76 pages blocks image):=by delta Q76 Tree.p Q82;dsimp only[Tree.w];infer_instance
set_option maxRecDepth 100000 in
instance Zhh (a:(List Int)) (b:(List Int)):Decidable (Q2k a b):=by delta Q2k;infer_instance
set_option maxRecDepth 100000 in
instance ref7_Same_dec (a:Q00) (b:Q00):Decidable (Qan a b):=by delta Qan Tree.p Q9q;dsimp only[Tree.w];infer_instance
set_option maxRecDepth 100000 in
instance Z9j (m:Q00):Decidable (Q1i m):=by delta Q1i Tree.p Q21;dsimp only[Tree.w];infer_instance
end
end Go.Proofs.YtpcbkbalabgnlaaGreat

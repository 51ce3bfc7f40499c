/-
  A part of the proof.
-/
import Derived.Test.YtpcbkbalabgnlaaGreatRecordClockYe
import Derived.Test.YtpcbkbalabgnlaaGreatRecordClockFe
set_option linter.unusedVariables false
namespace Go.Proofs.YtpcbkbalabgnlaaGreat
open Go Go.GD
set_option maxRecDepth 100000
set_option synthInstance.maxHeartbeats 2000000
set_option synthInstance.maxSize 100000
noncomputable section
set_option maxRecDepth 100000 in
instance Qug (s:(List Int)):Decidable (Q04 s):=by delta Q04;infer_instance
set_option maxRecDepth 100000 in
instance Zjz (m:(List Int)) (addr:Int) (size:Int):Decidable (Q5o m addr size):=by delta Q5o Tree.p Q30;dsimp only[Tree.w];infer_instance
set_option maxRecDepth 100000 in
instance bits_mask_dec (n:Int):Decidable (Qa5 n):=by delta Qa5 Tree.p Q9w;dsimp only[Tree.w];infer_instance
set_option maxRecDepth 100000 in
instance bits_Field_dec (w:Int) (low:Int) (n:Int):Decidable (Q3g w low n):=by delta Q3g Tree.p Q7x;dsimp only[Tree.w];infer_instance
set_option maxRecDepth 100000 in
instance Zj2 (w:Int) (low:Int) (n:Int) (v:Int):Decidable (Q7f w low n v):=by delta Q7f Tree.p Q4o;dsimp only[Tree.w];infer_instance
set_option maxRecDepth 100000 in
instance Zk8 (m:(List Int)) (addr:Int) (size:Int) (v:Int):Decidable (Q50 m addr size v):=by delta Q50 Tree.p Q4d;dsimp only[Tree.w];infer_instance
set_option maxRecDepth 100000 in
instance Zej (x:Int) (n:Int):Decidable (Q46 x n):=by delta Q46 Tree.p Q3c;dsimp only[Tree.w];infer_instance
set_option maxRecDepth 100000 in
instance isa_Decode_dec (w:Int):Decidable (Qb8 w):=by delta Qb8 Tree.p Q6n;dsimp only[Tree.w];infer_instance
set_option maxRecDepth 100000 in
instance bits_Divide_dec (a:Int) (b:Int):Decidable (Q7i a b):=by delta Q7i Tree.p Q5b;dsimp only[Tree.w];infer_instance
set_option maxRecDepth 100000 in
instance cpu_Alu_dec (op:Int) (a:Int) (b:Int):Decidable (Qe1 op a b):=by delta Qe1 Tree.p Qf1;dsimp only[Tree.w];infer_instance
set_option maxRecDepth 100000 in
instance memory_Load_dec (m:(List Int)) (addr:Int) (size:Int):Decidable (Q2f m addr size):=by delta Q2f Tree.p Q57;dsimp only[Tree.w];infer_instance
set_option maxRecDepth 100000 in
instance Zgy (pte:Int):Decidable (Q4u pte):=by delta Q4u Tree.p Q3w;dsimp only[Tree.w];infer_instance
set_option maxRecDepth 100000 in
instance paging_Walk_dec (m:(List Int)) (root:Int) (va:Int) (access:Int):Decidable (Q7o m root va access):=by delta Q7o Tree.p Q56;dsimp only[Tree.w];infer_instance
set_option maxRecDepth 100000 in
instance Zk3 (m:(List Int)) (entry:Int) (access:Int):Decidable (Q6c m entry access):=by delta Q6c Tree.p Q4c;dsimp only[Tree.w];infer_instance
set_option maxRecDepth 100000 in
instance cpu_Resolve_dec (c:Q03) (m:(List Int)) (va:Int) (size:Int) (access:Int):Decidable (Q5y c m va size access):=by delta Q5y Tree.p Q5d;dsimp only[Tree.w];infer_instance
set_option maxRecDepth 100000 in
instance cpu_Fetch_dec (c:Q03) (m:(List Int)):Decidable (Qcr c m):=by delta Qcr Tree.p Q9g;dsimp only[Tree.w];infer_instance
set_option maxRecDepth 100000 in
instance cpu_set_dec (c:Q03) (register:Int) (v:Int):Decidable (Q4w c register v):=by delta Q4w Tree.p Q8l;dsimp only[Tree.w];infer_instance
set_option maxRecDepth 100000 in
instance cpu_load_dec (c:Q03) (m:(List Int)) (i:Q0g):Decidable (Qex c m i):=by delta Qex Tree.p Q8u;dsimp only[Tree.w];infer_instance
set_option maxRecDepth 100000 in
instance cpu_store_dec (c:Q03) (m:(List Int)) (i:Q0g):Decidable (Qd4 c m i):=by delta Qd4 Tree.p Q74;dsimp only[Tree.w];infer_instance
set_option maxRecDepth 100000 in
instance cpu_Write_dec (c:Q03) (csr:Int) (v:Int):Decidable (Qcf c csr v):=by delta Qcf Tree.p Q73;dsimp only[Tree.w];infer_instance
set_option maxRecDepth 100000 in
instance cpu_execute_dec (c:Q03) (i:Q0g):Decidable (Q9b c i):=by delta Q9b Tree.p Q35;dsimp only[Tree.w];infer_instance
set_option maxRecDepth 100000 in
instance cpu_Exec_dec (c:Q03) (m:(List Int)):Decidable (Qc5 c m):=by delta Qc5 Tree.p Q6g;dsimp only[Tree.w];infer_instance
set_option maxRecDepth 100000 in
instance Zdd (x:Int):Decidable (Q6 x):=by delta Q6 Tree.p Q1w;dsimp only[Tree.w];infer_instance
set_option maxRecDepth 100000 in
instance balloon_May_dec (b:Q06) (pages:Int):Decidable (Q7l b pages):=by delta Q7l Tree.p Q3m;dsimp only[Tree.w];infer_instance
set_option maxRecDepth 100000 in
instance Z7p (m:Q00):Decidable (Q1s m):=by delta Q1s Tree.p Q1h;dsimp only[Tree.w];infer_instance
set_option maxRecDepth 100000 in
instance machine_May_dec (m:Q00):Decidable (Q3o m):=by delta Q3o Tree.p Q4b;dsimp only[Tree.w];infer_instance
set_option maxRecDepth 100000 in
instance Z14 (x:Int):Decidable (Q2y x):=by delta Q2y Tree.p Q1o;dsimp only[Tree.w];infer_instance
set_option maxRecDepth 100000 in
instance Zjj (b:Q06):Decidable (Q5p b):=by delta Q5p Tree.p Q4m;dsimp only[Tree.w];infer_instance
set_option maxRecDepth 100000 in
instance Zcs (b:Q06):Decidable (Q60 b):=by delta Q60 Tree.p Q2l;dsimp only[Tree.w];infer_instance
set_option maxRecDepth 100000 in
instance Zj1 (m:Q00):Decidable (Q7s m):=by delta Q7s Tree.p Q3n;dsimp only[Tree.w];infer_instance
set_option maxRecDepth 100000 in
instance Zdu (m:Q00):Decidable (Q42 m):=by delta Q42 Tree.p Q1x;dsimp only[Tree.w];infer_instance
set_option maxRecDepth 100000 in
instance Zk7 (m:Q00):Decidable (Q34 m):=by delta Q34 Tree.p Q33;dsimp only[Tree.w];infer_instance
set_option maxRecDepth 100000 in
instance Zk4 (m:Q00):Decidable (Q69 m):=by delta Q69 Tree.p Q3h;dsimp only[Tree.w];infer_instance
set_option maxRecDepth 100000 in
instance Zhh (m:Q00):Decidable (Q5r m):=by delta Q5r Tree.p Q2h;dsimp only[Tree.w];infer_instance
set_option maxRecDepth 100000 in
instance balloon_In_dec (b:Q06) (port:Int):Decidable (Qbf b port):=by delta Qbf Tree.p Q6h;dsimp only[Tree.w];infer_instance
set_option maxRecDepth 100000 in
instance Zc6 (m:Q00) (port:Int) (clock:Int):Decidable (Q52 m port clock):=by delta Q52 Tree.p Q2b;dsimp only[Tree.w];infer_instance
set_option maxRecDepth 100000 in
instance memory_text_dec (words:(List Int)):Decidable (Q3q words):=by delta Q3q;infer_instance
set_option maxRecDepth 100000 in
instance memory_Page_dec (m:(List Int)) (frame:Int):Decidable (Q5v m frame):=by delta Q5v Tree.p Q3p;dsimp only[Tree.w];infer_instance
set_option maxRecDepth 100000 in
instance disk_issue_dec (d0:Q0c) (m:(List Int)) (cmd:Int) (at0:Int):Decidable (Qbb d0 m cmd at0):=by delta Qbb Tree.p Q71;dsimp only[Tree.w];infer_instance
set_option maxRecDepth 100000 in
instance disk_Out_dec (d0:Q0c) (m:(List Int)) (port:Int) (v:Int) (at0:Int):Decidable (Qey d0 m port v at0):=by delta Qey Tree.p Qaf;dsimp only[Tree.w];infer_instance
set_option maxRecDepth 100000 in
instance nic_send_dec (n:Q0m) (m:(List Int)) (at0:Int):Decidable (Qew n m at0):=by delta Qew Tree.p Qa9;dsimp only[Tree.w];infer_instance
set_option maxRecDepth 100000 in
instance nic_Out_dec (n:Q0m) (m:(List Int)) (port:Int) (v:Int) (at0:Int):Decidable (Qi9 n m port v at0):=by delta Qi9 Tree.p Qc8;dsimp only[Tree.w];infer_instance
set_option maxRecDepth 100000 in
instance Zg (m:(List Int)) (frame:Int) (s:(List UInt8)):Decidable (Q3i m frame s):=by delta Q3i Tree.p Q24;dsimp only[Tree.w];infer_instance
set_option maxRecDepth 100000 in
instance Zf9 (s:(List UInt8)) (count:Int):Decidable (Q2x s count):=by delta Q2x;infer_instance
set_option maxRecDepth 100000 in
instance balloon_Out_dec (b:Q06) (m:(List Int)) (port:Int) (v:Int):Decidable (Q9m b m port v):=by delta Q9m Tree.p Q2o;dsimp only[Tree.w];infer_instance
set_option maxRecDepth 100000 in
instance Zc1 (m:Q00) (port:Int) (v:Int) (at0:Int):Decidable (Q4l m port v at0):=by delta Q4l Tree.p Q22;dsimp only[Tree.w];infer_instance
set_option maxRecDepth 100000 in
instance Zk5 (m:Q00) (clock:Int):Decidable (Q36 m clock):=by delta Q36 Tree.p Q31;dsimp only[Tree.w];infer_instance
set_option maxRecDepth 100000 in
instance make_Round_dec (n:Int) (k:Int):Decidable (Q27 n k):=by delta Q27 Tree.p Qc2;dsimp only[Tree.w];infer_instance
set_option maxRecDepth 100000 in
instance make_Inst_dec (n:Int):Decidable (Q8b n):=by delta Q8b Tree.p Qbw;dsimp only[Tree.w];infer_instance
set_option maxRecDepth 100000 in
instance make_Code_dec (l:(List Int)):Decidable (Qa4 l):=by delta Qa4 Tree.p Q9a;dsimp only[Tree.w];infer_instance
set_option maxRecDepth 100000 in
instance ref1_New_dec (pages:Int):Decidable (Q9n pages):=by delta Q9n Tree.p Qc3;dsimp only[Tree.w];infer_instance
set_option maxRecDepth 100000 in
instance ref7_New_dec (pages:Int) (blocks:Int) (image:(List Int)):Decidable (Q6j pages blocks image):=by delta Q6j Tree.p Q7q;dsimp only[Tree.w];infer_instance
set_option maxRecDepth 100000 in
instance Zh7 (a:(List Int)) (b:(List Int)):Decidable (Q4t a b):=by delta Q4t;infer_instance
set_option maxRecDepth 100000 in
instance ref7_Same_dec (a:Q00) (b:Q00):Decidable (Qkd a b):=by delta Qkd Tree.p Qkw;dsimp only[Tree.w];infer_instance
set_option maxRecDepth 100000 in
instance Z7q (m:Q00):Decidable (Q2a m):=by delta Q2a Tree.p Q28;dsimp only[Tree.w];infer_instance
end
end Go.Proofs.YtpcbkbalabgnlaaGreat

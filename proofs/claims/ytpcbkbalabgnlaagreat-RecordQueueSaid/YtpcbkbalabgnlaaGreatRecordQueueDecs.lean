/-
  A part of the proof.
-/
import Derived.Test.YtpcbkbalabgnlaaGreatRecordQueueYe
import Derived.Test.YtpcbkbalabgnlaaGreatRecordQueueFe
set_option linter.unusedVariables false
namespace Go.Proofs.YtpcbkbalabgnlaaGreat
open Go Go.GD
set_option maxRecDepth 100000
set_option synthInstance.maxHeartbeats 2000000
set_option synthInstance.maxSize 100000
noncomputable section
set_option maxRecDepth 100000 in
instance Qr7 (s:(List Int)):Decidable (Q04 s):=by delta Q04;infer_instance
set_option maxRecDepth 100000 in
instance Zas (m:(List Int)) (addr:Int) (size:Int):Decidable (Q59 m addr size):=by delta Q59 Tree.p Q2s;dsimp only[Tree.w];infer_instance
set_option maxRecDepth 100000 in
instance bits_mask_dec (n:Int):Decidable (Q96 n):=by delta Q96 Tree.p Q8b;dsimp only[Tree.w];infer_instance
set_option maxRecDepth 100000 in
instance bits_Field_dec (w:Int) (low:Int) (n:Int):Decidable (Q39 w low n):=by delta Q39 Tree.p Q74;dsimp only[Tree.w];infer_instance
set_option maxRecDepth 100000 in
instance Zaj (w:Int) (low:Int) (n:Int) (v:Int):Decidable (Q6s w low n v):=by delta Q6s Tree.p Q40;dsimp only[Tree.w];infer_instance
set_option maxRecDepth 100000 in
instance Zcs (m:(List Int)) (addr:Int) (size:Int) (v:Int):Decidable (Q4j m addr size v):=by delta Q4j Tree.p Q3x;dsimp only[Tree.w];infer_instance
set_option maxRecDepth 100000 in
instance Z75 (x:Int) (n:Int):Decidable (Q3s x n):=by delta Q3s Tree.p Q33;dsimp only[Tree.w];infer_instance
set_option maxRecDepth 100000 in
instance isa_Decode_dec (w:Int):Decidable (Qa5 w):=by delta Qa5 Tree.p Q6f;dsimp only[Tree.w];infer_instance
set_option maxRecDepth 100000 in
instance bits_Divide_dec (a:Int) (b:Int):Decidable (Q6v a b):=by delta Q6v Tree.p Q4y;dsimp only[Tree.w];infer_instance
set_option maxRecDepth 100000 in
instance cpu_Alu_dec (op:Int) (a:Int) (b:Int):Decidable (Qcc op a b):=by delta Qcc Tree.p Qd0;dsimp only[Tree.w];infer_instance
set_option maxRecDepth 100000 in
instance memory_Load_dec (m:(List Int)) (addr:Int) (size:Int):Decidable (Q2a m addr size):=by delta Q2a Tree.p Q4s;dsimp only[Tree.w];infer_instance
set_option maxRecDepth 100000 in
instance Z8l (pte:Int):Decidable (Q4c pte):=by delta Q4c Tree.p Q3n;dsimp only[Tree.w];infer_instance
set_option maxRecDepth 100000 in
instance paging_Walk_dec (m:(List Int)) (root:Int) (va:Int) (access:Int):Decidable (Q6u m root va access):=by delta Q6u Tree.p Q4t;dsimp only[Tree.w];infer_instance
set_option maxRecDepth 100000 in
instance Zcv (m:(List Int)) (entry:Int) (access:Int):Decidable (Q60 m entry access):=by delta Q60 Tree.p Q3w;dsimp only[Tree.w];infer_instance
set_option maxRecDepth 100000 in
instance cpu_Resolve_dec (c:Q03) (m:(List Int)) (va:Int) (size:Int) (access:Int):Decidable (Q5m c m va size access):=by delta Q5m Tree.p Q4v;dsimp only[Tree.w];infer_instance
set_option maxRecDepth 100000 in
instance cpu_Fetch_dec (c:Q03) (m:(List Int)):Decidable (Qb c m):=by delta Qb Tree.p Q8s;dsimp only[Tree.w];infer_instance
set_option maxRecDepth 100000 in
instance cpu_set_dec (c:Q03) (register:Int) (v:Int):Decidable (Q4i c register v):=by delta Q4i Tree.p Q7u;dsimp only[Tree.w];infer_instance
set_option maxRecDepth 100000 in
instance cpu_load_dec (c:Q03) (m:(List Int)) (i:Q0g):Decidable (Qct c m i):=by delta Qct Tree.p Q8;dsimp only[Tree.w];infer_instance
set_option maxRecDepth 100000 in
instance cpu_store_dec (c:Q03) (m:(List Int)) (i:Q0g):Decidable (Qbo c m i):=by delta Qbo Tree.p Q6k;dsimp only[Tree.w];infer_instance
set_option maxRecDepth 100000 in
instance cpu_Write_dec (c:Q03) (csr:Int) (v:Int):Decidable (Qb2 c csr v):=by delta Qb2 Tree.p Q6i;dsimp only[Tree.w];infer_instance
set_option maxRecDepth 100000 in
instance cpu_execute_dec (c:Q03) (i:Q0g):Decidable (Q8h c i):=by delta Q8h Tree.p Q2y;dsimp only[Tree.w];infer_instance
set_option maxRecDepth 100000 in
instance cpu_Exec_dec (c:Q03) (m:(List Int)):Decidable (Qax c m):=by delta Qax Tree.p Q6;dsimp only[Tree.w];infer_instance
set_option maxRecDepth 100000 in
instance Z61 (x:Int):Decidable (Q5p x):=by delta Q5p Tree.p Q1s;dsimp only[Tree.w];infer_instance
set_option maxRecDepth 100000 in
instance balloon_May_dec (b:Q07) (pages:Int):Decidable (Q89 b pages):=by delta Q89 Tree.p Q3y;dsimp only[Tree.w];infer_instance
set_option maxRecDepth 100000 in
instance Z22 (m:Q00):Decidable (Q2p m):=by delta Q2p Tree.p Q1n;dsimp only[Tree.w];infer_instance
set_option maxRecDepth 100000 in
instance machine_May_dec (m:Q00):Decidable (Q5r m):=by delta Q5r Tree.p Q6c;dsimp only[Tree.w];infer_instance
set_option maxRecDepth 100000 in
instance Qx6 (x:Int):Decidable (Q2u x):=by delta Q2u Tree.p Q1i;dsimp only[Tree.w];infer_instance
set_option maxRecDepth 100000 in
instance Zb9 (b:Q07):Decidable (Q5a b):=by delta Q5a Tree.p Q4a;dsimp only[Tree.w];infer_instance
set_option maxRecDepth 100000 in
instance Z6 (b:Q07):Decidable (Q5s b):=by delta Q5s Tree.p Q2g;dsimp only[Tree.w];infer_instance
set_option maxRecDepth 100000 in
instance Zb1 (m:Q00):Decidable (Q6z m):=by delta Q6z Tree.p Q3i;dsimp only[Tree.w];infer_instance
set_option maxRecDepth 100000 in
instance Z79 (m:Q00):Decidable (Q3u m):=by delta Q3u Tree.p Q1q;dsimp only[Tree.w];infer_instance
set_option maxRecDepth 100000 in
instance Zcm (m:Q00):Decidable (Q2x m):=by delta Q2x Tree.p Q2w;dsimp only[Tree.w];infer_instance
set_option maxRecDepth 100000 in
instance Zcy (m:Q00):Decidable (Q5y m):=by delta Q5y Tree.p Q3a;dsimp only[Tree.w];infer_instance
set_option maxRecDepth 100000 in
instance Zar (m:Q00):Decidable (Q56 m):=by delta Q56 Tree.p Q2c;dsimp only[Tree.w];infer_instance
set_option maxRecDepth 100000 in
instance balloon_In_dec (b:Q07) (port:Int):Decidable (Qa1 b port):=by delta Qa1 Tree.p Q62;dsimp only[Tree.w];infer_instance
set_option maxRecDepth 100000 in
instance Z5p (m:Q00) (port:Int) (clock:Int):Decidable (Q4p m port clock):=by delta Q4p Tree.p Q26;dsimp only[Tree.w];infer_instance
set_option maxRecDepth 100000 in
instance memory_text_dec (words:(List Int)):Decidable (Q3d words):=by delta Q3d;infer_instance
set_option maxRecDepth 100000 in
instance memory_Page_dec (m:(List Int)) (frame:Int):Decidable (Q5h m frame):=by delta Q5h Tree.p Q3e;dsimp only[Tree.w];infer_instance
set_option maxRecDepth 100000 in
instance disk_issue_dec (d0:Q0b) (m:(List Int)) (cmd:Int) (at0:Int):Decidable (Qa8 d0 m cmd at0):=by delta Qa8 Tree.p Q64;dsimp only[Tree.w];infer_instance
set_option maxRecDepth 100000 in
instance disk_Out_dec (d0:Q0b) (m:(List Int)) (port:Int) (v:Int) (at0:Int):Decidable (Qdf d0 m port v at0):=by delta Qdf Tree.p Q8x;dsimp only[Tree.w];infer_instance
set_option maxRecDepth 100000 in
instance nic_send_dec (n:Q0k) (m:(List Int)) (at0:Int):Decidable (Qd6 n m at0):=by delta Qd6 Tree.p Q9b;dsimp only[Tree.w];infer_instance
set_option maxRecDepth 100000 in
instance nic_Out_dec (n:Q0k) (m:(List Int)) (port:Int) (v:Int) (at0:Int):Decidable (Qeo n m port v at0):=by delta Qeo Tree.p Qbl;dsimp only[Tree.w];infer_instance
set_option maxRecDepth 100000 in
instance Z9x (m:(List Int)) (frame:Int) (s:(List UInt8)):Decidable (Q3h m frame s):=by delta Q3h Tree.p Q2;dsimp only[Tree.w];infer_instance
set_option maxRecDepth 100000 in
instance Z9k (s:(List UInt8)) (count:Int):Decidable (Q2o s count):=by delta Q2o;infer_instance
set_option maxRecDepth 100000 in
instance balloon_Out_dec (b:Q07) (m:(List Int)) (port:Int) (v:Int):Decidable (Q8j b m port v):=by delta Q8j Tree.p Q2e;dsimp only[Tree.w];infer_instance
set_option maxRecDepth 100000 in
instance Z26 (m:Q00) (port:Int) (v:Int) (at0:Int):Decidable (Q48 m port v at0):=by delta Q48 Tree.p Q1x;dsimp only[Tree.w];infer_instance
set_option maxRecDepth 100000 in
instance Zco (m:Q00) (clock:Int):Decidable (Q2z m clock):=by delta Q2z Tree.p Q2v;dsimp only[Tree.w];infer_instance
set_option maxRecDepth 100000 in
instance make_Round_dec (n:Int) (k:Int):Decidable (Q52 n k):=by delta Q52 Tree.p Qcu;dsimp only[Tree.w];infer_instance
set_option maxRecDepth 100000 in
instance make_Inst_dec (n:Int):Decidable (Qeb n):=by delta Qeb Tree.p Qfh;dsimp only[Tree.w];infer_instance
set_option maxRecDepth 100000 in
instance make_Code_dec (l:(List Int)):Decidable (Qhw l):=by delta Qhw Tree.p Qi8;dsimp only[Tree.w];infer_instance
set_option maxRecDepth 100000 in
instance ref1_New_dec (pages:Int):Decidable (Qd4 pages):=by delta Qd4 Tree.p Qeh;dsimp only[Tree.w];infer_instance
set_option maxRecDepth 100000 in
instance ref7_New_dec (pages:Int) (blocks:Int) (image:(List Int)):Decidable (Qav pages blocks image):=by delta Qav Tree.p Qei;dsimp only[Tree.w];infer_instance
set_option maxRecDepth 100000 in
instance Z8v (a:(List Int)) (b:(List Int)):Decidable (Q4g a b):=by delta Q4g;infer_instance
set_option maxRecDepth 100000 in
instance ref7_Same_dec (a:Q00) (b:Q00):Decidable (Qhl a b):=by delta Qhl Tree.p Qhz;dsimp only[Tree.w];infer_instance
set_option maxRecDepth 100000 in
instance Z21 (m:Q00):Decidable (Q24 m):=by delta Q24 Tree.p Q20;dsimp only[Tree.w];infer_instance
end
end Go.Proofs.YtpcbkbalabgnlaaGreat

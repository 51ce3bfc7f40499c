/-
  A part of the proof.
-/
import Derived.Test.YtpcbkbalabgnlaaGreatRecordTellsYe
import Derived.Test.YtpcbkbalabgnlaaGreatRecordTellsFe
set_option maxRecDepth 100000
set_option linter.unusedVariables false
namespace Go.Proofs.YtpcbkbalabgnlaaGreat
open Go Go.GD
set_option synthInstance.maxHeartbeats 2000000
set_option synthInstance.maxSize 100000
noncomputable section
set_option maxRecDepth 100000 in
instance Qwm (s:(List Int)):Decidable (Q08 s):=by delta Q08;infer_instance
set_option maxRecDepth 100000 in
instance Zlh (m:(List Int)) (addr:Int) (size:Int):Decidable (Q6c m addr size):=by delta Q6c Tree.p Q3c;dsimp only[Tree.w];infer_instance
set_option maxRecDepth 100000 in
instance bits_mask_dec (n:Int):Decidable (Qbo n):=by delta Qbo Tree.p Qa6;dsimp only[Tree.w];infer_instance
set_option maxRecDepth 100000 in
instance bits_Field_dec (w:Int) (low:Int) (n:Int):Decidable (Q3v w low n):=by delta Q3v Tree.p Q8s;dsimp only[Tree.w];infer_instance
set_option maxRecDepth 100000 in
instance Zlf (w:Int) (low:Int) (n:Int) (v:Int):Decidable (Q8e w low n v):=by delta Q8e Tree.p Q4y;dsimp only[Tree.w];infer_instance
set_option maxRecDepth 100000 in
instance Zn3 (m:(List Int)) (addr:Int) (size:Int) (v:Int):Decidable (Q5j m addr size v):=by delta Q5j Tree.p Q4t;dsimp only[Tree.w];infer_instance
set_option maxRecDepth 100000 in
instance Zhh (x:Int) (n:Int):Decidable (Q4i x n):=by delta Q4i Tree.p Q3r;dsimp only[Tree.w];infer_instance
set_option maxRecDepth 100000 in
instance isa_Decode_dec (w:Int):Decidable (Qc6 w):=by delta Qc6 Tree.p Q7p;dsimp only[Tree.w];infer_instance
set_option maxRecDepth 100000 in
instance bits_Divide_dec (a:Int) (b:Int):Decidable (Q8g a b):=by delta Q8g Tree.p Q5w;dsimp only[Tree.w];infer_instance
set_option maxRecDepth 100000 in
instance cpu_Alu_dec (op:Int) (a:Int) (b:Int):Decidable (Qf0 op a b):=by delta Qf0 Tree.p Qgc;dsimp only[Tree.w];infer_instance
set_option maxRecDepth 100000 in
instance memory_Load_dec (m:(List Int)) (addr:Int) (size:Int):Decidable (Q2n m addr size):=by delta Q2n Tree.p Q62;dsimp only[Tree.w];infer_instance
set_option maxRecDepth 100000 in
instance Zj9 (pte:Int):Decidable (Q5a pte):=by delta Q5a Tree.p Q4a;dsimp only[Tree.w];infer_instance
set_option maxRecDepth 100000 in
instance paging_Walk_dec (m:(List Int)) (root:Int) (va:Int) (access:Int):Decidable (Q8q m root va access):=by delta Q8q Tree.p Q61;dsimp only[Tree.w];infer_instance
set_option maxRecDepth 100000 in
instance Zn1 (m:(List Int)) (entry:Int) (access:Int):Decidable (Q77 m entry access):=by delta Q77 Tree.p Q4u;dsimp only[Tree.w];infer_instance
set_option maxRecDepth 100000 in
instance cpu_Resolve_dec (c:Q02) (m:(List Int)) (va:Int) (size:Int) (access:Int):Decidable (Q6i c m va size access):=by delta Q6i Tree.p Q5v;dsimp only[Tree.w];infer_instance
set_option maxRecDepth 100000 in
instance cpu_Fetch_dec (c:Q02) (m:(List Int)):Decidable (Qe8 c m):=by delta Qe8 Tree.p Qah;dsimp only[Tree.w];infer_instance
set_option maxRecDepth 100000 in
instance cpu_set_dec (c:Q02) (register:Int) (v:Int):Decidable (Q5k c register v):=by delta Q5k Tree.p Q9h;dsimp only[Tree.w];infer_instance
set_option maxRecDepth 100000 in
instance cpu_load_dec (c:Q02) (m:(List Int)) (i:Q0h):Decidable (Qg2 c m i):=by delta Qg2 Tree.p Q9n;dsimp only[Tree.w];infer_instance
set_option maxRecDepth 100000 in
instance cpu_store_dec (c:Q02) (m:(List Int)) (i:Q0h):Decidable (Qe2 c m i):=by delta Qe2 Tree.p Q80;dsimp only[Tree.w];infer_instance
set_option maxRecDepth 100000 in
instance cpu_Write_dec (c:Q02) (csr:Int) (v:Int):Decidable (Qdg c csr v):=by delta Qdg Tree.p Q83;dsimp only[Tree.w];infer_instance
set_option maxRecDepth 100000 in
instance cpu_execute_dec (c:Q02) (i:Q0h):Decidable (Qaz c i):=by delta Qaz Tree.p Q3g;dsimp only[Tree.w];infer_instance
set_option maxRecDepth 100000 in
instance cpu_Exec_dec (c:Q02) (m:(List Int)):Decidable (Qdb c m):=by delta Qdb Tree.p Q78;dsimp only[Tree.w];infer_instance
set_option maxRecDepth 100000 in
instance Zg9 (x:Int):Decidable (Q6l x):=by delta Q6l Tree.p Q20;dsimp only[Tree.w];infer_instance
set_option maxRecDepth 100000 in
instance balloon_May_dec (b:Q07) (pages:Int):Decidable (Q8h b pages):=by delta Q8h Tree.p Q40;dsimp only[Tree.w];infer_instance
set_option maxRecDepth 100000 in
instance Zac (m:Q01):Decidable (Q1x m):=by delta Q1x Tree.p Q1l;dsimp only[Tree.w];infer_instance
set_option maxRecDepth 100000 in
instance machine_May_dec (m:Q01):Decidable (Q48 m):=by delta Q48 Tree.p Q4r;dsimp only[Tree.w];infer_instance
set_option maxRecDepth 100000 in
instance Z4s (x:Int):Decidable (Q3e x):=by delta Q3e Tree.p Q1t;dsimp only[Tree.w];infer_instance
set_option maxRecDepth 100000 in
instance Zm8 (b:Q07):Decidable (Q6f b):=by delta Q6f Tree.p Q51;dsimp only[Tree.w];infer_instance
set_option maxRecDepth 100000 in
instance Zh6 (b:Q07):Decidable (Q6u b):=by delta Q6u Tree.p Q3;dsimp only[Tree.w];infer_instance
set_option maxRecDepth 100000 in
instance Zkr (m:Q01):Decidable (Q8p m):=by delta Q8p Tree.p Q42;dsimp only[Tree.w];infer_instance
set_option maxRecDepth 100000 in
instance Zfy (m:Q01):Decidable (Q4n m):=by delta Q4n Tree.p Q22;dsimp only[Tree.w];infer_instance
set_option maxRecDepth 100000 in
instance Zn5 (m:Q01):Decidable (Q3f m):=by delta Q3f Tree.p Q3a;dsimp only[Tree.w];infer_instance
set_option maxRecDepth 100000 in
instance Zn4 (m:Q01):Decidable (Q79 m):=by delta Q79 Tree.p Q3u;dsimp only[Tree.w];infer_instance
set_option maxRecDepth 100000 in
instance Zlp (m:Q01):Decidable (Q6d m):=by delta Q6d Tree.p Q2o;dsimp only[Tree.w];infer_instance
set_option maxRecDepth 100000 in
instance balloon_In_dec (b:Q07) (port:Int):Decidable (Qc9 b port):=by delta Qc9 Tree.p Q7m;dsimp only[Tree.w];infer_instance
set_option maxRecDepth 100000 in
instance Zew (m:Q01) (port:Int) (clock:Int):Decidable (Q5n m port clock):=by delta Q5n Tree.p Q2l;dsimp only[Tree.w];infer_instance
set_option maxRecDepth 100000 in
instance memory_text_dec (words:(List Int)):Decidable (Q45 words):=by delta Q45;infer_instance
set_option maxRecDepth 100000 in
instance memory_Page_dec (m:(List Int)) (frame:Int):Decidable (Q6v m frame):=by delta Q6v Tree.p Q3y;dsimp only[Tree.w];infer_instance
set_option maxRecDepth 100000 in
instance disk_issue_dec (d0:Q0e) (m:(List Int)) (cmd:Int) (at0:Int):Decidable (Qc1 d0 m cmd at0):=by delta Qc1 Tree.p Q7j;dsimp only[Tree.w];infer_instance
set_option maxRecDepth 100000 in
instance disk_Out_dec (d0:Q0e) (m:(List Int)) (port:Int) (v:Int) (at0:Int):Decidable (Qfr d0 m port v at0):=by delta Qfr Tree.p Qb3;dsimp only[Tree.w];infer_instance
set_option maxRecDepth 100000 in
instance nic_send_dec (n:Q0n) (m:(List Int)) (at0:Int):Decidable (Qg n m at0):=by delta Qg Tree.p Qbe;dsimp only[Tree.w];infer_instance
set_option maxRecDepth 100000 in
instance nic_Out_dec (n:Q0n) (m:(List Int)) (port:Int) (v:Int) (at0:Int):Decidable (Qje n m port v at0):=by delta Qje Tree.p Qdk;dsimp only[Tree.w];infer_instance
set_option maxRecDepth 100000 in
instance Zk0 (m:(List Int)) (frame:Int) (s:(List UInt8)):Decidable (Q3w m frame s):=by delta Q3w Tree.p Q2d;dsimp only[Tree.w];infer_instance
set_option maxRecDepth 100000 in
instance Zjt (s:(List UInt8)) (count:Int):Decidable (Q37 s count):=by delta Q37;infer_instance
set_option maxRecDepth 100000 in
instance balloon_Out_dec (b:Q07) (m:(List Int)) (port:Int) (v:Int):Decidable (Qay b m port v):=by delta Qay Tree.p Q2z;dsimp only[Tree.w];infer_instance
set_option maxRecDepth 100000 in
instance Zb9 (m:Q01) (port:Int) (v:Int) (at0:Int):Decidable (Q4z m port v at0):=by delta Q4z Tree.p Q2a;dsimp only[Tree.w];infer_instance
set_option maxRecDepth 100000 in
instance Zms (m:Q01) (clock:Int):Decidable (Q3j m clock):=by delta Q3j Tree.p Q3b;dsimp only[Tree.w];infer_instance
set_option maxRecDepth 100000 in
instance make_Round_dec (n:Int) (k:Int):Decidable (Q1h n k):=by delta Q1h Tree.p Qd5;dsimp only[Tree.w];infer_instance
set_option maxRecDepth 100000 in
instance make_Inst_dec (n:Int):Decidable (Q7q n):=by delta Q7q Tree.p Qct;dsimp only[Tree.w];infer_instance
set_option maxRecDepth 100000 in
instance make_Code_dec (l:(List Int)):Decidable (Qbi l):=by delta Qbi Tree.p Qad;dsimp only[Tree.w];infer_instance
set_option maxRecDepth 100000 in
instance ref1_New_dec (pages:Int):Decidable (Qa9 pages):=by delta Qa9 Tree.p Qd9;dsimp only[Tree.w];infer_instance
set_option maxRecDepth 100000 in
instance ref7_New_dec (pages:Int) (blocks:Int) (image:(List Int)):Decidable (Q7i pages blocks image):=by delta Q7i Tree.p Q8d;dsimp only[Tree.w];infer_instance
set_option maxRecDepth 100000 in
instance Ziz (a:(List Int)) (b:(List Int)):Decidable (Q2k a b):=by delta Q2k;infer_instance
set_option maxRecDepth 100000 in
instance ref7_Same_dec (a:Q01) (b:Q01):Decidable (Qdt a b):=by delta Qdt Tree.p Qar;dsimp only[Tree.w];infer_instance
set_option maxRecDepth 100000 in
instance Zad (m:Q01):Decidable (Q2j m):=by delta Q2j Tree.p Q2g;dsimp only[Tree.w];infer_instance
end
end Go.Proofs.YtpcbkbalabgnlaaGreat

/-
  A part of the proof.
-/
import Derived.Test.YtpcbkbalabgnlaaGreatRecordPiecesYe
import Derived.Test.YtpcbkbalabgnlaaGreatRecordPiecesFe
set_option linter.unusedVariables false
namespace Go.Proofs.YtpcbkbalabgnlaaGreat
open Go Go.GD
set_option maxRecDepth 100000
set_option synthInstance.maxHeartbeats 2000000
set_option synthInstance.maxSize 100000
noncomputable section
set_option maxRecDepth 100000 in
instance Qw3 (s:(List Int)):Decidable (Q07 s):=by delta Q07;infer_instance
set_option maxRecDepth 100000 in
instance Zlr (m:(List Int)) (addr:Int) (size:Int):Decidable (Q5u m addr size):=by delta Q5u Tree.p Q3;dsimp only[Tree.w];infer_instance
set_option maxRecDepth 100000 in
instance bits_mask_dec (n:Int):Decidable (Qak n):=by delta Qak Tree.p Q9n;dsimp only[Tree.w];infer_instance
set_option maxRecDepth 100000 in
instance bits_Field_dec (w:Int) (low:Int) (n:Int):Decidable (Q3h w low n):=by delta Q3h Tree.p Q8a;dsimp only[Tree.w];infer_instance
set_option maxRecDepth 100000 in
instance Zkw (w:Int) (low:Int) (n:Int) (v:Int):Decidable (Q7w w low n v):=by delta Q7w Tree.p Q4l;dsimp only[Tree.w];infer_instance
set_option maxRecDepth 100000 in
instance Zm (m:(List Int)) (addr:Int) (size:Int) (v:Int):Decidable (Q51 m addr size v):=by delta Q51 Tree.p Q4g;dsimp only[Tree.w];infer_instance
set_option maxRecDepth 100000 in
instance Zh (x:Int) (n:Int):Decidable (Q43 x n):=by delta Q43 Tree.p Q3c;dsimp only[Tree.w];infer_instance
set_option maxRecDepth 100000 in
instance isa_Decode_dec (w:Int):Decidable (Qbe w):=by delta Qbe Tree.p Q6z;dsimp only[Tree.w];infer_instance
set_option maxRecDepth 100000 in
instance bits_Divide_dec (a:Int) (b:Int):Decidable (Q7x a b):=by delta Q7x Tree.p Q5c;dsimp only[Tree.w];infer_instance
set_option maxRecDepth 100000 in
instance cpu_Alu_dec (op:Int) (a:Int) (b:Int):Decidable (Qef op a b):=by delta Qef Tree.p Qf8;dsimp only[Tree.w];infer_instance
set_option maxRecDepth 100000 in
instance memory_Load_dec (m:(List Int)) (addr:Int) (size:Int):Decidable (Q2f m addr size):=by delta Q2f Tree.p Q5k;dsimp only[Tree.w];infer_instance
set_option maxRecDepth 100000 in
instance Zha (pte:Int):Decidable (Q4z pte):=by delta Q4z Tree.p Q3z;dsimp only[Tree.w];infer_instance
set_option maxRecDepth 100000 in
instance paging_Walk_dec (m:(List Int)) (root:Int) (va:Int) (access:Int):Decidable (Q7v m root va access):=by delta Q7v Tree.p Q5e;dsimp only[Tree.w];infer_instance
set_option maxRecDepth 100000 in
instance Zm7 (m:(List Int)) (entry:Int) (access:Int):Decidable (Q6n m entry access):=by delta Q6n Tree.p Q4h;dsimp only[Tree.w];infer_instance
set_option maxRecDepth 100000 in
instance cpu_Resolve_dec (c:Q02) (m:(List Int)) (va:Int) (size:Int) (access:Int):Decidable (Q6 c m va size access):=by delta Q6 Tree.p Q5i;dsimp only[Tree.w];infer_instance
set_option maxRecDepth 100000 in
instance cpu_Fetch_dec (c:Q02) (m:(List Int)):Decidable (Qdc c m):=by delta Qdc Tree.p Qa0;dsimp only[Tree.w];infer_instance
set_option maxRecDepth 100000 in
instance cpu_set_dec (c:Q02) (register:Int) (v:Int):Decidable (Q50 c register v):=by delta Q50 Tree.p Q8w;dsimp only[Tree.w];infer_instance
set_option maxRecDepth 100000 in
instance cpu_load_dec (c:Q02) (m:(List Int)) (i:Q0h):Decidable (Qf4 c m i):=by delta Qf4 Tree.p Q97;dsimp only[Tree.w];infer_instance
set_option maxRecDepth 100000 in
instance cpu_store_dec (c:Q02) (m:(List Int)) (i:Q0h):Decidable (Qcw c m i):=by delta Qcw Tree.p Q7j;dsimp only[Tree.w];infer_instance
set_option maxRecDepth 100000 in
instance cpu_Write_dec (c:Q02) (csr:Int) (v:Int):Decidable (Qcx c csr v):=by delta Qcx Tree.p Q7h;dsimp only[Tree.w];infer_instance
set_option maxRecDepth 100000 in
instance cpu_execute_dec (c:Q02) (i:Q0h):Decidable (Qa c i):=by delta Qa Tree.p Q36;dsimp only[Tree.w];infer_instance
set_option maxRecDepth 100000 in
instance cpu_Exec_dec (c:Q02) (m:(List Int)):Decidable (Qch c m):=by delta Qch Tree.p Q6i;dsimp only[Tree.w];infer_instance
set_option maxRecDepth 100000 in
instance Zgu (x:Int):Decidable (Q69 x):=by delta Q69 Tree.p Q1w;dsimp only[Tree.w];infer_instance
set_option maxRecDepth 100000 in
instance balloon_May_dec (b:Q06) (pages:Int):Decidable (Q7y b pages):=by delta Q7y Tree.p Q3j;dsimp only[Tree.w];infer_instance
set_option maxRecDepth 100000 in
instance Z9m (m:Q00):Decidable (Q1s m):=by delta Q1s Tree.p Q1h;dsimp only[Tree.w];infer_instance
set_option maxRecDepth 100000 in
instance machine_May_dec (m:Q00):Decidable (Q3s m):=by delta Q3s Tree.p Q4f;dsimp only[Tree.w];infer_instance
set_option maxRecDepth 100000 in
instance Z2l (x:Int):Decidable (Q33 x):=by delta Q33 Tree.p Q1o;dsimp only[Tree.w];infer_instance
set_option maxRecDepth 100000 in
instance Zl4 (b:Q06):Decidable (Q5y b):=by delta Q5y Tree.p Q4s;dsimp only[Tree.w];infer_instance
set_option maxRecDepth 100000 in
instance Zet (b:Q06):Decidable (Q5z b):=by delta Q5z Tree.p Q2l;dsimp only[Tree.w];infer_instance
set_option maxRecDepth 100000 in
instance Zk6 (m:Q00):Decidable (Q7z m):=by delta Q7z Tree.p Q3m;dsimp only[Tree.w];infer_instance
set_option maxRecDepth 100000 in
instance Zfj (m:Q00):Decidable (Q44 m):=by delta Q44 Tree.p Q1v;dsimp only[Tree.w];infer_instance
set_option maxRecDepth 100000 in
instance Zlz (m:Q00):Decidable (Q35 m):=by delta Q35 Tree.p Q32;dsimp only[Tree.w];infer_instance
set_option maxRecDepth 100000 in
instance Zmd (m:Q00):Decidable (Q6p m):=by delta Q6p Tree.p Q3g;dsimp only[Tree.w];infer_instance
set_option maxRecDepth 100000 in
instance Zk9 (m:Q00):Decidable (Q5v m):=by delta Q5v Tree.p Q2i;dsimp only[Tree.w];infer_instance
set_option maxRecDepth 100000 in
instance balloon_In_dec (b:Q06) (port:Int):Decidable (Qbd b port):=by delta Qbd Tree.p Q6v;dsimp only[Tree.w];infer_instance
set_option maxRecDepth 100000 in
instance Zea (m:Q00) (port:Int) (clock:Int):Decidable (Q5b m port clock):=by delta Q5b Tree.p Q2b;dsimp only[Tree.w];infer_instance
set_option maxRecDepth 100000 in
instance memory_text_dec (words:(List Int)):Decidable (Q3i words):=by delta Q3i;infer_instance
set_option maxRecDepth 100000 in
instance memory_Page_dec (m:(List Int)) (frame:Int):Decidable (Q64 m frame):=by delta Q64 Tree.p Q3l;dsimp only[Tree.w];infer_instance
set_option maxRecDepth 100000 in
instance disk_issue_dec (d0:Q0e) (m:(List Int)) (cmd:Int) (at0:Int):Decidable (Qbt d0 m cmd at0):=by delta Qbt Tree.p Q74;dsimp only[Tree.w];infer_instance
set_option maxRecDepth 100000 in
instance disk_Out_dec (d0:Q0e) (m:(List Int)) (port:Int) (v:Int) (at0:Int):Decidable (Qg2 d0 m port v at0):=by delta Qg2 Tree.p Qay;dsimp only[Tree.w];infer_instance
set_option maxRecDepth 100000 in
instance nic_send_dec (n:Q0n) (m:(List Int)) (at0:Int):Decidable (Qfu n m at0):=by delta Qfu Tree.p Qar;dsimp only[Tree.w];infer_instance
set_option maxRecDepth 100000 in
instance nic_Out_dec (n:Q0n) (m:(List Int)) (port:Int) (v:Int) (at0:Int):Decidable (Qi8 n m port v at0):=by delta Qi8 Tree.p Qdg;dsimp only[Tree.w];infer_instance
set_option maxRecDepth 100000 in
instance Zj2 (m:(List Int)) (frame:Int) (s:(List UInt8)):Decidable (Q3q m frame s):=by delta Q3q Tree.p Q25;dsimp only[Tree.w];infer_instance
set_option maxRecDepth 100000 in
instance Zix (s:(List UInt8)) (count:Int):Decidable (Q2v s count):=by delta Q2v;infer_instance
set_option maxRecDepth 100000 in
instance balloon_Out_dec (b:Q06) (m:(List Int)) (port:Int) (v:Int):Decidable (Qa3 b m port v):=by delta Qa3 Tree.p Q2p;dsimp only[Tree.w];infer_instance
set_option maxRecDepth 100000 in
instance Zcf (m:Q00) (port:Int) (v:Int) (at0:Int):Decidable (Q4q m port v at0):=by delta Q4q Tree.p Q20;dsimp only[Tree.w];infer_instance
set_option maxRecDepth 100000 in
instance Zm3 (m:Q00) (clock:Int):Decidable (Q34 m clock):=by delta Q34 Tree.p Q31;dsimp only[Tree.w];infer_instance
set_option maxRecDepth 100000 in
instance make_Round_dec (n:Int) (k:Int):Decidable (Q2k n k):=by delta Q2k Tree.p Qcl;dsimp only[Tree.w];infer_instance
set_option maxRecDepth 100000 in
instance make_Inst_dec (n:Int):Decidable (Q8t n):=by delta Q8t Tree.p Qc5;dsimp only[Tree.w];infer_instance
set_option maxRecDepth 100000 in
instance make_Code_dec (l:(List Int)):Decidable (Qax l):=by delta Qax Tree.p Qaa;dsimp only[Tree.w];infer_instance
set_option maxRecDepth 100000 in
instance ref1_New_dec (pages:Int):Decidable (Q9p pages):=by delta Q9p Tree.p Qcn;dsimp only[Tree.w];infer_instance
set_option maxRecDepth 100000 in
instance ref7_New_dec (pages:Int) (blocks:Int) (image:(List Int)):Decidable (Q70 pages blocks image):=by delta Q70 Tree.p Q88;dsimp only[Tree.w];infer_instance
set_option maxRecDepth 100000 in
instance Ziq (a:(List Int)) (b:(List Int)):Decidable (Q2a a b):=by delta Q2a;infer_instance
set_option maxRecDepth 100000 in
instance ref7_Same_dec (a:Q00) (b:Q00):Decidable (Qdd a b):=by delta Qdd Tree.p Q9o;dsimp only[Tree.w];infer_instance
set_option maxRecDepth 100000 in
instance Z9n (m:Q00):Decidable (Q28 m):=by delta Q28 Tree.p Q27;dsimp only[Tree.w];infer_instance
end
end Go.Proofs.YtpcbkbalabgnlaaGreat

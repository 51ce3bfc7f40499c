/-
  A part of the proof.
-/
import Derived.Test.YtpcbkbalabgnlaaGreatRecordTimerYe
import Derived.Test.YtpcbkbalabgnlaaGreatRecordTimerFe
set_option linter.unusedVariables false
namespace Go.Proofs.YtpcbkbalabgnlaaGreat
open Go Go.GD
set_option maxRecDepth 100000
set_option synthInstance.maxHeartbeats 2000000
set_option synthInstance.maxSize 100000
noncomputable section
set_option maxRecDepth 100000 in
instance Qpq (s:(List Int)):Decidable (Q04 s):=by delta Q04;infer_instance
set_option maxRecDepth 100000 in
instance Zaz (m:(List Int)) (addr:Int) (size:Int):Decidable (Q58 m addr size):=by delta Q58 Tree.p Q2q;dsimp only[Tree.w];infer_instance
set_option maxRecDepth 100000 in
instance bits_mask_dec (n:Int):Decidable (Q8z n):=by delta Q8z Tree.p Q8p;dsimp only[Tree.w];infer_instance
set_option maxRecDepth 100000 in
instance bits_Field_dec (w:Int) (low:Int) (n:Int):Decidable (Q3a w low n):=by delta Q3a Tree.p Q71;dsimp only[Tree.w];infer_instance
set_option maxRecDepth 100000 in
instance Zaa (w:Int) (low:Int) (n:Int) (v:Int):Decidable (Q6q w low n v):=by delta Q6q Tree.p Q43;dsimp only[Tree.w];infer_instance
set_option maxRecDepth 100000 in
instance Zbu (m:(List Int)) (addr:Int) (size:Int) (v:Int):Decidable (Q4m m addr size v):=by delta Q4m Tree.p Q3v;dsimp only[Tree.w];infer_instance
set_option maxRecDepth 100000 in
instance Z6p (x:Int) (n:Int):Decidable (Q3p x n):=by delta Q3p Tree.p Q33;dsimp only[Tree.w];infer_instance
set_option maxRecDepth 100000 in
instance isa_Decode_dec (w:Int):Decidable (Q9v w):=by delta Q9v Tree.p Q62;dsimp only[Tree.w];infer_instance
set_option maxRecDepth 100000 in
instance bits_Divide_dec (a:Int) (b:Int):Decidable (Q6v a b):=by delta Q6v Tree.p Q51;dsimp only[Tree.w];infer_instance
set_option maxRecDepth 100000 in
instance cpu_Alu_dec (op:Int) (a:Int) (b:Int):Decidable (Qbw op a b):=by delta Qbw Tree.p Qdd;dsimp only[Tree.w];infer_instance
set_option maxRecDepth 100000 in
instance memory_Load_dec (m:(List Int)) (addr:Int) (size:Int):Decidable (Q28 m addr size):=by delta Q28 Tree.p Q4z;dsimp only[Tree.w];infer_instance
set_option maxRecDepth 100000 in
instance Z8s (pte:Int):Decidable (Q4e pte):=by delta Q4e Tree.p Q3m;dsimp only[Tree.w];infer_instance
set_option maxRecDepth 100000 in
instance paging_Walk_dec (m:(List Int)) (root:Int) (va:Int) (access:Int):Decidable (Q6x m root va access):=by delta Q6x Tree.p Q4y;dsimp only[Tree.w];infer_instance
set_option maxRecDepth 100000 in
instance Zbt (m:(List Int)) (entry:Int) (access:Int):Decidable (Q5v m entry access):=by delta Q5v Tree.p Q3w;dsimp only[Tree.w];infer_instance
set_option maxRecDepth 100000 in
instance cpu_Resolve_dec (c:Q03) (m:(List Int)) (va:Int) (size:Int) (access:Int):Decidable (Q5d c m va size access):=by delta Q5d Tree.p Q50;dsimp only[Tree.w];infer_instance
set_option maxRecDepth 100000 in
instance cpu_Fetch_dec (c:Q03) (m:(List Int)):Decidable (Qb1 c m):=by delta Qb1 Tree.p Q8q;dsimp only[Tree.w];infer_instance
set_option maxRecDepth 100000 in
instance cpu_set_dec (c:Q03) (register:Int) (v:Int):Decidable (Q4o c register v):=by delta Q4o Tree.p Q7q;dsimp only[Tree.w];infer_instance
set_option maxRecDepth 100000 in
instance cpu_load_dec (c:Q03) (m:(List Int)) (i:Q0h):Decidable (Qcy c m i):=by delta Qcy Tree.p Q7s;dsimp only[Tree.w];infer_instance
set_option maxRecDepth 100000 in
instance cpu_store_dec (c:Q03) (m:(List Int)) (i:Q0h):Decidable (Qbe c m i):=by delta Qbe Tree.p Q6g;dsimp only[Tree.w];infer_instance
set_option maxRecDepth 100000 in
instance cpu_Write_dec (c:Q03) (csr:Int) (v:Int):Decidable (Qbc c csr v):=by delta Qbc Tree.p Q6h;dsimp only[Tree.w];infer_instance
set_option maxRecDepth 100000 in
instance cpu_execute_dec (c:Q03) (i:Q0h):Decidable (Q8o c i):=by delta Q8o Tree.p Q2z;dsimp only[Tree.w];infer_instance
set_option maxRecDepth 100000 in
instance cpu_Exec_dec (c:Q03) (m:(List Int)):Decidable (Qap c m):=by delta Qap Tree.p Q5z;dsimp only[Tree.w];infer_instance
set_option maxRecDepth 100000 in
instance Z6y (x:Int):Decidable (Q5q x):=by delta Q5q Tree.p Q1q;dsimp only[Tree.w];infer_instance
set_option maxRecDepth 100000 in
instance balloon_May_dec (b:Q07) (pages:Int):Decidable (Q8k b pages):=by delta Q8k Tree.p Q3y;dsimp only[Tree.w];infer_instance
set_option maxRecDepth 100000 in
instance Z19 (m:Q00):Decidable (Q2p m):=by delta Q2p Tree.p Q1n;dsimp only[Tree.w];infer_instance
set_option maxRecDepth 100000 in
instance machine_May_dec (m:Q00):Decidable (Q5l m):=by delta Q5l Tree.p Q61;dsimp only[Tree.w];infer_instance
set_option maxRecDepth 100000 in
instance Qw (x:Int):Decidable (Q2w x):=by delta Q2w Tree.p Q1j;dsimp only[Tree.w];infer_instance
set_option maxRecDepth 100000 in
instance Zav (b:Q07):Decidable (Q59 b):=by delta Q59 Tree.p Q40;dsimp only[Tree.w];infer_instance
set_option maxRecDepth 100000 in
instance Z68 (b:Q07):Decidable (Q5p b):=by delta Q5p Tree.p Q2h;dsimp only[Tree.w];infer_instance
set_option maxRecDepth 100000 in
instance Z9i (m:Q00):Decidable (Q7 m):=by delta Q7 Tree.p Q3g;dsimp only[Tree.w];infer_instance
set_option maxRecDepth 100000 in
instance Z6d (m:Q00):Decidable (Q3s m):=by delta Q3s Tree.p Q1p;dsimp only[Tree.w];infer_instance
set_option maxRecDepth 100000 in
instance Zbw (m:Q00):Decidable (Q3 m):=by delta Q3 Tree.p Q2u;dsimp only[Tree.w];infer_instance
set_option maxRecDepth 100000 in
instance Zbs (m:Q00):Decidable (Q5w m):=by delta Q5w Tree.p Q39;dsimp only[Tree.w];infer_instance
set_option maxRecDepth 100000 in
instance Zbb (m:Q00):Decidable (Q5b m):=by delta Q5b Tree.p Q2a;dsimp only[Tree.w];infer_instance
set_option maxRecDepth 100000 in
instance balloon_In_dec (b:Q07) (port:Int):Decidable (Q9l b port):=by delta Q9l Tree.p Q6a;dsimp only[Tree.w];infer_instance
set_option maxRecDepth 100000 in
instance Z4t (m:Q00) (port:Int) (clock:Int):Decidable (Q4r m port clock):=by delta Q4r Tree.p Q24;dsimp only[Tree.w];infer_instance
set_option maxRecDepth 100000 in
instance memory_text_dec (words:(List Int)):Decidable (Q3j words):=by delta Q3j;infer_instance
set_option maxRecDepth 100000 in
instance memory_Page_dec (m:(List Int)) (frame:Int):Decidable (Q5r m frame):=by delta Q5r Tree.p Q3b;dsimp only[Tree.w];infer_instance
set_option maxRecDepth 100000 in
instance disk_issue_dec (d0:Q0b) (m:(List Int)) (cmd:Int) (at0:Int):Decidable (Q9s d0 m cmd at0):=by delta Q9s Tree.p Q6c;dsimp only[Tree.w];infer_instance
set_option maxRecDepth 100000 in
instance disk_Out_dec (d0:Q0b) (m:(List Int)) (port:Int) (v:Int) (at0:Int):Decidable (Qdb d0 m port v at0):=by delta Qdb Tree.p Q8t;dsimp only[Tree.w];infer_instance
set_option maxRecDepth 100000 in
instance nic_send_dec (n:Q0m) (m:(List Int)) (at0:Int):Decidable (Qdc n m at0):=by delta Qdc Tree.p Q94;dsimp only[Tree.w];infer_instance
set_option maxRecDepth 100000 in
instance nic_Out_dec (n:Q0m) (m:(List Int)) (port:Int) (v:Int) (at0:Int):Decidable (Qey n m port v at0):=by delta Qey Tree.p Qay;dsimp only[Tree.w];infer_instance
set_option maxRecDepth 100000 in
instance Z7f (m:(List Int)) (frame:Int) (s:(List UInt8)):Decidable (Q3e m frame s):=by delta Q3e Tree.p Q1z;dsimp only[Tree.w];infer_instance
set_option maxRecDepth 100000 in
instance Z8r (s:(List UInt8)) (count:Int):Decidable (Q2o s count):=by delta Q2o;infer_instance
set_option maxRecDepth 100000 in
instance balloon_Out_dec (b:Q07) (m:(List Int)) (port:Int) (v:Int):Decidable (Q86 b m port v):=by delta Q86 Tree.p Q2f;dsimp only[Tree.w];infer_instance
set_option maxRecDepth 100000 in
instance Z2g (m:Q00) (port:Int) (v:Int) (at0:Int):Decidable (Q47 m port v at0):=by delta Q47 Tree.p Q1v;dsimp only[Tree.w];infer_instance
set_option maxRecDepth 100000 in
instance Zbo (m:Q00) (clock:Int):Decidable (Q2x m clock):=by delta Q2x Tree.p Q2v;dsimp only[Tree.w];infer_instance
set_option maxRecDepth 100000 in
instance make_Round_dec (n:Int) (k:Int):Decidable (Q52 n k):=by delta Q52 Tree.p Qd5;dsimp only[Tree.w];infer_instance
set_option maxRecDepth 100000 in
instance make_Inst_dec (n:Int):Decidable (Qds n):=by delta Qds Tree.p Qf5;dsimp only[Tree.w];infer_instance
set_option maxRecDepth 100000 in
instance make_Code_dec (l:(List Int)):Decidable (Qha l):=by delta Qha Tree.p Qi3;dsimp only[Tree.w];infer_instance
set_option maxRecDepth 100000 in
instance ref1_New_dec (pages:Int):Decidable (Qda pages):=by delta Qda Tree.p Qef;dsimp only[Tree.w];infer_instance
set_option maxRecDepth 100000 in
instance ref7_New_dec (pages:Int) (blocks:Int) (image:(List Int)):Decidable (Qaq pages blocks image):=by delta Qaq Tree.p Qeb;dsimp only[Tree.w];infer_instance
set_option maxRecDepth 100000 in
instance Z8h (a:(List Int)) (b:(List Int)):Decidable (Q4g a b):=by delta Q4g;infer_instance
set_option maxRecDepth 100000 in
instance ref7_Same_dec (a:Q00) (b:Q00):Decidable (Qi5 a b):=by delta Qi5 Tree.p Qhk;dsimp only[Tree.w];infer_instance
set_option maxRecDepth 100000 in
instance Z1a (m:Q00):Decidable (Q22 m):=by delta Q22 Tree.p Q2;dsimp only[Tree.w];infer_instance
end
end Go.Proofs.YtpcbkbalabgnlaaGreat

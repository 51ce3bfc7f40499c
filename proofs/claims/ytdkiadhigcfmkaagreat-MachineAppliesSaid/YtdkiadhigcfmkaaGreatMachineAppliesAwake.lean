/-
  A part of the proof.
-/
import Derived.Test.YtdkiadhigcfmkaaGreatMachineAppliesYe
import Derived.Test.YtdkiadhigcfmkaaGreatMachineAppliesFe
namespace Go.Proofs.YtdkiadhigcfmkaaGreat
open Go Go.GD
set_option linter.unusedVariables false
set_option maxRecDepth 100000
set_option synthInstance.maxHeartbeats 2000000
set_option synthInstance.maxSize 100000
noncomputable section
set_option maxRecDepth 100000 in
instance Qrd (s:(List Int)):Decidable (Q0c s):=by delta Q0c;infer_instance
set_option maxRecDepth 100000 in
instance Zdy (m:(List Int)) (addr:Int) (size:Int):Decidable (Q4b m addr size):=by delta Q4b Tree.p Q7z;dsimp only[Tree.w];infer_instance
set_option maxRecDepth 100000 in
instance bits_mask_dec (n:Int):Decidable (Q87 n):=by delta Q87 Tree.p Qgs;dsimp only[Tree.w];infer_instance
set_option maxRecDepth 100000 in
instance bits_Field_dec (w:Int) (low:Int) (n:Int):Decidable (Q25 w low n):=by delta Q25 Tree.p Qec;dsimp only[Tree.w];infer_instance
set_option maxRecDepth 100000 in
instance Ze4 (w:Int) (low:Int) (n:Int) (v:Int):Decidable (Q64 w low n v):=by delta Q64 Tree.p Q8g;dsimp only[Tree.w];infer_instance
set_option maxRecDepth 100000 in
instance Zek (m:(List Int)) (addr:Int) (size:Int) (v:Int):Decidable (Q3o m addr size v):=by delta Q3o Tree.p Q9t;dsimp only[Tree.w];infer_instance
set_option maxRecDepth 100000 in
instance Za5 (x:Int) (n:Int):Decidable (Q3 x n):=by delta Q3 Tree.p Q60;dsimp only[Tree.w];infer_instance
set_option maxRecDepth 100000 in
instance isa_Decode_dec (w:Int):Decidable (Q9w w):=by delta Q9w Tree.p Qex;dsimp only[Tree.w];infer_instance
set_option maxRecDepth 100000 in
instance bits_Divide_dec (a:Int) (b:Int):Decidable (Q5i a b):=by delta Q5i Tree.p Qbc;dsimp only[Tree.w];infer_instance
set_option maxRecDepth 100000 in
instance cpu_Alu_dec (op:Int) (a:Int) (b:Int):Decidable (Qcj op a b):=by delta Qcj Tree.p Qmp;dsimp only[Tree.w];infer_instance
set_option maxRecDepth 100000 in
instance memory_Load_dec (m:(List Int)) (addr:Int) (size:Int):Decidable (Q2c m addr size):=by delta Q2c Tree.p Qbt;dsimp only[Tree.w];infer_instance
set_option maxRecDepth 100000 in
instance Zbb (pte:Int):Decidable (Q3t pte):=by delta Q3t Tree.p Q76;dsimp only[Tree.w];infer_instance
set_option maxRecDepth 100000 in
instance paging_Walk_dec (m:(List Int)) (root:Int) (va:Int) (access:Int):Decidable (Q8a m root va access):=by delta Q8a Tree.p Qbn;dsimp only[Tree.w];infer_instance
set_option maxRecDepth 100000 in
instance Zeg (m:(List Int)) (entry:Int) (access:Int):Decidable (Q73 m entry access):=by delta Q73 Tree.p Q9r;dsimp only[Tree.w];infer_instance
set_option maxRecDepth 100000 in
instance cpu_Resolve_dec (c:Q03) (m:(List Int)) (va:Int) (size:Int) (access:Int):Decidable (Q4i c m va size access):=by delta Q4i Tree.p Qbl;dsimp only[Tree.w];infer_instance
set_option maxRecDepth 100000 in
instance cpu_Fetch_dec (c:Q03) (m:(List Int)):Decidable (Qbv c m):=by delta Qbv Tree.p Qgn;dsimp only[Tree.w];infer_instance
set_option maxRecDepth 100000 in
instance cpu_set_dec (c:Q03) (register:Int) (v:Int):Decidable (Q33 c register v):=by delta Q33 Tree.p Qo;dsimp only[Tree.w];infer_instance
set_option maxRecDepth 100000 in
instance cpu_load_dec (c:Q03) (m:(List Int)) (i:Q0i):Decidable (Qea c m i):=by delta Qea Tree.p Qjr;dsimp only[Tree.w];infer_instance
set_option maxRecDepth 100000 in
instance cpu_store_dec (c:Q03) (m:(List Int)) (i:Q0i):Decidable (Qba c m i):=by delta Qba Tree.p Qgd;dsimp only[Tree.w];infer_instance
set_option maxRecDepth 100000 in
instance cpu_Write_dec (c:Q03) (csr:Int) (v:Int):Decidable (Qbk c csr v):=by delta Qbk Tree.p Qh0;dsimp only[Tree.w];infer_instance
set_option maxRecDepth 100000 in
instance cpu_execute_dec (c:Q03) (i:Q0i):Decidable (Q8p c i):=by delta Q8p Tree.p Qbg;dsimp only[Tree.w];infer_instance
set_option maxRecDepth 100000 in
instance cpu_Exec_dec (c:Q03) (m:(List Int)):Decidable (Qew c m):=by delta Qew Tree.p Qjp;dsimp only[Tree.w];infer_instance
set_option maxRecDepth 100000 in
instance Z9l (x:Int):Decidable (Q4z x):=by delta Q4z Tree.p Q1m;dsimp only[Tree.w];infer_instance
set_option maxRecDepth 100000 in
instance balloon_May_dec (b:Q04) (pages:Int):Decidable (Q5u b pages):=by delta Q5u Tree.p Q2u;dsimp only[Tree.w];infer_instance
set_option maxRecDepth 100000 in
instance Z4 (m:Q00):Decidable (Q1g m):=by delta Q1g Tree.p Q1a;dsimp only[Tree.w];infer_instance
set_option maxRecDepth 100000 in
instance machine_May_dec (m:Q00):Decidable (Q1k m):=by delta Q1k Tree.p Q3w;dsimp only[Tree.w];infer_instance
set_option maxRecDepth 100000 in
instance Qyr (x:Int):Decidable (Q24 x):=by delta Q24 Tree.p Q2r;dsimp only[Tree.w];infer_instance
set_option maxRecDepth 100000 in
instance Ze0 (b:Q04):Decidable (Q4e b):=by delta Q4e Tree.p Q7x;dsimp only[Tree.w];infer_instance
set_option maxRecDepth 100000 in
instance Z8e (b:Q04):Decidable (Q4y b):=by delta Q4y Tree.p Q65;dsimp only[Tree.w];infer_instance
set_option maxRecDepth 100000 in
instance Ze9 (m:Q00):Decidable (Q69 m):=by delta Q69 Tree.p Q8k;dsimp only[Tree.w];infer_instance
set_option maxRecDepth 100000 in
instance Z85 (m:Q00):Decidable (Q39 m):=by delta Q39 Tree.p Q5y;dsimp only[Tree.w];infer_instance
set_option maxRecDepth 100000 in
instance Zej (m:Q00):Decidable (Q1z m):=by delta Q1z Tree.p Q56;dsimp only[Tree.w];infer_instance
set_option maxRecDepth 100000 in
instance Zem (m:Q00):Decidable (Q78 m):=by delta Q78 Tree.p Q9p;dsimp only[Tree.w];infer_instance
set_option maxRecDepth 100000 in
instance Zd (m:Q00):Decidable (Q6a m):=by delta Q6a Tree.p Q8f;dsimp only[Tree.w];infer_instance
set_option maxRecDepth 100000 in
instance balloon_In_dec (b:Q04) (port:Int):Decidable (Q9n b port):=by delta Q9n Tree.p Qe9;dsimp only[Tree.w];infer_instance
set_option maxRecDepth 100000 in
instance Z81 (m:Q00) (port:Int) (clock:Int):Decidable (Q4a m port clock):=by delta Q4a Tree.p Q5d;dsimp only[Tree.w];infer_instance
set_option maxRecDepth 100000 in
instance memory_text_dec (words:(List Int)):Decidable (Q4g words):=by delta Q4g;infer_instance
set_option maxRecDepth 100000 in
instance memory_Page_dec (m:(List Int)) (frame:Int):Decidable (Q4l m frame):=by delta Q4l Tree.p Q3y;dsimp only[Tree.w];infer_instance
set_option maxRecDepth 100000 in
instance disk_issue_dec (d0:Q0b) (m:(List Int)) (cmd:Int) (at0:Int):Decidable (Q9k d0 m cmd at0):=by delta Q9k Tree.p Qeo;dsimp only[Tree.w];infer_instance
set_option maxRecDepth 100000 in
instance disk_Out_dec (d0:Q0b) (m:(List Int)) (port:Int) (v:Int) (at0:Int):Decidable (Qeb d0 m port v at0):=by delta Qeb Tree.p Qk8;dsimp only[Tree.w];infer_instance
set_option maxRecDepth 100000 in
instance nic_send_dec (n:Q0k) (m:(List Int)) (at0:Int):Decidable (Qe2 n m at0):=by delta Qe2 Tree.p Qk6;dsimp only[Tree.w];infer_instance
set_option maxRecDepth 100000 in
instance nic_Out_dec (n:Q0k) (m:(List Int)) (port:Int) (v:Int) (at0:Int):Decidable (Qgp n m port v at0):=by delta Qgp Tree.p Qnk;dsimp only[Tree.w];infer_instance
set_option maxRecDepth 100000 in
instance Zao (m:(List Int)) (frame:Int) (s:(List UInt8)):Decidable (Q2k m frame s):=by delta Q2k Tree.p Q1q;dsimp only[Tree.w];infer_instance
set_option maxRecDepth 100000 in
instance Zbx (s:(List UInt8)) (count:Int):Decidable (Q41 s count):=by delta Q41;infer_instance
set_option maxRecDepth 100000 in
instance balloon_Out_dec (b:Q04) (m:(List Int)) (port:Int) (v:Int):Decidable (Q8e b m port v):=by delta Q8e Tree.p Qbq;dsimp only[Tree.w];infer_instance
set_option maxRecDepth 100000 in
instance Z6v (m:Q00) (port:Int) (v:Int) (at0:Int):Decidable (Q3v m port v at0):=by delta Q3v Tree.p Q4q;dsimp only[Tree.w];infer_instance
set_option maxRecDepth 100000 in
instance Zbq (m:Q00) (clock:Int):Decidable (Q5c m clock):=by delta Q5c Tree.p Q77;dsimp only[Tree.w];infer_instance
set_option maxRecDepth 100000 in
instance make_Round_dec (n:Int) (k:Int):Decidable (Q0t n k):=by delta Q0t Tree.p Qdz;dsimp only[Tree.w];infer_instance
set_option maxRecDepth 100000 in
instance make_Inst_dec (n:Int):Decidable (Q4w n):=by delta Q4w Tree.p Qdw;dsimp only[Tree.w];infer_instance
set_option maxRecDepth 100000 in
instance make_Code_dec (l:(List Int)):Decidable (Q3q l):=by delta Q3q Tree.p Q7i;dsimp only[Tree.w];infer_instance
set_option maxRecDepth 100000 in
instance memory_New_dec (pages:Int):Decidable (Q59 pages):=by delta Q59 Tree.p Q7t;dsimp only[Tree.w];infer_instance
set_option maxRecDepth 100000 in
instance machine_New_dec (pages:Int) (blocks:Int) (image:(List Int)):Decidable (Q2d pages blocks image):=by delta Q2d Tree.p Q3r;dsimp only[Tree.w];infer_instance
set_option maxRecDepth 100000 in
instance Qr7 (s1:(List Int)) (s2:(List Int)):Decidable (Q13 s1 s2):=by delta Q13;infer_instance
set_option maxRecDepth 100000 in
instance Zeh (a:Q00) (b:Q00):Decidable (Q75 a b):=by delta Q75 Tree.p Q9h;dsimp only[Tree.w];infer_instance
set_option maxRecDepth 100000 in
instance ref1_New_dec (pages:Int):Decidable (Qe4 pages):=by delta Qe4 Tree.p Qjv;dsimp only[Tree.w];infer_instance
set_option maxRecDepth 100000 in
instance ref7_New_dec (pages:Int) (blocks:Int) (image:(List Int)):Decidable (Q2g pages blocks image):=by delta Q2g Tree.p Q61;dsimp only[Tree.w];infer_instance
set_option maxRecDepth 100000 in
instance Zam (a:(List Int)) (b:(List Int)):Decidable (Q2l a b):=by delta Q2l;infer_instance
set_option maxRecDepth 100000 in
instance ref7_Same_dec (a:Q00) (b:Q00):Decidable (Q27 a b):=by delta Q27 Tree.p Q5p;dsimp only[Tree.w];infer_instance
set_option maxRecDepth 100000 in
instance law12_awake_dec:Decidable (Q11):=by delta Q11 Tree.p Qbb;dsimp only[Tree.w];infer_instance
set_option maxRecDepth 100000 in
instance Z66 (pages:Int) (blocks:Int) (image:(List Int)) (l:(List Int)) (made:Bool):Decidable (Q5r pages blocks image l made):=by delta Q5r Tree.p Q4r;dsimp only[Tree.w];infer_instance
theorem Qd6:Q11:=of_decide_eq_true (by kernel_rfl)
theorem Qzm:Q1s=true:=by kernel_rfl
end
end Go.Proofs.YtdkiadhigcfmkaaGreat

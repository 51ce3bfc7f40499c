/-
  A part of the proof.
-/
import Derived.Test.YtdkiadhigcfmkaaGreatMachineInterruptsYe
import Derived.Test.YtdkiadhigcfmkaaGreatMachineInterruptsFe
namespace Go.Proofs.YtdkiadhigcfmkaaGreat
open Go Go.GD
set_option linter.unusedVariables false
set_option maxRecDepth 100000
set_option synthInstance.maxHeartbeats 2000000
set_option synthInstance.maxSize 100000
noncomputable section
set_option maxRecDepth 100000 in
instance Qt2 (s:(List Int)):Decidable (Q06 s):=by delta Q06;infer_instance
set_option maxRecDepth 100000 in
instance Zga (m:(List Int)) (addr:Int) (size:Int):Decidable (Q6l m addr size):=by delta Q6l Tree.p Q3o;dsimp only[Tree.w];infer_instance
set_option maxRecDepth 100000 in
instance bits_mask_dec (n:Int):Decidable (Qbc n):=by delta Qbc Tree.p Qcb;dsimp only[Tree.w];infer_instance
set_option maxRecDepth 100000 in
instance bits_Field_dec (w:Int) (low:Int) (n:Int):Decidable (Q3i w low n):=by delta Q3i Tree.p Qax;dsimp only[Tree.w];infer_instance
set_option maxRecDepth 100000 in
instance Zfs (w:Int) (low:Int) (n:Int) (v:Int):Decidable (Q99 w low n v):=by delta Q99 Tree.p Q6e;dsimp only[Tree.w];infer_instance
set_option maxRecDepth 100000 in
instance Zhd (m:(List Int)) (addr:Int) (size:Int) (v:Int):Decidable (Q59 m addr size v):=by delta Q59 Tree.p Q61;dsimp only[Tree.w];infer_instance
set_option maxRecDepth 100000 in
instance Zb7 (x:Int) (n:Int):Decidable (Q4l x n):=by delta Q4l Tree.p Q4j;dsimp only[Tree.w];infer_instance
set_option maxRecDepth 100000 in
instance isa_Decode_dec (w:Int):Decidable (Qd w):=by delta Qd Tree.p Q8p;dsimp only[Tree.w];infer_instance
set_option maxRecDepth 100000 in
instance bits_Divide_dec (a:Int) (b:Int):Decidable (Q89 a b):=by delta Q89 Tree.p Q7c;dsimp only[Tree.w];infer_instance
set_option maxRecDepth 100000 in
instance cpu_Alu_dec (op:Int) (a:Int) (b:Int):Decidable (Qg4 op a b):=by delta Qg4 Tree.p Qik;dsimp only[Tree.w];infer_instance
set_option maxRecDepth 100000 in
instance memory_Load_dec (m:(List Int)) (addr:Int) (size:Int):Decidable (Q2l m addr size):=by delta Q2l Tree.p Q7e;dsimp only[Tree.w];infer_instance
set_option maxRecDepth 100000 in
instance Zdm (pte:Int):Decidable (Q5u pte):=by delta Q5u Tree.p Q5d;dsimp only[Tree.w];infer_instance
set_option maxRecDepth 100000 in
instance paging_Walk_dec (m:(List Int)) (root:Int) (va:Int) (access:Int):Decidable (Q8u m root va access):=by delta Q8u Tree.p Q7;dsimp only[Tree.w];infer_instance
set_option maxRecDepth 100000 in
instance Zh8 (m:(List Int)) (entry:Int) (access:Int):Decidable (Q7j m entry access):=by delta Q7j Tree.p Q67;dsimp only[Tree.w];infer_instance
set_option maxRecDepth 100000 in
instance cpu_Resolve_dec (c:Q03) (m:(List Int)) (va:Int) (size:Int) (access:Int):Decidable (Q6k c m va size access):=by delta Q6k Tree.p Q70;dsimp only[Tree.w];infer_instance
set_option maxRecDepth 100000 in
instance cpu_Fetch_dec (c:Q03) (m:(List Int)):Decidable (Qf3 c m):=by delta Qf3 Tree.p Qcd;dsimp only[Tree.w];infer_instance
set_option maxRecDepth 100000 in
instance cpu_set_dec (c:Q03) (register:Int) (v:Int):Decidable (Q4r c register v):=by delta Q4r Tree.p Qa5;dsimp only[Tree.w];infer_instance
set_option maxRecDepth 100000 in
instance cpu_load_dec (c:Q03) (m:(List Int)) (i:Q0g):Decidable (Qhu c m i):=by delta Qhu Tree.p Qas;dsimp only[Tree.w];infer_instance
set_option maxRecDepth 100000 in
instance cpu_store_dec (c:Q03) (m:(List Int)) (i:Q0g):Decidable (Qep c m i):=by delta Qep Tree.p Q88;dsimp only[Tree.w];infer_instance
set_option maxRecDepth 100000 in
instance cpu_Write_dec (c:Q03) (csr:Int) (v:Int):Decidable (Qf c csr v):=by delta Qf Tree.p Q8i;dsimp only[Tree.w];infer_instance
set_option maxRecDepth 100000 in
instance cpu_execute_dec (c:Q03) (i:Q0g):Decidable (Qbx c i):=by delta Qbx Tree.p Q3f;dsimp only[Tree.w];infer_instance
set_option maxRecDepth 100000 in
instance cpu_Exec_dec (c:Q03) (m:(List Int)):Decidable (Qdf c m):=by delta Qdf Tree.p Q8;dsimp only[Tree.w];infer_instance
set_option maxRecDepth 100000 in
instance Zbi (x:Int):Decidable (Q7b x):=by delta Q7b Tree.p Q2d;dsimp only[Tree.w];infer_instance
set_option maxRecDepth 100000 in
instance balloon_May_dec (b:Q05) (pages:Int):Decidable (Q8g b pages):=by delta Q8g Tree.p Q4b;dsimp only[Tree.w];infer_instance
set_option maxRecDepth 100000 in
instance Z64 (m:Q00):Decidable (Q1x m):=by delta Q1x Tree.p Q1l;dsimp only[Tree.w];infer_instance
set_option maxRecDepth 100000 in
instance machine_May_dec (m:Q00):Decidable (Q22 m):=by delta Q22 Tree.p Q5p;dsimp only[Tree.w];infer_instance
set_option maxRecDepth 100000 in
instance Z05 (x:Int):Decidable (Q3h x):=by delta Q3h Tree.p Q2a;dsimp only[Tree.w];infer_instance
set_option maxRecDepth 100000 in
instance Zgd (b:Q05):Decidable (Q6p b):=by delta Q6p Tree.p Q6i;dsimp only[Tree.w];infer_instance
set_option maxRecDepth 100000 in
instance Zcs (b:Q05):Decidable (Q76 b):=by delta Q76 Tree.p Q3a;dsimp only[Tree.w];infer_instance
set_option maxRecDepth 100000 in
instance Zgk (m:Q00):Decidable (Q4h m):=by delta Q4h Tree.p Q4o;dsimp only[Tree.w];infer_instance
set_option maxRecDepth 100000 in
instance Zbt (m:Q00):Decidable (Q5 m):=by delta Q5 Tree.p Q2e;dsimp only[Tree.w];infer_instance
set_option maxRecDepth 100000 in
instance Zha (m:Q00):Decidable (Q1q m):=by delta Q1q Tree.p Q1s;dsimp only[Tree.w];infer_instance
set_option maxRecDepth 100000 in
instance Zhb (m:Q00):Decidable (Q7k m):=by delta Q7k Tree.p Q4e;dsimp only[Tree.w];infer_instance
set_option maxRecDepth 100000 in
instance Zh5 (m:Q00):Decidable (Q6f m):=by delta Q6f Tree.p Q4s;dsimp only[Tree.w];infer_instance
set_option maxRecDepth 100000 in
instance balloon_In_dec (b:Q05) (port:Int):Decidable (Qd1 b port):=by delta Qd1 Tree.p Q90;dsimp only[Tree.w];infer_instance
set_option maxRecDepth 100000 in
instance Za6 (m:Q00) (port:Int) (clock:Int):Decidable (Q44 m port clock):=by delta Q44 Tree.p Q2z;dsimp only[Tree.w];infer_instance
set_option maxRecDepth 100000 in
instance memory_text_dec (words:(List Int)):Decidable (Q6c words):=by delta Q6c;infer_instance
set_option maxRecDepth 100000 in
instance memory_Page_dec (m:(List Int)) (frame:Int):Decidable (Q6n m frame):=by delta Q6n Tree.p Q4a;dsimp only[Tree.w];infer_instance
set_option maxRecDepth 100000 in
instance disk_issue_dec (d0:Q0d) (m:(List Int)) (cmd:Int) (at0:Int):Decidable (Qd4 d0 m cmd at0):=by delta Qd4 Tree.p Q8h;dsimp only[Tree.w];infer_instance
set_option maxRecDepth 100000 in
instance disk_Out_dec (d0:Q0d) (m:(List Int)) (port:Int) (v:Int) (at0:Int):Decidable (Qho d0 m port v at0):=by delta Qho Tree.p Qch;dsimp only[Tree.w];infer_instance
set_option maxRecDepth 100000 in
instance nic_send_dec (n:Q0m) (m:(List Int)) (at0:Int):Decidable (Qha n m at0):=by delta Qha Tree.p Qca;dsimp only[Tree.w];infer_instance
set_option maxRecDepth 100000 in
instance nic_Out_dec (n:Q0m) (m:(List Int)) (port:Int) (v:Int) (at0:Int):Decidable (Qjj n m port v at0):=by delta Qjj Tree.p Qfl;dsimp only[Tree.w];infer_instance
set_option maxRecDepth 100000 in
instance Ze5 (m:(List Int)) (frame:Int) (s:(List UInt8)):Decidable (Q3x m frame s):=by delta Q3x Tree.p Q2n;dsimp only[Tree.w];infer_instance
set_option maxRecDepth 100000 in
instance Zde (s:(List UInt8)) (count:Int):Decidable (Q5h s count):=by delta Q5h;infer_instance
set_option maxRecDepth 100000 in
instance balloon_Out_dec (b:Q05) (m:(List Int)) (port:Int) (v:Int):Decidable (Qbv b m port v):=by delta Qbv Tree.p Q2y;dsimp only[Tree.w];infer_instance
set_option maxRecDepth 100000 in
instance Z87 (m:Q00) (port:Int) (v:Int) (at0:Int):Decidable (Q3m m port v at0):=by delta Q3m Tree.p Q2q;dsimp only[Tree.w];infer_instance
set_option maxRecDepth 100000 in
instance Zei (m:Q00) (clock:Int):Decidable (Q3y m clock):=by delta Q3y Tree.p Q42;dsimp only[Tree.w];infer_instance
set_option maxRecDepth 100000 in
instance make_Round_dec (n:Int) (k:Int):Decidable (Q1u n k):=by delta Q1u Tree.p Qhr;dsimp only[Tree.w];infer_instance
set_option maxRecDepth 100000 in
instance make_Inst_dec (n:Int):Decidable (Q95 n):=by delta Q95 Tree.p Qft;dsimp only[Tree.w];infer_instance
set_option maxRecDepth 100000 in
instance make_Code_dec (l:(List Int)):Decidable (Q5q l):=by delta Q5q Tree.p Qaf;dsimp only[Tree.w];infer_instance
set_option maxRecDepth 100000 in
instance memory_New_dec (pages:Int):Decidable (Q7w pages):=by delta Q7w Tree.p Qay;dsimp only[Tree.w];infer_instance
set_option maxRecDepth 100000 in
instance machine_New_dec (pages:Int) (blocks:Int) (image:(List Int)):Decidable (Q3r pages blocks image):=by delta Q3r Tree.p Q5n;dsimp only[Tree.w];infer_instance
set_option maxRecDepth 100000 in
instance Qt0 (s1:(List Int)) (s2:(List Int)):Decidable (Q1d s1 s2):=by delta Q1d;infer_instance
set_option maxRecDepth 100000 in
instance Zh9 (a:Q00) (b:Q00):Decidable (Q34 a b):=by delta Q34 Tree.p Q7t;dsimp only[Tree.w];infer_instance
set_option maxRecDepth 100000 in
instance ref1_New_dec (pages:Int):Decidable (Qh9 pages):=by delta Qh9 Tree.p Qmi;dsimp only[Tree.w];infer_instance
set_option maxRecDepth 100000 in
instance ref7_New_dec (pages:Int) (blocks:Int) (image:(List Int)):Decidable (Q3s pages blocks image):=by delta Q3s Tree.p Q7q;dsimp only[Tree.w];infer_instance
set_option maxRecDepth 100000 in
instance Ze8 (a:(List Int)) (b:(List Int)):Decidable (Qbe a b):=by delta Qbe;infer_instance
set_option maxRecDepth 100000 in
instance ref7_Same_dec (a:Q00) (b:Q00):Decidable (Q93 a b):=by delta Q93 Tree.p Qh5;dsimp only[Tree.w];infer_instance
set_option maxRecDepth 100000 in
instance law12_awake_dec:Decidable (Q0x):=by delta Q0x Tree.p Qew;dsimp only[Tree.w];infer_instance
set_option maxRecDepth 100000 in
instance Z6h (pages:Int) (blocks:Int) (image:(List Int)) (l:(List Int)) (made:Bool):Decidable (Q8y pages blocks image l made):=by delta Q8y Tree.p Q78;dsimp only[Tree.w];infer_instance
theorem Qg1:Q0x:=of_decide_eq_true (by kernel_rfl)
theorem Z1v:Q1o=true:=by kernel_rfl
end
end Go.Proofs.YtdkiadhigcfmkaaGreat

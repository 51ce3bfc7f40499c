/-
  A part of the proof.
-/
import Derived.Test.YtdkiadhigcfmkaaGreatMachineKeepsYe
import Derived.Test.YtdkiadhigcfmkaaGreatMachineKeepsFe
namespace Go.Proofs.YtdkiadhigcfmkaaGreat
open Go Go.GD
set_option linter.unusedVariables false
set_option maxRecDepth 100000
set_option synthInstance.maxHeartbeats 2000000
set_option synthInstance.maxSize 100000
noncomputable section
set_option maxRecDepth 100000 in
instance Qrz (s : (List Int)) : Decidable (Q05 s) := by delta Q05; infer_instance
set_option maxRecDepth 100000 in
instance Zee (m : (List Int)) (addr : Int) (size : Int) : Decidable (Q4t m addr size) := by delta Q4t Tree.p Q50; dsimp only [Tree.w]; infer_instance
set_option maxRecDepth 100000 in
instance bits_mask_dec (n : Int) : Decidable (Q8s n) := by delta Q8s Tree.p Q9w; dsimp only [Tree.w]; infer_instance
set_option maxRecDepth 100000 in
instance bits_Field_dec (w : Int) (low : Int) (n : Int) : Decidable (Q2c w low n) := by delta Q2c Tree.p Q86; dsimp only [Tree.w]; infer_instance
set_option maxRecDepth 100000 in
instance Zdl (w : Int) (low : Int) (n : Int) (v : Int) : Decidable (Q7 w low n v) := by delta Q7 Tree.p Q4q; dsimp only [Tree.w]; infer_instance
set_option maxRecDepth 100000 in
instance Zet (m : (List Int)) (addr : Int) (size : Int) (v : Int) : Decidable (Q3t m addr size v) := by delta Q3t Tree.p Q5m; dsimp only [Tree.w]; infer_instance
set_option maxRecDepth 100000 in
instance Z9f (x : Int) (n : Int) : Decidable (Q3i x n) := by delta Q3i Tree.p Q32; dsimp only [Tree.w]; infer_instance
set_option maxRecDepth 100000 in
instance isa_Decode_dec (w : Int) : Decidable (Qab w) := by delta Qab Tree.p Q7y; dsimp only [Tree.w]; infer_instance
set_option maxRecDepth 100000 in
instance bits_Divide_dec (a : Int) (b : Int) : Decidable (Q5z a b) := by delta Q5z Tree.p Q6q; dsimp only [Tree.w]; infer_instance
set_option maxRecDepth 100000 in
instance cpu_Alu_dec (op : Int) (a : Int) (b : Int) : Decidable (Qds op a b) := by delta Qds Tree.p Qgc; dsimp only [Tree.w]; infer_instance
set_option maxRecDepth 100000 in
instance memory_Load_dec (m : (List Int)) (addr : Int) (size : Int) : Decidable (Q1s m addr size) := by delta Q1s Tree.p Q6p; dsimp only [Tree.w]; infer_instance
set_option maxRecDepth 100000 in
instance Zbf (pte : Int) : Decidable (Q4a pte) := by delta Q4a Tree.p Q3r; dsimp only [Tree.w]; infer_instance
set_option maxRecDepth 100000 in
instance paging_Walk_dec (m : (List Int)) (root : Int) (va : Int) (access : Int) : Decidable (Q64 m root va access) := by delta Q64 Tree.p Q6n; dsimp only [Tree.w]; infer_instance
set_option maxRecDepth 100000 in
instance Zev (m : (List Int)) (entry : Int) (access : Int) : Decidable (Q5d m entry access) := by delta Q5d Tree.p Q5n; dsimp only [Tree.w]; infer_instance
set_option maxRecDepth 100000 in
instance cpu_Resolve_dec (c : Q03) (m : (List Int)) (va : Int) (size : Int) (access : Int) : Decidable (Q4p c m va size access) := by delta Q4p Tree.p Q6k; dsimp only [Tree.w]; infer_instance
set_option maxRecDepth 100000 in
instance cpu_Fetch_dec (c : Q03) (m : (List Int)) : Decidable (Qc4 c m) := by delta Qc4 Tree.p Q9i; dsimp only [Tree.w]; infer_instance
set_option maxRecDepth 100000 in
instance cpu_set_dec (c : Q03) (register : Int) (v : Int) : Decidable (Q3d c register v) := by delta Q3d Tree.p Qbb; dsimp only [Tree.w]; infer_instance
set_option maxRecDepth 100000 in
instance cpu_load_dec (c : Q03) (m : (List Int)) (i : Q0j) : Decidable (Qeo c m i) := by delta Qeo Tree.p Q80; dsimp only [Tree.w]; infer_instance
set_option maxRecDepth 100000 in
instance cpu_store_dec (c : Q03) (m : (List Int)) (i : Q0j) : Decidable (Qc c m i) := by delta Qc Tree.p Q68; dsimp only [Tree.w]; infer_instance
set_option maxRecDepth 100000 in
instance cpu_Write_dec (c : Q03) (csr : Int) (v : Int) : Decidable (Qc8 c csr v) := by delta Qc8 Tree.p Q6c; dsimp only [Tree.w]; infer_instance
set_option maxRecDepth 100000 in
instance cpu_execute_dec (c : Q03) (i : Q0j) : Decidable (Q8t c i) := by delta Q8t Tree.p Q2a; dsimp only [Tree.w]; infer_instance
set_option maxRecDepth 100000 in
instance cpu_Exec_dec (c : Q03) (m : (List Int)) : Decidable (Q88 c m) := by delta Q88 Tree.p Q5p; dsimp only [Tree.w]; infer_instance
set_option maxRecDepth 100000 in
instance Z9q (x : Int) : Decidable (Q56 x) := by delta Q56 Tree.p Q1m; dsimp only [Tree.w]; infer_instance
set_option maxRecDepth 100000 in
instance balloon_May_dec (b : Q06) (pages : Int) : Decidable (Q61 b pages) := by delta Q61 Tree.p Q2x; dsimp only [Tree.w]; infer_instance
set_option maxRecDepth 100000 in
instance Z4m (m : Q00) : Decidable (Q1i m) := by delta Q1i Tree.p Q1c; dsimp only [Tree.w]; infer_instance
set_option maxRecDepth 100000 in
instance machine_May_dec (m : Q00) : Decidable (Q18 m) := by delta Q18 Tree.p Q4; dsimp only [Tree.w]; infer_instance
set_option maxRecDepth 100000 in
instance Qzl (x : Int) : Decidable (Q2b x) := by delta Q2b Tree.p Q1n; dsimp only [Tree.w]; infer_instance
set_option maxRecDepth 100000 in
instance Zde (b : Q06) : Decidable (Q4w b) := by delta Q4w Tree.p Q4z; dsimp only [Tree.w]; infer_instance
set_option maxRecDepth 100000 in
instance Za1 (b : Q06) : Decidable (Q5b b) := by delta Q5b Tree.p Q35; dsimp only [Tree.w]; infer_instance
set_option maxRecDepth 100000 in
instance Zel (m : Q00) : Decidable (Q6r m) := by delta Q6r Tree.p Q4x; dsimp only [Tree.w]; infer_instance
set_option maxRecDepth 100000 in
instance Zad (m : Q00) : Decidable (Q3a m) := by delta Q3a Tree.p Q33; dsimp only [Tree.w]; infer_instance
set_option maxRecDepth 100000 in
instance Zes (m : Q00) : Decidable (Q23 m) := by delta Q23 Tree.p Q31; dsimp only [Tree.w]; infer_instance
set_option maxRecDepth 100000 in
instance Zeu (m : Q00) : Decidable (Q3s m) := by delta Q3s Tree.p Q4e; dsimp only [Tree.w]; infer_instance
set_option maxRecDepth 100000 in
instance Zcr (m : Q00) : Decidable (Q36 m) := by delta Q36 Tree.p Q2f; dsimp only [Tree.w]; infer_instance
set_option maxRecDepth 100000 in
instance balloon_In_dec (b : Q06) (port : Int) : Decidable (Qa4 b port) := by delta Qa4 Tree.p Q87; dsimp only [Tree.w]; infer_instance
set_option maxRecDepth 100000 in
instance Z8i (m : Q00) (port : Int) (clock : Int) : Decidable (Q2t m port clock) := by delta Q2t Tree.p Q2; dsimp only [Tree.w]; infer_instance
set_option maxRecDepth 100000 in
instance memory_text_dec (words : (List Int)) : Decidable (Q4u words) := by delta Q4u; infer_instance
set_option maxRecDepth 100000 in
instance memory_Page_dec (m : (List Int)) (frame : Int) : Decidable (Q4y m frame) := by delta Q4y Tree.p Q6y; dsimp only [Tree.w]; infer_instance
set_option maxRecDepth 100000 in
instance disk_issue_dec (d0 : Q0d) (m : (List Int)) (cmd : Int) (at0 : Int) : Decidable (Qad d0 m cmd at0) := by delta Qad Tree.p Q83; dsimp only [Tree.w]; infer_instance
set_option maxRecDepth 100000 in
instance disk_Out_dec (d0 : Q0d) (m : (List Int)) (port : Int) (v : Int) (at0 : Int) : Decidable (Qen d0 m port v at0) := by delta Qen Tree.p Qch; dsimp only [Tree.w]; infer_instance
set_option maxRecDepth 100000 in
instance nic_send_dec (n : Q0l) (m : (List Int)) (at0 : Int) : Decidable (Qem n m at0) := by delta Qem Tree.p Qci; dsimp only [Tree.w]; infer_instance
set_option maxRecDepth 100000 in
instance nic_Out_dec (n : Q0l) (m : (List Int)) (port : Int) (v : Int) (at0 : Int) : Decidable (Qgp n m port v at0) := by delta Qgp Tree.p Qg0; dsimp only [Tree.w]; infer_instance
set_option maxRecDepth 100000 in
instance Zb6 (m : (List Int)) (frame : Int) (s : (List UInt8)) : Decidable (Q2o m frame s) := by delta Q2o Tree.p Q3u; dsimp only [Tree.w]; infer_instance
set_option maxRecDepth 100000 in
instance Zck (s : (List UInt8)) (count : Int) : Decidable (Q47 s count) := by delta Q47; infer_instance
set_option maxRecDepth 100000 in
instance balloon_Out_dec (b : Q06) (m : (List Int)) (port : Int) (v : Int) : Decidable (Q8x b m port v) := by delta Q8x Tree.p Q6w; dsimp only [Tree.w]; infer_instance
set_option maxRecDepth 100000 in
instance Z5j (m : Q00) (port : Int) (v : Int) (at0 : Int) : Decidable (Q2e m port v at0) := by delta Q2e Tree.p Q27; dsimp only [Tree.w]; infer_instance
set_option maxRecDepth 100000 in
instance Zcj (m : Q00) (clock : Int) : Decidable (Q5t m clock) := by delta Q5t Tree.p Q7p; dsimp only [Tree.w]; infer_instance
set_option maxRecDepth 100000 in
instance make_Round_dec (n : Int) (k : Int) : Decidable (Q0u n k) := by delta Q0u Tree.p Qel; dsimp only [Tree.w]; infer_instance
set_option maxRecDepth 100000 in
instance make_Inst_dec (n : Int) : Decidable (Q53 n) := by delta Q53 Tree.p Qd0; dsimp only [Tree.w]; infer_instance
set_option maxRecDepth 100000 in
instance make_Code_dec (l : (List Int)) : Decidable (Q41 l) := by delta Q41 Tree.p Q7x; dsimp only [Tree.w]; infer_instance
set_option maxRecDepth 100000 in
instance memory_New_dec (pages : Int) : Decidable (Q5l pages) := by delta Q5l Tree.p Q84; dsimp only [Tree.w]; infer_instance
set_option maxRecDepth 100000 in
instance machine_New_dec (pages : Int) (blocks : Int) (image : (List Int)) : Decidable (Q2k pages blocks image) := by delta Q2k Tree.p Q46; dsimp only [Tree.w]; infer_instance
set_option maxRecDepth 100000 in
instance Qrk (s1 : (List Int)) (s2 : (List Int)) : Decidable (Q16 s1 s2) := by delta Q16; infer_instance
set_option maxRecDepth 100000 in
instance Zey (a : Q00) (b : Q00) : Decidable (Q2s a b) := by delta Q2s Tree.p Q5h; dsimp only [Tree.w]; infer_instance
set_option maxRecDepth 100000 in
instance ref1_New_dec (pages : Int) : Decidable (Qek pages) := by delta Qek Tree.p Qk1; dsimp only [Tree.w]; infer_instance
set_option maxRecDepth 100000 in
instance ref7_New_dec (pages : Int) (blocks : Int) (image : (List Int)) : Decidable (Q2h pages blocks image) := by delta Q2h Tree.p Q6f; dsimp only [Tree.w]; infer_instance
set_option maxRecDepth 100000 in
instance Zb8 (a : (List Int)) (b : (List Int)) : Decidable (Q8n a b) := by delta Q8n; infer_instance
set_option maxRecDepth 100000 in
instance ref7_Same_dec (a : Q00) (b : Q00) : Decidable (Q6u a b) := by delta Q6u Tree.p Qdb; dsimp only [Tree.w]; infer_instance
set_option maxRecDepth 100000 in
instance law12_awake_dec  : Decidable (Q1 ) := by delta Q1 Tree.p Qbz; dsimp only [Tree.w]; infer_instance
set_option maxRecDepth 100000 in
instance Z6z (pages : Int) (blocks : Int) (image : (List Int)) (l : (List Int)) (made : Bool) : Decidable (Q5y pages blocks image l made) := by delta Q5y Tree.p Q5a; dsimp only [Tree.w]; infer_instance
theorem Qb7 : Q1 := of_decide_eq_true (by kernel_rfl)
theorem Z0w : Q1r = true := by kernel_rfl
end
end Go.Proofs.YtdkiadhigcfmkaaGreat

/-
  A part of the proof.
-/
import Derived.Test.YtdkiadhigcfmkaaGreatMachineDmaYe
import Derived.Test.YtdkiadhigcfmkaaGreatMachineDmaFe
namespace Go.Proofs.YtdkiadhigcfmkaaGreat
open Go Go.GD
set_option linter.unusedVariables false
set_option maxRecDepth 100000
set_option synthInstance.maxHeartbeats 2000000
set_option synthInstance.maxSize 100000
noncomputable section
set_option maxRecDepth 100000 in
instance slices_Clone_uint32_uint32_dec (s : (List Int)) : Decidable (slices_Clone_uint32_uint32_pre s) := by delta slices_Clone_uint32_uint32_pre; infer_instance
set_option maxRecDepth 100000 in
instance memory_within_dec (m : (List Int)) (addr : Int) (size : Int) : Decidable (memory_within_pre m addr size) := by delta memory_within_pre Tree.p memory_within_t; dsimp only [Tree.w]; infer_instance
set_option maxRecDepth 100000 in
instance bits_mask_dec (n : Int) : Decidable (bits_mask_pre n) := by delta bits_mask_pre Tree.p bits_mask_t; dsimp only [Tree.w]; infer_instance
set_option maxRecDepth 100000 in
instance bits_Field_dec (w : Int) (low : Int) (n : Int) : Decidable (bits_Field_pre w low n) := by delta bits_Field_pre Tree.p bits_Field_t; dsimp only [Tree.w]; infer_instance
set_option maxRecDepth 100000 in
instance bits_SetField_dec (w : Int) (low : Int) (n : Int) (v : Int) : Decidable (bits_SetField_pre w low n v) := by delta bits_SetField_pre Tree.p bits_SetField_t; dsimp only [Tree.w]; infer_instance
set_option maxRecDepth 100000 in
instance memory_Store_dec (m : (List Int)) (addr : Int) (size : Int) (v : Int) : Decidable (memory_Store_pre m addr size v) := by delta memory_Store_pre Tree.p memory_Store_t; dsimp only [Tree.w]; infer_instance
set_option maxRecDepth 100000 in
instance bits_SignExtend_dec (x : Int) (n : Int) : Decidable (bits_SignExtend_pre x n) := by delta bits_SignExtend_pre Tree.p bits_SignExtend_t; dsimp only [Tree.w]; infer_instance
set_option maxRecDepth 100000 in
instance isa_Decode_dec (w : Int) : Decidable (isa_Decode_pre w) := by delta isa_Decode_pre Tree.p isa_Decode_t; dsimp only [Tree.w]; infer_instance
set_option maxRecDepth 100000 in
instance bits_Divide_dec (a : Int) (b : Int) : Decidable (bits_Divide_pre a b) := by delta bits_Divide_pre Tree.p bits_Divide_t; dsimp only [Tree.w]; infer_instance
set_option maxRecDepth 100000 in
instance cpu_Alu_dec (op : Int) (a : Int) (b : Int) : Decidable (cpu_Alu_pre op a b) := by delta cpu_Alu_pre Tree.p cpu_Alu_t; dsimp only [Tree.w]; infer_instance
set_option maxRecDepth 100000 in
instance memory_Load_dec (m : (List Int)) (addr : Int) (size : Int) : Decidable (memory_Load_pre m addr size) := by delta memory_Load_pre Tree.p memory_Load_t; dsimp only [Tree.w]; infer_instance
set_option maxRecDepth 100000 in
instance paging_frameOf_dec (pte : Int) : Decidable (paging_frameOf_pre pte) := by delta paging_frameOf_pre Tree.p paging_frameOf_t; dsimp only [Tree.w]; infer_instance
set_option maxRecDepth 100000 in
instance paging_Walk_dec (m : (List Int)) (root : Int) (va : Int) (access : Int) : Decidable (paging_Walk_pre m root va access) := by delta paging_Walk_pre Tree.p paging_Walk_t; dsimp only [Tree.w]; infer_instance
set_option maxRecDepth 100000 in
instance paging_Touch_dec (m : (List Int)) (entry : Int) (access : Int) : Decidable (paging_Touch_pre m entry access) := by delta paging_Touch_pre Tree.p paging_Touch_t; dsimp only [Tree.w]; infer_instance
set_option maxRecDepth 100000 in
instance cpu_Resolve_dec (c : ApiCpu) (m : (List Int)) (va : Int) (size : Int) (access : Int) : Decidable (cpu_Resolve_pre c m va size access) := by delta cpu_Resolve_pre Tree.p cpu_Resolve_t; dsimp only [Tree.w]; infer_instance
set_option maxRecDepth 100000 in
instance cpu_Fetch_dec (c : ApiCpu) (m : (List Int)) : Decidable (cpu_Fetch_pre c m) := by delta cpu_Fetch_pre Tree.p cpu_Fetch_t; dsimp only [Tree.w]; infer_instance
set_option maxRecDepth 100000 in
instance cpu_set_dec (c : ApiCpu) (register : Int) (v : Int) : Decidable (cpu_set_pre c register v) := by delta cpu_set_pre Tree.p cpu_set_t; dsimp only [Tree.w]; infer_instance
set_option maxRecDepth 100000 in
instance cpu_load_dec (c : ApiCpu) (m : (List Int)) (i : ApiInst) : Decidable (cpu_load_pre c m i) := by delta cpu_load_pre Tree.p cpu_load_t; dsimp only [Tree.w]; infer_instance
set_option maxRecDepth 100000 in
instance cpu_store_dec (c : ApiCpu) (m : (List Int)) (i : ApiInst) : Decidable (cpu_store_pre c m i) := by delta cpu_store_pre Tree.p cpu_store_t; dsimp only [Tree.w]; infer_instance
set_option maxRecDepth 100000 in
instance cpu_Write_dec (c : ApiCpu) (csr : Int) (v : Int) : Decidable (cpu_Write_pre c csr v) := by delta cpu_Write_pre Tree.p cpu_Write_t; dsimp only [Tree.w]; infer_instance
set_option maxRecDepth 100000 in
instance cpu_execute_dec (c : ApiCpu) (i : ApiInst) : Decidable (cpu_execute_pre c i) := by delta cpu_execute_pre Tree.p cpu_execute_t; dsimp only [Tree.w]; infer_instance
set_option maxRecDepth 100000 in
instance cpu_Exec_dec (c : ApiCpu) (m : (List Int)) : Decidable (cpu_Exec_pre c m) := by delta cpu_Exec_pre Tree.p cpu_Exec_t; dsimp only [Tree.w]; infer_instance
set_option maxRecDepth 100000 in
instance math_bits_Len32_dec (x : Int) : Decidable (math_bits_Len32_pre x) := by delta math_bits_Len32_pre Tree.p math_bits_Len32_t; dsimp only [Tree.w]; infer_instance
set_option maxRecDepth 100000 in
instance balloon_May_dec (b : ApiBalloon) (pages : Int) : Decidable (balloon_May_pre b pages) := by delta balloon_May_pre Tree.p balloon_May_t; dsimp only [Tree.w]; infer_instance
set_option maxRecDepth 100000 in
instance machine_mayDevices_dec (m : ApiMachine) : Decidable (machine_mayDevices_pre m) := by delta machine_mayDevices_pre Tree.p machine_mayDevices_t; dsimp only [Tree.w]; infer_instance
set_option maxRecDepth 100000 in
instance machine_May_dec (m : ApiMachine) : Decidable (machine_May_pre m) := by delta machine_May_pre Tree.p machine_May_t; dsimp only [Tree.w]; infer_instance
set_option maxRecDepth 100000 in
instance math_bits_OnesCount32_dec (x : Int) : Decidable (math_bits_OnesCount32_pre x) := by delta math_bits_OnesCount32_pre Tree.p math_bits_OnesCount32_t; dsimp only [Tree.w]; infer_instance
set_option maxRecDepth 100000 in
instance balloon_Count_dec (b : ApiBalloon) : Decidable (balloon_Count_pre b) := by delta balloon_Count_pre Tree.p balloon_Count_t; dsimp only [Tree.w]; infer_instance
set_option maxRecDepth 100000 in
instance balloon_Pending_dec (b : ApiBalloon) : Decidable (balloon_Pending_pre b) := by delta balloon_Pending_pre Tree.p balloon_Pending_t; dsimp only [Tree.w]; infer_instance
set_option maxRecDepth 100000 in
instance machine_Lines_dec (m : ApiMachine) : Decidable (machine_Lines_pre m) := by delta machine_Lines_pre Tree.p machine_Lines_t; dsimp only [Tree.w]; infer_instance
set_option maxRecDepth 100000 in
instance machine_enabled_dec (m : ApiMachine) : Decidable (machine_enabled_pre m) := by delta machine_enabled_pre Tree.p machine_enabled_t; dsimp only [Tree.w]; infer_instance
set_option maxRecDepth 100000 in
instance machine_Idle_dec (m : ApiMachine) : Decidable (machine_Idle_pre m) := by delta machine_Idle_pre Tree.p machine_Idle_t; dsimp only [Tree.w]; infer_instance
set_option maxRecDepth 100000 in
instance machine_runs_dec (m : ApiMachine) : Decidable (machine_runs_pre m) := by delta machine_runs_pre Tree.p machine_runs_t; dsimp only [Tree.w]; infer_instance
set_option maxRecDepth 100000 in
instance machine_begin_dec (m : ApiMachine) : Decidable (machine_begin_pre m) := by delta machine_begin_pre Tree.p machine_begin_t; dsimp only [Tree.w]; infer_instance
set_option maxRecDepth 100000 in
instance balloon_In_dec (b : ApiBalloon) (port : Int) : Decidable (balloon_In_pre b port) := by delta balloon_In_pre Tree.p balloon_In_t; dsimp only [Tree.w]; infer_instance
set_option maxRecDepth 100000 in
instance machine_readPort_dec (m : ApiMachine) (port : Int) (clock : Int) : Decidable (machine_readPort_pre m port clock) := by delta machine_readPort_pre Tree.p machine_readPort_t; dsimp only [Tree.w]; infer_instance
set_option maxRecDepth 100000 in
instance memory_text_dec (words : (List Int)) : Decidable (memory_text_pre words) := by delta memory_text_pre; infer_instance
set_option maxRecDepth 100000 in
instance memory_Page_dec (m : (List Int)) (frame : Int) : Decidable (memory_Page_pre m frame) := by delta memory_Page_pre Tree.p memory_Page_t; dsimp only [Tree.w]; infer_instance
set_option maxRecDepth 100000 in
instance disk_issue_dec (d0 : ApiDisk) (m : (List Int)) (cmd : Int) (at0 : Int) : Decidable (disk_issue_pre d0 m cmd at0) := by delta disk_issue_pre Tree.p disk_issue_t; dsimp only [Tree.w]; infer_instance
set_option maxRecDepth 100000 in
instance disk_Out_dec (d0 : ApiDisk) (m : (List Int)) (port : Int) (v : Int) (at0 : Int) : Decidable (disk_Out_pre d0 m port v at0) := by delta disk_Out_pre Tree.p disk_Out_t; dsimp only [Tree.w]; infer_instance
set_option maxRecDepth 100000 in
instance nic_send_dec (n : ApiNic) (m : (List Int)) (at0 : Int) : Decidable (nic_send_pre n m at0) := by delta nic_send_pre Tree.p nic_send_t; dsimp only [Tree.w]; infer_instance
set_option maxRecDepth 100000 in
instance nic_Out_dec (n : ApiNic) (m : (List Int)) (port : Int) (v : Int) (at0 : Int) : Decidable (nic_Out_pre n m port v at0) := by delta nic_Out_pre Tree.p nic_Out_t; dsimp only [Tree.w]; infer_instance
set_option maxRecDepth 100000 in
instance memory_SetPage_dec (m : (List Int)) (frame : Int) (s : (List UInt8)) : Decidable (memory_SetPage_pre m frame s) := by delta memory_SetPage_pre Tree.p memory_SetPage_t; dsimp only [Tree.w]; infer_instance
set_option maxRecDepth 100000 in
instance strings_Repeat_dec (s : (List UInt8)) (count : Int) : Decidable (strings_Repeat_pre s count) := by delta strings_Repeat_pre; infer_instance
set_option maxRecDepth 100000 in
instance balloon_Out_dec (b : ApiBalloon) (m : (List Int)) (port : Int) (v : Int) : Decidable (balloon_Out_pre b m port v) := by delta balloon_Out_pre Tree.p balloon_Out_t; dsimp only [Tree.w]; infer_instance
set_option maxRecDepth 100000 in
instance machine_writePort_dec (m : ApiMachine) (port : Int) (v : Int) (at0 : Int) : Decidable (machine_writePort_pre m port v at0) := by delta machine_writePort_pre Tree.p machine_writePort_t; dsimp only [Tree.w]; infer_instance
set_option maxRecDepth 100000 in
instance machine_Step_L_dec (m : ApiMachine) (clock : Int) : Decidable (machine_Step_L_pre m clock) := by delta machine_Step_L_pre Tree.p machine_Step_L_t; dsimp only [Tree.w]; infer_instance
set_option maxRecDepth 100000 in
instance make_Round_dec (n : Int) (k : Int) : Decidable (make_Round_pre n k) := by delta make_Round_pre Tree.p make_Round_t; dsimp only [Tree.w]; infer_instance
set_option maxRecDepth 100000 in
instance make_Inst_dec (n : Int) : Decidable (make_Inst_pre n) := by delta make_Inst_pre Tree.p make_Inst_t; dsimp only [Tree.w]; infer_instance
set_option maxRecDepth 100000 in
instance make_Code_dec (l : (List Int)) : Decidable (make_Code_pre l) := by delta make_Code_pre Tree.p make_Code_t; dsimp only [Tree.w]; infer_instance
set_option maxRecDepth 100000 in
instance memory_New_dec (pages : Int) : Decidable (memory_New_pre pages) := by delta memory_New_pre Tree.p memory_New_t; dsimp only [Tree.w]; infer_instance
set_option maxRecDepth 100000 in
instance machine_New_dec (pages : Int) (blocks : Int) (image : (List Int)) : Decidable (machine_New_pre pages blocks image) := by delta machine_New_pre Tree.p machine_New_t; dsimp only [Tree.w]; infer_instance
set_option maxRecDepth 100000 in
instance slices_Equal_uint32_uint32_dec (s1 : (List Int)) (s2 : (List Int)) : Decidable (slices_Equal_uint32_uint32_pre s1 s2) := by delta slices_Equal_uint32_uint32_pre; infer_instance
set_option maxRecDepth 100000 in
instance machine_Same_dec (a : ApiMachine) (b : ApiMachine) : Decidable (machine_Same_pre a b) := by delta machine_Same_pre Tree.p machine_Same_t; dsimp only [Tree.w]; infer_instance
set_option maxRecDepth 100000 in
instance ref1_New_dec (pages : Int) : Decidable (ref1_New_pre pages) := by delta ref1_New_pre Tree.p ref1_New_t; dsimp only [Tree.w]; infer_instance
set_option maxRecDepth 100000 in
instance ref7_New_dec (pages : Int) (blocks : Int) (image : (List Int)) : Decidable (ref7_New_pre pages blocks image) := by delta ref7_New_pre Tree.p ref7_New_t; dsimp only [Tree.w]; infer_instance
set_option maxRecDepth 100000 in
instance ref1_SameWords_dec (a : (List Int)) (b : (List Int)) : Decidable (ref1_SameWords_pre a b) := by delta ref1_SameWords_pre; infer_instance
set_option maxRecDepth 100000 in
instance ref7_Same_dec (a : ApiMachine) (b : ApiMachine) : Decidable (ref7_Same_pre a b) := by delta ref7_Same_pre Tree.p ref7_Same_t; dsimp only [Tree.w]; infer_instance
set_option maxRecDepth 100000 in
instance law12_awake_dec  : Decidable (law12_awake_pre ) := by delta law12_awake_pre Tree.p law12_awake_t; dsimp only [Tree.w]; infer_instance
set_option maxRecDepth 100000 in
instance law12_MachineNews_dec (pages : Int) (blocks : Int) (image : (List Int)) (l : (List Int)) (made : Bool) : Decidable (law12_MachineNews_pre pages blocks image l made) := by delta law12_MachineNews_pre Tree.p law12_MachineNews_t; dsimp only [Tree.w]; infer_instance
theorem awake_pre : law12_awake_pre := of_decide_eq_true (by kernel_rfl)
theorem awake_true : law12_awake = true := by kernel_rfl
end
end Go.Proofs.YtdkiadhigcfmkaaGreat

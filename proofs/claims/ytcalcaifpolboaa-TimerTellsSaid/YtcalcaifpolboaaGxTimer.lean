/-
  Functions (by a program: gen.py).
-/
import Derived.Test.YtcalcaifpolboaaGdBase
namespace Go.Proofs.Ytcalcaifpolboaa
open Go Go.GD
set_option linter.unusedVariables false
set_option linter.unusedSimpArgs false

/-! ### vmfleet/timer.Fire -/

def timer_Fire_m : Model := ⟨9, [], true, fun args rows => match args, rows with
  | [.agg [.bool a, .int .u32 d, .bool f]], [] => .ok (.tup [.agg [.bool false, .int .u32 d, .bool (a || f)], .bool a]) []
  | _, _ => .no⟩

set_option maxRecDepth 100000 in
theorem timer_Fire_nf (a : Bool) (d : Int) (f : Bool) : (fnVC tab [] (LL tab [] Try.f9.ntmps ([] : List Row).length [] 3) Try.f9 [.agg [.bool a, .int .u32 d, .bool f]] [] (retAll ([] : List Row).length (.tup [.agg [.bool false, .int .u32 d, .bool (a || f)], .bool a]) [])) = (
bcase (!a) (((a = false ∧ d = d ∧ f = (a || f) ∧ True) ∧ false = a ∧ True) ∧ True) (((false = false ∧ d = d ∧ true = (a || f) ∧ True) ∧ true = a ∧ True) ∧ True)) := by kernel_rfl

theorem timer_Fire_calls (a : Bool) (d : Int) (f : Bool) : ACalls Try.prog 9 [.agg [.bool a, .int .u32 d, .bool f]] [] (.tup [.agg [.bool false, .int .u32 d, .bool (a || f)], .bool a]) [] := by
  have hG : AllOK Try.prog [] := by
    intro x hx
    cases hx
  refine fn_ok drawn tabOK hG Try.func9 (LL_ok drawn tabOK hG 3 (invs := [])) ?_
  refine Eq.mpr (timer_Fire_nf a d f) ?_
  simp [bcase_iff, cand_iff, eqs, eq1] <;> grind

theorem timer_Fire_ok : ModelOK Try.prog timer_Fire_m := ⟨Try.call9, (fun args rows res rows' h => by
    simp only [timer_Fire_m] at h
    split at h
    · cases h
      exact ⟨timer_Fire_calls _ _ _, fun _ => by simp [FF, FF2, FF2s, FF1, FFs]⟩
    · cases h), (fun args rows p res rows' h hp => by
    simp only [timer_Fire_m] at h
    split at h <;> cases h)⟩

/-! ### vmfleet/vmfleetref7.Fire -/

def ref7_Fire_m : Model := ⟨10, [], true, fun args rows => match args, rows with
  | [.agg [.bool a, .int .u32 d, .bool f]], [] => .ok (.tup [.agg [.bool false, .int .u32 d, .bool (a || f)], .bool a]) []
  | _, _ => .no⟩

set_option maxRecDepth 100000 in
theorem ref7_Fire_nf (a : Bool) (d : Int) (f : Bool) : (fnVC tab [] (LL tab [] Try.f10.ntmps ([] : List Row).length [] 3) Try.f10 [.agg [.bool a, .int .u32 d, .bool f]] [] (retAll ([] : List Row).length (.tup [.agg [.bool false, .int .u32 d, .bool (a || f)], .bool a]) [])) = (
bcase (!a) (((a = false ∧ d = d ∧ f = (a || f) ∧ True) ∧ false = a ∧ True) ∧ True) (((false = false ∧ d = d ∧ true = (a || f) ∧ True) ∧ true = a ∧ True) ∧ True)) := by kernel_rfl

theorem ref7_Fire_calls (a : Bool) (d : Int) (f : Bool) : ACalls Try.prog 10 [.agg [.bool a, .int .u32 d, .bool f]] [] (.tup [.agg [.bool false, .int .u32 d, .bool (a || f)], .bool a]) [] := by
  have hG : AllOK Try.prog [] := by
    intro x hx
    cases hx
  refine fn_ok drawn tabOK hG Try.func10 (LL_ok drawn tabOK hG 3 (invs := [])) ?_
  refine Eq.mpr (ref7_Fire_nf a d f) ?_
  simp [bcase_iff, cand_iff, eqs, eq1] <;> grind

theorem ref7_Fire_ok : ModelOK Try.prog ref7_Fire_m := ⟨Try.call10, (fun args rows res rows' h => by
    simp only [ref7_Fire_m] at h
    split at h
    · cases h
      exact ⟨ref7_Fire_calls _ _ _, fun _ => by simp [FF, FF2, FF2s, FF1, FFs]⟩
    · cases h), (fun args rows p res rows' h hp => by
    simp only [ref7_Fire_m] at h
    split at h <;> cases h)⟩

/-! ### vmfleet/timer.Arm -/

def timer_Arm_m : Model := ⟨11, [], true, fun args rows => match args, rows with
  | [.agg [.bool a, .int .u32 d, .bool f], .int .u32 e], [] => .ok (.agg [.bool (e != 0), .int .u32 e, .bool false]) []
  | _, _ => .no⟩

set_option maxRecDepth 100000 in
theorem timer_Arm_nf (a : Bool) (d : Int) (f : Bool) (e : Int) : (fnVC tab [] (LL tab [] Try.f11.ntmps ([] : List Row).length [] 3) Try.f11 [.agg [.bool a, .int .u32 d, .bool f], .int .u32 e] [] (retAll ([] : List Row).length (.agg [.bool (e != 0), .int .u32 e, .bool false]) [])) = (
((e != (0 : Int)) = (e != (0 : Int)) ∧ e = e ∧ false = false ∧ True) ∧ True) := by kernel_rfl

theorem timer_Arm_calls (a : Bool) (d : Int) (f : Bool) (e : Int) : ACalls Try.prog 11 [.agg [.bool a, .int .u32 d, .bool f], .int .u32 e] [] (.agg [.bool (e != 0), .int .u32 e, .bool false]) [] := by
  have hG : AllOK Try.prog [] := by
    intro x hx
    cases hx
  refine fn_ok drawn tabOK hG Try.func11 (LL_ok drawn tabOK hG 3 (invs := [])) ?_
  refine Eq.mpr (timer_Arm_nf a d f e) ?_
  simp [bcase_iff, cand_iff, eqs, eq1] <;> grind

theorem timer_Arm_ok : ModelOK Try.prog timer_Arm_m := ⟨Try.call11, (fun args rows res rows' h => by
    simp only [timer_Arm_m] at h
    split at h
    · cases h
      exact ⟨timer_Arm_calls _ _ _ _, fun _ => by simp [FF, FF2, FF2s, FF1, FFs]⟩
    · cases h), (fun args rows p res rows' h hp => by
    simp only [timer_Arm_m] at h
    split at h <;> cases h)⟩

/-! ### vmfleet/vmfleetref7.Arm -/

def ref7_Arm_m : Model := ⟨12, [], true, fun args rows => match args, rows with
  | [.int .u32 e], [] => .ok (.agg [.bool (e != 0), .int .u32 e, .bool false]) []
  | _, _ => .no⟩

set_option maxRecDepth 100000 in
theorem ref7_Arm_nf (e : Int) : (fnVC tab [] (LL tab [] Try.f12.ntmps ([] : List Row).length [] 3) Try.f12 [.int .u32 e] [] (retAll ([] : List Row).length (.agg [.bool (e != 0), .int .u32 e, .bool false]) [])) = (
bcase (e == (0 : Int)) ((false = (e != (0 : Int)) ∧ (0 : Int) = e ∧ false = false ∧ True) ∧ True) ((true = (e != (0 : Int)) ∧ e = e ∧ false = false ∧ True) ∧ True)) := by kernel_rfl

theorem ref7_Arm_calls (e : Int) : ACalls Try.prog 12 [.int .u32 e] [] (.agg [.bool (e != 0), .int .u32 e, .bool false]) [] := by
  have hG : AllOK Try.prog [] := by
    intro x hx
    cases hx
  refine fn_ok drawn tabOK hG Try.func12 (LL_ok drawn tabOK hG 3 (invs := [])) ?_
  refine Eq.mpr (ref7_Arm_nf e) ?_
  simp [bcase_iff, cand_iff, eqs, eq1] <;> grind

theorem ref7_Arm_ok : ModelOK Try.prog ref7_Arm_m := ⟨Try.call12, (fun args rows res rows' h => by
    simp only [ref7_Arm_m] at h
    split at h
    · cases h
      exact ⟨ref7_Arm_calls _, fun _ => by simp [FF, FF2, FF2s, FF1, FFs]⟩
    · cases h), (fun args rows p res rows' h hp => by
    simp only [ref7_Arm_m] at h
    split at h <;> cases h)⟩

/-! ### vmfleet/timer.Due -/

def timer_Due_m : Model := ⟨13, [], true, fun args rows => match args, rows with
  | [.agg [.bool a, .int .u32 d, .bool f], .int .u32 e], [] => .ok (.bool (a && decide (e ≥ d))) []
  | _, _ => .no⟩

set_option maxRecDepth 100000 in
theorem timer_Due_nf (a : Bool) (d : Int) (f : Bool) (e : Int) : (fnVC tab [] (LL tab [] Try.f13.ntmps ([] : List Row).length [] 3) Try.f13 [.agg [.bool a, .int .u32 d, .bool f], .int .u32 e] [] (retAll ([] : List Row).length (.bool (a && decide (e ≥ d))) [])) = (
bcase a (decide (e ≥ d) = (a && decide (e ≥ d)) ∧ True) (false = (a && decide (e ≥ d)) ∧ True)) := by kernel_rfl

theorem timer_Due_calls (a : Bool) (d : Int) (f : Bool) (e : Int) : ACalls Try.prog 13 [.agg [.bool a, .int .u32 d, .bool f], .int .u32 e] [] (.bool (a && decide (e ≥ d))) [] := by
  have hG : AllOK Try.prog [] := by
    intro x hx
    cases hx
  refine fn_ok drawn tabOK hG Try.func13 (LL_ok drawn tabOK hG 3 (invs := [])) ?_
  refine Eq.mpr (timer_Due_nf a d f e) ?_
  simp [bcase_iff, cand_iff, eqs, eq1] <;> grind

theorem timer_Due_ok : ModelOK Try.prog timer_Due_m := ⟨Try.call13, (fun args rows res rows' h => by
    simp only [timer_Due_m] at h
    split at h
    · cases h
      exact ⟨timer_Due_calls _ _ _ _, fun _ => by simp [FF, FF2, FF2s, FF1, FFs]⟩
    · cases h), (fun args rows p res rows' h hp => by
    simp only [timer_Due_m] at h
    split at h <;> cases h)⟩

/-! ### vmfleet/vmfleetref7.Due -/

def ref7_Due_m : Model := ⟨14, [], true, fun args rows => match args, rows with
  | [.agg [.bool a, .int .u32 d, .bool f], .int .u32 e], [] => .ok (.bool (a && decide (e ≥ d))) []
  | _, _ => .no⟩

set_option maxRecDepth 100000 in
theorem ref7_Due_nf (a : Bool) (d : Int) (f : Bool) (e : Int) : (fnVC tab [] (LL tab [] Try.f14.ntmps ([] : List Row).length [] 3) Try.f14 [.agg [.bool a, .int .u32 d, .bool f], .int .u32 e] [] (retAll ([] : List Row).length (.bool (a && decide (e ≥ d))) [])) = (
bcase a (decide (e ≥ d) = (a && decide (e ≥ d)) ∧ True) (false = (a && decide (e ≥ d)) ∧ True)) := by kernel_rfl

theorem ref7_Due_calls (a : Bool) (d : Int) (f : Bool) (e : Int) : ACalls Try.prog 14 [.agg [.bool a, .int .u32 d, .bool f], .int .u32 e] [] (.bool (a && decide (e ≥ d))) [] := by
  have hG : AllOK Try.prog [] := by
    intro x hx
    cases hx
  refine fn_ok drawn tabOK hG Try.func14 (LL_ok drawn tabOK hG 3 (invs := [])) ?_
  refine Eq.mpr (ref7_Due_nf a d f e) ?_
  simp [bcase_iff, cand_iff, eqs, eq1] <;> grind

theorem ref7_Due_ok : ModelOK Try.prog ref7_Due_m := ⟨Try.call14, (fun args rows res rows' h => by
    simp only [ref7_Due_m] at h
    split at h
    · cases h
      exact ⟨ref7_Due_calls _ _ _ _, fun _ => by simp [FF, FF2, FF2s, FF1, FFs]⟩
    · cases h), (fun args rows p res rows' h hp => by
    simp only [ref7_Due_m] at h
    split at h <;> cases h)⟩

/-! ### vmfleet/timer.In -/

def timer_In_m : Model := ⟨15, [], true, fun args rows => match args, rows with
  | [.agg [.bool a, .int .u32 d, .bool f]], [] => .ok (.int .u32 (if f then 1 else 0)) []
  | _, _ => .no⟩

set_option maxRecDepth 100000 in
theorem timer_In_nf (a : Bool) (d : Int) (f : Bool) : (fnVC tab [] (LL tab [] Try.f15.ntmps ([] : List Row).length [] 3) Try.f15 [.agg [.bool a, .int .u32 d, .bool f]] [] (retAll ([] : List Row).length (.int .u32 (if f then 1 else 0)) [])) = (
bcase f (((1 : Int) = if f = true then (1 : Int) else (0 : Int)) ∧ True) (((0 : Int) = if f = true then (1 : Int) else (0 : Int)) ∧ True)) := by kernel_rfl

theorem timer_In_calls (a : Bool) (d : Int) (f : Bool) : ACalls Try.prog 15 [.agg [.bool a, .int .u32 d, .bool f]] [] (.int .u32 (if f then 1 else 0)) [] := by
  have hG : AllOK Try.prog [] := by
    intro x hx
    cases hx
  refine fn_ok drawn tabOK hG Try.func15 (LL_ok drawn tabOK hG 3 (invs := [])) ?_
  refine Eq.mpr (timer_In_nf a d f) ?_
  simp [bcase_iff, cand_iff, eqs, eq1] <;> grind

theorem timer_In_ok : ModelOK Try.prog timer_In_m := ⟨Try.call15, (fun args rows res rows' h => by
    simp only [timer_In_m] at h
    split at h
    · cases h
      exact ⟨timer_In_calls _ _ _, fun _ => by simp [FF, FF2, FF2s, FF1, FFs]⟩
    · cases h), (fun args rows p res rows' h hp => by
    simp only [timer_In_m] at h
    split at h <;> cases h)⟩

/-! ### vmfleet/vmfleetref7.TimerIn -/

def ref7_TimerIn_m : Model := ⟨16, [], true, fun args rows => match args, rows with
  | [.agg [.bool a, .int .u32 d, .bool f]], [] => .ok (.int .u32 (if f then 1 else 0)) []
  | _, _ => .no⟩

set_option maxRecDepth 100000 in
theorem ref7_TimerIn_nf (a : Bool) (d : Int) (f : Bool) : (fnVC tab [] (LL tab [] Try.f16.ntmps ([] : List Row).length [] 3) Try.f16 [.agg [.bool a, .int .u32 d, .bool f]] [] (retAll ([] : List Row).length (.int .u32 (if f then 1 else 0)) [])) = (
bcase f (((1 : Int) = if f = true then (1 : Int) else (0 : Int)) ∧ True) (((0 : Int) = if f = true then (1 : Int) else (0 : Int)) ∧ True)) := by kernel_rfl

theorem ref7_TimerIn_calls (a : Bool) (d : Int) (f : Bool) : ACalls Try.prog 16 [.agg [.bool a, .int .u32 d, .bool f]] [] (.int .u32 (if f then 1 else 0)) [] := by
  have hG : AllOK Try.prog [] := by
    intro x hx
    cases hx
  refine fn_ok drawn tabOK hG Try.func16 (LL_ok drawn tabOK hG 3 (invs := [])) ?_
  refine Eq.mpr (ref7_TimerIn_nf a d f) ?_
  simp [bcase_iff, cand_iff, eqs, eq1] <;> grind

theorem ref7_TimerIn_ok : ModelOK Try.prog ref7_TimerIn_m := ⟨Try.call16, (fun args rows res rows' h => by
    simp only [ref7_TimerIn_m] at h
    split at h
    · cases h
      exact ⟨ref7_TimerIn_calls _ _ _, fun _ => by simp [FF, FF2, FF2s, FF1, FFs]⟩
    · cases h), (fun args rows p res rows' h hp => by
    simp only [ref7_TimerIn_m] at h
    split at h <;> cases h)⟩

/-! ### vmfleet/timer.Pending -/

def timer_Pending_m : Model := ⟨17, [], true, fun args rows => match args, rows with
  | [.agg [.bool a, .int .u32 d, .bool f]], [] => .ok (.bool f) []
  | _, _ => .no⟩

set_option maxRecDepth 100000 in
theorem timer_Pending_nf (a : Bool) (d : Int) (f : Bool) : (fnVC tab [] (LL tab [] Try.f17.ntmps ([] : List Row).length [] 3) Try.f17 [.agg [.bool a, .int .u32 d, .bool f]] [] (retAll ([] : List Row).length (.bool f) [])) = (
f = f ∧ True) := by kernel_rfl

theorem timer_Pending_calls (a : Bool) (d : Int) (f : Bool) : ACalls Try.prog 17 [.agg [.bool a, .int .u32 d, .bool f]] [] (.bool f) [] := by
  have hG : AllOK Try.prog [] := by
    intro x hx
    cases hx
  refine fn_ok drawn tabOK hG Try.func17 (LL_ok drawn tabOK hG 3 (invs := [])) ?_
  refine Eq.mpr (timer_Pending_nf a d f) ?_
  simp [bcase_iff, cand_iff, eqs, eq1] <;> grind

theorem timer_Pending_ok : ModelOK Try.prog timer_Pending_m := ⟨Try.call17, (fun args rows res rows' h => by
    simp only [timer_Pending_m] at h
    split at h
    · cases h
      exact ⟨timer_Pending_calls _ _ _, fun _ => by simp [FF, FF2, FF2s, FF1, FFs]⟩
    · cases h), (fun args rows p res rows' h hp => by
    simp only [timer_Pending_m] at h
    split at h <;> cases h)⟩

/-! ### vmfleet/vmfleetref7.TimerPending -/

def ref7_TimerPending_m : Model := ⟨18, [], true, fun args rows => match args, rows with
  | [.agg [.bool a, .int .u32 d, .bool f]], [] => .ok (.bool f) []
  | _, _ => .no⟩

set_option maxRecDepth 100000 in
theorem ref7_TimerPending_nf (a : Bool) (d : Int) (f : Bool) : (fnVC tab [] (LL tab [] Try.f18.ntmps ([] : List Row).length [] 3) Try.f18 [.agg [.bool a, .int .u32 d, .bool f]] [] (retAll ([] : List Row).length (.bool f) [])) = (
f = f ∧ True) := by kernel_rfl

theorem ref7_TimerPending_calls (a : Bool) (d : Int) (f : Bool) : ACalls Try.prog 18 [.agg [.bool a, .int .u32 d, .bool f]] [] (.bool f) [] := by
  have hG : AllOK Try.prog [] := by
    intro x hx
    cases hx
  refine fn_ok drawn tabOK hG Try.func18 (LL_ok drawn tabOK hG 3 (invs := [])) ?_
  refine Eq.mpr (ref7_TimerPending_nf a d f) ?_
  simp [bcase_iff, cand_iff, eqs, eq1] <;> grind

theorem ref7_TimerPending_ok : ModelOK Try.prog ref7_TimerPending_m := ⟨Try.call18, (fun args rows res rows' h => by
    simp only [ref7_TimerPending_m] at h
    split at h
    · cases h
      exact ⟨ref7_TimerPending_calls _ _ _, fun _ => by simp [FF, FF2, FF2s, FF1, FFs]⟩
    · cases h), (fun args rows p res rows' h hp => by
    simp only [ref7_TimerPending_m] at h
    split at h <;> cases h)⟩

/-! ### vmfleet/timer.May -/

def timer_May_m : Model := ⟨19, [], true, fun args rows => match args, rows with
  | [.agg [.bool a, .int .u32 d, .bool f]], [] => .ok (.bool (if a then !f && d != 0 else f || d == 0)) []
  | _, _ => .no⟩

set_option maxRecDepth 100000 in
theorem timer_May_nf (a : Bool) (d : Int) (f : Bool) : (fnVC tab [] (LL tab [] Try.f19.ntmps ([] : List Row).length [] 3) Try.f19 [.agg [.bool a, .int .u32 d, .bool f]] [] (retAll ([] : List Row).length (.bool (if a then !f && d != 0 else f || d == 0)) [])) = (
bcase a (bcase (!f) (((d != (0 : Int)) = if a = true then !f && d != (0 : Int) else f || d == (0 : Int)) ∧ True) ((false = if a = true then !f && d != (0 : Int) else f || d == (0 : Int)) ∧ True))
  (bcase f ((true = if a = true then !f && d != (0 : Int) else f || d == (0 : Int)) ∧ True) (((d == (0 : Int)) = if a = true then !f && d != (0 : Int) else f || d == (0 : Int)) ∧ True))) := by kernel_rfl

theorem timer_May_calls (a : Bool) (d : Int) (f : Bool) : ACalls Try.prog 19 [.agg [.bool a, .int .u32 d, .bool f]] [] (.bool (if a then !f && d != 0 else f || d == 0)) [] := by
  have hG : AllOK Try.prog [] := by
    intro x hx
    cases hx
  refine fn_ok drawn tabOK hG Try.func19 (LL_ok drawn tabOK hG 3 (invs := [])) ?_
  refine Eq.mpr (timer_May_nf a d f) ?_
  simp [bcase_iff, cand_iff, eqs, eq1] <;> grind

theorem timer_May_ok : ModelOK Try.prog timer_May_m := ⟨Try.call19, (fun args rows res rows' h => by
    simp only [timer_May_m] at h
    split at h
    · cases h
      exact ⟨timer_May_calls _ _ _, fun _ => by simp [FF, FF2, FF2s, FF1, FFs]⟩
    · cases h), (fun args rows p res rows' h hp => by
    simp only [timer_May_m] at h
    split at h <;> cases h)⟩

/-! ### vmfleet/vmfleetref7.TimerMay -/

def ref7_TimerMay_m : Model := ⟨20, [], true, fun args rows => match args, rows with
  | [.agg [.bool a, .int .u32 d, .bool f]], [] => .ok (.bool (if a then !f && d != 0 else f || d == 0)) []
  | _, _ => .no⟩

set_option maxRecDepth 100000 in
theorem ref7_TimerMay_nf (a : Bool) (d : Int) (f : Bool) : (fnVC tab [] (LL tab [] Try.f20.ntmps ([] : List Row).length [] 3) Try.f20 [.agg [.bool a, .int .u32 d, .bool f]] [] (retAll ([] : List Row).length (.bool (if a then !f && d != 0 else f || d == 0)) [])) = (
bcase a
  (bcase f ((false = if a = true then !f && d != (0 : Int) else f || d == (0 : Int)) ∧ True)
    (bcase a (((d != (0 : Int)) = if a = true then !f && d != (0 : Int) else f || d == (0 : Int)) ∧ True)
      (bcase f ((true = if a = true then !f && d != (0 : Int) else f || d == (0 : Int)) ∧ True) (((d == (0 : Int)) = if a = true then !f && d != (0 : Int) else f || d == (0 : Int)) ∧ True))))
  (bcase a (((d != (0 : Int)) = if a = true then !f && d != (0 : Int) else f || d == (0 : Int)) ∧ True)
    (bcase f ((true = if a = true then !f && d != (0 : Int) else f || d == (0 : Int)) ∧ True) (((d == (0 : Int)) = if a = true then !f && d != (0 : Int) else f || d == (0 : Int)) ∧ True)))) := by kernel_rfl

theorem ref7_TimerMay_calls (a : Bool) (d : Int) (f : Bool) : ACalls Try.prog 20 [.agg [.bool a, .int .u32 d, .bool f]] [] (.bool (if a then !f && d != 0 else f || d == 0)) [] := by
  have hG : AllOK Try.prog [] := by
    intro x hx
    cases hx
  refine fn_ok drawn tabOK hG Try.func20 (LL_ok drawn tabOK hG 3 (invs := [])) ?_
  refine Eq.mpr (ref7_TimerMay_nf a d f) ?_
  simp [bcase_iff, cand_iff, eqs, eq1] <;> grind

theorem ref7_TimerMay_ok : ModelOK Try.prog ref7_TimerMay_m := ⟨Try.call20, (fun args rows res rows' h => by
    simp only [ref7_TimerMay_m] at h
    split at h
    · cases h
      exact ⟨ref7_TimerMay_calls _ _ _, fun _ => by simp [FF, FF2, FF2s, FF1, FFs]⟩
    · cases h), (fun args rows p res rows' h hp => by
    simp only [ref7_TimerMay_m] at h
    split at h <;> cases h)⟩

/-! ### vmfleet/vmfleetlaw8.awake -/

def law8_awake_m : Model := ⟨21, [], true, fun args rows => match args, rows with
  | [], [] => .ok (.bool true) []
  | _, _ => .no⟩

set_option maxRecDepth 100000 in
theorem law8_awake_nf  : (fnVC tab [timer_Arm_m, timer_Fire_m, timer_Due_m, timer_Pending_m, timer_In_m] (LL tab [timer_Arm_m, timer_Fire_m, timer_Due_m, timer_Pending_m, timer_In_m] Try.f21.ntmps ([] : List Row).length [] 3) Try.f21 [] [] (retAll ([] : List Row).length (.bool true) [])) = (
true = true ∧ True) := by kernel_rfl

theorem law8_awake_calls  : ACalls Try.prog 21 [] [] (.bool true) [] := by
  have hG : AllOK Try.prog [timer_Arm_m, timer_Fire_m, timer_Due_m, timer_Pending_m, timer_In_m] := by
    intro x hx
    simp only [List.mem_cons, List.not_mem_nil, or_false] at hx
    rcases hx with rfl | rfl | rfl | rfl | rfl
    · exact timer_Arm_ok
    · exact timer_Fire_ok
    · exact timer_Due_ok
    · exact timer_Pending_ok
    · exact timer_In_ok
  refine fn_ok drawn tabOK hG Try.func21 (LL_ok drawn tabOK hG 3 (invs := [])) ?_
  refine Eq.mpr (law8_awake_nf) ?_
  simp [bcase_iff, cand_iff, eqs, eq1] <;> grind

theorem law8_awake_ok : ModelOK Try.prog law8_awake_m := ⟨Try.call21, (fun args rows res rows' h => by
    simp only [law8_awake_m] at h
    split at h
    · cases h
      exact ⟨law8_awake_calls, fun _ => by simp [FF, FF2, FF2s, FF1, FFs]⟩
    · cases h), (fun args rows p res rows' h hp => by
    simp only [law8_awake_m] at h
    split at h <;> cases h)⟩

/-! ### vmfleet/vmfleetlaw8.TimerTells -/

set_option maxRecDepth 100000 in
theorem law8_TimerTells_nf (a : Bool) (d : Int) (f : Bool) (e n : Int) : (fnVC tab [timer_Arm_m, timer_Fire_m, timer_Due_m, timer_Pending_m, timer_In_m, timer_May_m, ref7_Arm_m, ref7_Fire_m, ref7_Due_m, ref7_TimerPending_m, ref7_TimerIn_m, ref7_TimerMay_m, law8_awake_m] (LL tab [timer_Arm_m, timer_Fire_m, timer_Due_m, timer_Pending_m, timer_In_m, timer_May_m, ref7_Arm_m, ref7_Fire_m, ref7_Due_m, ref7_TimerPending_m, ref7_TimerIn_m, ref7_TimerMay_m, law8_awake_m] Try.f3.ntmps ([] : List Row).length [] 3) Try.f3 [.agg [.bool a, .int .u32 d, .bool f], .int .u32 e, .int .u32 n] [] (retAll ([] : List Row).length (.bool true) [])) = (
bcase (eqs [D.bool (e != (0 : Int)), D.int IntKind.u32 e, D.bool false] [D.bool (e != (0 : Int)), D.int IntKind.u32 e, D.bool false])
  (bcase (eqs [D.bool false, D.int IntKind.u32 d, D.bool (a || f)] [D.bool false, D.int IntKind.u32 d, D.bool (a || f)])
    (bcase (a == a)
      (bcase ((a && decide (n ≥ d)) == (a && decide (n ≥ d)))
        (bcase ((if f = true then (1 : Int) else (0 : Int)) == if f = true then (1 : Int) else (0 : Int))
          (bcase (f == f) (bcase ((if a = true then !f && d != (0 : Int) else f || d == (0 : Int)) == if a = true then !f && d != (0 : Int) else f || d == (0 : Int)) (true = true ∧ True) (false = true ∧ True)) (false = true ∧ True))
          (false = true ∧ True))
        (false = true ∧ True))
      (false = true ∧ True))
    (false = true ∧ True))
  (false = true ∧ True)) := by kernel_rfl

theorem law8_TimerTells_calls (a : Bool) (d : Int) (f : Bool) (e n : Int) : ACalls Try.prog 3 [.agg [.bool a, .int .u32 d, .bool f], .int .u32 e, .int .u32 n] [] (.bool true) [] := by
  have hG : AllOK Try.prog [timer_Arm_m, timer_Fire_m, timer_Due_m, timer_Pending_m, timer_In_m, timer_May_m, ref7_Arm_m, ref7_Fire_m, ref7_Due_m, ref7_TimerPending_m, ref7_TimerIn_m, ref7_TimerMay_m, law8_awake_m] := by
    intro x hx
    simp only [List.mem_cons, List.not_mem_nil, or_false] at hx
    rcases hx with rfl | rfl | rfl | rfl | rfl | rfl | rfl | rfl | rfl | rfl | rfl | rfl | rfl
    · exact timer_Arm_ok
    · exact timer_Fire_ok
    · exact timer_Due_ok
    · exact timer_Pending_ok
    · exact timer_In_ok
    · exact timer_May_ok
    · exact ref7_Arm_ok
    · exact ref7_Fire_ok
    · exact ref7_Due_ok
    · exact ref7_TimerPending_ok
    · exact ref7_TimerIn_ok
    · exact ref7_TimerMay_ok
    · exact law8_awake_ok
  refine fn_ok drawn tabOK hG Try.func3 (LL_ok drawn tabOK hG 3 (invs := [])) ?_
  refine Eq.mpr (law8_TimerTells_nf a d f e n) ?_
  simp [bcase_iff, cand_iff, eqs, eq1] <;> grind

/-! ### vmfleet/vmfleetlaw8.TimerKeeps -/

set_option maxRecDepth 100000 in
theorem law8_TimerKeeps_nf (a : Bool) (d : Int) (f : Bool) (e : Int) : (fnVC tab [timer_Arm_m, timer_Fire_m, timer_Due_m, timer_Pending_m, timer_In_m, timer_May_m, law8_awake_m] (LL tab [timer_Arm_m, timer_Fire_m, timer_Due_m, timer_Pending_m, timer_In_m, timer_May_m, law8_awake_m] Try.f5.ntmps ([] : List Row).length [] 3) Try.f5 [.agg [.bool a, .int .u32 d, .bool f], .int .u32 e] [] (retAll ([] : List Row).length (.bool true) [])) = (
bcase (!if a = true then !f && d != (0 : Int) else f || d == (0 : Int)) (true = true ∧ True)
  (bcase (if (e != (0 : Int)) = true then !false && e != (0 : Int) else false || e == (0 : Int)) (bcase (if false = true then !(a || f) && d != (0 : Int) else a || f || d == (0 : Int)) (true = true ∧ True) (false = true ∧ True))
    (false = true ∧ True))) := by kernel_rfl

theorem law8_TimerKeeps_calls (a : Bool) (d : Int) (f : Bool) (e : Int) : ACalls Try.prog 5 [.agg [.bool a, .int .u32 d, .bool f], .int .u32 e] [] (.bool true) [] := by
  have hG : AllOK Try.prog [timer_Arm_m, timer_Fire_m, timer_Due_m, timer_Pending_m, timer_In_m, timer_May_m, law8_awake_m] := by
    intro x hx
    simp only [List.mem_cons, List.not_mem_nil, or_false] at hx
    rcases hx with rfl | rfl | rfl | rfl | rfl | rfl | rfl
    · exact timer_Arm_ok
    · exact timer_Fire_ok
    · exact timer_Due_ok
    · exact timer_Pending_ok
    · exact timer_In_ok
    · exact timer_May_ok
    · exact law8_awake_ok
  refine fn_ok drawn tabOK hG Try.func5 (LL_ok drawn tabOK hG 3 (invs := [])) ?_
  refine Eq.mpr (law8_TimerKeeps_nf a d f e) ?_
  simp [bcase_iff, cand_iff, eqs, eq1] <;> grind

/-! ### vmfleet/vmfleetlaw8.TimerOnce -/

def law8_TimerOnce_i0 (l : List Int) : LInv := {
  α := Bool × Int × Int × Bool × Int
  F := fun _ a => ([(0, .sl 1 (intsD .u32 l) false), (3, .ptr 0 0 0), (4, .bool a.1), (5, .int .u32 a.2.1), (6, .int .i64 a.2.2.2.2)], [⟨true, 24, 3, [[.bool a.1, .int .u32 a.2.2.1, .bool a.2.2.2.1]]⟩])
  Pre := fun _ a => (0 ≤ a.2.2.2.2 ∧ a.2.2.2.2 ≤ l.length) ∧ (a.1 = true → a.2.2.1 = a.2.1 ∧ a.2.2.1 ≠ 0 ∧ a.2.2.2.1 = false) ∧ (a.1 = false → a.2.2.2.1 = true ∨ a.2.2.1 = 0)
  μ := fun _ a => (l.length - a.2.2.2.2).toNat
  a0 := fun _ => (false, 0, 0, false, 0)
  ex0 := [0]
  next := fun _ _ st => ((GD.look st.env 4).toBool, (GD.look st.env 5).toInt, (cellOf st.rows 0 1).toInt, (cellOf st.rows 0 2).toBool, (GD.look st.env 6).toInt)
  ex := [0] }

set_option maxRecDepth 100000 in
theorem law8_TimerOnce_nf (l : List Int) : (fnVC tab [timer_Arm_m, timer_Fire_m, timer_Due_m, timer_Pending_m, timer_May_m, law8_awake_m] (LL tab [timer_Arm_m, timer_Fire_m, timer_Due_m, timer_Pending_m, timer_May_m, law8_awake_m] Try.f4.ntmps ([] : List Row).length [(6, law8_TimerOnce_i0 l)] 3) Try.f4 [.sl 1 (intsD .u32 l) false] [] (retAll ([] : List Row).length (.bool true) [])) = (
bcase (decide (↑(List.length (intsD IntKind.u32 l)) > (100 : Int))) (true = true ∧ True)
  (GD.Ask (((0 : Int) ≤ (0 : Int) ∧ (0 : Int) ≤ ↑(List.length l)) ∧ (false = true → (0 : Int) = (0 : Int) ∧ (0 : Int) ≠ (0 : Int) ∧ false = false) ∧ (false = false → false = true ∨ (0 : Int) = (0 : Int))) ∧
    ((((intsD IntKind.u32 l = [] ∨ (1 : Nat) = (1 : Nat)) ∧ intsD IntKind.u32 l = intsD IntKind.u32 l) ∧ (nat_lit 0 = nat_lit 0 ∧ nat_lit 0 = nat_lit 0) ∧ false = false ∧ (0 : Int) = (0 : Int) ∧ (0 : Int) = (0 : Int) ∧ True) ∧
        (false = false ∧ (0 : Int) = (0 : Int) ∧ false = false ∧ True) ∧ True) ∧
      ∀ (a : Bool × Int × Int × Bool × Int),
        GD.Ask
            (((0 : Int) ≤ Prod.snd (Prod.snd (Prod.snd (Prod.snd a))) ∧ Prod.snd (Prod.snd (Prod.snd (Prod.snd a))) ≤ ↑(List.length l)) ∧
              (Prod.fst a = true → Prod.fst (Prod.snd (Prod.snd a)) = Prod.fst (Prod.snd a) ∧ Prod.fst (Prod.snd (Prod.snd a)) ≠ (0 : Int) ∧ Prod.fst (Prod.snd (Prod.snd (Prod.snd a))) = false) ∧
                (Prod.fst a = false → Prod.fst (Prod.snd (Prod.snd (Prod.snd a))) = true ∨ Prod.fst (Prod.snd (Prod.snd a)) = (0 : Int))) →
          bcase (decide (Prod.snd (Prod.snd (Prod.snd (Prod.snd a))) < ↑(List.length (intsD IntKind.u32 l))))
            (cand (Nat.beq (1 : Nat) (1 : Nat) && Nat.blt (0 : Nat) (1 : Nat) && decide ((0 : Int) ≤ Prod.snd (Prod.snd (Prod.snd (Prod.snd a))) ∧ Prod.snd (Prod.snd (Prod.snd (Prod.snd a))) < ↑(List.length (intsD IntKind.u32 l))))
              (cand (D.isInt IntKind.u32 (List.getD (List.getD (intsD IntKind.u32 l) (Int.toNat (Prod.snd (Prod.snd (Prod.snd (Prod.snd a))))) []) (0 : Nat) D.dead))
                (bcase (Int.tmod (D.toInt (List.getD (List.getD (intsD IntKind.u32 l) (Int.toNat (Prod.snd (Prod.snd (Prod.snd (Prod.snd a))))) []) (0 : Nat) D.dead)) (4 : Int) == (0 : Int))
                  (cand (Nat.beq (1 : Nat) (1 : Nat) && Nat.blt (0 : Nat) (1 : Nat) && decide ((0 : Int) ≤ Prod.snd (Prod.snd (Prod.snd (Prod.snd a))) ∧ Prod.snd (Prod.snd (Prod.snd (Prod.snd a))) < ↑(List.length (intsD IntKind.u32 l))))
                    (cand (D.isInt IntKind.u32 (List.getD (List.getD (intsD IntKind.u32 l) (Int.toNat (Prod.snd (Prod.snd (Prod.snd (Prod.snd a))))) []) (0 : Nat) D.dead))
                      (GD.Ask
                          (((0 : Int) ≤ IntKind.wrap IntKind.i64 (Prod.snd (Prod.snd (Prod.snd (Prod.snd a))) + (1 : Int)) ∧ IntKind.wrap IntKind.i64 (Prod.snd (Prod.snd (Prod.snd (Prod.snd a))) + (1 : Int)) ≤ ↑(List.length l)) ∧
                            ((ishr IntKind.u32 (D.toInt (List.getD (List.getD (intsD IntKind.u32 l) (Int.toNat (Prod.snd (Prod.snd (Prod.snd (Prod.snd a))))) []) (0 : Nat) D.dead)) (2 : Int) != (0 : Int)) = true →
                                ishr IntKind.u32 (D.toInt (List.getD (List.getD (intsD IntKind.u32 l) (Int.toNat (Prod.snd (Prod.snd (Prod.snd (Prod.snd a))))) []) (0 : Nat) D.dead)) (2 : Int) =
                                    ishr IntKind.u32 (D.toInt (List.getD (List.getD (intsD IntKind.u32 l) (Int.toNat (Prod.snd (Prod.snd (Prod.snd (Prod.snd a))))) []) (0 : Nat) D.dead)) (2 : Int) ∧
                                  ishr IntKind.u32 (D.toInt (List.getD (List.getD (intsD IntKind.u32 l) (Int.toNat (Prod.snd (Prod.snd (Prod.snd (Prod.snd a))))) []) (0 : Nat) D.dead)) (2 : Int) ≠ (0 : Int) ∧ false = false) ∧
                              ((ishr IntKind.u32 (D.toInt (List.getD (List.getD (intsD IntKind.u32 l) (Int.toNat (Prod.snd (Prod.snd (Prod.snd (Prod.snd a))))) []) (0 : Nat) D.dead)) (2 : Int) != (0 : Int)) = false →
                                false = true ∨ ishr IntKind.u32 (D.toInt (List.getD (List.getD (intsD IntKind.u32 l) (Int.toNat (Prod.snd (Prod.snd (Prod.snd (Prod.snd a))))) []) (0 : Nat) D.dead)) (2 : Int) = (0 : Int))) ∧
                        GD.Ask (Int.toNat (↑(List.length l) - IntKind.wrap IntKind.i64 (Prod.snd (Prod.snd (Prod.snd (Prod.snd a))) + (1 : Int))) < Int.toNat (↑(List.length l) - Prod.snd (Prod.snd (Prod.snd (Prod.snd a))))) ∧
                          (((intsD IntKind.u32 l = [] ∨ (1 : Nat) = (1 : Nat)) ∧ intsD IntKind.u32 l = intsD IntKind.u32 l) ∧
                              (nat_lit 0 = nat_lit 0 ∧ nat_lit 0 = nat_lit 0) ∧
                                (ishr IntKind.u32 (D.toInt (List.getD (List.getD (intsD IntKind.u32 l) (Int.toNat (Prod.snd (Prod.snd (Prod.snd (Prod.snd a))))) []) (0 : Nat) D.dead)) (2 : Int) != (0 : Int)) =
                                    (ishr IntKind.u32 (D.toInt (List.getD (List.getD (intsD IntKind.u32 l) (Int.toNat (Prod.snd (Prod.snd (Prod.snd (Prod.snd a))))) []) (0 : Nat) D.dead)) (2 : Int) != (0 : Int)) ∧
                                  ishr IntKind.u32 (D.toInt (List.getD (List.getD (intsD IntKind.u32 l) (Int.toNat (Prod.snd (Prod.snd (Prod.snd (Prod.snd a))))) []) (0 : Nat) D.dead)) (2 : Int) =
                                      ishr IntKind.u32 (D.toInt (List.getD (List.getD (intsD IntKind.u32 l) (Int.toNat (Prod.snd (Prod.snd (Prod.snd (Prod.snd a))))) []) (0 : Nat) D.dead)) (2 : Int) ∧
                                    IntKind.wrap IntKind.i64 (Prod.snd (Prod.snd (Prod.snd (Prod.snd a))) + (1 : Int)) = IntKind.wrap IntKind.i64 (Prod.snd (Prod.snd (Prod.snd (Prod.snd a))) + (1 : Int)) ∧ True) ∧
                            ((ishr IntKind.u32 (D.toInt (List.getD (List.getD (intsD IntKind.u32 l) (Int.toNat (Prod.snd (Prod.snd (Prod.snd (Prod.snd a))))) []) (0 : Nat) D.dead)) (2 : Int) != (0 : Int)) =
                                  (ishr IntKind.u32 (D.toInt (List.getD (List.getD (intsD IntKind.u32 l) (Int.toNat (Prod.snd (Prod.snd (Prod.snd (Prod.snd a))))) []) (0 : Nat) D.dead)) (2 : Int) != (0 : Int)) ∧
                                ishr IntKind.u32 (D.toInt (List.getD (List.getD (intsD IntKind.u32 l) (Int.toNat (Prod.snd (Prod.snd (Prod.snd (Prod.snd a))))) []) (0 : Nat) D.dead)) (2 : Int) =
                                    ishr IntKind.u32 (D.toInt (List.getD (List.getD (intsD IntKind.u32 l) (Int.toNat (Prod.snd (Prod.snd (Prod.snd (Prod.snd a))))) []) (0 : Nat) D.dead)) (2 : Int) ∧
                                  false = false ∧ True) ∧
                              True)))
                  (cand (Nat.beq (1 : Nat) (1 : Nat) && Nat.blt (0 : Nat) (1 : Nat) && decide ((0 : Int) ≤ Prod.snd (Prod.snd (Prod.snd (Prod.snd a))) ∧ Prod.snd (Prod.snd (Prod.snd (Prod.snd a))) < ↑(List.length (intsD IntKind.u32 l))))
                    (cand (D.isInt IntKind.u32 (List.getD (List.getD (intsD IntKind.u32 l) (Int.toNat (Prod.snd (Prod.snd (Prod.snd (Prod.snd a))))) []) (0 : Nat) D.dead))
                      (bcase (!(Prod.fst a && decide (D.toInt (List.getD (List.getD (intsD IntKind.u32 l) (Int.toNat (Prod.snd (Prod.snd (Prod.snd (Prod.snd a))))) []) (0 : Nat) D.dead) ≥ Prod.fst (Prod.snd (Prod.snd a)))))
                        (bcase (Prod.fst a)
                          (cand
                            (Nat.beq (1 : Nat) (1 : Nat) && Nat.blt (0 : Nat) (1 : Nat) &&
                              decide ((0 : Int) ≤ Prod.snd (Prod.snd (Prod.snd (Prod.snd a))) ∧ Prod.snd (Prod.snd (Prod.snd (Prod.snd a))) < ↑(List.length (intsD IntKind.u32 l))))
                            (cand (D.isInt IntKind.u32 (List.getD (List.getD (intsD IntKind.u32 l) (Int.toNat (Prod.snd (Prod.snd (Prod.snd (Prod.snd a))))) []) (0 : Nat) D.dead))
                              (bcase (decide (D.toInt (List.getD (List.getD (intsD IntKind.u32 l) (Int.toNat (Prod.snd (Prod.snd (Prod.snd (Prod.snd a))))) []) (0 : Nat) D.dead) ≥ Prod.fst (Prod.snd a))) (false = true ∧ True)
                                (GD.Ask
                                    (((0 : Int) ≤ IntKind.wrap IntKind.i64 (Prod.snd (Prod.snd (Prod.snd (Prod.snd a))) + (1 : Int)) ∧ IntKind.wrap IntKind.i64 (Prod.snd (Prod.snd (Prod.snd (Prod.snd a))) + (1 : Int)) ≤ ↑(List.length l)) ∧
                                      (Prod.fst a = true → Prod.fst (Prod.snd (Prod.snd a)) = Prod.fst (Prod.snd a) ∧ Prod.fst (Prod.snd (Prod.snd a)) ≠ (0 : Int) ∧ Prod.fst (Prod.snd (Prod.snd (Prod.snd a))) = false) ∧
                                        (Prod.fst a = false → Prod.fst (Prod.snd (Prod.snd (Prod.snd a))) = true ∨ Prod.fst (Prod.snd (Prod.snd a)) = (0 : Int))) ∧
                                  GD.Ask (Int.toNat (↑(List.length l) - IntKind.wrap IntKind.i64 (Prod.snd (Prod.snd (Prod.snd (Prod.snd a))) + (1 : Int))) < Int.toNat (↑(List.length l) - Prod.snd (Prod.snd (Prod.snd (Prod.snd a))))) ∧
                                    (((intsD IntKind.u32 l = [] ∨ (1 : Nat) = (1 : Nat)) ∧ intsD IntKind.u32 l = intsD IntKind.u32 l) ∧
                                        (nat_lit 0 = nat_lit 0 ∧ nat_lit 0 = nat_lit 0) ∧
                                          Prod.fst a = Prod.fst a ∧
                                            Prod.fst (Prod.snd a) = Prod.fst (Prod.snd a) ∧
                                              IntKind.wrap IntKind.i64 (Prod.snd (Prod.snd (Prod.snd (Prod.snd a))) + (1 : Int)) = IntKind.wrap IntKind.i64 (Prod.snd (Prod.snd (Prod.snd (Prod.snd a))) + (1 : Int)) ∧ True) ∧
                                      (Prod.fst a = Prod.fst a ∧ Prod.fst (Prod.snd (Prod.snd a)) = Prod.fst (Prod.snd (Prod.snd a)) ∧ Prod.fst (Prod.snd (Prod.snd (Prod.snd a))) = Prod.fst (Prod.snd (Prod.snd (Prod.snd a))) ∧ True) ∧
                                        True))))
                          (GD.Ask
                              (((0 : Int) ≤ IntKind.wrap IntKind.i64 (Prod.snd (Prod.snd (Prod.snd (Prod.snd a))) + (1 : Int)) ∧ IntKind.wrap IntKind.i64 (Prod.snd (Prod.snd (Prod.snd (Prod.snd a))) + (1 : Int)) ≤ ↑(List.length l)) ∧
                                (Prod.fst a = true → Prod.fst (Prod.snd (Prod.snd a)) = Prod.fst (Prod.snd a) ∧ Prod.fst (Prod.snd (Prod.snd a)) ≠ (0 : Int) ∧ Prod.fst (Prod.snd (Prod.snd (Prod.snd a))) = false) ∧
                                  (Prod.fst a = false → Prod.fst (Prod.snd (Prod.snd (Prod.snd a))) = true ∨ Prod.fst (Prod.snd (Prod.snd a)) = (0 : Int))) ∧
                            GD.Ask (Int.toNat (↑(List.length l) - IntKind.wrap IntKind.i64 (Prod.snd (Prod.snd (Prod.snd (Prod.snd a))) + (1 : Int))) < Int.toNat (↑(List.length l) - Prod.snd (Prod.snd (Prod.snd (Prod.snd a))))) ∧
                              (((intsD IntKind.u32 l = [] ∨ (1 : Nat) = (1 : Nat)) ∧ intsD IntKind.u32 l = intsD IntKind.u32 l) ∧
                                  (nat_lit 0 = nat_lit 0 ∧ nat_lit 0 = nat_lit 0) ∧
                                    Prod.fst a = Prod.fst a ∧
                                      Prod.fst (Prod.snd a) = Prod.fst (Prod.snd a) ∧
                                        IntKind.wrap IntKind.i64 (Prod.snd (Prod.snd (Prod.snd (Prod.snd a))) + (1 : Int)) = IntKind.wrap IntKind.i64 (Prod.snd (Prod.snd (Prod.snd (Prod.snd a))) + (1 : Int)) ∧ True) ∧
                                (Prod.fst a = Prod.fst a ∧ Prod.fst (Prod.snd (Prod.snd a)) = Prod.fst (Prod.snd (Prod.snd a)) ∧ Prod.fst (Prod.snd (Prod.snd (Prod.snd a))) = Prod.fst (Prod.snd (Prod.snd (Prod.snd a))) ∧ True) ∧ True))
                        (bcase (!Prod.fst a) (false = true ∧ True)
                          (bcase (!Prod.fst a) (false = true ∧ True)
                            (cand
                              (Nat.beq (1 : Nat) (1 : Nat) && Nat.blt (0 : Nat) (1 : Nat) &&
                                decide ((0 : Int) ≤ Prod.snd (Prod.snd (Prod.snd (Prod.snd a))) ∧ Prod.snd (Prod.snd (Prod.snd (Prod.snd a))) < ↑(List.length (intsD IntKind.u32 l))))
                              (cand (D.isInt IntKind.u32 (List.getD (List.getD (intsD IntKind.u32 l) (Int.toNat (Prod.snd (Prod.snd (Prod.snd (Prod.snd a))))) []) (0 : Nat) D.dead))
                                (bcase (decide (D.toInt (List.getD (List.getD (intsD IntKind.u32 l) (Int.toNat (Prod.snd (Prod.snd (Prod.snd (Prod.snd a))))) []) (0 : Nat) D.dead) < Prod.fst (Prod.snd a))) (false = true ∧ True)
                                  (bcase (!(Prod.fst a || Prod.fst (Prod.snd (Prod.snd (Prod.snd a))))) (false = true ∧ True)
                                    (GD.Ask
                                        (((0 : Int) ≤ IntKind.wrap IntKind.i64 (Prod.snd (Prod.snd (Prod.snd (Prod.snd a))) + (1 : Int)) ∧
                                            IntKind.wrap IntKind.i64 (Prod.snd (Prod.snd (Prod.snd (Prod.snd a))) + (1 : Int)) ≤ ↑(List.length l)) ∧
                                          (false = true → Prod.fst (Prod.snd (Prod.snd a)) = Prod.fst (Prod.snd a) ∧ Prod.fst (Prod.snd (Prod.snd a)) ≠ (0 : Int) ∧ (Prod.fst a || Prod.fst (Prod.snd (Prod.snd (Prod.snd a)))) = false) ∧
                                            (false = false → (Prod.fst a || Prod.fst (Prod.snd (Prod.snd (Prod.snd a)))) = true ∨ Prod.fst (Prod.snd (Prod.snd a)) = (0 : Int))) ∧
                                      GD.Ask (Int.toNat (↑(List.length l) - IntKind.wrap IntKind.i64 (Prod.snd (Prod.snd (Prod.snd (Prod.snd a))) + (1 : Int))) < Int.toNat (↑(List.length l) - Prod.snd (Prod.snd (Prod.snd (Prod.snd a))))) ∧
                                        (((intsD IntKind.u32 l = [] ∨ (1 : Nat) = (1 : Nat)) ∧ intsD IntKind.u32 l = intsD IntKind.u32 l) ∧
                                            (nat_lit 0 = nat_lit 0 ∧ nat_lit 0 = nat_lit 0) ∧
                                              false = false ∧
                                                Prod.fst (Prod.snd a) = Prod.fst (Prod.snd a) ∧
                                                  IntKind.wrap IntKind.i64 (Prod.snd (Prod.snd (Prod.snd (Prod.snd a))) + (1 : Int)) = IntKind.wrap IntKind.i64 (Prod.snd (Prod.snd (Prod.snd (Prod.snd a))) + (1 : Int)) ∧ True) ∧
                                          (false = false ∧
                                              Prod.fst (Prod.snd (Prod.snd a)) = Prod.fst (Prod.snd (Prod.snd a)) ∧
                                                (Prod.fst a || Prod.fst (Prod.snd (Prod.snd (Prod.snd a)))) = (Prod.fst a || Prod.fst (Prod.snd (Prod.snd (Prod.snd a)))) ∧ True) ∧
                                            True)))))))))))))
            (bcase (if Prod.fst a = true then !Prod.fst (Prod.snd (Prod.snd (Prod.snd a))) && Prod.fst (Prod.snd (Prod.snd a)) != (0 : Int) else Prod.fst (Prod.snd (Prod.snd (Prod.snd a))) || Prod.fst (Prod.snd (Prod.snd a)) == (0 : Int))
              (true = true ∧ True) (false = true ∧ True)))) := by kernel_rfl

theorem law8_TimerOnce_calls (l : List Int) : ACalls Try.prog 4 [.sl 1 (intsD .u32 l) false] [] (.bool true) [] := by
  have hG : AllOK Try.prog [timer_Arm_m, timer_Fire_m, timer_Due_m, timer_Pending_m, timer_May_m, law8_awake_m] := by
    intro x hx
    simp only [List.mem_cons, List.not_mem_nil, or_false] at hx
    rcases hx with rfl | rfl | rfl | rfl | rfl | rfl
    · exact timer_Arm_ok
    · exact timer_Fire_ok
    · exact timer_Due_ok
    · exact timer_Pending_ok
    · exact timer_May_ok
    · exact law8_awake_ok
  refine fn_ok drawn tabOK hG Try.func4 (LL_ok drawn tabOK hG 3 (invs := [(6, law8_TimerOnce_i0 l)])) ?_
  refine Eq.mpr (law8_TimerOnce_nf l) ?_
  simp only [bcase_iff, cand_iff, ask_iff, intsD_length, decide_eq_true_eq, decide_eq_false_iff_not]
  refine ⟨fun _ => ⟨trivial, trivial⟩, fun hl => ⟨by grind, by simp, ?_⟩⟩
  rintro ⟨armed, dl, td, fd, i⟩ ⟨⟨h1, h2⟩, h3, h4⟩
  simp only at h1 h2 h3 h4
  refine ⟨fun hi => ?_, fun hi => ?_⟩
  · simp only at hi
    have hx := intsD_getD (k := .u32) (l := l) (i := i.toNat) (by omega)
    have hw : IntKind.wrap .i64 (i + 1) = i + 1 := w64 (by omega) (by omega)
    have hm : (l.length - (i + 1)).toNat < (l.length - i).toNat := by omega
    simp only [hx, hw, hm]
    generalize l.getD i.toNat 0 = x
    simp [D.isInt, D.toInt]
    grind
  · grind

end Go.Proofs.Ytcalcaifpolboaa

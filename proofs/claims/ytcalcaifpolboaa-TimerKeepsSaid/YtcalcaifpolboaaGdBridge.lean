/-
  GD: from a law's call to the frame of its statement.
-/
import Derived.Test.YtcalcaifpolboaaGdList
import Derived.Below
import Derived.DataReads
namespace Go.GD
open Go
set_option linter.unusedVariables false

/-- All of memory is there to be read. -/
def Ctx.all (w : World) : Ctx := { ρ := fun r => r, R := fun _ => none, I := fun b => b < w.heap.size, base := w.heap.size }

theorem all_mem (w : World) : Mem (Ctx.all w) w := ⟨fun r row h => by simp [Ctx.all] at h, fun r s x y h => by simp [Ctx.all] at h, fun b hb => ⟨hb, fun r x h => by simp [Ctx.all] at h⟩⟩

theorem law_walk {P : Program} {f : FuncId} {args : List D} {vs : List Value} {w : World} (h : ACalls P f args [] (.bool true) []) (ha : VReps (Ctx.all w) w args vs) :
    Calls P f vs.toArray w fun e w' => e = .returned (.bool true) ∧ RowKit.Below w.heap.size w w' := by
  refine (h (Ctx.all w) w vs (all_mem w) rfl (fun r => by simp [Ctx.all]) ha).mono fun e w' hq => ?_
  obtain ⟨v, c', he, hn, _, hr⟩ := hq
  have hv : v = .bool true := hr
  subst hv
  exact ⟨he, hn.fr.os, hn.fr.tape, hn.fr.output, hn.fr.size, fun k hk => hn.fr.heap k hk fun ⟨r, x, hr, _⟩ => by simp [Ctx.all] at hr⟩

theorem heap_lt {w : World} {b : Nat} {o : Obj} (h : w.heap[b]? = some o) : b < w.heap.size := by
  by_cases hlt : b < w.heap.size
  · exact hlt
  · rw [Array.getElem?_eq_none (by omega)] at h; cases h

/-- A slice of numbers that came in. -/
theorem ints_rep {w : World} {k : IntKind} {a : Option Addr} {len cap : Nat} {zs : List Int}
    (h : (a = none ∧ len = 0 ∧ cap = 0 ∧ zs = []) ∨ ∃ x, a = some x ∧ len ≤ cap ∧ cap ≤ maxLen ∧ zs.length = cap ∧ (∀ i, i < zs.length → w.cell? (x.add i) = some (.int k (zs.getD i 0))) ∧ ∀ n ∈ zs, (Lit.int k n).wf = true) :
    VRep (Ctx.all w) w (.sl 1 (intsD k (zs.take len)) false) (.slice a len cap) := by
  rcases h with ⟨rfl, rfl, rfl, rfl⟩ | ⟨x, rfl, h1, h2, h3, h4, _⟩
  · exact ⟨none, 0, rfl, Nat.le_refl _, .inl rfl⟩
  · have hl : (intsD k (zs.take len)).length = len := by simp; omega
    refine ⟨some x, cap, by rw [hl], by rw [hl]; exact h1, ?_⟩
    by_cases hz : len = 0
    · subst hz; exact .inl rfl
    · right
      have h0 := h4 0 (by omega)
      have hsp := World.cell?_spot h0
      obtain ⟨b, off, sp⟩ := x
      simp only [Addr.add, if_true] at hsp h0
      subst hsp
      have hb : ∃ arr ty fz, w.heap[b]? = some (.cells arr ty fz) := by
        unfold World.cell? at h0
        split at h0
        · rename_i arr ty fz he; exact ⟨arr, ty, fz, he⟩
        · cases h0
      obtain ⟨arr, ty, fz, he⟩ := hb
      have hcell : ∀ i, i < zs.length → arr[off + i]? = some (.int k (zs.getD i 0)) := fun i hi => by
        have := h4 i hi
        unfold World.cell? at this
        have e1 : ((⟨b, off, none⟩ : Addr).add i).block = b := by unfold Addr.add; split <;> rfl
        have e2 : ((⟨b, off, none⟩ : Addr).add i).off = off + i := by unfold Addr.add; split <;> simp_all
        have e3 : ((⟨b, off, none⟩ : Addr).add i).spot = none := by unfold Addr.add; split <;> rfl
        rw [e1, he] at this
        simpa [e2, e3] using this
      refine ⟨b, off, arr, ty, fz, rfl, heap_lt he, (fun e => by cases e), he, ?_⟩
      have key : ∀ (l : List Int) (o : Nat), (∀ i, i < l.length → arr[o + i]? = some (.int k (l.getD i 0))) → PElems (Ctx.all w).I w (intsD k l) arr o 1 := by
        intro l
        induction l with
        | nil => intro o _; trivial
        | cons n l ih =>
          intro o hc
          refine ⟨rfl, ⟨⟨_, by simpa using hc 0 (by simp), rfl⟩, trivial⟩, ih (o + 1) fun i hi => ?_⟩
          have := hc (i + 1) (by simpa using hi)
          rw [show o + 1 + i = o + (i + 1) by omega]
          simpa using this
      refine key _ _ fun i hi => ?_
      have hi' : i < len := by simp at hi; omega
      rw [hcell i (by omega)]
      simp [List.getD, hi']

end Go.GD

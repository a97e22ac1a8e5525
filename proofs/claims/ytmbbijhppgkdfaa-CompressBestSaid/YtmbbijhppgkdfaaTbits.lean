/- What Bits, Compress and Contexts answer: plain laws. -/
import Derived.Test.YtmbbijhppgkdfaaGcomp
import Derived.Test.YtmbbijhppgkdfaaGfew
import Derived.Test.YtmbbijhppgkdfaaGclone
import Derived.Test.YtmbbijhppgkdfaaTfind
namespace Go.Proofs.Ytmbbijhppgkdfaa.P14
open Go.RowKit Go.Proofs.YtmbbijhppgkdfaaW.PrintWords Go.Proofs.YtmbbijhppgkdfaaW.PrintLast Go.Proofs.YtmbbijhppgkdfaaW.PrintMore
set_option linter.unusedVariables false
set_option linter.unusedSimpArgs false

/-- Contexts are right. -/
def conOk (cs : List S26) : Bool := !(decide (8 < cs.length) || ctxBad cs)
theorem con_eq (cs : List S26) (h : ctxHuge cs = false) : compress_Contexts.f cs = some (if conOk cs = true then 0 else 1) := by
  unfold compress_Contexts.f conOk
  rw [if_neg (by rw [h]; decide)]
  cases decide (8 < cs.length) || ctxBad cs <;> rfl
theorem conOk_iff (cs : List S26) : conOk cs = true ↔ cs.length ≤ 8 ∧ ∀ i : Int, 0 ≤ i → i < (cs.length : Int) → 1 ≤ (rd_T26 cs i).f0.size ∧ (rd_T26 cs i).f0.size ≤ 4 := by
  unfold conOk
  constructor
  · intro h
    have hc : (decide (8 < cs.length) || ctxBad cs) = false := by
      cases hq : (decide (8 < cs.length) || ctxBad cs) with
      | false => rfl
      | true => rw [hq] at h; cases h
    rw [Bool.or_eq_false_iff] at hc
    refine ⟨Nat.le_of_not_lt (of_decide_eq_false hc.1), fun i h0 h1 => ?_⟩
    have h2 := List.any_eq_false.mp hc.2 i.toNat (by simp; omega)
    rw [Int.toNat_of_nonneg h0] at h2
    unfold preBad at h2
    have h3 : (decide (1 ≤ (rd_T26 cs i).f0.size) && decide ((rd_T26 cs i).f0.size ≤ 4)) = true := by
      cases hq : (decide (1 ≤ (rd_T26 cs i).f0.size) && decide ((rd_T26 cs i).f0.size ≤ 4)) with
      | true => rfl
      | false => rw [hq] at h2; exact absurd rfl h2
    exact ⟨of_decide_eq_true (Bool.and_eq_true_iff.mp h3).1, of_decide_eq_true (Bool.and_eq_true_iff.mp h3).2⟩
  · rintro ⟨h1, h2⟩
    have e1 : decide (8 < cs.length) = false := decide_eq_false (by omega)
    have e2 : ctxBad cs = false := by
      refine List.any_eq_false.mpr fun j hj => ?_
      have := h2 (j : Int) (by omega) (by have := List.mem_range.mp hj; omega)
      unfold preBad
      rw [decide_eq_true this.1, decide_eq_true this.2]
      decide
    rw [e1, e2]
    rfl
/-- Few and short. -/
def fewB (cs : List S26) : Bool := decide (cs.length ≤ 12) && !longP cs
theorem few_iff (cs : List S26) : fewB cs = true ↔ cs.length ≤ 12 ∧ ∀ i : Int, 0 ≤ i → i < (cs.length : Int) → (rd_T26 cs i).f0.size ≤ 20 := by
  unfold fewB
  constructor
  · intro h
    obtain ⟨h1, h2⟩ := Bool.and_eq_true_iff.mp h
    refine ⟨of_decide_eq_true h1, fun i h0 hi => ?_⟩
    have h3 : longP cs = false := by simpa using h2
    have h4 := List.any_eq_false.mp h3 i.toNat (by simp; omega)
    rw [Int.toNat_of_nonneg h0] at h4
    have := of_decide_eq_false (Bool.eq_false_iff.mpr h4)
    omega
  · rintro ⟨h1, h2⟩
    have e2 : longP cs = false := by
      refine List.any_eq_false.mpr fun j hj => ?_
      have := h2 (j : Int) (by omega) (by have := List.mem_range.mp hj; omega)
      intro hc
      have := of_decide_eq_true hc
      omega
    rw [decide_eq_true h1, e2]
    rfl
theorem huge_of (cs : List S26) (h : ∀ i : Int, 0 ≤ i → i < (cs.length : Int) → (rd_T26 cs i).f0.size ≤ 20) : ctxHuge cs = false := by
  refine List.any_eq_false.mpr fun j hj => ?_
  have := h (j : Int) (by omega) (by have := List.mem_range.mp hj; omega)
  intro hc
  have := of_decide_eq_true hc
  omega
theorem bits_eq (cs : List S26) (h : ctxHuge cs = false) (a0 a1 : Int) (a2 a3 : ByteArray) (a4 a5 a6 : Int) : compress_Bits.f cs a0 a1 a2 a3 a4 a5 a6 = some (if (conOk cs && okB ⟨a0, a1, a2, a3, a4, a5, a6⟩) = true then (((headB cs ⟨a0, a1, a2, a3, a4, a5, a6⟩).length : Int), 0) else (0, 1)) := by
  unfold compress_Bits.f
  rw [con_eq cs h]
  cases conOk cs <;> cases okB ⟨a0, a1, a2, a3, a4, a5, a6⟩ <;> rfl
theorem comp_eq (cs : List S26) (h : ctxHuge cs = false) (a0 a1 : Int) (a2 a3 : ByteArray) (a4 a5 a6 : Int) : compress_Compress.f cs a0 a1 a2 a3 a4 a5 a6 = some (if (conOk cs && okB ⟨a0, a1, a2, a3, a4, a5, a6⟩) = true then (strOfNums (pack (headB cs ⟨a0, a1, a2, a3, a4, a5, a6⟩)), 0) else (⟨#[]⟩, 1)) := by
  unfold compress_Compress.f
  rw [con_eq cs h]
  cases conOk cs <;> cases okB ⟨a0, a1, a2, a3, a4, a5, a6⟩ <;> rfl
theorem clone_eq (cs : List S26) (h : cs.length ≤ 1000) : api_Context.f cs = some cs := if_pos (by omega)
end Go.Proofs.Ytmbbijhppgkdfaa.P14

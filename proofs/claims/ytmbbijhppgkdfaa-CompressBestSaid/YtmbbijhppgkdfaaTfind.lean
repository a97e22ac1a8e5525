/- The context of an address, and how many bits an address has: plain laws. -/
import Derived.Test.YtmbbijhppgkdfaaGaddr
namespace Go.Proofs.Ytmbbijhppgkdfaa.P14
open Go.RowKit Go.Proofs.YtmbbijhppgkdfaaW.PrintWords Go.Proofs.YtmbbijhppgkdfaaW.PrintLast Go.Proofs.YtmbbijhppgkdfaaW.PrintMore
set_option linter.unusedVariables false
set_option linter.unusedSimpArgs false

/-- Best is the context of a among the first i contexts (or -1). -/
def Inv (l : List S26) (a : ByteArray) (i : Nat) (best : Int) : Prop :=
  (best = -1 ∧ ∀ j : Nat, j < i → fitsB a (rd_T26 l (j : Int)).f0 = false) ∨
  (0 ≤ best ∧ best < (i : Int) ∧ fitsB a (rd_T26 l best).f0 = true ∧ ∀ j : Nat, j < i → fitsB a (rd_T26 l (j : Int)).f0 = true → (rd_T26 l (j : Int)).f0.size < (rd_T26 l best).f0.size ∨ (rd_T26 l (j : Int)).f0.size = (rd_T26 l best).f0.size ∧ best ≤ (j : Int))
theorem findGo_inv (l : List S26) (a : ByteArray) (d : Nat) : ∀ (i : Nat) (best : Int), Inv l a i best → Inv l a (i + d) (findGo l a d i best) := by
  induction d with
  | zero => exact fun i best h => h
  | succ d ih =>
    intro i best h
    simp only [findGo]
    have e : i + (d + 1) = (i + 1) + d := by omega
    rw [e]
    refine ih (i + 1) _ ?_
    by_cases hf : fitsB a (rd_T26 l (i : Int)).f0 = true
    · rw [hf, Bool.true_and]
      rcases h with ⟨rfl, hn⟩ | ⟨h0, h1, h2, h3⟩
      · rw [if_pos (by simp)]
        refine Or.inr ⟨by omega, by omega, hf, fun j hj hfj => ?_⟩
        by_cases hji : j = i
        · subst hji; exact Or.inr ⟨rfl, Int.le_refl _⟩
        · have := hn j (by omega)
          rw [this] at hfj
          cases hfj
      · have hb : decide (best < 0) = false := decide_eq_false (by omega)
        rw [hb, Bool.false_or]
        by_cases hs : (rd_T26 l best).f0.size < (rd_T26 l (i : Int)).f0.size
        · rw [if_pos (decide_eq_true hs)]
          refine Or.inr ⟨by omega, by omega, hf, fun j hj hfj => ?_⟩
          by_cases hji : j = i
          · subst hji; exact Or.inr ⟨rfl, Int.le_refl _⟩
          · have := h3 j (by omega) hfj
            omega
        · rw [if_neg (by simpa using hs)]
          refine Or.inr ⟨h0, by omega, h2, fun j hj hfj => ?_⟩
          by_cases hji : j = i
          · subst hji; omega
          · exact h3 j (by omega) hfj
    · have hf := Bool.eq_false_iff.mpr hf
      rw [hf, Bool.false_and, if_neg (by decide)]
      rcases h with ⟨hb, hn⟩ | ⟨h0, h1, h2, h3⟩
      · refine Or.inl ⟨hb, fun j hj => ?_⟩
        by_cases hji : j = i
        · subst hji; exact hf
        · exact hn j (by omega)
      · refine Or.inr ⟨h0, by omega, h2, fun j hj hfj => ?_⟩
        by_cases hji : j = i
        · subst hji; rw [hf] at hfj; cases hfj
        · exact h3 j (by omega) hfj
theorem findS_inv (l : List S26) (a : ByteArray) : Inv l a l.length (findS l a) := by
  have h := findGo_inv l a l.length 0 (-1) (Or.inl ⟨rfl, fun j hj => absurd hj (Nat.not_lt_zero _)⟩)
  rw [Nat.zero_add] at h
  exact h
theorem addrB_size (cs : List S26) (a : ByteArray) : (addrB cs a).length = if 0 ≤ findS cs a then 4 + 8 * (a.size - (rd_T26 cs (findS cs a)).f0.size) else 1 + 8 * a.size := by
  unfold addrB headS restS
  by_cases h : 0 ≤ findS cs a
  · rw [if_pos h, if_pos h, if_pos h, List.length_append, bytesB_len]
    have := fits_size (findS_fits cs a h)
    simp [bitsOf_len]
  · rw [if_neg h, if_neg h, if_neg h, List.length_append, bytesB_len]
    simp
theorem rd_left (cs : List S26) (m : S26) (j : Int) (h0 : 0 ≤ j) (h1 : j < (cs.length : Int)) : rd_T26 (cs ++ [m]) j = rd_T26 cs j := by
  unfold rd_T26
  simp only [List.getD_eq_getElem?_getD]
  rw [List.getElem?_append_left (by omega)]
theorem addrB_more (cs : List S26) (m : S26) (a : ByteArray) (hm : 1 ≤ m.f0.size) : (addrB (cs ++ [m]) a).length ≤ (addrB cs a).length := by
  rw [addrB_size, addrB_size]
  have h2 := findS_inv (cs ++ [m]) a
  have h1 := findS_inv cs a
  have hl : (cs ++ [m]).length = cs.length + 1 := by simp
  have hrm : rd_T26 (cs ++ [m]) (cs.length : Int) = m := by
    unfold rd_T26
    simp
  rw [hl] at h2
  generalize findS (cs ++ [m]) a = r2 at h2 ⊢
  generalize findS cs a = r1 at h1 ⊢
  rcases h1 with ⟨rfl, n1⟩ | ⟨a1, b1, f1, m1⟩
  · rw [if_neg (show ¬ (0 : Int) ≤ -1 by omega)]
    rcases h2 with ⟨rfl, n2⟩ | ⟨a2, b2, f2, m2⟩
    · rw [if_neg (show ¬ (0 : Int) ≤ -1 by omega)]
      exact Nat.le_refl _
    · rw [if_pos a2]
      by_cases he : r2 = (cs.length : Int)
      · rw [he, hrm]
        rw [he, hrm] at f2
        have := fits_size f2
        omega
      · rw [rd_left cs m r2 a2 (by omega)] at f2
        obtain ⟨n, rfl⟩ : ∃ n : Nat, r2 = (n : Int) := ⟨r2.toNat, by omega⟩
        rw [n1 n (by omega)] at f2
        cases f2
  · rw [if_pos a1]
    obtain ⟨n, rfl⟩ : ∃ n : Nat, r1 = (n : Int) := ⟨r1.toNat, by omega⟩
    have e1 := rd_left cs m (n : Int) a1 b1
    rcases h2 with ⟨rfl, n2⟩ | ⟨a2, b2, f2, m2⟩
    · have := n2 n (by omega)
      rw [e1, f1] at this
      cases this
    · rw [if_pos a2]
      have := m2 n (by omega) (by rw [e1]; exact f1)
      rw [e1] at this
      omega
theorem addrB_nil (a : ByteArray) : (addrB [] a).length = 1 + 8 * a.size := by
  rw [addrB_size]
  rfl
theorem addrB_most (cs : List S26) (a : ByteArray) (h : ∀ i : Int, 0 ≤ i → i < (cs.length : Int) → 1 ≤ (rd_T26 cs i).f0.size) : (addrB cs a).length ≤ 1 + 8 * a.size := by
  rw [addrB_size]
  have h1 := findS_range cs a
  split
  · rename_i h0
    have := h _ h0 h1.2
    have := fits_size (findS_fits cs a h0)
    omega
  · exact Nat.le_refl _
end Go.Proofs.Ytmbbijhppgkdfaa.P14

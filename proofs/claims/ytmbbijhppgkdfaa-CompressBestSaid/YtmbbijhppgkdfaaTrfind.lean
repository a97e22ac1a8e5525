/- hopmeshref14's Contexts, Check and Find answer as the program's: plain laws. -/
import Derived.Test.YtmbbijhppgkdfaaP14Rf
import Derived.Test.YtmbbijhppgkdfaaP14Rc
import Derived.Test.YtmbbijhppgkdfaaTbits
namespace Go.Proofs.Ytmbbijhppgkdfaa.P14
open Go.RowKit Go.Proofs.YtmbbijhppgkdfaaW.PrintWords Go.Proofs.YtmbbijhppgkdfaaW.PrintLast Go.Proofs.YtmbbijhppgkdfaaW.PrintMore
set_option linter.unusedVariables false
set_option linter.unusedSimpArgs false

theorem within_eq (a m : Int) : hopmeshref14_within.f a m = some (decide (0 ≤ a ∧ a ≤ m)) := by
  unfold hopmeshref14_within.f
  by_cases h : a ≥ 0
  · rw [if_pos h]
    simp only [Option.some.injEq, decide_eq_decide]
    omega
  · rw [if_neg h]
    simp only [Option.some.injEq]
    exact (decide_eq_false (by omega)).symm
theorem ccheck_eq (k : Nat) (a0 a1 : Int) (a2 a3 : ByteArray) (a4 a5 a6 : Int) : hopmeshref14_Check.f (k + 1) a0 a1 a2 a3 a4 a5 a6 = some (if okB ⟨a0, a1, a2, a3, a4, a5, a6⟩ = true then 0 else 1) := by
  unfold hopmeshref14_Check.f
  simp only [within_eq, Option.bind_some, hopmeshref14_Check.j0]
  unfold okB
  by_cases h0 : 0 ≤ a0 ∧ a0 ≤ 255
  · rw [if_pos (decide_eq_true h0), decide_eq_true h0, Bool.true_and]
    by_cases h1 : 0 ≤ a1 ∧ a1 ≤ 255
    · rw [if_pos (decide_eq_true h1), decide_eq_true h1, Bool.true_and]
      by_cases h2 : a2.size = 4
      · rw [if_pos (by omega), decide_eq_true h2, Bool.true_and]
        by_cases h3 : a3.size = 4
        · rw [if_pos (by omega), decide_eq_true h3, Bool.true_and]
          by_cases h4 : 0 ≤ a4 ∧ a4 ≤ 65535
          · rw [if_pos (decide_eq_true h4), decide_eq_true h4, Bool.true_and]
            by_cases h5 : 0 ≤ a5 ∧ a5 ≤ 65535
            · rw [if_pos (decide_eq_true h5), decide_eq_true h5, Bool.true_and]
              by_cases h6 : 0 ≤ a6 ∧ a6 ≤ 4095
              · rw [decide_eq_true h6]; rfl
              · rw [decide_eq_false h6]; rfl
            · rw [if_neg (by simpa using h5), decide_eq_false h5]; rfl
          · rw [if_neg (by simpa using h4), decide_eq_false h4]; rfl
        · rw [if_neg (by omega), decide_eq_false h3]; rfl
      · rw [if_neg (by omega), decide_eq_false h2]; rfl
    · rw [if_neg (by simpa using h1), decide_eq_false h1]; rfl
  · rw [if_neg (by simpa using h0), decide_eq_false h0]; rfl
def conFrom (cs : List S26) (i : Nat) : Prop := ∀ j : Nat, i ≤ j → j < cs.length → 1 ≤ (rd_T26 cs (j : Int)).f0.size ∧ (rd_T26 cs (j : Int)).f0.size ≤ 4
theorem ccon_l0 (cs : List S26) (hl : cs.length ≤ 8) (d : Nat) : ∀ (i k : Nat), i + d = cs.length → d < k →
    (conFrom cs i ∧ hopmeshref14_Contexts.l0 k cs (i : Int) = some 0) ∨ (¬ conFrom cs i ∧ hopmeshref14_Contexts.l0 k cs (i : Int) = some 1) := by
  induction d with
  | zero =>
    intro i k hi hk
    obtain ⟨k, rfl⟩ : ∃ z, k = z + 1 := ⟨k - 1, by omega⟩
    simp only [hopmeshref14_Contexts.l0]
    rw [if_neg (by omega)]
    exact Or.inl ⟨fun j h1 h2 => absurd h2 (by omega), rfl⟩
  | succ d ih =>
    intro i k hi hk
    obtain ⟨k, rfl⟩ : ∃ z, k = z + 1 := ⟨k - 1, by omega⟩
    have ew : wrap64 ((i : Int) + 1) = ((i + 1 : Nat) : Int) := by unfold wrap64; omega
    simp only [hopmeshref14_Contexts.l0]
    rw [if_pos (by omega), if_pos (by omega)]
    by_cases h1 : 1 ≤ (rd_T26 cs (i : Int)).f0.size
    · rw [if_neg (by omega)]
      by_cases h2 : (rd_T26 cs (i : Int)).f0.size ≤ 4
      · rw [if_neg (by omega), ew]
        rcases ih (i + 1) k (by omega) (by omega) with ⟨hA, e⟩ | ⟨hA, e⟩
        · exact Or.inl ⟨fun j hj hjl => by
            by_cases he : j = i
            · subst he; exact ⟨h1, h2⟩
            · exact hA j (by omega) hjl, e⟩
        · exact Or.inr ⟨fun hB => hA fun j hj hjl => hB j (by omega) hjl, e⟩
      · rw [if_pos (by omega)]
        exact Or.inr ⟨fun hB => h2 (hB i (Nat.le_refl _) (by omega)).2, rfl⟩
    · rw [if_pos (by omega)]
      exact Or.inr ⟨fun hB => h1 (hB i (Nat.le_refl _) (by omega)).1, rfl⟩
theorem ccon_eq (cs : List S26) (k : Nat) (hk : cs.length < k) : hopmeshref14_Contexts.f k cs = some (if conOk cs = true then 0 else 1) := by
  unfold hopmeshref14_Contexts.f
  by_cases h8 : cs.length ≤ 8
  · rw [if_neg (by omega)]
    have h := ccon_l0 cs h8 cs.length 0 k (Nat.zero_add _) hk
    rw [show ((0 : Nat) : Int) = 0 from rfl] at h
    rcases h with ⟨hA, e⟩ | ⟨hA, e⟩
    · rw [e, if_pos ((conOk_iff cs).mpr ⟨h8, fun i h0 h1 => by
        have := hA i.toNat (Nat.zero_le _) (by omega)
        rw [Int.toNat_of_nonneg h0] at this
        exact this⟩)]
    · rw [e, if_neg (fun hc => hA fun j _ hj => ((conOk_iff cs).mp hc).2 (j : Int) (by omega) (by omega))]
  · rw [if_pos (by omega), if_neg (fun hc => h8 ((conOk_iff cs).mp hc).1)]
theorem extr_iff (a p : ByteArray) : ((a.extract 0 p.size).toList = p.toList) ↔ fitsB a p = true := by
  rw [ByteArray.toList_eq, ByteArray.toList_eq]
  have e : (a.extract 0 p.size).data.toList = a.data.toList.take p.size := by simp
  rw [e]
  unfold fitsB
  rw [decide_eq_true_eq]
/-- What Find answers for the context that was found. -/
def fndR (x : Int) : Int × Bool := (mx x 0, decide (x ≥ 0))
theorem cfind_l0 (l : List S26) (a : ByteArray) (ha : a.size = 4) (hl : l.length ≤ 8) (hs : ∀ i : Int, 0 ≤ i → i < (l.length : Int) → 1 ≤ (rd_T26 l i).f0.size ∧ (rd_T26 l i).f0.size ≤ 4) (d : Nat) : ∀ (i k : Nat) (best : Int), i + d = l.length → 2 * d < k → -1 ≤ best → best < (i : Int) →
    hopmeshref14_Find.l0 k l a best (i : Int) = some (fndR (findGo l a d i best)) := by
  induction d with
  | zero =>
    intro i k best hi hk h0 h1
    obtain ⟨k, rfl⟩ : ∃ z, k = z + 1 := ⟨k - 1, by omega⟩
    simp only [hopmeshref14_Find.l0]
    rw [if_neg (by omega)]
    rfl
  | succ d ih =>
    intro i k best hi hk h0 h1
    obtain ⟨k, rfl⟩ : ∃ z, k = z + 2 := ⟨k - 2, by omega⟩
    have ew : wrap64 ((i : Int) + 1) = ((i + 1 : Nat) : Int) := by unfold wrap64; omega
    obtain ⟨s1, s2⟩ := hs (i : Int) (by omega) (by omega)
    have eg : findGo l a (d + 1) i best = findGo l a d (i + 1) (if (fitsB a (rd_T26 l (i : Int)).f0 && (decide (best < 0) || decide ((rd_T26 l best).f0.size < (rd_T26 l (i : Int)).f0.size))) = true then (i : Int) else best) := rfl
    rw [eg]
    simp only [hopmeshref14_Find.l0]
    rw [if_pos (by omega), if_pos (by omega), if_pos (by omega), if_pos (by omega), Int.toNat_natCast]
    by_cases hf : fitsB a (rd_T26 l (i : Int)).f0 = true
    · rw [if_pos ((extr_iff _ _).mpr hf), hf, Bool.true_and]
      by_cases hb : best < 0
      · rw [if_pos hb, decide_eq_true hb, Bool.true_or, if_pos rfl]
        simp only [hopmeshref14_Find.j2]
        rw [if_pos trivial, ew]
        exact ih (i + 1) k (i : Int) (by omega) (by omega) (by omega) (by omega)
      · rw [if_neg hb, decide_eq_false hb, Bool.false_or, if_pos (by omega), if_pos (by omega)]
        simp only [hopmeshref14_Find.j2]
        by_cases hg : (rd_T26 l best).f0.size < (rd_T26 l (i : Int)).f0.size
        · rw [if_pos (decide_eq_true (by omega)), if_pos (decide_eq_true hg), ew]
          exact ih (i + 1) k (i : Int) (by omega) (by omega) (by omega) (by omega)
        · rw [if_neg (by rw [decide_eq_true_eq]; omega), if_neg (by rw [decide_eq_true_eq]; exact hg), ew]
          exact ih (i + 1) k best (by omega) (by omega) (by omega) (by omega)
    · rw [if_neg (fun h => hf ((extr_iff _ _).mp h)), Bool.eq_false_iff.mpr hf, Bool.false_and, if_neg (by decide)]
      simp only [hopmeshref14_Find.j2]
      rw [if_neg (by decide), ew]
      exact ih (i + 1) k best (by omega) (by omega) (by omega) (by omega)
theorem cfind_eq (l : List S26) (a : ByteArray) (k : Nat) (hk : 2 * l.length + 2 < k) : hopmeshref14_Find.f k l a = some (if (conOk l && decide (a.size = 4)) = true then fndR (findS l a) else (0, false)) := by
  obtain ⟨k, rfl⟩ : ∃ z, k = z + 1 := ⟨k - 1, by omega⟩
  unfold hopmeshref14_Find.f
  rw [ccon_eq l (k + 1) (by omega), Option.bind_some]
  by_cases hc : conOk l = true
  · have hcc := (conOk_iff l).mp hc
    rw [if_pos hc, if_pos rfl, hc, Bool.true_and]
    simp only [hopmeshref14_Find.j0]
    by_cases ha : a.size = 4
    · rw [decide_eq_true ha, if_pos rfl, show ((a.size : Int) != 4) = false by simp; omega, if_neg (by decide)]
      have h := cfind_l0 l a ha hcc.1 hcc.2 l.length 0 k (-1) (Nat.zero_add _) (by omega) (by omega) (by omega)
      rw [show ((0 : Nat) : Int) = 0 from rfl] at h
      rw [h]
      rfl
    · rw [decide_eq_false ha, if_neg (show ¬ (false = true) by decide), show ((a.size : Int) != 4) = true by simp; omega, if_pos rfl]
  · rw [if_neg hc, if_neg (show ¬ ((1 : Int) = 0) by decide), Bool.eq_false_iff.mpr hc, Bool.false_and, if_neg (show ¬ (false = true) by decide)]
    simp only [hopmeshref14_Find.j0]
    rfl
end Go.Proofs.Ytmbbijhppgkdfaa.P14

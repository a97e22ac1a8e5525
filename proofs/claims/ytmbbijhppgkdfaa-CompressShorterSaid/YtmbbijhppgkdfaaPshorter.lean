/- CompressShorter's plain law: a further context never makes a header longer. -/
import Derived.Test.YtmbbijhppgkdfaaP14L3
import Derived.Test.YtmbbijhppgkdfaaTbits
import Derived.Test.YtmbbijhppgkdfaaTawake
namespace Go.Proofs.Ytmbbijhppgkdfaa.P14
open Go.RowKit Go.Proofs.YtmbbijhppgkdfaaW.PrintWords Go.Proofs.YtmbbijhppgkdfaaW.PrintLast Go.Proofs.YtmbbijhppgkdfaaW.PrintMore
set_option linter.unusedVariables false
set_option linter.unusedSimpArgs false

theorem few_eq (cs : List S26) : hopmeshlaw14_few.f cs = some (fewB cs) := rfl
theorem headB_more (cs : List S26) (m : S26) (h : S24) (hm : 1 ≤ m.f0.size) : (headB (cs ++ [m]) h).length ≤ (headB cs h).length := by
  have h1 := addrB_more cs m h.f2 hm
  have h2 := addrB_more cs m h.f3 hm
  unfold headB
  simp only [List.length_append]
  omega
theorem headB_none (cs : List S26) (h : S24) (hc : ∀ i : Int, 0 ≤ i → i < (cs.length : Int) → 1 ≤ (rd_T26 cs i).f0.size) : (headB cs h).length ≤ (headB [] h).length := by
  have h1 := addrB_most cs h.f2 hc
  have h2 := addrB_most cs h.f3 hc
  unfold headB
  simp only [List.length_append, addrB_nil]
  omega
theorem j1_shorter (k : Nat) (a b c : Int) (h1 : b ≤ a) (h2 : a ≤ c) (q : Bool) : hopmeshlaw14_CompressShorter.j1 (k + 1) a b c q = some true := by
  simp only [hopmeshlaw14_CompressShorter.j1]
  cases q with
  | true => rfl
  | false => rw [if_neg (by decide), if_pos h1, decide_eq_true h2]
theorem j1_true (k : Nat) (a b c : Int) : hopmeshlaw14_CompressShorter.j1 (k + 1) a b c true = some true := by
  simp only [hopmeshlaw14_CompressShorter.j1]
  rfl
theorem CompressShorter_pure (cs : List S26) (a0 a1 : Int) (a2 a3 : ByteArray) (a4 a5 a6 : Int) (m : ByteArray) : ∃ k, hopmeshlaw14_CompressShorter.f k cs a0 a1 a2 a3 a4 a5 a6 m = some true := by
  refine ⟨4, ?_⟩
  unfold hopmeshlaw14_CompressShorter.f
  rw [awake_eq, Option.bind_some, if_pos rfl, few_eq, Option.bind_some]
  by_cases hf : fewB cs = true
  · obtain ⟨hl, hs⟩ := (few_iff cs).mp hf
    rw [if_pos hf]
    have hj : hopmeshlaw14_CompressShorter.j0 4 cs true a0 a1 a2 a3 a4 a5 a6 m = some true := by
      simp only [hopmeshlaw14_CompressShorter.j0]; rfl
    cases hq : hopmeshlaw14_short.f a0 a1 a2 a3 a4 a5 a6 with
    | none => exact absurd hq (by unfold hopmeshlaw14_short.f; split <;> simp)
    | some q =>
      rw [Option.bind_some]
      cases q with
      | false => rw [if_neg (by decide)]; exact hj
      | true =>
        rw [if_pos rfl]
        by_cases hm : (m.size : Int) > 20
        · rw [if_pos hm]; exact hj
        · rw [if_neg hm]
          by_cases h7 : (cs.length : Int) > 7
          · rw [decide_eq_true h7]; exact hj
          · rw [decide_eq_false h7]
            simp only [hopmeshlaw14_CompressShorter.j0]
            have hg := huge_of cs hs
            have hs2 : ∀ i : Int, 0 ≤ i → i < ((cs ++ [(⟨m⟩ : S26)]).length : Int) → (rd_T26 (cs ++ [(⟨m⟩ : S26)]) i).f0.size ≤ 20 := by
              intro i h0 h1
              by_cases hi : i < (cs.length : Int)
              · rw [rd_left cs ⟨m⟩ i h0 hi]; exact hs i h0 hi
              · have hi : i = (cs.length : Int) := by simp at h1; omega
                subst hi
                unfold rd_T26
                simp
                omega
            have hg2 := huge_of _ hs2
            rw [if_neg (by decide), clone_eq cs (by omega), Option.bind_some, bits_eq cs hg, Option.bind_some, Option.bind_some, Option.bind_some, if_pos (by simp; omega), bits_eq _ hg2, Option.bind_some, bits_eq [] (by rfl), Option.bind_some]
            by_cases hb1 : (conOk cs && okB ⟨a0, a1, a2, a3, a4, a5, a6⟩) = true
            · rw [if_pos hb1]
              by_cases hb2 : (conOk (cs ++ [(⟨m⟩ : S26)]) && okB ⟨a0, a1, a2, a3, a4, a5, a6⟩) = true
              · rw [if_pos hb2]
                have hc1 := (conOk_iff _).mp (Bool.and_eq_true_iff.mp hb1).1
                have hc2 := (conOk_iff _).mp (Bool.and_eq_true_iff.mp hb2).1
                have ho := (Bool.and_eq_true_iff.mp hb1).2
                have hm1 : 1 ≤ m.size := by
                  have := hc2.2 (cs.length : Int) (by omega) (by simp only [List.length_append, List.length_singleton]; omega)
                  unfold rd_T26 at this
                  simp at this
                  omega
                have h1 := headB_more cs ⟨m⟩ ⟨a0, a1, a2, a3, a4, a5, a6⟩ hm1
                have h2 := headB_none cs ⟨a0, a1, a2, a3, a4, a5, a6⟩ (fun i h0 h1 => (hc1.2 i h0 h1).1)
                rw [if_pos (show (conOk [] && okB ⟨a0, a1, a2, a3, a4, a5, a6⟩) = true by rw [ho]; rfl)]
                rw [if_pos rfl, if_pos rfl]
                exact j1_shorter 2 _ _ _ (Int.ofNat_le.mpr h1) (Int.ofNat_le.mpr h2) _
              · rw [if_neg hb2, if_pos rfl, if_neg (by decide)]
                exact j1_true 2 _ _ _
            · rw [if_neg hb1, if_neg (by decide)]
              exact j1_true 2 _ _ _
  · rw [if_neg hf]
    simp only [hopmeshlaw14_CompressShorter.j0]
    rfl
end Go.Proofs.Ytmbbijhppgkdfaa.P14

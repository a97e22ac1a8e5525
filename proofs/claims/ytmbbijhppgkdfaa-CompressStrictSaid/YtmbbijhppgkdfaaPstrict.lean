/- CompressStrict's plain law: a string from which a header is expanded consists of its bytes and of what follows. -/
import Derived.Test.YtmbbijhppgkdfaaP14L8
import Derived.Test.YtmbbijhppgkdfaaTparse
import Derived.Test.YtmbbijhppgkdfaaTawake
namespace Go.Proofs.Ytmbbijhppgkdfaa.P14
open Go.RowKit Go.Proofs.YtmbbijhppgkdfaaW.PrintWords Go.Proofs.YtmbbijhppgkdfaaW.PrintLast Go.Proofs.YtmbbijhppgkdfaaW.PrintMore
set_option linter.unusedVariables false
set_option linter.unusedSimpArgs false

theorem few_eq8 (cs : List S26) : hopmeshlaw14_few.f cs = some (fewB cs) := rfl
theorem strict_none (e : Int) (he : e ≠ 0) (cs : List S26) (d : ByteArray) (hl : cs.length ≤ 12) (h : compress_Expand.f cs d = noExp e) (k : Nat) : hopmeshlaw14_CompressStrict.j0 (k + 1) cs d false = some true := by
  simp only [hopmeshlaw14_CompressStrict.j0]
  rw [if_neg (by decide), clone_eq cs (by omega), Option.bind_some, h]
  unfold noExp
  rw [Option.bind_some]
  dsimp only
  have z : (⟨#[]⟩ : ByteArray).toList = [] := by rw [ByteArray.toList_eq]
  rw [if_neg he, z]
  rfl
theorem join_size (d p : ByteArray) (h : fitsB d p = true) : p.size + (d.extract p.size d.size).size = d.size := by
  have h1 := congrArg List.length (fits_join d p h)
  have e : ∀ b : ByteArray, b.data.toList.length = b.size := fun b => Array.length_toList
  rw [e, e, ByteArray.size_append] at h1
  exact h1
theorem CompressStrict_pure (cs : List S26) (d : ByteArray) : ∃ k, hopmeshlaw14_CompressStrict.f k cs d = some true := by
  refine ⟨4, ?_⟩
  unfold hopmeshlaw14_CompressStrict.f
  rw [awake_eq, Option.bind_some, if_pos rfl, few_eq8, Option.bind_some]
  have hj : hopmeshlaw14_CompressStrict.j0 4 cs d true = some true := by
    simp only [hopmeshlaw14_CompressStrict.j0]; rfl
  by_cases hf : fewB cs = true
  · obtain ⟨hl, hs⟩ := (few_iff cs).mp hf
    have hg := huge_of cs hs
    rw [if_pos hf]
    by_cases hd : (d.size : Int) > 100
    · rw [decide_eq_true hd]; exact hj
    · rw [decide_eq_false hd]
      by_cases hc : conOk cs = true
      · rcases exp_cases cs d hg hc (by omega) with he | ⟨h, ho, hfit, he⟩
        · exact strict_none 10 (by decide) cs d hl he 3
        · simp only [hopmeshlaw14_CompressStrict.j0]
          have hsz := join_size d _ hfit
          have hjn := fits_join d _ hfit
          rw [if_neg (by decide)]
          refine bind_to (clone_eq cs (by omega)) ?_
          refine bind_to he ?_
          dsimp only
          rw [if_pos rfl]
          refine bind_to (clone_eq cs (by omega)) ?_
          refine bind_to (comp_eq cs hg _ _ _ _ _ _ _) ?_
          have e : strOfNums (pack (headB cs ⟨h.f0, h.f1, h.f2, h.f3, h.f4, h.f5, h.f6⟩)) = bytesH cs h := rfl
          rw [if_pos (show (conOk cs && okB ⟨h.f0, h.f1, h.f2, h.f3, h.f4, h.f5, h.f6⟩) = true by rw [hc]; exact ho), e]
          dsimp only
          rw [if_pos rfl, if_pos (by omega), if_pos (by rw [ByteArray.toList_eq, ByteArray.toList_eq]; exact hjn)]
          refine bind_to (check_eq _ _ _ _ _ _ _ _) ?_
          rw [if_pos (show okB ⟨h.f0, h.f1, h.f2, h.f3, h.f4, h.f5, h.f6⟩ = true from ho)]
          rfl
      · exact strict_none 1 (by decide) cs d hl (exp_bad cs d hg (Bool.eq_false_iff.mpr hc)) 3
  · rw [if_neg hf]
    exact hj
end Go.Proofs.Ytmbbijhppgkdfaa.P14

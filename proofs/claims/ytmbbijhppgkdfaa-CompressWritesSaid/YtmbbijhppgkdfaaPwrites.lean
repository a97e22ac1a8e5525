/- CompressWrites's plain law: Check, Contexts, Find, Compress and Bits answer what the definitions specify. -/
import Derived.Test.YtmbbijhppgkdfaaP14L4
import Derived.Test.YtmbbijhppgkdfaaTparse
import Derived.Test.YtmbbijhppgkdfaaTawake
namespace Go.Proofs.Ytmbbijhppgkdfaa.P14
open Go.RowKit Go.Proofs.YtmbbijhppgkdfaaW.PrintWords Go.Proofs.YtmbbijhppgkdfaaW.PrintLast Go.Proofs.YtmbbijhppgkdfaaW.PrintMore
set_option linter.unusedVariables false
set_option linter.unusedSimpArgs false

theorem few_eq4 (cs : List S26) : hopmeshlaw14_few.f cs = some (fewB cs) := rfl
theorem pfind_eq (cs : List S26) (a : ByteArray) (hg : ctxHuge cs = false) (k : Nat) (hk : 2 * cs.length < k) (hl : cs.length ≤ 1000) : compress_Find.f k cs a = some (if (conOk cs && decide (a.size = 4)) = true then fndR (findS cs a) else (0, false)) := by
  unfold compress_Find.f
  rw [con_eq cs hg, Option.bind_some]
  by_cases hc : conOk cs = true
  · rw [if_pos hc, if_pos rfl, hc, Bool.true_and]
    by_cases ha : a.size = 4
    · rw [decide_eq_true ha, if_pos rfl, if_pos (by omega), find_eq cs a (by omega) k hk]
      rfl
    · rw [decide_eq_false ha, if_neg (show ¬ (false = true) by decide), if_neg (by omega)]
  · rw [if_neg hc, if_neg (show ¬ ((1 : Int) = 0) by decide), Bool.eq_false_iff.mpr hc, Bool.false_and, if_neg (show ¬ (false = true) by decide)]
theorem writes_j0 (cs : List S26) (a0 a1 : Int) (a2 a3 : ByteArray) (a4 a5 a6 : Int) (hl : cs.length ≤ 12) (hg : ctxHuge cs = false) (k : Nat) (hk : 50 < k) : hopmeshlaw14_CompressWrites.j0 (k + 1) cs false a0 a1 a2 a3 a4 a5 a6 = some true := by
  obtain ⟨k, rfl⟩ : ∃ z, k = z + 1 := ⟨k - 1, by omega⟩
  simp only [hopmeshlaw14_CompressWrites.j0]
  rw [if_neg (by decide)]
  refine bind_to (clone_eq cs (by omega)) ?_
  refine bind_to (pfind_eq cs a2 hg _ (by omega) (by omega)) ?_
  refine bind_to (cfind_eq cs a2 _ (by omega)) ?_
  generalize (if (conOk cs && decide (a2.size = 4)) = true then fndR (findS cs a2) else (0, false)) = F
  refine bind_to (clone_eq cs (by omega)) ?_
  refine bind_to (comp_eq cs hg a0 a1 a2 a3 a4 a5 a6) ?_
  refine bind_to (x := if (conOk cs && okB ⟨a0, a1, a2, a3, a4, a5, a6⟩) = true then (strOfNums (pack (headB cs ⟨a0, a1, a2, a3, a4, a5, a6⟩)), 0) else (⟨#[]⟩, 1)) rfl ?_
  generalize (if (conOk cs && okB ⟨a0, a1, a2, a3, a4, a5, a6⟩) = true then (strOfNums (pack (headB cs ⟨a0, a1, a2, a3, a4, a5, a6⟩)), 0) else ((⟨#[]⟩ : ByteArray), (1 : Int))) = G
  refine bind_to (clone_eq cs (by omega)) ?_
  refine bind_to (bits_eq cs hg a0 a1 a2 a3 a4 a5 a6) ?_
  refine bind_to (x := if (conOk cs && okB ⟨a0, a1, a2, a3, a4, a5, a6⟩) = true then (((headB cs ⟨a0, a1, a2, a3, a4, a5, a6⟩).length : Int), 0) else (0, 1)) rfl ?_
  generalize (if (conOk cs && okB ⟨a0, a1, a2, a3, a4, a5, a6⟩) = true then (((headB cs ⟨a0, a1, a2, a3, a4, a5, a6⟩).length : Int), (0 : Int)) else (0, 1)) = H
  refine bind_to (check_eq _ a0 a1 a2 a3 a4 a5 a6) ?_
  refine bind_to (ccheck_eq _ a0 a1 a2 a3 a4 a5 a6) ?_
  rw [if_pos rfl]
  refine bind_to (clone_eq cs (by omega)) ?_
  refine bind_to (con_eq cs hg) ?_
  refine bind_to (ccon_eq cs _ (by omega)) ?_
  rw [if_pos rfl, if_pos rfl, if_pos (beq_self_eq_true _), if_pos rfl, if_pos rfl, if_pos rfl, beq_self_eq_true]
theorem writes_true (cs : List S26) (a0 a1 : Int) (a2 a3 : ByteArray) (a4 a5 a6 : Int) (k : Nat) : hopmeshlaw14_CompressWrites.j0 (k + 1) cs true a0 a1 a2 a3 a4 a5 a6 = some true := by
  simp only [hopmeshlaw14_CompressWrites.j0]
  rfl
theorem CompressWrites_pure (cs : List S26) (a0 a1 : Int) (a2 a3 : ByteArray) (a4 a5 a6 : Int) : ∃ k, hopmeshlaw14_CompressWrites.f k cs a0 a1 a2 a3 a4 a5 a6 = some true := by
  refine ⟨99 + 1, ?_⟩
  unfold hopmeshlaw14_CompressWrites.f
  refine bind_to (awake_eq _) ?_
  rw [if_pos rfl]
  refine bind_to (few_eq4 _) ?_
  by_cases hf : fewB cs = true
  · obtain ⟨hl, hs⟩ := (few_iff cs).mp hf
    rw [if_pos hf]
    cases hq : hopmeshlaw14_short.f a0 a1 a2 a3 a4 a5 a6 with
    | none => exact absurd hq (by unfold hopmeshlaw14_short.f; split <;> simp)
    | some q =>
      rw [Option.bind_some]
      cases q with
      | false => exact writes_true ..
      | true => exact writes_j0 cs _ _ _ _ _ _ _ hl (huge_of cs hs) 99 (by omega)
  · rw [if_neg hf]; exact writes_true ..
end Go.Proofs.Ytmbbijhppgkdfaa.P14

/- What Expand answers: plain laws. -/
import Derived.Test.YtmbbijhppgkdfaaTtot
import Derived.Test.YtmbbijhppgkdfaaTbits
import Derived.Test.YtmbbijhppgkdfaaGexp
namespace Go.Proofs.Ytmbbijhppgkdfaa.P14
open Go.RowKit Go.Proofs.YtmbbijhppgkdfaaW.PrintWords Go.Proofs.YtmbbijhppgkdfaaW.PrintLast Go.Proofs.YtmbbijhppgkdfaaW.PrintMore
set_option linter.unusedVariables false
set_option linter.unusedSimpArgs false

theorem cut_eq (a p : ByteArray) : strings_CutPrefix.f a p = some (if fitsB a p = true then (a.extract p.size a.size, true) else (a, false)) := by
  have hf := fits_eq a p
  unfold strings_HasPrefix.f at hf
  cases h : stringslite_HasPrefix.f a p with
  | none => rw [h] at hf; cases hf
  | some b =>
    rw [h] at hf
    have hb : b = fitsB a p := Option.some.inj hf
    unfold strings_CutPrefix.f stringslite_CutPrefix.f
    rw [h]
    simp only [Option.bind_some]
    subst hb
    cases hq : fitsB a p with
    | false => rfl
    | true =>
      have := fits_size hq
      rw [if_pos rfl, if_pos (by omega), if_pos (by omega), if_pos rfl]
      rfl
/-- The bytes of a header. -/
def bytesH (cs : List S26) (h : S24) : ByteArray := strOfNums (pack (headB cs h))
theorem exp_bad (cs : List S26) (d : ByteArray) (hg : ctxHuge cs = false) (hc : conOk cs = false) : compress_Expand.f cs d = noExp 1 := by
  unfold compress_Expand.f
  rw [con_eq cs hg, if_neg (by rw [hc]; decide), Option.bind_some, if_neg (by decide)]
theorem exp_val (cs : List S26) (d : ByteArray) (hg : ctxHuge cs = false) (hc : conOk cs = true) (hd : d.size ≤ 65536) (t1 t2 : Int) (t3 t4 : ByteArray) (t5 t6 t7 : Int) (t8 : Bool) (t9 : ByteArray) (t10 t11 : Int) (h : compress_read.f 1000 cs d 0 0 = some (t1, t2, t3, t4, t5, t6, t7, t8, t9, t10, t11)) :
    compress_Expand.f cs d = if (t8 && okB ⟨t1, t2, t3, t4, t5, t6, t7⟩) = true then (if fitsB d (bytesH cs ⟨t1, t2, t3, t4, t5, t6, t7⟩) = true then some (t1, t2, t3, t4, t5, t6, t7, d.extract (bytesH cs ⟨t1, t2, t3, t4, t5, t6, t7⟩).size d.size, 0) else noExp 10) else noExp 10 := by
  unfold compress_Expand.f
  generalize compress_read.f 1000 = R at h ⊢
  rw [con_eq cs hg, if_pos hc, Option.bind_some, if_pos rfl, if_neg (by omega)]
  have hn : bitio_NewReader.f d = some (d, 0, 0) := by
    unfold bitio_NewReader.f
    rw [if_neg (by omega)]
  rw [hn, Option.bind_some]
  rw [h, Option.bind_some]
  dsimp only
  have e : strOfNums (pack (headB cs ⟨t1, t2, t3, t4, t5, t6, t7⟩)) = bytesH cs ⟨t1, t2, t3, t4, t5, t6, t7⟩ := rfl
  rw [e]
  generalize bytesH cs ⟨t1, t2, t3, t4, t5, t6, t7⟩ = P
  generalize (t8 && okB ⟨t1, t2, t3, t4, t5, t6, t7⟩) = b
  rw [cut_eq]
  cases b with
  | false => rfl
  | true =>
    rw [if_pos rfl, if_pos rfl, Option.bind_some]
    cases fitsB d P <;> rfl
theorem exp_cases (cs : List S26) (d : ByteArray) (hg : ctxHuge cs = false) (hc : conOk cs = true) (hd : d.size ≤ 65536) :
    compress_Expand.f cs d = noExp 10 ∨ ∃ h : S24, okB h = true ∧ fitsB d (bytesH cs h) = true ∧ compress_Expand.f cs d = some (h.f0, h.f1, h.f2, h.f3, h.f4, h.f5, h.f6, d.extract (bytesH cs h).size d.size, 0) := by
  obtain ⟨⟨t1, t2, t3, t4, t5, t6, t7, t8, t9, t10, t11⟩, h⟩ := read_any d hd cs (fun i h0 h1 => (((conOk_iff cs).mp hc).2 i h0 h1).2)
  rw [exp_val cs d hg hc hd _ _ _ _ _ _ _ _ _ _ _ h]
  by_cases hb : (t8 && okB ⟨t1, t2, t3, t4, t5, t6, t7⟩) = true
  · rw [if_pos hb]
    by_cases hf : fitsB d (bytesH cs ⟨t1, t2, t3, t4, t5, t6, t7⟩) = true
    · rw [if_pos hf]
      exact Or.inr ⟨⟨t1, t2, t3, t4, t5, t6, t7⟩, (Bool.and_eq_true_iff.mp hb).2, hf, rfl⟩
    · rw [if_neg hf]
      exact Or.inl rfl
  · rw [if_neg hb]
    exact Or.inl rfl
theorem fits_join (d p : ByteArray) (h : fitsB d p = true) : (p ++ d.extract p.size d.size).data.toList = d.data.toList := by
  have h1 := of_decide_eq_true h
  have e : (p ++ d.extract p.size d.size).data.toList = p.data.toList ++ d.data.toList.drop p.size := by
    have hl : d.data.toList.length = d.data.size := Array.length_toList
    have hs : d.size = d.data.size := rfl
    rw [ByteArray.data_append, Array.toList_append, ByteArray.data_extract, Array.toList_extract, List.extract_eq_take_drop, hs]
    congr 1
    first
      | exact List.take_of_length_le (by rw [List.length_drop, hl]; exact Nat.le_refl _)
      | rw [List.take_of_length_le (by rw [hl]; exact Nat.le_refl _)]
  rw [e, ← h1, List.take_append_drop]
end Go.Proofs.Ytmbbijhppgkdfaa.P14

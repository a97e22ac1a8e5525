/- CompressBack's plain law: Expand restores each header, and what stands behind its bytes. -/
import Derived.Test.YtmbbijhppgkdfaaP14L7
import Derived.Test.YtmbbijhppgkdfaaTparse
import Derived.Test.YtmbbijhppgkdfaaTawake
namespace Go.Proofs.Ytmbbijhppgkdfaa.P14
open Go.RowKit Go.Proofs.YtmbbijhppgkdfaaW.PrintWords Go.Proofs.YtmbbijhppgkdfaaW.PrintLast Go.Proofs.YtmbbijhppgkdfaaW.PrintMore
set_option linter.unusedVariables false
set_option linter.unusedSimpArgs false

theorem few_eq7 (cs : List S26) : hopmeshlaw14_few.f cs = some (fewB cs) := rfl
theorem headB_most (cs : List S26) (h : S24) (ok : okH h) (hc : ∀ i : Int, 0 ≤ i → i < (cs.length : Int) → 1 ≤ (rd_T26 cs i).f0.size) : (headB cs h).length ≤ 132 := by
  have h1 := addrB_most cs h.f2 hc
  have h2 := addrB_most cs h.f3 hc
  rw [ok.f2] at h1
  rw [ok.f3] at h2
  have h3 := clsB_len h.f0
  have h4 := limB_len h.f1
  have h5 := portsB_len h.f4 h.f5
  have h6 := lenB_len h.f6
  unfold headB
  simp only [List.length_append]
  omega
theorem addrB_least (cs : List S26) (a : ByteArray) (ha : a.size = 4) (hc : ∀ i : Int, 0 ≤ i → i < (cs.length : Int) → (rd_T26 cs i).f0.size ≤ 4) : 4 ≤ (addrB cs a).length := by
  rw [addrB_size]
  split
  · omega
  · omega
theorem headB_least (cs : List S26) (h : S24) (ok : okH h) (hc : ∀ i : Int, 0 ≤ i → i < (cs.length : Int) → (rd_T26 cs i).f0.size ≤ 4) : 21 ≤ (headB cs h).length ∧ 21 ≤ (headB cs h).length := by
  have h1 := addrB_least cs h.f2 ok.f2 hc
  have h2 := addrB_least cs h.f3 ok.f3 hc
  have h3 : 1 ≤ (clsB h.f0).length := by unfold clsB; split <;> simp
  have h4 : 2 ≤ (limB h.f1).length := by
    unfold limB
    split
    · simp [bI_len]
    · split
      · simp [bI_len]
      · split <;> simp [bI_len]
  have h5 : 10 ≤ (portsB h.f4 h.f5).length := by
    unfold portsB
    split
    · simp [bI_len]
    · split
      · simp [bI_len]
      · split <;> simp [bI_len]
  have h6 : 7 ≤ (lenB h.f6).length := by unfold lenB; split <;> simp [bI_len]
  unfold headB
  simp only [List.length_append]
  omega
theorem bytesH_size (cs : List S26) (h : S24) : (bytesH cs h).size = ((headB cs h).length + 7) / 8 := by
  unfold bytesH
  rw [strOfNums_size, pack_len]
theorem fits_app (p m : ByteArray) : fitsB (p ++ m) p = true := by
  unfold fitsB
  have e : p.data.toList.length = p.size := Array.length_toList
  rw [decide_eq_true_eq, ByteArray.data_append, Array.toList_append, ← e, List.take_left]
theorem rest_app (p m : ByteArray) : ((p ++ m).extract p.size (p ++ m).size) = m := by
  have h := fits_join (p ++ m) p (fits_app p m)
  rw [ByteArray.data_append, Array.toList_append, ByteArray.data_append, Array.toList_append] at h
  exact ba_ext (List.append_cancel_left h)
theorem exp_back (cs : List S26) (h : S24) (m : ByteArray) (hg : ctxHuge cs = false) (hc : conOk cs = true) (ho : okB h = true) (hm : (bytesH cs h ++ m).size ≤ 65536) :
    compress_Expand.f cs (bytesH cs h ++ m) = some (h.f0, h.f1, h.f2, h.f3, h.f4, h.f5, h.f6, m, 0) := by
  have hcc := (conOk_iff cs).mp hc
  obtain ⟨q', hr⟩ := read_at (bytesH cs h ++ m) hm cs hcc.1 h ((okB_iff h).mp ho) (at_pack (headB cs h) m)
  rw [exp_val cs _ hg hc hm _ _ _ _ _ _ _ _ _ _ _ hr]
  have e : (⟨h.f0, h.f1, h.f2, h.f3, h.f4, h.f5, h.f6⟩ : S24) = h := rfl
  rw [e, ho, if_pos (show (true && true) = true from rfl), if_pos (fits_app _ _), rest_app]
theorem back_j0 (cs : List S26) (m : ByteArray) (a0 a1 : Int) (a2 a3 : ByteArray) (a4 a5 a6 : Int) (hl : cs.length ≤ 12) (hg : ctxHuge cs = false) (hm : m.size ≤ 100) (k : Nat) : hopmeshlaw14_CompressBack.j0 (k + 1) cs m false a0 a1 a2 a3 a4 a5 a6 = some true := by
  simp only [hopmeshlaw14_CompressBack.j0]
  rw [if_neg (by decide)]
  refine bind_to (clone_eq cs (by omega)) ?_
  refine bind_to (comp_eq cs hg a0 a1 a2 a3 a4 a5 a6) ?_
  refine bind_to (clone_eq cs (by omega)) ?_
  refine bind_to (bits_eq cs hg a0 a1 a2 a3 a4 a5 a6) ?_
  by_cases hb : (conOk cs && okB ⟨a0, a1, a2, a3, a4, a5, a6⟩) = true
  · obtain ⟨hc, ho⟩ := Bool.and_eq_true_iff.mp hb
    rw [if_pos hb, if_pos hb]
    dsimp only
    have ok := (okB_iff _).mp ho
    have hcc := (conOk_iff cs).mp hc
    have hs := bytesH_size cs ⟨a0, a1, a2, a3, a4, a5, a6⟩
    have h1 := headB_most cs ⟨a0, a1, a2, a3, a4, a5, a6⟩ ok (fun i x y => (hcc.2 i x y).1)
    have h2 := (headB_least cs ⟨a0, a1, a2, a3, a4, a5, a6⟩ ok (fun i x y => (hcc.2 i x y).2)).1
    have hsz : (bytesH cs ⟨a0, a1, a2, a3, a4, a5, a6⟩ ++ m).size ≤ 65536 := by rw [ByteArray.size_append]; omega
    have he := exp_back cs ⟨a0, a1, a2, a3, a4, a5, a6⟩ m hg hc ho hsz
    have e : strOfNums (pack (headB cs ⟨a0, a1, a2, a3, a4, a5, a6⟩)) = bytesH cs ⟨a0, a1, a2, a3, a4, a5, a6⟩ := rfl
    rw [e]
    generalize bytesH cs ⟨a0, a1, a2, a3, a4, a5, a6⟩ = P at he hs hsz
    generalize (headB cs ⟨a0, a1, a2, a3, a4, a5, a6⟩).length = L at hs h1 h2
    rw [if_pos rfl]
    refine bind_to (clone_eq cs (by omega)) ?_
    rw [if_pos (by omega)]
    refine bind_to he ?_
    dsimp only
    have w : wrap64 (Int.tdiv (wrap64 ((L : Int) + 7)) 8) = (P.size : Int) := by
      have e1 : wrap64 ((L : Int) + 7) = (L : Int) + 7 := by unfold wrap64; omega
      rw [e1, Int.tdiv_eq_ediv_of_nonneg (by omega)]
      unfold wrap64
      omega
    rw [if_pos rfl, if_pos rfl, if_pos (by simp), if_pos rfl, if_pos w.symm, if_pos (by omega)]
    rw [show decide ((L : Int) ≥ 21) = true from decide_eq_true (by omega)]
  · rw [if_neg hb, if_neg hb]
    dsimp only
    rw [if_neg (by decide), if_pos rfl, if_pos (by simp), if_pos rfl]
    rfl
theorem back_true (cs : List S26) (m : ByteArray) (a0 a1 : Int) (a2 a3 : ByteArray) (a4 a5 a6 : Int) (k : Nat) : hopmeshlaw14_CompressBack.j0 (k + 1) cs m true a0 a1 a2 a3 a4 a5 a6 = some true := by
  simp only [hopmeshlaw14_CompressBack.j0]
  rfl
theorem CompressBack_pure (cs : List S26) (a0 a1 : Int) (a2 a3 : ByteArray) (a4 a5 a6 : Int) (m : ByteArray) : ∃ k, hopmeshlaw14_CompressBack.f k cs a0 a1 a2 a3 a4 a5 a6 m = some true := by
  refine ⟨4, ?_⟩
  unfold hopmeshlaw14_CompressBack.f
  refine bind_to (awake_eq _) ?_
  rw [if_pos rfl]
  refine bind_to (few_eq7 _) ?_
  by_cases hf : fewB cs = true
  · obtain ⟨hl, hs⟩ := (few_iff cs).mp hf
    rw [if_pos hf]
    cases hq : hopmeshlaw14_short.f a0 a1 a2 a3 a4 a5 a6 with
    | none => exact absurd hq (by unfold hopmeshlaw14_short.f; split <;> simp)
    | some q =>
      rw [Option.bind_some]
      cases q with
      | false => rw [if_neg (by decide)]; exact back_true ..
      | true =>
        rw [if_pos rfl]
        by_cases hm : (m.size : Int) > 100
        · rw [decide_eq_true hm]; exact back_true ..
        · rw [decide_eq_false hm]; exact back_j0 cs m _ _ _ _ _ _ _ hl (huge_of cs hs) (by omega) _
  · rw [if_neg hf]; exact back_true ..
end Go.Proofs.Ytmbbijhppgkdfaa.P14

/- CompressReads's plain law: Expand answers the header with which any string begins, and what follows, or the specified error. -/
import Derived.Test.YtmbbijhppgkdfaaP14L6
import Derived.Test.YtmbbijhppgkdfaaThead
import Derived.Test.YtmbbijhppgkdfaaTawake
namespace Go.Proofs.Ytmbbijhppgkdfaa.P14
open Go.RowKit Go.Proofs.YtmbbijhppgkdfaaW.PrintWords Go.Proofs.YtmbbijhppgkdfaaW.PrintLast Go.Proofs.YtmbbijhppgkdfaaW.PrintMore
set_option linter.unusedVariables false
set_option linter.unusedSimpArgs false

theorem few_eq6 (cs : List S26) : hopmeshlaw14_few.f cs = some (fewB cs) := rfl
theorem rexp_bad (cs : List S26) (d : ByteArray) (k : Nat) (hk : cs.length < k) (hc : conOk cs = false) : hopmeshref14_Expand.f k cs d = noExp 1 := by
  unfold hopmeshref14_Expand.f
  refine bind_to (ccon_eq cs k hk) ?_
  rw [if_neg (show ¬ (conOk cs = true) by rw [hc]; decide), if_neg (show ¬ ((1 : Int) = 0) by decide)]
  rfl
theorem rj0_true (cs : List S26) (d : ByteArray) (k : Nat) (a0 a1 : Int) (a2 a3 : ByteArray) (a4 a5 a6 : Int) : hopmeshref14_Expand.j0 (k + 1) cs d true a0 a1 a2 a3 a4 a5 a6 = noExp 10 := by
  simp only [hopmeshref14_Expand.j0]
  rfl
theorem rexp_no (cs : List S26) (d : ByteArray) (k : Nat) (hk : cs.length < k + 1) (hc : conOk cs = true) (hd : d.size ≤ 65536) (hb : qBad (hopmeshref14_header.f (k + 1) d 0 0 cs)) : hopmeshref14_Expand.f (k + 1) cs d = noExp 10 := by
  obtain ⟨t1, t2, t3, t4, t5, t6, t7, t9, t10, t11, hne, h⟩ := hb
  have hn : hopmeshref02_NewReader.f d = some (d, 0, 0) := by
    unfold hopmeshref02_NewReader.f
    rw [if_neg (by omega)]
  unfold hopmeshref14_Expand.f
  refine bind_to (ccon_eq cs (k + 1) hk) ?_
  rw [if_pos hc, if_pos rfl, if_neg (by omega)]
  refine bind_to hn ?_
  refine bind_to h ?_
  refine bind_to (x := (t11, t9, t10, t11)) rfl ?_
  dsimp only
  rw [if_neg hne]
  exact rj0_true cs d k t1 t2 t3 t4 t5 t6 t7
theorem rexp_val (cs : List S26) (d : ByteArray) (k : Nat) (hk : cs.length < k + 1) (hc : conOk cs = true) (hd : d.size ≤ 65536) (t1 t2 : Int) (t3 t4 : ByteArray) (t5 t6 t7 q' : Int) (h : hopmeshref14_header.f (k + 1) d 0 0 cs = some (t1, t2, t3, t4, t5, t6, t7, d, q', 0)) :
    hopmeshref14_Expand.f (k + 1) cs d = if okB ⟨t1, t2, t3, t4, t5, t6, t7⟩ = true then (if fitsB d (bytesH cs ⟨t1, t2, t3, t4, t5, t6, t7⟩) = true then some (t1, t2, t3, t4, t5, t6, t7, d.extract (bytesH cs ⟨t1, t2, t3, t4, t5, t6, t7⟩).size d.size, 0) else noExp 10) else noExp 10 := by
  have hn : hopmeshref02_NewReader.f d = some (d, 0, 0) := by
    unfold hopmeshref02_NewReader.f
    rw [if_neg (by omega)]
  unfold hopmeshref14_Expand.f
  refine bind_to (ccon_eq cs (k + 1) hk) ?_
  rw [if_pos hc, if_pos rfl, if_neg (by omega)]
  refine bind_to hn ?_
  refine bind_to h ?_
  refine bind_to (x := ((0 : Int), d, q', (0 : Int))) rfl ?_
  dsimp only
  rw [if_pos rfl]
  refine bind_to (ccheck_eq k t1 t2 t3 t4 t5 t6 t7) ?_
  by_cases ho : okB ⟨t1, t2, t3, t4, t5, t6, t7⟩ = true
  · rw [if_pos ho, if_pos ho]
    have e : strOfNums (pack (headB cs ⟨t1, t2, t3, t4, t5, t6, t7⟩)) = bytesH cs ⟨t1, t2, t3, t4, t5, t6, t7⟩ := rfl
    have hcomp : hopmeshref14_Compress.f cs t1 t2 t3 t4 t5 t6 t7 = some (bytesH cs ⟨t1, t2, t3, t4, t5, t6, t7⟩, 0) := by
      unfold hopmeshref14_Compress.f
      rw [if_pos (show (conOk cs && okB ⟨t1, t2, t3, t4, t5, t6, t7⟩) = true by rw [hc, ho]; rfl), e]
    simp only [hopmeshref14_Expand.j0]
    rw [show ((0 : Int) != 0) = false by decide, if_neg (show ¬ (false = true) by decide)]
    refine bind_to hcomp ?_
    dsimp only
    generalize bytesH cs ⟨t1, t2, t3, t4, t5, t6, t7⟩ = P
    by_cases hs : (P.size : Int) > (d.size : Int)
    · rw [if_pos hs]
      have hf : fitsB d P = false := by
        cases hq : fitsB d P with
        | false => rfl
        | true => have := fits_size hq; omega
      rw [hf, if_neg (show ¬ (false = true) by decide)]
      rfl
    · rw [if_neg hs, if_pos (by omega), if_pos (by omega), Int.toNat_natCast]
      by_cases hf : fitsB d P = true
      · rw [if_pos ((extr_iff d P).mpr hf), if_pos hf]
      · rw [if_neg (fun h => hf ((extr_iff d P).mp h)), if_neg hf]
        rfl
  · rw [if_neg ho, if_neg ho]
    rw [show ((1 : Int) != 0) = true by decide]
    exact rj0_true cs d k t1 t2 t3 t4 t5 t6 t7
theorem exp_both (cs : List S26) (d : ByteArray) (hg : ctxHuge cs = false) (hd : d.size ≤ 65536) (k : Nat) (hk : cs.length < k + 1) (hk2 : 60 < k) : ∃ r, compress_Expand.f cs d = some r ∧ hopmeshref14_Expand.f (k + 1) cs d = some r := by
  by_cases hc : conOk cs = true
  · have hcc := (conOk_iff cs).mp hc
    rcases head_both d hd cs (fun i h0 h1 => (hcc.2 i h0 h1).2) 1000 (k + 1) (by omega) (by omega) with ⟨t1, t2, t3, t4, t5, t6, t7, q', e1, e2⟩ | ⟨⟨t1, t2, t3, t4, t5, t6, t7, t9, t10, t11, e1⟩, hb⟩
    · rw [exp_val cs d hg hc hd _ _ _ _ _ _ _ _ _ _ _ e1, rexp_val cs d k hk hc hd _ _ _ _ _ _ _ _ e2, Bool.true_and]
      by_cases ho : okB ⟨t1, t2, t3, t4, t5, t6, t7⟩ = true
      · rw [if_pos ho]
        by_cases hf : fitsB d (bytesH cs ⟨t1, t2, t3, t4, t5, t6, t7⟩) = true
        · rw [if_pos hf]; exact ⟨_, rfl, rfl⟩
        · rw [if_neg hf]; exact ⟨_, rfl, rfl⟩
      · rw [if_neg ho]; exact ⟨_, rfl, rfl⟩
    · rw [exp_val cs d hg hc hd _ _ _ _ _ _ _ _ _ _ _ e1, rexp_no cs d k hk hc hd hb, Bool.false_and, if_neg (show ¬ (false = true) by decide)]
      exact ⟨_, rfl, rfl⟩
  · have hc := Bool.eq_false_iff.mpr hc
    rw [exp_bad cs d hg hc, rexp_bad cs d (k + 1) hk hc]
    exact ⟨_, rfl, rfl⟩
theorem reads_j0 (cs : List S26) (d : ByteArray) (hl : cs.length ≤ 12) (hg : ctxHuge cs = false) (hd : d.size ≤ 100) (k : Nat) (hk : 100 < k) : hopmeshlaw14_CompressReads.j0 (k + 1 + 1) cs d false = some true := by
  obtain ⟨r, h1, h2⟩ := exp_both cs d hg (by omega) k (by omega) (by omega)
  simp only [hopmeshlaw14_CompressReads.j0]
  rw [if_neg (by decide)]
  refine bind_to (clone_eq cs (by omega)) ?_
  refine bind_to h1 ?_
  refine bind_to h2 ?_
  rw [if_pos (by simp), if_pos rfl, beq_self_eq_true]
theorem reads_true (cs : List S26) (d : ByteArray) (k : Nat) : hopmeshlaw14_CompressReads.j0 (k + 1) cs d true = some true := by
  simp only [hopmeshlaw14_CompressReads.j0]
  rfl
theorem CompressReads_pure (cs : List S26) (d : ByteArray) : ∃ k, hopmeshlaw14_CompressReads.f k cs d = some true := by
  obtain ⟨K, hK⟩ : ∃ K : Nat, 100 < K := ⟨101, by decide⟩
  refine ⟨K + 1 + 1, ?_⟩
  unfold hopmeshlaw14_CompressReads.f
  refine bind_to (awake_eq _) ?_
  rw [if_pos rfl]
  refine bind_to (few_eq6 _) ?_
  by_cases hf : fewB cs = true
  · obtain ⟨hl, hs⟩ := (few_iff cs).mp hf
    rw [if_pos hf]
    by_cases hd : (d.size : Int) > 100
    · rw [decide_eq_true hd]; exact reads_true ..
    · rw [decide_eq_false hd]; exact reads_j0 cs d hl (huge_of cs hs) (by omega) K hK
  · rw [if_neg hf]; exact reads_true ..
end Go.Proofs.Ytmbbijhppgkdfaa.P14

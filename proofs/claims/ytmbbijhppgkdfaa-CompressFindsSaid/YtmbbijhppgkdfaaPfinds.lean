/- CompressFinds's plain law: the context of an address. -/
import Derived.Test.YtmbbijhppgkdfaaP14L5
import Derived.Test.YtmbbijhppgkdfaaTbits
import Derived.Test.YtmbbijhppgkdfaaTawake
namespace Go.Proofs.Ytmbbijhppgkdfaa.P14
open Go.RowKit Go.Proofs.YtmbbijhppgkdfaaW.PrintWords Go.Proofs.YtmbbijhppgkdfaaW.PrintLast Go.Proofs.YtmbbijhppgkdfaaW.PrintMore
set_option linter.unusedVariables false
set_option linter.unusedSimpArgs false

theorem ext_iff (a p : ByteArray) : ((a.extract 0 p.size).toList = p.toList) ↔ fitsB a p = true := by
  rw [ByteArray.toList_eq, ByteArray.toList_eq]
  have e : (a.extract 0 p.size).data.toList = a.data.toList.take p.size := by simp
  rw [e]
  unfold fitsB
  rw [decide_eq_true_eq]
theorem finds_l0 (cs : List S26) (a : ByteArray) (ha : a.size = 4) (hl : cs.length ≤ 8) (hs : ∀ i : Int, 0 ≤ i → i < (cs.length : Int) → 1 ≤ (rd_T26 cs i).f0.size ∧ (rd_T26 cs i).f0.size ≤ 4) (x5 : Int) (x6 : Bool) (hx : (findS cs a = -1 ∧ x5 = 0 ∧ x6 = false) ∨ (0 ≤ findS cs a ∧ x5 = findS cs a ∧ x6 = true)) (d : Nat) :
    ∀ (i k : Nat), i + d = cs.length → 3 * d < k → hopmeshlaw14_CompressFinds.l0 k cs a x5 x6 cs (cs.length : Int) (i : Int) = some true := by
  have hv := findS_inv cs a
  induction d with
  | zero =>
    intro i k hi hk
    obtain ⟨k, rfl⟩ : ∃ q, k = q + 1 := ⟨k - 1, by omega⟩
    simp only [hopmeshlaw14_CompressFinds.l0]
    rw [if_neg (by omega)]
    rcases hx with ⟨_, rfl, rfl⟩ | ⟨_, _, rfl⟩ <;> rfl
  | succ d ih =>
    intro i k hi hk
    obtain ⟨k, rfl⟩ : ∃ q, k = q + 3 := ⟨k - 3, by omega⟩
    have ew : wrap64 ((i : Int) + 1) = ((i + 1 : Nat) : Int) := by unfold wrap64; omega
    have ih1 := ih (i + 1) k (by omega) (by omega)
    have ih2 := ih (i + 1) (k + 1) (by omega) (by omega)
    obtain ⟨s1, s2⟩ := hs (i : Int) (by omega) (by omega)
    simp only [hopmeshlaw14_CompressFinds.l0]
    rw [if_pos (by omega), if_pos (by omega), if_pos (by omega), if_neg (by omega), show decide ((((rd_T26 cs (i : Int)).f0.size : Nat) : Int) > 4) = false from decide_eq_false (by omega)]
    simp only [hopmeshlaw14_CompressFinds.j3]
    rw [if_neg (by decide), if_pos (by omega), if_pos (by omega), Int.toNat_natCast]
    by_cases hf : fitsB a (rd_T26 cs (i : Int)).f0 = true
    · rw [if_pos ((ext_iff _ _).mpr hf)]
      rcases hx with ⟨hr, _, _⟩ | ⟨hr, rfl, rfl⟩
      · rcases hv with ⟨_, hn⟩ | ⟨h0, _⟩
        · have := hn i (by omega)
          rw [hf] at this
          cases this
        · omega
      · rcases hv with ⟨h0, _⟩ | ⟨h0, h1, h2, h3⟩
        · omega
        · have hb := h3 i (by omega) hf
          rw [if_pos rfl, if_neg (by omega), if_neg (by omega), if_pos h0, if_pos h1, if_neg (by omega)]
          by_cases he : (((rd_T26 cs (i : Int)).f0.size : Nat) : Int) = (((rd_T26 cs (findS cs a)).f0.size : Nat) : Int)
          · rw [if_pos he, show decide ((i : Int) < findS cs a) = false from decide_eq_false (by omega)]
            simp only [hopmeshlaw14_CompressFinds.j4]
            rw [if_neg (by decide), ew]
            exact ih1
          · rw [if_neg he]
            simp only [hopmeshlaw14_CompressFinds.j4]
            rw [if_neg (by decide), ew]
            exact ih1
    · rw [if_neg (fun h => hf ((ext_iff _ _).mp h))]
      rcases hx with ⟨hr, _, rfl⟩ | ⟨hr, rfl, rfl⟩
      · rw [if_neg (by decide), ew]
        exact ih2
      · rw [if_pos rfl]
        have hne : (i : Int) ≠ findS cs a := by
          intro he
          rw [he] at hf
          exact hf (findS_fits cs a hr)
        rw [if_neg hne, ew]
        exact ih2
theorem mx_val (r : Int) (h : -1 ≤ r) : (r = -1 ∧ mx r 0 = 0 ∧ decide (r ≥ 0) = false) ∨ (0 ≤ r ∧ mx r 0 = r ∧ decide (r ≥ 0) = true) := by
  unfold mx
  by_cases h0 : 0 ≤ r
  · refine Or.inr ⟨h0, ?_, decide_eq_true h0⟩
    omega
  · refine Or.inl ⟨by omega, ?_, decide_eq_false h0⟩
    omega
theorem CompressFinds_pure (cs : List S26) (a : ByteArray) : ∃ k, hopmeshlaw14_CompressFinds.f k cs a = some true := by
  refine ⟨100, ?_⟩
  have few_eq : hopmeshlaw14_few.f cs = some (fewB cs) := rfl
  have hj : hopmeshlaw14_CompressFinds.j0 100 cs a true = some true := by
    simp only [hopmeshlaw14_CompressFinds.j0]; rfl
  unfold hopmeshlaw14_CompressFinds.f
  rw [awake_eq, Option.bind_some, if_pos rfl, few_eq, Option.bind_some]
  by_cases hf : fewB cs = true
  · obtain ⟨hl, hs⟩ := (few_iff cs).mp hf
    rw [if_pos hf]
    by_cases h20 : (a.size : Int) > 20
    · rw [decide_eq_true h20]; exact hj
    · rw [decide_eq_false h20]
      have hg := huge_of cs hs
      simp only [hopmeshlaw14_CompressFinds.j0]
      rw [if_neg (by decide), clone_eq cs (by omega), Option.bind_some]
      unfold compress_Find.f
      rw [con_eq cs hg]
      simp only [Option.bind_some]
      by_cases hc : conOk cs = true
      · rw [if_pos hc]
        obtain ⟨c1, c2⟩ := (conOk_iff cs).mp hc
        simp only [if_true]
        by_cases h4 : a.size = 4
        · rw [if_pos (by omega), find_eq cs a (by omega) 99 (by omega)]
          simp only [Option.bind_some]
          have hne : ((a.size : Int) != 4) = false := by rw [h4]; rfl
          rw [hne, con_eq cs hg, if_pos hc]
          simp only [Option.bind_some, if_true, hopmeshlaw14_CompressFinds.j1]
          rw [if_neg (by decide)]
          have hm := mx_val (findS cs a) (findS_range cs a).1
          exact finds_l0 cs a h4 c1 c2 _ _ hm cs.length 0 98 (by omega) (by omega)
        · rw [if_neg (by omega)]
          have hne : ((a.size : Int) != 4) = true := bne_iff_ne.mpr (by omega)
          simp only [Option.bind_some]
          rw [hne, con_eq cs hg, if_pos hc]
          simp only [Option.bind_some, hopmeshlaw14_CompressFinds.j1]
          rfl
      · rw [if_neg hc, if_neg (by decide)]
        simp only [Option.bind_some]
        rw [con_eq cs hg, if_neg hc]
        simp only [Option.bind_some, hopmeshlaw14_CompressFinds.j1]
        rfl
  · rw [if_neg hf]; exact hj
end Go.Proofs.Ytmbbijhppgkdfaa.P14

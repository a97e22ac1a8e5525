/- The bits of packed bytes: plain laws. -/
import Derived.Test.YtmbbijhppgkdfaaTflag
import Derived.Test.YtmbbijhppgkdfaaGput
namespace Go.Proofs.Ytmbbijhppgkdfaa.P14
open Go.RowKit Go.Proofs.YtmbbijhppgkdfaaW.PrintWords Go.Proofs.YtmbbijhppgkdfaaW.PrintLast Go.Proofs.YtmbbijhppgkdfaaW.PrintMore
set_option linter.unusedVariables false
set_option linter.unusedSimpArgs false

theorem gd_left {α : Type} (l m : List α) (z : α) (i : Nat) (h : i < l.length) : (l ++ m).getD i z = l.getD i z := by
  rw [List.getD_eq_getElem?_getD, List.getD_eq_getElem?_getD, List.getElem?_append_left h]
theorem gd_right {α : Type} (l m : List α) (z : α) (i : Nat) (h : l.length ≤ i) : (l ++ m).getD i z = m.getD (i - l.length) z := by
  rw [List.getD_eq_getElem?_getD, List.getD_eq_getElem?_getD, List.getElem?_append_right h]
theorem gd_out {α : Type} (l : List α) (z : α) {i : Nat} (h : l.length ≤ i) : l.getD i z = z := by
  rw [List.getD_eq_getElem?_getD, List.getElem?_eq_none h]
  rfl
theorem gd_in {α : Type} (l : List α) (z : α) {i : Nat} (h : i < l.length) : l.getD i z = l[i] := by
  rw [List.getD_eq_getElem?_getD, List.getElem?_eq_getElem h]
  rfl
theorem mod_succ (v m : Nat) : v % 2 ^ (m + 1) = v % 2 ^ m + 2 ^ m * (v.testBit m).toNat := by
  rw [Nat.pow_succ, Nat.mod_mul, Nat.toNat_testBit]
theorem orB_eq (x : Int) (b : Bool) (s : Nat) (h0 : 0 ≤ x) (h1 : x < 256) (hs : s ≤ 7) : orB x (bi b) s = ((x.toNat ||| (if b = true then 2 ^ s else 0) : Nat) : Int) := by
  unfold orB
  rw [Nat.min_eq_left (by omega)]
  have hp : (2 : Nat) ^ s ≤ 2 ^ 7 := Nat.pow_le_pow_right (by decide) hs
  have e7 : (2 : Nat) ^ 7 = 128 := by decide
  have ex : ((x.toNat : Nat) : Int) = x := Int.toNat_of_nonneg h0
  have hm : bi b * 2 ^ s % 256 = ((if b = true then 2 ^ s else 0 : Nat) : Int) := by
    cases b with
    | false => rw [show bi false = 0 from rfl, Int.zero_mul]; rfl
    | true =>
      rw [show bi true = 1 from rfl, Int.one_mul, if_pos rfl]
      have e : ((2 ^ s : Nat) : Int) = (2 : Int) ^ s := by simp
      rw [← e]
      clear e
      generalize (2 : Nat) ^ s = X at hp ⊢
      omega
  rw [hm]
  have hlt : (if b = true then 2 ^ s else 0 : Nat) < 256 := by split <;> omega
  have := u8_or_nat x.toNat _ (by omega) hlt
  rw [ex] at this
  exact this
theorem orB_in (x : Int) (b : Bool) (s : Nat) (h0 : 0 ≤ x) (h1 : x < 256) (hs : s ≤ 7) : 0 ≤ orB x (bi b) s ∧ orB x (bi b) s < 256 := by
  rw [orB_eq x b s h0 h1 hs]
  have hp : (2 : Nat) ^ s ≤ 2 ^ 7 := Nat.pow_le_pow_right (by decide) hs
  have e7 : (2 : Nat) ^ 7 = 128 := by decide
  have hlt : (if b = true then 2 ^ s else 0 : Nat) < 2 ^ 8 := by split <;> omega
  have := Nat.or_lt_two_pow (x := x.toNat) (by omega) hlt
  omega
theorem orB_bit (x : Int) (b : Bool) (s j : Nat) (h0 : 0 ≤ x) (h1 : x < 256) (hs : s ≤ 7) : (orB x (bi b) s).toNat.testBit j = (x.toNat.testBit j || (b && decide (s = j))) := by
  rw [orB_eq x b s h0 h1 hs, Int.toNat_natCast, Nat.testBit_or]
  cases b with
  | false => simp
  | true => rw [if_pos rfl, Nat.testBit_two_pow]; simp
/-- The bytes st hold the bits l. -/
def PB (st : List Int) (l : List Bool) : Prop := (∀ j, 0 ≤ st.getD j 0 ∧ st.getD j 0 < 256) ∧ ∀ i, i < 8 * st.length → (st.getD (i / 8) 0).toNat.testBit (7 - i % 8) = l.getD i false
theorem PB_room (st : List Int) (l : List Bool) (h : PB st l) (hl : st.length = (l.length + 7) / 8) : PB (room st l.length) l := by
  unfold room
  split
  · rename_i h8
    refine ⟨fun j => ?_, fun i hi => ?_⟩
    · by_cases hj : j < st.length
      · rw [gd_left _ _ _ _ hj]; exact h.1 j
      · rw [gd_right _ _ _ _ (by omega)]
        cases hq : j - st.length with
        | zero => simp
        | succ n => simp
    · rw [List.length_append, List.length_singleton] at hi
      by_cases hj : i / 8 < st.length
      · rw [gd_left _ _ _ _ hj]; exact h.2 i (by omega)
      · rw [gd_right _ _ _ _ (by omega), show i / 8 - st.length = 0 by omega]
        rw [gd_out l false (show l.length ≤ i by omega)]
        simp
  · exact h
theorem PB_set (st : List Int) (l : List Bool) (b : Bool) (h : PB st l) (hl : l.length / 8 < st.length) : PB (st.set (l.length / 8) (orB (rd st (l.length / 8 : Nat)) (bi b) (7 - l.length % 8))) (l ++ [b]) := by
  have hrd : rd st (l.length / 8 : Nat) = st.getD (l.length / 8) 0 := by unfold rd; rw [Int.toNat_natCast]
  rw [hrd]
  obtain ⟨p0, p1⟩ := h.1 (l.length / 8)
  have hset : ∀ j, (st.set (l.length / 8) (orB (st.getD (l.length / 8) 0) (bi b) (7 - l.length % 8))).getD j 0 = if l.length / 8 = j then orB (st.getD (l.length / 8) 0) (bi b) (7 - l.length % 8) else st.getD j 0 := by
    intro j
    rw [List.getD_eq_getElem?_getD, List.getElem?_set]
    split
    · rename_i he
      subst he
      simp
    · rw [List.getD_eq_getElem?_getD]
  refine ⟨fun j => ?_, fun i hi => ?_⟩
  · rw [hset]
    split
    · exact orB_in _ b _ p0 p1 (by omega)
    · exact h.1 j
  · rw [List.length_set] at hi
    rw [hset]
    have hold := h.2 i hi
    by_cases he : l.length / 8 = i / 8
    · rw [if_pos he, orB_bit _ b _ _ p0 p1 (by omega)]
      rw [← he] at hold
      rw [hold]
      by_cases hil : i = l.length
      · subst hil
        rw [gd_out l false (Nat.le_refl _), gd_right _ _ _ _ (Nat.le_refl _), Nat.sub_self]
        simp
      · have hd : decide (7 - l.length % 8 = 7 - i % 8) = false := decide_eq_false (by omega)
        rw [hd, Bool.and_false, Bool.or_false]
        by_cases hlt : i < l.length
        · rw [gd_left _ _ _ _ hlt]
        · rw [gd_out l false (by omega), gd_out _ false (by rw [List.length_append, List.length_singleton]; omega)]
    · rw [if_neg he, hold]
      by_cases hlt : i < l.length
      · rw [gd_left _ _ _ _ hlt]
      · rw [gd_out l false (by omega), gd_out _ false (by rw [List.length_append, List.length_singleton]; omega)]
theorem pack_PB (l : List Bool) : PB (pack l) l := by
  rw [← List.reverse_reverse l]
  induction l.reverse with
  | nil => exact ⟨fun j => by simp [pack], fun i hi => absurd hi (by simp [pack])⟩
  | cons b r ih =>
    rw [List.reverse_cons, pack_snoc]
    unfold packStep
    exact PB_set _ _ b (PB_room _ _ ih (pack_len _)) (by rw [room_len _ _ (pack_len _)]; omega)
theorem bt_get (s : ByteArray) (j : Nat) : bt s (j : Int) = ((s.data.toList.getD j 0).toNat : Int) := by
  unfold bt
  rw [Int.toNat_natCast]
  split
  · rename_i h
    rw [gd_in _ _ (show j < s.data.toList.length by rw [Array.length_toList]; exact h)]
    rfl
  · rename_i h
    rw [gd_out _ _ (show s.data.toList.length ≤ j by rw [Array.length_toList]; exact Nat.le_of_not_lt h)]
    rfl
theorem bit_pack (l : List Bool) (more : ByteArray) (i : Nat) (h : i < l.length) : bitAt (strOfNums (pack l) ++ more) i = l.getD i false := by
  obtain ⟨h1, h2⟩ := pack_PB l
  have hl := pack_len l
  have hi : i / 8 < (pack l).length := by omega
  obtain ⟨p0, p1⟩ := h1 (i / 8)
  unfold bitAt
  rw [bt_get, ByteArray.data_append, Array.toList_append, strOfNums_data, gd_left _ _ _ _ (by rw [List.length_map]; exact hi)]
  rw [← h2 i (by omega)]
  congr 1
  rw [Int.toNat_natCast]
  have e : (List.map (fun n : Int => UInt8.ofNat n.toNat) (pack l)).getD (i / 8) 0 = UInt8.ofNat ((pack l).getD (i / 8) 0).toNat := by
    rw [gd_in _ _ (by rw [List.length_map]; exact hi), List.getElem_map, gd_in _ _ hi]
  rw [e, UInt8.toNat_ofNat']
  omega
/-- The bits l stand in d from place q on. -/
def At (d : ByteArray) (q : Nat) (l : List Bool) : Prop := q + l.length ≤ 8 * d.size ∧ ∀ i, i < l.length → bitAt d (q + i) = l.getD i false
theorem at_pack (l : List Bool) (more : ByteArray) : At (strOfNums (pack l) ++ more) 0 l := by
  refine ⟨?_, fun i hi => by rw [Nat.zero_add]; exact bit_pack l more i hi⟩
  rw [ByteArray.size_append, strOfNums_size, pack_len]
  omega
theorem at_app {d : ByteArray} {q : Nat} {l m : List Bool} (h : At d q (l ++ m)) : At d q l ∧ At d (q + l.length) m := by
  obtain ⟨h1, h2⟩ := h
  rw [List.length_append] at h1 h2
  refine ⟨⟨by omega, fun i hi => ?_⟩, ⟨by omega, fun i hi => ?_⟩⟩
  · rw [h2 i (by omega), gd_left _ _ _ _ hi]
  · rw [Nat.add_assoc, h2 (l.length + i) (by omega), gd_right _ _ _ _ (by omega), Nat.add_sub_cancel_left]
theorem at_cons {d : ByteArray} {q : Nat} {b : Bool} {l : List Bool} (h : At d q (b :: l)) : bitAt d q = b ∧ q + 1 ≤ 8 * d.size ∧ At d (q + 1) l := by
  obtain ⟨h1, h2⟩ := at_app (l := [b]) (m := l) h
  refine ⟨by have := h1.2 0 (by simp); simpa using this, by simpa using h1.1, h2⟩
theorem val_of (d : ByteArray) (v : Nat) (m : Nat) : ∀ (u q : Nat), (∀ i, i < m → bitAt d (q + i) = v.testBit (m - 1 - i)) → valFrom d u q m = u * 2 ^ m + v % 2 ^ m := by
  induction m with
  | zero => intro u q _; simp [valFrom, Nat.mod_one]
  | succ m ih =>
    intro u q h
    have h0 := h 0 (by omega)
    rw [Nat.add_zero, show m + 1 - 1 - 0 = m by omega] at h0
    simp only [valFrom]
    rw [ih _ _ (fun i hi => by have := h (i + 1) (by omega); rw [show q + (i + 1) = q + 1 + i by omega, show m + 1 - 1 - (i + 1) = m - 1 - i by omega] at this; exact this), h0, mod_succ, Nat.pow_succ, Nat.add_mul]
    have e : u * (2 ^ m * 2) = 2 * u * 2 ^ m := by rw [Nat.mul_comm (2 ^ m) 2, ← Nat.mul_assoc, Nat.mul_comm u 2]
    rw [e, Nat.mul_comm (2 ^ m)]
    omega
theorem at_bits {d : ByteArray} {q n v : Nat} (h : At d q (bitsOf n v)) (hv : v < 2 ^ n) : g d q n = some (v, q + n) := by
  obtain ⟨h1, h2⟩ := h
  rw [bitsOf_len] at h1 h2
  unfold g
  rw [if_pos h1, val_of d v n 0 q (fun i hi => by rw [h2 i hi]; unfold bitsOf; rw [gd_in _ _ (by simpa using hi)]; simp), Nat.mod_eq_of_lt hv]
  simp
end Go.Proofs.Ytmbbijhppgkdfaa.P14

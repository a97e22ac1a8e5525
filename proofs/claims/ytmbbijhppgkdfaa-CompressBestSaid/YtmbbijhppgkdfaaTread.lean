/- Reading bits: plain laws of bitio.Reader. -/
import Derived.Test.YtmbbijhppgkdfaaP14R0
import Derived.Laws.BitsAllLaws
namespace Go.Proofs.Ytmbbijhppgkdfaa.P14
open Go.RowKit Go.Proofs.YtmbbijhppgkdfaaW.PrintWords Go.Proofs.YtmbbijhppgkdfaaW.PrintLast Go.Proofs.YtmbbijhppgkdfaaW.PrintMore
set_option linter.unusedVariables false
set_option linter.unusedSimpArgs false

theorem bt_rg (s : ByteArray) (i : Int) : 0 ≤ bt s i ∧ bt s i ≤ 255 := by
  unfold bt
  split
  · exact ⟨by omega, by have := (s[i.toNat]).toNat_lt; omega⟩
  · omega
/-- Bit i of a string. -/
def bitAt (d : ByteArray) (i : Nat) : Bool := (bt d ((i / 8 : Nat) : Int)).toNat.testBit (7 - i % 8)
/-- The number v with the next m bits behind it. -/
def valFrom (d : ByteArray) (v q : Nat) : Nat → Nat
  | 0 => v
  | m + 1 => valFrom d (2 * v + (bitAt d q).toNat) (q + 1) m
theorem valFrom_lt (d : ByteArray) (m : Nat) : ∀ (v q j : Nat), v < 2 ^ j → valFrom d v q m < 2 ^ (j + m) := by
  induction m with
  | zero => exact fun v q j h => h
  | succ m ih =>
    intro v q j h
    have hb : (bitAt d q).toNat ≤ 1 := by cases bitAt d q <;> decide
    have := ih (2 * v + (bitAt d q).toNat) (q + 1) (j + 1) (by rw [Nat.pow_succ]; omega)
    rw [show j + (m + 1) = j + 1 + m by omega]
    exact this
theorem or_bit (v b : Nat) (hb : b ≤ 1) : v * 2 ||| b = 2 * v + b := by
  have h := Nat.shiftLeft_add_eq_or_of_lt (show b < 2 ^ 1 by omega) v
  rw [Nat.shiftLeft_eq] at h
  rw [show v * 2 = v * 2 ^ 1 by omega, ← h]
  omega
theorem bit_step (d : ByteArray) (v q : Nat) (hv : v < 4611686018427387904) : Go.bits .or .u64 (IntKind.u64.wrap ((v : Int) * 2)) (IntKind.u64.wrap (Go.bits .and .u8 (shr .u8 (bt d ((q / 8 : Nat) : Int)) ((7 - q % 8 : Nat) : Int)) 1)) = ((2 * v + (bitAt d q).toNat : Nat) : Int) := by
  obtain ⟨h0, h1⟩ := bt_rg d ((q / 8 : Nat) : Int)
  have hx : ((bt d ((q / 8 : Nat) : Int)).toNat : Int) = bt d ((q / 8 : Nat) : Int) := Int.toNat_of_nonneg h0
  have hba : bitAt d q = (bt d ((q / 8 : Nat) : Int)).toNat.testBit (7 - q % 8) := rfl
  generalize bt d ((q / 8 : Nat) : Int) = x at hx hba h0 h1 ⊢
  obtain ⟨X, hX⟩ : ∃ X, X = x.toNat := ⟨_, rfl⟩
  rw [← hX] at hx hba
  have hs : shr .u8 x ((7 - q % 8 : Nat) : Int) = ((X / 2 ^ (7 - q % 8) : Nat) : Int) := by
    unfold shr
    rw [Int.toNat_natCast, Nat.min_eq_left (show 7 - q % 8 ≤ IntKind.u8.bits by simp [IntKind.bits]; omega), ← hx]
    simp
  rw [hs]
  have hle : X / 2 ^ (7 - q % 8) ≤ X := Nat.div_le_self _ _
  have ha : Go.bits .and .u8 ((X / 2 ^ (7 - q % 8) : Nat) : Int) 1 = ((X / 2 ^ (7 - q % 8) % 2 : Nat) : Int) := by
    have := u8_and_nat (X / 2 ^ (7 - q % 8)) 1 (by omega) (by decide)
    rw [Nat.and_one_is_mod] at this
    exact this
  rw [ha]
  have hb : (bitAt d q).toNat = X / 2 ^ (7 - q % 8) % 2 := by
    rw [hba, Nat.testBit_eq_decide_div_mod_eq]
    rcases Nat.mod_two_eq_zero_or_one (X / 2 ^ (7 - q % 8)) with e | e <;> rw [e] <;> decide
  rw [hb]
  have hm : X / 2 ^ (7 - q % 8) % 2 ≤ 1 := by omega
  generalize X / 2 ^ (7 - q % 8) % 2 = b at hm
  have w1 : IntKind.u64.wrap ((v : Int) * 2) = ((v * 2 : Nat) : Int) := by simp [IntKind.wrap, IntKind.bits, IntKind.signed]; omega
  have w2 : IntKind.u64.wrap (b : Int) = ((b : Nat) : Int) := by simp [IntKind.wrap, IntKind.bits, IntKind.signed]; omega
  rw [w1, w2, u64_or_nat _ _ (by omega) (by omega), or_bit v b hm]
theorem rt1 (q : Nat) (h : q ≤ 524288) : wrap64 (Int.tdiv (q : Int) 8) = ((q / 8 : Nat) : Int) := by
  rw [Int.tdiv_eq_ediv_of_nonneg (by omega)]
  unfold wrap64
  omega
theorem rt2 (q : Nat) : wrap64 (7 - Int.tmod (q : Int) 8) = ((7 - q % 8 : Nat) : Int) := by
  rw [Int.tmod_eq_emod_of_nonneg (by omega)]
  unfold wrap64
  omega
theorem rt3 (j : Nat) (h : j ≤ 524288) : wrap64 ((j : Int) + 1) = ((j + 1 : Nat) : Int) := by
  unfold wrap64
  omega
theorem rt5 (d : ByteArray) (hd : d.size ≤ 65536) (q : Nat) (hq : q ≤ 524288) : wrap64 (wrap64 (8 * (d.size : Int)) - (q : Int)) = 8 * (d.size : Int) - q := by
  unfold wrap64
  omega
theorem rt6 (v : Nat) (h : v < 65536) : wrap64 (v : Int) = (v : Int) := by
  unfold wrap64
  omega
theorem get_l0 (d : ByteArray) (hd : d.size ≤ 65536) (e : Int) (n : Nat) (hn : n ≤ 16) (m : Nat) : ∀ (j q k v : Nat), j + m = n → q + m ≤ 8 * d.size → m < k → v < 2 ^ j → bitio_Reader_get.l0 k (v : Int) (n : Int) (j : Int) d (q : Int) e = some (((valFrom d v q m : Nat) : Int), d, ((q + m : Nat) : Int), e) := by
  induction m with
  | zero =>
    intro j q k v hj hq hk hv
    obtain ⟨k, rfl⟩ : ∃ a, k = a + 1 := ⟨k - 1, by omega⟩
    simp only [bitio_Reader_get.l0]
    rw [if_neg (by omega)]
    rfl
  | succ m ih =>
    intro j q k v hj hq hk hv
    obtain ⟨k, rfl⟩ : ∃ a, k = a + 1 := ⟨k - 1, by omega⟩
    have hp16 : (2 : Nat) ^ j ≤ 2 ^ 16 := Nat.pow_le_pow_right (by decide) (show j ≤ 16 by omega)
    have e16 : (2 : Nat) ^ 16 = 65536 := by decide
    have hv16 : v < 65536 := by omega
    have hQ0 : q / 8 < d.size := by omega
    have hjn : (j : Int) < (n : Int) := by omega
    have hb : (bitAt d q).toNat ≤ 1 := by cases bitAt d q <;> decide
    have hi := ih (j + 1) (q + 1) k (2 * v + (bitAt d q).toNat) (by omega) (by omega) (by omega) (by rw [Nat.pow_succ]; omega)
    rw [show q + 1 + m = q + (m + 1) by omega] at hi
    have hbs := Aside0.mk (bit_step d v q (by omega))
    have hq5 : q ≤ 524288 := by omega
    have hj5 : j ≤ 524288 := by omega
    have t1 := rt1 q hq5
    have t2 := rt2 q
    have t3 := rt3 j hj5
    have t4 := rt3 q hq5
    simp only [bitio_Reader_get.l0]
    generalize q / 8 = Q at hbs t1 hQ0
    generalize 7 - q % 8 = S at hbs t2
    have c1 : ((j : Int) < (n : Int)) = True := eq_true hjn
    have c2 : ((0 : Int) ≤ (Q : Int)) = True := eq_true (Int.natCast_nonneg Q)
    have c3 : ((Q : Int) < (d.size : Int)) = True := eq_true (Int.ofNat_lt.mpr hQ0)
    have c4 : ((0 : Int) ≤ (S : Int)) = True := eq_true (Int.natCast_nonneg S)
    simp only [t1, t2, t3, t4, c1, c2, c3, c4, if_true, hbs.out]
    exact hi
/-- The next n bits as a number, and the place behind them. -/
def g (d : ByteArray) (q n : Nat) : Option (Nat × Nat) := if q + n ≤ 8 * d.size then some (valFrom d 0 q n, q + n) else none
theorem un_good (d : ByteArray) (hd : d.size ≤ 65536) (n : Nat) (hn : 1 ≤ n ∧ n ≤ 16) (k : Nat) (hk : n < k) (q : Nat) (v q' : Nat) (h : g d q n = some (v, q')) : bitio_Reader_Unsigned.f k d (q : Int) 0 (n : Int) = some ((v : Int), d, (q' : Int), 0) := by
  unfold g at h
  split at h
  case isFalse => cases h
  rename_i hle
  injection h with h
  injection h with h1 h2
  subst h1
  subst h2
  have hv := valFrom_lt d n 0 q 0 (by decide)
  rw [Nat.zero_add] at hv
  have hp16 : (2 : Nat) ^ n ≤ 2 ^ 16 := Nat.pow_le_pow_right (by decide) hn.2
  have e16 : (2 : Nat) ^ 16 = 65536 := by decide
  have hv16 : valFrom d 0 q n < 65536 := by omega
  have hq5 : q ≤ 524288 := by omega
  have hn1 : (n : Int) ≥ 1 := by omega
  have hn63 : (n : Int) ≤ 63 := by omega
  have hlt : ¬ (n : Int) > 8 * (d.size : Int) - q := by omega
  have w1 := rt5 d hd q hq5
  unfold bitio_Reader_Unsigned.f bitio_Reader_field.f bitio_Reader_Left.f bitio_Reader_get.f
  have hlt2 : ((n : Int) > 8 * (d.size : Int) - q) = False := eq_false hlt
  simp only [hn1, hn63, decide_true, if_true, Option.bind_some, w1, hlt2, if_false]
  have hg := get_l0 d hd 0 n hn.2 n 0 q k 0 (Nat.zero_add n) hle hk (by decide)
  rw [show ((0 : Nat) : Int) = 0 from rfl] at hg
  rw [hg]
  simp only [Option.bind_some]
  have w2 := rt6 (valFrom d 0 q n) hv16
  rw [w2]
theorem un_bad (d : ByteArray) (hd : d.size ≤ 65536) (n : Nat) (hn : 1 ≤ n ∧ n ≤ 16) (k : Nat) (hk : n < k) (q : Nat) (hq : q ≤ 8 * d.size) (h : g d q n = none) : bitio_Reader_Unsigned.f k d (q : Int) 0 (n : Int) = some (0, d, (q : Int), 9) := by
  unfold g at h
  split at h
  case isTrue => cases h
  rename_i hle
  have hq5 : q ≤ 524288 := by omega
  have hn1 : (n : Int) ≥ 1 := by omega
  have hn63 : (n : Int) ≤ 63 := by omega
  have hlt : (n : Int) > 8 * (d.size : Int) - q := by omega
  have w1 := rt5 d hd q hq5
  unfold bitio_Reader_Unsigned.f bitio_Reader_field.f bitio_Reader_Left.f bitio_Reader_fail.f
  have hlt2 : ((n : Int) > 8 * (d.size : Int) - q) = True := eq_true hlt
  simp only [hn1, hn63, decide_true, if_true, Option.bind_some, w1, hlt2]
  have w2 : wrap64 0 = 0 := rt6 0 (by decide)
  rw [w2]
theorem un_err (d : ByteArray) (q e : Int) (n : Nat) (hn : 1 ≤ n) (k : Nat) (he : e ≠ 0) : bitio_Reader_Unsigned.f k d q e (n : Int) = some (0, d, q, e) := by
  unfold bitio_Reader_Unsigned.f bitio_Reader_field.f
  rw [if_pos (show (n : Int) ≥ 1 by omega), if_neg he]
  simp only [Option.bind_some]
  have w2 : wrap64 0 = 0 := rt6 0 (by decide)
  rw [w2]
end Go.Proofs.Ytmbbijhppgkdfaa.P14

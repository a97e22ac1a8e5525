/- hopmeshref02.Reader beside bitio.Reader, and hopmeshref14.header beside compress.read: both read the same, or both fail: plain laws. -/
import Derived.Test.YtmbbijhppgkdfaaTexp
import Derived.Test.YtmbbijhppgkdfaaTparse
import Derived.Test.YtmbbijhppgkdfaaP14Qh
namespace Go.Proofs.Ytmbbijhppgkdfaa.P14
open Go.RowKit Go.Proofs.YtmbbijhppgkdfaaW.PrintWords Go.Proofs.YtmbbijhppgkdfaaW.PrintLast Go.Proofs.YtmbbijhppgkdfaaW.PrintMore
set_option linter.unusedVariables false
set_option linter.unusedSimpArgs false

theorem i64_or_nat (a b : Nat) (ha : a < 4611686018427387904) (hb : b < 4611686018427387904) : bits .or .i64 (a : Int) (b : Int) = ((a ||| b : Nat) : Int) := by
  have hx : a ||| b < 2 ^ 62 := Nat.or_lt_two_pow (by omega) (by omega)
  have e62 : (2 : Nat) ^ 62 = 4611686018427387904 := by decide
  show IntKind.i64.wrap ((BitVec.ofInt 64 (a : Int) ||| BitVec.ofInt 64 (b : Int)).toNat : Int) = _
  rw [BitVec.toNat_or, ofInt_u64 a (by omega), ofInt_u64 b (by omega)]
  exact IntWalk.i64_in _ (by omega)
theorem i64_and1 (a : Nat) (ha : a < 4611686018427387904) : bits .and .i64 (a : Int) 1 = ((a % 2 : Nat) : Int) := by
  have e62 : (2 : Int) ^ 62 = 4611686018427387904 := by decide
  have hw : ∀ x : Int, 0 ≤ x → x < 2 ^ 62 → IntKind.i64.wrap x = x := by
    intro x h0 h1
    rw [e62] at h1
    exact IntWalk.i64_in _ (by omega)
  have h := bits_mask .i64 62 (by decide) hw 1 (by decide) (a : Int) (by omega) (by rw [e62]; omega)
  rw [show ((2 : Int) ^ 1 - 1) = 1 by decide] at h
  rw [h]
  omega
theorem bit_step2 (d : ByteArray) (v q : Nat) (hv : v < 65536) : Go.bits .or .i64 (wrap64 ((v : Int) * 2)) (Go.bits .and .i64 (shr .i64 (wrap64 (bt d ((q / 8 : Nat) : Int))) ((7 - q % 8 : Nat) : Int)) 1) = ((2 * v + (bitAt d q).toNat : Nat) : Int) := by
  obtain ⟨h0, h1⟩ := bt_rg d ((q / 8 : Nat) : Int)
  have hx : ((bt d ((q / 8 : Nat) : Int)).toNat : Int) = bt d ((q / 8 : Nat) : Int) := Int.toNat_of_nonneg h0
  have hba : bitAt d q = (bt d ((q / 8 : Nat) : Int)).toNat.testBit (7 - q % 8) := rfl
  generalize bt d ((q / 8 : Nat) : Int) = x at hx hba h0 h1 ⊢
  obtain ⟨X, hX⟩ : ∃ X, X = x.toNat := ⟨_, rfl⟩
  rw [← hX] at hx hba
  have w0 : wrap64 x = x := by unfold wrap64; omega
  have hs : shr .i64 x ((7 - q % 8 : Nat) : Int) = ((X / 2 ^ (7 - q % 8) : Nat) : Int) := by
    unfold shr
    rw [Int.toNat_natCast, Nat.min_eq_left (show 7 - q % 8 ≤ IntKind.i64.bits by simp [IntKind.bits]; omega), ← hx]
    simp
  rw [w0, hs]
  have hle : X / 2 ^ (7 - q % 8) ≤ X := Nat.div_le_self _ _
  rw [i64_and1 _ (by omega)]
  have hb : (bitAt d q).toNat = X / 2 ^ (7 - q % 8) % 2 := by
    rw [hba, Nat.testBit_eq_decide_div_mod_eq]
    rcases Nat.mod_two_eq_zero_or_one (X / 2 ^ (7 - q % 8)) with e | e <;> rw [e] <;> decide
  rw [hb]
  have hm : X / 2 ^ (7 - q % 8) % 2 ≤ 1 := by omega
  generalize X / 2 ^ (7 - q % 8) % 2 = b at hm
  have w1 : wrap64 ((v : Int) * 2) = ((v * 2 : Nat) : Int) := by unfold wrap64; omega
  rw [w1, i64_or_nat _ _ (by omega) (by omega), or_bit v b hm]
theorem qget_l0 (d : ByteArray) (hd : d.size ≤ 65536) (e : Int) (n : Nat) (hn : n ≤ 16) (m : Nat) : ∀ (j q k v : Nat), j + m = n → q + m ≤ 8 * d.size → m < k → v < 2 ^ j → hopmeshref02_Reader_get.l0 k (n : Int) (v : Int) (j : Int) d (q : Int) e = some (((valFrom d v q m : Nat) : Int), d, ((q + m : Nat) : Int), e) := by
  induction m with
  | zero =>
    intro j q k v hj hq hk hv
    obtain ⟨k, rfl⟩ : ∃ a, k = a + 1 := ⟨k - 1, by omega⟩
    simp only [hopmeshref02_Reader_get.l0]
    rw [if_neg (by omega)]
    rfl
  | succ m ih =>
    intro j q k v hj hq hk hv
    obtain ⟨k, rfl⟩ : ∃ a, k = a + 1 := ⟨k - 1, by omega⟩
    have hp16 : (2 : Nat) ^ j ≤ 2 ^ 16 := Nat.pow_le_pow_right (by decide) (show j ≤ 16 by omega)
    have e16 : (2 : Nat) ^ 16 = 65536 := by decide
    have hv16 : v < 65536 := by omega
    have hQ0 : q / 8 < d.size := by omega
    have hjn : (j : Int) < (n : Int) := by omega
    have hb : (bitAt d q).toNat ≤ 1 := by cases bitAt d q <;> decide
    have hi := ih (j + 1) (q + 1) k (2 * v + (bitAt d q).toNat) (by omega) (by omega) (by omega) (by rw [Nat.pow_succ]; omega)
    rw [show q + 1 + m = q + (m + 1) by omega] at hi
    have hbs := Aside0.mk (bit_step2 d v q hv16)
    have hq5 : q ≤ 524288 := by omega
    have hj5 : j ≤ 524288 := by omega
    have t1 := rt1 q hq5
    have t2 := rt2 q
    have t3 := rt3 j hj5
    have t4 := rt3 q hq5
    simp only [hopmeshref02_Reader_get.l0]
    generalize q / 8 = Q at hbs t1 hQ0
    generalize 7 - q % 8 = S at hbs t2
    have c1 : ((j : Int) < (n : Int)) = True := eq_true hjn
    have c2 : ((0 : Int) ≤ (Q : Int)) = True := eq_true (Int.natCast_nonneg Q)
    have c3 : ((Q : Int) < (d.size : Int)) = True := eq_true (Int.ofNat_lt.mpr hQ0)
    have c4 : ((0 : Int) ≤ (S : Int)) = True := eq_true (Int.natCast_nonneg S)
    simp only [t1, t2, t3, t4, c1, c2, c3, c4, if_true, hbs.out]
    exact hi
theorem qget_good (d : ByteArray) (hd : d.size ≤ 65536) (n : Nat) (hn : n ≤ 16) (k : Nat) (hk : n < k) (q v q' : Nat) (h : g d q n = some (v, q')) : hopmeshref02_Reader_get.f k d (q : Int) 0 (n : Int) = some ((v : Int), d, (q' : Int), 0) := by
  unfold g at h
  split at h
  case isFalse => cases h
  rename_i hle
  injection h with h
  injection h with h1 h2
  subst h1
  subst h2
  have hq5 : q ≤ 524288 := by omega
  have hlt : ¬ (8 * (d.size : Int) - q < (n : Int)) := by omega
  have w1 := rt5 d hd q hq5
  have hg := qget_l0 d hd 0 n hn n 0 q k 0 (Nat.zero_add n) hle hk (by decide)
  rw [show ((0 : Nat) : Int) = 0 from rfl] at hg
  unfold hopmeshref02_Reader_get.f hopmeshref02_Reader_Left.f
  rw [if_pos rfl]
  refine bind_to rfl ?_
  dsimp only
  rw [w1, if_neg hlt]
  exact hg
theorem qget_bad (d : ByteArray) (hd : d.size ≤ 65536) (n : Nat) (k : Nat) (q : Nat) (hq : q ≤ 8 * d.size) (h : g d q n = none) : hopmeshref02_Reader_get.f k d (q : Int) 0 (n : Int) = some (0, ⟨#[]⟩, 0, 9) := by
  unfold g at h
  split at h
  case isTrue => cases h
  rename_i hle
  have hq5 : q ≤ 524288 := by omega
  have hlt : 8 * (d.size : Int) - q < (n : Int) := by omega
  have w1 := rt5 d hd q hq5
  unfold hopmeshref02_Reader_get.f hopmeshref02_Reader_Left.f hopmeshref02_Reader_fail.f
  rw [if_pos rfl]
  refine bind_to rfl ?_
  dsimp only
  rw [w1, if_pos hlt]
  rfl
theorem qget_err (d : ByteArray) (q e n : Int) (k : Nat) (he : e ≠ 0) : hopmeshref02_Reader_get.f k d q e n = some (0, d, q, e) := by
  unfold hopmeshref02_Reader_get.f
  rw [if_neg he]
theorem qun_of (d : ByteArray) (q e : Int) (n : Nat) (hn : 1 ≤ n ∧ n ≤ 16) (k : Nat) (r : Int × ByteArray × Int × Int) (h : hopmeshref02_Reader_get.f k d q e (n : Int) = some r) : hopmeshref02_Reader_Unsigned.f (k + 1) d q e (n : Int) = some r := by
  have hj : hopmeshref02_Reader_Unsigned.j0 (k + 1) (n : Int) false d q e = some r := by
    simp only [hopmeshref02_Reader_Unsigned.j0]
    rw [if_neg (by decide)]
    exact bind_to h rfl
  unfold hopmeshref02_Reader_Unsigned.f
  by_cases he : e = 0
  · rw [if_pos he, if_neg (by omega), show decide ((n : Int) > 63) = false from decide_eq_false (by omega)]
    exact hj
  · rw [if_neg he]
    exact hj
/-- Reading a number of n bits: both succeed alike, or both fail. -/
theorem un_both (d : ByteArray) (hd : d.size ≤ 65536) (n : Nat) (hn : 1 ≤ n ∧ n ≤ 16) (k k' : Nat) (hk : n < k) (hk' : n < k') (q : Nat) (hq : q ≤ 8 * d.size) :
    (∃ v q' : Nat, q' ≤ 8 * d.size ∧ v < 2 ^ n ∧ bitio_Reader_Unsigned.f k d (q : Int) 0 (n : Int) = some ((v : Int), d, (q' : Int), 0) ∧ hopmeshref02_Reader_Unsigned.f (k' + 1) d (q : Int) 0 (n : Int) = some ((v : Int), d, (q' : Int), 0)) ∨
    (bitio_Reader_Unsigned.f k d (q : Int) 0 (n : Int) = some (0, d, (q : Int), 9) ∧ hopmeshref02_Reader_Unsigned.f (k' + 1) d (q : Int) 0 (n : Int) = some (0, ⟨#[]⟩, 0, 9)) := by
  cases hg : g d q n with
  | none => exact Or.inr ⟨un_bad d hd n hn k hk q hq hg, qun_of d _ _ n hn k' _ (qget_bad d hd n k' q hq hg)⟩
  | some x =>
    obtain ⟨v, q'⟩ := x
    refine Or.inl ⟨v, q', ?_, ?_, un_good d hd n hn k hk q v q' hg, qun_of d _ _ n hn k' _ (qget_good d hd n hn.2 k' hk' q v q' hg)⟩
    · unfold g at hg
      split at hg
      · injection hg with hg; injection hg with h1 h2; omega
      · cases hg
    · unfold g at hg
      split at hg
      · injection hg with hg; injection hg with h1 h2
        rw [← h1]
        have := valFrom_lt d n 0 q 0 (by decide)
        rw [Nat.zero_add] at this
        exact this
      · cases hg
theorem qun_err (d : ByteArray) (q e : Int) (n : Nat) (hn : 1 ≤ n ∧ n ≤ 16) (k : Nat) (he : e ≠ 0) : hopmeshref02_Reader_Unsigned.f (k + 1) d q e (n : Int) = some (0, d, q, e) := qun_of d q e n hn k _ (qget_err d q e _ k he)
theorem qun_zero (d : ByteArray) (q : Nat) (k : Nat) : hopmeshref02_Reader_Unsigned.f (k + 1) d (q : Int) 0 0 = some (0, ⟨#[]⟩, 0, 1) := by
  unfold hopmeshref02_Reader_Unsigned.f
  rw [if_pos rfl, if_pos (by decide)]
  simp only [hopmeshref02_Reader_Unsigned.j0]
  rw [if_pos trivial]
  refine bind_to rfl ?_
  dsimp only
  exact bind_to (qget_err ⟨#[]⟩ 0 1 0 k (by decide)) rfl
theorem fl_both (d : ByteArray) (hd : d.size ≤ 65536) (k k' : Nat) (hk : 1 < k) (hk' : 1 < k') (q : Nat) (hq : q ≤ 8 * d.size) :
    (q + 1 ≤ 8 * d.size ∧ ∃ b, bitio_Reader_Flag.f k d (q : Int) 0 = some (b, d, ((q + 1 : Nat) : Int), 0) ∧ hopmeshref02_Reader_Flag.f k' d (q : Int) 0 = some (b, d, ((q + 1 : Nat) : Int), 0)) ∨
    (bitio_Reader_Flag.f k d (q : Int) 0 = some (false, d, (q : Int), 9) ∧ hopmeshref02_Reader_Flag.f k' d (q : Int) 0 = some (false, ⟨#[]⟩, 0, 9)) := by
  by_cases h : q + 1 ≤ 8 * d.size
  · refine Or.inl ⟨h, _, fl_good d hd k hk q h, ?_⟩
    have hg : g d q 1 = some (valFrom d 0 q 1, q + 1) := by unfold g; rw [if_pos h]
    have := qget_good d hd 1 (by decide) k' hk' q _ _ hg
    unfold hopmeshref02_Reader_Flag.f
    refine bind_to this ?_
    dsimp only
    simp only [valFrom]
    cases bitAt d q <;> rfl
  · have hg : g d q 1 = none := by unfold g; rw [if_neg h]
    refine Or.inr ⟨fl_bad d hd k q hq h, ?_⟩
    unfold hopmeshref02_Reader_Flag.f
    exact bind_to (qget_bad d hd 1 k' q hq hg) rfl
theorem qfl_err (d : ByteArray) (q e : Int) (k : Nat) (he : e ≠ 0) : hopmeshref02_Reader_Flag.f k d q e = some (false, d, q, e) := by
  unfold hopmeshref02_Reader_Flag.f
  exact bind_to (qget_err d q e 1 k he) rfl

theorem un_seq {β γ : Type} (d : ByteArray) (hd : d.size ≤ 65536) (n : Nat) (hn : 1 ≤ n ∧ n ≤ 16) (k k' : Nat) (hk : n < k) (hk' : n < k') (q : Nat) (hq : q ≤ 8 * d.size) (z : Int) (hz : z = (n : Int)) {F : Int × ByteArray × Int × Int → Option β} {G : Int × ByteArray × Int × Int → Option γ} {P : Option β → Option γ → Prop}
    (good : ∀ v q' : Nat, q' ≤ 8 * d.size → v < 2 ^ n → P (F ((v : Int), d, (q' : Int), 0)) (G ((v : Int), d, (q' : Int), 0))) (bad : P (F (0, d, (q : Int), 9)) (G (0, ⟨#[]⟩, 0, 9))) :
    P ((bitio_Reader_Unsigned.f k d (q : Int) 0 z).bind F) ((hopmeshref02_Reader_Unsigned.f (k' + 1) d (q : Int) 0 z).bind G) := by
  subst hz
  rcases un_both d hd n hn k k' hk hk' q hq with ⟨v, q', h1, h2, e1, e2⟩ | ⟨e1, e2⟩
  · rw [e1, e2, Option.bind_some, Option.bind_some]; exact good v q' h1 h2
  · rw [e1, e2, Option.bind_some, Option.bind_some]; exact bad
theorem fl_seq {β γ : Type} (d : ByteArray) (hd : d.size ≤ 65536) (k k' : Nat) (hk : 1 < k) (hk' : 1 < k') (q : Nat) (hq : q ≤ 8 * d.size) {F : Bool × ByteArray × Int × Int → Option β} {G : Bool × ByteArray × Int × Int → Option γ} {P : Option β → Option γ → Prop}
    (good : ∀ b : Bool, q + 1 ≤ 8 * d.size → P (F (b, d, ((q + 1 : Nat) : Int), 0)) (G (b, d, ((q + 1 : Nat) : Int), 0))) (bad : P (F (false, d, (q : Int), 9)) (G (false, ⟨#[]⟩, 0, 9))) :
    P ((bitio_Reader_Flag.f k d (q : Int) 0).bind F) ((hopmeshref02_Reader_Flag.f k' d (q : Int) 0).bind G) := by
  rcases fl_both d hd k k' hk hk' q hq with ⟨h1, b, e1, e2⟩ | ⟨e1, e2⟩
  · rw [e1, e2, Option.bind_some, Option.bind_some]; exact good b h1
  · rw [e1, e2, Option.bind_some, Option.bind_some]; exact bad
theorem ue (d : ByteArray) (q e : Int) (he : e ≠ 0) (k : Nat) (z : Int) (n : Nat) (hn : 1 ≤ n) (hz : z = (n : Int)) : bitio_Reader_Unsigned.f k d q e z = some (0, d, q, e) := by subst hz; exact un_err d q e n hn k he
theorem qe (d : ByteArray) (q e : Int) (he : e ≠ 0) (k : Nat) (hk : 0 < k) (z : Int) (n : Nat) (hn : 1 ≤ n ∧ n ≤ 16) (hz : z = (n : Int)) : hopmeshref02_Reader_Unsigned.f k d q e z = some (0, d, q, e) := by
  obtain ⟨k, rfl⟩ : ∃ a, k = a + 1 := ⟨k - 1, by omega⟩
  subst hz; exact qun_err d q e n hn k he
section
variable (d : ByteArray) (hd : d.size ≤ 65536)
/-- An address: both the same, or both bad. -/
def AB (d : ByteArray) (o : Option (ByteArray × Bool × ByteArray × Int × Int)) (o' : Option (ByteArray × ByteArray × Int × Int)) : Prop :=
  (∃ (y : ByteArray) (q' : Nat), q' ≤ 8 * d.size ∧ o = some (y, true, d, (q' : Int), 0) ∧ o' = some (y, d, (q' : Int), 0)) ∨
  ((∃ (y : ByteArray) (b : Bool) (q' : Nat) (e' : Int), q' ≤ 8 * d.size ∧ (b = false ∨ e' ≠ 0) ∧ o = some (y, b, d, (q' : Int), e')) ∧ ∃ (y d' : ByteArray) (q' e' : Int), e' ≠ 0 ∧ o' = some (y, d', q', e'))
end
theorem pl_err (d : ByteArray) (q e : Int) (he : e ≠ 0) (m : Nat) : ∀ (x : ByteArray) (k : Nat), 4 - x.size ≤ m → x.size ≤ 4 → m + 20 < k → ∃ y, compress_readAddress.l0 k x d q e = some (y, true, d, q, e) := by
  induction m with
  | zero =>
    intro x k hm hx hk
    obtain ⟨k, rfl⟩ : ∃ a, k = a + 1 := ⟨k - 1, by omega⟩
    simp only [compress_readAddress.l0]
    rw [if_neg (by omega)]
    exact ⟨x, rfl⟩
  | succ m ih =>
    intro x k hm hx hk
    obtain ⟨k, rfl⟩ : ∃ a, k = a + 1 := ⟨k - 1, by omega⟩
    simp only [compress_readAddress.l0]
    by_cases h4 : (x.size : Int) < 4
    · rw [if_pos h4, ue d q e he k 8 8 (by decide) rfl, Option.bind_some, Option.bind_some]
      dsimp only
      have hsz : (strOfNums [(0 : Int) % 256]).size = 1 := by rw [strOfNums_size]; rfl
      have hxs : (x ++ strOfNums [(0 : Int) % 256]).size = x.size + 1 := by rw [ByteArray.size_append, hsz]
      rw [if_pos (by rw [hsz]; omega)]
      exact ih _ k (by omega) (by omega) (by omega)
    · rw [if_neg h4]
      exact ⟨x, rfl⟩
theorem ql_err (d : ByteArray) (q e : Int) (he : e ≠ 0) (x : ByteArray) (k : Nat) : ∃ y, hopmeshref14_read.l0 (k + 1) x d q e = some (y, d, q, e) := by
  simp only [hopmeshref14_read.l0]
  by_cases h4 : (x.size : Int) < 4
  · rw [if_pos h4]
    refine ⟨x, bind_to (x := (e, d, q, e)) rfl ?_⟩
    dsimp only
    rw [if_neg he]
  · rw [if_neg h4]
    exact ⟨x, rfl⟩
theorem al_both (d : ByteArray) (hd : d.size ≤ 65536) (m : Nat) : ∀ (x : ByteArray) (k k' q : Nat), 4 - x.size ≤ m → x.size ≤ 4 → m + 20 < k → m + 20 < k' → q ≤ 8 * d.size →
    AB d (compress_readAddress.l0 k x d (q : Int) 0) (hopmeshref14_read.l0 k' x d (q : Int) 0) := by
  induction m with
  | zero =>
    intro x k k' q hm hx hk hk' hq
    obtain ⟨k, rfl⟩ : ∃ a, k = a + 1 := ⟨k - 1, by omega⟩
    obtain ⟨k', rfl⟩ : ∃ a, k' = a + 1 := ⟨k' - 1, by omega⟩
    simp only [compress_readAddress.l0, hopmeshref14_read.l0]
    rw [if_neg (by omega), if_neg (by omega)]
    exact Or.inl ⟨x, q, hq, rfl, rfl⟩
  | succ m ih =>
    intro x k k' q hm hx hk hk' hq
    obtain ⟨k, rfl⟩ : ∃ a, k = a + 1 := ⟨k - 1, by omega⟩
    obtain ⟨k', rfl⟩ : ∃ a, k' = a + 2 := ⟨k' - 2, by omega⟩
    simp only [compress_readAddress.l0]
    rw [hopmeshref14_read.l0]
    by_cases h4 : (x.size : Int) < 4
    · rw [if_pos h4, if_pos h4]
      have e0 : ∀ F : Int × ByteArray × Int × Int → Option (ByteArray × ByteArray × Int × Int), (hopmeshref02_Reader_Err.f d (q : Int) 0).bind F = F (0, d, (q : Int), 0) := fun F => rfl
      rw [e0]
      dsimp only
      rw [if_pos rfl]
      refine un_seq d hd 8 (by decide) k k' (by omega) (by omega) q hq 8 rfl (P := AB d) (fun v q' hq' hv => ?_) ?_
      · dsimp only
        rw [Option.bind_some, Option.bind_some]
        have hsz : (strOfNums [(v : Int) % 256]).size = 1 := by rw [strOfNums_size]; rfl
        have hxs : (x ++ strOfNums [(v : Int) % 256]).size = x.size + 1 := by rw [ByteArray.size_append, hsz]
        rw [if_pos (by rw [hsz]; omega), if_pos (by rw [hsz]; omega)]
        exact ih _ k (k' + 1) q' (by omega) (by omega) (by omega) (by omega) hq'
      · dsimp only
        rw [Option.bind_some, Option.bind_some]
        have hsz : (strOfNums [(0 : Int) % 256]).size = 1 := by rw [strOfNums_size]; rfl
        have hxs : (x ++ strOfNums [(0 : Int) % 256]).size = x.size + 1 := by rw [ByteArray.size_append, hsz]
        rw [if_pos (by rw [hsz]; omega), if_pos (by rw [hsz]; omega)]
        obtain ⟨y, hy⟩ := pl_err d (q : Int) 9 (by decide) m (x ++ strOfNums [(0 : Int) % 256]) k (by omega) (by omega) (by omega)
        obtain ⟨y', hy'⟩ := ql_err ⟨#[]⟩ 0 9 (by decide) (x ++ strOfNums [(0 : Int) % 256]) k'
        exact Or.inr ⟨⟨y, true, q, 9, hq, Or.inr (by decide), hy⟩, ⟨y', ⟨#[]⟩, 0, 9, by decide, hy'⟩⟩
    · rw [if_neg h4, if_neg h4]
      exact Or.inl ⟨x, q, hq, rfl, rfl⟩
theorem pa_err (d : ByteArray) (q e : Int) (he : e ≠ 0) (cs : List S26) (hs : ∀ i : Int, 0 ≤ i → i < (cs.length : Int) → (rd_T26 cs i).f0.size ≤ 4) (k : Nat) (hk : 40 < k) : ∃ y b, compress_readAddress.f k d q e cs = some (y, b, d, q, e) := by
  obtain ⟨k, rfl⟩ : ∃ a, k = a + 1 := ⟨k - 1, by omega⟩
  unfold compress_readAddress.f
  rw [fl_err d q e (k + 1) he, Option.bind_some]
  dsimp only
  rw [if_neg (by decide)]
  simp only [compress_readAddress.j0]
  obtain ⟨y, hy⟩ := pl_err d q e he 4 ⟨#[]⟩ k (Nat.sub_le _ _) (Nat.zero_le _) (by omega)
  exact ⟨y, true, hy⟩
theorem qa_err (d : ByteArray) (q e : Int) (he : e ≠ 0) (cs : List S26) (k : Nat) (hk : 3 < k) : ∃ y, hopmeshref14_read.f k d q e cs = some (y, d, q, e) := by
  obtain ⟨k, rfl⟩ : ∃ a, k = a + 2 := ⟨k - 2, by omega⟩
  unfold hopmeshref14_read.f
  rw [qfl_err d q e (k + 2) he, Option.bind_some]
  dsimp only
  rw [if_neg (by decide)]
  simp only [hopmeshref14_read.j0]
  exact ql_err d q e he ⟨#[]⟩ k
theorem a_both (d : ByteArray) (hd : d.size ≤ 65536) (cs : List S26) (hs : ∀ i : Int, 0 ≤ i → i < (cs.length : Int) → (rd_T26 cs i).f0.size ≤ 4) (k k' q : Nat) (hk : 40 < k) (hk' : 40 < k') (hq : q ≤ 8 * d.size) :
    AB d (compress_readAddress.f k d (q : Int) 0 cs) (hopmeshref14_read.f k' d (q : Int) 0 cs) := by
  obtain ⟨k, rfl⟩ : ∃ a, k = a + 1 := ⟨k - 1, by omega⟩
  obtain ⟨k', rfl⟩ : ∃ a, k' = a + 2 := ⟨k' - 2, by omega⟩
  unfold compress_readAddress.f hopmeshref14_read.f
  refine fl_seq d hd (k + 1) (k' + 2) (by omega) (by omega) q hq (P := AB d) (fun b hb => ?_) ?_
  · dsimp only
    cases b with
    | false =>
      rw [if_neg (by decide), if_neg (by decide)]
      simp only [compress_readAddress.j0, hopmeshref14_read.j0]
      exact al_both d hd 4 ⟨#[]⟩ k (k' + 1) (q + 1) (Nat.sub_le _ _) (Nat.zero_le _) (by omega) (by omega) hb
    | true =>
      rw [if_pos rfl, if_pos rfl]
      refine un_seq d hd 3 (by decide) (k + 1) (k' + 1) (by omega) (by omega) (q + 1) hb 3 rfl (P := AB d) (fun v q' hq' hv => ?_) ?_
      · dsimp only
        by_cases hl : (v : Int) ≥ (cs.length : Int)
        · rw [if_pos hl, if_pos hl]
          refine Or.inr ⟨⟨_, false, q', 0, hq', Or.inl rfl, rfl⟩, ⟨_, _, _, _, ?_, bind_to (qun_zero d q' (k' + 1)) rfl⟩⟩
          decide
        · rw [if_neg hl, if_neg hl, if_pos (by omega), if_pos (by omega), if_pos (by omega), if_pos (by omega)]
          simp only [compress_readAddress.j0, hopmeshref14_read.j0]
          exact al_both d hd 4 _ k (k' + 1) q' (Nat.sub_le _ _) (hs _ (by omega) (by omega)) (by omega) (by omega) hq'
      · dsimp only
        by_cases hl : (0 : Int) ≥ (cs.length : Int)
        · rw [if_pos hl, if_pos hl]
          have h0 : hopmeshref02_Reader_Unsigned.f (k' + 2) ⟨#[]⟩ 0 9 0 = some (0, ⟨#[]⟩, 0, 9) := by
            unfold hopmeshref02_Reader_Unsigned.f
            rw [if_neg (by decide)]
            simp only [hopmeshref02_Reader_Unsigned.j0]
            rw [if_neg (by decide)]
            exact bind_to (qget_err ⟨#[]⟩ 0 9 0 _ (by decide)) rfl
          refine Or.inr ⟨⟨_, false, q + 1, 9, hb, Or.inl rfl, rfl⟩, ⟨_, _, _, _, ?_, bind_to h0 rfl⟩⟩
          decide
        · rw [if_neg hl, if_neg hl, if_pos (by decide), if_pos (by omega), if_pos (by decide), if_pos (by omega)]
          simp only [compress_readAddress.j0, hopmeshref14_read.j0]
          obtain ⟨y, hy⟩ := pl_err d ((q + 1 : Nat) : Int) 9 (by decide) 4 (rd_T26 cs 0).f0 k (Nat.sub_le _ _) (hs _ (by decide) (by omega)) (by omega)
          obtain ⟨y', hy'⟩ := ql_err ⟨#[]⟩ 0 9 (by decide) (rd_T26 cs 0).f0 k'
          exact Or.inr ⟨⟨y, true, q + 1, 9, hb, Or.inr (by decide), hy⟩, ⟨y', ⟨#[]⟩, 0, 9, by decide, hy'⟩⟩
  · dsimp only
    rw [if_neg (by decide), if_neg (by decide)]
    simp only [compress_readAddress.j0, hopmeshref14_read.j0]
    obtain ⟨y, hy⟩ := pl_err d (q : Int) 9 (by decide) 4 ⟨#[]⟩ k (Nat.sub_le _ _) (Nat.zero_le _) (by omega)
    obtain ⟨y', hy'⟩ := ql_err ⟨#[]⟩ 0 9 (by decide) ⟨#[]⟩ k'
    exact Or.inr ⟨⟨y, true, q, 9, hq, Or.inr (by decide), hy⟩, ⟨y', ⟨#[]⟩, 0, 9, by decide, hy'⟩⟩

/-- The reference's reading of both ports. -/
def qports (k : Nat) (d : ByteArray) (q e : Int) : Option (Int × Int × ByteArray × Int × Int) :=
  (hopmeshref02_Reader_Unsigned.f k d q e 2).bind fun t => if t.1 = 3 then ((hopmeshref02_Reader_Unsigned.f k t.2.1 t.2.2.1 t.2.2.2 4).bind fun u => (hopmeshref02_Reader_Unsigned.f k u.2.1 u.2.2.1 u.2.2.2 4).bind fun v => some (wrap64 (61616 + u.1), wrap64 (61616 + v.1), v.2.1, v.2.2.1, v.2.2.2))
    else if t.1 = 1 then ((hopmeshref02_Reader_Unsigned.f k t.2.1 t.2.2.1 t.2.2.2 16).bind fun u => some (u.1, u.1, u.2.1, u.2.2.1, u.2.2.2))
    else if t.1 = 2 then ((hopmeshref02_Reader_Unsigned.f k t.2.1 t.2.2.1 t.2.2.2 8).bind fun u => (hopmeshref02_Reader_Unsigned.f k u.2.1 u.2.2.1 u.2.2.2 16).bind fun v => some (wrap64 (61440 + u.1), v.1, v.2.1, v.2.2.1, v.2.2.2))
    else ((hopmeshref02_Reader_Unsigned.f k t.2.1 t.2.2.1 t.2.2.2 16).bind fun u => (hopmeshref02_Reader_Unsigned.f k u.2.1 u.2.2.1 u.2.2.2 16).bind fun v => some (u.1, v.1, v.2.1, v.2.2.1, v.2.2.2))
theorem j1_q (k : Nat) (cs : List S26) (d : ByteArray) (q e x0 x1 : Int) (x2 x3 : ByteArray) (x4 x5 x6 : Int) : hopmeshref14_header.j1 (k + 1) cs d q e x0 x1 x2 x3 x4 x5 x6 = (hopmeshref14_read.f k d q e cs).bind fun t1 => (hopmeshref14_read.f k t1.2.1 t1.2.2.1 t1.2.2.2 cs).bind fun t2 => (qports k t2.2.1 t2.2.2.1 t2.2.2.2).bind fun p => hopmeshref14_header.j2 k p.2.2.1 p.2.2.2.1 p.2.2.2.2 x0 x1 t1.1 t2.1 p.1 p.2.1 x6 := by
  rw [hopmeshref14_header.j1]
  congr 1
  funext t1
  congr 1
  funext t2
  unfold qports
  rw [Option.bind_assoc]
  congr 1
  funext t
  split
  · rw [Option.bind_assoc]
    congr 1
    funext u
    rw [Option.bind_assoc]
    rfl
  · split
    · rw [Option.bind_assoc]
      rfl
    · split
      · rw [Option.bind_assoc]
        congr 1
        funext u
        rw [Option.bind_assoc]
        rfl
      · rw [Option.bind_assoc]
        congr 1
        funext u
        rw [Option.bind_assoc]
        rfl
theorem pp_err (d : ByteArray) (q e : Int) (he : e ≠ 0) (k : Nat) : ∃ a b, compress_readPorts.f k d q e = some (a, b, d, q, e) := by
  unfold compress_readPorts.f
  rw [ue d q e he k 2 2 (by decide) rfl, Option.bind_some]
  dsimp only
  rw [if_neg (by decide), if_neg (by decide), if_neg (by decide)]
  exact ⟨_, _, bind_to (ue d q e he k 16 16 (by decide) rfl) (bind_to (ue d q e he k 16 16 (by decide) rfl) rfl)⟩
theorem qp_err (d : ByteArray) (q e : Int) (he : e ≠ 0) (k : Nat) (hk : 0 < k) : ∃ a b, qports k d q e = some (a, b, d, q, e) := by
  unfold qports
  rw [qe d q e he k hk 2 2 (by decide) rfl, Option.bind_some]
  dsimp only
  rw [if_neg (by decide), if_neg (by decide), if_neg (by decide)]
  exact ⟨_, _, bind_to (qe d q e he k hk 16 16 (by decide) rfl) (bind_to (qe d q e he k hk 16 16 (by decide) rfl) rfl)⟩
def PBo (d : ByteArray) (o o' : Option (Int × Int × ByteArray × Int × Int)) : Prop :=
  (∃ (a b : Int) (q' : Nat), q' ≤ 8 * d.size ∧ o = some (a, b, d, (q' : Int), 0) ∧ o' = some (a, b, d, (q' : Int), 0)) ∨
  ((∃ (a b : Int) (q' : Nat) (e' : Int), q' ≤ 8 * d.size ∧ e' ≠ 0 ∧ o = some (a, b, d, (q' : Int), e')) ∧ ∃ (a b : Int) (d' : ByteArray) (q' e' : Int), e' ≠ 0 ∧ o' = some (a, b, d', q', e'))
theorem ports_both (d : ByteArray) (hd : d.size ≤ 65536) (k k' q : Nat) (hk : 40 < k) (hk' : 40 < k') (hq : q ≤ 8 * d.size) : PBo d (compress_readPorts.f k d (q : Int) 0) (qports (k' + 1) d (q : Int) 0) := by
  have n9 : (9 : Int) ≠ 0 := by decide
  unfold compress_readPorts.f qports
  refine un_seq d hd 2 (by decide) k k' (by omega) (by omega) q hq 2 rfl (P := PBo d) (fun v q1 hq1 hv => ?_) ?_
  · dsimp only
    by_cases c3 : (v : Int) = 3
    · rw [if_pos c3, if_pos c3]
      refine un_seq d hd 4 (by decide) k k' (by omega) (by omega) q1 hq1 4 rfl (P := PBo d) (fun v2 q2 hq2 hv2 => ?_) ?_
      · dsimp only
        refine un_seq d hd 4 (by decide) k k' (by omega) (by omega) q2 hq2 4 rfl (P := PBo d) (fun v3 q3 hq3 hv3 => ?_) ?_
        · dsimp only
          refine Or.inl ⟨_, _, q3, hq3, rfl, ?_⟩
          rw [Int.add_comm 61616, Int.add_comm 61616]
        · dsimp only
          exact Or.inr ⟨⟨_, _, q2, 9, hq2, n9, rfl⟩, ⟨_, _, _, _, 9, n9, rfl⟩⟩
      · dsimp only
        exact Or.inr ⟨⟨_, _, q1, 9, hq1, n9, bind_to (ue d _ 9 n9 k 4 4 (by decide) rfl) rfl⟩, ⟨_, _, _, _, 9, n9, bind_to (qe _ _ 9 n9 (k' + 1) (by omega) 4 4 (by decide) rfl) rfl⟩⟩
    · rw [if_neg c3, if_neg c3]
      by_cases c1 : (v : Int) = 1
      · rw [if_pos c1, if_pos c1]
        refine un_seq d hd 16 (by decide) k k' (by omega) (by omega) q1 hq1 16 rfl (P := PBo d) (fun v2 q2 hq2 hv2 => ?_) ?_
        · exact Or.inl ⟨_, _, q2, hq2, rfl, rfl⟩
        · exact Or.inr ⟨⟨_, _, q1, 9, hq1, n9, rfl⟩, ⟨_, _, _, _, 9, n9, rfl⟩⟩
      · rw [if_neg c1, if_neg c1]
        by_cases c2 : (v : Int) = 2
        · rw [if_pos c2, if_pos c2]
          refine un_seq d hd 8 (by decide) k k' (by omega) (by omega) q1 hq1 8 rfl (P := PBo d) (fun v2 q2 hq2 hv2 => ?_) ?_
          · dsimp only
            refine un_seq d hd 16 (by decide) k k' (by omega) (by omega) q2 hq2 16 rfl (P := PBo d) (fun v3 q3 hq3 hv3 => ?_) ?_
            · dsimp only
              refine Or.inl ⟨_, _, q3, hq3, rfl, ?_⟩
              rw [Int.add_comm 61440]
            · dsimp only
              exact Or.inr ⟨⟨_, _, q2, 9, hq2, n9, rfl⟩, ⟨_, _, _, _, 9, n9, rfl⟩⟩
          · dsimp only
            exact Or.inr ⟨⟨_, _, q1, 9, hq1, n9, bind_to (ue d _ 9 n9 k 16 16 (by decide) rfl) rfl⟩, ⟨_, _, _, _, 9, n9, bind_to (qe _ _ 9 n9 (k' + 1) (by omega) 16 16 (by decide) rfl) rfl⟩⟩
        · rw [if_neg c2, if_neg c2]
          refine un_seq d hd 16 (by decide) k k' (by omega) (by omega) q1 hq1 16 rfl (P := PBo d) (fun v2 q2 hq2 hv2 => ?_) ?_
          · dsimp only
            refine un_seq d hd 16 (by decide) k k' (by omega) (by omega) q2 hq2 16 rfl (P := PBo d) (fun v3 q3 hq3 hv3 => ?_) ?_
            · exact Or.inl ⟨_, _, q3, hq3, rfl, rfl⟩
            · exact Or.inr ⟨⟨_, _, q2, 9, hq2, n9, rfl⟩, ⟨_, _, _, _, 9, n9, rfl⟩⟩
          · dsimp only
            exact Or.inr ⟨⟨_, _, q1, 9, hq1, n9, bind_to (ue d _ 9 n9 k 16 16 (by decide) rfl) rfl⟩, ⟨_, _, _, _, 9, n9, bind_to (qe _ _ 9 n9 (k' + 1) (by omega) 16 16 (by decide) rfl) rfl⟩⟩
  · dsimp only
    rw [if_neg (by decide), if_neg (by decide), if_neg (by decide), if_neg (by decide), if_neg (by decide), if_neg (by decide)]
    exact Or.inr ⟨⟨_, _, q, 9, hq, n9, bind_to (ue d _ 9 n9 k 16 16 (by decide) rfl) (bind_to (ue d _ 9 n9 k 16 16 (by decide) rfl) rfl)⟩, ⟨_, _, _, _, 9, n9, bind_to (qe _ _ 9 n9 (k' + 1) (by omega) 16 16 (by decide) rfl) (bind_to (qe _ _ 9 n9 (k' + 1) (by omega) 16 16 (by decide) rfl) rfl)⟩⟩
abbrev PH := Int × Int × ByteArray × ByteArray × Int × Int × Int × Bool × ByteArray × Int × Int
abbrev QH := Int × Int × ByteArray × ByteArray × Int × Int × Int × ByteArray × Int × Int
def pBad (o : Option PH) : Prop := ∃ t1 t2 t3 t4 t5 t6 t7 t9 t10 t11, o = some (t1, t2, t3, t4, t5, t6, t7, false, t9, t10, t11)
def qBad (o : Option QH) : Prop := ∃ t1 t2 t3 t4 t5 t6 t7 t9 t10 t11, t11 ≠ 0 ∧ o = some (t1, t2, t3, t4, t5, t6, t7, t9, t10, t11)
def HBo (d : ByteArray) (o : Option PH) (o' : Option QH) : Prop :=
  (∃ (t1 t2 : Int) (t3 t4 : ByteArray) (t5 t6 t7 : Int) (q' : Int), o = some (t1, t2, t3, t4, t5, t6, t7, true, d, q', 0) ∧ o' = some (t1, t2, t3, t4, t5, t6, t7, d, q', 0)) ∨ (pBad o ∧ qBad o')
theorem qj2_err (d : ByteArray) (q e : Int) (he : e ≠ 0) (k : Nat) (hk : 1 < k) (x0 x1 : Int) (x2 x3 : ByteArray) (x4 x5 x6 : Int) : qBad (hopmeshref14_header.j2 k d q e x0 x1 x2 x3 x4 x5 x6) := by
  obtain ⟨k, rfl⟩ : ∃ a, k = a + 1 := ⟨k - 1, by omega⟩
  rw [hopmeshref14_header.j2, qfl_err d q e k he, Option.bind_some]
  dsimp only
  rw [if_neg (by decide)]
  exact ⟨_, _, _, _, _, _, _, _, _, _, he, bind_to (qe d q e he k (by omega) 6 6 (by decide) rfl) rfl⟩
theorem qj1_err (cs : List S26) (d : ByteArray) (q e : Int) (he : e ≠ 0) (k : Nat) (hk : 5 < k) (x0 x1 : Int) (x2 x3 : ByteArray) (x4 x5 x6 : Int) : qBad (hopmeshref14_header.j1 k cs d q e x0 x1 x2 x3 x4 x5 x6) := by
  obtain ⟨k, rfl⟩ : ∃ a, k = a + 1 := ⟨k - 1, by omega⟩
  obtain ⟨y1, h1⟩ := qa_err d q e he cs k (by omega)
  obtain ⟨a, b, h3⟩ := qp_err d q e he k (by omega)
  rw [j1_q, h1, Option.bind_some]
  dsimp only
  rw [h1, Option.bind_some]
  dsimp only
  rw [h3, Option.bind_some]
  exact qj2_err d q e he k (by omega) _ _ _ _ _ _ _
theorem qj0_err (cs : List S26) (d : ByteArray) (q e : Int) (he : e ≠ 0) (k : Nat) (hk : 6 < k) (x0 x1 : Int) (x2 x3 : ByteArray) (x4 x5 x6 : Int) : qBad (hopmeshref14_header.j0 k cs d q e x0 x1 x2 x3 x4 x5 x6) := by
  obtain ⟨k, rfl⟩ : ∃ a, k = a + 1 := ⟨k - 1, by omega⟩
  rw [hopmeshref14_header.j0, qe d q e he k (by omega) 2 2 (by decide) rfl, Option.bind_some]
  dsimp only
  rw [if_pos rfl, qe d q e he k (by omega) 8 8 (by decide) rfl, Option.bind_some]
  exact qj1_err cs d q e he k (by omega) _ _ _ _ _ _ _
section
variable (d : ByteArray) (hd : d.size ≤ 65536) (cs : List S26) (hs : ∀ i : Int, 0 ≤ i → i < (cs.length : Int) → (rd_T26 cs i).f0.size ≤ 4)
end
theorem pj1_of (d : ByteArray) (hd : d.size ≤ 65536) (cs : List S26) (k : Nat) (hk : 40 < k) (q e q1 e1 e2 : Int) (q2 : Nat) (hq2 : q2 ≤ 8 * d.size) (y1 y2 : ByteArray) (b1 b2 : Bool)
    (h1 : compress_readAddress.f k d q e cs = some (y1, b1, d, q1, e1)) (h2 : compress_readAddress.f k d q1 e1 cs = some (y2, b2, d, (q2 : Int), e2)) (hb : b1 = false ∨ b2 = false ∨ e2 ≠ 0)
    (x0 x1 : Int) (x2 x3 : ByteArray) (x4 x5 x6 : Int) : pBad (compress_read.j1 (k + 1) cs d q e x0 x1 x2 x3 x4 x5 x6) := by
  rw [compress_read.j1, h1, Option.bind_some]
  dsimp only
  rw [h2, Option.bind_some]
  dsimp only
  by_cases he : e2 = 0
  · subst he
    have hb : b1 = false ∨ b2 = false := by
      rcases hb with h | h | h
      · exact Or.inl h
      · exact Or.inr h
      · exact absurd rfl h
    obtain ⟨p1, p2, q3, e3, h3, hq3⟩ := rp_any d hd k (by omega) q2 hq2 0
    obtain ⟨b4, q4, e4, h4, hq4⟩ := fl_any d hd k (by omega) q3 hq3 e3
    rw [h3, Option.bind_some]
    dsimp only
    rw [h4, Option.bind_some]
    dsimp only
    cases b4 with
    | true =>
      obtain ⟨v5, q5, e5, h5, hq5, _⟩ := un_any d hd 12 (by decide) k (by omega) q4 hq4 e4
      rw [show ((12 : Nat) : Int) = 12 from rfl] at h5
      rw [if_pos rfl, h5, Option.bind_some]
      dsimp only
      rcases hb with h | h
      · subst h
        exact ⟨_, _, _, _, _, _, _, _, _, _, rfl⟩
      · subst h
        cases b1
        · exact ⟨_, _, _, _, _, _, _, _, _, _, rfl⟩
        · exact ⟨_, _, _, _, _, _, _, _, _, _, rfl⟩
    | false =>
      obtain ⟨v5, q5, e5, h5, hq5, _⟩ := un_any d hd 6 (by decide) k (by omega) q4 hq4 e4
      rw [show ((6 : Nat) : Int) = 6 from rfl] at h5
      rw [if_neg (by decide), h5, Option.bind_some]
      dsimp only
      rcases hb with h | h
      · subst h
        exact ⟨_, _, _, _, _, _, _, _, _, _, rfl⟩
      · subst h
        cases b1
        · exact ⟨_, _, _, _, _, _, _, _, _, _, rfl⟩
        · exact ⟨_, _, _, _, _, _, _, _, _, _, rfl⟩
  · obtain ⟨a, b, h3⟩ := pp_err d (q2 : Int) e2 he k
    rw [h3, Option.bind_some]
    dsimp only
    rw [fl_err d (q2 : Int) e2 k he, Option.bind_some]
    dsimp only
    rw [if_neg (by decide), ue d _ e2 he k 6 6 (by decide) rfl, Option.bind_some]
    dsimp only
    cases b1 with
    | false => exact ⟨_, _, _, _, _, _, _, _, _, _, rfl⟩
    | true =>
      cases b2 with
      | false => exact ⟨_, _, _, _, _, _, _, _, _, _, rfl⟩
      | true =>
        rw [if_pos rfl, if_pos rfl]
        have e0 : (e2 == 0) = false := by simpa using he
        have eE : ∀ F : Int × ByteArray × Int × Int → Option PH, (bitio_Reader_Err.f d (q2 : Int) e2).bind F = F (e2, d, (q2 : Int), e2) := fun F => rfl
        rw [eE]
        dsimp only
        rw [e0]
        exact ⟨_, _, _, _, _, _, _, _, _, _, rfl⟩
theorem pj1_err (d : ByteArray) (hd : d.size ≤ 65536) (cs : List S26) (hs : ∀ i : Int, 0 ≤ i → i < (cs.length : Int) → (rd_T26 cs i).f0.size ≤ 4) (k : Nat) (hk : 41 < k) (q : Nat) (hq : q ≤ 8 * d.size) (e : Int) (he : e ≠ 0) (x0 x1 : Int) (x2 x3 : ByteArray) (x4 x5 x6 : Int) : pBad (compress_read.j1 k cs d (q : Int) e x0 x1 x2 x3 x4 x5 x6) := by
  obtain ⟨k, rfl⟩ : ∃ a, k = a + 1 := ⟨k - 1, by omega⟩
  obtain ⟨y1, b1, h1⟩ := pa_err d (q : Int) e he cs hs k (by omega)
  exact pj1_of d hd cs k (by omega) (q : Int) e (q : Int) e e q hq y1 y1 b1 b1 h1 h1 (Or.inr (Or.inr he)) x0 x1 x2 x3 x4 x5 x6
theorem j1_both (d : ByteArray) (hd : d.size ≤ 65536) (cs : List S26) (hs : ∀ i : Int, 0 ≤ i → i < (cs.length : Int) → (rd_T26 cs i).f0.size ≤ 4) (k k' q : Nat) (hk : 42 < k) (hk' : 44 < k') (hq : q ≤ 8 * d.size) (x0 x1 : Int) (x2 x3 : ByteArray) (x4 x5 x6 : Int) :
    HBo d (compress_read.j1 k cs d (q : Int) 0 x0 x1 x2 x3 x4 x5 x6) (hopmeshref14_header.j1 k' cs d (q : Int) 0 x0 x1 x2 x3 x4 x5 x6) := by
  obtain ⟨k, rfl⟩ : ∃ a, k = a + 1 := ⟨k - 1, by omega⟩
  obtain ⟨k', rfl⟩ : ∃ a, k' = a + 2 := ⟨k' - 2, by omega⟩
  have n9 : (9 : Int) ≠ 0 := by decide
  rw [j1_q]
  rcases a_both d hd cs hs k (k' + 1) q (by omega) (by omega) hq with ⟨y1, q1, hq1, e1, f1⟩ | ⟨⟨y1, b1, q1, s1, hq1, hb1, e1⟩, ⟨z1, d1, r1, u1, hu1, f1⟩⟩
  · rw [f1, Option.bind_some]
    dsimp only
    rcases a_both d hd cs hs k (k' + 1) q1 (by omega) (by omega) hq1 with ⟨y2, q2, hq2, e2, f2⟩ | ⟨⟨y2, b2, q2, s2, hq2, hb2, e2⟩, ⟨z2, d2, r2, u2, hu2, f2⟩⟩
    · rw [f2, Option.bind_some]
      dsimp only
      rw [compress_read.j1, e1, Option.bind_some]
      dsimp only
      rw [e2, Option.bind_some]
      dsimp only
      rcases ports_both d hd k k' q2 (by omega) (by omega) hq2 with ⟨a, b, q3, hq3, e3, f3⟩ | ⟨⟨a, b, q3, s3, hq3, hs3, e3⟩, ⟨a', b', d3, r3, u3, hu3, f3⟩⟩
      · rw [f3, Option.bind_some, e3, Option.bind_some]
        dsimp only
        rw [hopmeshref14_header.j2]
        refine fl_seq d hd k k' (by omega) (by omega) q3 hq3 (P := HBo d) (fun bb hbb => ?_) ?_
        · dsimp only
          obtain ⟨k', rfl⟩ : ∃ a, k' = a + 1 := ⟨k' - 1, by omega⟩
          cases bb with
          | true =>
            rw [if_pos rfl, if_pos rfl]
            refine un_seq d hd 12 (by decide) k k' (by omega) (by omega) (q3 + 1) hbb 12 rfl (P := HBo d) (fun v4 q4 hq4 hv4 => ?_) ?_
            · exact Or.inl ⟨_, _, _, _, _, _, _, _, rfl, rfl⟩
            · exact Or.inr ⟨⟨_, _, _, _, _, _, _, _, _, _, rfl⟩, ⟨_, _, _, _, _, _, _, _, _, _, n9, rfl⟩⟩
          | false =>
            rw [if_neg (by decide), if_neg (by decide)]
            refine un_seq d hd 6 (by decide) k k' (by omega) (by omega) (q3 + 1) hbb 6 rfl (P := HBo d) (fun v4 q4 hq4 hv4 => ?_) ?_
            · exact Or.inl ⟨_, _, _, _, _, _, _, _, rfl, rfl⟩
            · exact Or.inr ⟨⟨_, _, _, _, _, _, _, _, _, _, rfl⟩, ⟨_, _, _, _, _, _, _, _, _, _, n9, rfl⟩⟩
        · dsimp only
          rw [if_neg (by decide), if_neg (by decide)]
          exact Or.inr ⟨⟨_, _, _, _, _, _, _, _, _, _, bind_to (ue d _ 9 n9 k 6 6 (by decide) rfl) rfl⟩, ⟨_, _, _, _, _, _, _, _, _, _, n9, bind_to (qe _ _ 9 n9 k' (by omega) 6 6 (by decide) rfl) rfl⟩⟩
      · rw [f3, Option.bind_some, e3, Option.bind_some]
        dsimp only
        refine Or.inr ⟨?_, qj2_err d3 r3 u3 hu3 _ (by omega) _ _ _ _ _ _ _⟩
        rw [fl_err d _ s3 k hs3, Option.bind_some]
        dsimp only
        rw [if_neg (by decide), ue d _ s3 hs3 k 6 6 (by decide) rfl, Option.bind_some]
        dsimp only
        have e0 : (s3 == 0) = false := by simpa using hs3
        have eE : ∀ F : Int × ByteArray × Int × Int → Option PH, (bitio_Reader_Err.f d (q3 : Int) s3).bind F = F (s3, d, (q3 : Int), s3) := fun F => rfl
        rw [if_pos rfl, if_pos rfl, eE]
        dsimp only
        rw [e0]
        exact ⟨_, _, _, _, _, _, _, _, _, _, rfl⟩
    · refine Or.inr ⟨pj1_of d hd cs k (by omega) _ 0 _ 0 s2 q2 hq2 y1 y2 true b2 e1 e2 (Or.inr hb2) _ _ _ _ _ _ _, ?_⟩
      rw [f2, Option.bind_some]
      dsimp only
      obtain ⟨a, b, h3⟩ := qp_err d2 r2 u2 hu2 (k' + 1) (by omega)
      rw [h3, Option.bind_some]
      exact qj2_err d2 r2 u2 hu2 _ (by omega) _ _ _ _ _ _ _
  · refine Or.inr ⟨?_, ?_⟩
    · by_cases h0 : s1 = 0
      · subst h0
        have hb : b1 = false := by
          rcases hb1 with h | h
          · exact h
          · exact absurd rfl h
        obtain ⟨y2, b2, q2, s2, h2, hq2⟩ := ra_any d hd cs hs k (by omega) q1 hq1 0
        exact pj1_of d hd cs k (by omega) _ 0 _ 0 s2 q2 hq2 y1 y2 b1 b2 e1 h2 (Or.inl hb) _ _ _ _ _ _ _
      · obtain ⟨y2, b2, h2⟩ := pa_err d (q1 : Int) s1 h0 cs hs k (by omega)
        exact pj1_of d hd cs k (by omega) _ 0 _ s1 s1 q1 hq1 y1 y2 b1 b2 e1 h2 (Or.inr (Or.inr h0)) _ _ _ _ _ _ _
    · rw [f1, Option.bind_some]
      dsimp only
      obtain ⟨y2, h2⟩ := qa_err d1 r1 u1 hu1 cs (k' + 1) (by omega)
      obtain ⟨a, b, h3⟩ := qp_err d1 r1 u1 hu1 (k' + 1) (by omega)
      rw [h2, Option.bind_some]
      dsimp only
      rw [h3, Option.bind_some]
      exact qj2_err d1 r1 u1 hu1 _ (by omega) _ _ _ _ _ _ _
theorem pj0_err (d : ByteArray) (hd : d.size ≤ 65536) (cs : List S26) (hs : ∀ i : Int, 0 ≤ i → i < (cs.length : Int) → (rd_T26 cs i).f0.size ≤ 4) (k : Nat) (hk : 42 < k) (q : Nat) (hq : q ≤ 8 * d.size) (e : Int) (he : e ≠ 0) (x0 x1 : Int) (x2 x3 : ByteArray) (x4 x5 x6 : Int) : pBad (compress_read.j0 k cs d (q : Int) e x0 x1 x2 x3 x4 x5 x6) := by
  obtain ⟨k, rfl⟩ : ∃ a, k = a + 1 := ⟨k - 1, by omega⟩
  have el : compress_limits.f = some [(-1), 1, 64, 255] := rfl
  rw [compress_read.j0, el, Option.bind_some, ue d _ e he k 2 2 (by decide) rfl, Option.bind_some]
  dsimp only
  rw [if_pos (by decide), if_pos (by decide), if_pos (by decide), ue d _ e he k 8 8 (by decide) rfl, Option.bind_some]
  exact pj1_err d hd cs hs k (by omega) q hq e he _ _ _ _ _ _ _
theorem j0_both (d : ByteArray) (hd : d.size ≤ 65536) (cs : List S26) (hs : ∀ i : Int, 0 ≤ i → i < (cs.length : Int) → (rd_T26 cs i).f0.size ≤ 4) (k k' q : Nat) (hk : 43 < k) (hk' : 46 < k') (hq : q ≤ 8 * d.size) (x0 x1 : Int) (x2 x3 : ByteArray) (x4 x5 x6 : Int) :
    HBo d (compress_read.j0 k cs d (q : Int) 0 x0 x1 x2 x3 x4 x5 x6) (hopmeshref14_header.j0 k' cs d (q : Int) 0 x0 x1 x2 x3 x4 x5 x6) := by
  obtain ⟨k, rfl⟩ : ∃ a, k = a + 1 := ⟨k - 1, by omega⟩
  obtain ⟨k', rfl⟩ : ∃ a, k' = a + 2 := ⟨k' - 2, by omega⟩
  have n9 : (9 : Int) ≠ 0 := by decide
  have el : compress_limits.f = some [(-1), 1, 64, 255] := rfl
  rw [compress_read.j0, hopmeshref14_header.j0, el, Option.bind_some]
  refine un_seq d hd 2 (by decide) k k' (by omega) (by omega) q hq 2 rfl (P := HBo d) (fun v q1 hq1 hv => ?_) ?_
  · dsimp only
    have J := fun (y1 : Int) => j1_both d hd cs hs k (k' + 1) q1 (by omega) (by omega) hq1 x0 y1 x2 x3 x4 x5 x6
    have hv4 : v < 4 := by simpa using hv
    obtain rfl | rfl | rfl | rfl : v = 0 ∨ v = 1 ∨ v = 2 ∨ v = 3 := by omega
    · rw [if_pos (by decide), if_pos (by decide), if_pos (by decide), if_pos (by decide)]
      refine un_seq d hd 8 (by decide) k k' (by omega) (by omega) q1 hq1 8 rfl (P := HBo d) (fun v2 q2 hq2 hv2 => ?_) ?_
      · exact j1_both d hd cs hs k (k' + 1) q2 (by omega) (by omega) hq2 x0 _ x2 x3 x4 x5 x6
      · exact Or.inr ⟨pj1_err d hd cs hs k (by omega) q1 hq1 9 n9 _ _ _ _ _ _ _, qj1_err cs _ _ 9 n9 _ (by omega) _ _ _ _ _ _ _⟩
    · rw [if_pos (by decide), if_pos (by decide), if_neg (by decide), if_neg (by decide), if_pos (by decide)]
      exact J 1
    · rw [if_pos (by decide), if_pos (by decide), if_neg (by decide), if_neg (by decide), if_neg (by decide), if_pos (by decide)]
      exact J 64
    · rw [if_pos (by decide), if_pos (by decide), if_neg (by decide), if_neg (by decide), if_neg (by decide), if_neg (by decide)]
      exact J 255
  · dsimp only
    rw [if_pos (by decide), if_pos (by decide), if_pos (by decide), if_pos rfl, ue d _ 9 n9 k 8 8 (by decide) rfl, qe _ _ 9 n9 (k' + 1) (by omega) 8 8 (by decide) rfl, Option.bind_some, Option.bind_some]
    exact Or.inr ⟨pj1_err d hd cs hs k (by omega) q hq 9 n9 _ _ _ _ _ _ _, qj1_err cs _ _ 9 n9 _ (by omega) _ _ _ _ _ _ _⟩
theorem head_both (d : ByteArray) (hd : d.size ≤ 65536) (cs : List S26) (hs : ∀ i : Int, 0 ≤ i → i < (cs.length : Int) → (rd_T26 cs i).f0.size ≤ 4) (k k' : Nat) (hk : 50 < k) (hk' : 50 < k') :
    HBo d (compress_read.f k cs d 0 0) (hopmeshref14_header.f k' d 0 0 cs) := by
  obtain ⟨k', rfl⟩ : ∃ a, k' = a + 1 := ⟨k' - 1, by omega⟩
  have n9 : (9 : Int) ≠ 0 := by decide
  unfold compress_read.f hopmeshref14_header.f
  refine fl_seq d hd k (k' + 1) (by omega) (by omega) 0 (Nat.zero_le _) (P := HBo d) (fun b hb => ?_) ?_
  · dsimp only
    cases b with
    | true =>
      rw [if_pos rfl, if_pos rfl]
      refine un_seq d hd 8 (by decide) k k' (by omega) (by omega) (0 + 1) hb 8 rfl (P := HBo d) (fun v2 q2 hq2 hv2 => ?_) ?_
      · exact j0_both d hd cs hs k (k' + 1) q2 (by omega) (by omega) hq2 _ _ _ _ _ _ _
      · exact Or.inr ⟨pj0_err d hd cs hs k (by omega) (0 + 1) hb 9 n9 _ _ _ _ _ _ _, qj0_err cs _ _ 9 n9 _ (by omega) _ _ _ _ _ _ _⟩
    | false =>
      rw [if_neg (by decide), if_neg (by decide)]
      exact j0_both d hd cs hs k (k' + 1) (0 + 1) (by omega) (by omega) hb _ _ _ _ _ _ _
  · dsimp only
    rw [if_neg (by decide), if_neg (by decide)]
    exact Or.inr ⟨pj0_err d hd cs hs k (by omega) 0 (Nat.zero_le _) 9 n9 _ _ _ _ _ _ _, qj0_err cs _ _ 9 n9 _ (by omega) _ _ _ _ _ _ _⟩
end Go.Proofs.Ytmbbijhppgkdfaa.P14

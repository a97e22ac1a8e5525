/- bitio.Writer's methods: what each writes, and what is read off it. -/
import Derived.Test.YtmbbijhppgkdfaaGput
import Derived.Shelf.Small.Bits
namespace Go.Proofs.Ytmbbijhppgkdfaa.P14
open Go.RowKit Go.Proofs.YtmbbijhppgkdfaaW.PrintWords Go.Proofs.YtmbbijhppgkdfaaW.PrintLast Go.Proofs.YtmbbijhppgkdfaaW.PrintMore
attribute [local go_sem] max2_int min2_int max_two min_two max_three min_three max_four min_four
set_option linter.unusedVariables false
set_option linter.unusedSimpArgs false
open Go.Proofs
def blen_ren : Shelf.Ren := ⟨fun | 125 => 91 | 128 => 102 | 129 => 103 | n => n, fun | 46 => 115 | 3 => 3 | 51 => 123 | 53 => 116 | 4 => 4 | 5 => 5 | 9 => 9 | n => n, fun | n => n⟩
theorem blen_lay : Lays.n125 Try.prog blen_ren where
  mixed := by kernel_rfl
  f125 := Try.func91.trans (congrArg some (by kernel_rfl))
  f128 := Try.func102.trans (congrArg some (by kernel_rfl))
  f129 := Try.func103.trans (congrArg some (by kernel_rfl))
  t3 := Try.underlying3
  a3 := Try.isAgg3
  z3 := Try.sizeOf3
  v3 := Try.zeroValue3
  t4 := Try.underlying4
  a4 := Try.isAgg4
  z4 := Try.sizeOf4
  v4 := Try.zeroValue4
  t5 := Try.underlying5
  a5 := Try.isAgg5
  z5 := Try.sizeOf5
  v5 := Try.zeroValue5
  t9 := Try.underlying9
  a9 := Try.isAgg9
  z9 := Try.sizeOf9
  v9 := Try.zeroValue9
  t46 := Try.underlying115
  a46 := Try.isAgg115
  z46 := Try.sizeOf115
  v46 := Try.zeroValue115
  t51 := Try.underlying123
  a51 := Try.isAgg123
  z51 := Try.sizeOf123
  v51 := Try.zeroValue123
  t53 := Try.underlying116
  a53 := Try.isAgg116
  z53 := Try.sizeOf116
  v53 := Try.zeroValue116
theorem bitLen_le (w : Nat) : ∀ x : Nat, w ≤ 63 → x < 2 ^ w → Lib.bitLen x ≤ w := by
  induction w with
  | zero =>
    intro x _ hx
    have : x = 0 := by simpa using hx
    subst this
    decide
  | succ w ih =>
    intro x hw hx
    by_cases h0 : x = 0
    · subst h0
      exact Nat.le_trans (by decide : Lib.bitLen 0 ≤ 0) (Nat.zero_le _)
    · have h64 : x < 2 ^ 64 := Nat.lt_of_lt_of_le hx (Nat.pow_le_pow_right (by decide) (by omega))
      rw [Lib.bitLen_half x h0 h64]
      have := ih (x / 2) (by omega) (by rw [Nat.pow_succ] at hx; omega)
      omega
theorem len_calls (x : Nat) (W : World) (hx : x < 18446744073709551616) : Calls Try.prog 91 #[.int .u64 (x : Int)] W fun e w' => e = .returned (.int .i64 (Lib.bitLen x : Nat)) ∧ W = w' := by
  have h := Any.bits_Len blen_lay (x : Int) W (by omega) (by omega)
  rw [Int.toNat_natCast] at h
  exact h.mono fun e w' h => ⟨h.1, h.2.symm⟩
def WPost (w0 : World) (p : Nat) (l : List Bool) (W : World) (e : Ending) (W' : World) : Prop := e = .returned (.tuple #[]) ∧ Wr w0 p l W' ∧ Eff w0 p W W'
set_option maxRecDepth 100000 in
set_option maxHeartbeats 1600000 in
theorem field_calls (width n : Nat) (w0 : World) (p : Nat) (l : List Bool) (W : World) (hp : w0.heap.size ≤ p) (hB : Below w0.heap.size w0 W) (hWr : Wr w0 p l W) (hw : width ≤ 63) (hn : n < 9223372036854775808) (hl : l.length + width ≤ 524288) :
    Calls Try.prog 90 #[.pointer (some ⟨p, 0, none⟩), .bool true, .bool true, .int .i64 (width : Int), .int .i64 (n : Int)] W (WPost w0 p (l ++ bitsOf width n) W) := by
  have HC := Aside0.mk (put_calls w0 p width n l W hw (by omega) hl hp hB hWr)
  obtain ⟨v, hb, _⟩ := hWr.ex
  have z1 := (blk_cell hb 1).trans rfl
  have z2 := (blk_cell hb 2).trans rfl
  have hw0 : (0 : Int) ≤ (width : Int) := by omega
  have hn0 : (0 : Int) ≤ (n : Int) := by omega
  have hlt : ¬ ((l.length : Int) + (width : Int) > 524288) := by omega
  have hld : decide ((l.length : Int) + (width : Int) > 524288) = false := decide_eq_false hlt
  have hwn : IntKind.u64.wrap (n : Int) = n := by simp [IntKind.wrap, IntKind.bits, IntKind.signed]; omega
  clear hb hWr hB hp
  go_enter Try.func90, Try.ntmps90
  go_wp2_with fail
  with_reducible refine HC.out.mono ?_
  rintro e W' ⟨rfl, h1, h2⟩
  have H := Aside0.mk (And.intro h1 h2)
  clear h1 h2 HC
  go_wp2_with fail
  go_end0
  exact ⟨rfl, H.out.1, H.out.2⟩
set_option maxRecDepth 100000 in
set_option maxHeartbeats 1600000 in
theorem unsigned_calls (width n : Nat) (w0 : World) (p : Nat) (l : List Bool) (W : World) (hp : w0.heap.size ≤ p) (hB : Below w0.heap.size w0 W) (hWr : Wr w0 p l W) (hw : 1 ≤ width ∧ width ≤ 62) (hn : n < 2 ^ width) (hl : l.length + width ≤ 524288) :
    Calls Try.prog 61 #[.pointer (some ⟨p, 0, none⟩), .int .i64 (width : Int), .int .i64 (n : Int)] W (WPost w0 p (l ++ bitsOf width n) W) := by
  have h62 : n < 4611686018427387904 := Nat.lt_of_lt_of_le hn (Nat.pow_le_pow_right (by decide) hw.2)
  have HC := Aside0.mk (field_calls width n w0 p l W hp hB hWr (by omega) (by omega) hl)
  have HL := Aside0.mk (len_calls n W (by omega))
  have hbl := bitLen_le width n (by omega) hn
  have hw1 : (1 : Int) ≤ (width : Int) := by omega
  have hw2 : (width : Int) ≤ 63 := by omega
  have hn0 : (0 : Int) ≤ (n : Int) := by omega
  have hwn : IntKind.u64.wrap (n : Int) = n := by simp [IntKind.wrap, IntKind.bits, IntKind.signed]; omega
  generalize Lib.bitLen n = b at HL hbl
  have hbl2 : (b : Int) ≤ (width : Int) := by omega
  clear hWr hB hp hn hl h62 hw hbl
  go_enter Try.func61, Try.ntmps61
  go_wp2_with fail
  with_reducible refine HL.out.mono ?_
  rintro e w1 ⟨rfl, rfl⟩
  go_wp2_with fail
  with_reducible refine HC.out.mono ?_
  rintro e W' ⟨rfl, h1, h2⟩
  have H := Aside0.mk (And.intro h1 h2)
  clear h1 h2 HC
  go_wp2_with fail
  go_end0
  exact ⟨rfl, H.out.1, H.out.2⟩
theorem bitsOf_flag (b : Bool) : bitsOf 1 (if b = true then 1 else 0) = [b] := by cases b <;> rfl
set_option maxRecDepth 100000 in
set_option maxHeartbeats 1600000 in
theorem flag_calls (b : Bool) (w0 : World) (p : Nat) (l : List Bool) (W : World) (hp : w0.heap.size ≤ p) (hB : Below w0.heap.size w0 W) (hWr : Wr w0 p l W) (hl : l.length + 1 ≤ 524288) :
    Calls Try.prog 60 #[.pointer (some ⟨p, 0, none⟩), .bool b] W (WPost w0 p (l ++ [b]) W) := by
  have HC := Aside0.mk (field_calls 1 (if b = true then 1 else 0) w0 p l W hp hB hWr (by omega) (by cases b <;> decide) hl)
  rw [bitsOf_flag] at HC
  clear hWr hB hp hl
  cases b with
  | true =>
    rw [if_pos rfl] at HC
    go_enter Try.func60, Try.ntmps60
    go_wp2_with fail
    refine HC.out.mono ?_
    rintro e W' ⟨rfl, h1, h2⟩
    have H := Aside0.mk (And.intro h1 h2)
    clear h1 h2 HC
    go_wp2_with fail
    go_end0
    exact ⟨rfl, H.out.1, H.out.2⟩
  | false =>
    rw [if_neg (by decide)] at HC
    go_enter Try.func60, Try.ntmps60
    go_wp2_with fail
    refine HC.out.mono ?_
    rintro e W' ⟨rfl, h1, h2⟩
    have H := Aside0.mk (And.intro h1 h2)
    clear h1 h2 HC
    go_wp2_with fail
    go_end0
    exact ⟨rfl, H.out.1, H.out.2⟩
theorem new_calls (w0 W : World) (hB : Below w0.heap.size w0 W) : Calls Try.prog 58 #[] W fun e W' => ∃ p, e = .returned (.pointer (some ⟨p, 0, none⟩)) ∧ W.heap.size ≤ p ∧ Wr w0 p [] W' ∧ Below W.heap.size W W' := by
  have HB := Aside0.mk hB
  clear hB
  go_enter Try.func58, Try.ntmps58
  go_wp2_with fail
  go_ret
  exact ⟨W.heap.size, rfl, Nat.le_refl _, ⟨⟨.slice none 0 0, blk_new W _, Kd.R_nil _ _ _ _ _⟩⟩, below_alloc (Below.refl _ _) _⟩
theorem bits_calls (w0 : World) (p : Nat) (l : List Bool) (W : World) (hp : w0.heap.size ≤ p) (hB : Below w0.heap.size w0 W) (hWr : Wr w0 p l W) : Calls Try.prog 35 #[.pointer (some ⟨p, 0, none⟩)] W fun e W' => e = .returned (.int .i64 (l.length : Int)) ∧ W = W' := by
  obtain ⟨v, hb, _⟩ := hWr.ex
  have z1 := (blk_cell hb 1).trans rfl
  clear hb hWr hB hp
  go_enter Try.func35, Try.ntmps35
  go_wp2_with fail
  go_ret
  exact ⟨rfl, rfl⟩
set_option maxRecDepth 100000 in
theorem bytes_calls (w0 : World) (p : Nat) (l : List Bool) (W : World) (hp : w0.heap.size ≤ p) (hB : Below w0.heap.size w0 W) (hWr : Wr w0 p l W) : Calls Try.prog 37 #[.pointer (some ⟨p, 0, none⟩)] W fun e W' => e = .returned (.tuple #[.string (strOfNums (pack l)), .int .i64 0]) ∧ W = W' := by
  obtain ⟨v, hb, hr⟩ := hWr.ex
  obtain ⟨A, c, e, _, hC⟩ := Kd.R_reads hr
  subst e
  have hcv : ∀ w : World, w = W → (convert 92 9 (.slice A (pack l).length c)).run Try.prog w = .ok (.string (strOfNums (pack l))) w := fun w e => by
    subst e
    exact Kd.C_string Try.underlying92 Try.underlying5 Try.underlying9 hC
  have hcv := hcv W rfl
  have z0 := (blk_cell hb 0).trans rfl
  have z2 := (blk_cell hb 2).trans rfl
  generalize strOfNums (pack l) = S at hcv ⊢
  generalize (pack l).length = n at hcv z0
  clear hb hr hC hWr hB hp
  go_enter Try.func37, Try.ntmps37
  go_wp2_with fail
  go_ret2
  exact ⟨rfl, rfl⟩
end Go.Proofs.Ytmbbijhppgkdfaa.P14

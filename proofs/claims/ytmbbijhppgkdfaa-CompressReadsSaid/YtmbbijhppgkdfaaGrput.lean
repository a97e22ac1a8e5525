/- hopmeshref02.Writer: what it holds, and what put writes: the bits of a number, a byte for each. -/
import Derived.Test.YtmbbijhppgkdfaaGwr
import Derived.Deep.RegionLaw
namespace Go.Proofs.Ytmbbijhppgkdfaa.P14
open Go.RowKit Go.Proofs.YtmbbijhppgkdfaaW.PrintWords Go.Proofs.YtmbbijhppgkdfaaW.PrintLast Go.Proofs.YtmbbijhppgkdfaaW.PrintMore
attribute [local go_sem] max2_int min2_int max_two min_two max_three min_three max_four min_four
set_option linter.unusedVariables false
set_option linter.unusedSimpArgs false

/-- The reference's writer holds the bits l. -/
structure Wr2 (w0 : World) (p : Nat) (l : List Bool) (W : World) : Prop where
  ex : ∃ v, W.heap[p]? = some (.cells #[v, .int .i64 0] 99 (0, 0)) ∧ Kd.R (Kd.int .u8) 5 W w0.heap.size (fun k => k ≠ p) v (l.map bi)
theorem Wr2.step {w0 W W' : World} {p : Nat} {l : List Bool} (h : Wr2 w0 p l W) (hb : Below W.heap.size W W') : Wr2 w0 p l W' := by
  obtain ⟨v, h1, h2⟩ := h.ex
  exact ⟨⟨v, blk_below h1 hb, Kd.R_below h2 hb⟩⟩
def WPost2 (w0 : World) (p : Nat) (l : List Bool) (W : World) (e : Ending) (W' : World) : Prop := e = .returned (.tuple #[]) ∧ Wr2 w0 p l W' ∧ Eff w0 p W W'
theorem WPost2.of {w0 W W' W2 : World} {p : Nat} {l : List Bool} {e : Ending} (h : Eff w0 p W W') (k : WPost2 w0 p l W' e W2) : WPost2 w0 p l W e W2 := ⟨k.1, k.2.1, h.trans k.2.2⟩
theorem new2_calls (w0 W : World) (hB : Below w0.heap.size w0 W) : Calls Try.prog 72 #[] W fun e W' => ∃ p, e = .returned (.pointer (some ⟨p, 0, none⟩)) ∧ W.heap.size ≤ p ∧ Wr2 w0 p [] W' ∧ Below W.heap.size W W' := by
  have HB := Aside0.mk hB
  clear hB
  go_enter Try.func72, Try.ntmps72
  go_wp2_with fail
  go_ret
  exact ⟨W.heap.size, rfl, Nat.le_refl _, ⟨⟨.slice none 0 0, blk_new W _, Kd.R_nil _ _ _ _ _⟩⟩, below_alloc (Below.refl _ _) _⟩
set_option maxRecDepth 100000 in
set_option maxHeartbeats 1600000 in
theorem room2_calls (n : Nat) (w0 : World) (p : Nat) (l : List Bool) (W : World) (hWr : Wr2 w0 p l W) (hl : l.length + n ≤ 524288) :
    Calls Try.prog 94 #[.pointer (some ⟨p, 0, none⟩), .int .i64 (n : Int)] W fun e W' => e = .returned (.bool true) ∧ W = W' := by
  obtain ⟨v, hb, hr⟩ := hWr.ex
  obtain ⟨A, c, e, _, _⟩ := Kd.R_reads hr
  subst e
  rw [List.length_map] at hb
  have z0 := (blk_cell hb 0).trans rfl
  have z1 := (blk_cell hb 1).trans rfl
  have hn0 : (0 : Int) ≤ (n : Int) := by omega
  have hlt : ¬ ((l.length : Int) + (n : Int) > 524288) := by omega
  have hld : decide ((l.length : Int) + (n : Int) > 524288) = false := decide_eq_false hlt
  clear hb hr hWr
  go_enter Try.func94, Try.ntmps94
  go_wp2_with fail
  go_ret
  exact ⟨rfl, rfl⟩
theorem bit_valI (n : Nat) (i : Nat) (hn : n < 4611686018427387904) : IntKind.u8.wrap (bits .and .i64 ((n : Int) / 2 ^ i) 1) = bi (n.testBit i) := by
  have h1 : (n : Int) / 2 ^ i = ((n / 2 ^ i : Nat) : Int) := by simp
  rw [h1]
  have h2 : bits .and .i64 ((n / 2 ^ i : Nat) : Int) 1 = ((n / 2 ^ i % 2 : Nat) : Int) := by
    have hle : n / 2 ^ i ≤ n := Nat.div_le_self _ _
    generalize n / 2 ^ i = a at hle ⊢
    have e62 : (2 : Int) ^ 62 = 4611686018427387904 := by decide
    have hw : ∀ x : Int, 0 ≤ x → x < 2 ^ 62 → IntKind.i64.wrap x = x := by
      intro x h0 h1
      rw [e62] at h1
      exact IntWalk.i64_in _ (by omega)
    have h := bits_mask .i64 62 (by decide) hw 1 (by decide) (a : Int) (by omega) (by rw [e62]; omega)
    rw [show ((2 : Int) ^ 1 - 1) = 1 by decide] at h
    rw [h]
    omega
  rw [h2, Nat.testBit_eq_decide_div_mod_eq]
  rcases Nat.mod_two_eq_zero_or_one (n / 2 ^ i) with e | e <;> rw [e] <;> decide
set_option maxRecDepth 100000 in
set_option maxHeartbeats 3200000 in
theorem put2_calls (w0 : World) (p width n : Nat) (l : List Bool) (W : World) (hw : width ≤ 62) (hn : n < 4611686018427387904) (hl : l.length + width ≤ 524288) (hp : w0.heap.size ≤ p) (hB : Below w0.heap.size w0 W) (hWr : Wr2 w0 p l W) :
    Calls Try.prog 95 #[.pointer (some ⟨p, 0, none⟩), .int .i64 (width : Int), .int .i64 (n : Int)] W (WPost2 w0 p (l ++ bitsOf width n) W) := by
  have HW := Aside0.mk hWr
  have HEf := Aside0.mk (Eff.refl (p := p) hB)
  have HP := Aside0.mk hp
  clear hWr hB hp
  go_enter Try.func95, Try.ntmps95
  go_wp2_with fail
  go_loopg [6] width (fun gg v6 wr => ∃ (j : Nat), v6 = .int .i64 ((width : Int) - 1 - (j : Int)) ∧ Aside0 (j ≤ width ∧ width - j ≤ gg) ∧ Aside0 (Wr2 w0 p (l ++ (bitsOf width n).take j) wr) ∧ Aside0 (Eff w0 p W wr))
  case atStart => exact ⟨0, by go_num, ⟨by omega, by omega⟩, ⟨by simpa using HW.out⟩, HEf⟩
  case round =>
    clear HW HEf
    obtain ⟨j, rfl, HJ, HW, EF⟩ := hrel
    obtain ⟨hj1, hj2⟩ := HJ.out
    by_cases hlt : j < width
    · have htk := bitsOf_take width n j hlt
      have HT : Aside0 (l ++ (bitsOf width n).take (j + 1) = (l ++ (bitsOf width n).take j) ++ [n.testBit (width - 1 - j)]) := ⟨by rw [htk, List.append_assoc]⟩
      have hkl : (l ++ (bitsOf width n).take j).length = l.length + j := by rw [List.length_append, List.length_take, bitsOf_len]; omega
      generalize l ++ (bitsOf width n).take j = m at HW HT hkl
      clear htk
      obtain ⟨v, hbp, hrv⟩ := HW.out.ex
      obtain ⟨I, hI⟩ : ∃ I : Nat, (width : Int) - 1 - (j : Int) = (I : Int) := ⟨width - 1 - j, by omega⟩
      have HI : Aside0 (I = width - 1 - j) := ⟨by omega⟩
      have HLT := Aside0.mk hlt
      rw [hI]
      have hIb : I ≤ 62 := by omega
      have I0 : (0 : Int) ≤ (I : Int) := by omega
      have HML : Aside0 (m.length ≤ 524288) := ⟨by omega⟩
      obtain ⟨A0, c0, e0⟩ := Kd.R_slice hrv
      subst e0
      rw [List.length_map] at hbp hrv
      have BP := Aside0.mk hbp
      have RV := Aside0.mk hrv
      clear hbp hrv HW hkl hI hlt hj1 hj2
      have z0 := (blk_cell BP.out 0).trans rfl
      have f0 := blk_frozen BP.out 0
      go_wp2_with fail
      have hbv := bit_valI n I hn
      obtain ⟨B, hB⟩ : ∃ B, B = bi (n.testBit I) := ⟨_, rfl⟩
      rw [← hB] at hbv
      have HB := Aside0.mk hB
      clear hB
      have hpl := blk_lt BP.out
      have RD := Aside0.mk (drew_R RV.out)
      have ED := Aside0.mk (EF.out.step (below_drew1 (Below.refl _ _)))
      have BD := Aside0.mk (blk_drew BP.out)
      go_region_law (refine Kd.R_append_step (Kd.int .u8) (w0 := w0) (W := wr.drew) w0.heap.size ?hw (.tmp 17) (.tmp 23) 92 5 (.int .u8 0) 1 rfl Try.underlying92 info5 rfl (by decide) (by omega) _ (m.map bi) B [.int .u8 B] (fun k => k ≠ p) (fun _ => False) rfl rfl ?aP (fun _ h => h.elim) ?aF ?aO ?aB ?aS ?aL ?_; (case aP => exact rfl); (case hw => rfl); (case aO => exact RD.out); (case aF => intro k hk; have := blk_lt BD.out; omega); (case aB => exact ED.out.below); (case aS => exact ED.out.below.size); (case aL => have := HML.out; simp; omega); intro v3 w3 ho hb hg hat; have Q3 := Aside0.mk ho; have E3 := Aside0.mk (ED.out.grown hg RD.out); have B3 := Aside0.mk (blk_grown BD.out hg (fun e => (RD.out.1 p e.symm) rfl)); clear ho hb hg hat; obtain ⟨A3, c3, e3⟩ := Kd.R_slice Q3.out; rw [show (m.map bi ++ [B]).length = m.length + 1 by simp] at e3; subst e3; have zq0 := (blk_cell B3.out 0).trans rfl; have fq0 := blk_frozen B3.out 0)
      all_goals
        have Q8 := Aside0.mk (Kd.R_far (p := ⟨p, 0, none⟩) Q3.out (fun _ hk => hk) (.slice A3 (m.length + 1) c3))
        have B8 := Aside0.mk (blk_put B3.out 0 (.slice A3 (m.length + 1) c3) rfl)
        have E8 := Aside0.mk (E3.out.put HP.out 0 (.slice A3 (m.length + 1) c3))
        clear Q3 B3 E3 zq0 fq0 hbv
        go_wp2_with fail
        go_roundg (width - (j + 1))
        case measure => have := HJ.out; have := HLT.out; omega
        case rel =>
          have hlt := HLT.out
          have hjj := HJ.out
          have hii := HI.out
          refine ⟨j + 1, by go_num, ⟨by omega, by omega⟩, ⟨?_⟩, E8⟩
          rw [HT.out]
          refine ⟨⟨.slice A3 (m.length + 1) c3, B8.out, ?_⟩⟩
          rw [List.map_append, List.map_singleton, ← hii, ← HB.out]
          exact Q8.out
    · have hjw : j = width := by omega
      subst hjw
      have hn1 : ¬ (0 : Int) ≤ (j : Int) - 1 - (j : Int) := by omega
      have e1 : (bitsOf j n).take j = bitsOf j n := List.take_of_length_le (by rw [bitsOf_len]; exact Nat.le_refl _)
      rw [e1] at HW
      go_wp2_with fail
      go_end0
      exact ⟨rfl, HW.out, EF.out⟩
set_option maxRecDepth 100000 in
set_option maxHeartbeats 1600000 in
theorem flag2_calls (b : Bool) (w0 : World) (p : Nat) (l : List Bool) (W : World) (hp : w0.heap.size ≤ p) (hB : Below w0.heap.size w0 W) (hWr : Wr2 w0 p l W) (hl : l.length + 1 ≤ 524288) :
    Calls Try.prog 73 #[.pointer (some ⟨p, 0, none⟩), .bool b] W (WPost2 w0 p (l ++ [b]) W) := by
  have HR := Aside0.mk (room2_calls 1 w0 p l W hWr hl)
  obtain ⟨v, hbp, hrv⟩ := hWr.ex
  obtain ⟨A0, c0, e0⟩ := Kd.R_slice hrv
  subst e0
  rw [List.length_map] at hbp hrv
  have HML : Aside0 (l.length ≤ 524288) := ⟨by omega⟩
  have HP := Aside0.mk hp
  have BP := Aside0.mk hbp
  have RV := Aside0.mk hrv
  have EF := Aside0.mk (Eff.refl (p := p) hB)
  clear hbp hrv hWr hB hp hl
  have z0 := (blk_cell BP.out 0).trans rfl
  have f0 := blk_frozen BP.out 0
  cases b with
  | true =>
    go_enter Try.func73, Try.ntmps73
    go_wp2_with (first | (go_at_call 94; refine HR.out.mono ?_; rintro e w1 ⟨rfl, rfl⟩; clear HR) | ((with_reducible refine gate_builtin (b := .append) (xs := #[.tmp 12, .tmp 13]) rfl ?_); at_builtin; refine Kd.R_append (Kd.int .u8) (w0 := w0) w0.heap.size rfl (.tmp 12) (.tmp 13) 92 5 (.int .u8 0) 1 rfl Try.underlying92 info5 rfl (by decide) (by omega) _ (l.map bi) (bi true) [.int .u8 1] (fun k => k ≠ p) (fun _ => False) rfl (by first | (go_simp; done) | (go_simp; rfl)) ?aP (fun _ hk => hk.elim) ?aF ?aO ?aB ?aS ?aL ?_; (case aP => exact rfl); (case aO => exact RV.out); (case aF => intro k hk; have := blk_lt BP.out; omega); (case aB => exact EF.out.below); (case aS => exact EF.out.below.size); (case aL => have := HML.out; simp; omega); intro v9 w9 ho hb9 hg9 hat; have R9 := Aside0.mk ho; have EF9 := Aside0.mk (EF.out.grown hg9 RV.out); have BP9 := Aside0.mk (blk_grown BP.out hg9 (fun e => (RV.out.1 p e.symm) rfl)); clear ho hb9 hg9 hat; obtain ⟨A9, c9, e9⟩ := Kd.R_slice R9.out; rw [show (l.map bi ++ [bi true]).length = l.length + 1 by simp] at e9; subst e9; have zq0 := (blk_cell BP9.out 0).trans rfl; have fq0 := blk_frozen BP9.out 0))
    have R8 := Aside0.mk (Kd.R_far (p := ⟨p, 0, none⟩) R9.out (fun _ hk => hk) (.slice A9 (l.length + 1) c9))
    have B8 := Aside0.mk (blk_put BP9.out 0 (.slice A9 (l.length + 1) c9) rfl)
    have E8 := Aside0.mk (EF9.out.put HP.out 0 (.slice A9 (l.length + 1) c9))
    go_end0
    exact ⟨rfl, ⟨⟨_, B8.out, by rw [List.map_append]; exact R8.out⟩⟩, E8.out⟩
  | false =>
    go_enter Try.func73, Try.ntmps73
    go_wp2_with (first | (go_at_call 94; refine HR.out.mono ?_; rintro e w1 ⟨rfl, rfl⟩; clear HR) | ((with_reducible refine gate_builtin (b := .append) (xs := #[.tmp 21, .tmp 22]) rfl ?_); at_builtin; refine Kd.R_append (Kd.int .u8) (w0 := w0) w0.heap.size rfl (.tmp 21) (.tmp 22) 92 5 (.int .u8 0) 1 rfl Try.underlying92 info5 rfl (by decide) (by omega) _ (l.map bi) (bi false) [.int .u8 0] (fun k => k ≠ p) (fun _ => False) rfl (by first | (go_simp; done) | (go_simp; rfl)) ?aP (fun _ hk => hk.elim) ?aF ?aO ?aB ?aS ?aL ?_; (case aP => exact rfl); (case aO => exact RV.out); (case aF => intro k hk; have := blk_lt BP.out; omega); (case aB => exact EF.out.below); (case aS => exact EF.out.below.size); (case aL => have := HML.out; simp; omega); intro v9 w9 ho hb9 hg9 hat; have R9 := Aside0.mk ho; have EF9 := Aside0.mk (EF.out.grown hg9 RV.out); have BP9 := Aside0.mk (blk_grown BP.out hg9 (fun e => (RV.out.1 p e.symm) rfl)); clear ho hb9 hg9 hat; obtain ⟨A9, c9, e9⟩ := Kd.R_slice R9.out; rw [show (l.map bi ++ [bi false]).length = l.length + 1 by simp] at e9; subst e9; have zq0 := (blk_cell BP9.out 0).trans rfl; have fq0 := blk_frozen BP9.out 0))
    have R8 := Aside0.mk (Kd.R_far (p := ⟨p, 0, none⟩) R9.out (fun _ hk => hk) (.slice A9 (l.length + 1) c9))
    have B8 := Aside0.mk (blk_put BP9.out 0 (.slice A9 (l.length + 1) c9) rfl)
    have E8 := Aside0.mk (EF9.out.put HP.out 0 (.slice A9 (l.length + 1) c9))
    go_end0
    exact ⟨rfl, ⟨⟨_, B8.out, by rw [List.map_append]; exact R8.out⟩⟩, E8.out⟩
set_option maxRecDepth 100000 in
set_option maxHeartbeats 1600000 in
theorem uns2_calls (width n : Nat) (w0 : World) (p : Nat) (l : List Bool) (W : World) (hp : w0.heap.size ≤ p) (hB : Below w0.heap.size w0 W) (hWr : Wr2 w0 p l W) (hw : 1 ≤ width ∧ width ≤ 61) (hn : n < 2 ^ width) (hl : l.length + width ≤ 524288) :
    Calls Try.prog 74 #[.pointer (some ⟨p, 0, none⟩), .int .i64 (width : Int), .int .i64 (n : Int)] W (WPost2 w0 p (l ++ bitsOf width n) W) := by
  have h61 : (2 : Nat) ^ width ≤ 2 ^ 61 := Nat.pow_le_pow_right (by decide) hw.2
  have e61 : (2 : Nat) ^ 61 = 2305843009213693952 := by decide
  have HR := Aside0.mk (room2_calls width w0 p l W hWr hl)
  have HC := Aside0.mk (put2_calls w0 p width n l W (by omega) (by omega) hl hp hB hWr)
  obtain ⟨v, hb, _⟩ := hWr.ex
  have z1 := (blk_cell hb 1).trans rfl
  have hw0 : (1 : Int) ≤ (width : Int) := by omega
  have hw1 : (width : Int) < 63 := by omega
  have hw2 : ¬ (63 : Int) < (width : Int) := by omega
  have hn0 : (0 : Int) ≤ (n : Int) := by omega
  have hws : (n : Int) < wrap64 (2 ^ width) := by
    have e : ((2 ^ width : Nat) : Int) = (2 : Int) ^ width := by simp
    rw [← e]
    clear e
    generalize (2 : Nat) ^ width = X at hn h61
    unfold wrap64
    omega
  have hwt : ¬ (wrap64 (2 ^ width) ≤ (n : Int)) := by omega
  have hwd : decide (wrap64 (2 ^ width) ≤ (n : Int)) = false := decide_eq_false hwt
  have hnd : decide ((n : Int) < 0) = false := decide_eq_false (by omega)
  clear hb hWr hB hp hl h61 hn e61
  go_enter Try.func74, Try.ntmps74
  go_wp2_with fail
  with_reducible refine HR.out.mono ?_
  rintro e w1 ⟨rfl, rfl⟩
  go_wp2_with fail
  with_reducible refine HC.out.mono ?_
  rintro e W' ⟨rfl, h1, h2⟩
  have H := Aside0.mk (And.intro h1 h2)
  clear h1 h2 HC
  go_wp2_with fail
  go_end0
  exact ⟨rfl, H.out.1, H.out.2⟩
theorem bits2_calls (w0 : World) (p : Nat) (l : List Bool) (W : World) (hWr : Wr2 w0 p l W) : Calls Try.prog 40 #[.pointer (some ⟨p, 0, none⟩)] W fun e W' => e = .returned (.int .i64 (l.length : Int)) ∧ W = W' := by
  obtain ⟨v, hb, hr⟩ := hWr.ex
  obtain ⟨A, c, e, _, _⟩ := Kd.R_reads hr
  subst e
  rw [List.length_map] at hb
  have z0 := (blk_cell hb 0).trans rfl
  clear hb hr hWr
  go_enter Try.func40, Try.ntmps40
  go_wp2_with fail
  go_ret
  exact ⟨rfl, rfl⟩
end Go.Proofs.Ytmbbijhppgkdfaa.P14

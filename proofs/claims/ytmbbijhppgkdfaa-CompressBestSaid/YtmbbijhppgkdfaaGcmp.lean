/- cmp.Compare, cmp.Or and the comparison of compress.Best. -/
import Derived.Test.YtmbbijhppgkdfaaTcount
import Derived.Test.YtmbbijhppgkdfaaP140
import Derived.Maps.OwnOps
import Derived.WalkLawsBesides
import Derived.StringKeys
import Derived.Sort.Grow
namespace Go.Proofs.Ytmbbijhppgkdfaa.P14
open Go.RowKit Go.Proofs.YtmbbijhppgkdfaaW.PrintWords Go.Proofs.YtmbbijhppgkdfaaW.PrintLast Go.Proofs.YtmbbijhppgkdfaaW.PrintMore
attribute [local go_sem] max2_int min2_int max_two min_two max_three min_three max_four min_four
set_option linter.unusedVariables false
set_option linter.unusedSimpArgs false
open Go.Sort Go.Proofs Go.Maps Go.WideMaps

theorem nan88 (a : Int) (w : World) : Calls Try.prog 88 #[.int .i64 a] w fun e w' => e = .returned (.bool false) ∧ w = w' := by
  go_enter Try.func88, Try.ntmps88
  go_wp2_with fail
  go_ret
  exact ⟨by simp, rfl⟩
theorem cmp55 (a b : Int) (w : World) : Calls Try.prog 55 #[.int .i64 a, .int .i64 b] w fun e w' => e = .returned (.int .i64 (cmpN a b)) ∧ w = w' := by
  rcases Int.lt_trichotomy a b with h | h | h
  · have e : cmpN a b = -1 := by unfold cmpN; rw [if_pos h]
    rw [e]
    go_enter Try.func55, Try.ntmps55
    go_wp2_with (go_at_call 88; refine (nan88 _ _).mono ?_; rintro e w' ⟨rfl, rfl⟩)
    go_ret
    exact ⟨rfl, rfl⟩
  · have e : cmpN a b = 0 := by unfold cmpN; rw [if_neg (by omega), if_neg (by omega)]
    rw [e]
    have h1 : ¬ a < b := by omega
    have h2 : ¬ b < a := by omega
    clear h e
    go_enter Try.func55, Try.ntmps55
    go_wp2_with (go_at_call 88; refine (nan88 _ _).mono ?_; rintro e w' ⟨rfl, rfl⟩)
    go_ret
    exact ⟨rfl, rfl⟩
  · have e : cmpN a b = 1 := by unfold cmpN; rw [if_neg (by omega), if_pos h]
    rw [e]
    have h1 : ¬ a < b := by omega
    clear e
    go_enter Try.func55, Try.ntmps55
    go_wp2_with (go_at_call 88; refine (nan88 _ _).mono ?_; rintro e w' ⟨rfl, rfl⟩)
    go_ret
    exact ⟨rfl, rfl⟩
theorem nan89 (a : ByteArray) (w : World) : Calls Try.prog 89 #[.string a] w fun e w' => e = .returned (.bool false) ∧ w = w' := by
  go_enter Try.func89, Try.ntmps89
  go_wp2_with fail
  go_ret
  exact ⟨by simp, rfl⟩
theorem cmp56 (a b : ByteArray) (w : World) : Calls Try.prog 56 #[.string a, .string b] w fun e w' => e = .returned (.int .i64 (cmpL a.data.toList b.data.toList)) ∧ w = w' := by
  have hl : Op.bytesLess a.toList b.toList = decide (a.data.toList < b.data.toList) := by rw [ByteArray.toList_eq, ByteArray.toList_eq]; exact bytesLess_eq _ _
  have hg : Op.bytesLess b.toList a.toList = decide (b.data.toList < a.data.toList) := by rw [ByteArray.toList_eq, ByteArray.toList_eq]; exact bytesLess_eq _ _
  unfold cmpL
  by_cases h1 : a.data.toList < b.data.toList
  · rw [if_pos h1]
    rw [decide_eq_true h1] at hl
    clear hg h1
    go_enter Try.func56, Try.ntmps56
    go_wp2_with (go_at_call 89; refine (nan89 _ _).mono ?_; rintro e w' ⟨rfl, rfl⟩)
    go_ret
    exact ⟨rfl, rfl⟩
  · rw [if_neg h1]
    rw [decide_eq_false h1] at hl
    by_cases h2 : b.data.toList < a.data.toList
    · rw [if_pos h2]
      rw [decide_eq_true h2] at hg
      have hne : (a.toList == b.toList) = false := by
        rw [ByteArray.toList_eq, ByteArray.toList_eq]
        simp only [beq_eq_false_iff_ne]
        intro e
        rw [e] at h2
        exact ltL_irr _ h2
      clear h1 h2
      go_enter Try.func56, Try.ntmps56
      go_wp2_with (go_at_call 89; refine (nan89 _ _).mono ?_; rintro e w' ⟨rfl, rfl⟩)
      go_ret
      exact ⟨rfl, rfl⟩
    · rw [if_neg h2]
      rw [decide_eq_false h2] at hg
      have hne : (a.toList == b.toList) = true := by
        rw [ByteArray.toList_eq, ByteArray.toList_eq, ltL_tri _ _ h1 h2]
        simp
      clear h1 h2
      go_enter Try.func56, Try.ntmps56
      go_wp2_with (go_at_call 89; refine (nan89 _ _).mono ?_; rintro e w' ⟨rfl, rfl⟩)
      go_ret
      exact ⟨rfl, rfl⟩
set_option maxHeartbeats 1000000 in
theorem or54 (g : Nat) (x y : Int) (w : World) (h0 : w.cell? ⟨g, 0, none⟩ = some (.int .i64 x)) (h1 : w.cell? ⟨g, 1, none⟩ = some (.int .i64 y)) :
    Calls Try.prog 54 #[.slice (some ⟨g, 0, none⟩) 2 2] w fun e w' => e = .returned (.int .i64 (if x ≠ 0 then x else y)) ∧ w = w' := by
  have HX : Aside0 (x = 0 ∨ x ≠ 0) := ⟨by omega⟩
  have HY : Aside0 (y = 0 ∨ y ≠ 0) := ⟨by omega⟩
  rcases HX.out with rfl | hx
  · rcases HY.out with rfl | hy
    · clear HX HY
      go_enter Try.func54, Try.ntmps54
      go_wp2_with fail
      refine wp_loop_rounds 3 ?_
      rw [rounds_succ]
      go_wp2_with fail
      rw [rounds_succ]
      go_wp2_with fail
      rw [rounds_succ]
      go_wp2_with fail
      go_ret
      exact ⟨rfl, rfl⟩
    · have hyb : (y != 0) = true := bne_iff_ne.mpr hy
      rw [if_neg (by simp)]
      clear HX HY
      go_enter Try.func54, Try.ntmps54
      go_wp2_with fail
      refine wp_loop_rounds 3 ?_
      rw [rounds_succ]
      go_wp2_with fail
      rw [rounds_succ]
      go_wp2_with fail
      go_ret
      exact ⟨rfl, rfl⟩
  · have hxb : (x != 0) = true := bne_iff_ne.mpr hx
    rw [if_pos hx]
    clear HX HY
    go_enter Try.func54, Try.ntmps54
    go_wp2_with fail
    refine wp_loop_rounds 3 ?_
    rw [rounds_succ]
    go_wp2_with fail
    go_ret
    exact ⟨rfl, rfl⟩
theorem law9 : Keyed Try.prog 9 := string_keyed Try.underlying9
theorem zero3 (w : World) : (zeroValue 3).run Try.prog w = .ok (.int .i64 0) w := by kernel_rfl
set_option maxHeartbeats 1000000 in
set_option maxRecDepth 100000 in
theorem clos53 (a b : ByteArray) (Bc bm n : Nat) (D : DM) (occ : List (List UInt8)) (W : World) (hB : W.cell? ⟨Bc, 0, none⟩ = some (.map (some bm))) (hown : W.ownsMap Try.prog 9 (plainElem Try.prog 3) bm n D) (hD : Cnt D occ) (ha : a.size ≤ maxLen) (hb : b.size ≤ maxLen) :
    Calls Try.prog 53 #[.string a, .string b, .pointer (some ⟨Bc, 0, none⟩)] W fun e w' => e = .returned (.int .i64 (cfB occ a.data.toList b.data.toList)) ∧ ∃ q os', w' = grow (W.drewN q) os' := by
  obtain ⟨ca, la, ta, _⟩ := hown.lookup_int law9 Try.underlying73 Try.underlying3 (zero3 _) (key := .string a) (keyOf_string_mk Try.underlying9 ha)
  obtain ⟨cb, lb, tb, _⟩ := hown.lookup_int law9 Try.underlying73 Try.underlying3 (zero3 _) (key := .string b) (keyOf_string_mk Try.underlying9 hb)
  rw [hD.at] at ta tb
  have ea : ca = (occ.count a.data.toList : Int) := by injection ta with ta; injection ta with _ ta; exact ta.symm
  have eb : cb = (occ.count b.data.toList : Int) := by injection tb with tb; injection tb with _ tb; exact tb.symm
  have HR : Aside0 (cfB occ a.data.toList b.data.toList = if cmpN cb ca ≠ 0 then cmpN cb ca else cmpL a.data.toList b.data.toList) := ⟨by rw [ea, eb]; rfl⟩
  rw [HR.out]
  have C0 := Aside0.mk (fun W => cmp55 cb ca W)
  have C1 := Aside0.mk (fun W => cmp56 a b W)
  generalize cmpN cb ca = x at C0 ⊢
  generalize cmpL a.data.toList b.data.toList = y at C1 ⊢
  have C2 := Aside0.mk (or54 W.heap.size x y)
  generalize (if x ≠ 0 then x else y) = r at C2 ⊢
  clear hown hD ta tb ea eb HR
  go_enter Try.func53, Try.ntmps53
  go_wp2_with (first | (go_at_call 55; ((with_reducible refine (C0.out _).mono ?_); (rintro e w' ⟨rfl, rfl⟩))) | (go_at_call 56; ((with_reducible refine (C1.out _).mono ?_); (rintro e w' ⟨rfl, rfl⟩))) | (go_at_call 54; ((refine (C2.out _ (by go_simp) (by go_simp)).mono ?_); (rintro e w' ⟨rfl, rfl⟩))))
  go_ret
  exact ⟨rfl, 0, _, alloc_eq_grow _ _⟩
end Go.Proofs.Ytmbbijhppgkdfaa.P14

/- conflict.Pairs: what it answers: the pairs that cannot be together, sorted by the library. -/
import Derived.Test.YtibgcekekmphoaaGcmp
import Derived.Test.YtibgcekekmphoaaP34N
import Derived.Test.YtibgcekekmphoaaP34Tg
import Derived.Deep.QuietTactic
import Derived.BigQuiet
import Derived.Test.YtibgcekekmphoaaP340
import Derived.Shelf.SlSortCmp.NoneTotal
namespace Go.Proofs.Ytibgcekekmphoaa.P34
open Go.RowKit Go.Proofs.YtibgcekekmphoaaW.PrintWords Go.Proofs.YtibgcekekmphoaaW.PrintLast Go.Proofs.YtibgcekekmphoaaW.PrintMore
open Go.Sort Go.Proofs
set_option linter.unusedVariables false
set_option linter.unusedSimpArgs false

section
variable {α : Type} [Inhabited α] {d : Kd α} {enc : α → List Value} {e base g n cap m : Nat} {ok : Nat → Prop} {w : World} {xs ts : List α} {os : Array Obj}
theorem flat_at (hk : ∀ x, (enc x).length = d.sz) (hs : 0 < d.sz) (ts : List α) (j : Nat) (hj : j < ts.length) : ((flatK enc d.sz ts.toArray).toList.drop (j * d.sz)).take d.sz = enc ts[j] := by
  have hle : j * d.sz + d.sz ≤ ts.length * d.sz := by
    have := Nat.mul_le_mul_right d.sz (show j + 1 ≤ ts.length from hj)
    rw [Nat.add_mul, Nat.one_mul] at this
    exact this
  apply List.ext_getElem?
  intro i
  by_cases hi : i < d.sz
  · rw [List.getElem?_take_of_lt hi, List.getElem?_drop, Array.getElem?_toList]
    have ht : j * d.sz + i < ts.toArray.size * d.sz := by simp; omega
    have h1 := get_flatK enc d.sz ts.toArray (j * d.sz + i) ht
    have e1 : (j * d.sz + i) / d.sz = j := by
      rw [Nat.mul_comm, Nat.mul_add_div hs, Nat.div_eq_of_lt hi, Nat.add_zero]
    have e2 : (j * d.sz + i) % d.sz = i := by rw [Nat.mul_comm, Nat.mul_add_mod, Nat.mod_eq_of_lt hi]
    rw [e1, e2] at h1
    have h2 : ts.toArray[j]! = ts[j] := by simp [hj]
    rw [h2] at h1
    have hi' : i < (enc ts[j]).length := by rw [hk]; exact hi
    rw [getElem!_pos (enc ts[j]) i hi'] at h1
    have hz : j * d.sz + i < (flatK enc d.sz ts.toArray).size := by rw [size_flatK]; exact ht
    rw [getElem!_pos (flatK enc d.sz ts.toArray) _ hz] at h1
    rw [Array.getElem?_eq_getElem hz, h1, List.getElem?_eq_getElem hi']
  · rw [List.getElem?_take_eq_none (by omega), List.getElem?_eq_none (by rw [hk]; omega)]
theorem reps_flat (hk : ∀ x, (enc x).length = d.sz) (hs : 0 < d.sz) {R : α → List Value → Prop} (hR : ∀ x, R x (enc x)) (ts : List α) : Reps R d.sz ts (flatK enc d.sz ts.toArray).toList := by
  refine ⟨by simp, fun j p hj => ?_⟩
  obtain ⟨hl, hp⟩ := List.getElem?_eq_some_iff.1 hj
  rw [flat_at hk hs ts j hl, hp]
  exact hR p
theorem holds_of_R (hk : ∀ x, (enc x).length = d.sz) (hs : 0 < d.sz) (hK : ∀ w x cs, d.K w x cs → cs = enc x) (h : d.R e w base ok (.slice (some ⟨g, 0, none⟩) n cap) xs) :
    HoldsK enc d.sz w g 0 xs.toArray ∧ g < w.heap.size ∧ n = xs.length := by
  obtain ⟨_, inner, ⟨hl, hf⟩, hr, hat⟩ := h
  rcases hf with ⟨he, _⟩ | ⟨g', cap', cur, he, hb, hh, hn, hc, hz, ht⟩
  · cases he
  injection he with e1 e2 e3
  injection e1 with e1
  injection e1 with e1
  subst e1
  subst e2
  refine ⟨fun t hlt => ?_, (Array.getElem?_eq_some_iff.1 hh).1, rfl⟩
  have hlt' : t < xs.length * d.sz := by simpa using hlt
  have hj : t / d.sz < xs.length := Nat.div_lt_of_lt_mul (by rw [Nat.mul_comm]; exact hlt')
  have hi : t % d.sz < d.sz := Nat.mod_lt _ hs
  have hd : t / d.sz * d.sz + t % d.sz = t := by rw [Nat.mul_comm]; exact Nat.div_add_mod t d.sz
  refine ⟨?_, by simp [World.frozen?, hh]⟩
  have hx := hK w xs[t / d.sz] _ (d.K_of_M (hat (t / d.sz) _ (List.getElem?_eq_getElem hj)))
  have h1 : cur.toList[t]? = (enc xs[t / d.sz])[t % d.sz]? := by
    rw [← hx, List.getElem?_take_of_lt hi, List.getElem?_drop, hd, ← ht, List.getElem?_take_of_lt hlt']
  have h2 := get_flatK enc d.sz xs.toArray t (by simpa using hlt')
  have h3 : xs.toArray[t / d.sz]! = xs[t / d.sz] := by simp [hj]
  rw [h3, getElem!_pos (enc xs[t / d.sz]) _ (by rw [hk]; exact hi)] at h2
  show w.cell? ⟨g, 0 + t, none⟩ = some (id (flatK enc d.sz xs.toArray)[t]!)
  rw [Nat.zero_add, cell_of_row w g t cur e (0, 0) hh, h2, ← Array.getElem?_toList, h1, List.getElem?_eq_getElem (by rw [hk]; exact hi)]
  rfl
theorem R_sorted (hk : ∀ x, (enc x).length = d.sz) (hs : 0 < d.sz) (hM : ∀ w base ok x, d.M w base ok x (enc x)) (h : d.R e w base ok (.slice (some ⟨g, 0, none⟩) n cap) xs) (hl : ts.length = xs.length) :
    d.R e (sortWorldK enc d.sz w g 0 m ts.toArray os) base ok (.slice (some ⟨g, 0, none⟩) n cap) ts ∧ w.grownBy (sortWorldK enc d.sz w g 0 m ts.toArray os) (some g) := by
  obtain ⟨h0, inner, ⟨hli, hf⟩, hr⟩ := h
  rcases hf with ⟨he, _⟩ | ⟨g', cap', cur, he, hb, hh, hn, hc, hz, ht⟩
  · cases he
  injection he with e1 e2 e3
  injection e1 with e1
  injection e1 with e1
  subst e1
  subst e2
  subst e3
  have hg : g < w.heap.size := (Array.getElem?_eq_some_iff.1 hh).1
  have hnew : (sortWorldK enc d.sz w g 0 m ts.toArray os).heap[g]? = some (.cells (putCells id 0 (flatK enc d.sz ts.toArray) cur) e (0, 0)) := by
    unfold sortWorldK putRowK
    rw [heap_grow_old _ _ (by simpa [putRow, mapBlock, Sort.ahead] using hg)]
    simp [putRow, mapBlock, Sort.ahead, Array.getElem?_modify, hh, onCells]
  refine ⟨⟨h0, (flatK enc d.sz ts.toArray).toList, ⟨by simp, .inr ⟨g, cap, _, by rw [hl], hb, hnew, by omega, hc, by simp [putCells, hz], ?_⟩⟩, reps_flat hk hs (fun x => hM _ _ _ x) ts⟩, rfl, rfl, rfl, ?_, fun k hk' hne => ?_⟩
  · have hsz : ts.length * d.sz ≤ cur.size := by rw [hz, hl]; exact Nat.mul_le_mul_right _ hn
    apply List.ext_getElem?
    intro j
    by_cases hj : j < ts.length * d.sz
    · rw [List.getElem?_take_of_lt hj, Array.getElem?_toList, Array.getElem?_toList]
      have h2 : j < (flatK enc d.sz ts.toArray).size := by simpa using hj
      simp [putCells, hj, show j < cur.size by omega]
    · rw [List.getElem?_take_eq_none (by omega), List.getElem?_eq_none (by simp; omega)]
  · simp [sortWorldK, putRowK, putRow, mapBlock, Sort.ahead]
  · unfold sortWorldK putRowK
    rw [heap_grow_old _ _ (by simpa [putRow, mapBlock, Sort.ahead] using hk')]
    have : g ≠ k := fun e => hne (by rw [e])
    simp [putRow, mapBlock, Sort.ahead, Array.getElem?_modify, this]
end
end Go.Proofs.Ytibgcekekmphoaa.P34
namespace Go.Proofs.Ytibgcekekmphoaa.P34
open Go.RowKit Go.Proofs.YtibgcekekmphoaaW.PrintWords Go.Proofs.YtibgcekekmphoaaW.PrintLast Go.Proofs.YtibgcekekmphoaaW.PrintMore
attribute [local go_sem] max2_int min2_int max_two min_two max_three min_three max_four min_four
set_option linter.unusedVariables false
set_option linter.unusedSimpArgs false
open Go.Sort Go.Proofs
def sortP_ren : Shelf.Ren := ⟨fun | 6 => 57 | 15 => 80 | 14 => 79 | 28 => 93 | 29 => 94 | 20 => 85 | 21 => 86 | 22 => 87 | 23 => 88 | 24 => 89 | 25 => 90 | 26 => 91 | 27 => 92 | 46 => 95 | 47 => 96 | 48 => 97 | 49 => 98 | 50 => 99 | 57 => 100 | n => n, fun | 22 => 58 | 24 => 63 | 25 => 79 | 3 => 3 | 39 => 90 | 0 => 0 | 53 => 103 | 55 => 105 | 4 => 4 | 46 => 97 | 45 => 96 | 50 => 45 | 5 => 5 | 9 => 9 | 66 => 106 | 70 => 110 | 76 => 112 | 77 => 113 | n => n, fun | n => n⟩
theorem sortP_lay : SlLaysF0.n6 Try.prog sortP_ren where
  mixed := by kernel_rfl
  f6 := ⟨"slices.SortFunc[[][2]int,[2]int]", by decide, Try.func57.trans (congrArg some (by kernel_rfl))⟩
  f14 := ⟨"slices.pdqsortCmpFunc[[2]int]", by decide, Try.func79.trans (congrArg some (by kernel_rfl))⟩
  f15 := Try.func80.trans (congrArg some (by kernel_rfl))
  f20 := ⟨"slices.insertionSortCmpFunc[[2]int]", by decide, Try.func85.trans (congrArg some (by kernel_rfl))⟩
  f21 := ⟨"slices.heapSortCmpFunc[[2]int]", by decide, Try.func86.trans (congrArg some (by kernel_rfl))⟩
  f22 := ⟨"slices.breakPatternsCmpFunc[[2]int]", by decide, Try.func87.trans (congrArg some (by kernel_rfl))⟩
  f23 := ⟨"slices.choosePivotCmpFunc[[2]int]", by decide, Try.func88.trans (congrArg some (by kernel_rfl))⟩
  f24 := ⟨"slices.reverseRangeCmpFunc[[2]int]", by decide, Try.func89.trans (congrArg some (by kernel_rfl))⟩
  f25 := ⟨"slices.partialInsertionSortCmpFunc[[2]int]", by decide, Try.func90.trans (congrArg some (by kernel_rfl))⟩
  f26 := ⟨"slices.partitionEqualCmpFunc[[2]int]", by decide, Try.func91.trans (congrArg some (by kernel_rfl))⟩
  f27 := ⟨"slices.partitionCmpFunc[[2]int]", by decide, Try.func92.trans (congrArg some (by kernel_rfl))⟩
  f28 := Try.func93.trans (congrArg some (by kernel_rfl))
  f29 := Try.func94.trans (congrArg some (by kernel_rfl))
  f46 := ⟨"slices.siftDownCmpFunc[[2]int]", by decide, Try.func95.trans (congrArg some (by kernel_rfl))⟩
  f47 := Try.func96.trans (congrArg some (by kernel_rfl))
  f48 := Try.func97.trans (congrArg some (by kernel_rfl))
  f49 := ⟨"slices.medianAdjacentCmpFunc[[2]int]", by decide, Try.func98.trans (congrArg some (by kernel_rfl))⟩
  f50 := ⟨"slices.medianCmpFunc[[2]int]", by decide, Try.func99.trans (congrArg some (by kernel_rfl))⟩
  f57 := ⟨"slices.order2CmpFunc[[2]int]", by decide, Try.func100.trans (congrArg some (by kernel_rfl))⟩
  t0 := Try.underlying0
  a0 := Try.isAgg0
  z0 := Try.sizeOf0
  v0 := Try.zeroValue0
  t3 := Try.underlying3
  a3 := Try.isAgg3
  z3 := Try.sizeOf3
  v3 := Try.zeroValue3
  t4 := Try.underlying4
  a4 := Try.isAgg4
  z4 := Try.sizeOf4
  v4 := Try.zeroValue4
  t5 := Try.underlying5
  a5 := Try.isAgg5
  z5 := Try.sizeOf5
  v5 := Try.zeroValue5
  t9 := Try.underlying9
  a9 := Try.isAgg9
  z9 := Try.sizeOf9
  v9 := Try.zeroValue9
  t22 := Try.underlying58
  a22 := Try.isAgg58
  z22 := Try.sizeOf58
  v22 := Try.zeroValue58
  t25 := Try.underlying79
  a25 := Try.isAgg79
  z25 := Try.sizeOf79
  v25 := Try.zeroValue79
  t39 := Try.underlying90
  a39 := Try.isAgg90
  z39 := Try.sizeOf90
  v39 := Try.zeroValue90
  t45 := Try.underlying96
  a45 := Try.isAgg96
  z45 := Try.sizeOf96
  v45 := Try.zeroValue96
  t46 := Try.underlying97
  a46 := Try.isAgg97
  z46 := Try.sizeOf97
  v46 := Try.zeroValue97
  t50 := Try.underlying45
  a50 := Try.isAgg45
  z50 := Try.sizeOf45
  v50 := Try.zeroValue45
  t53 := Try.underlying103
  a53 := Try.isAgg103
  z53 := Try.sizeOf103
  v53 := Try.zeroValue103
  t55 := Try.underlying105
  a55 := Try.isAgg105
  z55 := Try.sizeOf105
  v55 := Try.zeroValue105
  t66 := Try.underlying106
  a66 := Try.isAgg106
  z66 := Try.sizeOf106
  v66 := Try.zeroValue106
  t70 := Try.underlying110
  a70 := Try.isAgg110
  z70 := Try.sizeOf110
  v70 := Try.zeroValue110
  t76 := Try.underlying112
  a76 := Try.isAgg112
  z76 := Try.sizeOf112
  v76 := Try.zeroValue112
  t77 := Try.underlying113
  a77 := Try.isAgg113
  z77 := Try.sizeOf113
  v77 := Try.zeroValue113
theorem nan78 (a : Int) (w : World) : Calls Try.prog 78 #[.int .i64 a] w fun e w' => e = .returned (.bool false) ∧ w = w' := by
  go_enter Try.func78, Try.ntmps78
  go_wp2_with fail
  go_ret
  exact ⟨by simp, rfl⟩
theorem cmp81 (a b : Int) (w : World) : Calls Try.prog 81 #[.int .i64 a, .int .i64 b] w fun e w' => e = .returned (.int .i64 (cmpI a b)) ∧ w = w' := by
  rcases Int.lt_trichotomy a b with h | h | h
  · have e : cmpI a b = -1 := by unfold cmpI; rw [if_pos h]
    rw [e]
    go_enter Try.func81, Try.ntmps81
    go_wp2_with (go_at_call 78; refine (nan78 _ _).mono ?_; rintro e w' ⟨rfl, rfl⟩)
    go_ret
    exact ⟨rfl, rfl⟩
  · have e : cmpI a b = 0 := by unfold cmpI; rw [if_neg (by omega), if_neg (by omega)]
    rw [e]
    have h1 : ¬ a < b := by omega
    have h2 : ¬ b < a := by omega
    clear h e
    go_enter Try.func81, Try.ntmps81
    go_wp2_with (go_at_call 78; refine (nan78 _ _).mono ?_; rintro e w' ⟨rfl, rfl⟩)
    go_ret
    exact ⟨rfl, rfl⟩
  · have e : cmpI a b = 1 := by unfold cmpI; rw [if_neg (by omega), if_pos h]
    rw [e]
    have h1 : ¬ a < b := by omega
    clear e
    go_enter Try.func81, Try.ntmps81
    go_wp2_with (go_at_call 78; refine (nan78 _ _).mono ?_; rintro e w' ⟨rfl, rfl⟩)
    go_ret
    exact ⟨rfl, rfl⟩
set_option maxHeartbeats 1000000 in
theorem cmp59 (p q : Nat) (a0 a1 b0 b1 : Int) (w : World) (h0 : w.cell? ⟨p, 0, none⟩ = some (.int .i64 a0)) (h1 : w.cell? ⟨p, 1, none⟩ = some (.int .i64 a1)) (k0 : w.cell? ⟨q, 0, none⟩ = some (.int .i64 b0)) (k1 : w.cell? ⟨q, 1, none⟩ = some (.int .i64 b1)) :
    Calls Try.prog 59 #[.slice (some ⟨p, 0, none⟩) 2 2, .slice (some ⟨q, 0, none⟩) 2 2] w fun e w' => e = .returned (.int .i64 (cmpL a0 a1 b0 b1)) ∧ w = w' := by
  have C0 := Aside0.mk (fun W => cmp81 a0 b0 W)
  have C1 := Aside0.mk (fun W => cmp81 a1 b1 W)
  unfold cmpL or2
  generalize cmpI a0 b0 = x at C0 ⊢
  generalize cmpI a1 b1 = y at C1 ⊢
  have HX : Aside0 (x = 0 ∨ x ≠ 0) := ⟨by omega⟩
  have HY : Aside0 (y = 0 ∨ y ≠ 0) := ⟨by omega⟩
  rcases HX.out with rfl | hx
  · rcases HY.out with rfl | hy
    · clear HX HY
      go_enter Try.func59, Try.ntmps59
      go_wp2_with fail
      refine wp_loop_rounds 3 ?_
      rw [rounds_succ]
      go_wp2_with (first | (go_at_call 81; ((with_reducible refine (C0.out _).mono ?_); (rintro e w' ⟨rfl, rfl⟩))) | (go_at_call 81; ((with_reducible refine (C1.out _).mono ?_); (rintro e w' ⟨rfl, rfl⟩))))
      rw [rounds_succ]
      go_wp2_with (first | (go_at_call 81; ((with_reducible refine (C0.out _).mono ?_); (rintro e w' ⟨rfl, rfl⟩))) | (go_at_call 81; ((with_reducible refine (C1.out _).mono ?_); (rintro e w' ⟨rfl, rfl⟩))))
      rw [rounds_succ]
      go_wp2_with (first | (go_at_call 81; ((with_reducible refine (C0.out _).mono ?_); (rintro e w' ⟨rfl, rfl⟩))) | (go_at_call 81; ((with_reducible refine (C1.out _).mono ?_); (rintro e w' ⟨rfl, rfl⟩))))
      go_ret
      exact ⟨rfl, rfl⟩
    · have hyb : (y != 0) = true := bne_iff_ne.mpr hy
      rw [if_neg (by simp)]
      clear HX HY
      go_enter Try.func59, Try.ntmps59
      go_wp2_with fail
      refine wp_loop_rounds 3 ?_
      rw [rounds_succ]
      go_wp2_with (first | (go_at_call 81; ((with_reducible refine (C0.out _).mono ?_); (rintro e w' ⟨rfl, rfl⟩))) | (go_at_call 81; ((with_reducible refine (C1.out _).mono ?_); (rintro e w' ⟨rfl, rfl⟩))))
      rw [rounds_succ]
      go_wp2_with (first | (go_at_call 81; ((with_reducible refine (C0.out _).mono ?_); (rintro e w' ⟨rfl, rfl⟩))) | (go_at_call 81; ((with_reducible refine (C1.out _).mono ?_); (rintro e w' ⟨rfl, rfl⟩))))
      go_ret
      exact ⟨rfl, rfl⟩
  · have hxb : (x != 0) = true := bne_iff_ne.mpr hx
    rw [if_pos hx]
    clear HX HY
    go_enter Try.func59, Try.ntmps59
    go_wp2_with fail
    refine wp_loop_rounds 3 ?_
    rw [rounds_succ]
    go_wp2_with (first | (go_at_call 81; ((with_reducible refine (C0.out _).mono ?_); (rintro e w' ⟨rfl, rfl⟩))) | (go_at_call 81; ((with_reducible refine (C1.out _).mono ?_); (rintro e w' ⟨rfl, rfl⟩))))
    go_ret
    exact ⟨rfl, rfl⟩
set_option maxHeartbeats 1000000 in
theorem cmp58 (x y : S63) (W : World) : Calls Try.prog 58 #[.agg #[.int .i64 x.f0, .int .i64 x.f1], .agg #[.int .i64 y.f0, .int .i64 y.f1]] W fun e w' => e = .returned (.int .i64 (cmpL x.f0 x.f1 y.f0 y.f1)) ∧ ∃ q os', w' = grow (W.drewN q) os' := by
  have C := Aside0.mk (cmp59 W.heap.size (W.heap.size + 1) x.f0 x.f1 y.f0 y.f1)
  generalize cmpL x.f0 x.f1 y.f0 y.f1 = r at C ⊢
  go_enter Try.func58, Try.ntmps58
  go_wp2_with fail
  go_quiet ((go_at_call 59; exact Calls.quiet_of_same ((C.out _ (by go_simp) (by go_simp) (by go_simp) (by go_simp)).mono fun _ _ h => ⟨h.1, h.2.symm⟩)))
  go_wp2_with fail
  go_ret
  exact ⟨rfl, nq, _, by rw [alloc_eq_grow, alloc_eq_grow, grow_grow]; rfl⟩

def encP (x : S63) : List Value := [.int .i64 x.f0, .int .i64 x.f1]
def cmpP (x y : S63) : Int := cmpL x.f0 x.f1 y.f0 y.f1
theorem ltP (x y : S63) : ltOf cmpP x y = decide (x.f0 < y.f0 ∨ (x.f0 = y.f0 ∧ x.f1 < y.f1)) := by
  unfold ltOf cmpP cmpL or2 cmpI
  by_cases h1 : x.f0 < y.f0
  · simp [h1]
  · by_cases h2 : y.f0 < x.f0
    · simp [h1, h2]
      omega
    · have e : x.f0 = y.f0 := by omega
      by_cases h3 : x.f1 < y.f1
      · simp [e, h3]
      · by_cases h4 : y.f1 < x.f1 <;> simp [e, h3, h4]
theorem swoP : SWO (ltOf cmpP) where
  irrefl x := by rw [ltP]; simp
  trans x y z h1 h2 := by rw [ltP] at *; simp only [decide_eq_true_eq] at *; omega
  ntrans x y z h1 h2 := by rw [ltP] at *; simp only [decide_eq_false_iff_not] at *; omega
theorem totP (x y : S63) (h1 : ltOf cmpP x y = false) (h2 : ltOf cmpP y x = false) : x = y := by
  rw [ltP] at h1 h2
  simp only [decide_eq_false_iff_not] at h1 h2
  obtain ⟨a, b⟩ := x
  obtain ⟨c, d⟩ := y
  simp only [S63.mk.injEq]
  simp only at h1 h2
  omega
def sortP (ps : List S63) : List S63 := ps.mergeSort fun x y => !(ltOf cmpP) y x
instance : Inhabited S63 := ⟨z63⟩
theorem sort57 (v : Value) (ps : List S63) (base : Nat) (W : World) (hR : Kd.R k63 63 W base (fun _ => True) v ps) (hl : ps.length < 4611686018427387904) :
    Calls Try.prog 57 #[v, .func (.func 58) #[] #[]] W fun e W' => e = .returned (.tuple #[]) ∧ Kd.R k63 63 W' base (fun _ => True) v (sortP ps) ∧ W.grownBy W' v.ownBlock := by
  have hown := hR.2
  obtain ⟨inner, ⟨h1, h2⟩, h3⟩ := hown
  rcases h2 with ⟨rfl, h2⟩ | ⟨g, cap, cur, rfl, h4, h5, h6⟩
  · have e : ps = [] := List.eq_nil_of_length_eq_zero h2
    subst e
    have h := AnyF.slices_SortFunc_none (P := Try.prog) (ρ := sortP_ren) { sortP_lay with } none 0 (.func (.func 58) #[] #[]) W
    exact h.mono fun e W' ⟨he, hw⟩ => ⟨he, by rw [hw, show sortP [] = [] by simp [sortP]]; exact Kd.R_nil _ _ _ _ _, by rw [hw]; exact ⟨rfl, rfl, rfl, Nat.le_refl _, fun _ _ _ => rfl⟩⟩
  · obtain ⟨hH, hb, _⟩ := holds_of_R (d := k63) (enc := encP) (fun _ => rfl) (by decide) (fun w x cs h => k63_open h) hR
    have eg : ∀ args w, (callFunc 58 args).run Try.prog w = .ok (.enter 58 args) w := enters_of Try.func58 (by kernel_rfl) rfl
    have h := AnyQ.slices_SortFunc_total sortP_lay 2 Try.isAgg63 Try.sizeOf63 encP (fun _ => rfl) (fun x v hv => by simp [encP] at hv; rcases hv with rfl | rfl <;> rfl) cmpP swoP 58 #[] g 0 cap ps.toArray W eg (fun m os dk hs x y => cmp58 x y _) hH hb (by simpa using hl) totP
    rw [show ps.toArray.size = ps.length by simp] at h
    refine Calls.mono h fun e W' ⟨he, n, os, hw⟩ => ?_
    rw [show ps.toArray.toList.mergeSort (fun x y => !(ltOf cmpP) y x) = sortP ps by simp [sortP]] at hw
    obtain ⟨r1, r2⟩ := R_sorted (d := k63) (enc := encP) (m := n) (os := os) (ts := sortP ps) (fun _ => rfl) (by decide) (fun w base ok x => k63_mkM w base ok x) hR (by simp [sortP])
    subst hw
    exact ⟨he, r1, r2⟩

def conflict_Pairs.i (tg : S44 → S44 → Option Bool) (l1 : List S44) (k : Nat) : Nat → Nat → List S63 → Option (List S63)
  | 0, _, ps => some ps
  | d + 1, i, ps => (tg (rd_T44 l1 (i : Int)) (rd_T44 l1 (k : Int))).bind fun b => conflict_Pairs.i tg l1 k d (i + 1) (if b = true then ps else ps ++ [⟨(i : Int), (k : Int)⟩])
def conflict_Pairs.o (tg : S44 → S44 → Option Bool) (l1 : List S44) : Nat → Nat → List S63 → Option (List S63)
  | 0, _, ps => some ps
  | d + 1, k, ps => (conflict_Pairs.i tg l1 k k 0 ps).bind fun qs => conflict_Pairs.o tg l1 d (k + 1) qs
def tgOf (k : Nat) (a0_0 : Int) (l0_1 : List (List Int)) (a0_2 : Int) (a0_3 : Int) (l0_4 : List (S44)) (l0_5 : List Int) (x y : S44) : Option Bool := conflict_Together.f k a0_0 l0_1 a0_2 a0_3 l0_4 l0_5 x.f0 x.f1 x.f2 y.f0 y.f1 y.f2
def conflict_Pairs.f (k : Nat) (a0_0 : Int) (l0_1 : List (List Int)) (a0_2 : Int) (a0_3 : Int) (l0_4 : List (S44)) (l0_5 : List Int) (l1 : List S44) : Option (List S63 × Int) :=
  (network_Check.f k a0_0 l0_1 a0_2 a0_3 l0_4 l0_5).bind fun ec => if ec = 0 then (if 45 < (l1.length : Int) then some ([], 8) else (conflict_Pairs.o (tgOf k a0_0 l0_1 a0_2 a0_3 l0_4 l0_5) l1 l1.length 0 []).bind fun b => some (sortP b, 0)) else some ([], 1)
theorem pairs_i_mono {g g' : S44 → S44 → Option Bool} (hg : ∀ x y, LeO (g x y) (g' x y)) (l1 : List S44) (k d : Nat) : ∀ i ps, LeO (conflict_Pairs.i g l1 k d i ps) (conflict_Pairs.i g' l1 k d i ps) := by
  induction d with
  | zero => exact fun i ps r h => h
  | succ d ih =>
    intro i ps r h
    simp only [conflict_Pairs.i] at h ⊢
    obtain ⟨b, hb, h2⟩ := Option.bind_eq_some_iff.mp h
    exact Option.bind_eq_some_iff.mpr ⟨b, hg _ _ _ hb, ih _ _ _ h2⟩
theorem pairs_o_mono {g g' : S44 → S44 → Option Bool} (hg : ∀ x y, LeO (g x y) (g' x y)) (l1 : List S44) (d : Nat) : ∀ k ps, LeO (conflict_Pairs.o g l1 d k ps) (conflict_Pairs.o g' l1 d k ps) := by
  induction d with
  | zero => exact fun i ps r h => h
  | succ d ih =>
    intro k ps r h
    simp only [conflict_Pairs.o] at h ⊢
    obtain ⟨b, hb, h2⟩ := Option.bind_eq_some_iff.mp h
    exact Option.bind_eq_some_iff.mpr ⟨b, pairs_i_mono hg _ _ _ _ _ _ hb, ih _ _ _ h2⟩
theorem conflict_Pairs.mono : ∀ a0 a1 a2 a3 a4 a5 a6 k, LeO (conflict_Pairs.f k a0 a1 a2 a3 a4 a5 a6) (conflict_Pairs.f (k + 1) a0 a1 a2 a3 a4 a5 a6) := by
  intro a0 a1 a2 a3 a4 a5 a6 k r h
  unfold conflict_Pairs.f at h ⊢
  obtain ⟨b, hb, h2⟩ := Option.bind_eq_some_iff.mp h
  refine Option.bind_eq_some_iff.mpr ⟨b, network_Check.mono _ _ _ _ _ _ _ _ hb, ?_⟩
  split at h2
  · rename_i e
    rw [if_pos e]
    split at h2
    · rename_i e
      rw [if_pos e]; exact h2
    · rename_i e
      rw [if_neg e]
      obtain ⟨c, hc, h3⟩ := Option.bind_eq_some_iff.mp h2
      exact Option.bind_eq_some_iff.mpr ⟨c, pairs_o_mono (fun x y => conflict_Together.mono _ _ _ _ _ _ _ _ _ _ _ _ _) _ _ _ _ _ hc, h3⟩
  · rename_i e
    rw [if_neg e]; exact h2
set_option maxRecDepth 100000 in
set_option maxHeartbeats 1600000 in
theorem conflict_Pairs.calls (k : Nat) (a0_0 : Int) (A0_1 : Option Addr) (c0_1 : Nat) (l0_1 : List (List Int)) (a0_2 : Int) (a0_3 : Int) (A0_4 : Option Addr) (c0_4 : Nat) (l0_4 : List (S44)) (A0_5 : Option Addr) (c0_5 : Nat) (l0_5 : List Int) (A1 : Option Addr) (c1 : Nat) (l1 : List S44) (r1 : List S63) (r2 : Int) (w : World) (hr0_1 : Kd.C (Kd.slice 3 (Kd.int .i64)) w A0_1 l0_1.length l0_1) (hc0_1 : l0_1.length ≤ c0_1) (hr0_4 : Kd.C k44 w A0_4 l0_4.length l0_4) (hc0_4 : l0_4.length ≤ c0_4) (hr0_5 : Kd.C (Kd.int .i64) w A0_5 l0_5.length l0_5) (hc0_5 : l0_5.length ≤ c0_5) (hr1 : Kd.C k44 w A1 l1.length l1) (hc1 : l1.length ≤ c1) (h : conflict_Pairs.f k a0_0 l0_1 a0_2 a0_3 l0_4 l0_5 l1 = some (r1, r2)) :
    Calls Try.prog 31 #[.agg #[.int .i64 a0_0, .slice A0_1 l0_1.length c0_1, .int .i64 a0_2, .int .i64 a0_3, .slice A0_4 l0_4.length c0_4, .slice A0_5 l0_5.length c0_5], .slice A1 l1.length c1] w fun e w' => ∃ v0_ : Value, e = .returned (.tuple #[v0_, .int .i64 r2]) ∧ Kd.R k63 63 w' w.heap.size (fun _ => True) v0_ r1 ∧ Below w.heap.size w w' := by
  have hu26 := Try.underlying26
  unfold conflict_Pairs.f at h
  obtain ⟨ec, hec, h⟩ := Option.bind_eq_some_iff.mp h
  have HC := Aside0.mk (fun (W : World) (hb : Below w.heap.size w W) => network_Check.calls k a0_0 A0_1 c0_1 l0_1 a0_2 a0_3 A0_4 c0_4 l0_4 A0_5 c0_5 l0_5 ec W (Kd.C_below hr0_1 hb) hc0_1 (Kd.C_below hr0_4 hb) hc0_4 (Kd.C_below hr0_5 hb) hc0_5 hec)
  have HT := Aside0.mk (fun (x y : S44) (b : Bool) (hx : tgOf k a0_0 l0_1 a0_2 a0_3 l0_4 l0_5 x y = some b) (W : World) (hb : Below w.heap.size w W) => conflict_Together.calls k a0_0 A0_1 c0_1 l0_1 a0_2 a0_3 A0_4 c0_4 l0_4 A0_5 c0_5 l0_5 x.f0 x.f1 x.f2 y.f0 y.f1 y.f2 b W (Kd.C_below hr0_1 hb) hc0_1 (Kd.C_below hr0_4 hb) hc0_4 (Kd.C_below hr0_5 hb) hc0_5 hx)
  generalize tgOf k a0_0 l0_1 a0_2 a0_3 l0_4 l0_5 = tg at HT h
  have HL := Aside0.mk hr1
  have H := Aside0.mk h
  have hn1 := hr1.2.1
  clear h hec hr0_1 hr0_4 hr0_5 hr1 hc0_1 hc0_4 hc0_5
  go_enter Try.func31, Try.ntmps31
  go_upto_region 1 with ((with_reducible refine gate_dst (N := 2) rfl ?_); refine box_event ?hg (N := 2) ?hd (cs := #[.int .i64 a0_0, .slice A0_1 l0_1.length c0_1, .int .i64 a0_2, .int .i64 a0_3, .slice A0_4 l0_4.length c0_4, .slice A0_5 l0_5.length c0_5]) (t := 26) ?hr ?_; (case hd => rfl); (case hg => rfl); (case hr => first | (go_simp; done) | (go_simp; rfl)); intro gn hg w2 hbox hb; have Bgn := Aside0.mk hbox; have Hgn := Aside0.mk hb; have Ggn := Aside0.mk hg; have hzgn_0 := (blk_cell hbox 0).trans rfl; have hzgn_1 := (blk_cell hbox 1).trans rfl; have hzgn_2 := (blk_cell hbox 2).trans rfl; have hzgn_3 := (blk_cell hbox 3).trans rfl; have hzgn_4 := (blk_cell hbox 4).trans rfl; have hzgn_5 := (blk_cell hbox 5).trans rfl; clear hb hbox hg)
  have R := Aside0.mk Hgn.out
  have BN := Aside0.mk Bgn.out
  clear Hgn Bgn
  have z0 := bc0 BN
  have z1 := bc1 BN
  have z2 := bc2 BN
  have z3 := bc3 BN
  have z4 := bc4 BN
  have z5 := bc5 BN
  clear hzgn_0 hzgn_1 hzgn_2 hzgn_3 hzgn_4 hzgn_5
  go_wp2_with fail
  with_reducible refine (HC.out _ R.out).mono ?_
  rintro e w6 ⟨rfl, hb⟩
  replace R := Aside0.mk (below_step R.out hb)
  replace BN := Aside0.mk (blk_below BN.out hb)
  have GN : Aside0 (w.heap.size ≤ gn) := ⟨by rw [Ggn.out]; exact Nat.le_refl _⟩
  clear hb HC z0 z1 z2 z3 z4 z5 Ggn
  by_cases he : ec = 0
  case neg =>
    have Hr := Aside0.mk (Option.some.inj ((if_neg he).symm.trans H.out))
    have hbe : (ec != 0) = true := bne_iff_ne.mpr he
    go_wp2_with fail
    go_ret2
    obtain ⟨rfl, rfl⟩ := Prod.mk.inj Hr.out
    exact ⟨_, rfl, Kd.R_nil _ _ _ _ _, R.out⟩
  have h := (if_pos he).symm.trans H.out
  have hbe : (ec != 0) = false := bne_eq_false_iff_eq.mpr he
  clear H
  have H := Aside0.mk h
  clear h he
  by_cases h45 : 45 < (l1.length : Int)
  · have Hr := Aside0.mk (Option.some.inj ((if_pos h45).symm.trans H.out))
    have hlb : decide ((l1.length : Int) > 45) = true := decide_eq_true (by omega)
    go_wp2_with fail
    go_ret2
    obtain ⟨rfl, rfl⟩ := Prod.mk.inj Hr.out
    exact ⟨_, rfl, Kd.R_nil _ _ _ _ _, R.out⟩
  obtain ⟨b, hb, h2⟩ := Option.bind_eq_some_iff.mp ((if_neg h45).symm.trans H.out)
  have HB := Aside0.mk hb
  have Hr := Aside0.mk (Option.some.inj h2)
  have hlb : decide ((l1.length : Int) > 45) = false := decide_eq_false (by omega)
  have hn45 : l1.length ≤ 45 := by omega
  clear hb h2 h45 H
  go_wp2_with fail
  go_loopg [6, 17] l1.length (fun gg v6 v17 wr => ∃ (j : Nat) (ps : List S63), v17 = .int .i64 (j : Int) ∧ Aside0 (j ≤ l1.length ∧ l1.length - j ≤ gg ∧ ps.length ≤ j * 45) ∧ Aside0 (Below w.heap.size w wr) ∧ Aside0 (wr.heap[gn]? = some (.cells #[.int .i64 a0_0, .slice A0_1 l0_1.length c0_1, .int .i64 a0_2, .int .i64 a0_3, .slice A0_4 l0_4.length c0_4, .slice A0_5 l0_5.length c0_5] 26 (0, 0))) ∧
    Aside0 (Kd.R k63 63 wr w.heap.size (fun k => k ≠ gn) v6 ps) ∧ Aside0 (conflict_Pairs.o tg l1 (l1.length - j) j ps = some b))
  case atStart => exact ⟨0, [], rfl, ⟨by omega, by omega, by simp⟩, ⟨R.out⟩, ⟨BN.out⟩, ⟨Kd.R_nil _ _ _ _ _⟩, ⟨HB.out⟩⟩
  case round =>
    clear R BN HB w6
    obtain ⟨j, ps, rfl, HJ, R, BN, RP, H⟩ := hrel
    obtain ⟨hj1, hj2, hj3⟩ := HJ.out
    by_cases hlt : j < l1.length
    · have hltz : (j : Int) < (l1.length : Int) := by omega
      obtain ⟨dd, hdd⟩ : ∃ dd, l1.length - j = dd + 1 := ⟨l1.length - j - 1, by omega⟩
      have h := H.out
      rw [hdd] at h
      simp only [conflict_Pairs.o] at h
      obtain ⟨qs, hq, h2⟩ := Option.bind_eq_some_iff.mp h
      have HQ := Aside0.mk hq
      have H2 := Aside0.mk h2
      have HDD := Aside0.mk hdd
      clear h hq h2 hdd H hj2 hj3
      go_wp2_with fail
      obtain ⟨wo, rfl⟩ : ∃ wo : World, wo = wr := ⟨_, rfl⟩
      go_loopg [6, 21] j (fun gg v6 v21 wr => ∃ (i : Nat) (ps' : List S63), v21 = .int .i64 (i : Int) ∧ Aside0 (i ≤ j ∧ j - i ≤ gg ∧ ps'.length ≤ j * 45 + i) ∧ Aside0 (Below w.heap.size w wr) ∧ Aside0 (wr.heap[gn]? = some (.cells #[.int .i64 a0_0, .slice A0_1 l0_1.length c0_1, .int .i64 a0_2, .int .i64 a0_3, .slice A0_4 l0_4.length c0_4, .slice A0_5 l0_5.length c0_5] 26 (0, 0))) ∧
        Aside0 (Kd.R k63 63 wr w.heap.size (fun k => k ≠ gn) v6 ps') ∧ Aside0 (conflict_Pairs.i tg l1 j (j - i) i ps' = some qs))
      case atStart => exact ⟨0, ps, rfl, ⟨by omega, by omega, by have := HJ.out; omega⟩, R, BN, RP, ⟨HQ.out⟩⟩
      case round =>
        clear R BN RP HQ wo
        obtain ⟨i, ps', rfl, HI, R, BN, RP, H⟩ := hrel
        obtain ⟨hi1, hi2, hi3⟩ := HI.out
        by_cases hij : i < j
        · have hijz : (i : Int) < (j : Int) := by omega
          have hiz : (i : Int) < (l1.length : Int) := by omega
          obtain ⟨di, hdi⟩ : ∃ di, j - i = di + 1 := ⟨j - i - 1, by omega⟩
          have h := H.out
          rw [hdi] at h
          simp only [conflict_Pairs.i] at h
          obtain ⟨ad, rfl, x0, x1, x2⟩ := at_T44 HL.out (i : Int) (by omega) (by omega)
          obtain ⟨ad2, ea, y0, y1, y2⟩ := at_T44 HL.out (j : Int) (by omega) (by omega)
          obtain rfl : ad = ad2 := by injection ea
          rw [Int.toNat_natCast] at x0 x1 x2 y0 y1 y2
          generalize rd_T44 l1 (i : Int) = x at h x0 x1 x2
          generalize rd_T44 l1 (j : Int) = y at h y0 y1 y2
          obtain ⟨g, hg, h2⟩ := Option.bind_eq_some_iff.mp h
          have HGG := Aside0.mk (HT.out x y g hg)
          have H3 := Aside0.mk h2
          have HDI := Aside0.mk hdi
          clear h hg h2 hdi H ea hi2 hi3
          replace x0 := (R.out.cell (World.block_lt_of_cell? w _ x0)).trans x0
          replace x1 := (R.out.cell (World.block_lt_of_cell? w _ x1)).trans x1
          replace x2 := (R.out.cell (World.block_lt_of_cell? w _ x2)).trans x2
          replace y0 := (R.out.cell (World.block_lt_of_cell? w _ y0)).trans y0
          replace y1 := (R.out.cell (World.block_lt_of_cell? w _ y1)).trans y1
          replace y2 := (R.out.cell (World.block_lt_of_cell? w _ y2)).trans y2
          have z0 := bc0 BN
          have z1 := bc1 BN
          have z2 := bc2 BN
          have z3 := bc3 BN
          have z4 := bc4 BN
          have z5 := bc5 BN
          go_wp2_with fail
          go_region_held3 (fun w' => w'.cell? ⟨gn, 0, none⟩ = some (.int .i64 a0_0) ∧ w'.cell? ⟨gn, 1, none⟩ = some (.slice A0_1 l0_1.length c0_1) ∧ w'.cell? ⟨gn, 2, none⟩ = some (.int .i64 a0_2) ∧ w'.cell? ⟨gn, 3, none⟩ = some (.int .i64 a0_3) ∧ w'.cell? ⟨gn, 4, none⟩ = some (.slice A0_4 l0_4.length c0_4) ∧ w'.cell? ⟨gn, 5, none⟩ = some (.slice A0_5 l0_5.length c0_5) ∧ w'.cell? (ad.add (i * 3)) = some (.int .i64 x.f0) ∧ w'.cell? ⟨(ad.add (i * 3)).block, (ad.add (i * 3)).off + 1, none⟩ = some (.int .i64 x.f1) ∧ w'.cell? ⟨(ad.add (i * 3)).block, (ad.add (i * 3)).off + 2, none⟩ = some (.int .i64 x.f2) ∧ w'.cell? (ad.add (j * 3)) = some (.int .i64 y.f0) ∧ w'.cell? ⟨(ad.add (j * 3)).block, (ad.add (j * 3)).off + 1, none⟩ = some (.int .i64 y.f1) ∧ w'.cell? ⟨(ad.add (j * 3)).block, (ad.add (j * 3)).off + 2, none⟩ = some (.int .i64 y.f2))
            (first | go_keep | (refine ⟨?_, ?_, ?_, ?_, ?_, ?_, ?_, ?_, ?_, ?_, ?_, ?_⟩ <;> exact (hb.cell (World.block_lt_of_cell? _ _ (by assumption))).trans (by assumption)))
            (first | (go_at_call 23; ((with_reducible refine (HGG.out _ ?c1).mono ?_); (case c1 => exact below_drew1 R.out); (rintro e w8 ⟨rfl, hb⟩))))
          have R8 := Aside0.mk (below_step (below_drew1 R.out) hb)
          have BN8 := Aside0.mk (blk_below (blk_drew BN.out) hb)
          have RP8 := Aside0.mk (Kd.R_below (Kd.R_drew RP.out) hb)
          clear x0 x1 x2 y0 y1 y2 z0 z1 z2 z3 z4 z5 R BN RP hb HGG
          cases g with
          | true =>
            have H := Aside0.mk H3.out
            rw [if_pos rfl] at H
            go_wp2_with fail
            go_roundg (j - (i + 1))
            case measure => have := HI.out; omega
            case rel =>
              have e : j - (i + 1) = di := by (have := HDI.out; omega)
              exact ⟨i + 1, ps', by go_num, ⟨by omega, by omega, by have := HI.out; omega⟩, R8, BN8, RP8, ⟨by rw [e]; exact H.out⟩⟩
          | false =>
            have H := Aside0.mk H3.out
            rw [if_neg (by simp)] at H
            go_wp2_with ((with_reducible refine gate_builtin (b := .append) (xs := #[.tmp 35, .tmp 39]) rfl ?_); at_builtin; refine Kd.R_append k63 (w0 := w) w.heap.size rfl (.tmp 35) (.tmp 39) 58 63 (.agg #[(.int .i64 0), (.int .i64 0)]) 16 rfl Try.underlying58 info63 rfl (by decide) (by omega) _ ps' (⟨(i : Int), (j : Int)⟩ : S63) [.int .i64 (i : Int), .int .i64 (j : Int)] (fun k => k ≠ gn) (fun _ => False) rfl (by first | (go_simp; done) | (go_simp; rfl)) ?aP (fun _ hk => hk.elim) ?aF ?aO ?aB ?aS ?aL ?_; (case aP => exact k63_mkM _ _ _ (⟨(i : Int), (j : Int)⟩ : S63)); (case aO => exact RP8.out); (case aF => intro k hk; have := blk_lt BN8.out; omega); (case aB => exact R8.out); (case aS => exact R8.out.size); (case aL => have := HI.out; have := HJ.out; omega); intro v9 w9 ho hb9 hg9 hat; have R9 := Aside0.mk hb9; have RP9 := Aside0.mk ho; have BN9 := Aside0.mk (blk_grown BN8.out hg9 (fun e => (RP8.out.1 gn e.symm) rfl)); clear ho hb9 hg9 hat)
            go_roundg (j - (i + 1))
            case measure => have := HI.out; omega
            case rel =>
              have e : j - (i + 1) = di := by (have := HDI.out; omega)
              exact ⟨i + 1, ps' ++ [⟨(i : Int), (j : Int)⟩], by go_num, ⟨by omega, by omega, by have := HI.out; simp; omega⟩, R9, BN9, RP9, ⟨by rw [e]; exact H.out⟩⟩
        · have e9 : j - i = 0 := by omega
          have h := H.out
          rw [e9] at h
          obtain rfl := Option.some.inj h
          have h1 : ¬ (i : Int) < (j : Int) := by omega
          clear h e9 H
          go_wp2_with fail
          go_roundg (l1.length - (j + 1))
          case measure => have := HJ.out; omega
          case rel =>
            have e : l1.length - (j + 1) = dd := by (have := HDD.out; omega)
            exact ⟨j + 1, ps', by go_num, ⟨by omega, by omega, by omega⟩, R, BN, RP, ⟨by rw [e]; exact H2.out⟩⟩
    · have e9 : l1.length - j = 0 := by omega
      have h := H.out
      rw [e9] at h
      obtain rfl := Option.some.inj h
      have h1 : ¬ (j : Int) < (l1.length : Int) := by omega
      clear h e9 H
      have HS := Aside0.mk (sort57 _ ps w.heap.size wr (Kd.R_mono RP.out (fun _ _ => trivial)) (by omega))
      go_wp2_with fail
      with_reducible refine HS.out.mono ?_
      rintro e w9 ⟨rfl, hS, hg⟩
      have RS := Aside0.mk hS
      have B9 := Aside0.mk (R.out.grown hg R.out.size (fun k hk => Kd.R_base RP.out k hk))
      clear hS hg HS
      obtain ⟨A9, c9, e9⟩ := Kd.R_slice RS.out
      subst e9
      go_wp2_with fail
      go_ret2
      obtain ⟨rfl, rfl⟩ := Prod.mk.inj Hr.out
      exact ⟨_, rfl, RS.out, B9.out⟩
end Go.Proofs.Ytibgcekekmphoaa.P34

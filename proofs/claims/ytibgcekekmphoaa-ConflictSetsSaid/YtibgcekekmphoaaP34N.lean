-- Written by a program of this session (wip/tools) over the kit's print; Lean checks it.
import Derived.Test.YtibgcekekmphoaaP340
import Derived.Test.YtibgcekekmphoaaP34A
import Derived.Test.YtibgcekekmphoaaGfind
import Derived.Test.YtibgcekekmphoaaGlinkC
import Derived.Test.YtibgcekekmphoaaGpow
namespace Go.Proofs.Ytibgcekekmphoaa.P34
open Go.RowKit Go.Proofs.YtibgcekekmphoaaW.PrintWords Go.Proofs.YtibgcekekmphoaaW.PrintLast Go.Proofs.YtibgcekekmphoaaW.PrintMore
attribute [local go_sem] max2_int min2_int max_two min_two max_three min_three max_four min_four   -- for this text's walks alone
set_option linter.unusedVariables false
set_option linter.unusedSimpArgs false

/-! ### network_Check: function 15 -/
mutual
def network_Check.j0 : Nat → Bool → Int → List (List Int) → Int → Int → List (S44) → List Int → Option (Int)
 | 0, _, _, _, _, _, _, _ => none
 | k + 1, x13, x149000, x149001, x149002, x149003, x149004, x149005 => if x13 = true then (some 2) else ((network_checkPower.f x149000 x149001 x149002 x149003 x149004 x149005).bind fun t149 => (if t149 = 0 then (if x149002 < 0 then (network_Check.j1 k true x149000 x149001 x149002 x149003 x149004 x149005) else (if x149002 > 68719476736 then (network_Check.j1 k true x149000 x149001 x149002 x149003 x149004 x149005) else (if x149003 < 1000 then (network_Check.j1 k true x149000 x149001 x149002 x149003 x149004 x149005) else (network_Check.j1 k (decide (x149003 > 100000)) x149000 x149001 x149002 x149003 x149004 x149005)))) else (some t149)))
def network_Check.j1 : Nat → Bool → Int → List (List Int) → Int → Int → List (S44) → List Int → Option (Int)
 | 0, _, _, _, _, _, _, _ => none
 | k + 1, x19, x149000, x149001, x149002, x149003, x149004, x149005 => if x19 = true then (some 2) else (if (x149004.length : Int) > 128 then (some 8) else (if (x149005.length : Int) = (x149004.length : Int) then (network_Check.l0 k (x149004.length : Int) 0 x149000 x149001 x149002 x149003 x149004 x149005) else (some 11)))
def network_Check.l0 : Nat → Int → Int → Int → List (List Int) → Int → Int → List (S44) → List Int → Option (Int)
 | 0, _, _, _, _, _, _, _, _ => none
 | k + 1, x53, x54, x149000, x149001, x149002, x149003, x149004, x149005 => if x54 < x53 then ((network_checkLink.f x149000 x149001 x149002 x149003 x149004 x149005 x54).bind fun t150 => (if t150 = 0 then (network_Check.l0 k x53 (wrap64 (x54 + 1)) x149000 x149001 x149002 x149003 x149004 x149005) else (some t150))) else (some 0)
end
def network_Check.f (k : Nat) (a0_0 : Int) (l0_1 : List (List Int)) (a0_2 : Int) (a0_3 : Int) (l0_4 : List (S44)) (l0_5 : List Int) : Option (Int) := if a0_0 < 2 then (network_Check.j0 k true a0_0 l0_1 a0_2 a0_3 l0_4 l0_5) else (network_Check.j0 k (decide (a0_0 > 32)) a0_0 l0_1 a0_2 a0_3 l0_4 l0_5)
theorem network_Check.mono_l : ∀ k, (∀ y0 y1 y2 y3 y4 y5 y6, LeO (network_Check.j0 k y0 y1 y2 y3 y4 y5 y6) (network_Check.j0 (k + 1) y0 y1 y2 y3 y4 y5 y6)) ∧ (∀ y0 y1 y2 y3 y4 y5 y6, LeO (network_Check.j1 k y0 y1 y2 y3 y4 y5 y6) (network_Check.j1 (k + 1) y0 y1 y2 y3 y4 y5 y6)) ∧ (∀ y0 y1 y2 y3 y4 y5 y6 y7, LeO (network_Check.l0 k y0 y1 y2 y3 y4 y5 y6 y7) (network_Check.l0 (k + 1) y0 y1 y2 y3 y4 y5 y6 y7))
 | 0 => ⟨fun _ _ _ _ _ _ _ r h => by simp [network_Check.j0] at h, fun _ _ _ _ _ _ _ r h => by simp [network_Check.j1] at h, fun _ _ _ _ _ _ _ _ r h => by simp [network_Check.l0] at h⟩
 | k + 1 => by
  obtain ⟨ih0, ih1, ih2⟩ := network_Check.mono_l k
  refine ⟨?_, ?_, ?_⟩
  ·
   intro y0 y1 y2 y3 y4 y5 y6
   unfold network_Check.j0
   repeat' first
   | (with_reducible exact ih0 _ _ _ _ _ _ _)
   | (with_reducible exact ih1 _ _ _ _ _ _ _)
   | (with_reducible exact ih2 _ _ _ _ _ _ _ _)
   | (with_reducible exact LeO.refl _)
   | (with_reducible exact LeO.none _)
   | (with_reducible refine LeO.ite ?_ ?_)
   | (with_reducible refine LeO.bind ?_ (fun _ => ?_))
   | exact ih0 _ _ _ _ _ _ _
   | exact ih1 _ _ _ _ _ _ _
   | exact ih2 _ _ _ _ _ _ _ _
   | exact LeO.none _
   | refine LeO.ite ?_ ?_
   | refine LeO.bind ?_ (fun _ => ?_)
  ·
   intro y0 y1 y2 y3 y4 y5 y6
   unfold network_Check.j1
   repeat' first
   | (with_reducible exact ih0 _ _ _ _ _ _ _)
   | (with_reducible exact ih1 _ _ _ _ _ _ _)
   | (with_reducible exact ih2 _ _ _ _ _ _ _ _)
   | (with_reducible exact LeO.refl _)
   | (with_reducible exact LeO.none _)
   | (with_reducible refine LeO.ite ?_ ?_)
   | (with_reducible refine LeO.bind ?_ (fun _ => ?_))
   | exact ih0 _ _ _ _ _ _ _
   | exact ih1 _ _ _ _ _ _ _
   | exact ih2 _ _ _ _ _ _ _ _
   | exact LeO.none _
   | refine LeO.ite ?_ ?_
   | refine LeO.bind ?_ (fun _ => ?_)
  ·
   intro y0 y1 y2 y3 y4 y5 y6 y7
   unfold network_Check.l0
   repeat' first
   | (with_reducible exact ih0 _ _ _ _ _ _ _)
   | (with_reducible exact ih1 _ _ _ _ _ _ _)
   | (with_reducible exact ih2 _ _ _ _ _ _ _ _)
   | (with_reducible exact LeO.refl _)
   | (with_reducible exact LeO.none _)
   | (with_reducible refine LeO.ite ?_ ?_)
   | (with_reducible refine LeO.bind ?_ (fun _ => ?_))
   | exact ih0 _ _ _ _ _ _ _
   | exact ih1 _ _ _ _ _ _ _
   | exact ih2 _ _ _ _ _ _ _ _
   | exact LeO.none _
   | refine LeO.ite ?_ ?_
   | refine LeO.bind ?_ (fun _ => ?_)
theorem network_Check.mono : ∀ a0 a1 a2 a3 a4 a5 k, LeO (network_Check.f k a0 a1 a2 a3 a4 a5) (network_Check.f (k + 1) a0 a1 a2 a3 a4 a5) := by
 intro a0 a1 a2 a3 a4 a5 k
 obtain ⟨ih0, ih1, ih2⟩ := network_Check.mono_l k
 unfold network_Check.f
 repeat' first
   | (with_reducible exact ih0 _ _ _ _ _ _ _)
   | (with_reducible exact ih1 _ _ _ _ _ _ _)
   | (with_reducible exact ih2 _ _ _ _ _ _ _ _)
   | (with_reducible exact LeO.refl _)
   | (with_reducible exact LeO.none _)
   | (with_reducible refine LeO.ite ?_ ?_)
   | (with_reducible refine LeO.bind ?_ (fun _ => ?_))
   | exact ih0 _ _ _ _ _ _ _
   | exact ih1 _ _ _ _ _ _ _
   | exact ih2 _ _ _ _ _ _ _ _
   | exact LeO.none _
   | refine LeO.ite ?_ ?_
   | refine LeO.bind ?_ (fun _ => ?_)
set_option maxHeartbeats 8000000 in
set_option maxRecDepth 100000 in
theorem network_Check.calls (k : Nat) (a0_0 : Int) (A0_1 : Option Addr) (c0_1 : Nat) (l0_1 : List (List Int)) (a0_2 : Int) (a0_3 : Int) (A0_4 : Option Addr) (c0_4 : Nat) (l0_4 : List (S44)) (A0_5 : Option Addr) (c0_5 : Nat) (l0_5 : List Int) (r : Int) (w : World) (hr0_1 : Kd.C (Kd.slice 3 (Kd.int .i64)) w A0_1 l0_1.length l0_1) (hc0_1 : l0_1.length ≤ c0_1) (hr0_4 : Kd.C k44 w A0_4 l0_4.length l0_4) (hc0_4 : l0_4.length ≤ c0_4) (hr0_5 : Kd.C (Kd.int .i64) w A0_5 l0_5.length l0_5) (hc0_5 : l0_5.length ≤ c0_5) (h : network_Check.f k a0_0 l0_1 a0_2 a0_3 l0_4 l0_5 = some r) :
  Calls Try.prog 15 #[.agg #[.int .i64 a0_0, .slice A0_1 l0_1.length c0_1, .int .i64 a0_2, .int .i64 a0_3, .slice A0_4 l0_4.length c0_4, .slice A0_5 l0_5.length c0_5]] w fun e w' => e = .returned (.int .i64 r) ∧ Below w.heap.size w w' := by
 have hu26 := Try.underlying26
 have HR0_1 := Aside0.mk hr0_1
 have HC0_1 := Aside0.mk hc0_1
 clear hr0_1 hc0_1
 have HR0_4 := Aside0.mk hr0_4
 have HC0_4 := Aside0.mk hc0_4
 clear hr0_4 hc0_4
 have HR0_5 := Aside0.mk hr0_5
 have HC0_5 := Aside0.mk hc0_5
 clear hr0_5 hc0_5
 have HB := Aside0.mk (Below.refl w.heap.size w)
 have H : (if a0_0 < 2 then (network_Check.j0 k true a0_0 l0_1 a0_2 a0_3 l0_4 l0_5) else (network_Check.j0 k (decide (a0_0 > 32)) a0_0 l0_1 a0_2 a0_3 l0_4 l0_5)) = some r := h
 clear h
 have HC2 := Aside0.mk H
 clear H
 go_enter Try.func15, Try.ntmps15
 go_upto_region 1 with (first | ((with_reducible refine gate_dst (N := 1) rfl ?_); refine bx_ 1 #[.int .i64 a0_0, .slice A0_1 l0_1.length c0_1, .int .i64 a0_2, .int .i64 a0_3, .slice A0_4 l0_4.length c0_4, .slice A0_5 l0_5.length c0_5] 26 ?_; intro gb148 hg w3 hbox hb; have n0_ := Aside0.mk (below_step hb_ hb); have n1_ := Aside0.mk (hbox); have n2_ := Aside0.mk ((by rw [hg]; exact (below_size hb_) : w.heap.size ≤ gb148)); have n3_ := Aside0.mk ((by rw [hg]; exact (below_size hb_) : w.heap.size ≤ gb148)); clear HB; have HB := n0_; have BK148 := n1_; have GW148 := n2_; have GE148 := n3_; clear n0_ n1_ n2_ n3_; clear hb hbox hg))
 (try simp only [Act.put, List.setIfInBounds_toArray, List.set_cons_zero, List.set_cons_succ])
 go_cut [13] (fun v13 wc => ∃ (kq : Nat) (x13_1 : Bool), v13 = .bool x13_1 ∧ Aside0 (network_Check.j0 kq x13_1 a0_0 l0_1 a0_2 a0_3 l0_4 l0_5 = some r) ∧ Aside0 (kq ≤ k) ∧ Aside0 (wc.heap[gb148]? = some (.cells #[.int .i64 a0_0, (.slice A0_1 l0_1.length c0_1), .int .i64 a0_2, .int .i64 a0_3, (.slice A0_4 l0_4.length c0_4), (.slice A0_5 l0_5.length c0_5)] 26 (0, 0))) ∧ Aside0 (Below w.heap.size w wc))
 case first =>
  have H := HC2.out
  clear HC2
  by_cases c4 : a0_0 < 2
  ·
   rw [if_pos c4] at H
   have c4b0 : decide (a0_0 < 2) = true := decide_eq_true c4
   clear c4
   (first | rw [c4b0] | (simp only [i64_w, i32_w]; rw [c4b0]) | skip)
   have H' := Aside0.mk H
   clear H
   have hcz5_0 := bc0 BK148
   have hcz5_1 := bc1 BK148
   have hcz5_2 := bc2 BK148
   have hcz5_3 := bc3 BK148
   have hcz5_4 := bc4 BK148
   have hcz5_5 := bc5 BK148
   have hfz5_0 := blk_frozen BK148.out 0
   have hfz5_1 := blk_frozen BK148.out 1
   have hfz5_2 := blk_frozen BK148.out 2
   have hfz5_3 := blk_frozen BK148.out 3
   have hfz5_4 := blk_frozen BK148.out 4
   have hfz5_5 := blk_frozen BK148.out 5
   go_wp2
   go_meet
   case rel => exact ⟨_, (true), rl_, H', ⟨by first | omega | exact Nat.le_refl _⟩, ⟨bj_ BK148⟩, ⟨hb_⟩⟩
  ·
   rw [if_neg c4] at H
   have c4b0 : decide (a0_0 < 2) = false := decide_eq_false c4
   clear c4
   (first | rw [c4b0] | (simp only [i64_w, i32_w]; rw [c4b0]) | skip)
   have H' := Aside0.mk H
   clear H
   have hcz6_0 := bc0 BK148
   have hcz6_1 := bc1 BK148
   have hcz6_2 := bc2 BK148
   have hcz6_3 := bc3 BK148
   have hcz6_4 := bc4 BK148
   have hcz6_5 := bc5 BK148
   have hfz6_0 := blk_frozen BK148.out 0
   have hfz6_1 := blk_frozen BK148.out 1
   have hfz6_2 := blk_frozen BK148.out 2
   have hfz6_3 := blk_frozen BK148.out 3
   have hfz6_4 := blk_frozen BK148.out 4
   have hfz6_5 := blk_frozen BK148.out 5
   go_wp2
   go_meet
   case rel => exact ⟨_, (decide (a0_0 > 32)), rl_, H', ⟨by first | omega | exact Nat.le_refl _⟩, ⟨bj_ BK148⟩, ⟨hb_⟩⟩
 case rest =>
  clear HC2
  try clear c1; try clear p2; try clear c4; try clear c4b0; try clear hcz5_0; try clear hcz5_1; try clear hcz5_2; try clear hcz5_3; try clear hcz5_4; try clear hcz5_5; try clear hcz6_0; try clear hcz6_1; try clear hcz6_2; try clear hcz6_3; try clear hcz6_4; try clear hcz6_5; try clear hfz5_0; try clear hfz5_1; try clear hfz5_2; try clear hfz5_3; try clear hfz5_4; try clear hfz5_5; try clear hfz6_0; try clear hfz6_1; try clear hfz6_2; try clear hfz6_3; try clear hfz6_4; try clear hfz6_5
  (repeat clear BK148); (repeat clear HB)
  obtain ⟨kq, x13_1, rfl, HA, HJ1, BK148, HB⟩ := hcut
  cases kq with
  | zero => exact absurd HA.out (by simp [network_Check.j0])
  | succ kj1 =>
   have H := HA.out
   clear HA
   simp only [network_Check.j0] at H
   by_cases c7 : x13_1 = true
   ·
    subst c7
    have H1 : (some 2) = some r := by rw [if_pos rfl] at H; exact H
    clear H
    have H := H1
    clear H1
    obtain rfl := Option.some.inj H
    go_wp2
    go_ret
    exact ⟨er_, hb_⟩
   ·
    replace c7 := Bool.eq_false_iff.mpr c7
    subst c7
    have H1 : ((network_checkPower.f a0_0 l0_1 a0_2 a0_3 l0_4 l0_5).bind fun t149 => (if t149 = 0 then (if a0_2 < 0 then (network_Check.j1 kj1 true a0_0 l0_1 a0_2 a0_3 l0_4 l0_5) else (if a0_2 > 68719476736 then (network_Check.j1 kj1 true a0_0 l0_1 a0_2 a0_3 l0_4 l0_5) else (if a0_3 < 1000 then (network_Check.j1 kj1 true a0_0 l0_1 a0_2 a0_3 l0_4 l0_5) else (network_Check.j1 kj1 (decide (a0_3 > 100000)) a0_0 l0_1 a0_2 a0_3 l0_4 l0_5)))) else (some t149))) = some r := by rw [if_neg (show ¬ (false = true) by decide)] at H; exact H
    clear H
    have H := H1
    clear H1
    replace H := Option.bind_eq_some_iff.mp H
    obtain ⟨t149, A80, H⟩ := H
    replace H : (if t149 = 0 then (if a0_2 < 0 then (network_Check.j1 kj1 true a0_0 l0_1 a0_2 a0_3 l0_4 l0_5) else (if a0_2 > 68719476736 then (network_Check.j1 kj1 true a0_0 l0_1 a0_2 a0_3 l0_4 l0_5) else (if a0_3 < 1000 then (network_Check.j1 kj1 true a0_0 l0_1 a0_2 a0_3 l0_4 l0_5) else (network_Check.j1 kj1 (decide (a0_3 > 100000)) a0_0 l0_1 a0_2 a0_3 l0_4 l0_5)))) else (some t149)) = some r := H
    have A8 := Aside0.mk A80
    clear A80
    by_cases c9 : t149 = 0
    ·
     rw [if_pos c9] at H
     have c9b0 : (t149 == 0) = true := beq_iff_eq.mpr c9
     have c9b1 : (t149 != 0) = false := bne_eq_false_iff_eq.mpr c9
     clear c9
     have HC10 := Aside0.mk H
     clear H
     have hcz11_0 := bc0 BK148
     have hcz11_1 := bc1 BK148
     have hcz11_2 := bc2 BK148
     have hcz11_3 := bc3 BK148
     have hcz11_4 := bc4 BK148
     have hcz11_5 := bc5 BK148
     have hfz11_0 := blk_frozen BK148.out 0
     have hfz11_1 := blk_frozen BK148.out 1
     have hfz11_2 := blk_frozen BK148.out 2
     have hfz11_3 := blk_frozen BK148.out 3
     have hfz11_4 := blk_frozen BK148.out 4
     have hfz11_5 := blk_frozen BK148.out 5
     go_upto_region 6 with (first | ((with_reducible refine gate_callee (f := 43) rfl ?_); refine goesL_ (some 15) rfl rfl Try.func43 (by kernel_rfl) rfl #[.agg #[.int .i64 a0_0, .slice A0_1 l0_1.length c0_1, .int .i64 a0_2, .int .i64 a0_3, .slice A0_4 l0_4.length c0_4, .slice A0_5 l0_5.length c0_5]] rfl am_ ?_; (with_reducible refine (network_checkPower.calls a0_0 _ _ l0_1 a0_2 a0_3 _ _ l0_4 _ _ l0_5 t149 _ ?side1 ?side2 ?side3 ?side4 ?side5 ?side6 A8.out).mono ?_); (case side1 | side3 | side5 => exact cb_); (case side2 | side4 | side6 => first | exact HC0_1.out | exact HC0_4.out | exact HC0_5.out); rintro e w12 ⟨rfl, hb⟩; refine ⟨_, rfl, ?_⟩; have n0_ := bk_ BK148 hb; have n1_ := Aside0.mk (below_step hb_ hb); clear BK148; clear HB; have BK148 := n0_; have HB := n1_; clear n0_ n1_; (try clear hb); (try clear hb2); (try clear hk); (try clear hi)))
     (try simp only [Act.put, List.setIfInBounds_toArray, List.set_cons_zero, List.set_cons_succ])
     go_cut [19] (fun v19 wc => ∃ (kq : Nat) (x19_9 : Bool), v19 = .bool x19_9 ∧ Aside0 (network_Check.j1 kq x19_9 a0_0 l0_1 a0_2 a0_3 l0_4 l0_5 = some r) ∧ Aside0 (kq ≤ kj1) ∧ Aside0 (wc.heap[gb148]? = some (.cells #[.int .i64 a0_0, (.slice A0_1 l0_1.length c0_1), .int .i64 a0_2, .int .i64 a0_3, (.slice A0_4 l0_4.length c0_4), (.slice A0_5 l0_5.length c0_5)] 26 (0, 0))) ∧ Aside0 (Below w.heap.size w wc))
     case first =>
      have H := HC10.out
      clear HC10
      by_cases c13 : a0_2 < 0
      ·
       rw [if_pos c13] at H
       have c13b0 : decide (a0_2 < 0) = true := decide_eq_true c13
       clear c13
       (first | rw [c13b0] | (simp only [i64_w, i32_w]; rw [c13b0]) | skip)
       have H' := Aside0.mk H
       clear H
       have hcz14_0 := bc0 BK148
       have hcz14_1 := bc1 BK148
       have hcz14_2 := bc2 BK148
       have hcz14_3 := bc3 BK148
       have hcz14_4 := bc4 BK148
       have hcz14_5 := bc5 BK148
       have hfz14_0 := blk_frozen BK148.out 0
       have hfz14_1 := blk_frozen BK148.out 1
       have hfz14_2 := blk_frozen BK148.out 2
       have hfz14_3 := blk_frozen BK148.out 3
       have hfz14_4 := blk_frozen BK148.out 4
       have hfz14_5 := blk_frozen BK148.out 5
       go_wp2
       go_meet
       case rel => exact ⟨_, (true), rl_, H', ⟨by have := HJ1.out; first | omega | exact Nat.le_refl _⟩, ⟨bj_ BK148⟩, ⟨hb_⟩⟩
      ·
       rw [if_neg c13] at H
       have c13b0 : decide (a0_2 < 0) = false := decide_eq_false c13
       clear c13
       (first | rw [c13b0] | (simp only [i64_w, i32_w]; rw [c13b0]) | skip)
       by_cases c15 : a0_2 > 68719476736
       ·
        rw [if_pos c15] at H
        have c15b0 : decide (68719476736 < a0_2) = true := decide_eq_true c15
        clear c15
        have H' := Aside0.mk H
        clear H
        have hcz16_0 := bc0 BK148
        have hcz16_1 := bc1 BK148
        have hcz16_2 := bc2 BK148
        have hcz16_3 := bc3 BK148
        have hcz16_4 := bc4 BK148
        have hcz16_5 := bc5 BK148
        have hfz16_0 := blk_frozen BK148.out 0
        have hfz16_1 := blk_frozen BK148.out 1
        have hfz16_2 := blk_frozen BK148.out 2
        have hfz16_3 := blk_frozen BK148.out 3
        have hfz16_4 := blk_frozen BK148.out 4
        have hfz16_5 := blk_frozen BK148.out 5
        go_wp2
        go_meet
        case rel => exact ⟨_, (true), rl_, H', ⟨by have := HJ1.out; first | omega | exact Nat.le_refl _⟩, ⟨bj_ BK148⟩, ⟨hb_⟩⟩
       ·
        rw [if_neg c15] at H
        have c15b0 : decide (68719476736 < a0_2) = false := decide_eq_false c15
        clear c15
        by_cases c17 : a0_3 < 1000
        ·
         rw [if_pos c17] at H
         have c17b0 : decide (a0_3 < 1000) = true := decide_eq_true c17
         clear c17
         have H' := Aside0.mk H
         clear H
         have hcz18_0 := bc0 BK148
         have hcz18_1 := bc1 BK148
         have hcz18_2 := bc2 BK148
         have hcz18_3 := bc3 BK148
         have hcz18_4 := bc4 BK148
         have hcz18_5 := bc5 BK148
         have hfz18_0 := blk_frozen BK148.out 0
         have hfz18_1 := blk_frozen BK148.out 1
         have hfz18_2 := blk_frozen BK148.out 2
         have hfz18_3 := blk_frozen BK148.out 3
         have hfz18_4 := blk_frozen BK148.out 4
         have hfz18_5 := blk_frozen BK148.out 5
         go_wp2
         go_meet
         case rel => exact ⟨_, (true), rl_, H', ⟨by have := HJ1.out; first | omega | exact Nat.le_refl _⟩, ⟨bj_ BK148⟩, ⟨hb_⟩⟩
        ·
         rw [if_neg c17] at H
         have c17b0 : decide (a0_3 < 1000) = false := decide_eq_false c17
         clear c17
         have H' := Aside0.mk H
         clear H
         have hcz19_0 := bc0 BK148
         have hcz19_1 := bc1 BK148
         have hcz19_2 := bc2 BK148
         have hcz19_3 := bc3 BK148
         have hcz19_4 := bc4 BK148
         have hcz19_5 := bc5 BK148
         have hfz19_0 := blk_frozen BK148.out 0
         have hfz19_1 := blk_frozen BK148.out 1
         have hfz19_2 := blk_frozen BK148.out 2
         have hfz19_3 := blk_frozen BK148.out 3
         have hfz19_4 := blk_frozen BK148.out 4
         have hfz19_5 := blk_frozen BK148.out 5
         go_wp2
         go_meet
         case rel => exact ⟨_, (decide (a0_3 > 100000)), rl_, H', ⟨by have := HJ1.out; first | omega | exact Nat.le_refl _⟩, ⟨bj_ BK148⟩, ⟨hb_⟩⟩
     case rest =>
      clear HC10
      try clear c1; try clear p2; try clear c4; try clear c4b0; try clear c7; try clear c9; try clear c9b0; try clear c9b1; try clear c13; try clear c13b0; try clear c15; try clear c15b0; try clear c17; try clear c17b0; try clear hcz11_0; try clear hcz11_1; try clear hcz11_2; try clear hcz11_3; try clear hcz11_4; try clear hcz11_5; try clear hcz14_0; try clear hcz14_1; try clear hcz14_2; try clear hcz14_3; try clear hcz14_4; try clear hcz14_5; try clear hcz16_0; try clear hcz16_1; try clear hcz16_2; try clear hcz16_3; try clear hcz16_4; try clear hcz16_5; try clear hcz18_0; try clear hcz18_1; try clear hcz18_2; try clear hcz18_3; try clear hcz18_4; try clear hcz18_5; try clear hcz19_0; try clear hcz19_1; try clear hcz19_2; try clear hcz19_3; try clear hcz19_4; try clear hcz19_5; try clear hcz5_0; try clear hcz5_1; try clear hcz5_2; try clear hcz5_3; try clear hcz5_4; try clear hcz5_5; try clear hcz6_0; try clear hcz6_1; try clear hcz6_2; try clear hcz6_3; try clear hcz6_4; try clear hcz6_5; try clear hfz11_0; try clear hfz11_1; try clear hfz11_2; try clear hfz11_3; try clear hfz11_4; try clear hfz11_5; try clear hfz14_0; try clear hfz14_1; try clear hfz14_2; try clear hfz14_3; try clear hfz14_4; try clear hfz14_5; try clear hfz16_0; try clear hfz16_1; try clear hfz16_2; try clear hfz16_3; try clear hfz16_4; try clear hfz16_5; try clear hfz18_0; try clear hfz18_1; try clear hfz18_2; try clear hfz18_3; try clear hfz18_4; try clear hfz18_5; try clear hfz19_0; try clear hfz19_1; try clear hfz19_2; try clear hfz19_3; try clear hfz19_4; try clear hfz19_5; try clear hfz5_0; try clear hfz5_1; try clear hfz5_2; try clear hfz5_3; try clear hfz5_4; try clear hfz5_5; try clear hfz6_0; try clear hfz6_1; try clear hfz6_2; try clear hfz6_3; try clear hfz6_4; try clear hfz6_5; try clear p2
      (repeat clear BK148); (repeat clear HB)
      obtain ⟨kq, x19_9, rfl, HA, HJ9, BK148, HB⟩ := hcut
      cases kq with
      | zero => exact absurd HA.out (by simp [network_Check.j1])
      | succ kj9 =>
       have H := HA.out
       clear HA
       simp only [network_Check.j1] at H
       by_cases c20 : x19_9 = true
       ·
        subst c20
        have H1 : (some 2) = some r := by rw [if_pos rfl] at H; exact H
        clear H
        have H := H1
        clear H1
        obtain rfl := Option.some.inj H
        go_wp2
        go_ret
        exact ⟨er_, hb_⟩
       ·
        replace c20 := Bool.eq_false_iff.mpr c20
        subst c20
        have H1 : (if (l0_4.length : Int) > 128 then (some 8) else (if (l0_5.length : Int) = (l0_4.length : Int) then (network_Check.l0 kj9 (l0_4.length : Int) 0 a0_0 l0_1 a0_2 a0_3 l0_4 l0_5) else (some 11))) = some r := by rw [if_neg (show ¬ (false = true) by decide)] at H; exact H
        clear H
        have H := H1
        clear H1
        by_cases c21 : (l0_4.length : Int) > 128
        ·
         rw [if_pos c21] at H
         have c21b0 : decide (128 < (l0_4.length : Int)) = true := decide_eq_true c21
         have c21b1 : decide (128 < l0_4.length) = true := decide_eq_true (by omega)
         clear c21
         obtain rfl := Option.some.inj H
         have hcz22_0 := bc0 BK148
         have hcz22_1 := bc1 BK148
         have hcz22_2 := bc2 BK148
         have hcz22_3 := bc3 BK148
         have hcz22_4 := bc4 BK148
         have hcz22_5 := bc5 BK148
         have hfz22_0 := blk_frozen BK148.out 0
         have hfz22_1 := blk_frozen BK148.out 1
         have hfz22_2 := blk_frozen BK148.out 2
         have hfz22_3 := blk_frozen BK148.out 3
         have hfz22_4 := blk_frozen BK148.out 4
         have hfz22_5 := blk_frozen BK148.out 5
         go_wp2
         go_ret
         exact ⟨er_, hb_⟩
        ·
         rw [if_neg c21] at H
         have c21b0 : decide (128 < (l0_4.length : Int)) = false := decide_eq_false c21
         have c21b1 : decide (128 < l0_4.length) = false := decide_eq_false (by omega)
         clear c21
         by_cases c23 : (l0_5.length : Int) = (l0_4.length : Int)
         ·
          rw [if_pos c23] at H
          have c23b0 : ((l0_5.length : Int) == (l0_4.length : Int)) = true := beq_iff_eq.mpr c23
          have c23b1 : ((l0_5.length : Int) != (l0_4.length : Int)) = false := bne_eq_false_iff_eq.mpr c23
          have c23b2 : (l0_5.length == l0_4.length) = true := by first | simpa using c23 | (simp at c23 ⊢; omega)
          clear c23
          have H' := Aside0.mk H
          clear H
          have hcz24_0 := bc0 BK148
          have hcz24_1 := bc1 BK148
          have hcz24_2 := bc2 BK148
          have hcz24_3 := bc3 BK148
          have hcz24_4 := bc4 BK148
          have hcz24_5 := bc5 BK148
          have hfz24_0 := blk_frozen BK148.out 0
          have hfz24_1 := blk_frozen BK148.out 1
          have hfz24_2 := blk_frozen BK148.out 2
          have hfz24_3 := blk_frozen BK148.out 3
          have hfz24_4 := blk_frozen BK148.out 4
          have hfz24_5 := blk_frozen BK148.out 5
          go_wp2
          go_loopg [54] kj9 (fun kq v54 w' => ∃ (x54_3 : Int), v54 = .int .i64 x54_3 ∧ Aside0 (network_Check.l0 kq (l0_4.length : Int) x54_3 a0_0 l0_1 a0_2 a0_3 l0_4 l0_5 = some r) ∧ Aside0 (kq ≤ kj9) ∧ Aside0 (w'.heap[gb148]? = some (.cells #[.int .i64 a0_0, (.slice A0_1 l0_1.length c0_1), .int .i64 a0_2, .int .i64 a0_3, (.slice A0_4 l0_4.length c0_4), (.slice A0_5 l0_5.length c0_5)] 26 (0, 0))) ∧ Aside0 (Below w.heap.size w w'))
          case atStart => exact ⟨(0), rl_, H', ⟨Nat.le_refl _⟩, ⟨bj_ BK148⟩, ⟨hb_⟩⟩
          case round =>
           clear H'
           try clear c1; try clear c2; try clear p2; try clear c4; try clear c4b0; try clear c7; try clear c9; try clear c9b0; try clear c9b1; try clear c13; try clear c13b0; try clear c15; try clear c15b0; try clear c17; try clear c17b0; try clear c20; try clear c21; try clear c21b0; try clear c21b1; try clear c23; try clear c23b0; try clear c23b1; try clear c23b2; try clear hcz11_0; try clear hcz11_1; try clear hcz11_2; try clear hcz11_3; try clear hcz11_4; try clear hcz11_5; try clear hcz14_0; try clear hcz14_1; try clear hcz14_2; try clear hcz14_3; try clear hcz14_4; try clear hcz14_5; try clear hcz16_0; try clear hcz16_1; try clear hcz16_2; try clear hcz16_3; try clear hcz16_4; try clear hcz16_5; try clear hcz18_0; try clear hcz18_1; try clear hcz18_2; try clear hcz18_3; try clear hcz18_4; try clear hcz18_5; try clear hcz19_0; try clear hcz19_1; try clear hcz19_2; try clear hcz19_3; try clear hcz19_4; try clear hcz19_5; try clear hcz22_0; try clear hcz22_1; try clear hcz22_2; try clear hcz22_3; try clear hcz22_4; try clear hcz22_5; try clear hcz24_0; try clear hcz24_1; try clear hcz24_2; try clear hcz24_3; try clear hcz24_4; try clear hcz24_5; try clear hcz5_0; try clear hcz5_1; try clear hcz5_2; try clear hcz5_3; try clear hcz5_4; try clear hcz5_5; try clear hcz6_0; try clear hcz6_1; try clear hcz6_2; try clear hcz6_3; try clear hcz6_4; try clear hcz6_5; try clear hfz11_0; try clear hfz11_1; try clear hfz11_2; try clear hfz11_3; try clear hfz11_4; try clear hfz11_5; try clear hfz14_0; try clear hfz14_1; try clear hfz14_2; try clear hfz14_3; try clear hfz14_4; try clear hfz14_5; try clear hfz16_0; try clear hfz16_1; try clear hfz16_2; try clear hfz16_3; try clear hfz16_4; try clear hfz16_5; try clear hfz18_0; try clear hfz18_1; try clear hfz18_2; try clear hfz18_3; try clear hfz18_4; try clear hfz18_5; try clear hfz19_0; try clear hfz19_1; try clear hfz19_2; try clear hfz19_3; try clear hfz19_4; try clear hfz19_5; try clear hfz22_0; try clear hfz22_1; try clear hfz22_2; try clear hfz22_3; try clear hfz22_4; try clear hfz22_5; try clear hfz24_0; try clear hfz24_1; try clear hfz24_2; try clear hfz24_3; try clear hfz24_4; try clear hfz24_5; try clear hfz5_0; try clear hfz5_1; try clear hfz5_2; try clear hfz5_3; try clear hfz5_4; try clear hfz5_5; try clear hfz6_0; try clear hfz6_1; try clear hfz6_2; try clear hfz6_3; try clear hfz6_4; try clear hfz6_5; try clear p2
           (repeat clear BK148); (repeat clear HB)
           obtain ⟨x54_3, rfl, HA, HK3, BK148, HB⟩ := hrel
           cases gk with
           | zero => exact absurd HA.out (by simp [network_Check.l0])
           | succ k3 =>
            have H := HA.out
            clear HA
            simp only [network_Check.l0] at H
            by_cases c25 : x54_3 < (l0_4.length : Int)
            ·
             rw [if_pos c25] at H
             have c25b0 : decide (x54_3 < (l0_4.length : Int)) = true := decide_eq_true c25
             clear c25
             replace H := Option.bind_eq_some_iff.mp H
             obtain ⟨t150, A260, H⟩ := H
             replace H : (if t150 = 0 then (network_Check.l0 k3 (l0_4.length : Int) (wrap64 (x54_3 + 1)) a0_0 l0_1 a0_2 a0_3 l0_4 l0_5) else (some t150)) = some r := H
             have A26 := Aside0.mk A260
             clear A260
             by_cases c27 : t150 = 0
             ·
              rw [if_pos c27] at H
              have c27b0 : (t150 == 0) = true := beq_iff_eq.mpr c27
              have c27b1 : (t150 != 0) = false := bne_eq_false_iff_eq.mpr c27
              clear c27
              have H' := Aside0.mk H
              clear H
              have hcz28_0 := bc0 BK148
              have hcz28_1 := bc1 BK148
              have hcz28_2 := bc2 BK148
              have hcz28_3 := bc3 BK148
              have hcz28_4 := bc4 BK148
              have hcz28_5 := bc5 BK148
              have hfz28_0 := blk_frozen BK148.out 0
              have hfz28_1 := blk_frozen BK148.out 1
              have hfz28_2 := blk_frozen BK148.out 2
              have hfz28_3 := blk_frozen BK148.out 3
              have hfz28_4 := blk_frozen BK148.out 4
              have hfz28_5 := blk_frozen BK148.out 5
              go_wp2_with (first | ((with_reducible refine gate_callee (f := 44) rfl ?_); refine goesL_ (some 59) rfl rfl Try.func44 (by kernel_rfl) rfl #[.agg #[.int .i64 a0_0, .slice A0_1 l0_1.length c0_1, .int .i64 a0_2, .int .i64 a0_3, .slice A0_4 l0_4.length c0_4, .slice A0_5 l0_5.length c0_5], .int .i64 x54_3] rfl am_ ?_; (with_reducible refine (network_checkLink.calls a0_0 _ _ l0_1 a0_2 a0_3 _ _ l0_4 _ _ l0_5 x54_3 t150 _ ?side1 ?side2 ?side3 ?side4 ?side5 ?side6 A26.out).mono ?_); (case side1 | side3 | side5 => exact cb_); (case side2 | side4 | side6 => first | exact HC0_1.out | exact HC0_4.out | exact HC0_5.out); rintro e w29 ⟨rfl, hb⟩; refine ⟨_, rfl, ?_⟩; have n0_ := bk_ BK148 hb; have n1_ := Aside0.mk (below_step hb_ hb); clear BK148; clear HB; have BK148 := n0_; have HB := n1_; clear n0_ n1_; (try clear hb); (try clear hb2); (try clear hk); (try clear hi)))
              go_roundg k3
              case measure => have := HJ1.out; have := HJ9.out; have := HK3.out; omega
              case rel => exact ⟨(wrap64 (x54_3 + 1)), rl_, H', ⟨by have := HJ1.out; have := HJ9.out; have := HK3.out; omega⟩, ⟨bj_ BK148⟩, ⟨hb_⟩⟩
             ·
              rw [if_neg c27] at H
              have c27b0 : (t150 == 0) = false := beq_eq_false_iff_ne.mpr c27
              have c27b1 : (t150 != 0) = true := bne_iff_ne.mpr c27
              obtain rfl := Option.some.inj H
              have hcz30_0 := bc0 BK148
              have hcz30_1 := bc1 BK148
              have hcz30_2 := bc2 BK148
              have hcz30_3 := bc3 BK148
              have hcz30_4 := bc4 BK148
              have hcz30_5 := bc5 BK148
              have hfz30_0 := blk_frozen BK148.out 0
              have hfz30_1 := blk_frozen BK148.out 1
              have hfz30_2 := blk_frozen BK148.out 2
              have hfz30_3 := blk_frozen BK148.out 3
              have hfz30_4 := blk_frozen BK148.out 4
              have hfz30_5 := blk_frozen BK148.out 5
              go_wp2_with (first | ((with_reducible refine gate_callee (f := 44) rfl ?_); refine goesL_ (some 59) rfl rfl Try.func44 (by kernel_rfl) rfl #[.agg #[.int .i64 a0_0, .slice A0_1 l0_1.length c0_1, .int .i64 a0_2, .int .i64 a0_3, .slice A0_4 l0_4.length c0_4, .slice A0_5 l0_5.length c0_5], .int .i64 x54_3] rfl am_ ?_; (with_reducible refine (network_checkLink.calls a0_0 _ _ l0_1 a0_2 a0_3 _ _ l0_4 _ _ l0_5 x54_3 t150 _ ?side1 ?side2 ?side3 ?side4 ?side5 ?side6 A26.out).mono ?_); (case side1 | side3 | side5 => exact cb_); (case side2 | side4 | side6 => first | exact HC0_1.out | exact HC0_4.out | exact HC0_5.out); rintro e w31 ⟨rfl, hb⟩; refine ⟨_, rfl, ?_⟩; have n0_ := bk_ BK148 hb; have n1_ := Aside0.mk (below_step hb_ hb); clear BK148; clear HB; have BK148 := n0_; have HB := n1_; clear n0_ n1_; (try clear hb); (try clear hb2); (try clear hk); (try clear hi)))
              go_ret
              exact ⟨er_, hb_⟩
            ·
             rw [if_neg c25] at H
             have c25b0 : decide (x54_3 < (l0_4.length : Int)) = false := decide_eq_false c25
             clear c25
             obtain rfl := Option.some.inj H
             go_wp2
             go_ret
             exact ⟨er_, hb_⟩
         ·
          rw [if_neg c23] at H
          have c23b0 : ((l0_5.length : Int) == (l0_4.length : Int)) = false := beq_eq_false_iff_ne.mpr c23
          have c23b1 : ((l0_5.length : Int) != (l0_4.length : Int)) = true := bne_iff_ne.mpr c23
          have c23b2 : (l0_5.length == l0_4.length) = false := by first | simpa using c23 | (simp at c23 ⊢; omega)
          obtain rfl := Option.some.inj H
          have hcz32_0 := bc0 BK148
          have hcz32_1 := bc1 BK148
          have hcz32_2 := bc2 BK148
          have hcz32_3 := bc3 BK148
          have hcz32_4 := bc4 BK148
          have hcz32_5 := bc5 BK148
          have hfz32_0 := blk_frozen BK148.out 0
          have hfz32_1 := blk_frozen BK148.out 1
          have hfz32_2 := blk_frozen BK148.out 2
          have hfz32_3 := blk_frozen BK148.out 3
          have hfz32_4 := blk_frozen BK148.out 4
          have hfz32_5 := blk_frozen BK148.out 5
          go_wp2
          go_ret
          exact ⟨er_, hb_⟩
    ·
     rw [if_neg c9] at H
     have c9b0 : (t149 == 0) = false := beq_eq_false_iff_ne.mpr c9
     have c9b1 : (t149 != 0) = true := bne_iff_ne.mpr c9
     obtain rfl := Option.some.inj H
     have hcz33_0 := bc0 BK148
     have hcz33_1 := bc1 BK148
     have hcz33_2 := bc2 BK148
     have hcz33_3 := bc3 BK148
     have hcz33_4 := bc4 BK148
     have hcz33_5 := bc5 BK148
     have hfz33_0 := blk_frozen BK148.out 0
     have hfz33_1 := blk_frozen BK148.out 1
     have hfz33_2 := blk_frozen BK148.out 2
     have hfz33_3 := blk_frozen BK148.out 3
     have hfz33_4 := blk_frozen BK148.out 4
     have hfz33_5 := blk_frozen BK148.out 5
     go_wp2_with (first | ((with_reducible refine gate_callee (f := 43) rfl ?_); refine goesL_ (some 15) rfl rfl Try.func43 (by kernel_rfl) rfl #[.agg #[.int .i64 a0_0, .slice A0_1 l0_1.length c0_1, .int .i64 a0_2, .int .i64 a0_3, .slice A0_4 l0_4.length c0_4, .slice A0_5 l0_5.length c0_5]] rfl am_ ?_; (with_reducible refine (network_checkPower.calls a0_0 _ _ l0_1 a0_2 a0_3 _ _ l0_4 _ _ l0_5 t149 _ ?side1 ?side2 ?side3 ?side4 ?side5 ?side6 A8.out).mono ?_); (case side1 | side3 | side5 => exact cb_); (case side2 | side4 | side6 => first | exact HC0_1.out | exact HC0_4.out | exact HC0_5.out); rintro e w34 ⟨rfl, hb⟩; refine ⟨_, rfl, ?_⟩; have n0_ := bk_ BK148 hb; have n1_ := Aside0.mk (below_step hb_ hb); clear BK148; clear HB; have BK148 := n0_; have HB := n1_; clear n0_ n1_; (try clear hb); (try clear hb2); (try clear hk); (try clear hi)))
     go_ret
     exact ⟨er_, hb_⟩

/-! ### network_Index: function 16 -/
def network_Index.f (k : Nat) (a0_0 : Int) (l0_1 : List (List Int)) (a0_2 : Int) (a0_3 : Int) (l0_4 : List (S44)) (l0_5 : List Int) (a1 : Int) (a2 : Int) : Option (Int) := (network_Check.f k a0_0 l0_1 a0_2 a0_3 l0_4 l0_5).bind fun t152 => (if t152 = 0 then ((network_find.f a0_0 l0_1 a0_2 a0_3 l0_4 l0_5 a1 a2).bind fun t153 => (some t153)) else (some (-1)))
theorem network_Index.mono : ∀ a0 a1 a2 a3 a4 a5 a6 a7 k, LeO (network_Index.f k a0 a1 a2 a3 a4 a5 a6 a7) (network_Index.f (k + 1) a0 a1 a2 a3 a4 a5 a6 a7) := by
 intro a0 a1 a2 a3 a4 a5 a6 a7 k
 unfold network_Index.f
 repeat' first
   | (with_reducible exact network_Check.mono _ _ _ _ _ _ _)
   | (with_reducible exact LeO.refl _)
   | (with_reducible exact LeO.none _)
   | (with_reducible refine LeO.ite ?_ ?_)
   | (with_reducible refine LeO.bind ?_ (fun _ => ?_))
   | exact network_Check.mono _ _ _ _ _ _ _
   | exact LeO.none _
   | refine LeO.ite ?_ ?_
   | refine LeO.bind ?_ (fun _ => ?_)
set_option maxHeartbeats 8000000 in
set_option maxRecDepth 100000 in
theorem network_Index.calls (k : Nat) (a0_0 : Int) (A0_1 : Option Addr) (c0_1 : Nat) (l0_1 : List (List Int)) (a0_2 : Int) (a0_3 : Int) (A0_4 : Option Addr) (c0_4 : Nat) (l0_4 : List (S44)) (A0_5 : Option Addr) (c0_5 : Nat) (l0_5 : List Int) (a1 : Int) (a2 : Int) (r : Int) (w : World) (hr0_1 : Kd.C (Kd.slice 3 (Kd.int .i64)) w A0_1 l0_1.length l0_1) (hc0_1 : l0_1.length ≤ c0_1) (hr0_4 : Kd.C k44 w A0_4 l0_4.length l0_4) (hc0_4 : l0_4.length ≤ c0_4) (hr0_5 : Kd.C (Kd.int .i64) w A0_5 l0_5.length l0_5) (hc0_5 : l0_5.length ≤ c0_5) (h : network_Index.f k a0_0 l0_1 a0_2 a0_3 l0_4 l0_5 a1 a2 = some r) :
  Calls Try.prog 16 #[.agg #[.int .i64 a0_0, .slice A0_1 l0_1.length c0_1, .int .i64 a0_2, .int .i64 a0_3, .slice A0_4 l0_4.length c0_4, .slice A0_5 l0_5.length c0_5], .int .i64 a1, .int .i64 a2] w fun e w' => e = .returned (.int .i64 r) ∧ Below w.heap.size w w' := by
 have hu26 := Try.underlying26
 have HR0_1 := Aside0.mk hr0_1
 have HC0_1 := Aside0.mk hc0_1
 clear hr0_1 hc0_1
 have HR0_4 := Aside0.mk hr0_4
 have HC0_4 := Aside0.mk hc0_4
 clear hr0_4 hc0_4
 have HR0_5 := Aside0.mk hr0_5
 have HC0_5 := Aside0.mk hc0_5
 clear hr0_5 hc0_5
 have HB := Aside0.mk (Below.refl w.heap.size w)
 have H : ((network_Check.f k a0_0 l0_1 a0_2 a0_3 l0_4 l0_5).bind fun t152 => (if t152 = 0 then ((network_find.f a0_0 l0_1 a0_2 a0_3 l0_4 l0_5 a1 a2).bind fun t153 => (some t153)) else (some (-1)))) = some r := h
 clear h
 replace H := Option.bind_eq_some_iff.mp H
 obtain ⟨t152, A40, H⟩ := H
 replace H : (if t152 = 0 then ((network_find.f a0_0 l0_1 a0_2 a0_3 l0_4 l0_5 a1 a2).bind fun t153 => (some t153)) else (some (-1))) = some r := H
 have A4 := Aside0.mk A40
 clear A40
 by_cases c5 : t152 = 0
 ·
  rw [if_pos c5] at H
  have c5b0 : (t152 == 0) = true := beq_iff_eq.mpr c5
  have c5b1 : (t152 != 0) = false := bne_eq_false_iff_eq.mpr c5
  clear c5
  replace H := Option.bind_eq_some_iff.mp H
  obtain ⟨t153, A60, H⟩ := H
  replace H : (some t153) = some r := H
  have A6 := Aside0.mk A60
  clear A60
  obtain rfl := Option.some.inj H
  go_enter Try.func16, Try.ntmps16
  go_wp2_with (first | ((with_reducible refine gate_dst (N := 3) rfl ?_); refine bx_ 3 #[.int .i64 a0_0, .slice A0_1 l0_1.length c0_1, .int .i64 a0_2, .int .i64 a0_3, .slice A0_4 l0_4.length c0_4, .slice A0_5 l0_5.length c0_5] 26 ?_; intro gb151 hg w7 hbox hb; have n0_ := Aside0.mk (below_step hb_ hb); have n1_ := Aside0.mk (hbox); have n2_ := Aside0.mk ((by rw [hg]; exact (below_size hb_) : w.heap.size ≤ gb151)); have n3_ := Aside0.mk ((by rw [hg]; exact (below_size hb_) : w.heap.size ≤ gb151)); clear HB; have HB := n0_; have BK151 := n1_; have GW151 := n2_; have GE151 := n3_; clear n0_ n1_ n2_ n3_; clear hb hbox hg; have hcz8_0 := bc0 BK151; have hcz8_1 := bc1 BK151; have hcz8_2 := bc2 BK151; have hcz8_3 := bc3 BK151; have hcz8_4 := bc4 BK151; have hcz8_5 := bc5 BK151; have hfz8_0 := blk_frozen BK151.out 0; have hfz8_1 := blk_frozen BK151.out 1; have hfz8_2 := blk_frozen BK151.out 2; have hfz8_3 := blk_frozen BK151.out 3; have hfz8_4 := blk_frozen BK151.out 4; have hfz8_5 := blk_frozen BK151.out 5) | ((with_reducible refine gate_callee (f := 15) rfl ?_); refine goesL_ (some 8) rfl rfl Try.func15 (by kernel_rfl) rfl #[.agg #[.int .i64 a0_0, .slice A0_1 l0_1.length c0_1, .int .i64 a0_2, .int .i64 a0_3, .slice A0_4 l0_4.length c0_4, .slice A0_5 l0_5.length c0_5]] rfl am_ ?_; (with_reducible refine (network_Check.calls k a0_0 _ _ l0_1 a0_2 a0_3 _ _ l0_4 _ _ l0_5 t152 _ ?side1 ?side2 ?side3 ?side4 ?side5 ?side6 A4.out).mono ?_); (case side1 | side3 | side5 => exact cb_); (case side2 | side4 | side6 => first | exact HC0_1.out | exact HC0_4.out | exact HC0_5.out); rintro e w9 ⟨rfl, hb⟩; refine ⟨_, rfl, ?_⟩; have n0_ := bk_ BK151 hb; have n1_ := Aside0.mk (below_step hb_ hb); clear BK151; clear HB; have BK151 := n0_; have HB := n1_; clear n0_ n1_; (try clear hb); (try clear hb2); (try clear hk); (try clear hi); have hcz10_0 := bc0 BK151; have hcz10_1 := bc1 BK151; have hcz10_2 := bc2 BK151; have hcz10_3 := bc3 BK151; have hcz10_4 := bc4 BK151; have hcz10_5 := bc5 BK151; have hfz10_0 := blk_frozen BK151.out 0; have hfz10_1 := blk_frozen BK151.out 1; have hfz10_2 := blk_frozen BK151.out 2; have hfz10_3 := blk_frozen BK151.out 3; have hfz10_4 := blk_frozen BK151.out 4; have hfz10_5 := blk_frozen BK151.out 5) | ((with_reducible refine gate_callee (f := 45) rfl ?_); refine goesL_ (some 13) rfl rfl Try.func45 (by kernel_rfl) rfl #[.agg #[.int .i64 a0_0, .slice A0_1 l0_1.length c0_1, .int .i64 a0_2, .int .i64 a0_3, .slice A0_4 l0_4.length c0_4, .slice A0_5 l0_5.length c0_5], .int .i64 a1, .int .i64 a2] rfl am_ ?_; (with_reducible refine (network_find.calls a0_0 _ _ l0_1 a0_2 a0_3 _ _ l0_4 _ _ l0_5 a1 a2 t153 _ ?side1 ?side2 ?side3 ?side4 ?side5 ?side6 A6.out).mono ?_); (case side1 | side3 | side5 => exact cb_); (case side2 | side4 | side6 => first | exact HC0_1.out | exact HC0_4.out | exact HC0_5.out); rintro e w11 ⟨rfl, hb⟩; refine ⟨_, rfl, ?_⟩; have n0_ := bk_ BK151 hb; have n1_ := Aside0.mk (below_step hb_ hb); clear BK151; clear HB; have BK151 := n0_; have HB := n1_; clear n0_ n1_; (try clear hb); (try clear hb2); (try clear hk); (try clear hi)))
  go_ret
  exact ⟨er_, hb_⟩
 ·
  rw [if_neg c5] at H
  have c5b0 : (t152 == 0) = false := beq_eq_false_iff_ne.mpr c5
  have c5b1 : (t152 != 0) = true := bne_iff_ne.mpr c5
  obtain rfl := Option.some.inj H
  go_enter Try.func16, Try.ntmps16
  go_wp2_with (first | ((with_reducible refine gate_dst (N := 3) rfl ?_); refine bx_ 3 #[.int .i64 a0_0, .slice A0_1 l0_1.length c0_1, .int .i64 a0_2, .int .i64 a0_3, .slice A0_4 l0_4.length c0_4, .slice A0_5 l0_5.length c0_5] 26 ?_; intro gb151 hg w12 hbox hb; have n0_ := Aside0.mk (below_step hb_ hb); have n1_ := Aside0.mk (hbox); have n2_ := Aside0.mk ((by rw [hg]; exact (below_size hb_) : w.heap.size ≤ gb151)); have n3_ := Aside0.mk ((by rw [hg]; exact (below_size hb_) : w.heap.size ≤ gb151)); clear HB; have HB := n0_; have BK151 := n1_; have GW151 := n2_; have GE151 := n3_; clear n0_ n1_ n2_ n3_; clear hb hbox hg; have hcz13_0 := bc0 BK151; have hcz13_1 := bc1 BK151; have hcz13_2 := bc2 BK151; have hcz13_3 := bc3 BK151; have hcz13_4 := bc4 BK151; have hcz13_5 := bc5 BK151; have hfz13_0 := blk_frozen BK151.out 0; have hfz13_1 := blk_frozen BK151.out 1; have hfz13_2 := blk_frozen BK151.out 2; have hfz13_3 := blk_frozen BK151.out 3; have hfz13_4 := blk_frozen BK151.out 4; have hfz13_5 := blk_frozen BK151.out 5) | ((with_reducible refine gate_callee (f := 15) rfl ?_); refine goesL_ (some 8) rfl rfl Try.func15 (by kernel_rfl) rfl #[.agg #[.int .i64 a0_0, .slice A0_1 l0_1.length c0_1, .int .i64 a0_2, .int .i64 a0_3, .slice A0_4 l0_4.length c0_4, .slice A0_5 l0_5.length c0_5]] rfl am_ ?_; (with_reducible refine (network_Check.calls k a0_0 _ _ l0_1 a0_2 a0_3 _ _ l0_4 _ _ l0_5 t152 _ ?side1 ?side2 ?side3 ?side4 ?side5 ?side6 A4.out).mono ?_); (case side1 | side3 | side5 => exact cb_); (case side2 | side4 | side6 => first | exact HC0_1.out | exact HC0_4.out | exact HC0_5.out); rintro e w14 ⟨rfl, hb⟩; refine ⟨_, rfl, ?_⟩; have n0_ := bk_ BK151 hb; have n1_ := Aside0.mk (below_step hb_ hb); clear BK151; clear HB; have BK151 := n0_; have HB := n1_; clear n0_ n1_; (try clear hb); (try clear hb2); (try clear hk); (try clear hi)))
  go_ret
  exact ⟨er_, hb_⟩

/-! ### network_Hears: function 18 -/
def network_Hears.j0 : Nat → Int → Int → Bool → Int → List (List Int) → Int → Int → List (S44) → List Int → Option (Bool)
 | 0, _, _, _, _, _, _, _, _, _ => none
 | k + 1, x1, x2, x21, x163000, x163001, x163002, x163003, x163004, x163005 => if x21 = true then (some false) else ((network_hears.f x163000 x163001 x163002 x163003 x163004 x163005 x1 x2).bind fun t164 => (some t164))
def network_Hears.f (k : Nat) (a0_0 : Int) (l0_1 : List (List Int)) (a0_2 : Int) (a0_3 : Int) (l0_4 : List (S44)) (l0_5 : List Int) (a1 : Int) (a2 : Int) : Option (Bool) := (network_Check.f k a0_0 l0_1 a0_2 a0_3 l0_4 l0_5).bind fun t163 => (if t163 = 0 then (if (mn a1 a2) < 0 then (network_Hears.j0 k a1 a2 true a0_0 l0_1 a0_2 a0_3 l0_4 l0_5) else (network_Hears.j0 k a1 a2 (decide ((mx a1 a2) > 8796093022208)) a0_0 l0_1 a0_2 a0_3 l0_4 l0_5)) else (network_Hears.j0 k a1 a2 true a0_0 l0_1 a0_2 a0_3 l0_4 l0_5))
theorem network_Hears.mono_l : ∀ k, (∀ y0 y1 y2 y3 y4 y5 y6 y7 y8, LeO (network_Hears.j0 k y0 y1 y2 y3 y4 y5 y6 y7 y8) (network_Hears.j0 (k + 1) y0 y1 y2 y3 y4 y5 y6 y7 y8))
 | 0 => fun _ _ _ _ _ _ _ _ _ r h => by simp [network_Hears.j0] at h
 | k + 1 => by
  have ih0 := network_Hears.mono_l k
  ·
   intro y0 y1 y2 y3 y4 y5 y6 y7 y8
   unfold network_Hears.j0
   repeat' first
   | (with_reducible exact ih0 _ _ _ _ _ _ _ _ _)
   | (with_reducible exact network_Check.mono _ _ _ _ _ _ _)
   | (with_reducible exact LeO.refl _)
   | (with_reducible exact LeO.none _)
   | (with_reducible refine LeO.ite ?_ ?_)
   | (with_reducible refine LeO.bind ?_ (fun _ => ?_))
   | exact ih0 _ _ _ _ _ _ _ _ _
   | exact network_Check.mono _ _ _ _ _ _ _
   | exact LeO.none _
   | refine LeO.ite ?_ ?_
   | refine LeO.bind ?_ (fun _ => ?_)
theorem network_Hears.mono : ∀ a0 a1 a2 a3 a4 a5 a6 a7 k, LeO (network_Hears.f k a0 a1 a2 a3 a4 a5 a6 a7) (network_Hears.f (k + 1) a0 a1 a2 a3 a4 a5 a6 a7) := by
 intro a0 a1 a2 a3 a4 a5 a6 a7 k
 have ih0 := network_Hears.mono_l k
 unfold network_Hears.f
 repeat' first
   | (with_reducible exact ih0 _ _ _ _ _ _ _ _ _)
   | (with_reducible exact network_Check.mono _ _ _ _ _ _ _)
   | (with_reducible exact LeO.refl _)
   | (with_reducible exact LeO.none _)
   | (with_reducible refine LeO.ite ?_ ?_)
   | (with_reducible refine LeO.bind ?_ (fun _ => ?_))
   | exact ih0 _ _ _ _ _ _ _ _ _
   | exact network_Check.mono _ _ _ _ _ _ _
   | exact LeO.none _
   | refine LeO.ite ?_ ?_
   | refine LeO.bind ?_ (fun _ => ?_)
set_option maxHeartbeats 8000000 in
set_option maxRecDepth 100000 in
theorem network_Hears.calls (k : Nat) (a0_0 : Int) (A0_1 : Option Addr) (c0_1 : Nat) (l0_1 : List (List Int)) (a0_2 : Int) (a0_3 : Int) (A0_4 : Option Addr) (c0_4 : Nat) (l0_4 : List (S44)) (A0_5 : Option Addr) (c0_5 : Nat) (l0_5 : List Int) (a1 : Int) (a2 : Int) (r : Bool) (w : World) (hr0_1 : Kd.C (Kd.slice 3 (Kd.int .i64)) w A0_1 l0_1.length l0_1) (hc0_1 : l0_1.length ≤ c0_1) (hr0_4 : Kd.C k44 w A0_4 l0_4.length l0_4) (hc0_4 : l0_4.length ≤ c0_4) (hr0_5 : Kd.C (Kd.int .i64) w A0_5 l0_5.length l0_5) (hc0_5 : l0_5.length ≤ c0_5) (h : network_Hears.f k a0_0 l0_1 a0_2 a0_3 l0_4 l0_5 a1 a2 = some r) :
  Calls Try.prog 18 #[.agg #[.int .i64 a0_0, .slice A0_1 l0_1.length c0_1, .int .i64 a0_2, .int .i64 a0_3, .slice A0_4 l0_4.length c0_4, .slice A0_5 l0_5.length c0_5], .int .i64 a1, .int .i64 a2] w fun e w' => e = .returned (.bool r) ∧ Below w.heap.size w w' := by
 have hu26 := Try.underlying26
 have HR0_1 := Aside0.mk hr0_1
 have HC0_1 := Aside0.mk hc0_1
 clear hr0_1 hc0_1
 have HR0_4 := Aside0.mk hr0_4
 have HC0_4 := Aside0.mk hc0_4
 clear hr0_4 hc0_4
 have HR0_5 := Aside0.mk hr0_5
 have HC0_5 := Aside0.mk hc0_5
 clear hr0_5 hc0_5
 have HB := Aside0.mk (Below.refl w.heap.size w)
 have H : ((network_Check.f k a0_0 l0_1 a0_2 a0_3 l0_4 l0_5).bind fun t163 => (if t163 = 0 then (if (mn a1 a2) < 0 then (network_Hears.j0 k a1 a2 true a0_0 l0_1 a0_2 a0_3 l0_4 l0_5) else (network_Hears.j0 k a1 a2 (decide ((mx a1 a2) > 8796093022208)) a0_0 l0_1 a0_2 a0_3 l0_4 l0_5)) else (network_Hears.j0 k a1 a2 true a0_0 l0_1 a0_2 a0_3 l0_4 l0_5))) = some r := h
 clear h
 have HC4 := Aside0.mk H
 clear H
 go_enter Try.func18, Try.ntmps18
 go_upto_region 1 with (first | ((with_reducible refine gate_dst (N := 3) rfl ?_); refine bx_ 3 #[.int .i64 a0_0, .slice A0_1 l0_1.length c0_1, .int .i64 a0_2, .int .i64 a0_3, .slice A0_4 l0_4.length c0_4, .slice A0_5 l0_5.length c0_5] 26 ?_; intro gb162 hg w5 hbox hb; have n0_ := Aside0.mk (below_step hb_ hb); have n1_ := Aside0.mk (hbox); have n2_ := Aside0.mk ((by rw [hg]; exact (below_size hb_) : w.heap.size ≤ gb162)); have n3_ := Aside0.mk ((by rw [hg]; exact (below_size hb_) : w.heap.size ≤ gb162)); clear HB; have HB := n0_; have BK162 := n1_; have GW162 := n2_; have GE162 := n3_; clear n0_ n1_ n2_ n3_; clear hb hbox hg))
 (try simp only [Act.put, List.setIfInBounds_toArray, List.set_cons_zero, List.set_cons_succ])
 go_cut [21] (fun v21 wc => ∃ (kq : Nat) (x21_3 : Bool), v21 = .bool x21_3 ∧ Aside0 (network_Hears.j0 kq a1 a2 x21_3 a0_0 l0_1 a0_2 a0_3 l0_4 l0_5 = some r) ∧ Aside0 (kq ≤ k) ∧ Aside0 (wc.heap[gb162]? = some (.cells #[.int .i64 a0_0, (.slice A0_1 l0_1.length c0_1), .int .i64 a0_2, .int .i64 a0_3, (.slice A0_4 l0_4.length c0_4), (.slice A0_5 l0_5.length c0_5)] 26 (0, 0))) ∧ Aside0 (Below w.heap.size w wc))
 case first =>
  have H := HC4.out
  clear HC4
  replace H := Option.bind_eq_some_iff.mp H
  obtain ⟨t163, A60, H⟩ := H
  replace H : (if t163 = 0 then (if (mn a1 a2) < 0 then (network_Hears.j0 k a1 a2 true a0_0 l0_1 a0_2 a0_3 l0_4 l0_5) else (network_Hears.j0 k a1 a2 (decide ((mx a1 a2) > 8796093022208)) a0_0 l0_1 a0_2 a0_3 l0_4 l0_5)) else (network_Hears.j0 k a1 a2 true a0_0 l0_1 a0_2 a0_3 l0_4 l0_5)) = some r := H
  have A6 := Aside0.mk A60
  clear A60
  by_cases c7 : t163 = 0
  ·
   rw [if_pos c7] at H
   have c7b0 : (t163 == 0) = true := beq_iff_eq.mpr c7
   have c7b1 : (t163 != 0) = false := bne_eq_false_iff_eq.mpr c7
   clear c7
   (first | rw [c7b0] | (simp only [i64_w, i32_w]; rw [c7b0]) | skip)
   obtain ⟨ji8, hji8⟩ : ∃ j_ : Int, (mn a1 a2) = j_ := ⟨_, rfl⟩
   replace H : (if (ji8) < 0 then (network_Hears.j0 k a1 a2 true a0_0 l0_1 a0_2 a0_3 l0_4 l0_5) else (network_Hears.j0 k a1 a2 (decide ((mx a1 a2) > 8796093022208)) a0_0 l0_1 a0_2 a0_3 l0_4 l0_5)) = some r := by first | (rw [hji8] at H; exact H) | (simp only [hji8] at H ⊢; exact H)
   (try rw [hji8] at A6)
   have hji8_ : (if a2 < a1 then a2 else a1) = ji8 := hji8
   by_cases c9 : (ji8) < 0
   ·
    rw [if_pos c9] at H
    have c9b0 : decide ((ji8) < 0) = true := decide_eq_true c9
    clear c9
    have H' := Aside0.mk H
    clear H
    have hcz10_0 := bc0 BK162
    have hcz10_1 := bc1 BK162
    have hcz10_2 := bc2 BK162
    have hcz10_3 := bc3 BK162
    have hcz10_4 := bc4 BK162
    have hcz10_5 := bc5 BK162
    have hfz10_0 := blk_frozen BK162.out 0
    have hfz10_1 := blk_frozen BK162.out 1
    have hfz10_2 := blk_frozen BK162.out 2
    have hfz10_3 := blk_frozen BK162.out 3
    have hfz10_4 := blk_frozen BK162.out 4
    have hfz10_5 := blk_frozen BK162.out 5
    go_wp2_with (first | ((with_reducible refine gate_callee (f := 15) rfl ?_); refine goesL_ (some 8) rfl rfl Try.func15 (by kernel_rfl) rfl #[.agg #[.int .i64 a0_0, .slice A0_1 l0_1.length c0_1, .int .i64 a0_2, .int .i64 a0_3, .slice A0_4 l0_4.length c0_4, .slice A0_5 l0_5.length c0_5]] rfl am_ ?_; (with_reducible refine (network_Check.calls k a0_0 _ _ l0_1 a0_2 a0_3 _ _ l0_4 _ _ l0_5 t163 _ ?side1 ?side2 ?side3 ?side4 ?side5 ?side6 A6.out).mono ?_); (case side1 | side3 | side5 => exact cb_); (case side2 | side4 | side6 => first | exact HC0_1.out | exact HC0_4.out | exact HC0_5.out); rintro e w11 ⟨rfl, hb⟩; refine ⟨_, rfl, ?_⟩; have n0_ := bk_ BK162 hb; have n1_ := Aside0.mk (below_step hb_ hb); clear BK162; clear HB; have BK162 := n0_; have HB := n1_; clear n0_ n1_; (try clear hb); (try clear hb2); (try clear hk); (try clear hi)))
    go_meet
    case rel => exact ⟨_, (true), rl_, H', ⟨by first | omega | exact Nat.le_refl _⟩, ⟨bj_ BK162⟩, ⟨hb_⟩⟩
   ·
    rw [if_neg c9] at H
    have c9b0 : decide ((ji8) < 0) = false := decide_eq_false c9
    clear c9
    obtain ⟨ji12, hji12⟩ : ∃ j_ : Int, (mx a1 a2) = j_ := ⟨_, rfl⟩
    replace H : (network_Hears.j0 k a1 a2 (decide ((ji12) > 8796093022208)) a0_0 l0_1 a0_2 a0_3 l0_4 l0_5) = some r := by first | (rw [hji12] at H; exact H) | (simp only [hji12] at H ⊢; exact H)
    (try rw [hji12] at A6)
    have hji12_ : (if a1 < a2 then a2 else a1) = ji12 := hji12
    have H' := Aside0.mk H
    clear H
    have hcz13_0 := bc0 BK162
    have hcz13_1 := bc1 BK162
    have hcz13_2 := bc2 BK162
    have hcz13_3 := bc3 BK162
    have hcz13_4 := bc4 BK162
    have hcz13_5 := bc5 BK162
    have hfz13_0 := blk_frozen BK162.out 0
    have hfz13_1 := blk_frozen BK162.out 1
    have hfz13_2 := blk_frozen BK162.out 2
    have hfz13_3 := blk_frozen BK162.out 3
    have hfz13_4 := blk_frozen BK162.out 4
    have hfz13_5 := blk_frozen BK162.out 5
    go_wp2_with (first | ((with_reducible refine gate_callee (f := 15) rfl ?_); refine goesL_ (some 8) rfl rfl Try.func15 (by kernel_rfl) rfl #[.agg #[.int .i64 a0_0, .slice A0_1 l0_1.length c0_1, .int .i64 a0_2, .int .i64 a0_3, .slice A0_4 l0_4.length c0_4, .slice A0_5 l0_5.length c0_5]] rfl am_ ?_; (with_reducible refine (network_Check.calls k a0_0 _ _ l0_1 a0_2 a0_3 _ _ l0_4 _ _ l0_5 t163 _ ?side1 ?side2 ?side3 ?side4 ?side5 ?side6 A6.out).mono ?_); (case side1 | side3 | side5 => exact cb_); (case side2 | side4 | side6 => first | exact HC0_1.out | exact HC0_4.out | exact HC0_5.out); rintro e w14 ⟨rfl, hb⟩; refine ⟨_, rfl, ?_⟩; have n0_ := bk_ BK162 hb; have n1_ := Aside0.mk (below_step hb_ hb); clear BK162; clear HB; have BK162 := n0_; have HB := n1_; clear n0_ n1_; (try clear hb); (try clear hb2); (try clear hk); (try clear hi)))
    go_meet
    case rel => exact ⟨_, (decide ((ji12) > 8796093022208)), (by first | rfl | (simp; done) | (simp only [← hji12] <;> (first | rfl | simp)) | (simp [*]; done)), H', ⟨by first | omega | exact Nat.le_refl _⟩, ⟨bj_ BK162⟩, ⟨hb_⟩⟩
  ·
   rw [if_neg c7] at H
   have c7b0 : (t163 == 0) = false := beq_eq_false_iff_ne.mpr c7
   have c7b1 : (t163 != 0) = true := bne_iff_ne.mpr c7
   (first | rw [c7b0] | (simp only [i64_w, i32_w]; rw [c7b0]) | skip)
   have H' := Aside0.mk H
   clear H
   have hcz15_0 := bc0 BK162
   have hcz15_1 := bc1 BK162
   have hcz15_2 := bc2 BK162
   have hcz15_3 := bc3 BK162
   have hcz15_4 := bc4 BK162
   have hcz15_5 := bc5 BK162
   have hfz15_0 := blk_frozen BK162.out 0
   have hfz15_1 := blk_frozen BK162.out 1
   have hfz15_2 := blk_frozen BK162.out 2
   have hfz15_3 := blk_frozen BK162.out 3
   have hfz15_4 := blk_frozen BK162.out 4
   have hfz15_5 := blk_frozen BK162.out 5
   go_wp2_with (first | ((with_reducible refine gate_callee (f := 15) rfl ?_); refine goesL_ (some 8) rfl rfl Try.func15 (by kernel_rfl) rfl #[.agg #[.int .i64 a0_0, .slice A0_1 l0_1.length c0_1, .int .i64 a0_2, .int .i64 a0_3, .slice A0_4 l0_4.length c0_4, .slice A0_5 l0_5.length c0_5]] rfl am_ ?_; (with_reducible refine (network_Check.calls k a0_0 _ _ l0_1 a0_2 a0_3 _ _ l0_4 _ _ l0_5 t163 _ ?side1 ?side2 ?side3 ?side4 ?side5 ?side6 A6.out).mono ?_); (case side1 | side3 | side5 => exact cb_); (case side2 | side4 | side6 => first | exact HC0_1.out | exact HC0_4.out | exact HC0_5.out); rintro e w16 ⟨rfl, hb⟩; refine ⟨_, rfl, ?_⟩; have n0_ := bk_ BK162 hb; have n1_ := Aside0.mk (below_step hb_ hb); clear BK162; clear HB; have BK162 := n0_; have HB := n1_; clear n0_ n1_; (try clear hb); (try clear hb2); (try clear hk); (try clear hi)))
   go_meet
   case rel => exact ⟨_, (true), rl_, H', ⟨by first | omega | exact Nat.le_refl _⟩, ⟨bj_ BK162⟩, ⟨hb_⟩⟩
 case rest =>
  clear HC4
  try clear c1; try clear p2; try clear c7; try clear c7b0; try clear c7b1; try clear c9; try clear c9b0; try clear c15; try clear hcz10_0; try clear hcz10_1; try clear hcz10_2; try clear hcz10_3; try clear hcz10_4; try clear hcz10_5; try clear hcz13_0; try clear hcz13_1; try clear hcz13_2; try clear hcz13_3; try clear hcz13_4; try clear hcz13_5; try clear hcz15_0; try clear hcz15_1; try clear hcz15_2; try clear hcz15_3; try clear hcz15_4; try clear hcz15_5; try clear hfz10_0; try clear hfz10_1; try clear hfz10_2; try clear hfz10_3; try clear hfz10_4; try clear hfz10_5; try clear hfz13_0; try clear hfz13_1; try clear hfz13_2; try clear hfz13_3; try clear hfz13_4; try clear hfz13_5; try clear hfz15_0; try clear hfz15_1; try clear hfz15_2; try clear hfz15_3; try clear hfz15_4; try clear hfz15_5
  (repeat clear BK162); (repeat clear HB)
  obtain ⟨kq, x21_3, rfl, HA, HJ3, BK162, HB⟩ := hcut
  cases kq with
  | zero => exact absurd HA.out (by simp [network_Hears.j0])
  | succ kj3 =>
   have H := HA.out
   clear HA
   simp only [network_Hears.j0] at H
   by_cases c17 : x21_3 = true
   ·
    subst c17
    have H1 : (some false) = some r := by rw [if_pos rfl] at H; exact H
    clear H
    have H := H1
    clear H1
    obtain rfl := Option.some.inj H
    go_wp2
    go_ret
    exact ⟨er_, hb_⟩
   ·
    replace c17 := Bool.eq_false_iff.mpr c17
    subst c17
    have H1 : ((network_hears.f a0_0 l0_1 a0_2 a0_3 l0_4 l0_5 a1 a2).bind fun t164 => (some t164)) = some r := by rw [if_neg (show ¬ (false = true) by decide)] at H; exact H
    clear H
    have H := H1
    clear H1
    replace H := Option.bind_eq_some_iff.mp H
    obtain ⟨t164, A180, H⟩ := H
    replace H : (some t164) = some r := H
    have A18 := Aside0.mk A180
    clear A180
    obtain rfl := Option.some.inj H
    have hcz19_0 := bc0 BK162
    have hcz19_1 := bc1 BK162
    have hcz19_2 := bc2 BK162
    have hcz19_3 := bc3 BK162
    have hcz19_4 := bc4 BK162
    have hcz19_5 := bc5 BK162
    have hfz19_0 := blk_frozen BK162.out 0
    have hfz19_1 := blk_frozen BK162.out 1
    have hfz19_2 := blk_frozen BK162.out 2
    have hfz19_3 := blk_frozen BK162.out 3
    have hfz19_4 := blk_frozen BK162.out 4
    have hfz19_5 := blk_frozen BK162.out 5
    go_wp2_with (first | ((with_reducible refine gate_callee (f := 46) rfl ?_); refine goesL_ (some 25) rfl rfl Try.func46 (by kernel_rfl) rfl #[.agg #[.int .i64 a0_0, .slice A0_1 l0_1.length c0_1, .int .i64 a0_2, .int .i64 a0_3, .slice A0_4 l0_4.length c0_4, .slice A0_5 l0_5.length c0_5], .int .i64 a1, .int .i64 a2] rfl am_ ?_; (with_reducible refine (network_hears.calls a0_0 _ _ l0_1 a0_2 a0_3 _ _ l0_4 _ _ l0_5 a1 a2 t164 _ ?side1 ?side2 ?side3 ?side4 ?side5 ?side6 A18.out).mono ?_); (case side1 | side3 | side5 => exact cb_); (case side2 | side4 | side6 => first | exact HC0_1.out | exact HC0_4.out | exact HC0_5.out); rintro e w20 ⟨rfl, hb⟩; refine ⟨_, rfl, ?_⟩; have n0_ := bk_ BK162 hb; have n1_ := Aside0.mk (below_step hb_ hb); clear BK162; clear HB; have BK162 := n0_; have HB := n1_; clear n0_ n1_; (try clear hb); (try clear hb2); (try clear hk); (try clear hi)))
    go_ret
    exact ⟨er_, hb_⟩

/-! ### network_usable: function 51 -/
def network_usable.f (a0_0 : Int) (l0_1 : List (List Int)) (a0_2 : Int) (a0_3 : Int) (l0_4 : List (S44)) (l0_5 : List Int) (a1 : Int) : Option (Bool) := if 0 ≤ a1 then (if a1 < (l0_4.length : Int) then ((network_find.f a0_0 l0_1 a0_2 a0_3 l0_4 l0_5 ((rd_T44 l0_4 a1).f1) ((rd_T44 l0_4 a1).f0)).bind fun t348 => (if t348 ≥ 0 then (if a1 < (l0_5.length : Int) then ((network_hears.f a0_0 l0_1 a0_2 a0_3 l0_4 l0_5 (rd l0_5 a1) 0).bind fun t350 => (if t350 = true then (if 0 ≤ t348 then (if t348 < (l0_5.length : Int) then ((network_hears.f a0_0 l0_1 a0_2 a0_3 l0_4 l0_5 (rd l0_5 t348) 0).bind fun t352 => (some t352)) else (none)) else (none)) else (some false))) else (none)) else (some false))) else (none)) else (none)
def network_usable.T1 : Bool × List (List Nat × List Nat) := (true, [([], []), ([], []), ([1], [1]), ([], []), ([2, 3], [2, 3]), ([4], [4]), ([5], [5]), ([], []), ([7], [7]), ([], []), ([8, 9], [8, 9]), ([10], [10]), ([11], [11]), ([0, 6, 12], [0, 6, 12]), ([13, 13, 0, 1, 2, 3, 4, 5, 6, 7, 8, 9, 10, 11, 12, 13], [13])])
def network_usable.B1 : List Nat := [0, 0, 2, 0, 14, 30, 62, 0, 128, 0, 896, 1920, 3968, 8191, 16383]
theorem network_usable.tab1 : rtab .any (opsOf Try.f51 1) = network_usable.T1 := by kernel_rfl
theorem network_usable.bits1 : waitsOk network_usable.T1.2 network_usable.B1 = true := by kernel_rfl
def network_usable.T2 : Bool × List (List Nat × List Nat) := (true, [([], []), ([0], [0]), ([1], [1]), ([2], [2]), ([2], [2]), ([4, 2], [2, 4]), ([2], [2]), ([5, 6, 2], [2, 5, 6]), ([7, 2], [2, 7]), ([3, 8, 2, 2], [2, 3, 8]), ([2, 9], [2, 9]), ([10, 9], [10]), ([11], [11]), ([11], [11]), ([13, 11], [11, 13]), ([11], [11]), ([14, 15, 11], [11, 14, 15]), ([16, 11], [11, 16]), ([12, 17, 11, 11], [11, 12, 17]), ([11, 18], [11, 18]), ([19, 18, 0, 1, 2, 3, 4, 5, 6, 7, 8, 9, 10, 11, 12, 13, 14, 15, 16, 17, 18, 19], [19])])
def network_usable.B2 : List Nat := [0, 1, 3, 7, 7, 23, 7, 119, 247, 511, 1023, 2047, 4095, 4095, 12287, 4095, 61439, 126975, 262143, 524287, 1048575]
theorem network_usable.tab2 : rtab .any (opsOf Try.f51 2) = network_usable.T2 := by kernel_rfl
theorem network_usable.bits2 : waitsOk network_usable.T2.2 network_usable.B2 = true := by kernel_rfl
set_option maxHeartbeats 8000000 in
set_option maxRecDepth 100000 in
theorem network_usable.calls (a0_0 : Int) (A0_1 : Option Addr) (c0_1 : Nat) (l0_1 : List (List Int)) (a0_2 : Int) (a0_3 : Int) (A0_4 : Option Addr) (c0_4 : Nat) (l0_4 : List (S44)) (A0_5 : Option Addr) (c0_5 : Nat) (l0_5 : List Int) (a1 : Int) (r : Bool) (w : World) (hr0_1 : Kd.C (Kd.slice 3 (Kd.int .i64)) w A0_1 l0_1.length l0_1) (hc0_1 : l0_1.length ≤ c0_1) (hr0_4 : Kd.C k44 w A0_4 l0_4.length l0_4) (hc0_4 : l0_4.length ≤ c0_4) (hr0_5 : Kd.C (Kd.int .i64) w A0_5 l0_5.length l0_5) (hc0_5 : l0_5.length ≤ c0_5) (h : network_usable.f a0_0 l0_1 a0_2 a0_3 l0_4 l0_5 a1 = some r) :
  Calls Try.prog 51 #[.agg #[.int .i64 a0_0, .slice A0_1 l0_1.length c0_1, .int .i64 a0_2, .int .i64 a0_3, .slice A0_4 l0_4.length c0_4, .slice A0_5 l0_5.length c0_5], .int .i64 a1] w fun e w' => e = .returned (.bool r) ∧ Below w.heap.size w w' := by
 have hu26 := Try.underlying26
 have HR0_1 := Aside0.mk hr0_1
 have HC0_1 := Aside0.mk hc0_1
 clear hr0_1 hc0_1
 have HR0_4 := Aside0.mk hr0_4
 have HC0_4 := Aside0.mk hc0_4
 clear hr0_4 hc0_4
 have HR0_5 := Aside0.mk hr0_5
 have HC0_5 := Aside0.mk hc0_5
 clear hr0_5 hc0_5
 have HB := Aside0.mk (Below.refl w.heap.size w)
 have H : (if 0 ≤ a1 then (if a1 < (l0_4.length : Int) then ((network_find.f a0_0 l0_1 a0_2 a0_3 l0_4 l0_5 ((rd_T44 l0_4 a1).f1) ((rd_T44 l0_4 a1).f0)).bind fun t348 => (if t348 ≥ 0 then (if a1 < (l0_5.length : Int) then ((network_hears.f a0_0 l0_1 a0_2 a0_3 l0_4 l0_5 (rd l0_5 a1) 0).bind fun t350 => (if t350 = true then (if 0 ≤ t348 then (if t348 < (l0_5.length : Int) then ((network_hears.f a0_0 l0_1 a0_2 a0_3 l0_4 l0_5 (rd l0_5 t348) 0).bind fun t352 => (some t352)) else (none)) else (none)) else (some false))) else (none)) else (some false))) else (none)) else (none)) = some r := h
 clear h
 by_cases c3 : 0 ≤ a1
 ·
  rw [if_pos c3] at H
  have c3b0 : decide (0 ≤ a1) = true := decide_eq_true c3
  clear c3
  by_cases c4 : a1 < (l0_4.length : Int)
  ·
   rw [if_pos c4] at H
   have c4b0 : decide (a1 < (l0_4.length : Int)) = true := decide_eq_true c4
   clear c4
   replace H := Option.bind_eq_some_iff.mp H
   obtain ⟨t348, A50, H⟩ := H
   replace H : (if t348 ≥ 0 then (if a1 < (l0_5.length : Int) then ((network_hears.f a0_0 l0_1 a0_2 a0_3 l0_4 l0_5 (rd l0_5 a1) 0).bind fun t350 => (if t350 = true then (if 0 ≤ t348 then (if t348 < (l0_5.length : Int) then ((network_hears.f a0_0 l0_1 a0_2 a0_3 l0_4 l0_5 (rd l0_5 t348) 0).bind fun t352 => (some t352)) else (none)) else (none)) else (some false))) else (none)) else (some false)) = some r := H
   have A5 := Aside0.mk A50
   clear A50
   by_cases c6 : t348 ≥ 0
   ·
    rw [if_pos c6] at H
    have c6b0 : decide (0 ≤ t348) = true := decide_eq_true c6
    clear c6
    by_cases c7 : a1 < (l0_5.length : Int)
    ·
     rw [if_pos c7] at H
     have c7b0 : decide (a1 < (l0_5.length : Int)) = true := decide_eq_true c7
     clear c7
     replace H := Option.bind_eq_some_iff.mp H
     obtain ⟨t350, A80, H⟩ := H
     replace H : (if t350 = true then (if 0 ≤ t348 then (if t348 < (l0_5.length : Int) then ((network_hears.f a0_0 l0_1 a0_2 a0_3 l0_4 l0_5 (rd l0_5 t348) 0).bind fun t352 => (some t352)) else (none)) else (none)) else (some false)) = some r := H
     have A8 := Aside0.mk A80
     clear A80
     by_cases c9 : t350 = true
     ·
      subst c9
      have H1 : (if 0 ≤ t348 then (if t348 < (l0_5.length : Int) then ((network_hears.f a0_0 l0_1 a0_2 a0_3 l0_4 l0_5 (rd l0_5 t348) 0).bind fun t352 => (some t352)) else (none)) else (none)) = some r := by rw [if_pos rfl] at H; exact H
      clear H
      have H := H1
      clear H1
      by_cases c10 : 0 ≤ t348
      ·
       rw [if_pos c10] at H
       have c10b0 : decide (0 ≤ t348) = true := decide_eq_true c10
       clear c10
       by_cases c11 : t348 < (l0_5.length : Int)
       ·
        rw [if_pos c11] at H
        have c11b0 : decide (t348 < (l0_5.length : Int)) = true := decide_eq_true c11
        clear c11
        replace H := Option.bind_eq_some_iff.mp H
        obtain ⟨t352, A120, H⟩ := H
        replace H : (some t352) = some r := H
        have A12 := Aside0.mk A120
        clear A120
        obtain rfl := Option.some.inj H
        go_enter Try.func51, Try.ntmps51
        try go_wp2_with (first | ((with_reducible refine gate_dst (N := 2) rfl ?_); refine bx_ 2 #[.int .i64 a0_0, .slice A0_1 l0_1.length c0_1, .int .i64 a0_2, .int .i64 a0_3, .slice A0_4 l0_4.length c0_4, .slice A0_5 l0_5.length c0_5] 26 ?_; intro gb345 hg w13 hbox hb; have n0_ := Aside0.mk (below_step hb_ hb); have n1_ := Aside0.mk (hbox); have n2_ := Aside0.mk ((by rw [hg]; exact (below_size hb_) : w.heap.size ≤ gb345)); have n3_ := Aside0.mk ((by rw [hg]; exact (below_size hb_) : w.heap.size ≤ gb345)); clear HB; have HB := n0_; have BK345 := n1_; have GW345 := n2_; have GE345 := n3_; clear n0_ n1_ n2_ n3_; clear hb hbox hg))
        have n0_ := Aside0.mk (blk_drew BK345.out)
        have n1_ := Aside0.mk (below_drew1 HB.out)
        clear BK345
        clear HB
        have BK345 := n0_
        have HB := n1_
        clear n0_ n1_
        have p346 : 0 ≤ (a1 : Int) := of_decide_eq_true (by assumption)
        have q346 : a1 < (l0_4.length : Int) := of_decide_eq_true (by assumption)
        obtain ⟨ad346, e346, hx346_0, hx346_1, hx346_2⟩ := at_T44 HR0_4.out a1 p346 q346
        have hw346_2 := hx346_2
        have hw346_1 := hx346_1
        have hw346_0 := hx346_0
        cases e346
        replace hx346_0 := (HB.out.cell (World.block_lt_of_cell? w _ hx346_0)).trans hx346_0
        replace hx346_1 := (HB.out.cell (World.block_lt_of_cell? w _ hx346_1)).trans hx346_1
        replace hx346_2 := (HB.out.cell (World.block_lt_of_cell? w _ hx346_2)).trans hx346_2
        replace p346 := eq_true p346
        replace q346 := eq_true q346
        have p347 : 0 ≤ (a1 : Int) := of_decide_eq_true (by assumption)
        have q347 : a1 < (l0_4.length : Int) := of_decide_eq_true (by assumption)
        obtain ⟨ad347, e347, hx347_0, hx347_1, hx347_2⟩ := at_T44 HR0_4.out a1 p347 q347
        have hw347_2 := hx347_2
        have hw347_1 := hx347_1
        have hw347_0 := hx347_0
        obtain rfl : ad346 = ad347 := (by injection e347)
        replace hx347_0 := (HB.out.cell (World.block_lt_of_cell? w _ hx347_0)).trans hx347_0
        replace hx347_1 := (HB.out.cell (World.block_lt_of_cell? w _ hx347_1)).trans hx347_1
        replace hx347_2 := (HB.out.cell (World.block_lt_of_cell? w _ hx347_2)).trans hx347_2
        replace p347 := eq_true p347
        replace q347 := eq_true q347
        refine start_ (n := 15) (S := fun w' => w'.cell? ⟨gb345, 0, none⟩ = some (.int .i64 a0_0) ∧ w'.cell? ⟨gb345, 1, none⟩ = some (.slice A0_1 l0_1.length c0_1) ∧ w'.cell? ⟨gb345, 2, none⟩ = some (.int .i64 a0_2) ∧ w'.cell? ⟨gb345, 3, none⟩ = some (.int .i64 a0_3) ∧ w'.cell? ⟨gb345, 4, none⟩ = some (.slice (some ad346) l0_4.length c0_4) ∧ w'.cell? ⟨gb345, 5, none⟩ = some (.slice A0_5 l0_5.length c0_5) ∧ w'.cell? (ad346.add ((a1).toNat * 3)) = some (.int .i64 ((rd_T44 l0_4 a1).f0)) ∧ w'.cell? ⟨(ad346.add ((a1).toNat * 3)).block, (ad346.add ((a1).toNat * 3)).off + 1, none⟩ = some (.int .i64 ((rd_T44 l0_4 a1).f1)) ∧ w'.cell? ⟨(ad346.add ((a1).toNat * 3)).block, (ad346.add ((a1).toNat * 3)).off + 2, none⟩ = some (.int .i64 ((rd_T44 l0_4 a1).f2)) ∧ w'.cell? (ad346.add ((a1).toNat * 3)) = some (.int .i64 ((rd_T44 l0_4 a1).f0)) ∧ w'.cell? ⟨(ad346.add ((a1).toNat * 3)).block, (ad346.add ((a1).toNat * 3)).off + 1, none⟩ = some (.int .i64 ((rd_T44 l0_4 a1).f1)) ∧ w'.cell? ⟨(ad346.add ((a1).toNat * 3)).block, (ad346.add ((a1).toNat * 3)).off + 2, none⟩ = some (.int .i64 ((rd_T44 l0_4 a1).f2))) (ds := []) #[false, false, false, false, false, false, false, false, false, false, false, false, false, false, false] (by kernel_rfl) rfl rfl ⟨(blk_cell BK345.out 0).trans rfl, (blk_cell BK345.out 1).trans rfl, (blk_cell BK345.out 2).trans rfl, (blk_cell BK345.out 3).trans rfl, (blk_cell BK345.out 4).trans rfl, (blk_cell BK345.out 5).trans rfl, ((HB.out.cell (World.block_lt_of_cell? w _ hw346_0)).trans hw346_0), ((HB.out.cell (World.block_lt_of_cell? w _ hw346_1)).trans hw346_1), ((HB.out.cell (World.block_lt_of_cell? w _ hw346_2)).trans hw346_2), ((HB.out.cell (World.block_lt_of_cell? w _ hw347_0)).trans hw347_0), ((HB.out.cell (World.block_lt_of_cell? w _ hw347_1)).trans hw347_1), ((HB.out.cell (World.block_lt_of_cell? w _ hw347_2)).trans hw347_2)⟩ (fun hHeld => ?_); refine with_tabW network_usable.tab1 network_usable.bits1 (fun HT_ HW_ => ?_)
        generalize w13.drew = w14 at BK345 HB hx346_0 hx346_1 hx346_2 hx347_0 hx347_1 hx347_2 hHeld ⊢
        refine pu_ HT_ 1 7 (bl 15 2) ?_
        refine pu_ HT_ 3 9 (bl 15 10) ?_
        refine pu_ HT_ 7 13 (bl 15 138) ?_
        refine pu_ HT_ 9 15 (bl 15 650) ?_
        refine tk_ HT_ HW_ hHeld 0 6 (bl 15 651) ?_
        refine tk_ HT_ HW_ hHeld 2 8 (bl 15 655) ?_
        refine pu_ HT_ 4 10 (bl 15 671) ?_
        refine pu_ HT_ 5 11 (bl 15 703) ?_
        refine tk_ HT_ HW_ hHeld 6 12 (bl 15 767) ?_
        refine tk_ HT_ HW_ hHeld 8 14 (bl 15 1023) ?_
        refine pu_ HT_ 10 16 (bl 15 2047) ?_
        refine pu_ HT_ 11 17 (bl 15 4095) ?_
        refine tk_ HT_ HW_ hHeld 12 18 (bl 15 8191) ?_
        refine one_ (i := 13) (N := some 19) (bl 15 16383) rfl rfl (one_of HT_.out (by kernel_rfl)) (by decide) (fun K hK => ?_)
        refine goes_ Try.func45 (by kernel_rfl) rfl #[.agg #[.int .i64 a0_0, .slice A0_1 l0_1.length c0_1, .int .i64 a0_2, .int .i64 a0_3, .slice (some ad346) l0_4.length c0_4, .slice A0_5 l0_5.length c0_5], .int .i64 ((rd_T44 l0_4 a1).f1), .int .i64 ((rd_T44 l0_4 a1).f0)] (by rfl) rfl rfl am_ ?_
        with_reducible refine (network_find.calls a0_0 _ _ l0_1 a0_2 a0_3 _ _ l0_4 _ _ l0_5 ((rd_T44 l0_4 a1).f1) ((rd_T44 l0_4 a1).f0) t348 _ ?side1 ?side2 ?side3 ?side4 ?side5 ?side6 A5.out).mono ?_
        (case side1 | side3 | side5 => exact cb_)
        (case side2 | side4 | side6 => first | exact HC0_1.out | exact HC0_4.out | exact HC0_5.out)
        rintro e w15 ⟨rfl, hb⟩
        refine ⟨_, rfl, ?_⟩
        have n0_ := bk_ BK345 hb
        have n1_ := Aside0.mk (below_step hb_ hb)
        clear BK345
        clear HB
        have BK345 := n0_
        have HB := n1_
        clear n0_ n1_
        (try clear hb)
        (try clear hb2)
        (try clear hk)
        (try clear hi)
        refine hK.out _ _ ⟨(blk_cell BK345.out 0).trans rfl, (blk_cell BK345.out 1).trans rfl, (blk_cell BK345.out 2).trans rfl, (blk_cell BK345.out 3).trans rfl, (blk_cell BK345.out 4).trans rfl, (blk_cell BK345.out 5).trans rfl, ((HB.out.cell (World.block_lt_of_cell? w _ hw346_0)).trans hw346_0), ((HB.out.cell (World.block_lt_of_cell? w _ hw346_1)).trans hw346_1), ((HB.out.cell (World.block_lt_of_cell? w _ hw346_2)).trans hw346_2), ((HB.out.cell (World.block_lt_of_cell? w _ hw347_0)).trans hw347_0), ((HB.out.cell (World.block_lt_of_cell? w _ hw347_1)).trans hw347_1), ((HB.out.cell (World.block_lt_of_cell? w _ hw347_2)).trans hw347_2)⟩ (fun hHeld => ?_)
        clear hK K
        refine norm_ (a' := ?_) ?_ ?_
        rotate_left
        ·
         show Act.put _ (some 19) _ = _
         simp only [ap_, s0_, s1_, i64_w]
         rfl
        refine pu_ HT_ 14 5 (bl 15 32767) ?_
        refine done_ (done_of HT_.out (by kernel_rfl)) ?_
        try go_wp2
        have n0_ := Aside0.mk (blk_drew BK345.out)
        have n1_ := Aside0.mk (below_drew1 HB.out)
        clear BK345
        clear HB
        have BK345 := n0_
        have HB := n1_
        clear n0_ n1_
        have p349 : 0 ≤ (a1 : Int) := of_decide_eq_true (by assumption)
        have q349 : a1 < (l0_5.length : Int) := of_decide_eq_true (by assumption)
        obtain ⟨ad349, e349, hx349_0⟩ := Kd.at_int HR0_5.out a1 p349 q349
        have hw349_0 := hx349_0
        cases e349
        replace hx349_0 := (HB.out.cell (World.block_lt_of_cell? w _ hx349_0)).trans hx349_0
        replace p349 := eq_true p349
        replace q349 := eq_true q349
        have p351 : 0 ≤ (t348 : Int) := of_decide_eq_true (by assumption)
        have q351 : t348 < (l0_5.length : Int) := of_decide_eq_true (by assumption)
        obtain ⟨ad351, e351, hx351_0⟩ := Kd.at_int HR0_5.out t348 p351 q351
        have hw351_0 := hx351_0
        obtain rfl : ad349 = ad351 := (by injection e351)
        replace hx351_0 := (HB.out.cell (World.block_lt_of_cell? w _ hx351_0)).trans hx351_0
        replace p351 := eq_true p351
        replace q351 := eq_true q351
        refine start_ (n := 21) (S := fun w' => w'.cell? ⟨gb345, 0, none⟩ = some (.int .i64 a0_0) ∧ w'.cell? ⟨gb345, 1, none⟩ = some (.slice A0_1 l0_1.length c0_1) ∧ w'.cell? ⟨gb345, 2, none⟩ = some (.int .i64 a0_2) ∧ w'.cell? ⟨gb345, 3, none⟩ = some (.int .i64 a0_3) ∧ w'.cell? ⟨gb345, 4, none⟩ = some (.slice (some ad346) l0_4.length c0_4) ∧ w'.cell? ⟨gb345, 5, none⟩ = some (.slice (some ad349) l0_5.length c0_5) ∧ w'.cell? (ad349.add (a1).toNat) = some (.int .i64 (rd l0_5 a1)) ∧ w'.cell? (ad349.add (t348).toNat) = some (.int .i64 (rd l0_5 t348))) (ds := []) #[false, false, false, false, false, false, false, false, false, false, false, false, false, false, false, false, false, false, false, false, false] (by kernel_rfl) rfl rfl ⟨(blk_cell BK345.out 0).trans rfl, (blk_cell BK345.out 1).trans rfl, (blk_cell BK345.out 2).trans rfl, (blk_cell BK345.out 3).trans rfl, (blk_cell BK345.out 4).trans rfl, (blk_cell BK345.out 5).trans rfl, ((HB.out.cell (World.block_lt_of_cell? w _ hw349_0)).trans hw349_0), ((HB.out.cell (World.block_lt_of_cell? w _ hw351_0)).trans hw351_0)⟩ (fun hHeld => ?_); refine with_tabW network_usable.tab2 network_usable.bits2 (fun HT_ HW_ => ?_)
        generalize w15.drew = w16 at BK345 HB hx349_0 hx351_0 hHeld ⊢
        refine pu_ HT_ 0 20 (bl 21 1) ?_
        refine pu_ HT_ 1 21 (bl 21 3) ?_
        refine pu_ HT_ 2 22 (bl 21 7) ?_
        refine pu_ HT_ 4 24 (bl 21 23) ?_
        refine pu_ HT_ 6 26 (bl 21 87) ?_
        refine tk_ HT_ HW_ hHeld 3 23 (bl 21 95) ?_
        refine tk_ HT_ HW_ hHeld 5 25 (bl 21 127) ?_
        refine pu_ HT_ 7 27 (bl 21 255) ?_
        refine tk_ HT_ HW_ hHeld 8 28 (bl 21 511) ?_
        refine one_ (i := 9) (N := some 29) (bl 21 1023) rfl rfl (one_of HT_.out (by kernel_rfl)) (by decide) (fun K hK => ?_)
        refine goes_ Try.func46 (by kernel_rfl) rfl #[.agg #[.int .i64 a0_0, .slice A0_1 l0_1.length c0_1, .int .i64 a0_2, .int .i64 a0_3, .slice (some ad346) l0_4.length c0_4, .slice (some ad349) l0_5.length c0_5], .int .i64 (rd l0_5 a1), .int .i64 0] (by rfl) rfl rfl am_ ?_
        with_reducible refine (network_hears.calls a0_0 _ _ l0_1 a0_2 a0_3 _ _ l0_4 _ _ l0_5 (rd l0_5 a1) 0 true _ ?side1 ?side2 ?side3 ?side4 ?side5 ?side6 A8.out).mono ?_
        (case side1 | side3 | side5 => exact cb_)
        (case side2 | side4 | side6 => first | exact HC0_1.out | exact HC0_4.out | exact HC0_5.out)
        rintro e w17 ⟨rfl, hb⟩
        refine ⟨_, rfl, ?_⟩
        have n0_ := bk_ BK345 hb
        have n1_ := Aside0.mk (below_step hb_ hb)
        clear BK345
        clear HB
        have BK345 := n0_
        have HB := n1_
        clear n0_ n1_
        (try clear hb)
        (try clear hb2)
        (try clear hk)
        (try clear hi)
        refine hK.out _ _ ⟨(blk_cell BK345.out 0).trans rfl, (blk_cell BK345.out 1).trans rfl, (blk_cell BK345.out 2).trans rfl, (blk_cell BK345.out 3).trans rfl, (blk_cell BK345.out 4).trans rfl, (blk_cell BK345.out 5).trans rfl, ((HB.out.cell (World.block_lt_of_cell? w _ hw349_0)).trans hw349_0), ((HB.out.cell (World.block_lt_of_cell? w _ hw351_0)).trans hw351_0)⟩ (fun hHeld => ?_)
        clear hK K
        refine norm_ (a' := ?_) ?_ ?_
        rotate_left
        ·
         show Act.put _ (some 29) _ = _
         simp only [ap_, s0_, s1_, i64_w]
         rfl
        refine pu_ HT_ 10 30 (bl 21 2047) ?_
        refine pu_ HT_ 11 31 (bl 21 4095) ?_
        refine pu_ HT_ 13 33 (bl 21 12287) ?_
        refine pu_ HT_ 15 35 (bl 21 45055) ?_
        refine tk_ HT_ HW_ hHeld 12 32 (bl 21 49151) ?_
        refine tk_ HT_ HW_ hHeld 14 34 (bl 21 65535) ?_
        refine pu_ HT_ 16 36 (bl 21 131071) ?_
        refine tk_ HT_ HW_ hHeld 17 37 (bl 21 262143) ?_
        refine one_ (i := 18) (N := some 38) (bl 21 524287) rfl rfl (one_of HT_.out (by kernel_rfl)) (by decide) (fun K hK => ?_)
        refine goes_ Try.func46 (by kernel_rfl) rfl #[.agg #[.int .i64 a0_0, .slice A0_1 l0_1.length c0_1, .int .i64 a0_2, .int .i64 a0_3, .slice (some ad346) l0_4.length c0_4, .slice (some ad349) l0_5.length c0_5], .int .i64 (rd l0_5 t348), .int .i64 0] (by rfl) rfl rfl am_ ?_
        with_reducible refine (network_hears.calls a0_0 _ _ l0_1 a0_2 a0_3 _ _ l0_4 _ _ l0_5 (rd l0_5 t348) 0 t352 _ ?side1 ?side2 ?side3 ?side4 ?side5 ?side6 A12.out).mono ?_
        (case side1 | side3 | side5 => exact cb_)
        (case side2 | side4 | side6 => first | exact HC0_1.out | exact HC0_4.out | exact HC0_5.out)
        rintro e w18 ⟨rfl, hb⟩
        refine ⟨_, rfl, ?_⟩
        have n0_ := bk_ BK345 hb
        have n1_ := Aside0.mk (below_step hb_ hb)
        clear BK345
        clear HB
        have BK345 := n0_
        have HB := n1_
        clear n0_ n1_
        (try clear hb)
        (try clear hb2)
        (try clear hk)
        (try clear hi)
        refine hK.out _ _ ⟨(blk_cell BK345.out 0).trans rfl, (blk_cell BK345.out 1).trans rfl, (blk_cell BK345.out 2).trans rfl, (blk_cell BK345.out 3).trans rfl, (blk_cell BK345.out 4).trans rfl, (blk_cell BK345.out 5).trans rfl, ((HB.out.cell (World.block_lt_of_cell? w _ hw349_0)).trans hw349_0), ((HB.out.cell (World.block_lt_of_cell? w _ hw351_0)).trans hw351_0)⟩ (fun hHeld => ?_)
        clear hK K
        refine norm_ (a' := ?_) ?_ ?_
        rotate_left
        ·
         show Act.put _ (some 38) _ = _
         simp only [ap_, s0_, s1_, i64_w]
         rfl
        refine pu_ HT_ 19 39 (bl 21 1048575) ?_
        refine pu_ HT_ 20 4 (bl 21 2097151) ?_
        refine done_ (done_of HT_.out (by kernel_rfl)) ?_
        try go_wp2
        go_ret
        exact ⟨er_, hb_⟩
       ·
        rw [if_neg c11] at H
        exact absurd H (by simp)
      ·
       rw [if_neg c10] at H
       exact absurd H (by simp)
     ·
      replace c9 := Bool.eq_false_iff.mpr c9
      subst c9
      have H1 : (some false) = some r := by rw [if_neg (show ¬ (false = true) by decide)] at H; exact H
      clear H
      have H := H1
      clear H1
      obtain rfl := Option.some.inj H
      go_enter Try.func51, Try.ntmps51
      try go_wp2_with (first | ((with_reducible refine gate_dst (N := 2) rfl ?_); refine bx_ 2 #[.int .i64 a0_0, .slice A0_1 l0_1.length c0_1, .int .i64 a0_2, .int .i64 a0_3, .slice A0_4 l0_4.length c0_4, .slice A0_5 l0_5.length c0_5] 26 ?_; intro gb345 hg w19 hbox hb; have n0_ := Aside0.mk (below_step hb_ hb); have n1_ := Aside0.mk (hbox); have n2_ := Aside0.mk ((by rw [hg]; exact (below_size hb_) : w.heap.size ≤ gb345)); have n3_ := Aside0.mk ((by rw [hg]; exact (below_size hb_) : w.heap.size ≤ gb345)); clear HB; have HB := n0_; have BK345 := n1_; have GW345 := n2_; have GE345 := n3_; clear n0_ n1_ n2_ n3_; clear hb hbox hg))
      have n0_ := Aside0.mk (blk_drew BK345.out)
      have n1_ := Aside0.mk (below_drew1 HB.out)
      clear BK345
      clear HB
      have BK345 := n0_
      have HB := n1_
      clear n0_ n1_
      have p346 : 0 ≤ (a1 : Int) := of_decide_eq_true (by assumption)
      have q346 : a1 < (l0_4.length : Int) := of_decide_eq_true (by assumption)
      obtain ⟨ad346, e346, hx346_0, hx346_1, hx346_2⟩ := at_T44 HR0_4.out a1 p346 q346
      have hw346_2 := hx346_2
      have hw346_1 := hx346_1
      have hw346_0 := hx346_0
      cases e346
      replace hx346_0 := (HB.out.cell (World.block_lt_of_cell? w _ hx346_0)).trans hx346_0
      replace hx346_1 := (HB.out.cell (World.block_lt_of_cell? w _ hx346_1)).trans hx346_1
      replace hx346_2 := (HB.out.cell (World.block_lt_of_cell? w _ hx346_2)).trans hx346_2
      replace p346 := eq_true p346
      replace q346 := eq_true q346
      have p347 : 0 ≤ (a1 : Int) := of_decide_eq_true (by assumption)
      have q347 : a1 < (l0_4.length : Int) := of_decide_eq_true (by assumption)
      obtain ⟨ad347, e347, hx347_0, hx347_1, hx347_2⟩ := at_T44 HR0_4.out a1 p347 q347
      have hw347_2 := hx347_2
      have hw347_1 := hx347_1
      have hw347_0 := hx347_0
      obtain rfl : ad346 = ad347 := (by injection e347)
      replace hx347_0 := (HB.out.cell (World.block_lt_of_cell? w _ hx347_0)).trans hx347_0
      replace hx347_1 := (HB.out.cell (World.block_lt_of_cell? w _ hx347_1)).trans hx347_1
      replace hx347_2 := (HB.out.cell (World.block_lt_of_cell? w _ hx347_2)).trans hx347_2
      replace p347 := eq_true p347
      replace q347 := eq_true q347
      refine start_ (n := 15) (S := fun w' => w'.cell? ⟨gb345, 0, none⟩ = some (.int .i64 a0_0) ∧ w'.cell? ⟨gb345, 1, none⟩ = some (.slice A0_1 l0_1.length c0_1) ∧ w'.cell? ⟨gb345, 2, none⟩ = some (.int .i64 a0_2) ∧ w'.cell? ⟨gb345, 3, none⟩ = some (.int .i64 a0_3) ∧ w'.cell? ⟨gb345, 4, none⟩ = some (.slice (some ad346) l0_4.length c0_4) ∧ w'.cell? ⟨gb345, 5, none⟩ = some (.slice A0_5 l0_5.length c0_5) ∧ w'.cell? (ad346.add ((a1).toNat * 3)) = some (.int .i64 ((rd_T44 l0_4 a1).f0)) ∧ w'.cell? ⟨(ad346.add ((a1).toNat * 3)).block, (ad346.add ((a1).toNat * 3)).off + 1, none⟩ = some (.int .i64 ((rd_T44 l0_4 a1).f1)) ∧ w'.cell? ⟨(ad346.add ((a1).toNat * 3)).block, (ad346.add ((a1).toNat * 3)).off + 2, none⟩ = some (.int .i64 ((rd_T44 l0_4 a1).f2)) ∧ w'.cell? (ad346.add ((a1).toNat * 3)) = some (.int .i64 ((rd_T44 l0_4 a1).f0)) ∧ w'.cell? ⟨(ad346.add ((a1).toNat * 3)).block, (ad346.add ((a1).toNat * 3)).off + 1, none⟩ = some (.int .i64 ((rd_T44 l0_4 a1).f1)) ∧ w'.cell? ⟨(ad346.add ((a1).toNat * 3)).block, (ad346.add ((a1).toNat * 3)).off + 2, none⟩ = some (.int .i64 ((rd_T44 l0_4 a1).f2))) (ds := []) #[false, false, false, false, false, false, false, false, false, false, false, false, false, false, false] (by kernel_rfl) rfl rfl ⟨(blk_cell BK345.out 0).trans rfl, (blk_cell BK345.out 1).trans rfl, (blk_cell BK345.out 2).trans rfl, (blk_cell BK345.out 3).trans rfl, (blk_cell BK345.out 4).trans rfl, (blk_cell BK345.out 5).trans rfl, ((HB.out.cell (World.block_lt_of_cell? w _ hw346_0)).trans hw346_0), ((HB.out.cell (World.block_lt_of_cell? w _ hw346_1)).trans hw346_1), ((HB.out.cell (World.block_lt_of_cell? w _ hw346_2)).trans hw346_2), ((HB.out.cell (World.block_lt_of_cell? w _ hw347_0)).trans hw347_0), ((HB.out.cell (World.block_lt_of_cell? w _ hw347_1)).trans hw347_1), ((HB.out.cell (World.block_lt_of_cell? w _ hw347_2)).trans hw347_2)⟩ (fun hHeld => ?_); refine with_tabW network_usable.tab1 network_usable.bits1 (fun HT_ HW_ => ?_)
      generalize w19.drew = w20 at BK345 HB hx346_0 hx346_1 hx346_2 hx347_0 hx347_1 hx347_2 hHeld ⊢
      refine pu_ HT_ 1 7 (bl 15 2) ?_
      refine pu_ HT_ 3 9 (bl 15 10) ?_
      refine pu_ HT_ 7 13 (bl 15 138) ?_
      refine pu_ HT_ 9 15 (bl 15 650) ?_
      refine tk_ HT_ HW_ hHeld 0 6 (bl 15 651) ?_
      refine tk_ HT_ HW_ hHeld 2 8 (bl 15 655) ?_
      refine pu_ HT_ 4 10 (bl 15 671) ?_
      refine pu_ HT_ 5 11 (bl 15 703) ?_
      refine tk_ HT_ HW_ hHeld 6 12 (bl 15 767) ?_
      refine tk_ HT_ HW_ hHeld 8 14 (bl 15 1023) ?_
      refine pu_ HT_ 10 16 (bl 15 2047) ?_
      refine pu_ HT_ 11 17 (bl 15 4095) ?_
      refine tk_ HT_ HW_ hHeld 12 18 (bl 15 8191) ?_
      refine one_ (i := 13) (N := some 19) (bl 15 16383) rfl rfl (one_of HT_.out (by kernel_rfl)) (by decide) (fun K hK => ?_)
      refine goes_ Try.func45 (by kernel_rfl) rfl #[.agg #[.int .i64 a0_0, .slice A0_1 l0_1.length c0_1, .int .i64 a0_2, .int .i64 a0_3, .slice (some ad346) l0_4.length c0_4, .slice A0_5 l0_5.length c0_5], .int .i64 ((rd_T44 l0_4 a1).f1), .int .i64 ((rd_T44 l0_4 a1).f0)] (by rfl) rfl rfl am_ ?_
      with_reducible refine (network_find.calls a0_0 _ _ l0_1 a0_2 a0_3 _ _ l0_4 _ _ l0_5 ((rd_T44 l0_4 a1).f1) ((rd_T44 l0_4 a1).f0) t348 _ ?side1 ?side2 ?side3 ?side4 ?side5 ?side6 A5.out).mono ?_
      (case side1 | side3 | side5 => exact cb_)
      (case side2 | side4 | side6 => first | exact HC0_1.out | exact HC0_4.out | exact HC0_5.out)
      rintro e w21 ⟨rfl, hb⟩
      refine ⟨_, rfl, ?_⟩
      have n0_ := bk_ BK345 hb
      have n1_ := Aside0.mk (below_step hb_ hb)
      clear BK345
      clear HB
      have BK345 := n0_
      have HB := n1_
      clear n0_ n1_
      (try clear hb)
      (try clear hb2)
      (try clear hk)
      (try clear hi)
      refine hK.out _ _ ⟨(blk_cell BK345.out 0).trans rfl, (blk_cell BK345.out 1).trans rfl, (blk_cell BK345.out 2).trans rfl, (blk_cell BK345.out 3).trans rfl, (blk_cell BK345.out 4).trans rfl, (blk_cell BK345.out 5).trans rfl, ((HB.out.cell (World.block_lt_of_cell? w _ hw346_0)).trans hw346_0), ((HB.out.cell (World.block_lt_of_cell? w _ hw346_1)).trans hw346_1), ((HB.out.cell (World.block_lt_of_cell? w _ hw346_2)).trans hw346_2), ((HB.out.cell (World.block_lt_of_cell? w _ hw347_0)).trans hw347_0), ((HB.out.cell (World.block_lt_of_cell? w _ hw347_1)).trans hw347_1), ((HB.out.cell (World.block_lt_of_cell? w _ hw347_2)).trans hw347_2)⟩ (fun hHeld => ?_)
      clear hK K
      refine norm_ (a' := ?_) ?_ ?_
      rotate_left
      ·
       show Act.put _ (some 19) _ = _
       simp only [ap_, s0_, s1_, i64_w]
       rfl
      refine pu_ HT_ 14 5 (bl 15 32767) ?_
      refine done_ (done_of HT_.out (by kernel_rfl)) ?_
      try go_wp2
      have n0_ := Aside0.mk (blk_drew BK345.out)
      have n1_ := Aside0.mk (below_drew1 HB.out)
      clear BK345
      clear HB
      have BK345 := n0_
      have HB := n1_
      clear n0_ n1_
      have p349 : 0 ≤ (a1 : Int) := of_decide_eq_true (by assumption)
      have q349 : a1 < (l0_5.length : Int) := of_decide_eq_true (by assumption)
      obtain ⟨ad349, e349, hx349_0⟩ := Kd.at_int HR0_5.out a1 p349 q349
      have hw349_0 := hx349_0
      cases e349
      replace hx349_0 := (HB.out.cell (World.block_lt_of_cell? w _ hx349_0)).trans hx349_0
      replace p349 := eq_true p349
      replace q349 := eq_true q349
      refine start_ (n := 21) (S := fun w' => w'.cell? ⟨gb345, 0, none⟩ = some (.int .i64 a0_0) ∧ w'.cell? ⟨gb345, 1, none⟩ = some (.slice A0_1 l0_1.length c0_1) ∧ w'.cell? ⟨gb345, 2, none⟩ = some (.int .i64 a0_2) ∧ w'.cell? ⟨gb345, 3, none⟩ = some (.int .i64 a0_3) ∧ w'.cell? ⟨gb345, 4, none⟩ = some (.slice (some ad346) l0_4.length c0_4) ∧ w'.cell? ⟨gb345, 5, none⟩ = some (.slice (some ad349) l0_5.length c0_5) ∧ w'.cell? (ad349.add (a1).toNat) = some (.int .i64 (rd l0_5 a1))) (ds := []) #[false, false, false, false, false, false, false, false, false, false, false, false, false, false, false, false, false, false, false, false, false] (by kernel_rfl) rfl rfl ⟨(blk_cell BK345.out 0).trans rfl, (blk_cell BK345.out 1).trans rfl, (blk_cell BK345.out 2).trans rfl, (blk_cell BK345.out 3).trans rfl, (blk_cell BK345.out 4).trans rfl, (blk_cell BK345.out 5).trans rfl, ((HB.out.cell (World.block_lt_of_cell? w _ hw349_0)).trans hw349_0)⟩ (fun hHeld => ?_); refine with_tabW network_usable.tab2 network_usable.bits2 (fun HT_ HW_ => ?_)
      generalize w21.drew = w22 at BK345 HB hx349_0 hHeld ⊢
      refine pu_ HT_ 0 20 (bl 21 1) ?_
      refine pu_ HT_ 1 21 (bl 21 3) ?_
      refine pu_ HT_ 2 22 (bl 21 7) ?_
      refine pu_ HT_ 4 24 (bl 21 23) ?_
      refine pu_ HT_ 6 26 (bl 21 87) ?_
      refine tk_ HT_ HW_ hHeld 3 23 (bl 21 95) ?_
      refine tk_ HT_ HW_ hHeld 5 25 (bl 21 127) ?_
      refine pu_ HT_ 7 27 (bl 21 255) ?_
      refine tk_ HT_ HW_ hHeld 8 28 (bl 21 511) ?_
      refine one_ (i := 9) (N := some 29) (bl 21 1023) rfl rfl (one_of HT_.out (by kernel_rfl)) (by decide) (fun K hK => ?_)
      refine goes_ Try.func46 (by kernel_rfl) rfl #[.agg #[.int .i64 a0_0, .slice A0_1 l0_1.length c0_1, .int .i64 a0_2, .int .i64 a0_3, .slice (some ad346) l0_4.length c0_4, .slice (some ad349) l0_5.length c0_5], .int .i64 (rd l0_5 a1), .int .i64 0] (by rfl) rfl rfl am_ ?_
      with_reducible refine (network_hears.calls a0_0 _ _ l0_1 a0_2 a0_3 _ _ l0_4 _ _ l0_5 (rd l0_5 a1) 0 false _ ?side1 ?side2 ?side3 ?side4 ?side5 ?side6 A8.out).mono ?_
      (case side1 | side3 | side5 => exact cb_)
      (case side2 | side4 | side6 => first | exact HC0_1.out | exact HC0_4.out | exact HC0_5.out)
      rintro e w23 ⟨rfl, hb⟩
      refine ⟨_, rfl, ?_⟩
      have n0_ := bk_ BK345 hb
      have n1_ := Aside0.mk (below_step hb_ hb)
      clear BK345
      clear HB
      have BK345 := n0_
      have HB := n1_
      clear n0_ n1_
      (try clear hb)
      (try clear hb2)
      (try clear hk)
      (try clear hi)
      refine hK.out _ _ ⟨(blk_cell BK345.out 0).trans rfl, (blk_cell BK345.out 1).trans rfl, (blk_cell BK345.out 2).trans rfl, (blk_cell BK345.out 3).trans rfl, (blk_cell BK345.out 4).trans rfl, (blk_cell BK345.out 5).trans rfl, ((HB.out.cell (World.block_lt_of_cell? w _ hw349_0)).trans hw349_0)⟩ (fun hHeld => ?_)
      clear hK K
      refine norm_ (a' := ?_) ?_ ?_
      rotate_left
      ·
       show Act.put _ (some 29) _ = _
       simp only [ap_, s0_, s1_, i64_w]
       rfl
      refine pu_ HT_ 10 30 (bl 21 2047) ?_
      refine pu_ HT_ 11 31 (bl 21 4095) ?_
      refine of_ HT_ 12 32 (bl 21 8191) ?_
      refine of_ HT_ 13 33 (bl 21 16383) ?_
      refine of_ HT_ 14 34 (bl 21 32767) ?_
      refine of_ HT_ 15 35 (bl 21 65535) ?_
      refine of_ HT_ 16 36 (bl 21 131071) ?_
      refine of_ HT_ 17 37 (bl 21 262143) ?_
      refine of_ HT_ 18 38 (bl 21 524287) ?_
      refine pu_ HT_ 19 39 (bl 21 1048575) ?_
      refine pu_ HT_ 20 4 (bl 21 2097151) ?_
      refine done_ (done_of HT_.out (by kernel_rfl)) ?_
      try go_wp2
      go_ret
      exact ⟨er_, hb_⟩
    ·
     rw [if_neg c7] at H
     exact absurd H (by simp)
   ·
    rw [if_neg c6] at H
    have c6b0 : decide (0 ≤ t348) = false := decide_eq_false c6
    clear c6
    obtain rfl := Option.some.inj H
    go_enter Try.func51, Try.ntmps51
    try go_wp2_with (first | ((with_reducible refine gate_dst (N := 2) rfl ?_); refine bx_ 2 #[.int .i64 a0_0, .slice A0_1 l0_1.length c0_1, .int .i64 a0_2, .int .i64 a0_3, .slice A0_4 l0_4.length c0_4, .slice A0_5 l0_5.length c0_5] 26 ?_; intro gb345 hg w24 hbox hb; have n0_ := Aside0.mk (below_step hb_ hb); have n1_ := Aside0.mk (hbox); have n2_ := Aside0.mk ((by rw [hg]; exact (below_size hb_) : w.heap.size ≤ gb345)); have n3_ := Aside0.mk ((by rw [hg]; exact (below_size hb_) : w.heap.size ≤ gb345)); clear HB; have HB := n0_; have BK345 := n1_; have GW345 := n2_; have GE345 := n3_; clear n0_ n1_ n2_ n3_; clear hb hbox hg))
    have n0_ := Aside0.mk (blk_drew BK345.out)
    have n1_ := Aside0.mk (below_drew1 HB.out)
    clear BK345
    clear HB
    have BK345 := n0_
    have HB := n1_
    clear n0_ n1_
    have p346 : 0 ≤ (a1 : Int) := of_decide_eq_true (by assumption)
    have q346 : a1 < (l0_4.length : Int) := of_decide_eq_true (by assumption)
    obtain ⟨ad346, e346, hx346_0, hx346_1, hx346_2⟩ := at_T44 HR0_4.out a1 p346 q346
    have hw346_2 := hx346_2
    have hw346_1 := hx346_1
    have hw346_0 := hx346_0
    cases e346
    replace hx346_0 := (HB.out.cell (World.block_lt_of_cell? w _ hx346_0)).trans hx346_0
    replace hx346_1 := (HB.out.cell (World.block_lt_of_cell? w _ hx346_1)).trans hx346_1
    replace hx346_2 := (HB.out.cell (World.block_lt_of_cell? w _ hx346_2)).trans hx346_2
    replace p346 := eq_true p346
    replace q346 := eq_true q346
    have p347 : 0 ≤ (a1 : Int) := of_decide_eq_true (by assumption)
    have q347 : a1 < (l0_4.length : Int) := of_decide_eq_true (by assumption)
    obtain ⟨ad347, e347, hx347_0, hx347_1, hx347_2⟩ := at_T44 HR0_4.out a1 p347 q347
    have hw347_2 := hx347_2
    have hw347_1 := hx347_1
    have hw347_0 := hx347_0
    obtain rfl : ad346 = ad347 := (by injection e347)
    replace hx347_0 := (HB.out.cell (World.block_lt_of_cell? w _ hx347_0)).trans hx347_0
    replace hx347_1 := (HB.out.cell (World.block_lt_of_cell? w _ hx347_1)).trans hx347_1
    replace hx347_2 := (HB.out.cell (World.block_lt_of_cell? w _ hx347_2)).trans hx347_2
    replace p347 := eq_true p347
    replace q347 := eq_true q347
    refine start_ (n := 15) (S := fun w' => w'.cell? ⟨gb345, 0, none⟩ = some (.int .i64 a0_0) ∧ w'.cell? ⟨gb345, 1, none⟩ = some (.slice A0_1 l0_1.length c0_1) ∧ w'.cell? ⟨gb345, 2, none⟩ = some (.int .i64 a0_2) ∧ w'.cell? ⟨gb345, 3, none⟩ = some (.int .i64 a0_3) ∧ w'.cell? ⟨gb345, 4, none⟩ = some (.slice (some ad346) l0_4.length c0_4) ∧ w'.cell? ⟨gb345, 5, none⟩ = some (.slice A0_5 l0_5.length c0_5) ∧ w'.cell? (ad346.add ((a1).toNat * 3)) = some (.int .i64 ((rd_T44 l0_4 a1).f0)) ∧ w'.cell? ⟨(ad346.add ((a1).toNat * 3)).block, (ad346.add ((a1).toNat * 3)).off + 1, none⟩ = some (.int .i64 ((rd_T44 l0_4 a1).f1)) ∧ w'.cell? ⟨(ad346.add ((a1).toNat * 3)).block, (ad346.add ((a1).toNat * 3)).off + 2, none⟩ = some (.int .i64 ((rd_T44 l0_4 a1).f2)) ∧ w'.cell? (ad346.add ((a1).toNat * 3)) = some (.int .i64 ((rd_T44 l0_4 a1).f0)) ∧ w'.cell? ⟨(ad346.add ((a1).toNat * 3)).block, (ad346.add ((a1).toNat * 3)).off + 1, none⟩ = some (.int .i64 ((rd_T44 l0_4 a1).f1)) ∧ w'.cell? ⟨(ad346.add ((a1).toNat * 3)).block, (ad346.add ((a1).toNat * 3)).off + 2, none⟩ = some (.int .i64 ((rd_T44 l0_4 a1).f2))) (ds := []) #[false, false, false, false, false, false, false, false, false, false, false, false, false, false, false] (by kernel_rfl) rfl rfl ⟨(blk_cell BK345.out 0).trans rfl, (blk_cell BK345.out 1).trans rfl, (blk_cell BK345.out 2).trans rfl, (blk_cell BK345.out 3).trans rfl, (blk_cell BK345.out 4).trans rfl, (blk_cell BK345.out 5).trans rfl, ((HB.out.cell (World.block_lt_of_cell? w _ hw346_0)).trans hw346_0), ((HB.out.cell (World.block_lt_of_cell? w _ hw346_1)).trans hw346_1), ((HB.out.cell (World.block_lt_of_cell? w _ hw346_2)).trans hw346_2), ((HB.out.cell (World.block_lt_of_cell? w _ hw347_0)).trans hw347_0), ((HB.out.cell (World.block_lt_of_cell? w _ hw347_1)).trans hw347_1), ((HB.out.cell (World.block_lt_of_cell? w _ hw347_2)).trans hw347_2)⟩ (fun hHeld => ?_); refine with_tabW network_usable.tab1 network_usable.bits1 (fun HT_ HW_ => ?_)
    generalize w24.drew = w25 at BK345 HB hx346_0 hx346_1 hx346_2 hx347_0 hx347_1 hx347_2 hHeld ⊢
    refine pu_ HT_ 1 7 (bl 15 2) ?_
    refine pu_ HT_ 3 9 (bl 15 10) ?_
    refine pu_ HT_ 7 13 (bl 15 138) ?_
    refine pu_ HT_ 9 15 (bl 15 650) ?_
    refine tk_ HT_ HW_ hHeld 0 6 (bl 15 651) ?_
    refine tk_ HT_ HW_ hHeld 2 8 (bl 15 655) ?_
    refine pu_ HT_ 4 10 (bl 15 671) ?_
    refine pu_ HT_ 5 11 (bl 15 703) ?_
    refine tk_ HT_ HW_ hHeld 6 12 (bl 15 767) ?_
    refine tk_ HT_ HW_ hHeld 8 14 (bl 15 1023) ?_
    refine pu_ HT_ 10 16 (bl 15 2047) ?_
    refine pu_ HT_ 11 17 (bl 15 4095) ?_
    refine tk_ HT_ HW_ hHeld 12 18 (bl 15 8191) ?_
    refine one_ (i := 13) (N := some 19) (bl 15 16383) rfl rfl (one_of HT_.out (by kernel_rfl)) (by decide) (fun K hK => ?_)
    refine goes_ Try.func45 (by kernel_rfl) rfl #[.agg #[.int .i64 a0_0, .slice A0_1 l0_1.length c0_1, .int .i64 a0_2, .int .i64 a0_3, .slice (some ad346) l0_4.length c0_4, .slice A0_5 l0_5.length c0_5], .int .i64 ((rd_T44 l0_4 a1).f1), .int .i64 ((rd_T44 l0_4 a1).f0)] (by rfl) rfl rfl am_ ?_
    with_reducible refine (network_find.calls a0_0 _ _ l0_1 a0_2 a0_3 _ _ l0_4 _ _ l0_5 ((rd_T44 l0_4 a1).f1) ((rd_T44 l0_4 a1).f0) t348 _ ?side1 ?side2 ?side3 ?side4 ?side5 ?side6 A5.out).mono ?_
    (case side1 | side3 | side5 => exact cb_)
    (case side2 | side4 | side6 => first | exact HC0_1.out | exact HC0_4.out | exact HC0_5.out)
    rintro e w26 ⟨rfl, hb⟩
    refine ⟨_, rfl, ?_⟩
    have n0_ := bk_ BK345 hb
    have n1_ := Aside0.mk (below_step hb_ hb)
    clear BK345
    clear HB
    have BK345 := n0_
    have HB := n1_
    clear n0_ n1_
    (try clear hb)
    (try clear hb2)
    (try clear hk)
    (try clear hi)
    refine hK.out _ _ ⟨(blk_cell BK345.out 0).trans rfl, (blk_cell BK345.out 1).trans rfl, (blk_cell BK345.out 2).trans rfl, (blk_cell BK345.out 3).trans rfl, (blk_cell BK345.out 4).trans rfl, (blk_cell BK345.out 5).trans rfl, ((HB.out.cell (World.block_lt_of_cell? w _ hw346_0)).trans hw346_0), ((HB.out.cell (World.block_lt_of_cell? w _ hw346_1)).trans hw346_1), ((HB.out.cell (World.block_lt_of_cell? w _ hw346_2)).trans hw346_2), ((HB.out.cell (World.block_lt_of_cell? w _ hw347_0)).trans hw347_0), ((HB.out.cell (World.block_lt_of_cell? w _ hw347_1)).trans hw347_1), ((HB.out.cell (World.block_lt_of_cell? w _ hw347_2)).trans hw347_2)⟩ (fun hHeld => ?_)
    clear hK K
    refine norm_ (a' := ?_) ?_ ?_
    rotate_left
    ·
     show Act.put _ (some 19) _ = _
     simp only [ap_, s0_, s1_, i64_w]
     rfl
    refine pu_ HT_ 14 5 (bl 15 32767) ?_
    refine done_ (done_of HT_.out (by kernel_rfl)) ?_
    try go_wp2
    have n0_ := Aside0.mk (blk_drew BK345.out)
    have n1_ := Aside0.mk (below_drew1 HB.out)
    clear BK345
    clear HB
    have BK345 := n0_
    have HB := n1_
    clear n0_ n1_
    refine start_ (n := 21) (S := fun w' => True) (ds := []) #[false, false, false, false, false, false, false, false, false, false, false, false, false, false, false, false, false, false, false, false, false] (by kernel_rfl) rfl rfl trivial (fun hHeld => ?_); refine with_tabW network_usable.tab2 network_usable.bits2 (fun HT_ HW_ => ?_)
    generalize w26.drew = w27 at BK345 HB hHeld ⊢
    refine pu_ HT_ 0 20 (bl 21 1) ?_
    refine pu_ HT_ 1 21 (bl 21 3) ?_
    refine pu_ HT_ 2 22 (bl 21 7) ?_
    refine of_ HT_ 3 23 (bl 21 15) ?_
    refine of_ HT_ 4 24 (bl 21 31) ?_
    refine of_ HT_ 5 25 (bl 21 63) ?_
    refine of_ HT_ 6 26 (bl 21 127) ?_
    refine of_ HT_ 7 27 (bl 21 255) ?_
    refine of_ HT_ 8 28 (bl 21 511) ?_
    refine of_ HT_ 9 29 (bl 21 1023) ?_
    refine pu_ HT_ 10 30 (bl 21 2047) ?_
    refine pu_ HT_ 11 31 (bl 21 4095) ?_
    refine of_ HT_ 12 32 (bl 21 8191) ?_
    refine of_ HT_ 13 33 (bl 21 16383) ?_
    refine of_ HT_ 14 34 (bl 21 32767) ?_
    refine of_ HT_ 15 35 (bl 21 65535) ?_
    refine of_ HT_ 16 36 (bl 21 131071) ?_
    refine of_ HT_ 17 37 (bl 21 262143) ?_
    refine of_ HT_ 18 38 (bl 21 524287) ?_
    refine pu_ HT_ 19 39 (bl 21 1048575) ?_
    refine pu_ HT_ 20 4 (bl 21 2097151) ?_
    refine done_ (done_of HT_.out (by kernel_rfl)) ?_
    try go_wp2
    go_ret
    exact ⟨er_, hb_⟩
  ·
   rw [if_neg c4] at H
   exact absurd H (by simp)
 ·
  rw [if_neg c3] at H
  exact absurd H (by simp)

/-! ### network_Usable: function 25 -/
def network_Usable.f (k : Nat) (a0_0 : Int) (l0_1 : List (List Int)) (a0_2 : Int) (a0_3 : Int) (l0_4 : List (S44)) (l0_5 : List Int) (a1 : Int) : Option (Bool) := (network_Check.f k a0_0 l0_1 a0_2 a0_3 l0_4 l0_5).bind fun t354 => (if t354 = 0 then (if a1 ≥ 0 then (if a1 < (l0_4.length : Int) then ((network_usable.f a0_0 l0_1 a0_2 a0_3 l0_4 l0_5 a1).bind fun t355 => (some t355)) else (some false)) else (some false)) else (some false))
theorem network_Usable.mono : ∀ a0 a1 a2 a3 a4 a5 a6 k, LeO (network_Usable.f k a0 a1 a2 a3 a4 a5 a6) (network_Usable.f (k + 1) a0 a1 a2 a3 a4 a5 a6) := by
 intro a0 a1 a2 a3 a4 a5 a6 k
 unfold network_Usable.f
 repeat' first
   | (with_reducible exact network_Check.mono _ _ _ _ _ _ _)
   | (with_reducible exact LeO.refl _)
   | (with_reducible exact LeO.none _)
   | (with_reducible refine LeO.ite ?_ ?_)
   | (with_reducible refine LeO.bind ?_ (fun _ => ?_))
   | exact network_Check.mono _ _ _ _ _ _ _
   | exact LeO.none _
   | refine LeO.ite ?_ ?_
   | refine LeO.bind ?_ (fun _ => ?_)
set_option maxHeartbeats 8000000 in
set_option maxRecDepth 100000 in
theorem network_Usable.calls (k : Nat) (a0_0 : Int) (A0_1 : Option Addr) (c0_1 : Nat) (l0_1 : List (List Int)) (a0_2 : Int) (a0_3 : Int) (A0_4 : Option Addr) (c0_4 : Nat) (l0_4 : List (S44)) (A0_5 : Option Addr) (c0_5 : Nat) (l0_5 : List Int) (a1 : Int) (r : Bool) (w : World) (hr0_1 : Kd.C (Kd.slice 3 (Kd.int .i64)) w A0_1 l0_1.length l0_1) (hc0_1 : l0_1.length ≤ c0_1) (hr0_4 : Kd.C k44 w A0_4 l0_4.length l0_4) (hc0_4 : l0_4.length ≤ c0_4) (hr0_5 : Kd.C (Kd.int .i64) w A0_5 l0_5.length l0_5) (hc0_5 : l0_5.length ≤ c0_5) (h : network_Usable.f k a0_0 l0_1 a0_2 a0_3 l0_4 l0_5 a1 = some r) :
  Calls Try.prog 25 #[.agg #[.int .i64 a0_0, .slice A0_1 l0_1.length c0_1, .int .i64 a0_2, .int .i64 a0_3, .slice A0_4 l0_4.length c0_4, .slice A0_5 l0_5.length c0_5], .int .i64 a1] w fun e w' => e = .returned (.bool r) ∧ Below w.heap.size w w' := by
 have hu26 := Try.underlying26
 have HR0_1 := Aside0.mk hr0_1
 have HC0_1 := Aside0.mk hc0_1
 clear hr0_1 hc0_1
 have HR0_4 := Aside0.mk hr0_4
 have HC0_4 := Aside0.mk hc0_4
 clear hr0_4 hc0_4
 have HR0_5 := Aside0.mk hr0_5
 have HC0_5 := Aside0.mk hc0_5
 clear hr0_5 hc0_5
 have HB := Aside0.mk (Below.refl w.heap.size w)
 have H : ((network_Check.f k a0_0 l0_1 a0_2 a0_3 l0_4 l0_5).bind fun t354 => (if t354 = 0 then (if a1 ≥ 0 then (if a1 < (l0_4.length : Int) then ((network_usable.f a0_0 l0_1 a0_2 a0_3 l0_4 l0_5 a1).bind fun t355 => (some t355)) else (some false)) else (some false)) else (some false))) = some r := h
 clear h
 replace H := Option.bind_eq_some_iff.mp H
 obtain ⟨t354, A30, H⟩ := H
 replace H : (if t354 = 0 then (if a1 ≥ 0 then (if a1 < (l0_4.length : Int) then ((network_usable.f a0_0 l0_1 a0_2 a0_3 l0_4 l0_5 a1).bind fun t355 => (some t355)) else (some false)) else (some false)) else (some false)) = some r := H
 have A3 := Aside0.mk A30
 clear A30
 by_cases c4 : t354 = 0
 ·
  rw [if_pos c4] at H
  have c4b0 : (t354 == 0) = true := beq_iff_eq.mpr c4
  have c4b1 : (t354 != 0) = false := bne_eq_false_iff_eq.mpr c4
  clear c4
  by_cases c5 : a1 ≥ 0
  ·
   rw [if_pos c5] at H
   have c5b0 : decide (0 ≤ a1) = true := decide_eq_true c5
   clear c5
   by_cases c6 : a1 < (l0_4.length : Int)
   ·
    rw [if_pos c6] at H
    have c6b0 : decide (a1 < (l0_4.length : Int)) = true := decide_eq_true c6
    clear c6
    replace H := Option.bind_eq_some_iff.mp H
    obtain ⟨t355, A70, H⟩ := H
    replace H : (some t355) = some r := H
    have A7 := Aside0.mk A70
    clear A70
    obtain rfl := Option.some.inj H
    go_enter Try.func25, Try.ntmps25
    go_wp2_with (first | ((with_reducible refine gate_dst (N := 2) rfl ?_); refine bx_ 2 #[.int .i64 a0_0, .slice A0_1 l0_1.length c0_1, .int .i64 a0_2, .int .i64 a0_3, .slice A0_4 l0_4.length c0_4, .slice A0_5 l0_5.length c0_5] 26 ?_; intro gb353 hg w8 hbox hb; have n0_ := Aside0.mk (below_step hb_ hb); have n1_ := Aside0.mk (hbox); have n2_ := Aside0.mk ((by rw [hg]; exact (below_size hb_) : w.heap.size ≤ gb353)); have n3_ := Aside0.mk ((by rw [hg]; exact (below_size hb_) : w.heap.size ≤ gb353)); clear HB; have HB := n0_; have BK353 := n1_; have GW353 := n2_; have GE353 := n3_; clear n0_ n1_ n2_ n3_; clear hb hbox hg; have hcz9_0 := bc0 BK353; have hcz9_1 := bc1 BK353; have hcz9_2 := bc2 BK353; have hcz9_3 := bc3 BK353; have hcz9_4 := bc4 BK353; have hcz9_5 := bc5 BK353; have hfz9_0 := blk_frozen BK353.out 0; have hfz9_1 := blk_frozen BK353.out 1; have hfz9_2 := blk_frozen BK353.out 2; have hfz9_3 := blk_frozen BK353.out 3; have hfz9_4 := blk_frozen BK353.out 4; have hfz9_5 := blk_frozen BK353.out 5) | ((with_reducible refine gate_callee (f := 15) rfl ?_); refine goesL_ (some 6) rfl rfl Try.func15 (by kernel_rfl) rfl #[.agg #[.int .i64 a0_0, .slice A0_1 l0_1.length c0_1, .int .i64 a0_2, .int .i64 a0_3, .slice A0_4 l0_4.length c0_4, .slice A0_5 l0_5.length c0_5]] rfl am_ ?_; (with_reducible refine (network_Check.calls k a0_0 _ _ l0_1 a0_2 a0_3 _ _ l0_4 _ _ l0_5 t354 _ ?side1 ?side2 ?side3 ?side4 ?side5 ?side6 A3.out).mono ?_); (case side1 | side3 | side5 => exact cb_); (case side2 | side4 | side6 => first | exact HC0_1.out | exact HC0_4.out | exact HC0_5.out); rintro e w10 ⟨rfl, hb⟩; refine ⟨_, rfl, ?_⟩; have n0_ := bk_ BK353 hb; have n1_ := Aside0.mk (below_step hb_ hb); clear BK353; clear HB; have BK353 := n0_; have HB := n1_; clear n0_ n1_; (try clear hb); (try clear hb2); (try clear hk); (try clear hi); have hcz11_0 := bc0 BK353; have hcz11_1 := bc1 BK353; have hcz11_2 := bc2 BK353; have hcz11_3 := bc3 BK353; have hcz11_4 := bc4 BK353; have hcz11_5 := bc5 BK353; have hfz11_0 := blk_frozen BK353.out 0; have hfz11_1 := blk_frozen BK353.out 1; have hfz11_2 := blk_frozen BK353.out 2; have hfz11_3 := blk_frozen BK353.out 3; have hfz11_4 := blk_frozen BK353.out 4; have hfz11_5 := blk_frozen BK353.out 5) | (go_at_call 51; (with_reducible refine (network_usable.calls a0_0 _ _ l0_1 a0_2 a0_3 _ _ l0_4 _ _ l0_5 a1 t355 _ ?side1 ?side2 ?side3 ?side4 ?side5 ?side6 A7.out).mono ?_); (case side1 | side3 | side5 => exact cb_); (case side2 | side4 | side6 => first | exact HC0_1.out | exact HC0_4.out | exact HC0_5.out); rintro e w12 ⟨rfl, hb⟩; have n0_ := bk_ BK353 hb; have n1_ := Aside0.mk (below_step hb_ hb); clear BK353; clear HB; have BK353 := n0_; have HB := n1_; clear n0_ n1_; (try clear hb); (try clear hb2); (try clear hk); (try clear hi)))
    go_ret
    exact ⟨er_, hb_⟩
   ·
    rw [if_neg c6] at H
    have c6b0 : decide (a1 < (l0_4.length : Int)) = false := decide_eq_false c6
    clear c6
    obtain rfl := Option.some.inj H
    go_enter Try.func25, Try.ntmps25
    go_wp2_with (first | ((with_reducible refine gate_dst (N := 2) rfl ?_); refine bx_ 2 #[.int .i64 a0_0, .slice A0_1 l0_1.length c0_1, .int .i64 a0_2, .int .i64 a0_3, .slice A0_4 l0_4.length c0_4, .slice A0_5 l0_5.length c0_5] 26 ?_; intro gb353 hg w13 hbox hb; have n0_ := Aside0.mk (below_step hb_ hb); have n1_ := Aside0.mk (hbox); have n2_ := Aside0.mk ((by rw [hg]; exact (below_size hb_) : w.heap.size ≤ gb353)); have n3_ := Aside0.mk ((by rw [hg]; exact (below_size hb_) : w.heap.size ≤ gb353)); clear HB; have HB := n0_; have BK353 := n1_; have GW353 := n2_; have GE353 := n3_; clear n0_ n1_ n2_ n3_; clear hb hbox hg; have hcz14_0 := bc0 BK353; have hcz14_1 := bc1 BK353; have hcz14_2 := bc2 BK353; have hcz14_3 := bc3 BK353; have hcz14_4 := bc4 BK353; have hcz14_5 := bc5 BK353; have hfz14_0 := blk_frozen BK353.out 0; have hfz14_1 := blk_frozen BK353.out 1; have hfz14_2 := blk_frozen BK353.out 2; have hfz14_3 := blk_frozen BK353.out 3; have hfz14_4 := blk_frozen BK353.out 4; have hfz14_5 := blk_frozen BK353.out 5) | ((with_reducible refine gate_callee (f := 15) rfl ?_); refine goesL_ (some 6) rfl rfl Try.func15 (by kernel_rfl) rfl #[.agg #[.int .i64 a0_0, .slice A0_1 l0_1.length c0_1, .int .i64 a0_2, .int .i64 a0_3, .slice A0_4 l0_4.length c0_4, .slice A0_5 l0_5.length c0_5]] rfl am_ ?_; (with_reducible refine (network_Check.calls k a0_0 _ _ l0_1 a0_2 a0_3 _ _ l0_4 _ _ l0_5 t354 _ ?side1 ?side2 ?side3 ?side4 ?side5 ?side6 A3.out).mono ?_); (case side1 | side3 | side5 => exact cb_); (case side2 | side4 | side6 => first | exact HC0_1.out | exact HC0_4.out | exact HC0_5.out); rintro e w15 ⟨rfl, hb⟩; refine ⟨_, rfl, ?_⟩; have n0_ := bk_ BK353 hb; have n1_ := Aside0.mk (below_step hb_ hb); clear BK353; clear HB; have BK353 := n0_; have HB := n1_; clear n0_ n1_; (try clear hb); (try clear hb2); (try clear hk); (try clear hi); have hcz16_0 := bc0 BK353; have hcz16_1 := bc1 BK353; have hcz16_2 := bc2 BK353; have hcz16_3 := bc3 BK353; have hcz16_4 := bc4 BK353; have hcz16_5 := bc5 BK353; have hfz16_0 := blk_frozen BK353.out 0; have hfz16_1 := blk_frozen BK353.out 1; have hfz16_2 := blk_frozen BK353.out 2; have hfz16_3 := blk_frozen BK353.out 3; have hfz16_4 := blk_frozen BK353.out 4; have hfz16_5 := blk_frozen BK353.out 5))
    go_ret
    exact ⟨er_, hb_⟩
  ·
   rw [if_neg c5] at H
   have c5b0 : decide (0 ≤ a1) = false := decide_eq_false c5
   clear c5
   obtain rfl := Option.some.inj H
   go_enter Try.func25, Try.ntmps25
   go_wp2_with (first | ((with_reducible refine gate_dst (N := 2) rfl ?_); refine bx_ 2 #[.int .i64 a0_0, .slice A0_1 l0_1.length c0_1, .int .i64 a0_2, .int .i64 a0_3, .slice A0_4 l0_4.length c0_4, .slice A0_5 l0_5.length c0_5] 26 ?_; intro gb353 hg w17 hbox hb; have n0_ := Aside0.mk (below_step hb_ hb); have n1_ := Aside0.mk (hbox); have n2_ := Aside0.mk ((by rw [hg]; exact (below_size hb_) : w.heap.size ≤ gb353)); have n3_ := Aside0.mk ((by rw [hg]; exact (below_size hb_) : w.heap.size ≤ gb353)); clear HB; have HB := n0_; have BK353 := n1_; have GW353 := n2_; have GE353 := n3_; clear n0_ n1_ n2_ n3_; clear hb hbox hg; have hcz18_0 := bc0 BK353; have hcz18_1 := bc1 BK353; have hcz18_2 := bc2 BK353; have hcz18_3 := bc3 BK353; have hcz18_4 := bc4 BK353; have hcz18_5 := bc5 BK353; have hfz18_0 := blk_frozen BK353.out 0; have hfz18_1 := blk_frozen BK353.out 1; have hfz18_2 := blk_frozen BK353.out 2; have hfz18_3 := blk_frozen BK353.out 3; have hfz18_4 := blk_frozen BK353.out 4; have hfz18_5 := blk_frozen BK353.out 5) | ((with_reducible refine gate_callee (f := 15) rfl ?_); refine goesL_ (some 6) rfl rfl Try.func15 (by kernel_rfl) rfl #[.agg #[.int .i64 a0_0, .slice A0_1 l0_1.length c0_1, .int .i64 a0_2, .int .i64 a0_3, .slice A0_4 l0_4.length c0_4, .slice A0_5 l0_5.length c0_5]] rfl am_ ?_; (with_reducible refine (network_Check.calls k a0_0 _ _ l0_1 a0_2 a0_3 _ _ l0_4 _ _ l0_5 t354 _ ?side1 ?side2 ?side3 ?side4 ?side5 ?side6 A3.out).mono ?_); (case side1 | side3 | side5 => exact cb_); (case side2 | side4 | side6 => first | exact HC0_1.out | exact HC0_4.out | exact HC0_5.out); rintro e w19 ⟨rfl, hb⟩; refine ⟨_, rfl, ?_⟩; have n0_ := bk_ BK353 hb; have n1_ := Aside0.mk (below_step hb_ hb); clear BK353; clear HB; have BK353 := n0_; have HB := n1_; clear n0_ n1_; (try clear hb); (try clear hb2); (try clear hk); (try clear hi)))
   go_ret
   exact ⟨er_, hb_⟩
 ·
  rw [if_neg c4] at H
  have c4b0 : (t354 == 0) = false := beq_eq_false_iff_ne.mpr c4
  have c4b1 : (t354 != 0) = true := bne_iff_ne.mpr c4
  obtain rfl := Option.some.inj H
  go_enter Try.func25, Try.ntmps25
  go_wp2_with (first | ((with_reducible refine gate_dst (N := 2) rfl ?_); refine bx_ 2 #[.int .i64 a0_0, .slice A0_1 l0_1.length c0_1, .int .i64 a0_2, .int .i64 a0_3, .slice A0_4 l0_4.length c0_4, .slice A0_5 l0_5.length c0_5] 26 ?_; intro gb353 hg w20 hbox hb; have n0_ := Aside0.mk (below_step hb_ hb); have n1_ := Aside0.mk (hbox); have n2_ := Aside0.mk ((by rw [hg]; exact (below_size hb_) : w.heap.size ≤ gb353)); have n3_ := Aside0.mk ((by rw [hg]; exact (below_size hb_) : w.heap.size ≤ gb353)); clear HB; have HB := n0_; have BK353 := n1_; have GW353 := n2_; have GE353 := n3_; clear n0_ n1_ n2_ n3_; clear hb hbox hg; have hcz21_0 := bc0 BK353; have hcz21_1 := bc1 BK353; have hcz21_2 := bc2 BK353; have hcz21_3 := bc3 BK353; have hcz21_4 := bc4 BK353; have hcz21_5 := bc5 BK353; have hfz21_0 := blk_frozen BK353.out 0; have hfz21_1 := blk_frozen BK353.out 1; have hfz21_2 := blk_frozen BK353.out 2; have hfz21_3 := blk_frozen BK353.out 3; have hfz21_4 := blk_frozen BK353.out 4; have hfz21_5 := blk_frozen BK353.out 5) | ((with_reducible refine gate_callee (f := 15) rfl ?_); refine goesL_ (some 6) rfl rfl Try.func15 (by kernel_rfl) rfl #[.agg #[.int .i64 a0_0, .slice A0_1 l0_1.length c0_1, .int .i64 a0_2, .int .i64 a0_3, .slice A0_4 l0_4.length c0_4, .slice A0_5 l0_5.length c0_5]] rfl am_ ?_; (with_reducible refine (network_Check.calls k a0_0 _ _ l0_1 a0_2 a0_3 _ _ l0_4 _ _ l0_5 t354 _ ?side1 ?side2 ?side3 ?side4 ?side5 ?side6 A3.out).mono ?_); (case side1 | side3 | side5 => exact cb_); (case side2 | side4 | side6 => first | exact HC0_1.out | exact HC0_4.out | exact HC0_5.out); rintro e w22 ⟨rfl, hb⟩; refine ⟨_, rfl, ?_⟩; have n0_ := bk_ BK353 hb; have n1_ := Aside0.mk (below_step hb_ hb); clear BK353; clear HB; have BK353 := n0_; have HB := n1_; clear n0_ n1_; (try clear hb); (try clear hb2); (try clear hk); (try clear hi)))
  go_ret
  exact ⟨er_, hb_⟩

end Go.Proofs.Ytibgcekekmphoaa.P34

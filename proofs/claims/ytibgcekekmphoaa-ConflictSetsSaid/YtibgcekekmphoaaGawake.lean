/- hopmeshlaw34.awake: it answers true. -/
import Derived.Test.YtibgcekekmphoaaGawk0
import Derived.Deep.RegionHeld3
namespace Go.Proofs.Ytibgcekekmphoaa.P34
open Go.RowKit Go.Proofs.YtibgcekekmphoaaW.PrintWords Go.Proofs.YtibgcekekmphoaaW.PrintLast Go.Proofs.YtibgcekekmphoaaW.PrintMore
attribute [local go_sem] max2_int min2_int max_two min_two max_three min_three max_four min_four
set_option linter.unusedVariables false
set_option linter.unusedSimpArgs false

/-- The example's network lies there. -/
structure ExN (a : Int) (A1 : Option Addr) (c1 : Nat) (A4 : Option Addr) (c4 : Nat) (A5 : Option Addr) (c5 : Nat) (w : World) : Prop where
  h1 : Kd.C (Kd.slice 3 (Kd.int .i64)) w A1 4 (exPow a)
  l1 : 4 ≤ c1
  h4 : Kd.C k44 w A4 4 exLinks
  l4 : 4 ≤ c4
  h5 : Kd.C (Kd.int .i64) w A5 4 exMg
  l5 : 4 ≤ c5
theorem ExN.below {a : Int} {A1 : Option Addr} {c1 : Nat} {A4 : Option Addr} {c4 : Nat} {A5 : Option Addr} {c5 : Nat} {w w1 : World} (h : ExN a A1 c1 A4 c4 A5 c5 w) (hb : Below w.heap.size w w1) : ExN a A1 c1 A4 c4 A5 c5 w1 :=
  ⟨Kd.C_below h.h1 hb, h.l1, Kd.C_below h.h4 hb, h.l4, Kd.C_below h.h5 hb, h.l5⟩
theorem ExN.drew {a : Int} {A1 : Option Addr} {c1 : Nat} {A4 : Option Addr} {c4 : Nat} {A5 : Option Addr} {c5 : Nat} {w : World} (h : ExN a A1 c1 A4 c4 A5 c5 w) : ExN a A1 c1 A4 c4 A5 c5 w.drew := h.below (below_drew1 (Below.refl _ _))
theorem call35 (a : Int) (w : World) : Calls Try.prog 35 #[.int .i64 a] w fun e w' => ∃ A1 c1 A4 c4 A5 c5, e = .returned (.agg #[.int .i64 4, .slice A1 4 c1, .int .i64 1, .int .i64 3000, .slice A4 4 c4, .slice A5 4 c5]) ∧ ExN a A1 c1 A4 c4 A5 c5 w' ∧ Below w.heap.size w w' :=
  (hopmeshlaw34_example.calls 10 a 4 (exPow a) 1 3000 exLinks exMg w (ex_f a)).mono fun e w' ⟨v1, v4, v5, he, g1, g4, g5, hb⟩ => by
    obtain ⟨A1, c1, rfl, q1, r1⟩ := Kd.N_reads g1
    obtain ⟨A4, c4, rfl, q4, r4⟩ := Kd.R_reads g4
    obtain ⟨A5, c5, rfl, q5, r5⟩ := Kd.R_reads g5
    exact ⟨A1, c1, A4, c4, A5, c5, he, ⟨r1, q1, r4, q4, r5, q5⟩, hb⟩
theorem callFirst {A1 : Option Addr} {c1 : Nat} {A4 : Option Addr} {c4 : Nat} {A5 : Option Addr} {c5 : Nat} (A : Option Addr) (c : Nat) (w : World) (h : ExN 40 A1 c1 A4 c4 A5 c5 w) (hl : Kd.C k36 w A 2 exCells) (hc : 2 ≤ c) :
    Calls Try.prog 20 #[.agg #[.int .i64 4, .slice A1 4 c1, .int .i64 1, .int .i64 3000, .slice A4 4 c4, .slice A5 4 c5], .slice A 2 c] w fun e w' => e = .returned (.tuple #[.int .i64 0, .bool true]) ∧ Below w.heap.size w w' :=
  conflict_First.calls 200 4 A1 c1 (exPow 40) 1 3000 A4 c4 exLinks A5 c5 exMg A c exCells 0 true w h.h1 h.l1 h.h4 h.l4 h.h5 h.l5 hl hc ex_first
theorem callD40 {A1 : Option Addr} {c1 : Nat} {A4 : Option Addr} {c4 : Nat} {A5 : Option Addr} {c5 : Nat} (A : Option Addr) (c : Nat) (w : World) (h : ExN 40 A1 c1 A4 c4 A5 c5 w) (hl : Kd.C k36 w A 2 exCells) (hc : 2 ≤ c) :
    Calls Try.prog 13 #[.agg #[.int .i64 4, .slice A1 4 c1, .int .i64 1, .int .i64 3000, .slice A4 4 c4, .slice A5 4 c5], .slice A 2 c, .int .i64 0, .int .i64 1] w fun e w' => e = .returned (.int .i64 43) ∧ Below w.heap.size w w' :=
  conflict_Disturbance.calls 200 4 A1 c1 (exPow 40) 1 3000 A4 c4 exLinks A5 c5 exMg A c exCells 0 1 43 w h.h1 h.l1 h.h4 h.l4 h.h5 h.l5 hl hc ex_dist40
theorem callD2 {A1 : Option Addr} {c1 : Nat} {A4 : Option Addr} {c4 : Nat} {A5 : Option Addr} {c5 : Nat} (A : Option Addr) (c : Nat) (w : World) (h : ExN 2 A1 c1 A4 c4 A5 c5 w) (hl : Kd.C k36 w A 2 exCells) (hc : 2 ≤ c) :
    Calls Try.prog 13 #[.agg #[.int .i64 4, .slice A1 4 c1, .int .i64 1, .int .i64 3000, .slice A4 4 c4, .slice A5 4 c5], .slice A 2 c, .int .i64 0, .int .i64 1] w fun e w' => e = .returned (.int .i64 5) ∧ Below w.heap.size w w' :=
  conflict_Disturbance.calls 200 4 A1 c1 (exPow 2) 1 3000 A4 c4 exLinks A5 c5 exMg A c exCells 0 1 5 w h.h1 h.l1 h.h4 h.l4 h.h5 h.l5 hl hc ex_dist2
theorem callG2 {A1 : Option Addr} {c1 : Nat} {A4 : Option Addr} {c4 : Nat} {A5 : Option Addr} {c5 : Nat} (A : Option Addr) (c : Nat) (w : World) (h : ExN 2 A1 c1 A4 c4 A5 c5 w) (hl : Kd.C k36 w A 2 exCells) (hc : 2 ≤ c) :
    Calls Try.prog 17 #[.agg #[.int .i64 4, .slice A1 4 c1, .int .i64 1, .int .i64 3000, .slice A4 4 c4, .slice A5 4 c5], .slice A 2 c] w fun e w' => e = .returned (.bool false) ∧ Below w.heap.size w w' :=
  conflict_Good.calls 200 4 A1 c1 (exPow 2) 1 3000 A4 c4 exLinks A5 c5 exMg A c exCells false w h.h1 h.l1 h.h4 h.l4 h.h5 h.l5 hl hc ex_good2
theorem callG1 {A1 : Option Addr} {c1 : Nat} {A4 : Option Addr} {c4 : Nat} {A5 : Option Addr} {c5 : Nat} (A : Option Addr) (c : Nat) (w : World) (h : ExN 2 A1 c1 A4 c4 A5 c5 w) (hl : Kd.C k36 w A 1 (exCells.take 1)) (hc : 1 ≤ c) :
    Calls Try.prog 17 #[.agg #[.int .i64 4, .slice A1 4 c1, .int .i64 1, .int .i64 3000, .slice A4 4 c4, .slice A5 4 c5], .slice A 1 c] w fun e w' => e = .returned (.bool true) ∧ Below w.heap.size w w' :=
  conflict_Good.calls 200 4 A1 c1 (exPow 2) 1 3000 A4 c4 exLinks A5 c5 exMg A c (exCells.take 1) true w h.h1 h.l1 h.h4 h.l4 h.h5 h.l5 hl hc ex_good1

theorem exC {w : World} {g : Nat} (h : w.heap[g]? = some (.cells #[.int .i64 0, .int .i64 0, .int .i64 0, .int .i64 1, .int .i64 0, .int .i64 0, .int .i64 0, .int .i64 2, .int .i64 3, .int .i64 0] 36 (0, 0))) : Kd.C k36 w (some ⟨g, 0, none⟩) 2 exCells := by
  refine ⟨rfl, by omega, fun _ => ⟨_, rfl, fun j p hp => ?_⟩⟩
  have hc := fun i => blk_cell h i
  match j, hp with
  | 0, hp =>
    obtain rfl := Option.some.inj hp
    refine ⟨_, rfl, k36_mk _ _, fun i u hu => ?_⟩
    rw [add_plain, hc]
    match i, hu with
    | 0, hu => exact hu
    | 1, hu => exact hu
    | 2, hu => exact hu
    | 3, hu => exact hu
    | 4, hu => exact hu
    | i + 5, hu => simp at hu
  | 1, hp =>
    obtain rfl := Option.some.inj hp
    refine ⟨_, rfl, k36_mk _ _, fun i u hu => ?_⟩
    rw [add_plain, hc]
    match i, hu with
    | 0, hu => exact hu
    | 1, hu => exact hu
    | 2, hu => exact hu
    | 3, hu => exact hu
    | 4, hu => exact hu
    | i + 5, hu => simp at hu
  | j + 2, hp => simp [exCells] at hp
theorem exC1 {w : World} {g : Nat} (h : w.heap[g]? = some (.cells #[.int .i64 0, .int .i64 0, .int .i64 0, .int .i64 1, .int .i64 0, .int .i64 0, .int .i64 0, .int .i64 2, .int .i64 3, .int .i64 0] 36 (0, 0))) : Kd.C k36 w (some ⟨g, 0, none⟩) 1 (exCells.take 1) := by
  obtain ⟨_, _, h3⟩ := exC h
  refine ⟨rfl, by omega, fun _ => ?_⟩
  obtain ⟨ad, e, hj⟩ := h3 (by omega)
  refine ⟨ad, e, fun j p hp => hj j p ?_⟩
  match j, hp with
  | 0, hp => exact hp
  | j + 1, hp => simp [exCells] at hp

def hopmeshlaw34_awake.f : Option Bool := some true

set_option maxRecDepth 100000 in
set_option maxHeartbeats 4000000 in
theorem hopmeshlaw34_awake.calls (r : Bool) (w : World) (h : hopmeshlaw34_awake.f = some r) :
    Calls Try.prog 11 #[] w fun e w' => e = .returned (.bool r) ∧ Below w.heap.size w w' := by
  obtain rfl := Option.some.inj h
  clear h
  have hu36 := Try.underlying36
  go_enter Try.func11, Try.ntmps11
  go_wp2_with fail
  have D1 : Aside0 (Below w.heap.size w (w.alloc (.cells #[.int .i64 0, .int .i64 0, .int .i64 0, .int .i64 1, .int .i64 0, .int .i64 0, .int .i64 0, .int .i64 2, .int .i64 3, .int .i64 0] 36 (0, 0)))) := ⟨below_alloc (Below.refl _ _) _⟩
  have B1 := Aside0.mk (blk_new w (.cells #[.int .i64 0, .int .i64 0, .int .i64 0, .int .i64 1, .int .i64 0, .int .i64 0, .int .i64 0, .int .i64 2, .int .i64 3, .int .i64 0] 36 (0, 0)))
  generalize w.alloc (.cells #[.int .i64 0, .int .i64 0, .int .i64 0, .int .i64 1, .int .i64 0, .int .i64 0, .int .i64 0, .int .i64 2, .int .i64 3, .int .i64 0] 36 (0, 0)) = w1 at D1 B1 ⊢
  generalize hg : w.heap.size = g at B1 ⊢
  clear hg
  have L1 : Aside0 (Kd.C k36 w1 (some ⟨g, 0, none⟩) 2 exCells) := ⟨exC B1.out⟩
  have L2 : Aside0 (Kd.C k36 w1 (some ⟨g, 0, none⟩) 1 (exCells.take 1)) := ⟨exC1 B1.out⟩
  refine (call35 40 _).mono ?_
  rintro e w2 ⟨A1, c1, A4, c4, A5, c5, rfl, hx, hb2⟩
  have X2 := Aside0.mk hx
  have H2 := Aside0.mk hb2
  clear hx hb2
  go_wp2_with (go_at_call 20; refine (callFirst _ _ _ X2.out (Kd.C_below L1.out H2.out) (by omega)).mono ?_; rintro e w3 ⟨rfl, hb3⟩; have H3 := Aside0.mk (below_step H2.out hb3); clear hb3)
  clear X2
  have H3' := H3.out
  go_region_held3 (fun w' => Below w1.heap.size w1 w')
    (first | go_keep | (exact below_drew1 (by assumption)) | (exact below_step (by assumption) hbL))
    (first | (go_at_call 35; refine (call35 _ _).mono ?_; rintro e wE ⟨B1, d1, B4, d4, B5, d5, rfl, hx, hbL⟩) | (go_at_call 13; refine (callD40 _ _ _ hx (Kd.C_below L1.out (by assumption)) (by omega)).mono ?_; rintro e wF ⟨rfl, hbL⟩) | (go_at_call 13; refine (callD2 _ _ _ hx (Kd.C_below L1.out (by assumption)) (by omega)).mono ?_; rintro e wF ⟨rfl, hbL⟩) | (go_at_call 17; (with_reducible refine (callG2 _ _ _ hx (Kd.C_below L1.out (by assumption)) (by omega)).mono ?_); rintro e wF ⟨rfl, hbL⟩) | (go_at_call 17; (with_reducible refine (callG1 _ _ _ hx (Kd.C_below L2.out (by assumption)) (by omega)).mono ?_); rintro e wF ⟨rfl, hbL⟩))
  have HH : Aside0 (Below w.heap.size w wF) := ⟨below_step D1.out (by assumption)⟩
  clear hbL hx
  go_wp2
  go_ret
  exact ⟨rfl, HH.out⟩
end Go.Proofs.Ytibgcekekmphoaa.P34

/- hopmeshlaw34.ConflictHears: what it answers, as the functions that it calls tell it. -/
import Derived.Test.YtibgcekekmphoaaGawake
import Derived.Test.YtibgcekekmphoaaP34N
import Derived.Test.YtibgcekekmphoaaP34B
import Derived.Test.YtibgcekekmphoaaGdist
import Derived.Test.YtibgcekekmphoaaMini
import Derived.Laws.MakeOwn
import Derived.Deep.RegionHeld3
namespace Go.Proofs.Ytibgcekekmphoaa.P34
open Go.RowKit Go.Proofs.YtibgcekekmphoaaW.PrintWords Go.Proofs.YtibgcekekmphoaaW.PrintLast Go.Proofs.YtibgcekekmphoaaW.PrintMore
attribute [local go_sem] max2_int min2_int max_two min_two max_three min_three max_four min_four
set_option linter.unusedVariables false
set_option linter.unusedSimpArgs false

def bools (l : List Bool) : Array Value := (l.map Value.bool).toArray
theorem bools_set (l : List Bool) (i : Nat) (b : Bool) : (bools l).setIfInBounds i (.bool b) = bools (l.set i b) := by
  simp [bools, List.map_set]
theorem bools_get (l : List Bool) (i : Nat) (h : i < l.length) : (bools l)[i]? = some (.bool (l.getD i false)) := by
  simp [bools, List.getD_eq_getElem?_getD, List.getElem?_eq_getElem h]
theorem make_bools (W : World) (m : Int) (h0 : 0 ≤ m) (h1 : m ≤ 1000) : (Instr.makeSlice 34 (.int .i64 m) (.int .i64 m)).run Try.prog W = .ok (.slice (some ⟨W.heap.size, 0, none⟩) m.toNat m.toNat) (W.alloc (.cells (bools (List.replicate m.toNat false)) 4)) := by
  cases hi : Try.prog.info? 4 with
  | none => have := info4; rw [hi] at this; cases this
  | some i =>
    have h4 := info4
    rw [hi] at h4
    simp only [Option.map_some, Option.some.injEq, Prod.mk.injEq] at h4
    obtain ⟨hz, hs, hb⟩ := h4
    rw [run_make W 34 4 i _ Try.underlying34 hi hz .i64 .i64 m m h0 (Int.le_refl _) (by rw [hb]; omega) (by omega), hs]
    have : madeCells (Value.bool false).cells (m.toNat * 1) = bools (List.replicate m.toNat false) := by
      apply Array.ext'
      simp [madeCells, bools, Value.cells, Nat.mod_one, List.map_replicate, List.eq_replicate_iff]
    rw [this]
theorem make_event {P : Program} {ops : Array Oper} {o : Oper} {rest : List Oper} {a : Act} {Q : Exit → Act → World → Prop} {W : World} {n : Nat} (hgd : o.guard = none) {N : Tmp} (_hd : o.dst = some N) {cs : Array Value} {t : TypeId}
    (hrun : (execOp a.eval o).run P W = .ok (.value (.slice (some ⟨W.heap.size, 0, none⟩) n n)) (W.alloc (.cells cs t (0, 0))))
    (h : ∀ g, g = W.heap.size → ∀ w1, w1.heap[g]? = some (.cells cs t (0, 0)) → Below W.heap.size W w1 → wpList P ops Q rest (a.put o.dst (.slice (some ⟨g, 0, none⟩) n n)) w1) : wpList P ops Q (o :: rest) a W :=
  Kd.event_run hgd hrun (h _ rfl _ (blk_new W _) (below_alloc (Below.refl _ _) _))
def badEnd (a b a0_0 : Int) (l0_5 : List Int) (c : S36) : Bool := decide (a < 0) || decide (b < 0) || decide (a ≥ (l0_5.length : Int)) || decide (b ≥ (l0_5.length : Int)) || decide (c.f2 < 0) || decide (c.f2 ≥ a0_0) || decide (c.f3 < 0) || decide (c.f3 ≥ a0_0)
def hears.w (k : Nat) (a0_0 : Int) (l0_1 : List (List Int)) (a0_2 : Int) (a0_3 : Int) (l0_4 : List (S44)) (l0_5 : List Int) (l1 : List S36) (i : Nat) (a b : Int) (want : Bool) (seen : List Bool) : Option Bool :=
  if want = true then (if seen.getD (rd_T36 l1 (i : Int)).f2.toNat false = true then some false else if seen.getD (rd_T36 l1 (i : Int)).f3.toNat false = true then some false else
    (conflict_Disturbance.f k a0_0 l0_1 a0_2 a0_3 l0_4 l0_5 l1 (i : Int) (rd_T36 l1 (i : Int)).f3).bind fun d1 => (network_Hears.f k a0_0 l0_1 a0_2 a0_3 l0_4 l0_5 (rd l0_5 a) d1).bind fun h1 =>
      if h1 = true then (conflict_Disturbance.f k a0_0 l0_1 a0_2 a0_3 l0_4 l0_5 l1 (i : Int) (rd_T36 l1 (i : Int)).f2).bind fun d2 => network_Hears.f k a0_0 l0_1 a0_2 a0_3 l0_4 l0_5 (rd l0_5 b) d2 else some false) else some false
def hears.l (k : Nat) (a0_0 : Int) (l0_1 : List (List Int)) (a0_2 : Int) (a0_3 : Int) (l0_4 : List (S44)) (l0_5 : List Int) (l1 : List S36) : Nat → Nat → Bool → List Bool → Option Bool
  | 0, _, want, _ => (conflict_Good.f k a0_0 l0_1 a0_2 a0_3 l0_4 l0_5 l1).bind fun g => some (g == want)
  | d + 1, i, want, seen =>
    (network_Index.f k a0_0 l0_1 a0_2 a0_3 l0_4 l0_5 (rd_T36 l1 (i : Int)).f2 (rd_T36 l1 (i : Int)).f3).bind fun a => (network_Index.f k a0_0 l0_1 a0_2 a0_3 l0_4 l0_5 (rd_T36 l1 (i : Int)).f3 (rd_T36 l1 (i : Int)).f2).bind fun b =>
      if badEnd a b a0_0 l0_5 (rd_T36 l1 (i : Int)) = true then (conflict_Good.f k a0_0 l0_1 a0_2 a0_3 l0_4 l0_5 l1).bind fun g => some (!g)
      else (hears.w k a0_0 l0_1 a0_2 a0_3 l0_4 l0_5 l1 i a b want seen).bind fun w' => hears.l k a0_0 l0_1 a0_2 a0_3 l0_4 l0_5 l1 d (i + 1) w' ((seen.set (rd_T36 l1 (i : Int)).f2.toNat true).set (rd_T36 l1 (i : Int)).f3.toNat true)
def hears.T13 : Bool × List (List Nat × List Nat) := (true, [([], []), ([0], [0]), ([1], [1]), ([1], [1]), ([3, 1], [1, 3]), ([2, 4, 1], [1, 2, 4]), ([5, 1], [1, 5]), ([6, 1], [1, 6]), ([1, 7], [1, 7]), ([8, 1], [8]), ([9], [9]), ([9], [9]), ([11, 9], [9, 11]), ([10, 12, 9], [9, 10, 12]), ([13, 9], [9, 13]), ([14, 9], [9, 14]), ([9, 15], [9, 15]), ([16, 9], [16]), ([17], [17]), ([17], [17]), ([19, 17], [17, 19]), ([17], [17]), ([20, 21, 17], [17, 20, 21]), ([22, 17], [17, 22]), ([17], [17]), ([17], [17]), ([17], [17]), ([17], [17]), ([27, 17], [17, 27]), ([24, 25, 26, 28, 17, 17], [17, 24, 25, 26, 28]), ([18, 23, 29, 29, 17], [17, 18, 23, 29]), ([17, 30], [17, 30]), ([31, 30], [31]), ([32], [32]), ([32], [32]), ([34, 32], [32, 34]), ([32], [32]), ([35, 36, 32], [32, 35, 36]), ([37, 32], [32, 37]), ([32], [32]), ([32], [32]), ([32], [32]), ([32], [32]), ([42, 32], [32, 42]), ([39, 40, 41, 43, 32, 32], [32, 39, 40, 41, 43]), ([33, 38, 44, 44, 32], [32, 33, 38, 44]), ([32, 45], [32, 45]), ([46, 45, 0, 1, 2, 3, 4, 5, 6, 7, 8, 9, 10, 11, 12, 13, 14, 15, 16, 17, 18, 19, 20, 21, 22, 23, 24, 25, 26, 27, 28, 29, 30, 31, 32, 33, 34, 35, 36, 37, 38, 39, 40, 41, 42, 43, 44, 45, 46], [0, 46])])
def hears.B13 : List Nat := [0, 1, 3, 3, 11, 31, 63, 127, 255, 511, 1023, 1023, 3071, 8191, 16383, 32767, 65535, 131071, 262143, 262143, 786431, 262143, 3932159, 8126463, 262143, 262143, 262143, 262143, 134479871, 520355839, 1073741823, 2147483647, 4294967295, 8589934591, 8589934591, 25769803775, 8589934591, 128849018879, 266287972351, 8589934591, 8589934591, 8589934591, 8589934591, 4406636445695, 17051020165119, 35184372088831, 70368744177663, 140737488355327]
theorem hears.tab13 : rtab .any (opsOf Try.f4 13) = hears.T13 := by kernel_rfl
theorem hears.bits13 : waitsOk hears.T13.2 hears.B13 = true := by kernel_rfl
def hopmeshlaw34_ConflictHears.f (k : Nat) (a0_0 : Int) (l0_1 : List (List Int)) (a0_2 : Int) (a0_3 : Int) (l0_4 : List (S44)) (l0_5 : List Int) (l1 : List S36) : Option Bool :=
  (hopmeshref31_Few.f k a0_0 l0_1 a0_2 a0_3 l0_4 l0_5).bind fun fw => if fw = true then (network_Check.f k a0_0 l0_1 a0_2 a0_3 l0_4 l0_5).bind fun ec => if ec = 0 then (if 4 < (l1.length : Int) then some true else
    if 0 ≤ a0_0 ∧ a0_0 ≤ 1000 then hears.l k a0_0 l0_1 a0_2 a0_3 l0_4 l0_5 l1 l1.length 0 true (List.replicate a0_0.toNat false) else none) else some true else some true

set_option maxRecDepth 100000 in
set_option maxHeartbeats 8000000 in
theorem hopmeshlaw34_ConflictHears.calls (k : Nat) (a0_0 : Int) (A0_1 : Option Addr) (c0_1 : Nat) (l0_1 : List (List Int)) (a0_2 : Int) (a0_3 : Int) (A0_4 : Option Addr) (c0_4 : Nat) (l0_4 : List (S44)) (A0_5 : Option Addr) (c0_5 : Nat) (l0_5 : List Int) (A1 : Option Addr) (c1 : Nat) (l1 : List (S36)) (r : Bool) (w : World) (hr0_1 : Kd.C (Kd.slice 3 (Kd.int .i64)) w A0_1 l0_1.length l0_1) (hc0_1 : l0_1.length ≤ c0_1) (hr0_4 : Kd.C k44 w A0_4 l0_4.length l0_4) (hc0_4 : l0_4.length ≤ c0_4) (hr0_5 : Kd.C (Kd.int .i64) w A0_5 l0_5.length l0_5) (hc0_5 : l0_5.length ≤ c0_5) (hr1 : Kd.C k36 w A1 l1.length l1) (hc1 : l1.length ≤ c1) (h : hopmeshlaw34_ConflictHears.f k a0_0 l0_1 a0_2 a0_3 l0_4 l0_5 l1 = some r) :
    Calls Try.prog 4 #[.agg #[.int .i64 a0_0, .slice A0_1 l0_1.length c0_1, .int .i64 a0_2, .int .i64 a0_3, .slice A0_4 l0_4.length c0_4, .slice A0_5 l0_5.length c0_5], .slice A1 l1.length c1] w fun e w' => e = .returned (.bool r) ∧ Below w.heap.size w w' := by
  have hu26 := Try.underlying26
  have hu36 := Try.underlying36
  unfold hopmeshlaw34_ConflictHears.f at h
  obtain ⟨fw, hfw, h⟩ := Option.bind_eq_some_iff.mp h
  have HA := Aside0.mk (fun (W : World) => hopmeshlaw34_awake.calls true W rfl)
  have HF := Aside0.mk (fun (W : World) (hb : Below w.heap.size w W) => hopmeshref31_Few.calls k a0_0 A0_1 c0_1 l0_1 a0_2 a0_3 A0_4 c0_4 l0_4 A0_5 c0_5 l0_5 fw W (Kd.C_below hr0_1 hb) hc0_1 (Kd.C_below hr0_4 hb) hc0_4 (Kd.C_below hr0_5 hb) hc0_5 hfw)
  have HC := Aside0.mk (fun (ec : Int) (he : network_Check.f k a0_0 l0_1 a0_2 a0_3 l0_4 l0_5 = some ec) (W : World) (hb : Below w.heap.size w W) => network_Check.calls k a0_0 A0_1 c0_1 l0_1 a0_2 a0_3 A0_4 c0_4 l0_4 A0_5 c0_5 l0_5 ec W (Kd.C_below hr0_1 hb) hc0_1 (Kd.C_below hr0_4 hb) hc0_4 (Kd.C_below hr0_5 hb) hc0_5 he)
  have HG := Aside0.mk (fun (g : Bool) (he : conflict_Good.f k a0_0 l0_1 a0_2 a0_3 l0_4 l0_5 l1 = some g) (W : World) (hb : Below w.heap.size w W) => conflict_Good.calls k a0_0 A0_1 c0_1 l0_1 a0_2 a0_3 A0_4 c0_4 l0_4 A0_5 c0_5 l0_5 A1 c1 l1 g W (Kd.C_below hr0_1 hb) hc0_1 (Kd.C_below hr0_4 hb) hc0_4 (Kd.C_below hr0_5 hb) hc0_5 (Kd.C_below hr1 hb) hc1 he)
  have HI := Aside0.mk (fun (x y a : Int) (he : network_Index.f k a0_0 l0_1 a0_2 a0_3 l0_4 l0_5 x y = some a) (W : World) (hb : Below w.heap.size w W) => network_Index.calls k a0_0 A0_1 c0_1 l0_1 a0_2 a0_3 A0_4 c0_4 l0_4 A0_5 c0_5 l0_5 x y a W (Kd.C_below hr0_1 hb) hc0_1 (Kd.C_below hr0_4 hb) hc0_4 (Kd.C_below hr0_5 hb) hc0_5 he)
  have HD := Aside0.mk (fun (i y d : Int) (he : conflict_Disturbance.f k a0_0 l0_1 a0_2 a0_3 l0_4 l0_5 l1 i y = some d) (W : World) (hb : Below w.heap.size w W) => conflict_Disturbance.calls k a0_0 A0_1 c0_1 l0_1 a0_2 a0_3 A0_4 c0_4 l0_4 A0_5 c0_5 l0_5 A1 c1 l1 i y d W (Kd.C_below hr0_1 hb) hc0_1 (Kd.C_below hr0_4 hb) hc0_4 (Kd.C_below hr0_5 hb) hc0_5 (Kd.C_below hr1 hb) hc1 he)
  have HH := Aside0.mk (fun (s d : Int) (g : Bool) (he : network_Hears.f k a0_0 l0_1 a0_2 a0_3 l0_4 l0_5 s d = some g) (W : World) (hb : Below w.heap.size w W) => network_Hears.calls k a0_0 A0_1 c0_1 l0_1 a0_2 a0_3 A0_4 c0_4 l0_4 A0_5 c0_5 l0_5 s d g W (Kd.C_below hr0_1 hb) hc0_1 (Kd.C_below hr0_4 hb) hc0_4 (Kd.C_below hr0_5 hb) hc0_5 he)
  have HR1 := Aside0.mk hr1
  have HR5 := Aside0.mk hr0_5
  have H := Aside0.mk h
  have hn1 := hr1.2.1
  clear h hfw hr0_1 hr0_4 hr0_5 hr1 hc0_1 hc0_4 hc0_5 hc1
  go_enter Try.func4, Try.ntmps4
  go_wp2_with (first | ((with_reducible refine gate_dst (N := 2) rfl ?_); refine box_event ?hg (N := 2) ?hd (cs := #[.int .i64 a0_0, .slice A0_1 l0_1.length c0_1, .int .i64 a0_2, .int .i64 a0_3, .slice A0_4 l0_4.length c0_4, .slice A0_5 l0_5.length c0_5]) (t := 26) ?hr ?_; (case hd => rfl); (case hg => rfl); (case hr => first | (go_simp; done) | (go_simp; rfl)); intro gb hg w4 hbox hb; have Bgb := Aside0.mk hbox; have Hgb := Aside0.mk hb; have Ggb := Aside0.mk hg; have z0 := (blk_cell hbox 0).trans rfl; have z1 := (blk_cell hbox 1).trans rfl; have z2 := (blk_cell hbox 2).trans rfl; have z3 := (blk_cell hbox 3).trans rfl; have z4 := (blk_cell hbox 4).trans rfl; have z5 := (blk_cell hbox 5).trans rfl; clear hb hbox hg))
  refine (HA.out _).mono ?_
  rintro e w5 ⟨rfl, hb5⟩
  have R := Aside0.mk (below_step Hgb.out hb5)
  have RB := Aside0.mk (blk_below Bgb.out hb5)
  clear Hgb hb5 Bgb Ggb z0 z1 z2 z3 z4 z5 HA
  have z0 := bc0 RB
  have z1 := bc1 RB
  have z2 := bc2 RB
  have z3 := bc3 RB
  have z4 := bc4 RB
  have z5 := bc5 RB
  go_wp2_with fail
  refine (HF.out _ R.out).mono ?_
  rintro e w6 ⟨rfl, hb6⟩
  replace R := Aside0.mk (below_step R.out hb6)
  replace RB := Aside0.mk (blk_below RB.out hb6)
  clear hb6 z0 z1 z2 z3 z4 z5 HF
  cases fw with
  | false =>
    have Hr : Aside0 (r = true) := ⟨(Option.some.inj ((if_neg (by simp)).symm.trans H.out)).symm⟩
    go_wp2
    go_ret
    exact ⟨by rw [Hr.out]; rfl, R.out⟩
  | true =>
  replace H := Aside0.mk ((if_pos rfl).symm.trans H.out)
  obtain ⟨ec, hec, h⟩ := Option.bind_eq_some_iff.mp H.out
  clear H
  have HC1 := Aside0.mk (HC.out ec hec)
  have H := Aside0.mk h
  clear h hec HC
  have z0 := bc0 RB
  have z1 := bc1 RB
  have z2 := bc2 RB
  have z3 := bc3 RB
  have z4 := bc4 RB
  have z5 := bc5 RB
  go_wp2_with fail
  refine (HC1.out _ R.out).mono ?_
  rintro e w7 ⟨rfl, hb7⟩
  replace R := Aside0.mk (below_step R.out hb7)
  replace RB := Aside0.mk (blk_below RB.out hb7)
  clear hb7 z0 z1 z2 z3 z4 z5 HC1
  by_cases he : ec = 0
  case neg =>
    have Hr : Aside0 (r = true) := ⟨(Option.some.inj ((if_neg he).symm.trans H.out)).symm⟩
    have hbe : (ec != 0) = true := bne_iff_ne.mpr he
    go_wp2
    go_ret
    exact ⟨by rw [Hr.out]; rfl, R.out⟩
  replace H := Aside0.mk ((if_pos he).symm.trans H.out)
  have hbe : (ec != 0) = false := bne_eq_false_iff_eq.mpr he
  by_cases hl : 4 < (l1.length : Int)
  · have Hr : Aside0 (r = true) := ⟨(Option.some.inj ((if_pos hl).symm.trans H.out)).symm⟩
    go_wp2
    go_ret
    exact ⟨by rw [Hr.out]; rfl, R.out⟩
  replace H := Aside0.mk ((if_neg hl).symm.trans H.out)
  by_cases hm : 0 ≤ a0_0 ∧ a0_0 ≤ 1000
  case neg => exact absurd ((if_neg hm).symm.trans H.out) (by simp)
  replace H := Aside0.mk ((if_pos hm).symm.trans H.out)
  have HM := Aside0.mk hm
  clear hm
  have z0 := bc0 RB
  have z1 := bc1 RB
  have z2 := bc2 RB
  have z3 := bc3 RB
  have z4 := bc4 RB
  have z5 := bc5 RB
  have hlb : decide ((l1.length : Int) > 4) = false := decide_eq_false (by omega)
  go_wp2_with (first | ((with_reducible refine gate_dst (N := 28) rfl ?_); refine make_event (n := a0_0.toNat) ?hg (N := 28) ?hd (cs := bools (List.replicate a0_0.toNat false)) (t := 4) ?hr ?_; (case hd => rfl); (case hg => rfl); (case hr => go_simp; rw [make_bools _ _ HM.out.1 HM.out.2]; rfl); intro gs hg w9 hbox hb; have BS := Aside0.mk hbox; have HS := Aside0.mk hb; have GS := Aside0.mk hg; clear hg hbox hb))

  have R2 := Aside0.mk (below_step R.out HS.out)
  have RB2 := Aside0.mk (blk_below RB.out HS.out)
  have NBS : Aside0 (gb ≠ gs ∧ w.heap.size ≤ gs) := ⟨by have := blk_lt RB.out; have := GS.out; have := R.out.size; omega⟩
  clear R RB HS GS z0 z1 z2 z3 z4 z5 hbe hlb he hl
  obtain ⟨nn, hnn⟩ : ∃ nn, nn = a0_0.toNat := ⟨_, rfl⟩
  rw [← hnn] at BS H ⊢
  have HNN := Aside0.mk hnn
  clear hnn
  go_loopg [5, 31] l1.length (fun gg v5 v31 wr => ∃ (kk : Nat) (want : Bool) (seen : List Bool), v5 = .bool want ∧ v31 = .int .i64 kk ∧ Aside0 (kk ≤ l1.length ∧ l1.length - kk ≤ gg ∧ seen.length = nn) ∧ Aside0 (Below w.heap.size w wr) ∧ Aside0 (wr.heap[gb]? = some (.cells #[.int .i64 a0_0, .slice A0_1 l0_1.length c0_1, .int .i64 a0_2, .int .i64 a0_3, .slice A0_4 l0_4.length c0_4, .slice A0_5 l0_5.length c0_5] 26 (0, 0))) ∧ Aside0 (wr.heap[gs]? = some (.cells (bools seen) 4 (0, 0))) ∧ Aside0 (hears.l k a0_0 l0_1 a0_2 a0_3 l0_4 l0_5 l1 (l1.length - kk) kk want seen = some r))
  case atStart => exact ⟨0, true, _, rfl, rfl, ⟨Nat.zero_le _, by omega, by simp⟩, ⟨R2.out⟩, ⟨RB2.out⟩, ⟨BS.out⟩, ⟨H.out⟩⟩
  case round =>
    clear R2 RB2 BS H
    obtain ⟨kk, want, seen, rfl, rfl, HK, R, RB, RS, H⟩ := hrel
    obtain ⟨hk1, hk2, hk3⟩ := HK.out
    by_cases hlt : kk < l1.length
    · have hltz : (kk : Int) < (l1.length : Int) := by omega
      obtain ⟨dd, hdd⟩ : ∃ dd, l1.length - kk = dd + 1 := ⟨l1.length - kk - 1, by omega⟩
      replace H := H.out
      rw [hdd] at H
      simp only [hears.l] at H
      obtain ⟨a, ha, H⟩ := Option.bind_eq_some_iff.mp H
      obtain ⟨b, hb, H⟩ := Option.bind_eq_some_iff.mp H
      obtain ⟨ad, rfl, x0, x1, x2, x3, x4⟩ := at_T36 HR1.out (kk : Int) (by omega) (by omega)
      rw [Int.toNat_natCast] at x0 x1 x2 x3 x4
      replace x0 := (R.out.cell (World.block_lt_of_cell? w _ x0)).trans x0
      replace x1 := (R.out.cell (World.block_lt_of_cell? w _ x1)).trans x1
      replace x2 := (R.out.cell (World.block_lt_of_cell? w _ x2)).trans x2
      replace x3 := (R.out.cell (World.block_lt_of_cell? w _ x3)).trans x3
      replace x4 := (R.out.cell (World.block_lt_of_cell? w _ x4)).trans x4
      have HI1 := Aside0.mk (HI.out _ _ a ha)
      have HI2 := Aside0.mk (HI.out _ _ b hb)
      have HDk := Aside0.mk (HD.out (kk : Int))
      clear ha hb
      have HW : Aside0 (hears.w k a0_0 l0_1 a0_2 a0_3 l0_4 l0_5 l1 kk a b want seen = hears.w k a0_0 l0_1 a0_2 a0_3 l0_4 l0_5 l1 kk a b want seen) := ⟨rfl⟩
      generalize hcc : rd_T36 l1 (kk : Int) = cc at x0 x1 x2 x3 x4 H HI1 HI2
      have HCC := Aside0.mk hcc
      have H := Aside0.mk H
      clear hcc
      go_wp2_with (first | ((with_reducible refine gate_dst (N := 8) rfl ?_); refine box_event ?hg (N := 8) ?hd (cs := #[.int .i64 0, .int .i64 0, .int .i64 0, .int .i64 0, .int .i64 0]) (t := 36) ?hr ?_; (case hd => rfl); (case hg => rfl); (case hr => first | (go_simp; done) | (go_simp; rfl)); intro gc hg w7 hbox hb; have Bgc := Aside0.mk hbox; have Hgc := Aside0.mk hb; have Ggc := Aside0.mk hg; have hzgc_0 := (blk_cell hbox 0).trans rfl; have hzgc_1 := (blk_cell hbox 1).trans rfl; have hzgc_2 := (blk_cell hbox 2).trans rfl; have hzgc_3 := (blk_cell hbox 3).trans rfl; have hzgc_4 := (blk_cell hbox 4).trans rfl; clear hb hbox hg; have hf0 := blk_frozen Bgc.out 0; have hf1 := blk_frozen Bgc.out 1; have hf2 := blk_frozen Bgc.out 2; have hf3 := blk_frozen Bgc.out 3; have hf4 := blk_frozen Bgc.out 4))
      have KL : gb ≠ gc ∧ gs ≠ gc := by
        have e1 := blk_lt RB.out; have e4 := blk_lt RS.out; have e6 := Ggc.out
        exact ⟨by omega, by omega⟩
      have hgc : w.heap.size ≤ gc := by rw [Ggc.out]; exact R.out.size
      have PC : Aside0 ((((((w7.setCell ⟨gc, 0, none⟩ (.int .i64 cc.f0)).setCell ⟨gc, 1, none⟩ (.int .i64 cc.f1)).setCell ⟨gc, 2, none⟩ (.int .i64 cc.f2)).setCell ⟨gc, 3, none⟩ (.int .i64 cc.f3)).setCell ⟨gc, 4, none⟩ (.int .i64 cc.f4)).heap[gc]? = some (.cells #[.int .i64 cc.f0, .int .i64 cc.f1, .int .i64 cc.f2, .int .i64 cc.f3, .int .i64 cc.f4] 36 (0, 0))) := ⟨blk_set (blk_set (blk_set (blk_set (blk_set Bgc.out 0 _) 1 _) 2 _) 3 _) 4 _⟩
      have D7 : Aside0 (Below w.heap.size w (((((w7.setCell ⟨gc, 0, none⟩ (.int .i64 cc.f0)).setCell ⟨gc, 1, none⟩ (.int .i64 cc.f1)).setCell ⟨gc, 2, none⟩ (.int .i64 cc.f2)).setCell ⟨gc, 3, none⟩ (.int .i64 cc.f3)).setCell ⟨gc, 4, none⟩ (.int .i64 cc.f4))) := ⟨below_set (below_set (below_set (below_set (below_set (below_step R.out Hgc.out) hgc) hgc) hgc) hgc) hgc⟩
      have PB : Aside0 ((((((w7.setCell ⟨gc, 0, none⟩ (.int .i64 cc.f0)).setCell ⟨gc, 1, none⟩ (.int .i64 cc.f1)).setCell ⟨gc, 2, none⟩ (.int .i64 cc.f2)).setCell ⟨gc, 3, none⟩ (.int .i64 cc.f3)).setCell ⟨gc, 4, none⟩ (.int .i64 cc.f4)).heap[gb]? = some (.cells #[.int .i64 a0_0, .slice A0_1 l0_1.length c0_1, .int .i64 a0_2, .int .i64 a0_3, .slice A0_4 l0_4.length c0_4, .slice A0_5 l0_5.length c0_5] 26 (0, 0))) := ⟨blk_far (blk_far (blk_far (blk_far (blk_far (blk_below RB.out Hgc.out) KL.1 _) KL.1 _) KL.1 _) KL.1 _) KL.1 _⟩
      have PS : Aside0 ((((((w7.setCell ⟨gc, 0, none⟩ (.int .i64 cc.f0)).setCell ⟨gc, 1, none⟩ (.int .i64 cc.f1)).setCell ⟨gc, 2, none⟩ (.int .i64 cc.f2)).setCell ⟨gc, 3, none⟩ (.int .i64 cc.f3)).setCell ⟨gc, 4, none⟩ (.int .i64 cc.f4)).heap[gs]? = some (.cells (bools seen) 4 (0, 0))) := ⟨blk_far (blk_far (blk_far (blk_far (blk_far (blk_below RS.out Hgc.out) KL.2 _) KL.2 _) KL.2 _) KL.2 _) KL.2 _⟩
      have NCS : Aside0 (gc ≠ gs) := ⟨Ne.symm KL.2⟩
      clear KL hf0 hf1 hf2 hf3 hf4 hzgc_0 hzgc_1 hzgc_2 hzgc_3 hzgc_4 RB RS R Bgc Hgc Ggc
      have GC := Aside0.mk hgc
      clear hgc
      generalize (((((w7.setCell ⟨gc, 0, none⟩ (.int .i64 cc.f0)).setCell ⟨gc, 1, none⟩ (.int .i64 cc.f1)).setCell ⟨gc, 2, none⟩ (.int .i64 cc.f2)).setCell ⟨gc, 3, none⟩ (.int .i64 cc.f3)).setCell ⟨gc, 4, none⟩ (.int .i64 cc.f4)) = wA at PC D7 PB PS ⊢
      clear w7 x0 x1 x2 x3 x4
      obtain ⟨C0, e0⟩ : ∃ x, x = cc.f0 := ⟨_, rfl⟩
      obtain ⟨C1, e1⟩ : ∃ x, x = cc.f1 := ⟨_, rfl⟩
      obtain ⟨C2, e2⟩ : ∃ x, x = cc.f2 := ⟨_, rfl⟩
      obtain ⟨C3, e3⟩ : ∃ x, x = cc.f3 := ⟨_, rfl⟩
      obtain ⟨C4, e4⟩ : ∃ x, x = cc.f4 := ⟨_, rfl⟩
      have hbd : badEnd a b a0_0 l0_5 cc = (decide (a < 0) || decide (b < 0) || decide (a ≥ (l0_5.length : Int)) || decide (b ≥ (l0_5.length : Int)) || decide (C2 < 0) || decide (C2 ≥ a0_0) || decide (C3 < 0) || decide (C3 ≥ a0_0)) := by rw [e2, e3]; rfl
      rw [hbd] at H
      clear hbd
      rw [← e0, ← e1, ← e2, ← e3, ← e4] at PC ⊢
      rw [← e2, ← e3] at HI1 HI2 H
      have E2 := Aside0.mk e2
      have E3 := Aside0.mk e3
      clear e0 e1 e2 e3 e4
      have z0 := bc0 PB
      have z1 := bc1 PB
      have z2 := bc2 PB
      have z3 := bc3 PB
      have z4 := bc4 PB
      have z5 := bc5 PB
      have y2 := bc2 PC
      have y3 := bc3 PC
      go_region_held3 (fun w' => w'.cell? ⟨gb, 0, none⟩ = some (.int .i64 a0_0) ∧ w'.cell? ⟨gb, 1, none⟩ = some (.slice A0_1 l0_1.length c0_1) ∧ w'.cell? ⟨gb, 2, none⟩ = some (.int .i64 a0_2) ∧ w'.cell? ⟨gb, 3, none⟩ = some (.int .i64 a0_3) ∧ w'.cell? ⟨gb, 4, none⟩ = some (.slice A0_4 l0_4.length c0_4) ∧ w'.cell? ⟨gb, 5, none⟩ = some (.slice A0_5 l0_5.length c0_5) ∧ w'.cell? ⟨gc, 2, none⟩ = some (.int .i64 C2) ∧ w'.cell? ⟨gc, 3, none⟩ = some (.int .i64 C3))
        (first | go_keep | (go_split_ands; refine ⟨?_, ?_, ?_, ?_, ?_, ?_, ?_, ?_⟩ <;> exact (hb9.cell (World.block_lt_of_cell? _ _ (by assumption))).trans (by assumption)) | (go_split_ands; refine ⟨?_, ?_, ?_, ?_, ?_, ?_, ?_, ?_⟩ <;> exact (hb8.cell (World.block_lt_of_cell? _ _ (by assumption))).trans (by assumption)))
        (first | (go_at_call 16; ((with_reducible refine (HI1.out _ ?c1).mono ?_); (case c1 => exact below_drew1 D7.out); rintro e w8 ⟨rfl, hb8⟩)) | (go_at_call 16; ((with_reducible refine (HI2.out _ ?c2).mono ?_); (case c2 => exact below_step (below_drew1 D7.out) hb8); rintro e w10 ⟨rfl, hb9⟩)))
      have R9 : Aside0 (Below w.heap.size w w10) := ⟨below_step (below_step (below_drew1 D7.out) hb8) hb9⟩
      have RB := Aside0.mk (blk_below (blk_below (blk_drew PB.out) hb8) hb9)
      have RS := Aside0.mk (blk_below (blk_below (blk_drew PS.out) hb8) hb9)
      have RC := Aside0.mk (blk_below (blk_below (blk_drew PC.out) hb8) hb9)
      rename_i hHeld_
      clear hHeld_ hb8 hb9 D7 PB PS PC y2 y3 z0 z1 z2 z3 z4 z5 HI1 HI2 w8 wA
      have z0 := bc0 RB
      have z1 := bc1 RB
      have z2 := bc2 RB
      have z3 := bc3 RB
      have z4 := bc4 RB
      have z5 := bc5 RB
      have y2 := bc2 RC
      have y3 := bc3 RC
      by_cases p0 : a < 0
      · have H2 := (if_pos (by simp only [Bool.or_eq_true, decide_eq_true_eq]; omega)).symm.trans H.out
        obtain ⟨g, hg, h2⟩ := Option.bind_eq_some_iff.mp H2
        have HG2 := Aside0.mk (HG.out g hg)
        have Hr := Aside0.mk (Option.some.inj h2)
        clear H2 hg h2
        have q0 : decide (a < 0) = true := decide_eq_true p0
        go_wp2_with fail
        refine (HG2.out _ R9.out).mono ?_
        rintro e w11 ⟨rfl, hb11⟩
        have D11 := Aside0.mk (below_step R9.out hb11)
        clear hb11
        go_wp2
        go_ret
        exact ⟨by rw [← Hr.out]; rfl, D11.out⟩
      have q0 : decide (a < 0) = false := decide_eq_false p0
      by_cases p1 : b < 0
      · have H2 := (if_pos (by simp only [Bool.or_eq_true, decide_eq_true_eq]; omega)).symm.trans H.out
        obtain ⟨g, hg, h2⟩ := Option.bind_eq_some_iff.mp H2
        have HG2 := Aside0.mk (HG.out g hg)
        have Hr := Aside0.mk (Option.some.inj h2)
        clear H2 hg h2
        have q1 : decide (b < 0) = true := decide_eq_true p1
        go_wp2_with fail
        refine (HG2.out _ R9.out).mono ?_
        rintro e w11 ⟨rfl, hb11⟩
        have D11 := Aside0.mk (below_step R9.out hb11)
        clear hb11
        go_wp2
        go_ret
        exact ⟨by rw [← Hr.out]; rfl, D11.out⟩
      have q1 : decide (b < 0) = false := decide_eq_false p1
      by_cases p2 : a ≥ (l0_5.length : Int)
      · have H2 := (if_pos (by simp only [Bool.or_eq_true, decide_eq_true_eq]; omega)).symm.trans H.out
        obtain ⟨g, hg, h2⟩ := Option.bind_eq_some_iff.mp H2
        have HG2 := Aside0.mk (HG.out g hg)
        have Hr := Aside0.mk (Option.some.inj h2)
        clear H2 hg h2
        have q2 : decide (a ≥ (l0_5.length : Int)) = true := decide_eq_true p2
        have r2 : decide ((l0_5.length : Int) ≤ a) = true := q2
        go_wp2_with fail
        refine (HG2.out _ R9.out).mono ?_
        rintro e w11 ⟨rfl, hb11⟩
        have D11 := Aside0.mk (below_step R9.out hb11)
        clear hb11
        go_wp2
        go_ret
        exact ⟨by rw [← Hr.out]; rfl, D11.out⟩
      have q2 : decide (a ≥ (l0_5.length : Int)) = false := decide_eq_false p2
      have r2 : decide ((l0_5.length : Int) ≤ a) = false := q2
      by_cases p3 : b ≥ (l0_5.length : Int)
      · have H2 := (if_pos (by simp only [Bool.or_eq_true, decide_eq_true_eq]; omega)).symm.trans H.out
        obtain ⟨g, hg, h2⟩ := Option.bind_eq_some_iff.mp H2
        have HG2 := Aside0.mk (HG.out g hg)
        have Hr := Aside0.mk (Option.some.inj h2)
        clear H2 hg h2
        have q3 : decide (b ≥ (l0_5.length : Int)) = true := decide_eq_true p3
        have r3 : decide ((l0_5.length : Int) ≤ b) = true := q3
        go_wp2_with fail
        refine (HG2.out _ R9.out).mono ?_
        rintro e w11 ⟨rfl, hb11⟩
        have D11 := Aside0.mk (below_step R9.out hb11)
        clear hb11
        go_wp2
        go_ret
        exact ⟨by rw [← Hr.out]; rfl, D11.out⟩
      have q3 : decide (b ≥ (l0_5.length : Int)) = false := decide_eq_false p3
      have r3 : decide ((l0_5.length : Int) ≤ b) = false := q3
      by_cases p4 : C2 < 0
      · have H2 := (if_pos (by simp only [Bool.or_eq_true, decide_eq_true_eq]; omega)).symm.trans H.out
        obtain ⟨g, hg, h2⟩ := Option.bind_eq_some_iff.mp H2
        have HG2 := Aside0.mk (HG.out g hg)
        have Hr := Aside0.mk (Option.some.inj h2)
        clear H2 hg h2
        have q4 : decide (C2 < 0) = true := decide_eq_true p4
        go_wp2_with fail
        refine (HG2.out _ R9.out).mono ?_
        rintro e w11 ⟨rfl, hb11⟩
        have D11 := Aside0.mk (below_step R9.out hb11)
        clear hb11
        go_wp2
        go_ret
        exact ⟨by rw [← Hr.out]; rfl, D11.out⟩
      have q4 : decide (C2 < 0) = false := decide_eq_false p4
      by_cases p5 : C2 ≥ a0_0
      · have H2 := (if_pos (by simp only [Bool.or_eq_true, decide_eq_true_eq]; omega)).symm.trans H.out
        obtain ⟨g, hg, h2⟩ := Option.bind_eq_some_iff.mp H2
        have HG2 := Aside0.mk (HG.out g hg)
        have Hr := Aside0.mk (Option.some.inj h2)
        clear H2 hg h2
        have q5 : decide (C2 ≥ a0_0) = true := decide_eq_true p5
        have r5 : decide (a0_0 ≤ C2) = true := q5
        go_wp2_with fail
        refine (HG2.out _ R9.out).mono ?_
        rintro e w11 ⟨rfl, hb11⟩
        have D11 := Aside0.mk (below_step R9.out hb11)
        clear hb11
        go_wp2
        go_ret
        exact ⟨by rw [← Hr.out]; rfl, D11.out⟩
      have q5 : decide (C2 ≥ a0_0) = false := decide_eq_false p5
      have r5 : decide (a0_0 ≤ C2) = false := q5
      by_cases p6 : C3 < 0
      · have H2 := (if_pos (by simp only [Bool.or_eq_true, decide_eq_true_eq]; omega)).symm.trans H.out
        obtain ⟨g, hg, h2⟩ := Option.bind_eq_some_iff.mp H2
        have HG2 := Aside0.mk (HG.out g hg)
        have Hr := Aside0.mk (Option.some.inj h2)
        clear H2 hg h2
        have q6 : decide (C3 < 0) = true := decide_eq_true p6
        go_wp2_with fail
        refine (HG2.out _ R9.out).mono ?_
        rintro e w11 ⟨rfl, hb11⟩
        have D11 := Aside0.mk (below_step R9.out hb11)
        clear hb11
        go_wp2
        go_ret
        exact ⟨by rw [← Hr.out]; rfl, D11.out⟩
      have q6 : decide (C3 < 0) = false := decide_eq_false p6
      by_cases p7 : C3 ≥ a0_0
      · have H2 := (if_pos (by simp only [Bool.or_eq_true, decide_eq_true_eq]; omega)).symm.trans H.out
        obtain ⟨g, hg, h2⟩ := Option.bind_eq_some_iff.mp H2
        have HG2 := Aside0.mk (HG.out g hg)
        have Hr := Aside0.mk (Option.some.inj h2)
        clear H2 hg h2
        have q7 : decide (C3 ≥ a0_0) = true := decide_eq_true p7
        have r7 : decide (a0_0 ≤ C3) = true := q7
        go_wp2_with fail
        refine (HG2.out _ R9.out).mono ?_
        rintro e w11 ⟨rfl, hb11⟩
        have D11 := Aside0.mk (below_step R9.out hb11)
        clear hb11
        go_wp2
        go_ret
        exact ⟨by rw [← Hr.out]; rfl, D11.out⟩
      have q7 : decide (C3 ≥ a0_0) = false := decide_eq_false p7
      have r7 : decide (a0_0 ≤ C3) = false := q7

      have hnb : ¬ ((decide (a < 0) || decide (b < 0) || decide (a ≥ (l0_5.length : Int)) || decide (b ≥ (l0_5.length : Int)) || decide (C2 < 0) || decide (C2 ≥ a0_0) || decide (C3 < 0) || decide (C3 ≥ a0_0)) = true) := by simp only [Bool.or_eq_true, decide_eq_true_eq]; omega
      obtain ⟨w1, hw1, h2⟩ := Option.bind_eq_some_iff.mp ((if_neg hnb).symm.trans H.out)
      clear H hnb
      have H := Aside0.mk h2
      clear h2
      have ga : 0 ≤ a ∧ a < (l0_5.length : Int) := by omega
      have gb_ : 0 ≤ b ∧ b < (l0_5.length : Int) := by omega
      have gC2a : 0 ≤ C2 := by omega
      have gC2b : C2 < (nn : Int) := by have := HNN.out; omega
      have gC3a : 0 ≤ C3 := by omega
      have gC3b : C3 < (nn : Int) := by have := HNN.out; omega
      obtain ⟨ad5, e5, xa⟩ := Kd.at_int HR5.out a ga.1 ga.2
      obtain ⟨ad6, e6, xb⟩ := Kd.at_int HR5.out b gb_.1 gb_.2
      obtain rfl : ad5 = ad6 := by rw [e5] at e6; injection e6
      clear e6
      subst e5
      have XA := Aside0.mk xa
      have XB := Aside0.mk xb
      clear xa xb
      unfold hears.w at hw1
      rw [HCC.out, ← E2.out, ← E3.out] at hw1
      have HW1 := Aside0.mk hw1
      clear hw1
      go_upto_region 13 with fail
      go_cut [5, 31] from 31 to 151 (fun v5 v31 wc => v5 = .bool w1 ∧ v31 = .int .i64 (kk : Int) ∧ Aside0 (Below w.heap.size w wc) ∧ Aside0 (wc.heap[gb]? = some (.cells #[.int .i64 a0_0, .slice A0_1 l0_1.length c0_1, .int .i64 a0_2, .int .i64 a0_3, .slice A0_4 l0_4.length c0_4, .slice (some ad5) l0_5.length c0_5] 26 (0, 0))) ∧ Aside0 (wc.heap[gs]? = some (.cells (bools seen) 4 (0, 0))) ∧ Aside0 (wc.heap[gc]? = some (.cells #[.int .i64 C0, .int .i64 C1, .int .i64 C2, .int .i64 C3, .int .i64 C4] 36 (0, 0))))
      case first =>
        have hw1 := HW1.out
        clear HW1
        have s2 := (blk_cell RS.out C2.toNat).trans (bools_get seen C2.toNat (by omega))
        have s3 := (blk_cell RS.out C3.toNat).trans (bools_get seen C3.toNat (by omega))
        generalize seen.getD C2.toNat false = S2 at s2 hw1
        generalize seen.getD C3.toNat false = S3 at s3 hw1
        have xa := (R9.out.cell (World.block_lt_of_cell? w _ XA.out)).trans XA.out
        have xb := (R9.out.cell (World.block_lt_of_cell? w _ XB.out)).trans XB.out
        cases want with
        | false =>
          have Hw := Aside0.mk (Option.some.inj ((if_neg (by simp)).symm.trans hw1))
          clear hw1
          go_quiet (fail)
          go_wp2_with fail
          go_meet
          case rel => exact ⟨by rw [← Hw.out], rfl, ⟨pw_below_drewN R9.out _⟩, ⟨blk_drewN RB.out _⟩, ⟨blk_drewN RS.out _⟩, ⟨blk_drewN RC.out _⟩⟩
        | true =>
        replace hw1 := (if_pos rfl).symm.trans hw1
        cases S2 with
        | true =>
          have Hw := Aside0.mk (Option.some.inj ((if_pos rfl).symm.trans hw1))
          clear hw1
          go_quiet (fail)
          go_wp2_with fail
          go_meet
          case rel => exact ⟨by rw [← Hw.out], rfl, ⟨pw_below_drewN R9.out _⟩, ⟨blk_drewN RB.out _⟩, ⟨blk_drewN RS.out _⟩, ⟨blk_drewN RC.out _⟩⟩
        | false =>
        replace hw1 := (if_neg (by simp)).symm.trans hw1
        cases S3 with
        | true =>
          have Hw := Aside0.mk (Option.some.inj ((if_pos rfl).symm.trans hw1))
          clear hw1
          go_quiet (fail)
          go_wp2_with fail
          go_meet
          case rel => exact ⟨by rw [← Hw.out], rfl, ⟨pw_below_drewN R9.out _⟩, ⟨blk_drewN RB.out _⟩, ⟨blk_drewN RS.out _⟩, ⟨blk_drewN RC.out _⟩⟩
        | false =>
        replace hw1 := (if_neg (by simp)).symm.trans hw1
        obtain ⟨d1, hd1, hw2⟩ := Option.bind_eq_some_iff.mp hw1
        obtain ⟨h1, hh1, hw3⟩ := Option.bind_eq_some_iff.mp hw2
        have HD1 := Aside0.mk (HDk.out _ d1 hd1)
        have HH1 := Aside0.mk (HH.out _ _ h1 hh1)
        clear hw1 hw2 hd1 hh1
        have hw4 := Aside0.mk hw3
        clear hw3
        cases h1 with
        | false =>
          have Hw := Aside0.mk (Option.some.inj ((if_neg (by simp)).symm.trans hw4.out))
          clear hw4
          refine start_ (n := 48) (S := fun w' => w'.cell? ⟨gb, 0, none⟩ = some (.int .i64 a0_0) ∧ w'.cell? ⟨gb, 1, none⟩ = some (.slice A0_1 l0_1.length c0_1) ∧ w'.cell? ⟨gb, 2, none⟩ = some (.int .i64 a0_2) ∧ w'.cell? ⟨gb, 3, none⟩ = some (.int .i64 a0_3) ∧ w'.cell? ⟨gb, 4, none⟩ = some (.slice A0_4 l0_4.length c0_4) ∧ w'.cell? ⟨gb, 5, none⟩ = some (.slice (some ad5) l0_5.length c0_5) ∧ w'.cell? ⟨gc, 2, none⟩ = some (.int .i64 C2) ∧ w'.cell? ⟨gc, 3, none⟩ = some (.int .i64 C3) ∧ w'.cell? ⟨gs, C2.toNat, none⟩ = some (.bool false) ∧ w'.cell? ⟨gs, C3.toNat, none⟩ = some (.bool false) ∧ w'.cell? (ad5.add a.toNat) = some (.int .i64 (rd l0_5 a)) ∧ w'.cell? (ad5.add b.toNat) = some (.int .i64 (rd l0_5 b))) (ds := []) #[false, false, false, false, false, false, false, false, false, false, false, false, false, false, false, false, false, false, false, false, false, false, false, false, false, false, false, false, false, false, false, false, false, false, false, false, false, false, false, false, false, false, false, false, false, false, false, false] (by kernel_rfl) rfl rfl ⟨z0, z1, z2, z3, z4, z5, y2, y3, s2, s3, xa, xb⟩ (fun hHeld => ?_)
          refine with_tabW hears.tab13 hears.bits13 (fun HT_ HW_ => ?_)
          refine pure_ (i := 0) (N := some 96) (v := ?_) (a' := ?_) #[true, false, false, false, false, false, false, false, false, false, false, false, false, false, false, false, false, false, false, false, false, false, false, false, false, false, false, false, false, false, false, false, false, false, false, false, false, false, false, false, false, false, false, false, false, false, false, false] rfl rfl (any_of HT_.out (by kernel_rfl)) (fun _ _ _ h => h) (Or.inl ⟨by rfl, ?_⟩) ?_ ?_
          rotate_left
          · intro w'
            go_simp
            with_reducible rfl
          rotate_left
          · simp only [Act.put, List.setIfInBounds_toArray, List.set_cons_zero, List.set_cons_succ, i64_w, i32_w]
            rfl
          refine pure_ (i := 1) (N := some 97) (v := ?_) (a' := ?_) #[true, true, false, false, false, false, false, false, false, false, false, false, false, false, false, false, false, false, false, false, false, false, false, false, false, false, false, false, false, false, false, false, false, false, false, false, false, false, false, false, false, false, false, false, false, false, false, false] rfl rfl (any_of HT_.out (by kernel_rfl)) (fun _ _ _ h => h) (Or.inl ⟨by rfl, ?_⟩) ?_ ?_
          rotate_left
          · intro w'
            go_simp
            with_reducible rfl
          rotate_left
          · simp only [Act.put, List.setIfInBounds_toArray, List.set_cons_zero, List.set_cons_succ, i64_w, i32_w]
            rfl
          refine pure_ (i := 2) (N := some 98) (v := ?_) (a' := ?_) #[true, true, true, false, false, false, false, false, false, false, false, false, false, false, false, false, false, false, false, false, false, false, false, false, false, false, false, false, false, false, false, false, false, false, false, false, false, false, false, false, false, false, false, false, false, false, false, false] rfl rfl (any_of HT_.out (by kernel_rfl)) (fun _ _ _ h => h) (Or.inl ⟨by rfl, ?_⟩) ?_ ?_
          rotate_left
          · intro w'
            go_simp
            with_reducible rfl
          rotate_left
          · simp only [Act.put, List.setIfInBounds_toArray, List.set_cons_zero, List.set_cons_succ, i64_w, i32_w]
            rfl
          refine pure_ (i := 3) (N := some 99) (v := ?_) (a' := ?_) #[true, true, true, true, false, false, false, false, false, false, false, false, false, false, false, false, false, false, false, false, false, false, false, false, false, false, false, false, false, false, false, false, false, false, false, false, false, false, false, false, false, false, false, false, false, false, false, false] rfl rfl (any_of HT_.out (by kernel_rfl)) (fun _ _ _ h => h) (Or.inl ⟨by rfl, ?_⟩) ?_ ?_
          rotate_left
          · intro w'
            go_simp
            with_reducible rfl
          rotate_left
          · simp only [Act.put, List.setIfInBounds_toArray, List.set_cons_zero, List.set_cons_succ, i64_w, i32_w]
            rfl
          refine take_ (i := 4) (N := some 100) (v := ?_) (a' := ?_) #[true, true, true, true, true, false, false, false, false, false, false, false, false, false, false, false, false, false, false, false, false, false, false, false, false, false, false, false, false, false, false, false, false, false, false, false, false, false, false, false, false, false, false, false, false, false, false, false] rfl rfl (take_ofW HT_.out HW_.out (by kernel_rfl)) (fun _ _ _ h => h) (Or.inl ⟨by rfl, ?_⟩) hHeld ?_ ?_
          rotate_left
          · rintro w' ⟨s0, s1, s2, s3, s4, s5, s6, s7, s8, s9, s10, s11⟩
            go_simp
            with_reducible rfl
          rotate_left
          · simp only [Act.put, List.setIfInBounds_toArray, List.set_cons_zero, List.set_cons_succ, i64_w, i32_w]
            rfl
          refine pure_ (i := 5) (N := some 101) (v := ?_) (a' := ?_) #[true, true, true, true, true, true, false, false, false, false, false, false, false, false, false, false, false, false, false, false, false, false, false, false, false, false, false, false, false, false, false, false, false, false, false, false, false, false, false, false, false, false, false, false, false, false, false, false] rfl rfl (any_of HT_.out (by kernel_rfl)) (fun _ _ _ h => h) (Or.inl ⟨by rfl, ?_⟩) ?_ ?_
          rotate_left
          · intro w'
            go_simp
            with_reducible rfl
          rotate_left
          · simp only [Act.put, List.setIfInBounds_toArray, List.set_cons_zero, List.set_cons_succ, i64_w, i32_w]
            rfl
          refine take_ (i := 6) (N := some 102) (v := ?_) (a' := ?_) #[true, true, true, true, true, true, true, false, false, false, false, false, false, false, false, false, false, false, false, false, false, false, false, false, false, false, false, false, false, false, false, false, false, false, false, false, false, false, false, false, false, false, false, false, false, false, false, false] rfl rfl (take_ofW HT_.out HW_.out (by kernel_rfl)) (fun _ _ _ h => h) (Or.inl ⟨by rfl, ?_⟩) hHeld ?_ ?_
          rotate_left
          · rintro w' ⟨s0, s1, s2, s3, s4, s5, s6, s7, s8, s9, s10, s11⟩
            go_simp
            with_reducible rfl
          rotate_left
          · simp only [Act.put, List.setIfInBounds_toArray, List.set_cons_zero, List.set_cons_succ, i64_w, i32_w]
            rfl
          refine pure_ (i := 7) (N := some 103) (v := ?_) (a' := ?_) #[true, true, true, true, true, true, true, true, false, false, false, false, false, false, false, false, false, false, false, false, false, false, false, false, false, false, false, false, false, false, false, false, false, false, false, false, false, false, false, false, false, false, false, false, false, false, false, false] rfl rfl (any_of HT_.out (by kernel_rfl)) (fun _ _ _ h => h) (Or.inl ⟨by rfl, ?_⟩) ?_ ?_
          rotate_left
          · intro w'
            go_simp
            with_reducible rfl
          rotate_left
          · simp only [Act.put, List.setIfInBounds_toArray, List.set_cons_zero, List.set_cons_succ, i64_w, i32_w]
            rfl
          refine pure_ (i := 8) (N := some 104) (v := ?_) (a' := ?_) #[true, true, true, true, true, true, true, true, true, false, false, false, false, false, false, false, false, false, false, false, false, false, false, false, false, false, false, false, false, false, false, false, false, false, false, false, false, false, false, false, false, false, false, false, false, false, false, false] rfl rfl (any_of HT_.out (by kernel_rfl)) (fun _ _ _ h => h) (Or.inl ⟨by rfl, ?_⟩) ?_ ?_
          rotate_left
          · intro w'
            go_simp
            with_reducible rfl
          rotate_left
          · simp only [Act.put, List.setIfInBounds_toArray, List.set_cons_zero, List.set_cons_succ, i64_w, i32_w]
            rfl
          refine pure_ (i := 9) (N := some 105) (v := ?_) (a' := ?_) #[true, true, true, true, true, true, true, true, true, true, false, false, false, false, false, false, false, false, false, false, false, false, false, false, false, false, false, false, false, false, false, false, false, false, false, false, false, false, false, false, false, false, false, false, false, false, false, false] rfl rfl (any_of HT_.out (by kernel_rfl)) (fun _ _ _ h => h) (Or.inl ⟨by rfl, ?_⟩) ?_ ?_
          rotate_left
          · intro w'
            go_simp
            with_reducible rfl
          rotate_left
          · simp only [Act.put, List.setIfInBounds_toArray, List.set_cons_zero, List.set_cons_succ, i64_w, i32_w]
            rfl
          refine pure_ (i := 10) (N := some 106) (v := ?_) (a' := ?_) #[true, true, true, true, true, true, true, true, true, true, true, false, false, false, false, false, false, false, false, false, false, false, false, false, false, false, false, false, false, false, false, false, false, false, false, false, false, false, false, false, false, false, false, false, false, false, false, false] rfl rfl (any_of HT_.out (by kernel_rfl)) (fun _ _ _ h => h) (Or.inl ⟨by rfl, ?_⟩) ?_ ?_
          rotate_left
          · intro w'
            go_simp
            with_reducible rfl
          rotate_left
          · simp only [Act.put, List.setIfInBounds_toArray, List.set_cons_zero, List.set_cons_succ, i64_w, i32_w]
            rfl
          refine pure_ (i := 11) (N := some 107) (v := ?_) (a' := ?_) #[true, true, true, true, true, true, true, true, true, true, true, true, false, false, false, false, false, false, false, false, false, false, false, false, false, false, false, false, false, false, false, false, false, false, false, false, false, false, false, false, false, false, false, false, false, false, false, false] rfl rfl (any_of HT_.out (by kernel_rfl)) (fun _ _ _ h => h) (Or.inl ⟨by rfl, ?_⟩) ?_ ?_
          rotate_left
          · intro w'
            go_simp
            with_reducible rfl
          rotate_left
          · simp only [Act.put, List.setIfInBounds_toArray, List.set_cons_zero, List.set_cons_succ, i64_w, i32_w]
            rfl
          refine take_ (i := 12) (N := some 108) (v := ?_) (a' := ?_) #[true, true, true, true, true, true, true, true, true, true, true, true, true, false, false, false, false, false, false, false, false, false, false, false, false, false, false, false, false, false, false, false, false, false, false, false, false, false, false, false, false, false, false, false, false, false, false, false] rfl rfl (take_ofW HT_.out HW_.out (by kernel_rfl)) (fun _ _ _ h => h) (Or.inl ⟨by rfl, ?_⟩) hHeld ?_ ?_
          rotate_left
          · rintro w' ⟨s0, s1, s2, s3, s4, s5, s6, s7, s8, s9, s10, s11⟩
            go_simp
            with_reducible rfl
          rotate_left
          · simp only [Act.put, List.setIfInBounds_toArray, List.set_cons_zero, List.set_cons_succ, i64_w, i32_w]
            rfl
          refine pure_ (i := 13) (N := some 109) (v := ?_) (a' := ?_) #[true, true, true, true, true, true, true, true, true, true, true, true, true, true, false, false, false, false, false, false, false, false, false, false, false, false, false, false, false, false, false, false, false, false, false, false, false, false, false, false, false, false, false, false, false, false, false, false] rfl rfl (any_of HT_.out (by kernel_rfl)) (fun _ _ _ h => h) (Or.inl ⟨by rfl, ?_⟩) ?_ ?_
          rotate_left
          · intro w'
            go_simp
            with_reducible rfl
          rotate_left
          · simp only [Act.put, List.setIfInBounds_toArray, List.set_cons_zero, List.set_cons_succ, i64_w, i32_w]
            rfl
          refine take_ (i := 14) (N := some 110) (v := ?_) (a' := ?_) #[true, true, true, true, true, true, true, true, true, true, true, true, true, true, true, false, false, false, false, false, false, false, false, false, false, false, false, false, false, false, false, false, false, false, false, false, false, false, false, false, false, false, false, false, false, false, false, false] rfl rfl (take_ofW HT_.out HW_.out (by kernel_rfl)) (fun _ _ _ h => h) (Or.inl ⟨by rfl, ?_⟩) hHeld ?_ ?_
          rotate_left
          · rintro w' ⟨s0, s1, s2, s3, s4, s5, s6, s7, s8, s9, s10, s11⟩
            go_simp
            with_reducible rfl
          rotate_left
          · simp only [Act.put, List.setIfInBounds_toArray, List.set_cons_zero, List.set_cons_succ, i64_w, i32_w]
            rfl
          refine pure_ (i := 15) (N := some 111) (v := ?_) (a' := ?_) #[true, true, true, true, true, true, true, true, true, true, true, true, true, true, true, true, false, false, false, false, false, false, false, false, false, false, false, false, false, false, false, false, false, false, false, false, false, false, false, false, false, false, false, false, false, false, false, false] rfl rfl (any_of HT_.out (by kernel_rfl)) (fun _ _ _ h => h) (Or.inl ⟨by rfl, ?_⟩) ?_ ?_
          rotate_left
          · intro w'
            go_simp
            with_reducible rfl
          rotate_left
          · simp only [Act.put, List.setIfInBounds_toArray, List.set_cons_zero, List.set_cons_succ, i64_w, i32_w]
            rfl
          refine pure_ (i := 16) (N := some 112) (v := ?_) (a' := ?_) #[true, true, true, true, true, true, true, true, true, true, true, true, true, true, true, true, true, false, false, false, false, false, false, false, false, false, false, false, false, false, false, false, false, false, false, false, false, false, false, false, false, false, false, false, false, false, false, false] rfl rfl (any_of HT_.out (by kernel_rfl)) (fun _ _ _ h => h) (Or.inl ⟨by rfl, ?_⟩) ?_ ?_
          rotate_left
          · intro w'
            go_simp
            with_reducible rfl
          rotate_left
          · simp only [Act.put, List.setIfInBounds_toArray, List.set_cons_zero, List.set_cons_succ, i64_w, i32_w]
            rfl
          refine pure_ (i := 17) (N := some 113) (v := ?_) (a' := ?_) #[true, true, true, true, true, true, true, true, true, true, true, true, true, true, true, true, true, true, false, false, false, false, false, false, false, false, false, false, false, false, false, false, false, false, false, false, false, false, false, false, false, false, false, false, false, false, false, false] rfl rfl (any_of HT_.out (by kernel_rfl)) (fun _ _ _ h => h) (Or.inl ⟨by rfl, ?_⟩) ?_ ?_
          rotate_left
          · intro w'
            go_simp
            with_reducible rfl
          rotate_left
          · simp only [Act.put, List.setIfInBounds_toArray, List.set_cons_zero, List.set_cons_succ, i64_w, i32_w]
            rfl
          refine pure_ (i := 19) (N := some 115) (v := ?_) (a' := ?_) #[true, true, true, true, true, true, true, true, true, true, true, true, true, true, true, true, true, true, false, true, false, false, false, false, false, false, false, false, false, false, false, false, false, false, false, false, false, false, false, false, false, false, false, false, false, false, false, false] rfl rfl (any_of HT_.out (by kernel_rfl)) (fun _ _ _ h => h) (Or.inl ⟨by rfl, ?_⟩) ?_ ?_
          rotate_left
          · intro w'
            go_simp
            with_reducible rfl
          rotate_left
          · simp only [Act.put, List.setIfInBounds_toArray, List.set_cons_zero, List.set_cons_succ, i64_w, i32_w]
            rfl
          refine pure_ (i := 21) (N := some 117) (v := ?_) (a' := ?_) #[true, true, true, true, true, true, true, true, true, true, true, true, true, true, true, true, true, true, false, true, false, true, false, false, false, false, false, false, false, false, false, false, false, false, false, false, false, false, false, false, false, false, false, false, false, false, false, false] rfl rfl (any_of HT_.out (by kernel_rfl)) (fun _ _ _ h => h) (Or.inl ⟨by rfl, ?_⟩) ?_ ?_
          rotate_left
          · intro w'
            go_simp
            with_reducible rfl
          rotate_left
          · simp only [Act.put, List.setIfInBounds_toArray, List.set_cons_zero, List.set_cons_succ, i64_w, i32_w]
            rfl
          refine pure_ (i := 25) (N := some 121) (v := ?_) (a' := ?_) #[true, true, true, true, true, true, true, true, true, true, true, true, true, true, true, true, true, true, false, true, false, true, false, false, false, true, false, false, false, false, false, false, false, false, false, false, false, false, false, false, false, false, false, false, false, false, false, false] rfl rfl (any_of HT_.out (by kernel_rfl)) (fun _ _ _ h => h) (Or.inl ⟨by rfl, ?_⟩) ?_ ?_
          rotate_left
          · intro w'
            go_simp
            with_reducible rfl
          rotate_left
          · simp only [Act.put, List.setIfInBounds_toArray, List.set_cons_zero, List.set_cons_succ, i64_w, i32_w]
            rfl
          refine pure_ (i := 26) (N := some 122) (v := ?_) (a' := ?_) #[true, true, true, true, true, true, true, true, true, true, true, true, true, true, true, true, true, true, false, true, false, true, false, false, false, true, true, false, false, false, false, false, false, false, false, false, false, false, false, false, false, false, false, false, false, false, false, false] rfl rfl (any_of HT_.out (by kernel_rfl)) (fun _ _ _ h => h) (Or.inl ⟨by rfl, ?_⟩) ?_ ?_
          rotate_left
          · intro w'
            go_simp
            with_reducible rfl
          rotate_left
          · simp only [Act.put, List.setIfInBounds_toArray, List.set_cons_zero, List.set_cons_succ, i64_w, i32_w]
            rfl
          refine pure_ (i := 27) (N := some 123) (v := ?_) (a' := ?_) #[true, true, true, true, true, true, true, true, true, true, true, true, true, true, true, true, true, true, false, true, false, true, false, false, false, true, true, true, false, false, false, false, false, false, false, false, false, false, false, false, false, false, false, false, false, false, false, false] rfl rfl (any_of HT_.out (by kernel_rfl)) (fun _ _ _ h => h) (Or.inl ⟨by rfl, ?_⟩) ?_ ?_
          rotate_left
          · intro w'
            go_simp
            with_reducible rfl
          rotate_left
          · simp only [Act.put, List.setIfInBounds_toArray, List.set_cons_zero, List.set_cons_succ, i64_w, i32_w]
            rfl
          refine take_ (i := 18) (N := some 114) (v := ?_) (a' := ?_) #[true, true, true, true, true, true, true, true, true, true, true, true, true, true, true, true, true, true, true, true, false, true, false, false, false, true, true, true, false, false, false, false, false, false, false, false, false, false, false, false, false, false, false, false, false, false, false, false] rfl rfl (take_ofW HT_.out HW_.out (by kernel_rfl)) (fun _ _ _ h => h) (Or.inl ⟨by rfl, ?_⟩) hHeld ?_ ?_
          rotate_left
          · rintro w' ⟨s0, s1, s2, s3, s4, s5, s6, s7, s8, s9, s10, s11⟩
            go_simp
            with_reducible rfl
          rotate_left
          · simp only [Act.put, List.setIfInBounds_toArray, List.set_cons_zero, List.set_cons_succ, i64_w, i32_w]
            rfl
          refine take_ (i := 20) (N := some 116) (v := ?_) (a' := ?_) #[true, true, true, true, true, true, true, true, true, true, true, true, true, true, true, true, true, true, true, true, true, true, false, false, false, true, true, true, false, false, false, false, false, false, false, false, false, false, false, false, false, false, false, false, false, false, false, false] rfl rfl (take_ofW HT_.out HW_.out (by kernel_rfl)) (fun _ _ _ h => h) (Or.inl ⟨by rfl, ?_⟩) hHeld ?_ ?_
          rotate_left
          · rintro w' ⟨s0, s1, s2, s3, s4, s5, s6, s7, s8, s9, s10, s11⟩
            go_simp
            with_reducible rfl
          rotate_left
          · simp only [Act.put, List.setIfInBounds_toArray, List.set_cons_zero, List.set_cons_succ, i64_w, i32_w]
            rfl
          refine pure_ (i := 22) (N := some 118) (v := ?_) (a' := ?_) #[true, true, true, true, true, true, true, true, true, true, true, true, true, true, true, true, true, true, true, true, true, true, true, false, false, true, true, true, false, false, false, false, false, false, false, false, false, false, false, false, false, false, false, false, false, false, false, false] rfl rfl (any_of HT_.out (by kernel_rfl)) (fun _ _ _ h => h) (Or.inl ⟨by rfl, ?_⟩) ?_ ?_
          rotate_left
          · intro w'
            go_simp
            with_reducible rfl
          rotate_left
          · simp only [Act.put, List.setIfInBounds_toArray, List.set_cons_zero, List.set_cons_succ, i64_w, i32_w]
            rfl
          refine take_ (i := 23) (N := some 119) (v := ?_) (a' := ?_) #[true, true, true, true, true, true, true, true, true, true, true, true, true, true, true, true, true, true, true, true, true, true, true, true, false, true, true, true, false, false, false, false, false, false, false, false, false, false, false, false, false, false, false, false, false, false, false, false] rfl rfl (take_ofW HT_.out HW_.out (by kernel_rfl)) (fun _ _ _ h => h) (Or.inl ⟨by rfl, ?_⟩) hHeld ?_ ?_
          rotate_left
          · rintro w' ⟨s0, s1, s2, s3, s4, s5, s6, s7, s8, s9, s10, s11⟩
            go_simp
            with_reducible rfl
          rotate_left
          · simp only [Act.put, List.setIfInBounds_toArray, List.set_cons_zero, List.set_cons_succ, i64_w, i32_w]
            rfl
          refine take_ (i := 24) (N := some 120) (v := ?_) (a' := ?_) #[true, true, true, true, true, true, true, true, true, true, true, true, true, true, true, true, true, true, true, true, true, true, true, true, true, true, true, true, false, false, false, false, false, false, false, false, false, false, false, false, false, false, false, false, false, false, false, false] rfl rfl (take_ofW HT_.out HW_.out (by kernel_rfl)) (fun _ _ _ h => h) (Or.inl ⟨by rfl, ?_⟩) hHeld ?_ ?_
          rotate_left
          · rintro w' ⟨s0, s1, s2, s3, s4, s5, s6, s7, s8, s9, s10, s11⟩
            go_simp
            with_reducible rfl
          rotate_left
          · simp only [Act.put, List.setIfInBounds_toArray, List.set_cons_zero, List.set_cons_succ, i64_w, i32_w]
            rfl
          refine take_ (i := 28) (N := some 124) (v := ?_) (a' := ?_) #[true, true, true, true, true, true, true, true, true, true, true, true, true, true, true, true, true, true, true, true, true, true, true, true, true, true, true, true, true, false, false, false, false, false, false, false, false, false, false, false, false, false, false, false, false, false, false, false] rfl rfl (take_ofW HT_.out HW_.out (by kernel_rfl)) (fun _ _ _ h => h) (Or.inl ⟨by rfl, ?_⟩) hHeld ?_ ?_
          rotate_left
          · rintro w' ⟨s0, s1, s2, s3, s4, s5, s6, s7, s8, s9, s10, s11⟩
            go_simp
            with_reducible rfl
          rotate_left
          · simp only [Act.put, List.setIfInBounds_toArray, List.set_cons_zero, List.set_cons_succ, i64_w, i32_w]
            rfl
          refine one_ (i := 29) (N := some 125) #[true, true, true, true, true, true, true, true, true, true, true, true, true, true, true, true, true, true, true, true, true, true, true, true, true, true, true, true, true, true, false, false, false, false, false, false, false, false, false, false, false, false, false, false, false, false, false, false] rfl rfl (one_of HT_.out (by kernel_rfl)) (by decide) (fun K hK => ?_)
          refine goes_ Try.func13 (by kernel_rfl) rfl #[.agg #[.int .i64 a0_0, .slice A0_1 l0_1.length c0_1, .int .i64 a0_2, .int .i64 a0_3, .slice A0_4 l0_4.length c0_4, .slice (some ad5) l0_5.length c0_5], .slice (some ad) l1.length c1, .int .i64 (kk : Int), .int .i64 C3] (by rfl) rfl rfl (by simp only [List.map_toArray, List.map_cons, List.map_nil]; rfl) ?_
          with_reducible refine (HD1.out _ (below_drew1 R9.out)).mono ?_
          rintro e w11 ⟨rfl, hb11⟩
          refine ⟨_, rfl, ?_⟩
          refine hK.out _ _ ⟨(hb11.cell (World.block_lt_of_cell? _ _ (hHeld.1))).trans (hHeld.1), (hb11.cell (World.block_lt_of_cell? _ _ (hHeld.2.1))).trans (hHeld.2.1), (hb11.cell (World.block_lt_of_cell? _ _ (hHeld.2.2.1))).trans (hHeld.2.2.1), (hb11.cell (World.block_lt_of_cell? _ _ (hHeld.2.2.2.1))).trans (hHeld.2.2.2.1), (hb11.cell (World.block_lt_of_cell? _ _ (hHeld.2.2.2.2.1))).trans (hHeld.2.2.2.2.1), (hb11.cell (World.block_lt_of_cell? _ _ (hHeld.2.2.2.2.2.1))).trans (hHeld.2.2.2.2.2.1), (hb11.cell (World.block_lt_of_cell? _ _ (hHeld.2.2.2.2.2.2.1))).trans (hHeld.2.2.2.2.2.2.1), (hb11.cell (World.block_lt_of_cell? _ _ (hHeld.2.2.2.2.2.2.2.1))).trans (hHeld.2.2.2.2.2.2.2.1), (hb11.cell (World.block_lt_of_cell? _ _ (hHeld.2.2.2.2.2.2.2.2.1))).trans (hHeld.2.2.2.2.2.2.2.2.1), (hb11.cell (World.block_lt_of_cell? _ _ (hHeld.2.2.2.2.2.2.2.2.2.1))).trans (hHeld.2.2.2.2.2.2.2.2.2.1), (hb11.cell (World.block_lt_of_cell? _ _ (hHeld.2.2.2.2.2.2.2.2.2.2.1))).trans (hHeld.2.2.2.2.2.2.2.2.2.2.1), (hb11.cell (World.block_lt_of_cell? _ _ (hHeld.2.2.2.2.2.2.2.2.2.2.2))).trans (hHeld.2.2.2.2.2.2.2.2.2.2.2)⟩ (fun hHeld => ?_)
          clear hK K
          refine norm_ (a' := ?_) ?_ ?_
          rotate_left
          · show Act.put _ (some 125) _ = _
            simp only [Act.put, List.setIfInBounds_toArray, List.set_cons_zero, List.set_cons_succ, i64_w, i32_w]
            rfl
          refine one_ (i := 30) (N := some 126) #[true, true, true, true, true, true, true, true, true, true, true, true, true, true, true, true, true, true, true, true, true, true, true, true, true, true, true, true, true, true, true, false, false, false, false, false, false, false, false, false, false, false, false, false, false, false, false, false] rfl rfl (one_of HT_.out (by kernel_rfl)) (by decide) (fun K hK => ?_)
          refine goes_ Try.func18 (by kernel_rfl) rfl #[.agg #[.int .i64 a0_0, .slice A0_1 l0_1.length c0_1, .int .i64 a0_2, .int .i64 a0_3, .slice A0_4 l0_4.length c0_4, .slice (some ad5) l0_5.length c0_5], .int .i64 (rd l0_5 a), .int .i64 d1] (by rfl) rfl rfl (by simp only [List.map_toArray, List.map_cons, List.map_nil]; rfl) ?_
          with_reducible refine (HH1.out _ (below_step (below_drew1 R9.out) hb11)).mono ?_
          rintro e w12 ⟨rfl, hb12⟩
          refine ⟨_, rfl, ?_⟩
          refine hK.out _ _ ⟨(hb12.cell (World.block_lt_of_cell? _ _ (hHeld.1))).trans (hHeld.1), (hb12.cell (World.block_lt_of_cell? _ _ (hHeld.2.1))).trans (hHeld.2.1), (hb12.cell (World.block_lt_of_cell? _ _ (hHeld.2.2.1))).trans (hHeld.2.2.1), (hb12.cell (World.block_lt_of_cell? _ _ (hHeld.2.2.2.1))).trans (hHeld.2.2.2.1), (hb12.cell (World.block_lt_of_cell? _ _ (hHeld.2.2.2.2.1))).trans (hHeld.2.2.2.2.1), (hb12.cell (World.block_lt_of_cell? _ _ (hHeld.2.2.2.2.2.1))).trans (hHeld.2.2.2.2.2.1), (hb12.cell (World.block_lt_of_cell? _ _ (hHeld.2.2.2.2.2.2.1))).trans (hHeld.2.2.2.2.2.2.1), (hb12.cell (World.block_lt_of_cell? _ _ (hHeld.2.2.2.2.2.2.2.1))).trans (hHeld.2.2.2.2.2.2.2.1), (hb12.cell (World.block_lt_of_cell? _ _ (hHeld.2.2.2.2.2.2.2.2.1))).trans (hHeld.2.2.2.2.2.2.2.2.1), (hb12.cell (World.block_lt_of_cell? _ _ (hHeld.2.2.2.2.2.2.2.2.2.1))).trans (hHeld.2.2.2.2.2.2.2.2.2.1), (hb12.cell (World.block_lt_of_cell? _ _ (hHeld.2.2.2.2.2.2.2.2.2.2.1))).trans (hHeld.2.2.2.2.2.2.2.2.2.2.1), (hb12.cell (World.block_lt_of_cell? _ _ (hHeld.2.2.2.2.2.2.2.2.2.2.2))).trans (hHeld.2.2.2.2.2.2.2.2.2.2.2)⟩ (fun hHeld => ?_)
          clear hK K
          refine norm_ (a' := ?_) ?_ ?_
          rotate_left
          · show Act.put _ (some 126) _ = _
            simp only [Act.put, List.setIfInBounds_toArray, List.set_cons_zero, List.set_cons_succ, i64_w, i32_w]
            rfl
          refine pure_ (i := 31) (N := some 127) (v := ?_) (a' := ?_) #[true, true, true, true, true, true, true, true, true, true, true, true, true, true, true, true, true, true, true, true, true, true, true, true, true, true, true, true, true, true, true, true, false, false, false, false, false, false, false, false, false, false, false, false, false, false, false, false] rfl rfl (any_of HT_.out (by kernel_rfl)) (fun _ _ _ h => h) (Or.inl ⟨by rfl, ?_⟩) ?_ ?_
          rotate_left
          · intro w'
            go_simp
            with_reducible rfl
          rotate_left
          · simp only [Act.put, List.setIfInBounds_toArray, List.set_cons_zero, List.set_cons_succ, i64_w, i32_w]
            rfl
          refine pure_ (i := 32) (N := some 128) (v := ?_) (a' := ?_) #[true, true, true, true, true, true, true, true, true, true, true, true, true, true, true, true, true, true, true, true, true, true, true, true, true, true, true, true, true, true, true, true, true, false, false, false, false, false, false, false, false, false, false, false, false, false, false, false] rfl rfl (any_of HT_.out (by kernel_rfl)) (fun _ _ _ h => h) (Or.inl ⟨by rfl, ?_⟩) ?_ ?_
          rotate_left
          · intro w'
            go_simp
            with_reducible rfl
          rotate_left
          · simp only [Act.put, List.setIfInBounds_toArray, List.set_cons_zero, List.set_cons_succ, i64_w, i32_w]
            rfl
          refine pure_ (i := 33) (N := some 129) (v := undef) (a' := ?_) #[true, true, true, true, true, true, true, true, true, true, true, true, true, true, true, true, true, true, true, true, true, true, true, true, true, true, true, true, true, true, true, true, true, true, false, false, false, false, false, false, false, false, false, false, false, false, false, false] rfl rfl (any_of HT_.out (by kernel_rfl)) (fun _ _ _ h => h) (Or.inr ⟨by rfl, rfl⟩) ?_ ?_
          rotate_left
          · simp only [Act.put, List.setIfInBounds_toArray, List.set_cons_zero, List.set_cons_succ, i64_w, i32_w]
            rfl
          refine pure_ (i := 34) (N := some 130) (v := undef) (a' := ?_) #[true, true, true, true, true, true, true, true, true, true, true, true, true, true, true, true, true, true, true, true, true, true, true, true, true, true, true, true, true, true, true, true, true, true, true, false, false, false, false, false, false, false, false, false, false, false, false, false] rfl rfl (any_of HT_.out (by kernel_rfl)) (fun _ _ _ h => h) (Or.inr ⟨by rfl, rfl⟩) ?_ ?_
          rotate_left
          · simp only [Act.put, List.setIfInBounds_toArray, List.set_cons_zero, List.set_cons_succ, i64_w, i32_w]
            rfl
          refine pure_ (i := 35) (N := some 131) (v := undef) (a' := ?_) #[true, true, true, true, true, true, true, true, true, true, true, true, true, true, true, true, true, true, true, true, true, true, true, true, true, true, true, true, true, true, true, true, true, true, true, true, false, false, false, false, false, false, false, false, false, false, false, false] rfl rfl (any_of HT_.out (by kernel_rfl)) (fun _ _ _ h => h) (Or.inr ⟨by rfl, rfl⟩) ?_ ?_
          rotate_left
          · simp only [Act.put, List.setIfInBounds_toArray, List.set_cons_zero, List.set_cons_succ, i64_w, i32_w]
            rfl
          refine pure_ (i := 36) (N := some 132) (v := undef) (a' := ?_) #[true, true, true, true, true, true, true, true, true, true, true, true, true, true, true, true, true, true, true, true, true, true, true, true, true, true, true, true, true, true, true, true, true, true, true, true, true, false, false, false, false, false, false, false, false, false, false, false] rfl rfl (any_of HT_.out (by kernel_rfl)) (fun _ _ _ h => h) (Or.inr ⟨by rfl, rfl⟩) ?_ ?_
          rotate_left
          · simp only [Act.put, List.setIfInBounds_toArray, List.set_cons_zero, List.set_cons_succ, i64_w, i32_w]
            rfl
          refine pure_ (i := 37) (N := some 133) (v := undef) (a' := ?_) #[true, true, true, true, true, true, true, true, true, true, true, true, true, true, true, true, true, true, true, true, true, true, true, true, true, true, true, true, true, true, true, true, true, true, true, true, true, true, false, false, false, false, false, false, false, false, false, false] rfl rfl (any_of HT_.out (by kernel_rfl)) (fun _ _ _ h => h) (Or.inr ⟨by rfl, rfl⟩) ?_ ?_
          rotate_left
          · simp only [Act.put, List.setIfInBounds_toArray, List.set_cons_zero, List.set_cons_succ, i64_w, i32_w]
            rfl
          refine pure_ (i := 38) (N := some 134) (v := undef) (a' := ?_) #[true, true, true, true, true, true, true, true, true, true, true, true, true, true, true, true, true, true, true, true, true, true, true, true, true, true, true, true, true, true, true, true, true, true, true, true, true, true, true, false, false, false, false, false, false, false, false, false] rfl rfl (any_of HT_.out (by kernel_rfl)) (fun _ _ _ h => h) (Or.inr ⟨by rfl, rfl⟩) ?_ ?_
          rotate_left
          · simp only [Act.put, List.setIfInBounds_toArray, List.set_cons_zero, List.set_cons_succ, i64_w, i32_w]
            rfl
          refine pure_ (i := 39) (N := some 135) (v := undef) (a' := ?_) #[true, true, true, true, true, true, true, true, true, true, true, true, true, true, true, true, true, true, true, true, true, true, true, true, true, true, true, true, true, true, true, true, true, true, true, true, true, true, true, true, false, false, false, false, false, false, false, false] rfl rfl (any_of HT_.out (by kernel_rfl)) (fun _ _ _ h => h) (Or.inr ⟨by rfl, rfl⟩) ?_ ?_
          rotate_left
          · simp only [Act.put, List.setIfInBounds_toArray, List.set_cons_zero, List.set_cons_succ, i64_w, i32_w]
            rfl
          refine pure_ (i := 40) (N := some 136) (v := undef) (a' := ?_) #[true, true, true, true, true, true, true, true, true, true, true, true, true, true, true, true, true, true, true, true, true, true, true, true, true, true, true, true, true, true, true, true, true, true, true, true, true, true, true, true, true, false, false, false, false, false, false, false] rfl rfl (any_of HT_.out (by kernel_rfl)) (fun _ _ _ h => h) (Or.inr ⟨by rfl, rfl⟩) ?_ ?_
          rotate_left
          · simp only [Act.put, List.setIfInBounds_toArray, List.set_cons_zero, List.set_cons_succ, i64_w, i32_w]
            rfl
          refine pure_ (i := 41) (N := some 137) (v := undef) (a' := ?_) #[true, true, true, true, true, true, true, true, true, true, true, true, true, true, true, true, true, true, true, true, true, true, true, true, true, true, true, true, true, true, true, true, true, true, true, true, true, true, true, true, true, true, false, false, false, false, false, false] rfl rfl (any_of HT_.out (by kernel_rfl)) (fun _ _ _ h => h) (Or.inr ⟨by rfl, rfl⟩) ?_ ?_
          rotate_left
          · simp only [Act.put, List.setIfInBounds_toArray, List.set_cons_zero, List.set_cons_succ, i64_w, i32_w]
            rfl
          refine pure_ (i := 42) (N := some 138) (v := undef) (a' := ?_) #[true, true, true, true, true, true, true, true, true, true, true, true, true, true, true, true, true, true, true, true, true, true, true, true, true, true, true, true, true, true, true, true, true, true, true, true, true, true, true, true, true, true, true, false, false, false, false, false] rfl rfl (any_of HT_.out (by kernel_rfl)) (fun _ _ _ h => h) (Or.inr ⟨by rfl, rfl⟩) ?_ ?_
          rotate_left
          · simp only [Act.put, List.setIfInBounds_toArray, List.set_cons_zero, List.set_cons_succ, i64_w, i32_w]
            rfl
          refine pure_ (i := 43) (N := some 139) (v := undef) (a' := ?_) #[true, true, true, true, true, true, true, true, true, true, true, true, true, true, true, true, true, true, true, true, true, true, true, true, true, true, true, true, true, true, true, true, true, true, true, true, true, true, true, true, true, true, true, true, false, false, false, false] rfl rfl (any_of HT_.out (by kernel_rfl)) (fun _ _ _ h => h) (Or.inr ⟨by rfl, rfl⟩) ?_ ?_
          rotate_left
          · simp only [Act.put, List.setIfInBounds_toArray, List.set_cons_zero, List.set_cons_succ, i64_w, i32_w]
            rfl
          refine pure_ (i := 44) (N := some 140) (v := undef) (a' := ?_) #[true, true, true, true, true, true, true, true, true, true, true, true, true, true, true, true, true, true, true, true, true, true, true, true, true, true, true, true, true, true, true, true, true, true, true, true, true, true, true, true, true, true, true, true, true, false, false, false] rfl rfl (any_of HT_.out (by kernel_rfl)) (fun _ _ _ h => h) (Or.inr ⟨by rfl, rfl⟩) ?_ ?_
          rotate_left
          · simp only [Act.put, List.setIfInBounds_toArray, List.set_cons_zero, List.set_cons_succ, i64_w, i32_w]
            rfl
          refine pure_ (i := 45) (N := some 141) (v := undef) (a' := ?_) #[true, true, true, true, true, true, true, true, true, true, true, true, true, true, true, true, true, true, true, true, true, true, true, true, true, true, true, true, true, true, true, true, true, true, true, true, true, true, true, true, true, true, true, true, true, true, false, false] rfl rfl (any_of HT_.out (by kernel_rfl)) (fun _ _ _ h => h) (Or.inr ⟨by rfl, rfl⟩) ?_ ?_
          rotate_left
          · simp only [Act.put, List.setIfInBounds_toArray, List.set_cons_zero, List.set_cons_succ, i64_w, i32_w]
            rfl
          refine pure_ (i := 46) (N := some 142) (v := ?_) (a' := ?_) #[true, true, true, true, true, true, true, true, true, true, true, true, true, true, true, true, true, true, true, true, true, true, true, true, true, true, true, true, true, true, true, true, true, true, true, true, true, true, true, true, true, true, true, true, true, true, true, false] rfl rfl (any_of HT_.out (by kernel_rfl)) (fun _ _ _ h => h) (Or.inl ⟨by rfl, ?_⟩) ?_ ?_
          rotate_left
          · intro w'
            go_simp
            with_reducible rfl
          rotate_left
          · simp only [Act.put, List.setIfInBounds_toArray, List.set_cons_zero, List.set_cons_succ, i64_w, i32_w]
            rfl
          refine pure_ (i := 47) (N := some 5) (v := ?_) (a' := ?_) #[true, true, true, true, true, true, true, true, true, true, true, true, true, true, true, true, true, true, true, true, true, true, true, true, true, true, true, true, true, true, true, true, true, true, true, true, true, true, true, true, true, true, true, true, true, true, true, true] rfl rfl (any_of HT_.out (by kernel_rfl)) (fun _ _ _ h => h) (Or.inl ⟨by rfl, ?_⟩) ?_ ?_
          rotate_left
          · intro w'
            go_simp
            with_reducible rfl
          rotate_left
          · simp only [Act.put, List.setIfInBounds_toArray, List.set_cons_zero, List.set_cons_succ, i64_w, i32_w]
            rfl
          refine done_ (done_of HT_.out (by kernel_rfl)) ?_
          go_wp2_with fail
          go_meet
          case rel => exact ⟨by rw [← Hw.out], rfl, ⟨below_step (below_step (below_drew1 R9.out) hb11) hb12⟩, ⟨blk_below (blk_below (blk_drew RB.out) hb11) hb12⟩, ⟨blk_below (blk_below (blk_drew RS.out) hb11) hb12⟩, ⟨blk_below (blk_below (blk_drew RC.out) hb11) hb12⟩⟩
        | true =>
          obtain ⟨d2, hd2, hw5⟩ := Option.bind_eq_some_iff.mp ((if_pos rfl).symm.trans hw4.out)
          have HD2 := Aside0.mk (HDk.out _ d2 hd2)
          have HH2 := Aside0.mk (HH.out _ _ w1 hw5)
          clear hw4 hw5 hd2
          go_region_held3 (fun w' => w'.cell? ⟨gb, 0, none⟩ = some (.int .i64 a0_0) ∧ w'.cell? ⟨gb, 1, none⟩ = some (.slice A0_1 l0_1.length c0_1) ∧ w'.cell? ⟨gb, 2, none⟩ = some (.int .i64 a0_2) ∧ w'.cell? ⟨gb, 3, none⟩ = some (.int .i64 a0_3) ∧ w'.cell? ⟨gb, 4, none⟩ = some (.slice A0_4 l0_4.length c0_4) ∧ w'.cell? ⟨gb, 5, none⟩ = some (.slice (some ad5) l0_5.length c0_5) ∧ w'.cell? ⟨gc, 2, none⟩ = some (.int .i64 C2) ∧ w'.cell? ⟨gc, 3, none⟩ = some (.int .i64 C3) ∧ w'.cell? ⟨gs, C2.toNat, none⟩ = some (.bool false) ∧ w'.cell? ⟨gs, C3.toNat, none⟩ = some (.bool false) ∧ w'.cell? (ad5.add a.toNat) = some (.int .i64 (rd l0_5 a)) ∧ w'.cell? (ad5.add b.toNat) = some (.int .i64 (rd l0_5 b)))
            (first | go_keep | (go_split_ands; refine ⟨?_, ?_, ?_, ?_, ?_, ?_, ?_, ?_, ?_, ?_, ?_, ?_⟩ <;> exact (hb14.cell (World.block_lt_of_cell? _ _ (by assumption))).trans (by assumption)) | (go_split_ands; refine ⟨?_, ?_, ?_, ?_, ?_, ?_, ?_, ?_, ?_, ?_, ?_, ?_⟩ <;> exact (hb13.cell (World.block_lt_of_cell? _ _ (by assumption))).trans (by assumption)) | (go_split_ands; refine ⟨?_, ?_, ?_, ?_, ?_, ?_, ?_, ?_, ?_, ?_, ?_, ?_⟩ <;> exact (hb12.cell (World.block_lt_of_cell? _ _ (by assumption))).trans (by assumption)) | (go_split_ands; refine ⟨?_, ?_, ?_, ?_, ?_, ?_, ?_, ?_, ?_, ?_, ?_, ?_⟩ <;> exact (hb11.cell (World.block_lt_of_cell? _ _ (by assumption))).trans (by assumption)))
            (first | (go_at_call 13; ((with_reducible refine (HD1.out _ ?c1).mono ?_); (case c1 => exact below_drew1 R9.out); rintro e w11 ⟨rfl, hb11⟩)) | (go_at_call 18; ((with_reducible refine (HH1.out _ ?c2).mono ?_); (case c2 => exact below_step (below_drew1 R9.out) hb11); rintro e w12 ⟨rfl, hb12⟩)) | (go_at_call 13; ((with_reducible refine (HD2.out _ ?c3).mono ?_); (case c3 => exact below_step (below_step (below_drew1 R9.out) hb11) hb12); rintro e w13 ⟨rfl, hb13⟩)) | (go_at_call 18; ((with_reducible refine (HH2.out _ ?c4).mono ?_); (case c4 => exact below_step (below_step (below_step (below_drew1 R9.out) hb11) hb12) hb13); rintro e w14 ⟨rfl, hb14⟩)))
          go_wp2_with fail
          go_meet
          case rel => exact ⟨rfl, rfl, ⟨below_step (below_step (below_step (below_step (below_drew1 R9.out) hb11) hb12) hb13) hb14⟩, ⟨blk_below (blk_below (blk_below (blk_below (blk_drew RB.out) hb11) hb12) hb13) hb14⟩, ⟨blk_below (blk_below (blk_below (blk_below (blk_drew RS.out) hb11) hb12) hb13) hb14⟩, ⟨blk_below (blk_below (blk_below (blk_below (blk_drew RC.out) hb11) hb12) hb13) hb14⟩⟩
      case rest =>
        clear R9 RB RS RC y2 y3 z0 z1 z2 z3 z4 z5 w10
        obtain ⟨rfl, rfl, R, RB, RS, RC⟩ := hcut
        have y2 := bc2 RC
        have y3 := bc3 RC
        have s2 := (blk_cell RS.out C2.toNat).trans (bools_get seen C2.toNat (by omega))
        have s3 := (blk_cell RS.out C3.toNat).trans (bools_get seen C3.toNat (by omega))
        have f2 := blk_frozen RS.out C2.toNat
        have f3 := blk_frozen RS.out C3.toNat
        have c3' : (wc.setCell ⟨gs, C2.toNat, none⟩ (.bool true)).cell? ⟨gs, C3.toNat, none⟩ = some (.bool ((seen.set C2.toNat true).getD C3.toNat false)) := by rw [blk_cell (blk_set RS.out C2.toNat (.bool true)), bools_set]; exact bools_get _ _ (by rw [List.length_set]; omega)
        have f3' := blk_frozen (blk_set RS.out C2.toNat (.bool true)) C3.toNat
        have y3' := bc3 (Aside0.mk (blk_far RC.out (p := ⟨gs, C2.toNat, none⟩) NCS.out (.bool true)))
        go_wp2
        go_region
        have R3 : Aside0 (Below w.heap.size w ((wc.setCell ⟨gs, C2.toNat, none⟩ (.bool true)).setCell ⟨gs, C3.toNat, none⟩ (.bool true))) := ⟨below_set (below_set R.out NBS.out.2) NBS.out.2⟩
        have RB3 : Aside0 (((wc.setCell ⟨gs, C2.toNat, none⟩ (.bool true)).setCell ⟨gs, C3.toNat, none⟩ (.bool true)).heap[gb]? = some (.cells #[.int .i64 a0_0, .slice A0_1 l0_1.length c0_1, .int .i64 a0_2, .int .i64 a0_3, .slice A0_4 l0_4.length c0_4, .slice (some ad5) l0_5.length c0_5] 26 (0, 0))) := ⟨blk_far (blk_far RB.out NBS.out.1 _) NBS.out.1 _⟩
        have RS3 : Aside0 (((wc.setCell ⟨gs, C2.toNat, none⟩ (.bool true)).setCell ⟨gs, C3.toNat, none⟩ (.bool true)).heap[gs]? = some (.cells (bools ((seen.set C2.toNat true).set C3.toNat true)) 4 (0, 0))) := ⟨by rw [← bools_set, ← bools_set]; exact blk_set (blk_set RS.out C2.toNat (.bool true)) C3.toNat (.bool true)⟩
        go_wp2
        go_roundg (l1.length - (kk + 1))
        case measure => omega
        case rel =>
          refine ⟨kk + 1, w1, (seen.set C2.toNat true).set C3.toNat true, rfl, by go_num, ⟨by omega, by omega, by simp [hk3]⟩, ⟨below_drew1 R3.out⟩, ⟨blk_drew RB3.out⟩, ⟨blk_drew RS3.out⟩, ⟨?_⟩⟩
          have e9 : l1.length - (kk + 1) = dd := by omega
          rw [e9]
          exact H.out
    · have hltz : ¬ (kk : Int) < (l1.length : Int) := by omega
      have e9 : l1.length - kk = 0 := by omega
      replace H := H.out
      rw [e9] at H
      simp only [hears.l] at H
      obtain ⟨g, hg, h2⟩ := Option.bind_eq_some_iff.mp H
      have HG2 := Aside0.mk (HG.out g hg)
      have Hr := Aside0.mk (Option.some.inj h2)
      clear H hg h2 e9
      have z0 := bc0 RB
      have z1 := bc1 RB
      have z2 := bc2 RB
      have z3 := bc3 RB
      have z4 := bc4 RB
      have z5 := bc5 RB
      go_wp2_with fail
      refine (HG2.out _ R.out).mono ?_
      rintro e w11 ⟨rfl, hb11⟩
      have D11 := Aside0.mk (below_step R.out hb11)
      clear hb11
      go_wp2
      go_ret
      exact ⟨by rw [← Hr.out]; rfl, D11.out⟩
end Go.Proofs.Ytibgcekekmphoaa.P34

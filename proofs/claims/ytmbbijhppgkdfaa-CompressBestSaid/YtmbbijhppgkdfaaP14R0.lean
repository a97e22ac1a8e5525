-- Written by a program of this session (wip/tools) over the kit's print; Lean checks it.
import Derived.Test.YtmbbijhppgkdfaaP140
namespace Go.Proofs.Ytmbbijhppgkdfaa.P14
open Go.RowKit Go.Proofs.YtmbbijhppgkdfaaW.PrintWords Go.Proofs.YtmbbijhppgkdfaaW.PrintLast Go.Proofs.YtmbbijhppgkdfaaW.PrintMore
attribute [local go_sem] max2_int min2_int max_two min_two max_three min_three max_four min_four   -- for this text's walks alone
set_option linter.unusedVariables false
set_option linter.unusedSimpArgs false

/-! ### compress_limits: function 64 -/
def compress_limits.f  : Option (List Int) := some (([(-1), 1, 64, 255] : List Int))
set_option maxHeartbeats 8000000 in
set_option maxRecDepth 100000 in
theorem compress_limits.calls  (r : List Int) (w : World) (h : compress_limits.f  = some r) :
  Calls Try.prog 64 #[] w fun e w' => ∃ v0_ : Value, e = .returned (v0_) ∧ Kd.R (Kd.int .i64) 3 w' w.heap.size (fun _ => True) v0_ r ∧ Below w.heap.size w w' := by
 have HB := Aside0.mk (Below.refl w.heap.size w)
 have H : (some (([(-1), 1, 64, 255] : List Int))) = some r := h
 clear h
 obtain ⟨y421, hy421⟩ : ∃ y_ : List Int, y_ = (([(-1), 1, 64, 255] : List Int)) := ⟨_, rfl⟩
 replace H : (some y421) = some r := by first | (rw [hy421]; with_reducible exact H) | (have H2_ := (Option.bind_some _ _).symm.trans H; rw [hy421]; with_reducible exact H2_) | (have H2_ := (Option.bind_some _ _).symm.trans H; with_reducible exact H2_) | with_reducible exact H | (rw [hy421]; exact H) | exact H
 have Ny421 := Aside0.mk hy421
 clear hy421
 obtain rfl := Option.some.inj H
 go_enter Try.func64, Try.ntmps64
 go_wp2_with (first | ((with_reducible refine gate_dst (N := 1) rfl ?_); refine Kd.R_lit (Kd.int .i64) _ 3 ?hg (N := 1) ?hd (xs := ([(-1), 1, 64, 255] : List Int)) (inner := [.int .i64 (-1), .int .i64 1, .int .i64 64, .int .i64 255]) (ok := fun _ => True) (okp := fun _ => True) ?hr ?hp (fun _ hk => hk) trivial (Below.refl _ _) (Nat.le_refl _) (by simp) ?_; (case hd => rfl); (case hg => rfl); (case hr => first | (go_simp; done) | (go_simp; rfl)); (case hp => exact (Reps.one (show Kd.M (Kd.int .i64) _ _ _ (-1) [.int .i64 (-1)] from rfl) (Reps.one (show Kd.M (Kd.int .i64) _ _ _ 1 [.int .i64 1] from rfl) (Reps.one (show Kd.M (Kd.int .i64) _ _ _ 64 [.int .i64 64] from rfl) (Reps.one (show Kd.M (Kd.int .i64) _ _ _ 255 [.int .i64 255] from rfl) (Reps.none _ _)))))); intro v422 w1 ho2 hb hg_ hnew_; clear hg_ hnew_; (first | rw [← Ny421.out] at ho2 | (simp only [Int.reduceToNat] at ho2; rw [← Ny421.out] at ho2)); have n0_ := Aside0.mk (Kd.R_lower ho2 (below_size hb_)); have n1_ := Aside0.mk (below_step hb_ hb); clear HB; have HO423 := n0_; have HB := n1_; clear n0_ n1_; clear hb ho2))
 go_ret
 exact ⟨_, by first | rfl | (simp [errW_none, errW_some] <;> rfl) | (simp [*, errW_none, errW_some] <;> rfl), kr_ HO423, hb_⟩

/-- A state of type 105 at block g of W; what its slices lead to came in by w0. -/
def IsS105 (w0 W : World) (g : Nat) (f0 : ByteArray) (f1 : Int) (f2 : Int) : Prop := W.heap[g]? = some (.cells #[.string f0, .int .i64 f1, .int .i64 f2] 105 (0, 0)) ∧ w0.heap.size ≤ g
theorem IsS105.grown {w0 W : World} {g : Nat} {f0 : ByteArray} {f1 : Int} {f2 : Int} {W1 : World} {row : Option Nat} (h : IsS105 w0 W g f0 f1 f2) (hw : W.grownBy W1 row) (hne : some g ≠ row) : IsS105 w0 W1 g f0 f1 f2 := by
 obtain ⟨hb, hg⟩ := h
 exact ⟨blk_grown hb hw hne, hg⟩
theorem IsS105.own_neN {w0 W : World} {g : Nat} {f0 : ByteArray} {f1 : Int} {f2 : Int} {α : Type} {d : Kd α} {e : Nat} {base : Nat} {ok : Nat → Prop} {v : Value} {xs : List α} (h : IsS105 w0 W g f0 f1 f2) (ho : Kd.N d e W base ok v xs) (ht : e ≠ 105) : some g ≠ v.ownBlock := by
 obtain ⟨hb, hg⟩ := h
 exact Kd.N_ne ho hb ht
theorem IsS105.fresh {w0 W : World} {g : Nat} {f0 : ByteArray} {f1 : Int} {f2 : Int} (h : IsS105 w0 W g f0 f1 f2) : ∀ k, W.heap.size ≤ k → k ≠ g := by
 obtain ⟨hb, hg⟩ := h
 exact Kd.freshB hb
theorem IsS105.kept {w0 W : World} {g : Nat} {f0 : ByteArray} {f1 : Int} {f2 : Int} {W1 : World} {S : Nat → Prop} (h : IsS105 w0 W g f0 f1 f2) (hk : Kept W W1 S) (hne : ¬ S g) : IsS105 w0 W1 g f0 f1 f2 := by
 obtain ⟨hb, hg⟩ := h
 exact ⟨blk_kept hb hk hne, hg⟩
theorem IsS105.below {w0 W : World} {g : Nat} {f0 : ByteArray} {f1 : Int} {f2 : Int} {W1 : World} (h : IsS105 w0 W g f0 f1 f2) (hw : Below W.heap.size W W1) : IsS105 w0 W1 g f0 f1 f2 := h.grown (grown_of_below hw none) (by simp)
theorem IsS105.alloc {w0 W : World} {g : Nat} {f0 : ByteArray} {f1 : Int} {f2 : Int} (h : IsS105 w0 W g f0 f1 f2) (o : Obj) : IsS105 w0 (W.alloc o) g f0 f1 f2 := h.below (below_alloc (Below.refl _ _) o)
theorem IsS105.drewN {w0 W : World} {g : Nat} {f0 : ByteArray} {f1 : Int} {f2 : Int} (h : IsS105 w0 W g f0 f1 f2) (m : Nat) : IsS105 w0 (W.drewN m) g f0 f1 f2 := h
theorem IsS105.drew {w0 W : World} {g : Nat} {f0 : ByteArray} {f1 : Int} {f2 : Int} (h : IsS105 w0 W g f0 f1 f2) : IsS105 w0 W.drew g f0 f1 f2 := h
theorem IsS105.at_ {w0 W : World} {g : Nat} {f0 : ByteArray} {f1 : Int} {f2 : Int} {w' : World} {m : Nat} (hq : W.drewN m = w') (h : IsS105 w0 W g f0 f1 f2) : IsS105 w0 w' g f0 f1 f2 := by subst hq; exact IsS105.drewN h m
theorem IsS105.apart {w0 W : World} {g : Nat} {f0 : ByteArray} {f1 : Int} {f2 : Int} {α : Type} {d : Kd α} {e : Nat} {base : Nat} {ok : Nat → Prop} {v : Value} {xs : List α} (h : IsS105 w0 W g f0 f1 f2) (ho : d.R e W base ok v xs) (ht : ∀ q, q ∈ e :: d.E → q ≠ 105) : d.R e W base (fun k => ok k ∧ k ≠ g) v xs := by
 obtain ⟨hb, hg⟩ := h
 exact Kd.R_types ho hb ht
theorem IsS105.own_ne {w0 W : World} {g : Nat} {f0 : ByteArray} {f1 : Int} {f2 : Int} {α : Type} {d : Kd α} {e : Nat} {base : Nat} {ok : Nat → Prop} {v : Value} {xs : List α} (h : IsS105 w0 W g f0 f1 f2) (ho : d.R e W base ok v xs) (ht : e ≠ 105) : some g ≠ v.ownBlock := by
 obtain ⟨hb, hg⟩ := h
 exact Kd.R_ne ho hb ht
theorem IsS105.apartQ {w0 W : World} {g : Nat} {f0 : ByteArray} {f1 : Int} {f2 : Int} {α : Type} {d : Kd α} {e : Nat} {base : Nat} {ok : Nat → Prop} {v : Value} {xs : List α} (h : IsS105 w0 W g f0 f1 f2) (ho : d.Q e W base ok v xs) (ht : ∀ q, q ∈ e :: d.E → q ≠ 105) : d.Q e W base (fun k => ok k ∧ k ≠ g) v xs := by
 obtain ⟨hb, hg⟩ := h
 exact Kd.Q_types ho hb ht
theorem IsS105.own_neQ {w0 W : World} {g : Nat} {f0 : ByteArray} {f1 : Int} {f2 : Int} {α : Type} {d : Kd α} {e : Nat} {base : Nat} {ok : Nat → Prop} {v : Value} {xs : List α} (h : IsS105 w0 W g f0 f1 f2) (ho : d.Q e W base ok v xs) (ht : e ≠ 105) : some g ≠ v.ownBlock := by
 obtain ⟨hb, hg⟩ := h
 exact Kd.Q_ne ho hb ht
theorem IsS105.apartS {w0 W : World} {g : Nat} {f0 : ByteArray} {f1 : Int} {f2 : Int} {α : Type} {d : Kd α} {e : Nat} {base : Nat} {ok : Nat → Prop} {v : Value} {xs : List α} (h : IsS105 w0 W g f0 f1 f2) (ho : d.S e W base ok v xs) (ht : ∀ q, q ∈ e :: d.E → q ≠ 105) : d.S e W base (fun k => ok k ∧ k ≠ g) v xs := by
 obtain ⟨hb, hg⟩ := h
 exact Kd.S_types ho hb ht
theorem IsS105.own_neS {w0 W : World} {g : Nat} {f0 : ByteArray} {f1 : Int} {f2 : Int} {α : Type} {d : Kd α} {e : Nat} {base : Nat} {ok : Nat → Prop} {v : Value} {xs : List α} (h : IsS105 w0 W g f0 f1 f2) (ho : d.S e W base ok v xs) (ht : e ≠ 105) : some g ≠ v.ownBlock := by
 obtain ⟨hb, hg⟩ := h
 exact Kd.S_ne ho hb ht
theorem IsS105.lt {w0 W : World} {g : Nat} {f0 : ByteArray} {f1 : Int} {f2 : Int} (h : IsS105 w0 W g f0 f1 f2) : g < W.heap.size := by
 obtain ⟨hb, hg⟩ := h
 exact blk_lt hb
theorem IsS105.ge {w0 W : World} {g : Nat} {f0 : ByteArray} {f1 : Int} {f2 : Int} (h : IsS105 w0 W g f0 f1 f2) : w0.heap.size ≤ g := by
 obtain ⟨hb, hg⟩ := h
 exact hg
theorem IsS105.ne_blk {w0 W : World} {g : Nat} {f0 : ByteArray} {f1 : Int} {f2 : Int} {a : Nat} {cs : Array Value} {t : TypeId} {fr : Nat × Nat} (h : IsS105 w0 W g f0 f1 f2) (hb2 : W.heap[a]? = some (.cells cs t fr)) (ht : t ≠ 105) : g ≠ a := by
 obtain ⟨hb, hg⟩ := h
 rintro rfl
 rw [hb] at hb2
 injection hb2 with hb2
 injection hb2 with _ ht2
 exact ht ht2.symm
theorem IsS105.far {w0 W : World} {g : Nat} {f0 : ByteArray} {f1 : Int} {f2 : Int} {p : Addr} (h : IsS105 w0 W g f0 f1 f2) (hne : g ≠ p.block) (u : Value) : IsS105 w0 (W.setCell p u) g f0 f1 f2 := by
 obtain ⟨hb, hg⟩ := h
 exact ⟨blk_far hb hne u, hg⟩
theorem cellS105_0 {W : World} {g : Nat} {f0 : ByteArray} {f1 : Int} {f2 : Int} (h : W.heap[g]? = some (.cells #[.string f0, .int .i64 f1, .int .i64 f2] 105 (0, 0))) : W.cell? ⟨g, 0, none⟩ = some (.string f0) := (blk_cell h 0).trans rfl
theorem IsS105.set_0 {w0 W : World} {g : Nat} {f0 : ByteArray} {f1 : Int} {f2 : Int} (h : IsS105 w0 W g f0 f1 f2) (x : ByteArray) : IsS105 w0 (W.setCell ⟨g, 0, none⟩ (.string x)) g x f1 f2 := by
 obtain ⟨hb, hg⟩ := h
 exact ⟨by simpa using blk_set hb 0 (.string x), hg⟩
theorem cellS105_1 {W : World} {g : Nat} {f0 : ByteArray} {f1 : Int} {f2 : Int} (h : W.heap[g]? = some (.cells #[.string f0, .int .i64 f1, .int .i64 f2] 105 (0, 0))) : W.cell? ⟨g, 1, none⟩ = some (.int .i64 f1) := (blk_cell h 1).trans rfl
theorem IsS105.set_1 {w0 W : World} {g : Nat} {f0 : ByteArray} {f1 : Int} {f2 : Int} (h : IsS105 w0 W g f0 f1 f2) (x : Int) : IsS105 w0 (W.setCell ⟨g, 1, none⟩ (.int .i64 x)) g f0 x f2 := by
 obtain ⟨hb, hg⟩ := h
 exact ⟨by simpa using blk_set hb 1 (.int .i64 x), hg⟩
theorem cellS105_2 {W : World} {g : Nat} {f0 : ByteArray} {f1 : Int} {f2 : Int} (h : W.heap[g]? = some (.cells #[.string f0, .int .i64 f1, .int .i64 f2] 105 (0, 0))) : W.cell? ⟨g, 2, none⟩ = some (.int .i64 f2) := (blk_cell h 2).trans rfl
theorem IsS105.set_2 {w0 W : World} {g : Nat} {f0 : ByteArray} {f1 : Int} {f2 : Int} (h : IsS105 w0 W g f0 f1 f2) (x : Int) : IsS105 w0 (W.setCell ⟨g, 2, none⟩ (.int .i64 x)) g f0 f1 x := by
 obtain ⟨hb, hg⟩ := h
 exact ⟨by simpa using blk_set hb 2 (.int .i64 x), hg⟩
theorem IsS105.new (w0 W : World) (f0 : ByteArray) (f1 : Int) (f2 : Int) (hB : Below w0.heap.size w0 W) : IsS105 w0 (W.alloc (.cells #[.string f0, .int .i64 f1, .int .i64 f2] 105)) W.heap.size f0 f1 f2 := ⟨by simpa using heap_alloc_new W _, hB.size⟩

/-! ### bitio_Reader_fail: function 104 -/
def bitio_Reader_fail.f (s0_0 : ByteArray) (s0_1 : Int) (s0_2 : Int) (a1 : Int) : Option (ByteArray × Int × Int) := if s0_2 = 0 then (some (s0_0, s0_1, a1)) else (some (s0_0, s0_1, s0_2))
set_option maxHeartbeats 8000000 in
set_option maxRecDepth 100000 in
theorem bitio_Reader_fail.calls (g : Nat) (s0_0 : ByteArray) (s0_1 : Int) (s0_2 : Int) (a1 : Int) (r1 : ByteArray) (r2 : Int) (r3 : Int) (w0 w : World) (hI : IsS105 w0 w g s0_0 s0_1 s0_2) (hB : Below w0.heap.size w0 w) (h : bitio_Reader_fail.f s0_0 s0_1 s0_2 a1 = some (r1, r2, r3)) :
  Calls Try.prog 104 #[.pointer (some ⟨g, 0, none⟩), .int .i64 a1] w fun e w' => e = .returned (.tuple #[]) ∧ IsS105 w0 w' g r1 r2 r3 ∧ Below w0.heap.size w0 w' ∧ KeepBut w w' g none := by
 have HI0 := Aside0.mk hI
 have HK := Aside0.mk (KeepBut.refl w g none)
 have HL := Aside0.mk hB.size
 clear hI
 have HW0 := Aside0.mk hB.size
 have HB := Aside0.mk hB
 clear hB
 have H : (if s0_2 = 0 then (some (s0_0, s0_1, a1)) else (some (s0_0, s0_1, s0_2))) = some (r1, r2, r3) := h
 clear h
 by_cases c3 : s0_2 = 0
 ·
  rw [if_pos c3] at H
  have c3b0 : (s0_2 == 0) = true := beq_iff_eq.mpr c3
  have c3b1 : (s0_2 != 0) = false := bne_eq_false_iff_eq.mpr c3
  clear c3
  simp only [Option.some.injEq, Prod.mk.injEq] at H
  obtain ⟨rfl, rfl, rfl⟩ := H
  obtain ⟨HGz4, hgz4⟩ := HI0.out
  have hcz4_0 := cellS105_0 HGz4
  have hcz4_1 := cellS105_1 HGz4
  have hcz4_2 := cellS105_2 HGz4
  have hfz4_0 := blk_frozen HGz4 0
  have hfz4_1 := blk_frozen HGz4 1
  have hfz4_2 := blk_frozen HGz4 2
  clear HGz4 hgz4
  go_enter Try.func104, Try.ntmps104
  go_wp2
  first | go_end0 | ((try simp only [Exit.inBlock, Exit.then]); refine bodyPost_ret (results_none rfl _ _ _) rfl ?_)
  exact ⟨er_, by repeat (first | (with_reducible first | exact HI0.out | apply IsS105.alloc | apply IsS105.drewN | apply IsS105.drew | apply IsS105.set_0 | apply IsS105.set_1 | apply IsS105.set_2) | exact HI0.out), by repeat (first | (with_reducible first | exact HB.out | apply below_alloc | apply pw_below_drewN | apply below_drew1 | refine below_set ?_ (IsS105.ge HI0.out)) | exact HB.out), by repeat (first | (with_reducible first | exact HK.out | apply KeepBut.set_ | apply keep_drewN | apply keep_drew | apply keep_alloc) | exact HK.out)⟩
 ·
  rw [if_neg c3] at H
  have c3b0 : (s0_2 == 0) = false := beq_eq_false_iff_ne.mpr c3
  have c3b1 : (s0_2 != 0) = true := bne_iff_ne.mpr c3
  simp only [Option.some.injEq, Prod.mk.injEq] at H
  obtain ⟨rfl, rfl, rfl⟩ := H
  obtain ⟨HGz5, hgz5⟩ := HI0.out
  have hcz5_0 := cellS105_0 HGz5
  have hcz5_1 := cellS105_1 HGz5
  have hcz5_2 := cellS105_2 HGz5
  have hfz5_0 := blk_frozen HGz5 0
  have hfz5_1 := blk_frozen HGz5 1
  have hfz5_2 := blk_frozen HGz5 2
  clear HGz5 hgz5
  go_enter Try.func104, Try.ntmps104
  go_wp2
  first | go_end0 | ((try simp only [Exit.inBlock, Exit.then]); refine bodyPost_ret (results_none rfl _ _ _) rfl ?_)
  exact ⟨er_, by repeat (first | (with_reducible first | exact HI0.out | apply IsS105.alloc | apply IsS105.drewN | apply IsS105.drew | apply IsS105.set_0 | apply IsS105.set_1 | apply IsS105.set_2) | exact HI0.out), by repeat (first | (with_reducible first | exact HB.out | apply below_alloc | apply pw_below_drewN | apply below_drew1 | refine below_set ?_ (IsS105.ge HI0.out)) | exact HB.out), by repeat (first | (with_reducible first | exact HK.out | apply KeepBut.set_ | apply keep_drewN | apply keep_drew | apply keep_alloc) | exact HK.out)⟩

/-! ### bitio_Reader_Left: function 105 -/
def bitio_Reader_Left.f (s0_0 : ByteArray) (s0_1 : Int) (s0_2 : Int) : Option (Int × ByteArray × Int × Int) := if s0_2 = 0 then (some (wrap64 ((wrap64 (8 * (s0_0.size : Int))) - s0_1), s0_0, s0_1, s0_2)) else (some (0, s0_0, s0_1, s0_2))
set_option maxHeartbeats 8000000 in
set_option maxRecDepth 100000 in
theorem bitio_Reader_Left.calls (g : Nat) (s0_0 : ByteArray) (s0_1 : Int) (s0_2 : Int) (r1 : Int) (r2 : ByteArray) (r3 : Int) (r4 : Int) (w0 w : World) (hI : IsS105 w0 w g s0_0 s0_1 s0_2) (hB : Below w0.heap.size w0 w) (h : bitio_Reader_Left.f s0_0 s0_1 s0_2 = some (r1, r2, r3, r4)) :
  Calls Try.prog 105 #[.pointer (some ⟨g, 0, none⟩)] w fun e w' => e = .returned (.int .i64 r1) ∧ IsS105 w0 w' g r2 r3 r4 ∧ Below w0.heap.size w0 w' ∧ KeepBut w w' g none := by
 have HI0 := Aside0.mk hI
 have HK := Aside0.mk (KeepBut.refl w g none)
 have HL := Aside0.mk hB.size
 clear hI
 have HW0 := Aside0.mk hB.size
 have HB := Aside0.mk hB
 clear hB
 have H : (if s0_2 = 0 then (some (wrap64 ((wrap64 (8 * (s0_0.size : Int))) - s0_1), s0_0, s0_1, s0_2)) else (some (0, s0_0, s0_1, s0_2))) = some (r1, r2, r3, r4) := h
 clear h
 by_cases c2 : s0_2 = 0
 ·
  rw [if_pos c2] at H
  have c2b0 : (s0_2 == 0) = true := beq_iff_eq.mpr c2
  have c2b1 : (s0_2 != 0) = false := bne_eq_false_iff_eq.mpr c2
  clear c2
  simp only [Option.some.injEq, Prod.mk.injEq] at H
  obtain ⟨rfl, rfl, rfl, rfl⟩ := H
  obtain ⟨HGz3, hgz3⟩ := HI0.out
  have hcz3_0 := cellS105_0 HGz3
  have hcz3_1 := cellS105_1 HGz3
  have hcz3_2 := cellS105_2 HGz3
  have hfz3_0 := blk_frozen HGz3 0
  have hfz3_1 := blk_frozen HGz3 1
  have hfz3_2 := blk_frozen HGz3 2
  clear HGz3 hgz3
  go_enter Try.func105, Try.ntmps105
  go_wp2
  repeat (go_quiet (fail); try go_wp2)
  go_ret
  exact ⟨er_, by repeat (first | (with_reducible first | exact HI0.out | apply IsS105.alloc | apply IsS105.drewN | apply IsS105.drew | apply IsS105.set_0 | apply IsS105.set_1 | apply IsS105.set_2) | exact HI0.out), by repeat (first | (with_reducible first | exact HB.out | apply below_alloc | apply pw_below_drewN | apply below_drew1 | refine below_set ?_ (IsS105.ge HI0.out)) | exact HB.out), by repeat (first | (with_reducible first | exact HK.out | apply KeepBut.set_ | apply keep_drewN | apply keep_drew | apply keep_alloc) | exact HK.out)⟩
 ·
  rw [if_neg c2] at H
  have c2b0 : (s0_2 == 0) = false := beq_eq_false_iff_ne.mpr c2
  have c2b1 : (s0_2 != 0) = true := bne_iff_ne.mpr c2
  simp only [Option.some.injEq, Prod.mk.injEq] at H
  obtain ⟨rfl, rfl, rfl, rfl⟩ := H
  obtain ⟨HGz4, hgz4⟩ := HI0.out
  have hcz4_0 := cellS105_0 HGz4
  have hcz4_1 := cellS105_1 HGz4
  have hcz4_2 := cellS105_2 HGz4
  have hfz4_0 := blk_frozen HGz4 0
  have hfz4_1 := blk_frozen HGz4 1
  have hfz4_2 := blk_frozen HGz4 2
  clear HGz4 hgz4
  go_enter Try.func105, Try.ntmps105
  go_wp2
  repeat (go_quiet (fail); try go_wp2)
  go_ret
  exact ⟨er_, by repeat (first | (with_reducible first | exact HI0.out | apply IsS105.alloc | apply IsS105.drewN | apply IsS105.drew | apply IsS105.set_0 | apply IsS105.set_1 | apply IsS105.set_2) | exact HI0.out), by repeat (first | (with_reducible first | exact HB.out | apply below_alloc | apply pw_below_drewN | apply below_drew1 | refine below_set ?_ (IsS105.ge HI0.out)) | exact HB.out), by repeat (first | (with_reducible first | exact HK.out | apply KeepBut.set_ | apply keep_drewN | apply keep_drew | apply keep_alloc) | exact HK.out)⟩

/-! ### bitio_Reader_get: function 106 -/
def bitio_Reader_get.l0 : Nat → Int → Int → Int → ByteArray → Int → Int → Option (Int × ByteArray × Int × Int)
 | 0, _, _, _, _, _, _ => none
 | k + 1, x5, x6, x7, x1000, x1001, x1002 => if x7 < x6 then (if 0 ≤ (wrap64 (Int.tdiv x1001 8)) then (if (wrap64 (Int.tdiv x1001 8)) < (x1000.size : Int) then (if 0 ≤ (wrap64 (7 - (Int.tmod x1001 8))) then (bitio_Reader_get.l0 k (Go.bits .or .u64 (IntKind.u64.wrap (x5 * 2)) (IntKind.u64.wrap (Go.bits .and .u8 (shr .u8 (bt x1000 (wrap64 (Int.tdiv x1001 8))) (wrap64 (7 - (Int.tmod x1001 8)))) 1))) x6 (wrap64 (x7 + 1)) x1000 (wrap64 (x1001 + 1)) x1002) else (none)) else (none)) else (none)) else (some (x5, x1000, x1001, x1002))
def bitio_Reader_get.f (k : Nat) (s0_0 : ByteArray) (s0_1 : Int) (s0_2 : Int) (a1 : Int) : Option (Int × ByteArray × Int × Int) := bitio_Reader_get.l0 k 0 a1 0 s0_0 s0_1 s0_2
theorem bitio_Reader_get.mono_l : ∀ k, (∀ y0 y1 y2 y3 y4 y5, LeO (bitio_Reader_get.l0 k y0 y1 y2 y3 y4 y5) (bitio_Reader_get.l0 (k + 1) y0 y1 y2 y3 y4 y5))
 | 0 => fun _ _ _ _ _ _ r h => by simp [bitio_Reader_get.l0] at h
 | k + 1 => by
  have ih0 := bitio_Reader_get.mono_l k
  ·
   intro y0 y1 y2 y3 y4 y5
   unfold bitio_Reader_get.l0
   repeat' first
   | (with_reducible exact ih0 _ _ _ _ _ _)
   | (with_reducible exact LeO.refl _)
   | (with_reducible exact LeO.none _)
   | (with_reducible refine LeO.ite ?_ ?_)
   | (with_reducible refine LeO.bind ?_ (fun _ => ?_))
   | exact ih0 _ _ _ _ _ _
   | exact LeO.none _
   | refine LeO.ite ?_ ?_
   | refine LeO.bind ?_ (fun _ => ?_)
theorem bitio_Reader_get.mono : ∀ a0 a1 a2 a3 k, LeO (bitio_Reader_get.f k a0 a1 a2 a3) (bitio_Reader_get.f (k + 1) a0 a1 a2 a3) := by
 intro a0 a1 a2 a3 k
 have ih0 := bitio_Reader_get.mono_l k
 unfold bitio_Reader_get.f
 repeat' first
   | (with_reducible exact ih0 _ _ _ _ _ _)
   | (with_reducible exact LeO.refl _)
   | (with_reducible exact LeO.none _)
   | (with_reducible refine LeO.ite ?_ ?_)
   | (with_reducible refine LeO.bind ?_ (fun _ => ?_))
   | exact ih0 _ _ _ _ _ _
   | exact LeO.none _
   | refine LeO.ite ?_ ?_
   | refine LeO.bind ?_ (fun _ => ?_)
set_option maxHeartbeats 8000000 in
set_option maxRecDepth 100000 in
theorem bitio_Reader_get.calls (k : Nat) (g : Nat) (s0_0 : ByteArray) (s0_1 : Int) (s0_2 : Int) (a1 : Int) (r1 : Int) (r2 : ByteArray) (r3 : Int) (r4 : Int) (w0 w : World) (hI : IsS105 w0 w g s0_0 s0_1 s0_2) (hB : Below w0.heap.size w0 w) (h : bitio_Reader_get.f k s0_0 s0_1 s0_2 a1 = some (r1, r2, r3, r4)) :
  Calls Try.prog 106 #[.pointer (some ⟨g, 0, none⟩), .int .i64 a1] w fun e w' => e = .returned (.int .u64 r1) ∧ IsS105 w0 w' g r2 r3 r4 ∧ Below w0.heap.size w0 w' ∧ KeepBut w w' g none := by
 have HI0 := Aside0.mk hI
 have HK := Aside0.mk (KeepBut.refl w g none)
 have HL := Aside0.mk hB.size
 clear hI
 have HW0 := Aside0.mk hB.size
 have HB := Aside0.mk hB
 clear hB
 have H : (bitio_Reader_get.l0 k 0 a1 0 s0_0 s0_1 s0_2) = some (r1, r2, r3, r4) := h
 clear h
 have H' := Aside0.mk H
 clear H
 go_enter Try.func106, Try.ntmps106
 go_wp2
 repeat (go_quiet (fail); try go_wp2)
 go_loopg [5, 7] k (fun kq v5 v7 w' => ∃ (x5_1 : Int) (x7_1 : Int) (x1001_1 : Int), v5 = .int .u64 x5_1 ∧ v7 = .int .i64 x7_1 ∧ Aside0 (bitio_Reader_get.l0 kq x5_1 a1 x7_1 s0_0 x1001_1 s0_2 = some (r1, r2, r3, r4)) ∧ Aside0 (kq ≤ k) ∧ Aside0 (IsS105 w0 w' g s0_0 x1001_1 s0_2) ∧ Aside0 (KeepBut w w' g none) ∧ Aside0 (Below w0.heap.size w0 w'))
 case atStart => exact ⟨(0), (0), (s0_1), rl_, rl_, H', ⟨Nat.le_refl _⟩, ⟨by repeat (first | (with_reducible first | exact HI0.out | apply IsS105.alloc | apply IsS105.drewN | apply IsS105.drew | apply IsS105.set_0 | apply IsS105.set_1 | apply IsS105.set_2) | exact HI0.out)⟩, ⟨by repeat (first | (with_reducible first | exact HK.out | apply KeepBut.set_ | apply keep_drewN | apply keep_drew | apply keep_alloc) | exact HK.out)⟩, ⟨by repeat (first | (with_reducible first | exact HB.out | apply below_alloc | apply pw_below_drewN | apply below_drew1 | refine below_set ?_ (IsS105.ge HI0.out)) | exact HB.out)⟩⟩
 case round =>
  clear H'
  try clear c1; try clear p2
  (repeat clear HB)
  obtain ⟨x5_1, x7_1, x1001_1, rfl, rfl, HA, HK1, HI0, HK, HB⟩ := hrel
  cases gk with
  | zero => exact absurd HA.out (by simp [bitio_Reader_get.l0])
  | succ k1 =>
   have H := HA.out
   clear HA
   simp only [bitio_Reader_get.l0] at H
   by_cases c3 : x7_1 < a1
   ·
    rw [if_pos c3] at H
    have c3b0 : decide (x7_1 < a1) = true := decide_eq_true c3
    clear c3
    obtain ⟨ji4, hji4⟩ : ∃ j_ : Int, (wrap64 (Int.tdiv x1001_1 8)) = j_ := ⟨_, rfl⟩
    replace H : (if 0 ≤ (ji4) then (if (ji4) < (s0_0.size : Int) then (if 0 ≤ (wrap64 (7 - (Int.tmod x1001_1 8))) then (bitio_Reader_get.l0 k1 (Go.bits .or .u64 (IntKind.u64.wrap (x5_1 * 2)) (IntKind.u64.wrap (Go.bits .and .u8 (shr .u8 (bt s0_0 (ji4)) (wrap64 (7 - (Int.tmod x1001_1 8)))) 1))) a1 (wrap64 (x7_1 + 1)) s0_0 (wrap64 (x1001_1 + 1)) s0_2) else (none)) else (none)) else (none)) = some (r1, r2, r3, r4) := by first | (rw [hji4] at H; exact H) | (simp only [hji4] at H ⊢; exact H)
    have hji4w : (IntKind.i64.wrap (Int.tdiv x1001_1 8)) = ji4 := (i64_w _).trans hji4
    by_cases c5 : 0 ≤ (ji4)
    ·
     rw [if_pos c5] at H
     have c5b0 : decide (0 ≤ (ji4)) = true := decide_eq_true c5
     clear c5
     by_cases c6 : (ji4) < (s0_0.size : Int)
     ·
      rw [if_pos c6] at H
      have c6b0 : decide ((ji4) < (s0_0.size : Int)) = true := decide_eq_true c6
      clear c6
      obtain ⟨ji8, hji8⟩ : ∃ j_ : Int, (wrap64 (7 - (Int.tmod x1001_1 8))) = j_ := ⟨_, rfl⟩
      replace H : (if 0 ≤ (ji8) then (bitio_Reader_get.l0 k1 (Go.bits .or .u64 (IntKind.u64.wrap (x5_1 * 2)) (IntKind.u64.wrap (Go.bits .and .u8 (shr .u8 (bt s0_0 (ji4)) (ji8)) 1))) a1 (wrap64 (x7_1 + 1)) s0_0 (wrap64 (x1001_1 + 1)) s0_2) else (none)) = some (r1, r2, r3, r4) := by first | (rw [hji8] at H; exact H) | (simp only [hji8] at H ⊢; exact H)
      have hji8w : (IntKind.i64.wrap (7 - (Int.tmod x1001_1 8))) = ji8 := (i64_w _).trans hji8
      by_cases c9 : 0 ≤ (ji8)
      ·
       rw [if_pos c9] at H
       have c9b0 := eq_true c9
       have c9b1 : decide (0 ≤ (ji8)) = true := decide_eq_true c9
       clear c9
       obtain ⟨ji10, hji10⟩ : ∃ j_ : Int, (shr .u8 (bt s0_0 (ji4)) (ji8)) = j_ := ⟨_, rfl⟩
       replace H : (bitio_Reader_get.l0 k1 (Go.bits .or .u64 (IntKind.u64.wrap (x5_1 * 2)) (IntKind.u64.wrap (Go.bits .and .u8 (ji10) 1))) a1 (wrap64 (x7_1 + 1)) s0_0 (wrap64 (x1001_1 + 1)) s0_2) = some (r1, r2, r3, r4) := by first | (rw [hji10] at H; exact H) | (simp only [hji10] at H ⊢; exact H)
       have hji10_ : ((bt s0_0 (ji4)) / 2 ^ min (ji8).toNat 8) = ji10 := hji10
       have hji10z : (ji8) ≤ 8 → ((bt s0_0 (ji4)) / 2 ^ (ji8).toNat) = ji10 := shr_small hji10
       have H' := Aside0.mk H
       clear H
       obtain ⟨HGz11, hgz11⟩ := HI0.out
       have hcz11_0 := cellS105_0 HGz11
       have hcz11_1 := cellS105_1 HGz11
       have hcz11_2 := cellS105_2 HGz11
       have hfz11_0 := blk_frozen HGz11 0
       have hfz11_1 := blk_frozen HGz11 1
       have hfz11_2 := blk_frozen HGz11 2
       clear HGz11 hgz11
       have p7 : 0 ≤ ((ji4) : Int) := of_decide_eq_true (by assumption)
       have q7 : (ji4) < (s0_0.size : Int) := of_decide_eq_true (by assumption)
       have hx7 := bt_at s0_0 (ji4)
       replace p7 := eq_true p7
       replace q7 := eq_true q7
       go_wp2
       repeat (go_quiet (fail); try go_wp2)
       go_roundg k1
       case measure => have := HK1.out; omega
       case rel => exact ⟨(Go.bits .or .u64 (IntKind.u64.wrap (x5_1 * 2)) (IntKind.u64.wrap (Go.bits .and .u8 (ji10) 1))), (wrap64 (x7_1 + 1)), (wrap64 (x1001_1 + 1)), (by first | rfl | (simp; done) | (simp only [← hji10] <;> (first | rfl | simp)) | (simp [*]; done)), rl_, H', ⟨by have := HK1.out; omega⟩, ⟨by repeat (first | (with_reducible first | exact HI0.out | apply IsS105.alloc | apply IsS105.drewN | apply IsS105.drew | apply IsS105.set_0 | apply IsS105.set_1 | apply IsS105.set_2) | exact HI0.out)⟩, ⟨by repeat (first | (with_reducible first | exact HK.out | apply KeepBut.set_ | apply keep_drewN | apply keep_drew | apply keep_alloc) | exact HK.out)⟩, ⟨by repeat (first | (with_reducible first | exact HB.out | apply below_alloc | apply pw_below_drewN | apply below_drew1 | refine below_set ?_ (IsS105.ge HI0.out)) | exact HB.out)⟩⟩
      ·
       rw [if_neg c9] at H
       exact absurd H (by simp)
     ·
      rw [if_neg c6] at H
      exact absurd H (by simp)
    ·
     rw [if_neg c5] at H
     exact absurd H (by simp)
   ·
    rw [if_neg c3] at H
    have c3b0 : decide (x7_1 < a1) = false := decide_eq_false c3
    clear c3
    simp only [Option.some.injEq, Prod.mk.injEq] at H
    obtain ⟨rfl, rfl, rfl, rfl⟩ := H
    go_wp2
    repeat (go_quiet (fail); try go_wp2)
    go_ret
    exact ⟨er_, by repeat (first | (with_reducible first | exact HI0.out | apply IsS105.alloc | apply IsS105.drewN | apply IsS105.drew | apply IsS105.set_0 | apply IsS105.set_1 | apply IsS105.set_2) | exact HI0.out), by repeat (first | (with_reducible first | exact HB.out | apply below_alloc | apply pw_below_drewN | apply below_drew1 | refine below_set ?_ (IsS105.ge HI0.out)) | exact HB.out), by repeat (first | (with_reducible first | exact HK.out | apply KeepBut.set_ | apply keep_drewN | apply keep_drew | apply keep_alloc) | exact HK.out)⟩

/-! ### bitio_Reader_field: function 96 -/
def bitio_Reader_field.f (k : Nat) (s0_0 : ByteArray) (s0_1 : Int) (s0_2 : Int) (a1 : Bool) (a2 : Int) : Option (Int × ByteArray × Int × Int) := if s0_2 = 0 then (if a1 = true then ((bitio_Reader_Left.f s0_0 s0_1 s0_2).bind fun bt424 => (if a2 > bt424.1 then ((bitio_Reader_fail.f bt424.2.1 bt424.2.2.1 bt424.2.2.2 9).bind fun bt428 => (some (0, bt428.1, bt428.2.1, bt428.2.2))) else ((bitio_Reader_get.f k bt424.2.1 bt424.2.2.1 bt424.2.2.2 a2).bind fun bt431 => (some (bt431.1, bt431.2.1, bt431.2.2.1, bt431.2.2.2))))) else ((bitio_Reader_fail.f s0_0 s0_1 s0_2 1).bind fun bt435 => (some (0, bt435.1, bt435.2.1, bt435.2.2)))) else (some (0, s0_0, s0_1, s0_2))
theorem bitio_Reader_field.mono : ∀ a0 a1 a2 a3 a4 k, LeO (bitio_Reader_field.f k a0 a1 a2 a3 a4) (bitio_Reader_field.f (k + 1) a0 a1 a2 a3 a4) := by
 intro a0 a1 a2 a3 a4 k
 unfold bitio_Reader_field.f
 repeat' first
   | (with_reducible exact bitio_Reader_get.mono _ _ _ _ _)
   | (with_reducible exact LeO.refl _)
   | (with_reducible exact LeO.none _)
   | (with_reducible refine LeO.ite ?_ ?_)
   | (with_reducible refine LeO.bind ?_ (fun _ => ?_))
   | exact bitio_Reader_get.mono _ _ _ _ _
   | exact LeO.none _
   | refine LeO.ite ?_ ?_
   | refine LeO.bind ?_ (fun _ => ?_)
set_option maxHeartbeats 8000000 in
set_option maxRecDepth 100000 in
theorem bitio_Reader_field.calls (k : Nat) (g : Nat) (s0_0 : ByteArray) (s0_1 : Int) (s0_2 : Int) (a1 : Bool) (a2 : Int) (r1 : Int) (r2 : ByteArray) (r3 : Int) (r4 : Int) (w0 w : World) (hI : IsS105 w0 w g s0_0 s0_1 s0_2) (hB : Below w0.heap.size w0 w) (h : bitio_Reader_field.f k s0_0 s0_1 s0_2 a1 a2 = some (r1, r2, r3, r4)) :
  Calls Try.prog 96 #[.pointer (some ⟨g, 0, none⟩), .bool a1, .int .i64 a2] w fun e w' => e = .returned (.int .u64 r1) ∧ IsS105 w0 w' g r2 r3 r4 ∧ Below w0.heap.size w0 w' ∧ KeepBut w w' g none := by
 have HI0 := Aside0.mk hI
 have HK := Aside0.mk (KeepBut.refl w g none)
 have HL := Aside0.mk hB.size
 clear hI
 have HW0 := Aside0.mk hB.size
 have HB := Aside0.mk hB
 clear hB
 have H : (if s0_2 = 0 then (if a1 = true then ((bitio_Reader_Left.f s0_0 s0_1 s0_2).bind fun bt424 => (if a2 > bt424.1 then ((bitio_Reader_fail.f bt424.2.1 bt424.2.2.1 bt424.2.2.2 9).bind fun bt428 => (some (0, bt428.1, bt428.2.1, bt428.2.2))) else ((bitio_Reader_get.f k bt424.2.1 bt424.2.2.1 bt424.2.2.2 a2).bind fun bt431 => (some (bt431.1, bt431.2.1, bt431.2.2.1, bt431.2.2.2))))) else ((bitio_Reader_fail.f s0_0 s0_1 s0_2 1).bind fun bt435 => (some (0, bt435.1, bt435.2.1, bt435.2.2)))) else (some (0, s0_0, s0_1, s0_2))) = some (r1, r2, r3, r4) := h
 clear h
 by_cases c4 : s0_2 = 0
 ·
  rw [if_pos c4] at H
  have c4b0 : (s0_2 == 0) = true := beq_iff_eq.mpr c4
  have c4b1 : (s0_2 != 0) = false := bne_eq_false_iff_eq.mpr c4
  clear c4
  by_cases c5 : a1 = true
  ·
   subst c5
   have H1 : ((bitio_Reader_Left.f s0_0 s0_1 s0_2).bind fun bt424 => (if a2 > bt424.1 then ((bitio_Reader_fail.f bt424.2.1 bt424.2.2.1 bt424.2.2.2 9).bind fun bt428 => (some (0, bt428.1, bt428.2.1, bt428.2.2))) else ((bitio_Reader_get.f k bt424.2.1 bt424.2.2.1 bt424.2.2.2 a2).bind fun bt431 => (some (bt431.1, bt431.2.1, bt431.2.2.1, bt431.2.2.2))))) = some (r1, r2, r3, r4) := by rw [if_pos rfl] at H; exact H
   clear H
   have H := H1
   clear H1
   replace H := Option.bind_eq_some_iff.mp H
   obtain ⟨⟨t424, t425, t426, t427⟩, A60, H⟩ := H
   replace H : (if a2 > t424 then ((bitio_Reader_fail.f t425 t426 t427 9).bind fun bt428 => (some (0, bt428.1, bt428.2.1, bt428.2.2))) else ((bitio_Reader_get.f k t425 t426 t427 a2).bind fun bt431 => (some (bt431.1, bt431.2.1, bt431.2.2.1, bt431.2.2.2)))) = some (r1, r2, r3, r4) := H
   have A6 := Aside0.mk A60
   clear A60
   by_cases c7 : a2 > t424
   ·
    rw [if_pos c7] at H
    have c7b0 : decide (t424 < a2) = true := decide_eq_true c7
    clear c7
    replace H := Option.bind_eq_some_iff.mp H
    obtain ⟨⟨t428, t429, t430⟩, A80, H⟩ := H
    replace H : (some (0, t428, t429, t430)) = some (r1, r2, r3, r4) := H
    have A8 := Aside0.mk A80
    clear A80
    simp only [Option.some.injEq, Prod.mk.injEq] at H
    obtain ⟨rfl, rfl, rfl, rfl⟩ := H
    obtain ⟨HGz9, hgz9⟩ := HI0.out
    have hcz9_0 := cellS105_0 HGz9
    have hcz9_1 := cellS105_1 HGz9
    have hcz9_2 := cellS105_2 HGz9
    have hfz9_0 := blk_frozen HGz9 0
    have hfz9_1 := blk_frozen HGz9 1
    have hfz9_2 := blk_frozen HGz9 2
    clear HGz9 hgz9
    go_enter Try.func96, Try.ntmps96
    go_wp2_with (first | ((with_reducible refine gate_callee (f := 105) rfl ?_); refine goesL_ (some 24) rfl rfl Try.func105 (by kernel_rfl) rfl #[.pointer (some ⟨g, 0, none⟩)] rfl am_ ?_; (with_reducible refine (bitio_Reader_Left.calls g s0_0 s0_1 s0_2 t424 t425 t426 t427 w0 _ ?side1 ?side2 A6.out).mono ?_); (case side1 => repeat (first | (with_reducible first | exact HI0.out | apply IsS105.alloc | apply IsS105.drewN | apply IsS105.drew | apply IsS105.set_0 | apply IsS105.set_1 | apply IsS105.set_2) | exact HI0.out)); (case side2 => repeat (first | (with_reducible first | exact HB.out | apply below_alloc | apply pw_below_drewN | apply below_drew1 | refine below_set ?_ (IsS105.ge HI0.out)) | exact HB.out)); rintro e w10 ⟨rfl, hi, hb, hk⟩; refine ⟨_, rfl, ?_⟩; have n0_ := Aside0.mk (KeepBut.trans (by repeat (first | (with_reducible first | exact HK.out | apply KeepBut.set_ | apply keep_drewN | apply keep_drew | apply keep_alloc) | exact HK.out)) hk (.inl rfl)); have n1_ := Aside0.mk (hb); have n2_ := Aside0.mk (hi); clear HK; clear HB; clear HI0; have HK := n0_; have HB := n1_; have HI0 := n2_; clear n0_ n1_ n2_; (try clear hb); (try clear hb2); (try clear hk); (try clear hi)) | ((with_reducible refine gate_callee (f := 104) rfl ?_); refine goesL_ (some 27) rfl rfl Try.func104 (by kernel_rfl) rfl #[.pointer (some ⟨g, 0, none⟩), .int .i64 9] rfl am_ ?_; (with_reducible refine (bitio_Reader_fail.calls g t425 t426 t427 9 t428 t429 t430 w0 _ ?side1 ?side2 A8.out).mono ?_); (case side1 => repeat (first | (with_reducible first | exact HI0.out | apply IsS105.alloc | apply IsS105.drewN | apply IsS105.drew | apply IsS105.set_0 | apply IsS105.set_1 | apply IsS105.set_2) | exact HI0.out)); (case side2 => repeat (first | (with_reducible first | exact HB.out | apply below_alloc | apply pw_below_drewN | apply below_drew1 | refine below_set ?_ (IsS105.ge HI0.out)) | exact HB.out)); rintro e w11 ⟨rfl, hi, hb, hk⟩; refine ⟨_, rfl, ?_⟩; have n0_ := Aside0.mk (KeepBut.trans (by repeat (first | (with_reducible first | exact HK.out | apply KeepBut.set_ | apply keep_drewN | apply keep_drew | apply keep_alloc) | exact HK.out)) hk (.inl rfl)); have n1_ := Aside0.mk (hb); have n2_ := Aside0.mk (hi); clear HK; clear HB; clear HI0; have HK := n0_; have HB := n1_; have HI0 := n2_; clear n0_ n1_ n2_; (try clear hb); (try clear hb2); (try clear hk); (try clear hi)))
    go_ret
    exact ⟨er_, by repeat (first | (with_reducible first | exact HI0.out | apply IsS105.alloc | apply IsS105.drewN | apply IsS105.drew | apply IsS105.set_0 | apply IsS105.set_1 | apply IsS105.set_2) | exact HI0.out), by repeat (first | (with_reducible first | exact HB.out | apply below_alloc | apply pw_below_drewN | apply below_drew1 | refine below_set ?_ (IsS105.ge HI0.out)) | exact HB.out), by repeat (first | (with_reducible first | exact HK.out | apply KeepBut.set_ | apply keep_drewN | apply keep_drew | apply keep_alloc) | exact HK.out)⟩
   ·
    rw [if_neg c7] at H
    have c7b0 : decide (t424 < a2) = false := decide_eq_false c7
    clear c7
    replace H := Option.bind_eq_some_iff.mp H
    obtain ⟨⟨t431, t432, t433, t434⟩, A120, H⟩ := H
    replace H : (some (t431, t432, t433, t434)) = some (r1, r2, r3, r4) := H
    have A12 := Aside0.mk A120
    clear A120
    simp only [Option.some.injEq, Prod.mk.injEq] at H
    obtain ⟨rfl, rfl, rfl, rfl⟩ := H
    obtain ⟨HGz13, hgz13⟩ := HI0.out
    have hcz13_0 := cellS105_0 HGz13
    have hcz13_1 := cellS105_1 HGz13
    have hcz13_2 := cellS105_2 HGz13
    have hfz13_0 := blk_frozen HGz13 0
    have hfz13_1 := blk_frozen HGz13 1
    have hfz13_2 := blk_frozen HGz13 2
    clear HGz13 hgz13
    go_enter Try.func96, Try.ntmps96
    go_wp2_with (first | ((with_reducible refine gate_callee (f := 105) rfl ?_); refine goesL_ (some 24) rfl rfl Try.func105 (by kernel_rfl) rfl #[.pointer (some ⟨g, 0, none⟩)] rfl am_ ?_; (with_reducible refine (bitio_Reader_Left.calls g s0_0 s0_1 s0_2 t424 t425 t426 t427 w0 _ ?side1 ?side2 A6.out).mono ?_); (case side1 => repeat (first | (with_reducible first | exact HI0.out | apply IsS105.alloc | apply IsS105.drewN | apply IsS105.drew | apply IsS105.set_0 | apply IsS105.set_1 | apply IsS105.set_2) | exact HI0.out)); (case side2 => repeat (first | (with_reducible first | exact HB.out | apply below_alloc | apply pw_below_drewN | apply below_drew1 | refine below_set ?_ (IsS105.ge HI0.out)) | exact HB.out)); rintro e w14 ⟨rfl, hi, hb, hk⟩; refine ⟨_, rfl, ?_⟩; have n0_ := Aside0.mk (KeepBut.trans (by repeat (first | (with_reducible first | exact HK.out | apply KeepBut.set_ | apply keep_drewN | apply keep_drew | apply keep_alloc) | exact HK.out)) hk (.inl rfl)); have n1_ := Aside0.mk (hb); have n2_ := Aside0.mk (hi); clear HK; clear HB; clear HI0; have HK := n0_; have HB := n1_; have HI0 := n2_; clear n0_ n1_ n2_; (try clear hb); (try clear hb2); (try clear hk); (try clear hi)) | ((with_reducible refine gate_callee (f := 106) rfl ?_); refine goesL_ (some 9) rfl rfl Try.func106 (by kernel_rfl) rfl #[.pointer (some ⟨g, 0, none⟩), .int .i64 a2] rfl am_ ?_; (with_reducible refine (bitio_Reader_get.calls k g t425 t426 t427 a2 t431 t432 t433 t434 w0 _ ?side1 ?side2 A12.out).mono ?_); (case side1 => repeat (first | (with_reducible first | exact HI0.out | apply IsS105.alloc | apply IsS105.drewN | apply IsS105.drew | apply IsS105.set_0 | apply IsS105.set_1 | apply IsS105.set_2) | exact HI0.out)); (case side2 => repeat (first | (with_reducible first | exact HB.out | apply below_alloc | apply pw_below_drewN | apply below_drew1 | refine below_set ?_ (IsS105.ge HI0.out)) | exact HB.out)); rintro e w15 ⟨rfl, hi, hb, hk⟩; refine ⟨_, rfl, ?_⟩; have n0_ := Aside0.mk (KeepBut.trans (by repeat (first | (with_reducible first | exact HK.out | apply KeepBut.set_ | apply keep_drewN | apply keep_drew | apply keep_alloc) | exact HK.out)) hk (.inl rfl)); have n1_ := Aside0.mk (hb); have n2_ := Aside0.mk (hi); clear HK; clear HB; clear HI0; have HK := n0_; have HB := n1_; have HI0 := n2_; clear n0_ n1_ n2_; (try clear hb); (try clear hb2); (try clear hk); (try clear hi)))
    go_ret
    exact ⟨er_, by repeat (first | (with_reducible first | exact HI0.out | apply IsS105.alloc | apply IsS105.drewN | apply IsS105.drew | apply IsS105.set_0 | apply IsS105.set_1 | apply IsS105.set_2) | exact HI0.out), by repeat (first | (with_reducible first | exact HB.out | apply below_alloc | apply pw_below_drewN | apply below_drew1 | refine below_set ?_ (IsS105.ge HI0.out)) | exact HB.out), by repeat (first | (with_reducible first | exact HK.out | apply KeepBut.set_ | apply keep_drewN | apply keep_drew | apply keep_alloc) | exact HK.out)⟩
  ·
   replace c5 := Bool.eq_false_iff.mpr c5
   subst c5
   have H1 : ((bitio_Reader_fail.f s0_0 s0_1 s0_2 1).bind fun bt435 => (some (0, bt435.1, bt435.2.1, bt435.2.2))) = some (r1, r2, r3, r4) := by rw [if_neg (show ¬ (false = true) by decide)] at H; exact H
   clear H
   have H := H1
   clear H1
   replace H := Option.bind_eq_some_iff.mp H
   obtain ⟨⟨t435, t436, t437⟩, A160, H⟩ := H
   replace H : (some (0, t435, t436, t437)) = some (r1, r2, r3, r4) := H
   have A16 := Aside0.mk A160
   clear A160
   simp only [Option.some.injEq, Prod.mk.injEq] at H
   obtain ⟨rfl, rfl, rfl, rfl⟩ := H
   obtain ⟨HGz17, hgz17⟩ := HI0.out
   have hcz17_0 := cellS105_0 HGz17
   have hcz17_1 := cellS105_1 HGz17
   have hcz17_2 := cellS105_2 HGz17
   have hfz17_0 := blk_frozen HGz17 0
   have hfz17_1 := blk_frozen HGz17 1
   have hfz17_2 := blk_frozen HGz17 2
   clear HGz17 hgz17
   go_enter Try.func96, Try.ntmps96
   go_wp2_with (first | ((with_reducible refine gate_callee (f := 104) rfl ?_); refine goesL_ (some 20) rfl rfl Try.func104 (by kernel_rfl) rfl #[.pointer (some ⟨g, 0, none⟩), .int .i64 1] rfl am_ ?_; (with_reducible refine (bitio_Reader_fail.calls g s0_0 s0_1 s0_2 1 t435 t436 t437 w0 _ ?side1 ?side2 A16.out).mono ?_); (case side1 => repeat (first | (with_reducible first | exact HI0.out | apply IsS105.alloc | apply IsS105.drewN | apply IsS105.drew | apply IsS105.set_0 | apply IsS105.set_1 | apply IsS105.set_2) | exact HI0.out)); (case side2 => repeat (first | (with_reducible first | exact HB.out | apply below_alloc | apply pw_below_drewN | apply below_drew1 | refine below_set ?_ (IsS105.ge HI0.out)) | exact HB.out)); rintro e w18 ⟨rfl, hi, hb, hk⟩; refine ⟨_, rfl, ?_⟩; have n0_ := Aside0.mk (KeepBut.trans (by repeat (first | (with_reducible first | exact HK.out | apply KeepBut.set_ | apply keep_drewN | apply keep_drew | apply keep_alloc) | exact HK.out)) hk (.inl rfl)); have n1_ := Aside0.mk (hb); have n2_ := Aside0.mk (hi); clear HK; clear HB; clear HI0; have HK := n0_; have HB := n1_; have HI0 := n2_; clear n0_ n1_ n2_; (try clear hb); (try clear hb2); (try clear hk); (try clear hi)))
   go_ret
   exact ⟨er_, by repeat (first | (with_reducible first | exact HI0.out | apply IsS105.alloc | apply IsS105.drewN | apply IsS105.drew | apply IsS105.set_0 | apply IsS105.set_1 | apply IsS105.set_2) | exact HI0.out), by repeat (first | (with_reducible first | exact HB.out | apply below_alloc | apply pw_below_drewN | apply below_drew1 | refine below_set ?_ (IsS105.ge HI0.out)) | exact HB.out), by repeat (first | (with_reducible first | exact HK.out | apply KeepBut.set_ | apply keep_drewN | apply keep_drew | apply keep_alloc) | exact HK.out)⟩
 ·
  rw [if_neg c4] at H
  have c4b0 : (s0_2 == 0) = false := beq_eq_false_iff_ne.mpr c4
  have c4b1 : (s0_2 != 0) = true := bne_iff_ne.mpr c4
  simp only [Option.some.injEq, Prod.mk.injEq] at H
  obtain ⟨rfl, rfl, rfl, rfl⟩ := H
  obtain ⟨HGz19, hgz19⟩ := HI0.out
  have hcz19_0 := cellS105_0 HGz19
  have hcz19_1 := cellS105_1 HGz19
  have hcz19_2 := cellS105_2 HGz19
  have hfz19_0 := blk_frozen HGz19 0
  have hfz19_1 := blk_frozen HGz19 1
  have hfz19_2 := blk_frozen HGz19 2
  clear HGz19 hgz19
  go_enter Try.func96, Try.ntmps96
  go_wp2
  go_ret
  exact ⟨er_, by repeat (first | (with_reducible first | exact HI0.out | apply IsS105.alloc | apply IsS105.drewN | apply IsS105.drew | apply IsS105.set_0 | apply IsS105.set_1 | apply IsS105.set_2) | exact HI0.out), by repeat (first | (with_reducible first | exact HB.out | apply below_alloc | apply pw_below_drewN | apply below_drew1 | refine below_set ?_ (IsS105.ge HI0.out)) | exact HB.out), by repeat (first | (with_reducible first | exact HK.out | apply KeepBut.set_ | apply keep_drewN | apply keep_drew | apply keep_alloc) | exact HK.out)⟩

/-! ### bitio_Reader_Flag: function 76 -/
def bitio_Reader_Flag.f (k : Nat) (s0_0 : ByteArray) (s0_1 : Int) (s0_2 : Int) : Option (Bool × ByteArray × Int × Int) := (bitio_Reader_field.f k s0_0 s0_1 s0_2 true 1).bind fun bt438 => (some ((bt438.1 == 1), bt438.2.1, bt438.2.2.1, bt438.2.2.2))
theorem bitio_Reader_Flag.mono : ∀ a0 a1 a2 k, LeO (bitio_Reader_Flag.f k a0 a1 a2) (bitio_Reader_Flag.f (k + 1) a0 a1 a2) := by
 intro a0 a1 a2 k
 unfold bitio_Reader_Flag.f
 repeat' first
   | (with_reducible exact bitio_Reader_field.mono _ _ _ _ _ _)
   | (with_reducible exact LeO.refl _)
   | (with_reducible exact LeO.none _)
   | (with_reducible refine LeO.ite ?_ ?_)
   | (with_reducible refine LeO.bind ?_ (fun _ => ?_))
   | exact bitio_Reader_field.mono _ _ _ _ _ _
   | exact LeO.none _
   | refine LeO.ite ?_ ?_
   | refine LeO.bind ?_ (fun _ => ?_)
set_option maxHeartbeats 8000000 in
set_option maxRecDepth 100000 in
theorem bitio_Reader_Flag.calls (k : Nat) (g : Nat) (s0_0 : ByteArray) (s0_1 : Int) (s0_2 : Int) (r1 : Bool) (r2 : ByteArray) (r3 : Int) (r4 : Int) (w0 w : World) (hI : IsS105 w0 w g s0_0 s0_1 s0_2) (hB : Below w0.heap.size w0 w) (h : bitio_Reader_Flag.f k s0_0 s0_1 s0_2 = some (r1, r2, r3, r4)) :
  Calls Try.prog 76 #[.pointer (some ⟨g, 0, none⟩)] w fun e w' => e = .returned (.bool r1) ∧ IsS105 w0 w' g r2 r3 r4 ∧ Below w0.heap.size w0 w' ∧ KeepBut w w' g none := by
 have HI0 := Aside0.mk hI
 have HK := Aside0.mk (KeepBut.refl w g none)
 have HL := Aside0.mk hB.size
 clear hI
 have HW0 := Aside0.mk hB.size
 have HB := Aside0.mk hB
 clear hB
 have H : ((bitio_Reader_field.f k s0_0 s0_1 s0_2 true 1).bind fun bt438 => (some ((bt438.1 == 1), bt438.2.1, bt438.2.2.1, bt438.2.2.2))) = some (r1, r2, r3, r4) := h
 clear h
 replace H := Option.bind_eq_some_iff.mp H
 obtain ⟨⟨t438, t439, t440, t441⟩, A20, H⟩ := H
 replace H : (some ((t438 == 1), t439, t440, t441)) = some (r1, r2, r3, r4) := H
 have A2 := Aside0.mk A20
 clear A20
 simp only [Option.some.injEq, Prod.mk.injEq] at H
 obtain ⟨rfl, rfl, rfl, rfl⟩ := H
 go_enter Try.func76, Try.ntmps76
 go_wp2_with (first | ((with_reducible refine gate_callee (f := 96) rfl ?_); refine goesL_ (some 4) rfl rfl Try.func96 (by kernel_rfl) rfl #[.pointer (some ⟨g, 0, none⟩), .bool true, .int .i64 1] rfl am_ ?_; (with_reducible refine (bitio_Reader_field.calls k g s0_0 s0_1 s0_2 true 1 t438 t439 t440 t441 w0 _ ?side1 ?side2 A2.out).mono ?_); (case side1 => repeat (first | (with_reducible first | exact HI0.out | apply IsS105.alloc | apply IsS105.drewN | apply IsS105.drew | apply IsS105.set_0 | apply IsS105.set_1 | apply IsS105.set_2) | exact HI0.out)); (case side2 => repeat (first | (with_reducible first | exact HB.out | apply below_alloc | apply pw_below_drewN | apply below_drew1 | refine below_set ?_ (IsS105.ge HI0.out)) | exact HB.out)); rintro e w3 ⟨rfl, hi, hb, hk⟩; refine ⟨_, rfl, ?_⟩; have n0_ := Aside0.mk (KeepBut.trans (by repeat (first | (with_reducible first | exact HK.out | apply KeepBut.set_ | apply keep_drewN | apply keep_drew | apply keep_alloc) | exact HK.out)) hk (.inl rfl)); have n1_ := Aside0.mk (hb); have n2_ := Aside0.mk (hi); clear HK; clear HB; clear HI0; have HK := n0_; have HB := n1_; have HI0 := n2_; clear n0_ n1_ n2_; (try clear hb); (try clear hb2); (try clear hk); (try clear hi)))
 go_ret
 exact ⟨er_, by repeat (first | (with_reducible first | exact HI0.out | apply IsS105.alloc | apply IsS105.drewN | apply IsS105.drew | apply IsS105.set_0 | apply IsS105.set_1 | apply IsS105.set_2) | exact HI0.out), by repeat (first | (with_reducible first | exact HB.out | apply below_alloc | apply pw_below_drewN | apply below_drew1 | refine below_set ?_ (IsS105.ge HI0.out)) | exact HB.out), by repeat (first | (with_reducible first | exact HK.out | apply KeepBut.set_ | apply keep_drewN | apply keep_drew | apply keep_alloc) | exact HK.out)⟩

/-! ### bitio_Reader_Unsigned: function 77 -/
def bitio_Reader_Unsigned.f (k : Nat) (s0_0 : ByteArray) (s0_1 : Int) (s0_2 : Int) (a1 : Int) : Option (Int × ByteArray × Int × Int) := if a1 ≥ 1 then ((bitio_Reader_field.f k s0_0 s0_1 s0_2 (decide (a1 ≤ 63)) a1).bind fun bt442 => (some (wrap64 (bt442.1), bt442.2.1, bt442.2.2.1, bt442.2.2.2))) else ((bitio_Reader_field.f k s0_0 s0_1 s0_2 false a1).bind fun bt446 => (some (wrap64 (bt446.1), bt446.2.1, bt446.2.2.1, bt446.2.2.2)))
theorem bitio_Reader_Unsigned.mono : ∀ a0 a1 a2 a3 k, LeO (bitio_Reader_Unsigned.f k a0 a1 a2 a3) (bitio_Reader_Unsigned.f (k + 1) a0 a1 a2 a3) := by
 intro a0 a1 a2 a3 k
 unfold bitio_Reader_Unsigned.f
 repeat' first
   | (with_reducible exact bitio_Reader_field.mono _ _ _ _ _ _)
   | (with_reducible exact LeO.refl _)
   | (with_reducible exact LeO.none _)
   | (with_reducible refine LeO.ite ?_ ?_)
   | (with_reducible refine LeO.bind ?_ (fun _ => ?_))
   | exact bitio_Reader_field.mono _ _ _ _ _ _
   | exact LeO.none _
   | refine LeO.ite ?_ ?_
   | refine LeO.bind ?_ (fun _ => ?_)
set_option maxHeartbeats 8000000 in
set_option maxRecDepth 100000 in
theorem bitio_Reader_Unsigned.calls (k : Nat) (g : Nat) (s0_0 : ByteArray) (s0_1 : Int) (s0_2 : Int) (a1 : Int) (r1 : Int) (r2 : ByteArray) (r3 : Int) (r4 : Int) (w0 w : World) (hI : IsS105 w0 w g s0_0 s0_1 s0_2) (hB : Below w0.heap.size w0 w) (h : bitio_Reader_Unsigned.f k s0_0 s0_1 s0_2 a1 = some (r1, r2, r3, r4)) :
  Calls Try.prog 77 #[.pointer (some ⟨g, 0, none⟩), .int .i64 a1] w fun e w' => e = .returned (.int .i64 r1) ∧ IsS105 w0 w' g r2 r3 r4 ∧ Below w0.heap.size w0 w' ∧ KeepBut w w' g none := by
 have HI0 := Aside0.mk hI
 have HK := Aside0.mk (KeepBut.refl w g none)
 have HL := Aside0.mk hB.size
 clear hI
 have HW0 := Aside0.mk hB.size
 have HB := Aside0.mk hB
 clear hB
 have H : (if a1 ≥ 1 then ((bitio_Reader_field.f k s0_0 s0_1 s0_2 (decide (a1 ≤ 63)) a1).bind fun bt442 => (some (wrap64 (bt442.1), bt442.2.1, bt442.2.2.1, bt442.2.2.2))) else ((bitio_Reader_field.f k s0_0 s0_1 s0_2 false a1).bind fun bt446 => (some (wrap64 (bt446.1), bt446.2.1, bt446.2.2.1, bt446.2.2.2)))) = some (r1, r2, r3, r4) := h
 clear h
 by_cases c3 : a1 ≥ 1
 ·
  rw [if_pos c3] at H
  have c3b0 : decide (1 ≤ a1) = true := decide_eq_true c3
  clear c3
  replace H := Option.bind_eq_some_iff.mp H
  obtain ⟨⟨t442, t443, t444, t445⟩, A40, H⟩ := H
  replace H : (some (wrap64 (t442), t443, t444, t445)) = some (r1, r2, r3, r4) := H
  have A4 := Aside0.mk A40
  clear A40
  simp only [Option.some.injEq, Prod.mk.injEq] at H
  obtain ⟨rfl, rfl, rfl, rfl⟩ := H
  go_enter Try.func77, Try.ntmps77
  go_wp2_with (first | ((with_reducible refine gate_callee (f := 96) rfl ?_); refine goesL_ (some 13) rfl rfl Try.func96 (by kernel_rfl) rfl #[.pointer (some ⟨g, 0, none⟩), .bool (decide (a1 ≤ 63)), .int .i64 a1] rfl am_ ?_; (with_reducible refine (bitio_Reader_field.calls k g s0_0 s0_1 s0_2 (decide (a1 ≤ 63)) a1 t442 t443 t444 t445 w0 _ ?side1 ?side2 A4.out).mono ?_); (case side1 => repeat (first | (with_reducible first | exact HI0.out | apply IsS105.alloc | apply IsS105.drewN | apply IsS105.drew | apply IsS105.set_0 | apply IsS105.set_1 | apply IsS105.set_2) | exact HI0.out)); (case side2 => repeat (first | (with_reducible first | exact HB.out | apply below_alloc | apply pw_below_drewN | apply below_drew1 | refine below_set ?_ (IsS105.ge HI0.out)) | exact HB.out)); rintro e w5 ⟨rfl, hi, hb, hk⟩; refine ⟨_, rfl, ?_⟩; have n0_ := Aside0.mk (KeepBut.trans (by repeat (first | (with_reducible first | exact HK.out | apply KeepBut.set_ | apply keep_drewN | apply keep_drew | apply keep_alloc) | exact HK.out)) hk (.inl rfl)); have n1_ := Aside0.mk (hb); have n2_ := Aside0.mk (hi); clear HK; clear HB; clear HI0; have HK := n0_; have HB := n1_; have HI0 := n2_; clear n0_ n1_ n2_; (try clear hb); (try clear hb2); (try clear hk); (try clear hi)))
  go_ret
  exact ⟨er_, by repeat (first | (with_reducible first | exact HI0.out | apply IsS105.alloc | apply IsS105.drewN | apply IsS105.drew | apply IsS105.set_0 | apply IsS105.set_1 | apply IsS105.set_2) | exact HI0.out), by repeat (first | (with_reducible first | exact HB.out | apply below_alloc | apply pw_below_drewN | apply below_drew1 | refine below_set ?_ (IsS105.ge HI0.out)) | exact HB.out), by repeat (first | (with_reducible first | exact HK.out | apply KeepBut.set_ | apply keep_drewN | apply keep_drew | apply keep_alloc) | exact HK.out)⟩
 ·
  rw [if_neg c3] at H
  have c3b0 : decide (1 ≤ a1) = false := decide_eq_false c3
  clear c3
  replace H := Option.bind_eq_some_iff.mp H
  obtain ⟨⟨t446, t447, t448, t449⟩, A60, H⟩ := H
  replace H : (some (wrap64 (t446), t447, t448, t449)) = some (r1, r2, r3, r4) := H
  have A6 := Aside0.mk A60
  clear A60
  simp only [Option.some.injEq, Prod.mk.injEq] at H
  obtain ⟨rfl, rfl, rfl, rfl⟩ := H
  go_enter Try.func77, Try.ntmps77
  go_wp2_with (first | ((with_reducible refine gate_callee (f := 96) rfl ?_); refine goesL_ (some 13) rfl rfl Try.func96 (by kernel_rfl) rfl #[.pointer (some ⟨g, 0, none⟩), .bool false, .int .i64 a1] rfl am_ ?_; (with_reducible refine (bitio_Reader_field.calls k g s0_0 s0_1 s0_2 false a1 t446 t447 t448 t449 w0 _ ?side1 ?side2 A6.out).mono ?_); (case side1 => repeat (first | (with_reducible first | exact HI0.out | apply IsS105.alloc | apply IsS105.drewN | apply IsS105.drew | apply IsS105.set_0 | apply IsS105.set_1 | apply IsS105.set_2) | exact HI0.out)); (case side2 => repeat (first | (with_reducible first | exact HB.out | apply below_alloc | apply pw_below_drewN | apply below_drew1 | refine below_set ?_ (IsS105.ge HI0.out)) | exact HB.out)); rintro e w7 ⟨rfl, hi, hb, hk⟩; refine ⟨_, rfl, ?_⟩; have n0_ := Aside0.mk (KeepBut.trans (by repeat (first | (with_reducible first | exact HK.out | apply KeepBut.set_ | apply keep_drewN | apply keep_drew | apply keep_alloc) | exact HK.out)) hk (.inl rfl)); have n1_ := Aside0.mk (hb); have n2_ := Aside0.mk (hi); clear HK; clear HB; clear HI0; have HK := n0_; have HB := n1_; have HI0 := n2_; clear n0_ n1_ n2_; (try clear hb); (try clear hb2); (try clear hk); (try clear hi)))
  go_ret
  exact ⟨er_, by repeat (first | (with_reducible first | exact HI0.out | apply IsS105.alloc | apply IsS105.drewN | apply IsS105.drew | apply IsS105.set_0 | apply IsS105.set_1 | apply IsS105.set_2) | exact HI0.out), by repeat (first | (with_reducible first | exact HB.out | apply below_alloc | apply pw_below_drewN | apply below_drew1 | refine below_set ?_ (IsS105.ge HI0.out)) | exact HB.out), by repeat (first | (with_reducible first | exact HK.out | apply KeepBut.set_ | apply keep_drewN | apply keep_drew | apply keep_alloc) | exact HK.out)⟩

/-! ### bitio_Reader_Err: function 80 -/
def bitio_Reader_Err.f (s0_0 : ByteArray) (s0_1 : Int) (s0_2 : Int) : Option (Int × ByteArray × Int × Int) := some (s0_2, s0_0, s0_1, s0_2)
set_option maxHeartbeats 8000000 in
set_option maxRecDepth 100000 in
theorem bitio_Reader_Err.calls (g : Nat) (s0_0 : ByteArray) (s0_1 : Int) (s0_2 : Int) (r1 : Int) (r2 : ByteArray) (r3 : Int) (r4 : Int) (w0 w : World) (hI : IsS105 w0 w g s0_0 s0_1 s0_2) (hB : Below w0.heap.size w0 w) (h : bitio_Reader_Err.f s0_0 s0_1 s0_2 = some (r1, r2, r3, r4)) :
  Calls Try.prog 80 #[.pointer (some ⟨g, 0, none⟩)] w fun e w' => e = .returned (.int .i64 r1) ∧ IsS105 w0 w' g r2 r3 r4 ∧ Below w0.heap.size w0 w' ∧ KeepBut w w' g none := by
 have HI0 := Aside0.mk hI
 have HK := Aside0.mk (KeepBut.refl w g none)
 have HL := Aside0.mk hB.size
 clear hI
 have HW0 := Aside0.mk hB.size
 have HB := Aside0.mk hB
 clear hB
 have H : (some (s0_2, s0_0, s0_1, s0_2)) = some (r1, r2, r3, r4) := h
 clear h
 simp only [Option.some.injEq, Prod.mk.injEq] at H
 obtain ⟨rfl, rfl, rfl, rfl⟩ := H
 obtain ⟨HGz2, hgz2⟩ := HI0.out
 have hcz2_0 := cellS105_0 HGz2
 have hcz2_1 := cellS105_1 HGz2
 have hcz2_2 := cellS105_2 HGz2
 have hfz2_0 := blk_frozen HGz2 0
 have hfz2_1 := blk_frozen HGz2 1
 have hfz2_2 := blk_frozen HGz2 2
 clear HGz2 hgz2
 go_enter Try.func80, Try.ntmps80
 go_wp2
 go_ret
 exact ⟨er_, by repeat (first | (with_reducible first | exact HI0.out | apply IsS105.alloc | apply IsS105.drewN | apply IsS105.drew | apply IsS105.set_0 | apply IsS105.set_1 | apply IsS105.set_2) | exact HI0.out), by repeat (first | (with_reducible first | exact HB.out | apply below_alloc | apply pw_below_drewN | apply below_drew1 | refine below_set ?_ (IsS105.ge HI0.out)) | exact HB.out), by repeat (first | (with_reducible first | exact HK.out | apply KeepBut.set_ | apply keep_drewN | apply keep_drew | apply keep_alloc) | exact HK.out)⟩

/-! ### bitio_NewReader: function 45 -/
def bitio_NewReader.f (a0 : ByteArray) : Option (ByteArray × Int × Int) := if (a0.size : Int) > 65536 then (some ((⟨#[]⟩ : ByteArray), 0, 8)) else (some (a0, 0, 0))
set_option maxHeartbeats 8000000 in
set_option maxRecDepth 100000 in
theorem bitio_NewReader.calls (a0 : ByteArray) (r1 : ByteArray) (r2 : Int) (r3 : Int) (w0 w : World) (hB : Below w0.heap.size w0 w) (h : bitio_NewReader.f a0 = some (r1, r2, r3)) :
  Calls Try.prog 45 #[.string a0] w fun e w' => ∃ g_ : Nat, e = .returned (.pointer (some ⟨g_, 0, none⟩)) ∧ IsS105 w0 w' g_ r1 r2 r3 ∧ Below w0.heap.size w0 w' ∧ Below w.heap.size w w' := by
 have hu105 := Try.underlying105
 have HBW := Aside0.mk (Below.refl w.heap.size w)
 have HW0 := Aside0.mk hB.size
 have HB := Aside0.mk hB
 clear hB
 have H : (if (a0.size : Int) > 65536 then (some ((⟨#[]⟩ : ByteArray), 0, 8)) else (some (a0, 0, 0))) = some (r1, r2, r3) := h
 clear h
 by_cases c2 : (a0.size : Int) > 65536
 ·
  rw [if_pos c2] at H
  have c2b0 : decide (65536 < (a0.size : Int)) = true := decide_eq_true c2
  have c2b1 : decide (65536 < a0.size) = true := decide_eq_true (by omega)
  clear c2
  simp only [Option.some.injEq, Prod.mk.injEq] at H
  obtain ⟨rfl, rfl, rfl⟩ := H
  go_enter Try.func45, Try.ntmps45
  go_wp2_with (first | ((with_reducible refine gate_dst (N := 7) rfl ?_); refine bx_ 7 #[.string (⟨#[]⟩ : ByteArray), .int .i64 0, .int .i64 8] 105 ?_; intro gb555 hg w3 hbox hb; have n0_ := Aside0.mk (below_step HBW.out hb); have n1_ := Aside0.mk (below_step hb_ hb); have n2_ := Aside0.mk (hbox); have n3_ := Aside0.mk ((by rw [hg]; exact (below_size (by repeat (first | (with_reducible first | exact HBW.out | apply below_alloc | apply pw_below_drewN | apply below_drew1) | exact HBW.out))) : w.heap.size ≤ gb555)); have n4_ := Aside0.mk ((Nat.le_trans HW0.out (by rw [hg]; exact (below_size (by repeat (first | (with_reducible first | exact HBW.out | apply below_alloc | apply pw_below_drewN | apply below_drew1) | exact HBW.out))) : w.heap.size ≤ gb555) : w0.heap.size ≤ gb555)); clear HBW; clear HB; have HBW := n0_; have HB := n1_; have BK555 := n2_; have GW555 := n3_; have GE555 := n4_; clear n0_ n1_ n2_ n3_ n4_; clear hb hbox hg))
  go_ret
  exact ⟨_, rfl, (show IsS105 w0 _ gb555 (⟨#[]⟩ : ByteArray) 0 8 from ⟨bj_ BK555, GE555.out⟩), hb_, by repeat (first | (with_reducible first | exact HBW.out | apply below_alloc | apply pw_below_drewN | apply below_drew1 | refine below_set ?_ GW555.out) | exact HBW.out)⟩
 ·
  rw [if_neg c2] at H
  have c2b0 : decide (65536 < (a0.size : Int)) = false := decide_eq_false c2
  have c2b1 : decide (65536 < a0.size) = false := decide_eq_false (by omega)
  clear c2
  simp only [Option.some.injEq, Prod.mk.injEq] at H
  obtain ⟨rfl, rfl, rfl⟩ := H
  go_enter Try.func45, Try.ntmps45
  go_wp2_with (first | ((with_reducible refine gate_dst (N := 10) rfl ?_); refine bx_ 10 #[.string a0, .int .i64 0, .int .i64 0] 105 ?_; intro gb556 hg w4 hbox hb; have n0_ := Aside0.mk (below_step HBW.out hb); have n1_ := Aside0.mk (below_step hb_ hb); have n2_ := Aside0.mk (hbox); have n3_ := Aside0.mk ((by rw [hg]; exact (below_size (by repeat (first | (with_reducible first | exact HBW.out | apply below_alloc | apply pw_below_drewN | apply below_drew1) | exact HBW.out))) : w.heap.size ≤ gb556)); have n4_ := Aside0.mk ((Nat.le_trans HW0.out (by rw [hg]; exact (below_size (by repeat (first | (with_reducible first | exact HBW.out | apply below_alloc | apply pw_below_drewN | apply below_drew1) | exact HBW.out))) : w.heap.size ≤ gb556) : w0.heap.size ≤ gb556)); clear HBW; clear HB; have HBW := n0_; have HB := n1_; have BK556 := n2_; have GW556 := n3_; have GE556 := n4_; clear n0_ n1_ n2_ n3_ n4_; clear hb hbox hg))
  go_ret
  exact ⟨_, rfl, (show IsS105 w0 _ gb556 a0 0 0 from ⟨bj_ BK556, GE556.out⟩), hb_, by repeat (first | (with_reducible first | exact HBW.out | apply below_alloc | apply pw_below_drewN | apply below_drew1 | refine below_set ?_ GW556.out) | exact HBW.out)⟩

end Go.Proofs.Ytmbbijhppgkdfaa.P14

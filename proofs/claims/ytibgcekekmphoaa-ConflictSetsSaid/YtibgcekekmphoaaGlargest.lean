/- conflict.Largest: what it answers: its closure extends good sets, one link more at a time, and keeps the first of the longest. -/
import Derived.Test.YtibgcekekmphoaaGclone
import Derived.Test.YtibgcekekmphoaaP34N
import Derived.Test.YtibgcekekmphoaaP34B
import Derived.Test.YtibgcekekmphoaaP34Lc
import Derived.Deep.RegionHeld3
import Derived.Laws.EntriesVeiled
import Derived.Test.YtibgcekekmphoaaP340
import Derived.Lib.SliceRun
namespace Go.Proofs.Ytibgcekekmphoaa.P34
open Go.RowKit Go.Proofs.YtibgcekekmphoaaW.PrintWords Go.Proofs.YtibgcekekmphoaaW.PrintLast Go.Proofs.YtibgcekekmphoaaW.PrintMore
attribute [local go_sem] max2_int min2_int max_two min_two max_three min_three max_four min_four
set_option linter.unusedVariables false
set_option linter.unusedSimpArgs false

def slices_Clone_53.f (l : List Int) : Option (List Int) := if l.length < 17592186044416 then some l else none
set_option maxRecDepth 100000 in
theorem slices_Clone_53.calls (A : Option Addr) (c : Nat) (l r : List Int) (w : World) (hr : Kd.C (Kd.int .i64) w A l.length l) (hc : l.length ≤ c) (h : slices_Clone_53.f l = some r) :
    Calls Try.prog 53 #[.slice A l.length c] w fun e w' => ∃ v, e = .returned v ∧ Kd.R (Kd.int .i64) 3 w' w.heap.size (fun _ => True) v r ∧ Below w.heap.size w w' := by
  unfold slices_Clone_53.f at h
  split at h
  case isFalse => cases h
  rename_i hlt
  obtain rfl := Option.some.inj h
  clear h
  have q24 : ∀ (w : World) (a : Option Addr) (n c n' c' : Nat), (binOp .eql 24 (.slice a n c) (.slice none n' c')).run Try.prog w = .ok (.bool a.isNone) w := fun w a n c n' c' => Lib.run_eql_slice_nil w _ _ a n c n' c' Try.underlying24
  have HB := Aside0.mk (Below.refl w.heap.size w)
  cases A with
  | none =>
    have hl : l = [] := by
      cases hl : l with
      | nil => rfl
      | cons x xs =>
        obtain ⟨ad, e, _⟩ := Kd.at_int hr 0 (by omega) (by rw [hl]; simp)
        cases e
    subst hl
    clear hr hc hlt
    go_enter Try.func53, Try.ntmps53
    go_wp2
    go_ret
    exact ⟨_, rfl, Kd.R_nil _ _ _ _ _, HB.out⟩
  | some ad =>
    have HR := Aside0.mk hr
    have HL := Aside0.mk hlt
    clear hr hlt
    go_enter Try.func53, Try.ntmps53
    go_wp2_with (first | ((with_reducible refine gate_dst (N := 5) rfl ?_)
                          refine Kd.R_lit (Kd.int .i64) _ 3 ?hg (N := 5) ?hd (xs := ([] : List Int)) (inner := []) (ok := fun _ => True) (okp := fun _ => True) ?hr ?hp (fun _ hk => hk) trivial (Below.refl _ _) (Nat.le_refl _) (by simp) ?_
                          (case hd => rfl)
                          (case hg => rfl)
                          (case hr => first | (go_simp; done) | (go_simp; rfl))
                          (case hp => exact (Reps.none _ _))
                          intro v1 w1 ho hb hg_ hnew_
                          clear hg_ hnew_
                          have n1_ := Aside0.mk (Kd.R_lower ho (below_size (by repeat (first | (with_reducible first | exact HB.out | apply below_alloc | apply pw_below_drewN | apply below_drew1) | exact HB.out))))
                          have n2_ := Aside0.mk (below_step (by repeat (first | (with_reducible first | exact HB.out | apply below_alloc | apply pw_below_drewN | apply below_drew1) | exact HB.out)) hb)
                          clear HB ho hb
                          have HO := n1_
                          have HB := n2_
                          clear n1_ n2_)
                       | ((with_reducible refine gate_builtin (b := .append) (xs := #[.tmp 5, .tmp 6]) rfl ?_)
                          at_builtin
                          refine Kd.R_append_rows (Kd.int .i64) (w0 := w) w.heap.size rfl (.tmp 5) (.tmp 6) 24 3 (.int .i64 0) 8 rfl Try.underlying24 info3 rfl (by decide) (by omega) v1 [] l _ _ _ (fun _ => True) (fun _ => False) rfl rfl ?aO ?aR (fun _ _ h => h) (fun _ h => h.elim) ?aF ?aB ?aS ?aL ?_
                          (case aR => repeat (first | exact (Kd.C_below HR.out HB.out) | (with_reducible refine Kd.C_alloc ?_ _) | (with_reducible refine Kd.C_drewN ?_ _) | (with_reducible refine Kd.C_drew ?_)))
                          (case aB => exact (by repeat (first | (with_reducible first | exact HB.out | apply below_alloc | apply pw_below_drewN | apply below_drew1) | exact HB.out)))
                          (case aF => exact (fun _ _ => trivial))
                          (case aO => exact (by (with_reducible repeat (first | apply Kd.R_alloc | apply Kd.R_drewN | apply Kd.R_drew)); exact HO.out))
                          (case aS => exact (below_size (by repeat (first | (with_reducible first | exact HB.out | apply below_alloc | apply pw_below_drewN | apply below_drew1) | exact HB.out))))
                          (case aL => have := HL.out; simp; omega)
                          intro v2 w2 ho hb hg hat))
    go_ret
    exact ⟨_, rfl, ho, hb⟩
end Go.Proofs.Ytibgcekekmphoaa.P34
namespace Go.Proofs.Ytibgcekekmphoaa.P34
open Go.RowKit Go.Proofs.YtibgcekekmphoaaW.PrintWords Go.Proofs.YtibgcekekmphoaaW.PrintLast Go.Proofs.YtibgcekekmphoaaW.PrintMore
attribute [local go_sem] max2_int min2_int max_two min_two max_three min_three max_four min_four
set_option linter.unusedVariables false
set_option linter.unusedSimpArgs false

def cellOf (x : S44) : S36 := ⟨0, 0, x.f0, x.f1, 0⟩
def upd (set best : List Int) : List Int := if best.length < set.length then set else best
/-- What the closure finds from the link with index i on; d links are left. -/
def ext (good : List S36 → Option Bool) (l1 : List S44) : Nat → Nat → List Int → List S36 → List Int → Option (List Int)
  | 0, _, _, _, best => some best
  | d + 1, i, set, cells, best => (good (cells ++ [cellOf (rd_T44 l1 (i : Int))])).bind fun g =>
      if g = true then (ext good l1 d (i + 1) (set ++ [(i : Int)]) (cells ++ [cellOf (rd_T44 l1 (i : Int))]) (upd (set ++ [(i : Int)]) best)).bind fun b => ext good l1 d (i + 1) set cells b
      else ext good l1 d (i + 1) set cells best
def conflict_Largest.f (k : Nat) (a0_0 : Int) (l0_1 : List (List Int)) (a0_2 : Int) (a0_3 : Int) (l0_4 : List (S44)) (l0_5 : List Int) (l1 : List S44) : Option (List Int × Int) :=
  (network_Check.f k a0_0 l0_1 a0_2 a0_3 l0_4 l0_5).bind fun ec => if ec = 0 then (if 12 < (l1.length : Int) then some ([], 8) else (ext (conflict_Good.f k a0_0 l0_1 a0_2 a0_3 l0_4 l0_5) l1 l1.length 0 [] [] []).bind fun b => some (b, 0)) else some ([], 1)
/-- The closure begins at index i: behind the last one of its set. -/
def FromOf (set : List Int) (i : Nat) : Prop := (set = [] ∧ i = 0) ∨ ∃ s x, set = s ++ [x] ∧ (i : Int) = x + 1 ∧ 0 ≤ x
theorem fromOf_nil : FromOf [] 0 := Or.inl ⟨rfl, rfl⟩
structure Inv (w : World) (gB gL gN gE : Nat) (a0_0 : Int) (A0_1 : Option Addr) (c0_1 : Nat) (l0_1 : List (List Int)) (a0_2 : Int) (a0_3 : Int) (A0_4 : Option Addr) (c0_4 : Nat) (l0_4 : List (S44)) (A0_5 : Option Addr) (c0_5 : Nat) (l0_5 : List Int) (A1 : Option Addr) (c1 : Nat) (l1 : List S44) (set : List Int) (cells : List S36) (best : List Int) (vs vc vb : Value) (W : World) : Prop where
  below : Below w.heap.size w W
  bN : W.heap[gN]? = some (.cells #[.int .i64 a0_0, .slice A0_1 l0_1.length c0_1, .int .i64 a0_2, .int .i64 a0_3, .slice A0_4 l0_4.length c0_4, .slice A0_5 l0_5.length c0_5] 26 (0, 0))
  bL : W.heap[gL]? = some (.cells #[.slice A1 l1.length c1] 23 (0, 0))
  bE : W.heap[gE]? = some (.cells #[.func (.func 52) #[] #[.pointer (some ⟨gB, 0, none⟩), .pointer (some ⟨gL, 0, none⟩), .pointer (some ⟨gN, 0, none⟩), .pointer (some ⟨gE, 0, none⟩)]] 72 (0, 0))
  bB : W.heap[gB]? = some (.cells #[vb] 24 (0, 0))
  rS : Kd.R (Kd.int .i64) 3 W w.heap.size (fun k => k ≠ gB) vs set
  rC : Kd.R k36 36 W w.heap.size (fun k => k ≠ gB) vc cells
  rB : Kd.R (Kd.int .i64) 3 W w.heap.size (fun k => k ≠ gB) vb best
def ExtPost (w W W' : World) (gB : Nat) (r : List Int) : Prop := ∃ vb, W'.heap[gB]? = some (.cells #[vb] 24 (0, 0)) ∧ Kd.R (Kd.int .i64) 3 W' w.heap.size (fun k => k ≠ gB) vb r ∧ KeepBut W W' gB none ∧ Below w.heap.size w W'
section
variable {w W W' : World} {gB gL gN gE : Nat} {a0_0 : Int} {A0_1 : Option Addr} {c0_1 : Nat} {l0_1 : List (List Int)} {a0_2 : Int} {a0_3 : Int} {A0_4 : Option Addr} {c0_4 : Nat} {l0_4 : List (S44)} {A0_5 : Option Addr} {c0_5 : Nat} {l0_5 : List Int} {A1 : Option Addr} {c1 : Nat} {l1 : List S44} {set : List Int} {cells : List S36} {best r : List Int} {vs vc vb : Value}
theorem Inv.step (h : Inv w gB gL gN gE a0_0 A0_1 c0_1 l0_1 a0_2 a0_3 A0_4 c0_4 l0_4 A0_5 c0_5 l0_5 A1 c1 l1 set cells best vs vc vb W) (hb : Below W.heap.size W W') : Inv w gB gL gN gE a0_0 A0_1 c0_1 l0_1 a0_2 a0_3 A0_4 c0_4 l0_4 A0_5 c0_5 l0_5 A1 c1 l1 set cells best vs vc vb W' :=
  ⟨below_step h.below hb, blk_below h.bN hb, blk_below h.bL hb, blk_below h.bE hb, blk_below h.bB hb, Kd.R_below h.rS hb, Kd.R_below h.rC hb, Kd.R_below h.rB hb⟩
theorem Inv.store (h : Inv w gB gL gN gE a0_0 A0_1 c0_1 l0_1 a0_2 a0_3 A0_4 c0_4 l0_4 A0_5 c0_5 l0_5 A1 c1 l1 set cells best vs vc vb W) (ne : gB ≠ gL ∧ gB ≠ gN ∧ gB ≠ gE ∧ w.heap.size ≤ gB) {v : Value} (hv : Kd.R (Kd.int .i64) 3 W w.heap.size (fun k => k ≠ gB) v r) :
    Inv w gB gL gN gE a0_0 A0_1 c0_1 l0_1 a0_2 a0_3 A0_4 c0_4 l0_4 A0_5 c0_5 l0_5 A1 c1 l1 set cells r vs vc v (W.setCell ⟨gB, 0, none⟩ v) :=
  ⟨below_set h.below ne.2.2.2, blk_far h.bN (Ne.symm ne.2.1) _, blk_far h.bL (Ne.symm ne.1) _, blk_far h.bE (Ne.symm ne.2.2.1) _, blk_set h.bB 0 v, Kd.R_far h.rS (fun _ hk => hk) _, Kd.R_far h.rC (fun _ hk => hk) _, Kd.R_far hv (fun _ hk => hk) _⟩
theorem R_keep {α : Type} {d : Kd α} {e : Nat} {v : Value} {xs : List α} (h : Kd.R d e W w.heap.size (fun k => k ≠ gB) v xs) (hk : KeepBut W W' gB none) : Kd.R d e W' w.heap.size (fun k => k ≠ gB) v xs :=
  Kd.R_step h (fun k ho hlt => hk.2 k hlt ho (by simp))
theorem Inv.post (h : Inv w gB gL gN gE a0_0 A0_1 c0_1 l0_1 a0_2 a0_3 A0_4 c0_4 l0_4 A0_5 c0_5 l0_5 A1 c1 l1 set cells best vs vc vb W) (ne : gB ≠ gL ∧ gB ≠ gN ∧ gB ≠ gE ∧ w.heap.size ≤ gB) (hp : ExtPost w W W' gB r) : ∃ vb', Inv w gB gL gN gE a0_0 A0_1 c0_1 l0_1 a0_2 a0_3 A0_4 c0_4 l0_4 A0_5 c0_5 l0_5 A1 c1 l1 set cells r vs vc vb' W' := by
  obtain ⟨vb', hB, hR, hK, hb⟩ := hp
  exact ⟨vb', hb, hK.blk h.bN (Ne.symm ne.2.1) (by simp), hK.blk h.bL (Ne.symm ne.1) (by simp), hK.blk h.bE (Ne.symm ne.2.2.1) (by simp), hB, R_keep h.rS hK, R_keep h.rC hK, hR⟩
theorem keep_post (hk : KeepBut W W' gB none) (h : Inv w gB gL gN gE a0_0 A0_1 c0_1 l0_1 a0_2 a0_3 A0_4 c0_4 l0_4 A0_5 c0_5 l0_5 A1 c1 l1 set cells best vs vc vb W') : ExtPost w W W' gB best := ⟨vb, h.bB, h.rB, hk, h.below⟩
theorem kb_set (hk : KeepBut W W' gB none) (v : Value) : KeepBut W (W'.setCell ⟨gB, 0, none⟩ v) gB none :=
  ⟨by simpa using hk.1, fun i hi hne hr => by rw [Below.heap_setCell W' ⟨gB, 0, none⟩ v i hne]; exact hk.2 i hi hne hr⟩
theorem kb_step (hk : KeepBut W W' gB none) {W2 : World} (hb : Below W'.heap.size W' W2) : KeepBut W W2 gB none := hk.trans (KeepBut.of_below hb gB none) (Or.inl rfl)
theorem kb_post (hk : KeepBut W W' gB none) {W2 : World} (hp : ExtPost w W' W2 gB r) : KeepBut W W2 gB none := by
  obtain ⟨_, _, _, k, _⟩ := hp
  exact hk.trans k (Or.inl rfl)
theorem cell_calls (x : S44) (w : World) : Calls Try.prog 49 #[.agg #[.int .i64 x.f0, .int .i64 x.f1, .int .i64 x.f2]] w fun e w' => e = .returned (.agg #[.int .i64 0, .int .i64 0, .int .i64 x.f0, .int .i64 x.f1, .int .i64 0]) ∧ Below w.heap.size w w' :=
  conflict_cell.calls _ _ _ _ _ _ _ _ w rfl
theorem lit_cell (x : S44) (w : World) (base : Nat) (ok : Nat → Prop) : Reps (k36.M w base ok) k36.sz [cellOf x] [.int .i64 0, .int .i64 0, .int .i64 x.f0, .int .i64 x.f1, .int .i64 0] := Reps.c5 (k36_mkM w base ok (cellOf x)) (Reps.none _ _)
theorem lit_CI (x : Int) (w : World) : Kd.C (Kd.int .i64) (w.alloc (.cells #[.int .i64 x] 3 (0, 0))) (some ⟨w.heap.size, 0, none⟩) 1 [x] := by
  have h := World.ownsRow_lit (base := 0) (e := 3) (size := 1) w #[.int .i64 x] 1 (Nat.zero_le _) (by decide) rfl
  have hR : Kd.R (Kd.int .i64) 3 (w.alloc (.cells #[.int .i64 x] 3 (0, 0))) 0 (fun _ => True) (.slice (some ⟨w.heap.size, 0, none⟩) 1 1) [x] := ⟨fun _ _ => trivial, _, h, Reps.one rfl (Reps.none _ _)⟩
  obtain ⟨A, c, e, _, hC⟩ := Kd.R_reads hR
  injection e with e1 _ e2
  subst e1
  exact hC
theorem lit_C (x : S44) (w : World) : Kd.C k36 (w.alloc (.cells #[.int .i64 0, .int .i64 0, .int .i64 x.f0, .int .i64 x.f1, .int .i64 0] 36 (0, 0))) (some ⟨w.heap.size, 0, none⟩) 1 [cellOf x] := by
  have h := World.ownsRow_lit (base := 0) (e := 36) (size := 5) w #[.int .i64 0, .int .i64 0, .int .i64 x.f0, .int .i64 x.f1, .int .i64 0] 1 (Nat.zero_le _) (by decide) rfl
  have hR : Kd.R k36 36 (w.alloc (.cells #[.int .i64 0, .int .i64 0, .int .i64 x.f0, .int .i64 x.f1, .int .i64 0] 36 (0, 0))) 0 (fun _ => True) (.slice (some ⟨w.heap.size, 0, none⟩) 1 1) [cellOf x] := ⟨fun _ _ => trivial, _, h, lit_cell x _ _ _⟩
  obtain ⟨A, c, e, _, hC⟩ := Kd.R_reads hR
  injection e with e1 _ e2
  subst e1
  exact hC
theorem belowTo {w1 W1 W2 : World} (_hb : Below W1.heap.size W1 W2) (h : Below w1.heap.size w1 W1) : Below w1.heap.size w1 W1 := h
theorem R_ne {α : Type} {d : Kd α} {e : Nat} {v : Value} {xs : List α} (h : Kd.R d e W' W.heap.size (fun _ => True) v xs) (hlt : gB < W.heap.size) (hw : w.heap.size ≤ W.heap.size) : Kd.R d e W' w.heap.size (fun k => k ≠ gB) v xs :=
  Kd.R_lower (Kd.R_mono (Kd.R_bound h) (fun k hk => by have := hk.2.1; omega)) hw
end

set_option maxRecDepth 100000 in
set_option maxHeartbeats 1600000 in
theorem ext_calls (k : Nat) (a0_0 : Int) (A0_1 : Option Addr) (c0_1 : Nat) (l0_1 : List (List Int)) (a0_2 : Int) (a0_3 : Int) (A0_4 : Option Addr) (c0_4 : Nat) (l0_4 : List (S44)) (A0_5 : Option Addr) (c0_5 : Nat) (l0_5 : List Int) (A1 : Option Addr) (c1 : Nat) (l1 : List S44) (w : World) (hr0_1 : Kd.C (Kd.slice 3 (Kd.int .i64)) w A0_1 l0_1.length l0_1) (hc0_1 : l0_1.length ≤ c0_1) (hr0_4 : Kd.C k44 w A0_4 l0_4.length l0_4) (hc0_4 : l0_4.length ≤ c0_4) (hr0_5 : Kd.C (Kd.int .i64) w A0_5 l0_5.length l0_5) (hc0_5 : l0_5.length ≤ c0_5) (hr1 : Kd.C k44 w A1 l1.length l1) (hc1 : l1.length ≤ c1) (gB gL gN gE : Nat)
    (ne : gB ≠ gL ∧ gB ≠ gN ∧ gB ≠ gE ∧ w.heap.size ≤ gB) (h12 : l1.length ≤ 12) : ∀ (d i : Nat) (set : List Int) (cells : List S36) (best r : List Int) (vs vc vb : Value) (W : World),
    i + d = l1.length → FromOf set i → set.length ≤ i → cells.length = set.length → Inv w gB gL gN gE a0_0 A0_1 c0_1 l0_1 a0_2 a0_3 A0_4 c0_4 l0_4 A0_5 c0_5 l0_5 A1 c1 l1 set cells best vs vc vb W → ext (conflict_Good.f k a0_0 l0_1 a0_2 a0_3 l0_4 l0_5) l1 d i set cells (upd set best) = some r →
    Calls Try.prog 52 #[vs, vc, .pointer (some ⟨gB, 0, none⟩), .pointer (some ⟨gL, 0, none⟩), .pointer (some ⟨gN, 0, none⟩), .pointer (some ⟨gE, 0, none⟩)] W fun e W' => e = .returned (.tuple #[]) ∧ ExtPost w W W' gB r := by
  have HG := Aside0.mk (fun (A : Option Addr) (c : Nat) (cs : List S36) (g : Bool) (W : World) (hb : Below w.heap.size w W) (hC : Kd.C k36 W A cs.length cs) (hc : cs.length ≤ c) (he : conflict_Good.f k a0_0 l0_1 a0_2 a0_3 l0_4 l0_5 cs = some g) => conflict_Good.calls k a0_0 A0_1 c0_1 l0_1 a0_2 a0_3 A0_4 c0_4 l0_4 A0_5 c0_5 l0_5 A c cs g W (Kd.C_below hr0_1 hb) hc0_1 (Kd.C_below hr0_4 hb) hc0_4 (Kd.C_below hr0_5 hb) hc0_5 hC hc he)
  have HK := Aside0.mk (fun (A : Option Addr) (c : Nat) (cs : List S36) (W : World) (hC : Kd.C k36 W A cs.length cs) (hc : cs.length ≤ c) (hl : cs.length < 3518437208883) => api_Cell_26.calls A c cs cs W hC hc (by unfold api_Cell_26.f; rw [if_pos hl]))
  have HI := Aside0.mk (fun (A : Option Addr) (c : Nat) (cs : List Int) (W : World) (hC : Kd.C (Kd.int .i64) W A cs.length cs) (hc : cs.length ≤ c) (hl : cs.length < 17592186044416) => slices_Clone_53.calls A c cs cs W hC hc (by unfold slices_Clone_53.f; rw [if_pos hl]))
  have HL := Aside0.mk hr1
  have NE := Aside0.mk ne
  generalize conflict_Good.f k a0_0 l0_1 a0_2 a0_3 l0_4 l0_5 = good at HG ⊢
  clear hr0_1 hr0_4 hr0_5 hr1 hc0_1 hc0_4 hc0_5 ne
  intro d
  induction d using Nat.strongRecOn with
  | ind d ih =>
  intro i set cells best r vs vc vb W hd hfrom hsl hcl hinv he
  have IH := Aside0.mk ih
  have HF := Aside0.mk hfrom
  have HV := Aside0.mk hinv
  have H := Aside0.mk he
  have HCL := Aside0.mk hcl
  have HD := Aside0.mk hd
  have HSL := Aside0.mk hsl
  obtain ⟨As, cs, rfl, hcs, hCs⟩ := Kd.R_reads hinv.rS
  obtain ⟨Ac, cc, rfl, hcc, hCc⟩ := Kd.R_reads hinv.rC
  obtain ⟨Ab, cb, rfl, hcb, hCb⟩ := Kd.R_reads hinv.rB
  have CS := Aside0.mk hCs
  have CC := Aside0.mk hCc
  have HLE := Aside0.mk hcs
  have HLC := Aside0.mk hcc
  clear ih hfrom hinv he hcl hd hsl hCs hCc hCb hcs hcc hcb
  have zB := (blk_cell HV.out.bB 0).trans rfl
  have fB := blk_frozen HV.out.bB 0
  go_enter Try.func52, Try.ntmps52
  go_upto_if 15 with fail
  go_cut [] from 11 to 17 (fun wx => Aside0 (KeepBut W wx gB none) ∧ Aside0 (∃ vb', Inv w gB gL gN gE a0_0 A0_1 c0_1 l0_1 a0_2 a0_3 A0_4 c0_4 l0_4 A0_5 c0_5 l0_5 A1 c1 l1 set cells (upd set best) (.slice As set.length cs) (.slice Ac cells.length cc) vb' wx))
  case first =>
    by_cases hgt : best.length < set.length
    · go_wp2_with fail
      refine (HI.out _ _ set _ CS.out HLE.out (by have := HD.out; have := HSL.out; omega)).mono ?_
      rintro e w1 ⟨v1, rfl, ho, hb⟩
      obtain ⟨A1_, c1_, rfl⟩ := Kd.R_slice ho
      have hI1 := HV.out.step hb
      have zB := (blk_cell hI1.bB 0).trans rfl
      have fB := blk_frozen hI1.bB 0
      have NI := Aside0.mk (hI1.store NE.out (R_ne ho (blk_lt HV.out.bB) HV.out.below.size))
      have NK := Aside0.mk (kb_set (KeepBut.of_below hb gB none) (.slice A1_ set.length c1_))
      clear ho hb hI1
      go_wp2_with fail
      go_meet
      case rel => exact ⟨NK, ⟨_, by unfold upd; rw [if_pos hgt]; exact NI.out⟩⟩
    · go_wp2_with fail
      go_meet
      case rel => exact ⟨⟨KeepBut.refl _ _ _⟩, ⟨_, by unfold upd; rw [if_neg hgt]; exact HV.out⟩⟩
  case rest =>
    clear HV zB fB
    obtain ⟨KB, HX⟩ := hcut
    obtain ⟨vb1, hI⟩ := HX.out
    have HV := Aside0.mk hI
    obtain ⟨Ac2, cc2, e2, hcc2, hCc2⟩ := Kd.R_reads hI.rC
    obtain ⟨As2, cs2, e1, hcs2, hCs2⟩ := Kd.R_reads hI.rS
    obtain ⟨rfl, rfl⟩ : As2 = As ∧ cs2 = cs := by injection e1 with a _ b; exact ⟨a.symm, b.symm⟩
    obtain ⟨rfl, rfl⟩ : Ac2 = Ac ∧ cc2 = cc := by injection e2 with a _ b; exact ⟨a.symm, b.symm⟩
    have CS2 := Aside0.mk hCs2
    clear e1 e2 hcc2 hcs2 hCc2 hCs2 hI HX CS CC
    obtain ⟨wx, rfl⟩ : ∃ wx : World, wx = wc := ⟨_, rfl⟩
    go_upto_if 20 with fail
    go_cut [8] from 18 to 27 (fun v8 wy => v8 = .int .i64 (i : Int) ∧ wy = wx)
    case first =>
      rcases HF.out with ⟨hs0, hi0⟩ | ⟨s, x, hs, hx, hx0⟩
      · have HH := Aside0.mk hi0
        clear hi0
        subst hs0
        go_wp2_with fail
        go_meet
        case rel => exact ⟨by rw [HH.out]; rfl, rfl⟩
      · have hlen : set.length = s.length + 1 := by rw [hs]; simp
        obtain ⟨ad, ea, hx2⟩ := Kd.at_int CS2.out ((set.length : Int) - 1) (by omega) (by omega)
        have hrd : rd set ((set.length : Int) - 1) = x := by
          have : ((set.length : Int) - 1).toNat = s.length := by omega
          unfold rd
          rw [this, hs]
          simp
        rw [hrd] at hx2
        have et : ((set.length : Int) - 1).toNat = set.length - 1 := by omega
        rw [et] at hx2
        subst ea
        have hl0 : decide (0 < set.length) = true := decide_eq_true (by omega)
        have hb1 : x ≤ 100 := by have := HD.out; omega
        have hb2 : 0 ≤ (set.length : Int) - 1 := by omega
        have hb3 : set.length ≤ 100 := by have := HSL.out; have := HD.out; omega
        have HX := Aside0.mk hx
        clear hs hx hrd hlen et
        go_wp2_with fail
        go_meet
        case rel => exact ⟨by rw [HX.out], rfl⟩
    case rest =>
      obtain ⟨rfl, rfl⟩ := hcut
      obtain ⟨wL, rfl⟩ : ∃ wL : World, wL = wc := ⟨_, rfl⟩
      have zL := (blk_cell HV.out.bL 0).trans rfl
      have hn12 := h12
      have HI0 := HD.out
      go_wp2_with fail
      go_loopg [30] l1.length (fun gg v30 wr => ∃ (j : Nat) (best' : List Int) (vb' : Value), v30 = .int .i64 (j : Int) ∧ Aside0 (j ≤ l1.length ∧ l1.length - j ≤ gg) ∧ Aside0 (KeepBut W wr gB none) ∧
        Aside0 (Inv w gB gL gN gE a0_0 A0_1 c0_1 l0_1 a0_2 a0_3 A0_4 c0_4 l0_4 A0_5 c0_5 l0_5 A1 c1 l1 set cells best' (.slice As2 set.length cs2) (.slice Ac2 cells.length cc2) vb' wr) ∧ Aside0 (ext good l1 (l1.length - max j i) (max j i) set cells best' = some r))
      case atStart =>
        have e1 : max 0 i = i := by omega
        have e2 : l1.length - i = d := by omega
        exact ⟨0, _, vb1, rfl, ⟨by omega, by omega⟩, ⟨KB.out⟩, ⟨HV.out⟩, ⟨by rw [e1, e2]; exact H.out⟩⟩
      case round =>
        clear KB HV H zL CS2 vb1 wL HI0
        obtain ⟨j, best', vb', rfl, HJ, KB, HV, H⟩ := hrel
        obtain ⟨hj1, hj2⟩ := HJ.out
        have HI0 := HD.out
        by_cases hlt : j < l1.length
        · by_cases hji : j < i
          · have h1 : (j : Int) < (l1.length : Int) := by omega
            have h2 : (j : Int) < (i : Int) := by omega
            go_wp2_with fail
            go_roundg (l1.length - (j + 1))
            case measure => omega
            case rel =>
              have e1 : max (j + 1) i = max j i := by omega
              exact ⟨j + 1, best', vb', by go_num, ⟨by omega, by omega⟩, KB, HV, ⟨by rw [e1]; exact H.out⟩⟩
          · have hlz : (j : Int) < (l1.length : Int) := by omega
            have hjz : ¬ (j : Int) < (i : Int) := by omega
            have e1 : max j i = j := by omega
            obtain ⟨dd, hdd⟩ : ∃ dd, l1.length - j = dd + 1 := ⟨l1.length - j - 1, by omega⟩
            have h := H.out
            rw [e1, hdd] at h
            simp only [ext] at h
            obtain ⟨ad, rfl, x0, x1, x2⟩ := at_T44 HL.out (j : Int) (by omega) (by omega)
            rw [Int.toNat_natCast] at x0 x1 x2
            generalize rd_T44 l1 (j : Int) = x at h x0 x1 x2
            obtain ⟨g, hg, h2⟩ := Option.bind_eq_some_iff.mp h
            have HGG := trivial
            have H2 := trivial
            have HDD := Aside0.mk hdd
            have HJI := Aside0.mk hji
            obtain ⟨cs9, hc9⟩ : ∃ cs9, cs9 = cells ++ [cellOf x] := ⟨_, rfl⟩
            have HC9 := Aside0.mk hc9
            rw [← hc9] at hg h2
            replace HGG := Aside0.mk hg
            replace H2 := Aside0.mk h2
            clear h hg h2 e1 hdd hji H hj2 hc9
            replace x0 := (HV.out.below.cell (World.block_lt_of_cell? w _ x0)).trans x0
            replace x1 := (HV.out.below.cell (World.block_lt_of_cell? w _ x1)).trans x1
            replace x2 := (HV.out.below.cell (World.block_lt_of_cell? w _ x2)).trans x2
            have zL := (blk_cell HV.out.bL 0).trans rfl
            obtain ⟨Ac3, cc3, e3, hcc3, hCc3⟩ := Kd.R_reads HV.out.rC
            obtain ⟨rfl, rfl⟩ : Ac3 = Ac2 ∧ cc3 = cc2 := by injection e3 with a _ b; exact ⟨a.symm, b.symm⟩
            have CC9 := Aside0.mk hCc3
            clear e3 hcc3 hCc3
            go_upto_region 9 with fail
            go_cut [10] from 31 to 56 (fun v10 wc => ∃ (A3 : Option Addr) (c3 : Nat), v10 = .slice A3 cs9.length c3 ∧ Aside0 (KeepBut W wc gB none) ∧ Aside0 (Inv w gB gL gN gE a0_0 A0_1 c0_1 l0_1 a0_2 a0_3 A0_4 c0_4 l0_4 A0_5 c0_5 l0_5 (some ad) c1 l1 set cells best' (.slice As2 set.length cs2) (.slice Ac3 cells.length cc3) vb' wc) ∧
              Aside0 (Kd.R k36 36 wc w.heap.size (fun k => k ≠ gB) (.slice A3 cs9.length c3) cs9))
            case first =>
              have D := Aside0.mk (Below.refl wr.heap.size wr)
              go_region_held3 (fun w' => w'.cell? ⟨gL, 0, none⟩ = some (.slice (some ad) l1.length c1) ∧ w'.cell? (ad.add (j * 3)) = some (.int .i64 x.f0) ∧ w'.cell? ⟨(ad.add (j * 3)).block, (ad.add (j * 3)).off + 1, none⟩ = some (.int .i64 x.f1) ∧ w'.cell? ⟨(ad.add (j * 3)).block, (ad.add (j * 3)).off + 2, none⟩ = some (.int .i64 x.f2))
                (first | go_keep | (go_split_ands; refine ⟨?_, ?_, ?_, ?_⟩ <;> (first | exact (D.out.cell (World.block_lt_of_cell? wr _ (by assumption))).trans (by assumption) | exact ((below_alloc D.out _).cell (World.block_lt_of_cell? wr _ (by assumption))).trans (by assumption))))
                (first
                  | (go_at_call 49; ((with_reducible refine (cell_calls x _).mono ?_); (rintro e w1 ⟨rfl, hb⟩); (try replace Q1 := Aside0.mk (Kd.R_below Q1.out hb)); have D := Aside0.mk (below_step (by first | (with_reducible exact D.out) | (with_reducible exact below_alloc D.out _) | (with_reducible exact below_drew1 (below_alloc D.out _)) | exact below_drew1 D.out | fail) hb)))
                  | (go_at_call 26; ((with_reducible refine (HK.out _ _ cells _ ?k1 ?k2 ?k3).mono ?_); (case k1 => first | (with_reducible exact Kd.C_below CC9.out D.out) | (with_reducible exact Kd.C_below CC9.out (below_alloc D.out _)) | (with_reducible exact Kd.C_below CC9.out (below_drew1 (below_alloc D.out _))) | exact Kd.C_below CC9.out (below_drew1 D.out) | fail); (case k2 => exact HLC.out); (case k3 => have := HCL.out; have := HSL.out; omega); (rintro e w1 ⟨v1, rfl, ho, hb⟩); (try have Q2 := Aside0.mk (Kd.C_below (lit_C x _) hb)); have D0 := Aside0.mk (belowTo (w1 := wr) hb (by first | (with_reducible exact D.out) | (with_reducible exact below_alloc D.out _) | (with_reducible exact below_drew1 (below_alloc D.out _)) | exact below_drew1 D.out | fail)); have D := Aside0.mk (below_step D0.out hb); have QB := Aside0.mk (fun k (hk : v1.ownBlock = some k) => Nat.le_trans D0.out.size (Kd.R_base ho k hk)); have Q1 := Aside0.mk (R_ne (w := w) ho (Nat.lt_of_lt_of_le (blk_lt HV.out.bB) D0.out.size) (Nat.le_trans HV.out.below.size D0.out.size)); clear D0))
                  | (refine Kd.R_append_rows_step k36 (w0 := w) w.heap.size ?hw (.tmp 37) (.tmp 43) 27 36 (.agg #[(.int .i64 0), (.int .i64 0), (.int .i64 0), (.int .i64 0), (.int .i64 0)]) 40 rfl Try.underlying27 info36 rfl (by decide) (by omega) v1 cells [cellOf x] _ _ _ (fun k => k ≠ gB) (fun _ => False) rfl rfl ?aO ?aR (fun _ _ h => h) (fun _ h => h.elim) ?aF ?aB ?aS ?aL ?_; (case aR => exact Q2.out); (case hw => rfl); (case aO => exact Q1.out); (case aF => intro k hk; have := blk_lt HV.out.bB; have := D.out.size; omega); (case aB => exact below_step HV.out.below D.out); (case aS => exact below_size (below_step HV.out.below D.out)); (case aL => have := HCL.out; have := HSL.out; simp; omega); intro v3 w3 ho hb hg hat; have DD := Aside0.mk (D.out.grown hg D.out.size QB.out); have Q3 := Aside0.mk ho; clear ho hb hg hat D; have D := Aside0.mk DD.out; clear DD; obtain ⟨A3, c3, rfl, hc3, hC3⟩ := Kd.R_reads Q3.out; clear hc3 hC3)
                  | (refine Kd.R_append_step k36 (w0 := w) w.heap.size ?hw (.tmp 37) (.tmp 43) 27 36 (.agg #[(.int .i64 0), (.int .i64 0), (.int .i64 0), (.int .i64 0), (.int .i64 0)]) 40 rfl Try.underlying27 info36 rfl (by decide) (by omega) v1 cells (cellOf x) [.int .i64 0, .int .i64 0, .int .i64 x.f0, .int .i64 x.f1, .int .i64 0] (fun k => k ≠ gB) (fun _ => False) rfl rfl ?aP (fun _ h => h.elim) ?aF ?aO ?aB ?aS ?aL ?_; (case aP => exact k36_mkM _ _ _ (cellOf x)); (case hw => rfl); (case aO => exact Q1.out); (case aF => intro k hk; have := blk_lt HV.out.bB; have := D.out.size; omega); (case aB => exact below_step HV.out.below D.out); (case aS => exact below_size (below_step HV.out.below D.out)); (case aL => have := HCL.out; have := HSL.out; simp; omega); intro v3 w3 ho hb hg hat; have DD := Aside0.mk (D.out.grown hg D.out.size QB.out); have Q3 := Aside0.mk ho; clear ho hb hg hat D; have D := Aside0.mk DD.out; clear DD; obtain ⟨A3, c3, rfl, hc3, hC3⟩ := Kd.R_reads Q3.out; clear hc3 hC3))
              all_goals
                go_wp2_with fail
                go_meet
                case rel => exact ⟨_, _, by rw [HC9.out, List.length_append]; rfl, ⟨kb_step KB.out D.out⟩, ⟨HV.out.step D.out⟩, ⟨by rw [HC9.out]; exact Q3.out⟩⟩
            case rest =>
              clear KB HV x0 x1 x2 zL CC9 wr
              obtain ⟨A3, c3, rfl, KB, HV, Q3⟩ := hcut
              obtain ⟨A4, c4, e4, hc4, hC4⟩ := Kd.R_reads Q3.out
              obtain ⟨rfl, rfl⟩ : A4 = A3 ∧ c4 = c3 := by injection e4 with a _ b; exact ⟨a.symm, b.symm⟩
              have HGC := Aside0.mk (HG.out _ _ _ g _ HV.out.below hC4 hc4 HGG.out)
              clear e4 hc4 hC4 HGG
              have zN0 := (blk_cell HV.out.bN 0).trans rfl
              have zN1 := (blk_cell HV.out.bN 1).trans rfl
              have zN2 := (blk_cell HV.out.bN 2).trans rfl
              have zN3 := (blk_cell HV.out.bN 3).trans rfl
              have zN4 := (blk_cell HV.out.bN 4).trans rfl
              have zN5 := (blk_cell HV.out.bN 5).trans rfl
              go_wp2_with fail
              with_reducible refine HGC.out.mono ?_
              rintro e w5 ⟨rfl, hb⟩
              replace KB := Aside0.mk (kb_step KB.out hb)
              replace HV := Aside0.mk (HV.out.step hb)
              replace Q3 := Aside0.mk (Kd.R_below Q3.out hb)
              clear hb zN0 zN1 zN2 zN3 zN4 zN5 HGC
              cases g with
              | false =>
                have H := Aside0.mk ((if_neg (by simp)).symm.trans H2.out)
                clear H2
                have HDE : Aside0 (l1.length - max (j + 1) i = dd ∧ max (j + 1) i = j + 1) := ⟨by have := HDD.out; have := HJI.out; omega⟩
                go_wp2_with fail
                go_roundg (l1.length - (j + 1))
                case measure => have := HJ.out; omega
                case rel => exact ⟨j + 1, best', vb', by go_num, ⟨by omega, by omega⟩, KB, HV, ⟨by rw [HDE.out.1, HDE.out.2]; exact H.out⟩⟩
              | true =>
                obtain ⟨b, hb1, hb2⟩ := Option.bind_eq_some_iff.mp ((if_pos rfl).symm.trans H2.out)
                have HB1 := Aside0.mk hb1
                have H := Aside0.mk hb2
                clear H2 hb1 hb2
                have zE := (blk_cell HV.out.bE 0).trans rfl
                obtain ⟨As3, cs3, e3, hcs3, hCs3⟩ := Kd.R_reads HV.out.rS
                obtain ⟨rfl, rfl⟩ : As3 = As2 ∧ cs3 = cs2 := by injection e3 with a _ b; exact ⟨a.symm, b.symm⟩
                have CC9 := Aside0.mk hCs3
                clear e3 hcs3 hCs3
                have D := Aside0.mk (Below.refl w5.heap.size w5)
                go_upto_region 11 with fail
                go_region_held3 (fun w' => w'.cell? ⟨gE, 0, none⟩ = some (.func (.func 52) #[] #[.pointer (some ⟨gB, 0, none⟩), .pointer (some ⟨gL, 0, none⟩), .pointer (some ⟨gN, 0, none⟩), .pointer (some ⟨gE, 0, none⟩)]))
                  (first | go_keep | exact (blk_cell hI9.out.bE 0).trans rfl | exact (D.out.cell (World.block_lt_of_cell? w5 _ (by assumption))).trans (by assumption) | exact ((below_alloc D.out _).cell (World.block_lt_of_cell? w5 _ (by assumption))).trans (by assumption) | exact ((below_drew1 (below_alloc D.out _)).cell (World.block_lt_of_cell? w5 _ (by assumption))).trans (by assumption))
                  (first
                    | (go_at_call 53; ((with_reducible refine (HI.out _ _ set _ ?k1 ?k2 ?k3).mono ?_); (case k1 => first | (with_reducible exact Kd.C_below CC9.out D.out) | (with_reducible exact Kd.C_below CC9.out (below_alloc D.out _)) | (with_reducible exact Kd.C_below CC9.out (below_drew1 (below_alloc D.out _))) | exact Kd.C_below CC9.out (below_drew1 D.out) | fail); (case k2 => exact HLE.out); (case k3 => have := HSL.out; omega); (rintro e w1 ⟨v1, rfl, ho, hb⟩); (first | have Q2 := Aside0.mk (Kd.C_below (lit_CI (j : Int) _) hb) | have Q2 := Aside0.mk (Kd.C_below (Kd.C_drew (lit_CI (j : Int) _)) hb) | skip); have D0 := Aside0.mk (belowTo (w1 := w5) hb (by first | (with_reducible exact D.out) | (with_reducible exact below_alloc D.out _) | (with_reducible exact below_drew1 (below_alloc D.out _)) | exact below_drew1 D.out | fail)); have D := Aside0.mk (below_step D0.out hb); have QB := Aside0.mk (fun k (hk : v1.ownBlock = some k) => Nat.le_trans D0.out.size (Kd.R_base ho k hk)); have Q1 := Aside0.mk (R_ne (w := w) ho (Nat.lt_of_lt_of_le (blk_lt HV.out.bB) D0.out.size) (Nat.le_trans HV.out.below.size D0.out.size)); clear D0))
                    | (go_at_call 52; ((with_reducible refine (IH.out dd ?k1 (j + 1) (set ++ [(j : Int)]) cs9 best' b _ _ _ _ ?k2 ?k3 ?k4 ?k5 ⟨(HV.out.step D.out).below, (HV.out.step D.out).bN, (HV.out.step D.out).bL, (HV.out.step D.out).bE, (HV.out.step D.out).bB, Q4.out, Kd.R_below Q3.out D.out, (HV.out.step D.out).rB⟩ HB1.out).mono ?_); (case k1 => have := HD.out; have := HDD.out; have := HJI.out; omega); (case k2 => have := HDD.out; omega); (case k3 => exact Or.inr ⟨set, _, rfl, by omega, by omega⟩); (case k4 => have := HSL.out; have := HJI.out; simp; omega); (case k5 => rw [HC9.out, List.length_append, List.length_append, HCL.out]; rfl); (rintro e w9 ⟨rfl, hp⟩); have KB9 := Aside0.mk (kb_post (kb_step KB.out D.out) hp); obtain ⟨vb9, hJ9⟩ := (HV.out.step D.out).post NE.out hp; have hI9 := Aside0.mk hJ9; clear hp hJ9))
                    | (refine Kd.R_append_rows_step (Kd.int .i64) (w0 := w) w.heap.size ?hw (.tmp 50) (.tmp 52) 24 3 (.int .i64 0) 8 rfl Try.underlying24 info3 rfl (by decide) (by omega) v1 set [(j : Int)] _ _ _ (fun k => k ≠ gB) (fun _ => False) rfl rfl ?aO ?aR (fun _ _ h => h) (fun _ h => h.elim) ?aF ?aB ?aS ?aL ?_; (case aR => exact Q2.out); (case hw => rfl); (case aO => exact Q1.out); (case aF => intro k hk; have := blk_lt HV.out.bB; have := D.out.size; omega); (case aB => exact below_step HV.out.below D.out); (case aS => exact below_size (below_step HV.out.below D.out)); (case aL => have := HSL.out; simp; omega); intro v4 w4 ho hb hg hat; have DD := Aside0.mk (D.out.grown hg D.out.size QB.out); have Q4 := Aside0.mk ho; clear ho hb hg hat D; have D := Aside0.mk DD.out; clear DD)
                    | (refine Kd.R_append_step (Kd.int .i64) (w0 := w) w.heap.size ?hw (.tmp 50) (.tmp 52) 24 3 (.int .i64 0) 8 rfl Try.underlying24 info3 rfl (by decide) (by omega) v1 set (j : Int) [.int .i64 (j : Int)] (fun k => k ≠ gB) (fun _ => False) rfl rfl ?aP (fun _ h => h.elim) ?aF ?aO ?aB ?aS ?aL ?_; (case aP => exact rfl); (case hw => rfl); (case aO => exact Q1.out); (case aF => intro k hk; have := blk_lt HV.out.bB; have := D.out.size; omega); (case aB => exact below_step HV.out.below D.out); (case aS => exact below_size (below_step HV.out.below D.out)); (case aL => have := HSL.out; simp; omega); intro v4 w4 ho hb hg hat; have DD := Aside0.mk (D.out.grown hg D.out.size QB.out); have Q4 := Aside0.mk ho; clear ho hb hg hat D; have D := Aside0.mk DD.out; clear DD))
                all_goals
                  have HDE : Aside0 (l1.length - max (j + 1) i = dd ∧ max (j + 1) i = j + 1) := ⟨by have := HDD.out; have := HJI.out; omega⟩
                  go_wp2_with fail
                  go_roundg (l1.length - (j + 1))
                  case measure => have := HJ.out; omega
                  case rel => exact ⟨j + 1, b, vb9, by go_num, ⟨by omega, by omega⟩, KB9, hI9, ⟨by rw [HDE.out.1, HDE.out.2]; exact H.out⟩⟩
        · have e9 : l1.length - max j i = 0 := by omega
          have h := H.out
          rw [e9] at h
          have Hr := Aside0.mk (Option.some.inj h)
          have h1 : ¬ (j : Int) < (l1.length : Int) := by omega
          clear h e9
          go_wp2_with fail
          go_end0
          exact ⟨rfl, by rw [← Hr.out]; exact keep_post KB.out HV.out⟩

theorem ext_mono {g g' : List S36 → Option Bool} (hg : ∀ cs, LeO (g cs) (g' cs)) (l1 : List S44) (d : Nat) : ∀ i set cells best, LeO (ext g l1 d i set cells best) (ext g' l1 d i set cells best) := by
  induction d with
  | zero => exact fun i set cells best r h => h
  | succ d ih =>
    intro i set cells best r h
    simp only [ext] at h ⊢
    obtain ⟨b, hb, h2⟩ := Option.bind_eq_some_iff.mp h
    refine Option.bind_eq_some_iff.mpr ⟨b, hg _ _ hb, ?_⟩
    split at h2
    · rename_i e
      rw [if_pos e]
      obtain ⟨c, hc, h3⟩ := Option.bind_eq_some_iff.mp h2
      exact Option.bind_eq_some_iff.mpr ⟨c, ih _ _ _ _ _ hc, ih _ _ _ _ _ h3⟩
    · rename_i e
      rw [if_neg e]
      exact ih _ _ _ _ _ h2
theorem conflict_Largest.mono : ∀ a0 a1 a2 a3 a4 a5 a6 k, LeO (conflict_Largest.f k a0 a1 a2 a3 a4 a5 a6) (conflict_Largest.f (k + 1) a0 a1 a2 a3 a4 a5 a6) := by
  intro a0 a1 a2 a3 a4 a5 a6 k r h
  unfold conflict_Largest.f at h ⊢
  obtain ⟨b, hb, h2⟩ := Option.bind_eq_some_iff.mp h
  refine Option.bind_eq_some_iff.mpr ⟨b, network_Check.mono _ _ _ _ _ _ _ _ hb, ?_⟩
  split at h2
  · rename_i e
    rw [if_pos e]
    split at h2
    · rename_i e
      rw [if_pos e]; exact h2
    · rename_i e
      rw [if_neg e]
      obtain ⟨c, hc, h3⟩ := Option.bind_eq_some_iff.mp h2
      exact Option.bind_eq_some_iff.mpr ⟨c, ext_mono (fun cs => conflict_Good.mono _ _ _ _ _ _ _ _) _ _ _ _ _ _ _ hc, h3⟩
  · rename_i e
    rw [if_neg e]; exact h2
set_option maxRecDepth 100000 in
set_option maxHeartbeats 1600000 in
theorem conflict_Largest.calls (k : Nat) (a0_0 : Int) (A0_1 : Option Addr) (c0_1 : Nat) (l0_1 : List (List Int)) (a0_2 : Int) (a0_3 : Int) (A0_4 : Option Addr) (c0_4 : Nat) (l0_4 : List (S44)) (A0_5 : Option Addr) (c0_5 : Nat) (l0_5 : List Int) (A1 : Option Addr) (c1 : Nat) (l1 : List S44) (r1 : List Int) (r2 : Int) (w : World) (hr0_1 : Kd.C (Kd.slice 3 (Kd.int .i64)) w A0_1 l0_1.length l0_1) (hc0_1 : l0_1.length ≤ c0_1) (hr0_4 : Kd.C k44 w A0_4 l0_4.length l0_4) (hc0_4 : l0_4.length ≤ c0_4) (hr0_5 : Kd.C (Kd.int .i64) w A0_5 l0_5.length l0_5) (hc0_5 : l0_5.length ≤ c0_5) (hr1 : Kd.C k44 w A1 l1.length l1) (hc1 : l1.length ≤ c1) (h : conflict_Largest.f k a0_0 l0_1 a0_2 a0_3 l0_4 l0_5 l1 = some (r1, r2)) :
    Calls Try.prog 28 #[.agg #[.int .i64 a0_0, .slice A0_1 l0_1.length c0_1, .int .i64 a0_2, .int .i64 a0_3, .slice A0_4 l0_4.length c0_4, .slice A0_5 l0_5.length c0_5], .slice A1 l1.length c1] w fun e w' => ∃ v0_ : Value, e = .returned (.tuple #[v0_, .int .i64 r2]) ∧ Kd.R (Kd.int .i64) 3 w' w.heap.size (fun _ => True) v0_ r1 ∧ Below w.heap.size w w' := by
  have hu26 := Try.underlying26
  unfold conflict_Largest.f at h
  obtain ⟨ec, hec, h⟩ := Option.bind_eq_some_iff.mp h
  have HC := Aside0.mk (fun (W : World) (hb : Below w.heap.size w W) => network_Check.calls k a0_0 A0_1 c0_1 l0_1 a0_2 a0_3 A0_4 c0_4 l0_4 A0_5 c0_5 l0_5 ec W (Kd.C_below hr0_1 hb) hc0_1 (Kd.C_below hr0_4 hb) hc0_4 (Kd.C_below hr0_5 hb) hc0_5 hec)
  have HE := Aside0.mk (fun (gB gL gN gE : Nat) (ne : gB ≠ gL ∧ gB ≠ gN ∧ gB ≠ gE ∧ w.heap.size ≤ gB) (h12 : l1.length ≤ 12) => ext_calls k a0_0 A0_1 c0_1 l0_1 a0_2 a0_3 A0_4 c0_4 l0_4 A0_5 c0_5 l0_5 A1 c1 l1 w hr0_1 hc0_1 hr0_4 hc0_4 hr0_5 hc0_5 hr1 hc1 gB gL gN gE ne h12)
  have H := Aside0.mk h
  have hn1 := hr1.2.1
  clear h hec hr0_1 hr0_4 hr0_5 hr1 hc0_1 hc0_4 hc0_5
  go_enter Try.func28, Try.ntmps28
  go_upto_region 1 with (first | ((with_reducible refine gate_dst (N := 2) rfl ?_); refine box_event ?hg (N := 2) ?hd (cs := #[.int .i64 a0_0, .slice A0_1 l0_1.length c0_1, .int .i64 a0_2, .int .i64 a0_3, .slice A0_4 l0_4.length c0_4, .slice A0_5 l0_5.length c0_5]) (t := 26) ?hr ?_; (case hd => rfl); (case hg => rfl); (case hr => first | (go_simp; done) | (go_simp; rfl)); intro gn hg w2 hbox hb; have Bgn := Aside0.mk hbox; have Hgn := Aside0.mk hb; have Ggn := Aside0.mk hg; have hzgn_0 := (blk_cell hbox 0).trans rfl; have hzgn_1 := (blk_cell hbox 1).trans rfl; have hzgn_2 := (blk_cell hbox 2).trans rfl; have hzgn_3 := (blk_cell hbox 3).trans rfl; have hzgn_4 := (blk_cell hbox 4).trans rfl; have hzgn_5 := (blk_cell hbox 5).trans rfl; clear hb hbox hg) | ((with_reducible refine gate_dst (N := 3) rfl ?_); refine box_event ?hg (N := 3) ?hd (cs := #[.slice A1 l1.length c1]) (t := 23) ?hr ?_; (case hd => rfl); (case hg => rfl); (case hr => first | (go_simp; done) | (go_simp; rfl)); intro gl hg w3 hbox hb; have Bgl := Aside0.mk hbox; have Hgl := Aside0.mk hb; have Ggl := Aside0.mk hg; have hzgl_0 := (blk_cell hbox 0).trans rfl; clear hb hbox hg))
  have R := Aside0.mk (below_step Hgn.out Hgl.out)
  have BN := Aside0.mk (blk_below Bgn.out Hgl.out)
  have BL := Aside0.mk Bgl.out
  have NG : Aside0 (gn ≠ gl) := ⟨by have := blk_lt Bgn.out; have := Ggl.out; omega⟩
  clear Hgn Hgl Bgn Bgl Ggn Ggl
  have z0 := bc0 BN
  have z1 := bc1 BN
  have z2 := bc2 BN
  have z3 := bc3 BN
  have z4 := bc4 BN
  have z5 := bc5 BN
  have zl := (blk_cell BL.out 0).trans rfl
  go_wp2_with fail
  with_reducible refine (HC.out _ R.out).mono ?_
  rintro e w6 ⟨rfl, hb⟩
  replace R := Aside0.mk (below_step R.out hb)
  replace BN := Aside0.mk (blk_below BN.out hb)
  replace BL := Aside0.mk (blk_below BL.out hb)
  clear hzgn_0 hzgn_1 hzgn_2 hzgn_3 hzgn_4 hzgn_5 hzgl_0
  clear hb HC z0 z1 z2 z3 z4 z5 zl
  by_cases he : ec = 0
  case neg =>
    have Hr := Aside0.mk (Option.some.inj ((if_neg he).symm.trans H.out))
    have hbe : (ec != 0) = true := bne_iff_ne.mpr he
    go_wp2_with fail
    go_ret2
    obtain ⟨rfl, rfl⟩ := Prod.mk.inj Hr.out
    exact ⟨_, rfl, Kd.R_nil _ _ _ _ _, R.out⟩
  have h := (if_pos he).symm.trans H.out
  have hbe : (ec != 0) = false := bne_eq_false_iff_eq.mpr he
  clear H
  have H := Aside0.mk h
  clear h he
  have zl := (blk_cell BL.out 0).trans rfl
  by_cases h12 : 12 < (l1.length : Int)
  · have Hr := Aside0.mk (Option.some.inj ((if_pos h12).symm.trans H.out))
    have hlb : decide ((l1.length : Int) > 12) = true := decide_eq_true (by omega)
    go_wp2_with fail
    go_ret2
    obtain ⟨rfl, rfl⟩ := Prod.mk.inj Hr.out
    exact ⟨_, rfl, Kd.R_nil _ _ _ _ _, R.out⟩
  obtain ⟨b, hb, h2⟩ := Option.bind_eq_some_iff.mp ((if_neg h12).symm.trans H.out)
  have HB := Aside0.mk (show ext (conflict_Good.f k a0_0 l0_1 a0_2 a0_3 l0_4 l0_5) l1 l1.length 0 [] [] (upd [] []) = some b from hb)
  have Hr := Aside0.mk (Option.some.inj h2)
  have hlb : decide ((l1.length : Int) > 12) = false := decide_eq_false (by omega)
  have HL12 : Aside0 (l1.length ≤ 12) := ⟨by omega⟩
  clear hb h2 h12 H
  go_wp2_with fail
  have INV : Inv w w6.heap.size gl gn (w6.heap.size + 1) a0_0 A0_1 c0_1 l0_1 a0_2 a0_3 A0_4 c0_4 l0_4 A0_5 c0_5 l0_5 A1 c1 l1 [] [] [] (.slice none 0 0) (.slice none 0 0) (.slice none 0 0) ((w6.alloc (.cells #[.slice none 0 0] 24 (0, 0))).alloc (.cells #[.func (.func 52) #[] #[.pointer (some ⟨w6.heap.size, 0, none⟩), .pointer (some ⟨gl, 0, none⟩), .pointer (some ⟨gn, 0, none⟩), .pointer (some ⟨w6.heap.size + 1, 0, none⟩)]] 72 (0, 0))) :=
    ⟨below_alloc (below_alloc R.out _) _, blk_alloc (blk_alloc BN.out _) _, blk_alloc (blk_alloc BL.out _) _, by
      have h := blk_new (w6.alloc (.cells #[.slice none 0 0] 24 (0, 0))) (.cells #[.func (.func 52) #[] #[.pointer (some ⟨w6.heap.size, 0, none⟩), .pointer (some ⟨gl, 0, none⟩), .pointer (some ⟨gn, 0, none⟩), .pointer (some ⟨w6.heap.size + 1, 0, none⟩)]] 72 (0, 0))
      rw [show (w6.alloc (.cells #[.slice none 0 0] 24 (0, 0))).heap.size = w6.heap.size + 1 by simp] at h
      exact h, blk_alloc (blk_new w6 _) _, Kd.R_nil _ _ _ _ _, Kd.R_nil _ _ _ _ _, Kd.R_nil _ _ _ _ _⟩
  with_reducible refine (HE.out _ _ _ _ ⟨by have := blk_lt BL.out; omega, by have := blk_lt BN.out; omega, by omega, R.out.size⟩ HL12.out l1.length 0 [] [] [] b _ _ _ _ (by omega) fromOf_nil (Nat.le_refl _) rfl INV HB.out).mono ?_
  rintro e w9 ⟨rfl, hp⟩
  obtain ⟨vb9, hB9, hR9, hK9, hb9⟩ := hp
  obtain ⟨A9, c9, rfl⟩ := Kd.R_slice hR9
  have zB := (blk_cell hB9 0).trans rfl
  have R9 := Aside0.mk hR9
  have B9 := Aside0.mk hb9
  clear hB9 hR9 hK9 hb9 INV
  go_wp2_with fail
  go_ret2
  obtain ⟨rfl, rfl⟩ := Prod.mk.inj Hr.out
  exact ⟨_, rfl, Kd.R_mono R9.out (fun _ _ => trivial), B9.out⟩
end Go.Proofs.Ytibgcekekmphoaa.P34

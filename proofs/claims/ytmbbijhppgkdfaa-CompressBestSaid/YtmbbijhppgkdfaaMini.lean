/- Short words over the print's own: steps of a region, facts of a block's cells. -/
import Derived.Test.YtmbbijhppgkdfaaVMore
import Derived.KernelRfl
import Derived.WalkKit
namespace Go.Proofs.YtmbbijhppgkdfaaW.PrintWords
open Go.RowKit Go.Proofs.YtmbbijhppgkdfaaW.PrintLast Go.Proofs.YtmbbijhppgkdfaaW.PrintMore
def bl (n m : Nat) : Array Bool := ((List.range n).map fun i => m.testBit i).toArray
theorem ap_ {ts : List Value} {df} {n : Nat} {v : Value} : Act.put ⟨ts.toArray, df⟩ (some n) v = ⟨(ts.set n v).toArray, df⟩ := by simp [Act.put]
theorem s0_ {α : Type} {a b : α} {l : List α} : (a :: l).set 0 b = b :: l := rfl
theorem s1_ {α : Type} {a b : α} {l : List α} {n : Nat} : (a :: l).set (n + 1) b = a :: l.set n b := rfl
theorem pu_ {P : Program} {md : Region.Mode} {ops : Array Oper} {Q : Exit → Act → World → Prop} {S : World → Prop} {ds : List Nat} {T : Bool × List (List Nat × List Nat)} {oi : Oper} {fuel : Nat} {l : Array Bool} {a a' : Act} {w : World} {v : Value}
    (HT : Aside0 (rtab md ops = T)) (i N : Nat) (l' : Array Bool) (h : wpAnyLast P md ops Q S ds fuel l' a' w) (hi : ops[i]? = some oi := by rfl) (hy : ∀ w, (execOp a.eval oi).run P w = .ok (.value v) w := by intro w'; go_simp; with_reducible rfl)
    (ha : a.put (some N) v = a' := by simp only [ap_, s0_, s1_, i64_w]; rfl) (hN : oi.dst = some N := by rfl) (hc : anyT T l.toList l'.toList i = true := by kernel_rfl) (hQ : ∀ c a w, Q (.panic c) (a.put oi.dst v) w → Q (.panic c) a w := by exact fun _ _ _ h => h) (hw : Region.wanted oi (yielded ops a.tmps) = true := by rfl) :
    wpAnyLast P md ops Q S ds (fuel + 1) l a w := pure_ l' hi hN (any_of HT.out hc) hQ (Or.inl ⟨hw, hy⟩) ha h
theorem of_ {P : Program} {md : Region.Mode} {ops : Array Oper} {Q : Exit → Act → World → Prop} {S : World → Prop} {ds : List Nat} {T : Bool × List (List Nat × List Nat)} {oi : Oper} {fuel : Nat} {l : Array Bool} {a a' : Act} {w : World}
    (HT : Aside0 (rtab md ops = T)) (i N : Nat) (l' : Array Bool) (h : wpAnyLast P md ops Q S ds fuel l' a' w)
    (hi : ops[i]? = some oi := by rfl) (ha : a.put (some N) undef = a' := by simp only [ap_, s0_, s1_, i64_w]; rfl) (hN : oi.dst = some N := by rfl) (hc : anyT T l.toList l'.toList i = true := by kernel_rfl) (hQ : ∀ c a w, Q (.panic c) (a.put oi.dst undef) w → Q (.panic c) a w := by exact fun _ _ _ h => h) (hw : Region.wanted oi (yielded ops a.tmps) = false := by rfl) :
    wpAnyLast P md ops Q S ds (fuel + 1) l a w := pure_ l' hi hN (any_of HT.out hc) hQ (Or.inr ⟨hw, rfl⟩) ha h
theorem tk_ {P : Program} {md : Region.Mode} {ops : Array Oper} {Q : Exit → Act → World → Prop} {S : World → Prop} {ds : List Nat} {T : Bool × List (List Nat × List Nat)} {B : List Nat} {oi : Oper} {fuel : Nat} {l : Array Bool} {a a' : Act} {w : World} {v : Value}
    (HT : Aside0 (rtab md ops = T)) (HW : Aside0 (waitsOk T.2 B = true)) (hS : S w) (i N : Nat) (l' : Array Bool) (h : wpAnyLast P md ops Q S ds fuel l' a' w) (hi : ops[i]? = some oi := by rfl) (hy : ∀ w, S w → (execOp a.eval oi).run P w = .ok (.value v) w := by intro w' hS_; (repeat obtain ⟨_, hS_⟩ := hS_); go_simp; with_reducible rfl)
    (ha : a.put (some N) v = a' := by simp only [ap_, s0_, s1_, i64_w]; rfl) (hN : oi.dst = some N := by rfl) (hc : takeW T B ds l.toList l'.toList i = true := by kernel_rfl) (hQ : ∀ c a w, Q (.panic c) (a.put oi.dst v) w → Q (.panic c) a w := by exact fun _ _ _ h => h) (hw : Region.wanted oi (yielded ops a.tmps) = true := by rfl) :
    wpAnyLast P md ops Q S ds (fuel + 1) l a w := take_ l' hi hN (take_ofW HT.out HW.out hc) hQ (Or.inl ⟨hw, hy⟩) hS ha h
theorem bj_ {w w1 : World} {g : Nat} {o : Obj} (h : Aside0 (w.heap[g]? = some o)) (k : w.heap[g]? = some o → w1.heap[g]? = some o := by intro h_; (with_reducible repeat (first | refine blk_drewN ?_ _ | refine blk_drew ?_ | refine blk_alloc ?_ _)); exact h_) : w1.heap[g]? = some o := k h.out
theorem bk_ {w w1 w2 : World} {g : Nat} {o : Obj} (h : Aside0 (w.heap[g]? = some o)) (hb : Below w1.heap.size w1 w2) (k : w.heap[g]? = some o → w1.heap[g]? = some o := by intro h_; (with_reducible repeat (first | refine blk_drewN ?_ _ | refine blk_drew ?_ | refine blk_alloc ?_ _)); exact h_) : Aside0 (w2.heap[g]? = some o) := ⟨blk_below (k h.out) hb⟩
theorem hb_ {B : Nat} {w w' : World} (h : Below B w w' := by repeat (first | (with_reducible first | exact HB.out | apply below_alloc | apply pw_below_drewN | apply below_drew1 | refine below_set ?_ (Aside0.out (by assumption))) | exact HB.out)) : Below B w w' := h
theorem cb_ {α : Type} {d : Kd α} {w : World} {A : Option Addr} {n : Nat} {xs : List α} (h : Kd.C d w A n xs := by repeat (first | exact (Kd.C_below HR0_1.out HB.out) | exact (Kd.C_below HR0_4.out HB.out) | exact (Kd.C_below HR0_5.out HB.out) | exact (Kd.C_below HR1.out HB.out) | (with_reducible refine Kd.C_alloc ?_ _) | (with_reducible refine Kd.C_drewN ?_ _) | (with_reducible refine Kd.C_drew ?_))) : Kd.C d w A n xs := h
theorem am_ {α : Type} {a b : α} (h : a = b := by (try simp only [List.map_toArray, List.map_cons, List.map_nil]); first | done | rfl | (simp only [List.length_drop, List.length_take]; rfl)) : a = b := h
theorem rl_ {α : Type} {a b : α} (h : a = b := by first | rfl | (simp; done) | (simp [*]; done)) : a = b := h
theorem er_ {α : Type} {a b : α} (h : a = b := by first | rfl | (simp [errW_none, errW_some] <;> rfl) | (simp [*, errW_none, errW_some] <;> rfl)) : a = b := h
theorem kr_ {α : Type} {d : Kd α} {e base : Nat} {w w1 : World} {ok : Nat → Prop} {v : Value} {xs : List α} (h : Aside0 (d.R e w base ok v xs)) (k : d.R e w base ok v xs → d.R e w1 base ok v xs := by intro h_; (with_reducible repeat (first | apply Kd.R_alloc | apply Kd.R_drewN | apply Kd.R_drew)); exact h_) : d.R e w1 base ok v xs := k h.out
theorem bx_ {P : Program} {ops : Array Oper} {rest : List Oper} {o : Oper} {a : Act} {Q : Exit → Act → World → Prop} {W : World} (N : Tmp) (cs : Array Value) (t : TypeId)
    (h : ∀ g, g = W.heap.size → ∀ w1, w1.heap[g]? = some (.cells cs t (0, 0)) → Below W.heap.size W w1 → wpList P ops Q rest (a.put o.dst (.pointer (some ⟨g, 0, none⟩))) w1) (hgd : o.guard = none := by rfl) (hd : o.dst = some N := by rfl)
    (hrun : (execOp a.eval o).run P W = .ok (.value (.pointer (some ⟨W.heap.size, 0, none⟩))) (W.alloc (.cells cs t (0, 0))) := by first | (go_simp; done) | (go_simp; rfl)) : wpList P ops Q (o :: rest) a W := box_event hgd hd hrun h
section
variable {w : World} {g : Nat} {t : TypeId} {x0 x1 x2 x3 x4 x5 x6 x7 x8 x9 : Value} {r : List Value}
theorem bc0 (h : Aside0 (w.heap[g]? = some (.cells (x0 :: r).toArray t (0, 0)))) : w.cell? ⟨g, 0, none⟩ = some x0 := blk_cell h.out 0
theorem bc1 (h : Aside0 (w.heap[g]? = some (.cells (x0 :: x1 :: r).toArray t (0, 0)))) : w.cell? ⟨g, 1, none⟩ = some x1 := blk_cell h.out 1
theorem bc2 (h : Aside0 (w.heap[g]? = some (.cells (x0 :: x1 :: x2 :: r).toArray t (0, 0)))) : w.cell? ⟨g, 2, none⟩ = some x2 := blk_cell h.out 2
theorem bc3 (h : Aside0 (w.heap[g]? = some (.cells (x0 :: x1 :: x2 :: x3 :: r).toArray t (0, 0)))) : w.cell? ⟨g, 3, none⟩ = some x3 := blk_cell h.out 3
theorem bc4 (h : Aside0 (w.heap[g]? = some (.cells (x0 :: x1 :: x2 :: x3 :: x4 :: r).toArray t (0, 0)))) : w.cell? ⟨g, 4, none⟩ = some x4 := blk_cell h.out 4
theorem bc5 (h : Aside0 (w.heap[g]? = some (.cells (x0 :: x1 :: x2 :: x3 :: x4 :: x5 :: r).toArray t (0, 0)))) : w.cell? ⟨g, 5, none⟩ = some x5 := blk_cell h.out 5
theorem bc6 (h : Aside0 (w.heap[g]? = some (.cells (x0 :: x1 :: x2 :: x3 :: x4 :: x5 :: x6 :: r).toArray t (0, 0)))) : w.cell? ⟨g, 6, none⟩ = some x6 := blk_cell h.out 6
theorem bc7 (h : Aside0 (w.heap[g]? = some (.cells (x0 :: x1 :: x2 :: x3 :: x4 :: x5 :: x6 :: x7 :: r).toArray t (0, 0)))) : w.cell? ⟨g, 7, none⟩ = some x7 := blk_cell h.out 7
end
end Go.Proofs.YtmbbijhppgkdfaaW.PrintWords

/- slices.Clone of contexts: a new slice with the same contexts. -/
import Derived.Test.YtmbbijhppgkdfaaP140
import Derived.Lib.SliceRun
namespace Go.Proofs.Ytmbbijhppgkdfaa.P14
open Go.RowKit Go.Proofs.YtmbbijhppgkdfaaW.PrintWords Go.Proofs.YtmbbijhppgkdfaaW.PrintLast Go.Proofs.YtmbbijhppgkdfaaW.PrintMore
attribute [local go_sem] max2_int min2_int max_two min_two max_three min_three max_four min_four
set_option linter.unusedVariables false
set_option linter.unusedSimpArgs false

def api_Context.f (l : List S26) : Option (List S26) := if l.length < 3518437208883 then some l else none
set_option maxRecDepth 100000 in
theorem api_Context.calls (A : Option Addr) (c : Nat) (l r : List S26) (w : World) (hr : Kd.C k26 w A l.length l) (hc : l.length ≤ c) (h : api_Context.f l = some r) :
    Calls Try.prog 14 #[.slice A l.length c] w fun e w' => ∃ v, e = .returned v ∧ Kd.R k26 26 w' w.heap.size (fun _ => True) v r ∧ Below w.heap.size w w' := by
  unfold api_Context.f at h
  split at h
  case isFalse => cases h
  rename_i hlt
  obtain rfl := Option.some.inj h
  clear h
  have q22 : ∀ (w : World) (a : Option Addr) (n c n' c' : Nat), (binOp .eql 22 (.slice a n c) (.slice none n' c')).run Try.prog w = .ok (.bool a.isNone) w := fun w a n c n' c' => Lib.run_eql_slice_nil w _ _ a n c n' c' Try.underlying22
  have HB := Aside0.mk (Below.refl w.heap.size w)
  cases A with
  | none =>
    have hl : l = [] := by
      cases hl : l with
      | nil => rfl
      | cons x xs =>
        obtain ⟨ad, e, _⟩ := at_T26 hr 0 (by omega) (by rw [hl]; simp)
        cases e
    subst hl
    clear hr hc hlt
    go_enter Try.func14, Try.ntmps14
    go_wp2
    go_ret
    exact ⟨_, rfl, Kd.R_nil _ _ _ _ _, HB.out⟩
  | some ad =>
    have HR := Aside0.mk hr
    have HL := Aside0.mk hlt
    clear hr hlt
    go_enter Try.func14, Try.ntmps14
    go_wp2_with (first | ((with_reducible refine gate_dst (N := 5) rfl ?_)
                          refine Kd.R_lit k26 _ 26 ?hg (N := 5) ?hd (xs := ([] : List S26)) (inner := []) (ok := fun _ => True) (okp := fun _ => True) ?hr ?hp (fun _ hk => hk) trivial (Below.refl _ _) (Nat.le_refl _) (by simp) ?_
                          (case hd => rfl)
                          (case hg => rfl)
                          (case hr => first | (go_simp; done) | (go_simp; rfl))
                          (case hp => exact (Reps.none _ _))
                          intro v1 w1 ho hb hg_ hnew_
                          clear hg_ hnew_
                          have n1_ := Aside0.mk (Kd.R_lower ho (below_size (by repeat (first | (with_reducible first | exact HB.out | apply below_alloc | apply pw_below_drewN | apply below_drew1) | exact HB.out))))
                          have n2_ := Aside0.mk (below_step (by repeat (first | (with_reducible first | exact HB.out | apply below_alloc | apply pw_below_drewN | apply below_drew1) | exact HB.out)) hb)
                          clear HB ho hb
                          have HO := n1_
                          have HB := n2_
                          clear n1_ n2_)
                       | ((with_reducible refine gate_builtin (b := .append) (xs := #[.tmp 5, .tmp 6]) rfl ?_)
                          at_builtin
                          refine Kd.R_append_rows k26 (w0 := w) w.heap.size rfl (.tmp 5) (.tmp 6) 22 26 (.agg #[(.string (⟨#[]⟩ : ByteArray))]) 16 rfl Try.underlying22 info26 rfl (by decide) (by omega) v1 [] l _ _ _ (fun _ => True) (fun _ => False) rfl rfl ?aO ?aR (fun _ _ h => h) (fun _ h => h.elim) ?aF ?aB ?aS ?aL ?_
                          (case aR => repeat (first | exact (Kd.C_below HR.out HB.out) | (with_reducible refine Kd.C_alloc ?_ _) | (with_reducible refine Kd.C_drewN ?_ _) | (with_reducible refine Kd.C_drew ?_)))
                          (case aB => exact (by repeat (first | (with_reducible first | exact HB.out | apply below_alloc | apply pw_below_drewN | apply below_drew1) | exact HB.out)))
                          (case aF => exact (fun _ _ => trivial))
                          (case aO => exact (by (with_reducible repeat (first | apply Kd.R_alloc | apply Kd.R_drewN | apply Kd.R_drew)); exact HO.out))
                          (case aS => exact (below_size (by repeat (first | (with_reducible first | exact HB.out | apply below_alloc | apply pw_below_drewN | apply below_drew1) | exact HB.out))))
                          (case aL => have := HL.out; simp; omega)
                          intro v2 w2 ho hb hg hat))
    go_ret
    exact ⟨_, rfl, ho, hb⟩
end Go.Proofs.Ytmbbijhppgkdfaa.P14

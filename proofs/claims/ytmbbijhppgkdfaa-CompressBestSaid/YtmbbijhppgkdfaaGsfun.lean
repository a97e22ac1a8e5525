/- slices.SortedFunc of maps.Keys: the keys of the counts, sorted by Best's comparison. -/
import Derived.Test.YtmbbijhppgkdfaaGlay
import Derived.Test.YtmbbijhppgkdfaaTcount
import Derived.Shelf.SlSortCmp.NoneTotal
import Derived.Shelf.SlIter.Collect
import Derived.CallsIn
namespace Go.Proofs.Ytmbbijhppgkdfaa.P14
open Go.RowKit Go.Proofs.YtmbbijhppgkdfaaW.PrintWords Go.Proofs.YtmbbijhppgkdfaaW.PrintLast Go.Proofs.YtmbbijhppgkdfaaW.PrintMore
attribute [local go_sem] max2_int min2_int max_two min_two max_three min_three max_four min_four
set_option linter.unusedVariables false
set_option linter.unusedSimpArgs false
open Go.Sort Go.Proofs Go.Maps

/-- Short strings. -/
abbrev BS := {b : ByteArray // b.size ≤ 100}
instance : Inhabited BS := ⟨⟨⟨#[]⟩, Nat.zero_le _⟩⟩
def encB (x : BS) : Value := .string x.1
def dataB (x : BS) : List UInt8 := x.1.data.toList
def cfS (occ : List (List UInt8)) (x y : BS) : Int := cfB occ (dataB x) (dataB y)
theorem ltS (occ : List (List UInt8)) (x y : BS) : ltOf (cfS occ) x y = ltB occ (dataB x) (dataB y) := cfB_lt occ _ _
theorem swoS (occ : List (List UInt8)) : SWO (ltOf (cfS occ)) where
  irrefl x := by rw [ltS]; exact ltB_irr occ _
  trans x y z h1 h2 := by rw [ltS] at *; exact ltB_trans occ _ _ _ h1 h2
  ntrans x y z h1 h2 := by rw [ltS] at *; exact (ltB_swo occ).ntrans _ _ _ h1 h2
theorem totS (occ : List (List UInt8)) (x y : BS) (h1 : ltOf (cfS occ) x y = false) (h2 : ltOf (cfS occ) y x = false) : x = y := by
  rw [ltS] at h1 h2
  have := ltB_tri occ _ _ h1 h2
  obtain ⟨⟨a⟩, _⟩ := x
  obtain ⟨⟨b⟩, _⟩ := y
  have e : a = b := Array.toList_inj.mp this
  subst e
  rfl
/-- The map that counts, in a world. -/
structure Mp (W : World) (Bc bm n : Nat) (D : DM) : Prop where
  box : W.heap[Bc]? = some (.cells #[.map (some bm)] 73 (0, 0))
  own : W.ownsMap Try.prog 9 (plainElem Try.prog 3) bm n D
theorem Mp.far {W W' : World} {Bc bm n : Nat} {D : DM} (h : Mp W Bc bm n D) (hc : W'.heap[Bc]? = W.heap[Bc]?) (hm : W'.heap[bm]? = W.heap[bm]?) : Mp W' Bc bm n D := by
  obtain ⟨es, clock, hb, F, hs, hD⟩ := h.own
  exact ⟨hc.trans h.box, ⟨es, clock, hm.trans hb, F, hs, hD⟩⟩
theorem Mp.lt {W : World} {Bc bm n : Nat} {D : DM} (h : Mp W Bc bm n D) : Bc < W.heap.size ∧ bm < W.heap.size := ⟨blk_lt h.box, h.own.lt⟩
theorem Mp.below {W W' : World} {Bc bm n : Nat} {D : DM} (h : Mp W Bc bm n D) (hb : Below W.heap.size W W') : Mp W' Bc bm n D := h.far (hb.block Bc h.lt.1) (hb.block bm h.lt.2)
theorem sort86 (v : Value) (xs : List BS) (base Bc bm n : Nat) (D : DM) (occ : List (List UInt8)) (W : World) (hR : (Kd.scalar encB (fun _ => rfl)).R 9 W base (fun _ => True) v xs) (hM : Mp W Bc bm n D) (hD : Cnt D occ) (hB : Bc < base ∧ bm < base) (hl : xs.length < 4611686018427387904) :
    Calls Try.prog 86 #[v, .func (.func 53) #[] #[.pointer (some ⟨Bc, 0, none⟩)]] W fun e W' => e = .returned (.tuple #[]) ∧ (Kd.scalar encB (fun _ => rfl)).R 9 W' base (fun _ => True) v (xs.mergeSort fun x y => !(ltOf (cfS occ)) y x) ∧ W.grownBy W' v.ownBlock := by
  have hown := Kd.own_of_R hR
  obtain ⟨h1, h2⟩ := hown
  rcases h2 with ⟨rfl, h2⟩ | ⟨g, cap, cur, rfl, h4, h5, h6⟩
  · have e : xs = [] := List.eq_nil_of_length_eq_zero h2
    subst e
    have h := AnyF.slices_SortFunc_none (P := Try.prog) (ρ := sortS_ren) { sortS_lay with } none 0 (.func (.func 53) #[] #[.pointer (some ⟨Bc, 0, none⟩)]) W
    exact h.mono fun e W' ⟨he, hw⟩ => ⟨he, by rw [hw, show ([] : List BS).mergeSort (fun x y => !(ltOf (cfS occ)) y x) = [] by simp]; exact Kd.R_nil _ _ _ _ _, by rw [hw]; exact ⟨rfl, rfl, rfl, Nat.le_refl _, fun _ _ _ => rfl⟩⟩
  · obtain ⟨hH, hb, _⟩ := holds_of_R1 hR
    have eg : ∀ args w, (callFunc 53 args).run Try.prog w = .ok (.enter 53 args) w := enters_of Try.func53 (by kernel_rfl) rfl
    have hcmp : CmpLays1 Try.prog 53 #[.pointer (some ⟨Bc, 0, none⟩)] encB (cfS occ) g 0 xs.toArray.size W := fun m os dk hs x y => by
      have hM' : Mp (sortWorld encB W g 0 m dk os) Bc bm n D := hM.far (sort_far dk Bc hM.lt.1 (by omega)) (sort_far dk bm hM.lt.2 (by omega))
      have hbig : ∀ z : BS, z.1.size ≤ maxLen := fun z => by have := z.2; unfold maxLen; omega
      exact clos53 x.1 y.1 Bc bm n D occ _ ((blk_cell hM'.box 0).trans rfl) hM'.own hD (hbig x) (hbig y)
    have h := Any.slices_SortFunc_total sortS_lay encB (fun x => rfl) (cfS occ) (swoS occ) 53 #[.pointer (some ⟨Bc, 0, none⟩)] g 0 cap xs.toArray W eg hcmp hH hb (by simpa using hl) (totS occ)
    rw [show xs.toArray.size = xs.length by simp] at h
    refine Calls.mono h fun e W' ⟨he, n', os, hw⟩ => ?_
    rw [show xs.toArray.toList = xs by simp] at hw
    obtain ⟨r1, r2⟩ := R_sorted1 (m := n') (os := os) (ts := xs.mergeSort fun x y => !(ltOf (cfS occ)) y x) hR (by simp)
    subst hw
    exact ⟨he, r1, r2⟩
theorem app99 (Bm bm n : Nat) (D : DM) (W : World) (hm : W.cell? ⟨Bm, 0, none⟩ = some (.map (some bm))) (hown : W.ownsMap Try.prog 9 (plainElem Try.prog 3) bm n D) (hB : Bm < W.heap.size) (hN : Maps.size D ≤ 1000000) :
    Calls Try.prog 99 #[.slice none 0 0, .func (.func 87) #[] #[.pointer (some ⟨Bm, 0, none⟩)]] W fun e w' => ∃ (v : Value) (ss : List (List UInt8)), e = .returned v ∧ ss.Perm (strKeys D) ∧ w'.ownsRow W.heap.size 9 1 v ss.length (ss.map encStr) ∧ (v = .slice none 0 0 ↔ ss = []) ∧ Below W.heap.size W w' :=
  (callsIn_wide (n := 5)).1 (AnyZ.appendSeq_in keys11_lay Fence.wide 5 trivial rfl (by omega) 87 #[.pointer (some ⟨Bm, 0, none⟩)] trivial (enters_of Try.func87 (by kernel_rfl) rfl) (fun ss => ss.Perm (strKeys D)) (Maps.size D) (by unfold maxLen; omega) (by omega) W
    (AnyZ.keys_gives keys10_lay Fence.wide (5 - 1) trivial rfl (by omega) Bm bm n D W hB hm hown))
theorem keys_xs (ss : List (List UInt8)) (h : ∀ s ∈ ss, s.length ≤ 100) : ∃ xs : List BS, xs.length = ss.length ∧ encs encB xs = ss.map encStr ∧ xs.map dataB = ss := by
  induction ss with
  | nil => exact ⟨[], rfl, rfl, rfl⟩
  | cons s t ih =>
    obtain ⟨xs, h1, h2, h3⟩ := ih (fun s hs => h s (List.mem_cons_of_mem _ hs))
    have hs : (⟨s.toArray⟩ : ByteArray).size ≤ 100 := by
      show s.toArray.size ≤ 100
      have := h s List.mem_cons_self
      simpa using this
    refine ⟨⟨⟨s.toArray⟩, hs⟩ :: xs, by simp [h1], ?_, ?_⟩
    · show encB _ :: encs encB xs = encStr s :: t.map encStr
      rw [h2]
      rfl
    · show dataB _ :: xs.map dataB = s :: t
      rw [h3]
      rfl
theorem keyd_xs (occ : List (List UInt8)) (D : DM) (hD : Cnt D occ) (ss : List (List UInt8)) (hp : ss.Perm (strKeys D)) (xs : List BS) (hx : xs.map dataB = ss) : Keyd occ ((xs.mergeSort fun x y => !(ltOf (cfS occ)) y x).map dataB) := by
  rw [List.map_mergeSort (s := fun x y => !(ltB occ) y x) (fun a _ b _ => by rw [ltS]), hx]
  obtain ⟨k1, k2⟩ := hD.keys
  exact keyd_sort occ ss (hp.nodup_iff.mpr k1) (fun s => by rw [hp.mem_iff, k2])
set_option maxHeartbeats 1000000 in
theorem sorted51 (Bm Bc bm n : Nat) (D : DM) (occ : List (List UInt8)) (W : World) (hm : W.cell? ⟨Bm, 0, none⟩ = some (.map (some bm))) (hBm : Bm < W.heap.size) (hM : Mp W Bc bm n D) (hD : Cnt D occ) (hN : Maps.size D ≤ 1000000) (hocc : ∀ s ∈ occ, s.length ≤ 100) :
    Calls Try.prog 51 #[.func (.func 87) #[] #[.pointer (some ⟨Bm, 0, none⟩)], .func (.func 53) #[] #[.pointer (some ⟨Bc, 0, none⟩)]] W fun e w' => ∃ (v : Value) (xs : List BS), e = .returned v ∧ Keyd occ (xs.map dataB) ∧ (Kd.scalar encB (fun _ => rfl)).R 9 w' W.heap.size (fun _ => True) v xs ∧ Below W.heap.size W w' := by
  have HA := Aside0.mk (app99 Bm bm n D W hm hM.own hBm hN)
  have HM := Aside0.mk hM
  have HD := Aside0.mk hD
  have HO := Aside0.mk hocc
  have HN := Aside0.mk hN
  clear hm hBm hM hD hN hocc
  have HC : Aside0 (Calls Try.prog 85 #[.func (.func 87) #[] #[.pointer (some ⟨Bm, 0, none⟩)]] W fun e w' => ∃ (v : Value) (xs : List BS), e = .returned v ∧ xs.length ≤ 1000000 ∧ Keyd occ ((xs.mergeSort fun x y => !(ltOf (cfS occ)) y x).map dataB) ∧ (Kd.scalar encB (fun _ => rfl)).R 9 w' W.heap.size (fun _ => True) v xs ∧ Below W.heap.size W w') := by
    constructor
    go_enter Try.func85, Try.ntmps85
    go_wp2_with (go_at_call 99; refine HA.out.mono ?_; rintro e w1 ⟨v, ss, rfl, h1, h2, h3, h4⟩; have H1 := Aside0.mk h1; have H2 := Aside0.mk h2; have H4 := Aside0.mk h4; clear h1 h2 h3 h4)
    go_ret
    obtain ⟨xs, x1, x2, x3⟩ := keys_xs ss (fun s hs => HO.out s ((HD.out.keys.2 s).mp (H1.out.mem_iff.mp hs)))
    have hlen : ss.length ≤ 1000000 := by
      rw [H1.out.length_eq]
      have := HN.out
      obtain ⟨es, e, _⟩ := HD.out.ex
      rw [e] at this ⊢
      show (es.map fun p => strOf p.1).length ≤ _
      rw [List.length_map]
      exact this
    exact ⟨v, xs, rfl, by omega, keyd_xs occ D HD.out ss H1.out xs x3, Kd.R_of_own (by rw [x2, x1]; exact H2.out) (fun _ _ => trivial), H4.out⟩
  clear HA
  go_enter Try.func51, Try.ntmps51
  go_wp2_with (first | (go_at_call 85; refine HC.out.mono ?_; rintro e w1 ⟨v, xs, rfl, h1, h2, h3, h4⟩; have H1 := Aside0.mk h1; have H2 := Aside0.mk h2; have H3 := Aside0.mk h3; have H4 := Aside0.mk h4; clear h1 h2 h3 h4) | (go_at_call 86; refine (sort86 v xs W.heap.size Bc bm n D occ _ H3.out (HM.out.below H4.out) HD.out HM.out.lt (by have := H1.out; omega)).mono ?_; rintro e w2 ⟨rfl, h5, h6⟩; have H5 := Aside0.mk h5; have H6 := Aside0.mk h6; clear h5 h6))
  go_ret
  exact ⟨_, _, rfl, H2.out, H5.out, H4.out.grown H6.out H4.out.size (fun k hk => Kd.R_base H3.out k hk)⟩
end Go.Proofs.Ytmbbijhppgkdfaa.P14

/- Reading the bits of a header gives the header: plain laws. -/
import Derived.Test.YtmbbijhppgkdfaaTpack
import Derived.Test.YtmbbijhppgkdfaaTexp
namespace Go.Proofs.Ytmbbijhppgkdfaa.P14
open Go.RowKit Go.Proofs.YtmbbijhppgkdfaaW.PrintWords Go.Proofs.YtmbbijhppgkdfaaW.PrintLast Go.Proofs.YtmbbijhppgkdfaaW.PrintMore
set_option linter.unusedVariables false
set_option linter.unusedSimpArgs false

theorem bind_to {α β : Type} {o : Option α} {f : α → Option β} {x : α} {r : Option β} (h : o = some x) (k : f x = r) : o.bind f = r := by
  subst h
  exact k
theorem bind_ex {α β γ : Type} {o : Option α} {f : α → Option β} {x : α} {r : γ → Option β} (h : o = some x) (k : ∃ q, f x = r q) : ∃ q, o.bind f = r q := by
  subst h
  exact k
theorem un_at (d : ByteArray) (hd : d.size ≤ 65536) (n : Nat) (hn : 1 ≤ n ∧ n ≤ 16) (k : Nat) (hk : n < k) (q v : Nat) (hv : v < 2 ^ n) (h : At d q (bitsOf n v)) : bitio_Reader_Unsigned.f k d (q : Int) 0 (n : Int) = some ((v : Int), d, ((q + n : Nat) : Int), 0) :=
  un_good d hd n hn k hk q v (q + n) (at_bits h hv)
theorem un_atI (d : ByteArray) (hd : d.size ≤ 65536) (n : Nat) (hn : 1 ≤ n ∧ n ≤ 16) (k : Nat) (hk : n < k) (q : Nat) (v : Int) (h0 : 0 ≤ v) (hv : v < 2 ^ n) (h : At d q (bI n v)) : bitio_Reader_Unsigned.f k d (q : Int) 0 (n : Int) = some (v, d, ((q + n : Nat) : Int), 0) := by
  have := un_at d hd n hn k hk q v.toNat ((Int.toNat_lt h0).mpr (by simpa using hv)) h
  rw [Int.toNat_of_nonneg h0] at this
  exact this
theorem fl_at (d : ByteArray) (hd : d.size ≤ 65536) (k : Nat) (hk : 1 < k) (q : Nat) (b : Bool) (l : List Bool) (h : At d q (b :: l)) : bitio_Reader_Flag.f k d (q : Int) 0 = some (b, d, ((q + 1 : Nat) : Int), 0) := by
  obtain ⟨h1, h2, _⟩ := at_cons h
  rw [fl_good d hd k hk q h2, h1]
theorem bytesB_at (d r : ByteArray) (n : Nat) : ∀ (q : Nat), At d q (bytesB r n) → ∀ j, j < n → At d (q + 8 * j) (bitsOf 8 (bt r (j : Int)).toNat) := by
  induction n with
  | zero => intro q h j hj; omega
  | succ n ih =>
    intro q h j hj
    simp only [bytesB] at h
    obtain ⟨h1, h2⟩ := at_app h
    rw [bytesB_len] at h2
    by_cases hjn : j = n
    · subst hjn; exact h2
    · exact ih q h1 j (by omega)
theorem one_byte (r : ByteArray) (j : Nat) (h : j < r.size) : (strOfNums [(bt r (j : Int)) % 256]).data.toList = [r.data.toList.getD j 0] := by
  rw [strOfNums_data, bt_get]
  have := (r.data.toList.getD j 0).toNat_lt
  have e : (((r.data.toList.getD j 0).toNat : Int) % 256).toNat = (r.data.toList.getD j 0).toNat := by omega
  simp only [List.map_cons, List.map_nil, e, UInt8.ofNat_toNat]
theorem ba_ext {a b : ByteArray} (h : a.data.toList = b.data.toList) : a = b := by
  cases a; cases b
  exact congrArg ByteArray.mk (Array.toList_inj.mp h)
theorem ra_loop (d : ByteArray) (hd : d.size ≤ 65536) (a r p : ByteArray) (ha : a.size = 4) (hpr : a.data.toList = p.data.toList ++ r.data.toList) (q : Nat) (h : ∀ j, j < r.size → At d (q + 8 * j) (bitsOf 8 (bt r (j : Int)).toNat)) (m : Nat) :
    ∀ (j k : Nat) (x : ByteArray), j + m = r.size → x.data.toList = p.data.toList ++ r.data.toList.take j → m + 20 < k → compress_readAddress.l0 k x d ((q + 8 * j : Nat) : Int) 0 = some (a, true, d, ((q + 8 * r.size : Nat) : Int), 0) := by
  have hps : p.size + r.size = 4 := by
    have := congrArg List.length hpr
    rw [List.length_append] at this
    have e : ∀ b : ByteArray, b.data.toList.length = b.size := fun b => Array.length_toList
    rw [e, e, e] at this
    omega
  have e : ∀ b : ByteArray, b.data.toList.length = b.size := fun b => Array.length_toList
  induction m with
  | zero =>
    intro j k x hj hx hk
    obtain ⟨k, rfl⟩ : ∃ a, k = a + 1 := ⟨k - 1, by omega⟩
    have hxa : x = a := by
      apply ba_ext
      rw [hx, hpr, List.take_of_length_le (by rw [e]; omega)]
    simp only [compress_readAddress.l0]
    rw [hxa, if_neg (by omega), show j = r.size by omega]
  | succ m ih =>
    intro j k x hj hx hk
    obtain ⟨k, rfl⟩ : ∃ a, k = a + 1 := ⟨k - 1, by omega⟩
    have hxs : x.size = p.size + j := by
      have := congrArg List.length hx
      rw [List.length_append, List.length_take, e, e, e, Nat.min_eq_left (by omega)] at this
      exact this
    have hb := bt_rng r (j : Int)
    have hu := un_at d hd 8 (by decide) k (by omega) (q + 8 * j) (bt r (j : Int)).toNat (by omega) (h j (by omega))
    rw [Int.toNat_of_nonneg hb.1, show ((8 : Nat) : Int) = 8 from rfl] at hu
    have h1 := one_byte r j (by omega)
    have hsz : (strOfNums [(bt r (j : Int)) % 256]).size = 1 := by rw [strOfNums_size]; rfl
    simp only [compress_readAddress.l0]
    rw [if_pos (by omega)]
    refine bind_to hu ?_; dsimp only
    refine bind_to rfl ?_
    rw [if_pos (by rw [hsz]; omega)]
    have := ih (j + 1) k (x ++ strOfNums [(bt r (j : Int)) % 256]) (by omega) (by
      rw [ByteArray.data_append, Array.toList_append, hx, h1, List.append_assoc]
      congr 1
      rw [List.take_succ_eq_append_getElem (show j < r.data.toList.length by rw [e]; omega), gd_in _ _ (show j < r.data.toList.length by rw [e]; omega)]) (by omega)
    rw [show q + 8 * (j + 1) = q + 8 * j + 8 by omega] at this
    exact this
theorem fits_split {a p : ByteArray} (h : fitsB a p = true) : a.data.toList = p.data.toList ++ (a.extract p.size a.size).data.toList := by
  rw [← fits_join a p h, ByteArray.data_append, Array.toList_append]
theorem addr_at (d : ByteArray) (hd : d.size ≤ 65536) (cs : List S26) (h8 : cs.length ≤ 8) (a : ByteArray) (ha : a.size = 4) (q k : Nat) (hk : 60 < k) (h : At d q (addrB cs a)) : compress_readAddress.f k d (q : Int) 0 cs = some (a, true, d, ((q + (addrB cs a).length : Nat) : Int), 0) := by
  obtain ⟨k1, rfl⟩ : ∃ z, k = z + 1 := ⟨k - 1, by omega⟩
  have hr := findS_range cs a
  unfold compress_readAddress.f
  by_cases h0 : 0 ≤ findS cs a
  · have hf := findS_fits cs a h0
    have hrs : restS cs a = a.extract (rd_T26 cs (findS cs a)).f0.size a.size := by unfold restS; rw [if_pos h0]
    have hsp : a.data.toList = (rd_T26 cs (findS cs a)).f0.data.toList ++ (restS cs a).data.toList := by rw [hrs]; exact fits_split hf
    have hlen : (addrB cs a).length = 4 + 8 * (restS cs a).size := by
      unfold addrB headS
      rw [if_pos h0, List.length_append, List.length_cons, bitsOf_len, bytesB_len]
    rw [hlen]
    unfold addrB headS at h
    rw [if_pos h0] at h
    have hfl := fl_at d hd (k1 + 1) (by omega) q true _ h
    obtain ⟨h1, h2⟩ := at_app h
    obtain ⟨_, _, h3⟩ := at_cons h1
    have hu := un_at d hd 3 (by decide) (k1 + 1) (by omega) (q + 1) (findS cs a).toNat (by omega) h3
    rw [Int.toNat_of_nonneg h0, show ((3 : Nat) : Int) = 3 from rfl] at hu
    refine bind_to hfl ?_; dsimp only
    rw [if_pos rfl]
    refine bind_to hu ?_; dsimp only
    rw [if_neg (by omega), if_pos h0, if_pos hr.2]
    simp only [compress_readAddress.j0]
    rw [List.length_cons, bitsOf_len] at h2
    have := ra_loop d hd a (restS cs a) (rd_T26 cs (findS cs a)).f0 ha hsp (q + (3 + 1)) (bytesB_at d _ _ _ h2) (restS cs a).size 0 k1 (rd_T26 cs (findS cs a)).f0 (Nat.zero_add _) (by simp) (by have := restS_size cs a; omega)
    rw [Nat.mul_zero, Nat.add_zero, show q + (3 + 1) = q + 1 + 3 by omega] at this
    rw [this]
    congr 6
    omega
  · have hrs : restS cs a = a := by unfold restS; rw [if_neg h0]
    have hlen : (addrB cs a).length = 1 + 8 * a.size := by
      unfold addrB headS
      rw [if_neg h0, List.length_append, hrs, bytesB_len]
      rfl
    rw [hlen]
    unfold addrB headS at h
    rw [if_neg h0, hrs] at h
    obtain ⟨h1, h2⟩ := at_app h
    have hfl := fl_at d hd (k1 + 1) (by omega) q false [] h1
    refine bind_to hfl ?_; dsimp only
    rw [if_neg (by decide)]
    simp only [compress_readAddress.j0]
    have := ra_loop d hd a a (⟨#[]⟩ : ByteArray) ha (by simp) (q + 1) (bytesB_at d _ _ _ h2) a.size 0 k1 (⟨#[]⟩ : ByteArray) (Nat.zero_add _) (by simp) (by omega)
    rw [Nat.mul_zero, Nat.add_zero] at this
    rw [this]
    congr 6
    omega
theorem ports_at (d : ByteArray) (hd : d.size ≤ 65536) (a b : Int) (ha0 : 0 ≤ a) (ha1 : a ≤ 65535) (hb0 : 0 ≤ b) (hb1 : b ≤ 65535) (q k : Nat) (hk : 60 < k) (h : At d q (portsB a b)) : compress_readPorts.f k d (q : Int) 0 = some (a, b, d, ((q + (portsB a b).length : Nat) : Int), 0) := by
  have e2 : ((2 : Nat) : Int) = 2 := rfl
  have e4 : ((4 : Nat) : Int) = 4 := rfl
  have e8 : ((8 : Nat) : Int) = 8 := rfl
  have e16 : ((16 : Nat) : Int) = 16 := rfl
  unfold compress_readPorts.f
  unfold portsB at h ⊢
  by_cases c1 : (nearI a && nearI b) = true
  · rw [if_pos c1] at h ⊢
    obtain ⟨n1, n2⟩ := Bool.and_eq_true_iff.mp c1
    have n1 := of_decide_eq_true n1
    have n2 := of_decide_eq_true n2
    obtain ⟨h, h3⟩ := at_app h
    obtain ⟨h1, h2⟩ := at_app h
    rw [List.length_append, bI_len, bI_len] at h3
    rw [bI_len] at h2
    have u1 := un_atI d hd 2 (by decide) k (by omega) q 3 (by decide) (by decide) h1
    have u2 := un_atI d hd 4 (by decide) k (by omega) (q + 2) (a - 61616) (by omega) (by omega) h2
    have u3 := un_atI d hd 4 (by decide) k (by omega) (q + (2 + 4)) (b - 61616) (by omega) (by omega) h3
    rw [e2] at u1; rw [e4] at u2 u3
    refine bind_to u1 ?_; dsimp only
    rw [if_pos rfl]; refine bind_to u2 ?_; dsimp only
    rw [show q + 2 + 4 = q + (2 + 4) by omega]; refine bind_to u3 ?_; dsimp only
    have w1 : wrap64 (a - 61616 + 61616) = a := by unfold wrap64; omega
    have w2 : wrap64 (b - 61616 + 61616) = b := by unfold wrap64; omega
    rw [w1, w2, List.length_append, List.length_append, bI_len, bI_len, bI_len]
  · rw [if_neg c1] at h ⊢
    by_cases c2 : a = b
    · rw [if_pos c2] at h ⊢
      obtain ⟨h1, h2⟩ := at_app h
      rw [bI_len] at h2
      have u1 := un_atI d hd 2 (by decide) k (by omega) q 1 (by decide) (by decide) h1
      have u2 := un_atI d hd 16 (by decide) k (by omega) (q + 2) a (by omega) (by omega) h2
      rw [e2] at u1; rw [e16] at u2
      refine bind_to u1 ?_; dsimp only
      rw [if_neg (by decide), if_pos rfl]; refine bind_to u2 ?_; dsimp only
      rw [List.length_append, bI_len, bI_len, c2]
    · rw [if_neg c2] at h ⊢
      by_cases c3 : farI a = true
      · rw [if_pos c3] at h ⊢
        have n1 := of_decide_eq_true c3
        obtain ⟨h, h3⟩ := at_app h
        obtain ⟨h1, h2⟩ := at_app h
        rw [List.length_append, bI_len, bI_len] at h3
        rw [bI_len] at h2
        have u1 := un_atI d hd 2 (by decide) k (by omega) q 2 (by decide) (by decide) h1
        have u2 := un_atI d hd 8 (by decide) k (by omega) (q + 2) (a - 61440) (by omega) (by omega) h2
        have u3 := un_atI d hd 16 (by decide) k (by omega) (q + (2 + 8)) b (by omega) (by omega) h3
        rw [e2] at u1; rw [e8] at u2; rw [e16] at u3
        refine bind_to u1 ?_; dsimp only
        rw [if_neg (by decide), if_neg (by decide), if_pos rfl]; refine bind_to u2 ?_; dsimp only
        rw [show q + 2 + 8 = q + (2 + 8) by omega]; refine bind_to u3 ?_; dsimp only
        have w1 : wrap64 (a - 61440 + 61440) = a := by unfold wrap64; omega
        rw [w1, List.length_append, List.length_append, bI_len, bI_len, bI_len]
      · rw [if_neg c3] at h ⊢
        obtain ⟨h, h3⟩ := at_app h
        obtain ⟨h1, h2⟩ := at_app h
        rw [List.length_append, bI_len, bI_len] at h3
        rw [bI_len] at h2
        have u1 := un_atI d hd 2 (by decide) k (by omega) q 0 (by decide) (by decide) h1
        have u2 := un_atI d hd 16 (by decide) k (by omega) (q + 2) a (by omega) (by omega) h2
        have u3 := un_atI d hd 16 (by decide) k (by omega) (q + (2 + 16)) b (by omega) (by omega) h3
        rw [e2] at u1; rw [e16] at u2 u3
        refine bind_to u1 ?_; dsimp only
        rw [if_neg (by decide), if_neg (by decide), if_neg (by decide)]; refine bind_to u2 ?_; dsimp only
        rw [show q + 2 + 16 = q + (2 + 16) by omega]; refine bind_to u3 ?_; dsimp only
        rw [List.length_append, List.length_append, bI_len, bI_len, bI_len]
theorem j1_at (d : ByteArray) (hd : d.size ≤ 65536) (cs : List S26) (h8 : cs.length ≤ 8) (h : S24) (ho : okH h) (q k : Nat) (hk : 61 < k) (y2 y3 : ByteArray) (y4 y5 y6 : Int) (hA : At d q (addrB cs h.f2 ++ addrB cs h.f3 ++ portsB h.f4 h.f5 ++ lenB h.f6)) :
    ∃ q' : Int, compress_read.j1 k cs d (q : Int) 0 h.f0 h.f1 y2 y3 y4 y5 y6 = some (h.f0, h.f1, h.f2, h.f3, h.f4, h.f5, h.f6, true, d, q', 0) := by
  obtain ⟨o0, o1, o2, o3, o4, o5, o6⟩ := ho
  obtain ⟨k, rfl⟩ : ∃ z, k = z + 1 := ⟨k - 1, by omega⟩
  obtain ⟨hA, h4⟩ := at_app hA
  obtain ⟨hA, h3⟩ := at_app hA
  obtain ⟨h1, h2⟩ := at_app hA
  simp only [List.length_append] at h3 h4
  have u1 := addr_at d hd cs h8 h.f2 o2 q k (by omega) h1
  have u2 := addr_at d hd cs h8 h.f3 o3 _ k (by omega) h2
  rw [← Nat.add_assoc] at h3
  have u3 := ports_at d hd h.f4 h.f5 o4.1 o4.2 o5.1 o5.2 _ k (by omega) h3
  rw [← Nat.add_assoc, ← Nat.add_assoc] at h4
  simp only [compress_read.j1]
  refine bind_ex u1 ?_; dsimp only
  refine bind_ex u2 ?_; dsimp only
  refine bind_ex u3 ?_; dsimp only
  generalize q + (addrB cs h.f2).length + (addrB cs h.f3).length + (portsB h.f4 h.f5).length = Q at h4
  unfold lenB at h4
  by_cases c : h.f6 > 63
  · rw [if_pos c] at h4
    have f1 := fl_at d hd k (by omega) Q true _ h4
    obtain ⟨_, _, h5⟩ := at_cons h4
    have u4 := un_atI d hd 12 (by decide) k (by omega) (Q + 1) h.f6 (by omega) (by omega) h5
    rw [show ((12 : Nat) : Int) = 12 from rfl] at u4
    refine bind_ex f1 ?_; dsimp only
    rw [if_pos rfl]; refine bind_ex u4 ?_; dsimp only
    exact ⟨_, rfl⟩
  · rw [if_neg c] at h4
    have f1 := fl_at d hd k (by omega) Q false _ h4
    obtain ⟨_, _, h5⟩ := at_cons h4
    have u4 := un_atI d hd 6 (by decide) k (by omega) (Q + 1) h.f6 (by omega) (by omega) h5
    rw [show ((6 : Nat) : Int) = 6 from rfl] at u4
    refine bind_ex f1 ?_; dsimp only
    rw [if_neg (by decide)]; refine bind_ex u4 ?_; dsimp only
    exact ⟨_, rfl⟩
theorem j0_at (d : ByteArray) (hd : d.size ≤ 65536) (cs : List S26) (h8 : cs.length ≤ 8) (h : S24) (ho : okH h) (q k : Nat) (hk : 62 < k) (y1 : Int) (y2 y3 : ByteArray) (y4 y5 y6 : Int) (hA : At d q (limB h.f1 ++ (addrB cs h.f2 ++ addrB cs h.f3 ++ portsB h.f4 h.f5 ++ lenB h.f6))) :
    ∃ q' : Int, compress_read.j0 k cs d (q : Int) 0 h.f0 y1 y2 y3 y4 y5 y6 = some (h.f0, h.f1, h.f2, h.f3, h.f4, h.f5, h.f6, true, d, q', 0) := by
  have ho' := ho
  obtain ⟨o0, o1, o2, o3, o4, o5, o6⟩ := ho
  obtain ⟨k, rfl⟩ : ∃ z, k = z + 1 := ⟨k - 1, by omega⟩
  obtain ⟨h1, h2⟩ := at_app hA
  have J := fun q' hq' => j1_at d hd cs h8 h ho' q' k (by omega) y2 y3 y4 y5 y6 hq'
  have e2 : ((2 : Nat) : Int) = 2 := rfl
  have e8 : ((8 : Nat) : Int) = 8 := rfl
  simp only [compress_read.j0]
  refine bind_ex (x := [(-1), 1, 64, 255]) rfl ?_
  unfold limB at h1 h2
  by_cases c1 : h.f1 = 1
  · rw [if_pos c1] at h1 h2
    have u := un_atI d hd 2 (by decide) k (by omega) q 1 (by decide) (by decide) h1
    rw [e2] at u
    rw [bI_len] at h2
    refine bind_ex u ?_; dsimp only
    rw [if_pos (by decide), if_pos (by decide), if_neg (by decide)]
    have := J _ h2
    rw [c1] at this
    rw [c1]
    exact this
  · rw [if_neg c1] at h1 h2
    by_cases c2 : h.f1 = 64
    · rw [if_pos c2] at h1 h2
      have u := un_atI d hd 2 (by decide) k (by omega) q 2 (by decide) (by decide) h1
      rw [e2] at u
      rw [bI_len] at h2
      refine bind_ex u ?_; dsimp only
      rw [if_pos (by decide), if_pos (by decide), if_neg (by decide)]
      have := J _ h2
      rw [c2] at this
      rw [c2]
      exact this
    · rw [if_neg c2] at h1 h2
      by_cases c3 : h.f1 = 255
      · rw [if_pos c3] at h1 h2
        have u := un_atI d hd 2 (by decide) k (by omega) q 3 (by decide) (by decide) h1
        rw [e2] at u
        rw [bI_len] at h2
        refine bind_ex u ?_; dsimp only
        rw [if_pos (by decide), if_pos (by decide), if_neg (by decide)]
        have := J _ h2
        rw [c3] at this
        rw [c3]
        exact this
      · rw [if_neg c3] at h1 h2
        obtain ⟨h3, h4⟩ := at_app h1
        rw [bI_len] at h4
        rw [List.length_append, bI_len, bI_len, ← Nat.add_assoc] at h2
        have u := un_atI d hd 2 (by decide) k (by omega) q 0 (by decide) (by decide) h3
        have u2 := un_atI d hd 8 (by decide) k (by omega) (q + 2) h.f1 (by omega) (by omega) h4
        rw [e2] at u; rw [e8] at u2
        refine bind_ex u ?_; dsimp only
        rw [if_pos (by decide), if_pos (by decide), if_pos (by decide)]; refine bind_ex u2 ?_; dsimp only
        exact J _ h2
theorem read_at (d : ByteArray) (hd : d.size ≤ 65536) (cs : List S26) (h8 : cs.length ≤ 8) (h : S24) (ho : okH h) (hA : At d 0 (headB cs h)) :
    ∃ q' : Int, compress_read.f 1000 cs d 0 0 = some (h.f0, h.f1, h.f2, h.f3, h.f4, h.f5, h.f6, true, d, q', 0) := by
  have ho' := ho
  obtain ⟨o0, o1, o2, o3, o4, o5, o6⟩ := ho
  have hA' : At d 0 (clsB h.f0 ++ (limB h.f1 ++ (addrB cs h.f2 ++ addrB cs h.f3 ++ portsB h.f4 h.f5 ++ lenB h.f6))) := by
    have e : headB cs h = clsB h.f0 ++ (limB h.f1 ++ (addrB cs h.f2 ++ addrB cs h.f3 ++ portsB h.f4 h.f5 ++ lenB h.f6)) := by unfold headB; simp only [List.append_assoc]
    rw [e] at hA
    exact hA
  clear hA
  obtain ⟨h1, h2⟩ := at_app hA'
  have J := fun q' hq' => j0_at d hd cs h8 h ho' q' 1000 (by omega) 0 ⟨#[]⟩ ⟨#[]⟩ 0 0 0 hq'
  have e0 : ((0 : Nat) : Int) = 0 := rfl
  unfold compress_read.f
  unfold clsB at h1 h2
  by_cases c : h.f0 = 0
  · rw [if_pos c] at h1 h2
    have f1 := fl_at d hd 1000 (by omega) 0 false _ h1
    rw [e0] at f1
    refine bind_ex f1 ?_; dsimp only
    rw [if_neg (by decide)]
    have := J _ h2
    rw [c] at this
    rw [c]
    exact this
  · rw [if_neg c] at h1 h2
    have f1 := fl_at d hd 1000 (by omega) 0 true _ h1
    rw [e0] at f1
    obtain ⟨_, _, h3⟩ := at_cons h1
    have u := un_atI d hd 8 (by decide) 1000 (by omega) (0 + 1) h.f0 (by omega) (by omega) h3
    rw [show ((8 : Nat) : Int) = 8 from rfl] at u
    refine bind_ex f1 ?_; dsimp only
    rw [if_pos rfl]; refine bind_ex u ?_; dsimp only
    rw [List.length_cons, bI_len] at h2
    exact J _ h2
end Go.Proofs.Ytmbbijhppgkdfaa.P14

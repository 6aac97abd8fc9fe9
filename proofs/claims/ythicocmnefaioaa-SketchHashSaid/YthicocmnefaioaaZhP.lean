import Derived.Test.YthicocmnefaioaaZh5
namespace Go.Proofs.Ythicocmnefaioaa.Pure
open Go.RowKit Go.Proofs.Ythicocmnefaioaa.QS Go.Proofs.YthicocmnefaioaaW.PrintWords Go.Proofs.YthicocmnefaioaaW.PrintLast Go.Proofs.YthicocmnefaioaaW.PrintMore
open Go.IntWalk (wrap64_in)
theorem up {α : Type} {f : Nat → Option α} (h : ∀ k, LeO (f k) (f (k + 1))) {a : Nat} {r : α} (h0 : f a = some r) : ∀ {k}, a ≤ k → f k = some r := by
  intro k hk
  obtain ⟨d, rfl⟩ := Nat.le.dest hk
  clear hk
  induction d with
  | zero => exact h0
  | succ n ih => exact h _ r ih
theorem awake_ok {k : Nat} (hk : 200 ≤ k) : erasurelaw12_awake.f k = some true := up (f := fun k => erasurelaw12_awake.f k) erasurelaw12_awake.mono (by kernel_rfl) hk
theorem u64w (z : Int) : IntKind.u64.wrap z = z % 18446744073709551616 := by
  simp [IntKind.wrap, IntKind.bits, IntKind.signed]
theorem valid_eq (a b : Int) (c : ByteArray) : value_Valid.f a b c = erasureref01_Valid.f a b c := by
  unfold value_Valid.f erasureref01_Valid.f value_inRange.f
  by_cases h0 : a = 0
  · rw [if_pos h0, if_pos h0]
  · rw [if_neg h0, if_neg h0]
    by_cases h1 : a = 1
    · rw [if_pos h1, if_pos h1]
      by_cases h2 : b ≥ -4294967296
      · rw [if_pos h2, if_pos h2]
        by_cases h3 : b ≤ 4294967296
        · simp [h3]
        · simp [h3]
      · rw [if_neg h2, if_neg h2]
        simp
    · rw [if_neg h1, if_neg h1]
theorem clean_eq (a b : Int) (c : ByteArray) : value_Clean.f a b c = erasureref01_Clean.f a b c := by
  unfold value_Clean.f erasureref01_Clean.f
  rw [valid_eq]
theorem clean_ok (a b : Int) (c : ByteArray) (hc : c.size ≤ 200) : ∃ x y z, erasureref01_Clean.f a b c = some (x, y, z) ∧ (x = 1 → -4294967296 ≤ y ∧ y ≤ 4294967296) ∧ z.size ≤ 200 := by
  unfold erasureref01_Clean.f erasureref01_Valid.f
  by_cases h0 : a = 0
  · rw [if_pos h0]
    by_cases h1 : b = 0
    · rw [if_pos h1]
      simp only [Option.bind_some]
      split
      · exact ⟨_, _, _, rfl, fun h => by omega, hc⟩
      · exact ⟨_, _, _, rfl, fun h => by omega, by decide +kernel⟩
    · rw [if_neg h1]
      exact ⟨_, _, _, rfl, fun h => by omega, by decide +kernel⟩
  · rw [if_neg h0]
    by_cases h1 : a = 1
    · rw [if_pos h1]
      by_cases h2 : b ≥ -4294967296
      · rw [if_pos h2]
        by_cases h3 : b ≤ 4294967296
        · rw [if_pos h3]
          simp only [Option.bind_some]
          split
          · exact ⟨_, _, _, rfl, fun _ => ⟨h2, h3⟩, hc⟩
          · exact ⟨_, _, _, rfl, fun h => by omega, by decide +kernel⟩
        · rw [if_neg h3]
          exact ⟨_, _, _, rfl, fun h => by omega, by decide +kernel⟩
      · rw [if_neg h2]
        exact ⟨_, _, _, rfl, fun h => by omega, by decide +kernel⟩
    · rw [if_neg h1]
      by_cases h2 : a = 2
      · rw [if_pos h2]
        by_cases h3 : b = 0
        · rw [if_pos h3]
          simp only [Option.bind_some]
          split
          · exact ⟨_, _, _, rfl, fun h => by omega, hc⟩
          · exact ⟨_, _, _, rfl, fun h => by omega, by decide +kernel⟩
        · rw [if_neg h3]
          exact ⟨_, _, _, rfl, fun h => by omega, by decide +kernel⟩
      · rw [if_neg h2]
        exact ⟨_, _, _, rfl, fun h => by omega, by decide +kernel⟩
def tl (s : ByteArray) : Nat → Nat → List Int
  | 0, _ => [0, 0]
  | m + 1, i => bt s i :: (if bt s i = 0 then 255 :: tl s m (i + 1) else tl s m (i + 1))
theorem up1' (a : Nat) (h : a < 1000000) : wrap64 ((a : Int) + 1) = ((a + 1 : Nat) : Int) := by rw [wrap64_in _ (by omega)]; omega
theorem encP_l2 (v : S23) (s : ByteArray) (hs : s.size ≤ 200) : ∀ (m i k : Nat) (x : List Int), i + m = s.size → m + 10 ≤ k → x.length + 2 * m < 100000 →
    value_EncodeRow.l2 k x [v] 1 0 (bytesOf s) ((bytesOf s).length : Int) i = some (strOfNums (x ++ tl s m i)) := by
  intro m
  induction m with
  | zero =>
    intro i k x hi hk hx
    obtain ⟨j, rfl⟩ : ∃ j, k = j + 2 := ⟨k - 2, by omega⟩
    have hl := bytesOf_length s
    simp only [value_EncodeRow.l2]
    rw [if_neg (by omega)]
    simp only [Option.bind_some]
    rw [if_pos (by simp; omega)]
    simp only [value_EncodeRow.l0]
    rw [if_neg (by decide +kernel)]
    rfl
  | succ m ih =>
    intro i k x hi hk hx
    obtain ⟨j, rfl⟩ : ∃ j, k = j + 1 := ⟨k - 1, by omega⟩
    have hl := bytesOf_length s
    simp only [value_EncodeRow.l2]
    rw [if_pos (by omega), if_pos (by omega), if_pos (by omega), if_pos (by omega), rd_bytesOf]
    simp only [Option.bind_some]
    rw [up1' i (by omega), tl]
    by_cases h : bt s i = 0
    · rw [if_pos h, if_pos h, if_pos (by simp; omega), ih (i + 1) j _ (by omega) (by omega) (by simp; omega)]
      simp
    · rw [if_neg h, if_neg h, ih (i + 1) j _ (by omega) (by omega) (by simp; omega)]
      simp
theorem encR_l1 (v : S23) (a b : Int) (s : ByteArray) (hs : s.size ≤ 200) : ∀ (m i k : Nat) (x : List Int), i + m = s.size → m + 10 ≤ k → x.length + 2 * m < 100000 →
    erasureref01_EncodeRow.l1 k [v] x 0 i a b s = some (strOfNums (x ++ tl s m i)) := by
  intro m
  induction m with
  | zero =>
    intro i k x hi hk hx
    obtain ⟨j, rfl⟩ : ∃ j, k = j + 2 := ⟨k - 2, by omega⟩
    simp only [erasureref01_EncodeRow.l1]
    rw [if_neg (by omega)]
    simp only [Option.bind_some]
    rw [if_pos (by simp; omega)]
    simp only [erasureref01_EncodeRow.l0]
    rw [if_neg (by rw [show wrap64 (0 + 1) = 1 from by decide +kernel]; simp)]
    rfl
  | succ m ih =>
    intro i k x hi hk hx
    obtain ⟨j, rfl⟩ : ∃ j, k = j + 1 := ⟨k - 1, by omega⟩
    simp only [erasureref01_EncodeRow.l1]
    rw [if_pos (by omega), if_pos (by omega), if_pos (by omega)]
    simp only [Option.bind_some]
    rw [up1' i (by omega), tl]
    by_cases h : bt s i = 0
    · rw [if_pos h, if_pos h, if_pos (by simp; omega), ih (i + 1) j _ (by omega) (by omega) (by simp; omega)]
      simp
    · rw [if_neg h, if_neg h, ih (i + 1) j _ (by omega) (by omega) (by simp; omega)]
      simp
theorem shr8 (x : Int) (j : Int) (hj : 0 ≤ j) (hj2 : j ≤ 63) : shr .u64 x j = x / 2 ^ j.toNat := by
  unfold shr
  rw [Nat.min_eq_left (by simp [IntKind.bits]; omega)]
theorem enc_ok (a b : Int) (c : ByteArray) (hc : c.size ≤ 200) :
    ∃ L : List Int, L.length ≤ 1000 ∧ ∀ k, 1000 ≤ k → value_EncodeRow.f k [⟨a, b, c⟩] = some (strOfNums L) ∧ erasureref01_EncodeRow.f k [⟨a, b, c⟩] = some (strOfNums L) := by
  obtain ⟨x, y, z, e, h1, hz⟩ := clean_ok a b c hc
  have e' : value_Clean.f a b c = some (x, y, z) := (clean_eq a b c).trans e
  have w1 : wrap64 (0 + 1) = 1 := by decide +kernel
  by_cases hx : x = 1
  · obtain ⟨l1, l2⟩ := h1 hx
    have hw : wrap64 (y + 4294967296) = y + 4294967296 := wrap64_in _ (by omega)
    refine ⟨[2, (y + 4294967296) / 4294967296 % 256, (y + 4294967296) / 16777216 % 256, (y + 4294967296) / 65536 % 256, (y + 4294967296) / 256 % 256, (y + 4294967296) % 256], by simp, fun k hk => ⟨?_, ?_⟩⟩
    · obtain ⟨j, rfl⟩ : ∃ j, k = j + 8 := ⟨k - 8, by omega⟩
      have hu : IntKind.u64.wrap (y + 4294967296) = y + 4294967296 := by rw [u64w]; omega
      unfold value_EncodeRow.f
      simp only [value_EncodeRow.l0]
      rw [if_pos (by simp), if_pos (by decide), if_pos (by simp)]
      rw [show rd_T23 [(⟨a, b, c⟩ : S23)] 0 = ⟨a, b, c⟩ from rfl, e']
      simp only [Option.bind_some, hw, hu]
      rw [if_pos hx, if_pos (by simp)]
      simp only [value_EncodeRow.l1, show wrap64 (8 * 4) = 32 from by decide +kernel, show wrap64 (4 - 1) = 3 from by decide +kernel, show wrap64 (8 * 3) = 24 from by decide +kernel, show wrap64 (3 - 1) = 2 from by decide +kernel, show wrap64 (8 * 2) = 16 from by decide +kernel, show wrap64 (2 - 1) = 1 from by decide +kernel, show wrap64 (8 * 1) = 8 from by decide +kernel, show wrap64 (1 - 1) = 0 from by decide +kernel, show wrap64 (8 * 0) = 0 from by decide +kernel, show wrap64 (0 - 1) = -1 from by decide +kernel]
      rw [shr8 _ 32 (by decide) (by decide), shr8 _ 24 (by decide) (by decide), shr8 _ 16 (by decide) (by decide), shr8 _ 8 (by decide) (by decide), shr8 _ 0 (by decide) (by decide)]
      simp [value_EncodeRow.l0, show wrap64 1 = 1 from by decide +kernel]
    · obtain ⟨j, rfl⟩ : ∃ j, k = j + 2 := ⟨k - 2, by omega⟩
      unfold erasureref01_EncodeRow.f
      simp only [erasureref01_EncodeRow.l0]
      rw [if_pos (by simp), if_pos (by decide)]
      rw [show rd_T23 [(⟨a, b, c⟩ : S23)] 0 = ⟨a, b, c⟩ from rfl, e]
      simp only [Option.bind_some, hw]
      rw [if_pos hx, if_pos (by simp), w1]
      simp
  · by_cases hx2 : x = 2
    · subst hx2
      have hlen : ∀ (m i : Nat), (tl z m i).length ≤ 2 * m + 2 := by
        intro m
        induction m with
        | zero => intro i; simp [tl]
        | succ m ih => intro i; have := ih (i + 1); rw [tl]; split <;> simp <;> omega
      refine ⟨[3] ++ tl z z.size 0, by have := hlen z.size 0; simp; omega, fun k hk => ⟨?_, ?_⟩⟩
      · obtain ⟨j, rfl⟩ : ∃ j, k = j + 1 := ⟨k - 1, by omega⟩
        unfold value_EncodeRow.f
        simp only [value_EncodeRow.l0]
        rw [if_pos (by simp), if_pos (by decide), if_pos (by simp)]
        rw [show rd_T23 [(⟨a, b, c⟩ : S23)] 0 = ⟨a, b, c⟩ from rfl, e']
        simp only [Option.bind_some]
        rw [if_neg (by decide), if_pos trivial, if_pos (by simp), if_pos (by omega)]
        exact encP_l2 ⟨a, b, c⟩ z hz z.size 0 j [3] (by omega) (by omega) (by simp; omega)
      · obtain ⟨j, rfl⟩ : ∃ j, k = j + 1 := ⟨k - 1, by omega⟩
        unfold erasureref01_EncodeRow.f
        simp only [erasureref01_EncodeRow.l0]
        rw [if_pos (by simp), if_pos (by decide)]
        rw [show rd_T23 [(⟨a, b, c⟩ : S23)] 0 = ⟨a, b, c⟩ from rfl, e]
        simp only [Option.bind_some]
        rw [if_neg (by decide), if_pos trivial, if_pos (by simp)]
        exact encR_l1 ⟨a, b, c⟩ 2 y z hz z.size 0 j [3] (by omega) (by omega) (by simp; omega)
    · refine ⟨[1], by simp, fun k hk => ⟨?_, ?_⟩⟩
      · obtain ⟨j, rfl⟩ : ∃ j, k = j + 2 := ⟨k - 2, by omega⟩
        unfold value_EncodeRow.f
        simp only [value_EncodeRow.l0]
        rw [if_pos (by simp), if_pos (by decide), if_pos (by simp)]
        rw [show rd_T23 [(⟨a, b, c⟩ : S23)] 0 = ⟨a, b, c⟩ from rfl, e']
        simp only [Option.bind_some]
        rw [if_neg hx, if_neg hx2, if_pos (by simp), w1]
        simp
      · obtain ⟨j, rfl⟩ : ∃ j, k = j + 2 := ⟨k - 2, by omega⟩
        unfold erasureref01_EncodeRow.f
        simp only [erasureref01_EncodeRow.l0]
        rw [if_pos (by simp), if_pos (by decide)]
        rw [show rd_T23 [(⟨a, b, c⟩ : S23)] 0 = ⟨a, b, c⟩ from rfl, e]
        simp only [Option.bind_some]
        rw [if_neg hx, if_neg hx2, if_pos (by simp), w1]
        simp
theorem loop_eq (s : ByteArray) : ∀ (k : Nat) (h i : Int), sketch_Hash.l0 k h (bytesOf s) ((bytesOf s).length : Int) i = erasureref12_Hash.l0 k s h i
  | 0, _, _ => rfl
  | k + 1, h, i => by
    simp only [sketch_Hash.l0, erasureref12_Hash.l0, rd_bytesOf, bytesOf_length]
    by_cases h1 : i < (s.size : Int)
    · simp only [if_pos h1]
      by_cases h2 : 0 ≤ i
      · simp only [if_pos h2]
        have := loop_eq s k (IntKind.u64.wrap ((Go.bits .xor .u64 h (IntKind.u64.wrap (bt s i))) * 1099511628211)) (wrap64 (i + 1))
        rw [bytesOf_length] at this
        exact this
      · simp only [if_neg h2]
    · simp only [if_neg h1]
theorem loop_total (s : ByteArray) (hs : s.size < 100000) : ∀ (m i k : Nat) (h : Int), i + m = s.size → m + 1 ≤ k → ∃ r, erasureref12_Hash.l0 k s h i = some r := by
  intro m
  induction m with
  | zero =>
    intro i k h hi hk
    obtain ⟨j, rfl⟩ : ∃ j, k = j + 1 := ⟨k - 1, by omega⟩
    simp only [erasureref12_Hash.l0]
    rw [if_neg (by omega)]
    exact ⟨_, rfl⟩
  | succ m ih =>
    intro i k h hi hk
    obtain ⟨j, rfl⟩ : ∃ j, k = j + 1 := ⟨k - 1, by omega⟩
    simp only [erasureref12_Hash.l0]
    rw [if_pos (by omega), if_pos (by omega), up1' i (by omega)]
    exact ih (i + 1) j _ (by omega) (by omega)
theorem bytes_app (t : ByteArray) (b : Int) (h0 : 0 ≤ b) (h1 : b < 256) : bytesOf (t ++ strOfNums [b]) = bytesOf t ++ [b] := by
  unfold bytesOf
  rw [ByteArray.data_append, Array.toList_append, List.map_append, strOfNums_data]
  congr 1
  simp only [List.map_cons, List.map_nil]
  congr 1
  rw [UInt8.toNat_ofNat']
  omega
theorem hash_agree (a b : Int) (c : ByteArray) (d : Int) (hc : c.size ≤ 200) {k : Nat} (hk : 3000 ≤ k) : ∃ r, sketch_Hash.f k a b c d = some r ∧ erasureref12_Hash.f k a b c d = some r := by
  obtain ⟨L, hL, hE⟩ := enc_ok a b c hc
  obtain ⟨e1, e2⟩ := hE k (by omega)
  have hs : (strOfNums L).size = L.length := strOfNums_size L
  have hm : 0 ≤ d % 256 ∧ d % 256 < 256 := by omega
  have h2 : (strOfNums L ++ strOfNums [d % 256]).size = L.length + 1 := by rw [ByteArray.size_append, hs, strOfNums_size]; rfl
  obtain ⟨r, hr⟩ := loop_total (strOfNums L ++ strOfNums [d % 256]) (by omega) (L.length + 1) 0 k 14695981039346656037 (by omega) (by omega)
  refine ⟨r, ?_, ?_⟩
  · unfold sketch_Hash.f
    rw [e1]
    simp only [Option.bind_some]
    rw [if_pos (by omega), if_pos (by rw [bytesOf_length]; omega), ← bytes_app _ _ hm.1 hm.2, loop_eq]
    exact hr
  · unfold erasureref12_Hash.f
    rw [e2]
    simp only [Option.bind_some]
    rw [if_pos (by rw [hs, strOfNums_size]; simp; omega)]
    exact hr
theorem SketchHash (a0 a1 : Int) (a2 : ByteArray) (a3 : Int) : ∃ k, erasurelaw12_SketchHash.f k a0 a1 a2 a3 = some true := by
  obtain ⟨K, hK⟩ : ∃ K : Nat, 3000 ≤ K := ⟨3000, Nat.le_refl _⟩
  refine ⟨K, ?_⟩
  unfold erasurelaw12_SketchHash.f
  by_cases h : (a2.size : Int) > 200
  · rw [if_pos h, awake_ok (by omega)]
    rfl
  · rw [if_neg h]
    obtain ⟨r, e1, e2⟩ := hash_agree a0 a1 a2 a3 (by omega) hK
    obtain ⟨s, e3, e4⟩ := hash_agree a0 a1 a2 (Go.bits .and .i64 a3 7) (by omega) hK
    rw [e1, e2]
    simp only [Option.bind_some]
    rw [if_pos trivial, e3, e4]
    simp only [Option.bind_some]
    rw [if_pos trivial, awake_ok (by omega)]
    rfl
end Go.Proofs.Ythicocmnefaioaa.Pure

import Derived.Test.YthicocmnefaioaaZo0
namespace Go.Proofs.Ythicocmnefaioaa.QO
open Go.RowKit Go.Proofs.YthicocmnefaioaaW.dw Go.Proofs.YthicocmnefaioaaW.jA Go.Proofs.YthicocmnefaioaaW.lD
open Go.Proofs.YthicocmnefaioaaW.Sq
attribute [local go_sem] oH oF qQ qP nD nC oG oD
set_option linter.unusedVariables false
set_option linter.unusedSimpArgs false
attribute [local go_sem high] jV
def dO.l0 : Nat → List (S51) → List (S51) → Int → Int → Option (Bool)
 | 0, _, _, _, _ => none
 | k + 1, x0, x5, x6, x7 => if x7 < x6 then (if 0 ≤ x7 then (if x7 < (x5.length : Int) then ((fU.f k ((aH x5 x7).f0) ((aH x5 x7).f1)).bind fun t138 => (if t138 = true then (if ((aH x5 x7).f1) = 0 then (some false) else (if x7 > 0 then (if 0 ≤ (wrap64 (x7 - 1)) then (if (wrap64 (x7 - 1)) < (x0.length : Int) then ((dY.f k ((aH x0 (wrap64 (x7 - 1))).f0) ((aH x5 x7).f0)).bind fun JA => (if JA ≥ 0 then (some false) else (dO.l0 k x0 x5 x6 (wrap64 (x7 + 1))))) else (none)) else (none)) else (dO.l0 k x0 x5 x6 (wrap64 (x7 + 1))))) else (some false))) else (none)) else (none)) else (some (decide ((x0.length : Int) ≤ 4096)))
def dO.f (k : Nat) (l0 : List (S51)) : Option (Bool) := dO.l0 k l0 l0 (l0.length : Int) 0
theorem dO.gM : ∀ k, (∀ y0 y1 y2 y3, LeO (dO.l0 k y0 y1 y2 y3) (dO.l0 (k + 1) y0 y1 y2 y3))
 | 0 => fun _ _ _ _ r h => by simp [dO.l0] at h
 | k + 1 => by
  have ih0 := dO.gM k
  ·intro y0 y1 y2 y3; unfold dO.l0
   repeat' first
   | (with_reducible exact ih0 _ _ _ _)
   | (with_reducible exact fU.mono _ _ _)
   | (with_reducible exact dY.mono _ _ _)
   | (with_reducible exact LeO.refl _)
   | (with_reducible exact LeO.none _)
   | (with_reducible refine LeO.ite ?_ ?_)
   | (with_reducible refine LeO.bind ?_ (fun _ => ?_))
   | exact ih0 _ _ _ _
   | exact fU.mono _ _ _
   | exact dY.mono _ _ _
   | exact LeO.none _
   | refine LeO.ite ?_ ?_
   | refine LeO.bind ?_ (fun _ => ?_)
theorem dO.mono : ∀ a0 k, LeO (dO.f k a0) (dO.f (k + 1) a0) := by
 intro a0 k; have ih0 := dO.gM k; unfold dO.f
 repeat' first
   | (with_reducible exact ih0 _ _ _ _)
   | (with_reducible exact fU.mono _ _ _)
   | (with_reducible exact dY.mono _ _ _)
   | (with_reducible exact LeO.refl _)
   | (with_reducible exact LeO.none _)
   | (with_reducible refine LeO.ite ?_ ?_)
   | (with_reducible refine LeO.bind ?_ (fun _ => ?_))
   | exact ih0 _ _ _ _
   | exact fU.mono _ _ _
   | exact dY.mono _ _ _
   | exact LeO.none _
   | refine LeO.ite ?_ ?_
   | refine LeO.bind ?_ (fun _ => ?_)
def dO.T4 : Bool × List (List Nat × List Nat) := (true, [([], []), ([0], [0]), ([1], [1]), ([2, 1], [2]), ([3], [3]), ([4, 3], [3, 4]), ([5, 3], [3, 5]), ([3, 6], [3, 6]), ([7, 3], [7]), ([8], [8]), ([9, 8], [8, 9]), ([10, 8, 8], [8, 10]), ([11], [11]), ([11], [11]), ([13, 11], [11, 13]), ([12, 14, 11], [11, 12, 14]), ([15, 11], [11, 15]), ([16, 11], [11, 16]), ([11], [11]), ([18, 11], [11, 18]), ([17, 19, 11, 11], [11, 17, 19]), ([20, 11], [11, 20]), ([11, 21, 8], [8, 11, 21]), ([8, 22], [8, 22])])
def dO.B4 : List Nat := [0, 1, 3, 7, 15, 31, 63, 127, 255, 511, 1023, 2047, 4095, 4095, 12287, 32767, 65535, 131071, 4095, 266239, 1048575, 2097151, 4194303, 8388607]
theorem dO.Ie : kD .any (opsOf Try.f94 4) = dO.T4 := by kernel_rfl
theorem dO.zI : jS dO.T4.2 dO.B4 = true := by kernel_rfl
set_option maxHeartbeats 8000000 in
set_option maxRecDepth 100000 in
theorem dO.calls (k : Nat) (A0 : Option Addr) (c0 : Nat) (l0 : List (S51)) (r : Bool) (w : World) (hr0 : Kd.C k51 w A0 l0.length l0) (hc0 : l0.length ≤ c0) (h : dO.f k l0 = some r) :
  Calls Try.prog 94 #[.slice A0 l0.length c0] w fun e w' => e = .returned (.bool r) ∧ Below w.heap.size w w' := by
 have Np := Try.underlying51; have HR0 := ah.mk hr0; have HC0 := ah.mk hc0; clear hr0 hc0; have HB := ah.mk (Below.refl w.heap.size w); have H := h; clear h
 dsimp only [dO.f] at H
 have H' := ah.mk H; clear H
 go_enter Try.func94, Try.ntmps94
 go_wp2
 go_loopg [7] k (fun kq v7 w' => ∃ (bR : Int), v7 = .int .i64 bR ∧ ah (dO.l0 kq l0 l0 (l0.length : Int) bR = some r) ∧ ah (kq ≤ k) ∧ ah (Below w.heap.size w w'))
 case atStart => exact ⟨(0), zz2, H', ⟨Nat.le_refl _⟩, ⟨zz1⟩⟩
 case round =>
  clear H'; obtain ⟨bR, rfl, HA, HK1, HB⟩ := hrel
  cases gk with
  | zero => exact absurd HA.out (by simp [dO.l0])
  | succ k1 =>
   have H := HA.out; clear HA; simp only [dO.l0] at H
   by_cases c2 : bR < (l0.length : Int)
   ·rw [if_pos c2] at H; have pK : decide (bR < (l0.length : Int)) = true := decide_eq_true c2; clear c2
    by_cases c3 : 0 ≤ bR
    ·rw [if_pos c3] at H; have tH : decide (0 ≤ bR) = true := decide_eq_true c3; clear c3
     by_cases c4 : bR < (l0.length : Int)
     ·rw [if_pos c4] at H; have lI : decide (bR < (l0.length : Int)) = true := decide_eq_true c4; clear c4; replace H := Option.bind_eq_some_iff.mp H; obtain ⟨t138, A50, H⟩ := H; have A5 := ah.mk A50; clear A50
      by_cases c6 : t138 = true
      ·subst c6; rw [if_pos rfl] at H
       by_cases c7 : ((aH l0 bR).f1) = 0
       ·rw [if_pos c7] at H; have pJ : (((aH l0 bR).f1) == 0) = true := beq_iff_eq.mpr c7; have NI : (((aH l0 bR).f1) != 0) = false := bne_eq_false_iff_eq.mpr c7; clear c7; obtain rfl := Option.some.inj H; have vR : 0 ≤ (bR : Int) := of_decide_eq_true zz9; have vQ : bR < (l0.length : Int) := of_decide_eq_true zz9; obtain ⟨wU, iD, iy, Lu, mO, mM, mQ, mR⟩ := iR HR0.out bR vR vQ
        cases Lu
        replace mO := cB HB mO; replace mM := cB HB mM; have iO := ah.mk mR; have jl := ah.mk mQ; clear mR mQ; replace vR := eq_true vR; replace vQ := eq_true vQ
        try go_wp2_with (first | ((with_reducible refine bD (N := 4) rfl ?_); refine bq ?hg (N := 4) ?hd (cs := #[.slice none 0 0, .int .i64 0]) (t := 51) ?hr ?_; (case hd => rfl); (case hg => rfl); (case hr => first | (go_simp; done) | (go_simp; rfl)); intro ay hg w8 bF hb; have av := ah.mk (bF); have iX := ah.mk ((zz0 : w.heap.size ≤ ay)); have iC := ah.mk ((zz0 : w.heap.size ≤ ay)); replace HB := ah.mk (aA zz1 hb); clear hb bF hg; have uN : w8.cell? ⟨ay, 0, none⟩ = some (.slice none 0 0) := cK av 0; have uM : w8.cell? ⟨ay, 1, none⟩ = some (.int .i64 0) := cK av 1; have uK := aj av.out 0; have uJ := aj av.out 1))
        have n0_ : ah (((w8.setCell ⟨ay, 0, none⟩ (.slice iD ((aH l0 bR).f0).length iy)).setCell ⟨ay, 1, none⟩ (.int .i64 ((aH l0 bR).f1))).heap[ay]? = some (.cells #[.slice iD ((aH l0 bR).f0).length iy, .int .i64 ((aH l0 bR).f1)] 51 (0, 0))) := ⟨zz21⟩; have n1_ : ah (Below w.heap.size w ((w8.setCell ⟨ay, 0, none⟩ (.slice iD ((aH l0 bR).f0).length iy)).setCell ⟨ay, 1, none⟩ (.int .i64 ((aH l0 bR).f1)))) := ⟨xg⟩; (try clear av); (try clear HB); generalize ((w8.setCell ⟨ay, 0, none⟩ (.slice iD ((aH l0 bR).f0).length iy)).setCell ⟨ay, 1, none⟩ (.int .i64 ((aH l0 bR).f1))) = w10 at n0_ n1_ ⊢; have av := n0_; have HB := n1_; clear n0_ n1_; replace av := ah.mk (aK av.out); replace HB := ah.mk (bG HB.out); refine jd (n := 24) (S := fun w' => w'.cell? ⟨ay, 0, none⟩ = some (.slice iD ((aH l0 bR).f0).length iy) ∧ w'.cell? ⟨ay, 1, none⟩ = some (.int .i64 ((aH l0 bR).f1))) (ds := []) (.replicate 24 false) (by kernel_rfl) rfl rfl ⟨cK av 0, cK av 1⟩ (fun hHeld => ?_); refine iE dO.Ie dO.zI (fun HT_ HW_ => ?_); generalize w10.drew = w11 at av HB hHeld ⊢; refine tV (v := ?_) 0 12 (bA 24 1) HT_ HW_ hHeld ?_ ?_; rotate_left
        ·rintro w' ⟨s0, s1⟩
         go_simp
         (with_reducible rfl)
        refine oN 1 13 (bA 24 3) HT_ (fun K hK => ?_); refine iT Try.func115 (by kernel_rfl) rfl #[.agg #[.slice iD ((aH l0 bR).f0).length iy, .int .i64 ((aH l0 bR).f1)]] (by rfl) rfl rfl zz8 ?_; (with_reducible refine (fU.calls k1 _ _ ((aH l0 bR).f0) ((aH l0 bR).f1) true _ ?bZ ?cO A5.out).mono ?_); (case bZ => repeat (first | exact (Kd.eY iO.out HB.out) | (with_reducible refine Kd.dW ?_ _) | (with_reducible refine Kd.d9 ?_ _) | (with_reducible refine Kd.eT ?_))); (case cO => exact jl.out); rintro e w12 ⟨rfl, hb⟩; refine ⟨_, rfl, ?_⟩; replace av := ah.mk (aI (g := ay) (o := .cells #[.slice iD ((aH l0 bR).f0).length iy, .int .i64 ((aH l0 bR).f1)] 51 (0, 0)) fK hb); replace HB := ah.mk (aA xg hb); (try clear hb); (try clear hb2); (try clear hk); (try clear hi); refine hK.out _ _ ⟨cK av 0, cK av 1⟩ (fun hHeld => ?_); clear hK K; refine iV (a' := ?_) ?_ ?_; rotate_left
        ·show Act.put _ (some 13) _ = _
         simp only [Act.put, List.setIfInBounds_toArray, List.set_cons_zero, List.set_cons_succ, dJ, eu]
         rfl
        refine pV 2 14 (bA 24 7) HT_ ?_; refine pV 3 15 (bA 24 15) HT_ ?_; refine pV 4 16 (bA 24 31) HT_ ?_; refine tV (v := ?_) 5 17 (bA 24 63) HT_ HW_ hHeld ?_ ?_; rotate_left
        ·rintro w' ⟨s0, s1⟩
         go_simp
         (with_reducible rfl)
        refine pV 6 18 (bA 24 127) HT_ ?_; refine pV 7 19 (bA 24 255) HT_ ?_; refine pV 8 20 (bA 24 511) HT_ ?_; refine pU 9 21 (bA 24 1023) HT_ ?_; refine pU 10 22 (bA 24 2047) HT_ ?_; refine pU 11 23 (bA 24 4095) HT_ ?_; refine pU 12 24 (bA 24 8191) HT_ ?_; refine pU 13 25 (bA 24 16383) HT_ ?_; refine pU 14 26 (bA 24 32767) HT_ ?_; refine pU 15 27 (bA 24 65535) HT_ ?_; refine pU 16 28 (bA 24 131071) HT_ ?_; refine pU 17 29 (bA 24 262143) HT_ ?_; refine pU 18 30 (bA 24 524287) HT_ ?_; refine pU 19 31 (bA 24 1048575) HT_ ?_; refine pU 20 32 (bA 24 2097151) HT_ ?_; refine pU 21 33 (bA 24 4194303) HT_ ?_; refine pU 22 34 (bA 24 8388607) HT_ ?_; refine pV 23 35 (bA 24 16777215) HT_ ?_; refine kJ (j5 HT_.out (by kernel_rfl)) ?_
        try go_wp2
        go_ret
        exact ⟨zz6, xg⟩
       ·rw [if_neg c7] at H; have pJ : (((aH l0 bR).f1) == 0) = false := beq_eq_false_iff_ne.mpr c7; have NI : (((aH l0 bR).f1) != 0) = true := bne_iff_ne.mpr c7
        by_cases c13 : bR > 0
        ·rw [if_pos c13] at H; have IW : decide (0 < bR) = true := decide_eq_true c13; clear c13; obtain ⟨mJ, xL⟩ : ∃ j_ : Int, (wrap64 (bR - 1)) = j_ := ⟨_, rfl⟩; replace H : (if 0 ≤ (mJ) then (if (mJ) < (l0.length : Int) then ((dY.f k1 ((aH l0 (mJ)).f0) ((aH l0 bR).f0)).bind fun JA => (if JA ≥ 0 then (some false) else (dO.l0 k1 l0 l0 (l0.length : Int) (wrap64 (bR + 1))))) else (none)) else (none)) = some r := by first | (rw [xL] at H; exact H) | (simp only [xL] at H ⊢; exact H)
         (try rw [xL] at A5); have hji14w : (IntKind.i64.wrap (bR - 1)) = mJ := (dJ _).trans xL
         by_cases c15 : 0 ≤ (mJ)
         ·rw [if_pos c15] at H; have IV : decide (0 ≤ (mJ)) = true := decide_eq_true c15; clear c15
          by_cases c16 : (mJ) < (l0.length : Int)
          ·rw [if_pos c16] at H; have l8 : decide ((mJ) < (l0.length : Int)) = true := decide_eq_true c16; clear c16; replace H := Option.bind_eq_some_iff.mp H; obtain ⟨JA, Oh, H⟩ := H; have A17 := ah.mk Oh; clear Oh
           by_cases c18 : JA ≥ 0
           ·rw [if_pos c18] at H; have IU : decide (0 ≤ JA) = true := decide_eq_true c18; clear c18; obtain rfl := Option.some.inj H; have vR : 0 ≤ (bR : Int) := of_decide_eq_true zz9; have vQ : bR < (l0.length : Int) := of_decide_eq_true zz9; obtain ⟨wU, iD, iy, Lu, mO, mM, mQ, mR⟩ := iR HR0.out bR vR vQ
            cases Lu
            replace mO := cB HB mO; replace mM := cB HB mM; have iO := ah.mk mR; have jl := ah.mk mQ; clear mR mQ; replace vR := eq_true vR; replace vQ := eq_true vQ
            try go_wp2_with (first | ((with_reducible refine bD (N := 4) rfl ?_); refine bq ?hg (N := 4) ?hd (cs := #[.slice none 0 0, .int .i64 0]) (t := 51) ?hr ?_; (case hd => rfl); (case hg => rfl); (case hr => first | (go_simp; done) | (go_simp; rfl)); intro ay hg w19 bF hb; have av := ah.mk (bF); have iX := ah.mk ((zz0 : w.heap.size ≤ ay)); have iC := ah.mk ((zz0 : w.heap.size ≤ ay)); replace HB := ah.mk (aA zz1 hb); clear hb bF hg; have oZ : w19.cell? ⟨ay, 0, none⟩ = some (.slice none 0 0) := cK av 0; have oW : w19.cell? ⟨ay, 1, none⟩ = some (.int .i64 0) := cK av 1; have qx := aj av.out 0; have oK := aj av.out 1))
            have n0_ : ah (((w19.setCell ⟨ay, 0, none⟩ (.slice iD ((aH l0 bR).f0).length iy)).setCell ⟨ay, 1, none⟩ (.int .i64 ((aH l0 bR).f1))).heap[ay]? = some (.cells #[.slice iD ((aH l0 bR).f0).length iy, .int .i64 ((aH l0 bR).f1)] 51 (0, 0))) := ⟨zz21⟩; have n1_ : ah (Below w.heap.size w ((w19.setCell ⟨ay, 0, none⟩ (.slice iD ((aH l0 bR).f0).length iy)).setCell ⟨ay, 1, none⟩ (.int .i64 ((aH l0 bR).f1)))) := ⟨xg⟩; (try clear av); (try clear HB); generalize ((w19.setCell ⟨ay, 0, none⟩ (.slice iD ((aH l0 bR).f0).length iy)).setCell ⟨ay, 1, none⟩ (.int .i64 ((aH l0 bR).f1))) = w21 at n0_ n1_ ⊢; have av := n0_; have HB := n1_; clear n0_ n1_; replace av := ah.mk (aK av.out); replace HB := ah.mk (bG HB.out); have PE : 0 ≤ ((mJ) : Int) := of_decide_eq_true zz9; have Pg : (mJ) < (l0.length : Int) := of_decide_eq_true zz9; obtain ⟨WM, HV, GY, e139, ru, q9, BD, BQ⟩ := iR HR0.out (mJ) PE Pg; have vV := q9; have vW := ru; obtain rfl : wU = WM := (by injection e139); replace ru := cB HB ru; replace q9 := cB HB q9; have qz := ah.mk BQ; have wP := ah.mk BD; clear BQ BD; replace PE := eq_true PE; replace Pg := eq_true Pg; refine jd (n := 24) (S := fun w' => w'.cell? ⟨ay, 0, none⟩ = some (.slice iD ((aH l0 bR).f0).length iy) ∧ w'.cell? ⟨ay, 1, none⟩ = some (.int .i64 ((aH l0 bR).f1)) ∧ w'.cell? (wU.add (((mJ)).toNat * 2)) = some (.slice HV ((aH l0 (mJ)).f0).length GY) ∧ w'.cell? ⟨(wU.add (((mJ)).toNat * 2)).block, (wU.add (((mJ)).toNat * 2)).off + 1, none⟩ = some (.int .i64 ((aH l0 (mJ)).f1))) (ds := []) (.replicate 24 false) (by kernel_rfl) rfl rfl ⟨cK av 0, cK av 1, (cB HB vW), (cB HB vV)⟩ (fun hHeld => ?_); refine iE dO.Ie dO.zI (fun HT_ HW_ => ?_); generalize w21.drew = w22 at av HB qz ru q9 hHeld ⊢; refine tV (v := ?_) 0 12 (bA 24 1) HT_ HW_ hHeld ?_ ?_; rotate_left
            ·rintro w' ⟨s0, s1, s2, s3⟩
             go_simp
             (with_reducible rfl)
            refine oN 1 13 (bA 24 3) HT_ (fun K hK => ?_); refine iT Try.func115 (by kernel_rfl) rfl #[.agg #[.slice iD ((aH l0 bR).f0).length iy, .int .i64 ((aH l0 bR).f1)]] (by rfl) rfl rfl zz8 ?_; (with_reducible refine (fU.calls k1 _ _ ((aH l0 bR).f0) ((aH l0 bR).f1) true _ ?bZ ?cO A5.out).mono ?_); (case bZ => repeat (first | exact (Kd.eY iO.out HB.out) | (with_reducible refine Kd.dW ?_ _) | (with_reducible refine Kd.d9 ?_ _) | (with_reducible refine Kd.eT ?_))); (case cO => exact jl.out); rintro e w23 ⟨rfl, hb⟩; refine ⟨_, rfl, ?_⟩; replace av := ah.mk (aI (g := ay) (o := .cells #[.slice iD ((aH l0 bR).f0).length iy, .int .i64 ((aH l0 bR).f1)] 51 (0, 0)) fK hb); replace HB := ah.mk (aA xg hb); (try clear hb); (try clear hb2); (try clear hk); (try clear hi); refine hK.out _ _ ⟨cK av 0, cK av 1, (cB HB vW), (cB HB vV)⟩ (fun hHeld => ?_); clear hK K; refine iV (a' := ?_) ?_ ?_; rotate_left
            ·show Act.put _ (some 13) _ = _
             simp only [Act.put, List.setIfInBounds_toArray, List.set_cons_zero, List.set_cons_succ, dJ, eu]
             rfl
            refine pV 2 14 (bA 24 7) HT_ ?_; refine pV 3 15 (bA 24 15) HT_ ?_; refine pV 4 16 (bA 24 31) HT_ ?_; refine tV (v := ?_) 5 17 (bA 24 63) HT_ HW_ hHeld ?_ ?_; rotate_left
            ·rintro w' ⟨s0, s1, s2, s3⟩
             go_simp
             (with_reducible rfl)
            refine pV 6 18 (bA 24 127) HT_ ?_; refine pV 7 19 (bA 24 255) HT_ ?_; refine pV 8 20 (bA 24 511) HT_ ?_; refine pV 9 21 (bA 24 1023) HT_ ?_; refine pV 10 22 (bA 24 2047) HT_ ?_; refine pV 11 23 (bA 24 4095) HT_ ?_; refine pV 12 24 (bA 24 8191) HT_ ?_; refine pV 13 25 (bA 24 16383) HT_ ?_; refine pV 14 26 (bA 24 32767) HT_ ?_; refine pV 15 27 (bA 24 65535) HT_ ?_; refine pV 16 28 (bA 24 131071) HT_ ?_; refine pV 18 30 (bA 24 393215) HT_ ?_; refine tV (v := ?_) 17 29 (bA 24 524287) HT_ HW_ hHeld ?_ ?_; rotate_left
            ·rintro w' ⟨s0, s1, s2, s3⟩
             go_simp
             (with_reducible rfl)
            refine tV (v := ?_) 19 31 (bA 24 1048575) HT_ HW_ hHeld ?_ ?_; rotate_left
            ·rintro w' ⟨s0, s1, s2, s3⟩
             go_simp
             (with_reducible rfl)
            refine oN 20 32 (bA 24 2097151) HT_ (fun K hK => ?_); refine iT Try.func116 (by kernel_rfl) rfl #[.slice HV ((aH l0 (mJ)).f0).length GY, .slice iD ((aH l0 bR).f0).length iy] (by rfl) rfl rfl (by (try simp only [List.map_toArray, List.map_cons, List.map_nil]); first | done | (simp only [xL]; rfl) | rfl | (simp only [List.length_drop, List.length_take]; rfl)) ?_; (with_reducible refine (dY.calls k1 _ _ ((aH l0 (mJ)).f0) _ _ ((aH l0 bR).f0) JA _ ?bZ ?cO ?sD ?xG A17.out).mono ?_); (case bZ => repeat (first | exact (Kd.eY qz.out HB.out) | (with_reducible refine Kd.dW ?_ _) | (with_reducible refine Kd.d9 ?_ _) | (with_reducible refine Kd.eT ?_))); (case cO => exact wP.out); (case sD => repeat (first | exact (Kd.eY iO.out HB.out) | (with_reducible refine Kd.dW ?_ _) | (with_reducible refine Kd.d9 ?_ _) | (with_reducible refine Kd.eT ?_))); (case xG => exact jl.out); rintro e w24 ⟨rfl, hb⟩; refine ⟨_, rfl, ?_⟩; replace av := ah.mk (aI (g := ay) (o := .cells #[.slice iD ((aH l0 bR).f0).length iy, .int .i64 ((aH l0 bR).f1)] 51 (0, 0)) fK hb); replace HB := ah.mk (aA xg hb); (try clear hb); (try clear hb2); (try clear hk); (try clear hi); refine hK.out _ _ ⟨cK av 0, cK av 1, (cB HB vW), (cB HB vV)⟩ (fun hHeld => ?_); clear hK K; refine iV (a' := ?_) ?_ ?_; rotate_left
            ·show Act.put _ (some 32) _ = _
             simp only [Act.put, List.setIfInBounds_toArray, List.set_cons_zero, List.set_cons_succ, dJ, eu]
             rfl
            refine pV 21 33 (bA 24 4194303) HT_ ?_; refine pV 22 34 (bA 24 8388607) HT_ ?_; refine pV 23 35 (bA 24 16777215) HT_ ?_; refine kJ (j5 HT_.out (by kernel_rfl)) ?_
            try go_wp2
            go_ret
            exact ⟨by first | rfl | (simp [gX, gW] <;> rfl) | (simp only [← xL]; first | rfl | (simp [gX, gW] <;> rfl)) | (simp [*, gX, gW] <;> rfl), xg⟩
           ·rw [if_neg c18] at H; have IU : decide (0 ≤ JA) = false := decide_eq_false c18; clear c18; have H' := ah.mk H; clear H; have vR : 0 ≤ (bR : Int) := of_decide_eq_true zz9; have vQ : bR < (l0.length : Int) := of_decide_eq_true zz9; obtain ⟨wU, iD, iy, Lu, mO, mM, mQ, mR⟩ := iR HR0.out bR vR vQ
            cases Lu
            replace mO := cB HB mO; replace mM := cB HB mM; have iO := ah.mk mR; have jl := ah.mk mQ; clear mR mQ; replace vR := eq_true vR; replace vQ := eq_true vQ
            try go_wp2_with (first | ((with_reducible refine bD (N := 4) rfl ?_); refine bq ?hg (N := 4) ?hd (cs := #[.slice none 0 0, .int .i64 0]) (t := 51) ?hr ?_; (case hd => rfl); (case hg => rfl); (case hr => first | (go_simp; done) | (go_simp; rfl)); intro ay hg w25 bF hb; have av := ah.mk (bF); have iX := ah.mk ((zz0 : w.heap.size ≤ ay)); have iC := ah.mk ((zz0 : w.heap.size ≤ ay)); replace HB := ah.mk (aA zz1 hb); clear hb bF hg; have Fu : w25.cell? ⟨ay, 0, none⟩ = some (.slice none 0 0) := cK av 0; have Fq : w25.cell? ⟨ay, 1, none⟩ = some (.int .i64 0) := cK av 1; have EP := aj av.out 0; have EO := aj av.out 1))
            have n0_ : ah (((w25.setCell ⟨ay, 0, none⟩ (.slice iD ((aH l0 bR).f0).length iy)).setCell ⟨ay, 1, none⟩ (.int .i64 ((aH l0 bR).f1))).heap[ay]? = some (.cells #[.slice iD ((aH l0 bR).f0).length iy, .int .i64 ((aH l0 bR).f1)] 51 (0, 0))) := ⟨zz21⟩; have n1_ : ah (Below w.heap.size w ((w25.setCell ⟨ay, 0, none⟩ (.slice iD ((aH l0 bR).f0).length iy)).setCell ⟨ay, 1, none⟩ (.int .i64 ((aH l0 bR).f1)))) := ⟨xg⟩; (try clear av); (try clear HB); generalize ((w25.setCell ⟨ay, 0, none⟩ (.slice iD ((aH l0 bR).f0).length iy)).setCell ⟨ay, 1, none⟩ (.int .i64 ((aH l0 bR).f1))) = w27 at n0_ n1_ ⊢; have av := n0_; have HB := n1_; clear n0_ n1_; replace av := ah.mk (aK av.out); replace HB := ah.mk (bG HB.out); have PE : 0 ≤ ((mJ) : Int) := of_decide_eq_true zz9; have Pg : (mJ) < (l0.length : Int) := of_decide_eq_true zz9; obtain ⟨WM, HV, GY, e139, ru, q9, BD, BQ⟩ := iR HR0.out (mJ) PE Pg; have vV := q9; have vW := ru; obtain rfl : wU = WM := (by injection e139); replace ru := cB HB ru; replace q9 := cB HB q9; have qz := ah.mk BQ; have wP := ah.mk BD; clear BQ BD; replace PE := eq_true PE; replace Pg := eq_true Pg; refine jd (n := 24) (S := fun w' => w'.cell? ⟨ay, 0, none⟩ = some (.slice iD ((aH l0 bR).f0).length iy) ∧ w'.cell? ⟨ay, 1, none⟩ = some (.int .i64 ((aH l0 bR).f1)) ∧ w'.cell? (wU.add (((mJ)).toNat * 2)) = some (.slice HV ((aH l0 (mJ)).f0).length GY) ∧ w'.cell? ⟨(wU.add (((mJ)).toNat * 2)).block, (wU.add (((mJ)).toNat * 2)).off + 1, none⟩ = some (.int .i64 ((aH l0 (mJ)).f1))) (ds := []) (.replicate 24 false) (by kernel_rfl) rfl rfl ⟨cK av 0, cK av 1, (cB HB vW), (cB HB vV)⟩ (fun hHeld => ?_); refine iE dO.Ie dO.zI (fun HT_ HW_ => ?_); generalize w27.drew = w28 at av HB qz ru q9 hHeld ⊢; refine tV (v := ?_) 0 12 (bA 24 1) HT_ HW_ hHeld ?_ ?_; rotate_left
            ·rintro w' ⟨s0, s1, s2, s3⟩
             go_simp
             (with_reducible rfl)
            refine oN 1 13 (bA 24 3) HT_ (fun K hK => ?_); refine iT Try.func115 (by kernel_rfl) rfl #[.agg #[.slice iD ((aH l0 bR).f0).length iy, .int .i64 ((aH l0 bR).f1)]] (by rfl) rfl rfl zz8 ?_; (with_reducible refine (fU.calls k1 _ _ ((aH l0 bR).f0) ((aH l0 bR).f1) true _ ?bZ ?cO A5.out).mono ?_); (case bZ => repeat (first | exact (Kd.eY iO.out HB.out) | (with_reducible refine Kd.dW ?_ _) | (with_reducible refine Kd.d9 ?_ _) | (with_reducible refine Kd.eT ?_))); (case cO => exact jl.out); rintro e w29 ⟨rfl, hb⟩; refine ⟨_, rfl, ?_⟩; replace av := ah.mk (aI (g := ay) (o := .cells #[.slice iD ((aH l0 bR).f0).length iy, .int .i64 ((aH l0 bR).f1)] 51 (0, 0)) fK hb); replace HB := ah.mk (aA xg hb); (try clear hb); (try clear hb2); (try clear hk); (try clear hi); refine hK.out _ _ ⟨cK av 0, cK av 1, (cB HB vW), (cB HB vV)⟩ (fun hHeld => ?_); clear hK K; refine iV (a' := ?_) ?_ ?_; rotate_left
            ·show Act.put _ (some 13) _ = _
             simp only [Act.put, List.setIfInBounds_toArray, List.set_cons_zero, List.set_cons_succ, dJ, eu]
             rfl
            refine pV 2 14 (bA 24 7) HT_ ?_; refine pV 3 15 (bA 24 15) HT_ ?_; refine pV 4 16 (bA 24 31) HT_ ?_; refine tV (v := ?_) 5 17 (bA 24 63) HT_ HW_ hHeld ?_ ?_; rotate_left
            ·rintro w' ⟨s0, s1, s2, s3⟩
             go_simp
             (with_reducible rfl)
            refine pV 6 18 (bA 24 127) HT_ ?_; refine pV 7 19 (bA 24 255) HT_ ?_; refine pV 8 20 (bA 24 511) HT_ ?_; refine pV 9 21 (bA 24 1023) HT_ ?_; refine pV 10 22 (bA 24 2047) HT_ ?_; refine pV 11 23 (bA 24 4095) HT_ ?_; refine pV 12 24 (bA 24 8191) HT_ ?_; refine pV 13 25 (bA 24 16383) HT_ ?_; refine pV 14 26 (bA 24 32767) HT_ ?_; refine pV 15 27 (bA 24 65535) HT_ ?_; refine pV 16 28 (bA 24 131071) HT_ ?_; refine pV 18 30 (bA 24 393215) HT_ ?_; refine tV (v := ?_) 17 29 (bA 24 524287) HT_ HW_ hHeld ?_ ?_; rotate_left
            ·rintro w' ⟨s0, s1, s2, s3⟩
             go_simp
             (with_reducible rfl)
            refine tV (v := ?_) 19 31 (bA 24 1048575) HT_ HW_ hHeld ?_ ?_; rotate_left
            ·rintro w' ⟨s0, s1, s2, s3⟩
             go_simp
             (with_reducible rfl)
            refine oN 20 32 (bA 24 2097151) HT_ (fun K hK => ?_); refine iT Try.func116 (by kernel_rfl) rfl #[.slice HV ((aH l0 (mJ)).f0).length GY, .slice iD ((aH l0 bR).f0).length iy] (by rfl) rfl rfl (by (try simp only [List.map_toArray, List.map_cons, List.map_nil]); first | done | (simp only [xL]; rfl) | rfl | (simp only [List.length_drop, List.length_take]; rfl)) ?_; (with_reducible refine (dY.calls k1 _ _ ((aH l0 (mJ)).f0) _ _ ((aH l0 bR).f0) JA _ ?bZ ?cO ?sD ?xG A17.out).mono ?_); (case bZ => repeat (first | exact (Kd.eY qz.out HB.out) | (with_reducible refine Kd.dW ?_ _) | (with_reducible refine Kd.d9 ?_ _) | (with_reducible refine Kd.eT ?_))); (case cO => exact wP.out); (case sD => repeat (first | exact (Kd.eY iO.out HB.out) | (with_reducible refine Kd.dW ?_ _) | (with_reducible refine Kd.d9 ?_ _) | (with_reducible refine Kd.eT ?_))); (case xG => exact jl.out); rintro e w30 ⟨rfl, hb⟩; refine ⟨_, rfl, ?_⟩; replace av := ah.mk (aI (g := ay) (o := .cells #[.slice iD ((aH l0 bR).f0).length iy, .int .i64 ((aH l0 bR).f1)] 51 (0, 0)) fK hb); replace HB := ah.mk (aA xg hb); (try clear hb); (try clear hb2); (try clear hk); (try clear hi); refine hK.out _ _ ⟨cK av 0, cK av 1, (cB HB vW), (cB HB vV)⟩ (fun hHeld => ?_); clear hK K; refine iV (a' := ?_) ?_ ?_; rotate_left
            ·show Act.put _ (some 32) _ = _
             simp only [Act.put, List.setIfInBounds_toArray, List.set_cons_zero, List.set_cons_succ, dJ, eu]
             rfl
            refine pV 21 33 (bA 24 4194303) HT_ ?_; refine pV 22 34 (bA 24 8388607) HT_ ?_; refine pV 23 35 (bA 24 16777215) HT_ ?_; refine kJ (j5 HT_.out (by kernel_rfl)) ?_
            try go_wp2
            go_roundg k1
            case measure => have := HK1.out; omega
            case rel => exact ⟨(wrap64 (bR + 1)), zz2, H', ⟨by have := HK1.out; omega⟩, ⟨xg⟩⟩
          ·rw [if_neg c16] at H; exact absurd H (by simp)
         ·rw [if_neg c15] at H; exact absurd H (by simp)
        ·rw [if_neg c13] at H; have IW : decide (0 < bR) = false := decide_eq_false c13; clear c13; have H' := ah.mk H; clear H; have vR : 0 ≤ (bR : Int) := of_decide_eq_true zz9; have vQ : bR < (l0.length : Int) := of_decide_eq_true zz9; obtain ⟨wU, iD, iy, Lu, mO, mM, mQ, mR⟩ := iR HR0.out bR vR vQ
         cases Lu
         replace mO := cB HB mO; replace mM := cB HB mM; have iO := ah.mk mR; have jl := ah.mk mQ; clear mR mQ; replace vR := eq_true vR; replace vQ := eq_true vQ
         try go_wp2_with (first | ((with_reducible refine bD (N := 4) rfl ?_); refine bq ?hg (N := 4) ?hd (cs := #[.slice none 0 0, .int .i64 0]) (t := 51) ?hr ?_; (case hd => rfl); (case hg => rfl); (case hr => first | (go_simp; done) | (go_simp; rfl)); intro ay hg w31 bF hb; have av := ah.mk (bF); have iX := ah.mk ((zz0 : w.heap.size ≤ ay)); have iC := ah.mk ((zz0 : w.heap.size ≤ ay)); replace HB := ah.mk (aA zz1 hb); clear hb bF hg; have hcz32_0 : w31.cell? ⟨ay, 0, none⟩ = some (.slice none 0 0) := cK av 0; have hcz32_1 : w31.cell? ⟨ay, 1, none⟩ = some (.int .i64 0) := cK av 1; have hfz32_0 := aj av.out 0; have hfz32_1 := aj av.out 1))
         have n0_ : ah (((w31.setCell ⟨ay, 0, none⟩ (.slice iD ((aH l0 bR).f0).length iy)).setCell ⟨ay, 1, none⟩ (.int .i64 ((aH l0 bR).f1))).heap[ay]? = some (.cells #[.slice iD ((aH l0 bR).f0).length iy, .int .i64 ((aH l0 bR).f1)] 51 (0, 0))) := ⟨zz21⟩; have n1_ : ah (Below w.heap.size w ((w31.setCell ⟨ay, 0, none⟩ (.slice iD ((aH l0 bR).f0).length iy)).setCell ⟨ay, 1, none⟩ (.int .i64 ((aH l0 bR).f1)))) := ⟨xg⟩; (try clear av); (try clear HB); generalize ((w31.setCell ⟨ay, 0, none⟩ (.slice iD ((aH l0 bR).f0).length iy)).setCell ⟨ay, 1, none⟩ (.int .i64 ((aH l0 bR).f1))) = w33 at n0_ n1_ ⊢; have av := n0_; have HB := n1_; clear n0_ n1_; replace av := ah.mk (aK av.out); replace HB := ah.mk (bG HB.out); refine jd (n := 24) (S := fun w' => w'.cell? ⟨ay, 0, none⟩ = some (.slice iD ((aH l0 bR).f0).length iy) ∧ w'.cell? ⟨ay, 1, none⟩ = some (.int .i64 ((aH l0 bR).f1))) (ds := []) (.replicate 24 false) (by kernel_rfl) rfl rfl ⟨cK av 0, cK av 1⟩ (fun hHeld => ?_); refine iE dO.Ie dO.zI (fun HT_ HW_ => ?_); generalize w33.drew = w34 at av HB hHeld ⊢; refine tV (v := ?_) 0 12 (bA 24 1) HT_ HW_ hHeld ?_ ?_; rotate_left
         ·rintro w' ⟨s0, s1⟩
          go_simp
          (with_reducible rfl)
         refine oN 1 13 (bA 24 3) HT_ (fun K hK => ?_); refine iT Try.func115 (by kernel_rfl) rfl #[.agg #[.slice iD ((aH l0 bR).f0).length iy, .int .i64 ((aH l0 bR).f1)]] (by rfl) rfl rfl zz8 ?_; (with_reducible refine (fU.calls k1 _ _ ((aH l0 bR).f0) ((aH l0 bR).f1) true _ ?bZ ?cO A5.out).mono ?_); (case bZ => repeat (first | exact (Kd.eY iO.out HB.out) | (with_reducible refine Kd.dW ?_ _) | (with_reducible refine Kd.d9 ?_ _) | (with_reducible refine Kd.eT ?_))); (case cO => exact jl.out); rintro e w35 ⟨rfl, hb⟩; refine ⟨_, rfl, ?_⟩; replace av := ah.mk (aI (g := ay) (o := .cells #[.slice iD ((aH l0 bR).f0).length iy, .int .i64 ((aH l0 bR).f1)] 51 (0, 0)) fK hb); replace HB := ah.mk (aA xg hb); (try clear hb); (try clear hb2); (try clear hk); (try clear hi); refine hK.out _ _ ⟨cK av 0, cK av 1⟩ (fun hHeld => ?_); clear hK K; refine iV (a' := ?_) ?_ ?_; rotate_left
         ·show Act.put _ (some 13) _ = _
          simp only [Act.put, List.setIfInBounds_toArray, List.set_cons_zero, List.set_cons_succ, dJ, eu]
          rfl
         refine pV 2 14 (bA 24 7) HT_ ?_; refine pV 3 15 (bA 24 15) HT_ ?_; refine pV 4 16 (bA 24 31) HT_ ?_; refine tV (v := ?_) 5 17 (bA 24 63) HT_ HW_ hHeld ?_ ?_; rotate_left
         ·rintro w' ⟨s0, s1⟩
          go_simp
          (with_reducible rfl)
         refine pV 6 18 (bA 24 127) HT_ ?_; refine pV 7 19 (bA 24 255) HT_ ?_; refine pV 8 20 (bA 24 511) HT_ ?_; refine pV 9 21 (bA 24 1023) HT_ ?_; refine pV 10 22 (bA 24 2047) HT_ ?_; refine pV 11 23 (bA 24 4095) HT_ ?_; refine pU 12 24 (bA 24 8191) HT_ ?_; refine pU 13 25 (bA 24 16383) HT_ ?_; refine pU 14 26 (bA 24 32767) HT_ ?_; refine pU 15 27 (bA 24 65535) HT_ ?_; refine pU 16 28 (bA 24 131071) HT_ ?_; refine pU 17 29 (bA 24 262143) HT_ ?_; refine pU 18 30 (bA 24 524287) HT_ ?_; refine pU 19 31 (bA 24 1048575) HT_ ?_; refine pU 20 32 (bA 24 2097151) HT_ ?_; refine pU 21 33 (bA 24 4194303) HT_ ?_; refine pV 22 34 (bA 24 8388607) HT_ ?_; refine pV 23 35 (bA 24 16777215) HT_ ?_; refine kJ (j5 HT_.out (by kernel_rfl)) ?_
         try go_wp2
         go_roundg k1
         case measure => have := HK1.out; omega
         case rel => exact ⟨(wrap64 (bR + 1)), zz2, H', ⟨by have := HK1.out; omega⟩, ⟨xg⟩⟩
      ·replace c6 := Bool.eq_false_iff.mpr c6; subst c6; rw [if_neg (show ¬ (false = true) by decide)] at H; obtain rfl := Option.some.inj H; have vR : 0 ≤ (bR : Int) := of_decide_eq_true zz9; have vQ : bR < (l0.length : Int) := of_decide_eq_true zz9; obtain ⟨wU, iD, iy, Lu, mO, mM, mQ, mR⟩ := iR HR0.out bR vR vQ
       cases Lu
       replace mO := cB HB mO; replace mM := cB HB mM; have iO := ah.mk mR; have jl := ah.mk mQ; clear mR mQ; replace vR := eq_true vR; replace vQ := eq_true vQ
       try go_wp2_with (first | ((with_reducible refine bD (N := 4) rfl ?_); refine bq ?hg (N := 4) ?hd (cs := #[.slice none 0 0, .int .i64 0]) (t := 51) ?hr ?_; (case hd => rfl); (case hg => rfl); (case hr => first | (go_simp; done) | (go_simp; rfl)); intro ay hg w36 bF hb; have av := ah.mk (bF); have iX := ah.mk ((zz0 : w.heap.size ≤ ay)); have iC := ah.mk ((zz0 : w.heap.size ≤ ay)); replace HB := ah.mk (aA zz1 hb); clear hb bF hg; have hcz37_0 : w36.cell? ⟨ay, 0, none⟩ = some (.slice none 0 0) := cK av 0; have hcz37_1 : w36.cell? ⟨ay, 1, none⟩ = some (.int .i64 0) := cK av 1; have hfz37_0 := aj av.out 0; have hfz37_1 := aj av.out 1))
       have n0_ : ah (((w36.setCell ⟨ay, 0, none⟩ (.slice iD ((aH l0 bR).f0).length iy)).setCell ⟨ay, 1, none⟩ (.int .i64 ((aH l0 bR).f1))).heap[ay]? = some (.cells #[.slice iD ((aH l0 bR).f0).length iy, .int .i64 ((aH l0 bR).f1)] 51 (0, 0))) := ⟨zz21⟩; have n1_ : ah (Below w.heap.size w ((w36.setCell ⟨ay, 0, none⟩ (.slice iD ((aH l0 bR).f0).length iy)).setCell ⟨ay, 1, none⟩ (.int .i64 ((aH l0 bR).f1)))) := ⟨xg⟩; (try clear av); (try clear HB); generalize ((w36.setCell ⟨ay, 0, none⟩ (.slice iD ((aH l0 bR).f0).length iy)).setCell ⟨ay, 1, none⟩ (.int .i64 ((aH l0 bR).f1))) = w38 at n0_ n1_ ⊢; have av := n0_; have HB := n1_; clear n0_ n1_; replace av := ah.mk (aK av.out); replace HB := ah.mk (bG HB.out); refine jd (n := 24) (S := fun w' => w'.cell? ⟨ay, 0, none⟩ = some (.slice iD ((aH l0 bR).f0).length iy) ∧ w'.cell? ⟨ay, 1, none⟩ = some (.int .i64 ((aH l0 bR).f1))) (ds := []) (.replicate 24 false) (by kernel_rfl) rfl rfl ⟨cK av 0, cK av 1⟩ (fun hHeld => ?_); refine iE dO.Ie dO.zI (fun HT_ HW_ => ?_); generalize w38.drew = w39 at av HB hHeld ⊢; refine tV (v := ?_) 0 12 (bA 24 1) HT_ HW_ hHeld ?_ ?_; rotate_left
       ·rintro w' ⟨s0, s1⟩
        go_simp
        (with_reducible rfl)
       refine oN 1 13 (bA 24 3) HT_ (fun K hK => ?_); refine iT Try.func115 (by kernel_rfl) rfl #[.agg #[.slice iD ((aH l0 bR).f0).length iy, .int .i64 ((aH l0 bR).f1)]] (by rfl) rfl rfl zz8 ?_; (with_reducible refine (fU.calls k1 _ _ ((aH l0 bR).f0) ((aH l0 bR).f1) false _ ?bZ ?cO A5.out).mono ?_); (case bZ => repeat (first | exact (Kd.eY iO.out HB.out) | (with_reducible refine Kd.dW ?_ _) | (with_reducible refine Kd.d9 ?_ _) | (with_reducible refine Kd.eT ?_))); (case cO => exact jl.out); rintro e w40 ⟨rfl, hb⟩; refine ⟨_, rfl, ?_⟩; replace av := ah.mk (aI (g := ay) (o := .cells #[.slice iD ((aH l0 bR).f0).length iy, .int .i64 ((aH l0 bR).f1)] 51 (0, 0)) fK hb); replace HB := ah.mk (aA xg hb); (try clear hb); (try clear hb2); (try clear hk); (try clear hi); refine hK.out _ _ ⟨cK av 0, cK av 1⟩ (fun hHeld => ?_); clear hK K; refine iV (a' := ?_) ?_ ?_; rotate_left
       ·show Act.put _ (some 13) _ = _
        simp only [Act.put, List.setIfInBounds_toArray, List.set_cons_zero, List.set_cons_succ, dJ, eu]
        rfl
       refine pV 2 14 (bA 24 7) HT_ ?_; refine pV 3 15 (bA 24 15) HT_ ?_; refine pU 4 16 (bA 24 31) HT_ ?_; refine pU 5 17 (bA 24 63) HT_ ?_; refine pU 6 18 (bA 24 127) HT_ ?_; refine pV 7 19 (bA 24 255) HT_ ?_; refine pV 8 20 (bA 24 511) HT_ ?_; refine pU 9 21 (bA 24 1023) HT_ ?_; refine pU 10 22 (bA 24 2047) HT_ ?_; refine pU 11 23 (bA 24 4095) HT_ ?_; refine pU 12 24 (bA 24 8191) HT_ ?_; refine pU 13 25 (bA 24 16383) HT_ ?_; refine pU 14 26 (bA 24 32767) HT_ ?_; refine pU 15 27 (bA 24 65535) HT_ ?_; refine pU 16 28 (bA 24 131071) HT_ ?_; refine pU 17 29 (bA 24 262143) HT_ ?_; refine pU 18 30 (bA 24 524287) HT_ ?_; refine pU 19 31 (bA 24 1048575) HT_ ?_; refine pU 20 32 (bA 24 2097151) HT_ ?_; refine pU 21 33 (bA 24 4194303) HT_ ?_; refine pU 22 34 (bA 24 8388607) HT_ ?_; refine pV 23 35 (bA 24 16777215) HT_ ?_; refine kJ (j5 HT_.out (by kernel_rfl)) ?_
       try go_wp2
       go_ret
       exact ⟨zz6, xg⟩
     ·rw [if_neg c4] at H; exact absurd H (by simp)
    ·rw [if_neg c3] at H; exact absurd H (by simp)
   ·rw [if_neg c2] at H; have pK : decide (bR < (l0.length : Int)) = false := decide_eq_false c2; clear c2; obtain rfl := Option.some.inj H
    go_wp2
    go_ret
    exact ⟨zz6, zz1⟩
def kF.f (qb : List (S23)) (aU : Int) : Option (Bool) := some (decide (aU < 0))
set_option maxHeartbeats 8000000 in
set_option maxRecDepth 100000 in
theorem kF.calls (zF : Option Addr) (zD : Nat) (qb : List (S23)) (aU : Int) (r : Bool) (w : World) (Nq : Kd.C k23 w zF qb.length qb) (Ns : qb.length ≤ zD) (h : kF.f qb aU = some r) :
  Calls Try.prog 96 #[.agg #[.slice zF qb.length zD, .int .i64 aU]] w fun e w' => e = .returned (.bool r) ∧ Below w.heap.size w w' := by
 have Np := Try.underlying51; have Xd := ah.mk Nq; have Xf := ah.mk Ns; clear Nq Ns; have HB := ah.mk (Below.refl w.heap.size w); have H := h; clear h
 dsimp only [kF.f] at H
 obtain rfl := Option.some.inj H
 go_enter Try.func96, Try.ntmps96
 go_wp2_with (first | ((with_reducible refine bD (N := 1) rfl ?_); refine bq ?hg (N := 1) ?hd (cs := #[.slice zF qb.length zD, .int .i64 aU]) (t := 51) ?hr ?_; (case hd => rfl); (case hg => rfl); (case hr => first | (go_simp; done) | (go_simp; rfl)); intro au hg w2 bF hb; have ak := ah.mk (bF); have fO := ah.mk ((zz0 : w.heap.size ≤ au)); have fD := ah.mk ((zz0 : w.heap.size ≤ au)); replace HB := ah.mk (aA zz1 hb); clear hb bF hg; have hcz3_0 : w2.cell? ⟨au, 0, none⟩ = some (.slice zF qb.length zD) := cK ak 0; have hcz3_1 : w2.cell? ⟨au, 1, none⟩ = some (.int .i64 aU) := cK ak 1; have hfz3_0 := aj ak.out 0; have hfz3_1 := aj ak.out 1))
 go_ret
 exact ⟨zz6, zz5⟩
def dX.l0 : Nat → List (S51) → Int → Int → Option (Int)
 | 0, _, _, _ => none
 | k + 1, x0, x7, x8 => if x8 < x7 then (if 0 ≤ x8 then (if x8 < (x0.length : Int) then ((kF.f ((aH x0 x8).f0) ((aH x0 x8).f1)).bind fun t143 => (if t143 = true then (some x8) else (dX.l0 k x0 x7 (wrap64 (x8 + 1))))) else (none)) else (none)) else (some (-1))
def dX.f (k : Nat) (l0 : List (S51))  : Option (Int) := dX.l0 k l0 (l0.length : Int) 0
theorem dX.gM : ∀ k, (∀ y0 y1 y2, LeO (dX.l0 k y0 y1 y2) (dX.l0 (k + 1) y0 y1 y2))
 | 0 => fun _ _ _ r h => by simp [dX.l0] at h
 | k + 1 => by
  have ih0 := dX.gM k
  ·intro y0 y1 y2; unfold dX.l0
   repeat' first
   | (with_reducible exact ih0 _ _ _)
   | (with_reducible exact LeO.refl _)
   | (with_reducible exact LeO.none _)
   | (with_reducible refine LeO.ite ?_ ?_)
   | (with_reducible refine LeO.bind ?_ (fun _ => ?_))
   | exact ih0 _ _ _
   | exact LeO.none _
   | refine LeO.ite ?_ ?_
   | refine LeO.bind ?_ (fun _ => ?_)
theorem dX.mono : ∀ a0 k, LeO (dX.f k a0) (dX.f (k + 1) a0) := by
 intro a0 k; have ih0 := dX.gM k; unfold dX.f
 repeat' first
   | (with_reducible exact ih0 _ _ _)
   | (with_reducible exact LeO.refl _)
   | (with_reducible exact LeO.none _)
   | (with_reducible refine LeO.ite ?_ ?_)
   | (with_reducible refine LeO.bind ?_ (fun _ => ?_))
   | exact ih0 _ _ _
   | exact LeO.none _
   | refine LeO.ite ?_ ?_
   | refine LeO.bind ?_ (fun _ => ?_)
set_option maxHeartbeats 8000000 in
set_option maxRecDepth 100000 in
theorem dX.calls (k : Nat) (A0 : Option Addr) (c0 : Nat) (l0 : List (S51))  (r : Int) (w : World) (hr0 : Kd.C k51 w A0 l0.length l0) (hc0 : l0.length ≤ c0) (h : dX.f k l0 = some r) :
  Calls Try.prog 117 #[.slice A0 l0.length c0, .func (.func 96) #[] #[]] w fun e w' => e = .returned (.int .i64 r) ∧ Below w.heap.size w w' := by
 have Np := Try.underlying51; have HR0 := ah.mk hr0; have HC0 := ah.mk hc0; clear hr0 hc0; have HB := ah.mk (Below.refl w.heap.size w); have H := h; clear h
 dsimp only [dX.f] at H
 have H' := ah.mk H; clear H
 go_enter Try.func117, Try.ntmps117
 go_wp2
 go_loopg [8] k (fun kq v8 w' => ∃ (jB : Int), v8 = .int .i64 jB ∧ ah (dX.l0 kq l0 (l0.length : Int) jB = some r) ∧ ah (kq ≤ k) ∧ ah (Below w.heap.size w w'))
 case atStart => exact ⟨(0), zz2, H', ⟨Nat.le_refl _⟩, ⟨zz1⟩⟩
 case round =>
  clear H'; (try clear c1); (try clear p2); obtain ⟨jB, rfl, HA, HK1, HB⟩ := hrel
  cases gk with
  | zero => exact absurd HA.out (by simp [dX.l0])
  | succ k1 =>
   have H := HA.out; clear HA; simp only [dX.l0] at H
   by_cases c3 : jB < (l0.length : Int)
   ·rw [if_pos c3] at H; have tH : decide (jB < (l0.length : Int)) = true := decide_eq_true c3; clear c3
    by_cases c4 : 0 ≤ jB
    ·rw [if_pos c4] at H; have lI : decide (0 ≤ jB) = true := decide_eq_true c4; clear c4
     by_cases c5 : jB < (l0.length : Int)
     ·rw [if_pos c5] at H; have qd : decide (jB < (l0.length : Int)) = true := decide_eq_true c5; clear c5; replace H := Option.bind_eq_some_iff.mp H; obtain ⟨t143, A60, H⟩ := H; have A6 := ah.mk A60; clear A60
      by_cases c7 : t143 = true
      ·subst c7; rw [if_pos rfl] at H; obtain rfl := Option.some.inj H; have PD : 0 ≤ (jB : Int) := of_decide_eq_true zz9; have Pf : jB < (l0.length : Int) := of_decide_eq_true zz9; obtain ⟨ad142, A142_0, c142_0, e142, Ba, AZ, BA, BP⟩ := iR HR0.out jB PD Pf
       cases e142
       replace Ba := cB HB Ba; replace AZ := cB HB AZ; have iO := ah.mk BP; have jl := ah.mk BA; clear BP BA; replace PD := eq_true PD; replace Pf := eq_true Pf
       go_wp2_with (first | (go_at_call 96; (with_reducible refine (kF.calls _ _ ((aH l0 jB).f0) ((aH l0 jB).f1) true _ ?bZ ?cO A6.out).mono ?_); (case bZ => repeat (first | exact (Kd.eY iO.out HB.out) | (with_reducible refine Kd.dW ?_ _) | (with_reducible refine Kd.d9 ?_ _) | (with_reducible refine Kd.eT ?_))); (case cO => exact jl.out); rintro e w8 ⟨rfl, hb⟩; replace HB := ah.mk (aA zz1 hb); (try clear hb); (try clear hb2); (try clear hk); (try clear hi)))
       go_ret
       exact ⟨zz6, zz1⟩
      ·replace c7 := Bool.eq_false_iff.mpr c7; subst c7; rw [if_neg (show ¬ (false = true) by decide)] at H; have H' := ah.mk H; clear H; have PD : 0 ≤ (jB : Int) := of_decide_eq_true zz9; have Pf : jB < (l0.length : Int) := of_decide_eq_true zz9; obtain ⟨ad142, A142_0, c142_0, e142, Ba, AZ, BA, BP⟩ := iR HR0.out jB PD Pf
       cases e142
       replace Ba := cB HB Ba; replace AZ := cB HB AZ; have iO := ah.mk BP; have jl := ah.mk BA; clear BP BA; replace PD := eq_true PD; replace Pf := eq_true Pf
       go_wp2_with (first | (go_at_call 96; (with_reducible refine (kF.calls _ _ ((aH l0 jB).f0) ((aH l0 jB).f1) false _ ?bZ ?cO A6.out).mono ?_); (case bZ => repeat (first | exact (Kd.eY iO.out HB.out) | (with_reducible refine Kd.dW ?_ _) | (with_reducible refine Kd.d9 ?_ _) | (with_reducible refine Kd.eT ?_))); (case cO => exact jl.out); rintro e w9 ⟨rfl, hb⟩; replace HB := ah.mk (aA zz1 hb); (try clear hb); (try clear hb2); (try clear hk); (try clear hi)))
       go_roundg k1
       case measure => have := HK1.out; omega
       case rel => exact ⟨(wrap64 (jB + 1)), zz2, H', ⟨by have := HK1.out; omega⟩, ⟨zz1⟩⟩
     ·rw [if_neg c5] at H; exact absurd H (by simp)
    ·rw [if_neg c4] at H; exact absurd H (by simp)
   ·rw [if_neg c3] at H; have tH : decide (jB < (l0.length : Int)) = false := decide_eq_false c3; clear c3; obtain rfl := Option.some.inj H
    go_wp2
    go_ret
    exact ⟨zz6, zz1⟩
def jI.f (k : Nat) (l0 : List (S51))  : Option (Bool) := (dX.f k l0).bind fun t144 => (some (decide (t144 ≥ 0)))
theorem jI.mono : ∀ a0 k, LeO (jI.f k a0) (jI.f (k + 1) a0) := by
 intro a0 k; unfold jI.f
 repeat' first
   | (with_reducible exact dX.mono _ _)
   | (with_reducible exact LeO.refl _)
   | (with_reducible exact LeO.none _)
   | (with_reducible refine LeO.ite ?_ ?_)
   | (with_reducible refine LeO.bind ?_ (fun _ => ?_))
   | exact dX.mono _ _
   | exact LeO.none _
   | refine LeO.ite ?_ ?_
   | refine LeO.bind ?_ (fun _ => ?_)
set_option maxHeartbeats 8000000 in
set_option maxRecDepth 100000 in
theorem jI.calls (k : Nat) (A0 : Option Addr) (c0 : Nat) (l0 : List (S51))  (r : Bool) (w : World) (hr0 : Kd.C k51 w A0 l0.length l0) (hc0 : l0.length ≤ c0) (h : jI.f k l0 = some r) :
  Calls Try.prog 95 #[.slice A0 l0.length c0, .func (.func 96) #[] #[]] w fun e w' => e = .returned (.bool r) ∧ Below w.heap.size w w' := by
 have HR0 := ah.mk hr0; have HC0 := ah.mk hc0; clear hr0 hc0; have HB := ah.mk (Below.refl w.heap.size w); have H := h; clear h
 dsimp only [jI.f] at H
 replace H := Option.bind_eq_some_iff.mp H; obtain ⟨t144, A30, H⟩ := H; have A3 := ah.mk A30; clear A30; obtain rfl := Option.some.inj H
 go_enter Try.func95, Try.ntmps95
 go_wp2_with (first | ((with_reducible refine aT (f := 117) rfl ?_); refine cu (some 7) rfl rfl Try.func117 (by kernel_rfl) rfl #[.slice A0 l0.length c0, .func (.func 96) #[] #[]] rfl zz8 ?_; (with_reducible refine (dX.calls k _ _ l0  t144 _ ?bZ ?cO A3.out).mono ?_); (case bZ => repeat (first | exact HR0.out | (with_reducible refine Kd.dW ?_ _) | (with_reducible refine Kd.d9 ?_ _) | (with_reducible refine Kd.eT ?_))); (case cO => exact HC0.out); rintro e w4 ⟨rfl, hb⟩; refine ⟨_, rfl, ?_⟩; replace HB := ah.mk (aA zz1 hb); (try clear hb); (try clear hb2); (try clear hk); (try clear hi)))
 go_ret
 exact ⟨zz6, zz1⟩
def iA.f (k : Nat) (l0 : List (S51)) : Option (Bool) := (dO.f k l0).bind fun t145 => (if t145 = true then ((jI.f k l0).bind fun t146 => (some (!t146))) else (some false))
theorem iA.mono : ∀ a0 k, LeO (iA.f k a0) (iA.f (k + 1) a0) := by
 intro a0 k; unfold iA.f
 repeat' first
   | (with_reducible exact jI.mono _ _)
   | (with_reducible exact dO.mono _ _)
   | (with_reducible exact LeO.refl _)
   | (with_reducible exact LeO.none _)
   | (with_reducible refine LeO.ite ?_ ?_)
   | (with_reducible refine LeO.bind ?_ (fun _ => ?_))
   | exact jI.mono _ _
   | exact dO.mono _ _
   | exact LeO.none _
   | refine LeO.ite ?_ ?_
   | refine LeO.bind ?_ (fun _ => ?_)
set_option maxHeartbeats 8000000 in
set_option maxRecDepth 100000 in
theorem iA.calls (k : Nat) (A0 : Option Addr) (c0 : Nat) (l0 : List (S51)) (r : Bool) (w : World) (hr0 : Kd.C k51 w A0 l0.length l0) (hc0 : l0.length ≤ c0) (h : iA.f k l0 = some r) :
  Calls Try.prog 62 #[.slice A0 l0.length c0] w fun e w' => e = .returned (.bool r) ∧ Below w.heap.size w w' := by
 have HR0 := ah.mk hr0; have HC0 := ah.mk hc0; clear hr0 hc0; have HB := ah.mk (Below.refl w.heap.size w); have H := h; clear h
 dsimp only [iA.f] at H
 replace H := Option.bind_eq_some_iff.mp H; obtain ⟨t145, A20, H⟩ := H; have A2 := ah.mk A20; clear A20
 by_cases c3 : t145 = true
 ·subst c3; rw [if_pos rfl] at H; replace H := Option.bind_eq_some_iff.mp H; obtain ⟨t146, A40, H⟩ := H; have A4 := ah.mk A40; clear A40; obtain rfl := Option.some.inj H
  go_enter Try.func62, Try.ntmps62
  go_wp2_with (first | ((with_reducible refine aT (f := 94) rfl ?_); refine cu (some 4) rfl rfl Try.func94 (by kernel_rfl) rfl #[.slice A0 l0.length c0] rfl zz8 ?_; (with_reducible refine (dO.calls k _ _ l0 true _ ?bZ ?cO A2.out).mono ?_); (case bZ => repeat (first | exact HR0.out | (with_reducible refine Kd.dW ?_ _) | (with_reducible refine Kd.d9 ?_ _) | (with_reducible refine Kd.eT ?_))); (case cO => exact HC0.out); rintro e w5 ⟨rfl, hb⟩; refine ⟨_, rfl, ?_⟩; replace HB := ah.mk (aA zz1 hb); (try clear hb); (try clear hb2); (try clear hk); (try clear hi)) | (go_at_call 95; (with_reducible refine (jI.calls k _ _ l0  t146 _ ?bZ ?cO A4.out).mono ?_); (case bZ => repeat (first | exact (Kd.eY HR0.out HB.out) | (with_reducible refine Kd.dW ?_ _) | (with_reducible refine Kd.d9 ?_ _) | (with_reducible refine Kd.eT ?_))); (case cO => exact HC0.out); rintro e w6 ⟨rfl, hb⟩; replace HB := ah.mk (aA zz1 hb); (try clear hb); (try clear hb2); (try clear hk); (try clear hi)))
  go_ret
  exact ⟨zz6, zz1⟩
 ·replace c3 := Bool.eq_false_iff.mpr c3; subst c3; rw [if_neg (show ¬ (false = true) by decide)] at H; obtain rfl := Option.some.inj H
  go_enter Try.func62, Try.ntmps62
  go_wp2_with (first | ((with_reducible refine aT (f := 94) rfl ?_); refine cu (some 4) rfl rfl Try.func94 (by kernel_rfl) rfl #[.slice A0 l0.length c0] rfl zz8 ?_; (with_reducible refine (dO.calls k _ _ l0 false _ ?bZ ?cO A2.out).mono ?_); (case bZ => repeat (first | exact HR0.out | (with_reducible refine Kd.dW ?_ _) | (with_reducible refine Kd.d9 ?_ _) | (with_reducible refine Kd.eT ?_))); (case cO => exact HC0.out); rintro e w7 ⟨rfl, hb⟩; refine ⟨_, rfl, ?_⟩; replace HB := ah.mk (aA zz1 hb); (try clear hb); (try clear hb2); (try clear hk); (try clear hi)))
  go_ret
  exact ⟨zz6, zz1⟩
def kM.f (aX : ByteArray) (aU : ByteArray) (aY : Int) (bJ : Int) (bI : Int) (bK : Int) : Option (List Int) := if bJ = 2 then (some ([] : List Int)) else (if 0 ≤ (wrap64 (bI * bK)) then (if (wrap64 (bI * bK) : Int).toNat ≤ 35184372088832 then (some (List.replicate (wrap64 (bI * bK) : Int).toNat 0)) else (none)) else (none))
set_option maxHeartbeats 8000000 in
set_option maxRecDepth 100000 in
theorem kM.calls (aX : ByteArray) (aU : ByteArray) (aY : Int) (bJ : Int) (bI : Int) (bK : Int) (r : List Int) (w : World) (h : kM.f aX aU aY bJ bI bK = some r) :
  Calls Try.prog 63 #[.agg #[.string aX, .string aU, .int .i64 aY, .int .i64 bJ, .int .i64 bI, .int .i64 bK]] w fun e w' => ∃ v0_ : Value, e = .returned (v0_) ∧ Kd.R (Kd.int .i64) 2 w' w.heap.size (fun _ => True) v0_ r ∧ Below w.heap.size w w' := by
 have D8 := Try.underlying30; have HB := ah.mk (Below.refl w.heap.size w); have H := h; clear h
 dsimp only [kM.f] at H
 by_cases c2 : bJ = 2
 ·rw [if_pos c2] at H; have pK : (bJ == 2) = true := beq_iff_eq.mpr c2; have Dj : (bJ != 2) = false := bne_eq_false_iff_eq.mpr c2; clear c2; obtain rfl := Option.some.inj H
  go_enter Try.func63, Try.ntmps63
  go_wp2_with (first | ((with_reducible refine bD (N := 1) rfl ?_); refine bq ?hg (N := 1) ?hd (cs := #[.string aX, .string aU, .int .i64 aY, .int .i64 bJ, .int .i64 bI, .int .i64 bK]) (t := 30) ?hr ?_; (case hd => rfl); (case hg => rfl); (case hr => first | (go_simp; done) | (go_simp; rfl)); intro au hg w3 bF hb; have ak := ah.mk (bF); have fO := ah.mk ((zz0 : w.heap.size ≤ au)); have fD := ah.mk ((zz0 : w.heap.size ≤ au)); replace HB := ah.mk (aA zz1 hb); clear hb bF hg; have hcz4_0 : w3.cell? ⟨au, 0, none⟩ = some (.string aX) := cK ak 0; have hcz4_1 : w3.cell? ⟨au, 1, none⟩ = some (.string aU) := cK ak 1; have hcz4_2 : w3.cell? ⟨au, 2, none⟩ = some (.int .i64 aY) := cK ak 2; have hcz4_3 : w3.cell? ⟨au, 3, none⟩ = some (.int .i64 bJ) := cK ak 3; have hcz4_4 : w3.cell? ⟨au, 4, none⟩ = some (.int .i64 bI) := cK ak 4; have hcz4_5 : w3.cell? ⟨au, 5, none⟩ = some (.int .i64 bK) := cK ak 5; have hfz4_0 := aj ak.out 0; have hfz4_1 := aj ak.out 1; have hfz4_2 := aj ak.out 2; have hfz4_3 := aj ak.out 3; have hfz4_4 := aj ak.out 4; have hfz4_5 := aj ak.out 5))
  go_ret
  exact ⟨_, zz6, H9, zz5⟩
 ·rw [if_neg c2] at H; have pK : (bJ == 2) = false := beq_eq_false_iff_ne.mpr c2; have Dj : (bJ != 2) = true := bne_iff_ne.mpr c2; obtain ⟨ji5, Gg⟩ : ∃ j_ : Int, (wrap64 (bI * bK)) = j_ := ⟨_, rfl⟩; replace H : (if 0 ≤ (ji5) then (if (ji5 : Int).toNat ≤ 35184372088832 then (some (List.replicate (ji5 : Int).toNat 0)) else (none)) else (none)) = some r := by first | (rw [Gg] at H; exact H) | (simp only [Gg] at H ⊢; exact H)
  have hji5w : (IntKind.i64.wrap (bI * bK)) = ji5 := (dJ _).trans Gg
  by_cases c6 : 0 ≤ (ji5)
  ·rw [if_pos c6] at H; have qD := eq_true c6; have zT : decide (0 ≤ (ji5)) = true := decide_eq_true c6; clear c6
   by_cases c7 : (ji5 : Int).toNat ≤ 35184372088832
   ·rw [if_pos c7] at H; have pJ := eq_true c7; have NI : decide ((ji5 : Int).toNat ≤ 35184372088832) = true := decide_eq_true c7; clear c7; obtain ⟨y148, Nn⟩ : ∃ y_ : List Int, y_ = (List.replicate (ji5 : Int).toNat 0) := ⟨_, rfl⟩; replace H : (some y148) = some r := by first | (rw [Nn]; with_reducible exact H) | (have H2_ := (Option.bind_some _ _).symm.trans H; rw [Nn]; with_reducible exact H2_) | (have H2_ := (Option.bind_some _ _).symm.trans H; with_reducible exact H2_) | with_reducible exact H | (rw [Nn]; exact H) | exact H
    have Ny148 := ah.mk Nn; clear Nn; obtain rfl := Option.some.inj H
    go_enter Try.func63, Try.ntmps63
    go_wp2_with (first | ((with_reducible refine bD (N := 1) rfl ?_); refine bq ?hg (N := 1) ?hd (cs := #[.string aX, .string aU, .int .i64 aY, .int .i64 bJ, .int .i64 bI, .int .i64 bK]) (t := 30) ?hr ?_; (case hd => rfl); (case hg => rfl); (case hr => first | (go_simp; done) | (go_simp; rfl)); intro au hg w8 bF hb; have ak := ah.mk (bF); have fO := ah.mk ((zz0 : w.heap.size ≤ au)); have fD := ah.mk ((zz0 : w.heap.size ≤ au)); replace HB := ah.mk (aA zz1 hb); clear hb bF hg; have uN : w8.cell? ⟨au, 0, none⟩ = some (.string aX) := cK ak 0; have uM : w8.cell? ⟨au, 1, none⟩ = some (.string aU) := cK ak 1; have wm : w8.cell? ⟨au, 2, none⟩ = some (.int .i64 aY) := cK ak 2; have P7 : w8.cell? ⟨au, 3, none⟩ = some (.int .i64 bJ) := cK ak 3; have P6 : w8.cell? ⟨au, 4, none⟩ = some (.int .i64 bI) := cK ak 4; have P5 : w8.cell? ⟨au, 5, none⟩ = some (.int .i64 bK) := cK ak 5; have uK := aj ak.out 0; have uJ := aj ak.out 1; have vX := aj ak.out 2; have PX := aj ak.out 3; have PW := aj ak.out 4; have PV := aj ak.out 5) | ((with_reducible refine bD (N := 11) rfl ?_); refine Kd.R_make (Kd.int .i64) _ 2 rfl (N := 11) rfl 31 _ _ rfl ji5 rfl rfl Try.underlying31 (.int .i64 0) 8 MB rfl (by decide) (by omega) 0 (ok := fun _ => True) (okp := fun _ => True) rfl (fun _ hk => hk) trivial (of_decide_eq_true zz9) (Nat.le_trans (Nat.mul_le_mul_right _ (of_decide_eq_true zz9 : ji5.toNat ≤ 35184372088832)) (by omega)) (Below.refl _ _) (Nat.le_refl _) ?_; intro v149 w10 ho11 hb hg_ lY; clear hg_ lY; (first | rw [← Ny148.out] at ho11 | (simp only [Int.reduceToNat] at ho11; rw [← Ny148.out] at ho11)); have om := ah.mk (Kd.jv ho11 (bW zz5)); replace ak := ah.mk (aI (g := au) (o := .cells #[.string aX, .string aU, .int .i64 aY, .int .i64 bJ, .int .i64 bI, .int .i64 bK] 30 (0, 0)) zz4 hb); replace HB := ah.mk (aA zz5 hb); clear hb ho11))
    go_ret
    exact ⟨_, by first | rfl | (simp [gX, gW] <;> rfl) | (simp only [← Gg]; first | rfl | (simp [gX, gW] <;> rfl)) | (simp [*, gX, gW] <;> rfl), H8, zz5⟩
   ·rw [if_neg c7] at H; exact absurd H (by simp)
  ·rw [if_neg c6] at H; exact absurd H (by simp)
mutual
def bB.l0 : Nat → List Int → List (S23) → Int → Int → Option (ByteArray)
 | 0, _, _, _, _ => none
 | k + 1, x3, x10, x11, x12 => if x12 < x11 then (if 0 ≤ x12 then (if x12 < (x10.length : Int) then ((jc.f ((aN x10 x12).f0) ((aN x10 x12).f1) ((aN x10 x12).f2)).bind fun IX => (if IX.1 = 1 then (if x3.length < 140737488355328 then (bB.l1 k (x3 ++ [2]) (IntKind.u64.wrap (wrap64 (IX.2.1 + 4294967296))) 4 x10 x11 x12) else (none)) else (if IX.1 = 2 then (if x3.length < 140737488355328 then (if IX.2.2.size ≤ 9223372036854775807 then (bB.l2 k (x3 ++ [3]) x10 x11 x12 (bytesOf IX.2.2) ((bytesOf IX.2.2).length : Int) 0) else (none)) else (none)) else (if x3.length < 140737488355328 then (bB.l0 k (x3 ++ [1]) x10 x11 (wrap64 (x12 + 1))) else (none))))) else (none)) else (none)) else (some (strOfNums x3))
def bB.l1 : Nat → List Int → Int → Int → List (S23) → Int → Int → Option (ByteArray)
 | 0, _, _, _, _, _, _ => none
 | k + 1, x3, x6, x7, x10, x11, x12 => if x7 ≥ 0 then (if 0 ≤ (wrap64 (8 * x7)) then (if x3.length < 140737488355328 then (bB.l1 k (x3 ++ [(shr .u64 x6 (wrap64 (8 * x7))) % 256]) x6 (wrap64 (x7 - 1)) x10 x11 x12) else (none)) else (none)) else (bB.l0 k x3 x10 x11 (wrap64 (x12 + 1)))
def bB.l2 : Nat → List Int → List (S23) → Int → Int → List Int → Int → Int → Option (ByteArray)
 | 0, _, _, _, _, _, _, _ => none
 | k + 1, x3, x10, x11, x12, x51, x52, x53 => if x53 < x52 then (if 0 ≤ x53 then (if x53 < (x51.length : Int) then (if x3.length < 140737488355328 then ((some (x3 ++ [rd x51 x53] : List Int)).bind fun y168 => (if (rd x51 x53) = 0 then (if y168.length < 140737488355328 then (bB.l2 k (y168 ++ [255]) x10 x11 x12 x51 x52 (wrap64 (x53 + 1))) else (none)) else (bB.l2 k y168 x10 x11 x12 x51 x52 (wrap64 (x53 + 1))))) else (none)) else (none)) else (none)) else ((some (([0, 0] : List Int) : List Int)).bind fun Jc => (if x3.length + Jc.length < 140737488355328 then (bB.l0 k (x3 ++ Jc) x10 x11 (wrap64 (x12 + 1))) else (none)))
end
def bB.f (k : Nat) (l0 : List (S23)) : Option (ByteArray) := bB.l0 k ([] : List Int) l0 (l0.length : Int) 0
theorem bB.gM : ∀ k, (∀ y0 y1 y2 y3, LeO (bB.l0 k y0 y1 y2 y3) (bB.l0 (k + 1) y0 y1 y2 y3)) ∧ (∀ y0 y1 y2 y3 y4 y5, LeO (bB.l1 k y0 y1 y2 y3 y4 y5) (bB.l1 (k + 1) y0 y1 y2 y3 y4 y5)) ∧ (∀ y0 y1 y2 y3 y4 y5 y6, LeO (bB.l2 k y0 y1 y2 y3 y4 y5 y6) (bB.l2 (k + 1) y0 y1 y2 y3 y4 y5 y6))
 | 0 => ⟨fun _ _ _ _ r h => by simp [bB.l0] at h, fun _ _ _ _ _ _ r h => by simp [bB.l1] at h, fun _ _ _ _ _ _ _ r h => by simp [bB.l2] at h⟩
 | k + 1 => by
  obtain ⟨ih0, ih1, ih2⟩ := bB.gM k; refine ⟨?_, ?_, ?_⟩
  ·intro y0 y1 y2 y3; unfold bB.l0
   repeat' first
   | (with_reducible exact ih0 _ _ _ _)
   | (with_reducible exact ih1 _ _ _ _ _ _)
   | (with_reducible exact ih2 _ _ _ _ _ _ _)
   | (with_reducible exact LeO.refl _)
   | (with_reducible exact LeO.none _)
   | (with_reducible refine LeO.ite ?_ ?_)
   | (with_reducible refine LeO.bind ?_ (fun _ => ?_))
   | exact ih0 _ _ _ _
   | exact ih1 _ _ _ _ _ _
   | exact ih2 _ _ _ _ _ _ _
   | exact LeO.none _
   | refine LeO.ite ?_ ?_
   | refine LeO.bind ?_ (fun _ => ?_)
  ·intro y0 y1 y2 y3 y4 y5; unfold bB.l1
   repeat' first
   | (with_reducible exact ih0 _ _ _ _)
   | (with_reducible exact ih1 _ _ _ _ _ _)
   | (with_reducible exact ih2 _ _ _ _ _ _ _)
   | (with_reducible exact LeO.refl _)
   | (with_reducible exact LeO.none _)
   | (with_reducible refine LeO.ite ?_ ?_)
   | (with_reducible refine LeO.bind ?_ (fun _ => ?_))
   | exact ih0 _ _ _ _
   | exact ih1 _ _ _ _ _ _
   | exact ih2 _ _ _ _ _ _ _
   | exact LeO.none _
   | refine LeO.ite ?_ ?_
   | refine LeO.bind ?_ (fun _ => ?_)
  ·intro y0 y1 y2 y3 y4 y5 y6; unfold bB.l2
   repeat' first
   | (with_reducible exact ih0 _ _ _ _)
   | (with_reducible exact ih1 _ _ _ _ _ _)
   | (with_reducible exact ih2 _ _ _ _ _ _ _)
   | (with_reducible exact LeO.refl _)
   | (with_reducible exact LeO.none _)
   | (with_reducible refine LeO.ite ?_ ?_)
   | (with_reducible refine LeO.bind ?_ (fun _ => ?_))
   | exact ih0 _ _ _ _
   | exact ih1 _ _ _ _ _ _
   | exact ih2 _ _ _ _ _ _ _
   | exact LeO.none _
   | refine LeO.ite ?_ ?_
   | refine LeO.bind ?_ (fun _ => ?_)
theorem bB.mono : ∀ a0 k, LeO (bB.f k a0) (bB.f (k + 1) a0) := by
 intro a0 k; obtain ⟨ih0, ih1, ih2⟩ := bB.gM k; unfold bB.f
 repeat' first
   | (with_reducible exact ih0 _ _ _ _)
   | (with_reducible exact ih1 _ _ _ _ _ _)
   | (with_reducible exact ih2 _ _ _ _ _ _ _)
   | (with_reducible exact LeO.refl _)
   | (with_reducible exact LeO.none _)
   | (with_reducible refine LeO.ite ?_ ?_)
   | (with_reducible refine LeO.bind ?_ (fun _ => ?_))
   | exact ih0 _ _ _ _
   | exact ih1 _ _ _ _ _ _
   | exact ih2 _ _ _ _ _ _ _
   | exact LeO.none _
   | refine LeO.ite ?_ ?_
   | refine LeO.bind ?_ (fun _ => ?_)
set_option maxHeartbeats 8000000 in
set_option maxRecDepth 100000 in
theorem bB.calls (k : Nat) (A0 : Option Addr) (c0 : Nat) (l0 : List (S23)) (r : ByteArray) (w : World) (hr0 : Kd.C k23 w A0 l0.length l0) (hc0 : l0.length ≤ c0) (h : bB.f k l0 = some r) :
  Calls Try.prog 47 #[.slice A0 l0.length c0] w fun e w' => e = .returned (.string r) ∧ Below w.heap.size w w' := by
 have sJ := Try.underlying23; have HR0 := ah.mk hr0; have HC0 := ah.mk hc0; clear hr0 hc0; have HB := ah.mk (Below.refl w.heap.size w); have H := h; clear h
 dsimp only [bB.f] at H
 have H' := ah.mk H; clear H
 go_enter Try.func47, Try.ntmps47
 go_wp2
 go_loopg [3, 12] k (fun kq v3 v12 w' => ∃ (l6 : List Int) (fE : Int), v12 = .int .i64 fE ∧ ah (bB.l0 kq l6 l0 (l0.length : Int) fE = some r) ∧ ah (kq ≤ k) ∧ ah (Kd.R (Kd.int .u8) 5 w' w.heap.size (fun _ => True) v3 l6) ∧ ah (Below w.heap.size w w'))
 case atStart => exact ⟨(([] : List Int)), (0), zz2, H', ⟨Nat.le_refl _⟩, ⟨H9⟩, ⟨zz1⟩⟩
 case round =>
  clear H'; obtain ⟨l6, fE, rfl, HA, HK1, lT, HB⟩ := hrel
  cases gk with
  | zero => exact absurd HA.out (by simp [bB.l0])
  | succ k1 =>
   have H := HA.out; clear HA; simp only [bB.l0] at H
   by_cases c2 : fE < (l0.length : Int)
   ·rw [if_pos c2] at H; have pK : decide (fE < (l0.length : Int)) = true := decide_eq_true c2; clear c2
    by_cases c3 : 0 ≤ fE
    ·rw [if_pos c3] at H; have tH : decide (0 ≤ fE) = true := decide_eq_true c3; clear c3
     by_cases c4 : fE < (l0.length : Int)
     ·rw [if_pos c4] at H; have lI : decide (fE < (l0.length : Int)) = true := decide_eq_true c4; clear c4; replace H := Option.bind_eq_some_iff.mp H; obtain ⟨⟨oo, t154, kC⟩, A50, H⟩ := H
      try dsimp only at H
      have A5 := ah.mk A50; clear A50
      by_cases c6 : oo = 1
      ·rw [if_pos c6] at H; have qD : (oo == 1) = true := beq_iff_eq.mpr c6; have zT : (oo != 1) = false := bne_eq_false_iff_eq.mpr c6; clear c6
       by_cases c7 : l6.length < 140737488355328
       ·rw [if_pos c7] at H; have LMc7 := ah.mk c7; clear c7; obtain ⟨y156, Nl⟩ : ∃ y_ : List Int, y_ = (l6 ++ [2]) := ⟨_, rfl⟩; replace H : (bB.l1 k1 y156 (IntKind.u64.wrap (wrap64 (t154 + 4294967296))) 4 l0 (l0.length : Int) fE) = some r := by first | (rw [Nl]; with_reducible exact H) | (have H2_ := (Option.bind_some _ _).symm.trans H; rw [Nl]; with_reducible exact H2_) | (have H2_ := (Option.bind_some _ _).symm.trans H; with_reducible exact H2_) | with_reducible exact H | (rw [Nl]; exact H) | exact H
        have Ny156 := ah.mk Nl; clear Nl; have H' := ah.mk H; clear H; have C8 : 0 ≤ (fE : Int) := of_decide_eq_true zz9; have CZ : fE < (l0.length : Int) := of_decide_eq_true zz9; obtain ⟨ad151, e151, qw, qp, qo⟩ := mo HR0.out fE C8 CZ
        cases e151
        replace qw := cB HB qw; replace qp := cB HB qp; replace qo := cB HB qo; replace C8 := eq_true C8; replace CZ := eq_true CZ
        go_wp2_with (first | ((with_reducible refine bD (N := 5) rfl ?_); refine bq ?hg (N := 5) ?hd (cs := #[.int .i64 0, .int .i64 0, .string (⟨#[]⟩ : ByteArray)]) (t := 23) ?hr ?_; (case hd => rfl); (case hg => rfl); (case hr => first | (go_simp; done) | (go_simp; rfl)); intro au hg w8 bF hb; replace lT := ah.mk (Kd.gT zN hb); have ak := ah.mk (bF); have fO := ah.mk ((zz0 : w.heap.size ≤ au)); have fD := ah.mk ((zz0 : w.heap.size ≤ au)); replace HB := ah.mk (aA zz1 hb); clear hb bF hg; have uN : w8.cell? ⟨au, 0, none⟩ = some (.int .i64 0) := cK ak 0; have uM : w8.cell? ⟨au, 1, none⟩ = some (.int .i64 0) := cK ak 1; have wm : w8.cell? ⟨au, 2, none⟩ = some (.string (⟨#[]⟩ : ByteArray)) := cK ak 2; have uK := aj ak.out 0; have uJ := aj ak.out 1; have vX := aj ak.out 2) | ((with_reducible refine aT (f := 85) rfl ?_); refine cu (some 17) rfl rfl Try.func85 (by kernel_rfl) rfl #[.agg #[.int .i64 ((aN l0 fE).f0), .int .i64 ((aN l0 fE).f1), .string ((aN l0 fE).f2)]] rfl zz8 ?_; (with_reducible refine (jc.calls ((aN l0 fE).f0) ((aN l0 fE).f1) ((aN l0 fE).f2) oo t154 kC _ A5.out).mono ?_); rintro e w10 ⟨rfl, hb⟩; refine ⟨_, rfl, ?_⟩; replace lT := ah.mk (Kd.gT zz26 hb); replace ak := ah.mk (aI (g := au) (o := .cells #[.int .i64 ((aN l0 fE).f0), .int .i64 ((aN l0 fE).f1), .string ((aN l0 fE).f2)] 23 (0, 0)) zz27 hb); replace HB := ah.mk (aA zz5 hb); (try clear hb); (try clear hb2); (try clear hk); (try clear hi); have pE : w10.cell? ⟨au, 0, none⟩ = some (.int .i64 ((aN l0 fE).f0)) := cK ak 0; have pz : w10.cell? ⟨au, 1, none⟩ = some (.int .i64 ((aN l0 fE).f1)) := cK ak 1; have pq : w10.cell? ⟨au, 2, none⟩ = some (.string ((aN l0 fE).f2)) := cK ak 2; have oU := aj ak.out 0; have oQ := aj ak.out 1; have oP := aj ak.out 2) | ((with_reducible refine iq (b := .append) (xs := #[.tmp 25, .tmp 26]) rfl ?_); at_builtin; refine Kd.nS (Kd.int .u8) (w0 := w) w.heap.size rfl (.tmp 25) (.tmp 26) 71 5 (.int .u8 0) 1 rfl Try.underlying71 info5 rfl (by decide) (by omega) u3 l6 2 [.int .u8 2] (fun _ => True) (fun _ => False) rfl zz28 ?aP (fun _ hk => hk.elim) ?aF ?aO ?aB ?aS ?aL ?_; (case aP => exact rfl); (case aB => exact zz5); (case aF => exact (fun _ _ => trivial)); (case aO => exact zz29); (case aS => exact (bW zz5)); (case aL => have := LMc7.out; omega); intro v157 w12 ho hb hg hat; rw [← Ny156.out] at ho; replace ak := ah.mk (gZ (g := au) (o := .cells #[.int .i64 oo, .int .i64 t154, .string kC] 23 (0, 0)) zz30 hg (Kd.pR lT.out ak.out (by decide))); replace HB := ah.mk (hb); have om := ah.mk (ho); clear lT; clear ho hb hg hat; have rR : w12.cell? ⟨au, 0, none⟩ = some (.int .i64 oo) := cK ak 0; have rQ : w12.cell? ⟨au, 1, none⟩ = some (.int .i64 t154) := cK ak 1; have rP : w12.cell? ⟨au, 2, none⟩ = some (.string kC) := cK ak 2; have rM := aj ak.out 0; have rJ := aj ak.out 1; have rH := aj ak.out 2))
        go_loopg [3, 7] k1 (fun kq v3 v7 w' => ∃ (qN : List Int) (vo : Int), v7 = .int .i64 vo ∧ ah (bB.l1 kq qN (IntKind.u64.wrap (wrap64 (t154 + 4294967296))) vo l0 (l0.length : Int) fE = some r) ∧ ah (kq ≤ k1) ∧ ah (Kd.R (Kd.int .u8) 5 w' w.heap.size (fun _ => True) v3 qN) ∧ ah (w'.heap[au]? = some (.cells #[.int .i64 oo, .int .i64 t154, .string kC] 23 (0, 0))) ∧ ah (Below w.heap.size w w'))
        case atStart => exact ⟨(y156), (4), zz2, H', ⟨Nat.le_refl _⟩, ⟨H8⟩, ⟨zz4⟩, ⟨zz5⟩⟩
        case round =>
         clear H'; (try clear p1); (try clear q1); (try clear hx1); (try clear c2); (try clear pK); (try clear p2); (try clear c3); (try clear tH); (try clear c4); (try clear lI); (try clear c6); (try clear qD); (try clear zT); (try clear p6); (try clear c7); (try clear c8); (try clear pE); (try clear pz); (try clear pq); (try clear rR); (try clear rQ); (try clear rP); (try clear uN); (try clear uM); (try clear wm); (try clear oU); (try clear oQ); (try clear oP); (try clear rM); (try clear rJ); (try clear rH); (try clear uK); (try clear uJ); (try clear vX); (try clear qw); (try clear qp); (try clear qo); (try clear C8); (try clear CZ); obtain ⟨qN, vo, rfl, HA, HK2, lT, ak, HB⟩ := hrel
         cases gk with
         | zero => exact absurd HA.out (by simp [bB.l1])
         | succ k2 =>
          have H := HA.out; clear HA; simp only [bB.l1] at H
          by_cases c14 : vo ≥ 0
          ·rw [if_pos c14] at H; have Cx : decide (0 ≤ vo) = true := decide_eq_true c14; clear c14; obtain ⟨JW, Vu⟩ : ∃ j_ : Int, (wrap64 (8 * vo)) = j_ := ⟨_, rfl⟩; replace H : (if 0 ≤ (JW) then (if qN.length < 140737488355328 then (bB.l1 k2 (qN ++ [(shr .u64 (IntKind.u64.wrap (wrap64 (t154 + 4294967296))) (JW)) % 256]) (IntKind.u64.wrap (wrap64 (t154 + 4294967296))) (wrap64 (vo - 1)) l0 (l0.length : Int) fE) else (none)) else (none)) = some r := by first | (rw [Vu] at H; exact H) | (simp only [Vu] at H ⊢; exact H)
           have hji15w : (IntKind.i64.wrap (8 * vo)) = JW := (dJ _).trans Vu
           by_cases c16 : 0 ≤ (JW)
           ·rw [if_pos c16] at H; have l8 := eq_true c16; have wS : decide (0 ≤ (JW)) = true := decide_eq_true c16; clear c16; obtain ⟨UG, Sn⟩ : ∃ j_ : Int, (shr .u64 (IntKind.u64.wrap (wrap64 (t154 + 4294967296))) (JW)) = j_ := ⟨_, rfl⟩; replace H : (if qN.length < 140737488355328 then (bB.l1 k2 (qN ++ [(UG) % 256]) (IntKind.u64.wrap (wrap64 (t154 + 4294967296))) (wrap64 (vo - 1)) l0 (l0.length : Int) fE) else (none)) = some r := by first | (rw [Sn] at H; exact H) | (simp only [Sn] at H ⊢; exact H)
            have hji17_ : ((IntKind.u64.wrap (wrap64 (t154 + 4294967296))) / 2 ^ min (JW).toNat 64) = UG := Sn; have hji17z : (JW) ≤ 64 → ((IntKind.u64.wrap (wrap64 (t154 + 4294967296))) / 2 ^ (JW).toNat) = UG := Iu Sn
            by_cases c18 : qN.length < 140737488355328
            ·rw [if_pos c18] at H; have LMc18 := ah.mk c18; clear c18; obtain ⟨y159, hy159⟩ : ∃ y_ : List Int, y_ = (qN ++ [(UG) % 256]) := ⟨_, rfl⟩; replace H : (bB.l1 k2 y159 (IntKind.u64.wrap (wrap64 (t154 + 4294967296))) (wrap64 (vo - 1)) l0 (l0.length : Int) fE) = some r := by first | (rw [hy159]; with_reducible exact H) | (have H2_ := (Option.bind_some _ _).symm.trans H; rw [hy159]; with_reducible exact H2_) | (have H2_ := (Option.bind_some _ _).symm.trans H; with_reducible exact H2_) | with_reducible exact H | (rw [hy159]; exact H) | exact H
             have Ny159 := ah.mk hy159; clear hy159; have H' := ah.mk H; clear H
             go_wp2_with (first | ((with_reducible refine iq (b := .append) (xs := #[.tmp 36, .tmp 42]) rfl ?_); at_builtin; refine Kd.nS (Kd.int .u8) (w0 := w) w.heap.size rfl (.tmp 36) (.tmp 42) 71 5 (.int .u8 0) 1 rfl Try.underlying71 info5 rfl (by decide) (by omega) u3 qN ((UG) % 256) [.int .u8 ((UG) % 256)] (fun _ => True) (fun _ => False) rfl rfl ?aP (fun _ hk => hk.elim) ?aF ?aO ?aB ?aS ?aL ?_; (case aP => exact rfl); (case aB => exact zz5); (case aF => exact (fun _ _ => trivial)); (case aO => exact zN); (case aS => exact (bW zz5)); (case aL => have := LMc18.out; omega); intro v160 w19 ho hb hg hat; rw [← Ny159.out] at ho; replace ak := ah.mk (gZ (g := au) (o := .cells #[.int .i64 oo, .int .i64 t154, .string kC] 23 (0, 0)) zz4 hg (Kd.pR lT.out ak.out (by decide))); replace HB := ah.mk (hb); have iB := ah.mk (ho); clear lT; clear ho hb hg hat))
             go_roundg k2
             case measure => have := HK1.out; have := HK2.out; omega
             case rel => exact ⟨(y159), (wrap64 (vo - 1)), zz2, H', ⟨Om⟩, ⟨Ol⟩, ⟨zz4⟩, ⟨zz5⟩⟩
            ·rw [if_neg c18] at H; exact absurd H (by simp)
           ·rw [if_neg c16] at H; exact absurd H (by simp)
          ·rw [if_neg c14] at H; have Cx : decide (0 ≤ vo) = false := decide_eq_false c14; clear c14; have H' := ah.mk H; clear H
           go_wp2
           go_roundg k2
           case measure => have := HK1.out; have := HK2.out; omega
           case rel => exact ⟨(qN), (wrap64 (fE + 1)), zz2, H', ⟨Om⟩, ⟨zN⟩, ⟨zz5⟩⟩
       ·rw [if_neg c7] at H; exact absurd H (by simp)
      ·rw [if_neg c6] at H; have qD : (oo == 1) = false := beq_eq_false_iff_ne.mpr c6; have zT : (oo != 1) = true := bne_iff_ne.mpr c6
       by_cases c20 : oo = 2
       ·rw [if_pos c20] at H; have Tt : (oo == 2) = true := beq_iff_eq.mpr c20; have c20b1 : (oo != 2) = false := bne_eq_false_iff_eq.mpr c20; clear c20
        by_cases c21 : l6.length < 140737488355328
        ·rw [if_pos c21] at H; have LMc21 := ah.mk c21; clear c21; obtain ⟨y162, Nk⟩ : ∃ y_ : List Int, y_ = (l6 ++ [3]) := ⟨_, rfl⟩; replace H : (if kC.size ≤ 9223372036854775807 then (bB.l2 k1 y162 l0 (l0.length : Int) fE (bytesOf kC) ((bytesOf kC).length : Int) 0) else (none)) = some r := by first | (rw [Nk]; with_reducible exact H) | (have H2_ := (Option.bind_some _ _).symm.trans H; rw [Nk]; with_reducible exact H2_) | (have H2_ := (Option.bind_some _ _).symm.trans H; with_reducible exact H2_) | with_reducible exact H | (rw [Nk]; exact H) | exact H
         have Ny162 := ah.mk Nk; clear Nk
         by_cases c22 : kC.size ≤ 9223372036854775807
         ·rw [if_pos c22] at H; have GX := eq_true c22; have Tq : decide (kC.size ≤ 9223372036854775807) = true := decide_eq_true c22
          try have c22b2 : (9223372036854775807 < kC.size) = False := eq_false (Nat.not_lt.2 c22)
          clear c22; have H' := ah.mk H; clear H; have C8 : 0 ≤ (fE : Int) := of_decide_eq_true zz9; have CZ : fE < (l0.length : Int) := of_decide_eq_true zz9; obtain ⟨ad151, e151, qw, qp, qo⟩ := mo HR0.out fE C8 CZ
          cases e151
          replace qw := cB HB qw; replace qp := cB HB qp; replace qo := cB HB qo; replace C8 := eq_true C8; replace CZ := eq_true CZ
          go_wp2_with (first | ((with_reducible refine bD (N := 5) rfl ?_); refine bq ?hg (N := 5) ?hd (cs := #[.int .i64 0, .int .i64 0, .string (⟨#[]⟩ : ByteArray)]) (t := 23) ?hr ?_; (case hd => rfl); (case hg => rfl); (case hr => first | (go_simp; done) | (go_simp; rfl)); intro au hg w23 bF hb; replace lT := ah.mk (Kd.gT zN hb); have ak := ah.mk (bF); have fO := ah.mk ((zz0 : w.heap.size ≤ au)); have fD := ah.mk ((zz0 : w.heap.size ≤ au)); replace HB := ah.mk (aA zz1 hb); clear hb bF hg; have KV : w23.cell? ⟨au, 0, none⟩ = some (.int .i64 0) := cK ak 0; have KU : w23.cell? ⟨au, 1, none⟩ = some (.int .i64 0) := cK ak 1; have KT : w23.cell? ⟨au, 2, none⟩ = some (.string (⟨#[]⟩ : ByteArray)) := cK ak 2; have Kq := aj ak.out 0; have Ko := aj ak.out 1; have Kn := aj ak.out 2) | ((with_reducible refine aT (f := 85) rfl ?_); refine cu (some 17) rfl rfl Try.func85 (by kernel_rfl) rfl #[.agg #[.int .i64 ((aN l0 fE).f0), .int .i64 ((aN l0 fE).f1), .string ((aN l0 fE).f2)]] rfl zz8 ?_; (with_reducible refine (jc.calls ((aN l0 fE).f0) ((aN l0 fE).f1) ((aN l0 fE).f2) oo t154 kC _ A5.out).mono ?_); rintro e w25 ⟨rfl, hb⟩; refine ⟨_, rfl, ?_⟩; replace lT := ah.mk (Kd.gT zz26 hb); replace ak := ah.mk (aI (g := au) (o := .cells #[.int .i64 ((aN l0 fE).f0), .int .i64 ((aN l0 fE).f1), .string ((aN l0 fE).f2)] 23 (0, 0)) zz27 hb); replace HB := ah.mk (aA zz5 hb); (try clear hb); (try clear hb2); (try clear hk); (try clear hi); have Fu : w25.cell? ⟨au, 0, none⟩ = some (.int .i64 ((aN l0 fE).f0)) := cK ak 0; have Fq : w25.cell? ⟨au, 1, none⟩ = some (.int .i64 ((aN l0 fE).f1)) := cK ak 1; have KS : w25.cell? ⟨au, 2, none⟩ = some (.string ((aN l0 fE).f2)) := cK ak 2; have EP := aj ak.out 0; have EO := aj ak.out 1; have Km := aj ak.out 2) | ((with_reducible refine iq (b := .append) (xs := #[.tmp 46, .tmp 47]) rfl ?_); at_builtin; refine Kd.nS (Kd.int .u8) (w0 := w) w.heap.size rfl (.tmp 46) (.tmp 47) 71 5 (.int .u8 0) 1 rfl Try.underlying71 info5 rfl (by decide) (by omega) u3 l6 3 [.int .u8 3] (fun _ => True) (fun _ => False) rfl zz28 ?aP (fun _ hk => hk.elim) ?aF ?aO ?aB ?aS ?aL ?_; (case aP => exact rfl); (case aB => exact zz5); (case aF => exact (fun _ _ => trivial)); (case aO => exact zz29); (case aS => exact (bW zz5)); (case aL => have := LMc21.out; omega); intro v163 w27 ho hb hg hat; rw [← Ny162.out] at ho; replace ak := ah.mk (gZ (g := au) (o := .cells #[.int .i64 oo, .int .i64 t154, .string kC] 23 (0, 0)) zz30 hg (Kd.pR lT.out ak.out (by decide))); replace HB := ah.mk (hb); have jg := ah.mk (ho); clear lT; clear ho hb hg hat; have Fp : w27.cell? ⟨au, 0, none⟩ = some (.int .i64 oo) := cK ak 0; have Fj : w27.cell? ⟨au, 1, none⟩ = some (.int .i64 t154) := cK ak 1; have Fh : w27.cell? ⟨au, 2, none⟩ = some (.string kC) := cK ak 2; have EN := aj ak.out 0; have EM := aj ak.out 1; have EL := aj ak.out 2) | ((with_reducible refine bD (N := 51) rfl ?_); refine xJ (N := 51) ?hg ?hd 9 71 5 (.tmp 50) ?ho Try.underlying9 Try.underlying71 Try.underlying5 kC ?hx (of_decide_eq_true zz9) (base := w.heap.size) ?hb_ ?_; (case hb_ => exact ((bW zz5))); (case hd => rfl); (case hg => rfl); (case ho => rfl); (case hx => first | rfl | (go_simp; done) | (go_simp; rfl)); intro A166 c166 w29 hc_ hb; replace jg := ah.mk (Kd.gT CQ hb); replace ak := ah.mk (aI (g := au) (o := .cells #[.int .i64 oo, .int .i64 t154, .string kC] 23 (0, 0)) zz4 hb); replace HB := ah.mk (aA zz5 hb); have DR := ah.mk hc_; have HC104 := ah.mk hc_.le; clear hb hc_))
          go_loopg [3, 53] k1 (fun kq v3 v53 w' => ∃ (qN : List Int) (kQ : Int), v53 = .int .i64 kQ ∧ ah (bB.l2 kq qN l0 (l0.length : Int) fE (bytesOf kC) ((bytesOf kC).length : Int) kQ = some r) ∧ ah (kq ≤ k1) ∧ ah (Kd.R (Kd.int .u8) 5 w' w.heap.size (fun _ => True) v3 qN) ∧ ah (w'.heap[au]? = some (.cells #[.int .i64 oo, .int .i64 t154, .string kC] 23 (0, 0))) ∧ ah (iZ w' w.heap.size A166 c166 (bytesOf kC).length (bytesOf kC)) ∧ ah (Below w.heap.size w w'))
          case atStart => exact ⟨(y162), (0), zz2, H', ⟨Nat.le_refl _⟩, ⟨CQ⟩, ⟨zz4⟩, ⟨H7⟩, ⟨zz5⟩⟩
          case round =>
           clear H'; (try clear c1); (try clear p1); (try clear q1); (try clear hx1); (try clear c2); (try clear pK); (try clear p2); (try clear c3); (try clear tH); (try clear c4); (try clear lI); (try clear c6); (try clear qD); (try clear zT); (try clear p6); (try clear c7); (try clear c8); (try clear c14); (try clear Cx); (try clear p15); (try clear q15); (try clear hx15); (try clear c16); (try clear l8); (try clear wS); (try clear c18); (try clear c20); (try clear Tt); (try clear c20b1); (try clear c21); (try clear c22); (try clear GX); (try clear Tq); (try clear c22b2); (try clear pE); (try clear pz); (try clear pq); (try clear rR); (try clear rQ); (try clear rP); (try clear KV); (try clear KU); (try clear KT); (try clear Fu); (try clear Fq); (try clear KS); (try clear Fp); (try clear Fj); (try clear Fh); (try clear uN); (try clear uM); (try clear wm); (try clear oU); (try clear oQ); (try clear oP); (try clear rM); (try clear rJ); (try clear rH); (try clear Kq); (try clear Ko); (try clear Kn); (try clear EP); (try clear EO); (try clear Km); (try clear EN); (try clear EM); (try clear EL); (try clear uK); (try clear uJ); (try clear vX); (try clear qw); (try clear qp); (try clear qo); (try clear p1); (try clear C8); (try clear p2); (try clear p6); (try clear q1); (try clear CZ); obtain ⟨qN, kQ, rfl, HA, HK2, lT, ak, DR, HB⟩ := hrel
           cases gk with
           | zero => exact absurd HA.out (by simp [bB.l2])
           | succ k2 =>
            have H := HA.out; clear HA; simp only [bB.l2] at H
            by_cases c30 : kQ < ((bytesOf kC).length : Int)
            ·rw [if_pos c30] at H; have GV : decide (kQ < ((bytesOf kC).length : Int)) = true := decide_eq_true c30; clear c30
             by_cases c31 : 0 ≤ kQ
             ·rw [if_pos c31] at H; have Tp : decide (0 ≤ kQ) = true := decide_eq_true c31; clear c31
              by_cases c32 : kQ < ((bytesOf kC).length : Int)
              ·rw [if_pos c32] at H; have Tn : decide (kQ < ((bytesOf kC).length : Int)) = true := decide_eq_true c32; clear c32
               by_cases c33 : qN.length < 140737488355328
               ·rw [if_pos c33] at H; have LMc33 := ah.mk c33; clear c33; obtain ⟨y168, hy168⟩ : ∃ y_ : List Int, y_ = (qN ++ [rd (bytesOf kC) kQ]) := ⟨_, rfl⟩; replace H : (if (rd (bytesOf kC) kQ) = 0 then (if y168.length < 140737488355328 then (bB.l2 k2 (y168 ++ [255]) l0 (l0.length : Int) fE (bytesOf kC) ((bytesOf kC).length : Int) (wrap64 (kQ + 1))) else (none)) else (bB.l2 k2 y168 l0 (l0.length : Int) fE (bytesOf kC) ((bytesOf kC).length : Int) (wrap64 (kQ + 1)))) = some r := by first | (rw [hy168]; with_reducible exact H) | (have H2_ := (Option.bind_some _ _).symm.trans H; rw [hy168]; with_reducible exact H2_) | (have H2_ := (Option.bind_some _ _).symm.trans H; with_reducible exact H2_) | with_reducible exact H | (rw [hy168]; exact H) | exact H
                have Ny168 := ah.mk hy168; clear hy168
                by_cases c34 : (rd (bytesOf kC) kQ) = 0
                ·rw [if_pos c34] at H; have DI : ((rd (bytesOf kC) kQ) == 0) = true := beq_iff_eq.mpr c34; have IQ : ((rd (bytesOf kC) kQ) != 0) = false := bne_eq_false_iff_eq.mpr c34; clear c34
                 by_cases c35 : y168.length < 140737488355328
                 ·rw [if_pos c35] at H; have LMc35 := ah.mk c35; clear c35; obtain ⟨y171, Nj⟩ : ∃ y_ : List Int, y_ = (y168 ++ [255]) := ⟨_, rfl⟩; replace H : (bB.l2 k2 y171 l0 (l0.length : Int) fE (bytesOf kC) ((bytesOf kC).length : Int) (wrap64 (kQ + 1))) = some r := by first | (rw [Nj]; with_reducible exact H) | (have H2_ := (Option.bind_some _ _).symm.trans H; rw [Nj]; with_reducible exact H2_) | (have H2_ := (Option.bind_some _ _).symm.trans H; with_reducible exact H2_) | with_reducible exact H | (rw [Nj]; exact H) | exact H
                  have Ny171 := ah.mk Nj; clear Nj; have H' := ah.mk H; clear H; have Pz : 0 ≤ (kQ : Int) := of_decide_eq_true zz9; have Pb : kQ < ((bytesOf kC).length : Int) := of_decide_eq_true zz9; obtain ⟨ad167, e167, Yo⟩ := Kd.jM (iZ.reads H7) kQ Pz Pb
                  cases e167
                  replace Pz := eq_true Pz; replace Pb := eq_true Pb
                  go_wp2_with (first | ((with_reducible refine iq (b := .append) (xs := #[.tmp 57, .tmp 59]) rfl ?_); at_builtin; refine Kd.nS (Kd.int .u8) (w0 := w) w.heap.size rfl (.tmp 57) (.tmp 59) 71 5 (.int .u8 0) 1 rfl Try.underlying71 info5 rfl (by decide) (by omega) u3 qN (rd (bytesOf kC) kQ) [.int .u8 (rd (bytesOf kC) kQ)] (fun _ => True) (fun _ => False) rfl rfl ?aP (fun _ hk => hk.elim) ?aF ?aO ?aB ?aS ?aL ?_; (case aP => exact rfl); (case aB => exact zz5); (case aF => exact (fun _ _ => trivial)); (case aO => exact zN); (case aS => exact (bW zz5)); (case aL => have := LMc33.out; omega); intro v169 w36 ho hb hg hat; rw [← Ny168.out] at ho; replace ak := ah.mk (gZ (g := au) (o := .cells #[.int .i64 oo, .int .i64 t154, .string kC] 23 (0, 0)) zz4 hg (Kd.pR lT.out ak.out (by decide))); replace HB := ah.mk (hb); replace DR := ah.mk (iZ.grown H7 hg (Kd.rT zN)); have sV := ah.mk (ho); clear lT; clear ho hb hg hat) | ((with_reducible refine iq (b := .append) (xs := #[.tmp 63, .tmp 64]) rfl ?_); at_builtin; refine Kd.nS (Kd.int .u8) (w0 := w) w.heap.size rfl (.tmp 63) (.tmp 64) 71 5 (.int .u8 0) 1 rfl Try.underlying71 info5 rfl (by decide) (by omega) v169 y168 255 [.int .u8 255] (fun _ => True) (fun _ => False) rfl rfl ?aP (fun _ hk => hk.elim) ?aF ?aO ?aB ?aS ?aL ?_; (case aP => exact rfl); (case aB => exact zz5); (case aF => exact (fun _ _ => trivial)); (case aO => exact zz35); (case aS => exact (bW zz5)); (case aL => have := LMc35.out; omega); intro v172 w37 ho hb hg hat; rw [← Ny171.out] at ho; replace ak := ah.mk (gZ (g := au) (o := .cells #[.int .i64 oo, .int .i64 t154, .string kC] 23 (0, 0)) zz4 hg (Kd.pR sV.out ak.out (by decide))); replace HB := ah.mk (hb); replace DR := ah.mk (iZ.grown H7 hg (Kd.rT zz35)); have vk := ah.mk (ho); clear sV; clear ho hb hg hat))
                  go_roundg k2
                  case measure => have := HK1.out; have := HK2.out; omega
                  case rel => exact ⟨(y171), (wrap64 (kQ + 1)), zz2, H', ⟨Om⟩, ⟨zz36⟩, ⟨zz4⟩, ⟨H7⟩, ⟨zz5⟩⟩
                 ·rw [if_neg c35] at H; exact absurd H (by simp)
                ·rw [if_neg c34] at H; have DI : ((rd (bytesOf kC) kQ) == 0) = false := beq_eq_false_iff_ne.mpr c34; have IQ : ((rd (bytesOf kC) kQ) != 0) = true := bne_iff_ne.mpr c34; have H' := ah.mk H; clear H; have Pz : 0 ≤ (kQ : Int) := of_decide_eq_true zz9; have Pb : kQ < ((bytesOf kC).length : Int) := of_decide_eq_true zz9; obtain ⟨ad167, e167, Yo⟩ := Kd.jM (iZ.reads H7) kQ Pz Pb
                 cases e167
                 replace Pz := eq_true Pz; replace Pb := eq_true Pb
                 go_wp2_with (first | ((with_reducible refine iq (b := .append) (xs := #[.tmp 57, .tmp 59]) rfl ?_); at_builtin; refine Kd.nS (Kd.int .u8) (w0 := w) w.heap.size rfl (.tmp 57) (.tmp 59) 71 5 (.int .u8 0) 1 rfl Try.underlying71 info5 rfl (by decide) (by omega) u3 qN (rd (bytesOf kC) kQ) [.int .u8 (rd (bytesOf kC) kQ)] (fun _ => True) (fun _ => False) rfl rfl ?aP (fun _ hk => hk.elim) ?aF ?aO ?aB ?aS ?aL ?_; (case aP => exact rfl); (case aB => exact zz5); (case aF => exact (fun _ _ => trivial)); (case aO => exact zN); (case aS => exact (bW zz5)); (case aL => have := LMc33.out; omega); intro v169 w38 ho hb hg hat; rw [← Ny168.out] at ho; replace ak := ah.mk (gZ (g := au) (o := .cells #[.int .i64 oo, .int .i64 t154, .string kC] 23 (0, 0)) zz4 hg (Kd.pR lT.out ak.out (by decide))); replace HB := ah.mk (hb); replace DR := ah.mk (iZ.grown H7 hg (Kd.rT zN)); have sV := ah.mk (ho); clear lT; clear ho hb hg hat))
                 go_roundg k2
                 case measure => have := HK1.out; have := HK2.out; omega
                 case rel => exact ⟨(y168), (wrap64 (kQ + 1)), zz2, H', ⟨Om⟩, ⟨zz35⟩, ⟨zz4⟩, ⟨H7⟩, ⟨zz5⟩⟩
               ·rw [if_neg c33] at H; exact absurd H (by simp)
              ·rw [if_neg c32] at H; exact absurd H (by simp)
             ·rw [if_neg c31] at H; exact absurd H (by simp)
            ·rw [if_neg c30] at H; have GV : decide (kQ < ((bytesOf kC).length : Int)) = false := decide_eq_false c30; clear c30; obtain ⟨Jc, Ni⟩ : ∃ y_ : List Int, y_ = (([0, 0] : List Int)) := ⟨_, rfl⟩; replace H : (if qN.length + Jc.length < 140737488355328 then (bB.l0 k2 (qN ++ Jc) l0 (l0.length : Int) (wrap64 (fE + 1))) else (none)) = some r := by first | (rw [Ni]; with_reducible exact H) | (have H2_ := (Option.bind_some _ _).symm.trans H; rw [Ni]; with_reducible exact H2_) | (have H2_ := (Option.bind_some _ _).symm.trans H; with_reducible exact H2_) | with_reducible exact H | (rw [Ni]; exact H) | exact H
             have Ny174 := ah.mk Ni; clear Ni
             by_cases c39 : qN.length + Jc.length < 140737488355328
             ·rw [if_pos c39] at H; have LMc39 := ah.mk c39; clear c39; obtain ⟨y177, Nh⟩ : ∃ y_ : List Int, y_ = (qN ++ Jc) := ⟨_, rfl⟩; replace H : (bB.l0 k2 y177 l0 (l0.length : Int) (wrap64 (fE + 1))) = some r := by first | (rw [Nh]; with_reducible exact H) | (have H2_ := (Option.bind_some _ _).symm.trans H; rw [Nh]; with_reducible exact H2_) | (have H2_ := (Option.bind_some _ _).symm.trans H; with_reducible exact H2_) | with_reducible exact H | (rw [Nh]; exact H) | exact H
              have Ny177 := ah.mk Nh; clear Nh; have H' := ah.mk H; clear H
              go_wp2_with (first | ((with_reducible refine bD (N := 68) rfl ?_); refine Kd.CG (Kd.int .u8) _ 5 ?hg (N := 68) ?hd (xs := ([0, 0] : List Int)) (inner := [.int .u8 0, .int .u8 0]) (ok := fun _ => True) (okp := fun _ => True) ?hr ?hp (fun _ hk => hk) trivial (Below.refl _ _) (Nat.le_refl _) (by simp) ?_; (case hd => rfl); (case hg => rfl); (case hr => first | (go_simp; done) | (go_simp; rfl)); (case hp => exact (ig.one (show Kd.M (Kd.int .u8) _ _ _ 0 [.int .u8 0] from rfl) (ig.one (show Kd.M (Kd.int .u8) _ _ _ 0 [.int .u8 0] from rfl) (ig.none _ _)))); intro v175 w40 UJ hb hg_ lY; clear hg_ lY; (first | rw [← Ny174.out] at UJ | (simp only [Int.reduceToNat] at UJ; rw [← Ny174.out] at UJ)); have DT := ah.mk (Kd.jv (Kd.wL UJ (Kd.zW zN)) (bW zz5)); replace lT := ah.mk (Kd.pW zN (Kd.kP UJ) hb); replace ak := ah.mk (aI (g := au) (o := .cells #[.int .i64 oo, .int .i64 t154, .string kC] 23 (0, 0)) zz4 hb); replace DR := ah.mk (iZ.below H7 hb); replace HB := ah.mk (aA zz5 hb); clear hb UJ; obtain ⟨Ao43, co43, eo43⟩ := Kd.gH DT.out; subst eo43) | ((with_reducible refine iq (b := .append) (xs := #[.tmp 67, .tmp 68]) rfl ?_); at_builtin; refine Kd.qy (Kd.int .u8) (w0 := w) w.heap.size rfl (.tmp 67) (.tmp 68) 71 5 (.int .u8 0) 1 rfl Try.underlying71 info5 rfl (by decide) (by omega) u3 qN Jc _ _ _ (fun k_ => some k_ ≠ (.slice Ao43 Jc.length co43 : Value).ownBlock) (fun _ => False) rfl rfl ?aO ?aR (fun _ _ h => h) (fun _ h => h.elim) ?aF ?aB ?aS ?aL ?_; (case aR => repeat (first | exact (Kd.dP DT.out).2.2 | (with_reducible refine Kd.dW ?_ _) | (with_reducible refine Kd.d9 ?_ _) | (with_reducible refine Kd.eT ?_))); (case aB => exact zz5); (case aF => exact (fun k_ hk => Kd.fresh' (Kd.zW (by (with_reducible repeat (first | apply Kd.fJ | apply Kd.fH | apply Kd.eO)); exact DT.out)) k_ hk)); (case aO => exact (by (with_reducible repeat (first | apply Kd.fJ | apply Kd.fH | apply Kd.eO)); exact Kd.dN lT.out (fun _ hk => hk.2))); (case aS => exact (bW zz5)); (case aL => have := LMc39.out; omega); intro v178 w42 ho hb hg hat; rw [← Ny177.out] at ho; replace ak := ah.mk (gZ (g := au) (o := .cells #[.int .i64 oo, .int .i64 t154, .string kC] 23 (0, 0)) zz4 hg (Kd.pR lT.out ak.out (by decide))); replace DT := ah.mk (Kd.FL (ok := (fun _ => True)) (by (with_reducible repeat (first | apply Kd.fJ | apply Kd.fH | apply Kd.eO)); exact DT.out) hg hat); replace HB := ah.mk (hb); replace DR := ah.mk (iZ.grown H7 hg (Kd.rT zN)); have HO108 := ah.mk (ho); clear lT; clear ho hb hg hat))
              go_roundg k2
              case measure => have := HK1.out; have := HK2.out; omega
              case rel => exact ⟨(y177), (wrap64 (fE + 1)), zz2, H', ⟨Om⟩, ⟨by (with_reducible repeat (first | apply Kd.fJ | apply Kd.fH | apply Kd.eO)); exact Kd.dN HO108.out (fun _ hk => trivial)⟩, ⟨zz5⟩⟩
             ·rw [if_neg c39] at H; exact absurd H (by simp)
         ·rw [if_neg c22] at H; exact absurd H (by simp)
        ·rw [if_neg c21] at H; exact absurd H (by simp)
       ·rw [if_neg c20] at H; have Tt : (oo == 2) = false := beq_eq_false_iff_ne.mpr c20; have c20b1 : (oo != 2) = true := bne_iff_ne.mpr c20
        by_cases c44 : l6.length < 140737488355328
        ·rw [if_pos c44] at H; have LMc44 := ah.mk c44; clear c44; obtain ⟨y180, Ng⟩ : ∃ y_ : List Int, y_ = (l6 ++ [1]) := ⟨_, rfl⟩; replace H : (bB.l0 k1 y180 l0 (l0.length : Int) (wrap64 (fE + 1))) = some r := by first | (rw [Ng]; with_reducible exact H) | (have H2_ := (Option.bind_some _ _).symm.trans H; rw [Ng]; with_reducible exact H2_) | (have H2_ := (Option.bind_some _ _).symm.trans H; with_reducible exact H2_) | with_reducible exact H | (rw [Ng]; exact H) | exact H
         have Ny180 := ah.mk Ng; clear Ng; have H' := ah.mk H; clear H; have C8 : 0 ≤ (fE : Int) := of_decide_eq_true zz9; have CZ : fE < (l0.length : Int) := of_decide_eq_true zz9; obtain ⟨ad151, e151, qw, qp, qo⟩ := mo HR0.out fE C8 CZ
         cases e151
         replace qw := cB HB qw; replace qp := cB HB qp; replace qo := cB HB qo; replace C8 := eq_true C8; replace CZ := eq_true CZ
         go_wp2_with (first | ((with_reducible refine bD (N := 5) rfl ?_); refine bq ?hg (N := 5) ?hd (cs := #[.int .i64 0, .int .i64 0, .string (⟨#[]⟩ : ByteArray)]) (t := 23) ?hr ?_; (case hd => rfl); (case hg => rfl); (case hr => first | (go_simp; done) | (go_simp; rfl)); intro au hg w45 bF hb; replace lT := ah.mk (Kd.gT zN hb); have ak := ah.mk (bF); have fO := ah.mk ((zz0 : w.heap.size ≤ au)); have fD := ah.mk ((zz0 : w.heap.size ≤ au)); replace HB := ah.mk (aA zz1 hb); clear hb bF hg; have Ta : w45.cell? ⟨au, 0, none⟩ = some (.int .i64 0) := cK ak 0; have S9 : w45.cell? ⟨au, 1, none⟩ = some (.int .i64 0) := cK ak 1; have SY : w45.cell? ⟨au, 2, none⟩ = some (.string (⟨#[]⟩ : ByteArray)) := cK ak 2; have SK := aj ak.out 0; have SI := aj ak.out 1; have SH := aj ak.out 2) | ((with_reducible refine aT (f := 85) rfl ?_); refine cu (some 17) rfl rfl Try.func85 (by kernel_rfl) rfl #[.agg #[.int .i64 ((aN l0 fE).f0), .int .i64 ((aN l0 fE).f1), .string ((aN l0 fE).f2)]] rfl zz8 ?_; (with_reducible refine (jc.calls ((aN l0 fE).f0) ((aN l0 fE).f1) ((aN l0 fE).f2) oo t154 kC _ A5.out).mono ?_); rintro e w47 ⟨rfl, hb⟩; refine ⟨_, rfl, ?_⟩; replace lT := ah.mk (Kd.gT zz26 hb); replace ak := ah.mk (aI (g := au) (o := .cells #[.int .i64 ((aN l0 fE).f0), .int .i64 ((aN l0 fE).f1), .string ((aN l0 fE).f2)] 23 (0, 0)) zz27 hb); replace HB := ah.mk (aA zz5 hb); (try clear hb); (try clear hb2); (try clear hk); (try clear hi); have hcz48_0 : w47.cell? ⟨au, 0, none⟩ = some (.int .i64 ((aN l0 fE).f0)) := cK ak 0; have hcz48_1 : w47.cell? ⟨au, 1, none⟩ = some (.int .i64 ((aN l0 fE).f1)) := cK ak 1; have hcz48_2 : w47.cell? ⟨au, 2, none⟩ = some (.string ((aN l0 fE).f2)) := cK ak 2; have hfz48_0 := aj ak.out 0; have hfz48_1 := aj ak.out 1; have hfz48_2 := aj ak.out 2) | ((with_reducible refine iq (b := .append) (xs := #[.tmp 20, .tmp 21]) rfl ?_); at_builtin; refine Kd.nS (Kd.int .u8) (w0 := w) w.heap.size rfl (.tmp 20) (.tmp 21) 71 5 (.int .u8 0) 1 rfl Try.underlying71 info5 rfl (by decide) (by omega) u3 l6 1 [.int .u8 1] (fun _ => True) (fun _ => False) rfl zz28 ?aP (fun _ hk => hk.elim) ?aF ?aO ?aB ?aS ?aL ?_; (case aP => exact rfl); (case aB => exact zz5); (case aF => exact (fun _ _ => trivial)); (case aO => exact zz29); (case aS => exact (bW zz5)); (case aL => have := LMc44.out; omega); intro v181 w49 ho hb hg hat; rw [← Ny180.out] at ho; replace ak := ah.mk (gZ (g := au) (o := .cells #[.int .i64 oo, .int .i64 t154, .string kC] 23 (0, 0)) zz30 hg (Kd.pR lT.out ak.out (by decide))); replace HB := ah.mk (hb); have Xe := ah.mk (ho); clear lT; clear ho hb hg hat))
         go_roundg k1
         case measure => have := HK1.out; omega
         case rel => exact ⟨(y180), (wrap64 (fE + 1)), zz2, H', ⟨by have := HK1.out; omega⟩, ⟨by (with_reducible repeat (first | apply Kd.fJ | apply Kd.fH | apply Kd.eO)); exact Xe.out⟩, ⟨zz5⟩⟩
        ·rw [if_neg c44] at H; exact absurd H (by simp)
     ·rw [if_neg c4] at H; exact absurd H (by simp)
    ·rw [if_neg c3] at H; exact absurd H (by simp)
   ·rw [if_neg c2] at H; have pK : decide (fE < (l0.length : Int)) = false := decide_eq_false c2; clear c2; obtain rfl := Option.some.inj H; have hcv50 := PL (P := Try.prog) Try.underlying71 Try.underlying5 Try.underlying9 (Kd.Ap lT.out)
    go_wp2
    go_ret
    exact ⟨zz6, zz1⟩
def dA.l0 : Nat → Int → List Int → Int → Int → Option (Int)
 | 0, _, _, _, _ => none
 | k + 1, x5, x15, x16, x17 => if x17 < x16 then (if 0 ≤ x17 then (if x17 < (x15.length : Int) then (dA.l0 k (IntKind.u64.wrap ((Go.bits .xor .u64 x5 (IntKind.u64.wrap (rd x15 x17))) * 1099511628211)) x15 x16 (wrap64 (x17 + 1))) else (none)) else (none)) else (some x5)
def dA.f (k : Nat) (aX : Int) (aU : Int) (aY : ByteArray) (a1 : Int) : Option (Int) := (bB.f k (([(⟨aX, aU, aY⟩ : S23)] : List (S23)))).bind fun zC => (if zC.size ≤ 9223372036854775807 then (if (bytesOf zC).length < 140737488355328 then ((some ((bytesOf zC) ++ [(a1) % 256] : List Int)).bind fun uV => (dA.l0 k 14695981039346656037 uV (uV.length : Int) 0)) else (none)) else (none))
theorem dA.gM : ∀ k, (∀ y0 y1 y2 y3, LeO (dA.l0 k y0 y1 y2 y3) (dA.l0 (k + 1) y0 y1 y2 y3))
 | 0 => fun _ _ _ _ r h => by simp [dA.l0] at h
 | k + 1 => by
  have ih0 := dA.gM k
  ·intro y0 y1 y2 y3; unfold dA.l0
   repeat' first
   | (with_reducible exact ih0 _ _ _ _)
   | (with_reducible exact bB.mono _ _)
   | (with_reducible exact LeO.refl _)
   | (with_reducible exact LeO.none _)
   | (with_reducible refine LeO.ite ?_ ?_)
   | (with_reducible refine LeO.bind ?_ (fun _ => ?_))
   | exact ih0 _ _ _ _
   | exact bB.mono _ _
   | exact LeO.none _
   | refine LeO.ite ?_ ?_
   | refine LeO.bind ?_ (fun _ => ?_)
theorem dA.mono : ∀ a0 a1 a2 a3 k, LeO (dA.f k a0 a1 a2 a3) (dA.f (k + 1) a0 a1 a2 a3) := by
 intro a0 a1 a2 a3 k; have ih0 := dA.gM k; unfold dA.f
 repeat' first
   | (with_reducible exact ih0 _ _ _ _)
   | (with_reducible exact bB.mono _ _)
   | (with_reducible exact LeO.refl _)
   | (with_reducible exact LeO.none _)
   | (with_reducible refine LeO.ite ?_ ?_)
   | (with_reducible refine LeO.bind ?_ (fun _ => ?_))
   | exact ih0 _ _ _ _
   | exact bB.mono _ _
   | exact LeO.none _
   | refine LeO.ite ?_ ?_
   | refine LeO.bind ?_ (fun _ => ?_)
set_option maxHeartbeats 8000000 in
set_option maxRecDepth 100000 in
theorem dA.calls (k : Nat) (aX : Int) (aU : Int) (aY : ByteArray) (a1 : Int) (r : Int) (w : World) (h : dA.f k aX aU aY a1 = some r) :
  Calls Try.prog 15 #[.agg #[.int .i64 aX, .int .i64 aU, .string aY], .int .i64 a1] w fun e w' => e = .returned (.int .u64 r) ∧ Below w.heap.size w w' := by
 have sJ := Try.underlying23; have HB := ah.mk (Below.refl w.heap.size w); have H := h; clear h
 dsimp only [dA.f] at H
 obtain ⟨y184, Nf⟩ : ∃ y_ : List (S23), y_ = (([(⟨aX, aU, aY⟩ : S23)] : List (S23))) := ⟨_, rfl⟩; replace H : ((bB.f k y184).bind fun zC => (if zC.size ≤ 9223372036854775807 then (if (bytesOf zC).length < 140737488355328 then ((some ((bytesOf zC) ++ [(a1) % 256] : List Int)).bind fun uV => (dA.l0 k 14695981039346656037 uV (uV.length : Int) 0)) else (none)) else (none))) = some r := by first | (rw [Nf]; with_reducible exact H) | (have H2_ := (Option.bind_some _ _).symm.trans H; rw [Nf]; with_reducible exact H2_) | (have H2_ := (Option.bind_some _ _).symm.trans H; with_reducible exact H2_) | with_reducible exact H | (rw [Nf]; exact H) | exact H
 have Ny184 := ah.mk Nf; clear Nf; replace H := Option.bind_eq_some_iff.mp H; obtain ⟨zC, A30, H⟩ := H; have A3 := ah.mk A30; clear A30
 by_cases c4 : zC.size ≤ 9223372036854775807
 ·rw [if_pos c4] at H; have lI := eq_true c4; have c4b1 : decide (zC.size ≤ 9223372036854775807) = true := decide_eq_true c4
  try have c4b2 : (9223372036854775807 < zC.size) = False := eq_false (Nat.not_lt.2 c4)
  clear c4
  by_cases c5 : (bytesOf zC).length < 140737488355328
  ·rw [if_pos c5] at H; have LMc5 := ah.mk c5; clear c5; obtain ⟨uV, Nc⟩ : ∃ y_ : List Int, y_ = ((bytesOf zC) ++ [(a1) % 256]) := ⟨_, rfl⟩; replace H : (dA.l0 k 14695981039346656037 uV (uV.length : Int) 0) = some r := by first | (rw [Nc]; with_reducible exact H) | (have H2_ := (Option.bind_some _ _).symm.trans H; rw [Nc]; with_reducible exact H2_) | (have H2_ := (Option.bind_some _ _).symm.trans H; with_reducible exact H2_) | with_reducible exact H | (rw [Nc]; exact H) | exact H
   have Ny190 := ah.mk Nc; clear Nc; have H' := ah.mk H; clear H
   go_enter Try.func15, Try.ntmps15
   go_wp2_with (first | ((with_reducible refine bD (N := 2) rfl ?_); refine bq ?hg (N := 2) ?hd (cs := #[.int .i64 aX, .int .i64 aU, .string aY]) (t := 23) ?hr ?_; (case hd => rfl); (case hg => rfl); (case hr => first | (go_simp; done) | (go_simp; rfl)); intro au hg w6 bF hb; have ak := ah.mk (bF); have fO := ah.mk ((zz0 : w.heap.size ≤ au)); have fD := ah.mk ((zz0 : w.heap.size ≤ au)); replace HB := ah.mk (aA zz1 hb); clear hb bF hg; have uP : w6.cell? ⟨au, 0, none⟩ = some (.int .i64 aX) := cK ak 0; have uO : w6.cell? ⟨au, 1, none⟩ = some (.int .i64 aU) := cK ak 1; have xQ : w6.cell? ⟨au, 2, none⟩ = some (.string aY) := cK ak 2; have xO := aj ak.out 0; have uL := aj ak.out 1; have xM := aj ak.out 2) | ((with_reducible refine bD (N := 9) rfl ?_); refine Kd.CG k23 _ 23 ?hg (N := 9) ?hd (xs := ([(⟨aX, aU, aY⟩ : S23)] : List (S23))) (inner := [.int .i64 aX, .int .i64 aU, .string aY]) (ok := fun _ => True) (okp := fun _ => True) ?hr ?hp (fun _ hk => hk) trivial (Below.refl _ _) (Nat.le_refl _) (by simp) ?_; (case hd => rfl); (case hg => rfl); (case hr => first | (go_simp; done) | (go_simp; rfl)); (case hp => exact (ig.c3 (show Kd.M k23 _ _ _ (⟨aX, aU, aY⟩ : S23) [.int .i64 aX, .int .i64 aU, .string aY] from (qR _ _ _ (⟨aX, aU, aY⟩ : S23) )) (ig.none _ _))); intro v185 w8 ho9 hb hg_ lY; clear hg_ lY; (first | rw [← Ny184.out] at ho9 | (simp only [Int.reduceToNat] at ho9; rw [← Ny184.out] at ho9)); have om := ah.mk (Kd.jv (Kd.QT ho9 (g := au) (o := .cells #[.int .i64 aX, .int .i64 aU, .string aY] 23 (0, 0)) zz4) (bW zz5)); replace ak := ah.mk (aI (g := au) (o := .cells #[.int .i64 aX, .int .i64 aU, .string aY] 23 (0, 0)) zz4 hb); replace HB := ah.mk (aA zz5 hb); clear hb ho9; obtain ⟨Ao10, co10, eo10⟩ := Kd.gH om.out; subst eo10) | ((with_reducible refine aT (f := 47) rfl ?_); refine cu (some 10) rfl rfl Try.func47 (by kernel_rfl) rfl #[.slice Ao10 y184.length co10] rfl zz8 ?_; (with_reducible refine (bB.calls k _ _ y184 zC _ ?bZ ?cO A3.out).mono ?_); (case bZ => repeat (first | exact (Kd.dP om.out).2.2 | (with_reducible refine Kd.dW ?_ _) | (with_reducible refine Kd.d9 ?_ _) | (with_reducible refine Kd.eT ?_))); (case cO => exact (Kd.dP om.out).2.1); rintro e w11 ⟨rfl, hb⟩; refine ⟨_, rfl, ?_⟩; replace om := ah.mk (Kd.gT H8 hb); replace ak := ah.mk (aI (g := au) (o := .cells #[.int .i64 aX, .int .i64 aU, .string aY] 23 (0, 0)) zz4 hb); replace HB := ah.mk (aA zz5 hb); (try clear hb); (try clear hb2); (try clear hk); (try clear hi)) | ((with_reducible refine bD (N := 11) rfl ?_); refine xJ (N := 11) ?hg ?hd 9 71 5 (.tmp 10) ?ho Try.underlying9 Try.underlying71 Try.underlying5 zC ?hx (of_decide_eq_true zz9) (base := w.heap.size) ?hb_ ?_; (case hb_ => exact ((bW zz5))); (case hd => rfl); (case hg => rfl); (case ho => rfl); (case hx => first | rfl | (go_simp; done) | (go_simp; rfl)); intro A189 c189 w12 hc_ hb; replace om := ah.mk (Kd.gT H8 hb); replace ak := ah.mk (aI (g := au) (o := .cells #[.int .i64 aX, .int .i64 aU, .string aY] 23 (0, 0)) zz4 hb); replace HB := ah.mk (aA zz5 hb); have Xc := ah.mk hc_; have HC102 := ah.mk hc_.le; clear hb hc_) | ((with_reducible refine iq (b := .append) (xs := #[.tmp 11, .tmp 14]) rfl ?_); at_builtin; refine D7 (w0 := w) w.heap.size rfl (.tmp 11) (.tmp 14) 71 5 rfl Try.underlying71 info5 A189 c189 (bytesOf zC) ((a1) % 256) rfl rfl ?aC ?aB ?aS ?aL uV Ny190.out ?_; (case aC => exact zz37); (case aB => exact zz5); (case aS => exact ((bW zz5))); (case aL => have := LMc5.out; omega); intro A193 c193 w13 hc_ hr_ hb hg; replace ak := ah.mk (gZ (g := au) (o := .cells #[.int .i64 aX, .int .i64 aU, .string aY] 23 (0, 0)) zz4 hg (iZ.away zz37 zz4)); replace om := ah.mk (iZ.R_over zz37 H8 hg); replace HB := ah.mk (hb); clear Xc; have Xb := ah.mk hc_; have HC103 := ah.mk hr_; clear hb hc_ hr_ hg))
   go_loopg [5, 17] k (fun kq v5 v17 w' => ∃ (eB : Int) (sw : Int), v5 = .int .u64 eB ∧ v17 = .int .i64 sw ∧ ah (dA.l0 kq eB uV (uV.length : Int) sw = some r) ∧ ah (kq ≤ k) ∧ ah (w'.heap[au]? = some (.cells #[.int .i64 aX, .int .i64 aU, .string aY] 23 (0, 0))) ∧ ah (Kd.C (Kd.int .u8) w' A193 uV.length uV) ∧ ah (Below w.heap.size w w'))
   case atStart => exact ⟨(14695981039346656037), (0), zz2, zz2, H', ⟨Nat.le_refl _⟩, ⟨zz4⟩, ⟨zz38⟩, ⟨zz5⟩⟩
   case round =>
    clear H'; (try clear c1); (try clear p2); (try clear c3); (try clear c4); (try clear lI); (try clear c4b1); (try clear c4b2); (try clear c5); (try clear uP); (try clear uO); (try clear xQ); (try clear xO); (try clear uL); (try clear xM); obtain ⟨eB, sw, rfl, rfl, HA, HK1, ak, Xb, HB⟩ := hrel
    cases gk with
    | zero => exact absurd HA.out (by simp [dA.l0])
    | succ k1 =>
     have H := HA.out; clear HA; simp only [dA.l0] at H
     by_cases c14 : sw < (uV.length : Int)
     ·rw [if_pos c14] at H; have Cx : decide (sw < (uV.length : Int)) = true := decide_eq_true c14; clear c14
      by_cases c15 : 0 ≤ sw
      ·rw [if_pos c15] at H; have IV : decide (0 ≤ sw) = true := decide_eq_true c15; clear c15
       by_cases c16 : sw < (uV.length : Int)
       ·rw [if_pos c16] at H; have l8 : decide (sw < (uV.length : Int)) = true := decide_eq_true c16; clear c16; have H' := ah.mk H; clear H; have p194 : 0 ≤ (sw : Int) := of_decide_eq_true zz9; have q194 : sw < (uV.length : Int) := of_decide_eq_true zz9; obtain ⟨ad194, e194, hx194_0⟩ := Kd.jM zz38 sw p194 q194
        cases e194
        replace p194 := eq_true p194; replace q194 := eq_true q194
        go_wp2
        go_roundg k1
        case measure => have := HK1.out; omega
        case rel => exact ⟨(IntKind.u64.wrap ((Go.bits .xor .u64 eB (IntKind.u64.wrap (rd uV sw))) * 1099511628211)), (wrap64 (sw + 1)), zz2, zz2, H', ⟨by have := HK1.out; omega⟩, ⟨zz4⟩, ⟨zz38⟩, ⟨zz5⟩⟩
       ·rw [if_neg c16] at H; exact absurd H (by simp)
      ·rw [if_neg c15] at H; exact absurd H (by simp)
     ·rw [if_neg c14] at H; have Cx : decide (sw < (uV.length : Int)) = false := decide_eq_false c14; clear c14; obtain rfl := Option.some.inj H
      go_wp2
      go_ret
      exact ⟨zz6, zz5⟩
  ·rw [if_neg c5] at H; exact absurd H (by simp)
 ·rw [if_neg c4] at H; exact absurd H (by simp)
def bE.l0 : Nat → List Int → Int → Int → ByteArray → ByteArray → Int → Int → Int → Int → Int → Int → ByteArray → Option (List Int)
 | 0, _, _, _, _, _, _, _, _, _, _, _, _ => none
 | k + 1, x5, x8, x9, XL, XK, XJ, XI, Ec, XH, Ry, Rx, Rw => if x9 < x8 then ((dA.f k Ry Rx Rw x9).bind fun Uu => (if (IntKind.u64.wrap (Ec)) = 0 then (none) else (if x5.length < 17592186044416 then (bE.l0 k (x5 ++ [wrap64 ((wrap64 (x9 * Ec)) + (wrap64 (Int.tmod Uu (IntKind.u64.wrap (Ec)))))]) x8 (wrap64 (x9 + 1)) XL XK XJ XI Ec XH Ry Rx Rw) else (none)))) else (some x5)
def bE.f (k : Nat) (aX : ByteArray) (aU : ByteArray) (aY : Int) (bJ : Int) (bI : Int) (bK : Int) (gQ : Int) (gP : Int) (gN : ByteArray) : Option (List Int) := bE.l0 k ([] : List Int) bK 0 aX aU aY bJ bI bK gQ gP gN
theorem bE.gM : ∀ k, (∀ y0 y1 y2 y3 y4 y5 y6 y7 y8 y9 y10 y11, LeO (bE.l0 k y0 y1 y2 y3 y4 y5 y6 y7 y8 y9 y10 y11) (bE.l0 (k + 1) y0 y1 y2 y3 y4 y5 y6 y7 y8 y9 y10 y11))
 | 0 => fun _ _ _ _ _ _ _ _ _ _ _ _ r h => by simp [bE.l0] at h
 | k + 1 => by
  have ih0 := bE.gM k
  ·intro y0 y1 y2 y3 y4 y5 y6 y7 y8 y9 y10 y11; unfold bE.l0
   repeat' first
   | (with_reducible exact ih0 _ _ _ _ _ _ _ _ _ _ _ _)
   | (with_reducible exact dA.mono _ _ _ _ _)
   | (with_reducible exact LeO.refl _)
   | (with_reducible exact LeO.none _)
   | (with_reducible refine LeO.ite ?_ ?_)
   | (with_reducible refine LeO.bind ?_ (fun _ => ?_))
   | exact ih0 _ _ _ _ _ _ _ _ _ _ _ _
   | exact dA.mono _ _ _ _ _
   | exact LeO.none _
   | refine LeO.ite ?_ ?_
   | refine LeO.bind ?_ (fun _ => ?_)
theorem bE.mono : ∀ a0 a1 a2 a3 a4 a5 a6 a7 a8 k, LeO (bE.f k a0 a1 a2 a3 a4 a5 a6 a7 a8) (bE.f (k + 1) a0 a1 a2 a3 a4 a5 a6 a7 a8) := by
 intro a0 a1 a2 a3 a4 a5 a6 a7 a8 k; have ih0 := bE.gM k; unfold bE.f
 repeat' first
   | (with_reducible exact ih0 _ _ _ _ _ _ _ _ _ _ _ _)
   | (with_reducible exact dA.mono _ _ _ _ _)
   | (with_reducible exact LeO.refl _)
   | (with_reducible exact LeO.none _)
   | (with_reducible refine LeO.ite ?_ ?_)
   | (with_reducible refine LeO.bind ?_ (fun _ => ?_))
   | exact ih0 _ _ _ _ _ _ _ _ _ _ _ _
   | exact dA.mono _ _ _ _ _
   | exact LeO.none _
   | refine LeO.ite ?_ ?_
   | refine LeO.bind ?_ (fun _ => ?_)
def bE.T5 : Bool × List (List Nat × List Nat) := (true, [([], []), ([], []), ([], []), ([2], [2]), ([1, 3], [1, 3]), ([], []), ([], []), ([5, 6], [5, 6]), ([], []), ([8], [8]), ([9], [9]), ([7, 10], [7, 10]), ([11], [11]), ([4, 12], [4, 12]), ([13], [13]), ([0, 14, 7], [0, 14]), ([15, 15, 0, 1, 2, 3, 4, 5, 6, 7, 8, 9, 10, 11, 12, 13, 14, 15], [0, 15])])
def bE.B5 : List Nat := [0, 0, 0, 4, 14, 0, 0, 96, 0, 256, 768, 2016, 4064, 8190, 16382, 32767, 65535]
theorem bE.tab5 : kD .any (opsOf Try.f67 5) = bE.T5 := by kernel_rfl
theorem bE.NW : jS bE.T5.2 bE.B5 = true := by kernel_rfl
set_option maxHeartbeats 8000000 in
set_option maxRecDepth 100000 in
theorem bE.calls (k : Nat) (aX : ByteArray) (aU : ByteArray) (aY : Int) (bJ : Int) (bI : Int) (bK : Int) (gQ : Int) (gP : Int) (gN : ByteArray) (r : List Int) (w : World) (h : bE.f k aX aU aY bJ bI bK gQ gP gN = some r) :
  Calls Try.prog 67 #[.agg #[.string aX, .string aU, .int .i64 aY, .int .i64 bJ, .int .i64 bI, .int .i64 bK], .agg #[.int .i64 gQ, .int .i64 gP, .string gN]] w fun e w' => ∃ v0_ : Value, e = .returned (v0_) ∧ Kd.R (Kd.int .i64) 3 w' w.heap.size (fun _ => True) v0_ r ∧ Below w.heap.size w w' := by
 have D8 := Try.underlying30; have sJ := Try.underlying23; have HB := ah.mk (Below.refl w.heap.size w); have H := h; clear h
 dsimp only [bE.f] at H
 have H' := ah.mk H; clear H
 go_enter Try.func67, Try.ntmps67
 go_wp2_with (first | ((with_reducible refine bD (N := 2) rfl ?_); refine bq ?hg (N := 2) ?hd (cs := #[.string aX, .string aU, .int .i64 aY, .int .i64 bJ, .int .i64 bI, .int .i64 bK]) (t := 30) ?hr ?_; (case hd => rfl); (case hg => rfl); (case hr => first | (go_simp; done) | (go_simp; rfl)); intro au hg w3 bF hb; have ak := ah.mk (bF); have fO := ah.mk ((zz0 : w.heap.size ≤ au)); have fD := ah.mk ((zz0 : w.heap.size ≤ au)); replace HB := ah.mk (aA zz1 hb); clear hb bF hg) | ((with_reducible refine bD (N := 3) rfl ?_); refine bq ?hg (N := 3) ?hd (cs := #[.int .i64 gQ, .int .i64 gP, .string gN]) (t := 23) ?hr ?_; (case hd => rfl); (case hg => rfl); (case hr => first | (go_simp; done) | (go_simp; rfl)); intro ay hg w4 bF hb; have av := ah.mk (bF); have iX := ah.mk ((jK : w.heap.size ≤ ay)); have iC := ah.mk ((jK : w.heap.size ≤ ay)); replace HB := ah.mk (aA zz5 hb); have aQ := ah.mk ((zB : au ≠ ay)); have aW := ah.mk ((zA : ay ≠ au)); replace ak := ah.mk (aI (g := au) (o := .cells #[.string aX, .string aU, .int .i64 aY, .int .i64 bJ, .int .i64 bI, .int .i64 bK] 30 (0, 0)) zz4 hb); clear hb bF hg; have hnb5 := aQ.out; have hnc5 := aW.out; have xS : w4.cell? ⟨au, 0, none⟩ = some (.string aX) := cK ak 0; have xR : w4.cell? ⟨au, 1, none⟩ = some (.string aU) := cK ak 1; have Gs : w4.cell? ⟨au, 2, none⟩ = some (.int .i64 aY) := cK ak 2; have Gr : w4.cell? ⟨au, 3, none⟩ = some (.int .i64 bJ) := cK ak 3; have Gq : w4.cell? ⟨au, 4, none⟩ = some (.int .i64 bI) := cK ak 4; have Gp : w4.cell? ⟨au, 5, none⟩ = some (.int .i64 bK) := cK ak 5; have C9 := aj ak.out 0; have xP := aj ak.out 1; have Gn := aj ak.out 2; have Gm := aj ak.out 3; have Gl := aj ak.out 4; have Gj := aj ak.out 5))
 go_loopg [5, 9] k (fun kq v5 v9 w' => ∃ (eB : List Int) (bV : Int), v9 = .int .i64 bV ∧ ah (bE.l0 kq eB bK bV aX aU aY bJ bI bK gQ gP gN = some r) ∧ ah (kq ≤ k) ∧ ah (Kd.R (Kd.int .i64) 3 w' w.heap.size (fun _ => True) v5 eB) ∧ ah (w'.heap[au]? = some (.cells #[.string aX, .string aU, .int .i64 aY, .int .i64 bJ, .int .i64 bI, .int .i64 bK] 30 (0, 0))) ∧ ah (w'.heap[ay]? = some (.cells #[.int .i64 gQ, .int .i64 gP, .string gN] 23 (0, 0))) ∧ ah (Below w.heap.size w w'))
 case atStart => exact ⟨(([] : List Int)), (0), zz2, H', ⟨Nat.le_refl _⟩, ⟨H9⟩, ⟨zz4⟩, ⟨fK⟩, ⟨fF⟩⟩
 case round =>
  clear H'; (try clear p2); (try clear c5); (try clear c6); (try clear xS); (try clear xR); (try clear Gs); (try clear Gr); (try clear Gq); (try clear Gp); (try clear C9); (try clear xP); (try clear Gn); (try clear Gm); (try clear Gl); (try clear Gj); obtain ⟨eB, bV, rfl, HA, HK1, qL, ak, av, HB⟩ := hrel
  cases gk with
  | zero => exact absurd HA.out (by simp [bE.l0])
  | succ k1 =>
   have H := HA.out; clear HA; simp only [bE.l0] at H
   by_cases c7 : bV < bK
   ·rw [if_pos c7] at H; have pJ : decide (bV < bK) = true := decide_eq_true c7; clear c7; replace H := Option.bind_eq_some_iff.mp H; obtain ⟨Uu, A80, H⟩ := H; have A8 := ah.mk A80; clear A80
    by_cases c9 : (IntKind.u64.wrap (bI)) = 0
    ·rw [if_pos c9] at H; exact absurd H (by simp)
    ·rw [if_neg c9] at H; have xV : ((IntKind.u64.wrap (bI)) == 0) = false := beq_eq_false_iff_ne.mpr c9; have c9b1 : ((IntKind.u64.wrap (bI)) != 0) = true := bne_iff_ne.mpr c9
     by_cases c10 : eB.length < 17592186044416
     ·rw [if_pos c10] at H; have LMc10 := ah.mk c10; clear c10; obtain ⟨y198, Nb⟩ : ∃ y_ : List Int, y_ = (eB ++ [wrap64 ((wrap64 (bV * bI)) + (wrap64 (Int.tmod Uu (IntKind.u64.wrap (bI)))))]) := ⟨_, rfl⟩; replace H : (bE.l0 k1 y198 bK (wrap64 (bV + 1)) aX aU aY bJ bI bK gQ gP gN) = some r := by first | (rw [Nb]; with_reducible exact H) | (have H2_ := (Option.bind_some _ _).symm.trans H; rw [Nb]; with_reducible exact H2_) | (have H2_ := (Option.bind_some _ _).symm.trans H; with_reducible exact H2_) | with_reducible exact H | (rw [Nb]; exact H) | exact H
      have Ny198 := ah.mk Nb; clear Nb; have H' := ah.mk H; clear H
      try go_wp2
      replace qL := ah.mk (Kd.eO qL.out); replace ak := ah.mk (aK ak.out); replace av := ah.mk (aK av.out); replace HB := ah.mk (bG HB.out); refine jd (n := 17) (S := fun w' => w'.cell? ⟨au, 0, none⟩ = some (.string aX) ∧ w'.cell? ⟨au, 1, none⟩ = some (.string aU) ∧ w'.cell? ⟨au, 2, none⟩ = some (.int .i64 aY) ∧ w'.cell? ⟨au, 3, none⟩ = some (.int .i64 bJ) ∧ w'.cell? ⟨au, 4, none⟩ = some (.int .i64 bI) ∧ w'.cell? ⟨au, 5, none⟩ = some (.int .i64 bK) ∧ w'.cell? ⟨ay, 0, none⟩ = some (.int .i64 gQ) ∧ w'.cell? ⟨ay, 1, none⟩ = some (.int .i64 gP) ∧ w'.cell? ⟨ay, 2, none⟩ = some (.string gN)) (ds := []) (.replicate 17 false) (by kernel_rfl) rfl rfl ⟨cK ak 0, cK ak 1, cK ak 2, cK ak 3, cK ak 4, cK ak 5, cK av 0, cK av 1, cK av 2⟩ (fun hHeld => ?_); refine iE bE.tab5 bE.NW (fun HT_ HW_ => ?_); generalize wr.drew = w11 at qL ak av HB hHeld ⊢; refine pV 0 12 (bA 17 1) HT_ ?_; refine pV 1 13 (bA 17 3) HT_ ?_; refine pV 2 14 (bA 17 7) HT_ ?_; refine pV 6 18 (bA 17 71) HT_ ?_; refine pV 8 20 (bA 17 327) HT_ ?_; refine tV (v := ?_) 3 15 (bA 17 335) HT_ HW_ hHeld ?_ ?_; rotate_left
      ·rintro w' ⟨s0, s1, s2, s3, s4, s5, s6, s7, s8⟩
       go_simp
       (with_reducible rfl)
      refine pV 4 16 (bA 17 351) HT_ ?_; refine tV (v := ?_) 5 17 (bA 17 383) HT_ HW_ hHeld ?_ ?_; rotate_left
      ·rintro w' ⟨s0, s1, s2, s3, s4, s5, s6, s7, s8⟩
       go_simp
       (with_reducible rfl)
      refine tV (v := ?_) 9 21 (bA 17 895) HT_ HW_ hHeld ?_ ?_; rotate_left
      ·rintro w' ⟨s0, s1, s2, s3, s4, s5, s6, s7, s8⟩
       go_simp
       (with_reducible rfl)
      refine pV 10 22 (bA 17 1919) HT_ ?_; refine oN 7 19 (bA 17 2047) HT_ (fun K hK => ?_); refine iT Try.func15 (by kernel_rfl) rfl #[.agg #[.int .i64 gQ, .int .i64 gP, .string gN], .int .i64 bV] (by rfl) rfl rfl zz8 ?_; (with_reducible refine (dA.calls k1 gQ gP gN bV Uu _ A8.out).mono ?_); rintro e w12 ⟨rfl, hb⟩; refine ⟨_, rfl, ?_⟩; replace qL := ah.mk (Kd.gT zz41 hb); replace ak := ah.mk (aI (g := au) (o := .cells #[.string aX, .string aU, .int .i64 aY, .int .i64 bJ, .int .i64 bI, .int .i64 bK] 30 (0, 0)) zz4 hb); replace av := ah.mk (aI (g := ay) (o := .cells #[.int .i64 gQ, .int .i64 gP, .string gN] 23 (0, 0)) fK hb); replace HB := ah.mk (aA fF hb); (try clear hb); (try clear hb2); (try clear hk); (try clear hi); refine hK.out _ _ ⟨cK ak 0, cK ak 1, cK ak 2, cK ak 3, cK ak 4, cK ak 5, cK av 0, cK av 1, cK av 2⟩ (fun hHeld => ?_); clear hK K; refine iV (a' := ?_) ?_ ?_; rotate_left
      ·show Act.put _ (some 19) _ = _
       simp only [Act.put, List.setIfInBounds_toArray, List.set_cons_zero, List.set_cons_succ, dJ, eu]
       rfl
      refine pV 11 23 (bA 17 4095) HT_ ?_; refine pV 12 24 (bA 17 8191) HT_ ?_; refine pV 13 25 (bA 17 16383) HT_ ?_; refine oN 14 26 (bA 17 32767) HT_ (fun K hK => ?_); refine qJ (w1 := ?_) (v := ?_) (by rfl) rfl ?_ ?_; rotate_left 2
      ·go_simp
       constructor
       ·rfl
       ·rfl
      refine hK.out _ _ ⟨(jD (aJ ak.out _) 0).trans rfl, (jD (aJ ak.out _) 1).trans rfl, (jD (aJ ak.out _) 2).trans rfl, (jD (aJ ak.out _) 3).trans rfl, (jD (aJ ak.out _) 4).trans rfl, (jD (aJ ak.out _) 5).trans rfl, (jD (aJ av.out _) 0).trans rfl, (jD (aJ av.out _) 1).trans rfl, (jD (aJ av.out _) 2).trans rfl⟩ (fun hHeld => ?_); clear hK K; refine iV (a' := ?_) ?_ ?_; rotate_left
      ·show Act.put _ (some 26) _ = _
       simp only [Act.put, List.setIfInBounds_toArray, List.set_cons_zero, List.set_cons_succ, dJ, eu]
       rfl
      refine oN 15 27 (bA 17 65535) HT_ (fun K hK => ?_); refine Kd.zJ (Kd.int .i64) (w0 := w) w.heap.size (by rfl) (.tmp 12) (.tmp 26) 28 3 (.int .i64 0) 8 rfl Try.underlying28 info3 rfl (by decide) (by omega) u5 eB (wrap64 ((wrap64 (bV * bI)) + (wrap64 (Int.tmod Uu (IntKind.u64.wrap (bI)))))) [.int .i64 (wrap64 ((wrap64 (bV * bI)) + (wrap64 (Int.tmod Uu (IntKind.u64.wrap (bI))))))] (fun _ => True) (fun _ => False) rfl rfl ?aP (fun _ hk => hk.elim) ?aF ?aO ?aB ?aS ?aL ?_; (case aP => exact rfl); (case aB => exact fF); (case aF => exact (fun _ _ => trivial)); (case aO => exact zz41); (case aS => exact (bW fF)); (case aL => have := LMc10.out; omega); intro v199 w13 ho hb hg hat; rw [← Ny198.out] at ho; replace ak := ah.mk (gZ (g := au) (o := .cells #[.string aX, .string aU, .int .i64 aY, .int .i64 bJ, .int .i64 bI, .int .i64 bK] 30 (0, 0)) zz4 hg (Kd.pR qL.out ak.out (by decide))); replace av := ah.mk (gZ (g := ay) (o := .cells #[.int .i64 gQ, .int .i64 gP, .string gN] 23 (0, 0)) fK hg (Kd.pR qL.out av.out (by decide))); replace HB := ah.mk (hb); have iB := ah.mk (ho); clear qL; clear ho hb hg hat; refine hK.out _ _ ⟨cK ak 0, cK ak 1, cK ak 2, cK ak 3, cK ak 4, cK ak 5, cK av 0, cK av 1, cK av 2⟩ (fun hHeld => ?_); clear hK K; refine iV (a' := ?_) ?_ ?_; rotate_left
      ·show Act.put _ (some 27) _ = _
       simp only [Act.put, List.setIfInBounds_toArray, List.set_cons_zero, List.set_cons_succ, dJ, eu]
       rfl
      refine pV 16 5 (bA 17 131071) HT_ ?_; refine kJ (j5 HT_.out (by kernel_rfl)) ?_
      try go_wp2
      go_roundg k1
      case measure => have := HK1.out; omega
      case rel => exact ⟨(y198), (wrap64 (bV + 1)), zz2, H', ⟨by have := HK1.out; omega⟩, ⟨Ol⟩, ⟨zz4⟩, ⟨fK⟩, ⟨fF⟩⟩
     ·rw [if_neg c10] at H; exact absurd H (by simp)
   ·rw [if_neg c7] at H; have pJ : decide (bV < bK) = false := decide_eq_false c7; clear c7; obtain rfl := Option.some.inj H
    go_wp2
    go_ret
    exact ⟨_, zz6, zz41, fF⟩
end Go.Proofs.Ythicocmnefaioaa.QO

import Derived.Test.YthicocmnefaioaaZm0
namespace Go.Proofs.Ythicocmnefaioaa.QS
open Go.RowKit Go.Proofs.YthicocmnefaioaaW.dx Go.Proofs.YthicocmnefaioaaW.jF Go.Proofs.YthicocmnefaioaaW.lI
open Go.Proofs.YthicocmnefaioaaW.Sq
attribute [local go_sem] pY pW sD sw og nZ pX pR
set_option linter.unusedVariables false
set_option linter.unusedSimpArgs false
attribute [local go_sem high] jX
def dV.l0 : Nat → List (S51) → List (S51) → Int → Int → Option (Bool)
 | 0, _, _, _, _ => none
 | k + 1, x0, x5, x6, x7 => if x7 < x6 then (if 0 ≤ x7 then (if x7 < (x5.length : Int) then ((fU.f k ((aD x5 x7).f0) ((aD x5 x7).f1)).bind fun t138 => (if t138 = true then (if ((aD x5 x7).f1) = 0 then (some false) else (if x7 > 0 then (if 0 ≤ (wrap64 (x7 - 1)) then (if (wrap64 (x7 - 1)) < (x0.length : Int) then ((eG.f k ((aD x0 (wrap64 (x7 - 1))).f0) ((aD x5 x7).f0)).bind fun JX => (if JX ≥ 0 then (some false) else (dV.l0 k x0 x5 x6 (wrap64 (x7 + 1))))) else (none)) else (none)) else (dV.l0 k x0 x5 x6 (wrap64 (x7 + 1))))) else (some false))) else (none)) else (none)) else (some (decide ((x0.length : Int) ≤ 4096)))
def dV.f (k : Nat) (l0 : List (S51)) : Option (Bool) := dV.l0 k l0 l0 (l0.length : Int) 0
theorem dV.gU : ∀ k, (∀ y0 y1 y2 y3, LeO (dV.l0 k y0 y1 y2 y3) (dV.l0 (k + 1) y0 y1 y2 y3))
 | 0 => fun _ _ _ _ r h => by simp [dV.l0] at h
 | k + 1 => by
  have ih0 := dV.gU k
  ·intro y0 y1 y2 y3; unfold dV.l0
   repeat' first
   | (with_reducible exact ih0 _ _ _ _)
   | (with_reducible exact fU.mono _ _ _)
   | (with_reducible exact eG.mono _ _ _)
   | (with_reducible exact LeO.refl _)
   | (with_reducible exact LeO.none _)
   | (with_reducible refine LeO.ite ?_ ?_)
   | (with_reducible refine LeO.bind ?_ (fun _ => ?_))
   | exact ih0 _ _ _ _
   | exact fU.mono _ _ _
   | exact eG.mono _ _ _
   | exact LeO.none _
   | refine LeO.ite ?_ ?_
   | refine LeO.bind ?_ (fun _ => ?_)
theorem dV.mono : ∀ a0 k, LeO (dV.f k a0) (dV.f (k + 1) a0) := by
 intro a0 k; have ih0 := dV.gU k; unfold dV.f
 repeat' first
   | (with_reducible exact ih0 _ _ _ _)
   | (with_reducible exact fU.mono _ _ _)
   | (with_reducible exact eG.mono _ _ _)
   | (with_reducible exact LeO.refl _)
   | (with_reducible exact LeO.none _)
   | (with_reducible refine LeO.ite ?_ ?_)
   | (with_reducible refine LeO.bind ?_ (fun _ => ?_))
   | exact ih0 _ _ _ _
   | exact fU.mono _ _ _
   | exact eG.mono _ _ _
   | exact LeO.none _
   | refine LeO.ite ?_ ?_
   | refine LeO.bind ?_ (fun _ => ?_)
def dV.T4 : Bool × List (List Nat × List Nat) := (true, [([], []), ([0], [0]), ([1], [1]), ([2, 1], [2]), ([3], [3]), ([4, 3], [3, 4]), ([5, 3], [3, 5]), ([3, 6], [3, 6]), ([7, 3], [7]), ([8], [8]), ([9, 8], [8, 9]), ([10, 8, 8], [8, 10]), ([11], [11]), ([11], [11]), ([13, 11], [11, 13]), ([12, 14, 11], [11, 12, 14]), ([15, 11], [11, 15]), ([16, 11], [11, 16]), ([11], [11]), ([18, 11], [11, 18]), ([17, 19, 11, 11], [11, 17, 19]), ([20, 11], [11, 20]), ([11, 21, 8], [8, 11, 21]), ([8, 22], [8, 22])])
def dV.B4 : List Nat := [0, 1, 3, 7, 15, 31, 63, 127, 255, 511, 1023, 2047, 4095, 4095, 12287, 32767, 65535, 131071, 4095, 266239, 1048575, 2097151, 4194303, 8388607]
theorem dV.EL : kL .any (opsOf Try.f94 4) = dV.T4 := by kernel_rfl
theorem dV.xO : j5 dV.T4.2 dV.B4 = true := by kernel_rfl
set_option maxHeartbeats 8000000 in
set_option maxRecDepth 100000 in
theorem dV.calls (k : Nat) (A0 : Option Addr) (c0 : Nat) (l0 : List (S51)) (r : Bool) (w : World) (hr0 : Kd.C k51 w A0 l0.length l0) (hc0 : l0.length ≤ c0) (h : dV.f k l0 = some r) :
  Calls Try.prog 94 #[.slice A0 l0.length c0] w fun e w' => e = .returned (.bool r) ∧ Below w.heap.size w w' := by
 have Nj := Try.underlying51; have HR0 := ah.mk hr0; have HC0 := ah.mk hc0; clear hr0 hc0; have HB := ah.mk (Below.refl w.heap.size w); have H := h; clear h
 dsimp only [dV.f] at H
 have H' := ah.mk H; clear H
 go_enter Try.func94, Try.ntmps94
 go_wp2
 go_loopg [7] k (fun kq v7 w' => ∃ (bT : Int), v7 = .int .i64 bT ∧ ah (dV.l0 kq l0 l0 (l0.length : Int) bT = some r) ∧ ah (kq ≤ k) ∧ ah (Below w.heap.size w w'))
 case atStart => exact ⟨(0), zz2, H', ⟨Nat.le_refl _⟩, ⟨zz1⟩⟩
 case round =>
  clear H'; obtain ⟨bT, rfl, HA, HK1, HB⟩ := hrel
  cases gk with
  | zero => exact absurd HA.out (by simp [dV.l0])
  | succ k1 =>
   have H := HA.out; clear HA; simp only [dV.l0] at H
   by_cases c2 : bT < (l0.length : Int)
   ·rw [if_pos c2] at H; have oH : decide (bT < (l0.length : Int)) = true := decide_eq_true c2; clear c2
    by_cases c3 : 0 ≤ bT
    ·rw [if_pos c3] at H; have tY : decide (0 ≤ bT) = true := decide_eq_true c3; clear c3
     by_cases c4 : bT < (l0.length : Int)
     ·rw [if_pos c4] at H; have lG : decide (bT < (l0.length : Int)) = true := decide_eq_true c4; clear c4; replace H := Option.bind_eq_some_iff.mp H; obtain ⟨t138, A50, H⟩ := H; have A5 := ah.mk A50; clear A50
      by_cases c6 : t138 = true
      ·subst c6; rw [if_pos rfl] at H
       by_cases c7 : ((aD l0 bT).f1) = 0
       ·rw [if_pos c7] at H; have qp : (((aD l0 bT).f1) == 0) = true := beq_iff_eq.mpr c7; have Nz : (((aD l0 bT).f1) != 0) = false := bne_eq_false_iff_eq.mpr c7; clear c7; obtain rfl := Option.some.inj H; have wK : 0 ≤ (bT : Int) := of_decide_eq_true zz9; have wI : bT < (l0.length : Int) := of_decide_eq_true zz9; obtain ⟨xP, iF, iC, Lg, ny, nu, nD, nG⟩ := fZ HR0.out bT wK wI
        cases Lg
        replace ny := cB HB ny; replace nu := cB HB nu; have fD := ah.mk nG; have gN := ah.mk nD; clear nG nD; replace wK := eq_true wK; replace wI := eq_true wI
        try go_wp2_with (first | ((with_reducible refine bE (N := 4) rfl ?_); refine bC ?hg (N := 4) ?hd (cs := #[.slice none 0 0, .int .i64 0]) (t := 51) ?hr ?_; (case hd => rfl); (case hg => rfl); (case hr => first | (go_simp; done) | (go_simp; rfl)); intro aA hg w8 bK hb; have ay := ah.mk (bK); have jD := ah.mk ((zz0 : w.heap.size ≤ aA)); have jr := ah.mk ((zz0 : w.heap.size ≤ aA)); replace HB := ah.mk (av zz1 hb); clear hb bK hg; have qM : w8.cell? ⟨aA, 0, none⟩ = some (.slice none 0 0) := cK ay 0; have qL : w8.cell? ⟨aA, 1, none⟩ = some (.int .i64 0) := cK ay 1; have qK := aj ay.out 0; have qJ := aj ay.out 1))
        have n0_ : ah (((w8.setCell ⟨aA, 0, none⟩ (.slice iF ((aD l0 bT).f0).length iC)).setCell ⟨aA, 1, none⟩ (.int .i64 ((aD l0 bT).f1))).heap[aA]? = some (.cells #[.slice iF ((aD l0 bT).f0).length iC, .int .i64 ((aD l0 bT).f1)] 51 (0, 0))) := ⟨zz21⟩; have n1_ : ah (Below w.heap.size w ((w8.setCell ⟨aA, 0, none⟩ (.slice iF ((aD l0 bT).f0).length iC)).setCell ⟨aA, 1, none⟩ (.int .i64 ((aD l0 bT).f1)))) := ⟨xW⟩; (try clear ay); (try clear HB); generalize ((w8.setCell ⟨aA, 0, none⟩ (.slice iF ((aD l0 bT).f0).length iC)).setCell ⟨aA, 1, none⟩ (.int .i64 ((aD l0 bT).f1))) = w10 at n0_ n1_ ⊢; have ay := n0_; have HB := n1_; clear n0_ n1_; replace ay := ah.mk (aJ ay.out); replace HB := ah.mk (bL HB.out); refine jB (n := 24) (S := fun w' => w'.cell? ⟨aA, 0, none⟩ = some (.slice iF ((aD l0 bT).f0).length iC) ∧ w'.cell? ⟨aA, 1, none⟩ = some (.int .i64 ((aD l0 bT).f1))) (ds := []) (.replicate 24 false) (by kernel_rfl) rfl rfl ⟨cK ay 0, cK ay 1⟩ (fun hHeld => ?_); refine iG dV.EL dV.xO (fun HT_ HW_ => ?_); generalize w10.drew = w11 at ay HB hHeld ⊢; refine tV (v := ?_) 0 12 (bA 24 1) HT_ HW_ hHeld ?_ ?_; rotate_left
        ·rintro w' ⟨s0, s1⟩
         go_simp
         (with_reducible rfl)
        refine oN 1 13 (bA 24 3) HT_ (fun K hK => ?_); refine iy Try.func115 (by kernel_rfl) rfl #[.agg #[.slice iF ((aD l0 bT).f0).length iC, .int .i64 ((aD l0 bT).f1)]] (by rfl) rfl rfl zz8 ?_; (with_reducible refine (fU.calls k1 _ _ ((aD l0 bT).f0) ((aD l0 bT).f1) true _ ?bO ?bR A5.out).mono ?_); (case bO => repeat (first | exact (Kd.eZ fD.out HB.out) | (with_reducible refine Kd.dF ?_ _) | (with_reducible refine Kd.dI ?_ _) | (with_reducible refine Kd.dZ ?_))); (case bR => exact gN.out); rintro e w12 ⟨rfl, hb⟩; refine ⟨_, rfl, ?_⟩; replace ay := ah.mk (aG (g := aA) (o := .cells #[.slice iF ((aD l0 bT).f0).length iC, .int .i64 ((aD l0 bT).f1)] 51 (0, 0)) iJ hb); replace HB := ah.mk (av xW hb); (try clear hb); (try clear hb2); (try clear hk); (try clear hi); refine hK.out _ _ ⟨cK ay 0, cK ay 1⟩ (fun hHeld => ?_); clear hK K; refine iI (a' := ?_) ?_ ?_; rotate_left
        ·show Act.put _ (some 13) _ = _
         simp only [Act.put, List.setIfInBounds_toArray, List.set_cons_zero, List.set_cons_succ, dS, eP]
         rfl
        refine pV 2 14 (bA 24 7) HT_ ?_; refine pV 3 15 (bA 24 15) HT_ ?_; refine pV 4 16 (bA 24 31) HT_ ?_; refine tV (v := ?_) 5 17 (bA 24 63) HT_ HW_ hHeld ?_ ?_; rotate_left
        ·rintro w' ⟨s0, s1⟩
         go_simp
         (with_reducible rfl)
        refine pV 6 18 (bA 24 127) HT_ ?_; refine pV 7 19 (bA 24 255) HT_ ?_; refine pV 8 20 (bA 24 511) HT_ ?_; refine pU 9 21 (bA 24 1023) HT_ ?_; refine pU 10 22 (bA 24 2047) HT_ ?_; refine pU 11 23 (bA 24 4095) HT_ ?_; refine pU 12 24 (bA 24 8191) HT_ ?_; refine pU 13 25 (bA 24 16383) HT_ ?_; refine pU 14 26 (bA 24 32767) HT_ ?_; refine pU 15 27 (bA 24 65535) HT_ ?_; refine pU 16 28 (bA 24 131071) HT_ ?_; refine pU 17 29 (bA 24 262143) HT_ ?_; refine pU 18 30 (bA 24 524287) HT_ ?_; refine pU 19 31 (bA 24 1048575) HT_ ?_; refine pU 20 32 (bA 24 2097151) HT_ ?_; refine pU 21 33 (bA 24 4194303) HT_ ?_; refine pU 22 34 (bA 24 8388607) HT_ ?_; refine pV 23 35 (bA 24 16777215) HT_ ?_; refine kX (j6 HT_.out (by kernel_rfl)) ?_
        try go_wp2
        go_ret
        exact ⟨zz6, xW⟩
       ·rw [if_neg c7] at H; have qp : (((aD l0 bT).f1) == 0) = false := beq_eq_false_iff_ne.mpr c7; have Nz : (((aD l0 bT).f1) != 0) = true := bne_iff_ne.mpr c7
        by_cases c13 : bT > 0
        ·rw [if_pos c13] at H; have Ji : decide (0 < bT) = true := decide_eq_true c13; clear c13; obtain ⟨mZ, yx⟩ : ∃ j_ : Int, (wrap64 (bT - 1)) = j_ := ⟨_, rfl⟩; replace H : (if 0 ≤ (mZ) then (if (mZ) < (l0.length : Int) then ((eG.f k1 ((aD l0 (mZ)).f0) ((aD l0 bT).f0)).bind fun JX => (if JX ≥ 0 then (some false) else (dV.l0 k1 l0 l0 (l0.length : Int) (wrap64 (bT + 1))))) else (none)) else (none)) = some r := by first | (rw [yx] at H; exact H) | (simp only [yx] at H ⊢; exact H)
         (try rw [yx] at A5); have hji14w : (IntKind.i64.wrap (bT - 1)) = mZ := (dS _).trans yx
         by_cases c15 : 0 ≤ (mZ)
         ·rw [if_pos c15] at H; have H7 : decide (0 ≤ (mZ)) = true := decide_eq_true c15; clear c15
          by_cases c16 : (mZ) < (l0.length : Int)
          ·rw [if_pos c16] at H; have lU : decide ((mZ) < (l0.length : Int)) = true := decide_eq_true c16; clear c16; replace H := Option.bind_eq_some_iff.mp H; obtain ⟨JX, Iz, H⟩ := H; have A17 := ah.mk Iz; clear Iz
           by_cases c18 : JX ≥ 0
           ·rw [if_pos c18] at H; have Jh : decide (0 ≤ JX) = true := decide_eq_true c18; clear c18; obtain rfl := Option.some.inj H; have wK : 0 ≤ (bT : Int) := of_decide_eq_true zz9; have wI : bT < (l0.length : Int) := of_decide_eq_true zz9; obtain ⟨xP, iF, iC, Lg, ny, nu, nD, nG⟩ := fZ HR0.out bT wK wI
            cases Lg
            replace ny := cB HB ny; replace nu := cB HB nu; have fD := ah.mk nG; have gN := ah.mk nD; clear nG nD; replace wK := eq_true wK; replace wI := eq_true wI
            try go_wp2_with (first | ((with_reducible refine bE (N := 4) rfl ?_); refine bC ?hg (N := 4) ?hd (cs := #[.slice none 0 0, .int .i64 0]) (t := 51) ?hr ?_; (case hd => rfl); (case hg => rfl); (case hr => first | (go_simp; done) | (go_simp; rfl)); intro aA hg w19 bK hb; have ay := ah.mk (bK); have jD := ah.mk ((zz0 : w.heap.size ≤ aA)); have jr := ah.mk ((zz0 : w.heap.size ≤ aA)); replace HB := ah.mk (av zz1 hb); clear hb bK hg; have qj : w19.cell? ⟨aA, 0, none⟩ = some (.slice none 0 0) := cK ay 0; have qh : w19.cell? ⟨aA, 1, none⟩ = some (.int .i64 0) := cK ay 1; have qZ := aj ay.out 0; have qd := aj ay.out 1))
            have n0_ : ah (((w19.setCell ⟨aA, 0, none⟩ (.slice iF ((aD l0 bT).f0).length iC)).setCell ⟨aA, 1, none⟩ (.int .i64 ((aD l0 bT).f1))).heap[aA]? = some (.cells #[.slice iF ((aD l0 bT).f0).length iC, .int .i64 ((aD l0 bT).f1)] 51 (0, 0))) := ⟨zz21⟩; have n1_ : ah (Below w.heap.size w ((w19.setCell ⟨aA, 0, none⟩ (.slice iF ((aD l0 bT).f0).length iC)).setCell ⟨aA, 1, none⟩ (.int .i64 ((aD l0 bT).f1)))) := ⟨xW⟩; (try clear ay); (try clear HB); generalize ((w19.setCell ⟨aA, 0, none⟩ (.slice iF ((aD l0 bT).f0).length iC)).setCell ⟨aA, 1, none⟩ (.int .i64 ((aD l0 bT).f1))) = w21 at n0_ n1_ ⊢; have ay := n0_; have HB := n1_; clear n0_ n1_; replace ay := ah.mk (aJ ay.out); replace HB := ah.mk (bL HB.out); have Pv : 0 ≤ ((mZ) : Int) := of_decide_eq_true zz9; have O1 : (mZ) < (l0.length : Int) := of_decide_eq_true zz9; obtain ⟨Xd, IB, H8, e139, sS, sQ, Ca, Co⟩ := fZ HR0.out (mZ) Pv O1; have wQ := sQ; have wR := sS; obtain rfl : xP = Xd := (by injection e139); replace sS := cB HB sS; replace sQ := cB HB sQ; have lq := ah.mk Co; have qA := ah.mk Ca; clear Co Ca; replace Pv := eq_true Pv; replace O1 := eq_true O1; refine jB (n := 24) (S := fun w' => w'.cell? ⟨aA, 0, none⟩ = some (.slice iF ((aD l0 bT).f0).length iC) ∧ w'.cell? ⟨aA, 1, none⟩ = some (.int .i64 ((aD l0 bT).f1)) ∧ w'.cell? (xP.add (((mZ)).toNat * 2)) = some (.slice IB ((aD l0 (mZ)).f0).length H8) ∧ w'.cell? ⟨(xP.add (((mZ)).toNat * 2)).block, (xP.add (((mZ)).toNat * 2)).off + 1, none⟩ = some (.int .i64 ((aD l0 (mZ)).f1))) (ds := []) (.replicate 24 false) (by kernel_rfl) rfl rfl ⟨cK ay 0, cK ay 1, (cB HB wR), (cB HB wQ)⟩ (fun hHeld => ?_); refine iG dV.EL dV.xO (fun HT_ HW_ => ?_); generalize w21.drew = w22 at ay HB lq sS sQ hHeld ⊢; refine tV (v := ?_) 0 12 (bA 24 1) HT_ HW_ hHeld ?_ ?_; rotate_left
            ·rintro w' ⟨s0, s1, s2, s3⟩
             go_simp
             (with_reducible rfl)
            refine oN 1 13 (bA 24 3) HT_ (fun K hK => ?_); refine iy Try.func115 (by kernel_rfl) rfl #[.agg #[.slice iF ((aD l0 bT).f0).length iC, .int .i64 ((aD l0 bT).f1)]] (by rfl) rfl rfl zz8 ?_; (with_reducible refine (fU.calls k1 _ _ ((aD l0 bT).f0) ((aD l0 bT).f1) true _ ?bO ?bR A5.out).mono ?_); (case bO => repeat (first | exact (Kd.eZ fD.out HB.out) | (with_reducible refine Kd.dF ?_ _) | (with_reducible refine Kd.dI ?_ _) | (with_reducible refine Kd.dZ ?_))); (case bR => exact gN.out); rintro e w23 ⟨rfl, hb⟩; refine ⟨_, rfl, ?_⟩; replace ay := ah.mk (aG (g := aA) (o := .cells #[.slice iF ((aD l0 bT).f0).length iC, .int .i64 ((aD l0 bT).f1)] 51 (0, 0)) iJ hb); replace HB := ah.mk (av xW hb); (try clear hb); (try clear hb2); (try clear hk); (try clear hi); refine hK.out _ _ ⟨cK ay 0, cK ay 1, (cB HB wR), (cB HB wQ)⟩ (fun hHeld => ?_); clear hK K; refine iI (a' := ?_) ?_ ?_; rotate_left
            ·show Act.put _ (some 13) _ = _
             simp only [Act.put, List.setIfInBounds_toArray, List.set_cons_zero, List.set_cons_succ, dS, eP]
             rfl
            refine pV 2 14 (bA 24 7) HT_ ?_; refine pV 3 15 (bA 24 15) HT_ ?_; refine pV 4 16 (bA 24 31) HT_ ?_; refine tV (v := ?_) 5 17 (bA 24 63) HT_ HW_ hHeld ?_ ?_; rotate_left
            ·rintro w' ⟨s0, s1, s2, s3⟩
             go_simp
             (with_reducible rfl)
            refine pV 6 18 (bA 24 127) HT_ ?_; refine pV 7 19 (bA 24 255) HT_ ?_; refine pV 8 20 (bA 24 511) HT_ ?_; refine pV 9 21 (bA 24 1023) HT_ ?_; refine pV 10 22 (bA 24 2047) HT_ ?_; refine pV 11 23 (bA 24 4095) HT_ ?_; refine pV 12 24 (bA 24 8191) HT_ ?_; refine pV 13 25 (bA 24 16383) HT_ ?_; refine pV 14 26 (bA 24 32767) HT_ ?_; refine pV 15 27 (bA 24 65535) HT_ ?_; refine pV 16 28 (bA 24 131071) HT_ ?_; refine pV 18 30 (bA 24 393215) HT_ ?_; refine tV (v := ?_) 17 29 (bA 24 524287) HT_ HW_ hHeld ?_ ?_; rotate_left
            ·rintro w' ⟨s0, s1, s2, s3⟩
             go_simp
             (with_reducible rfl)
            refine tV (v := ?_) 19 31 (bA 24 1048575) HT_ HW_ hHeld ?_ ?_; rotate_left
            ·rintro w' ⟨s0, s1, s2, s3⟩
             go_simp
             (with_reducible rfl)
            refine oN 20 32 (bA 24 2097151) HT_ (fun K hK => ?_); refine iy Try.func116 (by kernel_rfl) rfl #[.slice IB ((aD l0 (mZ)).f0).length H8, .slice iF ((aD l0 bT).f0).length iC] (by rfl) rfl rfl (by (try simp only [List.map_toArray, List.map_cons, List.map_nil]); first | done | (simp only [yx]; rfl) | rfl | (simp only [List.length_drop, List.length_take]; rfl)) ?_; (with_reducible refine (eG.calls k1 _ _ ((aD l0 (mZ)).f0) _ _ ((aD l0 bT).f0) JX _ ?bO ?bR ?mg ?mU A17.out).mono ?_); (case bO => repeat (first | exact (Kd.eZ lq.out HB.out) | (with_reducible refine Kd.dF ?_ _) | (with_reducible refine Kd.dI ?_ _) | (with_reducible refine Kd.dZ ?_))); (case bR => exact qA.out); (case mg => repeat (first | exact (Kd.eZ fD.out HB.out) | (with_reducible refine Kd.dF ?_ _) | (with_reducible refine Kd.dI ?_ _) | (with_reducible refine Kd.dZ ?_))); (case mU => exact gN.out); rintro e w24 ⟨rfl, hb⟩; refine ⟨_, rfl, ?_⟩; replace ay := ah.mk (aG (g := aA) (o := .cells #[.slice iF ((aD l0 bT).f0).length iC, .int .i64 ((aD l0 bT).f1)] 51 (0, 0)) iJ hb); replace HB := ah.mk (av xW hb); (try clear hb); (try clear hb2); (try clear hk); (try clear hi); refine hK.out _ _ ⟨cK ay 0, cK ay 1, (cB HB wR), (cB HB wQ)⟩ (fun hHeld => ?_); clear hK K; refine iI (a' := ?_) ?_ ?_; rotate_left
            ·show Act.put _ (some 32) _ = _
             simp only [Act.put, List.setIfInBounds_toArray, List.set_cons_zero, List.set_cons_succ, dS, eP]
             rfl
            refine pV 21 33 (bA 24 4194303) HT_ ?_; refine pV 22 34 (bA 24 8388607) HT_ ?_; refine pV 23 35 (bA 24 16777215) HT_ ?_; refine kX (j6 HT_.out (by kernel_rfl)) ?_
            try go_wp2
            go_ret
            exact ⟨by first | rfl | (simp [gK, gJ] <;> rfl) | (simp only [← yx]; first | rfl | (simp [gK, gJ] <;> rfl)) | (simp [*, gK, gJ] <;> rfl), xW⟩
           ·rw [if_neg c18] at H; have Jh : decide (0 ≤ JX) = false := decide_eq_false c18; clear c18; have H' := ah.mk H; clear H; have wK : 0 ≤ (bT : Int) := of_decide_eq_true zz9; have wI : bT < (l0.length : Int) := of_decide_eq_true zz9; obtain ⟨xP, iF, iC, Lg, ny, nu, nD, nG⟩ := fZ HR0.out bT wK wI
            cases Lg
            replace ny := cB HB ny; replace nu := cB HB nu; have fD := ah.mk nG; have gN := ah.mk nD; clear nG nD; replace wK := eq_true wK; replace wI := eq_true wI
            try go_wp2_with (first | ((with_reducible refine bE (N := 4) rfl ?_); refine bC ?hg (N := 4) ?hd (cs := #[.slice none 0 0, .int .i64 0]) (t := 51) ?hr ?_; (case hd => rfl); (case hg => rfl); (case hr => first | (go_simp; done) | (go_simp; rfl)); intro aA hg w25 bK hb; have ay := ah.mk (bK); have jD := ah.mk ((zz0 : w.heap.size ≤ aA)); have jr := ah.mk ((zz0 : w.heap.size ≤ aA)); replace HB := ah.mk (av zz1 hb); clear hb bK hg; have zw : w25.cell? ⟨aA, 0, none⟩ = some (.slice none 0 0) := cK ay 0; have zu : w25.cell? ⟨aA, 1, none⟩ = some (.int .i64 0) := cK ay 1; have zl := aj ay.out 0; have zk := aj ay.out 1))
            have n0_ : ah (((w25.setCell ⟨aA, 0, none⟩ (.slice iF ((aD l0 bT).f0).length iC)).setCell ⟨aA, 1, none⟩ (.int .i64 ((aD l0 bT).f1))).heap[aA]? = some (.cells #[.slice iF ((aD l0 bT).f0).length iC, .int .i64 ((aD l0 bT).f1)] 51 (0, 0))) := ⟨zz21⟩; have n1_ : ah (Below w.heap.size w ((w25.setCell ⟨aA, 0, none⟩ (.slice iF ((aD l0 bT).f0).length iC)).setCell ⟨aA, 1, none⟩ (.int .i64 ((aD l0 bT).f1)))) := ⟨xW⟩; (try clear ay); (try clear HB); generalize ((w25.setCell ⟨aA, 0, none⟩ (.slice iF ((aD l0 bT).f0).length iC)).setCell ⟨aA, 1, none⟩ (.int .i64 ((aD l0 bT).f1))) = w27 at n0_ n1_ ⊢; have ay := n0_; have HB := n1_; clear n0_ n1_; replace ay := ah.mk (aJ ay.out); replace HB := ah.mk (bL HB.out); have Pv : 0 ≤ ((mZ) : Int) := of_decide_eq_true zz9; have O1 : (mZ) < (l0.length : Int) := of_decide_eq_true zz9; obtain ⟨Xd, IB, H8, e139, sS, sQ, Ca, Co⟩ := fZ HR0.out (mZ) Pv O1; have wQ := sQ; have wR := sS; obtain rfl : xP = Xd := (by injection e139); replace sS := cB HB sS; replace sQ := cB HB sQ; have lq := ah.mk Co; have qA := ah.mk Ca; clear Co Ca; replace Pv := eq_true Pv; replace O1 := eq_true O1; refine jB (n := 24) (S := fun w' => w'.cell? ⟨aA, 0, none⟩ = some (.slice iF ((aD l0 bT).f0).length iC) ∧ w'.cell? ⟨aA, 1, none⟩ = some (.int .i64 ((aD l0 bT).f1)) ∧ w'.cell? (xP.add (((mZ)).toNat * 2)) = some (.slice IB ((aD l0 (mZ)).f0).length H8) ∧ w'.cell? ⟨(xP.add (((mZ)).toNat * 2)).block, (xP.add (((mZ)).toNat * 2)).off + 1, none⟩ = some (.int .i64 ((aD l0 (mZ)).f1))) (ds := []) (.replicate 24 false) (by kernel_rfl) rfl rfl ⟨cK ay 0, cK ay 1, (cB HB wR), (cB HB wQ)⟩ (fun hHeld => ?_); refine iG dV.EL dV.xO (fun HT_ HW_ => ?_); generalize w27.drew = w28 at ay HB lq sS sQ hHeld ⊢; refine tV (v := ?_) 0 12 (bA 24 1) HT_ HW_ hHeld ?_ ?_; rotate_left
            ·rintro w' ⟨s0, s1, s2, s3⟩
             go_simp
             (with_reducible rfl)
            refine oN 1 13 (bA 24 3) HT_ (fun K hK => ?_); refine iy Try.func115 (by kernel_rfl) rfl #[.agg #[.slice iF ((aD l0 bT).f0).length iC, .int .i64 ((aD l0 bT).f1)]] (by rfl) rfl rfl zz8 ?_; (with_reducible refine (fU.calls k1 _ _ ((aD l0 bT).f0) ((aD l0 bT).f1) true _ ?bO ?bR A5.out).mono ?_); (case bO => repeat (first | exact (Kd.eZ fD.out HB.out) | (with_reducible refine Kd.dF ?_ _) | (with_reducible refine Kd.dI ?_ _) | (with_reducible refine Kd.dZ ?_))); (case bR => exact gN.out); rintro e w29 ⟨rfl, hb⟩; refine ⟨_, rfl, ?_⟩; replace ay := ah.mk (aG (g := aA) (o := .cells #[.slice iF ((aD l0 bT).f0).length iC, .int .i64 ((aD l0 bT).f1)] 51 (0, 0)) iJ hb); replace HB := ah.mk (av xW hb); (try clear hb); (try clear hb2); (try clear hk); (try clear hi); refine hK.out _ _ ⟨cK ay 0, cK ay 1, (cB HB wR), (cB HB wQ)⟩ (fun hHeld => ?_); clear hK K; refine iI (a' := ?_) ?_ ?_; rotate_left
            ·show Act.put _ (some 13) _ = _
             simp only [Act.put, List.setIfInBounds_toArray, List.set_cons_zero, List.set_cons_succ, dS, eP]
             rfl
            refine pV 2 14 (bA 24 7) HT_ ?_; refine pV 3 15 (bA 24 15) HT_ ?_; refine pV 4 16 (bA 24 31) HT_ ?_; refine tV (v := ?_) 5 17 (bA 24 63) HT_ HW_ hHeld ?_ ?_; rotate_left
            ·rintro w' ⟨s0, s1, s2, s3⟩
             go_simp
             (with_reducible rfl)
            refine pV 6 18 (bA 24 127) HT_ ?_; refine pV 7 19 (bA 24 255) HT_ ?_; refine pV 8 20 (bA 24 511) HT_ ?_; refine pV 9 21 (bA 24 1023) HT_ ?_; refine pV 10 22 (bA 24 2047) HT_ ?_; refine pV 11 23 (bA 24 4095) HT_ ?_; refine pV 12 24 (bA 24 8191) HT_ ?_; refine pV 13 25 (bA 24 16383) HT_ ?_; refine pV 14 26 (bA 24 32767) HT_ ?_; refine pV 15 27 (bA 24 65535) HT_ ?_; refine pV 16 28 (bA 24 131071) HT_ ?_; refine pV 18 30 (bA 24 393215) HT_ ?_; refine tV (v := ?_) 17 29 (bA 24 524287) HT_ HW_ hHeld ?_ ?_; rotate_left
            ·rintro w' ⟨s0, s1, s2, s3⟩
             go_simp
             (with_reducible rfl)
            refine tV (v := ?_) 19 31 (bA 24 1048575) HT_ HW_ hHeld ?_ ?_; rotate_left
            ·rintro w' ⟨s0, s1, s2, s3⟩
             go_simp
             (with_reducible rfl)
            refine oN 20 32 (bA 24 2097151) HT_ (fun K hK => ?_); refine iy Try.func116 (by kernel_rfl) rfl #[.slice IB ((aD l0 (mZ)).f0).length H8, .slice iF ((aD l0 bT).f0).length iC] (by rfl) rfl rfl (by (try simp only [List.map_toArray, List.map_cons, List.map_nil]); first | done | (simp only [yx]; rfl) | rfl | (simp only [List.length_drop, List.length_take]; rfl)) ?_; (with_reducible refine (eG.calls k1 _ _ ((aD l0 (mZ)).f0) _ _ ((aD l0 bT).f0) JX _ ?bO ?bR ?mg ?mU A17.out).mono ?_); (case bO => repeat (first | exact (Kd.eZ lq.out HB.out) | (with_reducible refine Kd.dF ?_ _) | (with_reducible refine Kd.dI ?_ _) | (with_reducible refine Kd.dZ ?_))); (case bR => exact qA.out); (case mg => repeat (first | exact (Kd.eZ fD.out HB.out) | (with_reducible refine Kd.dF ?_ _) | (with_reducible refine Kd.dI ?_ _) | (with_reducible refine Kd.dZ ?_))); (case mU => exact gN.out); rintro e w30 ⟨rfl, hb⟩; refine ⟨_, rfl, ?_⟩; replace ay := ah.mk (aG (g := aA) (o := .cells #[.slice iF ((aD l0 bT).f0).length iC, .int .i64 ((aD l0 bT).f1)] 51 (0, 0)) iJ hb); replace HB := ah.mk (av xW hb); (try clear hb); (try clear hb2); (try clear hk); (try clear hi); refine hK.out _ _ ⟨cK ay 0, cK ay 1, (cB HB wR), (cB HB wQ)⟩ (fun hHeld => ?_); clear hK K; refine iI (a' := ?_) ?_ ?_; rotate_left
            ·show Act.put _ (some 32) _ = _
             simp only [Act.put, List.setIfInBounds_toArray, List.set_cons_zero, List.set_cons_succ, dS, eP]
             rfl
            refine pV 21 33 (bA 24 4194303) HT_ ?_; refine pV 22 34 (bA 24 8388607) HT_ ?_; refine pV 23 35 (bA 24 16777215) HT_ ?_; refine kX (j6 HT_.out (by kernel_rfl)) ?_
            try go_wp2
            go_roundg k1
            case measure => have := HK1.out; omega
            case rel => exact ⟨(wrap64 (bT + 1)), zz2, H', ⟨by have := HK1.out; omega⟩, ⟨xW⟩⟩
          ·rw [if_neg c16] at H; exact absurd H (by simp)
         ·rw [if_neg c15] at H; exact absurd H (by simp)
        ·rw [if_neg c13] at H; have Ji : decide (0 < bT) = false := decide_eq_false c13; clear c13; have H' := ah.mk H; clear H; have wK : 0 ≤ (bT : Int) := of_decide_eq_true zz9; have wI : bT < (l0.length : Int) := of_decide_eq_true zz9; obtain ⟨xP, iF, iC, Lg, ny, nu, nD, nG⟩ := fZ HR0.out bT wK wI
         cases Lg
         replace ny := cB HB ny; replace nu := cB HB nu; have fD := ah.mk nG; have gN := ah.mk nD; clear nG nD; replace wK := eq_true wK; replace wI := eq_true wI
         try go_wp2_with (first | ((with_reducible refine bE (N := 4) rfl ?_); refine bC ?hg (N := 4) ?hd (cs := #[.slice none 0 0, .int .i64 0]) (t := 51) ?hr ?_; (case hd => rfl); (case hg => rfl); (case hr => first | (go_simp; done) | (go_simp; rfl)); intro aA hg w31 bK hb; have ay := ah.mk (bK); have jD := ah.mk ((zz0 : w.heap.size ≤ aA)); have jr := ah.mk ((zz0 : w.heap.size ≤ aA)); replace HB := ah.mk (av zz1 hb); clear hb bK hg; have hcz32_0 : w31.cell? ⟨aA, 0, none⟩ = some (.slice none 0 0) := cK ay 0; have hcz32_1 : w31.cell? ⟨aA, 1, none⟩ = some (.int .i64 0) := cK ay 1; have hfz32_0 := aj ay.out 0; have hfz32_1 := aj ay.out 1))
         have n0_ : ah (((w31.setCell ⟨aA, 0, none⟩ (.slice iF ((aD l0 bT).f0).length iC)).setCell ⟨aA, 1, none⟩ (.int .i64 ((aD l0 bT).f1))).heap[aA]? = some (.cells #[.slice iF ((aD l0 bT).f0).length iC, .int .i64 ((aD l0 bT).f1)] 51 (0, 0))) := ⟨zz21⟩; have n1_ : ah (Below w.heap.size w ((w31.setCell ⟨aA, 0, none⟩ (.slice iF ((aD l0 bT).f0).length iC)).setCell ⟨aA, 1, none⟩ (.int .i64 ((aD l0 bT).f1)))) := ⟨xW⟩; (try clear ay); (try clear HB); generalize ((w31.setCell ⟨aA, 0, none⟩ (.slice iF ((aD l0 bT).f0).length iC)).setCell ⟨aA, 1, none⟩ (.int .i64 ((aD l0 bT).f1))) = w33 at n0_ n1_ ⊢; have ay := n0_; have HB := n1_; clear n0_ n1_; replace ay := ah.mk (aJ ay.out); replace HB := ah.mk (bL HB.out); refine jB (n := 24) (S := fun w' => w'.cell? ⟨aA, 0, none⟩ = some (.slice iF ((aD l0 bT).f0).length iC) ∧ w'.cell? ⟨aA, 1, none⟩ = some (.int .i64 ((aD l0 bT).f1))) (ds := []) (.replicate 24 false) (by kernel_rfl) rfl rfl ⟨cK ay 0, cK ay 1⟩ (fun hHeld => ?_); refine iG dV.EL dV.xO (fun HT_ HW_ => ?_); generalize w33.drew = w34 at ay HB hHeld ⊢; refine tV (v := ?_) 0 12 (bA 24 1) HT_ HW_ hHeld ?_ ?_; rotate_left
         ·rintro w' ⟨s0, s1⟩
          go_simp
          (with_reducible rfl)
         refine oN 1 13 (bA 24 3) HT_ (fun K hK => ?_); refine iy Try.func115 (by kernel_rfl) rfl #[.agg #[.slice iF ((aD l0 bT).f0).length iC, .int .i64 ((aD l0 bT).f1)]] (by rfl) rfl rfl zz8 ?_; (with_reducible refine (fU.calls k1 _ _ ((aD l0 bT).f0) ((aD l0 bT).f1) true _ ?bO ?bR A5.out).mono ?_); (case bO => repeat (first | exact (Kd.eZ fD.out HB.out) | (with_reducible refine Kd.dF ?_ _) | (with_reducible refine Kd.dI ?_ _) | (with_reducible refine Kd.dZ ?_))); (case bR => exact gN.out); rintro e w35 ⟨rfl, hb⟩; refine ⟨_, rfl, ?_⟩; replace ay := ah.mk (aG (g := aA) (o := .cells #[.slice iF ((aD l0 bT).f0).length iC, .int .i64 ((aD l0 bT).f1)] 51 (0, 0)) iJ hb); replace HB := ah.mk (av xW hb); (try clear hb); (try clear hb2); (try clear hk); (try clear hi); refine hK.out _ _ ⟨cK ay 0, cK ay 1⟩ (fun hHeld => ?_); clear hK K; refine iI (a' := ?_) ?_ ?_; rotate_left
         ·show Act.put _ (some 13) _ = _
          simp only [Act.put, List.setIfInBounds_toArray, List.set_cons_zero, List.set_cons_succ, dS, eP]
          rfl
         refine pV 2 14 (bA 24 7) HT_ ?_; refine pV 3 15 (bA 24 15) HT_ ?_; refine pV 4 16 (bA 24 31) HT_ ?_; refine tV (v := ?_) 5 17 (bA 24 63) HT_ HW_ hHeld ?_ ?_; rotate_left
         ·rintro w' ⟨s0, s1⟩
          go_simp
          (with_reducible rfl)
         refine pV 6 18 (bA 24 127) HT_ ?_; refine pV 7 19 (bA 24 255) HT_ ?_; refine pV 8 20 (bA 24 511) HT_ ?_; refine pV 9 21 (bA 24 1023) HT_ ?_; refine pV 10 22 (bA 24 2047) HT_ ?_; refine pV 11 23 (bA 24 4095) HT_ ?_; refine pU 12 24 (bA 24 8191) HT_ ?_; refine pU 13 25 (bA 24 16383) HT_ ?_; refine pU 14 26 (bA 24 32767) HT_ ?_; refine pU 15 27 (bA 24 65535) HT_ ?_; refine pU 16 28 (bA 24 131071) HT_ ?_; refine pU 17 29 (bA 24 262143) HT_ ?_; refine pU 18 30 (bA 24 524287) HT_ ?_; refine pU 19 31 (bA 24 1048575) HT_ ?_; refine pU 20 32 (bA 24 2097151) HT_ ?_; refine pU 21 33 (bA 24 4194303) HT_ ?_; refine pV 22 34 (bA 24 8388607) HT_ ?_; refine pV 23 35 (bA 24 16777215) HT_ ?_; refine kX (j6 HT_.out (by kernel_rfl)) ?_
         try go_wp2
         go_roundg k1
         case measure => have := HK1.out; omega
         case rel => exact ⟨(wrap64 (bT + 1)), zz2, H', ⟨by have := HK1.out; omega⟩, ⟨xW⟩⟩
      ·replace c6 := Bool.eq_false_iff.mpr c6; subst c6; rw [if_neg (show ¬ (false = true) by decide)] at H; obtain rfl := Option.some.inj H; have wK : 0 ≤ (bT : Int) := of_decide_eq_true zz9; have wI : bT < (l0.length : Int) := of_decide_eq_true zz9; obtain ⟨xP, iF, iC, Lg, ny, nu, nD, nG⟩ := fZ HR0.out bT wK wI
       cases Lg
       replace ny := cB HB ny; replace nu := cB HB nu; have fD := ah.mk nG; have gN := ah.mk nD; clear nG nD; replace wK := eq_true wK; replace wI := eq_true wI
       try go_wp2_with (first | ((with_reducible refine bE (N := 4) rfl ?_); refine bC ?hg (N := 4) ?hd (cs := #[.slice none 0 0, .int .i64 0]) (t := 51) ?hr ?_; (case hd => rfl); (case hg => rfl); (case hr => first | (go_simp; done) | (go_simp; rfl)); intro aA hg w36 bK hb; have ay := ah.mk (bK); have jD := ah.mk ((zz0 : w.heap.size ≤ aA)); have jr := ah.mk ((zz0 : w.heap.size ≤ aA)); replace HB := ah.mk (av zz1 hb); clear hb bK hg; have ZW : w36.cell? ⟨aA, 0, none⟩ = some (.slice none 0 0) := cK ay 0; have ZV : w36.cell? ⟨aA, 1, none⟩ = some (.int .i64 0) := cK ay 1; have Zg := aj ay.out 0; have Zf := aj ay.out 1))
       have n0_ : ah (((w36.setCell ⟨aA, 0, none⟩ (.slice iF ((aD l0 bT).f0).length iC)).setCell ⟨aA, 1, none⟩ (.int .i64 ((aD l0 bT).f1))).heap[aA]? = some (.cells #[.slice iF ((aD l0 bT).f0).length iC, .int .i64 ((aD l0 bT).f1)] 51 (0, 0))) := ⟨zz21⟩; have n1_ : ah (Below w.heap.size w ((w36.setCell ⟨aA, 0, none⟩ (.slice iF ((aD l0 bT).f0).length iC)).setCell ⟨aA, 1, none⟩ (.int .i64 ((aD l0 bT).f1)))) := ⟨xW⟩; (try clear ay); (try clear HB); generalize ((w36.setCell ⟨aA, 0, none⟩ (.slice iF ((aD l0 bT).f0).length iC)).setCell ⟨aA, 1, none⟩ (.int .i64 ((aD l0 bT).f1))) = w38 at n0_ n1_ ⊢; have ay := n0_; have HB := n1_; clear n0_ n1_; replace ay := ah.mk (aJ ay.out); replace HB := ah.mk (bL HB.out); refine jB (n := 24) (S := fun w' => w'.cell? ⟨aA, 0, none⟩ = some (.slice iF ((aD l0 bT).f0).length iC) ∧ w'.cell? ⟨aA, 1, none⟩ = some (.int .i64 ((aD l0 bT).f1))) (ds := []) (.replicate 24 false) (by kernel_rfl) rfl rfl ⟨cK ay 0, cK ay 1⟩ (fun hHeld => ?_); refine iG dV.EL dV.xO (fun HT_ HW_ => ?_); generalize w38.drew = w39 at ay HB hHeld ⊢; refine tV (v := ?_) 0 12 (bA 24 1) HT_ HW_ hHeld ?_ ?_; rotate_left
       ·rintro w' ⟨s0, s1⟩
        go_simp
        (with_reducible rfl)
       refine oN 1 13 (bA 24 3) HT_ (fun K hK => ?_); refine iy Try.func115 (by kernel_rfl) rfl #[.agg #[.slice iF ((aD l0 bT).f0).length iC, .int .i64 ((aD l0 bT).f1)]] (by rfl) rfl rfl zz8 ?_; (with_reducible refine (fU.calls k1 _ _ ((aD l0 bT).f0) ((aD l0 bT).f1) false _ ?bO ?bR A5.out).mono ?_); (case bO => repeat (first | exact (Kd.eZ fD.out HB.out) | (with_reducible refine Kd.dF ?_ _) | (with_reducible refine Kd.dI ?_ _) | (with_reducible refine Kd.dZ ?_))); (case bR => exact gN.out); rintro e w40 ⟨rfl, hb⟩; refine ⟨_, rfl, ?_⟩; replace ay := ah.mk (aG (g := aA) (o := .cells #[.slice iF ((aD l0 bT).f0).length iC, .int .i64 ((aD l0 bT).f1)] 51 (0, 0)) iJ hb); replace HB := ah.mk (av xW hb); (try clear hb); (try clear hb2); (try clear hk); (try clear hi); refine hK.out _ _ ⟨cK ay 0, cK ay 1⟩ (fun hHeld => ?_); clear hK K; refine iI (a' := ?_) ?_ ?_; rotate_left
       ·show Act.put _ (some 13) _ = _
        simp only [Act.put, List.setIfInBounds_toArray, List.set_cons_zero, List.set_cons_succ, dS, eP]
        rfl
       refine pV 2 14 (bA 24 7) HT_ ?_; refine pV 3 15 (bA 24 15) HT_ ?_; refine pU 4 16 (bA 24 31) HT_ ?_; refine pU 5 17 (bA 24 63) HT_ ?_; refine pU 6 18 (bA 24 127) HT_ ?_; refine pV 7 19 (bA 24 255) HT_ ?_; refine pV 8 20 (bA 24 511) HT_ ?_; refine pU 9 21 (bA 24 1023) HT_ ?_; refine pU 10 22 (bA 24 2047) HT_ ?_; refine pU 11 23 (bA 24 4095) HT_ ?_; refine pU 12 24 (bA 24 8191) HT_ ?_; refine pU 13 25 (bA 24 16383) HT_ ?_; refine pU 14 26 (bA 24 32767) HT_ ?_; refine pU 15 27 (bA 24 65535) HT_ ?_; refine pU 16 28 (bA 24 131071) HT_ ?_; refine pU 17 29 (bA 24 262143) HT_ ?_; refine pU 18 30 (bA 24 524287) HT_ ?_; refine pU 19 31 (bA 24 1048575) HT_ ?_; refine pU 20 32 (bA 24 2097151) HT_ ?_; refine pU 21 33 (bA 24 4194303) HT_ ?_; refine pU 22 34 (bA 24 8388607) HT_ ?_; refine pV 23 35 (bA 24 16777215) HT_ ?_; refine kX (j6 HT_.out (by kernel_rfl)) ?_
       try go_wp2
       go_ret
       exact ⟨zz6, xW⟩
     ·rw [if_neg c4] at H; exact absurd H (by simp)
    ·rw [if_neg c3] at H; exact absurd H (by simp)
   ·rw [if_neg c2] at H; have oH : decide (bT < (l0.length : Int)) = false := decide_eq_false c2; clear c2; obtain rfl := Option.some.inj H
    go_wp2
    go_ret
    exact ⟨zz6, zz1⟩
def kH.f (qH : List (S23)) (aT : Int) : Option (Bool) := some (decide (aT < 0))
set_option maxHeartbeats 8000000 in
set_option maxRecDepth 100000 in
theorem kH.calls (zQ : Option Addr) (zO : Nat) (qH : List (S23)) (aT : Int) (r : Bool) (w : World) (Nk : Kd.C k23 w zQ qH.length qH) (Nn : qH.length ≤ zO) (h : kH.f qH aT = some r) :
  Calls Try.prog 96 #[.agg #[.slice zQ qH.length zO, .int .i64 aT]] w fun e w' => e = .returned (.bool r) ∧ Below w.heap.size w w' := by
 have Nj := Try.underlying51; have Xt := ah.mk Nk; have Xu := ah.mk Nn; clear Nk Nn; have HB := ah.mk (Below.refl w.heap.size w); have H := h; clear h
 dsimp only [kH.f] at H
 obtain rfl := Option.some.inj H
 go_enter Try.func96, Try.ntmps96
 go_wp2_with (first | ((with_reducible refine bE (N := 1) rfl ?_); refine bC ?hg (N := 1) ?hd (cs := #[.slice zQ qH.length zO, .int .i64 aT]) (t := 51) ?hr ?_; (case hd => rfl); (case hg => rfl); (case hr => first | (go_simp; done) | (go_simp; rfl)); intro au hg w2 bK hb; have ak := ah.mk (bK); have fO := ah.mk ((zz0 : w.heap.size ≤ au)); have fF := ah.mk ((zz0 : w.heap.size ≤ au)); replace HB := ah.mk (av zz1 hb); clear hb bK hg; have hcz3_0 : w2.cell? ⟨au, 0, none⟩ = some (.slice zQ qH.length zO) := cK ak 0; have hcz3_1 : w2.cell? ⟨au, 1, none⟩ = some (.int .i64 aT) := cK ak 1; have hfz3_0 := aj ak.out 0; have hfz3_1 := aj ak.out 1))
 go_ret
 exact ⟨zz6, zz5⟩
def eF.l0 : Nat → List (S51) → Int → Int → Option (Int)
 | 0, _, _, _ => none
 | k + 1, x0, x7, x8 => if x8 < x7 then (if 0 ≤ x8 then (if x8 < (x0.length : Int) then ((kH.f ((aD x0 x8).f0) ((aD x0 x8).f1)).bind fun t143 => (if t143 = true then (some x8) else (eF.l0 k x0 x7 (wrap64 (x8 + 1))))) else (none)) else (none)) else (some (-1))
def eF.f (k : Nat) (l0 : List (S51))  : Option (Int) := eF.l0 k l0 (l0.length : Int) 0
theorem eF.gU : ∀ k, (∀ y0 y1 y2, LeO (eF.l0 k y0 y1 y2) (eF.l0 (k + 1) y0 y1 y2))
 | 0 => fun _ _ _ r h => by simp [eF.l0] at h
 | k + 1 => by
  have ih0 := eF.gU k
  ·intro y0 y1 y2; unfold eF.l0
   repeat' first
   | (with_reducible exact ih0 _ _ _)
   | (with_reducible exact LeO.refl _)
   | (with_reducible exact LeO.none _)
   | (with_reducible refine LeO.ite ?_ ?_)
   | (with_reducible refine LeO.bind ?_ (fun _ => ?_))
   | exact ih0 _ _ _
   | exact LeO.none _
   | refine LeO.ite ?_ ?_
   | refine LeO.bind ?_ (fun _ => ?_)
theorem eF.mono : ∀ a0 k, LeO (eF.f k a0) (eF.f (k + 1) a0) := by
 intro a0 k; have ih0 := eF.gU k; unfold eF.f
 repeat' first
   | (with_reducible exact ih0 _ _ _)
   | (with_reducible exact LeO.refl _)
   | (with_reducible exact LeO.none _)
   | (with_reducible refine LeO.ite ?_ ?_)
   | (with_reducible refine LeO.bind ?_ (fun _ => ?_))
   | exact ih0 _ _ _
   | exact LeO.none _
   | refine LeO.ite ?_ ?_
   | refine LeO.bind ?_ (fun _ => ?_)
set_option maxHeartbeats 8000000 in
set_option maxRecDepth 100000 in
theorem eF.calls (k : Nat) (A0 : Option Addr) (c0 : Nat) (l0 : List (S51))  (r : Int) (w : World) (hr0 : Kd.C k51 w A0 l0.length l0) (hc0 : l0.length ≤ c0) (h : eF.f k l0 = some r) :
  Calls Try.prog 117 #[.slice A0 l0.length c0, .func (.func 96) #[] #[]] w fun e w' => e = .returned (.int .i64 r) ∧ Below w.heap.size w w' := by
 have Nj := Try.underlying51; have HR0 := ah.mk hr0; have HC0 := ah.mk hc0; clear hr0 hc0; have HB := ah.mk (Below.refl w.heap.size w); have H := h; clear h
 dsimp only [eF.f] at H
 have H' := ah.mk H; clear H
 go_enter Try.func117, Try.ntmps117
 go_wp2
 go_loopg [8] k (fun kq v8 w' => ∃ (lX : Int), v8 = .int .i64 lX ∧ ah (eF.l0 kq l0 (l0.length : Int) lX = some r) ∧ ah (kq ≤ k) ∧ ah (Below w.heap.size w w'))
 case atStart => exact ⟨(0), zz2, H', ⟨Nat.le_refl _⟩, ⟨zz1⟩⟩
 case round =>
  clear H'; (try clear c1); (try clear p2); obtain ⟨lX, rfl, HA, HK1, HB⟩ := hrel
  cases gk with
  | zero => exact absurd HA.out (by simp [eF.l0])
  | succ k1 =>
   have H := HA.out; clear HA; simp only [eF.l0] at H
   by_cases c3 : lX < (l0.length : Int)
   ·rw [if_pos c3] at H; have tY : decide (lX < (l0.length : Int)) = true := decide_eq_true c3; clear c3
    by_cases c4 : 0 ≤ lX
    ·rw [if_pos c4] at H; have lG : decide (0 ≤ lX) = true := decide_eq_true c4; clear c4
     by_cases c5 : lX < (l0.length : Int)
     ·rw [if_pos c5] at H; have qN : decide (lX < (l0.length : Int)) = true := decide_eq_true c5; clear c5; replace H := Option.bind_eq_some_iff.mp H; obtain ⟨t143, A60, H⟩ := H; have A6 := ah.mk A60; clear A60
      by_cases c7 : t143 = true
      ·subst c7; rw [if_pos rfl] at H; obtain rfl := Option.some.inj H; have Pt : 0 ≤ (lX : Int) := of_decide_eq_true zz9; have OZ : lX < (l0.length : Int) := of_decide_eq_true zz9; obtain ⟨ad142, A142_0, c142_0, e142, Bu, Bt, BZ, Cn⟩ := fZ HR0.out lX Pt OZ
       cases e142
       replace Bu := cB HB Bu; replace Bt := cB HB Bt; have fD := ah.mk Cn; have gN := ah.mk BZ; clear Cn BZ; replace Pt := eq_true Pt; replace OZ := eq_true OZ
       go_wp2_with (first | (go_at_call 96; (with_reducible refine (kH.calls _ _ ((aD l0 lX).f0) ((aD l0 lX).f1) true _ ?bO ?bR A6.out).mono ?_); (case bO => repeat (first | exact (Kd.eZ fD.out HB.out) | (with_reducible refine Kd.dF ?_ _) | (with_reducible refine Kd.dI ?_ _) | (with_reducible refine Kd.dZ ?_))); (case bR => exact gN.out); rintro e w8 ⟨rfl, hb⟩; replace HB := ah.mk (av zz1 hb); (try clear hb); (try clear hb2); (try clear hk); (try clear hi)))
       go_ret
       exact ⟨zz6, zz1⟩
      ·replace c7 := Bool.eq_false_iff.mpr c7; subst c7; rw [if_neg (show ¬ (false = true) by decide)] at H; have H' := ah.mk H; clear H; have Pt : 0 ≤ (lX : Int) := of_decide_eq_true zz9; have OZ : lX < (l0.length : Int) := of_decide_eq_true zz9; obtain ⟨ad142, A142_0, c142_0, e142, Bu, Bt, BZ, Cn⟩ := fZ HR0.out lX Pt OZ
       cases e142
       replace Bu := cB HB Bu; replace Bt := cB HB Bt; have fD := ah.mk Cn; have gN := ah.mk BZ; clear Cn BZ; replace Pt := eq_true Pt; replace OZ := eq_true OZ
       go_wp2_with (first | (go_at_call 96; (with_reducible refine (kH.calls _ _ ((aD l0 lX).f0) ((aD l0 lX).f1) false _ ?bO ?bR A6.out).mono ?_); (case bO => repeat (first | exact (Kd.eZ fD.out HB.out) | (with_reducible refine Kd.dF ?_ _) | (with_reducible refine Kd.dI ?_ _) | (with_reducible refine Kd.dZ ?_))); (case bR => exact gN.out); rintro e w9 ⟨rfl, hb⟩; replace HB := ah.mk (av zz1 hb); (try clear hb); (try clear hb2); (try clear hk); (try clear hi)))
       go_roundg k1
       case measure => have := HK1.out; omega
       case rel => exact ⟨(wrap64 (lX + 1)), zz2, H', ⟨by have := HK1.out; omega⟩, ⟨zz1⟩⟩
     ·rw [if_neg c5] at H; exact absurd H (by simp)
    ·rw [if_neg c4] at H; exact absurd H (by simp)
   ·rw [if_neg c3] at H; have tY : decide (lX < (l0.length : Int)) = false := decide_eq_false c3; clear c3; obtain rfl := Option.some.inj H
    go_wp2
    go_ret
    exact ⟨zz6, zz1⟩
def jN.f (k : Nat) (l0 : List (S51))  : Option (Bool) := (eF.f k l0).bind fun t144 => (some (decide (t144 ≥ 0)))
theorem jN.mono : ∀ a0 k, LeO (jN.f k a0) (jN.f (k + 1) a0) := by
 intro a0 k; unfold jN.f
 repeat' first
   | (with_reducible exact eF.mono _ _)
   | (with_reducible exact LeO.refl _)
   | (with_reducible exact LeO.none _)
   | (with_reducible refine LeO.ite ?_ ?_)
   | (with_reducible refine LeO.bind ?_ (fun _ => ?_))
   | exact eF.mono _ _
   | exact LeO.none _
   | refine LeO.ite ?_ ?_
   | refine LeO.bind ?_ (fun _ => ?_)
set_option maxHeartbeats 8000000 in
set_option maxRecDepth 100000 in
theorem jN.calls (k : Nat) (A0 : Option Addr) (c0 : Nat) (l0 : List (S51))  (r : Bool) (w : World) (hr0 : Kd.C k51 w A0 l0.length l0) (hc0 : l0.length ≤ c0) (h : jN.f k l0 = some r) :
  Calls Try.prog 95 #[.slice A0 l0.length c0, .func (.func 96) #[] #[]] w fun e w' => e = .returned (.bool r) ∧ Below w.heap.size w w' := by
 have HR0 := ah.mk hr0; have HC0 := ah.mk hc0; clear hr0 hc0; have HB := ah.mk (Below.refl w.heap.size w); have H := h; clear h
 dsimp only [jN.f] at H
 replace H := Option.bind_eq_some_iff.mp H; obtain ⟨t144, A30, H⟩ := H; have A3 := ah.mk A30; clear A30; obtain rfl := Option.some.inj H
 go_enter Try.func95, Try.ntmps95
 go_wp2_with (first | ((with_reducible refine aN (f := 117) rfl ?_); refine bU (some 7) rfl rfl Try.func117 (by kernel_rfl) rfl #[.slice A0 l0.length c0, .func (.func 96) #[] #[]] rfl zz8 ?_; (with_reducible refine (eF.calls k _ _ l0  t144 _ ?bO ?bR A3.out).mono ?_); (case bO => repeat (first | exact HR0.out | (with_reducible refine Kd.dF ?_ _) | (with_reducible refine Kd.dI ?_ _) | (with_reducible refine Kd.dZ ?_))); (case bR => exact HC0.out); rintro e w4 ⟨rfl, hb⟩; refine ⟨_, rfl, ?_⟩; replace HB := ah.mk (av zz1 hb); (try clear hb); (try clear hb2); (try clear hk); (try clear hi)))
 go_ret
 exact ⟨zz6, zz1⟩
def iD.f (k : Nat) (l0 : List (S51)) : Option (Bool) := (dV.f k l0).bind fun t145 => (if t145 = true then ((jN.f k l0).bind fun t146 => (some (!t146))) else (some false))
theorem iD.mono : ∀ a0 k, LeO (iD.f k a0) (iD.f (k + 1) a0) := by
 intro a0 k; unfold iD.f
 repeat' first
   | (with_reducible exact jN.mono _ _)
   | (with_reducible exact dV.mono _ _)
   | (with_reducible exact LeO.refl _)
   | (with_reducible exact LeO.none _)
   | (with_reducible refine LeO.ite ?_ ?_)
   | (with_reducible refine LeO.bind ?_ (fun _ => ?_))
   | exact jN.mono _ _
   | exact dV.mono _ _
   | exact LeO.none _
   | refine LeO.ite ?_ ?_
   | refine LeO.bind ?_ (fun _ => ?_)
set_option maxHeartbeats 8000000 in
set_option maxRecDepth 100000 in
theorem iD.calls (k : Nat) (A0 : Option Addr) (c0 : Nat) (l0 : List (S51)) (r : Bool) (w : World) (hr0 : Kd.C k51 w A0 l0.length l0) (hc0 : l0.length ≤ c0) (h : iD.f k l0 = some r) :
  Calls Try.prog 62 #[.slice A0 l0.length c0] w fun e w' => e = .returned (.bool r) ∧ Below w.heap.size w w' := by
 have HR0 := ah.mk hr0; have HC0 := ah.mk hc0; clear hr0 hc0; have HB := ah.mk (Below.refl w.heap.size w); have H := h; clear h
 dsimp only [iD.f] at H
 replace H := Option.bind_eq_some_iff.mp H; obtain ⟨t145, A20, H⟩ := H; have A2 := ah.mk A20; clear A20
 by_cases c3 : t145 = true
 ·subst c3; rw [if_pos rfl] at H; replace H := Option.bind_eq_some_iff.mp H; obtain ⟨t146, A40, H⟩ := H; have A4 := ah.mk A40; clear A40; obtain rfl := Option.some.inj H
  go_enter Try.func62, Try.ntmps62
  go_wp2_with (first | ((with_reducible refine aN (f := 94) rfl ?_); refine bU (some 4) rfl rfl Try.func94 (by kernel_rfl) rfl #[.slice A0 l0.length c0] rfl zz8 ?_; (with_reducible refine (dV.calls k _ _ l0 true _ ?bO ?bR A2.out).mono ?_); (case bO => repeat (first | exact HR0.out | (with_reducible refine Kd.dF ?_ _) | (with_reducible refine Kd.dI ?_ _) | (with_reducible refine Kd.dZ ?_))); (case bR => exact HC0.out); rintro e w5 ⟨rfl, hb⟩; refine ⟨_, rfl, ?_⟩; replace HB := ah.mk (av zz1 hb); (try clear hb); (try clear hb2); (try clear hk); (try clear hi)) | (go_at_call 95; (with_reducible refine (jN.calls k _ _ l0  t146 _ ?bO ?bR A4.out).mono ?_); (case bO => repeat (first | exact (Kd.eZ HR0.out HB.out) | (with_reducible refine Kd.dF ?_ _) | (with_reducible refine Kd.dI ?_ _) | (with_reducible refine Kd.dZ ?_))); (case bR => exact HC0.out); rintro e w6 ⟨rfl, hb⟩; replace HB := ah.mk (av zz1 hb); (try clear hb); (try clear hb2); (try clear hk); (try clear hi)))
  go_ret
  exact ⟨zz6, zz1⟩
 ·replace c3 := Bool.eq_false_iff.mpr c3; subst c3; rw [if_neg (show ¬ (false = true) by decide)] at H; obtain rfl := Option.some.inj H
  go_enter Try.func62, Try.ntmps62
  go_wp2_with (first | ((with_reducible refine aN (f := 94) rfl ?_); refine bU (some 4) rfl rfl Try.func94 (by kernel_rfl) rfl #[.slice A0 l0.length c0] rfl zz8 ?_; (with_reducible refine (dV.calls k _ _ l0 false _ ?bO ?bR A2.out).mono ?_); (case bO => repeat (first | exact HR0.out | (with_reducible refine Kd.dF ?_ _) | (with_reducible refine Kd.dI ?_ _) | (with_reducible refine Kd.dZ ?_))); (case bR => exact HC0.out); rintro e w7 ⟨rfl, hb⟩; refine ⟨_, rfl, ?_⟩; replace HB := ah.mk (av zz1 hb); (try clear hb); (try clear hb2); (try clear hk); (try clear hi)))
  go_ret
  exact ⟨zz6, zz1⟩
def kQ.f (aU : ByteArray) (aT : ByteArray) (aV : Int) (bH : Int) (bG : Int) (bJ : Int) : Option (List Int) := if bH = 2 then (some ([] : List Int)) else (if 0 ≤ (wrap64 (bG * bJ)) then (if (wrap64 (bG * bJ) : Int).toNat ≤ 35184372088832 then (some (List.replicate (wrap64 (bG * bJ) : Int).toNat 0)) else (none)) else (none))
set_option maxHeartbeats 8000000 in
set_option maxRecDepth 100000 in
theorem kQ.calls (aU : ByteArray) (aT : ByteArray) (aV : Int) (bH : Int) (bG : Int) (bJ : Int) (r : List Int) (w : World) (h : kQ.f aU aT aV bH bG bJ = some r) :
  Calls Try.prog 63 #[.agg #[.string aU, .string aT, .int .i64 aV, .int .i64 bH, .int .i64 bG, .int .i64 bJ]] w fun e w' => ∃ v0_ : Value, e = .returned (v0_) ∧ Kd.R (Kd.int .i64) 2 w' w.heap.size (fun _ => True) v0_ r ∧ Below w.heap.size w w' := by
 have ES := Try.underlying30; have HB := ah.mk (Below.refl w.heap.size w); have H := h; clear h
 dsimp only [kQ.f] at H
 by_cases c2 : bH = 2
 ·rw [if_pos c2] at H; have oH : (bH == 2) = true := beq_iff_eq.mpr c2; have zN : (bH != 2) = false := bne_eq_false_iff_eq.mpr c2; clear c2; obtain rfl := Option.some.inj H
  go_enter Try.func63, Try.ntmps63
  go_wp2_with (first | ((with_reducible refine bE (N := 1) rfl ?_); refine bC ?hg (N := 1) ?hd (cs := #[.string aU, .string aT, .int .i64 aV, .int .i64 bH, .int .i64 bG, .int .i64 bJ]) (t := 30) ?hr ?_; (case hd => rfl); (case hg => rfl); (case hr => first | (go_simp; done) | (go_simp; rfl)); intro au hg w3 bK hb; have ak := ah.mk (bK); have fO := ah.mk ((zz0 : w.heap.size ≤ au)); have fF := ah.mk ((zz0 : w.heap.size ≤ au)); replace HB := ah.mk (av zz1 hb); clear hb bK hg; have hcz4_0 : w3.cell? ⟨au, 0, none⟩ = some (.string aU) := cK ak 0; have hcz4_1 : w3.cell? ⟨au, 1, none⟩ = some (.string aT) := cK ak 1; have hcz4_2 : w3.cell? ⟨au, 2, none⟩ = some (.int .i64 aV) := cK ak 2; have hcz4_3 : w3.cell? ⟨au, 3, none⟩ = some (.int .i64 bH) := cK ak 3; have hcz4_4 : w3.cell? ⟨au, 4, none⟩ = some (.int .i64 bG) := cK ak 4; have hcz4_5 : w3.cell? ⟨au, 5, none⟩ = some (.int .i64 bJ) := cK ak 5; have hfz4_0 := aj ak.out 0; have hfz4_1 := aj ak.out 1; have hfz4_2 := aj ak.out 2; have hfz4_3 := aj ak.out 3; have hfz4_4 := aj ak.out 4; have hfz4_5 := aj ak.out 5))
  go_ret
  exact ⟨_, zz6, II, zz5⟩
 ·rw [if_neg c2] at H; have oH : (bH == 2) = false := beq_eq_false_iff_ne.mpr c2; have zN : (bH != 2) = true := bne_iff_ne.mpr c2; obtain ⟨ji5, GK⟩ : ∃ j_ : Int, (wrap64 (bG * bJ)) = j_ := ⟨_, rfl⟩; replace H : (if 0 ≤ (ji5) then (if (ji5 : Int).toNat ≤ 35184372088832 then (some (List.replicate (ji5 : Int).toNat 0)) else (none)) else (none)) = some r := by first | (rw [GK] at H; exact H) | (simp only [GK] at H ⊢; exact H)
  have hji5w : (IntKind.i64.wrap (bG * bJ)) = ji5 := (dS _).trans GK
  by_cases c6 : 0 ≤ (ji5)
  ·rw [if_pos c6] at H; have uR := eq_true c6; have Hz : decide (0 ≤ (ji5)) = true := decide_eq_true c6; clear c6
   by_cases c7 : (ji5 : Int).toNat ≤ 35184372088832
   ·rw [if_pos c7] at H; have qp := eq_true c7; have Nz : decide ((ji5 : Int).toNat ≤ 35184372088832) = true := decide_eq_true c7; clear c7; obtain ⟨y148, Ni⟩ : ∃ y_ : List Int, y_ = (List.replicate (ji5 : Int).toNat 0) := ⟨_, rfl⟩; replace H : (some y148) = some r := by first | (rw [Ni]; with_reducible exact H) | (have H2_ := (Option.bind_some _ _).symm.trans H; rw [Ni]; with_reducible exact H2_) | (have H2_ := (Option.bind_some _ _).symm.trans H; with_reducible exact H2_) | with_reducible exact H | (rw [Ni]; exact H) | exact H
    have Ny148 := ah.mk Ni; clear Ni; obtain rfl := Option.some.inj H
    go_enter Try.func63, Try.ntmps63
    go_wp2_with (first | ((with_reducible refine bE (N := 1) rfl ?_); refine bC ?hg (N := 1) ?hd (cs := #[.string aU, .string aT, .int .i64 aV, .int .i64 bH, .int .i64 bG, .int .i64 bJ]) (t := 30) ?hr ?_; (case hd => rfl); (case hg => rfl); (case hr => first | (go_simp; done) | (go_simp; rfl)); intro au hg w8 bK hb; have ak := ah.mk (bK); have fO := ah.mk ((zz0 : w.heap.size ≤ au)); have fF := ah.mk ((zz0 : w.heap.size ≤ au)); replace HB := ah.mk (av zz1 hb); clear hb bK hg; have qM : w8.cell? ⟨au, 0, none⟩ = some (.string aU) := cK ak 0; have qL : w8.cell? ⟨au, 1, none⟩ = some (.string aT) := cK ak 1; have rZ : w8.cell? ⟨au, 2, none⟩ = some (.int .i64 aV) := cK ak 2; have Ea : w8.cell? ⟨au, 3, none⟩ = some (.int .i64 bH) := cK ak 3; have D9 : w8.cell? ⟨au, 4, none⟩ = some (.int .i64 bG) := cK ak 4; have D8 : w8.cell? ⟨au, 5, none⟩ = some (.int .i64 bJ) := cK ak 5; have qK := aj ak.out 0; have qJ := aj ak.out 1; have rY := aj ak.out 2; have DY := aj ak.out 3; have DX := aj ak.out 4; have DW := aj ak.out 5) | ((with_reducible refine bE (N := 11) rfl ?_); refine Kd.R_make (Kd.int .i64) _ 2 rfl (N := 11) rfl 31 _ _ rfl ji5 rfl rfl Try.underlying31 (.int .i64 0) 8 GI rfl (by decide) (by omega) 0 (ok := fun _ => True) (okp := fun _ => True) rfl (fun _ hk => hk) trivial (of_decide_eq_true zz9) (Nat.le_trans (Nat.mul_le_mul_right _ (of_decide_eq_true zz9 : ji5.toNat ≤ 35184372088832)) (by omega)) (Below.refl _ _) (Nat.le_refl _) ?_; intro v149 w10 ho11 hb hg_ mh; clear hg_ mh; (first | rw [← Ny148.out] at ho11 | (simp only [Int.reduceToNat] at ho11; rw [← Ny148.out] at ho11)); have jy := ah.mk (Kd.jC ho11 (bS zz5)); replace ak := ah.mk (aG (g := au) (o := .cells #[.string aU, .string aT, .int .i64 aV, .int .i64 bH, .int .i64 bG, .int .i64 bJ] 30 (0, 0)) zz4 hb); replace HB := ah.mk (av zz5 hb); clear hb ho11))
    go_ret
    exact ⟨_, by first | rfl | (simp [gK, gJ] <;> rfl) | (simp only [← GK]; first | rfl | (simp [gK, gJ] <;> rfl)) | (simp [*, gK, gJ] <;> rfl), IG, zz5⟩
   ·rw [if_neg c7] at H; exact absurd H (by simp)
  ·rw [if_neg c6] at H; exact absurd H (by simp)
mutual
def bn.l0 : Nat → List Int → List (S23) → Int → Int → Option (ByteArray)
 | 0, _, _, _, _ => none
 | k + 1, x3, x10, x11, x12 => if x12 < x11 then (if 0 ≤ x12 then (if x12 < (x10.length : Int) then ((jo.f ((aZ x10 x12).f0) ((aZ x10 x12).f1) ((aZ x10 x12).f2)).bind fun Jm => (if Jm.1 = 1 then (if x3.length < 140737488355328 then (bn.l1 k (x3 ++ [2]) (IntKind.u64.wrap (wrap64 (Jm.2.1 + 4294967296))) 4 x10 x11 x12) else (none)) else (if Jm.1 = 2 then (if x3.length < 140737488355328 then (if Jm.2.2.size ≤ 9223372036854775807 then (bn.l2 k (x3 ++ [3]) x10 x11 x12 (bytesOf Jm.2.2) ((bytesOf Jm.2.2).length : Int) 0) else (none)) else (none)) else (if x3.length < 140737488355328 then (bn.l0 k (x3 ++ [1]) x10 x11 (wrap64 (x12 + 1))) else (none))))) else (none)) else (none)) else (some (strOfNums x3))
def bn.l1 : Nat → List Int → Int → Int → List (S23) → Int → Int → Option (ByteArray)
 | 0, _, _, _, _, _, _ => none
 | k + 1, x3, x6, x7, x10, x11, x12 => if x7 ≥ 0 then (if 0 ≤ (wrap64 (8 * x7)) then (if x3.length < 140737488355328 then (bn.l1 k (x3 ++ [(shr .u64 x6 (wrap64 (8 * x7))) % 256]) x6 (wrap64 (x7 - 1)) x10 x11 x12) else (none)) else (none)) else (bn.l0 k x3 x10 x11 (wrap64 (x12 + 1)))
def bn.l2 : Nat → List Int → List (S23) → Int → Int → List Int → Int → Int → Option (ByteArray)
 | 0, _, _, _, _, _, _, _ => none
 | k + 1, x3, x10, x11, x12, x51, x52, x53 => if x53 < x52 then (if 0 ≤ x53 then (if x53 < (x51.length : Int) then (if x3.length < 140737488355328 then ((some (x3 ++ [rd x51 x53] : List Int)).bind fun y168 => (if (rd x51 x53) = 0 then (if y168.length < 140737488355328 then (bn.l2 k (y168 ++ [255]) x10 x11 x12 x51 x52 (wrap64 (x53 + 1))) else (none)) else (bn.l2 k y168 x10 x11 x12 x51 x52 (wrap64 (x53 + 1))))) else (none)) else (none)) else (none)) else ((some (([0, 0] : List Int) : List Int)).bind fun JA => (if x3.length + JA.length < 140737488355328 then (bn.l0 k (x3 ++ JA) x10 x11 (wrap64 (x12 + 1))) else (none)))
end
def bn.f (k : Nat) (l0 : List (S23)) : Option (ByteArray) := bn.l0 k ([] : List Int) l0 (l0.length : Int) 0
theorem bn.gU : ∀ k, (∀ y0 y1 y2 y3, LeO (bn.l0 k y0 y1 y2 y3) (bn.l0 (k + 1) y0 y1 y2 y3)) ∧ (∀ y0 y1 y2 y3 y4 y5, LeO (bn.l1 k y0 y1 y2 y3 y4 y5) (bn.l1 (k + 1) y0 y1 y2 y3 y4 y5)) ∧ (∀ y0 y1 y2 y3 y4 y5 y6, LeO (bn.l2 k y0 y1 y2 y3 y4 y5 y6) (bn.l2 (k + 1) y0 y1 y2 y3 y4 y5 y6))
 | 0 => ⟨fun _ _ _ _ r h => by simp [bn.l0] at h, fun _ _ _ _ _ _ r h => by simp [bn.l1] at h, fun _ _ _ _ _ _ _ r h => by simp [bn.l2] at h⟩
 | k + 1 => by
  obtain ⟨ih0, ih1, ih2⟩ := bn.gU k; refine ⟨?_, ?_, ?_⟩
  ·intro y0 y1 y2 y3; unfold bn.l0
   repeat' first
   | (with_reducible exact ih0 _ _ _ _)
   | (with_reducible exact ih1 _ _ _ _ _ _)
   | (with_reducible exact ih2 _ _ _ _ _ _ _)
   | (with_reducible exact LeO.refl _)
   | (with_reducible exact LeO.none _)
   | (with_reducible refine LeO.ite ?_ ?_)
   | (with_reducible refine LeO.bind ?_ (fun _ => ?_))
   | exact ih0 _ _ _ _
   | exact ih1 _ _ _ _ _ _
   | exact ih2 _ _ _ _ _ _ _
   | exact LeO.none _
   | refine LeO.ite ?_ ?_
   | refine LeO.bind ?_ (fun _ => ?_)
  ·intro y0 y1 y2 y3 y4 y5; unfold bn.l1
   repeat' first
   | (with_reducible exact ih0 _ _ _ _)
   | (with_reducible exact ih1 _ _ _ _ _ _)
   | (with_reducible exact ih2 _ _ _ _ _ _ _)
   | (with_reducible exact LeO.refl _)
   | (with_reducible exact LeO.none _)
   | (with_reducible refine LeO.ite ?_ ?_)
   | (with_reducible refine LeO.bind ?_ (fun _ => ?_))
   | exact ih0 _ _ _ _
   | exact ih1 _ _ _ _ _ _
   | exact ih2 _ _ _ _ _ _ _
   | exact LeO.none _
   | refine LeO.ite ?_ ?_
   | refine LeO.bind ?_ (fun _ => ?_)
  ·intro y0 y1 y2 y3 y4 y5 y6; unfold bn.l2
   repeat' first
   | (with_reducible exact ih0 _ _ _ _)
   | (with_reducible exact ih1 _ _ _ _ _ _)
   | (with_reducible exact ih2 _ _ _ _ _ _ _)
   | (with_reducible exact LeO.refl _)
   | (with_reducible exact LeO.none _)
   | (with_reducible refine LeO.ite ?_ ?_)
   | (with_reducible refine LeO.bind ?_ (fun _ => ?_))
   | exact ih0 _ _ _ _
   | exact ih1 _ _ _ _ _ _
   | exact ih2 _ _ _ _ _ _ _
   | exact LeO.none _
   | refine LeO.ite ?_ ?_
   | refine LeO.bind ?_ (fun _ => ?_)
theorem bn.mono : ∀ a0 k, LeO (bn.f k a0) (bn.f (k + 1) a0) := by
 intro a0 k; obtain ⟨ih0, ih1, ih2⟩ := bn.gU k; unfold bn.f
 repeat' first
   | (with_reducible exact ih0 _ _ _ _)
   | (with_reducible exact ih1 _ _ _ _ _ _)
   | (with_reducible exact ih2 _ _ _ _ _ _ _)
   | (with_reducible exact LeO.refl _)
   | (with_reducible exact LeO.none _)
   | (with_reducible refine LeO.ite ?_ ?_)
   | (with_reducible refine LeO.bind ?_ (fun _ => ?_))
   | exact ih0 _ _ _ _
   | exact ih1 _ _ _ _ _ _
   | exact ih2 _ _ _ _ _ _ _
   | exact LeO.none _
   | refine LeO.ite ?_ ?_
   | refine LeO.bind ?_ (fun _ => ?_)
set_option maxHeartbeats 8000000 in
set_option maxRecDepth 100000 in
theorem bn.calls (k : Nat) (A0 : Option Addr) (c0 : Nat) (l0 : List (S23)) (r : ByteArray) (w : World) (hr0 : Kd.C k23 w A0 l0.length l0) (hc0 : l0.length ≤ c0) (h : bn.f k l0 = some r) :
  Calls Try.prog 47 #[.slice A0 l0.length c0] w fun e w' => e = .returned (.string r) ∧ Below w.heap.size w w' := by
 have vI := Try.underlying23; have HR0 := ah.mk hr0; have HC0 := ah.mk hc0; clear hr0 hc0; have HB := ah.mk (Below.refl w.heap.size w); have H := h; clear h
 dsimp only [bn.f] at H
 have H' := ah.mk H; clear H
 go_enter Try.func47, Try.ntmps47
 go_wp2
 go_loopg [3, 12] k (fun kq v3 v12 w' => ∃ (dz : List Int) (fC : Int), v12 = .int .i64 fC ∧ ah (bn.l0 kq dz l0 (l0.length : Int) fC = some r) ∧ ah (kq ≤ k) ∧ ah (Kd.R (Kd.int .u8) 5 w' w.heap.size (fun _ => True) v3 dz) ∧ ah (Below w.heap.size w w'))
 case atStart => exact ⟨(([] : List Int)), (0), zz2, H', ⟨Nat.le_refl _⟩, ⟨II⟩, ⟨zz1⟩⟩
 case round =>
  clear H'; obtain ⟨dz, fC, rfl, HA, HK1, l7, HB⟩ := hrel
  cases gk with
  | zero => exact absurd HA.out (by simp [bn.l0])
  | succ k1 =>
   have H := HA.out; clear HA; simp only [bn.l0] at H
   by_cases c2 : fC < (l0.length : Int)
   ·rw [if_pos c2] at H; have oH : decide (fC < (l0.length : Int)) = true := decide_eq_true c2; clear c2
    by_cases c3 : 0 ≤ fC
    ·rw [if_pos c3] at H; have tY : decide (0 ≤ fC) = true := decide_eq_true c3; clear c3
     by_cases c4 : fC < (l0.length : Int)
     ·rw [if_pos c4] at H; have lG : decide (fC < (l0.length : Int)) = true := decide_eq_true c4; clear c4; replace H := Option.bind_eq_some_iff.mp H; obtain ⟨⟨pG, t154, kF⟩, A50, H⟩ := H
      try dsimp only at H
      have A5 := ah.mk A50; clear A50
      by_cases c6 : pG = 1
      ·rw [if_pos c6] at H; have uR : (pG == 1) = true := beq_iff_eq.mpr c6; have Hz : (pG != 1) = false := bne_eq_false_iff_eq.mpr c6; clear c6
       by_cases c7 : dz.length < 140737488355328
       ·rw [if_pos c7] at H; have LMc7 := ah.mk c7; clear c7; obtain ⟨y156, Nh⟩ : ∃ y_ : List Int, y_ = (dz ++ [2]) := ⟨_, rfl⟩; replace H : (bn.l1 k1 y156 (IntKind.u64.wrap (wrap64 (t154 + 4294967296))) 4 l0 (l0.length : Int) fC) = some r := by first | (rw [Nh]; with_reducible exact H) | (have H2_ := (Option.bind_some _ _).symm.trans H; rw [Nh]; with_reducible exact H2_) | (have H2_ := (Option.bind_some _ _).symm.trans H; with_reducible exact H2_) | with_reducible exact H | (rw [Nh]; exact H) | exact H
        have Ny156 := ah.mk Nh; clear Nh; have H' := ah.mk H; clear H; have DU : 0 ≤ (fC : Int) := of_decide_eq_true zz9; have DT : fC < (l0.length : Int) := of_decide_eq_true zz9; obtain ⟨ad151, e151, qY, qX, qW⟩ := ni HR0.out fC DU DT
        cases e151
        replace qY := cB HB qY; replace qX := cB HB qX; replace qW := cB HB qW; replace DU := eq_true DU; replace DT := eq_true DT
        go_wp2_with (first | ((with_reducible refine bE (N := 5) rfl ?_); refine bC ?hg (N := 5) ?hd (cs := #[.int .i64 0, .int .i64 0, .string (⟨#[]⟩ : ByteArray)]) (t := 23) ?hr ?_; (case hd => rfl); (case hg => rfl); (case hr => first | (go_simp; done) | (go_simp; rfl)); intro au hg w8 bK hb; replace l7 := ah.mk (Kd.gP zY hb); have ak := ah.mk (bK); have fO := ah.mk ((zz0 : w.heap.size ≤ au)); have fF := ah.mk ((zz0 : w.heap.size ≤ au)); replace HB := ah.mk (av zz1 hb); clear hb bK hg; have qM : w8.cell? ⟨au, 0, none⟩ = some (.int .i64 0) := cK ak 0; have qL : w8.cell? ⟨au, 1, none⟩ = some (.int .i64 0) := cK ak 1; have rZ : w8.cell? ⟨au, 2, none⟩ = some (.string (⟨#[]⟩ : ByteArray)) := cK ak 2; have qK := aj ak.out 0; have qJ := aj ak.out 1; have rY := aj ak.out 2) | ((with_reducible refine aN (f := 85) rfl ?_); refine bU (some 17) rfl rfl Try.func85 (by kernel_rfl) rfl #[.agg #[.int .i64 ((aZ l0 fC).f0), .int .i64 ((aZ l0 fC).f1), .string ((aZ l0 fC).f2)]] rfl zz8 ?_; (with_reducible refine (jo.calls ((aZ l0 fC).f0) ((aZ l0 fC).f1) ((aZ l0 fC).f2) pG t154 kF _ A5.out).mono ?_); rintro e w10 ⟨rfl, hb⟩; refine ⟨_, rfl, ?_⟩; replace l7 := ah.mk (Kd.gP zz26 hb); replace ak := ah.mk (aG (g := au) (o := .cells #[.int .i64 ((aZ l0 fC).f0), .int .i64 ((aZ l0 fC).f1), .string ((aZ l0 fC).f2)] 23 (0, 0)) zz27 hb); replace HB := ah.mk (av zz5 hb); (try clear hb); (try clear hb2); (try clear hk); (try clear hi); have nM : w10.cell? ⟨au, 0, none⟩ = some (.int .i64 ((aZ l0 fC).f0)) := cK ak 0; have nL : w10.cell? ⟨au, 1, none⟩ = some (.int .i64 ((aZ l0 fC).f1)) := cK ak 1; have nK : w10.cell? ⟨au, 2, none⟩ = some (.string ((aZ l0 fC).f2)) := cK ak 2; have nJ := aj ak.out 0; have nI := aj ak.out 1; have nH := aj ak.out 2) | ((with_reducible refine iA (b := .append) (xs := #[.tmp 25, .tmp 26]) rfl ?_); at_builtin; refine Kd.oI (Kd.int .u8) (w0 := w) w.heap.size rfl (.tmp 25) (.tmp 26) 71 5 (.int .u8 0) 1 rfl Try.underlying71 info5 rfl (by decide) (by omega) u3 dz 2 [.int .u8 2] (fun _ => True) (fun _ => False) rfl zz28 ?aP (fun _ hk => hk.elim) ?aF ?aO ?aB ?aS ?aL ?_; (case aP => exact rfl); (case aB => exact zz5); (case aF => exact (fun _ _ => trivial)); (case aO => exact zz29); (case aS => exact (bS zz5)); (case aL => have := LMc7.out; omega); intro v157 w12 ho hb hg hat; rw [← Ny156.out] at ho; replace ak := ah.mk (iU (g := au) (o := .cells #[.int .i64 pG, .int .i64 t154, .string kF] 23 (0, 0)) zz30 hg (Kd.qP l7.out ak.out (by decide))); replace HB := ah.mk (hb); have jy := ah.mk (ho); clear l7; clear ho hb hg hat; have oV : w12.cell? ⟨au, 0, none⟩ = some (.int .i64 pG) := cK ak 0; have oU : w12.cell? ⟨au, 1, none⟩ = some (.int .i64 t154) := cK ak 1; have oQ : w12.cell? ⟨au, 2, none⟩ = some (.string kF) := cK ak 2; have oM := aj ak.out 0; have oL := aj ak.out 1; have oK := aj ak.out 2))
        go_loopg [3, 7] k1 (fun kq v3 v7 w' => ∃ (su : List Int) (wh : Int), v7 = .int .i64 wh ∧ ah (bn.l1 kq su (IntKind.u64.wrap (wrap64 (t154 + 4294967296))) wh l0 (l0.length : Int) fC = some r) ∧ ah (kq ≤ k1) ∧ ah (Kd.R (Kd.int .u8) 5 w' w.heap.size (fun _ => True) v3 su) ∧ ah (w'.heap[au]? = some (.cells #[.int .i64 pG, .int .i64 t154, .string kF] 23 (0, 0))) ∧ ah (Below w.heap.size w w'))
        case atStart => exact ⟨(y156), (4), zz2, H', ⟨Nat.le_refl _⟩, ⟨IG⟩, ⟨zz4⟩, ⟨zz5⟩⟩
        case round =>
         clear H'; (try clear p1); (try clear q1); (try clear hx1); (try clear c2); (try clear oH); (try clear p2); (try clear c3); (try clear tY); (try clear c4); (try clear lG); (try clear c6); (try clear uR); (try clear Hz); (try clear p6); (try clear c7); (try clear c8); (try clear nM); (try clear nL); (try clear nK); (try clear oV); (try clear oU); (try clear oQ); (try clear qM); (try clear qL); (try clear rZ); (try clear nJ); (try clear nI); (try clear nH); (try clear oM); (try clear oL); (try clear oK); (try clear qK); (try clear qJ); (try clear rY); (try clear qY); (try clear qX); (try clear qW); (try clear DU); (try clear DT); obtain ⟨su, wh, rfl, HA, HK2, l7, ak, HB⟩ := hrel
         cases gk with
         | zero => exact absurd HA.out (by simp [bn.l1])
         | succ k2 =>
          have H := HA.out; clear HA; simp only [bn.l1] at H
          by_cases c14 : wh ≥ 0
          ·rw [if_pos c14] at H; have zU : decide (0 ≤ wh) = true := decide_eq_true c14; clear c14; obtain ⟨Kh, VL⟩ : ∃ j_ : Int, (wrap64 (8 * wh)) = j_ := ⟨_, rfl⟩; replace H : (if 0 ≤ (Kh) then (if su.length < 140737488355328 then (bn.l1 k2 (su ++ [(shr .u64 (IntKind.u64.wrap (wrap64 (t154 + 4294967296))) (Kh)) % 256]) (IntKind.u64.wrap (wrap64 (t154 + 4294967296))) (wrap64 (wh - 1)) l0 (l0.length : Int) fC) else (none)) else (none)) = some r := by first | (rw [VL] at H; exact H) | (simp only [VL] at H ⊢; exact H)
           have hji15w : (IntKind.i64.wrap (8 * wh)) = Kh := (dS _).trans VL
           by_cases c16 : 0 ≤ (Kh)
           ·rw [if_pos c16] at H; have lU := eq_true c16; have uH : decide (0 ≤ (Kh)) = true := decide_eq_true c16; clear c16; obtain ⟨U4, RY⟩ : ∃ j_ : Int, (shr .u64 (IntKind.u64.wrap (wrap64 (t154 + 4294967296))) (Kh)) = j_ := ⟨_, rfl⟩; replace H : (if su.length < 140737488355328 then (bn.l1 k2 (su ++ [(U4) % 256]) (IntKind.u64.wrap (wrap64 (t154 + 4294967296))) (wrap64 (wh - 1)) l0 (l0.length : Int) fC) else (none)) = some r := by first | (rw [RY] at H; exact H) | (simp only [RY] at H ⊢; exact H)
            have hji17_ : ((IntKind.u64.wrap (wrap64 (t154 + 4294967296))) / 2 ^ min (Kh).toNat 64) = U4 := RY; have hji17z : (Kh) ≤ 64 → ((IntKind.u64.wrap (wrap64 (t154 + 4294967296))) / 2 ^ (Kh).toNat) = U4 := I5 RY
            by_cases c18 : su.length < 140737488355328
            ·rw [if_pos c18] at H; have LMc18 := ah.mk c18; clear c18; obtain ⟨y159, hy159⟩ : ∃ y_ : List Int, y_ = (su ++ [(U4) % 256]) := ⟨_, rfl⟩; replace H : (bn.l1 k2 y159 (IntKind.u64.wrap (wrap64 (t154 + 4294967296))) (wrap64 (wh - 1)) l0 (l0.length : Int) fC) = some r := by first | (rw [hy159]; with_reducible exact H) | (have H2_ := (Option.bind_some _ _).symm.trans H; rw [hy159]; with_reducible exact H2_) | (have H2_ := (Option.bind_some _ _).symm.trans H; with_reducible exact H2_) | with_reducible exact H | (rw [hy159]; exact H) | exact H
             have Ny159 := ah.mk hy159; clear hy159; have H' := ah.mk H; clear H
             go_wp2_with (first | ((with_reducible refine iA (b := .append) (xs := #[.tmp 36, .tmp 42]) rfl ?_); at_builtin; refine Kd.oI (Kd.int .u8) (w0 := w) w.heap.size rfl (.tmp 36) (.tmp 42) 71 5 (.int .u8 0) 1 rfl Try.underlying71 info5 rfl (by decide) (by omega) u3 su ((U4) % 256) [.int .u8 ((U4) % 256)] (fun _ => True) (fun _ => False) rfl rfl ?aP (fun _ hk => hk.elim) ?aF ?aO ?aB ?aS ?aL ?_; (case aP => exact rfl); (case aB => exact zz5); (case aF => exact (fun _ _ => trivial)); (case aO => exact zY); (case aS => exact (bS zz5)); (case aL => have := LMc18.out; omega); intro v160 w19 ho hb hg hat; rw [← Ny159.out] at ho; replace ak := ah.mk (iU (g := au) (o := .cells #[.int .i64 pG, .int .i64 t154, .string kF] 23 (0, 0)) zz4 hg (Kd.qP l7.out ak.out (by decide))); replace HB := ah.mk (hb); have iT := ah.mk (ho); clear l7; clear ho hb hg hat))
             go_roundg k2
             case measure => have := HK1.out; have := HK2.out; omega
             case rel => exact ⟨(y159), (wrap64 (wh - 1)), zz2, H', ⟨N9⟩, ⟨N8⟩, ⟨zz4⟩, ⟨zz5⟩⟩
            ·rw [if_neg c18] at H; exact absurd H (by simp)
           ·rw [if_neg c16] at H; exact absurd H (by simp)
          ·rw [if_neg c14] at H; have zU : decide (0 ≤ wh) = false := decide_eq_false c14; clear c14; have H' := ah.mk H; clear H
           go_wp2
           go_roundg k2
           case measure => have := HK1.out; have := HK2.out; omega
           case rel => exact ⟨(su), (wrap64 (fC + 1)), zz2, H', ⟨N9⟩, ⟨zY⟩, ⟨zz5⟩⟩
       ·rw [if_neg c7] at H; exact absurd H (by simp)
      ·rw [if_neg c6] at H; have uR : (pG == 1) = false := beq_eq_false_iff_ne.mpr c6; have Hz : (pG != 1) = true := bne_iff_ne.mpr c6
       by_cases c20 : pG = 2
       ·rw [if_pos c20] at H; have TW : (pG == 2) = true := beq_iff_eq.mpr c20; have c20b1 : (pG != 2) = false := bne_eq_false_iff_eq.mpr c20; clear c20
        by_cases c21 : dz.length < 140737488355328
        ·rw [if_pos c21] at H; have LMc21 := ah.mk c21; clear c21; obtain ⟨y162, Ng⟩ : ∃ y_ : List Int, y_ = (dz ++ [3]) := ⟨_, rfl⟩; replace H : (if kF.size ≤ 9223372036854775807 then (bn.l2 k1 y162 l0 (l0.length : Int) fC (bytesOf kF) ((bytesOf kF).length : Int) 0) else (none)) = some r := by first | (rw [Ng]; with_reducible exact H) | (have H2_ := (Option.bind_some _ _).symm.trans H; rw [Ng]; with_reducible exact H2_) | (have H2_ := (Option.bind_some _ _).symm.trans H; with_reducible exact H2_) | with_reducible exact H | (rw [Ng]; exact H) | exact H
         have Ny162 := ah.mk Ng; clear Ng
         by_cases c22 : kF.size ≤ 9223372036854775807
         ·rw [if_pos c22] at H; have H6 := eq_true c22; have TV : decide (kF.size ≤ 9223372036854775807) = true := decide_eq_true c22
          try have c22b2 : (9223372036854775807 < kF.size) = False := eq_false (Nat.not_lt.2 c22)
          clear c22; have H' := ah.mk H; clear H; have DU : 0 ≤ (fC : Int) := of_decide_eq_true zz9; have DT : fC < (l0.length : Int) := of_decide_eq_true zz9; obtain ⟨ad151, e151, qY, qX, qW⟩ := ni HR0.out fC DU DT
          cases e151
          replace qY := cB HB qY; replace qX := cB HB qX; replace qW := cB HB qW; replace DU := eq_true DU; replace DT := eq_true DT
          go_wp2_with (first | ((with_reducible refine bE (N := 5) rfl ?_); refine bC ?hg (N := 5) ?hd (cs := #[.int .i64 0, .int .i64 0, .string (⟨#[]⟩ : ByteArray)]) (t := 23) ?hr ?_; (case hd => rfl); (case hg => rfl); (case hr => first | (go_simp; done) | (go_simp; rfl)); intro au hg w23 bK hb; replace l7 := ah.mk (Kd.gP zY hb); have ak := ah.mk (bK); have fO := ah.mk ((zz0 : w.heap.size ≤ au)); have fF := ah.mk ((zz0 : w.heap.size ≤ au)); replace HB := ah.mk (av zz1 hb); clear hb bK hg; have Db : w23.cell? ⟨au, 0, none⟩ = some (.int .i64 0) := cK ak 0; have Da : w23.cell? ⟨au, 1, none⟩ = some (.int .i64 0) := cK ak 1; have C9 : w23.cell? ⟨au, 2, none⟩ = some (.string (⟨#[]⟩ : ByteArray)) := cK ak 2; have CB := aj ak.out 0; have Cz := aj ak.out 1; have Cy := aj ak.out 2) | ((with_reducible refine aN (f := 85) rfl ?_); refine bU (some 17) rfl rfl Try.func85 (by kernel_rfl) rfl #[.agg #[.int .i64 ((aZ l0 fC).f0), .int .i64 ((aZ l0 fC).f1), .string ((aZ l0 fC).f2)]] rfl zz8 ?_; (with_reducible refine (jo.calls ((aZ l0 fC).f0) ((aZ l0 fC).f1) ((aZ l0 fC).f2) pG t154 kF _ A5.out).mono ?_); rintro e w25 ⟨rfl, hb⟩; refine ⟨_, rfl, ?_⟩; replace l7 := ah.mk (Kd.gP zz26 hb); replace ak := ah.mk (aG (g := au) (o := .cells #[.int .i64 ((aZ l0 fC).f0), .int .i64 ((aZ l0 fC).f1), .string ((aZ l0 fC).f2)] 23 (0, 0)) zz27 hb); replace HB := ah.mk (av zz5 hb); (try clear hb); (try clear hb2); (try clear hk); (try clear hi); have zw : w25.cell? ⟨au, 0, none⟩ = some (.int .i64 ((aZ l0 fC).f0)) := cK ak 0; have zu : w25.cell? ⟨au, 1, none⟩ = some (.int .i64 ((aZ l0 fC).f1)) := cK ak 1; have CX : w25.cell? ⟨au, 2, none⟩ = some (.string ((aZ l0 fC).f2)) := cK ak 2; have zl := aj ak.out 0; have zk := aj ak.out 1; have Cu := aj ak.out 2) | ((with_reducible refine iA (b := .append) (xs := #[.tmp 46, .tmp 47]) rfl ?_); at_builtin; refine Kd.oI (Kd.int .u8) (w0 := w) w.heap.size rfl (.tmp 46) (.tmp 47) 71 5 (.int .u8 0) 1 rfl Try.underlying71 info5 rfl (by decide) (by omega) u3 dz 3 [.int .u8 3] (fun _ => True) (fun _ => False) rfl zz28 ?aP (fun _ hk => hk.elim) ?aF ?aO ?aB ?aS ?aL ?_; (case aP => exact rfl); (case aB => exact zz5); (case aF => exact (fun _ _ => trivial)); (case aO => exact zz29); (case aS => exact (bS zz5)); (case aL => have := LMc21.out; omega); intro v163 w27 ho hb hg hat; rw [← Ny162.out] at ho; replace ak := ah.mk (iU (g := au) (o := .cells #[.int .i64 pG, .int .i64 t154, .string kF] 23 (0, 0)) zz30 hg (Kd.qP l7.out ak.out (by decide))); replace HB := ah.mk (hb); have kT := ah.mk (ho); clear l7; clear ho hb hg hat; have xg : w27.cell? ⟨au, 0, none⟩ = some (.int .i64 pG) := cK ak 0; have wZ : w27.cell? ⟨au, 1, none⟩ = some (.int .i64 t154) := cK ak 1; have wY : w27.cell? ⟨au, 2, none⟩ = some (.string kF) := cK ak 2; have wU := aj ak.out 0; have wT := aj ak.out 1; have wS := aj ak.out 2) | ((with_reducible refine bE (N := 51) rfl ?_); refine yw (N := 51) ?hg ?hd 9 71 5 (.tmp 50) ?ho Try.underlying9 Try.underlying71 Try.underlying5 kF ?hx (of_decide_eq_true zz9) (base := w.heap.size) ?hb_ ?_; (case hb_ => exact ((bS zz5))); (case hd => rfl); (case hg => rfl); (case ho => rfl); (case hx => first | rfl | (go_simp; done) | (go_simp; rfl)); intro A166 c166 w29 hc_ hb; replace kT := ah.mk (Kd.gP zz33 hb); replace ak := ah.mk (aG (g := au) (o := .cells #[.int .i64 pG, .int .i64 t154, .string kF] 23 (0, 0)) zz4 hb); replace HB := ah.mk (av zz5 hb); have EG := ah.mk hc_; have HC104 := ah.mk hc_.le; clear hb hc_))
          go_loopg [3, 53] k1 (fun kq v3 v53 w' => ∃ (su : List Int) (kS : Int), v53 = .int .i64 kS ∧ ah (bn.l2 kq su l0 (l0.length : Int) fC (bytesOf kF) ((bytesOf kF).length : Int) kS = some r) ∧ ah (kq ≤ k1) ∧ ah (Kd.R (Kd.int .u8) 5 w' w.heap.size (fun _ => True) v3 su) ∧ ah (w'.heap[au]? = some (.cells #[.int .i64 pG, .int .i64 t154, .string kF] 23 (0, 0))) ∧ ah (jm w' w.heap.size A166 c166 (bytesOf kF).length (bytesOf kF)) ∧ ah (Below w.heap.size w w'))
          case atStart => exact ⟨(y162), (0), zz2, H', ⟨Nat.le_refl _⟩, ⟨zz33⟩, ⟨zz4⟩, ⟨IE⟩, ⟨zz5⟩⟩
          case round =>
           clear H'; (try clear c1); (try clear p1); (try clear q1); (try clear hx1); (try clear c2); (try clear oH); (try clear p2); (try clear c3); (try clear tY); (try clear c4); (try clear lG); (try clear c6); (try clear uR); (try clear Hz); (try clear p6); (try clear c7); (try clear c8); (try clear c14); (try clear zU); (try clear p15); (try clear q15); (try clear hx15); (try clear c16); (try clear lU); (try clear uH); (try clear c18); (try clear c20); (try clear TW); (try clear c20b1); (try clear c21); (try clear c22); (try clear H6); (try clear TV); (try clear c22b2); (try clear nM); (try clear nL); (try clear nK); (try clear oV); (try clear oU); (try clear oQ); (try clear Db); (try clear Da); (try clear C9); (try clear zw); (try clear zu); (try clear CX); (try clear xg); (try clear wZ); (try clear wY); (try clear qM); (try clear qL); (try clear rZ); (try clear nJ); (try clear nI); (try clear nH); (try clear oM); (try clear oL); (try clear oK); (try clear CB); (try clear Cz); (try clear Cy); (try clear zl); (try clear zk); (try clear Cu); (try clear wU); (try clear wT); (try clear wS); (try clear qK); (try clear qJ); (try clear rY); (try clear qY); (try clear qX); (try clear qW); (try clear p1); (try clear DU); (try clear p2); (try clear p6); (try clear q1); (try clear DT); obtain ⟨su, kS, rfl, HA, HK2, l7, ak, EG, HB⟩ := hrel
           cases gk with
           | zero => exact absurd HA.out (by simp [bn.l2])
           | succ k2 =>
            have H := HA.out; clear HA; simp only [bn.l2] at H
            by_cases c30 : kS < ((bytesOf kF).length : Int)
            ·rw [if_pos c30] at H; have HZ : decide (kS < ((bytesOf kF).length : Int)) = true := decide_eq_true c30; clear c30
             by_cases c31 : 0 ≤ kS
             ·rw [if_pos c31] at H; have TT : decide (0 ≤ kS) = true := decide_eq_true c31; clear c31
              by_cases c32 : kS < ((bytesOf kF).length : Int)
              ·rw [if_pos c32] at H; have NG : decide (kS < ((bytesOf kF).length : Int)) = true := decide_eq_true c32; clear c32
               by_cases c33 : su.length < 140737488355328
               ·rw [if_pos c33] at H; have LMc33 := ah.mk c33; clear c33; obtain ⟨y168, hy168⟩ : ∃ y_ : List Int, y_ = (su ++ [rd (bytesOf kF) kS]) := ⟨_, rfl⟩; replace H : (if (rd (bytesOf kF) kS) = 0 then (if y168.length < 140737488355328 then (bn.l2 k2 (y168 ++ [255]) l0 (l0.length : Int) fC (bytesOf kF) ((bytesOf kF).length : Int) (wrap64 (kS + 1))) else (none)) else (bn.l2 k2 y168 l0 (l0.length : Int) fC (bytesOf kF) ((bytesOf kF).length : Int) (wrap64 (kS + 1)))) = some r := by first | (rw [hy168]; with_reducible exact H) | (have H2_ := (Option.bind_some _ _).symm.trans H; rw [hy168]; with_reducible exact H2_) | (have H2_ := (Option.bind_some _ _).symm.trans H; with_reducible exact H2_) | with_reducible exact H | (rw [hy168]; exact H) | exact H
                have Ny168 := ah.mk hy168; clear hy168
                by_cases c34 : (rd (bytesOf kF) kS) = 0
                ·rw [if_pos c34] at H; have EB : ((rd (bytesOf kF) kS) == 0) = true := beq_iff_eq.mpr c34; have NC : ((rd (bytesOf kF) kS) != 0) = false := bne_eq_false_iff_eq.mpr c34; clear c34
                 by_cases c35 : y168.length < 140737488355328
                 ·rw [if_pos c35] at H; have LMc35 := ah.mk c35; clear c35; obtain ⟨y171, Nf⟩ : ∃ y_ : List Int, y_ = (y168 ++ [255]) := ⟨_, rfl⟩; replace H : (bn.l2 k2 y171 l0 (l0.length : Int) fC (bytesOf kF) ((bytesOf kF).length : Int) (wrap64 (kS + 1))) = some r := by first | (rw [Nf]; with_reducible exact H) | (have H2_ := (Option.bind_some _ _).symm.trans H; rw [Nf]; with_reducible exact H2_) | (have H2_ := (Option.bind_some _ _).symm.trans H; with_reducible exact H2_) | with_reducible exact H | (rw [Nf]; exact H) | exact H
                  have Ny171 := ah.mk Nf; clear Nf; have H' := ah.mk H; clear H; have Pq : 0 ≤ (kS : Int) := of_decide_eq_true zz9; have OY : kS < ((bytesOf kF).length : Int) := of_decide_eq_true zz9; obtain ⟨ad167, e167, YI⟩ := Kd.jq (jm.reads IE) kS Pq OY
                  cases e167
                  replace Pq := eq_true Pq; replace OY := eq_true OY
                  go_wp2_with (first | ((with_reducible refine iA (b := .append) (xs := #[.tmp 57, .tmp 59]) rfl ?_); at_builtin; refine Kd.oI (Kd.int .u8) (w0 := w) w.heap.size rfl (.tmp 57) (.tmp 59) 71 5 (.int .u8 0) 1 rfl Try.underlying71 info5 rfl (by decide) (by omega) u3 su (rd (bytesOf kF) kS) [.int .u8 (rd (bytesOf kF) kS)] (fun _ => True) (fun _ => False) rfl rfl ?aP (fun _ hk => hk.elim) ?aF ?aO ?aB ?aS ?aL ?_; (case aP => exact rfl); (case aB => exact zz5); (case aF => exact (fun _ _ => trivial)); (case aO => exact zY); (case aS => exact (bS zz5)); (case aL => have := LMc33.out; omega); intro v169 w36 ho hb hg hat; rw [← Ny168.out] at ho; replace ak := ah.mk (iU (g := au) (o := .cells #[.int .i64 pG, .int .i64 t154, .string kF] 23 (0, 0)) zz4 hg (Kd.qP l7.out ak.out (by decide))); replace HB := ah.mk (hb); replace EG := ah.mk (jm.grown IE hg (Kd.vF zY)); have qz := ah.mk (ho); clear l7; clear ho hb hg hat) | ((with_reducible refine iA (b := .append) (xs := #[.tmp 63, .tmp 64]) rfl ?_); at_builtin; refine Kd.oI (Kd.int .u8) (w0 := w) w.heap.size rfl (.tmp 63) (.tmp 64) 71 5 (.int .u8 0) 1 rfl Try.underlying71 info5 rfl (by decide) (by omega) v169 y168 255 [.int .u8 255] (fun _ => True) (fun _ => False) rfl rfl ?aP (fun _ hk => hk.elim) ?aF ?aO ?aB ?aS ?aL ?_; (case aP => exact rfl); (case aB => exact zz5); (case aF => exact (fun _ _ => trivial)); (case aO => exact Gi); (case aS => exact (bS zz5)); (case aL => have := LMc35.out; omega); intro v172 w37 ho hb hg hat; rw [← Ny171.out] at ho; replace ak := ah.mk (iU (g := au) (o := .cells #[.int .i64 pG, .int .i64 t154, .string kF] 23 (0, 0)) zz4 hg (Kd.qP qz.out ak.out (by decide))); replace HB := ah.mk (hb); replace EG := ah.mk (jm.grown IE hg (Kd.vF Gi)); have qF := ah.mk (ho); clear qz; clear ho hb hg hat))
                  go_roundg k2
                  case measure => have := HK1.out; have := HK2.out; omega
                  case rel => exact ⟨(y171), (wrap64 (kS + 1)), zz2, H', ⟨N9⟩, ⟨Jz⟩, ⟨zz4⟩, ⟨IE⟩, ⟨zz5⟩⟩
                 ·rw [if_neg c35] at H; exact absurd H (by simp)
                ·rw [if_neg c34] at H; have EB : ((rd (bytesOf kF) kS) == 0) = false := beq_eq_false_iff_ne.mpr c34; have NC : ((rd (bytesOf kF) kS) != 0) = true := bne_iff_ne.mpr c34; have H' := ah.mk H; clear H; have Pq : 0 ≤ (kS : Int) := of_decide_eq_true zz9; have OY : kS < ((bytesOf kF).length : Int) := of_decide_eq_true zz9; obtain ⟨ad167, e167, YI⟩ := Kd.jq (jm.reads IE) kS Pq OY
                 cases e167
                 replace Pq := eq_true Pq; replace OY := eq_true OY
                 go_wp2_with (first | ((with_reducible refine iA (b := .append) (xs := #[.tmp 57, .tmp 59]) rfl ?_); at_builtin; refine Kd.oI (Kd.int .u8) (w0 := w) w.heap.size rfl (.tmp 57) (.tmp 59) 71 5 (.int .u8 0) 1 rfl Try.underlying71 info5 rfl (by decide) (by omega) u3 su (rd (bytesOf kF) kS) [.int .u8 (rd (bytesOf kF) kS)] (fun _ => True) (fun _ => False) rfl rfl ?aP (fun _ hk => hk.elim) ?aF ?aO ?aB ?aS ?aL ?_; (case aP => exact rfl); (case aB => exact zz5); (case aF => exact (fun _ _ => trivial)); (case aO => exact zY); (case aS => exact (bS zz5)); (case aL => have := LMc33.out; omega); intro v169 w38 ho hb hg hat; rw [← Ny168.out] at ho; replace ak := ah.mk (iU (g := au) (o := .cells #[.int .i64 pG, .int .i64 t154, .string kF] 23 (0, 0)) zz4 hg (Kd.qP l7.out ak.out (by decide))); replace HB := ah.mk (hb); replace EG := ah.mk (jm.grown IE hg (Kd.vF zY)); have qz := ah.mk (ho); clear l7; clear ho hb hg hat))
                 go_roundg k2
                 case measure => have := HK1.out; have := HK2.out; omega
                 case rel => exact ⟨(y168), (wrap64 (kS + 1)), zz2, H', ⟨N9⟩, ⟨Gi⟩, ⟨zz4⟩, ⟨IE⟩, ⟨zz5⟩⟩
               ·rw [if_neg c33] at H; exact absurd H (by simp)
              ·rw [if_neg c32] at H; exact absurd H (by simp)
             ·rw [if_neg c31] at H; exact absurd H (by simp)
            ·rw [if_neg c30] at H; have HZ : decide (kS < ((bytesOf kF).length : Int)) = false := decide_eq_false c30; clear c30; obtain ⟨JA, Nc⟩ : ∃ y_ : List Int, y_ = (([0, 0] : List Int)) := ⟨_, rfl⟩; replace H : (if su.length + JA.length < 140737488355328 then (bn.l0 k2 (su ++ JA) l0 (l0.length : Int) (wrap64 (fC + 1))) else (none)) = some r := by first | (rw [Nc]; with_reducible exact H) | (have H2_ := (Option.bind_some _ _).symm.trans H; rw [Nc]; with_reducible exact H2_) | (have H2_ := (Option.bind_some _ _).symm.trans H; with_reducible exact H2_) | with_reducible exact H | (rw [Nc]; exact H) | exact H
             have Ny174 := ah.mk Nc; clear Nc
             by_cases c39 : su.length + JA.length < 140737488355328
             ·rw [if_pos c39] at H; have LMc39 := ah.mk c39; clear c39; obtain ⟨y177, Nb⟩ : ∃ y_ : List Int, y_ = (su ++ JA) := ⟨_, rfl⟩; replace H : (bn.l0 k2 y177 l0 (l0.length : Int) (wrap64 (fC + 1))) = some r := by first | (rw [Nb]; with_reducible exact H) | (have H2_ := (Option.bind_some _ _).symm.trans H; rw [Nb]; with_reducible exact H2_) | (have H2_ := (Option.bind_some _ _).symm.trans H; with_reducible exact H2_) | with_reducible exact H | (rw [Nb]; exact H) | exact H
              have Ny177 := ah.mk Nb; clear Nb; have H' := ah.mk H; clear H
              go_wp2_with (first | ((with_reducible refine bE (N := 68) rfl ?_); refine Kd.Dw (Kd.int .u8) _ 5 ?hg (N := 68) ?hd (xs := ([0, 0] : List Int)) (inner := [.int .u8 0, .int .u8 0]) (ok := fun _ => True) (okp := fun _ => True) ?hr ?hp (fun _ hk => hk) trivial (Below.refl _ _) (Nat.le_refl _) (by simp) ?_; (case hd => rfl); (case hg => rfl); (case hr => first | (go_simp; done) | (go_simp; rfl)); (case hp => exact (iq.one (show Kd.M (Kd.int .u8) _ _ _ 0 [.int .u8 0] from rfl) (iq.one (show Kd.M (Kd.int .u8) _ _ _ 0 [.int .u8 0] from rfl) (iq.none _ _)))); intro v175 w40 U6 hb hg_ mh; clear hg_ mh; (first | rw [← Ny174.out] at U6 | (simp only [Int.reduceToNat] at U6; rw [← Ny174.out] at U6)); have yN := ah.mk (Kd.jC (Kd.qx U6 (Kd.zP zY)) (bS zz5)); replace l7 := ah.mk (Kd.lW zY (Kd.jd U6) hb); replace ak := ah.mk (aG (g := au) (o := .cells #[.int .i64 pG, .int .i64 t154, .string kF] 23 (0, 0)) zz4 hb); replace EG := ah.mk (jm.below IE hb); replace HB := ah.mk (av zz5 hb); clear hb U6; obtain ⟨Ao43, co43, eo43⟩ := Kd.fH yN.out; subst eo43) | ((with_reducible refine iA (b := .append) (xs := #[.tmp 67, .tmp 68]) rfl ?_); at_builtin; refine Kd.rM (Kd.int .u8) (w0 := w) w.heap.size rfl (.tmp 67) (.tmp 68) 71 5 (.int .u8 0) 1 rfl Try.underlying71 info5 rfl (by decide) (by omega) u3 su JA _ _ _ (fun k_ => some k_ ≠ (.slice Ao43 JA.length co43 : Value).ownBlock) (fun _ => False) rfl rfl ?aO ?aR (fun _ _ h => h) (fun _ h => h.elim) ?aF ?aB ?aS ?aL ?_; (case aR => repeat (first | exact (Kd.dw yN.out).2.2 | (with_reducible refine Kd.dF ?_ _) | (with_reducible refine Kd.dI ?_ _) | (with_reducible refine Kd.dZ ?_))); (case aB => exact zz5); (case aF => exact (fun k_ hk => Kd.fresh' (Kd.zP Uw) k_ hk)); (case aO => exact (by (with_reducible repeat (first | apply Kd.gu | apply Kd.fV | apply Kd.gY)); exact Kd.eO l7.out (fun _ hk => hk.2))); (case aS => exact (bS zz5)); (case aL => have := LMc39.out; omega); intro v178 w42 ho hb hg hat; rw [← Ny177.out] at ho; replace ak := ah.mk (iU (g := au) (o := .cells #[.int .i64 pG, .int .i64 t154, .string kF] 23 (0, 0)) zz4 hg (Kd.qP l7.out ak.out (by decide))); replace yN := ah.mk (Kd.F7 (ok := (fun _ => True)) Uw hg hat); replace HB := ah.mk (hb); replace EG := ah.mk (jm.grown IE hg (Kd.vF zY)); have Jv := ah.mk (ho); clear l7; clear ho hb hg hat))
              go_roundg k2
              case measure => have := HK1.out; have := HK2.out; omega
              case rel => exact ⟨(y177), (wrap64 (fC + 1)), zz2, H', ⟨N9⟩, ⟨by (with_reducible repeat (first | apply Kd.gu | apply Kd.fV | apply Kd.gY)); exact Kd.eO Jv.out (fun _ hk => trivial)⟩, ⟨zz5⟩⟩
             ·rw [if_neg c39] at H; exact absurd H (by simp)
         ·rw [if_neg c22] at H; exact absurd H (by simp)
        ·rw [if_neg c21] at H; exact absurd H (by simp)
       ·rw [if_neg c20] at H; have TW : (pG == 2) = false := beq_eq_false_iff_ne.mpr c20; have c20b1 : (pG != 2) = true := bne_iff_ne.mpr c20
        by_cases c44 : dz.length < 140737488355328
        ·rw [if_pos c44] at H; have LMc44 := ah.mk c44; clear c44; obtain ⟨y180, Na⟩ : ∃ y_ : List Int, y_ = (dz ++ [1]) := ⟨_, rfl⟩; replace H : (bn.l0 k1 y180 l0 (l0.length : Int) (wrap64 (fC + 1))) = some r := by first | (rw [Na]; with_reducible exact H) | (have H2_ := (Option.bind_some _ _).symm.trans H; rw [Na]; with_reducible exact H2_) | (have H2_ := (Option.bind_some _ _).symm.trans H; with_reducible exact H2_) | with_reducible exact H | (rw [Na]; exact H) | exact H
         have Ny180 := ah.mk Na; clear Na; have H' := ah.mk H; clear H; have DU : 0 ≤ (fC : Int) := of_decide_eq_true zz9; have DT : fC < (l0.length : Int) := of_decide_eq_true zz9; obtain ⟨ad151, e151, qY, qX, qW⟩ := ni HR0.out fC DU DT
         cases e151
         replace qY := cB HB qY; replace qX := cB HB qX; replace qW := cB HB qW; replace DU := eq_true DU; replace DT := eq_true DT
         go_wp2_with (first | ((with_reducible refine bE (N := 5) rfl ?_); refine bC ?hg (N := 5) ?hd (cs := #[.int .i64 0, .int .i64 0, .string (⟨#[]⟩ : ByteArray)]) (t := 23) ?hr ?_; (case hd => rfl); (case hg => rfl); (case hr => first | (go_simp; done) | (go_simp; rfl)); intro au hg w45 bK hb; replace l7 := ah.mk (Kd.gP zY hb); have ak := ah.mk (bK); have fO := ah.mk ((zz0 : w.heap.size ≤ au)); have fF := ah.mk ((zz0 : w.heap.size ≤ au)); replace HB := ah.mk (av zz1 hb); clear hb bK hg; have Tm : w45.cell? ⟨au, 0, none⟩ = some (.int .i64 0) := cK ak 0; have Tk : w45.cell? ⟨au, 1, none⟩ = some (.int .i64 0) := cK ak 1; have Tj : w45.cell? ⟨au, 2, none⟩ = some (.string (⟨#[]⟩ : ByteArray)) := cK ak 2; have Sv := aj ak.out 0; have Sr := aj ak.out 1; have Sn := aj ak.out 2) | ((with_reducible refine aN (f := 85) rfl ?_); refine bU (some 17) rfl rfl Try.func85 (by kernel_rfl) rfl #[.agg #[.int .i64 ((aZ l0 fC).f0), .int .i64 ((aZ l0 fC).f1), .string ((aZ l0 fC).f2)]] rfl zz8 ?_; (with_reducible refine (jo.calls ((aZ l0 fC).f0) ((aZ l0 fC).f1) ((aZ l0 fC).f2) pG t154 kF _ A5.out).mono ?_); rintro e w47 ⟨rfl, hb⟩; refine ⟨_, rfl, ?_⟩; replace l7 := ah.mk (Kd.gP zz26 hb); replace ak := ah.mk (aG (g := au) (o := .cells #[.int .i64 ((aZ l0 fC).f0), .int .i64 ((aZ l0 fC).f1), .string ((aZ l0 fC).f2)] 23 (0, 0)) zz27 hb); replace HB := ah.mk (av zz5 hb); (try clear hb); (try clear hb2); (try clear hk); (try clear hi); have hcz48_0 : w47.cell? ⟨au, 0, none⟩ = some (.int .i64 ((aZ l0 fC).f0)) := cK ak 0; have hcz48_1 : w47.cell? ⟨au, 1, none⟩ = some (.int .i64 ((aZ l0 fC).f1)) := cK ak 1; have hcz48_2 : w47.cell? ⟨au, 2, none⟩ = some (.string ((aZ l0 fC).f2)) := cK ak 2; have hfz48_0 := aj ak.out 0; have hfz48_1 := aj ak.out 1; have hfz48_2 := aj ak.out 2) | ((with_reducible refine iA (b := .append) (xs := #[.tmp 20, .tmp 21]) rfl ?_); at_builtin; refine Kd.oI (Kd.int .u8) (w0 := w) w.heap.size rfl (.tmp 20) (.tmp 21) 71 5 (.int .u8 0) 1 rfl Try.underlying71 info5 rfl (by decide) (by omega) u3 dz 1 [.int .u8 1] (fun _ => True) (fun _ => False) rfl zz28 ?aP (fun _ hk => hk.elim) ?aF ?aO ?aB ?aS ?aL ?_; (case aP => exact rfl); (case aB => exact zz5); (case aF => exact (fun _ _ => trivial)); (case aO => exact zz29); (case aS => exact (bS zz5)); (case aL => have := LMc44.out; omega); intro v181 w49 ho hb hg hat; rw [← Ny180.out] at ho; replace ak := ah.mk (iU (g := au) (o := .cells #[.int .i64 pG, .int .i64 t154, .string kF] 23 (0, 0)) zz30 hg (Kd.qP l7.out ak.out (by decide))); replace HB := ah.mk (hb); have NY := ah.mk (ho); clear l7; clear ho hb hg hat))
         go_roundg k1
         case measure => have := HK1.out; omega
         case rel => exact ⟨(y180), (wrap64 (fC + 1)), zz2, H', ⟨by have := HK1.out; omega⟩, ⟨by (with_reducible repeat (first | apply Kd.gu | apply Kd.fV | apply Kd.gY)); exact NY.out⟩, ⟨zz5⟩⟩
        ·rw [if_neg c44] at H; exact absurd H (by simp)
     ·rw [if_neg c4] at H; exact absurd H (by simp)
    ·rw [if_neg c3] at H; exact absurd H (by simp)
   ·rw [if_neg c2] at H; have oH : decide (fC < (l0.length : Int)) = false := decide_eq_false c2; clear c2; obtain rfl := Option.some.inj H; have hcv50 := Pz (P := Try.prog) Try.underlying71 Try.underlying5 Try.underlying9 (Kd.AX l7.out)
    go_wp2
    go_ret
    exact ⟨zz6, zz1⟩
def dD.l0 : Nat → Int → List Int → Int → Int → Option (Int)
 | 0, _, _, _, _ => none
 | k + 1, x5, x15, x16, x17 => if x17 < x16 then (if 0 ≤ x17 then (if x17 < (x15.length : Int) then (dD.l0 k (IntKind.u64.wrap ((Go.bits .xor .u64 x5 (IntKind.u64.wrap (rd x15 x17))) * 1099511628211)) x15 x16 (wrap64 (x17 + 1))) else (none)) else (none)) else (some x5)
def dD.f (k : Nat) (aU : Int) (aT : Int) (aV : ByteArray) (a1 : Int) : Option (Int) := (bn.f k (([(⟨aU, aT, aV⟩ : S23)] : List (S23)))).bind fun zL => (if zL.size ≤ 9223372036854775807 then (if (bytesOf zL).length < 140737488355328 then ((some ((bytesOf zL) ++ [(a1) % 256] : List Int)).bind fun vQ => (dD.l0 k 14695981039346656037 vQ (vQ.length : Int) 0)) else (none)) else (none))
theorem dD.gU : ∀ k, (∀ y0 y1 y2 y3, LeO (dD.l0 k y0 y1 y2 y3) (dD.l0 (k + 1) y0 y1 y2 y3))
 | 0 => fun _ _ _ _ r h => by simp [dD.l0] at h
 | k + 1 => by
  have ih0 := dD.gU k
  ·intro y0 y1 y2 y3; unfold dD.l0
   repeat' first
   | (with_reducible exact ih0 _ _ _ _)
   | (with_reducible exact bn.mono _ _)
   | (with_reducible exact LeO.refl _)
   | (with_reducible exact LeO.none _)
   | (with_reducible refine LeO.ite ?_ ?_)
   | (with_reducible refine LeO.bind ?_ (fun _ => ?_))
   | exact ih0 _ _ _ _
   | exact bn.mono _ _
   | exact LeO.none _
   | refine LeO.ite ?_ ?_
   | refine LeO.bind ?_ (fun _ => ?_)
theorem dD.mono : ∀ a0 a1 a2 a3 k, LeO (dD.f k a0 a1 a2 a3) (dD.f (k + 1) a0 a1 a2 a3) := by
 intro a0 a1 a2 a3 k; have ih0 := dD.gU k; unfold dD.f
 repeat' first
   | (with_reducible exact ih0 _ _ _ _)
   | (with_reducible exact bn.mono _ _)
   | (with_reducible exact LeO.refl _)
   | (with_reducible exact LeO.none _)
   | (with_reducible refine LeO.ite ?_ ?_)
   | (with_reducible refine LeO.bind ?_ (fun _ => ?_))
   | exact ih0 _ _ _ _
   | exact bn.mono _ _
   | exact LeO.none _
   | refine LeO.ite ?_ ?_
   | refine LeO.bind ?_ (fun _ => ?_)
set_option maxHeartbeats 8000000 in
set_option maxRecDepth 100000 in
theorem dD.calls (k : Nat) (aU : Int) (aT : Int) (aV : ByteArray) (a1 : Int) (r : Int) (w : World) (h : dD.f k aU aT aV a1 = some r) :
  Calls Try.prog 15 #[.agg #[.int .i64 aU, .int .i64 aT, .string aV], .int .i64 a1] w fun e w' => e = .returned (.int .u64 r) ∧ Below w.heap.size w w' := by
 have vI := Try.underlying23; have HB := ah.mk (Below.refl w.heap.size w); have H := h; clear h
 dsimp only [dD.f] at H
 obtain ⟨y184, M9⟩ : ∃ y_ : List (S23), y_ = (([(⟨aU, aT, aV⟩ : S23)] : List (S23))) := ⟨_, rfl⟩; replace H : ((bn.f k y184).bind fun zL => (if zL.size ≤ 9223372036854775807 then (if (bytesOf zL).length < 140737488355328 then ((some ((bytesOf zL) ++ [(a1) % 256] : List Int)).bind fun vQ => (dD.l0 k 14695981039346656037 vQ (vQ.length : Int) 0)) else (none)) else (none))) = some r := by first | (rw [M9]; with_reducible exact H) | (have H2_ := (Option.bind_some _ _).symm.trans H; rw [M9]; with_reducible exact H2_) | (have H2_ := (Option.bind_some _ _).symm.trans H; with_reducible exact H2_) | with_reducible exact H | (rw [M9]; exact H) | exact H
 have Ny184 := ah.mk M9; clear M9; replace H := Option.bind_eq_some_iff.mp H; obtain ⟨zL, A30, H⟩ := H; have A3 := ah.mk A30; clear A30
 by_cases c4 : zL.size ≤ 9223372036854775807
 ·rw [if_pos c4] at H; have lG := eq_true c4; have c4b1 : decide (zL.size ≤ 9223372036854775807) = true := decide_eq_true c4
  try have c4b2 : (9223372036854775807 < zL.size) = False := eq_false (Nat.not_lt.2 c4)
  clear c4
  by_cases c5 : (bytesOf zL).length < 140737488355328
  ·rw [if_pos c5] at H; have LMc5 := ah.mk c5; clear c5; obtain ⟨vQ, M8⟩ : ∃ y_ : List Int, y_ = ((bytesOf zL) ++ [(a1) % 256]) := ⟨_, rfl⟩; replace H : (dD.l0 k 14695981039346656037 vQ (vQ.length : Int) 0) = some r := by first | (rw [M8]; with_reducible exact H) | (have H2_ := (Option.bind_some _ _).symm.trans H; rw [M8]; with_reducible exact H2_) | (have H2_ := (Option.bind_some _ _).symm.trans H; with_reducible exact H2_) | with_reducible exact H | (rw [M8]; exact H) | exact H
   have Ny190 := ah.mk M8; clear M8; have H' := ah.mk H; clear H
   go_enter Try.func15, Try.ntmps15
   go_wp2_with (first | ((with_reducible refine bE (N := 2) rfl ?_); refine bC ?hg (N := 2) ?hd (cs := #[.int .i64 aU, .int .i64 aT, .string aV]) (t := 23) ?hr ?_; (case hd => rfl); (case hg => rfl); (case hr => first | (go_simp; done) | (go_simp; rfl)); intro au hg w6 bK hb; have ak := ah.mk (bK); have fO := ah.mk ((zz0 : w.heap.size ≤ au)); have fF := ah.mk ((zz0 : w.heap.size ≤ au)); replace HB := ah.mk (av zz1 hb); clear hb bK hg; have vL : w6.cell? ⟨au, 0, none⟩ = some (.int .i64 aU) := cK ak 0; have vK : w6.cell? ⟨au, 1, none⟩ = some (.int .i64 aT) := cK ak 1; have yD : w6.cell? ⟨au, 2, none⟩ = some (.string aV) := cK ak 2; have yB := aj ak.out 0; have vJ := aj ak.out 1; have yA := aj ak.out 2) | ((with_reducible refine bE (N := 9) rfl ?_); refine Kd.Dw k23 _ 23 ?hg (N := 9) ?hd (xs := ([(⟨aU, aT, aV⟩ : S23)] : List (S23))) (inner := [.int .i64 aU, .int .i64 aT, .string aV]) (ok := fun _ => True) (okp := fun _ => True) ?hr ?hp (fun _ hk => hk) trivial (Below.refl _ _) (Nat.le_refl _) (by simp) ?_; (case hd => rfl); (case hg => rfl); (case hr => first | (go_simp; done) | (go_simp; rfl)); (case hp => exact (iq.c3 (show Kd.M k23 _ _ _ (⟨aU, aT, aV⟩ : S23) [.int .i64 aU, .int .i64 aT, .string aV] from (sF _ _ _ (⟨aU, aT, aV⟩ : S23) )) (iq.none _ _))); intro v185 w8 ho9 hb hg_ mh; clear hg_ mh; (first | rw [← Ny184.out] at ho9 | (simp only [Int.reduceToNat] at ho9; rw [← Ny184.out] at ho9)); have jy := ah.mk (Kd.jC (Kd.QF ho9 (g := au) (o := .cells #[.int .i64 aU, .int .i64 aT, .string aV] 23 (0, 0)) zz4) (bS zz5)); replace ak := ah.mk (aG (g := au) (o := .cells #[.int .i64 aU, .int .i64 aT, .string aV] 23 (0, 0)) zz4 hb); replace HB := ah.mk (av zz5 hb); clear hb ho9; obtain ⟨Ao10, co10, eo10⟩ := Kd.fH jy.out; subst eo10) | ((with_reducible refine aN (f := 47) rfl ?_); refine bU (some 10) rfl rfl Try.func47 (by kernel_rfl) rfl #[.slice Ao10 y184.length co10] rfl zz8 ?_; (with_reducible refine (bn.calls k _ _ y184 zL _ ?bO ?bR A3.out).mono ?_); (case bO => repeat (first | exact (Kd.dw jy.out).2.2 | (with_reducible refine Kd.dF ?_ _) | (with_reducible refine Kd.dI ?_ _) | (with_reducible refine Kd.dZ ?_))); (case bR => exact (Kd.dw jy.out).2.1); rintro e w11 ⟨rfl, hb⟩; refine ⟨_, rfl, ?_⟩; replace jy := ah.mk (Kd.gP IG hb); replace ak := ah.mk (aG (g := au) (o := .cells #[.int .i64 aU, .int .i64 aT, .string aV] 23 (0, 0)) zz4 hb); replace HB := ah.mk (av zz5 hb); (try clear hb); (try clear hb2); (try clear hk); (try clear hi)) | ((with_reducible refine bE (N := 11) rfl ?_); refine yw (N := 11) ?hg ?hd 9 71 5 (.tmp 10) ?ho Try.underlying9 Try.underlying71 Try.underlying5 zL ?hx (of_decide_eq_true zz9) (base := w.heap.size) ?hb_ ?_; (case hb_ => exact ((bS zz5))); (case hd => rfl); (case hg => rfl); (case ho => rfl); (case hx => first | rfl | (go_simp; done) | (go_simp; rfl)); intro A189 c189 w12 hc_ hb; replace jy := ah.mk (Kd.gP IG hb); replace ak := ah.mk (aG (g := au) (o := .cells #[.int .i64 aU, .int .i64 aT, .string aV] 23 (0, 0)) zz4 hb); replace HB := ah.mk (av zz5 hb); have Xr := ah.mk hc_; have HC102 := ah.mk hc_.le; clear hb hc_) | ((with_reducible refine iA (b := .append) (xs := #[.tmp 11, .tmp 14]) rfl ?_); at_builtin; refine ER (w0 := w) w.heap.size rfl (.tmp 11) (.tmp 14) 71 5 rfl Try.underlying71 info5 A189 c189 (bytesOf zL) ((a1) % 256) rfl rfl ?aC ?aB ?aS ?aL vQ Ny190.out ?_; (case aC => exact zz38); (case aB => exact zz5); (case aS => exact ((bS zz5))); (case aL => have := LMc5.out; omega); intro A193 c193 w13 hc_ hr_ hb hg; replace ak := ah.mk (iU (g := au) (o := .cells #[.int .i64 aU, .int .i64 aT, .string aV] 23 (0, 0)) zz4 hg (jm.away zz38 zz4)); replace jy := ah.mk (jm.R_over zz38 IG hg); replace HB := ah.mk (hb); clear Xr; have Xq := ah.mk hc_; have HC103 := ah.mk hr_; clear hb hc_ hr_ hg))
   go_loopg [5, 17] k (fun kq v5 v17 w' => ∃ (eT : Int) (uq : Int), v5 = .int .u64 eT ∧ v17 = .int .i64 uq ∧ ah (dD.l0 kq eT vQ (vQ.length : Int) uq = some r) ∧ ah (kq ≤ k) ∧ ah (w'.heap[au]? = some (.cells #[.int .i64 aU, .int .i64 aT, .string aV] 23 (0, 0))) ∧ ah (Kd.C (Kd.int .u8) w' A193 vQ.length vQ) ∧ ah (Below w.heap.size w w'))
   case atStart => exact ⟨(14695981039346656037), (0), zz2, zz2, H', ⟨Nat.le_refl _⟩, ⟨zz4⟩, ⟨zz39⟩, ⟨zz5⟩⟩
   case round =>
    clear H'; (try clear c1); (try clear p2); (try clear c3); (try clear c4); (try clear lG); (try clear c4b1); (try clear c4b2); (try clear c5); (try clear vL); (try clear vK); (try clear yD); (try clear yB); (try clear vJ); (try clear yA); obtain ⟨eT, uq, rfl, rfl, HA, HK1, ak, Xq, HB⟩ := hrel
    cases gk with
    | zero => exact absurd HA.out (by simp [dD.l0])
    | succ k1 =>
     have H := HA.out; clear HA; simp only [dD.l0] at H
     by_cases c14 : uq < (vQ.length : Int)
     ·rw [if_pos c14] at H; have zU : decide (uq < (vQ.length : Int)) = true := decide_eq_true c14; clear c14
      by_cases c15 : 0 ≤ uq
      ·rw [if_pos c15] at H; have H7 : decide (0 ≤ uq) = true := decide_eq_true c15; clear c15
       by_cases c16 : uq < (vQ.length : Int)
       ·rw [if_pos c16] at H; have lU : decide (uq < (vQ.length : Int)) = true := decide_eq_true c16; clear c16; have H' := ah.mk H; clear H; have p194 : 0 ≤ (uq : Int) := of_decide_eq_true zz9; have q194 : uq < (vQ.length : Int) := of_decide_eq_true zz9; obtain ⟨ad194, e194, hx194_0⟩ := Kd.jq zz39 uq p194 q194
        cases e194
        replace p194 := eq_true p194; replace q194 := eq_true q194
        go_wp2
        go_roundg k1
        case measure => have := HK1.out; omega
        case rel => exact ⟨(IntKind.u64.wrap ((Go.bits .xor .u64 eT (IntKind.u64.wrap (rd vQ uq))) * 1099511628211)), (wrap64 (uq + 1)), zz2, zz2, H', ⟨by have := HK1.out; omega⟩, ⟨zz4⟩, ⟨zz39⟩, ⟨zz5⟩⟩
       ·rw [if_neg c16] at H; exact absurd H (by simp)
      ·rw [if_neg c15] at H; exact absurd H (by simp)
     ·rw [if_neg c14] at H; have zU : decide (uq < (vQ.length : Int)) = false := decide_eq_false c14; clear c14; obtain rfl := Option.some.inj H
      go_wp2
      go_ret
      exact ⟨zz6, zz5⟩
  ·rw [if_neg c5] at H; exact absurd H (by simp)
 ·rw [if_neg c4] at H; exact absurd H (by simp)
def bB.l0 : Nat → List Int → Int → Int → ByteArray → ByteArray → Int → Int → Int → Int → Int → Int → ByteArray → Option (List Int)
 | 0, _, _, _, _, _, _, _, _, _, _, _, _ => none
 | k + 1, x5, x8, x9, X8, X7, X6, X5, EY, X4, Rl, Rk, Rj => if x9 < x8 then ((dD.f k Rl Rk Rj x9).bind fun UN => (if (IntKind.u64.wrap (EY)) = 0 then (none) else (if x5.length < 17592186044416 then (bB.l0 k (x5 ++ [wrap64 ((wrap64 (x9 * EY)) + (wrap64 (Int.tmod UN (IntKind.u64.wrap (EY)))))]) x8 (wrap64 (x9 + 1)) X8 X7 X6 X5 EY X4 Rl Rk Rj) else (none)))) else (some x5)
def bB.f (k : Nat) (aU : ByteArray) (aT : ByteArray) (aV : Int) (bH : Int) (bG : Int) (bJ : Int) (gX : Int) (gW : Int) (gV : ByteArray) : Option (List Int) := bB.l0 k ([] : List Int) bJ 0 aU aT aV bH bG bJ gX gW gV
theorem bB.gU : ∀ k, (∀ y0 y1 y2 y3 y4 y5 y6 y7 y8 y9 y10 y11, LeO (bB.l0 k y0 y1 y2 y3 y4 y5 y6 y7 y8 y9 y10 y11) (bB.l0 (k + 1) y0 y1 y2 y3 y4 y5 y6 y7 y8 y9 y10 y11))
 | 0 => fun _ _ _ _ _ _ _ _ _ _ _ _ r h => by simp [bB.l0] at h
 | k + 1 => by
  have ih0 := bB.gU k
  ·intro y0 y1 y2 y3 y4 y5 y6 y7 y8 y9 y10 y11; unfold bB.l0
   repeat' first
   | (with_reducible exact ih0 _ _ _ _ _ _ _ _ _ _ _ _)
   | (with_reducible exact dD.mono _ _ _ _ _)
   | (with_reducible exact LeO.refl _)
   | (with_reducible exact LeO.none _)
   | (with_reducible refine LeO.ite ?_ ?_)
   | (with_reducible refine LeO.bind ?_ (fun _ => ?_))
   | exact ih0 _ _ _ _ _ _ _ _ _ _ _ _
   | exact dD.mono _ _ _ _ _
   | exact LeO.none _
   | refine LeO.ite ?_ ?_
   | refine LeO.bind ?_ (fun _ => ?_)
theorem bB.mono : ∀ a0 a1 a2 a3 a4 a5 a6 a7 a8 k, LeO (bB.f k a0 a1 a2 a3 a4 a5 a6 a7 a8) (bB.f (k + 1) a0 a1 a2 a3 a4 a5 a6 a7 a8) := by
 intro a0 a1 a2 a3 a4 a5 a6 a7 a8 k; have ih0 := bB.gU k; unfold bB.f
 repeat' first
   | (with_reducible exact ih0 _ _ _ _ _ _ _ _ _ _ _ _)
   | (with_reducible exact dD.mono _ _ _ _ _)
   | (with_reducible exact LeO.refl _)
   | (with_reducible exact LeO.none _)
   | (with_reducible refine LeO.ite ?_ ?_)
   | (with_reducible refine LeO.bind ?_ (fun _ => ?_))
   | exact ih0 _ _ _ _ _ _ _ _ _ _ _ _
   | exact dD.mono _ _ _ _ _
   | exact LeO.none _
   | refine LeO.ite ?_ ?_
   | refine LeO.bind ?_ (fun _ => ?_)
def bB.T5 : Bool × List (List Nat × List Nat) := (true, [([], []), ([], []), ([], []), ([2], [2]), ([1, 3], [1, 3]), ([], []), ([], []), ([5, 6], [5, 6]), ([], []), ([8], [8]), ([9], [9]), ([7, 10], [7, 10]), ([11], [11]), ([4, 12], [4, 12]), ([13], [13]), ([0, 14, 7], [0, 14]), ([15, 15, 0, 1, 2, 3, 4, 5, 6, 7, 8, 9, 10, 11, 12, 13, 14, 15], [0, 15])])
def bB.B5 : List Nat := [0, 0, 0, 4, 14, 0, 0, 96, 0, 256, 768, 2016, 4064, 8190, 16382, 32767, 65535]
theorem bB.tab5 : kL .any (opsOf Try.f67 5) = bB.T5 := by kernel_rfl
theorem bB.NR : j5 bB.T5.2 bB.B5 = true := by kernel_rfl
set_option maxHeartbeats 8000000 in
set_option maxRecDepth 100000 in
theorem bB.calls (k : Nat) (aU : ByteArray) (aT : ByteArray) (aV : Int) (bH : Int) (bG : Int) (bJ : Int) (gX : Int) (gW : Int) (gV : ByteArray) (r : List Int) (w : World) (h : bB.f k aU aT aV bH bG bJ gX gW gV = some r) :
  Calls Try.prog 67 #[.agg #[.string aU, .string aT, .int .i64 aV, .int .i64 bH, .int .i64 bG, .int .i64 bJ], .agg #[.int .i64 gX, .int .i64 gW, .string gV]] w fun e w' => ∃ v0_ : Value, e = .returned (v0_) ∧ Kd.R (Kd.int .i64) 3 w' w.heap.size (fun _ => True) v0_ r ∧ Below w.heap.size w w' := by
 have ES := Try.underlying30; have vI := Try.underlying23; have HB := ah.mk (Below.refl w.heap.size w); have H := h; clear h
 dsimp only [bB.f] at H
 have H' := ah.mk H; clear H
 go_enter Try.func67, Try.ntmps67
 go_wp2_with (first | ((with_reducible refine bE (N := 2) rfl ?_); refine bC ?hg (N := 2) ?hd (cs := #[.string aU, .string aT, .int .i64 aV, .int .i64 bH, .int .i64 bG, .int .i64 bJ]) (t := 30) ?hr ?_; (case hd => rfl); (case hg => rfl); (case hr => first | (go_simp; done) | (go_simp; rfl)); intro au hg w3 bK hb; have ak := ah.mk (bK); have fO := ah.mk ((zz0 : w.heap.size ≤ au)); have fF := ah.mk ((zz0 : w.heap.size ≤ au)); replace HB := ah.mk (av zz1 hb); clear hb bK hg) | ((with_reducible refine bE (N := 3) rfl ?_); refine bC ?hg (N := 3) ?hd (cs := #[.int .i64 gX, .int .i64 gW, .string gV]) (t := 23) ?hr ?_; (case hd => rfl); (case hg => rfl); (case hr => first | (go_simp; done) | (go_simp; rfl)); intro aA hg w4 bK hb; have ay := ah.mk (bK); have jD := ah.mk ((jZ : w.heap.size ≤ aA)); have jr := ah.mk ((jZ : w.heap.size ≤ aA)); replace HB := ah.mk (av zz5 hb); have aQ := ah.mk ((DJ : au ≠ aA)); have aY := ah.mk ((DI : aA ≠ au)); replace ak := ah.mk (aG (g := au) (o := .cells #[.string aU, .string aT, .int .i64 aV, .int .i64 bH, .int .i64 bG, .int .i64 bJ] 30 (0, 0)) zz4 hb); clear hb bK hg; have hnb5 := aQ.out; have hnc5 := aY.out; have yF : w4.cell? ⟨au, 0, none⟩ = some (.string aU) := cK ak 0; have yE : w4.cell? ⟨au, 1, none⟩ = some (.string aT) := cK ak 1; have G5 : w4.cell? ⟨au, 2, none⟩ = some (.int .i64 aV) := cK ak 2; have GZ : w4.cell? ⟨au, 3, none⟩ = some (.int .i64 bH) := cK ak 3; have GY : w4.cell? ⟨au, 4, none⟩ = some (.int .i64 bG) := cK ak 4; have GX : w4.cell? ⟨au, 5, none⟩ = some (.int .i64 bJ) := cK ak 5; have DZ := aj ak.out 0; have yC := aj ak.out 1; have GV := aj ak.out 2; have GU := aj ak.out 3; have GR := aj ak.out 4; have GQ := aj ak.out 5))
 go_loopg [5, 9] k (fun kq v5 v9 w' => ∃ (eT : List Int) (jA : Int), v9 = .int .i64 jA ∧ ah (bB.l0 kq eT bJ jA aU aT aV bH bG bJ gX gW gV = some r) ∧ ah (kq ≤ k) ∧ ah (Kd.R (Kd.int .i64) 3 w' w.heap.size (fun _ => True) v5 eT) ∧ ah (w'.heap[au]? = some (.cells #[.string aU, .string aT, .int .i64 aV, .int .i64 bH, .int .i64 bG, .int .i64 bJ] 30 (0, 0))) ∧ ah (w'.heap[aA]? = some (.cells #[.int .i64 gX, .int .i64 gW, .string gV] 23 (0, 0))) ∧ ah (Below w.heap.size w w'))
 case atStart => exact ⟨(([] : List Int)), (0), zz2, H', ⟨Nat.le_refl _⟩, ⟨II⟩, ⟨zz4⟩, ⟨iJ⟩, ⟨fP⟩⟩
 case round =>
  clear H'; (try clear p2); (try clear c5); (try clear c6); (try clear yF); (try clear yE); (try clear G5); (try clear GZ); (try clear GY); (try clear GX); (try clear DZ); (try clear yC); (try clear GV); (try clear GU); (try clear GR); (try clear GQ); obtain ⟨eT, jA, rfl, HA, HK1, r9, ak, ay, HB⟩ := hrel
  cases gk with
  | zero => exact absurd HA.out (by simp [bB.l0])
  | succ k1 =>
   have H := HA.out; clear HA; simp only [bB.l0] at H
   by_cases c7 : jA < bJ
   ·rw [if_pos c7] at H; have qp : decide (jA < bJ) = true := decide_eq_true c7; clear c7; replace H := Option.bind_eq_some_iff.mp H; obtain ⟨UN, A80, H⟩ := H; have A8 := ah.mk A80; clear A80
    by_cases c9 : (IntKind.u64.wrap (bG)) = 0
    ·rw [if_pos c9] at H; exact absurd H (by simp)
    ·rw [if_neg c9] at H; have xH : ((IntKind.u64.wrap (bG)) == 0) = false := beq_eq_false_iff_ne.mpr c9; have c9b1 : ((IntKind.u64.wrap (bG)) != 0) = true := bne_iff_ne.mpr c9
     by_cases c10 : eT.length < 17592186044416
     ·rw [if_pos c10] at H; have LMc10 := ah.mk c10; clear c10; obtain ⟨y198, M7⟩ : ∃ y_ : List Int, y_ = (eT ++ [wrap64 ((wrap64 (jA * bG)) + (wrap64 (Int.tmod UN (IntKind.u64.wrap (bG)))))]) := ⟨_, rfl⟩; replace H : (bB.l0 k1 y198 bJ (wrap64 (jA + 1)) aU aT aV bH bG bJ gX gW gV) = some r := by first | (rw [M7]; with_reducible exact H) | (have H2_ := (Option.bind_some _ _).symm.trans H; rw [M7]; with_reducible exact H2_) | (have H2_ := (Option.bind_some _ _).symm.trans H; with_reducible exact H2_) | with_reducible exact H | (rw [M7]; exact H) | exact H
      have Ny198 := ah.mk M7; clear M7; have H' := ah.mk H; clear H
      try go_wp2
      replace r9 := ah.mk (Kd.gY r9.out); replace ak := ah.mk (aJ ak.out); replace ay := ah.mk (aJ ay.out); replace HB := ah.mk (bL HB.out); refine jB (n := 17) (S := fun w' => w'.cell? ⟨au, 0, none⟩ = some (.string aU) ∧ w'.cell? ⟨au, 1, none⟩ = some (.string aT) ∧ w'.cell? ⟨au, 2, none⟩ = some (.int .i64 aV) ∧ w'.cell? ⟨au, 3, none⟩ = some (.int .i64 bH) ∧ w'.cell? ⟨au, 4, none⟩ = some (.int .i64 bG) ∧ w'.cell? ⟨au, 5, none⟩ = some (.int .i64 bJ) ∧ w'.cell? ⟨aA, 0, none⟩ = some (.int .i64 gX) ∧ w'.cell? ⟨aA, 1, none⟩ = some (.int .i64 gW) ∧ w'.cell? ⟨aA, 2, none⟩ = some (.string gV)) (ds := []) (.replicate 17 false) (by kernel_rfl) rfl rfl ⟨cK ak 0, cK ak 1, cK ak 2, cK ak 3, cK ak 4, cK ak 5, cK ay 0, cK ay 1, cK ay 2⟩ (fun hHeld => ?_); refine iG bB.tab5 bB.NR (fun HT_ HW_ => ?_); generalize wr.drew = w11 at r9 ak ay HB hHeld ⊢; refine pV 0 12 (bA 17 1) HT_ ?_; refine pV 1 13 (bA 17 3) HT_ ?_; refine pV 2 14 (bA 17 7) HT_ ?_; refine pV 6 18 (bA 17 71) HT_ ?_; refine pV 8 20 (bA 17 327) HT_ ?_; refine tV (v := ?_) 3 15 (bA 17 335) HT_ HW_ hHeld ?_ ?_; rotate_left
      ·rintro w' ⟨s0, s1, s2, s3, s4, s5, s6, s7, s8⟩
       go_simp
       (with_reducible rfl)
      refine pV 4 16 (bA 17 351) HT_ ?_; refine tV (v := ?_) 5 17 (bA 17 383) HT_ HW_ hHeld ?_ ?_; rotate_left
      ·rintro w' ⟨s0, s1, s2, s3, s4, s5, s6, s7, s8⟩
       go_simp
       (with_reducible rfl)
      refine tV (v := ?_) 9 21 (bA 17 895) HT_ HW_ hHeld ?_ ?_; rotate_left
      ·rintro w' ⟨s0, s1, s2, s3, s4, s5, s6, s7, s8⟩
       go_simp
       (with_reducible rfl)
      refine pV 10 22 (bA 17 1919) HT_ ?_; refine oN 7 19 (bA 17 2047) HT_ (fun K hK => ?_); refine iy Try.func15 (by kernel_rfl) rfl #[.agg #[.int .i64 gX, .int .i64 gW, .string gV], .int .i64 jA] (by rfl) rfl rfl zz8 ?_; (with_reducible refine (dD.calls k1 gX gW gV jA UN _ A8.out).mono ?_); rintro e w12 ⟨rfl, hb⟩; refine ⟨_, rfl, ?_⟩; replace r9 := ah.mk (Kd.gP zz42 hb); replace ak := ah.mk (aG (g := au) (o := .cells #[.string aU, .string aT, .int .i64 aV, .int .i64 bH, .int .i64 bG, .int .i64 bJ] 30 (0, 0)) zz4 hb); replace ay := ah.mk (aG (g := aA) (o := .cells #[.int .i64 gX, .int .i64 gW, .string gV] 23 (0, 0)) iJ hb); replace HB := ah.mk (av fP hb); (try clear hb); (try clear hb2); (try clear hk); (try clear hi); refine hK.out _ _ ⟨cK ak 0, cK ak 1, cK ak 2, cK ak 3, cK ak 4, cK ak 5, cK ay 0, cK ay 1, cK ay 2⟩ (fun hHeld => ?_); clear hK K; refine iI (a' := ?_) ?_ ?_; rotate_left
      ·show Act.put _ (some 19) _ = _
       simp only [Act.put, List.setIfInBounds_toArray, List.set_cons_zero, List.set_cons_succ, dS, eP]
       rfl
      refine pV 11 23 (bA 17 4095) HT_ ?_; refine pV 12 24 (bA 17 8191) HT_ ?_; refine pV 13 25 (bA 17 16383) HT_ ?_; refine oN 14 26 (bA 17 32767) HT_ (fun K hK => ?_); refine rW (w1 := ?_) (v := ?_) (by rfl) rfl ?_ ?_; rotate_left 2
      ·go_simp
       constructor
       ·rfl
       ·rfl
      refine hK.out _ _ ⟨(jI (aI ak.out _) 0).trans rfl, (jI (aI ak.out _) 1).trans rfl, (jI (aI ak.out _) 2).trans rfl, (jI (aI ak.out _) 3).trans rfl, (jI (aI ak.out _) 4).trans rfl, (jI (aI ak.out _) 5).trans rfl, (jI (aI ay.out _) 0).trans rfl, (jI (aI ay.out _) 1).trans rfl, (jI (aI ay.out _) 2).trans rfl⟩ (fun hHeld => ?_); clear hK K; refine iI (a' := ?_) ?_ ?_; rotate_left
      ·show Act.put _ (some 26) _ = _
       simp only [Act.put, List.setIfInBounds_toArray, List.set_cons_zero, List.set_cons_succ, dS, eP]
       rfl
      refine oN 15 27 (bA 17 65535) HT_ (fun K hK => ?_); refine Kd.zV (Kd.int .i64) (w0 := w) w.heap.size (by rfl) (.tmp 12) (.tmp 26) 28 3 (.int .i64 0) 8 rfl Try.underlying28 info3 rfl (by decide) (by omega) u5 eT (wrap64 ((wrap64 (jA * bG)) + (wrap64 (Int.tmod UN (IntKind.u64.wrap (bG)))))) [.int .i64 (wrap64 ((wrap64 (jA * bG)) + (wrap64 (Int.tmod UN (IntKind.u64.wrap (bG))))))] (fun _ => True) (fun _ => False) rfl rfl ?aP (fun _ hk => hk.elim) ?aF ?aO ?aB ?aS ?aL ?_; (case aP => exact rfl); (case aB => exact fP); (case aF => exact (fun _ _ => trivial)); (case aO => exact zz42); (case aS => exact (bS fP)); (case aL => have := LMc10.out; omega); intro v199 w13 ho hb hg hat; rw [← Ny198.out] at ho; replace ak := ah.mk (iU (g := au) (o := .cells #[.string aU, .string aT, .int .i64 aV, .int .i64 bH, .int .i64 bG, .int .i64 bJ] 30 (0, 0)) zz4 hg (Kd.qP r9.out ak.out (by decide))); replace ay := ah.mk (iU (g := aA) (o := .cells #[.int .i64 gX, .int .i64 gW, .string gV] 23 (0, 0)) iJ hg (Kd.qP r9.out ay.out (by decide))); replace HB := ah.mk (hb); have iT := ah.mk (ho); clear r9; clear ho hb hg hat; refine hK.out _ _ ⟨cK ak 0, cK ak 1, cK ak 2, cK ak 3, cK ak 4, cK ak 5, cK ay 0, cK ay 1, cK ay 2⟩ (fun hHeld => ?_); clear hK K; refine iI (a' := ?_) ?_ ?_; rotate_left
      ·show Act.put _ (some 27) _ = _
       simp only [Act.put, List.setIfInBounds_toArray, List.set_cons_zero, List.set_cons_succ, dS, eP]
       rfl
      refine pV 16 5 (bA 17 131071) HT_ ?_; refine kX (j6 HT_.out (by kernel_rfl)) ?_
      try go_wp2
      go_roundg k1
      case measure => have := HK1.out; omega
      case rel => exact ⟨(y198), (wrap64 (jA + 1)), zz2, H', ⟨by have := HK1.out; omega⟩, ⟨N8⟩, ⟨zz4⟩, ⟨iJ⟩, ⟨fP⟩⟩
     ·rw [if_neg c10] at H; exact absurd H (by simp)
   ·rw [if_neg c7] at H; have qp : decide (jA < bJ) = false := decide_eq_false c7; clear c7; obtain rfl := Option.some.inj H
    go_wp2
    go_ret
    exact ⟨_, zz6, zz42, fP⟩
def jl.f (l0 : List Int) : Option (List Int) := if l0.length < 4611686018427387904 then some (l0.mergeSort fun x y => decide (x ≤ y)) else none
theorem jl.calls (P0_ : Nat → Prop) (nV : Value) (l0 : List Int) (r : List Int) (w0 w : World) (hB : Below w0.heap.size w0 w) (ho0 : Kd.R (Kd.int .i64) 2 w w0.heap.size P0_ nV l0) (h : jl.f l0 = some r) :
  Calls Try.prog 100 #[nV] w fun e w' => e = .returned (.tuple #[]) ∧ Kd.R (Kd.int .i64) 2 w' w0.heap.size (fun k_ => (P0_ k_ ∨ w.heap.size ≤ k_)) nV r ∧ Below w0.heap.size w0 w' ∧ Kept w w' (fun k_ => P0_ k_) := by
 unfold jl.f at h
 split at h
 ·rename_i hlt
  injection h with h; subst h
  rcases Es ho0 with ⟨rfl, rfl⟩ | ⟨g, c, cur, rfl, hb, h3, h4, h5, h6, h7⟩
  ·refine (AnyG.slices_Sort_int_none Try.lsort64 none 0 w).mono ?_; rintro e w' ⟨rfl, rfl⟩; exact ⟨rfl, by simpa using Kd.EF _ _ _ _ _, hB, Kept.refl _ _⟩
  ·have hglt : g < w.heap.size := (Array.getElem?_eq_some_iff.1 h3).1; have hok : P0_ g := ho0.1 g rfl; refine (AnyG.slices_Sort_int Try.lsort64 g 0 c l0 w (Gw h3 h7) hglt hlt).mono ?_; rintro e w' ⟨rfl, q, os, rfl⟩; have hl : (l0.mergeSort fun x y => decide (x ≤ y)).length = l0.length := List.length_mergeSort _; obtain ⟨h8, h9, h10⟩ := Mv hb hok h3 h4 h5 h6 hl (Nat.le_of_eq hl.symm) q os; refine ⟨rfl, ?_, h9 w0 hB hb, h10.mono (by rintro k rfl; exact hok)⟩; rw [← hl, List.take_length] at h8; rw [← hl]; exact h8
 ·cases h
def iN.f (l0 : List Int) : Option (List Int) := some (Lib.compact l0)
theorem iN.calls (P0_ : Nat → Prop) (nV : Value) (l0 : List Int) (r : List Int) (w0 w : World) (hB : Below w0.heap.size w0 w) (ho0 : Kd.R (Kd.int .i64) 2 w w0.heap.size P0_ nV l0) (h : iN.f l0 = some r) :
  Calls Try.prog 101 #[nV] w fun e w' => ∃ v0_ : Value, e = .returned (v0_) ∧ Kd.R (Kd.int .i64) 2 w' w0.heap.size (fun k_ => (P0_ k_ ∨ w.heap.size ≤ k_)) v0_ r ∧ Below w0.heap.size w0 w' ∧ Kept w w' (fun k_ => P0_ k_) := by
 unfold iN.f at h; injection h with h; subst h
 rcases Es ho0 with ⟨rfl, rfl⟩ | ⟨g, c, cur, rfl, hb, h3, h4, h5, h6, h7⟩
 ·refine (AnyG.slices_Compact_int_empty Try.lcompact64 none 0 w).mono ?_; rintro e w' ⟨rfl, rfl⟩; exact ⟨_, rfl, Kd.EF _ _ _ _ _, hB, Kept.refl _ _⟩
 ·have hok : P0_ g := ho0.1 g rfl; refine (AnyG.slices_Compact_int Try.lcompact64 g 0 c l0 w (Gw h3 h7) (by simp only [maxLen] at h5; omega) h4).mono ?_; rintro e w' ⟨rfl, q, rfl⟩; have hle := Lib.compact_length_le l0; have hl : (Lib.compact l0 ++ List.replicate (l0.length - (Lib.compact l0).length) (0 : Int)).length = l0.length := by simp; omega
  obtain ⟨h8, h9, h10⟩ := Mv (n := (Lib.compact l0).length) hb hok h3 h4 h5 h6 hl (by omega) q #[]; rw [Go.Sort.grow_empty] at h8 h9 h10; refine ⟨_, rfl, ?_, h9 w0 hB hb, h10.mono (by rintro k rfl; exact hok)⟩; rw [List.take_left] at h8; exact h8
def jc.f (l0 : List Int) (a1 : Int) : Option (List Int) := (jl.f l0).bind fun t201 => ((iN.f t201).bind fun yj => (if 0 ≤ (mn (yj.length : Int) a1) then (if (mn (yj.length : Int) a1) ≤ (yj.length : Int) then (some (yj.take ((mn (yj.length : Int) a1) : Int).toNat)) else (none)) else (none)))
set_option maxHeartbeats 8000000 in
set_option maxRecDepth 100000 in
theorem jc.calls (P0_ : Nat → Prop) (nV : Value) (l0 : List Int) (a1 : Int) (r : List Int) (w0 w : World) (hB : Below w0.heap.size w0 w) (ho0 : Kd.R (Kd.int .i64) 2 w w0.heap.size P0_ nV l0) (h : jc.f l0 a1 = some r) :
  Calls Try.prog 70 #[nV, .int .i64 a1] w fun e w' => ∃ v0_ : Value, e = .returned (v0_) ∧ Kd.R (Kd.int .i64) 2 w' w0.heap.size (fun k_ => (P0_ k_ ∨ w.heap.size ≤ k_)) v0_ r ∧ Below w0.heap.size w0 w' ∧ Kept w w' (fun k_ => P0_ k_) := by
 have HO0 := ah.mk (show Kd.R (Kd.int .i64) 2 w w0.heap.size (fun k_ => (P0_ k_ ∨ w.heap.size ≤ k_)) nV l0 from Kd.eO ho0 (fun k_ hk => (.inl hk))); have HK := ah.mk (Kept.refl w (fun k_ => P0_ k_)); have HW0 := ah.mk hB.size; have HB := ah.mk hB; clear hB; have H := h; clear h
 dsimp only [jc.f] at H
 replace H := Option.bind_eq_some_iff.mp H; obtain ⟨t201, A30, H⟩ := H; have A3 := ah.mk A30; clear A30; replace H := Option.bind_eq_some_iff.mp H; obtain ⟨yj, A40, H⟩ := H; have A4 := ah.mk A40; clear A40; obtain ⟨ji5, GK⟩ : ∃ j_ : Int, (mn (yj.length : Int) a1) = j_ := ⟨_, rfl⟩; replace H : (if 0 ≤ (ji5) then (if (ji5) ≤ (yj.length : Int) then (some (yj.take ((ji5) : Int).toNat)) else (none)) else (none)) = some r := by first | (rw [GK] at H; exact H) | (simp only [GK] at H ⊢; exact H)
 (try rw [GK] at A3); (try rw [GK] at A4); have hji5_ : (if a1 < (yj.length : Int) then a1 else (yj.length : Int)) = ji5 := GK
 by_cases c6 : 0 ≤ (ji5)
 ·rw [if_pos c6] at H; have uR := eq_true c6; have Hz : decide (0 ≤ (ji5)) = true := decide_eq_true c6; clear c6
  by_cases c7 : (ji5) ≤ (yj.length : Int)
  ·rw [if_pos c7] at H; have qp := eq_true c7; have Nz : decide ((ji5) ≤ (yj.length : Int)) = true := decide_eq_true c7; clear c7; obtain ⟨y205, M6⟩ : ∃ y_ : List Int, y_ = (yj.take ((ji5) : Int).toNat) := ⟨_, rfl⟩; replace H : (some y205) = some r := by first | (rw [M6]; with_reducible exact H) | (have H2_ := (Option.bind_some _ _).symm.trans H; rw [M6]; with_reducible exact H2_) | (have H2_ := (Option.bind_some _ _).symm.trans H; with_reducible exact H2_) | with_reducible exact H | (rw [M6]; exact H) | exact H
   have Ny205 := ah.mk M6; clear M6; obtain rfl := Option.some.inj H; obtain ⟨Ao8, co8, eo8⟩ := Kd.fH HO0.out; subst eo8
   go_enter Try.func70, Try.ntmps70
   go_wp2_with (first | ((with_reducible refine aN (f := 100) rfl ?_); refine bU (some 6) rfl rfl Try.func100 (by kernel_rfl) rfl #[.slice Ao8 l0.length co8] rfl zz8 ?_; (with_reducible refine (jl.calls (fun k_ => some k_ = (.slice Ao8 l0.length co8 : Value).ownBlock) (.slice Ao8 l0.length co8) l0 t201 w0 _ ?bO ?bR A3.out).mono ?_); (case bO => repeat (first | (with_reducible first | exact HB.out | apply dB | apply cO | apply bL) | exact HB.out)); (case bR => exact Kd.o7 rfl HO0.out); rintro e w9 ⟨rfl, hy0, hb, hkp⟩; refine ⟨_, rfl, ?_⟩; replace HK := ah.mk (Kept.then_ (S := (fun k_ => P0_ k_)) zz43 hkp (fun k_ hs_ => (fun e_ => (HO0.out.1 k_ e_.symm)) hs_)); replace HO0 := ah.mk (Kd.R_reok rfl hy0 (fun k_ e_ => HO0.out.1 k_ e_)); replace HB := ah.mk (hb); (try clear hb); (try clear hkp); (try clear hy0)) | ((with_reducible refine aN (f := 101) rfl ?_); refine bU (some 8) rfl rfl Try.func101 (by kernel_rfl) rfl #[.slice Ao8 l0.length co8] rfl zz8 ?_; (with_reducible refine (iN.calls (fun k_ => some k_ = (.slice Ao8 l0.length co8 : Value).ownBlock) (.slice Ao8 l0.length co8) t201 yj w0 _ ?bO ?bR A4.out).mono ?_); (case bO => repeat (first | (with_reducible first | exact HB.out | apply dB | apply cO | apply bL) | exact HB.out)); (case bR => exact Kd.o7 rfl HO0.out); rintro e w10 ⟨v203, rfl, ho0, hb, hkp⟩; refine ⟨_, rfl, ?_⟩; have lD := ah.mk (Kd.eO (ok' := fun k_ => (P0_ k_ ∨ w.heap.size ≤ k_)) ho0 (fun k_ hk_ => Or.elim hk_ (fun hs_ => (HO0.out.1 k_ (hs_).symm)) (fun hn_ => (.inr (Nat.le_trans (by first | exact HK.out.1 | exact (show Kept w _ (fun k_ => P0_ k_) from by repeat (first | (with_reducible first | exact HK.out | apply Kept.alloc | apply Kept.drewN | apply Kept.drew) | exact HK.out)).1) hn_))))); replace HK := ah.mk (Kept.then_ (S := (fun k_ => P0_ k_)) zz43 hkp (fun k_ hs_ => (fun e_ => (HO0.out.1 k_ e_.symm)) hs_)); replace HB := ah.mk (hb); clear HO0; (try clear hb); (try clear hkp); (try clear ho0); obtain ⟨Ao11, co11, eo11⟩ := Kd.fH lD.out; subst eo11; have q12 : ((ji5) : Int) ≤ ((yj.length : Int) : Int) := of_decide_eq_true zz9; obtain ⟨i012, hi012, _, hsz12, _⟩ := info_parts GI; have hcut12 := Wv (P := Try.prog) 31 2 .i64 Try.underlying31 hi012 Ao11 yj.length co11 (ji5) (of_decide_eq_true zz9) q12 (Kd.dw lD.out).2.1; have hr12 := Kd.R_take (m := ((ji5) : Int).toNat) lD.out (by omega); have hy12 : y205.length = ((ji5) : Int).toNat := (by rw [Ny205.out, List.length_take]; omega); rw [← Ny205.out] at hr12; rw [← hy12] at hr12 hcut12; clear hy12 hi012 hsz12 lD; have jy := ah.mk hr12; clear hr12; replace q12 := eq_true q12))
   go_ret
   exact ⟨_, by first | rfl | (simp [gK, gJ] <;> rfl) | (simp only [← GK]; first | rfl | (simp [gK, gJ] <;> rfl)) | (simp [*, gK, gJ] <;> rfl), IG, zz1, zz43⟩
  ·rw [if_neg c7] at H; exact absurd H (by simp)
 ·rw [if_neg c6] at H; exact absurd H (by simp)
end Go.Proofs.Ythicocmnefaioaa.QS

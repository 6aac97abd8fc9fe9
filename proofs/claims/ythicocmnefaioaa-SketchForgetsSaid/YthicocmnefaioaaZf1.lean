import Derived.Test.YthicocmnefaioaaZf0
namespace Go.Proofs.Ythicocmnefaioaa.QS
open Go.RowKit Go.Proofs.YthicocmnefaioaaW.PrintWords Go.Proofs.YthicocmnefaioaaW.PrintLast Go.Proofs.YthicocmnefaioaaW.PrintMore
open Go.Proofs.YthicocmnefaioaaW.Sq
attribute [local go_sem] max2_int min2_int max_two min_two max_three min_three max_four min_four
set_option linter.unusedVariables false
set_option linter.unusedSimpArgs false
attribute [local go_sem high] own_string_gtr
def bag_Valid.l0 : Nat → List (S51) → List (S51) → Int → Int → Option (Bool)
 | 0, _, _, _, _ => none
 | k + 1, x0, x5, x6, x7 => if x7 < x6 then (if 0 ≤ x7 then (if x7 < (x5.length : Int) then ((bag_entryFits.f k ((rd_T51 x5 x7).f0) ((rd_T51 x5 x7).f1)).bind fun t138 => (if t138 = true then (if ((rd_T51 x5 x7).f1) = 0 then (some false) else (if x7 > 0 then (if 0 ≤ (wrap64 (x7 - 1)) then (if (wrap64 (x7 - 1)) < (x0.length : Int) then ((value_CompareRows.f k ((rd_T51 x0 (wrap64 (x7 - 1))).f0) ((rd_T51 x5 x7).f0)).bind fun t140 => (if t140 ≥ 0 then (some false) else (bag_Valid.l0 k x0 x5 x6 (wrap64 (x7 + 1))))) else (none)) else (none)) else (bag_Valid.l0 k x0 x5 x6 (wrap64 (x7 + 1))))) else (some false))) else (none)) else (none)) else (some (decide ((x0.length : Int) ≤ 4096)))
def bag_Valid.f (k : Nat) (l0 : List (S51)) : Option (Bool) := bag_Valid.l0 k l0 l0 (l0.length : Int) 0
theorem bag_Valid.mono_l : ∀ k, (∀ y0 y1 y2 y3, LeO (bag_Valid.l0 k y0 y1 y2 y3) (bag_Valid.l0 (k + 1) y0 y1 y2 y3))
 | 0 => fun _ _ _ _ r h => by simp [bag_Valid.l0] at h
 | k + 1 => by
  have ih0 := bag_Valid.mono_l k
  ·intro y0 y1 y2 y3; unfold bag_Valid.l0
   repeat' first
   | (with_reducible exact ih0 _ _ _ _)
   | (with_reducible exact bag_entryFits.mono _ _ _)
   | (with_reducible exact value_CompareRows.mono _ _ _)
   | (with_reducible exact LeO.refl _)
   | (with_reducible exact LeO.none _)
   | (with_reducible refine LeO.ite ?_ ?_)
   | (with_reducible refine LeO.bind ?_ (fun _ => ?_))
   | exact ih0 _ _ _ _
   | exact bag_entryFits.mono _ _ _
   | exact value_CompareRows.mono _ _ _
   | exact LeO.none _
   | refine LeO.ite ?_ ?_
   | refine LeO.bind ?_ (fun _ => ?_)
theorem bag_Valid.mono : ∀ a0 k, LeO (bag_Valid.f k a0) (bag_Valid.f (k + 1) a0) := by
 intro a0 k; have ih0 := bag_Valid.mono_l k; unfold bag_Valid.f
 repeat' first
   | (with_reducible exact ih0 _ _ _ _)
   | (with_reducible exact bag_entryFits.mono _ _ _)
   | (with_reducible exact value_CompareRows.mono _ _ _)
   | (with_reducible exact LeO.refl _)
   | (with_reducible exact LeO.none _)
   | (with_reducible refine LeO.ite ?_ ?_)
   | (with_reducible refine LeO.bind ?_ (fun _ => ?_))
   | exact ih0 _ _ _ _
   | exact bag_entryFits.mono _ _ _
   | exact value_CompareRows.mono _ _ _
   | exact LeO.none _
   | refine LeO.ite ?_ ?_
   | refine LeO.bind ?_ (fun _ => ?_)
def bag_Valid.T4 : Bool × List (List Nat × List Nat) := (true, [([], []), ([0], [0]), ([1], [1]), ([2, 1], [2]), ([3], [3]), ([4, 3], [3, 4]), ([5, 3], [3, 5]), ([3, 6], [3, 6]), ([7, 3], [7]), ([8], [8]), ([9, 8], [8, 9]), ([10, 8, 8], [8, 10]), ([11], [11]), ([11], [11]), ([13, 11], [11, 13]), ([12, 14, 11], [11, 12, 14]), ([15, 11], [11, 15]), ([16, 11], [11, 16]), ([11], [11]), ([18, 11], [11, 18]), ([17, 19, 11, 11], [11, 17, 19]), ([20, 11], [11, 20]), ([11, 21, 8], [8, 11, 21]), ([8, 22], [8, 22])])
def bag_Valid.B4 : List Nat := [0, 1, 3, 7, 15, 31, 63, 127, 255, 511, 1023, 2047, 4095, 4095, 12287, 32767, 65535, 131071, 4095, 266239, 1048575, 2097151, 4194303, 8388607]
theorem bag_Valid.tab4 : rtab .any (opsOf Try.f94 4) = bag_Valid.T4 := by kernel_rfl
theorem bag_Valid.bits4 : waitsOk bag_Valid.T4.2 bag_Valid.B4 = true := by kernel_rfl
set_option maxHeartbeats 8000000 in
set_option maxRecDepth 100000 in
theorem bag_Valid.calls (k : Nat) (A0 : Option Addr) (c0 : Nat) (l0 : List (S51)) (r : Bool) (w : World) (hr0 : Kd.C k51 w A0 l0.length l0) (hc0 : l0.length ≤ c0) (h : bag_Valid.f k l0 = some r) :
  Calls Try.prog 94 #[.slice A0 l0.length c0] w fun e w' => e = .returned (.bool r) ∧ Below w.heap.size w w' := by
 have hu51 := Try.underlying51; have HR0 := Aside0.mk hr0; have HC0 := Aside0.mk hc0; clear hr0 hc0; have HB := Aside0.mk (Below.refl w.heap.size w); have H : (bag_Valid.l0 k l0 l0 (l0.length : Int) 0) = some r := h; clear h; have H' := Aside0.mk H; clear H
 go_enter Try.func94, Try.ntmps94
 go_wp2
 go_loopg [7] k (fun kq v7 w' => ∃ (x7_1 : Int), v7 = .int .i64 x7_1 ∧ Aside0 (bag_Valid.l0 kq l0 l0 (l0.length : Int) x7_1 = some r) ∧ Aside0 (kq ≤ k) ∧ Aside0 (Below w.heap.size w w'))
 case atStart => exact ⟨(0), zz2, H', ⟨Nat.le_refl _⟩, ⟨zz0⟩⟩
 case round =>
  clear H'; obtain ⟨x7_1, rfl, HA, HK1, HB⟩ := hrel
  cases gk with
  | zero => exact absurd HA.out (by simp [bag_Valid.l0])
  | succ k1 =>
   have H := HA.out; clear HA; simp only [bag_Valid.l0] at H
   by_cases c2 : x7_1 < (l0.length : Int)
   ·rw [if_pos c2] at H; have c2b0 : decide (x7_1 < (l0.length : Int)) = true := decide_eq_true c2; clear c2
    by_cases c3 : 0 ≤ x7_1
    ·rw [if_pos c3] at H; have c3b0 : decide (0 ≤ x7_1) = true := decide_eq_true c3; clear c3
     by_cases c4 : x7_1 < (l0.length : Int)
     ·rw [if_pos c4] at H; have c4b0 : decide (x7_1 < (l0.length : Int)) = true := decide_eq_true c4; clear c4; replace H := Option.bind_eq_some_iff.mp H; obtain ⟨t138, A50, H⟩ := H; replace H : (if t138 = true then (if ((rd_T51 l0 x7_1).f1) = 0 then (some false) else (if x7_1 > 0 then (if 0 ≤ (wrap64 (x7_1 - 1)) then (if (wrap64 (x7_1 - 1)) < (l0.length : Int) then ((value_CompareRows.f k1 ((rd_T51 l0 (wrap64 (x7_1 - 1))).f0) ((rd_T51 l0 x7_1).f0)).bind fun t140 => (if t140 ≥ 0 then (some false) else (bag_Valid.l0 k1 l0 l0 (l0.length : Int) (wrap64 (x7_1 + 1))))) else (none)) else (none)) else (bag_Valid.l0 k1 l0 l0 (l0.length : Int) (wrap64 (x7_1 + 1))))) else (some false)) = some r := H; have A5 := Aside0.mk A50; clear A50
      by_cases c6 : t138 = true
      ·subst c6; have H1 : (if ((rd_T51 l0 x7_1).f1) = 0 then (some false) else (if x7_1 > 0 then (if 0 ≤ (wrap64 (x7_1 - 1)) then (if (wrap64 (x7_1 - 1)) < (l0.length : Int) then ((value_CompareRows.f k1 ((rd_T51 l0 (wrap64 (x7_1 - 1))).f0) ((rd_T51 l0 x7_1).f0)).bind fun t140 => (if t140 ≥ 0 then (some false) else (bag_Valid.l0 k1 l0 l0 (l0.length : Int) (wrap64 (x7_1 + 1))))) else (none)) else (none)) else (bag_Valid.l0 k1 l0 l0 (l0.length : Int) (wrap64 (x7_1 + 1))))) = some r := by rw [if_pos rfl] at H; exact H
       clear H; have H := H1; clear H1
       by_cases c7 : ((rd_T51 l0 x7_1).f1) = 0
       ·rw [if_pos c7] at H; have c7b0 : (((rd_T51 l0 x7_1).f1) == 0) = true := beq_iff_eq.mpr c7; have c7b1 : (((rd_T51 l0 x7_1).f1) != 0) = false := bne_eq_false_iff_eq.mpr c7; clear c7; obtain rfl := Option.some.inj H; have p136 : 0 ≤ (x7_1 : Int) := of_decide_eq_true zz9; have q136 : x7_1 < (l0.length : Int) := of_decide_eq_true zz9; obtain ⟨ad136, A136_0, c136_0, e136, hx136_0, hx136_1, hl136_0, hi136_0⟩ := at_T51 HR0.out x7_1 p136 q136
        cases e136
        replace hx136_0 := cB HB hx136_0; replace hx136_1 := cB HB hx136_1; have HR100_0 := Aside0.mk hi136_0; have HC100_0 := Aside0.mk hl136_0; clear hi136_0 hl136_0; replace p136 := eq_true p136; replace q136 := eq_true q136
        try go_wp2_with (first | ((with_reducible refine gate_dst (N := 4) rfl ?_); refine box_event ?hg (N := 4) ?hd (cs := #[.slice none 0 0, .int .i64 0]) (t := 51) ?hr ?_; (case hd => rfl); (case hg => rfl); (case hr => first | (go_simp; done) | (go_simp; rfl)); intro gb101 hg w8 hbox hb; have n0_ := Aside0.mk (below_step zz0 hb); have n1_ := Aside0.mk (hbox); have n2_ := Aside0.mk ((zz1 : w.heap.size ≤ gb101)); have n3_ := Aside0.mk ((zz1 : w.heap.size ≤ gb101)); clear HB; have HB := n0_; have BK101 := n1_; have GW101 := n2_; have GE101 := n3_; clear n0_ n1_ n2_ n3_; clear hb hbox hg; have hcz9_0 : w8.cell? ⟨gb101, 0, none⟩ = some (.slice none 0 0) := cK BK101 0; have hcz9_1 : w8.cell? ⟨gb101, 1, none⟩ = some (.int .i64 0) := cK BK101 1; have hfz9_0 := blk_frozen BK101.out 0; have hfz9_1 := blk_frozen BK101.out 1))
        have n0_ : Aside0 (((w8.setCell ⟨gb101, 0, none⟩ (.slice A136_0 ((rd_T51 l0 x7_1).f0).length c136_0)).setCell ⟨gb101, 1, none⟩ (.int .i64 ((rd_T51 l0 x7_1).f1))).heap[gb101]? = some (.cells #[.slice A136_0 ((rd_T51 l0 x7_1).f0).length c136_0, .int .i64 ((rd_T51 l0 x7_1).f1)] 51 (0, 0))) := ⟨zz21⟩; have n1_ : Aside0 (Below w.heap.size w ((w8.setCell ⟨gb101, 0, none⟩ (.slice A136_0 ((rd_T51 l0 x7_1).f0).length c136_0)).setCell ⟨gb101, 1, none⟩ (.int .i64 ((rd_T51 l0 x7_1).f1)))) := ⟨zz22⟩; (try clear BK101); (try clear HB); generalize ((w8.setCell ⟨gb101, 0, none⟩ (.slice A136_0 ((rd_T51 l0 x7_1).f0).length c136_0)).setCell ⟨gb101, 1, none⟩ (.int .i64 ((rd_T51 l0 x7_1).f1))) = w10 at n0_ n1_ ⊢; have BK101 := n0_; have HB := n1_; clear n0_ n1_; have n0_ := Aside0.mk (blk_drew BK101.out); have n1_ := Aside0.mk (below_drew1 HB.out); clear BK101; clear HB; have BK101 := n0_; have HB := n1_; clear n0_ n1_; refine start_ (n := 24) (S := fun w' => w'.cell? ⟨gb101, 0, none⟩ = some (.slice A136_0 ((rd_T51 l0 x7_1).f0).length c136_0) ∧ w'.cell? ⟨gb101, 1, none⟩ = some (.int .i64 ((rd_T51 l0 x7_1).f1))) (ds := []) (.replicate 24 false) (by kernel_rfl) rfl rfl ⟨cK BK101 0, cK BK101 1⟩ (fun hHeld => ?_); refine with_tabW bag_Valid.tab4 bag_Valid.bits4 (fun HT_ HW_ => ?_); generalize w10.drew = w11 at BK101 HB hHeld ⊢; refine tV (v := ?_) 0 12 (bA 24 1) HT_ HW_ hHeld ?_ ?_; rotate_left
        ·rintro w' ⟨s0, s1⟩
         go_simp
         (with_reducible rfl)
        refine oN 1 13 (bA 24 3) HT_ (fun K hK => ?_); refine goes_ Try.func115 (by kernel_rfl) rfl #[.agg #[.slice A136_0 ((rd_T51 l0 x7_1).f0).length c136_0, .int .i64 ((rd_T51 l0 x7_1).f1)]] (by rfl) rfl rfl zz8 ?_; (with_reducible refine (bag_entryFits.calls k1 _ _ ((rd_T51 l0 x7_1).f0) ((rd_T51 l0 x7_1).f1) true _ ?side1 ?side2 A5.out).mono ?_); (case side1 => repeat (first | exact (Kd.C_below HR100_0.out HB.out) | (with_reducible refine Kd.C_alloc ?_ _) | (with_reducible refine Kd.C_drewN ?_ _) | (with_reducible refine Kd.C_drew ?_))); (case side2 => exact HC100_0.out); rintro e w12 ⟨rfl, hb⟩; refine ⟨_, rfl, ?_⟩; have n0_ := Aside0.mk (blk_below (g := gb101) (o := .cells #[.slice A136_0 ((rd_T51 l0 x7_1).f0).length c136_0, .int .i64 ((rd_T51 l0 x7_1).f1)] 51 (0, 0)) zz13 hb); have n1_ := Aside0.mk (below_step zz22 hb); clear BK101; clear HB; have BK101 := n0_; have HB := n1_; clear n0_ n1_; (try clear hb); (try clear hb2); (try clear hk); (try clear hi); refine hK.out _ _ ⟨cK BK101 0, cK BK101 1⟩ (fun hHeld => ?_); clear hK K; refine norm_ (a' := ?_) ?_ ?_; rotate_left
        ·show Act.put _ (some 13) _ = _
         simp only [Act.put, List.setIfInBounds_toArray, List.set_cons_zero, List.set_cons_succ, i64_w, i32_w]
         rfl
        refine pV 2 14 (bA 24 7) HT_ ?_; refine pV 3 15 (bA 24 15) HT_ ?_; refine pV 4 16 (bA 24 31) HT_ ?_; refine tV (v := ?_) 5 17 (bA 24 63) HT_ HW_ hHeld ?_ ?_; rotate_left
        ·rintro w' ⟨s0, s1⟩
         go_simp
         (with_reducible rfl)
        refine pV 6 18 (bA 24 127) HT_ ?_; refine pV 7 19 (bA 24 255) HT_ ?_; refine pV 8 20 (bA 24 511) HT_ ?_; refine pU 9 21 (bA 24 1023) HT_ ?_; refine pU 10 22 (bA 24 2047) HT_ ?_; refine pU 11 23 (bA 24 4095) HT_ ?_; refine pU 12 24 (bA 24 8191) HT_ ?_; refine pU 13 25 (bA 24 16383) HT_ ?_; refine pU 14 26 (bA 24 32767) HT_ ?_; refine pU 15 27 (bA 24 65535) HT_ ?_; refine pU 16 28 (bA 24 131071) HT_ ?_; refine pU 17 29 (bA 24 262143) HT_ ?_; refine pU 18 30 (bA 24 524287) HT_ ?_; refine pU 19 31 (bA 24 1048575) HT_ ?_; refine pU 20 32 (bA 24 2097151) HT_ ?_; refine pU 21 33 (bA 24 4194303) HT_ ?_; refine pU 22 34 (bA 24 8388607) HT_ ?_; refine pV 23 35 (bA 24 16777215) HT_ ?_; refine done_ (done_of HT_.out (by kernel_rfl)) ?_
        try go_wp2
        go_ret
        exact ⟨zz6, zz22⟩
       ·rw [if_neg c7] at H; have c7b0 : (((rd_T51 l0 x7_1).f1) == 0) = false := beq_eq_false_iff_ne.mpr c7; have c7b1 : (((rd_T51 l0 x7_1).f1) != 0) = true := bne_iff_ne.mpr c7
        by_cases c13 : x7_1 > 0
        ·rw [if_pos c13] at H; have c13b0 : decide (0 < x7_1) = true := decide_eq_true c13; clear c13; obtain ⟨ji14, hji14⟩ : ∃ j_ : Int, (wrap64 (x7_1 - 1)) = j_ := ⟨_, rfl⟩; replace H : (if 0 ≤ (ji14) then (if (ji14) < (l0.length : Int) then ((value_CompareRows.f k1 ((rd_T51 l0 (ji14)).f0) ((rd_T51 l0 x7_1).f0)).bind fun t140 => (if t140 ≥ 0 then (some false) else (bag_Valid.l0 k1 l0 l0 (l0.length : Int) (wrap64 (x7_1 + 1))))) else (none)) else (none)) = some r := by first | (rw [hji14] at H; exact H) | (simp only [hji14] at H ⊢; exact H)
         (try rw [hji14] at A5); have hji14w : (IntKind.i64.wrap (x7_1 - 1)) = ji14 := (i64_w _).trans hji14
         by_cases c15 : 0 ≤ (ji14)
         ·rw [if_pos c15] at H; have c15b0 : decide (0 ≤ (ji14)) = true := decide_eq_true c15; clear c15
          by_cases c16 : (ji14) < (l0.length : Int)
          ·rw [if_pos c16] at H; have c16b0 : decide ((ji14) < (l0.length : Int)) = true := decide_eq_true c16; clear c16; replace H := Option.bind_eq_some_iff.mp H; obtain ⟨t140, A170, H⟩ := H; replace H : (if t140 ≥ 0 then (some false) else (bag_Valid.l0 k1 l0 l0 (l0.length : Int) (wrap64 (x7_1 + 1)))) = some r := H; have A17 := Aside0.mk A170; clear A170
           by_cases c18 : t140 ≥ 0
           ·rw [if_pos c18] at H; have c18b0 : decide (0 ≤ t140) = true := decide_eq_true c18; clear c18; obtain rfl := Option.some.inj H; have p136 : 0 ≤ (x7_1 : Int) := of_decide_eq_true zz9; have q136 : x7_1 < (l0.length : Int) := of_decide_eq_true zz9; obtain ⟨ad136, A136_0, c136_0, e136, hx136_0, hx136_1, hl136_0, hi136_0⟩ := at_T51 HR0.out x7_1 p136 q136
            cases e136
            replace hx136_0 := cB HB hx136_0; replace hx136_1 := cB HB hx136_1; have HR100_0 := Aside0.mk hi136_0; have HC100_0 := Aside0.mk hl136_0; clear hi136_0 hl136_0; replace p136 := eq_true p136; replace q136 := eq_true q136
            try go_wp2_with (first | ((with_reducible refine gate_dst (N := 4) rfl ?_); refine box_event ?hg (N := 4) ?hd (cs := #[.slice none 0 0, .int .i64 0]) (t := 51) ?hr ?_; (case hd => rfl); (case hg => rfl); (case hr => first | (go_simp; done) | (go_simp; rfl)); intro gb101 hg w19 hbox hb; have n0_ := Aside0.mk (below_step zz0 hb); have n1_ := Aside0.mk (hbox); have n2_ := Aside0.mk ((zz1 : w.heap.size ≤ gb101)); have n3_ := Aside0.mk ((zz1 : w.heap.size ≤ gb101)); clear HB; have HB := n0_; have BK101 := n1_; have GW101 := n2_; have GE101 := n3_; clear n0_ n1_ n2_ n3_; clear hb hbox hg; have hcz20_0 : w19.cell? ⟨gb101, 0, none⟩ = some (.slice none 0 0) := cK BK101 0; have hcz20_1 : w19.cell? ⟨gb101, 1, none⟩ = some (.int .i64 0) := cK BK101 1; have hfz20_0 := blk_frozen BK101.out 0; have hfz20_1 := blk_frozen BK101.out 1))
            have n0_ : Aside0 (((w19.setCell ⟨gb101, 0, none⟩ (.slice A136_0 ((rd_T51 l0 x7_1).f0).length c136_0)).setCell ⟨gb101, 1, none⟩ (.int .i64 ((rd_T51 l0 x7_1).f1))).heap[gb101]? = some (.cells #[.slice A136_0 ((rd_T51 l0 x7_1).f0).length c136_0, .int .i64 ((rd_T51 l0 x7_1).f1)] 51 (0, 0))) := ⟨zz21⟩; have n1_ : Aside0 (Below w.heap.size w ((w19.setCell ⟨gb101, 0, none⟩ (.slice A136_0 ((rd_T51 l0 x7_1).f0).length c136_0)).setCell ⟨gb101, 1, none⟩ (.int .i64 ((rd_T51 l0 x7_1).f1)))) := ⟨zz22⟩; (try clear BK101); (try clear HB); generalize ((w19.setCell ⟨gb101, 0, none⟩ (.slice A136_0 ((rd_T51 l0 x7_1).f0).length c136_0)).setCell ⟨gb101, 1, none⟩ (.int .i64 ((rd_T51 l0 x7_1).f1))) = w21 at n0_ n1_ ⊢; have BK101 := n0_; have HB := n1_; clear n0_ n1_; have n0_ := Aside0.mk (blk_drew BK101.out); have n1_ := Aside0.mk (below_drew1 HB.out); clear BK101; clear HB; have BK101 := n0_; have HB := n1_; clear n0_ n1_; have p139 : 0 ≤ ((ji14) : Int) := of_decide_eq_true zz9; have q139 : (ji14) < (l0.length : Int) := of_decide_eq_true zz9; obtain ⟨ad139, A139_0, c139_0, e139, hx139_0, hx139_1, hl139_0, hi139_0⟩ := at_T51 HR0.out (ji14) p139 q139; have hw139_1 := hx139_1; have hw139_0 := hx139_0; obtain rfl : ad136 = ad139 := (by injection e139); replace hx139_0 := cB HB hx139_0; replace hx139_1 := cB HB hx139_1; have HR102_0 := Aside0.mk hi139_0; have HC102_0 := Aside0.mk hl139_0; clear hi139_0 hl139_0; replace p139 := eq_true p139; replace q139 := eq_true q139; refine start_ (n := 24) (S := fun w' => w'.cell? ⟨gb101, 0, none⟩ = some (.slice A136_0 ((rd_T51 l0 x7_1).f0).length c136_0) ∧ w'.cell? ⟨gb101, 1, none⟩ = some (.int .i64 ((rd_T51 l0 x7_1).f1)) ∧ w'.cell? (ad136.add (((ji14)).toNat * 2)) = some (.slice A139_0 ((rd_T51 l0 (ji14)).f0).length c139_0) ∧ w'.cell? ⟨(ad136.add (((ji14)).toNat * 2)).block, (ad136.add (((ji14)).toNat * 2)).off + 1, none⟩ = some (.int .i64 ((rd_T51 l0 (ji14)).f1))) (ds := []) (.replicate 24 false) (by kernel_rfl) rfl rfl ⟨cK BK101 0, cK BK101 1, (cB HB hw139_0), (cB HB hw139_1)⟩ (fun hHeld => ?_); refine with_tabW bag_Valid.tab4 bag_Valid.bits4 (fun HT_ HW_ => ?_); generalize w21.drew = w22 at BK101 HB HR102_0 hx139_0 hx139_1 hHeld ⊢; refine tV (v := ?_) 0 12 (bA 24 1) HT_ HW_ hHeld ?_ ?_; rotate_left
            ·rintro w' ⟨s0, s1, s2, s3⟩
             go_simp
             (with_reducible rfl)
            refine oN 1 13 (bA 24 3) HT_ (fun K hK => ?_); refine goes_ Try.func115 (by kernel_rfl) rfl #[.agg #[.slice A136_0 ((rd_T51 l0 x7_1).f0).length c136_0, .int .i64 ((rd_T51 l0 x7_1).f1)]] (by rfl) rfl rfl zz8 ?_; (with_reducible refine (bag_entryFits.calls k1 _ _ ((rd_T51 l0 x7_1).f0) ((rd_T51 l0 x7_1).f1) true _ ?side1 ?side2 A5.out).mono ?_); (case side1 => repeat (first | exact (Kd.C_below HR100_0.out HB.out) | (with_reducible refine Kd.C_alloc ?_ _) | (with_reducible refine Kd.C_drewN ?_ _) | (with_reducible refine Kd.C_drew ?_))); (case side2 => exact HC100_0.out); rintro e w23 ⟨rfl, hb⟩; refine ⟨_, rfl, ?_⟩; have n0_ := Aside0.mk (blk_below (g := gb101) (o := .cells #[.slice A136_0 ((rd_T51 l0 x7_1).f0).length c136_0, .int .i64 ((rd_T51 l0 x7_1).f1)] 51 (0, 0)) zz13 hb); have n1_ := Aside0.mk (below_step zz22 hb); clear BK101; clear HB; have BK101 := n0_; have HB := n1_; clear n0_ n1_; (try clear hb); (try clear hb2); (try clear hk); (try clear hi); refine hK.out _ _ ⟨cK BK101 0, cK BK101 1, (cB HB hw139_0), (cB HB hw139_1)⟩ (fun hHeld => ?_); clear hK K; refine norm_ (a' := ?_) ?_ ?_; rotate_left
            ·show Act.put _ (some 13) _ = _
             simp only [Act.put, List.setIfInBounds_toArray, List.set_cons_zero, List.set_cons_succ, i64_w, i32_w]
             rfl
            refine pV 2 14 (bA 24 7) HT_ ?_; refine pV 3 15 (bA 24 15) HT_ ?_; refine pV 4 16 (bA 24 31) HT_ ?_; refine tV (v := ?_) 5 17 (bA 24 63) HT_ HW_ hHeld ?_ ?_; rotate_left
            ·rintro w' ⟨s0, s1, s2, s3⟩
             go_simp
             (with_reducible rfl)
            refine pV 6 18 (bA 24 127) HT_ ?_; refine pV 7 19 (bA 24 255) HT_ ?_; refine pV 8 20 (bA 24 511) HT_ ?_; refine pV 9 21 (bA 24 1023) HT_ ?_; refine pV 10 22 (bA 24 2047) HT_ ?_; refine pV 11 23 (bA 24 4095) HT_ ?_; refine pV 12 24 (bA 24 8191) HT_ ?_; refine pV 13 25 (bA 24 16383) HT_ ?_; refine pV 14 26 (bA 24 32767) HT_ ?_; refine pV 15 27 (bA 24 65535) HT_ ?_; refine pV 16 28 (bA 24 131071) HT_ ?_; refine pV 18 30 (bA 24 393215) HT_ ?_; refine tV (v := ?_) 17 29 (bA 24 524287) HT_ HW_ hHeld ?_ ?_; rotate_left
            ·rintro w' ⟨s0, s1, s2, s3⟩
             go_simp
             (with_reducible rfl)
            refine tV (v := ?_) 19 31 (bA 24 1048575) HT_ HW_ hHeld ?_ ?_; rotate_left
            ·rintro w' ⟨s0, s1, s2, s3⟩
             go_simp
             (with_reducible rfl)
            refine oN 20 32 (bA 24 2097151) HT_ (fun K hK => ?_); refine goes_ Try.func116 (by kernel_rfl) rfl #[.slice A139_0 ((rd_T51 l0 (ji14)).f0).length c139_0, .slice A136_0 ((rd_T51 l0 x7_1).f0).length c136_0] (by rfl) rfl rfl (by (try simp only [List.map_toArray, List.map_cons, List.map_nil]); first | done | (simp only [hji14]; rfl) | rfl | (simp only [List.length_drop, List.length_take]; rfl)) ?_; (with_reducible refine (value_CompareRows.calls k1 _ _ ((rd_T51 l0 (ji14)).f0) _ _ ((rd_T51 l0 x7_1).f0) t140 _ ?side1 ?side2 ?side3 ?side4 A17.out).mono ?_); (case side1 => repeat (first | exact (Kd.C_below HR102_0.out HB.out) | (with_reducible refine Kd.C_alloc ?_ _) | (with_reducible refine Kd.C_drewN ?_ _) | (with_reducible refine Kd.C_drew ?_))); (case side2 => exact HC102_0.out); (case side3 => repeat (first | exact (Kd.C_below HR100_0.out HB.out) | (with_reducible refine Kd.C_alloc ?_ _) | (with_reducible refine Kd.C_drewN ?_ _) | (with_reducible refine Kd.C_drew ?_))); (case side4 => exact HC100_0.out); rintro e w24 ⟨rfl, hb⟩; refine ⟨_, rfl, ?_⟩; have n0_ := Aside0.mk (blk_below (g := gb101) (o := .cells #[.slice A136_0 ((rd_T51 l0 x7_1).f0).length c136_0, .int .i64 ((rd_T51 l0 x7_1).f1)] 51 (0, 0)) zz13 hb); have n1_ := Aside0.mk (below_step zz22 hb); clear BK101; clear HB; have BK101 := n0_; have HB := n1_; clear n0_ n1_; (try clear hb); (try clear hb2); (try clear hk); (try clear hi); refine hK.out _ _ ⟨cK BK101 0, cK BK101 1, (cB HB hw139_0), (cB HB hw139_1)⟩ (fun hHeld => ?_); clear hK K; refine norm_ (a' := ?_) ?_ ?_; rotate_left
            ·show Act.put _ (some 32) _ = _
             simp only [Act.put, List.setIfInBounds_toArray, List.set_cons_zero, List.set_cons_succ, i64_w, i32_w]
             rfl
            refine pV 21 33 (bA 24 4194303) HT_ ?_; refine pV 22 34 (bA 24 8388607) HT_ ?_; refine pV 23 35 (bA 24 16777215) HT_ ?_; refine done_ (done_of HT_.out (by kernel_rfl)) ?_
            try go_wp2
            go_ret
            exact ⟨by first | rfl | (simp [errW_none, errW_some] <;> rfl) | (simp only [← hji14]; first | rfl | (simp [errW_none, errW_some] <;> rfl)) | (simp [*, errW_none, errW_some] <;> rfl), zz22⟩
           ·rw [if_neg c18] at H; have c18b0 : decide (0 ≤ t140) = false := decide_eq_false c18; clear c18; have H' := Aside0.mk H; clear H; have p136 : 0 ≤ (x7_1 : Int) := of_decide_eq_true zz9; have q136 : x7_1 < (l0.length : Int) := of_decide_eq_true zz9; obtain ⟨ad136, A136_0, c136_0, e136, hx136_0, hx136_1, hl136_0, hi136_0⟩ := at_T51 HR0.out x7_1 p136 q136
            cases e136
            replace hx136_0 := cB HB hx136_0; replace hx136_1 := cB HB hx136_1; have HR100_0 := Aside0.mk hi136_0; have HC100_0 := Aside0.mk hl136_0; clear hi136_0 hl136_0; replace p136 := eq_true p136; replace q136 := eq_true q136
            try go_wp2_with (first | ((with_reducible refine gate_dst (N := 4) rfl ?_); refine box_event ?hg (N := 4) ?hd (cs := #[.slice none 0 0, .int .i64 0]) (t := 51) ?hr ?_; (case hd => rfl); (case hg => rfl); (case hr => first | (go_simp; done) | (go_simp; rfl)); intro gb101 hg w25 hbox hb; have n0_ := Aside0.mk (below_step zz0 hb); have n1_ := Aside0.mk (hbox); have n2_ := Aside0.mk ((zz1 : w.heap.size ≤ gb101)); have n3_ := Aside0.mk ((zz1 : w.heap.size ≤ gb101)); clear HB; have HB := n0_; have BK101 := n1_; have GW101 := n2_; have GE101 := n3_; clear n0_ n1_ n2_ n3_; clear hb hbox hg; have hcz26_0 : w25.cell? ⟨gb101, 0, none⟩ = some (.slice none 0 0) := cK BK101 0; have hcz26_1 : w25.cell? ⟨gb101, 1, none⟩ = some (.int .i64 0) := cK BK101 1; have hfz26_0 := blk_frozen BK101.out 0; have hfz26_1 := blk_frozen BK101.out 1))
            have n0_ : Aside0 (((w25.setCell ⟨gb101, 0, none⟩ (.slice A136_0 ((rd_T51 l0 x7_1).f0).length c136_0)).setCell ⟨gb101, 1, none⟩ (.int .i64 ((rd_T51 l0 x7_1).f1))).heap[gb101]? = some (.cells #[.slice A136_0 ((rd_T51 l0 x7_1).f0).length c136_0, .int .i64 ((rd_T51 l0 x7_1).f1)] 51 (0, 0))) := ⟨zz21⟩; have n1_ : Aside0 (Below w.heap.size w ((w25.setCell ⟨gb101, 0, none⟩ (.slice A136_0 ((rd_T51 l0 x7_1).f0).length c136_0)).setCell ⟨gb101, 1, none⟩ (.int .i64 ((rd_T51 l0 x7_1).f1)))) := ⟨zz22⟩; (try clear BK101); (try clear HB); generalize ((w25.setCell ⟨gb101, 0, none⟩ (.slice A136_0 ((rd_T51 l0 x7_1).f0).length c136_0)).setCell ⟨gb101, 1, none⟩ (.int .i64 ((rd_T51 l0 x7_1).f1))) = w27 at n0_ n1_ ⊢; have BK101 := n0_; have HB := n1_; clear n0_ n1_; have n0_ := Aside0.mk (blk_drew BK101.out); have n1_ := Aside0.mk (below_drew1 HB.out); clear BK101; clear HB; have BK101 := n0_; have HB := n1_; clear n0_ n1_; have p139 : 0 ≤ ((ji14) : Int) := of_decide_eq_true zz9; have q139 : (ji14) < (l0.length : Int) := of_decide_eq_true zz9; obtain ⟨ad139, A139_0, c139_0, e139, hx139_0, hx139_1, hl139_0, hi139_0⟩ := at_T51 HR0.out (ji14) p139 q139; have hw139_1 := hx139_1; have hw139_0 := hx139_0; obtain rfl : ad136 = ad139 := (by injection e139); replace hx139_0 := cB HB hx139_0; replace hx139_1 := cB HB hx139_1; have HR102_0 := Aside0.mk hi139_0; have HC102_0 := Aside0.mk hl139_0; clear hi139_0 hl139_0; replace p139 := eq_true p139; replace q139 := eq_true q139; refine start_ (n := 24) (S := fun w' => w'.cell? ⟨gb101, 0, none⟩ = some (.slice A136_0 ((rd_T51 l0 x7_1).f0).length c136_0) ∧ w'.cell? ⟨gb101, 1, none⟩ = some (.int .i64 ((rd_T51 l0 x7_1).f1)) ∧ w'.cell? (ad136.add (((ji14)).toNat * 2)) = some (.slice A139_0 ((rd_T51 l0 (ji14)).f0).length c139_0) ∧ w'.cell? ⟨(ad136.add (((ji14)).toNat * 2)).block, (ad136.add (((ji14)).toNat * 2)).off + 1, none⟩ = some (.int .i64 ((rd_T51 l0 (ji14)).f1))) (ds := []) (.replicate 24 false) (by kernel_rfl) rfl rfl ⟨cK BK101 0, cK BK101 1, (cB HB hw139_0), (cB HB hw139_1)⟩ (fun hHeld => ?_); refine with_tabW bag_Valid.tab4 bag_Valid.bits4 (fun HT_ HW_ => ?_); generalize w27.drew = w28 at BK101 HB HR102_0 hx139_0 hx139_1 hHeld ⊢; refine tV (v := ?_) 0 12 (bA 24 1) HT_ HW_ hHeld ?_ ?_; rotate_left
            ·rintro w' ⟨s0, s1, s2, s3⟩
             go_simp
             (with_reducible rfl)
            refine oN 1 13 (bA 24 3) HT_ (fun K hK => ?_); refine goes_ Try.func115 (by kernel_rfl) rfl #[.agg #[.slice A136_0 ((rd_T51 l0 x7_1).f0).length c136_0, .int .i64 ((rd_T51 l0 x7_1).f1)]] (by rfl) rfl rfl zz8 ?_; (with_reducible refine (bag_entryFits.calls k1 _ _ ((rd_T51 l0 x7_1).f0) ((rd_T51 l0 x7_1).f1) true _ ?side1 ?side2 A5.out).mono ?_); (case side1 => repeat (first | exact (Kd.C_below HR100_0.out HB.out) | (with_reducible refine Kd.C_alloc ?_ _) | (with_reducible refine Kd.C_drewN ?_ _) | (with_reducible refine Kd.C_drew ?_))); (case side2 => exact HC100_0.out); rintro e w29 ⟨rfl, hb⟩; refine ⟨_, rfl, ?_⟩; have n0_ := Aside0.mk (blk_below (g := gb101) (o := .cells #[.slice A136_0 ((rd_T51 l0 x7_1).f0).length c136_0, .int .i64 ((rd_T51 l0 x7_1).f1)] 51 (0, 0)) zz13 hb); have n1_ := Aside0.mk (below_step zz22 hb); clear BK101; clear HB; have BK101 := n0_; have HB := n1_; clear n0_ n1_; (try clear hb); (try clear hb2); (try clear hk); (try clear hi); refine hK.out _ _ ⟨cK BK101 0, cK BK101 1, (cB HB hw139_0), (cB HB hw139_1)⟩ (fun hHeld => ?_); clear hK K; refine norm_ (a' := ?_) ?_ ?_; rotate_left
            ·show Act.put _ (some 13) _ = _
             simp only [Act.put, List.setIfInBounds_toArray, List.set_cons_zero, List.set_cons_succ, i64_w, i32_w]
             rfl
            refine pV 2 14 (bA 24 7) HT_ ?_; refine pV 3 15 (bA 24 15) HT_ ?_; refine pV 4 16 (bA 24 31) HT_ ?_; refine tV (v := ?_) 5 17 (bA 24 63) HT_ HW_ hHeld ?_ ?_; rotate_left
            ·rintro w' ⟨s0, s1, s2, s3⟩
             go_simp
             (with_reducible rfl)
            refine pV 6 18 (bA 24 127) HT_ ?_; refine pV 7 19 (bA 24 255) HT_ ?_; refine pV 8 20 (bA 24 511) HT_ ?_; refine pV 9 21 (bA 24 1023) HT_ ?_; refine pV 10 22 (bA 24 2047) HT_ ?_; refine pV 11 23 (bA 24 4095) HT_ ?_; refine pV 12 24 (bA 24 8191) HT_ ?_; refine pV 13 25 (bA 24 16383) HT_ ?_; refine pV 14 26 (bA 24 32767) HT_ ?_; refine pV 15 27 (bA 24 65535) HT_ ?_; refine pV 16 28 (bA 24 131071) HT_ ?_; refine pV 18 30 (bA 24 393215) HT_ ?_; refine tV (v := ?_) 17 29 (bA 24 524287) HT_ HW_ hHeld ?_ ?_; rotate_left
            ·rintro w' ⟨s0, s1, s2, s3⟩
             go_simp
             (with_reducible rfl)
            refine tV (v := ?_) 19 31 (bA 24 1048575) HT_ HW_ hHeld ?_ ?_; rotate_left
            ·rintro w' ⟨s0, s1, s2, s3⟩
             go_simp
             (with_reducible rfl)
            refine oN 20 32 (bA 24 2097151) HT_ (fun K hK => ?_); refine goes_ Try.func116 (by kernel_rfl) rfl #[.slice A139_0 ((rd_T51 l0 (ji14)).f0).length c139_0, .slice A136_0 ((rd_T51 l0 x7_1).f0).length c136_0] (by rfl) rfl rfl (by (try simp only [List.map_toArray, List.map_cons, List.map_nil]); first | done | (simp only [hji14]; rfl) | rfl | (simp only [List.length_drop, List.length_take]; rfl)) ?_; (with_reducible refine (value_CompareRows.calls k1 _ _ ((rd_T51 l0 (ji14)).f0) _ _ ((rd_T51 l0 x7_1).f0) t140 _ ?side1 ?side2 ?side3 ?side4 A17.out).mono ?_); (case side1 => repeat (first | exact (Kd.C_below HR102_0.out HB.out) | (with_reducible refine Kd.C_alloc ?_ _) | (with_reducible refine Kd.C_drewN ?_ _) | (with_reducible refine Kd.C_drew ?_))); (case side2 => exact HC102_0.out); (case side3 => repeat (first | exact (Kd.C_below HR100_0.out HB.out) | (with_reducible refine Kd.C_alloc ?_ _) | (with_reducible refine Kd.C_drewN ?_ _) | (with_reducible refine Kd.C_drew ?_))); (case side4 => exact HC100_0.out); rintro e w30 ⟨rfl, hb⟩; refine ⟨_, rfl, ?_⟩; have n0_ := Aside0.mk (blk_below (g := gb101) (o := .cells #[.slice A136_0 ((rd_T51 l0 x7_1).f0).length c136_0, .int .i64 ((rd_T51 l0 x7_1).f1)] 51 (0, 0)) zz13 hb); have n1_ := Aside0.mk (below_step zz22 hb); clear BK101; clear HB; have BK101 := n0_; have HB := n1_; clear n0_ n1_; (try clear hb); (try clear hb2); (try clear hk); (try clear hi); refine hK.out _ _ ⟨cK BK101 0, cK BK101 1, (cB HB hw139_0), (cB HB hw139_1)⟩ (fun hHeld => ?_); clear hK K; refine norm_ (a' := ?_) ?_ ?_; rotate_left
            ·show Act.put _ (some 32) _ = _
             simp only [Act.put, List.setIfInBounds_toArray, List.set_cons_zero, List.set_cons_succ, i64_w, i32_w]
             rfl
            refine pV 21 33 (bA 24 4194303) HT_ ?_; refine pV 22 34 (bA 24 8388607) HT_ ?_; refine pV 23 35 (bA 24 16777215) HT_ ?_; refine done_ (done_of HT_.out (by kernel_rfl)) ?_
            try go_wp2
            go_roundg k1
            case measure => have := HK1.out; omega
            case rel => exact ⟨(wrap64 (x7_1 + 1)), zz2, H', ⟨by have := HK1.out; omega⟩, ⟨zz22⟩⟩
          ·rw [if_neg c16] at H; exact absurd H (by simp)
         ·rw [if_neg c15] at H; exact absurd H (by simp)
        ·rw [if_neg c13] at H; have c13b0 : decide (0 < x7_1) = false := decide_eq_false c13; clear c13; have H' := Aside0.mk H; clear H; have p136 : 0 ≤ (x7_1 : Int) := of_decide_eq_true zz9; have q136 : x7_1 < (l0.length : Int) := of_decide_eq_true zz9; obtain ⟨ad136, A136_0, c136_0, e136, hx136_0, hx136_1, hl136_0, hi136_0⟩ := at_T51 HR0.out x7_1 p136 q136
         cases e136
         replace hx136_0 := cB HB hx136_0; replace hx136_1 := cB HB hx136_1; have HR100_0 := Aside0.mk hi136_0; have HC100_0 := Aside0.mk hl136_0; clear hi136_0 hl136_0; replace p136 := eq_true p136; replace q136 := eq_true q136
         try go_wp2_with (first | ((with_reducible refine gate_dst (N := 4) rfl ?_); refine box_event ?hg (N := 4) ?hd (cs := #[.slice none 0 0, .int .i64 0]) (t := 51) ?hr ?_; (case hd => rfl); (case hg => rfl); (case hr => first | (go_simp; done) | (go_simp; rfl)); intro gb101 hg w31 hbox hb; have n0_ := Aside0.mk (below_step zz0 hb); have n1_ := Aside0.mk (hbox); have n2_ := Aside0.mk ((zz1 : w.heap.size ≤ gb101)); have n3_ := Aside0.mk ((zz1 : w.heap.size ≤ gb101)); clear HB; have HB := n0_; have BK101 := n1_; have GW101 := n2_; have GE101 := n3_; clear n0_ n1_ n2_ n3_; clear hb hbox hg; have hcz32_0 : w31.cell? ⟨gb101, 0, none⟩ = some (.slice none 0 0) := cK BK101 0; have hcz32_1 : w31.cell? ⟨gb101, 1, none⟩ = some (.int .i64 0) := cK BK101 1; have hfz32_0 := blk_frozen BK101.out 0; have hfz32_1 := blk_frozen BK101.out 1))
         have n0_ : Aside0 (((w31.setCell ⟨gb101, 0, none⟩ (.slice A136_0 ((rd_T51 l0 x7_1).f0).length c136_0)).setCell ⟨gb101, 1, none⟩ (.int .i64 ((rd_T51 l0 x7_1).f1))).heap[gb101]? = some (.cells #[.slice A136_0 ((rd_T51 l0 x7_1).f0).length c136_0, .int .i64 ((rd_T51 l0 x7_1).f1)] 51 (0, 0))) := ⟨zz21⟩; have n1_ : Aside0 (Below w.heap.size w ((w31.setCell ⟨gb101, 0, none⟩ (.slice A136_0 ((rd_T51 l0 x7_1).f0).length c136_0)).setCell ⟨gb101, 1, none⟩ (.int .i64 ((rd_T51 l0 x7_1).f1)))) := ⟨zz22⟩; (try clear BK101); (try clear HB); generalize ((w31.setCell ⟨gb101, 0, none⟩ (.slice A136_0 ((rd_T51 l0 x7_1).f0).length c136_0)).setCell ⟨gb101, 1, none⟩ (.int .i64 ((rd_T51 l0 x7_1).f1))) = w33 at n0_ n1_ ⊢; have BK101 := n0_; have HB := n1_; clear n0_ n1_; have n0_ := Aside0.mk (blk_drew BK101.out); have n1_ := Aside0.mk (below_drew1 HB.out); clear BK101; clear HB; have BK101 := n0_; have HB := n1_; clear n0_ n1_; refine start_ (n := 24) (S := fun w' => w'.cell? ⟨gb101, 0, none⟩ = some (.slice A136_0 ((rd_T51 l0 x7_1).f0).length c136_0) ∧ w'.cell? ⟨gb101, 1, none⟩ = some (.int .i64 ((rd_T51 l0 x7_1).f1))) (ds := []) (.replicate 24 false) (by kernel_rfl) rfl rfl ⟨cK BK101 0, cK BK101 1⟩ (fun hHeld => ?_); refine with_tabW bag_Valid.tab4 bag_Valid.bits4 (fun HT_ HW_ => ?_); generalize w33.drew = w34 at BK101 HB hHeld ⊢; refine tV (v := ?_) 0 12 (bA 24 1) HT_ HW_ hHeld ?_ ?_; rotate_left
         ·rintro w' ⟨s0, s1⟩
          go_simp
          (with_reducible rfl)
         refine oN 1 13 (bA 24 3) HT_ (fun K hK => ?_); refine goes_ Try.func115 (by kernel_rfl) rfl #[.agg #[.slice A136_0 ((rd_T51 l0 x7_1).f0).length c136_0, .int .i64 ((rd_T51 l0 x7_1).f1)]] (by rfl) rfl rfl zz8 ?_; (with_reducible refine (bag_entryFits.calls k1 _ _ ((rd_T51 l0 x7_1).f0) ((rd_T51 l0 x7_1).f1) true _ ?side1 ?side2 A5.out).mono ?_); (case side1 => repeat (first | exact (Kd.C_below HR100_0.out HB.out) | (with_reducible refine Kd.C_alloc ?_ _) | (with_reducible refine Kd.C_drewN ?_ _) | (with_reducible refine Kd.C_drew ?_))); (case side2 => exact HC100_0.out); rintro e w35 ⟨rfl, hb⟩; refine ⟨_, rfl, ?_⟩; have n0_ := Aside0.mk (blk_below (g := gb101) (o := .cells #[.slice A136_0 ((rd_T51 l0 x7_1).f0).length c136_0, .int .i64 ((rd_T51 l0 x7_1).f1)] 51 (0, 0)) zz13 hb); have n1_ := Aside0.mk (below_step zz22 hb); clear BK101; clear HB; have BK101 := n0_; have HB := n1_; clear n0_ n1_; (try clear hb); (try clear hb2); (try clear hk); (try clear hi); refine hK.out _ _ ⟨cK BK101 0, cK BK101 1⟩ (fun hHeld => ?_); clear hK K; refine norm_ (a' := ?_) ?_ ?_; rotate_left
         ·show Act.put _ (some 13) _ = _
          simp only [Act.put, List.setIfInBounds_toArray, List.set_cons_zero, List.set_cons_succ, i64_w, i32_w]
          rfl
         refine pV 2 14 (bA 24 7) HT_ ?_; refine pV 3 15 (bA 24 15) HT_ ?_; refine pV 4 16 (bA 24 31) HT_ ?_; refine tV (v := ?_) 5 17 (bA 24 63) HT_ HW_ hHeld ?_ ?_; rotate_left
         ·rintro w' ⟨s0, s1⟩
          go_simp
          (with_reducible rfl)
         refine pV 6 18 (bA 24 127) HT_ ?_; refine pV 7 19 (bA 24 255) HT_ ?_; refine pV 8 20 (bA 24 511) HT_ ?_; refine pV 9 21 (bA 24 1023) HT_ ?_; refine pV 10 22 (bA 24 2047) HT_ ?_; refine pV 11 23 (bA 24 4095) HT_ ?_; refine pU 12 24 (bA 24 8191) HT_ ?_; refine pU 13 25 (bA 24 16383) HT_ ?_; refine pU 14 26 (bA 24 32767) HT_ ?_; refine pU 15 27 (bA 24 65535) HT_ ?_; refine pU 16 28 (bA 24 131071) HT_ ?_; refine pU 17 29 (bA 24 262143) HT_ ?_; refine pU 18 30 (bA 24 524287) HT_ ?_; refine pU 19 31 (bA 24 1048575) HT_ ?_; refine pU 20 32 (bA 24 2097151) HT_ ?_; refine pU 21 33 (bA 24 4194303) HT_ ?_; refine pV 22 34 (bA 24 8388607) HT_ ?_; refine pV 23 35 (bA 24 16777215) HT_ ?_; refine done_ (done_of HT_.out (by kernel_rfl)) ?_
         try go_wp2
         go_roundg k1
         case measure => have := HK1.out; omega
         case rel => exact ⟨(wrap64 (x7_1 + 1)), zz2, H', ⟨by have := HK1.out; omega⟩, ⟨zz22⟩⟩
      ·replace c6 := Bool.eq_false_iff.mpr c6; subst c6; have H1 : (some false) = some r := by rw [if_neg (show ¬ (false = true) by decide)] at H; exact H
       clear H; have H := H1; clear H1; obtain rfl := Option.some.inj H; have p136 : 0 ≤ (x7_1 : Int) := of_decide_eq_true zz9; have q136 : x7_1 < (l0.length : Int) := of_decide_eq_true zz9; obtain ⟨ad136, A136_0, c136_0, e136, hx136_0, hx136_1, hl136_0, hi136_0⟩ := at_T51 HR0.out x7_1 p136 q136
       cases e136
       replace hx136_0 := cB HB hx136_0; replace hx136_1 := cB HB hx136_1; have HR100_0 := Aside0.mk hi136_0; have HC100_0 := Aside0.mk hl136_0; clear hi136_0 hl136_0; replace p136 := eq_true p136; replace q136 := eq_true q136
       try go_wp2_with (first | ((with_reducible refine gate_dst (N := 4) rfl ?_); refine box_event ?hg (N := 4) ?hd (cs := #[.slice none 0 0, .int .i64 0]) (t := 51) ?hr ?_; (case hd => rfl); (case hg => rfl); (case hr => first | (go_simp; done) | (go_simp; rfl)); intro gb101 hg w36 hbox hb; have n0_ := Aside0.mk (below_step zz0 hb); have n1_ := Aside0.mk (hbox); have n2_ := Aside0.mk ((zz1 : w.heap.size ≤ gb101)); have n3_ := Aside0.mk ((zz1 : w.heap.size ≤ gb101)); clear HB; have HB := n0_; have BK101 := n1_; have GW101 := n2_; have GE101 := n3_; clear n0_ n1_ n2_ n3_; clear hb hbox hg; have hcz37_0 : w36.cell? ⟨gb101, 0, none⟩ = some (.slice none 0 0) := cK BK101 0; have hcz37_1 : w36.cell? ⟨gb101, 1, none⟩ = some (.int .i64 0) := cK BK101 1; have hfz37_0 := blk_frozen BK101.out 0; have hfz37_1 := blk_frozen BK101.out 1))
       have n0_ : Aside0 (((w36.setCell ⟨gb101, 0, none⟩ (.slice A136_0 ((rd_T51 l0 x7_1).f0).length c136_0)).setCell ⟨gb101, 1, none⟩ (.int .i64 ((rd_T51 l0 x7_1).f1))).heap[gb101]? = some (.cells #[.slice A136_0 ((rd_T51 l0 x7_1).f0).length c136_0, .int .i64 ((rd_T51 l0 x7_1).f1)] 51 (0, 0))) := ⟨zz21⟩; have n1_ : Aside0 (Below w.heap.size w ((w36.setCell ⟨gb101, 0, none⟩ (.slice A136_0 ((rd_T51 l0 x7_1).f0).length c136_0)).setCell ⟨gb101, 1, none⟩ (.int .i64 ((rd_T51 l0 x7_1).f1)))) := ⟨zz22⟩; (try clear BK101); (try clear HB); generalize ((w36.setCell ⟨gb101, 0, none⟩ (.slice A136_0 ((rd_T51 l0 x7_1).f0).length c136_0)).setCell ⟨gb101, 1, none⟩ (.int .i64 ((rd_T51 l0 x7_1).f1))) = w38 at n0_ n1_ ⊢; have BK101 := n0_; have HB := n1_; clear n0_ n1_; have n0_ := Aside0.mk (blk_drew BK101.out); have n1_ := Aside0.mk (below_drew1 HB.out); clear BK101; clear HB; have BK101 := n0_; have HB := n1_; clear n0_ n1_; refine start_ (n := 24) (S := fun w' => w'.cell? ⟨gb101, 0, none⟩ = some (.slice A136_0 ((rd_T51 l0 x7_1).f0).length c136_0) ∧ w'.cell? ⟨gb101, 1, none⟩ = some (.int .i64 ((rd_T51 l0 x7_1).f1))) (ds := []) (.replicate 24 false) (by kernel_rfl) rfl rfl ⟨cK BK101 0, cK BK101 1⟩ (fun hHeld => ?_); refine with_tabW bag_Valid.tab4 bag_Valid.bits4 (fun HT_ HW_ => ?_); generalize w38.drew = w39 at BK101 HB hHeld ⊢; refine tV (v := ?_) 0 12 (bA 24 1) HT_ HW_ hHeld ?_ ?_; rotate_left
       ·rintro w' ⟨s0, s1⟩
        go_simp
        (with_reducible rfl)
       refine oN 1 13 (bA 24 3) HT_ (fun K hK => ?_); refine goes_ Try.func115 (by kernel_rfl) rfl #[.agg #[.slice A136_0 ((rd_T51 l0 x7_1).f0).length c136_0, .int .i64 ((rd_T51 l0 x7_1).f1)]] (by rfl) rfl rfl zz8 ?_; (with_reducible refine (bag_entryFits.calls k1 _ _ ((rd_T51 l0 x7_1).f0) ((rd_T51 l0 x7_1).f1) false _ ?side1 ?side2 A5.out).mono ?_); (case side1 => repeat (first | exact (Kd.C_below HR100_0.out HB.out) | (with_reducible refine Kd.C_alloc ?_ _) | (with_reducible refine Kd.C_drewN ?_ _) | (with_reducible refine Kd.C_drew ?_))); (case side2 => exact HC100_0.out); rintro e w40 ⟨rfl, hb⟩; refine ⟨_, rfl, ?_⟩; have n0_ := Aside0.mk (blk_below (g := gb101) (o := .cells #[.slice A136_0 ((rd_T51 l0 x7_1).f0).length c136_0, .int .i64 ((rd_T51 l0 x7_1).f1)] 51 (0, 0)) zz13 hb); have n1_ := Aside0.mk (below_step zz22 hb); clear BK101; clear HB; have BK101 := n0_; have HB := n1_; clear n0_ n1_; (try clear hb); (try clear hb2); (try clear hk); (try clear hi); refine hK.out _ _ ⟨cK BK101 0, cK BK101 1⟩ (fun hHeld => ?_); clear hK K; refine norm_ (a' := ?_) ?_ ?_; rotate_left
       ·show Act.put _ (some 13) _ = _
        simp only [Act.put, List.setIfInBounds_toArray, List.set_cons_zero, List.set_cons_succ, i64_w, i32_w]
        rfl
       refine pV 2 14 (bA 24 7) HT_ ?_; refine pV 3 15 (bA 24 15) HT_ ?_; refine pU 4 16 (bA 24 31) HT_ ?_; refine pU 5 17 (bA 24 63) HT_ ?_; refine pU 6 18 (bA 24 127) HT_ ?_; refine pV 7 19 (bA 24 255) HT_ ?_; refine pV 8 20 (bA 24 511) HT_ ?_; refine pU 9 21 (bA 24 1023) HT_ ?_; refine pU 10 22 (bA 24 2047) HT_ ?_; refine pU 11 23 (bA 24 4095) HT_ ?_; refine pU 12 24 (bA 24 8191) HT_ ?_; refine pU 13 25 (bA 24 16383) HT_ ?_; refine pU 14 26 (bA 24 32767) HT_ ?_; refine pU 15 27 (bA 24 65535) HT_ ?_; refine pU 16 28 (bA 24 131071) HT_ ?_; refine pU 17 29 (bA 24 262143) HT_ ?_; refine pU 18 30 (bA 24 524287) HT_ ?_; refine pU 19 31 (bA 24 1048575) HT_ ?_; refine pU 20 32 (bA 24 2097151) HT_ ?_; refine pU 21 33 (bA 24 4194303) HT_ ?_; refine pU 22 34 (bA 24 8388607) HT_ ?_; refine pV 23 35 (bA 24 16777215) HT_ ?_; refine done_ (done_of HT_.out (by kernel_rfl)) ?_
       try go_wp2
       go_ret
       exact ⟨zz6, zz22⟩
     ·rw [if_neg c4] at H; exact absurd H (by simp)
    ·rw [if_neg c3] at H; exact absurd H (by simp)
   ·rw [if_neg c2] at H; have c2b0 : decide (x7_1 < (l0.length : Int)) = false := decide_eq_false c2; clear c2; obtain rfl := Option.some.inj H
    go_wp2
    go_ret
    exact ⟨zz6, zz0⟩
def bag_Positive_1.f (l0_0 : List (S23)) (a0_1 : Int) : Option (Bool) := some (decide (a0_1 < 0))
set_option maxHeartbeats 8000000 in
set_option maxRecDepth 100000 in
theorem bag_Positive_1.calls (A0_0 : Option Addr) (c0_0 : Nat) (l0_0 : List (S23)) (a0_1 : Int) (r : Bool) (w : World) (hr0_0 : Kd.C k23 w A0_0 l0_0.length l0_0) (hc0_0 : l0_0.length ≤ c0_0) (h : bag_Positive_1.f l0_0 a0_1 = some r) :
  Calls Try.prog 96 #[.agg #[.slice A0_0 l0_0.length c0_0, .int .i64 a0_1]] w fun e w' => e = .returned (.bool r) ∧ Below w.heap.size w w' := by
 have hu51 := Try.underlying51; have HR0_0 := Aside0.mk hr0_0; have HC0_0 := Aside0.mk hc0_0; clear hr0_0 hc0_0; have HB := Aside0.mk (Below.refl w.heap.size w); have H : (some (decide (a0_1 < 0))) = some r := h; clear h; obtain rfl := Option.some.inj H
 go_enter Try.func96, Try.ntmps96
 go_wp2_with (first | ((with_reducible refine gate_dst (N := 1) rfl ?_); refine box_event ?hg (N := 1) ?hd (cs := #[.slice A0_0 l0_0.length c0_0, .int .i64 a0_1]) (t := 51) ?hr ?_; (case hd => rfl); (case hg => rfl); (case hr => first | (go_simp; done) | (go_simp; rfl)); intro gb100 hg w2 hbox hb; have n0_ := Aside0.mk (below_step zz0 hb); have n1_ := Aside0.mk (hbox); have n2_ := Aside0.mk ((zz1 : w.heap.size ≤ gb100)); have n3_ := Aside0.mk ((zz1 : w.heap.size ≤ gb100)); clear HB; have HB := n0_; have BK100 := n1_; have GW100 := n2_; have GE100 := n3_; clear n0_ n1_ n2_ n3_; clear hb hbox hg; have hcz3_0 : w2.cell? ⟨gb100, 0, none⟩ = some (.slice A0_0 l0_0.length c0_0) := cK BK100 0; have hcz3_1 : w2.cell? ⟨gb100, 1, none⟩ = some (.int .i64 a0_1) := cK BK100 1; have hfz3_0 := blk_frozen BK100.out 0; have hfz3_1 := blk_frozen BK100.out 1))
 go_ret
 exact ⟨zz6, zz5⟩
def api_Entry_117.l0 : Nat → List (S51) → Int → Int → Option (Int)
 | 0, _, _, _ => none
 | k + 1, x0, x7, x8 => if x8 < x7 then (if 0 ≤ x8 then (if x8 < (x0.length : Int) then ((bag_Positive_1.f ((rd_T51 x0 x8).f0) ((rd_T51 x0 x8).f1)).bind fun t143 => (if t143 = true then (some x8) else (api_Entry_117.l0 k x0 x7 (wrap64 (x8 + 1))))) else (none)) else (none)) else (some (-1))
def api_Entry_117.f (k : Nat) (l0 : List (S51))  : Option (Int) := api_Entry_117.l0 k l0 (l0.length : Int) 0
theorem api_Entry_117.mono_l : ∀ k, (∀ y0 y1 y2, LeO (api_Entry_117.l0 k y0 y1 y2) (api_Entry_117.l0 (k + 1) y0 y1 y2))
 | 0 => fun _ _ _ r h => by simp [api_Entry_117.l0] at h
 | k + 1 => by
  have ih0 := api_Entry_117.mono_l k
  ·intro y0 y1 y2; unfold api_Entry_117.l0
   repeat' first
   | (with_reducible exact ih0 _ _ _)
   | (with_reducible exact LeO.refl _)
   | (with_reducible exact LeO.none _)
   | (with_reducible refine LeO.ite ?_ ?_)
   | (with_reducible refine LeO.bind ?_ (fun _ => ?_))
   | exact ih0 _ _ _
   | exact LeO.none _
   | refine LeO.ite ?_ ?_
   | refine LeO.bind ?_ (fun _ => ?_)
theorem api_Entry_117.mono : ∀ a0 k, LeO (api_Entry_117.f k a0) (api_Entry_117.f (k + 1) a0) := by
 intro a0 k; have ih0 := api_Entry_117.mono_l k; unfold api_Entry_117.f
 repeat' first
   | (with_reducible exact ih0 _ _ _)
   | (with_reducible exact LeO.refl _)
   | (with_reducible exact LeO.none _)
   | (with_reducible refine LeO.ite ?_ ?_)
   | (with_reducible refine LeO.bind ?_ (fun _ => ?_))
   | exact ih0 _ _ _
   | exact LeO.none _
   | refine LeO.ite ?_ ?_
   | refine LeO.bind ?_ (fun _ => ?_)
set_option maxHeartbeats 8000000 in
set_option maxRecDepth 100000 in
theorem api_Entry_117.calls (k : Nat) (A0 : Option Addr) (c0 : Nat) (l0 : List (S51))  (r : Int) (w : World) (hr0 : Kd.C k51 w A0 l0.length l0) (hc0 : l0.length ≤ c0) (h : api_Entry_117.f k l0 = some r) :
  Calls Try.prog 117 #[.slice A0 l0.length c0, .func (.func 96) #[] #[]] w fun e w' => e = .returned (.int .i64 r) ∧ Below w.heap.size w w' := by
 have hu51 := Try.underlying51; have HR0 := Aside0.mk hr0; have HC0 := Aside0.mk hc0; clear hr0 hc0; have HB := Aside0.mk (Below.refl w.heap.size w); have H : (api_Entry_117.l0 k l0 (l0.length : Int) 0) = some r := h; clear h; have H' := Aside0.mk H; clear H
 go_enter Try.func117, Try.ntmps117
 go_wp2
 go_loopg [8] k (fun kq v8 w' => ∃ (x8_1 : Int), v8 = .int .i64 x8_1 ∧ Aside0 (api_Entry_117.l0 kq l0 (l0.length : Int) x8_1 = some r) ∧ Aside0 (kq ≤ k) ∧ Aside0 (Below w.heap.size w w'))
 case atStart => exact ⟨(0), zz2, H', ⟨Nat.le_refl _⟩, ⟨zz0⟩⟩
 case round =>
  clear H'; (try clear c1); (try clear p2); obtain ⟨x8_1, rfl, HA, HK1, HB⟩ := hrel
  cases gk with
  | zero => exact absurd HA.out (by simp [api_Entry_117.l0])
  | succ k1 =>
   have H := HA.out; clear HA; simp only [api_Entry_117.l0] at H
   by_cases c3 : x8_1 < (l0.length : Int)
   ·rw [if_pos c3] at H; have c3b0 : decide (x8_1 < (l0.length : Int)) = true := decide_eq_true c3; clear c3
    by_cases c4 : 0 ≤ x8_1
    ·rw [if_pos c4] at H; have c4b0 : decide (0 ≤ x8_1) = true := decide_eq_true c4; clear c4
     by_cases c5 : x8_1 < (l0.length : Int)
     ·rw [if_pos c5] at H; have c5b0 : decide (x8_1 < (l0.length : Int)) = true := decide_eq_true c5; clear c5; replace H := Option.bind_eq_some_iff.mp H; obtain ⟨t143, A60, H⟩ := H; replace H : (if t143 = true then (some x8_1) else (api_Entry_117.l0 k1 l0 (l0.length : Int) (wrap64 (x8_1 + 1)))) = some r := H; have A6 := Aside0.mk A60; clear A60
      by_cases c7 : t143 = true
      ·subst c7; have H1 : (some x8_1) = some r := by rw [if_pos rfl] at H; exact H
       clear H; have H := H1; clear H1; obtain rfl := Option.some.inj H; have p142 : 0 ≤ (x8_1 : Int) := of_decide_eq_true zz9; have q142 : x8_1 < (l0.length : Int) := of_decide_eq_true zz9; obtain ⟨ad142, A142_0, c142_0, e142, hx142_0, hx142_1, hl142_0, hi142_0⟩ := at_T51 HR0.out x8_1 p142 q142
       cases e142
       replace hx142_0 := cB HB hx142_0; replace hx142_1 := cB HB hx142_1; have HR100_0 := Aside0.mk hi142_0; have HC100_0 := Aside0.mk hl142_0; clear hi142_0 hl142_0; replace p142 := eq_true p142; replace q142 := eq_true q142
       go_wp2_with (first | (go_at_call 96; (with_reducible refine (bag_Positive_1.calls _ _ ((rd_T51 l0 x8_1).f0) ((rd_T51 l0 x8_1).f1) true _ ?side1 ?side2 A6.out).mono ?_); (case side1 => repeat (first | exact (Kd.C_below HR100_0.out HB.out) | (with_reducible refine Kd.C_alloc ?_ _) | (with_reducible refine Kd.C_drewN ?_ _) | (with_reducible refine Kd.C_drew ?_))); (case side2 => exact HC100_0.out); rintro e w8 ⟨rfl, hb⟩; have n0_ := Aside0.mk (below_step zz0 hb); clear HB; have HB := n0_; clear n0_; (try clear hb); (try clear hb2); (try clear hk); (try clear hi)))
       go_ret
       exact ⟨zz6, zz0⟩
      ·replace c7 := Bool.eq_false_iff.mpr c7; subst c7; have H1 : (api_Entry_117.l0 k1 l0 (l0.length : Int) (wrap64 (x8_1 + 1))) = some r := by rw [if_neg (show ¬ (false = true) by decide)] at H; exact H
       clear H; have H := H1; clear H1; have H' := Aside0.mk H; clear H; have p142 : 0 ≤ (x8_1 : Int) := of_decide_eq_true zz9; have q142 : x8_1 < (l0.length : Int) := of_decide_eq_true zz9; obtain ⟨ad142, A142_0, c142_0, e142, hx142_0, hx142_1, hl142_0, hi142_0⟩ := at_T51 HR0.out x8_1 p142 q142
       cases e142
       replace hx142_0 := cB HB hx142_0; replace hx142_1 := cB HB hx142_1; have HR100_0 := Aside0.mk hi142_0; have HC100_0 := Aside0.mk hl142_0; clear hi142_0 hl142_0; replace p142 := eq_true p142; replace q142 := eq_true q142
       go_wp2_with (first | (go_at_call 96; (with_reducible refine (bag_Positive_1.calls _ _ ((rd_T51 l0 x8_1).f0) ((rd_T51 l0 x8_1).f1) false _ ?side1 ?side2 A6.out).mono ?_); (case side1 => repeat (first | exact (Kd.C_below HR100_0.out HB.out) | (with_reducible refine Kd.C_alloc ?_ _) | (with_reducible refine Kd.C_drewN ?_ _) | (with_reducible refine Kd.C_drew ?_))); (case side2 => exact HC100_0.out); rintro e w9 ⟨rfl, hb⟩; have n0_ := Aside0.mk (below_step zz0 hb); clear HB; have HB := n0_; clear n0_; (try clear hb); (try clear hb2); (try clear hk); (try clear hi)))
       go_roundg k1
       case measure => have := HK1.out; omega
       case rel => exact ⟨(wrap64 (x8_1 + 1)), zz2, H', ⟨by have := HK1.out; omega⟩, ⟨zz0⟩⟩
     ·rw [if_neg c5] at H; exact absurd H (by simp)
    ·rw [if_neg c4] at H; exact absurd H (by simp)
   ·rw [if_neg c3] at H; have c3b0 : decide (x8_1 < (l0.length : Int)) = false := decide_eq_false c3; clear c3; obtain rfl := Option.some.inj H
    go_wp2
    go_ret
    exact ⟨zz6, zz0⟩
def api_Entry_95.f (k : Nat) (l0 : List (S51))  : Option (Bool) := (api_Entry_117.f k l0).bind fun t144 => (some (decide (t144 ≥ 0)))
theorem api_Entry_95.mono : ∀ a0 k, LeO (api_Entry_95.f k a0) (api_Entry_95.f (k + 1) a0) := by
 intro a0 k; unfold api_Entry_95.f
 repeat' first
   | (with_reducible exact api_Entry_117.mono _ _)
   | (with_reducible exact LeO.refl _)
   | (with_reducible exact LeO.none _)
   | (with_reducible refine LeO.ite ?_ ?_)
   | (with_reducible refine LeO.bind ?_ (fun _ => ?_))
   | exact api_Entry_117.mono _ _
   | exact LeO.none _
   | refine LeO.ite ?_ ?_
   | refine LeO.bind ?_ (fun _ => ?_)
set_option maxHeartbeats 8000000 in
set_option maxRecDepth 100000 in
theorem api_Entry_95.calls (k : Nat) (A0 : Option Addr) (c0 : Nat) (l0 : List (S51))  (r : Bool) (w : World) (hr0 : Kd.C k51 w A0 l0.length l0) (hc0 : l0.length ≤ c0) (h : api_Entry_95.f k l0 = some r) :
  Calls Try.prog 95 #[.slice A0 l0.length c0, .func (.func 96) #[] #[]] w fun e w' => e = .returned (.bool r) ∧ Below w.heap.size w w' := by
 have HR0 := Aside0.mk hr0; have HC0 := Aside0.mk hc0; clear hr0 hc0; have HB := Aside0.mk (Below.refl w.heap.size w); have H : ((api_Entry_117.f k l0).bind fun t144 => (some (decide (t144 ≥ 0)))) = some r := h; clear h; replace H := Option.bind_eq_some_iff.mp H; obtain ⟨t144, A30, H⟩ := H; replace H : (some (decide (t144 ≥ 0))) = some r := H; have A3 := Aside0.mk A30; clear A30; obtain rfl := Option.some.inj H
 go_enter Try.func95, Try.ntmps95
 go_wp2_with (first | ((with_reducible refine gate_callee (f := 117) rfl ?_); refine goesL_ (some 7) rfl rfl Try.func117 (by kernel_rfl) rfl #[.slice A0 l0.length c0, .func (.func 96) #[] #[]] rfl zz8 ?_; (with_reducible refine (api_Entry_117.calls k _ _ l0  t144 _ ?side1 ?side2 A3.out).mono ?_); (case side1 => repeat (first | exact HR0.out | (with_reducible refine Kd.C_alloc ?_ _) | (with_reducible refine Kd.C_drewN ?_ _) | (with_reducible refine Kd.C_drew ?_))); (case side2 => exact HC0.out); rintro e w4 ⟨rfl, hb⟩; refine ⟨_, rfl, ?_⟩; have n0_ := Aside0.mk (below_step zz0 hb); clear HB; have HB := n0_; clear n0_; (try clear hb); (try clear hb2); (try clear hk); (try clear hi)))
 go_ret
 exact ⟨zz6, zz0⟩
def bag_Positive.f (k : Nat) (l0 : List (S51)) : Option (Bool) := (bag_Valid.f k l0).bind fun t145 => (if t145 = true then ((api_Entry_95.f k l0).bind fun t146 => (some (!t146))) else (some false))
theorem bag_Positive.mono : ∀ a0 k, LeO (bag_Positive.f k a0) (bag_Positive.f (k + 1) a0) := by
 intro a0 k; unfold bag_Positive.f
 repeat' first
   | (with_reducible exact api_Entry_95.mono _ _)
   | (with_reducible exact bag_Valid.mono _ _)
   | (with_reducible exact LeO.refl _)
   | (with_reducible exact LeO.none _)
   | (with_reducible refine LeO.ite ?_ ?_)
   | (with_reducible refine LeO.bind ?_ (fun _ => ?_))
   | exact api_Entry_95.mono _ _
   | exact bag_Valid.mono _ _
   | exact LeO.none _
   | refine LeO.ite ?_ ?_
   | refine LeO.bind ?_ (fun _ => ?_)
set_option maxHeartbeats 8000000 in
set_option maxRecDepth 100000 in
theorem bag_Positive.calls (k : Nat) (A0 : Option Addr) (c0 : Nat) (l0 : List (S51)) (r : Bool) (w : World) (hr0 : Kd.C k51 w A0 l0.length l0) (hc0 : l0.length ≤ c0) (h : bag_Positive.f k l0 = some r) :
  Calls Try.prog 62 #[.slice A0 l0.length c0] w fun e w' => e = .returned (.bool r) ∧ Below w.heap.size w w' := by
 have HR0 := Aside0.mk hr0; have HC0 := Aside0.mk hc0; clear hr0 hc0; have HB := Aside0.mk (Below.refl w.heap.size w); have H : ((bag_Valid.f k l0).bind fun t145 => (if t145 = true then ((api_Entry_95.f k l0).bind fun t146 => (some (!t146))) else (some false))) = some r := h; clear h; replace H := Option.bind_eq_some_iff.mp H; obtain ⟨t145, A20, H⟩ := H; replace H : (if t145 = true then ((api_Entry_95.f k l0).bind fun t146 => (some (!t146))) else (some false)) = some r := H; have A2 := Aside0.mk A20; clear A20
 by_cases c3 : t145 = true
 ·subst c3; have H1 : ((api_Entry_95.f k l0).bind fun t146 => (some (!t146))) = some r := by rw [if_pos rfl] at H; exact H
  clear H; have H := H1; clear H1; replace H := Option.bind_eq_some_iff.mp H; obtain ⟨t146, A40, H⟩ := H; replace H : (some (!t146)) = some r := H; have A4 := Aside0.mk A40; clear A40; obtain rfl := Option.some.inj H
  go_enter Try.func62, Try.ntmps62
  go_wp2_with (first | ((with_reducible refine gate_callee (f := 94) rfl ?_); refine goesL_ (some 4) rfl rfl Try.func94 (by kernel_rfl) rfl #[.slice A0 l0.length c0] rfl zz8 ?_; (with_reducible refine (bag_Valid.calls k _ _ l0 true _ ?side1 ?side2 A2.out).mono ?_); (case side1 => repeat (first | exact HR0.out | (with_reducible refine Kd.C_alloc ?_ _) | (with_reducible refine Kd.C_drewN ?_ _) | (with_reducible refine Kd.C_drew ?_))); (case side2 => exact HC0.out); rintro e w5 ⟨rfl, hb⟩; refine ⟨_, rfl, ?_⟩; have n0_ := Aside0.mk (below_step zz0 hb); clear HB; have HB := n0_; clear n0_; (try clear hb); (try clear hb2); (try clear hk); (try clear hi)) | (go_at_call 95; (with_reducible refine (api_Entry_95.calls k _ _ l0  t146 _ ?side1 ?side2 A4.out).mono ?_); (case side1 => repeat (first | exact (Kd.C_below HR0.out HB.out) | (with_reducible refine Kd.C_alloc ?_ _) | (with_reducible refine Kd.C_drewN ?_ _) | (with_reducible refine Kd.C_drew ?_))); (case side2 => exact HC0.out); rintro e w6 ⟨rfl, hb⟩; have n0_ := Aside0.mk (below_step zz0 hb); clear HB; have HB := n0_; clear n0_; (try clear hb); (try clear hb2); (try clear hk); (try clear hi)))
  go_ret
  exact ⟨zz6, zz0⟩
 ·replace c3 := Bool.eq_false_iff.mpr c3; subst c3; have H1 : (some false) = some r := by rw [if_neg (show ¬ (false = true) by decide)] at H; exact H
  clear H; have H := H1; clear H1; obtain rfl := Option.some.inj H
  go_enter Try.func62, Try.ntmps62
  go_wp2_with (first | ((with_reducible refine gate_callee (f := 94) rfl ?_); refine goesL_ (some 4) rfl rfl Try.func94 (by kernel_rfl) rfl #[.slice A0 l0.length c0] rfl zz8 ?_; (with_reducible refine (bag_Valid.calls k _ _ l0 false _ ?side1 ?side2 A2.out).mono ?_); (case side1 => repeat (first | exact HR0.out | (with_reducible refine Kd.C_alloc ?_ _) | (with_reducible refine Kd.C_drewN ?_ _) | (with_reducible refine Kd.C_drew ?_))); (case side2 => exact HC0.out); rintro e w7 ⟨rfl, hb⟩; refine ⟨_, rfl, ?_⟩; have n0_ := Aside0.mk (below_step zz0 hb); clear HB; have HB := n0_; clear n0_; (try clear hb); (try clear hb2); (try clear hk); (try clear hi)))
  go_ret
  exact ⟨zz6, zz0⟩
def sketch_empty.f (a0_0 : ByteArray) (a0_1 : ByteArray) (a0_2 : Int) (a0_3 : Int) (a0_4 : Int) (a0_5 : Int) : Option (List Int) := if a0_3 = 2 then (some ([] : List Int)) else (if 0 ≤ (wrap64 (a0_4 * a0_5)) then (if (wrap64 (a0_4 * a0_5) : Int).toNat ≤ 35184372088832 then (some (List.replicate (wrap64 (a0_4 * a0_5) : Int).toNat 0)) else (none)) else (none))
set_option maxHeartbeats 8000000 in
set_option maxRecDepth 100000 in
theorem sketch_empty.calls (a0_0 : ByteArray) (a0_1 : ByteArray) (a0_2 : Int) (a0_3 : Int) (a0_4 : Int) (a0_5 : Int) (r : List Int) (w : World) (h : sketch_empty.f a0_0 a0_1 a0_2 a0_3 a0_4 a0_5 = some r) :
  Calls Try.prog 63 #[.agg #[.string a0_0, .string a0_1, .int .i64 a0_2, .int .i64 a0_3, .int .i64 a0_4, .int .i64 a0_5]] w fun e w' => ∃ v0_ : Value, e = .returned (v0_) ∧ Kd.R (Kd.int .i64) 2 w' w.heap.size (fun _ => True) v0_ r ∧ Below w.heap.size w w' := by
 have hu30 := Try.underlying30; have HB := Aside0.mk (Below.refl w.heap.size w); have H : (if a0_3 = 2 then (some ([] : List Int)) else (if 0 ≤ (wrap64 (a0_4 * a0_5)) then (if (wrap64 (a0_4 * a0_5) : Int).toNat ≤ 35184372088832 then (some (List.replicate (wrap64 (a0_4 * a0_5) : Int).toNat 0)) else (none)) else (none))) = some r := h; clear h
 by_cases c2 : a0_3 = 2
 ·rw [if_pos c2] at H; have c2b0 : (a0_3 == 2) = true := beq_iff_eq.mpr c2; have c2b1 : (a0_3 != 2) = false := bne_eq_false_iff_eq.mpr c2; clear c2; obtain rfl := Option.some.inj H
  go_enter Try.func63, Try.ntmps63
  go_wp2_with (first | ((with_reducible refine gate_dst (N := 1) rfl ?_); refine box_event ?hg (N := 1) ?hd (cs := #[.string a0_0, .string a0_1, .int .i64 a0_2, .int .i64 a0_3, .int .i64 a0_4, .int .i64 a0_5]) (t := 30) ?hr ?_; (case hd => rfl); (case hg => rfl); (case hr => first | (go_simp; done) | (go_simp; rfl)); intro gb100 hg w3 hbox hb; have n0_ := Aside0.mk (below_step zz0 hb); have n1_ := Aside0.mk (hbox); have n2_ := Aside0.mk ((zz1 : w.heap.size ≤ gb100)); have n3_ := Aside0.mk ((zz1 : w.heap.size ≤ gb100)); clear HB; have HB := n0_; have BK100 := n1_; have GW100 := n2_; have GE100 := n3_; clear n0_ n1_ n2_ n3_; clear hb hbox hg; have hcz4_0 : w3.cell? ⟨gb100, 0, none⟩ = some (.string a0_0) := cK BK100 0; have hcz4_1 : w3.cell? ⟨gb100, 1, none⟩ = some (.string a0_1) := cK BK100 1; have hcz4_2 : w3.cell? ⟨gb100, 2, none⟩ = some (.int .i64 a0_2) := cK BK100 2; have hcz4_3 : w3.cell? ⟨gb100, 3, none⟩ = some (.int .i64 a0_3) := cK BK100 3; have hcz4_4 : w3.cell? ⟨gb100, 4, none⟩ = some (.int .i64 a0_4) := cK BK100 4; have hcz4_5 : w3.cell? ⟨gb100, 5, none⟩ = some (.int .i64 a0_5) := cK BK100 5; have hfz4_0 := blk_frozen BK100.out 0; have hfz4_1 := blk_frozen BK100.out 1; have hfz4_2 := blk_frozen BK100.out 2; have hfz4_3 := blk_frozen BK100.out 3; have hfz4_4 := blk_frozen BK100.out 4; have hfz4_5 := blk_frozen BK100.out 5))
  go_ret
  exact ⟨_, zz6, zz23, zz5⟩
 ·rw [if_neg c2] at H; have c2b0 : (a0_3 == 2) = false := beq_eq_false_iff_ne.mpr c2; have c2b1 : (a0_3 != 2) = true := bne_iff_ne.mpr c2; obtain ⟨ji5, hji5⟩ : ∃ j_ : Int, (wrap64 (a0_4 * a0_5)) = j_ := ⟨_, rfl⟩; replace H : (if 0 ≤ (ji5) then (if (ji5 : Int).toNat ≤ 35184372088832 then (some (List.replicate (ji5 : Int).toNat 0)) else (none)) else (none)) = some r := by first | (rw [hji5] at H; exact H) | (simp only [hji5] at H ⊢; exact H)
  have hji5w : (IntKind.i64.wrap (a0_4 * a0_5)) = ji5 := (i64_w _).trans hji5
  by_cases c6 : 0 ≤ (ji5)
  ·rw [if_pos c6] at H; have c6b0 := eq_true c6; have c6b1 : decide (0 ≤ (ji5)) = true := decide_eq_true c6; clear c6
   by_cases c7 : (ji5 : Int).toNat ≤ 35184372088832
   ·rw [if_pos c7] at H; have c7b0 := eq_true c7; have c7b1 : decide ((ji5 : Int).toNat ≤ 35184372088832) = true := decide_eq_true c7; clear c7; obtain ⟨y148, hy148⟩ : ∃ y_ : List Int, y_ = (List.replicate (ji5 : Int).toNat 0) := ⟨_, rfl⟩; replace H : (some y148) = some r := by first | (rw [hy148]; with_reducible exact H) | (have H2_ := (Option.bind_some _ _).symm.trans H; rw [hy148]; with_reducible exact H2_) | (have H2_ := (Option.bind_some _ _).symm.trans H; with_reducible exact H2_) | with_reducible exact H | (rw [hy148]; exact H) | exact H
    have Ny148 := Aside0.mk hy148; clear hy148; obtain rfl := Option.some.inj H
    go_enter Try.func63, Try.ntmps63
    go_wp2_with (first | ((with_reducible refine gate_dst (N := 1) rfl ?_); refine box_event ?hg (N := 1) ?hd (cs := #[.string a0_0, .string a0_1, .int .i64 a0_2, .int .i64 a0_3, .int .i64 a0_4, .int .i64 a0_5]) (t := 30) ?hr ?_; (case hd => rfl); (case hg => rfl); (case hr => first | (go_simp; done) | (go_simp; rfl)); intro gb100 hg w8 hbox hb; have n0_ := Aside0.mk (below_step zz0 hb); have n1_ := Aside0.mk (hbox); have n2_ := Aside0.mk ((zz1 : w.heap.size ≤ gb100)); have n3_ := Aside0.mk ((zz1 : w.heap.size ≤ gb100)); clear HB; have HB := n0_; have BK100 := n1_; have GW100 := n2_; have GE100 := n3_; clear n0_ n1_ n2_ n3_; clear hb hbox hg; have hcz9_0 : w8.cell? ⟨gb100, 0, none⟩ = some (.string a0_0) := cK BK100 0; have hcz9_1 : w8.cell? ⟨gb100, 1, none⟩ = some (.string a0_1) := cK BK100 1; have hcz9_2 : w8.cell? ⟨gb100, 2, none⟩ = some (.int .i64 a0_2) := cK BK100 2; have hcz9_3 : w8.cell? ⟨gb100, 3, none⟩ = some (.int .i64 a0_3) := cK BK100 3; have hcz9_4 : w8.cell? ⟨gb100, 4, none⟩ = some (.int .i64 a0_4) := cK BK100 4; have hcz9_5 : w8.cell? ⟨gb100, 5, none⟩ = some (.int .i64 a0_5) := cK BK100 5; have hfz9_0 := blk_frozen BK100.out 0; have hfz9_1 := blk_frozen BK100.out 1; have hfz9_2 := blk_frozen BK100.out 2; have hfz9_3 := blk_frozen BK100.out 3; have hfz9_4 := blk_frozen BK100.out 4; have hfz9_5 := blk_frozen BK100.out 5) | ((with_reducible refine gate_dst (N := 11) rfl ?_); refine Kd.R_make (Kd.int .i64) _ 2 rfl (N := 11) rfl 31 _ _ rfl ji5 rfl rfl Try.underlying31 (.int .i64 0) 8 info2 rfl (by decide) (by omega) 0 (ok := fun _ => True) (okp := fun _ => True) rfl (fun _ hk => hk) trivial (of_decide_eq_true zz9) (Nat.le_trans (Nat.mul_le_mul_right _ (of_decide_eq_true zz9 : ji5.toNat ≤ 35184372088832)) (by omega)) (Below.refl _ _) (Nat.le_refl _) ?_; intro v149 w10 ho11 hb hg_ hnew_; clear hg_ hnew_; (first | rw [← Ny148.out] at ho11 | (simp only [Int.reduceToNat] at ho11; rw [← Ny148.out] at ho11)); have n0_ := Aside0.mk (Kd.R_lower ho11 (below_size zz5)); have n1_ := Aside0.mk (blk_below (g := gb100) (o := .cells #[.string a0_0, .string a0_1, .int .i64 a0_2, .int .i64 a0_3, .int .i64 a0_4, .int .i64 a0_5] 30 (0, 0)) zz4 hb); have n2_ := Aside0.mk (below_step zz5 hb); clear BK100; clear HB; have HO101 := n0_; have BK100 := n1_; have HB := n2_; clear n0_ n1_ n2_; clear hb ho11))
    go_ret
    exact ⟨_, by first | rfl | (simp [errW_none, errW_some] <;> rfl) | (simp only [← hji5]; first | rfl | (simp [errW_none, errW_some] <;> rfl)) | (simp [*, errW_none, errW_some] <;> rfl), zz24, zz5⟩
   ·rw [if_neg c7] at H; exact absurd H (by simp)
  ·rw [if_neg c6] at H; exact absurd H (by simp)
mutual
def value_EncodeRow.l0 : Nat → List Int → List (S23) → Int → Int → Option (ByteArray)
 | 0, _, _, _, _ => none
 | k + 1, x3, x10, x11, x12 => if x12 < x11 then (if 0 ≤ x12 then (if x12 < (x10.length : Int) then ((value_Clean.f ((rd_T23 x10 x12).f0) ((rd_T23 x10 x12).f1) ((rd_T23 x10 x12).f2)).bind fun bt153 => (if bt153.1 = 1 then (if x3.length < 140737488355328 then (value_EncodeRow.l1 k (x3 ++ [2]) (IntKind.u64.wrap (wrap64 (bt153.2.1 + 4294967296))) 4 x10 x11 x12) else (none)) else (if bt153.1 = 2 then (if x3.length < 140737488355328 then (if bt153.2.2.size ≤ 9223372036854775807 then (value_EncodeRow.l2 k (x3 ++ [3]) x10 x11 x12 (bytesOf bt153.2.2) ((bytesOf bt153.2.2).length : Int) 0) else (none)) else (none)) else (if x3.length < 140737488355328 then (value_EncodeRow.l0 k (x3 ++ [1]) x10 x11 (wrap64 (x12 + 1))) else (none))))) else (none)) else (none)) else (some (strOfNums x3))
def value_EncodeRow.l1 : Nat → List Int → Int → Int → List (S23) → Int → Int → Option (ByteArray)
 | 0, _, _, _, _, _, _ => none
 | k + 1, x3, x6, x7, x10, x11, x12 => if x7 ≥ 0 then (if 0 ≤ (wrap64 (8 * x7)) then (if x3.length < 140737488355328 then (value_EncodeRow.l1 k (x3 ++ [(shr .u64 x6 (wrap64 (8 * x7))) % 256]) x6 (wrap64 (x7 - 1)) x10 x11 x12) else (none)) else (none)) else (value_EncodeRow.l0 k x3 x10 x11 (wrap64 (x12 + 1)))
def value_EncodeRow.l2 : Nat → List Int → List (S23) → Int → Int → List Int → Int → Int → Option (ByteArray)
 | 0, _, _, _, _, _, _, _ => none
 | k + 1, x3, x10, x11, x12, x51, x52, x53 => if x53 < x52 then (if 0 ≤ x53 then (if x53 < (x51.length : Int) then (if x3.length < 140737488355328 then ((some (x3 ++ [rd x51 x53] : List Int)).bind fun y168 => (if (rd x51 x53) = 0 then (if y168.length < 140737488355328 then (value_EncodeRow.l2 k (y168 ++ [255]) x10 x11 x12 x51 x52 (wrap64 (x53 + 1))) else (none)) else (value_EncodeRow.l2 k y168 x10 x11 x12 x51 x52 (wrap64 (x53 + 1))))) else (none)) else (none)) else (none)) else ((some (([0, 0] : List Int) : List Int)).bind fun y174 => (if x3.length + y174.length < 140737488355328 then (value_EncodeRow.l0 k (x3 ++ y174) x10 x11 (wrap64 (x12 + 1))) else (none)))
end
def value_EncodeRow.f (k : Nat) (l0 : List (S23)) : Option (ByteArray) := value_EncodeRow.l0 k ([] : List Int) l0 (l0.length : Int) 0
theorem value_EncodeRow.mono_l : ∀ k, (∀ y0 y1 y2 y3, LeO (value_EncodeRow.l0 k y0 y1 y2 y3) (value_EncodeRow.l0 (k + 1) y0 y1 y2 y3)) ∧ (∀ y0 y1 y2 y3 y4 y5, LeO (value_EncodeRow.l1 k y0 y1 y2 y3 y4 y5) (value_EncodeRow.l1 (k + 1) y0 y1 y2 y3 y4 y5)) ∧ (∀ y0 y1 y2 y3 y4 y5 y6, LeO (value_EncodeRow.l2 k y0 y1 y2 y3 y4 y5 y6) (value_EncodeRow.l2 (k + 1) y0 y1 y2 y3 y4 y5 y6))
 | 0 => ⟨fun _ _ _ _ r h => by simp [value_EncodeRow.l0] at h, fun _ _ _ _ _ _ r h => by simp [value_EncodeRow.l1] at h, fun _ _ _ _ _ _ _ r h => by simp [value_EncodeRow.l2] at h⟩
 | k + 1 => by
  obtain ⟨ih0, ih1, ih2⟩ := value_EncodeRow.mono_l k; refine ⟨?_, ?_, ?_⟩
  ·intro y0 y1 y2 y3; unfold value_EncodeRow.l0
   repeat' first
   | (with_reducible exact ih0 _ _ _ _)
   | (with_reducible exact ih1 _ _ _ _ _ _)
   | (with_reducible exact ih2 _ _ _ _ _ _ _)
   | (with_reducible exact LeO.refl _)
   | (with_reducible exact LeO.none _)
   | (with_reducible refine LeO.ite ?_ ?_)
   | (with_reducible refine LeO.bind ?_ (fun _ => ?_))
   | exact ih0 _ _ _ _
   | exact ih1 _ _ _ _ _ _
   | exact ih2 _ _ _ _ _ _ _
   | exact LeO.none _
   | refine LeO.ite ?_ ?_
   | refine LeO.bind ?_ (fun _ => ?_)
  ·intro y0 y1 y2 y3 y4 y5; unfold value_EncodeRow.l1
   repeat' first
   | (with_reducible exact ih0 _ _ _ _)
   | (with_reducible exact ih1 _ _ _ _ _ _)
   | (with_reducible exact ih2 _ _ _ _ _ _ _)
   | (with_reducible exact LeO.refl _)
   | (with_reducible exact LeO.none _)
   | (with_reducible refine LeO.ite ?_ ?_)
   | (with_reducible refine LeO.bind ?_ (fun _ => ?_))
   | exact ih0 _ _ _ _
   | exact ih1 _ _ _ _ _ _
   | exact ih2 _ _ _ _ _ _ _
   | exact LeO.none _
   | refine LeO.ite ?_ ?_
   | refine LeO.bind ?_ (fun _ => ?_)
  ·intro y0 y1 y2 y3 y4 y5 y6; unfold value_EncodeRow.l2
   repeat' first
   | (with_reducible exact ih0 _ _ _ _)
   | (with_reducible exact ih1 _ _ _ _ _ _)
   | (with_reducible exact ih2 _ _ _ _ _ _ _)
   | (with_reducible exact LeO.refl _)
   | (with_reducible exact LeO.none _)
   | (with_reducible refine LeO.ite ?_ ?_)
   | (with_reducible refine LeO.bind ?_ (fun _ => ?_))
   | exact ih0 _ _ _ _
   | exact ih1 _ _ _ _ _ _
   | exact ih2 _ _ _ _ _ _ _
   | exact LeO.none _
   | refine LeO.ite ?_ ?_
   | refine LeO.bind ?_ (fun _ => ?_)
theorem value_EncodeRow.mono : ∀ a0 k, LeO (value_EncodeRow.f k a0) (value_EncodeRow.f (k + 1) a0) := by
 intro a0 k; obtain ⟨ih0, ih1, ih2⟩ := value_EncodeRow.mono_l k; unfold value_EncodeRow.f
 repeat' first
   | (with_reducible exact ih0 _ _ _ _)
   | (with_reducible exact ih1 _ _ _ _ _ _)
   | (with_reducible exact ih2 _ _ _ _ _ _ _)
   | (with_reducible exact LeO.refl _)
   | (with_reducible exact LeO.none _)
   | (with_reducible refine LeO.ite ?_ ?_)
   | (with_reducible refine LeO.bind ?_ (fun _ => ?_))
   | exact ih0 _ _ _ _
   | exact ih1 _ _ _ _ _ _
   | exact ih2 _ _ _ _ _ _ _
   | exact LeO.none _
   | refine LeO.ite ?_ ?_
   | refine LeO.bind ?_ (fun _ => ?_)
set_option maxHeartbeats 8000000 in
set_option maxRecDepth 100000 in
theorem value_EncodeRow.calls (k : Nat) (A0 : Option Addr) (c0 : Nat) (l0 : List (S23)) (r : ByteArray) (w : World) (hr0 : Kd.C k23 w A0 l0.length l0) (hc0 : l0.length ≤ c0) (h : value_EncodeRow.f k l0 = some r) :
  Calls Try.prog 47 #[.slice A0 l0.length c0] w fun e w' => e = .returned (.string r) ∧ Below w.heap.size w w' := by
 have hu23 := Try.underlying23; have HR0 := Aside0.mk hr0; have HC0 := Aside0.mk hc0; clear hr0 hc0; have HB := Aside0.mk (Below.refl w.heap.size w); have H : (value_EncodeRow.l0 k ([] : List Int) l0 (l0.length : Int) 0) = some r := h; clear h; have H' := Aside0.mk H; clear H
 go_enter Try.func47, Try.ntmps47
 go_wp2
 go_loopg [3, 12] k (fun kq v3 v12 w' => ∃ (x3_1 : List Int) (x12_1 : Int), v12 = .int .i64 x12_1 ∧ Aside0 (value_EncodeRow.l0 kq x3_1 l0 (l0.length : Int) x12_1 = some r) ∧ Aside0 (kq ≤ k) ∧ Aside0 (Kd.R (Kd.int .u8) 5 w' w.heap.size (fun _ => True) v3 x3_1) ∧ Aside0 (Below w.heap.size w w'))
 case atStart => exact ⟨(([] : List Int)), (0), zz2, H', ⟨Nat.le_refl _⟩, ⟨zz23⟩, ⟨zz0⟩⟩
 case round =>
  clear H'; obtain ⟨x3_1, x12_1, rfl, HA, HK1, HO_3, HB⟩ := hrel
  cases gk with
  | zero => exact absurd HA.out (by simp [value_EncodeRow.l0])
  | succ k1 =>
   have H := HA.out; clear HA; simp only [value_EncodeRow.l0] at H
   by_cases c2 : x12_1 < (l0.length : Int)
   ·rw [if_pos c2] at H; have c2b0 : decide (x12_1 < (l0.length : Int)) = true := decide_eq_true c2; clear c2
    by_cases c3 : 0 ≤ x12_1
    ·rw [if_pos c3] at H; have c3b0 : decide (0 ≤ x12_1) = true := decide_eq_true c3; clear c3
     by_cases c4 : x12_1 < (l0.length : Int)
     ·rw [if_pos c4] at H; have c4b0 : decide (x12_1 < (l0.length : Int)) = true := decide_eq_true c4; clear c4; replace H := Option.bind_eq_some_iff.mp H; obtain ⟨⟨t153, t154, t155⟩, A50, H⟩ := H; replace H : (if t153 = 1 then (if x3_1.length < 140737488355328 then (value_EncodeRow.l1 k1 (x3_1 ++ [2]) (IntKind.u64.wrap (wrap64 (t154 + 4294967296))) 4 l0 (l0.length : Int) x12_1) else (none)) else (if t153 = 2 then (if x3_1.length < 140737488355328 then (if t155.size ≤ 9223372036854775807 then (value_EncodeRow.l2 k1 (x3_1 ++ [3]) l0 (l0.length : Int) x12_1 (bytesOf t155) ((bytesOf t155).length : Int) 0) else (none)) else (none)) else (if x3_1.length < 140737488355328 then (value_EncodeRow.l0 k1 (x3_1 ++ [1]) l0 (l0.length : Int) (wrap64 (x12_1 + 1))) else (none)))) = some r := H; have A5 := Aside0.mk A50; clear A50
      by_cases c6 : t153 = 1
      ·rw [if_pos c6] at H; have c6b0 : (t153 == 1) = true := beq_iff_eq.mpr c6; have c6b1 : (t153 != 1) = false := bne_eq_false_iff_eq.mpr c6; clear c6
       by_cases c7 : x3_1.length < 140737488355328
       ·rw [if_pos c7] at H; have LMc7 := Aside0.mk c7; clear c7; obtain ⟨y156, hy156⟩ : ∃ y_ : List Int, y_ = (x3_1 ++ [2]) := ⟨_, rfl⟩; replace H : (value_EncodeRow.l1 k1 y156 (IntKind.u64.wrap (wrap64 (t154 + 4294967296))) 4 l0 (l0.length : Int) x12_1) = some r := by first | (rw [hy156]; with_reducible exact H) | (have H2_ := (Option.bind_some _ _).symm.trans H; rw [hy156]; with_reducible exact H2_) | (have H2_ := (Option.bind_some _ _).symm.trans H; with_reducible exact H2_) | with_reducible exact H | (rw [hy156]; exact H) | exact H
        have Ny156 := Aside0.mk hy156; clear hy156; have H' := Aside0.mk H; clear H; have p151 : 0 ≤ (x12_1 : Int) := of_decide_eq_true zz9; have q151 : x12_1 < (l0.length : Int) := of_decide_eq_true zz9; obtain ⟨ad151, e151, hx151_0, hx151_1, hx151_2⟩ := at_T23 HR0.out x12_1 p151 q151
        cases e151
        replace hx151_0 := cB HB hx151_0; replace hx151_1 := cB HB hx151_1; replace hx151_2 := cB HB hx151_2; replace p151 := eq_true p151; replace q151 := eq_true q151
        go_wp2_with (first | ((with_reducible refine gate_dst (N := 5) rfl ?_); refine box_event ?hg (N := 5) ?hd (cs := #[.int .i64 0, .int .i64 0, .string (⟨#[]⟩ : ByteArray)]) (t := 23) ?hr ?_; (case hd => rfl); (case hg => rfl); (case hr => first | (go_simp; done) | (go_simp; rfl)); intro gb100 hg w8 hbox hb; have n0_ := Aside0.mk (Kd.R_below zz25 hb); have n1_ := Aside0.mk (below_step zz0 hb); have n2_ := Aside0.mk (hbox); have n3_ := Aside0.mk ((zz1 : w.heap.size ≤ gb100)); have n4_ := Aside0.mk ((zz1 : w.heap.size ≤ gb100)); clear HO_3; clear HB; have HO_3 := n0_; have HB := n1_; have BK100 := n2_; have GW100 := n3_; have GE100 := n4_; clear n0_ n1_ n2_ n3_ n4_; clear hb hbox hg; have hcz9_0 : w8.cell? ⟨gb100, 0, none⟩ = some (.int .i64 0) := cK BK100 0; have hcz9_1 : w8.cell? ⟨gb100, 1, none⟩ = some (.int .i64 0) := cK BK100 1; have hcz9_2 : w8.cell? ⟨gb100, 2, none⟩ = some (.string (⟨#[]⟩ : ByteArray)) := cK BK100 2; have hfz9_0 := blk_frozen BK100.out 0; have hfz9_1 := blk_frozen BK100.out 1; have hfz9_2 := blk_frozen BK100.out 2) | ((with_reducible refine gate_callee (f := 85) rfl ?_); refine goesL_ (some 17) rfl rfl Try.func85 (by kernel_rfl) rfl #[.agg #[.int .i64 ((rd_T23 l0 x12_1).f0), .int .i64 ((rd_T23 l0 x12_1).f1), .string ((rd_T23 l0 x12_1).f2)]] rfl zz8 ?_; (with_reducible refine (value_Clean.calls ((rd_T23 l0 x12_1).f0) ((rd_T23 l0 x12_1).f1) ((rd_T23 l0 x12_1).f2) t153 t154 t155 _ A5.out).mono ?_); rintro e w10 ⟨rfl, hb⟩; refine ⟨_, rfl, ?_⟩; have n0_ := Aside0.mk (Kd.R_below zz26 hb); have n1_ := Aside0.mk (blk_below (g := gb100) (o := .cells #[.int .i64 ((rd_T23 l0 x12_1).f0), .int .i64 ((rd_T23 l0 x12_1).f1), .string ((rd_T23 l0 x12_1).f2)] 23 (0, 0)) zz27 hb); have n2_ := Aside0.mk (below_step zz5 hb); clear HO_3; clear BK100; clear HB; have HO_3 := n0_; have BK100 := n1_; have HB := n2_; clear n0_ n1_ n2_; (try clear hb); (try clear hb2); (try clear hk); (try clear hi); have hcz11_0 : w10.cell? ⟨gb100, 0, none⟩ = some (.int .i64 ((rd_T23 l0 x12_1).f0)) := cK BK100 0; have hcz11_1 : w10.cell? ⟨gb100, 1, none⟩ = some (.int .i64 ((rd_T23 l0 x12_1).f1)) := cK BK100 1; have hcz11_2 : w10.cell? ⟨gb100, 2, none⟩ = some (.string ((rd_T23 l0 x12_1).f2)) := cK BK100 2; have hfz11_0 := blk_frozen BK100.out 0; have hfz11_1 := blk_frozen BK100.out 1; have hfz11_2 := blk_frozen BK100.out 2) | ((with_reducible refine gate_builtin (b := .append) (xs := #[.tmp 25, .tmp 26]) rfl ?_); at_builtin; refine Kd.R_append (Kd.int .u8) (w0 := w) w.heap.size rfl (.tmp 25) (.tmp 26) 71 5 (.int .u8 0) 1 rfl Try.underlying71 info5 rfl (by decide) (by omega) u3 x3_1 2 [.int .u8 2] (fun _ => True) (fun _ => False) rfl zz28 ?aP (fun _ hk => hk.elim) ?aF ?aO ?aB ?aS ?aL ?_; (case aP => exact rfl); (case aB => exact zz5); (case aF => exact (fun _ _ => trivial)); (case aO => exact zz29); (case aS => exact (below_size zz5)); (case aL => have := LMc7.out; omega); intro v157 w12 ho hb hg hat; rw [← Ny156.out] at ho; have n0_ := Aside0.mk (blk_grown (g := gb100) (o := .cells #[.int .i64 t153, .int .i64 t154, .string t155] 23 (0, 0)) zz30 hg (Kd.R_ne HO_3.out BK100.out (by decide))); have n1_ := Aside0.mk (hb); have n2_ := Aside0.mk (ho); clear BK100; clear HB; clear HO_3; have BK100 := n0_; have HB := n1_; have HO101 := n2_; clear n0_ n1_ n2_; clear ho hb hg hat; have hcz13_0 : w12.cell? ⟨gb100, 0, none⟩ = some (.int .i64 t153) := cK BK100 0; have hcz13_1 : w12.cell? ⟨gb100, 1, none⟩ = some (.int .i64 t154) := cK BK100 1; have hcz13_2 : w12.cell? ⟨gb100, 2, none⟩ = some (.string t155) := cK BK100 2; have hfz13_0 := blk_frozen BK100.out 0; have hfz13_1 := blk_frozen BK100.out 1; have hfz13_2 := blk_frozen BK100.out 2))
        go_loopg [3, 7] k1 (fun kq v3 v7 w' => ∃ (x3_2 : List Int) (x7_2 : Int), v7 = .int .i64 x7_2 ∧ Aside0 (value_EncodeRow.l1 kq x3_2 (IntKind.u64.wrap (wrap64 (t154 + 4294967296))) x7_2 l0 (l0.length : Int) x12_1 = some r) ∧ Aside0 (kq ≤ k1) ∧ Aside0 (Kd.R (Kd.int .u8) 5 w' w.heap.size (fun _ => True) v3 x3_2) ∧ Aside0 (w'.heap[gb100]? = some (.cells #[.int .i64 t153, .int .i64 t154, .string t155] 23 (0, 0))) ∧ Aside0 (Below w.heap.size w w'))
        case atStart => exact ⟨(y156), (4), zz2, H', ⟨Nat.le_refl _⟩, ⟨zz24⟩, ⟨zz4⟩, ⟨zz5⟩⟩
        case round =>
         clear H'; (try clear p1); (try clear q1); (try clear hx1); (try clear c2); (try clear c2b0); (try clear p2); (try clear c3); (try clear c3b0); (try clear c4); (try clear c4b0); (try clear c6); (try clear c6b0); (try clear c6b1); (try clear p6); (try clear c7); (try clear c8); (try clear hcz11_0); (try clear hcz11_1); (try clear hcz11_2); (try clear hcz13_0); (try clear hcz13_1); (try clear hcz13_2); (try clear hcz9_0); (try clear hcz9_1); (try clear hcz9_2); (try clear hfz11_0); (try clear hfz11_1); (try clear hfz11_2); (try clear hfz13_0); (try clear hfz13_1); (try clear hfz13_2); (try clear hfz9_0); (try clear hfz9_1); (try clear hfz9_2); (try clear hx151_0); (try clear hx151_1); (try clear hx151_2); (try clear p151); (try clear q151); obtain ⟨x3_2, x7_2, rfl, HA, HK2, HO_3, BK100, HB⟩ := hrel
         cases gk with
         | zero => exact absurd HA.out (by simp [value_EncodeRow.l1])
         | succ k2 =>
          have H := HA.out; clear HA; simp only [value_EncodeRow.l1] at H
          by_cases c14 : x7_2 ≥ 0
          ·rw [if_pos c14] at H; have c14b0 : decide (0 ≤ x7_2) = true := decide_eq_true c14; clear c14; obtain ⟨ji15, hji15⟩ : ∃ j_ : Int, (wrap64 (8 * x7_2)) = j_ := ⟨_, rfl⟩; replace H : (if 0 ≤ (ji15) then (if x3_2.length < 140737488355328 then (value_EncodeRow.l1 k2 (x3_2 ++ [(shr .u64 (IntKind.u64.wrap (wrap64 (t154 + 4294967296))) (ji15)) % 256]) (IntKind.u64.wrap (wrap64 (t154 + 4294967296))) (wrap64 (x7_2 - 1)) l0 (l0.length : Int) x12_1) else (none)) else (none)) = some r := by first | (rw [hji15] at H; exact H) | (simp only [hji15] at H ⊢; exact H)
           have hji15w : (IntKind.i64.wrap (8 * x7_2)) = ji15 := (i64_w _).trans hji15
           by_cases c16 : 0 ≤ (ji15)
           ·rw [if_pos c16] at H; have c16b0 := eq_true c16; have c16b1 : decide (0 ≤ (ji15)) = true := decide_eq_true c16; clear c16; obtain ⟨ji17, hji17⟩ : ∃ j_ : Int, (shr .u64 (IntKind.u64.wrap (wrap64 (t154 + 4294967296))) (ji15)) = j_ := ⟨_, rfl⟩; replace H : (if x3_2.length < 140737488355328 then (value_EncodeRow.l1 k2 (x3_2 ++ [(ji17) % 256]) (IntKind.u64.wrap (wrap64 (t154 + 4294967296))) (wrap64 (x7_2 - 1)) l0 (l0.length : Int) x12_1) else (none)) = some r := by first | (rw [hji17] at H; exact H) | (simp only [hji17] at H ⊢; exact H)
            have hji17_ : ((IntKind.u64.wrap (wrap64 (t154 + 4294967296))) / 2 ^ min (ji15).toNat 64) = ji17 := hji17; have hji17z : (ji15) ≤ 64 → ((IntKind.u64.wrap (wrap64 (t154 + 4294967296))) / 2 ^ (ji15).toNat) = ji17 := shr_small hji17
            by_cases c18 : x3_2.length < 140737488355328
            ·rw [if_pos c18] at H; have LMc18 := Aside0.mk c18; clear c18; obtain ⟨y159, hy159⟩ : ∃ y_ : List Int, y_ = (x3_2 ++ [(ji17) % 256]) := ⟨_, rfl⟩; replace H : (value_EncodeRow.l1 k2 y159 (IntKind.u64.wrap (wrap64 (t154 + 4294967296))) (wrap64 (x7_2 - 1)) l0 (l0.length : Int) x12_1) = some r := by first | (rw [hy159]; with_reducible exact H) | (have H2_ := (Option.bind_some _ _).symm.trans H; rw [hy159]; with_reducible exact H2_) | (have H2_ := (Option.bind_some _ _).symm.trans H; with_reducible exact H2_) | with_reducible exact H | (rw [hy159]; exact H) | exact H
             have Ny159 := Aside0.mk hy159; clear hy159; have H' := Aside0.mk H; clear H
             go_wp2_with (first | ((with_reducible refine gate_builtin (b := .append) (xs := #[.tmp 36, .tmp 42]) rfl ?_); at_builtin; refine Kd.R_append (Kd.int .u8) (w0 := w) w.heap.size rfl (.tmp 36) (.tmp 42) 71 5 (.int .u8 0) 1 rfl Try.underlying71 info5 rfl (by decide) (by omega) u3 x3_2 ((ji17) % 256) [.int .u8 ((ji17) % 256)] (fun _ => True) (fun _ => False) rfl rfl ?aP (fun _ hk => hk.elim) ?aF ?aO ?aB ?aS ?aL ?_; (case aP => exact rfl); (case aB => exact zz5); (case aF => exact (fun _ _ => trivial)); (case aO => exact zz25); (case aS => exact (below_size zz5)); (case aL => have := LMc18.out; omega); intro v160 w19 ho hb hg hat; rw [← Ny159.out] at ho; have n0_ := Aside0.mk (blk_grown (g := gb100) (o := .cells #[.int .i64 t153, .int .i64 t154, .string t155] 23 (0, 0)) zz4 hg (Kd.R_ne HO_3.out BK100.out (by decide))); have n1_ := Aside0.mk (hb); have n2_ := Aside0.mk (ho); clear BK100; clear HB; clear HO_3; have BK100 := n0_; have HB := n1_; have HO102 := n2_; clear n0_ n1_ n2_; clear ho hb hg hat))
             go_roundg k2
             case measure => have := HK1.out; have := HK2.out; omega
             case rel => exact ⟨(y159), (wrap64 (x7_2 - 1)), zz2, H', ⟨zz31⟩, ⟨zz32⟩, ⟨zz4⟩, ⟨zz5⟩⟩
            ·rw [if_neg c18] at H; exact absurd H (by simp)
           ·rw [if_neg c16] at H; exact absurd H (by simp)
          ·rw [if_neg c14] at H; have c14b0 : decide (0 ≤ x7_2) = false := decide_eq_false c14; clear c14; have H' := Aside0.mk H; clear H
           go_wp2
           go_roundg k2
           case measure => have := HK1.out; have := HK2.out; omega
           case rel => exact ⟨(x3_2), (wrap64 (x12_1 + 1)), zz2, H', ⟨zz31⟩, ⟨zz25⟩, ⟨zz5⟩⟩
       ·rw [if_neg c7] at H; exact absurd H (by simp)
      ·rw [if_neg c6] at H; have c6b0 : (t153 == 1) = false := beq_eq_false_iff_ne.mpr c6; have c6b1 : (t153 != 1) = true := bne_iff_ne.mpr c6
       by_cases c20 : t153 = 2
       ·rw [if_pos c20] at H; have c20b0 : (t153 == 2) = true := beq_iff_eq.mpr c20; have c20b1 : (t153 != 2) = false := bne_eq_false_iff_eq.mpr c20; clear c20
        by_cases c21 : x3_1.length < 140737488355328
        ·rw [if_pos c21] at H; have LMc21 := Aside0.mk c21; clear c21; obtain ⟨y162, hy162⟩ : ∃ y_ : List Int, y_ = (x3_1 ++ [3]) := ⟨_, rfl⟩; replace H : (if t155.size ≤ 9223372036854775807 then (value_EncodeRow.l2 k1 y162 l0 (l0.length : Int) x12_1 (bytesOf t155) ((bytesOf t155).length : Int) 0) else (none)) = some r := by first | (rw [hy162]; with_reducible exact H) | (have H2_ := (Option.bind_some _ _).symm.trans H; rw [hy162]; with_reducible exact H2_) | (have H2_ := (Option.bind_some _ _).symm.trans H; with_reducible exact H2_) | with_reducible exact H | (rw [hy162]; exact H) | exact H
         have Ny162 := Aside0.mk hy162; clear hy162
         by_cases c22 : t155.size ≤ 9223372036854775807
         ·rw [if_pos c22] at H; have c22b0 := eq_true c22; have c22b1 : decide (t155.size ≤ 9223372036854775807) = true := decide_eq_true c22
          try have c22b2 : (9223372036854775807 < t155.size) = False := eq_false (Nat.not_lt.2 c22)
          clear c22; have H' := Aside0.mk H; clear H; have p151 : 0 ≤ (x12_1 : Int) := of_decide_eq_true zz9; have q151 : x12_1 < (l0.length : Int) := of_decide_eq_true zz9; obtain ⟨ad151, e151, hx151_0, hx151_1, hx151_2⟩ := at_T23 HR0.out x12_1 p151 q151
          cases e151
          replace hx151_0 := cB HB hx151_0; replace hx151_1 := cB HB hx151_1; replace hx151_2 := cB HB hx151_2; replace p151 := eq_true p151; replace q151 := eq_true q151
          go_wp2_with (first | ((with_reducible refine gate_dst (N := 5) rfl ?_); refine box_event ?hg (N := 5) ?hd (cs := #[.int .i64 0, .int .i64 0, .string (⟨#[]⟩ : ByteArray)]) (t := 23) ?hr ?_; (case hd => rfl); (case hg => rfl); (case hr => first | (go_simp; done) | (go_simp; rfl)); intro gb100 hg w23 hbox hb; have n0_ := Aside0.mk (Kd.R_below zz25 hb); have n1_ := Aside0.mk (below_step zz0 hb); have n2_ := Aside0.mk (hbox); have n3_ := Aside0.mk ((zz1 : w.heap.size ≤ gb100)); have n4_ := Aside0.mk ((zz1 : w.heap.size ≤ gb100)); clear HO_3; clear HB; have HO_3 := n0_; have HB := n1_; have BK100 := n2_; have GW100 := n3_; have GE100 := n4_; clear n0_ n1_ n2_ n3_ n4_; clear hb hbox hg; have hcz24_0 : w23.cell? ⟨gb100, 0, none⟩ = some (.int .i64 0) := cK BK100 0; have hcz24_1 : w23.cell? ⟨gb100, 1, none⟩ = some (.int .i64 0) := cK BK100 1; have hcz24_2 : w23.cell? ⟨gb100, 2, none⟩ = some (.string (⟨#[]⟩ : ByteArray)) := cK BK100 2; have hfz24_0 := blk_frozen BK100.out 0; have hfz24_1 := blk_frozen BK100.out 1; have hfz24_2 := blk_frozen BK100.out 2) | ((with_reducible refine gate_callee (f := 85) rfl ?_); refine goesL_ (some 17) rfl rfl Try.func85 (by kernel_rfl) rfl #[.agg #[.int .i64 ((rd_T23 l0 x12_1).f0), .int .i64 ((rd_T23 l0 x12_1).f1), .string ((rd_T23 l0 x12_1).f2)]] rfl zz8 ?_; (with_reducible refine (value_Clean.calls ((rd_T23 l0 x12_1).f0) ((rd_T23 l0 x12_1).f1) ((rd_T23 l0 x12_1).f2) t153 t154 t155 _ A5.out).mono ?_); rintro e w25 ⟨rfl, hb⟩; refine ⟨_, rfl, ?_⟩; have n0_ := Aside0.mk (Kd.R_below zz26 hb); have n1_ := Aside0.mk (blk_below (g := gb100) (o := .cells #[.int .i64 ((rd_T23 l0 x12_1).f0), .int .i64 ((rd_T23 l0 x12_1).f1), .string ((rd_T23 l0 x12_1).f2)] 23 (0, 0)) zz27 hb); have n2_ := Aside0.mk (below_step zz5 hb); clear HO_3; clear BK100; clear HB; have HO_3 := n0_; have BK100 := n1_; have HB := n2_; clear n0_ n1_ n2_; (try clear hb); (try clear hb2); (try clear hk); (try clear hi); have hcz26_0 : w25.cell? ⟨gb100, 0, none⟩ = some (.int .i64 ((rd_T23 l0 x12_1).f0)) := cK BK100 0; have hcz26_1 : w25.cell? ⟨gb100, 1, none⟩ = some (.int .i64 ((rd_T23 l0 x12_1).f1)) := cK BK100 1; have hcz26_2 : w25.cell? ⟨gb100, 2, none⟩ = some (.string ((rd_T23 l0 x12_1).f2)) := cK BK100 2; have hfz26_0 := blk_frozen BK100.out 0; have hfz26_1 := blk_frozen BK100.out 1; have hfz26_2 := blk_frozen BK100.out 2) | ((with_reducible refine gate_builtin (b := .append) (xs := #[.tmp 46, .tmp 47]) rfl ?_); at_builtin; refine Kd.R_append (Kd.int .u8) (w0 := w) w.heap.size rfl (.tmp 46) (.tmp 47) 71 5 (.int .u8 0) 1 rfl Try.underlying71 info5 rfl (by decide) (by omega) u3 x3_1 3 [.int .u8 3] (fun _ => True) (fun _ => False) rfl zz28 ?aP (fun _ hk => hk.elim) ?aF ?aO ?aB ?aS ?aL ?_; (case aP => exact rfl); (case aB => exact zz5); (case aF => exact (fun _ _ => trivial)); (case aO => exact zz29); (case aS => exact (below_size zz5)); (case aL => have := LMc21.out; omega); intro v163 w27 ho hb hg hat; rw [← Ny162.out] at ho; have n0_ := Aside0.mk (blk_grown (g := gb100) (o := .cells #[.int .i64 t153, .int .i64 t154, .string t155] 23 (0, 0)) zz30 hg (Kd.R_ne HO_3.out BK100.out (by decide))); have n1_ := Aside0.mk (hb); have n2_ := Aside0.mk (ho); clear BK100; clear HB; clear HO_3; have BK100 := n0_; have HB := n1_; have HO103 := n2_; clear n0_ n1_ n2_; clear ho hb hg hat; have hcz28_0 : w27.cell? ⟨gb100, 0, none⟩ = some (.int .i64 t153) := cK BK100 0; have hcz28_1 : w27.cell? ⟨gb100, 1, none⟩ = some (.int .i64 t154) := cK BK100 1; have hcz28_2 : w27.cell? ⟨gb100, 2, none⟩ = some (.string t155) := cK BK100 2; have hfz28_0 := blk_frozen BK100.out 0; have hfz28_1 := blk_frozen BK100.out 1; have hfz28_2 := blk_frozen BK100.out 2) | ((with_reducible refine gate_dst (N := 51) rfl ?_); refine own_conv_bytes (N := 51) ?hg ?hd 9 71 5 (.tmp 50) ?ho Try.underlying9 Try.underlying71 Try.underlying5 t155 ?hx (of_decide_eq_true zz9) (base := w.heap.size) ?hb_ ?_; (case hb_ => exact ((below_size zz5))); (case hd => rfl); (case hg => rfl); (case ho => rfl); (case hx => first | rfl | (go_simp; done) | (go_simp; rfl)); intro A166 c166 w29 hc_ hb; have n0_ := Aside0.mk (Kd.R_below zz33 hb); have n1_ := Aside0.mk (blk_below (g := gb100) (o := .cells #[.int .i64 t153, .int .i64 t154, .string t155] 23 (0, 0)) zz4 hb); have n2_ := Aside0.mk (below_step zz5 hb); clear HO103; clear BK100; clear HB; have HO103 := n0_; have BK100 := n1_; have HB := n2_; clear n0_ n1_ n2_; have HR104 := Aside0.mk hc_; have HC104 := Aside0.mk hc_.le; clear hb hc_))
          go_loopg [3, 53] k1 (fun kq v3 v53 w' => ∃ (x3_2 : List Int) (x53_2 : Int), v53 = .int .i64 x53_2 ∧ Aside0 (value_EncodeRow.l2 kq x3_2 l0 (l0.length : Int) x12_1 (bytesOf t155) ((bytesOf t155).length : Int) x53_2 = some r) ∧ Aside0 (kq ≤ k1) ∧ Aside0 (Kd.R (Kd.int .u8) 5 w' w.heap.size (fun _ => True) v3 x3_2) ∧ Aside0 (w'.heap[gb100]? = some (.cells #[.int .i64 t153, .int .i64 t154, .string t155] 23 (0, 0))) ∧ Aside0 (ConvRow w' w.heap.size A166 c166 (bytesOf t155).length (bytesOf t155)) ∧ Aside0 (Below w.heap.size w w'))
          case atStart => exact ⟨(y162), (0), zz2, H', ⟨Nat.le_refl _⟩, ⟨zz33⟩, ⟨zz4⟩, ⟨zz34⟩, ⟨zz5⟩⟩
          case round =>
           clear H'; (try clear c1); (try clear p1); (try clear q1); (try clear hx1); (try clear c2); (try clear c2b0); (try clear p2); (try clear c3); (try clear c3b0); (try clear c4); (try clear c4b0); (try clear c6); (try clear c6b0); (try clear c6b1); (try clear p6); (try clear c7); (try clear c8); (try clear c14); (try clear c14b0); (try clear p15); (try clear q15); (try clear hx15); (try clear c16); (try clear c16b0); (try clear c16b1); (try clear c18); (try clear c20); (try clear c20b0); (try clear c20b1); (try clear c21); (try clear c22); (try clear c22b0); (try clear c22b1); (try clear c22b2); (try clear hcz11_0); (try clear hcz11_1); (try clear hcz11_2); (try clear hcz13_0); (try clear hcz13_1); (try clear hcz13_2); (try clear hcz24_0); (try clear hcz24_1); (try clear hcz24_2); (try clear hcz26_0); (try clear hcz26_1); (try clear hcz26_2); (try clear hcz28_0); (try clear hcz28_1); (try clear hcz28_2); (try clear hcz9_0); (try clear hcz9_1); (try clear hcz9_2); (try clear hfz11_0); (try clear hfz11_1); (try clear hfz11_2); (try clear hfz13_0); (try clear hfz13_1); (try clear hfz13_2); (try clear hfz24_0); (try clear hfz24_1); (try clear hfz24_2); (try clear hfz26_0); (try clear hfz26_1); (try clear hfz26_2); (try clear hfz28_0); (try clear hfz28_1); (try clear hfz28_2); (try clear hfz9_0); (try clear hfz9_1); (try clear hfz9_2); (try clear hx151_0); (try clear hx151_1); (try clear hx151_2); (try clear p1); (try clear p151); (try clear p2); (try clear p6); (try clear q1); (try clear q151); obtain ⟨x3_2, x53_2, rfl, HA, HK2, HO_3, BK100, HR104, HB⟩ := hrel
           cases gk with
           | zero => exact absurd HA.out (by simp [value_EncodeRow.l2])
           | succ k2 =>
            have H := HA.out; clear HA; simp only [value_EncodeRow.l2] at H
            by_cases c30 : x53_2 < ((bytesOf t155).length : Int)
            ·rw [if_pos c30] at H; have c30b0 : decide (x53_2 < ((bytesOf t155).length : Int)) = true := decide_eq_true c30; clear c30
             by_cases c31 : 0 ≤ x53_2
             ·rw [if_pos c31] at H; have c31b0 : decide (0 ≤ x53_2) = true := decide_eq_true c31; clear c31
              by_cases c32 : x53_2 < ((bytesOf t155).length : Int)
              ·rw [if_pos c32] at H; have c32b0 : decide (x53_2 < ((bytesOf t155).length : Int)) = true := decide_eq_true c32; clear c32
               by_cases c33 : x3_2.length < 140737488355328
               ·rw [if_pos c33] at H; have LMc33 := Aside0.mk c33; clear c33; obtain ⟨y168, hy168⟩ : ∃ y_ : List Int, y_ = (x3_2 ++ [rd (bytesOf t155) x53_2]) := ⟨_, rfl⟩; replace H : (if (rd (bytesOf t155) x53_2) = 0 then (if y168.length < 140737488355328 then (value_EncodeRow.l2 k2 (y168 ++ [255]) l0 (l0.length : Int) x12_1 (bytesOf t155) ((bytesOf t155).length : Int) (wrap64 (x53_2 + 1))) else (none)) else (value_EncodeRow.l2 k2 y168 l0 (l0.length : Int) x12_1 (bytesOf t155) ((bytesOf t155).length : Int) (wrap64 (x53_2 + 1)))) = some r := by first | (rw [hy168]; with_reducible exact H) | (have H2_ := (Option.bind_some _ _).symm.trans H; rw [hy168]; with_reducible exact H2_) | (have H2_ := (Option.bind_some _ _).symm.trans H; with_reducible exact H2_) | with_reducible exact H | (rw [hy168]; exact H) | exact H
                have Ny168 := Aside0.mk hy168; clear hy168
                by_cases c34 : (rd (bytesOf t155) x53_2) = 0
                ·rw [if_pos c34] at H; have c34b0 : ((rd (bytesOf t155) x53_2) == 0) = true := beq_iff_eq.mpr c34; have c34b1 : ((rd (bytesOf t155) x53_2) != 0) = false := bne_eq_false_iff_eq.mpr c34; clear c34
                 by_cases c35 : y168.length < 140737488355328
                 ·rw [if_pos c35] at H; have LMc35 := Aside0.mk c35; clear c35; obtain ⟨y171, hy171⟩ : ∃ y_ : List Int, y_ = (y168 ++ [255]) := ⟨_, rfl⟩; replace H : (value_EncodeRow.l2 k2 y171 l0 (l0.length : Int) x12_1 (bytesOf t155) ((bytesOf t155).length : Int) (wrap64 (x53_2 + 1))) = some r := by first | (rw [hy171]; with_reducible exact H) | (have H2_ := (Option.bind_some _ _).symm.trans H; rw [hy171]; with_reducible exact H2_) | (have H2_ := (Option.bind_some _ _).symm.trans H; with_reducible exact H2_) | with_reducible exact H | (rw [hy171]; exact H) | exact H
                  have Ny171 := Aside0.mk hy171; clear hy171; have H' := Aside0.mk H; clear H; have p167 : 0 ≤ (x53_2 : Int) := of_decide_eq_true zz9; have q167 : x53_2 < ((bytesOf t155).length : Int) := of_decide_eq_true zz9; obtain ⟨ad167, e167, hx167_0⟩ := Kd.at_int (ConvRow.reads zz34) x53_2 p167 q167
                  cases e167
                  replace p167 := eq_true p167; replace q167 := eq_true q167
                  go_wp2_with (first | ((with_reducible refine gate_builtin (b := .append) (xs := #[.tmp 57, .tmp 59]) rfl ?_); at_builtin; refine Kd.R_append (Kd.int .u8) (w0 := w) w.heap.size rfl (.tmp 57) (.tmp 59) 71 5 (.int .u8 0) 1 rfl Try.underlying71 info5 rfl (by decide) (by omega) u3 x3_2 (rd (bytesOf t155) x53_2) [.int .u8 (rd (bytesOf t155) x53_2)] (fun _ => True) (fun _ => False) rfl rfl ?aP (fun _ hk => hk.elim) ?aF ?aO ?aB ?aS ?aL ?_; (case aP => exact rfl); (case aB => exact zz5); (case aF => exact (fun _ _ => trivial)); (case aO => exact zz25); (case aS => exact (below_size zz5)); (case aL => have := LMc33.out; omega); intro v169 w36 ho hb hg hat; rw [← Ny168.out] at ho; have n0_ := Aside0.mk (blk_grown (g := gb100) (o := .cells #[.int .i64 t153, .int .i64 t154, .string t155] 23 (0, 0)) zz4 hg (Kd.R_ne HO_3.out BK100.out (by decide))); have n1_ := Aside0.mk (hb); have n2_ := Aside0.mk (ConvRow.grown zz34 hg (Kd.R_typed zz25)); have n3_ := Aside0.mk (ho); clear BK100; clear HB; clear HR104; clear HO_3; have BK100 := n0_; have HB := n1_; have HR104 := n2_; have HO105 := n3_; clear n0_ n1_ n2_ n3_; clear ho hb hg hat) | ((with_reducible refine gate_builtin (b := .append) (xs := #[.tmp 63, .tmp 64]) rfl ?_); at_builtin; refine Kd.R_append (Kd.int .u8) (w0 := w) w.heap.size rfl (.tmp 63) (.tmp 64) 71 5 (.int .u8 0) 1 rfl Try.underlying71 info5 rfl (by decide) (by omega) v169 y168 255 [.int .u8 255] (fun _ => True) (fun _ => False) rfl rfl ?aP (fun _ hk => hk.elim) ?aF ?aO ?aB ?aS ?aL ?_; (case aP => exact rfl); (case aB => exact zz5); (case aF => exact (fun _ _ => trivial)); (case aO => exact zz35); (case aS => exact (below_size zz5)); (case aL => have := LMc35.out; omega); intro v172 w37 ho hb hg hat; rw [← Ny171.out] at ho; have n0_ := Aside0.mk (blk_grown (g := gb100) (o := .cells #[.int .i64 t153, .int .i64 t154, .string t155] 23 (0, 0)) zz4 hg (Kd.R_ne HO105.out BK100.out (by decide))); have n1_ := Aside0.mk (hb); have n2_ := Aside0.mk (ConvRow.grown zz34 hg (Kd.R_typed zz35)); have n3_ := Aside0.mk (ho); clear BK100; clear HB; clear HR104; clear HO105; have BK100 := n0_; have HB := n1_; have HR104 := n2_; have HO106 := n3_; clear n0_ n1_ n2_ n3_; clear ho hb hg hat))
                  go_roundg k2
                  case measure => have := HK1.out; have := HK2.out; omega
                  case rel => exact ⟨(y171), (wrap64 (x53_2 + 1)), zz2, H', ⟨zz31⟩, ⟨zz36⟩, ⟨zz4⟩, ⟨zz34⟩, ⟨zz5⟩⟩
                 ·rw [if_neg c35] at H; exact absurd H (by simp)
                ·rw [if_neg c34] at H; have c34b0 : ((rd (bytesOf t155) x53_2) == 0) = false := beq_eq_false_iff_ne.mpr c34; have c34b1 : ((rd (bytesOf t155) x53_2) != 0) = true := bne_iff_ne.mpr c34; have H' := Aside0.mk H; clear H; have p167 : 0 ≤ (x53_2 : Int) := of_decide_eq_true zz9; have q167 : x53_2 < ((bytesOf t155).length : Int) := of_decide_eq_true zz9; obtain ⟨ad167, e167, hx167_0⟩ := Kd.at_int (ConvRow.reads zz34) x53_2 p167 q167
                 cases e167
                 replace p167 := eq_true p167; replace q167 := eq_true q167
                 go_wp2_with (first | ((with_reducible refine gate_builtin (b := .append) (xs := #[.tmp 57, .tmp 59]) rfl ?_); at_builtin; refine Kd.R_append (Kd.int .u8) (w0 := w) w.heap.size rfl (.tmp 57) (.tmp 59) 71 5 (.int .u8 0) 1 rfl Try.underlying71 info5 rfl (by decide) (by omega) u3 x3_2 (rd (bytesOf t155) x53_2) [.int .u8 (rd (bytesOf t155) x53_2)] (fun _ => True) (fun _ => False) rfl rfl ?aP (fun _ hk => hk.elim) ?aF ?aO ?aB ?aS ?aL ?_; (case aP => exact rfl); (case aB => exact zz5); (case aF => exact (fun _ _ => trivial)); (case aO => exact zz25); (case aS => exact (below_size zz5)); (case aL => have := LMc33.out; omega); intro v169 w38 ho hb hg hat; rw [← Ny168.out] at ho; have n0_ := Aside0.mk (blk_grown (g := gb100) (o := .cells #[.int .i64 t153, .int .i64 t154, .string t155] 23 (0, 0)) zz4 hg (Kd.R_ne HO_3.out BK100.out (by decide))); have n1_ := Aside0.mk (hb); have n2_ := Aside0.mk (ConvRow.grown zz34 hg (Kd.R_typed zz25)); have n3_ := Aside0.mk (ho); clear BK100; clear HB; clear HR104; clear HO_3; have BK100 := n0_; have HB := n1_; have HR104 := n2_; have HO105 := n3_; clear n0_ n1_ n2_ n3_; clear ho hb hg hat))
                 go_roundg k2
                 case measure => have := HK1.out; have := HK2.out; omega
                 case rel => exact ⟨(y168), (wrap64 (x53_2 + 1)), zz2, H', ⟨zz31⟩, ⟨zz35⟩, ⟨zz4⟩, ⟨zz34⟩, ⟨zz5⟩⟩
               ·rw [if_neg c33] at H; exact absurd H (by simp)
              ·rw [if_neg c32] at H; exact absurd H (by simp)
             ·rw [if_neg c31] at H; exact absurd H (by simp)
            ·rw [if_neg c30] at H; have c30b0 : decide (x53_2 < ((bytesOf t155).length : Int)) = false := decide_eq_false c30; clear c30; obtain ⟨y174, hy174⟩ : ∃ y_ : List Int, y_ = (([0, 0] : List Int)) := ⟨_, rfl⟩; replace H : (if x3_2.length + y174.length < 140737488355328 then (value_EncodeRow.l0 k2 (x3_2 ++ y174) l0 (l0.length : Int) (wrap64 (x12_1 + 1))) else (none)) = some r := by first | (rw [hy174]; with_reducible exact H) | (have H2_ := (Option.bind_some _ _).symm.trans H; rw [hy174]; with_reducible exact H2_) | (have H2_ := (Option.bind_some _ _).symm.trans H; with_reducible exact H2_) | with_reducible exact H | (rw [hy174]; exact H) | exact H
             have Ny174 := Aside0.mk hy174; clear hy174
             by_cases c39 : x3_2.length + y174.length < 140737488355328
             ·rw [if_pos c39] at H; have LMc39 := Aside0.mk c39; clear c39; obtain ⟨y177, hy177⟩ : ∃ y_ : List Int, y_ = (x3_2 ++ y174) := ⟨_, rfl⟩; replace H : (value_EncodeRow.l0 k2 y177 l0 (l0.length : Int) (wrap64 (x12_1 + 1))) = some r := by first | (rw [hy177]; with_reducible exact H) | (have H2_ := (Option.bind_some _ _).symm.trans H; rw [hy177]; with_reducible exact H2_) | (have H2_ := (Option.bind_some _ _).symm.trans H; with_reducible exact H2_) | with_reducible exact H | (rw [hy177]; exact H) | exact H
              have Ny177 := Aside0.mk hy177; clear hy177; have H' := Aside0.mk H; clear H
              go_wp2_with (first | ((with_reducible refine gate_dst (N := 68) rfl ?_); refine Kd.R_lit (Kd.int .u8) _ 5 ?hg (N := 68) ?hd (xs := ([0, 0] : List Int)) (inner := [.int .u8 0, .int .u8 0]) (ok := fun _ => True) (okp := fun _ => True) ?hr ?hp (fun _ hk => hk) trivial (Below.refl _ _) (Nat.le_refl _) (by simp) ?_; (case hd => rfl); (case hg => rfl); (case hr => first | (go_simp; done) | (go_simp; rfl)); (case hp => exact (Reps.one (show Kd.M (Kd.int .u8) _ _ _ 0 [.int .u8 0] from rfl) (Reps.one (show Kd.M (Kd.int .u8) _ _ _ 0 [.int .u8 0] from rfl) (Reps.none _ _)))); intro v175 w40 ho41 hb hg_ hnew_; clear hg_ hnew_; (first | rw [← Ny174.out] at ho41 | (simp only [Int.reduceToNat] at ho41; rw [← Ny174.out] at ho41)); have n0_ := Aside0.mk (Kd.R_elder' zz25 (Kd.R_base ho41) hb); have n1_ := Aside0.mk (Kd.R_lower (Kd.R_new' ho41 (Kd.R_lt zz25)) (below_size zz5)); have n2_ := Aside0.mk (blk_below (g := gb100) (o := .cells #[.int .i64 t153, .int .i64 t154, .string t155] 23 (0, 0)) zz4 hb); have n3_ := Aside0.mk (ConvRow.below zz34 hb); have n4_ := Aside0.mk (below_step zz5 hb); clear HO_3; clear BK100; clear HR104; clear HB; have HO_3 := n0_; have HO107 := n1_; have BK100 := n2_; have HR104 := n3_; have HB := n4_; clear n0_ n1_ n2_ n3_ n4_; clear hb ho41; obtain ⟨Ao43, co43, eo43⟩ := Kd.R_slice HO107.out; subst eo43) | ((with_reducible refine gate_builtin (b := .append) (xs := #[.tmp 67, .tmp 68]) rfl ?_); at_builtin; refine Kd.R_append_rows (Kd.int .u8) (w0 := w) w.heap.size rfl (.tmp 67) (.tmp 68) 71 5 (.int .u8 0) 1 rfl Try.underlying71 info5 rfl (by decide) (by omega) u3 x3_2 y174 _ _ _ (fun k_ => some k_ ≠ (.slice Ao43 y174.length co43 : Value).ownBlock) (fun _ => False) rfl rfl ?aO ?aR (fun _ _ h => h) (fun _ h => h.elim) ?aF ?aB ?aS ?aL ?_; (case aR => repeat (first | exact (Kd.R_reads' HO107.out).2.2 | (with_reducible refine Kd.C_alloc ?_ _) | (with_reducible refine Kd.C_drewN ?_ _) | (with_reducible refine Kd.C_drew ?_))); (case aB => exact zz5); (case aF => exact (fun k_ hk => Kd.fresh' (Kd.R_lt (by (with_reducible repeat (first | apply Kd.R_alloc | apply Kd.R_drewN | apply Kd.R_drew)); exact HO107.out)) k_ hk)); (case aO => exact (by (with_reducible repeat (first | apply Kd.R_alloc | apply Kd.R_drewN | apply Kd.R_drew)); exact Kd.R_mono HO_3.out (fun _ hk => hk.2))); (case aS => exact (below_size zz5)); (case aL => have := LMc39.out; omega); intro v178 w42 ho hb hg hat; rw [← Ny177.out] at ho; have n0_ := Aside0.mk (blk_grown (g := gb100) (o := .cells #[.int .i64 t153, .int .i64 t154, .string t155] 23 (0, 0)) zz4 hg (Kd.R_ne HO_3.out BK100.out (by decide))); have n1_ := Aside0.mk (Kd.R_after (ok := (fun _ => True)) (by (with_reducible repeat (first | apply Kd.R_alloc | apply Kd.R_drewN | apply Kd.R_drew)); exact HO107.out) hg hat); have n2_ := Aside0.mk (hb); have n3_ := Aside0.mk (ConvRow.grown zz34 hg (Kd.R_typed zz25)); have n4_ := Aside0.mk (ho); clear BK100; clear HO107; clear HB; clear HR104; clear HO_3; have BK100 := n0_; have HO107 := n1_; have HB := n2_; have HR104 := n3_; have HO108 := n4_; clear n0_ n1_ n2_ n3_ n4_; clear ho hb hg hat))
              go_roundg k2
              case measure => have := HK1.out; have := HK2.out; omega
              case rel => exact ⟨(y177), (wrap64 (x12_1 + 1)), zz2, H', ⟨zz31⟩, ⟨by (with_reducible repeat (first | apply Kd.R_alloc | apply Kd.R_drewN | apply Kd.R_drew)); exact Kd.R_mono HO108.out (fun _ hk => trivial)⟩, ⟨zz5⟩⟩
             ·rw [if_neg c39] at H; exact absurd H (by simp)
         ·rw [if_neg c22] at H; exact absurd H (by simp)
        ·rw [if_neg c21] at H; exact absurd H (by simp)
       ·rw [if_neg c20] at H; have c20b0 : (t153 == 2) = false := beq_eq_false_iff_ne.mpr c20; have c20b1 : (t153 != 2) = true := bne_iff_ne.mpr c20
        by_cases c44 : x3_1.length < 140737488355328
        ·rw [if_pos c44] at H; have LMc44 := Aside0.mk c44; clear c44; obtain ⟨y180, hy180⟩ : ∃ y_ : List Int, y_ = (x3_1 ++ [1]) := ⟨_, rfl⟩; replace H : (value_EncodeRow.l0 k1 y180 l0 (l0.length : Int) (wrap64 (x12_1 + 1))) = some r := by first | (rw [hy180]; with_reducible exact H) | (have H2_ := (Option.bind_some _ _).symm.trans H; rw [hy180]; with_reducible exact H2_) | (have H2_ := (Option.bind_some _ _).symm.trans H; with_reducible exact H2_) | with_reducible exact H | (rw [hy180]; exact H) | exact H
         have Ny180 := Aside0.mk hy180; clear hy180; have H' := Aside0.mk H; clear H; have p151 : 0 ≤ (x12_1 : Int) := of_decide_eq_true zz9; have q151 : x12_1 < (l0.length : Int) := of_decide_eq_true zz9; obtain ⟨ad151, e151, hx151_0, hx151_1, hx151_2⟩ := at_T23 HR0.out x12_1 p151 q151
         cases e151
         replace hx151_0 := cB HB hx151_0; replace hx151_1 := cB HB hx151_1; replace hx151_2 := cB HB hx151_2; replace p151 := eq_true p151; replace q151 := eq_true q151
         go_wp2_with (first | ((with_reducible refine gate_dst (N := 5) rfl ?_); refine box_event ?hg (N := 5) ?hd (cs := #[.int .i64 0, .int .i64 0, .string (⟨#[]⟩ : ByteArray)]) (t := 23) ?hr ?_; (case hd => rfl); (case hg => rfl); (case hr => first | (go_simp; done) | (go_simp; rfl)); intro gb100 hg w45 hbox hb; have n0_ := Aside0.mk (Kd.R_below zz25 hb); have n1_ := Aside0.mk (below_step zz0 hb); have n2_ := Aside0.mk (hbox); have n3_ := Aside0.mk ((zz1 : w.heap.size ≤ gb100)); have n4_ := Aside0.mk ((zz1 : w.heap.size ≤ gb100)); clear HO_3; clear HB; have HO_3 := n0_; have HB := n1_; have BK100 := n2_; have GW100 := n3_; have GE100 := n4_; clear n0_ n1_ n2_ n3_ n4_; clear hb hbox hg; have hcz46_0 : w45.cell? ⟨gb100, 0, none⟩ = some (.int .i64 0) := cK BK100 0; have hcz46_1 : w45.cell? ⟨gb100, 1, none⟩ = some (.int .i64 0) := cK BK100 1; have hcz46_2 : w45.cell? ⟨gb100, 2, none⟩ = some (.string (⟨#[]⟩ : ByteArray)) := cK BK100 2; have hfz46_0 := blk_frozen BK100.out 0; have hfz46_1 := blk_frozen BK100.out 1; have hfz46_2 := blk_frozen BK100.out 2) | ((with_reducible refine gate_callee (f := 85) rfl ?_); refine goesL_ (some 17) rfl rfl Try.func85 (by kernel_rfl) rfl #[.agg #[.int .i64 ((rd_T23 l0 x12_1).f0), .int .i64 ((rd_T23 l0 x12_1).f1), .string ((rd_T23 l0 x12_1).f2)]] rfl zz8 ?_; (with_reducible refine (value_Clean.calls ((rd_T23 l0 x12_1).f0) ((rd_T23 l0 x12_1).f1) ((rd_T23 l0 x12_1).f2) t153 t154 t155 _ A5.out).mono ?_); rintro e w47 ⟨rfl, hb⟩; refine ⟨_, rfl, ?_⟩; have n0_ := Aside0.mk (Kd.R_below zz26 hb); have n1_ := Aside0.mk (blk_below (g := gb100) (o := .cells #[.int .i64 ((rd_T23 l0 x12_1).f0), .int .i64 ((rd_T23 l0 x12_1).f1), .string ((rd_T23 l0 x12_1).f2)] 23 (0, 0)) zz27 hb); have n2_ := Aside0.mk (below_step zz5 hb); clear HO_3; clear BK100; clear HB; have HO_3 := n0_; have BK100 := n1_; have HB := n2_; clear n0_ n1_ n2_; (try clear hb); (try clear hb2); (try clear hk); (try clear hi); have hcz48_0 : w47.cell? ⟨gb100, 0, none⟩ = some (.int .i64 ((rd_T23 l0 x12_1).f0)) := cK BK100 0; have hcz48_1 : w47.cell? ⟨gb100, 1, none⟩ = some (.int .i64 ((rd_T23 l0 x12_1).f1)) := cK BK100 1; have hcz48_2 : w47.cell? ⟨gb100, 2, none⟩ = some (.string ((rd_T23 l0 x12_1).f2)) := cK BK100 2; have hfz48_0 := blk_frozen BK100.out 0; have hfz48_1 := blk_frozen BK100.out 1; have hfz48_2 := blk_frozen BK100.out 2) | ((with_reducible refine gate_builtin (b := .append) (xs := #[.tmp 20, .tmp 21]) rfl ?_); at_builtin; refine Kd.R_append (Kd.int .u8) (w0 := w) w.heap.size rfl (.tmp 20) (.tmp 21) 71 5 (.int .u8 0) 1 rfl Try.underlying71 info5 rfl (by decide) (by omega) u3 x3_1 1 [.int .u8 1] (fun _ => True) (fun _ => False) rfl zz28 ?aP (fun _ hk => hk.elim) ?aF ?aO ?aB ?aS ?aL ?_; (case aP => exact rfl); (case aB => exact zz5); (case aF => exact (fun _ _ => trivial)); (case aO => exact zz29); (case aS => exact (below_size zz5)); (case aL => have := LMc44.out; omega); intro v181 w49 ho hb hg hat; rw [← Ny180.out] at ho; have n0_ := Aside0.mk (blk_grown (g := gb100) (o := .cells #[.int .i64 t153, .int .i64 t154, .string t155] 23 (0, 0)) zz30 hg (Kd.R_ne HO_3.out BK100.out (by decide))); have n1_ := Aside0.mk (hb); have n2_ := Aside0.mk (ho); clear BK100; clear HB; clear HO_3; have BK100 := n0_; have HB := n1_; have HO109 := n2_; clear n0_ n1_ n2_; clear ho hb hg hat))
         go_roundg k1
         case measure => have := HK1.out; omega
         case rel => exact ⟨(y180), (wrap64 (x12_1 + 1)), zz2, H', ⟨by have := HK1.out; omega⟩, ⟨by (with_reducible repeat (first | apply Kd.R_alloc | apply Kd.R_drewN | apply Kd.R_drew)); exact HO109.out⟩, ⟨zz5⟩⟩
        ·rw [if_neg c44] at H; exact absurd H (by simp)
     ·rw [if_neg c4] at H; exact absurd H (by simp)
    ·rw [if_neg c3] at H; exact absurd H (by simp)
   ·rw [if_neg c2] at H; have c2b0 : decide (x12_1 < (l0.length : Int)) = false := decide_eq_false c2; clear c2; obtain rfl := Option.some.inj H; have hcv50 := own_string (P := Try.prog) Try.underlying71 Try.underlying5 Try.underlying9 (Kd.own_of_R HO_3.out)
    go_wp2
    go_ret
    exact ⟨zz6, zz0⟩
def sketch_Hash.l0 : Nat → Int → List Int → Int → Int → Option (Int)
 | 0, _, _, _, _ => none
 | k + 1, x5, x15, x16, x17 => if x17 < x16 then (if 0 ≤ x17 then (if x17 < (x15.length : Int) then (sketch_Hash.l0 k (IntKind.u64.wrap ((Go.bits .xor .u64 x5 (IntKind.u64.wrap (rd x15 x17))) * 1099511628211)) x15 x16 (wrap64 (x17 + 1))) else (none)) else (none)) else (some x5)
def sketch_Hash.f (k : Nat) (a0_0 : Int) (a0_1 : Int) (a0_2 : ByteArray) (a1 : Int) : Option (Int) := (value_EncodeRow.f k (([(⟨a0_0, a0_1, a0_2⟩ : S23)] : List (S23)))).bind fun t187 => (if t187.size ≤ 9223372036854775807 then (if (bytesOf t187).length < 140737488355328 then ((some ((bytesOf t187) ++ [(a1) % 256] : List Int)).bind fun y190 => (sketch_Hash.l0 k 14695981039346656037 y190 (y190.length : Int) 0)) else (none)) else (none))
theorem sketch_Hash.mono_l : ∀ k, (∀ y0 y1 y2 y3, LeO (sketch_Hash.l0 k y0 y1 y2 y3) (sketch_Hash.l0 (k + 1) y0 y1 y2 y3))
 | 0 => fun _ _ _ _ r h => by simp [sketch_Hash.l0] at h
 | k + 1 => by
  have ih0 := sketch_Hash.mono_l k
  ·intro y0 y1 y2 y3; unfold sketch_Hash.l0
   repeat' first
   | (with_reducible exact ih0 _ _ _ _)
   | (with_reducible exact value_EncodeRow.mono _ _)
   | (with_reducible exact LeO.refl _)
   | (with_reducible exact LeO.none _)
   | (with_reducible refine LeO.ite ?_ ?_)
   | (with_reducible refine LeO.bind ?_ (fun _ => ?_))
   | exact ih0 _ _ _ _
   | exact value_EncodeRow.mono _ _
   | exact LeO.none _
   | refine LeO.ite ?_ ?_
   | refine LeO.bind ?_ (fun _ => ?_)
theorem sketch_Hash.mono : ∀ a0 a1 a2 a3 k, LeO (sketch_Hash.f k a0 a1 a2 a3) (sketch_Hash.f (k + 1) a0 a1 a2 a3) := by
 intro a0 a1 a2 a3 k; have ih0 := sketch_Hash.mono_l k; unfold sketch_Hash.f
 repeat' first
   | (with_reducible exact ih0 _ _ _ _)
   | (with_reducible exact value_EncodeRow.mono _ _)
   | (with_reducible exact LeO.refl _)
   | (with_reducible exact LeO.none _)
   | (with_reducible refine LeO.ite ?_ ?_)
   | (with_reducible refine LeO.bind ?_ (fun _ => ?_))
   | exact ih0 _ _ _ _
   | exact value_EncodeRow.mono _ _
   | exact LeO.none _
   | refine LeO.ite ?_ ?_
   | refine LeO.bind ?_ (fun _ => ?_)
set_option maxHeartbeats 8000000 in
set_option maxRecDepth 100000 in
theorem sketch_Hash.calls (k : Nat) (a0_0 : Int) (a0_1 : Int) (a0_2 : ByteArray) (a1 : Int) (r : Int) (w : World) (h : sketch_Hash.f k a0_0 a0_1 a0_2 a1 = some r) :
  Calls Try.prog 15 #[.agg #[.int .i64 a0_0, .int .i64 a0_1, .string a0_2], .int .i64 a1] w fun e w' => e = .returned (.int .u64 r) ∧ Below w.heap.size w w' := by
 have hu23 := Try.underlying23; have HB := Aside0.mk (Below.refl w.heap.size w); have H : ((value_EncodeRow.f k (([(⟨a0_0, a0_1, a0_2⟩ : S23)] : List (S23)))).bind fun t187 => (if t187.size ≤ 9223372036854775807 then (if (bytesOf t187).length < 140737488355328 then ((some ((bytesOf t187) ++ [(a1) % 256] : List Int)).bind fun y190 => (sketch_Hash.l0 k 14695981039346656037 y190 (y190.length : Int) 0)) else (none)) else (none))) = some r := h; clear h; obtain ⟨y184, hy184⟩ : ∃ y_ : List (S23), y_ = (([(⟨a0_0, a0_1, a0_2⟩ : S23)] : List (S23))) := ⟨_, rfl⟩; replace H : ((value_EncodeRow.f k y184).bind fun t187 => (if t187.size ≤ 9223372036854775807 then (if (bytesOf t187).length < 140737488355328 then ((some ((bytesOf t187) ++ [(a1) % 256] : List Int)).bind fun y190 => (sketch_Hash.l0 k 14695981039346656037 y190 (y190.length : Int) 0)) else (none)) else (none))) = some r := by first | (rw [hy184]; with_reducible exact H) | (have H2_ := (Option.bind_some _ _).symm.trans H; rw [hy184]; with_reducible exact H2_) | (have H2_ := (Option.bind_some _ _).symm.trans H; with_reducible exact H2_) | with_reducible exact H | (rw [hy184]; exact H) | exact H
 have Ny184 := Aside0.mk hy184; clear hy184; replace H := Option.bind_eq_some_iff.mp H; obtain ⟨t187, A30, H⟩ := H; replace H : (if t187.size ≤ 9223372036854775807 then (if (bytesOf t187).length < 140737488355328 then ((some ((bytesOf t187) ++ [(a1) % 256] : List Int)).bind fun y190 => (sketch_Hash.l0 k 14695981039346656037 y190 (y190.length : Int) 0)) else (none)) else (none)) = some r := H; have A3 := Aside0.mk A30; clear A30
 by_cases c4 : t187.size ≤ 9223372036854775807
 ·rw [if_pos c4] at H; have c4b0 := eq_true c4; have c4b1 : decide (t187.size ≤ 9223372036854775807) = true := decide_eq_true c4
  try have c4b2 : (9223372036854775807 < t187.size) = False := eq_false (Nat.not_lt.2 c4)
  clear c4
  by_cases c5 : (bytesOf t187).length < 140737488355328
  ·rw [if_pos c5] at H; have LMc5 := Aside0.mk c5; clear c5; obtain ⟨y190, hy190⟩ : ∃ y_ : List Int, y_ = ((bytesOf t187) ++ [(a1) % 256]) := ⟨_, rfl⟩; replace H : (sketch_Hash.l0 k 14695981039346656037 y190 (y190.length : Int) 0) = some r := by first | (rw [hy190]; with_reducible exact H) | (have H2_ := (Option.bind_some _ _).symm.trans H; rw [hy190]; with_reducible exact H2_) | (have H2_ := (Option.bind_some _ _).symm.trans H; with_reducible exact H2_) | with_reducible exact H | (rw [hy190]; exact H) | exact H
   have Ny190 := Aside0.mk hy190; clear hy190; have H' := Aside0.mk H; clear H
   go_enter Try.func15, Try.ntmps15
   go_wp2_with (first | ((with_reducible refine gate_dst (N := 2) rfl ?_); refine box_event ?hg (N := 2) ?hd (cs := #[.int .i64 a0_0, .int .i64 a0_1, .string a0_2]) (t := 23) ?hr ?_; (case hd => rfl); (case hg => rfl); (case hr => first | (go_simp; done) | (go_simp; rfl)); intro gb100 hg w6 hbox hb; have n0_ := Aside0.mk (below_step zz0 hb); have n1_ := Aside0.mk (hbox); have n2_ := Aside0.mk ((zz1 : w.heap.size ≤ gb100)); have n3_ := Aside0.mk ((zz1 : w.heap.size ≤ gb100)); clear HB; have HB := n0_; have BK100 := n1_; have GW100 := n2_; have GE100 := n3_; clear n0_ n1_ n2_ n3_; clear hb hbox hg; have hcz7_0 : w6.cell? ⟨gb100, 0, none⟩ = some (.int .i64 a0_0) := cK BK100 0; have hcz7_1 : w6.cell? ⟨gb100, 1, none⟩ = some (.int .i64 a0_1) := cK BK100 1; have hcz7_2 : w6.cell? ⟨gb100, 2, none⟩ = some (.string a0_2) := cK BK100 2; have hfz7_0 := blk_frozen BK100.out 0; have hfz7_1 := blk_frozen BK100.out 1; have hfz7_2 := blk_frozen BK100.out 2) | ((with_reducible refine gate_dst (N := 9) rfl ?_); refine Kd.R_lit k23 _ 23 ?hg (N := 9) ?hd (xs := ([(⟨a0_0, a0_1, a0_2⟩ : S23)] : List (S23))) (inner := [.int .i64 a0_0, .int .i64 a0_1, .string a0_2]) (ok := fun _ => True) (okp := fun _ => True) ?hr ?hp (fun _ hk => hk) trivial (Below.refl _ _) (Nat.le_refl _) (by simp) ?_; (case hd => rfl); (case hg => rfl); (case hr => first | (go_simp; done) | (go_simp; rfl)); (case hp => exact (Reps.c3 (show Kd.M k23 _ _ _ (⟨a0_0, a0_1, a0_2⟩ : S23) [.int .i64 a0_0, .int .i64 a0_1, .string a0_2] from (k23_mkM _ _ _ (⟨a0_0, a0_1, a0_2⟩ : S23) )) (Reps.none _ _))); intro v185 w8 ho9 hb hg_ hnew_; clear hg_ hnew_; (first | rw [← Ny184.out] at ho9 | (simp only [Int.reduceToNat] at ho9; rw [← Ny184.out] at ho9)); have n0_ := Aside0.mk (Kd.R_lower (Kd.R_newB ho9 (g := gb100) (o := .cells #[.int .i64 a0_0, .int .i64 a0_1, .string a0_2] 23 (0, 0)) zz4) (below_size zz5)); have n1_ := Aside0.mk (blk_below (g := gb100) (o := .cells #[.int .i64 a0_0, .int .i64 a0_1, .string a0_2] 23 (0, 0)) zz4 hb); have n2_ := Aside0.mk (below_step zz5 hb); clear BK100; clear HB; have HO101 := n0_; have BK100 := n1_; have HB := n2_; clear n0_ n1_ n2_; clear hb ho9; obtain ⟨Ao10, co10, eo10⟩ := Kd.R_slice HO101.out; subst eo10) | ((with_reducible refine gate_callee (f := 47) rfl ?_); refine goesL_ (some 10) rfl rfl Try.func47 (by kernel_rfl) rfl #[.slice Ao10 y184.length co10] rfl zz8 ?_; (with_reducible refine (value_EncodeRow.calls k _ _ y184 t187 _ ?side1 ?side2 A3.out).mono ?_); (case side1 => repeat (first | exact (Kd.R_reads' HO101.out).2.2 | (with_reducible refine Kd.C_alloc ?_ _) | (with_reducible refine Kd.C_drewN ?_ _) | (with_reducible refine Kd.C_drew ?_))); (case side2 => exact (Kd.R_reads' HO101.out).2.1); rintro e w11 ⟨rfl, hb⟩; refine ⟨_, rfl, ?_⟩; have n0_ := Aside0.mk (Kd.R_below zz24 hb); have n1_ := Aside0.mk (blk_below (g := gb100) (o := .cells #[.int .i64 a0_0, .int .i64 a0_1, .string a0_2] 23 (0, 0)) zz4 hb); have n2_ := Aside0.mk (below_step zz5 hb); clear HO101; clear BK100; clear HB; have HO101 := n0_; have BK100 := n1_; have HB := n2_; clear n0_ n1_ n2_; (try clear hb); (try clear hb2); (try clear hk); (try clear hi)) | ((with_reducible refine gate_dst (N := 11) rfl ?_); refine own_conv_bytes (N := 11) ?hg ?hd 9 71 5 (.tmp 10) ?ho Try.underlying9 Try.underlying71 Try.underlying5 t187 ?hx (of_decide_eq_true zz9) (base := w.heap.size) ?hb_ ?_; (case hb_ => exact ((below_size zz5))); (case hd => rfl); (case hg => rfl); (case ho => rfl); (case hx => first | rfl | (go_simp; done) | (go_simp; rfl)); intro A189 c189 w12 hc_ hb; have n0_ := Aside0.mk (Kd.R_below zz24 hb); have n1_ := Aside0.mk (blk_below (g := gb100) (o := .cells #[.int .i64 a0_0, .int .i64 a0_1, .string a0_2] 23 (0, 0)) zz4 hb); have n2_ := Aside0.mk (below_step zz5 hb); clear HO101; clear BK100; clear HB; have HO101 := n0_; have BK100 := n1_; have HB := n2_; clear n0_ n1_ n2_; have HR102 := Aside0.mk hc_; have HC102 := Aside0.mk hc_.le; clear hb hc_) | ((with_reducible refine gate_builtin (b := .append) (xs := #[.tmp 11, .tmp 14]) rfl ?_); at_builtin; refine own_append_conv (w0 := w) w.heap.size rfl (.tmp 11) (.tmp 14) 71 5 rfl Try.underlying71 info5 A189 c189 (bytesOf t187) ((a1) % 256) rfl rfl ?aC ?aB ?aS ?aL y190 Ny190.out ?_; (case aC => exact zz37); (case aB => exact zz5); (case aS => exact ((below_size zz5))); (case aL => have := LMc5.out; omega); intro A193 c193 w13 hc_ hr_ hb hg; have n0_ := Aside0.mk (blk_grown (g := gb100) (o := .cells #[.int .i64 a0_0, .int .i64 a0_1, .string a0_2] 23 (0, 0)) zz4 hg (ConvRow.away zz37 zz4)); have n1_ := Aside0.mk (ConvRow.R_over zz37 zz24 hg); have n2_ := Aside0.mk (hb); clear BK100; clear HO101; clear HB; clear HR102; have BK100 := n0_; have HO101 := n1_; have HB := n2_; clear n0_ n1_ n2_; have HR103 := Aside0.mk hc_; have HC103 := Aside0.mk hr_; clear hb hc_ hr_ hg))
   go_loopg [5, 17] k (fun kq v5 v17 w' => ∃ (x5_1 : Int) (x17_1 : Int), v5 = .int .u64 x5_1 ∧ v17 = .int .i64 x17_1 ∧ Aside0 (sketch_Hash.l0 kq x5_1 y190 (y190.length : Int) x17_1 = some r) ∧ Aside0 (kq ≤ k) ∧ Aside0 (w'.heap[gb100]? = some (.cells #[.int .i64 a0_0, .int .i64 a0_1, .string a0_2] 23 (0, 0))) ∧ Aside0 (Kd.C (Kd.int .u8) w' A193 y190.length y190) ∧ Aside0 (Below w.heap.size w w'))
   case atStart => exact ⟨(14695981039346656037), (0), zz2, zz2, H', ⟨Nat.le_refl _⟩, ⟨zz4⟩, ⟨zz38⟩, ⟨zz5⟩⟩
   case round =>
    clear H'; (try clear c1); (try clear p2); (try clear c3); (try clear c4); (try clear c4b0); (try clear c4b1); (try clear c4b2); (try clear c5); (try clear hcz7_0); (try clear hcz7_1); (try clear hcz7_2); (try clear hfz7_0); (try clear hfz7_1); (try clear hfz7_2); obtain ⟨x5_1, x17_1, rfl, rfl, HA, HK1, BK100, HR103, HB⟩ := hrel
    cases gk with
    | zero => exact absurd HA.out (by simp [sketch_Hash.l0])
    | succ k1 =>
     have H := HA.out; clear HA; simp only [sketch_Hash.l0] at H
     by_cases c14 : x17_1 < (y190.length : Int)
     ·rw [if_pos c14] at H; have c14b0 : decide (x17_1 < (y190.length : Int)) = true := decide_eq_true c14; clear c14
      by_cases c15 : 0 ≤ x17_1
      ·rw [if_pos c15] at H; have c15b0 : decide (0 ≤ x17_1) = true := decide_eq_true c15; clear c15
       by_cases c16 : x17_1 < (y190.length : Int)
       ·rw [if_pos c16] at H; have c16b0 : decide (x17_1 < (y190.length : Int)) = true := decide_eq_true c16; clear c16; have H' := Aside0.mk H; clear H; have p194 : 0 ≤ (x17_1 : Int) := of_decide_eq_true zz9; have q194 : x17_1 < (y190.length : Int) := of_decide_eq_true zz9; obtain ⟨ad194, e194, hx194_0⟩ := Kd.at_int zz38 x17_1 p194 q194
        cases e194
        replace p194 := eq_true p194; replace q194 := eq_true q194
        go_wp2
        go_roundg k1
        case measure => have := HK1.out; omega
        case rel => exact ⟨(IntKind.u64.wrap ((Go.bits .xor .u64 x5_1 (IntKind.u64.wrap (rd y190 x17_1))) * 1099511628211)), (wrap64 (x17_1 + 1)), zz2, zz2, H', ⟨by have := HK1.out; omega⟩, ⟨zz4⟩, ⟨zz38⟩, ⟨zz5⟩⟩
       ·rw [if_neg c16] at H; exact absurd H (by simp)
      ·rw [if_neg c15] at H; exact absurd H (by simp)
     ·rw [if_neg c14] at H; have c14b0 : decide (x17_1 < (y190.length : Int)) = false := decide_eq_false c14; clear c14; obtain rfl := Option.some.inj H
      go_wp2
      go_ret
      exact ⟨zz6, zz5⟩
  ·rw [if_neg c5] at H; exact absurd H (by simp)
 ·rw [if_neg c4] at H; exact absurd H (by simp)
def sketch_places.l0 : Nat → List Int → Int → Int → ByteArray → ByteArray → Int → Int → Int → Int → Int → Int → ByteArray → Option (List Int)
 | 0, _, _, _, _, _, _, _, _, _, _, _, _ => none
 | k + 1, x5, x8, x9, x196000, x196001, x196002, x196003, x196004, x196005, x197000, x197001, x197002 => if x9 < x8 then ((sketch_Hash.f k x197000 x197001 x197002 x9).bind fun t197 => (if (IntKind.u64.wrap (x196004)) = 0 then (none) else (if x5.length < 17592186044416 then (sketch_places.l0 k (x5 ++ [wrap64 ((wrap64 (x9 * x196004)) + (wrap64 (Int.tmod t197 (IntKind.u64.wrap (x196004)))))]) x8 (wrap64 (x9 + 1)) x196000 x196001 x196002 x196003 x196004 x196005 x197000 x197001 x197002) else (none)))) else (some x5)
def sketch_places.f (k : Nat) (a0_0 : ByteArray) (a0_1 : ByteArray) (a0_2 : Int) (a0_3 : Int) (a0_4 : Int) (a0_5 : Int) (a1_0 : Int) (a1_1 : Int) (a1_2 : ByteArray) : Option (List Int) := sketch_places.l0 k ([] : List Int) a0_5 0 a0_0 a0_1 a0_2 a0_3 a0_4 a0_5 a1_0 a1_1 a1_2
theorem sketch_places.mono_l : ∀ k, (∀ y0 y1 y2 y3 y4 y5 y6 y7 y8 y9 y10 y11, LeO (sketch_places.l0 k y0 y1 y2 y3 y4 y5 y6 y7 y8 y9 y10 y11) (sketch_places.l0 (k + 1) y0 y1 y2 y3 y4 y5 y6 y7 y8 y9 y10 y11))
 | 0 => fun _ _ _ _ _ _ _ _ _ _ _ _ r h => by simp [sketch_places.l0] at h
 | k + 1 => by
  have ih0 := sketch_places.mono_l k
  ·intro y0 y1 y2 y3 y4 y5 y6 y7 y8 y9 y10 y11; unfold sketch_places.l0
   repeat' first
   | (with_reducible exact ih0 _ _ _ _ _ _ _ _ _ _ _ _)
   | (with_reducible exact sketch_Hash.mono _ _ _ _ _)
   | (with_reducible exact LeO.refl _)
   | (with_reducible exact LeO.none _)
   | (with_reducible refine LeO.ite ?_ ?_)
   | (with_reducible refine LeO.bind ?_ (fun _ => ?_))
   | exact ih0 _ _ _ _ _ _ _ _ _ _ _ _
   | exact sketch_Hash.mono _ _ _ _ _
   | exact LeO.none _
   | refine LeO.ite ?_ ?_
   | refine LeO.bind ?_ (fun _ => ?_)
theorem sketch_places.mono : ∀ a0 a1 a2 a3 a4 a5 a6 a7 a8 k, LeO (sketch_places.f k a0 a1 a2 a3 a4 a5 a6 a7 a8) (sketch_places.f (k + 1) a0 a1 a2 a3 a4 a5 a6 a7 a8) := by
 intro a0 a1 a2 a3 a4 a5 a6 a7 a8 k; have ih0 := sketch_places.mono_l k; unfold sketch_places.f
 repeat' first
   | (with_reducible exact ih0 _ _ _ _ _ _ _ _ _ _ _ _)
   | (with_reducible exact sketch_Hash.mono _ _ _ _ _)
   | (with_reducible exact LeO.refl _)
   | (with_reducible exact LeO.none _)
   | (with_reducible refine LeO.ite ?_ ?_)
   | (with_reducible refine LeO.bind ?_ (fun _ => ?_))
   | exact ih0 _ _ _ _ _ _ _ _ _ _ _ _
   | exact sketch_Hash.mono _ _ _ _ _
   | exact LeO.none _
   | refine LeO.ite ?_ ?_
   | refine LeO.bind ?_ (fun _ => ?_)
def sketch_places.T5 : Bool × List (List Nat × List Nat) := (true, [([], []), ([], []), ([], []), ([2], [2]), ([1, 3], [1, 3]), ([], []), ([], []), ([5, 6], [5, 6]), ([], []), ([8], [8]), ([9], [9]), ([7, 10], [7, 10]), ([11], [11]), ([4, 12], [4, 12]), ([13], [13]), ([0, 14, 7], [0, 14]), ([15, 15, 0, 1, 2, 3, 4, 5, 6, 7, 8, 9, 10, 11, 12, 13, 14, 15], [0, 15])])
def sketch_places.B5 : List Nat := [0, 0, 0, 4, 14, 0, 0, 96, 0, 256, 768, 2016, 4064, 8190, 16382, 32767, 65535]
theorem sketch_places.tab5 : rtab .any (opsOf Try.f67 5) = sketch_places.T5 := by kernel_rfl
theorem sketch_places.bits5 : waitsOk sketch_places.T5.2 sketch_places.B5 = true := by kernel_rfl
set_option maxHeartbeats 8000000 in
set_option maxRecDepth 100000 in
theorem sketch_places.calls (k : Nat) (a0_0 : ByteArray) (a0_1 : ByteArray) (a0_2 : Int) (a0_3 : Int) (a0_4 : Int) (a0_5 : Int) (a1_0 : Int) (a1_1 : Int) (a1_2 : ByteArray) (r : List Int) (w : World) (h : sketch_places.f k a0_0 a0_1 a0_2 a0_3 a0_4 a0_5 a1_0 a1_1 a1_2 = some r) :
  Calls Try.prog 67 #[.agg #[.string a0_0, .string a0_1, .int .i64 a0_2, .int .i64 a0_3, .int .i64 a0_4, .int .i64 a0_5], .agg #[.int .i64 a1_0, .int .i64 a1_1, .string a1_2]] w fun e w' => ∃ v0_ : Value, e = .returned (v0_) ∧ Kd.R (Kd.int .i64) 3 w' w.heap.size (fun _ => True) v0_ r ∧ Below w.heap.size w w' := by
 have hu30 := Try.underlying30; have hu23 := Try.underlying23; have HB := Aside0.mk (Below.refl w.heap.size w); have H : (sketch_places.l0 k ([] : List Int) a0_5 0 a0_0 a0_1 a0_2 a0_3 a0_4 a0_5 a1_0 a1_1 a1_2) = some r := h; clear h; have H' := Aside0.mk H; clear H
 go_enter Try.func67, Try.ntmps67
 go_wp2_with (first | ((with_reducible refine gate_dst (N := 2) rfl ?_); refine box_event ?hg (N := 2) ?hd (cs := #[.string a0_0, .string a0_1, .int .i64 a0_2, .int .i64 a0_3, .int .i64 a0_4, .int .i64 a0_5]) (t := 30) ?hr ?_; (case hd => rfl); (case hg => rfl); (case hr => first | (go_simp; done) | (go_simp; rfl)); intro gb100 hg w3 hbox hb; have n0_ := Aside0.mk (below_step zz0 hb); have n1_ := Aside0.mk (hbox); have n2_ := Aside0.mk ((zz1 : w.heap.size ≤ gb100)); have n3_ := Aside0.mk ((zz1 : w.heap.size ≤ gb100)); clear HB; have HB := n0_; have BK100 := n1_; have GW100 := n2_; have GE100 := n3_; clear n0_ n1_ n2_ n3_; clear hb hbox hg) | ((with_reducible refine gate_dst (N := 3) rfl ?_); refine box_event ?hg (N := 3) ?hd (cs := #[.int .i64 a1_0, .int .i64 a1_1, .string a1_2]) (t := 23) ?hr ?_; (case hd => rfl); (case hg => rfl); (case hr => first | (go_simp; done) | (go_simp; rfl)); intro gb101 hg w4 hbox hb; have n0_ := Aside0.mk (blk_below (g := gb100) (o := .cells #[.string a0_0, .string a0_1, .int .i64 a0_2, .int .i64 a0_3, .int .i64 a0_4, .int .i64 a0_5] 30 (0, 0)) zz4 hb); have n1_ := Aside0.mk (below_step zz5 hb); have n2_ := Aside0.mk (hbox); have n3_ := Aside0.mk ((zz10 : w.heap.size ≤ gb101)); have n4_ := Aside0.mk ((zz10 : w.heap.size ≤ gb101)); have n5_ := Aside0.mk ((zz39 : gb100 ≠ gb101)); have n6_ := Aside0.mk ((zz40 : gb101 ≠ gb100)); clear BK100; clear HB; have BK100 := n0_; have HB := n1_; have BK101 := n2_; have GW101 := n3_; have GE101 := n4_; have NB100_101 := n5_; have NB101_100 := n6_; clear n0_ n1_ n2_ n3_ n4_ n5_ n6_; clear hb hbox hg; have hnb5 := NB100_101.out; have hnc5 := NB101_100.out; have hcz6_0 : w4.cell? ⟨gb100, 0, none⟩ = some (.string a0_0) := cK BK100 0; have hcz6_1 : w4.cell? ⟨gb100, 1, none⟩ = some (.string a0_1) := cK BK100 1; have hcz6_2 : w4.cell? ⟨gb100, 2, none⟩ = some (.int .i64 a0_2) := cK BK100 2; have hcz6_3 : w4.cell? ⟨gb100, 3, none⟩ = some (.int .i64 a0_3) := cK BK100 3; have hcz6_4 : w4.cell? ⟨gb100, 4, none⟩ = some (.int .i64 a0_4) := cK BK100 4; have hcz6_5 : w4.cell? ⟨gb100, 5, none⟩ = some (.int .i64 a0_5) := cK BK100 5; have hfz6_0 := blk_frozen BK100.out 0; have hfz6_1 := blk_frozen BK100.out 1; have hfz6_2 := blk_frozen BK100.out 2; have hfz6_3 := blk_frozen BK100.out 3; have hfz6_4 := blk_frozen BK100.out 4; have hfz6_5 := blk_frozen BK100.out 5))
 go_loopg [5, 9] k (fun kq v5 v9 w' => ∃ (x5_1 : List Int) (x9_1 : Int), v9 = .int .i64 x9_1 ∧ Aside0 (sketch_places.l0 kq x5_1 a0_5 x9_1 a0_0 a0_1 a0_2 a0_3 a0_4 a0_5 a1_0 a1_1 a1_2 = some r) ∧ Aside0 (kq ≤ k) ∧ Aside0 (Kd.R (Kd.int .i64) 3 w' w.heap.size (fun _ => True) v5 x5_1) ∧ Aside0 (w'.heap[gb100]? = some (.cells #[.string a0_0, .string a0_1, .int .i64 a0_2, .int .i64 a0_3, .int .i64 a0_4, .int .i64 a0_5] 30 (0, 0))) ∧ Aside0 (w'.heap[gb101]? = some (.cells #[.int .i64 a1_0, .int .i64 a1_1, .string a1_2] 23 (0, 0))) ∧ Aside0 (Below w.heap.size w w'))
 case atStart => exact ⟨(([] : List Int)), (0), zz2, H', ⟨Nat.le_refl _⟩, ⟨zz23⟩, ⟨zz4⟩, ⟨zz13⟩, ⟨zz14⟩⟩
 case round =>
  clear H'; (try clear p2); (try clear c5); (try clear c6); (try clear hcz6_0); (try clear hcz6_1); (try clear hcz6_2); (try clear hcz6_3); (try clear hcz6_4); (try clear hcz6_5); (try clear hfz6_0); (try clear hfz6_1); (try clear hfz6_2); (try clear hfz6_3); (try clear hfz6_4); (try clear hfz6_5); obtain ⟨x5_1, x9_1, rfl, HA, HK1, HO_5, BK100, BK101, HB⟩ := hrel
  cases gk with
  | zero => exact absurd HA.out (by simp [sketch_places.l0])
  | succ k1 =>
   have H := HA.out; clear HA; simp only [sketch_places.l0] at H
   by_cases c7 : x9_1 < a0_5
   ·rw [if_pos c7] at H; have c7b0 : decide (x9_1 < a0_5) = true := decide_eq_true c7; clear c7; replace H := Option.bind_eq_some_iff.mp H; obtain ⟨t197, A80, H⟩ := H; replace H : (if (IntKind.u64.wrap (a0_4)) = 0 then (none) else (if x5_1.length < 17592186044416 then (sketch_places.l0 k1 (x5_1 ++ [wrap64 ((wrap64 (x9_1 * a0_4)) + (wrap64 (Int.tmod t197 (IntKind.u64.wrap (a0_4)))))]) a0_5 (wrap64 (x9_1 + 1)) a0_0 a0_1 a0_2 a0_3 a0_4 a0_5 a1_0 a1_1 a1_2) else (none))) = some r := H; have A8 := Aside0.mk A80; clear A80
    by_cases c9 : (IntKind.u64.wrap (a0_4)) = 0
    ·rw [if_pos c9] at H; exact absurd H (by simp)
    ·rw [if_neg c9] at H; have c9b0 : ((IntKind.u64.wrap (a0_4)) == 0) = false := beq_eq_false_iff_ne.mpr c9; have c9b1 : ((IntKind.u64.wrap (a0_4)) != 0) = true := bne_iff_ne.mpr c9
     by_cases c10 : x5_1.length < 17592186044416
     ·rw [if_pos c10] at H; have LMc10 := Aside0.mk c10; clear c10; obtain ⟨y198, hy198⟩ : ∃ y_ : List Int, y_ = (x5_1 ++ [wrap64 ((wrap64 (x9_1 * a0_4)) + (wrap64 (Int.tmod t197 (IntKind.u64.wrap (a0_4)))))]) := ⟨_, rfl⟩; replace H : (sketch_places.l0 k1 y198 a0_5 (wrap64 (x9_1 + 1)) a0_0 a0_1 a0_2 a0_3 a0_4 a0_5 a1_0 a1_1 a1_2) = some r := by first | (rw [hy198]; with_reducible exact H) | (have H2_ := (Option.bind_some _ _).symm.trans H; rw [hy198]; with_reducible exact H2_) | (have H2_ := (Option.bind_some _ _).symm.trans H; with_reducible exact H2_) | with_reducible exact H | (rw [hy198]; exact H) | exact H
      have Ny198 := Aside0.mk hy198; clear hy198; have H' := Aside0.mk H; clear H
      try go_wp2
      have n0_ := Aside0.mk (Kd.R_drew HO_5.out); have n1_ := Aside0.mk (blk_drew BK100.out); have n2_ := Aside0.mk (blk_drew BK101.out); have n3_ := Aside0.mk (below_drew1 HB.out); clear HO_5; clear BK100; clear BK101; clear HB; have HO_5 := n0_; have BK100 := n1_; have BK101 := n2_; have HB := n3_; clear n0_ n1_ n2_ n3_; refine start_ (n := 17) (S := fun w' => w'.cell? ⟨gb100, 0, none⟩ = some (.string a0_0) ∧ w'.cell? ⟨gb100, 1, none⟩ = some (.string a0_1) ∧ w'.cell? ⟨gb100, 2, none⟩ = some (.int .i64 a0_2) ∧ w'.cell? ⟨gb100, 3, none⟩ = some (.int .i64 a0_3) ∧ w'.cell? ⟨gb100, 4, none⟩ = some (.int .i64 a0_4) ∧ w'.cell? ⟨gb100, 5, none⟩ = some (.int .i64 a0_5) ∧ w'.cell? ⟨gb101, 0, none⟩ = some (.int .i64 a1_0) ∧ w'.cell? ⟨gb101, 1, none⟩ = some (.int .i64 a1_1) ∧ w'.cell? ⟨gb101, 2, none⟩ = some (.string a1_2)) (ds := []) (.replicate 17 false) (by kernel_rfl) rfl rfl ⟨cK BK100 0, cK BK100 1, cK BK100 2, cK BK100 3, cK BK100 4, cK BK100 5, cK BK101 0, cK BK101 1, cK BK101 2⟩ (fun hHeld => ?_); refine with_tabW sketch_places.tab5 sketch_places.bits5 (fun HT_ HW_ => ?_); generalize wr.drew = w11 at HO_5 BK100 BK101 HB hHeld ⊢; refine pV 0 12 (bA 17 1) HT_ ?_; refine pV 1 13 (bA 17 3) HT_ ?_; refine pV 2 14 (bA 17 7) HT_ ?_; refine pV 6 18 (bA 17 71) HT_ ?_; refine pV 8 20 (bA 17 327) HT_ ?_; refine tV (v := ?_) 3 15 (bA 17 335) HT_ HW_ hHeld ?_ ?_; rotate_left
      ·rintro w' ⟨s0, s1, s2, s3, s4, s5, s6, s7, s8⟩
       go_simp
       (with_reducible rfl)
      refine pV 4 16 (bA 17 351) HT_ ?_; refine tV (v := ?_) 5 17 (bA 17 383) HT_ HW_ hHeld ?_ ?_; rotate_left
      ·rintro w' ⟨s0, s1, s2, s3, s4, s5, s6, s7, s8⟩
       go_simp
       (with_reducible rfl)
      refine tV (v := ?_) 9 21 (bA 17 895) HT_ HW_ hHeld ?_ ?_; rotate_left
      ·rintro w' ⟨s0, s1, s2, s3, s4, s5, s6, s7, s8⟩
       go_simp
       (with_reducible rfl)
      refine pV 10 22 (bA 17 1919) HT_ ?_; refine oN 7 19 (bA 17 2047) HT_ (fun K hK => ?_); refine goes_ Try.func15 (by kernel_rfl) rfl #[.agg #[.int .i64 a1_0, .int .i64 a1_1, .string a1_2], .int .i64 x9_1] (by rfl) rfl rfl zz8 ?_; (with_reducible refine (sketch_Hash.calls k1 a1_0 a1_1 a1_2 x9_1 t197 _ A8.out).mono ?_); rintro e w12 ⟨rfl, hb⟩; refine ⟨_, rfl, ?_⟩; have n0_ := Aside0.mk (Kd.R_below zz41 hb); have n1_ := Aside0.mk (blk_below (g := gb100) (o := .cells #[.string a0_0, .string a0_1, .int .i64 a0_2, .int .i64 a0_3, .int .i64 a0_4, .int .i64 a0_5] 30 (0, 0)) zz4 hb); have n2_ := Aside0.mk (blk_below (g := gb101) (o := .cells #[.int .i64 a1_0, .int .i64 a1_1, .string a1_2] 23 (0, 0)) zz13 hb); have n3_ := Aside0.mk (below_step zz14 hb); clear HO_5; clear BK100; clear BK101; clear HB; have HO_5 := n0_; have BK100 := n1_; have BK101 := n2_; have HB := n3_; clear n0_ n1_ n2_ n3_; (try clear hb); (try clear hb2); (try clear hk); (try clear hi); refine hK.out _ _ ⟨cK BK100 0, cK BK100 1, cK BK100 2, cK BK100 3, cK BK100 4, cK BK100 5, cK BK101 0, cK BK101 1, cK BK101 2⟩ (fun hHeld => ?_); clear hK K; refine norm_ (a' := ?_) ?_ ?_; rotate_left
      ·show Act.put _ (some 19) _ = _
       simp only [Act.put, List.setIfInBounds_toArray, List.set_cons_zero, List.set_cons_succ, i64_w, i32_w]
       rfl
      refine pV 11 23 (bA 17 4095) HT_ ?_; refine pV 12 24 (bA 17 8191) HT_ ?_; refine pV 13 25 (bA 17 16383) HT_ ?_; refine oN 14 26 (bA 17 32767) HT_ (fun K hK => ?_); refine value_ (w1 := ?_) (v := ?_) (by rfl) rfl ?_ ?_; rotate_left 2
      ·go_simp
       constructor
       ·rfl
       ·rfl
      refine hK.out _ _ ⟨(blk_cell (blk_alloc BK100.out _) 0).trans rfl, (blk_cell (blk_alloc BK100.out _) 1).trans rfl, (blk_cell (blk_alloc BK100.out _) 2).trans rfl, (blk_cell (blk_alloc BK100.out _) 3).trans rfl, (blk_cell (blk_alloc BK100.out _) 4).trans rfl, (blk_cell (blk_alloc BK100.out _) 5).trans rfl, (blk_cell (blk_alloc BK101.out _) 0).trans rfl, (blk_cell (blk_alloc BK101.out _) 1).trans rfl, (blk_cell (blk_alloc BK101.out _) 2).trans rfl⟩ (fun hHeld => ?_); clear hK K; refine norm_ (a' := ?_) ?_ ?_; rotate_left
      ·show Act.put _ (some 26) _ = _
       simp only [Act.put, List.setIfInBounds_toArray, List.set_cons_zero, List.set_cons_succ, i64_w, i32_w]
       rfl
      refine oN 15 27 (bA 17 65535) HT_ (fun K hK => ?_); refine Kd.R_append_step (Kd.int .i64) (w0 := w) w.heap.size (by rfl) (.tmp 12) (.tmp 26) 28 3 (.int .i64 0) 8 rfl Try.underlying28 info3 rfl (by decide) (by omega) u5 x5_1 (wrap64 ((wrap64 (x9_1 * a0_4)) + (wrap64 (Int.tmod t197 (IntKind.u64.wrap (a0_4)))))) [.int .i64 (wrap64 ((wrap64 (x9_1 * a0_4)) + (wrap64 (Int.tmod t197 (IntKind.u64.wrap (a0_4))))))] (fun _ => True) (fun _ => False) rfl rfl ?aP (fun _ hk => hk.elim) ?aF ?aO ?aB ?aS ?aL ?_; (case aP => exact rfl); (case aB => exact zz14); (case aF => exact (fun _ _ => trivial)); (case aO => exact zz41); (case aS => exact (below_size zz14)); (case aL => have := LMc10.out; omega); intro v199 w13 ho hb hg hat; rw [← Ny198.out] at ho; have n0_ := Aside0.mk (blk_grown (g := gb100) (o := .cells #[.string a0_0, .string a0_1, .int .i64 a0_2, .int .i64 a0_3, .int .i64 a0_4, .int .i64 a0_5] 30 (0, 0)) zz4 hg (Kd.R_ne HO_5.out BK100.out (by decide))); have n1_ := Aside0.mk (blk_grown (g := gb101) (o := .cells #[.int .i64 a1_0, .int .i64 a1_1, .string a1_2] 23 (0, 0)) zz13 hg (Kd.R_ne HO_5.out BK101.out (by decide))); have n2_ := Aside0.mk (hb); have n3_ := Aside0.mk (ho); clear BK100; clear BK101; clear HB; clear HO_5; have BK100 := n0_; have BK101 := n1_; have HB := n2_; have HO102 := n3_; clear n0_ n1_ n2_ n3_; clear ho hb hg hat; refine hK.out _ _ ⟨cK BK100 0, cK BK100 1, cK BK100 2, cK BK100 3, cK BK100 4, cK BK100 5, cK BK101 0, cK BK101 1, cK BK101 2⟩ (fun hHeld => ?_); clear hK K; refine norm_ (a' := ?_) ?_ ?_; rotate_left
      ·show Act.put _ (some 27) _ = _
       simp only [Act.put, List.setIfInBounds_toArray, List.set_cons_zero, List.set_cons_succ, i64_w, i32_w]
       rfl
      refine pV 16 5 (bA 17 131071) HT_ ?_; refine done_ (done_of HT_.out (by kernel_rfl)) ?_
      try go_wp2
      go_roundg k1
      case measure => have := HK1.out; omega
      case rel => exact ⟨(y198), (wrap64 (x9_1 + 1)), zz2, H', ⟨by have := HK1.out; omega⟩, ⟨zz32⟩, ⟨zz4⟩, ⟨zz13⟩, ⟨zz14⟩⟩
     ·rw [if_neg c10] at H; exact absurd H (by simp)
   ·rw [if_neg c7] at H; have c7b0 : decide (x9_1 < a0_5) = false := decide_eq_false c7; clear c7; obtain rfl := Option.some.inj H
    go_wp2
    go_ret
    exact ⟨_, zz6, zz41, zz14⟩
def slices_Sort_int64_int64.f (l0 : List Int) : Option (List Int) := if l0.length < 4611686018427387904 then some (l0.mergeSort fun x y => decide (x ≤ y)) else none
theorem slices_Sort_int64_int64.calls (P0_ : Nat → Prop) (u9000_ : Value) (l0 : List Int) (r : List Int) (w0 w : World) (hB : Below w0.heap.size w0 w) (ho0 : Kd.R (Kd.int .i64) 2 w w0.heap.size P0_ u9000_ l0) (h : slices_Sort_int64_int64.f l0 = some r) :
  Calls Try.prog 100 #[u9000_] w fun e w' => e = .returned (.tuple #[]) ∧ Kd.R (Kd.int .i64) 2 w' w0.heap.size (fun k_ => (P0_ k_ ∨ w.heap.size ≤ k_)) u9000_ r ∧ Below w0.heap.size w0 w' ∧ Kept w w' (fun k_ => P0_ k_) := by
 unfold slices_Sort_int64_int64.f at h
 split at h
 ·rename_i hlt
  injection h with h; subst h
  rcases owns_R_form ho0 with ⟨rfl, rfl⟩ | ⟨g, c, cur, rfl, hb, h3, h4, h5, h6, h7⟩
  ·refine (AnyG.slices_Sort_int_none Try.lsort64 none 0 w).mono ?_; rintro e w' ⟨rfl, rfl⟩; exact ⟨rfl, by simpa using Kd.R_nil _ _ _ _ _, hB, Kept.refl _ _⟩
  ·have hglt : g < w.heap.size := (Array.getElem?_eq_some_iff.1 h3).1; have hok : P0_ g := ho0.1 g rfl; refine (AnyG.slices_Sort_int Try.lsort64 g 0 c l0 w (owns_holds h3 h7) hglt hlt).mono ?_; rintro e w' ⟨rfl, q, os, rfl⟩; have hl : (l0.mergeSort fun x y => decide (x ≤ y)).length = l0.length := List.length_mergeSort _; obtain ⟨h8, h9, h10⟩ := owns_put hb hok h3 h4 h5 h6 hl (Nat.le_of_eq hl.symm) q os; refine ⟨rfl, ?_, h9 w0 hB hb, h10.mono (by rintro k rfl; exact hok)⟩; rw [← hl, List.take_length] at h8; rw [← hl]; exact h8
 ·cases h
def slices_Compact_int64_int64.f (l0 : List Int) : Option (List Int) := some (Lib.compact l0)
theorem slices_Compact_int64_int64.calls (P0_ : Nat → Prop) (u9000_ : Value) (l0 : List Int) (r : List Int) (w0 w : World) (hB : Below w0.heap.size w0 w) (ho0 : Kd.R (Kd.int .i64) 2 w w0.heap.size P0_ u9000_ l0) (h : slices_Compact_int64_int64.f l0 = some r) :
  Calls Try.prog 101 #[u9000_] w fun e w' => ∃ v0_ : Value, e = .returned (v0_) ∧ Kd.R (Kd.int .i64) 2 w' w0.heap.size (fun k_ => (P0_ k_ ∨ w.heap.size ≤ k_)) v0_ r ∧ Below w0.heap.size w0 w' ∧ Kept w w' (fun k_ => P0_ k_) := by
 unfold slices_Compact_int64_int64.f at h; injection h with h; subst h
 rcases owns_R_form ho0 with ⟨rfl, rfl⟩ | ⟨g, c, cur, rfl, hb, h3, h4, h5, h6, h7⟩
 ·refine (AnyG.slices_Compact_int_empty Try.lcompact64 none 0 w).mono ?_; rintro e w' ⟨rfl, rfl⟩; exact ⟨_, rfl, Kd.R_nil _ _ _ _ _, hB, Kept.refl _ _⟩
 ·have hok : P0_ g := ho0.1 g rfl; refine (AnyG.slices_Compact_int Try.lcompact64 g 0 c l0 w (owns_holds h3 h7) (by simp only [maxLen] at h5; omega) h4).mono ?_; rintro e w' ⟨rfl, q, rfl⟩; have hle := Lib.compact_length_le l0; have hl : (Lib.compact l0 ++ List.replicate (l0.length - (Lib.compact l0).length) (0 : Int)).length = l0.length := by simp; omega
  obtain ⟨h8, h9, h10⟩ := owns_put (n := (Lib.compact l0).length) hb hok h3 h4 h5 h6 hl (by omega) q #[]; rw [Go.Sort.grow_empty] at h8 h9 h10; refine ⟨_, rfl, ?_, h9 w0 hB hb, h10.mono (by rintro k rfl; exact hok)⟩; rw [List.take_left] at h8; exact h8
def sketch_smallest.f (l0 : List Int) (a1 : Int) : Option (List Int) := (slices_Sort_int64_int64.f l0).bind fun t201 => ((slices_Compact_int64_int64.f t201).bind fun t202 => (if 0 ≤ (mn (t202.length : Int) a1) then (if (mn (t202.length : Int) a1) ≤ (t202.length : Int) then (some (t202.take ((mn (t202.length : Int) a1) : Int).toNat)) else (none)) else (none)))
set_option maxHeartbeats 8000000 in
set_option maxRecDepth 100000 in
theorem sketch_smallest.calls (P0_ : Nat → Prop) (u9000_ : Value) (l0 : List Int) (a1 : Int) (r : List Int) (w0 w : World) (hB : Below w0.heap.size w0 w) (ho0 : Kd.R (Kd.int .i64) 2 w w0.heap.size P0_ u9000_ l0) (h : sketch_smallest.f l0 a1 = some r) :
  Calls Try.prog 70 #[u9000_, .int .i64 a1] w fun e w' => ∃ v0_ : Value, e = .returned (v0_) ∧ Kd.R (Kd.int .i64) 2 w' w0.heap.size (fun k_ => (P0_ k_ ∨ w.heap.size ≤ k_)) v0_ r ∧ Below w0.heap.size w0 w' ∧ Kept w w' (fun k_ => P0_ k_) := by
 have HO0 := Aside0.mk (show Kd.R (Kd.int .i64) 2 w w0.heap.size (fun k_ => (P0_ k_ ∨ w.heap.size ≤ k_)) u9000_ l0 from Kd.R_mono ho0 (fun k_ hk => (.inl hk))); have HK := Aside0.mk (Kept.refl w (fun k_ => P0_ k_)); have HW0 := Aside0.mk hB.size; have HB := Aside0.mk hB; clear hB; have H : ((slices_Sort_int64_int64.f l0).bind fun t201 => ((slices_Compact_int64_int64.f t201).bind fun t202 => (if 0 ≤ (mn (t202.length : Int) a1) then (if (mn (t202.length : Int) a1) ≤ (t202.length : Int) then (some (t202.take ((mn (t202.length : Int) a1) : Int).toNat)) else (none)) else (none)))) = some r := h; clear h; replace H := Option.bind_eq_some_iff.mp H; obtain ⟨t201, A30, H⟩ := H; replace H : ((slices_Compact_int64_int64.f t201).bind fun t202 => (if 0 ≤ (mn (t202.length : Int) a1) then (if (mn (t202.length : Int) a1) ≤ (t202.length : Int) then (some (t202.take ((mn (t202.length : Int) a1) : Int).toNat)) else (none)) else (none))) = some r := H; have A3 := Aside0.mk A30; clear A30; replace H := Option.bind_eq_some_iff.mp H; obtain ⟨t202, A40, H⟩ := H; replace H : (if 0 ≤ (mn (t202.length : Int) a1) then (if (mn (t202.length : Int) a1) ≤ (t202.length : Int) then (some (t202.take ((mn (t202.length : Int) a1) : Int).toNat)) else (none)) else (none)) = some r := H; have A4 := Aside0.mk A40; clear A40; obtain ⟨ji5, hji5⟩ : ∃ j_ : Int, (mn (t202.length : Int) a1) = j_ := ⟨_, rfl⟩; replace H : (if 0 ≤ (ji5) then (if (ji5) ≤ (t202.length : Int) then (some (t202.take ((ji5) : Int).toNat)) else (none)) else (none)) = some r := by first | (rw [hji5] at H; exact H) | (simp only [hji5] at H ⊢; exact H)
 (try rw [hji5] at A3); (try rw [hji5] at A4); have hji5_ : (if a1 < (t202.length : Int) then a1 else (t202.length : Int)) = ji5 := hji5
 by_cases c6 : 0 ≤ (ji5)
 ·rw [if_pos c6] at H; have c6b0 := eq_true c6; have c6b1 : decide (0 ≤ (ji5)) = true := decide_eq_true c6; clear c6
  by_cases c7 : (ji5) ≤ (t202.length : Int)
  ·rw [if_pos c7] at H; have c7b0 := eq_true c7; have c7b1 : decide ((ji5) ≤ (t202.length : Int)) = true := decide_eq_true c7; clear c7; obtain ⟨y205, hy205⟩ : ∃ y_ : List Int, y_ = (t202.take ((ji5) : Int).toNat) := ⟨_, rfl⟩; replace H : (some y205) = some r := by first | (rw [hy205]; with_reducible exact H) | (have H2_ := (Option.bind_some _ _).symm.trans H; rw [hy205]; with_reducible exact H2_) | (have H2_ := (Option.bind_some _ _).symm.trans H; with_reducible exact H2_) | with_reducible exact H | (rw [hy205]; exact H) | exact H
   have Ny205 := Aside0.mk hy205; clear hy205; obtain rfl := Option.some.inj H; obtain ⟨Ao8, co8, eo8⟩ := Kd.R_slice HO0.out; subst eo8
   go_enter Try.func70, Try.ntmps70
   go_wp2_with (first | ((with_reducible refine gate_callee (f := 100) rfl ?_); refine goesL_ (some 6) rfl rfl Try.func100 (by kernel_rfl) rfl #[.slice Ao8 l0.length co8] rfl zz8 ?_; (with_reducible refine (slices_Sort_int64_int64.calls (fun k_ => some k_ = (.slice Ao8 l0.length co8 : Value).ownBlock) (.slice Ao8 l0.length co8) l0 t201 w0 _ ?side1 ?side2 A3.out).mono ?_); (case side1 => repeat (first | (with_reducible first | exact HB.out | apply below_alloc | apply pw_below_drewN | apply below_drew1) | exact HB.out)); (case side2 => exact Kd.R_tight rfl HO0.out); rintro e w9 ⟨rfl, hy0, hb, hkp⟩; refine ⟨_, rfl, ?_⟩; have n0_ := Aside0.mk (Kd.R_reok rfl hy0 (fun k_ e_ => HO0.out.1 k_ e_)); have n1_ := Aside0.mk (Kept.then_ (S := (fun k_ => P0_ k_)) zz42 hkp (fun k_ hs_ => (fun e_ => (HO0.out.1 k_ e_.symm)) hs_)); have n2_ := Aside0.mk (hb); clear HO0; clear HK; clear HB; have HO0 := n0_; have HK := n1_; have HB := n2_; clear n0_ n1_ n2_; (try clear hb); (try clear hkp); (try clear hy0)) | ((with_reducible refine gate_callee (f := 101) rfl ?_); refine goesL_ (some 8) rfl rfl Try.func101 (by kernel_rfl) rfl #[.slice Ao8 l0.length co8] rfl zz8 ?_; (with_reducible refine (slices_Compact_int64_int64.calls (fun k_ => some k_ = (.slice Ao8 l0.length co8 : Value).ownBlock) (.slice Ao8 l0.length co8) t201 t202 w0 _ ?side1 ?side2 A4.out).mono ?_); (case side1 => repeat (first | (with_reducible first | exact HB.out | apply below_alloc | apply pw_below_drewN | apply below_drew1) | exact HB.out)); (case side2 => exact Kd.R_tight rfl HO0.out); rintro e w10 ⟨v203, rfl, ho0, hb, hkp⟩; refine ⟨_, rfl, ?_⟩; have n0_ := Aside0.mk (Kd.R_mono (ok' := fun k_ => (P0_ k_ ∨ w.heap.size ≤ k_)) ho0 (fun k_ hk_ => Or.elim hk_ (fun hs_ => (HO0.out.1 k_ (hs_).symm)) (fun hn_ => (.inr (Nat.le_trans (by first | exact HK.out.1 | exact (show Kept w _ (fun k_ => P0_ k_) from by repeat (first | (with_reducible first | exact HK.out | apply Kept.alloc | apply Kept.drewN | apply Kept.drew) | exact HK.out)).1) hn_))))); have n1_ := Aside0.mk (Kept.then_ (S := (fun k_ => P0_ k_)) zz42 hkp (fun k_ hs_ => (fun e_ => (HO0.out.1 k_ e_.symm)) hs_)); have n2_ := Aside0.mk (hb); clear HK; clear HB; clear HO0; have HO100 := n0_; have HK := n1_; have HB := n2_; clear n0_ n1_ n2_; (try clear hb); (try clear hkp); (try clear ho0); obtain ⟨Ao11, co11, eo11⟩ := Kd.R_slice HO100.out; subst eo11; have q12 : ((ji5) : Int) ≤ ((t202.length : Int) : Int) := of_decide_eq_true zz9; obtain ⟨i012, hi012, _, hsz12, _⟩ := info_parts info2; have hcut12 := cut_to (P := Try.prog) 31 2 .i64 Try.underlying31 hi012 Ao11 t202.length co11 (ji5) (of_decide_eq_true zz9) q12 (Kd.R_reads' HO100.out).2.1; have hr12 := Kd.R_take (m := ((ji5) : Int).toNat) HO100.out (by omega); have hy12 : y205.length = ((ji5) : Int).toNat := (by rw [Ny205.out, List.length_take]; omega); rw [← Ny205.out] at hr12; rw [← hy12] at hr12 hcut12; clear hy12 hi012 hsz12 HO100; have HO101 := Aside0.mk hr12; clear hr12; replace q12 := eq_true q12))
   go_ret
   exact ⟨_, by first | rfl | (simp [errW_none, errW_some] <;> rfl) | (simp only [← hji5]; first | rfl | (simp [errW_none, errW_some] <;> rfl)) | (simp [*, errW_none, errW_some] <;> rfl), zz24, zz0, zz42⟩
  ·rw [if_neg c7] at H; exact absurd H (by simp)
 ·rw [if_neg c6] at H; exact absurd H (by simp)
end Go.Proofs.Ythicocmnefaioaa.QS

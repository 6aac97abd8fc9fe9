import Derived.Test.YthicocmnefaioaaZh0
namespace Go.Proofs.Ythicocmnefaioaa.QS
open Go.RowKit Go.Proofs.YthicocmnefaioaaW.PrintWords Go.Proofs.YthicocmnefaioaaW.PrintLast Go.Proofs.YthicocmnefaioaaW.PrintMore
open Go.Proofs.YthicocmnefaioaaW.Sq
attribute [local go_sem] max2_int min2_int max_two min_two max_three min_three max_four min_four
set_option linter.unusedVariables false
set_option linter.unusedSimpArgs false
attribute [local go_sem high] own_string_gtr
def value_Compare.f (a0_0 : Int) (a0_1 : Int) (a0_2 : ByteArray) (a1_0 : Int) (a1_1 : Int) (a1_2 : ByteArray) : Option (Int) := (value_Clean.f a0_0 a0_1 a0_2).bind fun bt121 => ((value_Clean.f a1_0 a1_1 a1_2).bind fun bt124 => (if bt121.1 = bt124.1 then (if bt121.1 = 1 then ((cmp_Compare_int64.f bt121.2.1 bt124.2.1).bind fun t128 => (some t128)) else ((cmp_Compare_string.f bt121.2.2 bt124.2.2).bind fun t129 => (some t129))) else ((cmp_Compare_int.f bt121.1 bt124.1).bind fun t127 => (some t127))))
set_option maxHeartbeats 8000000 in
set_option maxRecDepth 100000 in
theorem value_Compare.calls (a0_0 : Int) (a0_1 : Int) (a0_2 : ByteArray) (a1_0 : Int) (a1_1 : Int) (a1_2 : ByteArray) (r : Int) (w : World) (h : value_Compare.f a0_0 a0_1 a0_2 a1_0 a1_1 a1_2 = some r) :
  Calls Try.prog 137 #[.agg #[.int .i64 a0_0, .int .i64 a0_1, .string a0_2], .agg #[.int .i64 a1_0, .int .i64 a1_1, .string a1_2]] w fun e w' => e = .returned (.int .i64 r) ∧ Below w.heap.size w w' := by
 have hu23 := Try.underlying23; have HB := Aside0.mk (Below.refl w.heap.size w); have H : ((value_Clean.f a0_0 a0_1 a0_2).bind fun bt121 => ((value_Clean.f a1_0 a1_1 a1_2).bind fun bt124 => (if bt121.1 = bt124.1 then (if bt121.1 = 1 then ((cmp_Compare_int64.f bt121.2.1 bt124.2.1).bind fun t128 => (some t128)) else ((cmp_Compare_string.f bt121.2.2 bt124.2.2).bind fun t129 => (some t129))) else ((cmp_Compare_int.f bt121.1 bt124.1).bind fun t127 => (some t127))))) = some r := h; clear h; replace H := Option.bind_eq_some_iff.mp H; obtain ⟨⟨t121, t122, t123⟩, A30, H⟩ := H; replace H : ((value_Clean.f a1_0 a1_1 a1_2).bind fun bt124 => (if t121 = bt124.1 then (if t121 = 1 then ((cmp_Compare_int64.f t122 bt124.2.1).bind fun t128 => (some t128)) else ((cmp_Compare_string.f t123 bt124.2.2).bind fun t129 => (some t129))) else ((cmp_Compare_int.f t121 bt124.1).bind fun t127 => (some t127)))) = some r := H; have A3 := Aside0.mk A30; clear A30; replace H := Option.bind_eq_some_iff.mp H; obtain ⟨⟨t124, t125, t126⟩, A40, H⟩ := H; replace H : (if t121 = t124 then (if t121 = 1 then ((cmp_Compare_int64.f t122 t125).bind fun t128 => (some t128)) else ((cmp_Compare_string.f t123 t126).bind fun t129 => (some t129))) else ((cmp_Compare_int.f t121 t124).bind fun t127 => (some t127))) = some r := H; have A4 := Aside0.mk A40; clear A40
 by_cases c5 : t121 = t124
 ·rw [if_pos c5] at H; have c5b0 : (t121 == t124) = true := beq_iff_eq.mpr c5; have c5b1 : (t121 != t124) = false := bne_eq_false_iff_eq.mpr c5; clear c5
  by_cases c6 : t121 = 1
  ·rw [if_pos c6] at H; have c6b0 : (t121 == 1) = true := beq_iff_eq.mpr c6; have c6b1 : (t121 != 1) = false := bne_eq_false_iff_eq.mpr c6; clear c6; replace H := Option.bind_eq_some_iff.mp H; obtain ⟨t128, A70, H⟩ := H; replace H : (some t128) = some r := H; have A7 := Aside0.mk A70; clear A70; obtain rfl := Option.some.inj H
   go_enter Try.func137, Try.ntmps137
   try go_wp2_with (first | ((with_reducible refine gate_dst (N := 2) rfl ?_); refine box_event ?hg (N := 2) ?hd (cs := #[.int .i64 a0_0, .int .i64 a0_1, .string a0_2]) (t := 23) ?hr ?_; (case hd => rfl); (case hg => rfl); (case hr => first | (go_simp; done) | (go_simp; rfl)); intro gb100 hg w8 hbox hb; have n0_ := Aside0.mk (below_step zz2 hb); have n1_ := Aside0.mk (hbox); have n2_ := Aside0.mk ((zz3 : w.heap.size ≤ gb100)); have n3_ := Aside0.mk ((zz3 : w.heap.size ≤ gb100)); clear HB; have HB := n0_; have BK100 := n1_; have GW100 := n2_; have GE100 := n3_; clear n0_ n1_ n2_ n3_; clear hb hbox hg) | ((with_reducible refine gate_dst (N := 3) rfl ?_); refine box_event ?hg (N := 3) ?hd (cs := #[.int .i64 a1_0, .int .i64 a1_1, .string a1_2]) (t := 23) ?hr ?_; (case hd => rfl); (case hg => rfl); (case hr => first | (go_simp; done) | (go_simp; rfl)); intro gb101 hg w9 hbox hb; have n0_ := Aside0.mk (blk_below (g := gb100) (o := .cells #[.int .i64 a0_0, .int .i64 a0_1, .string a0_2] 23 (0, 0)) zz7 hb); have n1_ := Aside0.mk (below_step zz5 hb); have n2_ := Aside0.mk (hbox); have n3_ := Aside0.mk ((zz8 : w.heap.size ≤ gb101)); have n4_ := Aside0.mk ((zz8 : w.heap.size ≤ gb101)); have n5_ := Aside0.mk ((zz9 : gb100 ≠ gb101)); have n6_ := Aside0.mk ((zz10 : gb101 ≠ gb100)); clear BK100; clear HB; have BK100 := n0_; have HB := n1_; have BK101 := n2_; have GW101 := n3_; have GE101 := n4_; have NB100_101 := n5_; have NB101_100 := n6_; clear n0_ n1_ n2_ n3_ n4_ n5_ n6_; clear hb hbox hg))
   have n0_ := Aside0.mk (blk_drew BK100.out); have n1_ := Aside0.mk (blk_drew BK101.out); have n2_ := Aside0.mk (below_drew1 HB.out); clear BK100; clear BK101; clear HB; have BK100 := n0_; have BK101 := n1_; have HB := n2_; clear n0_ n1_ n2_; refine start_ (n := 6) (S := fun w' => w'.cell? ⟨gb100, 0, none⟩ = some (.int .i64 a0_0) ∧ w'.cell? ⟨gb100, 1, none⟩ = some (.int .i64 a0_1) ∧ w'.cell? ⟨gb100, 2, none⟩ = some (.string a0_2) ∧ w'.cell? ⟨gb101, 0, none⟩ = some (.int .i64 a1_0) ∧ w'.cell? ⟨gb101, 1, none⟩ = some (.int .i64 a1_1) ∧ w'.cell? ⟨gb101, 2, none⟩ = some (.string a1_2)) (ds := [4, 5]) (.replicate 6 false) (by kernel_rfl) rfl rfl ⟨cK BK100 0, cK BK100 1, cK BK100 2, cK BK101 0, cK BK101 1, cK BK101 2⟩ (fun hHeld => ?_); generalize w9.drew = w10 at BK100 BK101 HB hHeld ⊢; refine take_ (i := 0) (N := some 5) (v := ?_) (a' := ?_) (bA 6 1) rfl rfl (by kernel_rfl) (fun _ _ _ h => h) (Or.inl ⟨by rfl, ?_⟩) hHeld ?_ ?_; rotate_left
   ·rintro w' ⟨s0, s1, s2, s3, s4, s5⟩
    go_simp
    (with_reducible rfl)
   rotate_left
   ·simp only [Act.put, List.setIfInBounds_toArray, List.set_cons_zero, List.set_cons_succ, i64_w, i32_w]
    rfl
   refine take_ (i := 2) (N := some 7) (v := ?_) (a' := ?_) (bA 6 5) rfl rfl (by kernel_rfl) (fun _ _ _ h => h) (Or.inl ⟨by rfl, ?_⟩) hHeld ?_ ?_; rotate_left
   ·rintro w' ⟨s0, s1, s2, s3, s4, s5⟩
    go_simp
    (with_reducible rfl)
   rotate_left
   ·simp only [Act.put, List.setIfInBounds_toArray, List.set_cons_zero, List.set_cons_succ, i64_w, i32_w]
    rfl
   refine one_ (i := 1) (N := some 6) (bA 6 7) rfl rfl (by kernel_rfl) (by decide) (fun K hK => ?_); refine goes_ Try.func85 (by kernel_rfl) rfl #[.agg #[.int .i64 a0_0, .int .i64 a0_1, .string a0_2]] (by rfl) rfl rfl zz6 ?_; (with_reducible refine (value_Clean.calls a0_0 a0_1 a0_2 t121 t122 t123 _ A3.out).mono ?_); rintro e w11 ⟨rfl, hb⟩; refine ⟨_, rfl, ?_⟩; have n0_ := Aside0.mk (blk_below (g := gb100) (o := .cells #[.int .i64 a0_0, .int .i64 a0_1, .string a0_2] 23 (0, 0)) zz7 hb); have n1_ := Aside0.mk (blk_below (g := gb101) (o := .cells #[.int .i64 a1_0, .int .i64 a1_1, .string a1_2] 23 (0, 0)) zz11 hb); have n2_ := Aside0.mk (below_step zz12 hb); clear BK100; clear BK101; clear HB; have BK100 := n0_; have BK101 := n1_; have HB := n2_; clear n0_ n1_ n2_; (try clear hb); (try clear hb2); (try clear hk); (try clear hi); refine hK.out _ _ ⟨cK BK100 0, cK BK100 1, cK BK100 2, cK BK101 0, cK BK101 1, cK BK101 2⟩ (fun hHeld => ?_); clear hK K; refine norm_ (a' := ?_) ?_ ?_; rotate_left
   ·show Act.put _ (some 6) _ = _
    simp only [Act.put, List.setIfInBounds_toArray, List.set_cons_zero, List.set_cons_succ, i64_w, i32_w]
    rfl
   refine one_ (i := 3) (N := some 8) (bA 6 15) rfl rfl (by kernel_rfl) (by decide) (fun K hK => ?_); refine goes_ Try.func85 (by kernel_rfl) rfl #[.agg #[.int .i64 a1_0, .int .i64 a1_1, .string a1_2]] (by rfl) rfl rfl zz6 ?_; (with_reducible refine (value_Clean.calls a1_0 a1_1 a1_2 t124 t125 t126 _ A4.out).mono ?_); rintro e w12 ⟨rfl, hb⟩; refine ⟨_, rfl, ?_⟩; have n0_ := Aside0.mk (blk_below (g := gb100) (o := .cells #[.int .i64 a0_0, .int .i64 a0_1, .string a0_2] 23 (0, 0)) zz7 hb); have n1_ := Aside0.mk (blk_below (g := gb101) (o := .cells #[.int .i64 a1_0, .int .i64 a1_1, .string a1_2] 23 (0, 0)) zz11 hb); have n2_ := Aside0.mk (below_step zz12 hb); clear BK100; clear BK101; clear HB; have BK100 := n0_; have BK101 := n1_; have HB := n2_; clear n0_ n1_ n2_; (try clear hb); (try clear hb2); (try clear hk); (try clear hi); refine hK.out _ _ ⟨cK BK100 0, cK BK100 1, cK BK100 2, cK BK101 0, cK BK101 1, cK BK101 2⟩ (fun hHeld => ?_); clear hK K; refine norm_ (a' := ?_) ?_ ?_; rotate_left
   ·show Act.put _ (some 8) _ = _
    simp only [Act.put, List.setIfInBounds_toArray, List.set_cons_zero, List.set_cons_succ, i64_w, i32_w]
    rfl
   refine last_ (i := 4) (N := none) (bA 6 31) rfl rfl (by kernel_rfl) (by decide) (fun K hK => ?_); have hs13 : w12.cell? ⟨gb100, 0, none⟩ = some (.int .i64 a0_0) := cK BK100 0; have hfs13 := blk_frozen BK100.out 0; have hns13_1 := NB101_100.out; have hms13_1 := NB100_101.out; have hs14 : w12.cell? ⟨gb100, 1, none⟩ = some (.int .i64 a0_1) := cK BK100 1; have hfs14 := blk_frozen BK100.out 1; have hns14_1 := NB101_100.out; have hms14_1 := NB100_101.out; have hs15 : w12.cell? ⟨gb100, 2, none⟩ = some (.string a0_2) := cK BK100 2; have hfs15 := blk_frozen BK100.out 2; have hns15_1 := NB101_100.out; have hms15_1 := NB100_101.out; refine skip_ (w1 := ?_) (by rfl) rfl ?_ ?_; rotate_left
   ·go_simp
    rfl
   refine hK.out _ _ ?_; clear hK K; refine last_ (i := 5) (N := none) (bA 6 63) rfl rfl (by kernel_rfl) (by decide) (fun K hK => ?_); have hs16 : w12.cell? ⟨gb101, 0, none⟩ = some (.int .i64 a1_0) := cK BK101 0; have hfs16 := blk_frozen BK101.out 0; have hns16_0 := NB100_101.out; have hms16_0 := NB101_100.out; have hs17 : w12.cell? ⟨gb101, 1, none⟩ = some (.int .i64 a1_1) := cK BK101 1; have hfs17 := blk_frozen BK101.out 1; have hns17_0 := NB100_101.out; have hms17_0 := NB101_100.out; have hs18 : w12.cell? ⟨gb101, 2, none⟩ = some (.string a1_2) := cK BK101 2; have hfs18 := blk_frozen BK101.out 2; have hns18_0 := NB100_101.out; have hms18_0 := NB101_100.out; refine skip_ (w1 := ?_) (by rfl) rfl ?_ ?_; rotate_left
   ·go_simp
    rfl
   refine hK.out _ _ ?_; clear hK K; refine done_ (by kernel_rfl) ?_; have hnb19 := NB100_101.out; have hnc19 := NB101_100.out; have hcz20_0 : w12.cell? ⟨gb100, 0, none⟩ = some (.int .i64 a0_0) := cK BK100 0; have hcz20_1 : w12.cell? ⟨gb100, 1, none⟩ = some (.int .i64 a0_1) := cK BK100 1; have hcz20_2 : w12.cell? ⟨gb100, 2, none⟩ = some (.string a0_2) := cK BK100 2; have hfz20_0 := blk_frozen BK100.out 0; have hfz20_1 := blk_frozen BK100.out 1; have hfz20_2 := blk_frozen BK100.out 2; have hcz21_0 : w12.cell? ⟨gb101, 0, none⟩ = some (.int .i64 a1_0) := cK BK101 0; have hcz21_1 : w12.cell? ⟨gb101, 1, none⟩ = some (.int .i64 a1_1) := cK BK101 1; have hcz21_2 : w12.cell? ⟨gb101, 2, none⟩ = some (.string a1_2) := cK BK101 2; have hfz21_0 := blk_frozen BK101.out 0; have hfz21_1 := blk_frozen BK101.out 1; have hfz21_2 := blk_frozen BK101.out 2
   try go_wp2_with (first | ((with_reducible refine gate_callee (f := 163) rfl ?_); refine goesL_ (some 26) rfl rfl Try.func163 (by kernel_rfl) rfl #[.int .i64 t122, .int .i64 t125] rfl zz6 ?_; (with_reducible refine (cmp_Compare_int64.calls t122 t125 t128 _ A7.out).mono ?_); rintro e w' ⟨rfl, ⟨nd, rfl⟩⟩; refine ⟨_, rfl, ?_⟩))
   go_ret
   exact ⟨zz4, zz12⟩
  ·rw [if_neg c6] at H; have c6b0 : (t121 == 1) = false := beq_eq_false_iff_ne.mpr c6; have c6b1 : (t121 != 1) = true := bne_iff_ne.mpr c6; replace H := Option.bind_eq_some_iff.mp H; obtain ⟨t129, A220, H⟩ := H; replace H : (some t129) = some r := H; have A22 := Aside0.mk A220; clear A220; obtain rfl := Option.some.inj H
   go_enter Try.func137, Try.ntmps137
   try go_wp2_with (first | ((with_reducible refine gate_dst (N := 2) rfl ?_); refine box_event ?hg (N := 2) ?hd (cs := #[.int .i64 a0_0, .int .i64 a0_1, .string a0_2]) (t := 23) ?hr ?_; (case hd => rfl); (case hg => rfl); (case hr => first | (go_simp; done) | (go_simp; rfl)); intro gb100 hg w23 hbox hb; have n0_ := Aside0.mk (below_step zz2 hb); have n1_ := Aside0.mk (hbox); have n2_ := Aside0.mk ((zz3 : w.heap.size ≤ gb100)); have n3_ := Aside0.mk ((zz3 : w.heap.size ≤ gb100)); clear HB; have HB := n0_; have BK100 := n1_; have GW100 := n2_; have GE100 := n3_; clear n0_ n1_ n2_ n3_; clear hb hbox hg) | ((with_reducible refine gate_dst (N := 3) rfl ?_); refine box_event ?hg (N := 3) ?hd (cs := #[.int .i64 a1_0, .int .i64 a1_1, .string a1_2]) (t := 23) ?hr ?_; (case hd => rfl); (case hg => rfl); (case hr => first | (go_simp; done) | (go_simp; rfl)); intro gb101 hg w24 hbox hb; have n0_ := Aside0.mk (blk_below (g := gb100) (o := .cells #[.int .i64 a0_0, .int .i64 a0_1, .string a0_2] 23 (0, 0)) zz7 hb); have n1_ := Aside0.mk (below_step zz5 hb); have n2_ := Aside0.mk (hbox); have n3_ := Aside0.mk ((zz8 : w.heap.size ≤ gb101)); have n4_ := Aside0.mk ((zz8 : w.heap.size ≤ gb101)); have n5_ := Aside0.mk ((zz9 : gb100 ≠ gb101)); have n6_ := Aside0.mk ((zz10 : gb101 ≠ gb100)); clear BK100; clear HB; have BK100 := n0_; have HB := n1_; have BK101 := n2_; have GW101 := n3_; have GE101 := n4_; have NB100_101 := n5_; have NB101_100 := n6_; clear n0_ n1_ n2_ n3_ n4_ n5_ n6_; clear hb hbox hg))
   have n0_ := Aside0.mk (blk_drew BK100.out); have n1_ := Aside0.mk (blk_drew BK101.out); have n2_ := Aside0.mk (below_drew1 HB.out); clear BK100; clear BK101; clear HB; have BK100 := n0_; have BK101 := n1_; have HB := n2_; clear n0_ n1_ n2_; refine start_ (n := 6) (S := fun w' => w'.cell? ⟨gb100, 0, none⟩ = some (.int .i64 a0_0) ∧ w'.cell? ⟨gb100, 1, none⟩ = some (.int .i64 a0_1) ∧ w'.cell? ⟨gb100, 2, none⟩ = some (.string a0_2) ∧ w'.cell? ⟨gb101, 0, none⟩ = some (.int .i64 a1_0) ∧ w'.cell? ⟨gb101, 1, none⟩ = some (.int .i64 a1_1) ∧ w'.cell? ⟨gb101, 2, none⟩ = some (.string a1_2)) (ds := [4, 5]) (.replicate 6 false) (by kernel_rfl) rfl rfl ⟨cK BK100 0, cK BK100 1, cK BK100 2, cK BK101 0, cK BK101 1, cK BK101 2⟩ (fun hHeld => ?_); generalize w24.drew = w25 at BK100 BK101 HB hHeld ⊢; refine take_ (i := 0) (N := some 5) (v := ?_) (a' := ?_) (bA 6 1) rfl rfl (by kernel_rfl) (fun _ _ _ h => h) (Or.inl ⟨by rfl, ?_⟩) hHeld ?_ ?_; rotate_left
   ·rintro w' ⟨s0, s1, s2, s3, s4, s5⟩
    go_simp
    (with_reducible rfl)
   rotate_left
   ·simp only [Act.put, List.setIfInBounds_toArray, List.set_cons_zero, List.set_cons_succ, i64_w, i32_w]
    rfl
   refine take_ (i := 2) (N := some 7) (v := ?_) (a' := ?_) (bA 6 5) rfl rfl (by kernel_rfl) (fun _ _ _ h => h) (Or.inl ⟨by rfl, ?_⟩) hHeld ?_ ?_; rotate_left
   ·rintro w' ⟨s0, s1, s2, s3, s4, s5⟩
    go_simp
    (with_reducible rfl)
   rotate_left
   ·simp only [Act.put, List.setIfInBounds_toArray, List.set_cons_zero, List.set_cons_succ, i64_w, i32_w]
    rfl
   refine one_ (i := 1) (N := some 6) (bA 6 7) rfl rfl (by kernel_rfl) (by decide) (fun K hK => ?_); refine goes_ Try.func85 (by kernel_rfl) rfl #[.agg #[.int .i64 a0_0, .int .i64 a0_1, .string a0_2]] (by rfl) rfl rfl zz6 ?_; (with_reducible refine (value_Clean.calls a0_0 a0_1 a0_2 t121 t122 t123 _ A3.out).mono ?_); rintro e w26 ⟨rfl, hb⟩; refine ⟨_, rfl, ?_⟩; have n0_ := Aside0.mk (blk_below (g := gb100) (o := .cells #[.int .i64 a0_0, .int .i64 a0_1, .string a0_2] 23 (0, 0)) zz7 hb); have n1_ := Aside0.mk (blk_below (g := gb101) (o := .cells #[.int .i64 a1_0, .int .i64 a1_1, .string a1_2] 23 (0, 0)) zz11 hb); have n2_ := Aside0.mk (below_step zz12 hb); clear BK100; clear BK101; clear HB; have BK100 := n0_; have BK101 := n1_; have HB := n2_; clear n0_ n1_ n2_; (try clear hb); (try clear hb2); (try clear hk); (try clear hi); refine hK.out _ _ ⟨cK BK100 0, cK BK100 1, cK BK100 2, cK BK101 0, cK BK101 1, cK BK101 2⟩ (fun hHeld => ?_); clear hK K; refine norm_ (a' := ?_) ?_ ?_; rotate_left
   ·show Act.put _ (some 6) _ = _
    simp only [Act.put, List.setIfInBounds_toArray, List.set_cons_zero, List.set_cons_succ, i64_w, i32_w]
    rfl
   refine one_ (i := 3) (N := some 8) (bA 6 15) rfl rfl (by kernel_rfl) (by decide) (fun K hK => ?_); refine goes_ Try.func85 (by kernel_rfl) rfl #[.agg #[.int .i64 a1_0, .int .i64 a1_1, .string a1_2]] (by rfl) rfl rfl zz6 ?_; (with_reducible refine (value_Clean.calls a1_0 a1_1 a1_2 t124 t125 t126 _ A4.out).mono ?_); rintro e w27 ⟨rfl, hb⟩; refine ⟨_, rfl, ?_⟩; have n0_ := Aside0.mk (blk_below (g := gb100) (o := .cells #[.int .i64 a0_0, .int .i64 a0_1, .string a0_2] 23 (0, 0)) zz7 hb); have n1_ := Aside0.mk (blk_below (g := gb101) (o := .cells #[.int .i64 a1_0, .int .i64 a1_1, .string a1_2] 23 (0, 0)) zz11 hb); have n2_ := Aside0.mk (below_step zz12 hb); clear BK100; clear BK101; clear HB; have BK100 := n0_; have BK101 := n1_; have HB := n2_; clear n0_ n1_ n2_; (try clear hb); (try clear hb2); (try clear hk); (try clear hi); refine hK.out _ _ ⟨cK BK100 0, cK BK100 1, cK BK100 2, cK BK101 0, cK BK101 1, cK BK101 2⟩ (fun hHeld => ?_); clear hK K; refine norm_ (a' := ?_) ?_ ?_; rotate_left
   ·show Act.put _ (some 8) _ = _
    simp only [Act.put, List.setIfInBounds_toArray, List.set_cons_zero, List.set_cons_succ, i64_w, i32_w]
    rfl
   refine last_ (i := 4) (N := none) (bA 6 31) rfl rfl (by kernel_rfl) (by decide) (fun K hK => ?_); have hs28 : w27.cell? ⟨gb100, 0, none⟩ = some (.int .i64 a0_0) := cK BK100 0; have hfs28 := blk_frozen BK100.out 0; have hns28_1 := NB101_100.out; have hms28_1 := NB100_101.out; have hs29 : w27.cell? ⟨gb100, 1, none⟩ = some (.int .i64 a0_1) := cK BK100 1; have hfs29 := blk_frozen BK100.out 1; have hns29_1 := NB101_100.out; have hms29_1 := NB100_101.out; have hs30 : w27.cell? ⟨gb100, 2, none⟩ = some (.string a0_2) := cK BK100 2; have hfs30 := blk_frozen BK100.out 2; have hns30_1 := NB101_100.out; have hms30_1 := NB100_101.out; refine skip_ (w1 := ?_) (by rfl) rfl ?_ ?_; rotate_left
   ·go_simp
    rfl
   refine hK.out _ _ ?_; clear hK K; refine last_ (i := 5) (N := none) (bA 6 63) rfl rfl (by kernel_rfl) (by decide) (fun K hK => ?_); have hs31 : w27.cell? ⟨gb101, 0, none⟩ = some (.int .i64 a1_0) := cK BK101 0; have hfs31 := blk_frozen BK101.out 0; have hns31_0 := NB100_101.out; have hms31_0 := NB101_100.out; have hs32 : w27.cell? ⟨gb101, 1, none⟩ = some (.int .i64 a1_1) := cK BK101 1; have hfs32 := blk_frozen BK101.out 1; have hns32_0 := NB100_101.out; have hms32_0 := NB101_100.out; have hs33 : w27.cell? ⟨gb101, 2, none⟩ = some (.string a1_2) := cK BK101 2; have hfs33 := blk_frozen BK101.out 2; have hns33_0 := NB100_101.out; have hms33_0 := NB101_100.out; refine skip_ (w1 := ?_) (by rfl) rfl ?_ ?_; rotate_left
   ·go_simp
    rfl
   refine hK.out _ _ ?_; clear hK K; refine done_ (by kernel_rfl) ?_; have hnb34 := NB100_101.out; have hnc34 := NB101_100.out; have hcz35_0 : w27.cell? ⟨gb100, 0, none⟩ = some (.int .i64 a0_0) := cK BK100 0; have hcz35_1 : w27.cell? ⟨gb100, 1, none⟩ = some (.int .i64 a0_1) := cK BK100 1; have hcz35_2 : w27.cell? ⟨gb100, 2, none⟩ = some (.string a0_2) := cK BK100 2; have hfz35_0 := blk_frozen BK100.out 0; have hfz35_1 := blk_frozen BK100.out 1; have hfz35_2 := blk_frozen BK100.out 2; have hcz36_0 : w27.cell? ⟨gb101, 0, none⟩ = some (.int .i64 a1_0) := cK BK101 0; have hcz36_1 : w27.cell? ⟨gb101, 1, none⟩ = some (.int .i64 a1_1) := cK BK101 1; have hcz36_2 : w27.cell? ⟨gb101, 2, none⟩ = some (.string a1_2) := cK BK101 2; have hfz36_0 := blk_frozen BK101.out 0; have hfz36_1 := blk_frozen BK101.out 1; have hfz36_2 := blk_frozen BK101.out 2
   try go_wp2_with (first | ((with_reducible refine gate_callee (f := 134) rfl ?_); refine goesL_ (some 31) rfl rfl Try.func134 (by kernel_rfl) rfl #[.string t123, .string t126] rfl zz6 ?_; (with_reducible refine (cmp_Compare_string.calls t123 t126 t129 _ A22.out).mono ?_); rintro e w' ⟨rfl, ⟨nd, rfl⟩⟩; refine ⟨_, rfl, ?_⟩))
   go_ret
   exact ⟨zz4, zz12⟩
 ·rw [if_neg c5] at H; have c5b0 : (t121 == t124) = false := beq_eq_false_iff_ne.mpr c5; have c5b1 : (t121 != t124) = true := bne_iff_ne.mpr c5; replace H := Option.bind_eq_some_iff.mp H; obtain ⟨t127, A370, H⟩ := H; replace H : (some t127) = some r := H; have A37 := Aside0.mk A370; clear A370; obtain rfl := Option.some.inj H
  go_enter Try.func137, Try.ntmps137
  try go_wp2_with (first | ((with_reducible refine gate_dst (N := 2) rfl ?_); refine box_event ?hg (N := 2) ?hd (cs := #[.int .i64 a0_0, .int .i64 a0_1, .string a0_2]) (t := 23) ?hr ?_; (case hd => rfl); (case hg => rfl); (case hr => first | (go_simp; done) | (go_simp; rfl)); intro gb100 hg w38 hbox hb; have n0_ := Aside0.mk (below_step zz2 hb); have n1_ := Aside0.mk (hbox); have n2_ := Aside0.mk ((zz3 : w.heap.size ≤ gb100)); have n3_ := Aside0.mk ((zz3 : w.heap.size ≤ gb100)); clear HB; have HB := n0_; have BK100 := n1_; have GW100 := n2_; have GE100 := n3_; clear n0_ n1_ n2_ n3_; clear hb hbox hg) | ((with_reducible refine gate_dst (N := 3) rfl ?_); refine box_event ?hg (N := 3) ?hd (cs := #[.int .i64 a1_0, .int .i64 a1_1, .string a1_2]) (t := 23) ?hr ?_; (case hd => rfl); (case hg => rfl); (case hr => first | (go_simp; done) | (go_simp; rfl)); intro gb101 hg w39 hbox hb; have n0_ := Aside0.mk (blk_below (g := gb100) (o := .cells #[.int .i64 a0_0, .int .i64 a0_1, .string a0_2] 23 (0, 0)) zz7 hb); have n1_ := Aside0.mk (below_step zz5 hb); have n2_ := Aside0.mk (hbox); have n3_ := Aside0.mk ((zz8 : w.heap.size ≤ gb101)); have n4_ := Aside0.mk ((zz8 : w.heap.size ≤ gb101)); have n5_ := Aside0.mk ((zz9 : gb100 ≠ gb101)); have n6_ := Aside0.mk ((zz10 : gb101 ≠ gb100)); clear BK100; clear HB; have BK100 := n0_; have HB := n1_; have BK101 := n2_; have GW101 := n3_; have GE101 := n4_; have NB100_101 := n5_; have NB101_100 := n6_; clear n0_ n1_ n2_ n3_ n4_ n5_ n6_; clear hb hbox hg))
  have n0_ := Aside0.mk (blk_drew BK100.out); have n1_ := Aside0.mk (blk_drew BK101.out); have n2_ := Aside0.mk (below_drew1 HB.out); clear BK100; clear BK101; clear HB; have BK100 := n0_; have BK101 := n1_; have HB := n2_; clear n0_ n1_ n2_; refine start_ (n := 6) (S := fun w' => w'.cell? ⟨gb100, 0, none⟩ = some (.int .i64 a0_0) ∧ w'.cell? ⟨gb100, 1, none⟩ = some (.int .i64 a0_1) ∧ w'.cell? ⟨gb100, 2, none⟩ = some (.string a0_2) ∧ w'.cell? ⟨gb101, 0, none⟩ = some (.int .i64 a1_0) ∧ w'.cell? ⟨gb101, 1, none⟩ = some (.int .i64 a1_1) ∧ w'.cell? ⟨gb101, 2, none⟩ = some (.string a1_2)) (ds := [4, 5]) (.replicate 6 false) (by kernel_rfl) rfl rfl ⟨cK BK100 0, cK BK100 1, cK BK100 2, cK BK101 0, cK BK101 1, cK BK101 2⟩ (fun hHeld => ?_); generalize w39.drew = w40 at BK100 BK101 HB hHeld ⊢; refine take_ (i := 0) (N := some 5) (v := ?_) (a' := ?_) (bA 6 1) rfl rfl (by kernel_rfl) (fun _ _ _ h => h) (Or.inl ⟨by rfl, ?_⟩) hHeld ?_ ?_; rotate_left
  ·rintro w' ⟨s0, s1, s2, s3, s4, s5⟩
   go_simp
   (with_reducible rfl)
  rotate_left
  ·simp only [Act.put, List.setIfInBounds_toArray, List.set_cons_zero, List.set_cons_succ, i64_w, i32_w]
   rfl
  refine take_ (i := 2) (N := some 7) (v := ?_) (a' := ?_) (bA 6 5) rfl rfl (by kernel_rfl) (fun _ _ _ h => h) (Or.inl ⟨by rfl, ?_⟩) hHeld ?_ ?_; rotate_left
  ·rintro w' ⟨s0, s1, s2, s3, s4, s5⟩
   go_simp
   (with_reducible rfl)
  rotate_left
  ·simp only [Act.put, List.setIfInBounds_toArray, List.set_cons_zero, List.set_cons_succ, i64_w, i32_w]
   rfl
  refine one_ (i := 1) (N := some 6) (bA 6 7) rfl rfl (by kernel_rfl) (by decide) (fun K hK => ?_); refine goes_ Try.func85 (by kernel_rfl) rfl #[.agg #[.int .i64 a0_0, .int .i64 a0_1, .string a0_2]] (by rfl) rfl rfl zz6 ?_; (with_reducible refine (value_Clean.calls a0_0 a0_1 a0_2 t121 t122 t123 _ A3.out).mono ?_); rintro e w41 ⟨rfl, hb⟩; refine ⟨_, rfl, ?_⟩; have n0_ := Aside0.mk (blk_below (g := gb100) (o := .cells #[.int .i64 a0_0, .int .i64 a0_1, .string a0_2] 23 (0, 0)) zz7 hb); have n1_ := Aside0.mk (blk_below (g := gb101) (o := .cells #[.int .i64 a1_0, .int .i64 a1_1, .string a1_2] 23 (0, 0)) zz11 hb); have n2_ := Aside0.mk (below_step zz12 hb); clear BK100; clear BK101; clear HB; have BK100 := n0_; have BK101 := n1_; have HB := n2_; clear n0_ n1_ n2_; (try clear hb); (try clear hb2); (try clear hk); (try clear hi); refine hK.out _ _ ⟨cK BK100 0, cK BK100 1, cK BK100 2, cK BK101 0, cK BK101 1, cK BK101 2⟩ (fun hHeld => ?_); clear hK K; refine norm_ (a' := ?_) ?_ ?_; rotate_left
  ·show Act.put _ (some 6) _ = _
   simp only [Act.put, List.setIfInBounds_toArray, List.set_cons_zero, List.set_cons_succ, i64_w, i32_w]
   rfl
  refine one_ (i := 3) (N := some 8) (bA 6 15) rfl rfl (by kernel_rfl) (by decide) (fun K hK => ?_); refine goes_ Try.func85 (by kernel_rfl) rfl #[.agg #[.int .i64 a1_0, .int .i64 a1_1, .string a1_2]] (by rfl) rfl rfl zz6 ?_; (with_reducible refine (value_Clean.calls a1_0 a1_1 a1_2 t124 t125 t126 _ A4.out).mono ?_); rintro e w42 ⟨rfl, hb⟩; refine ⟨_, rfl, ?_⟩; have n0_ := Aside0.mk (blk_below (g := gb100) (o := .cells #[.int .i64 a0_0, .int .i64 a0_1, .string a0_2] 23 (0, 0)) zz7 hb); have n1_ := Aside0.mk (blk_below (g := gb101) (o := .cells #[.int .i64 a1_0, .int .i64 a1_1, .string a1_2] 23 (0, 0)) zz11 hb); have n2_ := Aside0.mk (below_step zz12 hb); clear BK100; clear BK101; clear HB; have BK100 := n0_; have BK101 := n1_; have HB := n2_; clear n0_ n1_ n2_; (try clear hb); (try clear hb2); (try clear hk); (try clear hi); refine hK.out _ _ ⟨cK BK100 0, cK BK100 1, cK BK100 2, cK BK101 0, cK BK101 1, cK BK101 2⟩ (fun hHeld => ?_); clear hK K; refine norm_ (a' := ?_) ?_ ?_; rotate_left
  ·show Act.put _ (some 8) _ = _
   simp only [Act.put, List.setIfInBounds_toArray, List.set_cons_zero, List.set_cons_succ, i64_w, i32_w]
   rfl
  refine last_ (i := 4) (N := none) (bA 6 31) rfl rfl (by kernel_rfl) (by decide) (fun K hK => ?_); have hs43 : w42.cell? ⟨gb100, 0, none⟩ = some (.int .i64 a0_0) := cK BK100 0; have hfs43 := blk_frozen BK100.out 0; have hns43_1 := NB101_100.out; have hms43_1 := NB100_101.out; have hs44 : w42.cell? ⟨gb100, 1, none⟩ = some (.int .i64 a0_1) := cK BK100 1; have hfs44 := blk_frozen BK100.out 1; have hns44_1 := NB101_100.out; have hms44_1 := NB100_101.out; have hs45 : w42.cell? ⟨gb100, 2, none⟩ = some (.string a0_2) := cK BK100 2; have hfs45 := blk_frozen BK100.out 2; have hns45_1 := NB101_100.out; have hms45_1 := NB100_101.out; refine skip_ (w1 := ?_) (by rfl) rfl ?_ ?_; rotate_left
  ·go_simp
   rfl
  refine hK.out _ _ ?_; clear hK K; refine last_ (i := 5) (N := none) (bA 6 63) rfl rfl (by kernel_rfl) (by decide) (fun K hK => ?_); have hs46 : w42.cell? ⟨gb101, 0, none⟩ = some (.int .i64 a1_0) := cK BK101 0; have hfs46 := blk_frozen BK101.out 0; have hns46_0 := NB100_101.out; have hms46_0 := NB101_100.out; have hs47 : w42.cell? ⟨gb101, 1, none⟩ = some (.int .i64 a1_1) := cK BK101 1; have hfs47 := blk_frozen BK101.out 1; have hns47_0 := NB100_101.out; have hms47_0 := NB101_100.out; have hs48 : w42.cell? ⟨gb101, 2, none⟩ = some (.string a1_2) := cK BK101 2; have hfs48 := blk_frozen BK101.out 2; have hns48_0 := NB100_101.out; have hms48_0 := NB101_100.out; refine skip_ (w1 := ?_) (by rfl) rfl ?_ ?_; rotate_left
  ·go_simp
   rfl
  refine hK.out _ _ ?_; clear hK K; refine done_ (by kernel_rfl) ?_; have hnb49 := NB100_101.out; have hnc49 := NB101_100.out; have hcz50_0 : w42.cell? ⟨gb100, 0, none⟩ = some (.int .i64 a0_0) := cK BK100 0; have hcz50_1 : w42.cell? ⟨gb100, 1, none⟩ = some (.int .i64 a0_1) := cK BK100 1; have hcz50_2 : w42.cell? ⟨gb100, 2, none⟩ = some (.string a0_2) := cK BK100 2; have hfz50_0 := blk_frozen BK100.out 0; have hfz50_1 := blk_frozen BK100.out 1; have hfz50_2 := blk_frozen BK100.out 2; have hcz51_0 : w42.cell? ⟨gb101, 0, none⟩ = some (.int .i64 a1_0) := cK BK101 0; have hcz51_1 : w42.cell? ⟨gb101, 1, none⟩ = some (.int .i64 a1_1) := cK BK101 1; have hcz51_2 : w42.cell? ⟨gb101, 2, none⟩ = some (.string a1_2) := cK BK101 2; have hfz51_0 := blk_frozen BK101.out 0; have hfz51_1 := blk_frozen BK101.out 1; have hfz51_2 := blk_frozen BK101.out 2
  try go_wp2_with (first | ((with_reducible refine gate_callee (f := 162) rfl ?_); refine goesL_ (some 18) rfl rfl Try.func162 (by kernel_rfl) rfl #[.int .i64 t121, .int .i64 t124] rfl zz6 ?_; (with_reducible refine (cmp_Compare_int.calls t121 t124 t127 _ A37.out).mono ?_); rintro e w' ⟨rfl, ⟨nd, rfl⟩⟩; refine ⟨_, rfl, ?_⟩))
  go_ret
  exact ⟨zz4, zz12⟩
def api_Value.l0 : Nat → List (S23) → List (S23) → List (S23) → Int → Int → Option (Int)
 | 0, _, _, _, _, _ => none
 | k + 1, x0, x1, x11, x12, x13 => if x13 < x12 then (if 0 ≤ x13 then (if x13 < (x11.length : Int) then (if x13 ≥ (x1.length : Int) then (some 1) else (if x13 < (x1.length : Int) then ((value_Compare.f ((rd_T23 x11 x13).f0) ((rd_T23 x11 x13).f1) ((rd_T23 x11 x13).f2) ((rd_T23 x1 x13).f0) ((rd_T23 x1 x13).f1) ((rd_T23 x1 x13).f2)).bind fun t134 => (if t134 = 0 then (api_Value.l0 k x0 x1 x11 x12 (wrap64 (x13 + 1))) else (some t134))) else (none))) else (none)) else (none)) else (if (x0.length : Int) < (x1.length : Int) then (some (-1)) else (some 0))
def api_Value.f (k : Nat) (l0 : List (S23)) (l1 : List (S23))  : Option (Int) := api_Value.l0 k l0 l1 l0 (l0.length : Int) 0
theorem api_Value.mono_l : ∀ k, (∀ y0 y1 y2 y3 y4, LeO (api_Value.l0 k y0 y1 y2 y3 y4) (api_Value.l0 (k + 1) y0 y1 y2 y3 y4))
 | 0 => fun _ _ _ _ _ r h => by simp [api_Value.l0] at h
 | k + 1 => by
  have ih0 := api_Value.mono_l k
  ·intro y0 y1 y2 y3 y4; unfold api_Value.l0
   repeat' first
   | (with_reducible exact ih0 _ _ _ _ _)
   | (with_reducible exact LeO.refl _)
   | (with_reducible exact LeO.none _)
   | (with_reducible refine LeO.ite ?_ ?_)
   | (with_reducible refine LeO.bind ?_ (fun _ => ?_))
   | exact ih0 _ _ _ _ _
   | exact LeO.none _
   | refine LeO.ite ?_ ?_
   | refine LeO.bind ?_ (fun _ => ?_)
theorem api_Value.mono : ∀ a0 a1 k, LeO (api_Value.f k a0 a1) (api_Value.f (k + 1) a0 a1) := by
 intro a0 a1 k; have ih0 := api_Value.mono_l k; unfold api_Value.f
 repeat' first
   | (with_reducible exact ih0 _ _ _ _ _)
   | (with_reducible exact LeO.refl _)
   | (with_reducible exact LeO.none _)
   | (with_reducible refine LeO.ite ?_ ?_)
   | (with_reducible refine LeO.bind ?_ (fun _ => ?_))
   | exact ih0 _ _ _ _ _
   | exact LeO.none _
   | refine LeO.ite ?_ ?_
   | refine LeO.bind ?_ (fun _ => ?_)
set_option maxHeartbeats 8000000 in
set_option maxRecDepth 100000 in
theorem api_Value.calls (k : Nat) (A0 : Option Addr) (c0 : Nat) (l0 : List (S23)) (A1 : Option Addr) (c1 : Nat) (l1 : List (S23))  (r : Int) (w : World) (hr0 : Kd.C k23 w A0 l0.length l0) (hc0 : l0.length ≤ c0) (hr1 : Kd.C k23 w A1 l1.length l1) (hc1 : l1.length ≤ c1) (h : api_Value.f k l0 l1 = some r) :
  Calls Try.prog 136 #[.slice A0 l0.length c0, .slice A1 l1.length c1, .func (.func 137) #[] #[]] w fun e w' => e = .returned (.int .i64 r) ∧ Below w.heap.size w w' := by
 have hu23 := Try.underlying23; have HR0 := Aside0.mk hr0; have HC0 := Aside0.mk hc0; clear hr0 hc0; have HR1 := Aside0.mk hr1; have HC1 := Aside0.mk hc1; clear hr1 hc1; have HB := Aside0.mk (Below.refl w.heap.size w); have H : (api_Value.l0 k l0 l1 l0 (l0.length : Int) 0) = some r := h; clear h; have H' := Aside0.mk H; clear H
 go_enter Try.func136, Try.ntmps136
 go_wp2
 go_loopg [13] k (fun kq v13 w' => ∃ (x13_1 : Int), v13 = .int .i64 x13_1 ∧ Aside0 (api_Value.l0 kq l0 l1 l0 (l0.length : Int) x13_1 = some r) ∧ Aside0 (kq ≤ k) ∧ Aside0 (Below w.heap.size w w'))
 case atStart => exact ⟨(0), zz0, H', ⟨Nat.le_refl _⟩, ⟨zz2⟩⟩
 case round =>
  clear H'; (try clear c1); (try clear p2); obtain ⟨x13_1, rfl, HA, HK1, HB⟩ := hrel
  cases gk with
  | zero => exact absurd HA.out (by simp [api_Value.l0])
  | succ k1 =>
   have H := HA.out; clear HA; simp only [api_Value.l0] at H
   by_cases c4 : x13_1 < (l0.length : Int)
   ·rw [if_pos c4] at H; have c4b0 : decide (x13_1 < (l0.length : Int)) = true := decide_eq_true c4; clear c4
    by_cases c5 : 0 ≤ x13_1
    ·rw [if_pos c5] at H; have c5b0 : decide (0 ≤ x13_1) = true := decide_eq_true c5; clear c5
     by_cases c6 : x13_1 < (l0.length : Int)
     ·rw [if_pos c6] at H; have c6b0 : decide (x13_1 < (l0.length : Int)) = true := decide_eq_true c6; clear c6
      by_cases c7 : x13_1 ≥ (l1.length : Int)
      ·rw [if_pos c7] at H; have c7b0 : decide ((l1.length : Int) ≤ x13_1) = true := decide_eq_true c7; clear c7; obtain rfl := Option.some.inj H; have p130 : 0 ≤ (x13_1 : Int) := of_decide_eq_true zz14; have q130 : x13_1 < (l0.length : Int) := of_decide_eq_true zz14; obtain ⟨ad130, e130, hx130_0, hx130_1, hx130_2⟩ := at_T23 HR0.out x13_1 p130 q130
       cases e130
       replace hx130_0 := cB HB hx130_0; replace hx130_1 := cB HB hx130_1; replace hx130_2 := cB HB hx130_2; replace p130 := eq_true p130; replace q130 := eq_true q130
       go_wp2_with (first | ((with_reducible refine gate_dst (N := 8) rfl ?_); refine box_event ?hg (N := 8) ?hd (cs := #[.int .i64 0, .int .i64 0, .string (⟨#[]⟩ : ByteArray)]) (t := 23) ?hr ?_; (case hd => rfl); (case hg => rfl); (case hr => first | (go_simp; done) | (go_simp; rfl)); intro gb100 hg w8 hbox hb; have n0_ := Aside0.mk (below_step zz2 hb); have n1_ := Aside0.mk (hbox); have n2_ := Aside0.mk ((zz3 : w.heap.size ≤ gb100)); have n3_ := Aside0.mk ((zz3 : w.heap.size ≤ gb100)); clear HB; have HB := n0_; have BK100 := n1_; have GW100 := n2_; have GE100 := n3_; clear n0_ n1_ n2_ n3_; clear hb hbox hg; have hcz9_0 : w8.cell? ⟨gb100, 0, none⟩ = some (.int .i64 0) := cK BK100 0; have hcz9_1 : w8.cell? ⟨gb100, 1, none⟩ = some (.int .i64 0) := cK BK100 1; have hcz9_2 : w8.cell? ⟨gb100, 2, none⟩ = some (.string (⟨#[]⟩ : ByteArray)) := cK BK100 2; have hfz9_0 := blk_frozen BK100.out 0; have hfz9_1 := blk_frozen BK100.out 1; have hfz9_2 := blk_frozen BK100.out 2))
       go_ret
       exact ⟨zz4, zz5⟩
      ·rw [if_neg c7] at H; have c7b0 : decide ((l1.length : Int) ≤ x13_1) = false := decide_eq_false c7; clear c7
       by_cases c10 : x13_1 < (l1.length : Int)
       ·rw [if_pos c10] at H; have c10b0 : decide (x13_1 < (l1.length : Int)) = true := decide_eq_true c10; clear c10; replace H := Option.bind_eq_some_iff.mp H; obtain ⟨t134, A110, H⟩ := H; replace H : (if t134 = 0 then (api_Value.l0 k1 l0 l1 l0 (l0.length : Int) (wrap64 (x13_1 + 1))) else (some t134)) = some r := H; have A11 := Aside0.mk A110; clear A110
        by_cases c12 : t134 = 0
        ·rw [if_pos c12] at H; have c12b0 : (t134 == 0) = true := beq_iff_eq.mpr c12; have c12b1 : (t134 != 0) = false := bne_eq_false_iff_eq.mpr c12; clear c12; have H' := Aside0.mk H; clear H; have p130 : 0 ≤ (x13_1 : Int) := of_decide_eq_true zz14; have q130 : x13_1 < (l0.length : Int) := of_decide_eq_true zz14; obtain ⟨ad130, e130, hx130_0, hx130_1, hx130_2⟩ := at_T23 HR0.out x13_1 p130 q130
         cases e130
         replace hx130_0 := cB HB hx130_0; replace hx130_1 := cB HB hx130_1; replace hx130_2 := cB HB hx130_2; replace p130 := eq_true p130; replace q130 := eq_true q130
         go_wp2_with (first | ((with_reducible refine gate_dst (N := 8) rfl ?_); refine box_event ?hg (N := 8) ?hd (cs := #[.int .i64 0, .int .i64 0, .string (⟨#[]⟩ : ByteArray)]) (t := 23) ?hr ?_; (case hd => rfl); (case hg => rfl); (case hr => first | (go_simp; done) | (go_simp; rfl)); intro gb100 hg w13 hbox hb; have n0_ := Aside0.mk (below_step zz2 hb); have n1_ := Aside0.mk (hbox); have n2_ := Aside0.mk ((zz3 : w.heap.size ≤ gb100)); have n3_ := Aside0.mk ((zz3 : w.heap.size ≤ gb100)); clear HB; have HB := n0_; have BK100 := n1_; have GW100 := n2_; have GE100 := n3_; clear n0_ n1_ n2_ n3_; clear hb hbox hg; have hcz14_0 : w13.cell? ⟨gb100, 0, none⟩ = some (.int .i64 0) := cK BK100 0; have hcz14_1 : w13.cell? ⟨gb100, 1, none⟩ = some (.int .i64 0) := cK BK100 1; have hcz14_2 : w13.cell? ⟨gb100, 2, none⟩ = some (.string (⟨#[]⟩ : ByteArray)) := cK BK100 2; have hfz14_0 := blk_frozen BK100.out 0; have hfz14_1 := blk_frozen BK100.out 1; have hfz14_2 := blk_frozen BK100.out 2; have p132 : 0 ≤ (x13_1 : Int) := of_decide_eq_true zz14; have q132 : x13_1 < (l1.length : Int) := of_decide_eq_true zz14; obtain ⟨ad132, e132, hx132_0, hx132_1, hx132_2⟩ := at_T23 HR1.out x13_1 p132 q132; cases e132; have hn132_0 : ad132.block ≠ gb100 := Nat.ne_of_lt (Nat.lt_of_lt_of_le zz32 GW100.out); have hn132_1 : ad132.block ≠ gb100 := Nat.ne_of_lt (Nat.lt_of_lt_of_le zz32 GW100.out); have hn132_2 : ad132.block ≠ gb100 := Nat.ne_of_lt (Nat.lt_of_lt_of_le zz32 GW100.out); replace hx132_0 := cB HB hx132_0; replace hx132_1 := cB HB hx132_1; replace hx132_2 := cB HB hx132_2; replace hx132_0 := (cell_far (p := ⟨gb100, 0, none⟩) zz33 (.int .i64 ((rd_T23 l0 x13_1).f0))).trans hx132_0; replace hx132_1 := (cell_far (p := ⟨gb100, 0, none⟩) zz33 (.int .i64 ((rd_T23 l0 x13_1).f0))).trans hx132_1; replace hx132_2 := (cell_far (p := ⟨gb100, 0, none⟩) zz33 (.int .i64 ((rd_T23 l0 x13_1).f0))).trans hx132_2; replace hx132_0 := (cell_far (p := ⟨gb100, 1, none⟩) zz34 (.int .i64 ((rd_T23 l0 x13_1).f1))).trans hx132_0; replace hx132_1 := (cell_far (p := ⟨gb100, 1, none⟩) zz34 (.int .i64 ((rd_T23 l0 x13_1).f1))).trans hx132_1; replace hx132_2 := (cell_far (p := ⟨gb100, 1, none⟩) zz34 (.int .i64 ((rd_T23 l0 x13_1).f1))).trans hx132_2; replace hx132_0 := (cell_far (p := ⟨gb100, 2, none⟩) zz35 (.string ((rd_T23 l0 x13_1).f2))).trans hx132_0; replace hx132_1 := (cell_far (p := ⟨gb100, 2, none⟩) zz35 (.string ((rd_T23 l0 x13_1).f2))).trans hx132_1; replace hx132_2 := (cell_far (p := ⟨gb100, 2, none⟩) zz35 (.string ((rd_T23 l0 x13_1).f2))).trans hx132_2; clear hn132_0; clear hn132_1; clear hn132_2; replace p132 := eq_true p132; replace q132 := eq_true q132) | ((with_reducible refine gate_dst (N := 9) rfl ?_); refine box_event ?hg (N := 9) ?hd (cs := #[.int .i64 0, .int .i64 0, .string (⟨#[]⟩ : ByteArray)]) (t := 23) ?hr ?_; (case hd => rfl); (case hg => rfl); (case hr => first | (go_simp; done) | (go_simp; rfl)); intro gb101 hg w15 hbox hb; have n0_ := Aside0.mk (blk_below (g := gb100) (o := .cells #[.int .i64 ((rd_T23 l0 x13_1).f0), .int .i64 ((rd_T23 l0 x13_1).f1), .string ((rd_T23 l0 x13_1).f2)] 23 (0, 0)) zz36 hb); have n1_ := Aside0.mk (below_step zz5 hb); have n2_ := Aside0.mk (hbox); have n3_ := Aside0.mk ((zz8 : w.heap.size ≤ gb101)); have n4_ := Aside0.mk ((zz8 : w.heap.size ≤ gb101)); have n5_ := Aside0.mk ((by rw [hg]; exact Nat.ne_of_lt (blk_lt (g := gb100) (o := .cells #[.int .i64 ((rd_T23 l0 x13_1).f0), .int .i64 ((rd_T23 l0 x13_1).f1), .string ((rd_T23 l0 x13_1).f2)] 23 (0, 0)) zz36) : gb100 ≠ gb101)); have n6_ := Aside0.mk ((by rw [hg]; exact Nat.ne_of_gt (blk_lt (g := gb100) (o := .cells #[.int .i64 ((rd_T23 l0 x13_1).f0), .int .i64 ((rd_T23 l0 x13_1).f1), .string ((rd_T23 l0 x13_1).f2)] 23 (0, 0)) zz36) : gb101 ≠ gb100)); clear BK100; clear HB; have BK100 := n0_; have HB := n1_; have BK101 := n2_; have GW101 := n3_; have GE101 := n4_; have NB100_101 := n5_; have NB101_100 := n6_; clear n0_ n1_ n2_ n3_ n4_ n5_ n6_; clear hb hbox hg; have hnb16 := NB101_100.out; have hnc16 := NB100_101.out; have hcz17_0 : w15.cell? ⟨gb101, 0, none⟩ = some (.int .i64 0) := cK BK101 0; have hcz17_1 : w15.cell? ⟨gb101, 1, none⟩ = some (.int .i64 0) := cK BK101 1; have hcz17_2 : w15.cell? ⟨gb101, 2, none⟩ = some (.string (⟨#[]⟩ : ByteArray)) := cK BK101 2; have hfz17_0 := blk_frozen BK101.out 0; have hfz17_1 := blk_frozen BK101.out 1; have hfz17_2 := blk_frozen BK101.out 2; have hcz18_0 : w15.cell? ⟨gb100, 0, none⟩ = some (.int .i64 ((rd_T23 l0 x13_1).f0)) := cK BK100 0; have hcz18_1 : w15.cell? ⟨gb100, 1, none⟩ = some (.int .i64 ((rd_T23 l0 x13_1).f1)) := cK BK100 1; have hcz18_2 : w15.cell? ⟨gb100, 2, none⟩ = some (.string ((rd_T23 l0 x13_1).f2)) := cK BK100 2; have hfz18_0 := blk_frozen BK100.out 0; have hfz18_1 := blk_frozen BK100.out 1; have hfz18_2 := blk_frozen BK100.out 2) | (go_at_call 137; (with_reducible refine (value_Compare.calls ((rd_T23 l0 x13_1).f0) ((rd_T23 l0 x13_1).f1) ((rd_T23 l0 x13_1).f2) ((rd_T23 l1 x13_1).f0) ((rd_T23 l1 x13_1).f1) ((rd_T23 l1 x13_1).f2) t134 _ A11.out).mono ?_); rintro e w19 ⟨rfl, hb⟩; have n0_ := Aside0.mk (blk_below (g := gb100) (o := .cells #[.int .i64 ((rd_T23 l0 x13_1).f0), .int .i64 ((rd_T23 l0 x13_1).f1), .string ((rd_T23 l0 x13_1).f2)] 23 (0, 0)) zz37 hb); have n1_ := Aside0.mk (blk_below (g := gb101) (o := .cells #[.int .i64 ((rd_T23 l1 x13_1).f0), .int .i64 ((rd_T23 l1 x13_1).f1), .string ((rd_T23 l1 x13_1).f2)] 23 (0, 0)) (by (with_reducible repeat (first | refine blk_drewN ?_ _ | refine blk_drew ?_ | refine blk_alloc ?_ _)); refine blk_put (cs := #[.int .i64 ((rd_T23 l1 x13_1).f0), .int .i64 ((rd_T23 l1 x13_1).f1), .string (⟨#[]⟩ : ByteArray)]) ?_ 2 _ rfl; (with_reducible repeat (first | refine blk_drewN ?_ _ | refine blk_drew ?_ | refine blk_alloc ?_ _)); refine blk_put (cs := #[.int .i64 ((rd_T23 l1 x13_1).f0), .int .i64 0, .string (⟨#[]⟩ : ByteArray)]) ?_ 1 _ rfl; (with_reducible repeat (first | refine blk_drewN ?_ _ | refine blk_drew ?_ | refine blk_alloc ?_ _)); refine blk_put (cs := #[.int .i64 0, .int .i64 0, .string (⟨#[]⟩ : ByteArray)]) ?_ 0 _ rfl; (with_reducible repeat (first | refine blk_drewN ?_ _ | refine blk_drew ?_ | refine blk_alloc ?_ _)); exact BK101.out) hb); have n2_ := Aside0.mk (below_step zz12 hb); clear BK100; clear BK101; clear HB; have BK100 := n0_; have BK101 := n1_; have HB := n2_; clear n0_ n1_ n2_; (try clear hb); (try clear hb2); (try clear hk); (try clear hi)))
         go_roundg k1
         case measure => have := HK1.out; omega
         case rel => exact ⟨(wrap64 (x13_1 + 1)), zz0, H', ⟨by have := HK1.out; omega⟩, ⟨zz12⟩⟩
        ·rw [if_neg c12] at H; have c12b0 : (t134 == 0) = false := beq_eq_false_iff_ne.mpr c12; have c12b1 : (t134 != 0) = true := bne_iff_ne.mpr c12; obtain rfl := Option.some.inj H; have p130 : 0 ≤ (x13_1 : Int) := of_decide_eq_true zz14; have q130 : x13_1 < (l0.length : Int) := of_decide_eq_true zz14; obtain ⟨ad130, e130, hx130_0, hx130_1, hx130_2⟩ := at_T23 HR0.out x13_1 p130 q130
         cases e130
         replace hx130_0 := cB HB hx130_0; replace hx130_1 := cB HB hx130_1; replace hx130_2 := cB HB hx130_2; replace p130 := eq_true p130; replace q130 := eq_true q130
         go_wp2_with (first | ((with_reducible refine gate_dst (N := 8) rfl ?_); refine box_event ?hg (N := 8) ?hd (cs := #[.int .i64 0, .int .i64 0, .string (⟨#[]⟩ : ByteArray)]) (t := 23) ?hr ?_; (case hd => rfl); (case hg => rfl); (case hr => first | (go_simp; done) | (go_simp; rfl)); intro gb100 hg w20 hbox hb; have n0_ := Aside0.mk (below_step zz2 hb); have n1_ := Aside0.mk (hbox); have n2_ := Aside0.mk ((zz3 : w.heap.size ≤ gb100)); have n3_ := Aside0.mk ((zz3 : w.heap.size ≤ gb100)); clear HB; have HB := n0_; have BK100 := n1_; have GW100 := n2_; have GE100 := n3_; clear n0_ n1_ n2_ n3_; clear hb hbox hg; have hcz21_0 : w20.cell? ⟨gb100, 0, none⟩ = some (.int .i64 0) := cK BK100 0; have hcz21_1 : w20.cell? ⟨gb100, 1, none⟩ = some (.int .i64 0) := cK BK100 1; have hcz21_2 : w20.cell? ⟨gb100, 2, none⟩ = some (.string (⟨#[]⟩ : ByteArray)) := cK BK100 2; have hfz21_0 := blk_frozen BK100.out 0; have hfz21_1 := blk_frozen BK100.out 1; have hfz21_2 := blk_frozen BK100.out 2; have p132 : 0 ≤ (x13_1 : Int) := of_decide_eq_true zz14; have q132 : x13_1 < (l1.length : Int) := of_decide_eq_true zz14; obtain ⟨ad132, e132, hx132_0, hx132_1, hx132_2⟩ := at_T23 HR1.out x13_1 p132 q132; cases e132; have hn132_0 : ad132.block ≠ gb100 := Nat.ne_of_lt (Nat.lt_of_lt_of_le zz32 GW100.out); have hn132_1 : ad132.block ≠ gb100 := Nat.ne_of_lt (Nat.lt_of_lt_of_le zz32 GW100.out); have hn132_2 : ad132.block ≠ gb100 := Nat.ne_of_lt (Nat.lt_of_lt_of_le zz32 GW100.out); replace hx132_0 := cB HB hx132_0; replace hx132_1 := cB HB hx132_1; replace hx132_2 := cB HB hx132_2; replace hx132_0 := (cell_far (p := ⟨gb100, 0, none⟩) zz33 (.int .i64 ((rd_T23 l0 x13_1).f0))).trans hx132_0; replace hx132_1 := (cell_far (p := ⟨gb100, 0, none⟩) zz33 (.int .i64 ((rd_T23 l0 x13_1).f0))).trans hx132_1; replace hx132_2 := (cell_far (p := ⟨gb100, 0, none⟩) zz33 (.int .i64 ((rd_T23 l0 x13_1).f0))).trans hx132_2; replace hx132_0 := (cell_far (p := ⟨gb100, 1, none⟩) zz34 (.int .i64 ((rd_T23 l0 x13_1).f1))).trans hx132_0; replace hx132_1 := (cell_far (p := ⟨gb100, 1, none⟩) zz34 (.int .i64 ((rd_T23 l0 x13_1).f1))).trans hx132_1; replace hx132_2 := (cell_far (p := ⟨gb100, 1, none⟩) zz34 (.int .i64 ((rd_T23 l0 x13_1).f1))).trans hx132_2; replace hx132_0 := (cell_far (p := ⟨gb100, 2, none⟩) zz35 (.string ((rd_T23 l0 x13_1).f2))).trans hx132_0; replace hx132_1 := (cell_far (p := ⟨gb100, 2, none⟩) zz35 (.string ((rd_T23 l0 x13_1).f2))).trans hx132_1; replace hx132_2 := (cell_far (p := ⟨gb100, 2, none⟩) zz35 (.string ((rd_T23 l0 x13_1).f2))).trans hx132_2; clear hn132_0; clear hn132_1; clear hn132_2; replace p132 := eq_true p132; replace q132 := eq_true q132) | ((with_reducible refine gate_dst (N := 9) rfl ?_); refine box_event ?hg (N := 9) ?hd (cs := #[.int .i64 0, .int .i64 0, .string (⟨#[]⟩ : ByteArray)]) (t := 23) ?hr ?_; (case hd => rfl); (case hg => rfl); (case hr => first | (go_simp; done) | (go_simp; rfl)); intro gb101 hg w22 hbox hb; have n0_ := Aside0.mk (blk_below (g := gb100) (o := .cells #[.int .i64 ((rd_T23 l0 x13_1).f0), .int .i64 ((rd_T23 l0 x13_1).f1), .string ((rd_T23 l0 x13_1).f2)] 23 (0, 0)) zz36 hb); have n1_ := Aside0.mk (below_step zz5 hb); have n2_ := Aside0.mk (hbox); have n3_ := Aside0.mk ((zz8 : w.heap.size ≤ gb101)); have n4_ := Aside0.mk ((zz8 : w.heap.size ≤ gb101)); have n5_ := Aside0.mk ((by rw [hg]; exact Nat.ne_of_lt (blk_lt (g := gb100) (o := .cells #[.int .i64 ((rd_T23 l0 x13_1).f0), .int .i64 ((rd_T23 l0 x13_1).f1), .string ((rd_T23 l0 x13_1).f2)] 23 (0, 0)) zz36) : gb100 ≠ gb101)); have n6_ := Aside0.mk ((by rw [hg]; exact Nat.ne_of_gt (blk_lt (g := gb100) (o := .cells #[.int .i64 ((rd_T23 l0 x13_1).f0), .int .i64 ((rd_T23 l0 x13_1).f1), .string ((rd_T23 l0 x13_1).f2)] 23 (0, 0)) zz36) : gb101 ≠ gb100)); clear BK100; clear HB; have BK100 := n0_; have HB := n1_; have BK101 := n2_; have GW101 := n3_; have GE101 := n4_; have NB100_101 := n5_; have NB101_100 := n6_; clear n0_ n1_ n2_ n3_ n4_ n5_ n6_; clear hb hbox hg; have hnb23 := NB101_100.out; have hnc23 := NB100_101.out; have hcz24_0 : w22.cell? ⟨gb101, 0, none⟩ = some (.int .i64 0) := cK BK101 0; have hcz24_1 : w22.cell? ⟨gb101, 1, none⟩ = some (.int .i64 0) := cK BK101 1; have hcz24_2 : w22.cell? ⟨gb101, 2, none⟩ = some (.string (⟨#[]⟩ : ByteArray)) := cK BK101 2; have hfz24_0 := blk_frozen BK101.out 0; have hfz24_1 := blk_frozen BK101.out 1; have hfz24_2 := blk_frozen BK101.out 2; have hcz25_0 : w22.cell? ⟨gb100, 0, none⟩ = some (.int .i64 ((rd_T23 l0 x13_1).f0)) := cK BK100 0; have hcz25_1 : w22.cell? ⟨gb100, 1, none⟩ = some (.int .i64 ((rd_T23 l0 x13_1).f1)) := cK BK100 1; have hcz25_2 : w22.cell? ⟨gb100, 2, none⟩ = some (.string ((rd_T23 l0 x13_1).f2)) := cK BK100 2; have hfz25_0 := blk_frozen BK100.out 0; have hfz25_1 := blk_frozen BK100.out 1; have hfz25_2 := blk_frozen BK100.out 2) | (go_at_call 137; (with_reducible refine (value_Compare.calls ((rd_T23 l0 x13_1).f0) ((rd_T23 l0 x13_1).f1) ((rd_T23 l0 x13_1).f2) ((rd_T23 l1 x13_1).f0) ((rd_T23 l1 x13_1).f1) ((rd_T23 l1 x13_1).f2) t134 _ A11.out).mono ?_); rintro e w26 ⟨rfl, hb⟩; have n0_ := Aside0.mk (blk_below (g := gb100) (o := .cells #[.int .i64 ((rd_T23 l0 x13_1).f0), .int .i64 ((rd_T23 l0 x13_1).f1), .string ((rd_T23 l0 x13_1).f2)] 23 (0, 0)) zz37 hb); have n1_ := Aside0.mk (blk_below (g := gb101) (o := .cells #[.int .i64 ((rd_T23 l1 x13_1).f0), .int .i64 ((rd_T23 l1 x13_1).f1), .string ((rd_T23 l1 x13_1).f2)] 23 (0, 0)) (by (with_reducible repeat (first | refine blk_drewN ?_ _ | refine blk_drew ?_ | refine blk_alloc ?_ _)); refine blk_put (cs := #[.int .i64 ((rd_T23 l1 x13_1).f0), .int .i64 ((rd_T23 l1 x13_1).f1), .string (⟨#[]⟩ : ByteArray)]) ?_ 2 _ rfl; (with_reducible repeat (first | refine blk_drewN ?_ _ | refine blk_drew ?_ | refine blk_alloc ?_ _)); refine blk_put (cs := #[.int .i64 ((rd_T23 l1 x13_1).f0), .int .i64 0, .string (⟨#[]⟩ : ByteArray)]) ?_ 1 _ rfl; (with_reducible repeat (first | refine blk_drewN ?_ _ | refine blk_drew ?_ | refine blk_alloc ?_ _)); refine blk_put (cs := #[.int .i64 0, .int .i64 0, .string (⟨#[]⟩ : ByteArray)]) ?_ 0 _ rfl; (with_reducible repeat (first | refine blk_drewN ?_ _ | refine blk_drew ?_ | refine blk_alloc ?_ _)); exact BK101.out) hb); have n2_ := Aside0.mk (below_step zz12 hb); clear BK100; clear BK101; clear HB; have BK100 := n0_; have BK101 := n1_; have HB := n2_; clear n0_ n1_ n2_; (try clear hb); (try clear hb2); (try clear hk); (try clear hi)))
         go_ret
         exact ⟨zz4, zz12⟩
       ·rw [if_neg c10] at H; exact absurd H (by simp)
     ·rw [if_neg c6] at H; exact absurd H (by simp)
    ·rw [if_neg c5] at H; exact absurd H (by simp)
   ·rw [if_neg c4] at H; have c4b0 : decide (x13_1 < (l0.length : Int)) = false := decide_eq_false c4; clear c4
    by_cases c27 : (l0.length : Int) < (l1.length : Int)
    ·rw [if_pos c27] at H; have c27b0 : decide ((l0.length : Int) < (l1.length : Int)) = true := decide_eq_true c27; have c27b1 : decide (l0.length < l1.length) = true := decide_eq_true (Int.ofNat_lt.mp c27); clear c27; obtain rfl := Option.some.inj H
     go_wp2
     go_ret
     exact ⟨zz4, zz2⟩
    ·rw [if_neg c27] at H; have c27b0 : decide ((l0.length : Int) < (l1.length : Int)) = false := decide_eq_false c27; have c27b1 : decide (l0.length < l1.length) = false := decide_eq_false (fun h => c27 (Int.ofNat_lt.mpr h)); clear c27; obtain rfl := Option.some.inj H
     go_wp2
     go_ret
     exact ⟨zz4, zz2⟩
def value_CompareRows.f (k : Nat) (l0 : List (S23)) (l1 : List (S23)) : Option (Int) := (api_Value.f k l0 l1).bind fun t135 => (some t135)
theorem value_CompareRows.mono : ∀ a0 a1 k, LeO (value_CompareRows.f k a0 a1) (value_CompareRows.f (k + 1) a0 a1) := by
 intro a0 a1 k; unfold value_CompareRows.f
 repeat' first
   | (with_reducible exact api_Value.mono _ _ _)
   | (with_reducible exact LeO.refl _)
   | (with_reducible exact LeO.none _)
   | (with_reducible refine LeO.ite ?_ ?_)
   | (with_reducible refine LeO.bind ?_ (fun _ => ?_))
   | exact api_Value.mono _ _ _
   | exact LeO.none _
   | refine LeO.ite ?_ ?_
   | refine LeO.bind ?_ (fun _ => ?_)
set_option maxHeartbeats 8000000 in
set_option maxRecDepth 100000 in
theorem value_CompareRows.calls (k : Nat) (A0 : Option Addr) (c0 : Nat) (l0 : List (S23)) (A1 : Option Addr) (c1 : Nat) (l1 : List (S23)) (r : Int) (w : World) (hr0 : Kd.C k23 w A0 l0.length l0) (hc0 : l0.length ≤ c0) (hr1 : Kd.C k23 w A1 l1.length l1) (hc1 : l1.length ≤ c1) (h : value_CompareRows.f k l0 l1 = some r) :
  Calls Try.prog 116 #[.slice A0 l0.length c0, .slice A1 l1.length c1] w fun e w' => e = .returned (.int .i64 r) ∧ Below w.heap.size w w' := by
 have HR0 := Aside0.mk hr0; have HC0 := Aside0.mk hc0; clear hr0 hc0; have HR1 := Aside0.mk hr1; have HC1 := Aside0.mk hc1; clear hr1 hc1; have HB := Aside0.mk (Below.refl w.heap.size w); have H : ((api_Value.f k l0 l1).bind fun t135 => (some t135)) = some r := h; clear h; replace H := Option.bind_eq_some_iff.mp H; obtain ⟨t135, A30, H⟩ := H; replace H : (some t135) = some r := H; have A3 := Aside0.mk A30; clear A30; obtain rfl := Option.some.inj H
 go_enter Try.func116, Try.ntmps116
 go_wp2_with (first | ((with_reducible refine gate_callee (f := 136) rfl ?_); refine goesL_ (some 7) rfl rfl Try.func136 (by kernel_rfl) rfl #[.slice A0 l0.length c0, .slice A1 l1.length c1, .func (.func 137) #[] #[]] rfl zz6 ?_; (with_reducible refine (api_Value.calls k _ _ l0 _ _ l1  t135 _ ?side1 ?side2 ?side3 ?side4 A3.out).mono ?_); (case side1 => repeat (first | exact HR0.out | (with_reducible refine Kd.C_alloc ?_ _) | (with_reducible refine Kd.C_drewN ?_ _) | (with_reducible refine Kd.C_drew ?_))); (case side2 => exact HC0.out); (case side3 => repeat (first | exact HR1.out | (with_reducible refine Kd.C_alloc ?_ _) | (with_reducible refine Kd.C_drewN ?_ _) | (with_reducible refine Kd.C_drew ?_))); (case side4 => exact HC1.out); rintro e w4 ⟨rfl, hb⟩; refine ⟨_, rfl, ?_⟩; have n0_ := Aside0.mk (below_step zz2 hb); clear HB; have HB := n0_; clear n0_; (try clear hb); (try clear hb2); (try clear hk); (try clear hi)))
 go_ret
 exact ⟨zz4, zz2⟩
def bag_Valid.l0 : Nat → List (S51) → List (S51) → Int → Int → Option (Bool)
 | 0, _, _, _, _ => none
 | k + 1, x0, x5, x6, x7 => if x7 < x6 then (if 0 ≤ x7 then (if x7 < (x5.length : Int) then ((bag_entryFits.f k ((rd_T51 x5 x7).f0) ((rd_T51 x5 x7).f1)).bind fun t138 => (if t138 = true then (if ((rd_T51 x5 x7).f1) = 0 then (some false) else (if x7 > 0 then (if 0 ≤ (wrap64 (x7 - 1)) then (if (wrap64 (x7 - 1)) < (x0.length : Int) then ((value_CompareRows.f k ((rd_T51 x0 (wrap64 (x7 - 1))).f0) ((rd_T51 x5 x7).f0)).bind fun t140 => (if t140 ≥ 0 then (some false) else (bag_Valid.l0 k x0 x5 x6 (wrap64 (x7 + 1))))) else (none)) else (none)) else (bag_Valid.l0 k x0 x5 x6 (wrap64 (x7 + 1))))) else (some false))) else (none)) else (none)) else (some (decide ((x0.length : Int) ≤ 4096)))
def bag_Valid.f (k : Nat) (l0 : List (S51)) : Option (Bool) := bag_Valid.l0 k l0 l0 (l0.length : Int) 0
theorem bag_Valid.mono_l : ∀ k, (∀ y0 y1 y2 y3, LeO (bag_Valid.l0 k y0 y1 y2 y3) (bag_Valid.l0 (k + 1) y0 y1 y2 y3))
 | 0 => fun _ _ _ _ r h => by simp [bag_Valid.l0] at h
 | k + 1 => by
  have ih0 := bag_Valid.mono_l k
  ·intro y0 y1 y2 y3; unfold bag_Valid.l0
   repeat' first
   | (with_reducible exact ih0 _ _ _ _)
   | (with_reducible exact bag_entryFits.mono _ _ _)
   | (with_reducible exact value_CompareRows.mono _ _ _)
   | (with_reducible exact LeO.refl _)
   | (with_reducible exact LeO.none _)
   | (with_reducible refine LeO.ite ?_ ?_)
   | (with_reducible refine LeO.bind ?_ (fun _ => ?_))
   | exact ih0 _ _ _ _
   | exact bag_entryFits.mono _ _ _
   | exact value_CompareRows.mono _ _ _
   | exact LeO.none _
   | refine LeO.ite ?_ ?_
   | refine LeO.bind ?_ (fun _ => ?_)
theorem bag_Valid.mono : ∀ a0 k, LeO (bag_Valid.f k a0) (bag_Valid.f (k + 1) a0) := by
 intro a0 k; have ih0 := bag_Valid.mono_l k; unfold bag_Valid.f
 repeat' first
   | (with_reducible exact ih0 _ _ _ _)
   | (with_reducible exact bag_entryFits.mono _ _ _)
   | (with_reducible exact value_CompareRows.mono _ _ _)
   | (with_reducible exact LeO.refl _)
   | (with_reducible exact LeO.none _)
   | (with_reducible refine LeO.ite ?_ ?_)
   | (with_reducible refine LeO.bind ?_ (fun _ => ?_))
   | exact ih0 _ _ _ _
   | exact bag_entryFits.mono _ _ _
   | exact value_CompareRows.mono _ _ _
   | exact LeO.none _
   | refine LeO.ite ?_ ?_
   | refine LeO.bind ?_ (fun _ => ?_)
def bag_Valid.T4 : Bool × List (List Nat × List Nat) := (true, [([], []), ([0], [0]), ([1], [1]), ([2, 1], [2]), ([3], [3]), ([4, 3], [3, 4]), ([5, 3], [3, 5]), ([3, 6], [3, 6]), ([7, 3], [7]), ([8], [8]), ([9, 8], [8, 9]), ([10, 8, 8], [8, 10]), ([11], [11]), ([11], [11]), ([13, 11], [11, 13]), ([12, 14, 11], [11, 12, 14]), ([15, 11], [11, 15]), ([16, 11], [11, 16]), ([11], [11]), ([18, 11], [11, 18]), ([17, 19, 11, 11], [11, 17, 19]), ([20, 11], [11, 20]), ([11, 21, 8], [8, 11, 21]), ([8, 22], [8, 22])])
def bag_Valid.B4 : List Nat := [0, 1, 3, 7, 15, 31, 63, 127, 255, 511, 1023, 2047, 4095, 4095, 12287, 32767, 65535, 131071, 4095, 266239, 1048575, 2097151, 4194303, 8388607]
theorem bag_Valid.tab4 : rtab .any (opsOf Try.f94 4) = bag_Valid.T4 := by kernel_rfl
theorem bag_Valid.bits4 : waitsOk bag_Valid.T4.2 bag_Valid.B4 = true := by kernel_rfl
set_option maxHeartbeats 8000000 in
set_option maxRecDepth 100000 in
theorem bag_Valid.calls (k : Nat) (A0 : Option Addr) (c0 : Nat) (l0 : List (S51)) (r : Bool) (w : World) (hr0 : Kd.C k51 w A0 l0.length l0) (hc0 : l0.length ≤ c0) (h : bag_Valid.f k l0 = some r) :
  Calls Try.prog 94 #[.slice A0 l0.length c0] w fun e w' => e = .returned (.bool r) ∧ Below w.heap.size w w' := by
 have hu51 := Try.underlying51; have HR0 := Aside0.mk hr0; have HC0 := Aside0.mk hc0; clear hr0 hc0; have HB := Aside0.mk (Below.refl w.heap.size w); have H : (bag_Valid.l0 k l0 l0 (l0.length : Int) 0) = some r := h; clear h; have H' := Aside0.mk H; clear H
 go_enter Try.func94, Try.ntmps94
 go_wp2
 go_loopg [7] k (fun kq v7 w' => ∃ (x7_1 : Int), v7 = .int .i64 x7_1 ∧ Aside0 (bag_Valid.l0 kq l0 l0 (l0.length : Int) x7_1 = some r) ∧ Aside0 (kq ≤ k) ∧ Aside0 (Below w.heap.size w w'))
 case atStart => exact ⟨(0), zz0, H', ⟨Nat.le_refl _⟩, ⟨zz2⟩⟩
 case round =>
  clear H'; obtain ⟨x7_1, rfl, HA, HK1, HB⟩ := hrel
  cases gk with
  | zero => exact absurd HA.out (by simp [bag_Valid.l0])
  | succ k1 =>
   have H := HA.out; clear HA; simp only [bag_Valid.l0] at H
   by_cases c2 : x7_1 < (l0.length : Int)
   ·rw [if_pos c2] at H; have c2b0 : decide (x7_1 < (l0.length : Int)) = true := decide_eq_true c2; clear c2
    by_cases c3 : 0 ≤ x7_1
    ·rw [if_pos c3] at H; have c3b0 : decide (0 ≤ x7_1) = true := decide_eq_true c3; clear c3
     by_cases c4 : x7_1 < (l0.length : Int)
     ·rw [if_pos c4] at H; have c4b0 : decide (x7_1 < (l0.length : Int)) = true := decide_eq_true c4; clear c4; replace H := Option.bind_eq_some_iff.mp H; obtain ⟨t138, A50, H⟩ := H; replace H : (if t138 = true then (if ((rd_T51 l0 x7_1).f1) = 0 then (some false) else (if x7_1 > 0 then (if 0 ≤ (wrap64 (x7_1 - 1)) then (if (wrap64 (x7_1 - 1)) < (l0.length : Int) then ((value_CompareRows.f k1 ((rd_T51 l0 (wrap64 (x7_1 - 1))).f0) ((rd_T51 l0 x7_1).f0)).bind fun t140 => (if t140 ≥ 0 then (some false) else (bag_Valid.l0 k1 l0 l0 (l0.length : Int) (wrap64 (x7_1 + 1))))) else (none)) else (none)) else (bag_Valid.l0 k1 l0 l0 (l0.length : Int) (wrap64 (x7_1 + 1))))) else (some false)) = some r := H; have A5 := Aside0.mk A50; clear A50
      by_cases c6 : t138 = true
      ·subst c6; have H1 : (if ((rd_T51 l0 x7_1).f1) = 0 then (some false) else (if x7_1 > 0 then (if 0 ≤ (wrap64 (x7_1 - 1)) then (if (wrap64 (x7_1 - 1)) < (l0.length : Int) then ((value_CompareRows.f k1 ((rd_T51 l0 (wrap64 (x7_1 - 1))).f0) ((rd_T51 l0 x7_1).f0)).bind fun t140 => (if t140 ≥ 0 then (some false) else (bag_Valid.l0 k1 l0 l0 (l0.length : Int) (wrap64 (x7_1 + 1))))) else (none)) else (none)) else (bag_Valid.l0 k1 l0 l0 (l0.length : Int) (wrap64 (x7_1 + 1))))) = some r := by rw [if_pos rfl] at H; exact H
       clear H; have H := H1; clear H1
       by_cases c7 : ((rd_T51 l0 x7_1).f1) = 0
       ·rw [if_pos c7] at H; have c7b0 : (((rd_T51 l0 x7_1).f1) == 0) = true := beq_iff_eq.mpr c7; have c7b1 : (((rd_T51 l0 x7_1).f1) != 0) = false := bne_eq_false_iff_eq.mpr c7; clear c7; obtain rfl := Option.some.inj H; have p136 : 0 ≤ (x7_1 : Int) := of_decide_eq_true zz14; have q136 : x7_1 < (l0.length : Int) := of_decide_eq_true zz14; obtain ⟨ad136, A136_0, c136_0, e136, hx136_0, hx136_1, hl136_0, hi136_0⟩ := at_T51 HR0.out x7_1 p136 q136
        cases e136
        replace hx136_0 := cB HB hx136_0; replace hx136_1 := cB HB hx136_1; have HR100_0 := Aside0.mk hi136_0; have HC100_0 := Aside0.mk hl136_0; clear hi136_0 hl136_0; replace p136 := eq_true p136; replace q136 := eq_true q136
        try go_wp2_with (first | ((with_reducible refine gate_dst (N := 4) rfl ?_); refine box_event ?hg (N := 4) ?hd (cs := #[.slice none 0 0, .int .i64 0]) (t := 51) ?hr ?_; (case hd => rfl); (case hg => rfl); (case hr => first | (go_simp; done) | (go_simp; rfl)); intro gb101 hg w8 hbox hb; have n0_ := Aside0.mk (below_step zz2 hb); have n1_ := Aside0.mk (hbox); have n2_ := Aside0.mk ((zz3 : w.heap.size ≤ gb101)); have n3_ := Aside0.mk ((zz3 : w.heap.size ≤ gb101)); clear HB; have HB := n0_; have BK101 := n1_; have GW101 := n2_; have GE101 := n3_; clear n0_ n1_ n2_ n3_; clear hb hbox hg; have hcz9_0 : w8.cell? ⟨gb101, 0, none⟩ = some (.slice none 0 0) := cK BK101 0; have hcz9_1 : w8.cell? ⟨gb101, 1, none⟩ = some (.int .i64 0) := cK BK101 1; have hfz9_0 := blk_frozen BK101.out 0; have hfz9_1 := blk_frozen BK101.out 1))
        have n0_ : Aside0 (((w8.setCell ⟨gb101, 0, none⟩ (.slice A136_0 ((rd_T51 l0 x7_1).f0).length c136_0)).setCell ⟨gb101, 1, none⟩ (.int .i64 ((rd_T51 l0 x7_1).f1))).heap[gb101]? = some (.cells #[.slice A136_0 ((rd_T51 l0 x7_1).f0).length c136_0, .int .i64 ((rd_T51 l0 x7_1).f1)] 51 (0, 0))) := ⟨zz38⟩; have n1_ : Aside0 (Below w.heap.size w ((w8.setCell ⟨gb101, 0, none⟩ (.slice A136_0 ((rd_T51 l0 x7_1).f0).length c136_0)).setCell ⟨gb101, 1, none⟩ (.int .i64 ((rd_T51 l0 x7_1).f1)))) := ⟨zz39⟩; (try clear BK101); (try clear HB); generalize ((w8.setCell ⟨gb101, 0, none⟩ (.slice A136_0 ((rd_T51 l0 x7_1).f0).length c136_0)).setCell ⟨gb101, 1, none⟩ (.int .i64 ((rd_T51 l0 x7_1).f1))) = w10 at n0_ n1_ ⊢; have BK101 := n0_; have HB := n1_; clear n0_ n1_; have n0_ := Aside0.mk (blk_drew BK101.out); have n1_ := Aside0.mk (below_drew1 HB.out); clear BK101; clear HB; have BK101 := n0_; have HB := n1_; clear n0_ n1_; refine start_ (n := 24) (S := fun w' => w'.cell? ⟨gb101, 0, none⟩ = some (.slice A136_0 ((rd_T51 l0 x7_1).f0).length c136_0) ∧ w'.cell? ⟨gb101, 1, none⟩ = some (.int .i64 ((rd_T51 l0 x7_1).f1))) (ds := []) (.replicate 24 false) (by kernel_rfl) rfl rfl ⟨cK BK101 0, cK BK101 1⟩ (fun hHeld => ?_); refine with_tabW bag_Valid.tab4 bag_Valid.bits4 (fun HT_ HW_ => ?_); generalize w10.drew = w11 at BK101 HB hHeld ⊢; refine tV (v := ?_) 0 12 (bA 24 1) HT_ HW_ hHeld ?_ ?_; rotate_left
        ·rintro w' ⟨s0, s1⟩
         go_simp
         (with_reducible rfl)
        refine oN 1 13 (bA 24 3) HT_ (fun K hK => ?_); refine goes_ Try.func115 (by kernel_rfl) rfl #[.agg #[.slice A136_0 ((rd_T51 l0 x7_1).f0).length c136_0, .int .i64 ((rd_T51 l0 x7_1).f1)]] (by rfl) rfl rfl zz6 ?_; (with_reducible refine (bag_entryFits.calls k1 _ _ ((rd_T51 l0 x7_1).f0) ((rd_T51 l0 x7_1).f1) true _ ?side1 ?side2 A5.out).mono ?_); (case side1 => repeat (first | exact (Kd.C_below HR100_0.out HB.out) | (with_reducible refine Kd.C_alloc ?_ _) | (with_reducible refine Kd.C_drewN ?_ _) | (with_reducible refine Kd.C_drew ?_))); (case side2 => exact HC100_0.out); rintro e w12 ⟨rfl, hb⟩; refine ⟨_, rfl, ?_⟩; have n0_ := Aside0.mk (blk_below (g := gb101) (o := .cells #[.slice A136_0 ((rd_T51 l0 x7_1).f0).length c136_0, .int .i64 ((rd_T51 l0 x7_1).f1)] 51 (0, 0)) zz11 hb); have n1_ := Aside0.mk (below_step zz39 hb); clear BK101; clear HB; have BK101 := n0_; have HB := n1_; clear n0_ n1_; (try clear hb); (try clear hb2); (try clear hk); (try clear hi); refine hK.out _ _ ⟨cK BK101 0, cK BK101 1⟩ (fun hHeld => ?_); clear hK K; refine norm_ (a' := ?_) ?_ ?_; rotate_left
        ·show Act.put _ (some 13) _ = _
         simp only [Act.put, List.setIfInBounds_toArray, List.set_cons_zero, List.set_cons_succ, i64_w, i32_w]
         rfl
        refine pV 2 14 (bA 24 7) HT_ ?_; refine pV 3 15 (bA 24 15) HT_ ?_; refine pV 4 16 (bA 24 31) HT_ ?_; refine tV (v := ?_) 5 17 (bA 24 63) HT_ HW_ hHeld ?_ ?_; rotate_left
        ·rintro w' ⟨s0, s1⟩
         go_simp
         (with_reducible rfl)
        refine pV 6 18 (bA 24 127) HT_ ?_; refine pV 7 19 (bA 24 255) HT_ ?_; refine pV 8 20 (bA 24 511) HT_ ?_; refine pU 9 21 (bA 24 1023) HT_ ?_; refine pU 10 22 (bA 24 2047) HT_ ?_; refine pU 11 23 (bA 24 4095) HT_ ?_; refine pU 12 24 (bA 24 8191) HT_ ?_; refine pU 13 25 (bA 24 16383) HT_ ?_; refine pU 14 26 (bA 24 32767) HT_ ?_; refine pU 15 27 (bA 24 65535) HT_ ?_; refine pU 16 28 (bA 24 131071) HT_ ?_; refine pU 17 29 (bA 24 262143) HT_ ?_; refine pU 18 30 (bA 24 524287) HT_ ?_; refine pU 19 31 (bA 24 1048575) HT_ ?_; refine pU 20 32 (bA 24 2097151) HT_ ?_; refine pU 21 33 (bA 24 4194303) HT_ ?_; refine pU 22 34 (bA 24 8388607) HT_ ?_; refine pV 23 35 (bA 24 16777215) HT_ ?_; refine done_ (done_of HT_.out (by kernel_rfl)) ?_
        try go_wp2
        go_ret
        exact ⟨zz4, zz39⟩
       ·rw [if_neg c7] at H; have c7b0 : (((rd_T51 l0 x7_1).f1) == 0) = false := beq_eq_false_iff_ne.mpr c7; have c7b1 : (((rd_T51 l0 x7_1).f1) != 0) = true := bne_iff_ne.mpr c7
        by_cases c13 : x7_1 > 0
        ·rw [if_pos c13] at H; have c13b0 : decide (0 < x7_1) = true := decide_eq_true c13; clear c13; obtain ⟨ji14, hji14⟩ : ∃ j_ : Int, (wrap64 (x7_1 - 1)) = j_ := ⟨_, rfl⟩; replace H : (if 0 ≤ (ji14) then (if (ji14) < (l0.length : Int) then ((value_CompareRows.f k1 ((rd_T51 l0 (ji14)).f0) ((rd_T51 l0 x7_1).f0)).bind fun t140 => (if t140 ≥ 0 then (some false) else (bag_Valid.l0 k1 l0 l0 (l0.length : Int) (wrap64 (x7_1 + 1))))) else (none)) else (none)) = some r := by first | (rw [hji14] at H; exact H) | (simp only [hji14] at H ⊢; exact H)
         (try rw [hji14] at A5); have hji14w : (IntKind.i64.wrap (x7_1 - 1)) = ji14 := (i64_w _).trans hji14
         by_cases c15 : 0 ≤ (ji14)
         ·rw [if_pos c15] at H; have c15b0 : decide (0 ≤ (ji14)) = true := decide_eq_true c15; clear c15
          by_cases c16 : (ji14) < (l0.length : Int)
          ·rw [if_pos c16] at H; have c16b0 : decide ((ji14) < (l0.length : Int)) = true := decide_eq_true c16; clear c16; replace H := Option.bind_eq_some_iff.mp H; obtain ⟨t140, A170, H⟩ := H; replace H : (if t140 ≥ 0 then (some false) else (bag_Valid.l0 k1 l0 l0 (l0.length : Int) (wrap64 (x7_1 + 1)))) = some r := H; have A17 := Aside0.mk A170; clear A170
           by_cases c18 : t140 ≥ 0
           ·rw [if_pos c18] at H; have c18b0 : decide (0 ≤ t140) = true := decide_eq_true c18; clear c18; obtain rfl := Option.some.inj H; have p136 : 0 ≤ (x7_1 : Int) := of_decide_eq_true zz14; have q136 : x7_1 < (l0.length : Int) := of_decide_eq_true zz14; obtain ⟨ad136, A136_0, c136_0, e136, hx136_0, hx136_1, hl136_0, hi136_0⟩ := at_T51 HR0.out x7_1 p136 q136
            cases e136
            replace hx136_0 := cB HB hx136_0; replace hx136_1 := cB HB hx136_1; have HR100_0 := Aside0.mk hi136_0; have HC100_0 := Aside0.mk hl136_0; clear hi136_0 hl136_0; replace p136 := eq_true p136; replace q136 := eq_true q136
            try go_wp2_with (first | ((with_reducible refine gate_dst (N := 4) rfl ?_); refine box_event ?hg (N := 4) ?hd (cs := #[.slice none 0 0, .int .i64 0]) (t := 51) ?hr ?_; (case hd => rfl); (case hg => rfl); (case hr => first | (go_simp; done) | (go_simp; rfl)); intro gb101 hg w19 hbox hb; have n0_ := Aside0.mk (below_step zz2 hb); have n1_ := Aside0.mk (hbox); have n2_ := Aside0.mk ((zz3 : w.heap.size ≤ gb101)); have n3_ := Aside0.mk ((zz3 : w.heap.size ≤ gb101)); clear HB; have HB := n0_; have BK101 := n1_; have GW101 := n2_; have GE101 := n3_; clear n0_ n1_ n2_ n3_; clear hb hbox hg; have hcz20_0 : w19.cell? ⟨gb101, 0, none⟩ = some (.slice none 0 0) := cK BK101 0; have hcz20_1 : w19.cell? ⟨gb101, 1, none⟩ = some (.int .i64 0) := cK BK101 1; have hfz20_0 := blk_frozen BK101.out 0; have hfz20_1 := blk_frozen BK101.out 1))
            have n0_ : Aside0 (((w19.setCell ⟨gb101, 0, none⟩ (.slice A136_0 ((rd_T51 l0 x7_1).f0).length c136_0)).setCell ⟨gb101, 1, none⟩ (.int .i64 ((rd_T51 l0 x7_1).f1))).heap[gb101]? = some (.cells #[.slice A136_0 ((rd_T51 l0 x7_1).f0).length c136_0, .int .i64 ((rd_T51 l0 x7_1).f1)] 51 (0, 0))) := ⟨zz38⟩; have n1_ : Aside0 (Below w.heap.size w ((w19.setCell ⟨gb101, 0, none⟩ (.slice A136_0 ((rd_T51 l0 x7_1).f0).length c136_0)).setCell ⟨gb101, 1, none⟩ (.int .i64 ((rd_T51 l0 x7_1).f1)))) := ⟨zz39⟩; (try clear BK101); (try clear HB); generalize ((w19.setCell ⟨gb101, 0, none⟩ (.slice A136_0 ((rd_T51 l0 x7_1).f0).length c136_0)).setCell ⟨gb101, 1, none⟩ (.int .i64 ((rd_T51 l0 x7_1).f1))) = w21 at n0_ n1_ ⊢; have BK101 := n0_; have HB := n1_; clear n0_ n1_; have n0_ := Aside0.mk (blk_drew BK101.out); have n1_ := Aside0.mk (below_drew1 HB.out); clear BK101; clear HB; have BK101 := n0_; have HB := n1_; clear n0_ n1_; have p139 : 0 ≤ ((ji14) : Int) := of_decide_eq_true zz14; have q139 : (ji14) < (l0.length : Int) := of_decide_eq_true zz14; obtain ⟨ad139, A139_0, c139_0, e139, hx139_0, hx139_1, hl139_0, hi139_0⟩ := at_T51 HR0.out (ji14) p139 q139; have hw139_1 := hx139_1; have hw139_0 := hx139_0; obtain rfl : ad136 = ad139 := (by injection e139); replace hx139_0 := cB HB hx139_0; replace hx139_1 := cB HB hx139_1; have HR102_0 := Aside0.mk hi139_0; have HC102_0 := Aside0.mk hl139_0; clear hi139_0 hl139_0; replace p139 := eq_true p139; replace q139 := eq_true q139; refine start_ (n := 24) (S := fun w' => w'.cell? ⟨gb101, 0, none⟩ = some (.slice A136_0 ((rd_T51 l0 x7_1).f0).length c136_0) ∧ w'.cell? ⟨gb101, 1, none⟩ = some (.int .i64 ((rd_T51 l0 x7_1).f1)) ∧ w'.cell? (ad136.add (((ji14)).toNat * 2)) = some (.slice A139_0 ((rd_T51 l0 (ji14)).f0).length c139_0) ∧ w'.cell? ⟨(ad136.add (((ji14)).toNat * 2)).block, (ad136.add (((ji14)).toNat * 2)).off + 1, none⟩ = some (.int .i64 ((rd_T51 l0 (ji14)).f1))) (ds := []) (.replicate 24 false) (by kernel_rfl) rfl rfl ⟨cK BK101 0, cK BK101 1, (cB HB hw139_0), (cB HB hw139_1)⟩ (fun hHeld => ?_); refine with_tabW bag_Valid.tab4 bag_Valid.bits4 (fun HT_ HW_ => ?_); generalize w21.drew = w22 at BK101 HB HR102_0 hx139_0 hx139_1 hHeld ⊢; refine tV (v := ?_) 0 12 (bA 24 1) HT_ HW_ hHeld ?_ ?_; rotate_left
            ·rintro w' ⟨s0, s1, s2, s3⟩
             go_simp
             (with_reducible rfl)
            refine oN 1 13 (bA 24 3) HT_ (fun K hK => ?_); refine goes_ Try.func115 (by kernel_rfl) rfl #[.agg #[.slice A136_0 ((rd_T51 l0 x7_1).f0).length c136_0, .int .i64 ((rd_T51 l0 x7_1).f1)]] (by rfl) rfl rfl zz6 ?_; (with_reducible refine (bag_entryFits.calls k1 _ _ ((rd_T51 l0 x7_1).f0) ((rd_T51 l0 x7_1).f1) true _ ?side1 ?side2 A5.out).mono ?_); (case side1 => repeat (first | exact (Kd.C_below HR100_0.out HB.out) | (with_reducible refine Kd.C_alloc ?_ _) | (with_reducible refine Kd.C_drewN ?_ _) | (with_reducible refine Kd.C_drew ?_))); (case side2 => exact HC100_0.out); rintro e w23 ⟨rfl, hb⟩; refine ⟨_, rfl, ?_⟩; have n0_ := Aside0.mk (blk_below (g := gb101) (o := .cells #[.slice A136_0 ((rd_T51 l0 x7_1).f0).length c136_0, .int .i64 ((rd_T51 l0 x7_1).f1)] 51 (0, 0)) zz11 hb); have n1_ := Aside0.mk (below_step zz39 hb); clear BK101; clear HB; have BK101 := n0_; have HB := n1_; clear n0_ n1_; (try clear hb); (try clear hb2); (try clear hk); (try clear hi); refine hK.out _ _ ⟨cK BK101 0, cK BK101 1, (cB HB hw139_0), (cB HB hw139_1)⟩ (fun hHeld => ?_); clear hK K; refine norm_ (a' := ?_) ?_ ?_; rotate_left
            ·show Act.put _ (some 13) _ = _
             simp only [Act.put, List.setIfInBounds_toArray, List.set_cons_zero, List.set_cons_succ, i64_w, i32_w]
             rfl
            refine pV 2 14 (bA 24 7) HT_ ?_; refine pV 3 15 (bA 24 15) HT_ ?_; refine pV 4 16 (bA 24 31) HT_ ?_; refine tV (v := ?_) 5 17 (bA 24 63) HT_ HW_ hHeld ?_ ?_; rotate_left
            ·rintro w' ⟨s0, s1, s2, s3⟩
             go_simp
             (with_reducible rfl)
            refine pV 6 18 (bA 24 127) HT_ ?_; refine pV 7 19 (bA 24 255) HT_ ?_; refine pV 8 20 (bA 24 511) HT_ ?_; refine pV 9 21 (bA 24 1023) HT_ ?_; refine pV 10 22 (bA 24 2047) HT_ ?_; refine pV 11 23 (bA 24 4095) HT_ ?_; refine pV 12 24 (bA 24 8191) HT_ ?_; refine pV 13 25 (bA 24 16383) HT_ ?_; refine pV 14 26 (bA 24 32767) HT_ ?_; refine pV 15 27 (bA 24 65535) HT_ ?_; refine pV 16 28 (bA 24 131071) HT_ ?_; refine pV 18 30 (bA 24 393215) HT_ ?_; refine tV (v := ?_) 17 29 (bA 24 524287) HT_ HW_ hHeld ?_ ?_; rotate_left
            ·rintro w' ⟨s0, s1, s2, s3⟩
             go_simp
             (with_reducible rfl)
            refine tV (v := ?_) 19 31 (bA 24 1048575) HT_ HW_ hHeld ?_ ?_; rotate_left
            ·rintro w' ⟨s0, s1, s2, s3⟩
             go_simp
             (with_reducible rfl)
            refine oN 20 32 (bA 24 2097151) HT_ (fun K hK => ?_); refine goes_ Try.func116 (by kernel_rfl) rfl #[.slice A139_0 ((rd_T51 l0 (ji14)).f0).length c139_0, .slice A136_0 ((rd_T51 l0 x7_1).f0).length c136_0] (by rfl) rfl rfl (by (try simp only [List.map_toArray, List.map_cons, List.map_nil]); first | done | (simp only [hji14]; rfl) | rfl | (simp only [List.length_drop, List.length_take]; rfl)) ?_; (with_reducible refine (value_CompareRows.calls k1 _ _ ((rd_T51 l0 (ji14)).f0) _ _ ((rd_T51 l0 x7_1).f0) t140 _ ?side1 ?side2 ?side3 ?side4 A17.out).mono ?_); (case side1 => repeat (first | exact (Kd.C_below HR102_0.out HB.out) | (with_reducible refine Kd.C_alloc ?_ _) | (with_reducible refine Kd.C_drewN ?_ _) | (with_reducible refine Kd.C_drew ?_))); (case side2 => exact HC102_0.out); (case side3 => repeat (first | exact (Kd.C_below HR100_0.out HB.out) | (with_reducible refine Kd.C_alloc ?_ _) | (with_reducible refine Kd.C_drewN ?_ _) | (with_reducible refine Kd.C_drew ?_))); (case side4 => exact HC100_0.out); rintro e w24 ⟨rfl, hb⟩; refine ⟨_, rfl, ?_⟩; have n0_ := Aside0.mk (blk_below (g := gb101) (o := .cells #[.slice A136_0 ((rd_T51 l0 x7_1).f0).length c136_0, .int .i64 ((rd_T51 l0 x7_1).f1)] 51 (0, 0)) zz11 hb); have n1_ := Aside0.mk (below_step zz39 hb); clear BK101; clear HB; have BK101 := n0_; have HB := n1_; clear n0_ n1_; (try clear hb); (try clear hb2); (try clear hk); (try clear hi); refine hK.out _ _ ⟨cK BK101 0, cK BK101 1, (cB HB hw139_0), (cB HB hw139_1)⟩ (fun hHeld => ?_); clear hK K; refine norm_ (a' := ?_) ?_ ?_; rotate_left
            ·show Act.put _ (some 32) _ = _
             simp only [Act.put, List.setIfInBounds_toArray, List.set_cons_zero, List.set_cons_succ, i64_w, i32_w]
             rfl
            refine pV 21 33 (bA 24 4194303) HT_ ?_; refine pV 22 34 (bA 24 8388607) HT_ ?_; refine pV 23 35 (bA 24 16777215) HT_ ?_; refine done_ (done_of HT_.out (by kernel_rfl)) ?_
            try go_wp2
            go_ret
            exact ⟨by first | rfl | (simp [errW_none, errW_some] <;> rfl) | (simp only [← hji14]; first | rfl | (simp [errW_none, errW_some] <;> rfl)) | (simp [*, errW_none, errW_some] <;> rfl), zz39⟩
           ·rw [if_neg c18] at H; have c18b0 : decide (0 ≤ t140) = false := decide_eq_false c18; clear c18; have H' := Aside0.mk H; clear H; have p136 : 0 ≤ (x7_1 : Int) := of_decide_eq_true zz14; have q136 : x7_1 < (l0.length : Int) := of_decide_eq_true zz14; obtain ⟨ad136, A136_0, c136_0, e136, hx136_0, hx136_1, hl136_0, hi136_0⟩ := at_T51 HR0.out x7_1 p136 q136
            cases e136
            replace hx136_0 := cB HB hx136_0; replace hx136_1 := cB HB hx136_1; have HR100_0 := Aside0.mk hi136_0; have HC100_0 := Aside0.mk hl136_0; clear hi136_0 hl136_0; replace p136 := eq_true p136; replace q136 := eq_true q136
            try go_wp2_with (first | ((with_reducible refine gate_dst (N := 4) rfl ?_); refine box_event ?hg (N := 4) ?hd (cs := #[.slice none 0 0, .int .i64 0]) (t := 51) ?hr ?_; (case hd => rfl); (case hg => rfl); (case hr => first | (go_simp; done) | (go_simp; rfl)); intro gb101 hg w25 hbox hb; have n0_ := Aside0.mk (below_step zz2 hb); have n1_ := Aside0.mk (hbox); have n2_ := Aside0.mk ((zz3 : w.heap.size ≤ gb101)); have n3_ := Aside0.mk ((zz3 : w.heap.size ≤ gb101)); clear HB; have HB := n0_; have BK101 := n1_; have GW101 := n2_; have GE101 := n3_; clear n0_ n1_ n2_ n3_; clear hb hbox hg; have hcz26_0 : w25.cell? ⟨gb101, 0, none⟩ = some (.slice none 0 0) := cK BK101 0; have hcz26_1 : w25.cell? ⟨gb101, 1, none⟩ = some (.int .i64 0) := cK BK101 1; have hfz26_0 := blk_frozen BK101.out 0; have hfz26_1 := blk_frozen BK101.out 1))
            have n0_ : Aside0 (((w25.setCell ⟨gb101, 0, none⟩ (.slice A136_0 ((rd_T51 l0 x7_1).f0).length c136_0)).setCell ⟨gb101, 1, none⟩ (.int .i64 ((rd_T51 l0 x7_1).f1))).heap[gb101]? = some (.cells #[.slice A136_0 ((rd_T51 l0 x7_1).f0).length c136_0, .int .i64 ((rd_T51 l0 x7_1).f1)] 51 (0, 0))) := ⟨zz38⟩; have n1_ : Aside0 (Below w.heap.size w ((w25.setCell ⟨gb101, 0, none⟩ (.slice A136_0 ((rd_T51 l0 x7_1).f0).length c136_0)).setCell ⟨gb101, 1, none⟩ (.int .i64 ((rd_T51 l0 x7_1).f1)))) := ⟨zz39⟩; (try clear BK101); (try clear HB); generalize ((w25.setCell ⟨gb101, 0, none⟩ (.slice A136_0 ((rd_T51 l0 x7_1).f0).length c136_0)).setCell ⟨gb101, 1, none⟩ (.int .i64 ((rd_T51 l0 x7_1).f1))) = w27 at n0_ n1_ ⊢; have BK101 := n0_; have HB := n1_; clear n0_ n1_; have n0_ := Aside0.mk (blk_drew BK101.out); have n1_ := Aside0.mk (below_drew1 HB.out); clear BK101; clear HB; have BK101 := n0_; have HB := n1_; clear n0_ n1_; have p139 : 0 ≤ ((ji14) : Int) := of_decide_eq_true zz14; have q139 : (ji14) < (l0.length : Int) := of_decide_eq_true zz14; obtain ⟨ad139, A139_0, c139_0, e139, hx139_0, hx139_1, hl139_0, hi139_0⟩ := at_T51 HR0.out (ji14) p139 q139; have hw139_1 := hx139_1; have hw139_0 := hx139_0; obtain rfl : ad136 = ad139 := (by injection e139); replace hx139_0 := cB HB hx139_0; replace hx139_1 := cB HB hx139_1; have HR102_0 := Aside0.mk hi139_0; have HC102_0 := Aside0.mk hl139_0; clear hi139_0 hl139_0; replace p139 := eq_true p139; replace q139 := eq_true q139; refine start_ (n := 24) (S := fun w' => w'.cell? ⟨gb101, 0, none⟩ = some (.slice A136_0 ((rd_T51 l0 x7_1).f0).length c136_0) ∧ w'.cell? ⟨gb101, 1, none⟩ = some (.int .i64 ((rd_T51 l0 x7_1).f1)) ∧ w'.cell? (ad136.add (((ji14)).toNat * 2)) = some (.slice A139_0 ((rd_T51 l0 (ji14)).f0).length c139_0) ∧ w'.cell? ⟨(ad136.add (((ji14)).toNat * 2)).block, (ad136.add (((ji14)).toNat * 2)).off + 1, none⟩ = some (.int .i64 ((rd_T51 l0 (ji14)).f1))) (ds := []) (.replicate 24 false) (by kernel_rfl) rfl rfl ⟨cK BK101 0, cK BK101 1, (cB HB hw139_0), (cB HB hw139_1)⟩ (fun hHeld => ?_); refine with_tabW bag_Valid.tab4 bag_Valid.bits4 (fun HT_ HW_ => ?_); generalize w27.drew = w28 at BK101 HB HR102_0 hx139_0 hx139_1 hHeld ⊢; refine tV (v := ?_) 0 12 (bA 24 1) HT_ HW_ hHeld ?_ ?_; rotate_left
            ·rintro w' ⟨s0, s1, s2, s3⟩
             go_simp
             (with_reducible rfl)
            refine oN 1 13 (bA 24 3) HT_ (fun K hK => ?_); refine goes_ Try.func115 (by kernel_rfl) rfl #[.agg #[.slice A136_0 ((rd_T51 l0 x7_1).f0).length c136_0, .int .i64 ((rd_T51 l0 x7_1).f1)]] (by rfl) rfl rfl zz6 ?_; (with_reducible refine (bag_entryFits.calls k1 _ _ ((rd_T51 l0 x7_1).f0) ((rd_T51 l0 x7_1).f1) true _ ?side1 ?side2 A5.out).mono ?_); (case side1 => repeat (first | exact (Kd.C_below HR100_0.out HB.out) | (with_reducible refine Kd.C_alloc ?_ _) | (with_reducible refine Kd.C_drewN ?_ _) | (with_reducible refine Kd.C_drew ?_))); (case side2 => exact HC100_0.out); rintro e w29 ⟨rfl, hb⟩; refine ⟨_, rfl, ?_⟩; have n0_ := Aside0.mk (blk_below (g := gb101) (o := .cells #[.slice A136_0 ((rd_T51 l0 x7_1).f0).length c136_0, .int .i64 ((rd_T51 l0 x7_1).f1)] 51 (0, 0)) zz11 hb); have n1_ := Aside0.mk (below_step zz39 hb); clear BK101; clear HB; have BK101 := n0_; have HB := n1_; clear n0_ n1_; (try clear hb); (try clear hb2); (try clear hk); (try clear hi); refine hK.out _ _ ⟨cK BK101 0, cK BK101 1, (cB HB hw139_0), (cB HB hw139_1)⟩ (fun hHeld => ?_); clear hK K; refine norm_ (a' := ?_) ?_ ?_; rotate_left
            ·show Act.put _ (some 13) _ = _
             simp only [Act.put, List.setIfInBounds_toArray, List.set_cons_zero, List.set_cons_succ, i64_w, i32_w]
             rfl
            refine pV 2 14 (bA 24 7) HT_ ?_; refine pV 3 15 (bA 24 15) HT_ ?_; refine pV 4 16 (bA 24 31) HT_ ?_; refine tV (v := ?_) 5 17 (bA 24 63) HT_ HW_ hHeld ?_ ?_; rotate_left
            ·rintro w' ⟨s0, s1, s2, s3⟩
             go_simp
             (with_reducible rfl)
            refine pV 6 18 (bA 24 127) HT_ ?_; refine pV 7 19 (bA 24 255) HT_ ?_; refine pV 8 20 (bA 24 511) HT_ ?_; refine pV 9 21 (bA 24 1023) HT_ ?_; refine pV 10 22 (bA 24 2047) HT_ ?_; refine pV 11 23 (bA 24 4095) HT_ ?_; refine pV 12 24 (bA 24 8191) HT_ ?_; refine pV 13 25 (bA 24 16383) HT_ ?_; refine pV 14 26 (bA 24 32767) HT_ ?_; refine pV 15 27 (bA 24 65535) HT_ ?_; refine pV 16 28 (bA 24 131071) HT_ ?_; refine pV 18 30 (bA 24 393215) HT_ ?_; refine tV (v := ?_) 17 29 (bA 24 524287) HT_ HW_ hHeld ?_ ?_; rotate_left
            ·rintro w' ⟨s0, s1, s2, s3⟩
             go_simp
             (with_reducible rfl)
            refine tV (v := ?_) 19 31 (bA 24 1048575) HT_ HW_ hHeld ?_ ?_; rotate_left
            ·rintro w' ⟨s0, s1, s2, s3⟩
             go_simp
             (with_reducible rfl)
            refine oN 20 32 (bA 24 2097151) HT_ (fun K hK => ?_); refine goes_ Try.func116 (by kernel_rfl) rfl #[.slice A139_0 ((rd_T51 l0 (ji14)).f0).length c139_0, .slice A136_0 ((rd_T51 l0 x7_1).f0).length c136_0] (by rfl) rfl rfl (by (try simp only [List.map_toArray, List.map_cons, List.map_nil]); first | done | (simp only [hji14]; rfl) | rfl | (simp only [List.length_drop, List.length_take]; rfl)) ?_; (with_reducible refine (value_CompareRows.calls k1 _ _ ((rd_T51 l0 (ji14)).f0) _ _ ((rd_T51 l0 x7_1).f0) t140 _ ?side1 ?side2 ?side3 ?side4 A17.out).mono ?_); (case side1 => repeat (first | exact (Kd.C_below HR102_0.out HB.out) | (with_reducible refine Kd.C_alloc ?_ _) | (with_reducible refine Kd.C_drewN ?_ _) | (with_reducible refine Kd.C_drew ?_))); (case side2 => exact HC102_0.out); (case side3 => repeat (first | exact (Kd.C_below HR100_0.out HB.out) | (with_reducible refine Kd.C_alloc ?_ _) | (with_reducible refine Kd.C_drewN ?_ _) | (with_reducible refine Kd.C_drew ?_))); (case side4 => exact HC100_0.out); rintro e w30 ⟨rfl, hb⟩; refine ⟨_, rfl, ?_⟩; have n0_ := Aside0.mk (blk_below (g := gb101) (o := .cells #[.slice A136_0 ((rd_T51 l0 x7_1).f0).length c136_0, .int .i64 ((rd_T51 l0 x7_1).f1)] 51 (0, 0)) zz11 hb); have n1_ := Aside0.mk (below_step zz39 hb); clear BK101; clear HB; have BK101 := n0_; have HB := n1_; clear n0_ n1_; (try clear hb); (try clear hb2); (try clear hk); (try clear hi); refine hK.out _ _ ⟨cK BK101 0, cK BK101 1, (cB HB hw139_0), (cB HB hw139_1)⟩ (fun hHeld => ?_); clear hK K; refine norm_ (a' := ?_) ?_ ?_; rotate_left
            ·show Act.put _ (some 32) _ = _
             simp only [Act.put, List.setIfInBounds_toArray, List.set_cons_zero, List.set_cons_succ, i64_w, i32_w]
             rfl
            refine pV 21 33 (bA 24 4194303) HT_ ?_; refine pV 22 34 (bA 24 8388607) HT_ ?_; refine pV 23 35 (bA 24 16777215) HT_ ?_; refine done_ (done_of HT_.out (by kernel_rfl)) ?_
            try go_wp2
            go_roundg k1
            case measure => have := HK1.out; omega
            case rel => exact ⟨(wrap64 (x7_1 + 1)), zz0, H', ⟨by have := HK1.out; omega⟩, ⟨zz39⟩⟩
          ·rw [if_neg c16] at H; exact absurd H (by simp)
         ·rw [if_neg c15] at H; exact absurd H (by simp)
        ·rw [if_neg c13] at H; have c13b0 : decide (0 < x7_1) = false := decide_eq_false c13; clear c13; have H' := Aside0.mk H; clear H; have p136 : 0 ≤ (x7_1 : Int) := of_decide_eq_true zz14; have q136 : x7_1 < (l0.length : Int) := of_decide_eq_true zz14; obtain ⟨ad136, A136_0, c136_0, e136, hx136_0, hx136_1, hl136_0, hi136_0⟩ := at_T51 HR0.out x7_1 p136 q136
         cases e136
         replace hx136_0 := cB HB hx136_0; replace hx136_1 := cB HB hx136_1; have HR100_0 := Aside0.mk hi136_0; have HC100_0 := Aside0.mk hl136_0; clear hi136_0 hl136_0; replace p136 := eq_true p136; replace q136 := eq_true q136
         try go_wp2_with (first | ((with_reducible refine gate_dst (N := 4) rfl ?_); refine box_event ?hg (N := 4) ?hd (cs := #[.slice none 0 0, .int .i64 0]) (t := 51) ?hr ?_; (case hd => rfl); (case hg => rfl); (case hr => first | (go_simp; done) | (go_simp; rfl)); intro gb101 hg w31 hbox hb; have n0_ := Aside0.mk (below_step zz2 hb); have n1_ := Aside0.mk (hbox); have n2_ := Aside0.mk ((zz3 : w.heap.size ≤ gb101)); have n3_ := Aside0.mk ((zz3 : w.heap.size ≤ gb101)); clear HB; have HB := n0_; have BK101 := n1_; have GW101 := n2_; have GE101 := n3_; clear n0_ n1_ n2_ n3_; clear hb hbox hg; have hcz32_0 : w31.cell? ⟨gb101, 0, none⟩ = some (.slice none 0 0) := cK BK101 0; have hcz32_1 : w31.cell? ⟨gb101, 1, none⟩ = some (.int .i64 0) := cK BK101 1; have hfz32_0 := blk_frozen BK101.out 0; have hfz32_1 := blk_frozen BK101.out 1))
         have n0_ : Aside0 (((w31.setCell ⟨gb101, 0, none⟩ (.slice A136_0 ((rd_T51 l0 x7_1).f0).length c136_0)).setCell ⟨gb101, 1, none⟩ (.int .i64 ((rd_T51 l0 x7_1).f1))).heap[gb101]? = some (.cells #[.slice A136_0 ((rd_T51 l0 x7_1).f0).length c136_0, .int .i64 ((rd_T51 l0 x7_1).f1)] 51 (0, 0))) := ⟨zz38⟩; have n1_ : Aside0 (Below w.heap.size w ((w31.setCell ⟨gb101, 0, none⟩ (.slice A136_0 ((rd_T51 l0 x7_1).f0).length c136_0)).setCell ⟨gb101, 1, none⟩ (.int .i64 ((rd_T51 l0 x7_1).f1)))) := ⟨zz39⟩; (try clear BK101); (try clear HB); generalize ((w31.setCell ⟨gb101, 0, none⟩ (.slice A136_0 ((rd_T51 l0 x7_1).f0).length c136_0)).setCell ⟨gb101, 1, none⟩ (.int .i64 ((rd_T51 l0 x7_1).f1))) = w33 at n0_ n1_ ⊢; have BK101 := n0_; have HB := n1_; clear n0_ n1_; have n0_ := Aside0.mk (blk_drew BK101.out); have n1_ := Aside0.mk (below_drew1 HB.out); clear BK101; clear HB; have BK101 := n0_; have HB := n1_; clear n0_ n1_; refine start_ (n := 24) (S := fun w' => w'.cell? ⟨gb101, 0, none⟩ = some (.slice A136_0 ((rd_T51 l0 x7_1).f0).length c136_0) ∧ w'.cell? ⟨gb101, 1, none⟩ = some (.int .i64 ((rd_T51 l0 x7_1).f1))) (ds := []) (.replicate 24 false) (by kernel_rfl) rfl rfl ⟨cK BK101 0, cK BK101 1⟩ (fun hHeld => ?_); refine with_tabW bag_Valid.tab4 bag_Valid.bits4 (fun HT_ HW_ => ?_); generalize w33.drew = w34 at BK101 HB hHeld ⊢; refine tV (v := ?_) 0 12 (bA 24 1) HT_ HW_ hHeld ?_ ?_; rotate_left
         ·rintro w' ⟨s0, s1⟩
          go_simp
          (with_reducible rfl)
         refine oN 1 13 (bA 24 3) HT_ (fun K hK => ?_); refine goes_ Try.func115 (by kernel_rfl) rfl #[.agg #[.slice A136_0 ((rd_T51 l0 x7_1).f0).length c136_0, .int .i64 ((rd_T51 l0 x7_1).f1)]] (by rfl) rfl rfl zz6 ?_; (with_reducible refine (bag_entryFits.calls k1 _ _ ((rd_T51 l0 x7_1).f0) ((rd_T51 l0 x7_1).f1) true _ ?side1 ?side2 A5.out).mono ?_); (case side1 => repeat (first | exact (Kd.C_below HR100_0.out HB.out) | (with_reducible refine Kd.C_alloc ?_ _) | (with_reducible refine Kd.C_drewN ?_ _) | (with_reducible refine Kd.C_drew ?_))); (case side2 => exact HC100_0.out); rintro e w35 ⟨rfl, hb⟩; refine ⟨_, rfl, ?_⟩; have n0_ := Aside0.mk (blk_below (g := gb101) (o := .cells #[.slice A136_0 ((rd_T51 l0 x7_1).f0).length c136_0, .int .i64 ((rd_T51 l0 x7_1).f1)] 51 (0, 0)) zz11 hb); have n1_ := Aside0.mk (below_step zz39 hb); clear BK101; clear HB; have BK101 := n0_; have HB := n1_; clear n0_ n1_; (try clear hb); (try clear hb2); (try clear hk); (try clear hi); refine hK.out _ _ ⟨cK BK101 0, cK BK101 1⟩ (fun hHeld => ?_); clear hK K; refine norm_ (a' := ?_) ?_ ?_; rotate_left
         ·show Act.put _ (some 13) _ = _
          simp only [Act.put, List.setIfInBounds_toArray, List.set_cons_zero, List.set_cons_succ, i64_w, i32_w]
          rfl
         refine pV 2 14 (bA 24 7) HT_ ?_; refine pV 3 15 (bA 24 15) HT_ ?_; refine pV 4 16 (bA 24 31) HT_ ?_; refine tV (v := ?_) 5 17 (bA 24 63) HT_ HW_ hHeld ?_ ?_; rotate_left
         ·rintro w' ⟨s0, s1⟩
          go_simp
          (with_reducible rfl)
         refine pV 6 18 (bA 24 127) HT_ ?_; refine pV 7 19 (bA 24 255) HT_ ?_; refine pV 8 20 (bA 24 511) HT_ ?_; refine pV 9 21 (bA 24 1023) HT_ ?_; refine pV 10 22 (bA 24 2047) HT_ ?_; refine pV 11 23 (bA 24 4095) HT_ ?_; refine pU 12 24 (bA 24 8191) HT_ ?_; refine pU 13 25 (bA 24 16383) HT_ ?_; refine pU 14 26 (bA 24 32767) HT_ ?_; refine pU 15 27 (bA 24 65535) HT_ ?_; refine pU 16 28 (bA 24 131071) HT_ ?_; refine pU 17 29 (bA 24 262143) HT_ ?_; refine pU 18 30 (bA 24 524287) HT_ ?_; refine pU 19 31 (bA 24 1048575) HT_ ?_; refine pU 20 32 (bA 24 2097151) HT_ ?_; refine pU 21 33 (bA 24 4194303) HT_ ?_; refine pV 22 34 (bA 24 8388607) HT_ ?_; refine pV 23 35 (bA 24 16777215) HT_ ?_; refine done_ (done_of HT_.out (by kernel_rfl)) ?_
         try go_wp2
         go_roundg k1
         case measure => have := HK1.out; omega
         case rel => exact ⟨(wrap64 (x7_1 + 1)), zz0, H', ⟨by have := HK1.out; omega⟩, ⟨zz39⟩⟩
      ·replace c6 := Bool.eq_false_iff.mpr c6; subst c6; have H1 : (some false) = some r := by rw [if_neg (show ¬ (false = true) by decide)] at H; exact H
       clear H; have H := H1; clear H1; obtain rfl := Option.some.inj H; have p136 : 0 ≤ (x7_1 : Int) := of_decide_eq_true zz14; have q136 : x7_1 < (l0.length : Int) := of_decide_eq_true zz14; obtain ⟨ad136, A136_0, c136_0, e136, hx136_0, hx136_1, hl136_0, hi136_0⟩ := at_T51 HR0.out x7_1 p136 q136
       cases e136
       replace hx136_0 := cB HB hx136_0; replace hx136_1 := cB HB hx136_1; have HR100_0 := Aside0.mk hi136_0; have HC100_0 := Aside0.mk hl136_0; clear hi136_0 hl136_0; replace p136 := eq_true p136; replace q136 := eq_true q136
       try go_wp2_with (first | ((with_reducible refine gate_dst (N := 4) rfl ?_); refine box_event ?hg (N := 4) ?hd (cs := #[.slice none 0 0, .int .i64 0]) (t := 51) ?hr ?_; (case hd => rfl); (case hg => rfl); (case hr => first | (go_simp; done) | (go_simp; rfl)); intro gb101 hg w36 hbox hb; have n0_ := Aside0.mk (below_step zz2 hb); have n1_ := Aside0.mk (hbox); have n2_ := Aside0.mk ((zz3 : w.heap.size ≤ gb101)); have n3_ := Aside0.mk ((zz3 : w.heap.size ≤ gb101)); clear HB; have HB := n0_; have BK101 := n1_; have GW101 := n2_; have GE101 := n3_; clear n0_ n1_ n2_ n3_; clear hb hbox hg; have hcz37_0 : w36.cell? ⟨gb101, 0, none⟩ = some (.slice none 0 0) := cK BK101 0; have hcz37_1 : w36.cell? ⟨gb101, 1, none⟩ = some (.int .i64 0) := cK BK101 1; have hfz37_0 := blk_frozen BK101.out 0; have hfz37_1 := blk_frozen BK101.out 1))
       have n0_ : Aside0 (((w36.setCell ⟨gb101, 0, none⟩ (.slice A136_0 ((rd_T51 l0 x7_1).f0).length c136_0)).setCell ⟨gb101, 1, none⟩ (.int .i64 ((rd_T51 l0 x7_1).f1))).heap[gb101]? = some (.cells #[.slice A136_0 ((rd_T51 l0 x7_1).f0).length c136_0, .int .i64 ((rd_T51 l0 x7_1).f1)] 51 (0, 0))) := ⟨zz38⟩; have n1_ : Aside0 (Below w.heap.size w ((w36.setCell ⟨gb101, 0, none⟩ (.slice A136_0 ((rd_T51 l0 x7_1).f0).length c136_0)).setCell ⟨gb101, 1, none⟩ (.int .i64 ((rd_T51 l0 x7_1).f1)))) := ⟨zz39⟩; (try clear BK101); (try clear HB); generalize ((w36.setCell ⟨gb101, 0, none⟩ (.slice A136_0 ((rd_T51 l0 x7_1).f0).length c136_0)).setCell ⟨gb101, 1, none⟩ (.int .i64 ((rd_T51 l0 x7_1).f1))) = w38 at n0_ n1_ ⊢; have BK101 := n0_; have HB := n1_; clear n0_ n1_; have n0_ := Aside0.mk (blk_drew BK101.out); have n1_ := Aside0.mk (below_drew1 HB.out); clear BK101; clear HB; have BK101 := n0_; have HB := n1_; clear n0_ n1_; refine start_ (n := 24) (S := fun w' => w'.cell? ⟨gb101, 0, none⟩ = some (.slice A136_0 ((rd_T51 l0 x7_1).f0).length c136_0) ∧ w'.cell? ⟨gb101, 1, none⟩ = some (.int .i64 ((rd_T51 l0 x7_1).f1))) (ds := []) (.replicate 24 false) (by kernel_rfl) rfl rfl ⟨cK BK101 0, cK BK101 1⟩ (fun hHeld => ?_); refine with_tabW bag_Valid.tab4 bag_Valid.bits4 (fun HT_ HW_ => ?_); generalize w38.drew = w39 at BK101 HB hHeld ⊢; refine tV (v := ?_) 0 12 (bA 24 1) HT_ HW_ hHeld ?_ ?_; rotate_left
       ·rintro w' ⟨s0, s1⟩
        go_simp
        (with_reducible rfl)
       refine oN 1 13 (bA 24 3) HT_ (fun K hK => ?_); refine goes_ Try.func115 (by kernel_rfl) rfl #[.agg #[.slice A136_0 ((rd_T51 l0 x7_1).f0).length c136_0, .int .i64 ((rd_T51 l0 x7_1).f1)]] (by rfl) rfl rfl zz6 ?_; (with_reducible refine (bag_entryFits.calls k1 _ _ ((rd_T51 l0 x7_1).f0) ((rd_T51 l0 x7_1).f1) false _ ?side1 ?side2 A5.out).mono ?_); (case side1 => repeat (first | exact (Kd.C_below HR100_0.out HB.out) | (with_reducible refine Kd.C_alloc ?_ _) | (with_reducible refine Kd.C_drewN ?_ _) | (with_reducible refine Kd.C_drew ?_))); (case side2 => exact HC100_0.out); rintro e w40 ⟨rfl, hb⟩; refine ⟨_, rfl, ?_⟩; have n0_ := Aside0.mk (blk_below (g := gb101) (o := .cells #[.slice A136_0 ((rd_T51 l0 x7_1).f0).length c136_0, .int .i64 ((rd_T51 l0 x7_1).f1)] 51 (0, 0)) zz11 hb); have n1_ := Aside0.mk (below_step zz39 hb); clear BK101; clear HB; have BK101 := n0_; have HB := n1_; clear n0_ n1_; (try clear hb); (try clear hb2); (try clear hk); (try clear hi); refine hK.out _ _ ⟨cK BK101 0, cK BK101 1⟩ (fun hHeld => ?_); clear hK K; refine norm_ (a' := ?_) ?_ ?_; rotate_left
       ·show Act.put _ (some 13) _ = _
        simp only [Act.put, List.setIfInBounds_toArray, List.set_cons_zero, List.set_cons_succ, i64_w, i32_w]
        rfl
       refine pV 2 14 (bA 24 7) HT_ ?_; refine pV 3 15 (bA 24 15) HT_ ?_; refine pU 4 16 (bA 24 31) HT_ ?_; refine pU 5 17 (bA 24 63) HT_ ?_; refine pU 6 18 (bA 24 127) HT_ ?_; refine pV 7 19 (bA 24 255) HT_ ?_; refine pV 8 20 (bA 24 511) HT_ ?_; refine pU 9 21 (bA 24 1023) HT_ ?_; refine pU 10 22 (bA 24 2047) HT_ ?_; refine pU 11 23 (bA 24 4095) HT_ ?_; refine pU 12 24 (bA 24 8191) HT_ ?_; refine pU 13 25 (bA 24 16383) HT_ ?_; refine pU 14 26 (bA 24 32767) HT_ ?_; refine pU 15 27 (bA 24 65535) HT_ ?_; refine pU 16 28 (bA 24 131071) HT_ ?_; refine pU 17 29 (bA 24 262143) HT_ ?_; refine pU 18 30 (bA 24 524287) HT_ ?_; refine pU 19 31 (bA 24 1048575) HT_ ?_; refine pU 20 32 (bA 24 2097151) HT_ ?_; refine pU 21 33 (bA 24 4194303) HT_ ?_; refine pU 22 34 (bA 24 8388607) HT_ ?_; refine pV 23 35 (bA 24 16777215) HT_ ?_; refine done_ (done_of HT_.out (by kernel_rfl)) ?_
       try go_wp2
       go_ret
       exact ⟨zz4, zz39⟩
     ·rw [if_neg c4] at H; exact absurd H (by simp)
    ·rw [if_neg c3] at H; exact absurd H (by simp)
   ·rw [if_neg c2] at H; have c2b0 : decide (x7_1 < (l0.length : Int)) = false := decide_eq_false c2; clear c2; obtain rfl := Option.some.inj H
    go_wp2
    go_ret
    exact ⟨zz4, zz2⟩
def bag_Positive_1.f (l0_0 : List (S23)) (a0_1 : Int) : Option (Bool) := some (decide (a0_1 < 0))
set_option maxHeartbeats 8000000 in
set_option maxRecDepth 100000 in
theorem bag_Positive_1.calls (A0_0 : Option Addr) (c0_0 : Nat) (l0_0 : List (S23)) (a0_1 : Int) (r : Bool) (w : World) (hr0_0 : Kd.C k23 w A0_0 l0_0.length l0_0) (hc0_0 : l0_0.length ≤ c0_0) (h : bag_Positive_1.f l0_0 a0_1 = some r) :
  Calls Try.prog 96 #[.agg #[.slice A0_0 l0_0.length c0_0, .int .i64 a0_1]] w fun e w' => e = .returned (.bool r) ∧ Below w.heap.size w w' := by
 have hu51 := Try.underlying51; have HR0_0 := Aside0.mk hr0_0; have HC0_0 := Aside0.mk hc0_0; clear hr0_0 hc0_0; have HB := Aside0.mk (Below.refl w.heap.size w); have H : (some (decide (a0_1 < 0))) = some r := h; clear h; obtain rfl := Option.some.inj H
 go_enter Try.func96, Try.ntmps96
 go_wp2_with (first | ((with_reducible refine gate_dst (N := 1) rfl ?_); refine box_event ?hg (N := 1) ?hd (cs := #[.slice A0_0 l0_0.length c0_0, .int .i64 a0_1]) (t := 51) ?hr ?_; (case hd => rfl); (case hg => rfl); (case hr => first | (go_simp; done) | (go_simp; rfl)); intro gb100 hg w2 hbox hb; have n0_ := Aside0.mk (below_step zz2 hb); have n1_ := Aside0.mk (hbox); have n2_ := Aside0.mk ((zz3 : w.heap.size ≤ gb100)); have n3_ := Aside0.mk ((zz3 : w.heap.size ≤ gb100)); clear HB; have HB := n0_; have BK100 := n1_; have GW100 := n2_; have GE100 := n3_; clear n0_ n1_ n2_ n3_; clear hb hbox hg; have hcz3_0 : w2.cell? ⟨gb100, 0, none⟩ = some (.slice A0_0 l0_0.length c0_0) := cK BK100 0; have hcz3_1 : w2.cell? ⟨gb100, 1, none⟩ = some (.int .i64 a0_1) := cK BK100 1; have hfz3_0 := blk_frozen BK100.out 0; have hfz3_1 := blk_frozen BK100.out 1))
 go_ret
 exact ⟨zz4, zz5⟩
def api_Entry_117.l0 : Nat → List (S51) → Int → Int → Option (Int)
 | 0, _, _, _ => none
 | k + 1, x0, x7, x8 => if x8 < x7 then (if 0 ≤ x8 then (if x8 < (x0.length : Int) then ((bag_Positive_1.f ((rd_T51 x0 x8).f0) ((rd_T51 x0 x8).f1)).bind fun t143 => (if t143 = true then (some x8) else (api_Entry_117.l0 k x0 x7 (wrap64 (x8 + 1))))) else (none)) else (none)) else (some (-1))
def api_Entry_117.f (k : Nat) (l0 : List (S51))  : Option (Int) := api_Entry_117.l0 k l0 (l0.length : Int) 0
theorem api_Entry_117.mono_l : ∀ k, (∀ y0 y1 y2, LeO (api_Entry_117.l0 k y0 y1 y2) (api_Entry_117.l0 (k + 1) y0 y1 y2))
 | 0 => fun _ _ _ r h => by simp [api_Entry_117.l0] at h
 | k + 1 => by
  have ih0 := api_Entry_117.mono_l k
  ·intro y0 y1 y2; unfold api_Entry_117.l0
   repeat' first
   | (with_reducible exact ih0 _ _ _)
   | (with_reducible exact LeO.refl _)
   | (with_reducible exact LeO.none _)
   | (with_reducible refine LeO.ite ?_ ?_)
   | (with_reducible refine LeO.bind ?_ (fun _ => ?_))
   | exact ih0 _ _ _
   | exact LeO.none _
   | refine LeO.ite ?_ ?_
   | refine LeO.bind ?_ (fun _ => ?_)
theorem api_Entry_117.mono : ∀ a0 k, LeO (api_Entry_117.f k a0) (api_Entry_117.f (k + 1) a0) := by
 intro a0 k; have ih0 := api_Entry_117.mono_l k; unfold api_Entry_117.f
 repeat' first
   | (with_reducible exact ih0 _ _ _)
   | (with_reducible exact LeO.refl _)
   | (with_reducible exact LeO.none _)
   | (with_reducible refine LeO.ite ?_ ?_)
   | (with_reducible refine LeO.bind ?_ (fun _ => ?_))
   | exact ih0 _ _ _
   | exact LeO.none _
   | refine LeO.ite ?_ ?_
   | refine LeO.bind ?_ (fun _ => ?_)
set_option maxHeartbeats 8000000 in
set_option maxRecDepth 100000 in
theorem api_Entry_117.calls (k : Nat) (A0 : Option Addr) (c0 : Nat) (l0 : List (S51))  (r : Int) (w : World) (hr0 : Kd.C k51 w A0 l0.length l0) (hc0 : l0.length ≤ c0) (h : api_Entry_117.f k l0 = some r) :
  Calls Try.prog 117 #[.slice A0 l0.length c0, .func (.func 96) #[] #[]] w fun e w' => e = .returned (.int .i64 r) ∧ Below w.heap.size w w' := by
 have hu51 := Try.underlying51; have HR0 := Aside0.mk hr0; have HC0 := Aside0.mk hc0; clear hr0 hc0; have HB := Aside0.mk (Below.refl w.heap.size w); have H : (api_Entry_117.l0 k l0 (l0.length : Int) 0) = some r := h; clear h; have H' := Aside0.mk H; clear H
 go_enter Try.func117, Try.ntmps117
 go_wp2
 go_loopg [8] k (fun kq v8 w' => ∃ (x8_1 : Int), v8 = .int .i64 x8_1 ∧ Aside0 (api_Entry_117.l0 kq l0 (l0.length : Int) x8_1 = some r) ∧ Aside0 (kq ≤ k) ∧ Aside0 (Below w.heap.size w w'))
 case atStart => exact ⟨(0), zz0, H', ⟨Nat.le_refl _⟩, ⟨zz2⟩⟩
 case round =>
  clear H'; (try clear c1); (try clear p2); obtain ⟨x8_1, rfl, HA, HK1, HB⟩ := hrel
  cases gk with
  | zero => exact absurd HA.out (by simp [api_Entry_117.l0])
  | succ k1 =>
   have H := HA.out; clear HA; simp only [api_Entry_117.l0] at H
   by_cases c3 : x8_1 < (l0.length : Int)
   ·rw [if_pos c3] at H; have c3b0 : decide (x8_1 < (l0.length : Int)) = true := decide_eq_true c3; clear c3
    by_cases c4 : 0 ≤ x8_1
    ·rw [if_pos c4] at H; have c4b0 : decide (0 ≤ x8_1) = true := decide_eq_true c4; clear c4
     by_cases c5 : x8_1 < (l0.length : Int)
     ·rw [if_pos c5] at H; have c5b0 : decide (x8_1 < (l0.length : Int)) = true := decide_eq_true c5; clear c5; replace H := Option.bind_eq_some_iff.mp H; obtain ⟨t143, A60, H⟩ := H; replace H : (if t143 = true then (some x8_1) else (api_Entry_117.l0 k1 l0 (l0.length : Int) (wrap64 (x8_1 + 1)))) = some r := H; have A6 := Aside0.mk A60; clear A60
      by_cases c7 : t143 = true
      ·subst c7; have H1 : (some x8_1) = some r := by rw [if_pos rfl] at H; exact H
       clear H; have H := H1; clear H1; obtain rfl := Option.some.inj H; have p142 : 0 ≤ (x8_1 : Int) := of_decide_eq_true zz14; have q142 : x8_1 < (l0.length : Int) := of_decide_eq_true zz14; obtain ⟨ad142, A142_0, c142_0, e142, hx142_0, hx142_1, hl142_0, hi142_0⟩ := at_T51 HR0.out x8_1 p142 q142
       cases e142
       replace hx142_0 := cB HB hx142_0; replace hx142_1 := cB HB hx142_1; have HR100_0 := Aside0.mk hi142_0; have HC100_0 := Aside0.mk hl142_0; clear hi142_0 hl142_0; replace p142 := eq_true p142; replace q142 := eq_true q142
       go_wp2_with (first | (go_at_call 96; (with_reducible refine (bag_Positive_1.calls _ _ ((rd_T51 l0 x8_1).f0) ((rd_T51 l0 x8_1).f1) true _ ?side1 ?side2 A6.out).mono ?_); (case side1 => repeat (first | exact (Kd.C_below HR100_0.out HB.out) | (with_reducible refine Kd.C_alloc ?_ _) | (with_reducible refine Kd.C_drewN ?_ _) | (with_reducible refine Kd.C_drew ?_))); (case side2 => exact HC100_0.out); rintro e w8 ⟨rfl, hb⟩; have n0_ := Aside0.mk (below_step zz2 hb); clear HB; have HB := n0_; clear n0_; (try clear hb); (try clear hb2); (try clear hk); (try clear hi)))
       go_ret
       exact ⟨zz4, zz2⟩
      ·replace c7 := Bool.eq_false_iff.mpr c7; subst c7; have H1 : (api_Entry_117.l0 k1 l0 (l0.length : Int) (wrap64 (x8_1 + 1))) = some r := by rw [if_neg (show ¬ (false = true) by decide)] at H; exact H
       clear H; have H := H1; clear H1; have H' := Aside0.mk H; clear H; have p142 : 0 ≤ (x8_1 : Int) := of_decide_eq_true zz14; have q142 : x8_1 < (l0.length : Int) := of_decide_eq_true zz14; obtain ⟨ad142, A142_0, c142_0, e142, hx142_0, hx142_1, hl142_0, hi142_0⟩ := at_T51 HR0.out x8_1 p142 q142
       cases e142
       replace hx142_0 := cB HB hx142_0; replace hx142_1 := cB HB hx142_1; have HR100_0 := Aside0.mk hi142_0; have HC100_0 := Aside0.mk hl142_0; clear hi142_0 hl142_0; replace p142 := eq_true p142; replace q142 := eq_true q142
       go_wp2_with (first | (go_at_call 96; (with_reducible refine (bag_Positive_1.calls _ _ ((rd_T51 l0 x8_1).f0) ((rd_T51 l0 x8_1).f1) false _ ?side1 ?side2 A6.out).mono ?_); (case side1 => repeat (first | exact (Kd.C_below HR100_0.out HB.out) | (with_reducible refine Kd.C_alloc ?_ _) | (with_reducible refine Kd.C_drewN ?_ _) | (with_reducible refine Kd.C_drew ?_))); (case side2 => exact HC100_0.out); rintro e w9 ⟨rfl, hb⟩; have n0_ := Aside0.mk (below_step zz2 hb); clear HB; have HB := n0_; clear n0_; (try clear hb); (try clear hb2); (try clear hk); (try clear hi)))
       go_roundg k1
       case measure => have := HK1.out; omega
       case rel => exact ⟨(wrap64 (x8_1 + 1)), zz0, H', ⟨by have := HK1.out; omega⟩, ⟨zz2⟩⟩
     ·rw [if_neg c5] at H; exact absurd H (by simp)
    ·rw [if_neg c4] at H; exact absurd H (by simp)
   ·rw [if_neg c3] at H; have c3b0 : decide (x8_1 < (l0.length : Int)) = false := decide_eq_false c3; clear c3; obtain rfl := Option.some.inj H
    go_wp2
    go_ret
    exact ⟨zz4, zz2⟩
def api_Entry_95.f (k : Nat) (l0 : List (S51))  : Option (Bool) := (api_Entry_117.f k l0).bind fun t144 => (some (decide (t144 ≥ 0)))
theorem api_Entry_95.mono : ∀ a0 k, LeO (api_Entry_95.f k a0) (api_Entry_95.f (k + 1) a0) := by
 intro a0 k; unfold api_Entry_95.f
 repeat' first
   | (with_reducible exact api_Entry_117.mono _ _)
   | (with_reducible exact LeO.refl _)
   | (with_reducible exact LeO.none _)
   | (with_reducible refine LeO.ite ?_ ?_)
   | (with_reducible refine LeO.bind ?_ (fun _ => ?_))
   | exact api_Entry_117.mono _ _
   | exact LeO.none _
   | refine LeO.ite ?_ ?_
   | refine LeO.bind ?_ (fun _ => ?_)
set_option maxHeartbeats 8000000 in
set_option maxRecDepth 100000 in
theorem api_Entry_95.calls (k : Nat) (A0 : Option Addr) (c0 : Nat) (l0 : List (S51))  (r : Bool) (w : World) (hr0 : Kd.C k51 w A0 l0.length l0) (hc0 : l0.length ≤ c0) (h : api_Entry_95.f k l0 = some r) :
  Calls Try.prog 95 #[.slice A0 l0.length c0, .func (.func 96) #[] #[]] w fun e w' => e = .returned (.bool r) ∧ Below w.heap.size w w' := by
 have HR0 := Aside0.mk hr0; have HC0 := Aside0.mk hc0; clear hr0 hc0; have HB := Aside0.mk (Below.refl w.heap.size w); have H : ((api_Entry_117.f k l0).bind fun t144 => (some (decide (t144 ≥ 0)))) = some r := h; clear h; replace H := Option.bind_eq_some_iff.mp H; obtain ⟨t144, A30, H⟩ := H; replace H : (some (decide (t144 ≥ 0))) = some r := H; have A3 := Aside0.mk A30; clear A30; obtain rfl := Option.some.inj H
 go_enter Try.func95, Try.ntmps95
 go_wp2_with (first | ((with_reducible refine gate_callee (f := 117) rfl ?_); refine goesL_ (some 7) rfl rfl Try.func117 (by kernel_rfl) rfl #[.slice A0 l0.length c0, .func (.func 96) #[] #[]] rfl zz6 ?_; (with_reducible refine (api_Entry_117.calls k _ _ l0  t144 _ ?side1 ?side2 A3.out).mono ?_); (case side1 => repeat (first | exact HR0.out | (with_reducible refine Kd.C_alloc ?_ _) | (with_reducible refine Kd.C_drewN ?_ _) | (with_reducible refine Kd.C_drew ?_))); (case side2 => exact HC0.out); rintro e w4 ⟨rfl, hb⟩; refine ⟨_, rfl, ?_⟩; have n0_ := Aside0.mk (below_step zz2 hb); clear HB; have HB := n0_; clear n0_; (try clear hb); (try clear hb2); (try clear hk); (try clear hi)))
 go_ret
 exact ⟨zz4, zz2⟩
def bag_Positive.f (k : Nat) (l0 : List (S51)) : Option (Bool) := (bag_Valid.f k l0).bind fun t145 => (if t145 = true then ((api_Entry_95.f k l0).bind fun t146 => (some (!t146))) else (some false))
theorem bag_Positive.mono : ∀ a0 k, LeO (bag_Positive.f k a0) (bag_Positive.f (k + 1) a0) := by
 intro a0 k; unfold bag_Positive.f
 repeat' first
   | (with_reducible exact api_Entry_95.mono _ _)
   | (with_reducible exact bag_Valid.mono _ _)
   | (with_reducible exact LeO.refl _)
   | (with_reducible exact LeO.none _)
   | (with_reducible refine LeO.ite ?_ ?_)
   | (with_reducible refine LeO.bind ?_ (fun _ => ?_))
   | exact api_Entry_95.mono _ _
   | exact bag_Valid.mono _ _
   | exact LeO.none _
   | refine LeO.ite ?_ ?_
   | refine LeO.bind ?_ (fun _ => ?_)
set_option maxHeartbeats 8000000 in
set_option maxRecDepth 100000 in
theorem bag_Positive.calls (k : Nat) (A0 : Option Addr) (c0 : Nat) (l0 : List (S51)) (r : Bool) (w : World) (hr0 : Kd.C k51 w A0 l0.length l0) (hc0 : l0.length ≤ c0) (h : bag_Positive.f k l0 = some r) :
  Calls Try.prog 62 #[.slice A0 l0.length c0] w fun e w' => e = .returned (.bool r) ∧ Below w.heap.size w w' := by
 have HR0 := Aside0.mk hr0; have HC0 := Aside0.mk hc0; clear hr0 hc0; have HB := Aside0.mk (Below.refl w.heap.size w); have H : ((bag_Valid.f k l0).bind fun t145 => (if t145 = true then ((api_Entry_95.f k l0).bind fun t146 => (some (!t146))) else (some false))) = some r := h; clear h; replace H := Option.bind_eq_some_iff.mp H; obtain ⟨t145, A20, H⟩ := H; replace H : (if t145 = true then ((api_Entry_95.f k l0).bind fun t146 => (some (!t146))) else (some false)) = some r := H; have A2 := Aside0.mk A20; clear A20
 by_cases c3 : t145 = true
 ·subst c3; have H1 : ((api_Entry_95.f k l0).bind fun t146 => (some (!t146))) = some r := by rw [if_pos rfl] at H; exact H
  clear H; have H := H1; clear H1; replace H := Option.bind_eq_some_iff.mp H; obtain ⟨t146, A40, H⟩ := H; replace H : (some (!t146)) = some r := H; have A4 := Aside0.mk A40; clear A40; obtain rfl := Option.some.inj H
  go_enter Try.func62, Try.ntmps62
  go_wp2_with (first | ((with_reducible refine gate_callee (f := 94) rfl ?_); refine goesL_ (some 4) rfl rfl Try.func94 (by kernel_rfl) rfl #[.slice A0 l0.length c0] rfl zz6 ?_; (with_reducible refine (bag_Valid.calls k _ _ l0 true _ ?side1 ?side2 A2.out).mono ?_); (case side1 => repeat (first | exact HR0.out | (with_reducible refine Kd.C_alloc ?_ _) | (with_reducible refine Kd.C_drewN ?_ _) | (with_reducible refine Kd.C_drew ?_))); (case side2 => exact HC0.out); rintro e w5 ⟨rfl, hb⟩; refine ⟨_, rfl, ?_⟩; have n0_ := Aside0.mk (below_step zz2 hb); clear HB; have HB := n0_; clear n0_; (try clear hb); (try clear hb2); (try clear hk); (try clear hi)) | (go_at_call 95; (with_reducible refine (api_Entry_95.calls k _ _ l0  t146 _ ?side1 ?side2 A4.out).mono ?_); (case side1 => repeat (first | exact (Kd.C_below HR0.out HB.out) | (with_reducible refine Kd.C_alloc ?_ _) | (with_reducible refine Kd.C_drewN ?_ _) | (with_reducible refine Kd.C_drew ?_))); (case side2 => exact HC0.out); rintro e w6 ⟨rfl, hb⟩; have n0_ := Aside0.mk (below_step zz2 hb); clear HB; have HB := n0_; clear n0_; (try clear hb); (try clear hb2); (try clear hk); (try clear hi)))
  go_ret
  exact ⟨zz4, zz2⟩
 ·replace c3 := Bool.eq_false_iff.mpr c3; subst c3; have H1 : (some false) = some r := by rw [if_neg (show ¬ (false = true) by decide)] at H; exact H
  clear H; have H := H1; clear H1; obtain rfl := Option.some.inj H
  go_enter Try.func62, Try.ntmps62
  go_wp2_with (first | ((with_reducible refine gate_callee (f := 94) rfl ?_); refine goesL_ (some 4) rfl rfl Try.func94 (by kernel_rfl) rfl #[.slice A0 l0.length c0] rfl zz6 ?_; (with_reducible refine (bag_Valid.calls k _ _ l0 false _ ?side1 ?side2 A2.out).mono ?_); (case side1 => repeat (first | exact HR0.out | (with_reducible refine Kd.C_alloc ?_ _) | (with_reducible refine Kd.C_drewN ?_ _) | (with_reducible refine Kd.C_drew ?_))); (case side2 => exact HC0.out); rintro e w7 ⟨rfl, hb⟩; refine ⟨_, rfl, ?_⟩; have n0_ := Aside0.mk (below_step zz2 hb); clear HB; have HB := n0_; clear n0_; (try clear hb); (try clear hb2); (try clear hk); (try clear hi)))
  go_ret
  exact ⟨zz4, zz2⟩
def sketch_empty.f (a0_0 : ByteArray) (a0_1 : ByteArray) (a0_2 : Int) (a0_3 : Int) (a0_4 : Int) (a0_5 : Int) : Option (List Int) := if a0_3 = 2 then (some ([] : List Int)) else (if 0 ≤ (wrap64 (a0_4 * a0_5)) then (if (wrap64 (a0_4 * a0_5) : Int).toNat ≤ 35184372088832 then (some (List.replicate (wrap64 (a0_4 * a0_5) : Int).toNat 0)) else (none)) else (none))
set_option maxHeartbeats 8000000 in
set_option maxRecDepth 100000 in
theorem sketch_empty.calls (a0_0 : ByteArray) (a0_1 : ByteArray) (a0_2 : Int) (a0_3 : Int) (a0_4 : Int) (a0_5 : Int) (r : List Int) (w : World) (h : sketch_empty.f a0_0 a0_1 a0_2 a0_3 a0_4 a0_5 = some r) :
  Calls Try.prog 63 #[.agg #[.string a0_0, .string a0_1, .int .i64 a0_2, .int .i64 a0_3, .int .i64 a0_4, .int .i64 a0_5]] w fun e w' => ∃ v0_ : Value, e = .returned (v0_) ∧ Kd.R (Kd.int .i64) 2 w' w.heap.size (fun _ => True) v0_ r ∧ Below w.heap.size w w' := by
 have hu30 := Try.underlying30; have HB := Aside0.mk (Below.refl w.heap.size w); have H : (if a0_3 = 2 then (some ([] : List Int)) else (if 0 ≤ (wrap64 (a0_4 * a0_5)) then (if (wrap64 (a0_4 * a0_5) : Int).toNat ≤ 35184372088832 then (some (List.replicate (wrap64 (a0_4 * a0_5) : Int).toNat 0)) else (none)) else (none))) = some r := h; clear h
 by_cases c2 : a0_3 = 2
 ·rw [if_pos c2] at H; have c2b0 : (a0_3 == 2) = true := beq_iff_eq.mpr c2; have c2b1 : (a0_3 != 2) = false := bne_eq_false_iff_eq.mpr c2; clear c2; obtain rfl := Option.some.inj H
  go_enter Try.func63, Try.ntmps63
  go_wp2_with (first | ((with_reducible refine gate_dst (N := 1) rfl ?_); refine box_event ?hg (N := 1) ?hd (cs := #[.string a0_0, .string a0_1, .int .i64 a0_2, .int .i64 a0_3, .int .i64 a0_4, .int .i64 a0_5]) (t := 30) ?hr ?_; (case hd => rfl); (case hg => rfl); (case hr => first | (go_simp; done) | (go_simp; rfl)); intro gb100 hg w3 hbox hb; have n0_ := Aside0.mk (below_step zz2 hb); have n1_ := Aside0.mk (hbox); have n2_ := Aside0.mk ((zz3 : w.heap.size ≤ gb100)); have n3_ := Aside0.mk ((zz3 : w.heap.size ≤ gb100)); clear HB; have HB := n0_; have BK100 := n1_; have GW100 := n2_; have GE100 := n3_; clear n0_ n1_ n2_ n3_; clear hb hbox hg; have hcz4_0 : w3.cell? ⟨gb100, 0, none⟩ = some (.string a0_0) := cK BK100 0; have hcz4_1 : w3.cell? ⟨gb100, 1, none⟩ = some (.string a0_1) := cK BK100 1; have hcz4_2 : w3.cell? ⟨gb100, 2, none⟩ = some (.int .i64 a0_2) := cK BK100 2; have hcz4_3 : w3.cell? ⟨gb100, 3, none⟩ = some (.int .i64 a0_3) := cK BK100 3; have hcz4_4 : w3.cell? ⟨gb100, 4, none⟩ = some (.int .i64 a0_4) := cK BK100 4; have hcz4_5 : w3.cell? ⟨gb100, 5, none⟩ = some (.int .i64 a0_5) := cK BK100 5; have hfz4_0 := blk_frozen BK100.out 0; have hfz4_1 := blk_frozen BK100.out 1; have hfz4_2 := blk_frozen BK100.out 2; have hfz4_3 := blk_frozen BK100.out 3; have hfz4_4 := blk_frozen BK100.out 4; have hfz4_5 := blk_frozen BK100.out 5))
  go_ret
  exact ⟨_, zz4, zz13, zz5⟩
 ·rw [if_neg c2] at H; have c2b0 : (a0_3 == 2) = false := beq_eq_false_iff_ne.mpr c2; have c2b1 : (a0_3 != 2) = true := bne_iff_ne.mpr c2; obtain ⟨ji5, hji5⟩ : ∃ j_ : Int, (wrap64 (a0_4 * a0_5)) = j_ := ⟨_, rfl⟩; replace H : (if 0 ≤ (ji5) then (if (ji5 : Int).toNat ≤ 35184372088832 then (some (List.replicate (ji5 : Int).toNat 0)) else (none)) else (none)) = some r := by first | (rw [hji5] at H; exact H) | (simp only [hji5] at H ⊢; exact H)
  have hji5w : (IntKind.i64.wrap (a0_4 * a0_5)) = ji5 := (i64_w _).trans hji5
  by_cases c6 : 0 ≤ (ji5)
  ·rw [if_pos c6] at H; have c6b0 := eq_true c6; have c6b1 : decide (0 ≤ (ji5)) = true := decide_eq_true c6; clear c6
   by_cases c7 : (ji5 : Int).toNat ≤ 35184372088832
   ·rw [if_pos c7] at H; have c7b0 := eq_true c7; have c7b1 : decide ((ji5 : Int).toNat ≤ 35184372088832) = true := decide_eq_true c7; clear c7; obtain ⟨y148, hy148⟩ : ∃ y_ : List Int, y_ = (List.replicate (ji5 : Int).toNat 0) := ⟨_, rfl⟩; replace H : (some y148) = some r := by first | (rw [hy148]; with_reducible exact H) | (have H2_ := (Option.bind_some _ _).symm.trans H; rw [hy148]; with_reducible exact H2_) | (have H2_ := (Option.bind_some _ _).symm.trans H; with_reducible exact H2_) | with_reducible exact H | (rw [hy148]; exact H) | exact H
    have Ny148 := Aside0.mk hy148; clear hy148; obtain rfl := Option.some.inj H
    go_enter Try.func63, Try.ntmps63
    go_wp2_with (first | ((with_reducible refine gate_dst (N := 1) rfl ?_); refine box_event ?hg (N := 1) ?hd (cs := #[.string a0_0, .string a0_1, .int .i64 a0_2, .int .i64 a0_3, .int .i64 a0_4, .int .i64 a0_5]) (t := 30) ?hr ?_; (case hd => rfl); (case hg => rfl); (case hr => first | (go_simp; done) | (go_simp; rfl)); intro gb100 hg w8 hbox hb; have n0_ := Aside0.mk (below_step zz2 hb); have n1_ := Aside0.mk (hbox); have n2_ := Aside0.mk ((zz3 : w.heap.size ≤ gb100)); have n3_ := Aside0.mk ((zz3 : w.heap.size ≤ gb100)); clear HB; have HB := n0_; have BK100 := n1_; have GW100 := n2_; have GE100 := n3_; clear n0_ n1_ n2_ n3_; clear hb hbox hg; have hcz9_0 : w8.cell? ⟨gb100, 0, none⟩ = some (.string a0_0) := cK BK100 0; have hcz9_1 : w8.cell? ⟨gb100, 1, none⟩ = some (.string a0_1) := cK BK100 1; have hcz9_2 : w8.cell? ⟨gb100, 2, none⟩ = some (.int .i64 a0_2) := cK BK100 2; have hcz9_3 : w8.cell? ⟨gb100, 3, none⟩ = some (.int .i64 a0_3) := cK BK100 3; have hcz9_4 : w8.cell? ⟨gb100, 4, none⟩ = some (.int .i64 a0_4) := cK BK100 4; have hcz9_5 : w8.cell? ⟨gb100, 5, none⟩ = some (.int .i64 a0_5) := cK BK100 5; have hfz9_0 := blk_frozen BK100.out 0; have hfz9_1 := blk_frozen BK100.out 1; have hfz9_2 := blk_frozen BK100.out 2; have hfz9_3 := blk_frozen BK100.out 3; have hfz9_4 := blk_frozen BK100.out 4; have hfz9_5 := blk_frozen BK100.out 5) | ((with_reducible refine gate_dst (N := 11) rfl ?_); refine Kd.R_make (Kd.int .i64) _ 2 rfl (N := 11) rfl 31 _ _ rfl ji5 rfl rfl Try.underlying31 (.int .i64 0) 8 info2 rfl (by decide) (by omega) 0 (ok := fun _ => True) (okp := fun _ => True) rfl (fun _ hk => hk) trivial (of_decide_eq_true zz14) (Nat.le_trans (Nat.mul_le_mul_right _ (of_decide_eq_true zz14 : ji5.toNat ≤ 35184372088832)) (by omega)) (Below.refl _ _) (Nat.le_refl _) ?_; intro v149 w10 ho11 hb hg_ hnew_; clear hg_ hnew_; (first | rw [← Ny148.out] at ho11 | (simp only [Int.reduceToNat] at ho11; rw [← Ny148.out] at ho11)); have n0_ := Aside0.mk (Kd.R_lower ho11 (below_size zz5)); have n1_ := Aside0.mk (blk_below (g := gb100) (o := .cells #[.string a0_0, .string a0_1, .int .i64 a0_2, .int .i64 a0_3, .int .i64 a0_4, .int .i64 a0_5] 30 (0, 0)) zz7 hb); have n2_ := Aside0.mk (below_step zz5 hb); clear BK100; clear HB; have HO101 := n0_; have BK100 := n1_; have HB := n2_; clear n0_ n1_ n2_; clear hb ho11))
    go_ret
    exact ⟨_, by first | rfl | (simp [errW_none, errW_some] <;> rfl) | (simp only [← hji5]; first | rfl | (simp [errW_none, errW_some] <;> rfl)) | (simp [*, errW_none, errW_some] <;> rfl), zz21, zz5⟩
   ·rw [if_neg c7] at H; exact absurd H (by simp)
  ·rw [if_neg c6] at H; exact absurd H (by simp)
def sketch_places.l0 : Nat → List Int → Int → Int → ByteArray → ByteArray → Int → Int → Int → Int → Int → Int → ByteArray → Option (List Int)
 | 0, _, _, _, _, _, _, _, _, _, _, _, _ => none
 | k + 1, x5, x8, x9, x196000, x196001, x196002, x196003, x196004, x196005, x197000, x197001, x197002 => if x9 < x8 then ((sketch_Hash.f k x197000 x197001 x197002 x9).bind fun t197 => (if (IntKind.u64.wrap (x196004)) = 0 then (none) else (if x5.length < 17592186044416 then (sketch_places.l0 k (x5 ++ [wrap64 ((wrap64 (x9 * x196004)) + (wrap64 (Int.tmod t197 (IntKind.u64.wrap (x196004)))))]) x8 (wrap64 (x9 + 1)) x196000 x196001 x196002 x196003 x196004 x196005 x197000 x197001 x197002) else (none)))) else (some x5)
def sketch_places.f (k : Nat) (a0_0 : ByteArray) (a0_1 : ByteArray) (a0_2 : Int) (a0_3 : Int) (a0_4 : Int) (a0_5 : Int) (a1_0 : Int) (a1_1 : Int) (a1_2 : ByteArray) : Option (List Int) := sketch_places.l0 k ([] : List Int) a0_5 0 a0_0 a0_1 a0_2 a0_3 a0_4 a0_5 a1_0 a1_1 a1_2
theorem sketch_places.mono_l : ∀ k, (∀ y0 y1 y2 y3 y4 y5 y6 y7 y8 y9 y10 y11, LeO (sketch_places.l0 k y0 y1 y2 y3 y4 y5 y6 y7 y8 y9 y10 y11) (sketch_places.l0 (k + 1) y0 y1 y2 y3 y4 y5 y6 y7 y8 y9 y10 y11))
 | 0 => fun _ _ _ _ _ _ _ _ _ _ _ _ r h => by simp [sketch_places.l0] at h
 | k + 1 => by
  have ih0 := sketch_places.mono_l k
  ·intro y0 y1 y2 y3 y4 y5 y6 y7 y8 y9 y10 y11; unfold sketch_places.l0
   repeat' first
   | (with_reducible exact ih0 _ _ _ _ _ _ _ _ _ _ _ _)
   | (with_reducible exact sketch_Hash.mono _ _ _ _ _)
   | (with_reducible exact LeO.refl _)
   | (with_reducible exact LeO.none _)
   | (with_reducible refine LeO.ite ?_ ?_)
   | (with_reducible refine LeO.bind ?_ (fun _ => ?_))
   | exact ih0 _ _ _ _ _ _ _ _ _ _ _ _
   | exact sketch_Hash.mono _ _ _ _ _
   | exact LeO.none _
   | refine LeO.ite ?_ ?_
   | refine LeO.bind ?_ (fun _ => ?_)
theorem sketch_places.mono : ∀ a0 a1 a2 a3 a4 a5 a6 a7 a8 k, LeO (sketch_places.f k a0 a1 a2 a3 a4 a5 a6 a7 a8) (sketch_places.f (k + 1) a0 a1 a2 a3 a4 a5 a6 a7 a8) := by
 intro a0 a1 a2 a3 a4 a5 a6 a7 a8 k; have ih0 := sketch_places.mono_l k; unfold sketch_places.f
 repeat' first
   | (with_reducible exact ih0 _ _ _ _ _ _ _ _ _ _ _ _)
   | (with_reducible exact sketch_Hash.mono _ _ _ _ _)
   | (with_reducible exact LeO.refl _)
   | (with_reducible exact LeO.none _)
   | (with_reducible refine LeO.ite ?_ ?_)
   | (with_reducible refine LeO.bind ?_ (fun _ => ?_))
   | exact ih0 _ _ _ _ _ _ _ _ _ _ _ _
   | exact sketch_Hash.mono _ _ _ _ _
   | exact LeO.none _
   | refine LeO.ite ?_ ?_
   | refine LeO.bind ?_ (fun _ => ?_)
def sketch_places.T5 : Bool × List (List Nat × List Nat) := (true, [([], []), ([], []), ([], []), ([2], [2]), ([1, 3], [1, 3]), ([], []), ([], []), ([5, 6], [5, 6]), ([], []), ([8], [8]), ([9], [9]), ([7, 10], [7, 10]), ([11], [11]), ([4, 12], [4, 12]), ([13], [13]), ([0, 14, 7], [0, 14]), ([15, 15, 0, 1, 2, 3, 4, 5, 6, 7, 8, 9, 10, 11, 12, 13, 14, 15], [0, 15])])
def sketch_places.B5 : List Nat := [0, 0, 0, 4, 14, 0, 0, 96, 0, 256, 768, 2016, 4064, 8190, 16382, 32767, 65535]
theorem sketch_places.tab5 : rtab .any (opsOf Try.f67 5) = sketch_places.T5 := by kernel_rfl
theorem sketch_places.bits5 : waitsOk sketch_places.T5.2 sketch_places.B5 = true := by kernel_rfl
set_option maxHeartbeats 8000000 in
set_option maxRecDepth 100000 in
theorem sketch_places.calls (k : Nat) (a0_0 : ByteArray) (a0_1 : ByteArray) (a0_2 : Int) (a0_3 : Int) (a0_4 : Int) (a0_5 : Int) (a1_0 : Int) (a1_1 : Int) (a1_2 : ByteArray) (r : List Int) (w : World) (h : sketch_places.f k a0_0 a0_1 a0_2 a0_3 a0_4 a0_5 a1_0 a1_1 a1_2 = some r) :
  Calls Try.prog 67 #[.agg #[.string a0_0, .string a0_1, .int .i64 a0_2, .int .i64 a0_3, .int .i64 a0_4, .int .i64 a0_5], .agg #[.int .i64 a1_0, .int .i64 a1_1, .string a1_2]] w fun e w' => ∃ v0_ : Value, e = .returned (v0_) ∧ Kd.R (Kd.int .i64) 3 w' w.heap.size (fun _ => True) v0_ r ∧ Below w.heap.size w w' := by
 have hu30 := Try.underlying30; have hu23 := Try.underlying23; have HB := Aside0.mk (Below.refl w.heap.size w); have H : (sketch_places.l0 k ([] : List Int) a0_5 0 a0_0 a0_1 a0_2 a0_3 a0_4 a0_5 a1_0 a1_1 a1_2) = some r := h; clear h; have H' := Aside0.mk H; clear H
 go_enter Try.func67, Try.ntmps67
 go_wp2_with (first | ((with_reducible refine gate_dst (N := 2) rfl ?_); refine box_event ?hg (N := 2) ?hd (cs := #[.string a0_0, .string a0_1, .int .i64 a0_2, .int .i64 a0_3, .int .i64 a0_4, .int .i64 a0_5]) (t := 30) ?hr ?_; (case hd => rfl); (case hg => rfl); (case hr => first | (go_simp; done) | (go_simp; rfl)); intro gb100 hg w3 hbox hb; have n0_ := Aside0.mk (below_step zz2 hb); have n1_ := Aside0.mk (hbox); have n2_ := Aside0.mk ((zz3 : w.heap.size ≤ gb100)); have n3_ := Aside0.mk ((zz3 : w.heap.size ≤ gb100)); clear HB; have HB := n0_; have BK100 := n1_; have GW100 := n2_; have GE100 := n3_; clear n0_ n1_ n2_ n3_; clear hb hbox hg) | ((with_reducible refine gate_dst (N := 3) rfl ?_); refine box_event ?hg (N := 3) ?hd (cs := #[.int .i64 a1_0, .int .i64 a1_1, .string a1_2]) (t := 23) ?hr ?_; (case hd => rfl); (case hg => rfl); (case hr => first | (go_simp; done) | (go_simp; rfl)); intro gb101 hg w4 hbox hb; have n0_ := Aside0.mk (blk_below (g := gb100) (o := .cells #[.string a0_0, .string a0_1, .int .i64 a0_2, .int .i64 a0_3, .int .i64 a0_4, .int .i64 a0_5] 30 (0, 0)) zz7 hb); have n1_ := Aside0.mk (below_step zz5 hb); have n2_ := Aside0.mk (hbox); have n3_ := Aside0.mk ((zz8 : w.heap.size ≤ gb101)); have n4_ := Aside0.mk ((zz8 : w.heap.size ≤ gb101)); have n5_ := Aside0.mk ((zz40 : gb100 ≠ gb101)); have n6_ := Aside0.mk ((zz41 : gb101 ≠ gb100)); clear BK100; clear HB; have BK100 := n0_; have HB := n1_; have BK101 := n2_; have GW101 := n3_; have GE101 := n4_; have NB100_101 := n5_; have NB101_100 := n6_; clear n0_ n1_ n2_ n3_ n4_ n5_ n6_; clear hb hbox hg; have hnb5 := NB100_101.out; have hnc5 := NB101_100.out; have hcz6_0 : w4.cell? ⟨gb100, 0, none⟩ = some (.string a0_0) := cK BK100 0; have hcz6_1 : w4.cell? ⟨gb100, 1, none⟩ = some (.string a0_1) := cK BK100 1; have hcz6_2 : w4.cell? ⟨gb100, 2, none⟩ = some (.int .i64 a0_2) := cK BK100 2; have hcz6_3 : w4.cell? ⟨gb100, 3, none⟩ = some (.int .i64 a0_3) := cK BK100 3; have hcz6_4 : w4.cell? ⟨gb100, 4, none⟩ = some (.int .i64 a0_4) := cK BK100 4; have hcz6_5 : w4.cell? ⟨gb100, 5, none⟩ = some (.int .i64 a0_5) := cK BK100 5; have hfz6_0 := blk_frozen BK100.out 0; have hfz6_1 := blk_frozen BK100.out 1; have hfz6_2 := blk_frozen BK100.out 2; have hfz6_3 := blk_frozen BK100.out 3; have hfz6_4 := blk_frozen BK100.out 4; have hfz6_5 := blk_frozen BK100.out 5))
 go_loopg [5, 9] k (fun kq v5 v9 w' => ∃ (x5_1 : List Int) (x9_1 : Int), v9 = .int .i64 x9_1 ∧ Aside0 (sketch_places.l0 kq x5_1 a0_5 x9_1 a0_0 a0_1 a0_2 a0_3 a0_4 a0_5 a1_0 a1_1 a1_2 = some r) ∧ Aside0 (kq ≤ k) ∧ Aside0 (Kd.R (Kd.int .i64) 3 w' w.heap.size (fun _ => True) v5 x5_1) ∧ Aside0 (w'.heap[gb100]? = some (.cells #[.string a0_0, .string a0_1, .int .i64 a0_2, .int .i64 a0_3, .int .i64 a0_4, .int .i64 a0_5] 30 (0, 0))) ∧ Aside0 (w'.heap[gb101]? = some (.cells #[.int .i64 a1_0, .int .i64 a1_1, .string a1_2] 23 (0, 0))) ∧ Aside0 (Below w.heap.size w w'))
 case atStart => exact ⟨(([] : List Int)), (0), zz0, H', ⟨Nat.le_refl _⟩, ⟨zz13⟩, ⟨zz7⟩, ⟨zz11⟩, ⟨zz12⟩⟩
 case round =>
  clear H'; (try clear p2); (try clear c5); (try clear c6); (try clear hcz6_0); (try clear hcz6_1); (try clear hcz6_2); (try clear hcz6_3); (try clear hcz6_4); (try clear hcz6_5); (try clear hfz6_0); (try clear hfz6_1); (try clear hfz6_2); (try clear hfz6_3); (try clear hfz6_4); (try clear hfz6_5); obtain ⟨x5_1, x9_1, rfl, HA, HK1, HO_5, BK100, BK101, HB⟩ := hrel
  cases gk with
  | zero => exact absurd HA.out (by simp [sketch_places.l0])
  | succ k1 =>
   have H := HA.out; clear HA; simp only [sketch_places.l0] at H
   by_cases c7 : x9_1 < a0_5
   ·rw [if_pos c7] at H; have c7b0 : decide (x9_1 < a0_5) = true := decide_eq_true c7; clear c7; replace H := Option.bind_eq_some_iff.mp H; obtain ⟨t197, A80, H⟩ := H; replace H : (if (IntKind.u64.wrap (a0_4)) = 0 then (none) else (if x5_1.length < 17592186044416 then (sketch_places.l0 k1 (x5_1 ++ [wrap64 ((wrap64 (x9_1 * a0_4)) + (wrap64 (Int.tmod t197 (IntKind.u64.wrap (a0_4)))))]) a0_5 (wrap64 (x9_1 + 1)) a0_0 a0_1 a0_2 a0_3 a0_4 a0_5 a1_0 a1_1 a1_2) else (none))) = some r := H; have A8 := Aside0.mk A80; clear A80
    by_cases c9 : (IntKind.u64.wrap (a0_4)) = 0
    ·rw [if_pos c9] at H; exact absurd H (by simp)
    ·rw [if_neg c9] at H; have c9b0 : ((IntKind.u64.wrap (a0_4)) == 0) = false := beq_eq_false_iff_ne.mpr c9; have c9b1 : ((IntKind.u64.wrap (a0_4)) != 0) = true := bne_iff_ne.mpr c9
     by_cases c10 : x5_1.length < 17592186044416
     ·rw [if_pos c10] at H; have LMc10 := Aside0.mk c10; clear c10; obtain ⟨y198, hy198⟩ : ∃ y_ : List Int, y_ = (x5_1 ++ [wrap64 ((wrap64 (x9_1 * a0_4)) + (wrap64 (Int.tmod t197 (IntKind.u64.wrap (a0_4)))))]) := ⟨_, rfl⟩; replace H : (sketch_places.l0 k1 y198 a0_5 (wrap64 (x9_1 + 1)) a0_0 a0_1 a0_2 a0_3 a0_4 a0_5 a1_0 a1_1 a1_2) = some r := by first | (rw [hy198]; with_reducible exact H) | (have H2_ := (Option.bind_some _ _).symm.trans H; rw [hy198]; with_reducible exact H2_) | (have H2_ := (Option.bind_some _ _).symm.trans H; with_reducible exact H2_) | with_reducible exact H | (rw [hy198]; exact H) | exact H
      have Ny198 := Aside0.mk hy198; clear hy198; have H' := Aside0.mk H; clear H
      try go_wp2
      have n0_ := Aside0.mk (Kd.R_drew HO_5.out); have n1_ := Aside0.mk (blk_drew BK100.out); have n2_ := Aside0.mk (blk_drew BK101.out); have n3_ := Aside0.mk (below_drew1 HB.out); clear HO_5; clear BK100; clear BK101; clear HB; have HO_5 := n0_; have BK100 := n1_; have BK101 := n2_; have HB := n3_; clear n0_ n1_ n2_ n3_; refine start_ (n := 17) (S := fun w' => w'.cell? ⟨gb100, 0, none⟩ = some (.string a0_0) ∧ w'.cell? ⟨gb100, 1, none⟩ = some (.string a0_1) ∧ w'.cell? ⟨gb100, 2, none⟩ = some (.int .i64 a0_2) ∧ w'.cell? ⟨gb100, 3, none⟩ = some (.int .i64 a0_3) ∧ w'.cell? ⟨gb100, 4, none⟩ = some (.int .i64 a0_4) ∧ w'.cell? ⟨gb100, 5, none⟩ = some (.int .i64 a0_5) ∧ w'.cell? ⟨gb101, 0, none⟩ = some (.int .i64 a1_0) ∧ w'.cell? ⟨gb101, 1, none⟩ = some (.int .i64 a1_1) ∧ w'.cell? ⟨gb101, 2, none⟩ = some (.string a1_2)) (ds := []) (.replicate 17 false) (by kernel_rfl) rfl rfl ⟨cK BK100 0, cK BK100 1, cK BK100 2, cK BK100 3, cK BK100 4, cK BK100 5, cK BK101 0, cK BK101 1, cK BK101 2⟩ (fun hHeld => ?_); refine with_tabW sketch_places.tab5 sketch_places.bits5 (fun HT_ HW_ => ?_); generalize wr.drew = w11 at HO_5 BK100 BK101 HB hHeld ⊢; refine pV 0 12 (bA 17 1) HT_ ?_; refine pV 1 13 (bA 17 3) HT_ ?_; refine pV 2 14 (bA 17 7) HT_ ?_; refine pV 6 18 (bA 17 71) HT_ ?_; refine pV 8 20 (bA 17 327) HT_ ?_; refine tV (v := ?_) 3 15 (bA 17 335) HT_ HW_ hHeld ?_ ?_; rotate_left
      ·rintro w' ⟨s0, s1, s2, s3, s4, s5, s6, s7, s8⟩
       go_simp
       (with_reducible rfl)
      refine pV 4 16 (bA 17 351) HT_ ?_; refine tV (v := ?_) 5 17 (bA 17 383) HT_ HW_ hHeld ?_ ?_; rotate_left
      ·rintro w' ⟨s0, s1, s2, s3, s4, s5, s6, s7, s8⟩
       go_simp
       (with_reducible rfl)
      refine tV (v := ?_) 9 21 (bA 17 895) HT_ HW_ hHeld ?_ ?_; rotate_left
      ·rintro w' ⟨s0, s1, s2, s3, s4, s5, s6, s7, s8⟩
       go_simp
       (with_reducible rfl)
      refine pV 10 22 (bA 17 1919) HT_ ?_; refine oN 7 19 (bA 17 2047) HT_ (fun K hK => ?_); refine goes_ Try.func15 (by kernel_rfl) rfl #[.agg #[.int .i64 a1_0, .int .i64 a1_1, .string a1_2], .int .i64 x9_1] (by rfl) rfl rfl zz6 ?_; (with_reducible refine (sketch_Hash.calls k1 a1_0 a1_1 a1_2 x9_1 t197 _ A8.out).mono ?_); rintro e w12 ⟨rfl, hb⟩; refine ⟨_, rfl, ?_⟩; have n0_ := Aside0.mk (Kd.R_below zz42 hb); have n1_ := Aside0.mk (blk_below (g := gb100) (o := .cells #[.string a0_0, .string a0_1, .int .i64 a0_2, .int .i64 a0_3, .int .i64 a0_4, .int .i64 a0_5] 30 (0, 0)) zz7 hb); have n2_ := Aside0.mk (blk_below (g := gb101) (o := .cells #[.int .i64 a1_0, .int .i64 a1_1, .string a1_2] 23 (0, 0)) zz11 hb); have n3_ := Aside0.mk (below_step zz12 hb); clear HO_5; clear BK100; clear BK101; clear HB; have HO_5 := n0_; have BK100 := n1_; have BK101 := n2_; have HB := n3_; clear n0_ n1_ n2_ n3_; (try clear hb); (try clear hb2); (try clear hk); (try clear hi); refine hK.out _ _ ⟨cK BK100 0, cK BK100 1, cK BK100 2, cK BK100 3, cK BK100 4, cK BK100 5, cK BK101 0, cK BK101 1, cK BK101 2⟩ (fun hHeld => ?_); clear hK K; refine norm_ (a' := ?_) ?_ ?_; rotate_left
      ·show Act.put _ (some 19) _ = _
       simp only [Act.put, List.setIfInBounds_toArray, List.set_cons_zero, List.set_cons_succ, i64_w, i32_w]
       rfl
      refine pV 11 23 (bA 17 4095) HT_ ?_; refine pV 12 24 (bA 17 8191) HT_ ?_; refine pV 13 25 (bA 17 16383) HT_ ?_; refine oN 14 26 (bA 17 32767) HT_ (fun K hK => ?_); refine value_ (w1 := ?_) (v := ?_) (by rfl) rfl ?_ ?_; rotate_left 2
      ·go_simp
       constructor
       ·rfl
       ·rfl
      refine hK.out _ _ ⟨(blk_cell (blk_alloc BK100.out _) 0).trans rfl, (blk_cell (blk_alloc BK100.out _) 1).trans rfl, (blk_cell (blk_alloc BK100.out _) 2).trans rfl, (blk_cell (blk_alloc BK100.out _) 3).trans rfl, (blk_cell (blk_alloc BK100.out _) 4).trans rfl, (blk_cell (blk_alloc BK100.out _) 5).trans rfl, (blk_cell (blk_alloc BK101.out _) 0).trans rfl, (blk_cell (blk_alloc BK101.out _) 1).trans rfl, (blk_cell (blk_alloc BK101.out _) 2).trans rfl⟩ (fun hHeld => ?_); clear hK K; refine norm_ (a' := ?_) ?_ ?_; rotate_left
      ·show Act.put _ (some 26) _ = _
       simp only [Act.put, List.setIfInBounds_toArray, List.set_cons_zero, List.set_cons_succ, i64_w, i32_w]
       rfl
      refine oN 15 27 (bA 17 65535) HT_ (fun K hK => ?_); refine Kd.R_append_step (Kd.int .i64) (w0 := w) w.heap.size (by rfl) (.tmp 12) (.tmp 26) 28 3 (.int .i64 0) 8 rfl Try.underlying28 info3 rfl (by decide) (by omega) u5 x5_1 (wrap64 ((wrap64 (x9_1 * a0_4)) + (wrap64 (Int.tmod t197 (IntKind.u64.wrap (a0_4)))))) [.int .i64 (wrap64 ((wrap64 (x9_1 * a0_4)) + (wrap64 (Int.tmod t197 (IntKind.u64.wrap (a0_4))))))] (fun _ => True) (fun _ => False) rfl rfl ?aP (fun _ hk => hk.elim) ?aF ?aO ?aB ?aS ?aL ?_; (case aP => exact rfl); (case aB => exact zz12); (case aF => exact (fun _ _ => trivial)); (case aO => exact zz42); (case aS => exact (below_size zz12)); (case aL => have := LMc10.out; omega); intro v199 w13 ho hb hg hat; rw [← Ny198.out] at ho; have n0_ := Aside0.mk (blk_grown (g := gb100) (o := .cells #[.string a0_0, .string a0_1, .int .i64 a0_2, .int .i64 a0_3, .int .i64 a0_4, .int .i64 a0_5] 30 (0, 0)) zz7 hg (Kd.R_ne HO_5.out BK100.out (by decide))); have n1_ := Aside0.mk (blk_grown (g := gb101) (o := .cells #[.int .i64 a1_0, .int .i64 a1_1, .string a1_2] 23 (0, 0)) zz11 hg (Kd.R_ne HO_5.out BK101.out (by decide))); have n2_ := Aside0.mk (hb); have n3_ := Aside0.mk (ho); clear BK100; clear BK101; clear HB; clear HO_5; have BK100 := n0_; have BK101 := n1_; have HB := n2_; have HO102 := n3_; clear n0_ n1_ n2_ n3_; clear ho hb hg hat; refine hK.out _ _ ⟨cK BK100 0, cK BK100 1, cK BK100 2, cK BK100 3, cK BK100 4, cK BK100 5, cK BK101 0, cK BK101 1, cK BK101 2⟩ (fun hHeld => ?_); clear hK K; refine norm_ (a' := ?_) ?_ ?_; rotate_left
      ·show Act.put _ (some 27) _ = _
       simp only [Act.put, List.setIfInBounds_toArray, List.set_cons_zero, List.set_cons_succ, i64_w, i32_w]
       rfl
      refine pV 16 5 (bA 17 131071) HT_ ?_; refine done_ (done_of HT_.out (by kernel_rfl)) ?_
      try go_wp2
      go_roundg k1
      case measure => have := HK1.out; omega
      case rel => exact ⟨(y198), (wrap64 (x9_1 + 1)), zz0, H', ⟨by have := HK1.out; omega⟩, ⟨zz23⟩, ⟨zz7⟩, ⟨zz11⟩, ⟨zz12⟩⟩
     ·rw [if_neg c10] at H; exact absurd H (by simp)
   ·rw [if_neg c7] at H; have c7b0 : decide (x9_1 < a0_5) = false := decide_eq_false c7; clear c7; obtain rfl := Option.some.inj H
    go_wp2
    go_ret
    exact ⟨_, zz4, zz42, zz12⟩
def slices_Sort_int64_int64.f (l0 : List Int) : Option (List Int) := if l0.length < 4611686018427387904 then some (l0.mergeSort fun x y => decide (x ≤ y)) else none
theorem slices_Sort_int64_int64.calls (P0_ : Nat → Prop) (u9000_ : Value) (l0 : List Int) (r : List Int) (w0 w : World) (hB : Below w0.heap.size w0 w) (ho0 : Kd.R (Kd.int .i64) 2 w w0.heap.size P0_ u9000_ l0) (h : slices_Sort_int64_int64.f l0 = some r) :
  Calls Try.prog 100 #[u9000_] w fun e w' => e = .returned (.tuple #[]) ∧ Kd.R (Kd.int .i64) 2 w' w0.heap.size (fun k_ => (P0_ k_ ∨ w.heap.size ≤ k_)) u9000_ r ∧ Below w0.heap.size w0 w' ∧ Kept w w' (fun k_ => P0_ k_) := by
 unfold slices_Sort_int64_int64.f at h
 split at h
 ·rename_i hlt
  injection h with h; subst h
  rcases owns_R_form ho0 with ⟨rfl, rfl⟩ | ⟨g, c, cur, rfl, hb, h3, h4, h5, h6, h7⟩
  ·refine (AnyG.slices_Sort_int_none Try.lsort64 none 0 w).mono ?_; rintro e w' ⟨rfl, rfl⟩; exact ⟨rfl, by simpa using Kd.R_nil _ _ _ _ _, hB, Kept.refl _ _⟩
  ·have hglt : g < w.heap.size := (Array.getElem?_eq_some_iff.1 h3).1; have hok : P0_ g := ho0.1 g rfl; refine (AnyG.slices_Sort_int Try.lsort64 g 0 c l0 w (owns_holds h3 h7) hglt hlt).mono ?_; rintro e w' ⟨rfl, q, os, rfl⟩; have hl : (l0.mergeSort fun x y => decide (x ≤ y)).length = l0.length := List.length_mergeSort _; obtain ⟨h8, h9, h10⟩ := owns_put hb hok h3 h4 h5 h6 hl (Nat.le_of_eq hl.symm) q os; refine ⟨rfl, ?_, h9 w0 hB hb, h10.mono (by rintro k rfl; exact hok)⟩; rw [← hl, List.take_length] at h8; rw [← hl]; exact h8
 ·cases h
def slices_Compact_int64_int64.f (l0 : List Int) : Option (List Int) := some (Lib.compact l0)
theorem slices_Compact_int64_int64.calls (P0_ : Nat → Prop) (u9000_ : Value) (l0 : List Int) (r : List Int) (w0 w : World) (hB : Below w0.heap.size w0 w) (ho0 : Kd.R (Kd.int .i64) 2 w w0.heap.size P0_ u9000_ l0) (h : slices_Compact_int64_int64.f l0 = some r) :
  Calls Try.prog 101 #[u9000_] w fun e w' => ∃ v0_ : Value, e = .returned (v0_) ∧ Kd.R (Kd.int .i64) 2 w' w0.heap.size (fun k_ => (P0_ k_ ∨ w.heap.size ≤ k_)) v0_ r ∧ Below w0.heap.size w0 w' ∧ Kept w w' (fun k_ => P0_ k_) := by
 unfold slices_Compact_int64_int64.f at h; injection h with h; subst h
 rcases owns_R_form ho0 with ⟨rfl, rfl⟩ | ⟨g, c, cur, rfl, hb, h3, h4, h5, h6, h7⟩
 ·refine (AnyG.slices_Compact_int_empty Try.lcompact64 none 0 w).mono ?_; rintro e w' ⟨rfl, rfl⟩; exact ⟨_, rfl, Kd.R_nil _ _ _ _ _, hB, Kept.refl _ _⟩
 ·have hok : P0_ g := ho0.1 g rfl; refine (AnyG.slices_Compact_int Try.lcompact64 g 0 c l0 w (owns_holds h3 h7) (by simp only [maxLen] at h5; omega) h4).mono ?_; rintro e w' ⟨rfl, q, rfl⟩; have hle := Lib.compact_length_le l0; have hl : (Lib.compact l0 ++ List.replicate (l0.length - (Lib.compact l0).length) (0 : Int)).length = l0.length := by simp; omega
  obtain ⟨h8, h9, h10⟩ := owns_put (n := (Lib.compact l0).length) hb hok h3 h4 h5 h6 hl (by omega) q #[]; rw [Go.Sort.grow_empty] at h8 h9 h10; refine ⟨_, rfl, ?_, h9 w0 hB hb, h10.mono (by rintro k rfl; exact hok)⟩; rw [List.take_left] at h8; exact h8
def sketch_smallest.f (l0 : List Int) (a1 : Int) : Option (List Int) := (slices_Sort_int64_int64.f l0).bind fun t201 => ((slices_Compact_int64_int64.f t201).bind fun t202 => (if 0 ≤ (mn (t202.length : Int) a1) then (if (mn (t202.length : Int) a1) ≤ (t202.length : Int) then (some (t202.take ((mn (t202.length : Int) a1) : Int).toNat)) else (none)) else (none)))
set_option maxHeartbeats 8000000 in
set_option maxRecDepth 100000 in
theorem sketch_smallest.calls (P0_ : Nat → Prop) (u9000_ : Value) (l0 : List Int) (a1 : Int) (r : List Int) (w0 w : World) (hB : Below w0.heap.size w0 w) (ho0 : Kd.R (Kd.int .i64) 2 w w0.heap.size P0_ u9000_ l0) (h : sketch_smallest.f l0 a1 = some r) :
  Calls Try.prog 70 #[u9000_, .int .i64 a1] w fun e w' => ∃ v0_ : Value, e = .returned (v0_) ∧ Kd.R (Kd.int .i64) 2 w' w0.heap.size (fun k_ => (P0_ k_ ∨ w.heap.size ≤ k_)) v0_ r ∧ Below w0.heap.size w0 w' ∧ Kept w w' (fun k_ => P0_ k_) := by
 have HO0 := Aside0.mk (show Kd.R (Kd.int .i64) 2 w w0.heap.size (fun k_ => (P0_ k_ ∨ w.heap.size ≤ k_)) u9000_ l0 from Kd.R_mono ho0 (fun k_ hk => (.inl hk))); have HK := Aside0.mk (Kept.refl w (fun k_ => P0_ k_)); have HW0 := Aside0.mk hB.size; have HB := Aside0.mk hB; clear hB; have H : ((slices_Sort_int64_int64.f l0).bind fun t201 => ((slices_Compact_int64_int64.f t201).bind fun t202 => (if 0 ≤ (mn (t202.length : Int) a1) then (if (mn (t202.length : Int) a1) ≤ (t202.length : Int) then (some (t202.take ((mn (t202.length : Int) a1) : Int).toNat)) else (none)) else (none)))) = some r := h; clear h; replace H := Option.bind_eq_some_iff.mp H; obtain ⟨t201, A30, H⟩ := H; replace H : ((slices_Compact_int64_int64.f t201).bind fun t202 => (if 0 ≤ (mn (t202.length : Int) a1) then (if (mn (t202.length : Int) a1) ≤ (t202.length : Int) then (some (t202.take ((mn (t202.length : Int) a1) : Int).toNat)) else (none)) else (none))) = some r := H; have A3 := Aside0.mk A30; clear A30; replace H := Option.bind_eq_some_iff.mp H; obtain ⟨t202, A40, H⟩ := H; replace H : (if 0 ≤ (mn (t202.length : Int) a1) then (if (mn (t202.length : Int) a1) ≤ (t202.length : Int) then (some (t202.take ((mn (t202.length : Int) a1) : Int).toNat)) else (none)) else (none)) = some r := H; have A4 := Aside0.mk A40; clear A40; obtain ⟨ji5, hji5⟩ : ∃ j_ : Int, (mn (t202.length : Int) a1) = j_ := ⟨_, rfl⟩; replace H : (if 0 ≤ (ji5) then (if (ji5) ≤ (t202.length : Int) then (some (t202.take ((ji5) : Int).toNat)) else (none)) else (none)) = some r := by first | (rw [hji5] at H; exact H) | (simp only [hji5] at H ⊢; exact H)
 (try rw [hji5] at A3); (try rw [hji5] at A4); have hji5_ : (if a1 < (t202.length : Int) then a1 else (t202.length : Int)) = ji5 := hji5
 by_cases c6 : 0 ≤ (ji5)
 ·rw [if_pos c6] at H; have c6b0 := eq_true c6; have c6b1 : decide (0 ≤ (ji5)) = true := decide_eq_true c6; clear c6
  by_cases c7 : (ji5) ≤ (t202.length : Int)
  ·rw [if_pos c7] at H; have c7b0 := eq_true c7; have c7b1 : decide ((ji5) ≤ (t202.length : Int)) = true := decide_eq_true c7; clear c7; obtain ⟨y205, hy205⟩ : ∃ y_ : List Int, y_ = (t202.take ((ji5) : Int).toNat) := ⟨_, rfl⟩; replace H : (some y205) = some r := by first | (rw [hy205]; with_reducible exact H) | (have H2_ := (Option.bind_some _ _).symm.trans H; rw [hy205]; with_reducible exact H2_) | (have H2_ := (Option.bind_some _ _).symm.trans H; with_reducible exact H2_) | with_reducible exact H | (rw [hy205]; exact H) | exact H
   have Ny205 := Aside0.mk hy205; clear hy205; obtain rfl := Option.some.inj H; obtain ⟨Ao8, co8, eo8⟩ := Kd.R_slice HO0.out; subst eo8
   go_enter Try.func70, Try.ntmps70
   go_wp2_with (first | ((with_reducible refine gate_callee (f := 100) rfl ?_); refine goesL_ (some 6) rfl rfl Try.func100 (by kernel_rfl) rfl #[.slice Ao8 l0.length co8] rfl zz6 ?_; (with_reducible refine (slices_Sort_int64_int64.calls (fun k_ => some k_ = (.slice Ao8 l0.length co8 : Value).ownBlock) (.slice Ao8 l0.length co8) l0 t201 w0 _ ?side1 ?side2 A3.out).mono ?_); (case side1 => repeat (first | (with_reducible first | exact HB.out | apply below_alloc | apply pw_below_drewN | apply below_drew1) | exact HB.out)); (case side2 => exact Kd.R_tight rfl HO0.out); rintro e w9 ⟨rfl, hy0, hb, hkp⟩; refine ⟨_, rfl, ?_⟩; have n0_ := Aside0.mk (Kd.R_reok rfl hy0 (fun k_ e_ => HO0.out.1 k_ e_)); have n1_ := Aside0.mk (Kept.then_ (S := (fun k_ => P0_ k_)) zz43 hkp (fun k_ hs_ => (fun e_ => (HO0.out.1 k_ e_.symm)) hs_)); have n2_ := Aside0.mk (hb); clear HO0; clear HK; clear HB; have HO0 := n0_; have HK := n1_; have HB := n2_; clear n0_ n1_ n2_; (try clear hb); (try clear hkp); (try clear hy0)) | ((with_reducible refine gate_callee (f := 101) rfl ?_); refine goesL_ (some 8) rfl rfl Try.func101 (by kernel_rfl) rfl #[.slice Ao8 l0.length co8] rfl zz6 ?_; (with_reducible refine (slices_Compact_int64_int64.calls (fun k_ => some k_ = (.slice Ao8 l0.length co8 : Value).ownBlock) (.slice Ao8 l0.length co8) t201 t202 w0 _ ?side1 ?side2 A4.out).mono ?_); (case side1 => repeat (first | (with_reducible first | exact HB.out | apply below_alloc | apply pw_below_drewN | apply below_drew1) | exact HB.out)); (case side2 => exact Kd.R_tight rfl HO0.out); rintro e w10 ⟨v203, rfl, ho0, hb, hkp⟩; refine ⟨_, rfl, ?_⟩; have n0_ := Aside0.mk (Kd.R_mono (ok' := fun k_ => (P0_ k_ ∨ w.heap.size ≤ k_)) ho0 (fun k_ hk_ => Or.elim hk_ (fun hs_ => (HO0.out.1 k_ (hs_).symm)) (fun hn_ => (.inr (Nat.le_trans (by first | exact HK.out.1 | exact (show Kept w _ (fun k_ => P0_ k_) from by repeat (first | (with_reducible first | exact HK.out | apply Kept.alloc | apply Kept.drewN | apply Kept.drew) | exact HK.out)).1) hn_))))); have n1_ := Aside0.mk (Kept.then_ (S := (fun k_ => P0_ k_)) zz43 hkp (fun k_ hs_ => (fun e_ => (HO0.out.1 k_ e_.symm)) hs_)); have n2_ := Aside0.mk (hb); clear HK; clear HB; clear HO0; have HO100 := n0_; have HK := n1_; have HB := n2_; clear n0_ n1_ n2_; (try clear hb); (try clear hkp); (try clear ho0); obtain ⟨Ao11, co11, eo11⟩ := Kd.R_slice HO100.out; subst eo11; have q12 : ((ji5) : Int) ≤ ((t202.length : Int) : Int) := of_decide_eq_true zz14; obtain ⟨i012, hi012, _, hsz12, _⟩ := info_parts info2; have hcut12 := cut_to (P := Try.prog) 31 2 .i64 Try.underlying31 hi012 Ao11 t202.length co11 (ji5) (of_decide_eq_true zz14) q12 (Kd.R_reads' HO100.out).2.1; have hr12 := Kd.R_take (m := ((ji5) : Int).toNat) HO100.out (by omega); have hy12 : y205.length = ((ji5) : Int).toNat := (by rw [Ny205.out, List.length_take]; omega); rw [← Ny205.out] at hr12; rw [← hy12] at hr12 hcut12; clear hy12 hi012 hsz12 HO100; have HO101 := Aside0.mk hr12; clear hr12; replace q12 := eq_true q12))
   go_ret
   exact ⟨_, by first | rfl | (simp [errW_none, errW_some] <;> rfl) | (simp only [← hji5]; first | rfl | (simp [errW_none, errW_some] <;> rfl)) | (simp [*, errW_none, errW_some] <;> rfl), zz21, zz2, zz43⟩
  ·rw [if_neg c7] at H; exact absurd H (by simp)
 ·rw [if_neg c6] at H; exact absurd H (by simp)
end Go.Proofs.Ythicocmnefaioaa.QS

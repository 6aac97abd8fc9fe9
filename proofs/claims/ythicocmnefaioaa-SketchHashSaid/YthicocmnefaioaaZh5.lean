import Derived.Test.YthicocmnefaioaaZh4
namespace Go.Proofs.Ythicocmnefaioaa.QS
open Go.RowKit Go.Proofs.YthicocmnefaioaaW.PrintWords Go.Proofs.YthicocmnefaioaaW.PrintLast Go.Proofs.YthicocmnefaioaaW.PrintMore
open Go.Proofs.YthicocmnefaioaaW.Sq
attribute [local go_sem] max2_int min2_int max_two min_two max_three min_three max_four min_four
set_option linter.unusedVariables false
set_option linter.unusedSimpArgs false
attribute [local go_sem high] own_string_gtr
def erasurelaw12_SketchHash.f (k : Nat) (a0_0 : Int) (a0_1 : Int) (a0_2 : ByteArray) (a1 : Int) : Option (Bool) := if (a0_2.size : Int) > 200 then ((erasurelaw12_awake.f k).bind fun t947 => (some t947)) else ((sketch_Hash.f k a0_0 a0_1 a0_2 a1).bind fun t948 => ((erasureref12_Hash.f k a0_0 a0_1 a0_2 a1).bind fun t949 => (if t948 = t949 then ((sketch_Hash.f k a0_0 a0_1 a0_2 (Go.bits .and .i64 a1 7)).bind fun t950 => ((erasureref12_Hash.f k a0_0 a0_1 a0_2 (Go.bits .and .i64 a1 7)).bind fun t951 => (if t950 = t951 then ((erasurelaw12_awake.f k).bind fun t952 => (some t952)) else (some false)))) else (some false))))
def erasurelaw12_SketchHash.T3 : Bool × List (List Nat × List Nat) := (true, [([], []), ([], []), ([0, 1], [0, 1]), ([], []), ([], []), ([3, 4, 2], [3, 4]), ([2, 5], [2, 5]), ([6, 5], [6]), ([7], [7]), ([7], [7]), ([9, 7], [7, 9]), ([8, 10, 7, 7], [7, 8, 10]), ([7], [7]), ([7], [7]), ([13, 7], [7, 13]), ([12, 14, 11, 7], [7, 12, 14]), ([11, 15, 7], [7, 11, 15]), ([7, 16], [7, 16]), ([17, 15], [17]), ([18, 18], [18]), ([18, 19], [18, 19]), ([20, 19, 0, 1, 2, 3, 4, 5, 6, 7, 8, 9, 10, 11, 12, 13, 14, 15, 16, 17, 18, 19, 20], [20])])
def erasurelaw12_SketchHash.B3 : List Nat := [0, 0, 3, 0, 0, 31, 63, 127, 255, 255, 767, 2047, 255, 255, 8447, 32767, 65535, 131071, 262143, 524287, 1048575, 2097151]
theorem erasurelaw12_SketchHash.tab3 : rtab .any (opsOf Try.f3 3) = erasurelaw12_SketchHash.T3 := by kernel_rfl
theorem erasurelaw12_SketchHash.bits3 : waitsOk erasurelaw12_SketchHash.T3.2 erasurelaw12_SketchHash.B3 = true := by kernel_rfl
set_option maxHeartbeats 8000000 in
set_option maxRecDepth 100000 in
theorem erasurelaw12_SketchHash.calls (k : Nat) (a0_0 : Int) (a0_1 : Int) (a0_2 : ByteArray) (a1 : Int) (r : Bool) (w : World) (h : erasurelaw12_SketchHash.f k a0_0 a0_1 a0_2 a1 = some r) :
  Calls Try.prog 3 #[.agg #[.int .i64 a0_0, .int .i64 a0_1, .string a0_2], .int .i64 a1] w fun e w' => e = .returned (.bool r) ∧ Below w.heap.size w w' := by
 have hu23 := Try.underlying23; have HB := Aside0.mk (Below.refl w.heap.size w); have H : (if (a0_2.size : Int) > 200 then ((erasurelaw12_awake.f k).bind fun t947 => (some t947)) else ((sketch_Hash.f k a0_0 a0_1 a0_2 a1).bind fun t948 => ((erasureref12_Hash.f k a0_0 a0_1 a0_2 a1).bind fun t949 => (if t948 = t949 then ((sketch_Hash.f k a0_0 a0_1 a0_2 (Go.bits .and .i64 a1 7)).bind fun t950 => ((erasureref12_Hash.f k a0_0 a0_1 a0_2 (Go.bits .and .i64 a1 7)).bind fun t951 => (if t950 = t951 then ((erasurelaw12_awake.f k).bind fun t952 => (some t952)) else (some false)))) else (some false))))) = some r := h; clear h
 by_cases c3 : (a0_2.size : Int) > 200
 ·rw [if_pos c3] at H; have c3b0 : decide (200 < (a0_2.size : Int)) = true := decide_eq_true c3; have c3b1 : decide (200 < a0_2.size) = true := decide_eq_true (by omega); clear c3; replace H := Option.bind_eq_some_iff.mp H; obtain ⟨t947, A40, H⟩ := H; replace H : (some t947) = some r := H; have A4 := Aside0.mk A40; clear A40; obtain rfl := Option.some.inj H
  go_enter Try.func3, Try.ntmps3
  go_wp2_with (first | ((with_reducible refine gate_dst (N := 2) rfl ?_); refine box_event ?hg (N := 2) ?hd (cs := #[.int .i64 a0_0, .int .i64 a0_1, .string a0_2]) (t := 23) ?hr ?_; (case hd => rfl); (case hg => rfl); (case hr => first | (go_simp; done) | (go_simp; rfl)); intro gb100 hg w5 hbox hb; have n0_ := Aside0.mk (below_step zz2 hb); have n1_ := Aside0.mk (hbox); have n2_ := Aside0.mk ((zz3 : w.heap.size ≤ gb100)); have n3_ := Aside0.mk ((zz3 : w.heap.size ≤ gb100)); clear HB; have HB := n0_; have BK100 := n1_; have GW100 := n2_; have GE100 := n3_; clear n0_ n1_ n2_ n3_; clear hb hbox hg; have hcz6_0 : w5.cell? ⟨gb100, 0, none⟩ = some (.int .i64 a0_0) := cK BK100 0; have hcz6_1 : w5.cell? ⟨gb100, 1, none⟩ = some (.int .i64 a0_1) := cK BK100 1; have hcz6_2 : w5.cell? ⟨gb100, 2, none⟩ = some (.string a0_2) := cK BK100 2; have hfz6_0 := blk_frozen BK100.out 0; have hfz6_1 := blk_frozen BK100.out 1; have hfz6_2 := blk_frozen BK100.out 2) | ((with_reducible refine gate_callee (f := 14) rfl ?_); refine goesL_ (some 9) rfl rfl Try.func14 (by kernel_rfl) rfl #[] rfl zz6 ?_; (with_reducible refine (erasurelaw12_awake.calls k  t947 _ A4.out).mono ?_); rintro e w7 ⟨rfl, hb⟩; refine ⟨_, rfl, ?_⟩; have n0_ := Aside0.mk (blk_below (g := gb100) (o := .cells #[.int .i64 a0_0, .int .i64 a0_1, .string a0_2] 23 (0, 0)) zz7 hb); have n1_ := Aside0.mk (below_step zz5 hb); clear BK100; clear HB; have BK100 := n0_; have HB := n1_; clear n0_ n1_; (try clear hb); (try clear hb2); (try clear hk); (try clear hi)))
  go_ret
  exact ⟨zz4, zz5⟩
 ·rw [if_neg c3] at H; have c3b0 : decide (200 < (a0_2.size : Int)) = false := decide_eq_false c3; have c3b1 : decide (200 < a0_2.size) = false := decide_eq_false (by omega); clear c3; replace H := Option.bind_eq_some_iff.mp H; obtain ⟨t948, A80, H⟩ := H; replace H : ((erasureref12_Hash.f k a0_0 a0_1 a0_2 a1).bind fun t949 => (if t948 = t949 then ((sketch_Hash.f k a0_0 a0_1 a0_2 (Go.bits .and .i64 a1 7)).bind fun t950 => ((erasureref12_Hash.f k a0_0 a0_1 a0_2 (Go.bits .and .i64 a1 7)).bind fun t951 => (if t950 = t951 then ((erasurelaw12_awake.f k).bind fun t952 => (some t952)) else (some false)))) else (some false))) = some r := H; have A8 := Aside0.mk A80; clear A80; replace H := Option.bind_eq_some_iff.mp H; obtain ⟨t949, A90, H⟩ := H; replace H : (if t948 = t949 then ((sketch_Hash.f k a0_0 a0_1 a0_2 (Go.bits .and .i64 a1 7)).bind fun t950 => ((erasureref12_Hash.f k a0_0 a0_1 a0_2 (Go.bits .and .i64 a1 7)).bind fun t951 => (if t950 = t951 then ((erasurelaw12_awake.f k).bind fun t952 => (some t952)) else (some false)))) else (some false)) = some r := H; have A9 := Aside0.mk A90; clear A90
  by_cases c10 : t948 = t949
  ·rw [if_pos c10] at H; have c10b0 : (t948 == t949) = true := beq_iff_eq.mpr c10; have c10b1 : (t948 != t949) = false := bne_eq_false_iff_eq.mpr c10; clear c10; replace H := Option.bind_eq_some_iff.mp H; obtain ⟨t950, A110, H⟩ := H; replace H : ((erasureref12_Hash.f k a0_0 a0_1 a0_2 (Go.bits .and .i64 a1 7)).bind fun t951 => (if t950 = t951 then ((erasurelaw12_awake.f k).bind fun t952 => (some t952)) else (some false))) = some r := H; have A11 := Aside0.mk A110; clear A110; replace H := Option.bind_eq_some_iff.mp H; obtain ⟨t951, A120, H⟩ := H; replace H : (if t950 = t951 then ((erasurelaw12_awake.f k).bind fun t952 => (some t952)) else (some false)) = some r := H; have A12 := Aside0.mk A120; clear A120
   by_cases c13 : t950 = t951
   ·rw [if_pos c13] at H; have c13b0 : (t950 == t951) = true := beq_iff_eq.mpr c13; have c13b1 : (t950 != t951) = false := bne_eq_false_iff_eq.mpr c13; clear c13; replace H := Option.bind_eq_some_iff.mp H; obtain ⟨t952, A140, H⟩ := H; replace H : (some t952) = some r := H; have A14 := Aside0.mk A140; clear A140; obtain rfl := Option.some.inj H
    go_enter Try.func3, Try.ntmps3
    try go_wp2_with (first | ((with_reducible refine gate_dst (N := 2) rfl ?_); refine box_event ?hg (N := 2) ?hd (cs := #[.int .i64 a0_0, .int .i64 a0_1, .string a0_2]) (t := 23) ?hr ?_; (case hd => rfl); (case hg => rfl); (case hr => first | (go_simp; done) | (go_simp; rfl)); intro gb100 hg w15 hbox hb; have n0_ := Aside0.mk (below_step zz2 hb); have n1_ := Aside0.mk (hbox); have n2_ := Aside0.mk ((zz3 : w.heap.size ≤ gb100)); have n3_ := Aside0.mk ((zz3 : w.heap.size ≤ gb100)); clear HB; have HB := n0_; have BK100 := n1_; have GW100 := n2_; have GE100 := n3_; clear n0_ n1_ n2_ n3_; clear hb hbox hg; have hcz16_0 : w15.cell? ⟨gb100, 0, none⟩ = some (.int .i64 a0_0) := cK BK100 0; have hcz16_1 : w15.cell? ⟨gb100, 1, none⟩ = some (.int .i64 a0_1) := cK BK100 1; have hcz16_2 : w15.cell? ⟨gb100, 2, none⟩ = some (.string a0_2) := cK BK100 2; have hfz16_0 := blk_frozen BK100.out 0; have hfz16_1 := blk_frozen BK100.out 1; have hfz16_2 := blk_frozen BK100.out 2))
    have n0_ := Aside0.mk (blk_drew BK100.out); have n1_ := Aside0.mk (below_drew1 HB.out); clear BK100; clear HB; have BK100 := n0_; have HB := n1_; clear n0_ n1_; refine start_ (n := 22) (S := fun w' => w'.cell? ⟨gb100, 0, none⟩ = some (.int .i64 a0_0) ∧ w'.cell? ⟨gb100, 1, none⟩ = some (.int .i64 a0_1) ∧ w'.cell? ⟨gb100, 2, none⟩ = some (.string a0_2)) (ds := []) (.replicate 22 false) (by kernel_rfl) rfl rfl ⟨cK BK100 0, cK BK100 1, cK BK100 2⟩ (fun hHeld => ?_); refine with_tabW erasurelaw12_SketchHash.tab3 erasurelaw12_SketchHash.bits3 (fun HT_ HW_ => ?_); generalize w15.drew = w17 at BK100 HB hHeld ⊢; refine pV 1 11 (bA 22 2) HT_ ?_; refine pV 4 14 (bA 22 18) HT_ ?_; refine tV (v := ?_) 0 10 (bA 22 19) HT_ HW_ hHeld ?_ ?_; rotate_left
    ·rintro w' ⟨s0, s1, s2⟩
     go_simp
     (with_reducible rfl)
    refine tV (v := ?_) 3 13 (bA 22 27) HT_ HW_ hHeld ?_ ?_; rotate_left
    ·rintro w' ⟨s0, s1, s2⟩
     go_simp
     (with_reducible rfl)
    refine oN 2 12 (bA 22 31) HT_ (fun K hK => ?_); refine goes_ Try.func15 (by kernel_rfl) rfl #[.agg #[.int .i64 a0_0, .int .i64 a0_1, .string a0_2], .int .i64 a1] (by rfl) rfl rfl zz6 ?_; (with_reducible refine (sketch_Hash.calls k a0_0 a0_1 a0_2 a1 t948 _ A8.out).mono ?_); rintro e w18 ⟨rfl, hb⟩; refine ⟨_, rfl, ?_⟩; have n0_ := Aside0.mk (blk_below (g := gb100) (o := .cells #[.int .i64 a0_0, .int .i64 a0_1, .string a0_2] 23 (0, 0)) zz7 hb); have n1_ := Aside0.mk (below_step zz5 hb); clear BK100; clear HB; have BK100 := n0_; have HB := n1_; clear n0_ n1_; (try clear hb); (try clear hb2); (try clear hk); (try clear hi); refine hK.out _ _ ⟨cK BK100 0, cK BK100 1, cK BK100 2⟩ (fun hHeld => ?_); clear hK K; refine norm_ (a' := ?_) ?_ ?_; rotate_left
    ·show Act.put _ (some 12) _ = _
     simp only [Act.put, List.setIfInBounds_toArray, List.set_cons_zero, List.set_cons_succ, i64_w, i32_w]
     rfl
    refine oN 5 15 (bA 22 63) HT_ (fun K hK => ?_); refine goes_ Try.func16 (by kernel_rfl) rfl #[.agg #[.int .i64 a0_0, .int .i64 a0_1, .string a0_2], .int .i64 a1] (by rfl) rfl rfl zz6 ?_; (with_reducible refine (erasureref12_Hash.calls k a0_0 a0_1 a0_2 a1 t949 _ A9.out).mono ?_); rintro e w19 ⟨rfl, hb⟩; refine ⟨_, rfl, ?_⟩; have n0_ := Aside0.mk (blk_below (g := gb100) (o := .cells #[.int .i64 a0_0, .int .i64 a0_1, .string a0_2] 23 (0, 0)) zz7 hb); have n1_ := Aside0.mk (below_step zz5 hb); clear BK100; clear HB; have BK100 := n0_; have HB := n1_; clear n0_ n1_; (try clear hb); (try clear hb2); (try clear hk); (try clear hi); refine hK.out _ _ ⟨cK BK100 0, cK BK100 1, cK BK100 2⟩ (fun hHeld => ?_); clear hK K; refine norm_ (a' := ?_) ?_ ?_; rotate_left
    ·show Act.put _ (some 15) _ = _
     simp only [Act.put, List.setIfInBounds_toArray, List.set_cons_zero, List.set_cons_succ, i64_w, i32_w]
     rfl
    refine pV 6 16 (bA 22 127) HT_ ?_; refine pV 7 17 (bA 22 255) HT_ ?_; refine pV 9 19 (bA 22 767) HT_ ?_; refine pV 10 20 (bA 22 1791) HT_ ?_; refine pV 13 23 (bA 22 9983) HT_ ?_; refine pV 14 24 (bA 22 26367) HT_ ?_; refine tV (v := ?_) 8 18 (bA 22 26623) HT_ HW_ hHeld ?_ ?_; rotate_left
    ·rintro w' ⟨s0, s1, s2⟩
     go_simp
     (with_reducible rfl)
    refine tV (v := ?_) 12 22 (bA 22 30719) HT_ HW_ hHeld ?_ ?_; rotate_left
    ·rintro w' ⟨s0, s1, s2⟩
     go_simp
     (with_reducible rfl)
    refine oN 11 21 (bA 22 32767) HT_ (fun K hK => ?_); refine goes_ Try.func15 (by kernel_rfl) rfl #[.agg #[.int .i64 a0_0, .int .i64 a0_1, .string a0_2], .int .i64 (Go.bits .and .i64 a1 7)] (by rfl) rfl rfl zz6 ?_; (with_reducible refine (sketch_Hash.calls k a0_0 a0_1 a0_2 (Go.bits .and .i64 a1 7) t950 _ A11.out).mono ?_); rintro e w20 ⟨rfl, hb⟩; refine ⟨_, rfl, ?_⟩; have n0_ := Aside0.mk (blk_below (g := gb100) (o := .cells #[.int .i64 a0_0, .int .i64 a0_1, .string a0_2] 23 (0, 0)) zz7 hb); have n1_ := Aside0.mk (below_step zz5 hb); clear BK100; clear HB; have BK100 := n0_; have HB := n1_; clear n0_ n1_; (try clear hb); (try clear hb2); (try clear hk); (try clear hi); refine hK.out _ _ ⟨cK BK100 0, cK BK100 1, cK BK100 2⟩ (fun hHeld => ?_); clear hK K; refine norm_ (a' := ?_) ?_ ?_; rotate_left
    ·show Act.put _ (some 21) _ = _
     simp only [Act.put, List.setIfInBounds_toArray, List.set_cons_zero, List.set_cons_succ, i64_w, i32_w]
     rfl
    refine oN 15 25 (bA 22 65535) HT_ (fun K hK => ?_); refine goes_ Try.func16 (by kernel_rfl) rfl #[.agg #[.int .i64 a0_0, .int .i64 a0_1, .string a0_2], .int .i64 (Go.bits .and .i64 a1 7)] (by rfl) rfl rfl zz6 ?_; (with_reducible refine (erasureref12_Hash.calls k a0_0 a0_1 a0_2 (Go.bits .and .i64 a1 7) t951 _ A12.out).mono ?_); rintro e w21 ⟨rfl, hb⟩; refine ⟨_, rfl, ?_⟩; have n0_ := Aside0.mk (blk_below (g := gb100) (o := .cells #[.int .i64 a0_0, .int .i64 a0_1, .string a0_2] 23 (0, 0)) zz7 hb); have n1_ := Aside0.mk (below_step zz5 hb); clear BK100; clear HB; have BK100 := n0_; have HB := n1_; clear n0_ n1_; (try clear hb); (try clear hb2); (try clear hk); (try clear hi); refine hK.out _ _ ⟨cK BK100 0, cK BK100 1, cK BK100 2⟩ (fun hHeld => ?_); clear hK K; refine norm_ (a' := ?_) ?_ ?_; rotate_left
    ·show Act.put _ (some 25) _ = _
     simp only [Act.put, List.setIfInBounds_toArray, List.set_cons_zero, List.set_cons_succ, i64_w, i32_w]
     rfl
    refine pV 16 26 (bA 22 131071) HT_ ?_; refine pV 17 27 (bA 22 262143) HT_ ?_; refine pV 18 28 (bA 22 524287) HT_ ?_; refine oN 19 29 (bA 22 1048575) HT_ (fun K hK => ?_); refine goes_ Try.func14 (by kernel_rfl) rfl #[] (by rfl) rfl rfl zz6 ?_; (with_reducible refine (erasurelaw12_awake.calls k  t952 _ A14.out).mono ?_); rintro e w22 ⟨rfl, hb⟩; refine ⟨_, rfl, ?_⟩; have n0_ := Aside0.mk (blk_below (g := gb100) (o := .cells #[.int .i64 a0_0, .int .i64 a0_1, .string a0_2] 23 (0, 0)) zz7 hb); have n1_ := Aside0.mk (below_step zz5 hb); clear BK100; clear HB; have BK100 := n0_; have HB := n1_; clear n0_ n1_; (try clear hb); (try clear hb2); (try clear hk); (try clear hi); refine hK.out _ _ ⟨cK BK100 0, cK BK100 1, cK BK100 2⟩ (fun hHeld => ?_); clear hK K; refine norm_ (a' := ?_) ?_ ?_; rotate_left
    ·show Act.put _ (some 29) _ = _
     simp only [Act.put, List.setIfInBounds_toArray, List.set_cons_zero, List.set_cons_succ, i64_w, i32_w]
     rfl
    refine pV 20 30 (bA 22 2097151) HT_ ?_; refine pV 21 4 (bA 22 4194303) HT_ ?_; refine done_ (done_of HT_.out (by kernel_rfl)) ?_
    try go_wp2
    go_ret
    exact ⟨zz4, zz5⟩
   ·rw [if_neg c13] at H; have c13b0 : (t950 == t951) = false := beq_eq_false_iff_ne.mpr c13; have c13b1 : (t950 != t951) = true := bne_iff_ne.mpr c13; obtain rfl := Option.some.inj H
    go_enter Try.func3, Try.ntmps3
    try go_wp2_with (first | ((with_reducible refine gate_dst (N := 2) rfl ?_); refine box_event ?hg (N := 2) ?hd (cs := #[.int .i64 a0_0, .int .i64 a0_1, .string a0_2]) (t := 23) ?hr ?_; (case hd => rfl); (case hg => rfl); (case hr => first | (go_simp; done) | (go_simp; rfl)); intro gb100 hg w23 hbox hb; have n0_ := Aside0.mk (below_step zz2 hb); have n1_ := Aside0.mk (hbox); have n2_ := Aside0.mk ((zz3 : w.heap.size ≤ gb100)); have n3_ := Aside0.mk ((zz3 : w.heap.size ≤ gb100)); clear HB; have HB := n0_; have BK100 := n1_; have GW100 := n2_; have GE100 := n3_; clear n0_ n1_ n2_ n3_; clear hb hbox hg; have hcz24_0 : w23.cell? ⟨gb100, 0, none⟩ = some (.int .i64 a0_0) := cK BK100 0; have hcz24_1 : w23.cell? ⟨gb100, 1, none⟩ = some (.int .i64 a0_1) := cK BK100 1; have hcz24_2 : w23.cell? ⟨gb100, 2, none⟩ = some (.string a0_2) := cK BK100 2; have hfz24_0 := blk_frozen BK100.out 0; have hfz24_1 := blk_frozen BK100.out 1; have hfz24_2 := blk_frozen BK100.out 2))
    have n0_ := Aside0.mk (blk_drew BK100.out); have n1_ := Aside0.mk (below_drew1 HB.out); clear BK100; clear HB; have BK100 := n0_; have HB := n1_; clear n0_ n1_; refine start_ (n := 22) (S := fun w' => w'.cell? ⟨gb100, 0, none⟩ = some (.int .i64 a0_0) ∧ w'.cell? ⟨gb100, 1, none⟩ = some (.int .i64 a0_1) ∧ w'.cell? ⟨gb100, 2, none⟩ = some (.string a0_2)) (ds := []) (.replicate 22 false) (by kernel_rfl) rfl rfl ⟨cK BK100 0, cK BK100 1, cK BK100 2⟩ (fun hHeld => ?_); refine with_tabW erasurelaw12_SketchHash.tab3 erasurelaw12_SketchHash.bits3 (fun HT_ HW_ => ?_); generalize w23.drew = w25 at BK100 HB hHeld ⊢; refine pV 1 11 (bA 22 2) HT_ ?_; refine pV 4 14 (bA 22 18) HT_ ?_; refine tV (v := ?_) 0 10 (bA 22 19) HT_ HW_ hHeld ?_ ?_; rotate_left
    ·rintro w' ⟨s0, s1, s2⟩
     go_simp
     (with_reducible rfl)
    refine tV (v := ?_) 3 13 (bA 22 27) HT_ HW_ hHeld ?_ ?_; rotate_left
    ·rintro w' ⟨s0, s1, s2⟩
     go_simp
     (with_reducible rfl)
    refine oN 2 12 (bA 22 31) HT_ (fun K hK => ?_); refine goes_ Try.func15 (by kernel_rfl) rfl #[.agg #[.int .i64 a0_0, .int .i64 a0_1, .string a0_2], .int .i64 a1] (by rfl) rfl rfl zz6 ?_; (with_reducible refine (sketch_Hash.calls k a0_0 a0_1 a0_2 a1 t948 _ A8.out).mono ?_); rintro e w26 ⟨rfl, hb⟩; refine ⟨_, rfl, ?_⟩; have n0_ := Aside0.mk (blk_below (g := gb100) (o := .cells #[.int .i64 a0_0, .int .i64 a0_1, .string a0_2] 23 (0, 0)) zz7 hb); have n1_ := Aside0.mk (below_step zz5 hb); clear BK100; clear HB; have BK100 := n0_; have HB := n1_; clear n0_ n1_; (try clear hb); (try clear hb2); (try clear hk); (try clear hi); refine hK.out _ _ ⟨cK BK100 0, cK BK100 1, cK BK100 2⟩ (fun hHeld => ?_); clear hK K; refine norm_ (a' := ?_) ?_ ?_; rotate_left
    ·show Act.put _ (some 12) _ = _
     simp only [Act.put, List.setIfInBounds_toArray, List.set_cons_zero, List.set_cons_succ, i64_w, i32_w]
     rfl
    refine oN 5 15 (bA 22 63) HT_ (fun K hK => ?_); refine goes_ Try.func16 (by kernel_rfl) rfl #[.agg #[.int .i64 a0_0, .int .i64 a0_1, .string a0_2], .int .i64 a1] (by rfl) rfl rfl zz6 ?_; (with_reducible refine (erasureref12_Hash.calls k a0_0 a0_1 a0_2 a1 t949 _ A9.out).mono ?_); rintro e w27 ⟨rfl, hb⟩; refine ⟨_, rfl, ?_⟩; have n0_ := Aside0.mk (blk_below (g := gb100) (o := .cells #[.int .i64 a0_0, .int .i64 a0_1, .string a0_2] 23 (0, 0)) zz7 hb); have n1_ := Aside0.mk (below_step zz5 hb); clear BK100; clear HB; have BK100 := n0_; have HB := n1_; clear n0_ n1_; (try clear hb); (try clear hb2); (try clear hk); (try clear hi); refine hK.out _ _ ⟨cK BK100 0, cK BK100 1, cK BK100 2⟩ (fun hHeld => ?_); clear hK K; refine norm_ (a' := ?_) ?_ ?_; rotate_left
    ·show Act.put _ (some 15) _ = _
     simp only [Act.put, List.setIfInBounds_toArray, List.set_cons_zero, List.set_cons_succ, i64_w, i32_w]
     rfl
    refine pV 6 16 (bA 22 127) HT_ ?_; refine pV 7 17 (bA 22 255) HT_ ?_; refine pV 9 19 (bA 22 767) HT_ ?_; refine pV 10 20 (bA 22 1791) HT_ ?_; refine pV 13 23 (bA 22 9983) HT_ ?_; refine pV 14 24 (bA 22 26367) HT_ ?_; refine tV (v := ?_) 8 18 (bA 22 26623) HT_ HW_ hHeld ?_ ?_; rotate_left
    ·rintro w' ⟨s0, s1, s2⟩
     go_simp
     (with_reducible rfl)
    refine tV (v := ?_) 12 22 (bA 22 30719) HT_ HW_ hHeld ?_ ?_; rotate_left
    ·rintro w' ⟨s0, s1, s2⟩
     go_simp
     (with_reducible rfl)
    refine oN 11 21 (bA 22 32767) HT_ (fun K hK => ?_); refine goes_ Try.func15 (by kernel_rfl) rfl #[.agg #[.int .i64 a0_0, .int .i64 a0_1, .string a0_2], .int .i64 (Go.bits .and .i64 a1 7)] (by rfl) rfl rfl zz6 ?_; (with_reducible refine (sketch_Hash.calls k a0_0 a0_1 a0_2 (Go.bits .and .i64 a1 7) t950 _ A11.out).mono ?_); rintro e w28 ⟨rfl, hb⟩; refine ⟨_, rfl, ?_⟩; have n0_ := Aside0.mk (blk_below (g := gb100) (o := .cells #[.int .i64 a0_0, .int .i64 a0_1, .string a0_2] 23 (0, 0)) zz7 hb); have n1_ := Aside0.mk (below_step zz5 hb); clear BK100; clear HB; have BK100 := n0_; have HB := n1_; clear n0_ n1_; (try clear hb); (try clear hb2); (try clear hk); (try clear hi); refine hK.out _ _ ⟨cK BK100 0, cK BK100 1, cK BK100 2⟩ (fun hHeld => ?_); clear hK K; refine norm_ (a' := ?_) ?_ ?_; rotate_left
    ·show Act.put _ (some 21) _ = _
     simp only [Act.put, List.setIfInBounds_toArray, List.set_cons_zero, List.set_cons_succ, i64_w, i32_w]
     rfl
    refine oN 15 25 (bA 22 65535) HT_ (fun K hK => ?_); refine goes_ Try.func16 (by kernel_rfl) rfl #[.agg #[.int .i64 a0_0, .int .i64 a0_1, .string a0_2], .int .i64 (Go.bits .and .i64 a1 7)] (by rfl) rfl rfl zz6 ?_; (with_reducible refine (erasureref12_Hash.calls k a0_0 a0_1 a0_2 (Go.bits .and .i64 a1 7) t951 _ A12.out).mono ?_); rintro e w29 ⟨rfl, hb⟩; refine ⟨_, rfl, ?_⟩; have n0_ := Aside0.mk (blk_below (g := gb100) (o := .cells #[.int .i64 a0_0, .int .i64 a0_1, .string a0_2] 23 (0, 0)) zz7 hb); have n1_ := Aside0.mk (below_step zz5 hb); clear BK100; clear HB; have BK100 := n0_; have HB := n1_; clear n0_ n1_; (try clear hb); (try clear hb2); (try clear hk); (try clear hi); refine hK.out _ _ ⟨cK BK100 0, cK BK100 1, cK BK100 2⟩ (fun hHeld => ?_); clear hK K; refine norm_ (a' := ?_) ?_ ?_; rotate_left
    ·show Act.put _ (some 25) _ = _
     simp only [Act.put, List.setIfInBounds_toArray, List.set_cons_zero, List.set_cons_succ, i64_w, i32_w]
     rfl
    refine pV 16 26 (bA 22 131071) HT_ ?_; refine pV 17 27 (bA 22 262143) HT_ ?_; refine pV 18 28 (bA 22 524287) HT_ ?_; refine pU 19 29 (bA 22 1048575) HT_ ?_; refine pV 20 30 (bA 22 2097151) HT_ ?_; refine pV 21 4 (bA 22 4194303) HT_ ?_; refine done_ (done_of HT_.out (by kernel_rfl)) ?_
    try go_wp2
    go_ret
    exact ⟨zz4, zz5⟩
  ·rw [if_neg c10] at H; have c10b0 : (t948 == t949) = false := beq_eq_false_iff_ne.mpr c10; have c10b1 : (t948 != t949) = true := bne_iff_ne.mpr c10; obtain rfl := Option.some.inj H
   go_enter Try.func3, Try.ntmps3
   try go_wp2_with (first | ((with_reducible refine gate_dst (N := 2) rfl ?_); refine box_event ?hg (N := 2) ?hd (cs := #[.int .i64 a0_0, .int .i64 a0_1, .string a0_2]) (t := 23) ?hr ?_; (case hd => rfl); (case hg => rfl); (case hr => first | (go_simp; done) | (go_simp; rfl)); intro gb100 hg w30 hbox hb; have n0_ := Aside0.mk (below_step zz2 hb); have n1_ := Aside0.mk (hbox); have n2_ := Aside0.mk ((zz3 : w.heap.size ≤ gb100)); have n3_ := Aside0.mk ((zz3 : w.heap.size ≤ gb100)); clear HB; have HB := n0_; have BK100 := n1_; have GW100 := n2_; have GE100 := n3_; clear n0_ n1_ n2_ n3_; clear hb hbox hg; have hcz31_0 : w30.cell? ⟨gb100, 0, none⟩ = some (.int .i64 a0_0) := cK BK100 0; have hcz31_1 : w30.cell? ⟨gb100, 1, none⟩ = some (.int .i64 a0_1) := cK BK100 1; have hcz31_2 : w30.cell? ⟨gb100, 2, none⟩ = some (.string a0_2) := cK BK100 2; have hfz31_0 := blk_frozen BK100.out 0; have hfz31_1 := blk_frozen BK100.out 1; have hfz31_2 := blk_frozen BK100.out 2))
   have n0_ := Aside0.mk (blk_drew BK100.out); have n1_ := Aside0.mk (below_drew1 HB.out); clear BK100; clear HB; have BK100 := n0_; have HB := n1_; clear n0_ n1_; refine start_ (n := 22) (S := fun w' => w'.cell? ⟨gb100, 0, none⟩ = some (.int .i64 a0_0) ∧ w'.cell? ⟨gb100, 1, none⟩ = some (.int .i64 a0_1) ∧ w'.cell? ⟨gb100, 2, none⟩ = some (.string a0_2)) (ds := []) (.replicate 22 false) (by kernel_rfl) rfl rfl ⟨cK BK100 0, cK BK100 1, cK BK100 2⟩ (fun hHeld => ?_); refine with_tabW erasurelaw12_SketchHash.tab3 erasurelaw12_SketchHash.bits3 (fun HT_ HW_ => ?_); generalize w30.drew = w32 at BK100 HB hHeld ⊢; refine pV 1 11 (bA 22 2) HT_ ?_; refine pV 4 14 (bA 22 18) HT_ ?_; refine tV (v := ?_) 0 10 (bA 22 19) HT_ HW_ hHeld ?_ ?_; rotate_left
   ·rintro w' ⟨s0, s1, s2⟩
    go_simp
    (with_reducible rfl)
   refine tV (v := ?_) 3 13 (bA 22 27) HT_ HW_ hHeld ?_ ?_; rotate_left
   ·rintro w' ⟨s0, s1, s2⟩
    go_simp
    (with_reducible rfl)
   refine oN 2 12 (bA 22 31) HT_ (fun K hK => ?_); refine goes_ Try.func15 (by kernel_rfl) rfl #[.agg #[.int .i64 a0_0, .int .i64 a0_1, .string a0_2], .int .i64 a1] (by rfl) rfl rfl zz6 ?_; (with_reducible refine (sketch_Hash.calls k a0_0 a0_1 a0_2 a1 t948 _ A8.out).mono ?_); rintro e w33 ⟨rfl, hb⟩; refine ⟨_, rfl, ?_⟩; have n0_ := Aside0.mk (blk_below (g := gb100) (o := .cells #[.int .i64 a0_0, .int .i64 a0_1, .string a0_2] 23 (0, 0)) zz7 hb); have n1_ := Aside0.mk (below_step zz5 hb); clear BK100; clear HB; have BK100 := n0_; have HB := n1_; clear n0_ n1_; (try clear hb); (try clear hb2); (try clear hk); (try clear hi); refine hK.out _ _ ⟨cK BK100 0, cK BK100 1, cK BK100 2⟩ (fun hHeld => ?_); clear hK K; refine norm_ (a' := ?_) ?_ ?_; rotate_left
   ·show Act.put _ (some 12) _ = _
    simp only [Act.put, List.setIfInBounds_toArray, List.set_cons_zero, List.set_cons_succ, i64_w, i32_w]
    rfl
   refine oN 5 15 (bA 22 63) HT_ (fun K hK => ?_); refine goes_ Try.func16 (by kernel_rfl) rfl #[.agg #[.int .i64 a0_0, .int .i64 a0_1, .string a0_2], .int .i64 a1] (by rfl) rfl rfl zz6 ?_; (with_reducible refine (erasureref12_Hash.calls k a0_0 a0_1 a0_2 a1 t949 _ A9.out).mono ?_); rintro e w34 ⟨rfl, hb⟩; refine ⟨_, rfl, ?_⟩; have n0_ := Aside0.mk (blk_below (g := gb100) (o := .cells #[.int .i64 a0_0, .int .i64 a0_1, .string a0_2] 23 (0, 0)) zz7 hb); have n1_ := Aside0.mk (below_step zz5 hb); clear BK100; clear HB; have BK100 := n0_; have HB := n1_; clear n0_ n1_; (try clear hb); (try clear hb2); (try clear hk); (try clear hi); refine hK.out _ _ ⟨cK BK100 0, cK BK100 1, cK BK100 2⟩ (fun hHeld => ?_); clear hK K; refine norm_ (a' := ?_) ?_ ?_; rotate_left
   ·show Act.put _ (some 15) _ = _
    simp only [Act.put, List.setIfInBounds_toArray, List.set_cons_zero, List.set_cons_succ, i64_w, i32_w]
    rfl
   refine pV 6 16 (bA 22 127) HT_ ?_; refine pV 7 17 (bA 22 255) HT_ ?_; refine pU 8 18 (bA 22 511) HT_ ?_; refine pU 9 19 (bA 22 1023) HT_ ?_; refine pU 10 20 (bA 22 2047) HT_ ?_; refine pU 11 21 (bA 22 4095) HT_ ?_; refine pU 12 22 (bA 22 8191) HT_ ?_; refine pU 13 23 (bA 22 16383) HT_ ?_; refine pU 14 24 (bA 22 32767) HT_ ?_; refine pU 15 25 (bA 22 65535) HT_ ?_; refine pU 16 26 (bA 22 131071) HT_ ?_; refine pV 17 27 (bA 22 262143) HT_ ?_; refine pV 18 28 (bA 22 524287) HT_ ?_; refine pU 19 29 (bA 22 1048575) HT_ ?_; refine pV 20 30 (bA 22 2097151) HT_ ?_; refine pV 21 4 (bA 22 4194303) HT_ ?_; refine done_ (done_of HT_.out (by kernel_rfl)) ?_
   try go_wp2
   go_ret
   exact ⟨zz4, zz5⟩
end Go.Proofs.Ythicocmnefaioaa.QS

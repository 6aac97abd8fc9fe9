import Derived.Test.YthicocmnefaioaaZf5
namespace Go.Proofs.Ythicocmnefaioaa.QS
open Go.RowKit Go.Proofs.YthicocmnefaioaaW.PrintWords Go.Proofs.YthicocmnefaioaaW.PrintLast Go.Proofs.YthicocmnefaioaaW.PrintMore
open Go.Proofs.YthicocmnefaioaaW.Sq
attribute [local go_sem] max2_int min2_int max_two min_two max_three min_three max_four min_four
set_option linter.unusedVariables false
set_option linter.unusedSimpArgs false
attribute [local go_sem high] own_string_gtr
mutual
def erasurelaw00_Tape_Entries.l0 : Nat → Int → List (S51) → Int → List Int → Int → Option ((List (S51)) × Int)
 | 0, _, _, _, _, _ => none
 | k + 1, x1, x7, x8, x1000, x1001 => if x8 > 0 then (erasurelaw00_Tape_Entries.l1 k x1 x7 x8 ([] : List (S23)) 0 x1000 x1001) else (some (x7, x1001))
def erasurelaw00_Tape_Entries.l1 : Nat → Int → List (S51) → Int → List (S23) → Int → List Int → Int → Option ((List (S51)) × Int)
 | 0, _, _, _, _, _, _, _ => none
 | k + 1, x1, x7, x8, x9, x10, x1000, x1001 => if x10 < x1 then ((erasurelaw00_Tape_short.f k x1000 x1001).bind fun bt346 => (if x9.length < 4398046511104 then (erasurelaw00_Tape_Entries.l1 k x1 x7 x8 (x9 ++ [(⟨bt346.1, bt346.2.1, bt346.2.2.1⟩ : S23)]) (wrap64 (x10 + 1)) x1000 bt346.2.2.2) else (none))) else ((some (([1, 1, 1, 2, (-1), 3, (-2), 0] : List Int) : List Int)).bind fun y353 => ((erasurelaw00_Tape_Next.f k x1000 x1001 8).bind fun bt356 => (if 0 ≤ bt356.1 then (if bt356.1 < (y353.length : Int) then (if x7.length < 4398046511104 then (erasurelaw00_Tape_Entries.l0 k x1 (x7 ++ [(⟨x9, rd y353 bt356.1⟩ : S51)]) (wrap64 (x8 - 1)) x1000 bt356.2) else (none)) else (none)) else (none))))
end
def erasurelaw00_Tape_Entries.f (k : Nat) (s0_0 : List Int) (s0_1 : Int) (a1 : Int) (a2 : Int) : Option ((List (S51)) × Int) := (erasurelaw00_Tape_Next.f k s0_0 s0_1 (wrap64 (a2 + 1))).bind fun bt344 => (erasurelaw00_Tape_Entries.l0 k a1 ([] : List (S51)) bt344.1 s0_0 bt344.2)
set_option maxHeartbeats 8000000 in
set_option maxRecDepth 100000 in
theorem erasurelaw00_Tape_Entries.calls (k : Nat) (g : Nat) (s0_0 : List Int) (s0_1 : Int) (a1 : Int) (a2 : Int) (r1 : List (S51)) (r2 : Int) (w0 w : World) (hI : IsS74 w0 w g s0_0 s0_1) (hB : Below w0.heap.size w0 w) (h : erasurelaw00_Tape_Entries.f k s0_0 s0_1 a1 a2 = some (r1, r2)) :
  Calls Try.prog 53 #[.pointer (some ⟨g, 0, none⟩), .int .i64 a1, .int .i64 a2] w fun e w' => ∃ v0_ : Value, e = .returned (v0_) ∧ Kd.S k51 51 w' w.heap.size (fun _ => True) v0_ r1 ∧ IsS74 w0 w' g s0_0 r2 ∧ Below w0.heap.size w0 w' ∧ KeepBut w w' g none := by
 have hu51 := Try.underlying51; have HI0 := Aside0.mk hI; have HK := Aside0.mk (KeepBut.refl w g none); have HL := Aside0.mk hB.size; clear hI; have HW0 := Aside0.mk hB.size; have HB := Aside0.mk hB; clear hB; have H : ((erasurelaw00_Tape_Next.f k s0_0 s0_1 (wrap64 (a2 + 1))).bind fun bt344 => (erasurelaw00_Tape_Entries.l0 k a1 ([] : List (S51)) bt344.1 s0_0 bt344.2)) = some (r1, r2) := h; clear h; replace H := Option.bind_eq_some_iff.mp H; obtain ⟨⟨t344, t345⟩, A40, H⟩ := H; replace H : (erasurelaw00_Tape_Entries.l0 k a1 ([] : List (S51)) t344 s0_0 t345) = some (r1, r2) := H; have A4 := Aside0.mk A40; clear A40; have H' := Aside0.mk H; clear H
 go_enter Try.func53, Try.ntmps53
 go_wp2_with (first | ((with_reducible refine gate_callee (f := 33) rfl ?_); refine goesL_ (some 14) rfl rfl Try.func33 (by kernel_rfl) rfl #[.pointer (some ⟨g, 0, none⟩), .int .i64 (wrap64 (a2 + 1))] rfl zz8 ?_; (with_reducible refine (erasurelaw00_Tape_Next.calls k g s0_0 s0_1 (wrap64 (a2 + 1)) t344 t345 w0 _ ?side1 ?side2 A4.out).mono ?_); (case side1 => repeat (first | (with_reducible first | exact HI0.out | apply IsS74.alloc | apply IsS74.drewN | apply IsS74.drew | apply IsS74.set_1) | exact HI0.out)); (case side2 => repeat (first | (with_reducible first | exact HB.out | apply below_alloc | apply pw_below_drewN | apply below_drew1 | refine below_set ?_ (IsS74.ge HI0.out)) | exact HB.out)); rintro e w5 ⟨rfl, hi, hb, hk⟩; refine ⟨_, rfl, ?_⟩; have n0_ := Aside0.mk (KeepBut.trans zz59 hk (.inl rfl)); have n1_ := Aside0.mk (hb); have n2_ := Aside0.mk (hi); clear HK; clear HB; clear HI0; have HK := n0_; have HB := n1_; have HI0 := n2_; clear n0_ n1_ n2_; (try clear hb); (try clear hb2); (try clear hk); (try clear hi)))
 go_loopg [7, 8] k (fun kq v7 v8 w' => ∃ (x7_1 : List (S51)) (x8_1 : Int) (x1001_1 : Int), v8 = .int .i64 x8_1 ∧ Aside0 (erasurelaw00_Tape_Entries.l0 kq a1 x7_1 x8_1 s0_0 x1001_1 = some (r1, r2)) ∧ Aside0 (kq ≤ k) ∧ Aside0 (Kd.S k51 51 w' w.heap.size (fun _ => True) v7 x7_1) ∧ Aside0 (IsS74 w0 w' g s0_0 x1001_1) ∧ Aside0 (KeepBut w w' g none) ∧ Aside0 (Below w0.heap.size w0 w'))
 case atStart => exact ⟨(([] : List (S51))), (t344), (t345), zz2, H', ⟨Nat.le_refl _⟩, ⟨zz78⟩, ⟨zz58⟩, ⟨zz59⟩, ⟨zz60⟩⟩
 case round =>
  clear H'; (try clear p2); (try clear c3); (try clear c5); obtain ⟨x7_1, x8_1, x1001_1, rfl, HA, HK1, HO_7, HI0, HK, HB⟩ := hrel
  cases gk with
  | zero => exact absurd HA.out (by simp [erasurelaw00_Tape_Entries.l0])
  | succ k1 =>
   have H := HA.out; clear HA; simp only [erasurelaw00_Tape_Entries.l0] at H
   by_cases c6 : x8_1 > 0
   ·rw [if_pos c6] at H; have c6b0 : decide (0 < x8_1) = true := decide_eq_true c6; clear c6; have H' := Aside0.mk H; clear H
    go_wp2
    go_loopg [9, 10] k1 (fun kq v9 v10 w' => ∃ (x9_2 : List (S23)) (x10_2 : Int) (x1001_2 : Int), v10 = .int .i64 x10_2 ∧ Aside0 (erasurelaw00_Tape_Entries.l1 kq a1 x7_1 x8_1 x9_2 x10_2 s0_0 x1001_2 = some (r1, r2)) ∧ Aside0 (kq ≤ k1) ∧ Aside0 (Kd.S k51 51 w' w.heap.size (fun k_ => some k_ ≠ (v9 : Value).ownBlock) u7 x7_1) ∧ Aside0 (Kd.R k23 23 w' w.heap.size (fun _ => True) v9 x9_2) ∧ Aside0 (IsS74 w0 w' g s0_0 x1001_2) ∧ Aside0 (KeepBut w w' g none) ∧ Aside0 (Below w0.heap.size w0 w'))
    case atStart => exact ⟨(([] : List (S23))), (0), (x1001_1), zz2, H', ⟨Nat.le_refl _⟩, ⟨by (with_reducible repeat (first | apply Kd.S_alloc | apply Kd.S_drewN | apply Kd.S_drew)); exact Kd.S_mono HO_7.out (fun _ hk => (by simp [Value.ownBlock]))⟩, ⟨zz23⟩, ⟨zz58⟩, ⟨zz59⟩, ⟨zz60⟩⟩
    case round =>
     clear H'; (try clear p2); (try clear c3); (try clear c5); (try clear c6); (try clear c6b0); (try clear p6); (try clear p2); obtain ⟨x9_2, x10_2, x1001_2, rfl, HA, HK2, HO_7, HO_9, HI0, HK, HB⟩ := hrel
     cases gk with
     | zero => exact absurd HA.out (by simp [erasurelaw00_Tape_Entries.l1])
     | succ k2 =>
      have H := HA.out; clear HA; simp only [erasurelaw00_Tape_Entries.l1] at H
      by_cases c7 : x10_2 < a1
      ·rw [if_pos c7] at H; have c7b0 : decide (x10_2 < a1) = true := decide_eq_true c7; clear c7; replace H := Option.bind_eq_some_iff.mp H; obtain ⟨⟨t346, t347, t348, t349⟩, A80, H⟩ := H; replace H : (if x9_2.length < 4398046511104 then (erasurelaw00_Tape_Entries.l1 k2 a1 x7_1 x8_1 (x9_2 ++ [(⟨t346, t347, t348⟩ : S23)]) (wrap64 (x10_2 + 1)) s0_0 t349) else (none)) = some (r1, r2) := H; have A8 := Aside0.mk A80; clear A80
       by_cases c9 : x9_2.length < 4398046511104
       ·rw [if_pos c9] at H; have LMc9 := Aside0.mk c9; clear c9; obtain ⟨y350, hy350⟩ : ∃ y_ : List (S23), y_ = (x9_2 ++ [(⟨t346, t347, t348⟩ : S23)]) := ⟨_, rfl⟩; replace H : (erasurelaw00_Tape_Entries.l1 k2 a1 x7_1 x8_1 y350 (wrap64 (x10_2 + 1)) s0_0 t349) = some (r1, r2) := by first | (rw [hy350]; with_reducible exact H) | (have H2_ := (Option.bind_some _ _).symm.trans H; rw [hy350]; with_reducible exact H2_) | (have H2_ := (Option.bind_some _ _).symm.trans H; with_reducible exact H2_) | with_reducible exact H | (rw [hy350]; exact H) | exact H
        have Ny350 := Aside0.mk hy350; clear hy350; have H' := Aside0.mk H; clear H
        go_wp2_with (first | ((with_reducible refine gate_callee (f := 78) rfl ?_); refine goesL_ (some 26) rfl rfl Try.func78 (by kernel_rfl) rfl #[.pointer (some ⟨g, 0, none⟩)] rfl zz8 ?_; (with_reducible refine (erasurelaw00_Tape_short.calls k2 g s0_0 x1001_2 t346 t347 t348 t349 w0 _ ?side1 ?side2 A8.out).mono ?_); (case side1 => repeat (first | (with_reducible first | exact HI0.out | apply IsS74.alloc | apply IsS74.drewN | apply IsS74.drew | apply IsS74.set_1) | exact HI0.out)); (case side2 => repeat (first | (with_reducible first | exact HB.out | apply below_alloc | apply pw_below_drewN | apply below_drew1 | refine below_set ?_ (IsS74.ge HI0.out)) | exact HB.out)); rintro e w10 ⟨rfl, hi, hb, hk⟩; refine ⟨_, rfl, ?_⟩; have n0_ := Aside0.mk (Kd.S_mono (Kd.S_keep (IsS74.apartS (show IsS74 w0 _ g s0_0 x1001_2 from by repeat (first | (with_reducible first | exact HI0.out | apply IsS74.alloc | apply IsS74.drewN | apply IsS74.drew | apply IsS74.set_1) | exact HI0.out)) zz79 (by decide)) hk (fun _ h => h.2)) (fun _ h => h.1)); have n1_ := Aside0.mk (Kd.R_mono (Kd.R_keep (IsS74.apart (show IsS74 w0 _ g s0_0 x1001_2 from by repeat (first | (with_reducible first | exact HI0.out | apply IsS74.alloc | apply IsS74.drewN | apply IsS74.drew | apply IsS74.set_1) | exact HI0.out)) zz80 (by decide)) hk (fun _ h => h.2)) (fun _ h => h.1)); have n2_ := Aside0.mk (KeepBut.trans zz59 hk (.inl rfl)); have n3_ := Aside0.mk (hb); have n4_ := Aside0.mk (hi); clear HO_7; clear HO_9; clear HK; clear HB; clear HI0; have HO_7 := n0_; have HO_9 := n1_; have HK := n2_; have HB := n3_; have HI0 := n4_; clear n0_ n1_ n2_ n3_ n4_; (try clear hb); (try clear hb2); (try clear hk); (try clear hi)) | ((with_reducible refine gate_builtin (b := .append) (xs := #[.tmp 24, .tmp 27]) rfl ?_); at_builtin; refine Kd.R_append k23 w.heap.size rfl (.tmp 24) (.tmp 27) 49 23 (.agg #[(.int .i64 0), (.int .i64 0), (.string ⟨#[]⟩)]) 32 rfl Try.underlying49 info23 rfl (by decide) (by omega) u9 x9_2 (⟨t346, t347, t348⟩ : S23) [.int .i64 t346, .int .i64 t347, .string t348] (fun _ => True) (fun _ => False) rfl rfl ?aP (fun _ hk => hk.elim) ?aF ?aO (Below.refl _ _) ?aS ?aL ?_; (case aP => exact k23_mkM _ _ _ (⟨t346, t347, t348⟩ : S23)); (case aF => exact (fun _ _ => trivial)); (case aO => exact zz80); (case aS => exact (keep_size (w := w) (g := g) (row := none) zz59)); (case aL => have := LMc9.out; omega); intro v351 w11 ho hb hg hat; rw [← Ny350.out] at ho; have n0_ := Aside0.mk (Kd.S_after (ok := (fun _ => True)) (by (with_reducible repeat (first | apply Kd.S_alloc | apply Kd.S_drewN | apply Kd.S_drew)); exact Kd.S_mono HO_7.out (fun _ hk => ⟨trivial, hk⟩)) hg hat); have n1_ := Aside0.mk (IsS74.grown zz58 hg (IsS74.own_ne HI0.out HO_9.out (by decide))); have n2_ := Aside0.mk (below_weaken zz60 HL.out hb); have n3_ := Aside0.mk (KeepBut.trans zz59 (KeepBut.of_grown hg g) (Kd.R_base2 HO_9.out)); have n4_ := Aside0.mk (ho); clear HO_7; clear HI0; clear HB; clear HK; clear HO_9; have HO_7 := n0_; have HI0 := n1_; have HB := n2_; have HK := n3_; have HO100 := n4_; clear n0_ n1_ n2_ n3_ n4_; clear ho hb hg hat))
        go_roundg k2
        case measure => have := HK1.out; have := HK2.out; omega
        case rel => exact ⟨(y350), (wrap64 (x10_2 + 1)), (t349), zz2, H', ⟨zz31⟩, ⟨by (with_reducible repeat (first | apply Kd.S_alloc | apply Kd.S_drewN | apply Kd.S_drew)); exact Kd.S_mono HO_7.out (fun _ hk => hk.2)⟩, ⟨by (with_reducible repeat (first | apply Kd.R_alloc | apply Kd.R_drewN | apply Kd.R_drew)); exact HO100.out⟩, ⟨zz58⟩, ⟨zz59⟩, ⟨zz60⟩⟩
       ·rw [if_neg c9] at H; exact absurd H (by simp)
      ·rw [if_neg c7] at H; have c7b0 : decide (x10_2 < a1) = false := decide_eq_false c7; clear c7; obtain ⟨y353, hy353⟩ : ∃ y_ : List Int, y_ = (([1, 1, 1, 2, (-1), 3, (-2), 0] : List Int)) := ⟨_, rfl⟩; replace H : ((erasurelaw00_Tape_Next.f k2 s0_0 x1001_2 8).bind fun bt356 => (if 0 ≤ bt356.1 then (if bt356.1 < (y353.length : Int) then (if x7_1.length < 4398046511104 then (erasurelaw00_Tape_Entries.l0 k2 a1 (x7_1 ++ [(⟨x9_2, rd y353 bt356.1⟩ : S51)]) (wrap64 (x8_1 - 1)) s0_0 bt356.2) else (none)) else (none)) else (none))) = some (r1, r2) := by first | (rw [hy353]; with_reducible exact H) | (have H2_ := (Option.bind_some _ _).symm.trans H; rw [hy353]; with_reducible exact H2_) | (have H2_ := (Option.bind_some _ _).symm.trans H; with_reducible exact H2_) | with_reducible exact H | (rw [hy353]; exact H) | exact H
       have Ny353 := Aside0.mk hy353; clear hy353; replace H := Option.bind_eq_some_iff.mp H; obtain ⟨⟨t356, t357⟩, A120, H⟩ := H; replace H : (if 0 ≤ t356 then (if t356 < (y353.length : Int) then (if x7_1.length < 4398046511104 then (erasurelaw00_Tape_Entries.l0 k2 a1 (x7_1 ++ [(⟨x9_2, rd y353 t356⟩ : S51)]) (wrap64 (x8_1 - 1)) s0_0 t357) else (none)) else (none)) else (none)) = some (r1, r2) := H; have A12 := Aside0.mk A120; clear A120
       by_cases c13 : 0 ≤ t356
       ·rw [if_pos c13] at H; have c13b0 : decide (0 ≤ t356) = true := decide_eq_true c13; clear c13
        by_cases c14 : t356 < (y353.length : Int)
        ·rw [if_pos c14] at H; have c14b0 : decide (t356 < (y353.length : Int)) = true := decide_eq_true c14; clear c14
         by_cases c15 : x7_1.length < 4398046511104
         ·rw [if_pos c15] at H; have LMc15 := Aside0.mk c15; clear c15; obtain ⟨y359, hy359⟩ : ∃ y_ : List (S51), y_ = (x7_1 ++ [(⟨x9_2, rd y353 t356⟩ : S51)]) := ⟨_, rfl⟩; replace H : (erasurelaw00_Tape_Entries.l0 k2 a1 y359 (wrap64 (x8_1 - 1)) s0_0 t357) = some (r1, r2) := by first | (rw [hy359]; with_reducible exact H) | (have H2_ := (Option.bind_some _ _).symm.trans H; rw [hy359]; with_reducible exact H2_) | (have H2_ := (Option.bind_some _ _).symm.trans H; with_reducible exact H2_) | with_reducible exact H | (rw [hy359]; exact H) | exact H
          have Ny359 := Aside0.mk hy359; clear hy359; have H' := Aside0.mk H; clear H
          go_wp2_with (first | ((with_reducible refine gate_dst (N := 31) rfl ?_); refine Kd.R_lit (Kd.int .i64) _ 3 ?hg (N := 31) ?hd (xs := ([1, 1, 1, 2, (-1), 3, (-2), 0] : List Int)) (inner := [.int .i64 1, .int .i64 1, .int .i64 1, .int .i64 2, .int .i64 (-1), .int .i64 3, .int .i64 (-2), .int .i64 0]) (ok := fun _ => True) (okp := fun _ => True) ?hr ?hp (fun _ hk => hk) trivial (Below.refl _ _) (Nat.le_refl _) (by simp) ?_; (case hd => rfl); (case hg => rfl); (case hr => first | (go_simp; done) | (go_simp; rfl)); (case hp => exact (Reps.one (show Kd.M (Kd.int .i64) _ _ _ 1 [.int .i64 1] from rfl) (Reps.one (show Kd.M (Kd.int .i64) _ _ _ 1 [.int .i64 1] from rfl) (Reps.one (show Kd.M (Kd.int .i64) _ _ _ 1 [.int .i64 1] from rfl) (Reps.one (show Kd.M (Kd.int .i64) _ _ _ 2 [.int .i64 2] from rfl) (Reps.one (show Kd.M (Kd.int .i64) _ _ _ (-1) [.int .i64 (-1)] from rfl) (Reps.one (show Kd.M (Kd.int .i64) _ _ _ 3 [.int .i64 3] from rfl) (Reps.one (show Kd.M (Kd.int .i64) _ _ _ (-2) [.int .i64 (-2)] from rfl) (Reps.one (show Kd.M (Kd.int .i64) _ _ _ 0 [.int .i64 0] from rfl) (Reps.none _ _)))))))))); intro v354 w16 ho17 hb hg_ hnew_; clear hg_ hnew_; (first | rw [← Ny353.out] at ho17 | (simp only [Int.reduceToNat] at ho17; rw [← Ny353.out] at ho17)); have n0_ := Aside0.mk (Kd.S_below zz79 hb); have n1_ := Aside0.mk (Kd.R_below zz80 hb); have n2_ := Aside0.mk (Kd.R_lower ho17 (keep_size (w := w) (g := g) (row := none) zz59)); have n3_ := Aside0.mk (IsS74.below zz58 hb); have n4_ := Aside0.mk (KeepBut.trans zz59 (KeepBut.of_below hb g none) (.inl rfl)); have n5_ := Aside0.mk (below_step zz60 hb); clear HO_7; clear HO_9; clear HI0; clear HK; clear HB; have HO_7 := n0_; have HO_9 := n1_; have HO101 := n2_; have HI0 := n3_; have HK := n4_; have HB := n5_; clear n0_ n1_ n2_ n3_ n4_ n5_; clear hb ho17) | ((with_reducible refine gate_callee (f := 33) rfl ?_); refine goesL_ (some 33) rfl rfl Try.func33 (by kernel_rfl) rfl #[.pointer (some ⟨g, 0, none⟩), .int .i64 8] rfl zz8 ?_; (with_reducible refine (erasurelaw00_Tape_Next.calls k2 g s0_0 x1001_2 8 t356 t357 w0 _ ?side1 ?side2 A12.out).mono ?_); (case side1 => repeat (first | (with_reducible first | exact HI0.out | apply IsS74.alloc | apply IsS74.drewN | apply IsS74.drew | apply IsS74.set_1) | exact HI0.out)); (case side2 => repeat (first | (with_reducible first | exact HB.out | apply below_alloc | apply pw_below_drewN | apply below_drew1 | refine below_set ?_ (IsS74.ge HI0.out)) | exact HB.out)); rintro e w18 ⟨rfl, hi, hb, hk⟩; refine ⟨_, rfl, ?_⟩; have n0_ := Aside0.mk (Kd.S_mono (Kd.S_keep (IsS74.apartS (show IsS74 w0 _ g s0_0 x1001_2 from by repeat (first | (with_reducible first | exact HI0.out | apply IsS74.alloc | apply IsS74.drewN | apply IsS74.drew | apply IsS74.set_1) | exact HI0.out)) zz79 (by decide)) hk (fun _ h => h.2)) (fun _ h => h.1)); have n1_ := Aside0.mk (Kd.R_mono (Kd.R_keep (IsS74.apart (show IsS74 w0 _ g s0_0 x1001_2 from by repeat (first | (with_reducible first | exact HI0.out | apply IsS74.alloc | apply IsS74.drewN | apply IsS74.drew | apply IsS74.set_1) | exact HI0.out)) zz80 (by decide)) hk (fun _ h => h.2)) (fun _ h => h.1)); have n2_ := Aside0.mk (Kd.R_mono (Kd.R_keep (IsS74.apart (show IsS74 w0 _ g s0_0 x1001_2 from by repeat (first | (with_reducible first | exact HI0.out | apply IsS74.alloc | apply IsS74.drewN | apply IsS74.drew | apply IsS74.set_1) | exact HI0.out)) zz24 (by decide)) hk (fun _ h => h.2)) (fun _ h => h.1)); have n3_ := Aside0.mk (KeepBut.trans zz59 hk (.inl rfl)); have n4_ := Aside0.mk (hb); have n5_ := Aside0.mk (hi); clear HO_7; clear HO_9; clear HO101; clear HK; clear HB; clear HI0; have HO_7 := n0_; have HO_9 := n1_; have HO101 := n2_; have HK := n3_; have HB := n4_; have HI0 := n5_; clear n0_ n1_ n2_ n3_ n4_ n5_; (try clear hb); (try clear hb2); (try clear hk); (try clear hi); obtain ⟨Ao19, co19, eo19⟩ := Kd.R_slice HO101.out; subst eo19; have p358 : 0 ≤ (t356 : Int) := of_decide_eq_true zz9; have q358 : t356 < (y353.length : Int) := of_decide_eq_true zz9; obtain ⟨ad358, e358, hx358_0⟩ := Kd.at_int (Kd.R_reads' HO101.out).2.2 t356 p358 q358; cases e358; replace p358 := eq_true p358; replace q358 := eq_true q358; obtain ⟨Ao20, co20, eo20⟩ := Kd.R_slice HO_9.out; subst eo20) | ((with_reducible refine gate_builtin (b := .append) (xs := #[.tmp 29, .tmp 37]) rfl ?_); at_builtin; refine Kd.S_append k51 w.heap.size rfl (.tmp 29) (.tmp 37) 38 51 (.agg #[(.slice none 0 0), (.int .i64 0)]) 32 rfl Try.underlying38 info51 rfl (by decide) (by omega) u7 x7_1 (⟨x9_2, rd y353 t356⟩ : S51) [.slice Ao20 x9_2.length co20, .int .i64 (rd y353 t356)] (fun _ => True) (fun k_ => some k_ = (.slice Ao20 x9_2.length co20 : Value).ownBlock) rfl rfl ?aP (fun k_ hk_ => ((Kd.R_mono (ok' := fun k_ => ((fun _ => True)) k_ ∧ some k_ ≠ (u7 : Value).ownBlock) (Kd.R_apart' (HO_9.out) (Kd.S_typed HO_7.out) (by decide)) (fun k_ hk => ⟨trivial, hk.2⟩))).1 k_ hk_.symm) ?aF ?aO (Below.refl _ _) ?aS ?aL ?_; (case aP => exact k51_mkM _ _ _ (⟨x9_2, rd y353 t356⟩ : S51) (Kd.R_mono (Kd.R_tight rfl (Kd.R_mono (ok' := fun k_ => ((fun _ => True)) k_ ∧ some k_ ≠ (u7 : Value).ownBlock) (Kd.R_apart' (HO_9.out) (Kd.S_typed HO_7.out) (by decide)) (fun k_ hk => ⟨trivial, hk.2⟩))) (fun _ h_ => h_))); (case aF => exact (fun _ _ => trivial)); (case aO => exact (by (with_reducible repeat (first | apply Kd.S_alloc | apply Kd.S_drewN | apply Kd.S_drew)); exact Kd.S_mono HO_7.out (fun k_ hk => ⟨trivial, fun e_ => hk e_⟩))); (case aS => exact (keep_size (w := w) (g := g) (row := none) zz59)); (case aL => have := LMc15.out; omega); intro v360 w21 ho hb hg hat; rw [← Ny359.out] at ho; have n0_ := Aside0.mk (IsS74.grown zz58 hg (IsS74.own_neS HI0.out HO_7.out (by decide))); have n1_ := Aside0.mk (Kd.R_over' zz24 (Kd.S_typed zz79) (by decide) hg); have n2_ := Aside0.mk (below_weaken zz60 HL.out hb); have n3_ := Aside0.mk (KeepBut.trans zz59 (KeepBut.of_grown hg g) (Kd.S_base2 HO_7.out)); have n4_ := Aside0.mk (ho); clear HI0; clear HO101; clear HB; clear HK; clear HO_7; clear HO_9; have HI0 := n0_; have HO101 := n1_; have HB := n2_; have HK := n3_; have HO102 := n4_; clear n0_ n1_ n2_ n3_ n4_; clear ho hb hg hat))
          go_roundg k2
          case measure => have := HK1.out; have := HK2.out; omega
          case rel => exact ⟨(y359), (wrap64 (x8_1 - 1)), (t357), zz2, H', ⟨zz31⟩, ⟨by (with_reducible repeat (first | apply Kd.S_alloc | apply Kd.S_drewN | apply Kd.S_drew)); exact HO102.out⟩, ⟨zz58⟩, ⟨zz59⟩, ⟨zz60⟩⟩
         ·rw [if_neg c15] at H; exact absurd H (by simp)
        ·rw [if_neg c14] at H; exact absurd H (by simp)
       ·rw [if_neg c13] at H; exact absurd H (by simp)
   ·rw [if_neg c6] at H; have c6b0 : decide (0 < x8_1) = false := decide_eq_false c6; clear c6; simp only [Option.some.injEq, Prod.mk.injEq] at H; obtain ⟨rfl, rfl⟩ := H
    go_wp2
    go_ret
    exact ⟨_, zz6, zz79, zz58, zz60, zz59⟩
def erasureref06_countOK.f (a0 : Int) : Option (Bool) := if a0 ≥ (-262144) then (some (decide (a0 ≤ 262144))) else (some false)
set_option maxHeartbeats 8000000 in
set_option maxRecDepth 100000 in
theorem erasureref06_countOK.calls (a0 : Int) (r : Bool) (w : World) (h : erasureref06_countOK.f a0 = some r) :
  Calls Try.prog 89 #[.int .i64 a0] w fun e w' => e = .returned (.bool r) ∧ Drawn0 w w' := by
 have H : (if a0 ≥ (-262144) then (some (decide (a0 ≤ 262144))) else (some false)) = some r := h; clear h
 by_cases c2 : a0 ≥ (-262144)
 ·rw [if_pos c2] at H; have c2b0 : decide ((-262144) ≤ a0) = true := decide_eq_true c2; clear c2; obtain rfl := Option.some.inj H
  go_enter Try.func89, Try.ntmps89
  go_wp2
  go_ret
  exact ⟨zz2, zz7⟩
 ·rw [if_neg c2] at H; have c2b0 : decide ((-262144) ≤ a0) = false := decide_eq_false c2; clear c2; obtain rfl := Option.some.inj H
  go_enter Try.func89, Try.ntmps89
  go_wp2
  go_ret
  exact ⟨zz2, zz7⟩
def erasureref06_fits.l0 : Nat → List (S51) → Int → Option ((List (S51)) × Int)
 | 0, _, _ => none
 | k + 1, x0, x4 => if x4 < (x0.length : Int) then (if 0 ≤ x4 then ((erasureref06_countOK.f ((rd_T51 x0 x4).f1)).bind fun t363 => (if t363 = true then (erasureref06_fits.l0 k x0 (wrap64 (x4 + 1))) else (some (([] : List (S51)), 9)))) else (none)) else (some (x0, 0))
def erasureref06_fits.f (k : Nat) (l0 : List (S51)) : Option ((List (S51)) × Int) := if (l0.length : Int) > 4096 then (some (([] : List (S51)), 8)) else (erasureref06_fits.l0 k l0 0)
set_option maxHeartbeats 8000000 in
set_option maxRecDepth 100000 in
theorem erasureref06_fits.calls (k : Nat) (P0_ : Nat → Prop) (A0 : Option Addr) (c0 : Nat) (l0 : List (S51)) (r1 : List (S51)) (r2 : Int) (w : World) (hs0 : Kd.V k51 51 w w.heap.size (fun k_ => P0_ k_) (.slice A0 l0.length c0) l0) (h : erasureref06_fits.f k l0 = some (r1, r2)) :
  Calls Try.prog 60 #[.slice A0 l0.length c0] w fun e w' => ∃ v0_ : Value, e = .returned (.tuple #[v0_, .int .i64 r2]) ∧ Kd.V k51 51 w' w.heap.size (fun k_ => (P0_ k_ ∨ w.heap.size ≤ k_)) v0_ r1 ∧ Below w.heap.size w w' := by
 have HO0 := Aside0.mk (show Kd.V k51 51 w w.heap.size (fun k_ => (P0_ k_ ∨ w.heap.size ≤ k_)) (.slice A0 l0.length c0) l0 from Kd.V_mono hs0 (fun k_ hk => .inl hk)); have HB := Aside0.mk (Below.refl w.heap.size w); have H : (if (l0.length : Int) > 4096 then (some (([] : List (S51)), 8)) else (erasureref06_fits.l0 k l0 0)) = some (r1, r2) := h; clear h
 by_cases c2 : (l0.length : Int) > 4096
 ·rw [if_pos c2] at H; have c2b0 : decide (4096 < (l0.length : Int)) = true := decide_eq_true c2; have c2b1 : decide (4096 < l0.length) = true := decide_eq_true (by omega); clear c2; simp only [Option.some.injEq, Prod.mk.injEq] at H; obtain ⟨rfl, rfl⟩ := H
  go_enter Try.func60, Try.ntmps60
  go_wp2
  go_ret2
  exact ⟨_, zz6, (Kd.V_nil _ _ _ _ _), zz0⟩
 ·rw [if_neg c2] at H; have c2b0 : decide (4096 < (l0.length : Int)) = false := decide_eq_false c2; have c2b1 : decide (4096 < l0.length) = false := decide_eq_false (by omega); clear c2; have H' := Aside0.mk H; clear H
  go_enter Try.func60, Try.ntmps60
  go_wp2
  go_loopg [4] k (fun kq v4 w' => ∃ (x4_1 : Int), v4 = .int .i64 x4_1 ∧ Aside0 (erasureref06_fits.l0 kq l0 x4_1 = some (r1, r2)) ∧ Aside0 (kq ≤ k) ∧ Aside0 (Kd.V k51 51 w' w.heap.size (fun k_ => (P0_ k_ ∨ w.heap.size ≤ k_)) (.slice A0 l0.length c0) l0) ∧ Aside0 (Below w.heap.size w w'))
  case atStart => exact ⟨(0), zz2, H', ⟨Nat.le_refl _⟩, ⟨zz81⟩, ⟨zz0⟩⟩
  case round =>
   clear H'; (try clear c2); (try clear c2b0); (try clear c2b1); (try clear p2); obtain ⟨x4_1, rfl, HA, HK1, HO_0, HB⟩ := hrel
   cases gk with
   | zero => exact absurd HA.out (by simp [erasureref06_fits.l0])
   | succ k1 =>
    have H := HA.out; clear HA; simp only [erasureref06_fits.l0] at H
    by_cases c3 : x4_1 < (l0.length : Int)
    ·rw [if_pos c3] at H; have c3b0 : decide (x4_1 < (l0.length : Int)) = true := decide_eq_true c3; clear c3
     by_cases c4 : 0 ≤ x4_1
     ·rw [if_pos c4] at H; have c4b0 : decide (0 ≤ x4_1) = true := decide_eq_true c4; clear c4; replace H := Option.bind_eq_some_iff.mp H; obtain ⟨t363, A50, H⟩ := H; replace H : (if t363 = true then (erasureref06_fits.l0 k1 l0 (wrap64 (x4_1 + 1))) else (some (([] : List (S51)), 9))) = some (r1, r2) := H; have A5 := Aside0.mk A50; clear A50
      by_cases c6 : t363 = true
      ·subst c6; have H1 : (erasureref06_fits.l0 k1 l0 (wrap64 (x4_1 + 1))) = some (r1, r2) := by rw [if_pos rfl] at H; exact H
       clear H; have H := H1; clear H1; have H' := Aside0.mk H; clear H; have p362 : 0 ≤ (x4_1 : Int) := of_decide_eq_true zz9; have q362 : x4_1 < (l0.length : Int) := of_decide_eq_true zz9; obtain ⟨ad362, A362_0, c362_0, e362, hx362_0, hx362_1, hl362_0, hi362_0⟩ := at_T51 (Kd.V_reads' HO_0.out).2.2 x4_1 p362 q362
       cases e362
       obtain ⟨ce362, hce362, hMe362, hcc362⟩ := Kd.V_get HO_0.out z51 x4_1 p362 (by first | exact q362 | exact of_decide_eq_true zz9 | (have e_ := (Kd.V_reads' HO_0.out).1; omega)); obtain ⟨ua362_0, uc362_0, rfl, ul362_0, ge362_0⟩ := k51_openF hMe362; have hv362_0 := hcc362 0 _ rfl; rw [Nat.add_zero] at hv362_0; replace hv362_0 := Option.some.inj (hv362_0.symm.trans hx362_0); injection hv362_0 with hva_ hvn_ hvc_; rw [hva_] at ge362_0; rw [hvc_] at ul362_0; have HL362_0 := Aside0.mk (show Kd.V k23 23 _ w.heap.size _ _ ((rd_T51 l0 x4_1).f0) from Kd.V_mk ul362_0 ge362_0); clear hva_ hvn_ hvc_ ge362_0 ul362_0; clear hcc362 hce362; have HR100_0 := Aside0.mk hi362_0; have HC100_0 := Aside0.mk hl362_0; clear hi362_0 hl362_0; replace p362 := eq_true p362; replace q362 := eq_true q362
       go_wp2_with (first | ((with_reducible refine gate_callee (f := 89) rfl ?_); refine goesL_ (some 19) rfl rfl Try.func89 (by kernel_rfl) rfl #[.int .i64 ((rd_T51 l0 x4_1).f1)] rfl zz8 ?_; (with_reducible refine (erasureref06_countOK.calls ((rd_T51 l0 x4_1).f1) true _ A5.out).mono ?_); rintro e w' ⟨rfl, ⟨nd, rfl⟩⟩; refine ⟨_, rfl, ?_⟩))
       go_roundg k1
       case measure => have := HK1.out; omega
       case rel => exact ⟨(wrap64 (x4_1 + 1)), zz2, H', ⟨by have := HK1.out; omega⟩, ⟨zz82⟩, ⟨zz0⟩⟩
      ·replace c6 := Bool.eq_false_iff.mpr c6; subst c6; have H1 : (some (([] : List (S51)), 9)) = some (r1, r2) := by rw [if_neg (show ¬ (false = true) by decide)] at H; exact H
       clear H; have H := H1; clear H1; simp only [Option.some.injEq, Prod.mk.injEq] at H; obtain ⟨rfl, rfl⟩ := H; have p362 : 0 ≤ (x4_1 : Int) := of_decide_eq_true zz9; have q362 : x4_1 < (l0.length : Int) := of_decide_eq_true zz9; obtain ⟨ad362, A362_0, c362_0, e362, hx362_0, hx362_1, hl362_0, hi362_0⟩ := at_T51 (Kd.V_reads' HO_0.out).2.2 x4_1 p362 q362
       cases e362
       obtain ⟨ce362, hce362, hMe362, hcc362⟩ := Kd.V_get HO_0.out z51 x4_1 p362 (by first | exact q362 | exact of_decide_eq_true zz9 | (have e_ := (Kd.V_reads' HO_0.out).1; omega)); obtain ⟨ua362_0, uc362_0, rfl, ul362_0, ge362_0⟩ := k51_openF hMe362; have hv362_0 := hcc362 0 _ rfl; rw [Nat.add_zero] at hv362_0; replace hv362_0 := Option.some.inj (hv362_0.symm.trans hx362_0); injection hv362_0 with hva_ hvn_ hvc_; rw [hva_] at ge362_0; rw [hvc_] at ul362_0; have HL362_0 := Aside0.mk (show Kd.V k23 23 _ w.heap.size _ _ ((rd_T51 l0 x4_1).f0) from Kd.V_mk ul362_0 ge362_0); clear hva_ hvn_ hvc_ ge362_0 ul362_0; clear hcc362 hce362; have HR100_0 := Aside0.mk hi362_0; have HC100_0 := Aside0.mk hl362_0; clear hi362_0 hl362_0; replace p362 := eq_true p362; replace q362 := eq_true q362
       go_wp2_with (first | ((with_reducible refine gate_callee (f := 89) rfl ?_); refine goesL_ (some 19) rfl rfl Try.func89 (by kernel_rfl) rfl #[.int .i64 ((rd_T51 l0 x4_1).f1)] rfl zz8 ?_; (with_reducible refine (erasureref06_countOK.calls ((rd_T51 l0 x4_1).f1) false _ A5.out).mono ?_); rintro e w' ⟨rfl, ⟨nd, rfl⟩⟩; refine ⟨_, rfl, ?_⟩))
       go_ret2
       exact ⟨_, zz6, (Kd.V_nil _ _ _ _ _), zz0⟩
     ·rw [if_neg c4] at H; exact absurd H (by simp)
    ·rw [if_neg c3] at H; have c3b0 : decide (x4_1 < (l0.length : Int)) = false := decide_eq_false c3; clear c3; simp only [Option.some.injEq, Prod.mk.injEq] at H; obtain ⟨rfl, rfl⟩ := H
     go_wp2
     go_ret2
     exact ⟨_, zz6, zz82, zz0⟩
def erasureref01_ValidRow.l0 : Nat → List (S23) → Int → Option (Bool)
 | 0, _, _ => none
 | k + 1, x0, x3 => if x3 < (x0.length : Int) then (if 0 ≤ x3 then ((erasureref01_Valid.f ((rd_T23 x0 x3).f0) ((rd_T23 x0 x3).f1) ((rd_T23 x0 x3).f2)).bind fun t365 => (if t365 = true then (erasureref01_ValidRow.l0 k x0 (wrap64 (x3 + 1))) else (some false))) else (none)) else (some true)
def erasureref01_ValidRow.f (k : Nat) (l0 : List (S23)) : Option (Bool) := if (l0.length : Int) > 16 then (some false) else (erasureref01_ValidRow.l0 k l0 0)
theorem erasureref01_ValidRow.mono_l : ∀ k, (∀ y0 y1, LeO (erasureref01_ValidRow.l0 k y0 y1) (erasureref01_ValidRow.l0 (k + 1) y0 y1))
 | 0 => fun _ _ r h => by simp [erasureref01_ValidRow.l0] at h
 | k + 1 => by
  have ih0 := erasureref01_ValidRow.mono_l k
  ·intro y0 y1; unfold erasureref01_ValidRow.l0
   repeat' first
   | (with_reducible exact ih0 _ _)
   | (with_reducible exact LeO.refl _)
   | (with_reducible exact LeO.none _)
   | (with_reducible refine LeO.ite ?_ ?_)
   | (with_reducible refine LeO.bind ?_ (fun _ => ?_))
   | exact ih0 _ _
   | exact LeO.none _
   | refine LeO.ite ?_ ?_
   | refine LeO.bind ?_ (fun _ => ?_)
theorem erasureref01_ValidRow.mono : ∀ a0 k, LeO (erasureref01_ValidRow.f k a0) (erasureref01_ValidRow.f (k + 1) a0) := by
 intro a0 k; have ih0 := erasureref01_ValidRow.mono_l k; unfold erasureref01_ValidRow.f
 repeat' first
   | (with_reducible exact ih0 _ _)
   | (with_reducible exact LeO.refl _)
   | (with_reducible exact LeO.none _)
   | (with_reducible refine LeO.ite ?_ ?_)
   | (with_reducible refine LeO.bind ?_ (fun _ => ?_))
   | exact ih0 _ _
   | exact LeO.none _
   | refine LeO.ite ?_ ?_
   | refine LeO.bind ?_ (fun _ => ?_)
set_option maxHeartbeats 8000000 in
set_option maxRecDepth 100000 in
theorem erasureref01_ValidRow.calls (k : Nat) (A0 : Option Addr) (c0 : Nat) (l0 : List (S23)) (r : Bool) (w : World) (hr0 : Kd.C k23 w A0 l0.length l0) (hc0 : l0.length ≤ c0) (h : erasureref01_ValidRow.f k l0 = some r) :
  Calls Try.prog 88 #[.slice A0 l0.length c0] w fun e w' => e = .returned (.bool r) ∧ Below w.heap.size w w' := by
 have hu23 := Try.underlying23; have HR0 := Aside0.mk hr0; have HC0 := Aside0.mk hc0; clear hr0 hc0; have HB := Aside0.mk (Below.refl w.heap.size w); have H : (if (l0.length : Int) > 16 then (some false) else (erasureref01_ValidRow.l0 k l0 0)) = some r := h; clear h
 by_cases c2 : (l0.length : Int) > 16
 ·rw [if_pos c2] at H; have c2b0 : decide (16 < (l0.length : Int)) = true := decide_eq_true c2; have c2b1 : decide (16 < l0.length) = true := decide_eq_true (by omega); clear c2; obtain rfl := Option.some.inj H
  go_enter Try.func88, Try.ntmps88
  go_wp2
  go_ret
  exact ⟨zz6, zz0⟩
 ·rw [if_neg c2] at H; have c2b0 : decide (16 < (l0.length : Int)) = false := decide_eq_false c2; have c2b1 : decide (16 < l0.length) = false := decide_eq_false (by omega); clear c2; have H' := Aside0.mk H; clear H
  go_enter Try.func88, Try.ntmps88
  go_wp2
  go_loopg [3] k (fun kq v3 w' => ∃ (x3_1 : Int), v3 = .int .i64 x3_1 ∧ Aside0 (erasureref01_ValidRow.l0 kq l0 x3_1 = some r) ∧ Aside0 (kq ≤ k) ∧ Aside0 (Below w.heap.size w w'))
  case atStart => exact ⟨(0), zz2, H', ⟨Nat.le_refl _⟩, ⟨zz0⟩⟩
  case round =>
   clear H'; (try clear c2); (try clear c2b0); (try clear c2b1); (try clear p2); obtain ⟨x3_1, rfl, HA, HK1, HB⟩ := hrel
   cases gk with
   | zero => exact absurd HA.out (by simp [erasureref01_ValidRow.l0])
   | succ k1 =>
    have H := HA.out; clear HA; simp only [erasureref01_ValidRow.l0] at H
    by_cases c3 : x3_1 < (l0.length : Int)
    ·rw [if_pos c3] at H; have c3b0 : decide (x3_1 < (l0.length : Int)) = true := decide_eq_true c3; clear c3
     by_cases c4 : 0 ≤ x3_1
     ·rw [if_pos c4] at H; have c4b0 : decide (0 ≤ x3_1) = true := decide_eq_true c4; clear c4; replace H := Option.bind_eq_some_iff.mp H; obtain ⟨t365, A50, H⟩ := H; replace H : (if t365 = true then (erasureref01_ValidRow.l0 k1 l0 (wrap64 (x3_1 + 1))) else (some false)) = some r := H; have A5 := Aside0.mk A50; clear A50
      by_cases c6 : t365 = true
      ·subst c6; have H1 : (erasureref01_ValidRow.l0 k1 l0 (wrap64 (x3_1 + 1))) = some r := by rw [if_pos rfl] at H; exact H
       clear H; have H := H1; clear H1; have H' := Aside0.mk H; clear H; have p364 : 0 ≤ (x3_1 : Int) := of_decide_eq_true zz9; have q364 : x3_1 < (l0.length : Int) := of_decide_eq_true zz9; obtain ⟨ad364, e364, hx364_0, hx364_1, hx364_2⟩ := at_T23 HR0.out x3_1 p364 q364
       cases e364
       replace hx364_0 := cB HB hx364_0; replace hx364_1 := cB HB hx364_1; replace hx364_2 := cB HB hx364_2; replace p364 := eq_true p364; replace q364 := eq_true q364
       go_wp2_with (first | ((with_reducible refine gate_callee (f := 111) rfl ?_); refine goesL_ (some 17) rfl rfl Try.func111 (by kernel_rfl) rfl #[.agg #[.int .i64 ((rd_T23 l0 x3_1).f0), .int .i64 ((rd_T23 l0 x3_1).f1), .string ((rd_T23 l0 x3_1).f2)]] rfl zz8 ?_; (with_reducible refine (erasureref01_Valid.calls ((rd_T23 l0 x3_1).f0) ((rd_T23 l0 x3_1).f1) ((rd_T23 l0 x3_1).f2) true _ A5.out).mono ?_); rintro e w7 ⟨rfl, hb⟩; refine ⟨_, rfl, ?_⟩; have n0_ := Aside0.mk (below_step zz0 hb); clear HB; have HB := n0_; clear n0_; (try clear hb); (try clear hb2); (try clear hk); (try clear hi)))
       go_roundg k1
       case measure => have := HK1.out; omega
       case rel => exact ⟨(wrap64 (x3_1 + 1)), zz2, H', ⟨by have := HK1.out; omega⟩, ⟨zz0⟩⟩
      ·replace c6 := Bool.eq_false_iff.mpr c6; subst c6; have H1 : (some false) = some r := by rw [if_neg (show ¬ (false = true) by decide)] at H; exact H
       clear H; have H := H1; clear H1; obtain rfl := Option.some.inj H; have p364 : 0 ≤ (x3_1 : Int) := of_decide_eq_true zz9; have q364 : x3_1 < (l0.length : Int) := of_decide_eq_true zz9; obtain ⟨ad364, e364, hx364_0, hx364_1, hx364_2⟩ := at_T23 HR0.out x3_1 p364 q364
       cases e364
       replace hx364_0 := cB HB hx364_0; replace hx364_1 := cB HB hx364_1; replace hx364_2 := cB HB hx364_2; replace p364 := eq_true p364; replace q364 := eq_true q364
       go_wp2_with (first | ((with_reducible refine gate_callee (f := 111) rfl ?_); refine goesL_ (some 17) rfl rfl Try.func111 (by kernel_rfl) rfl #[.agg #[.int .i64 ((rd_T23 l0 x3_1).f0), .int .i64 ((rd_T23 l0 x3_1).f1), .string ((rd_T23 l0 x3_1).f2)]] rfl zz8 ?_; (with_reducible refine (erasureref01_Valid.calls ((rd_T23 l0 x3_1).f0) ((rd_T23 l0 x3_1).f1) ((rd_T23 l0 x3_1).f2) false _ A5.out).mono ?_); rintro e w8 ⟨rfl, hb⟩; refine ⟨_, rfl, ?_⟩; have n0_ := Aside0.mk (below_step zz0 hb); clear HB; have HB := n0_; clear n0_; (try clear hb); (try clear hb2); (try clear hk); (try clear hi)))
       go_ret
       exact ⟨zz6, zz0⟩
     ·rw [if_neg c4] at H; exact absurd H (by simp)
    ·rw [if_neg c3] at H; have c3b0 : decide (x3_1 < (l0.length : Int)) = false := decide_eq_false c3; clear c3; obtain rfl := Option.some.inj H
     go_wp2
     go_ret
     exact ⟨zz6, zz0⟩
theorem eqA23 (d : Nat) (w : World) (x0 y0 : Int) (x1 y1 : Int) (x2 y2 : ByteArray) :
  (Op.equalIn (d + 2) 23 (.agg #[.int .i64 x0, .int .i64 x1, .string x2]) (.agg #[.int .i64 y0, .int .i64 y1, .string y2])).run Try.prog w = .ok (x0 == y0 && (x1 == y1 && (x2.toList == y2.toList))) w := by
 refine eqA_of Try.underlying23 (by kernel_rfl) ?_; refine eqf_cons (by rfl) (by go_simp; rfl) (by go_simp; rfl) (by go_simp) ?_; refine eqf_cons (by rfl) (by go_simp; rfl) (by go_simp; rfl) (by go_simp) ?_; exact eqf_last (by rfl) (by go_simp; rfl) (by go_simp; rfl) (by go_simp)
attribute [local go_sem high] eqA23
def erasureref01_Compare.f (a0_0 : Int) (a0_1 : Int) (a0_2 : ByteArray) (a1_0 : Int) (a1_1 : Int) (a1_2 : ByteArray) : Option (Int) := (erasureref01_Clean.f a0_0 a0_1 a0_2).bind fun bt368 => ((erasureref01_Clean.f a1_0 a1_1 a1_2).bind fun bt371 => (if (bt368.1 == bt371.1 && (bt368.2.1 == bt371.2.1 && (bt368.2.2.toList == bt371.2.2.toList))) = true then (some 0) else (if bt368.1 < bt371.1 then (some (-1)) else (if bt368.1 = bt371.1 then (if bt368.2.1 < bt371.2.1 then (some (-1)) else (if (Op.bytesLess bt368.2.2.toList bt371.2.2.toList) = true then (some (-1)) else (some 1))) else (some 1)))))
set_option maxHeartbeats 8000000 in
set_option maxRecDepth 100000 in
theorem erasureref01_Compare.calls (a0_0 : Int) (a0_1 : Int) (a0_2 : ByteArray) (a1_0 : Int) (a1_1 : Int) (a1_2 : ByteArray) (r : Int) (w : World) (h : erasureref01_Compare.f a0_0 a0_1 a0_2 a1_0 a1_1 a1_2 = some r) :
  Calls Try.prog 114 #[.agg #[.int .i64 a0_0, .int .i64 a0_1, .string a0_2], .agg #[.int .i64 a1_0, .int .i64 a1_1, .string a1_2]] w fun e w' => e = .returned (.int .i64 r) ∧ Below w.heap.size w w' := by
 have hu23 := Try.underlying23; have HB := Aside0.mk (Below.refl w.heap.size w); have H : ((erasureref01_Clean.f a0_0 a0_1 a0_2).bind fun bt368 => ((erasureref01_Clean.f a1_0 a1_1 a1_2).bind fun bt371 => (if (bt368.1 == bt371.1 && (bt368.2.1 == bt371.2.1 && (bt368.2.2.toList == bt371.2.2.toList))) = true then (some 0) else (if bt368.1 < bt371.1 then (some (-1)) else (if bt368.1 = bt371.1 then (if bt368.2.1 < bt371.2.1 then (some (-1)) else (if (Op.bytesLess bt368.2.2.toList bt371.2.2.toList) = true then (some (-1)) else (some 1))) else (some 1)))))) = some r := h; clear h; replace H := Option.bind_eq_some_iff.mp H; obtain ⟨⟨t368, t369, t370⟩, A30, H⟩ := H; replace H : ((erasureref01_Clean.f a1_0 a1_1 a1_2).bind fun bt371 => (if (t368 == bt371.1 && (t369 == bt371.2.1 && (t370.toList == bt371.2.2.toList))) = true then (some 0) else (if t368 < bt371.1 then (some (-1)) else (if t368 = bt371.1 then (if t369 < bt371.2.1 then (some (-1)) else (if (Op.bytesLess t370.toList bt371.2.2.toList) = true then (some (-1)) else (some 1))) else (some 1))))) = some r := H; have A3 := Aside0.mk A30; clear A30; replace H := Option.bind_eq_some_iff.mp H; obtain ⟨⟨t371, t372, t373⟩, A40, H⟩ := H; replace H : (if (t368 == t371 && (t369 == t372 && (t370.toList == t373.toList))) = true then (some 0) else (if t368 < t371 then (some (-1)) else (if t368 = t371 then (if t369 < t372 then (some (-1)) else (if (Op.bytesLess t370.toList t373.toList) = true then (some (-1)) else (some 1))) else (some 1)))) = some r := H; have A4 := Aside0.mk A40; clear A40
 by_cases c5 : (t368 == t371 && (t369 == t372 && (t370.toList == t373.toList))) = true
 ·rw [if_pos c5] at H; have c5b0 : (t368 == t371 && (t369 == t372 && (t370.toList == t373.toList))) = true := c5; (try (have c5b1 : decide (t368 = t371 && (t369 == t372 && (t370.toList == t373.toList))) = true := by simpa using c5)); (try (have c5b2 : (t368 == t371 && (t369 == t372 && (t370.toList == t373.toList))) = true := by simpa using c5)); clear c5; obtain rfl := Option.some.inj H
  go_enter Try.func114, Try.ntmps114
  try go_wp2_with (first | ((with_reducible refine gate_dst (N := 2) rfl ?_); refine box_event ?hg (N := 2) ?hd (cs := #[.int .i64 a0_0, .int .i64 a0_1, .string a0_2]) (t := 23) ?hr ?_; (case hd => rfl); (case hg => rfl); (case hr => first | (go_simp; done) | (go_simp; rfl)); intro gb100 hg w6 hbox hb; have n0_ := Aside0.mk (below_step zz0 hb); have n1_ := Aside0.mk (hbox); have n2_ := Aside0.mk ((zz1 : w.heap.size ≤ gb100)); have n3_ := Aside0.mk ((zz1 : w.heap.size ≤ gb100)); clear HB; have HB := n0_; have BK100 := n1_; have GW100 := n2_; have GE100 := n3_; clear n0_ n1_ n2_ n3_; clear hb hbox hg) | ((with_reducible refine gate_dst (N := 3) rfl ?_); refine box_event ?hg (N := 3) ?hd (cs := #[.int .i64 a1_0, .int .i64 a1_1, .string a1_2]) (t := 23) ?hr ?_; (case hd => rfl); (case hg => rfl); (case hr => first | (go_simp; done) | (go_simp; rfl)); intro gb101 hg w7 hbox hb; have n0_ := Aside0.mk (blk_below (g := gb100) (o := .cells #[.int .i64 a0_0, .int .i64 a0_1, .string a0_2] 23 (0, 0)) zz4 hb); have n1_ := Aside0.mk (below_step zz5 hb); have n2_ := Aside0.mk (hbox); have n3_ := Aside0.mk ((zz10 : w.heap.size ≤ gb101)); have n4_ := Aside0.mk ((zz10 : w.heap.size ≤ gb101)); have n5_ := Aside0.mk ((zz11 : gb100 ≠ gb101)); have n6_ := Aside0.mk ((zz12 : gb101 ≠ gb100)); clear BK100; clear HB; have BK100 := n0_; have HB := n1_; have BK101 := n2_; have GW101 := n3_; have GE101 := n4_; have NB100_101 := n5_; have NB101_100 := n6_; clear n0_ n1_ n2_ n3_ n4_ n5_ n6_; clear hb hbox hg))
  have n0_ := Aside0.mk (blk_drew BK100.out); have n1_ := Aside0.mk (blk_drew BK101.out); have n2_ := Aside0.mk (below_drew1 HB.out); clear BK100; clear BK101; clear HB; have BK100 := n0_; have BK101 := n1_; have HB := n2_; clear n0_ n1_ n2_; refine start_ (n := 6) (S := fun w' => w'.cell? ⟨gb100, 0, none⟩ = some (.int .i64 a0_0) ∧ w'.cell? ⟨gb100, 1, none⟩ = some (.int .i64 a0_1) ∧ w'.cell? ⟨gb100, 2, none⟩ = some (.string a0_2) ∧ w'.cell? ⟨gb101, 0, none⟩ = some (.int .i64 a1_0) ∧ w'.cell? ⟨gb101, 1, none⟩ = some (.int .i64 a1_1) ∧ w'.cell? ⟨gb101, 2, none⟩ = some (.string a1_2)) (ds := [4, 5]) (.replicate 6 false) (by kernel_rfl) rfl rfl ⟨cK BK100 0, cK BK100 1, cK BK100 2, cK BK101 0, cK BK101 1, cK BK101 2⟩ (fun hHeld => ?_); generalize w7.drew = w8 at BK100 BK101 HB hHeld ⊢; refine take_ (i := 0) (N := some 5) (v := ?_) (a' := ?_) (bA 6 1) rfl rfl (by kernel_rfl) (fun _ _ _ h => h) (Or.inl ⟨by rfl, ?_⟩) hHeld ?_ ?_; rotate_left
  ·rintro w' ⟨s0, s1, s2, s3, s4, s5⟩
   go_simp
   (with_reducible rfl)
  rotate_left
  ·simp only [Act.put, List.setIfInBounds_toArray, List.set_cons_zero, List.set_cons_succ, i64_w, i32_w]
   rfl
  refine take_ (i := 2) (N := some 7) (v := ?_) (a' := ?_) (bA 6 5) rfl rfl (by kernel_rfl) (fun _ _ _ h => h) (Or.inl ⟨by rfl, ?_⟩) hHeld ?_ ?_; rotate_left
  ·rintro w' ⟨s0, s1, s2, s3, s4, s5⟩
   go_simp
   (with_reducible rfl)
  rotate_left
  ·simp only [Act.put, List.setIfInBounds_toArray, List.set_cons_zero, List.set_cons_succ, i64_w, i32_w]
   rfl
  refine one_ (i := 1) (N := some 6) (bA 6 7) rfl rfl (by kernel_rfl) (by decide) (fun K hK => ?_); refine goes_ Try.func84 (by kernel_rfl) rfl #[.agg #[.int .i64 a0_0, .int .i64 a0_1, .string a0_2]] (by rfl) rfl rfl zz8 ?_; (with_reducible refine (erasureref01_Clean.calls a0_0 a0_1 a0_2 t368 t369 t370 _ A3.out).mono ?_); rintro e w9 ⟨rfl, hb⟩; refine ⟨_, rfl, ?_⟩; have n0_ := Aside0.mk (blk_below (g := gb100) (o := .cells #[.int .i64 a0_0, .int .i64 a0_1, .string a0_2] 23 (0, 0)) zz4 hb); have n1_ := Aside0.mk (blk_below (g := gb101) (o := .cells #[.int .i64 a1_0, .int .i64 a1_1, .string a1_2] 23 (0, 0)) zz13 hb); have n2_ := Aside0.mk (below_step zz14 hb); clear BK100; clear BK101; clear HB; have BK100 := n0_; have BK101 := n1_; have HB := n2_; clear n0_ n1_ n2_; (try clear hb); (try clear hb2); (try clear hk); (try clear hi); refine hK.out _ _ ⟨cK BK100 0, cK BK100 1, cK BK100 2, cK BK101 0, cK BK101 1, cK BK101 2⟩ (fun hHeld => ?_); clear hK K; refine norm_ (a' := ?_) ?_ ?_; rotate_left
  ·show Act.put _ (some 6) _ = _
   simp only [Act.put, List.setIfInBounds_toArray, List.set_cons_zero, List.set_cons_succ, i64_w, i32_w]
   rfl
  refine one_ (i := 3) (N := some 8) (bA 6 15) rfl rfl (by kernel_rfl) (by decide) (fun K hK => ?_); refine goes_ Try.func84 (by kernel_rfl) rfl #[.agg #[.int .i64 a1_0, .int .i64 a1_1, .string a1_2]] (by rfl) rfl rfl zz8 ?_; (with_reducible refine (erasureref01_Clean.calls a1_0 a1_1 a1_2 t371 t372 t373 _ A4.out).mono ?_); rintro e w10 ⟨rfl, hb⟩; refine ⟨_, rfl, ?_⟩; have n0_ := Aside0.mk (blk_below (g := gb100) (o := .cells #[.int .i64 a0_0, .int .i64 a0_1, .string a0_2] 23 (0, 0)) zz4 hb); have n1_ := Aside0.mk (blk_below (g := gb101) (o := .cells #[.int .i64 a1_0, .int .i64 a1_1, .string a1_2] 23 (0, 0)) zz13 hb); have n2_ := Aside0.mk (below_step zz14 hb); clear BK100; clear BK101; clear HB; have BK100 := n0_; have BK101 := n1_; have HB := n2_; clear n0_ n1_ n2_; (try clear hb); (try clear hb2); (try clear hk); (try clear hi); refine hK.out _ _ ⟨cK BK100 0, cK BK100 1, cK BK100 2, cK BK101 0, cK BK101 1, cK BK101 2⟩ (fun hHeld => ?_); clear hK K; refine norm_ (a' := ?_) ?_ ?_; rotate_left
  ·show Act.put _ (some 8) _ = _
   simp only [Act.put, List.setIfInBounds_toArray, List.set_cons_zero, List.set_cons_succ, i64_w, i32_w]
   rfl
  refine last_ (i := 4) (N := none) (bA 6 31) rfl rfl (by kernel_rfl) (by decide) (fun K hK => ?_); have hs11 : w10.cell? ⟨gb100, 0, none⟩ = some (.int .i64 a0_0) := cK BK100 0; have hfs11 := blk_frozen BK100.out 0; have hns11_1 := NB101_100.out; have hms11_1 := NB100_101.out; have hs12 : w10.cell? ⟨gb100, 1, none⟩ = some (.int .i64 a0_1) := cK BK100 1; have hfs12 := blk_frozen BK100.out 1; have hns12_1 := NB101_100.out; have hms12_1 := NB100_101.out; have hs13 : w10.cell? ⟨gb100, 2, none⟩ = some (.string a0_2) := cK BK100 2; have hfs13 := blk_frozen BK100.out 2; have hns13_1 := NB101_100.out; have hms13_1 := NB100_101.out; refine skip_ (w1 := ?_) (by rfl) rfl ?_ ?_; rotate_left
  ·go_simp
   rfl
  refine hK.out _ _ ?_; clear hK K; refine last_ (i := 5) (N := none) (bA 6 63) rfl rfl (by kernel_rfl) (by decide) (fun K hK => ?_); have hs14 : w10.cell? ⟨gb101, 0, none⟩ = some (.int .i64 a1_0) := cK BK101 0; have hfs14 := blk_frozen BK101.out 0; have hns14_0 := NB100_101.out; have hms14_0 := NB101_100.out; have hs15 : w10.cell? ⟨gb101, 1, none⟩ = some (.int .i64 a1_1) := cK BK101 1; have hfs15 := blk_frozen BK101.out 1; have hns15_0 := NB100_101.out; have hms15_0 := NB101_100.out; have hs16 : w10.cell? ⟨gb101, 2, none⟩ = some (.string a1_2) := cK BK101 2; have hfs16 := blk_frozen BK101.out 2; have hns16_0 := NB100_101.out; have hms16_0 := NB101_100.out; refine skip_ (w1 := ?_) (by rfl) rfl ?_ ?_; rotate_left
  ·go_simp
   rfl
  refine hK.out _ _ ?_; clear hK K; refine done_ (by kernel_rfl) ?_; have hnb17 := NB100_101.out; have hnc17 := NB101_100.out; have hcz18_0 : w10.cell? ⟨gb100, 0, none⟩ = some (.int .i64 a0_0) := cK BK100 0; have hcz18_1 : w10.cell? ⟨gb100, 1, none⟩ = some (.int .i64 a0_1) := cK BK100 1; have hcz18_2 : w10.cell? ⟨gb100, 2, none⟩ = some (.string a0_2) := cK BK100 2; have hfz18_0 := blk_frozen BK100.out 0; have hfz18_1 := blk_frozen BK100.out 1; have hfz18_2 := blk_frozen BK100.out 2; have hcz19_0 : w10.cell? ⟨gb101, 0, none⟩ = some (.int .i64 a1_0) := cK BK101 0; have hcz19_1 : w10.cell? ⟨gb101, 1, none⟩ = some (.int .i64 a1_1) := cK BK101 1; have hcz19_2 : w10.cell? ⟨gb101, 2, none⟩ = some (.string a1_2) := cK BK101 2; have hfz19_0 := blk_frozen BK101.out 0; have hfz19_1 := blk_frozen BK101.out 1; have hfz19_2 := blk_frozen BK101.out 2
  try go_wp2
  go_ret
  exact ⟨zz6, zz14⟩
 ·rw [if_neg c5] at H; have c5b0 : (t368 == t371 && (t369 == t372 && (t370.toList == t373.toList))) = false := by simpa using c5
  (try (have c5b1 : decide (t368 = t371 && (t369 == t372 && (t370.toList == t373.toList))) = false := by simpa using c5)); (try (have c5b2 : (t368 == t371 && (t369 == t372 && (t370.toList == t373.toList))) = false := by simpa using c5)); (try (have c5b3 : ¬ (t368 = t371 && (t369 == t372 && (t370.toList == t373.toList))) := by simpa using c5)); clear c5
  by_cases c20 : t368 < t371
  ·rw [if_pos c20] at H; have c20b0 : decide (t368 < t371) = true := decide_eq_true c20; clear c20; obtain rfl := Option.some.inj H
   go_enter Try.func114, Try.ntmps114
   try go_wp2_with (first | ((with_reducible refine gate_dst (N := 2) rfl ?_); refine box_event ?hg (N := 2) ?hd (cs := #[.int .i64 a0_0, .int .i64 a0_1, .string a0_2]) (t := 23) ?hr ?_; (case hd => rfl); (case hg => rfl); (case hr => first | (go_simp; done) | (go_simp; rfl)); intro gb100 hg w21 hbox hb; have n0_ := Aside0.mk (below_step zz0 hb); have n1_ := Aside0.mk (hbox); have n2_ := Aside0.mk ((zz1 : w.heap.size ≤ gb100)); have n3_ := Aside0.mk ((zz1 : w.heap.size ≤ gb100)); clear HB; have HB := n0_; have BK100 := n1_; have GW100 := n2_; have GE100 := n3_; clear n0_ n1_ n2_ n3_; clear hb hbox hg) | ((with_reducible refine gate_dst (N := 3) rfl ?_); refine box_event ?hg (N := 3) ?hd (cs := #[.int .i64 a1_0, .int .i64 a1_1, .string a1_2]) (t := 23) ?hr ?_; (case hd => rfl); (case hg => rfl); (case hr => first | (go_simp; done) | (go_simp; rfl)); intro gb101 hg w22 hbox hb; have n0_ := Aside0.mk (blk_below (g := gb100) (o := .cells #[.int .i64 a0_0, .int .i64 a0_1, .string a0_2] 23 (0, 0)) zz4 hb); have n1_ := Aside0.mk (below_step zz5 hb); have n2_ := Aside0.mk (hbox); have n3_ := Aside0.mk ((zz10 : w.heap.size ≤ gb101)); have n4_ := Aside0.mk ((zz10 : w.heap.size ≤ gb101)); have n5_ := Aside0.mk ((zz11 : gb100 ≠ gb101)); have n6_ := Aside0.mk ((zz12 : gb101 ≠ gb100)); clear BK100; clear HB; have BK100 := n0_; have HB := n1_; have BK101 := n2_; have GW101 := n3_; have GE101 := n4_; have NB100_101 := n5_; have NB101_100 := n6_; clear n0_ n1_ n2_ n3_ n4_ n5_ n6_; clear hb hbox hg))
   have n0_ := Aside0.mk (blk_drew BK100.out); have n1_ := Aside0.mk (blk_drew BK101.out); have n2_ := Aside0.mk (below_drew1 HB.out); clear BK100; clear BK101; clear HB; have BK100 := n0_; have BK101 := n1_; have HB := n2_; clear n0_ n1_ n2_; refine start_ (n := 6) (S := fun w' => w'.cell? ⟨gb100, 0, none⟩ = some (.int .i64 a0_0) ∧ w'.cell? ⟨gb100, 1, none⟩ = some (.int .i64 a0_1) ∧ w'.cell? ⟨gb100, 2, none⟩ = some (.string a0_2) ∧ w'.cell? ⟨gb101, 0, none⟩ = some (.int .i64 a1_0) ∧ w'.cell? ⟨gb101, 1, none⟩ = some (.int .i64 a1_1) ∧ w'.cell? ⟨gb101, 2, none⟩ = some (.string a1_2)) (ds := [4, 5]) (.replicate 6 false) (by kernel_rfl) rfl rfl ⟨cK BK100 0, cK BK100 1, cK BK100 2, cK BK101 0, cK BK101 1, cK BK101 2⟩ (fun hHeld => ?_); generalize w22.drew = w23 at BK100 BK101 HB hHeld ⊢; refine take_ (i := 0) (N := some 5) (v := ?_) (a' := ?_) (bA 6 1) rfl rfl (by kernel_rfl) (fun _ _ _ h => h) (Or.inl ⟨by rfl, ?_⟩) hHeld ?_ ?_; rotate_left
   ·rintro w' ⟨s0, s1, s2, s3, s4, s5⟩
    go_simp
    (with_reducible rfl)
   rotate_left
   ·simp only [Act.put, List.setIfInBounds_toArray, List.set_cons_zero, List.set_cons_succ, i64_w, i32_w]
    rfl
   refine take_ (i := 2) (N := some 7) (v := ?_) (a' := ?_) (bA 6 5) rfl rfl (by kernel_rfl) (fun _ _ _ h => h) (Or.inl ⟨by rfl, ?_⟩) hHeld ?_ ?_; rotate_left
   ·rintro w' ⟨s0, s1, s2, s3, s4, s5⟩
    go_simp
    (with_reducible rfl)
   rotate_left
   ·simp only [Act.put, List.setIfInBounds_toArray, List.set_cons_zero, List.set_cons_succ, i64_w, i32_w]
    rfl
   refine one_ (i := 1) (N := some 6) (bA 6 7) rfl rfl (by kernel_rfl) (by decide) (fun K hK => ?_); refine goes_ Try.func84 (by kernel_rfl) rfl #[.agg #[.int .i64 a0_0, .int .i64 a0_1, .string a0_2]] (by rfl) rfl rfl zz8 ?_; (with_reducible refine (erasureref01_Clean.calls a0_0 a0_1 a0_2 t368 t369 t370 _ A3.out).mono ?_); rintro e w24 ⟨rfl, hb⟩; refine ⟨_, rfl, ?_⟩; have n0_ := Aside0.mk (blk_below (g := gb100) (o := .cells #[.int .i64 a0_0, .int .i64 a0_1, .string a0_2] 23 (0, 0)) zz4 hb); have n1_ := Aside0.mk (blk_below (g := gb101) (o := .cells #[.int .i64 a1_0, .int .i64 a1_1, .string a1_2] 23 (0, 0)) zz13 hb); have n2_ := Aside0.mk (below_step zz14 hb); clear BK100; clear BK101; clear HB; have BK100 := n0_; have BK101 := n1_; have HB := n2_; clear n0_ n1_ n2_; (try clear hb); (try clear hb2); (try clear hk); (try clear hi); refine hK.out _ _ ⟨cK BK100 0, cK BK100 1, cK BK100 2, cK BK101 0, cK BK101 1, cK BK101 2⟩ (fun hHeld => ?_); clear hK K; refine norm_ (a' := ?_) ?_ ?_; rotate_left
   ·show Act.put _ (some 6) _ = _
    simp only [Act.put, List.setIfInBounds_toArray, List.set_cons_zero, List.set_cons_succ, i64_w, i32_w]
    rfl
   refine one_ (i := 3) (N := some 8) (bA 6 15) rfl rfl (by kernel_rfl) (by decide) (fun K hK => ?_); refine goes_ Try.func84 (by kernel_rfl) rfl #[.agg #[.int .i64 a1_0, .int .i64 a1_1, .string a1_2]] (by rfl) rfl rfl zz8 ?_; (with_reducible refine (erasureref01_Clean.calls a1_0 a1_1 a1_2 t371 t372 t373 _ A4.out).mono ?_); rintro e w25 ⟨rfl, hb⟩; refine ⟨_, rfl, ?_⟩; have n0_ := Aside0.mk (blk_below (g := gb100) (o := .cells #[.int .i64 a0_0, .int .i64 a0_1, .string a0_2] 23 (0, 0)) zz4 hb); have n1_ := Aside0.mk (blk_below (g := gb101) (o := .cells #[.int .i64 a1_0, .int .i64 a1_1, .string a1_2] 23 (0, 0)) zz13 hb); have n2_ := Aside0.mk (below_step zz14 hb); clear BK100; clear BK101; clear HB; have BK100 := n0_; have BK101 := n1_; have HB := n2_; clear n0_ n1_ n2_; (try clear hb); (try clear hb2); (try clear hk); (try clear hi); refine hK.out _ _ ⟨cK BK100 0, cK BK100 1, cK BK100 2, cK BK101 0, cK BK101 1, cK BK101 2⟩ (fun hHeld => ?_); clear hK K; refine norm_ (a' := ?_) ?_ ?_; rotate_left
   ·show Act.put _ (some 8) _ = _
    simp only [Act.put, List.setIfInBounds_toArray, List.set_cons_zero, List.set_cons_succ, i64_w, i32_w]
    rfl
   refine last_ (i := 4) (N := none) (bA 6 31) rfl rfl (by kernel_rfl) (by decide) (fun K hK => ?_); have hs26 : w25.cell? ⟨gb100, 0, none⟩ = some (.int .i64 a0_0) := cK BK100 0; have hfs26 := blk_frozen BK100.out 0; have hns26_1 := NB101_100.out; have hms26_1 := NB100_101.out; have hs27 : w25.cell? ⟨gb100, 1, none⟩ = some (.int .i64 a0_1) := cK BK100 1; have hfs27 := blk_frozen BK100.out 1; have hns27_1 := NB101_100.out; have hms27_1 := NB100_101.out; have hs28 : w25.cell? ⟨gb100, 2, none⟩ = some (.string a0_2) := cK BK100 2; have hfs28 := blk_frozen BK100.out 2; have hns28_1 := NB101_100.out; have hms28_1 := NB100_101.out; refine skip_ (w1 := ?_) (by rfl) rfl ?_ ?_; rotate_left
   ·go_simp
    rfl
   refine hK.out _ _ ?_; clear hK K; refine last_ (i := 5) (N := none) (bA 6 63) rfl rfl (by kernel_rfl) (by decide) (fun K hK => ?_); have hs29 : w25.cell? ⟨gb101, 0, none⟩ = some (.int .i64 a1_0) := cK BK101 0; have hfs29 := blk_frozen BK101.out 0; have hns29_0 := NB100_101.out; have hms29_0 := NB101_100.out; have hs30 : w25.cell? ⟨gb101, 1, none⟩ = some (.int .i64 a1_1) := cK BK101 1; have hfs30 := blk_frozen BK101.out 1; have hns30_0 := NB100_101.out; have hms30_0 := NB101_100.out; have hs31 : w25.cell? ⟨gb101, 2, none⟩ = some (.string a1_2) := cK BK101 2; have hfs31 := blk_frozen BK101.out 2; have hns31_0 := NB100_101.out; have hms31_0 := NB101_100.out; refine skip_ (w1 := ?_) (by rfl) rfl ?_ ?_; rotate_left
   ·go_simp
    rfl
   refine hK.out _ _ ?_; clear hK K; refine done_ (by kernel_rfl) ?_; have hnb32 := NB100_101.out; have hnc32 := NB101_100.out; have hcz33_0 : w25.cell? ⟨gb100, 0, none⟩ = some (.int .i64 a0_0) := cK BK100 0; have hcz33_1 : w25.cell? ⟨gb100, 1, none⟩ = some (.int .i64 a0_1) := cK BK100 1; have hcz33_2 : w25.cell? ⟨gb100, 2, none⟩ = some (.string a0_2) := cK BK100 2; have hfz33_0 := blk_frozen BK100.out 0; have hfz33_1 := blk_frozen BK100.out 1; have hfz33_2 := blk_frozen BK100.out 2; have hcz34_0 : w25.cell? ⟨gb101, 0, none⟩ = some (.int .i64 a1_0) := cK BK101 0; have hcz34_1 : w25.cell? ⟨gb101, 1, none⟩ = some (.int .i64 a1_1) := cK BK101 1; have hcz34_2 : w25.cell? ⟨gb101, 2, none⟩ = some (.string a1_2) := cK BK101 2; have hfz34_0 := blk_frozen BK101.out 0; have hfz34_1 := blk_frozen BK101.out 1; have hfz34_2 := blk_frozen BK101.out 2
   try go_wp2
   go_ret
   exact ⟨zz6, zz14⟩
  ·rw [if_neg c20] at H; have c20b0 : decide (t368 < t371) = false := decide_eq_false c20; clear c20
   by_cases c35 : t368 = t371
   ·rw [if_pos c35] at H; have c35b0 : (t368 == t371) = true := beq_iff_eq.mpr c35; have c35b1 : (t368 != t371) = false := bne_eq_false_iff_eq.mpr c35; clear c35
    by_cases c36 : t369 < t372
    ·rw [if_pos c36] at H; have c36b0 : decide (t369 < t372) = true := decide_eq_true c36; clear c36; obtain rfl := Option.some.inj H
     go_enter Try.func114, Try.ntmps114
     try go_wp2_with (first | ((with_reducible refine gate_dst (N := 2) rfl ?_); refine box_event ?hg (N := 2) ?hd (cs := #[.int .i64 a0_0, .int .i64 a0_1, .string a0_2]) (t := 23) ?hr ?_; (case hd => rfl); (case hg => rfl); (case hr => first | (go_simp; done) | (go_simp; rfl)); intro gb100 hg w37 hbox hb; have n0_ := Aside0.mk (below_step zz0 hb); have n1_ := Aside0.mk (hbox); have n2_ := Aside0.mk ((zz1 : w.heap.size ≤ gb100)); have n3_ := Aside0.mk ((zz1 : w.heap.size ≤ gb100)); clear HB; have HB := n0_; have BK100 := n1_; have GW100 := n2_; have GE100 := n3_; clear n0_ n1_ n2_ n3_; clear hb hbox hg) | ((with_reducible refine gate_dst (N := 3) rfl ?_); refine box_event ?hg (N := 3) ?hd (cs := #[.int .i64 a1_0, .int .i64 a1_1, .string a1_2]) (t := 23) ?hr ?_; (case hd => rfl); (case hg => rfl); (case hr => first | (go_simp; done) | (go_simp; rfl)); intro gb101 hg w38 hbox hb; have n0_ := Aside0.mk (blk_below (g := gb100) (o := .cells #[.int .i64 a0_0, .int .i64 a0_1, .string a0_2] 23 (0, 0)) zz4 hb); have n1_ := Aside0.mk (below_step zz5 hb); have n2_ := Aside0.mk (hbox); have n3_ := Aside0.mk ((zz10 : w.heap.size ≤ gb101)); have n4_ := Aside0.mk ((zz10 : w.heap.size ≤ gb101)); have n5_ := Aside0.mk ((zz11 : gb100 ≠ gb101)); have n6_ := Aside0.mk ((zz12 : gb101 ≠ gb100)); clear BK100; clear HB; have BK100 := n0_; have HB := n1_; have BK101 := n2_; have GW101 := n3_; have GE101 := n4_; have NB100_101 := n5_; have NB101_100 := n6_; clear n0_ n1_ n2_ n3_ n4_ n5_ n6_; clear hb hbox hg))
     have n0_ := Aside0.mk (blk_drew BK100.out); have n1_ := Aside0.mk (blk_drew BK101.out); have n2_ := Aside0.mk (below_drew1 HB.out); clear BK100; clear BK101; clear HB; have BK100 := n0_; have BK101 := n1_; have HB := n2_; clear n0_ n1_ n2_; refine start_ (n := 6) (S := fun w' => w'.cell? ⟨gb100, 0, none⟩ = some (.int .i64 a0_0) ∧ w'.cell? ⟨gb100, 1, none⟩ = some (.int .i64 a0_1) ∧ w'.cell? ⟨gb100, 2, none⟩ = some (.string a0_2) ∧ w'.cell? ⟨gb101, 0, none⟩ = some (.int .i64 a1_0) ∧ w'.cell? ⟨gb101, 1, none⟩ = some (.int .i64 a1_1) ∧ w'.cell? ⟨gb101, 2, none⟩ = some (.string a1_2)) (ds := [4, 5]) (.replicate 6 false) (by kernel_rfl) rfl rfl ⟨cK BK100 0, cK BK100 1, cK BK100 2, cK BK101 0, cK BK101 1, cK BK101 2⟩ (fun hHeld => ?_); generalize w38.drew = w39 at BK100 BK101 HB hHeld ⊢; refine take_ (i := 0) (N := some 5) (v := ?_) (a' := ?_) (bA 6 1) rfl rfl (by kernel_rfl) (fun _ _ _ h => h) (Or.inl ⟨by rfl, ?_⟩) hHeld ?_ ?_; rotate_left
     ·rintro w' ⟨s0, s1, s2, s3, s4, s5⟩
      go_simp
      (with_reducible rfl)
     rotate_left
     ·simp only [Act.put, List.setIfInBounds_toArray, List.set_cons_zero, List.set_cons_succ, i64_w, i32_w]
      rfl
     refine take_ (i := 2) (N := some 7) (v := ?_) (a' := ?_) (bA 6 5) rfl rfl (by kernel_rfl) (fun _ _ _ h => h) (Or.inl ⟨by rfl, ?_⟩) hHeld ?_ ?_; rotate_left
     ·rintro w' ⟨s0, s1, s2, s3, s4, s5⟩
      go_simp
      (with_reducible rfl)
     rotate_left
     ·simp only [Act.put, List.setIfInBounds_toArray, List.set_cons_zero, List.set_cons_succ, i64_w, i32_w]
      rfl
     refine one_ (i := 1) (N := some 6) (bA 6 7) rfl rfl (by kernel_rfl) (by decide) (fun K hK => ?_); refine goes_ Try.func84 (by kernel_rfl) rfl #[.agg #[.int .i64 a0_0, .int .i64 a0_1, .string a0_2]] (by rfl) rfl rfl zz8 ?_; (with_reducible refine (erasureref01_Clean.calls a0_0 a0_1 a0_2 t368 t369 t370 _ A3.out).mono ?_); rintro e w40 ⟨rfl, hb⟩; refine ⟨_, rfl, ?_⟩; have n0_ := Aside0.mk (blk_below (g := gb100) (o := .cells #[.int .i64 a0_0, .int .i64 a0_1, .string a0_2] 23 (0, 0)) zz4 hb); have n1_ := Aside0.mk (blk_below (g := gb101) (o := .cells #[.int .i64 a1_0, .int .i64 a1_1, .string a1_2] 23 (0, 0)) zz13 hb); have n2_ := Aside0.mk (below_step zz14 hb); clear BK100; clear BK101; clear HB; have BK100 := n0_; have BK101 := n1_; have HB := n2_; clear n0_ n1_ n2_; (try clear hb); (try clear hb2); (try clear hk); (try clear hi); refine hK.out _ _ ⟨cK BK100 0, cK BK100 1, cK BK100 2, cK BK101 0, cK BK101 1, cK BK101 2⟩ (fun hHeld => ?_); clear hK K; refine norm_ (a' := ?_) ?_ ?_; rotate_left
     ·show Act.put _ (some 6) _ = _
      simp only [Act.put, List.setIfInBounds_toArray, List.set_cons_zero, List.set_cons_succ, i64_w, i32_w]
      rfl
     refine one_ (i := 3) (N := some 8) (bA 6 15) rfl rfl (by kernel_rfl) (by decide) (fun K hK => ?_); refine goes_ Try.func84 (by kernel_rfl) rfl #[.agg #[.int .i64 a1_0, .int .i64 a1_1, .string a1_2]] (by rfl) rfl rfl zz8 ?_; (with_reducible refine (erasureref01_Clean.calls a1_0 a1_1 a1_2 t371 t372 t373 _ A4.out).mono ?_); rintro e w41 ⟨rfl, hb⟩; refine ⟨_, rfl, ?_⟩; have n0_ := Aside0.mk (blk_below (g := gb100) (o := .cells #[.int .i64 a0_0, .int .i64 a0_1, .string a0_2] 23 (0, 0)) zz4 hb); have n1_ := Aside0.mk (blk_below (g := gb101) (o := .cells #[.int .i64 a1_0, .int .i64 a1_1, .string a1_2] 23 (0, 0)) zz13 hb); have n2_ := Aside0.mk (below_step zz14 hb); clear BK100; clear BK101; clear HB; have BK100 := n0_; have BK101 := n1_; have HB := n2_; clear n0_ n1_ n2_; (try clear hb); (try clear hb2); (try clear hk); (try clear hi); refine hK.out _ _ ⟨cK BK100 0, cK BK100 1, cK BK100 2, cK BK101 0, cK BK101 1, cK BK101 2⟩ (fun hHeld => ?_); clear hK K; refine norm_ (a' := ?_) ?_ ?_; rotate_left
     ·show Act.put _ (some 8) _ = _
      simp only [Act.put, List.setIfInBounds_toArray, List.set_cons_zero, List.set_cons_succ, i64_w, i32_w]
      rfl
     refine last_ (i := 4) (N := none) (bA 6 31) rfl rfl (by kernel_rfl) (by decide) (fun K hK => ?_); have hs42 : w41.cell? ⟨gb100, 0, none⟩ = some (.int .i64 a0_0) := cK BK100 0; have hfs42 := blk_frozen BK100.out 0; have hns42_1 := NB101_100.out; have hms42_1 := NB100_101.out; have hs43 : w41.cell? ⟨gb100, 1, none⟩ = some (.int .i64 a0_1) := cK BK100 1; have hfs43 := blk_frozen BK100.out 1; have hns43_1 := NB101_100.out; have hms43_1 := NB100_101.out; have hs44 : w41.cell? ⟨gb100, 2, none⟩ = some (.string a0_2) := cK BK100 2; have hfs44 := blk_frozen BK100.out 2; have hns44_1 := NB101_100.out; have hms44_1 := NB100_101.out; refine skip_ (w1 := ?_) (by rfl) rfl ?_ ?_; rotate_left
     ·go_simp
      rfl
     refine hK.out _ _ ?_; clear hK K; refine last_ (i := 5) (N := none) (bA 6 63) rfl rfl (by kernel_rfl) (by decide) (fun K hK => ?_); have hs45 : w41.cell? ⟨gb101, 0, none⟩ = some (.int .i64 a1_0) := cK BK101 0; have hfs45 := blk_frozen BK101.out 0; have hns45_0 := NB100_101.out; have hms45_0 := NB101_100.out; have hs46 : w41.cell? ⟨gb101, 1, none⟩ = some (.int .i64 a1_1) := cK BK101 1; have hfs46 := blk_frozen BK101.out 1; have hns46_0 := NB100_101.out; have hms46_0 := NB101_100.out; have hs47 : w41.cell? ⟨gb101, 2, none⟩ = some (.string a1_2) := cK BK101 2; have hfs47 := blk_frozen BK101.out 2; have hns47_0 := NB100_101.out; have hms47_0 := NB101_100.out; refine skip_ (w1 := ?_) (by rfl) rfl ?_ ?_; rotate_left
     ·go_simp
      rfl
     refine hK.out _ _ ?_; clear hK K; refine done_ (by kernel_rfl) ?_; have hnb48 := NB100_101.out; have hnc48 := NB101_100.out; have hcz49_0 : w41.cell? ⟨gb100, 0, none⟩ = some (.int .i64 a0_0) := cK BK100 0; have hcz49_1 : w41.cell? ⟨gb100, 1, none⟩ = some (.int .i64 a0_1) := cK BK100 1; have hcz49_2 : w41.cell? ⟨gb100, 2, none⟩ = some (.string a0_2) := cK BK100 2; have hfz49_0 := blk_frozen BK100.out 0; have hfz49_1 := blk_frozen BK100.out 1; have hfz49_2 := blk_frozen BK100.out 2; have hcz50_0 : w41.cell? ⟨gb101, 0, none⟩ = some (.int .i64 a1_0) := cK BK101 0; have hcz50_1 : w41.cell? ⟨gb101, 1, none⟩ = some (.int .i64 a1_1) := cK BK101 1; have hcz50_2 : w41.cell? ⟨gb101, 2, none⟩ = some (.string a1_2) := cK BK101 2; have hfz50_0 := blk_frozen BK101.out 0; have hfz50_1 := blk_frozen BK101.out 1; have hfz50_2 := blk_frozen BK101.out 2
     try go_wp2
     (try (· (rename_i hx_; exfalso; simp only [c35b0, Bool.true_and, Bool.and_eq_false_iff] at c5b0; simp [hx_.1, hx_.2] at c5b0)))
     go_ret
     exact ⟨zz6, zz14⟩
    ·rw [if_neg c36] at H; have c36b0 : decide (t369 < t372) = false := decide_eq_false c36; clear c36
     by_cases c51 : (Op.bytesLess t370.toList t373.toList) = true
     ·rw [if_pos c51] at H; have c51b0 : (Op.bytesLess t370.toList t373.toList) = true := c51; clear c51; obtain rfl := Option.some.inj H
      go_enter Try.func114, Try.ntmps114
      try go_wp2_with (first | ((with_reducible refine gate_dst (N := 2) rfl ?_); refine box_event ?hg (N := 2) ?hd (cs := #[.int .i64 a0_0, .int .i64 a0_1, .string a0_2]) (t := 23) ?hr ?_; (case hd => rfl); (case hg => rfl); (case hr => first | (go_simp; done) | (go_simp; rfl)); intro gb100 hg w52 hbox hb; have n0_ := Aside0.mk (below_step zz0 hb); have n1_ := Aside0.mk (hbox); have n2_ := Aside0.mk ((zz1 : w.heap.size ≤ gb100)); have n3_ := Aside0.mk ((zz1 : w.heap.size ≤ gb100)); clear HB; have HB := n0_; have BK100 := n1_; have GW100 := n2_; have GE100 := n3_; clear n0_ n1_ n2_ n3_; clear hb hbox hg) | ((with_reducible refine gate_dst (N := 3) rfl ?_); refine box_event ?hg (N := 3) ?hd (cs := #[.int .i64 a1_0, .int .i64 a1_1, .string a1_2]) (t := 23) ?hr ?_; (case hd => rfl); (case hg => rfl); (case hr => first | (go_simp; done) | (go_simp; rfl)); intro gb101 hg w53 hbox hb; have n0_ := Aside0.mk (blk_below (g := gb100) (o := .cells #[.int .i64 a0_0, .int .i64 a0_1, .string a0_2] 23 (0, 0)) zz4 hb); have n1_ := Aside0.mk (below_step zz5 hb); have n2_ := Aside0.mk (hbox); have n3_ := Aside0.mk ((zz10 : w.heap.size ≤ gb101)); have n4_ := Aside0.mk ((zz10 : w.heap.size ≤ gb101)); have n5_ := Aside0.mk ((zz11 : gb100 ≠ gb101)); have n6_ := Aside0.mk ((zz12 : gb101 ≠ gb100)); clear BK100; clear HB; have BK100 := n0_; have HB := n1_; have BK101 := n2_; have GW101 := n3_; have GE101 := n4_; have NB100_101 := n5_; have NB101_100 := n6_; clear n0_ n1_ n2_ n3_ n4_ n5_ n6_; clear hb hbox hg))
      have n0_ := Aside0.mk (blk_drew BK100.out); have n1_ := Aside0.mk (blk_drew BK101.out); have n2_ := Aside0.mk (below_drew1 HB.out); clear BK100; clear BK101; clear HB; have BK100 := n0_; have BK101 := n1_; have HB := n2_; clear n0_ n1_ n2_; refine start_ (n := 6) (S := fun w' => w'.cell? ⟨gb100, 0, none⟩ = some (.int .i64 a0_0) ∧ w'.cell? ⟨gb100, 1, none⟩ = some (.int .i64 a0_1) ∧ w'.cell? ⟨gb100, 2, none⟩ = some (.string a0_2) ∧ w'.cell? ⟨gb101, 0, none⟩ = some (.int .i64 a1_0) ∧ w'.cell? ⟨gb101, 1, none⟩ = some (.int .i64 a1_1) ∧ w'.cell? ⟨gb101, 2, none⟩ = some (.string a1_2)) (ds := [4, 5]) (.replicate 6 false) (by kernel_rfl) rfl rfl ⟨cK BK100 0, cK BK100 1, cK BK100 2, cK BK101 0, cK BK101 1, cK BK101 2⟩ (fun hHeld => ?_); generalize w53.drew = w54 at BK100 BK101 HB hHeld ⊢; refine take_ (i := 0) (N := some 5) (v := ?_) (a' := ?_) (bA 6 1) rfl rfl (by kernel_rfl) (fun _ _ _ h => h) (Or.inl ⟨by rfl, ?_⟩) hHeld ?_ ?_; rotate_left
      ·rintro w' ⟨s0, s1, s2, s3, s4, s5⟩
       go_simp
       (with_reducible rfl)
      rotate_left
      ·simp only [Act.put, List.setIfInBounds_toArray, List.set_cons_zero, List.set_cons_succ, i64_w, i32_w]
       rfl
      refine take_ (i := 2) (N := some 7) (v := ?_) (a' := ?_) (bA 6 5) rfl rfl (by kernel_rfl) (fun _ _ _ h => h) (Or.inl ⟨by rfl, ?_⟩) hHeld ?_ ?_; rotate_left
      ·rintro w' ⟨s0, s1, s2, s3, s4, s5⟩
       go_simp
       (with_reducible rfl)
      rotate_left
      ·simp only [Act.put, List.setIfInBounds_toArray, List.set_cons_zero, List.set_cons_succ, i64_w, i32_w]
       rfl
      refine one_ (i := 1) (N := some 6) (bA 6 7) rfl rfl (by kernel_rfl) (by decide) (fun K hK => ?_); refine goes_ Try.func84 (by kernel_rfl) rfl #[.agg #[.int .i64 a0_0, .int .i64 a0_1, .string a0_2]] (by rfl) rfl rfl zz8 ?_; (with_reducible refine (erasureref01_Clean.calls a0_0 a0_1 a0_2 t368 t369 t370 _ A3.out).mono ?_); rintro e w55 ⟨rfl, hb⟩; refine ⟨_, rfl, ?_⟩; have n0_ := Aside0.mk (blk_below (g := gb100) (o := .cells #[.int .i64 a0_0, .int .i64 a0_1, .string a0_2] 23 (0, 0)) zz4 hb); have n1_ := Aside0.mk (blk_below (g := gb101) (o := .cells #[.int .i64 a1_0, .int .i64 a1_1, .string a1_2] 23 (0, 0)) zz13 hb); have n2_ := Aside0.mk (below_step zz14 hb); clear BK100; clear BK101; clear HB; have BK100 := n0_; have BK101 := n1_; have HB := n2_; clear n0_ n1_ n2_; (try clear hb); (try clear hb2); (try clear hk); (try clear hi); refine hK.out _ _ ⟨cK BK100 0, cK BK100 1, cK BK100 2, cK BK101 0, cK BK101 1, cK BK101 2⟩ (fun hHeld => ?_); clear hK K; refine norm_ (a' := ?_) ?_ ?_; rotate_left
      ·show Act.put _ (some 6) _ = _
       simp only [Act.put, List.setIfInBounds_toArray, List.set_cons_zero, List.set_cons_succ, i64_w, i32_w]
       rfl
      refine one_ (i := 3) (N := some 8) (bA 6 15) rfl rfl (by kernel_rfl) (by decide) (fun K hK => ?_); refine goes_ Try.func84 (by kernel_rfl) rfl #[.agg #[.int .i64 a1_0, .int .i64 a1_1, .string a1_2]] (by rfl) rfl rfl zz8 ?_; (with_reducible refine (erasureref01_Clean.calls a1_0 a1_1 a1_2 t371 t372 t373 _ A4.out).mono ?_); rintro e w56 ⟨rfl, hb⟩; refine ⟨_, rfl, ?_⟩; have n0_ := Aside0.mk (blk_below (g := gb100) (o := .cells #[.int .i64 a0_0, .int .i64 a0_1, .string a0_2] 23 (0, 0)) zz4 hb); have n1_ := Aside0.mk (blk_below (g := gb101) (o := .cells #[.int .i64 a1_0, .int .i64 a1_1, .string a1_2] 23 (0, 0)) zz13 hb); have n2_ := Aside0.mk (below_step zz14 hb); clear BK100; clear BK101; clear HB; have BK100 := n0_; have BK101 := n1_; have HB := n2_; clear n0_ n1_ n2_; (try clear hb); (try clear hb2); (try clear hk); (try clear hi); refine hK.out _ _ ⟨cK BK100 0, cK BK100 1, cK BK100 2, cK BK101 0, cK BK101 1, cK BK101 2⟩ (fun hHeld => ?_); clear hK K; refine norm_ (a' := ?_) ?_ ?_; rotate_left
      ·show Act.put _ (some 8) _ = _
       simp only [Act.put, List.setIfInBounds_toArray, List.set_cons_zero, List.set_cons_succ, i64_w, i32_w]
       rfl
      refine last_ (i := 4) (N := none) (bA 6 31) rfl rfl (by kernel_rfl) (by decide) (fun K hK => ?_); have hs57 : w56.cell? ⟨gb100, 0, none⟩ = some (.int .i64 a0_0) := cK BK100 0; have hfs57 := blk_frozen BK100.out 0; have hns57_1 := NB101_100.out; have hms57_1 := NB100_101.out; have hs58 : w56.cell? ⟨gb100, 1, none⟩ = some (.int .i64 a0_1) := cK BK100 1; have hfs58 := blk_frozen BK100.out 1; have hns58_1 := NB101_100.out; have hms58_1 := NB100_101.out; have hs59 : w56.cell? ⟨gb100, 2, none⟩ = some (.string a0_2) := cK BK100 2; have hfs59 := blk_frozen BK100.out 2; have hns59_1 := NB101_100.out; have hms59_1 := NB100_101.out; refine skip_ (w1 := ?_) (by rfl) rfl ?_ ?_; rotate_left
      ·go_simp
       rfl
      refine hK.out _ _ ?_; clear hK K; refine last_ (i := 5) (N := none) (bA 6 63) rfl rfl (by kernel_rfl) (by decide) (fun K hK => ?_); have hs60 : w56.cell? ⟨gb101, 0, none⟩ = some (.int .i64 a1_0) := cK BK101 0; have hfs60 := blk_frozen BK101.out 0; have hns60_0 := NB100_101.out; have hms60_0 := NB101_100.out; have hs61 : w56.cell? ⟨gb101, 1, none⟩ = some (.int .i64 a1_1) := cK BK101 1; have hfs61 := blk_frozen BK101.out 1; have hns61_0 := NB100_101.out; have hms61_0 := NB101_100.out; have hs62 : w56.cell? ⟨gb101, 2, none⟩ = some (.string a1_2) := cK BK101 2; have hfs62 := blk_frozen BK101.out 2; have hns62_0 := NB100_101.out; have hms62_0 := NB101_100.out; refine skip_ (w1 := ?_) (by rfl) rfl ?_ ?_; rotate_left
      ·go_simp
       rfl
      refine hK.out _ _ ?_; clear hK K; refine done_ (by kernel_rfl) ?_; have hnb63 := NB100_101.out; have hnc63 := NB101_100.out; have hcz64_0 : w56.cell? ⟨gb100, 0, none⟩ = some (.int .i64 a0_0) := cK BK100 0; have hcz64_1 : w56.cell? ⟨gb100, 1, none⟩ = some (.int .i64 a0_1) := cK BK100 1; have hcz64_2 : w56.cell? ⟨gb100, 2, none⟩ = some (.string a0_2) := cK BK100 2; have hfz64_0 := blk_frozen BK100.out 0; have hfz64_1 := blk_frozen BK100.out 1; have hfz64_2 := blk_frozen BK100.out 2; have hcz65_0 : w56.cell? ⟨gb101, 0, none⟩ = some (.int .i64 a1_0) := cK BK101 0; have hcz65_1 : w56.cell? ⟨gb101, 1, none⟩ = some (.int .i64 a1_1) := cK BK101 1; have hcz65_2 : w56.cell? ⟨gb101, 2, none⟩ = some (.string a1_2) := cK BK101 2; have hfz65_0 := blk_frozen BK101.out 0; have hfz65_1 := blk_frozen BK101.out 1; have hfz65_2 := blk_frozen BK101.out 2
      try go_wp2
      (try (· (rename_i hx_; exfalso; simp only [c35b0, Bool.true_and, Bool.and_eq_false_iff] at c5b0; simp [hx_.1, hx_.2] at c5b0)))
      go_ret
      exact ⟨zz6, zz14⟩
     ·rw [if_neg c51] at H; have c51b0 : (Op.bytesLess t370.toList t373.toList) = false := by simpa using c51
      clear c51; obtain rfl := Option.some.inj H
      go_enter Try.func114, Try.ntmps114
      try go_wp2_with (first | ((with_reducible refine gate_dst (N := 2) rfl ?_); refine box_event ?hg (N := 2) ?hd (cs := #[.int .i64 a0_0, .int .i64 a0_1, .string a0_2]) (t := 23) ?hr ?_; (case hd => rfl); (case hg => rfl); (case hr => first | (go_simp; done) | (go_simp; rfl)); intro gb100 hg w66 hbox hb; have n0_ := Aside0.mk (below_step zz0 hb); have n1_ := Aside0.mk (hbox); have n2_ := Aside0.mk ((zz1 : w.heap.size ≤ gb100)); have n3_ := Aside0.mk ((zz1 : w.heap.size ≤ gb100)); clear HB; have HB := n0_; have BK100 := n1_; have GW100 := n2_; have GE100 := n3_; clear n0_ n1_ n2_ n3_; clear hb hbox hg) | ((with_reducible refine gate_dst (N := 3) rfl ?_); refine box_event ?hg (N := 3) ?hd (cs := #[.int .i64 a1_0, .int .i64 a1_1, .string a1_2]) (t := 23) ?hr ?_; (case hd => rfl); (case hg => rfl); (case hr => first | (go_simp; done) | (go_simp; rfl)); intro gb101 hg w67 hbox hb; have n0_ := Aside0.mk (blk_below (g := gb100) (o := .cells #[.int .i64 a0_0, .int .i64 a0_1, .string a0_2] 23 (0, 0)) zz4 hb); have n1_ := Aside0.mk (below_step zz5 hb); have n2_ := Aside0.mk (hbox); have n3_ := Aside0.mk ((zz10 : w.heap.size ≤ gb101)); have n4_ := Aside0.mk ((zz10 : w.heap.size ≤ gb101)); have n5_ := Aside0.mk ((zz11 : gb100 ≠ gb101)); have n6_ := Aside0.mk ((zz12 : gb101 ≠ gb100)); clear BK100; clear HB; have BK100 := n0_; have HB := n1_; have BK101 := n2_; have GW101 := n3_; have GE101 := n4_; have NB100_101 := n5_; have NB101_100 := n6_; clear n0_ n1_ n2_ n3_ n4_ n5_ n6_; clear hb hbox hg))
      have n0_ := Aside0.mk (blk_drew BK100.out); have n1_ := Aside0.mk (blk_drew BK101.out); have n2_ := Aside0.mk (below_drew1 HB.out); clear BK100; clear BK101; clear HB; have BK100 := n0_; have BK101 := n1_; have HB := n2_; clear n0_ n1_ n2_; refine start_ (n := 6) (S := fun w' => w'.cell? ⟨gb100, 0, none⟩ = some (.int .i64 a0_0) ∧ w'.cell? ⟨gb100, 1, none⟩ = some (.int .i64 a0_1) ∧ w'.cell? ⟨gb100, 2, none⟩ = some (.string a0_2) ∧ w'.cell? ⟨gb101, 0, none⟩ = some (.int .i64 a1_0) ∧ w'.cell? ⟨gb101, 1, none⟩ = some (.int .i64 a1_1) ∧ w'.cell? ⟨gb101, 2, none⟩ = some (.string a1_2)) (ds := [4, 5]) (.replicate 6 false) (by kernel_rfl) rfl rfl ⟨cK BK100 0, cK BK100 1, cK BK100 2, cK BK101 0, cK BK101 1, cK BK101 2⟩ (fun hHeld => ?_); generalize w67.drew = w68 at BK100 BK101 HB hHeld ⊢; refine take_ (i := 0) (N := some 5) (v := ?_) (a' := ?_) (bA 6 1) rfl rfl (by kernel_rfl) (fun _ _ _ h => h) (Or.inl ⟨by rfl, ?_⟩) hHeld ?_ ?_; rotate_left
      ·rintro w' ⟨s0, s1, s2, s3, s4, s5⟩
       go_simp
       (with_reducible rfl)
      rotate_left
      ·simp only [Act.put, List.setIfInBounds_toArray, List.set_cons_zero, List.set_cons_succ, i64_w, i32_w]
       rfl
      refine take_ (i := 2) (N := some 7) (v := ?_) (a' := ?_) (bA 6 5) rfl rfl (by kernel_rfl) (fun _ _ _ h => h) (Or.inl ⟨by rfl, ?_⟩) hHeld ?_ ?_; rotate_left
      ·rintro w' ⟨s0, s1, s2, s3, s4, s5⟩
       go_simp
       (with_reducible rfl)
      rotate_left
      ·simp only [Act.put, List.setIfInBounds_toArray, List.set_cons_zero, List.set_cons_succ, i64_w, i32_w]
       rfl
      refine one_ (i := 1) (N := some 6) (bA 6 7) rfl rfl (by kernel_rfl) (by decide) (fun K hK => ?_); refine goes_ Try.func84 (by kernel_rfl) rfl #[.agg #[.int .i64 a0_0, .int .i64 a0_1, .string a0_2]] (by rfl) rfl rfl zz8 ?_; (with_reducible refine (erasureref01_Clean.calls a0_0 a0_1 a0_2 t368 t369 t370 _ A3.out).mono ?_); rintro e w69 ⟨rfl, hb⟩; refine ⟨_, rfl, ?_⟩; have n0_ := Aside0.mk (blk_below (g := gb100) (o := .cells #[.int .i64 a0_0, .int .i64 a0_1, .string a0_2] 23 (0, 0)) zz4 hb); have n1_ := Aside0.mk (blk_below (g := gb101) (o := .cells #[.int .i64 a1_0, .int .i64 a1_1, .string a1_2] 23 (0, 0)) zz13 hb); have n2_ := Aside0.mk (below_step zz14 hb); clear BK100; clear BK101; clear HB; have BK100 := n0_; have BK101 := n1_; have HB := n2_; clear n0_ n1_ n2_; (try clear hb); (try clear hb2); (try clear hk); (try clear hi); refine hK.out _ _ ⟨cK BK100 0, cK BK100 1, cK BK100 2, cK BK101 0, cK BK101 1, cK BK101 2⟩ (fun hHeld => ?_); clear hK K; refine norm_ (a' := ?_) ?_ ?_; rotate_left
      ·show Act.put _ (some 6) _ = _
       simp only [Act.put, List.setIfInBounds_toArray, List.set_cons_zero, List.set_cons_succ, i64_w, i32_w]
       rfl
      refine one_ (i := 3) (N := some 8) (bA 6 15) rfl rfl (by kernel_rfl) (by decide) (fun K hK => ?_); refine goes_ Try.func84 (by kernel_rfl) rfl #[.agg #[.int .i64 a1_0, .int .i64 a1_1, .string a1_2]] (by rfl) rfl rfl zz8 ?_; (with_reducible refine (erasureref01_Clean.calls a1_0 a1_1 a1_2 t371 t372 t373 _ A4.out).mono ?_); rintro e w70 ⟨rfl, hb⟩; refine ⟨_, rfl, ?_⟩; have n0_ := Aside0.mk (blk_below (g := gb100) (o := .cells #[.int .i64 a0_0, .int .i64 a0_1, .string a0_2] 23 (0, 0)) zz4 hb); have n1_ := Aside0.mk (blk_below (g := gb101) (o := .cells #[.int .i64 a1_0, .int .i64 a1_1, .string a1_2] 23 (0, 0)) zz13 hb); have n2_ := Aside0.mk (below_step zz14 hb); clear BK100; clear BK101; clear HB; have BK100 := n0_; have BK101 := n1_; have HB := n2_; clear n0_ n1_ n2_; (try clear hb); (try clear hb2); (try clear hk); (try clear hi); refine hK.out _ _ ⟨cK BK100 0, cK BK100 1, cK BK100 2, cK BK101 0, cK BK101 1, cK BK101 2⟩ (fun hHeld => ?_); clear hK K; refine norm_ (a' := ?_) ?_ ?_; rotate_left
      ·show Act.put _ (some 8) _ = _
       simp only [Act.put, List.setIfInBounds_toArray, List.set_cons_zero, List.set_cons_succ, i64_w, i32_w]
       rfl
      refine last_ (i := 4) (N := none) (bA 6 31) rfl rfl (by kernel_rfl) (by decide) (fun K hK => ?_); have hs71 : w70.cell? ⟨gb100, 0, none⟩ = some (.int .i64 a0_0) := cK BK100 0; have hfs71 := blk_frozen BK100.out 0; have hns71_1 := NB101_100.out; have hms71_1 := NB100_101.out; have hs72 : w70.cell? ⟨gb100, 1, none⟩ = some (.int .i64 a0_1) := cK BK100 1; have hfs72 := blk_frozen BK100.out 1; have hns72_1 := NB101_100.out; have hms72_1 := NB100_101.out; have hs73 : w70.cell? ⟨gb100, 2, none⟩ = some (.string a0_2) := cK BK100 2; have hfs73 := blk_frozen BK100.out 2; have hns73_1 := NB101_100.out; have hms73_1 := NB100_101.out; refine skip_ (w1 := ?_) (by rfl) rfl ?_ ?_; rotate_left
      ·go_simp
       rfl
      refine hK.out _ _ ?_; clear hK K; refine last_ (i := 5) (N := none) (bA 6 63) rfl rfl (by kernel_rfl) (by decide) (fun K hK => ?_); have hs74 : w70.cell? ⟨gb101, 0, none⟩ = some (.int .i64 a1_0) := cK BK101 0; have hfs74 := blk_frozen BK101.out 0; have hns74_0 := NB100_101.out; have hms74_0 := NB101_100.out; have hs75 : w70.cell? ⟨gb101, 1, none⟩ = some (.int .i64 a1_1) := cK BK101 1; have hfs75 := blk_frozen BK101.out 1; have hns75_0 := NB100_101.out; have hms75_0 := NB101_100.out; have hs76 : w70.cell? ⟨gb101, 2, none⟩ = some (.string a1_2) := cK BK101 2; have hfs76 := blk_frozen BK101.out 2; have hns76_0 := NB100_101.out; have hms76_0 := NB101_100.out; refine skip_ (w1 := ?_) (by rfl) rfl ?_ ?_; rotate_left
      ·go_simp
       rfl
      refine hK.out _ _ ?_; clear hK K; refine done_ (by kernel_rfl) ?_; have hnb77 := NB100_101.out; have hnc77 := NB101_100.out; have hcz78_0 : w70.cell? ⟨gb100, 0, none⟩ = some (.int .i64 a0_0) := cK BK100 0; have hcz78_1 : w70.cell? ⟨gb100, 1, none⟩ = some (.int .i64 a0_1) := cK BK100 1; have hcz78_2 : w70.cell? ⟨gb100, 2, none⟩ = some (.string a0_2) := cK BK100 2; have hfz78_0 := blk_frozen BK100.out 0; have hfz78_1 := blk_frozen BK100.out 1; have hfz78_2 := blk_frozen BK100.out 2; have hcz79_0 : w70.cell? ⟨gb101, 0, none⟩ = some (.int .i64 a1_0) := cK BK101 0; have hcz79_1 : w70.cell? ⟨gb101, 1, none⟩ = some (.int .i64 a1_1) := cK BK101 1; have hcz79_2 : w70.cell? ⟨gb101, 2, none⟩ = some (.string a1_2) := cK BK101 2; have hfz79_0 := blk_frozen BK101.out 0; have hfz79_1 := blk_frozen BK101.out 1; have hfz79_2 := blk_frozen BK101.out 2
      try go_wp2
      (try (· (rename_i hx_; exfalso; simp only [c35b0, Bool.true_and, Bool.and_eq_false_iff] at c5b0; simp [hx_.1, hx_.2] at c5b0)))
      go_ret
      exact ⟨zz6, zz14⟩
   ·rw [if_neg c35] at H; have c35b0 : (t368 == t371) = false := beq_eq_false_iff_ne.mpr c35; have c35b1 : (t368 != t371) = true := bne_iff_ne.mpr c35; obtain rfl := Option.some.inj H
    go_enter Try.func114, Try.ntmps114
    try go_wp2_with (first | ((with_reducible refine gate_dst (N := 2) rfl ?_); refine box_event ?hg (N := 2) ?hd (cs := #[.int .i64 a0_0, .int .i64 a0_1, .string a0_2]) (t := 23) ?hr ?_; (case hd => rfl); (case hg => rfl); (case hr => first | (go_simp; done) | (go_simp; rfl)); intro gb100 hg w80 hbox hb; have n0_ := Aside0.mk (below_step zz0 hb); have n1_ := Aside0.mk (hbox); have n2_ := Aside0.mk ((zz1 : w.heap.size ≤ gb100)); have n3_ := Aside0.mk ((zz1 : w.heap.size ≤ gb100)); clear HB; have HB := n0_; have BK100 := n1_; have GW100 := n2_; have GE100 := n3_; clear n0_ n1_ n2_ n3_; clear hb hbox hg) | ((with_reducible refine gate_dst (N := 3) rfl ?_); refine box_event ?hg (N := 3) ?hd (cs := #[.int .i64 a1_0, .int .i64 a1_1, .string a1_2]) (t := 23) ?hr ?_; (case hd => rfl); (case hg => rfl); (case hr => first | (go_simp; done) | (go_simp; rfl)); intro gb101 hg w81 hbox hb; have n0_ := Aside0.mk (blk_below (g := gb100) (o := .cells #[.int .i64 a0_0, .int .i64 a0_1, .string a0_2] 23 (0, 0)) zz4 hb); have n1_ := Aside0.mk (below_step zz5 hb); have n2_ := Aside0.mk (hbox); have n3_ := Aside0.mk ((zz10 : w.heap.size ≤ gb101)); have n4_ := Aside0.mk ((zz10 : w.heap.size ≤ gb101)); have n5_ := Aside0.mk ((zz11 : gb100 ≠ gb101)); have n6_ := Aside0.mk ((zz12 : gb101 ≠ gb100)); clear BK100; clear HB; have BK100 := n0_; have HB := n1_; have BK101 := n2_; have GW101 := n3_; have GE101 := n4_; have NB100_101 := n5_; have NB101_100 := n6_; clear n0_ n1_ n2_ n3_ n4_ n5_ n6_; clear hb hbox hg))
    have n0_ := Aside0.mk (blk_drew BK100.out); have n1_ := Aside0.mk (blk_drew BK101.out); have n2_ := Aside0.mk (below_drew1 HB.out); clear BK100; clear BK101; clear HB; have BK100 := n0_; have BK101 := n1_; have HB := n2_; clear n0_ n1_ n2_; refine start_ (n := 6) (S := fun w' => w'.cell? ⟨gb100, 0, none⟩ = some (.int .i64 a0_0) ∧ w'.cell? ⟨gb100, 1, none⟩ = some (.int .i64 a0_1) ∧ w'.cell? ⟨gb100, 2, none⟩ = some (.string a0_2) ∧ w'.cell? ⟨gb101, 0, none⟩ = some (.int .i64 a1_0) ∧ w'.cell? ⟨gb101, 1, none⟩ = some (.int .i64 a1_1) ∧ w'.cell? ⟨gb101, 2, none⟩ = some (.string a1_2)) (ds := [4, 5]) (.replicate 6 false) (by kernel_rfl) rfl rfl ⟨cK BK100 0, cK BK100 1, cK BK100 2, cK BK101 0, cK BK101 1, cK BK101 2⟩ (fun hHeld => ?_); generalize w81.drew = w82 at BK100 BK101 HB hHeld ⊢; refine take_ (i := 0) (N := some 5) (v := ?_) (a' := ?_) (bA 6 1) rfl rfl (by kernel_rfl) (fun _ _ _ h => h) (Or.inl ⟨by rfl, ?_⟩) hHeld ?_ ?_; rotate_left
    ·rintro w' ⟨s0, s1, s2, s3, s4, s5⟩
     go_simp
     (with_reducible rfl)
    rotate_left
    ·simp only [Act.put, List.setIfInBounds_toArray, List.set_cons_zero, List.set_cons_succ, i64_w, i32_w]
     rfl
    refine take_ (i := 2) (N := some 7) (v := ?_) (a' := ?_) (bA 6 5) rfl rfl (by kernel_rfl) (fun _ _ _ h => h) (Or.inl ⟨by rfl, ?_⟩) hHeld ?_ ?_; rotate_left
    ·rintro w' ⟨s0, s1, s2, s3, s4, s5⟩
     go_simp
     (with_reducible rfl)
    rotate_left
    ·simp only [Act.put, List.setIfInBounds_toArray, List.set_cons_zero, List.set_cons_succ, i64_w, i32_w]
     rfl
    refine one_ (i := 1) (N := some 6) (bA 6 7) rfl rfl (by kernel_rfl) (by decide) (fun K hK => ?_); refine goes_ Try.func84 (by kernel_rfl) rfl #[.agg #[.int .i64 a0_0, .int .i64 a0_1, .string a0_2]] (by rfl) rfl rfl zz8 ?_; (with_reducible refine (erasureref01_Clean.calls a0_0 a0_1 a0_2 t368 t369 t370 _ A3.out).mono ?_); rintro e w83 ⟨rfl, hb⟩; refine ⟨_, rfl, ?_⟩; have n0_ := Aside0.mk (blk_below (g := gb100) (o := .cells #[.int .i64 a0_0, .int .i64 a0_1, .string a0_2] 23 (0, 0)) zz4 hb); have n1_ := Aside0.mk (blk_below (g := gb101) (o := .cells #[.int .i64 a1_0, .int .i64 a1_1, .string a1_2] 23 (0, 0)) zz13 hb); have n2_ := Aside0.mk (below_step zz14 hb); clear BK100; clear BK101; clear HB; have BK100 := n0_; have BK101 := n1_; have HB := n2_; clear n0_ n1_ n2_; (try clear hb); (try clear hb2); (try clear hk); (try clear hi); refine hK.out _ _ ⟨cK BK100 0, cK BK100 1, cK BK100 2, cK BK101 0, cK BK101 1, cK BK101 2⟩ (fun hHeld => ?_); clear hK K; refine norm_ (a' := ?_) ?_ ?_; rotate_left
    ·show Act.put _ (some 6) _ = _
     simp only [Act.put, List.setIfInBounds_toArray, List.set_cons_zero, List.set_cons_succ, i64_w, i32_w]
     rfl
    refine one_ (i := 3) (N := some 8) (bA 6 15) rfl rfl (by kernel_rfl) (by decide) (fun K hK => ?_); refine goes_ Try.func84 (by kernel_rfl) rfl #[.agg #[.int .i64 a1_0, .int .i64 a1_1, .string a1_2]] (by rfl) rfl rfl zz8 ?_; (with_reducible refine (erasureref01_Clean.calls a1_0 a1_1 a1_2 t371 t372 t373 _ A4.out).mono ?_); rintro e w84 ⟨rfl, hb⟩; refine ⟨_, rfl, ?_⟩; have n0_ := Aside0.mk (blk_below (g := gb100) (o := .cells #[.int .i64 a0_0, .int .i64 a0_1, .string a0_2] 23 (0, 0)) zz4 hb); have n1_ := Aside0.mk (blk_below (g := gb101) (o := .cells #[.int .i64 a1_0, .int .i64 a1_1, .string a1_2] 23 (0, 0)) zz13 hb); have n2_ := Aside0.mk (below_step zz14 hb); clear BK100; clear BK101; clear HB; have BK100 := n0_; have BK101 := n1_; have HB := n2_; clear n0_ n1_ n2_; (try clear hb); (try clear hb2); (try clear hk); (try clear hi); refine hK.out _ _ ⟨cK BK100 0, cK BK100 1, cK BK100 2, cK BK101 0, cK BK101 1, cK BK101 2⟩ (fun hHeld => ?_); clear hK K; refine norm_ (a' := ?_) ?_ ?_; rotate_left
    ·show Act.put _ (some 8) _ = _
     simp only [Act.put, List.setIfInBounds_toArray, List.set_cons_zero, List.set_cons_succ, i64_w, i32_w]
     rfl
    refine last_ (i := 4) (N := none) (bA 6 31) rfl rfl (by kernel_rfl) (by decide) (fun K hK => ?_); have hs85 : w84.cell? ⟨gb100, 0, none⟩ = some (.int .i64 a0_0) := cK BK100 0; have hfs85 := blk_frozen BK100.out 0; have hns85_1 := NB101_100.out; have hms85_1 := NB100_101.out; have hs86 : w84.cell? ⟨gb100, 1, none⟩ = some (.int .i64 a0_1) := cK BK100 1; have hfs86 := blk_frozen BK100.out 1; have hns86_1 := NB101_100.out; have hms86_1 := NB100_101.out; have hs87 : w84.cell? ⟨gb100, 2, none⟩ = some (.string a0_2) := cK BK100 2; have hfs87 := blk_frozen BK100.out 2; have hns87_1 := NB101_100.out; have hms87_1 := NB100_101.out; refine skip_ (w1 := ?_) (by rfl) rfl ?_ ?_; rotate_left
    ·go_simp
     rfl
    refine hK.out _ _ ?_; clear hK K; refine last_ (i := 5) (N := none) (bA 6 63) rfl rfl (by kernel_rfl) (by decide) (fun K hK => ?_); have hs88 : w84.cell? ⟨gb101, 0, none⟩ = some (.int .i64 a1_0) := cK BK101 0; have hfs88 := blk_frozen BK101.out 0; have hns88_0 := NB100_101.out; have hms88_0 := NB101_100.out; have hs89 : w84.cell? ⟨gb101, 1, none⟩ = some (.int .i64 a1_1) := cK BK101 1; have hfs89 := blk_frozen BK101.out 1; have hns89_0 := NB100_101.out; have hms89_0 := NB101_100.out; have hs90 : w84.cell? ⟨gb101, 2, none⟩ = some (.string a1_2) := cK BK101 2; have hfs90 := blk_frozen BK101.out 2; have hns90_0 := NB100_101.out; have hms90_0 := NB101_100.out; refine skip_ (w1 := ?_) (by rfl) rfl ?_ ?_; rotate_left
    ·go_simp
     rfl
    refine hK.out _ _ ?_; clear hK K; refine done_ (by kernel_rfl) ?_; have hnb91 := NB100_101.out; have hnc91 := NB101_100.out; have hcz92_0 : w84.cell? ⟨gb100, 0, none⟩ = some (.int .i64 a0_0) := cK BK100 0; have hcz92_1 : w84.cell? ⟨gb100, 1, none⟩ = some (.int .i64 a0_1) := cK BK100 1; have hcz92_2 : w84.cell? ⟨gb100, 2, none⟩ = some (.string a0_2) := cK BK100 2; have hfz92_0 := blk_frozen BK100.out 0; have hfz92_1 := blk_frozen BK100.out 1; have hfz92_2 := blk_frozen BK100.out 2; have hcz93_0 : w84.cell? ⟨gb101, 0, none⟩ = some (.int .i64 a1_0) := cK BK101 0; have hcz93_1 : w84.cell? ⟨gb101, 1, none⟩ = some (.int .i64 a1_1) := cK BK101 1; have hcz93_2 : w84.cell? ⟨gb101, 2, none⟩ = some (.string a1_2) := cK BK101 2; have hfz93_0 := blk_frozen BK101.out 0; have hfz93_1 := blk_frozen BK101.out 1; have hfz93_2 := blk_frozen BK101.out 2
    try go_wp2
    (try (· (rename_i hx_; exfalso; simp only [c35b0, Bool.true_and, Bool.and_eq_false_iff] at c5b0; simp [hx_.1, hx_.2] at c5b0)))
    go_ret
    exact ⟨zz6, zz14⟩
mutual
def erasureref01_CompareRows.l0 : Nat → List (S23) → List (S23) → Int → Option (Int)
 | 0, _, _, _ => none
 | k + 1, x0, x1, x5 => if x5 < (x0.length : Int) then (erasureref01_CompareRows.j1 k x0 x1 x5 (decide (x5 < (x1.length : Int)))) else (erasureref01_CompareRows.j1 k x0 x1 x5 false)
def erasureref01_CompareRows.j1 : Nat → List (S23) → List (S23) → Int → Bool → Option (Int)
 | 0, _, _, _, _ => none
 | k + 1, x0, x1, x5, x16 => if x16 = true then (if 0 ≤ x5 then (if x5 < (x0.length : Int) then (if x5 < (x1.length : Int) then ((erasureref01_Compare.f ((rd_T23 x0 x5).f0) ((rd_T23 x0 x5).f1) ((rd_T23 x0 x5).f2) ((rd_T23 x1 x5).f0) ((rd_T23 x1 x5).f1) ((rd_T23 x1 x5).f2)).bind fun t376 => (if t376 = 0 then (erasureref01_CompareRows.l0 k x0 x1 (wrap64 (x5 + 1))) else (some t376))) else (none)) else (none)) else (none)) else (if (x0.length : Int) < (x1.length : Int) then (some (-1)) else (if (x0.length : Int) > (x1.length : Int) then (some 1) else (some 0)))
end
def erasureref01_CompareRows.f (k : Nat) (l0 : List (S23)) (l1 : List (S23)) : Option (Int) := erasureref01_CompareRows.l0 k l0 l1 0
theorem erasureref01_CompareRows.mono_l : ∀ k, (∀ y0 y1 y2, LeO (erasureref01_CompareRows.l0 k y0 y1 y2) (erasureref01_CompareRows.l0 (k + 1) y0 y1 y2)) ∧ (∀ y0 y1 y2 y3, LeO (erasureref01_CompareRows.j1 k y0 y1 y2 y3) (erasureref01_CompareRows.j1 (k + 1) y0 y1 y2 y3))
 | 0 => ⟨fun _ _ _ r h => by simp [erasureref01_CompareRows.l0] at h, fun _ _ _ _ r h => by simp [erasureref01_CompareRows.j1] at h⟩
 | k + 1 => by
  obtain ⟨ih0, ih1⟩ := erasureref01_CompareRows.mono_l k; refine ⟨?_, ?_⟩
  ·intro y0 y1 y2; unfold erasureref01_CompareRows.l0
   repeat' first
   | (with_reducible exact ih0 _ _ _)
   | (with_reducible exact ih1 _ _ _ _)
   | (with_reducible exact LeO.refl _)
   | (with_reducible exact LeO.none _)
   | (with_reducible refine LeO.ite ?_ ?_)
   | (with_reducible refine LeO.bind ?_ (fun _ => ?_))
   | exact ih0 _ _ _
   | exact ih1 _ _ _ _
   | exact LeO.none _
   | refine LeO.ite ?_ ?_
   | refine LeO.bind ?_ (fun _ => ?_)
  ·intro y0 y1 y2 y3; unfold erasureref01_CompareRows.j1
   repeat' first
   | (with_reducible exact ih0 _ _ _)
   | (with_reducible exact ih1 _ _ _ _)
   | (with_reducible exact LeO.refl _)
   | (with_reducible exact LeO.none _)
   | (with_reducible refine LeO.ite ?_ ?_)
   | (with_reducible refine LeO.bind ?_ (fun _ => ?_))
   | exact ih0 _ _ _
   | exact ih1 _ _ _ _
   | exact LeO.none _
   | refine LeO.ite ?_ ?_
   | refine LeO.bind ?_ (fun _ => ?_)
theorem erasureref01_CompareRows.mono : ∀ a0 a1 k, LeO (erasureref01_CompareRows.f k a0 a1) (erasureref01_CompareRows.f (k + 1) a0 a1) := by
 intro a0 a1 k; obtain ⟨ih0, ih1⟩ := erasureref01_CompareRows.mono_l k; unfold erasureref01_CompareRows.f
 repeat' first
   | (with_reducible exact ih0 _ _ _)
   | (with_reducible exact ih1 _ _ _ _)
   | (with_reducible exact LeO.refl _)
   | (with_reducible exact LeO.none _)
   | (with_reducible refine LeO.ite ?_ ?_)
   | (with_reducible refine LeO.bind ?_ (fun _ => ?_))
   | exact ih0 _ _ _
   | exact ih1 _ _ _ _
   | exact LeO.none _
   | refine LeO.ite ?_ ?_
   | refine LeO.bind ?_ (fun _ => ?_)
def erasureref01_CompareRows.T4 : Bool × List (List Nat × List Nat) := (true, [([], []), ([], []), ([0, 1], [0, 1]), ([2], [2]), ([], []), ([], []), ([4, 5], [4, 5]), ([6], [6]), ([3, 7], [3, 7]), ([8, 8, 0, 1, 2, 3, 4, 5, 6, 7, 8], [8])])
def erasureref01_CompareRows.B4 : List Nat := [0, 0, 3, 7, 0, 0, 48, 112, 255, 511]
theorem erasureref01_CompareRows.tab4 : rtab .any (opsOf Try.f93 4) = erasureref01_CompareRows.T4 := by kernel_rfl
theorem erasureref01_CompareRows.bits4 : waitsOk erasureref01_CompareRows.T4.2 erasureref01_CompareRows.B4 = true := by kernel_rfl
set_option maxHeartbeats 8000000 in
set_option maxRecDepth 100000 in
theorem erasureref01_CompareRows.calls (k : Nat) (A0 : Option Addr) (c0 : Nat) (l0 : List (S23)) (A1 : Option Addr) (c1 : Nat) (l1 : List (S23)) (r : Int) (w : World) (hr0 : Kd.C k23 w A0 l0.length l0) (hc0 : l0.length ≤ c0) (hr1 : Kd.C k23 w A1 l1.length l1) (hc1 : l1.length ≤ c1) (h : erasureref01_CompareRows.f k l0 l1 = some r) :
  Calls Try.prog 93 #[.slice A0 l0.length c0, .slice A1 l1.length c1] w fun e w' => e = .returned (.int .i64 r) ∧ Below w.heap.size w w' := by
 have hu23 := Try.underlying23; have HR0 := Aside0.mk hr0; have HC0 := Aside0.mk hc0; clear hr0 hc0; have HR1 := Aside0.mk hr1; have HC1 := Aside0.mk hc1; clear hr1 hc1; have HB := Aside0.mk (Below.refl w.heap.size w); have H : (erasureref01_CompareRows.l0 k l0 l1 0) = some r := h; clear h; have H' := Aside0.mk H; clear H
 go_enter Try.func93, Try.ntmps93
 go_wp2
 go_loopg [5] k (fun kq v5 w' => ∃ (x5_1 : Int), v5 = .int .i64 x5_1 ∧ Aside0 (erasureref01_CompareRows.l0 kq l0 l1 x5_1 = some r) ∧ Aside0 (kq ≤ k) ∧ Aside0 (Below w.heap.size w w'))
 case atStart => exact ⟨(0), zz2, H', ⟨Nat.le_refl _⟩, ⟨zz0⟩⟩
 case round =>
  clear H'; (try clear c1); (try clear p2); obtain ⟨x5_1, rfl, HA, HK1, HB⟩ := hrel
  cases gk with
  | zero => exact absurd HA.out (by simp [erasureref01_CompareRows.l0])
  | succ k1 =>
   have H := HA.out; clear HA; simp only [erasureref01_CompareRows.l0] at H; have HC3 := Aside0.mk H; clear H
   go_upto_region 2 with (fail)
   go_cut [16] (fun v16 wc => ∃ (kq : Nat) (x16_2 : Bool), v16 = .bool x16_2 ∧ Aside0 (erasureref01_CompareRows.j1 kq l0 l1 x5_1 x16_2 = some r) ∧ Aside0 (kq ≤ k1) ∧ Aside0 (Below w.heap.size w wc))
   case first =>
    have H := HC3.out; clear HC3
    by_cases c4 : x5_1 < (l0.length : Int)
    ·rw [if_pos c4] at H; have c4b0 : decide (x5_1 < (l0.length : Int)) = true := decide_eq_true c4; clear c4; (first | rw [c4b0] | (simp only [i64_w, i32_w]; rw [c4b0]) | skip); have H' := Aside0.mk H; clear H
     go_wp2
     go_meet
     case rel => exact ⟨_, (decide (x5_1 < (l1.length : Int))), zz2, H', ⟨zz83⟩, ⟨zz0⟩⟩
    ·rw [if_neg c4] at H; have c4b0 : decide (x5_1 < (l0.length : Int)) = false := decide_eq_false c4; clear c4; (first | rw [c4b0] | (simp only [i64_w, i32_w]; rw [c4b0]) | skip); have H' := Aside0.mk H; clear H
     go_wp2
     go_meet
     case rel => exact ⟨_, (false), zz2, H', ⟨zz83⟩, ⟨zz0⟩⟩
   case rest =>
    clear HC3; (try clear c1); (try clear p2); (try clear c4); (try clear c4b0); (try clear p2); obtain ⟨kq, x16_2, rfl, HA, HJ2, HB⟩ := hcut
    cases kq with
    | zero => exact absurd HA.out (by simp [erasureref01_CompareRows.j1])
    | succ kj2 =>
     have H := HA.out; clear HA; simp only [erasureref01_CompareRows.j1] at H
     by_cases c5 : x16_2 = true
     ·subst c5; have H1 : (if 0 ≤ x5_1 then (if x5_1 < (l0.length : Int) then (if x5_1 < (l1.length : Int) then ((erasureref01_Compare.f ((rd_T23 l0 x5_1).f0) ((rd_T23 l0 x5_1).f1) ((rd_T23 l0 x5_1).f2) ((rd_T23 l1 x5_1).f0) ((rd_T23 l1 x5_1).f1) ((rd_T23 l1 x5_1).f2)).bind fun t376 => (if t376 = 0 then (erasureref01_CompareRows.l0 kj2 l0 l1 (wrap64 (x5_1 + 1))) else (some t376))) else (none)) else (none)) else (none)) = some r := by rw [if_pos rfl] at H; exact H
      clear H; have H := H1; clear H1
      by_cases c6 : 0 ≤ x5_1
      ·rw [if_pos c6] at H; have c6b0 : decide (0 ≤ x5_1) = true := decide_eq_true c6; clear c6
       by_cases c7 : x5_1 < (l0.length : Int)
       ·rw [if_pos c7] at H; have c7b0 : decide (x5_1 < (l0.length : Int)) = true := decide_eq_true c7; clear c7
        by_cases c8 : x5_1 < (l1.length : Int)
        ·rw [if_pos c8] at H; have c8b0 : decide (x5_1 < (l1.length : Int)) = true := decide_eq_true c8; clear c8; replace H := Option.bind_eq_some_iff.mp H; obtain ⟨t376, A90, H⟩ := H; replace H : (if t376 = 0 then (erasureref01_CompareRows.l0 kj2 l0 l1 (wrap64 (x5_1 + 1))) else (some t376)) = some r := H; have A9 := Aside0.mk A90; clear A90
         by_cases c10 : t376 = 0
         ·rw [if_pos c10] at H; have c10b0 : (t376 == 0) = true := beq_iff_eq.mpr c10; have c10b1 : (t376 != 0) = false := bne_eq_false_iff_eq.mpr c10; clear c10; have H' := Aside0.mk H; clear H
          try go_wp2
          have n0_ := Aside0.mk (below_drew1 HB.out); clear HB; have HB := n0_; clear n0_; have p374 : 0 ≤ (x5_1 : Int) := of_decide_eq_true zz9; have q374 : x5_1 < (l0.length : Int) := of_decide_eq_true zz9; obtain ⟨ad374, e374, hx374_0, hx374_1, hx374_2⟩ := at_T23 HR0.out x5_1 p374 q374; have hw374_2 := hx374_2; have hw374_1 := hx374_1; have hw374_0 := hx374_0
          cases e374
          replace hx374_0 := cB HB hx374_0; replace hx374_1 := cB HB hx374_1; replace hx374_2 := cB HB hx374_2; replace p374 := eq_true p374; replace q374 := eq_true q374; have p375 : 0 ≤ (x5_1 : Int) := of_decide_eq_true zz9; have q375 : x5_1 < (l1.length : Int) := of_decide_eq_true zz9; obtain ⟨ad375, e375, hx375_0, hx375_1, hx375_2⟩ := at_T23 HR1.out x5_1 p375 q375; have hw375_2 := hx375_2; have hw375_1 := hx375_1; have hw375_0 := hx375_0
          cases e375
          replace hx375_0 := cB HB hx375_0; replace hx375_1 := cB HB hx375_1; replace hx375_2 := cB HB hx375_2; replace p375 := eq_true p375; replace q375 := eq_true q375; refine start_ (n := 10) (S := fun w' => w'.cell? (ad374.add ((x5_1).toNat * 3)) = some (.int .i64 ((rd_T23 l0 x5_1).f0)) ∧ w'.cell? ⟨(ad374.add ((x5_1).toNat * 3)).block, (ad374.add ((x5_1).toNat * 3)).off + 1, none⟩ = some (.int .i64 ((rd_T23 l0 x5_1).f1)) ∧ w'.cell? ⟨(ad374.add ((x5_1).toNat * 3)).block, (ad374.add ((x5_1).toNat * 3)).off + 2, none⟩ = some (.string ((rd_T23 l0 x5_1).f2)) ∧ w'.cell? (ad375.add ((x5_1).toNat * 3)) = some (.int .i64 ((rd_T23 l1 x5_1).f0)) ∧ w'.cell? ⟨(ad375.add ((x5_1).toNat * 3)).block, (ad375.add ((x5_1).toNat * 3)).off + 1, none⟩ = some (.int .i64 ((rd_T23 l1 x5_1).f1)) ∧ w'.cell? ⟨(ad375.add ((x5_1).toNat * 3)).block, (ad375.add ((x5_1).toNat * 3)).off + 2, none⟩ = some (.string ((rd_T23 l1 x5_1).f2))) (ds := []) (.replicate 10 false) (by kernel_rfl) rfl rfl ⟨(cB HB hw374_0), (cB HB hw374_1), (cB HB hw374_2), (cB HB hw375_0), (cB HB hw375_1), (cB HB hw375_2)⟩ (fun hHeld => ?_); refine with_tabW erasureref01_CompareRows.tab4 erasureref01_CompareRows.bits4 (fun HT_ HW_ => ?_); generalize wc.drew = w11 at HB hx374_0 hx374_1 hx374_2 hx375_0 hx375_1 hx375_2 hHeld ⊢; refine pV 0 19 (bA 10 1) HT_ ?_; refine pV 1 20 (bA 10 3) HT_ ?_; refine pV 2 21 (bA 10 7) HT_ ?_; refine pV 4 23 (bA 10 23) HT_ ?_; refine pV 5 24 (bA 10 55) HT_ ?_; refine pV 6 25 (bA 10 119) HT_ ?_; refine tV (v := ?_) 3 22 (bA 10 127) HT_ HW_ hHeld ?_ ?_; rotate_left
          ·rintro w' ⟨s0, s1, s2, s3, s4, s5⟩
           go_simp
           (with_reducible rfl)
          refine tV (v := ?_) 7 26 (bA 10 255) HT_ HW_ hHeld ?_ ?_; rotate_left
          ·rintro w' ⟨s0, s1, s2, s3, s4, s5⟩
           go_simp
           (with_reducible rfl)
          refine oN 8 27 (bA 10 511) HT_ (fun K hK => ?_); refine goes_ Try.func114 (by kernel_rfl) rfl #[.agg #[.int .i64 ((rd_T23 l0 x5_1).f0), .int .i64 ((rd_T23 l0 x5_1).f1), .string ((rd_T23 l0 x5_1).f2)], .agg #[.int .i64 ((rd_T23 l1 x5_1).f0), .int .i64 ((rd_T23 l1 x5_1).f1), .string ((rd_T23 l1 x5_1).f2)]] (by rfl) rfl rfl zz8 ?_; (with_reducible refine (erasureref01_Compare.calls ((rd_T23 l0 x5_1).f0) ((rd_T23 l0 x5_1).f1) ((rd_T23 l0 x5_1).f2) ((rd_T23 l1 x5_1).f0) ((rd_T23 l1 x5_1).f1) ((rd_T23 l1 x5_1).f2) t376 _ A9.out).mono ?_); rintro e w12 ⟨rfl, hb⟩; refine ⟨_, rfl, ?_⟩; have n0_ := Aside0.mk (below_step zz0 hb); clear HB; have HB := n0_; clear n0_; (try clear hb); (try clear hb2); (try clear hk); (try clear hi); refine hK.out _ _ ⟨(cB HB hw374_0), (cB HB hw374_1), (cB HB hw374_2), (cB HB hw375_0), (cB HB hw375_1), (cB HB hw375_2)⟩ (fun hHeld => ?_); clear hK K; refine norm_ (a' := ?_) ?_ ?_; rotate_left
          ·show Act.put _ (some 27) _ = _
           simp only [Act.put, List.setIfInBounds_toArray, List.set_cons_zero, List.set_cons_succ, i64_w, i32_w]
           rfl
          refine pV 9 6 (bA 10 1023) HT_ ?_; refine done_ (done_of HT_.out (by kernel_rfl)) ?_
          try go_wp2
          go_roundg kj2
          case measure => have := HK1.out; have := HJ2.out; omega
          case rel => exact ⟨(wrap64 (x5_1 + 1)), zz2, H', ⟨by have := HK1.out; have := HJ2.out; omega⟩, ⟨zz0⟩⟩
         ·rw [if_neg c10] at H; have c10b0 : (t376 == 0) = false := beq_eq_false_iff_ne.mpr c10; have c10b1 : (t376 != 0) = true := bne_iff_ne.mpr c10; obtain rfl := Option.some.inj H
          try go_wp2
          have n0_ := Aside0.mk (below_drew1 HB.out); clear HB; have HB := n0_; clear n0_; have p374 : 0 ≤ (x5_1 : Int) := of_decide_eq_true zz9; have q374 : x5_1 < (l0.length : Int) := of_decide_eq_true zz9; obtain ⟨ad374, e374, hx374_0, hx374_1, hx374_2⟩ := at_T23 HR0.out x5_1 p374 q374; have hw374_2 := hx374_2; have hw374_1 := hx374_1; have hw374_0 := hx374_0
          cases e374
          replace hx374_0 := cB HB hx374_0; replace hx374_1 := cB HB hx374_1; replace hx374_2 := cB HB hx374_2; replace p374 := eq_true p374; replace q374 := eq_true q374; have p375 : 0 ≤ (x5_1 : Int) := of_decide_eq_true zz9; have q375 : x5_1 < (l1.length : Int) := of_decide_eq_true zz9; obtain ⟨ad375, e375, hx375_0, hx375_1, hx375_2⟩ := at_T23 HR1.out x5_1 p375 q375; have hw375_2 := hx375_2; have hw375_1 := hx375_1; have hw375_0 := hx375_0
          cases e375
          replace hx375_0 := cB HB hx375_0; replace hx375_1 := cB HB hx375_1; replace hx375_2 := cB HB hx375_2; replace p375 := eq_true p375; replace q375 := eq_true q375; refine start_ (n := 10) (S := fun w' => w'.cell? (ad374.add ((x5_1).toNat * 3)) = some (.int .i64 ((rd_T23 l0 x5_1).f0)) ∧ w'.cell? ⟨(ad374.add ((x5_1).toNat * 3)).block, (ad374.add ((x5_1).toNat * 3)).off + 1, none⟩ = some (.int .i64 ((rd_T23 l0 x5_1).f1)) ∧ w'.cell? ⟨(ad374.add ((x5_1).toNat * 3)).block, (ad374.add ((x5_1).toNat * 3)).off + 2, none⟩ = some (.string ((rd_T23 l0 x5_1).f2)) ∧ w'.cell? (ad375.add ((x5_1).toNat * 3)) = some (.int .i64 ((rd_T23 l1 x5_1).f0)) ∧ w'.cell? ⟨(ad375.add ((x5_1).toNat * 3)).block, (ad375.add ((x5_1).toNat * 3)).off + 1, none⟩ = some (.int .i64 ((rd_T23 l1 x5_1).f1)) ∧ w'.cell? ⟨(ad375.add ((x5_1).toNat * 3)).block, (ad375.add ((x5_1).toNat * 3)).off + 2, none⟩ = some (.string ((rd_T23 l1 x5_1).f2))) (ds := []) (.replicate 10 false) (by kernel_rfl) rfl rfl ⟨(cB HB hw374_0), (cB HB hw374_1), (cB HB hw374_2), (cB HB hw375_0), (cB HB hw375_1), (cB HB hw375_2)⟩ (fun hHeld => ?_); refine with_tabW erasureref01_CompareRows.tab4 erasureref01_CompareRows.bits4 (fun HT_ HW_ => ?_); generalize wc.drew = w13 at HB hx374_0 hx374_1 hx374_2 hx375_0 hx375_1 hx375_2 hHeld ⊢; refine pV 0 19 (bA 10 1) HT_ ?_; refine pV 1 20 (bA 10 3) HT_ ?_; refine pV 2 21 (bA 10 7) HT_ ?_; refine pV 4 23 (bA 10 23) HT_ ?_; refine pV 5 24 (bA 10 55) HT_ ?_; refine pV 6 25 (bA 10 119) HT_ ?_; refine tV (v := ?_) 3 22 (bA 10 127) HT_ HW_ hHeld ?_ ?_; rotate_left
          ·rintro w' ⟨s0, s1, s2, s3, s4, s5⟩
           go_simp
           (with_reducible rfl)
          refine tV (v := ?_) 7 26 (bA 10 255) HT_ HW_ hHeld ?_ ?_; rotate_left
          ·rintro w' ⟨s0, s1, s2, s3, s4, s5⟩
           go_simp
           (with_reducible rfl)
          refine oN 8 27 (bA 10 511) HT_ (fun K hK => ?_); refine goes_ Try.func114 (by kernel_rfl) rfl #[.agg #[.int .i64 ((rd_T23 l0 x5_1).f0), .int .i64 ((rd_T23 l0 x5_1).f1), .string ((rd_T23 l0 x5_1).f2)], .agg #[.int .i64 ((rd_T23 l1 x5_1).f0), .int .i64 ((rd_T23 l1 x5_1).f1), .string ((rd_T23 l1 x5_1).f2)]] (by rfl) rfl rfl zz8 ?_; (with_reducible refine (erasureref01_Compare.calls ((rd_T23 l0 x5_1).f0) ((rd_T23 l0 x5_1).f1) ((rd_T23 l0 x5_1).f2) ((rd_T23 l1 x5_1).f0) ((rd_T23 l1 x5_1).f1) ((rd_T23 l1 x5_1).f2) t376 _ A9.out).mono ?_); rintro e w14 ⟨rfl, hb⟩; refine ⟨_, rfl, ?_⟩; have n0_ := Aside0.mk (below_step zz0 hb); clear HB; have HB := n0_; clear n0_; (try clear hb); (try clear hb2); (try clear hk); (try clear hi); refine hK.out _ _ ⟨(cB HB hw374_0), (cB HB hw374_1), (cB HB hw374_2), (cB HB hw375_0), (cB HB hw375_1), (cB HB hw375_2)⟩ (fun hHeld => ?_); clear hK K; refine norm_ (a' := ?_) ?_ ?_; rotate_left
          ·show Act.put _ (some 27) _ = _
           simp only [Act.put, List.setIfInBounds_toArray, List.set_cons_zero, List.set_cons_succ, i64_w, i32_w]
           rfl
          refine pV 9 6 (bA 10 1023) HT_ ?_; refine done_ (done_of HT_.out (by kernel_rfl)) ?_
          try go_wp2
          go_ret
          exact ⟨zz6, zz0⟩
        ·rw [if_neg c8] at H; exact absurd H (by simp)
       ·rw [if_neg c7] at H; exact absurd H (by simp)
      ·rw [if_neg c6] at H; exact absurd H (by simp)
     ·replace c5 := Bool.eq_false_iff.mpr c5; subst c5; have H1 : (if (l0.length : Int) < (l1.length : Int) then (some (-1)) else (if (l0.length : Int) > (l1.length : Int) then (some 1) else (some 0))) = some r := by rw [if_neg (show ¬ (false = true) by decide)] at H; exact H
      clear H; have H := H1; clear H1
      by_cases c15 : (l0.length : Int) < (l1.length : Int)
      ·rw [if_pos c15] at H; have c15b0 : decide ((l0.length : Int) < (l1.length : Int)) = true := decide_eq_true c15; have c15b1 : decide (l0.length < l1.length) = true := decide_eq_true (Int.ofNat_lt.mp c15); clear c15; obtain rfl := Option.some.inj H
       go_wp2
       go_ret
       exact ⟨zz6, zz0⟩
      ·rw [if_neg c15] at H; have c15b0 : decide ((l0.length : Int) < (l1.length : Int)) = false := decide_eq_false c15; have c15b1 : decide (l0.length < l1.length) = false := decide_eq_false (fun h => c15 (Int.ofNat_lt.mpr h)); clear c15
       by_cases c16 : (l0.length : Int) > (l1.length : Int)
       ·rw [if_pos c16] at H; have c16b0 : decide ((l1.length : Int) < (l0.length : Int)) = true := decide_eq_true c16; have c16b1 : decide (l1.length < l0.length) = true := decide_eq_true (Int.ofNat_lt.mp c16); clear c16; obtain rfl := Option.some.inj H
        go_wp2
        go_ret
        exact ⟨zz6, zz0⟩
       ·rw [if_neg c16] at H; have c16b0 : decide ((l1.length : Int) < (l0.length : Int)) = false := decide_eq_false c16; have c16b1 : decide (l1.length < l0.length) = false := decide_eq_false (fun h => c16 (Int.ofNat_lt.mpr h)); clear c16; obtain rfl := Option.some.inj H
        go_wp2
        go_ret
        exact ⟨zz6, zz0⟩
end Go.Proofs.Ythicocmnefaioaa.QS

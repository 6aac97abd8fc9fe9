import Derived.Test.YthicocmnefaioaaZm5
namespace Go.Proofs.Ythicocmnefaioaa.QS
open Go.RowKit Go.Proofs.YthicocmnefaioaaW.dx Go.Proofs.YthicocmnefaioaaW.jF Go.Proofs.YthicocmnefaioaaW.lI
open Go.Proofs.YthicocmnefaioaaW.Sq
attribute [local go_sem] pY pW sD sw og nZ pX pR
set_option linter.unusedVariables false
set_option linter.unusedSimpArgs false
attribute [local go_sem high] jX
def bD.l0 : Nat → List (S23) → Int → Option (Bool)
 | 0, _, _ => none
 | k + 1, x0, x3 => if x3 < (x0.length : Int) then (if 0 ≤ x3 then ((iV.f ((aZ x0 x3).f0) ((aZ x0 x3).f1) ((aZ x0 x3).f2)).bind fun t409 => (if t409 = true then (bD.l0 k x0 (wrap64 (x3 + 1))) else (some false))) else (none)) else (some true)
def bD.f (k : Nat) (l0 : List (S23)) : Option (Bool) := if (l0.length : Int) > 16 then (some false) else (bD.l0 k l0 0)
theorem bD.gU : ∀ k, (∀ y0 y1, LeO (bD.l0 k y0 y1) (bD.l0 (k + 1) y0 y1))
 | 0 => fun _ _ r h => by simp [bD.l0] at h
 | k + 1 => by
  have ih0 := bD.gU k
  ·intro y0 y1; unfold bD.l0
   repeat' first
   | (with_reducible exact ih0 _ _)
   | (with_reducible exact LeO.refl _)
   | (with_reducible exact LeO.none _)
   | (with_reducible refine LeO.ite ?_ ?_)
   | (with_reducible refine LeO.bind ?_ (fun _ => ?_))
   | exact ih0 _ _
   | exact LeO.none _
   | refine LeO.ite ?_ ?_
   | refine LeO.bind ?_ (fun _ => ?_)
theorem bD.mono : ∀ a0 k, LeO (bD.f k a0) (bD.f (k + 1) a0) := by
 intro a0 k; have ih0 := bD.gU k; unfold bD.f
 repeat' first
   | (with_reducible exact ih0 _ _)
   | (with_reducible exact LeO.refl _)
   | (with_reducible exact LeO.none _)
   | (with_reducible refine LeO.ite ?_ ?_)
   | (with_reducible refine LeO.bind ?_ (fun _ => ?_))
   | exact ih0 _ _
   | exact LeO.none _
   | refine LeO.ite ?_ ?_
   | refine LeO.bind ?_ (fun _ => ?_)
set_option maxHeartbeats 8000000 in
set_option maxRecDepth 100000 in
theorem bD.calls (k : Nat) (A0 : Option Addr) (c0 : Nat) (l0 : List (S23)) (r : Bool) (w : World) (hr0 : Kd.C k23 w A0 l0.length l0) (hc0 : l0.length ≤ c0) (h : bD.f k l0 = some r) :
  Calls Try.prog 88 #[.slice A0 l0.length c0] w fun e w' => e = .returned (.bool r) ∧ Below w.heap.size w w' := by
 have vI := Try.underlying23; have HR0 := ah.mk hr0; have HC0 := ah.mk hc0; clear hr0 hc0; have HB := ah.mk (Below.refl w.heap.size w); have H := h; clear h
 dsimp only [bD.f] at H
 by_cases c2 : (l0.length : Int) > 16
 ·rw [if_pos c2] at H; have oH : decide (16 < (l0.length : Int)) = true := decide_eq_true c2; have zN : decide (16 < l0.length) = true := decide_eq_true (by omega); clear c2; obtain rfl := Option.some.inj H
  go_enter Try.func88, Try.ntmps88
  go_wp2
  go_ret
  exact ⟨zz6, zz1⟩
 ·rw [if_neg c2] at H; have oH : decide (16 < (l0.length : Int)) = false := decide_eq_false c2; have zN : decide (16 < l0.length) = false := decide_eq_false (by omega); clear c2; have H' := ah.mk H; clear H
  go_enter Try.func88, Try.ntmps88
  go_wp2
  go_loopg [3] k (fun kq v3 w' => ∃ (dz : Int), v3 = .int .i64 dz ∧ ah (bD.l0 kq l0 dz = some r) ∧ ah (kq ≤ k) ∧ ah (Below w.heap.size w w'))
  case atStart => exact ⟨(0), zz2, H', ⟨Nat.le_refl _⟩, ⟨zz1⟩⟩
  case round =>
   clear H'; (try clear c2); (try clear oH); (try clear zN); (try clear p2); obtain ⟨dz, rfl, HA, HK1, HB⟩ := hrel
   cases gk with
   | zero => exact absurd HA.out (by simp [bD.l0])
   | succ k1 =>
    have H := HA.out; clear HA; simp only [bD.l0] at H
    by_cases c3 : dz < (l0.length : Int)
    ·rw [if_pos c3] at H; have tY : decide (dz < (l0.length : Int)) = true := decide_eq_true c3; clear c3
     by_cases c4 : 0 ≤ dz
     ·rw [if_pos c4] at H; have lG : decide (0 ≤ dz) = true := decide_eq_true c4; clear c4; replace H := Option.bind_eq_some_iff.mp H; obtain ⟨t409, A50, H⟩ := H; have A5 := ah.mk A50; clear A50
      by_cases c6 : t409 = true
      ·subst c6; rw [if_pos rfl] at H; have H' := ah.mk H; clear H; have Ph : 0 ≤ (dz : Int) := of_decide_eq_true zz9; have OP : dz < (l0.length : Int) := of_decide_eq_true zz9; obtain ⟨ad408, e408, Bn, Bl, Bj⟩ := ni HR0.out dz Ph OP
       cases e408
       replace Bn := cB HB Bn; replace Bl := cB HB Bl; replace Bj := cB HB Bj; replace Ph := eq_true Ph; replace OP := eq_true OP
       go_wp2_with (first | ((with_reducible refine aN (f := 111) rfl ?_); refine bU (some 17) rfl rfl Try.func111 (by kernel_rfl) rfl #[.agg #[.int .i64 ((aZ l0 dz).f0), .int .i64 ((aZ l0 dz).f1), .string ((aZ l0 dz).f2)]] rfl zz8 ?_; (with_reducible refine (iV.calls ((aZ l0 dz).f0) ((aZ l0 dz).f1) ((aZ l0 dz).f2) true _ A5.out).mono ?_); rintro e w7 ⟨rfl, hb⟩; refine ⟨_, rfl, ?_⟩; replace HB := ah.mk (av zz1 hb); (try clear hb); (try clear hb2); (try clear hk); (try clear hi)))
       go_roundg k1
       case measure => have := HK1.out; omega
       case rel => exact ⟨(wrap64 (dz + 1)), zz2, H', ⟨by have := HK1.out; omega⟩, ⟨zz1⟩⟩
      ·replace c6 := Bool.eq_false_iff.mpr c6; subst c6; rw [if_neg (show ¬ (false = true) by decide)] at H; obtain rfl := Option.some.inj H; have Ph : 0 ≤ (dz : Int) := of_decide_eq_true zz9; have OP : dz < (l0.length : Int) := of_decide_eq_true zz9; obtain ⟨ad408, e408, Bn, Bl, Bj⟩ := ni HR0.out dz Ph OP
       cases e408
       replace Bn := cB HB Bn; replace Bl := cB HB Bl; replace Bj := cB HB Bj; replace Ph := eq_true Ph; replace OP := eq_true OP
       go_wp2_with (first | ((with_reducible refine aN (f := 111) rfl ?_); refine bU (some 17) rfl rfl Try.func111 (by kernel_rfl) rfl #[.agg #[.int .i64 ((aZ l0 dz).f0), .int .i64 ((aZ l0 dz).f1), .string ((aZ l0 dz).f2)]] rfl zz8 ?_; (with_reducible refine (iV.calls ((aZ l0 dz).f0) ((aZ l0 dz).f1) ((aZ l0 dz).f2) false _ A5.out).mono ?_); rintro e w8 ⟨rfl, hb⟩; refine ⟨_, rfl, ?_⟩; replace HB := ah.mk (av zz1 hb); (try clear hb); (try clear hb2); (try clear hk); (try clear hi)))
       go_ret
       exact ⟨zz6, zz1⟩
     ·rw [if_neg c4] at H; exact absurd H (by simp)
    ·rw [if_neg c3] at H; have tY : decide (dz < (l0.length : Int)) = false := decide_eq_false c3; clear c3; obtain rfl := Option.some.inj H
     go_wp2
     go_ret
     exact ⟨zz6, zz1⟩
theorem eqA23 (d : Nat) (w : World) (x0 y0 : Int) (x1 y1 : Int) (x2 y2 : ByteArray) :
  (Op.equalIn (d + 2) 23 (.agg #[.int .i64 x0, .int .i64 x1, .string x2]) (.agg #[.int .i64 y0, .int .i64 y1, .string y2])).run Try.prog w = .ok (x0 == y0 && (x1 == y1 && (x2.toList == y2.toList))) w := by
 refine eqA_of Try.underlying23 (by kernel_rfl) ?_; refine Ns (by rfl) (by go_simp; rfl) (by go_simp; rfl) (by go_simp) ?_; refine Ns (by rfl) (by go_simp; rfl) (by go_simp; rfl) (by go_simp) ?_; exact Ws (by rfl) (by go_simp; rfl) (by go_simp; rfl) (by go_simp)
attribute [local go_sem high] eqA23
def jQ.f (aU : Int) (aT : Int) (aV : ByteArray) (gX : Int) (gW : Int) (gV : ByteArray) : Option (Int) := (dU.f aU aT aV).bind fun Ib => ((dU.f gX gW gV).bind fun Ia => (if (Ib.1 == Ia.1 && (Ib.2.1 == Ia.2.1 && (Ib.2.2.toList == Ia.2.2.toList))) = true then (some 0) else (if Ib.1 < Ia.1 then (some (-1)) else (if Ib.1 = Ia.1 then (if Ib.2.1 < Ia.2.1 then (some (-1)) else (if (Op.bytesLess Ib.2.2.toList Ia.2.2.toList) = true then (some (-1)) else (some 1))) else (some 1)))))
set_option maxHeartbeats 8000000 in
set_option maxRecDepth 100000 in
theorem jQ.calls (aU : Int) (aT : Int) (aV : ByteArray) (gX : Int) (gW : Int) (gV : ByteArray) (r : Int) (w : World) (h : jQ.f aU aT aV gX gW gV = some r) :
  Calls Try.prog 114 #[.agg #[.int .i64 aU, .int .i64 aT, .string aV], .agg #[.int .i64 gX, .int .i64 gW, .string gV]] w fun e w' => e = .returned (.int .i64 r) ∧ Below w.heap.size w w' := by
 have vI := Try.underlying23; have HB := ah.mk (Below.refl w.heap.size w); have H := h; clear h
 dsimp only [jQ.f] at H
 replace H := Option.bind_eq_some_iff.mp H; obtain ⟨⟨uQ, yg, yc⟩, A30, H⟩ := H
 try dsimp only at H
 have A3 := ah.mk A30; clear A30; replace H := Option.bind_eq_some_iff.mp H; obtain ⟨⟨uP, xZ, xY⟩, A40, H⟩ := H
 try dsimp only at H
 have A4 := ah.mk A40; clear A40
 by_cases c5 : (uQ == uP && (yg == xZ && (yc.toList == xY.toList))) = true
 ·rw [if_pos c5] at H; have qN : (uQ == uP && (yg == xZ && (yc.toList == xY.toList))) = true := c5; (try (have NA : decide (uQ = uP && (yg == xZ && (yc.toList == xY.toList))) = true := by simpa using c5)); (try (have c5b2 : (uQ == uP && (yg == xZ && (yc.toList == xY.toList))) = true := by simpa using c5)); clear c5; obtain rfl := Option.some.inj H
  go_enter Try.func114, Try.ntmps114
  try go_wp2_with (first | ((with_reducible refine bE (N := 2) rfl ?_); refine bC ?hg (N := 2) ?hd (cs := #[.int .i64 aU, .int .i64 aT, .string aV]) (t := 23) ?hr ?_; (case hd => rfl); (case hg => rfl); (case hr => first | (go_simp; done) | (go_simp; rfl)); intro au hg w6 bK hb; have ak := ah.mk (bK); have fO := ah.mk ((zz0 : w.heap.size ≤ au)); have fF := ah.mk ((zz0 : w.heap.size ≤ au)); replace HB := ah.mk (av zz1 hb); clear hb bK hg) | ((with_reducible refine bE (N := 3) rfl ?_); refine bC ?hg (N := 3) ?hd (cs := #[.int .i64 gX, .int .i64 gW, .string gV]) (t := 23) ?hr ?_; (case hd => rfl); (case hg => rfl); (case hr => first | (go_simp; done) | (go_simp; rfl)); intro aA hg w7 bK hb; have ay := ah.mk (bK); have jD := ah.mk ((jZ : w.heap.size ≤ aA)); have jr := ah.mk ((jZ : w.heap.size ≤ aA)); replace HB := ah.mk (av zz5 hb); have aQ := ah.mk ((DL : au ≠ aA)); have aY := ah.mk ((DK : aA ≠ au)); replace ak := ah.mk (aG (g := au) (o := .cells #[.int .i64 aU, .int .i64 aT, .string aV] 23 (0, 0)) zz4 hb); clear hb bK hg))
  replace ak := ah.mk (aJ ak.out); replace ay := ah.mk (aJ ay.out); replace HB := ah.mk (bL HB.out); refine jB (n := 6) (S := fun w' => w'.cell? ⟨au, 0, none⟩ = some (.int .i64 aU) ∧ w'.cell? ⟨au, 1, none⟩ = some (.int .i64 aT) ∧ w'.cell? ⟨au, 2, none⟩ = some (.string aV) ∧ w'.cell? ⟨aA, 0, none⟩ = some (.int .i64 gX) ∧ w'.cell? ⟨aA, 1, none⟩ = some (.int .i64 gW) ∧ w'.cell? ⟨aA, 2, none⟩ = some (.string gV)) (ds := [4, 5]) (.replicate 6 false) (by kernel_rfl) rfl rfl ⟨cK ak 0, cK ak 1, cK ak 2, cK ay 0, cK ay 1, cK ay 2⟩ (fun hHeld => ?_); generalize w7.drew = w8 at ak ay HB hHeld ⊢; refine pQ (i := 0) (N := some 5) (v := ?_) (a' := ?_) (bA 6 1) rfl rfl (by kernel_rfl) (fun _ _ _ h => h) (Or.inl ⟨by rfl, ?_⟩) hHeld ?_ ?_; rotate_left
  ·rintro w' ⟨s0, s1, s2, s3, s4, s5⟩
   go_simp
   (with_reducible rfl)
  rotate_left
  ·simp only [Act.put, List.setIfInBounds_toArray, List.set_cons_zero, List.set_cons_succ, dS, eP]
   rfl
  refine pQ (i := 2) (N := some 7) (v := ?_) (a' := ?_) (bA 6 5) rfl rfl (by kernel_rfl) (fun _ _ _ h => h) (Or.inl ⟨by rfl, ?_⟩) hHeld ?_ ?_; rotate_left
  ·rintro w' ⟨s0, s1, s2, s3, s4, s5⟩
   go_simp
   (with_reducible rfl)
  rotate_left
  ·simp only [Act.put, List.setIfInBounds_toArray, List.set_cons_zero, List.set_cons_succ, dS, eP]
   rfl
  refine wL (i := 1) (N := some 6) (bA 6 7) rfl rfl (by kernel_rfl) (by decide) (fun K hK => ?_); refine iy Try.func84 (by kernel_rfl) rfl #[.agg #[.int .i64 aU, .int .i64 aT, .string aV]] (by rfl) rfl rfl zz8 ?_; (with_reducible refine (dU.calls aU aT aV uQ yg yc _ A3.out).mono ?_); rintro e w9 ⟨rfl, hb⟩; refine ⟨_, rfl, ?_⟩; replace ak := ah.mk (aG (g := au) (o := .cells #[.int .i64 aU, .int .i64 aT, .string aV] 23 (0, 0)) zz4 hb); replace ay := ah.mk (aG (g := aA) (o := .cells #[.int .i64 gX, .int .i64 gW, .string gV] 23 (0, 0)) iJ hb); replace HB := ah.mk (av fP hb); (try clear hb); (try clear hb2); (try clear hk); (try clear hi); refine hK.out _ _ ⟨cK ak 0, cK ak 1, cK ak 2, cK ay 0, cK ay 1, cK ay 2⟩ (fun hHeld => ?_); clear hK K; refine iI (a' := ?_) ?_ ?_; rotate_left
  ·show Act.put _ (some 6) _ = _
   simp only [Act.put, List.setIfInBounds_toArray, List.set_cons_zero, List.set_cons_succ, dS, eP]
   rfl
  refine wL (i := 3) (N := some 8) (bA 6 15) rfl rfl (by kernel_rfl) (by decide) (fun K hK => ?_); refine iy Try.func84 (by kernel_rfl) rfl #[.agg #[.int .i64 gX, .int .i64 gW, .string gV]] (by rfl) rfl rfl zz8 ?_; (with_reducible refine (dU.calls gX gW gV uP xZ xY _ A4.out).mono ?_); rintro e w10 ⟨rfl, hb⟩; refine ⟨_, rfl, ?_⟩; replace ak := ah.mk (aG (g := au) (o := .cells #[.int .i64 aU, .int .i64 aT, .string aV] 23 (0, 0)) zz4 hb); replace ay := ah.mk (aG (g := aA) (o := .cells #[.int .i64 gX, .int .i64 gW, .string gV] 23 (0, 0)) iJ hb); replace HB := ah.mk (av fP hb); (try clear hb); (try clear hb2); (try clear hk); (try clear hi); refine hK.out _ _ ⟨cK ak 0, cK ak 1, cK ak 2, cK ay 0, cK ay 1, cK ay 2⟩ (fun hHeld => ?_); clear hK K; refine iI (a' := ?_) ?_ ?_; rotate_left
  ·show Act.put _ (some 8) _ = _
   simp only [Act.put, List.setIfInBounds_toArray, List.set_cons_zero, List.set_cons_succ, dS, eP]
   rfl
  refine qE (i := 4) (N := none) (bA 6 31) rfl rfl (by kernel_rfl) (by decide) (fun K hK => ?_); have hs11 : w10.cell? ⟨au, 0, none⟩ = some (.int .i64 aU) := cK ak 0; have hfs11 := aj ak.out 0; have hns11_1 := aY.out; have hms11_1 := aQ.out; have hs12 : w10.cell? ⟨au, 1, none⟩ = some (.int .i64 aT) := cK ak 1; have hfs12 := aj ak.out 1; have hns12_1 := aY.out; have hms12_1 := aQ.out; have hs13 : w10.cell? ⟨au, 2, none⟩ = some (.string aV) := cK ak 2; have hfs13 := aj ak.out 2; have YQ := aY.out; have YZ := aQ.out; refine pE (w1 := ?_) (by rfl) rfl ?_ ?_; rotate_left
  ·go_simp
   rfl
  refine hK.out _ _ ?_; clear hK K; refine qE (i := 5) (N := none) (bA 6 63) rfl rfl (by kernel_rfl) (by decide) (fun K hK => ?_); have hs14 : w10.cell? ⟨aA, 0, none⟩ = some (.int .i64 gX) := cK ay 0; have hfs14 := aj ay.out 0; have hns14_0 := aQ.out; have hms14_0 := aY.out; have hs15 : w10.cell? ⟨aA, 1, none⟩ = some (.int .i64 gW) := cK ay 1; have hfs15 := aj ay.out 1; have hns15_0 := aQ.out; have hms15_0 := aY.out; have hs16 : w10.cell? ⟨aA, 2, none⟩ = some (.string gV) := cK ay 2; have hfs16 := aj ay.out 2; have YP := aQ.out; have YX := aY.out; refine pE (w1 := ?_) (by rfl) rfl ?_ ?_; rotate_left
  ·go_simp
   rfl
  refine hK.out _ _ ?_; clear hK K; refine kX (by kernel_rfl) ?_; have hnb17 := aQ.out; have hnc17 := aY.out; have zy : w10.cell? ⟨au, 0, none⟩ = some (.int .i64 aU) := cK ak 0; have zx : w10.cell? ⟨au, 1, none⟩ = some (.int .i64 aT) := cK ak 1; have Dh : w10.cell? ⟨au, 2, none⟩ = some (.string aV) := cK ak 2; have CO := aj ak.out 0; have zm := aj ak.out 1; have CK := aj ak.out 2; have rF : w10.cell? ⟨aA, 0, none⟩ = some (.int .i64 gX) := cK ay 0; have rE : w10.cell? ⟨aA, 1, none⟩ = some (.int .i64 gW) := cK ay 1; have rD : w10.cell? ⟨aA, 2, none⟩ = some (.string gV) := cK ay 2; have ru := aj ay.out 0; have q9 := aj ay.out 1; have q8 := aj ay.out 2
  try go_wp2
  go_ret
  exact ⟨zz6, fP⟩
 ·rw [if_neg c5] at H; have qN : (uQ == uP && (yg == xZ && (yc.toList == xY.toList))) = false := by simpa using c5
  (try (have NA : decide (uQ = uP && (yg == xZ && (yc.toList == xY.toList))) = false := by simpa using c5)); (try (have c5b2 : (uQ == uP && (yg == xZ && (yc.toList == xY.toList))) = false := by simpa using c5)); (try (have c5b3 : ¬ (uQ = uP && (yg == xZ && (yc.toList == xY.toList))) := by simpa using c5)); clear c5
  by_cases c20 : uQ < uP
  ·rw [if_pos c20] at H; have TW : decide (uQ < uP) = true := decide_eq_true c20; clear c20; obtain rfl := Option.some.inj H
   go_enter Try.func114, Try.ntmps114
   try go_wp2_with (first | ((with_reducible refine bE (N := 2) rfl ?_); refine bC ?hg (N := 2) ?hd (cs := #[.int .i64 aU, .int .i64 aT, .string aV]) (t := 23) ?hr ?_; (case hd => rfl); (case hg => rfl); (case hr => first | (go_simp; done) | (go_simp; rfl)); intro au hg w21 bK hb; have ak := ah.mk (bK); have fO := ah.mk ((zz0 : w.heap.size ≤ au)); have fF := ah.mk ((zz0 : w.heap.size ≤ au)); replace HB := ah.mk (av zz1 hb); clear hb bK hg) | ((with_reducible refine bE (N := 3) rfl ?_); refine bC ?hg (N := 3) ?hd (cs := #[.int .i64 gX, .int .i64 gW, .string gV]) (t := 23) ?hr ?_; (case hd => rfl); (case hg => rfl); (case hr => first | (go_simp; done) | (go_simp; rfl)); intro aA hg w22 bK hb; have ay := ah.mk (bK); have jD := ah.mk ((jZ : w.heap.size ≤ aA)); have jr := ah.mk ((jZ : w.heap.size ≤ aA)); replace HB := ah.mk (av zz5 hb); have aQ := ah.mk ((DL : au ≠ aA)); have aY := ah.mk ((DK : aA ≠ au)); replace ak := ah.mk (aG (g := au) (o := .cells #[.int .i64 aU, .int .i64 aT, .string aV] 23 (0, 0)) zz4 hb); clear hb bK hg))
   replace ak := ah.mk (aJ ak.out); replace ay := ah.mk (aJ ay.out); replace HB := ah.mk (bL HB.out); refine jB (n := 6) (S := fun w' => w'.cell? ⟨au, 0, none⟩ = some (.int .i64 aU) ∧ w'.cell? ⟨au, 1, none⟩ = some (.int .i64 aT) ∧ w'.cell? ⟨au, 2, none⟩ = some (.string aV) ∧ w'.cell? ⟨aA, 0, none⟩ = some (.int .i64 gX) ∧ w'.cell? ⟨aA, 1, none⟩ = some (.int .i64 gW) ∧ w'.cell? ⟨aA, 2, none⟩ = some (.string gV)) (ds := [4, 5]) (.replicate 6 false) (by kernel_rfl) rfl rfl ⟨cK ak 0, cK ak 1, cK ak 2, cK ay 0, cK ay 1, cK ay 2⟩ (fun hHeld => ?_); generalize w22.drew = w23 at ak ay HB hHeld ⊢; refine pQ (i := 0) (N := some 5) (v := ?_) (a' := ?_) (bA 6 1) rfl rfl (by kernel_rfl) (fun _ _ _ h => h) (Or.inl ⟨by rfl, ?_⟩) hHeld ?_ ?_; rotate_left
   ·rintro w' ⟨s0, s1, s2, s3, s4, s5⟩
    go_simp
    (with_reducible rfl)
   rotate_left
   ·simp only [Act.put, List.setIfInBounds_toArray, List.set_cons_zero, List.set_cons_succ, dS, eP]
    rfl
   refine pQ (i := 2) (N := some 7) (v := ?_) (a' := ?_) (bA 6 5) rfl rfl (by kernel_rfl) (fun _ _ _ h => h) (Or.inl ⟨by rfl, ?_⟩) hHeld ?_ ?_; rotate_left
   ·rintro w' ⟨s0, s1, s2, s3, s4, s5⟩
    go_simp
    (with_reducible rfl)
   rotate_left
   ·simp only [Act.put, List.setIfInBounds_toArray, List.set_cons_zero, List.set_cons_succ, dS, eP]
    rfl
   refine wL (i := 1) (N := some 6) (bA 6 7) rfl rfl (by kernel_rfl) (by decide) (fun K hK => ?_); refine iy Try.func84 (by kernel_rfl) rfl #[.agg #[.int .i64 aU, .int .i64 aT, .string aV]] (by rfl) rfl rfl zz8 ?_; (with_reducible refine (dU.calls aU aT aV uQ yg yc _ A3.out).mono ?_); rintro e w24 ⟨rfl, hb⟩; refine ⟨_, rfl, ?_⟩; replace ak := ah.mk (aG (g := au) (o := .cells #[.int .i64 aU, .int .i64 aT, .string aV] 23 (0, 0)) zz4 hb); replace ay := ah.mk (aG (g := aA) (o := .cells #[.int .i64 gX, .int .i64 gW, .string gV] 23 (0, 0)) iJ hb); replace HB := ah.mk (av fP hb); (try clear hb); (try clear hb2); (try clear hk); (try clear hi); refine hK.out _ _ ⟨cK ak 0, cK ak 1, cK ak 2, cK ay 0, cK ay 1, cK ay 2⟩ (fun hHeld => ?_); clear hK K; refine iI (a' := ?_) ?_ ?_; rotate_left
   ·show Act.put _ (some 6) _ = _
    simp only [Act.put, List.setIfInBounds_toArray, List.set_cons_zero, List.set_cons_succ, dS, eP]
    rfl
   refine wL (i := 3) (N := some 8) (bA 6 15) rfl rfl (by kernel_rfl) (by decide) (fun K hK => ?_); refine iy Try.func84 (by kernel_rfl) rfl #[.agg #[.int .i64 gX, .int .i64 gW, .string gV]] (by rfl) rfl rfl zz8 ?_; (with_reducible refine (dU.calls gX gW gV uP xZ xY _ A4.out).mono ?_); rintro e w25 ⟨rfl, hb⟩; refine ⟨_, rfl, ?_⟩; replace ak := ah.mk (aG (g := au) (o := .cells #[.int .i64 aU, .int .i64 aT, .string aV] 23 (0, 0)) zz4 hb); replace ay := ah.mk (aG (g := aA) (o := .cells #[.int .i64 gX, .int .i64 gW, .string gV] 23 (0, 0)) iJ hb); replace HB := ah.mk (av fP hb); (try clear hb); (try clear hb2); (try clear hk); (try clear hi); refine hK.out _ _ ⟨cK ak 0, cK ak 1, cK ak 2, cK ay 0, cK ay 1, cK ay 2⟩ (fun hHeld => ?_); clear hK K; refine iI (a' := ?_) ?_ ?_; rotate_left
   ·show Act.put _ (some 8) _ = _
    simp only [Act.put, List.setIfInBounds_toArray, List.set_cons_zero, List.set_cons_succ, dS, eP]
    rfl
   refine qE (i := 4) (N := none) (bA 6 31) rfl rfl (by kernel_rfl) (by decide) (fun K hK => ?_); have hs26 : w25.cell? ⟨au, 0, none⟩ = some (.int .i64 aU) := cK ak 0; have hfs26 := aj ak.out 0; have hns26_1 := aY.out; have hms26_1 := aQ.out; have hs27 : w25.cell? ⟨au, 1, none⟩ = some (.int .i64 aT) := cK ak 1; have hfs27 := aj ak.out 1; have hns27_1 := aY.out; have hms27_1 := aQ.out; have hs28 : w25.cell? ⟨au, 2, none⟩ = some (.string aV) := cK ak 2; have hfs28 := aj ak.out 2; have YO := aY.out; have YW := aQ.out; refine pE (w1 := ?_) (by rfl) rfl ?_ ?_; rotate_left
   ·go_simp
    rfl
   refine hK.out _ _ ?_; clear hK K; refine qE (i := 5) (N := none) (bA 6 63) rfl rfl (by kernel_rfl) (by decide) (fun K hK => ?_); have hs29 : w25.cell? ⟨aA, 0, none⟩ = some (.int .i64 gX) := cK ay 0; have hfs29 := aj ay.out 0; have hns29_0 := aQ.out; have hms29_0 := aY.out; have hs30 : w25.cell? ⟨aA, 1, none⟩ = some (.int .i64 gW) := cK ay 1; have hfs30 := aj ay.out 1; have hns30_0 := aQ.out; have hms30_0 := aY.out; have hs31 : w25.cell? ⟨aA, 2, none⟩ = some (.string gV) := cK ay 2; have hfs31 := aj ay.out 2; have YN := aQ.out; have YV := aY.out; refine pE (w1 := ?_) (by rfl) rfl ?_ ?_; rotate_left
   ·go_simp
    rfl
   refine hK.out _ _ ?_; clear hK K; refine kX (by kernel_rfl) ?_; have hnb32 := aQ.out; have hnc32 := aY.out; have hcz33_0 : w25.cell? ⟨au, 0, none⟩ = some (.int .i64 aU) := cK ak 0; have hcz33_1 : w25.cell? ⟨au, 1, none⟩ = some (.int .i64 aT) := cK ak 1; have hcz33_2 : w25.cell? ⟨au, 2, none⟩ = some (.string aV) := cK ak 2; have hfz33_0 := aj ak.out 0; have hfz33_1 := aj ak.out 1; have hfz33_2 := aj ak.out 2; have KR : w25.cell? ⟨aA, 0, none⟩ = some (.int .i64 gX) := cK ay 0; have KQ : w25.cell? ⟨aA, 1, none⟩ = some (.int .i64 gW) := cK ay 1; have KP : w25.cell? ⟨aA, 2, none⟩ = some (.string gV) := cK ay 2; have Ky := aj ay.out 0; have Kw := aj ay.out 1; have Kv := aj ay.out 2
   try go_wp2
   go_ret
   exact ⟨zz6, fP⟩
  ·rw [if_neg c20] at H; have TW : decide (uQ < uP) = false := decide_eq_false c20; clear c20
   by_cases c35 : uQ = uP
   ·rw [if_pos c35] at H; have Jg : (uQ == uP) = true := beq_iff_eq.mpr c35; have c35b1 : (uQ != uP) = false := bne_eq_false_iff_eq.mpr c35; clear c35
    by_cases c36 : yg < xZ
    ·rw [if_pos c36] at H; have TS : decide (yg < xZ) = true := decide_eq_true c36; clear c36; obtain rfl := Option.some.inj H
     go_enter Try.func114, Try.ntmps114
     try go_wp2_with (first | ((with_reducible refine bE (N := 2) rfl ?_); refine bC ?hg (N := 2) ?hd (cs := #[.int .i64 aU, .int .i64 aT, .string aV]) (t := 23) ?hr ?_; (case hd => rfl); (case hg => rfl); (case hr => first | (go_simp; done) | (go_simp; rfl)); intro au hg w37 bK hb; have ak := ah.mk (bK); have fO := ah.mk ((zz0 : w.heap.size ≤ au)); have fF := ah.mk ((zz0 : w.heap.size ≤ au)); replace HB := ah.mk (av zz1 hb); clear hb bK hg) | ((with_reducible refine bE (N := 3) rfl ?_); refine bC ?hg (N := 3) ?hd (cs := #[.int .i64 gX, .int .i64 gW, .string gV]) (t := 23) ?hr ?_; (case hd => rfl); (case hg => rfl); (case hr => first | (go_simp; done) | (go_simp; rfl)); intro aA hg w38 bK hb; have ay := ah.mk (bK); have jD := ah.mk ((jZ : w.heap.size ≤ aA)); have jr := ah.mk ((jZ : w.heap.size ≤ aA)); replace HB := ah.mk (av zz5 hb); have aQ := ah.mk ((DL : au ≠ aA)); have aY := ah.mk ((DK : aA ≠ au)); replace ak := ah.mk (aG (g := au) (o := .cells #[.int .i64 aU, .int .i64 aT, .string aV] 23 (0, 0)) zz4 hb); clear hb bK hg))
     replace ak := ah.mk (aJ ak.out); replace ay := ah.mk (aJ ay.out); replace HB := ah.mk (bL HB.out); refine jB (n := 6) (S := fun w' => w'.cell? ⟨au, 0, none⟩ = some (.int .i64 aU) ∧ w'.cell? ⟨au, 1, none⟩ = some (.int .i64 aT) ∧ w'.cell? ⟨au, 2, none⟩ = some (.string aV) ∧ w'.cell? ⟨aA, 0, none⟩ = some (.int .i64 gX) ∧ w'.cell? ⟨aA, 1, none⟩ = some (.int .i64 gW) ∧ w'.cell? ⟨aA, 2, none⟩ = some (.string gV)) (ds := [4, 5]) (.replicate 6 false) (by kernel_rfl) rfl rfl ⟨cK ak 0, cK ak 1, cK ak 2, cK ay 0, cK ay 1, cK ay 2⟩ (fun hHeld => ?_); generalize w38.drew = w39 at ak ay HB hHeld ⊢; refine pQ (i := 0) (N := some 5) (v := ?_) (a' := ?_) (bA 6 1) rfl rfl (by kernel_rfl) (fun _ _ _ h => h) (Or.inl ⟨by rfl, ?_⟩) hHeld ?_ ?_; rotate_left
     ·rintro w' ⟨s0, s1, s2, s3, s4, s5⟩
      go_simp
      (with_reducible rfl)
     rotate_left
     ·simp only [Act.put, List.setIfInBounds_toArray, List.set_cons_zero, List.set_cons_succ, dS, eP]
      rfl
     refine pQ (i := 2) (N := some 7) (v := ?_) (a' := ?_) (bA 6 5) rfl rfl (by kernel_rfl) (fun _ _ _ h => h) (Or.inl ⟨by rfl, ?_⟩) hHeld ?_ ?_; rotate_left
     ·rintro w' ⟨s0, s1, s2, s3, s4, s5⟩
      go_simp
      (with_reducible rfl)
     rotate_left
     ·simp only [Act.put, List.setIfInBounds_toArray, List.set_cons_zero, List.set_cons_succ, dS, eP]
      rfl
     refine wL (i := 1) (N := some 6) (bA 6 7) rfl rfl (by kernel_rfl) (by decide) (fun K hK => ?_); refine iy Try.func84 (by kernel_rfl) rfl #[.agg #[.int .i64 aU, .int .i64 aT, .string aV]] (by rfl) rfl rfl zz8 ?_; (with_reducible refine (dU.calls aU aT aV uQ yg yc _ A3.out).mono ?_); rintro e w40 ⟨rfl, hb⟩; refine ⟨_, rfl, ?_⟩; replace ak := ah.mk (aG (g := au) (o := .cells #[.int .i64 aU, .int .i64 aT, .string aV] 23 (0, 0)) zz4 hb); replace ay := ah.mk (aG (g := aA) (o := .cells #[.int .i64 gX, .int .i64 gW, .string gV] 23 (0, 0)) iJ hb); replace HB := ah.mk (av fP hb); (try clear hb); (try clear hb2); (try clear hk); (try clear hi); refine hK.out _ _ ⟨cK ak 0, cK ak 1, cK ak 2, cK ay 0, cK ay 1, cK ay 2⟩ (fun hHeld => ?_); clear hK K; refine iI (a' := ?_) ?_ ?_; rotate_left
     ·show Act.put _ (some 6) _ = _
      simp only [Act.put, List.setIfInBounds_toArray, List.set_cons_zero, List.set_cons_succ, dS, eP]
      rfl
     refine wL (i := 3) (N := some 8) (bA 6 15) rfl rfl (by kernel_rfl) (by decide) (fun K hK => ?_); refine iy Try.func84 (by kernel_rfl) rfl #[.agg #[.int .i64 gX, .int .i64 gW, .string gV]] (by rfl) rfl rfl zz8 ?_; (with_reducible refine (dU.calls gX gW gV uP xZ xY _ A4.out).mono ?_); rintro e w41 ⟨rfl, hb⟩; refine ⟨_, rfl, ?_⟩; replace ak := ah.mk (aG (g := au) (o := .cells #[.int .i64 aU, .int .i64 aT, .string aV] 23 (0, 0)) zz4 hb); replace ay := ah.mk (aG (g := aA) (o := .cells #[.int .i64 gX, .int .i64 gW, .string gV] 23 (0, 0)) iJ hb); replace HB := ah.mk (av fP hb); (try clear hb); (try clear hb2); (try clear hk); (try clear hi); refine hK.out _ _ ⟨cK ak 0, cK ak 1, cK ak 2, cK ay 0, cK ay 1, cK ay 2⟩ (fun hHeld => ?_); clear hK K; refine iI (a' := ?_) ?_ ?_; rotate_left
     ·show Act.put _ (some 8) _ = _
      simp only [Act.put, List.setIfInBounds_toArray, List.set_cons_zero, List.set_cons_succ, dS, eP]
      rfl
     refine qE (i := 4) (N := none) (bA 6 31) rfl rfl (by kernel_rfl) (by decide) (fun K hK => ?_); have hs42 : w41.cell? ⟨au, 0, none⟩ = some (.int .i64 aU) := cK ak 0; have hfs42 := aj ak.out 0; have hns42_1 := aY.out; have hms42_1 := aQ.out; have hs43 : w41.cell? ⟨au, 1, none⟩ = some (.int .i64 aT) := cK ak 1; have hfs43 := aj ak.out 1; have YM := aY.out; have YU := aQ.out; have hs44 : w41.cell? ⟨au, 2, none⟩ = some (.string aV) := cK ak 2; have hfs44 := aj ak.out 2; have YL := aY.out; have YT := aQ.out; refine pE (w1 := ?_) (by rfl) rfl ?_ ?_; rotate_left
     ·go_simp
      rfl
     refine hK.out _ _ ?_; clear hK K; refine qE (i := 5) (N := none) (bA 6 63) rfl rfl (by kernel_rfl) (by decide) (fun K hK => ?_); have hs45 : w41.cell? ⟨aA, 0, none⟩ = some (.int .i64 gX) := cK ay 0; have hfs45 := aj ay.out 0; have YK := aQ.out; have YS := aY.out; have hs46 : w41.cell? ⟨aA, 1, none⟩ = some (.int .i64 gW) := cK ay 1; have hfs46 := aj ay.out 1; have RI := aQ.out; have RL := aY.out; have hs47 : w41.cell? ⟨aA, 2, none⟩ = some (.string gV) := cK ay 2; have hfs47 := aj ay.out 2; have RH := aQ.out; have RJ := aY.out; refine pE (w1 := ?_) (by rfl) rfl ?_ ?_; rotate_left
     ·go_simp
      rfl
     refine hK.out _ _ ?_; clear hK K; refine kX (by kernel_rfl) ?_; have hnb48 := aQ.out; have hnc48 := aY.out; have Ti : w41.cell? ⟨au, 0, none⟩ = some (.int .i64 aU) := cK ak 0; have Tg : w41.cell? ⟨au, 1, none⟩ = some (.int .i64 aT) := cK ak 1; have Tf : w41.cell? ⟨au, 2, none⟩ = some (.string aV) := cK ak 2; have Sm := aj ak.out 0; have Sl := aj ak.out 1; have Sk := aj ak.out 2; have ZH : w41.cell? ⟨aA, 0, none⟩ = some (.int .i64 gX) := cK ay 0; have ZG : w41.cell? ⟨aA, 1, none⟩ = some (.int .i64 gW) := cK ay 1; have ZF : w41.cell? ⟨aA, 2, none⟩ = some (.string gV) := cK ay 2; have Y2 := aj ay.out 0; have Y1 := aj ay.out 1; have Y0 := aj ay.out 2
     try go_wp2
     (try (· (rename_i hx_; exfalso; simp only [Jg, Bool.true_and, Bool.and_eq_false_iff] at qN; simp [hx_.1, hx_.2] at qN)))
     go_ret
     exact ⟨zz6, fP⟩
    ·rw [if_neg c36] at H; have TS : decide (yg < xZ) = false := decide_eq_false c36; clear c36
     by_cases c51 : (Op.bytesLess yc.toList xY.toList) = true
     ·rw [if_pos c51] at H; have c51b0 : (Op.bytesLess yc.toList xY.toList) = true := c51; clear c51; obtain rfl := Option.some.inj H
      go_enter Try.func114, Try.ntmps114
      try go_wp2_with (first | ((with_reducible refine bE (N := 2) rfl ?_); refine bC ?hg (N := 2) ?hd (cs := #[.int .i64 aU, .int .i64 aT, .string aV]) (t := 23) ?hr ?_; (case hd => rfl); (case hg => rfl); (case hr => first | (go_simp; done) | (go_simp; rfl)); intro au hg w52 bK hb; have ak := ah.mk (bK); have fO := ah.mk ((zz0 : w.heap.size ≤ au)); have fF := ah.mk ((zz0 : w.heap.size ≤ au)); replace HB := ah.mk (av zz1 hb); clear hb bK hg) | ((with_reducible refine bE (N := 3) rfl ?_); refine bC ?hg (N := 3) ?hd (cs := #[.int .i64 gX, .int .i64 gW, .string gV]) (t := 23) ?hr ?_; (case hd => rfl); (case hg => rfl); (case hr => first | (go_simp; done) | (go_simp; rfl)); intro aA hg w53 bK hb; have ay := ah.mk (bK); have jD := ah.mk ((jZ : w.heap.size ≤ aA)); have jr := ah.mk ((jZ : w.heap.size ≤ aA)); replace HB := ah.mk (av zz5 hb); have aQ := ah.mk ((DL : au ≠ aA)); have aY := ah.mk ((DK : aA ≠ au)); replace ak := ah.mk (aG (g := au) (o := .cells #[.int .i64 aU, .int .i64 aT, .string aV] 23 (0, 0)) zz4 hb); clear hb bK hg))
      replace ak := ah.mk (aJ ak.out); replace ay := ah.mk (aJ ay.out); replace HB := ah.mk (bL HB.out); refine jB (n := 6) (S := fun w' => w'.cell? ⟨au, 0, none⟩ = some (.int .i64 aU) ∧ w'.cell? ⟨au, 1, none⟩ = some (.int .i64 aT) ∧ w'.cell? ⟨au, 2, none⟩ = some (.string aV) ∧ w'.cell? ⟨aA, 0, none⟩ = some (.int .i64 gX) ∧ w'.cell? ⟨aA, 1, none⟩ = some (.int .i64 gW) ∧ w'.cell? ⟨aA, 2, none⟩ = some (.string gV)) (ds := [4, 5]) (.replicate 6 false) (by kernel_rfl) rfl rfl ⟨cK ak 0, cK ak 1, cK ak 2, cK ay 0, cK ay 1, cK ay 2⟩ (fun hHeld => ?_); generalize w53.drew = w54 at ak ay HB hHeld ⊢; refine pQ (i := 0) (N := some 5) (v := ?_) (a' := ?_) (bA 6 1) rfl rfl (by kernel_rfl) (fun _ _ _ h => h) (Or.inl ⟨by rfl, ?_⟩) hHeld ?_ ?_; rotate_left
      ·rintro w' ⟨s0, s1, s2, s3, s4, s5⟩
       go_simp
       (with_reducible rfl)
      rotate_left
      ·simp only [Act.put, List.setIfInBounds_toArray, List.set_cons_zero, List.set_cons_succ, dS, eP]
       rfl
      refine pQ (i := 2) (N := some 7) (v := ?_) (a' := ?_) (bA 6 5) rfl rfl (by kernel_rfl) (fun _ _ _ h => h) (Or.inl ⟨by rfl, ?_⟩) hHeld ?_ ?_; rotate_left
      ·rintro w' ⟨s0, s1, s2, s3, s4, s5⟩
       go_simp
       (with_reducible rfl)
      rotate_left
      ·simp only [Act.put, List.setIfInBounds_toArray, List.set_cons_zero, List.set_cons_succ, dS, eP]
       rfl
      refine wL (i := 1) (N := some 6) (bA 6 7) rfl rfl (by kernel_rfl) (by decide) (fun K hK => ?_); refine iy Try.func84 (by kernel_rfl) rfl #[.agg #[.int .i64 aU, .int .i64 aT, .string aV]] (by rfl) rfl rfl zz8 ?_; (with_reducible refine (dU.calls aU aT aV uQ yg yc _ A3.out).mono ?_); rintro e w55 ⟨rfl, hb⟩; refine ⟨_, rfl, ?_⟩; replace ak := ah.mk (aG (g := au) (o := .cells #[.int .i64 aU, .int .i64 aT, .string aV] 23 (0, 0)) zz4 hb); replace ay := ah.mk (aG (g := aA) (o := .cells #[.int .i64 gX, .int .i64 gW, .string gV] 23 (0, 0)) iJ hb); replace HB := ah.mk (av fP hb); (try clear hb); (try clear hb2); (try clear hk); (try clear hi); refine hK.out _ _ ⟨cK ak 0, cK ak 1, cK ak 2, cK ay 0, cK ay 1, cK ay 2⟩ (fun hHeld => ?_); clear hK K; refine iI (a' := ?_) ?_ ?_; rotate_left
      ·show Act.put _ (some 6) _ = _
       simp only [Act.put, List.setIfInBounds_toArray, List.set_cons_zero, List.set_cons_succ, dS, eP]
       rfl
      refine wL (i := 3) (N := some 8) (bA 6 15) rfl rfl (by kernel_rfl) (by decide) (fun K hK => ?_); refine iy Try.func84 (by kernel_rfl) rfl #[.agg #[.int .i64 gX, .int .i64 gW, .string gV]] (by rfl) rfl rfl zz8 ?_; (with_reducible refine (dU.calls gX gW gV uP xZ xY _ A4.out).mono ?_); rintro e w56 ⟨rfl, hb⟩; refine ⟨_, rfl, ?_⟩; replace ak := ah.mk (aG (g := au) (o := .cells #[.int .i64 aU, .int .i64 aT, .string aV] 23 (0, 0)) zz4 hb); replace ay := ah.mk (aG (g := aA) (o := .cells #[.int .i64 gX, .int .i64 gW, .string gV] 23 (0, 0)) iJ hb); replace HB := ah.mk (av fP hb); (try clear hb); (try clear hb2); (try clear hk); (try clear hi); refine hK.out _ _ ⟨cK ak 0, cK ak 1, cK ak 2, cK ay 0, cK ay 1, cK ay 2⟩ (fun hHeld => ?_); clear hK K; refine iI (a' := ?_) ?_ ?_; rotate_left
      ·show Act.put _ (some 8) _ = _
       simp only [Act.put, List.setIfInBounds_toArray, List.set_cons_zero, List.set_cons_succ, dS, eP]
       rfl
      refine qE (i := 4) (N := none) (bA 6 31) rfl rfl (by kernel_rfl) (by decide) (fun K hK => ?_); have hs57 : w56.cell? ⟨au, 0, none⟩ = some (.int .i64 aU) := cK ak 0; have hfs57 := aj ak.out 0; have hns57_1 := aY.out; have hms57_1 := aQ.out; have hs58 : w56.cell? ⟨au, 1, none⟩ = some (.int .i64 aT) := cK ak 1; have hfs58 := aj ak.out 1; have hns58_1 := aY.out; have hms58_1 := aQ.out; have hs59 : w56.cell? ⟨au, 2, none⟩ = some (.string aV) := cK ak 2; have hfs59 := aj ak.out 2; have hns59_1 := aY.out; have hms59_1 := aQ.out; refine pE (w1 := ?_) (by rfl) rfl ?_ ?_; rotate_left
      ·go_simp
       rfl
      refine hK.out _ _ ?_; clear hK K; refine qE (i := 5) (N := none) (bA 6 63) rfl rfl (by kernel_rfl) (by decide) (fun K hK => ?_); have hs60 : w56.cell? ⟨aA, 0, none⟩ = some (.int .i64 gX) := cK ay 0; have hfs60 := aj ay.out 0; have hns60_0 := aQ.out; have hms60_0 := aY.out; have hs61 : w56.cell? ⟨aA, 1, none⟩ = some (.int .i64 gW) := cK ay 1; have hfs61 := aj ay.out 1; have hns61_0 := aQ.out; have hms61_0 := aY.out; have hs62 : w56.cell? ⟨aA, 2, none⟩ = some (.string gV) := cK ay 2; have hfs62 := aj ay.out 2; have hns62_0 := aQ.out; have hms62_0 := aY.out; refine pE (w1 := ?_) (by rfl) rfl ?_ ?_; rotate_left
      ·go_simp
       rfl
      refine hK.out _ _ ?_; clear hK K; refine kX (by kernel_rfl) ?_; have hnb63 := aQ.out; have hnc63 := aY.out; have hcz64_0 : w56.cell? ⟨au, 0, none⟩ = some (.int .i64 aU) := cK ak 0; have hcz64_1 : w56.cell? ⟨au, 1, none⟩ = some (.int .i64 aT) := cK ak 1; have hcz64_2 : w56.cell? ⟨au, 2, none⟩ = some (.string aV) := cK ak 2; have hfz64_0 := aj ak.out 0; have hfz64_1 := aj ak.out 1; have hfz64_2 := aj ak.out 2; have hcz65_0 : w56.cell? ⟨aA, 0, none⟩ = some (.int .i64 gX) := cK ay 0; have hcz65_1 : w56.cell? ⟨aA, 1, none⟩ = some (.int .i64 gW) := cK ay 1; have hcz65_2 : w56.cell? ⟨aA, 2, none⟩ = some (.string gV) := cK ay 2; have hfz65_0 := aj ay.out 0; have hfz65_1 := aj ay.out 1; have hfz65_2 := aj ay.out 2
      try go_wp2
      (try (· (rename_i hx_; exfalso; simp only [Jg, Bool.true_and, Bool.and_eq_false_iff] at qN; simp [hx_.1, hx_.2] at qN)))
      go_ret
      exact ⟨zz6, fP⟩
     ·rw [if_neg c51] at H; have c51b0 : (Op.bytesLess yc.toList xY.toList) = false := by simpa using c51
      clear c51; obtain rfl := Option.some.inj H
      go_enter Try.func114, Try.ntmps114
      try go_wp2_with (first | ((with_reducible refine bE (N := 2) rfl ?_); refine bC ?hg (N := 2) ?hd (cs := #[.int .i64 aU, .int .i64 aT, .string aV]) (t := 23) ?hr ?_; (case hd => rfl); (case hg => rfl); (case hr => first | (go_simp; done) | (go_simp; rfl)); intro au hg w66 bK hb; have ak := ah.mk (bK); have fO := ah.mk ((zz0 : w.heap.size ≤ au)); have fF := ah.mk ((zz0 : w.heap.size ≤ au)); replace HB := ah.mk (av zz1 hb); clear hb bK hg) | ((with_reducible refine bE (N := 3) rfl ?_); refine bC ?hg (N := 3) ?hd (cs := #[.int .i64 gX, .int .i64 gW, .string gV]) (t := 23) ?hr ?_; (case hd => rfl); (case hg => rfl); (case hr => first | (go_simp; done) | (go_simp; rfl)); intro aA hg w67 bK hb; have ay := ah.mk (bK); have jD := ah.mk ((jZ : w.heap.size ≤ aA)); have jr := ah.mk ((jZ : w.heap.size ≤ aA)); replace HB := ah.mk (av zz5 hb); have aQ := ah.mk ((DL : au ≠ aA)); have aY := ah.mk ((DK : aA ≠ au)); replace ak := ah.mk (aG (g := au) (o := .cells #[.int .i64 aU, .int .i64 aT, .string aV] 23 (0, 0)) zz4 hb); clear hb bK hg))
      replace ak := ah.mk (aJ ak.out); replace ay := ah.mk (aJ ay.out); replace HB := ah.mk (bL HB.out); refine jB (n := 6) (S := fun w' => w'.cell? ⟨au, 0, none⟩ = some (.int .i64 aU) ∧ w'.cell? ⟨au, 1, none⟩ = some (.int .i64 aT) ∧ w'.cell? ⟨au, 2, none⟩ = some (.string aV) ∧ w'.cell? ⟨aA, 0, none⟩ = some (.int .i64 gX) ∧ w'.cell? ⟨aA, 1, none⟩ = some (.int .i64 gW) ∧ w'.cell? ⟨aA, 2, none⟩ = some (.string gV)) (ds := [4, 5]) (.replicate 6 false) (by kernel_rfl) rfl rfl ⟨cK ak 0, cK ak 1, cK ak 2, cK ay 0, cK ay 1, cK ay 2⟩ (fun hHeld => ?_); generalize w67.drew = w68 at ak ay HB hHeld ⊢; refine pQ (i := 0) (N := some 5) (v := ?_) (a' := ?_) (bA 6 1) rfl rfl (by kernel_rfl) (fun _ _ _ h => h) (Or.inl ⟨by rfl, ?_⟩) hHeld ?_ ?_; rotate_left
      ·rintro w' ⟨s0, s1, s2, s3, s4, s5⟩
       go_simp
       (with_reducible rfl)
      rotate_left
      ·simp only [Act.put, List.setIfInBounds_toArray, List.set_cons_zero, List.set_cons_succ, dS, eP]
       rfl
      refine pQ (i := 2) (N := some 7) (v := ?_) (a' := ?_) (bA 6 5) rfl rfl (by kernel_rfl) (fun _ _ _ h => h) (Or.inl ⟨by rfl, ?_⟩) hHeld ?_ ?_; rotate_left
      ·rintro w' ⟨s0, s1, s2, s3, s4, s5⟩
       go_simp
       (with_reducible rfl)
      rotate_left
      ·simp only [Act.put, List.setIfInBounds_toArray, List.set_cons_zero, List.set_cons_succ, dS, eP]
       rfl
      refine wL (i := 1) (N := some 6) (bA 6 7) rfl rfl (by kernel_rfl) (by decide) (fun K hK => ?_); refine iy Try.func84 (by kernel_rfl) rfl #[.agg #[.int .i64 aU, .int .i64 aT, .string aV]] (by rfl) rfl rfl zz8 ?_; (with_reducible refine (dU.calls aU aT aV uQ yg yc _ A3.out).mono ?_); rintro e w69 ⟨rfl, hb⟩; refine ⟨_, rfl, ?_⟩; replace ak := ah.mk (aG (g := au) (o := .cells #[.int .i64 aU, .int .i64 aT, .string aV] 23 (0, 0)) zz4 hb); replace ay := ah.mk (aG (g := aA) (o := .cells #[.int .i64 gX, .int .i64 gW, .string gV] 23 (0, 0)) iJ hb); replace HB := ah.mk (av fP hb); (try clear hb); (try clear hb2); (try clear hk); (try clear hi); refine hK.out _ _ ⟨cK ak 0, cK ak 1, cK ak 2, cK ay 0, cK ay 1, cK ay 2⟩ (fun hHeld => ?_); clear hK K; refine iI (a' := ?_) ?_ ?_; rotate_left
      ·show Act.put _ (some 6) _ = _
       simp only [Act.put, List.setIfInBounds_toArray, List.set_cons_zero, List.set_cons_succ, dS, eP]
       rfl
      refine wL (i := 3) (N := some 8) (bA 6 15) rfl rfl (by kernel_rfl) (by decide) (fun K hK => ?_); refine iy Try.func84 (by kernel_rfl) rfl #[.agg #[.int .i64 gX, .int .i64 gW, .string gV]] (by rfl) rfl rfl zz8 ?_; (with_reducible refine (dU.calls gX gW gV uP xZ xY _ A4.out).mono ?_); rintro e w70 ⟨rfl, hb⟩; refine ⟨_, rfl, ?_⟩; replace ak := ah.mk (aG (g := au) (o := .cells #[.int .i64 aU, .int .i64 aT, .string aV] 23 (0, 0)) zz4 hb); replace ay := ah.mk (aG (g := aA) (o := .cells #[.int .i64 gX, .int .i64 gW, .string gV] 23 (0, 0)) iJ hb); replace HB := ah.mk (av fP hb); (try clear hb); (try clear hb2); (try clear hk); (try clear hi); refine hK.out _ _ ⟨cK ak 0, cK ak 1, cK ak 2, cK ay 0, cK ay 1, cK ay 2⟩ (fun hHeld => ?_); clear hK K; refine iI (a' := ?_) ?_ ?_; rotate_left
      ·show Act.put _ (some 8) _ = _
       simp only [Act.put, List.setIfInBounds_toArray, List.set_cons_zero, List.set_cons_succ, dS, eP]
       rfl
      refine qE (i := 4) (N := none) (bA 6 31) rfl rfl (by kernel_rfl) (by decide) (fun K hK => ?_); have hs71 : w70.cell? ⟨au, 0, none⟩ = some (.int .i64 aU) := cK ak 0; have hfs71 := aj ak.out 0; have hns71_1 := aY.out; have hms71_1 := aQ.out; have hs72 : w70.cell? ⟨au, 1, none⟩ = some (.int .i64 aT) := cK ak 1; have hfs72 := aj ak.out 1; have hns72_1 := aY.out; have hms72_1 := aQ.out; have hs73 : w70.cell? ⟨au, 2, none⟩ = some (.string aV) := cK ak 2; have hfs73 := aj ak.out 2; have hns73_1 := aY.out; have hms73_1 := aQ.out; refine pE (w1 := ?_) (by rfl) rfl ?_ ?_; rotate_left
      ·go_simp
       rfl
      refine hK.out _ _ ?_; clear hK K; refine qE (i := 5) (N := none) (bA 6 63) rfl rfl (by kernel_rfl) (by decide) (fun K hK => ?_); have hs74 : w70.cell? ⟨aA, 0, none⟩ = some (.int .i64 gX) := cK ay 0; have hfs74 := aj ay.out 0; have hns74_0 := aQ.out; have hms74_0 := aY.out; have hs75 : w70.cell? ⟨aA, 1, none⟩ = some (.int .i64 gW) := cK ay 1; have hfs75 := aj ay.out 1; have hns75_0 := aQ.out; have hms75_0 := aY.out; have hs76 : w70.cell? ⟨aA, 2, none⟩ = some (.string gV) := cK ay 2; have hfs76 := aj ay.out 2; have hns76_0 := aQ.out; have hms76_0 := aY.out; refine pE (w1 := ?_) (by rfl) rfl ?_ ?_; rotate_left
      ·go_simp
       rfl
      refine hK.out _ _ ?_; clear hK K; refine kX (by kernel_rfl) ?_; have hnb77 := aQ.out; have hnc77 := aY.out; have hcz78_0 : w70.cell? ⟨au, 0, none⟩ = some (.int .i64 aU) := cK ak 0; have hcz78_1 : w70.cell? ⟨au, 1, none⟩ = some (.int .i64 aT) := cK ak 1; have hcz78_2 : w70.cell? ⟨au, 2, none⟩ = some (.string aV) := cK ak 2; have hfz78_0 := aj ak.out 0; have hfz78_1 := aj ak.out 1; have hfz78_2 := aj ak.out 2; have hcz79_0 : w70.cell? ⟨aA, 0, none⟩ = some (.int .i64 gX) := cK ay 0; have hcz79_1 : w70.cell? ⟨aA, 1, none⟩ = some (.int .i64 gW) := cK ay 1; have hcz79_2 : w70.cell? ⟨aA, 2, none⟩ = some (.string gV) := cK ay 2; have hfz79_0 := aj ay.out 0; have hfz79_1 := aj ay.out 1; have hfz79_2 := aj ay.out 2
      try go_wp2
      (try (· (rename_i hx_; exfalso; simp only [Jg, Bool.true_and, Bool.and_eq_false_iff] at qN; simp [hx_.1, hx_.2] at qN)))
      go_ret
      exact ⟨zz6, fP⟩
   ·rw [if_neg c35] at H; have Jg : (uQ == uP) = false := beq_eq_false_iff_ne.mpr c35; have c35b1 : (uQ != uP) = true := bne_iff_ne.mpr c35; obtain rfl := Option.some.inj H
    go_enter Try.func114, Try.ntmps114
    try go_wp2_with (first | ((with_reducible refine bE (N := 2) rfl ?_); refine bC ?hg (N := 2) ?hd (cs := #[.int .i64 aU, .int .i64 aT, .string aV]) (t := 23) ?hr ?_; (case hd => rfl); (case hg => rfl); (case hr => first | (go_simp; done) | (go_simp; rfl)); intro au hg w80 bK hb; have ak := ah.mk (bK); have fO := ah.mk ((zz0 : w.heap.size ≤ au)); have fF := ah.mk ((zz0 : w.heap.size ≤ au)); replace HB := ah.mk (av zz1 hb); clear hb bK hg) | ((with_reducible refine bE (N := 3) rfl ?_); refine bC ?hg (N := 3) ?hd (cs := #[.int .i64 gX, .int .i64 gW, .string gV]) (t := 23) ?hr ?_; (case hd => rfl); (case hg => rfl); (case hr => first | (go_simp; done) | (go_simp; rfl)); intro aA hg w81 bK hb; have ay := ah.mk (bK); have jD := ah.mk ((jZ : w.heap.size ≤ aA)); have jr := ah.mk ((jZ : w.heap.size ≤ aA)); replace HB := ah.mk (av zz5 hb); have aQ := ah.mk ((DL : au ≠ aA)); have aY := ah.mk ((DK : aA ≠ au)); replace ak := ah.mk (aG (g := au) (o := .cells #[.int .i64 aU, .int .i64 aT, .string aV] 23 (0, 0)) zz4 hb); clear hb bK hg))
    replace ak := ah.mk (aJ ak.out); replace ay := ah.mk (aJ ay.out); replace HB := ah.mk (bL HB.out); refine jB (n := 6) (S := fun w' => w'.cell? ⟨au, 0, none⟩ = some (.int .i64 aU) ∧ w'.cell? ⟨au, 1, none⟩ = some (.int .i64 aT) ∧ w'.cell? ⟨au, 2, none⟩ = some (.string aV) ∧ w'.cell? ⟨aA, 0, none⟩ = some (.int .i64 gX) ∧ w'.cell? ⟨aA, 1, none⟩ = some (.int .i64 gW) ∧ w'.cell? ⟨aA, 2, none⟩ = some (.string gV)) (ds := [4, 5]) (.replicate 6 false) (by kernel_rfl) rfl rfl ⟨cK ak 0, cK ak 1, cK ak 2, cK ay 0, cK ay 1, cK ay 2⟩ (fun hHeld => ?_); generalize w81.drew = w82 at ak ay HB hHeld ⊢; refine pQ (i := 0) (N := some 5) (v := ?_) (a' := ?_) (bA 6 1) rfl rfl (by kernel_rfl) (fun _ _ _ h => h) (Or.inl ⟨by rfl, ?_⟩) hHeld ?_ ?_; rotate_left
    ·rintro w' ⟨s0, s1, s2, s3, s4, s5⟩
     go_simp
     (with_reducible rfl)
    rotate_left
    ·simp only [Act.put, List.setIfInBounds_toArray, List.set_cons_zero, List.set_cons_succ, dS, eP]
     rfl
    refine pQ (i := 2) (N := some 7) (v := ?_) (a' := ?_) (bA 6 5) rfl rfl (by kernel_rfl) (fun _ _ _ h => h) (Or.inl ⟨by rfl, ?_⟩) hHeld ?_ ?_; rotate_left
    ·rintro w' ⟨s0, s1, s2, s3, s4, s5⟩
     go_simp
     (with_reducible rfl)
    rotate_left
    ·simp only [Act.put, List.setIfInBounds_toArray, List.set_cons_zero, List.set_cons_succ, dS, eP]
     rfl
    refine wL (i := 1) (N := some 6) (bA 6 7) rfl rfl (by kernel_rfl) (by decide) (fun K hK => ?_); refine iy Try.func84 (by kernel_rfl) rfl #[.agg #[.int .i64 aU, .int .i64 aT, .string aV]] (by rfl) rfl rfl zz8 ?_; (with_reducible refine (dU.calls aU aT aV uQ yg yc _ A3.out).mono ?_); rintro e w83 ⟨rfl, hb⟩; refine ⟨_, rfl, ?_⟩; replace ak := ah.mk (aG (g := au) (o := .cells #[.int .i64 aU, .int .i64 aT, .string aV] 23 (0, 0)) zz4 hb); replace ay := ah.mk (aG (g := aA) (o := .cells #[.int .i64 gX, .int .i64 gW, .string gV] 23 (0, 0)) iJ hb); replace HB := ah.mk (av fP hb); (try clear hb); (try clear hb2); (try clear hk); (try clear hi); refine hK.out _ _ ⟨cK ak 0, cK ak 1, cK ak 2, cK ay 0, cK ay 1, cK ay 2⟩ (fun hHeld => ?_); clear hK K; refine iI (a' := ?_) ?_ ?_; rotate_left
    ·show Act.put _ (some 6) _ = _
     simp only [Act.put, List.setIfInBounds_toArray, List.set_cons_zero, List.set_cons_succ, dS, eP]
     rfl
    refine wL (i := 3) (N := some 8) (bA 6 15) rfl rfl (by kernel_rfl) (by decide) (fun K hK => ?_); refine iy Try.func84 (by kernel_rfl) rfl #[.agg #[.int .i64 gX, .int .i64 gW, .string gV]] (by rfl) rfl rfl zz8 ?_; (with_reducible refine (dU.calls gX gW gV uP xZ xY _ A4.out).mono ?_); rintro e w84 ⟨rfl, hb⟩; refine ⟨_, rfl, ?_⟩; replace ak := ah.mk (aG (g := au) (o := .cells #[.int .i64 aU, .int .i64 aT, .string aV] 23 (0, 0)) zz4 hb); replace ay := ah.mk (aG (g := aA) (o := .cells #[.int .i64 gX, .int .i64 gW, .string gV] 23 (0, 0)) iJ hb); replace HB := ah.mk (av fP hb); (try clear hb); (try clear hb2); (try clear hk); (try clear hi); refine hK.out _ _ ⟨cK ak 0, cK ak 1, cK ak 2, cK ay 0, cK ay 1, cK ay 2⟩ (fun hHeld => ?_); clear hK K; refine iI (a' := ?_) ?_ ?_; rotate_left
    ·show Act.put _ (some 8) _ = _
     simp only [Act.put, List.setIfInBounds_toArray, List.set_cons_zero, List.set_cons_succ, dS, eP]
     rfl
    refine qE (i := 4) (N := none) (bA 6 31) rfl rfl (by kernel_rfl) (by decide) (fun K hK => ?_); have hs85 : w84.cell? ⟨au, 0, none⟩ = some (.int .i64 aU) := cK ak 0; have hfs85 := aj ak.out 0; have hns85_1 := aY.out; have hms85_1 := aQ.out; have hs86 : w84.cell? ⟨au, 1, none⟩ = some (.int .i64 aT) := cK ak 1; have hfs86 := aj ak.out 1; have hns86_1 := aY.out; have hms86_1 := aQ.out; have hs87 : w84.cell? ⟨au, 2, none⟩ = some (.string aV) := cK ak 2; have hfs87 := aj ak.out 2; have hns87_1 := aY.out; have hms87_1 := aQ.out; refine pE (w1 := ?_) (by rfl) rfl ?_ ?_; rotate_left
    ·go_simp
     rfl
    refine hK.out _ _ ?_; clear hK K; refine qE (i := 5) (N := none) (bA 6 63) rfl rfl (by kernel_rfl) (by decide) (fun K hK => ?_); have hs88 : w84.cell? ⟨aA, 0, none⟩ = some (.int .i64 gX) := cK ay 0; have hfs88 := aj ay.out 0; have hns88_0 := aQ.out; have hms88_0 := aY.out; have hs89 : w84.cell? ⟨aA, 1, none⟩ = some (.int .i64 gW) := cK ay 1; have hfs89 := aj ay.out 1; have hns89_0 := aQ.out; have hms89_0 := aY.out; have hs90 : w84.cell? ⟨aA, 2, none⟩ = some (.string gV) := cK ay 2; have hfs90 := aj ay.out 2; have hns90_0 := aQ.out; have hms90_0 := aY.out; refine pE (w1 := ?_) (by rfl) rfl ?_ ?_; rotate_left
    ·go_simp
     rfl
    refine hK.out _ _ ?_; clear hK K; refine kX (by kernel_rfl) ?_; have hnb91 := aQ.out; have hnc91 := aY.out; have hcz92_0 : w84.cell? ⟨au, 0, none⟩ = some (.int .i64 aU) := cK ak 0; have hcz92_1 : w84.cell? ⟨au, 1, none⟩ = some (.int .i64 aT) := cK ak 1; have hcz92_2 : w84.cell? ⟨au, 2, none⟩ = some (.string aV) := cK ak 2; have hfz92_0 := aj ak.out 0; have hfz92_1 := aj ak.out 1; have hfz92_2 := aj ak.out 2; have hcz93_0 : w84.cell? ⟨aA, 0, none⟩ = some (.int .i64 gX) := cK ay 0; have hcz93_1 : w84.cell? ⟨aA, 1, none⟩ = some (.int .i64 gW) := cK ay 1; have hcz93_2 : w84.cell? ⟨aA, 2, none⟩ = some (.string gV) := cK ay 2; have hfz93_0 := aj ay.out 0; have hfz93_1 := aj ay.out 1; have hfz93_2 := aj ay.out 2
    try go_wp2
    (try (· (rename_i hx_; exfalso; simp only [Jg, Bool.true_and, Bool.and_eq_false_iff] at qN; simp [hx_.1, hx_.2] at qN)))
    go_ret
    exact ⟨zz6, fP⟩
mutual
def aK.l0 : Nat → List (S23) → List (S23) → Int → Option (Int)
 | 0, _, _, _ => none
 | k + 1, x0, x1, x5 => if x5 < (x0.length : Int) then (aK.j1 k x0 x1 x5 (decide (x5 < (x1.length : Int)))) else (aK.j1 k x0 x1 x5 false)
def aK.j1 : Nat → List (S23) → List (S23) → Int → Bool → Option (Int)
 | 0, _, _, _, _ => none
 | k + 1, x0, x1, x5, x16 => if x16 = true then (if 0 ≤ x5 then (if x5 < (x0.length : Int) then (if x5 < (x1.length : Int) then ((jQ.f ((aZ x0 x5).f0) ((aZ x0 x5).f1) ((aZ x0 x5).f2) ((aZ x1 x5).f0) ((aZ x1 x5).f1) ((aZ x1 x5).f2)).bind fun IQ => (if IQ = 0 then (aK.l0 k x0 x1 (wrap64 (x5 + 1))) else (some IQ))) else (none)) else (none)) else (none)) else (if (x0.length : Int) < (x1.length : Int) then (some (-1)) else (if (x0.length : Int) > (x1.length : Int) then (some 1) else (some 0)))
end
def aK.f (k : Nat) (l0 : List (S23)) (l1 : List (S23)) : Option (Int) := aK.l0 k l0 l1 0
theorem aK.gU : ∀ k, (∀ y0 y1 y2, LeO (aK.l0 k y0 y1 y2) (aK.l0 (k + 1) y0 y1 y2)) ∧ (∀ y0 y1 y2 y3, LeO (aK.j1 k y0 y1 y2 y3) (aK.j1 (k + 1) y0 y1 y2 y3))
 | 0 => ⟨fun _ _ _ r h => by simp [aK.l0] at h, fun _ _ _ _ r h => by simp [aK.j1] at h⟩
 | k + 1 => by
  obtain ⟨ih0, ih1⟩ := aK.gU k; refine ⟨?_, ?_⟩
  ·intro y0 y1 y2; unfold aK.l0
   repeat' first
   | (with_reducible exact ih0 _ _ _)
   | (with_reducible exact ih1 _ _ _ _)
   | (with_reducible exact LeO.refl _)
   | (with_reducible exact LeO.none _)
   | (with_reducible refine LeO.ite ?_ ?_)
   | (with_reducible refine LeO.bind ?_ (fun _ => ?_))
   | exact ih0 _ _ _
   | exact ih1 _ _ _ _
   | exact LeO.none _
   | refine LeO.ite ?_ ?_
   | refine LeO.bind ?_ (fun _ => ?_)
  ·intro y0 y1 y2 y3; unfold aK.j1
   repeat' first
   | (with_reducible exact ih0 _ _ _)
   | (with_reducible exact ih1 _ _ _ _)
   | (with_reducible exact LeO.refl _)
   | (with_reducible exact LeO.none _)
   | (with_reducible refine LeO.ite ?_ ?_)
   | (with_reducible refine LeO.bind ?_ (fun _ => ?_))
   | exact ih0 _ _ _
   | exact ih1 _ _ _ _
   | exact LeO.none _
   | refine LeO.ite ?_ ?_
   | refine LeO.bind ?_ (fun _ => ?_)
theorem aK.mono : ∀ a0 a1 k, LeO (aK.f k a0 a1) (aK.f (k + 1) a0 a1) := by
 intro a0 a1 k; obtain ⟨ih0, ih1⟩ := aK.gU k; unfold aK.f
 repeat' first
   | (with_reducible exact ih0 _ _ _)
   | (with_reducible exact ih1 _ _ _ _)
   | (with_reducible exact LeO.refl _)
   | (with_reducible exact LeO.none _)
   | (with_reducible refine LeO.ite ?_ ?_)
   | (with_reducible refine LeO.bind ?_ (fun _ => ?_))
   | exact ih0 _ _ _
   | exact ih1 _ _ _ _
   | exact LeO.none _
   | refine LeO.ite ?_ ?_
   | refine LeO.bind ?_ (fun _ => ?_)
def aK.T4 : Bool × List (List Nat × List Nat) := (true, [([], []), ([], []), ([0, 1], [0, 1]), ([2], [2]), ([], []), ([], []), ([4, 5], [4, 5]), ([6], [6]), ([3, 7], [3, 7]), ([8, 8, 0, 1, 2, 3, 4, 5, 6, 7, 8], [8])])
def aK.B4 : List Nat := [0, 0, 3, 7, 0, 0, 48, 112, 255, 511]
theorem aK.EL : kL .any (opsOf Try.f93 4) = aK.T4 := by kernel_rfl
theorem aK.xO : j5 aK.T4.2 aK.B4 = true := by kernel_rfl
set_option maxHeartbeats 8000000 in
set_option maxRecDepth 100000 in
theorem aK.calls (k : Nat) (A0 : Option Addr) (c0 : Nat) (l0 : List (S23)) (A1 : Option Addr) (c1 : Nat) (l1 : List (S23)) (r : Int) (w : World) (hr0 : Kd.C k23 w A0 l0.length l0) (hc0 : l0.length ≤ c0) (hr1 : Kd.C k23 w A1 l1.length l1) (hc1 : l1.length ≤ c1) (h : aK.f k l0 l1 = some r) :
  Calls Try.prog 93 #[.slice A0 l0.length c0, .slice A1 l1.length c1] w fun e w' => e = .returned (.int .i64 r) ∧ Below w.heap.size w w' := by
 have vI := Try.underlying23; have HR0 := ah.mk hr0; have HC0 := ah.mk hc0; clear hr0 hc0; have HR1 := ah.mk hr1; have HC1 := ah.mk hc1; clear hr1 hc1; have HB := ah.mk (Below.refl w.heap.size w); have H := h; clear h
 dsimp only [aK.f] at H
 have H' := ah.mk H; clear H
 go_enter Try.func93, Try.ntmps93
 go_wp2
 go_loopg [5] k (fun kq v5 w' => ∃ (eT : Int), v5 = .int .i64 eT ∧ ah (aK.l0 kq l0 l1 eT = some r) ∧ ah (kq ≤ k) ∧ ah (Below w.heap.size w w'))
 case atStart => exact ⟨(0), zz2, H', ⟨Nat.le_refl _⟩, ⟨zz1⟩⟩
 case round =>
  clear H'; (try clear c1); (try clear p2); obtain ⟨eT, rfl, HA, HK1, HB⟩ := hrel
  cases gk with
  | zero => exact absurd HA.out (by simp [aK.l0])
  | succ k1 =>
   have H := HA.out; clear HA; simp only [aK.l0] at H; have HC3 := ah.mk H; clear H
   go_upto_region 2 with (fail)
   go_cut [16] (fun v16 wc => ∃ (kq : Nat) (Rn : Bool), v16 = .bool Rn ∧ ah (aK.j1 kq l0 l1 eT Rn = some r) ∧ ah (kq ≤ k1) ∧ ah (Below w.heap.size w wc))
   case first =>
    have H := HC3.out; clear HC3
    by_cases c4 : eT < (l0.length : Int)
    ·rw [if_pos c4] at H; have lG : decide (eT < (l0.length : Int)) = true := decide_eq_true c4; clear c4; (first | rw [lG] | (simp only [dS, eP]; rw [lG]) | skip); have H' := ah.mk H; clear H
     go_wp2
     go_meet
     case rel => exact ⟨_, (decide (eT < (l1.length : Int))), zz2, H', ⟨zz84⟩, ⟨zz1⟩⟩
    ·rw [if_neg c4] at H; have lG : decide (eT < (l0.length : Int)) = false := decide_eq_false c4; clear c4; (first | rw [lG] | (simp only [dS, eP]; rw [lG]) | skip); have H' := ah.mk H; clear H
     go_wp2
     go_meet
     case rel => exact ⟨_, (false), zz2, H', ⟨zz84⟩, ⟨zz1⟩⟩
   case rest =>
    clear HC3; (try clear c1); (try clear p2); (try clear c4); (try clear lG); (try clear p2); obtain ⟨kq, Rn, rfl, HA, HJ2, HB⟩ := hcut
    cases kq with
    | zero => exact absurd HA.out (by simp [aK.j1])
    | succ kj2 =>
     have H := HA.out; clear HA; simp only [aK.j1] at H
     by_cases c5 : Rn = true
     ·subst c5; rw [if_pos rfl] at H
      by_cases c6 : 0 ≤ eT
      ·rw [if_pos c6] at H; have uR : decide (0 ≤ eT) = true := decide_eq_true c6; clear c6
       by_cases c7 : eT < (l0.length : Int)
       ·rw [if_pos c7] at H; have qp : decide (eT < (l0.length : Int)) = true := decide_eq_true c7; clear c7
        by_cases c8 : eT < (l1.length : Int)
        ·rw [if_pos c8] at H; have pI : decide (eT < (l1.length : Int)) = true := decide_eq_true c8; clear c8; replace H := Option.bind_eq_some_iff.mp H; obtain ⟨IQ, A90, H⟩ := H; have A9 := ah.mk A90; clear A90
         by_cases c10 : IQ = 0
         ·rw [if_pos c10] at H; have xM : (IQ == 0) = true := beq_iff_eq.mpr c10; have c10b1 : (IQ != 0) = false := bne_eq_false_iff_eq.mpr c10; clear c10; have H' := ah.mk H; clear H
          try go_wp2
          replace HB := ah.mk (bL HB.out); have Pg : 0 ≤ (eT : Int) := of_decide_eq_true zz9; have OO : eT < (l0.length : Int) := of_decide_eq_true zz9; obtain ⟨yK, e418, sP, sO, sN⟩ := ni HR0.out eT Pg OO; have BG := sN; have BH := sO; have BI := sP
          cases e418
          replace sP := cB HB sP; replace sO := cB HB sO; replace sN := cB HB sN; replace Pg := eq_true Pg; replace OO := eq_true OO; have Pf : 0 ≤ (eT : Int) := of_decide_eq_true zz9; have OM : eT < (l1.length : Int) := of_decide_eq_true zz9; obtain ⟨yJ, e419, sM, sK, sJ⟩ := ni HR1.out eT Pf OM; have BA := sJ; have BD := sK; have BF := sM
          cases e419
          replace sM := cB HB sM; replace sK := cB HB sK; replace sJ := cB HB sJ; replace Pf := eq_true Pf; replace OM := eq_true OM; refine jB (n := 10) (S := fun w' => w'.cell? (yK.add ((eT).toNat * 3)) = some (.int .i64 ((aZ l0 eT).f0)) ∧ w'.cell? ⟨(yK.add ((eT).toNat * 3)).block, (yK.add ((eT).toNat * 3)).off + 1, none⟩ = some (.int .i64 ((aZ l0 eT).f1)) ∧ w'.cell? ⟨(yK.add ((eT).toNat * 3)).block, (yK.add ((eT).toNat * 3)).off + 2, none⟩ = some (.string ((aZ l0 eT).f2)) ∧ w'.cell? (yJ.add ((eT).toNat * 3)) = some (.int .i64 ((aZ l1 eT).f0)) ∧ w'.cell? ⟨(yJ.add ((eT).toNat * 3)).block, (yJ.add ((eT).toNat * 3)).off + 1, none⟩ = some (.int .i64 ((aZ l1 eT).f1)) ∧ w'.cell? ⟨(yJ.add ((eT).toNat * 3)).block, (yJ.add ((eT).toNat * 3)).off + 2, none⟩ = some (.string ((aZ l1 eT).f2))) (ds := []) (.replicate 10 false) (by kernel_rfl) rfl rfl ⟨(cB HB BI), (cB HB BH), (cB HB BG), (cB HB BF), (cB HB BD), (cB HB BA)⟩ (fun hHeld => ?_); refine iG aK.EL aK.xO (fun HT_ HW_ => ?_); generalize wc.drew = w11 at HB sP sO sN sM sK sJ hHeld ⊢; refine pV 0 19 (bA 10 1) HT_ ?_; refine pV 1 20 (bA 10 3) HT_ ?_; refine pV 2 21 (bA 10 7) HT_ ?_; refine pV 4 23 (bA 10 23) HT_ ?_; refine pV 5 24 (bA 10 55) HT_ ?_; refine pV 6 25 (bA 10 119) HT_ ?_; refine tV (v := ?_) 3 22 (bA 10 127) HT_ HW_ hHeld ?_ ?_; rotate_left
          ·rintro w' ⟨s0, s1, s2, s3, s4, s5⟩
           go_simp
           (with_reducible rfl)
          refine tV (v := ?_) 7 26 (bA 10 255) HT_ HW_ hHeld ?_ ?_; rotate_left
          ·rintro w' ⟨s0, s1, s2, s3, s4, s5⟩
           go_simp
           (with_reducible rfl)
          refine oN 8 27 (bA 10 511) HT_ (fun K hK => ?_); refine iy Try.func114 (by kernel_rfl) rfl #[.agg #[.int .i64 ((aZ l0 eT).f0), .int .i64 ((aZ l0 eT).f1), .string ((aZ l0 eT).f2)], .agg #[.int .i64 ((aZ l1 eT).f0), .int .i64 ((aZ l1 eT).f1), .string ((aZ l1 eT).f2)]] (by rfl) rfl rfl zz8 ?_; (with_reducible refine (jQ.calls ((aZ l0 eT).f0) ((aZ l0 eT).f1) ((aZ l0 eT).f2) ((aZ l1 eT).f0) ((aZ l1 eT).f1) ((aZ l1 eT).f2) IQ _ A9.out).mono ?_); rintro e w12 ⟨rfl, hb⟩; refine ⟨_, rfl, ?_⟩; replace HB := ah.mk (av zz1 hb); (try clear hb); (try clear hb2); (try clear hk); (try clear hi); refine hK.out _ _ ⟨(cB HB BI), (cB HB BH), (cB HB BG), (cB HB BF), (cB HB BD), (cB HB BA)⟩ (fun hHeld => ?_); clear hK K; refine iI (a' := ?_) ?_ ?_; rotate_left
          ·show Act.put _ (some 27) _ = _
           simp only [Act.put, List.setIfInBounds_toArray, List.set_cons_zero, List.set_cons_succ, dS, eP]
           rfl
          refine pV 9 6 (bA 10 1023) HT_ ?_; refine kX (j6 HT_.out (by kernel_rfl)) ?_
          try go_wp2
          go_roundg kj2
          case measure => have := HK1.out; have := HJ2.out; omega
          case rel => exact ⟨(wrap64 (eT + 1)), zz2, H', ⟨by have := HK1.out; have := HJ2.out; omega⟩, ⟨zz1⟩⟩
         ·rw [if_neg c10] at H; have xM : (IQ == 0) = false := beq_eq_false_iff_ne.mpr c10; have c10b1 : (IQ != 0) = true := bne_iff_ne.mpr c10; obtain rfl := Option.some.inj H
          try go_wp2
          replace HB := ah.mk (bL HB.out); have Pg : 0 ≤ (eT : Int) := of_decide_eq_true zz9; have OO : eT < (l0.length : Int) := of_decide_eq_true zz9; obtain ⟨yK, e418, sP, sO, sN⟩ := ni HR0.out eT Pg OO; have BG := sN; have BH := sO; have BI := sP
          cases e418
          replace sP := cB HB sP; replace sO := cB HB sO; replace sN := cB HB sN; replace Pg := eq_true Pg; replace OO := eq_true OO; have Pf : 0 ≤ (eT : Int) := of_decide_eq_true zz9; have OM : eT < (l1.length : Int) := of_decide_eq_true zz9; obtain ⟨yJ, e419, sM, sK, sJ⟩ := ni HR1.out eT Pf OM; have BA := sJ; have BD := sK; have BF := sM
          cases e419
          replace sM := cB HB sM; replace sK := cB HB sK; replace sJ := cB HB sJ; replace Pf := eq_true Pf; replace OM := eq_true OM; refine jB (n := 10) (S := fun w' => w'.cell? (yK.add ((eT).toNat * 3)) = some (.int .i64 ((aZ l0 eT).f0)) ∧ w'.cell? ⟨(yK.add ((eT).toNat * 3)).block, (yK.add ((eT).toNat * 3)).off + 1, none⟩ = some (.int .i64 ((aZ l0 eT).f1)) ∧ w'.cell? ⟨(yK.add ((eT).toNat * 3)).block, (yK.add ((eT).toNat * 3)).off + 2, none⟩ = some (.string ((aZ l0 eT).f2)) ∧ w'.cell? (yJ.add ((eT).toNat * 3)) = some (.int .i64 ((aZ l1 eT).f0)) ∧ w'.cell? ⟨(yJ.add ((eT).toNat * 3)).block, (yJ.add ((eT).toNat * 3)).off + 1, none⟩ = some (.int .i64 ((aZ l1 eT).f1)) ∧ w'.cell? ⟨(yJ.add ((eT).toNat * 3)).block, (yJ.add ((eT).toNat * 3)).off + 2, none⟩ = some (.string ((aZ l1 eT).f2))) (ds := []) (.replicate 10 false) (by kernel_rfl) rfl rfl ⟨(cB HB BI), (cB HB BH), (cB HB BG), (cB HB BF), (cB HB BD), (cB HB BA)⟩ (fun hHeld => ?_); refine iG aK.EL aK.xO (fun HT_ HW_ => ?_); generalize wc.drew = w13 at HB sP sO sN sM sK sJ hHeld ⊢; refine pV 0 19 (bA 10 1) HT_ ?_; refine pV 1 20 (bA 10 3) HT_ ?_; refine pV 2 21 (bA 10 7) HT_ ?_; refine pV 4 23 (bA 10 23) HT_ ?_; refine pV 5 24 (bA 10 55) HT_ ?_; refine pV 6 25 (bA 10 119) HT_ ?_; refine tV (v := ?_) 3 22 (bA 10 127) HT_ HW_ hHeld ?_ ?_; rotate_left
          ·rintro w' ⟨s0, s1, s2, s3, s4, s5⟩
           go_simp
           (with_reducible rfl)
          refine tV (v := ?_) 7 26 (bA 10 255) HT_ HW_ hHeld ?_ ?_; rotate_left
          ·rintro w' ⟨s0, s1, s2, s3, s4, s5⟩
           go_simp
           (with_reducible rfl)
          refine oN 8 27 (bA 10 511) HT_ (fun K hK => ?_); refine iy Try.func114 (by kernel_rfl) rfl #[.agg #[.int .i64 ((aZ l0 eT).f0), .int .i64 ((aZ l0 eT).f1), .string ((aZ l0 eT).f2)], .agg #[.int .i64 ((aZ l1 eT).f0), .int .i64 ((aZ l1 eT).f1), .string ((aZ l1 eT).f2)]] (by rfl) rfl rfl zz8 ?_; (with_reducible refine (jQ.calls ((aZ l0 eT).f0) ((aZ l0 eT).f1) ((aZ l0 eT).f2) ((aZ l1 eT).f0) ((aZ l1 eT).f1) ((aZ l1 eT).f2) IQ _ A9.out).mono ?_); rintro e w14 ⟨rfl, hb⟩; refine ⟨_, rfl, ?_⟩; replace HB := ah.mk (av zz1 hb); (try clear hb); (try clear hb2); (try clear hk); (try clear hi); refine hK.out _ _ ⟨(cB HB BI), (cB HB BH), (cB HB BG), (cB HB BF), (cB HB BD), (cB HB BA)⟩ (fun hHeld => ?_); clear hK K; refine iI (a' := ?_) ?_ ?_; rotate_left
          ·show Act.put _ (some 27) _ = _
           simp only [Act.put, List.setIfInBounds_toArray, List.set_cons_zero, List.set_cons_succ, dS, eP]
           rfl
          refine pV 9 6 (bA 10 1023) HT_ ?_; refine kX (j6 HT_.out (by kernel_rfl)) ?_
          try go_wp2
          go_ret
          exact ⟨zz6, zz1⟩
        ·rw [if_neg c8] at H; exact absurd H (by simp)
       ·rw [if_neg c7] at H; exact absurd H (by simp)
      ·rw [if_neg c6] at H; exact absurd H (by simp)
     ·replace c5 := Bool.eq_false_iff.mpr c5; subst c5; rw [if_neg (show ¬ (false = true) by decide)] at H
      by_cases c15 : (l0.length : Int) < (l1.length : Int)
      ·rw [if_pos c15] at H; have H7 : decide ((l0.length : Int) < (l1.length : Int)) = true := decide_eq_true c15; have TY : decide (l0.length < l1.length) = true := decide_eq_true (Int.ofNat_lt.mp c15); clear c15; obtain rfl := Option.some.inj H
       go_wp2
       go_ret
       exact ⟨zz6, zz1⟩
      ·rw [if_neg c15] at H; have H7 : decide ((l0.length : Int) < (l1.length : Int)) = false := decide_eq_false c15; have TY : decide (l0.length < l1.length) = false := decide_eq_false (fun h => c15 (Int.ofNat_lt.mpr h)); clear c15
       by_cases c16 : (l0.length : Int) > (l1.length : Int)
       ·rw [if_pos c16] at H; have lU : decide ((l1.length : Int) < (l0.length : Int)) = true := decide_eq_true c16; have uH : decide (l1.length < l0.length) = true := decide_eq_true (Int.ofNat_lt.mp c16); clear c16; obtain rfl := Option.some.inj H
        go_wp2
        go_ret
        exact ⟨zz6, zz1⟩
       ·rw [if_neg c16] at H; have lU : decide ((l1.length : Int) < (l0.length : Int)) = false := decide_eq_false c16; have uH : decide (l1.length < l0.length) = false := decide_eq_false (fun h => c16 (Int.ofNat_lt.mpr h)); clear c16; obtain rfl := Option.some.inj H
        go_wp2
        go_ret
        exact ⟨zz6, zz1⟩
mutual
def aX.l0 : Nat → List (S51) → List (S51) → List (S51) → Int → Int → Option ((List (S51)))
 | 0, _, _, _, _, _ => none
 | k + 1, x0, x1, x5, x6, x7 => if x6 < (x0.length : Int) then (aX.j1 k x0 x1 x5 x6 x7 true) else (aX.j1 k x0 x1 x5 x6 x7 (decide (x7 < (x1.length : Int))))
def aX.j1 : Nat → List (S51) → List (S51) → List (S51) → Int → Int → Bool → Option ((List (S51)))
 | 0, _, _, _, _, _, _ => none
 | k + 1, x0, x1, x5, x6, x7, x19 => if x19 = true then (if x6 = (x0.length : Int) then (aX.j2 k x0 x1 x5 x6 x7 1) else (if x7 = (x1.length : Int) then (aX.j2 k x0 x1 x5 x6 x7 (-1)) else (if 0 ≤ x6 then (if x6 < (x0.length : Int) then (if 0 ≤ x7 then (if x7 < (x1.length : Int) then ((aK.f k ((aD x0 x6).f0) ((aD x1 x7).f0)).bind fun t423 => (aX.j2 k x0 x1 x5 x6 x7 t423)) else (none)) else (none)) else (none)) else (none)))) else (some x5)
def aX.j2 : Nat → List (S51) → List (S51) → List (S51) → Int → Int → Int → Option ((List (S51)))
 | 0, _, _, _, _, _, _ => none
 | k + 1, x0, x1, x5, x6, x7, x8 => if x8 < 0 then (if 0 ≤ x6 then (if x6 < (x0.length : Int) then (if x5.length < 4398046511104 then (aX.l0 k x0 x1 (x5 ++ [(⟨(aD x0 x6).f0, (aD x0 x6).f1⟩ : S51)]) (wrap64 (x6 + 1)) x7) else (none)) else (none)) else (none)) else (if x8 > 0 then (if 0 ≤ x7 then (if x7 < (x1.length : Int) then (if x5.length < 4398046511104 then (aX.l0 k x0 x1 (x5 ++ [(⟨(aD x1 x7).f0, (aD x1 x7).f1⟩ : S51)]) x6 (wrap64 (x7 + 1))) else (none)) else (none)) else (none)) else (if 0 ≤ x6 then (if x6 < (x0.length : Int) then (if 0 ≤ x7 then (if x7 < (x1.length : Int) then (if (wrap64 (((aD x0 x6).f1) + ((aD x1 x7).f1))) = 0 then (aX.l0 k x0 x1 x5 (wrap64 (x6 + 1)) (wrap64 (x7 + 1))) else (if x5.length < 4398046511104 then (aX.l0 k x0 x1 (x5 ++ [(⟨(aD x0 x6).f0, wrap64 (((aD x0 x6).f1) + ((aD x1 x7).f1))⟩ : S51)]) (wrap64 (x6 + 1)) (wrap64 (x7 + 1))) else (none))) else (none)) else (none)) else (none)) else (none)))
end
def aX.f (k : Nat) (l0 : List (S51)) (l1 : List (S51)) : Option ((List (S51))) := aX.l0 k l0 l1 ([] : List (S51)) 0 0
def aX.T5 : Bool × List (List Nat × List Nat) := (true, [([], []), ([], []), ([0, 1], [0, 1]), ([2], [2]), ([3], [3]), ([], []), ([], []), ([5, 6], [5, 6]), ([7], [7]), ([8], [8]), ([4, 9], [4, 9]), ([10, 10, 0, 1, 2, 3, 4, 5, 6, 7, 8, 9, 10], [10])])
def aX.B5 : List Nat := [0, 0, 3, 7, 15, 0, 0, 96, 224, 480, 1023, 2047]
theorem aX.tab5 : kL .any (opsOf Try.f61 5) = aX.T5 := by kernel_rfl
theorem aX.NR : j5 aX.T5.2 aX.B5 = true := by kernel_rfl
def aX.T10 : Bool × List (List Nat × List Nat) := (true, [([], []), ([], []), ([0, 1], [0, 1]), ([2], [2]), ([3], [3]), ([], []), ([], []), ([5, 6], [5, 6]), ([7], [7]), ([8], [8]), ([4, 9], [4, 9]), ([10, 0, 1, 2, 3, 4, 5, 6, 7, 8, 9, 10], [10])])
def aX.B10 : List Nat := [0, 0, 3, 7, 15, 0, 0, 96, 224, 480, 1023, 2047]
theorem aX.tab10 : kL .any (opsOf Try.f61 10) = aX.T10 := by kernel_rfl
theorem aX.WU : j5 aX.T10.2 aX.B10 = true := by kernel_rfl
set_option maxHeartbeats 8000000 in
set_option maxRecDepth 100000 in
theorem aX.calls (k : Nat) (P0_ : Nat → Prop) (A0 : Option Addr) (c0 : Nat) (l0 : List (S51)) (P1_ : Nat → Prop) (A1 : Option Addr) (c1 : Nat) (l1 : List (S51)) (r : List (S51)) (w : World) (hs0 : Kd.V k51 51 w w.heap.size (fun k_ => P0_ k_) (.slice A0 l0.length c0) l0) (hs1 : Kd.V k51 51 w w.heap.size (fun k_ => P1_ k_) (.slice A1 l1.length c1) l1) (h : aX.f k l0 l1 = some r) :
  Calls Try.prog 61 #[.slice A0 l0.length c0, .slice A1 l1.length c1] w fun e w' => ∃ v0_ : Value, e = .returned (v0_) ∧ Kd.N k51 51 w' w.heap.size (fun k_ => ((P0_ k_ ∨ P1_ k_) ∨ w.heap.size ≤ k_)) v0_ r ∧ Below w.heap.size w w' := by
 have Nj := Try.underlying51; have HO0 := ah.mk (show Kd.V k51 51 w w.heap.size (fun k_ => ((P0_ k_ ∨ P1_ k_) ∨ w.heap.size ≤ k_)) (.slice A0 l0.length c0) l0 from Kd.iE hs0 (fun k_ hk => .inl (.inl hk))); have HO1 := ah.mk (show Kd.V k51 51 w w.heap.size (fun k_ => ((P0_ k_ ∨ P1_ k_) ∨ w.heap.size ≤ k_)) (.slice A1 l1.length c1) l1 from Kd.iE hs1 (fun k_ hk => .inl (.inr hk))); have HB := ah.mk (Below.refl w.heap.size w); have H := h; clear h
 dsimp only [aX.f] at H
 have H' := ah.mk H; clear H
 go_enter Try.func61, Try.ntmps61
 go_wp2
 go_loopg [5, 6, 7] k (fun kq v5 v6 v7 w' => ∃ (eT : List (S51)) (gT : Int) (bT : Int), v6 = .int .i64 gT ∧ v7 = .int .i64 bT ∧ ah (aX.l0 kq l0 l1 eT gT bT = some r) ∧ ah (kq ≤ k) ∧ ah (Kd.V k51 51 w' w.heap.size (fun k_ => ((P0_ k_ ∨ P1_ k_) ∨ w.heap.size ≤ k_) ∧ some k_ ≠ (v5 : Value).ownBlock) (.slice A0 l0.length c0) l0) ∧ ah (Kd.V k51 51 w' w.heap.size (fun k_ => ((P0_ k_ ∨ P1_ k_) ∨ w.heap.size ≤ k_) ∧ some k_ ≠ (v5 : Value).ownBlock) (.slice A1 l1.length c1) l1) ∧ ah (Kd.N k51 51 w' w.heap.size (fun k_ => ((P0_ k_ ∨ P1_ k_) ∨ w.heap.size ≤ k_)) v5 eT) ∧ ah (Below w.heap.size w w'))
 case atStart => exact ⟨(([] : List (S51))), (0), (0), zz2, zz2, H', ⟨Nat.le_refl _⟩, ⟨by (with_reducible repeat (first | apply Kd.iW | apply Kd.iR | apply Kd.iQ)); exact Kd.iE HO0.out (fun _ hk => ⟨hk, (by simp [Value.ownBlock])⟩)⟩, ⟨by (with_reducible repeat (first | apply Kd.iW | apply Kd.iR | apply Kd.iQ)); exact Kd.iE HO1.out (fun _ hk => ⟨hk, (by simp [Value.ownBlock])⟩)⟩, ⟨zz79⟩, ⟨zz1⟩⟩
 case round =>
  clear H'; (try clear c1); (try clear p2); obtain ⟨eT, gT, bT, rfl, rfl, HA, HK1, jR, je, r9, HB⟩ := hrel
  cases gk with
  | zero => exact absurd HA.out (by simp [aX.l0])
  | succ k1 =>
   have H := HA.out; clear HA; simp only [aX.l0] at H; have HC3 := ah.mk H; clear H
   go_upto_region 3 with (fail)
   go_cut [19] (fun v19 wc => ∃ (kq : Nat) (Ri : Bool), v19 = .bool Ri ∧ ah (aX.j1 kq l0 l1 eT gT bT Ri = some r) ∧ ah (kq ≤ k1) ∧ ah (Kd.V k51 51 wc w.heap.size (fun k_ => ((P0_ k_ ∨ P1_ k_) ∨ w.heap.size ≤ k_) ∧ some k_ ≠ (u5 : Value).ownBlock) (.slice A0 l0.length c0) l0) ∧ ah (Kd.V k51 51 wc w.heap.size (fun k_ => ((P0_ k_ ∨ P1_ k_) ∨ w.heap.size ≤ k_) ∧ some k_ ≠ (u5 : Value).ownBlock) (.slice A1 l1.length c1) l1) ∧ ah (Kd.N k51 51 wc w.heap.size (fun k_ => ((P0_ k_ ∨ P1_ k_) ∨ w.heap.size ≤ k_)) u5 eT) ∧ ah (Below w.heap.size w wc))
   case first =>
    have H := HC3.out; clear HC3
    by_cases c4 : gT < (l0.length : Int)
    ·rw [if_pos c4] at H; have lG : decide (gT < (l0.length : Int)) = true := decide_eq_true c4; clear c4; (first | rw [lG] | (simp only [dS, eP]; rw [lG]) | skip); have H' := ah.mk H; clear H
     go_wp2
     go_meet
     case rel => exact ⟨_, (true), zz2, H', ⟨zz84⟩, ⟨uf⟩, ⟨xS⟩, ⟨Gg⟩, ⟨zz1⟩⟩
    ·rw [if_neg c4] at H; have lG : decide (gT < (l0.length : Int)) = false := decide_eq_false c4; clear c4; (first | rw [lG] | (simp only [dS, eP]; rw [lG]) | skip); have H' := ah.mk H; clear H
     go_wp2
     go_meet
     case rel => exact ⟨_, (decide (bT < (l1.length : Int))), zz2, H', ⟨zz84⟩, ⟨uf⟩, ⟨xS⟩, ⟨Gg⟩, ⟨zz1⟩⟩
   case rest =>
    clear HC3; (try clear c1); (try clear p2); (try clear c4); (try clear lG); (try clear p2); obtain ⟨kq, Ri, rfl, HA, HJ2, jR, je, r9, HB⟩ := hcut
    cases kq with
    | zero => exact absurd HA.out (by simp [aX.j1])
    | succ kj2 =>
     have H := HA.out; clear HA; simp only [aX.j1] at H
     by_cases c5 : Ri = true
     ·subst c5; rw [if_pos rfl] at H; have HC6 := ah.mk H; clear H
      go_upto_block 2 with (fail)
      go_cut [8] (fun v8 wc => ∃ (kq : Nat) (JB : Int), v8 = .int .i64 JB ∧ ah (aX.j2 kq l0 l1 eT gT bT JB = some r) ∧ ah (kq ≤ kj2) ∧ ah (Kd.V k51 51 wc w.heap.size (fun k_ => ((P0_ k_ ∨ P1_ k_) ∨ w.heap.size ≤ k_) ∧ some k_ ≠ (u5 : Value).ownBlock) (.slice A0 l0.length c0) l0) ∧ ah (Kd.V k51 51 wc w.heap.size (fun k_ => ((P0_ k_ ∨ P1_ k_) ∨ w.heap.size ≤ k_) ∧ some k_ ≠ (u5 : Value).ownBlock) (.slice A1 l1.length c1) l1) ∧ ah (Kd.N k51 51 wc w.heap.size (fun k_ => ((P0_ k_ ∨ P1_ k_) ∨ w.heap.size ≤ k_)) u5 eT) ∧ ah (Below w.heap.size w wc))
      case first =>
       have H := HC6.out; clear HC6
       by_cases c7 : gT = (l0.length : Int)
       ·rw [if_pos c7] at H; have qp : (gT == (l0.length : Int)) = true := beq_iff_eq.mpr c7; have Nz : (gT != (l0.length : Int)) = false := bne_eq_false_iff_eq.mpr c7; clear c7; (first | rw [qp] | (simp only [dS, eP]; rw [qp]) | skip); have H' := ah.mk H; clear H
        go_wp2
        go_meet
        case rel => exact ⟨_, (1), zz2, H', ⟨zz87⟩, ⟨uf⟩, ⟨xS⟩, ⟨Gg⟩, ⟨zz1⟩⟩
       ·rw [if_neg c7] at H; have qp : (gT == (l0.length : Int)) = false := beq_eq_false_iff_ne.mpr c7; have Nz : (gT != (l0.length : Int)) = true := bne_iff_ne.mpr c7; (first | rw [qp] | (simp only [dS, eP]; rw [qp]) | skip)
        by_cases c8 : bT = (l1.length : Int)
        ·rw [if_pos c8] at H; have pI : (bT == (l1.length : Int)) = true := beq_iff_eq.mpr c8; have EU : (bT != (l1.length : Int)) = false := bne_eq_false_iff_eq.mpr c8; clear c8; have H' := ah.mk H; clear H
         go_wp2
         go_meet
         case rel => exact ⟨_, ((-1)), zz2, H', ⟨zz87⟩, ⟨uf⟩, ⟨xS⟩, ⟨Gg⟩, ⟨zz1⟩⟩
        ·rw [if_neg c8] at H; have pI : (bT == (l1.length : Int)) = false := beq_eq_false_iff_ne.mpr c8; have EU : (bT != (l1.length : Int)) = true := bne_iff_ne.mpr c8
         by_cases c9 : 0 ≤ gT
         ·rw [if_pos c9] at H; have xH : decide (0 ≤ gT) = true := decide_eq_true c9; clear c9
          by_cases c10 : gT < (l0.length : Int)
          ·rw [if_pos c10] at H; have xM : decide (gT < (l0.length : Int)) = true := decide_eq_true c10; clear c10
           by_cases c11 : 0 ≤ bT
           ·rw [if_pos c11] at H; have T9 : decide (0 ≤ bT) = true := decide_eq_true c11; clear c11
            by_cases c12 : bT < (l1.length : Int)
            ·rw [if_pos c12] at H; have H9 : decide (bT < (l1.length : Int)) = true := decide_eq_true c12; clear c12; replace H := Option.bind_eq_some_iff.mp H; obtain ⟨t423, A130, H⟩ := H; have A13 := ah.mk A130; clear A130; have H' := ah.mk H; clear H
             try go_wp2
             replace jR := ah.mk (Kd.iQ jR.out); replace je := ah.mk (Kd.iQ je.out); replace r9 := ah.mk (Kd.pz r9.out); replace HB := ah.mk (bL HB.out); have p421 : 0 ≤ (gT : Int) := of_decide_eq_true zz9; have q421 : gT < (l0.length : Int) := of_decide_eq_true zz9; obtain ⟨Xc, XA, Wz, e421, Fa, Kn, RV, R9⟩ := fZ (Kd.dL jR.out).2.2 gT p421 q421
             cases e421
             obtain ⟨ce421, hce421, hMe421, Wp⟩ := Kd.qw jR.out z51 gT p421 (by first | exact q421 | exact of_decide_eq_true zz9 | (have e_ := (Kd.dL jR.out).1; omega)); obtain ⟨ua421_0, uc421_0, rfl, JQ, Le⟩ := jw hMe421; have Fv := Wp 0 _ rfl; rw [Nat.add_zero] at Fv; replace Fv := Option.some.inj (Fv.symm.trans Fa); injection Fv with ko ng kg; rw [ko] at Le; rw [kg] at JQ; have LP := ah.mk (show Kd.V k23 23 _ w.heap.size _ _ ((aD l0 gT).f0) from Kd.vM JQ Le); clear ko ng kg Le JQ; clear Wp hce421; have fD := ah.mk R9; have gN := ah.mk RV; clear R9 RV; replace p421 := eq_true p421; replace q421 := eq_true q421; have p422 : 0 ≤ (bT : Int) := of_decide_eq_true zz9; have q422 : bT < (l1.length : Int) := of_decide_eq_true zz9; obtain ⟨Xb, Xz, Wy, e422, E9, Km, RU, R8⟩ := fZ (Kd.dL je.out).2.2 bT p422 q422
             cases e422
             obtain ⟨ce422, hce422, hMe422, Wo⟩ := Kd.qw je.out z51 bT p422 (by first | exact q422 | exact of_decide_eq_true zz9 | (have e_ := (Kd.dL je.out).1; omega)); obtain ⟨ua422_0, uc422_0, rfl, JO, Ld⟩ := jw hMe422; have Fu := Wo 0 _ rfl; rw [Nat.add_zero] at Fu; replace Fu := Option.some.inj (Fu.symm.trans E9); injection Fu with ko ng kg; rw [ko] at Ld; rw [kg] at JO; have LM := ah.mk (show Kd.V k23 23 _ w.heap.size _ _ ((aD l1 bT).f0) from Kd.vM JO Ld); clear ko ng kg Ld JO; clear Wo hce422; have kK := ah.mk R8; have qB := ah.mk RU; clear R8 RU; replace p422 := eq_true p422; replace q422 := eq_true q422; refine jB (n := 12) (S := fun w' => w'.cell? (Xc.add ((gT).toNat * 2)) = some (.slice XA ((aD l0 gT).f0).length Wz) ∧ w'.cell? ⟨(Xc.add ((gT).toNat * 2)).block, (Xc.add ((gT).toNat * 2)).off + 1, none⟩ = some (.int .i64 ((aD l0 gT).f1)) ∧ w'.cell? (Xb.add ((bT).toNat * 2)) = some (.slice Xz ((aD l1 bT).f0).length Wy) ∧ w'.cell? ⟨(Xb.add ((bT).toNat * 2)).block, (Xb.add ((bT).toNat * 2)).off + 1, none⟩ = some (.int .i64 ((aD l1 bT).f1))) (ds := []) (.replicate 12 false) (by kernel_rfl) rfl rfl ⟨Fa, Kn, E9, Km⟩ (fun hHeld => ?_); refine iG aX.tab5 aX.NR (fun HT_ HW_ => ?_); generalize wc.drew = w14 at jR je r9 HB LP LM fD kK Fa Kn E9 Km hHeld ⊢; refine pV 0 20 (bA 12 1) HT_ ?_; refine pV 1 21 (bA 12 3) HT_ ?_; refine pV 2 22 (bA 12 7) HT_ ?_; refine pV 3 23 (bA 12 15) HT_ ?_; refine pV 5 25 (bA 12 47) HT_ ?_; refine pV 6 26 (bA 12 111) HT_ ?_; refine pV 7 27 (bA 12 239) HT_ ?_; refine pV 8 28 (bA 12 495) HT_ ?_; refine tV (v := ?_) 4 24 (bA 12 511) HT_ HW_ hHeld ?_ ?_; rotate_left
             ·rintro w' ⟨s0, s1, s2, s3⟩
              go_simp
              (with_reducible rfl)
             refine tV (v := ?_) 9 29 (bA 12 1023) HT_ HW_ hHeld ?_ ?_; rotate_left
             ·rintro w' ⟨s0, s1, s2, s3⟩
              go_simp
              (with_reducible rfl)
             refine oN 10 30 (bA 12 2047) HT_ (fun K hK => ?_); refine iy Try.func93 (by kernel_rfl) rfl #[.slice XA ((aD l0 gT).f0).length Wz, .slice Xz ((aD l1 bT).f0).length Wy] (by rfl) rfl rfl zz8 ?_; (with_reducible refine (aK.calls kj2 _ _ ((aD l0 gT).f0) _ _ ((aD l1 bT).f0) t423 _ ?bO ?bR ?mg ?mU A13.out).mono ?_); (case bO => repeat (first | exact Jy | (with_reducible refine Kd.dF ?_ _) | (with_reducible refine Kd.dI ?_ _) | (with_reducible refine Kd.dZ ?_))); (case bR => exact gN.out); (case mg => repeat (first | exact zz89 | (with_reducible refine Kd.dF ?_ _) | (with_reducible refine Kd.dI ?_ _) | (with_reducible refine Kd.dZ ?_))); (case mU => exact qB.out); rintro e w15 ⟨rfl, hb⟩; have HS0_ := (hb.cell (World.block_lt_of_cell? _ _ (hHeld.1))).trans (hHeld.1); have HS1_ := (hb.cell (World.block_lt_of_cell? _ _ (hHeld.2.1))).trans (hHeld.2.1); have HS2_ := (hb.cell (World.block_lt_of_cell? _ _ (hHeld.2.2.1))).trans (hHeld.2.2.1); have HS3_ := (hb.cell (World.block_lt_of_cell? _ _ (hHeld.2.2.2))).trans (hHeld.2.2.2); refine ⟨_, rfl, ?_⟩; replace jR := ah.mk (Kd.iM uf hb); replace je := ah.mk (Kd.iM xS hb); replace r9 := ah.mk (Kd.zH Gg hb); replace LP := ah.mk (Kd.iM (by (with_reducible repeat (first | apply Kd.iW | apply Kd.iR | apply Kd.iQ)); exact LP.out) hb); replace LM := ah.mk (Kd.iM (by (with_reducible repeat (first | apply Kd.iW | apply Kd.iR | apply Kd.iQ)); exact LM.out) hb); replace fD := ah.mk (Kd.eZ Jy hb); replace kK := ah.mk (Kd.eZ zz89 hb); replace HB := ah.mk (av zz1 hb); (try clear hb); (try clear hb2); (try clear hk); (try clear hi); refine hK.out _ _ ⟨HS0_, HS1_, HS2_, HS3_⟩ (fun hHeld => ?_); clear hK K; refine iI (a' := ?_) ?_ ?_; rotate_left
             ·show Act.put _ (some 30) _ = _
              simp only [Act.put, List.setIfInBounds_toArray, List.set_cons_zero, List.set_cons_succ, dS, eP]
              rfl
             refine pV 11 8 (bA 12 4095) HT_ ?_; refine kX (j6 HT_.out (by kernel_rfl)) ?_
             try go_wp2
             go_meet
             case rel => exact ⟨_, (t423), zz2, H', ⟨zz87⟩, ⟨uf⟩, ⟨xS⟩, ⟨Gg⟩, ⟨zz1⟩⟩
            ·rw [if_neg c12] at H; exact absurd H (by simp)
           ·rw [if_neg c11] at H; exact absurd H (by simp)
          ·rw [if_neg c10] at H; exact absurd H (by simp)
         ·rw [if_neg c9] at H; exact absurd H (by simp)
      case rest =>
       clear HC6; (try clear c1); (try clear p2); (try clear c4); (try clear lG); (try clear p4); (try clear q4); (try clear hx4); (try clear c5); (try clear c6); (try clear c7); (try clear qp); (try clear Nz); (try clear c8); (try clear pI); (try clear EU); (try clear c9); (try clear xH); (try clear c10); (try clear xM); (try clear c11); (try clear T9); (try clear c12); (try clear H9); (try clear Fa); (try clear Kn); (try clear E9); (try clear Km); (try clear p2); (try clear p421); (try clear p422); (try clear q421); (try clear q422); obtain ⟨kq, JB, rfl, HA, HJ5, jR, je, r9, HB⟩ := hcut
       cases kq with
       | zero => exact absurd HA.out (by simp [aX.j2])
       | succ kj5 =>
        have H := HA.out; clear HA; simp only [aX.j2] at H
        by_cases c16 : JB < 0
        ·rw [if_pos c16] at H; have lU : decide (JB < 0) = true := decide_eq_true c16; clear c16
         by_cases c17 : 0 ≤ gT
         ·rw [if_pos c17] at H; have NH : decide (0 ≤ gT) = true := decide_eq_true c17; clear c17
          by_cases c18 : gT < (l0.length : Int)
          ·rw [if_pos c18] at H; have Jh : decide (gT < (l0.length : Int)) = true := decide_eq_true c18; clear c18
           by_cases c19 : eT.length < 4398046511104
           ·rw [if_pos c19] at H; have LMc19 := ah.mk c19; clear c19; obtain ⟨y425, MO⟩ : ∃ y_ : List (S51), y_ = (eT ++ [(⟨(aD l0 gT).f0, (aD l0 gT).f1⟩ : S51)]) := ⟨_, rfl⟩; replace H : (aX.l0 kj5 l0 l1 y425 (wrap64 (gT + 1)) bT) = some r := by first | (rw [MO]; with_reducible exact H) | (have H2_ := (Option.bind_some _ _).symm.trans H; rw [MO]; with_reducible exact H2_) | (have H2_ := (Option.bind_some _ _).symm.trans H; with_reducible exact H2_) | with_reducible exact H | (rw [MO]; exact H) | exact H
            have Ny425 := ah.mk MO; clear MO; have H' := ah.mk H; clear H; have p424 : 0 ≤ (gT : Int) := of_decide_eq_true zz9; have q424 : gT < (l0.length : Int) := of_decide_eq_true zz9; obtain ⟨ad424, A424_0, c424_0, e424, YC, hx424_1, RS, R7⟩ := fZ (Kd.dL jR.out).2.2 gT p424 q424
            cases e424
            obtain ⟨ce424, hce424, hMe424, Wn⟩ := Kd.qw jR.out z51 gT p424 (by first | exact q424 | exact of_decide_eq_true zz9 | (have e_ := (Kd.dL jR.out).1; omega)); obtain ⟨ua424_0, uc424_0, rfl, JN, Lc⟩ := jw hMe424; have Fq := Wn 0 _ rfl; rw [Nat.add_zero] at Fq; replace Fq := Option.some.inj (Fq.symm.trans YC); injection Fq with ko ng kg; rw [ko] at Lc; rw [kg] at JN; have Gb := ah.mk (show Kd.V k23 23 _ w.heap.size _ _ ((aD l0 gT).f0) from Kd.vM JN Lc); clear ko ng kg Lc JN; clear Wn hce424; have lq := ah.mk R7; have qA := ah.mk RS; clear R7 RS; replace p424 := eq_true p424; replace q424 := eq_true q424
            go_wp2_with (first | ((with_reducible refine iA (b := .append) (xs := #[.tmp 71, .tmp 76]) rfl ?_); (try (refine gM (by rfl) ?_; dsimp only)); at_builtin; refine Kd.Ir k51 (w0 := w) w.heap.size rfl (.tmp 71) (.tmp 76) 38 51 (.agg #[(.slice none 0 0), (.int .i64 0)]) 32 rfl Try.underlying38 DV rfl (by decide) (by omega) u5 eT (⟨(aD l0 gT).f0, (aD l0 gT).f1⟩ : S51) [.slice A424_0 ((aD l0 gT).f0).length c424_0, .int .i64 ((aD l0 gT).f1)] (fun k_ => ((P0_ k_ ∨ P1_ k_) ∨ w.heap.size ≤ k_)) (fun k_ => ((fun k_ => ((P0_ k_ ∨ P1_ k_) ∨ w.heap.size ≤ k_))) k_ ∧ some k_ ≠ (u5 : Value).ownBlock) rfl rfl ?aP (fun _ hk => hk) ?aF ?aO ?aB ?aS ?aL ?_; (case aP => exact (Bb _ _ (⟨(aD l0 gT).f0, (aD l0 gT).f1⟩ : S51) (Kd.dL (Kd.iE (ok' := (fun k_ => ((fun k_ => ((P0_ k_ ∨ P1_ k_) ∨ w.heap.size ≤ k_))) k_ ∧ some k_ ≠ (u5 : Value).ownBlock)) (Gb.out) (fun k_ hk => ⟨hk.1, hk.2⟩))).2.1 (Kd.V_F (Kd.iE (ok' := (fun k_ => ((fun k_ => ((P0_ k_ ∨ P1_ k_) ∨ w.heap.size ≤ k_))) k_ ∧ some k_ ≠ (u5 : Value).ownBlock)) (Gb.out) (fun k_ hk => ⟨hk.1, hk.2⟩))))); (case aB => exact zz1); (case aF => exact (fun k_ hk => (.inr (Nat.le_trans (bS zz1) hk)))); (case aO => exact Gg); (case aS => exact (bS zz1)); (case aL => have := LMc19.out; omega); intro v426 w20 ho hb hg hat; rw [← Ny425.out] at ho; replace jR := ah.mk (Kd.mo (ok := (fun k_ => ((P0_ k_ ∨ P1_ k_) ∨ w.heap.size ≤ k_))) uf hg hat); replace je := ah.mk (Kd.mo (ok := (fun k_ => ((P0_ k_ ∨ P1_ k_) ∨ w.heap.size ≤ k_))) xS hg hat); replace Gb := ah.mk (Kd.mo (ok := (fun k_ => ((P0_ k_ ∨ P1_ k_) ∨ w.heap.size ≤ k_))) (by (with_reducible repeat (first | apply Kd.iW | apply Kd.iR | apply Kd.iQ)); exact Gb.out) hg hat); replace HB := ah.mk (hb); have kT := ah.mk (ho); clear r9; clear ho hb hg hat))
            go_roundg kj5
            case measure => have := HK1.out; have := HJ2.out; have := HJ5.out; omega
            case rel => exact ⟨(y425), (wrap64 (gT + 1)), (bT), zz2, zz2, H', ⟨zz90⟩, ⟨uf⟩, ⟨xS⟩, ⟨zz56⟩, ⟨zz1⟩⟩
           ·rw [if_neg c19] at H; exact absurd H (by simp)
          ·rw [if_neg c18] at H; exact absurd H (by simp)
         ·rw [if_neg c17] at H; exact absurd H (by simp)
        ·rw [if_neg c16] at H; have lU : decide (JB < 0) = false := decide_eq_false c16; clear c16
         by_cases c21 : JB > 0
         ·rw [if_pos c21] at H; have c21b0 : decide (0 < JB) = true := decide_eq_true c21; clear c21
          by_cases c22 : 0 ≤ bT
          ·rw [if_pos c22] at H; have H6 : decide (0 ≤ bT) = true := decide_eq_true c22; clear c22
           by_cases c23 : bT < (l1.length : Int)
           ·rw [if_pos c23] at H; have c23b0 : decide (bT < (l1.length : Int)) = true := decide_eq_true c23; clear c23
            by_cases c24 : eT.length < 4398046511104
            ·rw [if_pos c24] at H; have LMc24 := ah.mk c24; clear c24; obtain ⟨y429, MN⟩ : ∃ y_ : List (S51), y_ = (eT ++ [(⟨(aD l1 bT).f0, (aD l1 bT).f1⟩ : S51)]) := ⟨_, rfl⟩; replace H : (aX.l0 kj5 l0 l1 y429 gT (wrap64 (bT + 1))) = some r := by first | (rw [MN]; with_reducible exact H) | (have H2_ := (Option.bind_some _ _).symm.trans H; rw [MN]; with_reducible exact H2_) | (have H2_ := (Option.bind_some _ _).symm.trans H; with_reducible exact H2_) | with_reducible exact H | (rw [MN]; exact H) | exact H
             have Ny429 := ah.mk MN; clear MN; have H' := ah.mk H; clear H; have p428 : 0 ≤ (bT : Int) := of_decide_eq_true zz9; have q428 : bT < (l1.length : Int) := of_decide_eq_true zz9; obtain ⟨ad428, A428_0, c428_0, e428, YB, hx428_1, RQ, R6⟩ := fZ (Kd.dL je.out).2.2 bT p428 q428
             cases e428
             obtain ⟨ce428, hce428, hMe428, Wm⟩ := Kd.qw je.out z51 bT p428 (by first | exact q428 | exact of_decide_eq_true zz9 | (have e_ := (Kd.dL je.out).1; omega)); obtain ⟨ua428_0, uc428_0, rfl, JM, Lb⟩ := jw hMe428; have Fp := Wm 0 _ rfl; rw [Nat.add_zero] at Fp; replace Fp := Option.some.inj (Fp.symm.trans YB); injection Fp with ko ng kg; rw [ko] at Lb; rw [kg] at JM; have Ga := ah.mk (show Kd.V k23 23 _ w.heap.size _ _ ((aD l1 bT).f0) from Kd.vM JM Lb); clear ko ng kg Lb JM; clear Wm hce428; have zI := ah.mk R6; have Gc := ah.mk RQ; clear R6 RQ; replace p428 := eq_true p428; replace q428 := eq_true q428
             go_wp2_with (first | ((with_reducible refine iA (b := .append) (xs := #[.tmp 83, .tmp 88]) rfl ?_); (try (refine gM (by rfl) ?_; dsimp only)); at_builtin; refine Kd.Ir k51 (w0 := w) w.heap.size rfl (.tmp 83) (.tmp 88) 38 51 (.agg #[(.slice none 0 0), (.int .i64 0)]) 32 rfl Try.underlying38 DV rfl (by decide) (by omega) u5 eT (⟨(aD l1 bT).f0, (aD l1 bT).f1⟩ : S51) [.slice A428_0 ((aD l1 bT).f0).length c428_0, .int .i64 ((aD l1 bT).f1)] (fun k_ => ((P0_ k_ ∨ P1_ k_) ∨ w.heap.size ≤ k_)) (fun k_ => ((fun k_ => ((P0_ k_ ∨ P1_ k_) ∨ w.heap.size ≤ k_))) k_ ∧ some k_ ≠ (u5 : Value).ownBlock) rfl rfl ?aP (fun _ hk => hk) ?aF ?aO ?aB ?aS ?aL ?_; (case aP => exact (Bb _ _ (⟨(aD l1 bT).f0, (aD l1 bT).f1⟩ : S51) (Kd.dL (Kd.iE (ok' := (fun k_ => ((fun k_ => ((P0_ k_ ∨ P1_ k_) ∨ w.heap.size ≤ k_))) k_ ∧ some k_ ≠ (u5 : Value).ownBlock)) (Ga.out) (fun k_ hk => ⟨hk.1, hk.2⟩))).2.1 (Kd.V_F (Kd.iE (ok' := (fun k_ => ((fun k_ => ((P0_ k_ ∨ P1_ k_) ∨ w.heap.size ≤ k_))) k_ ∧ some k_ ≠ (u5 : Value).ownBlock)) (Ga.out) (fun k_ hk => ⟨hk.1, hk.2⟩))))); (case aB => exact zz1); (case aF => exact (fun k_ hk => (.inr (Nat.le_trans (bS zz1) hk)))); (case aO => exact Gg); (case aS => exact (bS zz1)); (case aL => have := LMc24.out; omega); intro v430 w25 ho hb hg hat; rw [← Ny429.out] at ho; replace jR := ah.mk (Kd.mo (ok := (fun k_ => ((P0_ k_ ∨ P1_ k_) ∨ w.heap.size ≤ k_))) uf hg hat); replace je := ah.mk (Kd.mo (ok := (fun k_ => ((P0_ k_ ∨ P1_ k_) ∨ w.heap.size ≤ k_))) xS hg hat); replace Ga := ah.mk (Kd.mo (ok := (fun k_ => ((P0_ k_ ∨ P1_ k_) ∨ w.heap.size ≤ k_))) (by (with_reducible repeat (first | apply Kd.iW | apply Kd.iR | apply Kd.iQ)); exact Ga.out) hg hat); replace HB := ah.mk (hb); have qz := ah.mk (ho); clear r9; clear ho hb hg hat))
             go_roundg kj5
             case measure => have := HK1.out; have := HJ2.out; have := HJ5.out; omega
             case rel => exact ⟨(y429), (gT), (wrap64 (bT + 1)), zz2, zz2, H', ⟨zz90⟩, ⟨uf⟩, ⟨xS⟩, ⟨zz91⟩, ⟨zz1⟩⟩
            ·rw [if_neg c24] at H; exact absurd H (by simp)
           ·rw [if_neg c23] at H; exact absurd H (by simp)
          ·rw [if_neg c22] at H; exact absurd H (by simp)
         ·rw [if_neg c21] at H; have c21b0 : decide (0 < JB) = false := decide_eq_false c21; clear c21
          by_cases c26 : 0 ≤ gT
          ·rw [if_pos c26] at H; have c26b0 : decide (0 ≤ gT) = true := decide_eq_true c26; clear c26
           by_cases c27 : gT < (l0.length : Int)
           ·rw [if_pos c27] at H; have c27b0 : decide (gT < (l0.length : Int)) = true := decide_eq_true c27; clear c27
            by_cases c28 : 0 ≤ bT
            ·rw [if_pos c28] at H; have c28b0 : decide (0 ≤ bT) = true := decide_eq_true c28; clear c28
             by_cases c29 : bT < (l1.length : Int)
             ·rw [if_pos c29] at H; have TU : decide (bT < (l1.length : Int)) = true := decide_eq_true c29; clear c29
              by_cases c30 : (wrap64 (((aD l0 gT).f1) + ((aD l1 bT).f1))) = 0
              ·rw [if_pos c30] at H; have HZ : ((wrap64 (((aD l0 gT).f1) + ((aD l1 bT).f1))) == 0) = true := beq_iff_eq.mpr c30; have c30b1 : ((wrap64 (((aD l0 gT).f1) + ((aD l1 bT).f1))) != 0) = false := bne_eq_false_iff_eq.mpr c30; clear c30; have H' := ah.mk H; clear H
               try go_wp2
               replace jR := ah.mk (Kd.iQ jR.out); replace je := ah.mk (Kd.iQ je.out); replace r9 := ah.mk (Kd.pz r9.out); replace HB := ah.mk (bL HB.out); have Ka : 0 ≤ (gT : Int) := of_decide_eq_true zz9; have J4 : gT < (l0.length : Int) := of_decide_eq_true zz9; obtain ⟨ED, L6, Ll, e432, uV, Bh, BS, Cj⟩ := fZ (Kd.dL jR.out).2.2 gT Ka J4
               cases e432
               obtain ⟨ce432, PY, Qs, Hf⟩ := Kd.qw jR.out z51 gT Ka (by first | exact J4 | exact of_decide_eq_true zz9 | (have e_ := (Kd.dL jR.out).1; omega)); obtain ⟨Yi, Yd, rfl, wE, xD⟩ := jw Qs; have tF := Hf 0 _ rfl; rw [Nat.add_zero] at tF; replace tF := Option.some.inj (tF.symm.trans uV); injection tF with ko ng kg; rw [ko] at xD; rw [kg] at wE; have DF := ah.mk (show Kd.V k23 23 _ w.heap.size _ _ ((aD l0 gT).f0) from Kd.vM wE xD); clear ko ng kg xD wE; clear Hf PY; have LH := ah.mk Cj; have aaF := ah.mk BS; clear Cj BS; replace Ka := eq_true Ka; replace J4 := eq_true J4; have J9 : 0 ≤ (bT : Int) := of_decide_eq_true zz9; have J3 : bT < (l1.length : Int) := of_decide_eq_true zz9; obtain ⟨Ij, QM, QC, e433, wP, Bg, BR, Ci⟩ := fZ (Kd.dL je.out).2.2 bT J9 J3
               cases e433
               obtain ⟨ce433, PX, Qr, He⟩ := Kd.qw je.out z51 bT J9 (by first | exact J3 | exact of_decide_eq_true zz9 | (have e_ := (Kd.dL je.out).1; omega)); obtain ⟨Yh, Yc, rfl, wD, xC⟩ := jw Qr; have tC := He 0 _ rfl; rw [Nat.add_zero] at tC; replace tC := Option.some.inj (tC.symm.trans wP); injection tC with ko ng kg; rw [ko] at xC; rw [kg] at wD; have DC := ah.mk (show Kd.V k23 23 _ w.heap.size _ _ ((aD l1 bT).f0) from Kd.vM wD xC); clear ko ng kg xC wD; clear He PX; have LG := ah.mk Ci; have aaE := ah.mk BR; clear Ci BR; replace J9 := eq_true J9; replace J3 := eq_true J3; refine jB (n := 12) (S := fun w' => w'.cell? (ED.add ((gT).toNat * 2)) = some (.slice L6 ((aD l0 gT).f0).length Ll) ∧ w'.cell? ⟨(ED.add ((gT).toNat * 2)).block, (ED.add ((gT).toNat * 2)).off + 1, none⟩ = some (.int .i64 ((aD l0 gT).f1)) ∧ w'.cell? (Ij.add ((bT).toNat * 2)) = some (.slice QM ((aD l1 bT).f0).length QC) ∧ w'.cell? ⟨(Ij.add ((bT).toNat * 2)).block, (Ij.add ((bT).toNat * 2)).off + 1, none⟩ = some (.int .i64 ((aD l1 bT).f1))) (ds := []) (.replicate 12 false) (by kernel_rfl) rfl rfl ⟨uV, Bh, wP, Bg⟩ (fun hHeld => ?_); refine iG aX.tab10 aX.WU (fun HT_ HW_ => ?_); generalize wc.drew = w31 at jR je r9 HB DF DC LH LG uV Bh wP Bg hHeld ⊢; refine pV 0 41 (bA 12 1) HT_ ?_; refine pV 1 42 (bA 12 3) HT_ ?_; refine pV 2 43 (bA 12 7) HT_ ?_; refine pV 3 44 (bA 12 15) HT_ ?_; refine pV 5 46 (bA 12 47) HT_ ?_; refine pV 6 47 (bA 12 111) HT_ ?_; refine pV 7 48 (bA 12 239) HT_ ?_; refine pV 8 49 (bA 12 495) HT_ ?_; refine tV (v := ?_) 4 45 (bA 12 511) HT_ HW_ hHeld ?_ ?_; rotate_left
               ·rintro w' ⟨s0, s1, s2, s3⟩
                go_simp
                (with_reducible rfl)
               refine tV (v := ?_) 9 50 (bA 12 1023) HT_ HW_ hHeld ?_ ?_; rotate_left
               ·rintro w' ⟨s0, s1, s2, s3⟩
                go_simp
                (with_reducible rfl)
               refine pV 10 51 (bA 12 2047) HT_ ?_; refine pV 11 9 (bA 12 4095) HT_ ?_; refine kX (j6 HT_.out (by kernel_rfl)) ?_
               try go_wp2
               go_roundg kj5
               case measure => have := HK1.out; have := HJ2.out; have := HJ5.out; omega
               case rel => exact ⟨(eT), (wrap64 (gT + 1)), (wrap64 (bT + 1)), zz2, zz2, H', ⟨zz90⟩, ⟨uf⟩, ⟨xS⟩, ⟨Gg⟩, ⟨zz1⟩⟩
              ·rw [if_neg c30] at H; have HZ : ((wrap64 (((aD l0 gT).f1) + ((aD l1 bT).f1))) == 0) = false := beq_eq_false_iff_ne.mpr c30; have c30b1 : ((wrap64 (((aD l0 gT).f1) + ((aD l1 bT).f1))) != 0) = true := bne_iff_ne.mpr c30
               by_cases c32 : eT.length < 4398046511104
               ·rw [if_pos c32] at H; have LMc32 := ah.mk c32; clear c32; obtain ⟨y435, ML⟩ : ∃ y_ : List (S51), y_ = (eT ++ [(⟨(aD l0 gT).f0, wrap64 (((aD l0 gT).f1) + ((aD l1 bT).f1))⟩ : S51)]) := ⟨_, rfl⟩; replace H : (aX.l0 kj5 l0 l1 y435 (wrap64 (gT + 1)) (wrap64 (bT + 1))) = some r := by first | (rw [ML]; with_reducible exact H) | (have H2_ := (Option.bind_some _ _).symm.trans H; rw [ML]; with_reducible exact H2_) | (have H2_ := (Option.bind_some _ _).symm.trans H; with_reducible exact H2_) | with_reducible exact H | (rw [ML]; exact H) | exact H
                have Ny435 := ah.mk ML; clear ML; have H' := ah.mk H; clear H
                try go_wp2
                replace jR := ah.mk (Kd.iQ jR.out); replace je := ah.mk (Kd.iQ je.out); replace r9 := ah.mk (Kd.pz r9.out); replace HB := ah.mk (bL HB.out); have Ka : 0 ≤ (gT : Int) := of_decide_eq_true zz9; have J4 : gT < (l0.length : Int) := of_decide_eq_true zz9; obtain ⟨ED, L6, Ll, e432, uV, Bh, BS, Cj⟩ := fZ (Kd.dL jR.out).2.2 gT Ka J4
                cases e432
                obtain ⟨ce432, PY, Qs, Hf⟩ := Kd.qw jR.out z51 gT Ka (by first | exact J4 | exact of_decide_eq_true zz9 | (have e_ := (Kd.dL jR.out).1; omega)); obtain ⟨Yi, Yd, rfl, wE, xD⟩ := jw Qs; have tF := Hf 0 _ rfl; rw [Nat.add_zero] at tF; replace tF := Option.some.inj (tF.symm.trans uV); injection tF with ko ng kg; rw [ko] at xD; rw [kg] at wE; have DF := ah.mk (show Kd.V k23 23 _ w.heap.size _ _ ((aD l0 gT).f0) from Kd.vM wE xD); clear ko ng kg xD wE; clear Hf PY; have LH := ah.mk Cj; have aaF := ah.mk BS; clear Cj BS; replace Ka := eq_true Ka; replace J4 := eq_true J4; have J9 : 0 ≤ (bT : Int) := of_decide_eq_true zz9; have J3 : bT < (l1.length : Int) := of_decide_eq_true zz9; obtain ⟨Ij, QM, QC, e433, wP, Bg, BR, Ci⟩ := fZ (Kd.dL je.out).2.2 bT J9 J3
                cases e433
                obtain ⟨ce433, PX, Qr, He⟩ := Kd.qw je.out z51 bT J9 (by first | exact J3 | exact of_decide_eq_true zz9 | (have e_ := (Kd.dL je.out).1; omega)); obtain ⟨Yh, Yc, rfl, wD, xC⟩ := jw Qr; have tC := He 0 _ rfl; rw [Nat.add_zero] at tC; replace tC := Option.some.inj (tC.symm.trans wP); injection tC with ko ng kg; rw [ko] at xC; rw [kg] at wD; have DC := ah.mk (show Kd.V k23 23 _ w.heap.size _ _ ((aD l1 bT).f0) from Kd.vM wD xC); clear ko ng kg xC wD; clear He PX; have LG := ah.mk Ci; have aaE := ah.mk BR; clear Ci BR; replace J9 := eq_true J9; replace J3 := eq_true J3; refine jB (n := 12) (S := fun w' => w'.cell? (ED.add ((gT).toNat * 2)) = some (.slice L6 ((aD l0 gT).f0).length Ll) ∧ w'.cell? ⟨(ED.add ((gT).toNat * 2)).block, (ED.add ((gT).toNat * 2)).off + 1, none⟩ = some (.int .i64 ((aD l0 gT).f1)) ∧ w'.cell? (Ij.add ((bT).toNat * 2)) = some (.slice QM ((aD l1 bT).f0).length QC) ∧ w'.cell? ⟨(Ij.add ((bT).toNat * 2)).block, (Ij.add ((bT).toNat * 2)).off + 1, none⟩ = some (.int .i64 ((aD l1 bT).f1))) (ds := []) (.replicate 12 false) (by kernel_rfl) rfl rfl ⟨uV, Bh, wP, Bg⟩ (fun hHeld => ?_); refine iG aX.tab10 aX.WU (fun HT_ HW_ => ?_); generalize wc.drew = w33 at jR je r9 HB DF DC LH LG uV Bh wP Bg hHeld ⊢; refine pV 0 41 (bA 12 1) HT_ ?_; refine pV 1 42 (bA 12 3) HT_ ?_; refine pV 2 43 (bA 12 7) HT_ ?_; refine pV 3 44 (bA 12 15) HT_ ?_; refine pV 5 46 (bA 12 47) HT_ ?_; refine pV 6 47 (bA 12 111) HT_ ?_; refine pV 7 48 (bA 12 239) HT_ ?_; refine pV 8 49 (bA 12 495) HT_ ?_; refine tV (v := ?_) 4 45 (bA 12 511) HT_ HW_ hHeld ?_ ?_; rotate_left
                ·rintro w' ⟨s0, s1, s2, s3⟩
                 go_simp
                 (with_reducible rfl)
                refine tV (v := ?_) 9 50 (bA 12 1023) HT_ HW_ hHeld ?_ ?_; rotate_left
                ·rintro w' ⟨s0, s1, s2, s3⟩
                 go_simp
                 (with_reducible rfl)
                refine pV 10 51 (bA 12 2047) HT_ ?_; refine pV 11 9 (bA 12 4095) HT_ ?_; refine kX (j6 HT_.out (by kernel_rfl)) ?_; have p434 : 0 ≤ (gT : Int) := of_decide_eq_true zz9; have q434 : gT < (l0.length : Int) := of_decide_eq_true zz9; obtain ⟨ad434, A434_0, c434_0, e434, Ry, hx434_1, RP, R5⟩ := fZ (Kd.dL jR.out).2.2 gT p434 q434; obtain rfl : ED = ad434 := (by injection e434); obtain ⟨ce434, hce434, hMe434, Wj⟩ := Kd.qw jR.out z51 gT p434 (by first | exact q434 | exact of_decide_eq_true zz9 | (have e_ := (Kd.dL jR.out).1; omega)); obtain ⟨ua434_0, uc434_0, rfl, JL, La⟩ := jw hMe434; have Fj := Wj 0 _ rfl; rw [Nat.add_zero] at Fj; replace Fj := Option.some.inj (Fj.symm.trans Ry); injection Fj with ko ng kg; rw [ko] at La; rw [kg] at JL; have F9 := ah.mk (show Kd.V k23 23 _ w.heap.size _ _ ((aD l0 gT).f0) from Kd.vM JL La); clear ko ng kg La JL; clear Wj hce434; have HR108_0 := ah.mk R5; have HC108_0 := ah.mk RP; clear R5 RP; replace p434 := eq_true p434; replace q434 := eq_true q434; have ea_ := Option.some.inj (uV.symm.trans Ry); injection ea_ with ea_ en_ ec_; subst ea_; subst ec_; clear en_
                try go_wp2_with (first | ((with_reducible refine iA (b := .append) (xs := #[.tmp 54, .tmp 62]) rfl ?_); (try (refine gM (by rfl) ?_; dsimp only)); at_builtin; refine Kd.Ir k51 (w0 := w) w.heap.size rfl (.tmp 54) (.tmp 62) 38 51 (.agg #[(.slice none 0 0), (.int .i64 0)]) 32 rfl Try.underlying38 DV rfl (by decide) (by omega) u5 eT (⟨(aD l0 gT).f0, wrap64 (((aD l0 gT).f1) + ((aD l1 bT).f1))⟩ : S51) [.slice L6 ((aD l0 gT).f0).length Ll, .int .i64 (wrap64 (((aD l0 gT).f1) + ((aD l1 bT).f1)))] (fun k_ => ((P0_ k_ ∨ P1_ k_) ∨ w.heap.size ≤ k_)) (fun k_ => ((fun k_ => ((P0_ k_ ∨ P1_ k_) ∨ w.heap.size ≤ k_))) k_ ∧ some k_ ≠ (u5 : Value).ownBlock) rfl rfl ?aP (fun _ hk => hk) ?aF ?aO ?aB ?aS ?aL ?_; (case aP => exact (Bb _ _ (⟨(aD l0 gT).f0, wrap64 (((aD l0 gT).f1) + ((aD l1 bT).f1))⟩ : S51) (Kd.dL (Kd.iE (ok' := (fun k_ => ((fun k_ => ((P0_ k_ ∨ P1_ k_) ∨ w.heap.size ≤ k_))) k_ ∧ some k_ ≠ (u5 : Value).ownBlock)) (F9.out) (fun k_ hk => ⟨hk.1, hk.2⟩))).2.1 (Kd.V_F (Kd.iE (ok' := (fun k_ => ((fun k_ => ((P0_ k_ ∨ P1_ k_) ∨ w.heap.size ≤ k_))) k_ ∧ some k_ ≠ (u5 : Value).ownBlock)) (F9.out) (fun k_ hk => ⟨hk.1, hk.2⟩))))); (case aB => exact zz1); (case aF => exact (fun k_ hk => (.inr (Nat.le_trans (bS zz1) hk)))); (case aO => exact Gg); (case aS => exact (bS zz1)); (case aL => have := LMc32.out; omega); intro v436 w34 ho hb hg hat; rw [← Ny435.out] at ho; replace jR := ah.mk (Kd.mo (ok := (fun k_ => ((P0_ k_ ∨ P1_ k_) ∨ w.heap.size ≤ k_))) uf hg hat); replace je := ah.mk (Kd.mo (ok := (fun k_ => ((P0_ k_ ∨ P1_ k_) ∨ w.heap.size ≤ k_))) xS hg hat); replace DF := ah.mk (Kd.mo (ok := (fun k_ => ((P0_ k_ ∨ P1_ k_) ∨ w.heap.size ≤ k_))) (by (with_reducible repeat (first | apply Kd.iW | apply Kd.iR | apply Kd.iQ)); exact DF.out) hg hat); replace DC := ah.mk (Kd.mo (ok := (fun k_ => ((P0_ k_ ∨ P1_ k_) ∨ w.heap.size ≤ k_))) (by (with_reducible repeat (first | apply Kd.iW | apply Kd.iR | apply Kd.iQ)); exact DC.out) hg hat); replace F9 := ah.mk (Kd.mo (ok := (fun k_ => ((P0_ k_ ∨ P1_ k_) ∨ w.heap.size ≤ k_))) (by (with_reducible repeat (first | apply Kd.iW | apply Kd.iR | apply Kd.iQ)); exact F9.out) hg hat); replace HB := ah.mk (hb); have NY := ah.mk (ho); clear r9; clear ho hb hg hat))
                go_roundg kj5
                case measure => have := HK1.out; have := HJ2.out; have := HJ5.out; omega
                case rel => exact ⟨(y435), (wrap64 (gT + 1)), (wrap64 (bT + 1)), zz2, zz2, H', ⟨zz90⟩, ⟨uf⟩, ⟨xS⟩, ⟨by (with_reducible repeat (first | apply Kd.rP | apply Kd.rO | apply Kd.pz)); exact NY.out⟩, ⟨zz1⟩⟩
               ·rw [if_neg c32] at H; exact absurd H (by simp)
             ·rw [if_neg c29] at H; exact absurd H (by simp)
            ·rw [if_neg c28] at H; exact absurd H (by simp)
           ·rw [if_neg c27] at H; exact absurd H (by simp)
          ·rw [if_neg c26] at H; exact absurd H (by simp)
     ·replace c5 := Bool.eq_false_iff.mpr c5; subst c5; rw [if_neg (show ¬ (false = true) by decide)] at H; obtain rfl := Option.some.inj H
      go_wp2
      go_ret
      exact ⟨_, zz6, Gg, zz1⟩
def dN.f : Nat → List (S51) → Option ((List (S51)))
 | 0, _ => none
 | k + 1, l0 => if (l0.length : Int) = 0 then (some ([] : List (S51))) else (if (l0.length : Int) = 1 then (if 0 < (l0.length : Int) then (if ((aD l0 0).f1) = 0 then (some ([] : List (S51))) else (some (([(⟨(aD l0 0).f0, (aD l0 0).f1⟩ : S51)] : List (S51))))) else (none)) else (if 0 ≤ (wrap64 ((l0.length : Int) / 2)) then (if (wrap64 ((l0.length : Int) / 2)) ≤ (l0.length : Int) then ((dN.f k (l0.take ((wrap64 ((l0.length : Int) / 2)) : Int).toNat)).bind fun Gr => ((dN.f k (l0.drop ((wrap64 ((l0.length : Int) / 2)) : Int).toNat)).bind fun EM => ((aX.f k Gr EM).bind fun JV => (some JV)))) else (none)) else (none)))
def dN.T7 : Bool × List (List Nat × List Nat) := (true, [([], []), ([], []), ([1], [1]), ([2], [2]), ([0, 3], [0, 3]), ([4], [4]), ([], []), ([], []), ([7], [7]), ([8], [8]), ([6, 9], [6, 9]), ([10, 5], [10]), ([5, 11, 11], [5, 11]), ([12, 12, 0, 1, 2, 3, 4, 5, 6, 7, 8, 9, 10, 11, 12], [12])])
def dN.B7 : List Nat := [0, 0, 2, 6, 15, 31, 0, 0, 128, 384, 960, 2047, 4095, 8191]
theorem dN.tab7 : kL .any (opsOf Try.f90 7) = dN.T7 := by kernel_rfl
theorem dN.bits7 : j5 dN.T7.2 dN.B7 = true := by kernel_rfl
set_option maxHeartbeats 8000000 in
set_option maxRecDepth 100000 in
theorem dN.calls (k : Nat) : ∀ (P0_ : Nat → Prop) (A0 : Option Addr) (c0 : Nat) (l0 : List (S51)) (r : List (S51)) (w : World) (hs0 : Kd.V k51 51 w w.heap.size (fun k_ => P0_ k_) (.slice A0 l0.length c0) l0) (h : dN.f k l0 = some r),
  Calls Try.prog 90 #[.slice A0 l0.length c0] w fun e w' => ∃ v0_ : Value, e = .returned (v0_) ∧ Kd.N k51 51 w' w.heap.size (fun k_ => (P0_ k_ ∨ w.heap.size ≤ k_)) v0_ r ∧ Below w.heap.size w w' := by
 induction k using Nat.strongRecOn with
 | _ k ih =>
 intro P0_ A0 c0 l0 r w hs0 h
 cases k with
 | zero => exact absurd h (by simp [dN.f])
 | succ k =>
 simp only [dN.f] at h; have Nj := Try.underlying51; have HO0 := ah.mk (show Kd.V k51 51 w w.heap.size (fun k_ => (P0_ k_ ∨ w.heap.size ≤ k_)) (.slice A0 l0.length c0) l0 from Kd.iE hs0 (fun k_ hk => .inl hk)); have HB := ah.mk (Below.refl w.heap.size w); have H := h; clear h
 by_cases c2 : (l0.length : Int) = 0
 ·rw [if_pos c2] at H; have oH : ((l0.length : Int) == 0) = true := beq_iff_eq.mpr c2; have zN : ((l0.length : Int) != 0) = false := bne_eq_false_iff_eq.mpr c2; clear c2; obtain rfl := Option.some.inj H
  go_enter Try.func90, Try.ntmps90
  go_wp2
  go_ret
  exact ⟨_, zz6, zz79, zz1⟩
 ·rw [if_neg c2] at H; have oH : ((l0.length : Int) == 0) = false := beq_eq_false_iff_ne.mpr c2; have zN : ((l0.length : Int) != 0) = true := bne_iff_ne.mpr c2; have c2b2 : ¬ (l0 = []) := fun h_ => c2 (by rw [h_]; rfl)
  by_cases c3 : (l0.length : Int) = 1
  ·rw [if_pos c3] at H; have tY : ((l0.length : Int) == 1) = true := beq_iff_eq.mpr c3; have IY : ((l0.length : Int) != 1) = false := bne_eq_false_iff_eq.mpr c3; clear c3
   by_cases c4 : 0 < (l0.length : Int)
   ·rw [if_pos c4] at H; have lG : decide (0 < (l0.length : Int)) = true := decide_eq_true c4; have c4b1 : decide (0 < l0.length) = true := decide_eq_true (by omega); clear c4
    by_cases c5 : ((aD l0 0).f1) = 0
    ·rw [if_pos c5] at H; have qN : (((aD l0 0).f1) == 0) = true := beq_iff_eq.mpr c5; have NA : (((aD l0 0).f1) != 0) = false := bne_eq_false_iff_eq.mpr c5; clear c5; obtain rfl := Option.some.inj H; have J8 : 0 ≤ (0 : Int) := (by omega); have J2 : 0 < (l0.length : Int) := of_decide_eq_true zz9; obtain ⟨ad438, QL, QB, e438, qV, wO, BQ, Ch⟩ := fZ (Kd.dL HO0.out).2.2 0 J8 J2
     cases e438
     obtain ⟨ce438, PW, Qq, G9⟩ := Kd.qw HO0.out z51 0 J8 (by first | exact J2 | exact of_decide_eq_true zz9 | (have e_ := (Kd.dL HO0.out).1; omega)); obtain ⟨Yg, Yb, rfl, wC, xB⟩ := jw Qq; have tu := G9 0 _ rfl; rw [Nat.add_zero] at tu; replace tu := Option.some.inj (tu.symm.trans qV); injection tu with ko ng kg; rw [ko] at xB; rw [kg] at wC; have LK := ah.mk (show Kd.V k23 23 _ w.heap.size _ _ ((aD l0 0).f0) from Kd.vM wC xB); clear ko ng kg xB wC; clear G9 PW; have qi438 : (0 < l0.length) = True := eq_true (by omega); (try rw [show ((0 : Int)).toNat = 0 from rfl] at qV); (try rw [show 0 * 2 = 0 from rfl] at qV); (try rw [Addr.add_zero'] at qV); (try rw [show ((0 : Int)).toNat = 0 from rfl] at wO); (try rw [show 0 * 2 = 0 from rfl] at wO); (try rw [Addr.add_zero'] at wO); have fD := ah.mk Ch; have gN := ah.mk BQ; clear Ch BQ; replace J8 := eq_true J8; replace J2 := eq_true J2
     go_enter Try.func90, Try.ntmps90
     go_wp2
     go_ret
     exact ⟨_, zz6, zz79, zz1⟩
    ·rw [if_neg c5] at H; have qN : (((aD l0 0).f1) == 0) = false := beq_eq_false_iff_ne.mpr c5; have NA : (((aD l0 0).f1) != 0) = true := bne_iff_ne.mpr c5; obtain ⟨y440, MK⟩ : ∃ y_ : List (S51), y_ = (([(⟨(aD l0 0).f0, (aD l0 0).f1⟩ : S51)] : List (S51))) := ⟨_, rfl⟩; replace H : (some y440) = some r := by first | (rw [MK]; with_reducible exact H) | (have H2_ := (Option.bind_some _ _).symm.trans H; rw [MK]; with_reducible exact H2_) | (have H2_ := (Option.bind_some _ _).symm.trans H; with_reducible exact H2_) | with_reducible exact H | (rw [MK]; exact H) | exact H
     have Ny440 := ah.mk MK; clear MK; obtain rfl := Option.some.inj H; have J8 : 0 ≤ (0 : Int) := (by omega); have J2 : 0 < (l0.length : Int) := of_decide_eq_true zz9; obtain ⟨ad438, QL, QB, e438, qV, wO, BQ, Ch⟩ := fZ (Kd.dL HO0.out).2.2 0 J8 J2
     cases e438
     obtain ⟨ce438, PW, Qq, G9⟩ := Kd.qw HO0.out z51 0 J8 (by first | exact J2 | exact of_decide_eq_true zz9 | (have e_ := (Kd.dL HO0.out).1; omega)); obtain ⟨Yg, Yb, rfl, wC, xB⟩ := jw Qq; have tu := G9 0 _ rfl; rw [Nat.add_zero] at tu; replace tu := Option.some.inj (tu.symm.trans qV); injection tu with ko ng kg; rw [ko] at xB; rw [kg] at wC; have LK := ah.mk (show Kd.V k23 23 _ w.heap.size _ _ ((aD l0 0).f0) from Kd.vM wC xB); clear ko ng kg xB wC; clear G9 PW; have qi438 : (0 < l0.length) = True := eq_true (by omega); (try rw [show ((0 : Int)).toNat = 0 from rfl] at qV); (try rw [show 0 * 2 = 0 from rfl] at qV); (try rw [Addr.add_zero'] at qV); (try rw [show ((0 : Int)).toNat = 0 from rfl] at wO); (try rw [show 0 * 2 = 0 from rfl] at wO); (try rw [Addr.add_zero'] at wO); have fD := ah.mk Ch; have gN := ah.mk BQ; clear Ch BQ; replace J8 := eq_true J8; replace J2 := eq_true J2; have p439 : 0 ≤ (0 : Int) := (by omega); have q439 : 0 < (l0.length : Int) := of_decide_eq_true zz9; obtain ⟨ad439, A439_0, c439_0, e439, Bf, Kl, RO, R4⟩ := fZ (Kd.dL HO0.out).2.2 0 p439 q439; obtain rfl : ad438 = ad439 := (by injection e439); obtain ⟨ce439, hce439, hMe439, Wi⟩ := Kd.qw HO0.out z51 0 p439 (by first | exact q439 | exact of_decide_eq_true zz9 | (have e_ := (Kd.dL HO0.out).1; omega)); obtain ⟨ua439_0, uc439_0, rfl, JK, K9⟩ := jw hMe439; have Fh := Wi 0 _ rfl; rw [Nat.add_zero] at Fh; replace Fh := Option.some.inj (Fh.symm.trans Bf); injection Fh with ko ng kg; rw [ko] at K9; rw [kg] at JK; have F8 := ah.mk (show Kd.V k23 23 _ w.heap.size _ _ ((aD l0 0).f0) from Kd.vM JK K9); clear ko ng kg K9 JK; clear Wi hce439; have qi439 : (0 < l0.length) = True := eq_true (by omega); (try rw [show ((0 : Int)).toNat = 0 from rfl] at Bf); (try rw [show 0 * 2 = 0 from rfl] at Bf); (try rw [Addr.add_zero'] at Bf); (try rw [show ((0 : Int)).toNat = 0 from rfl] at Kl); (try rw [show 0 * 2 = 0 from rfl] at Kl); (try rw [Addr.add_zero'] at Kl); have kK := ah.mk R4; have qB := ah.mk RO; clear R4 RO; replace p439 := eq_true p439; replace q439 := eq_true q439; have ea_ := Option.some.inj (qV.symm.trans Bf); injection ea_ with ea_ en_ ec_; subst ea_; subst ec_; clear en_
     go_enter Try.func90, Try.ntmps90
     go_wp2_with (first | ((with_reducible refine bE (N := 17) rfl ?_); refine Kd.N_lit k51 _ 51 ?hg (N' := 17) ?hd (xs := ([(⟨(aD l0 0).f0, (aD l0 0).f1⟩ : S51)] : List (S51))) (inner := [.slice QL ((aD l0 0).f0).length QB, .int .i64 ((aD l0 0).f1)]) (ok := (fun k_ => (P0_ k_ ∨ w.heap.size ≤ k_))) (okp := (fun k_ => (P0_ k_ ∨ w.heap.size ≤ k_))) ?hr ?hp (fun _ hk => hk) ((show ∀ k_, w.heap.size ≤ k_ → (fun k_ => (P0_ k_ ∨ w.heap.size ≤ k_)) k_ from fun k_ hk => (.inr (Nat.le_trans (bS zz1) hk))) _ (Nat.le_refl _)) (Below.refl _ _) (Nat.le_refl _) (by simp) ?_; (case hd => rfl); (case hg => rfl); (case hr => first | (go_simp; done) | (go_simp; rfl)); (case hp => exact (iq.c2 (show Kd.FK k51 _ _ (⟨(aD l0 0).f0, (aD l0 0).f1⟩ : S51) [.slice QL ((aD l0 0).f0).length QB, .int .i64 ((aD l0 0).f1)] from (Bb _ _ (⟨(aD l0 0).f0, (aD l0 0).f1⟩ : S51) (Kd.dL (Kd.iE (ok' := (fun k_ => (P0_ k_ ∨ w.heap.size ≤ k_))) (F8.out) (fun k_ hk => hk))).2.1 (Kd.V_F (Kd.iE (ok' := (fun k_ => (P0_ k_ ∨ w.heap.size ≤ k_))) (F8.out) (fun k_ hk => hk))))) (iq.none _ _))); intro v441 w6 ho7 hb hg_ mh; clear hg_ mh; (first | rw [← Ny440.out] at ho7 | (simp only [Int.reduceToNat] at ho7; rw [← Ny440.out] at ho7)); replace HO0 := ah.mk (Kd.fQ Gh (Kd.mE ho7) hb); replace LK := ah.mk (Kd.fQ (by (with_reducible repeat (first | apply Kd.iW | apply Kd.iR | apply Kd.iQ)); exact LK.out) (Kd.mE ho7) hb); replace F8 := ah.mk (Kd.fQ (by (with_reducible repeat (first | apply Kd.iW | apply Kd.iR | apply Kd.iQ)); exact F8.out) (Kd.mE ho7) hb); have iT := ah.mk (Kd.vG ho7 (bS zz1)); replace fD := ah.mk (Kd.eZ Jy hb); replace kK := ah.mk (Kd.eZ zz89 hb); replace HB := ah.mk (av zz1 hb); clear hb ho7))
     go_ret
     exact ⟨_, zz6, by (with_reducible repeat (first | apply Kd.rP | apply Kd.rO | apply Kd.pz)); exact iT.out, zz1⟩
   ·rw [if_neg c4] at H; exact absurd H (by simp)
  ·rw [if_neg c3] at H; have tY : ((l0.length : Int) == 1) = false := beq_eq_false_iff_ne.mpr c3; have IY : ((l0.length : Int) != 1) = true := bne_iff_ne.mpr c3; obtain ⟨ji8, hji8⟩ : ∃ j_ : Int, (wrap64 ((l0.length : Int) / 2)) = j_ := ⟨_, rfl⟩; replace H : (if 0 ≤ (ji8) then (if (ji8) ≤ (l0.length : Int) then ((dN.f k (l0.take ((ji8) : Int).toNat)).bind fun Gr => ((dN.f k (l0.drop ((ji8) : Int).toNat)).bind fun EM => ((aX.f k Gr EM).bind fun JV => (some JV)))) else (none)) else (none)) = some r := by first | (rw [hji8] at H; exact H) | (simp only [hji8] at H ⊢; exact H)
   have hji8w : (IntKind.i64.wrap ((l0.length : Int) / 2)) = ji8 := (dS _).trans hji8
   by_cases c9 : 0 ≤ (ji8)
   ·rw [if_pos c9] at H; have xH := eq_true c9; have c9b1 : decide (0 ≤ (ji8)) = true := decide_eq_true c9; clear c9
    by_cases c10 : (ji8) ≤ (l0.length : Int)
    ·rw [if_pos c10] at H; have xM := eq_true c10; have c10b1 : decide ((ji8) ≤ (l0.length : Int)) = true := decide_eq_true c10; clear c10; obtain ⟨Oa, MJ⟩ : ∃ y_ : List (S51), y_ = (l0.take ((ji8) : Int).toNat) := ⟨_, rfl⟩; replace H : ((dN.f k Oa).bind fun Gr => ((dN.f k (l0.drop ((ji8) : Int).toNat)).bind fun EM => ((aX.f k Gr EM).bind fun JV => (some JV)))) = some r := by first | (rw [MJ]; with_reducible exact H) | (have H2_ := (Option.bind_some _ _).symm.trans H; rw [MJ]; with_reducible exact H2_) | (have H2_ := (Option.bind_some _ _).symm.trans H; with_reducible exact H2_) | with_reducible exact H | (rw [MJ]; exact H) | exact H
     have Ny443 := ah.mk MJ; clear MJ; replace H := Option.bind_eq_some_iff.mp H; obtain ⟨Gr, yP, H⟩ := H; have A11 := ah.mk yP; clear yP; have H9 := eq_true (of_decide_eq_true zz9 : 0 ≤ (ji8)); have Ji := eq_true (of_decide_eq_true zz9 : (ji8) ≤ (l0.length : Int)); obtain ⟨IJ, MI⟩ : ∃ y_ : List (S51), y_ = (l0.drop ((ji8) : Int).toNat) := ⟨_, rfl⟩; replace H : ((dN.f k IJ).bind fun EM => ((aX.f k Gr EM).bind fun JV => (some JV))) = some r := by first | (rw [MI]; with_reducible exact H) | (have H2_ := (Option.bind_some _ _).symm.trans H; rw [MI]; with_reducible exact H2_) | (have H2_ := (Option.bind_some _ _).symm.trans H; with_reducible exact H2_) | with_reducible exact H | (rw [MI]; exact H) | exact H
     have Ny451 := ah.mk MI; clear MI; replace H := Option.bind_eq_some_iff.mp H; obtain ⟨EM, A140, H⟩ := H; have A14 := ah.mk A140; clear A140; replace H := Option.bind_eq_some_iff.mp H; obtain ⟨JV, NZ, H⟩ := H; have A15 := ah.mk NZ; clear NZ; obtain rfl := Option.some.inj H
     go_enter Try.func90, Try.ntmps90
     try go_wp2
     replace HO0 := ah.mk (Kd.iQ HO0.out); replace HB := ah.mk (bL HB.out); have q17 : ((ji8) : Int) ≤ ((l0.length : Int) : Int) := of_decide_eq_true zz9; obtain ⟨i017, hi017, _, hsz17, _⟩ := info_parts DV; have RG : l0.length ≤ c0 := (Kd.dL HO0.out).2.1; have hC17 : Kd.F k51 _ _ A0 l0.length l0 := (Kd.Vk (base := w.heap.size) HO0.out).2.2; have hcut17 := Wv (P := Try.prog) 38 51 .i64 Try.underlying38 hi017 A0 l0.length c0 (ji8) (of_decide_eq_true zz9) q17 RG; have hr17 := Kd.F_take (m := ((ji8) : Int).toNat) hC17 (by omega); have hy17 : Oa.length = ((ji8) : Int).toNat := (by rw [Ny443.out, List.length_take]; omega); rw [← Ny443.out] at hr17; rw [← hy17] at hcut17; have kT := ah.mk (show Kd.V k51 51 _ w.heap.size _ (.slice A0 Oa.length c0) Oa from Kd.vM (by omega) hr17); have HC103 := ah.mk (show Oa.length ≤ c0 from by omega); clear hr17 hC17 RG hi017 hsz17; have KY17 := ah.mk hy17; clear hy17; replace q17 := eq_true q17; have q18 : ((ji8) : Int) ≤ ((l0.length : Int) : Int) := of_decide_eq_true zz9; obtain ⟨i018, hi018, _, hsz18, _⟩ := info_parts DV; have Fw : l0.length ≤ c0 := (Kd.dL HO0.out).2.1; have hC18 : Kd.F k51 _ _ A0 l0.length l0 := (Kd.Vk (base := w.heap.size) HO0.out).2.2; have q018 : (0 : Int) ≤ ((ji8) : Int) := of_decide_eq_true zz9; have hcut18 := Ww (P := Try.prog) 38 51 .i64 Try.underlying38 hi018 2 hsz18 A0 l0.length c0 (ji8) q018 q18; have hr18 := Kd.F_cut (m := ((ji8) : Int).toNat) (c := c0) hC18 (by omega) Fw; obtain ⟨A18, hA18⟩ : ∃ A1, A1 = (if c0 = ((ji8) : Int).toNat then A0 else (A0 : Option Addr).map (·.add (((ji8) : Int).toNat * 2))) := ⟨_, rfl⟩; obtain ⟨c18, hc18⟩ : ∃ c1, c1 = c0 - ((ji8) : Int).toNat := ⟨_, rfl⟩; have hy18 : IJ.length = l0.length - ((ji8) : Int).toNat := (by rw [Ny451.out, List.length_drop] <;> omega); rw [show (l0).drop ((ji8) : Int).toNat = IJ from Ny451.out.symm] at hr18; replace hr18 : Kd.F k51 _ _ A18 IJ.length IJ := (by rw [hA18]; exact hr18); rw [← hy18, ← hA18, ← hc18] at hcut18; have kM := ah.mk (show Kd.V k51 51 _ w.heap.size _ (.slice A18 IJ.length c18) IJ from Kd.vM (by rw [hy18, hc18]; exact Nat.sub_le_sub_right Fw _) hr18); have HC104 := ah.mk (show IJ.length ≤ c18 from by rw [hy18, hc18]; exact Nat.sub_le_sub_right Fw _); clear hr18 hC18 Fw hi018 hsz18 hc18; have KY18 := ah.mk hy18; have KA18 := ah.mk hA18; clear hy18 hA18; replace q18 := eq_true q18; refine jB (n := 14) (S := fun w' => True) (ds := []) (.replicate 14 false) (by kernel_rfl) rfl rfl trivial (fun hHeld => ?_); refine iG dN.tab7 dN.bits7 (fun HT_ HW_ => ?_); generalize w.drew = w16 at HO0 HB kT kM hHeld ⊢; refine pV 0 18 (bA 14 1) HT_ ?_; refine pV 1 19 (bA 14 3) HT_ ?_; refine pV 2 20 (bA 14 7) HT_ ?_; refine pV 3 21 (bA 14 15) HT_ ?_; refine pV 4 22 (bA 14 31) HT_ ?_; refine pV 6 24 (bA 14 95) HT_ ?_; refine pV 7 25 (bA 14 223) HT_ ?_; refine pV 8 26 (bA 14 479) HT_ ?_; refine pV 9 27 (bA 14 991) HT_ ?_; refine pV 10 28 (bA 14 2015) HT_ ?_; refine oN 5 23 (bA 14 2047) HT_ (fun K hK => ?_); refine iy Try.func90 (by kernel_rfl) rfl #[.slice A0 Oa.length c0] (by rfl) rfl rfl zz8 ?_; (with_reducible refine (ih k (by omega) (fun k_ => (P0_ k_ ∨ w.heap.size ≤ k_)) _ _ Oa Gr _ ?bO A11.out).mono ?_); (case bO => exact kT.out); rintro e w19 ⟨v449, rfl, ho0, hb⟩; refine ⟨_, rfl, ?_⟩; replace HO0 := ah.mk (Kd.fQ Gh (Kd.mE ho0) hb); replace kT := ah.mk (Kd.fQ zz92 (Kd.mE ho0) hb); replace kM := ah.mk (Kd.fQ L9 (Kd.mE ho0) hb); have qz := ah.mk (Kd.vG (Kd.uK (ok' := fun k_ => (P0_ k_ ∨ w.heap.size ≤ k_)) ho0 (fun k_ hk_ => Or.elim hk_ (fun hs_ => hs_) (fun hn_ => (.inr (Nat.le_trans (bS zz1) hn_))))) (bS zz1)); replace HB := ah.mk (av zz1 hb); (try clear hb); (try clear hb2); (try clear hk); (try clear hi); (try clear ho0); refine hK.out _ _ trivial (fun hHeld => ?_); clear hK K; refine iI (a' := ?_) ?_ ?_; rotate_left
     ·show Act.put _ (some 23) _ = _
      simp only [Act.put, List.setIfInBounds_toArray, List.set_cons_zero, List.set_cons_succ, dS, eP]
      rfl
     refine oN 11 29 (bA 14 4095) HT_ (fun K hK => ?_); refine iy Try.func90 (by kernel_rfl) rfl #[.slice A18 IJ.length c18] (by rfl) rfl rfl zz8 ?_; (with_reducible refine (ih k (by omega) (fun k_ => ((P0_ k_ ∨ w.heap.size ≤ k_) ∧ some k_ ≠ (v449 : Value).ownBlock)) _ _ IJ EM _ ?bO A14.out).mono ?_); (case bO => exact kM.out); rintro e w20 ⟨v457, rfl, ho0, hb⟩; refine ⟨_, rfl, ?_⟩; replace HO0 := ah.mk (Kd.fQ Gh (Kd.mE ho0) hb); replace kT := ah.mk (Kd.fQ zz92 (Kd.mE ho0) hb); replace kM := ah.mk (Kd.fQ L9 (Kd.mE ho0) hb); have qF := ah.mk (Kd.vG (Kd.uK (ok' := fun k_ => (P0_ k_ ∨ w.heap.size ≤ k_) ∧ some k_ ≠ (v449 : Value).ownBlock) ho0 (fun k_ hk_ => ⟨Or.elim hk_ (fun hs_ => hs_.1) (fun hn_ => (.inr (Nat.le_trans (bS zz1) hn_))), Or.elim hk_ (fun hs_ => hs_.2) (fun hn_ => (Kd.fresh' (Kd.N_lt zz91) k_ hn_))⟩)) (bS zz1)); replace qz := ah.mk (Kd.uL zz91 (Kd.mE ho0) hb); replace HB := ah.mk (av zz1 hb); (try clear hb); (try clear hb2); (try clear hk); (try clear hi); (try clear ho0); obtain ⟨Ao21, co21, eo21⟩ := Kd.xK qz.out; (first | subst eo21 | (injection eo21 with f1_ f2_ f3_; have f4_ := f1_.symm; have f5_ := f3_.symm; clear f1_ f2_ f3_; subst f4_; subst f5_)); obtain ⟨Ao22, co22, eo22⟩ := Kd.xK qF.out; (first | subst eo22 | (injection eo22 with f1_ f2_ f3_; have f4_ := f1_.symm; have f5_ := f3_.symm; clear f1_ f2_ f3_; subst f4_; subst f5_)); refine hK.out _ _ trivial (fun hHeld => ?_); clear hK K; refine iI (a' := ?_) ?_ ?_; rotate_left
     ·show Act.put _ (some 29) _ = _
      simp only [Act.put, List.setIfInBounds_toArray, List.set_cons_zero, List.set_cons_succ, dS, eP]
      rfl
     refine oN 12 30 (bA 14 8191) HT_ (fun K hK => ?_); refine iy Try.func61 (by kernel_rfl) rfl #[.slice Ao21 Gr.length co21, .slice Ao22 EM.length co22] (by rfl) rfl rfl zz8 ?_; (with_reducible refine (aX.calls k (fun k_ => ((P0_ k_ ∨ w.heap.size ≤ k_) ∧ some k_ ≠ (.slice Ao22 EM.length co22 : Value).ownBlock)) _ _ Gr (fun k_ => ((P0_ k_ ∨ w.heap.size ≤ k_) ∧ some k_ ≠ (.slice Ao21 Gr.length co21 : Value).ownBlock)) _ _ EM JV _ ?bO ?bR A15.out).mono ?_); (case bO => exact Kd.N_V (qz.out)); (case bR => exact Kd.N_V (qF.out)); rintro e w23 ⟨v460, rfl, ho0, hb⟩; refine ⟨_, rfl, ?_⟩; replace HO0 := ah.mk (Kd.fQ Gh (Kd.mE ho0) hb); replace kT := ah.mk (Kd.fQ zz92 (Kd.mE ho0) hb); replace kM := ah.mk (Kd.fQ L9 (Kd.mE ho0) hb); replace qz := ah.mk (Kd.uL zz91 (Kd.mE ho0) hb); replace qF := ah.mk (Kd.uL (by (with_reducible repeat (first | apply Kd.rP | apply Kd.rO | apply Kd.pz)); exact qF.out) (Kd.mE ho0) hb); have yN := ah.mk (Kd.vG (Kd.uK (ok' := fun k_ => (P0_ k_ ∨ w.heap.size ≤ k_)) ho0 (fun k_ hk_ => Or.elim hk_ (fun hs_ => Or.elim hs_ (fun hs_ => hs_.1) (fun hs_ => hs_.1)) (fun hn_ => (.inr (Nat.le_trans (bS zz1) hn_))))) (bS zz1)); replace HB := ah.mk (av zz1 hb); (try clear hb); (try clear hb2); (try clear hk); (try clear hi); (try clear ho0); refine hK.out _ _ trivial (fun hHeld => ?_); clear hK K; refine iI (a' := ?_) ?_ ?_; rotate_left
     ·show Act.put _ (some 30) _ = _
      simp only [Act.put, List.setIfInBounds_toArray, List.set_cons_zero, List.set_cons_succ, dS, eP]
      rfl
     refine pV 13 2 (bA 14 16383) HT_ ?_; refine kX (j6 HT_.out (by kernel_rfl)) ?_
     try go_wp2
     go_ret
     exact ⟨_, by first | rfl | (simp [gK, gJ] <;> rfl) | (simp only [← hji8]; first | rfl | (simp [gK, gJ] <;> rfl)) | (simp [*, gK, gJ] <;> rfl), by (with_reducible repeat (first | apply Kd.rP | apply Kd.rO | apply Kd.pz)); exact yN.out, zz1⟩
    ·rw [if_neg c10] at H; exact absurd H (by simp)
   ·rw [if_neg c9] at H; exact absurd H (by simp)
end Go.Proofs.Ythicocmnefaioaa.QS

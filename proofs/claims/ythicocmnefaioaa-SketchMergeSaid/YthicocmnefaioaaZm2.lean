import Derived.Test.YthicocmnefaioaaZm1
namespace Go.Proofs.Ythicocmnefaioaa.QS
open Go.RowKit Go.Proofs.YthicocmnefaioaaW.dx Go.Proofs.YthicocmnefaioaaW.jF Go.Proofs.YthicocmnefaioaaW.lI
open Go.Proofs.YthicocmnefaioaaW.Sq
attribute [local go_sem] pY pW sD sw og nZ pX pR
set_option linter.unusedVariables false
set_option linter.unusedSimpArgs false
attribute [local go_sem high] jX
mutual
def bP.j0 : Nat → List Int → Int → Bool → ByteArray → ByteArray → Int → Int → Int → Int → Int → Int → ByteArray → Option (List Int)
 | 0, _, _, _, _, _, _, _, _, _, _, _, _ => none
 | k + 1, x1, x3, x17, Ay, Aw, Av, wm, yX, Au, Rf, Rb, Ra => if x17 = true then (some x1) else (if wm = 2 then ((dD.f k Rf Rb Ra 0).bind fun t210 => (if x1.length < 17592186044416 then ((jc.f (x1 ++ [wrap64 (IntKind.u64.wrap (Int.tdiv t210 4))]) yX).bind fun t214 => (some t214)) else (none))) else ((bB.f k Ay Aw Av wm yX Au Rf Rb Ra).bind fun lF => (bP.l0 k x1 x3 lF (lF.length : Int) 0 Ay Aw Av wm yX Au)))
def bP.l0 : Nat → List Int → Int → List Int → Int → Int → ByteArray → ByteArray → Int → Int → Int → Int → Option (List Int)
 | 0, _, _, _, _, _, _, _, _, _, _, _ => none
 | k + 1, x1, x3, x34, x35, x36, Ay, Aw, Av, wm, yX, Au => if x36 < x35 then (if 0 ≤ x36 then (if x36 < (x34.length : Int) then (if wm = 1 then (if 0 ≤ (rd x34 x36) then (if (rd x34 x36) < (x1.length : Int) then (bP.l0 k (x1.set ((rd x34 x36) : Int).toNat 1) x3 x34 x35 (wrap64 (x36 + 1)) Ay Aw Av wm yX Au) else (none)) else (none)) else (if 0 ≤ (rd x34 x36) then (if (rd x34 x36) < (x1.length : Int) then (bP.l0 k (x1.set ((rd x34 x36) : Int).toNat (wrap64 ((rd x1 (rd x34 x36)) + x3))) x3 x34 x35 (wrap64 (x36 + 1)) Ay Aw Av wm yX Au) else (none)) else (none))) else (none)) else (none)) else (some x1)
end
def bP.f (k : Nat) (aU : ByteArray) (aT : ByteArray) (aV : Int) (bH : Int) (bG : Int) (bJ : Int) (l1 : List Int) (fJ : Int) (gD : Int) (gB : ByteArray) (a3 : Int) : Option (List Int) := if fJ = 0 then (bP.j0 k l1 a3 true aU aT aV bH bG bJ fJ gD gB) else (bP.j0 k l1 a3 (a3 == 0) aU aT aV bH bG bJ fJ gD gB)
theorem bP.gU : ∀ k, (∀ y0 y1 y2 y3 y4 y5 y6 y7 y8 y9 y10 y11, LeO (bP.j0 k y0 y1 y2 y3 y4 y5 y6 y7 y8 y9 y10 y11) (bP.j0 (k + 1) y0 y1 y2 y3 y4 y5 y6 y7 y8 y9 y10 y11)) ∧ (∀ y0 y1 y2 y3 y4 y5 y6 y7 y8 y9 y10, LeO (bP.l0 k y0 y1 y2 y3 y4 y5 y6 y7 y8 y9 y10) (bP.l0 (k + 1) y0 y1 y2 y3 y4 y5 y6 y7 y8 y9 y10))
 | 0 => ⟨fun _ _ _ _ _ _ _ _ _ _ _ _ r h => by simp [bP.j0] at h, fun _ _ _ _ _ _ _ _ _ _ _ r h => by simp [bP.l0] at h⟩
 | k + 1 => by
  obtain ⟨ih0, ih1⟩ := bP.gU k; refine ⟨?_, ?_⟩
  ·intro y0 y1 y2 y3 y4 y5 y6 y7 y8 y9 y10 y11; unfold bP.j0
   repeat' first
   | (with_reducible exact ih0 _ _ _ _ _ _ _ _ _ _ _ _)
   | (with_reducible exact ih1 _ _ _ _ _ _ _ _ _ _ _)
   | (with_reducible exact dD.mono _ _ _ _ _)
   | (with_reducible exact bB.mono _ _ _ _ _ _ _ _ _ _)
   | (with_reducible exact LeO.refl _)
   | (with_reducible exact LeO.none _)
   | (with_reducible refine LeO.ite ?_ ?_)
   | (with_reducible refine LeO.bind ?_ (fun _ => ?_))
   | exact ih0 _ _ _ _ _ _ _ _ _ _ _ _
   | exact ih1 _ _ _ _ _ _ _ _ _ _ _
   | exact dD.mono _ _ _ _ _
   | exact bB.mono _ _ _ _ _ _ _ _ _ _
   | exact LeO.none _
   | refine LeO.ite ?_ ?_
   | refine LeO.bind ?_ (fun _ => ?_)
  ·intro y0 y1 y2 y3 y4 y5 y6 y7 y8 y9 y10; unfold bP.l0
   repeat' first
   | (with_reducible exact ih0 _ _ _ _ _ _ _ _ _ _ _ _)
   | (with_reducible exact ih1 _ _ _ _ _ _ _ _ _ _ _)
   | (with_reducible exact dD.mono _ _ _ _ _)
   | (with_reducible exact bB.mono _ _ _ _ _ _ _ _ _ _)
   | (with_reducible exact LeO.refl _)
   | (with_reducible exact LeO.none _)
   | (with_reducible refine LeO.ite ?_ ?_)
   | (with_reducible refine LeO.bind ?_ (fun _ => ?_))
   | exact ih0 _ _ _ _ _ _ _ _ _ _ _ _
   | exact ih1 _ _ _ _ _ _ _ _ _ _ _
   | exact dD.mono _ _ _ _ _
   | exact bB.mono _ _ _ _ _ _ _ _ _ _
   | exact LeO.none _
   | refine LeO.ite ?_ ?_
   | refine LeO.bind ?_ (fun _ => ?_)
theorem bP.mono : ∀ a0 a1 a2 a3 a4 a5 a6 a7 a8 a9 a10 k, LeO (bP.f k a0 a1 a2 a3 a4 a5 a6 a7 a8 a9 a10) (bP.f (k + 1) a0 a1 a2 a3 a4 a5 a6 a7 a8 a9 a10) := by
 intro a0 a1 a2 a3 a4 a5 a6 a7 a8 a9 a10 k; obtain ⟨ih0, ih1⟩ := bP.gU k; unfold bP.f
 repeat' first
   | (with_reducible exact ih0 _ _ _ _ _ _ _ _ _ _ _ _)
   | (with_reducible exact ih1 _ _ _ _ _ _ _ _ _ _ _)
   | (with_reducible exact dD.mono _ _ _ _ _)
   | (with_reducible exact bB.mono _ _ _ _ _ _ _ _ _ _)
   | (with_reducible exact LeO.refl _)
   | (with_reducible exact LeO.none _)
   | (with_reducible refine LeO.ite ?_ ?_)
   | (with_reducible refine LeO.bind ?_ (fun _ => ?_))
   | exact ih0 _ _ _ _ _ _ _ _ _ _ _ _
   | exact ih1 _ _ _ _ _ _ _ _ _ _ _
   | exact dD.mono _ _ _ _ _
   | exact bB.mono _ _ _ _ _ _ _ _ _ _
   | exact LeO.none _
   | refine LeO.ite ?_ ?_
   | refine LeO.bind ?_ (fun _ => ?_)
def bP.T4 : Bool × List (List Nat × List Nat) := (true, [([], []), ([], []), ([1], [1]), ([2], [2]), ([3], [3]), ([4], [4]), ([0, 5, 2], [0, 5]), ([], []), ([7], [7]), ([6, 8, 6], [6, 8]), ([9, 9, 0, 1, 2, 3, 4, 5, 6, 7, 8, 9], [9])])
def bP.B4 : List Nat := [0, 0, 2, 6, 14, 30, 63, 0, 128, 511, 1023]
theorem bP.EL : kL .any (opsOf Try.f64 4) = bP.T4 := by kernel_rfl
theorem bP.xO : j5 bP.T4.2 bP.B4 = true := by kernel_rfl
set_option maxHeartbeats 8000000 in
set_option maxRecDepth 100000 in
theorem bP.calls (k : Nat) (aU : ByteArray) (aT : ByteArray) (aV : Int) (bH : Int) (bG : Int) (bJ : Int) (P1_ : Nat → Prop) (nV : Value) (l1 : List Int) (fJ : Int) (gD : Int) (gB : ByteArray) (a3 : Int) (r : List Int) (w0 w : World) (hB : Below w0.heap.size w0 w) (ho1 : Kd.R (Kd.int .i64) 2 w w0.heap.size P1_ nV l1) (h : bP.f k aU aT aV bH bG bJ l1 fJ gD gB a3 = some r) :
  Calls Try.prog 64 #[.agg #[.string aU, .string aT, .int .i64 aV, .int .i64 bH, .int .i64 bG, .int .i64 bJ], nV, .agg #[.int .i64 fJ, .int .i64 gD, .string gB], .int .i64 a3] w fun e w' => ∃ v0_ : Value, e = .returned (v0_) ∧ Kd.R (Kd.int .i64) 2 w' w0.heap.size (fun k_ => (P1_ k_ ∨ w.heap.size ≤ k_)) v0_ r ∧ Below w0.heap.size w0 w' ∧ Kept w w' (fun k_ => P1_ k_) := by
 have ES := Try.underlying30; have vI := Try.underlying23; have HO1 := ah.mk (show Kd.R (Kd.int .i64) 2 w w0.heap.size (fun k_ => (P1_ k_ ∨ w.heap.size ≤ k_)) nV l1 from Kd.eO ho1 (fun k_ hk => (.inl hk))); have HK := ah.mk (Kept.refl w (fun k_ => P1_ k_)); have HW0 := ah.mk hB.size; have HB := ah.mk hB; clear hB; have H := h; clear h
 dsimp only [bP.f] at H
 have HC5 := ah.mk H; clear H
 go_enter Try.func64, Try.ntmps64
 go_upto_region 1 with (first | ((with_reducible refine bE (N := 4) rfl ?_); refine bC ?hg (N := 4) ?hd (cs := #[.string aU, .string aT, .int .i64 aV, .int .i64 bH, .int .i64 bG, .int .i64 bJ]) (t := 30) ?hr ?_; (case hd => rfl); (case hg => rfl); (case hr => first | (go_simp; done) | (go_simp; rfl)); intro au hg w6 bK hb; replace HO1 := ah.mk (Kd.gP zz44 hb); have ak := ah.mk (bK); have fO := ah.mk ((by rw [hg]; exact (by first | exact HK.out.1 | exact (show Kept w _ (fun k_ => P1_ k_) from by repeat (first | (with_reducible first | exact HK.out | apply Kept.alloc | apply Kept.drewN | apply Kept.drew) | exact HK.out)).1) : w.heap.size ≤ au)); replace HK := ah.mk (Kept.below (S := (fun k_ => P1_ k_)) zz43 hb); have fF := ah.mk ((zz0 : w0.heap.size ≤ au)); replace HB := ah.mk (av zz1 hb); clear hb bK hg) | ((with_reducible refine bE (N := 6) rfl ?_); refine bC ?hg (N := 6) ?hd (cs := #[.int .i64 fJ, .int .i64 gD, .string gB]) (t := 23) ?hr ?_; (case hd => rfl); (case hg => rfl); (case hr => first | (go_simp; done) | (go_simp; rfl)); intro aA hg w7 bK hb; replace HO1 := ah.mk (Kd.gP zz44 hb); have ay := ah.mk (bK); have jD := ah.mk ((by rw [hg]; exact (by first | exact HK.out.1 | exact (show Kept w _ (fun k_ => P1_ k_) from by repeat (first | (with_reducible first | exact HK.out | apply Kept.alloc | apply Kept.drewN | apply Kept.drew | refine Kept.setCell ?_ (.inr fO.out) _) | exact HK.out)).1) : w.heap.size ≤ aA)); replace HK := ah.mk (Kept.below (S := (fun k_ => P1_ k_)) (by repeat (first | (with_reducible first | exact HK.out | apply Kept.alloc | apply Kept.drewN | apply Kept.drew | refine Kept.setCell ?_ (.inr fO.out) _) | exact HK.out)) hb); have jr := ah.mk ((jZ : w0.heap.size ≤ aA)); replace HB := ah.mk (av zz5 hb); have aQ := ah.mk ((DJ : au ≠ aA)); have aY := ah.mk ((DI : aA ≠ au)); replace ak := ah.mk (aG (g := au) (o := .cells #[.string aU, .string aT, .int .i64 aV, .int .i64 bH, .int .i64 bG, .int .i64 bJ] 30 (0, 0)) zz4 hb); clear hb bK hg))
 (try simp only [Act.put, List.setIfInBounds_toArray, List.set_cons_zero, List.set_cons_succ])
 go_cut [17] (fun v17 wc => ∃ (kq : Nat) (Rm : Bool), v17 = .bool Rm ∧ ah (bP.j0 kq l1 a3 Rm aU aT aV bH bG bJ fJ gD gB = some r) ∧ ah (kq ≤ k) ∧ ah (Kd.R (Kd.int .i64) 2 wc w0.heap.size (fun k_ => (P1_ k_ ∨ w.heap.size ≤ k_)) nV l1) ∧ ah (wc.heap[au]? = some (.cells #[.string aU, .string aT, .int .i64 aV, .int .i64 bH, .int .i64 bG, .int .i64 bJ] 30 (0, 0))) ∧ ah (wc.heap[aA]? = some (.cells #[.int .i64 fJ, .int .i64 gD, .string gB] 23 (0, 0))) ∧ ah (Kept w wc (fun k_ => P1_ k_)) ∧ ah (Below w0.heap.size w0 wc))
 case first =>
  have H := HC5.out; clear HC5
  by_cases c8 : fJ = 0
  ·rw [if_pos c8] at H; have pI : (fJ == 0) = true := beq_iff_eq.mpr c8; have EU : (fJ != 0) = false := bne_eq_false_iff_eq.mpr c8; clear c8; (first | rw [pI] | (simp only [dS, eP]; rw [pI]) | skip); have H' := ah.mk H; clear H; have hnb9 := aY.out; have hnc9 := aQ.out; have oZ : w7.cell? ⟨aA, 0, none⟩ = some (.int .i64 fJ) := cK ay 0; have oW : w7.cell? ⟨aA, 1, none⟩ = some (.int .i64 gD) := cK ay 1; have ql : w7.cell? ⟨aA, 2, none⟩ = some (.string gB) := cK ay 2; have oP := aj ay.out 0; have oO := aj ay.out 1; have qg := aj ay.out 2
   go_wp2
   go_meet
   case rel => exact ⟨_, (true), zz2, H', ⟨zz3⟩, ⟨zz44⟩, ⟨zz4⟩, ⟨iJ⟩, ⟨Am⟩, ⟨fP⟩⟩
  ·rw [if_neg c8] at H; have pI : (fJ == 0) = false := beq_eq_false_iff_ne.mpr c8; have EU : (fJ != 0) = true := bne_iff_ne.mpr c8; (first | rw [pI] | (simp only [dS, eP]; rw [pI]) | skip); have H' := ah.mk H; clear H; have hnb11 := aY.out; have hnc11 := aQ.out; have ow : w7.cell? ⟨aA, 0, none⟩ = some (.int .i64 fJ) := cK ay 0; have ou : w7.cell? ⟨aA, 1, none⟩ = some (.int .i64 gD) := cK ay 1; have oq : w7.cell? ⟨aA, 2, none⟩ = some (.string gB) := cK ay 2; have oo := aj ay.out 0; have om := aj ay.out 1; have oh := aj ay.out 2
   go_wp2
   go_meet
   case rel => exact ⟨_, ((a3 == 0)), zz2, H', ⟨zz3⟩, ⟨zz44⟩, ⟨zz4⟩, ⟨iJ⟩, ⟨Am⟩, ⟨fP⟩⟩
 case rest =>
  clear HC5; (try clear c1); (try clear p2); (try clear c6); (try clear c8); (try clear pI); (try clear EU); (try clear c9); (try clear c11); (try clear oZ); (try clear oW); (try clear ql); (try clear ow); (try clear ou); (try clear oq); (try clear oP); (try clear oO); (try clear qg); (try clear oo); (try clear om); (try clear oh); obtain ⟨kq, Rm, rfl, HA, HJ4, je, ak, ay, HK, HB⟩ := hcut
  cases kq with
  | zero => exact absurd HA.out (by simp [bP.j0])
  | succ kj4 =>
   have H := HA.out; clear HA; simp only [bP.j0] at H
   by_cases c13 : Rm = true
   ·subst c13; rw [if_pos rfl] at H; obtain rfl := Option.some.inj H
    go_wp2
    go_ret
    exact ⟨_, zz6, Ma, fP, Am⟩
   ·replace c13 := Bool.eq_false_iff.mpr c13; subst c13; rw [if_neg (show ¬ (false = true) by decide)] at H
    by_cases c14 : bH = 2
    ·rw [if_pos c14] at H; have zU : (bH == 2) = true := beq_iff_eq.mpr c14; have c14b1 : (bH != 2) = false := bne_eq_false_iff_eq.mpr c14; clear c14; replace H := Option.bind_eq_some_iff.mp H; obtain ⟨t210, NZ, H⟩ := H; have A15 := ah.mk NZ; clear NZ
     by_cases c16 : l1.length < 17592186044416
     ·rw [if_pos c16] at H; have LMc16 := ah.mk c16; clear c16; obtain ⟨y211, M5⟩ : ∃ y_ : List Int, y_ = (l1 ++ [wrap64 (IntKind.u64.wrap (Int.tdiv t210 4))]) := ⟨_, rfl⟩; replace H : ((jc.f y211 bG).bind fun t214 => (some t214)) = some r := by first | (rw [M5]; with_reducible exact H) | (have H2_ := (Option.bind_some _ _).symm.trans H; rw [M5]; with_reducible exact H2_) | (have H2_ := (Option.bind_some _ _).symm.trans H; with_reducible exact H2_) | with_reducible exact H | (rw [M5]; exact H) | exact H
      have Ny211 := ah.mk M5; clear M5; replace H := Option.bind_eq_some_iff.mp H; obtain ⟨t214, Iz, H⟩ := H; have A17 := ah.mk Iz; clear Iz; obtain rfl := Option.some.inj H; have hnb18 := aQ.out; have hnc18 := aY.out; have rF : wc.cell? ⟨au, 0, none⟩ = some (.string aU) := cK ak 0; have rE : wc.cell? ⟨au, 1, none⟩ = some (.string aT) := cK ak 1; have rD : wc.cell? ⟨au, 2, none⟩ = some (.int .i64 aV) := cK ak 2; have tX : wc.cell? ⟨au, 3, none⟩ = some (.int .i64 bH) := cK ak 3; have tT : wc.cell? ⟨au, 4, none⟩ = some (.int .i64 bG) := cK ak 4; have tQ : wc.cell? ⟨au, 5, none⟩ = some (.int .i64 bJ) := cK ak 5; have ru := aj ak.out 0; have q9 := aj ak.out 1; have q8 := aj ak.out 2; have tN := aj ak.out 3; have tL := aj ak.out 4; have tK := aj ak.out 5
      try go_wp2
      replace je := ah.mk (Kd.gY je.out); replace ak := ah.mk (aJ ak.out); replace ay := ah.mk (aJ ay.out); replace HK := ah.mk (Kept.drew HK.out); replace HB := ah.mk (bL HB.out); refine jB (n := 11) (S := fun w' => w'.cell? ⟨aA, 0, none⟩ = some (.int .i64 fJ) ∧ w'.cell? ⟨aA, 1, none⟩ = some (.int .i64 gD) ∧ w'.cell? ⟨aA, 2, none⟩ = some (.string gB) ∧ w'.cell? ⟨au, 0, none⟩ = some (.string aU) ∧ w'.cell? ⟨au, 1, none⟩ = some (.string aT) ∧ w'.cell? ⟨au, 2, none⟩ = some (.int .i64 aV) ∧ w'.cell? ⟨au, 3, none⟩ = some (.int .i64 bH) ∧ w'.cell? ⟨au, 4, none⟩ = some (.int .i64 bG) ∧ w'.cell? ⟨au, 5, none⟩ = some (.int .i64 bJ)) (ds := []) (.replicate 11 false) (by kernel_rfl) rfl rfl ⟨cK ay 0, cK ay 1, cK ay 2, cK ak 0, cK ak 1, cK ak 2, cK ak 3, cK ak 4, cK ak 5⟩ (fun hHeld => ?_); refine iG bP.EL bP.xO (fun HT_ HW_ => ?_); generalize wc.drew = w20 at je ak ay HK HB hHeld ⊢; refine pV 0 22 (bA 11 1) HT_ ?_; refine pV 7 29 (bA 11 129) HT_ ?_; refine tV (v := ?_) 1 23 (bA 11 131) HT_ HW_ hHeld ?_ ?_; rotate_left
      ·rintro w' ⟨s0, s1, s2, s3, s4, s5, s6, s7, s8⟩
       go_simp
       (with_reducible rfl)
      refine tV (v := ?_) 8 30 (bA 11 387) HT_ HW_ hHeld ?_ ?_; rotate_left
      ·rintro w' ⟨s0, s1, s2, s3, s4, s5, s6, s7, s8⟩
       go_simp
       (with_reducible rfl)
      refine oN 2 24 (bA 11 391) HT_ (fun K hK => ?_); refine iy Try.func15 (by kernel_rfl) rfl #[.agg #[.int .i64 fJ, .int .i64 gD, .string gB], .int .i64 0] (by rfl) rfl rfl zz8 ?_; (with_reducible refine (dD.calls kj4 fJ gD gB 0 t210 _ A15.out).mono ?_); rintro e w21 ⟨rfl, hb⟩; refine ⟨_, rfl, ?_⟩; replace je := ah.mk (Kd.gP Ma hb); replace ak := ah.mk (aG (g := au) (o := .cells #[.string aU, .string aT, .int .i64 aV, .int .i64 bH, .int .i64 bG, .int .i64 bJ] 30 (0, 0)) zz4 hb); replace ay := ah.mk (aG (g := aA) (o := .cells #[.int .i64 fJ, .int .i64 gD, .string gB] 23 (0, 0)) iJ hb); replace HK := ah.mk (Kept.below (S := (fun k_ => P1_ k_)) Am hb); replace HB := ah.mk (av fP hb); (try clear hb); (try clear hb2); (try clear hk); (try clear hi); refine hK.out _ _ ⟨cK ay 0, cK ay 1, cK ay 2, cK ak 0, cK ak 1, cK ak 2, cK ak 3, cK ak 4, cK ak 5⟩ (fun hHeld => ?_); clear hK K; refine iI (a' := ?_) ?_ ?_; rotate_left
      ·show Act.put _ (some 24) _ = _
       simp only [Act.put, List.setIfInBounds_toArray, List.set_cons_zero, List.set_cons_succ, dS, eP]
       rfl
      refine pV 3 25 (bA 11 399) HT_ ?_; refine pV 4 26 (bA 11 415) HT_ ?_; refine oN 5 27 (bA 11 447) HT_ (fun K hK => ?_); refine rW (w1 := ?_) (v := ?_) (by rfl) rfl ?_ ?_; rotate_left 2
      ·go_simp
       constructor
       ·rfl
       ·rfl
      refine hK.out _ _ ⟨(jI (aI ay.out _) 0).trans rfl, (jI (aI ay.out _) 1).trans rfl, (jI (aI ay.out _) 2).trans rfl, (jI (aI ak.out _) 0).trans rfl, (jI (aI ak.out _) 1).trans rfl, (jI (aI ak.out _) 2).trans rfl, (jI (aI ak.out _) 3).trans rfl, (jI (aI ak.out _) 4).trans rfl, (jI (aI ak.out _) 5).trans rfl⟩ (fun hHeld => ?_); clear hK K; refine iI (a' := ?_) ?_ ?_; rotate_left
      ·show Act.put _ (some 27) _ = _
       simp only [Act.put, List.setIfInBounds_toArray, List.set_cons_zero, List.set_cons_succ, dS, eP]
       rfl
      refine oN 6 28 (bA 11 511) HT_ (fun K hK => ?_); refine Kd.zV (Kd.int .i64) (w0 := w0) w0.heap.size (by rfl) (.tmp 22) (.tmp 27) 31 2 (.int .i64 0) 8 rfl Try.underlying31 GI rfl (by decide) (by omega) nV l1 (wrap64 (IntKind.u64.wrap (Int.tdiv t210 4))) [.int .i64 (wrap64 (IntKind.u64.wrap (Int.tdiv t210 4)))] (fun k_ => (P1_ k_ ∨ w.heap.size ≤ k_)) (fun _ => False) rfl rfl ?aP (fun _ hk => hk.elim) ?aF ?aO ?aB ?aS ?aL ?_; (case aP => exact rfl); (case aB => exact fP); (case aF => exact (fun k_ hk => (.inr (Nat.le_trans zz47 hk)))); (case aO => exact Ma); (case aS => exact (bS fP)); (case aL => have := LMc16.out; omega); intro v212 w22 ho hb hg hat; rw [← Ny211.out] at ho; replace ak := ah.mk (iU (g := au) (o := .cells #[.string aU, .string aT, .int .i64 aV, .int .i64 bH, .int .i64 bG, .int .i64 bJ] 30 (0, 0)) zz4 hg (Kd.qP je.out ak.out (by decide))); replace ay := ah.mk (iU (g := aA) (o := .cells #[.int .i64 fJ, .int .i64 gD, .string gB] 23 (0, 0)) iJ hg (Kd.qP je.out ay.out (by decide))); replace HB := ah.mk (hb); replace HK := ah.mk (Kept.uD (S := (fun k_ => P1_ k_)) hg Am (fun k_ e_ => (je.out.1 k_ e_))); have iT := ah.mk (ho); clear je; clear ho hb hg hat; obtain ⟨QJ, Qz, eo23⟩ := Kd.fH iT.out; (first | subst eo23 | (injection eo23 with f1_ f2_ f3_; have f4_ := f1_.symm; have f5_ := f3_.symm; clear f1_ f2_ f3_; subst f4_; subst f5_)); refine hK.out _ _ ⟨cK ay 0, cK ay 1, cK ay 2, cK ak 0, cK ak 1, cK ak 2, cK ak 3, cK ak 4, cK ak 5⟩ (fun hHeld => ?_); clear hK K; refine iI (a' := ?_) ?_ ?_; rotate_left
      ·show Act.put _ (some 28) _ = _
       simp only [Act.put, List.setIfInBounds_toArray, List.set_cons_zero, List.set_cons_succ, dS, eP]
       rfl
      refine oN 9 31 (bA 11 1023) HT_ (fun K hK => ?_); refine iy Try.func70 (by kernel_rfl) rfl #[.slice QJ y211.length Qz, .int .i64 bG] (by rfl) rfl rfl zz8 ?_; (with_reducible refine (jc.calls (fun k_ => some k_ = (.slice QJ y211.length Qz : Value).ownBlock) (.slice QJ y211.length Qz) y211 bG t214 w0 _ ?bO ?bR A17.out).mono ?_); (case bO => repeat (first | (with_reducible first | exact HB.out | apply dB | apply cO | apply bL | refine cu ?_ fF.out | refine cu ?_ jr.out) | exact HB.out)); (case bR => exact Kd.o7 rfl iT.out); rintro e w24 ⟨v215, rfl, ho0, hb, hkp⟩; refine ⟨_, rfl, ?_⟩; replace ak := ah.mk (yI zz4 hkp (fun hs_ => (fun e_ => (Kd.qP iT.out ak.out (by decide)) e_) hs_)); replace ay := ah.mk (yI iJ hkp (fun hs_ => (fun e_ => (Kd.qP iT.out ay.out (by decide)) e_) hs_)); have kT := ah.mk (Kd.eO (ok' := fun k_ => (P1_ k_ ∨ w.heap.size ≤ k_)) ho0 (fun k_ hk_ => Or.elim hk_ (fun hs_ => (iT.out.1 k_ (hs_).symm)) (fun hn_ => (.inr (Nat.le_trans zz47 hn_))))); replace HK := ah.mk (Kept.then_ (S := (fun k_ => P1_ k_)) Am hkp (fun k_ hs_ => (fun e_ => (iT.out.1 k_ e_.symm)) hs_)); replace HB := ah.mk (hb); clear iT; (try clear hb); (try clear hkp); (try clear ho0); refine hK.out _ _ ⟨cK ay 0, cK ay 1, cK ay 2, cK ak 0, cK ak 1, cK ak 2, cK ak 3, cK ak 4, cK ak 5⟩ (fun hHeld => ?_); clear hK K; refine iI (a' := ?_) ?_ ?_; rotate_left
      ·show Act.put _ (some 31) _ = _
       simp only [Act.put, List.setIfInBounds_toArray, List.set_cons_zero, List.set_cons_succ, dS, eP]
       rfl
      refine pV 10 8 (bA 11 2047) HT_ ?_; refine kX (j6 HT_.out (by kernel_rfl)) ?_
      try go_wp2
      go_ret
      exact ⟨_, zz6, zz33, fP, Am⟩
     ·rw [if_neg c16] at H; exact absurd H (by simp)
    ·rw [if_neg c14] at H; have zU : (bH == 2) = false := beq_eq_false_iff_ne.mpr c14; have c14b1 : (bH != 2) = true := bne_iff_ne.mpr c14; replace H := Option.bind_eq_some_iff.mp H; obtain ⟨lF, A250, H⟩ := H; have A25 := ah.mk A250; clear A250; have H' := ah.mk H; clear H; have hnb26 := aQ.out; have hnc26 := aY.out; have CW : wc.cell? ⟨au, 0, none⟩ = some (.string aU) := cK ak 0; have CV : wc.cell? ⟨au, 1, none⟩ = some (.string aT) := cK ak 1; have CU : wc.cell? ⟨au, 2, none⟩ = some (.int .i64 aV) := cK ak 2; have Tw : wc.cell? ⟨au, 3, none⟩ = some (.int .i64 bH) := cK ak 3; have Tv : wc.cell? ⟨au, 4, none⟩ = some (.int .i64 bG) := cK ak 4; have Tt : wc.cell? ⟨au, 5, none⟩ = some (.int .i64 bJ) := cK ak 5; have Ct := aj ak.out 0; have Cr := aj ak.out 1; have Cq := aj ak.out 2; have SC := aj ak.out 3; have SB := aj ak.out 4; have SA := aj ak.out 5; have xg : wc.cell? ⟨aA, 0, none⟩ = some (.int .i64 fJ) := cK ay 0; have wZ : wc.cell? ⟨aA, 1, none⟩ = some (.int .i64 gD) := cK ay 1; have wY : wc.cell? ⟨aA, 2, none⟩ = some (.string gB) := cK ay 2; have wU := aj ay.out 0; have wT := aj ay.out 1; have wS := aj ay.out 2
     go_wp2_with (first | ((with_reducible refine aN (f := 67) rfl ?_); refine bU (some 34) rfl rfl Try.func67 (by kernel_rfl) rfl #[.agg #[.string aU, .string aT, .int .i64 aV, .int .i64 bH, .int .i64 bG, .int .i64 bJ], .agg #[.int .i64 fJ, .int .i64 gD, .string gB]] rfl zz8 ?_; (with_reducible refine (bB.calls kj4 aU aT aV bH bG bJ fJ gD gB lF _ A25.out).mono ?_); rintro e w29 ⟨v218, rfl, ho0, hb⟩; refine ⟨_, rfl, ?_⟩; replace je := ah.mk (Kd.gP Ma hb); have kM := ah.mk (Kd.jC (Kd.QE (M := fun k_ => (P1_ k_ ∨ w.heap.size ≤ k_)) ho0 zz47 (fun k_ h_ => .inr h_)) (bS fP)); replace ak := ah.mk (aG (g := au) (o := .cells #[.string aU, .string aT, .int .i64 aV, .int .i64 bH, .int .i64 bG, .int .i64 bJ] 30 (0, 0)) zz4 hb); replace ay := ah.mk (aG (g := aA) (o := .cells #[.int .i64 fJ, .int .i64 gD, .string gB] 23 (0, 0)) iJ hb); replace HK := ah.mk (Kept.below (S := (fun k_ => P1_ k_)) Am hb); replace HB := ah.mk (av fP hb); (try clear hb); (try clear hb2); (try clear hk); (try clear hi); (try clear ho0); obtain ⟨Ao30, co30, eo30⟩ := Kd.fH kM.out; subst eo30))
     go_loopg [36] kj4 (fun kq v36 w' => ∃ (wo : List Int) (fq : Int), v36 = .int .i64 fq ∧ ah (bP.l0 kq wo a3 lF (lF.length : Int) fq aU aT aV bH bG bJ = some r) ∧ ah (kq ≤ kj4) ∧ ah (Kd.R (Kd.int .i64) 2 w' w0.heap.size (fun k_ => (P1_ k_ ∨ w.heap.size ≤ k_)) nV wo) ∧ ah (Kd.R (Kd.int .i64) 3 w' w0.heap.size (fun k_ => (P1_ k_ ∨ w.heap.size ≤ k_)) (.slice Ao30 lF.length co30) lF) ∧ ah (w'.heap[au]? = some (.cells #[.string aU, .string aT, .int .i64 aV, .int .i64 bH, .int .i64 bG, .int .i64 bJ] 30 (0, 0))) ∧ ah (w'.heap[aA]? = some (.cells #[.int .i64 fJ, .int .i64 gD, .string gB] 23 (0, 0))) ∧ ah (Kept w w' (fun k_ => P1_ k_)) ∧ ah (Below w0.heap.size w0 w'))
     case atStart => exact ⟨(l1), (0), zz2, H', ⟨Nat.le_refl _⟩, ⟨Ma⟩, ⟨by (with_reducible repeat (first | apply Kd.gu | apply Kd.fV | apply Kd.gY)); exact Kd.eO kM.out (fun _ hk => hk.1)⟩, ⟨zz4⟩, ⟨iJ⟩, ⟨Am⟩, ⟨fP⟩⟩
     case round =>
      clear H'; (try clear c1); (try clear c2); (try clear p2); (try clear c6); (try clear p6); (try clear c7); (try clear c8); (try clear pI); (try clear EU); (try clear c9); (try clear c11); (try clear c13); (try clear c14); (try clear zU); (try clear c14b1); (try clear c15); (try clear c16); (try clear c18); (try clear c26); (try clear oZ); (try clear oW); (try clear ql); (try clear ow); (try clear ou); (try clear oq); (try clear rF); (try clear rE); (try clear rD); (try clear tX); (try clear tT); (try clear tQ); (try clear CW); (try clear CV); (try clear CU); (try clear Tw); (try clear Tv); (try clear Tt); (try clear xg); (try clear wZ); (try clear wY); (try clear oP); (try clear oO); (try clear qg); (try clear oo); (try clear om); (try clear oh); (try clear ru); (try clear q9); (try clear q8); (try clear tN); (try clear tL); (try clear tK); (try clear Ct); (try clear Cr); (try clear Cq); (try clear SC); (try clear SB); (try clear SA); (try clear wU); (try clear wT); (try clear wS); (try clear p2); obtain ⟨wo, fq, rfl, HA, HK2, je, Dz, ak, ay, HK, HB⟩ := hrel
      cases gk with
      | zero => exact absurd HA.out (by simp [bP.l0])
      | succ k2 =>
       have H := HA.out; clear HA; simp only [bP.l0] at H
       by_cases c31 : fq < (lF.length : Int)
       ·rw [if_pos c31] at H; have TT : decide (fq < (lF.length : Int)) = true := decide_eq_true c31; clear c31
        by_cases c32 : 0 ≤ fq
        ·rw [if_pos c32] at H; have NG : decide (0 ≤ fq) = true := decide_eq_true c32; clear c32
         by_cases c33 : fq < (lF.length : Int)
         ·rw [if_pos c33] at H; have ND : decide (fq < (lF.length : Int)) = true := decide_eq_true c33; clear c33
          by_cases c34 : bH = 1
          ·rw [if_pos c34] at H; have EB : (bH == 1) = true := beq_iff_eq.mpr c34; have NC : (bH != 1) = false := bne_eq_false_iff_eq.mpr c34; clear c34
           by_cases c35 : 0 ≤ (rd lF fq)
           ·rw [if_pos c35] at H; have Jg : decide (0 ≤ (rd lF fq)) = true := decide_eq_true c35; clear c35
            by_cases c36 : (rd lF fq) < (wo.length : Int)
            ·rw [if_pos c36] at H; have TS : decide ((rd lF fq) < (wo.length : Int)) = true := decide_eq_true c36; clear c36; obtain ⟨y221, M4⟩ : ∃ y_ : List Int, y_ = (wo.set ((rd lF fq) : Int).toNat 1) := ⟨_, rfl⟩; replace H : (bP.l0 k2 y221 a3 lF (lF.length : Int) (wrap64 (fq + 1)) aU aT aV bH bG bJ) = some r := by first | (rw [M4]; with_reducible exact H) | (have H2_ := (Option.bind_some _ _).symm.trans H; rw [M4]; with_reducible exact H2_) | (have H2_ := (Option.bind_some _ _).symm.trans H; with_reducible exact H2_) | with_reducible exact H | (rw [M4]; exact H) | exact H
             have Ny221 := ah.mk M4; clear M4; have H' := ah.mk H; clear H; have Pp : 0 ≤ (fq : Int) := of_decide_eq_true zz9; have OX : fq < (lF.length : Int) := of_decide_eq_true zz9; obtain ⟨ad220, e220, YH⟩ := Kd.jq (Kd.dw Dz.out).2.2 fq Pp OX
             cases e220
             replace Pp := eq_true Pp; replace OX := eq_true OX; have hnb38 := aQ.out; have hnc38 := aY.out; have ZU : wr.cell? ⟨au, 0, none⟩ = some (.string aU) := cK ak 0; have ZT : wr.cell? ⟨au, 1, none⟩ = some (.string aT) := cK ak 1; have ZR : wr.cell? ⟨au, 2, none⟩ = some (.int .i64 aV) := cK ak 2; have ZQ : wr.cell? ⟨au, 3, none⟩ = some (.int .i64 bH) := cK ak 3; have ZP : wr.cell? ⟨au, 4, none⟩ = some (.int .i64 bG) := cK ak 4; have ZO : wr.cell? ⟨au, 5, none⟩ = some (.int .i64 bJ) := cK ak 5; have Ze := aj ak.out 0; have Zd := aj ak.out 1; have Zc := aj ak.out 2; have Zb := aj ak.out 3; have Za := aj ak.out 4; have Y9 := aj ak.out 5; have p37 : 0 ≤ ((rd lF fq) : Int) := of_decide_eq_true zz9; have q37 : ((rd lF fq) : Int) < ((wo.length : Int) : Int) := of_decide_eq_true zz9; obtain ⟨U9, Nw, Nt, gb37, gl37, cl37, HG37⟩ := Kd.Ei je.out (by omega); (first | cases Nt | (injection Nt with ea_ en_ ec_; (first | subst ea_ | (injection ea_ with ea_; subst ea_)); subst ec_; clear en_)); have GB37 := ah.mk gb37; have GG37 := ah.mk HG37; clear gb37 gl37 HG37; have HMgo37 := ah.mk (show (P1_ U9 ∨ w.heap.size ≤ U9) from (je.out.1 _ rfl)); obtain ⟨hx37_0, hf37_0⟩ := Kd.Dx 0 je.out ((rd lF fq) : Int) p37 q37; replace p37 := eq_true p37; replace q37 := eq_true q37; have HP40 := Kd.Im je.out ((rd lF fq) : Int) 1
             go_wp2_with (first | ((with_reducible refine pq (t := 2) (p := 45) rfl ?_); refine nX (t := 2) (p := 45) (v := ?vo_w41) (w1 := (wr.setCell ⟨U9, ((rd lF fq) : Int).toNat, none⟩ (.int .i64 1))) ?hg ?ho ?hn ?hr ?_; (case ho => rfl); (case hg => rfl); (case hn => rfl); (case hr => first | (go_simp; done) | (go_simp; rfl)); intro w41 hw; have hg : wr.grownBy w41 (some U9) := (by rw [hw]; exact HP40.2); have hp_ : Kd.R (Kd.int .i64) 2 w41 w0.heap.size (fun k_ => (P1_ k_ ∨ w.heap.size ≤ k_)) (.slice (some ⟨U9, 0, none⟩) wo.length Nw) y221 := (by rw [hw, Ny221.out]; exact HP40.1); clear HP40; replace Dz := ah.mk (Kd.F6 (v := (.slice (some ⟨U9, 0, none⟩) wo.length Nw)) Uv (Kd.vF je.out) (by decide) hg); replace ak := ah.mk (iU (g := au) (o := .cells #[.string aU, .string aT, .int .i64 aV, .int .i64 bH, .int .i64 bG, .int .i64 bJ] 30 (0, 0)) zz4 hg (Kd.qP je.out ak.out (by decide))); replace ay := ah.mk (iU (g := aA) (o := .cells #[.int .i64 fJ, .int .i64 gD, .string gB] 23 (0, 0)) iJ hg (Kd.qP je.out ay.out (by decide))); replace HB := ah.mk ((by rw [hw]; exact cu (HB.out) GB37.out : Below w0.heap.size w0 w41)); replace HK := ah.mk (Kept.uD (S := (fun k_ => P1_ k_)) hg Am (fun k_ e_ => (je.out.1 k_ e_))); replace je := ah.mk (hp_); clear hg hw hp_))
             go_roundg k2
             case measure => have := HJ4.out; have := HK2.out; omega
             case rel => exact ⟨(y221), (wrap64 (fq + 1)), zz2, H', ⟨by have := HJ4.out; have := HK2.out; omega⟩, ⟨Ma⟩, ⟨Uv⟩, ⟨zz4⟩, ⟨iJ⟩, ⟨Am⟩, ⟨fP⟩⟩
            ·rw [if_neg c36] at H; exact absurd H (by simp)
           ·rw [if_neg c35] at H; exact absurd H (by simp)
          ·rw [if_neg c34] at H; have EB : (bH == 1) = false := beq_eq_false_iff_ne.mpr c34; have NC : (bH != 1) = true := bne_iff_ne.mpr c34
           by_cases c42 : 0 ≤ (rd lF fq)
           ·rw [if_pos c42] at H; have c42b0 : decide (0 ≤ (rd lF fq)) = true := decide_eq_true c42; clear c42
            by_cases c43 : (rd lF fq) < (wo.length : Int)
            ·rw [if_pos c43] at H; have c43b0 : decide ((rd lF fq) < (wo.length : Int)) = true := decide_eq_true c43; clear c43; obtain ⟨y223, M0⟩ : ∃ y_ : List Int, y_ = (wo.set ((rd lF fq) : Int).toNat (wrap64 ((rd wo (rd lF fq)) + a3))) := ⟨_, rfl⟩; replace H : (bP.l0 k2 y223 a3 lF (lF.length : Int) (wrap64 (fq + 1)) aU aT aV bH bG bJ) = some r := by first | (rw [M0]; with_reducible exact H) | (have H2_ := (Option.bind_some _ _).symm.trans H; rw [M0]; with_reducible exact H2_) | (have H2_ := (Option.bind_some _ _).symm.trans H; with_reducible exact H2_) | with_reducible exact H | (rw [M0]; exact H) | exact H
             have Ny223 := ah.mk M0; clear M0; have H' := ah.mk H; clear H; have Pp : 0 ≤ (fq : Int) := of_decide_eq_true zz9; have OX : fq < (lF.length : Int) := of_decide_eq_true zz9; obtain ⟨ad220, e220, YH⟩ := Kd.jq (Kd.dw Dz.out).2.2 fq Pp OX
             cases e220
             replace Pp := eq_true Pp; replace OX := eq_true OX; have hnb45 := aQ.out; have hnc45 := aY.out; have Tm : wr.cell? ⟨au, 0, none⟩ = some (.string aU) := cK ak 0; have Tk : wr.cell? ⟨au, 1, none⟩ = some (.string aT) := cK ak 1; have Tj : wr.cell? ⟨au, 2, none⟩ = some (.int .i64 aV) := cK ak 2; have hcz46_3 : wr.cell? ⟨au, 3, none⟩ = some (.int .i64 bH) := cK ak 3; have hcz46_4 : wr.cell? ⟨au, 4, none⟩ = some (.int .i64 bG) := cK ak 4; have hcz46_5 : wr.cell? ⟨au, 5, none⟩ = some (.int .i64 bJ) := cK ak 5; have Sv := aj ak.out 0; have Sr := aj ak.out 1; have Sn := aj ak.out 2; have hfz46_3 := aj ak.out 3; have hfz46_4 := aj ak.out 4; have hfz46_5 := aj ak.out 5; obtain ⟨Ao47, co47, eo47⟩ := Kd.fH je.out; subst eo47; have p222 : 0 ≤ ((rd lF fq) : Int) := of_decide_eq_true zz9; have q222 : (rd lF fq) < (wo.length : Int) := of_decide_eq_true zz9; obtain ⟨ad222, e222, YG⟩ := Kd.jq (Kd.dw je.out).2.2 (rd lF fq) p222 q222
             cases e222
             replace p222 := eq_true p222; replace q222 := eq_true q222; have p44 : 0 ≤ ((rd lF fq) : Int) := of_decide_eq_true zz9; have q44 : ((rd lF fq) : Int) < ((wo.length : Int) : Int) := of_decide_eq_true zz9; obtain ⟨U8, co44, Va, gb44, gl44, cl44, HG44⟩ := Kd.Ei je.out (by omega); (first | cases Va | (injection Va with ea_ en_ ec_; (first | subst ea_ | (injection ea_ with ea_; subst ea_)); subst ec_; clear en_)); have GB44 := ah.mk gb44; have GG44 := ah.mk HG44; clear gb44 gl44 HG44; have HMgo44 := ah.mk (show (P1_ U8 ∨ w.heap.size ≤ U8) from (je.out.1 _ rfl)); (first | simp only [add_plain] at YG | skip); obtain ⟨hx44_0, hf44_0⟩ := Kd.Dx 0 je.out ((rd lF fq) : Int) p44 q44; replace p44 := eq_true p44; replace q44 := eq_true q44; have HP48 := Kd.Im je.out ((rd lF fq) : Int) (wrap64 ((rd wo (rd lF fq)) + a3))
             go_wp2_with (first | ((with_reducible refine pq (t := 2) (p := 52) rfl ?_); refine nX (t := 2) (p := 52) (v := ?vo_w49) (w1 := (wr.setCell ⟨U8, ((rd lF fq) : Int).toNat, none⟩ (.int .i64 (wrap64 ((rd wo (rd lF fq)) + a3))))) ?hg ?ho ?hn ?hr ?_; (case ho => rfl); (case hg => rfl); (case hn => rfl); (case hr => first | (go_simp; done) | (go_simp; rfl)); intro w49 hw; have hg : wr.grownBy w49 (some U8) := (by rw [hw]; exact HP48.2); have hp_ : Kd.R (Kd.int .i64) 2 w49 w0.heap.size (fun k_ => (P1_ k_ ∨ w.heap.size ≤ k_)) (.slice (some ⟨U8, 0, none⟩) wo.length co47) y223 := (by rw [hw, Ny223.out]; exact HP48.1); clear HP48; replace Dz := ah.mk (Kd.F6 (v := (.slice (some ⟨U8, 0, none⟩) wo.length co47)) Uv (Kd.vF je.out) (by decide) hg); replace ak := ah.mk (iU (g := au) (o := .cells #[.string aU, .string aT, .int .i64 aV, .int .i64 bH, .int .i64 bG, .int .i64 bJ] 30 (0, 0)) zz4 hg (Kd.qP je.out ak.out (by decide))); replace ay := ah.mk (iU (g := aA) (o := .cells #[.int .i64 fJ, .int .i64 gD, .string gB] 23 (0, 0)) iJ hg (Kd.qP je.out ay.out (by decide))); replace HB := ah.mk ((by rw [hw]; exact cu (HB.out) GB44.out : Below w0.heap.size w0 w49)); replace HK := ah.mk (Kept.uD (S := (fun k_ => P1_ k_)) hg Am (fun k_ e_ => (je.out.1 k_ e_))); replace je := ah.mk (hp_); clear hg hw hp_))
             go_roundg k2
             case measure => have := HJ4.out; have := HK2.out; omega
             case rel => exact ⟨(y223), (wrap64 (fq + 1)), zz2, H', ⟨by have := HJ4.out; have := HK2.out; omega⟩, ⟨Ma⟩, ⟨Uv⟩, ⟨zz4⟩, ⟨iJ⟩, ⟨Am⟩, ⟨fP⟩⟩
            ·rw [if_neg c43] at H; exact absurd H (by simp)
           ·rw [if_neg c42] at H; exact absurd H (by simp)
         ·rw [if_neg c33] at H; exact absurd H (by simp)
        ·rw [if_neg c32] at H; exact absurd H (by simp)
       ·rw [if_neg c31] at H; have TT : decide (fq < (lF.length : Int)) = false := decide_eq_false c31; clear c31; obtain rfl := Option.some.inj H
        go_wp2
        go_ret
        exact ⟨_, zz6, Ma, fP, Am⟩
mutual
def bF.j0 : Nat → List (S51) → Bool → ByteArray → ByteArray → Int → Int → Int → Int → Option (List Int × Int)
 | 0, _, _, _, _, _, _, _, _ => none
 | k + 1, x1, x21, yV, yU, pJ, yT, yS, yR => if x21 = true then (some (([] : List Int), 1)) else ((kQ.f yV yU pJ yT yS yR).bind fun t227 => (bF.l0 k t227 x1 (x1.length : Int) 0 yV yU pJ yT yS yR))
def bF.l0 : Nat → List Int → List (S51) → Int → Int → ByteArray → ByteArray → Int → Int → Int → Int → Option (List Int × Int)
 | 0, _, _, _, _, _, _, _, _, _, _ => none
 | k + 1, x6, x24, x25, x26, yV, yU, pJ, yT, yS, yR => if x26 < x25 then (if 0 ≤ x26 then (if x26 < (x24.length : Int) then (if pJ < (((aD x24 x26).f0).length : Int) then (if 0 ≤ pJ then ((bP.f k yV yU pJ yT yS yR x6 ((aZ ((aD x24 x26).f0) pJ).f0) ((aZ ((aD x24 x26).f0) pJ).f1) ((aZ ((aD x24 x26).f0) pJ).f2) ((aD x24 x26).f1)).bind fun t233 => (bF.l0 k t233 x24 x25 (wrap64 (x26 + 1)) yV yU pJ yT yS yR)) else (none)) else (bF.l0 k x6 x24 x25 (wrap64 (x26 + 1)) yV yU pJ yT yS yR)) else (none)) else (none)) else (some (x6, 0))
end
def bF.f (k : Nat) (aU : ByteArray) (aT : ByteArray) (aV : Int) (bH : Int) (bG : Int) (bJ : Int) (l1 : List (S51)) : Option (List Int × Int) := (bg.f k aU aT aV bH bG bJ).bind fun t225 => (if t225 = true then (if aV < 0 then (bF.j0 k l1 true aU aT aV bH bG bJ) else ((iD.f k l1).bind fun t226 => (bF.j0 k l1 (!t226) aU aT aV bH bG bJ))) else (bF.j0 k l1 true aU aT aV bH bG bJ))
theorem bF.gU : ∀ k, (∀ y0 y1 y2 y3 y4 y5 y6 y7, LeO (bF.j0 k y0 y1 y2 y3 y4 y5 y6 y7) (bF.j0 (k + 1) y0 y1 y2 y3 y4 y5 y6 y7)) ∧ (∀ y0 y1 y2 y3 y4 y5 y6 y7 y8 y9, LeO (bF.l0 k y0 y1 y2 y3 y4 y5 y6 y7 y8 y9) (bF.l0 (k + 1) y0 y1 y2 y3 y4 y5 y6 y7 y8 y9))
 | 0 => ⟨fun _ _ _ _ _ _ _ _ r h => by simp [bF.j0] at h, fun _ _ _ _ _ _ _ _ _ _ r h => by simp [bF.l0] at h⟩
 | k + 1 => by
  obtain ⟨ih0, ih1⟩ := bF.gU k; refine ⟨?_, ?_⟩
  ·intro y0 y1 y2 y3 y4 y5 y6 y7; unfold bF.j0
   repeat' first
   | (with_reducible exact ih0 _ _ _ _ _ _ _ _)
   | (with_reducible exact ih1 _ _ _ _ _ _ _ _ _ _)
   | (with_reducible exact iD.mono _ _)
   | (with_reducible exact bP.mono _ _ _ _ _ _ _ _ _ _ _ _)
   | (with_reducible exact bg.mono _ _ _ _ _ _ _)
   | (with_reducible exact LeO.refl _)
   | (with_reducible exact LeO.none _)
   | (with_reducible refine LeO.ite ?_ ?_)
   | (with_reducible refine LeO.bind ?_ (fun _ => ?_))
   | exact ih0 _ _ _ _ _ _ _ _
   | exact ih1 _ _ _ _ _ _ _ _ _ _
   | exact iD.mono _ _
   | exact bP.mono _ _ _ _ _ _ _ _ _ _ _ _
   | exact bg.mono _ _ _ _ _ _ _
   | exact LeO.none _
   | refine LeO.ite ?_ ?_
   | refine LeO.bind ?_ (fun _ => ?_)
  ·intro y0 y1 y2 y3 y4 y5 y6 y7 y8 y9; unfold bF.l0
   repeat' first
   | (with_reducible exact ih0 _ _ _ _ _ _ _ _)
   | (with_reducible exact ih1 _ _ _ _ _ _ _ _ _ _)
   | (with_reducible exact iD.mono _ _)
   | (with_reducible exact bP.mono _ _ _ _ _ _ _ _ _ _ _ _)
   | (with_reducible exact bg.mono _ _ _ _ _ _ _)
   | (with_reducible exact LeO.refl _)
   | (with_reducible exact LeO.none _)
   | (with_reducible refine LeO.ite ?_ ?_)
   | (with_reducible refine LeO.bind ?_ (fun _ => ?_))
   | exact ih0 _ _ _ _ _ _ _ _
   | exact ih1 _ _ _ _ _ _ _ _ _ _
   | exact iD.mono _ _
   | exact bP.mono _ _ _ _ _ _ _ _ _ _ _ _
   | exact bg.mono _ _ _ _ _ _ _
   | exact LeO.none _
   | refine LeO.ite ?_ ?_
   | refine LeO.bind ?_ (fun _ => ?_)
theorem bF.mono : ∀ a0 a1 a2 a3 a4 a5 a6 k, LeO (bF.f k a0 a1 a2 a3 a4 a5 a6) (bF.f (k + 1) a0 a1 a2 a3 a4 a5 a6) := by
 intro a0 a1 a2 a3 a4 a5 a6 k; obtain ⟨ih0, ih1⟩ := bF.gU k; unfold bF.f
 repeat' first
   | (with_reducible exact ih0 _ _ _ _ _ _ _ _)
   | (with_reducible exact ih1 _ _ _ _ _ _ _ _ _ _)
   | (with_reducible exact iD.mono _ _)
   | (with_reducible exact bP.mono _ _ _ _ _ _ _ _ _ _ _ _)
   | (with_reducible exact bg.mono _ _ _ _ _ _ _)
   | (with_reducible exact LeO.refl _)
   | (with_reducible exact LeO.none _)
   | (with_reducible refine LeO.ite ?_ ?_)
   | (with_reducible refine LeO.bind ?_ (fun _ => ?_))
   | exact ih0 _ _ _ _ _ _ _ _
   | exact ih1 _ _ _ _ _ _ _ _ _ _
   | exact iD.mono _ _
   | exact bP.mono _ _ _ _ _ _ _ _ _ _ _ _
   | exact bg.mono _ _ _ _ _ _ _
   | exact LeO.none _
   | refine LeO.ite ?_ ?_
   | refine LeO.bind ?_ (fun _ => ?_)
def bF.T8 : Bool × List (List Nat × List Nat) := (true, [([], []), ([], []), ([], []), ([2], [2]), ([], []), ([4], [4]), ([3, 5], [3, 5]), ([6], [6]), ([], []), ([8], [8]), ([0, 1, 7, 9], [0, 1, 7, 9]), ([10, 10, 0, 1, 2, 3, 4, 5, 6, 7, 8, 9, 10], [1, 10])])
def bF.B8 : List Nat := [0, 0, 0, 4, 0, 16, 60, 124, 0, 256, 1023, 2047]
theorem bF.tab8 : kL .any (opsOf Try.f28 8) = bF.T8 := by kernel_rfl
theorem bF.bits8 : j5 bF.T8.2 bF.B8 = true := by kernel_rfl
set_option maxHeartbeats 8000000 in
set_option maxRecDepth 100000 in
theorem bF.calls (k : Nat) (aU : ByteArray) (aT : ByteArray) (aV : Int) (bH : Int) (bG : Int) (bJ : Int) (A1 : Option Addr) (c1 : Nat) (l1 : List (S51)) (r1 : List Int) (r2 : Int) (w : World) (hr1 : Kd.C k51 w A1 l1.length l1) (hc1 : l1.length ≤ c1) (h : bF.f k aU aT aV bH bG bJ l1 = some (r1, r2)) :
  Calls Try.prog 28 #[.agg #[.string aU, .string aT, .int .i64 aV, .int .i64 bH, .int .i64 bG, .int .i64 bJ], .slice A1 l1.length c1] w fun e w' => ∃ v0_ : Value, e = .returned (.tuple #[v0_, .int .i64 r2]) ∧ Kd.R (Kd.int .i64) 2 w' w.heap.size (fun _ => True) v0_ r1 ∧ Below w.heap.size w w' := by
 have ES := Try.underlying30; have Nj := Try.underlying51; have vI := Try.underlying23; have HR1 := ah.mk hr1; have HC1 := ah.mk hc1; clear hr1 hc1; have HB := ah.mk (Below.refl w.heap.size w); have H := h; clear h
 dsimp only [bF.f] at H
 have HC3 := ah.mk H; clear H
 go_enter Try.func28, Try.ntmps28
 go_upto_region 1 with (first | ((with_reducible refine bE (N := 2) rfl ?_); refine bC ?hg (N := 2) ?hd (cs := #[.string aU, .string aT, .int .i64 aV, .int .i64 bH, .int .i64 bG, .int .i64 bJ]) (t := 30) ?hr ?_; (case hd => rfl); (case hg => rfl); (case hr => first | (go_simp; done) | (go_simp; rfl)); intro au hg w4 bK hb; have ak := ah.mk (bK); have fO := ah.mk ((zz0 : w.heap.size ≤ au)); have fF := ah.mk ((zz0 : w.heap.size ≤ au)); replace HB := ah.mk (av zz1 hb); clear hb bK hg))
 (try simp only [Act.put, List.setIfInBounds_toArray, List.set_cons_zero, List.set_cons_succ])
 go_cut [21] (fun v21 wc => ∃ (kq : Nat) (Q9 : Bool), v21 = .bool Q9 ∧ ah (bF.j0 kq l1 Q9 aU aT aV bH bG bJ = some (r1, r2)) ∧ ah (kq ≤ k) ∧ ah (wc.heap[au]? = some (.cells #[.string aU, .string aT, .int .i64 aV, .int .i64 bH, .int .i64 bG, .int .i64 bJ] 30 (0, 0))) ∧ ah (Below w.heap.size w wc))
 case first =>
  have H := HC3.out; clear HC3; replace H := Option.bind_eq_some_iff.mp H; obtain ⟨t225, A50, H⟩ := H; have A5 := ah.mk A50; clear A50
  by_cases c6 : t225 = true
  ·subst c6; rw [if_pos rfl] at H
   by_cases c7 : aV < 0
   ·rw [if_pos c7] at H; have qp : decide (aV < 0) = true := decide_eq_true c7; clear c7; (first | rw [qp] | (simp only [dS, eP]; rw [qp]) | skip); have H' := ah.mk H; clear H; have KO : w4.cell? ⟨au, 0, none⟩ = some (.string aU) := cK ak 0; have KN : w4.cell? ⟨au, 1, none⟩ = some (.string aT) := cK ak 1; have PO : w4.cell? ⟨au, 2, none⟩ = some (.int .i64 aV) := cK ak 2; have V4 : w4.cell? ⟨au, 3, none⟩ = some (.int .i64 bH) := cK ak 3; have V3 : w4.cell? ⟨au, 4, none⟩ = some (.int .i64 bG) := cK ak 4; have VZ : w4.cell? ⟨au, 5, none⟩ = some (.int .i64 bJ) := cK ak 5; have Ku := aj ak.out 0; have Kt := aj ak.out 1; have PL := aj ak.out 2; have VP := aj ak.out 3; have VO := aj ak.out 4; have VN := aj ak.out 5
    go_wp2_with (first | ((with_reducible refine aN (f := 55) rfl ?_); refine bU (some 10) rfl rfl Try.func55 (by kernel_rfl) rfl #[.agg #[.string aU, .string aT, .int .i64 aV, .int .i64 bH, .int .i64 bG, .int .i64 bJ]] rfl zz8 ?_; (with_reducible refine (bg.calls k aU aT aV bH bG bJ true _ A5.out).mono ?_); rintro e w9 ⟨rfl, hb⟩; refine ⟨_, rfl, ?_⟩; replace ak := ah.mk (aG (g := au) (o := .cells #[.string aU, .string aT, .int .i64 aV, .int .i64 bH, .int .i64 bG, .int .i64 bJ] 30 (0, 0)) zz4 hb); replace HB := ah.mk (av zz5 hb); (try clear hb); (try clear hb2); (try clear hk); (try clear hi); have oZ : w9.cell? ⟨au, 0, none⟩ = some (.string aU) := cK ak 0; have oW : w9.cell? ⟨au, 1, none⟩ = some (.string aT) := cK ak 1; have ql : w9.cell? ⟨au, 2, none⟩ = some (.int .i64 aV) := cK ak 2; have F3 : w9.cell? ⟨au, 3, none⟩ = some (.int .i64 bH) := cK ak 3; have FZ : w9.cell? ⟨au, 4, none⟩ = some (.int .i64 bG) := cK ak 4; have FY : w9.cell? ⟨au, 5, none⟩ = some (.int .i64 bJ) := cK ak 5; have oP := aj ak.out 0; have oO := aj ak.out 1; have qg := aj ak.out 2; have FM := aj ak.out 3; have FL := aj ak.out 4; have FJ := aj ak.out 5))
    go_meet
    case rel => exact ⟨_, (true), zz2, H', ⟨zz3⟩, ⟨zz4⟩, ⟨zz5⟩⟩
   ·rw [if_neg c7] at H; have qp : decide (aV < 0) = false := decide_eq_false c7; clear c7; (first | rw [qp] | (simp only [dS, eP]; rw [qp]) | skip); replace H := Option.bind_eq_some_iff.mp H; obtain ⟨t226, yP, H⟩ := H; have A11 := ah.mk yP; clear yP; have H' := ah.mk H; clear H; have ow : w4.cell? ⟨au, 0, none⟩ = some (.string aU) := cK ak 0; have ou : w4.cell? ⟨au, 1, none⟩ = some (.string aT) := cK ak 1; have oq : w4.cell? ⟨au, 2, none⟩ = some (.int .i64 aV) := cK ak 2; have vC : w4.cell? ⟨au, 3, none⟩ = some (.int .i64 bH) := cK ak 3; have vB : w4.cell? ⟨au, 4, none⟩ = some (.int .i64 bG) := cK ak 4; have vw : w4.cell? ⟨au, 5, none⟩ = some (.int .i64 bJ) := cK ak 5; have oo := aj ak.out 0; have om := aj ak.out 1; have oh := aj ak.out 2; have vv := aj ak.out 3; have vo := aj ak.out 4; have vk := aj ak.out 5
    go_wp2_with (first | ((with_reducible refine aN (f := 55) rfl ?_); refine bU (some 10) rfl rfl Try.func55 (by kernel_rfl) rfl #[.agg #[.string aU, .string aT, .int .i64 aV, .int .i64 bH, .int .i64 bG, .int .i64 bJ]] rfl zz8 ?_; (with_reducible refine (bg.calls k aU aT aV bH bG bJ true _ A5.out).mono ?_); rintro e w13 ⟨rfl, hb⟩; refine ⟨_, rfl, ?_⟩; replace ak := ah.mk (aG (g := au) (o := .cells #[.string aU, .string aT, .int .i64 aV, .int .i64 bH, .int .i64 bG, .int .i64 bJ] 30 (0, 0)) zz4 hb); replace HB := ah.mk (av zz5 hb); (try clear hb); (try clear hb2); (try clear hk); (try clear hi); have xu : w13.cell? ⟨au, 0, none⟩ = some (.string aU) := cK ak 0; have xq : w13.cell? ⟨au, 1, none⟩ = some (.string aT) := cK ak 1; have xk : w13.cell? ⟨au, 2, none⟩ = some (.int .i64 aV) := cK ak 2; have TL : w13.cell? ⟨au, 3, none⟩ = some (.int .i64 bH) := cK ak 3; have TK : w13.cell? ⟨au, 4, none⟩ = some (.int .i64 bG) := cK ak 4; have TJ : w13.cell? ⟨au, 5, none⟩ = some (.int .i64 bJ) := cK ak 5; have wX := aj ak.out 0; have wW := aj ak.out 1; have wV := aj ak.out 2; have SX := aj ak.out 3; have SV := aj ak.out 4; have SS := aj ak.out 5) | (go_at_call 62; (with_reducible refine (iD.calls k _ _ l1 t226 _ ?bO ?bR A11.out).mono ?_); (case bO => repeat (first | exact (Kd.eZ HR1.out HB.out) | (with_reducible refine Kd.dF ?_ _) | (with_reducible refine Kd.dI ?_ _) | (with_reducible refine Kd.dZ ?_))); (case bR => exact HC1.out); rintro e w15 ⟨rfl, hb⟩; replace ak := ah.mk (aG (g := au) (o := .cells #[.string aU, .string aT, .int .i64 aV, .int .i64 bH, .int .i64 bG, .int .i64 bJ] 30 (0, 0)) zz4 hb); replace HB := ah.mk (av zz5 hb); (try clear hb); (try clear hb2); (try clear hk); (try clear hi)))
    go_meet
    case rel => exact ⟨_, (!t226), zz2, H', ⟨zz3⟩, ⟨zz4⟩, ⟨zz5⟩⟩
  ·replace c6 := Bool.eq_false_iff.mpr c6; subst c6; rw [if_neg (show ¬ (false = true) by decide)] at H; have H' := ah.mk H; clear H; have Dk : w4.cell? ⟨au, 0, none⟩ = some (.string aU) := cK ak 0; have Dj : w4.cell? ⟨au, 1, none⟩ = some (.string aT) := cK ak 1; have Di : w4.cell? ⟨au, 2, none⟩ = some (.int .i64 aV) := cK ak 2; have TF : w4.cell? ⟨au, 3, none⟩ = some (.int .i64 bH) := cK ak 3; have TD : w4.cell? ⟨au, 4, none⟩ = some (.int .i64 bG) := cK ak 4; have TB : w4.cell? ⟨au, 5, none⟩ = some (.int .i64 bJ) := cK ak 5; have CS := aj ak.out 0; have CQ := aj ak.out 1; have CP := aj ak.out 2; have SK := aj ak.out 3; have SI := aj ak.out 4; have SH := aj ak.out 5
   go_wp2_with (first | ((with_reducible refine aN (f := 55) rfl ?_); refine bU (some 10) rfl rfl Try.func55 (by kernel_rfl) rfl #[.agg #[.string aU, .string aT, .int .i64 aV, .int .i64 bH, .int .i64 bG, .int .i64 bJ]] rfl zz8 ?_; (with_reducible refine (bg.calls k aU aT aV bH bG bJ false _ A5.out).mono ?_); rintro e w17 ⟨rfl, hb⟩; refine ⟨_, rfl, ?_⟩; replace ak := ah.mk (aG (g := au) (o := .cells #[.string aU, .string aT, .int .i64 aV, .int .i64 bH, .int .i64 bG, .int .i64 bJ] 30 (0, 0)) zz4 hb); replace HB := ah.mk (av zz5 hb); (try clear hb); (try clear hb2); (try clear hk); (try clear hi)))
   go_meet
   case rel => exact ⟨_, (true), zz2, H', ⟨zz3⟩, ⟨zz4⟩, ⟨zz5⟩⟩
 case rest =>
  clear HC3; (try clear c1); (try clear c2); (try clear p2); (try clear c5); (try clear c6); (try clear c7); (try clear qp); (try clear oZ); (try clear oW); (try clear ql); (try clear F3); (try clear FZ); (try clear FY); (try clear ow); (try clear ou); (try clear oq); (try clear vC); (try clear vB); (try clear vw); (try clear xu); (try clear xq); (try clear xk); (try clear TL); (try clear TK); (try clear TJ); (try clear Dk); (try clear Dj); (try clear Di); (try clear TF); (try clear TD); (try clear TB); (try clear KO); (try clear KN); (try clear PO); (try clear V4); (try clear V3); (try clear VZ); (try clear oP); (try clear oO); (try clear qg); (try clear FM); (try clear FL); (try clear FJ); (try clear oo); (try clear om); (try clear oh); (try clear vv); (try clear vo); (try clear vk); (try clear wX); (try clear wW); (try clear wV); (try clear SX); (try clear SV); (try clear SS); (try clear CS); (try clear CQ); (try clear CP); (try clear SK); (try clear SI); (try clear SH); (try clear Ku); (try clear Kt); (try clear PL); (try clear VP); (try clear VO); (try clear VN); obtain ⟨kq, Q9, rfl, HA, HJ2, ak, HB⟩ := hcut
  cases kq with
  | zero => exact absurd HA.out (by simp [bF.j0])
  | succ kj2 =>
   have H := HA.out; clear HA; simp only [bF.j0] at H
   by_cases c18 : Q9 = true
   ·subst c18; rw [if_pos rfl] at H; simp only [Option.some.injEq, Prod.mk.injEq] at H; obtain ⟨rfl, rfl⟩ := H
    go_wp2
    go_ret2
    exact ⟨_, zz6, II, zz5⟩
   ·replace c18 := Bool.eq_false_iff.mpr c18; subst c18; rw [if_neg (show ¬ (false = true) by decide)] at H; replace H := Option.bind_eq_some_iff.mp H; obtain ⟨t227, A190, H⟩ := H; have A19 := ah.mk A190; clear A190; have H' := ah.mk H; clear H; have qj : wc.cell? ⟨au, 0, none⟩ = some (.string aU) := cK ak 0; have qh : wc.cell? ⟨au, 1, none⟩ = some (.string aT) := cK ak 1; have tO : wc.cell? ⟨au, 2, none⟩ = some (.int .i64 aV) := cK ak 2; have K6 : wc.cell? ⟨au, 3, none⟩ = some (.int .i64 bH) := cK ak 3; have K5 : wc.cell? ⟨au, 4, none⟩ = some (.int .i64 bG) := cK ak 4; have K4 : wc.cell? ⟨au, 5, none⟩ = some (.int .i64 bJ) := cK ak 5; have qZ := aj ak.out 0; have qd := aj ak.out 1; have tJ := aj ak.out 2; have KM := aj ak.out 3; have KL := aj ak.out 4; have KJ := aj ak.out 5
    go_wp2_with (first | ((with_reducible refine aN (f := 63) rfl ?_); refine bU (some 23) rfl rfl Try.func63 (by kernel_rfl) rfl #[.agg #[.string aU, .string aT, .int .i64 aV, .int .i64 bH, .int .i64 bG, .int .i64 bJ]] rfl zz8 ?_; (with_reducible refine (kQ.calls aU aT aV bH bG bJ t227 _ A19.out).mono ?_); rintro e w21 ⟨v228, rfl, ho0, hb⟩; refine ⟨_, rfl, ?_⟩; have jy := ah.mk (Kd.jC ho0 (bS zz5)); replace ak := ah.mk (aG (g := au) (o := .cells #[.string aU, .string aT, .int .i64 aV, .int .i64 bH, .int .i64 bG, .int .i64 bJ] 30 (0, 0)) zz4 hb); replace HB := ah.mk (av zz5 hb); (try clear hb); (try clear hb2); (try clear hk); (try clear hi); (try clear ho0)))
    go_loopg [6, 26] kj2 (fun kq v6 v26 w' => ∃ (JD : List Int) (iX : Int), v26 = .int .i64 iX ∧ ah (bF.l0 kq JD l1 (l1.length : Int) iX aU aT aV bH bG bJ = some (r1, r2)) ∧ ah (kq ≤ kj2) ∧ ah (Kd.R (Kd.int .i64) 2 w' w.heap.size (fun _ => True) v6 JD) ∧ ah (w'.heap[au]? = some (.cells #[.string aU, .string aT, .int .i64 aV, .int .i64 bH, .int .i64 bG, .int .i64 bJ] 30 (0, 0))) ∧ ah (Below w.heap.size w w'))
    case atStart => exact ⟨(t227), (0), zz2, H', ⟨Nat.le_refl _⟩, ⟨IG⟩, ⟨zz4⟩, ⟨zz5⟩⟩
    case round =>
     clear H'; (try clear c1); (try clear c2); (try clear p2); (try clear c5); (try clear c6); (try clear c7); (try clear qp); (try clear c18); (try clear oZ); (try clear oW); (try clear ql); (try clear F3); (try clear FZ); (try clear FY); (try clear ow); (try clear ou); (try clear oq); (try clear vC); (try clear vB); (try clear vw); (try clear xu); (try clear xq); (try clear xk); (try clear TL); (try clear TK); (try clear TJ); (try clear Dk); (try clear Dj); (try clear Di); (try clear TF); (try clear TD); (try clear TB); (try clear qj); (try clear qh); (try clear tO); (try clear K6); (try clear K5); (try clear K4); (try clear KO); (try clear KN); (try clear PO); (try clear V4); (try clear V3); (try clear VZ); (try clear oP); (try clear oO); (try clear qg); (try clear FM); (try clear FL); (try clear FJ); (try clear oo); (try clear om); (try clear oh); (try clear vv); (try clear vo); (try clear vk); (try clear wX); (try clear wW); (try clear wV); (try clear SX); (try clear SV); (try clear SS); (try clear CS); (try clear CQ); (try clear CP); (try clear SK); (try clear SI); (try clear SH); (try clear qZ); (try clear qd); (try clear tJ); (try clear KM); (try clear KL); (try clear KJ); (try clear Ku); (try clear Kt); (try clear PL); (try clear VP); (try clear VO); (try clear VN); (try clear p2); obtain ⟨JD, iX, rfl, HA, HK2, Ak, ak, HB⟩ := hrel
     cases gk with
     | zero => exact absurd HA.out (by simp [bF.l0])
     | succ k2 =>
      have H := HA.out; clear HA; simp only [bF.l0] at H
      by_cases c22 : iX < (l1.length : Int)
      ·rw [if_pos c22] at H; have H6 : decide (iX < (l1.length : Int)) = true := decide_eq_true c22; clear c22
       by_cases c23 : 0 ≤ iX
       ·rw [if_pos c23] at H; have c23b0 : decide (0 ≤ iX) = true := decide_eq_true c23; clear c23
        by_cases c24 : iX < (l1.length : Int)
        ·rw [if_pos c24] at H; have c24b0 : decide (iX < (l1.length : Int)) = true := decide_eq_true c24; clear c24
         by_cases c25 : aV < (((aD l1 iX).f0).length : Int)
         ·rw [if_pos c25] at H; have c25b0 : decide (aV < (((aD l1 iX).f0).length : Int)) = true := decide_eq_true c25; clear c25
          by_cases c26 : 0 ≤ aV
          ·rw [if_pos c26] at H; have c26b0 : decide (0 ≤ aV) = true := decide_eq_true c26; clear c26; replace H := Option.bind_eq_some_iff.mp H; obtain ⟨t233, A270, H⟩ := H; have A27 := ah.mk A270; clear A270; have H' := ah.mk H; clear H; have Po : 0 ≤ (iX : Int) := of_decide_eq_true zz9; have OW : iX < (l1.length : Int) := of_decide_eq_true zz9; obtain ⟨ad230, vO, uG, e230, Br, Bq, BX, Cm⟩ := fZ HR1.out iX Po OW
           cases e230
           replace Br := cB HB Br; replace Bq := cB HB Bq; have lq := ah.mk Cm; have qA := ah.mk BX; clear Cm BX; replace Po := eq_true Po; replace OW := eq_true OW
           try go_wp2_with (first | ((with_reducible refine bE (N := 8) rfl ?_); refine bC ?hg (N := 8) ?hd (cs := #[.slice none 0 0, .int .i64 0]) (t := 51) ?hr ?_; (case hd => rfl); (case hg => rfl); (case hr => first | (go_simp; done) | (go_simp; rfl)); intro lC hg w28 bK hb; replace Ak := ah.mk (Kd.gP zz49 hb); have nR := ah.mk (bK); have GW103 := ah.mk ((jZ : w.heap.size ≤ lC)); have Xv := ah.mk ((jZ : w.heap.size ≤ lC)); replace HB := ah.mk (av zz5 hb); have qR := ah.mk ((DJ : au ≠ lC)); have Em := ah.mk ((DI : lC ≠ au)); replace ak := ah.mk (aG (g := au) (o := .cells #[.string aU, .string aT, .int .i64 aV, .int .i64 bH, .int .i64 bG, .int .i64 bJ] 30 (0, 0)) zz4 hb); clear hb bK hg; have hnb29 := Em.out; have hnc29 := qR.out; have hcz30_0 : w28.cell? ⟨lC, 0, none⟩ = some (.slice none 0 0) := cK nR 0; have hcz30_1 : w28.cell? ⟨lC, 1, none⟩ = some (.int .i64 0) := cK nR 1; have hfz30_0 := aj nR.out 0; have hfz30_1 := aj nR.out 1; have KX : w28.cell? ⟨au, 0, none⟩ = some (.string aU) := cK ak 0; have KW : w28.cell? ⟨au, 1, none⟩ = some (.string aT) := cK ak 1; have KV : w28.cell? ⟨au, 2, none⟩ = some (.int .i64 aV) := cK ak 2; have KU : w28.cell? ⟨au, 3, none⟩ = some (.int .i64 bH) := cK ak 3; have KT : w28.cell? ⟨au, 4, none⟩ = some (.int .i64 bG) := cK ak 4; have KS : w28.cell? ⟨au, 5, none⟩ = some (.int .i64 bJ) := cK ak 5; have KF := aj ak.out 0; have KE := aj ak.out 1; have KD := aj ak.out 2; have KC := aj ak.out 3; have KA := aj ak.out 4; have Kz := aj ak.out 5))
           have n0_ : ah (Kd.R (Kd.int .i64) 2 ((w28.setCell ⟨lC, 0, none⟩ (.slice vO ((aD l1 iX).f0).length uG)).setCell ⟨lC, 1, none⟩ (.int .i64 ((aD l1 iX).f1))) w.heap.size (fun _ => True) u6 JD) := ⟨by (with_reducible repeat (first | apply Kd.gu | apply Kd.fV | apply Kd.gY)); exact Kd.eO (Kd.lZ (p := ⟨lC, 1, none⟩) (Kd.lZ (p := ⟨lC, 0, none⟩) (Kd.mO Ak.out nR.out (by decide)) (fun _ hk => hk.2) (.slice vO ((aD l1 iX).f0).length uG)) (fun _ hk => hk.2) (.int .i64 ((aD l1 iX).f1))) (fun _ hk => trivial)⟩; have n1_ : ah (((w28.setCell ⟨lC, 0, none⟩ (.slice vO ((aD l1 iX).f0).length uG)).setCell ⟨lC, 1, none⟩ (.int .i64 ((aD l1 iX).f1))).heap[au]? = some (.cells #[.string aU, .string aT, .int .i64 aV, .int .i64 bH, .int .i64 bG, .int .i64 bJ] 30 (0, 0))) := ⟨by (with_reducible repeat (first | refine aM ?_ _ | refine aJ ?_ | refine aI ?_ _)); refine iL ?_ qR.out _; (with_reducible repeat (first | refine aM ?_ _ | refine aJ ?_ | refine aI ?_ _)); refine iL ?_ qR.out _; (with_reducible repeat (first | refine aM ?_ _ | refine aJ ?_ | refine aI ?_ _)); exact ak.out⟩; have n2_ : ah (((w28.setCell ⟨lC, 0, none⟩ (.slice vO ((aD l1 iX).f0).length uG)).setCell ⟨lC, 1, none⟩ (.int .i64 ((aD l1 iX).f1))).heap[lC]? = some (.cells #[.slice vO ((aD l1 iX).f0).length uG, .int .i64 ((aD l1 iX).f1)] 51 (0, 0))) := ⟨by (with_reducible repeat (first | refine aM ?_ _ | refine aJ ?_ | refine aI ?_ _)); refine bZ (cs := #[.slice vO ((aD l1 iX).f0).length uG, .int .i64 0]) ?_ 1 _ rfl; (with_reducible repeat (first | refine aM ?_ _ | refine aJ ?_ | refine aI ?_ _)); refine bZ (cs := #[.slice none 0 0, .int .i64 0]) ?_ 0 _ rfl; (with_reducible repeat (first | refine aM ?_ _ | refine aJ ?_ | refine aI ?_ _)); exact nR.out⟩; have n3_ : ah (Below w.heap.size w ((w28.setCell ⟨lC, 0, none⟩ (.slice vO ((aD l1 iX).f0).length uG)).setCell ⟨lC, 1, none⟩ (.int .i64 ((aD l1 iX).f1)))) := ⟨zz50⟩; (try clear Ak); (try clear ak); (try clear nR); (try clear HB); generalize ((w28.setCell ⟨lC, 0, none⟩ (.slice vO ((aD l1 iX).f0).length uG)).setCell ⟨lC, 1, none⟩ (.int .i64 ((aD l1 iX).f1))) = w32 at n0_ n1_ n2_ n3_ ⊢; have Ak := n0_; have ak := n1_; have nR := n2_; have HB := n3_; clear n0_ n1_ n2_ n3_; replace Ak := ah.mk (Kd.gY Ak.out); replace ak := ah.mk (aJ ak.out); replace nR := ah.mk (aJ nR.out); replace HB := ah.mk (bL HB.out); have p232 : 0 ≤ (aV : Int) := of_decide_eq_true zz9; have q232 : aV < (((aD l1 iX).f0).length : Int) := of_decide_eq_true zz9; obtain ⟨Jq, e232, Fg, Fe, Fb⟩ := ni lq.out aV p232 q232; have RB := Fb; have RD := Fe; have RF := Fg
           cases e232
           replace Fg := cB HB Fg; replace Fe := cB HB Fe; replace Fb := cB HB Fb; replace p232 := eq_true p232; replace q232 := eq_true q232; obtain ⟨Ao34, co34, eo34⟩ := Kd.fH Ak.out; (first | subst eo34 | (injection eo34 with f1_ f2_ f3_; have f4_ := f1_.symm; have f5_ := f3_.symm; clear f1_ f2_ f3_; subst f4_; subst f5_)); refine jB (n := 12) (S := fun w' => w'.cell? ⟨au, 0, none⟩ = some (.string aU) ∧ w'.cell? ⟨au, 1, none⟩ = some (.string aT) ∧ w'.cell? ⟨au, 2, none⟩ = some (.int .i64 aV) ∧ w'.cell? ⟨au, 3, none⟩ = some (.int .i64 bH) ∧ w'.cell? ⟨au, 4, none⟩ = some (.int .i64 bG) ∧ w'.cell? ⟨au, 5, none⟩ = some (.int .i64 bJ) ∧ w'.cell? ⟨lC, 0, none⟩ = some (.slice (some Jq) ((aD l1 iX).f0).length uG) ∧ w'.cell? ⟨lC, 1, none⟩ = some (.int .i64 ((aD l1 iX).f1)) ∧ w'.cell? (Jq.add ((aV).toNat * 3)) = some (.int .i64 ((aZ ((aD l1 iX).f0) aV).f0)) ∧ w'.cell? ⟨(Jq.add ((aV).toNat * 3)).block, (Jq.add ((aV).toNat * 3)).off + 1, none⟩ = some (.int .i64 ((aZ ((aD l1 iX).f0) aV).f1)) ∧ w'.cell? ⟨(Jq.add ((aV).toNat * 3)).block, (Jq.add ((aV).toNat * 3)).off + 2, none⟩ = some (.string ((aZ ((aD l1 iX).f0) aV).f2))) (ds := []) (.replicate 12 false) (by kernel_rfl) rfl rfl ⟨cK ak 0, cK ak 1, cK ak 2, cK ak 3, cK ak 4, cK ak 5, cK nR 0, cK nR 1, (cB HB RF), (cB HB RD), (cB HB RB)⟩ (fun hHeld => ?_); refine iG bF.tab8 bF.bits8 (fun HT_ HW_ => ?_); generalize w32.drew = w33 at Ak ak nR HB Fg Fe Fb hHeld ⊢; refine pV 1 37 (bA 12 2) HT_ ?_; refine pV 2 38 (bA 12 6) HT_ ?_; refine pV 4 40 (bA 12 22) HT_ ?_; refine pV 8 44 (bA 12 278) HT_ ?_; refine tV (v := ?_) 0 36 (bA 12 279) HT_ HW_ hHeld ?_ ?_; rotate_left
           ·rintro w' ⟨s0, s1, s2, s3, s4, s5, s6, s7, s8, s9, s10⟩
            go_simp
            (with_reducible rfl)
           refine tV (v := ?_) 3 39 (bA 12 287) HT_ HW_ hHeld ?_ ?_; rotate_left
           ·rintro w' ⟨s0, s1, s2, s3, s4, s5, s6, s7, s8, s9, s10⟩
            go_simp
            (with_reducible rfl)
           refine tV (v := ?_) 5 41 (bA 12 319) HT_ HW_ hHeld ?_ ?_; rotate_left
           ·rintro w' ⟨s0, s1, s2, s3, s4, s5, s6, s7, s8, s9, s10⟩
            go_simp
            (with_reducible rfl)
           refine pV 6 42 (bA 12 383) HT_ ?_; refine tV (v := ?_) 7 43 (bA 12 511) HT_ HW_ hHeld ?_ ?_; rotate_left
           ·rintro w' ⟨s0, s1, s2, s3, s4, s5, s6, s7, s8, s9, s10⟩
            go_simp
            (with_reducible rfl)
           refine tV (v := ?_) 9 45 (bA 12 1023) HT_ HW_ hHeld ?_ ?_; rotate_left
           ·rintro w' ⟨s0, s1, s2, s3, s4, s5, s6, s7, s8, s9, s10⟩
            go_simp
            (with_reducible rfl)
           refine oN 10 46 (bA 12 2047) HT_ (fun K hK => ?_); refine iy Try.func64 (by kernel_rfl) rfl #[.agg #[.string aU, .string aT, .int .i64 aV, .int .i64 bH, .int .i64 bG, .int .i64 bJ], .slice Ao34 JD.length co34, .agg #[.int .i64 ((aZ ((aD l1 iX).f0) aV).f0), .int .i64 ((aZ ((aD l1 iX).f0) aV).f1), .string ((aZ ((aD l1 iX).f0) aV).f2)], .int .i64 ((aD l1 iX).f1)] (by rfl) rfl rfl zz8 ?_; (with_reducible refine (bP.calls k2 aU aT aV bH bG bJ (fun k_ => some k_ = (.slice Ao34 JD.length co34 : Value).ownBlock) (.slice Ao34 JD.length co34) JD ((aZ ((aD l1 iX).f0) aV).f0) ((aZ ((aD l1 iX).f0) aV).f1) ((aZ ((aD l1 iX).f0) aV).f2) ((aD l1 iX).f1) t233 w _ ?bO ?bR A27.out).mono ?_); (case bO => repeat (first | (with_reducible first | exact HB.out | apply dB | apply cO | apply bL | refine cu ?_ fF.out | refine cu ?_ Xv.out) | exact HB.out)); (case bR => exact Kd.o7 rfl Ak.out); rintro e w35 ⟨v234, rfl, ho0, hb, hkp⟩; refine ⟨_, rfl, ?_⟩; replace ak := ah.mk (yI zz4 hkp (fun hs_ => (fun e_ => (Kd.qP Ak.out ak.out (by decide)) e_) hs_)); replace nR := ah.mk (yI (by (with_reducible repeat (first | refine aM ?_ _ | refine aJ ?_ | refine aI ?_ _)); exact nR.out) hkp (fun hs_ => (fun e_ => (Kd.qP Ak.out nR.out (by decide)) e_) hs_)); have kM := ah.mk (Kd.eO (ok' := fun k_ => True) ho0 (fun k_ hk_ => trivial)); replace HB := ah.mk (hb); clear Ak; (try clear hb); (try clear hkp); (try clear ho0); refine hK.out _ _ ⟨cK ak 0, cK ak 1, cK ak 2, cK ak 3, cK ak 4, cK ak 5, cK nR 0, cK nR 1, (cB HB RF), (cB HB RD), (cB HB RB)⟩ (fun hHeld => ?_); clear hK K; refine iI (a' := ?_) ?_ ?_; rotate_left
           ·show Act.put _ (some 46) _ = _
            simp only [Act.put, List.setIfInBounds_toArray, List.set_cons_zero, List.set_cons_succ, dS, eP]
            rfl
           refine pV 11 6 (bA 12 4095) HT_ ?_; refine kX (j6 HT_.out (by kernel_rfl)) ?_
           try go_wp2
           go_roundg k2
           case measure => have := HJ2.out; have := HK2.out; omega
           case rel => exact ⟨(t233), (wrap64 (iX + 1)), zz2, H', ⟨by have := HJ2.out; have := HK2.out; omega⟩, ⟨Uu⟩, ⟨zz4⟩, ⟨zz50⟩⟩
          ·rw [if_neg c26] at H; exact absurd H (by simp)
         ·rw [if_neg c25] at H; have c25b0 : decide (aV < (((aD l1 iX).f0).length : Int)) = false := decide_eq_false c25; clear c25; have H' := ah.mk H; clear H; have Po : 0 ≤ (iX : Int) := of_decide_eq_true zz9; have OW : iX < (l1.length : Int) := of_decide_eq_true zz9; obtain ⟨ad230, vO, uG, e230, Br, Bq, BX, Cm⟩ := fZ HR1.out iX Po OW
          cases e230
          replace Br := cB HB Br; replace Bq := cB HB Bq; have lq := ah.mk Cm; have qA := ah.mk BX; clear Cm BX; replace Po := eq_true Po; replace OW := eq_true OW
          go_wp2_with (first | ((with_reducible refine bE (N := 8) rfl ?_); refine bC ?hg (N := 8) ?hd (cs := #[.slice none 0 0, .int .i64 0]) (t := 51) ?hr ?_; (case hd => rfl); (case hg => rfl); (case hr => first | (go_simp; done) | (go_simp; rfl)); intro lC hg w36 bK hb; replace Ak := ah.mk (Kd.gP zz49 hb); have nR := ah.mk (bK); have GW103 := ah.mk ((jZ : w.heap.size ≤ lC)); have Xv := ah.mk ((jZ : w.heap.size ≤ lC)); replace HB := ah.mk (av zz5 hb); have qR := ah.mk ((DJ : au ≠ lC)); have Em := ah.mk ((DI : lC ≠ au)); replace ak := ah.mk (aG (g := au) (o := .cells #[.string aU, .string aT, .int .i64 aV, .int .i64 bH, .int .i64 bG, .int .i64 bJ] 30 (0, 0)) zz4 hb); clear hb bK hg; have hnb37 := Em.out; have hnc37 := qR.out; have hcz38_0 : w36.cell? ⟨lC, 0, none⟩ = some (.slice none 0 0) := cK nR 0; have hcz38_1 : w36.cell? ⟨lC, 1, none⟩ = some (.int .i64 0) := cK nR 1; have hfz38_0 := aj nR.out 0; have hfz38_1 := aj nR.out 1; have ZU : w36.cell? ⟨au, 0, none⟩ = some (.string aU) := cK ak 0; have ZT : w36.cell? ⟨au, 1, none⟩ = some (.string aT) := cK ak 1; have ZR : w36.cell? ⟨au, 2, none⟩ = some (.int .i64 aV) := cK ak 2; have ZQ : w36.cell? ⟨au, 3, none⟩ = some (.int .i64 bH) := cK ak 3; have ZP : w36.cell? ⟨au, 4, none⟩ = some (.int .i64 bG) := cK ak 4; have ZO : w36.cell? ⟨au, 5, none⟩ = some (.int .i64 bJ) := cK ak 5; have Ze := aj ak.out 0; have Zd := aj ak.out 1; have Zc := aj ak.out 2; have Zb := aj ak.out 3; have Za := aj ak.out 4; have Y9 := aj ak.out 5))
          go_roundg k2
          case measure => have := HJ2.out; have := HK2.out; omega
          case rel => exact ⟨(JD), (wrap64 (iX + 1)), zz2, H', ⟨by have := HJ2.out; have := HK2.out; omega⟩, ⟨by (with_reducible repeat (first | apply Kd.gu | apply Kd.fV | apply Kd.gY)); exact Kd.eO (Kd.lZ (p := ⟨lC, 1, none⟩) (Kd.lZ (p := ⟨lC, 0, none⟩) (Kd.mO Ak.out nR.out (by decide)) (fun _ hk => hk.2) (.slice vO ((aD l1 iX).f0).length uG)) (fun _ hk => hk.2) (.int .i64 ((aD l1 iX).f1))) (fun _ hk => trivial)⟩, ⟨by (with_reducible repeat (first | refine aM ?_ _ | refine aJ ?_ | refine aI ?_ _)); refine iL ?_ qR.out _; (with_reducible repeat (first | refine aM ?_ _ | refine aJ ?_ | refine aI ?_ _)); refine iL ?_ qR.out _; (with_reducible repeat (first | refine aM ?_ _ | refine aJ ?_ | refine aI ?_ _)); exact ak.out⟩, ⟨zz50⟩⟩
        ·rw [if_neg c24] at H; exact absurd H (by simp)
       ·rw [if_neg c23] at H; exact absurd H (by simp)
      ·rw [if_neg c22] at H; have H6 : decide (iX < (l1.length : Int)) = false := decide_eq_false c22; clear c22; simp only [Option.some.injEq, Prod.mk.injEq] at H; obtain ⟨rfl, rfl⟩ := H
       go_wp2
       go_ret2
       exact ⟨_, zz6, zz49, zz5⟩
def bf.bad (lim n : Int) : Bool := decide (n < 0) || decide (lim < n)
def bf.Gx (l : List Int) (j : Nat) : Bool := decide (0 ≤ l.getD j 0) && decide (l.getD j 0 < 4611686018427387904) && (decide (j = 0) || decide (l.getD (j - 1) 0 < l.getD j 0))
def bf.f (k : Nat) (aU : ByteArray) (aT : ByteArray) (aV : Int) (bH : Int) (bG : Int) (bJ : Int) (l1 : List Int) : Option Bool :=
 (bg.f k aU aT aV bH bG bJ).bind fun b => if b = true then (if bH = 2 then some ((List.range l1.length).all (bf.Gx l1) && decide ((l1.length : Int) ≤ bG)) else some (decide ((l1.length : Int) = wrap64 (bG * bJ)) && !(l1.any (bf.bad (if bH = 1 then 1 else 1073741824))))) else some false
theorem bf.mono : ∀ a0 a1 a2 a3 a4 a5 a6 k, LeO (bf.f k a0 a1 a2 a3 a4 a5 a6) (bf.f (k + 1) a0 a1 a2 a3 a4 a5 a6) := by
 intro a0 a1 a2 a3 a4 a5 a6 k; unfold bf.f; exact LeO.bind (bg.mono _ _ _ _ _ _ _) (fun _ => LeO.refl _)
theorem bf.clo (n lim : Int) (g : Nat) (w : World) (hc : w.cell? ⟨g, 0, none⟩ = some (.int .i64 lim)) :
  Calls Try.prog 57 #[.int .i64 n, .pointer (some ⟨g, 0, none⟩)] w fun e w' => e = .returned (.bool (bf.bad lim n)) ∧ w' = w := by
 by_cases h1 : n < 0
 ·go_enter Try.func57, Try.ntmps57
  go_wp2
  go_ret
  exact ⟨by simp [bf.bad, h1], rfl⟩
 ·by_cases h2 : lim < n
  ·go_enter Try.func57, Try.ntmps57
   go_wp2
   go_ret
   exact ⟨by simp [bf.bad, h1, h2], rfl⟩
  ·go_enter Try.func57, Try.ntmps57
   go_wp2
   go_ret
   exact ⟨by simp [bf.bad, h1, h2], rfl⟩
def bf.found (l : List Int) (lim : Int) (e : Ending) : Prop := ∃ r : Int, e = .returned (.int .i64 r) ∧ decide (0 ≤ r) = l.any (bf.bad lim)
theorem bf.WX (l : List Int) (p : Int → Bool) (j : Nat) (hj : j < l.length) : (l.take (j + 1)).any p = ((l.take j).any p || p (l.getD j 0)) := by
 rw [List.take_add_one, List.getElem?_eq_getElem hj, List.getD_eq_getElem?_getD, List.getElem?_eq_getElem hj, List.any_append]; simp only [Option.toList, List.any_cons, List.any_nil, Bool.or_false, Option.getD_some]
theorem bf.NS (l : List Int) (p : Int → Bool) (j : Nat) (hj : j < l.length) (h : p (l.getD j 0) = true) : l.any p = true := by
 rw [List.any_eq_true]; refine ⟨l.getD j 0, ?_, h⟩; rw [List.getD_eq_getElem?_getD, List.getElem?_eq_getElem hj]; exact List.getElem_mem hj
set_option maxHeartbeats 1000000 in
theorem bf.idx (l : List Int) (lim : Int) (A : Option Addr) (c g : Nat) (w : World) (hr : Kd.C (Kd.int .i64) w A l.length l) (hc : w.cell? ⟨g, 0, none⟩ = some (.int .i64 lim)) :
  Calls Try.prog 91 #[.slice A l.length c, .func (.func 57) #[] #[.pointer (some ⟨g, 0, none⟩)]] w fun e w' => bf.found l lim e ∧ w' = w := by
 have HR := ah.mk hr; have hm : l.length ≤ 9223372036854775807 := (Kd.uw (d := (0 : Int)) hr).2.1; clear hr
 go_enter Try.func91, Try.ntmps91
 go_wp2
 go_loop [8] (fun v => ∃ j : Nat, j ≤ l.length ∧ v = .int .i64 j ∧ ah ((l.take j).any (bf.bad lim) = false)) (fun v => l.length - (intOf v).toNat)
 case atStart => exact ⟨0, Nat.zero_le _, rfl, ⟨by simp⟩⟩
 case round =>
  obtain ⟨j, hj, rfl, HT⟩ := hrel
  by_cases hlt : j < l.length
  ·obtain ⟨ad, rfl, hx⟩ := Kd.jq HR.out (j : Int) (by omega) (by omega); have hx' : w.cell? (ad.add j) = some (.int .i64 (rd l j)) := by simpa using hx
   clear hx
   by_cases hb : bf.bad lim (rd l j) = true
   ·go_wp2_with (go_at_call 57; refine (bf.clo _ lim g _ hc).mono ?_; rintro e w' ⟨rfl, rfl⟩)
    go_ret
    exact ⟨⟨_, rfl, by rw [bf.NS l _ j hlt (by simpa [rd] using hb)]; simp⟩, rfl⟩
   ·go_wp2_with (go_at_call 57; refine (bf.clo _ lim g _ hc).mono ?_; rintro e w' ⟨rfl, rfl⟩)
    go_round
    case rel => exact ⟨j + 1, by omega, by go_num, ⟨by rw [bf.WX l _ j hlt, HT.out]; simpa [rd] using hb⟩⟩
    case measure => simp [intOf]; omega
  ·have hje : j = l.length := by omega
   subst hje; have hd : decide ((l.length : Int) < (l.length : Int)) = false := by simp
   go_wp2
   go_ret
   exact ⟨⟨_, rfl, by have := HT.out; rw [List.take_length] at this; rw [this]; rfl⟩, rfl⟩
theorem bf.cont (l : List Int) (lim : Int) (A : Option Addr) (c g : Nat) (w : World) (hr : Kd.C (Kd.int .i64) w A l.length l) (hc : w.cell? ⟨g, 0, none⟩ = some (.int .i64 lim)) :
  Calls Try.prog 56 #[.slice A l.length c, .func (.func 57) #[] #[.pointer (some ⟨g, 0, none⟩)]] w fun e w' => e = .returned (.bool (l.any (bf.bad lim))) ∧ w' = w := by
 go_enter Try.func56, Try.ntmps56
 go_wp2_with (go_at_call 91; refine (bf.idx l lim A c g _ hr hc).mono ?_; rintro e w' ⟨⟨r, rfl, hd⟩, rfl⟩; have HD := ah.mk hd; clear hd)
 go_ret
 exact ⟨by rw [← HD.out]; rfl, rfl⟩
theorem bf.all_succ (p : Nat → Bool) (j : Nat) : (List.range (j + 1)).all p = ((List.range j).all p && p j) := by
 rw [List.range_succ, List.all_append]; simp
theorem bf.aaq (p : Nat → Bool) (n j : Nat) (hj : j < n) (h : p j = false) : (List.range n).all p = false := by
 rw [List.all_eq_false]; exact ⟨j, List.mem_range.2 hj, by simp [h]⟩
theorem bf.Yp (l : List Int) (j : Nat) (h0 : 0 < j) (h : l.getD j 0 ≤ l.getD (j - 1) 0) : bf.Gx l j = false := by
 unfold bf.Gx; rw [decide_eq_false (by omega : ¬ l.getD (j - 1) 0 < l.getD j 0), decide_eq_false (by omega : ¬ j = 0), Bool.or_false, Bool.and_false]
set_option maxHeartbeats 4000000 in
set_option maxRecDepth 100000 in
theorem bf.calls (k : Nat) (aU : ByteArray) (aT : ByteArray) (aV : Int) (bH : Int) (bG : Int) (bJ : Int) (A1 : Option Addr) (c1 : Nat) (l1 : List Int) (r : Bool) (w : World) (hr1 : Kd.C (Kd.int .i64) w A1 l1.length l1) (hc1 : l1.length ≤ c1) (h : bf.f k aU aT aV bH bG bJ l1 = some r) :
  Calls Try.prog 23 #[.agg #[.string aU, .string aT, .int .i64 aV, .int .i64 bH, .int .i64 bG, .int .i64 bJ], .slice A1 l1.length c1] w fun e w' => e = .returned (.bool r) ∧ Below w.heap.size w w' := by
 have hu := Try.underlying30; obtain ⟨b, hwf, h⟩ := Option.bind_eq_some_iff.1 h; have HW := ah.mk hwf; have HR := ah.mk hr1; have hm : l1.length ≤ 9223372036854775807 := (Kd.uw (d := (0 : Int)) hr1).2.1; clear hwf hr1 hc1
 cases b with
 | false =>
  simp only [Bool.false_eq_true, if_false, Option.some.injEq] at h; subst h
  go_enter Try.func23, Try.ntmps23
  go_wp2_with (go_at_call 55; (with_reducible refine (bg.calls k aU aT aV bH bG bJ false _ HW.out).mono ?_); rintro e w1 ⟨rfl, hb⟩; have HB := ah.mk hb; clear hb)
  go_ret
  exact ⟨rfl, (dB (Below.refl _ _) _).trans (HB.out.mono (by simp))⟩
 | true =>
  simp only [if_true] at h
  by_cases h2 : bH = 2
  ·subst h2; simp only [if_true, Option.some.injEq] at h
   go_enter Try.func23, Try.ntmps23
   go_wp2_with (go_at_call 55; (with_reducible refine (bg.calls k aU aT aV 2 bG bJ true _ HW.out).mono ?_); rintro e w1 ⟨rfl, hb⟩; obtain ⟨hcell, hfroz⟩ := U1 hb; have HB := ah.mk hb; clear hb)
   go_loop [16] (fun v => ∃ j : Nat, j ≤ l1.length ∧ v = .int .i64 j ∧ ah ((List.range j).all (bf.Gx l1) = true)) (fun v => l1.length - (intOf v).toNat)
   case atStart => exact ⟨0, Nat.zero_le _, rfl, ⟨by simp⟩⟩
   case round =>
    obtain ⟨j, hj, rfl, HT⟩ := hrel; have HB1 := ah.mk (av (dB (Below.refl w.heap.size w) _) HB.out); clear HB
    by_cases hlt : j < l1.length
    ·obtain ⟨ad, rfl, hx⟩ := Kd.jq (Kd.eZ HR.out HB1.out) (j : Int) (by omega) (by omega); have hx' : w1.cell? (ad.add j) = some (.int .i64 (rd l1 j)) := by simpa using hx
     clear hx; have hrd : rd l1 (j : Int) = l1.getD j 0 := by simp [rd]
     have hno : bf.Gx l1 j = false → r = false := fun hk => by rw [← h, bf.aaq _ _ j hlt hk]; rfl
     have HNO := ah.mk hno; have HD := ah.mk hrd; have H := ah.mk h; clear hno hrd h
     by_cases c1 : rd l1 j < 0
     ·go_wp2
      go_ret
      exact ⟨by rw [HNO.out (by unfold bf.Gx; rw [← HD.out]; simp; omega)]; rfl, HB1.out⟩
     ·by_cases c2 : 4611686018427387904 ≤ rd l1 j
      ·go_wp2
       go_ret
       exact ⟨by rw [HNO.out (by unfold bf.Gx; rw [← HD.out]; simp; omega)]; rfl, HB1.out⟩
      ·by_cases c3 : 0 < j
       ·obtain ⟨ad2, e2, hy⟩ := Kd.jq (Kd.eZ HR.out HB1.out) ((j : Int) - 1) (by omega) (by omega)
        cases e2
        have hy' : w1.cell? (ad.add (j - 1)) = some (.int .i64 (rd l1 ((j : Int) - 1))) := by rw [show j - 1 = ((j : Int) - 1).toNat from by omega]; exact hy
        clear hy; have hrd2 : rd l1 ((j : Int) - 1) = l1.getD (j - 1) 0 := by simp only [rd]; congr 1; omega
        have HD2 := ah.mk hrd2; clear hrd2; have p0 : 0 ≤ (j : Int) - 1 := by omega
        have p1 : (j : Int) - 1 < l1.length := by omega
        by_cases c4 : rd l1 j ≤ rd l1 ((j : Int) - 1)
        ·go_wp2
         go_ret
         exact ⟨by rw [HNO.out (by exact bf.Yp l1 j c3 (by rw [← HD.out, ← HD2.out]; exact c4))]; rfl, HB1.out⟩
        ·go_wp2
         go_round
         case rel => exact ⟨j + 1, by omega, by go_num, ⟨by rw [bf.all_succ, HT.out]; unfold bf.Gx; rw [← HD.out, ← HD2.out, decide_eq_true (by omega : 0 ≤ rd l1 (j : Int)), decide_eq_true (by omega : rd l1 (j : Int) < 4611686018427387904), decide_eq_true (by omega : rd l1 ((j : Int) - 1) < rd l1 (j : Int)), Bool.or_true]; rfl⟩⟩
         case measure => simp [intOf]; omega
       ·go_wp2
        go_round
        case rel => exact ⟨j + 1, by omega, by go_num, ⟨by rw [bf.all_succ, HT.out]; unfold bf.Gx; rw [← HD.out, decide_eq_true (by omega : 0 ≤ rd l1 (j : Int)), decide_eq_true (by omega : rd l1 (j : Int) < 4611686018427387904), decide_eq_true (by omega : j = 0), Bool.true_or]; rfl⟩⟩
        case measure => simp [intOf]; omega
    ·have hje : j = l1.length := by omega
     subst hje
     go_wp2
     go_ret
     exact ⟨by rw [← h, HT.out]; rfl, HB1.out⟩
  ·rw [if_neg h2] at h; injection h with h
   by_cases h1 : bH = 1
   ·subst h1; rw [if_pos rfl] at h; have H := ah.mk h; clear h
    by_cases hl : (l1.length : Int) = wrap64 (bG * bJ)
    ·have hl1 : ((l1.length : Int) == wrap64 (bG * bJ)) = true := by simpa using hl
     have HL := ah.mk hl; clear hl
     go_enter Try.func23, Try.ntmps23
     go_wp2_with (first
      | ((with_reducible refine bE (N := 2) rfl ?_); refine bC ?hg (N := 2) ?hd (cs := #[.string aU, .string aT, .int .i64 aV, .int .i64 1, .int .i64 bG, .int .i64 bJ]) (t := 30) ?hr ?_; (case hd => rfl); (case hg => rfl); (case hr => first | (go_simp; done) | (go_simp; rfl)); intro gb hg w1 bK hb; have BK := ah.mk bK; have HB := ah.mk hb; have GE : ah (w.heap.size ≤ gb) := ⟨zz52⟩; clear hb bK hg; have Qm : w1.cell? ⟨gb, 0, none⟩ = some (.string aU) := cK BK 0; have Qj : w1.cell? ⟨gb, 1, none⟩ = some (.string aT) := cK BK 1; have Qg : w1.cell? ⟨gb, 2, none⟩ = some (.int .i64 aV) := cK BK 2; have Qd : w1.cell? ⟨gb, 3, none⟩ = some (.int .i64 1) := cK BK 3; have Qa : w1.cell? ⟨gb, 4, none⟩ = some (.int .i64 bG) := cK BK 4; have P7 : w1.cell? ⟨gb, 5, none⟩ = some (.int .i64 bJ) := cK BK 5)
      | (go_at_call 55; (with_reducible refine (bg.calls k aU aT aV 1 bG bJ true _ HW.out).mono ?_); rintro e w2 ⟨rfl, hb⟩; have n0_ := ah.mk (aG (g := gb) BK.out hb); have n1_ := ah.mk (av HB.out hb); clear BK HB hb; have BK := n0_; have HB := n1_; clear n0_ n1_; have Ql : w2.cell? ⟨gb, 0, none⟩ = some (.string aU) := cK BK 0; have Qi : w2.cell? ⟨gb, 1, none⟩ = some (.string aT) := cK BK 1; have Qf : w2.cell? ⟨gb, 2, none⟩ = some (.int .i64 aV) := cK BK 2; have Qc : w2.cell? ⟨gb, 3, none⟩ = some (.int .i64 1) := cK BK 3; have P9 : w2.cell? ⟨gb, 4, none⟩ = some (.int .i64 bG) := cK BK 4; have P6 : w2.cell? ⟨gb, 5, none⟩ = some (.int .i64 bJ) := cK BK 5)
      | ((with_reducible refine bE (N := 7) rfl ?_); refine bC ?hg (N := 7) ?hd (cs := #[.int .i64 0]) (t := 2) ?hr ?_; (case hd => rfl); (case hg => rfl); (case hr => first | (go_simp; done) | (go_simp; rfl)); intro gl hg w3 bK hb; have BL := ah.mk bK; have n0_ := ah.mk (aG (g := gb) BK.out hb); have n1_ := ah.mk (av HB.out hb); have GL : ah (w.heap.size ≤ gl) := ⟨zz53⟩; have hne : gb ≠ gl := zz54; have hne2 : gl ≠ gb := hne.symm; clear BK HB hb bK hg; have BK := n0_; have HB := n1_; clear n0_ n1_; have Qk : w3.cell? ⟨gb, 0, none⟩ = some (.string aU) := cK BK 0; have Qh : w3.cell? ⟨gb, 1, none⟩ = some (.string aT) := cK BK 1; have Qe : w3.cell? ⟨gb, 2, none⟩ = some (.int .i64 aV) := cK BK 2; have Qb : w3.cell? ⟨gb, 3, none⟩ = some (.int .i64 1) := cK BK 3; have P8 : w3.cell? ⟨gb, 4, none⟩ = some (.int .i64 bG) := cK BK 4; have P5 : w3.cell? ⟨gb, 5, none⟩ = some (.int .i64 bJ) := cK BK 5; have PS : w3.cell? ⟨gl, 0, none⟩ = some (.int .i64 0) := cK BL 0; have PN := aj BL.out 0)
      | (go_at_call 56; refine (bf.cont l1 1 A1 c1 gl _ (Kd.eZ HR.out (cu (cu HB.out GL.out) GL.out)) (by go_simp)).mono ?_; rintro e w4 ⟨rfl, rfl⟩))
     go_ret
     exact ⟨by rw [← H.out, decide_eq_true HL.out]; rfl, cu (cu HB.out GL.out) GL.out⟩
    ·have hl1 : ((l1.length : Int) == wrap64 (bG * bJ)) = false := by simpa using hl
     have HL := ah.mk hl; clear hl
     go_enter Try.func23, Try.ntmps23
     go_wp2_with (first
      | ((with_reducible refine bE (N := 2) rfl ?_); refine bC ?hg (N := 2) ?hd (cs := #[.string aU, .string aT, .int .i64 aV, .int .i64 1, .int .i64 bG, .int .i64 bJ]) (t := 30) ?hr ?_; (case hd => rfl); (case hg => rfl); (case hr => first | (go_simp; done) | (go_simp; rfl)); intro gb hg w1 bK hb; have BK := ah.mk bK; have HB := ah.mk hb; have GE : ah (w.heap.size ≤ gb) := ⟨zz52⟩; clear hb bK hg; have Qm : w1.cell? ⟨gb, 0, none⟩ = some (.string aU) := cK BK 0; have Qj : w1.cell? ⟨gb, 1, none⟩ = some (.string aT) := cK BK 1; have Qg : w1.cell? ⟨gb, 2, none⟩ = some (.int .i64 aV) := cK BK 2; have Qd : w1.cell? ⟨gb, 3, none⟩ = some (.int .i64 1) := cK BK 3; have Qa : w1.cell? ⟨gb, 4, none⟩ = some (.int .i64 bG) := cK BK 4; have P7 : w1.cell? ⟨gb, 5, none⟩ = some (.int .i64 bJ) := cK BK 5)
      | (go_at_call 55; (with_reducible refine (bg.calls k aU aT aV 1 bG bJ true _ HW.out).mono ?_); rintro e w2 ⟨rfl, hb⟩; have n0_ := ah.mk (aG (g := gb) BK.out hb); have n1_ := ah.mk (av HB.out hb); clear BK HB hb; have BK := n0_; have HB := n1_; clear n0_ n1_; have Ql : w2.cell? ⟨gb, 0, none⟩ = some (.string aU) := cK BK 0; have Qi : w2.cell? ⟨gb, 1, none⟩ = some (.string aT) := cK BK 1; have Qf : w2.cell? ⟨gb, 2, none⟩ = some (.int .i64 aV) := cK BK 2; have Qc : w2.cell? ⟨gb, 3, none⟩ = some (.int .i64 1) := cK BK 3; have P9 : w2.cell? ⟨gb, 4, none⟩ = some (.int .i64 bG) := cK BK 4; have P6 : w2.cell? ⟨gb, 5, none⟩ = some (.int .i64 bJ) := cK BK 5)
      | ((with_reducible refine bE (N := 7) rfl ?_); refine bC ?hg (N := 7) ?hd (cs := #[.int .i64 0]) (t := 2) ?hr ?_; (case hd => rfl); (case hg => rfl); (case hr => first | (go_simp; done) | (go_simp; rfl)); intro gl hg w3 bK hb; have BL := ah.mk bK; have n0_ := ah.mk (aG (g := gb) BK.out hb); have n1_ := ah.mk (av HB.out hb); have GL : ah (w.heap.size ≤ gl) := ⟨zz53⟩; have hne : gb ≠ gl := zz54; have hne2 : gl ≠ gb := hne.symm; clear BK HB hb bK hg; have BK := n0_; have HB := n1_; clear n0_ n1_; have Qk : w3.cell? ⟨gb, 0, none⟩ = some (.string aU) := cK BK 0; have Qh : w3.cell? ⟨gb, 1, none⟩ = some (.string aT) := cK BK 1; have Qe : w3.cell? ⟨gb, 2, none⟩ = some (.int .i64 aV) := cK BK 2; have Qb : w3.cell? ⟨gb, 3, none⟩ = some (.int .i64 1) := cK BK 3; have P8 : w3.cell? ⟨gb, 4, none⟩ = some (.int .i64 bG) := cK BK 4; have P5 : w3.cell? ⟨gb, 5, none⟩ = some (.int .i64 bJ) := cK BK 5; have PS : w3.cell? ⟨gl, 0, none⟩ = some (.int .i64 0) := cK BL 0; have PN := aj BL.out 0))
     go_ret
     exact ⟨by rw [← H.out, decide_eq_false HL.out]; rfl, cu (cu HB.out GL.out) GL.out⟩
   ·rw [if_neg h1] at h; have hk1 : (bH == 1) = false := by simpa using h1
    have hk2 : (bH == 2) = false := by simpa using h2
    have H := ah.mk h; clear h h1 h2
    by_cases hl : (l1.length : Int) = wrap64 (bG * bJ)
    ·have hl1 : ((l1.length : Int) == wrap64 (bG * bJ)) = true := by simpa using hl
     have HL := ah.mk hl; clear hl
     go_enter Try.func23, Try.ntmps23
     go_wp2_with (first
      | ((with_reducible refine bE (N := 2) rfl ?_); refine bC ?hg (N := 2) ?hd (cs := #[.string aU, .string aT, .int .i64 aV, .int .i64 bH, .int .i64 bG, .int .i64 bJ]) (t := 30) ?hr ?_; (case hd => rfl); (case hg => rfl); (case hr => first | (go_simp; done) | (go_simp; rfl)); intro gb hg w1 bK hb; have BK := ah.mk bK; have HB := ah.mk hb; have GE : ah (w.heap.size ≤ gb) := ⟨zz52⟩; clear hb bK hg; have Qm : w1.cell? ⟨gb, 0, none⟩ = some (.string aU) := cK BK 0; have Qj : w1.cell? ⟨gb, 1, none⟩ = some (.string aT) := cK BK 1; have Qg : w1.cell? ⟨gb, 2, none⟩ = some (.int .i64 aV) := cK BK 2; have Qd : w1.cell? ⟨gb, 3, none⟩ = some (.int .i64 bH) := cK BK 3; have Qa : w1.cell? ⟨gb, 4, none⟩ = some (.int .i64 bG) := cK BK 4; have P7 : w1.cell? ⟨gb, 5, none⟩ = some (.int .i64 bJ) := cK BK 5)
      | (go_at_call 55; (with_reducible refine (bg.calls k aU aT aV bH bG bJ true _ HW.out).mono ?_); rintro e w2 ⟨rfl, hb⟩; have n0_ := ah.mk (aG (g := gb) BK.out hb); have n1_ := ah.mk (av HB.out hb); clear BK HB hb; have BK := n0_; have HB := n1_; clear n0_ n1_; have Ql : w2.cell? ⟨gb, 0, none⟩ = some (.string aU) := cK BK 0; have Qi : w2.cell? ⟨gb, 1, none⟩ = some (.string aT) := cK BK 1; have Qf : w2.cell? ⟨gb, 2, none⟩ = some (.int .i64 aV) := cK BK 2; have Qc : w2.cell? ⟨gb, 3, none⟩ = some (.int .i64 bH) := cK BK 3; have P9 : w2.cell? ⟨gb, 4, none⟩ = some (.int .i64 bG) := cK BK 4; have P6 : w2.cell? ⟨gb, 5, none⟩ = some (.int .i64 bJ) := cK BK 5)
      | ((with_reducible refine bE (N := 7) rfl ?_); refine bC ?hg (N := 7) ?hd (cs := #[.int .i64 0]) (t := 2) ?hr ?_; (case hd => rfl); (case hg => rfl); (case hr => first | (go_simp; done) | (go_simp; rfl)); intro gl hg w3 bK hb; have BL := ah.mk bK; have n0_ := ah.mk (aG (g := gb) BK.out hb); have n1_ := ah.mk (av HB.out hb); have GL : ah (w.heap.size ≤ gl) := ⟨zz53⟩; have hne : gb ≠ gl := zz54; have hne2 : gl ≠ gb := hne.symm; clear BK HB hb bK hg; have BK := n0_; have HB := n1_; clear n0_ n1_; have Qk : w3.cell? ⟨gb, 0, none⟩ = some (.string aU) := cK BK 0; have Qh : w3.cell? ⟨gb, 1, none⟩ = some (.string aT) := cK BK 1; have Qe : w3.cell? ⟨gb, 2, none⟩ = some (.int .i64 aV) := cK BK 2; have Qb : w3.cell? ⟨gb, 3, none⟩ = some (.int .i64 bH) := cK BK 3; have P8 : w3.cell? ⟨gb, 4, none⟩ = some (.int .i64 bG) := cK BK 4; have P5 : w3.cell? ⟨gb, 5, none⟩ = some (.int .i64 bJ) := cK BK 5; have PS : w3.cell? ⟨gl, 0, none⟩ = some (.int .i64 0) := cK BL 0; have PN := aj BL.out 0)
      | (go_at_call 56; refine (bf.cont l1 1073741824 A1 c1 gl _ (Kd.eZ HR.out (cu HB.out GL.out)) (by go_simp)).mono ?_; rintro e w4 ⟨rfl, rfl⟩))
     go_ret
     exact ⟨by rw [← H.out, decide_eq_true HL.out]; rfl, cu HB.out GL.out⟩
    ·have hl1 : ((l1.length : Int) == wrap64 (bG * bJ)) = false := by simpa using hl
     have HL := ah.mk hl; clear hl
     go_enter Try.func23, Try.ntmps23
     go_wp2_with (first
      | ((with_reducible refine bE (N := 2) rfl ?_); refine bC ?hg (N := 2) ?hd (cs := #[.string aU, .string aT, .int .i64 aV, .int .i64 bH, .int .i64 bG, .int .i64 bJ]) (t := 30) ?hr ?_; (case hd => rfl); (case hg => rfl); (case hr => first | (go_simp; done) | (go_simp; rfl)); intro gb hg w1 bK hb; have BK := ah.mk bK; have HB := ah.mk hb; have GE : ah (w.heap.size ≤ gb) := ⟨zz52⟩; clear hb bK hg; have Qm : w1.cell? ⟨gb, 0, none⟩ = some (.string aU) := cK BK 0; have Qj : w1.cell? ⟨gb, 1, none⟩ = some (.string aT) := cK BK 1; have Qg : w1.cell? ⟨gb, 2, none⟩ = some (.int .i64 aV) := cK BK 2; have Qd : w1.cell? ⟨gb, 3, none⟩ = some (.int .i64 bH) := cK BK 3; have Qa : w1.cell? ⟨gb, 4, none⟩ = some (.int .i64 bG) := cK BK 4; have P7 : w1.cell? ⟨gb, 5, none⟩ = some (.int .i64 bJ) := cK BK 5)
      | (go_at_call 55; (with_reducible refine (bg.calls k aU aT aV bH bG bJ true _ HW.out).mono ?_); rintro e w2 ⟨rfl, hb⟩; have n0_ := ah.mk (aG (g := gb) BK.out hb); have n1_ := ah.mk (av HB.out hb); clear BK HB hb; have BK := n0_; have HB := n1_; clear n0_ n1_; have Ql : w2.cell? ⟨gb, 0, none⟩ = some (.string aU) := cK BK 0; have Qi : w2.cell? ⟨gb, 1, none⟩ = some (.string aT) := cK BK 1; have Qf : w2.cell? ⟨gb, 2, none⟩ = some (.int .i64 aV) := cK BK 2; have Qc : w2.cell? ⟨gb, 3, none⟩ = some (.int .i64 bH) := cK BK 3; have P9 : w2.cell? ⟨gb, 4, none⟩ = some (.int .i64 bG) := cK BK 4; have P6 : w2.cell? ⟨gb, 5, none⟩ = some (.int .i64 bJ) := cK BK 5)
      | ((with_reducible refine bE (N := 7) rfl ?_); refine bC ?hg (N := 7) ?hd (cs := #[.int .i64 0]) (t := 2) ?hr ?_; (case hd => rfl); (case hg => rfl); (case hr => first | (go_simp; done) | (go_simp; rfl)); intro gl hg w3 bK hb; have BL := ah.mk bK; have n0_ := ah.mk (aG (g := gb) BK.out hb); have n1_ := ah.mk (av HB.out hb); have GL : ah (w.heap.size ≤ gl) := ⟨zz53⟩; have hne : gb ≠ gl := zz54; have hne2 : gl ≠ gb := hne.symm; clear BK HB hb bK hg; have BK := n0_; have HB := n1_; clear n0_ n1_; have Qk : w3.cell? ⟨gb, 0, none⟩ = some (.string aU) := cK BK 0; have Qh : w3.cell? ⟨gb, 1, none⟩ = some (.string aT) := cK BK 1; have Qe : w3.cell? ⟨gb, 2, none⟩ = some (.int .i64 aV) := cK BK 2; have Qb : w3.cell? ⟨gb, 3, none⟩ = some (.int .i64 bH) := cK BK 3; have P8 : w3.cell? ⟨gb, 4, none⟩ = some (.int .i64 bG) := cK BK 4; have P5 : w3.cell? ⟨gb, 5, none⟩ = some (.int .i64 bJ) := cK BK 5; have PS : w3.cell? ⟨gl, 0, none⟩ = some (.int .i64 0) := cK BL 0; have PN := aj BL.out 0))
     go_ret
     exact ⟨by rw [← H.out, decide_eq_false HL.out]; rfl, cu HB.out GL.out⟩
def jg.f (k : Nat) (aU : ByteArray) (aT : ByteArray) (aV : Int) (bH : Int) (bG : Int) (bJ : Int) (l1 : List Int) (fJ : Int) (gD : Int) (gB : ByteArray) (a3 : Int) : Option (Bool) := (bf.f k aU aT aV bH bG bJ l1).bind fun t238 => (if t238 = true then ((jf.f fJ gD gB).bind fun t239 => (if t239 = true then (if a3 ≥ 0 then (some (decide (a3 ≤ 262144))) else (some false)) else (some false))) else (some false))
theorem jg.mono : ∀ a0 a1 a2 a3 a4 a5 a6 a7 a8 a9 a10 k, LeO (jg.f k a0 a1 a2 a3 a4 a5 a6 a7 a8 a9 a10) (jg.f (k + 1) a0 a1 a2 a3 a4 a5 a6 a7 a8 a9 a10) := by
 intro a0 a1 a2 a3 a4 a5 a6 a7 a8 a9 a10 k; unfold jg.f
 repeat' first
   | (with_reducible exact bf.mono _ _ _ _ _ _ _ _)
   | (with_reducible exact LeO.refl _)
   | (with_reducible exact LeO.none _)
   | (with_reducible refine LeO.ite ?_ ?_)
   | (with_reducible refine LeO.bind ?_ (fun _ => ?_))
   | exact bf.mono _ _ _ _ _ _ _ _
   | exact LeO.none _
   | refine LeO.ite ?_ ?_
   | refine LeO.bind ?_ (fun _ => ?_)
set_option maxHeartbeats 8000000 in
set_option maxRecDepth 100000 in
theorem jg.calls (k : Nat) (aU : ByteArray) (aT : ByteArray) (aV : Int) (bH : Int) (bG : Int) (bJ : Int) (A1 : Option Addr) (c1 : Nat) (l1 : List Int) (fJ : Int) (gD : Int) (gB : ByteArray) (a3 : Int) (r : Bool) (w : World) (hr1 : Kd.C (Kd.int .i64) w A1 l1.length l1) (hc1 : l1.length ≤ c1) (h : jg.f k aU aT aV bH bG bJ l1 fJ gD gB a3 = some r) :
  Calls Try.prog 65 #[.agg #[.string aU, .string aT, .int .i64 aV, .int .i64 bH, .int .i64 bG, .int .i64 bJ], .slice A1 l1.length c1, .agg #[.int .i64 fJ, .int .i64 gD, .string gB], .int .i64 a3] w fun e w' => e = .returned (.bool r) ∧ Below w.heap.size w w' := by
 have ES := Try.underlying30; have vI := Try.underlying23; have HR1 := ah.mk hr1; have HC1 := ah.mk hc1; clear hr1 hc1; have HB := ah.mk (Below.refl w.heap.size w); have H := h; clear h
 dsimp only [jg.f] at H
 replace H := Option.bind_eq_some_iff.mp H; obtain ⟨t238, A50, H⟩ := H; have A5 := ah.mk A50; clear A50
 by_cases c6 : t238 = true
 ·subst c6; rw [if_pos rfl] at H; replace H := Option.bind_eq_some_iff.mp H; obtain ⟨t239, A70, H⟩ := H; have A7 := ah.mk A70; clear A70
  by_cases c8 : t239 = true
  ·subst c8; rw [if_pos rfl] at H
   by_cases c9 : a3 ≥ 0
   ·rw [if_pos c9] at H; have xH : decide (0 ≤ a3) = true := decide_eq_true c9; clear c9; obtain rfl := Option.some.inj H
    go_enter Try.func65, Try.ntmps65
    go_wp2_with (first | ((with_reducible refine bE (N := 4) rfl ?_); refine bC ?hg (N := 4) ?hd (cs := #[.string aU, .string aT, .int .i64 aV, .int .i64 bH, .int .i64 bG, .int .i64 bJ]) (t := 30) ?hr ?_; (case hd => rfl); (case hg => rfl); (case hr => first | (go_simp; done) | (go_simp; rfl)); intro au hg w10 bK hb; have ak := ah.mk (bK); have fO := ah.mk ((zz0 : w.heap.size ≤ au)); have fF := ah.mk ((zz0 : w.heap.size ≤ au)); replace HB := ah.mk (av zz1 hb); clear hb bK hg) | ((with_reducible refine bE (N := 6) rfl ?_); refine bC ?hg (N := 6) ?hd (cs := #[.int .i64 fJ, .int .i64 gD, .string gB]) (t := 23) ?hr ?_; (case hd => rfl); (case hg => rfl); (case hr => first | (go_simp; done) | (go_simp; rfl)); intro aA hg w11 bK hb; have ay := ah.mk (bK); have jD := ah.mk ((jZ : w.heap.size ≤ aA)); have jr := ah.mk ((jZ : w.heap.size ≤ aA)); replace HB := ah.mk (av zz5 hb); have aQ := ah.mk ((DJ : au ≠ aA)); have aY := ah.mk ((DI : aA ≠ au)); replace ak := ah.mk (aG (g := au) (o := .cells #[.string aU, .string aT, .int .i64 aV, .int .i64 bH, .int .i64 bG, .int .i64 bJ] 30 (0, 0)) zz4 hb); clear hb bK hg; have hnb12 := aQ.out; have hnc12 := aY.out; have oV : w11.cell? ⟨au, 0, none⟩ = some (.string aU) := cK ak 0; have oU : w11.cell? ⟨au, 1, none⟩ = some (.string aT) := cK ak 1; have oQ : w11.cell? ⟨au, 2, none⟩ = some (.int .i64 aV) := cK ak 2; have zC : w11.cell? ⟨au, 3, none⟩ = some (.int .i64 bH) := cK ak 3; have zB : w11.cell? ⟨au, 4, none⟩ = some (.int .i64 bG) := cK ak 4; have zA : w11.cell? ⟨au, 5, none⟩ = some (.int .i64 bJ) := cK ak 5; have oM := aj ak.out 0; have oL := aj ak.out 1; have oK := aj ak.out 2; have zq := aj ak.out 3; have zo := aj ak.out 4; have zn := aj ak.out 5) | ((with_reducible refine aN (f := 23) rfl ?_); refine bU (some 11) rfl rfl Try.func23 (by kernel_rfl) rfl #[.agg #[.string aU, .string aT, .int .i64 aV, .int .i64 bH, .int .i64 bG, .int .i64 bJ], .slice A1 l1.length c1] rfl zz8 ?_; (with_reducible refine (bf.calls k aU aT aV bH bG bJ _ _ l1 true _ ?bO ?bR A5.out).mono ?_); (case bO => repeat (first | exact (Kd.eZ HR1.out HB.out) | (with_reducible refine Kd.dF ?_ _) | (with_reducible refine Kd.dI ?_ _) | (with_reducible refine Kd.dZ ?_))); (case bR => exact HC1.out); rintro e w14 ⟨rfl, hb⟩; refine ⟨_, rfl, ?_⟩; replace ak := ah.mk (aG (g := au) (o := .cells #[.string aU, .string aT, .int .i64 aV, .int .i64 bH, .int .i64 bG, .int .i64 bJ] 30 (0, 0)) zz4 hb); replace ay := ah.mk (aG (g := aA) (o := .cells #[.int .i64 fJ, .int .i64 gD, .string gB] 23 (0, 0)) iJ hb); replace HB := ah.mk (av fP hb); (try clear hb); (try clear hb2); (try clear hk); (try clear hi); have TI : w14.cell? ⟨aA, 0, none⟩ = some (.int .i64 fJ) := cK ay 0; have TH : w14.cell? ⟨aA, 1, none⟩ = some (.int .i64 gD) := cK ay 1; have TG : w14.cell? ⟨aA, 2, none⟩ = some (.string gB) := cK ay 2; have SQ := aj ay.out 0; have SN := aj ay.out 1; have SL := aj ay.out 2) | (go_at_call 69; (with_reducible refine (jf.calls fJ gD gB true _ A7.out).mono ?_); rintro e w16 ⟨rfl, hb⟩; replace ak := ah.mk (aG (g := au) (o := .cells #[.string aU, .string aT, .int .i64 aV, .int .i64 bH, .int .i64 bG, .int .i64 bJ] 30 (0, 0)) zz4 hb); replace ay := ah.mk (aG (g := aA) (o := .cells #[.int .i64 fJ, .int .i64 gD, .string gB] 23 (0, 0)) iJ hb); replace HB := ah.mk (av fP hb); (try clear hb); (try clear hb2); (try clear hk); (try clear hi)))
    go_ret
    exact ⟨zz6, fP⟩
   ·rw [if_neg c9] at H; have xH : decide (0 ≤ a3) = false := decide_eq_false c9; clear c9; obtain rfl := Option.some.inj H
    go_enter Try.func65, Try.ntmps65
    go_wp2_with (first | ((with_reducible refine bE (N := 4) rfl ?_); refine bC ?hg (N := 4) ?hd (cs := #[.string aU, .string aT, .int .i64 aV, .int .i64 bH, .int .i64 bG, .int .i64 bJ]) (t := 30) ?hr ?_; (case hd => rfl); (case hg => rfl); (case hr => first | (go_simp; done) | (go_simp; rfl)); intro au hg w17 bK hb; have ak := ah.mk (bK); have fO := ah.mk ((zz0 : w.heap.size ≤ au)); have fF := ah.mk ((zz0 : w.heap.size ≤ au)); replace HB := ah.mk (av zz1 hb); clear hb bK hg) | ((with_reducible refine bE (N := 6) rfl ?_); refine bC ?hg (N := 6) ?hd (cs := #[.int .i64 fJ, .int .i64 gD, .string gB]) (t := 23) ?hr ?_; (case hd => rfl); (case hg => rfl); (case hr => first | (go_simp; done) | (go_simp; rfl)); intro aA hg w18 bK hb; have ay := ah.mk (bK); have jD := ah.mk ((jZ : w.heap.size ≤ aA)); have jr := ah.mk ((jZ : w.heap.size ≤ aA)); replace HB := ah.mk (av zz5 hb); have aQ := ah.mk ((DJ : au ≠ aA)); have aY := ah.mk ((DI : aA ≠ au)); replace ak := ah.mk (aG (g := au) (o := .cells #[.string aU, .string aT, .int .i64 aV, .int .i64 bH, .int .i64 bG, .int .i64 bJ] 30 (0, 0)) zz4 hb); clear hb bK hg; have hnb19 := aQ.out; have hnc19 := aY.out; have qj : w18.cell? ⟨au, 0, none⟩ = some (.string aU) := cK ak 0; have qh : w18.cell? ⟨au, 1, none⟩ = some (.string aT) := cK ak 1; have tO : w18.cell? ⟨au, 2, none⟩ = some (.int .i64 aV) := cK ak 2; have K6 : w18.cell? ⟨au, 3, none⟩ = some (.int .i64 bH) := cK ak 3; have K5 : w18.cell? ⟨au, 4, none⟩ = some (.int .i64 bG) := cK ak 4; have K4 : w18.cell? ⟨au, 5, none⟩ = some (.int .i64 bJ) := cK ak 5; have qZ := aj ak.out 0; have qd := aj ak.out 1; have tJ := aj ak.out 2; have KM := aj ak.out 3; have KL := aj ak.out 4; have KJ := aj ak.out 5) | ((with_reducible refine aN (f := 23) rfl ?_); refine bU (some 11) rfl rfl Try.func23 (by kernel_rfl) rfl #[.agg #[.string aU, .string aT, .int .i64 aV, .int .i64 bH, .int .i64 bG, .int .i64 bJ], .slice A1 l1.length c1] rfl zz8 ?_; (with_reducible refine (bf.calls k aU aT aV bH bG bJ _ _ l1 true _ ?bO ?bR A5.out).mono ?_); (case bO => repeat (first | exact (Kd.eZ HR1.out HB.out) | (with_reducible refine Kd.dF ?_ _) | (with_reducible refine Kd.dI ?_ _) | (with_reducible refine Kd.dZ ?_))); (case bR => exact HC1.out); rintro e w21 ⟨rfl, hb⟩; refine ⟨_, rfl, ?_⟩; replace ak := ah.mk (aG (g := au) (o := .cells #[.string aU, .string aT, .int .i64 aV, .int .i64 bH, .int .i64 bG, .int .i64 bJ] 30 (0, 0)) zz4 hb); replace ay := ah.mk (aG (g := aA) (o := .cells #[.int .i64 fJ, .int .i64 gD, .string gB] 23 (0, 0)) iJ hb); replace HB := ah.mk (av fP hb); (try clear hb); (try clear hb2); (try clear hk); (try clear hi); have FX : w21.cell? ⟨aA, 0, none⟩ = some (.int .i64 fJ) := cK ay 0; have FW : w21.cell? ⟨aA, 1, none⟩ = some (.int .i64 gD) := cK ay 1; have FV : w21.cell? ⟨aA, 2, none⟩ = some (.string gB) := cK ay 2; have FI := aj ay.out 0; have FH := aj ay.out 1; have FE := aj ay.out 2) | (go_at_call 69; (with_reducible refine (jf.calls fJ gD gB true _ A7.out).mono ?_); rintro e w23 ⟨rfl, hb⟩; replace ak := ah.mk (aG (g := au) (o := .cells #[.string aU, .string aT, .int .i64 aV, .int .i64 bH, .int .i64 bG, .int .i64 bJ] 30 (0, 0)) zz4 hb); replace ay := ah.mk (aG (g := aA) (o := .cells #[.int .i64 fJ, .int .i64 gD, .string gB] 23 (0, 0)) iJ hb); replace HB := ah.mk (av fP hb); (try clear hb); (try clear hb2); (try clear hk); (try clear hi)))
    go_ret
    exact ⟨zz6, fP⟩
  ·replace c8 := Bool.eq_false_iff.mpr c8; subst c8; rw [if_neg (show ¬ (false = true) by decide)] at H; obtain rfl := Option.some.inj H
   go_enter Try.func65, Try.ntmps65
   go_wp2_with (first | ((with_reducible refine bE (N := 4) rfl ?_); refine bC ?hg (N := 4) ?hd (cs := #[.string aU, .string aT, .int .i64 aV, .int .i64 bH, .int .i64 bG, .int .i64 bJ]) (t := 30) ?hr ?_; (case hd => rfl); (case hg => rfl); (case hr => first | (go_simp; done) | (go_simp; rfl)); intro au hg w24 bK hb; have ak := ah.mk (bK); have fO := ah.mk ((zz0 : w.heap.size ≤ au)); have fF := ah.mk ((zz0 : w.heap.size ≤ au)); replace HB := ah.mk (av zz1 hb); clear hb bK hg) | ((with_reducible refine bE (N := 6) rfl ?_); refine bC ?hg (N := 6) ?hd (cs := #[.int .i64 fJ, .int .i64 gD, .string gB]) (t := 23) ?hr ?_; (case hd => rfl); (case hg => rfl); (case hr => first | (go_simp; done) | (go_simp; rfl)); intro aA hg w25 bK hb; have ay := ah.mk (bK); have jD := ah.mk ((jZ : w.heap.size ≤ aA)); have jr := ah.mk ((jZ : w.heap.size ≤ aA)); replace HB := ah.mk (av zz5 hb); have aQ := ah.mk ((DJ : au ≠ aA)); have aY := ah.mk ((DI : aA ≠ au)); replace ak := ah.mk (aG (g := au) (o := .cells #[.string aU, .string aT, .int .i64 aV, .int .i64 bH, .int .i64 bG, .int .i64 bJ] 30 (0, 0)) zz4 hb); clear hb bK hg; have hnb26 := aQ.out; have hnc26 := aY.out; have CW : w25.cell? ⟨au, 0, none⟩ = some (.string aU) := cK ak 0; have CV : w25.cell? ⟨au, 1, none⟩ = some (.string aT) := cK ak 1; have CU : w25.cell? ⟨au, 2, none⟩ = some (.int .i64 aV) := cK ak 2; have Tw : w25.cell? ⟨au, 3, none⟩ = some (.int .i64 bH) := cK ak 3; have Tv : w25.cell? ⟨au, 4, none⟩ = some (.int .i64 bG) := cK ak 4; have Tt : w25.cell? ⟨au, 5, none⟩ = some (.int .i64 bJ) := cK ak 5; have Ct := aj ak.out 0; have Cr := aj ak.out 1; have Cq := aj ak.out 2; have SC := aj ak.out 3; have SB := aj ak.out 4; have SA := aj ak.out 5) | ((with_reducible refine aN (f := 23) rfl ?_); refine bU (some 11) rfl rfl Try.func23 (by kernel_rfl) rfl #[.agg #[.string aU, .string aT, .int .i64 aV, .int .i64 bH, .int .i64 bG, .int .i64 bJ], .slice A1 l1.length c1] rfl zz8 ?_; (with_reducible refine (bf.calls k aU aT aV bH bG bJ _ _ l1 true _ ?bO ?bR A5.out).mono ?_); (case bO => repeat (first | exact (Kd.eZ HR1.out HB.out) | (with_reducible refine Kd.dF ?_ _) | (with_reducible refine Kd.dI ?_ _) | (with_reducible refine Kd.dZ ?_))); (case bR => exact HC1.out); rintro e w28 ⟨rfl, hb⟩; refine ⟨_, rfl, ?_⟩; replace ak := ah.mk (aG (g := au) (o := .cells #[.string aU, .string aT, .int .i64 aV, .int .i64 bH, .int .i64 bG, .int .i64 bJ] 30 (0, 0)) zz4 hb); replace ay := ah.mk (aG (g := aA) (o := .cells #[.int .i64 fJ, .int .i64 gD, .string gB] 23 (0, 0)) iJ hb); replace HB := ah.mk (av fP hb); (try clear hb); (try clear hb2); (try clear hk); (try clear hi); have FU : w28.cell? ⟨aA, 0, none⟩ = some (.int .i64 fJ) := cK ay 0; have FT : w28.cell? ⟨aA, 1, none⟩ = some (.int .i64 gD) := cK ay 1; have FR : w28.cell? ⟨aA, 2, none⟩ = some (.string gB) := cK ay 2; have FD := aj ay.out 0; have FC := aj ay.out 1; have FB := aj ay.out 2) | (go_at_call 69; (with_reducible refine (jf.calls fJ gD gB false _ A7.out).mono ?_); rintro e w30 ⟨rfl, hb⟩; replace ak := ah.mk (aG (g := au) (o := .cells #[.string aU, .string aT, .int .i64 aV, .int .i64 bH, .int .i64 bG, .int .i64 bJ] 30 (0, 0)) zz4 hb); replace ay := ah.mk (aG (g := aA) (o := .cells #[.int .i64 fJ, .int .i64 gD, .string gB] 23 (0, 0)) iJ hb); replace HB := ah.mk (av fP hb); (try clear hb); (try clear hb2); (try clear hk); (try clear hi)))
   go_ret
   exact ⟨zz6, fP⟩
 ·replace c6 := Bool.eq_false_iff.mpr c6; subst c6; rw [if_neg (show ¬ (false = true) by decide)] at H; obtain rfl := Option.some.inj H
  go_enter Try.func65, Try.ntmps65
  go_wp2_with (first | ((with_reducible refine bE (N := 4) rfl ?_); refine bC ?hg (N := 4) ?hd (cs := #[.string aU, .string aT, .int .i64 aV, .int .i64 bH, .int .i64 bG, .int .i64 bJ]) (t := 30) ?hr ?_; (case hd => rfl); (case hg => rfl); (case hr => first | (go_simp; done) | (go_simp; rfl)); intro au hg w31 bK hb; have ak := ah.mk (bK); have fO := ah.mk ((zz0 : w.heap.size ≤ au)); have fF := ah.mk ((zz0 : w.heap.size ≤ au)); replace HB := ah.mk (av zz1 hb); clear hb bK hg) | ((with_reducible refine bE (N := 6) rfl ?_); refine bC ?hg (N := 6) ?hd (cs := #[.int .i64 fJ, .int .i64 gD, .string gB]) (t := 23) ?hr ?_; (case hd => rfl); (case hg => rfl); (case hr => first | (go_simp; done) | (go_simp; rfl)); intro aA hg w32 bK hb; have ay := ah.mk (bK); have jD := ah.mk ((jZ : w.heap.size ≤ aA)); have jr := ah.mk ((jZ : w.heap.size ≤ aA)); replace HB := ah.mk (av zz5 hb); have aQ := ah.mk ((DJ : au ≠ aA)); have aY := ah.mk ((DI : aA ≠ au)); replace ak := ah.mk (aG (g := au) (o := .cells #[.string aU, .string aT, .int .i64 aV, .int .i64 bH, .int .i64 bG, .int .i64 bJ] 30 (0, 0)) zz4 hb); clear hb bK hg; have hnb33 := aQ.out; have hnc33 := aY.out; have KR : w32.cell? ⟨au, 0, none⟩ = some (.string aU) := cK ak 0; have KQ : w32.cell? ⟨au, 1, none⟩ = some (.string aT) := cK ak 1; have KP : w32.cell? ⟨au, 2, none⟩ = some (.int .i64 aV) := cK ak 2; have Tq : w32.cell? ⟨au, 3, none⟩ = some (.int .i64 bH) := cK ak 3; have Tp : w32.cell? ⟨au, 4, none⟩ = some (.int .i64 bG) := cK ak 4; have Tn : w32.cell? ⟨au, 5, none⟩ = some (.int .i64 bJ) := cK ak 5; have Ky := aj ak.out 0; have Kw := aj ak.out 1; have Kv := aj ak.out 2; have Sz := aj ak.out 3; have Sy := aj ak.out 4; have Sw := aj ak.out 5) | ((with_reducible refine aN (f := 23) rfl ?_); refine bU (some 11) rfl rfl Try.func23 (by kernel_rfl) rfl #[.agg #[.string aU, .string aT, .int .i64 aV, .int .i64 bH, .int .i64 bG, .int .i64 bJ], .slice A1 l1.length c1] rfl zz8 ?_; (with_reducible refine (bf.calls k aU aT aV bH bG bJ _ _ l1 false _ ?bO ?bR A5.out).mono ?_); (case bO => repeat (first | exact (Kd.eZ HR1.out HB.out) | (with_reducible refine Kd.dF ?_ _) | (with_reducible refine Kd.dI ?_ _) | (with_reducible refine Kd.dZ ?_))); (case bR => exact HC1.out); rintro e w35 ⟨rfl, hb⟩; refine ⟨_, rfl, ?_⟩; replace ak := ah.mk (aG (g := au) (o := .cells #[.string aU, .string aT, .int .i64 aV, .int .i64 bH, .int .i64 bG, .int .i64 bJ] 30 (0, 0)) zz4 hb); replace ay := ah.mk (aG (g := aA) (o := .cells #[.int .i64 fJ, .int .i64 gD, .string gB] 23 (0, 0)) iJ hb); replace HB := ah.mk (av fP hb); (try clear hb); (try clear hb2); (try clear hk); (try clear hi)))
  go_ret
  exact ⟨zz6, fP⟩
def fT.f (l0 : List Int) : Option (List Int) := if l0.length < 17592186044416 then some l0 else none
set_option maxHeartbeats 1000000 in
theorem fT.calls (A0 : Option Addr) (c0 : Nat) (l0 : List Int) (r : List Int) (w : World) (hr0 : Kd.C (Kd.int .i64) w A0 l0.length l0) (hc0 : l0.length ≤ c0) (h : fT.f l0 = some r) :
  Calls Try.prog 66 #[.slice A0 l0.length c0] w fun e w' => ∃ v0_ : Value, e = .returned (v0_) ∧ Kd.R (Kd.int .i64) 2 w' w.heap.size (fun _ => True) v0_ r ∧ Below w.heap.size w w' := by
 unfold fT.f at h
 split at h
 ·rename_i hlim
  injection h with h; subst h; have HL := ah.mk hlim; have HR0 := ah.mk hr0; clear hlim hr0 hc0; have hq := fun (W : World) (a : Option Addr) (n c : Nat) => Lib.run_eql_slice_nil (P := Try.prog) W 31 2 a n c 0 0 Try.underlying31
  cases A0 with
  | none =>
   have hnil : l0 = [] := by
    cases l0 with
    | nil => rfl
    | cons x l =>
     obtain ⟨ad, hx, _⟩ := HR0.out.2.2 (by simp)
     cases hx
   subst hnil
   go_enter Try.func66, Try.ntmps66
   go_wp2
   go_ret
   exact ⟨_, rfl, Kd.EF _ _ _ _ _, Below.refl _ _⟩
  | some ad =>
   go_enter Try.func66, Try.ntmps66
   go_wp2_with (first
    | ((with_reducible refine bE (N := 5) rfl ?_); refine Kd.Dw (Kd.int .i64) _ 2 ?hg (N := 5) ?hd (xs := ([] : List Int)) (inner := []) (ok := fun _ => True) (okp := fun _ => True) ?hr ?hp (fun _ hk => hk) trivial (Below.refl _ _) (Nat.le_refl _) (by simp) ?_; (case hd => rfl); (case hg => rfl); (case hr => first | (go_simp; done) | (go_simp; rfl)); (case hp => exact (iq.none _ _)); intro v3 w1 ho1 hb1 hg_ mh; have HO1 := ah.mk ho1; have HB1 := ah.mk hb1; clear hg_ mh ho1 hb1)
    | ((with_reducible refine iA (b := .append) (xs := #[.tmp 5, .tmp 6]) rfl ?_); at_builtin; refine Kd.rM (Kd.int .i64) (w0 := w) w.heap.size rfl (.tmp 5) (.tmp 6) 31 2 (.int .i64 0) 8 rfl Try.underlying31 GI rfl (by decide) (by omega) v3 [] l0 _ _ _ (fun _ => True) (fun _ => False) rfl rfl ?aO ?aR (fun _ _ h => h) (fun _ h => h.elim) ?aF ?aB ?aS ?aL ?_; (case aR => exact Kd.eZ HR0.out HB1.out); (case aB => exact HB1.out); (case aF => exact (fun _ _ => trivial)); (case aO => exact HO1.out); (case aS => exact HB1.out.size); (case aL => have := HL.out; simp only [List.length_nil]; omega); intro v5 w2 ho hb hg hat; rw [List.nil_append] at ho; have HO2 := ah.mk ho; have HB2 := ah.mk hb; clear ho hb hg hat))
   go_ret
   exact ⟨_, rfl, HO2.out, HB2.out⟩
 ·cases h
end Go.Proofs.Ythicocmnefaioaa.QS

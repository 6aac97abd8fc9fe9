import Derived.Test.YthicocmnefaioaaZo4
namespace Go.Proofs.Ythicocmnefaioaa.QO
open Go.RowKit Go.Proofs.YthicocmnefaioaaW.dw Go.Proofs.YthicocmnefaioaaW.jA Go.Proofs.YthicocmnefaioaaW.lD
open Go.Proofs.YthicocmnefaioaaW.Sq
attribute [local go_sem] oH oF qQ qP nD nC oG oD
set_option linter.unusedVariables false
set_option linter.unusedSimpArgs false
attribute [local go_sem high] jV
def dG.f : Nat → List (S51) → Option ((List (S51)))
 | 0, _ => none
 | k + 1, l0 => if (l0.length : Int) = 0 then (some ([] : List (S51))) else (if (l0.length : Int) = 1 then (if 0 < (l0.length : Int) then (if ((aH l0 0).f1) = 0 then (some ([] : List (S51))) else (some (([(⟨(aH l0 0).f0, (aH l0 0).f1⟩ : S51)] : List (S51))))) else (none)) else (if 0 ≤ (wrap64 ((l0.length : Int) / 2)) then (if (wrap64 ((l0.length : Int) / 2)) ≤ (l0.length : Int) then ((dG.f k (l0.take ((wrap64 ((l0.length : Int) / 2)) : Int).toNat)).bind fun F3 => ((dG.f k (l0.drop ((wrap64 ((l0.length : Int) / 2)) : Int).toNat)).bind fun DY => ((aZ.f k F3 DY).bind fun Jy => (some Jy)))) else (none)) else (none)))
def dG.T7 : Bool × List (List Nat × List Nat) := (true, [([], []), ([], []), ([1], [1]), ([2], [2]), ([0, 3], [0, 3]), ([4], [4]), ([], []), ([], []), ([7], [7]), ([8], [8]), ([6, 9], [6, 9]), ([10, 5], [10]), ([5, 11, 11], [5, 11]), ([12, 12, 0, 1, 2, 3, 4, 5, 6, 7, 8, 9, 10, 11, 12], [12])])
def dG.B7 : List Nat := [0, 0, 2, 6, 15, 31, 0, 0, 128, 384, 960, 2047, 4095, 8191]
theorem dG.tab7 : kD .any (opsOf Try.f90 7) = dG.T7 := by kernel_rfl
theorem dG.bits7 : jS dG.T7.2 dG.B7 = true := by kernel_rfl
set_option maxHeartbeats 8000000 in
set_option maxRecDepth 100000 in
theorem dG.calls (k : Nat) : ∀ (P0_ : Nat → Prop) (A0 : Option Addr) (c0 : Nat) (l0 : List (S51)) (r : List (S51)) (w : World) (hs0 : Kd.V k51 51 w w.heap.size (fun k_ => P0_ k_) (.slice A0 l0.length c0) l0) (h : dG.f k l0 = some r),
  Calls Try.prog 90 #[.slice A0 l0.length c0] w fun e w' => ∃ v0_ : Value, e = .returned (v0_) ∧ Kd.N k51 51 w' w.heap.size (fun k_ => (P0_ k_ ∨ w.heap.size ≤ k_)) v0_ r ∧ Below w.heap.size w w' := by
 induction k using Nat.strongRecOn with
 | _ k ih =>
 intro P0_ A0 c0 l0 r w hs0 h
 cases k with
 | zero => exact absurd h (by simp [dG.f])
 | succ k =>
 simp only [dG.f] at h; have Np := Try.underlying51; have HO0 := ah.mk (show Kd.V k51 51 w w.heap.size (fun k_ => (P0_ k_ ∨ w.heap.size ≤ k_)) (.slice A0 l0.length c0) l0 from Kd.jr hs0 (fun k_ hk => .inl hk)); have HB := ah.mk (Below.refl w.heap.size w); have H := h; clear h
 by_cases c2 : (l0.length : Int) = 0
 ·rw [if_pos c2] at H; have pK : ((l0.length : Int) == 0) = true := beq_iff_eq.mpr c2; have Dj : ((l0.length : Int) != 0) = false := bne_eq_false_iff_eq.mpr c2; clear c2; obtain rfl := Option.some.inj H
  go_enter Try.func90, Try.ntmps90
  go_wp2
  go_ret
  exact ⟨_, zz6, zz67, zz1⟩
 ·rw [if_neg c2] at H; have pK : ((l0.length : Int) == 0) = false := beq_eq_false_iff_ne.mpr c2; have Dj : ((l0.length : Int) != 0) = true := bne_iff_ne.mpr c2; have c2b2 : ¬ (l0 = []) := fun h_ => c2 (by rw [h_]; rfl)
  by_cases c3 : (l0.length : Int) = 1
  ·rw [if_pos c3] at H; have tH : ((l0.length : Int) == 1) = true := beq_iff_eq.mpr c3; have Ik : ((l0.length : Int) != 1) = false := bne_eq_false_iff_eq.mpr c3; clear c3
   by_cases c4 : 0 < (l0.length : Int)
   ·rw [if_pos c4] at H; have lI : decide (0 < (l0.length : Int)) = true := decide_eq_true c4; have c4b1 : decide (0 < l0.length) = true := decide_eq_true (by omega); clear c4
    by_cases c5 : ((aH l0 0).f1) = 0
    ·rw [if_pos c5] at H; have qd : (((aH l0 0).f1) == 0) = true := beq_iff_eq.mpr c5; have NJ : (((aH l0 0).f1) != 0) = false := bne_eq_false_iff_eq.mpr c5; clear c5; obtain rfl := Option.some.inj H; have JN : 0 ≤ (0 : Int) := (by omega); have JG : 0 < (l0.length : Int) := of_decide_eq_true zz9; obtain ⟨ad394, QY, QJ, e394, qm, vT, Bt, BI⟩ := iR (Kd.eH HO0.out).2.2 0 JN JG
     cases e394
     obtain ⟨ce394, Qd, QD, Gx⟩ := Kd.pQ HO0.out z51 0 JN (by first | exact JG | exact of_decide_eq_true zz9 | (have e_ := (Kd.eH HO0.out).1; omega)); obtain ⟨XY, XQ, rfl, vJ, wF⟩ := iF QD; have rC := Gx 0 _ rfl; rw [Nat.add_zero] at rC; replace rC := Option.some.inj (rC.symm.trans qm); injection rC with jf kT je; rw [jf] at wF; rw [je] at vJ; have L6 := ah.mk (show Kd.V k23 23 _ w.heap.size _ _ ((aH l0 0).f0) from Kd.ou vJ wF); clear jf kT je wF vJ; clear Gx Qd; have qi394 : (0 < l0.length) = True := eq_true (by omega); (try rw [show ((0 : Int)).toNat = 0 from rfl] at qm); (try rw [show 0 * 2 = 0 from rfl] at qm); (try rw [Addr.add_zero'] at qm); (try rw [show ((0 : Int)).toNat = 0 from rfl] at vT); (try rw [show 0 * 2 = 0 from rfl] at vT); (try rw [Addr.add_zero'] at vT); have iO := ah.mk BI; have jl := ah.mk Bt; clear BI Bt; replace JN := eq_true JN; replace JG := eq_true JG
     go_enter Try.func90, Try.ntmps90
     go_wp2
     go_ret
     exact ⟨_, zz6, zz67, zz1⟩
    ·rw [if_neg c5] at H; have qd : (((aH l0 0).f1) == 0) = false := beq_eq_false_iff_ne.mpr c5; have NJ : (((aH l0 0).f1) != 0) = true := bne_iff_ne.mpr c5; obtain ⟨y396, MP⟩ : ∃ y_ : List (S51), y_ = (([(⟨(aH l0 0).f0, (aH l0 0).f1⟩ : S51)] : List (S51))) := ⟨_, rfl⟩; replace H : (some y396) = some r := by first | (rw [MP]; with_reducible exact H) | (have H2_ := (Option.bind_some _ _).symm.trans H; rw [MP]; with_reducible exact H2_) | (have H2_ := (Option.bind_some _ _).symm.trans H; with_reducible exact H2_) | with_reducible exact H | (rw [MP]; exact H) | exact H
     have Ny396 := ah.mk MP; clear MP; obtain rfl := Option.some.inj H; have JN : 0 ≤ (0 : Int) := (by omega); have JG : 0 < (l0.length : Int) := of_decide_eq_true zz9; obtain ⟨ad394, QY, QJ, e394, qm, vT, Bt, BI⟩ := iR (Kd.eH HO0.out).2.2 0 JN JG
     cases e394
     obtain ⟨ce394, Qd, QD, Gx⟩ := Kd.pQ HO0.out z51 0 JN (by first | exact JG | exact of_decide_eq_true zz9 | (have e_ := (Kd.eH HO0.out).1; omega)); obtain ⟨XY, XQ, rfl, vJ, wF⟩ := iF QD; have rC := Gx 0 _ rfl; rw [Nat.add_zero] at rC; replace rC := Option.some.inj (rC.symm.trans qm); injection rC with jf kT je; rw [jf] at wF; rw [je] at vJ; have L6 := ah.mk (show Kd.V k23 23 _ w.heap.size _ _ ((aH l0 0).f0) from Kd.ou vJ wF); clear jf kT je wF vJ; clear Gx Qd; have qi394 : (0 < l0.length) = True := eq_true (by omega); (try rw [show ((0 : Int)).toNat = 0 from rfl] at qm); (try rw [show 0 * 2 = 0 from rfl] at qm); (try rw [Addr.add_zero'] at qm); (try rw [show ((0 : Int)).toNat = 0 from rfl] at vT); (try rw [show 0 * 2 = 0 from rfl] at vT); (try rw [Addr.add_zero'] at vT); have iO := ah.mk BI; have jl := ah.mk Bt; clear BI Bt; replace JN := eq_true JN; replace JG := eq_true JG; have p395 : 0 ≤ (0 : Int) := (by omega); have q395 : 0 < (l0.length : Int) := of_decide_eq_true zz9; obtain ⟨ad395, A395_0, c395_0, e395, AB, J2, Sd, SA⟩ := iR (Kd.eH HO0.out).2.2 0 p395 q395; obtain rfl : ad394 = ad395 := (by injection e395); obtain ⟨ce395, hce395, hMe395, VX⟩ := Kd.pQ HO0.out z51 0 p395 (by first | exact q395 | exact of_decide_eq_true zz9 | (have e_ := (Kd.eH HO0.out).1; omega)); obtain ⟨ua395_0, uc395_0, rfl, Jq, Lj⟩ := iF hMe395; have Eu := VX 0 _ rfl; rw [Nat.add_zero] at Eu; replace Eu := Option.some.inj (Eu.symm.trans AB); injection Eu with jf kT je; rw [jf] at Lj; rw [je] at Jq; have FM := ah.mk (show Kd.V k23 23 _ w.heap.size _ _ ((aH l0 0).f0) from Kd.ou Jq Lj); clear jf kT je Lj Jq; clear VX hce395; have qi395 : (0 < l0.length) = True := eq_true (by omega); (try rw [show ((0 : Int)).toNat = 0 from rfl] at AB); (try rw [show 0 * 2 = 0 from rfl] at AB); (try rw [Addr.add_zero'] at AB); (try rw [show ((0 : Int)).toNat = 0 from rfl] at J2); (try rw [show 0 * 2 = 0 from rfl] at J2); (try rw [Addr.add_zero'] at J2); have qA := ah.mk SA; have zx := ah.mk Sd; clear SA Sd; replace p395 := eq_true p395; replace q395 := eq_true q395; have ea_ := Option.some.inj (qm.symm.trans AB); injection ea_ with ea_ en_ ec_; subst ea_; subst ec_; clear en_
     go_enter Try.func90, Try.ntmps90
     go_wp2_with (first | ((with_reducible refine bD (N := 17) rfl ?_); refine Kd.WW k51 _ 51 ?hg (N' := 17) ?hd (xs := ([(⟨(aH l0 0).f0, (aH l0 0).f1⟩ : S51)] : List (S51))) (inner := [.slice QY ((aH l0 0).f0).length QJ, .int .i64 ((aH l0 0).f1)]) (ok := (fun k_ => (P0_ k_ ∨ w.heap.size ≤ k_))) (okp := (fun k_ => (P0_ k_ ∨ w.heap.size ≤ k_))) ?hr ?hp (fun _ hk => hk) ((show ∀ k_, w.heap.size ≤ k_ → (fun k_ => (P0_ k_ ∨ w.heap.size ≤ k_)) k_ from fun k_ hk => (.inr (Nat.le_trans (bW zz1) hk))) _ (Nat.le_refl _)) (Below.refl _ _) (Nat.le_refl _) (by simp) ?_; (case hd => rfl); (case hg => rfl); (case hr => first | (go_simp; done) | (go_simp; rfl)); (case hp => exact (ig.c2 (show Kd.FK k51 _ _ (⟨(aH l0 0).f0, (aH l0 0).f1⟩ : S51) [.slice QY ((aH l0 0).f0).length QJ, .int .i64 ((aH l0 0).f1)] from (Au _ _ (⟨(aH l0 0).f0, (aH l0 0).f1⟩ : S51) (Kd.eH (Kd.jr (ok' := (fun k_ => (P0_ k_ ∨ w.heap.size ≤ k_))) (FM.out) (fun k_ hk => hk))).2.1 (Kd.V_F (Kd.jr (ok' := (fun k_ => (P0_ k_ ∨ w.heap.size ≤ k_))) (FM.out) (fun k_ hk => hk))))) (ig.none _ _))); intro v397 w6 ho7 hb hg_ lY; clear hg_ lY; (first | rw [← Ny396.out] at ho7 | (simp only [Int.reduceToNat] at ho7; rw [← Ny396.out] at ho7)); replace HO0 := ah.mk (Kd.jo Uc (Kd.ny ho7) hb); replace L6 := ah.mk (Kd.jo (by (with_reducible repeat (first | apply Kd.iL | apply Kd.iH | apply Kd.gG)); exact L6.out) (Kd.ny ho7) hb); replace FM := ah.mk (Kd.jo (by (with_reducible repeat (first | apply Kd.iL | apply Kd.iH | apply Kd.gG)); exact FM.out) (Kd.ny ho7) hb); have iB := ah.mk (Kd.wM ho7 (bW zz1)); replace iO := ah.mk (Kd.eY Jb hb); replace qA := ah.mk (Kd.eY zz77 hb); replace HB := ah.mk (aA zz1 hb); clear hb ho7))
     go_ret
     exact ⟨_, zz6, by (with_reducible repeat (first | apply Kd.mq | apply Kd.lU | apply Kd.ko)); exact iB.out, zz1⟩
   ·rw [if_neg c4] at H; exact absurd H (by simp)
  ·rw [if_neg c3] at H; have tH : ((l0.length : Int) == 1) = false := beq_eq_false_iff_ne.mpr c3; have Ik : ((l0.length : Int) != 1) = true := bne_iff_ne.mpr c3; obtain ⟨ji8, hji8⟩ : ∃ j_ : Int, (wrap64 ((l0.length : Int) / 2)) = j_ := ⟨_, rfl⟩; replace H : (if 0 ≤ (ji8) then (if (ji8) ≤ (l0.length : Int) then ((dG.f k (l0.take ((ji8) : Int).toNat)).bind fun F3 => ((dG.f k (l0.drop ((ji8) : Int).toNat)).bind fun DY => ((aZ.f k F3 DY).bind fun Jy => (some Jy)))) else (none)) else (none)) = some r := by first | (rw [hji8] at H; exact H) | (simp only [hji8] at H ⊢; exact H)
   have hji8w : (IntKind.i64.wrap ((l0.length : Int) / 2)) = ji8 := (dJ _).trans hji8
   by_cases c9 : 0 ≤ (ji8)
   ·rw [if_pos c9] at H; have xV := eq_true c9; have c9b1 : decide (0 ≤ (ji8)) = true := decide_eq_true c9; clear c9
    by_cases c10 : (ji8) ≤ (l0.length : Int)
    ·rw [if_pos c10] at H; have wT := eq_true c10; have c10b1 : decide ((ji8) ≤ (l0.length : Int)) = true := decide_eq_true c10; clear c10; obtain ⟨Ot, MO⟩ : ∃ y_ : List (S51), y_ = (l0.take ((ji8) : Int).toNat) := ⟨_, rfl⟩; replace H : ((dG.f k Ot).bind fun F3 => ((dG.f k (l0.drop ((ji8) : Int).toNat)).bind fun DY => ((aZ.f k F3 DY).bind fun Jy => (some Jy)))) = some r := by first | (rw [MO]; with_reducible exact H) | (have H2_ := (Option.bind_some _ _).symm.trans H; rw [MO]; with_reducible exact H2_) | (have H2_ := (Option.bind_some _ _).symm.trans H; with_reducible exact H2_) | with_reducible exact H | (rw [MO]; exact H) | exact H
     have Ny399 := ah.mk MO; clear MO; replace H := Option.bind_eq_some_iff.mp H; obtain ⟨F3, HY, H⟩ := H; have A11 := ah.mk HY; clear HY; have NP := eq_true (of_decide_eq_true zz9 : 0 ≤ (ji8)); have IW := eq_true (of_decide_eq_true zz9 : (ji8) ≤ (l0.length : Int)); obtain ⟨Ia, MN⟩ : ∃ y_ : List (S51), y_ = (l0.drop ((ji8) : Int).toNat) := ⟨_, rfl⟩; replace H : ((dG.f k Ia).bind fun DY => ((aZ.f k F3 DY).bind fun Jy => (some Jy))) = some r := by first | (rw [MN]; with_reducible exact H) | (have H2_ := (Option.bind_some _ _).symm.trans H; rw [MN]; with_reducible exact H2_) | (have H2_ := (Option.bind_some _ _).symm.trans H; with_reducible exact H2_) | with_reducible exact H | (rw [MN]; exact H) | exact H
     have Ny407 := ah.mk MN; clear MN; replace H := Option.bind_eq_some_iff.mp H; obtain ⟨DY, A140, H⟩ := H; have A14 := ah.mk A140; clear A140; replace H := Option.bind_eq_some_iff.mp H; obtain ⟨Jy, Oi, H⟩ := H; have A15 := ah.mk Oi; clear Oi; obtain rfl := Option.some.inj H
     go_enter Try.func90, Try.ntmps90
     try go_wp2
     replace HO0 := ah.mk (Kd.gG HO0.out); replace HB := ah.mk (bG HB.out); have q17 : ((ji8) : Int) ≤ ((l0.length : Int) : Int) := of_decide_eq_true zz9; obtain ⟨i017, hi017, _, hsz17, _⟩ := info_parts sI; have R3 : l0.length ≤ c0 := (Kd.eH HO0.out).2.1; have hC17 : Kd.F k51 _ _ A0 l0.length l0 := (Kd.Il (base := w.heap.size) HO0.out).2.2; have hcut17 := Lv (P := Try.prog) 38 51 .i64 Try.underlying38 hi017 A0 l0.length c0 (ji8) (of_decide_eq_true zz9) q17 R3; have hr17 := Kd.QX (m := ((ji8) : Int).toNat) hC17 (by omega); have hy17 : Ot.length = ((ji8) : Int).toNat := (by rw [Ny399.out, List.length_take]; omega); rw [← Ny399.out] at hr17; rw [← hy17] at hcut17; have jg := ah.mk (show Kd.V k51 51 _ w.heap.size _ (.slice A0 Ot.length c0) Ot from Kd.ou (by omega) hr17); have HC103 := ah.mk (show Ot.length ≤ c0 from by omega); clear hr17 hC17 R3 hi017 hsz17; have KY17 := ah.mk hy17; clear hy17; replace q17 := eq_true q17; have q18 : ((ji8) : Int) ≤ ((l0.length : Int) : Int) := of_decide_eq_true zz9; obtain ⟨i018, hi018, _, hsz18, _⟩ := info_parts sI; have ED : l0.length ≤ c0 := (Kd.eH HO0.out).2.1; have hC18 : Kd.F k51 _ _ A0 l0.length l0 := (Kd.Il (base := w.heap.size) HO0.out).2.2; have q018 : (0 : Int) ≤ ((ji8) : Int) := of_decide_eq_true zz9; have hcut18 := GQ (P := Try.prog) 38 51 .i64 Try.underlying38 hi018 2 hsz18 A0 l0.length c0 (ji8) q018 q18; have hr18 := Kd.Xl (m := ((ji8) : Int).toNat) (c := c0) hC18 (by omega) ED; obtain ⟨A18, hA18⟩ : ∃ A1, A1 = (if c0 = ((ji8) : Int).toNat then A0 else (A0 : Option Addr).map (·.add (((ji8) : Int).toNat * 2))) := ⟨_, rfl⟩; obtain ⟨c18, hc18⟩ : ∃ c1, c1 = c0 - ((ji8) : Int).toNat := ⟨_, rfl⟩; have hy18 : Ia.length = l0.length - ((ji8) : Int).toNat := (by rw [Ny407.out, List.length_drop] <;> omega); rw [show (l0).drop ((ji8) : Int).toNat = Ia from Ny407.out.symm] at hr18; replace hr18 : Kd.F k51 _ _ A18 Ia.length Ia := (by rw [hA18]; exact hr18); rw [← hy18, ← hA18, ← hc18] at hcut18; have l9 := ah.mk (show Kd.V k51 51 _ w.heap.size _ (.slice A18 Ia.length c18) Ia from Kd.ou (by rw [hy18, hc18]; exact Nat.sub_le_sub_right ED _) hr18); have HC104 := ah.mk (show Ia.length ≤ c18 from by rw [hy18, hc18]; exact Nat.sub_le_sub_right ED _); clear hr18 hC18 ED hi018 hsz18 hc18; have KY18 := ah.mk hy18; have KA18 := ah.mk hA18; clear hy18 hA18; replace q18 := eq_true q18; refine jd (n := 14) (S := fun w' => True) (ds := []) (.replicate 14 false) (by kernel_rfl) rfl rfl trivial (fun hHeld => ?_); refine iE dG.tab7 dG.bits7 (fun HT_ HW_ => ?_); generalize w.drew = w16 at HO0 HB jg l9 hHeld ⊢; refine pV 0 18 (bA 14 1) HT_ ?_; refine pV 1 19 (bA 14 3) HT_ ?_; refine pV 2 20 (bA 14 7) HT_ ?_; refine pV 3 21 (bA 14 15) HT_ ?_; refine pV 4 22 (bA 14 31) HT_ ?_; refine pV 6 24 (bA 14 95) HT_ ?_; refine pV 7 25 (bA 14 223) HT_ ?_; refine pV 8 26 (bA 14 479) HT_ ?_; refine pV 9 27 (bA 14 991) HT_ ?_; refine pV 10 28 (bA 14 2015) HT_ ?_; refine oN 5 23 (bA 14 2047) HT_ (fun K hK => ?_); refine iT Try.func90 (by kernel_rfl) rfl #[.slice A0 Ot.length c0] (by rfl) rfl rfl zz8 ?_; (with_reducible refine (ih k (by omega) (fun k_ => (P0_ k_ ∨ w.heap.size ≤ k_)) _ _ Ot F3 _ ?bZ A11.out).mono ?_); (case bZ => exact jg.out); rintro e w19 ⟨v405, rfl, ho0, hb⟩; refine ⟨_, rfl, ?_⟩; replace HO0 := ah.mk (Kd.jo Uc (Kd.ny ho0) hb); replace jg := ah.mk (Kd.jo zz81 (Kd.ny ho0) hb); replace l9 := ah.mk (Kd.jo zz82 (Kd.ny ho0) hb); have sV := ah.mk (Kd.wM (Kd.lu (ok' := fun k_ => (P0_ k_ ∨ w.heap.size ≤ k_)) ho0 (fun k_ hk_ => Or.elim hk_ (fun hs_ => hs_) (fun hn_ => (.inr (Nat.le_trans (bW zz1) hn_))))) (bW zz1)); replace HB := ah.mk (aA zz1 hb); (try clear hb); (try clear hb2); (try clear hk); (try clear hi); (try clear ho0); refine hK.out _ _ trivial (fun hHeld => ?_); clear hK K; refine iV (a' := ?_) ?_ ?_; rotate_left
     ·show Act.put _ (some 23) _ = _
      simp only [Act.put, List.setIfInBounds_toArray, List.set_cons_zero, List.set_cons_succ, dJ, eu]
      rfl
     refine oN 11 29 (bA 14 4095) HT_ (fun K hK => ?_); refine iT Try.func90 (by kernel_rfl) rfl #[.slice A18 Ia.length c18] (by rfl) rfl rfl zz8 ?_; (with_reducible refine (ih k (by omega) (fun k_ => ((P0_ k_ ∨ w.heap.size ≤ k_) ∧ some k_ ≠ (v405 : Value).ownBlock)) _ _ Ia DY _ ?bZ A14.out).mono ?_); (case bZ => exact l9.out); rintro e w20 ⟨v413, rfl, ho0, hb⟩; refine ⟨_, rfl, ?_⟩; replace HO0 := ah.mk (Kd.jo Uc (Kd.ny ho0) hb); replace jg := ah.mk (Kd.jo zz81 (Kd.ny ho0) hb); replace l9 := ah.mk (Kd.jo zz82 (Kd.ny ho0) hb); have vk := ah.mk (Kd.wM (Kd.lu (ok' := fun k_ => (P0_ k_ ∨ w.heap.size ≤ k_) ∧ some k_ ≠ (v405 : Value).ownBlock) ho0 (fun k_ hk_ => ⟨Or.elim hk_ (fun hs_ => hs_.1) (fun hn_ => (.inr (Nat.le_trans (bW zz1) hn_))), Or.elim hk_ (fun hs_ => hs_.2) (fun hn_ => (Kd.fresh' (Kd.N_lt Oj) k_ hn_))⟩)) (bW zz1)); replace sV := ah.mk (Kd.qG Oj (Kd.ny ho0) hb); replace HB := ah.mk (aA zz1 hb); (try clear hb); (try clear hb2); (try clear hk); (try clear hi); (try clear ho0); obtain ⟨Ao21, co21, eo21⟩ := Kd.rV sV.out; (first | subst eo21 | (injection eo21 with f1_ f2_ f3_; have f4_ := f1_.symm; have f5_ := f3_.symm; clear f1_ f2_ f3_; subst f4_; subst f5_)); obtain ⟨Ao22, co22, eo22⟩ := Kd.rV vk.out; (first | subst eo22 | (injection eo22 with f1_ f2_ f3_; have f4_ := f1_.symm; have f5_ := f3_.symm; clear f1_ f2_ f3_; subst f4_; subst f5_)); refine hK.out _ _ trivial (fun hHeld => ?_); clear hK K; refine iV (a' := ?_) ?_ ?_; rotate_left
     ·show Act.put _ (some 29) _ = _
      simp only [Act.put, List.setIfInBounds_toArray, List.set_cons_zero, List.set_cons_succ, dJ, eu]
      rfl
     refine oN 12 30 (bA 14 8191) HT_ (fun K hK => ?_); refine iT Try.func61 (by kernel_rfl) rfl #[.slice Ao21 F3.length co21, .slice Ao22 DY.length co22] (by rfl) rfl rfl zz8 ?_; (with_reducible refine (aZ.calls k (fun k_ => ((P0_ k_ ∨ w.heap.size ≤ k_) ∧ some k_ ≠ (.slice Ao22 DY.length co22 : Value).ownBlock)) _ _ F3 (fun k_ => ((P0_ k_ ∨ w.heap.size ≤ k_) ∧ some k_ ≠ (.slice Ao21 F3.length co21 : Value).ownBlock)) _ _ DY Jy _ ?bZ ?cO A15.out).mono ?_); (case bZ => exact Kd.N_V (sV.out)); (case cO => exact Kd.N_V (vk.out)); rintro e w23 ⟨v416, rfl, ho0, hb⟩; refine ⟨_, rfl, ?_⟩; replace HO0 := ah.mk (Kd.jo Uc (Kd.ny ho0) hb); replace jg := ah.mk (Kd.jo zz81 (Kd.ny ho0) hb); replace l9 := ah.mk (Kd.jo zz82 (Kd.ny ho0) hb); replace sV := ah.mk (Kd.qG Oj (Kd.ny ho0) hb); replace vk := ah.mk (Kd.qG (by (with_reducible repeat (first | apply Kd.mq | apply Kd.lU | apply Kd.ko)); exact vk.out) (Kd.ny ho0) hb); have DT := ah.mk (Kd.wM (Kd.lu (ok' := fun k_ => (P0_ k_ ∨ w.heap.size ≤ k_)) ho0 (fun k_ hk_ => Or.elim hk_ (fun hs_ => Or.elim hs_ (fun hs_ => hs_.1) (fun hs_ => hs_.1)) (fun hn_ => (.inr (Nat.le_trans (bW zz1) hn_))))) (bW zz1)); replace HB := ah.mk (aA zz1 hb); (try clear hb); (try clear hb2); (try clear hk); (try clear hi); (try clear ho0); refine hK.out _ _ trivial (fun hHeld => ?_); clear hK K; refine iV (a' := ?_) ?_ ?_; rotate_left
     ·show Act.put _ (some 30) _ = _
      simp only [Act.put, List.setIfInBounds_toArray, List.set_cons_zero, List.set_cons_succ, dJ, eu]
      rfl
     refine pV 13 2 (bA 14 16383) HT_ ?_; refine kJ (j5 HT_.out (by kernel_rfl)) ?_
     try go_wp2
     go_ret
     exact ⟨_, by first | rfl | (simp [gX, gW] <;> rfl) | (simp only [← hji8]; first | rfl | (simp [gX, gW] <;> rfl)) | (simp [*, gX, gW] <;> rfl), by (with_reducible repeat (first | apply Kd.mq | apply Kd.lU | apply Kd.ko)); exact DT.out, zz1⟩
    ·rw [if_neg c10] at H; exact absurd H (by simp)
   ·rw [if_neg c9] at H; exact absurd H (by simp)
def dU.l0 : Nat → List (S51) → Int → Option ((List (S51)) × Int)
 | 0, _, _ => none
 | k + 1, x0, x4 => if x4 < (x0.length : Int) then (if 0 ≤ x4 then ((bQ.f k ((aH x0 x4).f0)).bind fun t426 => (if t426 = true then ((fV.f ((aH x0 x4).f1)).bind fun t428 => (if t428 = true then (dU.l0 k x0 (wrap64 (x4 + 1))) else (some (([] : List (S51)), 1)))) else (some (([] : List (S51)), 1)))) else (none)) else ((dG.f k x0).bind fun t418 => ((fC.f k t418).bind fun bt421 => (some (bt421.1, bt421.2))))
def dU.f (k : Nat) (l0 : List (S51)) : Option ((List (S51)) × Int) := dU.l0 k l0 0
set_option maxHeartbeats 8000000 in
set_option maxRecDepth 100000 in
theorem dU.calls (k : Nat) (P0_ : Nat → Prop) (A0 : Option Addr) (c0 : Nat) (l0 : List (S51)) (r1 : List (S51)) (r2 : Int) (w : World) (hs0 : Kd.V k51 51 w w.heap.size (fun k_ => P0_ k_) (.slice A0 l0.length c0) l0) (h : dU.f k l0 = some (r1, r2)) :
  Calls Try.prog 54 #[.slice A0 l0.length c0] w fun e w' => ∃ v0_ : Value, e = .returned (.tuple #[v0_, .int .i64 r2]) ∧ Kd.V k51 51 w' w.heap.size (fun k_ => (P0_ k_ ∨ w.heap.size ≤ k_)) v0_ r1 ∧ Below w.heap.size w w' := by
 have HO0 := ah.mk (show Kd.V k51 51 w w.heap.size (fun k_ => (P0_ k_ ∨ w.heap.size ≤ k_)) (.slice A0 l0.length c0) l0 from Kd.jr hs0 (fun k_ hk => .inl hk)); have HB := ah.mk (Below.refl w.heap.size w); have H := h; clear h
 dsimp only [dU.f] at H
 have H' := ah.mk H; clear H
 go_enter Try.func54, Try.ntmps54
 go_wp2
 go_loopg [4] k (fun kq v4 w' => ∃ (jw : Int), v4 = .int .i64 jw ∧ ah (dU.l0 kq l0 jw = some (r1, r2)) ∧ ah (kq ≤ k) ∧ ah (Kd.V k51 51 w' w.heap.size (fun k_ => (P0_ k_ ∨ w.heap.size ≤ k_)) (.slice A0 l0.length c0) l0) ∧ ah (Below w.heap.size w w'))
 case atStart => exact ⟨(0), zz2, H', ⟨Nat.le_refl _⟩, ⟨Uc⟩, ⟨zz1⟩⟩
 case round =>
  clear H'; obtain ⟨jw, rfl, HA, HK1, jX, HB⟩ := hrel
  cases gk with
  | zero => exact absurd HA.out (by simp [dU.l0])
  | succ k1 =>
   have H := HA.out; clear HA; simp only [dU.l0] at H
   by_cases c2 : jw < (l0.length : Int)
   ·rw [if_pos c2] at H; have pK : decide (jw < (l0.length : Int)) = true := decide_eq_true c2; clear c2
    by_cases c3 : 0 ≤ jw
    ·rw [if_pos c3] at H; have tH : decide (0 ≤ jw) = true := decide_eq_true c3; clear c3; replace H := Option.bind_eq_some_iff.mp H; obtain ⟨t426, A40, H⟩ := H; have A4 := ah.mk A40; clear A40
     by_cases c5 : t426 = true
     ·subst c5; rw [if_pos rfl] at H; replace H := Option.bind_eq_some_iff.mp H; obtain ⟨t428, A60, H⟩ := H; have A6 := ah.mk A60; clear A60
      by_cases c7 : t428 = true
      ·subst c7; rw [if_pos rfl] at H; have H' := ah.mk H; clear H; have Am : 0 ≤ (jw : Int) := of_decide_eq_true zz9; have D6 : jw < (l0.length : Int) := of_decide_eq_true zz9; obtain ⟨TI, Hz, GU, e425, AA, RO, tZ, uf⟩ := iR (Kd.eH jX.out).2.2 jw Am D6
       cases e425
       obtain ⟨ce425, Gt, GI, xU⟩ := Kd.pQ jX.out z51 jw Am zz83; obtain ⟨RD, RB, rfl, oC, pI⟩ := iF GI; have mP := xU 0 _ rfl; rw [Nat.add_zero] at mP; replace mP := Option.some.inj (mP.symm.trans AA); injection mP with jf kT je; rw [jf] at pI; rw [je] at oC; have zw := ah.mk (show Kd.V k23 23 _ w.heap.size _ _ ((aH l0 jw).f0) from Kd.ou oC pI); clear jf kT je pI oC; clear xU Gt; have iO := ah.mk uf; have jl := ah.mk tZ; clear uf tZ; replace Am := eq_true Am; replace D6 := eq_true D6
       go_wp2_with (first | ((with_reducible refine aT (f := 88) rfl ?_); refine cu (some 16) rfl rfl Try.func88 (by kernel_rfl) rfl #[.slice Hz ((aH l0 jw).f0).length GU] rfl zz8 ?_; (with_reducible refine (bQ.calls k1 _ _ ((aH l0 jw).f0) true _ ?bZ ?cO A4.out).mono ?_); (case bZ => repeat (first | exact Jb | (with_reducible refine Kd.dW ?_ _) | (with_reducible refine Kd.d9 ?_ _) | (with_reducible refine Kd.eT ?_))); (case cO => exact jl.out); rintro e w8 ⟨rfl, hb⟩; refine ⟨_, rfl, ?_⟩; replace jX := ah.mk (Kd.nL uF hb); replace zw := ah.mk (Kd.nL zz84 hb); replace iO := ah.mk (Kd.eY Jb hb); replace HB := ah.mk (aA zz1 hb); (try clear hb); (try clear hb2); (try clear hk); (try clear hi); have JM : 0 ≤ (jw : Int) := of_decide_eq_true zz9; have JF : jw < (l0.length : Int) := of_decide_eq_true zz9; obtain ⟨WJ, A427_0, c427_0, e427, JZ, Yg, Br, BH⟩ := iR (Kd.eH jX.out).2.2 jw JM JF; obtain rfl : TI = WJ := (by injection e427); obtain ⟨ce427, Qc, QC, Gw⟩ := Kd.pQ jX.out z51 jw JM (by first | exact JF | exact of_decide_eq_true zz9 | (have e_ := (Kd.eH jX.out).1; omega)); obtain ⟨XW, XP, rfl, vI, wE⟩ := iF QC; have rA := Gw 0 _ rfl; rw [Nat.add_zero] at rA; replace rA := Option.some.inj (rA.symm.trans JZ); injection rA with jf kT je; rw [jf] at wE; rw [je] at vI; have aap := ah.mk (show Kd.V k23 23 _ w.heap.size _ _ ((aH l0 jw).f0) from Kd.ou vI wE); clear jf kT je wE vI; clear Gw Qc; have qA := ah.mk BH; have zx := ah.mk Br; clear BH Br; replace JM := eq_true JM; replace JF := eq_true JF) | (go_at_call 89; (with_reducible refine (fV.calls ((aH l0 jw).f1) true _ A6.out).mono ?_); rintro e w' ⟨rfl, ⟨nd, rfl⟩⟩))
       go_roundg k1
       case measure => have := HK1.out; omega
       case rel => exact ⟨(wrap64 (jw + 1)), zz2, H', ⟨by have := HK1.out; omega⟩, ⟨uF⟩, ⟨zz1⟩⟩
      ·replace c7 := Bool.eq_false_iff.mpr c7; subst c7; rw [if_neg (show ¬ (false = true) by decide)] at H; simp only [Option.some.injEq, Prod.mk.injEq] at H; obtain ⟨rfl, rfl⟩ := H; have Am : 0 ≤ (jw : Int) := of_decide_eq_true zz9; have D6 : jw < (l0.length : Int) := of_decide_eq_true zz9; obtain ⟨TI, Hz, GU, e425, AA, RO, tZ, uf⟩ := iR (Kd.eH jX.out).2.2 jw Am D6
       cases e425
       obtain ⟨ce425, Gt, GI, xU⟩ := Kd.pQ jX.out z51 jw Am zz83; obtain ⟨RD, RB, rfl, oC, pI⟩ := iF GI; have mP := xU 0 _ rfl; rw [Nat.add_zero] at mP; replace mP := Option.some.inj (mP.symm.trans AA); injection mP with jf kT je; rw [jf] at pI; rw [je] at oC; have zw := ah.mk (show Kd.V k23 23 _ w.heap.size _ _ ((aH l0 jw).f0) from Kd.ou oC pI); clear jf kT je pI oC; clear xU Gt; have iO := ah.mk uf; have jl := ah.mk tZ; clear uf tZ; replace Am := eq_true Am; replace D6 := eq_true D6
       go_wp2_with (first | ((with_reducible refine aT (f := 88) rfl ?_); refine cu (some 16) rfl rfl Try.func88 (by kernel_rfl) rfl #[.slice Hz ((aH l0 jw).f0).length GU] rfl zz8 ?_; (with_reducible refine (bQ.calls k1 _ _ ((aH l0 jw).f0) true _ ?bZ ?cO A4.out).mono ?_); (case bZ => repeat (first | exact Jb | (with_reducible refine Kd.dW ?_ _) | (with_reducible refine Kd.d9 ?_ _) | (with_reducible refine Kd.eT ?_))); (case cO => exact jl.out); rintro e w9 ⟨rfl, hb⟩; refine ⟨_, rfl, ?_⟩; replace jX := ah.mk (Kd.nL uF hb); replace zw := ah.mk (Kd.nL zz84 hb); replace iO := ah.mk (Kd.eY Jb hb); replace HB := ah.mk (aA zz1 hb); (try clear hb); (try clear hb2); (try clear hk); (try clear hi); have JM : 0 ≤ (jw : Int) := of_decide_eq_true zz9; have JF : jw < (l0.length : Int) := of_decide_eq_true zz9; obtain ⟨WJ, A427_0, c427_0, e427, JZ, Yg, Br, BH⟩ := iR (Kd.eH jX.out).2.2 jw JM JF; obtain rfl : TI = WJ := (by injection e427); obtain ⟨ce427, Qc, QC, Gw⟩ := Kd.pQ jX.out z51 jw JM (by first | exact JF | exact of_decide_eq_true zz9 | (have e_ := (Kd.eH jX.out).1; omega)); obtain ⟨XW, XP, rfl, vI, wE⟩ := iF QC; have rA := Gw 0 _ rfl; rw [Nat.add_zero] at rA; replace rA := Option.some.inj (rA.symm.trans JZ); injection rA with jf kT je; rw [jf] at wE; rw [je] at vI; have aap := ah.mk (show Kd.V k23 23 _ w.heap.size _ _ ((aH l0 jw).f0) from Kd.ou vI wE); clear jf kT je wE vI; clear Gw Qc; have qA := ah.mk BH; have zx := ah.mk Br; clear BH Br; replace JM := eq_true JM; replace JF := eq_true JF) | (go_at_call 89; (with_reducible refine (fV.calls ((aH l0 jw).f1) false _ A6.out).mono ?_); rintro e w' ⟨rfl, ⟨nd, rfl⟩⟩))
       go_ret2
       exact ⟨_, zz6, (Kd.I6 _ _ _ _ _), zz1⟩
     ·replace c5 := Bool.eq_false_iff.mpr c5; subst c5; rw [if_neg (show ¬ (false = true) by decide)] at H; simp only [Option.some.injEq, Prod.mk.injEq] at H; obtain ⟨rfl, rfl⟩ := H; have Am : 0 ≤ (jw : Int) := of_decide_eq_true zz9; have D6 : jw < (l0.length : Int) := of_decide_eq_true zz9; obtain ⟨TI, Hz, GU, e425, AA, RO, tZ, uf⟩ := iR (Kd.eH jX.out).2.2 jw Am D6
      cases e425
      obtain ⟨ce425, Gt, GI, xU⟩ := Kd.pQ jX.out z51 jw Am zz83; obtain ⟨RD, RB, rfl, oC, pI⟩ := iF GI; have mP := xU 0 _ rfl; rw [Nat.add_zero] at mP; replace mP := Option.some.inj (mP.symm.trans AA); injection mP with jf kT je; rw [jf] at pI; rw [je] at oC; have zw := ah.mk (show Kd.V k23 23 _ w.heap.size _ _ ((aH l0 jw).f0) from Kd.ou oC pI); clear jf kT je pI oC; clear xU Gt; have iO := ah.mk uf; have jl := ah.mk tZ; clear uf tZ; replace Am := eq_true Am; replace D6 := eq_true D6
      go_wp2_with (first | ((with_reducible refine aT (f := 88) rfl ?_); refine cu (some 16) rfl rfl Try.func88 (by kernel_rfl) rfl #[.slice Hz ((aH l0 jw).f0).length GU] rfl zz8 ?_; (with_reducible refine (bQ.calls k1 _ _ ((aH l0 jw).f0) false _ ?bZ ?cO A4.out).mono ?_); (case bZ => repeat (first | exact Jb | (with_reducible refine Kd.dW ?_ _) | (with_reducible refine Kd.d9 ?_ _) | (with_reducible refine Kd.eT ?_))); (case cO => exact jl.out); rintro e w10 ⟨rfl, hb⟩; refine ⟨_, rfl, ?_⟩; replace jX := ah.mk (Kd.nL uF hb); replace zw := ah.mk (Kd.nL zz84 hb); replace iO := ah.mk (Kd.eY Jb hb); replace HB := ah.mk (aA zz1 hb); (try clear hb); (try clear hb2); (try clear hk); (try clear hi)))
      go_ret2
      exact ⟨_, zz6, (Kd.I6 _ _ _ _ _), zz1⟩
    ·rw [if_neg c3] at H; exact absurd H (by simp)
   ·rw [if_neg c2] at H; have pK : decide (jw < (l0.length : Int)) = false := decide_eq_false c2; clear c2; replace H := Option.bind_eq_some_iff.mp H; obtain ⟨t418, HY, H⟩ := H; have A11 := ah.mk HY; clear HY; replace H := Option.bind_eq_some_iff.mp H; obtain ⟨⟨t421, t424⟩, A120, H⟩ := H
    try dsimp only at H
    have A12 := ah.mk A120; clear A120; simp only [Option.some.injEq, Prod.mk.injEq] at H; obtain ⟨rfl, rfl⟩ := H
    go_wp2_with (first | ((with_reducible refine aT (f := 90) rfl ?_); refine cu (some 28) rfl rfl Try.func90 (by kernel_rfl) rfl #[.slice A0 l0.length c0] rfl zz8 ?_; (with_reducible refine (dG.calls k1 (fun k_ => (P0_ k_ ∨ w.heap.size ≤ k_)) _ _ l0 t418 _ ?bZ A11.out).mono ?_); (case bZ => exact jX.out); rintro e w13 ⟨v419, rfl, ho0, hb⟩; refine ⟨_, rfl, ?_⟩; replace jX := ah.mk (Kd.jo uF (Kd.ny ho0) hb); have iB := ah.mk (Kd.wM (Kd.lu (ok' := fun k_ => (P0_ k_ ∨ w.heap.size ≤ k_)) ho0 (fun k_ hk_ => Or.elim hk_ (fun hs_ => hs_) (fun hn_ => (.inr (Nat.le_trans (bW zz1) hn_))))) (bW zz1)); replace HB := ah.mk (aA zz1 hb); (try clear hb); (try clear hb2); (try clear hk); (try clear hi); (try clear ho0); obtain ⟨Ao14, co14, eo14⟩ := Kd.rV iB.out; subst eo14) | ((with_reducible refine aT (f := 60) rfl ?_); refine cu (some 29) rfl rfl Try.func60 (by kernel_rfl) rfl #[.slice Ao14 t418.length co14] rfl zz8 ?_; (with_reducible refine (fC.calls k1 (fun k_ => (P0_ k_ ∨ w.heap.size ≤ k_)) _ _ t418 t421 t424 _ ?bZ A12.out).mono ?_); (case bZ => exact Kd.N_V (iB.out)); rintro e w15 ⟨v422, rfl, ho0, hb⟩; refine ⟨_, rfl, ?_⟩; replace jX := ah.mk (Kd.nL uF hb); replace iB := ah.mk (Kd.rW (by (with_reducible repeat (first | apply Kd.mq | apply Kd.lU | apply Kd.ko)); exact iB.out) hb); have jg := ah.mk (Kd.FI (Kd.jr (ok' := fun k_ => (P0_ k_ ∨ w.heap.size ≤ k_)) ho0 (fun k_ hk_ => Or.elim hk_ (fun hs_ => hs_) (fun hn_ => (.inr (Nat.le_trans (bW zz1) hn_))))) (bW zz1)); replace HB := ah.mk (aA zz1 hb); (try clear hb); (try clear hb2); (try clear hk); (try clear hi); (try clear ho0)))
    go_ret2
    exact ⟨_, zz6, zz81, zz1⟩
def dF.l0 : Nat → Bool → List (S51) → Int → List Int → Int → Option ((List (S51)) × Int)
 | 0, _, _, _, _, _ => none
 | k + 1, x3, x9, x10, x1000, nO => if x10 < (x9.length : Int) then (if x3 = true then (dF.l0 k x3 x9 (wrap64 (x10 + 1)) x1000 nO) else (if 0 ≤ x10 then (if ((aH x9 x10).f1) < 0 then (dF.l0 k x3 (x9.set (x10 : Int).toNat (⟨(aH x9 x10).f0, wrap64 (-((aH x9 x10).f1))⟩ : S51)) (wrap64 (x10 + 1)) x1000 nO) else (dF.l0 k x3 x9 (wrap64 (x10 + 1)) x1000 nO)) else (none))) else ((dU.f k x9).bind fun bt436 => (some (bt436.1, nO)))
def dF.f (k : Nat) (dZ : List Int) (jH : Int) (a1 : Int) (a2 : Int) (a3 : Bool) : Option ((List (S51)) × Int) := (bL.f k dZ jH a1 a2).bind fun bt429 => (dF.l0 k a3 bt429.1 0 dZ bt429.2)
set_option maxHeartbeats 8000000 in
set_option maxRecDepth 100000 in
theorem dF.calls (k : Nat) (g : Nat) (dZ : List Int) (jH : Int) (a1 : Int) (a2 : Int) (a3 : Bool) (r1 : List (S51)) (r2 : Int) (w0 w : World) (hI : aG w0 w g dZ jH) (hB : Below w0.heap.size w0 w) (h : dF.f k dZ jH a1 a2 a3 = some (r1, r2)) :
  Calls Try.prog 20 #[.pointer (some ⟨g, 0, none⟩), .int .i64 a1, .int .i64 a2, .bool a3] w fun e w' => ∃ v0_ : Value, e = .returned (v0_) ∧ Kd.V k51 51 w' w.heap.size (fun k_ => (w.heap.size ≤ k_)) v0_ r1 ∧ aG w0 w' g dZ r2 ∧ Below w0.heap.size w0 w' ∧ bP w w' g none := by
 have HI0 := ah.mk hI; have HK := ah.mk (bP.refl w g none); have HL := ah.mk hB.size; clear hI; have HW0 := ah.mk hB.size; have HB := ah.mk hB; clear hB; have H := h; clear h
 dsimp only [dF.f] at H
 replace H := Option.bind_eq_some_iff.mp H; obtain ⟨⟨t429, t432⟩, A50, H⟩ := H
 try dsimp only at H
 have A5 := ah.mk A50; clear A50; have H' := ah.mk H; clear H
 go_enter Try.func20, Try.ntmps20
 go_wp2_with (first | ((with_reducible refine aT (f := 53) rfl ?_); refine cu (some 16) rfl rfl Try.func53 (by kernel_rfl) rfl #[.pointer (some ⟨g, 0, none⟩), .int .i64 a1, .int .i64 a2] rfl zz8 ?_; (with_reducible refine (bL.calls k g dZ jH a1 a2 t429 t432 w0 _ ?bZ ?cO A5.out).mono ?_); (case bZ => repeat (first | (with_reducible first | exact HI0.out | apply aG.alloc | apply aG.drewN | apply aG.drew | apply aG.gq) | exact HI0.out)); (case cO => repeat (first | (with_reducible first | exact HB.out | apply bY | apply bT | apply bG | refine bS ?_ (aG.ge HI0.out)) | exact HB.out)); rintro e w6 ⟨v430, rfl, ho0, hi, hb, hk⟩; refine ⟨_, rfl, ?_⟩; have mF := ah.mk (Kd.aai (Kd.S_newM (M := fun k_ => (w.heap.size ≤ k_)) ho0 (lC (w := w) (g := g) (row := none) ng) (fun k_ h_ => h_)) (lC (w := w) (g := g) (row := none) ng)); replace HK := ah.mk (bP.trans ng hk (.inl rfl)); replace HB := ah.mk (hb); replace HI0 := ah.mk (hi); (try clear hb); (try clear hb2); (try clear hk); (try clear hi); (try clear ho0)))
 go_loopg [10] k (fun kq v10 w' => ∃ (bV : List (S51)) (iQ : Int), v10 = .int .i64 iQ ∧ ah (dF.l0 kq a3 bV iQ dZ t432 = some (r1, r2)) ∧ ah (kq ≤ k) ∧ ah (Kd.S k51 51 w' w.heap.size (fun k_ => (w.heap.size ≤ k_)) v430 bV) ∧ ah (aG w0 w' g dZ t432) ∧ ah (bP w w' g none) ∧ ah (Below w0.heap.size w0 w'))
 case atStart => exact ⟨(t429), (0), zz2, H', ⟨Nat.le_refl _⟩, ⟨by (with_reducible repeat (first | apply Kd.uy | apply Kd.uw | apply Kd.xZ)); exact Kd.uQ mF.out (fun _ hk => hk.1)⟩, ⟨qI⟩, ⟨ng⟩, ⟨rZ⟩⟩
 case round =>
  clear H'; (try clear c2); (try clear p2); (try clear c5); obtain ⟨bV, iQ, rfl, HA, HK1, fu, HI0, HK, HB⟩ := hrel
  cases gk with
  | zero => exact absurd HA.out (by simp [dF.l0])
  | succ k1 =>
   have H := HA.out; clear HA; simp only [dF.l0] at H
   by_cases c7 : iQ < (bV.length : Int)
   ·rw [if_pos c7] at H; have pJ : decide (iQ < (bV.length : Int)) = true := decide_eq_true c7; clear c7
    by_cases c8 : a3 = true
    ·subst c8; rw [if_pos rfl] at H; have H' := ah.mk H; clear H; obtain ⟨Ao9, co9, eo9⟩ := Kd.FJ fu.out; subst eo9
     go_wp2
     go_roundg k1
     case measure => have := HK1.out; omega
     case rel => exact ⟨(bV), (wrap64 (iQ + 1)), zz2, H', ⟨by have := HK1.out; omega⟩, ⟨zz85⟩, ⟨qI⟩, ⟨ng⟩, ⟨rZ⟩⟩
    ·replace c8 := Bool.eq_false_iff.mpr c8; subst c8; rw [if_neg (show ¬ (false = true) by decide)] at H
     by_cases c10 : 0 ≤ iQ
     ·rw [if_pos c10] at H; have wT : decide (0 ≤ iQ) = true := decide_eq_true c10; clear c10
      by_cases c11 : ((aH bV iQ).f1) < 0
      ·rw [if_pos c11] at H; have Tw : decide (((aH bV iQ).f1) < 0) = true := decide_eq_true c11; clear c11; obtain ⟨y435, ML⟩ : ∃ y_ : List (S51), y_ = (bV.set (iQ : Int).toNat (⟨(aH bV iQ).f0, wrap64 (-((aH bV iQ).f1))⟩ : S51)) := ⟨_, rfl⟩; replace H : (dF.l0 k1 false y435 (wrap64 (iQ + 1)) dZ t432) = some (r1, r2) := by first | (rw [ML]; with_reducible exact H) | (have H2_ := (Option.bind_some _ _).symm.trans H; rw [ML]; with_reducible exact H2_) | (have H2_ := (Option.bind_some _ _).symm.trans H; with_reducible exact H2_) | with_reducible exact H | (rw [ML]; exact H) | exact H
       have Ny435 := ah.mk ML; clear ML; have H' := ah.mk H; clear H; obtain ⟨Ao13, NH, eo13⟩ := Kd.FJ fu.out; subst eo13; have JL : 0 ≤ (iQ : Int) := of_decide_eq_true zz9; have JE : iQ < (bV.length : Int) := of_decide_eq_true zz9; obtain ⟨ad433, A433_0, c433_0, e433, Az, RN, Bq, BG⟩ := iR (Kd.qF fu.out).2.2 iQ JL JE
       cases e433
       obtain ⟨ce433, Qb, QB, Gv⟩ := Kd.WR fu.out z51 iQ JL (by first | exact JE | exact of_decide_eq_true zz9 | (have e_ := (Kd.qF fu.out).1; omega)); obtain ⟨XM, rfl, wD⟩ := uW QB; have oJ := Gv 0 _ rfl; rw [Nat.add_zero] at oJ; replace oJ := Option.some.inj (oJ.symm.trans Az); rw [oJ] at wD; have LZ := ah.mk (show Kd.R k23 23 _ _ _ _ ((aH bV iQ).f0) from wD); clear oJ wD; clear Gv Qb; have qA := ah.mk BG; have zx := ah.mk Bq; clear BG Bq; replace JL := eq_true JL; replace JE := eq_true JE; have p434 : 0 ≤ (iQ : Int) := of_decide_eq_true zz9; have q434 : iQ < (bV.length : Int) := of_decide_eq_true zz9; obtain ⟨ad434, A434_0, c434_0, e434, JY, Yf, Sc, Sz⟩ := iR (Kd.qF fu.out).2.2 iQ p434 q434; obtain rfl : ad433 = ad434 := (by injection e434); obtain ⟨ce434, hce434, hMe434, VW⟩ := Kd.WR fu.out z51 iQ p434 (by first | exact q434 | exact of_decide_eq_true zz9 | (have e_ := (Kd.qF fu.out).1; omega)); obtain ⟨ve434_0, rfl, Li⟩ := uW hMe434; have Bo := VW 0 _ rfl; rw [Nat.add_zero] at Bo; replace Bo := Option.some.inj (Bo.symm.trans JY); rw [Bo] at Li; have TT := ah.mk (show Kd.R k23 23 _ _ _ _ ((aH bV iQ).f0) from Li); clear Bo Li; clear VW hce434; have qz := ah.mk Sz; have wP := ah.mk Sc; clear Sz Sc; replace p434 := eq_true p434; replace q434 := eq_true q434; have ea_ := Option.some.inj (Az.symm.trans JY); injection ea_ with ea_ en_ ec_; subst ea_; subst ec_; clear en_; have p12 : 0 ≤ (iQ : Int) := of_decide_eq_true zz9; have q12 : (iQ : Int) < ((bV.length : Int) : Int) := of_decide_eq_true zz9; obtain ⟨D9, co12, eo12, gb12, gl12, cl12, HG12⟩ := Kd.S_form fu.out (by omega); (first | cases eo12 | (injection eo12 with ea_ en_ ec_; (first | subst ea_ | (injection ea_ with ea_; subst ea_)); subst ec_; clear en_)); have GB12 := ah.mk gb12; have GG12 := ah.mk HG12; clear gb12 gl12 HG12; (first | simp only [add_plain] at Az | skip); (first | simp only [add_plain] at RN | skip); (first | simp only [add_plain] at JY | skip); (first | simp only [add_plain] at Yf | skip); obtain ⟨_, ce12, hcl12, hM12, V6, VG, _, _⟩ := Kd.WS fu.out z51 (iQ : Int) p12 q12; obtain ⟨ve12_0, rfl, ge12_0⟩ := uW hM12; have hx12_0 : wr.cell? ⟨D9, (iQ : Int).toNat * 2, none⟩ = some (ve12_0) := V6 0 _ rfl; have hx12_1 : wr.cell? ⟨D9, (iQ : Int).toNat * 2 + 1, none⟩ = some (.int .i64 ((aH bV iQ).f1)) := V6 1 _ rfl; have hf12_0 : wr.frozen? ⟨D9, (iQ : Int).toNat * 2, none⟩ = false := VG 0; have hf12_1 : wr.frozen? ⟨D9, (iQ : Int).toNat * 2 + 1, none⟩ = false := VG 1; clear hcl12 V6 VG hM12; replace p12 := eq_true p12; replace q12 := eq_true q12; have HX14 := ah.mk (show Kd.S k51 51 wr w.heap.size (fun k_ => ((fun k_ => (w.heap.size ≤ k_))) k_ ∧ ¬ ((fun _ => False)) k_) (.slice (some ⟨D9, 0, none⟩) bV.length NH) bV from (by (with_reducible repeat (first | apply Kd.uy | apply Kd.uw | apply Kd.xZ)); exact Kd.uQ fu.out (fun k_ hk => ⟨hk, fun e_ => e_⟩))); obtain ⟨oki14, ce14, hcl14, hM14, hcc14, hfr14, hoki14, hH14⟩ := Kd.WS HX14.out z51 (iQ : Int) (of_decide_eq_true zz9) (by have h_ : (iQ : Int) < ((bV.length : Int) : Int) := of_decide_eq_true zz9; first | exact h_ | (have e_ := (Kd.qF fu.out).1; omega) | simpa using h_); obtain ⟨ve14_0, rfl, ge14_0⟩ := uW hM14; have HP14 := Kd.S_seg hH14 (of_decide_eq_true zz9) (by have h_ : (iQ : Int) < ((bV.length : Int) : Int) := of_decide_eq_true zz9; first | exact h_ | (have e_ := (Kd.qF fu.out).1; omega) | simpa using h_) (seg := [.int .i64 (wrap64 (-((aH bV iQ).f1)))]) (j := 1) (show 2 ≤ 2 from by decide) (x' := (⟨(aH bV iQ).f0, wrap64 (-((aH bV iQ).f1))⟩ : S51)) (RH _ _ _ (⟨(aH bV iQ).f0, wrap64 (-((aH bV iQ).f1))⟩ : S51) (Kd.dN ge14_0 (fun _ h_ => Or.inl h_))) (fun _ hk => hk) (fun k_ hk_ => hk_.elim); have hx14_1 := hcc14 1 _ rfl; (try simp only [show (k51).sz = 2 from rfl, Nat.mul_one, Nat.add_zero] at hx14_1); have hf14_1 := hfr14 1; (try simp only [show (k51).sz = 2 from rfl, Nat.mul_one, Nat.add_zero] at hf14_1); clear hcl14 hcc14 hfr14 hM14 hoki14 hH14
       go_wp2_with (first | ((with_reducible refine wJ (t := 2) (p := 42) rfl ?_); refine tK (t := 2) (p := 42) (v := ?vo_w15) (w1 := (wr.setCell ⟨D9, (iQ : Int).toNat * 2 + 1, none⟩ (.int .i64 (wrap64 (-((aH bV iQ).f1)))))) ?hg ?ho ?hn ?hr ?_; (case ho => rfl); (case hg => rfl); (case hn => rfl); (case hr => first | (go_simp; done) | (go_simp; rfl)); intro w15 hw; have hg : wr.grownBy w15 (some D9) := (by rw [hw]; exact HP14.2); have hp_ : Kd.S k51 51 w15 w.heap.size (fun k_ => (w.heap.size ≤ k_)) (.slice (some ⟨D9, 0, none⟩) bV.length NH) y435 := (by rw [hw, Ny435.out]; exact HP14.1); clear HP14; replace HI0 := ah.mk (aG.grown qI hg (aG.RF HI0.out fu.out (by decide))); replace LZ := ah.mk (Kd.FL (v := (.slice (some ⟨D9, 0, none⟩) bV.length NH)) (v1 := (.slice (some ⟨D9, 0, none⟩) bV.length NH)) (ok := (fun k_ => (w.heap.size ≤ k_))) (by (with_reducible repeat (first | apply Kd.fJ | apply Kd.fH | apply Kd.eO)); exact LZ.out) hg (.inl rfl)); replace TT := ah.mk (Kd.FL (v := (.slice (some ⟨D9, 0, none⟩) bV.length NH)) (v1 := (.slice (some ⟨D9, 0, none⟩) bV.length NH)) (ok := (fun k_ => (w.heap.size ≤ k_))) (by (with_reducible repeat (first | apply Kd.fJ | apply Kd.fH | apply Kd.eO)); exact TT.out) hg (.inl rfl)); replace HB := ah.mk ((by rw [hw]; exact bS (HB.out) (Nat.le_trans HL.out GB12.out) : Below w0.heap.size w0 w15)); replace HK := ah.mk (bP.trans ng (bP.sG hg g) (Kd.TN fu.out)); replace fu := ah.mk (hp_); clear hg hw hp_))
       go_roundg k1
       case measure => have := HK1.out; omega
       case rel => exact ⟨(y435), (wrap64 (iQ + 1)), zz2, H', ⟨by have := HK1.out; omega⟩, ⟨zz85⟩, ⟨qI⟩, ⟨ng⟩, ⟨rZ⟩⟩
      ·rw [if_neg c11] at H; have Tw : decide (((aH bV iQ).f1) < 0) = false := decide_eq_false c11; clear c11; have H' := ah.mk H; clear H; obtain ⟨Ao16, co16, eo16⟩ := Kd.FJ fu.out; subst eo16; have JL : 0 ≤ (iQ : Int) := of_decide_eq_true zz9; have JE : iQ < (bV.length : Int) := of_decide_eq_true zz9; obtain ⟨ad433, A433_0, c433_0, e433, Az, RN, Bq, BG⟩ := iR (Kd.qF fu.out).2.2 iQ JL JE
       cases e433
       obtain ⟨ce433, Qb, QB, Gv⟩ := Kd.WR fu.out z51 iQ JL (by first | exact JE | exact of_decide_eq_true zz9 | (have e_ := (Kd.qF fu.out).1; omega)); obtain ⟨XM, rfl, wD⟩ := uW QB; have oJ := Gv 0 _ rfl; rw [Nat.add_zero] at oJ; replace oJ := Option.some.inj (oJ.symm.trans Az); rw [oJ] at wD; have LZ := ah.mk (show Kd.R k23 23 _ _ _ _ ((aH bV iQ).f0) from wD); clear oJ wD; clear Gv Qb; have qA := ah.mk BG; have zx := ah.mk Bq; clear BG Bq; replace JL := eq_true JL; replace JE := eq_true JE
       go_wp2
       go_roundg k1
       case measure => have := HK1.out; omega
       case rel => exact ⟨(bV), (wrap64 (iQ + 1)), zz2, H', ⟨by have := HK1.out; omega⟩, ⟨zz85⟩, ⟨qI⟩, ⟨ng⟩, ⟨rZ⟩⟩
     ·rw [if_neg c10] at H; exact absurd H (by simp)
   ·rw [if_neg c7] at H; have pJ : decide (iQ < (bV.length : Int)) = false := decide_eq_false c7; clear c7; replace H := Option.bind_eq_some_iff.mp H; obtain ⟨⟨t436, t439⟩, Oh, H⟩ := H
    try dsimp only at H
    have A17 := ah.mk Oh; clear Oh; simp only [Option.some.injEq, Prod.mk.injEq] at H; obtain ⟨rfl, rfl⟩ := H; obtain ⟨Ao18, co18, eo18⟩ := Kd.FJ fu.out; subst eo18
    go_wp2_with (first | ((with_reducible refine aT (f := 54) rfl ?_); refine cu (some 45) rfl rfl Try.func54 (by kernel_rfl) rfl #[.slice Ao18 bV.length co18] rfl zz8 ?_; (with_reducible refine (dU.calls k1 (fun k_ => ((w.heap.size ≤ k_) ∧ k_ ≠ g)) _ _ bV t436 t439 _ ?bZ A17.out).mono ?_); (case bZ => exact Kd.S_V (aG.QL HI0.out (fu.out) (by decide))); rintro e w19 ⟨v437, rfl, ho0, hb⟩; refine ⟨_, rfl, ?_⟩; replace fu := ah.mk (Kd.TM zz85 hb); have jg := ah.mk (Kd.FI (Kd.jr (ok' := fun k_ => (w.heap.size ≤ k_) ∧ k_ ≠ g) ho0 (fun k_ hk_ => ⟨Or.elim hk_ (fun hs_ => hs_.1) (fun hn_ => (Nat.le_trans (lC (w := w) (g := g) (row := none) ng) hn_)), Or.elim hk_ (fun hs_ => hs_.2) (fun hn_ => (aG.fresh qI k_ hn_))⟩)) (lC (w := w) (g := g) (row := none) ng)); replace HK := ah.mk (bP.trans ng (bP.of_below hb g none) (.inl rfl)); replace HB := ah.mk (aA rZ hb); replace HI0 := ah.mk (aG.below qI hb); (try clear hb); (try clear hb2); (try clear hk); (try clear hi); (try clear ho0)))
    go_ret
    exact ⟨_, zz6, by (with_reducible repeat (first | apply Kd.iL | apply Kd.iH | apply Kd.gG)); exact Kd.jr jg.out (fun _ hk => hk.1), qI, rZ, ng⟩
def eU.l0 : Nat → List Int → List Int → Int → Option (Bool)
 | 0, _, _, _ => none
 | k + 1, x0, x1, x5 => if x5 < (x0.length : Int) then (if 0 ≤ x5 then (if x5 < (x1.length : Int) then (if (rd x0 x5) = (rd x1 x5) then (eU.l0 k x0 x1 (wrap64 (x5 + 1))) else (some false)) else (none)) else (none)) else (some true)
def eU.f (k : Nat) (l0 : List Int) (l1 : List Int) : Option (Bool) := if (l0.length : Int) = (l1.length : Int) then (eU.l0 k l0 l1 0) else (some false)
set_option maxHeartbeats 8000000 in
set_option maxRecDepth 100000 in
theorem eU.calls (k : Nat) (A0 : Option Addr) (c0 : Nat) (l0 : List Int) (A1 : Option Addr) (c1 : Nat) (l1 : List Int) (r : Bool) (w : World) (hr0 : Kd.C (Kd.int .i64) w A0 l0.length l0) (hc0 : l0.length ≤ c0) (hr1 : Kd.C (Kd.int .i64) w A1 l1.length l1) (hc1 : l1.length ≤ c1) (h : eU.f k l0 l1 = some r) :
  Calls Try.prog 30 #[.slice A0 l0.length c0, .slice A1 l1.length c1] w fun e w' => e = .returned (.bool r) ∧ l5 w w' := by
 have HR0 := ah.mk hr0; have HC0 := ah.mk hc0; clear hr0 hc0; have HR1 := ah.mk hr1; have HC1 := ah.mk hc1; clear hr1 hc1; have H := h; clear h
 dsimp only [eU.f] at H
 by_cases c3 : (l0.length : Int) = (l1.length : Int)
 ·rw [if_pos c3] at H; have tH : ((l0.length : Int) == (l1.length : Int)) = true := beq_iff_eq.mpr c3; have Ik : ((l0.length : Int) != (l1.length : Int)) = false := bne_eq_false_iff_eq.mpr c3; have c3b2 : (l0.length == l1.length) = true := by first | simpa using c3 | (simp at c3 ⊢; omega)
  clear c3; have H' := ah.mk H; clear H
  go_enter Try.func30, Try.ntmps30
  go_wp2
  repeat (go_quiet (fail); try go_wp2)
  go_loopg [5] k (fun kq v5 w' => ∃ (eB : Int), v5 = .int .i64 eB ∧ ah (eU.l0 kq l0 l1 eB = some r) ∧ ah (kq ≤ k) ∧ l5 w w')
  case atStart => exact ⟨(0), zz2, H', ⟨Nat.le_refl _⟩, zz7⟩
  case round =>
   clear H'; (try clear c1); (try clear p2); (try clear c3); (try clear tH); (try clear Ik); (try clear c3b2); obtain ⟨eB, rfl, HA, HK1, ⟨m1, rfl⟩⟩ := hrel
   cases gk with
   | zero => exact absurd HA.out (by simp [eU.l0])
   | succ k1 =>
    have H := HA.out; clear HA; simp only [eU.l0] at H
    by_cases c4 : eB < (l0.length : Int)
    ·rw [if_pos c4] at H; have lI : decide (eB < (l0.length : Int)) = true := decide_eq_true c4; clear c4
     by_cases c5 : 0 ≤ eB
     ·rw [if_pos c5] at H; have qd : decide (0 ≤ eB) = true := decide_eq_true c5; clear c5
      by_cases c6 : eB < (l1.length : Int)
      ·rw [if_pos c6] at H; have qD : decide (eB < (l1.length : Int)) = true := decide_eq_true c6; clear c6
       by_cases c7 : (rd l0 eB) = (rd l1 eB)
       ·rw [if_pos c7] at H; have pJ : ((rd l0 eB) == (rd l1 eB)) = true := beq_iff_eq.mpr c7; have NI : ((rd l0 eB) != (rd l1 eB)) = false := bne_eq_false_iff_eq.mpr c7; clear c7; have H' := ah.mk H; clear H; have Pm : 0 ≤ (eB : Int) := of_decide_eq_true zz9; have OX : eB < (l0.length : Int) := of_decide_eq_true zz9; obtain ⟨ad440, e440, Ye⟩ := Kd.jM HR0.out eB Pm OX
        cases e440
        replace Pm := eq_true Pm; replace OX := eq_true OX; have Pk : 0 ≤ (eB : Int) := of_decide_eq_true zz9; have OW : eB < (l1.length : Int) := of_decide_eq_true zz9; obtain ⟨ad441, e441, Yd⟩ := Kd.jM HR1.out eB Pk OW
        cases e441
        replace Pk := eq_true Pk; replace OW := eq_true OW
        go_wp2
        repeat (go_quiet (fail); try go_wp2)
        go_roundg k1
        case measure => have := HK1.out; omega
        case rel => exact ⟨(wrap64 (eB + 1)), zz2, H', ⟨by have := HK1.out; omega⟩, zz7⟩
       ·rw [if_neg c7] at H; have pJ : ((rd l0 eB) == (rd l1 eB)) = false := beq_eq_false_iff_ne.mpr c7; have NI : ((rd l0 eB) != (rd l1 eB)) = true := bne_iff_ne.mpr c7; obtain rfl := Option.some.inj H; have Pm : 0 ≤ (eB : Int) := of_decide_eq_true zz9; have OX : eB < (l0.length : Int) := of_decide_eq_true zz9; obtain ⟨ad440, e440, Ye⟩ := Kd.jM HR0.out eB Pm OX
        cases e440
        replace Pm := eq_true Pm; replace OX := eq_true OX; have Pk : 0 ≤ (eB : Int) := of_decide_eq_true zz9; have OW : eB < (l1.length : Int) := of_decide_eq_true zz9; obtain ⟨ad441, e441, Yd⟩ := Kd.jM HR1.out eB Pk OW
        cases e441
        replace Pk := eq_true Pk; replace OW := eq_true OW
        go_wp2
        repeat (go_quiet (fail); try go_wp2)
        go_ret
        exact ⟨zz2, zz7⟩
      ·rw [if_neg c6] at H; exact absurd H (by simp)
     ·rw [if_neg c5] at H; exact absurd H (by simp)
    ·rw [if_neg c4] at H; have lI : decide (eB < (l0.length : Int)) = false := decide_eq_false c4; clear c4; obtain rfl := Option.some.inj H
     go_wp2
     repeat (go_quiet (fail); try go_wp2)
     go_ret
     exact ⟨zz2, zz7⟩
 ·rw [if_neg c3] at H; have tH : ((l0.length : Int) == (l1.length : Int)) = false := beq_eq_false_iff_ne.mpr c3; have Ik : ((l0.length : Int) != (l1.length : Int)) = true := bne_iff_ne.mpr c3; have c3b2 : (l0.length == l1.length) = false := by first | simpa using c3 | (simp at c3 ⊢; omega)
  obtain rfl := Option.some.inj H
  go_enter Try.func30, Try.ntmps30
  go_wp2
  repeat (go_quiet (fail); try go_wp2)
  go_ret
  exact ⟨zz2, zz7⟩
end Go.Proofs.Ythicocmnefaioaa.QO

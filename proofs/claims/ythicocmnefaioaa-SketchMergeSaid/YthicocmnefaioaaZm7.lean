import Derived.Test.YthicocmnefaioaaZm6
namespace Go.Proofs.Ythicocmnefaioaa.QS
open Go.RowKit Go.Proofs.YthicocmnefaioaaW.dx Go.Proofs.YthicocmnefaioaaW.jF Go.Proofs.YthicocmnefaioaaW.lI
open Go.Proofs.YthicocmnefaioaaW.Sq
attribute [local go_sem] pY pW sD sw og nZ pX pR
set_option linter.unusedVariables false
set_option linter.unusedSimpArgs false
attribute [local go_sem high] jX
def eB.l0 : Nat → List (S51) → Int → Option ((List (S51)) × Int)
 | 0, _, _ => none
 | k + 1, x0, x4 => if x4 < (x0.length : Int) then (if 0 ≤ x4 then ((bD.f k ((aD x0 x4).f0)).bind fun t470 => (if t470 = true then ((d9.f ((aD x0 x4).f1)).bind fun t472 => (if t472 = true then (eB.l0 k x0 (wrap64 (x4 + 1))) else (some (([] : List (S51)), 1)))) else (some (([] : List (S51)), 1)))) else (none)) else ((dN.f k x0).bind fun t462 => ((eX.f k t462).bind fun bt465 => (some (bt465.1, bt465.2))))
def eB.f (k : Nat) (l0 : List (S51)) : Option ((List (S51)) × Int) := eB.l0 k l0 0
set_option maxHeartbeats 8000000 in
set_option maxRecDepth 100000 in
theorem eB.calls (k : Nat) (P0_ : Nat → Prop) (A0 : Option Addr) (c0 : Nat) (l0 : List (S51)) (r1 : List (S51)) (r2 : Int) (w : World) (hs0 : Kd.V k51 51 w w.heap.size (fun k_ => P0_ k_) (.slice A0 l0.length c0) l0) (h : eB.f k l0 = some (r1, r2)) :
  Calls Try.prog 54 #[.slice A0 l0.length c0] w fun e w' => ∃ v0_ : Value, e = .returned (.tuple #[v0_, .int .i64 r2]) ∧ Kd.V k51 51 w' w.heap.size (fun k_ => (P0_ k_ ∨ w.heap.size ≤ k_)) v0_ r1 ∧ Below w.heap.size w w' := by
 have HO0 := ah.mk (show Kd.V k51 51 w w.heap.size (fun k_ => (P0_ k_ ∨ w.heap.size ≤ k_)) (.slice A0 l0.length c0) l0 from Kd.iE hs0 (fun k_ hk => .inl hk)); have HB := ah.mk (Below.refl w.heap.size w); have H := h; clear h
 dsimp only [eB.f] at H
 have H' := ah.mk H; clear H
 go_enter Try.func54, Try.ntmps54
 go_wp2
 go_loopg [4] k (fun kq v4 w' => ∃ (jE : Int), v4 = .int .i64 jE ∧ ah (eB.l0 kq l0 jE = some (r1, r2)) ∧ ah (kq ≤ k) ∧ ah (Kd.V k51 51 w' w.heap.size (fun k_ => (P0_ k_ ∨ w.heap.size ≤ k_)) (.slice A0 l0.length c0) l0) ∧ ah (Below w.heap.size w w'))
 case atStart => exact ⟨(0), zz2, H', ⟨Nat.le_refl _⟩, ⟨Gh⟩, ⟨zz1⟩⟩
 case round =>
  clear H'; obtain ⟨jE, rfl, HA, HK1, jR, HB⟩ := hrel
  cases gk with
  | zero => exact absurd HA.out (by simp [eB.l0])
  | succ k1 =>
   have H := HA.out; clear HA; simp only [eB.l0] at H
   by_cases c2 : jE < (l0.length : Int)
   ·rw [if_pos c2] at H; have oH : decide (jE < (l0.length : Int)) = true := decide_eq_true c2; clear c2
    by_cases c3 : 0 ≤ jE
    ·rw [if_pos c3] at H; have tY : decide (0 ≤ jE) = true := decide_eq_true c3; clear c3; replace H := Option.bind_eq_some_iff.mp H; obtain ⟨t470, A40, H⟩ := H; have A4 := ah.mk A40; clear A40
     by_cases c5 : t470 = true
     ·subst c5; rw [if_pos rfl] at H; replace H := Option.bind_eq_some_iff.mp H; obtain ⟨t472, A60, H⟩ := H; have A6 := ah.mk A60; clear A60
      by_cases c7 : t472 = true
      ·subst c7; rw [if_pos rfl] at H; have H' := ah.mk H; clear H; have AV : 0 ≤ (jE : Int) := of_decide_eq_true zz9; have EP : jE < (l0.length : Int) := of_decide_eq_true zz9; obtain ⟨Uf, Iy, HY, e469, Bd, Rx, uZ, vg⟩ := fZ (Kd.dL jR.out).2.2 jE AV EP
       cases e469
       obtain ⟨ce469, G6, Hq, yG⟩ := Kd.qw jR.out z51 jE AV zz94; obtain ⟨Rq, Rp, rfl, pO, qo⟩ := jw Hq; have nA := yG 0 _ rfl; rw [Nat.add_zero] at nA; replace nA := Option.some.inj (nA.symm.trans Bd); injection nA with ko ng kg; rw [ko] at qo; rw [kg] at pO; have zJ := ah.mk (show Kd.V k23 23 _ w.heap.size _ _ ((aD l0 jE).f0) from Kd.vM pO qo); clear ko ng kg qo pO; clear yG G6; have fD := ah.mk vg; have gN := ah.mk uZ; clear vg uZ; replace AV := eq_true AV; replace EP := eq_true EP
       go_wp2_with (first | ((with_reducible refine aN (f := 88) rfl ?_); refine bU (some 16) rfl rfl Try.func88 (by kernel_rfl) rfl #[.slice Iy ((aD l0 jE).f0).length HY] rfl zz8 ?_; (with_reducible refine (bD.calls k1 _ _ ((aD l0 jE).f0) true _ ?bO ?bR A4.out).mono ?_); (case bO => repeat (first | exact Jy | (with_reducible refine Kd.dF ?_ _) | (with_reducible refine Kd.dI ?_ _) | (with_reducible refine Kd.dZ ?_))); (case bR => exact gN.out); rintro e w8 ⟨rfl, hb⟩; refine ⟨_, rfl, ?_⟩; replace jR := ah.mk (Kd.iM uf hb); replace zJ := ah.mk (Kd.iM zz95 hb); replace fD := ah.mk (Kd.eZ Jy hb); replace HB := ah.mk (av zz1 hb); (try clear hb); (try clear hb2); (try clear hk); (try clear hi); have J7 : 0 ≤ (jE : Int) := of_decide_eq_true zz9; have JZ : jE < (l0.length : Int) := of_decide_eq_true zz9; obtain ⟨Xa, A471_0, c471_0, e471, Kk, YA, BP, Cg⟩ := fZ (Kd.dL jR.out).2.2 jE J7 JZ; obtain rfl : Uf = Xa := (by injection e471); obtain ⟨ce471, PV, Qp, G8⟩ := Kd.qw jR.out z51 jE J7 (by first | exact JZ | exact of_decide_eq_true zz9 | (have e_ := (Kd.dL jR.out).1; omega)); obtain ⟨Yf, Ya, rfl, wB, xA⟩ := jw Qp; have tq := G8 0 _ rfl; rw [Nat.add_zero] at tq; replace tq := Option.some.inj (tq.symm.trans Kk); injection tq with ko ng kg; rw [ko] at xA; rw [kg] at wB; have aaC := ah.mk (show Kd.V k23 23 _ w.heap.size _ _ ((aD l0 jE).f0) from Kd.vM wB xA); clear ko ng kg xA wB; clear G8 PV; have kK := ah.mk Cg; have qB := ah.mk BP; clear Cg BP; replace J7 := eq_true J7; replace JZ := eq_true JZ) | (go_at_call 89; (with_reducible refine (d9.calls ((aD l0 jE).f1) true _ A6.out).mono ?_); rintro e w' ⟨rfl, ⟨nd, rfl⟩⟩))
       go_roundg k1
       case measure => have := HK1.out; omega
       case rel => exact ⟨(wrap64 (jE + 1)), zz2, H', ⟨by have := HK1.out; omega⟩, ⟨uf⟩, ⟨zz1⟩⟩
      ·replace c7 := Bool.eq_false_iff.mpr c7; subst c7; rw [if_neg (show ¬ (false = true) by decide)] at H; simp only [Option.some.injEq, Prod.mk.injEq] at H; obtain ⟨rfl, rfl⟩ := H; have AV : 0 ≤ (jE : Int) := of_decide_eq_true zz9; have EP : jE < (l0.length : Int) := of_decide_eq_true zz9; obtain ⟨Uf, Iy, HY, e469, Bd, Rx, uZ, vg⟩ := fZ (Kd.dL jR.out).2.2 jE AV EP
       cases e469
       obtain ⟨ce469, G6, Hq, yG⟩ := Kd.qw jR.out z51 jE AV zz94; obtain ⟨Rq, Rp, rfl, pO, qo⟩ := jw Hq; have nA := yG 0 _ rfl; rw [Nat.add_zero] at nA; replace nA := Option.some.inj (nA.symm.trans Bd); injection nA with ko ng kg; rw [ko] at qo; rw [kg] at pO; have zJ := ah.mk (show Kd.V k23 23 _ w.heap.size _ _ ((aD l0 jE).f0) from Kd.vM pO qo); clear ko ng kg qo pO; clear yG G6; have fD := ah.mk vg; have gN := ah.mk uZ; clear vg uZ; replace AV := eq_true AV; replace EP := eq_true EP
       go_wp2_with (first | ((with_reducible refine aN (f := 88) rfl ?_); refine bU (some 16) rfl rfl Try.func88 (by kernel_rfl) rfl #[.slice Iy ((aD l0 jE).f0).length HY] rfl zz8 ?_; (with_reducible refine (bD.calls k1 _ _ ((aD l0 jE).f0) true _ ?bO ?bR A4.out).mono ?_); (case bO => repeat (first | exact Jy | (with_reducible refine Kd.dF ?_ _) | (with_reducible refine Kd.dI ?_ _) | (with_reducible refine Kd.dZ ?_))); (case bR => exact gN.out); rintro e w9 ⟨rfl, hb⟩; refine ⟨_, rfl, ?_⟩; replace jR := ah.mk (Kd.iM uf hb); replace zJ := ah.mk (Kd.iM zz95 hb); replace fD := ah.mk (Kd.eZ Jy hb); replace HB := ah.mk (av zz1 hb); (try clear hb); (try clear hb2); (try clear hk); (try clear hi); have J7 : 0 ≤ (jE : Int) := of_decide_eq_true zz9; have JZ : jE < (l0.length : Int) := of_decide_eq_true zz9; obtain ⟨Xa, A471_0, c471_0, e471, Kk, YA, BP, Cg⟩ := fZ (Kd.dL jR.out).2.2 jE J7 JZ; obtain rfl : Uf = Xa := (by injection e471); obtain ⟨ce471, PV, Qp, G8⟩ := Kd.qw jR.out z51 jE J7 (by first | exact JZ | exact of_decide_eq_true zz9 | (have e_ := (Kd.dL jR.out).1; omega)); obtain ⟨Yf, Ya, rfl, wB, xA⟩ := jw Qp; have tq := G8 0 _ rfl; rw [Nat.add_zero] at tq; replace tq := Option.some.inj (tq.symm.trans Kk); injection tq with ko ng kg; rw [ko] at xA; rw [kg] at wB; have aaC := ah.mk (show Kd.V k23 23 _ w.heap.size _ _ ((aD l0 jE).f0) from Kd.vM wB xA); clear ko ng kg xA wB; clear G8 PV; have kK := ah.mk Cg; have qB := ah.mk BP; clear Cg BP; replace J7 := eq_true J7; replace JZ := eq_true JZ) | (go_at_call 89; (with_reducible refine (d9.calls ((aD l0 jE).f1) false _ A6.out).mono ?_); rintro e w' ⟨rfl, ⟨nd, rfl⟩⟩))
       go_ret2
       exact ⟨_, zz6, (Kd.Il _ _ _ _ _), zz1⟩
     ·replace c5 := Bool.eq_false_iff.mpr c5; subst c5; rw [if_neg (show ¬ (false = true) by decide)] at H; simp only [Option.some.injEq, Prod.mk.injEq] at H; obtain ⟨rfl, rfl⟩ := H; have AV : 0 ≤ (jE : Int) := of_decide_eq_true zz9; have EP : jE < (l0.length : Int) := of_decide_eq_true zz9; obtain ⟨Uf, Iy, HY, e469, Bd, Rx, uZ, vg⟩ := fZ (Kd.dL jR.out).2.2 jE AV EP
      cases e469
      obtain ⟨ce469, G6, Hq, yG⟩ := Kd.qw jR.out z51 jE AV zz94; obtain ⟨Rq, Rp, rfl, pO, qo⟩ := jw Hq; have nA := yG 0 _ rfl; rw [Nat.add_zero] at nA; replace nA := Option.some.inj (nA.symm.trans Bd); injection nA with ko ng kg; rw [ko] at qo; rw [kg] at pO; have zJ := ah.mk (show Kd.V k23 23 _ w.heap.size _ _ ((aD l0 jE).f0) from Kd.vM pO qo); clear ko ng kg qo pO; clear yG G6; have fD := ah.mk vg; have gN := ah.mk uZ; clear vg uZ; replace AV := eq_true AV; replace EP := eq_true EP
      go_wp2_with (first | ((with_reducible refine aN (f := 88) rfl ?_); refine bU (some 16) rfl rfl Try.func88 (by kernel_rfl) rfl #[.slice Iy ((aD l0 jE).f0).length HY] rfl zz8 ?_; (with_reducible refine (bD.calls k1 _ _ ((aD l0 jE).f0) false _ ?bO ?bR A4.out).mono ?_); (case bO => repeat (first | exact Jy | (with_reducible refine Kd.dF ?_ _) | (with_reducible refine Kd.dI ?_ _) | (with_reducible refine Kd.dZ ?_))); (case bR => exact gN.out); rintro e w10 ⟨rfl, hb⟩; refine ⟨_, rfl, ?_⟩; replace jR := ah.mk (Kd.iM uf hb); replace zJ := ah.mk (Kd.iM zz95 hb); replace fD := ah.mk (Kd.eZ Jy hb); replace HB := ah.mk (av zz1 hb); (try clear hb); (try clear hb2); (try clear hk); (try clear hi)))
      go_ret2
      exact ⟨_, zz6, (Kd.Il _ _ _ _ _), zz1⟩
    ·rw [if_neg c3] at H; exact absurd H (by simp)
   ·rw [if_neg c2] at H; have oH : decide (jE < (l0.length : Int)) = false := decide_eq_false c2; clear c2; replace H := Option.bind_eq_some_iff.mp H; obtain ⟨t462, yP, H⟩ := H; have A11 := ah.mk yP; clear yP; replace H := Option.bind_eq_some_iff.mp H; obtain ⟨⟨t465, t468⟩, N7, H⟩ := H
    try dsimp only at H
    have A12 := ah.mk N7; clear N7; simp only [Option.some.injEq, Prod.mk.injEq] at H; obtain ⟨rfl, rfl⟩ := H
    go_wp2_with (first | ((with_reducible refine aN (f := 90) rfl ?_); refine bU (some 28) rfl rfl Try.func90 (by kernel_rfl) rfl #[.slice A0 l0.length c0] rfl zz8 ?_; (with_reducible refine (dN.calls k1 (fun k_ => (P0_ k_ ∨ w.heap.size ≤ k_)) _ _ l0 t462 _ ?bO A11.out).mono ?_); (case bO => exact jR.out); rintro e w13 ⟨v463, rfl, ho0, hb⟩; refine ⟨_, rfl, ?_⟩; replace jR := ah.mk (Kd.fQ uf (Kd.mE ho0) hb); have iT := ah.mk (Kd.vG (Kd.uK (ok' := fun k_ => (P0_ k_ ∨ w.heap.size ≤ k_)) ho0 (fun k_ hk_ => Or.elim hk_ (fun hs_ => hs_) (fun hn_ => (.inr (Nat.le_trans (bS zz1) hn_))))) (bS zz1)); replace HB := ah.mk (av zz1 hb); (try clear hb); (try clear hb2); (try clear hk); (try clear hi); (try clear ho0); obtain ⟨Vm, Ve, eo14⟩ := Kd.xK iT.out; subst eo14) | ((with_reducible refine aN (f := 60) rfl ?_); refine bU (some 29) rfl rfl Try.func60 (by kernel_rfl) rfl #[.slice Vm t462.length Ve] rfl zz8 ?_; (with_reducible refine (eX.calls k1 (fun k_ => (P0_ k_ ∨ w.heap.size ≤ k_)) _ _ t462 t465 t468 _ ?bO A12.out).mono ?_); (case bO => exact Kd.N_V (iT.out)); rintro e w15 ⟨v466, rfl, ho0, hb⟩; refine ⟨_, rfl, ?_⟩; replace jR := ah.mk (Kd.iM uf hb); replace iT := ah.mk (Kd.zH (by (with_reducible repeat (first | apply Kd.rP | apply Kd.rO | apply Kd.pz)); exact iT.out) hb); have kT := ah.mk (Kd.zG (Kd.iE (ok' := fun k_ => (P0_ k_ ∨ w.heap.size ≤ k_)) ho0 (fun k_ hk_ => Or.elim hk_ (fun hs_ => hs_) (fun hn_ => (.inr (Nat.le_trans (bS zz1) hn_))))) (bS zz1)); replace HB := ah.mk (av zz1 hb); (try clear hb); (try clear hb2); (try clear hk); (try clear hi); (try clear ho0)))
    go_ret2
    exact ⟨_, zz6, zz92, zz1⟩
def dK.l0 : Nat → Bool → List (S51) → Int → List Int → Int → Option ((List (S51)) × Int)
 | 0, _, _, _, _, _ => none
 | k + 1, x3, x9, x10, x1000, oD => if x10 < (x9.length : Int) then (if x3 = true then (dK.l0 k x3 x9 (wrap64 (x10 + 1)) x1000 oD) else (if 0 ≤ x10 then (if ((aD x9 x10).f1) < 0 then (dK.l0 k x3 (x9.set (x10 : Int).toNat (⟨(aD x9 x10).f0, wrap64 (-((aD x9 x10).f1))⟩ : S51)) (wrap64 (x10 + 1)) x1000 oD) else (dK.l0 k x3 x9 (wrap64 (x10 + 1)) x1000 oD)) else (none))) else ((eB.f k x9).bind fun bt480 => (some (bt480.1, oD)))
def dK.f (k : Nat) (eH : List Int) (jM : Int) (a1 : Int) (a2 : Int) (a3 : Bool) : Option ((List (S51)) × Int) := (bM.f k eH jM a1 a2).bind fun bt473 => (dK.l0 k a3 bt473.1 0 eH bt473.2)
set_option maxHeartbeats 8000000 in
set_option maxRecDepth 100000 in
theorem dK.calls (k : Nat) (g : Nat) (eH : List Int) (jM : Int) (a1 : Int) (a2 : Int) (a3 : Bool) (r1 : List (S51)) (r2 : Int) (w0 w : World) (hI : aH w0 w g eH jM) (hB : Below w0.heap.size w0 w) (h : dK.f k eH jM a1 a2 a3 = some (r1, r2)) :
  Calls Try.prog 20 #[.pointer (some ⟨g, 0, none⟩), .int .i64 a1, .int .i64 a2, .bool a3] w fun e w' => ∃ v0_ : Value, e = .returned (v0_) ∧ Kd.V k51 51 w' w.heap.size (fun k_ => (w.heap.size ≤ k_)) v0_ r1 ∧ aH w0 w' g eH r2 ∧ Below w0.heap.size w0 w' ∧ bQ w w' g none := by
 have HI0 := ah.mk hI; have HK := ah.mk (bQ.refl w g none); have HL := ah.mk hB.size; clear hI; have HW0 := ah.mk hB.size; have HB := ah.mk hB; clear hB; have H := h; clear h
 dsimp only [dK.f] at H
 replace H := Option.bind_eq_some_iff.mp H; obtain ⟨⟨t473, t476⟩, A50, H⟩ := H
 try dsimp only at H
 have A5 := ah.mk A50; clear A50; have H' := ah.mk H; clear H
 go_enter Try.func20, Try.ntmps20
 go_wp2_with (first | ((with_reducible refine aN (f := 53) rfl ?_); refine bU (some 16) rfl rfl Try.func53 (by kernel_rfl) rfl #[.pointer (some ⟨g, 0, none⟩), .int .i64 a1, .int .i64 a2] rfl zz8 ?_; (with_reducible refine (bM.calls k g eH jM a1 a2 t473 t476 w0 _ ?bO ?bR A5.out).mono ?_); (case bO => repeat (first | (with_reducible first | exact HI0.out | apply aH.alloc | apply aH.drewN | apply aH.drew | apply aH.iY) | exact HI0.out)); (case bR => repeat (first | (with_reducible first | exact HB.out | apply dB | apply cO | apply bL | refine cu ?_ (aH.ge HI0.out)) | exact HB.out)); rintro e w6 ⟨v474, rfl, ho0, hi, hb, hk⟩; refine ⟨_, rfl, ?_⟩; have lD := ah.mk (Kd.aau (Kd.S_newM (M := fun k_ => (w.heap.size ≤ k_)) ho0 (lH (w := w) (g := g) (row := none) nU) (fun k_ h_ => h_)) (lH (w := w) (g := g) (row := none) nU)); replace HK := ah.mk (bQ.trans nU hk (.inl rfl)); replace HB := ah.mk (hb); replace HI0 := ah.mk (hi); (try clear hb); (try clear hb2); (try clear hk); (try clear hi); (try clear ho0)))
 go_loopg [10] k (fun kq v10 w' => ∃ (jA : List (S51)) (iZ : Int), v10 = .int .i64 iZ ∧ ah (dK.l0 kq a3 jA iZ eH t476 = some (r1, r2)) ∧ ah (kq ≤ k) ∧ ah (Kd.S k51 51 w' w.heap.size (fun k_ => (w.heap.size ≤ k_)) v474 jA) ∧ ah (aH w0 w' g eH t476) ∧ ah (bQ w w' g none) ∧ ah (Below w0.heap.size w0 w'))
 case atStart => exact ⟨(t473), (0), zz2, H', ⟨Nat.le_refl _⟩, ⟨by (with_reducible repeat (first | apply Kd.vE | apply Kd.vD | apply Kd.yM)); exact Kd.vN lD.out (fun _ hk => hk.1)⟩, ⟨rV⟩, ⟨nU⟩, ⟨ug⟩⟩
 case round =>
  clear H'; (try clear c2); (try clear p2); (try clear c5); obtain ⟨jA, iZ, rfl, HA, HK1, nT, HI0, HK, HB⟩ := hrel
  cases gk with
  | zero => exact absurd HA.out (by simp [dK.l0])
  | succ k1 =>
   have H := HA.out; clear HA; simp only [dK.l0] at H
   by_cases c7 : iZ < (jA.length : Int)
   ·rw [if_pos c7] at H; have qp : decide (iZ < (jA.length : Int)) = true := decide_eq_true c7; clear c7
    by_cases c8 : a3 = true
    ·subst c8; rw [if_pos rfl] at H; have H' := ah.mk H; clear H; obtain ⟨Ao9, co9, eo9⟩ := Kd.F5 nT.out; subst eo9
     go_wp2
     go_roundg k1
     case measure => have := HK1.out; omega
     case rel => exact ⟨(jA), (wrap64 (iZ + 1)), zz2, H', ⟨by have := HK1.out; omega⟩, ⟨zz96⟩, ⟨rV⟩, ⟨nU⟩, ⟨ug⟩⟩
    ·replace c8 := Bool.eq_false_iff.mpr c8; subst c8; rw [if_neg (show ¬ (false = true) by decide)] at H
     by_cases c10 : 0 ≤ iZ
     ·rw [if_pos c10] at H; have xM : decide (0 ≤ iZ) = true := decide_eq_true c10; clear c10
      by_cases c11 : ((aD jA iZ).f1) < 0
      ·rw [if_pos c11] at H; have T9 : decide (((aD jA iZ).f1) < 0) = true := decide_eq_true c11; clear c11; obtain ⟨y479, MH⟩ : ∃ y_ : List (S51), y_ = (jA.set (iZ : Int).toNat (⟨(aD jA iZ).f0, wrap64 (-((aD jA iZ).f1))⟩ : S51)) := ⟨_, rfl⟩; replace H : (dK.l0 k1 false y479 (wrap64 (iZ + 1)) eH t476) = some (r1, r2) := by first | (rw [MH]; with_reducible exact H) | (have H2_ := (Option.bind_some _ _).symm.trans H; rw [MH]; with_reducible exact H2_) | (have H2_ := (Option.bind_some _ _).symm.trans H; with_reducible exact H2_) | with_reducible exact H | (rw [MH]; exact H) | exact H
       have Ny479 := ah.mk MH; clear MH; have H' := ah.mk H; clear H; obtain ⟨Ao13, Ny, eo13⟩ := Kd.F5 nT.out; subst eo13; have J6 : 0 ≤ (iZ : Int) := of_decide_eq_true zz9; have JY : iZ < (jA.length : Int) := of_decide_eq_true zz9; obtain ⟨ad477, A477_0, c477_0, e477, Bc, Rw, BO, Ce⟩ := fZ (Kd.rT nT.out).2.2 iZ J6 JY
       cases e477
       obtain ⟨ce477, PU, Qo, G7⟩ := Kd.Xh nT.out z51 iZ J6 (by first | exact JY | exact of_decide_eq_true zz9 | (have e_ := (Kd.rT nT.out).1; omega)); obtain ⟨X9, rfl, xw⟩ := vR Qo; have p9 := G7 0 _ rfl; rw [Nat.add_zero] at p9; replace p9 := Option.some.inj (p9.symm.trans Bc); rw [p9] at xw; have LJ := ah.mk (show Kd.R k23 23 _ _ _ _ ((aD jA iZ).f0) from xw); clear p9 xw; clear G7 PU; have kK := ah.mk Ce; have qB := ah.mk BO; clear Ce BO; replace J6 := eq_true J6; replace JY := eq_true JY; have p478 : 0 ≤ (iZ : Int) := of_decide_eq_true zz9; have q478 : iZ < (jA.length : Int) := of_decide_eq_true zz9; obtain ⟨ad478, A478_0, c478_0, e478, Kj, Yz, RN, R3⟩ := fZ (Kd.rT nT.out).2.2 iZ p478 q478; obtain rfl : ad477 = ad478 := (by injection e478); obtain ⟨ce478, hce478, hMe478, Wh⟩ := Kd.Xh nT.out z51 iZ p478 (by first | exact q478 | exact of_decide_eq_true zz9 | (have e_ := (Kd.rT nT.out).1; omega)); obtain ⟨ve478_0, rfl, K8⟩ := vR hMe478; have BJ := Wh 0 _ rfl; rw [Nat.add_zero] at BJ; replace BJ := Option.some.inj (BJ.symm.trans Kj); rw [BJ] at K8; have Um := ah.mk (show Kd.R k23 23 _ _ _ _ ((aD jA iZ).f0) from K8); clear BJ K8; clear Wh hce478; have lq := ah.mk R3; have qA := ah.mk RN; clear R3 RN; replace p478 := eq_true p478; replace q478 := eq_true q478; have ea_ := Option.some.inj (Bc.symm.trans Kj); injection ea_ with ea_ en_ ec_; subst ea_; subst ec_; clear en_; have p12 : 0 ≤ (iZ : Int) := of_decide_eq_true zz9; have q12 : (iZ : Int) < ((jA.length : Int) : Int) := of_decide_eq_true zz9; obtain ⟨ET, co12, eo12, gb12, gl12, cl12, HG12⟩ := Kd.S_form nT.out (by omega); (first | cases eo12 | (injection eo12 with ea_ en_ ec_; (first | subst ea_ | (injection ea_ with ea_; subst ea_)); subst ec_; clear en_)); have GB12 := ah.mk gb12; have GG12 := ah.mk HG12; clear gb12 gl12 HG12; (first | simp only [add_plain] at Bc | skip); (first | simp only [add_plain] at Rw | skip); (first | simp only [add_plain] at Kj | skip); (first | simp only [add_plain] at Yz | skip); obtain ⟨_, ce12, hcl12, hM12, Wq, VY, _, _⟩ := Kd.Xi nT.out z51 (iZ : Int) p12 q12; obtain ⟨ve12_0, rfl, ge12_0⟩ := vR hM12; have hx12_0 : wr.cell? ⟨ET, (iZ : Int).toNat * 2, none⟩ = some (ve12_0) := Wq 0 _ rfl; have hx12_1 : wr.cell? ⟨ET, (iZ : Int).toNat * 2 + 1, none⟩ = some (.int .i64 ((aD jA iZ).f1)) := Wq 1 _ rfl; have hf12_0 : wr.frozen? ⟨ET, (iZ : Int).toNat * 2, none⟩ = false := VY 0; have hf12_1 : wr.frozen? ⟨ET, (iZ : Int).toNat * 2 + 1, none⟩ = false := VY 1; clear hcl12 Wq VY hM12; replace p12 := eq_true p12; replace q12 := eq_true q12; have HX14 := ah.mk (show Kd.S k51 51 wr w.heap.size (fun k_ => ((fun k_ => (w.heap.size ≤ k_))) k_ ∧ ¬ ((fun _ => False)) k_) (.slice (some ⟨ET, 0, none⟩) jA.length Ny) jA from (by (with_reducible repeat (first | apply Kd.vE | apply Kd.vD | apply Kd.yM)); exact Kd.vN nT.out (fun k_ hk => ⟨hk, fun e_ => e_⟩))); obtain ⟨oki14, ce14, hcl14, hM14, hcc14, hfr14, hoki14, hH14⟩ := Kd.Xi HX14.out z51 (iZ : Int) (of_decide_eq_true zz9) (by have h_ : (iZ : Int) < ((jA.length : Int) : Int) := of_decide_eq_true zz9; first | exact h_ | (have e_ := (Kd.rT nT.out).1; omega) | simpa using h_); obtain ⟨ve14_0, rfl, ge14_0⟩ := vR hM14; have HP14 := Kd.S_seg hH14 (of_decide_eq_true zz9) (by have h_ : (iZ : Int) < ((jA.length : Int) : Int) := of_decide_eq_true zz9; first | exact h_ | (have e_ := (Kd.rT nT.out).1; omega) | simpa using h_) (seg := [.int .i64 (wrap64 (-((aD jA iZ).f1)))]) (j := 1) (show 2 ≤ 2 from by decide) (x' := (⟨(aD jA iZ).f0, wrap64 (-((aD jA iZ).f1))⟩ : S51)) (Rv _ _ _ (⟨(aD jA iZ).f0, wrap64 (-((aD jA iZ).f1))⟩ : S51) (Kd.eO ge14_0 (fun _ h_ => Or.inl h_))) (fun _ hk => hk) (fun k_ hk_ => hk_.elim); have hx14_1 := hcc14 1 _ rfl; (try simp only [show (k51).sz = 2 from rfl, Nat.mul_one, Nat.add_zero] at hx14_1); have hf14_1 := hfr14 1; (try simp only [show (k51).sz = 2 from rfl, Nat.mul_one, Nat.add_zero] at hf14_1); clear hcl14 hcc14 hfr14 hM14 hoki14 hH14
       go_wp2_with (first | ((with_reducible refine pq (t := 2) (p := 42) rfl ?_); refine nX (t := 2) (p := 42) (v := ?vo_w15) (w1 := (wr.setCell ⟨ET, (iZ : Int).toNat * 2 + 1, none⟩ (.int .i64 (wrap64 (-((aD jA iZ).f1)))))) ?hg ?ho ?hn ?hr ?_; (case ho => rfl); (case hg => rfl); (case hn => rfl); (case hr => first | (go_simp; done) | (go_simp; rfl)); intro w15 hw; have hg : wr.grownBy w15 (some ET) := (by rw [hw]; exact HP14.2); have hp_ : Kd.S k51 51 w15 w.heap.size (fun k_ => (w.heap.size ≤ k_)) (.slice (some ⟨ET, 0, none⟩) jA.length Ny) y479 := (by rw [hw, Ny479.out]; exact HP14.1); clear HP14; replace HI0 := ah.mk (aH.grown rV hg (aH.Rt HI0.out nT.out (by decide))); replace LJ := ah.mk (Kd.F7 (v := (.slice (some ⟨ET, 0, none⟩) jA.length Ny)) (v1 := (.slice (some ⟨ET, 0, none⟩) jA.length Ny)) (ok := (fun k_ => (w.heap.size ≤ k_))) (by (with_reducible repeat (first | apply Kd.gu | apply Kd.fV | apply Kd.gY)); exact LJ.out) hg (.inl rfl)); replace Um := ah.mk (Kd.F7 (v := (.slice (some ⟨ET, 0, none⟩) jA.length Ny)) (v1 := (.slice (some ⟨ET, 0, none⟩) jA.length Ny)) (ok := (fun k_ => (w.heap.size ≤ k_))) (by (with_reducible repeat (first | apply Kd.gu | apply Kd.fV | apply Kd.gY)); exact Um.out) hg (.inl rfl)); replace HB := ah.mk ((by rw [hw]; exact cu (HB.out) (Nat.le_trans HL.out GB12.out) : Below w0.heap.size w0 w15)); replace HK := ah.mk (bQ.trans nU (bQ.uD hg g) (Kd.Uj nT.out)); replace nT := ah.mk (hp_); clear hg hw hp_))
       go_roundg k1
       case measure => have := HK1.out; omega
       case rel => exact ⟨(y479), (wrap64 (iZ + 1)), zz2, H', ⟨by have := HK1.out; omega⟩, ⟨zz96⟩, ⟨rV⟩, ⟨nU⟩, ⟨ug⟩⟩
      ·rw [if_neg c11] at H; have T9 : decide (((aD jA iZ).f1) < 0) = false := decide_eq_false c11; clear c11; have H' := ah.mk H; clear H; obtain ⟨Ao16, co16, eo16⟩ := Kd.F5 nT.out; subst eo16; have J6 : 0 ≤ (iZ : Int) := of_decide_eq_true zz9; have JY : iZ < (jA.length : Int) := of_decide_eq_true zz9; obtain ⟨ad477, A477_0, c477_0, e477, Bc, Rw, BO, Ce⟩ := fZ (Kd.rT nT.out).2.2 iZ J6 JY
       cases e477
       obtain ⟨ce477, PU, Qo, G7⟩ := Kd.Xh nT.out z51 iZ J6 (by first | exact JY | exact of_decide_eq_true zz9 | (have e_ := (Kd.rT nT.out).1; omega)); obtain ⟨X9, rfl, xw⟩ := vR Qo; have p9 := G7 0 _ rfl; rw [Nat.add_zero] at p9; replace p9 := Option.some.inj (p9.symm.trans Bc); rw [p9] at xw; have LJ := ah.mk (show Kd.R k23 23 _ _ _ _ ((aD jA iZ).f0) from xw); clear p9 xw; clear G7 PU; have kK := ah.mk Ce; have qB := ah.mk BO; clear Ce BO; replace J6 := eq_true J6; replace JY := eq_true JY
       go_wp2
       go_roundg k1
       case measure => have := HK1.out; omega
       case rel => exact ⟨(jA), (wrap64 (iZ + 1)), zz2, H', ⟨by have := HK1.out; omega⟩, ⟨zz96⟩, ⟨rV⟩, ⟨nU⟩, ⟨ug⟩⟩
     ·rw [if_neg c10] at H; exact absurd H (by simp)
   ·rw [if_neg c7] at H; have qp : decide (iZ < (jA.length : Int)) = false := decide_eq_false c7; clear c7; replace H := Option.bind_eq_some_iff.mp H; obtain ⟨⟨t480, t483⟩, Iz, H⟩ := H
    try dsimp only at H
    have A17 := ah.mk Iz; clear Iz; simp only [Option.some.injEq, Prod.mk.injEq] at H; obtain ⟨rfl, rfl⟩ := H; obtain ⟨Ao18, co18, eo18⟩ := Kd.F5 nT.out; subst eo18
    go_wp2_with (first | ((with_reducible refine aN (f := 54) rfl ?_); refine bU (some 45) rfl rfl Try.func54 (by kernel_rfl) rfl #[.slice Ao18 jA.length co18] rfl zz8 ?_; (with_reducible refine (eB.calls k1 (fun k_ => ((w.heap.size ≤ k_) ∧ k_ ≠ g)) _ _ jA t480 t483 _ ?bO A17.out).mono ?_); (case bO => exact Kd.S_V (aH.QD HI0.out (nT.out) (by decide))); rintro e w19 ⟨v481, rfl, ho0, hb⟩; refine ⟨_, rfl, ?_⟩; replace nT := ah.mk (Kd.Ui zz96 hb); have kT := ah.mk (Kd.zG (Kd.iE (ok' := fun k_ => (w.heap.size ≤ k_) ∧ k_ ≠ g) ho0 (fun k_ hk_ => ⟨Or.elim hk_ (fun hs_ => hs_.1) (fun hn_ => (Nat.le_trans (lH (w := w) (g := g) (row := none) nU) hn_)), Or.elim hk_ (fun hs_ => hs_.2) (fun hn_ => (aH.fresh rV k_ hn_))⟩)) (lH (w := w) (g := g) (row := none) nU)); replace HK := ah.mk (bQ.trans nU (bQ.of_below hb g none) (.inl rfl)); replace HB := ah.mk (av ug hb); replace HI0 := ah.mk (aH.below rV hb); (try clear hb); (try clear hb2); (try clear hk); (try clear hi); (try clear ho0)))
    go_ret
    exact ⟨_, zz6, by (with_reducible repeat (first | apply Kd.iW | apply Kd.iR | apply Kd.iQ)); exact Kd.iE kT.out (fun _ hk => hk.1), rV, ug, nU⟩
def dQ.l0 : Nat → List Int → List Int → Int → Option (Bool)
 | 0, _, _, _ => none
 | k + 1, x0, x1, x5 => if x5 < (x0.length : Int) then (if 0 ≤ x5 then (if x5 < (x1.length : Int) then (if (rd x0 x5) = (rd x1 x5) then (dQ.l0 k x0 x1 (wrap64 (x5 + 1))) else (some false)) else (none)) else (none)) else (some true)
def dQ.f (k : Nat) (l0 : List Int) (l1 : List Int) : Option (Bool) := if (l0.length : Int) = (l1.length : Int) then (dQ.l0 k l0 l1 0) else (some false)
set_option maxHeartbeats 8000000 in
set_option maxRecDepth 100000 in
theorem dQ.calls (k : Nat) (A0 : Option Addr) (c0 : Nat) (l0 : List Int) (A1 : Option Addr) (c1 : Nat) (l1 : List Int) (r : Bool) (w : World) (hr0 : Kd.C (Kd.int .i64) w A0 l0.length l0) (hc0 : l0.length ≤ c0) (hr1 : Kd.C (Kd.int .i64) w A1 l1.length l1) (hc1 : l1.length ≤ c1) (h : dQ.f k l0 l1 = some r) :
  Calls Try.prog 30 #[.slice A0 l0.length c0, .slice A1 l1.length c1] w fun e w' => e = .returned (.bool r) ∧ mG w w' := by
 have HR0 := ah.mk hr0; have HC0 := ah.mk hc0; clear hr0 hc0; have HR1 := ah.mk hr1; have HC1 := ah.mk hc1; clear hr1 hc1; have H := h; clear h
 dsimp only [dQ.f] at H
 by_cases c3 : (l0.length : Int) = (l1.length : Int)
 ·rw [if_pos c3] at H; have tY : ((l0.length : Int) == (l1.length : Int)) = true := beq_iff_eq.mpr c3; have IY : ((l0.length : Int) != (l1.length : Int)) = false := bne_eq_false_iff_eq.mpr c3; have c3b2 : (l0.length == l1.length) = true := by first | simpa using c3 | (simp at c3 ⊢; omega)
  clear c3; have H' := ah.mk H; clear H
  go_enter Try.func30, Try.ntmps30
  go_wp2
  repeat (go_quiet (fail); try go_wp2)
  go_loopg [5] k (fun kq v5 w' => ∃ (eT : Int), v5 = .int .i64 eT ∧ ah (dQ.l0 kq l0 l1 eT = some r) ∧ ah (kq ≤ k) ∧ mG w w')
  case atStart => exact ⟨(0), zz2, H', ⟨Nat.le_refl _⟩, zz7⟩
  case round =>
   clear H'; (try clear c1); (try clear p2); (try clear c3); (try clear tY); (try clear IY); (try clear c3b2); obtain ⟨eT, rfl, HA, HK1, ⟨m1, rfl⟩⟩ := hrel
   cases gk with
   | zero => exact absurd HA.out (by simp [dQ.l0])
   | succ k1 =>
    have H := HA.out; clear HA; simp only [dQ.l0] at H
    by_cases c4 : eT < (l0.length : Int)
    ·rw [if_pos c4] at H; have lG : decide (eT < (l0.length : Int)) = true := decide_eq_true c4; clear c4
     by_cases c5 : 0 ≤ eT
     ·rw [if_pos c5] at H; have qN : decide (0 ≤ eT) = true := decide_eq_true c5; clear c5
      by_cases c6 : eT < (l1.length : Int)
      ·rw [if_pos c6] at H; have uR : decide (eT < (l1.length : Int)) = true := decide_eq_true c6; clear c6
       by_cases c7 : (rd l0 eT) = (rd l1 eT)
       ·rw [if_pos c7] at H; have qp : ((rd l0 eT) == (rd l1 eT)) = true := beq_iff_eq.mpr c7; have Nz : ((rd l0 eT) != (rd l1 eT)) = false := bne_eq_false_iff_eq.mpr c7; clear c7; have H' := ah.mk H; clear H; have O8 : 0 ≤ (eT : Int) := of_decide_eq_true zz9; have OI : eT < (l0.length : Int) := of_decide_eq_true zz9; obtain ⟨ad568, e568, Yy⟩ := Kd.jq HR0.out eT O8 OI
        cases e568
        replace O8 := eq_true O8; replace OI := eq_true OI; have O7 : 0 ≤ (eT : Int) := of_decide_eq_true zz9; have OH : eT < (l1.length : Int) := of_decide_eq_true zz9; obtain ⟨ad569, e569, Yx⟩ := Kd.jq HR1.out eT O7 OH
        cases e569
        replace O7 := eq_true O7; replace OH := eq_true OH
        go_wp2
        repeat (go_quiet (fail); try go_wp2)
        go_roundg k1
        case measure => have := HK1.out; omega
        case rel => exact ⟨(wrap64 (eT + 1)), zz2, H', ⟨by have := HK1.out; omega⟩, zz7⟩
       ·rw [if_neg c7] at H; have qp : ((rd l0 eT) == (rd l1 eT)) = false := beq_eq_false_iff_ne.mpr c7; have Nz : ((rd l0 eT) != (rd l1 eT)) = true := bne_iff_ne.mpr c7; obtain rfl := Option.some.inj H; have O8 : 0 ≤ (eT : Int) := of_decide_eq_true zz9; have OI : eT < (l0.length : Int) := of_decide_eq_true zz9; obtain ⟨ad568, e568, Yy⟩ := Kd.jq HR0.out eT O8 OI
        cases e568
        replace O8 := eq_true O8; replace OI := eq_true OI; have O7 : 0 ≤ (eT : Int) := of_decide_eq_true zz9; have OH : eT < (l1.length : Int) := of_decide_eq_true zz9; obtain ⟨ad569, e569, Yx⟩ := Kd.jq HR1.out eT O7 OH
        cases e569
        replace O7 := eq_true O7; replace OH := eq_true OH
        go_wp2
        repeat (go_quiet (fail); try go_wp2)
        go_ret
        exact ⟨zz2, zz7⟩
      ·rw [if_neg c6] at H; exact absurd H (by simp)
     ·rw [if_neg c5] at H; exact absurd H (by simp)
    ·rw [if_neg c4] at H; have lG : decide (eT < (l0.length : Int)) = false := decide_eq_false c4; clear c4; obtain rfl := Option.some.inj H
     go_wp2
     repeat (go_quiet (fail); try go_wp2)
     go_ret
     exact ⟨zz2, zz7⟩
 ·rw [if_neg c3] at H; have tY : ((l0.length : Int) == (l1.length : Int)) = false := beq_eq_false_iff_ne.mpr c3; have IY : ((l0.length : Int) != (l1.length : Int)) = true := bne_iff_ne.mpr c3; have c3b2 : (l0.length == l1.length) = false := by first | simpa using c3 | (simp at c3 ⊢; omega)
  obtain rfl := Option.some.inj H
  go_enter Try.func30, Try.ntmps30
  go_wp2
  repeat (go_quiet (fail); try go_wp2)
  go_ret
  exact ⟨zz2, zz7⟩
def bI.l0 : Nat → List (S51) → Int → Option (Bool)
 | 0, _, _ => none
 | k + 1, x0, x3 => if x3 < (x0.length : Int) then (if 0 ≤ x3 then ((bD.f k ((aD x0 x3).f0)).bind fun t506 => (if t506 = true then ((d9.f ((aD x0 x3).f1)).bind fun t508 => (if t508 = true then (if ((aD x0 x3).f1) = 0 then (some false) else (if x3 > 0 then (if 0 ≤ (wrap64 (x3 - 1)) then (if (wrap64 (x3 - 1)) < (x0.length : Int) then ((aK.f k ((aD x0 (wrap64 (x3 - 1))).f0) ((aD x0 x3).f0)).bind fun JU => (if JU ≥ 0 then (some false) else (bI.l0 k x0 (wrap64 (x3 + 1))))) else (none)) else (none)) else (bI.l0 k x0 (wrap64 (x3 + 1))))) else (some false))) else (some false))) else (none)) else (some true)
def bI.f (k : Nat) (l0 : List (S51)) : Option (Bool) := if (l0.length : Int) > 4096 then (some false) else (bI.l0 k l0 0)
def bI.T6 : Bool × List (List Nat × List Nat) := (true, [([], []), ([], []), ([0, 1], [0, 1]), ([2], [2]), ([3], [3]), ([4], [4]), ([5], [5]), ([6, 5], [6]), ([7], [7]), ([7], [7]), ([8, 9, 7], [7, 8, 9]), ([10, 7], [7, 10]), ([11, 7], [7, 11]), ([12, 7, 7], [7, 12]), ([13, 7], [7, 13]), ([7, 14], [7, 14]), ([15, 13], [15]), ([16], [16]), ([16], [16]), ([17, 18, 16], [16, 17, 18]), ([19, 16], [16, 19]), ([20, 16], [16, 20]), ([21, 16], [16, 21]), ([16, 22], [16, 22]), ([23, 16], [23]), ([24], [24]), ([25, 24], [24, 25]), ([26, 24, 24], [24, 26]), ([27], [27]), ([27], [27]), ([29, 27], [27, 29]), ([28, 30, 27], [27, 28, 30]), ([31, 27], [27, 31]), ([32, 27], [27, 32]), ([27], [27]), ([27], [27]), ([34, 35, 27], [27, 34, 35]), ([36, 27], [27, 36]), ([37, 27], [27, 37]), ([33, 38, 27, 27], [27, 33, 38]), ([39, 27], [27, 39]), ([27, 40, 24], [24, 27, 40]), ([24, 41], [24, 41])])
def bI.B6 : List Nat := [0, 0, 3, 7, 15, 31, 63, 127, 255, 255, 1023, 2047, 4095, 8191, 16383, 32767, 65535, 131071, 131071, 524287, 1048575, 2097151, 4194303, 8388607, 16777215, 33554431, 67108863, 134217727, 268435455, 268435455, 805306367, 2147483647, 4294967295, 8589934591, 268435455, 268435455, 51808043007, 120527519743, 257966473215, 549755813887, 1099511627775, 2199023255551, 4398046511103]
theorem bI.UE : kL .any (opsOf Try.f59 6) = bI.T6 := by kernel_rfl
theorem bI.Jo : j5 bI.T6.2 bI.B6 = true := by kernel_rfl
set_option maxHeartbeats 8000000 in
set_option maxRecDepth 100000 in
theorem bI.calls (k : Nat) (A0 : Option Addr) (c0 : Nat) (l0 : List (S51)) (r : Bool) (w : World) (hr0 : Kd.C k51 w A0 l0.length l0) (hc0 : l0.length ≤ c0) (h : bI.f k l0 = some r) :
  Calls Try.prog 59 #[.slice A0 l0.length c0] w fun e w' => e = .returned (.bool r) ∧ Below w.heap.size w w' := by
 have HR0 := ah.mk hr0; have HC0 := ah.mk hc0; clear hr0 hc0; have HB := ah.mk (Below.refl w.heap.size w); have H := h; clear h
 dsimp only [bI.f] at H
 by_cases c2 : (l0.length : Int) > 4096
 ·rw [if_pos c2] at H; have oH : decide (4096 < (l0.length : Int)) = true := decide_eq_true c2; have zN : decide (4096 < l0.length) = true := decide_eq_true (by omega); clear c2; obtain rfl := Option.some.inj H
  go_enter Try.func59, Try.ntmps59
  go_wp2
  go_ret
  exact ⟨zz6, zz1⟩
 ·rw [if_neg c2] at H; have oH : decide (4096 < (l0.length : Int)) = false := decide_eq_false c2; have zN : decide (4096 < l0.length) = false := decide_eq_false (by omega); clear c2; have H' := ah.mk H; clear H
  go_enter Try.func59, Try.ntmps59
  go_wp2
  go_loopg [3] k (fun kq v3 w' => ∃ (dz : Int), v3 = .int .i64 dz ∧ ah (bI.l0 kq l0 dz = some r) ∧ ah (kq ≤ k) ∧ ah (Below w.heap.size w w'))
  case atStart => exact ⟨(0), zz2, H', ⟨Nat.le_refl _⟩, ⟨zz1⟩⟩
  case round =>
   clear H'; (try clear c2); (try clear oH); (try clear zN); (try clear p2); obtain ⟨dz, rfl, HA, HK1, HB⟩ := hrel
   cases gk with
   | zero => exact absurd HA.out (by simp [bI.l0])
   | succ k1 =>
    have H := HA.out; clear HA; simp only [bI.l0] at H
    by_cases c3 : dz < (l0.length : Int)
    ·rw [if_pos c3] at H; have tY : decide (dz < (l0.length : Int)) = true := decide_eq_true c3; clear c3
     by_cases c4 : 0 ≤ dz
     ·rw [if_pos c4] at H; have lG : decide (0 ≤ dz) = true := decide_eq_true c4; clear c4; replace H := Option.bind_eq_some_iff.mp H; obtain ⟨t506, A50, H⟩ := H; have A5 := ah.mk A50; clear A50
      by_cases c6 : t506 = true
      ·subst c6; rw [if_pos rfl] at H; replace H := Option.bind_eq_some_iff.mp H; obtain ⟨t508, A70, H⟩ := H; have A7 := ah.mk A70; clear A70
       by_cases c8 : t508 = true
       ·subst c8; rw [if_pos rfl] at H
        by_cases c9 : ((aD l0 dz).f1) = 0
        ·rw [if_pos c9] at H; have xH : (((aD l0 dz).f1) == 0) = true := beq_iff_eq.mpr c9; have c9b1 : (((aD l0 dz).f1) != 0) = false := bne_eq_false_iff_eq.mpr c9; clear c9; obtain rfl := Option.some.inj H
         try go_wp2
         replace HB := ah.mk (bL HB.out); have uz : 0 ≤ (dz : Int) := of_decide_eq_true zz9; have uy : dz < (l0.length : Int) := of_decide_eq_true zz9; obtain ⟨fK, jW, jV, Hw, gF, ji, lQ, lS⟩ := fZ HR0.out dz uz uy; have jT := ji; have jU := gF
         cases Hw
         replace gF := cB HB gF; replace ji := cB HB ji; have fD := ah.mk lS; have gN := ah.mk lQ; clear lS lQ; replace uz := eq_true uz; replace uy := eq_true uy; have wJ : 0 ≤ (dz : Int) := of_decide_eq_true zz9; have wH : dz < (l0.length : Int) := of_decide_eq_true zz9; obtain ⟨Dt, LZ, Lj, Lf, jh, jS, nC, nE⟩ := fZ HR0.out dz wJ wH; have kC := jS; have kD := jh; obtain rfl : fK = Dt := (by injection Lf); replace jh := cB HB jh; replace jS := cB HB jS; have kK := ah.mk nE; have qB := ah.mk nC; clear nE nC; replace wJ := eq_true wJ; replace wH := eq_true wH; have ea_ := Option.some.inj (gF.symm.trans jh); injection ea_ with ea_ en_ ec_; subst ea_; subst ec_; clear en_; have Ad : 0 ≤ (dz : Int) := of_decide_eq_true zz9; have Aa : dz < (l0.length : Int) := of_decide_eq_true zz9; obtain ⟨Ii, QK, QA, Qw, jY, kR, qb, qc⟩ := fZ HR0.out dz Ad Aa; have lM := kR; have lN := jY; obtain rfl : fK = Ii := (by injection Qw); replace jY := cB HB jY; replace kR := cB HB kR; have lq := ah.mk qc; have qA := ah.mk qb; clear qc qb; replace Ad := eq_true Ad; replace Aa := eq_true Aa; have ea_ := Option.some.inj (gF.symm.trans jY); injection ea_ with ea_ en_ ec_; subst ea_; subst ec_; clear en_; refine jB (n := 43) (S := fun w' => w'.cell? (fK.add ((dz).toNat * 2)) = some (.slice jW ((aD l0 dz).f0).length jV) ∧ w'.cell? ⟨(fK.add ((dz).toNat * 2)).block, (fK.add ((dz).toNat * 2)).off + 1, none⟩ = some (.int .i64 ((aD l0 dz).f1)) ∧ w'.cell? (fK.add ((dz).toNat * 2)) = some (.slice jW ((aD l0 dz).f0).length jV) ∧ w'.cell? ⟨(fK.add ((dz).toNat * 2)).block, (fK.add ((dz).toNat * 2)).off + 1, none⟩ = some (.int .i64 ((aD l0 dz).f1)) ∧ w'.cell? (fK.add ((dz).toNat * 2)) = some (.slice jW ((aD l0 dz).f0).length jV) ∧ w'.cell? ⟨(fK.add ((dz).toNat * 2)).block, (fK.add ((dz).toNat * 2)).off + 1, none⟩ = some (.int .i64 ((aD l0 dz).f1))) (ds := []) (.replicate 43 false) (by kernel_rfl) rfl rfl ⟨(cB HB jU), (cB HB jT), (cB HB kD), (cB HB kC), (cB HB lN), (cB HB lM)⟩ (fun hHeld => ?_); refine iG bI.UE bI.Jo (fun HT_ HW_ => ?_); generalize wr.drew = w10 at HB fD kK lq gF ji jh jS jY kR hHeld ⊢; refine pV 0 13 (bA 43 1) HT_ ?_; refine pV 1 14 (bA 43 3) HT_ ?_; refine pV 2 15 (bA 43 7) HT_ ?_; refine pV 3 16 (bA 43 15) HT_ ?_; refine tV (v := ?_) 4 17 (bA 43 31) HT_ HW_ hHeld ?_ ?_; rotate_left
         ·rintro w' ⟨s0, s1, s2, s3, s4, s5⟩
          go_simp
          (with_reducible rfl)
         refine oN 5 18 (bA 43 63) HT_ (fun K hK => ?_); refine iy Try.func88 (by kernel_rfl) rfl #[.slice jW ((aD l0 dz).f0).length jV] (by rfl) rfl rfl zz8 ?_; (with_reducible refine (bD.calls k1 _ _ ((aD l0 dz).f0) true _ ?bO ?bR A5.out).mono ?_); (case bO => repeat (first | exact (Kd.eZ fD.out HB.out) | (with_reducible refine Kd.dF ?_ _) | (with_reducible refine Kd.dI ?_ _) | (with_reducible refine Kd.dZ ?_))); (case bR => exact gN.out); rintro e w11 ⟨rfl, hb⟩; refine ⟨_, rfl, ?_⟩; replace HB := ah.mk (av zz1 hb); (try clear hb); (try clear hb2); (try clear hk); (try clear hi); refine hK.out _ _ ⟨(cB HB jU), (cB HB jT), (cB HB kD), (cB HB kC), (cB HB lN), (cB HB lM)⟩ (fun hHeld => ?_); clear hK K; refine iI (a' := ?_) ?_ ?_; rotate_left
         ·show Act.put _ (some 18) _ = _
          simp only [Act.put, List.setIfInBounds_toArray, List.set_cons_zero, List.set_cons_succ, dS, eP]
          rfl
         refine pV 6 19 (bA 43 127) HT_ ?_; refine pV 7 20 (bA 43 255) HT_ ?_; refine pV 8 21 (bA 43 511) HT_ ?_; refine pV 9 22 (bA 43 1023) HT_ ?_; refine pV 10 23 (bA 43 2047) HT_ ?_; refine pV 11 24 (bA 43 4095) HT_ ?_; refine tV (v := ?_) 12 25 (bA 43 8191) HT_ HW_ hHeld ?_ ?_; rotate_left
         ·rintro w' ⟨s0, s1, s2, s3, s4, s5⟩
          go_simp
          (with_reducible rfl)
         refine oN 13 26 (bA 43 16383) HT_ (fun K hK => ?_); refine iy Try.func89 (by kernel_rfl) rfl #[.int .i64 ((aD l0 dz).f1)] (by rfl) rfl rfl zz8 ?_; (with_reducible refine (d9.calls ((aD l0 dz).f1) true _ A7.out).mono ?_); rintro e w' ⟨rfl, ⟨nd, rfl⟩⟩; refine ⟨_, rfl, ?_⟩; refine hK.out _ _ ⟨(cB HB jU), (cB HB jT), (cB HB kD), (cB HB kC), (cB HB lN), (cB HB lM)⟩ (fun hHeld => ?_); clear hK K; refine iI (a' := ?_) ?_ ?_; rotate_left
         ·show Act.put _ (some 26) _ = _
          simp only [Act.put, List.setIfInBounds_toArray, List.set_cons_zero, List.set_cons_succ, dS, eP]
          rfl
         refine pV 14 27 (bA 43 32767) HT_ ?_; refine pV 15 28 (bA 43 65535) HT_ ?_; refine pV 16 29 (bA 43 131071) HT_ ?_; refine pV 17 30 (bA 43 262143) HT_ ?_; refine pV 18 31 (bA 43 524287) HT_ ?_; refine pV 19 32 (bA 43 1048575) HT_ ?_; refine pV 20 33 (bA 43 2097151) HT_ ?_; refine tV (v := ?_) 21 34 (bA 43 4194303) HT_ HW_ hHeld ?_ ?_; rotate_left
         ·rintro w' ⟨s0, s1, s2, s3, s4, s5⟩
          go_simp
          (with_reducible rfl)
         refine pV 22 35 (bA 43 8388607) HT_ ?_; refine pV 23 36 (bA 43 16777215) HT_ ?_; refine pV 24 37 (bA 43 33554431) HT_ ?_; refine pU 25 38 (bA 43 67108863) HT_ ?_; refine pU 26 39 (bA 43 134217727) HT_ ?_; refine pU 27 40 (bA 43 268435455) HT_ ?_; refine pU 28 41 (bA 43 536870911) HT_ ?_; refine pU 29 42 (bA 43 1073741823) HT_ ?_; refine pU 30 43 (bA 43 2147483647) HT_ ?_; refine pU 31 44 (bA 43 4294967295) HT_ ?_; refine pU 32 45 (bA 43 8589934591) HT_ ?_; refine pU 33 46 (bA 43 17179869183) HT_ ?_; refine pU 34 47 (bA 43 34359738367) HT_ ?_; refine pU 35 48 (bA 43 68719476735) HT_ ?_; refine pU 36 49 (bA 43 137438953471) HT_ ?_; refine pU 37 50 (bA 43 274877906943) HT_ ?_; refine pU 38 51 (bA 43 549755813887) HT_ ?_; refine pU 39 52 (bA 43 1099511627775) HT_ ?_; refine pU 40 53 (bA 43 2199023255551) HT_ ?_; refine pU 41 54 (bA 43 4398046511103) HT_ ?_; refine pV 42 55 (bA 43 8796093022207) HT_ ?_; refine kX (j6 HT_.out (by kernel_rfl)) ?_
         try go_wp2
         go_ret
         exact ⟨zz6, zz1⟩
        ·rw [if_neg c9] at H; have xH : (((aD l0 dz).f1) == 0) = false := beq_eq_false_iff_ne.mpr c9; have c9b1 : (((aD l0 dz).f1) != 0) = true := bne_iff_ne.mpr c9
         by_cases c12 : dz > 0
         ·rw [if_pos c12] at H; have H9 : decide (0 < dz) = true := decide_eq_true c12; clear c12; obtain ⟨qC, Eu⟩ : ∃ j_ : Int, (wrap64 (dz - 1)) = j_ := ⟨_, rfl⟩; replace H : (if 0 ≤ (qC) then (if (qC) < (l0.length : Int) then ((aK.f k1 ((aD l0 (qC)).f0) ((aD l0 dz).f0)).bind fun JU => (if JU ≥ 0 then (some false) else (bI.l0 k1 l0 (wrap64 (dz + 1))))) else (none)) else (none)) = some r := by first | (rw [Eu] at H; exact H) | (simp only [Eu] at H ⊢; exact H)
          (try rw [Eu] at A5); (try rw [Eu] at A7); have hji13w : (IntKind.i64.wrap (dz - 1)) = qC := (dS _).trans Eu
          by_cases c14 : 0 ≤ (qC)
          ·rw [if_pos c14] at H; have zU : decide (0 ≤ (qC)) = true := decide_eq_true c14; clear c14
           by_cases c15 : (qC) < (l0.length : Int)
           ·rw [if_pos c15] at H; have H7 : decide ((qC) < (l0.length : Int)) = true := decide_eq_true c15; clear c15; replace H := Option.bind_eq_some_iff.mp H; obtain ⟨JU, A160, H⟩ := H; have A16 := ah.mk A160; clear A160
            by_cases c17 : JU ≥ 0
            ·rw [if_pos c17] at H; have NH : decide (0 ≤ JU) = true := decide_eq_true c17; clear c17; obtain rfl := Option.some.inj H
             try go_wp2
             replace HB := ah.mk (bL HB.out); have uz : 0 ≤ (dz : Int) := of_decide_eq_true zz9; have uy : dz < (l0.length : Int) := of_decide_eq_true zz9; obtain ⟨fK, jW, jV, Hw, gF, ji, lQ, lS⟩ := fZ HR0.out dz uz uy; have jT := ji; have jU := gF
             cases Hw
             replace gF := cB HB gF; replace ji := cB HB ji; have fD := ah.mk lS; have gN := ah.mk lQ; clear lS lQ; replace uz := eq_true uz; replace uy := eq_true uy; have wJ : 0 ≤ (dz : Int) := of_decide_eq_true zz9; have wH : dz < (l0.length : Int) := of_decide_eq_true zz9; obtain ⟨Dt, LZ, Lj, Lf, jh, jS, nC, nE⟩ := fZ HR0.out dz wJ wH; have kC := jS; have kD := jh; obtain rfl : fK = Dt := (by injection Lf); replace jh := cB HB jh; replace jS := cB HB jS; have kK := ah.mk nE; have qB := ah.mk nC; clear nE nC; replace wJ := eq_true wJ; replace wH := eq_true wH; have ea_ := Option.some.inj (gF.symm.trans jh); injection ea_ with ea_ en_ ec_; subst ea_; subst ec_; clear en_; have Ad : 0 ≤ (dz : Int) := of_decide_eq_true zz9; have Aa : dz < (l0.length : Int) := of_decide_eq_true zz9; obtain ⟨Ii, QK, QA, Qw, jY, kR, qb, qc⟩ := fZ HR0.out dz Ad Aa; have lM := kR; have lN := jY; obtain rfl : fK = Ii := (by injection Qw); replace jY := cB HB jY; replace kR := cB HB kR; have lq := ah.mk qc; have qA := ah.mk qb; clear qc qb; replace Ad := eq_true Ad; replace Aa := eq_true Aa; have ea_ := Option.some.inj (gF.symm.trans jY); injection ea_ with ea_ en_ ec_; subst ea_; subst ec_; clear en_; have Pb : 0 ≤ ((qC) : Int) := of_decide_eq_true zz9; have OL : (qC) < (l0.length : Int) := of_decide_eq_true zz9; obtain ⟨W9, Iw, HV, e510, sI, sH, BN, Cc⟩ := fZ HR0.out (qC) Pb OL; have sW := sH; have sZ := sI; obtain rfl : fK = W9 := (by injection e510); replace sI := cB HB sI; replace sH := cB HB sH; have Dy := ah.mk Cc; have LQ := ah.mk BN; clear Cc BN; replace Pb := eq_true Pb; replace OL := eq_true OL; have O9 : 0 ≤ (dz : Int) := of_decide_eq_true zz9; have OJ : dz < (l0.length : Int) := of_decide_eq_true zz9; obtain ⟨WZ, A511_0, c511_0, e511, p8, sG, BM, Cb⟩ := fZ HR0.out dz O9 OJ; have sU := sG; have sV := p8; obtain rfl : fK = WZ := (by injection e511); replace p8 := cB HB p8; replace sG := cB HB sG; have zI := ah.mk Cb; have Gc := ah.mk BM; clear Cb BM; replace O9 := eq_true O9; replace OJ := eq_true OJ; have ea_ := Option.some.inj (gF.symm.trans p8); injection ea_ with ea_ en_ ec_; subst ea_; subst ec_; clear en_; refine jB (n := 43) (S := fun w' => w'.cell? (fK.add ((dz).toNat * 2)) = some (.slice jW ((aD l0 dz).f0).length jV) ∧ w'.cell? ⟨(fK.add ((dz).toNat * 2)).block, (fK.add ((dz).toNat * 2)).off + 1, none⟩ = some (.int .i64 ((aD l0 dz).f1)) ∧ w'.cell? (fK.add ((dz).toNat * 2)) = some (.slice jW ((aD l0 dz).f0).length jV) ∧ w'.cell? ⟨(fK.add ((dz).toNat * 2)).block, (fK.add ((dz).toNat * 2)).off + 1, none⟩ = some (.int .i64 ((aD l0 dz).f1)) ∧ w'.cell? (fK.add ((dz).toNat * 2)) = some (.slice jW ((aD l0 dz).f0).length jV) ∧ w'.cell? ⟨(fK.add ((dz).toNat * 2)).block, (fK.add ((dz).toNat * 2)).off + 1, none⟩ = some (.int .i64 ((aD l0 dz).f1)) ∧ w'.cell? (fK.add (((qC)).toNat * 2)) = some (.slice Iw ((aD l0 (qC)).f0).length HV) ∧ w'.cell? ⟨(fK.add (((qC)).toNat * 2)).block, (fK.add (((qC)).toNat * 2)).off + 1, none⟩ = some (.int .i64 ((aD l0 (qC)).f1)) ∧ w'.cell? (fK.add ((dz).toNat * 2)) = some (.slice jW ((aD l0 dz).f0).length jV) ∧ w'.cell? ⟨(fK.add ((dz).toNat * 2)).block, (fK.add ((dz).toNat * 2)).off + 1, none⟩ = some (.int .i64 ((aD l0 dz).f1))) (ds := []) (.replicate 43 false) (by kernel_rfl) rfl rfl ⟨(cB HB jU), (cB HB jT), (cB HB kD), (cB HB kC), (cB HB lN), (cB HB lM), (cB HB sZ), (cB HB sW), (cB HB sV), (cB HB sU)⟩ (fun hHeld => ?_); refine iG bI.UE bI.Jo (fun HT_ HW_ => ?_); generalize wr.drew = w18 at HB fD kK lq Dy zI gF ji jh jS jY kR sI sH p8 sG hHeld ⊢; refine pV 0 13 (bA 43 1) HT_ ?_; refine pV 1 14 (bA 43 3) HT_ ?_; refine pV 2 15 (bA 43 7) HT_ ?_; refine pV 3 16 (bA 43 15) HT_ ?_; refine tV (v := ?_) 4 17 (bA 43 31) HT_ HW_ hHeld ?_ ?_; rotate_left
             ·rintro w' ⟨s0, s1, s2, s3, s4, s5, s6, s7, s8, s9⟩
              go_simp
              (with_reducible rfl)
             refine oN 5 18 (bA 43 63) HT_ (fun K hK => ?_); refine iy Try.func88 (by kernel_rfl) rfl #[.slice jW ((aD l0 dz).f0).length jV] (by rfl) rfl rfl zz8 ?_; (with_reducible refine (bD.calls k1 _ _ ((aD l0 dz).f0) true _ ?bO ?bR A5.out).mono ?_); (case bO => repeat (first | exact (Kd.eZ fD.out HB.out) | (with_reducible refine Kd.dF ?_ _) | (with_reducible refine Kd.dI ?_ _) | (with_reducible refine Kd.dZ ?_))); (case bR => exact gN.out); rintro e w19 ⟨rfl, hb⟩; refine ⟨_, rfl, ?_⟩; replace HB := ah.mk (av zz1 hb); (try clear hb); (try clear hb2); (try clear hk); (try clear hi); refine hK.out _ _ ⟨(cB HB jU), (cB HB jT), (cB HB kD), (cB HB kC), (cB HB lN), (cB HB lM), (cB HB sZ), (cB HB sW), (cB HB sV), (cB HB sU)⟩ (fun hHeld => ?_); clear hK K; refine iI (a' := ?_) ?_ ?_; rotate_left
             ·show Act.put _ (some 18) _ = _
              simp only [Act.put, List.setIfInBounds_toArray, List.set_cons_zero, List.set_cons_succ, dS, eP]
              rfl
             refine pV 6 19 (bA 43 127) HT_ ?_; refine pV 7 20 (bA 43 255) HT_ ?_; refine pV 8 21 (bA 43 511) HT_ ?_; refine pV 9 22 (bA 43 1023) HT_ ?_; refine pV 10 23 (bA 43 2047) HT_ ?_; refine pV 11 24 (bA 43 4095) HT_ ?_; refine tV (v := ?_) 12 25 (bA 43 8191) HT_ HW_ hHeld ?_ ?_; rotate_left
             ·rintro w' ⟨s0, s1, s2, s3, s4, s5, s6, s7, s8, s9⟩
              go_simp
              (with_reducible rfl)
             refine oN 13 26 (bA 43 16383) HT_ (fun K hK => ?_); refine iy Try.func89 (by kernel_rfl) rfl #[.int .i64 ((aD l0 dz).f1)] (by rfl) rfl rfl zz8 ?_; (with_reducible refine (d9.calls ((aD l0 dz).f1) true _ A7.out).mono ?_); rintro e w' ⟨rfl, ⟨nd, rfl⟩⟩; refine ⟨_, rfl, ?_⟩; refine hK.out _ _ ⟨(cB HB jU), (cB HB jT), (cB HB kD), (cB HB kC), (cB HB lN), (cB HB lM), (cB HB sZ), (cB HB sW), (cB HB sV), (cB HB sU)⟩ (fun hHeld => ?_); clear hK K; refine iI (a' := ?_) ?_ ?_; rotate_left
             ·show Act.put _ (some 26) _ = _
              simp only [Act.put, List.setIfInBounds_toArray, List.set_cons_zero, List.set_cons_succ, dS, eP]
              rfl
             refine pV 14 27 (bA 43 32767) HT_ ?_; refine pV 15 28 (bA 43 65535) HT_ ?_; refine pV 16 29 (bA 43 131071) HT_ ?_; refine pV 17 30 (bA 43 262143) HT_ ?_; refine pV 18 31 (bA 43 524287) HT_ ?_; refine pV 19 32 (bA 43 1048575) HT_ ?_; refine pV 20 33 (bA 43 2097151) HT_ ?_; refine tV (v := ?_) 21 34 (bA 43 4194303) HT_ HW_ hHeld ?_ ?_; rotate_left
             ·rintro w' ⟨s0, s1, s2, s3, s4, s5, s6, s7, s8, s9⟩
              go_simp
              (with_reducible rfl)
             refine pV 22 35 (bA 43 8388607) HT_ ?_; refine pV 23 36 (bA 43 16777215) HT_ ?_; refine pV 24 37 (bA 43 33554431) HT_ ?_; refine pV 25 38 (bA 43 67108863) HT_ ?_; refine pV 26 39 (bA 43 134217727) HT_ ?_; refine pV 27 40 (bA 43 268435455) HT_ ?_; refine pV 28 41 (bA 43 536870911) HT_ ?_; refine pV 29 42 (bA 43 1073741823) HT_ ?_; refine pV 30 43 (bA 43 2147483647) HT_ ?_; refine pV 31 44 (bA 43 4294967295) HT_ ?_; refine pV 32 45 (bA 43 8589934591) HT_ ?_; refine pV 34 47 (bA 43 25769803775) HT_ ?_; refine pV 35 48 (bA 43 60129542143) HT_ ?_; refine pV 36 49 (bA 43 128849018879) HT_ ?_; refine pV 37 50 (bA 43 266287972351) HT_ ?_; refine tV (v := ?_) 33 46 (bA 43 274877906943) HT_ HW_ hHeld ?_ ?_; rotate_left
             ·rintro w' ⟨s0, s1, s2, s3, s4, s5, s6, s7, s8, s9⟩
              go_simp
              (with_reducible rfl)
             refine tV (v := ?_) 38 51 (bA 43 549755813887) HT_ HW_ hHeld ?_ ?_; rotate_left
             ·rintro w' ⟨s0, s1, s2, s3, s4, s5, s6, s7, s8, s9⟩
              go_simp
              (with_reducible rfl)
             refine oN 39 52 (bA 43 1099511627775) HT_ (fun K hK => ?_); refine iy Try.func93 (by kernel_rfl) rfl #[.slice Iw ((aD l0 (qC)).f0).length HV, .slice jW ((aD l0 dz).f0).length jV] (by rfl) rfl rfl (by (try simp only [List.map_toArray, List.map_cons, List.map_nil]); first | done | (simp only [Eu]; rfl) | rfl | (simp only [List.length_drop, List.length_take]; rfl)) ?_; (with_reducible refine (aK.calls k1 _ _ ((aD l0 (qC)).f0) _ _ ((aD l0 dz).f0) JU _ ?bO ?bR ?mg ?mU A16.out).mono ?_); (case bO => repeat (first | exact (Kd.eZ Dy.out zz1) | (with_reducible refine Kd.dF ?_ _) | (with_reducible refine Kd.dI ?_ _) | (with_reducible refine Kd.dZ ?_))); (case bR => exact LQ.out); (case mg => repeat (first | exact (Kd.eZ zI.out zz1) | (with_reducible refine Kd.dF ?_ _) | (with_reducible refine Kd.dI ?_ _) | (with_reducible refine Kd.dZ ?_))); (case mU => exact Gc.out); rintro e w20 ⟨rfl, hb⟩; refine ⟨_, rfl, ?_⟩; replace HB := ah.mk (av zz1 hb); (try clear hb); (try clear hb2); (try clear hk); (try clear hi); refine hK.out _ _ ⟨(cB HB jU), (cB HB jT), (cB HB kD), (cB HB kC), (cB HB lN), (cB HB lM), (cB HB sZ), (cB HB sW), (cB HB sV), (cB HB sU)⟩ (fun hHeld => ?_); clear hK K; refine iI (a' := ?_) ?_ ?_; rotate_left
             ·show Act.put _ (some 52) _ = _
              simp only [Act.put, List.setIfInBounds_toArray, List.set_cons_zero, List.set_cons_succ, dS, eP]
              rfl
             refine pV 40 53 (bA 43 2199023255551) HT_ ?_; refine pV 41 54 (bA 43 4398046511103) HT_ ?_; refine pV 42 55 (bA 43 8796093022207) HT_ ?_; refine kX (j6 HT_.out (by kernel_rfl)) ?_
             try go_wp2
             go_ret
             exact ⟨by first | rfl | (simp [gK, gJ] <;> rfl) | (simp only [← Eu]; first | rfl | (simp [gK, gJ] <;> rfl)) | (simp [*, gK, gJ] <;> rfl), zz1⟩
            ·rw [if_neg c17] at H; have NH : decide (0 ≤ JU) = false := decide_eq_false c17; clear c17; have H' := ah.mk H; clear H
             try go_wp2
             replace HB := ah.mk (bL HB.out); have uz : 0 ≤ (dz : Int) := of_decide_eq_true zz9; have uy : dz < (l0.length : Int) := of_decide_eq_true zz9; obtain ⟨fK, jW, jV, Hw, gF, ji, lQ, lS⟩ := fZ HR0.out dz uz uy; have jT := ji; have jU := gF
             cases Hw
             replace gF := cB HB gF; replace ji := cB HB ji; have fD := ah.mk lS; have gN := ah.mk lQ; clear lS lQ; replace uz := eq_true uz; replace uy := eq_true uy; have wJ : 0 ≤ (dz : Int) := of_decide_eq_true zz9; have wH : dz < (l0.length : Int) := of_decide_eq_true zz9; obtain ⟨Dt, LZ, Lj, Lf, jh, jS, nC, nE⟩ := fZ HR0.out dz wJ wH; have kC := jS; have kD := jh; obtain rfl : fK = Dt := (by injection Lf); replace jh := cB HB jh; replace jS := cB HB jS; have kK := ah.mk nE; have qB := ah.mk nC; clear nE nC; replace wJ := eq_true wJ; replace wH := eq_true wH; have ea_ := Option.some.inj (gF.symm.trans jh); injection ea_ with ea_ en_ ec_; subst ea_; subst ec_; clear en_; have Ad : 0 ≤ (dz : Int) := of_decide_eq_true zz9; have Aa : dz < (l0.length : Int) := of_decide_eq_true zz9; obtain ⟨Ii, QK, QA, Qw, jY, kR, qb, qc⟩ := fZ HR0.out dz Ad Aa; have lM := kR; have lN := jY; obtain rfl : fK = Ii := (by injection Qw); replace jY := cB HB jY; replace kR := cB HB kR; have lq := ah.mk qc; have qA := ah.mk qb; clear qc qb; replace Ad := eq_true Ad; replace Aa := eq_true Aa; have ea_ := Option.some.inj (gF.symm.trans jY); injection ea_ with ea_ en_ ec_; subst ea_; subst ec_; clear en_; have Pb : 0 ≤ ((qC) : Int) := of_decide_eq_true zz9; have OL : (qC) < (l0.length : Int) := of_decide_eq_true zz9; obtain ⟨W9, Iw, HV, e510, sI, sH, BN, Cc⟩ := fZ HR0.out (qC) Pb OL; have sW := sH; have sZ := sI; obtain rfl : fK = W9 := (by injection e510); replace sI := cB HB sI; replace sH := cB HB sH; have Dy := ah.mk Cc; have LQ := ah.mk BN; clear Cc BN; replace Pb := eq_true Pb; replace OL := eq_true OL; have O9 : 0 ≤ (dz : Int) := of_decide_eq_true zz9; have OJ : dz < (l0.length : Int) := of_decide_eq_true zz9; obtain ⟨WZ, A511_0, c511_0, e511, p8, sG, BM, Cb⟩ := fZ HR0.out dz O9 OJ; have sU := sG; have sV := p8; obtain rfl : fK = WZ := (by injection e511); replace p8 := cB HB p8; replace sG := cB HB sG; have zI := ah.mk Cb; have Gc := ah.mk BM; clear Cb BM; replace O9 := eq_true O9; replace OJ := eq_true OJ; have ea_ := Option.some.inj (gF.symm.trans p8); injection ea_ with ea_ en_ ec_; subst ea_; subst ec_; clear en_; refine jB (n := 43) (S := fun w' => w'.cell? (fK.add ((dz).toNat * 2)) = some (.slice jW ((aD l0 dz).f0).length jV) ∧ w'.cell? ⟨(fK.add ((dz).toNat * 2)).block, (fK.add ((dz).toNat * 2)).off + 1, none⟩ = some (.int .i64 ((aD l0 dz).f1)) ∧ w'.cell? (fK.add ((dz).toNat * 2)) = some (.slice jW ((aD l0 dz).f0).length jV) ∧ w'.cell? ⟨(fK.add ((dz).toNat * 2)).block, (fK.add ((dz).toNat * 2)).off + 1, none⟩ = some (.int .i64 ((aD l0 dz).f1)) ∧ w'.cell? (fK.add ((dz).toNat * 2)) = some (.slice jW ((aD l0 dz).f0).length jV) ∧ w'.cell? ⟨(fK.add ((dz).toNat * 2)).block, (fK.add ((dz).toNat * 2)).off + 1, none⟩ = some (.int .i64 ((aD l0 dz).f1)) ∧ w'.cell? (fK.add (((qC)).toNat * 2)) = some (.slice Iw ((aD l0 (qC)).f0).length HV) ∧ w'.cell? ⟨(fK.add (((qC)).toNat * 2)).block, (fK.add (((qC)).toNat * 2)).off + 1, none⟩ = some (.int .i64 ((aD l0 (qC)).f1)) ∧ w'.cell? (fK.add ((dz).toNat * 2)) = some (.slice jW ((aD l0 dz).f0).length jV) ∧ w'.cell? ⟨(fK.add ((dz).toNat * 2)).block, (fK.add ((dz).toNat * 2)).off + 1, none⟩ = some (.int .i64 ((aD l0 dz).f1))) (ds := []) (.replicate 43 false) (by kernel_rfl) rfl rfl ⟨(cB HB jU), (cB HB jT), (cB HB kD), (cB HB kC), (cB HB lN), (cB HB lM), (cB HB sZ), (cB HB sW), (cB HB sV), (cB HB sU)⟩ (fun hHeld => ?_); refine iG bI.UE bI.Jo (fun HT_ HW_ => ?_); generalize wr.drew = w21 at HB fD kK lq Dy zI gF ji jh jS jY kR sI sH p8 sG hHeld ⊢; refine pV 0 13 (bA 43 1) HT_ ?_; refine pV 1 14 (bA 43 3) HT_ ?_; refine pV 2 15 (bA 43 7) HT_ ?_; refine pV 3 16 (bA 43 15) HT_ ?_; refine tV (v := ?_) 4 17 (bA 43 31) HT_ HW_ hHeld ?_ ?_; rotate_left
             ·rintro w' ⟨s0, s1, s2, s3, s4, s5, s6, s7, s8, s9⟩
              go_simp
              (with_reducible rfl)
             refine oN 5 18 (bA 43 63) HT_ (fun K hK => ?_); refine iy Try.func88 (by kernel_rfl) rfl #[.slice jW ((aD l0 dz).f0).length jV] (by rfl) rfl rfl zz8 ?_; (with_reducible refine (bD.calls k1 _ _ ((aD l0 dz).f0) true _ ?bO ?bR A5.out).mono ?_); (case bO => repeat (first | exact (Kd.eZ fD.out HB.out) | (with_reducible refine Kd.dF ?_ _) | (with_reducible refine Kd.dI ?_ _) | (with_reducible refine Kd.dZ ?_))); (case bR => exact gN.out); rintro e w22 ⟨rfl, hb⟩; refine ⟨_, rfl, ?_⟩; replace HB := ah.mk (av zz1 hb); (try clear hb); (try clear hb2); (try clear hk); (try clear hi); refine hK.out _ _ ⟨(cB HB jU), (cB HB jT), (cB HB kD), (cB HB kC), (cB HB lN), (cB HB lM), (cB HB sZ), (cB HB sW), (cB HB sV), (cB HB sU)⟩ (fun hHeld => ?_); clear hK K; refine iI (a' := ?_) ?_ ?_; rotate_left
             ·show Act.put _ (some 18) _ = _
              simp only [Act.put, List.setIfInBounds_toArray, List.set_cons_zero, List.set_cons_succ, dS, eP]
              rfl
             refine pV 6 19 (bA 43 127) HT_ ?_; refine pV 7 20 (bA 43 255) HT_ ?_; refine pV 8 21 (bA 43 511) HT_ ?_; refine pV 9 22 (bA 43 1023) HT_ ?_; refine pV 10 23 (bA 43 2047) HT_ ?_; refine pV 11 24 (bA 43 4095) HT_ ?_; refine tV (v := ?_) 12 25 (bA 43 8191) HT_ HW_ hHeld ?_ ?_; rotate_left
             ·rintro w' ⟨s0, s1, s2, s3, s4, s5, s6, s7, s8, s9⟩
              go_simp
              (with_reducible rfl)
             refine oN 13 26 (bA 43 16383) HT_ (fun K hK => ?_); refine iy Try.func89 (by kernel_rfl) rfl #[.int .i64 ((aD l0 dz).f1)] (by rfl) rfl rfl zz8 ?_; (with_reducible refine (d9.calls ((aD l0 dz).f1) true _ A7.out).mono ?_); rintro e w' ⟨rfl, ⟨nd, rfl⟩⟩; refine ⟨_, rfl, ?_⟩; refine hK.out _ _ ⟨(cB HB jU), (cB HB jT), (cB HB kD), (cB HB kC), (cB HB lN), (cB HB lM), (cB HB sZ), (cB HB sW), (cB HB sV), (cB HB sU)⟩ (fun hHeld => ?_); clear hK K; refine iI (a' := ?_) ?_ ?_; rotate_left
             ·show Act.put _ (some 26) _ = _
              simp only [Act.put, List.setIfInBounds_toArray, List.set_cons_zero, List.set_cons_succ, dS, eP]
              rfl
             refine pV 14 27 (bA 43 32767) HT_ ?_; refine pV 15 28 (bA 43 65535) HT_ ?_; refine pV 16 29 (bA 43 131071) HT_ ?_; refine pV 17 30 (bA 43 262143) HT_ ?_; refine pV 18 31 (bA 43 524287) HT_ ?_; refine pV 19 32 (bA 43 1048575) HT_ ?_; refine pV 20 33 (bA 43 2097151) HT_ ?_; refine tV (v := ?_) 21 34 (bA 43 4194303) HT_ HW_ hHeld ?_ ?_; rotate_left
             ·rintro w' ⟨s0, s1, s2, s3, s4, s5, s6, s7, s8, s9⟩
              go_simp
              (with_reducible rfl)
             refine pV 22 35 (bA 43 8388607) HT_ ?_; refine pV 23 36 (bA 43 16777215) HT_ ?_; refine pV 24 37 (bA 43 33554431) HT_ ?_; refine pV 25 38 (bA 43 67108863) HT_ ?_; refine pV 26 39 (bA 43 134217727) HT_ ?_; refine pV 27 40 (bA 43 268435455) HT_ ?_; refine pV 28 41 (bA 43 536870911) HT_ ?_; refine pV 29 42 (bA 43 1073741823) HT_ ?_; refine pV 30 43 (bA 43 2147483647) HT_ ?_; refine pV 31 44 (bA 43 4294967295) HT_ ?_; refine pV 32 45 (bA 43 8589934591) HT_ ?_; refine pV 34 47 (bA 43 25769803775) HT_ ?_; refine pV 35 48 (bA 43 60129542143) HT_ ?_; refine pV 36 49 (bA 43 128849018879) HT_ ?_; refine pV 37 50 (bA 43 266287972351) HT_ ?_; refine tV (v := ?_) 33 46 (bA 43 274877906943) HT_ HW_ hHeld ?_ ?_; rotate_left
             ·rintro w' ⟨s0, s1, s2, s3, s4, s5, s6, s7, s8, s9⟩
              go_simp
              (with_reducible rfl)
             refine tV (v := ?_) 38 51 (bA 43 549755813887) HT_ HW_ hHeld ?_ ?_; rotate_left
             ·rintro w' ⟨s0, s1, s2, s3, s4, s5, s6, s7, s8, s9⟩
              go_simp
              (with_reducible rfl)
             refine oN 39 52 (bA 43 1099511627775) HT_ (fun K hK => ?_); refine iy Try.func93 (by kernel_rfl) rfl #[.slice Iw ((aD l0 (qC)).f0).length HV, .slice jW ((aD l0 dz).f0).length jV] (by rfl) rfl rfl (by (try simp only [List.map_toArray, List.map_cons, List.map_nil]); first | done | (simp only [Eu]; rfl) | rfl | (simp only [List.length_drop, List.length_take]; rfl)) ?_; (with_reducible refine (aK.calls k1 _ _ ((aD l0 (qC)).f0) _ _ ((aD l0 dz).f0) JU _ ?bO ?bR ?mg ?mU A16.out).mono ?_); (case bO => repeat (first | exact (Kd.eZ Dy.out zz1) | (with_reducible refine Kd.dF ?_ _) | (with_reducible refine Kd.dI ?_ _) | (with_reducible refine Kd.dZ ?_))); (case bR => exact LQ.out); (case mg => repeat (first | exact (Kd.eZ zI.out zz1) | (with_reducible refine Kd.dF ?_ _) | (with_reducible refine Kd.dI ?_ _) | (with_reducible refine Kd.dZ ?_))); (case mU => exact Gc.out); rintro e w23 ⟨rfl, hb⟩; refine ⟨_, rfl, ?_⟩; replace HB := ah.mk (av zz1 hb); (try clear hb); (try clear hb2); (try clear hk); (try clear hi); refine hK.out _ _ ⟨(cB HB jU), (cB HB jT), (cB HB kD), (cB HB kC), (cB HB lN), (cB HB lM), (cB HB sZ), (cB HB sW), (cB HB sV), (cB HB sU)⟩ (fun hHeld => ?_); clear hK K; refine iI (a' := ?_) ?_ ?_; rotate_left
             ·show Act.put _ (some 52) _ = _
              simp only [Act.put, List.setIfInBounds_toArray, List.set_cons_zero, List.set_cons_succ, dS, eP]
              rfl
             refine pV 40 53 (bA 43 2199023255551) HT_ ?_; refine pV 41 54 (bA 43 4398046511103) HT_ ?_; refine pV 42 55 (bA 43 8796093022207) HT_ ?_; refine kX (j6 HT_.out (by kernel_rfl)) ?_
             try go_wp2
             go_roundg k1
             case measure => have := HK1.out; omega
             case rel => exact ⟨(wrap64 (dz + 1)), zz2, H', ⟨by have := HK1.out; omega⟩, ⟨zz1⟩⟩
           ·rw [if_neg c15] at H; exact absurd H (by simp)
          ·rw [if_neg c14] at H; exact absurd H (by simp)
         ·rw [if_neg c12] at H; have H9 : decide (0 < dz) = false := decide_eq_false c12; clear c12; have H' := ah.mk H; clear H
          try go_wp2
          replace HB := ah.mk (bL HB.out); have uz : 0 ≤ (dz : Int) := of_decide_eq_true zz9; have uy : dz < (l0.length : Int) := of_decide_eq_true zz9; obtain ⟨fK, jW, jV, Hw, gF, ji, lQ, lS⟩ := fZ HR0.out dz uz uy; have jT := ji; have jU := gF
          cases Hw
          replace gF := cB HB gF; replace ji := cB HB ji; have fD := ah.mk lS; have gN := ah.mk lQ; clear lS lQ; replace uz := eq_true uz; replace uy := eq_true uy; have wJ : 0 ≤ (dz : Int) := of_decide_eq_true zz9; have wH : dz < (l0.length : Int) := of_decide_eq_true zz9; obtain ⟨Dt, LZ, Lj, Lf, jh, jS, nC, nE⟩ := fZ HR0.out dz wJ wH; have kC := jS; have kD := jh; obtain rfl : fK = Dt := (by injection Lf); replace jh := cB HB jh; replace jS := cB HB jS; have kK := ah.mk nE; have qB := ah.mk nC; clear nE nC; replace wJ := eq_true wJ; replace wH := eq_true wH; have ea_ := Option.some.inj (gF.symm.trans jh); injection ea_ with ea_ en_ ec_; subst ea_; subst ec_; clear en_; have Ad : 0 ≤ (dz : Int) := of_decide_eq_true zz9; have Aa : dz < (l0.length : Int) := of_decide_eq_true zz9; obtain ⟨Ii, QK, QA, Qw, jY, kR, qb, qc⟩ := fZ HR0.out dz Ad Aa; have lM := kR; have lN := jY; obtain rfl : fK = Ii := (by injection Qw); replace jY := cB HB jY; replace kR := cB HB kR; have lq := ah.mk qc; have qA := ah.mk qb; clear qc qb; replace Ad := eq_true Ad; replace Aa := eq_true Aa; have ea_ := Option.some.inj (gF.symm.trans jY); injection ea_ with ea_ en_ ec_; subst ea_; subst ec_; clear en_; refine jB (n := 43) (S := fun w' => w'.cell? (fK.add ((dz).toNat * 2)) = some (.slice jW ((aD l0 dz).f0).length jV) ∧ w'.cell? ⟨(fK.add ((dz).toNat * 2)).block, (fK.add ((dz).toNat * 2)).off + 1, none⟩ = some (.int .i64 ((aD l0 dz).f1)) ∧ w'.cell? (fK.add ((dz).toNat * 2)) = some (.slice jW ((aD l0 dz).f0).length jV) ∧ w'.cell? ⟨(fK.add ((dz).toNat * 2)).block, (fK.add ((dz).toNat * 2)).off + 1, none⟩ = some (.int .i64 ((aD l0 dz).f1)) ∧ w'.cell? (fK.add ((dz).toNat * 2)) = some (.slice jW ((aD l0 dz).f0).length jV) ∧ w'.cell? ⟨(fK.add ((dz).toNat * 2)).block, (fK.add ((dz).toNat * 2)).off + 1, none⟩ = some (.int .i64 ((aD l0 dz).f1))) (ds := []) (.replicate 43 false) (by kernel_rfl) rfl rfl ⟨(cB HB jU), (cB HB jT), (cB HB kD), (cB HB kC), (cB HB lN), (cB HB lM)⟩ (fun hHeld => ?_); refine iG bI.UE bI.Jo (fun HT_ HW_ => ?_); generalize wr.drew = w24 at HB fD kK lq gF ji jh jS jY kR hHeld ⊢; refine pV 0 13 (bA 43 1) HT_ ?_; refine pV 1 14 (bA 43 3) HT_ ?_; refine pV 2 15 (bA 43 7) HT_ ?_; refine pV 3 16 (bA 43 15) HT_ ?_; refine tV (v := ?_) 4 17 (bA 43 31) HT_ HW_ hHeld ?_ ?_; rotate_left
          ·rintro w' ⟨s0, s1, s2, s3, s4, s5⟩
           go_simp
           (with_reducible rfl)
          refine oN 5 18 (bA 43 63) HT_ (fun K hK => ?_); refine iy Try.func88 (by kernel_rfl) rfl #[.slice jW ((aD l0 dz).f0).length jV] (by rfl) rfl rfl zz8 ?_; (with_reducible refine (bD.calls k1 _ _ ((aD l0 dz).f0) true _ ?bO ?bR A5.out).mono ?_); (case bO => repeat (first | exact (Kd.eZ fD.out HB.out) | (with_reducible refine Kd.dF ?_ _) | (with_reducible refine Kd.dI ?_ _) | (with_reducible refine Kd.dZ ?_))); (case bR => exact gN.out); rintro e w25 ⟨rfl, hb⟩; refine ⟨_, rfl, ?_⟩; replace HB := ah.mk (av zz1 hb); (try clear hb); (try clear hb2); (try clear hk); (try clear hi); refine hK.out _ _ ⟨(cB HB jU), (cB HB jT), (cB HB kD), (cB HB kC), (cB HB lN), (cB HB lM)⟩ (fun hHeld => ?_); clear hK K; refine iI (a' := ?_) ?_ ?_; rotate_left
          ·show Act.put _ (some 18) _ = _
           simp only [Act.put, List.setIfInBounds_toArray, List.set_cons_zero, List.set_cons_succ, dS, eP]
           rfl
          refine pV 6 19 (bA 43 127) HT_ ?_; refine pV 7 20 (bA 43 255) HT_ ?_; refine pV 8 21 (bA 43 511) HT_ ?_; refine pV 9 22 (bA 43 1023) HT_ ?_; refine pV 10 23 (bA 43 2047) HT_ ?_; refine pV 11 24 (bA 43 4095) HT_ ?_; refine tV (v := ?_) 12 25 (bA 43 8191) HT_ HW_ hHeld ?_ ?_; rotate_left
          ·rintro w' ⟨s0, s1, s2, s3, s4, s5⟩
           go_simp
           (with_reducible rfl)
          refine oN 13 26 (bA 43 16383) HT_ (fun K hK => ?_); refine iy Try.func89 (by kernel_rfl) rfl #[.int .i64 ((aD l0 dz).f1)] (by rfl) rfl rfl zz8 ?_; (with_reducible refine (d9.calls ((aD l0 dz).f1) true _ A7.out).mono ?_); rintro e w' ⟨rfl, ⟨nd, rfl⟩⟩; refine ⟨_, rfl, ?_⟩; refine hK.out _ _ ⟨(cB HB jU), (cB HB jT), (cB HB kD), (cB HB kC), (cB HB lN), (cB HB lM)⟩ (fun hHeld => ?_); clear hK K; refine iI (a' := ?_) ?_ ?_; rotate_left
          ·show Act.put _ (some 26) _ = _
           simp only [Act.put, List.setIfInBounds_toArray, List.set_cons_zero, List.set_cons_succ, dS, eP]
           rfl
          refine pV 14 27 (bA 43 32767) HT_ ?_; refine pV 15 28 (bA 43 65535) HT_ ?_; refine pV 16 29 (bA 43 131071) HT_ ?_; refine pV 17 30 (bA 43 262143) HT_ ?_; refine pV 18 31 (bA 43 524287) HT_ ?_; refine pV 19 32 (bA 43 1048575) HT_ ?_; refine pV 20 33 (bA 43 2097151) HT_ ?_; refine tV (v := ?_) 21 34 (bA 43 4194303) HT_ HW_ hHeld ?_ ?_; rotate_left
          ·rintro w' ⟨s0, s1, s2, s3, s4, s5⟩
           go_simp
           (with_reducible rfl)
          refine pV 22 35 (bA 43 8388607) HT_ ?_; refine pV 23 36 (bA 43 16777215) HT_ ?_; refine pV 24 37 (bA 43 33554431) HT_ ?_; refine pV 25 38 (bA 43 67108863) HT_ ?_; refine pV 26 39 (bA 43 134217727) HT_ ?_; refine pV 27 40 (bA 43 268435455) HT_ ?_; refine pU 28 41 (bA 43 536870911) HT_ ?_; refine pU 29 42 (bA 43 1073741823) HT_ ?_; refine pU 30 43 (bA 43 2147483647) HT_ ?_; refine pU 31 44 (bA 43 4294967295) HT_ ?_; refine pU 32 45 (bA 43 8589934591) HT_ ?_; refine pU 33 46 (bA 43 17179869183) HT_ ?_; refine pU 34 47 (bA 43 34359738367) HT_ ?_; refine pU 35 48 (bA 43 68719476735) HT_ ?_; refine pU 36 49 (bA 43 137438953471) HT_ ?_; refine pU 37 50 (bA 43 274877906943) HT_ ?_; refine pU 38 51 (bA 43 549755813887) HT_ ?_; refine pU 39 52 (bA 43 1099511627775) HT_ ?_; refine pU 40 53 (bA 43 2199023255551) HT_ ?_; refine pV 41 54 (bA 43 4398046511103) HT_ ?_; refine pV 42 55 (bA 43 8796093022207) HT_ ?_; refine kX (j6 HT_.out (by kernel_rfl)) ?_
          try go_wp2
          go_roundg k1
          case measure => have := HK1.out; omega
          case rel => exact ⟨(wrap64 (dz + 1)), zz2, H', ⟨by have := HK1.out; omega⟩, ⟨zz1⟩⟩
       ·replace c8 := Bool.eq_false_iff.mpr c8; subst c8; rw [if_neg (show ¬ (false = true) by decide)] at H; obtain rfl := Option.some.inj H
        try go_wp2
        replace HB := ah.mk (bL HB.out); have uz : 0 ≤ (dz : Int) := of_decide_eq_true zz9; have uy : dz < (l0.length : Int) := of_decide_eq_true zz9; obtain ⟨fK, jW, jV, Hw, gF, ji, lQ, lS⟩ := fZ HR0.out dz uz uy; have jT := ji; have jU := gF
        cases Hw
        replace gF := cB HB gF; replace ji := cB HB ji; have fD := ah.mk lS; have gN := ah.mk lQ; clear lS lQ; replace uz := eq_true uz; replace uy := eq_true uy; have wJ : 0 ≤ (dz : Int) := of_decide_eq_true zz9; have wH : dz < (l0.length : Int) := of_decide_eq_true zz9; obtain ⟨Dt, LZ, Lj, Lf, jh, jS, nC, nE⟩ := fZ HR0.out dz wJ wH; have kC := jS; have kD := jh; obtain rfl : fK = Dt := (by injection Lf); replace jh := cB HB jh; replace jS := cB HB jS; have kK := ah.mk nE; have qB := ah.mk nC; clear nE nC; replace wJ := eq_true wJ; replace wH := eq_true wH; have ea_ := Option.some.inj (gF.symm.trans jh); injection ea_ with ea_ en_ ec_; subst ea_; subst ec_; clear en_; refine jB (n := 43) (S := fun w' => w'.cell? (fK.add ((dz).toNat * 2)) = some (.slice jW ((aD l0 dz).f0).length jV) ∧ w'.cell? ⟨(fK.add ((dz).toNat * 2)).block, (fK.add ((dz).toNat * 2)).off + 1, none⟩ = some (.int .i64 ((aD l0 dz).f1)) ∧ w'.cell? (fK.add ((dz).toNat * 2)) = some (.slice jW ((aD l0 dz).f0).length jV) ∧ w'.cell? ⟨(fK.add ((dz).toNat * 2)).block, (fK.add ((dz).toNat * 2)).off + 1, none⟩ = some (.int .i64 ((aD l0 dz).f1))) (ds := []) (.replicate 43 false) (by kernel_rfl) rfl rfl ⟨(cB HB jU), (cB HB jT), (cB HB kD), (cB HB kC)⟩ (fun hHeld => ?_); refine iG bI.UE bI.Jo (fun HT_ HW_ => ?_); generalize wr.drew = w26 at HB fD kK gF ji jh jS hHeld ⊢; refine pV 0 13 (bA 43 1) HT_ ?_; refine pV 1 14 (bA 43 3) HT_ ?_; refine pV 2 15 (bA 43 7) HT_ ?_; refine pV 3 16 (bA 43 15) HT_ ?_; refine tV (v := ?_) 4 17 (bA 43 31) HT_ HW_ hHeld ?_ ?_; rotate_left
        ·rintro w' ⟨s0, s1, s2, s3⟩
         go_simp
         (with_reducible rfl)
        refine oN 5 18 (bA 43 63) HT_ (fun K hK => ?_); refine iy Try.func88 (by kernel_rfl) rfl #[.slice jW ((aD l0 dz).f0).length jV] (by rfl) rfl rfl zz8 ?_; (with_reducible refine (bD.calls k1 _ _ ((aD l0 dz).f0) true _ ?bO ?bR A5.out).mono ?_); (case bO => repeat (first | exact (Kd.eZ fD.out HB.out) | (with_reducible refine Kd.dF ?_ _) | (with_reducible refine Kd.dI ?_ _) | (with_reducible refine Kd.dZ ?_))); (case bR => exact gN.out); rintro e w27 ⟨rfl, hb⟩; refine ⟨_, rfl, ?_⟩; replace HB := ah.mk (av zz1 hb); (try clear hb); (try clear hb2); (try clear hk); (try clear hi); refine hK.out _ _ ⟨(cB HB jU), (cB HB jT), (cB HB kD), (cB HB kC)⟩ (fun hHeld => ?_); clear hK K; refine iI (a' := ?_) ?_ ?_; rotate_left
        ·show Act.put _ (some 18) _ = _
         simp only [Act.put, List.setIfInBounds_toArray, List.set_cons_zero, List.set_cons_succ, dS, eP]
         rfl
        refine pV 6 19 (bA 43 127) HT_ ?_; refine pV 7 20 (bA 43 255) HT_ ?_; refine pV 8 21 (bA 43 511) HT_ ?_; refine pV 9 22 (bA 43 1023) HT_ ?_; refine pV 10 23 (bA 43 2047) HT_ ?_; refine pV 11 24 (bA 43 4095) HT_ ?_; refine tV (v := ?_) 12 25 (bA 43 8191) HT_ HW_ hHeld ?_ ?_; rotate_left
        ·rintro w' ⟨s0, s1, s2, s3⟩
         go_simp
         (with_reducible rfl)
        refine oN 13 26 (bA 43 16383) HT_ (fun K hK => ?_); refine iy Try.func89 (by kernel_rfl) rfl #[.int .i64 ((aD l0 dz).f1)] (by rfl) rfl rfl zz8 ?_; (with_reducible refine (d9.calls ((aD l0 dz).f1) false _ A7.out).mono ?_); rintro e w' ⟨rfl, ⟨nd, rfl⟩⟩; refine ⟨_, rfl, ?_⟩; refine hK.out _ _ ⟨(cB HB jU), (cB HB jT), (cB HB kD), (cB HB kC)⟩ (fun hHeld => ?_); clear hK K; refine iI (a' := ?_) ?_ ?_; rotate_left
        ·show Act.put _ (some 26) _ = _
         simp only [Act.put, List.setIfInBounds_toArray, List.set_cons_zero, List.set_cons_succ, dS, eP]
         rfl
        refine pV 14 27 (bA 43 32767) HT_ ?_; refine pV 15 28 (bA 43 65535) HT_ ?_; refine pV 16 29 (bA 43 131071) HT_ ?_; refine pU 17 30 (bA 43 262143) HT_ ?_; refine pU 18 31 (bA 43 524287) HT_ ?_; refine pU 19 32 (bA 43 1048575) HT_ ?_; refine pU 20 33 (bA 43 2097151) HT_ ?_; refine pU 21 34 (bA 43 4194303) HT_ ?_; refine pU 22 35 (bA 43 8388607) HT_ ?_; refine pV 23 36 (bA 43 16777215) HT_ ?_; refine pV 24 37 (bA 43 33554431) HT_ ?_; refine pU 25 38 (bA 43 67108863) HT_ ?_; refine pU 26 39 (bA 43 134217727) HT_ ?_; refine pU 27 40 (bA 43 268435455) HT_ ?_; refine pU 28 41 (bA 43 536870911) HT_ ?_; refine pU 29 42 (bA 43 1073741823) HT_ ?_; refine pU 30 43 (bA 43 2147483647) HT_ ?_; refine pU 31 44 (bA 43 4294967295) HT_ ?_; refine pU 32 45 (bA 43 8589934591) HT_ ?_; refine pU 33 46 (bA 43 17179869183) HT_ ?_; refine pU 34 47 (bA 43 34359738367) HT_ ?_; refine pU 35 48 (bA 43 68719476735) HT_ ?_; refine pU 36 49 (bA 43 137438953471) HT_ ?_; refine pU 37 50 (bA 43 274877906943) HT_ ?_; refine pU 38 51 (bA 43 549755813887) HT_ ?_; refine pU 39 52 (bA 43 1099511627775) HT_ ?_; refine pU 40 53 (bA 43 2199023255551) HT_ ?_; refine pU 41 54 (bA 43 4398046511103) HT_ ?_; refine pV 42 55 (bA 43 8796093022207) HT_ ?_; refine kX (j6 HT_.out (by kernel_rfl)) ?_
        try go_wp2
        go_ret
        exact ⟨zz6, zz1⟩
      ·replace c6 := Bool.eq_false_iff.mpr c6; subst c6; rw [if_neg (show ¬ (false = true) by decide)] at H; obtain rfl := Option.some.inj H
       try go_wp2
       replace HB := ah.mk (bL HB.out); have uz : 0 ≤ (dz : Int) := of_decide_eq_true zz9; have uy : dz < (l0.length : Int) := of_decide_eq_true zz9; obtain ⟨fK, jW, jV, Hw, gF, ji, lQ, lS⟩ := fZ HR0.out dz uz uy; have jT := ji; have jU := gF
       cases Hw
       replace gF := cB HB gF; replace ji := cB HB ji; have fD := ah.mk lS; have gN := ah.mk lQ; clear lS lQ; replace uz := eq_true uz; replace uy := eq_true uy; refine jB (n := 43) (S := fun w' => w'.cell? (fK.add ((dz).toNat * 2)) = some (.slice jW ((aD l0 dz).f0).length jV) ∧ w'.cell? ⟨(fK.add ((dz).toNat * 2)).block, (fK.add ((dz).toNat * 2)).off + 1, none⟩ = some (.int .i64 ((aD l0 dz).f1))) (ds := []) (.replicate 43 false) (by kernel_rfl) rfl rfl ⟨(cB HB jU), (cB HB jT)⟩ (fun hHeld => ?_); refine iG bI.UE bI.Jo (fun HT_ HW_ => ?_); generalize wr.drew = w28 at HB fD gF ji hHeld ⊢; refine pV 0 13 (bA 43 1) HT_ ?_; refine pV 1 14 (bA 43 3) HT_ ?_; refine pV 2 15 (bA 43 7) HT_ ?_; refine pV 3 16 (bA 43 15) HT_ ?_; refine tV (v := ?_) 4 17 (bA 43 31) HT_ HW_ hHeld ?_ ?_; rotate_left
       ·rintro w' ⟨s0, s1⟩
        go_simp
        (with_reducible rfl)
       refine oN 5 18 (bA 43 63) HT_ (fun K hK => ?_); refine iy Try.func88 (by kernel_rfl) rfl #[.slice jW ((aD l0 dz).f0).length jV] (by rfl) rfl rfl zz8 ?_; (with_reducible refine (bD.calls k1 _ _ ((aD l0 dz).f0) false _ ?bO ?bR A5.out).mono ?_); (case bO => repeat (first | exact (Kd.eZ fD.out HB.out) | (with_reducible refine Kd.dF ?_ _) | (with_reducible refine Kd.dI ?_ _) | (with_reducible refine Kd.dZ ?_))); (case bR => exact gN.out); rintro e w29 ⟨rfl, hb⟩; refine ⟨_, rfl, ?_⟩; replace HB := ah.mk (av zz1 hb); (try clear hb); (try clear hb2); (try clear hk); (try clear hi); refine hK.out _ _ ⟨(cB HB jU), (cB HB jT)⟩ (fun hHeld => ?_); clear hK K; refine iI (a' := ?_) ?_ ?_; rotate_left
       ·show Act.put _ (some 18) _ = _
        simp only [Act.put, List.setIfInBounds_toArray, List.set_cons_zero, List.set_cons_succ, dS, eP]
        rfl
       refine pV 6 19 (bA 43 127) HT_ ?_; refine pV 7 20 (bA 43 255) HT_ ?_; refine pU 8 21 (bA 43 511) HT_ ?_; refine pU 9 22 (bA 43 1023) HT_ ?_; refine pU 10 23 (bA 43 2047) HT_ ?_; refine pU 11 24 (bA 43 4095) HT_ ?_; refine pU 12 25 (bA 43 8191) HT_ ?_; refine pU 13 26 (bA 43 16383) HT_ ?_; refine pU 14 27 (bA 43 32767) HT_ ?_; refine pV 15 28 (bA 43 65535) HT_ ?_; refine pV 16 29 (bA 43 131071) HT_ ?_; refine pU 17 30 (bA 43 262143) HT_ ?_; refine pU 18 31 (bA 43 524287) HT_ ?_; refine pU 19 32 (bA 43 1048575) HT_ ?_; refine pU 20 33 (bA 43 2097151) HT_ ?_; refine pU 21 34 (bA 43 4194303) HT_ ?_; refine pU 22 35 (bA 43 8388607) HT_ ?_; refine pV 23 36 (bA 43 16777215) HT_ ?_; refine pV 24 37 (bA 43 33554431) HT_ ?_; refine pU 25 38 (bA 43 67108863) HT_ ?_; refine pU 26 39 (bA 43 134217727) HT_ ?_; refine pU 27 40 (bA 43 268435455) HT_ ?_; refine pU 28 41 (bA 43 536870911) HT_ ?_; refine pU 29 42 (bA 43 1073741823) HT_ ?_; refine pU 30 43 (bA 43 2147483647) HT_ ?_; refine pU 31 44 (bA 43 4294967295) HT_ ?_; refine pU 32 45 (bA 43 8589934591) HT_ ?_; refine pU 33 46 (bA 43 17179869183) HT_ ?_; refine pU 34 47 (bA 43 34359738367) HT_ ?_; refine pU 35 48 (bA 43 68719476735) HT_ ?_; refine pU 36 49 (bA 43 137438953471) HT_ ?_; refine pU 37 50 (bA 43 274877906943) HT_ ?_; refine pU 38 51 (bA 43 549755813887) HT_ ?_; refine pU 39 52 (bA 43 1099511627775) HT_ ?_; refine pU 40 53 (bA 43 2199023255551) HT_ ?_; refine pU 41 54 (bA 43 4398046511103) HT_ ?_; refine pV 42 55 (bA 43 8796093022207) HT_ ?_; refine kX (j6 HT_.out (by kernel_rfl)) ?_
       try go_wp2
       go_ret
       exact ⟨zz6, zz1⟩
     ·rw [if_neg c4] at H; exact absurd H (by simp)
    ·rw [if_neg c3] at H; have tY : decide (dz < (l0.length : Int)) = false := decide_eq_false c3; clear c3; obtain rfl := Option.some.inj H
     go_wp2
     go_ret
     exact ⟨zz6, zz1⟩
def gq.j0 : Nat → List (S51) → List (S51) → Bool → Option ((List (S51)) × Int)
 | 0, _, _, _ => none
 | k + 1, x0, x1, x13 => if x13 = true then (some (([] : List (S51)), 1)) else ((aX.f k x0 x1).bind fun t675 => ((eX.f k t675).bind fun bt678 => (some (bt678.1, bt678.2))))
def gq.f (k : Nat) (l0 : List (S51)) (l1 : List (S51)) : Option ((List (S51)) × Int) := (bI.f k l0).bind fun t673 => (if t673 = true then ((bI.f k l1).bind fun t674 => (gq.j0 k l0 l1 (!t674))) else (gq.j0 k l0 l1 true))
set_option maxHeartbeats 8000000 in
set_option maxRecDepth 100000 in
theorem gq.calls (k : Nat) (P0_ : Nat → Prop) (A0 : Option Addr) (c0 : Nat) (l0 : List (S51)) (P1_ : Nat → Prop) (A1 : Option Addr) (c1 : Nat) (l1 : List (S51)) (r1 : List (S51)) (r2 : Int) (w : World) (hs0 : Kd.V k51 51 w w.heap.size (fun k_ => P0_ k_) (.slice A0 l0.length c0) l0) (hs1 : Kd.V k51 51 w w.heap.size (fun k_ => P1_ k_) (.slice A1 l1.length c1) l1) (h : gq.f k l0 l1 = some (r1, r2)) :
  Calls Try.prog 27 #[.slice A0 l0.length c0, .slice A1 l1.length c1] w fun e w' => ∃ v0_ : Value, e = .returned (.tuple #[v0_, .int .i64 r2]) ∧ Kd.V k51 51 w' w.heap.size (fun k_ => ((P0_ k_ ∨ P1_ k_) ∨ w.heap.size ≤ k_)) v0_ r1 ∧ Below w.heap.size w w' := by
 have HO0 := ah.mk (show Kd.V k51 51 w w.heap.size (fun k_ => ((P0_ k_ ∨ P1_ k_) ∨ w.heap.size ≤ k_)) (.slice A0 l0.length c0) l0 from Kd.iE hs0 (fun k_ hk => .inl (.inl hk))); have HO1 := ah.mk (show Kd.V k51 51 w w.heap.size (fun k_ => ((P0_ k_ ∨ P1_ k_) ∨ w.heap.size ≤ k_)) (.slice A1 l1.length c1) l1 from Kd.iE hs1 (fun k_ hk => .inl (.inr hk))); have HB := ah.mk (Below.refl w.heap.size w); have H := h; clear h
 dsimp only [gq.f] at H
 have HC3 := ah.mk H; clear H
 go_enter Try.func27, Try.ntmps27
 go_upto_region 1 with (fail)
 go_cut [13] (fun v13 wc => ∃ (kq : Nat) (Ro : Bool), v13 = .bool Ro ∧ ah (gq.j0 kq l0 l1 Ro = some (r1, r2)) ∧ ah (kq ≤ k) ∧ ah (Kd.V k51 51 wc w.heap.size (fun k_ => ((P0_ k_ ∨ P1_ k_) ∨ w.heap.size ≤ k_)) (.slice A0 l0.length c0) l0) ∧ ah (Kd.V k51 51 wc w.heap.size (fun k_ => ((P0_ k_ ∨ P1_ k_) ∨ w.heap.size ≤ k_)) (.slice A1 l1.length c1) l1) ∧ ah (Below w.heap.size w wc))
 case first =>
  have H := HC3.out; clear HC3; replace H := Option.bind_eq_some_iff.mp H; obtain ⟨t673, A40, H⟩ := H; have A4 := ah.mk A40; clear A40
  by_cases c5 : t673 = true
  ·subst c5; rw [if_pos rfl] at H; replace H := Option.bind_eq_some_iff.mp H; obtain ⟨t674, A60, H⟩ := H; have A6 := ah.mk A60; clear A60; have H' := ah.mk H; clear H
   go_wp2_with (first | ((with_reducible refine aN (f := 59) rfl ?_); refine bU (some 7) rfl rfl Try.func59 (by kernel_rfl) rfl #[.slice A0 l0.length c0] rfl zz8 ?_; (with_reducible refine (bI.calls k _ _ l0 true _ ?bO ?bR A4.out).mono ?_); (case bO => repeat (first | exact (Kd.dL HO0.out).2.2 | (with_reducible refine Kd.dF ?_ _) | (with_reducible refine Kd.dI ?_ _) | (with_reducible refine Kd.dZ ?_))); (case bR => exact (Kd.dL HO0.out).2.1); rintro e w7 ⟨rfl, hb⟩; refine ⟨_, rfl, ?_⟩; replace HO0 := ah.mk (Kd.iM Gh hb); replace HO1 := ah.mk (Kd.iM Gf hb); replace HB := ah.mk (av zz1 hb); (try clear hb); (try clear hb2); (try clear hk); (try clear hi)) | (go_at_call 59; (with_reducible refine (bI.calls k _ _ l1 t674 _ ?bO ?bR A6.out).mono ?_); (case bO => repeat (first | exact (Kd.dL HO1.out).2.2 | (with_reducible refine Kd.dF ?_ _) | (with_reducible refine Kd.dI ?_ _) | (with_reducible refine Kd.dZ ?_))); (case bR => exact (Kd.dL HO1.out).2.1); rintro e w8 ⟨rfl, hb⟩; replace HO0 := ah.mk (Kd.iM Gh hb); replace HO1 := ah.mk (Kd.iM Gf hb); replace HB := ah.mk (av zz1 hb); (try clear hb); (try clear hb2); (try clear hk); (try clear hi)))
   go_meet
   case rel => exact ⟨_, (!t674), zz2, H', ⟨zz3⟩, ⟨Gh⟩, ⟨Gf⟩, ⟨zz1⟩⟩
  ·replace c5 := Bool.eq_false_iff.mpr c5; subst c5; rw [if_neg (show ¬ (false = true) by decide)] at H; have H' := ah.mk H; clear H
   go_wp2_with (first | ((with_reducible refine aN (f := 59) rfl ?_); refine bU (some 7) rfl rfl Try.func59 (by kernel_rfl) rfl #[.slice A0 l0.length c0] rfl zz8 ?_; (with_reducible refine (bI.calls k _ _ l0 false _ ?bO ?bR A4.out).mono ?_); (case bO => repeat (first | exact (Kd.dL HO0.out).2.2 | (with_reducible refine Kd.dF ?_ _) | (with_reducible refine Kd.dI ?_ _) | (with_reducible refine Kd.dZ ?_))); (case bR => exact (Kd.dL HO0.out).2.1); rintro e w9 ⟨rfl, hb⟩; refine ⟨_, rfl, ?_⟩; replace HO0 := ah.mk (Kd.iM Gh hb); replace HO1 := ah.mk (Kd.iM Gf hb); replace HB := ah.mk (av zz1 hb); (try clear hb); (try clear hb2); (try clear hk); (try clear hi)))
   go_meet
   case rel => exact ⟨_, (true), zz2, H', ⟨zz3⟩, ⟨Gh⟩, ⟨Gf⟩, ⟨zz1⟩⟩
 case rest =>
  clear HC3; (try clear c1); (try clear c2); (try clear p2); (try clear c5); obtain ⟨kq, Ro, rfl, HA, HJ2, jR, je, HB⟩ := hcut
  cases kq with
  | zero => exact absurd HA.out (by simp [gq.j0])
  | succ kj2 =>
   have H := HA.out; clear HA; simp only [gq.j0] at H
   by_cases c10 : Ro = true
   ·subst c10; rw [if_pos rfl] at H; simp only [Option.some.injEq, Prod.mk.injEq] at H; obtain ⟨rfl, rfl⟩ := H
    go_wp2
    go_ret2
    exact ⟨_, zz6, (Kd.Il _ _ _ _ _), zz1⟩
   ·replace c10 := Bool.eq_false_iff.mpr c10; subst c10; rw [if_neg (show ¬ (false = true) by decide)] at H; replace H := Option.bind_eq_some_iff.mp H; obtain ⟨t675, yP, H⟩ := H; have A11 := ah.mk yP; clear yP; replace H := Option.bind_eq_some_iff.mp H; obtain ⟨⟨t678, t681⟩, N7, H⟩ := H
    try dsimp only at H
    have A12 := ah.mk N7; clear N7; simp only [Option.some.injEq, Prod.mk.injEq] at H; obtain ⟨rfl, rfl⟩ := H
    go_wp2_with (first | ((with_reducible refine aN (f := 61) rfl ?_); refine bU (some 16) rfl rfl Try.func61 (by kernel_rfl) rfl #[.slice A0 l0.length c0, .slice A1 l1.length c1] rfl zz8 ?_; (with_reducible refine (aX.calls kj2 (fun k_ => ((P0_ k_ ∨ P1_ k_) ∨ w.heap.size ≤ k_)) _ _ l0 (fun k_ => ((P0_ k_ ∨ P1_ k_) ∨ w.heap.size ≤ k_)) _ _ l1 t675 _ ?bO ?bR A11.out).mono ?_); (case bO => exact jR.out); (case bR => exact je.out); rintro e w13 ⟨v676, rfl, ho0, hb⟩; refine ⟨_, rfl, ?_⟩; replace jR := ah.mk (Kd.fQ uf (Kd.mE ho0) hb); replace je := ah.mk (Kd.fQ xS (Kd.mE ho0) hb); have lD := ah.mk (Kd.vG (Kd.uK (ok' := fun k_ => ((P0_ k_ ∨ P1_ k_) ∨ w.heap.size ≤ k_)) ho0 (fun k_ hk_ => Or.elim hk_ (fun hs_ => Or.elim hs_ (fun hs_ => hs_) (fun hs_ => hs_)) (fun hn_ => (.inr (Nat.le_trans (bS zz1) hn_))))) (bS zz1)); replace HB := ah.mk (av zz1 hb); (try clear hb); (try clear hb2); (try clear hk); (try clear hi); (try clear ho0); obtain ⟨Vm, Ve, eo14⟩ := Kd.xK lD.out; subst eo14) | ((with_reducible refine aN (f := 60) rfl ?_); refine bU (some 17) rfl rfl Try.func60 (by kernel_rfl) rfl #[.slice Vm t675.length Ve] rfl zz8 ?_; (with_reducible refine (eX.calls kj2 (fun k_ => ((P0_ k_ ∨ P1_ k_) ∨ w.heap.size ≤ k_)) _ _ t675 t678 t681 _ ?bO A12.out).mono ?_); (case bO => exact Kd.N_V (lD.out)); rintro e w15 ⟨v679, rfl, ho0, hb⟩; refine ⟨_, rfl, ?_⟩; replace jR := ah.mk (Kd.iM uf hb); replace je := ah.mk (Kd.iM xS hb); replace lD := ah.mk (Kd.zH (by (with_reducible repeat (first | apply Kd.rP | apply Kd.rO | apply Kd.pz)); exact lD.out) hb); have jy := ah.mk (Kd.zG (Kd.iE (ok' := fun k_ => ((P0_ k_ ∨ P1_ k_) ∨ w.heap.size ≤ k_)) ho0 (fun k_ hk_ => Or.elim hk_ (fun hs_ => hs_) (fun hn_ => (.inr (Nat.le_trans (bS zz1) hn_))))) (bS zz1)); replace HB := ah.mk (av zz1 hb); (try clear hb); (try clear hb2); (try clear hk); (try clear hi); (try clear ho0)))
    go_ret2
    exact ⟨_, zz6, L8, zz1⟩
def dW.f (l0 : List (List Int)) : Option (List Int) := if l0.flatten.length < 17592186044416 then some l0.flatten else none
theorem dW.at_ {w : World} {A : Option Addr} {l0 : List (List Int)} (h : Kd.C (Kd.slice 2 (Kd.int .i64)) w A l0.length l0) (j : Nat) (hj : j < l0.length) :
  ∃ ad A' c', A = some ad ∧ w.cell? (ad.add j) = some (.slice A' l0[j].length c') ∧ Kd.C (Kd.int .i64) w A' l0[j].length l0[j] := by
 obtain ⟨ad, c, h1, _, ⟨A', c', h2, _, h3⟩, h4⟩ := Kd.Jw h [] (j : Int) (by omega) (by omega); have e : l0.getD (Int.toNat (j : Int)) [] = l0[j] := by simp [List.getD_eq_getElem?_getD, hj]
 rw [e] at h2 h3; refine ⟨ad, A', c', h1, ?_, h3⟩; have := h4 0 (.slice A' l0[j].length c') (by rw [h2]; rfl)
 simpa [Kd.slice] using this
theorem dW.sums (l0 : List (List Int)) : ∃ S : Nat → Nat, S 0 = 0 ∧ (∀ j, S j ≤ l0.flatten.length) ∧ (∀ j (h : j < l0.length), S (j + 1) = S j + l0[j].length) ∧ S l0.length = l0.flatten.length ∧ ∀ j, (l0.take j).flatten.length = S j := by
 refine ⟨fun j => (l0.take j).flatten.length, by simp, fun j => ?_, fun j hj => ?_, by simp, fun _ => rfl⟩
 ·have : l0.flatten = (l0.take j).flatten ++ (l0.drop j).flatten := by rw [← List.flatten_append, List.take_append_drop]
  show (l0.take j).flatten.length ≤ _
  rw [this, List.length_append]
  omega
 ·show (l0.take (j + 1)).flatten.length = (l0.take j).flatten.length + _
  rw [List.take_succ_eq_append_getElem hj, List.flatten_append, List.length_append]
  simp
theorem dW.grow (n : Nat) (hn : n < 17592186044416) (w : World) :
  Calls Try.prog 102 #[.slice none 0 0, .int .i64 n] w fun e w' => ∃ v : Value, e = .returned v ∧ Kd.R (Kd.int .i64) 2 w' w.heap.size (fun _ => True) v [] ∧ Below w.heap.size w w' := by
 rcases Nat.eq_zero_or_pos n with rfl | hp
 ·refine (Any8.slices_Grow_room Try.lgrow64 none 0 0 0 w (by omega) (by omega) (by omega) (by omega)).mono ?_; rintro e w' ⟨rfl, rfl⟩; exact ⟨_, rfl, Kd.EF _ _ _ _ _, Below.refl _ _⟩
 ·obtain ⟨i0, hi0, hz⟩ := Option.map_eq_some_iff.1 GI; simp only [Prod.mk.injEq] at hz; obtain ⟨hz0, hz1, hz2⟩ := hz; refine (Any8.slices_Grow_grow Try.lgrow64 i0 (.int .i64 0) hi0 hz0 (by omega) none 0 0 n [] w (by omega) (by omega) (by rw [hz2]; omega) (by omega) (by simp) (fun _ => rfl) (by intro a h; cases h)).mono ?_; rintro e w' ⟨rfl, rfl⟩; refine ⟨_, rfl, ?_, ?_⟩
  ·refine Kd.Io (enc := Value.int .i64) ?_ (fun _ _ => trivial); refine ⟨by simp [encs], .inr ⟨w.heap.size, _, _, rfl, Nat.le_refl _, heap_alloc_new _ _, Nat.zero_le _, ?_, ?_, by simp [encs]⟩⟩
   ·exact grownCap_le_maxLen w (0 + n) 0 2 (by unfold maxLen; omega)
   ·have := grownCap_ge w (0 + n) 0 (Try.lgrow64_ren.t 25); rw [Nat.zero_add] at this; simp only [Array.size_append, size_zeroCells, List.size_toArray, List.length_nil, Value.cells]
    simp
    omega
  ·exact dB (xI (Below.refl _ _)) _
set_option maxHeartbeats 2000000 in
theorem dW.calls (A0 : Option Addr) (c0 : Nat) (l0 : List (List Int)) (r : List Int) (w : World) (hr0 : Kd.C (Kd.slice 2 (Kd.int .i64)) w A0 l0.length l0) (hc0 : l0.length ≤ c0) (h : dW.f l0 = some r) :
  Calls Try.prog 71 #[.slice A0 l0.length c0] w fun e w' => ∃ v0_ : Value, e = .returned (v0_) ∧ Kd.R (Kd.int .i64) 2 w' w.heap.size (fun _ => True) v0_ r ∧ Below w.heap.size w w' := by
 unfold dW.f at h
 split at h
 ·rename_i hlim
  injection h with h; subst h; have HR := ah.mk hr0; have HL := ah.mk hlim; have hm : l0.length ≤ 9223372036854775807 := hr0.2.1; clear hr0 hlim hc0
  go_enter Try.func71, Try.ntmps71
  obtain ⟨S, hS0, hSle, hSs, hSe, hSt⟩ := dW.sums l0; have HS := ah.mk hSle; have HT := ah.mk hSs; have HE := ah.mk hSe; have HU := ah.mk hSt; clear hSle hSs hSe hSt
  go_wp2
  go_loop [3, 11] (fun v3 v11 => ∃ j : Nat, j ≤ l0.length ∧ v3 = .int .i64 (S j : Int) ∧ v11 = .int .i64 j) (fun _ v11 => l0.length - (intOf v11).toNat)
  case atStart => exact ⟨0, Nat.zero_le _, by simp [hS0], rfl⟩
  case round =>
   clear hS0; obtain ⟨j, hj, rfl, rfl⟩ := hrel
   by_cases hlt : j < l0.length
   ·obtain ⟨ad, A', c', rfl, hx, hC⟩ := dW.at_ HR.out j hlt; have hw : wrap64 ((S j : Int) + (l0[j].length : Int)) = (S (j + 1) : Int) := by
     have := HT.out j hlt; have := HS.out (j + 1); have := HL.out; unfold wrap64
     omega
    clear hC; have hneg : ¬ (S (j + 1) : Int) < 0 := by omega
    go_wp2
    go_round
    case rel => exact ⟨j + 1, by omega, by rw [hw], by go_num⟩
    case measure => simp [intOf]; omega
   ·have hje : j = l0.length := by omega
    subst hje; have hd : decide ((l0.length : Int) < (l0.length : Int)) = false := by simp
    go_wp2_with (first | (go_at_call 102; refine (dW.grow (S l0.length) (by have := HE.out; have := HL.out; omega) _).mono ?_; rintro e w1 ⟨v, rfl, ho, hb⟩; have HO := ah.mk ho; have HB := ah.mk hb; clear ho hb))
    clear hd; have HM := ah.mk hm; clear hm
    go_loopg [6, 27] (l0.length + 1) (fun kq v6 v27 w' => ∃ (j : Nat), v27 = .int .i64 j ∧ ah (j ≤ l0.length ∧ kq + j = l0.length + 1) ∧ ah (Kd.R (Kd.int .i64) 2 w' w.heap.size (fun _ => True) v6 (l0.take j).flatten) ∧ ah (Below w.heap.size w w'))
    case atStart => exact ⟨0, rfl, ⟨Nat.zero_le _, rfl⟩, ⟨by simpa using HO.out⟩, HB⟩
    case round =>
     clear HO HB; obtain ⟨j, rfl, HJ, HO, HB⟩ := hrel; obtain ⟨hj, hk⟩ := HJ.out; clear HJ
     cases gk with
     | zero => omega
     | succ k1 =>
     by_cases hlt : j < l0.length
     ·obtain ⟨ad, A', c', rfl, hx, hC⟩ := dW.at_ HR.out j hlt; have HC := ah.mk (Kd.eZ hC HB.out); replace hx := cB HB hx; have HX := ah.mk hk; clear hC hk
      go_wp2_with ((with_reducible refine iA (b := .append) (xs := #[.tmp 31, .tmp 32]) rfl ?_); at_builtin; refine Kd.rM (Kd.int .i64) (w0 := w) w.heap.size rfl (.tmp 31) (.tmp 32) 31 2 (.int .i64 0) 8 rfl Try.underlying31 GI rfl (by decide) (by omega) _ (l0.take j).flatten l0[j] _ _ _ (fun _ => True) (fun _ => False) rfl rfl ?aO ?aR (fun _ _ h => h) (fun _ h => h.elim) ?aF ?aB ?aS ?aL ?_; (case aR => exact HC.out); (case aB => exact HB.out); (case aF => exact (fun _ _ => trivial)); (case aO => exact HO.out); (case aS => exact HB.out.size); (case aL => have h1 := HT.out j hlt; have h2 := HS.out (j + 1); have h3 := HL.out; have h4 := HU.out j; omega); intro v5 w2 ho hb hg hat; have HO2 := ah.mk ho; have HB2 := ah.mk hb; clear ho hb hg hat HO HB)
      go_roundg k1
      case rel => exact ⟨j + 1, by rw [show wrap64 ((j : Int) + 1) = ((j + 1 : Nat) : Int) by have := HM.out; unfold wrap64; omega], ⟨by omega, by have := HX.out; omega⟩, ⟨by rw [List.take_succ_eq_append_getElem hlt, List.flatten_append]; simpa using HO2.out⟩, HB2⟩
      case measure => exact Nat.lt_succ_self _
     ·have hje : j = l0.length := by omega
      subst hje; have hd : decide ((l0.length : Int) < (l0.length : Int)) = false := by simp
      go_wp2
      go_ret
      exact ⟨_, rfl, by simpa using HO.out, HB.out⟩
 ·cases h
end Go.Proofs.Ythicocmnefaioaa.QS

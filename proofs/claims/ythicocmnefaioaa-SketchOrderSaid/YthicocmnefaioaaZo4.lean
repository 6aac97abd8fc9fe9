import Derived.Test.YthicocmnefaioaaZo3
namespace Go.Proofs.Ythicocmnefaioaa.QO
open Go.RowKit Go.Proofs.YthicocmnefaioaaW.dw Go.Proofs.YthicocmnefaioaaW.jA Go.Proofs.YthicocmnefaioaaW.lD
open Go.Proofs.YthicocmnefaioaaW.Sq
attribute [local go_sem] oH oF qQ qP nD nC oG oD
set_option linter.unusedVariables false
set_option linter.unusedSimpArgs false
attribute [local go_sem high] jV
mutual
def bL.l0 : Nat → Int → List (S51) → Int → List Int → Int → Option ((List (S51)) × Int)
 | 0, _, _, _, _, _ => none
 | k + 1, x1, x7, x8, x1000, nO => if x8 > 0 then (bL.l1 k x1 x7 x8 ([] : List (S23)) 0 x1000 nO) else (some (x7, nO))
def bL.l1 : Nat → Int → List (S51) → Int → List (S23) → Int → List Int → Int → Option ((List (S51)) × Int)
 | 0, _, _, _, _, _, _, _ => none
 | k + 1, x1, x7, x8, x9, x10, x1000, nO => if x10 < x1 then ((iK.f k x1000 nO).bind fun TA => (if x9.length < 4398046511104 then (bL.l1 k x1 x7 x8 (x9 ++ [(⟨TA.1, TA.2.1, TA.2.2.1⟩ : S23)]) (wrap64 (x10 + 1)) x1000 TA.2.2.2) else (none))) else ((some (([1, 1, 1, 2, (-1), 3, (-2), 0] : List Int) : List Int)).bind fun DU => ((bg.f k x1000 nO 8).bind fun Cy => (if 0 ≤ Cy.1 then (if Cy.1 < (DU.length : Int) then (if x7.length < 4398046511104 then (bL.l0 k x1 (x7 ++ [(⟨x9, rd DU Cy.1⟩ : S51)]) (wrap64 (x8 - 1)) x1000 Cy.2) else (none)) else (none)) else (none))))
end
def bL.f (k : Nat) (dZ : List Int) (jH : Int) (a1 : Int) (a2 : Int) : Option ((List (S51)) × Int) := (bg.f k dZ jH (wrap64 (a2 + 1))).bind fun bt344 => (bL.l0 k a1 ([] : List (S51)) bt344.1 dZ bt344.2)
set_option maxHeartbeats 8000000 in
set_option maxRecDepth 100000 in
theorem bL.calls (k : Nat) (g : Nat) (dZ : List Int) (jH : Int) (a1 : Int) (a2 : Int) (r1 : List (S51)) (r2 : Int) (w0 w : World) (hI : aG w0 w g dZ jH) (hB : Below w0.heap.size w0 w) (h : bL.f k dZ jH a1 a2 = some (r1, r2)) :
  Calls Try.prog 53 #[.pointer (some ⟨g, 0, none⟩), .int .i64 a1, .int .i64 a2] w fun e w' => ∃ v0_ : Value, e = .returned (v0_) ∧ Kd.S k51 51 w' w.heap.size (fun _ => True) v0_ r1 ∧ aG w0 w' g dZ r2 ∧ Below w0.heap.size w0 w' ∧ bP w w' g none := by
 have Np := Try.underlying51; have HI0 := ah.mk hI; have HK := ah.mk (bP.refl w g none); have HL := ah.mk hB.size; clear hI; have HW0 := ah.mk hB.size; have HB := ah.mk hB; clear hB; have H := h; clear h
 dsimp only [bL.f] at H
 replace H := Option.bind_eq_some_iff.mp H; obtain ⟨⟨t344, t345⟩, A40, H⟩ := H
 try dsimp only at H
 have A4 := ah.mk A40; clear A40; have H' := ah.mk H; clear H
 go_enter Try.func53, Try.ntmps53
 go_wp2_with (first | ((with_reducible refine aT (f := 33) rfl ?_); refine cu (some 14) rfl rfl Try.func33 (by kernel_rfl) rfl #[.pointer (some ⟨g, 0, none⟩), .int .i64 (wrap64 (a2 + 1))] rfl zz8 ?_; (with_reducible refine (bg.calls k g dZ jH (wrap64 (a2 + 1)) t344 t345 w0 _ ?bZ ?cO A4.out).mono ?_); (case bZ => repeat (first | (with_reducible first | exact HI0.out | apply aG.alloc | apply aG.drewN | apply aG.drew | apply aG.gq) | exact HI0.out)); (case cO => repeat (first | (with_reducible first | exact HB.out | apply bY | apply bT | apply bG | refine bS ?_ (aG.ge HI0.out)) | exact HB.out)); rintro e w5 ⟨rfl, hi, hb, hk⟩; refine ⟨_, rfl, ?_⟩; replace HK := ah.mk (bP.trans ng hk (.inl rfl)); replace HB := ah.mk (hb); replace HI0 := ah.mk (hi); (try clear hb); (try clear hb2); (try clear hk); (try clear hi)))
 go_loopg [7, 8] k (fun kq v7 v8 w' => ∃ (bR : List (S51)) (jB : Int) (Ee : Int), v8 = .int .i64 jB ∧ ah (bL.l0 kq a1 bR jB dZ Ee = some (r1, r2)) ∧ ah (kq ≤ k) ∧ ah (Kd.S k51 51 w' w.heap.size (fun _ => True) v7 bR) ∧ ah (aG w0 w' g dZ Ee) ∧ ah (bP w w' g none) ∧ ah (Below w0.heap.size w0 w'))
 case atStart => exact ⟨(([] : List (S51))), (t344), (t345), zz2, H', ⟨Nat.le_refl _⟩, ⟨zz67⟩, ⟨qI⟩, ⟨ng⟩, ⟨rZ⟩⟩
 case round =>
  clear H'; (try clear p2); (try clear c3); (try clear c5); obtain ⟨bR, jB, Ee, rfl, HA, HK1, zY, HI0, HK, HB⟩ := hrel
  cases gk with
  | zero => exact absurd HA.out (by simp [bL.l0])
  | succ k1 =>
   have H := HA.out; clear HA; simp only [bL.l0] at H
   by_cases c6 : jB > 0
   ·rw [if_pos c6] at H; have qD : decide (0 < jB) = true := decide_eq_true c6; clear c6; have H' := ah.mk H; clear H
    go_wp2
    go_loopg [9, 10] k1 (fun kq v9 v10 w' => ∃ (DV : List (S23)) (lX : Int) (oz : Int), v10 = .int .i64 lX ∧ ah (bL.l1 kq a1 bR jB DV lX dZ oz = some (r1, r2)) ∧ ah (kq ≤ k1) ∧ ah (Kd.S k51 51 w' w.heap.size (fun k_ => some k_ ≠ (v9 : Value).ownBlock) u7 bR) ∧ ah (Kd.R k23 23 w' w.heap.size (fun _ => True) v9 DV) ∧ ah (aG w0 w' g dZ oz) ∧ ah (bP w w' g none) ∧ ah (Below w0.heap.size w0 w'))
    case atStart => exact ⟨(([] : List (S23))), (0), (Ee), zz2, H', ⟨Nat.le_refl _⟩, ⟨by (with_reducible repeat (first | apply Kd.uy | apply Kd.uw | apply Kd.xZ)); exact Kd.uQ zY.out (fun _ hk => (by simp [Value.ownBlock]))⟩, ⟨H9⟩, ⟨qI⟩, ⟨ng⟩, ⟨rZ⟩⟩
    case round =>
     clear H'; (try clear p2); (try clear c3); (try clear c5); (try clear c6); (try clear qD); (try clear p6); (try clear p2); obtain ⟨DV, lX, oz, rfl, HA, HK2, zY, fu, HI0, HK, HB⟩ := hrel
     cases gk with
     | zero => exact absurd HA.out (by simp [bL.l1])
     | succ k2 =>
      have H := HA.out; clear HA; simp only [bL.l1] at H
      by_cases c7 : lX < a1
      ·rw [if_pos c7] at H; have pJ : decide (lX < a1) = true := decide_eq_true c7; clear c7; replace H := Option.bind_eq_some_iff.mp H; obtain ⟨⟨t346, t347, t348, t349⟩, A80, H⟩ := H
       try dsimp only at H
       have A8 := ah.mk A80; clear A80
       by_cases c9 : DV.length < 4398046511104
       ·rw [if_pos c9] at H; have LMc9 := ah.mk c9; clear c9; obtain ⟨y350, MW⟩ : ∃ y_ : List (S23), y_ = (DV ++ [(⟨t346, t347, t348⟩ : S23)]) := ⟨_, rfl⟩; replace H : (bL.l1 k2 a1 bR jB y350 (wrap64 (lX + 1)) dZ t349) = some (r1, r2) := by first | (rw [MW]; with_reducible exact H) | (have H2_ := (Option.bind_some _ _).symm.trans H; rw [MW]; with_reducible exact H2_) | (have H2_ := (Option.bind_some _ _).symm.trans H; with_reducible exact H2_) | with_reducible exact H | (rw [MW]; exact H) | exact H
        have Ny350 := ah.mk MW; clear MW; have H' := ah.mk H; clear H
        go_wp2_with (first | ((with_reducible refine aT (f := 78) rfl ?_); refine cu (some 26) rfl rfl Try.func78 (by kernel_rfl) rfl #[.pointer (some ⟨g, 0, none⟩)] rfl zz8 ?_; (with_reducible refine (iK.calls k2 g dZ oz t346 t347 t348 t349 w0 _ ?bZ ?cO A8.out).mono ?_); (case bZ => repeat (first | (with_reducible first | exact HI0.out | apply aG.alloc | apply aG.drewN | apply aG.drew | apply aG.gq) | exact HI0.out)); (case cO => repeat (first | (with_reducible first | exact HB.out | apply bY | apply bT | apply bG | refine bS ?_ (aG.ge HI0.out)) | exact HB.out)); rintro e w10 ⟨rfl, hi, hb, hk⟩; refine ⟨_, rfl, ?_⟩; replace zY := ah.mk (Kd.uQ (Kd.WQ (aG.QL (show aG w0 _ g dZ oz from by repeat (first | (with_reducible first | exact HI0.out | apply aG.alloc | apply aG.drewN | apply aG.drew | apply aG.gq) | exact HI0.out)) zz68 (by decide)) hk (fun _ h => h.2)) (fun _ h => h.1)); replace fu := ah.mk (Kd.dN (Kd.kN (aG.apart (show aG w0 _ g dZ oz from by repeat (first | (with_reducible first | exact HI0.out | apply aG.alloc | apply aG.drewN | apply aG.drew | apply aG.gq) | exact HI0.out)) zz69 (by decide)) hk (fun _ h => h.2)) (fun _ h => h.1)); replace HK := ah.mk (bP.trans ng hk (.inl rfl)); replace HB := ah.mk (hb); replace HI0 := ah.mk (hi); (try clear hb); (try clear hb2); (try clear hk); (try clear hi)) | ((with_reducible refine iq (b := .append) (xs := #[.tmp 24, .tmp 27]) rfl ?_); at_builtin; refine Kd.nS k23 w.heap.size rfl (.tmp 24) (.tmp 27) 49 23 (.agg #[(.int .i64 0), (.int .i64 0), (.string ⟨#[]⟩)]) 32 rfl Try.underlying49 info23 rfl (by decide) (by omega) u9 DV (⟨t346, t347, t348⟩ : S23) [.int .i64 t346, .int .i64 t347, .string t348] (fun _ => True) (fun _ => False) rfl rfl ?aP (fun _ hk => hk.elim) ?aF ?aO (Below.refl _ _) ?aS ?aL ?_; (case aP => exact qR _ _ _ (⟨t346, t347, t348⟩ : S23)); (case aF => exact (fun _ _ => trivial)); (case aO => exact zz69); (case aS => exact (lC (w := w) (g := g) (row := none) ng)); (case aL => have := LMc9.out; omega); intro v351 w11 ho hb hg hat; rw [← Ny350.out] at ho; replace zY := ah.mk (Kd.aaj (ok := (fun _ => True)) (by (with_reducible repeat (first | apply Kd.uy | apply Kd.uw | apply Kd.xZ)); exact Kd.uQ zY.out (fun _ hk => ⟨trivial, hk⟩)) hg hat); replace HB := ah.mk (CB rZ HL.out hb); replace HI0 := ah.mk (aG.grown qI hg (aG.own_ne HI0.out fu.out (by decide))); replace HK := ah.mk (bP.trans ng (bP.sG hg g) (Kd.TP fu.out)); have mF := ah.mk (ho); clear fu; clear ho hb hg hat))
        go_roundg k2
        case measure => have := HK1.out; have := HK2.out; omega
        case rel => exact ⟨(y350), (wrap64 (lX + 1)), (t349), zz2, H', ⟨Om⟩, ⟨by (with_reducible repeat (first | apply Kd.uy | apply Kd.uw | apply Kd.xZ)); exact Kd.uQ zY.out (fun _ hk => hk.2)⟩, ⟨by (with_reducible repeat (first | apply Kd.fJ | apply Kd.fH | apply Kd.eO)); exact mF.out⟩, ⟨qI⟩, ⟨ng⟩, ⟨rZ⟩⟩
       ·rw [if_neg c9] at H; exact absurd H (by simp)
      ·rw [if_neg c7] at H; have pJ : decide (lX < a1) = false := decide_eq_false c7; clear c7; obtain ⟨DU, MV⟩ : ∃ y_ : List Int, y_ = (([1, 1, 1, 2, (-1), 3, (-2), 0] : List Int)) := ⟨_, rfl⟩; replace H : ((bg.f k2 dZ oz 8).bind fun Cy => (if 0 ≤ Cy.1 then (if Cy.1 < (DU.length : Int) then (if bR.length < 4398046511104 then (bL.l0 k2 a1 (bR ++ [(⟨DV, rd DU Cy.1⟩ : S51)]) (wrap64 (jB - 1)) dZ Cy.2) else (none)) else (none)) else (none))) = some (r1, r2) := by first | (rw [MV]; with_reducible exact H) | (have H2_ := (Option.bind_some _ _).symm.trans H; rw [MV]; with_reducible exact H2_) | (have H2_ := (Option.bind_some _ _).symm.trans H; with_reducible exact H2_) | with_reducible exact H | (rw [MV]; exact H) | exact H
       have Ny353 := ah.mk MV; clear MV; replace H := Option.bind_eq_some_iff.mp H; obtain ⟨⟨DZ, t357⟩, A120, H⟩ := H
       try dsimp only at H
       have A12 := ah.mk A120; clear A120
       by_cases c13 : 0 ≤ DZ
       ·rw [if_pos c13] at H; have IW : decide (0 ≤ DZ) = true := decide_eq_true c13; clear c13
        by_cases c14 : DZ < (DU.length : Int)
        ·rw [if_pos c14] at H; have Cx : decide (DZ < (DU.length : Int)) = true := decide_eq_true c14; clear c14
         by_cases c15 : bR.length < 4398046511104
         ·rw [if_pos c15] at H; have LMc15 := ah.mk c15; clear c15; obtain ⟨y359, MU⟩ : ∃ y_ : List (S51), y_ = (bR ++ [(⟨DV, rd DU DZ⟩ : S51)]) := ⟨_, rfl⟩; replace H : (bL.l0 k2 a1 y359 (wrap64 (jB - 1)) dZ t357) = some (r1, r2) := by first | (rw [MU]; with_reducible exact H) | (have H2_ := (Option.bind_some _ _).symm.trans H; rw [MU]; with_reducible exact H2_) | (have H2_ := (Option.bind_some _ _).symm.trans H; with_reducible exact H2_) | with_reducible exact H | (rw [MU]; exact H) | exact H
          have Ny359 := ah.mk MU; clear MU; have H' := ah.mk H; clear H
          go_wp2_with (first | ((with_reducible refine bD (N := 31) rfl ?_); refine Kd.CG (Kd.int .i64) _ 3 ?hg (N := 31) ?hd (xs := ([1, 1, 1, 2, (-1), 3, (-2), 0] : List Int)) (inner := [.int .i64 1, .int .i64 1, .int .i64 1, .int .i64 2, .int .i64 (-1), .int .i64 3, .int .i64 (-2), .int .i64 0]) (ok := fun _ => True) (okp := fun _ => True) ?hr ?hp (fun _ hk => hk) trivial (Below.refl _ _) (Nat.le_refl _) (by simp) ?_; (case hd => rfl); (case hg => rfl); (case hr => first | (go_simp; done) | (go_simp; rfl)); (case hp => exact (ig.one (show Kd.M (Kd.int .i64) _ _ _ 1 [.int .i64 1] from rfl) (ig.one (show Kd.M (Kd.int .i64) _ _ _ 1 [.int .i64 1] from rfl) (ig.one (show Kd.M (Kd.int .i64) _ _ _ 1 [.int .i64 1] from rfl) (ig.one (show Kd.M (Kd.int .i64) _ _ _ 2 [.int .i64 2] from rfl) (ig.one (show Kd.M (Kd.int .i64) _ _ _ (-1) [.int .i64 (-1)] from rfl) (ig.one (show Kd.M (Kd.int .i64) _ _ _ 3 [.int .i64 3] from rfl) (ig.one (show Kd.M (Kd.int .i64) _ _ _ (-2) [.int .i64 (-2)] from rfl) (ig.one (show Kd.M (Kd.int .i64) _ _ _ 0 [.int .i64 0] from rfl) (ig.none _ _)))))))))); intro v354 w16 Gd hb hg_ lY; clear hg_ lY; (first | rw [← Ny353.out] at Gd | (simp only [Int.reduceToNat] at Gd; rw [← Ny353.out] at Gd)); replace zY := ah.mk (Kd.TM zz68 hb); replace fu := ah.mk (Kd.gT zz69 hb); have om := ah.mk (Kd.jv Gd (lC (w := w) (g := g) (row := none) ng)); replace HK := ah.mk (bP.trans ng (bP.of_below hb g none) (.inl rfl)); replace HB := ah.mk (aA rZ hb); replace HI0 := ah.mk (aG.below qI hb); clear hb Gd) | ((with_reducible refine aT (f := 33) rfl ?_); refine cu (some 33) rfl rfl Try.func33 (by kernel_rfl) rfl #[.pointer (some ⟨g, 0, none⟩), .int .i64 8] rfl zz8 ?_; (with_reducible refine (bg.calls k2 g dZ oz 8 DZ t357 w0 _ ?bZ ?cO A12.out).mono ?_); (case bZ => repeat (first | (with_reducible first | exact HI0.out | apply aG.alloc | apply aG.drewN | apply aG.drew | apply aG.gq) | exact HI0.out)); (case cO => repeat (first | (with_reducible first | exact HB.out | apply bY | apply bT | apply bG | refine bS ?_ (aG.ge HI0.out)) | exact HB.out)); rintro e w18 ⟨rfl, hi, hb, hk⟩; refine ⟨_, rfl, ?_⟩; replace zY := ah.mk (Kd.uQ (Kd.WQ (aG.QL (show aG w0 _ g dZ oz from by repeat (first | (with_reducible first | exact HI0.out | apply aG.alloc | apply aG.drewN | apply aG.drew | apply aG.gq) | exact HI0.out)) zz68 (by decide)) hk (fun _ h => h.2)) (fun _ h => h.1)); replace fu := ah.mk (Kd.dN (Kd.kN (aG.apart (show aG w0 _ g dZ oz from by repeat (first | (with_reducible first | exact HI0.out | apply aG.alloc | apply aG.drewN | apply aG.drew | apply aG.gq) | exact HI0.out)) zz69 (by decide)) hk (fun _ h => h.2)) (fun _ h => h.1)); replace om := ah.mk (Kd.dN (Kd.kN (aG.apart (show aG w0 _ g dZ oz from by repeat (first | (with_reducible first | exact HI0.out | apply aG.alloc | apply aG.drewN | apply aG.drew | apply aG.gq) | exact HI0.out)) H8 (by decide)) hk (fun _ h => h.2)) (fun _ h => h.1)); replace HK := ah.mk (bP.trans ng hk (.inl rfl)); replace HB := ah.mk (hb); replace HI0 := ah.mk (hi); (try clear hb); (try clear hb2); (try clear hk); (try clear hi); obtain ⟨Ao19, co19, UQ⟩ := Kd.gH om.out; subst UQ; have p358 : 0 ≤ (DZ : Int) := of_decide_eq_true zz9; have q358 : DZ < (DU.length : Int) := of_decide_eq_true zz9; obtain ⟨ad358, e358, hx358_0⟩ := Kd.jM (Kd.dP om.out).2.2 DZ p358 q358; cases e358; replace p358 := eq_true p358; replace q358 := eq_true q358; obtain ⟨Ao20, co20, eo20⟩ := Kd.gH fu.out; subst eo20) | ((with_reducible refine iq (b := .append) (xs := #[.tmp 29, .tmp 37]) rfl ?_); at_builtin; refine Kd.WT k51 w.heap.size rfl (.tmp 29) (.tmp 37) 38 51 (.agg #[(.slice none 0 0), (.int .i64 0)]) 32 rfl Try.underlying38 sI rfl (by decide) (by omega) u7 bR (⟨DV, rd DU DZ⟩ : S51) [.slice Ao20 DV.length co20, .int .i64 (rd DU DZ)] (fun _ => True) (fun k_ => some k_ = (.slice Ao20 DV.length co20 : Value).ownBlock) rfl rfl ?aP (fun k_ hk_ => ((Kd.dN (ok' := fun k_ => ((fun _ => True)) k_ ∧ some k_ ≠ (u7 : Value).ownBlock) (Kd.Oa (fu.out) (Kd.LJ zY.out) (by decide)) (fun k_ hk => ⟨trivial, hk.2⟩))).1 k_ hk_.symm) ?aF ?aO (Below.refl _ _) ?aS ?aL ?_; (case aP => exact RH _ _ _ (⟨DV, rd DU DZ⟩ : S51) (Kd.dN (Kd.rU rfl (Kd.dN (ok' := fun k_ => ((fun _ => True)) k_ ∧ some k_ ≠ (u7 : Value).ownBlock) (Kd.Oa (fu.out) (Kd.LJ zY.out) (by decide)) (fun k_ hk => ⟨trivial, hk.2⟩))) (fun _ h_ => h_))); (case aF => exact (fun _ _ => trivial)); (case aO => exact (by (with_reducible repeat (first | apply Kd.uy | apply Kd.uw | apply Kd.xZ)); exact Kd.uQ zY.out (fun k_ hk => ⟨trivial, fun e_ => hk e_⟩))); (case aS => exact (lC (w := w) (g := g) (row := none) ng)); (case aL => have := LMc15.out; omega); intro v360 w21 ho hb hg hat; rw [← Ny359.out] at ho; replace om := ah.mk (Kd.nZ H8 (Kd.LJ zz68) (by decide) hg); replace HB := ah.mk (CB rZ HL.out hb); replace HI0 := ah.mk (aG.grown qI hg (aG.RF HI0.out zY.out (by decide))); replace HK := ah.mk (bP.trans ng (bP.sG hg g) (Kd.TN zY.out)); have iB := ah.mk (ho); clear zY; clear fu; clear ho hb hg hat))
          go_roundg k2
          case measure => have := HK1.out; have := HK2.out; omega
          case rel => exact ⟨(y359), (wrap64 (jB - 1)), (t357), zz2, H', ⟨Om⟩, ⟨by (with_reducible repeat (first | apply Kd.uy | apply Kd.uw | apply Kd.xZ)); exact iB.out⟩, ⟨qI⟩, ⟨ng⟩, ⟨rZ⟩⟩
         ·rw [if_neg c15] at H; exact absurd H (by simp)
        ·rw [if_neg c14] at H; exact absurd H (by simp)
       ·rw [if_neg c13] at H; exact absurd H (by simp)
   ·rw [if_neg c6] at H; have qD : decide (0 < jB) = false := decide_eq_false c6; clear c6; simp only [Option.some.injEq, Prod.mk.injEq] at H; obtain ⟨rfl, rfl⟩ := H
    go_wp2
    go_ret
    exact ⟨_, zz6, zz68, qI, rZ, ng⟩
def fV.f (a0 : Int) : Option (Bool) := if a0 ≥ (-262144) then (some (decide (a0 ≤ 262144))) else (some false)
set_option maxHeartbeats 8000000 in
set_option maxRecDepth 100000 in
theorem fV.calls (a0 : Int) (r : Bool) (w : World) (h : fV.f a0 = some r) :
  Calls Try.prog 89 #[.int .i64 a0] w fun e w' => e = .returned (.bool r) ∧ l5 w w' := by
 have H := h; clear h
 dsimp only [fV.f] at H
 by_cases c2 : a0 ≥ (-262144)
 ·rw [if_pos c2] at H; have pK : decide ((-262144) ≤ a0) = true := decide_eq_true c2; clear c2; obtain rfl := Option.some.inj H
  go_enter Try.func89, Try.ntmps89
  go_wp2
  go_ret
  exact ⟨zz2, zz7⟩
 ·rw [if_neg c2] at H; have pK : decide ((-262144) ≤ a0) = false := decide_eq_false c2; clear c2; obtain rfl := Option.some.inj H
  go_enter Try.func89, Try.ntmps89
  go_wp2
  go_ret
  exact ⟨zz2, zz7⟩
def fC.l0 : Nat → List (S51) → Int → Option ((List (S51)) × Int)
 | 0, _, _ => none
 | k + 1, x0, x4 => if x4 < (x0.length : Int) then (if 0 ≤ x4 then ((fV.f ((aH x0 x4).f1)).bind fun t363 => (if t363 = true then (fC.l0 k x0 (wrap64 (x4 + 1))) else (some (([] : List (S51)), 9)))) else (none)) else (some (x0, 0))
def fC.f (k : Nat) (l0 : List (S51)) : Option ((List (S51)) × Int) := if (l0.length : Int) > 4096 then (some (([] : List (S51)), 8)) else (fC.l0 k l0 0)
set_option maxHeartbeats 8000000 in
set_option maxRecDepth 100000 in
theorem fC.calls (k : Nat) (P0_ : Nat → Prop) (A0 : Option Addr) (c0 : Nat) (l0 : List (S51)) (r1 : List (S51)) (r2 : Int) (w : World) (hs0 : Kd.V k51 51 w w.heap.size (fun k_ => P0_ k_) (.slice A0 l0.length c0) l0) (h : fC.f k l0 = some (r1, r2)) :
  Calls Try.prog 60 #[.slice A0 l0.length c0] w fun e w' => ∃ v0_ : Value, e = .returned (.tuple #[v0_, .int .i64 r2]) ∧ Kd.V k51 51 w' w.heap.size (fun k_ => (P0_ k_ ∨ w.heap.size ≤ k_)) v0_ r1 ∧ Below w.heap.size w w' := by
 have HO0 := ah.mk (show Kd.V k51 51 w w.heap.size (fun k_ => (P0_ k_ ∨ w.heap.size ≤ k_)) (.slice A0 l0.length c0) l0 from Kd.jr hs0 (fun k_ hk => .inl hk)); have HB := ah.mk (Below.refl w.heap.size w); have H := h; clear h
 dsimp only [fC.f] at H
 by_cases c2 : (l0.length : Int) > 4096
 ·rw [if_pos c2] at H; have pK : decide (4096 < (l0.length : Int)) = true := decide_eq_true c2; have Dj : decide (4096 < l0.length) = true := decide_eq_true (by omega); clear c2; simp only [Option.some.injEq, Prod.mk.injEq] at H; obtain ⟨rfl, rfl⟩ := H
  go_enter Try.func60, Try.ntmps60
  go_wp2
  go_ret2
  exact ⟨_, zz6, (Kd.I6 _ _ _ _ _), zz1⟩
 ·rw [if_neg c2] at H; have pK : decide (4096 < (l0.length : Int)) = false := decide_eq_false c2; have Dj : decide (4096 < l0.length) = false := decide_eq_false (by omega); clear c2; have H' := ah.mk H; clear H
  go_enter Try.func60, Try.ntmps60
  go_wp2
  go_loopg [4] k (fun kq v4 w' => ∃ (jw : Int), v4 = .int .i64 jw ∧ ah (fC.l0 kq l0 jw = some (r1, r2)) ∧ ah (kq ≤ k) ∧ ah (Kd.V k51 51 w' w.heap.size (fun k_ => (P0_ k_ ∨ w.heap.size ≤ k_)) (.slice A0 l0.length c0) l0) ∧ ah (Below w.heap.size w w'))
  case atStart => exact ⟨(0), zz2, H', ⟨Nat.le_refl _⟩, ⟨Uc⟩, ⟨zz1⟩⟩
  case round =>
   clear H'; (try clear c2); (try clear pK); (try clear Dj); (try clear p2); obtain ⟨jw, rfl, HA, HK1, jX, HB⟩ := hrel
   cases gk with
   | zero => exact absurd HA.out (by simp [fC.l0])
   | succ k1 =>
    have H := HA.out; clear HA; simp only [fC.l0] at H
    by_cases c3 : jw < (l0.length : Int)
    ·rw [if_pos c3] at H; have tH : decide (jw < (l0.length : Int)) = true := decide_eq_true c3; clear c3
     by_cases c4 : 0 ≤ jw
     ·rw [if_pos c4] at H; have lI : decide (0 ≤ jw) = true := decide_eq_true c4; clear c4; replace H := Option.bind_eq_some_iff.mp H; obtain ⟨t363, A50, H⟩ := H; have A5 := ah.mk A50; clear A50
      by_cases c6 : t363 = true
      ·subst c6; rw [if_pos rfl] at H; have H' := ah.mk H; clear H; have JR : 0 ≤ (jw : Int) := of_decide_eq_true zz9; have JJ : jw < (l0.length : Int) := of_decide_eq_true zz9; obtain ⟨ad362, A362_0, c362_0, e362, J5, Yj, Bw, BN⟩ := iR (Kd.eH jX.out).2.2 jw JR JJ
       cases e362
       obtain ⟨ce362, Qg, QG, GA⟩ := Kd.pQ jX.out z51 jw JR (by first | exact JJ | exact of_decide_eq_true zz9 | (have e_ := (Kd.eH jX.out).1; omega)); obtain ⟨X3, XU, rfl, vM, wI⟩ := iF QG; have rF := GA 0 _ rfl; rw [Nat.add_zero] at rF; replace rF := Option.some.inj (rF.symm.trans J5); injection rF with jf kT je; rw [jf] at wI; rw [je] at vM; have aaq := ah.mk (show Kd.V k23 23 _ w.heap.size _ _ ((aH l0 jw).f0) from Kd.ou vM wI); clear jf kT je wI vM; clear GA Qg; have iO := ah.mk BN; have jl := ah.mk Bw; clear BN Bw; replace JR := eq_true JR; replace JJ := eq_true JJ
       go_wp2_with (first | ((with_reducible refine aT (f := 89) rfl ?_); refine cu (some 19) rfl rfl Try.func89 (by kernel_rfl) rfl #[.int .i64 ((aH l0 jw).f1)] rfl zz8 ?_; (with_reducible refine (fV.calls ((aH l0 jw).f1) true _ A5.out).mono ?_); rintro e w' ⟨rfl, ⟨nd, rfl⟩⟩; refine ⟨_, rfl, ?_⟩))
       go_roundg k1
       case measure => have := HK1.out; omega
       case rel => exact ⟨(wrap64 (jw + 1)), zz2, H', ⟨by have := HK1.out; omega⟩, ⟨uF⟩, ⟨zz1⟩⟩
      ·replace c6 := Bool.eq_false_iff.mpr c6; subst c6; rw [if_neg (show ¬ (false = true) by decide)] at H; simp only [Option.some.injEq, Prod.mk.injEq] at H; obtain ⟨rfl, rfl⟩ := H; have JR : 0 ≤ (jw : Int) := of_decide_eq_true zz9; have JJ : jw < (l0.length : Int) := of_decide_eq_true zz9; obtain ⟨ad362, A362_0, c362_0, e362, J5, Yj, Bw, BN⟩ := iR (Kd.eH jX.out).2.2 jw JR JJ
       cases e362
       obtain ⟨ce362, Qg, QG, GA⟩ := Kd.pQ jX.out z51 jw JR (by first | exact JJ | exact of_decide_eq_true zz9 | (have e_ := (Kd.eH jX.out).1; omega)); obtain ⟨X3, XU, rfl, vM, wI⟩ := iF QG; have rF := GA 0 _ rfl; rw [Nat.add_zero] at rF; replace rF := Option.some.inj (rF.symm.trans J5); injection rF with jf kT je; rw [jf] at wI; rw [je] at vM; have aaq := ah.mk (show Kd.V k23 23 _ w.heap.size _ _ ((aH l0 jw).f0) from Kd.ou vM wI); clear jf kT je wI vM; clear GA Qg; have iO := ah.mk BN; have jl := ah.mk Bw; clear BN Bw; replace JR := eq_true JR; replace JJ := eq_true JJ
       go_wp2_with (first | ((with_reducible refine aT (f := 89) rfl ?_); refine cu (some 19) rfl rfl Try.func89 (by kernel_rfl) rfl #[.int .i64 ((aH l0 jw).f1)] rfl zz8 ?_; (with_reducible refine (fV.calls ((aH l0 jw).f1) false _ A5.out).mono ?_); rintro e w' ⟨rfl, ⟨nd, rfl⟩⟩; refine ⟨_, rfl, ?_⟩))
       go_ret2
       exact ⟨_, zz6, (Kd.I6 _ _ _ _ _), zz1⟩
     ·rw [if_neg c4] at H; exact absurd H (by simp)
    ·rw [if_neg c3] at H; have tH : decide (jw < (l0.length : Int)) = false := decide_eq_false c3; clear c3; simp only [Option.some.injEq, Prod.mk.injEq] at H; obtain ⟨rfl, rfl⟩ := H
     go_wp2
     go_ret2
     exact ⟨_, zz6, uF, zz1⟩
def bQ.l0 : Nat → List (S23) → Int → Option (Bool)
 | 0, _, _ => none
 | k + 1, x0, x3 => if x3 < (x0.length : Int) then (if 0 ≤ x3 then ((iN.f ((aN x0 x3).f0) ((aN x0 x3).f1) ((aN x0 x3).f2)).bind fun t365 => (if t365 = true then (bQ.l0 k x0 (wrap64 (x3 + 1))) else (some false))) else (none)) else (some true)
def bQ.f (k : Nat) (l0 : List (S23)) : Option (Bool) := if (l0.length : Int) > 16 then (some false) else (bQ.l0 k l0 0)
theorem bQ.gM : ∀ k, (∀ y0 y1, LeO (bQ.l0 k y0 y1) (bQ.l0 (k + 1) y0 y1))
 | 0 => fun _ _ r h => by simp [bQ.l0] at h
 | k + 1 => by
  have ih0 := bQ.gM k
  ·intro y0 y1; unfold bQ.l0
   repeat' first
   | (with_reducible exact ih0 _ _)
   | (with_reducible exact LeO.refl _)
   | (with_reducible exact LeO.none _)
   | (with_reducible refine LeO.ite ?_ ?_)
   | (with_reducible refine LeO.bind ?_ (fun _ => ?_))
   | exact ih0 _ _
   | exact LeO.none _
   | refine LeO.ite ?_ ?_
   | refine LeO.bind ?_ (fun _ => ?_)
theorem bQ.mono : ∀ a0 k, LeO (bQ.f k a0) (bQ.f (k + 1) a0) := by
 intro a0 k; have ih0 := bQ.gM k; unfold bQ.f
 repeat' first
   | (with_reducible exact ih0 _ _)
   | (with_reducible exact LeO.refl _)
   | (with_reducible exact LeO.none _)
   | (with_reducible refine LeO.ite ?_ ?_)
   | (with_reducible refine LeO.bind ?_ (fun _ => ?_))
   | exact ih0 _ _
   | exact LeO.none _
   | refine LeO.ite ?_ ?_
   | refine LeO.bind ?_ (fun _ => ?_)
set_option maxHeartbeats 8000000 in
set_option maxRecDepth 100000 in
theorem bQ.calls (k : Nat) (A0 : Option Addr) (c0 : Nat) (l0 : List (S23)) (r : Bool) (w : World) (hr0 : Kd.C k23 w A0 l0.length l0) (hc0 : l0.length ≤ c0) (h : bQ.f k l0 = some r) :
  Calls Try.prog 88 #[.slice A0 l0.length c0] w fun e w' => e = .returned (.bool r) ∧ Below w.heap.size w w' := by
 have sJ := Try.underlying23; have HR0 := ah.mk hr0; have HC0 := ah.mk hc0; clear hr0 hc0; have HB := ah.mk (Below.refl w.heap.size w); have H := h; clear h
 dsimp only [bQ.f] at H
 by_cases c2 : (l0.length : Int) > 16
 ·rw [if_pos c2] at H; have pK : decide (16 < (l0.length : Int)) = true := decide_eq_true c2; have Dj : decide (16 < l0.length) = true := decide_eq_true (by omega); clear c2; obtain rfl := Option.some.inj H
  go_enter Try.func88, Try.ntmps88
  go_wp2
  go_ret
  exact ⟨zz6, zz1⟩
 ·rw [if_neg c2] at H; have pK : decide (16 < (l0.length : Int)) = false := decide_eq_false c2; have Dj : decide (16 < l0.length) = false := decide_eq_false (by omega); clear c2; have H' := ah.mk H; clear H
  go_enter Try.func88, Try.ntmps88
  go_wp2
  go_loopg [3] k (fun kq v3 w' => ∃ (l6 : Int), v3 = .int .i64 l6 ∧ ah (bQ.l0 kq l0 l6 = some r) ∧ ah (kq ≤ k) ∧ ah (Below w.heap.size w w'))
  case atStart => exact ⟨(0), zz2, H', ⟨Nat.le_refl _⟩, ⟨zz1⟩⟩
  case round =>
   clear H'; (try clear c2); (try clear pK); (try clear Dj); (try clear p2); obtain ⟨l6, rfl, HA, HK1, HB⟩ := hrel
   cases gk with
   | zero => exact absurd HA.out (by simp [bQ.l0])
   | succ k1 =>
    have H := HA.out; clear HA; simp only [bQ.l0] at H
    by_cases c3 : l6 < (l0.length : Int)
    ·rw [if_pos c3] at H; have tH : decide (l6 < (l0.length : Int)) = true := decide_eq_true c3; clear c3
     by_cases c4 : 0 ≤ l6
     ·rw [if_pos c4] at H; have lI : decide (0 ≤ l6) = true := decide_eq_true c4; clear c4; replace H := Option.bind_eq_some_iff.mp H; obtain ⟨t365, A50, H⟩ := H; have A5 := ah.mk A50; clear A50
      by_cases c6 : t365 = true
      ·subst c6; rw [if_pos rfl] at H; have H' := ah.mk H; clear H; have Pp : 0 ≤ (l6 : Int) := of_decide_eq_true zz9; have O1 : l6 < (l0.length : Int) := of_decide_eq_true zz9; obtain ⟨ad364, e364, AQ, AP, AO⟩ := mo HR0.out l6 Pp O1
       cases e364
       replace AQ := cB HB AQ; replace AP := cB HB AP; replace AO := cB HB AO; replace Pp := eq_true Pp; replace O1 := eq_true O1
       go_wp2_with (first | ((with_reducible refine aT (f := 111) rfl ?_); refine cu (some 17) rfl rfl Try.func111 (by kernel_rfl) rfl #[.agg #[.int .i64 ((aN l0 l6).f0), .int .i64 ((aN l0 l6).f1), .string ((aN l0 l6).f2)]] rfl zz8 ?_; (with_reducible refine (iN.calls ((aN l0 l6).f0) ((aN l0 l6).f1) ((aN l0 l6).f2) true _ A5.out).mono ?_); rintro e w7 ⟨rfl, hb⟩; refine ⟨_, rfl, ?_⟩; replace HB := ah.mk (aA zz1 hb); (try clear hb); (try clear hb2); (try clear hk); (try clear hi)))
       go_roundg k1
       case measure => have := HK1.out; omega
       case rel => exact ⟨(wrap64 (l6 + 1)), zz2, H', ⟨by have := HK1.out; omega⟩, ⟨zz1⟩⟩
      ·replace c6 := Bool.eq_false_iff.mpr c6; subst c6; rw [if_neg (show ¬ (false = true) by decide)] at H; obtain rfl := Option.some.inj H; have Pp : 0 ≤ (l6 : Int) := of_decide_eq_true zz9; have O1 : l6 < (l0.length : Int) := of_decide_eq_true zz9; obtain ⟨ad364, e364, AQ, AP, AO⟩ := mo HR0.out l6 Pp O1
       cases e364
       replace AQ := cB HB AQ; replace AP := cB HB AP; replace AO := cB HB AO; replace Pp := eq_true Pp; replace O1 := eq_true O1
       go_wp2_with (first | ((with_reducible refine aT (f := 111) rfl ?_); refine cu (some 17) rfl rfl Try.func111 (by kernel_rfl) rfl #[.agg #[.int .i64 ((aN l0 l6).f0), .int .i64 ((aN l0 l6).f1), .string ((aN l0 l6).f2)]] rfl zz8 ?_; (with_reducible refine (iN.calls ((aN l0 l6).f0) ((aN l0 l6).f1) ((aN l0 l6).f2) false _ A5.out).mono ?_); rintro e w8 ⟨rfl, hb⟩; refine ⟨_, rfl, ?_⟩; replace HB := ah.mk (aA zz1 hb); (try clear hb); (try clear hb2); (try clear hk); (try clear hi)))
       go_ret
       exact ⟨zz6, zz1⟩
     ·rw [if_neg c4] at H; exact absurd H (by simp)
    ·rw [if_neg c3] at H; have tH : decide (l6 < (l0.length : Int)) = false := decide_eq_false c3; clear c3; obtain rfl := Option.some.inj H
     go_wp2
     go_ret
     exact ⟨zz6, zz1⟩
theorem eqA23 (d : Nat) (w : World) (x0 y0 : Int) (x1 y1 : Int) (x2 y2 : ByteArray) :
  (Op.equalIn (d + 2) 23 (.agg #[.int .i64 x0, .int .i64 x1, .string x2]) (.agg #[.int .i64 y0, .int .i64 y1, .string y2])).run Try.prog w = .ok (x0 == y0 && (x1 == y1 && (x2.toList == y2.toList))) w := by
 refine eqA_of Try.underlying23 (by kernel_rfl) ?_; refine Nz (by rfl) (by go_simp; rfl) (by go_simp; rfl) (by go_simp) ?_; refine Nz (by rfl) (by go_simp; rfl) (by go_simp; rfl) (by go_simp) ?_; exact V7 (by rfl) (by go_simp; rfl) (by go_simp; rfl) (by go_simp)
attribute [local go_sem high] eqA23
def jQ.f (aX : Int) (aU : Int) (aY : ByteArray) (gQ : Int) (gP : Int) (gN : ByteArray) : Option (Int) := (dM.f aX aU aY).bind fun G6 => ((dM.f gQ gP gN).bind fun G5 => (if (G6.1 == G5.1 && (G6.2.1 == G5.2.1 && (G6.2.2.toList == G5.2.2.toList))) = true then (some 0) else (if G6.1 < G5.1 then (some (-1)) else (if G6.1 = G5.1 then (if G6.2.1 < G5.2.1 then (some (-1)) else (if (Op.bytesLess G6.2.2.toList G5.2.2.toList) = true then (some (-1)) else (some 1))) else (some 1)))))
set_option maxHeartbeats 8000000 in
set_option maxRecDepth 100000 in
theorem jQ.calls (aX : Int) (aU : Int) (aY : ByteArray) (gQ : Int) (gP : Int) (gN : ByteArray) (r : Int) (w : World) (h : jQ.f aX aU aY gQ gP gN = some r) :
  Calls Try.prog 114 #[.agg #[.int .i64 aX, .int .i64 aU, .string aY], .agg #[.int .i64 gQ, .int .i64 gP, .string gN]] w fun e w' => e = .returned (.int .i64 r) ∧ Below w.heap.size w w' := by
 have sJ := Try.underlying23; have HB := ah.mk (Below.refl w.heap.size w); have H := h; clear h
 dsimp only [jQ.f] at H
 replace H := Option.bind_eq_some_iff.mp H; obtain ⟨⟨tq, xC, xB⟩, A30, H⟩ := H
 try dsimp only at H
 have A3 := ah.mk A30; clear A30; replace H := Option.bind_eq_some_iff.mp H; obtain ⟨⟨sZ, xA, xw⟩, A40, H⟩ := H
 try dsimp only at H
 have A4 := ah.mk A40; clear A40
 by_cases c5 : (tq == sZ && (xC == xA && (xB.toList == xw.toList))) = true
 ·rw [if_pos c5] at H; have qd : (tq == sZ && (xC == xA && (xB.toList == xw.toList))) = true := c5; (try (have NJ : decide (tq = sZ && (xC == xA && (xB.toList == xw.toList))) = true := by simpa using c5)); (try (have c5b2 : (tq == sZ && (xC == xA && (xB.toList == xw.toList))) = true := by simpa using c5)); clear c5; obtain rfl := Option.some.inj H
  go_enter Try.func114, Try.ntmps114
  try go_wp2_with (first | ((with_reducible refine bD (N := 2) rfl ?_); refine bq ?hg (N := 2) ?hd (cs := #[.int .i64 aX, .int .i64 aU, .string aY]) (t := 23) ?hr ?_; (case hd => rfl); (case hg => rfl); (case hr => first | (go_simp; done) | (go_simp; rfl)); intro au hg w6 bF hb; have ak := ah.mk (bF); have fO := ah.mk ((zz0 : w.heap.size ≤ au)); have fD := ah.mk ((zz0 : w.heap.size ≤ au)); replace HB := ah.mk (aA zz1 hb); clear hb bF hg) | ((with_reducible refine bD (N := 3) rfl ?_); refine bq ?hg (N := 3) ?hd (cs := #[.int .i64 gQ, .int .i64 gP, .string gN]) (t := 23) ?hr ?_; (case hd => rfl); (case hg => rfl); (case hr => first | (go_simp; done) | (go_simp; rfl)); intro ay hg w7 bF hb; have av := ah.mk (bF); have iX := ah.mk ((jK : w.heap.size ≤ ay)); have iC := ah.mk ((jK : w.heap.size ≤ ay)); replace HB := ah.mk (aA zz5 hb); have aQ := ah.mk ((CU : au ≠ ay)); have aW := ah.mk ((CS : ay ≠ au)); replace ak := ah.mk (aI (g := au) (o := .cells #[.int .i64 aX, .int .i64 aU, .string aY] 23 (0, 0)) zz4 hb); clear hb bF hg))
  replace ak := ah.mk (aK ak.out); replace av := ah.mk (aK av.out); replace HB := ah.mk (bG HB.out); refine jd (n := 6) (S := fun w' => w'.cell? ⟨au, 0, none⟩ = some (.int .i64 aX) ∧ w'.cell? ⟨au, 1, none⟩ = some (.int .i64 aU) ∧ w'.cell? ⟨au, 2, none⟩ = some (.string aY) ∧ w'.cell? ⟨ay, 0, none⟩ = some (.int .i64 gQ) ∧ w'.cell? ⟨ay, 1, none⟩ = some (.int .i64 gP) ∧ w'.cell? ⟨ay, 2, none⟩ = some (.string gN)) (ds := [4, 5]) (.replicate 6 false) (by kernel_rfl) rfl rfl ⟨cK ak 0, cK ak 1, cK ak 2, cK av 0, cK av 1, cK av 2⟩ (fun hHeld => ?_); generalize w7.drew = w8 at ak av HB hHeld ⊢; refine nk (i := 0) (N := some 5) (v := ?_) (a' := ?_) (bA 6 1) rfl rfl (by kernel_rfl) (fun _ _ _ h => h) (Or.inl ⟨by rfl, ?_⟩) hHeld ?_ ?_; rotate_left
  ·rintro w' ⟨s0, s1, s2, s3, s4, s5⟩
   go_simp
   (with_reducible rfl)
  rotate_left
  ·simp only [Act.put, List.setIfInBounds_toArray, List.set_cons_zero, List.set_cons_succ, dJ, eu]
   rfl
  refine nk (i := 2) (N := some 7) (v := ?_) (a' := ?_) (bA 6 5) rfl rfl (by kernel_rfl) (fun _ _ _ h => h) (Or.inl ⟨by rfl, ?_⟩) hHeld ?_ ?_; rotate_left
  ·rintro w' ⟨s0, s1, s2, s3, s4, s5⟩
   go_simp
   (with_reducible rfl)
  rotate_left
  ·simp only [Act.put, List.setIfInBounds_toArray, List.set_cons_zero, List.set_cons_succ, dJ, eu]
   rfl
  refine qO (i := 1) (N := some 6) (bA 6 7) rfl rfl (by kernel_rfl) (by decide) (fun K hK => ?_); refine iT Try.func84 (by kernel_rfl) rfl #[.agg #[.int .i64 aX, .int .i64 aU, .string aY]] (by rfl) rfl rfl zz8 ?_; (with_reducible refine (dM.calls aX aU aY tq xC xB _ A3.out).mono ?_); rintro e w9 ⟨rfl, hb⟩; refine ⟨_, rfl, ?_⟩; replace ak := ah.mk (aI (g := au) (o := .cells #[.int .i64 aX, .int .i64 aU, .string aY] 23 (0, 0)) zz4 hb); replace av := ah.mk (aI (g := ay) (o := .cells #[.int .i64 gQ, .int .i64 gP, .string gN] 23 (0, 0)) fK hb); replace HB := ah.mk (aA fF hb); (try clear hb); (try clear hb2); (try clear hk); (try clear hi); refine hK.out _ _ ⟨cK ak 0, cK ak 1, cK ak 2, cK av 0, cK av 1, cK av 2⟩ (fun hHeld => ?_); clear hK K; refine iV (a' := ?_) ?_ ?_; rotate_left
  ·show Act.put _ (some 6) _ = _
   simp only [Act.put, List.setIfInBounds_toArray, List.set_cons_zero, List.set_cons_succ, dJ, eu]
   rfl
  refine qO (i := 3) (N := some 8) (bA 6 15) rfl rfl (by kernel_rfl) (by decide) (fun K hK => ?_); refine iT Try.func84 (by kernel_rfl) rfl #[.agg #[.int .i64 gQ, .int .i64 gP, .string gN]] (by rfl) rfl rfl zz8 ?_; (with_reducible refine (dM.calls gQ gP gN sZ xA xw _ A4.out).mono ?_); rintro e w10 ⟨rfl, hb⟩; refine ⟨_, rfl, ?_⟩; replace ak := ah.mk (aI (g := au) (o := .cells #[.int .i64 aX, .int .i64 aU, .string aY] 23 (0, 0)) zz4 hb); replace av := ah.mk (aI (g := ay) (o := .cells #[.int .i64 gQ, .int .i64 gP, .string gN] 23 (0, 0)) fK hb); replace HB := ah.mk (aA fF hb); (try clear hb); (try clear hb2); (try clear hk); (try clear hi); refine hK.out _ _ ⟨cK ak 0, cK ak 1, cK ak 2, cK av 0, cK av 1, cK av 2⟩ (fun hHeld => ?_); clear hK K; refine iV (a' := ?_) ?_ ?_; rotate_left
  ·show Act.put _ (some 8) _ = _
   simp only [Act.put, List.setIfInBounds_toArray, List.set_cons_zero, List.set_cons_succ, dJ, eu]
   rfl
  refine pY (i := 4) (N := none) (bA 6 31) rfl rfl (by kernel_rfl) (by decide) (fun K hK => ?_); have hs11 : w10.cell? ⟨au, 0, none⟩ = some (.int .i64 aX) := cK ak 0; have hfs11 := aj ak.out 0; have hns11_1 := aW.out; have hms11_1 := aQ.out; have hs12 : w10.cell? ⟨au, 1, none⟩ = some (.int .i64 aU) := cK ak 1; have hfs12 := aj ak.out 1; have hns12_1 := aW.out; have hms12_1 := aQ.out; have hs13 : w10.cell? ⟨au, 2, none⟩ = some (.string aY) := cK ak 2; have hfs13 := aj ak.out 2; have Yx := aW.out; have YF := aQ.out; refine nR (w1 := ?_) (by rfl) rfl ?_ ?_; rotate_left
  ·go_simp
   rfl
  refine hK.out _ _ ?_; clear hK K; refine pY (i := 5) (N := none) (bA 6 63) rfl rfl (by kernel_rfl) (by decide) (fun K hK => ?_); have hs14 : w10.cell? ⟨ay, 0, none⟩ = some (.int .i64 gQ) := cK av 0; have hfs14 := aj av.out 0; have hns14_0 := aQ.out; have hms14_0 := aW.out; have hs15 : w10.cell? ⟨ay, 1, none⟩ = some (.int .i64 gP) := cK av 1; have hfs15 := aj av.out 1; have hns15_0 := aQ.out; have hms15_0 := aW.out; have hs16 : w10.cell? ⟨ay, 2, none⟩ = some (.string gN) := cK av 2; have hfs16 := aj av.out 2; have Yw := aQ.out; have YE := aW.out; refine nR (w1 := ?_) (by rfl) rfl ?_ ?_; rotate_left
  ·go_simp
   rfl
  refine hK.out _ _ ?_; clear hK K; refine kJ (by kernel_rfl) ?_; have hnb17 := aQ.out; have hnc17 := aW.out; have zk : w10.cell? ⟨au, 0, none⟩ = some (.int .i64 aX) := cK ak 0; have zi : w10.cell? ⟨au, 1, none⟩ = some (.int .i64 aU) := cK ak 1; have Cq : w10.cell? ⟨au, 2, none⟩ = some (.string aY) := cK ak 2; have Cc := aj ak.out 0; have yQ := aj ak.out 1; have Cb := aj ak.out 2; have zh : w10.cell? ⟨ay, 0, none⟩ = some (.int .i64 gQ) := cK av 0; have zf : w10.cell? ⟨ay, 1, none⟩ = some (.int .i64 gP) := cK av 1; have ze : w10.cell? ⟨ay, 2, none⟩ = some (.string gN) := cK av 2; have yP := aj av.out 0; have yO := aj av.out 1; have yN := aj av.out 2
  try go_wp2
  go_ret
  exact ⟨zz6, fF⟩
 ·rw [if_neg c5] at H; have qd : (tq == sZ && (xC == xA && (xB.toList == xw.toList))) = false := by simpa using c5
  (try (have NJ : decide (tq = sZ && (xC == xA && (xB.toList == xw.toList))) = false := by simpa using c5)); (try (have c5b2 : (tq == sZ && (xC == xA && (xB.toList == xw.toList))) = false := by simpa using c5)); (try (have c5b3 : ¬ (tq = sZ && (xC == xA && (xB.toList == xw.toList))) := by simpa using c5)); clear c5
  by_cases c20 : tq < sZ
  ·rw [if_pos c20] at H; have Tt : decide (tq < sZ) = true := decide_eq_true c20; clear c20; obtain rfl := Option.some.inj H
   go_enter Try.func114, Try.ntmps114
   try go_wp2_with (first | ((with_reducible refine bD (N := 2) rfl ?_); refine bq ?hg (N := 2) ?hd (cs := #[.int .i64 aX, .int .i64 aU, .string aY]) (t := 23) ?hr ?_; (case hd => rfl); (case hg => rfl); (case hr => first | (go_simp; done) | (go_simp; rfl)); intro au hg w21 bF hb; have ak := ah.mk (bF); have fO := ah.mk ((zz0 : w.heap.size ≤ au)); have fD := ah.mk ((zz0 : w.heap.size ≤ au)); replace HB := ah.mk (aA zz1 hb); clear hb bF hg) | ((with_reducible refine bD (N := 3) rfl ?_); refine bq ?hg (N := 3) ?hd (cs := #[.int .i64 gQ, .int .i64 gP, .string gN]) (t := 23) ?hr ?_; (case hd => rfl); (case hg => rfl); (case hr => first | (go_simp; done) | (go_simp; rfl)); intro ay hg w22 bF hb; have av := ah.mk (bF); have iX := ah.mk ((jK : w.heap.size ≤ ay)); have iC := ah.mk ((jK : w.heap.size ≤ ay)); replace HB := ah.mk (aA zz5 hb); have aQ := ah.mk ((CU : au ≠ ay)); have aW := ah.mk ((CS : ay ≠ au)); replace ak := ah.mk (aI (g := au) (o := .cells #[.int .i64 aX, .int .i64 aU, .string aY] 23 (0, 0)) zz4 hb); clear hb bF hg))
   replace ak := ah.mk (aK ak.out); replace av := ah.mk (aK av.out); replace HB := ah.mk (bG HB.out); refine jd (n := 6) (S := fun w' => w'.cell? ⟨au, 0, none⟩ = some (.int .i64 aX) ∧ w'.cell? ⟨au, 1, none⟩ = some (.int .i64 aU) ∧ w'.cell? ⟨au, 2, none⟩ = some (.string aY) ∧ w'.cell? ⟨ay, 0, none⟩ = some (.int .i64 gQ) ∧ w'.cell? ⟨ay, 1, none⟩ = some (.int .i64 gP) ∧ w'.cell? ⟨ay, 2, none⟩ = some (.string gN)) (ds := [4, 5]) (.replicate 6 false) (by kernel_rfl) rfl rfl ⟨cK ak 0, cK ak 1, cK ak 2, cK av 0, cK av 1, cK av 2⟩ (fun hHeld => ?_); generalize w22.drew = w23 at ak av HB hHeld ⊢; refine nk (i := 0) (N := some 5) (v := ?_) (a' := ?_) (bA 6 1) rfl rfl (by kernel_rfl) (fun _ _ _ h => h) (Or.inl ⟨by rfl, ?_⟩) hHeld ?_ ?_; rotate_left
   ·rintro w' ⟨s0, s1, s2, s3, s4, s5⟩
    go_simp
    (with_reducible rfl)
   rotate_left
   ·simp only [Act.put, List.setIfInBounds_toArray, List.set_cons_zero, List.set_cons_succ, dJ, eu]
    rfl
   refine nk (i := 2) (N := some 7) (v := ?_) (a' := ?_) (bA 6 5) rfl rfl (by kernel_rfl) (fun _ _ _ h => h) (Or.inl ⟨by rfl, ?_⟩) hHeld ?_ ?_; rotate_left
   ·rintro w' ⟨s0, s1, s2, s3, s4, s5⟩
    go_simp
    (with_reducible rfl)
   rotate_left
   ·simp only [Act.put, List.setIfInBounds_toArray, List.set_cons_zero, List.set_cons_succ, dJ, eu]
    rfl
   refine qO (i := 1) (N := some 6) (bA 6 7) rfl rfl (by kernel_rfl) (by decide) (fun K hK => ?_); refine iT Try.func84 (by kernel_rfl) rfl #[.agg #[.int .i64 aX, .int .i64 aU, .string aY]] (by rfl) rfl rfl zz8 ?_; (with_reducible refine (dM.calls aX aU aY tq xC xB _ A3.out).mono ?_); rintro e w24 ⟨rfl, hb⟩; refine ⟨_, rfl, ?_⟩; replace ak := ah.mk (aI (g := au) (o := .cells #[.int .i64 aX, .int .i64 aU, .string aY] 23 (0, 0)) zz4 hb); replace av := ah.mk (aI (g := ay) (o := .cells #[.int .i64 gQ, .int .i64 gP, .string gN] 23 (0, 0)) fK hb); replace HB := ah.mk (aA fF hb); (try clear hb); (try clear hb2); (try clear hk); (try clear hi); refine hK.out _ _ ⟨cK ak 0, cK ak 1, cK ak 2, cK av 0, cK av 1, cK av 2⟩ (fun hHeld => ?_); clear hK K; refine iV (a' := ?_) ?_ ?_; rotate_left
   ·show Act.put _ (some 6) _ = _
    simp only [Act.put, List.setIfInBounds_toArray, List.set_cons_zero, List.set_cons_succ, dJ, eu]
    rfl
   refine qO (i := 3) (N := some 8) (bA 6 15) rfl rfl (by kernel_rfl) (by decide) (fun K hK => ?_); refine iT Try.func84 (by kernel_rfl) rfl #[.agg #[.int .i64 gQ, .int .i64 gP, .string gN]] (by rfl) rfl rfl zz8 ?_; (with_reducible refine (dM.calls gQ gP gN sZ xA xw _ A4.out).mono ?_); rintro e w25 ⟨rfl, hb⟩; refine ⟨_, rfl, ?_⟩; replace ak := ah.mk (aI (g := au) (o := .cells #[.int .i64 aX, .int .i64 aU, .string aY] 23 (0, 0)) zz4 hb); replace av := ah.mk (aI (g := ay) (o := .cells #[.int .i64 gQ, .int .i64 gP, .string gN] 23 (0, 0)) fK hb); replace HB := ah.mk (aA fF hb); (try clear hb); (try clear hb2); (try clear hk); (try clear hi); refine hK.out _ _ ⟨cK ak 0, cK ak 1, cK ak 2, cK av 0, cK av 1, cK av 2⟩ (fun hHeld => ?_); clear hK K; refine iV (a' := ?_) ?_ ?_; rotate_left
   ·show Act.put _ (some 8) _ = _
    simp only [Act.put, List.setIfInBounds_toArray, List.set_cons_zero, List.set_cons_succ, dJ, eu]
    rfl
   refine pY (i := 4) (N := none) (bA 6 31) rfl rfl (by kernel_rfl) (by decide) (fun K hK => ?_); have hs26 : w25.cell? ⟨au, 0, none⟩ = some (.int .i64 aX) := cK ak 0; have hfs26 := aj ak.out 0; have hns26_1 := aW.out; have hms26_1 := aQ.out; have hs27 : w25.cell? ⟨au, 1, none⟩ = some (.int .i64 aU) := cK ak 1; have hfs27 := aj ak.out 1; have hns27_1 := aW.out; have hms27_1 := aQ.out; have hs28 : w25.cell? ⟨au, 2, none⟩ = some (.string aY) := cK ak 2; have hfs28 := aj ak.out 2; have Yv := aW.out; have YD := aQ.out; refine nR (w1 := ?_) (by rfl) rfl ?_ ?_; rotate_left
   ·go_simp
    rfl
   refine hK.out _ _ ?_; clear hK K; refine pY (i := 5) (N := none) (bA 6 63) rfl rfl (by kernel_rfl) (by decide) (fun K hK => ?_); have hs29 : w25.cell? ⟨ay, 0, none⟩ = some (.int .i64 gQ) := cK av 0; have hfs29 := aj av.out 0; have hns29_0 := aQ.out; have hms29_0 := aW.out; have hs30 : w25.cell? ⟨ay, 1, none⟩ = some (.int .i64 gP) := cK av 1; have hfs30 := aj av.out 1; have hns30_0 := aQ.out; have hms30_0 := aW.out; have hs31 : w25.cell? ⟨ay, 2, none⟩ = some (.string gN) := cK av 2; have hfs31 := aj av.out 2; have Yu := aQ.out; have YC := aW.out; refine nR (w1 := ?_) (by rfl) rfl ?_ ?_; rotate_left
   ·go_simp
    rfl
   refine hK.out _ _ ?_; clear hK K; refine kJ (by kernel_rfl) ?_; have hnb32 := aQ.out; have hnc32 := aW.out; have hcz33_0 : w25.cell? ⟨au, 0, none⟩ = some (.int .i64 aX) := cK ak 0; have hcz33_1 : w25.cell? ⟨au, 1, none⟩ = some (.int .i64 aU) := cK ak 1; have hcz33_2 : w25.cell? ⟨au, 2, none⟩ = some (.string aY) := cK ak 2; have hfz33_0 := aj ak.out 0; have hfz33_1 := aj ak.out 1; have hfz33_2 := aj ak.out 2; have Fa : w25.cell? ⟨ay, 0, none⟩ = some (.int .i64 gQ) := cK av 0; have E9 : w25.cell? ⟨ay, 1, none⟩ = some (.int .i64 gP) := cK av 1; have E8 : w25.cell? ⟨ay, 2, none⟩ = some (.string gN) := cK av 2; have EH := aj av.out 0; have EG := aj av.out 1; have EF := aj av.out 2
   try go_wp2
   go_ret
   exact ⟨zz6, fF⟩
  ·rw [if_neg c20] at H; have Tt : decide (tq < sZ) = false := decide_eq_false c20; clear c20
   by_cases c35 : tq = sZ
   ·rw [if_pos c35] at H; have IL : (tq == sZ) = true := beq_iff_eq.mpr c35; have c35b1 : (tq != sZ) = false := bne_eq_false_iff_eq.mpr c35; clear c35
    by_cases c36 : xC < xA
    ·rw [if_pos c36] at H; have NK : decide (xC < xA) = true := decide_eq_true c36; clear c36; obtain rfl := Option.some.inj H
     go_enter Try.func114, Try.ntmps114
     try go_wp2_with (first | ((with_reducible refine bD (N := 2) rfl ?_); refine bq ?hg (N := 2) ?hd (cs := #[.int .i64 aX, .int .i64 aU, .string aY]) (t := 23) ?hr ?_; (case hd => rfl); (case hg => rfl); (case hr => first | (go_simp; done) | (go_simp; rfl)); intro au hg w37 bF hb; have ak := ah.mk (bF); have fO := ah.mk ((zz0 : w.heap.size ≤ au)); have fD := ah.mk ((zz0 : w.heap.size ≤ au)); replace HB := ah.mk (aA zz1 hb); clear hb bF hg) | ((with_reducible refine bD (N := 3) rfl ?_); refine bq ?hg (N := 3) ?hd (cs := #[.int .i64 gQ, .int .i64 gP, .string gN]) (t := 23) ?hr ?_; (case hd => rfl); (case hg => rfl); (case hr => first | (go_simp; done) | (go_simp; rfl)); intro ay hg w38 bF hb; have av := ah.mk (bF); have iX := ah.mk ((jK : w.heap.size ≤ ay)); have iC := ah.mk ((jK : w.heap.size ≤ ay)); replace HB := ah.mk (aA zz5 hb); have aQ := ah.mk ((CU : au ≠ ay)); have aW := ah.mk ((CS : ay ≠ au)); replace ak := ah.mk (aI (g := au) (o := .cells #[.int .i64 aX, .int .i64 aU, .string aY] 23 (0, 0)) zz4 hb); clear hb bF hg))
     replace ak := ah.mk (aK ak.out); replace av := ah.mk (aK av.out); replace HB := ah.mk (bG HB.out); refine jd (n := 6) (S := fun w' => w'.cell? ⟨au, 0, none⟩ = some (.int .i64 aX) ∧ w'.cell? ⟨au, 1, none⟩ = some (.int .i64 aU) ∧ w'.cell? ⟨au, 2, none⟩ = some (.string aY) ∧ w'.cell? ⟨ay, 0, none⟩ = some (.int .i64 gQ) ∧ w'.cell? ⟨ay, 1, none⟩ = some (.int .i64 gP) ∧ w'.cell? ⟨ay, 2, none⟩ = some (.string gN)) (ds := [4, 5]) (.replicate 6 false) (by kernel_rfl) rfl rfl ⟨cK ak 0, cK ak 1, cK ak 2, cK av 0, cK av 1, cK av 2⟩ (fun hHeld => ?_); generalize w38.drew = w39 at ak av HB hHeld ⊢; refine nk (i := 0) (N := some 5) (v := ?_) (a' := ?_) (bA 6 1) rfl rfl (by kernel_rfl) (fun _ _ _ h => h) (Or.inl ⟨by rfl, ?_⟩) hHeld ?_ ?_; rotate_left
     ·rintro w' ⟨s0, s1, s2, s3, s4, s5⟩
      go_simp
      (with_reducible rfl)
     rotate_left
     ·simp only [Act.put, List.setIfInBounds_toArray, List.set_cons_zero, List.set_cons_succ, dJ, eu]
      rfl
     refine nk (i := 2) (N := some 7) (v := ?_) (a' := ?_) (bA 6 5) rfl rfl (by kernel_rfl) (fun _ _ _ h => h) (Or.inl ⟨by rfl, ?_⟩) hHeld ?_ ?_; rotate_left
     ·rintro w' ⟨s0, s1, s2, s3, s4, s5⟩
      go_simp
      (with_reducible rfl)
     rotate_left
     ·simp only [Act.put, List.setIfInBounds_toArray, List.set_cons_zero, List.set_cons_succ, dJ, eu]
      rfl
     refine qO (i := 1) (N := some 6) (bA 6 7) rfl rfl (by kernel_rfl) (by decide) (fun K hK => ?_); refine iT Try.func84 (by kernel_rfl) rfl #[.agg #[.int .i64 aX, .int .i64 aU, .string aY]] (by rfl) rfl rfl zz8 ?_; (with_reducible refine (dM.calls aX aU aY tq xC xB _ A3.out).mono ?_); rintro e w40 ⟨rfl, hb⟩; refine ⟨_, rfl, ?_⟩; replace ak := ah.mk (aI (g := au) (o := .cells #[.int .i64 aX, .int .i64 aU, .string aY] 23 (0, 0)) zz4 hb); replace av := ah.mk (aI (g := ay) (o := .cells #[.int .i64 gQ, .int .i64 gP, .string gN] 23 (0, 0)) fK hb); replace HB := ah.mk (aA fF hb); (try clear hb); (try clear hb2); (try clear hk); (try clear hi); refine hK.out _ _ ⟨cK ak 0, cK ak 1, cK ak 2, cK av 0, cK av 1, cK av 2⟩ (fun hHeld => ?_); clear hK K; refine iV (a' := ?_) ?_ ?_; rotate_left
     ·show Act.put _ (some 6) _ = _
      simp only [Act.put, List.setIfInBounds_toArray, List.set_cons_zero, List.set_cons_succ, dJ, eu]
      rfl
     refine qO (i := 3) (N := some 8) (bA 6 15) rfl rfl (by kernel_rfl) (by decide) (fun K hK => ?_); refine iT Try.func84 (by kernel_rfl) rfl #[.agg #[.int .i64 gQ, .int .i64 gP, .string gN]] (by rfl) rfl rfl zz8 ?_; (with_reducible refine (dM.calls gQ gP gN sZ xA xw _ A4.out).mono ?_); rintro e w41 ⟨rfl, hb⟩; refine ⟨_, rfl, ?_⟩; replace ak := ah.mk (aI (g := au) (o := .cells #[.int .i64 aX, .int .i64 aU, .string aY] 23 (0, 0)) zz4 hb); replace av := ah.mk (aI (g := ay) (o := .cells #[.int .i64 gQ, .int .i64 gP, .string gN] 23 (0, 0)) fK hb); replace HB := ah.mk (aA fF hb); (try clear hb); (try clear hb2); (try clear hk); (try clear hi); refine hK.out _ _ ⟨cK ak 0, cK ak 1, cK ak 2, cK av 0, cK av 1, cK av 2⟩ (fun hHeld => ?_); clear hK K; refine iV (a' := ?_) ?_ ?_; rotate_left
     ·show Act.put _ (some 8) _ = _
      simp only [Act.put, List.setIfInBounds_toArray, List.set_cons_zero, List.set_cons_succ, dJ, eu]
      rfl
     refine pY (i := 4) (N := none) (bA 6 31) rfl rfl (by kernel_rfl) (by decide) (fun K hK => ?_); have hs42 : w41.cell? ⟨au, 0, none⟩ = some (.int .i64 aX) := cK ak 0; have hfs42 := aj ak.out 0; have hns42_1 := aW.out; have hms42_1 := aQ.out; have hs43 : w41.cell? ⟨au, 1, none⟩ = some (.int .i64 aU) := cK ak 1; have hfs43 := aj ak.out 1; have Yt := aW.out; have YB := aQ.out; have hs44 : w41.cell? ⟨au, 2, none⟩ = some (.string aY) := cK ak 2; have hfs44 := aj ak.out 2; have Yr := aW.out; have YA := aQ.out; refine nR (w1 := ?_) (by rfl) rfl ?_ ?_; rotate_left
     ·go_simp
      rfl
     refine hK.out _ _ ?_; clear hK K; refine pY (i := 5) (N := none) (bA 6 63) rfl rfl (by kernel_rfl) (by decide) (fun K hK => ?_); have hs45 : w41.cell? ⟨ay, 0, none⟩ = some (.int .i64 gQ) := cK av 0; have hfs45 := aj av.out 0; have Yq := aQ.out; have Yz := aW.out; have hs46 : w41.cell? ⟨ay, 1, none⟩ = some (.int .i64 gP) := cK av 1; have hfs46 := aj av.out 1; have R5 := aQ.out; have R7 := aW.out; have hs47 : w41.cell? ⟨ay, 2, none⟩ = some (.string gN) := cK av 2; have VF := aj av.out 2; have J7 := aQ.out; have J8 := aW.out; refine nR (w1 := ?_) (by rfl) rfl ?_ ?_; rotate_left
     ·go_simp
      rfl
     refine hK.out _ _ ?_; clear hK K; refine kJ (by kernel_rfl) ?_; have hnb48 := aQ.out; have hnc48 := aW.out; have Zu : w41.cell? ⟨au, 0, none⟩ = some (.int .i64 aX) := cK ak 0; have Zt : w41.cell? ⟨au, 1, none⟩ = some (.int .i64 aU) := cK ak 1; have Zr : w41.cell? ⟨au, 2, none⟩ = some (.string aY) := cK ak 2; have YL := aj ak.out 0; have YK := aj ak.out 1; have YJ := aj ak.out 2; have Zq : w41.cell? ⟨ay, 0, none⟩ = some (.int .i64 gQ) := cK av 0; have Zp : w41.cell? ⟨ay, 1, none⟩ = some (.int .i64 gP) := cK av 1; have Zo : w41.cell? ⟨ay, 2, none⟩ = some (.string gN) := cK av 2; have YI := aj av.out 0; have YH := aj av.out 1; have YG := aj av.out 2
     try go_wp2
     (try (· (rename_i hx_; exfalso; simp only [IL, Bool.true_and, Bool.and_eq_false_iff] at qd; simp [hx_.1, hx_.2] at qd)))
     go_ret
     exact ⟨zz6, fF⟩
    ·rw [if_neg c36] at H; have NK : decide (xC < xA) = false := decide_eq_false c36; clear c36
     by_cases c51 : (Op.bytesLess xB.toList xw.toList) = true
     ·rw [if_pos c51] at H; have c51b0 : (Op.bytesLess xB.toList xw.toList) = true := c51; clear c51; obtain rfl := Option.some.inj H
      go_enter Try.func114, Try.ntmps114
      try go_wp2_with (first | ((with_reducible refine bD (N := 2) rfl ?_); refine bq ?hg (N := 2) ?hd (cs := #[.int .i64 aX, .int .i64 aU, .string aY]) (t := 23) ?hr ?_; (case hd => rfl); (case hg => rfl); (case hr => first | (go_simp; done) | (go_simp; rfl)); intro au hg w52 bF hb; have ak := ah.mk (bF); have fO := ah.mk ((zz0 : w.heap.size ≤ au)); have fD := ah.mk ((zz0 : w.heap.size ≤ au)); replace HB := ah.mk (aA zz1 hb); clear hb bF hg) | ((with_reducible refine bD (N := 3) rfl ?_); refine bq ?hg (N := 3) ?hd (cs := #[.int .i64 gQ, .int .i64 gP, .string gN]) (t := 23) ?hr ?_; (case hd => rfl); (case hg => rfl); (case hr => first | (go_simp; done) | (go_simp; rfl)); intro ay hg w53 bF hb; have av := ah.mk (bF); have iX := ah.mk ((jK : w.heap.size ≤ ay)); have iC := ah.mk ((jK : w.heap.size ≤ ay)); replace HB := ah.mk (aA zz5 hb); have aQ := ah.mk ((CU : au ≠ ay)); have aW := ah.mk ((CS : ay ≠ au)); replace ak := ah.mk (aI (g := au) (o := .cells #[.int .i64 aX, .int .i64 aU, .string aY] 23 (0, 0)) zz4 hb); clear hb bF hg))
      replace ak := ah.mk (aK ak.out); replace av := ah.mk (aK av.out); replace HB := ah.mk (bG HB.out); refine jd (n := 6) (S := fun w' => w'.cell? ⟨au, 0, none⟩ = some (.int .i64 aX) ∧ w'.cell? ⟨au, 1, none⟩ = some (.int .i64 aU) ∧ w'.cell? ⟨au, 2, none⟩ = some (.string aY) ∧ w'.cell? ⟨ay, 0, none⟩ = some (.int .i64 gQ) ∧ w'.cell? ⟨ay, 1, none⟩ = some (.int .i64 gP) ∧ w'.cell? ⟨ay, 2, none⟩ = some (.string gN)) (ds := [4, 5]) (.replicate 6 false) (by kernel_rfl) rfl rfl ⟨cK ak 0, cK ak 1, cK ak 2, cK av 0, cK av 1, cK av 2⟩ (fun hHeld => ?_); generalize w53.drew = w54 at ak av HB hHeld ⊢; refine nk (i := 0) (N := some 5) (v := ?_) (a' := ?_) (bA 6 1) rfl rfl (by kernel_rfl) (fun _ _ _ h => h) (Or.inl ⟨by rfl, ?_⟩) hHeld ?_ ?_; rotate_left
      ·rintro w' ⟨s0, s1, s2, s3, s4, s5⟩
       go_simp
       (with_reducible rfl)
      rotate_left
      ·simp only [Act.put, List.setIfInBounds_toArray, List.set_cons_zero, List.set_cons_succ, dJ, eu]
       rfl
      refine nk (i := 2) (N := some 7) (v := ?_) (a' := ?_) (bA 6 5) rfl rfl (by kernel_rfl) (fun _ _ _ h => h) (Or.inl ⟨by rfl, ?_⟩) hHeld ?_ ?_; rotate_left
      ·rintro w' ⟨s0, s1, s2, s3, s4, s5⟩
       go_simp
       (with_reducible rfl)
      rotate_left
      ·simp only [Act.put, List.setIfInBounds_toArray, List.set_cons_zero, List.set_cons_succ, dJ, eu]
       rfl
      refine qO (i := 1) (N := some 6) (bA 6 7) rfl rfl (by kernel_rfl) (by decide) (fun K hK => ?_); refine iT Try.func84 (by kernel_rfl) rfl #[.agg #[.int .i64 aX, .int .i64 aU, .string aY]] (by rfl) rfl rfl zz8 ?_; (with_reducible refine (dM.calls aX aU aY tq xC xB _ A3.out).mono ?_); rintro e w55 ⟨rfl, hb⟩; refine ⟨_, rfl, ?_⟩; replace ak := ah.mk (aI (g := au) (o := .cells #[.int .i64 aX, .int .i64 aU, .string aY] 23 (0, 0)) zz4 hb); replace av := ah.mk (aI (g := ay) (o := .cells #[.int .i64 gQ, .int .i64 gP, .string gN] 23 (0, 0)) fK hb); replace HB := ah.mk (aA fF hb); (try clear hb); (try clear hb2); (try clear hk); (try clear hi); refine hK.out _ _ ⟨cK ak 0, cK ak 1, cK ak 2, cK av 0, cK av 1, cK av 2⟩ (fun hHeld => ?_); clear hK K; refine iV (a' := ?_) ?_ ?_; rotate_left
      ·show Act.put _ (some 6) _ = _
       simp only [Act.put, List.setIfInBounds_toArray, List.set_cons_zero, List.set_cons_succ, dJ, eu]
       rfl
      refine qO (i := 3) (N := some 8) (bA 6 15) rfl rfl (by kernel_rfl) (by decide) (fun K hK => ?_); refine iT Try.func84 (by kernel_rfl) rfl #[.agg #[.int .i64 gQ, .int .i64 gP, .string gN]] (by rfl) rfl rfl zz8 ?_; (with_reducible refine (dM.calls gQ gP gN sZ xA xw _ A4.out).mono ?_); rintro e w56 ⟨rfl, hb⟩; refine ⟨_, rfl, ?_⟩; replace ak := ah.mk (aI (g := au) (o := .cells #[.int .i64 aX, .int .i64 aU, .string aY] 23 (0, 0)) zz4 hb); replace av := ah.mk (aI (g := ay) (o := .cells #[.int .i64 gQ, .int .i64 gP, .string gN] 23 (0, 0)) fK hb); replace HB := ah.mk (aA fF hb); (try clear hb); (try clear hb2); (try clear hk); (try clear hi); refine hK.out _ _ ⟨cK ak 0, cK ak 1, cK ak 2, cK av 0, cK av 1, cK av 2⟩ (fun hHeld => ?_); clear hK K; refine iV (a' := ?_) ?_ ?_; rotate_left
      ·show Act.put _ (some 8) _ = _
       simp only [Act.put, List.setIfInBounds_toArray, List.set_cons_zero, List.set_cons_succ, dJ, eu]
       rfl
      refine pY (i := 4) (N := none) (bA 6 31) rfl rfl (by kernel_rfl) (by decide) (fun K hK => ?_); have hs57 : w56.cell? ⟨au, 0, none⟩ = some (.int .i64 aX) := cK ak 0; have hfs57 := aj ak.out 0; have hns57_1 := aW.out; have hms57_1 := aQ.out; have hs58 : w56.cell? ⟨au, 1, none⟩ = some (.int .i64 aU) := cK ak 1; have hfs58 := aj ak.out 1; have hns58_1 := aW.out; have hms58_1 := aQ.out; have hs59 : w56.cell? ⟨au, 2, none⟩ = some (.string aY) := cK ak 2; have hfs59 := aj ak.out 2; have hns59_1 := aW.out; have hms59_1 := aQ.out; refine nR (w1 := ?_) (by rfl) rfl ?_ ?_; rotate_left
      ·go_simp
       rfl
      refine hK.out _ _ ?_; clear hK K; refine pY (i := 5) (N := none) (bA 6 63) rfl rfl (by kernel_rfl) (by decide) (fun K hK => ?_); have hs60 : w56.cell? ⟨ay, 0, none⟩ = some (.int .i64 gQ) := cK av 0; have hfs60 := aj av.out 0; have hns60_0 := aQ.out; have hms60_0 := aW.out; have hs61 : w56.cell? ⟨ay, 1, none⟩ = some (.int .i64 gP) := cK av 1; have hfs61 := aj av.out 1; have hns61_0 := aQ.out; have hms61_0 := aW.out; have hs62 : w56.cell? ⟨ay, 2, none⟩ = some (.string gN) := cK av 2; have hfs62 := aj av.out 2; have hns62_0 := aQ.out; have hms62_0 := aW.out; refine nR (w1 := ?_) (by rfl) rfl ?_ ?_; rotate_left
      ·go_simp
       rfl
      refine hK.out _ _ ?_; clear hK K; refine kJ (by kernel_rfl) ?_; have hnb63 := aQ.out; have hnc63 := aW.out; have hcz64_0 : w56.cell? ⟨au, 0, none⟩ = some (.int .i64 aX) := cK ak 0; have hcz64_1 : w56.cell? ⟨au, 1, none⟩ = some (.int .i64 aU) := cK ak 1; have hcz64_2 : w56.cell? ⟨au, 2, none⟩ = some (.string aY) := cK ak 2; have hfz64_0 := aj ak.out 0; have hfz64_1 := aj ak.out 1; have hfz64_2 := aj ak.out 2; have hcz65_0 : w56.cell? ⟨ay, 0, none⟩ = some (.int .i64 gQ) := cK av 0; have hcz65_1 : w56.cell? ⟨ay, 1, none⟩ = some (.int .i64 gP) := cK av 1; have hcz65_2 : w56.cell? ⟨ay, 2, none⟩ = some (.string gN) := cK av 2; have hfz65_0 := aj av.out 0; have hfz65_1 := aj av.out 1; have hfz65_2 := aj av.out 2
      try go_wp2
      (try (· (rename_i hx_; exfalso; simp only [IL, Bool.true_and, Bool.and_eq_false_iff] at qd; simp [hx_.1, hx_.2] at qd)))
      go_ret
      exact ⟨zz6, fF⟩
     ·rw [if_neg c51] at H; have c51b0 : (Op.bytesLess xB.toList xw.toList) = false := by simpa using c51
      clear c51; obtain rfl := Option.some.inj H
      go_enter Try.func114, Try.ntmps114
      try go_wp2_with (first | ((with_reducible refine bD (N := 2) rfl ?_); refine bq ?hg (N := 2) ?hd (cs := #[.int .i64 aX, .int .i64 aU, .string aY]) (t := 23) ?hr ?_; (case hd => rfl); (case hg => rfl); (case hr => first | (go_simp; done) | (go_simp; rfl)); intro au hg w66 bF hb; have ak := ah.mk (bF); have fO := ah.mk ((zz0 : w.heap.size ≤ au)); have fD := ah.mk ((zz0 : w.heap.size ≤ au)); replace HB := ah.mk (aA zz1 hb); clear hb bF hg) | ((with_reducible refine bD (N := 3) rfl ?_); refine bq ?hg (N := 3) ?hd (cs := #[.int .i64 gQ, .int .i64 gP, .string gN]) (t := 23) ?hr ?_; (case hd => rfl); (case hg => rfl); (case hr => first | (go_simp; done) | (go_simp; rfl)); intro ay hg w67 bF hb; have av := ah.mk (bF); have iX := ah.mk ((jK : w.heap.size ≤ ay)); have iC := ah.mk ((jK : w.heap.size ≤ ay)); replace HB := ah.mk (aA zz5 hb); have aQ := ah.mk ((CU : au ≠ ay)); have aW := ah.mk ((CS : ay ≠ au)); replace ak := ah.mk (aI (g := au) (o := .cells #[.int .i64 aX, .int .i64 aU, .string aY] 23 (0, 0)) zz4 hb); clear hb bF hg))
      replace ak := ah.mk (aK ak.out); replace av := ah.mk (aK av.out); replace HB := ah.mk (bG HB.out); refine jd (n := 6) (S := fun w' => w'.cell? ⟨au, 0, none⟩ = some (.int .i64 aX) ∧ w'.cell? ⟨au, 1, none⟩ = some (.int .i64 aU) ∧ w'.cell? ⟨au, 2, none⟩ = some (.string aY) ∧ w'.cell? ⟨ay, 0, none⟩ = some (.int .i64 gQ) ∧ w'.cell? ⟨ay, 1, none⟩ = some (.int .i64 gP) ∧ w'.cell? ⟨ay, 2, none⟩ = some (.string gN)) (ds := [4, 5]) (.replicate 6 false) (by kernel_rfl) rfl rfl ⟨cK ak 0, cK ak 1, cK ak 2, cK av 0, cK av 1, cK av 2⟩ (fun hHeld => ?_); generalize w67.drew = w68 at ak av HB hHeld ⊢; refine nk (i := 0) (N := some 5) (v := ?_) (a' := ?_) (bA 6 1) rfl rfl (by kernel_rfl) (fun _ _ _ h => h) (Or.inl ⟨by rfl, ?_⟩) hHeld ?_ ?_; rotate_left
      ·rintro w' ⟨s0, s1, s2, s3, s4, s5⟩
       go_simp
       (with_reducible rfl)
      rotate_left
      ·simp only [Act.put, List.setIfInBounds_toArray, List.set_cons_zero, List.set_cons_succ, dJ, eu]
       rfl
      refine nk (i := 2) (N := some 7) (v := ?_) (a' := ?_) (bA 6 5) rfl rfl (by kernel_rfl) (fun _ _ _ h => h) (Or.inl ⟨by rfl, ?_⟩) hHeld ?_ ?_; rotate_left
      ·rintro w' ⟨s0, s1, s2, s3, s4, s5⟩
       go_simp
       (with_reducible rfl)
      rotate_left
      ·simp only [Act.put, List.setIfInBounds_toArray, List.set_cons_zero, List.set_cons_succ, dJ, eu]
       rfl
      refine qO (i := 1) (N := some 6) (bA 6 7) rfl rfl (by kernel_rfl) (by decide) (fun K hK => ?_); refine iT Try.func84 (by kernel_rfl) rfl #[.agg #[.int .i64 aX, .int .i64 aU, .string aY]] (by rfl) rfl rfl zz8 ?_; (with_reducible refine (dM.calls aX aU aY tq xC xB _ A3.out).mono ?_); rintro e w69 ⟨rfl, hb⟩; refine ⟨_, rfl, ?_⟩; replace ak := ah.mk (aI (g := au) (o := .cells #[.int .i64 aX, .int .i64 aU, .string aY] 23 (0, 0)) zz4 hb); replace av := ah.mk (aI (g := ay) (o := .cells #[.int .i64 gQ, .int .i64 gP, .string gN] 23 (0, 0)) fK hb); replace HB := ah.mk (aA fF hb); (try clear hb); (try clear hb2); (try clear hk); (try clear hi); refine hK.out _ _ ⟨cK ak 0, cK ak 1, cK ak 2, cK av 0, cK av 1, cK av 2⟩ (fun hHeld => ?_); clear hK K; refine iV (a' := ?_) ?_ ?_; rotate_left
      ·show Act.put _ (some 6) _ = _
       simp only [Act.put, List.setIfInBounds_toArray, List.set_cons_zero, List.set_cons_succ, dJ, eu]
       rfl
      refine qO (i := 3) (N := some 8) (bA 6 15) rfl rfl (by kernel_rfl) (by decide) (fun K hK => ?_); refine iT Try.func84 (by kernel_rfl) rfl #[.agg #[.int .i64 gQ, .int .i64 gP, .string gN]] (by rfl) rfl rfl zz8 ?_; (with_reducible refine (dM.calls gQ gP gN sZ xA xw _ A4.out).mono ?_); rintro e w70 ⟨rfl, hb⟩; refine ⟨_, rfl, ?_⟩; replace ak := ah.mk (aI (g := au) (o := .cells #[.int .i64 aX, .int .i64 aU, .string aY] 23 (0, 0)) zz4 hb); replace av := ah.mk (aI (g := ay) (o := .cells #[.int .i64 gQ, .int .i64 gP, .string gN] 23 (0, 0)) fK hb); replace HB := ah.mk (aA fF hb); (try clear hb); (try clear hb2); (try clear hk); (try clear hi); refine hK.out _ _ ⟨cK ak 0, cK ak 1, cK ak 2, cK av 0, cK av 1, cK av 2⟩ (fun hHeld => ?_); clear hK K; refine iV (a' := ?_) ?_ ?_; rotate_left
      ·show Act.put _ (some 8) _ = _
       simp only [Act.put, List.setIfInBounds_toArray, List.set_cons_zero, List.set_cons_succ, dJ, eu]
       rfl
      refine pY (i := 4) (N := none) (bA 6 31) rfl rfl (by kernel_rfl) (by decide) (fun K hK => ?_); have hs71 : w70.cell? ⟨au, 0, none⟩ = some (.int .i64 aX) := cK ak 0; have hfs71 := aj ak.out 0; have hns71_1 := aW.out; have hms71_1 := aQ.out; have hs72 : w70.cell? ⟨au, 1, none⟩ = some (.int .i64 aU) := cK ak 1; have hfs72 := aj ak.out 1; have hns72_1 := aW.out; have hms72_1 := aQ.out; have hs73 : w70.cell? ⟨au, 2, none⟩ = some (.string aY) := cK ak 2; have hfs73 := aj ak.out 2; have hns73_1 := aW.out; have hms73_1 := aQ.out; refine nR (w1 := ?_) (by rfl) rfl ?_ ?_; rotate_left
      ·go_simp
       rfl
      refine hK.out _ _ ?_; clear hK K; refine pY (i := 5) (N := none) (bA 6 63) rfl rfl (by kernel_rfl) (by decide) (fun K hK => ?_); have hs74 : w70.cell? ⟨ay, 0, none⟩ = some (.int .i64 gQ) := cK av 0; have hfs74 := aj av.out 0; have hns74_0 := aQ.out; have hms74_0 := aW.out; have hs75 : w70.cell? ⟨ay, 1, none⟩ = some (.int .i64 gP) := cK av 1; have hfs75 := aj av.out 1; have hns75_0 := aQ.out; have hms75_0 := aW.out; have hs76 : w70.cell? ⟨ay, 2, none⟩ = some (.string gN) := cK av 2; have hfs76 := aj av.out 2; have hns76_0 := aQ.out; have hms76_0 := aW.out; refine nR (w1 := ?_) (by rfl) rfl ?_ ?_; rotate_left
      ·go_simp
       rfl
      refine hK.out _ _ ?_; clear hK K; refine kJ (by kernel_rfl) ?_; have hnb77 := aQ.out; have hnc77 := aW.out; have hcz78_0 : w70.cell? ⟨au, 0, none⟩ = some (.int .i64 aX) := cK ak 0; have hcz78_1 : w70.cell? ⟨au, 1, none⟩ = some (.int .i64 aU) := cK ak 1; have hcz78_2 : w70.cell? ⟨au, 2, none⟩ = some (.string aY) := cK ak 2; have hfz78_0 := aj ak.out 0; have hfz78_1 := aj ak.out 1; have hfz78_2 := aj ak.out 2; have hcz79_0 : w70.cell? ⟨ay, 0, none⟩ = some (.int .i64 gQ) := cK av 0; have hcz79_1 : w70.cell? ⟨ay, 1, none⟩ = some (.int .i64 gP) := cK av 1; have hcz79_2 : w70.cell? ⟨ay, 2, none⟩ = some (.string gN) := cK av 2; have hfz79_0 := aj av.out 0; have hfz79_1 := aj av.out 1; have hfz79_2 := aj av.out 2
      try go_wp2
      (try (· (rename_i hx_; exfalso; simp only [IL, Bool.true_and, Bool.and_eq_false_iff] at qd; simp [hx_.1, hx_.2] at qd)))
      go_ret
      exact ⟨zz6, fF⟩
   ·rw [if_neg c35] at H; have IL : (tq == sZ) = false := beq_eq_false_iff_ne.mpr c35; have c35b1 : (tq != sZ) = true := bne_iff_ne.mpr c35; obtain rfl := Option.some.inj H
    go_enter Try.func114, Try.ntmps114
    try go_wp2_with (first | ((with_reducible refine bD (N := 2) rfl ?_); refine bq ?hg (N := 2) ?hd (cs := #[.int .i64 aX, .int .i64 aU, .string aY]) (t := 23) ?hr ?_; (case hd => rfl); (case hg => rfl); (case hr => first | (go_simp; done) | (go_simp; rfl)); intro au hg w80 bF hb; have ak := ah.mk (bF); have fO := ah.mk ((zz0 : w.heap.size ≤ au)); have fD := ah.mk ((zz0 : w.heap.size ≤ au)); replace HB := ah.mk (aA zz1 hb); clear hb bF hg) | ((with_reducible refine bD (N := 3) rfl ?_); refine bq ?hg (N := 3) ?hd (cs := #[.int .i64 gQ, .int .i64 gP, .string gN]) (t := 23) ?hr ?_; (case hd => rfl); (case hg => rfl); (case hr => first | (go_simp; done) | (go_simp; rfl)); intro ay hg w81 bF hb; have av := ah.mk (bF); have iX := ah.mk ((jK : w.heap.size ≤ ay)); have iC := ah.mk ((jK : w.heap.size ≤ ay)); replace HB := ah.mk (aA zz5 hb); have aQ := ah.mk ((CU : au ≠ ay)); have aW := ah.mk ((CS : ay ≠ au)); replace ak := ah.mk (aI (g := au) (o := .cells #[.int .i64 aX, .int .i64 aU, .string aY] 23 (0, 0)) zz4 hb); clear hb bF hg))
    replace ak := ah.mk (aK ak.out); replace av := ah.mk (aK av.out); replace HB := ah.mk (bG HB.out); refine jd (n := 6) (S := fun w' => w'.cell? ⟨au, 0, none⟩ = some (.int .i64 aX) ∧ w'.cell? ⟨au, 1, none⟩ = some (.int .i64 aU) ∧ w'.cell? ⟨au, 2, none⟩ = some (.string aY) ∧ w'.cell? ⟨ay, 0, none⟩ = some (.int .i64 gQ) ∧ w'.cell? ⟨ay, 1, none⟩ = some (.int .i64 gP) ∧ w'.cell? ⟨ay, 2, none⟩ = some (.string gN)) (ds := [4, 5]) (.replicate 6 false) (by kernel_rfl) rfl rfl ⟨cK ak 0, cK ak 1, cK ak 2, cK av 0, cK av 1, cK av 2⟩ (fun hHeld => ?_); generalize w81.drew = w82 at ak av HB hHeld ⊢; refine nk (i := 0) (N := some 5) (v := ?_) (a' := ?_) (bA 6 1) rfl rfl (by kernel_rfl) (fun _ _ _ h => h) (Or.inl ⟨by rfl, ?_⟩) hHeld ?_ ?_; rotate_left
    ·rintro w' ⟨s0, s1, s2, s3, s4, s5⟩
     go_simp
     (with_reducible rfl)
    rotate_left
    ·simp only [Act.put, List.setIfInBounds_toArray, List.set_cons_zero, List.set_cons_succ, dJ, eu]
     rfl
    refine nk (i := 2) (N := some 7) (v := ?_) (a' := ?_) (bA 6 5) rfl rfl (by kernel_rfl) (fun _ _ _ h => h) (Or.inl ⟨by rfl, ?_⟩) hHeld ?_ ?_; rotate_left
    ·rintro w' ⟨s0, s1, s2, s3, s4, s5⟩
     go_simp
     (with_reducible rfl)
    rotate_left
    ·simp only [Act.put, List.setIfInBounds_toArray, List.set_cons_zero, List.set_cons_succ, dJ, eu]
     rfl
    refine qO (i := 1) (N := some 6) (bA 6 7) rfl rfl (by kernel_rfl) (by decide) (fun K hK => ?_); refine iT Try.func84 (by kernel_rfl) rfl #[.agg #[.int .i64 aX, .int .i64 aU, .string aY]] (by rfl) rfl rfl zz8 ?_; (with_reducible refine (dM.calls aX aU aY tq xC xB _ A3.out).mono ?_); rintro e w83 ⟨rfl, hb⟩; refine ⟨_, rfl, ?_⟩; replace ak := ah.mk (aI (g := au) (o := .cells #[.int .i64 aX, .int .i64 aU, .string aY] 23 (0, 0)) zz4 hb); replace av := ah.mk (aI (g := ay) (o := .cells #[.int .i64 gQ, .int .i64 gP, .string gN] 23 (0, 0)) fK hb); replace HB := ah.mk (aA fF hb); (try clear hb); (try clear hb2); (try clear hk); (try clear hi); refine hK.out _ _ ⟨cK ak 0, cK ak 1, cK ak 2, cK av 0, cK av 1, cK av 2⟩ (fun hHeld => ?_); clear hK K; refine iV (a' := ?_) ?_ ?_; rotate_left
    ·show Act.put _ (some 6) _ = _
     simp only [Act.put, List.setIfInBounds_toArray, List.set_cons_zero, List.set_cons_succ, dJ, eu]
     rfl
    refine qO (i := 3) (N := some 8) (bA 6 15) rfl rfl (by kernel_rfl) (by decide) (fun K hK => ?_); refine iT Try.func84 (by kernel_rfl) rfl #[.agg #[.int .i64 gQ, .int .i64 gP, .string gN]] (by rfl) rfl rfl zz8 ?_; (with_reducible refine (dM.calls gQ gP gN sZ xA xw _ A4.out).mono ?_); rintro e w84 ⟨rfl, hb⟩; refine ⟨_, rfl, ?_⟩; replace ak := ah.mk (aI (g := au) (o := .cells #[.int .i64 aX, .int .i64 aU, .string aY] 23 (0, 0)) zz4 hb); replace av := ah.mk (aI (g := ay) (o := .cells #[.int .i64 gQ, .int .i64 gP, .string gN] 23 (0, 0)) fK hb); replace HB := ah.mk (aA fF hb); (try clear hb); (try clear hb2); (try clear hk); (try clear hi); refine hK.out _ _ ⟨cK ak 0, cK ak 1, cK ak 2, cK av 0, cK av 1, cK av 2⟩ (fun hHeld => ?_); clear hK K; refine iV (a' := ?_) ?_ ?_; rotate_left
    ·show Act.put _ (some 8) _ = _
     simp only [Act.put, List.setIfInBounds_toArray, List.set_cons_zero, List.set_cons_succ, dJ, eu]
     rfl
    refine pY (i := 4) (N := none) (bA 6 31) rfl rfl (by kernel_rfl) (by decide) (fun K hK => ?_); have hs85 : w84.cell? ⟨au, 0, none⟩ = some (.int .i64 aX) := cK ak 0; have hfs85 := aj ak.out 0; have hns85_1 := aW.out; have hms85_1 := aQ.out; have hs86 : w84.cell? ⟨au, 1, none⟩ = some (.int .i64 aU) := cK ak 1; have hfs86 := aj ak.out 1; have hns86_1 := aW.out; have hms86_1 := aQ.out; have hs87 : w84.cell? ⟨au, 2, none⟩ = some (.string aY) := cK ak 2; have hfs87 := aj ak.out 2; have hns87_1 := aW.out; have hms87_1 := aQ.out; refine nR (w1 := ?_) (by rfl) rfl ?_ ?_; rotate_left
    ·go_simp
     rfl
    refine hK.out _ _ ?_; clear hK K; refine pY (i := 5) (N := none) (bA 6 63) rfl rfl (by kernel_rfl) (by decide) (fun K hK => ?_); have hs88 : w84.cell? ⟨ay, 0, none⟩ = some (.int .i64 gQ) := cK av 0; have hfs88 := aj av.out 0; have hns88_0 := aQ.out; have hms88_0 := aW.out; have hs89 : w84.cell? ⟨ay, 1, none⟩ = some (.int .i64 gP) := cK av 1; have hfs89 := aj av.out 1; have hns89_0 := aQ.out; have hms89_0 := aW.out; have hs90 : w84.cell? ⟨ay, 2, none⟩ = some (.string gN) := cK av 2; have hfs90 := aj av.out 2; have hns90_0 := aQ.out; have hms90_0 := aW.out; refine nR (w1 := ?_) (by rfl) rfl ?_ ?_; rotate_left
    ·go_simp
     rfl
    refine hK.out _ _ ?_; clear hK K; refine kJ (by kernel_rfl) ?_; have hnb91 := aQ.out; have hnc91 := aW.out; have hcz92_0 : w84.cell? ⟨au, 0, none⟩ = some (.int .i64 aX) := cK ak 0; have hcz92_1 : w84.cell? ⟨au, 1, none⟩ = some (.int .i64 aU) := cK ak 1; have hcz92_2 : w84.cell? ⟨au, 2, none⟩ = some (.string aY) := cK ak 2; have hfz92_0 := aj ak.out 0; have hfz92_1 := aj ak.out 1; have hfz92_2 := aj ak.out 2; have hcz93_0 : w84.cell? ⟨ay, 0, none⟩ = some (.int .i64 gQ) := cK av 0; have hcz93_1 : w84.cell? ⟨ay, 1, none⟩ = some (.int .i64 gP) := cK av 1; have hcz93_2 : w84.cell? ⟨ay, 2, none⟩ = some (.string gN) := cK av 2; have hfz93_0 := aj av.out 0; have hfz93_1 := aj av.out 1; have hfz93_2 := aj av.out 2
    try go_wp2
    (try (· (rename_i hx_; exfalso; simp only [IL, Bool.true_and, Bool.and_eq_false_iff] at qd; simp [hx_.1, hx_.2] at qd)))
    go_ret
    exact ⟨zz6, fF⟩
mutual
def aV.l0 : Nat → List (S23) → List (S23) → Int → Option (Int)
 | 0, _, _, _ => none
 | k + 1, x0, x1, x5 => if x5 < (x0.length : Int) then (aV.j1 k x0 x1 x5 (decide (x5 < (x1.length : Int)))) else (aV.j1 k x0 x1 x5 false)
def aV.j1 : Nat → List (S23) → List (S23) → Int → Bool → Option (Int)
 | 0, _, _, _, _ => none
 | k + 1, x0, x1, x5, x16 => if x16 = true then (if 0 ≤ x5 then (if x5 < (x0.length : Int) then (if x5 < (x1.length : Int) then ((jQ.f ((aN x0 x5).f0) ((aN x0 x5).f1) ((aN x0 x5).f2) ((aN x1 x5).f0) ((aN x1 x5).f1) ((aN x1 x5).f2)).bind fun Ig => (if Ig = 0 then (aV.l0 k x0 x1 (wrap64 (x5 + 1))) else (some Ig))) else (none)) else (none)) else (none)) else (if (x0.length : Int) < (x1.length : Int) then (some (-1)) else (if (x0.length : Int) > (x1.length : Int) then (some 1) else (some 0)))
end
def aV.f (k : Nat) (l0 : List (S23)) (l1 : List (S23)) : Option (Int) := aV.l0 k l0 l1 0
theorem aV.gM : ∀ k, (∀ y0 y1 y2, LeO (aV.l0 k y0 y1 y2) (aV.l0 (k + 1) y0 y1 y2)) ∧ (∀ y0 y1 y2 y3, LeO (aV.j1 k y0 y1 y2 y3) (aV.j1 (k + 1) y0 y1 y2 y3))
 | 0 => ⟨fun _ _ _ r h => by simp [aV.l0] at h, fun _ _ _ _ r h => by simp [aV.j1] at h⟩
 | k + 1 => by
  obtain ⟨ih0, ih1⟩ := aV.gM k; refine ⟨?_, ?_⟩
  ·intro y0 y1 y2; unfold aV.l0
   repeat' first
   | (with_reducible exact ih0 _ _ _)
   | (with_reducible exact ih1 _ _ _ _)
   | (with_reducible exact LeO.refl _)
   | (with_reducible exact LeO.none _)
   | (with_reducible refine LeO.ite ?_ ?_)
   | (with_reducible refine LeO.bind ?_ (fun _ => ?_))
   | exact ih0 _ _ _
   | exact ih1 _ _ _ _
   | exact LeO.none _
   | refine LeO.ite ?_ ?_
   | refine LeO.bind ?_ (fun _ => ?_)
  ·intro y0 y1 y2 y3; unfold aV.j1
   repeat' first
   | (with_reducible exact ih0 _ _ _)
   | (with_reducible exact ih1 _ _ _ _)
   | (with_reducible exact LeO.refl _)
   | (with_reducible exact LeO.none _)
   | (with_reducible refine LeO.ite ?_ ?_)
   | (with_reducible refine LeO.bind ?_ (fun _ => ?_))
   | exact ih0 _ _ _
   | exact ih1 _ _ _ _
   | exact LeO.none _
   | refine LeO.ite ?_ ?_
   | refine LeO.bind ?_ (fun _ => ?_)
theorem aV.mono : ∀ a0 a1 k, LeO (aV.f k a0 a1) (aV.f (k + 1) a0 a1) := by
 intro a0 a1 k; obtain ⟨ih0, ih1⟩ := aV.gM k; unfold aV.f
 repeat' first
   | (with_reducible exact ih0 _ _ _)
   | (with_reducible exact ih1 _ _ _ _)
   | (with_reducible exact LeO.refl _)
   | (with_reducible exact LeO.none _)
   | (with_reducible refine LeO.ite ?_ ?_)
   | (with_reducible refine LeO.bind ?_ (fun _ => ?_))
   | exact ih0 _ _ _
   | exact ih1 _ _ _ _
   | exact LeO.none _
   | refine LeO.ite ?_ ?_
   | refine LeO.bind ?_ (fun _ => ?_)
def aV.T4 : Bool × List (List Nat × List Nat) := (true, [([], []), ([], []), ([0, 1], [0, 1]), ([2], [2]), ([], []), ([], []), ([4, 5], [4, 5]), ([6], [6]), ([3, 7], [3, 7]), ([8, 8, 0, 1, 2, 3, 4, 5, 6, 7, 8], [8])])
def aV.B4 : List Nat := [0, 0, 3, 7, 0, 0, 48, 112, 255, 511]
theorem aV.Ie : kD .any (opsOf Try.f93 4) = aV.T4 := by kernel_rfl
theorem aV.zI : jS aV.T4.2 aV.B4 = true := by kernel_rfl
set_option maxHeartbeats 8000000 in
set_option maxRecDepth 100000 in
theorem aV.calls (k : Nat) (A0 : Option Addr) (c0 : Nat) (l0 : List (S23)) (A1 : Option Addr) (c1 : Nat) (l1 : List (S23)) (r : Int) (w : World) (hr0 : Kd.C k23 w A0 l0.length l0) (hc0 : l0.length ≤ c0) (hr1 : Kd.C k23 w A1 l1.length l1) (hc1 : l1.length ≤ c1) (h : aV.f k l0 l1 = some r) :
  Calls Try.prog 93 #[.slice A0 l0.length c0, .slice A1 l1.length c1] w fun e w' => e = .returned (.int .i64 r) ∧ Below w.heap.size w w' := by
 have sJ := Try.underlying23; have HR0 := ah.mk hr0; have HC0 := ah.mk hc0; clear hr0 hc0; have HR1 := ah.mk hr1; have HC1 := ah.mk hc1; clear hr1 hc1; have HB := ah.mk (Below.refl w.heap.size w); have H := h; clear h
 dsimp only [aV.f] at H
 have H' := ah.mk H; clear H
 go_enter Try.func93, Try.ntmps93
 go_wp2
 go_loopg [5] k (fun kq v5 w' => ∃ (eB : Int), v5 = .int .i64 eB ∧ ah (aV.l0 kq l0 l1 eB = some r) ∧ ah (kq ≤ k) ∧ ah (Below w.heap.size w w'))
 case atStart => exact ⟨(0), zz2, H', ⟨Nat.le_refl _⟩, ⟨zz1⟩⟩
 case round =>
  clear H'; (try clear c1); (try clear p2); obtain ⟨eB, rfl, HA, HK1, HB⟩ := hrel
  cases gk with
  | zero => exact absurd HA.out (by simp [aV.l0])
  | succ k1 =>
   have H := HA.out; clear HA; simp only [aV.l0] at H; have HC3 := ah.mk H; clear H
   go_upto_region 2 with (fail)
   go_cut [16] (fun v16 wc => ∃ (kq : Nat) (RA : Bool), v16 = .bool RA ∧ ah (aV.j1 kq l0 l1 eB RA = some r) ∧ ah (kq ≤ k1) ∧ ah (Below w.heap.size w wc))
   case first =>
    have H := HC3.out; clear HC3
    by_cases c4 : eB < (l0.length : Int)
    ·rw [if_pos c4] at H; have lI : decide (eB < (l0.length : Int)) = true := decide_eq_true c4; clear c4; (first | rw [lI] | (simp only [dJ, eu]; rw [lI]) | skip); have H' := ah.mk H; clear H
     go_wp2
     go_meet
     case rel => exact ⟨_, (decide (eB < (l1.length : Int))), zz2, H', ⟨Ub⟩, ⟨zz1⟩⟩
    ·rw [if_neg c4] at H; have lI : decide (eB < (l0.length : Int)) = false := decide_eq_false c4; clear c4; (first | rw [lI] | (simp only [dJ, eu]; rw [lI]) | skip); have H' := ah.mk H; clear H
     go_wp2
     go_meet
     case rel => exact ⟨_, (false), zz2, H', ⟨Ub⟩, ⟨zz1⟩⟩
   case rest =>
    clear HC3; (try clear c1); (try clear p2); (try clear c4); (try clear lI); (try clear p2); obtain ⟨kq, RA, rfl, HA, HJ2, HB⟩ := hcut
    cases kq with
    | zero => exact absurd HA.out (by simp [aV.j1])
    | succ kj2 =>
     have H := HA.out; clear HA; simp only [aV.j1] at H
     by_cases c5 : RA = true
     ·subst c5; rw [if_pos rfl] at H
      by_cases c6 : 0 ≤ eB
      ·rw [if_pos c6] at H; have qD : decide (0 ≤ eB) = true := decide_eq_true c6; clear c6
       by_cases c7 : eB < (l0.length : Int)
       ·rw [if_pos c7] at H; have pJ : decide (eB < (l0.length : Int)) = true := decide_eq_true c7; clear c7
        by_cases c8 : eB < (l1.length : Int)
        ·rw [if_pos c8] at H; have oq : decide (eB < (l1.length : Int)) = true := decide_eq_true c8; clear c8; replace H := Option.bind_eq_some_iff.mp H; obtain ⟨Ig, A90, H⟩ := H; have A9 := ah.mk A90; clear A90
         by_cases c10 : Ig = 0
         ·rw [if_pos c10] at H; have wT : (Ig == 0) = true := beq_iff_eq.mpr c10; have c10b1 : (Ig != 0) = false := bne_eq_false_iff_eq.mpr c10; clear c10; have H' := ah.mk H; clear H
          try go_wp2
          replace HB := ah.mk (bG HB.out); have Po : 0 ≤ (eB : Int) := of_decide_eq_true zz9; have OZ : eB < (l0.length : Int) := of_decide_eq_true zz9; obtain ⟨xY, e374, q8, qZ, qY⟩ := mo HR0.out eB Po OZ; have Bj := qY; have Bl := qZ; have Bn := q8
          cases e374
          replace q8 := cB HB q8; replace qZ := cB HB qZ; replace qY := cB HB qY; replace Po := eq_true Po; replace OZ := eq_true OZ; have Pn : 0 ≤ (eB : Int) := of_decide_eq_true zz9; have OY : eB < (l1.length : Int) := of_decide_eq_true zz9; obtain ⟨xX, e375, qX, qW, qV⟩ := mo HR1.out eB Pn OY; have Bf := qV; have Bg := qW; have Bh := qX
          cases e375
          replace qX := cB HB qX; replace qW := cB HB qW; replace qV := cB HB qV; replace Pn := eq_true Pn; replace OY := eq_true OY; refine jd (n := 10) (S := fun w' => w'.cell? (xY.add ((eB).toNat * 3)) = some (.int .i64 ((aN l0 eB).f0)) ∧ w'.cell? ⟨(xY.add ((eB).toNat * 3)).block, (xY.add ((eB).toNat * 3)).off + 1, none⟩ = some (.int .i64 ((aN l0 eB).f1)) ∧ w'.cell? ⟨(xY.add ((eB).toNat * 3)).block, (xY.add ((eB).toNat * 3)).off + 2, none⟩ = some (.string ((aN l0 eB).f2)) ∧ w'.cell? (xX.add ((eB).toNat * 3)) = some (.int .i64 ((aN l1 eB).f0)) ∧ w'.cell? ⟨(xX.add ((eB).toNat * 3)).block, (xX.add ((eB).toNat * 3)).off + 1, none⟩ = some (.int .i64 ((aN l1 eB).f1)) ∧ w'.cell? ⟨(xX.add ((eB).toNat * 3)).block, (xX.add ((eB).toNat * 3)).off + 2, none⟩ = some (.string ((aN l1 eB).f2))) (ds := []) (.replicate 10 false) (by kernel_rfl) rfl rfl ⟨(cB HB Bn), (cB HB Bl), (cB HB Bj), (cB HB Bh), (cB HB Bg), (cB HB Bf)⟩ (fun hHeld => ?_); refine iE aV.Ie aV.zI (fun HT_ HW_ => ?_); generalize wc.drew = w11 at HB q8 qZ qY qX qW qV hHeld ⊢; refine pV 0 19 (bA 10 1) HT_ ?_; refine pV 1 20 (bA 10 3) HT_ ?_; refine pV 2 21 (bA 10 7) HT_ ?_; refine pV 4 23 (bA 10 23) HT_ ?_; refine pV 5 24 (bA 10 55) HT_ ?_; refine pV 6 25 (bA 10 119) HT_ ?_; refine tV (v := ?_) 3 22 (bA 10 127) HT_ HW_ hHeld ?_ ?_; rotate_left
          ·rintro w' ⟨s0, s1, s2, s3, s4, s5⟩
           go_simp
           (with_reducible rfl)
          refine tV (v := ?_) 7 26 (bA 10 255) HT_ HW_ hHeld ?_ ?_; rotate_left
          ·rintro w' ⟨s0, s1, s2, s3, s4, s5⟩
           go_simp
           (with_reducible rfl)
          refine oN 8 27 (bA 10 511) HT_ (fun K hK => ?_); refine iT Try.func114 (by kernel_rfl) rfl #[.agg #[.int .i64 ((aN l0 eB).f0), .int .i64 ((aN l0 eB).f1), .string ((aN l0 eB).f2)], .agg #[.int .i64 ((aN l1 eB).f0), .int .i64 ((aN l1 eB).f1), .string ((aN l1 eB).f2)]] (by rfl) rfl rfl zz8 ?_; (with_reducible refine (jQ.calls ((aN l0 eB).f0) ((aN l0 eB).f1) ((aN l0 eB).f2) ((aN l1 eB).f0) ((aN l1 eB).f1) ((aN l1 eB).f2) Ig _ A9.out).mono ?_); rintro e w12 ⟨rfl, hb⟩; refine ⟨_, rfl, ?_⟩; replace HB := ah.mk (aA zz1 hb); (try clear hb); (try clear hb2); (try clear hk); (try clear hi); refine hK.out _ _ ⟨(cB HB Bn), (cB HB Bl), (cB HB Bj), (cB HB Bh), (cB HB Bg), (cB HB Bf)⟩ (fun hHeld => ?_); clear hK K; refine iV (a' := ?_) ?_ ?_; rotate_left
          ·show Act.put _ (some 27) _ = _
           simp only [Act.put, List.setIfInBounds_toArray, List.set_cons_zero, List.set_cons_succ, dJ, eu]
           rfl
          refine pV 9 6 (bA 10 1023) HT_ ?_; refine kJ (j5 HT_.out (by kernel_rfl)) ?_
          try go_wp2
          go_roundg kj2
          case measure => have := HK1.out; have := HJ2.out; omega
          case rel => exact ⟨(wrap64 (eB + 1)), zz2, H', ⟨by have := HK1.out; have := HJ2.out; omega⟩, ⟨zz1⟩⟩
         ·rw [if_neg c10] at H; have wT : (Ig == 0) = false := beq_eq_false_iff_ne.mpr c10; have c10b1 : (Ig != 0) = true := bne_iff_ne.mpr c10; obtain rfl := Option.some.inj H
          try go_wp2
          replace HB := ah.mk (bG HB.out); have Po : 0 ≤ (eB : Int) := of_decide_eq_true zz9; have OZ : eB < (l0.length : Int) := of_decide_eq_true zz9; obtain ⟨xY, e374, q8, qZ, qY⟩ := mo HR0.out eB Po OZ; have Bj := qY; have Bl := qZ; have Bn := q8
          cases e374
          replace q8 := cB HB q8; replace qZ := cB HB qZ; replace qY := cB HB qY; replace Po := eq_true Po; replace OZ := eq_true OZ; have Pn : 0 ≤ (eB : Int) := of_decide_eq_true zz9; have OY : eB < (l1.length : Int) := of_decide_eq_true zz9; obtain ⟨xX, e375, qX, qW, qV⟩ := mo HR1.out eB Pn OY; have Bf := qV; have Bg := qW; have Bh := qX
          cases e375
          replace qX := cB HB qX; replace qW := cB HB qW; replace qV := cB HB qV; replace Pn := eq_true Pn; replace OY := eq_true OY; refine jd (n := 10) (S := fun w' => w'.cell? (xY.add ((eB).toNat * 3)) = some (.int .i64 ((aN l0 eB).f0)) ∧ w'.cell? ⟨(xY.add ((eB).toNat * 3)).block, (xY.add ((eB).toNat * 3)).off + 1, none⟩ = some (.int .i64 ((aN l0 eB).f1)) ∧ w'.cell? ⟨(xY.add ((eB).toNat * 3)).block, (xY.add ((eB).toNat * 3)).off + 2, none⟩ = some (.string ((aN l0 eB).f2)) ∧ w'.cell? (xX.add ((eB).toNat * 3)) = some (.int .i64 ((aN l1 eB).f0)) ∧ w'.cell? ⟨(xX.add ((eB).toNat * 3)).block, (xX.add ((eB).toNat * 3)).off + 1, none⟩ = some (.int .i64 ((aN l1 eB).f1)) ∧ w'.cell? ⟨(xX.add ((eB).toNat * 3)).block, (xX.add ((eB).toNat * 3)).off + 2, none⟩ = some (.string ((aN l1 eB).f2))) (ds := []) (.replicate 10 false) (by kernel_rfl) rfl rfl ⟨(cB HB Bn), (cB HB Bl), (cB HB Bj), (cB HB Bh), (cB HB Bg), (cB HB Bf)⟩ (fun hHeld => ?_); refine iE aV.Ie aV.zI (fun HT_ HW_ => ?_); generalize wc.drew = w13 at HB q8 qZ qY qX qW qV hHeld ⊢; refine pV 0 19 (bA 10 1) HT_ ?_; refine pV 1 20 (bA 10 3) HT_ ?_; refine pV 2 21 (bA 10 7) HT_ ?_; refine pV 4 23 (bA 10 23) HT_ ?_; refine pV 5 24 (bA 10 55) HT_ ?_; refine pV 6 25 (bA 10 119) HT_ ?_; refine tV (v := ?_) 3 22 (bA 10 127) HT_ HW_ hHeld ?_ ?_; rotate_left
          ·rintro w' ⟨s0, s1, s2, s3, s4, s5⟩
           go_simp
           (with_reducible rfl)
          refine tV (v := ?_) 7 26 (bA 10 255) HT_ HW_ hHeld ?_ ?_; rotate_left
          ·rintro w' ⟨s0, s1, s2, s3, s4, s5⟩
           go_simp
           (with_reducible rfl)
          refine oN 8 27 (bA 10 511) HT_ (fun K hK => ?_); refine iT Try.func114 (by kernel_rfl) rfl #[.agg #[.int .i64 ((aN l0 eB).f0), .int .i64 ((aN l0 eB).f1), .string ((aN l0 eB).f2)], .agg #[.int .i64 ((aN l1 eB).f0), .int .i64 ((aN l1 eB).f1), .string ((aN l1 eB).f2)]] (by rfl) rfl rfl zz8 ?_; (with_reducible refine (jQ.calls ((aN l0 eB).f0) ((aN l0 eB).f1) ((aN l0 eB).f2) ((aN l1 eB).f0) ((aN l1 eB).f1) ((aN l1 eB).f2) Ig _ A9.out).mono ?_); rintro e w14 ⟨rfl, hb⟩; refine ⟨_, rfl, ?_⟩; replace HB := ah.mk (aA zz1 hb); (try clear hb); (try clear hb2); (try clear hk); (try clear hi); refine hK.out _ _ ⟨(cB HB Bn), (cB HB Bl), (cB HB Bj), (cB HB Bh), (cB HB Bg), (cB HB Bf)⟩ (fun hHeld => ?_); clear hK K; refine iV (a' := ?_) ?_ ?_; rotate_left
          ·show Act.put _ (some 27) _ = _
           simp only [Act.put, List.setIfInBounds_toArray, List.set_cons_zero, List.set_cons_succ, dJ, eu]
           rfl
          refine pV 9 6 (bA 10 1023) HT_ ?_; refine kJ (j5 HT_.out (by kernel_rfl)) ?_
          try go_wp2
          go_ret
          exact ⟨zz6, zz1⟩
        ·rw [if_neg c8] at H; exact absurd H (by simp)
       ·rw [if_neg c7] at H; exact absurd H (by simp)
      ·rw [if_neg c6] at H; exact absurd H (by simp)
     ·replace c5 := Bool.eq_false_iff.mpr c5; subst c5; rw [if_neg (show ¬ (false = true) by decide)] at H
      by_cases c15 : (l0.length : Int) < (l1.length : Int)
      ·rw [if_pos c15] at H; have IV : decide ((l0.length : Int) < (l1.length : Int)) = true := decide_eq_true c15; have Tv : decide (l0.length < l1.length) = true := decide_eq_true (Int.ofNat_lt.mp c15); clear c15; obtain rfl := Option.some.inj H
       go_wp2
       go_ret
       exact ⟨zz6, zz1⟩
      ·rw [if_neg c15] at H; have IV : decide ((l0.length : Int) < (l1.length : Int)) = false := decide_eq_false c15; have Tv : decide (l0.length < l1.length) = false := decide_eq_false (fun h => c15 (Int.ofNat_lt.mpr h)); clear c15
       by_cases c16 : (l0.length : Int) > (l1.length : Int)
       ·rw [if_pos c16] at H; have l8 : decide ((l1.length : Int) < (l0.length : Int)) = true := decide_eq_true c16; have wS : decide (l1.length < l0.length) = true := decide_eq_true (Int.ofNat_lt.mp c16); clear c16; obtain rfl := Option.some.inj H
        go_wp2
        go_ret
        exact ⟨zz6, zz1⟩
       ·rw [if_neg c16] at H; have l8 : decide ((l1.length : Int) < (l0.length : Int)) = false := decide_eq_false c16; have wS : decide (l1.length < l0.length) = false := decide_eq_false (fun h => c16 (Int.ofNat_lt.mpr h)); clear c16; obtain rfl := Option.some.inj H
        go_wp2
        go_ret
        exact ⟨zz6, zz1⟩
mutual
def aZ.l0 : Nat → List (S51) → List (S51) → List (S51) → Int → Int → Option ((List (S51)))
 | 0, _, _, _, _, _ => none
 | k + 1, x0, x1, x5, x6, x7 => if x6 < (x0.length : Int) then (aZ.j1 k x0 x1 x5 x6 x7 true) else (aZ.j1 k x0 x1 x5 x6 x7 (decide (x7 < (x1.length : Int))))
def aZ.j1 : Nat → List (S51) → List (S51) → List (S51) → Int → Int → Bool → Option ((List (S51)))
 | 0, _, _, _, _, _, _ => none
 | k + 1, x0, x1, x5, x6, x7, x19 => if x19 = true then (if x6 = (x0.length : Int) then (aZ.j2 k x0 x1 x5 x6 x7 1) else (if x7 = (x1.length : Int) then (aZ.j2 k x0 x1 x5 x6 x7 (-1)) else (if 0 ≤ x6 then (if x6 < (x0.length : Int) then (if 0 ≤ x7 then (if x7 < (x1.length : Int) then ((aV.f k ((aH x0 x6).f0) ((aH x1 x7).f0)).bind fun t379 => (aZ.j2 k x0 x1 x5 x6 x7 t379)) else (none)) else (none)) else (none)) else (none)))) else (some x5)
def aZ.j2 : Nat → List (S51) → List (S51) → List (S51) → Int → Int → Int → Option ((List (S51)))
 | 0, _, _, _, _, _, _ => none
 | k + 1, x0, x1, x5, x6, x7, x8 => if x8 < 0 then (if 0 ≤ x6 then (if x6 < (x0.length : Int) then (if x5.length < 4398046511104 then (aZ.l0 k x0 x1 (x5 ++ [(⟨(aH x0 x6).f0, (aH x0 x6).f1⟩ : S51)]) (wrap64 (x6 + 1)) x7) else (none)) else (none)) else (none)) else (if x8 > 0 then (if 0 ≤ x7 then (if x7 < (x1.length : Int) then (if x5.length < 4398046511104 then (aZ.l0 k x0 x1 (x5 ++ [(⟨(aH x1 x7).f0, (aH x1 x7).f1⟩ : S51)]) x6 (wrap64 (x7 + 1))) else (none)) else (none)) else (none)) else (if 0 ≤ x6 then (if x6 < (x0.length : Int) then (if 0 ≤ x7 then (if x7 < (x1.length : Int) then (if (wrap64 (((aH x0 x6).f1) + ((aH x1 x7).f1))) = 0 then (aZ.l0 k x0 x1 x5 (wrap64 (x6 + 1)) (wrap64 (x7 + 1))) else (if x5.length < 4398046511104 then (aZ.l0 k x0 x1 (x5 ++ [(⟨(aH x0 x6).f0, wrap64 (((aH x0 x6).f1) + ((aH x1 x7).f1))⟩ : S51)]) (wrap64 (x6 + 1)) (wrap64 (x7 + 1))) else (none))) else (none)) else (none)) else (none)) else (none)))
end
def aZ.f (k : Nat) (l0 : List (S51)) (l1 : List (S51)) : Option ((List (S51))) := aZ.l0 k l0 l1 ([] : List (S51)) 0 0
def aZ.T5 : Bool × List (List Nat × List Nat) := (true, [([], []), ([], []), ([0, 1], [0, 1]), ([2], [2]), ([3], [3]), ([], []), ([], []), ([5, 6], [5, 6]), ([7], [7]), ([8], [8]), ([4, 9], [4, 9]), ([10, 10, 0, 1, 2, 3, 4, 5, 6, 7, 8, 9, 10], [10])])
def aZ.B5 : List Nat := [0, 0, 3, 7, 15, 0, 0, 96, 224, 480, 1023, 2047]
theorem aZ.tab5 : kD .any (opsOf Try.f61 5) = aZ.T5 := by kernel_rfl
theorem aZ.NW : jS aZ.T5.2 aZ.B5 = true := by kernel_rfl
def aZ.T10 : Bool × List (List Nat × List Nat) := (true, [([], []), ([], []), ([0, 1], [0, 1]), ([2], [2]), ([3], [3]), ([], []), ([], []), ([5, 6], [5, 6]), ([7], [7]), ([8], [8]), ([4, 9], [4, 9]), ([10, 0, 1, 2, 3, 4, 5, 6, 7, 8, 9, 10], [10])])
def aZ.B10 : List Nat := [0, 0, 3, 7, 15, 0, 0, 96, 224, 480, 1023, 2047]
theorem aZ.tab10 : kD .any (opsOf Try.f61 10) = aZ.T10 := by kernel_rfl
theorem aZ.WC : jS aZ.T10.2 aZ.B10 = true := by kernel_rfl
set_option maxHeartbeats 8000000 in
set_option maxRecDepth 100000 in
theorem aZ.calls (k : Nat) (P0_ : Nat → Prop) (A0 : Option Addr) (c0 : Nat) (l0 : List (S51)) (P1_ : Nat → Prop) (A1 : Option Addr) (c1 : Nat) (l1 : List (S51)) (r : List (S51)) (w : World) (hs0 : Kd.V k51 51 w w.heap.size (fun k_ => P0_ k_) (.slice A0 l0.length c0) l0) (hs1 : Kd.V k51 51 w w.heap.size (fun k_ => P1_ k_) (.slice A1 l1.length c1) l1) (h : aZ.f k l0 l1 = some r) :
  Calls Try.prog 61 #[.slice A0 l0.length c0, .slice A1 l1.length c1] w fun e w' => ∃ v0_ : Value, e = .returned (v0_) ∧ Kd.N k51 51 w' w.heap.size (fun k_ => ((P0_ k_ ∨ P1_ k_) ∨ w.heap.size ≤ k_)) v0_ r ∧ Below w.heap.size w w' := by
 have Np := Try.underlying51; have HO0 := ah.mk (show Kd.V k51 51 w w.heap.size (fun k_ => ((P0_ k_ ∨ P1_ k_) ∨ w.heap.size ≤ k_)) (.slice A0 l0.length c0) l0 from Kd.jr hs0 (fun k_ hk => .inl (.inl hk))); have HO1 := ah.mk (show Kd.V k51 51 w w.heap.size (fun k_ => ((P0_ k_ ∨ P1_ k_) ∨ w.heap.size ≤ k_)) (.slice A1 l1.length c1) l1 from Kd.jr hs1 (fun k_ hk => .inl (.inr hk))); have HB := ah.mk (Below.refl w.heap.size w); have H := h; clear h
 dsimp only [aZ.f] at H
 have H' := ah.mk H; clear H
 go_enter Try.func61, Try.ntmps61
 go_wp2
 go_loopg [5, 6, 7] k (fun kq v5 v6 v7 w' => ∃ (eB : List (S51)) (gL : Int) (bR : Int), v6 = .int .i64 gL ∧ v7 = .int .i64 bR ∧ ah (aZ.l0 kq l0 l1 eB gL bR = some r) ∧ ah (kq ≤ k) ∧ ah (Kd.V k51 51 w' w.heap.size (fun k_ => ((P0_ k_ ∨ P1_ k_) ∨ w.heap.size ≤ k_) ∧ some k_ ≠ (v5 : Value).ownBlock) (.slice A0 l0.length c0) l0) ∧ ah (Kd.V k51 51 w' w.heap.size (fun k_ => ((P0_ k_ ∨ P1_ k_) ∨ w.heap.size ≤ k_) ∧ some k_ ≠ (v5 : Value).ownBlock) (.slice A1 l1.length c1) l1) ∧ ah (Kd.N k51 51 w' w.heap.size (fun k_ => ((P0_ k_ ∨ P1_ k_) ∨ w.heap.size ≤ k_)) v5 eB) ∧ ah (Below w.heap.size w w'))
 case atStart => exact ⟨(([] : List (S51))), (0), (0), zz2, zz2, H', ⟨Nat.le_refl _⟩, ⟨by (with_reducible repeat (first | apply Kd.iL | apply Kd.iH | apply Kd.gG)); exact Kd.jr HO0.out (fun _ hk => ⟨hk, (by simp [Value.ownBlock])⟩)⟩, ⟨by (with_reducible repeat (first | apply Kd.iL | apply Kd.iH | apply Kd.gG)); exact Kd.jr HO1.out (fun _ hk => ⟨hk, (by simp [Value.ownBlock])⟩)⟩, ⟨zz67⟩, ⟨zz1⟩⟩
 case round =>
  clear H'; (try clear c1); (try clear p2); obtain ⟨eB, gL, bR, rfl, rfl, HA, HK1, jX, jU, qL, HB⟩ := hrel
  cases gk with
  | zero => exact absurd HA.out (by simp [aZ.l0])
  | succ k1 =>
   have H := HA.out; clear HA; simp only [aZ.l0] at H; have HC3 := ah.mk H; clear H
   go_upto_region 3 with (fail)
   go_cut [19] (fun v19 wc => ∃ (kq : Nat) (Rv : Bool), v19 = .bool Rv ∧ ah (aZ.j1 kq l0 l1 eB gL bR Rv = some r) ∧ ah (kq ≤ k1) ∧ ah (Kd.V k51 51 wc w.heap.size (fun k_ => ((P0_ k_ ∨ P1_ k_) ∨ w.heap.size ≤ k_) ∧ some k_ ≠ (u5 : Value).ownBlock) (.slice A0 l0.length c0) l0) ∧ ah (Kd.V k51 51 wc w.heap.size (fun k_ => ((P0_ k_ ∨ P1_ k_) ∨ w.heap.size ≤ k_) ∧ some k_ ≠ (u5 : Value).ownBlock) (.slice A1 l1.length c1) l1) ∧ ah (Kd.N k51 51 wc w.heap.size (fun k_ => ((P0_ k_ ∨ P1_ k_) ∨ w.heap.size ≤ k_)) u5 eB) ∧ ah (Below w.heap.size w wc))
   case first =>
    have H := HC3.out; clear HC3
    by_cases c4 : gL < (l0.length : Int)
    ·rw [if_pos c4] at H; have lI : decide (gL < (l0.length : Int)) = true := decide_eq_true c4; clear c4; (first | rw [lI] | (simp only [dJ, eu]; rw [lI]) | skip); have H' := ah.mk H; clear H
     go_wp2
     go_meet
     case rel => exact ⟨_, (true), zz2, H', ⟨Ub⟩, ⟨uF⟩, ⟨CP⟩, ⟨FT⟩, ⟨zz1⟩⟩
    ·rw [if_neg c4] at H; have lI : decide (gL < (l0.length : Int)) = false := decide_eq_false c4; clear c4; (first | rw [lI] | (simp only [dJ, eu]; rw [lI]) | skip); have H' := ah.mk H; clear H
     go_wp2
     go_meet
     case rel => exact ⟨_, (decide (bR < (l1.length : Int))), zz2, H', ⟨Ub⟩, ⟨uF⟩, ⟨CP⟩, ⟨FT⟩, ⟨zz1⟩⟩
   case rest =>
    clear HC3; (try clear c1); (try clear p2); (try clear c4); (try clear lI); (try clear p2); obtain ⟨kq, Rv, rfl, HA, HJ2, jX, jU, qL, HB⟩ := hcut
    cases kq with
    | zero => exact absurd HA.out (by simp [aZ.j1])
    | succ kj2 =>
     have H := HA.out; clear HA; simp only [aZ.j1] at H
     by_cases c5 : Rv = true
     ·subst c5; rw [if_pos rfl] at H; have HC6 := ah.mk H; clear H
      go_upto_block 2 with (fail)
      go_cut [8] (fun v8 wc => ∃ (kq : Nat) (Jd : Int), v8 = .int .i64 Jd ∧ ah (aZ.j2 kq l0 l1 eB gL bR Jd = some r) ∧ ah (kq ≤ kj2) ∧ ah (Kd.V k51 51 wc w.heap.size (fun k_ => ((P0_ k_ ∨ P1_ k_) ∨ w.heap.size ≤ k_) ∧ some k_ ≠ (u5 : Value).ownBlock) (.slice A0 l0.length c0) l0) ∧ ah (Kd.V k51 51 wc w.heap.size (fun k_ => ((P0_ k_ ∨ P1_ k_) ∨ w.heap.size ≤ k_) ∧ some k_ ≠ (u5 : Value).ownBlock) (.slice A1 l1.length c1) l1) ∧ ah (Kd.N k51 51 wc w.heap.size (fun k_ => ((P0_ k_ ∨ P1_ k_) ∨ w.heap.size ≤ k_)) u5 eB) ∧ ah (Below w.heap.size w wc))
      case first =>
       have H := HC6.out; clear HC6
       by_cases c7 : gL = (l0.length : Int)
       ·rw [if_pos c7] at H; have pJ : (gL == (l0.length : Int)) = true := beq_iff_eq.mpr c7; have NI : (gL != (l0.length : Int)) = false := bne_eq_false_iff_eq.mpr c7; clear c7; (first | rw [pJ] | (simp only [dJ, eu]; rw [pJ]) | skip); have H' := ah.mk H; clear H
        go_wp2
        go_meet
        case rel => exact ⟨_, (1), zz2, H', ⟨zz75⟩, ⟨uF⟩, ⟨CP⟩, ⟨FT⟩, ⟨zz1⟩⟩
       ·rw [if_neg c7] at H; have pJ : (gL == (l0.length : Int)) = false := beq_eq_false_iff_ne.mpr c7; have NI : (gL != (l0.length : Int)) = true := bne_iff_ne.mpr c7; (first | rw [pJ] | (simp only [dJ, eu]; rw [pJ]) | skip)
        by_cases c8 : bR = (l1.length : Int)
        ·rw [if_pos c8] at H; have oq : (bR == (l1.length : Int)) = true := beq_iff_eq.mpr c8; have Ea : (bR != (l1.length : Int)) = false := bne_eq_false_iff_eq.mpr c8; clear c8; have H' := ah.mk H; clear H
         go_wp2
         go_meet
         case rel => exact ⟨_, ((-1)), zz2, H', ⟨zz75⟩, ⟨uF⟩, ⟨CP⟩, ⟨FT⟩, ⟨zz1⟩⟩
        ·rw [if_neg c8] at H; have oq : (bR == (l1.length : Int)) = false := beq_eq_false_iff_ne.mpr c8; have Ea : (bR != (l1.length : Int)) = true := bne_iff_ne.mpr c8
         by_cases c9 : 0 ≤ gL
         ·rw [if_pos c9] at H; have xV : decide (0 ≤ gL) = true := decide_eq_true c9; clear c9
          by_cases c10 : gL < (l0.length : Int)
          ·rw [if_pos c10] at H; have wT : decide (gL < (l0.length : Int)) = true := decide_eq_true c10; clear c10
           by_cases c11 : 0 ≤ bR
           ·rw [if_pos c11] at H; have Tw : decide (0 ≤ bR) = true := decide_eq_true c11; clear c11
            by_cases c12 : bR < (l1.length : Int)
            ·rw [if_pos c12] at H; have NP : decide (bR < (l1.length : Int)) = true := decide_eq_true c12; clear c12; replace H := Option.bind_eq_some_iff.mp H; obtain ⟨t379, A130, H⟩ := H; have A13 := ah.mk A130; clear A130; have H' := ah.mk H; clear H
             try go_wp2
             replace jX := ah.mk (Kd.gG jX.out); replace jU := ah.mk (Kd.gG jU.out); replace qL := ah.mk (Kd.ko qL.out); replace HB := ah.mk (bG HB.out); have p377 : 0 ≤ (gL : Int) := of_decide_eq_true zz9; have q377 : gL < (l0.length : Int) := of_decide_eq_true zz9; obtain ⟨WL, Xn, Wm, e377, Em, J4, Sl, SG⟩ := iR (Kd.eH jX.out).2.2 gL p377 q377
             cases e377
             obtain ⟨ce377, hce377, hMe377, V5⟩ := Kd.pQ jX.out z51 gL p377 (by first | exact q377 | exact of_decide_eq_true zz9 | (have e_ := (Kd.eH jX.out).1; omega)); obtain ⟨ua377_0, uc377_0, rfl, Jv, Ls⟩ := iF hMe377; have EA := V5 0 _ rfl; rw [Nat.add_zero] at EA; replace EA := Option.some.inj (EA.symm.trans Em); injection EA with jf kT je; rw [jf] at Ls; rw [je] at Jv; have L9 := ah.mk (show Kd.V k23 23 _ w.heap.size _ _ ((aH l0 gL).f0) from Kd.ou Jv Ls); clear jf kT je Ls Jv; clear V5 hce377; have iO := ah.mk SG; have jl := ah.mk Sl; clear SG Sl; replace p377 := eq_true p377; replace q377 := eq_true q377; have p378 : 0 ≤ (bR : Int) := of_decide_eq_true zz9; have q378 : bR < (l1.length : Int) := of_decide_eq_true zz9; obtain ⟨WK, Xm, Wj, e378, El, J3, Sk, SF⟩ := iR (Kd.eH jU.out).2.2 bR p378 q378
             cases e378
             obtain ⟨ce378, hce378, hMe378, V4⟩ := Kd.pQ jU.out z51 bR p378 (by first | exact q378 | exact of_decide_eq_true zz9 | (have e_ := (Kd.eH jU.out).1; omega)); obtain ⟨ua378_0, uc378_0, rfl, Ju, Lr⟩ := iF hMe378; have Ez := V4 0 _ rfl; rw [Nat.add_zero] at Ez; replace Ez := Option.some.inj (Ez.symm.trans El); injection Ez with jf kT je; rw [jf] at Lr; rw [je] at Ju; have L8 := ah.mk (show Kd.V k23 23 _ w.heap.size _ _ ((aH l1 bR).f0) from Kd.ou Ju Lr); clear jf kT je Lr Ju; clear V4 hce378; have qA := ah.mk SF; have zx := ah.mk Sk; clear SF Sk; replace p378 := eq_true p378; replace q378 := eq_true q378; refine jd (n := 12) (S := fun w' => w'.cell? (WL.add ((gL).toNat * 2)) = some (.slice Xn ((aH l0 gL).f0).length Wm) ∧ w'.cell? ⟨(WL.add ((gL).toNat * 2)).block, (WL.add ((gL).toNat * 2)).off + 1, none⟩ = some (.int .i64 ((aH l0 gL).f1)) ∧ w'.cell? (WK.add ((bR).toNat * 2)) = some (.slice Xm ((aH l1 bR).f0).length Wj) ∧ w'.cell? ⟨(WK.add ((bR).toNat * 2)).block, (WK.add ((bR).toNat * 2)).off + 1, none⟩ = some (.int .i64 ((aH l1 bR).f1))) (ds := []) (.replicate 12 false) (by kernel_rfl) rfl rfl ⟨Em, J4, El, J3⟩ (fun hHeld => ?_); refine iE aZ.tab5 aZ.NW (fun HT_ HW_ => ?_); generalize wc.drew = w14 at jX jU qL HB L9 L8 iO qA Em J4 El J3 hHeld ⊢; refine pV 0 20 (bA 12 1) HT_ ?_; refine pV 1 21 (bA 12 3) HT_ ?_; refine pV 2 22 (bA 12 7) HT_ ?_; refine pV 3 23 (bA 12 15) HT_ ?_; refine pV 5 25 (bA 12 47) HT_ ?_; refine pV 6 26 (bA 12 111) HT_ ?_; refine pV 7 27 (bA 12 239) HT_ ?_; refine pV 8 28 (bA 12 495) HT_ ?_; refine tV (v := ?_) 4 24 (bA 12 511) HT_ HW_ hHeld ?_ ?_; rotate_left
             ·rintro w' ⟨s0, s1, s2, s3⟩
              go_simp
              (with_reducible rfl)
             refine tV (v := ?_) 9 29 (bA 12 1023) HT_ HW_ hHeld ?_ ?_; rotate_left
             ·rintro w' ⟨s0, s1, s2, s3⟩
              go_simp
              (with_reducible rfl)
             refine oN 10 30 (bA 12 2047) HT_ (fun K hK => ?_); refine iT Try.func93 (by kernel_rfl) rfl #[.slice Xn ((aH l0 gL).f0).length Wm, .slice Xm ((aH l1 bR).f0).length Wj] (by rfl) rfl rfl zz8 ?_; (with_reducible refine (aV.calls kj2 _ _ ((aH l0 gL).f0) _ _ ((aH l1 bR).f0) t379 _ ?bZ ?cO ?sD ?xG A13.out).mono ?_); (case bZ => repeat (first | exact Jb | (with_reducible refine Kd.dW ?_ _) | (with_reducible refine Kd.d9 ?_ _) | (with_reducible refine Kd.eT ?_))); (case cO => exact jl.out); (case sD => repeat (first | exact zz77 | (with_reducible refine Kd.dW ?_ _) | (with_reducible refine Kd.d9 ?_ _) | (with_reducible refine Kd.eT ?_))); (case xG => exact zx.out); rintro e w15 ⟨rfl, hb⟩; have HS0_ := (hb.cell (World.block_lt_of_cell? _ _ (hHeld.1))).trans (hHeld.1); have HS1_ := (hb.cell (World.block_lt_of_cell? _ _ (hHeld.2.1))).trans (hHeld.2.1); have HS2_ := (hb.cell (World.block_lt_of_cell? _ _ (hHeld.2.2.1))).trans (hHeld.2.2.1); have HS3_ := (hb.cell (World.block_lt_of_cell? _ _ (hHeld.2.2.2))).trans (hHeld.2.2.2); refine ⟨_, rfl, ?_⟩; replace jX := ah.mk (Kd.nL uF hb); replace jU := ah.mk (Kd.nL CP hb); replace qL := ah.mk (Kd.rW FT hb); replace L9 := ah.mk (Kd.nL (by (with_reducible repeat (first | apply Kd.iL | apply Kd.iH | apply Kd.gG)); exact L9.out) hb); replace L8 := ah.mk (Kd.nL (by (with_reducible repeat (first | apply Kd.iL | apply Kd.iH | apply Kd.gG)); exact L8.out) hb); replace iO := ah.mk (Kd.eY Jb hb); replace qA := ah.mk (Kd.eY zz77 hb); replace HB := ah.mk (aA zz1 hb); (try clear hb); (try clear hb2); (try clear hk); (try clear hi); refine hK.out _ _ ⟨HS0_, HS1_, HS2_, HS3_⟩ (fun hHeld => ?_); clear hK K; refine iV (a' := ?_) ?_ ?_; rotate_left
             ·show Act.put _ (some 30) _ = _
              simp only [Act.put, List.setIfInBounds_toArray, List.set_cons_zero, List.set_cons_succ, dJ, eu]
              rfl
             refine pV 11 8 (bA 12 4095) HT_ ?_; refine kJ (j5 HT_.out (by kernel_rfl)) ?_
             try go_wp2
             go_meet
             case rel => exact ⟨_, (t379), zz2, H', ⟨zz75⟩, ⟨uF⟩, ⟨CP⟩, ⟨FT⟩, ⟨zz1⟩⟩
            ·rw [if_neg c12] at H; exact absurd H (by simp)
           ·rw [if_neg c11] at H; exact absurd H (by simp)
          ·rw [if_neg c10] at H; exact absurd H (by simp)
         ·rw [if_neg c9] at H; exact absurd H (by simp)
      case rest =>
       clear HC6; (try clear c1); (try clear p2); (try clear c3); (try clear p3); (try clear q3); (try clear hx3); (try clear c4); (try clear lI); (try clear c5); (try clear c6); (try clear c7); (try clear pJ); (try clear NI); (try clear c8); (try clear oq); (try clear Ea); (try clear c9); (try clear xV); (try clear c10); (try clear wT); (try clear c11); (try clear Tw); (try clear c12); (try clear NP); (try clear Em); (try clear J4); (try clear El); (try clear J3); (try clear p2); (try clear p377); (try clear p378); (try clear q377); (try clear q378); obtain ⟨kq, Jd, rfl, HA, HJ5, jX, jU, qL, HB⟩ := hcut
       cases kq with
       | zero => exact absurd HA.out (by simp [aZ.j2])
       | succ kj5 =>
        have H := HA.out; clear HA; simp only [aZ.j2] at H
        by_cases c16 : Jd < 0
        ·rw [if_pos c16] at H; have l8 : decide (Jd < 0) = true := decide_eq_true c16; clear c16
         by_cases c17 : 0 ≤ gL
         ·rw [if_pos c17] at H; have Wo : decide (0 ≤ gL) = true := decide_eq_true c17; clear c17
          by_cases c18 : gL < (l0.length : Int)
          ·rw [if_pos c18] at H; have IU : decide (gL < (l0.length : Int)) = true := decide_eq_true c18; clear c18
           by_cases c19 : eB.length < 4398046511104
           ·rw [if_pos c19] at H; have LMc19 := ah.mk c19; clear c19; obtain ⟨y381, MS⟩ : ∃ y_ : List (S51), y_ = (eB ++ [(⟨(aH l0 gL).f0, (aH l0 gL).f1⟩ : S51)]) := ⟨_, rfl⟩; replace H : (aZ.l0 kj5 l0 l1 y381 (wrap64 (gL + 1)) bR) = some r := by first | (rw [MS]; with_reducible exact H) | (have H2_ := (Option.bind_some _ _).symm.trans H; rw [MS]; with_reducible exact H2_) | (have H2_ := (Option.bind_some _ _).symm.trans H; with_reducible exact H2_) | with_reducible exact H | (rw [MS]; exact H) | exact H
            have Ny381 := ah.mk MS; clear MS; have H' := ah.mk H; clear H; have p380 : 0 ≤ (gL : Int) := of_decide_eq_true zz9; have q380 : gL < (l0.length : Int) := of_decide_eq_true zz9; obtain ⟨ad380, A380_0, c380_0, e380, Yi, hx380_1, Sj, SE⟩ := iR (Kd.eH jX.out).2.2 gL p380 q380
            cases e380
            obtain ⟨ce380, hce380, hMe380, V3⟩ := Kd.pQ jX.out z51 gL p380 (by first | exact q380 | exact of_decide_eq_true zz9 | (have e_ := (Kd.eH jX.out).1; omega)); obtain ⟨ua380_0, uc380_0, rfl, Jt, Lp⟩ := iF hMe380; have Ey := V3 0 _ rfl; rw [Nat.add_zero] at Ey; replace Ey := Option.some.inj (Ey.symm.trans Yi); injection Ey with jf kT je; rw [jf] at Lp; rw [je] at Jt; have FQ := ah.mk (show Kd.V k23 23 _ w.heap.size _ _ ((aH l0 gL).f0) from Kd.ou Jt Lp); clear jf kT je Lp Jt; clear V3 hce380; have qz := ah.mk SE; have wP := ah.mk Sj; clear SE Sj; replace p380 := eq_true p380; replace q380 := eq_true q380
            go_wp2_with (first | ((with_reducible refine iq (b := .append) (xs := #[.tmp 71, .tmp 76]) rfl ?_); (try (refine gF (by rfl) ?_; dsimp only)); at_builtin; refine Kd.Hw k51 (w0 := w) w.heap.size rfl (.tmp 71) (.tmp 76) 38 51 (.agg #[(.slice none 0 0), (.int .i64 0)]) 32 rfl Try.underlying38 sI rfl (by decide) (by omega) u5 eB (⟨(aH l0 gL).f0, (aH l0 gL).f1⟩ : S51) [.slice A380_0 ((aH l0 gL).f0).length c380_0, .int .i64 ((aH l0 gL).f1)] (fun k_ => ((P0_ k_ ∨ P1_ k_) ∨ w.heap.size ≤ k_)) (fun k_ => ((fun k_ => ((P0_ k_ ∨ P1_ k_) ∨ w.heap.size ≤ k_))) k_ ∧ some k_ ≠ (u5 : Value).ownBlock) rfl rfl ?aP (fun _ hk => hk) ?aF ?aO ?aB ?aS ?aL ?_; (case aP => exact (Au _ _ (⟨(aH l0 gL).f0, (aH l0 gL).f1⟩ : S51) (Kd.eH (Kd.jr (ok' := (fun k_ => ((fun k_ => ((P0_ k_ ∨ P1_ k_) ∨ w.heap.size ≤ k_))) k_ ∧ some k_ ≠ (u5 : Value).ownBlock)) (FQ.out) (fun k_ hk => ⟨hk.1, hk.2⟩))).2.1 (Kd.V_F (Kd.jr (ok' := (fun k_ => ((fun k_ => ((P0_ k_ ∨ P1_ k_) ∨ w.heap.size ≤ k_))) k_ ∧ some k_ ≠ (u5 : Value).ownBlock)) (FQ.out) (fun k_ hk => ⟨hk.1, hk.2⟩))))); (case aB => exact zz1); (case aF => exact (fun k_ hk => (.inr (Nat.le_trans (bW zz1) hk)))); (case aO => exact FT); (case aS => exact (bW zz1)); (case aL => have := LMc19.out; omega); intro v382 w20 ho hb hg hat; rw [← Ny381.out] at ho; replace jX := ah.mk (Kd.kG (ok := (fun k_ => ((P0_ k_ ∨ P1_ k_) ∨ w.heap.size ≤ k_))) uF hg hat); replace jU := ah.mk (Kd.kG (ok := (fun k_ => ((P0_ k_ ∨ P1_ k_) ∨ w.heap.size ≤ k_))) CP hg hat); replace FQ := ah.mk (Kd.kG (ok := (fun k_ => ((P0_ k_ ∨ P1_ k_) ∨ w.heap.size ≤ k_))) (by (with_reducible repeat (first | apply Kd.iL | apply Kd.iH | apply Kd.gG)); exact FQ.out) hg hat); replace HB := ah.mk (hb); have jg := ah.mk (ho); clear qL; clear ho hb hg hat))
            go_roundg kj5
            case measure => have := HK1.out; have := HJ2.out; have := HJ5.out; omega
            case rel => exact ⟨(y381), (wrap64 (gL + 1)), (bR), zz2, zz2, H', ⟨zz78⟩, ⟨uF⟩, ⟨CP⟩, ⟨zz79⟩, ⟨zz1⟩⟩
           ·rw [if_neg c19] at H; exact absurd H (by simp)
          ·rw [if_neg c18] at H; exact absurd H (by simp)
         ·rw [if_neg c17] at H; exact absurd H (by simp)
        ·rw [if_neg c16] at H; have l8 : decide (Jd < 0) = false := decide_eq_false c16; clear c16
         by_cases c21 : Jd > 0
         ·rw [if_pos c21] at H; have c21b0 : decide (0 < Jd) = true := decide_eq_true c21; clear c21
          by_cases c22 : 0 ≤ bR
          ·rw [if_pos c22] at H; have GX : decide (0 ≤ bR) = true := decide_eq_true c22; clear c22
           by_cases c23 : bR < (l1.length : Int)
           ·rw [if_pos c23] at H; have DJ : decide (bR < (l1.length : Int)) = true := decide_eq_true c23; clear c23
            by_cases c24 : eB.length < 4398046511104
            ·rw [if_pos c24] at H; have LMc24 := ah.mk c24; clear c24; obtain ⟨y385, MR⟩ : ∃ y_ : List (S51), y_ = (eB ++ [(⟨(aH l1 bR).f0, (aH l1 bR).f1⟩ : S51)]) := ⟨_, rfl⟩; replace H : (aZ.l0 kj5 l0 l1 y385 gL (wrap64 (bR + 1))) = some r := by first | (rw [MR]; with_reducible exact H) | (have H2_ := (Option.bind_some _ _).symm.trans H; rw [MR]; with_reducible exact H2_) | (have H2_ := (Option.bind_some _ _).symm.trans H; with_reducible exact H2_) | with_reducible exact H | (rw [MR]; exact H) | exact H
             have Ny385 := ah.mk MR; clear MR; have H' := ah.mk H; clear H; have p384 : 0 ≤ (bR : Int) := of_decide_eq_true zz9; have q384 : bR < (l1.length : Int) := of_decide_eq_true zz9; obtain ⟨ad384, A384_0, c384_0, e384, Yh, hx384_1, Si, SC⟩ := iR (Kd.eH jU.out).2.2 bR p384 q384
             cases e384
             obtain ⟨ce384, hce384, hMe384, VZ⟩ := Kd.pQ jU.out z51 bR p384 (by first | exact q384 | exact of_decide_eq_true zz9 | (have e_ := (Kd.eH jU.out).1; omega)); obtain ⟨ua384_0, uc384_0, rfl, Js, Lm⟩ := iF hMe384; have Ew := VZ 0 _ rfl; rw [Nat.add_zero] at Ew; replace Ew := Option.some.inj (Ew.symm.trans Yh); injection Ew with jf kT je; rw [jf] at Lm; rw [je] at Js; have FP := ah.mk (show Kd.V k23 23 _ w.heap.size _ _ ((aH l1 bR).f0) from Kd.ou Js Lm); clear jf kT je Lm Js; clear VZ hce384; have HR104_0 := ah.mk SC; have HC104_0 := ah.mk Si; clear SC Si; replace p384 := eq_true p384; replace q384 := eq_true q384
             go_wp2_with (first | ((with_reducible refine iq (b := .append) (xs := #[.tmp 83, .tmp 88]) rfl ?_); (try (refine gF (by rfl) ?_; dsimp only)); at_builtin; refine Kd.Hw k51 (w0 := w) w.heap.size rfl (.tmp 83) (.tmp 88) 38 51 (.agg #[(.slice none 0 0), (.int .i64 0)]) 32 rfl Try.underlying38 sI rfl (by decide) (by omega) u5 eB (⟨(aH l1 bR).f0, (aH l1 bR).f1⟩ : S51) [.slice A384_0 ((aH l1 bR).f0).length c384_0, .int .i64 ((aH l1 bR).f1)] (fun k_ => ((P0_ k_ ∨ P1_ k_) ∨ w.heap.size ≤ k_)) (fun k_ => ((fun k_ => ((P0_ k_ ∨ P1_ k_) ∨ w.heap.size ≤ k_))) k_ ∧ some k_ ≠ (u5 : Value).ownBlock) rfl rfl ?aP (fun _ hk => hk) ?aF ?aO ?aB ?aS ?aL ?_; (case aP => exact (Au _ _ (⟨(aH l1 bR).f0, (aH l1 bR).f1⟩ : S51) (Kd.eH (Kd.jr (ok' := (fun k_ => ((fun k_ => ((P0_ k_ ∨ P1_ k_) ∨ w.heap.size ≤ k_))) k_ ∧ some k_ ≠ (u5 : Value).ownBlock)) (FP.out) (fun k_ hk => ⟨hk.1, hk.2⟩))).2.1 (Kd.V_F (Kd.jr (ok' := (fun k_ => ((fun k_ => ((P0_ k_ ∨ P1_ k_) ∨ w.heap.size ≤ k_))) k_ ∧ some k_ ≠ (u5 : Value).ownBlock)) (FP.out) (fun k_ hk => ⟨hk.1, hk.2⟩))))); (case aB => exact zz1); (case aF => exact (fun k_ hk => (.inr (Nat.le_trans (bW zz1) hk)))); (case aO => exact FT); (case aS => exact (bW zz1)); (case aL => have := LMc24.out; omega); intro v386 w25 ho hb hg hat; rw [← Ny385.out] at ho; replace jX := ah.mk (Kd.kG (ok := (fun k_ => ((P0_ k_ ∨ P1_ k_) ∨ w.heap.size ≤ k_))) uF hg hat); replace jU := ah.mk (Kd.kG (ok := (fun k_ => ((P0_ k_ ∨ P1_ k_) ∨ w.heap.size ≤ k_))) CP hg hat); replace FP := ah.mk (Kd.kG (ok := (fun k_ => ((P0_ k_ ∨ P1_ k_) ∨ w.heap.size ≤ k_))) (by (with_reducible repeat (first | apply Kd.iL | apply Kd.iH | apply Kd.gG)); exact FP.out) hg hat); replace HB := ah.mk (hb); have sV := ah.mk (ho); clear qL; clear ho hb hg hat))
             go_roundg kj5
             case measure => have := HK1.out; have := HJ2.out; have := HJ5.out; omega
             case rel => exact ⟨(y385), (gL), (wrap64 (bR + 1)), zz2, zz2, H', ⟨zz78⟩, ⟨uF⟩, ⟨CP⟩, ⟨Oj⟩, ⟨zz1⟩⟩
            ·rw [if_neg c24] at H; exact absurd H (by simp)
           ·rw [if_neg c23] at H; exact absurd H (by simp)
          ·rw [if_neg c22] at H; exact absurd H (by simp)
         ·rw [if_neg c21] at H; have c21b0 : decide (0 < Jd) = false := decide_eq_false c21; clear c21
          by_cases c26 : 0 ≤ gL
          ·rw [if_pos c26] at H; have c26b0 : decide (0 ≤ gL) = true := decide_eq_true c26; clear c26
           by_cases c27 : gL < (l0.length : Int)
           ·rw [if_pos c27] at H; have c27b0 : decide (gL < (l0.length : Int)) = true := decide_eq_true c27; clear c27
            by_cases c28 : 0 ≤ bR
            ·rw [if_pos c28] at H; have c28b0 : decide (0 ≤ bR) = true := decide_eq_true c28; clear c28
             by_cases c29 : bR < (l1.length : Int)
             ·rw [if_pos c29] at H; have NM : decide (bR < (l1.length : Int)) = true := decide_eq_true c29; clear c29
              by_cases c30 : (wrap64 (((aH l0 gL).f1) + ((aH l1 bR).f1))) = 0
              ·rw [if_pos c30] at H; have GV : ((wrap64 (((aH l0 gL).f1) + ((aH l1 bR).f1))) == 0) = true := beq_iff_eq.mpr c30; have c30b1 : ((wrap64 (((aH l0 gL).f1) + ((aH l1 bR).f1))) != 0) = false := bne_eq_false_iff_eq.mpr c30; clear c30; have H' := ah.mk H; clear H
               try go_wp2
               replace jX := ah.mk (Kd.gG jX.out); replace jU := ah.mk (Kd.gG jU.out); replace qL := ah.mk (Kd.ko qL.out); replace HB := ah.mk (bG HB.out); have JQ : 0 ≤ (gL : Int) := of_decide_eq_true zz9; have JI : gL < (l0.length : Int) := of_decide_eq_true zz9; obtain ⟨DL, Me, LC, e388, tQ, AL, Bv, BM⟩ := iR (Kd.eH jX.out).2.2 gL JQ JI
               cases e388
               obtain ⟨ce388, Qf, QF, Gz⟩ := Kd.pQ jX.out z51 gL JQ (by first | exact JI | exact of_decide_eq_true zz9 | (have e_ := (Kd.eH jX.out).1; omega)); obtain ⟨X0, XT, rfl, vL, wH⟩ := iF QF; have rE := Gz 0 _ rfl; rw [Nat.add_zero] at rE; replace rE := Option.some.inj (rE.symm.trans tQ); injection rE with jf kT je; rw [jf] at wH; rw [je] at vL; have CO := ah.mk (show Kd.V k23 23 _ w.heap.size _ _ ((aH l0 gL).f0) from Kd.ou vL wH); clear jf kT je wH vL; clear Gz Qf; have LY := ah.mk BM; have aas := ah.mk Bv; clear BM Bv; replace JQ := eq_true JQ; replace JI := eq_true JI; have JO : 0 ≤ (bR : Int) := of_decide_eq_true zz9; have JH : bR < (l1.length : Int) := of_decide_eq_true zz9; obtain ⟨Hg, QZ, QK, e389, vU, AJ, Bu, BJ⟩ := iR (Kd.eH jU.out).2.2 bR JO JH
               cases e389
               obtain ⟨ce389, Qe, QE, Gy⟩ := Kd.pQ jU.out z51 bR JO (by first | exact JH | exact of_decide_eq_true zz9 | (have e_ := (Kd.eH jU.out).1; omega)); obtain ⟨XZ, XR, rfl, vK, wG⟩ := iF QE; have rD := Gy 0 _ rfl; rw [Nat.add_zero] at rD; replace rD := Option.some.inj (rD.symm.trans vU); injection rD with jf kT je; rw [jf] at wG; rw [je] at vK; have CK := ah.mk (show Kd.V k23 23 _ w.heap.size _ _ ((aH l1 bR).f0) from Kd.ou vK wG); clear jf kT je wG vK; clear Gy Qe; have LX := ah.mk BJ; have aar := ah.mk Bu; clear BJ Bu; replace JO := eq_true JO; replace JH := eq_true JH; refine jd (n := 12) (S := fun w' => w'.cell? (DL.add ((gL).toNat * 2)) = some (.slice Me ((aH l0 gL).f0).length LC) ∧ w'.cell? ⟨(DL.add ((gL).toNat * 2)).block, (DL.add ((gL).toNat * 2)).off + 1, none⟩ = some (.int .i64 ((aH l0 gL).f1)) ∧ w'.cell? (Hg.add ((bR).toNat * 2)) = some (.slice QZ ((aH l1 bR).f0).length QK) ∧ w'.cell? ⟨(Hg.add ((bR).toNat * 2)).block, (Hg.add ((bR).toNat * 2)).off + 1, none⟩ = some (.int .i64 ((aH l1 bR).f1))) (ds := []) (.replicate 12 false) (by kernel_rfl) rfl rfl ⟨tQ, AL, vU, AJ⟩ (fun hHeld => ?_); refine iE aZ.tab10 aZ.WC (fun HT_ HW_ => ?_); generalize wc.drew = w31 at jX jU qL HB CO CK LY LX tQ AL vU AJ hHeld ⊢; refine pV 0 41 (bA 12 1) HT_ ?_; refine pV 1 42 (bA 12 3) HT_ ?_; refine pV 2 43 (bA 12 7) HT_ ?_; refine pV 3 44 (bA 12 15) HT_ ?_; refine pV 5 46 (bA 12 47) HT_ ?_; refine pV 6 47 (bA 12 111) HT_ ?_; refine pV 7 48 (bA 12 239) HT_ ?_; refine pV 8 49 (bA 12 495) HT_ ?_; refine tV (v := ?_) 4 45 (bA 12 511) HT_ HW_ hHeld ?_ ?_; rotate_left
               ·rintro w' ⟨s0, s1, s2, s3⟩
                go_simp
                (with_reducible rfl)
               refine tV (v := ?_) 9 50 (bA 12 1023) HT_ HW_ hHeld ?_ ?_; rotate_left
               ·rintro w' ⟨s0, s1, s2, s3⟩
                go_simp
                (with_reducible rfl)
               refine pV 10 51 (bA 12 2047) HT_ ?_; refine pV 11 9 (bA 12 4095) HT_ ?_; refine kJ (j5 HT_.out (by kernel_rfl)) ?_
               try go_wp2
               go_roundg kj5
               case measure => have := HK1.out; have := HJ2.out; have := HJ5.out; omega
               case rel => exact ⟨(eB), (wrap64 (gL + 1)), (wrap64 (bR + 1)), zz2, zz2, H', ⟨zz78⟩, ⟨uF⟩, ⟨CP⟩, ⟨FT⟩, ⟨zz1⟩⟩
              ·rw [if_neg c30] at H; have GV : ((wrap64 (((aH l0 gL).f1) + ((aH l1 bR).f1))) == 0) = false := beq_eq_false_iff_ne.mpr c30; have c30b1 : ((wrap64 (((aH l0 gL).f1) + ((aH l1 bR).f1))) != 0) = true := bne_iff_ne.mpr c30
               by_cases c32 : eB.length < 4398046511104
               ·rw [if_pos c32] at H; have LMc32 := ah.mk c32; clear c32; obtain ⟨y391, MQ⟩ : ∃ y_ : List (S51), y_ = (eB ++ [(⟨(aH l0 gL).f0, wrap64 (((aH l0 gL).f1) + ((aH l1 bR).f1))⟩ : S51)]) := ⟨_, rfl⟩; replace H : (aZ.l0 kj5 l0 l1 y391 (wrap64 (gL + 1)) (wrap64 (bR + 1))) = some r := by first | (rw [MQ]; with_reducible exact H) | (have H2_ := (Option.bind_some _ _).symm.trans H; rw [MQ]; with_reducible exact H2_) | (have H2_ := (Option.bind_some _ _).symm.trans H; with_reducible exact H2_) | with_reducible exact H | (rw [MQ]; exact H) | exact H
                have Ny391 := ah.mk MQ; clear MQ; have H' := ah.mk H; clear H
                try go_wp2
                replace jX := ah.mk (Kd.gG jX.out); replace jU := ah.mk (Kd.gG jU.out); replace qL := ah.mk (Kd.ko qL.out); replace HB := ah.mk (bG HB.out); have JQ : 0 ≤ (gL : Int) := of_decide_eq_true zz9; have JI : gL < (l0.length : Int) := of_decide_eq_true zz9; obtain ⟨DL, Me, LC, e388, tQ, AL, Bv, BM⟩ := iR (Kd.eH jX.out).2.2 gL JQ JI
                cases e388
                obtain ⟨ce388, Qf, QF, Gz⟩ := Kd.pQ jX.out z51 gL JQ (by first | exact JI | exact of_decide_eq_true zz9 | (have e_ := (Kd.eH jX.out).1; omega)); obtain ⟨X0, XT, rfl, vL, wH⟩ := iF QF; have rE := Gz 0 _ rfl; rw [Nat.add_zero] at rE; replace rE := Option.some.inj (rE.symm.trans tQ); injection rE with jf kT je; rw [jf] at wH; rw [je] at vL; have CO := ah.mk (show Kd.V k23 23 _ w.heap.size _ _ ((aH l0 gL).f0) from Kd.ou vL wH); clear jf kT je wH vL; clear Gz Qf; have LY := ah.mk BM; have aas := ah.mk Bv; clear BM Bv; replace JQ := eq_true JQ; replace JI := eq_true JI; have JO : 0 ≤ (bR : Int) := of_decide_eq_true zz9; have JH : bR < (l1.length : Int) := of_decide_eq_true zz9; obtain ⟨Hg, QZ, QK, e389, vU, AJ, Bu, BJ⟩ := iR (Kd.eH jU.out).2.2 bR JO JH
                cases e389
                obtain ⟨ce389, Qe, QE, Gy⟩ := Kd.pQ jU.out z51 bR JO (by first | exact JH | exact of_decide_eq_true zz9 | (have e_ := (Kd.eH jU.out).1; omega)); obtain ⟨XZ, XR, rfl, vK, wG⟩ := iF QE; have rD := Gy 0 _ rfl; rw [Nat.add_zero] at rD; replace rD := Option.some.inj (rD.symm.trans vU); injection rD with jf kT je; rw [jf] at wG; rw [je] at vK; have CK := ah.mk (show Kd.V k23 23 _ w.heap.size _ _ ((aH l1 bR).f0) from Kd.ou vK wG); clear jf kT je wG vK; clear Gy Qe; have LX := ah.mk BJ; have aar := ah.mk Bu; clear BJ Bu; replace JO := eq_true JO; replace JH := eq_true JH; refine jd (n := 12) (S := fun w' => w'.cell? (DL.add ((gL).toNat * 2)) = some (.slice Me ((aH l0 gL).f0).length LC) ∧ w'.cell? ⟨(DL.add ((gL).toNat * 2)).block, (DL.add ((gL).toNat * 2)).off + 1, none⟩ = some (.int .i64 ((aH l0 gL).f1)) ∧ w'.cell? (Hg.add ((bR).toNat * 2)) = some (.slice QZ ((aH l1 bR).f0).length QK) ∧ w'.cell? ⟨(Hg.add ((bR).toNat * 2)).block, (Hg.add ((bR).toNat * 2)).off + 1, none⟩ = some (.int .i64 ((aH l1 bR).f1))) (ds := []) (.replicate 12 false) (by kernel_rfl) rfl rfl ⟨tQ, AL, vU, AJ⟩ (fun hHeld => ?_); refine iE aZ.tab10 aZ.WC (fun HT_ HW_ => ?_); generalize wc.drew = w33 at jX jU qL HB CO CK LY LX tQ AL vU AJ hHeld ⊢; refine pV 0 41 (bA 12 1) HT_ ?_; refine pV 1 42 (bA 12 3) HT_ ?_; refine pV 2 43 (bA 12 7) HT_ ?_; refine pV 3 44 (bA 12 15) HT_ ?_; refine pV 5 46 (bA 12 47) HT_ ?_; refine pV 6 47 (bA 12 111) HT_ ?_; refine pV 7 48 (bA 12 239) HT_ ?_; refine pV 8 49 (bA 12 495) HT_ ?_; refine tV (v := ?_) 4 45 (bA 12 511) HT_ HW_ hHeld ?_ ?_; rotate_left
                ·rintro w' ⟨s0, s1, s2, s3⟩
                 go_simp
                 (with_reducible rfl)
                refine tV (v := ?_) 9 50 (bA 12 1023) HT_ HW_ hHeld ?_ ?_; rotate_left
                ·rintro w' ⟨s0, s1, s2, s3⟩
                 go_simp
                 (with_reducible rfl)
                refine pV 10 51 (bA 12 2047) HT_ ?_; refine pV 11 9 (bA 12 4095) HT_ ?_; refine kJ (j5 HT_.out (by kernel_rfl)) ?_; have p390 : 0 ≤ (gL : Int) := of_decide_eq_true zz9; have q390 : gL < (l0.length : Int) := of_decide_eq_true zz9; obtain ⟨ad390, A390_0, c390_0, e390, RP, hx390_1, Sg, SB⟩ := iR (Kd.eH jX.out).2.2 gL p390 q390; obtain rfl : DL = ad390 := (by injection e390); obtain ⟨ce390, hce390, hMe390, VY⟩ := Kd.pQ jX.out z51 gL p390 (by first | exact q390 | exact of_decide_eq_true zz9 | (have e_ := (Kd.eH jX.out).1; omega)); obtain ⟨ua390_0, uc390_0, rfl, Jr, Ll⟩ := iF hMe390; have Ev := VY 0 _ rfl; rw [Nat.add_zero] at Ev; replace Ev := Option.some.inj (Ev.symm.trans RP); injection Ev with jf kT je; rw [jf] at Ll; rw [je] at Jr; have FN := ah.mk (show Kd.V k23 23 _ w.heap.size _ _ ((aH l0 gL).f0) from Kd.ou Jr Ll); clear jf kT je Ll Jr; clear VY hce390; have lV := ah.mk SB; have TW := ah.mk Sg; clear SB Sg; replace p390 := eq_true p390; replace q390 := eq_true q390; have ea_ := Option.some.inj (tQ.symm.trans RP); injection ea_ with ea_ en_ ec_; subst ea_; subst ec_; clear en_
                try go_wp2_with (first | ((with_reducible refine iq (b := .append) (xs := #[.tmp 54, .tmp 62]) rfl ?_); (try (refine gF (by rfl) ?_; dsimp only)); at_builtin; refine Kd.Hw k51 (w0 := w) w.heap.size rfl (.tmp 54) (.tmp 62) 38 51 (.agg #[(.slice none 0 0), (.int .i64 0)]) 32 rfl Try.underlying38 sI rfl (by decide) (by omega) u5 eB (⟨(aH l0 gL).f0, wrap64 (((aH l0 gL).f1) + ((aH l1 bR).f1))⟩ : S51) [.slice Me ((aH l0 gL).f0).length LC, .int .i64 (wrap64 (((aH l0 gL).f1) + ((aH l1 bR).f1)))] (fun k_ => ((P0_ k_ ∨ P1_ k_) ∨ w.heap.size ≤ k_)) (fun k_ => ((fun k_ => ((P0_ k_ ∨ P1_ k_) ∨ w.heap.size ≤ k_))) k_ ∧ some k_ ≠ (u5 : Value).ownBlock) rfl rfl ?aP (fun _ hk => hk) ?aF ?aO ?aB ?aS ?aL ?_; (case aP => exact (Au _ _ (⟨(aH l0 gL).f0, wrap64 (((aH l0 gL).f1) + ((aH l1 bR).f1))⟩ : S51) (Kd.eH (Kd.jr (ok' := (fun k_ => ((fun k_ => ((P0_ k_ ∨ P1_ k_) ∨ w.heap.size ≤ k_))) k_ ∧ some k_ ≠ (u5 : Value).ownBlock)) (FN.out) (fun k_ hk => ⟨hk.1, hk.2⟩))).2.1 (Kd.V_F (Kd.jr (ok' := (fun k_ => ((fun k_ => ((P0_ k_ ∨ P1_ k_) ∨ w.heap.size ≤ k_))) k_ ∧ some k_ ≠ (u5 : Value).ownBlock)) (FN.out) (fun k_ hk => ⟨hk.1, hk.2⟩))))); (case aB => exact zz1); (case aF => exact (fun k_ hk => (.inr (Nat.le_trans (bW zz1) hk)))); (case aO => exact FT); (case aS => exact (bW zz1)); (case aL => have := LMc32.out; omega); intro v392 w34 ho hb hg hat; rw [← Ny391.out] at ho; replace jX := ah.mk (Kd.kG (ok := (fun k_ => ((P0_ k_ ∨ P1_ k_) ∨ w.heap.size ≤ k_))) uF hg hat); replace jU := ah.mk (Kd.kG (ok := (fun k_ => ((P0_ k_ ∨ P1_ k_) ∨ w.heap.size ≤ k_))) CP hg hat); replace CO := ah.mk (Kd.kG (ok := (fun k_ => ((P0_ k_ ∨ P1_ k_) ∨ w.heap.size ≤ k_))) (by (with_reducible repeat (first | apply Kd.iL | apply Kd.iH | apply Kd.gG)); exact CO.out) hg hat); replace CK := ah.mk (Kd.kG (ok := (fun k_ => ((P0_ k_ ∨ P1_ k_) ∨ w.heap.size ≤ k_))) (by (with_reducible repeat (first | apply Kd.iL | apply Kd.iH | apply Kd.gG)); exact CK.out) hg hat); replace FN := ah.mk (Kd.kG (ok := (fun k_ => ((P0_ k_ ∨ P1_ k_) ∨ w.heap.size ≤ k_))) (by (with_reducible repeat (first | apply Kd.iL | apply Kd.iH | apply Kd.gG)); exact FN.out) hg hat); replace HB := ah.mk (hb); have Xe := ah.mk (ho); clear qL; clear ho hb hg hat))
                go_roundg kj5
                case measure => have := HK1.out; have := HJ2.out; have := HJ5.out; omega
                case rel => exact ⟨(y391), (wrap64 (gL + 1)), (wrap64 (bR + 1)), zz2, zz2, H', ⟨zz78⟩, ⟨uF⟩, ⟨CP⟩, ⟨by (with_reducible repeat (first | apply Kd.mq | apply Kd.lU | apply Kd.ko)); exact Xe.out⟩, ⟨zz1⟩⟩
               ·rw [if_neg c32] at H; exact absurd H (by simp)
             ·rw [if_neg c29] at H; exact absurd H (by simp)
            ·rw [if_neg c28] at H; exact absurd H (by simp)
           ·rw [if_neg c27] at H; exact absurd H (by simp)
          ·rw [if_neg c26] at H; exact absurd H (by simp)
     ·replace c5 := Bool.eq_false_iff.mpr c5; subst c5; rw [if_neg (show ¬ (false = true) by decide)] at H; obtain rfl := Option.some.inj H
      go_wp2
      go_ret
      exact ⟨_, zz6, FT, zz1⟩
end Go.Proofs.Ythicocmnefaioaa.QO

import Derived.Test.YthicocmnefaioaaZm2
namespace Go.Proofs.Ythicocmnefaioaa.QS
open Go.RowKit Go.Proofs.YthicocmnefaioaaW.dx Go.Proofs.YthicocmnefaioaaW.jF Go.Proofs.YthicocmnefaioaaW.lI
open Go.Proofs.YthicocmnefaioaaW.Sq
attribute [local go_sem] pY pW sD sw og nZ pX pR
set_option linter.unusedVariables false
set_option linter.unusedSimpArgs false
attribute [local go_sem high] jX
mutual
def dA.j0 : Nat → Int → List Int → Bool → ByteArray → ByteArray → Int → Int → Int → Int → Int → Int → ByteArray → Option (List Int × Int)
 | 0, _, _, _, _, _, _, _, _, _, _, _, _ => none
 | k + 1, x3, x10, x27, X3, X0, XZ, Q7, XY, XW, XV, XU, XT => if x27 = true then (some (x10, 0)) else (if Q7 = 0 then ((bB.f k X3 X0 XZ Q7 XY XW XV XU XT).bind fun l5 => (dA.l0 k x3 x10 l5 (l5.length : Int) 0)) else (some (([] : List Int), 11)))
def dA.l0 : Nat → Int → List Int → List Int → Int → Int → Option (List Int × Int)
 | 0, _, _, _, _, _ => none
 | k + 1, x3, x10, x34, x35, x36 => if x36 < x35 then (if 0 ≤ x36 then (if x36 < (x34.length : Int) then (if 0 ≤ (rd x34 x36) then (if (rd x34 x36) < (x10.length : Int) then (if (rd x10 (rd x34 x36)) < x3 then (some (([] : List Int), 11)) else (dA.l0 k x3 (x10.set ((rd x34 x36) : Int).toNat (wrap64 ((rd x10 (rd x34 x36)) - x3))) x34 x35 (wrap64 (x36 + 1)))) else (none)) else (none)) else (none)) else (none)) else (some (x10, 0))
end
def dA.f (k : Nat) (aU : ByteArray) (aT : ByteArray) (aV : Int) (bH : Int) (bG : Int) (bJ : Int) (l1 : List Int) (fJ : Int) (gD : Int) (gB : ByteArray) (a3 : Int) : Option (List Int × Int) := (jg.f k aU aT aV bH bG bJ l1 fJ gD gB a3).bind fun t242 => (if t242 = true then ((fT.f l1).bind fun OB => (if fJ = 0 then (dA.j0 k a3 OB true aU aT aV bH bG bJ fJ gD gB) else (dA.j0 k a3 OB (a3 == 0) aU aT aV bH bG bJ fJ gD gB))) else (some (([] : List Int), 1)))
theorem dA.gU : ∀ k, (∀ y0 y1 y2 y3 y4 y5 y6 y7 y8 y9 y10 y11, LeO (dA.j0 k y0 y1 y2 y3 y4 y5 y6 y7 y8 y9 y10 y11) (dA.j0 (k + 1) y0 y1 y2 y3 y4 y5 y6 y7 y8 y9 y10 y11)) ∧ (∀ y0 y1 y2 y3 y4, LeO (dA.l0 k y0 y1 y2 y3 y4) (dA.l0 (k + 1) y0 y1 y2 y3 y4))
 | 0 => ⟨fun _ _ _ _ _ _ _ _ _ _ _ _ r h => by simp [dA.j0] at h, fun _ _ _ _ _ r h => by simp [dA.l0] at h⟩
 | k + 1 => by
  obtain ⟨ih0, ih1⟩ := dA.gU k; refine ⟨?_, ?_⟩
  ·intro y0 y1 y2 y3 y4 y5 y6 y7 y8 y9 y10 y11; unfold dA.j0
   repeat' first
   | (with_reducible exact ih0 _ _ _ _ _ _ _ _ _ _ _ _)
   | (with_reducible exact ih1 _ _ _ _ _)
   | (with_reducible exact jg.mono _ _ _ _ _ _ _ _ _ _ _ _)
   | (with_reducible exact bB.mono _ _ _ _ _ _ _ _ _ _)
   | (with_reducible exact LeO.refl _)
   | (with_reducible exact LeO.none _)
   | (with_reducible refine LeO.ite ?_ ?_)
   | (with_reducible refine LeO.bind ?_ (fun _ => ?_))
   | exact ih0 _ _ _ _ _ _ _ _ _ _ _ _
   | exact ih1 _ _ _ _ _
   | exact jg.mono _ _ _ _ _ _ _ _ _ _ _ _
   | exact bB.mono _ _ _ _ _ _ _ _ _ _
   | exact LeO.none _
   | refine LeO.ite ?_ ?_
   | refine LeO.bind ?_ (fun _ => ?_)
  ·intro y0 y1 y2 y3 y4; unfold dA.l0
   repeat' first
   | (with_reducible exact ih0 _ _ _ _ _ _ _ _ _ _ _ _)
   | (with_reducible exact ih1 _ _ _ _ _)
   | (with_reducible exact jg.mono _ _ _ _ _ _ _ _ _ _ _ _)
   | (with_reducible exact bB.mono _ _ _ _ _ _ _ _ _ _)
   | (with_reducible exact LeO.refl _)
   | (with_reducible exact LeO.none _)
   | (with_reducible refine LeO.ite ?_ ?_)
   | (with_reducible refine LeO.bind ?_ (fun _ => ?_))
   | exact ih0 _ _ _ _ _ _ _ _ _ _ _ _
   | exact ih1 _ _ _ _ _
   | exact jg.mono _ _ _ _ _ _ _ _ _ _ _ _
   | exact bB.mono _ _ _ _ _ _ _ _ _ _
   | exact LeO.none _
   | refine LeO.ite ?_ ?_
   | refine LeO.bind ?_ (fun _ => ?_)
theorem dA.mono : ∀ a0 a1 a2 a3 a4 a5 a6 a7 a8 a9 a10 k, LeO (dA.f k a0 a1 a2 a3 a4 a5 a6 a7 a8 a9 a10) (dA.f (k + 1) a0 a1 a2 a3 a4 a5 a6 a7 a8 a9 a10) := by
 intro a0 a1 a2 a3 a4 a5 a6 a7 a8 a9 a10 k; obtain ⟨ih0, ih1⟩ := dA.gU k; unfold dA.f
 repeat' first
   | (with_reducible exact ih0 _ _ _ _ _ _ _ _ _ _ _ _)
   | (with_reducible exact ih1 _ _ _ _ _)
   | (with_reducible exact jg.mono _ _ _ _ _ _ _ _ _ _ _ _)
   | (with_reducible exact bB.mono _ _ _ _ _ _ _ _ _ _)
   | (with_reducible exact LeO.refl _)
   | (with_reducible exact LeO.none _)
   | (with_reducible refine LeO.ite ?_ ?_)
   | (with_reducible refine LeO.bind ?_ (fun _ => ?_))
   | exact ih0 _ _ _ _ _ _ _ _ _ _ _ _
   | exact ih1 _ _ _ _ _
   | exact jg.mono _ _ _ _ _ _ _ _ _ _ _ _
   | exact bB.mono _ _ _ _ _ _ _ _ _ _
   | exact LeO.none _
   | refine LeO.ite ?_ ?_
   | refine LeO.bind ?_ (fun _ => ?_)
set_option maxHeartbeats 8000000 in
set_option maxRecDepth 100000 in
theorem dA.calls (k : Nat) (aU : ByteArray) (aT : ByteArray) (aV : Int) (bH : Int) (bG : Int) (bJ : Int) (A1 : Option Addr) (c1 : Nat) (l1 : List Int) (fJ : Int) (gD : Int) (gB : ByteArray) (a3 : Int) (r1 : List Int) (r2 : Int) (w : World) (hr1 : Kd.C (Kd.int .i64) w A1 l1.length l1) (hc1 : l1.length ≤ c1) (h : dA.f k aU aT aV bH bG bJ l1 fJ gD gB a3 = some (r1, r2)) :
  Calls Try.prog 29 #[.agg #[.string aU, .string aT, .int .i64 aV, .int .i64 bH, .int .i64 bG, .int .i64 bJ], .slice A1 l1.length c1, .agg #[.int .i64 fJ, .int .i64 gD, .string gB], .int .i64 a3] w fun e w' => ∃ v0_ : Value, e = .returned (.tuple #[v0_, .int .i64 r2]) ∧ Kd.R (Kd.int .i64) 2 w' w.heap.size (fun _ => True) v0_ r1 ∧ Below w.heap.size w w' := by
 have ES := Try.underlying30; have vI := Try.underlying23; have HR1 := ah.mk hr1; have HC1 := ah.mk hc1; clear hr1 hc1; have HB := ah.mk (Below.refl w.heap.size w); have H := h; clear h
 dsimp only [dA.f] at H
 replace H := Option.bind_eq_some_iff.mp H; obtain ⟨t242, A50, H⟩ := H; have A5 := ah.mk A50; clear A50
 by_cases c6 : t242 = true
 ·subst c6; rw [if_pos rfl] at H; replace H := Option.bind_eq_some_iff.mp H; obtain ⟨OB, A70, H⟩ := H; have A7 := ah.mk A70; clear A70; have HC8 := ah.mk H; clear H
  go_enter Try.func29, Try.ntmps29
  go_upto_region 4 with (first | ((with_reducible refine bE (N := 4) rfl ?_); refine bC ?hg (N := 4) ?hd (cs := #[.string aU, .string aT, .int .i64 aV, .int .i64 bH, .int .i64 bG, .int .i64 bJ]) (t := 30) ?hr ?_; (case hd => rfl); (case hg => rfl); (case hr => first | (go_simp; done) | (go_simp; rfl)); intro au hg w9 bK hb; have ak := ah.mk (bK); have fO := ah.mk ((zz0 : w.heap.size ≤ au)); have fF := ah.mk ((zz0 : w.heap.size ≤ au)); replace HB := ah.mk (av zz1 hb); clear hb bK hg) | ((with_reducible refine bE (N := 6) rfl ?_); refine bC ?hg (N := 6) ?hd (cs := #[.int .i64 fJ, .int .i64 gD, .string gB]) (t := 23) ?hr ?_; (case hd => rfl); (case hg => rfl); (case hr => first | (go_simp; done) | (go_simp; rfl)); intro aA hg w10 bK hb; have ay := ah.mk (bK); have jD := ah.mk ((jZ : w.heap.size ≤ aA)); have jr := ah.mk ((jZ : w.heap.size ≤ aA)); replace HB := ah.mk (av zz5 hb); have aQ := ah.mk ((DJ : au ≠ aA)); have aY := ah.mk ((DI : aA ≠ au)); replace ak := ah.mk (aG (g := au) (o := .cells #[.string aU, .string aT, .int .i64 aV, .int .i64 bH, .int .i64 bG, .int .i64 bJ] 30 (0, 0)) zz4 hb); clear hb bK hg; have hnb11 := aQ.out; have hnc11 := aY.out; have ow : w10.cell? ⟨au, 0, none⟩ = some (.string aU) := cK ak 0; have ou : w10.cell? ⟨au, 1, none⟩ = some (.string aT) := cK ak 1; have oq : w10.cell? ⟨au, 2, none⟩ = some (.int .i64 aV) := cK ak 2; have vC : w10.cell? ⟨au, 3, none⟩ = some (.int .i64 bH) := cK ak 3; have vB : w10.cell? ⟨au, 4, none⟩ = some (.int .i64 bG) := cK ak 4; have vw : w10.cell? ⟨au, 5, none⟩ = some (.int .i64 bJ) := cK ak 5; have oo := aj ak.out 0; have om := aj ak.out 1; have oh := aj ak.out 2; have vv := aj ak.out 3; have vo := aj ak.out 4; have vk := aj ak.out 5; have oV : w10.cell? ⟨aA, 0, none⟩ = some (.int .i64 fJ) := cK ay 0; have oU : w10.cell? ⟨aA, 1, none⟩ = some (.int .i64 gD) := cK ay 1; have oQ : w10.cell? ⟨aA, 2, none⟩ = some (.string gB) := cK ay 2; have oM := aj ay.out 0; have oL := aj ay.out 1; have oK := aj ay.out 2) | ((with_reducible refine aN (f := 65) rfl ?_); refine bU (some 17) rfl rfl Try.func65 (by kernel_rfl) rfl #[.agg #[.string aU, .string aT, .int .i64 aV, .int .i64 bH, .int .i64 bG, .int .i64 bJ], .slice A1 l1.length c1, .agg #[.int .i64 fJ, .int .i64 gD, .string gB], .int .i64 a3] rfl zz8 ?_; (with_reducible refine (jg.calls k aU aT aV bH bG bJ _ _ l1 fJ gD gB a3 true _ ?bO ?bR A5.out).mono ?_); (case bO => repeat (first | exact (Kd.eZ HR1.out HB.out) | (with_reducible refine Kd.dF ?_ _) | (with_reducible refine Kd.dI ?_ _) | (with_reducible refine Kd.dZ ?_))); (case bR => exact HC1.out); rintro e w14 ⟨rfl, hb⟩; refine ⟨_, rfl, ?_⟩; replace ak := ah.mk (aG (g := au) (o := .cells #[.string aU, .string aT, .int .i64 aV, .int .i64 bH, .int .i64 bG, .int .i64 bJ] 30 (0, 0)) zz4 hb); replace ay := ah.mk (aG (g := aA) (o := .cells #[.int .i64 fJ, .int .i64 gD, .string gB] 23 (0, 0)) iJ hb); replace HB := ah.mk (av fP hb); (try clear hb); (try clear hb2); (try clear hk); (try clear hi)) | ((with_reducible refine aN (f := 66) rfl ?_); refine bU (some 20) rfl rfl Try.func66 (by kernel_rfl) rfl #[.slice A1 l1.length c1] rfl zz8 ?_; (with_reducible refine (fT.calls _ _ l1 OB _ ?bO ?bR A7.out).mono ?_); (case bO => repeat (first | exact (Kd.eZ HR1.out HB.out) | (with_reducible refine Kd.dF ?_ _) | (with_reducible refine Kd.dI ?_ _) | (with_reducible refine Kd.dZ ?_))); (case bR => exact HC1.out); rintro e w15 ⟨v244, rfl, ho0, hb⟩; refine ⟨_, rfl, ?_⟩; have iT := ah.mk (Kd.jC ho0 (bS fP)); replace ak := ah.mk (aG (g := au) (o := .cells #[.string aU, .string aT, .int .i64 aV, .int .i64 bH, .int .i64 bG, .int .i64 bJ] 30 (0, 0)) zz4 hb); replace ay := ah.mk (aG (g := aA) (o := .cells #[.int .i64 fJ, .int .i64 gD, .string gB] 23 (0, 0)) iJ hb); replace HB := ah.mk (av fP hb); (try clear hb); (try clear hb2); (try clear hk); (try clear hi); (try clear ho0)))
  (try simp only [Act.put, List.setIfInBounds_toArray, List.set_cons_zero, List.set_cons_succ])
  go_cut [27] (fun v27 wc => ∃ (kq : Nat) (QW : Bool), v27 = .bool QW ∧ ah (dA.j0 kq a3 OB QW aU aT aV bH bG bJ fJ gD gB = some (r1, r2)) ∧ ah (kq ≤ k) ∧ ah (Kd.R (Kd.int .i64) 2 wc w.heap.size (fun _ => True) v244 OB) ∧ ah (wc.heap[au]? = some (.cells #[.string aU, .string aT, .int .i64 aV, .int .i64 bH, .int .i64 bG, .int .i64 bJ] 30 (0, 0))) ∧ ah (wc.heap[aA]? = some (.cells #[.int .i64 fJ, .int .i64 gD, .string gB] 23 (0, 0))) ∧ ah (Below w.heap.size w wc))
  case first =>
   have H := HC8.out; clear HC8
   by_cases c16 : fJ = 0
   ·rw [if_pos c16] at H; have lU : (fJ == 0) = true := beq_iff_eq.mpr c16; have uH : (fJ != 0) = false := bne_eq_false_iff_eq.mpr c16; clear c16; (first | rw [lU] | (simp only [dS, eP]; rw [lU]) | skip); have H' := ah.mk H; clear H; have hnb17 := aY.out; have hnc17 := aQ.out; have zy : w15.cell? ⟨aA, 0, none⟩ = some (.int .i64 fJ) := cK ay 0; have zx : w15.cell? ⟨aA, 1, none⟩ = some (.int .i64 gD) := cK ay 1; have Dh : w15.cell? ⟨aA, 2, none⟩ = some (.string gB) := cK ay 2; have CO := aj ay.out 0; have zm := aj ay.out 1; have CK := aj ay.out 2
    go_wp2
    go_meet
    case rel => exact ⟨_, (true), zz2, H', ⟨zz3⟩, ⟨N8⟩, ⟨zz4⟩, ⟨iJ⟩, ⟨fP⟩⟩
   ·rw [if_neg c16] at H; have lU : (fJ == 0) = false := beq_eq_false_iff_ne.mpr c16; have uH : (fJ != 0) = true := bne_iff_ne.mpr c16; (first | rw [lU] | (simp only [dS, eP]; rw [lU]) | skip); have H' := ah.mk H; clear H; have hnb19 := aY.out; have hnc19 := aQ.out; have qj : w15.cell? ⟨aA, 0, none⟩ = some (.int .i64 fJ) := cK ay 0; have qh : w15.cell? ⟨aA, 1, none⟩ = some (.int .i64 gD) := cK ay 1; have tO : w15.cell? ⟨aA, 2, none⟩ = some (.string gB) := cK ay 2; have qZ := aj ay.out 0; have qd := aj ay.out 1; have tJ := aj ay.out 2
    go_wp2
    go_meet
    case rel => exact ⟨_, ((a3 == 0)), zz2, H', ⟨zz3⟩, ⟨N8⟩, ⟨zz4⟩, ⟨iJ⟩, ⟨fP⟩⟩
  case rest =>
   clear HC8; (try clear c1); (try clear c2); (try clear p2); (try clear c6); (try clear c11); (try clear c16); (try clear lU); (try clear uH); (try clear c17); (try clear c19); (try clear ow); (try clear ou); (try clear oq); (try clear vC); (try clear vB); (try clear vw); (try clear oV); (try clear oU); (try clear oQ); (try clear zy); (try clear zx); (try clear Dh); (try clear qj); (try clear qh); (try clear tO); (try clear oo); (try clear om); (try clear oh); (try clear vv); (try clear vo); (try clear vk); (try clear oM); (try clear oL); (try clear oK); (try clear CO); (try clear zm); (try clear CK); (try clear qZ); (try clear qd); (try clear tJ); obtain ⟨kq, QW, rfl, HA, HJ7, uN, ak, ay, HB⟩ := hcut
   cases kq with
   | zero => exact absurd HA.out (by simp [dA.j0])
   | succ kj7 =>
    have H := HA.out; clear HA; simp only [dA.j0] at H
    by_cases c21 : QW = true
    ·subst c21; rw [if_pos rfl] at H; simp only [Option.some.injEq, Prod.mk.injEq] at H; obtain ⟨rfl, rfl⟩ := H
     go_wp2
     go_ret2
     exact ⟨_, zz6, zz55, fP⟩
    ·replace c21 := Bool.eq_false_iff.mpr c21; subst c21; rw [if_neg (show ¬ (false = true) by decide)] at H
     by_cases c22 : bH = 0
     ·rw [if_pos c22] at H; have H6 : (bH == 0) = true := beq_iff_eq.mpr c22; have TV : (bH != 0) = false := bne_eq_false_iff_eq.mpr c22; clear c22; replace H := Option.bind_eq_some_iff.mp H; obtain ⟨l5, A230, H⟩ := H; have A23 := ah.mk A230; clear A230; have H' := ah.mk H; clear H; have hnb24 := aQ.out; have hnc24 := aY.out; have C8 : wc.cell? ⟨au, 0, none⟩ = some (.string aU) := cK ak 0; have CZ : wc.cell? ⟨au, 1, none⟩ = some (.string aT) := cK ak 1; have CY : wc.cell? ⟨au, 2, none⟩ = some (.int .i64 aV) := cK ak 2; have Z9 : wc.cell? ⟨au, 3, none⟩ = some (.int .i64 bH) := cK ak 3; have Z8 : wc.cell? ⟨au, 4, none⟩ = some (.int .i64 bG) := cK ak 4; have Z7 : wc.cell? ⟨au, 5, none⟩ = some (.int .i64 bJ) := cK ak 5; have Cx := aj ak.out 0; have Cw := aj ak.out 1; have Cv := aj ak.out 2; have Zp := aj ak.out 3; have Zo := aj ak.out 4; have Zn := aj ak.out 5; have zw : wc.cell? ⟨aA, 0, none⟩ = some (.int .i64 fJ) := cK ay 0; have zu : wc.cell? ⟨aA, 1, none⟩ = some (.int .i64 gD) := cK ay 1; have CX : wc.cell? ⟨aA, 2, none⟩ = some (.string gB) := cK ay 2; have zl := aj ay.out 0; have zk := aj ay.out 1; have Cu := aj ay.out 2
      go_wp2_with (first | ((with_reducible refine aN (f := 67) rfl ?_); refine bU (some 34) rfl rfl Try.func67 (by kernel_rfl) rfl #[.agg #[.string aU, .string aT, .int .i64 aV, .int .i64 bH, .int .i64 bG, .int .i64 bJ], .agg #[.int .i64 fJ, .int .i64 gD, .string gB]] rfl zz8 ?_; (with_reducible refine (bB.calls kj7 aU aT aV bH bG bJ fJ gD gB l5 _ A23.out).mono ?_); rintro e w27 ⟨v247, rfl, ho0, hb⟩; refine ⟨_, rfl, ?_⟩; replace uN := ah.mk (Kd.gP zz55 hb); have kT := ah.mk (Kd.jC ho0 (bS fP)); replace ak := ah.mk (aG (g := au) (o := .cells #[.string aU, .string aT, .int .i64 aV, .int .i64 bH, .int .i64 bG, .int .i64 bJ] 30 (0, 0)) zz4 hb); replace ay := ah.mk (aG (g := aA) (o := .cells #[.int .i64 fJ, .int .i64 gD, .string gB] 23 (0, 0)) iJ hb); replace HB := ah.mk (av fP hb); (try clear hb); (try clear hb2); (try clear hk); (try clear hi); (try clear ho0); obtain ⟨Ao28, co28, eo28⟩ := Kd.fH kT.out; subst eo28))
      go_loopg [36] kj7 (fun kq v36 w' => ∃ (l8 : List Int) (fq : Int), v36 = .int .i64 fq ∧ ah (dA.l0 kq a3 l8 l5 (l5.length : Int) fq = some (r1, r2)) ∧ ah (kq ≤ kj7) ∧ ah (Kd.R (Kd.int .i64) 2 w' w.heap.size (fun _ => True) v244 l8) ∧ ah (Kd.R (Kd.int .i64) 3 w' w.heap.size (fun _ => True) (.slice Ao28 l5.length co28) l5) ∧ ah (w'.heap[au]? = some (.cells #[.string aU, .string aT, .int .i64 aV, .int .i64 bH, .int .i64 bG, .int .i64 bJ] 30 (0, 0))) ∧ ah (w'.heap[aA]? = some (.cells #[.int .i64 fJ, .int .i64 gD, .string gB] 23 (0, 0))) ∧ ah (Below w.heap.size w w'))
      case atStart => exact ⟨(OB), (0), zz2, H', ⟨Nat.le_refl _⟩, ⟨zz55⟩, ⟨zz33⟩, ⟨zz4⟩, ⟨iJ⟩, ⟨fP⟩⟩
      case round =>
       clear H'; (try clear c1); (try clear c2); (try clear p2); (try clear c6); (try clear c11); (try clear c16); (try clear lU); (try clear uH); (try clear c17); (try clear c19); (try clear c21); (try clear c22); (try clear H6); (try clear TV); (try clear c24); (try clear ow); (try clear ou); (try clear oq); (try clear vC); (try clear vB); (try clear vw); (try clear oV); (try clear oU); (try clear oQ); (try clear zy); (try clear zx); (try clear Dh); (try clear qj); (try clear qh); (try clear tO); (try clear C8); (try clear CZ); (try clear CY); (try clear Z9); (try clear Z8); (try clear Z7); (try clear zw); (try clear zu); (try clear CX); (try clear oo); (try clear om); (try clear oh); (try clear vv); (try clear vo); (try clear vk); (try clear oM); (try clear oL); (try clear oK); (try clear CO); (try clear zm); (try clear CK); (try clear qZ); (try clear qd); (try clear tJ); (try clear Cx); (try clear Cw); (try clear Cv); (try clear Zp); (try clear Zo); (try clear Zn); (try clear zl); (try clear zk); (try clear Cu); (try clear p2); obtain ⟨l8, fq, rfl, HA, HK2, uN, Dz, ak, ay, HB⟩ := hrel
       cases gk with
       | zero => exact absurd HA.out (by simp [dA.l0])
       | succ k2 =>
        have H := HA.out; clear HA; simp only [dA.l0] at H
        by_cases c29 : fq < (l5.length : Int)
        ·rw [if_pos c29] at H; have TU : decide (fq < (l5.length : Int)) = true := decide_eq_true c29; clear c29
         by_cases c30 : 0 ≤ fq
         ·rw [if_pos c30] at H; have HZ : decide (0 ≤ fq) = true := decide_eq_true c30; clear c30
          by_cases c31 : fq < (l5.length : Int)
          ·rw [if_pos c31] at H; have TT : decide (fq < (l5.length : Int)) = true := decide_eq_true c31; clear c31
           by_cases c32 : 0 ≤ (rd l5 fq)
           ·rw [if_pos c32] at H; have NG : decide (0 ≤ (rd l5 fq)) = true := decide_eq_true c32; clear c32
            by_cases c33 : (rd l5 fq) < (l8.length : Int)
            ·rw [if_pos c33] at H; have ND : decide ((rd l5 fq) < (l8.length : Int)) = true := decide_eq_true c33; clear c33
             by_cases c34 : (rd l8 (rd l5 fq)) < a3
             ·rw [if_pos c34] at H; have EB : decide ((rd l8 (rd l5 fq)) < a3) = true := decide_eq_true c34; clear c34; simp only [Option.some.injEq, Prod.mk.injEq] at H; obtain ⟨rfl, rfl⟩ := H; have Pn : 0 ≤ (fq : Int) := of_decide_eq_true zz9; have OV : fq < (l5.length : Int) := of_decide_eq_true zz9; obtain ⟨ad249, e249, YF⟩ := Kd.jq (Kd.dw Dz.out).2.2 fq Pn OV
              cases e249
              replace Pn := eq_true Pn; replace OV := eq_true OV; obtain ⟨Ao35, co35, eo35⟩ := Kd.fH uN.out; subst eo35; have Pm : 0 ≤ ((rd l5 fq) : Int) := of_decide_eq_true zz9; have OU : (rd l5 fq) < (l8.length : Int) := of_decide_eq_true zz9; obtain ⟨ad250, e250, RA⟩ := Kd.jq (Kd.dw uN.out).2.2 (rd l5 fq) Pm OU
              cases e250
              replace Pm := eq_true Pm; replace OU := eq_true OU
              go_wp2
              go_ret2
              exact ⟨_, zz6, II, fP⟩
             ·rw [if_neg c34] at H; have EB : decide ((rd l8 (rd l5 fq)) < a3) = false := decide_eq_false c34; clear c34; obtain ⟨y252, MZ⟩ : ∃ y_ : List Int, y_ = (l8.set ((rd l5 fq) : Int).toNat (wrap64 ((rd l8 (rd l5 fq)) - a3))) := ⟨_, rfl⟩; replace H : (dA.l0 k2 a3 y252 l5 (l5.length : Int) (wrap64 (fq + 1))) = some (r1, r2) := by first | (rw [MZ]; with_reducible exact H) | (have H2_ := (Option.bind_some _ _).symm.trans H; rw [MZ]; with_reducible exact H2_) | (have H2_ := (Option.bind_some _ _).symm.trans H; with_reducible exact H2_) | with_reducible exact H | (rw [MZ]; exact H) | exact H
              have Ny252 := ah.mk MZ; clear MZ; have H' := ah.mk H; clear H; have Pn : 0 ≤ (fq : Int) := of_decide_eq_true zz9; have OV : fq < (l5.length : Int) := of_decide_eq_true zz9; obtain ⟨ad249, e249, YF⟩ := Kd.jq (Kd.dw Dz.out).2.2 fq Pn OV
              cases e249
              replace Pn := eq_true Pn; replace OV := eq_true OV; obtain ⟨Ao37, Nw, Nt⟩ := Kd.fH uN.out; subst Nt; have Pm : 0 ≤ ((rd l5 fq) : Int) := of_decide_eq_true zz9; have OU : (rd l5 fq) < (l8.length : Int) := of_decide_eq_true zz9; obtain ⟨ad250, e250, RA⟩ := Kd.jq (Kd.dw uN.out).2.2 (rd l5 fq) Pm OU
              cases e250
              replace Pm := eq_true Pm; replace OU := eq_true OU; have p251 : 0 ≤ ((rd l5 fq) : Int) := of_decide_eq_true zz9; have q251 : (rd l5 fq) < (l8.length : Int) := of_decide_eq_true zz9; obtain ⟨ad251, e251, YE⟩ := Kd.jq (Kd.dw uN.out).2.2 (rd l5 fq) p251 q251; obtain rfl : ad250 = ad251 := (by injection e251); replace p251 := eq_true p251; replace q251 := eq_true q251; have p36 : 0 ≤ ((rd l5 fq) : Int) := of_decide_eq_true zz9; have q36 : ((rd l5 fq) : Int) < ((l8.length : Int) : Int) := of_decide_eq_true zz9; obtain ⟨IX, co36, Qu, gb36, gl36, cl36, HG36⟩ := Kd.Ei uN.out (by omega); (first | cases Qu | (injection Qu with ea_ en_ ec_; (first | subst ea_ | (injection ea_ with ea_; subst ea_)); subst ec_; clear en_)); have GB36 := ah.mk gb36; have GG36 := ah.mk HG36; clear gb36 gl36 HG36; (first | simp only [add_plain] at RA | skip); (first | simp only [add_plain] at YE | skip); obtain ⟨hx36_0, hf36_0⟩ := Kd.Dx 0 uN.out ((rd l5 fq) : Int) p36 q36; replace p36 := eq_true p36; replace q36 := eq_true q36; have HP38 := Kd.Im uN.out ((rd l5 fq) : Int) (wrap64 ((rd l8 (rd l5 fq)) - a3))
              go_wp2_with (first | ((with_reducible refine pq (t := 2) (p := 52) rfl ?_); refine nX (t := 2) (p := 52) (v := ?vo_w39) (w1 := (wr.setCell ⟨IX, ((rd l5 fq) : Int).toNat, none⟩ (.int .i64 (wrap64 ((rd l8 (rd l5 fq)) - a3))))) ?hg ?ho ?hn ?hr ?_; (case ho => rfl); (case hg => rfl); (case hn => rfl); (case hr => first | (go_simp; done) | (go_simp; rfl)); intro w39 hw; have hg : wr.grownBy w39 (some IX) := (by rw [hw]; exact HP38.2); have hp_ : Kd.R (Kd.int .i64) 2 w39 w.heap.size (fun _ => True) (.slice (some ⟨IX, 0, none⟩) l8.length Nw) y252 := (by rw [hw, Ny252.out]; exact HP38.1); clear HP38; replace Dz := ah.mk (Kd.F6 (v := (.slice (some ⟨IX, 0, none⟩) l8.length Nw)) Uv (Kd.vF uN.out) (by decide) hg); replace ak := ah.mk (iU (g := au) (o := .cells #[.string aU, .string aT, .int .i64 aV, .int .i64 bH, .int .i64 bG, .int .i64 bJ] 30 (0, 0)) zz4 hg (Kd.qP uN.out ak.out (by decide))); replace ay := ah.mk (iU (g := aA) (o := .cells #[.int .i64 fJ, .int .i64 gD, .string gB] 23 (0, 0)) iJ hg (Kd.qP uN.out ay.out (by decide))); replace uN := ah.mk (hp_); replace HB := ah.mk ((by rw [hw]; exact cu (HB.out) GB36.out : Below w.heap.size w w39)); clear hg hw hp_))
              go_roundg k2
              case measure => have := HJ7.out; have := HK2.out; omega
              case rel => exact ⟨(y252), (wrap64 (fq + 1)), zz2, H', ⟨by have := HJ7.out; have := HK2.out; omega⟩, ⟨zz55⟩, ⟨Uv⟩, ⟨zz4⟩, ⟨iJ⟩, ⟨fP⟩⟩
            ·rw [if_neg c33] at H; exact absurd H (by simp)
           ·rw [if_neg c32] at H; exact absurd H (by simp)
          ·rw [if_neg c31] at H; exact absurd H (by simp)
         ·rw [if_neg c30] at H; exact absurd H (by simp)
        ·rw [if_neg c29] at H; have TU : decide (fq < (l5.length : Int)) = false := decide_eq_false c29; clear c29; simp only [Option.some.injEq, Prod.mk.injEq] at H; obtain ⟨rfl, rfl⟩ := H
         go_wp2
         go_ret2
         exact ⟨_, zz6, zz55, fP⟩
     ·rw [if_neg c22] at H; have H6 : (bH == 0) = false := beq_eq_false_iff_ne.mpr c22; have TV : (bH != 0) = true := bne_iff_ne.mpr c22; simp only [Option.some.injEq, Prod.mk.injEq] at H; obtain ⟨rfl, rfl⟩ := H; have hnb40 := aQ.out; have hnc40 := aY.out; have hcz41_0 : wc.cell? ⟨au, 0, none⟩ = some (.string aU) := cK ak 0; have hcz41_1 : wc.cell? ⟨au, 1, none⟩ = some (.string aT) := cK ak 1; have hcz41_2 : wc.cell? ⟨au, 2, none⟩ = some (.int .i64 aV) := cK ak 2; have hcz41_3 : wc.cell? ⟨au, 3, none⟩ = some (.int .i64 bH) := cK ak 3; have hcz41_4 : wc.cell? ⟨au, 4, none⟩ = some (.int .i64 bG) := cK ak 4; have hcz41_5 : wc.cell? ⟨au, 5, none⟩ = some (.int .i64 bJ) := cK ak 5; have hfz41_0 := aj ak.out 0; have hfz41_1 := aj ak.out 1; have hfz41_2 := aj ak.out 2; have hfz41_3 := aj ak.out 3; have hfz41_4 := aj ak.out 4; have hfz41_5 := aj ak.out 5
      go_wp2
      go_ret2
      exact ⟨_, zz6, II, fP⟩
 ·replace c6 := Bool.eq_false_iff.mpr c6; subst c6; rw [if_neg (show ¬ (false = true) by decide)] at H; simp only [Option.some.injEq, Prod.mk.injEq] at H; obtain ⟨rfl, rfl⟩ := H
  go_enter Try.func29, Try.ntmps29
  go_wp2_with (first | ((with_reducible refine bE (N := 4) rfl ?_); refine bC ?hg (N := 4) ?hd (cs := #[.string aU, .string aT, .int .i64 aV, .int .i64 bH, .int .i64 bG, .int .i64 bJ]) (t := 30) ?hr ?_; (case hd => rfl); (case hg => rfl); (case hr => first | (go_simp; done) | (go_simp; rfl)); intro au hg w42 bK hb; have ak := ah.mk (bK); have fO := ah.mk ((zz0 : w.heap.size ≤ au)); have fF := ah.mk ((zz0 : w.heap.size ≤ au)); replace HB := ah.mk (av zz1 hb); clear hb bK hg) | ((with_reducible refine bE (N := 6) rfl ?_); refine bC ?hg (N := 6) ?hd (cs := #[.int .i64 fJ, .int .i64 gD, .string gB]) (t := 23) ?hr ?_; (case hd => rfl); (case hg => rfl); (case hr => first | (go_simp; done) | (go_simp; rfl)); intro aA hg w43 bK hb; have ay := ah.mk (bK); have jD := ah.mk ((jZ : w.heap.size ≤ aA)); have jr := ah.mk ((jZ : w.heap.size ≤ aA)); replace HB := ah.mk (av zz5 hb); have aQ := ah.mk ((DJ : au ≠ aA)); have aY := ah.mk ((DI : aA ≠ au)); replace ak := ah.mk (aG (g := au) (o := .cells #[.string aU, .string aT, .int .i64 aV, .int .i64 bH, .int .i64 bG, .int .i64 bJ] 30 (0, 0)) zz4 hb); clear hb bK hg; have hnb44 := aQ.out; have hnc44 := aY.out; have hcz45_0 : w43.cell? ⟨au, 0, none⟩ = some (.string aU) := cK ak 0; have hcz45_1 : w43.cell? ⟨au, 1, none⟩ = some (.string aT) := cK ak 1; have hcz45_2 : w43.cell? ⟨au, 2, none⟩ = some (.int .i64 aV) := cK ak 2; have hcz45_3 : w43.cell? ⟨au, 3, none⟩ = some (.int .i64 bH) := cK ak 3; have hcz45_4 : w43.cell? ⟨au, 4, none⟩ = some (.int .i64 bG) := cK ak 4; have hcz45_5 : w43.cell? ⟨au, 5, none⟩ = some (.int .i64 bJ) := cK ak 5; have hfz45_0 := aj ak.out 0; have hfz45_1 := aj ak.out 1; have hfz45_2 := aj ak.out 2; have hfz45_3 := aj ak.out 3; have hfz45_4 := aj ak.out 4; have hfz45_5 := aj ak.out 5; have Tm : w43.cell? ⟨aA, 0, none⟩ = some (.int .i64 fJ) := cK ay 0; have Tk : w43.cell? ⟨aA, 1, none⟩ = some (.int .i64 gD) := cK ay 1; have Tj : w43.cell? ⟨aA, 2, none⟩ = some (.string gB) := cK ay 2; have Sv := aj ay.out 0; have Sr := aj ay.out 1; have Sn := aj ay.out 2) | ((with_reducible refine aN (f := 65) rfl ?_); refine bU (some 17) rfl rfl Try.func65 (by kernel_rfl) rfl #[.agg #[.string aU, .string aT, .int .i64 aV, .int .i64 bH, .int .i64 bG, .int .i64 bJ], .slice A1 l1.length c1, .agg #[.int .i64 fJ, .int .i64 gD, .string gB], .int .i64 a3] rfl zz8 ?_; (with_reducible refine (jg.calls k aU aT aV bH bG bJ _ _ l1 fJ gD gB a3 false _ ?bO ?bR A5.out).mono ?_); (case bO => repeat (first | exact (Kd.eZ HR1.out HB.out) | (with_reducible refine Kd.dF ?_ _) | (with_reducible refine Kd.dI ?_ _) | (with_reducible refine Kd.dZ ?_))); (case bR => exact HC1.out); rintro e w47 ⟨rfl, hb⟩; refine ⟨_, rfl, ?_⟩; replace ak := ah.mk (aG (g := au) (o := .cells #[.string aU, .string aT, .int .i64 aV, .int .i64 bH, .int .i64 bG, .int .i64 bJ] 30 (0, 0)) zz4 hb); replace ay := ah.mk (aG (g := aA) (o := .cells #[.int .i64 fJ, .int .i64 gD, .string gB] 23 (0, 0)) iJ hb); replace HB := ah.mk (av fP hb); (try clear hb); (try clear hb2); (try clear hk); (try clear hi)))
  go_ret2
  exact ⟨_, zz6, II, fP⟩
def bits_Mul64.f (a0 : Int) (a1 : Int) : Option (Int × Int) := some (IntKind.u64.wrap ((IntKind.u64.wrap ((IntKind.u64.wrap ((a0 / 4294967296) * (a1 / 4294967296))) + ((IntKind.u64.wrap ((IntKind.u64.wrap ((a0 / 4294967296) * (Go.bits .and .u64 a1 4294967295))) + ((IntKind.u64.wrap ((Go.bits .and .u64 a0 4294967295) * (Go.bits .and .u64 a1 4294967295))) / 4294967296))) / 4294967296))) + ((IntKind.u64.wrap ((Go.bits .and .u64 (IntKind.u64.wrap ((IntKind.u64.wrap ((a0 / 4294967296) * (Go.bits .and .u64 a1 4294967295))) + ((IntKind.u64.wrap ((Go.bits .and .u64 a0 4294967295) * (Go.bits .and .u64 a1 4294967295))) / 4294967296))) 4294967295) + (IntKind.u64.wrap ((Go.bits .and .u64 a0 4294967295) * (a1 / 4294967296))))) / 4294967296)), IntKind.u64.wrap (a0 * a1))
set_option maxHeartbeats 8000000 in
set_option maxRecDepth 100000 in
theorem bits_Mul64.calls (a0 : Int) (a1 : Int) (r1 : Int) (r2 : Int) (w : World) (h : bits_Mul64.f a0 a1 = some (r1, r2)) :
  Calls Try.prog 97 #[.int .u64 a0, .int .u64 a1] w fun e w' => e = .returned (.tuple #[.int .u64 r1, .int .u64 r2]) ∧ mG w w' := by
 have H := h; clear h
 dsimp only [bits_Mul64.f] at H
 simp only [Option.some.injEq, Prod.mk.injEq] at H; obtain ⟨rfl, rfl⟩ := H
 go_enter Try.func97, Try.ntmps97
 go_wp2
 go_ret2
 exact ⟨zz2, zz7⟩
def uI.f (a0 : Int) (a1 : Int) (a2 : Int) : Option (Int × Int) := none
theorem uI.calls (a0 : Int) (a1 : Int) (a2 : Int) (r1 : Int) (r2 : Int) (w : World) (h : uI.f a0 a1 a2 = some (r1, r2)) :
  Calls Try.prog 98 #[.int .u64 a0, .int .u64 a1, .int .u64 a2] w fun e w' => e = .returned (.tuple #[.int .u64 r1, .int .u64 r2]) ∧ mG w w' := by
 cases h
def dG.j0 : Nat → List Int → Bool → ByteArray → ByteArray → Int → Int → Int → Int → Option (Int)
 | 0, _, _, _, _, _, _, _, _ => none
 | k + 1, x1, x23, x254000, x254001, x254002, x254003, XR, x254005 => if x23 = true then (some (x1.length : Int)) else (if 0 ≤ (wrap64 ((x1.length : Int) - 1)) then (if (wrap64 ((x1.length : Int) - 1)) < (x1.length : Int) then ((bits_Mul64.f (IntKind.u64.wrap (wrap64 (XR - 1))) 4611686018427387904).bind fun Ig => (if Ig.1 ≥ (IntKind.u64.wrap (rd x1 (wrap64 ((x1.length : Int) - 1)))) then (some 4611686018427387904) else ((uI.f Ig.1 Ig.2 (IntKind.u64.wrap (rd x1 (wrap64 ((x1.length : Int) - 1))))).bind fun WT => (some (wrap64 (mn WT.1 4611686018427387904)))))) else (none)) else (none))
def dG.f (k : Nat) (aU : ByteArray) (aT : ByteArray) (aV : Int) (bH : Int) (bG : Int) (bJ : Int) (l1 : List Int) : Option (Int) := if (l1.length : Int) < bG then (dG.j0 k l1 true aU aT aV bH bG bJ) else (if 0 ≤ (wrap64 ((l1.length : Int) - 1)) then (if (wrap64 ((l1.length : Int) - 1)) < (l1.length : Int) then (dG.j0 k l1 ((rd l1 (wrap64 ((l1.length : Int) - 1))) == 0) aU aT aV bH bG bJ) else (none)) else (none))
theorem dG.gU : ∀ k, (∀ y0 y1 y2 y3 y4 y5 y6 y7, LeO (dG.j0 k y0 y1 y2 y3 y4 y5 y6 y7) (dG.j0 (k + 1) y0 y1 y2 y3 y4 y5 y6 y7))
 | 0 => fun _ _ _ _ _ _ _ _ r h => by simp [dG.j0] at h
 | k + 1 => by
  have ih0 := dG.gU k
  ·intro y0 y1 y2 y3 y4 y5 y6 y7; unfold dG.j0
   repeat' first
   | (with_reducible exact ih0 _ _ _ _ _ _ _ _)
   | (with_reducible exact LeO.refl _)
   | (with_reducible exact LeO.none _)
   | (with_reducible refine LeO.ite ?_ ?_)
   | (with_reducible refine LeO.bind ?_ (fun _ => ?_))
   | exact ih0 _ _ _ _ _ _ _ _
   | exact LeO.none _
   | refine LeO.ite ?_ ?_
   | refine LeO.bind ?_ (fun _ => ?_)
theorem dG.mono : ∀ a0 a1 a2 a3 a4 a5 a6 k, LeO (dG.f k a0 a1 a2 a3 a4 a5 a6) (dG.f (k + 1) a0 a1 a2 a3 a4 a5 a6) := by
 intro a0 a1 a2 a3 a4 a5 a6 k; have ih0 := dG.gU k; unfold dG.f
 repeat' first
   | (with_reducible exact ih0 _ _ _ _ _ _ _ _)
   | (with_reducible exact LeO.refl _)
   | (with_reducible exact LeO.none _)
   | (with_reducible refine LeO.ite ?_ ?_)
   | (with_reducible refine LeO.bind ?_ (fun _ => ?_))
   | exact ih0 _ _ _ _ _ _ _ _
   | exact LeO.none _
   | refine LeO.ite ?_ ?_
   | refine LeO.bind ?_ (fun _ => ?_)
set_option maxHeartbeats 8000000 in
set_option maxRecDepth 100000 in
theorem dG.calls (k : Nat) (aU : ByteArray) (aT : ByteArray) (aV : Int) (bH : Int) (bG : Int) (bJ : Int) (A1 : Option Addr) (c1 : Nat) (l1 : List Int) (r : Int) (w : World) (hr1 : Kd.C (Kd.int .i64) w A1 l1.length l1) (hc1 : l1.length ≤ c1) (h : dG.f k aU aT aV bH bG bJ l1 = some r) :
  Calls Try.prog 68 #[.agg #[.string aU, .string aT, .int .i64 aV, .int .i64 bH, .int .i64 bG, .int .i64 bJ], .slice A1 l1.length c1] w fun e w' => e = .returned (.int .i64 r) ∧ Below w.heap.size w w' := by
 have ES := Try.underlying30; have HR1 := ah.mk hr1; have HC1 := ah.mk hc1; clear hr1 hc1; have HB := ah.mk (Below.refl w.heap.size w); have H := h; clear h
 dsimp only [dG.f] at H
 have HC3 := ah.mk H; clear H
 go_enter Try.func68, Try.ntmps68
 go_upto_region 1 with (first | ((with_reducible refine bE (N := 2) rfl ?_); (try (refine gM (by rfl) ?_; dsimp only)); refine bC ?hg (N := 2) ?hd (cs := #[.string aU, .string aT, .int .i64 aV, .int .i64 bH, .int .i64 bG, .int .i64 bJ]) (t := 30) ?hr ?_; (case hd => rfl); (case hg => rfl); (case hr => first | (go_simp; done) | (go_simp; rfl)); intro au hg w4 bK hb; have ak := ah.mk (bK); have fO := ah.mk ((zz0 : w.heap.size ≤ au)); have fF := ah.mk ((zz0 : w.heap.size ≤ au)); replace HB := ah.mk (av zz1 hb); clear hb bK hg))
 (try simp only [Act.put, List.setIfInBounds_toArray, List.set_cons_zero, List.set_cons_succ])
 go_cut [23] (fun v23 wc => ∃ (kq : Nat) (Q8 : Bool), v23 = .bool Q8 ∧ ah (dG.j0 kq l1 Q8 aU aT aV bH bG bJ = some r) ∧ ah (kq ≤ k) ∧ ah (wc.heap[au]? = some (.cells #[.string aU, .string aT, .int .i64 aV, .int .i64 bH, .int .i64 bG, .int .i64 bJ] 30 (0, 0))) ∧ ah (Below w.heap.size w wc))
 case first =>
  have H := HC3.out; clear HC3
  by_cases c5 : (l1.length : Int) < bG
  ·rw [if_pos c5] at H; have qN : decide ((l1.length : Int) < bG) = true := decide_eq_true c5; clear c5; (first | rw [qN] | (simp only [dS, eP]; rw [qN]) | skip); have H' := ah.mk H; clear H; have yF : w4.cell? ⟨au, 0, none⟩ = some (.string aU) := cK ak 0; have yE : w4.cell? ⟨au, 1, none⟩ = some (.string aT) := cK ak 1; have G5 : w4.cell? ⟨au, 2, none⟩ = some (.int .i64 aV) := cK ak 2; have GZ : w4.cell? ⟨au, 3, none⟩ = some (.int .i64 bH) := cK ak 3; have GY : w4.cell? ⟨au, 4, none⟩ = some (.int .i64 bG) := cK ak 4; have GX : w4.cell? ⟨au, 5, none⟩ = some (.int .i64 bJ) := cK ak 5; have DZ := aj ak.out 0; have yC := aj ak.out 1; have GV := aj ak.out 2; have GU := aj ak.out 3; have GR := aj ak.out 4; have GQ := aj ak.out 5
   go_wp2
   go_meet
   case rel => exact ⟨_, (true), zz2, H', ⟨zz3⟩, ⟨zz4⟩, ⟨zz5⟩⟩
  ·rw [if_neg c5] at H; have qN : decide ((l1.length : Int) < bG) = false := decide_eq_false c5; clear c5; (first | rw [qN] | (simp only [dS, eP]; rw [qN]) | skip); obtain ⟨ji7, hji7⟩ : ∃ j_ : Int, (wrap64 ((l1.length : Int) - 1)) = j_ := ⟨_, rfl⟩; replace H : (if 0 ≤ (ji7) then (if (ji7) < (l1.length : Int) then (dG.j0 k l1 ((rd l1 (ji7)) == 0) aU aT aV bH bG bJ) else (none)) else (none)) = some r := by first | (rw [hji7] at H; exact H) | (simp only [hji7] at H ⊢; exact H)
   have hji7w : (IntKind.i64.wrap ((l1.length : Int) - 1)) = ji7 := (dS _).trans hji7
   by_cases c8 : 0 ≤ (ji7)
   ·rw [if_pos c8] at H; have pI : decide (0 ≤ (ji7)) = true := decide_eq_true c8; clear c8
    by_cases c9 : (ji7) < (l1.length : Int)
    ·rw [if_pos c9] at H; have xH : decide ((ji7) < (l1.length : Int)) = true := decide_eq_true c9; clear c9; have H' := ah.mk H; clear H; have oZ : w4.cell? ⟨au, 0, none⟩ = some (.string aU) := cK ak 0; have oW : w4.cell? ⟨au, 1, none⟩ = some (.string aT) := cK ak 1; have ql : w4.cell? ⟨au, 2, none⟩ = some (.int .i64 aV) := cK ak 2; have F3 : w4.cell? ⟨au, 3, none⟩ = some (.int .i64 bH) := cK ak 3; have FZ : w4.cell? ⟨au, 4, none⟩ = some (.int .i64 bG) := cK ak 4; have FY : w4.cell? ⟨au, 5, none⟩ = some (.int .i64 bJ) := cK ak 5; have oP := aj ak.out 0; have oO := aj ak.out 1; have qg := aj ak.out 2; have FM := aj ak.out 3; have FL := aj ak.out 4; have FJ := aj ak.out 5; have p254 : 0 ≤ ((ji7) : Int) := of_decide_eq_true zz9; have q254 : (ji7) < (l1.length : Int) := of_decide_eq_true zz9; obtain ⟨ad254, e254, Kq⟩ := Kd.jq HR1.out (ji7) p254 q254
     cases e254
     replace Kq := cB HB Kq; replace p254 := eq_true p254; replace q254 := eq_true q254
     go_wp2
     go_meet
     case rel => exact ⟨_, (((rd l1 (ji7)) == 0)), (by first | rfl | (simp; done) | (simp only [← hji7] <;> (first | rfl | simp)) | (simp [*]; done)), H', ⟨zz3⟩, ⟨zz4⟩, ⟨zz5⟩⟩
    ·rw [if_neg c9] at H; exact absurd H (by simp)
   ·rw [if_neg c8] at H; exact absurd H (by simp)
 case rest =>
  clear HC3; (try clear c1); (try clear p2); (try clear q2); (try clear hx2); (try clear c5); (try clear qN); (try clear c6); (try clear p6); (try clear c8); (try clear pI); (try clear c9); (try clear xH); (try clear oZ); (try clear oW); (try clear ql); (try clear F3); (try clear FZ); (try clear FY); (try clear yF); (try clear yE); (try clear G5); (try clear GZ); (try clear GY); (try clear GX); (try clear oP); (try clear oO); (try clear qg); (try clear FM); (try clear FL); (try clear FJ); (try clear DZ); (try clear yC); (try clear GV); (try clear GU); (try clear GR); (try clear GQ); (try clear Kq); (try clear p254); (try clear q254); obtain ⟨kq, Q8, rfl, HA, HJ2, ak, HB⟩ := hcut
  cases kq with
  | zero => exact absurd HA.out (by simp [dG.j0])
  | succ kj2 =>
   have H := HA.out; clear HA; simp only [dG.j0] at H
   by_cases c11 : Q8 = true
   ·subst c11; rw [if_pos rfl] at H; obtain rfl := Option.some.inj H
    go_wp2
    go_ret
    exact ⟨zz6, zz5⟩
   ·replace c11 := Bool.eq_false_iff.mpr c11; subst c11; rw [if_neg (show ¬ (false = true) by decide)] at H; obtain ⟨vS, Je⟩ : ∃ j_ : Int, (wrap64 ((l1.length : Int) - 1)) = j_ := ⟨_, rfl⟩; replace H : (if 0 ≤ (vS) then (if (vS) < (l1.length : Int) then ((bits_Mul64.f (IntKind.u64.wrap (wrap64 (bG - 1))) 4611686018427387904).bind fun Ig => (if Ig.1 ≥ (IntKind.u64.wrap (rd l1 (vS))) then (some 4611686018427387904) else ((uI.f Ig.1 Ig.2 (IntKind.u64.wrap (rd l1 (vS)))).bind fun WT => (some (wrap64 (mn WT.1 4611686018427387904)))))) else (none)) else (none)) = some r := by first | (rw [Je] at H; exact H) | (simp only [Je] at H ⊢; exact H)
    have hji12w : (IntKind.i64.wrap ((l1.length : Int) - 1)) = vS := (dS _).trans Je
    by_cases c13 : 0 ≤ (vS)
    ·rw [if_pos c13] at H; have Ji : decide (0 ≤ (vS)) = true := decide_eq_true c13; clear c13
     by_cases c14 : (vS) < (l1.length : Int)
     ·rw [if_pos c14] at H; have zU : decide ((vS) < (l1.length : Int)) = true := decide_eq_true c14; clear c14; replace H := Option.bind_eq_some_iff.mp H; obtain ⟨⟨OA, t257⟩, NZ, H⟩ := H
      try dsimp only at H
      have A15 := ah.mk NZ; clear NZ
      by_cases c16 : OA ≥ (IntKind.u64.wrap (rd l1 (vS)))
      ·rw [if_pos c16] at H; have lU : decide ((IntKind.u64.wrap (rd l1 (vS))) ≤ OA) = true := decide_eq_true c16; clear c16; obtain rfl := Option.some.inj H; have Pk : 0 ≤ ((vS) : Int) := of_decide_eq_true zz9; have OT : (vS) < (l1.length : Int) := of_decide_eq_true zz9; obtain ⟨ad255, e255, Bp⟩ := Kd.jq HR1.out (vS) Pk OT
       cases e255
       replace Bp := cB HB Bp; replace Pk := eq_true Pk; replace OT := eq_true OT; have aak : wc.cell? ⟨au, 0, none⟩ = some (.string aU) := cK ak 0; have aaj : wc.cell? ⟨au, 1, none⟩ = some (.string aT) := cK ak 1; have aai : wc.cell? ⟨au, 2, none⟩ = some (.int .i64 aV) := cK ak 2; have hcz17_3 : wc.cell? ⟨au, 3, none⟩ = some (.int .i64 bH) := cK ak 3; have hcz17_4 : wc.cell? ⟨au, 4, none⟩ = some (.int .i64 bG) := cK ak 4; have hcz17_5 : wc.cell? ⟨au, 5, none⟩ = some (.int .i64 bJ) := cK ak 5; have Zz := aj ak.out 0; have Zy := aj ak.out 1; have Zx := aj ak.out 2; have hfz17_3 := aj ak.out 3; have hfz17_4 := aj ak.out 4; have hfz17_5 := aj ak.out 5
       go_wp2_with (first | ((with_reducible refine aN (f := 97) rfl ?_); refine bU (some 38) rfl rfl Try.func97 (by kernel_rfl) rfl #[.int .u64 (IntKind.u64.wrap (wrap64 (bG - 1))), .int .u64 4611686018427387904] rfl zz8 ?_; (with_reducible refine (bits_Mul64.calls (IntKind.u64.wrap (wrap64 (bG - 1))) 4611686018427387904 OA t257 _ A15.out).mono ?_); rintro e w' ⟨rfl, ⟨nd, rfl⟩⟩; refine ⟨_, rfl, ?_⟩))
       go_ret
       exact ⟨by first | rfl | (simp [gK, gJ] <;> rfl) | (simp only [← Je]; first | rfl | (simp [gK, gJ] <;> rfl)) | (simp [*, gK, gJ] <;> rfl), zz5⟩
      ·rw [if_neg c16] at H; have lU : decide ((IntKind.u64.wrap (rd l1 (vS))) ≤ OA) = false := decide_eq_false c16; clear c16; replace H := Option.bind_eq_some_iff.mp H; obtain ⟨⟨t258, t259⟩, A180, H⟩ := H
       try dsimp only at H
       have A18 := ah.mk A180; clear A180; obtain ⟨ji19, GN⟩ : ∃ j_ : Int, (mn t258 4611686018427387904) = j_ := ⟨_, rfl⟩; replace H : (some (wrap64 (ji19))) = some r := by first | (rw [GN] at H; exact H) | (simp only [GN] at H ⊢; exact H)
       (try rw [GN] at A15); (try rw [GN] at A18); (try (have hji19h : ji19 ≤ 4611686018427387904 := by (rw [← GN]; unfold mn; (repeat' split) <;> omega))); (try (have hji19g : ji19 ≤ 64 := by omega)); have hji19_ : (if 4611686018427387904 < t258 then 4611686018427387904 else t258) = ji19 := GN; obtain rfl := Option.some.inj H; have Pk : 0 ≤ ((vS) : Int) := of_decide_eq_true zz9; have OT : (vS) < (l1.length : Int) := of_decide_eq_true zz9; obtain ⟨ad255, e255, Bp⟩ := Kd.jq HR1.out (vS) Pk OT
       cases e255
       replace Bp := cB HB Bp; replace Pk := eq_true Pk; replace OT := eq_true OT; have qj : wc.cell? ⟨au, 0, none⟩ = some (.string aU) := cK ak 0; have qh : wc.cell? ⟨au, 1, none⟩ = some (.string aT) := cK ak 1; have tO : wc.cell? ⟨au, 2, none⟩ = some (.int .i64 aV) := cK ak 2; have K6 : wc.cell? ⟨au, 3, none⟩ = some (.int .i64 bH) := cK ak 3; have K5 : wc.cell? ⟨au, 4, none⟩ = some (.int .i64 bG) := cK ak 4; have K4 : wc.cell? ⟨au, 5, none⟩ = some (.int .i64 bJ) := cK ak 5; have qZ := aj ak.out 0; have qd := aj ak.out 1; have tJ := aj ak.out 2; have KM := aj ak.out 3; have KL := aj ak.out 4; have KJ := aj ak.out 5
       go_wp2_with (first | ((with_reducible refine aN (f := 97) rfl ?_); refine bU (some 38) rfl rfl Try.func97 (by kernel_rfl) rfl #[.int .u64 (IntKind.u64.wrap (wrap64 (bG - 1))), .int .u64 4611686018427387904] rfl zz8 ?_; (with_reducible refine (bits_Mul64.calls (IntKind.u64.wrap (wrap64 (bG - 1))) 4611686018427387904 OA t257 _ A15.out).mono ?_); rintro e w' ⟨rfl, ⟨nd, rfl⟩⟩; refine ⟨_, rfl, ?_⟩) | ((with_reducible refine aN (f := 98) rfl ?_); refine bU (some 48) rfl rfl Try.func98 (by kernel_rfl) rfl #[.int .u64 OA, .int .u64 t257, .int .u64 (IntKind.u64.wrap (rd l1 (vS)))] rfl (by (try simp only [List.map_toArray, List.map_cons, List.map_nil]); first | done | (simp only [Je]; rfl) | rfl | (simp only [List.length_drop, List.length_take]; rfl)) ?_; (with_reducible refine (uI.calls OA t257 (IntKind.u64.wrap (rd l1 (vS))) t258 t259 _ A18.out).mono ?_); rintro e w' ⟨rfl, ⟨nd, rfl⟩⟩; refine ⟨_, rfl, ?_⟩))
       go_ret
       exact ⟨by first | rfl | (simp [gK, gJ] <;> rfl) | (simp only [← Je, ← GN]; first | rfl | (simp [gK, gJ] <;> rfl)) | (simp [*, gK, gJ] <;> rfl), zz5⟩
     ·rw [if_neg c14] at H; exact absurd H (by simp)
    ·rw [if_neg c13] at H; exact absurd H (by simp)
mutual
def bV.j0 : Nat → List Int → Bool → ByteArray → ByteArray → Int → Int → Int → Int → Int → Int → ByteArray → Option (Int)
 | 0, _, _, _, _, _, _, _, _, _, _, _ => none
 | k + 1, x1, x27, XQ, XP, XO, XM, XL, XK, XJ, XI, XH => if x27 = true then (some 0) else ((bB.f k XQ XP XO XM XL XK XJ XI XH).bind fun rQ => (bV.l0 k x1 1073741824 rQ (rQ.length : Int) 0))
def bV.l0 : Nat → List Int → Int → List Int → Int → Int → Option (Int)
 | 0, _, _, _, _, _ => none
 | k + 1, x1, x7, x30, x31, x32 => if x32 < x31 then (if 0 ≤ x32 then (if x32 < (x30.length : Int) then (if 0 ≤ (rd x30 x32) then (if (rd x30 x32) < (x1.length : Int) then (bV.l0 k x1 (mn x7 (rd x1 (rd x30 x32))) x30 x31 (wrap64 (x32 + 1))) else (none)) else (none)) else (none)) else (none)) else (some x7)
end
def bV.f (k : Nat) (aU : ByteArray) (aT : ByteArray) (aV : Int) (bH : Int) (bG : Int) (bJ : Int) (l1 : List Int) (fJ : Int) (gD : Int) (gB : ByteArray) : Option (Int) := (bf.f k aU aT aV bH bG bJ l1).bind fun t262 => (if t262 = true then (if bH = 2 then ((dG.f k aU aT aV bH bG bJ l1).bind fun t263 => (some t263)) else ((jf.f fJ gD gB).bind fun t264 => (if t264 = true then (bV.j0 k l1 (fJ == 0) aU aT aV bH bG bJ fJ gD gB) else (bV.j0 k l1 true aU aT aV bH bG bJ fJ gD gB)))) else (some 0))
theorem bV.gU : ∀ k, (∀ y0 y1 y2 y3 y4 y5 y6 y7 y8 y9 y10, LeO (bV.j0 k y0 y1 y2 y3 y4 y5 y6 y7 y8 y9 y10) (bV.j0 (k + 1) y0 y1 y2 y3 y4 y5 y6 y7 y8 y9 y10)) ∧ (∀ y0 y1 y2 y3 y4, LeO (bV.l0 k y0 y1 y2 y3 y4) (bV.l0 (k + 1) y0 y1 y2 y3 y4))
 | 0 => ⟨fun _ _ _ _ _ _ _ _ _ _ _ r h => by simp [bV.j0] at h, fun _ _ _ _ _ r h => by simp [bV.l0] at h⟩
 | k + 1 => by
  obtain ⟨ih0, ih1⟩ := bV.gU k; refine ⟨?_, ?_⟩
  ·intro y0 y1 y2 y3 y4 y5 y6 y7 y8 y9 y10; unfold bV.j0
   repeat' first
   | (with_reducible exact ih0 _ _ _ _ _ _ _ _ _ _ _)
   | (with_reducible exact ih1 _ _ _ _ _)
   | (with_reducible exact bf.mono _ _ _ _ _ _ _ _)
   | (with_reducible exact dG.mono _ _ _ _ _ _ _ _)
   | (with_reducible exact bB.mono _ _ _ _ _ _ _ _ _ _)
   | (with_reducible exact LeO.refl _)
   | (with_reducible exact LeO.none _)
   | (with_reducible refine LeO.ite ?_ ?_)
   | (with_reducible refine LeO.bind ?_ (fun _ => ?_))
   | exact ih0 _ _ _ _ _ _ _ _ _ _ _
   | exact ih1 _ _ _ _ _
   | exact bf.mono _ _ _ _ _ _ _ _
   | exact dG.mono _ _ _ _ _ _ _ _
   | exact bB.mono _ _ _ _ _ _ _ _ _ _
   | exact LeO.none _
   | refine LeO.ite ?_ ?_
   | refine LeO.bind ?_ (fun _ => ?_)
  ·intro y0 y1 y2 y3 y4; unfold bV.l0
   repeat' first
   | (with_reducible exact ih0 _ _ _ _ _ _ _ _ _ _ _)
   | (with_reducible exact ih1 _ _ _ _ _)
   | (with_reducible exact bf.mono _ _ _ _ _ _ _ _)
   | (with_reducible exact dG.mono _ _ _ _ _ _ _ _)
   | (with_reducible exact bB.mono _ _ _ _ _ _ _ _ _ _)
   | (with_reducible exact LeO.refl _)
   | (with_reducible exact LeO.none _)
   | (with_reducible refine LeO.ite ?_ ?_)
   | (with_reducible refine LeO.bind ?_ (fun _ => ?_))
   | exact ih0 _ _ _ _ _ _ _ _ _ _ _
   | exact ih1 _ _ _ _ _
   | exact bf.mono _ _ _ _ _ _ _ _
   | exact dG.mono _ _ _ _ _ _ _ _
   | exact bB.mono _ _ _ _ _ _ _ _ _ _
   | exact LeO.none _
   | refine LeO.ite ?_ ?_
   | refine LeO.bind ?_ (fun _ => ?_)
theorem bV.mono : ∀ a0 a1 a2 a3 a4 a5 a6 a7 a8 a9 k, LeO (bV.f k a0 a1 a2 a3 a4 a5 a6 a7 a8 a9) (bV.f (k + 1) a0 a1 a2 a3 a4 a5 a6 a7 a8 a9) := by
 intro a0 a1 a2 a3 a4 a5 a6 a7 a8 a9 k; obtain ⟨ih0, ih1⟩ := bV.gU k; unfold bV.f
 repeat' first
   | (with_reducible exact ih0 _ _ _ _ _ _ _ _ _ _ _)
   | (with_reducible exact ih1 _ _ _ _ _)
   | (with_reducible exact bf.mono _ _ _ _ _ _ _ _)
   | (with_reducible exact dG.mono _ _ _ _ _ _ _ _)
   | (with_reducible exact bB.mono _ _ _ _ _ _ _ _ _ _)
   | (with_reducible exact LeO.refl _)
   | (with_reducible exact LeO.none _)
   | (with_reducible refine LeO.ite ?_ ?_)
   | (with_reducible refine LeO.bind ?_ (fun _ => ?_))
   | exact ih0 _ _ _ _ _ _ _ _ _ _ _
   | exact ih1 _ _ _ _ _
   | exact bf.mono _ _ _ _ _ _ _ _
   | exact dG.mono _ _ _ _ _ _ _ _
   | exact bB.mono _ _ _ _ _ _ _ _ _ _
   | exact LeO.none _
   | refine LeO.ite ?_ ?_
   | refine LeO.bind ?_ (fun _ => ?_)
set_option maxHeartbeats 8000000 in
set_option maxRecDepth 100000 in
theorem bV.calls (k : Nat) (aU : ByteArray) (aT : ByteArray) (aV : Int) (bH : Int) (bG : Int) (bJ : Int) (A1 : Option Addr) (c1 : Nat) (l1 : List Int) (fJ : Int) (gD : Int) (gB : ByteArray) (r : Int) (w : World) (hr1 : Kd.C (Kd.int .i64) w A1 l1.length l1) (hc1 : l1.length ≤ c1) (h : bV.f k aU aT aV bH bG bJ l1 fJ gD gB = some r) :
  Calls Try.prog 31 #[.agg #[.string aU, .string aT, .int .i64 aV, .int .i64 bH, .int .i64 bG, .int .i64 bJ], .slice A1 l1.length c1, .agg #[.int .i64 fJ, .int .i64 gD, .string gB]] w fun e w' => e = .returned (.int .i64 r) ∧ Below w.heap.size w w' := by
 have ES := Try.underlying30; have vI := Try.underlying23; have HR1 := ah.mk hr1; have HC1 := ah.mk hc1; clear hr1 hc1; have HB := ah.mk (Below.refl w.heap.size w); have H := h; clear h
 dsimp only [bV.f] at H
 replace H := Option.bind_eq_some_iff.mp H; obtain ⟨t262, A40, H⟩ := H; have A4 := ah.mk A40; clear A40
 by_cases c5 : t262 = true
 ·subst c5; rw [if_pos rfl] at H
  by_cases c6 : bH = 2
  ·rw [if_pos c6] at H; have uR : (bH == 2) = true := beq_iff_eq.mpr c6; have Hz : (bH != 2) = false := bne_eq_false_iff_eq.mpr c6; clear c6; replace H := Option.bind_eq_some_iff.mp H; obtain ⟨t263, A70, H⟩ := H; have A7 := ah.mk A70; clear A70; obtain rfl := Option.some.inj H
   go_enter Try.func31, Try.ntmps31
   go_wp2_with (first | ((with_reducible refine bE (N := 3) rfl ?_); refine bC ?hg (N := 3) ?hd (cs := #[.string aU, .string aT, .int .i64 aV, .int .i64 bH, .int .i64 bG, .int .i64 bJ]) (t := 30) ?hr ?_; (case hd => rfl); (case hg => rfl); (case hr => first | (go_simp; done) | (go_simp; rfl)); intro au hg w8 bK hb; have ak := ah.mk (bK); have fO := ah.mk ((zz0 : w.heap.size ≤ au)); have fF := ah.mk ((zz0 : w.heap.size ≤ au)); replace HB := ah.mk (av zz1 hb); clear hb bK hg) | ((with_reducible refine bE (N := 5) rfl ?_); refine bC ?hg (N := 5) ?hd (cs := #[.int .i64 fJ, .int .i64 gD, .string gB]) (t := 23) ?hr ?_; (case hd => rfl); (case hg => rfl); (case hr => first | (go_simp; done) | (go_simp; rfl)); intro aA hg w9 bK hb; have ay := ah.mk (bK); have jD := ah.mk ((jZ : w.heap.size ≤ aA)); have jr := ah.mk ((jZ : w.heap.size ≤ aA)); replace HB := ah.mk (av zz5 hb); have aQ := ah.mk ((DJ : au ≠ aA)); have aY := ah.mk ((DI : aA ≠ au)); replace ak := ah.mk (aG (g := au) (o := .cells #[.string aU, .string aT, .int .i64 aV, .int .i64 bH, .int .i64 bG, .int .i64 bJ] 30 (0, 0)) zz4 hb); clear hb bK hg; have hnb10 := aQ.out; have hnc10 := aY.out; have nM : w9.cell? ⟨au, 0, none⟩ = some (.string aU) := cK ak 0; have nL : w9.cell? ⟨au, 1, none⟩ = some (.string aT) := cK ak 1; have nK : w9.cell? ⟨au, 2, none⟩ = some (.int .i64 aV) := cK ak 2; have rJ : w9.cell? ⟨au, 3, none⟩ = some (.int .i64 bH) := cK ak 3; have rH : w9.cell? ⟨au, 4, none⟩ = some (.int .i64 bG) := cK ak 4; have rG : w9.cell? ⟨au, 5, none⟩ = some (.int .i64 bJ) := cK ak 5; have nJ := aj ak.out 0; have nI := aj ak.out 1; have nH := aj ak.out 2; have rC := aj ak.out 3; have rA := aj ak.out 4; have rz := aj ak.out 5) | ((with_reducible refine aN (f := 23) rfl ?_); refine bU (some 12) rfl rfl Try.func23 (by kernel_rfl) rfl #[.agg #[.string aU, .string aT, .int .i64 aV, .int .i64 bH, .int .i64 bG, .int .i64 bJ], .slice A1 l1.length c1] rfl zz8 ?_; (with_reducible refine (bf.calls k aU aT aV bH bG bJ _ _ l1 true _ ?bO ?bR A4.out).mono ?_); (case bO => repeat (first | exact (Kd.eZ HR1.out HB.out) | (with_reducible refine Kd.dF ?_ _) | (with_reducible refine Kd.dI ?_ _) | (with_reducible refine Kd.dZ ?_))); (case bR => exact HC1.out); rintro e w12 ⟨rfl, hb⟩; refine ⟨_, rfl, ?_⟩; replace ak := ah.mk (aG (g := au) (o := .cells #[.string aU, .string aT, .int .i64 aV, .int .i64 bH, .int .i64 bG, .int .i64 bJ] 30 (0, 0)) zz4 hb); replace ay := ah.mk (aG (g := aA) (o := .cells #[.int .i64 fJ, .int .i64 gD, .string gB] 23 (0, 0)) iJ hb); replace HB := ah.mk (av fP hb); (try clear hb); (try clear hb2); (try clear hk); (try clear hi); have oV : w12.cell? ⟨au, 0, none⟩ = some (.string aU) := cK ak 0; have oU : w12.cell? ⟨au, 1, none⟩ = some (.string aT) := cK ak 1; have oQ : w12.cell? ⟨au, 2, none⟩ = some (.int .i64 aV) := cK ak 2; have zC : w12.cell? ⟨au, 3, none⟩ = some (.int .i64 bH) := cK ak 3; have zB : w12.cell? ⟨au, 4, none⟩ = some (.int .i64 bG) := cK ak 4; have zA : w12.cell? ⟨au, 5, none⟩ = some (.int .i64 bJ) := cK ak 5; have oM := aj ak.out 0; have oL := aj ak.out 1; have oK := aj ak.out 2; have zq := aj ak.out 3; have zo := aj ak.out 4; have zn := aj ak.out 5) | ((with_reducible refine aN (f := 68) rfl ?_); refine bU (some 19) rfl rfl Try.func68 (by kernel_rfl) rfl #[.agg #[.string aU, .string aT, .int .i64 aV, .int .i64 bH, .int .i64 bG, .int .i64 bJ], .slice A1 l1.length c1] rfl zz8 ?_; (with_reducible refine (dG.calls k aU aT aV bH bG bJ _ _ l1 t263 _ ?bO ?bR A7.out).mono ?_); (case bO => repeat (first | exact (Kd.eZ HR1.out HB.out) | (with_reducible refine Kd.dF ?_ _) | (with_reducible refine Kd.dI ?_ _) | (with_reducible refine Kd.dZ ?_))); (case bR => exact HC1.out); rintro e w14 ⟨rfl, hb⟩; refine ⟨_, rfl, ?_⟩; replace ak := ah.mk (aG (g := au) (o := .cells #[.string aU, .string aT, .int .i64 aV, .int .i64 bH, .int .i64 bG, .int .i64 bJ] 30 (0, 0)) zz4 hb); replace ay := ah.mk (aG (g := aA) (o := .cells #[.int .i64 fJ, .int .i64 gD, .string gB] 23 (0, 0)) iJ hb); replace HB := ah.mk (av fP hb); (try clear hb); (try clear hb2); (try clear hk); (try clear hi)))
   go_ret
   exact ⟨zz6, fP⟩
  ·rw [if_neg c6] at H; have uR : (bH == 2) = false := beq_eq_false_iff_ne.mpr c6; have Hz : (bH != 2) = true := bne_iff_ne.mpr c6; have HC15 := ah.mk H; clear H
   go_enter Try.func31, Try.ntmps31
   go_upto_region 5 with (first | ((with_reducible refine bE (N := 3) rfl ?_); refine bC ?hg (N := 3) ?hd (cs := #[.string aU, .string aT, .int .i64 aV, .int .i64 bH, .int .i64 bG, .int .i64 bJ]) (t := 30) ?hr ?_; (case hd => rfl); (case hg => rfl); (case hr => first | (go_simp; done) | (go_simp; rfl)); intro au hg w16 bK hb; have ak := ah.mk (bK); have fO := ah.mk ((zz0 : w.heap.size ≤ au)); have fF := ah.mk ((zz0 : w.heap.size ≤ au)); replace HB := ah.mk (av zz1 hb); clear hb bK hg) | ((with_reducible refine bE (N := 5) rfl ?_); refine bC ?hg (N := 5) ?hd (cs := #[.int .i64 fJ, .int .i64 gD, .string gB]) (t := 23) ?hr ?_; (case hd => rfl); (case hg => rfl); (case hr => first | (go_simp; done) | (go_simp; rfl)); intro aA hg w17 bK hb; have ay := ah.mk (bK); have jD := ah.mk ((jZ : w.heap.size ≤ aA)); have jr := ah.mk ((jZ : w.heap.size ≤ aA)); replace HB := ah.mk (av zz5 hb); have aQ := ah.mk ((DJ : au ≠ aA)); have aY := ah.mk ((DI : aA ≠ au)); replace ak := ah.mk (aG (g := au) (o := .cells #[.string aU, .string aT, .int .i64 aV, .int .i64 bH, .int .i64 bG, .int .i64 bJ] 30 (0, 0)) zz4 hb); clear hb bK hg; have hnb18 := aQ.out; have hnc18 := aY.out; have rF : w17.cell? ⟨au, 0, none⟩ = some (.string aU) := cK ak 0; have rE : w17.cell? ⟨au, 1, none⟩ = some (.string aT) := cK ak 1; have rD : w17.cell? ⟨au, 2, none⟩ = some (.int .i64 aV) := cK ak 2; have tX : w17.cell? ⟨au, 3, none⟩ = some (.int .i64 bH) := cK ak 3; have tT : w17.cell? ⟨au, 4, none⟩ = some (.int .i64 bG) := cK ak 4; have tQ : w17.cell? ⟨au, 5, none⟩ = some (.int .i64 bJ) := cK ak 5; have ru := aj ak.out 0; have q9 := aj ak.out 1; have q8 := aj ak.out 2; have tN := aj ak.out 3; have tL := aj ak.out 4; have tK := aj ak.out 5) | ((with_reducible refine aN (f := 23) rfl ?_); refine bU (some 12) rfl rfl Try.func23 (by kernel_rfl) rfl #[.agg #[.string aU, .string aT, .int .i64 aV, .int .i64 bH, .int .i64 bG, .int .i64 bJ], .slice A1 l1.length c1] rfl zz8 ?_; (with_reducible refine (bf.calls k aU aT aV bH bG bJ _ _ l1 true _ ?bO ?bR A4.out).mono ?_); (case bO => repeat (first | exact (Kd.eZ HR1.out HB.out) | (with_reducible refine Kd.dF ?_ _) | (with_reducible refine Kd.dI ?_ _) | (with_reducible refine Kd.dZ ?_))); (case bR => exact HC1.out); rintro e w20 ⟨rfl, hb⟩; refine ⟨_, rfl, ?_⟩; replace ak := ah.mk (aG (g := au) (o := .cells #[.string aU, .string aT, .int .i64 aV, .int .i64 bH, .int .i64 bG, .int .i64 bJ] 30 (0, 0)) zz4 hb); replace ay := ah.mk (aG (g := aA) (o := .cells #[.int .i64 fJ, .int .i64 gD, .string gB] 23 (0, 0)) iJ hb); replace HB := ah.mk (av fP hb); (try clear hb); (try clear hb2); (try clear hk); (try clear hi); have Dg : w20.cell? ⟨au, 0, none⟩ = some (.string aU) := cK ak 0; have Df : w20.cell? ⟨au, 1, none⟩ = some (.string aT) := cK ak 1; have Dc : w20.cell? ⟨au, 2, none⟩ = some (.int .i64 aV) := cK ak 2; have TA : w20.cell? ⟨au, 3, none⟩ = some (.int .i64 bH) := cK ak 3; have Tz : w20.cell? ⟨au, 4, none⟩ = some (.int .i64 bG) := cK ak 4; have Tx : w20.cell? ⟨au, 5, none⟩ = some (.int .i64 bJ) := cK ak 5; have CJ := aj ak.out 0; have CG := aj ak.out 1; have CF := aj ak.out 2; have SG := aj ak.out 3; have SF := aj ak.out 4; have SE := aj ak.out 5))
   (try simp only [Act.put, List.setIfInBounds_toArray, List.set_cons_zero, List.set_cons_succ])
   go_cut [27] (fun v27 wc => ∃ (kq : Nat) (JF : Bool), v27 = .bool JF ∧ ah (bV.j0 kq l1 JF aU aT aV bH bG bJ fJ gD gB = some r) ∧ ah (kq ≤ k) ∧ ah (wc.heap[au]? = some (.cells #[.string aU, .string aT, .int .i64 aV, .int .i64 bH, .int .i64 bG, .int .i64 bJ] 30 (0, 0))) ∧ ah (wc.heap[aA]? = some (.cells #[.int .i64 fJ, .int .i64 gD, .string gB] 23 (0, 0))) ∧ ah (Below w.heap.size w wc))
   case first =>
    have H := HC15.out; clear HC15; replace H := Option.bind_eq_some_iff.mp H; obtain ⟨t264, A220, H⟩ := H; have A22 := ah.mk A220; clear A220
    by_cases c23 : t264 = true
    ·subst c23; rw [if_pos rfl] at H; have H' := ah.mk H; clear H; have hnb24 := aY.out; have hnc24 := aQ.out; have C8 : w20.cell? ⟨aA, 0, none⟩ = some (.int .i64 fJ) := cK ay 0; have CZ : w20.cell? ⟨aA, 1, none⟩ = some (.int .i64 gD) := cK ay 1; have CY : w20.cell? ⟨aA, 2, none⟩ = some (.string gB) := cK ay 2; have Cx := aj ay.out 0; have Cw := aj ay.out 1; have Cv := aj ay.out 2
     go_wp2_with (first | ((with_reducible refine aN (f := 69) rfl ?_); refine bU (some 21) rfl rfl Try.func69 (by kernel_rfl) rfl #[.agg #[.int .i64 fJ, .int .i64 gD, .string gB]] rfl zz8 ?_; (with_reducible refine (jf.calls fJ gD gB true _ A22.out).mono ?_); rintro e w26 ⟨rfl, hb⟩; refine ⟨_, rfl, ?_⟩; replace ak := ah.mk (aG (g := au) (o := .cells #[.string aU, .string aT, .int .i64 aV, .int .i64 bH, .int .i64 bG, .int .i64 bJ] 30 (0, 0)) zz4 hb); replace ay := ah.mk (aG (g := aA) (o := .cells #[.int .i64 fJ, .int .i64 gD, .string gB] 23 (0, 0)) iJ hb); replace HB := ah.mk (av fP hb); (try clear hb); (try clear hb2); (try clear hk); (try clear hi); have CW : w26.cell? ⟨aA, 0, none⟩ = some (.int .i64 fJ) := cK ay 0; have CV : w26.cell? ⟨aA, 1, none⟩ = some (.int .i64 gD) := cK ay 1; have CU : w26.cell? ⟨aA, 2, none⟩ = some (.string gB) := cK ay 2; have Ct := aj ay.out 0; have Cr := aj ay.out 1; have Cq := aj ay.out 2))
     go_meet
     case rel => exact ⟨_, ((fJ == 0)), zz2, H', ⟨zz3⟩, ⟨zz4⟩, ⟨iJ⟩, ⟨fP⟩⟩
    ·replace c23 := Bool.eq_false_iff.mpr c23; subst c23; rw [if_neg (show ¬ (false = true) by decide)] at H; have H' := ah.mk H; clear H; have hnb28 := aY.out; have hnc28 := aQ.out; have FU : w20.cell? ⟨aA, 0, none⟩ = some (.int .i64 fJ) := cK ay 0; have FT : w20.cell? ⟨aA, 1, none⟩ = some (.int .i64 gD) := cK ay 1; have FR : w20.cell? ⟨aA, 2, none⟩ = some (.string gB) := cK ay 2; have FD := aj ay.out 0; have FC := aj ay.out 1; have FB := aj ay.out 2
     go_wp2_with (first | ((with_reducible refine aN (f := 69) rfl ?_); refine bU (some 21) rfl rfl Try.func69 (by kernel_rfl) rfl #[.agg #[.int .i64 fJ, .int .i64 gD, .string gB]] rfl zz8 ?_; (with_reducible refine (jf.calls fJ gD gB false _ A22.out).mono ?_); rintro e w30 ⟨rfl, hb⟩; refine ⟨_, rfl, ?_⟩; replace ak := ah.mk (aG (g := au) (o := .cells #[.string aU, .string aT, .int .i64 aV, .int .i64 bH, .int .i64 bG, .int .i64 bJ] 30 (0, 0)) zz4 hb); replace ay := ah.mk (aG (g := aA) (o := .cells #[.int .i64 fJ, .int .i64 gD, .string gB] 23 (0, 0)) iJ hb); replace HB := ah.mk (av fP hb); (try clear hb); (try clear hb2); (try clear hk); (try clear hi)))
     go_meet
     case rel => exact ⟨_, (true), zz2, H', ⟨zz3⟩, ⟨zz4⟩, ⟨iJ⟩, ⟨fP⟩⟩
   case rest =>
    clear HC15; (try clear c1); (try clear c2); (try clear p2); (try clear c3); (try clear c5); (try clear c6); (try clear uR); (try clear Hz); (try clear c10); (try clear c18); (try clear c23); (try clear c24); (try clear c28); (try clear nM); (try clear nL); (try clear nK); (try clear rJ); (try clear rH); (try clear rG); (try clear oV); (try clear oU); (try clear oQ); (try clear zC); (try clear zB); (try clear zA); (try clear rF); (try clear rE); (try clear rD); (try clear tX); (try clear tT); (try clear tQ); (try clear Dg); (try clear Df); (try clear Dc); (try clear TA); (try clear Tz); (try clear Tx); (try clear C8); (try clear CZ); (try clear CY); (try clear CW); (try clear CV); (try clear CU); (try clear FU); (try clear FT); (try clear FR); (try clear nJ); (try clear nI); (try clear nH); (try clear rC); (try clear rA); (try clear rz); (try clear oM); (try clear oL); (try clear oK); (try clear zq); (try clear zo); (try clear zn); (try clear ru); (try clear q9); (try clear q8); (try clear tN); (try clear tL); (try clear tK); (try clear CJ); (try clear CG); (try clear CF); (try clear SG); (try clear SF); (try clear SE); (try clear Cx); (try clear Cw); (try clear Cv); (try clear Ct); (try clear Cr); (try clear Cq); (try clear FD); (try clear FC); (try clear FB); obtain ⟨kq, JF, rfl, HA, HJ14, ak, ay, HB⟩ := hcut
    cases kq with
    | zero => exact absurd HA.out (by simp [bV.j0])
    | succ kj14 =>
     have H := HA.out; clear HA; simp only [bV.j0] at H
     by_cases c31 : JF = true
     ·subst c31; rw [if_pos rfl] at H; obtain rfl := Option.some.inj H
      go_wp2
      go_ret
      exact ⟨zz6, fP⟩
     ·replace c31 := Bool.eq_false_iff.mpr c31; subst c31; rw [if_neg (show ¬ (false = true) by decide)] at H; replace H := Option.bind_eq_some_iff.mp H; obtain ⟨rQ, A320, H⟩ := H; have A32 := ah.mk A320; clear A320; have H' := ah.mk H; clear H; have hnb33 := aQ.out; have hnc33 := aY.out; have KR : wc.cell? ⟨au, 0, none⟩ = some (.string aU) := cK ak 0; have KQ : wc.cell? ⟨au, 1, none⟩ = some (.string aT) := cK ak 1; have KP : wc.cell? ⟨au, 2, none⟩ = some (.int .i64 aV) := cK ak 2; have Tq : wc.cell? ⟨au, 3, none⟩ = some (.int .i64 bH) := cK ak 3; have Tp : wc.cell? ⟨au, 4, none⟩ = some (.int .i64 bG) := cK ak 4; have Tn : wc.cell? ⟨au, 5, none⟩ = some (.int .i64 bJ) := cK ak 5; have Ky := aj ak.out 0; have Kw := aj ak.out 1; have Kv := aj ak.out 2; have Sz := aj ak.out 3; have Sy := aj ak.out 4; have Sw := aj ak.out 5; have FQ : wc.cell? ⟨aA, 0, none⟩ = some (.int .i64 fJ) := cK ay 0; have FP : wc.cell? ⟨aA, 1, none⟩ = some (.int .i64 gD) := cK ay 1; have FN : wc.cell? ⟨aA, 2, none⟩ = some (.string gB) := cK ay 2; have Fz := aj ay.out 0; have Fy := aj ay.out 1; have Fx := aj ay.out 2
      go_wp2_with (first | ((with_reducible refine aN (f := 67) rfl ?_); refine bU (some 30) rfl rfl Try.func67 (by kernel_rfl) rfl #[.agg #[.string aU, .string aT, .int .i64 aV, .int .i64 bH, .int .i64 bG, .int .i64 bJ], .agg #[.int .i64 fJ, .int .i64 gD, .string gB]] rfl zz8 ?_; (with_reducible refine (bB.calls kj14 aU aT aV bH bG bJ fJ gD gB rQ _ A32.out).mono ?_); rintro e w36 ⟨v266, rfl, ho0, hb⟩; refine ⟨_, rfl, ?_⟩; have iT := ah.mk (Kd.jC ho0 (bS fP)); replace ak := ah.mk (aG (g := au) (o := .cells #[.string aU, .string aT, .int .i64 aV, .int .i64 bH, .int .i64 bG, .int .i64 bJ] 30 (0, 0)) zz4 hb); replace ay := ah.mk (aG (g := aA) (o := .cells #[.int .i64 fJ, .int .i64 gD, .string gB] 23 (0, 0)) iJ hb); replace HB := ah.mk (av fP hb); (try clear hb); (try clear hb2); (try clear hk); (try clear hi); (try clear ho0); obtain ⟨Ao37, Nw, Nt⟩ := Kd.fH iT.out; subst Nt))
      go_loopg [7, 32] kj14 (fun kq v7 v32 w' => ∃ (wh : Int) (mQ : Int), v7 = .int .i64 wh ∧ v32 = .int .i64 mQ ∧ ah (bV.l0 kq l1 wh rQ (rQ.length : Int) mQ = some r) ∧ ah (kq ≤ kj14) ∧ ah (Kd.R (Kd.int .i64) 3 w' w.heap.size (fun _ => True) (.slice Ao37 rQ.length Nw) rQ) ∧ ah (w'.heap[au]? = some (.cells #[.string aU, .string aT, .int .i64 aV, .int .i64 bH, .int .i64 bG, .int .i64 bJ] 30 (0, 0))) ∧ ah (w'.heap[aA]? = some (.cells #[.int .i64 fJ, .int .i64 gD, .string gB] 23 (0, 0))) ∧ ah (Below w.heap.size w w'))
      case atStart => exact ⟨(1073741824), (0), zz2, zz2, H', ⟨Nat.le_refl _⟩, ⟨N8⟩, ⟨zz4⟩, ⟨iJ⟩, ⟨fP⟩⟩
      case round =>
       clear H'; (try clear c1); (try clear c2); (try clear p2); (try clear c3); (try clear c5); (try clear c6); (try clear uR); (try clear Hz); (try clear c10); (try clear c18); (try clear c23); (try clear c24); (try clear c28); (try clear c31); (try clear c33); (try clear nM); (try clear nL); (try clear nK); (try clear rJ); (try clear rH); (try clear rG); (try clear oV); (try clear oU); (try clear oQ); (try clear zC); (try clear zB); (try clear zA); (try clear rF); (try clear rE); (try clear rD); (try clear tX); (try clear tT); (try clear tQ); (try clear Dg); (try clear Df); (try clear Dc); (try clear TA); (try clear Tz); (try clear Tx); (try clear C8); (try clear CZ); (try clear CY); (try clear CW); (try clear CV); (try clear CU); (try clear FU); (try clear FT); (try clear FR); (try clear KR); (try clear KQ); (try clear KP); (try clear Tq); (try clear Tp); (try clear Tn); (try clear FQ); (try clear FP); (try clear FN); (try clear nJ); (try clear nI); (try clear nH); (try clear rC); (try clear rA); (try clear rz); (try clear oM); (try clear oL); (try clear oK); (try clear zq); (try clear zo); (try clear zn); (try clear ru); (try clear q9); (try clear q8); (try clear tN); (try clear tL); (try clear tK); (try clear CJ); (try clear CG); (try clear CF); (try clear SG); (try clear SF); (try clear SE); (try clear Cx); (try clear Cw); (try clear Cv); (try clear Ct); (try clear Cr); (try clear Cq); (try clear FD); (try clear FC); (try clear FB); (try clear Ky); (try clear Kw); (try clear Kv); (try clear Sz); (try clear Sy); (try clear Sw); (try clear Fz); (try clear Fy); (try clear Fx); (try clear p2); obtain ⟨wh, mQ, rfl, rfl, HA, HK2, HO_30, ak, ay, HB⟩ := hrel
       cases gk with
       | zero => exact absurd HA.out (by simp [bV.l0])
       | succ k2 =>
        have H := HA.out; clear HA; simp only [bV.l0] at H
        by_cases c38 : mQ < (rQ.length : Int)
        ·rw [if_pos c38] at H; have TQ : decide (mQ < (rQ.length : Int)) = true := decide_eq_true c38; clear c38
         by_cases c39 : 0 ≤ mQ
         ·rw [if_pos c39] at H; have WB : decide (0 ≤ mQ) = true := decide_eq_true c39; clear c39
          by_cases c40 : mQ < (rQ.length : Int)
          ·rw [if_pos c40] at H; have WA : decide (mQ < (rQ.length : Int)) = true := decide_eq_true c40; clear c40
           by_cases c41 : 0 ≤ (rd rQ mQ)
           ·rw [if_pos c41] at H; have c41b0 : decide (0 ≤ (rd rQ mQ)) = true := decide_eq_true c41; clear c41
            by_cases c42 : (rd rQ mQ) < (l1.length : Int)
            ·rw [if_pos c42] at H; have c42b0 : decide ((rd rQ mQ) < (l1.length : Int)) = true := decide_eq_true c42; clear c42; obtain ⟨ji43, RX⟩ : ∃ j_ : Int, (mn wh (rd l1 (rd rQ mQ))) = j_ := ⟨_, rfl⟩; replace H : (bV.l0 k2 l1 ji43 rQ (rQ.length : Int) (wrap64 (mQ + 1))) = some r := by first | (rw [RX] at H; exact H) | (simp only [RX] at H ⊢; exact H)
             have hji43_ : (if (rd l1 (rd rQ mQ)) < wh then (rd l1 (rd rQ mQ)) else wh) = ji43 := RX; have H' := ah.mk H; clear H; have p268 : 0 ≤ (mQ : Int) := of_decide_eq_true zz9; have q268 : mQ < (rQ.length : Int) := of_decide_eq_true zz9; obtain ⟨ad268, e268, hx268_0⟩ := Kd.jq (Kd.dw HO_30.out).2.2 mQ p268 q268
             cases e268
             replace p268 := eq_true p268; replace q268 := eq_true q268; have p269 : 0 ≤ ((rd rQ mQ) : Int) := of_decide_eq_true zz9; have q269 : (rd rQ mQ) < (l1.length : Int) := of_decide_eq_true zz9; obtain ⟨ad269, e269, Rz⟩ := Kd.jq HR1.out (rd rQ mQ) p269 q269
             cases e269
             replace Rz := cB HB Rz; replace p269 := eq_true p269; replace q269 := eq_true q269
             go_wp2
             go_roundg k2
             case measure => have := HJ14.out; have := HK2.out; omega
             case rel => exact ⟨(ji43), (wrap64 (mQ + 1)), (by first | rfl | (simp; done) | (simp only [← RX] <;> (first | rfl | simp)) | (simp [*]; done)), zz2, H', ⟨by have := HJ14.out; have := HK2.out; omega⟩, ⟨by (with_reducible repeat (first | apply Kd.gu | apply Kd.fV | apply Kd.gY)); exact HO_30.out⟩, ⟨zz4⟩, ⟨iJ⟩, ⟨fP⟩⟩
            ·rw [if_neg c42] at H; exact absurd H (by simp)
           ·rw [if_neg c41] at H; exact absurd H (by simp)
          ·rw [if_neg c40] at H; exact absurd H (by simp)
         ·rw [if_neg c39] at H; exact absurd H (by simp)
        ·rw [if_neg c38] at H; have TQ : decide (mQ < (rQ.length : Int)) = false := decide_eq_false c38; clear c38; obtain rfl := Option.some.inj H
         go_wp2
         go_ret
         exact ⟨zz6, fP⟩
 ·replace c5 := Bool.eq_false_iff.mpr c5; subst c5; rw [if_neg (show ¬ (false = true) by decide)] at H; obtain rfl := Option.some.inj H
  go_enter Try.func31, Try.ntmps31
  go_wp2_with (first | ((with_reducible refine bE (N := 3) rfl ?_); refine bC ?hg (N := 3) ?hd (cs := #[.string aU, .string aT, .int .i64 aV, .int .i64 bH, .int .i64 bG, .int .i64 bJ]) (t := 30) ?hr ?_; (case hd => rfl); (case hg => rfl); (case hr => first | (go_simp; done) | (go_simp; rfl)); intro au hg w44 bK hb; have ak := ah.mk (bK); have fO := ah.mk ((zz0 : w.heap.size ≤ au)); have fF := ah.mk ((zz0 : w.heap.size ≤ au)); replace HB := ah.mk (av zz1 hb); clear hb bK hg) | ((with_reducible refine bE (N := 5) rfl ?_); refine bC ?hg (N := 5) ?hd (cs := #[.int .i64 fJ, .int .i64 gD, .string gB]) (t := 23) ?hr ?_; (case hd => rfl); (case hg => rfl); (case hr => first | (go_simp; done) | (go_simp; rfl)); intro aA hg w45 bK hb; have ay := ah.mk (bK); have jD := ah.mk ((jZ : w.heap.size ≤ aA)); have jr := ah.mk ((jZ : w.heap.size ≤ aA)); replace HB := ah.mk (av zz5 hb); have aQ := ah.mk ((DJ : au ≠ aA)); have aY := ah.mk ((DI : aA ≠ au)); replace ak := ah.mk (aG (g := au) (o := .cells #[.string aU, .string aT, .int .i64 aV, .int .i64 bH, .int .i64 bG, .int .i64 bJ] 30 (0, 0)) zz4 hb); clear hb bK hg; have hnb46 := aQ.out; have hnc46 := aY.out; have ZN : w45.cell? ⟨au, 0, none⟩ = some (.string aU) := cK ak 0; have ZM : w45.cell? ⟨au, 1, none⟩ = some (.string aT) := cK ak 1; have ZL : w45.cell? ⟨au, 2, none⟩ = some (.int .i64 aV) := cK ak 2; have ZK : w45.cell? ⟨au, 3, none⟩ = some (.int .i64 bH) := cK ak 3; have ZJ : w45.cell? ⟨au, 4, none⟩ = some (.int .i64 bG) := cK ak 4; have ZI : w45.cell? ⟨au, 5, none⟩ = some (.int .i64 bJ) := cK ak 5; have Y8 := aj ak.out 0; have Y7 := aj ak.out 1; have Y6 := aj ak.out 2; have Y5 := aj ak.out 3; have Y4 := aj ak.out 4; have Y3 := aj ak.out 5) | ((with_reducible refine aN (f := 23) rfl ?_); refine bU (some 12) rfl rfl Try.func23 (by kernel_rfl) rfl #[.agg #[.string aU, .string aT, .int .i64 aV, .int .i64 bH, .int .i64 bG, .int .i64 bJ], .slice A1 l1.length c1] rfl zz8 ?_; (with_reducible refine (bf.calls k aU aT aV bH bG bJ _ _ l1 false _ ?bO ?bR A4.out).mono ?_); (case bO => repeat (first | exact (Kd.eZ HR1.out HB.out) | (with_reducible refine Kd.dF ?_ _) | (with_reducible refine Kd.dI ?_ _) | (with_reducible refine Kd.dZ ?_))); (case bR => exact HC1.out); rintro e w48 ⟨rfl, hb⟩; refine ⟨_, rfl, ?_⟩; replace ak := ah.mk (aG (g := au) (o := .cells #[.string aU, .string aT, .int .i64 aV, .int .i64 bH, .int .i64 bG, .int .i64 bJ] 30 (0, 0)) zz4 hb); replace ay := ah.mk (aG (g := aA) (o := .cells #[.int .i64 fJ, .int .i64 gD, .string gB] 23 (0, 0)) iJ hb); replace HB := ah.mk (av fP hb); (try clear hb); (try clear hb2); (try clear hk); (try clear hi)))
  go_ret
  exact ⟨zz6, fP⟩
def iV.f (aU : Int) (aT : Int) (aV : ByteArray) : Option (Bool) := if aU = 0 then (if aT = 0 then (some (aV.toList == ([] : List UInt8))) else (some false)) else (if aU = 1 then (if aT ≥ (-4294967296) then (if aT ≤ 4294967296 then (some (aV.toList == ([] : List UInt8))) else (some false)) else (some false)) else (if aU = 2 then (if aT = 0 then (some (decide ((aV.size : Int) ≤ 32))) else (some false)) else (some false)))
set_option maxHeartbeats 8000000 in
set_option maxRecDepth 100000 in
theorem iV.calls (aU : Int) (aT : Int) (aV : ByteArray) (r : Bool) (w : World) (h : iV.f aU aT aV = some r) :
  Calls Try.prog 111 #[.agg #[.int .i64 aU, .int .i64 aT, .string aV]] w fun e w' => e = .returned (.bool r) ∧ Below w.heap.size w w' := by
 have vI := Try.underlying23; have HB := ah.mk (Below.refl w.heap.size w); have H := h; clear h
 dsimp only [iV.f] at H
 by_cases c2 : aU = 0
 ·rw [if_pos c2] at H; have oH : (aU == 0) = true := beq_iff_eq.mpr c2; have zN : (aU != 0) = false := bne_eq_false_iff_eq.mpr c2; clear c2
  by_cases c3 : aT = 0
  ·rw [if_pos c3] at H; have tY : (aT == 0) = true := beq_iff_eq.mpr c3; have IY : (aT != 0) = false := bne_eq_false_iff_eq.mpr c3; clear c3; obtain rfl := Option.some.inj H
   go_enter Try.func111, Try.ntmps111
   go_wp2_with (first | ((with_reducible refine bE (N := 1) rfl ?_); (try (refine gM (by rfl) ?_; dsimp only)); refine bC ?hg (N := 1) ?hd (cs := #[.int .i64 aU, .int .i64 aT, .string aV]) (t := 23) ?hr ?_; (case hd => rfl); (case hg => rfl); (case hr => first | (go_simp; done) | (go_simp; rfl)); intro au hg w4 bK hb; have ak := ah.mk (bK); have fO := ah.mk ((zz0 : w.heap.size ≤ au)); have fF := ah.mk ((zz0 : w.heap.size ≤ au)); replace HB := ah.mk (av zz1 hb); clear hb bK hg; have Ed : w4.cell? ⟨au, 0, none⟩ = some (.int .i64 aU) := cK ak 0; have Ec : w4.cell? ⟨au, 1, none⟩ = some (.int .i64 aT) := cK ak 1; have Eb : w4.cell? ⟨au, 2, none⟩ = some (.string aV) := cK ak 2; have D7 := aj ak.out 0; have D6 := aj ak.out 1; have D5 := aj ak.out 2))
   go_ret
   exact ⟨zz6, zz5⟩
  ·rw [if_neg c3] at H; have tY : (aT == 0) = false := beq_eq_false_iff_ne.mpr c3; have IY : (aT != 0) = true := bne_iff_ne.mpr c3; obtain rfl := Option.some.inj H
   go_enter Try.func111, Try.ntmps111
   go_wp2_with (first | ((with_reducible refine bE (N := 1) rfl ?_); (try (refine gM (by rfl) ?_; dsimp only)); refine bC ?hg (N := 1) ?hd (cs := #[.int .i64 aU, .int .i64 aT, .string aV]) (t := 23) ?hr ?_; (case hd => rfl); (case hg => rfl); (case hr => first | (go_simp; done) | (go_simp; rfl)); intro au hg w6 bK hb; have ak := ah.mk (bK); have fO := ah.mk ((zz0 : w.heap.size ≤ au)); have fF := ah.mk ((zz0 : w.heap.size ≤ au)); replace HB := ah.mk (av zz1 hb); clear hb bK hg; have vL : w6.cell? ⟨au, 0, none⟩ = some (.int .i64 aU) := cK ak 0; have vK : w6.cell? ⟨au, 1, none⟩ = some (.int .i64 aT) := cK ak 1; have yD : w6.cell? ⟨au, 2, none⟩ = some (.string aV) := cK ak 2; have yB := aj ak.out 0; have vJ := aj ak.out 1; have yA := aj ak.out 2))
   go_ret
   exact ⟨zz6, zz5⟩
 ·rw [if_neg c2] at H; have oH : (aU == 0) = false := beq_eq_false_iff_ne.mpr c2; have zN : (aU != 0) = true := bne_iff_ne.mpr c2
  by_cases c8 : aU = 1
  ·rw [if_pos c8] at H; have pI : (aU == 1) = true := beq_iff_eq.mpr c8; have EU : (aU != 1) = false := bne_eq_false_iff_eq.mpr c8; clear c8
   by_cases c9 : aT ≥ (-4294967296)
   ·rw [if_pos c9] at H; have xH : decide ((-4294967296) ≤ aT) = true := decide_eq_true c9; clear c9
    by_cases c10 : aT ≤ 4294967296
    ·rw [if_pos c10] at H; have xM : decide (aT ≤ 4294967296) = true := decide_eq_true c10; clear c10; obtain rfl := Option.some.inj H
     go_enter Try.func111, Try.ntmps111
     go_wp2_with (first | ((with_reducible refine bE (N := 1) rfl ?_); (try (refine gM (by rfl) ?_; dsimp only)); refine bC ?hg (N := 1) ?hd (cs := #[.int .i64 aU, .int .i64 aT, .string aV]) (t := 23) ?hr ?_; (case hd => rfl); (case hg => rfl); (case hr => first | (go_simp; done) | (go_simp; rfl)); intro au hg w11 bK hb; have ak := ah.mk (bK); have fO := ah.mk ((zz0 : w.heap.size ≤ au)); have fF := ah.mk ((zz0 : w.heap.size ≤ au)); replace HB := ah.mk (av zz1 hb); clear hb bK hg; have ow : w11.cell? ⟨au, 0, none⟩ = some (.int .i64 aU) := cK ak 0; have ou : w11.cell? ⟨au, 1, none⟩ = some (.int .i64 aT) := cK ak 1; have oq : w11.cell? ⟨au, 2, none⟩ = some (.string aV) := cK ak 2; have oo := aj ak.out 0; have om := aj ak.out 1; have oh := aj ak.out 2))
     go_ret
     exact ⟨zz6, zz5⟩
    ·rw [if_neg c10] at H; have xM : decide (aT ≤ 4294967296) = false := decide_eq_false c10; clear c10; obtain rfl := Option.some.inj H
     go_enter Try.func111, Try.ntmps111
     go_wp2_with (first | ((with_reducible refine bE (N := 1) rfl ?_); (try (refine gM (by rfl) ?_; dsimp only)); refine bC ?hg (N := 1) ?hd (cs := #[.int .i64 aU, .int .i64 aT, .string aV]) (t := 23) ?hr ?_; (case hd => rfl); (case hg => rfl); (case hr => first | (go_simp; done) | (go_simp; rfl)); intro au hg w13 bK hb; have ak := ah.mk (bK); have fO := ah.mk ((zz0 : w.heap.size ≤ au)); have fF := ah.mk ((zz0 : w.heap.size ≤ au)); replace HB := ah.mk (av zz1 hb); clear hb bK hg; have xu : w13.cell? ⟨au, 0, none⟩ = some (.int .i64 aU) := cK ak 0; have xq : w13.cell? ⟨au, 1, none⟩ = some (.int .i64 aT) := cK ak 1; have xk : w13.cell? ⟨au, 2, none⟩ = some (.string aV) := cK ak 2; have wX := aj ak.out 0; have wW := aj ak.out 1; have wV := aj ak.out 2))
     go_ret
     exact ⟨zz6, zz5⟩
   ·rw [if_neg c9] at H; have xH : decide ((-4294967296) ≤ aT) = false := decide_eq_false c9; clear c9; obtain rfl := Option.some.inj H
    go_enter Try.func111, Try.ntmps111
    go_wp2_with (first | ((with_reducible refine bE (N := 1) rfl ?_); (try (refine gM (by rfl) ?_; dsimp only)); refine bC ?hg (N := 1) ?hd (cs := #[.int .i64 aU, .int .i64 aT, .string aV]) (t := 23) ?hr ?_; (case hd => rfl); (case hg => rfl); (case hr => first | (go_simp; done) | (go_simp; rfl)); intro au hg w15 bK hb; have ak := ah.mk (bK); have fO := ah.mk ((zz0 : w.heap.size ≤ au)); have fF := ah.mk ((zz0 : w.heap.size ≤ au)); replace HB := ah.mk (av zz1 hb); clear hb bK hg; have Dk : w15.cell? ⟨au, 0, none⟩ = some (.int .i64 aU) := cK ak 0; have Dj : w15.cell? ⟨au, 1, none⟩ = some (.int .i64 aT) := cK ak 1; have Di : w15.cell? ⟨au, 2, none⟩ = some (.string aV) := cK ak 2; have CS := aj ak.out 0; have CQ := aj ak.out 1; have CP := aj ak.out 2))
    go_ret
    exact ⟨zz6, zz5⟩
  ·rw [if_neg c8] at H; have pI : (aU == 1) = false := beq_eq_false_iff_ne.mpr c8; have EU : (aU != 1) = true := bne_iff_ne.mpr c8
   by_cases c17 : aU = 2
   ·rw [if_pos c17] at H; have NH : (aU == 2) = true := beq_iff_eq.mpr c17; have c17b1 : (aU != 2) = false := bne_eq_false_iff_eq.mpr c17; clear c17
    by_cases c18 : aT = 0
    ·rw [if_pos c18] at H; have Jh : (aT == 0) = true := beq_iff_eq.mpr c18; have WE : (aT != 0) = false := bne_eq_false_iff_eq.mpr c18; clear c18; obtain rfl := Option.some.inj H
     go_enter Try.func111, Try.ntmps111
     go_wp2_with (first | ((with_reducible refine bE (N := 1) rfl ?_); (try (refine gM (by rfl) ?_; dsimp only)); refine bC ?hg (N := 1) ?hd (cs := #[.int .i64 aU, .int .i64 aT, .string aV]) (t := 23) ?hr ?_; (case hd => rfl); (case hg => rfl); (case hr => first | (go_simp; done) | (go_simp; rfl)); intro au hg w19 bK hb; have ak := ah.mk (bK); have fO := ah.mk ((zz0 : w.heap.size ≤ au)); have fF := ah.mk ((zz0 : w.heap.size ≤ au)); replace HB := ah.mk (av zz1 hb); clear hb bK hg; have qj : w19.cell? ⟨au, 0, none⟩ = some (.int .i64 aU) := cK ak 0; have qh : w19.cell? ⟨au, 1, none⟩ = some (.int .i64 aT) := cK ak 1; have tO : w19.cell? ⟨au, 2, none⟩ = some (.string aV) := cK ak 2; have qZ := aj ak.out 0; have qd := aj ak.out 1; have tJ := aj ak.out 2))
     go_ret
     exact ⟨zz6, zz5⟩
    ·rw [if_neg c18] at H; have Jh : (aT == 0) = false := beq_eq_false_iff_ne.mpr c18; have WE : (aT != 0) = true := bne_iff_ne.mpr c18; obtain rfl := Option.some.inj H
     go_enter Try.func111, Try.ntmps111
     go_wp2_with (first | ((with_reducible refine bE (N := 1) rfl ?_); (try (refine gM (by rfl) ?_; dsimp only)); refine bC ?hg (N := 1) ?hd (cs := #[.int .i64 aU, .int .i64 aT, .string aV]) (t := 23) ?hr ?_; (case hd => rfl); (case hg => rfl); (case hr => first | (go_simp; done) | (go_simp; rfl)); intro au hg w21 bK hb; have ak := ah.mk (bK); have fO := ah.mk ((zz0 : w.heap.size ≤ au)); have fF := ah.mk ((zz0 : w.heap.size ≤ au)); replace HB := ah.mk (av zz1 hb); clear hb bK hg; have FX : w21.cell? ⟨au, 0, none⟩ = some (.int .i64 aU) := cK ak 0; have FW : w21.cell? ⟨au, 1, none⟩ = some (.int .i64 aT) := cK ak 1; have FV : w21.cell? ⟨au, 2, none⟩ = some (.string aV) := cK ak 2; have FI := aj ak.out 0; have FH := aj ak.out 1; have FE := aj ak.out 2))
     go_ret
     exact ⟨zz6, zz5⟩
   ·rw [if_neg c17] at H; have NH : (aU == 2) = false := beq_eq_false_iff_ne.mpr c17; have c17b1 : (aU != 2) = true := bne_iff_ne.mpr c17; obtain rfl := Option.some.inj H
    go_enter Try.func111, Try.ntmps111
    go_wp2_with (first | ((with_reducible refine bE (N := 1) rfl ?_); (try (refine gM (by rfl) ?_; dsimp only)); refine bC ?hg (N := 1) ?hd (cs := #[.int .i64 aU, .int .i64 aT, .string aV]) (t := 23) ?hr ?_; (case hd => rfl); (case hg => rfl); (case hr => first | (go_simp; done) | (go_simp; rfl)); intro au hg w23 bK hb; have ak := ah.mk (bK); have fO := ah.mk ((zz0 : w.heap.size ≤ au)); have fF := ah.mk ((zz0 : w.heap.size ≤ au)); replace HB := ah.mk (av zz1 hb); clear hb bK hg; have Db : w23.cell? ⟨au, 0, none⟩ = some (.int .i64 aU) := cK ak 0; have Da : w23.cell? ⟨au, 1, none⟩ = some (.int .i64 aT) := cK ak 1; have C9 : w23.cell? ⟨au, 2, none⟩ = some (.string aV) := cK ak 2; have CB := aj ak.out 0; have Cz := aj ak.out 1; have Cy := aj ak.out 2))
    go_ret
    exact ⟨zz6, zz5⟩
def dU.f (aU : Int) (aT : Int) (aV : ByteArray) : Option (Int × Int × ByteArray) := (iV.f aU aT aV).bind fun t273 => (if t273 = true then (some (aU, aT, aV)) else (some (0, 0, (⟨#[]⟩ : ByteArray))))
set_option maxHeartbeats 8000000 in
set_option maxRecDepth 100000 in
theorem dU.calls (aU : Int) (aT : Int) (aV : ByteArray) (r1 : Int) (r2 : Int) (r3 : ByteArray) (w : World) (h : dU.f aU aT aV = some (r1, r2, r3)) :
  Calls Try.prog 84 #[.agg #[.int .i64 aU, .int .i64 aT, .string aV]] w fun e w' => e = .returned (.agg #[.int .i64 r1, .int .i64 r2, .string r3]) ∧ Below w.heap.size w w' := by
 have vI := Try.underlying23; have HB := ah.mk (Below.refl w.heap.size w); have H := h; clear h
 dsimp only [dU.f] at H
 replace H := Option.bind_eq_some_iff.mp H; obtain ⟨t273, A20, H⟩ := H; have A2 := ah.mk A20; clear A20
 by_cases c3 : t273 = true
 ·subst c3; rw [if_pos rfl] at H; simp only [Option.some.injEq, Prod.mk.injEq] at H; obtain ⟨rfl, rfl, rfl⟩ := H
  go_enter Try.func84, Try.ntmps84
  go_wp2_with (first | ((with_reducible refine bE (N := 1) rfl ?_); refine bC ?hg (N := 1) ?hd (cs := #[.int .i64 aU, .int .i64 aT, .string aV]) (t := 23) ?hr ?_; (case hd => rfl); (case hg => rfl); (case hr => first | (go_simp; done) | (go_simp; rfl)); intro au hg w4 bK hb; have ak := ah.mk (bK); have fO := ah.mk ((zz0 : w.heap.size ≤ au)); have fF := ah.mk ((zz0 : w.heap.size ≤ au)); replace HB := ah.mk (av zz1 hb); clear hb bK hg) | ((with_reducible refine bE (N := 2) rfl ?_); refine bC ?hg (N := 2) ?hd (cs := #[.int .i64 0, .int .i64 0, .string (⟨#[]⟩ : ByteArray)]) (t := 23) ?hr ?_; (case hd => rfl); (case hg => rfl); (case hr => first | (go_simp; done) | (go_simp; rfl)); intro aA hg w5 bK hb; have ay := ah.mk (bK); have jD := ah.mk ((jZ : w.heap.size ≤ aA)); have jr := ah.mk ((jZ : w.heap.size ≤ aA)); replace HB := ah.mk (av zz5 hb); have aQ := ah.mk ((DL : au ≠ aA)); have aY := ah.mk ((DK : aA ≠ au)); replace ak := ah.mk (aG (g := au) (o := .cells #[.int .i64 aU, .int .i64 aT, .string aV] 23 (0, 0)) zz4 hb); clear hb bK hg; have hnb6 := aQ.out; have hnc6 := aY.out; have vL : w5.cell? ⟨au, 0, none⟩ = some (.int .i64 aU) := cK ak 0; have vK : w5.cell? ⟨au, 1, none⟩ = some (.int .i64 aT) := cK ak 1; have yD : w5.cell? ⟨au, 2, none⟩ = some (.string aV) := cK ak 2; have yB := aj ak.out 0; have vJ := aj ak.out 1; have yA := aj ak.out 2) | ((with_reducible refine aN (f := 111) rfl ?_); refine bU (some 4) rfl rfl Try.func111 (by kernel_rfl) rfl #[.agg #[.int .i64 aU, .int .i64 aT, .string aV]] rfl zz8 ?_; (with_reducible refine (iV.calls aU aT aV true _ A2.out).mono ?_); rintro e w8 ⟨rfl, hb⟩; refine ⟨_, rfl, ?_⟩; replace ak := ah.mk (aG (g := au) (o := .cells #[.int .i64 aU, .int .i64 aT, .string aV] 23 (0, 0)) zz4 hb); replace ay := ah.mk (aG (g := aA) (o := .cells #[.int .i64 0, .int .i64 0, .string (⟨#[]⟩ : ByteArray)] 23 (0, 0)) iJ hb); replace HB := ah.mk (av fP hb); (try clear hb); (try clear hb2); (try clear hk); (try clear hi); have qM : w8.cell? ⟨au, 0, none⟩ = some (.int .i64 aU) := cK ak 0; have qL : w8.cell? ⟨au, 1, none⟩ = some (.int .i64 aT) := cK ak 1; have rZ : w8.cell? ⟨au, 2, none⟩ = some (.string aV) := cK ak 2; have qK := aj ak.out 0; have qJ := aj ak.out 1; have rY := aj ak.out 2; have oZ : w8.cell? ⟨aA, 0, none⟩ = some (.int .i64 0) := cK ay 0; have oW : w8.cell? ⟨aA, 1, none⟩ = some (.int .i64 0) := cK ay 1; have ql : w8.cell? ⟨aA, 2, none⟩ = some (.string (⟨#[]⟩ : ByteArray)) := cK ay 2; have oP := aj ay.out 0; have oO := aj ay.out 1; have qg := aj ay.out 2))
  refine bodyPost_ret (results_cell_row rfl _ _ aA 23 #[.int .i64 aU, .int .i64 aT, .string aV] (0, 0) _ rfl (by (with_reducible repeat (first | refine aM ?_ _ | refine aJ ?_ | refine aI ?_ _)); refine bZ (cs := #[.int .i64 aU, .int .i64 aT, .string (⟨#[]⟩ : ByteArray)]) ?_ 2 _ rfl; (with_reducible repeat (first | refine aM ?_ _ | refine aJ ?_ | refine aI ?_ _)); refine bZ (cs := #[.int .i64 aU, .int .i64 0, .string (⟨#[]⟩ : ByteArray)]) ?_ 1 _ rfl; (with_reducible repeat (first | refine aM ?_ _ | refine aJ ?_ | refine aI ?_ _)); refine bZ (cs := #[.int .i64 0, .int .i64 0, .string (⟨#[]⟩ : ByteArray)]) ?_ 0 _ rfl; (with_reducible repeat (first | refine aM ?_ _ | refine aJ ?_ | refine aI ?_ _)); exact ay.out) Try.underlying23 rfl (by kernel_rfl)) rfl ?_; exact ⟨zz6, fP⟩
 ·replace c3 := Bool.eq_false_iff.mpr c3; subst c3; rw [if_neg (show ¬ (false = true) by decide)] at H; simp only [Option.some.injEq, Prod.mk.injEq] at H; obtain ⟨rfl, rfl, rfl⟩ := H
  go_enter Try.func84, Try.ntmps84
  go_wp2_with (first | ((with_reducible refine bE (N := 1) rfl ?_); refine bC ?hg (N := 1) ?hd (cs := #[.int .i64 aU, .int .i64 aT, .string aV]) (t := 23) ?hr ?_; (case hd => rfl); (case hg => rfl); (case hr => first | (go_simp; done) | (go_simp; rfl)); intro au hg w11 bK hb; have ak := ah.mk (bK); have fO := ah.mk ((zz0 : w.heap.size ≤ au)); have fF := ah.mk ((zz0 : w.heap.size ≤ au)); replace HB := ah.mk (av zz1 hb); clear hb bK hg) | ((with_reducible refine bE (N := 2) rfl ?_); refine bC ?hg (N := 2) ?hd (cs := #[.int .i64 0, .int .i64 0, .string (⟨#[]⟩ : ByteArray)]) (t := 23) ?hr ?_; (case hd => rfl); (case hg => rfl); (case hr => first | (go_simp; done) | (go_simp; rfl)); intro aA hg w12 bK hb; have ay := ah.mk (bK); have jD := ah.mk ((jZ : w.heap.size ≤ aA)); have jr := ah.mk ((jZ : w.heap.size ≤ aA)); replace HB := ah.mk (av zz5 hb); have aQ := ah.mk ((DL : au ≠ aA)); have aY := ah.mk ((DK : aA ≠ au)); replace ak := ah.mk (aG (g := au) (o := .cells #[.int .i64 aU, .int .i64 aT, .string aV] 23 (0, 0)) zz4 hb); clear hb bK hg; have hnb13 := aQ.out; have hnc13 := aY.out; have xu : w12.cell? ⟨au, 0, none⟩ = some (.int .i64 aU) := cK ak 0; have xq : w12.cell? ⟨au, 1, none⟩ = some (.int .i64 aT) := cK ak 1; have xk : w12.cell? ⟨au, 2, none⟩ = some (.string aV) := cK ak 2; have wX := aj ak.out 0; have wW := aj ak.out 1; have wV := aj ak.out 2) | ((with_reducible refine aN (f := 111) rfl ?_); refine bU (some 4) rfl rfl Try.func111 (by kernel_rfl) rfl #[.agg #[.int .i64 aU, .int .i64 aT, .string aV]] rfl zz8 ?_; (with_reducible refine (iV.calls aU aT aV false _ A2.out).mono ?_); rintro e w15 ⟨rfl, hb⟩; refine ⟨_, rfl, ?_⟩; replace ak := ah.mk (aG (g := au) (o := .cells #[.int .i64 aU, .int .i64 aT, .string aV] 23 (0, 0)) zz4 hb); replace ay := ah.mk (aG (g := aA) (o := .cells #[.int .i64 0, .int .i64 0, .string (⟨#[]⟩ : ByteArray)] 23 (0, 0)) iJ hb); replace HB := ah.mk (av fP hb); (try clear hb); (try clear hb2); (try clear hk); (try clear hi); have Dk : w15.cell? ⟨aA, 0, none⟩ = some (.int .i64 0) := cK ay 0; have Dj : w15.cell? ⟨aA, 1, none⟩ = some (.int .i64 0) := cK ay 1; have Di : w15.cell? ⟨aA, 2, none⟩ = some (.string (⟨#[]⟩ : ByteArray)) := cK ay 2; have CS := aj ay.out 0; have CQ := aj ay.out 1; have CP := aj ay.out 2))
  refine bodyPost_ret (results_cell_row rfl _ _ aA 23 #[.int .i64 0, .int .i64 0, .string (⟨#[]⟩ : ByteArray)] (0, 0) _ rfl (by (with_reducible repeat (first | refine aM ?_ _ | refine aJ ?_ | refine aI ?_ _)); refine bZ (cs := #[.int .i64 0, .int .i64 0, .string (⟨#[]⟩ : ByteArray)]) ?_ 2 _ rfl; (with_reducible repeat (first | refine aM ?_ _ | refine aJ ?_ | refine aI ?_ _)); refine bZ (cs := #[.int .i64 0, .int .i64 0, .string (⟨#[]⟩ : ByteArray)]) ?_ 1 _ rfl; (with_reducible repeat (first | refine aM ?_ _ | refine aJ ?_ | refine aI ?_ _)); refine bZ (cs := #[.int .i64 0, .int .i64 0, .string (⟨#[]⟩ : ByteArray)]) ?_ 0 _ rfl; (with_reducible repeat (first | refine aM ?_ _ | refine aJ ?_ | refine aI ?_ _)); exact ay.out) Try.underlying23 rfl (by kernel_rfl)) rfl ?_; exact ⟨zz6, fP⟩
def iB.f (a0 : ByteArray) : Option (Int × Int × ByteArray) := (dU.f 2 0 a0).bind fun WS => (some (WS.1, WS.2.1, WS.2.2))
set_option maxHeartbeats 8000000 in
set_option maxRecDepth 100000 in
theorem iB.calls (a0 : ByteArray) (r1 : Int) (r2 : Int) (r3 : ByteArray) (w : World) (h : iB.f a0 = some (r1, r2, r3)) :
  Calls Try.prog 46 #[.string a0] w fun e w' => e = .returned (.agg #[.int .i64 r1, .int .i64 r2, .string r3]) ∧ Below w.heap.size w w' := by
 have vI := Try.underlying23; have HB := ah.mk (Below.refl w.heap.size w); have H := h; clear h
 dsimp only [iB.f] at H
 replace H := Option.bind_eq_some_iff.mp H; obtain ⟨⟨t275, t276, t277⟩, A20, H⟩ := H
 try dsimp only at H
 have A2 := ah.mk A20; clear A20; simp only [Option.some.injEq, Prod.mk.injEq] at H; obtain ⟨rfl, rfl, rfl⟩ := H
 go_enter Try.func46, Try.ntmps46
 go_wp2_with (first | ((with_reducible refine bE (N := 2) rfl ?_); refine bC ?hg (N := 2) ?hd (cs := #[.int .i64 0, .int .i64 0, .string (⟨#[]⟩ : ByteArray)]) (t := 23) ?hr ?_; (case hd => rfl); (case hg => rfl); (case hr => first | (go_simp; done) | (go_simp; rfl)); intro au hg w3 bK hb; have ak := ah.mk (bK); have fO := ah.mk ((zz0 : w.heap.size ≤ au)); have fF := ah.mk ((zz0 : w.heap.size ≤ au)); replace HB := ah.mk (av zz1 hb); clear hb bK hg) | ((with_reducible refine aN (f := 84) rfl ?_); refine bU (some 5) rfl rfl Try.func84 (by kernel_rfl) rfl #[.agg #[.int .i64 2, .int .i64 0, .string a0]] rfl zz8 ?_; (with_reducible refine (dU.calls 2 0 a0 t275 t276 t277 _ A2.out).mono ?_); rintro e w4 ⟨rfl, hb⟩; refine ⟨_, rfl, ?_⟩; replace ak := ah.mk (aG (g := au) (o := .cells #[.int .i64 0, .int .i64 0, .string (⟨#[]⟩ : ByteArray)] 23 (0, 0)) zz4 hb); replace HB := ah.mk (av zz5 hb); (try clear hb); (try clear hb2); (try clear hk); (try clear hi); have Ed : w4.cell? ⟨au, 0, none⟩ = some (.int .i64 0) := cK ak 0; have Ec : w4.cell? ⟨au, 1, none⟩ = some (.int .i64 0) := cK ak 1; have Eb : w4.cell? ⟨au, 2, none⟩ = some (.string (⟨#[]⟩ : ByteArray)) := cK ak 2; have D7 := aj ak.out 0; have D6 := aj ak.out 1; have D5 := aj ak.out 2))
 refine bodyPost_ret (results_cell_row rfl _ _ au 23 #[.int .i64 t275, .int .i64 t276, .string t277] (0, 0) _ rfl (by (with_reducible repeat (first | refine aM ?_ _ | refine aJ ?_ | refine aI ?_ _)); refine bZ (cs := #[.int .i64 t275, .int .i64 t276, .string (⟨#[]⟩ : ByteArray)]) ?_ 2 _ rfl; (with_reducible repeat (first | refine aM ?_ _ | refine aJ ?_ | refine aI ?_ _)); refine bZ (cs := #[.int .i64 t275, .int .i64 0, .string (⟨#[]⟩ : ByteArray)]) ?_ 1 _ rfl; (with_reducible repeat (first | refine aM ?_ _ | refine aJ ?_ | refine aI ?_ _)); refine bZ (cs := #[.int .i64 0, .int .i64 0, .string (⟨#[]⟩ : ByteArray)]) ?_ 0 _ rfl; (with_reducible repeat (first | refine aM ?_ _ | refine aJ ?_ | refine aI ?_ _)); exact ak.out) Try.underlying23 rfl (by kernel_rfl)) rfl ?_; exact ⟨zz6, zz5⟩
end Go.Proofs.Ythicocmnefaioaa.QS

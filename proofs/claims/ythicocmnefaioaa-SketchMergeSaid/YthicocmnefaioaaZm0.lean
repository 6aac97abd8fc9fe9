import Derived.Test.YthicocmnefaioaaZmq
namespace Go.Proofs.Ythicocmnefaioaa.QS
open Go.RowKit Go.Proofs.YthicocmnefaioaaW.dx Go.Proofs.YthicocmnefaioaaW.jF Go.Proofs.YthicocmnefaioaaW.lI
open Go.Proofs.YthicocmnefaioaaW.Sq
attribute [local go_sem] pY pW sD sw og nZ pX pR
set_option linter.unusedVariables false
set_option linter.unusedSimpArgs false
attribute [local go_sem high] jX
theorem GI : (Try.prog.info? 2).map (fun i => (i.zero, i.size, i.bytes)) = some (some (.int .i64 0), 1, 8) := by kernel_rfl
theorem info3 : (Try.prog.info? 3).map (fun i => (i.zero, i.size, i.bytes)) = some (some (.int .i64 0), 1, 8) := by kernel_rfl
theorem info5 : (Try.prog.info? 5).map (fun i => (i.zero, i.size, i.bytes)) = some (some (.int .u8 0), 1, 1) := by kernel_rfl
theorem info23 : (Try.prog.info? 23).map (fun i => (i.zero, i.size, i.bytes)) = some (some (.agg #[(.int .i64 0), (.int .i64 0), (.string ⟨#[]⟩)]), 3, 32) := by kernel_rfl
theorem DV : (Try.prog.info? 51).map (fun i => (i.zero, i.size, i.bytes)) = some (some (.agg #[(.slice none 0 0), (.int .i64 0)]), 2, 32) := by kernel_rfl
structure S23 where
 f0 : Int
 f1 : Int
 f2 : ByteArray
def z23 : S23 := ⟨(0 : Int), (0 : Int), (⟨#[]⟩ : ByteArray)⟩
def k23 : Kd S23 := Kd.iso (Kd.pair (Kd.int .i64) (Kd.pair (Kd.int .i64) Kd.string)) (fun x : S23 => (x.f0, x.f1, x.f2))
theorem VG {w : World} {x : S23} {cs : List Value} (h : k23.K w x cs) : cs = [.int .i64 x.f0, .int .i64 x.f1, .string x.f2] := by
 obtain ⟨_, _, rfl, rfl, ⟨_, _, rfl, rfl, rfl⟩⟩ := h; exact rfl
theorem sF (w : World) (base : Nat) (ok : Nat → Prop) (x : S23)  : k23.M w base ok x [.int .i64 x.f0, .int .i64 x.f1, .string x.f2] := ⟨[.int .i64 x.f0], [.int .i64 x.f1, .string x.f2], rfl, rfl, ⟨[.int .i64 x.f1], [.string x.f2], rfl, rfl, rfl⟩⟩
def aZ (xs : List S23) (i : Int) : S23 := xs.getD i.toNat z23
theorem ni {w : World} {A : Option Addr} {n : Nat} {xs : List S23} (h : Kd.C k23 w A n xs) (i : Int) (h0 : 0 ≤ i) (h1 : i < n) : ∃ ad , A = some ad ∧ w.cell? (ad.add (i.toNat * 3)) = some (.int .i64 (aZ xs i).f0) ∧ w.cell? ⟨(ad.add (i.toNat * 3)).block, (ad.add (i.toNat * 3)).off + 1, none⟩ = some (.int .i64 (aZ xs i).f1) ∧ w.cell? ⟨(ad.add (i.toNat * 3)).block, (ad.add (i.toNat * 3)).off + 2, none⟩ = some (.string (aZ xs i).f2) := by
 obtain ⟨ad, c, e, _, hK, hc0⟩ := Kd.Jw h z23 i h0 h1; have hc : ∀ j u, c[j]? = some u → w.cell? (ad.add (i.toNat * 3 + j)) = some u := hc0; obtain rfl := VG hK; exact ⟨ad, e, hc 0 _ rfl, by rw [← Ef _ _ 1 (by omega)]; exact hc 1 _ rfl, by rw [← Ef _ _ 2 (by omega)]; exact hc 2 _ rfl⟩
structure S51 where
 f0 : (List S23)
 f1 : Int
def z51 : S51 := ⟨([] : List S23), (0 : Int)⟩
def k51 : Kd S51 := Kd.iso (Kd.pair (Kd.slice 23 k23) (Kd.int .i64)) (fun x : S51 => (x.f0, x.f1))
theorem GD {w : World} {x : S51} {cs : List Value} (h : k51.K w x cs) : ∃ A0 c0, cs = [.slice A0 x.f0.length c0, .int .i64 x.f1] ∧ x.f0.length ≤ c0 ∧ k23.C w A0 x.f0.length x.f0 := by
 obtain ⟨_, _, rfl, ⟨A0, c0, rfl, l0, g0⟩, rfl⟩ := h; exact ⟨A0, c0, rfl, l0, g0⟩
theorem vR {w : World} {base : Nat} {ok : Nat → Prop} {x : S51} {cs : List Value} (h : k51.M w base ok x cs) : ∃ v0, cs = [v0, .int .i64 x.f1] ∧ k23.R 23 w base ok v0 x.f0 := by
 obtain ⟨_, _, rfl, ⟨v0, rfl, g0⟩, rfl⟩ := h; exact ⟨v0, rfl, g0⟩
theorem k51_mk (w : World) (x : S51) {A0 : Option Addr} {c0 : Nat} (l0 : x.f0.length ≤ c0) (g0 : k23.C w A0 x.f0.length x.f0) : k51.K w x [.slice A0 x.f0.length c0, .int .i64 x.f1] := ⟨[.slice A0 x.f0.length c0], [.int .i64 x.f1], rfl, ⟨A0, c0, rfl, l0, g0⟩, rfl⟩
theorem Rv (w : World) (base : Nat) (ok : Nat → Prop) (x : S51) {v0 : Value} (g0 : k23.R 23 w base ok v0 x.f0) : k51.M w base ok x [v0, .int .i64 x.f1] := ⟨[v0], [.int .i64 x.f1], rfl, ⟨v0, rfl, g0⟩, rfl⟩
theorem jw {W : World} {ok : Nat → Prop} {x : S51} {cs : List Value} (h : Kd.FK k51 W ok x cs) : ∃ A0 c0, cs = [.slice A0 x.f0.length c0, .int .i64 x.f1] ∧ x.f0.length ≤ c0 ∧ Kd.F k23 W ok A0 x.f0.length x.f0 := by
 obtain ⟨A0, c0, rfl, l0, _⟩ := GD (Kd.yO h); exact ⟨A0, c0, rfl, l0, (fun W' hW => by obtain ⟨A0_, c0_, he, l0_, g0_⟩ := GD (h W' hW); injection (Option.some.inj (show some (Value.slice A0 x.f0.length c0) = some (Value.slice A0_ x.f0.length c0_) from congrArg (fun l => l[0]?) he)) with ha_ _ _; rw [ha_]; exact g0_)⟩
theorem Bb (W : World) (ok : Nat → Prop) (x : S51) {A0 : Option Addr} {c0 : Nat} (l0 : x.f0.length ≤ c0) (g0 : Kd.F k23 W ok A0 x.f0.length x.f0) : Kd.FK k51 W ok x [.slice A0 x.f0.length c0, .int .i64 x.f1] := fun W2 hW => k51_mk W2 x l0 (g0 W2 hW)
def aD (xs : List S51) (i : Int) : S51 := xs.getD i.toNat z51
theorem fZ {w : World} {A : Option Addr} {n : Nat} {xs : List S51} (h : Kd.C k51 w A n xs) (i : Int) (h0 : 0 ≤ i) (h1 : i < n) : ∃ ad A0 c0, A = some ad ∧ w.cell? (ad.add (i.toNat * 2)) = some (.slice A0 (aD xs i).f0.length c0) ∧ w.cell? ⟨(ad.add (i.toNat * 2)).block, (ad.add (i.toNat * 2)).off + 1, none⟩ = some (.int .i64 (aD xs i).f1) ∧ (aD xs i).f0.length ≤ c0 ∧ k23.C w A0 (aD xs i).f0.length (aD xs i).f0 := by
 obtain ⟨ad, c, e, _, hK, hc0⟩ := Kd.Jw h z51 i h0 h1; have hc : ∀ j u, c[j]? = some u → w.cell? (ad.add (i.toNat * 2 + j)) = some u := hc0; obtain ⟨A0, c0, rfl, l0, g0⟩ := GD hK; exact ⟨ad, A0, c0, e, hc 0 _ rfl, by rw [← Ef _ _ 1 (by omega)]; exact hc 1 _ rfl, l0, g0⟩
mutual
def bg.j0 : Nat → Bool → ByteArray → ByteArray → Int → Int → Int → Int → Option (Bool)
 | 0, _, _, _, _, _, _, _ => none
 | k + 1, x28, JJ, JI, JH, uS, JG, EZ => if x28 = true then (some false) else (if uS = 0 then (bg.j1 k uS (uS == 0) JJ JI JH uS JG EZ) else (bg.j1 k uS (uS == 1) JJ JI JH uS JG EZ))
def bg.j1 : Nat → Int → Bool → ByteArray → ByteArray → Int → Int → Int → Int → Option (Bool)
 | 0, _, _, _, _, _, _, _, _ => none
 | k + 1, x30, x31, JJ, JI, JH, uS, JG, EZ => if x31 = true then (some true) else (if x30 = 2 then (some (EZ == 1)) else (some false))
end
def bg.f (k : Nat) (aU : ByteArray) (aT : ByteArray) (aV : Int) (bH : Int) (bG : Int) (bJ : Int) : Option (Bool) := if bG < 1 then (bg.j0 k true aU aT aV bH bG bJ) else (if bG > 1024 then (bg.j0 k true aU aT aV bH bG bJ) else (if bJ < 1 then (bg.j0 k true aU aT aV bH bG bJ) else (if bJ > 8 then (bg.j0 k true aU aT aV bH bG bJ) else (bg.j0 k (decide ((wrap64 (bG * bJ)) > 1024)) aU aT aV bH bG bJ))))
theorem bg.gU : ∀ k, (∀ y0 y1 y2 y3 y4 y5 y6, LeO (bg.j0 k y0 y1 y2 y3 y4 y5 y6) (bg.j0 (k + 1) y0 y1 y2 y3 y4 y5 y6)) ∧ (∀ y0 y1 y2 y3 y4 y5 y6 y7, LeO (bg.j1 k y0 y1 y2 y3 y4 y5 y6 y7) (bg.j1 (k + 1) y0 y1 y2 y3 y4 y5 y6 y7))
 | 0 => ⟨fun _ _ _ _ _ _ _ r h => by simp [bg.j0] at h, fun _ _ _ _ _ _ _ _ r h => by simp [bg.j1] at h⟩
 | k + 1 => by
  obtain ⟨ih0, ih1⟩ := bg.gU k; refine ⟨?_, ?_⟩
  ·intro y0 y1 y2 y3 y4 y5 y6; unfold bg.j0
   repeat' first
   | (with_reducible exact ih0 _ _ _ _ _ _ _)
   | (with_reducible exact ih1 _ _ _ _ _ _ _ _)
   | (with_reducible exact LeO.refl _)
   | (with_reducible exact LeO.none _)
   | (with_reducible refine LeO.ite ?_ ?_)
   | (with_reducible refine LeO.bind ?_ (fun _ => ?_))
   | exact ih0 _ _ _ _ _ _ _
   | exact ih1 _ _ _ _ _ _ _ _
   | exact LeO.none _
   | refine LeO.ite ?_ ?_
   | refine LeO.bind ?_ (fun _ => ?_)
  ·intro y0 y1 y2 y3 y4 y5 y6 y7; unfold bg.j1
   repeat' first
   | (with_reducible exact ih0 _ _ _ _ _ _ _)
   | (with_reducible exact ih1 _ _ _ _ _ _ _ _)
   | (with_reducible exact LeO.refl _)
   | (with_reducible exact LeO.none _)
   | (with_reducible refine LeO.ite ?_ ?_)
   | (with_reducible refine LeO.bind ?_ (fun _ => ?_))
   | exact ih0 _ _ _ _ _ _ _
   | exact ih1 _ _ _ _ _ _ _ _
   | exact LeO.none _
   | refine LeO.ite ?_ ?_
   | refine LeO.bind ?_ (fun _ => ?_)
theorem bg.mono : ∀ a0 a1 a2 a3 a4 a5 k, LeO (bg.f k a0 a1 a2 a3 a4 a5) (bg.f (k + 1) a0 a1 a2 a3 a4 a5) := by
 intro a0 a1 a2 a3 a4 a5 k; obtain ⟨ih0, ih1⟩ := bg.gU k; unfold bg.f
 repeat' first
   | (with_reducible exact ih0 _ _ _ _ _ _ _)
   | (with_reducible exact ih1 _ _ _ _ _ _ _ _)
   | (with_reducible exact LeO.refl _)
   | (with_reducible exact LeO.none _)
   | (with_reducible refine LeO.ite ?_ ?_)
   | (with_reducible refine LeO.bind ?_ (fun _ => ?_))
   | exact ih0 _ _ _ _ _ _ _
   | exact ih1 _ _ _ _ _ _ _ _
   | exact LeO.none _
   | refine LeO.ite ?_ ?_
   | refine LeO.bind ?_ (fun _ => ?_)
set_option maxHeartbeats 8000000 in
set_option maxRecDepth 100000 in
theorem bg.calls (k : Nat) (aU : ByteArray) (aT : ByteArray) (aV : Int) (bH : Int) (bG : Int) (bJ : Int) (r : Bool) (w : World) (h : bg.f k aU aT aV bH bG bJ = some r) :
  Calls Try.prog 55 #[.agg #[.string aU, .string aT, .int .i64 aV, .int .i64 bH, .int .i64 bG, .int .i64 bJ]] w fun e w' => e = .returned (.bool r) ∧ Below w.heap.size w w' := by
 have ES := Try.underlying30; have HB := ah.mk (Below.refl w.heap.size w); have H := h; clear h
 dsimp only [bg.f] at H
 have HC2 := ah.mk H; clear H
 go_enter Try.func55, Try.ntmps55
 go_upto_region 1 with (first | ((with_reducible refine bE (N := 1) rfl ?_); refine bC ?hg (N := 1) ?hd (cs := #[.string aU, .string aT, .int .i64 aV, .int .i64 bH, .int .i64 bG, .int .i64 bJ]) (t := 30) ?hr ?_; (case hd => rfl); (case hg => rfl); (case hr => first | (go_simp; done) | (go_simp; rfl)); intro au hg w3 bK hb; have ak := ah.mk (bK); have fO := ah.mk ((zz0 : w.heap.size ≤ au)); have fF := ah.mk ((zz0 : w.heap.size ≤ au)); replace HB := ah.mk (av zz1 hb); clear hb bK hg))
 (try simp only [Act.put, List.setIfInBounds_toArray, List.set_cons_zero, List.set_cons_succ])
 go_cut [28] (fun v28 wc => ∃ (kq : Nat) (QO : Bool), v28 = .bool QO ∧ ah (bg.j0 kq QO aU aT aV bH bG bJ = some r) ∧ ah (kq ≤ k) ∧ ah (wc.heap[au]? = some (.cells #[.string aU, .string aT, .int .i64 aV, .int .i64 bH, .int .i64 bG, .int .i64 bJ] 30 (0, 0))) ∧ ah (Below w.heap.size w wc))
 case first =>
  have H := HC2.out; clear HC2
  by_cases c4 : bG < 1
  ·rw [if_pos c4] at H; have lG : decide (bG < 1) = true := decide_eq_true c4; clear c4; (first | rw [lG] | (simp only [dS, eP]; rw [lG]) | skip); have H' := ah.mk H; clear H; have Ed : w3.cell? ⟨au, 0, none⟩ = some (.string aU) := cK ak 0; have Ec : w3.cell? ⟨au, 1, none⟩ = some (.string aT) := cK ak 1; have Eb : w3.cell? ⟨au, 2, none⟩ = some (.int .i64 aV) := cK ak 2; have Wd : w3.cell? ⟨au, 3, none⟩ = some (.int .i64 bH) := cK ak 3; have V9 : w3.cell? ⟨au, 4, none⟩ = some (.int .i64 bG) := cK ak 4; have V8 : w3.cell? ⟨au, 5, none⟩ = some (.int .i64 bJ) := cK ak 5; have D7 := aj ak.out 0; have D6 := aj ak.out 1; have D5 := aj ak.out 2; have VX := aj ak.out 3; have VW := aj ak.out 4; have VU := aj ak.out 5
   go_wp2
   go_meet
   case rel => exact ⟨_, (true), zz2, H', ⟨zz3⟩, ⟨zz4⟩, ⟨zz5⟩⟩
  ·rw [if_neg c4] at H; have lG : decide (bG < 1) = false := decide_eq_false c4; clear c4; (first | rw [lG] | (simp only [dS, eP]; rw [lG]) | skip)
   by_cases c6 : bG > 1024
   ·rw [if_pos c6] at H; have uR : decide (1024 < bG) = true := decide_eq_true c6; clear c6; have H' := ah.mk H; clear H; have vL : w3.cell? ⟨au, 0, none⟩ = some (.string aU) := cK ak 0; have vK : w3.cell? ⟨au, 1, none⟩ = some (.string aT) := cK ak 1; have yD : w3.cell? ⟨au, 2, none⟩ = some (.int .i64 aV) := cK ak 2; have V7 : w3.cell? ⟨au, 3, none⟩ = some (.int .i64 bH) := cK ak 3; have V6 : w3.cell? ⟨au, 4, none⟩ = some (.int .i64 bG) := cK ak 4; have V5 : w3.cell? ⟨au, 5, none⟩ = some (.int .i64 bJ) := cK ak 5; have yB := aj ak.out 0; have vJ := aj ak.out 1; have yA := aj ak.out 2; have VT := aj ak.out 3; have VR := aj ak.out 4; have VQ := aj ak.out 5
    go_wp2
    go_meet
    case rel => exact ⟨_, (true), zz2, H', ⟨zz3⟩, ⟨zz4⟩, ⟨zz5⟩⟩
   ·rw [if_neg c6] at H; have uR : decide (1024 < bG) = false := decide_eq_false c6; clear c6
    by_cases c8 : bJ < 1
    ·rw [if_pos c8] at H; have pI : decide (bJ < 1) = true := decide_eq_true c8; clear c8; have H' := ah.mk H; clear H; have qM : w3.cell? ⟨au, 0, none⟩ = some (.string aU) := cK ak 0; have qL : w3.cell? ⟨au, 1, none⟩ = some (.string aT) := cK ak 1; have rZ : w3.cell? ⟨au, 2, none⟩ = some (.int .i64 aV) := cK ak 2; have Ea : w3.cell? ⟨au, 3, none⟩ = some (.int .i64 bH) := cK ak 3; have D9 : w3.cell? ⟨au, 4, none⟩ = some (.int .i64 bG) := cK ak 4; have D8 : w3.cell? ⟨au, 5, none⟩ = some (.int .i64 bJ) := cK ak 5; have qK := aj ak.out 0; have qJ := aj ak.out 1; have rY := aj ak.out 2; have DY := aj ak.out 3; have DX := aj ak.out 4; have DW := aj ak.out 5
     go_wp2
     go_meet
     case rel => exact ⟨_, (true), zz2, H', ⟨zz3⟩, ⟨zz4⟩, ⟨zz5⟩⟩
    ·rw [if_neg c8] at H; have pI : decide (bJ < 1) = false := decide_eq_false c8; clear c8
     by_cases c10 : bJ > 8
     ·rw [if_pos c10] at H; have xM : decide (8 < bJ) = true := decide_eq_true c10; clear c10; have H' := ah.mk H; clear H; have nM : w3.cell? ⟨au, 0, none⟩ = some (.string aU) := cK ak 0; have nL : w3.cell? ⟨au, 1, none⟩ = some (.string aT) := cK ak 1; have nK : w3.cell? ⟨au, 2, none⟩ = some (.int .i64 aV) := cK ak 2; have rJ : w3.cell? ⟨au, 3, none⟩ = some (.int .i64 bH) := cK ak 3; have rH : w3.cell? ⟨au, 4, none⟩ = some (.int .i64 bG) := cK ak 4; have rG : w3.cell? ⟨au, 5, none⟩ = some (.int .i64 bJ) := cK ak 5; have nJ := aj ak.out 0; have nI := aj ak.out 1; have nH := aj ak.out 2; have rC := aj ak.out 3; have rA := aj ak.out 4; have rz := aj ak.out 5
      go_wp2
      go_meet
      case rel => exact ⟨_, (true), zz2, H', ⟨zz3⟩, ⟨zz4⟩, ⟨zz5⟩⟩
     ·rw [if_neg c10] at H; have xM : decide (8 < bJ) = false := decide_eq_false c10; clear c10; have H' := ah.mk H; clear H; have ow : w3.cell? ⟨au, 0, none⟩ = some (.string aU) := cK ak 0; have ou : w3.cell? ⟨au, 1, none⟩ = some (.string aT) := cK ak 1; have oq : w3.cell? ⟨au, 2, none⟩ = some (.int .i64 aV) := cK ak 2; have vC : w3.cell? ⟨au, 3, none⟩ = some (.int .i64 bH) := cK ak 3; have vB : w3.cell? ⟨au, 4, none⟩ = some (.int .i64 bG) := cK ak 4; have vw : w3.cell? ⟨au, 5, none⟩ = some (.int .i64 bJ) := cK ak 5; have oo := aj ak.out 0; have om := aj ak.out 1; have oh := aj ak.out 2; have vv := aj ak.out 3; have vo := aj ak.out 4; have vk := aj ak.out 5
      go_wp2
      go_meet
      case rel => exact ⟨_, (decide ((wrap64 (bG * bJ)) > 1024)), zz2, H', ⟨zz3⟩, ⟨zz4⟩, ⟨zz5⟩⟩
 case rest =>
  clear HC2; (try clear c1); (try clear p2); (try clear c4); (try clear lG); (try clear c5); (try clear c6); (try clear uR); (try clear p6); (try clear c8); (try clear pI); (try clear c10); (try clear xM); (try clear nM); (try clear nL); (try clear nK); (try clear rJ); (try clear rH); (try clear rG); (try clear ow); (try clear ou); (try clear oq); (try clear vC); (try clear vB); (try clear vw); (try clear Ed); (try clear Ec); (try clear Eb); (try clear Wd); (try clear V9); (try clear V8); (try clear vL); (try clear vK); (try clear yD); (try clear V7); (try clear V6); (try clear V5); (try clear qM); (try clear qL); (try clear rZ); (try clear Ea); (try clear D9); (try clear D8); (try clear nJ); (try clear nI); (try clear nH); (try clear rC); (try clear rA); (try clear rz); (try clear oo); (try clear om); (try clear oh); (try clear vv); (try clear vo); (try clear vk); (try clear D7); (try clear D6); (try clear D5); (try clear VX); (try clear VW); (try clear VU); (try clear yB); (try clear vJ); (try clear yA); (try clear VT); (try clear VR); (try clear VQ); (try clear qK); (try clear qJ); (try clear rY); (try clear DY); (try clear DX); (try clear DW); obtain ⟨kq, QO, rfl, HA, HJ1, ak, HB⟩ := hcut
  cases kq with
  | zero => exact absurd HA.out (by simp [bg.j0])
  | succ kj1 =>
   have H := HA.out; clear HA; simp only [bg.j0] at H
   by_cases c13 : QO = true
   ·subst c13; rw [if_pos rfl] at H; obtain rfl := Option.some.inj H
    go_wp2
    go_ret
    exact ⟨zz6, zz5⟩
   ·replace c13 := Bool.eq_false_iff.mpr c13; subst c13; rw [if_neg (show ¬ (false = true) by decide)] at H; have HC14 := ah.mk H; clear H; have TI : wc.cell? ⟨au, 0, none⟩ = some (.string aU) := cK ak 0; have TH : wc.cell? ⟨au, 1, none⟩ = some (.string aT) := cK ak 1; have TG : wc.cell? ⟨au, 2, none⟩ = some (.int .i64 aV) := cK ak 2; have aan : wc.cell? ⟨au, 3, none⟩ = some (.int .i64 bH) := cK ak 3; have aam : wc.cell? ⟨au, 4, none⟩ = some (.int .i64 bG) := cK ak 4; have aal : wc.cell? ⟨au, 5, none⟩ = some (.int .i64 bJ) := cK ak 5; have SQ := aj ak.out 0; have SN := aj ak.out 1; have SL := aj ak.out 2; have ZC := aj ak.out 3; have ZB := aj ak.out 4; have ZA := aj ak.out 5
    go_upto_if 31 with (fail)
    go_cut [31] (fun v31 wc => ∃ (kq : Nat) (JE : Bool), v31 = .bool JE ∧ ah (bg.j1 kq bH JE aU aT aV bH bG bJ = some r) ∧ ah (kq ≤ kj1) ∧ ah (wc.heap[au]? = some (.cells #[.string aU, .string aT, .int .i64 aV, .int .i64 bH, .int .i64 bG, .int .i64 bJ] 30 (0, 0))) ∧ ah (Below w.heap.size w wc))
    case first =>
     have H := HC14.out; clear HC14
     by_cases c16 : bH = 0
     ·rw [if_pos c16] at H; have lU : (bH == 0) = true := beq_iff_eq.mpr c16; have uH : (bH != 0) = false := bne_eq_false_iff_eq.mpr c16; clear c16; (first | rw [lU] | (simp only [dS, eP]; rw [lU]) | skip); have H' := ah.mk H; clear H
      go_wp2
      go_meet
      case rel => exact ⟨_, ((bH == 0)), zz2, H', ⟨by have := HJ1.out; first | omega | exact Nat.le_refl _⟩, ⟨zz4⟩, ⟨zz5⟩⟩
     ·rw [if_neg c16] at H; have lU : (bH == 0) = false := beq_eq_false_iff_ne.mpr c16; have uH : (bH != 0) = true := bne_iff_ne.mpr c16; (first | rw [lU] | (simp only [dS, eP]; rw [lU]) | skip); have H' := ah.mk H; clear H
      go_wp2
      go_meet
      case rel => exact ⟨_, ((bH == 1)), zz2, H', ⟨by have := HJ1.out; first | omega | exact Nat.le_refl _⟩, ⟨zz4⟩, ⟨zz5⟩⟩
    case rest =>
     clear HC14; (try clear c1); (try clear p2); (try clear c4); (try clear lG); (try clear c5); (try clear c6); (try clear uR); (try clear p6); (try clear c8); (try clear pI); (try clear c10); (try clear xM); (try clear c13); (try clear c16); (try clear lU); (try clear uH); (try clear nM); (try clear nL); (try clear nK); (try clear rJ); (try clear rH); (try clear rG); (try clear ow); (try clear ou); (try clear oq); (try clear vC); (try clear vB); (try clear vw); (try clear TI); (try clear TH); (try clear TG); (try clear aan); (try clear aam); (try clear aal); (try clear Ed); (try clear Ec); (try clear Eb); (try clear Wd); (try clear V9); (try clear V8); (try clear vL); (try clear vK); (try clear yD); (try clear V7); (try clear V6); (try clear V5); (try clear qM); (try clear qL); (try clear rZ); (try clear Ea); (try clear D9); (try clear D8); (try clear nJ); (try clear nI); (try clear nH); (try clear rC); (try clear rA); (try clear rz); (try clear oo); (try clear om); (try clear oh); (try clear vv); (try clear vo); (try clear vk); (try clear SQ); (try clear SN); (try clear SL); (try clear ZC); (try clear ZB); (try clear ZA); (try clear D7); (try clear D6); (try clear D5); (try clear VX); (try clear VW); (try clear VU); (try clear yB); (try clear vJ); (try clear yA); (try clear VT); (try clear VR); (try clear VQ); (try clear qK); (try clear qJ); (try clear rY); (try clear DY); (try clear DX); (try clear DW); (try clear p2); (try clear p6); obtain ⟨kq, JE, rfl, HA, HJ13, ak, HB⟩ := hcut
     cases kq with
     | zero => exact absurd HA.out (by simp [bg.j1])
     | succ kj13 =>
      have H := HA.out; clear HA; simp only [bg.j1] at H
      by_cases c17 : JE = true
      ·subst c17; rw [if_pos rfl] at H; obtain rfl := Option.some.inj H
       go_wp2
       go_ret
       exact ⟨zz6, zz5⟩
      ·replace c17 := Bool.eq_false_iff.mpr c17; subst c17; rw [if_neg (show ¬ (false = true) by decide)] at H
       by_cases c18 : bH = 2
       ·rw [if_pos c18] at H; have Jh : (bH == 2) = true := beq_iff_eq.mpr c18; have WE : (bH != 2) = false := bne_eq_false_iff_eq.mpr c18; clear c18; obtain rfl := Option.some.inj H; have rF : wc.cell? ⟨au, 0, none⟩ = some (.string aU) := cK ak 0; have rE : wc.cell? ⟨au, 1, none⟩ = some (.string aT) := cK ak 1; have rD : wc.cell? ⟨au, 2, none⟩ = some (.int .i64 aV) := cK ak 2; have tX : wc.cell? ⟨au, 3, none⟩ = some (.int .i64 bH) := cK ak 3; have tT : wc.cell? ⟨au, 4, none⟩ = some (.int .i64 bG) := cK ak 4; have tQ : wc.cell? ⟨au, 5, none⟩ = some (.int .i64 bJ) := cK ak 5; have ru := aj ak.out 0; have q9 := aj ak.out 1; have q8 := aj ak.out 2; have tN := aj ak.out 3; have tL := aj ak.out 4; have tK := aj ak.out 5
        go_wp2
        go_ret
        exact ⟨zz6, zz5⟩
       ·rw [if_neg c18] at H; have Jh : (bH == 2) = false := beq_eq_false_iff_ne.mpr c18; have WE : (bH != 2) = true := bne_iff_ne.mpr c18; obtain rfl := Option.some.inj H
        go_wp2
        go_ret
        exact ⟨zz6, zz5⟩
def mV.f (a0 : Int) : Option (Bool) := if a0 ≥ (-4294967296) then (some (decide (a0 ≤ 4294967296))) else (some false)
set_option maxHeartbeats 8000000 in
set_option maxRecDepth 100000 in
theorem mV.calls (a0 : Int) (r : Bool) (w : World) (h : mV.f a0 = some r) :
  Calls Try.prog 99 #[.int .i64 a0] w fun e w' => e = .returned (.bool r) ∧ mG w w' := by
 have H := h; clear h
 dsimp only [mV.f] at H
 by_cases c2 : a0 ≥ (-4294967296)
 ·rw [if_pos c2] at H; have oH : decide ((-4294967296) ≤ a0) = true := decide_eq_true c2; clear c2; obtain rfl := Option.some.inj H
  go_enter Try.func99, Try.ntmps99
  go_wp2
  go_ret
  exact ⟨zz2, zz7⟩
 ·rw [if_neg c2] at H; have oH : decide ((-4294967296) ≤ a0) = false := decide_eq_false c2; clear c2; obtain rfl := Option.some.inj H
  go_enter Try.func99, Try.ntmps99
  go_wp2
  go_ret
  exact ⟨zz2, zz7⟩
def jf.f (aU : Int) (aT : Int) (aV : ByteArray) : Option (Bool) := if aU = 0 then (if aT = 0 then (some (aV.toList == ([] : List UInt8))) else (some false)) else (if aU = 1 then ((mV.f aT).bind fun t103 => (if t103 = true then (some (aV.toList == ([] : List UInt8))) else (some false))) else (if aU = 2 then (if aT = 0 then (some (decide ((aV.size : Int) ≤ 32))) else (some false)) else (some false)))
set_option maxHeartbeats 8000000 in
set_option maxRecDepth 100000 in
theorem jf.calls (aU : Int) (aT : Int) (aV : ByteArray) (r : Bool) (w : World) (h : jf.f aU aT aV = some r) :
  Calls Try.prog 69 #[.agg #[.int .i64 aU, .int .i64 aT, .string aV]] w fun e w' => e = .returned (.bool r) ∧ Below w.heap.size w w' := by
 have vI := Try.underlying23; have HB := ah.mk (Below.refl w.heap.size w); have H := h; clear h
 dsimp only [jf.f] at H
 by_cases c2 : aU = 0
 ·rw [if_pos c2] at H; have oH : (aU == 0) = true := beq_iff_eq.mpr c2; have zN : (aU != 0) = false := bne_eq_false_iff_eq.mpr c2; clear c2
  by_cases c3 : aT = 0
  ·rw [if_pos c3] at H; have tY : (aT == 0) = true := beq_iff_eq.mpr c3; have IY : (aT != 0) = false := bne_eq_false_iff_eq.mpr c3; clear c3; obtain rfl := Option.some.inj H
   go_enter Try.func69, Try.ntmps69
   go_wp2_with (first | ((with_reducible refine bE (N := 1) rfl ?_); (try (refine gM (by rfl) ?_; dsimp only)); refine bC ?hg (N := 1) ?hd (cs := #[.int .i64 aU, .int .i64 aT, .string aV]) (t := 23) ?hr ?_; (case hd => rfl); (case hg => rfl); (case hr => first | (go_simp; done) | (go_simp; rfl)); intro au hg w4 bK hb; have ak := ah.mk (bK); have fO := ah.mk ((zz0 : w.heap.size ≤ au)); have fF := ah.mk ((zz0 : w.heap.size ≤ au)); replace HB := ah.mk (av zz1 hb); clear hb bK hg; have Ed : w4.cell? ⟨au, 0, none⟩ = some (.int .i64 aU) := cK ak 0; have Ec : w4.cell? ⟨au, 1, none⟩ = some (.int .i64 aT) := cK ak 1; have Eb : w4.cell? ⟨au, 2, none⟩ = some (.string aV) := cK ak 2; have D7 := aj ak.out 0; have D6 := aj ak.out 1; have D5 := aj ak.out 2))
   go_ret
   exact ⟨zz6, zz5⟩
  ·rw [if_neg c3] at H; have tY : (aT == 0) = false := beq_eq_false_iff_ne.mpr c3; have IY : (aT != 0) = true := bne_iff_ne.mpr c3; obtain rfl := Option.some.inj H
   go_enter Try.func69, Try.ntmps69
   go_wp2_with (first | ((with_reducible refine bE (N := 1) rfl ?_); (try (refine gM (by rfl) ?_; dsimp only)); refine bC ?hg (N := 1) ?hd (cs := #[.int .i64 aU, .int .i64 aT, .string aV]) (t := 23) ?hr ?_; (case hd => rfl); (case hg => rfl); (case hr => first | (go_simp; done) | (go_simp; rfl)); intro au hg w6 bK hb; have ak := ah.mk (bK); have fO := ah.mk ((zz0 : w.heap.size ≤ au)); have fF := ah.mk ((zz0 : w.heap.size ≤ au)); replace HB := ah.mk (av zz1 hb); clear hb bK hg; have vL : w6.cell? ⟨au, 0, none⟩ = some (.int .i64 aU) := cK ak 0; have vK : w6.cell? ⟨au, 1, none⟩ = some (.int .i64 aT) := cK ak 1; have yD : w6.cell? ⟨au, 2, none⟩ = some (.string aV) := cK ak 2; have yB := aj ak.out 0; have vJ := aj ak.out 1; have yA := aj ak.out 2))
   go_ret
   exact ⟨zz6, zz5⟩
 ·rw [if_neg c2] at H; have oH : (aU == 0) = false := beq_eq_false_iff_ne.mpr c2; have zN : (aU != 0) = true := bne_iff_ne.mpr c2
  by_cases c8 : aU = 1
  ·rw [if_pos c8] at H; have pI : (aU == 1) = true := beq_iff_eq.mpr c8; have EU : (aU != 1) = false := bne_eq_false_iff_eq.mpr c8; clear c8; replace H := Option.bind_eq_some_iff.mp H; obtain ⟨t103, A90, H⟩ := H; have A9 := ah.mk A90; clear A90
   by_cases c10 : t103 = true
   ·subst c10; rw [if_pos rfl] at H; obtain rfl := Option.some.inj H
    go_enter Try.func69, Try.ntmps69
    go_wp2_with (first | ((with_reducible refine bE (N := 1) rfl ?_); (try (refine gM (by rfl) ?_; dsimp only)); refine bC ?hg (N := 1) ?hd (cs := #[.int .i64 aU, .int .i64 aT, .string aV]) (t := 23) ?hr ?_; (case hd => rfl); (case hg => rfl); (case hr => first | (go_simp; done) | (go_simp; rfl)); intro au hg w11 bK hb; have ak := ah.mk (bK); have fO := ah.mk ((zz0 : w.heap.size ≤ au)); have fF := ah.mk ((zz0 : w.heap.size ≤ au)); replace HB := ah.mk (av zz1 hb); clear hb bK hg; have ow : w11.cell? ⟨au, 0, none⟩ = some (.int .i64 aU) := cK ak 0; have ou : w11.cell? ⟨au, 1, none⟩ = some (.int .i64 aT) := cK ak 1; have oq : w11.cell? ⟨au, 2, none⟩ = some (.string aV) := cK ak 2; have oo := aj ak.out 0; have om := aj ak.out 1; have oh := aj ak.out 2) | ((with_reducible refine aN (f := 99) rfl ?_); refine bU (some 19) rfl rfl Try.func99 (by kernel_rfl) rfl #[.int .i64 aT] rfl zz8 ?_; (with_reducible refine (mV.calls aT true _ A9.out).mono ?_); rintro e w' ⟨rfl, ⟨nd, rfl⟩⟩; refine ⟨_, rfl, ?_⟩))
    go_ret
    exact ⟨zz6, zz5⟩
   ·replace c10 := Bool.eq_false_iff.mpr c10; subst c10; rw [if_neg (show ¬ (false = true) by decide)] at H; obtain rfl := Option.some.inj H
    go_enter Try.func69, Try.ntmps69
    go_wp2_with (first | ((with_reducible refine bE (N := 1) rfl ?_); (try (refine gM (by rfl) ?_; dsimp only)); refine bC ?hg (N := 1) ?hd (cs := #[.int .i64 aU, .int .i64 aT, .string aV]) (t := 23) ?hr ?_; (case hd => rfl); (case hg => rfl); (case hr => first | (go_simp; done) | (go_simp; rfl)); intro au hg w13 bK hb; have ak := ah.mk (bK); have fO := ah.mk ((zz0 : w.heap.size ≤ au)); have fF := ah.mk ((zz0 : w.heap.size ≤ au)); replace HB := ah.mk (av zz1 hb); clear hb bK hg; have xu : w13.cell? ⟨au, 0, none⟩ = some (.int .i64 aU) := cK ak 0; have xq : w13.cell? ⟨au, 1, none⟩ = some (.int .i64 aT) := cK ak 1; have xk : w13.cell? ⟨au, 2, none⟩ = some (.string aV) := cK ak 2; have wX := aj ak.out 0; have wW := aj ak.out 1; have wV := aj ak.out 2) | ((with_reducible refine aN (f := 99) rfl ?_); refine bU (some 19) rfl rfl Try.func99 (by kernel_rfl) rfl #[.int .i64 aT] rfl zz8 ?_; (with_reducible refine (mV.calls aT false _ A9.out).mono ?_); rintro e w' ⟨rfl, ⟨nd, rfl⟩⟩; refine ⟨_, rfl, ?_⟩))
    go_ret
    exact ⟨zz6, zz5⟩
  ·rw [if_neg c8] at H; have pI : (aU == 1) = false := beq_eq_false_iff_ne.mpr c8; have EU : (aU != 1) = true := bne_iff_ne.mpr c8
   by_cases c15 : aU = 2
   ·rw [if_pos c15] at H; have H7 : (aU == 2) = true := beq_iff_eq.mpr c15; have TY : (aU != 2) = false := bne_eq_false_iff_eq.mpr c15; clear c15
    by_cases c16 : aT = 0
    ·rw [if_pos c16] at H; have lU : (aT == 0) = true := beq_iff_eq.mpr c16; have uH : (aT != 0) = false := bne_eq_false_iff_eq.mpr c16; clear c16; obtain rfl := Option.some.inj H
     go_enter Try.func69, Try.ntmps69
     go_wp2_with (first | ((with_reducible refine bE (N := 1) rfl ?_); (try (refine gM (by rfl) ?_; dsimp only)); refine bC ?hg (N := 1) ?hd (cs := #[.int .i64 aU, .int .i64 aT, .string aV]) (t := 23) ?hr ?_; (case hd => rfl); (case hg => rfl); (case hr => first | (go_simp; done) | (go_simp; rfl)); intro au hg w17 bK hb; have ak := ah.mk (bK); have fO := ah.mk ((zz0 : w.heap.size ≤ au)); have fF := ah.mk ((zz0 : w.heap.size ≤ au)); replace HB := ah.mk (av zz1 hb); clear hb bK hg; have zy : w17.cell? ⟨au, 0, none⟩ = some (.int .i64 aU) := cK ak 0; have zx : w17.cell? ⟨au, 1, none⟩ = some (.int .i64 aT) := cK ak 1; have Dh : w17.cell? ⟨au, 2, none⟩ = some (.string aV) := cK ak 2; have CO := aj ak.out 0; have zm := aj ak.out 1; have CK := aj ak.out 2))
     go_ret
     exact ⟨zz6, zz5⟩
    ·rw [if_neg c16] at H; have lU : (aT == 0) = false := beq_eq_false_iff_ne.mpr c16; have uH : (aT != 0) = true := bne_iff_ne.mpr c16; obtain rfl := Option.some.inj H
     go_enter Try.func69, Try.ntmps69
     go_wp2_with (first | ((with_reducible refine bE (N := 1) rfl ?_); (try (refine gM (by rfl) ?_; dsimp only)); refine bC ?hg (N := 1) ?hd (cs := #[.int .i64 aU, .int .i64 aT, .string aV]) (t := 23) ?hr ?_; (case hd => rfl); (case hg => rfl); (case hr => first | (go_simp; done) | (go_simp; rfl)); intro au hg w19 bK hb; have ak := ah.mk (bK); have fO := ah.mk ((zz0 : w.heap.size ≤ au)); have fF := ah.mk ((zz0 : w.heap.size ≤ au)); replace HB := ah.mk (av zz1 hb); clear hb bK hg; have qj : w19.cell? ⟨au, 0, none⟩ = some (.int .i64 aU) := cK ak 0; have qh : w19.cell? ⟨au, 1, none⟩ = some (.int .i64 aT) := cK ak 1; have tO : w19.cell? ⟨au, 2, none⟩ = some (.string aV) := cK ak 2; have qZ := aj ak.out 0; have qd := aj ak.out 1; have tJ := aj ak.out 2))
     go_ret
     exact ⟨zz6, zz5⟩
   ·rw [if_neg c15] at H; have H7 : (aU == 2) = false := beq_eq_false_iff_ne.mpr c15; have TY : (aU != 2) = true := bne_iff_ne.mpr c15; obtain rfl := Option.some.inj H
    go_enter Try.func69, Try.ntmps69
    go_wp2_with (first | ((with_reducible refine bE (N := 1) rfl ?_); (try (refine gM (by rfl) ?_; dsimp only)); refine bC ?hg (N := 1) ?hd (cs := #[.int .i64 aU, .int .i64 aT, .string aV]) (t := 23) ?hr ?_; (case hd => rfl); (case hg => rfl); (case hr => first | (go_simp; done) | (go_simp; rfl)); intro au hg w21 bK hb; have ak := ah.mk (bK); have fO := ah.mk ((zz0 : w.heap.size ≤ au)); have fF := ah.mk ((zz0 : w.heap.size ≤ au)); replace HB := ah.mk (av zz1 hb); clear hb bK hg; have FX : w21.cell? ⟨au, 0, none⟩ = some (.int .i64 aU) := cK ak 0; have FW : w21.cell? ⟨au, 1, none⟩ = some (.int .i64 aT) := cK ak 1; have FV : w21.cell? ⟨au, 2, none⟩ = some (.string aV) := cK ak 2; have FI := aj ak.out 0; have FH := aj ak.out 1; have FE := aj ak.out 2))
    go_ret
    exact ⟨zz6, zz5⟩
def dO.l0 : Nat → List (S23) → List (S23) → Int → Int → Option (Bool)
 | 0, _, _, _, _ => none
 | k + 1, x0, x5, x6, x7 => if x7 < x6 then (if 0 ≤ x7 then (if x7 < (x5.length : Int) then ((jf.f ((aZ x5 x7).f0) ((aZ x5 x7).f1) ((aZ x5 x7).f2)).bind fun t106 => (if t106 = true then (dO.l0 k x0 x5 x6 (wrap64 (x7 + 1))) else (some false))) else (none)) else (none)) else (some (decide ((x0.length : Int) ≤ 16)))
def dO.f (k : Nat) (l0 : List (S23)) : Option (Bool) := dO.l0 k l0 l0 (l0.length : Int) 0
theorem dO.gU : ∀ k, (∀ y0 y1 y2 y3, LeO (dO.l0 k y0 y1 y2 y3) (dO.l0 (k + 1) y0 y1 y2 y3))
 | 0 => fun _ _ _ _ r h => by simp [dO.l0] at h
 | k + 1 => by
  have ih0 := dO.gU k
  ·intro y0 y1 y2 y3; unfold dO.l0
   repeat' first
   | (with_reducible exact ih0 _ _ _ _)
   | (with_reducible exact LeO.refl _)
   | (with_reducible exact LeO.none _)
   | (with_reducible refine LeO.ite ?_ ?_)
   | (with_reducible refine LeO.bind ?_ (fun _ => ?_))
   | exact ih0 _ _ _ _
   | exact LeO.none _
   | refine LeO.ite ?_ ?_
   | refine LeO.bind ?_ (fun _ => ?_)
theorem dO.mono : ∀ a0 k, LeO (dO.f k a0) (dO.f (k + 1) a0) := by
 intro a0 k; have ih0 := dO.gU k; unfold dO.f
 repeat' first
   | (with_reducible exact ih0 _ _ _ _)
   | (with_reducible exact LeO.refl _)
   | (with_reducible exact LeO.none _)
   | (with_reducible refine LeO.ite ?_ ?_)
   | (with_reducible refine LeO.bind ?_ (fun _ => ?_))
   | exact ih0 _ _ _ _
   | exact LeO.none _
   | refine LeO.ite ?_ ?_
   | refine LeO.bind ?_ (fun _ => ?_)
set_option maxHeartbeats 8000000 in
set_option maxRecDepth 100000 in
theorem dO.calls (k : Nat) (A0 : Option Addr) (c0 : Nat) (l0 : List (S23)) (r : Bool) (w : World) (hr0 : Kd.C k23 w A0 l0.length l0) (hc0 : l0.length ≤ c0) (h : dO.f k l0 = some r) :
  Calls Try.prog 110 #[.slice A0 l0.length c0] w fun e w' => e = .returned (.bool r) ∧ Below w.heap.size w w' := by
 have vI := Try.underlying23; have HR0 := ah.mk hr0; have HC0 := ah.mk hc0; clear hr0 hc0; have HB := ah.mk (Below.refl w.heap.size w); have H := h; clear h
 dsimp only [dO.f] at H
 have H' := ah.mk H; clear H
 go_enter Try.func110, Try.ntmps110
 go_wp2
 go_loopg [7] k (fun kq v7 w' => ∃ (bT : Int), v7 = .int .i64 bT ∧ ah (dO.l0 kq l0 l0 (l0.length : Int) bT = some r) ∧ ah (kq ≤ k) ∧ ah (Below w.heap.size w w'))
 case atStart => exact ⟨(0), zz2, H', ⟨Nat.le_refl _⟩, ⟨zz1⟩⟩
 case round =>
  clear H'; (try clear c1); obtain ⟨bT, rfl, HA, HK1, HB⟩ := hrel
  cases gk with
  | zero => exact absurd HA.out (by simp [dO.l0])
  | succ k1 =>
   have H := HA.out; clear HA; simp only [dO.l0] at H
   by_cases c2 : bT < (l0.length : Int)
   ·rw [if_pos c2] at H; have oH : decide (bT < (l0.length : Int)) = true := decide_eq_true c2; clear c2
    by_cases c3 : 0 ≤ bT
    ·rw [if_pos c3] at H; have tY : decide (0 ≤ bT) = true := decide_eq_true c3; clear c3
     by_cases c4 : bT < (l0.length : Int)
     ·rw [if_pos c4] at H; have lG : decide (bT < (l0.length : Int)) = true := decide_eq_true c4; clear c4; replace H := Option.bind_eq_some_iff.mp H; obtain ⟨t106, A50, H⟩ := H; have A5 := ah.mk A50; clear A50
      by_cases c6 : t106 = true
      ·subst c6; rw [if_pos rfl] at H; have H' := ah.mk H; clear H; have Px : 0 ≤ (bT : Int) := of_decide_eq_true zz9; have O5 : bT < (l0.length : Int) := of_decide_eq_true zz9; obtain ⟨ad104, e104, Bz, Bw, Bv⟩ := ni HR0.out bT Px O5
       cases e104
       replace Bz := cB HB Bz; replace Bw := cB HB Bw; replace Bv := cB HB Bv; replace Px := eq_true Px; replace O5 := eq_true O5
       go_wp2_with (first | ((with_reducible refine bE (N := 4) rfl ?_); refine bC ?hg (N := 4) ?hd (cs := #[.int .i64 0, .int .i64 0, .string (⟨#[]⟩ : ByteArray)]) (t := 23) ?hr ?_; (case hd => rfl); (case hg => rfl); (case hr => first | (go_simp; done) | (go_simp; rfl)); intro au hg w7 bK hb; have ak := ah.mk (bK); have fO := ah.mk ((zz0 : w.heap.size ≤ au)); have fF := ah.mk ((zz0 : w.heap.size ≤ au)); replace HB := ah.mk (av zz1 hb); clear hb bK hg; have KO : w7.cell? ⟨au, 0, none⟩ = some (.int .i64 0) := cK ak 0; have KN : w7.cell? ⟨au, 1, none⟩ = some (.int .i64 0) := cK ak 1; have PO : w7.cell? ⟨au, 2, none⟩ = some (.string (⟨#[]⟩ : ByteArray)) := cK ak 2; have Ku := aj ak.out 0; have Kt := aj ak.out 1; have PL := aj ak.out 2) | ((with_reducible refine aN (f := 69) rfl ?_); refine bU (some 12) rfl rfl Try.func69 (by kernel_rfl) rfl #[.agg #[.int .i64 ((aZ l0 bT).f0), .int .i64 ((aZ l0 bT).f1), .string ((aZ l0 bT).f2)]] rfl zz8 ?_; (with_reducible refine (jf.calls ((aZ l0 bT).f0) ((aZ l0 bT).f1) ((aZ l0 bT).f2) true _ A5.out).mono ?_); rintro e w9 ⟨rfl, hb⟩; refine ⟨_, rfl, ?_⟩; replace ak := ah.mk (aG (g := au) (o := .cells #[.int .i64 ((aZ l0 bT).f0), .int .i64 ((aZ l0 bT).f1), .string ((aZ l0 bT).f2)] 23 (0, 0)) (by (with_reducible repeat (first | refine aM ?_ _ | refine aJ ?_ | refine aI ?_ _)); refine bZ (cs := #[.int .i64 ((aZ l0 bT).f0), .int .i64 ((aZ l0 bT).f1), .string (⟨#[]⟩ : ByteArray)]) ?_ 2 _ rfl; (with_reducible repeat (first | refine aM ?_ _ | refine aJ ?_ | refine aI ?_ _)); refine bZ (cs := #[.int .i64 ((aZ l0 bT).f0), .int .i64 0, .string (⟨#[]⟩ : ByteArray)]) ?_ 1 _ rfl; (with_reducible repeat (first | refine aM ?_ _ | refine aJ ?_ | refine aI ?_ _)); refine bZ (cs := #[.int .i64 0, .int .i64 0, .string (⟨#[]⟩ : ByteArray)]) ?_ 0 _ rfl; (with_reducible repeat (first | refine aM ?_ _ | refine aJ ?_ | refine aI ?_ _)); exact ak.out) hb); replace HB := ah.mk (av zz5 hb); (try clear hb); (try clear hb2); (try clear hk); (try clear hi)))
       go_roundg k1
       case measure => have := HK1.out; omega
       case rel => exact ⟨(wrap64 (bT + 1)), zz2, H', ⟨by have := HK1.out; omega⟩, ⟨zz5⟩⟩
      ·replace c6 := Bool.eq_false_iff.mpr c6; subst c6; rw [if_neg (show ¬ (false = true) by decide)] at H; obtain rfl := Option.some.inj H; have Px : 0 ≤ (bT : Int) := of_decide_eq_true zz9; have O5 : bT < (l0.length : Int) := of_decide_eq_true zz9; obtain ⟨ad104, e104, Bz, Bw, Bv⟩ := ni HR0.out bT Px O5
       cases e104
       replace Bz := cB HB Bz; replace Bw := cB HB Bw; replace Bv := cB HB Bv; replace Px := eq_true Px; replace O5 := eq_true O5
       go_wp2_with (first | ((with_reducible refine bE (N := 4) rfl ?_); refine bC ?hg (N := 4) ?hd (cs := #[.int .i64 0, .int .i64 0, .string (⟨#[]⟩ : ByteArray)]) (t := 23) ?hr ?_; (case hd => rfl); (case hg => rfl); (case hr => first | (go_simp; done) | (go_simp; rfl)); intro au hg w10 bK hb; have ak := ah.mk (bK); have fO := ah.mk ((zz0 : w.heap.size ≤ au)); have fF := ah.mk ((zz0 : w.heap.size ≤ au)); replace HB := ah.mk (av zz1 hb); clear hb bK hg; have nM : w10.cell? ⟨au, 0, none⟩ = some (.int .i64 0) := cK ak 0; have nL : w10.cell? ⟨au, 1, none⟩ = some (.int .i64 0) := cK ak 1; have nK : w10.cell? ⟨au, 2, none⟩ = some (.string (⟨#[]⟩ : ByteArray)) := cK ak 2; have nJ := aj ak.out 0; have nI := aj ak.out 1; have nH := aj ak.out 2) | ((with_reducible refine aN (f := 69) rfl ?_); refine bU (some 12) rfl rfl Try.func69 (by kernel_rfl) rfl #[.agg #[.int .i64 ((aZ l0 bT).f0), .int .i64 ((aZ l0 bT).f1), .string ((aZ l0 bT).f2)]] rfl zz8 ?_; (with_reducible refine (jf.calls ((aZ l0 bT).f0) ((aZ l0 bT).f1) ((aZ l0 bT).f2) false _ A5.out).mono ?_); rintro e w12 ⟨rfl, hb⟩; refine ⟨_, rfl, ?_⟩; replace ak := ah.mk (aG (g := au) (o := .cells #[.int .i64 ((aZ l0 bT).f0), .int .i64 ((aZ l0 bT).f1), .string ((aZ l0 bT).f2)] 23 (0, 0)) (by (with_reducible repeat (first | refine aM ?_ _ | refine aJ ?_ | refine aI ?_ _)); refine bZ (cs := #[.int .i64 ((aZ l0 bT).f0), .int .i64 ((aZ l0 bT).f1), .string (⟨#[]⟩ : ByteArray)]) ?_ 2 _ rfl; (with_reducible repeat (first | refine aM ?_ _ | refine aJ ?_ | refine aI ?_ _)); refine bZ (cs := #[.int .i64 ((aZ l0 bT).f0), .int .i64 0, .string (⟨#[]⟩ : ByteArray)]) ?_ 1 _ rfl; (with_reducible repeat (first | refine aM ?_ _ | refine aJ ?_ | refine aI ?_ _)); refine bZ (cs := #[.int .i64 0, .int .i64 0, .string (⟨#[]⟩ : ByteArray)]) ?_ 0 _ rfl; (with_reducible repeat (first | refine aM ?_ _ | refine aJ ?_ | refine aI ?_ _)); exact ak.out) hb); replace HB := ah.mk (av zz5 hb); (try clear hb); (try clear hb2); (try clear hk); (try clear hi)))
       go_ret
       exact ⟨zz6, zz5⟩
     ·rw [if_neg c4] at H; exact absurd H (by simp)
    ·rw [if_neg c3] at H; exact absurd H (by simp)
   ·rw [if_neg c2] at H; have oH : decide (bT < (l0.length : Int)) = false := decide_eq_false c2; clear c2; obtain rfl := Option.some.inj H
    go_wp2
    go_ret
    exact ⟨zz6, zz1⟩
def lY.f (a0 : Int) : Option (Bool) := if a0 ≥ (-262144) then (some (decide (a0 ≤ 262144))) else (some false)
set_option maxHeartbeats 8000000 in
set_option maxRecDepth 100000 in
theorem lY.calls (a0 : Int) (r : Bool) (w : World) (h : lY.f a0 = some r) :
  Calls Try.prog 135 #[.int .i64 a0] w fun e w' => e = .returned (.bool r) ∧ mG w w' := by
 have H := h; clear h
 dsimp only [lY.f] at H
 by_cases c2 : a0 ≥ (-262144)
 ·rw [if_pos c2] at H; have oH : decide ((-262144) ≤ a0) = true := decide_eq_true c2; clear c2; obtain rfl := Option.some.inj H
  go_enter Try.func135, Try.ntmps135
  go_wp2
  go_ret
  exact ⟨zz2, zz7⟩
 ·rw [if_neg c2] at H; have oH : decide ((-262144) ≤ a0) = false := decide_eq_false c2; clear c2; obtain rfl := Option.some.inj H
  go_enter Try.func135, Try.ntmps135
  go_wp2
  go_ret
  exact ⟨zz2, zz7⟩
def fU.f (k : Nat) (qH : List (S23)) (aT : Int) : Option (Bool) := (dO.f k qH).bind fun t108 => (if t108 = true then ((lY.f aT).bind fun t109 => (some t109)) else (some false))
theorem fU.mono : ∀ a0 a1 k, LeO (fU.f k a0 a1) (fU.f (k + 1) a0 a1) := by
 intro a0 a1 k; unfold fU.f
 repeat' first
   | (with_reducible exact dO.mono _ _)
   | (with_reducible exact LeO.refl _)
   | (with_reducible exact LeO.none _)
   | (with_reducible refine LeO.ite ?_ ?_)
   | (with_reducible refine LeO.bind ?_ (fun _ => ?_))
   | exact dO.mono _ _
   | exact LeO.none _
   | refine LeO.ite ?_ ?_
   | refine LeO.bind ?_ (fun _ => ?_)
set_option maxHeartbeats 8000000 in
set_option maxRecDepth 100000 in
theorem fU.calls (k : Nat) (zQ : Option Addr) (zO : Nat) (qH : List (S23)) (aT : Int) (r : Bool) (w : World) (Nk : Kd.C k23 w zQ qH.length qH) (Nn : qH.length ≤ zO) (h : fU.f k qH aT = some r) :
  Calls Try.prog 115 #[.agg #[.slice zQ qH.length zO, .int .i64 aT]] w fun e w' => e = .returned (.bool r) ∧ Below w.heap.size w w' := by
 have Nj := Try.underlying51; have Xt := ah.mk Nk; have Xu := ah.mk Nn; clear Nk Nn; have HB := ah.mk (Below.refl w.heap.size w); have H := h; clear h
 dsimp only [fU.f] at H
 replace H := Option.bind_eq_some_iff.mp H; obtain ⟨t108, A20, H⟩ := H; have A2 := ah.mk A20; clear A20
 by_cases c3 : t108 = true
 ·subst c3; rw [if_pos rfl] at H; replace H := Option.bind_eq_some_iff.mp H; obtain ⟨t109, A40, H⟩ := H; have A4 := ah.mk A40; clear A40; obtain rfl := Option.some.inj H
  go_enter Try.func115, Try.ntmps115
  go_wp2_with (first | ((with_reducible refine bE (N := 1) rfl ?_); refine bC ?hg (N := 1) ?hd (cs := #[.slice zQ qH.length zO, .int .i64 aT]) (t := 51) ?hr ?_; (case hd => rfl); (case hg => rfl); (case hr => first | (go_simp; done) | (go_simp; rfl)); intro au hg w5 bK hb; have ak := ah.mk (bK); have fO := ah.mk ((zz0 : w.heap.size ≤ au)); have fF := ah.mk ((zz0 : w.heap.size ≤ au)); replace HB := ah.mk (av zz1 hb); clear hb bK hg; have yF : w5.cell? ⟨au, 0, none⟩ = some (.slice zQ qH.length zO) := cK ak 0; have yE : w5.cell? ⟨au, 1, none⟩ = some (.int .i64 aT) := cK ak 1; have DZ := aj ak.out 0; have yC := aj ak.out 1) | ((with_reducible refine aN (f := 110) rfl ?_); refine bU (some 5) rfl rfl Try.func110 (by kernel_rfl) rfl #[.slice zQ qH.length zO] rfl zz8 ?_; (with_reducible refine (dO.calls k _ _ qH true _ ?bO ?bR A2.out).mono ?_); (case bO => repeat (first | exact (Kd.eZ Xt.out HB.out) | (with_reducible refine Kd.dF ?_ _) | (with_reducible refine Kd.dI ?_ _) | (with_reducible refine Kd.dZ ?_))); (case bR => exact Xu.out); rintro e w7 ⟨rfl, hb⟩; refine ⟨_, rfl, ?_⟩; replace ak := ah.mk (aG (g := au) (o := .cells #[.slice zQ qH.length zO, .int .i64 aT] 51 (0, 0)) zz4 hb); replace HB := ah.mk (av zz5 hb); (try clear hb); (try clear hb2); (try clear hk); (try clear hi); have KO : w7.cell? ⟨au, 0, none⟩ = some (.slice zQ qH.length zO) := cK ak 0; have KN : w7.cell? ⟨au, 1, none⟩ = some (.int .i64 aT) := cK ak 1; have Ku := aj ak.out 0; have Kt := aj ak.out 1) | (go_at_call 135; (with_reducible refine (lY.calls aT t109 _ A4.out).mono ?_); rintro e w' ⟨rfl, ⟨nd, rfl⟩⟩))
  go_ret
  exact ⟨zz6, zz5⟩
 ·replace c3 := Bool.eq_false_iff.mpr c3; subst c3; rw [if_neg (show ¬ (false = true) by decide)] at H; obtain rfl := Option.some.inj H
  go_enter Try.func115, Try.ntmps115
  go_wp2_with (first | ((with_reducible refine bE (N := 1) rfl ?_); refine bC ?hg (N := 1) ?hd (cs := #[.slice zQ qH.length zO, .int .i64 aT]) (t := 51) ?hr ?_; (case hd => rfl); (case hg => rfl); (case hr => first | (go_simp; done) | (go_simp; rfl)); intro au hg w9 bK hb; have ak := ah.mk (bK); have fO := ah.mk ((zz0 : w.heap.size ≤ au)); have fF := ah.mk ((zz0 : w.heap.size ≤ au)); replace HB := ah.mk (av zz1 hb); clear hb bK hg; have oZ : w9.cell? ⟨au, 0, none⟩ = some (.slice zQ qH.length zO) := cK ak 0; have oW : w9.cell? ⟨au, 1, none⟩ = some (.int .i64 aT) := cK ak 1; have oP := aj ak.out 0; have oO := aj ak.out 1) | ((with_reducible refine aN (f := 110) rfl ?_); refine bU (some 5) rfl rfl Try.func110 (by kernel_rfl) rfl #[.slice zQ qH.length zO] rfl zz8 ?_; (with_reducible refine (dO.calls k _ _ qH false _ ?bO ?bR A2.out).mono ?_); (case bO => repeat (first | exact (Kd.eZ Xt.out HB.out) | (with_reducible refine Kd.dF ?_ _) | (with_reducible refine Kd.dI ?_ _) | (with_reducible refine Kd.dZ ?_))); (case bR => exact Xu.out); rintro e w11 ⟨rfl, hb⟩; refine ⟨_, rfl, ?_⟩; replace ak := ah.mk (aG (g := au) (o := .cells #[.slice zQ qH.length zO, .int .i64 aT] 51 (0, 0)) zz4 hb); replace HB := ah.mk (av zz5 hb); (try clear hb); (try clear hb2); (try clear hk); (try clear hi)))
  go_ret
  exact ⟨zz6, zz5⟩
def jo.f (aU : Int) (aT : Int) (aV : ByteArray) : Option (Int × Int × ByteArray) := (jf.f aU aT aV).bind fun t112 => (if t112 = true then (some (aU, aT, aV)) else (some (0, 0, (⟨#[]⟩ : ByteArray))))
set_option maxHeartbeats 8000000 in
set_option maxRecDepth 100000 in
theorem jo.calls (aU : Int) (aT : Int) (aV : ByteArray) (r1 : Int) (r2 : Int) (r3 : ByteArray) (w : World) (h : jo.f aU aT aV = some (r1, r2, r3)) :
  Calls Try.prog 85 #[.agg #[.int .i64 aU, .int .i64 aT, .string aV]] w fun e w' => e = .returned (.agg #[.int .i64 r1, .int .i64 r2, .string r3]) ∧ Below w.heap.size w w' := by
 have vI := Try.underlying23; have HB := ah.mk (Below.refl w.heap.size w); have H := h; clear h
 dsimp only [jo.f] at H
 replace H := Option.bind_eq_some_iff.mp H; obtain ⟨t112, A20, H⟩ := H; have A2 := ah.mk A20; clear A20
 by_cases c3 : t112 = true
 ·subst c3; rw [if_pos rfl] at H; simp only [Option.some.injEq, Prod.mk.injEq] at H; obtain ⟨rfl, rfl, rfl⟩ := H
  go_enter Try.func85, Try.ntmps85
  go_wp2_with (first | ((with_reducible refine bE (N := 1) rfl ?_); refine bC ?hg (N := 1) ?hd (cs := #[.int .i64 aU, .int .i64 aT, .string aV]) (t := 23) ?hr ?_; (case hd => rfl); (case hg => rfl); (case hr => first | (go_simp; done) | (go_simp; rfl)); intro au hg w4 bK hb; have ak := ah.mk (bK); have fO := ah.mk ((zz0 : w.heap.size ≤ au)); have fF := ah.mk ((zz0 : w.heap.size ≤ au)); replace HB := ah.mk (av zz1 hb); clear hb bK hg) | ((with_reducible refine bE (N := 2) rfl ?_); refine bC ?hg (N := 2) ?hd (cs := #[.int .i64 0, .int .i64 0, .string (⟨#[]⟩ : ByteArray)]) (t := 23) ?hr ?_; (case hd => rfl); (case hg => rfl); (case hr => first | (go_simp; done) | (go_simp; rfl)); intro aA hg w5 bK hb; have ay := ah.mk (bK); have jD := ah.mk ((jZ : w.heap.size ≤ aA)); have jr := ah.mk ((jZ : w.heap.size ≤ aA)); replace HB := ah.mk (av zz5 hb); have aQ := ah.mk ((DL : au ≠ aA)); have aY := ah.mk ((DK : aA ≠ au)); replace ak := ah.mk (aG (g := au) (o := .cells #[.int .i64 aU, .int .i64 aT, .string aV] 23 (0, 0)) zz4 hb); clear hb bK hg; have hnb6 := aQ.out; have hnc6 := aY.out; have vL : w5.cell? ⟨au, 0, none⟩ = some (.int .i64 aU) := cK ak 0; have vK : w5.cell? ⟨au, 1, none⟩ = some (.int .i64 aT) := cK ak 1; have yD : w5.cell? ⟨au, 2, none⟩ = some (.string aV) := cK ak 2; have yB := aj ak.out 0; have vJ := aj ak.out 1; have yA := aj ak.out 2) | ((with_reducible refine aN (f := 69) rfl ?_); refine bU (some 4) rfl rfl Try.func69 (by kernel_rfl) rfl #[.agg #[.int .i64 aU, .int .i64 aT, .string aV]] rfl zz8 ?_; (with_reducible refine (jf.calls aU aT aV true _ A2.out).mono ?_); rintro e w8 ⟨rfl, hb⟩; refine ⟨_, rfl, ?_⟩; replace ak := ah.mk (aG (g := au) (o := .cells #[.int .i64 aU, .int .i64 aT, .string aV] 23 (0, 0)) zz4 hb); replace ay := ah.mk (aG (g := aA) (o := .cells #[.int .i64 0, .int .i64 0, .string (⟨#[]⟩ : ByteArray)] 23 (0, 0)) iJ hb); replace HB := ah.mk (av fP hb); (try clear hb); (try clear hb2); (try clear hk); (try clear hi); have qM : w8.cell? ⟨au, 0, none⟩ = some (.int .i64 aU) := cK ak 0; have qL : w8.cell? ⟨au, 1, none⟩ = some (.int .i64 aT) := cK ak 1; have rZ : w8.cell? ⟨au, 2, none⟩ = some (.string aV) := cK ak 2; have qK := aj ak.out 0; have qJ := aj ak.out 1; have rY := aj ak.out 2; have oZ : w8.cell? ⟨aA, 0, none⟩ = some (.int .i64 0) := cK ay 0; have oW : w8.cell? ⟨aA, 1, none⟩ = some (.int .i64 0) := cK ay 1; have ql : w8.cell? ⟨aA, 2, none⟩ = some (.string (⟨#[]⟩ : ByteArray)) := cK ay 2; have oP := aj ay.out 0; have oO := aj ay.out 1; have qg := aj ay.out 2))
  refine bodyPost_ret (results_cell_row rfl _ _ aA 23 #[.int .i64 aU, .int .i64 aT, .string aV] (0, 0) _ rfl (by (with_reducible repeat (first | refine aM ?_ _ | refine aJ ?_ | refine aI ?_ _)); refine bZ (cs := #[.int .i64 aU, .int .i64 aT, .string (⟨#[]⟩ : ByteArray)]) ?_ 2 _ rfl; (with_reducible repeat (first | refine aM ?_ _ | refine aJ ?_ | refine aI ?_ _)); refine bZ (cs := #[.int .i64 aU, .int .i64 0, .string (⟨#[]⟩ : ByteArray)]) ?_ 1 _ rfl; (with_reducible repeat (first | refine aM ?_ _ | refine aJ ?_ | refine aI ?_ _)); refine bZ (cs := #[.int .i64 0, .int .i64 0, .string (⟨#[]⟩ : ByteArray)]) ?_ 0 _ rfl; (with_reducible repeat (first | refine aM ?_ _ | refine aJ ?_ | refine aI ?_ _)); exact ay.out) Try.underlying23 rfl (by kernel_rfl)) rfl ?_; exact ⟨zz6, fP⟩
 ·replace c3 := Bool.eq_false_iff.mpr c3; subst c3; rw [if_neg (show ¬ (false = true) by decide)] at H; simp only [Option.some.injEq, Prod.mk.injEq] at H; obtain ⟨rfl, rfl, rfl⟩ := H
  go_enter Try.func85, Try.ntmps85
  go_wp2_with (first | ((with_reducible refine bE (N := 1) rfl ?_); refine bC ?hg (N := 1) ?hd (cs := #[.int .i64 aU, .int .i64 aT, .string aV]) (t := 23) ?hr ?_; (case hd => rfl); (case hg => rfl); (case hr => first | (go_simp; done) | (go_simp; rfl)); intro au hg w11 bK hb; have ak := ah.mk (bK); have fO := ah.mk ((zz0 : w.heap.size ≤ au)); have fF := ah.mk ((zz0 : w.heap.size ≤ au)); replace HB := ah.mk (av zz1 hb); clear hb bK hg) | ((with_reducible refine bE (N := 2) rfl ?_); refine bC ?hg (N := 2) ?hd (cs := #[.int .i64 0, .int .i64 0, .string (⟨#[]⟩ : ByteArray)]) (t := 23) ?hr ?_; (case hd => rfl); (case hg => rfl); (case hr => first | (go_simp; done) | (go_simp; rfl)); intro aA hg w12 bK hb; have ay := ah.mk (bK); have jD := ah.mk ((jZ : w.heap.size ≤ aA)); have jr := ah.mk ((jZ : w.heap.size ≤ aA)); replace HB := ah.mk (av zz5 hb); have aQ := ah.mk ((DL : au ≠ aA)); have aY := ah.mk ((DK : aA ≠ au)); replace ak := ah.mk (aG (g := au) (o := .cells #[.int .i64 aU, .int .i64 aT, .string aV] 23 (0, 0)) zz4 hb); clear hb bK hg; have hnb13 := aQ.out; have hnc13 := aY.out; have xu : w12.cell? ⟨au, 0, none⟩ = some (.int .i64 aU) := cK ak 0; have xq : w12.cell? ⟨au, 1, none⟩ = some (.int .i64 aT) := cK ak 1; have xk : w12.cell? ⟨au, 2, none⟩ = some (.string aV) := cK ak 2; have wX := aj ak.out 0; have wW := aj ak.out 1; have wV := aj ak.out 2) | ((with_reducible refine aN (f := 69) rfl ?_); refine bU (some 4) rfl rfl Try.func69 (by kernel_rfl) rfl #[.agg #[.int .i64 aU, .int .i64 aT, .string aV]] rfl zz8 ?_; (with_reducible refine (jf.calls aU aT aV false _ A2.out).mono ?_); rintro e w15 ⟨rfl, hb⟩; refine ⟨_, rfl, ?_⟩; replace ak := ah.mk (aG (g := au) (o := .cells #[.int .i64 aU, .int .i64 aT, .string aV] 23 (0, 0)) zz4 hb); replace ay := ah.mk (aG (g := aA) (o := .cells #[.int .i64 0, .int .i64 0, .string (⟨#[]⟩ : ByteArray)] 23 (0, 0)) iJ hb); replace HB := ah.mk (av fP hb); (try clear hb); (try clear hb2); (try clear hk); (try clear hi); have Dk : w15.cell? ⟨aA, 0, none⟩ = some (.int .i64 0) := cK ay 0; have Dj : w15.cell? ⟨aA, 1, none⟩ = some (.int .i64 0) := cK ay 1; have Di : w15.cell? ⟨aA, 2, none⟩ = some (.string (⟨#[]⟩ : ByteArray)) := cK ay 2; have CS := aj ay.out 0; have CQ := aj ay.out 1; have CP := aj ay.out 2))
  refine bodyPost_ret (results_cell_row rfl _ _ aA 23 #[.int .i64 0, .int .i64 0, .string (⟨#[]⟩ : ByteArray)] (0, 0) _ rfl (by (with_reducible repeat (first | refine aM ?_ _ | refine aJ ?_ | refine aI ?_ _)); refine bZ (cs := #[.int .i64 0, .int .i64 0, .string (⟨#[]⟩ : ByteArray)]) ?_ 2 _ rfl; (with_reducible repeat (first | refine aM ?_ _ | refine aJ ?_ | refine aI ?_ _)); refine bZ (cs := #[.int .i64 0, .int .i64 0, .string (⟨#[]⟩ : ByteArray)]) ?_ 1 _ rfl; (with_reducible repeat (first | refine aM ?_ _ | refine aJ ?_ | refine aI ?_ _)); refine bZ (cs := #[.int .i64 0, .int .i64 0, .string (⟨#[]⟩ : ByteArray)]) ?_ 0 _ rfl; (with_reducible repeat (first | refine aM ?_ _ | refine aJ ?_ | refine aI ?_ _)); exact ay.out) Try.underlying23 rfl (by kernel_rfl)) rfl ?_; exact ⟨zz6, fP⟩
def cmp_isNaN_string.f (a0 : ByteArray) : Option (Bool) := some (a0.toList != a0.toList)
set_option maxHeartbeats 8000000 in
set_option maxRecDepth 100000 in
theorem cmp_isNaN_string.calls (a0 : ByteArray) (r : Bool) (w : World) (h : cmp_isNaN_string.f a0 = some r) :
  Calls Try.prog 152 #[.string a0] w fun e w' => e = .returned (.bool r) ∧ mG w w' := by
 have H := h; clear h
 dsimp only [cmp_isNaN_string.f] at H
 obtain rfl := Option.some.inj H
 go_enter Try.func152, Try.ntmps152
 go_wp2
 go_ret
 exact ⟨zz2, zz7⟩
def kY.f (a0 : ByteArray) (a1 : ByteArray) : Option (Int) := (cmp_isNaN_string.f a0).bind fun t113 => ((cmp_isNaN_string.f a1).bind fun t114 => (if t113 = true then (if t114 = true then (some 0) else (some (-1))) else (if t114 = true then (some 1) else (if (Op.bytesLess a0.toList a1.toList) = true then (some (-1)) else (if (Op.bytesLess a1.toList a0.toList) = true then (some 1) else (some 0))))))
set_option maxHeartbeats 8000000 in
set_option maxRecDepth 100000 in
theorem kY.calls (a0 : ByteArray) (a1 : ByteArray) (r : Int) (w : World) (h : kY.f a0 a1 = some r) :
  Calls Try.prog 134 #[.string a0, .string a1] w fun e w' => e = .returned (.int .i64 r) ∧ mG w w' := by
 have H := h; clear h
 dsimp only [kY.f] at H
 replace H := Option.bind_eq_some_iff.mp H; obtain ⟨t113, A30, H⟩ := H; have A3 := ah.mk A30; clear A30; replace H := Option.bind_eq_some_iff.mp H; obtain ⟨t114, A40, H⟩ := H; have A4 := ah.mk A40; clear A40
 by_cases c5 : t113 = true
 ·subst c5; rw [if_pos rfl] at H
  by_cases c6 : t114 = true
  ·subst c6; rw [if_pos rfl] at H; obtain rfl := Option.some.inj H
   go_enter Try.func134, Try.ntmps134
   go_wp2_with (first | ((with_reducible refine aN (f := 152) rfl ?_); refine bU (some 8) rfl rfl Try.func152 (by kernel_rfl) rfl #[.string a0] rfl zz8 ?_; (with_reducible refine (cmp_isNaN_string.calls a0 true _ A3.out).mono ?_); rintro e w' ⟨rfl, ⟨nd, rfl⟩⟩; refine ⟨_, rfl, ?_⟩) | ((with_reducible refine aN (f := 152) rfl ?_); refine bU (some 10) rfl rfl Try.func152 (by kernel_rfl) rfl #[.string a1] rfl zz8 ?_; (with_reducible refine (cmp_isNaN_string.calls a1 true _ A4.out).mono ?_); rintro e w' ⟨rfl, ⟨nd, rfl⟩⟩; refine ⟨_, rfl, ?_⟩))
   go_ret
   exact ⟨zz2, zz7⟩
  ·replace c6 := Bool.eq_false_iff.mpr c6; subst c6; rw [if_neg (show ¬ (false = true) by decide)] at H; obtain rfl := Option.some.inj H
   go_enter Try.func134, Try.ntmps134
   go_wp2_with (first | ((with_reducible refine aN (f := 152) rfl ?_); refine bU (some 8) rfl rfl Try.func152 (by kernel_rfl) rfl #[.string a0] rfl zz8 ?_; (with_reducible refine (cmp_isNaN_string.calls a0 true _ A3.out).mono ?_); rintro e w' ⟨rfl, ⟨nd, rfl⟩⟩; refine ⟨_, rfl, ?_⟩) | ((with_reducible refine aN (f := 152) rfl ?_); refine bU (some 10) rfl rfl Try.func152 (by kernel_rfl) rfl #[.string a1] rfl zz8 ?_; (with_reducible refine (cmp_isNaN_string.calls a1 false _ A4.out).mono ?_); rintro e w' ⟨rfl, ⟨nd, rfl⟩⟩; refine ⟨_, rfl, ?_⟩))
   go_ret
   exact ⟨zz2, zz7⟩
 ·replace c5 := Bool.eq_false_iff.mpr c5; subst c5; rw [if_neg (show ¬ (false = true) by decide)] at H
  by_cases c7 : t114 = true
  ·subst c7; rw [if_pos rfl] at H; obtain rfl := Option.some.inj H
   go_enter Try.func134, Try.ntmps134
   go_wp2_with (first | ((with_reducible refine aN (f := 152) rfl ?_); refine bU (some 8) rfl rfl Try.func152 (by kernel_rfl) rfl #[.string a0] rfl zz8 ?_; (with_reducible refine (cmp_isNaN_string.calls a0 false _ A3.out).mono ?_); rintro e w' ⟨rfl, ⟨nd, rfl⟩⟩; refine ⟨_, rfl, ?_⟩) | ((with_reducible refine aN (f := 152) rfl ?_); refine bU (some 10) rfl rfl Try.func152 (by kernel_rfl) rfl #[.string a1] rfl zz8 ?_; (with_reducible refine (cmp_isNaN_string.calls a1 true _ A4.out).mono ?_); rintro e w' ⟨rfl, ⟨nd, rfl⟩⟩; refine ⟨_, rfl, ?_⟩))
   go_ret
   exact ⟨zz2, zz7⟩
  ·replace c7 := Bool.eq_false_iff.mpr c7; subst c7; rw [if_neg (show ¬ (false = true) by decide)] at H
   by_cases c8 : (Op.bytesLess a0.toList a1.toList) = true
   ·rw [if_pos c8] at H; have pI : (Op.bytesLess a0.toList a1.toList) = true := c8; clear c8; obtain rfl := Option.some.inj H
    go_enter Try.func134, Try.ntmps134
    go_wp2_with (first | ((with_reducible refine aN (f := 152) rfl ?_); refine bU (some 8) rfl rfl Try.func152 (by kernel_rfl) rfl #[.string a0] rfl zz8 ?_; (with_reducible refine (cmp_isNaN_string.calls a0 false _ A3.out).mono ?_); rintro e w' ⟨rfl, ⟨nd, rfl⟩⟩; refine ⟨_, rfl, ?_⟩) | ((with_reducible refine aN (f := 152) rfl ?_); refine bU (some 10) rfl rfl Try.func152 (by kernel_rfl) rfl #[.string a1] rfl zz8 ?_; (with_reducible refine (cmp_isNaN_string.calls a1 false _ A4.out).mono ?_); rintro e w' ⟨rfl, ⟨nd, rfl⟩⟩; refine ⟨_, rfl, ?_⟩))
    go_ret
    exact ⟨zz2, zz7⟩
   ·rw [if_neg c8] at H; have pI : (Op.bytesLess a0.toList a1.toList) = false := by simpa using c8
    clear c8
    by_cases c9 : (Op.bytesLess a1.toList a0.toList) = true
    ·rw [if_pos c9] at H; have xH : (Op.bytesLess a1.toList a0.toList) = true := c9; clear c9; obtain rfl := Option.some.inj H
     go_enter Try.func134, Try.ntmps134
     go_wp2_with (first | ((with_reducible refine aN (f := 152) rfl ?_); refine bU (some 8) rfl rfl Try.func152 (by kernel_rfl) rfl #[.string a0] rfl zz8 ?_; (with_reducible refine (cmp_isNaN_string.calls a0 false _ A3.out).mono ?_); rintro e w' ⟨rfl, ⟨nd, rfl⟩⟩; refine ⟨_, rfl, ?_⟩) | ((with_reducible refine aN (f := 152) rfl ?_); refine bU (some 10) rfl rfl Try.func152 (by kernel_rfl) rfl #[.string a1] rfl zz8 ?_; (with_reducible refine (cmp_isNaN_string.calls a1 false _ A4.out).mono ?_); rintro e w' ⟨rfl, ⟨nd, rfl⟩⟩; refine ⟨_, rfl, ?_⟩))
     go_ret
     exact ⟨zz2, zz7⟩
    ·rw [if_neg c9] at H; have xH : (Op.bytesLess a1.toList a0.toList) = false := by simpa using c9
     clear c9; obtain rfl := Option.some.inj H
     go_enter Try.func134, Try.ntmps134
     go_wp2_with (first | ((with_reducible refine aN (f := 152) rfl ?_); refine bU (some 8) rfl rfl Try.func152 (by kernel_rfl) rfl #[.string a0] rfl zz8 ?_; (with_reducible refine (cmp_isNaN_string.calls a0 false _ A3.out).mono ?_); rintro e w' ⟨rfl, ⟨nd, rfl⟩⟩; refine ⟨_, rfl, ?_⟩) | ((with_reducible refine aN (f := 152) rfl ?_); refine bU (some 10) rfl rfl Try.func152 (by kernel_rfl) rfl #[.string a1] rfl zz8 ?_; (with_reducible refine (cmp_isNaN_string.calls a1 false _ A4.out).mono ?_); rintro e w' ⟨rfl, ⟨nd, rfl⟩⟩; refine ⟨_, rfl, ?_⟩))
     go_ret
     exact ⟨zz2, zz7⟩
def cmp_isNaN_int.f (a0 : Int) : Option (Bool) := some (a0 != a0)
set_option maxHeartbeats 8000000 in
set_option maxRecDepth 100000 in
theorem cmp_isNaN_int.calls (a0 : Int) (r : Bool) (w : World) (h : cmp_isNaN_int.f a0 = some r) :
  Calls Try.prog 172 #[.int .i64 a0] w fun e w' => e = .returned (.bool r) ∧ mG w w' := by
 have H := h; clear h
 dsimp only [cmp_isNaN_int.f] at H
 obtain rfl := Option.some.inj H
 go_enter Try.func172, Try.ntmps172
 go_wp2
 go_ret
 exact ⟨zz2, zz7⟩
def cmp_Compare_int.f (a0 : Int) (a1 : Int) : Option (Int) := (cmp_isNaN_int.f a0).bind fun t115 => ((cmp_isNaN_int.f a1).bind fun t116 => (if t115 = true then (if t116 = true then (some 0) else (some (-1))) else (if t116 = true then (some 1) else (if a0 < a1 then (some (-1)) else (if a0 > a1 then (some 1) else (some 0))))))
set_option maxHeartbeats 8000000 in
set_option maxRecDepth 100000 in
theorem cmp_Compare_int.calls (a0 : Int) (a1 : Int) (r : Int) (w : World) (h : cmp_Compare_int.f a0 a1 = some r) :
  Calls Try.prog 162 #[.int .i64 a0, .int .i64 a1] w fun e w' => e = .returned (.int .i64 r) ∧ mG w w' := by
 have H := h; clear h
 dsimp only [cmp_Compare_int.f] at H
 replace H := Option.bind_eq_some_iff.mp H; obtain ⟨t115, A30, H⟩ := H; have A3 := ah.mk A30; clear A30; replace H := Option.bind_eq_some_iff.mp H; obtain ⟨t116, A40, H⟩ := H; have A4 := ah.mk A40; clear A40
 by_cases c5 : t115 = true
 ·subst c5; rw [if_pos rfl] at H
  by_cases c6 : t116 = true
  ·subst c6; rw [if_pos rfl] at H; obtain rfl := Option.some.inj H
   go_enter Try.func162, Try.ntmps162
   go_wp2_with (first | ((with_reducible refine aN (f := 172) rfl ?_); refine bU (some 8) rfl rfl Try.func172 (by kernel_rfl) rfl #[.int .i64 a0] rfl zz8 ?_; (with_reducible refine (cmp_isNaN_int.calls a0 true _ A3.out).mono ?_); rintro e w' ⟨rfl, ⟨nd, rfl⟩⟩; refine ⟨_, rfl, ?_⟩) | ((with_reducible refine aN (f := 172) rfl ?_); refine bU (some 10) rfl rfl Try.func172 (by kernel_rfl) rfl #[.int .i64 a1] rfl zz8 ?_; (with_reducible refine (cmp_isNaN_int.calls a1 true _ A4.out).mono ?_); rintro e w' ⟨rfl, ⟨nd, rfl⟩⟩; refine ⟨_, rfl, ?_⟩))
   go_ret
   exact ⟨zz2, zz7⟩
  ·replace c6 := Bool.eq_false_iff.mpr c6; subst c6; rw [if_neg (show ¬ (false = true) by decide)] at H; obtain rfl := Option.some.inj H
   go_enter Try.func162, Try.ntmps162
   go_wp2_with (first | ((with_reducible refine aN (f := 172) rfl ?_); refine bU (some 8) rfl rfl Try.func172 (by kernel_rfl) rfl #[.int .i64 a0] rfl zz8 ?_; (with_reducible refine (cmp_isNaN_int.calls a0 true _ A3.out).mono ?_); rintro e w' ⟨rfl, ⟨nd, rfl⟩⟩; refine ⟨_, rfl, ?_⟩) | ((with_reducible refine aN (f := 172) rfl ?_); refine bU (some 10) rfl rfl Try.func172 (by kernel_rfl) rfl #[.int .i64 a1] rfl zz8 ?_; (with_reducible refine (cmp_isNaN_int.calls a1 false _ A4.out).mono ?_); rintro e w' ⟨rfl, ⟨nd, rfl⟩⟩; refine ⟨_, rfl, ?_⟩))
   go_ret
   exact ⟨zz2, zz7⟩
 ·replace c5 := Bool.eq_false_iff.mpr c5; subst c5; rw [if_neg (show ¬ (false = true) by decide)] at H
  by_cases c7 : t116 = true
  ·subst c7; rw [if_pos rfl] at H; obtain rfl := Option.some.inj H
   go_enter Try.func162, Try.ntmps162
   go_wp2_with (first | ((with_reducible refine aN (f := 172) rfl ?_); refine bU (some 8) rfl rfl Try.func172 (by kernel_rfl) rfl #[.int .i64 a0] rfl zz8 ?_; (with_reducible refine (cmp_isNaN_int.calls a0 false _ A3.out).mono ?_); rintro e w' ⟨rfl, ⟨nd, rfl⟩⟩; refine ⟨_, rfl, ?_⟩) | ((with_reducible refine aN (f := 172) rfl ?_); refine bU (some 10) rfl rfl Try.func172 (by kernel_rfl) rfl #[.int .i64 a1] rfl zz8 ?_; (with_reducible refine (cmp_isNaN_int.calls a1 true _ A4.out).mono ?_); rintro e w' ⟨rfl, ⟨nd, rfl⟩⟩; refine ⟨_, rfl, ?_⟩))
   go_ret
   exact ⟨zz2, zz7⟩
  ·replace c7 := Bool.eq_false_iff.mpr c7; subst c7; rw [if_neg (show ¬ (false = true) by decide)] at H
   by_cases c8 : a0 < a1
   ·rw [if_pos c8] at H; have pI : decide (a0 < a1) = true := decide_eq_true c8; clear c8; obtain rfl := Option.some.inj H
    go_enter Try.func162, Try.ntmps162
    go_wp2_with (first | ((with_reducible refine aN (f := 172) rfl ?_); refine bU (some 8) rfl rfl Try.func172 (by kernel_rfl) rfl #[.int .i64 a0] rfl zz8 ?_; (with_reducible refine (cmp_isNaN_int.calls a0 false _ A3.out).mono ?_); rintro e w' ⟨rfl, ⟨nd, rfl⟩⟩; refine ⟨_, rfl, ?_⟩) | ((with_reducible refine aN (f := 172) rfl ?_); refine bU (some 10) rfl rfl Try.func172 (by kernel_rfl) rfl #[.int .i64 a1] rfl zz8 ?_; (with_reducible refine (cmp_isNaN_int.calls a1 false _ A4.out).mono ?_); rintro e w' ⟨rfl, ⟨nd, rfl⟩⟩; refine ⟨_, rfl, ?_⟩))
    go_ret
    exact ⟨zz2, zz7⟩
   ·rw [if_neg c8] at H; have pI : decide (a0 < a1) = false := decide_eq_false c8; clear c8
    by_cases c9 : a0 > a1
    ·rw [if_pos c9] at H; have xH : decide (a1 < a0) = true := decide_eq_true c9; clear c9; obtain rfl := Option.some.inj H
     go_enter Try.func162, Try.ntmps162
     go_wp2_with (first | ((with_reducible refine aN (f := 172) rfl ?_); refine bU (some 8) rfl rfl Try.func172 (by kernel_rfl) rfl #[.int .i64 a0] rfl zz8 ?_; (with_reducible refine (cmp_isNaN_int.calls a0 false _ A3.out).mono ?_); rintro e w' ⟨rfl, ⟨nd, rfl⟩⟩; refine ⟨_, rfl, ?_⟩) | ((with_reducible refine aN (f := 172) rfl ?_); refine bU (some 10) rfl rfl Try.func172 (by kernel_rfl) rfl #[.int .i64 a1] rfl zz8 ?_; (with_reducible refine (cmp_isNaN_int.calls a1 false _ A4.out).mono ?_); rintro e w' ⟨rfl, ⟨nd, rfl⟩⟩; refine ⟨_, rfl, ?_⟩))
     go_ret
     exact ⟨zz2, zz7⟩
    ·rw [if_neg c9] at H; have xH : decide (a1 < a0) = false := decide_eq_false c9; clear c9; obtain rfl := Option.some.inj H
     go_enter Try.func162, Try.ntmps162
     go_wp2_with (first | ((with_reducible refine aN (f := 172) rfl ?_); refine bU (some 8) rfl rfl Try.func172 (by kernel_rfl) rfl #[.int .i64 a0] rfl zz8 ?_; (with_reducible refine (cmp_isNaN_int.calls a0 false _ A3.out).mono ?_); rintro e w' ⟨rfl, ⟨nd, rfl⟩⟩; refine ⟨_, rfl, ?_⟩) | ((with_reducible refine aN (f := 172) rfl ?_); refine bU (some 10) rfl rfl Try.func172 (by kernel_rfl) rfl #[.int .i64 a1] rfl zz8 ?_; (with_reducible refine (cmp_isNaN_int.calls a1 false _ A4.out).mono ?_); rintro e w' ⟨rfl, ⟨nd, rfl⟩⟩; refine ⟨_, rfl, ?_⟩))
     go_ret
     exact ⟨zz2, zz7⟩
def fI.f (a0 : Int) : Option (Bool) := some (a0 != a0)
set_option maxHeartbeats 8000000 in
set_option maxRecDepth 100000 in
theorem fI.calls (a0 : Int) (r : Bool) (w : World) (h : fI.f a0 = some r) :
  Calls Try.prog 167 #[.int .i64 a0] w fun e w' => e = .returned (.bool r) ∧ mG w w' := by
 have H := h; clear h
 dsimp only [fI.f] at H
 obtain rfl := Option.some.inj H
 go_enter Try.func167, Try.ntmps167
 go_wp2
 go_ret
 exact ⟨zz2, zz7⟩
def lT.f (a0 : Int) (a1 : Int) : Option (Int) := (fI.f a0).bind fun t117 => ((fI.f a1).bind fun t118 => (if t117 = true then (if t118 = true then (some 0) else (some (-1))) else (if t118 = true then (some 1) else (if a0 < a1 then (some (-1)) else (if a0 > a1 then (some 1) else (some 0))))))
set_option maxHeartbeats 8000000 in
set_option maxRecDepth 100000 in
theorem lT.calls (a0 : Int) (a1 : Int) (r : Int) (w : World) (h : lT.f a0 a1 = some r) :
  Calls Try.prog 163 #[.int .i64 a0, .int .i64 a1] w fun e w' => e = .returned (.int .i64 r) ∧ mG w w' := by
 have H := h; clear h
 dsimp only [lT.f] at H
 replace H := Option.bind_eq_some_iff.mp H; obtain ⟨t117, A30, H⟩ := H; have A3 := ah.mk A30; clear A30; replace H := Option.bind_eq_some_iff.mp H; obtain ⟨t118, A40, H⟩ := H; have A4 := ah.mk A40; clear A40
 by_cases c5 : t117 = true
 ·subst c5; rw [if_pos rfl] at H
  by_cases c6 : t118 = true
  ·subst c6; rw [if_pos rfl] at H; obtain rfl := Option.some.inj H
   go_enter Try.func163, Try.ntmps163
   go_wp2_with (first | ((with_reducible refine aN (f := 167) rfl ?_); refine bU (some 8) rfl rfl Try.func167 (by kernel_rfl) rfl #[.int .i64 a0] rfl zz8 ?_; (with_reducible refine (fI.calls a0 true _ A3.out).mono ?_); rintro e w' ⟨rfl, ⟨nd, rfl⟩⟩; refine ⟨_, rfl, ?_⟩) | ((with_reducible refine aN (f := 167) rfl ?_); refine bU (some 10) rfl rfl Try.func167 (by kernel_rfl) rfl #[.int .i64 a1] rfl zz8 ?_; (with_reducible refine (fI.calls a1 true _ A4.out).mono ?_); rintro e w' ⟨rfl, ⟨nd, rfl⟩⟩; refine ⟨_, rfl, ?_⟩))
   go_ret
   exact ⟨zz2, zz7⟩
  ·replace c6 := Bool.eq_false_iff.mpr c6; subst c6; rw [if_neg (show ¬ (false = true) by decide)] at H; obtain rfl := Option.some.inj H
   go_enter Try.func163, Try.ntmps163
   go_wp2_with (first | ((with_reducible refine aN (f := 167) rfl ?_); refine bU (some 8) rfl rfl Try.func167 (by kernel_rfl) rfl #[.int .i64 a0] rfl zz8 ?_; (with_reducible refine (fI.calls a0 true _ A3.out).mono ?_); rintro e w' ⟨rfl, ⟨nd, rfl⟩⟩; refine ⟨_, rfl, ?_⟩) | ((with_reducible refine aN (f := 167) rfl ?_); refine bU (some 10) rfl rfl Try.func167 (by kernel_rfl) rfl #[.int .i64 a1] rfl zz8 ?_; (with_reducible refine (fI.calls a1 false _ A4.out).mono ?_); rintro e w' ⟨rfl, ⟨nd, rfl⟩⟩; refine ⟨_, rfl, ?_⟩))
   go_ret
   exact ⟨zz2, zz7⟩
 ·replace c5 := Bool.eq_false_iff.mpr c5; subst c5; rw [if_neg (show ¬ (false = true) by decide)] at H
  by_cases c7 : t118 = true
  ·subst c7; rw [if_pos rfl] at H; obtain rfl := Option.some.inj H
   go_enter Try.func163, Try.ntmps163
   go_wp2_with (first | ((with_reducible refine aN (f := 167) rfl ?_); refine bU (some 8) rfl rfl Try.func167 (by kernel_rfl) rfl #[.int .i64 a0] rfl zz8 ?_; (with_reducible refine (fI.calls a0 false _ A3.out).mono ?_); rintro e w' ⟨rfl, ⟨nd, rfl⟩⟩; refine ⟨_, rfl, ?_⟩) | ((with_reducible refine aN (f := 167) rfl ?_); refine bU (some 10) rfl rfl Try.func167 (by kernel_rfl) rfl #[.int .i64 a1] rfl zz8 ?_; (with_reducible refine (fI.calls a1 true _ A4.out).mono ?_); rintro e w' ⟨rfl, ⟨nd, rfl⟩⟩; refine ⟨_, rfl, ?_⟩))
   go_ret
   exact ⟨zz2, zz7⟩
  ·replace c7 := Bool.eq_false_iff.mpr c7; subst c7; rw [if_neg (show ¬ (false = true) by decide)] at H
   by_cases c8 : a0 < a1
   ·rw [if_pos c8] at H; have pI : decide (a0 < a1) = true := decide_eq_true c8; clear c8; obtain rfl := Option.some.inj H
    go_enter Try.func163, Try.ntmps163
    go_wp2_with (first | ((with_reducible refine aN (f := 167) rfl ?_); refine bU (some 8) rfl rfl Try.func167 (by kernel_rfl) rfl #[.int .i64 a0] rfl zz8 ?_; (with_reducible refine (fI.calls a0 false _ A3.out).mono ?_); rintro e w' ⟨rfl, ⟨nd, rfl⟩⟩; refine ⟨_, rfl, ?_⟩) | ((with_reducible refine aN (f := 167) rfl ?_); refine bU (some 10) rfl rfl Try.func167 (by kernel_rfl) rfl #[.int .i64 a1] rfl zz8 ?_; (with_reducible refine (fI.calls a1 false _ A4.out).mono ?_); rintro e w' ⟨rfl, ⟨nd, rfl⟩⟩; refine ⟨_, rfl, ?_⟩))
    go_ret
    exact ⟨zz2, zz7⟩
   ·rw [if_neg c8] at H; have pI : decide (a0 < a1) = false := decide_eq_false c8; clear c8
    by_cases c9 : a0 > a1
    ·rw [if_pos c9] at H; have xH : decide (a1 < a0) = true := decide_eq_true c9; clear c9; obtain rfl := Option.some.inj H
     go_enter Try.func163, Try.ntmps163
     go_wp2_with (first | ((with_reducible refine aN (f := 167) rfl ?_); refine bU (some 8) rfl rfl Try.func167 (by kernel_rfl) rfl #[.int .i64 a0] rfl zz8 ?_; (with_reducible refine (fI.calls a0 false _ A3.out).mono ?_); rintro e w' ⟨rfl, ⟨nd, rfl⟩⟩; refine ⟨_, rfl, ?_⟩) | ((with_reducible refine aN (f := 167) rfl ?_); refine bU (some 10) rfl rfl Try.func167 (by kernel_rfl) rfl #[.int .i64 a1] rfl zz8 ?_; (with_reducible refine (fI.calls a1 false _ A4.out).mono ?_); rintro e w' ⟨rfl, ⟨nd, rfl⟩⟩; refine ⟨_, rfl, ?_⟩))
     go_ret
     exact ⟨zz2, zz7⟩
    ·rw [if_neg c9] at H; have xH : decide (a1 < a0) = false := decide_eq_false c9; clear c9; obtain rfl := Option.some.inj H
     go_enter Try.func163, Try.ntmps163
     go_wp2_with (first | ((with_reducible refine aN (f := 167) rfl ?_); refine bU (some 8) rfl rfl Try.func167 (by kernel_rfl) rfl #[.int .i64 a0] rfl zz8 ?_; (with_reducible refine (fI.calls a0 false _ A3.out).mono ?_); rintro e w' ⟨rfl, ⟨nd, rfl⟩⟩; refine ⟨_, rfl, ?_⟩) | ((with_reducible refine aN (f := 167) rfl ?_); refine bU (some 10) rfl rfl Try.func167 (by kernel_rfl) rfl #[.int .i64 a1] rfl zz8 ?_; (with_reducible refine (fI.calls a1 false _ A4.out).mono ?_); rintro e w' ⟨rfl, ⟨nd, rfl⟩⟩; refine ⟨_, rfl, ?_⟩))
     go_ret
     exact ⟨zz2, zz7⟩
def mW.f (aU : Int) (aT : Int) (aV : ByteArray) (gX : Int) (gW : Int) (gV : ByteArray) : Option (Int) := (jo.f aU aT aV).bind fun NK => ((jo.f gX gW gV).bind fun Ud => (if NK.1 = Ud.1 then (if NK.1 = 1 then ((lT.f NK.2.1 Ud.2.1).bind fun t128 => (some t128)) else ((kY.f NK.2.2 Ud.2.2).bind fun t129 => (some t129))) else ((cmp_Compare_int.f NK.1 Ud.1).bind fun t127 => (some t127))))
set_option maxHeartbeats 8000000 in
set_option maxRecDepth 100000 in
theorem mW.calls (aU : Int) (aT : Int) (aV : ByteArray) (gX : Int) (gW : Int) (gV : ByteArray) (r : Int) (w : World) (h : mW.f aU aT aV gX gW gV = some r) :
  Calls Try.prog 137 #[.agg #[.int .i64 aU, .int .i64 aT, .string aV], .agg #[.int .i64 gX, .int .i64 gW, .string gV]] w fun e w' => e = .returned (.int .i64 r) ∧ Below w.heap.size w w' := by
 have vI := Try.underlying23; have HB := ah.mk (Below.refl w.heap.size w); have H := h; clear h
 dsimp only [mW.f] at H
 replace H := Option.bind_eq_some_iff.mp H; obtain ⟨⟨z8, t122, t123⟩, A30, H⟩ := H
 try dsimp only at H
 have A3 := ah.mk A30; clear A30; replace H := Option.bind_eq_some_iff.mp H; obtain ⟨⟨t124, t125, t126⟩, A40, H⟩ := H
 try dsimp only at H
 have A4 := ah.mk A40; clear A40
 by_cases c5 : z8 = t124
 ·rw [if_pos c5] at H; have qN : (z8 == t124) = true := beq_iff_eq.mpr c5; have NA : (z8 != t124) = false := bne_eq_false_iff_eq.mpr c5; clear c5
  by_cases c6 : z8 = 1
  ·rw [if_pos c6] at H; have uR : (z8 == 1) = true := beq_iff_eq.mpr c6; have Hz : (z8 != 1) = false := bne_eq_false_iff_eq.mpr c6; clear c6; replace H := Option.bind_eq_some_iff.mp H; obtain ⟨t128, A70, H⟩ := H; have A7 := ah.mk A70; clear A70; obtain rfl := Option.some.inj H
   go_enter Try.func137, Try.ntmps137
   try go_wp2_with (first | ((with_reducible refine bE (N := 2) rfl ?_); refine bC ?hg (N := 2) ?hd (cs := #[.int .i64 aU, .int .i64 aT, .string aV]) (t := 23) ?hr ?_; (case hd => rfl); (case hg => rfl); (case hr => first | (go_simp; done) | (go_simp; rfl)); intro au hg w8 bK hb; have ak := ah.mk (bK); have fO := ah.mk ((zz0 : w.heap.size ≤ au)); have fF := ah.mk ((zz0 : w.heap.size ≤ au)); replace HB := ah.mk (av zz1 hb); clear hb bK hg) | ((with_reducible refine bE (N := 3) rfl ?_); refine bC ?hg (N := 3) ?hd (cs := #[.int .i64 gX, .int .i64 gW, .string gV]) (t := 23) ?hr ?_; (case hd => rfl); (case hg => rfl); (case hr => first | (go_simp; done) | (go_simp; rfl)); intro aA hg w9 bK hb; have ay := ah.mk (bK); have jD := ah.mk ((jZ : w.heap.size ≤ aA)); have jr := ah.mk ((jZ : w.heap.size ≤ aA)); replace HB := ah.mk (av zz5 hb); have aQ := ah.mk ((DL : au ≠ aA)); have aY := ah.mk ((DK : aA ≠ au)); replace ak := ah.mk (aG (g := au) (o := .cells #[.int .i64 aU, .int .i64 aT, .string aV] 23 (0, 0)) zz4 hb); clear hb bK hg))
   replace ak := ah.mk (aJ ak.out); replace ay := ah.mk (aJ ay.out); replace HB := ah.mk (bL HB.out); refine jB (n := 6) (S := fun w' => w'.cell? ⟨au, 0, none⟩ = some (.int .i64 aU) ∧ w'.cell? ⟨au, 1, none⟩ = some (.int .i64 aT) ∧ w'.cell? ⟨au, 2, none⟩ = some (.string aV) ∧ w'.cell? ⟨aA, 0, none⟩ = some (.int .i64 gX) ∧ w'.cell? ⟨aA, 1, none⟩ = some (.int .i64 gW) ∧ w'.cell? ⟨aA, 2, none⟩ = some (.string gV)) (ds := [4, 5]) (.replicate 6 false) (by kernel_rfl) rfl rfl ⟨cK ak 0, cK ak 1, cK ak 2, cK ay 0, cK ay 1, cK ay 2⟩ (fun hHeld => ?_); generalize w9.drew = w10 at ak ay HB hHeld ⊢; refine pQ (i := 0) (N := some 5) (v := ?_) (a' := ?_) (bA 6 1) rfl rfl (by kernel_rfl) (fun _ _ _ h => h) (Or.inl ⟨by rfl, ?_⟩) hHeld ?_ ?_; rotate_left
   ·rintro w' ⟨s0, s1, s2, s3, s4, s5⟩
    go_simp
    (with_reducible rfl)
   rotate_left
   ·simp only [Act.put, List.setIfInBounds_toArray, List.set_cons_zero, List.set_cons_succ, dS, eP]
    rfl
   refine pQ (i := 2) (N := some 7) (v := ?_) (a' := ?_) (bA 6 5) rfl rfl (by kernel_rfl) (fun _ _ _ h => h) (Or.inl ⟨by rfl, ?_⟩) hHeld ?_ ?_; rotate_left
   ·rintro w' ⟨s0, s1, s2, s3, s4, s5⟩
    go_simp
    (with_reducible rfl)
   rotate_left
   ·simp only [Act.put, List.setIfInBounds_toArray, List.set_cons_zero, List.set_cons_succ, dS, eP]
    rfl
   refine wL (i := 1) (N := some 6) (bA 6 7) rfl rfl (by kernel_rfl) (by decide) (fun K hK => ?_); refine iy Try.func85 (by kernel_rfl) rfl #[.agg #[.int .i64 aU, .int .i64 aT, .string aV]] (by rfl) rfl rfl zz8 ?_; (with_reducible refine (jo.calls aU aT aV z8 t122 t123 _ A3.out).mono ?_); rintro e w11 ⟨rfl, hb⟩; refine ⟨_, rfl, ?_⟩; replace ak := ah.mk (aG (g := au) (o := .cells #[.int .i64 aU, .int .i64 aT, .string aV] 23 (0, 0)) zz4 hb); replace ay := ah.mk (aG (g := aA) (o := .cells #[.int .i64 gX, .int .i64 gW, .string gV] 23 (0, 0)) iJ hb); replace HB := ah.mk (av fP hb); (try clear hb); (try clear hb2); (try clear hk); (try clear hi); refine hK.out _ _ ⟨cK ak 0, cK ak 1, cK ak 2, cK ay 0, cK ay 1, cK ay 2⟩ (fun hHeld => ?_); clear hK K; refine iI (a' := ?_) ?_ ?_; rotate_left
   ·show Act.put _ (some 6) _ = _
    simp only [Act.put, List.setIfInBounds_toArray, List.set_cons_zero, List.set_cons_succ, dS, eP]
    rfl
   refine wL (i := 3) (N := some 8) (bA 6 15) rfl rfl (by kernel_rfl) (by decide) (fun K hK => ?_); refine iy Try.func85 (by kernel_rfl) rfl #[.agg #[.int .i64 gX, .int .i64 gW, .string gV]] (by rfl) rfl rfl zz8 ?_; (with_reducible refine (jo.calls gX gW gV t124 t125 t126 _ A4.out).mono ?_); rintro e w12 ⟨rfl, hb⟩; refine ⟨_, rfl, ?_⟩; replace ak := ah.mk (aG (g := au) (o := .cells #[.int .i64 aU, .int .i64 aT, .string aV] 23 (0, 0)) zz4 hb); replace ay := ah.mk (aG (g := aA) (o := .cells #[.int .i64 gX, .int .i64 gW, .string gV] 23 (0, 0)) iJ hb); replace HB := ah.mk (av fP hb); (try clear hb); (try clear hb2); (try clear hk); (try clear hi); refine hK.out _ _ ⟨cK ak 0, cK ak 1, cK ak 2, cK ay 0, cK ay 1, cK ay 2⟩ (fun hHeld => ?_); clear hK K; refine iI (a' := ?_) ?_ ?_; rotate_left
   ·show Act.put _ (some 8) _ = _
    simp only [Act.put, List.setIfInBounds_toArray, List.set_cons_zero, List.set_cons_succ, dS, eP]
    rfl
   refine qE (i := 4) (N := none) (bA 6 31) rfl rfl (by kernel_rfl) (by decide) (fun K hK => ?_); have hs13 : w12.cell? ⟨au, 0, none⟩ = some (.int .i64 aU) := cK ak 0; have hfs13 := aj ak.out 0; have YQ := aY.out; have YZ := aQ.out; have hs14 : w12.cell? ⟨au, 1, none⟩ = some (.int .i64 aT) := cK ak 1; have hfs14 := aj ak.out 1; have hns14_1 := aY.out; have hms14_1 := aQ.out; have hs15 : w12.cell? ⟨au, 2, none⟩ = some (.string aV) := cK ak 2; have hfs15 := aj ak.out 2; have hns15_1 := aY.out; have hms15_1 := aQ.out; refine pE (w1 := ?_) (by rfl) rfl ?_ ?_; rotate_left
   ·go_simp
    rfl
   refine hK.out _ _ ?_; clear hK K; refine qE (i := 5) (N := none) (bA 6 63) rfl rfl (by kernel_rfl) (by decide) (fun K hK => ?_); have hs16 : w12.cell? ⟨aA, 0, none⟩ = some (.int .i64 gX) := cK ay 0; have hfs16 := aj ay.out 0; have YP := aQ.out; have YX := aY.out; have hs17 : w12.cell? ⟨aA, 1, none⟩ = some (.int .i64 gW) := cK ay 1; have hfs17 := aj ay.out 1; have hns17_0 := aQ.out; have hms17_0 := aY.out; have hs18 : w12.cell? ⟨aA, 2, none⟩ = some (.string gV) := cK ay 2; have hfs18 := aj ay.out 2; have hns18_0 := aQ.out; have hms18_0 := aY.out; refine pE (w1 := ?_) (by rfl) rfl ?_ ?_; rotate_left
   ·go_simp
    rfl
   refine hK.out _ _ ?_; clear hK K; refine kX (by kernel_rfl) ?_; have hnb19 := aQ.out; have hnc19 := aY.out; have qj : w12.cell? ⟨au, 0, none⟩ = some (.int .i64 aU) := cK ak 0; have qh : w12.cell? ⟨au, 1, none⟩ = some (.int .i64 aT) := cK ak 1; have tO : w12.cell? ⟨au, 2, none⟩ = some (.string aV) := cK ak 2; have qZ := aj ak.out 0; have qd := aj ak.out 1; have tJ := aj ak.out 2; have Dg : w12.cell? ⟨aA, 0, none⟩ = some (.int .i64 gX) := cK ay 0; have Df : w12.cell? ⟨aA, 1, none⟩ = some (.int .i64 gW) := cK ay 1; have Dc : w12.cell? ⟨aA, 2, none⟩ = some (.string gV) := cK ay 2; have CJ := aj ay.out 0; have CG := aj ay.out 1; have CF := aj ay.out 2
   try go_wp2_with (first | ((with_reducible refine aN (f := 163) rfl ?_); refine bU (some 26) rfl rfl Try.func163 (by kernel_rfl) rfl #[.int .i64 t122, .int .i64 t125] rfl zz8 ?_; (with_reducible refine (lT.calls t122 t125 t128 _ A7.out).mono ?_); rintro e w' ⟨rfl, ⟨nd, rfl⟩⟩; refine ⟨_, rfl, ?_⟩))
   go_ret
   exact ⟨zz6, fP⟩
  ·rw [if_neg c6] at H; have uR : (z8 == 1) = false := beq_eq_false_iff_ne.mpr c6; have Hz : (z8 != 1) = true := bne_iff_ne.mpr c6; replace H := Option.bind_eq_some_iff.mp H; obtain ⟨t129, A220, H⟩ := H; have A22 := ah.mk A220; clear A220; obtain rfl := Option.some.inj H
   go_enter Try.func137, Try.ntmps137
   try go_wp2_with (first | ((with_reducible refine bE (N := 2) rfl ?_); refine bC ?hg (N := 2) ?hd (cs := #[.int .i64 aU, .int .i64 aT, .string aV]) (t := 23) ?hr ?_; (case hd => rfl); (case hg => rfl); (case hr => first | (go_simp; done) | (go_simp; rfl)); intro au hg w23 bK hb; have ak := ah.mk (bK); have fO := ah.mk ((zz0 : w.heap.size ≤ au)); have fF := ah.mk ((zz0 : w.heap.size ≤ au)); replace HB := ah.mk (av zz1 hb); clear hb bK hg) | ((with_reducible refine bE (N := 3) rfl ?_); refine bC ?hg (N := 3) ?hd (cs := #[.int .i64 gX, .int .i64 gW, .string gV]) (t := 23) ?hr ?_; (case hd => rfl); (case hg => rfl); (case hr => first | (go_simp; done) | (go_simp; rfl)); intro aA hg w24 bK hb; have ay := ah.mk (bK); have jD := ah.mk ((jZ : w.heap.size ≤ aA)); have jr := ah.mk ((jZ : w.heap.size ≤ aA)); replace HB := ah.mk (av zz5 hb); have aQ := ah.mk ((DL : au ≠ aA)); have aY := ah.mk ((DK : aA ≠ au)); replace ak := ah.mk (aG (g := au) (o := .cells #[.int .i64 aU, .int .i64 aT, .string aV] 23 (0, 0)) zz4 hb); clear hb bK hg))
   replace ak := ah.mk (aJ ak.out); replace ay := ah.mk (aJ ay.out); replace HB := ah.mk (bL HB.out); refine jB (n := 6) (S := fun w' => w'.cell? ⟨au, 0, none⟩ = some (.int .i64 aU) ∧ w'.cell? ⟨au, 1, none⟩ = some (.int .i64 aT) ∧ w'.cell? ⟨au, 2, none⟩ = some (.string aV) ∧ w'.cell? ⟨aA, 0, none⟩ = some (.int .i64 gX) ∧ w'.cell? ⟨aA, 1, none⟩ = some (.int .i64 gW) ∧ w'.cell? ⟨aA, 2, none⟩ = some (.string gV)) (ds := [4, 5]) (.replicate 6 false) (by kernel_rfl) rfl rfl ⟨cK ak 0, cK ak 1, cK ak 2, cK ay 0, cK ay 1, cK ay 2⟩ (fun hHeld => ?_); generalize w24.drew = w25 at ak ay HB hHeld ⊢; refine pQ (i := 0) (N := some 5) (v := ?_) (a' := ?_) (bA 6 1) rfl rfl (by kernel_rfl) (fun _ _ _ h => h) (Or.inl ⟨by rfl, ?_⟩) hHeld ?_ ?_; rotate_left
   ·rintro w' ⟨s0, s1, s2, s3, s4, s5⟩
    go_simp
    (with_reducible rfl)
   rotate_left
   ·simp only [Act.put, List.setIfInBounds_toArray, List.set_cons_zero, List.set_cons_succ, dS, eP]
    rfl
   refine pQ (i := 2) (N := some 7) (v := ?_) (a' := ?_) (bA 6 5) rfl rfl (by kernel_rfl) (fun _ _ _ h => h) (Or.inl ⟨by rfl, ?_⟩) hHeld ?_ ?_; rotate_left
   ·rintro w' ⟨s0, s1, s2, s3, s4, s5⟩
    go_simp
    (with_reducible rfl)
   rotate_left
   ·simp only [Act.put, List.setIfInBounds_toArray, List.set_cons_zero, List.set_cons_succ, dS, eP]
    rfl
   refine wL (i := 1) (N := some 6) (bA 6 7) rfl rfl (by kernel_rfl) (by decide) (fun K hK => ?_); refine iy Try.func85 (by kernel_rfl) rfl #[.agg #[.int .i64 aU, .int .i64 aT, .string aV]] (by rfl) rfl rfl zz8 ?_; (with_reducible refine (jo.calls aU aT aV z8 t122 t123 _ A3.out).mono ?_); rintro e w26 ⟨rfl, hb⟩; refine ⟨_, rfl, ?_⟩; replace ak := ah.mk (aG (g := au) (o := .cells #[.int .i64 aU, .int .i64 aT, .string aV] 23 (0, 0)) zz4 hb); replace ay := ah.mk (aG (g := aA) (o := .cells #[.int .i64 gX, .int .i64 gW, .string gV] 23 (0, 0)) iJ hb); replace HB := ah.mk (av fP hb); (try clear hb); (try clear hb2); (try clear hk); (try clear hi); refine hK.out _ _ ⟨cK ak 0, cK ak 1, cK ak 2, cK ay 0, cK ay 1, cK ay 2⟩ (fun hHeld => ?_); clear hK K; refine iI (a' := ?_) ?_ ?_; rotate_left
   ·show Act.put _ (some 6) _ = _
    simp only [Act.put, List.setIfInBounds_toArray, List.set_cons_zero, List.set_cons_succ, dS, eP]
    rfl
   refine wL (i := 3) (N := some 8) (bA 6 15) rfl rfl (by kernel_rfl) (by decide) (fun K hK => ?_); refine iy Try.func85 (by kernel_rfl) rfl #[.agg #[.int .i64 gX, .int .i64 gW, .string gV]] (by rfl) rfl rfl zz8 ?_; (with_reducible refine (jo.calls gX gW gV t124 t125 t126 _ A4.out).mono ?_); rintro e w27 ⟨rfl, hb⟩; refine ⟨_, rfl, ?_⟩; replace ak := ah.mk (aG (g := au) (o := .cells #[.int .i64 aU, .int .i64 aT, .string aV] 23 (0, 0)) zz4 hb); replace ay := ah.mk (aG (g := aA) (o := .cells #[.int .i64 gX, .int .i64 gW, .string gV] 23 (0, 0)) iJ hb); replace HB := ah.mk (av fP hb); (try clear hb); (try clear hb2); (try clear hk); (try clear hi); refine hK.out _ _ ⟨cK ak 0, cK ak 1, cK ak 2, cK ay 0, cK ay 1, cK ay 2⟩ (fun hHeld => ?_); clear hK K; refine iI (a' := ?_) ?_ ?_; rotate_left
   ·show Act.put _ (some 8) _ = _
    simp only [Act.put, List.setIfInBounds_toArray, List.set_cons_zero, List.set_cons_succ, dS, eP]
    rfl
   refine qE (i := 4) (N := none) (bA 6 31) rfl rfl (by kernel_rfl) (by decide) (fun K hK => ?_); have hs28 : w27.cell? ⟨au, 0, none⟩ = some (.int .i64 aU) := cK ak 0; have hfs28 := aj ak.out 0; have YO := aY.out; have YW := aQ.out; have hs29 : w27.cell? ⟨au, 1, none⟩ = some (.int .i64 aT) := cK ak 1; have hfs29 := aj ak.out 1; have hns29_1 := aY.out; have hms29_1 := aQ.out; have hs30 : w27.cell? ⟨au, 2, none⟩ = some (.string aV) := cK ak 2; have hfs30 := aj ak.out 2; have hns30_1 := aY.out; have hms30_1 := aQ.out; refine pE (w1 := ?_) (by rfl) rfl ?_ ?_; rotate_left
   ·go_simp
    rfl
   refine hK.out _ _ ?_; clear hK K; refine qE (i := 5) (N := none) (bA 6 63) rfl rfl (by kernel_rfl) (by decide) (fun K hK => ?_); have hs31 : w27.cell? ⟨aA, 0, none⟩ = some (.int .i64 gX) := cK ay 0; have hfs31 := aj ay.out 0; have YN := aQ.out; have YV := aY.out; have hs32 : w27.cell? ⟨aA, 1, none⟩ = some (.int .i64 gW) := cK ay 1; have hfs32 := aj ay.out 1; have hns32_0 := aQ.out; have hms32_0 := aY.out; have hs33 : w27.cell? ⟨aA, 2, none⟩ = some (.string gV) := cK ay 2; have hfs33 := aj ay.out 2; have hns33_0 := aQ.out; have hms33_0 := aY.out; refine pE (w1 := ?_) (by rfl) rfl ?_ ?_; rotate_left
   ·go_simp
    rfl
   refine hK.out _ _ ?_; clear hK K; refine kX (by kernel_rfl) ?_; have hnb34 := aQ.out; have hnc34 := aY.out; have FQ : w27.cell? ⟨au, 0, none⟩ = some (.int .i64 aU) := cK ak 0; have FP : w27.cell? ⟨au, 1, none⟩ = some (.int .i64 aT) := cK ak 1; have FN : w27.cell? ⟨au, 2, none⟩ = some (.string aV) := cK ak 2; have Fz := aj ak.out 0; have Fy := aj ak.out 1; have Fx := aj ak.out 2; have hcz36_0 : w27.cell? ⟨aA, 0, none⟩ = some (.int .i64 gX) := cK ay 0; have hcz36_1 : w27.cell? ⟨aA, 1, none⟩ = some (.int .i64 gW) := cK ay 1; have hcz36_2 : w27.cell? ⟨aA, 2, none⟩ = some (.string gV) := cK ay 2; have hfz36_0 := aj ay.out 0; have hfz36_1 := aj ay.out 1; have hfz36_2 := aj ay.out 2
   try go_wp2_with (first | ((with_reducible refine aN (f := 134) rfl ?_); refine bU (some 31) rfl rfl Try.func134 (by kernel_rfl) rfl #[.string t123, .string t126] rfl zz8 ?_; (with_reducible refine (kY.calls t123 t126 t129 _ A22.out).mono ?_); rintro e w' ⟨rfl, ⟨nd, rfl⟩⟩; refine ⟨_, rfl, ?_⟩))
   go_ret
   exact ⟨zz6, fP⟩
 ·rw [if_neg c5] at H; have qN : (z8 == t124) = false := beq_eq_false_iff_ne.mpr c5; have NA : (z8 != t124) = true := bne_iff_ne.mpr c5; replace H := Option.bind_eq_some_iff.mp H; obtain ⟨t127, A370, H⟩ := H; have A37 := ah.mk A370; clear A370; obtain rfl := Option.some.inj H
  go_enter Try.func137, Try.ntmps137
  try go_wp2_with (first | ((with_reducible refine bE (N := 2) rfl ?_); refine bC ?hg (N := 2) ?hd (cs := #[.int .i64 aU, .int .i64 aT, .string aV]) (t := 23) ?hr ?_; (case hd => rfl); (case hg => rfl); (case hr => first | (go_simp; done) | (go_simp; rfl)); intro au hg w38 bK hb; have ak := ah.mk (bK); have fO := ah.mk ((zz0 : w.heap.size ≤ au)); have fF := ah.mk ((zz0 : w.heap.size ≤ au)); replace HB := ah.mk (av zz1 hb); clear hb bK hg) | ((with_reducible refine bE (N := 3) rfl ?_); refine bC ?hg (N := 3) ?hd (cs := #[.int .i64 gX, .int .i64 gW, .string gV]) (t := 23) ?hr ?_; (case hd => rfl); (case hg => rfl); (case hr => first | (go_simp; done) | (go_simp; rfl)); intro aA hg w39 bK hb; have ay := ah.mk (bK); have jD := ah.mk ((jZ : w.heap.size ≤ aA)); have jr := ah.mk ((jZ : w.heap.size ≤ aA)); replace HB := ah.mk (av zz5 hb); have aQ := ah.mk ((DL : au ≠ aA)); have aY := ah.mk ((DK : aA ≠ au)); replace ak := ah.mk (aG (g := au) (o := .cells #[.int .i64 aU, .int .i64 aT, .string aV] 23 (0, 0)) zz4 hb); clear hb bK hg))
  replace ak := ah.mk (aJ ak.out); replace ay := ah.mk (aJ ay.out); replace HB := ah.mk (bL HB.out); refine jB (n := 6) (S := fun w' => w'.cell? ⟨au, 0, none⟩ = some (.int .i64 aU) ∧ w'.cell? ⟨au, 1, none⟩ = some (.int .i64 aT) ∧ w'.cell? ⟨au, 2, none⟩ = some (.string aV) ∧ w'.cell? ⟨aA, 0, none⟩ = some (.int .i64 gX) ∧ w'.cell? ⟨aA, 1, none⟩ = some (.int .i64 gW) ∧ w'.cell? ⟨aA, 2, none⟩ = some (.string gV)) (ds := [4, 5]) (.replicate 6 false) (by kernel_rfl) rfl rfl ⟨cK ak 0, cK ak 1, cK ak 2, cK ay 0, cK ay 1, cK ay 2⟩ (fun hHeld => ?_); generalize w39.drew = w40 at ak ay HB hHeld ⊢; refine pQ (i := 0) (N := some 5) (v := ?_) (a' := ?_) (bA 6 1) rfl rfl (by kernel_rfl) (fun _ _ _ h => h) (Or.inl ⟨by rfl, ?_⟩) hHeld ?_ ?_; rotate_left
  ·rintro w' ⟨s0, s1, s2, s3, s4, s5⟩
   go_simp
   (with_reducible rfl)
  rotate_left
  ·simp only [Act.put, List.setIfInBounds_toArray, List.set_cons_zero, List.set_cons_succ, dS, eP]
   rfl
  refine pQ (i := 2) (N := some 7) (v := ?_) (a' := ?_) (bA 6 5) rfl rfl (by kernel_rfl) (fun _ _ _ h => h) (Or.inl ⟨by rfl, ?_⟩) hHeld ?_ ?_; rotate_left
  ·rintro w' ⟨s0, s1, s2, s3, s4, s5⟩
   go_simp
   (with_reducible rfl)
  rotate_left
  ·simp only [Act.put, List.setIfInBounds_toArray, List.set_cons_zero, List.set_cons_succ, dS, eP]
   rfl
  refine wL (i := 1) (N := some 6) (bA 6 7) rfl rfl (by kernel_rfl) (by decide) (fun K hK => ?_); refine iy Try.func85 (by kernel_rfl) rfl #[.agg #[.int .i64 aU, .int .i64 aT, .string aV]] (by rfl) rfl rfl zz8 ?_; (with_reducible refine (jo.calls aU aT aV z8 t122 t123 _ A3.out).mono ?_); rintro e w41 ⟨rfl, hb⟩; refine ⟨_, rfl, ?_⟩; replace ak := ah.mk (aG (g := au) (o := .cells #[.int .i64 aU, .int .i64 aT, .string aV] 23 (0, 0)) zz4 hb); replace ay := ah.mk (aG (g := aA) (o := .cells #[.int .i64 gX, .int .i64 gW, .string gV] 23 (0, 0)) iJ hb); replace HB := ah.mk (av fP hb); (try clear hb); (try clear hb2); (try clear hk); (try clear hi); refine hK.out _ _ ⟨cK ak 0, cK ak 1, cK ak 2, cK ay 0, cK ay 1, cK ay 2⟩ (fun hHeld => ?_); clear hK K; refine iI (a' := ?_) ?_ ?_; rotate_left
  ·show Act.put _ (some 6) _ = _
   simp only [Act.put, List.setIfInBounds_toArray, List.set_cons_zero, List.set_cons_succ, dS, eP]
   rfl
  refine wL (i := 3) (N := some 8) (bA 6 15) rfl rfl (by kernel_rfl) (by decide) (fun K hK => ?_); refine iy Try.func85 (by kernel_rfl) rfl #[.agg #[.int .i64 gX, .int .i64 gW, .string gV]] (by rfl) rfl rfl zz8 ?_; (with_reducible refine (jo.calls gX gW gV t124 t125 t126 _ A4.out).mono ?_); rintro e w42 ⟨rfl, hb⟩; refine ⟨_, rfl, ?_⟩; replace ak := ah.mk (aG (g := au) (o := .cells #[.int .i64 aU, .int .i64 aT, .string aV] 23 (0, 0)) zz4 hb); replace ay := ah.mk (aG (g := aA) (o := .cells #[.int .i64 gX, .int .i64 gW, .string gV] 23 (0, 0)) iJ hb); replace HB := ah.mk (av fP hb); (try clear hb); (try clear hb2); (try clear hk); (try clear hi); refine hK.out _ _ ⟨cK ak 0, cK ak 1, cK ak 2, cK ay 0, cK ay 1, cK ay 2⟩ (fun hHeld => ?_); clear hK K; refine iI (a' := ?_) ?_ ?_; rotate_left
  ·show Act.put _ (some 8) _ = _
   simp only [Act.put, List.setIfInBounds_toArray, List.set_cons_zero, List.set_cons_succ, dS, eP]
   rfl
  refine qE (i := 4) (N := none) (bA 6 31) rfl rfl (by kernel_rfl) (by decide) (fun K hK => ?_); have hs43 : w42.cell? ⟨au, 0, none⟩ = some (.int .i64 aU) := cK ak 0; have hfs43 := aj ak.out 0; have YM := aY.out; have YU := aQ.out; have hs44 : w42.cell? ⟨au, 1, none⟩ = some (.int .i64 aT) := cK ak 1; have hfs44 := aj ak.out 1; have YL := aY.out; have YT := aQ.out; have hs45 : w42.cell? ⟨au, 2, none⟩ = some (.string aV) := cK ak 2; have hfs45 := aj ak.out 2; have hns45_1 := aY.out; have hms45_1 := aQ.out; refine pE (w1 := ?_) (by rfl) rfl ?_ ?_; rotate_left
  ·go_simp
   rfl
  refine hK.out _ _ ?_; clear hK K; refine qE (i := 5) (N := none) (bA 6 63) rfl rfl (by kernel_rfl) (by decide) (fun K hK => ?_); have hs46 : w42.cell? ⟨aA, 0, none⟩ = some (.int .i64 gX) := cK ay 0; have hfs46 := aj ay.out 0; have RI := aQ.out; have RL := aY.out; have hs47 : w42.cell? ⟨aA, 1, none⟩ = some (.int .i64 gW) := cK ay 1; have hfs47 := aj ay.out 1; have RH := aQ.out; have RJ := aY.out; have hs48 : w42.cell? ⟨aA, 2, none⟩ = some (.string gV) := cK ay 2; have hfs48 := aj ay.out 2; have YJ := aQ.out; have YR := aY.out; refine pE (w1 := ?_) (by rfl) rfl ?_ ?_; rotate_left
  ·go_simp
   rfl
  refine hK.out _ _ ?_; clear hK K; refine kX (by kernel_rfl) ?_; have hnb49 := aQ.out; have hnc49 := aY.out; have ZH : w42.cell? ⟨au, 0, none⟩ = some (.int .i64 aU) := cK ak 0; have ZG : w42.cell? ⟨au, 1, none⟩ = some (.int .i64 aT) := cK ak 1; have ZF : w42.cell? ⟨au, 2, none⟩ = some (.string aV) := cK ak 2; have Y2 := aj ak.out 0; have Y1 := aj ak.out 1; have Y0 := aj ak.out 2; have hcz51_0 : w42.cell? ⟨aA, 0, none⟩ = some (.int .i64 gX) := cK ay 0; have hcz51_1 : w42.cell? ⟨aA, 1, none⟩ = some (.int .i64 gW) := cK ay 1; have hcz51_2 : w42.cell? ⟨aA, 2, none⟩ = some (.string gV) := cK ay 2; have hfz51_0 := aj ay.out 0; have hfz51_1 := aj ay.out 1; have hfz51_2 := aj ay.out 2
  try go_wp2_with (first | ((with_reducible refine aN (f := 162) rfl ?_); refine bU (some 18) rfl rfl Try.func162 (by kernel_rfl) rfl #[.int .i64 z8, .int .i64 t124] rfl zz8 ?_; (with_reducible refine (cmp_Compare_int.calls z8 t124 t127 _ A37.out).mono ?_); rintro e w' ⟨rfl, ⟨nd, rfl⟩⟩; refine ⟨_, rfl, ?_⟩))
  go_ret
  exact ⟨zz6, fP⟩
def iH.l0 : Nat → List (S23) → List (S23) → List (S23) → Int → Int → Option (Int)
 | 0, _, _, _, _, _ => none
 | k + 1, x0, x1, x11, x12, x13 => if x13 < x12 then (if 0 ≤ x13 then (if x13 < (x11.length : Int) then (if x13 ≥ (x1.length : Int) then (some 1) else (if x13 < (x1.length : Int) then ((mW.f ((aZ x11 x13).f0) ((aZ x11 x13).f1) ((aZ x11 x13).f2) ((aZ x1 x13).f0) ((aZ x1 x13).f1) ((aZ x1 x13).f2)).bind fun IU => (if IU = 0 then (iH.l0 k x0 x1 x11 x12 (wrap64 (x13 + 1))) else (some IU))) else (none))) else (none)) else (none)) else (if (x0.length : Int) < (x1.length : Int) then (some (-1)) else (some 0))
def iH.f (k : Nat) (l0 : List (S23)) (l1 : List (S23))  : Option (Int) := iH.l0 k l0 l1 l0 (l0.length : Int) 0
theorem iH.gU : ∀ k, (∀ y0 y1 y2 y3 y4, LeO (iH.l0 k y0 y1 y2 y3 y4) (iH.l0 (k + 1) y0 y1 y2 y3 y4))
 | 0 => fun _ _ _ _ _ r h => by simp [iH.l0] at h
 | k + 1 => by
  have ih0 := iH.gU k
  ·intro y0 y1 y2 y3 y4; unfold iH.l0
   repeat' first
   | (with_reducible exact ih0 _ _ _ _ _)
   | (with_reducible exact LeO.refl _)
   | (with_reducible exact LeO.none _)
   | (with_reducible refine LeO.ite ?_ ?_)
   | (with_reducible refine LeO.bind ?_ (fun _ => ?_))
   | exact ih0 _ _ _ _ _
   | exact LeO.none _
   | refine LeO.ite ?_ ?_
   | refine LeO.bind ?_ (fun _ => ?_)
theorem iH.mono : ∀ a0 a1 k, LeO (iH.f k a0 a1) (iH.f (k + 1) a0 a1) := by
 intro a0 a1 k; have ih0 := iH.gU k; unfold iH.f
 repeat' first
   | (with_reducible exact ih0 _ _ _ _ _)
   | (with_reducible exact LeO.refl _)
   | (with_reducible exact LeO.none _)
   | (with_reducible refine LeO.ite ?_ ?_)
   | (with_reducible refine LeO.bind ?_ (fun _ => ?_))
   | exact ih0 _ _ _ _ _
   | exact LeO.none _
   | refine LeO.ite ?_ ?_
   | refine LeO.bind ?_ (fun _ => ?_)
set_option maxHeartbeats 8000000 in
set_option maxRecDepth 100000 in
theorem iH.calls (k : Nat) (A0 : Option Addr) (c0 : Nat) (l0 : List (S23)) (A1 : Option Addr) (c1 : Nat) (l1 : List (S23))  (r : Int) (w : World) (hr0 : Kd.C k23 w A0 l0.length l0) (hc0 : l0.length ≤ c0) (hr1 : Kd.C k23 w A1 l1.length l1) (hc1 : l1.length ≤ c1) (h : iH.f k l0 l1 = some r) :
  Calls Try.prog 136 #[.slice A0 l0.length c0, .slice A1 l1.length c1, .func (.func 137) #[] #[]] w fun e w' => e = .returned (.int .i64 r) ∧ Below w.heap.size w w' := by
 have vI := Try.underlying23; have HR0 := ah.mk hr0; have HC0 := ah.mk hc0; clear hr0 hc0; have HR1 := ah.mk hr1; have HC1 := ah.mk hc1; clear hr1 hc1; have HB := ah.mk (Below.refl w.heap.size w); have H := h; clear h
 dsimp only [iH.f] at H
 have H' := ah.mk H; clear H
 go_enter Try.func136, Try.ntmps136
 go_wp2
 go_loopg [13] k (fun kq v13 w' => ∃ (eu : Int), v13 = .int .i64 eu ∧ ah (iH.l0 kq l0 l1 l0 (l0.length : Int) eu = some r) ∧ ah (kq ≤ k) ∧ ah (Below w.heap.size w w'))
 case atStart => exact ⟨(0), zz2, H', ⟨Nat.le_refl _⟩, ⟨zz1⟩⟩
 case round =>
  clear H'; (try clear c1); (try clear p2); obtain ⟨eu, rfl, HA, HK1, HB⟩ := hrel
  cases gk with
  | zero => exact absurd HA.out (by simp [iH.l0])
  | succ k1 =>
   have H := HA.out; clear HA; simp only [iH.l0] at H
   by_cases c4 : eu < (l0.length : Int)
   ·rw [if_pos c4] at H; have lG : decide (eu < (l0.length : Int)) = true := decide_eq_true c4; clear c4
    by_cases c5 : 0 ≤ eu
    ·rw [if_pos c5] at H; have qN : decide (0 ≤ eu) = true := decide_eq_true c5; clear c5
     by_cases c6 : eu < (l0.length : Int)
     ·rw [if_pos c6] at H; have uR : decide (eu < (l0.length : Int)) = true := decide_eq_true c6; clear c6
      by_cases c7 : eu ≥ (l1.length : Int)
      ·rw [if_pos c7] at H; have qp : decide ((l1.length : Int) ≤ eu) = true := decide_eq_true c7; clear c7; obtain rfl := Option.some.inj H; have Gv : 0 ≤ (eu : Int) := of_decide_eq_true zz9; have Gt : eu < (l0.length : Int) := of_decide_eq_true zz9; obtain ⟨ad130, e130, uY, uX, uW⟩ := ni HR0.out eu Gv Gt
       cases e130
       replace uY := cB HB uY; replace uX := cB HB uX; replace uW := cB HB uW; replace Gv := eq_true Gv; replace Gt := eq_true Gt
       go_wp2_with (first | ((with_reducible refine bE (N := 8) rfl ?_); refine bC ?hg (N := 8) ?hd (cs := #[.int .i64 0, .int .i64 0, .string (⟨#[]⟩ : ByteArray)]) (t := 23) ?hr ?_; (case hd => rfl); (case hg => rfl); (case hr => first | (go_simp; done) | (go_simp; rfl)); intro au hg w8 bK hb; have ak := ah.mk (bK); have fO := ah.mk ((zz0 : w.heap.size ≤ au)); have fF := ah.mk ((zz0 : w.heap.size ≤ au)); replace HB := ah.mk (av zz1 hb); clear hb bK hg; have qM : w8.cell? ⟨au, 0, none⟩ = some (.int .i64 0) := cK ak 0; have qL : w8.cell? ⟨au, 1, none⟩ = some (.int .i64 0) := cK ak 1; have rZ : w8.cell? ⟨au, 2, none⟩ = some (.string (⟨#[]⟩ : ByteArray)) := cK ak 2; have qK := aj ak.out 0; have qJ := aj ak.out 1; have rY := aj ak.out 2))
       go_ret
       exact ⟨zz6, zz5⟩
      ·rw [if_neg c7] at H; have qp : decide ((l1.length : Int) ≤ eu) = false := decide_eq_false c7; clear c7
       by_cases c10 : eu < (l1.length : Int)
       ·rw [if_pos c10] at H; have xM : decide (eu < (l1.length : Int)) = true := decide_eq_true c10; clear c10; replace H := Option.bind_eq_some_iff.mp H; obtain ⟨IU, yP, H⟩ := H; have A11 := ah.mk yP; clear yP
        by_cases c12 : IU = 0
        ·rw [if_pos c12] at H; have H9 : (IU == 0) = true := beq_iff_eq.mpr c12; have c12b1 : (IU != 0) = false := bne_eq_false_iff_eq.mpr c12; clear c12; have H' := ah.mk H; clear H; have Gv : 0 ≤ (eu : Int) := of_decide_eq_true zz9; have Gt : eu < (l0.length : Int) := of_decide_eq_true zz9; obtain ⟨ad130, e130, uY, uX, uW⟩ := ni HR0.out eu Gv Gt
         cases e130
         replace uY := cB HB uY; replace uX := cB HB uX; replace uW := cB HB uW; replace Gv := eq_true Gv; replace Gt := eq_true Gt
         go_wp2_with (first | ((with_reducible refine bE (N := 8) rfl ?_); refine bC ?hg (N := 8) ?hd (cs := #[.int .i64 0, .int .i64 0, .string (⟨#[]⟩ : ByteArray)]) (t := 23) ?hr ?_; (case hd => rfl); (case hg => rfl); (case hr => first | (go_simp; done) | (go_simp; rfl)); intro au hg w13 bK hb; have ak := ah.mk (bK); have fO := ah.mk ((zz0 : w.heap.size ≤ au)); have fF := ah.mk ((zz0 : w.heap.size ≤ au)); replace HB := ah.mk (av zz1 hb); clear hb bK hg; have xu : w13.cell? ⟨au, 0, none⟩ = some (.int .i64 0) := cK ak 0; have xq : w13.cell? ⟨au, 1, none⟩ = some (.int .i64 0) := cK ak 1; have xk : w13.cell? ⟨au, 2, none⟩ = some (.string (⟨#[]⟩ : ByteArray)) := cK ak 2; have wX := aj ak.out 0; have wW := aj ak.out 1; have wV := aj ak.out 2; have Pw : 0 ≤ (eu : Int) := of_decide_eq_true zz9; have O4 : eu < (l1.length : Int) := of_decide_eq_true zz9; obtain ⟨Ik, e132, lg, lK, lJ⟩ := ni HR1.out eu Pw O4; cases e132; have zi : Ik.block ≠ au := Nat.ne_of_lt (Nat.lt_of_lt_of_le UC fO.out); have zh : Ik.block ≠ au := Nat.ne_of_lt (Nat.lt_of_lt_of_le UC fO.out); have zf : Ik.block ≠ au := Nat.ne_of_lt (Nat.lt_of_lt_of_le UC fO.out); replace lg := cB HB lg; replace lK := cB HB lK; replace lJ := cB HB lJ; replace lg := (cell_far (p := ⟨au, 0, none⟩) UA (.int .i64 ((aZ l0 eu).f0))).trans lg; replace lK := (cell_far (p := ⟨au, 0, none⟩) UA (.int .i64 ((aZ l0 eu).f0))).trans lK; replace lJ := (cell_far (p := ⟨au, 0, none⟩) UA (.int .i64 ((aZ l0 eu).f0))).trans lJ; replace lg := (cell_far (p := ⟨au, 1, none⟩) Uz (.int .i64 ((aZ l0 eu).f1))).trans lg; replace lK := (cell_far (p := ⟨au, 1, none⟩) Uz (.int .i64 ((aZ l0 eu).f1))).trans lK; replace lJ := (cell_far (p := ⟨au, 1, none⟩) Uz (.int .i64 ((aZ l0 eu).f1))).trans lJ; replace lg := (cell_far (p := ⟨au, 2, none⟩) Uy (.string ((aZ l0 eu).f2))).trans lg; replace lK := (cell_far (p := ⟨au, 2, none⟩) Uy (.string ((aZ l0 eu).f2))).trans lK; replace lJ := (cell_far (p := ⟨au, 2, none⟩) Uy (.string ((aZ l0 eu).f2))).trans lJ; clear zi; clear zh; clear zf; replace Pw := eq_true Pw; replace O4 := eq_true O4) | ((with_reducible refine bE (N := 9) rfl ?_); refine bC ?hg (N := 9) ?hd (cs := #[.int .i64 0, .int .i64 0, .string (⟨#[]⟩ : ByteArray)]) (t := 23) ?hr ?_; (case hd => rfl); (case hg => rfl); (case hr => first | (go_simp; done) | (go_simp; rfl)); intro aA hg w15 bK hb; have ay := ah.mk (bK); have jD := ah.mk ((jZ : w.heap.size ≤ aA)); have jr := ah.mk ((jZ : w.heap.size ≤ aA)); replace HB := ah.mk (av zz5 hb); have aQ := ah.mk ((by rw [hg]; exact Nat.ne_of_lt (kr (g := au) (o := .cells #[.int .i64 ((aZ l0 eu).f0), .int .i64 ((aZ l0 eu).f1), .string ((aZ l0 eu).f2)] 23 (0, 0)) Ux) : au ≠ aA)); have aY := ah.mk ((by rw [hg]; exact Nat.ne_of_gt (kr (g := au) (o := .cells #[.int .i64 ((aZ l0 eu).f0), .int .i64 ((aZ l0 eu).f1), .string ((aZ l0 eu).f2)] 23 (0, 0)) Ux) : aA ≠ au)); replace ak := ah.mk (aG (g := au) (o := .cells #[.int .i64 ((aZ l0 eu).f0), .int .i64 ((aZ l0 eu).f1), .string ((aZ l0 eu).f2)] 23 (0, 0)) Ux hb); clear hb bK hg; have hnb16 := aY.out; have hnc16 := aQ.out; have aak : w15.cell? ⟨aA, 0, none⟩ = some (.int .i64 0) := cK ay 0; have aaj : w15.cell? ⟨aA, 1, none⟩ = some (.int .i64 0) := cK ay 1; have aai : w15.cell? ⟨aA, 2, none⟩ = some (.string (⟨#[]⟩ : ByteArray)) := cK ay 2; have Zz := aj ay.out 0; have Zy := aj ay.out 1; have Zx := aj ay.out 2; have zy : w15.cell? ⟨au, 0, none⟩ = some (.int .i64 ((aZ l0 eu).f0)) := cK ak 0; have zx : w15.cell? ⟨au, 1, none⟩ = some (.int .i64 ((aZ l0 eu).f1)) := cK ak 1; have Dh : w15.cell? ⟨au, 2, none⟩ = some (.string ((aZ l0 eu).f2)) := cK ak 2; have CO := aj ak.out 0; have zm := aj ak.out 1; have CK := aj ak.out 2) | (go_at_call 137; (with_reducible refine (mW.calls ((aZ l0 eu).f0) ((aZ l0 eu).f1) ((aZ l0 eu).f2) ((aZ l1 eu).f0) ((aZ l1 eu).f1) ((aZ l1 eu).f2) IU _ A11.out).mono ?_); rintro e w19 ⟨rfl, hb⟩; replace ak := ah.mk (aG (g := au) (o := .cells #[.int .i64 ((aZ l0 eu).f0), .int .i64 ((aZ l0 eu).f1), .string ((aZ l0 eu).f2)] 23 (0, 0)) zz20 hb); replace ay := ah.mk (aG (g := aA) (o := .cells #[.int .i64 ((aZ l1 eu).f0), .int .i64 ((aZ l1 eu).f1), .string ((aZ l1 eu).f2)] 23 (0, 0)) (by (with_reducible repeat (first | refine aM ?_ _ | refine aJ ?_ | refine aI ?_ _)); refine bZ (cs := #[.int .i64 ((aZ l1 eu).f0), .int .i64 ((aZ l1 eu).f1), .string (⟨#[]⟩ : ByteArray)]) ?_ 2 _ rfl; (with_reducible repeat (first | refine aM ?_ _ | refine aJ ?_ | refine aI ?_ _)); refine bZ (cs := #[.int .i64 ((aZ l1 eu).f0), .int .i64 0, .string (⟨#[]⟩ : ByteArray)]) ?_ 1 _ rfl; (with_reducible repeat (first | refine aM ?_ _ | refine aJ ?_ | refine aI ?_ _)); refine bZ (cs := #[.int .i64 0, .int .i64 0, .string (⟨#[]⟩ : ByteArray)]) ?_ 0 _ rfl; (with_reducible repeat (first | refine aM ?_ _ | refine aJ ?_ | refine aI ?_ _)); exact ay.out) hb); replace HB := ah.mk (av fP hb); (try clear hb); (try clear hb2); (try clear hk); (try clear hi)))
         go_roundg k1
         case measure => have := HK1.out; omega
         case rel => exact ⟨(wrap64 (eu + 1)), zz2, H', ⟨by have := HK1.out; omega⟩, ⟨fP⟩⟩
        ·rw [if_neg c12] at H; have H9 : (IU == 0) = false := beq_eq_false_iff_ne.mpr c12; have c12b1 : (IU != 0) = true := bne_iff_ne.mpr c12; obtain rfl := Option.some.inj H; have Gv : 0 ≤ (eu : Int) := of_decide_eq_true zz9; have Gt : eu < (l0.length : Int) := of_decide_eq_true zz9; obtain ⟨ad130, e130, uY, uX, uW⟩ := ni HR0.out eu Gv Gt
         cases e130
         replace uY := cB HB uY; replace uX := cB HB uX; replace uW := cB HB uW; replace Gv := eq_true Gv; replace Gt := eq_true Gt
         go_wp2_with (first | ((with_reducible refine bE (N := 8) rfl ?_); refine bC ?hg (N := 8) ?hd (cs := #[.int .i64 0, .int .i64 0, .string (⟨#[]⟩ : ByteArray)]) (t := 23) ?hr ?_; (case hd => rfl); (case hg => rfl); (case hr => first | (go_simp; done) | (go_simp; rfl)); intro au hg w20 bK hb; have ak := ah.mk (bK); have fO := ah.mk ((zz0 : w.heap.size ≤ au)); have fF := ah.mk ((zz0 : w.heap.size ≤ au)); replace HB := ah.mk (av zz1 hb); clear hb bK hg; have Dg : w20.cell? ⟨au, 0, none⟩ = some (.int .i64 0) := cK ak 0; have Df : w20.cell? ⟨au, 1, none⟩ = some (.int .i64 0) := cK ak 1; have Dc : w20.cell? ⟨au, 2, none⟩ = some (.string (⟨#[]⟩ : ByteArray)) := cK ak 2; have CJ := aj ak.out 0; have CG := aj ak.out 1; have CF := aj ak.out 2; have Pw : 0 ≤ (eu : Int) := of_decide_eq_true zz9; have O4 : eu < (l1.length : Int) := of_decide_eq_true zz9; obtain ⟨Ik, e132, lg, lK, lJ⟩ := ni HR1.out eu Pw O4; cases e132; have zi : Ik.block ≠ au := Nat.ne_of_lt (Nat.lt_of_lt_of_le UC fO.out); have zh : Ik.block ≠ au := Nat.ne_of_lt (Nat.lt_of_lt_of_le UC fO.out); have zf : Ik.block ≠ au := Nat.ne_of_lt (Nat.lt_of_lt_of_le UC fO.out); replace lg := cB HB lg; replace lK := cB HB lK; replace lJ := cB HB lJ; replace lg := (cell_far (p := ⟨au, 0, none⟩) UA (.int .i64 ((aZ l0 eu).f0))).trans lg; replace lK := (cell_far (p := ⟨au, 0, none⟩) UA (.int .i64 ((aZ l0 eu).f0))).trans lK; replace lJ := (cell_far (p := ⟨au, 0, none⟩) UA (.int .i64 ((aZ l0 eu).f0))).trans lJ; replace lg := (cell_far (p := ⟨au, 1, none⟩) Uz (.int .i64 ((aZ l0 eu).f1))).trans lg; replace lK := (cell_far (p := ⟨au, 1, none⟩) Uz (.int .i64 ((aZ l0 eu).f1))).trans lK; replace lJ := (cell_far (p := ⟨au, 1, none⟩) Uz (.int .i64 ((aZ l0 eu).f1))).trans lJ; replace lg := (cell_far (p := ⟨au, 2, none⟩) Uy (.string ((aZ l0 eu).f2))).trans lg; replace lK := (cell_far (p := ⟨au, 2, none⟩) Uy (.string ((aZ l0 eu).f2))).trans lK; replace lJ := (cell_far (p := ⟨au, 2, none⟩) Uy (.string ((aZ l0 eu).f2))).trans lJ; clear zi; clear zh; clear zf; replace Pw := eq_true Pw; replace O4 := eq_true O4) | ((with_reducible refine bE (N := 9) rfl ?_); refine bC ?hg (N := 9) ?hd (cs := #[.int .i64 0, .int .i64 0, .string (⟨#[]⟩ : ByteArray)]) (t := 23) ?hr ?_; (case hd => rfl); (case hg => rfl); (case hr => first | (go_simp; done) | (go_simp; rfl)); intro aA hg w22 bK hb; have ay := ah.mk (bK); have jD := ah.mk ((jZ : w.heap.size ≤ aA)); have jr := ah.mk ((jZ : w.heap.size ≤ aA)); replace HB := ah.mk (av zz5 hb); have aQ := ah.mk ((by rw [hg]; exact Nat.ne_of_lt (kr (g := au) (o := .cells #[.int .i64 ((aZ l0 eu).f0), .int .i64 ((aZ l0 eu).f1), .string ((aZ l0 eu).f2)] 23 (0, 0)) Ux) : au ≠ aA)); have aY := ah.mk ((by rw [hg]; exact Nat.ne_of_gt (kr (g := au) (o := .cells #[.int .i64 ((aZ l0 eu).f0), .int .i64 ((aZ l0 eu).f1), .string ((aZ l0 eu).f2)] 23 (0, 0)) Ux) : aA ≠ au)); replace ak := ah.mk (aG (g := au) (o := .cells #[.int .i64 ((aZ l0 eu).f0), .int .i64 ((aZ l0 eu).f1), .string ((aZ l0 eu).f2)] 23 (0, 0)) Ux hb); clear hb bK hg; have hnb23 := aY.out; have hnc23 := aQ.out; have Db : w22.cell? ⟨aA, 0, none⟩ = some (.int .i64 0) := cK ay 0; have Da : w22.cell? ⟨aA, 1, none⟩ = some (.int .i64 0) := cK ay 1; have C9 : w22.cell? ⟨aA, 2, none⟩ = some (.string (⟨#[]⟩ : ByteArray)) := cK ay 2; have CB := aj ay.out 0; have Cz := aj ay.out 1; have Cy := aj ay.out 2; have C8 : w22.cell? ⟨au, 0, none⟩ = some (.int .i64 ((aZ l0 eu).f0)) := cK ak 0; have CZ : w22.cell? ⟨au, 1, none⟩ = some (.int .i64 ((aZ l0 eu).f1)) := cK ak 1; have CY : w22.cell? ⟨au, 2, none⟩ = some (.string ((aZ l0 eu).f2)) := cK ak 2; have Cx := aj ak.out 0; have Cw := aj ak.out 1; have Cv := aj ak.out 2) | (go_at_call 137; (with_reducible refine (mW.calls ((aZ l0 eu).f0) ((aZ l0 eu).f1) ((aZ l0 eu).f2) ((aZ l1 eu).f0) ((aZ l1 eu).f1) ((aZ l1 eu).f2) IU _ A11.out).mono ?_); rintro e w26 ⟨rfl, hb⟩; replace ak := ah.mk (aG (g := au) (o := .cells #[.int .i64 ((aZ l0 eu).f0), .int .i64 ((aZ l0 eu).f1), .string ((aZ l0 eu).f2)] 23 (0, 0)) zz20 hb); replace ay := ah.mk (aG (g := aA) (o := .cells #[.int .i64 ((aZ l1 eu).f0), .int .i64 ((aZ l1 eu).f1), .string ((aZ l1 eu).f2)] 23 (0, 0)) (by (with_reducible repeat (first | refine aM ?_ _ | refine aJ ?_ | refine aI ?_ _)); refine bZ (cs := #[.int .i64 ((aZ l1 eu).f0), .int .i64 ((aZ l1 eu).f1), .string (⟨#[]⟩ : ByteArray)]) ?_ 2 _ rfl; (with_reducible repeat (first | refine aM ?_ _ | refine aJ ?_ | refine aI ?_ _)); refine bZ (cs := #[.int .i64 ((aZ l1 eu).f0), .int .i64 0, .string (⟨#[]⟩ : ByteArray)]) ?_ 1 _ rfl; (with_reducible repeat (first | refine aM ?_ _ | refine aJ ?_ | refine aI ?_ _)); refine bZ (cs := #[.int .i64 0, .int .i64 0, .string (⟨#[]⟩ : ByteArray)]) ?_ 0 _ rfl; (with_reducible repeat (first | refine aM ?_ _ | refine aJ ?_ | refine aI ?_ _)); exact ay.out) hb); replace HB := ah.mk (av fP hb); (try clear hb); (try clear hb2); (try clear hk); (try clear hi)))
         go_ret
         exact ⟨zz6, fP⟩
       ·rw [if_neg c10] at H; exact absurd H (by simp)
     ·rw [if_neg c6] at H; exact absurd H (by simp)
    ·rw [if_neg c5] at H; exact absurd H (by simp)
   ·rw [if_neg c4] at H; have lG : decide (eu < (l0.length : Int)) = false := decide_eq_false c4; clear c4
    by_cases c27 : (l0.length : Int) < (l1.length : Int)
    ·rw [if_pos c27] at H; have c27b0 : decide ((l0.length : Int) < (l1.length : Int)) = true := decide_eq_true c27; have c27b1 : decide (l0.length < l1.length) = true := decide_eq_true (Int.ofNat_lt.mp c27); clear c27; obtain rfl := Option.some.inj H
     go_wp2
     go_ret
     exact ⟨zz6, zz1⟩
    ·rw [if_neg c27] at H; have c27b0 : decide ((l0.length : Int) < (l1.length : Int)) = false := decide_eq_false c27; have c27b1 : decide (l0.length < l1.length) = false := decide_eq_false (fun h => c27 (Int.ofNat_lt.mpr h)); clear c27; obtain rfl := Option.some.inj H
     go_wp2
     go_ret
     exact ⟨zz6, zz1⟩
def eG.f (k : Nat) (l0 : List (S23)) (l1 : List (S23)) : Option (Int) := (iH.f k l0 l1).bind fun t135 => (some t135)
theorem eG.mono : ∀ a0 a1 k, LeO (eG.f k a0 a1) (eG.f (k + 1) a0 a1) := by
 intro a0 a1 k; unfold eG.f
 repeat' first
   | (with_reducible exact iH.mono _ _ _)
   | (with_reducible exact LeO.refl _)
   | (with_reducible exact LeO.none _)
   | (with_reducible refine LeO.ite ?_ ?_)
   | (with_reducible refine LeO.bind ?_ (fun _ => ?_))
   | exact iH.mono _ _ _
   | exact LeO.none _
   | refine LeO.ite ?_ ?_
   | refine LeO.bind ?_ (fun _ => ?_)
set_option maxHeartbeats 8000000 in
set_option maxRecDepth 100000 in
theorem eG.calls (k : Nat) (A0 : Option Addr) (c0 : Nat) (l0 : List (S23)) (A1 : Option Addr) (c1 : Nat) (l1 : List (S23)) (r : Int) (w : World) (hr0 : Kd.C k23 w A0 l0.length l0) (hc0 : l0.length ≤ c0) (hr1 : Kd.C k23 w A1 l1.length l1) (hc1 : l1.length ≤ c1) (h : eG.f k l0 l1 = some r) :
  Calls Try.prog 116 #[.slice A0 l0.length c0, .slice A1 l1.length c1] w fun e w' => e = .returned (.int .i64 r) ∧ Below w.heap.size w w' := by
 have HR0 := ah.mk hr0; have HC0 := ah.mk hc0; clear hr0 hc0; have HR1 := ah.mk hr1; have HC1 := ah.mk hc1; clear hr1 hc1; have HB := ah.mk (Below.refl w.heap.size w); have H := h; clear h
 dsimp only [eG.f] at H
 replace H := Option.bind_eq_some_iff.mp H; obtain ⟨t135, A30, H⟩ := H; have A3 := ah.mk A30; clear A30; obtain rfl := Option.some.inj H
 go_enter Try.func116, Try.ntmps116
 go_wp2_with (first | ((with_reducible refine aN (f := 136) rfl ?_); refine bU (some 7) rfl rfl Try.func136 (by kernel_rfl) rfl #[.slice A0 l0.length c0, .slice A1 l1.length c1, .func (.func 137) #[] #[]] rfl zz8 ?_; (with_reducible refine (iH.calls k _ _ l0 _ _ l1  t135 _ ?bO ?bR ?mg ?mU A3.out).mono ?_); (case bO => repeat (first | exact HR0.out | (with_reducible refine Kd.dF ?_ _) | (with_reducible refine Kd.dI ?_ _) | (with_reducible refine Kd.dZ ?_))); (case bR => exact HC0.out); (case mg => repeat (first | exact HR1.out | (with_reducible refine Kd.dF ?_ _) | (with_reducible refine Kd.dI ?_ _) | (with_reducible refine Kd.dZ ?_))); (case mU => exact HC1.out); rintro e w4 ⟨rfl, hb⟩; refine ⟨_, rfl, ?_⟩; replace HB := ah.mk (av zz1 hb); (try clear hb); (try clear hb2); (try clear hk); (try clear hi)))
 go_ret
 exact ⟨zz6, zz1⟩
end Go.Proofs.Ythicocmnefaioaa.QS

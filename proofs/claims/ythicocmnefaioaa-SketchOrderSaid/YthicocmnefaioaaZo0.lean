import Derived.Test.YthicocmnefaioaaZoq
namespace Go.Proofs.Ythicocmnefaioaa.QO
open Go.RowKit Go.Proofs.YthicocmnefaioaaW.dw Go.Proofs.YthicocmnefaioaaW.jA Go.Proofs.YthicocmnefaioaaW.lD
open Go.Proofs.YthicocmnefaioaaW.Sq
attribute [local go_sem] oH oF qQ qP nD nC oG oD
set_option linter.unusedVariables false
set_option linter.unusedSimpArgs false
attribute [local go_sem high] jV
theorem MB : (Try.prog.info? 2).map (fun i => (i.zero, i.size, i.bytes)) = some (some (.int .i64 0), 1, 8) := by kernel_rfl
theorem info3 : (Try.prog.info? 3).map (fun i => (i.zero, i.size, i.bytes)) = some (some (.int .i64 0), 1, 8) := by kernel_rfl
theorem info5 : (Try.prog.info? 5).map (fun i => (i.zero, i.size, i.bytes)) = some (some (.int .u8 0), 1, 1) := by kernel_rfl
theorem info23 : (Try.prog.info? 23).map (fun i => (i.zero, i.size, i.bytes)) = some (some (.agg #[(.int .i64 0), (.int .i64 0), (.string ⟨#[]⟩)]), 3, 32) := by kernel_rfl
theorem sI : (Try.prog.info? 51).map (fun i => (i.zero, i.size, i.bytes)) = some (some (.agg #[(.slice none 0 0), (.int .i64 0)]), 2, 32) := by kernel_rfl
structure S23 where
 f0 : Int
 f1 : Int
 f2 : ByteArray
def z23 : S23 := ⟨(0 : Int), (0 : Int), (⟨#[]⟩ : ByteArray)⟩
def k23 : Kd S23 := Kd.iso (Kd.pair (Kd.int .i64) (Kd.pair (Kd.int .i64) Kd.string)) (fun x : S23 => (x.f0, x.f1, x.f2))
theorem Vn {w : World} {x : S23} {cs : List Value} (h : k23.K w x cs) : cs = [.int .i64 x.f0, .int .i64 x.f1, .string x.f2] := by
 obtain ⟨_, _, rfl, rfl, ⟨_, _, rfl, rfl, rfl⟩⟩ := h; exact rfl
theorem qR (w : World) (base : Nat) (ok : Nat → Prop) (x : S23)  : k23.M w base ok x [.int .i64 x.f0, .int .i64 x.f1, .string x.f2] := ⟨[.int .i64 x.f0], [.int .i64 x.f1, .string x.f2], rfl, rfl, ⟨[.int .i64 x.f1], [.string x.f2], rfl, rfl, rfl⟩⟩
def aN (xs : List S23) (i : Int) : S23 := xs.getD i.toNat z23
theorem mo {w : World} {A : Option Addr} {n : Nat} {xs : List S23} (h : Kd.C k23 w A n xs) (i : Int) (h0 : 0 ≤ i) (h1 : i < n) : ∃ ad , A = some ad ∧ w.cell? (ad.add (i.toNat * 3)) = some (.int .i64 (aN xs i).f0) ∧ w.cell? ⟨(ad.add (i.toNat * 3)).block, (ad.add (i.toNat * 3)).off + 1, none⟩ = some (.int .i64 (aN xs i).f1) ∧ w.cell? ⟨(ad.add (i.toNat * 3)).block, (ad.add (i.toNat * 3)).off + 2, none⟩ = some (.string (aN xs i).f2) := by
 obtain ⟨ad, c, e, _, hK, hc0⟩ := Kd.Oe h z23 i h0 h1; have hc : ∀ j u, c[j]? = some u → w.cell? (ad.add (i.toNat * 3 + j)) = some u := hc0; obtain rfl := Vn hK; exact ⟨ad, e, hc 0 _ rfl, by rw [← Dk _ _ 1 (by omega)]; exact hc 1 _ rfl, by rw [← Dk _ _ 2 (by omega)]; exact hc 2 _ rfl⟩
structure S51 where
 f0 : (List S23)
 f1 : Int
def z51 : S51 := ⟨([] : List S23), (0 : Int)⟩
def k51 : Kd S51 := Kd.iso (Kd.pair (Kd.slice 23 k23) (Kd.int .i64)) (fun x : S51 => (x.f0, x.f1))
theorem Gb {w : World} {x : S51} {cs : List Value} (h : k51.K w x cs) : ∃ A0 c0, cs = [.slice A0 x.f0.length c0, .int .i64 x.f1] ∧ x.f0.length ≤ c0 ∧ k23.C w A0 x.f0.length x.f0 := by
 obtain ⟨_, _, rfl, ⟨A0, c0, rfl, l0, g0⟩, rfl⟩ := h; exact ⟨A0, c0, rfl, l0, g0⟩
theorem uW {w : World} {base : Nat} {ok : Nat → Prop} {x : S51} {cs : List Value} (h : k51.M w base ok x cs) : ∃ v0, cs = [v0, .int .i64 x.f1] ∧ k23.R 23 w base ok v0 x.f0 := by
 obtain ⟨_, _, rfl, ⟨v0, rfl, g0⟩, rfl⟩ := h; exact ⟨v0, rfl, g0⟩
theorem k51_mk (w : World) (x : S51) {A0 : Option Addr} {c0 : Nat} (l0 : x.f0.length ≤ c0) (g0 : k23.C w A0 x.f0.length x.f0) : k51.K w x [.slice A0 x.f0.length c0, .int .i64 x.f1] := ⟨[.slice A0 x.f0.length c0], [.int .i64 x.f1], rfl, ⟨A0, c0, rfl, l0, g0⟩, rfl⟩
theorem RH (w : World) (base : Nat) (ok : Nat → Prop) (x : S51) {v0 : Value} (g0 : k23.R 23 w base ok v0 x.f0) : k51.M w base ok x [v0, .int .i64 x.f1] := ⟨[v0], [.int .i64 x.f1], rfl, ⟨v0, rfl, g0⟩, rfl⟩
theorem iF {W : World} {ok : Nat → Prop} {x : S51} {cs : List Value} (h : Kd.FK k51 W ok x cs) : ∃ A0 c0, cs = [.slice A0 x.f0.length c0, .int .i64 x.f1] ∧ x.f0.length ≤ c0 ∧ Kd.F k23 W ok A0 x.f0.length x.f0 := by
 obtain ⟨A0, c0, rfl, l0, _⟩ := Gb (Kd.yc h); exact ⟨A0, c0, rfl, l0, (fun W' hW => by obtain ⟨A0_, c0_, he, l0_, g0_⟩ := Gb (h W' hW); injection (Option.some.inj (show some (Value.slice A0 x.f0.length c0) = some (Value.slice A0_ x.f0.length c0_) from congrArg (fun l => l[0]?) he)) with ha_ _ _; rw [ha_]; exact g0_)⟩
theorem Au (W : World) (ok : Nat → Prop) (x : S51) {A0 : Option Addr} {c0 : Nat} (l0 : x.f0.length ≤ c0) (g0 : Kd.F k23 W ok A0 x.f0.length x.f0) : Kd.FK k51 W ok x [.slice A0 x.f0.length c0, .int .i64 x.f1] := fun W2 hW => k51_mk W2 x l0 (g0 W2 hW)
def aH (xs : List S51) (i : Int) : S51 := xs.getD i.toNat z51
theorem iR {w : World} {A : Option Addr} {n : Nat} {xs : List S51} (h : Kd.C k51 w A n xs) (i : Int) (h0 : 0 ≤ i) (h1 : i < n) : ∃ ad A0 c0, A = some ad ∧ w.cell? (ad.add (i.toNat * 2)) = some (.slice A0 (aH xs i).f0.length c0) ∧ w.cell? ⟨(ad.add (i.toNat * 2)).block, (ad.add (i.toNat * 2)).off + 1, none⟩ = some (.int .i64 (aH xs i).f1) ∧ (aH xs i).f0.length ≤ c0 ∧ k23.C w A0 (aH xs i).f0.length (aH xs i).f0 := by
 obtain ⟨ad, c, e, _, hK, hc0⟩ := Kd.Oe h z51 i h0 h1; have hc : ∀ j u, c[j]? = some u → w.cell? (ad.add (i.toNat * 2 + j)) = some u := hc0; obtain ⟨A0, c0, rfl, l0, g0⟩ := Gb hK; exact ⟨ad, A0, c0, e, hc 0 _ rfl, by rw [← Dk _ _ 1 (by omega)]; exact hc 1 _ rfl, l0, g0⟩
mutual
def bf.j0 : Nat → Bool → ByteArray → ByteArray → Int → Int → Int → Int → Option (Bool)
 | 0, _, _, _, _, _, _, _ => none
 | k + 1, x28, Jl, Jk, Jj, tJ, Ji, Ed => if x28 = true then (some false) else (if tJ = 0 then (bf.j1 k tJ (tJ == 0) Jl Jk Jj tJ Ji Ed) else (bf.j1 k tJ (tJ == 1) Jl Jk Jj tJ Ji Ed))
def bf.j1 : Nat → Int → Bool → ByteArray → ByteArray → Int → Int → Int → Int → Option (Bool)
 | 0, _, _, _, _, _, _, _, _ => none
 | k + 1, x30, x31, Jl, Jk, Jj, tJ, Ji, Ed => if x31 = true then (some true) else (if x30 = 2 then (some (Ed == 1)) else (some false))
end
def bf.f (k : Nat) (aX : ByteArray) (aU : ByteArray) (aY : Int) (bJ : Int) (bI : Int) (bK : Int) : Option (Bool) := if bI < 1 then (bf.j0 k true aX aU aY bJ bI bK) else (if bI > 1024 then (bf.j0 k true aX aU aY bJ bI bK) else (if bK < 1 then (bf.j0 k true aX aU aY bJ bI bK) else (if bK > 8 then (bf.j0 k true aX aU aY bJ bI bK) else (bf.j0 k (decide ((wrap64 (bI * bK)) > 1024)) aX aU aY bJ bI bK))))
theorem bf.gM : ∀ k, (∀ y0 y1 y2 y3 y4 y5 y6, LeO (bf.j0 k y0 y1 y2 y3 y4 y5 y6) (bf.j0 (k + 1) y0 y1 y2 y3 y4 y5 y6)) ∧ (∀ y0 y1 y2 y3 y4 y5 y6 y7, LeO (bf.j1 k y0 y1 y2 y3 y4 y5 y6 y7) (bf.j1 (k + 1) y0 y1 y2 y3 y4 y5 y6 y7))
 | 0 => ⟨fun _ _ _ _ _ _ _ r h => by simp [bf.j0] at h, fun _ _ _ _ _ _ _ _ r h => by simp [bf.j1] at h⟩
 | k + 1 => by
  obtain ⟨ih0, ih1⟩ := bf.gM k; refine ⟨?_, ?_⟩
  ·intro y0 y1 y2 y3 y4 y5 y6; unfold bf.j0
   repeat' first
   | (with_reducible exact ih0 _ _ _ _ _ _ _)
   | (with_reducible exact ih1 _ _ _ _ _ _ _ _)
   | (with_reducible exact LeO.refl _)
   | (with_reducible exact LeO.none _)
   | (with_reducible refine LeO.ite ?_ ?_)
   | (with_reducible refine LeO.bind ?_ (fun _ => ?_))
   | exact ih0 _ _ _ _ _ _ _
   | exact ih1 _ _ _ _ _ _ _ _
   | exact LeO.none _
   | refine LeO.ite ?_ ?_
   | refine LeO.bind ?_ (fun _ => ?_)
  ·intro y0 y1 y2 y3 y4 y5 y6 y7; unfold bf.j1
   repeat' first
   | (with_reducible exact ih0 _ _ _ _ _ _ _)
   | (with_reducible exact ih1 _ _ _ _ _ _ _ _)
   | (with_reducible exact LeO.refl _)
   | (with_reducible exact LeO.none _)
   | (with_reducible refine LeO.ite ?_ ?_)
   | (with_reducible refine LeO.bind ?_ (fun _ => ?_))
   | exact ih0 _ _ _ _ _ _ _
   | exact ih1 _ _ _ _ _ _ _ _
   | exact LeO.none _
   | refine LeO.ite ?_ ?_
   | refine LeO.bind ?_ (fun _ => ?_)
theorem bf.mono : ∀ a0 a1 a2 a3 a4 a5 k, LeO (bf.f k a0 a1 a2 a3 a4 a5) (bf.f (k + 1) a0 a1 a2 a3 a4 a5) := by
 intro a0 a1 a2 a3 a4 a5 k; obtain ⟨ih0, ih1⟩ := bf.gM k; unfold bf.f
 repeat' first
   | (with_reducible exact ih0 _ _ _ _ _ _ _)
   | (with_reducible exact ih1 _ _ _ _ _ _ _ _)
   | (with_reducible exact LeO.refl _)
   | (with_reducible exact LeO.none _)
   | (with_reducible refine LeO.ite ?_ ?_)
   | (with_reducible refine LeO.bind ?_ (fun _ => ?_))
   | exact ih0 _ _ _ _ _ _ _
   | exact ih1 _ _ _ _ _ _ _ _
   | exact LeO.none _
   | refine LeO.ite ?_ ?_
   | refine LeO.bind ?_ (fun _ => ?_)
set_option maxHeartbeats 8000000 in
set_option maxRecDepth 100000 in
theorem bf.calls (k : Nat) (aX : ByteArray) (aU : ByteArray) (aY : Int) (bJ : Int) (bI : Int) (bK : Int) (r : Bool) (w : World) (h : bf.f k aX aU aY bJ bI bK = some r) :
  Calls Try.prog 55 #[.agg #[.string aX, .string aU, .int .i64 aY, .int .i64 bJ, .int .i64 bI, .int .i64 bK]] w fun e w' => e = .returned (.bool r) ∧ Below w.heap.size w w' := by
 have D8 := Try.underlying30; have HB := ah.mk (Below.refl w.heap.size w); have H := h; clear h
 dsimp only [bf.f] at H
 have HC2 := ah.mk H; clear H
 go_enter Try.func55, Try.ntmps55
 go_upto_region 1 with (first | ((with_reducible refine bD (N := 1) rfl ?_); refine bq ?hg (N := 1) ?hd (cs := #[.string aX, .string aU, .int .i64 aY, .int .i64 bJ, .int .i64 bI, .int .i64 bK]) (t := 30) ?hr ?_; (case hd => rfl); (case hg => rfl); (case hr => first | (go_simp; done) | (go_simp; rfl)); intro au hg w3 bF hb; have ak := ah.mk (bF); have fO := ah.mk ((zz0 : w.heap.size ≤ au)); have fD := ah.mk ((zz0 : w.heap.size ≤ au)); replace HB := ah.mk (aA zz1 hb); clear hb bF hg))
 (try simp only [Act.put, List.setIfInBounds_toArray, List.set_cons_zero, List.set_cons_succ])
 go_cut [28] (fun v28 wc => ∃ (kq : Nat) (Q9 : Bool), v28 = .bool Q9 ∧ ah (bf.j0 kq Q9 aX aU aY bJ bI bK = some r) ∧ ah (kq ≤ k) ∧ ah (wc.heap[au]? = some (.cells #[.string aX, .string aU, .int .i64 aY, .int .i64 bJ, .int .i64 bI, .int .i64 bK] 30 (0, 0))) ∧ ah (Below w.heap.size w wc))
 case first =>
  have H := HC2.out; clear HC2
  by_cases c4 : bI < 1
  ·rw [if_pos c4] at H; have lI : decide (bI < 1) = true := decide_eq_true c4; clear c4; (first | rw [lI] | (simp only [dJ, eu]; rw [lI]) | skip); have H' := ah.mk H; clear H; have Dh : w3.cell? ⟨au, 0, none⟩ = some (.string aX) := cK ak 0; have Dg : w3.cell? ⟨au, 1, none⟩ = some (.string aU) := cK ak 1; have Df : w3.cell? ⟨au, 2, none⟩ = some (.int .i64 aY) := cK ak 2; have VQ : w3.cell? ⟨au, 3, none⟩ = some (.int .i64 bJ) := cK ak 3; have VP : w3.cell? ⟨au, 4, none⟩ = some (.int .i64 bI) := cK ak 4; have VO : w3.cell? ⟨au, 5, none⟩ = some (.int .i64 bK) := cK ak 5; have Dc := aj ak.out 0; have Db := aj ak.out 1; have Da := aj ak.out 2; have VE := aj ak.out 3; have VD := aj ak.out 4; have VB := aj ak.out 5
   go_wp2
   go_meet
   case rel => exact ⟨_, (true), zz2, H', ⟨zz3⟩, ⟨zz4⟩, ⟨zz5⟩⟩
  ·rw [if_neg c4] at H; have lI : decide (bI < 1) = false := decide_eq_false c4; clear c4; (first | rw [lI] | (simp only [dJ, eu]; rw [lI]) | skip)
   by_cases c6 : bI > 1024
   ·rw [if_pos c6] at H; have qD : decide (1024 < bI) = true := decide_eq_true c6; clear c6; have H' := ah.mk H; clear H; have uP : w3.cell? ⟨au, 0, none⟩ = some (.string aX) := cK ak 0; have uO : w3.cell? ⟨au, 1, none⟩ = some (.string aU) := cK ak 1; have xQ : w3.cell? ⟨au, 2, none⟩ = some (.int .i64 aY) := cK ak 2; have VN : w3.cell? ⟨au, 3, none⟩ = some (.int .i64 bJ) := cK ak 3; have VL : w3.cell? ⟨au, 4, none⟩ = some (.int .i64 bI) := cK ak 4; have VK : w3.cell? ⟨au, 5, none⟩ = some (.int .i64 bK) := cK ak 5; have xO := aj ak.out 0; have uL := aj ak.out 1; have xM := aj ak.out 2; have VA := aj ak.out 3; have Vz := aj ak.out 4; have Vy := aj ak.out 5
    go_wp2
    go_meet
    case rel => exact ⟨_, (true), zz2, H', ⟨zz3⟩, ⟨zz4⟩, ⟨zz5⟩⟩
   ·rw [if_neg c6] at H; have qD : decide (1024 < bI) = false := decide_eq_false c6; clear c6
    by_cases c8 : bK < 1
    ·rw [if_pos c8] at H; have oq : decide (bK < 1) = true := decide_eq_true c8; clear c8; have H' := ah.mk H; clear H; have uN : w3.cell? ⟨au, 0, none⟩ = some (.string aX) := cK ak 0; have uM : w3.cell? ⟨au, 1, none⟩ = some (.string aU) := cK ak 1; have wm : w3.cell? ⟨au, 2, none⟩ = some (.int .i64 aY) := cK ak 2; have P7 : w3.cell? ⟨au, 3, none⟩ = some (.int .i64 bJ) := cK ak 3; have P6 : w3.cell? ⟨au, 4, none⟩ = some (.int .i64 bI) := cK ak 4; have P5 : w3.cell? ⟨au, 5, none⟩ = some (.int .i64 bK) := cK ak 5; have uK := aj ak.out 0; have uJ := aj ak.out 1; have vX := aj ak.out 2; have PX := aj ak.out 3; have PW := aj ak.out 4; have PV := aj ak.out 5
     go_wp2
     go_meet
     case rel => exact ⟨_, (true), zz2, H', ⟨zz3⟩, ⟨zz4⟩, ⟨zz5⟩⟩
    ·rw [if_neg c8] at H; have oq : decide (bK < 1) = false := decide_eq_false c8; clear c8
     by_cases c10 : bK > 8
     ·rw [if_pos c10] at H; have wT : decide (8 < bK) = true := decide_eq_true c10; clear c10; have H' := ah.mk H; clear H; have pE : w3.cell? ⟨au, 0, none⟩ = some (.string aX) := cK ak 0; have pz : w3.cell? ⟨au, 1, none⟩ = some (.string aU) := cK ak 1; have pq : w3.cell? ⟨au, 2, none⟩ = some (.int .i64 aY) := cK ak 2; have wB : w3.cell? ⟨au, 3, none⟩ = some (.int .i64 bJ) := cK ak 3; have wu : w3.cell? ⟨au, 4, none⟩ = some (.int .i64 bI) := cK ak 4; have wo : w3.cell? ⟨au, 5, none⟩ = some (.int .i64 bK) := cK ak 5; have oU := aj ak.out 0; have oQ := aj ak.out 1; have oP := aj ak.out 2; have wh := aj ak.out 3; have vZ := aj ak.out 4; have vY := aj ak.out 5
      go_wp2
      go_meet
      case rel => exact ⟨_, (true), zz2, H', ⟨zz3⟩, ⟨zz4⟩, ⟨zz5⟩⟩
     ·rw [if_neg c10] at H; have wT : decide (8 < bK) = false := decide_eq_false c10; clear c10; have H' := ah.mk H; clear H; have nK : w3.cell? ⟨au, 0, none⟩ = some (.string aX) := cK ak 0; have nJ : w3.cell? ⟨au, 1, none⟩ = some (.string aU) := cK ak 1; have nI : w3.cell? ⟨au, 2, none⟩ = some (.int .i64 aY) := cK ak 2; have uq : w3.cell? ⟨au, 3, none⟩ = some (.int .i64 bJ) := cK ak 3; have uo : w3.cell? ⟨au, 4, none⟩ = some (.int .i64 bI) := cK ak 4; have um : w3.cell? ⟨au, 5, none⟩ = some (.int .i64 bK) := cK ak 5; have nH := aj ak.out 0; have nG := aj ak.out 1; have nE := aj ak.out 2; have uj := aj ak.out 3; have uh := aj ak.out 4; have ug := aj ak.out 5
      go_wp2
      go_meet
      case rel => exact ⟨_, (decide ((wrap64 (bI * bK)) > 1024)), zz2, H', ⟨zz3⟩, ⟨zz4⟩, ⟨zz5⟩⟩
 case rest =>
  clear HC2; (try clear c1); (try clear p2); (try clear c4); (try clear lI); (try clear c5); (try clear c6); (try clear qD); (try clear p6); (try clear c8); (try clear oq); (try clear c10); (try clear wT); (try clear pE); (try clear pz); (try clear pq); (try clear wB); (try clear wu); (try clear wo); (try clear nK); (try clear nJ); (try clear nI); (try clear uq); (try clear uo); (try clear um); (try clear Dh); (try clear Dg); (try clear Df); (try clear VQ); (try clear VP); (try clear VO); (try clear uP); (try clear uO); (try clear xQ); (try clear VN); (try clear VL); (try clear VK); (try clear uN); (try clear uM); (try clear wm); (try clear P7); (try clear P6); (try clear P5); (try clear oU); (try clear oQ); (try clear oP); (try clear wh); (try clear vZ); (try clear vY); (try clear nH); (try clear nG); (try clear nE); (try clear uj); (try clear uh); (try clear ug); (try clear Dc); (try clear Db); (try clear Da); (try clear VE); (try clear VD); (try clear VB); (try clear xO); (try clear uL); (try clear xM); (try clear VA); (try clear Vz); (try clear Vy); (try clear uK); (try clear uJ); (try clear vX); (try clear PX); (try clear PW); (try clear PV); obtain ⟨kq, Q9, rfl, HA, HJ1, ak, HB⟩ := hcut
  cases kq with
  | zero => exact absurd HA.out (by simp [bf.j0])
  | succ kj1 =>
   have H := HA.out; clear HA; simp only [bf.j0] at H
   by_cases c13 : Q9 = true
   ·subst c13; rw [if_pos rfl] at H; obtain rfl := Option.some.inj H
    go_wp2
    go_ret
    exact ⟨zz6, zz5⟩
   ·replace c13 := Bool.eq_false_iff.mpr c13; subst c13; rw [if_neg (show ¬ (false = true) by decide)] at H; have HC14 := ah.mk H; clear H; have La : wc.cell? ⟨au, 0, none⟩ = some (.string aX) := cK ak 0; have K9 : wc.cell? ⟨au, 1, none⟩ = some (.string aU) := cK ak 1; have K8 : wc.cell? ⟨au, 2, none⟩ = some (.int .i64 aY) := cK ak 2; have aac : wc.cell? ⟨au, 3, none⟩ = some (.int .i64 bJ) := cK ak 3; have Z9 : wc.cell? ⟨au, 4, none⟩ = some (.int .i64 bI) := cK ak 4; have Z8 : wc.cell? ⟨au, 5, none⟩ = some (.int .i64 bK) := cK ak 5; have KF := aj ak.out 0; have KE := aj ak.out 1; have KD := aj ak.out 2; have Zm := aj ak.out 3; have Zl := aj ak.out 4; have Zk := aj ak.out 5
    go_upto_if 31 with (fail)
    go_cut [31] (fun v31 wc => ∃ (kq : Nat) (Jg : Bool), v31 = .bool Jg ∧ ah (bf.j1 kq bJ Jg aX aU aY bJ bI bK = some r) ∧ ah (kq ≤ kj1) ∧ ah (wc.heap[au]? = some (.cells #[.string aX, .string aU, .int .i64 aY, .int .i64 bJ, .int .i64 bI, .int .i64 bK] 30 (0, 0))) ∧ ah (Below w.heap.size w wc))
    case first =>
     have H := HC14.out; clear HC14
     by_cases c16 : bJ = 0
     ·rw [if_pos c16] at H; have l8 : (bJ == 0) = true := beq_iff_eq.mpr c16; have wS : (bJ != 0) = false := bne_eq_false_iff_eq.mpr c16; clear c16; (first | rw [l8] | (simp only [dJ, eu]; rw [l8]) | skip); have H' := ah.mk H; clear H
      go_wp2
      go_meet
      case rel => exact ⟨_, ((bJ == 0)), zz2, H', ⟨by have := HJ1.out; first | omega | exact Nat.le_refl _⟩, ⟨zz4⟩, ⟨zz5⟩⟩
     ·rw [if_neg c16] at H; have l8 : (bJ == 0) = false := beq_eq_false_iff_ne.mpr c16; have wS : (bJ != 0) = true := bne_iff_ne.mpr c16; (first | rw [l8] | (simp only [dJ, eu]; rw [l8]) | skip); have H' := ah.mk H; clear H
      go_wp2
      go_meet
      case rel => exact ⟨_, ((bJ == 1)), zz2, H', ⟨by have := HJ1.out; first | omega | exact Nat.le_refl _⟩, ⟨zz4⟩, ⟨zz5⟩⟩
    case rest =>
     clear HC14; (try clear c1); (try clear p2); (try clear c4); (try clear lI); (try clear c5); (try clear c6); (try clear qD); (try clear p6); (try clear c8); (try clear oq); (try clear c10); (try clear wT); (try clear c13); (try clear c16); (try clear l8); (try clear wS); (try clear pE); (try clear pz); (try clear pq); (try clear wB); (try clear wu); (try clear wo); (try clear nK); (try clear nJ); (try clear nI); (try clear uq); (try clear uo); (try clear um); (try clear La); (try clear K9); (try clear K8); (try clear aac); (try clear Z9); (try clear Z8); (try clear Dh); (try clear Dg); (try clear Df); (try clear VQ); (try clear VP); (try clear VO); (try clear uP); (try clear uO); (try clear xQ); (try clear VN); (try clear VL); (try clear VK); (try clear uN); (try clear uM); (try clear wm); (try clear P7); (try clear P6); (try clear P5); (try clear oU); (try clear oQ); (try clear oP); (try clear wh); (try clear vZ); (try clear vY); (try clear nH); (try clear nG); (try clear nE); (try clear uj); (try clear uh); (try clear ug); (try clear KF); (try clear KE); (try clear KD); (try clear Zm); (try clear Zl); (try clear Zk); (try clear Dc); (try clear Db); (try clear Da); (try clear VE); (try clear VD); (try clear VB); (try clear xO); (try clear uL); (try clear xM); (try clear VA); (try clear Vz); (try clear Vy); (try clear uK); (try clear uJ); (try clear vX); (try clear PX); (try clear PW); (try clear PV); (try clear p2); (try clear p6); obtain ⟨kq, Jg, rfl, HA, HJ13, ak, HB⟩ := hcut
     cases kq with
     | zero => exact absurd HA.out (by simp [bf.j1])
     | succ kj13 =>
      have H := HA.out; clear HA; simp only [bf.j1] at H
      by_cases c17 : Jg = true
      ·subst c17; rw [if_pos rfl] at H; obtain rfl := Option.some.inj H
       go_wp2
       go_ret
       exact ⟨zz6, zz5⟩
      ·replace c17 := Bool.eq_false_iff.mpr c17; subst c17; rw [if_neg (show ¬ (false = true) by decide)] at H
       by_cases c18 : bJ = 2
       ·rw [if_pos c18] at H; have IU : (bJ == 2) = true := beq_iff_eq.mpr c18; have Wn : (bJ != 2) = false := bne_eq_false_iff_eq.mpr c18; clear c18; obtain rfl := Option.some.inj H; have zh : wc.cell? ⟨au, 0, none⟩ = some (.string aX) := cK ak 0; have zf : wc.cell? ⟨au, 1, none⟩ = some (.string aU) := cK ak 1; have ze : wc.cell? ⟨au, 2, none⟩ = some (.int .i64 aY) := cK ak 2; have Co : wc.cell? ⟨au, 3, none⟩ = some (.int .i64 bJ) := cK ak 3; have Cn : wc.cell? ⟨au, 4, none⟩ = some (.int .i64 bI) := cK ak 4; have Cm : wc.cell? ⟨au, 5, none⟩ = some (.int .i64 bK) := cK ak 5; have yP := aj ak.out 0; have yO := aj ak.out 1; have yN := aj ak.out 2; have Ca := aj ak.out 3; have BZ := aj ak.out 4; have BX := aj ak.out 5
        go_wp2
        go_ret
        exact ⟨zz6, zz5⟩
       ·rw [if_neg c18] at H; have IU : (bJ == 2) = false := beq_eq_false_iff_ne.mpr c18; have Wn : (bJ != 2) = true := bne_iff_ne.mpr c18; obtain rfl := Option.some.inj H
        go_wp2
        go_ret
        exact ⟨zz6, zz5⟩
def mG.f (a0 : Int) : Option (Bool) := if a0 ≥ (-4294967296) then (some (decide (a0 ≤ 4294967296))) else (some false)
set_option maxHeartbeats 8000000 in
set_option maxRecDepth 100000 in
theorem mG.calls (a0 : Int) (r : Bool) (w : World) (h : mG.f a0 = some r) :
  Calls Try.prog 99 #[.int .i64 a0] w fun e w' => e = .returned (.bool r) ∧ l5 w w' := by
 have H := h; clear h
 dsimp only [mG.f] at H
 by_cases c2 : a0 ≥ (-4294967296)
 ·rw [if_pos c2] at H; have pK : decide ((-4294967296) ≤ a0) = true := decide_eq_true c2; clear c2; obtain rfl := Option.some.inj H
  go_enter Try.func99, Try.ntmps99
  go_wp2
  go_ret
  exact ⟨zz2, zz7⟩
 ·rw [if_neg c2] at H; have pK : decide ((-4294967296) ≤ a0) = false := decide_eq_false c2; clear c2; obtain rfl := Option.some.inj H
  go_enter Try.func99, Try.ntmps99
  go_wp2
  go_ret
  exact ⟨zz2, zz7⟩
def iM.f (aX : Int) (aU : Int) (aY : ByteArray) : Option (Bool) := if aX = 0 then (if aU = 0 then (some (aY.toList == ([] : List UInt8))) else (some false)) else (if aX = 1 then ((mG.f aU).bind fun t103 => (if t103 = true then (some (aY.toList == ([] : List UInt8))) else (some false))) else (if aX = 2 then (if aU = 0 then (some (decide ((aY.size : Int) ≤ 32))) else (some false)) else (some false)))
set_option maxHeartbeats 8000000 in
set_option maxRecDepth 100000 in
theorem iM.calls (aX : Int) (aU : Int) (aY : ByteArray) (r : Bool) (w : World) (h : iM.f aX aU aY = some r) :
  Calls Try.prog 69 #[.agg #[.int .i64 aX, .int .i64 aU, .string aY]] w fun e w' => e = .returned (.bool r) ∧ Below w.heap.size w w' := by
 have sJ := Try.underlying23; have HB := ah.mk (Below.refl w.heap.size w); have H := h; clear h
 dsimp only [iM.f] at H
 by_cases c2 : aX = 0
 ·rw [if_pos c2] at H; have pK : (aX == 0) = true := beq_iff_eq.mpr c2; have Dj : (aX != 0) = false := bne_eq_false_iff_eq.mpr c2; clear c2
  by_cases c3 : aU = 0
  ·rw [if_pos c3] at H; have tH : (aU == 0) = true := beq_iff_eq.mpr c3; have Ik : (aU != 0) = false := bne_eq_false_iff_eq.mpr c3; clear c3; obtain rfl := Option.some.inj H
   go_enter Try.func69, Try.ntmps69
   go_wp2_with (first | ((with_reducible refine bD (N := 1) rfl ?_); (try (refine gF (by rfl) ?_; dsimp only)); refine bq ?hg (N := 1) ?hd (cs := #[.int .i64 aX, .int .i64 aU, .string aY]) (t := 23) ?hr ?_; (case hd => rfl); (case hg => rfl); (case hr => first | (go_simp; done) | (go_simp; rfl)); intro au hg w4 bF hb; have ak := ah.mk (bF); have fO := ah.mk ((zz0 : w.heap.size ≤ au)); have fD := ah.mk ((zz0 : w.heap.size ≤ au)); replace HB := ah.mk (aA zz1 hb); clear hb bF hg; have Dh : w4.cell? ⟨au, 0, none⟩ = some (.int .i64 aX) := cK ak 0; have Dg : w4.cell? ⟨au, 1, none⟩ = some (.int .i64 aU) := cK ak 1; have Df : w4.cell? ⟨au, 2, none⟩ = some (.string aY) := cK ak 2; have Dc := aj ak.out 0; have Db := aj ak.out 1; have Da := aj ak.out 2))
   go_ret
   exact ⟨zz6, zz5⟩
  ·rw [if_neg c3] at H; have tH : (aU == 0) = false := beq_eq_false_iff_ne.mpr c3; have Ik : (aU != 0) = true := bne_iff_ne.mpr c3; obtain rfl := Option.some.inj H
   go_enter Try.func69, Try.ntmps69
   go_wp2_with (first | ((with_reducible refine bD (N := 1) rfl ?_); (try (refine gF (by rfl) ?_; dsimp only)); refine bq ?hg (N := 1) ?hd (cs := #[.int .i64 aX, .int .i64 aU, .string aY]) (t := 23) ?hr ?_; (case hd => rfl); (case hg => rfl); (case hr => first | (go_simp; done) | (go_simp; rfl)); intro au hg w6 bF hb; have ak := ah.mk (bF); have fO := ah.mk ((zz0 : w.heap.size ≤ au)); have fD := ah.mk ((zz0 : w.heap.size ≤ au)); replace HB := ah.mk (aA zz1 hb); clear hb bF hg; have uP : w6.cell? ⟨au, 0, none⟩ = some (.int .i64 aX) := cK ak 0; have uO : w6.cell? ⟨au, 1, none⟩ = some (.int .i64 aU) := cK ak 1; have xQ : w6.cell? ⟨au, 2, none⟩ = some (.string aY) := cK ak 2; have xO := aj ak.out 0; have uL := aj ak.out 1; have xM := aj ak.out 2))
   go_ret
   exact ⟨zz6, zz5⟩
 ·rw [if_neg c2] at H; have pK : (aX == 0) = false := beq_eq_false_iff_ne.mpr c2; have Dj : (aX != 0) = true := bne_iff_ne.mpr c2
  by_cases c8 : aX = 1
  ·rw [if_pos c8] at H; have oq : (aX == 1) = true := beq_iff_eq.mpr c8; have Ea : (aX != 1) = false := bne_eq_false_iff_eq.mpr c8; clear c8; replace H := Option.bind_eq_some_iff.mp H; obtain ⟨t103, A90, H⟩ := H; have A9 := ah.mk A90; clear A90
   by_cases c10 : t103 = true
   ·subst c10; rw [if_pos rfl] at H; obtain rfl := Option.some.inj H
    go_enter Try.func69, Try.ntmps69
    go_wp2_with (first | ((with_reducible refine bD (N := 1) rfl ?_); (try (refine gF (by rfl) ?_; dsimp only)); refine bq ?hg (N := 1) ?hd (cs := #[.int .i64 aX, .int .i64 aU, .string aY]) (t := 23) ?hr ?_; (case hd => rfl); (case hg => rfl); (case hr => first | (go_simp; done) | (go_simp; rfl)); intro au hg w11 bF hb; have ak := ah.mk (bF); have fO := ah.mk ((zz0 : w.heap.size ≤ au)); have fD := ah.mk ((zz0 : w.heap.size ≤ au)); replace HB := ah.mk (aA zz1 hb); clear hb bF hg; have nK : w11.cell? ⟨au, 0, none⟩ = some (.int .i64 aX) := cK ak 0; have nJ : w11.cell? ⟨au, 1, none⟩ = some (.int .i64 aU) := cK ak 1; have nI : w11.cell? ⟨au, 2, none⟩ = some (.string aY) := cK ak 2; have nH := aj ak.out 0; have nG := aj ak.out 1; have nE := aj ak.out 2) | ((with_reducible refine aT (f := 99) rfl ?_); refine cu (some 19) rfl rfl Try.func99 (by kernel_rfl) rfl #[.int .i64 aU] rfl zz8 ?_; (with_reducible refine (mG.calls aU true _ A9.out).mono ?_); rintro e w' ⟨rfl, ⟨nd, rfl⟩⟩; refine ⟨_, rfl, ?_⟩))
    go_ret
    exact ⟨zz6, zz5⟩
   ·replace c10 := Bool.eq_false_iff.mpr c10; subst c10; rw [if_neg (show ¬ (false = true) by decide)] at H; obtain rfl := Option.some.inj H
    go_enter Try.func69, Try.ntmps69
    go_wp2_with (first | ((with_reducible refine bD (N := 1) rfl ?_); (try (refine gF (by rfl) ?_; dsimp only)); refine bq ?hg (N := 1) ?hd (cs := #[.int .i64 aX, .int .i64 aU, .string aY]) (t := 23) ?hr ?_; (case hd => rfl); (case hg => rfl); (case hr => first | (go_simp; done) | (go_simp; rfl)); intro au hg w13 bF hb; have ak := ah.mk (bF); have fO := ah.mk ((zz0 : w.heap.size ≤ au)); have fD := ah.mk ((zz0 : w.heap.size ≤ au)); replace HB := ah.mk (aA zz1 hb); clear hb bF hg; have o9 : w13.cell? ⟨au, 0, none⟩ = some (.int .i64 aX) := cK ak 0; have o8 : w13.cell? ⟨au, 1, none⟩ = some (.int .i64 aU) := cK ak 1; have o7 : w13.cell? ⟨au, 2, none⟩ = some (.string aY) := cK ak 2; have oO := aj ak.out 0; have oM := aj ak.out 1; have oL := aj ak.out 2) | ((with_reducible refine aT (f := 99) rfl ?_); refine cu (some 19) rfl rfl Try.func99 (by kernel_rfl) rfl #[.int .i64 aU] rfl zz8 ?_; (with_reducible refine (mG.calls aU false _ A9.out).mono ?_); rintro e w' ⟨rfl, ⟨nd, rfl⟩⟩; refine ⟨_, rfl, ?_⟩))
    go_ret
    exact ⟨zz6, zz5⟩
  ·rw [if_neg c8] at H; have oq : (aX == 1) = false := beq_eq_false_iff_ne.mpr c8; have Ea : (aX != 1) = true := bne_iff_ne.mpr c8
   by_cases c15 : aX = 2
   ·rw [if_pos c15] at H; have IV : (aX == 2) = true := beq_iff_eq.mpr c15; have Tv : (aX != 2) = false := bne_eq_false_iff_eq.mpr c15; clear c15
    by_cases c16 : aU = 0
    ·rw [if_pos c16] at H; have l8 : (aU == 0) = true := beq_iff_eq.mpr c16; have wS : (aU != 0) = false := bne_eq_false_iff_eq.mpr c16; clear c16; obtain rfl := Option.some.inj H
     go_enter Try.func69, Try.ntmps69
     go_wp2_with (first | ((with_reducible refine bD (N := 1) rfl ?_); (try (refine gF (by rfl) ?_; dsimp only)); refine bq ?hg (N := 1) ?hd (cs := #[.int .i64 aX, .int .i64 aU, .string aY]) (t := 23) ?hr ?_; (case hd => rfl); (case hg => rfl); (case hr => first | (go_simp; done) | (go_simp; rfl)); intro au hg w17 bF hb; have ak := ah.mk (bF); have fO := ah.mk ((zz0 : w.heap.size ≤ au)); have fD := ah.mk ((zz0 : w.heap.size ≤ au)); replace HB := ah.mk (aA zz1 hb); clear hb bF hg; have zk : w17.cell? ⟨au, 0, none⟩ = some (.int .i64 aX) := cK ak 0; have zi : w17.cell? ⟨au, 1, none⟩ = some (.int .i64 aU) := cK ak 1; have Cq : w17.cell? ⟨au, 2, none⟩ = some (.string aY) := cK ak 2; have Cc := aj ak.out 0; have yQ := aj ak.out 1; have Cb := aj ak.out 2))
     go_ret
     exact ⟨zz6, zz5⟩
    ·rw [if_neg c16] at H; have l8 : (aU == 0) = false := beq_eq_false_iff_ne.mpr c16; have wS : (aU != 0) = true := bne_iff_ne.mpr c16; obtain rfl := Option.some.inj H
     go_enter Try.func69, Try.ntmps69
     go_wp2_with (first | ((with_reducible refine bD (N := 1) rfl ?_); (try (refine gF (by rfl) ?_; dsimp only)); refine bq ?hg (N := 1) ?hd (cs := #[.int .i64 aX, .int .i64 aU, .string aY]) (t := 23) ?hr ?_; (case hd => rfl); (case hg => rfl); (case hr => first | (go_simp; done) | (go_simp; rfl)); intro au hg w19 bF hb; have ak := ah.mk (bF); have fO := ah.mk ((zz0 : w.heap.size ≤ au)); have fD := ah.mk ((zz0 : w.heap.size ≤ au)); replace HB := ah.mk (aA zz1 hb); clear hb bF hg; have oZ : w19.cell? ⟨au, 0, none⟩ = some (.int .i64 aX) := cK ak 0; have oW : w19.cell? ⟨au, 1, none⟩ = some (.int .i64 aU) := cK ak 1; have rO : w19.cell? ⟨au, 2, none⟩ = some (.string aY) := cK ak 2; have qx := aj ak.out 0; have oK := aj ak.out 1; have rG := aj ak.out 2))
     go_ret
     exact ⟨zz6, zz5⟩
   ·rw [if_neg c15] at H; have IV : (aX == 2) = false := beq_eq_false_iff_ne.mpr c15; have Tv : (aX != 2) = true := bne_iff_ne.mpr c15; obtain rfl := Option.some.inj H
    go_enter Try.func69, Try.ntmps69
    go_wp2_with (first | ((with_reducible refine bD (N := 1) rfl ?_); (try (refine gF (by rfl) ?_; dsimp only)); refine bq ?hg (N := 1) ?hd (cs := #[.int .i64 aX, .int .i64 aU, .string aY]) (t := 23) ?hr ?_; (case hd => rfl); (case hg => rfl); (case hr => first | (go_simp; done) | (go_simp; rfl)); intro au hg w21 bF hb; have ak := ah.mk (bF); have fO := ah.mk ((zz0 : w.heap.size ≤ au)); have fD := ah.mk ((zz0 : w.heap.size ≤ au)); replace HB := ah.mk (aA zz1 hb); clear hb bF hg; have Fx : w21.cell? ⟨au, 0, none⟩ = some (.int .i64 aX) := cK ak 0; have Fw : w21.cell? ⟨au, 1, none⟩ = some (.int .i64 aU) := cK ak 1; have Fv : w21.cell? ⟨au, 2, none⟩ = some (.string aY) := cK ak 2; have ET := aj ak.out 0; have ES := aj ak.out 1; have ER := aj ak.out 2))
    go_ret
    exact ⟨zz6, zz5⟩
def dH.l0 : Nat → List (S23) → List (S23) → Int → Int → Option (Bool)
 | 0, _, _, _, _ => none
 | k + 1, x0, x5, x6, x7 => if x7 < x6 then (if 0 ≤ x7 then (if x7 < (x5.length : Int) then ((iM.f ((aN x5 x7).f0) ((aN x5 x7).f1) ((aN x5 x7).f2)).bind fun t106 => (if t106 = true then (dH.l0 k x0 x5 x6 (wrap64 (x7 + 1))) else (some false))) else (none)) else (none)) else (some (decide ((x0.length : Int) ≤ 16)))
def dH.f (k : Nat) (l0 : List (S23)) : Option (Bool) := dH.l0 k l0 l0 (l0.length : Int) 0
theorem dH.gM : ∀ k, (∀ y0 y1 y2 y3, LeO (dH.l0 k y0 y1 y2 y3) (dH.l0 (k + 1) y0 y1 y2 y3))
 | 0 => fun _ _ _ _ r h => by simp [dH.l0] at h
 | k + 1 => by
  have ih0 := dH.gM k
  ·intro y0 y1 y2 y3; unfold dH.l0
   repeat' first
   | (with_reducible exact ih0 _ _ _ _)
   | (with_reducible exact LeO.refl _)
   | (with_reducible exact LeO.none _)
   | (with_reducible refine LeO.ite ?_ ?_)
   | (with_reducible refine LeO.bind ?_ (fun _ => ?_))
   | exact ih0 _ _ _ _
   | exact LeO.none _
   | refine LeO.ite ?_ ?_
   | refine LeO.bind ?_ (fun _ => ?_)
theorem dH.mono : ∀ a0 k, LeO (dH.f k a0) (dH.f (k + 1) a0) := by
 intro a0 k; have ih0 := dH.gM k; unfold dH.f
 repeat' first
   | (with_reducible exact ih0 _ _ _ _)
   | (with_reducible exact LeO.refl _)
   | (with_reducible exact LeO.none _)
   | (with_reducible refine LeO.ite ?_ ?_)
   | (with_reducible refine LeO.bind ?_ (fun _ => ?_))
   | exact ih0 _ _ _ _
   | exact LeO.none _
   | refine LeO.ite ?_ ?_
   | refine LeO.bind ?_ (fun _ => ?_)
set_option maxHeartbeats 8000000 in
set_option maxRecDepth 100000 in
theorem dH.calls (k : Nat) (A0 : Option Addr) (c0 : Nat) (l0 : List (S23)) (r : Bool) (w : World) (hr0 : Kd.C k23 w A0 l0.length l0) (hc0 : l0.length ≤ c0) (h : dH.f k l0 = some r) :
  Calls Try.prog 110 #[.slice A0 l0.length c0] w fun e w' => e = .returned (.bool r) ∧ Below w.heap.size w w' := by
 have sJ := Try.underlying23; have HR0 := ah.mk hr0; have HC0 := ah.mk hc0; clear hr0 hc0; have HB := ah.mk (Below.refl w.heap.size w); have H := h; clear h
 dsimp only [dH.f] at H
 have H' := ah.mk H; clear H
 go_enter Try.func110, Try.ntmps110
 go_wp2
 go_loopg [7] k (fun kq v7 w' => ∃ (bR : Int), v7 = .int .i64 bR ∧ ah (dH.l0 kq l0 l0 (l0.length : Int) bR = some r) ∧ ah (kq ≤ k) ∧ ah (Below w.heap.size w w'))
 case atStart => exact ⟨(0), zz2, H', ⟨Nat.le_refl _⟩, ⟨zz1⟩⟩
 case round =>
  clear H'; (try clear c1); obtain ⟨bR, rfl, HA, HK1, HB⟩ := hrel
  cases gk with
  | zero => exact absurd HA.out (by simp [dH.l0])
  | succ k1 =>
   have H := HA.out; clear HA; simp only [dH.l0] at H
   by_cases c2 : bR < (l0.length : Int)
   ·rw [if_pos c2] at H; have pK : decide (bR < (l0.length : Int)) = true := decide_eq_true c2; clear c2
    by_cases c3 : 0 ≤ bR
    ·rw [if_pos c3] at H; have tH : decide (0 ≤ bR) = true := decide_eq_true c3; clear c3
     by_cases c4 : bR < (l0.length : Int)
     ·rw [if_pos c4] at H; have lI : decide (bR < (l0.length : Int)) = true := decide_eq_true c4; clear c4; replace H := Option.bind_eq_some_iff.mp H; obtain ⟨t106, A50, H⟩ := H; have A5 := ah.mk A50; clear A50
      by_cases c6 : t106 = true
      ·subst c6; rw [if_pos rfl] at H; have H' := ah.mk H; clear H; have PI : 0 ≤ (bR : Int) := of_decide_eq_true zz9; have Pj : bR < (l0.length : Int) := of_decide_eq_true zz9; obtain ⟨ad104, e104, Bd, Bc, Bb⟩ := mo HR0.out bR PI Pj
       cases e104
       replace Bd := cB HB Bd; replace Bc := cB HB Bc; replace Bb := cB HB Bb; replace PI := eq_true PI; replace Pj := eq_true Pj
       go_wp2_with (first | ((with_reducible refine bD (N := 4) rfl ?_); refine bq ?hg (N := 4) ?hd (cs := #[.int .i64 0, .int .i64 0, .string (⟨#[]⟩ : ByteArray)]) (t := 23) ?hr ?_; (case hd => rfl); (case hg => rfl); (case hr => first | (go_simp; done) | (go_simp; rfl)); intro au hg w7 bF hb; have ak := ah.mk (bF); have fO := ah.mk ((zz0 : w.heap.size ≤ au)); have fD := ah.mk ((zz0 : w.heap.size ≤ au)); replace HB := ah.mk (aA zz1 hb); clear hb bF hg; have KL : w7.cell? ⟨au, 0, none⟩ = some (.int .i64 0) := cK ak 0; have KJ : w7.cell? ⟨au, 1, none⟩ = some (.int .i64 0) := cK ak 1; have P8 : w7.cell? ⟨au, 2, none⟩ = some (.string (⟨#[]⟩ : ByteArray)) := cK ak 2; have Ke := aj ak.out 0; have Ka := aj ak.out 1; have PY := aj ak.out 2) | ((with_reducible refine aT (f := 69) rfl ?_); refine cu (some 12) rfl rfl Try.func69 (by kernel_rfl) rfl #[.agg #[.int .i64 ((aN l0 bR).f0), .int .i64 ((aN l0 bR).f1), .string ((aN l0 bR).f2)]] rfl zz8 ?_; (with_reducible refine (iM.calls ((aN l0 bR).f0) ((aN l0 bR).f1) ((aN l0 bR).f2) true _ A5.out).mono ?_); rintro e w9 ⟨rfl, hb⟩; refine ⟨_, rfl, ?_⟩; replace ak := ah.mk (aI (g := au) (o := .cells #[.int .i64 ((aN l0 bR).f0), .int .i64 ((aN l0 bR).f1), .string ((aN l0 bR).f2)] 23 (0, 0)) (by (with_reducible repeat (first | refine aM ?_ _ | refine aK ?_ | refine aJ ?_ _)); refine bU (cs := #[.int .i64 ((aN l0 bR).f0), .int .i64 ((aN l0 bR).f1), .string (⟨#[]⟩ : ByteArray)]) ?_ 2 _ rfl; (with_reducible repeat (first | refine aM ?_ _ | refine aK ?_ | refine aJ ?_ _)); refine bU (cs := #[.int .i64 ((aN l0 bR).f0), .int .i64 0, .string (⟨#[]⟩ : ByteArray)]) ?_ 1 _ rfl; (with_reducible repeat (first | refine aM ?_ _ | refine aK ?_ | refine aJ ?_ _)); refine bU (cs := #[.int .i64 0, .int .i64 0, .string (⟨#[]⟩ : ByteArray)]) ?_ 0 _ rfl; (with_reducible repeat (first | refine aM ?_ _ | refine aK ?_ | refine aJ ?_ _)); exact ak.out) hb); replace HB := ah.mk (aA zz5 hb); (try clear hb); (try clear hb2); (try clear hk); (try clear hi)))
       go_roundg k1
       case measure => have := HK1.out; omega
       case rel => exact ⟨(wrap64 (bR + 1)), zz2, H', ⟨by have := HK1.out; omega⟩, ⟨zz5⟩⟩
      ·replace c6 := Bool.eq_false_iff.mpr c6; subst c6; rw [if_neg (show ¬ (false = true) by decide)] at H; obtain rfl := Option.some.inj H; have PI : 0 ≤ (bR : Int) := of_decide_eq_true zz9; have Pj : bR < (l0.length : Int) := of_decide_eq_true zz9; obtain ⟨ad104, e104, Bd, Bc, Bb⟩ := mo HR0.out bR PI Pj
       cases e104
       replace Bd := cB HB Bd; replace Bc := cB HB Bc; replace Bb := cB HB Bb; replace PI := eq_true PI; replace Pj := eq_true Pj
       go_wp2_with (first | ((with_reducible refine bD (N := 4) rfl ?_); refine bq ?hg (N := 4) ?hd (cs := #[.int .i64 0, .int .i64 0, .string (⟨#[]⟩ : ByteArray)]) (t := 23) ?hr ?_; (case hd => rfl); (case hg => rfl); (case hr => first | (go_simp; done) | (go_simp; rfl)); intro au hg w10 bF hb; have ak := ah.mk (bF); have fO := ah.mk ((zz0 : w.heap.size ≤ au)); have fD := ah.mk ((zz0 : w.heap.size ≤ au)); replace HB := ah.mk (aA zz1 hb); clear hb bF hg; have pE : w10.cell? ⟨au, 0, none⟩ = some (.int .i64 0) := cK ak 0; have pz : w10.cell? ⟨au, 1, none⟩ = some (.int .i64 0) := cK ak 1; have pq : w10.cell? ⟨au, 2, none⟩ = some (.string (⟨#[]⟩ : ByteArray)) := cK ak 2; have oU := aj ak.out 0; have oQ := aj ak.out 1; have oP := aj ak.out 2) | ((with_reducible refine aT (f := 69) rfl ?_); refine cu (some 12) rfl rfl Try.func69 (by kernel_rfl) rfl #[.agg #[.int .i64 ((aN l0 bR).f0), .int .i64 ((aN l0 bR).f1), .string ((aN l0 bR).f2)]] rfl zz8 ?_; (with_reducible refine (iM.calls ((aN l0 bR).f0) ((aN l0 bR).f1) ((aN l0 bR).f2) false _ A5.out).mono ?_); rintro e w12 ⟨rfl, hb⟩; refine ⟨_, rfl, ?_⟩; replace ak := ah.mk (aI (g := au) (o := .cells #[.int .i64 ((aN l0 bR).f0), .int .i64 ((aN l0 bR).f1), .string ((aN l0 bR).f2)] 23 (0, 0)) (by (with_reducible repeat (first | refine aM ?_ _ | refine aK ?_ | refine aJ ?_ _)); refine bU (cs := #[.int .i64 ((aN l0 bR).f0), .int .i64 ((aN l0 bR).f1), .string (⟨#[]⟩ : ByteArray)]) ?_ 2 _ rfl; (with_reducible repeat (first | refine aM ?_ _ | refine aK ?_ | refine aJ ?_ _)); refine bU (cs := #[.int .i64 ((aN l0 bR).f0), .int .i64 0, .string (⟨#[]⟩ : ByteArray)]) ?_ 1 _ rfl; (with_reducible repeat (first | refine aM ?_ _ | refine aK ?_ | refine aJ ?_ _)); refine bU (cs := #[.int .i64 0, .int .i64 0, .string (⟨#[]⟩ : ByteArray)]) ?_ 0 _ rfl; (with_reducible repeat (first | refine aM ?_ _ | refine aK ?_ | refine aJ ?_ _)); exact ak.out) hb); replace HB := ah.mk (aA zz5 hb); (try clear hb); (try clear hb2); (try clear hk); (try clear hi)))
       go_ret
       exact ⟨zz6, zz5⟩
     ·rw [if_neg c4] at H; exact absurd H (by simp)
    ·rw [if_neg c3] at H; exact absurd H (by simp)
   ·rw [if_neg c2] at H; have pK : decide (bR < (l0.length : Int)) = false := decide_eq_false c2; clear c2; obtain rfl := Option.some.inj H
    go_wp2
    go_ret
    exact ⟨zz6, zz1⟩
def lM.f (a0 : Int) : Option (Bool) := if a0 ≥ (-262144) then (some (decide (a0 ≤ 262144))) else (some false)
set_option maxHeartbeats 8000000 in
set_option maxRecDepth 100000 in
theorem lM.calls (a0 : Int) (r : Bool) (w : World) (h : lM.f a0 = some r) :
  Calls Try.prog 135 #[.int .i64 a0] w fun e w' => e = .returned (.bool r) ∧ l5 w w' := by
 have H := h; clear h
 dsimp only [lM.f] at H
 by_cases c2 : a0 ≥ (-262144)
 ·rw [if_pos c2] at H; have pK : decide ((-262144) ≤ a0) = true := decide_eq_true c2; clear c2; obtain rfl := Option.some.inj H
  go_enter Try.func135, Try.ntmps135
  go_wp2
  go_ret
  exact ⟨zz2, zz7⟩
 ·rw [if_neg c2] at H; have pK : decide ((-262144) ≤ a0) = false := decide_eq_false c2; clear c2; obtain rfl := Option.some.inj H
  go_enter Try.func135, Try.ntmps135
  go_wp2
  go_ret
  exact ⟨zz2, zz7⟩
def fU.f (k : Nat) (qb : List (S23)) (aU : Int) : Option (Bool) := (dH.f k qb).bind fun t108 => (if t108 = true then ((lM.f aU).bind fun t109 => (some t109)) else (some false))
theorem fU.mono : ∀ a0 a1 k, LeO (fU.f k a0 a1) (fU.f (k + 1) a0 a1) := by
 intro a0 a1 k; unfold fU.f
 repeat' first
   | (with_reducible exact dH.mono _ _)
   | (with_reducible exact LeO.refl _)
   | (with_reducible exact LeO.none _)
   | (with_reducible refine LeO.ite ?_ ?_)
   | (with_reducible refine LeO.bind ?_ (fun _ => ?_))
   | exact dH.mono _ _
   | exact LeO.none _
   | refine LeO.ite ?_ ?_
   | refine LeO.bind ?_ (fun _ => ?_)
set_option maxHeartbeats 8000000 in
set_option maxRecDepth 100000 in
theorem fU.calls (k : Nat) (zF : Option Addr) (zD : Nat) (qb : List (S23)) (aU : Int) (r : Bool) (w : World) (Nq : Kd.C k23 w zF qb.length qb) (Ns : qb.length ≤ zD) (h : fU.f k qb aU = some r) :
  Calls Try.prog 115 #[.agg #[.slice zF qb.length zD, .int .i64 aU]] w fun e w' => e = .returned (.bool r) ∧ Below w.heap.size w w' := by
 have Np := Try.underlying51; have Xd := ah.mk Nq; have Xf := ah.mk Ns; clear Nq Ns; have HB := ah.mk (Below.refl w.heap.size w); have H := h; clear h
 dsimp only [fU.f] at H
 replace H := Option.bind_eq_some_iff.mp H; obtain ⟨t108, A20, H⟩ := H; have A2 := ah.mk A20; clear A20
 by_cases c3 : t108 = true
 ·subst c3; rw [if_pos rfl] at H; replace H := Option.bind_eq_some_iff.mp H; obtain ⟨t109, A40, H⟩ := H; have A4 := ah.mk A40; clear A40; obtain rfl := Option.some.inj H
  go_enter Try.func115, Try.ntmps115
  go_wp2_with (first | ((with_reducible refine bD (N := 1) rfl ?_); refine bq ?hg (N := 1) ?hd (cs := #[.slice zF qb.length zD, .int .i64 aU]) (t := 51) ?hr ?_; (case hd => rfl); (case hg => rfl); (case hr => first | (go_simp; done) | (go_simp; rfl)); intro au hg w5 bF hb; have ak := ah.mk (bF); have fO := ah.mk ((zz0 : w.heap.size ≤ au)); have fD := ah.mk ((zz0 : w.heap.size ≤ au)); replace HB := ah.mk (aA zz1 hb); clear hb bF hg; have xS : w5.cell? ⟨au, 0, none⟩ = some (.slice zF qb.length zD) := cK ak 0; have xR : w5.cell? ⟨au, 1, none⟩ = some (.int .i64 aU) := cK ak 1; have C9 := aj ak.out 0; have xP := aj ak.out 1) | ((with_reducible refine aT (f := 110) rfl ?_); refine cu (some 5) rfl rfl Try.func110 (by kernel_rfl) rfl #[.slice zF qb.length zD] rfl zz8 ?_; (with_reducible refine (dH.calls k _ _ qb true _ ?bZ ?cO A2.out).mono ?_); (case bZ => repeat (first | exact (Kd.eY Xd.out HB.out) | (with_reducible refine Kd.dW ?_ _) | (with_reducible refine Kd.d9 ?_ _) | (with_reducible refine Kd.eT ?_))); (case cO => exact Xf.out); rintro e w7 ⟨rfl, hb⟩; refine ⟨_, rfl, ?_⟩; replace ak := ah.mk (aI (g := au) (o := .cells #[.slice zF qb.length zD, .int .i64 aU] 51 (0, 0)) zz4 hb); replace HB := ah.mk (aA zz5 hb); (try clear hb); (try clear hb2); (try clear hk); (try clear hi); have KL : w7.cell? ⟨au, 0, none⟩ = some (.slice zF qb.length zD) := cK ak 0; have KJ : w7.cell? ⟨au, 1, none⟩ = some (.int .i64 aU) := cK ak 1; have Ke := aj ak.out 0; have Ka := aj ak.out 1) | (go_at_call 135; (with_reducible refine (lM.calls aU t109 _ A4.out).mono ?_); rintro e w' ⟨rfl, ⟨nd, rfl⟩⟩))
  go_ret
  exact ⟨zz6, zz5⟩
 ·replace c3 := Bool.eq_false_iff.mpr c3; subst c3; rw [if_neg (show ¬ (false = true) by decide)] at H; obtain rfl := Option.some.inj H
  go_enter Try.func115, Try.ntmps115
  go_wp2_with (first | ((with_reducible refine bD (N := 1) rfl ?_); refine bq ?hg (N := 1) ?hd (cs := #[.slice zF qb.length zD, .int .i64 aU]) (t := 51) ?hr ?_; (case hd => rfl); (case hg => rfl); (case hr => first | (go_simp; done) | (go_simp; rfl)); intro au hg w9 bF hb; have ak := ah.mk (bF); have fO := ah.mk ((zz0 : w.heap.size ≤ au)); have fD := ah.mk ((zz0 : w.heap.size ≤ au)); replace HB := ah.mk (aA zz1 hb); clear hb bF hg; have nY : w9.cell? ⟨au, 0, none⟩ = some (.slice zF qb.length zD) := cK ak 0; have nX : w9.cell? ⟨au, 1, none⟩ = some (.int .i64 aU) := cK ak 1; have nW := aj ak.out 0; have nV := aj ak.out 1) | ((with_reducible refine aT (f := 110) rfl ?_); refine cu (some 5) rfl rfl Try.func110 (by kernel_rfl) rfl #[.slice zF qb.length zD] rfl zz8 ?_; (with_reducible refine (dH.calls k _ _ qb false _ ?bZ ?cO A2.out).mono ?_); (case bZ => repeat (first | exact (Kd.eY Xd.out HB.out) | (with_reducible refine Kd.dW ?_ _) | (with_reducible refine Kd.d9 ?_ _) | (with_reducible refine Kd.eT ?_))); (case cO => exact Xf.out); rintro e w11 ⟨rfl, hb⟩; refine ⟨_, rfl, ?_⟩; replace ak := ah.mk (aI (g := au) (o := .cells #[.slice zF qb.length zD, .int .i64 aU] 51 (0, 0)) zz4 hb); replace HB := ah.mk (aA zz5 hb); (try clear hb); (try clear hb2); (try clear hk); (try clear hi)))
  go_ret
  exact ⟨zz6, zz5⟩
def jc.f (aX : Int) (aU : Int) (aY : ByteArray) : Option (Int × Int × ByteArray) := (iM.f aX aU aY).bind fun t112 => (if t112 = true then (some (aX, aU, aY)) else (some (0, 0, (⟨#[]⟩ : ByteArray))))
set_option maxHeartbeats 8000000 in
set_option maxRecDepth 100000 in
theorem jc.calls (aX : Int) (aU : Int) (aY : ByteArray) (r1 : Int) (r2 : Int) (r3 : ByteArray) (w : World) (h : jc.f aX aU aY = some (r1, r2, r3)) :
  Calls Try.prog 85 #[.agg #[.int .i64 aX, .int .i64 aU, .string aY]] w fun e w' => e = .returned (.agg #[.int .i64 r1, .int .i64 r2, .string r3]) ∧ Below w.heap.size w w' := by
 have sJ := Try.underlying23; have HB := ah.mk (Below.refl w.heap.size w); have H := h; clear h
 dsimp only [jc.f] at H
 replace H := Option.bind_eq_some_iff.mp H; obtain ⟨t112, A20, H⟩ := H; have A2 := ah.mk A20; clear A20
 by_cases c3 : t112 = true
 ·subst c3; rw [if_pos rfl] at H; simp only [Option.some.injEq, Prod.mk.injEq] at H; obtain ⟨rfl, rfl, rfl⟩ := H
  go_enter Try.func85, Try.ntmps85
  go_wp2_with (first | ((with_reducible refine bD (N := 1) rfl ?_); refine bq ?hg (N := 1) ?hd (cs := #[.int .i64 aX, .int .i64 aU, .string aY]) (t := 23) ?hr ?_; (case hd => rfl); (case hg => rfl); (case hr => first | (go_simp; done) | (go_simp; rfl)); intro au hg w4 bF hb; have ak := ah.mk (bF); have fO := ah.mk ((zz0 : w.heap.size ≤ au)); have fD := ah.mk ((zz0 : w.heap.size ≤ au)); replace HB := ah.mk (aA zz1 hb); clear hb bF hg) | ((with_reducible refine bD (N := 2) rfl ?_); refine bq ?hg (N := 2) ?hd (cs := #[.int .i64 0, .int .i64 0, .string (⟨#[]⟩ : ByteArray)]) (t := 23) ?hr ?_; (case hd => rfl); (case hg => rfl); (case hr => first | (go_simp; done) | (go_simp; rfl)); intro ay hg w5 bF hb; have av := ah.mk (bF); have iX := ah.mk ((jK : w.heap.size ≤ ay)); have iC := ah.mk ((jK : w.heap.size ≤ ay)); replace HB := ah.mk (aA zz5 hb); have aQ := ah.mk ((CU : au ≠ ay)); have aW := ah.mk ((CS : ay ≠ au)); replace ak := ah.mk (aI (g := au) (o := .cells #[.int .i64 aX, .int .i64 aU, .string aY] 23 (0, 0)) zz4 hb); clear hb bF hg; have hnb6 := aQ.out; have hnc6 := aW.out; have uP : w5.cell? ⟨au, 0, none⟩ = some (.int .i64 aX) := cK ak 0; have uO : w5.cell? ⟨au, 1, none⟩ = some (.int .i64 aU) := cK ak 1; have xQ : w5.cell? ⟨au, 2, none⟩ = some (.string aY) := cK ak 2; have xO := aj ak.out 0; have uL := aj ak.out 1; have xM := aj ak.out 2) | ((with_reducible refine aT (f := 69) rfl ?_); refine cu (some 4) rfl rfl Try.func69 (by kernel_rfl) rfl #[.agg #[.int .i64 aX, .int .i64 aU, .string aY]] rfl zz8 ?_; (with_reducible refine (iM.calls aX aU aY true _ A2.out).mono ?_); rintro e w8 ⟨rfl, hb⟩; refine ⟨_, rfl, ?_⟩; replace ak := ah.mk (aI (g := au) (o := .cells #[.int .i64 aX, .int .i64 aU, .string aY] 23 (0, 0)) zz4 hb); replace av := ah.mk (aI (g := ay) (o := .cells #[.int .i64 0, .int .i64 0, .string (⟨#[]⟩ : ByteArray)] 23 (0, 0)) fK hb); replace HB := ah.mk (aA fF hb); (try clear hb); (try clear hb2); (try clear hk); (try clear hi); have uN : w8.cell? ⟨au, 0, none⟩ = some (.int .i64 aX) := cK ak 0; have uM : w8.cell? ⟨au, 1, none⟩ = some (.int .i64 aU) := cK ak 1; have wm : w8.cell? ⟨au, 2, none⟩ = some (.string aY) := cK ak 2; have uK := aj ak.out 0; have uJ := aj ak.out 1; have vX := aj ak.out 2; have nY : w8.cell? ⟨ay, 0, none⟩ = some (.int .i64 0) := cK av 0; have nX : w8.cell? ⟨ay, 1, none⟩ = some (.int .i64 0) := cK av 1; have pF : w8.cell? ⟨ay, 2, none⟩ = some (.string (⟨#[]⟩ : ByteArray)) := cK av 2; have nW := aj av.out 0; have nV := aj av.out 1; have oV := aj av.out 2))
  refine bodyPost_ret (results_cell_row rfl _ _ ay 23 #[.int .i64 aX, .int .i64 aU, .string aY] (0, 0) _ rfl (by (with_reducible repeat (first | refine aM ?_ _ | refine aK ?_ | refine aJ ?_ _)); refine bU (cs := #[.int .i64 aX, .int .i64 aU, .string (⟨#[]⟩ : ByteArray)]) ?_ 2 _ rfl; (with_reducible repeat (first | refine aM ?_ _ | refine aK ?_ | refine aJ ?_ _)); refine bU (cs := #[.int .i64 aX, .int .i64 0, .string (⟨#[]⟩ : ByteArray)]) ?_ 1 _ rfl; (with_reducible repeat (first | refine aM ?_ _ | refine aK ?_ | refine aJ ?_ _)); refine bU (cs := #[.int .i64 0, .int .i64 0, .string (⟨#[]⟩ : ByteArray)]) ?_ 0 _ rfl; (with_reducible repeat (first | refine aM ?_ _ | refine aK ?_ | refine aJ ?_ _)); exact av.out) Try.underlying23 rfl (by kernel_rfl)) rfl ?_; exact ⟨zz6, fF⟩
 ·replace c3 := Bool.eq_false_iff.mpr c3; subst c3; rw [if_neg (show ¬ (false = true) by decide)] at H; simp only [Option.some.injEq, Prod.mk.injEq] at H; obtain ⟨rfl, rfl, rfl⟩ := H
  go_enter Try.func85, Try.ntmps85
  go_wp2_with (first | ((with_reducible refine bD (N := 1) rfl ?_); refine bq ?hg (N := 1) ?hd (cs := #[.int .i64 aX, .int .i64 aU, .string aY]) (t := 23) ?hr ?_; (case hd => rfl); (case hg => rfl); (case hr => first | (go_simp; done) | (go_simp; rfl)); intro au hg w11 bF hb; have ak := ah.mk (bF); have fO := ah.mk ((zz0 : w.heap.size ≤ au)); have fD := ah.mk ((zz0 : w.heap.size ≤ au)); replace HB := ah.mk (aA zz1 hb); clear hb bF hg) | ((with_reducible refine bD (N := 2) rfl ?_); refine bq ?hg (N := 2) ?hd (cs := #[.int .i64 0, .int .i64 0, .string (⟨#[]⟩ : ByteArray)]) (t := 23) ?hr ?_; (case hd => rfl); (case hg => rfl); (case hr => first | (go_simp; done) | (go_simp; rfl)); intro ay hg w12 bF hb; have av := ah.mk (bF); have iX := ah.mk ((jK : w.heap.size ≤ ay)); have iC := ah.mk ((jK : w.heap.size ≤ ay)); replace HB := ah.mk (aA zz5 hb); have aQ := ah.mk ((CU : au ≠ ay)); have aW := ah.mk ((CS : ay ≠ au)); replace ak := ah.mk (aI (g := au) (o := .cells #[.int .i64 aX, .int .i64 aU, .string aY] 23 (0, 0)) zz4 hb); clear hb bF hg; have Vt := aQ.out; have Vs := aW.out; have o9 : w12.cell? ⟨au, 0, none⟩ = some (.int .i64 aX) := cK ak 0; have o8 : w12.cell? ⟨au, 1, none⟩ = some (.int .i64 aU) := cK ak 1; have o7 : w12.cell? ⟨au, 2, none⟩ = some (.string aY) := cK ak 2; have oO := aj ak.out 0; have oM := aj ak.out 1; have oL := aj ak.out 2) | ((with_reducible refine aT (f := 69) rfl ?_); refine cu (some 4) rfl rfl Try.func69 (by kernel_rfl) rfl #[.agg #[.int .i64 aX, .int .i64 aU, .string aY]] rfl zz8 ?_; (with_reducible refine (iM.calls aX aU aY false _ A2.out).mono ?_); rintro e w15 ⟨rfl, hb⟩; refine ⟨_, rfl, ?_⟩; replace ak := ah.mk (aI (g := au) (o := .cells #[.int .i64 aX, .int .i64 aU, .string aY] 23 (0, 0)) zz4 hb); replace av := ah.mk (aI (g := ay) (o := .cells #[.int .i64 0, .int .i64 0, .string (⟨#[]⟩ : ByteArray)] 23 (0, 0)) fK hb); replace HB := ah.mk (aA fF hb); (try clear hb); (try clear hb2); (try clear hk); (try clear hi); have Cu : w15.cell? ⟨ay, 0, none⟩ = some (.int .i64 0) := cK av 0; have Ct : w15.cell? ⟨ay, 1, none⟩ = some (.int .i64 0) := cK av 1; have Cr : w15.cell? ⟨ay, 2, none⟩ = some (.string (⟨#[]⟩ : ByteArray)) := cK av 2; have Ch := aj av.out 0; have Cg := aj av.out 1; have Ce := aj av.out 2))
  refine bodyPost_ret (results_cell_row rfl _ _ ay 23 #[.int .i64 0, .int .i64 0, .string (⟨#[]⟩ : ByteArray)] (0, 0) _ rfl (by (with_reducible repeat (first | refine aM ?_ _ | refine aK ?_ | refine aJ ?_ _)); refine bU (cs := #[.int .i64 0, .int .i64 0, .string (⟨#[]⟩ : ByteArray)]) ?_ 2 _ rfl; (with_reducible repeat (first | refine aM ?_ _ | refine aK ?_ | refine aJ ?_ _)); refine bU (cs := #[.int .i64 0, .int .i64 0, .string (⟨#[]⟩ : ByteArray)]) ?_ 1 _ rfl; (with_reducible repeat (first | refine aM ?_ _ | refine aK ?_ | refine aJ ?_ _)); refine bU (cs := #[.int .i64 0, .int .i64 0, .string (⟨#[]⟩ : ByteArray)]) ?_ 0 _ rfl; (with_reducible repeat (first | refine aM ?_ _ | refine aK ?_ | refine aJ ?_ _)); exact av.out) Try.underlying23 rfl (by kernel_rfl)) rfl ?_; exact ⟨zz6, fF⟩
def cmp_isNaN_string.f (a0 : ByteArray) : Option (Bool) := some (a0.toList != a0.toList)
set_option maxHeartbeats 8000000 in
set_option maxRecDepth 100000 in
theorem cmp_isNaN_string.calls (a0 : ByteArray) (r : Bool) (w : World) (h : cmp_isNaN_string.f a0 = some r) :
  Calls Try.prog 152 #[.string a0] w fun e w' => e = .returned (.bool r) ∧ l5 w w' := by
 have H := h; clear h
 dsimp only [cmp_isNaN_string.f] at H
 obtain rfl := Option.some.inj H
 go_enter Try.func152, Try.ntmps152
 go_wp2
 go_ret
 exact ⟨zz2, zz7⟩
def kU.f (a0 : ByteArray) (a1 : ByteArray) : Option (Int) := (cmp_isNaN_string.f a0).bind fun t113 => ((cmp_isNaN_string.f a1).bind fun t114 => (if t113 = true then (if t114 = true then (some 0) else (some (-1))) else (if t114 = true then (some 1) else (if (Op.bytesLess a0.toList a1.toList) = true then (some (-1)) else (if (Op.bytesLess a1.toList a0.toList) = true then (some 1) else (some 0))))))
set_option maxHeartbeats 8000000 in
set_option maxRecDepth 100000 in
theorem kU.calls (a0 : ByteArray) (a1 : ByteArray) (r : Int) (w : World) (h : kU.f a0 a1 = some r) :
  Calls Try.prog 134 #[.string a0, .string a1] w fun e w' => e = .returned (.int .i64 r) ∧ l5 w w' := by
 have H := h; clear h
 dsimp only [kU.f] at H
 replace H := Option.bind_eq_some_iff.mp H; obtain ⟨t113, A30, H⟩ := H; have A3 := ah.mk A30; clear A30; replace H := Option.bind_eq_some_iff.mp H; obtain ⟨t114, A40, H⟩ := H; have A4 := ah.mk A40; clear A40
 by_cases c5 : t113 = true
 ·subst c5; rw [if_pos rfl] at H
  by_cases c6 : t114 = true
  ·subst c6; rw [if_pos rfl] at H; obtain rfl := Option.some.inj H
   go_enter Try.func134, Try.ntmps134
   go_wp2_with (first | ((with_reducible refine aT (f := 152) rfl ?_); refine cu (some 8) rfl rfl Try.func152 (by kernel_rfl) rfl #[.string a0] rfl zz8 ?_; (with_reducible refine (cmp_isNaN_string.calls a0 true _ A3.out).mono ?_); rintro e w' ⟨rfl, ⟨nd, rfl⟩⟩; refine ⟨_, rfl, ?_⟩) | ((with_reducible refine aT (f := 152) rfl ?_); refine cu (some 10) rfl rfl Try.func152 (by kernel_rfl) rfl #[.string a1] rfl zz8 ?_; (with_reducible refine (cmp_isNaN_string.calls a1 true _ A4.out).mono ?_); rintro e w' ⟨rfl, ⟨nd, rfl⟩⟩; refine ⟨_, rfl, ?_⟩))
   go_ret
   exact ⟨zz2, zz7⟩
  ·replace c6 := Bool.eq_false_iff.mpr c6; subst c6; rw [if_neg (show ¬ (false = true) by decide)] at H; obtain rfl := Option.some.inj H
   go_enter Try.func134, Try.ntmps134
   go_wp2_with (first | ((with_reducible refine aT (f := 152) rfl ?_); refine cu (some 8) rfl rfl Try.func152 (by kernel_rfl) rfl #[.string a0] rfl zz8 ?_; (with_reducible refine (cmp_isNaN_string.calls a0 true _ A3.out).mono ?_); rintro e w' ⟨rfl, ⟨nd, rfl⟩⟩; refine ⟨_, rfl, ?_⟩) | ((with_reducible refine aT (f := 152) rfl ?_); refine cu (some 10) rfl rfl Try.func152 (by kernel_rfl) rfl #[.string a1] rfl zz8 ?_; (with_reducible refine (cmp_isNaN_string.calls a1 false _ A4.out).mono ?_); rintro e w' ⟨rfl, ⟨nd, rfl⟩⟩; refine ⟨_, rfl, ?_⟩))
   go_ret
   exact ⟨zz2, zz7⟩
 ·replace c5 := Bool.eq_false_iff.mpr c5; subst c5; rw [if_neg (show ¬ (false = true) by decide)] at H
  by_cases c7 : t114 = true
  ·subst c7; rw [if_pos rfl] at H; obtain rfl := Option.some.inj H
   go_enter Try.func134, Try.ntmps134
   go_wp2_with (first | ((with_reducible refine aT (f := 152) rfl ?_); refine cu (some 8) rfl rfl Try.func152 (by kernel_rfl) rfl #[.string a0] rfl zz8 ?_; (with_reducible refine (cmp_isNaN_string.calls a0 false _ A3.out).mono ?_); rintro e w' ⟨rfl, ⟨nd, rfl⟩⟩; refine ⟨_, rfl, ?_⟩) | ((with_reducible refine aT (f := 152) rfl ?_); refine cu (some 10) rfl rfl Try.func152 (by kernel_rfl) rfl #[.string a1] rfl zz8 ?_; (with_reducible refine (cmp_isNaN_string.calls a1 true _ A4.out).mono ?_); rintro e w' ⟨rfl, ⟨nd, rfl⟩⟩; refine ⟨_, rfl, ?_⟩))
   go_ret
   exact ⟨zz2, zz7⟩
  ·replace c7 := Bool.eq_false_iff.mpr c7; subst c7; rw [if_neg (show ¬ (false = true) by decide)] at H
   by_cases c8 : (Op.bytesLess a0.toList a1.toList) = true
   ·rw [if_pos c8] at H; have oq : (Op.bytesLess a0.toList a1.toList) = true := c8; clear c8; obtain rfl := Option.some.inj H
    go_enter Try.func134, Try.ntmps134
    go_wp2_with (first | ((with_reducible refine aT (f := 152) rfl ?_); refine cu (some 8) rfl rfl Try.func152 (by kernel_rfl) rfl #[.string a0] rfl zz8 ?_; (with_reducible refine (cmp_isNaN_string.calls a0 false _ A3.out).mono ?_); rintro e w' ⟨rfl, ⟨nd, rfl⟩⟩; refine ⟨_, rfl, ?_⟩) | ((with_reducible refine aT (f := 152) rfl ?_); refine cu (some 10) rfl rfl Try.func152 (by kernel_rfl) rfl #[.string a1] rfl zz8 ?_; (with_reducible refine (cmp_isNaN_string.calls a1 false _ A4.out).mono ?_); rintro e w' ⟨rfl, ⟨nd, rfl⟩⟩; refine ⟨_, rfl, ?_⟩))
    go_ret
    exact ⟨zz2, zz7⟩
   ·rw [if_neg c8] at H; have oq : (Op.bytesLess a0.toList a1.toList) = false := by simpa using c8
    clear c8
    by_cases c9 : (Op.bytesLess a1.toList a0.toList) = true
    ·rw [if_pos c9] at H; have xV : (Op.bytesLess a1.toList a0.toList) = true := c9; clear c9; obtain rfl := Option.some.inj H
     go_enter Try.func134, Try.ntmps134
     go_wp2_with (first | ((with_reducible refine aT (f := 152) rfl ?_); refine cu (some 8) rfl rfl Try.func152 (by kernel_rfl) rfl #[.string a0] rfl zz8 ?_; (with_reducible refine (cmp_isNaN_string.calls a0 false _ A3.out).mono ?_); rintro e w' ⟨rfl, ⟨nd, rfl⟩⟩; refine ⟨_, rfl, ?_⟩) | ((with_reducible refine aT (f := 152) rfl ?_); refine cu (some 10) rfl rfl Try.func152 (by kernel_rfl) rfl #[.string a1] rfl zz8 ?_; (with_reducible refine (cmp_isNaN_string.calls a1 false _ A4.out).mono ?_); rintro e w' ⟨rfl, ⟨nd, rfl⟩⟩; refine ⟨_, rfl, ?_⟩))
     go_ret
     exact ⟨zz2, zz7⟩
    ·rw [if_neg c9] at H; have xV : (Op.bytesLess a1.toList a0.toList) = false := by simpa using c9
     clear c9; obtain rfl := Option.some.inj H
     go_enter Try.func134, Try.ntmps134
     go_wp2_with (first | ((with_reducible refine aT (f := 152) rfl ?_); refine cu (some 8) rfl rfl Try.func152 (by kernel_rfl) rfl #[.string a0] rfl zz8 ?_; (with_reducible refine (cmp_isNaN_string.calls a0 false _ A3.out).mono ?_); rintro e w' ⟨rfl, ⟨nd, rfl⟩⟩; refine ⟨_, rfl, ?_⟩) | ((with_reducible refine aT (f := 152) rfl ?_); refine cu (some 10) rfl rfl Try.func152 (by kernel_rfl) rfl #[.string a1] rfl zz8 ?_; (with_reducible refine (cmp_isNaN_string.calls a1 false _ A4.out).mono ?_); rintro e w' ⟨rfl, ⟨nd, rfl⟩⟩; refine ⟨_, rfl, ?_⟩))
     go_ret
     exact ⟨zz2, zz7⟩
def cmp_isNaN_int.f (a0 : Int) : Option (Bool) := some (a0 != a0)
set_option maxHeartbeats 8000000 in
set_option maxRecDepth 100000 in
theorem cmp_isNaN_int.calls (a0 : Int) (r : Bool) (w : World) (h : cmp_isNaN_int.f a0 = some r) :
  Calls Try.prog 172 #[.int .i64 a0] w fun e w' => e = .returned (.bool r) ∧ l5 w w' := by
 have H := h; clear h
 dsimp only [cmp_isNaN_int.f] at H
 obtain rfl := Option.some.inj H
 go_enter Try.func172, Try.ntmps172
 go_wp2
 go_ret
 exact ⟨zz2, zz7⟩
def cmp_Compare_int.f (a0 : Int) (a1 : Int) : Option (Int) := (cmp_isNaN_int.f a0).bind fun t115 => ((cmp_isNaN_int.f a1).bind fun t116 => (if t115 = true then (if t116 = true then (some 0) else (some (-1))) else (if t116 = true then (some 1) else (if a0 < a1 then (some (-1)) else (if a0 > a1 then (some 1) else (some 0))))))
set_option maxHeartbeats 8000000 in
set_option maxRecDepth 100000 in
theorem cmp_Compare_int.calls (a0 : Int) (a1 : Int) (r : Int) (w : World) (h : cmp_Compare_int.f a0 a1 = some r) :
  Calls Try.prog 162 #[.int .i64 a0, .int .i64 a1] w fun e w' => e = .returned (.int .i64 r) ∧ l5 w w' := by
 have H := h; clear h
 dsimp only [cmp_Compare_int.f] at H
 replace H := Option.bind_eq_some_iff.mp H; obtain ⟨t115, A30, H⟩ := H; have A3 := ah.mk A30; clear A30; replace H := Option.bind_eq_some_iff.mp H; obtain ⟨t116, A40, H⟩ := H; have A4 := ah.mk A40; clear A40
 by_cases c5 : t115 = true
 ·subst c5; rw [if_pos rfl] at H
  by_cases c6 : t116 = true
  ·subst c6; rw [if_pos rfl] at H; obtain rfl := Option.some.inj H
   go_enter Try.func162, Try.ntmps162
   go_wp2_with (first | ((with_reducible refine aT (f := 172) rfl ?_); refine cu (some 8) rfl rfl Try.func172 (by kernel_rfl) rfl #[.int .i64 a0] rfl zz8 ?_; (with_reducible refine (cmp_isNaN_int.calls a0 true _ A3.out).mono ?_); rintro e w' ⟨rfl, ⟨nd, rfl⟩⟩; refine ⟨_, rfl, ?_⟩) | ((with_reducible refine aT (f := 172) rfl ?_); refine cu (some 10) rfl rfl Try.func172 (by kernel_rfl) rfl #[.int .i64 a1] rfl zz8 ?_; (with_reducible refine (cmp_isNaN_int.calls a1 true _ A4.out).mono ?_); rintro e w' ⟨rfl, ⟨nd, rfl⟩⟩; refine ⟨_, rfl, ?_⟩))
   go_ret
   exact ⟨zz2, zz7⟩
  ·replace c6 := Bool.eq_false_iff.mpr c6; subst c6; rw [if_neg (show ¬ (false = true) by decide)] at H; obtain rfl := Option.some.inj H
   go_enter Try.func162, Try.ntmps162
   go_wp2_with (first | ((with_reducible refine aT (f := 172) rfl ?_); refine cu (some 8) rfl rfl Try.func172 (by kernel_rfl) rfl #[.int .i64 a0] rfl zz8 ?_; (with_reducible refine (cmp_isNaN_int.calls a0 true _ A3.out).mono ?_); rintro e w' ⟨rfl, ⟨nd, rfl⟩⟩; refine ⟨_, rfl, ?_⟩) | ((with_reducible refine aT (f := 172) rfl ?_); refine cu (some 10) rfl rfl Try.func172 (by kernel_rfl) rfl #[.int .i64 a1] rfl zz8 ?_; (with_reducible refine (cmp_isNaN_int.calls a1 false _ A4.out).mono ?_); rintro e w' ⟨rfl, ⟨nd, rfl⟩⟩; refine ⟨_, rfl, ?_⟩))
   go_ret
   exact ⟨zz2, zz7⟩
 ·replace c5 := Bool.eq_false_iff.mpr c5; subst c5; rw [if_neg (show ¬ (false = true) by decide)] at H
  by_cases c7 : t116 = true
  ·subst c7; rw [if_pos rfl] at H; obtain rfl := Option.some.inj H
   go_enter Try.func162, Try.ntmps162
   go_wp2_with (first | ((with_reducible refine aT (f := 172) rfl ?_); refine cu (some 8) rfl rfl Try.func172 (by kernel_rfl) rfl #[.int .i64 a0] rfl zz8 ?_; (with_reducible refine (cmp_isNaN_int.calls a0 false _ A3.out).mono ?_); rintro e w' ⟨rfl, ⟨nd, rfl⟩⟩; refine ⟨_, rfl, ?_⟩) | ((with_reducible refine aT (f := 172) rfl ?_); refine cu (some 10) rfl rfl Try.func172 (by kernel_rfl) rfl #[.int .i64 a1] rfl zz8 ?_; (with_reducible refine (cmp_isNaN_int.calls a1 true _ A4.out).mono ?_); rintro e w' ⟨rfl, ⟨nd, rfl⟩⟩; refine ⟨_, rfl, ?_⟩))
   go_ret
   exact ⟨zz2, zz7⟩
  ·replace c7 := Bool.eq_false_iff.mpr c7; subst c7; rw [if_neg (show ¬ (false = true) by decide)] at H
   by_cases c8 : a0 < a1
   ·rw [if_pos c8] at H; have oq : decide (a0 < a1) = true := decide_eq_true c8; clear c8; obtain rfl := Option.some.inj H
    go_enter Try.func162, Try.ntmps162
    go_wp2_with (first | ((with_reducible refine aT (f := 172) rfl ?_); refine cu (some 8) rfl rfl Try.func172 (by kernel_rfl) rfl #[.int .i64 a0] rfl zz8 ?_; (with_reducible refine (cmp_isNaN_int.calls a0 false _ A3.out).mono ?_); rintro e w' ⟨rfl, ⟨nd, rfl⟩⟩; refine ⟨_, rfl, ?_⟩) | ((with_reducible refine aT (f := 172) rfl ?_); refine cu (some 10) rfl rfl Try.func172 (by kernel_rfl) rfl #[.int .i64 a1] rfl zz8 ?_; (with_reducible refine (cmp_isNaN_int.calls a1 false _ A4.out).mono ?_); rintro e w' ⟨rfl, ⟨nd, rfl⟩⟩; refine ⟨_, rfl, ?_⟩))
    go_ret
    exact ⟨zz2, zz7⟩
   ·rw [if_neg c8] at H; have oq : decide (a0 < a1) = false := decide_eq_false c8; clear c8
    by_cases c9 : a0 > a1
    ·rw [if_pos c9] at H; have xV : decide (a1 < a0) = true := decide_eq_true c9; clear c9; obtain rfl := Option.some.inj H
     go_enter Try.func162, Try.ntmps162
     go_wp2_with (first | ((with_reducible refine aT (f := 172) rfl ?_); refine cu (some 8) rfl rfl Try.func172 (by kernel_rfl) rfl #[.int .i64 a0] rfl zz8 ?_; (with_reducible refine (cmp_isNaN_int.calls a0 false _ A3.out).mono ?_); rintro e w' ⟨rfl, ⟨nd, rfl⟩⟩; refine ⟨_, rfl, ?_⟩) | ((with_reducible refine aT (f := 172) rfl ?_); refine cu (some 10) rfl rfl Try.func172 (by kernel_rfl) rfl #[.int .i64 a1] rfl zz8 ?_; (with_reducible refine (cmp_isNaN_int.calls a1 false _ A4.out).mono ?_); rintro e w' ⟨rfl, ⟨nd, rfl⟩⟩; refine ⟨_, rfl, ?_⟩))
     go_ret
     exact ⟨zz2, zz7⟩
    ·rw [if_neg c9] at H; have xV : decide (a1 < a0) = false := decide_eq_false c9; clear c9; obtain rfl := Option.some.inj H
     go_enter Try.func162, Try.ntmps162
     go_wp2_with (first | ((with_reducible refine aT (f := 172) rfl ?_); refine cu (some 8) rfl rfl Try.func172 (by kernel_rfl) rfl #[.int .i64 a0] rfl zz8 ?_; (with_reducible refine (cmp_isNaN_int.calls a0 false _ A3.out).mono ?_); rintro e w' ⟨rfl, ⟨nd, rfl⟩⟩; refine ⟨_, rfl, ?_⟩) | ((with_reducible refine aT (f := 172) rfl ?_); refine cu (some 10) rfl rfl Try.func172 (by kernel_rfl) rfl #[.int .i64 a1] rfl zz8 ?_; (with_reducible refine (cmp_isNaN_int.calls a1 false _ A4.out).mono ?_); rintro e w' ⟨rfl, ⟨nd, rfl⟩⟩; refine ⟨_, rfl, ?_⟩))
     go_ret
     exact ⟨zz2, zz7⟩
def fM.f (a0 : Int) : Option (Bool) := some (a0 != a0)
set_option maxHeartbeats 8000000 in
set_option maxRecDepth 100000 in
theorem fM.calls (a0 : Int) (r : Bool) (w : World) (h : fM.f a0 = some r) :
  Calls Try.prog 167 #[.int .i64 a0] w fun e w' => e = .returned (.bool r) ∧ l5 w w' := by
 have H := h; clear h
 dsimp only [fM.f] at H
 obtain rfl := Option.some.inj H
 go_enter Try.func167, Try.ntmps167
 go_wp2
 go_ret
 exact ⟨zz2, zz7⟩
def lH.f (a0 : Int) (a1 : Int) : Option (Int) := (fM.f a0).bind fun t117 => ((fM.f a1).bind fun t118 => (if t117 = true then (if t118 = true then (some 0) else (some (-1))) else (if t118 = true then (some 1) else (if a0 < a1 then (some (-1)) else (if a0 > a1 then (some 1) else (some 0))))))
set_option maxHeartbeats 8000000 in
set_option maxRecDepth 100000 in
theorem lH.calls (a0 : Int) (a1 : Int) (r : Int) (w : World) (h : lH.f a0 a1 = some r) :
  Calls Try.prog 163 #[.int .i64 a0, .int .i64 a1] w fun e w' => e = .returned (.int .i64 r) ∧ l5 w w' := by
 have H := h; clear h
 dsimp only [lH.f] at H
 replace H := Option.bind_eq_some_iff.mp H; obtain ⟨t117, A30, H⟩ := H; have A3 := ah.mk A30; clear A30; replace H := Option.bind_eq_some_iff.mp H; obtain ⟨t118, A40, H⟩ := H; have A4 := ah.mk A40; clear A40
 by_cases c5 : t117 = true
 ·subst c5; rw [if_pos rfl] at H
  by_cases c6 : t118 = true
  ·subst c6; rw [if_pos rfl] at H; obtain rfl := Option.some.inj H
   go_enter Try.func163, Try.ntmps163
   go_wp2_with (first | ((with_reducible refine aT (f := 167) rfl ?_); refine cu (some 8) rfl rfl Try.func167 (by kernel_rfl) rfl #[.int .i64 a0] rfl zz8 ?_; (with_reducible refine (fM.calls a0 true _ A3.out).mono ?_); rintro e w' ⟨rfl, ⟨nd, rfl⟩⟩; refine ⟨_, rfl, ?_⟩) | ((with_reducible refine aT (f := 167) rfl ?_); refine cu (some 10) rfl rfl Try.func167 (by kernel_rfl) rfl #[.int .i64 a1] rfl zz8 ?_; (with_reducible refine (fM.calls a1 true _ A4.out).mono ?_); rintro e w' ⟨rfl, ⟨nd, rfl⟩⟩; refine ⟨_, rfl, ?_⟩))
   go_ret
   exact ⟨zz2, zz7⟩
  ·replace c6 := Bool.eq_false_iff.mpr c6; subst c6; rw [if_neg (show ¬ (false = true) by decide)] at H; obtain rfl := Option.some.inj H
   go_enter Try.func163, Try.ntmps163
   go_wp2_with (first | ((with_reducible refine aT (f := 167) rfl ?_); refine cu (some 8) rfl rfl Try.func167 (by kernel_rfl) rfl #[.int .i64 a0] rfl zz8 ?_; (with_reducible refine (fM.calls a0 true _ A3.out).mono ?_); rintro e w' ⟨rfl, ⟨nd, rfl⟩⟩; refine ⟨_, rfl, ?_⟩) | ((with_reducible refine aT (f := 167) rfl ?_); refine cu (some 10) rfl rfl Try.func167 (by kernel_rfl) rfl #[.int .i64 a1] rfl zz8 ?_; (with_reducible refine (fM.calls a1 false _ A4.out).mono ?_); rintro e w' ⟨rfl, ⟨nd, rfl⟩⟩; refine ⟨_, rfl, ?_⟩))
   go_ret
   exact ⟨zz2, zz7⟩
 ·replace c5 := Bool.eq_false_iff.mpr c5; subst c5; rw [if_neg (show ¬ (false = true) by decide)] at H
  by_cases c7 : t118 = true
  ·subst c7; rw [if_pos rfl] at H; obtain rfl := Option.some.inj H
   go_enter Try.func163, Try.ntmps163
   go_wp2_with (first | ((with_reducible refine aT (f := 167) rfl ?_); refine cu (some 8) rfl rfl Try.func167 (by kernel_rfl) rfl #[.int .i64 a0] rfl zz8 ?_; (with_reducible refine (fM.calls a0 false _ A3.out).mono ?_); rintro e w' ⟨rfl, ⟨nd, rfl⟩⟩; refine ⟨_, rfl, ?_⟩) | ((with_reducible refine aT (f := 167) rfl ?_); refine cu (some 10) rfl rfl Try.func167 (by kernel_rfl) rfl #[.int .i64 a1] rfl zz8 ?_; (with_reducible refine (fM.calls a1 true _ A4.out).mono ?_); rintro e w' ⟨rfl, ⟨nd, rfl⟩⟩; refine ⟨_, rfl, ?_⟩))
   go_ret
   exact ⟨zz2, zz7⟩
  ·replace c7 := Bool.eq_false_iff.mpr c7; subst c7; rw [if_neg (show ¬ (false = true) by decide)] at H
   by_cases c8 : a0 < a1
   ·rw [if_pos c8] at H; have oq : decide (a0 < a1) = true := decide_eq_true c8; clear c8; obtain rfl := Option.some.inj H
    go_enter Try.func163, Try.ntmps163
    go_wp2_with (first | ((with_reducible refine aT (f := 167) rfl ?_); refine cu (some 8) rfl rfl Try.func167 (by kernel_rfl) rfl #[.int .i64 a0] rfl zz8 ?_; (with_reducible refine (fM.calls a0 false _ A3.out).mono ?_); rintro e w' ⟨rfl, ⟨nd, rfl⟩⟩; refine ⟨_, rfl, ?_⟩) | ((with_reducible refine aT (f := 167) rfl ?_); refine cu (some 10) rfl rfl Try.func167 (by kernel_rfl) rfl #[.int .i64 a1] rfl zz8 ?_; (with_reducible refine (fM.calls a1 false _ A4.out).mono ?_); rintro e w' ⟨rfl, ⟨nd, rfl⟩⟩; refine ⟨_, rfl, ?_⟩))
    go_ret
    exact ⟨zz2, zz7⟩
   ·rw [if_neg c8] at H; have oq : decide (a0 < a1) = false := decide_eq_false c8; clear c8
    by_cases c9 : a0 > a1
    ·rw [if_pos c9] at H; have xV : decide (a1 < a0) = true := decide_eq_true c9; clear c9; obtain rfl := Option.some.inj H
     go_enter Try.func163, Try.ntmps163
     go_wp2_with (first | ((with_reducible refine aT (f := 167) rfl ?_); refine cu (some 8) rfl rfl Try.func167 (by kernel_rfl) rfl #[.int .i64 a0] rfl zz8 ?_; (with_reducible refine (fM.calls a0 false _ A3.out).mono ?_); rintro e w' ⟨rfl, ⟨nd, rfl⟩⟩; refine ⟨_, rfl, ?_⟩) | ((with_reducible refine aT (f := 167) rfl ?_); refine cu (some 10) rfl rfl Try.func167 (by kernel_rfl) rfl #[.int .i64 a1] rfl zz8 ?_; (with_reducible refine (fM.calls a1 false _ A4.out).mono ?_); rintro e w' ⟨rfl, ⟨nd, rfl⟩⟩; refine ⟨_, rfl, ?_⟩))
     go_ret
     exact ⟨zz2, zz7⟩
    ·rw [if_neg c9] at H; have xV : decide (a1 < a0) = false := decide_eq_false c9; clear c9; obtain rfl := Option.some.inj H
     go_enter Try.func163, Try.ntmps163
     go_wp2_with (first | ((with_reducible refine aT (f := 167) rfl ?_); refine cu (some 8) rfl rfl Try.func167 (by kernel_rfl) rfl #[.int .i64 a0] rfl zz8 ?_; (with_reducible refine (fM.calls a0 false _ A3.out).mono ?_); rintro e w' ⟨rfl, ⟨nd, rfl⟩⟩; refine ⟨_, rfl, ?_⟩) | ((with_reducible refine aT (f := 167) rfl ?_); refine cu (some 10) rfl rfl Try.func167 (by kernel_rfl) rfl #[.int .i64 a1] rfl zz8 ?_; (with_reducible refine (fM.calls a1 false _ A4.out).mono ?_); rintro e w' ⟨rfl, ⟨nd, rfl⟩⟩; refine ⟨_, rfl, ?_⟩))
     go_ret
     exact ⟨zz2, zz7⟩
def mH.f (aX : Int) (aU : Int) (aY : ByteArray) (gQ : Int) (gP : Int) (gN : ByteArray) : Option (Int) := (jc.f aX aU aY).bind fun NS => ((jc.f gQ gP gN).bind fun TD => (if NS.1 = TD.1 then (if NS.1 = 1 then ((lH.f NS.2.1 TD.2.1).bind fun t128 => (some t128)) else ((kU.f NS.2.2 TD.2.2).bind fun t129 => (some t129))) else ((cmp_Compare_int.f NS.1 TD.1).bind fun t127 => (some t127))))
set_option maxHeartbeats 8000000 in
set_option maxRecDepth 100000 in
theorem mH.calls (aX : Int) (aU : Int) (aY : ByteArray) (gQ : Int) (gP : Int) (gN : ByteArray) (r : Int) (w : World) (h : mH.f aX aU aY gQ gP gN = some r) :
  Calls Try.prog 137 #[.agg #[.int .i64 aX, .int .i64 aU, .string aY], .agg #[.int .i64 gQ, .int .i64 gP, .string gN]] w fun e w' => e = .returned (.int .i64 r) ∧ Below w.heap.size w w' := by
 have sJ := Try.underlying23; have HB := ah.mk (Below.refl w.heap.size w); have H := h; clear h
 dsimp only [mH.f] at H
 replace H := Option.bind_eq_some_iff.mp H; obtain ⟨⟨zP, t122, t123⟩, A30, H⟩ := H
 try dsimp only at H
 have A3 := ah.mk A30; clear A30; replace H := Option.bind_eq_some_iff.mp H; obtain ⟨⟨t124, t125, t126⟩, A40, H⟩ := H
 try dsimp only at H
 have A4 := ah.mk A40; clear A40
 by_cases c5 : zP = t124
 ·rw [if_pos c5] at H; have qd : (zP == t124) = true := beq_iff_eq.mpr c5; have NJ : (zP != t124) = false := bne_eq_false_iff_eq.mpr c5; clear c5
  by_cases c6 : zP = 1
  ·rw [if_pos c6] at H; have qD : (zP == 1) = true := beq_iff_eq.mpr c6; have zT : (zP != 1) = false := bne_eq_false_iff_eq.mpr c6; clear c6; replace H := Option.bind_eq_some_iff.mp H; obtain ⟨t128, A70, H⟩ := H; have A7 := ah.mk A70; clear A70; obtain rfl := Option.some.inj H
   go_enter Try.func137, Try.ntmps137
   try go_wp2_with (first | ((with_reducible refine bD (N := 2) rfl ?_); refine bq ?hg (N := 2) ?hd (cs := #[.int .i64 aX, .int .i64 aU, .string aY]) (t := 23) ?hr ?_; (case hd => rfl); (case hg => rfl); (case hr => first | (go_simp; done) | (go_simp; rfl)); intro au hg w8 bF hb; have ak := ah.mk (bF); have fO := ah.mk ((zz0 : w.heap.size ≤ au)); have fD := ah.mk ((zz0 : w.heap.size ≤ au)); replace HB := ah.mk (aA zz1 hb); clear hb bF hg) | ((with_reducible refine bD (N := 3) rfl ?_); refine bq ?hg (N := 3) ?hd (cs := #[.int .i64 gQ, .int .i64 gP, .string gN]) (t := 23) ?hr ?_; (case hd => rfl); (case hg => rfl); (case hr => first | (go_simp; done) | (go_simp; rfl)); intro ay hg w9 bF hb; have av := ah.mk (bF); have iX := ah.mk ((jK : w.heap.size ≤ ay)); have iC := ah.mk ((jK : w.heap.size ≤ ay)); replace HB := ah.mk (aA zz5 hb); have aQ := ah.mk ((CU : au ≠ ay)); have aW := ah.mk ((CS : ay ≠ au)); replace ak := ah.mk (aI (g := au) (o := .cells #[.int .i64 aX, .int .i64 aU, .string aY] 23 (0, 0)) zz4 hb); clear hb bF hg))
   replace ak := ah.mk (aK ak.out); replace av := ah.mk (aK av.out); replace HB := ah.mk (bG HB.out); refine jd (n := 6) (S := fun w' => w'.cell? ⟨au, 0, none⟩ = some (.int .i64 aX) ∧ w'.cell? ⟨au, 1, none⟩ = some (.int .i64 aU) ∧ w'.cell? ⟨au, 2, none⟩ = some (.string aY) ∧ w'.cell? ⟨ay, 0, none⟩ = some (.int .i64 gQ) ∧ w'.cell? ⟨ay, 1, none⟩ = some (.int .i64 gP) ∧ w'.cell? ⟨ay, 2, none⟩ = some (.string gN)) (ds := [4, 5]) (.replicate 6 false) (by kernel_rfl) rfl rfl ⟨cK ak 0, cK ak 1, cK ak 2, cK av 0, cK av 1, cK av 2⟩ (fun hHeld => ?_); generalize w9.drew = w10 at ak av HB hHeld ⊢; refine nk (i := 0) (N := some 5) (v := ?_) (a' := ?_) (bA 6 1) rfl rfl (by kernel_rfl) (fun _ _ _ h => h) (Or.inl ⟨by rfl, ?_⟩) hHeld ?_ ?_; rotate_left
   ·rintro w' ⟨s0, s1, s2, s3, s4, s5⟩
    go_simp
    (with_reducible rfl)
   rotate_left
   ·simp only [Act.put, List.setIfInBounds_toArray, List.set_cons_zero, List.set_cons_succ, dJ, eu]
    rfl
   refine nk (i := 2) (N := some 7) (v := ?_) (a' := ?_) (bA 6 5) rfl rfl (by kernel_rfl) (fun _ _ _ h => h) (Or.inl ⟨by rfl, ?_⟩) hHeld ?_ ?_; rotate_left
   ·rintro w' ⟨s0, s1, s2, s3, s4, s5⟩
    go_simp
    (with_reducible rfl)
   rotate_left
   ·simp only [Act.put, List.setIfInBounds_toArray, List.set_cons_zero, List.set_cons_succ, dJ, eu]
    rfl
   refine qO (i := 1) (N := some 6) (bA 6 7) rfl rfl (by kernel_rfl) (by decide) (fun K hK => ?_); refine iT Try.func85 (by kernel_rfl) rfl #[.agg #[.int .i64 aX, .int .i64 aU, .string aY]] (by rfl) rfl rfl zz8 ?_; (with_reducible refine (jc.calls aX aU aY zP t122 t123 _ A3.out).mono ?_); rintro e w11 ⟨rfl, hb⟩; refine ⟨_, rfl, ?_⟩; replace ak := ah.mk (aI (g := au) (o := .cells #[.int .i64 aX, .int .i64 aU, .string aY] 23 (0, 0)) zz4 hb); replace av := ah.mk (aI (g := ay) (o := .cells #[.int .i64 gQ, .int .i64 gP, .string gN] 23 (0, 0)) fK hb); replace HB := ah.mk (aA fF hb); (try clear hb); (try clear hb2); (try clear hk); (try clear hi); refine hK.out _ _ ⟨cK ak 0, cK ak 1, cK ak 2, cK av 0, cK av 1, cK av 2⟩ (fun hHeld => ?_); clear hK K; refine iV (a' := ?_) ?_ ?_; rotate_left
   ·show Act.put _ (some 6) _ = _
    simp only [Act.put, List.setIfInBounds_toArray, List.set_cons_zero, List.set_cons_succ, dJ, eu]
    rfl
   refine qO (i := 3) (N := some 8) (bA 6 15) rfl rfl (by kernel_rfl) (by decide) (fun K hK => ?_); refine iT Try.func85 (by kernel_rfl) rfl #[.agg #[.int .i64 gQ, .int .i64 gP, .string gN]] (by rfl) rfl rfl zz8 ?_; (with_reducible refine (jc.calls gQ gP gN t124 t125 t126 _ A4.out).mono ?_); rintro e w12 ⟨rfl, hb⟩; refine ⟨_, rfl, ?_⟩; replace ak := ah.mk (aI (g := au) (o := .cells #[.int .i64 aX, .int .i64 aU, .string aY] 23 (0, 0)) zz4 hb); replace av := ah.mk (aI (g := ay) (o := .cells #[.int .i64 gQ, .int .i64 gP, .string gN] 23 (0, 0)) fK hb); replace HB := ah.mk (aA fF hb); (try clear hb); (try clear hb2); (try clear hk); (try clear hi); refine hK.out _ _ ⟨cK ak 0, cK ak 1, cK ak 2, cK av 0, cK av 1, cK av 2⟩ (fun hHeld => ?_); clear hK K; refine iV (a' := ?_) ?_ ?_; rotate_left
   ·show Act.put _ (some 8) _ = _
    simp only [Act.put, List.setIfInBounds_toArray, List.set_cons_zero, List.set_cons_succ, dJ, eu]
    rfl
   refine pY (i := 4) (N := none) (bA 6 31) rfl rfl (by kernel_rfl) (by decide) (fun K hK => ?_); have hs13 : w12.cell? ⟨au, 0, none⟩ = some (.int .i64 aX) := cK ak 0; have hfs13 := aj ak.out 0; have Yx := aW.out; have YF := aQ.out; have hs14 : w12.cell? ⟨au, 1, none⟩ = some (.int .i64 aU) := cK ak 1; have hfs14 := aj ak.out 1; have hns14_1 := aW.out; have hms14_1 := aQ.out; have hs15 : w12.cell? ⟨au, 2, none⟩ = some (.string aY) := cK ak 2; have hfs15 := aj ak.out 2; have hns15_1 := aW.out; have hms15_1 := aQ.out; refine nR (w1 := ?_) (by rfl) rfl ?_ ?_; rotate_left
   ·go_simp
    rfl
   refine hK.out _ _ ?_; clear hK K; refine pY (i := 5) (N := none) (bA 6 63) rfl rfl (by kernel_rfl) (by decide) (fun K hK => ?_); have hs16 : w12.cell? ⟨ay, 0, none⟩ = some (.int .i64 gQ) := cK av 0; have hfs16 := aj av.out 0; have Yw := aQ.out; have YE := aW.out; have hs17 : w12.cell? ⟨ay, 1, none⟩ = some (.int .i64 gP) := cK av 1; have hfs17 := aj av.out 1; have hns17_0 := aQ.out; have hms17_0 := aW.out; have hs18 : w12.cell? ⟨ay, 2, none⟩ = some (.string gN) := cK av 2; have hfs18 := aj av.out 2; have hns18_0 := aQ.out; have hms18_0 := aW.out; refine nR (w1 := ?_) (by rfl) rfl ?_ ?_; rotate_left
   ·go_simp
    rfl
   refine hK.out _ _ ?_; clear hK K; refine kJ (by kernel_rfl) ?_; have hnb19 := aQ.out; have hnc19 := aW.out; have oZ : w12.cell? ⟨au, 0, none⟩ = some (.int .i64 aX) := cK ak 0; have oW : w12.cell? ⟨au, 1, none⟩ = some (.int .i64 aU) := cK ak 1; have rO : w12.cell? ⟨au, 2, none⟩ = some (.string aY) := cK ak 2; have qx := aj ak.out 0; have oK := aj ak.out 1; have rG := aj ak.out 2; have za : w12.cell? ⟨ay, 0, none⟩ = some (.int .i64 gQ) := cK av 0; have yZ : w12.cell? ⟨ay, 1, none⟩ = some (.int .i64 gP) := cK av 1; have yY : w12.cell? ⟨ay, 2, none⟩ = some (.string gN) := cK av 2; have yM := aj av.out 0; have yL := aj av.out 1; have yK := aj av.out 2
   try go_wp2_with (first | ((with_reducible refine aT (f := 163) rfl ?_); refine cu (some 26) rfl rfl Try.func163 (by kernel_rfl) rfl #[.int .i64 t122, .int .i64 t125] rfl zz8 ?_; (with_reducible refine (lH.calls t122 t125 t128 _ A7.out).mono ?_); rintro e w' ⟨rfl, ⟨nd, rfl⟩⟩; refine ⟨_, rfl, ?_⟩))
   go_ret
   exact ⟨zz6, fF⟩
  ·rw [if_neg c6] at H; have qD : (zP == 1) = false := beq_eq_false_iff_ne.mpr c6; have zT : (zP != 1) = true := bne_iff_ne.mpr c6; replace H := Option.bind_eq_some_iff.mp H; obtain ⟨t129, A220, H⟩ := H; have A22 := ah.mk A220; clear A220; obtain rfl := Option.some.inj H
   go_enter Try.func137, Try.ntmps137
   try go_wp2_with (first | ((with_reducible refine bD (N := 2) rfl ?_); refine bq ?hg (N := 2) ?hd (cs := #[.int .i64 aX, .int .i64 aU, .string aY]) (t := 23) ?hr ?_; (case hd => rfl); (case hg => rfl); (case hr => first | (go_simp; done) | (go_simp; rfl)); intro au hg w23 bF hb; have ak := ah.mk (bF); have fO := ah.mk ((zz0 : w.heap.size ≤ au)); have fD := ah.mk ((zz0 : w.heap.size ≤ au)); replace HB := ah.mk (aA zz1 hb); clear hb bF hg) | ((with_reducible refine bD (N := 3) rfl ?_); refine bq ?hg (N := 3) ?hd (cs := #[.int .i64 gQ, .int .i64 gP, .string gN]) (t := 23) ?hr ?_; (case hd => rfl); (case hg => rfl); (case hr => first | (go_simp; done) | (go_simp; rfl)); intro ay hg w24 bF hb; have av := ah.mk (bF); have iX := ah.mk ((jK : w.heap.size ≤ ay)); have iC := ah.mk ((jK : w.heap.size ≤ ay)); replace HB := ah.mk (aA zz5 hb); have aQ := ah.mk ((CU : au ≠ ay)); have aW := ah.mk ((CS : ay ≠ au)); replace ak := ah.mk (aI (g := au) (o := .cells #[.int .i64 aX, .int .i64 aU, .string aY] 23 (0, 0)) zz4 hb); clear hb bF hg))
   replace ak := ah.mk (aK ak.out); replace av := ah.mk (aK av.out); replace HB := ah.mk (bG HB.out); refine jd (n := 6) (S := fun w' => w'.cell? ⟨au, 0, none⟩ = some (.int .i64 aX) ∧ w'.cell? ⟨au, 1, none⟩ = some (.int .i64 aU) ∧ w'.cell? ⟨au, 2, none⟩ = some (.string aY) ∧ w'.cell? ⟨ay, 0, none⟩ = some (.int .i64 gQ) ∧ w'.cell? ⟨ay, 1, none⟩ = some (.int .i64 gP) ∧ w'.cell? ⟨ay, 2, none⟩ = some (.string gN)) (ds := [4, 5]) (.replicate 6 false) (by kernel_rfl) rfl rfl ⟨cK ak 0, cK ak 1, cK ak 2, cK av 0, cK av 1, cK av 2⟩ (fun hHeld => ?_); generalize w24.drew = w25 at ak av HB hHeld ⊢; refine nk (i := 0) (N := some 5) (v := ?_) (a' := ?_) (bA 6 1) rfl rfl (by kernel_rfl) (fun _ _ _ h => h) (Or.inl ⟨by rfl, ?_⟩) hHeld ?_ ?_; rotate_left
   ·rintro w' ⟨s0, s1, s2, s3, s4, s5⟩
    go_simp
    (with_reducible rfl)
   rotate_left
   ·simp only [Act.put, List.setIfInBounds_toArray, List.set_cons_zero, List.set_cons_succ, dJ, eu]
    rfl
   refine nk (i := 2) (N := some 7) (v := ?_) (a' := ?_) (bA 6 5) rfl rfl (by kernel_rfl) (fun _ _ _ h => h) (Or.inl ⟨by rfl, ?_⟩) hHeld ?_ ?_; rotate_left
   ·rintro w' ⟨s0, s1, s2, s3, s4, s5⟩
    go_simp
    (with_reducible rfl)
   rotate_left
   ·simp only [Act.put, List.setIfInBounds_toArray, List.set_cons_zero, List.set_cons_succ, dJ, eu]
    rfl
   refine qO (i := 1) (N := some 6) (bA 6 7) rfl rfl (by kernel_rfl) (by decide) (fun K hK => ?_); refine iT Try.func85 (by kernel_rfl) rfl #[.agg #[.int .i64 aX, .int .i64 aU, .string aY]] (by rfl) rfl rfl zz8 ?_; (with_reducible refine (jc.calls aX aU aY zP t122 t123 _ A3.out).mono ?_); rintro e w26 ⟨rfl, hb⟩; refine ⟨_, rfl, ?_⟩; replace ak := ah.mk (aI (g := au) (o := .cells #[.int .i64 aX, .int .i64 aU, .string aY] 23 (0, 0)) zz4 hb); replace av := ah.mk (aI (g := ay) (o := .cells #[.int .i64 gQ, .int .i64 gP, .string gN] 23 (0, 0)) fK hb); replace HB := ah.mk (aA fF hb); (try clear hb); (try clear hb2); (try clear hk); (try clear hi); refine hK.out _ _ ⟨cK ak 0, cK ak 1, cK ak 2, cK av 0, cK av 1, cK av 2⟩ (fun hHeld => ?_); clear hK K; refine iV (a' := ?_) ?_ ?_; rotate_left
   ·show Act.put _ (some 6) _ = _
    simp only [Act.put, List.setIfInBounds_toArray, List.set_cons_zero, List.set_cons_succ, dJ, eu]
    rfl
   refine qO (i := 3) (N := some 8) (bA 6 15) rfl rfl (by kernel_rfl) (by decide) (fun K hK => ?_); refine iT Try.func85 (by kernel_rfl) rfl #[.agg #[.int .i64 gQ, .int .i64 gP, .string gN]] (by rfl) rfl rfl zz8 ?_; (with_reducible refine (jc.calls gQ gP gN t124 t125 t126 _ A4.out).mono ?_); rintro e w27 ⟨rfl, hb⟩; refine ⟨_, rfl, ?_⟩; replace ak := ah.mk (aI (g := au) (o := .cells #[.int .i64 aX, .int .i64 aU, .string aY] 23 (0, 0)) zz4 hb); replace av := ah.mk (aI (g := ay) (o := .cells #[.int .i64 gQ, .int .i64 gP, .string gN] 23 (0, 0)) fK hb); replace HB := ah.mk (aA fF hb); (try clear hb); (try clear hb2); (try clear hk); (try clear hi); refine hK.out _ _ ⟨cK ak 0, cK ak 1, cK ak 2, cK av 0, cK av 1, cK av 2⟩ (fun hHeld => ?_); clear hK K; refine iV (a' := ?_) ?_ ?_; rotate_left
   ·show Act.put _ (some 8) _ = _
    simp only [Act.put, List.setIfInBounds_toArray, List.set_cons_zero, List.set_cons_succ, dJ, eu]
    rfl
   refine pY (i := 4) (N := none) (bA 6 31) rfl rfl (by kernel_rfl) (by decide) (fun K hK => ?_); have hs28 : w27.cell? ⟨au, 0, none⟩ = some (.int .i64 aX) := cK ak 0; have hfs28 := aj ak.out 0; have Yv := aW.out; have YD := aQ.out; have hs29 : w27.cell? ⟨au, 1, none⟩ = some (.int .i64 aU) := cK ak 1; have hfs29 := aj ak.out 1; have hns29_1 := aW.out; have hms29_1 := aQ.out; have hs30 : w27.cell? ⟨au, 2, none⟩ = some (.string aY) := cK ak 2; have hfs30 := aj ak.out 2; have hns30_1 := aW.out; have hms30_1 := aQ.out; refine nR (w1 := ?_) (by rfl) rfl ?_ ?_; rotate_left
   ·go_simp
    rfl
   refine hK.out _ _ ?_; clear hK K; refine pY (i := 5) (N := none) (bA 6 63) rfl rfl (by kernel_rfl) (by decide) (fun K hK => ?_); have hs31 : w27.cell? ⟨ay, 0, none⟩ = some (.int .i64 gQ) := cK av 0; have hfs31 := aj av.out 0; have Yu := aQ.out; have YC := aW.out; have hs32 : w27.cell? ⟨ay, 1, none⟩ = some (.int .i64 gP) := cK av 1; have hfs32 := aj av.out 1; have hns32_0 := aQ.out; have hms32_0 := aW.out; have hs33 : w27.cell? ⟨ay, 2, none⟩ = some (.string gN) := cK av 2; have hfs33 := aj av.out 2; have hns33_0 := aQ.out; have hms33_0 := aW.out; refine nR (w1 := ?_) (by rfl) rfl ?_ ?_; rotate_left
   ·go_simp
    rfl
   refine hK.out _ _ ?_; clear hK K; refine kJ (by kernel_rfl) ?_; have hnb34 := aQ.out; have hnc34 := aW.out; have Te : w27.cell? ⟨au, 0, none⟩ = some (.int .i64 aX) := cK ak 0; have Td : w27.cell? ⟨au, 1, none⟩ = some (.int .i64 aU) := cK ak 1; have Tc : w27.cell? ⟨au, 2, none⟩ = some (.string aY) := cK ak 2; have SQ := aj ak.out 0; have SN := aj ak.out 1; have SL := aj ak.out 2; have hcz36_0 : w27.cell? ⟨ay, 0, none⟩ = some (.int .i64 gQ) := cK av 0; have hcz36_1 : w27.cell? ⟨ay, 1, none⟩ = some (.int .i64 gP) := cK av 1; have hcz36_2 : w27.cell? ⟨ay, 2, none⟩ = some (.string gN) := cK av 2; have hfz36_0 := aj av.out 0; have hfz36_1 := aj av.out 1; have hfz36_2 := aj av.out 2
   try go_wp2_with (first | ((with_reducible refine aT (f := 134) rfl ?_); refine cu (some 31) rfl rfl Try.func134 (by kernel_rfl) rfl #[.string t123, .string t126] rfl zz8 ?_; (with_reducible refine (kU.calls t123 t126 t129 _ A22.out).mono ?_); rintro e w' ⟨rfl, ⟨nd, rfl⟩⟩; refine ⟨_, rfl, ?_⟩))
   go_ret
   exact ⟨zz6, fF⟩
 ·rw [if_neg c5] at H; have qd : (zP == t124) = false := beq_eq_false_iff_ne.mpr c5; have NJ : (zP != t124) = true := bne_iff_ne.mpr c5; replace H := Option.bind_eq_some_iff.mp H; obtain ⟨t127, A370, H⟩ := H; have A37 := ah.mk A370; clear A370; obtain rfl := Option.some.inj H
  go_enter Try.func137, Try.ntmps137
  try go_wp2_with (first | ((with_reducible refine bD (N := 2) rfl ?_); refine bq ?hg (N := 2) ?hd (cs := #[.int .i64 aX, .int .i64 aU, .string aY]) (t := 23) ?hr ?_; (case hd => rfl); (case hg => rfl); (case hr => first | (go_simp; done) | (go_simp; rfl)); intro au hg w38 bF hb; have ak := ah.mk (bF); have fO := ah.mk ((zz0 : w.heap.size ≤ au)); have fD := ah.mk ((zz0 : w.heap.size ≤ au)); replace HB := ah.mk (aA zz1 hb); clear hb bF hg) | ((with_reducible refine bD (N := 3) rfl ?_); refine bq ?hg (N := 3) ?hd (cs := #[.int .i64 gQ, .int .i64 gP, .string gN]) (t := 23) ?hr ?_; (case hd => rfl); (case hg => rfl); (case hr => first | (go_simp; done) | (go_simp; rfl)); intro ay hg w39 bF hb; have av := ah.mk (bF); have iX := ah.mk ((jK : w.heap.size ≤ ay)); have iC := ah.mk ((jK : w.heap.size ≤ ay)); replace HB := ah.mk (aA zz5 hb); have aQ := ah.mk ((CU : au ≠ ay)); have aW := ah.mk ((CS : ay ≠ au)); replace ak := ah.mk (aI (g := au) (o := .cells #[.int .i64 aX, .int .i64 aU, .string aY] 23 (0, 0)) zz4 hb); clear hb bF hg))
  replace ak := ah.mk (aK ak.out); replace av := ah.mk (aK av.out); replace HB := ah.mk (bG HB.out); refine jd (n := 6) (S := fun w' => w'.cell? ⟨au, 0, none⟩ = some (.int .i64 aX) ∧ w'.cell? ⟨au, 1, none⟩ = some (.int .i64 aU) ∧ w'.cell? ⟨au, 2, none⟩ = some (.string aY) ∧ w'.cell? ⟨ay, 0, none⟩ = some (.int .i64 gQ) ∧ w'.cell? ⟨ay, 1, none⟩ = some (.int .i64 gP) ∧ w'.cell? ⟨ay, 2, none⟩ = some (.string gN)) (ds := [4, 5]) (.replicate 6 false) (by kernel_rfl) rfl rfl ⟨cK ak 0, cK ak 1, cK ak 2, cK av 0, cK av 1, cK av 2⟩ (fun hHeld => ?_); generalize w39.drew = w40 at ak av HB hHeld ⊢; refine nk (i := 0) (N := some 5) (v := ?_) (a' := ?_) (bA 6 1) rfl rfl (by kernel_rfl) (fun _ _ _ h => h) (Or.inl ⟨by rfl, ?_⟩) hHeld ?_ ?_; rotate_left
  ·rintro w' ⟨s0, s1, s2, s3, s4, s5⟩
   go_simp
   (with_reducible rfl)
  rotate_left
  ·simp only [Act.put, List.setIfInBounds_toArray, List.set_cons_zero, List.set_cons_succ, dJ, eu]
   rfl
  refine nk (i := 2) (N := some 7) (v := ?_) (a' := ?_) (bA 6 5) rfl rfl (by kernel_rfl) (fun _ _ _ h => h) (Or.inl ⟨by rfl, ?_⟩) hHeld ?_ ?_; rotate_left
  ·rintro w' ⟨s0, s1, s2, s3, s4, s5⟩
   go_simp
   (with_reducible rfl)
  rotate_left
  ·simp only [Act.put, List.setIfInBounds_toArray, List.set_cons_zero, List.set_cons_succ, dJ, eu]
   rfl
  refine qO (i := 1) (N := some 6) (bA 6 7) rfl rfl (by kernel_rfl) (by decide) (fun K hK => ?_); refine iT Try.func85 (by kernel_rfl) rfl #[.agg #[.int .i64 aX, .int .i64 aU, .string aY]] (by rfl) rfl rfl zz8 ?_; (with_reducible refine (jc.calls aX aU aY zP t122 t123 _ A3.out).mono ?_); rintro e w41 ⟨rfl, hb⟩; refine ⟨_, rfl, ?_⟩; replace ak := ah.mk (aI (g := au) (o := .cells #[.int .i64 aX, .int .i64 aU, .string aY] 23 (0, 0)) zz4 hb); replace av := ah.mk (aI (g := ay) (o := .cells #[.int .i64 gQ, .int .i64 gP, .string gN] 23 (0, 0)) fK hb); replace HB := ah.mk (aA fF hb); (try clear hb); (try clear hb2); (try clear hk); (try clear hi); refine hK.out _ _ ⟨cK ak 0, cK ak 1, cK ak 2, cK av 0, cK av 1, cK av 2⟩ (fun hHeld => ?_); clear hK K; refine iV (a' := ?_) ?_ ?_; rotate_left
  ·show Act.put _ (some 6) _ = _
   simp only [Act.put, List.setIfInBounds_toArray, List.set_cons_zero, List.set_cons_succ, dJ, eu]
   rfl
  refine qO (i := 3) (N := some 8) (bA 6 15) rfl rfl (by kernel_rfl) (by decide) (fun K hK => ?_); refine iT Try.func85 (by kernel_rfl) rfl #[.agg #[.int .i64 gQ, .int .i64 gP, .string gN]] (by rfl) rfl rfl zz8 ?_; (with_reducible refine (jc.calls gQ gP gN t124 t125 t126 _ A4.out).mono ?_); rintro e w42 ⟨rfl, hb⟩; refine ⟨_, rfl, ?_⟩; replace ak := ah.mk (aI (g := au) (o := .cells #[.int .i64 aX, .int .i64 aU, .string aY] 23 (0, 0)) zz4 hb); replace av := ah.mk (aI (g := ay) (o := .cells #[.int .i64 gQ, .int .i64 gP, .string gN] 23 (0, 0)) fK hb); replace HB := ah.mk (aA fF hb); (try clear hb); (try clear hb2); (try clear hk); (try clear hi); refine hK.out _ _ ⟨cK ak 0, cK ak 1, cK ak 2, cK av 0, cK av 1, cK av 2⟩ (fun hHeld => ?_); clear hK K; refine iV (a' := ?_) ?_ ?_; rotate_left
  ·show Act.put _ (some 8) _ = _
   simp only [Act.put, List.setIfInBounds_toArray, List.set_cons_zero, List.set_cons_succ, dJ, eu]
   rfl
  refine pY (i := 4) (N := none) (bA 6 31) rfl rfl (by kernel_rfl) (by decide) (fun K hK => ?_); have hs43 : w42.cell? ⟨au, 0, none⟩ = some (.int .i64 aX) := cK ak 0; have hfs43 := aj ak.out 0; have Yt := aW.out; have YB := aQ.out; have hs44 : w42.cell? ⟨au, 1, none⟩ = some (.int .i64 aU) := cK ak 1; have hfs44 := aj ak.out 1; have Yr := aW.out; have YA := aQ.out; have hs45 : w42.cell? ⟨au, 2, none⟩ = some (.string aY) := cK ak 2; have hfs45 := aj ak.out 2; have hns45_1 := aW.out; have hms45_1 := aQ.out; refine nR (w1 := ?_) (by rfl) rfl ?_ ?_; rotate_left
  ·go_simp
   rfl
  refine hK.out _ _ ?_; clear hK K; refine pY (i := 5) (N := none) (bA 6 63) rfl rfl (by kernel_rfl) (by decide) (fun K hK => ?_); have hs46 : w42.cell? ⟨ay, 0, none⟩ = some (.int .i64 gQ) := cK av 0; have hfs46 := aj av.out 0; have R5 := aQ.out; have R7 := aW.out; have hs47 : w42.cell? ⟨ay, 1, none⟩ = some (.int .i64 gP) := cK av 1; have VF := aj av.out 1; have J7 := aQ.out; have J8 := aW.out; have hs48 : w42.cell? ⟨ay, 2, none⟩ = some (.string gN) := cK av 2; have hfs48 := aj av.out 2; have R4 := aQ.out; have R6 := aW.out; refine nR (w1 := ?_) (by rfl) rfl ?_ ?_; rotate_left
  ·go_simp
   rfl
  refine hK.out _ _ ?_; clear hK K; refine kJ (by kernel_rfl) ?_; have hnb49 := aQ.out; have hnc49 := aW.out; have Zq : w42.cell? ⟨au, 0, none⟩ = some (.int .i64 aX) := cK ak 0; have Zp : w42.cell? ⟨au, 1, none⟩ = some (.int .i64 aU) := cK ak 1; have Zo : w42.cell? ⟨au, 2, none⟩ = some (.string aY) := cK ak 2; have YI := aj ak.out 0; have YH := aj ak.out 1; have YG := aj ak.out 2; have hcz51_0 : w42.cell? ⟨ay, 0, none⟩ = some (.int .i64 gQ) := cK av 0; have hcz51_1 : w42.cell? ⟨ay, 1, none⟩ = some (.int .i64 gP) := cK av 1; have hcz51_2 : w42.cell? ⟨ay, 2, none⟩ = some (.string gN) := cK av 2; have hfz51_0 := aj av.out 0; have hfz51_1 := aj av.out 1; have hfz51_2 := aj av.out 2
  try go_wp2_with (first | ((with_reducible refine aT (f := 162) rfl ?_); refine cu (some 18) rfl rfl Try.func162 (by kernel_rfl) rfl #[.int .i64 zP, .int .i64 t124] rfl zz8 ?_; (with_reducible refine (cmp_Compare_int.calls zP t124 t127 _ A37.out).mono ?_); rintro e w' ⟨rfl, ⟨nd, rfl⟩⟩; refine ⟨_, rfl, ?_⟩))
  go_ret
  exact ⟨zz6, fF⟩
def iG.l0 : Nat → List (S23) → List (S23) → List (S23) → Int → Int → Option (Int)
 | 0, _, _, _, _, _ => none
 | k + 1, x0, x1, x11, x12, x13 => if x13 < x12 then (if 0 ≤ x13 then (if x13 < (x11.length : Int) then (if x13 ≥ (x1.length : Int) then (some 1) else (if x13 < (x1.length : Int) then ((mH.f ((aN x11 x13).f0) ((aN x11 x13).f1) ((aN x11 x13).f2) ((aN x1 x13).f0) ((aN x1 x13).f1) ((aN x1 x13).f2)).bind fun Ih => (if Ih = 0 then (iG.l0 k x0 x1 x11 x12 (wrap64 (x13 + 1))) else (some Ih))) else (none))) else (none)) else (none)) else (if (x0.length : Int) < (x1.length : Int) then (some (-1)) else (some 0))
def iG.f (k : Nat) (l0 : List (S23)) (l1 : List (S23))  : Option (Int) := iG.l0 k l0 l1 l0 (l0.length : Int) 0
theorem iG.gM : ∀ k, (∀ y0 y1 y2 y3 y4, LeO (iG.l0 k y0 y1 y2 y3 y4) (iG.l0 (k + 1) y0 y1 y2 y3 y4))
 | 0 => fun _ _ _ _ _ r h => by simp [iG.l0] at h
 | k + 1 => by
  have ih0 := iG.gM k
  ·intro y0 y1 y2 y3 y4; unfold iG.l0
   repeat' first
   | (with_reducible exact ih0 _ _ _ _ _)
   | (with_reducible exact LeO.refl _)
   | (with_reducible exact LeO.none _)
   | (with_reducible refine LeO.ite ?_ ?_)
   | (with_reducible refine LeO.bind ?_ (fun _ => ?_))
   | exact ih0 _ _ _ _ _
   | exact LeO.none _
   | refine LeO.ite ?_ ?_
   | refine LeO.bind ?_ (fun _ => ?_)
theorem iG.mono : ∀ a0 a1 k, LeO (iG.f k a0 a1) (iG.f (k + 1) a0 a1) := by
 intro a0 a1 k; have ih0 := iG.gM k; unfold iG.f
 repeat' first
   | (with_reducible exact ih0 _ _ _ _ _)
   | (with_reducible exact LeO.refl _)
   | (with_reducible exact LeO.none _)
   | (with_reducible refine LeO.ite ?_ ?_)
   | (with_reducible refine LeO.bind ?_ (fun _ => ?_))
   | exact ih0 _ _ _ _ _
   | exact LeO.none _
   | refine LeO.ite ?_ ?_
   | refine LeO.bind ?_ (fun _ => ?_)
set_option maxHeartbeats 8000000 in
set_option maxRecDepth 100000 in
theorem iG.calls (k : Nat) (A0 : Option Addr) (c0 : Nat) (l0 : List (S23)) (A1 : Option Addr) (c1 : Nat) (l1 : List (S23))  (r : Int) (w : World) (hr0 : Kd.C k23 w A0 l0.length l0) (hc0 : l0.length ≤ c0) (hr1 : Kd.C k23 w A1 l1.length l1) (hc1 : l1.length ≤ c1) (h : iG.f k l0 l1 = some r) :
  Calls Try.prog 136 #[.slice A0 l0.length c0, .slice A1 l1.length c1, .func (.func 137) #[] #[]] w fun e w' => e = .returned (.int .i64 r) ∧ Below w.heap.size w w' := by
 have sJ := Try.underlying23; have HR0 := ah.mk hr0; have HC0 := ah.mk hc0; clear hr0 hc0; have HR1 := ah.mk hr1; have HC1 := ah.mk hc1; clear hr1 hc1; have HB := ah.mk (Below.refl w.heap.size w); have H := h; clear h
 dsimp only [iG.f] at H
 have H' := ah.mk H; clear H
 go_enter Try.func136, Try.ntmps136
 go_wp2
 go_loopg [13] k (fun kq v13 w' => ∃ (dS : Int), v13 = .int .i64 dS ∧ ah (iG.l0 kq l0 l1 l0 (l0.length : Int) dS = some r) ∧ ah (kq ≤ k) ∧ ah (Below w.heap.size w w'))
 case atStart => exact ⟨(0), zz2, H', ⟨Nat.le_refl _⟩, ⟨zz1⟩⟩
 case round =>
  clear H'; (try clear c1); (try clear p2); obtain ⟨dS, rfl, HA, HK1, HB⟩ := hrel
  cases gk with
  | zero => exact absurd HA.out (by simp [iG.l0])
  | succ k1 =>
   have H := HA.out; clear HA; simp only [iG.l0] at H
   by_cases c4 : dS < (l0.length : Int)
   ·rw [if_pos c4] at H; have lI : decide (dS < (l0.length : Int)) = true := decide_eq_true c4; clear c4
    by_cases c5 : 0 ≤ dS
    ·rw [if_pos c5] at H; have qd : decide (0 ≤ dS) = true := decide_eq_true c5; clear c5
     by_cases c6 : dS < (l0.length : Int)
     ·rw [if_pos c6] at H; have qD : decide (dS < (l0.length : Int)) = true := decide_eq_true c6; clear c6
      by_cases c7 : dS ≥ (l1.length : Int)
      ·rw [if_pos c7] at H; have pJ : decide ((l1.length : Int) ≤ dS) = true := decide_eq_true c7; clear c7; obtain rfl := Option.some.inj H; have F6 : 0 ≤ (dS : Int) := of_decide_eq_true zz9; have F4 : dS < (l0.length : Int) := of_decide_eq_true zz9; obtain ⟨ad130, e130, tY, tX, tT⟩ := mo HR0.out dS F6 F4
       cases e130
       replace tY := cB HB tY; replace tX := cB HB tX; replace tT := cB HB tT; replace F6 := eq_true F6; replace F4 := eq_true F4
       go_wp2_with (first | ((with_reducible refine bD (N := 8) rfl ?_); refine bq ?hg (N := 8) ?hd (cs := #[.int .i64 0, .int .i64 0, .string (⟨#[]⟩ : ByteArray)]) (t := 23) ?hr ?_; (case hd => rfl); (case hg => rfl); (case hr => first | (go_simp; done) | (go_simp; rfl)); intro au hg w8 bF hb; have ak := ah.mk (bF); have fO := ah.mk ((zz0 : w.heap.size ≤ au)); have fD := ah.mk ((zz0 : w.heap.size ≤ au)); replace HB := ah.mk (aA zz1 hb); clear hb bF hg; have uN : w8.cell? ⟨au, 0, none⟩ = some (.int .i64 0) := cK ak 0; have uM : w8.cell? ⟨au, 1, none⟩ = some (.int .i64 0) := cK ak 1; have wm : w8.cell? ⟨au, 2, none⟩ = some (.string (⟨#[]⟩ : ByteArray)) := cK ak 2; have uK := aj ak.out 0; have uJ := aj ak.out 1; have vX := aj ak.out 2))
       go_ret
       exact ⟨zz6, zz5⟩
      ·rw [if_neg c7] at H; have pJ : decide ((l1.length : Int) ≤ dS) = false := decide_eq_false c7; clear c7
       by_cases c10 : dS < (l1.length : Int)
       ·rw [if_pos c10] at H; have wT : decide (dS < (l1.length : Int)) = true := decide_eq_true c10; clear c10; replace H := Option.bind_eq_some_iff.mp H; obtain ⟨Ih, HY, H⟩ := H; have A11 := ah.mk HY; clear HY
        by_cases c12 : Ih = 0
        ·rw [if_pos c12] at H; have NP : (Ih == 0) = true := beq_iff_eq.mpr c12; have c12b1 : (Ih != 0) = false := bne_eq_false_iff_eq.mpr c12; clear c12; have H' := ah.mk H; clear H; have F6 : 0 ≤ (dS : Int) := of_decide_eq_true zz9; have F4 : dS < (l0.length : Int) := of_decide_eq_true zz9; obtain ⟨ad130, e130, tY, tX, tT⟩ := mo HR0.out dS F6 F4
         cases e130
         replace tY := cB HB tY; replace tX := cB HB tX; replace tT := cB HB tT; replace F6 := eq_true F6; replace F4 := eq_true F4
         go_wp2_with (first | ((with_reducible refine bD (N := 8) rfl ?_); refine bq ?hg (N := 8) ?hd (cs := #[.int .i64 0, .int .i64 0, .string (⟨#[]⟩ : ByteArray)]) (t := 23) ?hr ?_; (case hd => rfl); (case hg => rfl); (case hr => first | (go_simp; done) | (go_simp; rfl)); intro au hg w13 bF hb; have ak := ah.mk (bF); have fO := ah.mk ((zz0 : w.heap.size ≤ au)); have fD := ah.mk ((zz0 : w.heap.size ≤ au)); replace HB := ah.mk (aA zz1 hb); clear hb bF hg; have o9 : w13.cell? ⟨au, 0, none⟩ = some (.int .i64 0) := cK ak 0; have o8 : w13.cell? ⟨au, 1, none⟩ = some (.int .i64 0) := cK ak 1; have o7 : w13.cell? ⟨au, 2, none⟩ = some (.string (⟨#[]⟩ : ByteArray)) := cK ak 2; have oO := aj ak.out 0; have oM := aj ak.out 1; have oL := aj ak.out 2; have PG : 0 ≤ (dS : Int) := of_decide_eq_true zz9; have Ph : dS < (l1.length : Int) := of_decide_eq_true zz9; obtain ⟨Hl, e132, kW, lG, lF⟩ := mo HR1.out dS PG Ph; cases e132; have yG : Hl.block ≠ au := Nat.ne_of_lt (Nat.lt_of_lt_of_le Uk fO.out); have yF : Hl.block ≠ au := Nat.ne_of_lt (Nat.lt_of_lt_of_le Uk fO.out); have yE : Hl.block ≠ au := Nat.ne_of_lt (Nat.lt_of_lt_of_le Uk fO.out); replace kW := cB HB kW; replace lG := cB HB lG; replace lF := cB HB lF; replace kW := (cell_far (p := ⟨au, 0, none⟩) Uj (.int .i64 ((aN l0 dS).f0))).trans kW; replace lG := (cell_far (p := ⟨au, 0, none⟩) Uj (.int .i64 ((aN l0 dS).f0))).trans lG; replace lF := (cell_far (p := ⟨au, 0, none⟩) Uj (.int .i64 ((aN l0 dS).f0))).trans lF; replace kW := (cell_far (p := ⟨au, 1, none⟩) Ui (.int .i64 ((aN l0 dS).f1))).trans kW; replace lG := (cell_far (p := ⟨au, 1, none⟩) Ui (.int .i64 ((aN l0 dS).f1))).trans lG; replace lF := (cell_far (p := ⟨au, 1, none⟩) Ui (.int .i64 ((aN l0 dS).f1))).trans lF; replace kW := (cell_far (p := ⟨au, 2, none⟩) Uh (.string ((aN l0 dS).f2))).trans kW; replace lG := (cell_far (p := ⟨au, 2, none⟩) Uh (.string ((aN l0 dS).f2))).trans lG; replace lF := (cell_far (p := ⟨au, 2, none⟩) Uh (.string ((aN l0 dS).f2))).trans lF; clear yG; clear yF; clear yE; replace PG := eq_true PG; replace Ph := eq_true Ph) | ((with_reducible refine bD (N := 9) rfl ?_); refine bq ?hg (N := 9) ?hd (cs := #[.int .i64 0, .int .i64 0, .string (⟨#[]⟩ : ByteArray)]) (t := 23) ?hr ?_; (case hd => rfl); (case hg => rfl); (case hr => first | (go_simp; done) | (go_simp; rfl)); intro ay hg w15 bF hb; have av := ah.mk (bF); have iX := ah.mk ((jK : w.heap.size ≤ ay)); have iC := ah.mk ((jK : w.heap.size ≤ ay)); replace HB := ah.mk (aA zz5 hb); have aQ := ah.mk ((by rw [hg]; exact Nat.ne_of_lt (jL (g := au) (o := .cells #[.int .i64 ((aN l0 dS).f0), .int .i64 ((aN l0 dS).f1), .string ((aN l0 dS).f2)] 23 (0, 0)) Ug) : au ≠ ay)); have aW := ah.mk ((by rw [hg]; exact Nat.ne_of_gt (jL (g := au) (o := .cells #[.int .i64 ((aN l0 dS).f0), .int .i64 ((aN l0 dS).f1), .string ((aN l0 dS).f2)] 23 (0, 0)) Ug) : ay ≠ au)); replace ak := ah.mk (aI (g := au) (o := .cells #[.int .i64 ((aN l0 dS).f0), .int .i64 ((aN l0 dS).f1), .string ((aN l0 dS).f2)] 23 (0, 0)) Ug hb); clear hb bF hg; have hnb16 := aW.out; have hnc16 := aQ.out; have FB : w15.cell? ⟨ay, 0, none⟩ = some (.int .i64 0) := cK av 0; have Fz : w15.cell? ⟨ay, 1, none⟩ = some (.int .i64 0) := cK av 1; have Fy : w15.cell? ⟨ay, 2, none⟩ = some (.string (⟨#[]⟩ : ByteArray)) := cK av 2; have EX := aj av.out 0; have EW := aj av.out 1; have EU := aj av.out 2; have zk : w15.cell? ⟨au, 0, none⟩ = some (.int .i64 ((aN l0 dS).f0)) := cK ak 0; have zi : w15.cell? ⟨au, 1, none⟩ = some (.int .i64 ((aN l0 dS).f1)) := cK ak 1; have Cq : w15.cell? ⟨au, 2, none⟩ = some (.string ((aN l0 dS).f2)) := cK ak 2; have Cc := aj ak.out 0; have yQ := aj ak.out 1; have Cb := aj ak.out 2) | (go_at_call 137; (with_reducible refine (mH.calls ((aN l0 dS).f0) ((aN l0 dS).f1) ((aN l0 dS).f2) ((aN l1 dS).f0) ((aN l1 dS).f1) ((aN l1 dS).f2) Ih _ A11.out).mono ?_); rintro e w19 ⟨rfl, hb⟩; replace ak := ah.mk (aI (g := au) (o := .cells #[.int .i64 ((aN l0 dS).f0), .int .i64 ((aN l0 dS).f1), .string ((aN l0 dS).f2)] 23 (0, 0)) zz20 hb); replace av := ah.mk (aI (g := ay) (o := .cells #[.int .i64 ((aN l1 dS).f0), .int .i64 ((aN l1 dS).f1), .string ((aN l1 dS).f2)] 23 (0, 0)) (by (with_reducible repeat (first | refine aM ?_ _ | refine aK ?_ | refine aJ ?_ _)); refine bU (cs := #[.int .i64 ((aN l1 dS).f0), .int .i64 ((aN l1 dS).f1), .string (⟨#[]⟩ : ByteArray)]) ?_ 2 _ rfl; (with_reducible repeat (first | refine aM ?_ _ | refine aK ?_ | refine aJ ?_ _)); refine bU (cs := #[.int .i64 ((aN l1 dS).f0), .int .i64 0, .string (⟨#[]⟩ : ByteArray)]) ?_ 1 _ rfl; (with_reducible repeat (first | refine aM ?_ _ | refine aK ?_ | refine aJ ?_ _)); refine bU (cs := #[.int .i64 0, .int .i64 0, .string (⟨#[]⟩ : ByteArray)]) ?_ 0 _ rfl; (with_reducible repeat (first | refine aM ?_ _ | refine aK ?_ | refine aJ ?_ _)); exact av.out) hb); replace HB := ah.mk (aA fF hb); (try clear hb); (try clear hb2); (try clear hk); (try clear hi)))
         go_roundg k1
         case measure => have := HK1.out; omega
         case rel => exact ⟨(wrap64 (dS + 1)), zz2, H', ⟨by have := HK1.out; omega⟩, ⟨fF⟩⟩
        ·rw [if_neg c12] at H; have NP : (Ih == 0) = false := beq_eq_false_iff_ne.mpr c12; have c12b1 : (Ih != 0) = true := bne_iff_ne.mpr c12; obtain rfl := Option.some.inj H; have F6 : 0 ≤ (dS : Int) := of_decide_eq_true zz9; have F4 : dS < (l0.length : Int) := of_decide_eq_true zz9; obtain ⟨ad130, e130, tY, tX, tT⟩ := mo HR0.out dS F6 F4
         cases e130
         replace tY := cB HB tY; replace tX := cB HB tX; replace tT := cB HB tT; replace F6 := eq_true F6; replace F4 := eq_true F4
         go_wp2_with (first | ((with_reducible refine bD (N := 8) rfl ?_); refine bq ?hg (N := 8) ?hd (cs := #[.int .i64 0, .int .i64 0, .string (⟨#[]⟩ : ByteArray)]) (t := 23) ?hr ?_; (case hd => rfl); (case hg => rfl); (case hr => first | (go_simp; done) | (go_simp; rfl)); intro au hg w20 bF hb; have ak := ah.mk (bF); have fO := ah.mk ((zz0 : w.heap.size ≤ au)); have fD := ah.mk ((zz0 : w.heap.size ≤ au)); replace HB := ah.mk (aA zz1 hb); clear hb bF hg; have za : w20.cell? ⟨au, 0, none⟩ = some (.int .i64 0) := cK ak 0; have yZ : w20.cell? ⟨au, 1, none⟩ = some (.int .i64 0) := cK ak 1; have yY : w20.cell? ⟨au, 2, none⟩ = some (.string (⟨#[]⟩ : ByteArray)) := cK ak 2; have yM := aj ak.out 0; have yL := aj ak.out 1; have yK := aj ak.out 2; have PG : 0 ≤ (dS : Int) := of_decide_eq_true zz9; have Ph : dS < (l1.length : Int) := of_decide_eq_true zz9; obtain ⟨Hl, e132, kW, lG, lF⟩ := mo HR1.out dS PG Ph; cases e132; have yG : Hl.block ≠ au := Nat.ne_of_lt (Nat.lt_of_lt_of_le Uk fO.out); have yF : Hl.block ≠ au := Nat.ne_of_lt (Nat.lt_of_lt_of_le Uk fO.out); have yE : Hl.block ≠ au := Nat.ne_of_lt (Nat.lt_of_lt_of_le Uk fO.out); replace kW := cB HB kW; replace lG := cB HB lG; replace lF := cB HB lF; replace kW := (cell_far (p := ⟨au, 0, none⟩) Uj (.int .i64 ((aN l0 dS).f0))).trans kW; replace lG := (cell_far (p := ⟨au, 0, none⟩) Uj (.int .i64 ((aN l0 dS).f0))).trans lG; replace lF := (cell_far (p := ⟨au, 0, none⟩) Uj (.int .i64 ((aN l0 dS).f0))).trans lF; replace kW := (cell_far (p := ⟨au, 1, none⟩) Ui (.int .i64 ((aN l0 dS).f1))).trans kW; replace lG := (cell_far (p := ⟨au, 1, none⟩) Ui (.int .i64 ((aN l0 dS).f1))).trans lG; replace lF := (cell_far (p := ⟨au, 1, none⟩) Ui (.int .i64 ((aN l0 dS).f1))).trans lF; replace kW := (cell_far (p := ⟨au, 2, none⟩) Uh (.string ((aN l0 dS).f2))).trans kW; replace lG := (cell_far (p := ⟨au, 2, none⟩) Uh (.string ((aN l0 dS).f2))).trans lG; replace lF := (cell_far (p := ⟨au, 2, none⟩) Uh (.string ((aN l0 dS).f2))).trans lF; clear yG; clear yF; clear yE; replace PG := eq_true PG; replace Ph := eq_true Ph) | ((with_reducible refine bD (N := 9) rfl ?_); refine bq ?hg (N := 9) ?hd (cs := #[.int .i64 0, .int .i64 0, .string (⟨#[]⟩ : ByteArray)]) (t := 23) ?hr ?_; (case hd => rfl); (case hg => rfl); (case hr => first | (go_simp; done) | (go_simp; rfl)); intro ay hg w22 bF hb; have av := ah.mk (bF); have iX := ah.mk ((jK : w.heap.size ≤ ay)); have iC := ah.mk ((jK : w.heap.size ≤ ay)); replace HB := ah.mk (aA zz5 hb); have aQ := ah.mk ((by rw [hg]; exact Nat.ne_of_lt (jL (g := au) (o := .cells #[.int .i64 ((aN l0 dS).f0), .int .i64 ((aN l0 dS).f1), .string ((aN l0 dS).f2)] 23 (0, 0)) Ug) : au ≠ ay)); have aW := ah.mk ((by rw [hg]; exact Nat.ne_of_gt (jL (g := au) (o := .cells #[.int .i64 ((aN l0 dS).f0), .int .i64 ((aN l0 dS).f1), .string ((aN l0 dS).f2)] 23 (0, 0)) Ug) : ay ≠ au)); replace ak := ah.mk (aI (g := au) (o := .cells #[.int .i64 ((aN l0 dS).f0), .int .i64 ((aN l0 dS).f1), .string ((aN l0 dS).f2)] 23 (0, 0)) Ug hb); clear hb bF hg; have hnb23 := aW.out; have hnc23 := aQ.out; have KV : w22.cell? ⟨ay, 0, none⟩ = some (.int .i64 0) := cK av 0; have KU : w22.cell? ⟨ay, 1, none⟩ = some (.int .i64 0) := cK av 1; have KT : w22.cell? ⟨ay, 2, none⟩ = some (.string (⟨#[]⟩ : ByteArray)) := cK av 2; have Kq := aj av.out 0; have Ko := aj av.out 1; have Kn := aj av.out 2; have Ck : w22.cell? ⟨au, 0, none⟩ = some (.int .i64 ((aN l0 dS).f0)) := cK ak 0; have Cj : w22.cell? ⟨au, 1, none⟩ = some (.int .i64 ((aN l0 dS).f1)) := cK ak 1; have Ci : w22.cell? ⟨au, 2, none⟩ = some (.string ((aN l0 dS).f2)) := cK ak 2; have BU := aj ak.out 0; have BS := aj ak.out 1; have BR := aj ak.out 2) | (go_at_call 137; (with_reducible refine (mH.calls ((aN l0 dS).f0) ((aN l0 dS).f1) ((aN l0 dS).f2) ((aN l1 dS).f0) ((aN l1 dS).f1) ((aN l1 dS).f2) Ih _ A11.out).mono ?_); rintro e w26 ⟨rfl, hb⟩; replace ak := ah.mk (aI (g := au) (o := .cells #[.int .i64 ((aN l0 dS).f0), .int .i64 ((aN l0 dS).f1), .string ((aN l0 dS).f2)] 23 (0, 0)) zz20 hb); replace av := ah.mk (aI (g := ay) (o := .cells #[.int .i64 ((aN l1 dS).f0), .int .i64 ((aN l1 dS).f1), .string ((aN l1 dS).f2)] 23 (0, 0)) (by (with_reducible repeat (first | refine aM ?_ _ | refine aK ?_ | refine aJ ?_ _)); refine bU (cs := #[.int .i64 ((aN l1 dS).f0), .int .i64 ((aN l1 dS).f1), .string (⟨#[]⟩ : ByteArray)]) ?_ 2 _ rfl; (with_reducible repeat (first | refine aM ?_ _ | refine aK ?_ | refine aJ ?_ _)); refine bU (cs := #[.int .i64 ((aN l1 dS).f0), .int .i64 0, .string (⟨#[]⟩ : ByteArray)]) ?_ 1 _ rfl; (with_reducible repeat (first | refine aM ?_ _ | refine aK ?_ | refine aJ ?_ _)); refine bU (cs := #[.int .i64 0, .int .i64 0, .string (⟨#[]⟩ : ByteArray)]) ?_ 0 _ rfl; (with_reducible repeat (first | refine aM ?_ _ | refine aK ?_ | refine aJ ?_ _)); exact av.out) hb); replace HB := ah.mk (aA fF hb); (try clear hb); (try clear hb2); (try clear hk); (try clear hi)))
         go_ret
         exact ⟨zz6, fF⟩
       ·rw [if_neg c10] at H; exact absurd H (by simp)
     ·rw [if_neg c6] at H; exact absurd H (by simp)
    ·rw [if_neg c5] at H; exact absurd H (by simp)
   ·rw [if_neg c4] at H; have lI : decide (dS < (l0.length : Int)) = false := decide_eq_false c4; clear c4
    by_cases c27 : (l0.length : Int) < (l1.length : Int)
    ·rw [if_pos c27] at H; have c27b0 : decide ((l0.length : Int) < (l1.length : Int)) = true := decide_eq_true c27; have c27b1 : decide (l0.length < l1.length) = true := decide_eq_true (Int.ofNat_lt.mp c27); clear c27; obtain rfl := Option.some.inj H
     go_wp2
     go_ret
     exact ⟨zz6, zz1⟩
    ·rw [if_neg c27] at H; have c27b0 : decide ((l0.length : Int) < (l1.length : Int)) = false := decide_eq_false c27; have c27b1 : decide (l0.length < l1.length) = false := decide_eq_false (fun h => c27 (Int.ofNat_lt.mpr h)); clear c27; obtain rfl := Option.some.inj H
     go_wp2
     go_ret
     exact ⟨zz6, zz1⟩
def dY.f (k : Nat) (l0 : List (S23)) (l1 : List (S23)) : Option (Int) := (iG.f k l0 l1).bind fun t135 => (some t135)
theorem dY.mono : ∀ a0 a1 k, LeO (dY.f k a0 a1) (dY.f (k + 1) a0 a1) := by
 intro a0 a1 k; unfold dY.f
 repeat' first
   | (with_reducible exact iG.mono _ _ _)
   | (with_reducible exact LeO.refl _)
   | (with_reducible exact LeO.none _)
   | (with_reducible refine LeO.ite ?_ ?_)
   | (with_reducible refine LeO.bind ?_ (fun _ => ?_))
   | exact iG.mono _ _ _
   | exact LeO.none _
   | refine LeO.ite ?_ ?_
   | refine LeO.bind ?_ (fun _ => ?_)
set_option maxHeartbeats 8000000 in
set_option maxRecDepth 100000 in
theorem dY.calls (k : Nat) (A0 : Option Addr) (c0 : Nat) (l0 : List (S23)) (A1 : Option Addr) (c1 : Nat) (l1 : List (S23)) (r : Int) (w : World) (hr0 : Kd.C k23 w A0 l0.length l0) (hc0 : l0.length ≤ c0) (hr1 : Kd.C k23 w A1 l1.length l1) (hc1 : l1.length ≤ c1) (h : dY.f k l0 l1 = some r) :
  Calls Try.prog 116 #[.slice A0 l0.length c0, .slice A1 l1.length c1] w fun e w' => e = .returned (.int .i64 r) ∧ Below w.heap.size w w' := by
 have HR0 := ah.mk hr0; have HC0 := ah.mk hc0; clear hr0 hc0; have HR1 := ah.mk hr1; have HC1 := ah.mk hc1; clear hr1 hc1; have HB := ah.mk (Below.refl w.heap.size w); have H := h; clear h
 dsimp only [dY.f] at H
 replace H := Option.bind_eq_some_iff.mp H; obtain ⟨t135, A30, H⟩ := H; have A3 := ah.mk A30; clear A30; obtain rfl := Option.some.inj H
 go_enter Try.func116, Try.ntmps116
 go_wp2_with (first | ((with_reducible refine aT (f := 136) rfl ?_); refine cu (some 7) rfl rfl Try.func136 (by kernel_rfl) rfl #[.slice A0 l0.length c0, .slice A1 l1.length c1, .func (.func 137) #[] #[]] rfl zz8 ?_; (with_reducible refine (iG.calls k _ _ l0 _ _ l1  t135 _ ?bZ ?cO ?sD ?xG A3.out).mono ?_); (case bZ => repeat (first | exact HR0.out | (with_reducible refine Kd.dW ?_ _) | (with_reducible refine Kd.d9 ?_ _) | (with_reducible refine Kd.eT ?_))); (case cO => exact HC0.out); (case sD => repeat (first | exact HR1.out | (with_reducible refine Kd.dW ?_ _) | (with_reducible refine Kd.d9 ?_ _) | (with_reducible refine Kd.eT ?_))); (case xG => exact HC1.out); rintro e w4 ⟨rfl, hb⟩; refine ⟨_, rfl, ?_⟩; replace HB := ah.mk (aA zz1 hb); (try clear hb); (try clear hb2); (try clear hk); (try clear hi)))
 go_ret
 exact ⟨zz6, zz1⟩
end Go.Proofs.Ythicocmnefaioaa.QO

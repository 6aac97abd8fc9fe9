import Derived.Test.YthicocmnefaioaaZfq
namespace Go.Proofs.Ythicocmnefaioaa.QS
open Go.RowKit Go.Proofs.YthicocmnefaioaaW.PrintWords Go.Proofs.YthicocmnefaioaaW.PrintLast Go.Proofs.YthicocmnefaioaaW.PrintMore
open Go.Proofs.YthicocmnefaioaaW.Sq
attribute [local go_sem] max2_int min2_int max_two min_two max_three min_three max_four min_four
set_option linter.unusedVariables false
set_option linter.unusedSimpArgs false
attribute [local go_sem high] own_string_gtr
theorem info2 : (Try.prog.info? 2).map (fun i => (i.zero, i.size, i.bytes)) = some (some (.int .i64 0), 1, 8) := by kernel_rfl
theorem info3 : (Try.prog.info? 3).map (fun i => (i.zero, i.size, i.bytes)) = some (some (.int .i64 0), 1, 8) := by kernel_rfl
theorem info5 : (Try.prog.info? 5).map (fun i => (i.zero, i.size, i.bytes)) = some (some (.int .u8 0), 1, 1) := by kernel_rfl
theorem info23 : (Try.prog.info? 23).map (fun i => (i.zero, i.size, i.bytes)) = some (some (.agg #[(.int .i64 0), (.int .i64 0), (.string ⟨#[]⟩)]), 3, 32) := by kernel_rfl
theorem info51 : (Try.prog.info? 51).map (fun i => (i.zero, i.size, i.bytes)) = some (some (.agg #[(.slice none 0 0), (.int .i64 0)]), 2, 32) := by kernel_rfl
structure S23 where
 f0 : Int
 f1 : Int
 f2 : ByteArray
def z23 : S23 := ⟨(0 : Int), (0 : Int), (⟨#[]⟩ : ByteArray)⟩
def k23 : Kd S23 := Kd.iso (Kd.pair (Kd.int .i64) (Kd.pair (Kd.int .i64) Kd.string)) (fun x : S23 => (x.f0, x.f1, x.f2))
theorem k23_open {w : World} {x : S23} {cs : List Value} (h : k23.K w x cs) : cs = [.int .i64 x.f0, .int .i64 x.f1, .string x.f2] := by
 obtain ⟨_, _, rfl, rfl, ⟨_, _, rfl, rfl, rfl⟩⟩ := h; exact rfl
theorem k23_mkM (w : World) (base : Nat) (ok : Nat → Prop) (x : S23)  : k23.M w base ok x [.int .i64 x.f0, .int .i64 x.f1, .string x.f2] := ⟨[.int .i64 x.f0], [.int .i64 x.f1, .string x.f2], rfl, rfl, ⟨[.int .i64 x.f1], [.string x.f2], rfl, rfl, rfl⟩⟩
def rd_T23 (xs : List S23) (i : Int) : S23 := xs.getD i.toNat z23
theorem at_T23 {w : World} {A : Option Addr} {n : Nat} {xs : List S23} (h : Kd.C k23 w A n xs) (i : Int) (h0 : 0 ≤ i) (h1 : i < n) : ∃ ad , A = some ad ∧ w.cell? (ad.add (i.toNat * 3)) = some (.int .i64 (rd_T23 xs i).f0) ∧ w.cell? ⟨(ad.add (i.toNat * 3)).block, (ad.add (i.toNat * 3)).off + 1, none⟩ = some (.int .i64 (rd_T23 xs i).f1) ∧ w.cell? ⟨(ad.add (i.toNat * 3)).block, (ad.add (i.toNat * 3)).off + 2, none⟩ = some (.string (rd_T23 xs i).f2) := by
 obtain ⟨ad, c, e, _, hK, hc0⟩ := Kd.C_get h z23 i h0 h1; have hc : ∀ j u, c[j]? = some u → w.cell? (ad.add (i.toNat * 3 + j)) = some u := hc0; obtain rfl := k23_open hK; exact ⟨ad, e, hc 0 _ rfl, by rw [← add_field _ _ 1 (by omega)]; exact hc 1 _ rfl, by rw [← add_field _ _ 2 (by omega)]; exact hc 2 _ rfl⟩
structure S51 where
 f0 : (List S23)
 f1 : Int
def z51 : S51 := ⟨([] : List S23), (0 : Int)⟩
def k51 : Kd S51 := Kd.iso (Kd.pair (Kd.slice 23 k23) (Kd.int .i64)) (fun x : S51 => (x.f0, x.f1))
theorem k51_open {w : World} {x : S51} {cs : List Value} (h : k51.K w x cs) : ∃ A0 c0, cs = [.slice A0 x.f0.length c0, .int .i64 x.f1] ∧ x.f0.length ≤ c0 ∧ k23.C w A0 x.f0.length x.f0 := by
 obtain ⟨_, _, rfl, ⟨A0, c0, rfl, l0, g0⟩, rfl⟩ := h; exact ⟨A0, c0, rfl, l0, g0⟩
theorem k51_openM {w : World} {base : Nat} {ok : Nat → Prop} {x : S51} {cs : List Value} (h : k51.M w base ok x cs) : ∃ v0, cs = [v0, .int .i64 x.f1] ∧ k23.R 23 w base ok v0 x.f0 := by
 obtain ⟨_, _, rfl, ⟨v0, rfl, g0⟩, rfl⟩ := h; exact ⟨v0, rfl, g0⟩
theorem k51_mk (w : World) (x : S51) {A0 : Option Addr} {c0 : Nat} (l0 : x.f0.length ≤ c0) (g0 : k23.C w A0 x.f0.length x.f0) : k51.K w x [.slice A0 x.f0.length c0, .int .i64 x.f1] := ⟨[.slice A0 x.f0.length c0], [.int .i64 x.f1], rfl, ⟨A0, c0, rfl, l0, g0⟩, rfl⟩
theorem k51_mkM (w : World) (base : Nat) (ok : Nat → Prop) (x : S51) {v0 : Value} (g0 : k23.R 23 w base ok v0 x.f0) : k51.M w base ok x [v0, .int .i64 x.f1] := ⟨[v0], [.int .i64 x.f1], rfl, ⟨v0, rfl, g0⟩, rfl⟩
theorem k51_openF {W : World} {ok : Nat → Prop} {x : S51} {cs : List Value} (h : Kd.FK k51 W ok x cs) : ∃ A0 c0, cs = [.slice A0 x.f0.length c0, .int .i64 x.f1] ∧ x.f0.length ≤ c0 ∧ Kd.F k23 W ok A0 x.f0.length x.f0 := by
 obtain ⟨A0, c0, rfl, l0, _⟩ := k51_open (Kd.FK_now h); exact ⟨A0, c0, rfl, l0, (fun W' hW => by obtain ⟨A0_, c0_, he, l0_, g0_⟩ := k51_open (h W' hW); injection (Option.some.inj (show some (Value.slice A0 x.f0.length c0) = some (Value.slice A0_ x.f0.length c0_) from congrArg (fun l => l[0]?) he)) with ha_ _ _; rw [ha_]; exact g0_)⟩
theorem k51_mkF (W : World) (ok : Nat → Prop) (x : S51) {A0 : Option Addr} {c0 : Nat} (l0 : x.f0.length ≤ c0) (g0 : Kd.F k23 W ok A0 x.f0.length x.f0) : Kd.FK k51 W ok x [.slice A0 x.f0.length c0, .int .i64 x.f1] := fun W2 hW => k51_mk W2 x l0 (g0 W2 hW)
def rd_T51 (xs : List S51) (i : Int) : S51 := xs.getD i.toNat z51
theorem at_T51 {w : World} {A : Option Addr} {n : Nat} {xs : List S51} (h : Kd.C k51 w A n xs) (i : Int) (h0 : 0 ≤ i) (h1 : i < n) : ∃ ad A0 c0, A = some ad ∧ w.cell? (ad.add (i.toNat * 2)) = some (.slice A0 (rd_T51 xs i).f0.length c0) ∧ w.cell? ⟨(ad.add (i.toNat * 2)).block, (ad.add (i.toNat * 2)).off + 1, none⟩ = some (.int .i64 (rd_T51 xs i).f1) ∧ (rd_T51 xs i).f0.length ≤ c0 ∧ k23.C w A0 (rd_T51 xs i).f0.length (rd_T51 xs i).f0 := by
 obtain ⟨ad, c, e, _, hK, hc0⟩ := Kd.C_get h z51 i h0 h1; have hc : ∀ j u, c[j]? = some u → w.cell? (ad.add (i.toNat * 2 + j)) = some u := hc0; obtain ⟨A0, c0, rfl, l0, g0⟩ := k51_open hK; exact ⟨ad, A0, c0, e, hc 0 _ rfl, by rw [← add_field _ _ 1 (by omega)]; exact hc 1 _ rfl, l0, g0⟩
mutual
def sketch_wellFormed.j0 : Nat → Bool → ByteArray → ByteArray → Int → Int → Int → Int → Option (Bool)
 | 0, _, _, _, _, _, _, _ => none
 | k + 1, x28, x102000, x102001, x102002, x102003, x102004, x102005 => if x28 = true then (some false) else (if x102003 = 0 then (sketch_wellFormed.j1 k x102003 (x102003 == 0) x102000 x102001 x102002 x102003 x102004 x102005) else (sketch_wellFormed.j1 k x102003 (x102003 == 1) x102000 x102001 x102002 x102003 x102004 x102005))
def sketch_wellFormed.j1 : Nat → Int → Bool → ByteArray → ByteArray → Int → Int → Int → Int → Option (Bool)
 | 0, _, _, _, _, _, _, _, _ => none
 | k + 1, x30, x31, x102000, x102001, x102002, x102003, x102004, x102005 => if x31 = true then (some true) else (if x30 = 2 then (some (x102005 == 1)) else (some false))
end
def sketch_wellFormed.f (k : Nat) (a0_0 : ByteArray) (a0_1 : ByteArray) (a0_2 : Int) (a0_3 : Int) (a0_4 : Int) (a0_5 : Int) : Option (Bool) := if a0_4 < 1 then (sketch_wellFormed.j0 k true a0_0 a0_1 a0_2 a0_3 a0_4 a0_5) else (if a0_4 > 1024 then (sketch_wellFormed.j0 k true a0_0 a0_1 a0_2 a0_3 a0_4 a0_5) else (if a0_5 < 1 then (sketch_wellFormed.j0 k true a0_0 a0_1 a0_2 a0_3 a0_4 a0_5) else (if a0_5 > 8 then (sketch_wellFormed.j0 k true a0_0 a0_1 a0_2 a0_3 a0_4 a0_5) else (sketch_wellFormed.j0 k (decide ((wrap64 (a0_4 * a0_5)) > 1024)) a0_0 a0_1 a0_2 a0_3 a0_4 a0_5))))
theorem sketch_wellFormed.mono_l : ∀ k, (∀ y0 y1 y2 y3 y4 y5 y6, LeO (sketch_wellFormed.j0 k y0 y1 y2 y3 y4 y5 y6) (sketch_wellFormed.j0 (k + 1) y0 y1 y2 y3 y4 y5 y6)) ∧ (∀ y0 y1 y2 y3 y4 y5 y6 y7, LeO (sketch_wellFormed.j1 k y0 y1 y2 y3 y4 y5 y6 y7) (sketch_wellFormed.j1 (k + 1) y0 y1 y2 y3 y4 y5 y6 y7))
 | 0 => ⟨fun _ _ _ _ _ _ _ r h => by simp [sketch_wellFormed.j0] at h, fun _ _ _ _ _ _ _ _ r h => by simp [sketch_wellFormed.j1] at h⟩
 | k + 1 => by
  obtain ⟨ih0, ih1⟩ := sketch_wellFormed.mono_l k; refine ⟨?_, ?_⟩
  ·intro y0 y1 y2 y3 y4 y5 y6; unfold sketch_wellFormed.j0
   repeat' first
   | (with_reducible exact ih0 _ _ _ _ _ _ _)
   | (with_reducible exact ih1 _ _ _ _ _ _ _ _)
   | (with_reducible exact LeO.refl _)
   | (with_reducible exact LeO.none _)
   | (with_reducible refine LeO.ite ?_ ?_)
   | (with_reducible refine LeO.bind ?_ (fun _ => ?_))
   | exact ih0 _ _ _ _ _ _ _
   | exact ih1 _ _ _ _ _ _ _ _
   | exact LeO.none _
   | refine LeO.ite ?_ ?_
   | refine LeO.bind ?_ (fun _ => ?_)
  ·intro y0 y1 y2 y3 y4 y5 y6 y7; unfold sketch_wellFormed.j1
   repeat' first
   | (with_reducible exact ih0 _ _ _ _ _ _ _)
   | (with_reducible exact ih1 _ _ _ _ _ _ _ _)
   | (with_reducible exact LeO.refl _)
   | (with_reducible exact LeO.none _)
   | (with_reducible refine LeO.ite ?_ ?_)
   | (with_reducible refine LeO.bind ?_ (fun _ => ?_))
   | exact ih0 _ _ _ _ _ _ _
   | exact ih1 _ _ _ _ _ _ _ _
   | exact LeO.none _
   | refine LeO.ite ?_ ?_
   | refine LeO.bind ?_ (fun _ => ?_)
theorem sketch_wellFormed.mono : ∀ a0 a1 a2 a3 a4 a5 k, LeO (sketch_wellFormed.f k a0 a1 a2 a3 a4 a5) (sketch_wellFormed.f (k + 1) a0 a1 a2 a3 a4 a5) := by
 intro a0 a1 a2 a3 a4 a5 k; obtain ⟨ih0, ih1⟩ := sketch_wellFormed.mono_l k; unfold sketch_wellFormed.f
 repeat' first
   | (with_reducible exact ih0 _ _ _ _ _ _ _)
   | (with_reducible exact ih1 _ _ _ _ _ _ _ _)
   | (with_reducible exact LeO.refl _)
   | (with_reducible exact LeO.none _)
   | (with_reducible refine LeO.ite ?_ ?_)
   | (with_reducible refine LeO.bind ?_ (fun _ => ?_))
   | exact ih0 _ _ _ _ _ _ _
   | exact ih1 _ _ _ _ _ _ _ _
   | exact LeO.none _
   | refine LeO.ite ?_ ?_
   | refine LeO.bind ?_ (fun _ => ?_)
set_option maxHeartbeats 8000000 in
set_option maxRecDepth 100000 in
theorem sketch_wellFormed.calls (k : Nat) (a0_0 : ByteArray) (a0_1 : ByteArray) (a0_2 : Int) (a0_3 : Int) (a0_4 : Int) (a0_5 : Int) (r : Bool) (w : World) (h : sketch_wellFormed.f k a0_0 a0_1 a0_2 a0_3 a0_4 a0_5 = some r) :
  Calls Try.prog 55 #[.agg #[.string a0_0, .string a0_1, .int .i64 a0_2, .int .i64 a0_3, .int .i64 a0_4, .int .i64 a0_5]] w fun e w' => e = .returned (.bool r) ∧ Below w.heap.size w w' := by
 have hu30 := Try.underlying30; have HB := Aside0.mk (Below.refl w.heap.size w); have H : (if a0_4 < 1 then (sketch_wellFormed.j0 k true a0_0 a0_1 a0_2 a0_3 a0_4 a0_5) else (if a0_4 > 1024 then (sketch_wellFormed.j0 k true a0_0 a0_1 a0_2 a0_3 a0_4 a0_5) else (if a0_5 < 1 then (sketch_wellFormed.j0 k true a0_0 a0_1 a0_2 a0_3 a0_4 a0_5) else (if a0_5 > 8 then (sketch_wellFormed.j0 k true a0_0 a0_1 a0_2 a0_3 a0_4 a0_5) else (sketch_wellFormed.j0 k (decide ((wrap64 (a0_4 * a0_5)) > 1024)) a0_0 a0_1 a0_2 a0_3 a0_4 a0_5))))) = some r := h; clear h; have HC2 := Aside0.mk H; clear H
 go_enter Try.func55, Try.ntmps55
 go_upto_region 1 with (first | ((with_reducible refine gate_dst (N := 1) rfl ?_); refine box_event ?hg (N := 1) ?hd (cs := #[.string a0_0, .string a0_1, .int .i64 a0_2, .int .i64 a0_3, .int .i64 a0_4, .int .i64 a0_5]) (t := 30) ?hr ?_; (case hd => rfl); (case hg => rfl); (case hr => first | (go_simp; done) | (go_simp; rfl)); intro gb100 hg w3 hbox hb; have n0_ := Aside0.mk (below_step zz0 hb); have n1_ := Aside0.mk (hbox); have n2_ := Aside0.mk ((zz1 : w.heap.size ≤ gb100)); have n3_ := Aside0.mk ((zz1 : w.heap.size ≤ gb100)); clear HB; have HB := n0_; have BK100 := n1_; have GW100 := n2_; have GE100 := n3_; clear n0_ n1_ n2_ n3_; clear hb hbox hg))
 (try simp only [Act.put, List.setIfInBounds_toArray, List.set_cons_zero, List.set_cons_succ])
 go_cut [28] (fun v28 wc => ∃ (kq : Nat) (x28_1 : Bool), v28 = .bool x28_1 ∧ Aside0 (sketch_wellFormed.j0 kq x28_1 a0_0 a0_1 a0_2 a0_3 a0_4 a0_5 = some r) ∧ Aside0 (kq ≤ k) ∧ Aside0 (wc.heap[gb100]? = some (.cells #[.string a0_0, .string a0_1, .int .i64 a0_2, .int .i64 a0_3, .int .i64 a0_4, .int .i64 a0_5] 30 (0, 0))) ∧ Aside0 (Below w.heap.size w wc))
 case first =>
  have H := HC2.out; clear HC2
  by_cases c4 : a0_4 < 1
  ·rw [if_pos c4] at H; have c4b0 : decide (a0_4 < 1) = true := decide_eq_true c4; clear c4; (first | rw [c4b0] | (simp only [i64_w, i32_w]; rw [c4b0]) | skip); have H' := Aside0.mk H; clear H; have hcz5_0 : w3.cell? ⟨gb100, 0, none⟩ = some (.string a0_0) := cK BK100 0; have hcz5_1 : w3.cell? ⟨gb100, 1, none⟩ = some (.string a0_1) := cK BK100 1; have hcz5_2 : w3.cell? ⟨gb100, 2, none⟩ = some (.int .i64 a0_2) := cK BK100 2; have hcz5_3 : w3.cell? ⟨gb100, 3, none⟩ = some (.int .i64 a0_3) := cK BK100 3; have hcz5_4 : w3.cell? ⟨gb100, 4, none⟩ = some (.int .i64 a0_4) := cK BK100 4; have hcz5_5 : w3.cell? ⟨gb100, 5, none⟩ = some (.int .i64 a0_5) := cK BK100 5; have hfz5_0 := blk_frozen BK100.out 0; have hfz5_1 := blk_frozen BK100.out 1; have hfz5_2 := blk_frozen BK100.out 2; have hfz5_3 := blk_frozen BK100.out 3; have hfz5_4 := blk_frozen BK100.out 4; have hfz5_5 := blk_frozen BK100.out 5
   go_wp2
   go_meet
   case rel => exact ⟨_, (true), zz2, H', ⟨zz3⟩, ⟨zz4⟩, ⟨zz5⟩⟩
  ·rw [if_neg c4] at H; have c4b0 : decide (a0_4 < 1) = false := decide_eq_false c4; clear c4; (first | rw [c4b0] | (simp only [i64_w, i32_w]; rw [c4b0]) | skip)
   by_cases c6 : a0_4 > 1024
   ·rw [if_pos c6] at H; have c6b0 : decide (1024 < a0_4) = true := decide_eq_true c6; clear c6; have H' := Aside0.mk H; clear H; have hcz7_0 : w3.cell? ⟨gb100, 0, none⟩ = some (.string a0_0) := cK BK100 0; have hcz7_1 : w3.cell? ⟨gb100, 1, none⟩ = some (.string a0_1) := cK BK100 1; have hcz7_2 : w3.cell? ⟨gb100, 2, none⟩ = some (.int .i64 a0_2) := cK BK100 2; have hcz7_3 : w3.cell? ⟨gb100, 3, none⟩ = some (.int .i64 a0_3) := cK BK100 3; have hcz7_4 : w3.cell? ⟨gb100, 4, none⟩ = some (.int .i64 a0_4) := cK BK100 4; have hcz7_5 : w3.cell? ⟨gb100, 5, none⟩ = some (.int .i64 a0_5) := cK BK100 5; have hfz7_0 := blk_frozen BK100.out 0; have hfz7_1 := blk_frozen BK100.out 1; have hfz7_2 := blk_frozen BK100.out 2; have hfz7_3 := blk_frozen BK100.out 3; have hfz7_4 := blk_frozen BK100.out 4; have hfz7_5 := blk_frozen BK100.out 5
    go_wp2
    go_meet
    case rel => exact ⟨_, (true), zz2, H', ⟨zz3⟩, ⟨zz4⟩, ⟨zz5⟩⟩
   ·rw [if_neg c6] at H; have c6b0 : decide (1024 < a0_4) = false := decide_eq_false c6; clear c6
    by_cases c8 : a0_5 < 1
    ·rw [if_pos c8] at H; have c8b0 : decide (a0_5 < 1) = true := decide_eq_true c8; clear c8; have H' := Aside0.mk H; clear H; have hcz9_0 : w3.cell? ⟨gb100, 0, none⟩ = some (.string a0_0) := cK BK100 0; have hcz9_1 : w3.cell? ⟨gb100, 1, none⟩ = some (.string a0_1) := cK BK100 1; have hcz9_2 : w3.cell? ⟨gb100, 2, none⟩ = some (.int .i64 a0_2) := cK BK100 2; have hcz9_3 : w3.cell? ⟨gb100, 3, none⟩ = some (.int .i64 a0_3) := cK BK100 3; have hcz9_4 : w3.cell? ⟨gb100, 4, none⟩ = some (.int .i64 a0_4) := cK BK100 4; have hcz9_5 : w3.cell? ⟨gb100, 5, none⟩ = some (.int .i64 a0_5) := cK BK100 5; have hfz9_0 := blk_frozen BK100.out 0; have hfz9_1 := blk_frozen BK100.out 1; have hfz9_2 := blk_frozen BK100.out 2; have hfz9_3 := blk_frozen BK100.out 3; have hfz9_4 := blk_frozen BK100.out 4; have hfz9_5 := blk_frozen BK100.out 5
     go_wp2
     go_meet
     case rel => exact ⟨_, (true), zz2, H', ⟨zz3⟩, ⟨zz4⟩, ⟨zz5⟩⟩
    ·rw [if_neg c8] at H; have c8b0 : decide (a0_5 < 1) = false := decide_eq_false c8; clear c8
     by_cases c10 : a0_5 > 8
     ·rw [if_pos c10] at H; have c10b0 : decide (8 < a0_5) = true := decide_eq_true c10; clear c10; have H' := Aside0.mk H; clear H; have hcz11_0 : w3.cell? ⟨gb100, 0, none⟩ = some (.string a0_0) := cK BK100 0; have hcz11_1 : w3.cell? ⟨gb100, 1, none⟩ = some (.string a0_1) := cK BK100 1; have hcz11_2 : w3.cell? ⟨gb100, 2, none⟩ = some (.int .i64 a0_2) := cK BK100 2; have hcz11_3 : w3.cell? ⟨gb100, 3, none⟩ = some (.int .i64 a0_3) := cK BK100 3; have hcz11_4 : w3.cell? ⟨gb100, 4, none⟩ = some (.int .i64 a0_4) := cK BK100 4; have hcz11_5 : w3.cell? ⟨gb100, 5, none⟩ = some (.int .i64 a0_5) := cK BK100 5; have hfz11_0 := blk_frozen BK100.out 0; have hfz11_1 := blk_frozen BK100.out 1; have hfz11_2 := blk_frozen BK100.out 2; have hfz11_3 := blk_frozen BK100.out 3; have hfz11_4 := blk_frozen BK100.out 4; have hfz11_5 := blk_frozen BK100.out 5
      go_wp2
      go_meet
      case rel => exact ⟨_, (true), zz2, H', ⟨zz3⟩, ⟨zz4⟩, ⟨zz5⟩⟩
     ·rw [if_neg c10] at H; have c10b0 : decide (8 < a0_5) = false := decide_eq_false c10; clear c10; have H' := Aside0.mk H; clear H; have hcz12_0 : w3.cell? ⟨gb100, 0, none⟩ = some (.string a0_0) := cK BK100 0; have hcz12_1 : w3.cell? ⟨gb100, 1, none⟩ = some (.string a0_1) := cK BK100 1; have hcz12_2 : w3.cell? ⟨gb100, 2, none⟩ = some (.int .i64 a0_2) := cK BK100 2; have hcz12_3 : w3.cell? ⟨gb100, 3, none⟩ = some (.int .i64 a0_3) := cK BK100 3; have hcz12_4 : w3.cell? ⟨gb100, 4, none⟩ = some (.int .i64 a0_4) := cK BK100 4; have hcz12_5 : w3.cell? ⟨gb100, 5, none⟩ = some (.int .i64 a0_5) := cK BK100 5; have hfz12_0 := blk_frozen BK100.out 0; have hfz12_1 := blk_frozen BK100.out 1; have hfz12_2 := blk_frozen BK100.out 2; have hfz12_3 := blk_frozen BK100.out 3; have hfz12_4 := blk_frozen BK100.out 4; have hfz12_5 := blk_frozen BK100.out 5
      go_wp2
      go_meet
      case rel => exact ⟨_, (decide ((wrap64 (a0_4 * a0_5)) > 1024)), zz2, H', ⟨zz3⟩, ⟨zz4⟩, ⟨zz5⟩⟩
 case rest =>
  clear HC2; (try clear c1); (try clear p2); (try clear c4); (try clear c4b0); (try clear c5); (try clear c6); (try clear c6b0); (try clear p6); (try clear c8); (try clear c8b0); (try clear c10); (try clear c10b0); (try clear hcz11_0); (try clear hcz11_1); (try clear hcz11_2); (try clear hcz11_3); (try clear hcz11_4); (try clear hcz11_5); (try clear hcz12_0); (try clear hcz12_1); (try clear hcz12_2); (try clear hcz12_3); (try clear hcz12_4); (try clear hcz12_5); (try clear hcz5_0); (try clear hcz5_1); (try clear hcz5_2); (try clear hcz5_3); (try clear hcz5_4); (try clear hcz5_5); (try clear hcz7_0); (try clear hcz7_1); (try clear hcz7_2); (try clear hcz7_3); (try clear hcz7_4); (try clear hcz7_5); (try clear hcz9_0); (try clear hcz9_1); (try clear hcz9_2); (try clear hcz9_3); (try clear hcz9_4); (try clear hcz9_5); (try clear hfz11_0); (try clear hfz11_1); (try clear hfz11_2); (try clear hfz11_3); (try clear hfz11_4); (try clear hfz11_5); (try clear hfz12_0); (try clear hfz12_1); (try clear hfz12_2); (try clear hfz12_3); (try clear hfz12_4); (try clear hfz12_5); (try clear hfz5_0); (try clear hfz5_1); (try clear hfz5_2); (try clear hfz5_3); (try clear hfz5_4); (try clear hfz5_5); (try clear hfz7_0); (try clear hfz7_1); (try clear hfz7_2); (try clear hfz7_3); (try clear hfz7_4); (try clear hfz7_5); (try clear hfz9_0); (try clear hfz9_1); (try clear hfz9_2); (try clear hfz9_3); (try clear hfz9_4); (try clear hfz9_5); obtain ⟨kq, x28_1, rfl, HA, HJ1, BK100, HB⟩ := hcut
  cases kq with
  | zero => exact absurd HA.out (by simp [sketch_wellFormed.j0])
  | succ kj1 =>
   have H := HA.out; clear HA; simp only [sketch_wellFormed.j0] at H
   by_cases c13 : x28_1 = true
   ·subst c13; have H1 : (some false) = some r := by rw [if_pos rfl] at H; exact H
    clear H; have H := H1; clear H1; obtain rfl := Option.some.inj H
    go_wp2
    go_ret
    exact ⟨zz6, zz5⟩
   ·replace c13 := Bool.eq_false_iff.mpr c13; subst c13; have H1 : (if a0_3 = 0 then (sketch_wellFormed.j1 kj1 a0_3 (a0_3 == 0) a0_0 a0_1 a0_2 a0_3 a0_4 a0_5) else (sketch_wellFormed.j1 kj1 a0_3 (a0_3 == 1) a0_0 a0_1 a0_2 a0_3 a0_4 a0_5)) = some r := by rw [if_neg (show ¬ (false = true) by decide)] at H; exact H
    clear H; have H := H1; clear H1; have HC14 := Aside0.mk H; clear H; have hcz15_0 : wc.cell? ⟨gb100, 0, none⟩ = some (.string a0_0) := cK BK100 0; have hcz15_1 : wc.cell? ⟨gb100, 1, none⟩ = some (.string a0_1) := cK BK100 1; have hcz15_2 : wc.cell? ⟨gb100, 2, none⟩ = some (.int .i64 a0_2) := cK BK100 2; have hcz15_3 : wc.cell? ⟨gb100, 3, none⟩ = some (.int .i64 a0_3) := cK BK100 3; have hcz15_4 : wc.cell? ⟨gb100, 4, none⟩ = some (.int .i64 a0_4) := cK BK100 4; have hcz15_5 : wc.cell? ⟨gb100, 5, none⟩ = some (.int .i64 a0_5) := cK BK100 5; have hfz15_0 := blk_frozen BK100.out 0; have hfz15_1 := blk_frozen BK100.out 1; have hfz15_2 := blk_frozen BK100.out 2; have hfz15_3 := blk_frozen BK100.out 3; have hfz15_4 := blk_frozen BK100.out 4; have hfz15_5 := blk_frozen BK100.out 5
    go_upto_if 31 with (fail)
    go_cut [31] (fun v31 wc => ∃ (kq : Nat) (x31_13 : Bool), v31 = .bool x31_13 ∧ Aside0 (sketch_wellFormed.j1 kq a0_3 x31_13 a0_0 a0_1 a0_2 a0_3 a0_4 a0_5 = some r) ∧ Aside0 (kq ≤ kj1) ∧ Aside0 (wc.heap[gb100]? = some (.cells #[.string a0_0, .string a0_1, .int .i64 a0_2, .int .i64 a0_3, .int .i64 a0_4, .int .i64 a0_5] 30 (0, 0))) ∧ Aside0 (Below w.heap.size w wc))
    case first =>
     have H := HC14.out; clear HC14
     by_cases c16 : a0_3 = 0
     ·rw [if_pos c16] at H; have c16b0 : (a0_3 == 0) = true := beq_iff_eq.mpr c16; have c16b1 : (a0_3 != 0) = false := bne_eq_false_iff_eq.mpr c16; clear c16; (first | rw [c16b0] | (simp only [i64_w, i32_w]; rw [c16b0]) | skip); have H' := Aside0.mk H; clear H
      go_wp2
      go_meet
      case rel => exact ⟨_, ((a0_3 == 0)), zz2, H', ⟨by have := HJ1.out; first | omega | exact Nat.le_refl _⟩, ⟨zz4⟩, ⟨zz5⟩⟩
     ·rw [if_neg c16] at H; have c16b0 : (a0_3 == 0) = false := beq_eq_false_iff_ne.mpr c16; have c16b1 : (a0_3 != 0) = true := bne_iff_ne.mpr c16; (first | rw [c16b0] | (simp only [i64_w, i32_w]; rw [c16b0]) | skip); have H' := Aside0.mk H; clear H
      go_wp2
      go_meet
      case rel => exact ⟨_, ((a0_3 == 1)), zz2, H', ⟨by have := HJ1.out; first | omega | exact Nat.le_refl _⟩, ⟨zz4⟩, ⟨zz5⟩⟩
    case rest =>
     clear HC14; (try clear c1); (try clear p2); (try clear c4); (try clear c4b0); (try clear c5); (try clear c6); (try clear c6b0); (try clear p6); (try clear c8); (try clear c8b0); (try clear c10); (try clear c10b0); (try clear c13); (try clear c16); (try clear c16b0); (try clear c16b1); (try clear hcz11_0); (try clear hcz11_1); (try clear hcz11_2); (try clear hcz11_3); (try clear hcz11_4); (try clear hcz11_5); (try clear hcz12_0); (try clear hcz12_1); (try clear hcz12_2); (try clear hcz12_3); (try clear hcz12_4); (try clear hcz12_5); (try clear hcz15_0); (try clear hcz15_1); (try clear hcz15_2); (try clear hcz15_3); (try clear hcz15_4); (try clear hcz15_5); (try clear hcz5_0); (try clear hcz5_1); (try clear hcz5_2); (try clear hcz5_3); (try clear hcz5_4); (try clear hcz5_5); (try clear hcz7_0); (try clear hcz7_1); (try clear hcz7_2); (try clear hcz7_3); (try clear hcz7_4); (try clear hcz7_5); (try clear hcz9_0); (try clear hcz9_1); (try clear hcz9_2); (try clear hcz9_3); (try clear hcz9_4); (try clear hcz9_5); (try clear hfz11_0); (try clear hfz11_1); (try clear hfz11_2); (try clear hfz11_3); (try clear hfz11_4); (try clear hfz11_5); (try clear hfz12_0); (try clear hfz12_1); (try clear hfz12_2); (try clear hfz12_3); (try clear hfz12_4); (try clear hfz12_5); (try clear hfz15_0); (try clear hfz15_1); (try clear hfz15_2); (try clear hfz15_3); (try clear hfz15_4); (try clear hfz15_5); (try clear hfz5_0); (try clear hfz5_1); (try clear hfz5_2); (try clear hfz5_3); (try clear hfz5_4); (try clear hfz5_5); (try clear hfz7_0); (try clear hfz7_1); (try clear hfz7_2); (try clear hfz7_3); (try clear hfz7_4); (try clear hfz7_5); (try clear hfz9_0); (try clear hfz9_1); (try clear hfz9_2); (try clear hfz9_3); (try clear hfz9_4); (try clear hfz9_5); (try clear p2); (try clear p6); obtain ⟨kq, x31_13, rfl, HA, HJ13, BK100, HB⟩ := hcut
     cases kq with
     | zero => exact absurd HA.out (by simp [sketch_wellFormed.j1])
     | succ kj13 =>
      have H := HA.out; clear HA; simp only [sketch_wellFormed.j1] at H
      by_cases c17 : x31_13 = true
      ·subst c17; have H1 : (some true) = some r := by rw [if_pos rfl] at H; exact H
       clear H; have H := H1; clear H1; obtain rfl := Option.some.inj H
       go_wp2
       go_ret
       exact ⟨zz6, zz5⟩
      ·replace c17 := Bool.eq_false_iff.mpr c17; subst c17; have H1 : (if a0_3 = 2 then (some (a0_5 == 1)) else (some false)) = some r := by rw [if_neg (show ¬ (false = true) by decide)] at H; exact H
       clear H; have H := H1; clear H1
       by_cases c18 : a0_3 = 2
       ·rw [if_pos c18] at H; have c18b0 : (a0_3 == 2) = true := beq_iff_eq.mpr c18; have c18b1 : (a0_3 != 2) = false := bne_eq_false_iff_eq.mpr c18; clear c18; obtain rfl := Option.some.inj H; have hcz19_0 : wc.cell? ⟨gb100, 0, none⟩ = some (.string a0_0) := cK BK100 0; have hcz19_1 : wc.cell? ⟨gb100, 1, none⟩ = some (.string a0_1) := cK BK100 1; have hcz19_2 : wc.cell? ⟨gb100, 2, none⟩ = some (.int .i64 a0_2) := cK BK100 2; have hcz19_3 : wc.cell? ⟨gb100, 3, none⟩ = some (.int .i64 a0_3) := cK BK100 3; have hcz19_4 : wc.cell? ⟨gb100, 4, none⟩ = some (.int .i64 a0_4) := cK BK100 4; have hcz19_5 : wc.cell? ⟨gb100, 5, none⟩ = some (.int .i64 a0_5) := cK BK100 5; have hfz19_0 := blk_frozen BK100.out 0; have hfz19_1 := blk_frozen BK100.out 1; have hfz19_2 := blk_frozen BK100.out 2; have hfz19_3 := blk_frozen BK100.out 3; have hfz19_4 := blk_frozen BK100.out 4; have hfz19_5 := blk_frozen BK100.out 5
        go_wp2
        go_ret
        exact ⟨zz6, zz5⟩
       ·rw [if_neg c18] at H; have c18b0 : (a0_3 == 2) = false := beq_eq_false_iff_ne.mpr c18; have c18b1 : (a0_3 != 2) = true := bne_iff_ne.mpr c18; obtain rfl := Option.some.inj H
        go_wp2
        go_ret
        exact ⟨zz6, zz5⟩
def value_inRange.f (a0 : Int) : Option (Bool) := if a0 ≥ (-4294967296) then (some (decide (a0 ≤ 4294967296))) else (some false)
set_option maxHeartbeats 8000000 in
set_option maxRecDepth 100000 in
theorem value_inRange.calls (a0 : Int) (r : Bool) (w : World) (h : value_inRange.f a0 = some r) :
  Calls Try.prog 99 #[.int .i64 a0] w fun e w' => e = .returned (.bool r) ∧ Drawn0 w w' := by
 have H : (if a0 ≥ (-4294967296) then (some (decide (a0 ≤ 4294967296))) else (some false)) = some r := h; clear h
 by_cases c2 : a0 ≥ (-4294967296)
 ·rw [if_pos c2] at H; have c2b0 : decide ((-4294967296) ≤ a0) = true := decide_eq_true c2; clear c2; obtain rfl := Option.some.inj H
  go_enter Try.func99, Try.ntmps99
  go_wp2
  go_ret
  exact ⟨zz2, zz7⟩
 ·rw [if_neg c2] at H; have c2b0 : decide ((-4294967296) ≤ a0) = false := decide_eq_false c2; clear c2; obtain rfl := Option.some.inj H
  go_enter Try.func99, Try.ntmps99
  go_wp2
  go_ret
  exact ⟨zz2, zz7⟩
def value_Valid.f (a0_0 : Int) (a0_1 : Int) (a0_2 : ByteArray) : Option (Bool) := if a0_0 = 0 then (if a0_1 = 0 then (some (a0_2.toList == ([] : List UInt8))) else (some false)) else (if a0_0 = 1 then ((value_inRange.f a0_1).bind fun t103 => (if t103 = true then (some (a0_2.toList == ([] : List UInt8))) else (some false))) else (if a0_0 = 2 then (if a0_1 = 0 then (some (decide ((a0_2.size : Int) ≤ 32))) else (some false)) else (some false)))
set_option maxHeartbeats 8000000 in
set_option maxRecDepth 100000 in
theorem value_Valid.calls (a0_0 : Int) (a0_1 : Int) (a0_2 : ByteArray) (r : Bool) (w : World) (h : value_Valid.f a0_0 a0_1 a0_2 = some r) :
  Calls Try.prog 69 #[.agg #[.int .i64 a0_0, .int .i64 a0_1, .string a0_2]] w fun e w' => e = .returned (.bool r) ∧ Below w.heap.size w w' := by
 have hu23 := Try.underlying23; have HB := Aside0.mk (Below.refl w.heap.size w); have H : (if a0_0 = 0 then (if a0_1 = 0 then (some (a0_2.toList == ([] : List UInt8))) else (some false)) else (if a0_0 = 1 then ((value_inRange.f a0_1).bind fun t103 => (if t103 = true then (some (a0_2.toList == ([] : List UInt8))) else (some false))) else (if a0_0 = 2 then (if a0_1 = 0 then (some (decide ((a0_2.size : Int) ≤ 32))) else (some false)) else (some false)))) = some r := h; clear h
 by_cases c2 : a0_0 = 0
 ·rw [if_pos c2] at H; have c2b0 : (a0_0 == 0) = true := beq_iff_eq.mpr c2; have c2b1 : (a0_0 != 0) = false := bne_eq_false_iff_eq.mpr c2; clear c2
  by_cases c3 : a0_1 = 0
  ·rw [if_pos c3] at H; have c3b0 : (a0_1 == 0) = true := beq_iff_eq.mpr c3; have c3b1 : (a0_1 != 0) = false := bne_eq_false_iff_eq.mpr c3; clear c3; obtain rfl := Option.some.inj H
   go_enter Try.func69, Try.ntmps69
   go_wp2_with (first | ((with_reducible refine gate_dst (N := 1) rfl ?_); (try (refine gate_guard (by rfl) ?_; dsimp only)); refine box_event ?hg (N := 1) ?hd (cs := #[.int .i64 a0_0, .int .i64 a0_1, .string a0_2]) (t := 23) ?hr ?_; (case hd => rfl); (case hg => rfl); (case hr => first | (go_simp; done) | (go_simp; rfl)); intro gb100 hg w4 hbox hb; have n0_ := Aside0.mk (below_step zz0 hb); have n1_ := Aside0.mk (hbox); have n2_ := Aside0.mk ((zz1 : w.heap.size ≤ gb100)); have n3_ := Aside0.mk ((zz1 : w.heap.size ≤ gb100)); clear HB; have HB := n0_; have BK100 := n1_; have GW100 := n2_; have GE100 := n3_; clear n0_ n1_ n2_ n3_; clear hb hbox hg; have hcz5_0 : w4.cell? ⟨gb100, 0, none⟩ = some (.int .i64 a0_0) := cK BK100 0; have hcz5_1 : w4.cell? ⟨gb100, 1, none⟩ = some (.int .i64 a0_1) := cK BK100 1; have hcz5_2 : w4.cell? ⟨gb100, 2, none⟩ = some (.string a0_2) := cK BK100 2; have hfz5_0 := blk_frozen BK100.out 0; have hfz5_1 := blk_frozen BK100.out 1; have hfz5_2 := blk_frozen BK100.out 2))
   go_ret
   exact ⟨zz6, zz5⟩
  ·rw [if_neg c3] at H; have c3b0 : (a0_1 == 0) = false := beq_eq_false_iff_ne.mpr c3; have c3b1 : (a0_1 != 0) = true := bne_iff_ne.mpr c3; obtain rfl := Option.some.inj H
   go_enter Try.func69, Try.ntmps69
   go_wp2_with (first | ((with_reducible refine gate_dst (N := 1) rfl ?_); (try (refine gate_guard (by rfl) ?_; dsimp only)); refine box_event ?hg (N := 1) ?hd (cs := #[.int .i64 a0_0, .int .i64 a0_1, .string a0_2]) (t := 23) ?hr ?_; (case hd => rfl); (case hg => rfl); (case hr => first | (go_simp; done) | (go_simp; rfl)); intro gb100 hg w6 hbox hb; have n0_ := Aside0.mk (below_step zz0 hb); have n1_ := Aside0.mk (hbox); have n2_ := Aside0.mk ((zz1 : w.heap.size ≤ gb100)); have n3_ := Aside0.mk ((zz1 : w.heap.size ≤ gb100)); clear HB; have HB := n0_; have BK100 := n1_; have GW100 := n2_; have GE100 := n3_; clear n0_ n1_ n2_ n3_; clear hb hbox hg; have hcz7_0 : w6.cell? ⟨gb100, 0, none⟩ = some (.int .i64 a0_0) := cK BK100 0; have hcz7_1 : w6.cell? ⟨gb100, 1, none⟩ = some (.int .i64 a0_1) := cK BK100 1; have hcz7_2 : w6.cell? ⟨gb100, 2, none⟩ = some (.string a0_2) := cK BK100 2; have hfz7_0 := blk_frozen BK100.out 0; have hfz7_1 := blk_frozen BK100.out 1; have hfz7_2 := blk_frozen BK100.out 2))
   go_ret
   exact ⟨zz6, zz5⟩
 ·rw [if_neg c2] at H; have c2b0 : (a0_0 == 0) = false := beq_eq_false_iff_ne.mpr c2; have c2b1 : (a0_0 != 0) = true := bne_iff_ne.mpr c2
  by_cases c8 : a0_0 = 1
  ·rw [if_pos c8] at H; have c8b0 : (a0_0 == 1) = true := beq_iff_eq.mpr c8; have c8b1 : (a0_0 != 1) = false := bne_eq_false_iff_eq.mpr c8; clear c8; replace H := Option.bind_eq_some_iff.mp H; obtain ⟨t103, A90, H⟩ := H; replace H : (if t103 = true then (some (a0_2.toList == ([] : List UInt8))) else (some false)) = some r := H; have A9 := Aside0.mk A90; clear A90
   by_cases c10 : t103 = true
   ·subst c10; have H1 : (some (a0_2.toList == ([] : List UInt8))) = some r := by rw [if_pos rfl] at H; exact H
    clear H; have H := H1; clear H1; obtain rfl := Option.some.inj H
    go_enter Try.func69, Try.ntmps69
    go_wp2_with (first | ((with_reducible refine gate_dst (N := 1) rfl ?_); (try (refine gate_guard (by rfl) ?_; dsimp only)); refine box_event ?hg (N := 1) ?hd (cs := #[.int .i64 a0_0, .int .i64 a0_1, .string a0_2]) (t := 23) ?hr ?_; (case hd => rfl); (case hg => rfl); (case hr => first | (go_simp; done) | (go_simp; rfl)); intro gb100 hg w11 hbox hb; have n0_ := Aside0.mk (below_step zz0 hb); have n1_ := Aside0.mk (hbox); have n2_ := Aside0.mk ((zz1 : w.heap.size ≤ gb100)); have n3_ := Aside0.mk ((zz1 : w.heap.size ≤ gb100)); clear HB; have HB := n0_; have BK100 := n1_; have GW100 := n2_; have GE100 := n3_; clear n0_ n1_ n2_ n3_; clear hb hbox hg; have hcz12_0 : w11.cell? ⟨gb100, 0, none⟩ = some (.int .i64 a0_0) := cK BK100 0; have hcz12_1 : w11.cell? ⟨gb100, 1, none⟩ = some (.int .i64 a0_1) := cK BK100 1; have hcz12_2 : w11.cell? ⟨gb100, 2, none⟩ = some (.string a0_2) := cK BK100 2; have hfz12_0 := blk_frozen BK100.out 0; have hfz12_1 := blk_frozen BK100.out 1; have hfz12_2 := blk_frozen BK100.out 2) | ((with_reducible refine gate_callee (f := 99) rfl ?_); refine goesL_ (some 19) rfl rfl Try.func99 (by kernel_rfl) rfl #[.int .i64 a0_1] rfl zz8 ?_; (with_reducible refine (value_inRange.calls a0_1 true _ A9.out).mono ?_); rintro e w' ⟨rfl, ⟨nd, rfl⟩⟩; refine ⟨_, rfl, ?_⟩))
    go_ret
    exact ⟨zz6, zz5⟩
   ·replace c10 := Bool.eq_false_iff.mpr c10; subst c10; have H1 : (some false) = some r := by rw [if_neg (show ¬ (false = true) by decide)] at H; exact H
    clear H; have H := H1; clear H1; obtain rfl := Option.some.inj H
    go_enter Try.func69, Try.ntmps69
    go_wp2_with (first | ((with_reducible refine gate_dst (N := 1) rfl ?_); (try (refine gate_guard (by rfl) ?_; dsimp only)); refine box_event ?hg (N := 1) ?hd (cs := #[.int .i64 a0_0, .int .i64 a0_1, .string a0_2]) (t := 23) ?hr ?_; (case hd => rfl); (case hg => rfl); (case hr => first | (go_simp; done) | (go_simp; rfl)); intro gb100 hg w13 hbox hb; have n0_ := Aside0.mk (below_step zz0 hb); have n1_ := Aside0.mk (hbox); have n2_ := Aside0.mk ((zz1 : w.heap.size ≤ gb100)); have n3_ := Aside0.mk ((zz1 : w.heap.size ≤ gb100)); clear HB; have HB := n0_; have BK100 := n1_; have GW100 := n2_; have GE100 := n3_; clear n0_ n1_ n2_ n3_; clear hb hbox hg; have hcz14_0 : w13.cell? ⟨gb100, 0, none⟩ = some (.int .i64 a0_0) := cK BK100 0; have hcz14_1 : w13.cell? ⟨gb100, 1, none⟩ = some (.int .i64 a0_1) := cK BK100 1; have hcz14_2 : w13.cell? ⟨gb100, 2, none⟩ = some (.string a0_2) := cK BK100 2; have hfz14_0 := blk_frozen BK100.out 0; have hfz14_1 := blk_frozen BK100.out 1; have hfz14_2 := blk_frozen BK100.out 2) | ((with_reducible refine gate_callee (f := 99) rfl ?_); refine goesL_ (some 19) rfl rfl Try.func99 (by kernel_rfl) rfl #[.int .i64 a0_1] rfl zz8 ?_; (with_reducible refine (value_inRange.calls a0_1 false _ A9.out).mono ?_); rintro e w' ⟨rfl, ⟨nd, rfl⟩⟩; refine ⟨_, rfl, ?_⟩))
    go_ret
    exact ⟨zz6, zz5⟩
  ·rw [if_neg c8] at H; have c8b0 : (a0_0 == 1) = false := beq_eq_false_iff_ne.mpr c8; have c8b1 : (a0_0 != 1) = true := bne_iff_ne.mpr c8
   by_cases c15 : a0_0 = 2
   ·rw [if_pos c15] at H; have c15b0 : (a0_0 == 2) = true := beq_iff_eq.mpr c15; have c15b1 : (a0_0 != 2) = false := bne_eq_false_iff_eq.mpr c15; clear c15
    by_cases c16 : a0_1 = 0
    ·rw [if_pos c16] at H; have c16b0 : (a0_1 == 0) = true := beq_iff_eq.mpr c16; have c16b1 : (a0_1 != 0) = false := bne_eq_false_iff_eq.mpr c16; clear c16; obtain rfl := Option.some.inj H
     go_enter Try.func69, Try.ntmps69
     go_wp2_with (first | ((with_reducible refine gate_dst (N := 1) rfl ?_); (try (refine gate_guard (by rfl) ?_; dsimp only)); refine box_event ?hg (N := 1) ?hd (cs := #[.int .i64 a0_0, .int .i64 a0_1, .string a0_2]) (t := 23) ?hr ?_; (case hd => rfl); (case hg => rfl); (case hr => first | (go_simp; done) | (go_simp; rfl)); intro gb100 hg w17 hbox hb; have n0_ := Aside0.mk (below_step zz0 hb); have n1_ := Aside0.mk (hbox); have n2_ := Aside0.mk ((zz1 : w.heap.size ≤ gb100)); have n3_ := Aside0.mk ((zz1 : w.heap.size ≤ gb100)); clear HB; have HB := n0_; have BK100 := n1_; have GW100 := n2_; have GE100 := n3_; clear n0_ n1_ n2_ n3_; clear hb hbox hg; have hcz18_0 : w17.cell? ⟨gb100, 0, none⟩ = some (.int .i64 a0_0) := cK BK100 0; have hcz18_1 : w17.cell? ⟨gb100, 1, none⟩ = some (.int .i64 a0_1) := cK BK100 1; have hcz18_2 : w17.cell? ⟨gb100, 2, none⟩ = some (.string a0_2) := cK BK100 2; have hfz18_0 := blk_frozen BK100.out 0; have hfz18_1 := blk_frozen BK100.out 1; have hfz18_2 := blk_frozen BK100.out 2))
     go_ret
     exact ⟨zz6, zz5⟩
    ·rw [if_neg c16] at H; have c16b0 : (a0_1 == 0) = false := beq_eq_false_iff_ne.mpr c16; have c16b1 : (a0_1 != 0) = true := bne_iff_ne.mpr c16; obtain rfl := Option.some.inj H
     go_enter Try.func69, Try.ntmps69
     go_wp2_with (first | ((with_reducible refine gate_dst (N := 1) rfl ?_); (try (refine gate_guard (by rfl) ?_; dsimp only)); refine box_event ?hg (N := 1) ?hd (cs := #[.int .i64 a0_0, .int .i64 a0_1, .string a0_2]) (t := 23) ?hr ?_; (case hd => rfl); (case hg => rfl); (case hr => first | (go_simp; done) | (go_simp; rfl)); intro gb100 hg w19 hbox hb; have n0_ := Aside0.mk (below_step zz0 hb); have n1_ := Aside0.mk (hbox); have n2_ := Aside0.mk ((zz1 : w.heap.size ≤ gb100)); have n3_ := Aside0.mk ((zz1 : w.heap.size ≤ gb100)); clear HB; have HB := n0_; have BK100 := n1_; have GW100 := n2_; have GE100 := n3_; clear n0_ n1_ n2_ n3_; clear hb hbox hg; have hcz20_0 : w19.cell? ⟨gb100, 0, none⟩ = some (.int .i64 a0_0) := cK BK100 0; have hcz20_1 : w19.cell? ⟨gb100, 1, none⟩ = some (.int .i64 a0_1) := cK BK100 1; have hcz20_2 : w19.cell? ⟨gb100, 2, none⟩ = some (.string a0_2) := cK BK100 2; have hfz20_0 := blk_frozen BK100.out 0; have hfz20_1 := blk_frozen BK100.out 1; have hfz20_2 := blk_frozen BK100.out 2))
     go_ret
     exact ⟨zz6, zz5⟩
   ·rw [if_neg c15] at H; have c15b0 : (a0_0 == 2) = false := beq_eq_false_iff_ne.mpr c15; have c15b1 : (a0_0 != 2) = true := bne_iff_ne.mpr c15; obtain rfl := Option.some.inj H
    go_enter Try.func69, Try.ntmps69
    go_wp2_with (first | ((with_reducible refine gate_dst (N := 1) rfl ?_); (try (refine gate_guard (by rfl) ?_; dsimp only)); refine box_event ?hg (N := 1) ?hd (cs := #[.int .i64 a0_0, .int .i64 a0_1, .string a0_2]) (t := 23) ?hr ?_; (case hd => rfl); (case hg => rfl); (case hr => first | (go_simp; done) | (go_simp; rfl)); intro gb100 hg w21 hbox hb; have n0_ := Aside0.mk (below_step zz0 hb); have n1_ := Aside0.mk (hbox); have n2_ := Aside0.mk ((zz1 : w.heap.size ≤ gb100)); have n3_ := Aside0.mk ((zz1 : w.heap.size ≤ gb100)); clear HB; have HB := n0_; have BK100 := n1_; have GW100 := n2_; have GE100 := n3_; clear n0_ n1_ n2_ n3_; clear hb hbox hg; have hcz22_0 : w21.cell? ⟨gb100, 0, none⟩ = some (.int .i64 a0_0) := cK BK100 0; have hcz22_1 : w21.cell? ⟨gb100, 1, none⟩ = some (.int .i64 a0_1) := cK BK100 1; have hcz22_2 : w21.cell? ⟨gb100, 2, none⟩ = some (.string a0_2) := cK BK100 2; have hfz22_0 := blk_frozen BK100.out 0; have hfz22_1 := blk_frozen BK100.out 1; have hfz22_2 := blk_frozen BK100.out 2))
    go_ret
    exact ⟨zz6, zz5⟩
def value_ValidRow.l0 : Nat → List (S23) → List (S23) → Int → Int → Option (Bool)
 | 0, _, _, _, _ => none
 | k + 1, x0, x5, x6, x7 => if x7 < x6 then (if 0 ≤ x7 then (if x7 < (x5.length : Int) then ((value_Valid.f ((rd_T23 x5 x7).f0) ((rd_T23 x5 x7).f1) ((rd_T23 x5 x7).f2)).bind fun t106 => (if t106 = true then (value_ValidRow.l0 k x0 x5 x6 (wrap64 (x7 + 1))) else (some false))) else (none)) else (none)) else (some (decide ((x0.length : Int) ≤ 16)))
def value_ValidRow.f (k : Nat) (l0 : List (S23)) : Option (Bool) := value_ValidRow.l0 k l0 l0 (l0.length : Int) 0
theorem value_ValidRow.mono_l : ∀ k, (∀ y0 y1 y2 y3, LeO (value_ValidRow.l0 k y0 y1 y2 y3) (value_ValidRow.l0 (k + 1) y0 y1 y2 y3))
 | 0 => fun _ _ _ _ r h => by simp [value_ValidRow.l0] at h
 | k + 1 => by
  have ih0 := value_ValidRow.mono_l k
  ·intro y0 y1 y2 y3; unfold value_ValidRow.l0
   repeat' first
   | (with_reducible exact ih0 _ _ _ _)
   | (with_reducible exact LeO.refl _)
   | (with_reducible exact LeO.none _)
   | (with_reducible refine LeO.ite ?_ ?_)
   | (with_reducible refine LeO.bind ?_ (fun _ => ?_))
   | exact ih0 _ _ _ _
   | exact LeO.none _
   | refine LeO.ite ?_ ?_
   | refine LeO.bind ?_ (fun _ => ?_)
theorem value_ValidRow.mono : ∀ a0 k, LeO (value_ValidRow.f k a0) (value_ValidRow.f (k + 1) a0) := by
 intro a0 k; have ih0 := value_ValidRow.mono_l k; unfold value_ValidRow.f
 repeat' first
   | (with_reducible exact ih0 _ _ _ _)
   | (with_reducible exact LeO.refl _)
   | (with_reducible exact LeO.none _)
   | (with_reducible refine LeO.ite ?_ ?_)
   | (with_reducible refine LeO.bind ?_ (fun _ => ?_))
   | exact ih0 _ _ _ _
   | exact LeO.none _
   | refine LeO.ite ?_ ?_
   | refine LeO.bind ?_ (fun _ => ?_)
set_option maxHeartbeats 8000000 in
set_option maxRecDepth 100000 in
theorem value_ValidRow.calls (k : Nat) (A0 : Option Addr) (c0 : Nat) (l0 : List (S23)) (r : Bool) (w : World) (hr0 : Kd.C k23 w A0 l0.length l0) (hc0 : l0.length ≤ c0) (h : value_ValidRow.f k l0 = some r) :
  Calls Try.prog 110 #[.slice A0 l0.length c0] w fun e w' => e = .returned (.bool r) ∧ Below w.heap.size w w' := by
 have hu23 := Try.underlying23; have HR0 := Aside0.mk hr0; have HC0 := Aside0.mk hc0; clear hr0 hc0; have HB := Aside0.mk (Below.refl w.heap.size w); have H : (value_ValidRow.l0 k l0 l0 (l0.length : Int) 0) = some r := h; clear h; have H' := Aside0.mk H; clear H
 go_enter Try.func110, Try.ntmps110
 go_wp2
 go_loopg [7] k (fun kq v7 w' => ∃ (x7_1 : Int), v7 = .int .i64 x7_1 ∧ Aside0 (value_ValidRow.l0 kq l0 l0 (l0.length : Int) x7_1 = some r) ∧ Aside0 (kq ≤ k) ∧ Aside0 (Below w.heap.size w w'))
 case atStart => exact ⟨(0), zz2, H', ⟨Nat.le_refl _⟩, ⟨zz0⟩⟩
 case round =>
  clear H'; (try clear c1); obtain ⟨x7_1, rfl, HA, HK1, HB⟩ := hrel
  cases gk with
  | zero => exact absurd HA.out (by simp [value_ValidRow.l0])
  | succ k1 =>
   have H := HA.out; clear HA; simp only [value_ValidRow.l0] at H
   by_cases c2 : x7_1 < (l0.length : Int)
   ·rw [if_pos c2] at H; have c2b0 : decide (x7_1 < (l0.length : Int)) = true := decide_eq_true c2; clear c2
    by_cases c3 : 0 ≤ x7_1
    ·rw [if_pos c3] at H; have c3b0 : decide (0 ≤ x7_1) = true := decide_eq_true c3; clear c3
     by_cases c4 : x7_1 < (l0.length : Int)
     ·rw [if_pos c4] at H; have c4b0 : decide (x7_1 < (l0.length : Int)) = true := decide_eq_true c4; clear c4; replace H := Option.bind_eq_some_iff.mp H; obtain ⟨t106, A50, H⟩ := H; replace H : (if t106 = true then (value_ValidRow.l0 k1 l0 l0 (l0.length : Int) (wrap64 (x7_1 + 1))) else (some false)) = some r := H; have A5 := Aside0.mk A50; clear A50
      by_cases c6 : t106 = true
      ·subst c6; have H1 : (value_ValidRow.l0 k1 l0 l0 (l0.length : Int) (wrap64 (x7_1 + 1))) = some r := by rw [if_pos rfl] at H; exact H
       clear H; have H := H1; clear H1; have H' := Aside0.mk H; clear H; have p104 : 0 ≤ (x7_1 : Int) := of_decide_eq_true zz9; have q104 : x7_1 < (l0.length : Int) := of_decide_eq_true zz9; obtain ⟨ad104, e104, hx104_0, hx104_1, hx104_2⟩ := at_T23 HR0.out x7_1 p104 q104
       cases e104
       replace hx104_0 := cB HB hx104_0; replace hx104_1 := cB HB hx104_1; replace hx104_2 := cB HB hx104_2; replace p104 := eq_true p104; replace q104 := eq_true q104
       go_wp2_with (first | ((with_reducible refine gate_dst (N := 4) rfl ?_); refine box_event ?hg (N := 4) ?hd (cs := #[.int .i64 0, .int .i64 0, .string (⟨#[]⟩ : ByteArray)]) (t := 23) ?hr ?_; (case hd => rfl); (case hg => rfl); (case hr => first | (go_simp; done) | (go_simp; rfl)); intro gb100 hg w7 hbox hb; have n0_ := Aside0.mk (below_step zz0 hb); have n1_ := Aside0.mk (hbox); have n2_ := Aside0.mk ((zz1 : w.heap.size ≤ gb100)); have n3_ := Aside0.mk ((zz1 : w.heap.size ≤ gb100)); clear HB; have HB := n0_; have BK100 := n1_; have GW100 := n2_; have GE100 := n3_; clear n0_ n1_ n2_ n3_; clear hb hbox hg; have hcz8_0 : w7.cell? ⟨gb100, 0, none⟩ = some (.int .i64 0) := cK BK100 0; have hcz8_1 : w7.cell? ⟨gb100, 1, none⟩ = some (.int .i64 0) := cK BK100 1; have hcz8_2 : w7.cell? ⟨gb100, 2, none⟩ = some (.string (⟨#[]⟩ : ByteArray)) := cK BK100 2; have hfz8_0 := blk_frozen BK100.out 0; have hfz8_1 := blk_frozen BK100.out 1; have hfz8_2 := blk_frozen BK100.out 2) | ((with_reducible refine gate_callee (f := 69) rfl ?_); refine goesL_ (some 12) rfl rfl Try.func69 (by kernel_rfl) rfl #[.agg #[.int .i64 ((rd_T23 l0 x7_1).f0), .int .i64 ((rd_T23 l0 x7_1).f1), .string ((rd_T23 l0 x7_1).f2)]] rfl zz8 ?_; (with_reducible refine (value_Valid.calls ((rd_T23 l0 x7_1).f0) ((rd_T23 l0 x7_1).f1) ((rd_T23 l0 x7_1).f2) true _ A5.out).mono ?_); rintro e w9 ⟨rfl, hb⟩; refine ⟨_, rfl, ?_⟩; have n0_ := Aside0.mk (blk_below (g := gb100) (o := .cells #[.int .i64 ((rd_T23 l0 x7_1).f0), .int .i64 ((rd_T23 l0 x7_1).f1), .string ((rd_T23 l0 x7_1).f2)] 23 (0, 0)) (by (with_reducible repeat (first | refine blk_drewN ?_ _ | refine blk_drew ?_ | refine blk_alloc ?_ _)); refine blk_put (cs := #[.int .i64 ((rd_T23 l0 x7_1).f0), .int .i64 ((rd_T23 l0 x7_1).f1), .string (⟨#[]⟩ : ByteArray)]) ?_ 2 _ rfl; (with_reducible repeat (first | refine blk_drewN ?_ _ | refine blk_drew ?_ | refine blk_alloc ?_ _)); refine blk_put (cs := #[.int .i64 ((rd_T23 l0 x7_1).f0), .int .i64 0, .string (⟨#[]⟩ : ByteArray)]) ?_ 1 _ rfl; (with_reducible repeat (first | refine blk_drewN ?_ _ | refine blk_drew ?_ | refine blk_alloc ?_ _)); refine blk_put (cs := #[.int .i64 0, .int .i64 0, .string (⟨#[]⟩ : ByteArray)]) ?_ 0 _ rfl; (with_reducible repeat (first | refine blk_drewN ?_ _ | refine blk_drew ?_ | refine blk_alloc ?_ _)); exact BK100.out) hb); have n1_ := Aside0.mk (below_step zz5 hb); clear BK100; clear HB; have BK100 := n0_; have HB := n1_; clear n0_ n1_; (try clear hb); (try clear hb2); (try clear hk); (try clear hi)))
       go_roundg k1
       case measure => have := HK1.out; omega
       case rel => exact ⟨(wrap64 (x7_1 + 1)), zz2, H', ⟨by have := HK1.out; omega⟩, ⟨zz5⟩⟩
      ·replace c6 := Bool.eq_false_iff.mpr c6; subst c6; have H1 : (some false) = some r := by rw [if_neg (show ¬ (false = true) by decide)] at H; exact H
       clear H; have H := H1; clear H1; obtain rfl := Option.some.inj H; have p104 : 0 ≤ (x7_1 : Int) := of_decide_eq_true zz9; have q104 : x7_1 < (l0.length : Int) := of_decide_eq_true zz9; obtain ⟨ad104, e104, hx104_0, hx104_1, hx104_2⟩ := at_T23 HR0.out x7_1 p104 q104
       cases e104
       replace hx104_0 := cB HB hx104_0; replace hx104_1 := cB HB hx104_1; replace hx104_2 := cB HB hx104_2; replace p104 := eq_true p104; replace q104 := eq_true q104
       go_wp2_with (first | ((with_reducible refine gate_dst (N := 4) rfl ?_); refine box_event ?hg (N := 4) ?hd (cs := #[.int .i64 0, .int .i64 0, .string (⟨#[]⟩ : ByteArray)]) (t := 23) ?hr ?_; (case hd => rfl); (case hg => rfl); (case hr => first | (go_simp; done) | (go_simp; rfl)); intro gb100 hg w10 hbox hb; have n0_ := Aside0.mk (below_step zz0 hb); have n1_ := Aside0.mk (hbox); have n2_ := Aside0.mk ((zz1 : w.heap.size ≤ gb100)); have n3_ := Aside0.mk ((zz1 : w.heap.size ≤ gb100)); clear HB; have HB := n0_; have BK100 := n1_; have GW100 := n2_; have GE100 := n3_; clear n0_ n1_ n2_ n3_; clear hb hbox hg; have hcz11_0 : w10.cell? ⟨gb100, 0, none⟩ = some (.int .i64 0) := cK BK100 0; have hcz11_1 : w10.cell? ⟨gb100, 1, none⟩ = some (.int .i64 0) := cK BK100 1; have hcz11_2 : w10.cell? ⟨gb100, 2, none⟩ = some (.string (⟨#[]⟩ : ByteArray)) := cK BK100 2; have hfz11_0 := blk_frozen BK100.out 0; have hfz11_1 := blk_frozen BK100.out 1; have hfz11_2 := blk_frozen BK100.out 2) | ((with_reducible refine gate_callee (f := 69) rfl ?_); refine goesL_ (some 12) rfl rfl Try.func69 (by kernel_rfl) rfl #[.agg #[.int .i64 ((rd_T23 l0 x7_1).f0), .int .i64 ((rd_T23 l0 x7_1).f1), .string ((rd_T23 l0 x7_1).f2)]] rfl zz8 ?_; (with_reducible refine (value_Valid.calls ((rd_T23 l0 x7_1).f0) ((rd_T23 l0 x7_1).f1) ((rd_T23 l0 x7_1).f2) false _ A5.out).mono ?_); rintro e w12 ⟨rfl, hb⟩; refine ⟨_, rfl, ?_⟩; have n0_ := Aside0.mk (blk_below (g := gb100) (o := .cells #[.int .i64 ((rd_T23 l0 x7_1).f0), .int .i64 ((rd_T23 l0 x7_1).f1), .string ((rd_T23 l0 x7_1).f2)] 23 (0, 0)) (by (with_reducible repeat (first | refine blk_drewN ?_ _ | refine blk_drew ?_ | refine blk_alloc ?_ _)); refine blk_put (cs := #[.int .i64 ((rd_T23 l0 x7_1).f0), .int .i64 ((rd_T23 l0 x7_1).f1), .string (⟨#[]⟩ : ByteArray)]) ?_ 2 _ rfl; (with_reducible repeat (first | refine blk_drewN ?_ _ | refine blk_drew ?_ | refine blk_alloc ?_ _)); refine blk_put (cs := #[.int .i64 ((rd_T23 l0 x7_1).f0), .int .i64 0, .string (⟨#[]⟩ : ByteArray)]) ?_ 1 _ rfl; (with_reducible repeat (first | refine blk_drewN ?_ _ | refine blk_drew ?_ | refine blk_alloc ?_ _)); refine blk_put (cs := #[.int .i64 0, .int .i64 0, .string (⟨#[]⟩ : ByteArray)]) ?_ 0 _ rfl; (with_reducible repeat (first | refine blk_drewN ?_ _ | refine blk_drew ?_ | refine blk_alloc ?_ _)); exact BK100.out) hb); have n1_ := Aside0.mk (below_step zz5 hb); clear BK100; clear HB; have BK100 := n0_; have HB := n1_; clear n0_ n1_; (try clear hb); (try clear hb2); (try clear hk); (try clear hi)))
       go_ret
       exact ⟨zz6, zz5⟩
     ·rw [if_neg c4] at H; exact absurd H (by simp)
    ·rw [if_neg c3] at H; exact absurd H (by simp)
   ·rw [if_neg c2] at H; have c2b0 : decide (x7_1 < (l0.length : Int)) = false := decide_eq_false c2; clear c2; obtain rfl := Option.some.inj H
    go_wp2
    go_ret
    exact ⟨zz6, zz0⟩
def bag_countFits.f (a0 : Int) : Option (Bool) := if a0 ≥ (-262144) then (some (decide (a0 ≤ 262144))) else (some false)
set_option maxHeartbeats 8000000 in
set_option maxRecDepth 100000 in
theorem bag_countFits.calls (a0 : Int) (r : Bool) (w : World) (h : bag_countFits.f a0 = some r) :
  Calls Try.prog 135 #[.int .i64 a0] w fun e w' => e = .returned (.bool r) ∧ Drawn0 w w' := by
 have H : (if a0 ≥ (-262144) then (some (decide (a0 ≤ 262144))) else (some false)) = some r := h; clear h
 by_cases c2 : a0 ≥ (-262144)
 ·rw [if_pos c2] at H; have c2b0 : decide ((-262144) ≤ a0) = true := decide_eq_true c2; clear c2; obtain rfl := Option.some.inj H
  go_enter Try.func135, Try.ntmps135
  go_wp2
  go_ret
  exact ⟨zz2, zz7⟩
 ·rw [if_neg c2] at H; have c2b0 : decide ((-262144) ≤ a0) = false := decide_eq_false c2; clear c2; obtain rfl := Option.some.inj H
  go_enter Try.func135, Try.ntmps135
  go_wp2
  go_ret
  exact ⟨zz2, zz7⟩
def bag_entryFits.f (k : Nat) (l0_0 : List (S23)) (a0_1 : Int) : Option (Bool) := (value_ValidRow.f k l0_0).bind fun t108 => (if t108 = true then ((bag_countFits.f a0_1).bind fun t109 => (some t109)) else (some false))
theorem bag_entryFits.mono : ∀ a0 a1 k, LeO (bag_entryFits.f k a0 a1) (bag_entryFits.f (k + 1) a0 a1) := by
 intro a0 a1 k; unfold bag_entryFits.f
 repeat' first
   | (with_reducible exact value_ValidRow.mono _ _)
   | (with_reducible exact LeO.refl _)
   | (with_reducible exact LeO.none _)
   | (with_reducible refine LeO.ite ?_ ?_)
   | (with_reducible refine LeO.bind ?_ (fun _ => ?_))
   | exact value_ValidRow.mono _ _
   | exact LeO.none _
   | refine LeO.ite ?_ ?_
   | refine LeO.bind ?_ (fun _ => ?_)
set_option maxHeartbeats 8000000 in
set_option maxRecDepth 100000 in
theorem bag_entryFits.calls (k : Nat) (A0_0 : Option Addr) (c0_0 : Nat) (l0_0 : List (S23)) (a0_1 : Int) (r : Bool) (w : World) (hr0_0 : Kd.C k23 w A0_0 l0_0.length l0_0) (hc0_0 : l0_0.length ≤ c0_0) (h : bag_entryFits.f k l0_0 a0_1 = some r) :
  Calls Try.prog 115 #[.agg #[.slice A0_0 l0_0.length c0_0, .int .i64 a0_1]] w fun e w' => e = .returned (.bool r) ∧ Below w.heap.size w w' := by
 have hu51 := Try.underlying51; have HR0_0 := Aside0.mk hr0_0; have HC0_0 := Aside0.mk hc0_0; clear hr0_0 hc0_0; have HB := Aside0.mk (Below.refl w.heap.size w); have H : ((value_ValidRow.f k l0_0).bind fun t108 => (if t108 = true then ((bag_countFits.f a0_1).bind fun t109 => (some t109)) else (some false))) = some r := h; clear h; replace H := Option.bind_eq_some_iff.mp H; obtain ⟨t108, A20, H⟩ := H; replace H : (if t108 = true then ((bag_countFits.f a0_1).bind fun t109 => (some t109)) else (some false)) = some r := H; have A2 := Aside0.mk A20; clear A20
 by_cases c3 : t108 = true
 ·subst c3; have H1 : ((bag_countFits.f a0_1).bind fun t109 => (some t109)) = some r := by rw [if_pos rfl] at H; exact H
  clear H; have H := H1; clear H1; replace H := Option.bind_eq_some_iff.mp H; obtain ⟨t109, A40, H⟩ := H; replace H : (some t109) = some r := H; have A4 := Aside0.mk A40; clear A40; obtain rfl := Option.some.inj H
  go_enter Try.func115, Try.ntmps115
  go_wp2_with (first | ((with_reducible refine gate_dst (N := 1) rfl ?_); refine box_event ?hg (N := 1) ?hd (cs := #[.slice A0_0 l0_0.length c0_0, .int .i64 a0_1]) (t := 51) ?hr ?_; (case hd => rfl); (case hg => rfl); (case hr => first | (go_simp; done) | (go_simp; rfl)); intro gb100 hg w5 hbox hb; have n0_ := Aside0.mk (below_step zz0 hb); have n1_ := Aside0.mk (hbox); have n2_ := Aside0.mk ((zz1 : w.heap.size ≤ gb100)); have n3_ := Aside0.mk ((zz1 : w.heap.size ≤ gb100)); clear HB; have HB := n0_; have BK100 := n1_; have GW100 := n2_; have GE100 := n3_; clear n0_ n1_ n2_ n3_; clear hb hbox hg; have hcz6_0 : w5.cell? ⟨gb100, 0, none⟩ = some (.slice A0_0 l0_0.length c0_0) := cK BK100 0; have hcz6_1 : w5.cell? ⟨gb100, 1, none⟩ = some (.int .i64 a0_1) := cK BK100 1; have hfz6_0 := blk_frozen BK100.out 0; have hfz6_1 := blk_frozen BK100.out 1) | ((with_reducible refine gate_callee (f := 110) rfl ?_); refine goesL_ (some 5) rfl rfl Try.func110 (by kernel_rfl) rfl #[.slice A0_0 l0_0.length c0_0] rfl zz8 ?_; (with_reducible refine (value_ValidRow.calls k _ _ l0_0 true _ ?side1 ?side2 A2.out).mono ?_); (case side1 => repeat (first | exact (Kd.C_below HR0_0.out HB.out) | (with_reducible refine Kd.C_alloc ?_ _) | (with_reducible refine Kd.C_drewN ?_ _) | (with_reducible refine Kd.C_drew ?_))); (case side2 => exact HC0_0.out); rintro e w7 ⟨rfl, hb⟩; refine ⟨_, rfl, ?_⟩; have n0_ := Aside0.mk (blk_below (g := gb100) (o := .cells #[.slice A0_0 l0_0.length c0_0, .int .i64 a0_1] 51 (0, 0)) zz4 hb); have n1_ := Aside0.mk (below_step zz5 hb); clear BK100; clear HB; have BK100 := n0_; have HB := n1_; clear n0_ n1_; (try clear hb); (try clear hb2); (try clear hk); (try clear hi); have hcz8_0 : w7.cell? ⟨gb100, 0, none⟩ = some (.slice A0_0 l0_0.length c0_0) := cK BK100 0; have hcz8_1 : w7.cell? ⟨gb100, 1, none⟩ = some (.int .i64 a0_1) := cK BK100 1; have hfz8_0 := blk_frozen BK100.out 0; have hfz8_1 := blk_frozen BK100.out 1) | (go_at_call 135; (with_reducible refine (bag_countFits.calls a0_1 t109 _ A4.out).mono ?_); rintro e w' ⟨rfl, ⟨nd, rfl⟩⟩))
  go_ret
  exact ⟨zz6, zz5⟩
 ·replace c3 := Bool.eq_false_iff.mpr c3; subst c3; have H1 : (some false) = some r := by rw [if_neg (show ¬ (false = true) by decide)] at H; exact H
  clear H; have H := H1; clear H1; obtain rfl := Option.some.inj H
  go_enter Try.func115, Try.ntmps115
  go_wp2_with (first | ((with_reducible refine gate_dst (N := 1) rfl ?_); refine box_event ?hg (N := 1) ?hd (cs := #[.slice A0_0 l0_0.length c0_0, .int .i64 a0_1]) (t := 51) ?hr ?_; (case hd => rfl); (case hg => rfl); (case hr => first | (go_simp; done) | (go_simp; rfl)); intro gb100 hg w9 hbox hb; have n0_ := Aside0.mk (below_step zz0 hb); have n1_ := Aside0.mk (hbox); have n2_ := Aside0.mk ((zz1 : w.heap.size ≤ gb100)); have n3_ := Aside0.mk ((zz1 : w.heap.size ≤ gb100)); clear HB; have HB := n0_; have BK100 := n1_; have GW100 := n2_; have GE100 := n3_; clear n0_ n1_ n2_ n3_; clear hb hbox hg; have hcz10_0 : w9.cell? ⟨gb100, 0, none⟩ = some (.slice A0_0 l0_0.length c0_0) := cK BK100 0; have hcz10_1 : w9.cell? ⟨gb100, 1, none⟩ = some (.int .i64 a0_1) := cK BK100 1; have hfz10_0 := blk_frozen BK100.out 0; have hfz10_1 := blk_frozen BK100.out 1) | ((with_reducible refine gate_callee (f := 110) rfl ?_); refine goesL_ (some 5) rfl rfl Try.func110 (by kernel_rfl) rfl #[.slice A0_0 l0_0.length c0_0] rfl zz8 ?_; (with_reducible refine (value_ValidRow.calls k _ _ l0_0 false _ ?side1 ?side2 A2.out).mono ?_); (case side1 => repeat (first | exact (Kd.C_below HR0_0.out HB.out) | (with_reducible refine Kd.C_alloc ?_ _) | (with_reducible refine Kd.C_drewN ?_ _) | (with_reducible refine Kd.C_drew ?_))); (case side2 => exact HC0_0.out); rintro e w11 ⟨rfl, hb⟩; refine ⟨_, rfl, ?_⟩; have n0_ := Aside0.mk (blk_below (g := gb100) (o := .cells #[.slice A0_0 l0_0.length c0_0, .int .i64 a0_1] 51 (0, 0)) zz4 hb); have n1_ := Aside0.mk (below_step zz5 hb); clear BK100; clear HB; have BK100 := n0_; have HB := n1_; clear n0_ n1_; (try clear hb); (try clear hb2); (try clear hk); (try clear hi)))
  go_ret
  exact ⟨zz6, zz5⟩
def value_Clean.f (a0_0 : Int) (a0_1 : Int) (a0_2 : ByteArray) : Option (Int × Int × ByteArray) := (value_Valid.f a0_0 a0_1 a0_2).bind fun t112 => (if t112 = true then (some (a0_0, a0_1, a0_2)) else (some (0, 0, (⟨#[]⟩ : ByteArray))))
set_option maxHeartbeats 8000000 in
set_option maxRecDepth 100000 in
theorem value_Clean.calls (a0_0 : Int) (a0_1 : Int) (a0_2 : ByteArray) (r1 : Int) (r2 : Int) (r3 : ByteArray) (w : World) (h : value_Clean.f a0_0 a0_1 a0_2 = some (r1, r2, r3)) :
  Calls Try.prog 85 #[.agg #[.int .i64 a0_0, .int .i64 a0_1, .string a0_2]] w fun e w' => e = .returned (.agg #[.int .i64 r1, .int .i64 r2, .string r3]) ∧ Below w.heap.size w w' := by
 have hu23 := Try.underlying23; have HB := Aside0.mk (Below.refl w.heap.size w); have H : ((value_Valid.f a0_0 a0_1 a0_2).bind fun t112 => (if t112 = true then (some (a0_0, a0_1, a0_2)) else (some (0, 0, (⟨#[]⟩ : ByteArray))))) = some (r1, r2, r3) := h; clear h; replace H := Option.bind_eq_some_iff.mp H; obtain ⟨t112, A20, H⟩ := H; replace H : (if t112 = true then (some (a0_0, a0_1, a0_2)) else (some (0, 0, (⟨#[]⟩ : ByteArray)))) = some (r1, r2, r3) := H; have A2 := Aside0.mk A20; clear A20
 by_cases c3 : t112 = true
 ·subst c3; have H1 : (some (a0_0, a0_1, a0_2)) = some (r1, r2, r3) := by rw [if_pos rfl] at H; exact H
  clear H; have H := H1; clear H1; simp only [Option.some.injEq, Prod.mk.injEq] at H; obtain ⟨rfl, rfl, rfl⟩ := H
  go_enter Try.func85, Try.ntmps85
  go_wp2_with (first | ((with_reducible refine gate_dst (N := 1) rfl ?_); refine box_event ?hg (N := 1) ?hd (cs := #[.int .i64 a0_0, .int .i64 a0_1, .string a0_2]) (t := 23) ?hr ?_; (case hd => rfl); (case hg => rfl); (case hr => first | (go_simp; done) | (go_simp; rfl)); intro gb100 hg w4 hbox hb; have n0_ := Aside0.mk (below_step zz0 hb); have n1_ := Aside0.mk (hbox); have n2_ := Aside0.mk ((zz1 : w.heap.size ≤ gb100)); have n3_ := Aside0.mk ((zz1 : w.heap.size ≤ gb100)); clear HB; have HB := n0_; have BK100 := n1_; have GW100 := n2_; have GE100 := n3_; clear n0_ n1_ n2_ n3_; clear hb hbox hg) | ((with_reducible refine gate_dst (N := 2) rfl ?_); refine box_event ?hg (N := 2) ?hd (cs := #[.int .i64 0, .int .i64 0, .string (⟨#[]⟩ : ByteArray)]) (t := 23) ?hr ?_; (case hd => rfl); (case hg => rfl); (case hr => first | (go_simp; done) | (go_simp; rfl)); intro gb101 hg w5 hbox hb; have n0_ := Aside0.mk (blk_below (g := gb100) (o := .cells #[.int .i64 a0_0, .int .i64 a0_1, .string a0_2] 23 (0, 0)) zz4 hb); have n1_ := Aside0.mk (below_step zz5 hb); have n2_ := Aside0.mk (hbox); have n3_ := Aside0.mk ((zz10 : w.heap.size ≤ gb101)); have n4_ := Aside0.mk ((zz10 : w.heap.size ≤ gb101)); have n5_ := Aside0.mk ((zz11 : gb100 ≠ gb101)); have n6_ := Aside0.mk ((zz12 : gb101 ≠ gb100)); clear BK100; clear HB; have BK100 := n0_; have HB := n1_; have BK101 := n2_; have GW101 := n3_; have GE101 := n4_; have NB100_101 := n5_; have NB101_100 := n6_; clear n0_ n1_ n2_ n3_ n4_ n5_ n6_; clear hb hbox hg; have hnb6 := NB100_101.out; have hnc6 := NB101_100.out; have hcz7_0 : w5.cell? ⟨gb100, 0, none⟩ = some (.int .i64 a0_0) := cK BK100 0; have hcz7_1 : w5.cell? ⟨gb100, 1, none⟩ = some (.int .i64 a0_1) := cK BK100 1; have hcz7_2 : w5.cell? ⟨gb100, 2, none⟩ = some (.string a0_2) := cK BK100 2; have hfz7_0 := blk_frozen BK100.out 0; have hfz7_1 := blk_frozen BK100.out 1; have hfz7_2 := blk_frozen BK100.out 2) | ((with_reducible refine gate_callee (f := 69) rfl ?_); refine goesL_ (some 4) rfl rfl Try.func69 (by kernel_rfl) rfl #[.agg #[.int .i64 a0_0, .int .i64 a0_1, .string a0_2]] rfl zz8 ?_; (with_reducible refine (value_Valid.calls a0_0 a0_1 a0_2 true _ A2.out).mono ?_); rintro e w8 ⟨rfl, hb⟩; refine ⟨_, rfl, ?_⟩; have n0_ := Aside0.mk (blk_below (g := gb100) (o := .cells #[.int .i64 a0_0, .int .i64 a0_1, .string a0_2] 23 (0, 0)) zz4 hb); have n1_ := Aside0.mk (blk_below (g := gb101) (o := .cells #[.int .i64 0, .int .i64 0, .string (⟨#[]⟩ : ByteArray)] 23 (0, 0)) zz13 hb); have n2_ := Aside0.mk (below_step zz14 hb); clear BK100; clear BK101; clear HB; have BK100 := n0_; have BK101 := n1_; have HB := n2_; clear n0_ n1_ n2_; (try clear hb); (try clear hb2); (try clear hk); (try clear hi); have hcz9_0 : w8.cell? ⟨gb100, 0, none⟩ = some (.int .i64 a0_0) := cK BK100 0; have hcz9_1 : w8.cell? ⟨gb100, 1, none⟩ = some (.int .i64 a0_1) := cK BK100 1; have hcz9_2 : w8.cell? ⟨gb100, 2, none⟩ = some (.string a0_2) := cK BK100 2; have hfz9_0 := blk_frozen BK100.out 0; have hfz9_1 := blk_frozen BK100.out 1; have hfz9_2 := blk_frozen BK100.out 2; have hcz10_0 : w8.cell? ⟨gb101, 0, none⟩ = some (.int .i64 0) := cK BK101 0; have hcz10_1 : w8.cell? ⟨gb101, 1, none⟩ = some (.int .i64 0) := cK BK101 1; have hcz10_2 : w8.cell? ⟨gb101, 2, none⟩ = some (.string (⟨#[]⟩ : ByteArray)) := cK BK101 2; have hfz10_0 := blk_frozen BK101.out 0; have hfz10_1 := blk_frozen BK101.out 1; have hfz10_2 := blk_frozen BK101.out 2))
  refine bodyPost_ret (results_cell_row rfl _ _ gb101 23 #[.int .i64 a0_0, .int .i64 a0_1, .string a0_2] (0, 0) _ rfl (by (with_reducible repeat (first | refine blk_drewN ?_ _ | refine blk_drew ?_ | refine blk_alloc ?_ _)); refine blk_put (cs := #[.int .i64 a0_0, .int .i64 a0_1, .string (⟨#[]⟩ : ByteArray)]) ?_ 2 _ rfl; (with_reducible repeat (first | refine blk_drewN ?_ _ | refine blk_drew ?_ | refine blk_alloc ?_ _)); refine blk_put (cs := #[.int .i64 a0_0, .int .i64 0, .string (⟨#[]⟩ : ByteArray)]) ?_ 1 _ rfl; (with_reducible repeat (first | refine blk_drewN ?_ _ | refine blk_drew ?_ | refine blk_alloc ?_ _)); refine blk_put (cs := #[.int .i64 0, .int .i64 0, .string (⟨#[]⟩ : ByteArray)]) ?_ 0 _ rfl; (with_reducible repeat (first | refine blk_drewN ?_ _ | refine blk_drew ?_ | refine blk_alloc ?_ _)); exact BK101.out) Try.underlying23 rfl (by kernel_rfl)) rfl ?_; exact ⟨zz6, zz14⟩
 ·replace c3 := Bool.eq_false_iff.mpr c3; subst c3; have H1 : (some (0, 0, (⟨#[]⟩ : ByteArray))) = some (r1, r2, r3) := by rw [if_neg (show ¬ (false = true) by decide)] at H; exact H
  clear H; have H := H1; clear H1; simp only [Option.some.injEq, Prod.mk.injEq] at H; obtain ⟨rfl, rfl, rfl⟩ := H
  go_enter Try.func85, Try.ntmps85
  go_wp2_with (first | ((with_reducible refine gate_dst (N := 1) rfl ?_); refine box_event ?hg (N := 1) ?hd (cs := #[.int .i64 a0_0, .int .i64 a0_1, .string a0_2]) (t := 23) ?hr ?_; (case hd => rfl); (case hg => rfl); (case hr => first | (go_simp; done) | (go_simp; rfl)); intro gb100 hg w11 hbox hb; have n0_ := Aside0.mk (below_step zz0 hb); have n1_ := Aside0.mk (hbox); have n2_ := Aside0.mk ((zz1 : w.heap.size ≤ gb100)); have n3_ := Aside0.mk ((zz1 : w.heap.size ≤ gb100)); clear HB; have HB := n0_; have BK100 := n1_; have GW100 := n2_; have GE100 := n3_; clear n0_ n1_ n2_ n3_; clear hb hbox hg) | ((with_reducible refine gate_dst (N := 2) rfl ?_); refine box_event ?hg (N := 2) ?hd (cs := #[.int .i64 0, .int .i64 0, .string (⟨#[]⟩ : ByteArray)]) (t := 23) ?hr ?_; (case hd => rfl); (case hg => rfl); (case hr => first | (go_simp; done) | (go_simp; rfl)); intro gb101 hg w12 hbox hb; have n0_ := Aside0.mk (blk_below (g := gb100) (o := .cells #[.int .i64 a0_0, .int .i64 a0_1, .string a0_2] 23 (0, 0)) zz4 hb); have n1_ := Aside0.mk (below_step zz5 hb); have n2_ := Aside0.mk (hbox); have n3_ := Aside0.mk ((zz10 : w.heap.size ≤ gb101)); have n4_ := Aside0.mk ((zz10 : w.heap.size ≤ gb101)); have n5_ := Aside0.mk ((zz11 : gb100 ≠ gb101)); have n6_ := Aside0.mk ((zz12 : gb101 ≠ gb100)); clear BK100; clear HB; have BK100 := n0_; have HB := n1_; have BK101 := n2_; have GW101 := n3_; have GE101 := n4_; have NB100_101 := n5_; have NB101_100 := n6_; clear n0_ n1_ n2_ n3_ n4_ n5_ n6_; clear hb hbox hg; have hnb13 := NB100_101.out; have hnc13 := NB101_100.out; have hcz14_0 : w12.cell? ⟨gb100, 0, none⟩ = some (.int .i64 a0_0) := cK BK100 0; have hcz14_1 : w12.cell? ⟨gb100, 1, none⟩ = some (.int .i64 a0_1) := cK BK100 1; have hcz14_2 : w12.cell? ⟨gb100, 2, none⟩ = some (.string a0_2) := cK BK100 2; have hfz14_0 := blk_frozen BK100.out 0; have hfz14_1 := blk_frozen BK100.out 1; have hfz14_2 := blk_frozen BK100.out 2) | ((with_reducible refine gate_callee (f := 69) rfl ?_); refine goesL_ (some 4) rfl rfl Try.func69 (by kernel_rfl) rfl #[.agg #[.int .i64 a0_0, .int .i64 a0_1, .string a0_2]] rfl zz8 ?_; (with_reducible refine (value_Valid.calls a0_0 a0_1 a0_2 false _ A2.out).mono ?_); rintro e w15 ⟨rfl, hb⟩; refine ⟨_, rfl, ?_⟩; have n0_ := Aside0.mk (blk_below (g := gb100) (o := .cells #[.int .i64 a0_0, .int .i64 a0_1, .string a0_2] 23 (0, 0)) zz4 hb); have n1_ := Aside0.mk (blk_below (g := gb101) (o := .cells #[.int .i64 0, .int .i64 0, .string (⟨#[]⟩ : ByteArray)] 23 (0, 0)) zz13 hb); have n2_ := Aside0.mk (below_step zz14 hb); clear BK100; clear BK101; clear HB; have BK100 := n0_; have BK101 := n1_; have HB := n2_; clear n0_ n1_ n2_; (try clear hb); (try clear hb2); (try clear hk); (try clear hi); have hcz16_0 : w15.cell? ⟨gb101, 0, none⟩ = some (.int .i64 0) := cK BK101 0; have hcz16_1 : w15.cell? ⟨gb101, 1, none⟩ = some (.int .i64 0) := cK BK101 1; have hcz16_2 : w15.cell? ⟨gb101, 2, none⟩ = some (.string (⟨#[]⟩ : ByteArray)) := cK BK101 2; have hfz16_0 := blk_frozen BK101.out 0; have hfz16_1 := blk_frozen BK101.out 1; have hfz16_2 := blk_frozen BK101.out 2))
  refine bodyPost_ret (results_cell_row rfl _ _ gb101 23 #[.int .i64 0, .int .i64 0, .string (⟨#[]⟩ : ByteArray)] (0, 0) _ rfl (by (with_reducible repeat (first | refine blk_drewN ?_ _ | refine blk_drew ?_ | refine blk_alloc ?_ _)); refine blk_put (cs := #[.int .i64 0, .int .i64 0, .string (⟨#[]⟩ : ByteArray)]) ?_ 2 _ rfl; (with_reducible repeat (first | refine blk_drewN ?_ _ | refine blk_drew ?_ | refine blk_alloc ?_ _)); refine blk_put (cs := #[.int .i64 0, .int .i64 0, .string (⟨#[]⟩ : ByteArray)]) ?_ 1 _ rfl; (with_reducible repeat (first | refine blk_drewN ?_ _ | refine blk_drew ?_ | refine blk_alloc ?_ _)); refine blk_put (cs := #[.int .i64 0, .int .i64 0, .string (⟨#[]⟩ : ByteArray)]) ?_ 0 _ rfl; (with_reducible repeat (first | refine blk_drewN ?_ _ | refine blk_drew ?_ | refine blk_alloc ?_ _)); exact BK101.out) Try.underlying23 rfl (by kernel_rfl)) rfl ?_; exact ⟨zz6, zz14⟩
def cmp_isNaN_string.f (a0 : ByteArray) : Option (Bool) := some (a0.toList != a0.toList)
set_option maxHeartbeats 8000000 in
set_option maxRecDepth 100000 in
theorem cmp_isNaN_string.calls (a0 : ByteArray) (r : Bool) (w : World) (h : cmp_isNaN_string.f a0 = some r) :
  Calls Try.prog 152 #[.string a0] w fun e w' => e = .returned (.bool r) ∧ Drawn0 w w' := by
 have H : (some (a0.toList != a0.toList)) = some r := h; clear h; obtain rfl := Option.some.inj H
 go_enter Try.func152, Try.ntmps152
 go_wp2
 go_ret
 exact ⟨zz2, zz7⟩
def cmp_Compare_string.f (a0 : ByteArray) (a1 : ByteArray) : Option (Int) := (cmp_isNaN_string.f a0).bind fun t113 => ((cmp_isNaN_string.f a1).bind fun t114 => (if t113 = true then (if t114 = true then (some 0) else (some (-1))) else (if t114 = true then (some 1) else (if (Op.bytesLess a0.toList a1.toList) = true then (some (-1)) else (if (Op.bytesLess a1.toList a0.toList) = true then (some 1) else (some 0))))))
set_option maxHeartbeats 8000000 in
set_option maxRecDepth 100000 in
theorem cmp_Compare_string.calls (a0 : ByteArray) (a1 : ByteArray) (r : Int) (w : World) (h : cmp_Compare_string.f a0 a1 = some r) :
  Calls Try.prog 134 #[.string a0, .string a1] w fun e w' => e = .returned (.int .i64 r) ∧ Drawn0 w w' := by
 have H : ((cmp_isNaN_string.f a0).bind fun t113 => ((cmp_isNaN_string.f a1).bind fun t114 => (if t113 = true then (if t114 = true then (some 0) else (some (-1))) else (if t114 = true then (some 1) else (if (Op.bytesLess a0.toList a1.toList) = true then (some (-1)) else (if (Op.bytesLess a1.toList a0.toList) = true then (some 1) else (some 0))))))) = some r := h; clear h; replace H := Option.bind_eq_some_iff.mp H; obtain ⟨t113, A30, H⟩ := H; replace H : ((cmp_isNaN_string.f a1).bind fun t114 => (if t113 = true then (if t114 = true then (some 0) else (some (-1))) else (if t114 = true then (some 1) else (if (Op.bytesLess a0.toList a1.toList) = true then (some (-1)) else (if (Op.bytesLess a1.toList a0.toList) = true then (some 1) else (some 0)))))) = some r := H; have A3 := Aside0.mk A30; clear A30; replace H := Option.bind_eq_some_iff.mp H; obtain ⟨t114, A40, H⟩ := H; replace H : (if t113 = true then (if t114 = true then (some 0) else (some (-1))) else (if t114 = true then (some 1) else (if (Op.bytesLess a0.toList a1.toList) = true then (some (-1)) else (if (Op.bytesLess a1.toList a0.toList) = true then (some 1) else (some 0))))) = some r := H; have A4 := Aside0.mk A40; clear A40
 by_cases c5 : t113 = true
 ·subst c5; have H1 : (if t114 = true then (some 0) else (some (-1))) = some r := by rw [if_pos rfl] at H; exact H
  clear H; have H := H1; clear H1
  by_cases c6 : t114 = true
  ·subst c6; have H1 : (some 0) = some r := by rw [if_pos rfl] at H; exact H
   clear H; have H := H1; clear H1; obtain rfl := Option.some.inj H
   go_enter Try.func134, Try.ntmps134
   go_wp2_with (first | ((with_reducible refine gate_callee (f := 152) rfl ?_); refine goesL_ (some 8) rfl rfl Try.func152 (by kernel_rfl) rfl #[.string a0] rfl zz8 ?_; (with_reducible refine (cmp_isNaN_string.calls a0 true _ A3.out).mono ?_); rintro e w' ⟨rfl, ⟨nd, rfl⟩⟩; refine ⟨_, rfl, ?_⟩) | ((with_reducible refine gate_callee (f := 152) rfl ?_); refine goesL_ (some 10) rfl rfl Try.func152 (by kernel_rfl) rfl #[.string a1] rfl zz8 ?_; (with_reducible refine (cmp_isNaN_string.calls a1 true _ A4.out).mono ?_); rintro e w' ⟨rfl, ⟨nd, rfl⟩⟩; refine ⟨_, rfl, ?_⟩))
   go_ret
   exact ⟨zz2, zz7⟩
  ·replace c6 := Bool.eq_false_iff.mpr c6; subst c6; have H1 : (some (-1)) = some r := by rw [if_neg (show ¬ (false = true) by decide)] at H; exact H
   clear H; have H := H1; clear H1; obtain rfl := Option.some.inj H
   go_enter Try.func134, Try.ntmps134
   go_wp2_with (first | ((with_reducible refine gate_callee (f := 152) rfl ?_); refine goesL_ (some 8) rfl rfl Try.func152 (by kernel_rfl) rfl #[.string a0] rfl zz8 ?_; (with_reducible refine (cmp_isNaN_string.calls a0 true _ A3.out).mono ?_); rintro e w' ⟨rfl, ⟨nd, rfl⟩⟩; refine ⟨_, rfl, ?_⟩) | ((with_reducible refine gate_callee (f := 152) rfl ?_); refine goesL_ (some 10) rfl rfl Try.func152 (by kernel_rfl) rfl #[.string a1] rfl zz8 ?_; (with_reducible refine (cmp_isNaN_string.calls a1 false _ A4.out).mono ?_); rintro e w' ⟨rfl, ⟨nd, rfl⟩⟩; refine ⟨_, rfl, ?_⟩))
   go_ret
   exact ⟨zz2, zz7⟩
 ·replace c5 := Bool.eq_false_iff.mpr c5; subst c5; have H1 : (if t114 = true then (some 1) else (if (Op.bytesLess a0.toList a1.toList) = true then (some (-1)) else (if (Op.bytesLess a1.toList a0.toList) = true then (some 1) else (some 0)))) = some r := by rw [if_neg (show ¬ (false = true) by decide)] at H; exact H
  clear H; have H := H1; clear H1
  by_cases c7 : t114 = true
  ·subst c7; have H1 : (some 1) = some r := by rw [if_pos rfl] at H; exact H
   clear H; have H := H1; clear H1; obtain rfl := Option.some.inj H
   go_enter Try.func134, Try.ntmps134
   go_wp2_with (first | ((with_reducible refine gate_callee (f := 152) rfl ?_); refine goesL_ (some 8) rfl rfl Try.func152 (by kernel_rfl) rfl #[.string a0] rfl zz8 ?_; (with_reducible refine (cmp_isNaN_string.calls a0 false _ A3.out).mono ?_); rintro e w' ⟨rfl, ⟨nd, rfl⟩⟩; refine ⟨_, rfl, ?_⟩) | ((with_reducible refine gate_callee (f := 152) rfl ?_); refine goesL_ (some 10) rfl rfl Try.func152 (by kernel_rfl) rfl #[.string a1] rfl zz8 ?_; (with_reducible refine (cmp_isNaN_string.calls a1 true _ A4.out).mono ?_); rintro e w' ⟨rfl, ⟨nd, rfl⟩⟩; refine ⟨_, rfl, ?_⟩))
   go_ret
   exact ⟨zz2, zz7⟩
  ·replace c7 := Bool.eq_false_iff.mpr c7; subst c7; have H1 : (if (Op.bytesLess a0.toList a1.toList) = true then (some (-1)) else (if (Op.bytesLess a1.toList a0.toList) = true then (some 1) else (some 0))) = some r := by rw [if_neg (show ¬ (false = true) by decide)] at H; exact H
   clear H; have H := H1; clear H1
   by_cases c8 : (Op.bytesLess a0.toList a1.toList) = true
   ·rw [if_pos c8] at H; have c8b0 : (Op.bytesLess a0.toList a1.toList) = true := c8; clear c8; obtain rfl := Option.some.inj H
    go_enter Try.func134, Try.ntmps134
    go_wp2_with (first | ((with_reducible refine gate_callee (f := 152) rfl ?_); refine goesL_ (some 8) rfl rfl Try.func152 (by kernel_rfl) rfl #[.string a0] rfl zz8 ?_; (with_reducible refine (cmp_isNaN_string.calls a0 false _ A3.out).mono ?_); rintro e w' ⟨rfl, ⟨nd, rfl⟩⟩; refine ⟨_, rfl, ?_⟩) | ((with_reducible refine gate_callee (f := 152) rfl ?_); refine goesL_ (some 10) rfl rfl Try.func152 (by kernel_rfl) rfl #[.string a1] rfl zz8 ?_; (with_reducible refine (cmp_isNaN_string.calls a1 false _ A4.out).mono ?_); rintro e w' ⟨rfl, ⟨nd, rfl⟩⟩; refine ⟨_, rfl, ?_⟩))
    go_ret
    exact ⟨zz2, zz7⟩
   ·rw [if_neg c8] at H; have c8b0 : (Op.bytesLess a0.toList a1.toList) = false := by simpa using c8
    clear c8
    by_cases c9 : (Op.bytesLess a1.toList a0.toList) = true
    ·rw [if_pos c9] at H; have c9b0 : (Op.bytesLess a1.toList a0.toList) = true := c9; clear c9; obtain rfl := Option.some.inj H
     go_enter Try.func134, Try.ntmps134
     go_wp2_with (first | ((with_reducible refine gate_callee (f := 152) rfl ?_); refine goesL_ (some 8) rfl rfl Try.func152 (by kernel_rfl) rfl #[.string a0] rfl zz8 ?_; (with_reducible refine (cmp_isNaN_string.calls a0 false _ A3.out).mono ?_); rintro e w' ⟨rfl, ⟨nd, rfl⟩⟩; refine ⟨_, rfl, ?_⟩) | ((with_reducible refine gate_callee (f := 152) rfl ?_); refine goesL_ (some 10) rfl rfl Try.func152 (by kernel_rfl) rfl #[.string a1] rfl zz8 ?_; (with_reducible refine (cmp_isNaN_string.calls a1 false _ A4.out).mono ?_); rintro e w' ⟨rfl, ⟨nd, rfl⟩⟩; refine ⟨_, rfl, ?_⟩))
     go_ret
     exact ⟨zz2, zz7⟩
    ·rw [if_neg c9] at H; have c9b0 : (Op.bytesLess a1.toList a0.toList) = false := by simpa using c9
     clear c9; obtain rfl := Option.some.inj H
     go_enter Try.func134, Try.ntmps134
     go_wp2_with (first | ((with_reducible refine gate_callee (f := 152) rfl ?_); refine goesL_ (some 8) rfl rfl Try.func152 (by kernel_rfl) rfl #[.string a0] rfl zz8 ?_; (with_reducible refine (cmp_isNaN_string.calls a0 false _ A3.out).mono ?_); rintro e w' ⟨rfl, ⟨nd, rfl⟩⟩; refine ⟨_, rfl, ?_⟩) | ((with_reducible refine gate_callee (f := 152) rfl ?_); refine goesL_ (some 10) rfl rfl Try.func152 (by kernel_rfl) rfl #[.string a1] rfl zz8 ?_; (with_reducible refine (cmp_isNaN_string.calls a1 false _ A4.out).mono ?_); rintro e w' ⟨rfl, ⟨nd, rfl⟩⟩; refine ⟨_, rfl, ?_⟩))
     go_ret
     exact ⟨zz2, zz7⟩
def cmp_isNaN_int.f (a0 : Int) : Option (Bool) := some (a0 != a0)
set_option maxHeartbeats 8000000 in
set_option maxRecDepth 100000 in
theorem cmp_isNaN_int.calls (a0 : Int) (r : Bool) (w : World) (h : cmp_isNaN_int.f a0 = some r) :
  Calls Try.prog 172 #[.int .i64 a0] w fun e w' => e = .returned (.bool r) ∧ Drawn0 w w' := by
 have H : (some (a0 != a0)) = some r := h; clear h; obtain rfl := Option.some.inj H
 go_enter Try.func172, Try.ntmps172
 go_wp2
 go_ret
 exact ⟨zz2, zz7⟩
def cmp_Compare_int.f (a0 : Int) (a1 : Int) : Option (Int) := (cmp_isNaN_int.f a0).bind fun t115 => ((cmp_isNaN_int.f a1).bind fun t116 => (if t115 = true then (if t116 = true then (some 0) else (some (-1))) else (if t116 = true then (some 1) else (if a0 < a1 then (some (-1)) else (if a0 > a1 then (some 1) else (some 0))))))
set_option maxHeartbeats 8000000 in
set_option maxRecDepth 100000 in
theorem cmp_Compare_int.calls (a0 : Int) (a1 : Int) (r : Int) (w : World) (h : cmp_Compare_int.f a0 a1 = some r) :
  Calls Try.prog 162 #[.int .i64 a0, .int .i64 a1] w fun e w' => e = .returned (.int .i64 r) ∧ Drawn0 w w' := by
 have H : ((cmp_isNaN_int.f a0).bind fun t115 => ((cmp_isNaN_int.f a1).bind fun t116 => (if t115 = true then (if t116 = true then (some 0) else (some (-1))) else (if t116 = true then (some 1) else (if a0 < a1 then (some (-1)) else (if a0 > a1 then (some 1) else (some 0))))))) = some r := h; clear h; replace H := Option.bind_eq_some_iff.mp H; obtain ⟨t115, A30, H⟩ := H; replace H : ((cmp_isNaN_int.f a1).bind fun t116 => (if t115 = true then (if t116 = true then (some 0) else (some (-1))) else (if t116 = true then (some 1) else (if a0 < a1 then (some (-1)) else (if a0 > a1 then (some 1) else (some 0)))))) = some r := H; have A3 := Aside0.mk A30; clear A30; replace H := Option.bind_eq_some_iff.mp H; obtain ⟨t116, A40, H⟩ := H; replace H : (if t115 = true then (if t116 = true then (some 0) else (some (-1))) else (if t116 = true then (some 1) else (if a0 < a1 then (some (-1)) else (if a0 > a1 then (some 1) else (some 0))))) = some r := H; have A4 := Aside0.mk A40; clear A40
 by_cases c5 : t115 = true
 ·subst c5; have H1 : (if t116 = true then (some 0) else (some (-1))) = some r := by rw [if_pos rfl] at H; exact H
  clear H; have H := H1; clear H1
  by_cases c6 : t116 = true
  ·subst c6; have H1 : (some 0) = some r := by rw [if_pos rfl] at H; exact H
   clear H; have H := H1; clear H1; obtain rfl := Option.some.inj H
   go_enter Try.func162, Try.ntmps162
   go_wp2_with (first | ((with_reducible refine gate_callee (f := 172) rfl ?_); refine goesL_ (some 8) rfl rfl Try.func172 (by kernel_rfl) rfl #[.int .i64 a0] rfl zz8 ?_; (with_reducible refine (cmp_isNaN_int.calls a0 true _ A3.out).mono ?_); rintro e w' ⟨rfl, ⟨nd, rfl⟩⟩; refine ⟨_, rfl, ?_⟩) | ((with_reducible refine gate_callee (f := 172) rfl ?_); refine goesL_ (some 10) rfl rfl Try.func172 (by kernel_rfl) rfl #[.int .i64 a1] rfl zz8 ?_; (with_reducible refine (cmp_isNaN_int.calls a1 true _ A4.out).mono ?_); rintro e w' ⟨rfl, ⟨nd, rfl⟩⟩; refine ⟨_, rfl, ?_⟩))
   go_ret
   exact ⟨zz2, zz7⟩
  ·replace c6 := Bool.eq_false_iff.mpr c6; subst c6; have H1 : (some (-1)) = some r := by rw [if_neg (show ¬ (false = true) by decide)] at H; exact H
   clear H; have H := H1; clear H1; obtain rfl := Option.some.inj H
   go_enter Try.func162, Try.ntmps162
   go_wp2_with (first | ((with_reducible refine gate_callee (f := 172) rfl ?_); refine goesL_ (some 8) rfl rfl Try.func172 (by kernel_rfl) rfl #[.int .i64 a0] rfl zz8 ?_; (with_reducible refine (cmp_isNaN_int.calls a0 true _ A3.out).mono ?_); rintro e w' ⟨rfl, ⟨nd, rfl⟩⟩; refine ⟨_, rfl, ?_⟩) | ((with_reducible refine gate_callee (f := 172) rfl ?_); refine goesL_ (some 10) rfl rfl Try.func172 (by kernel_rfl) rfl #[.int .i64 a1] rfl zz8 ?_; (with_reducible refine (cmp_isNaN_int.calls a1 false _ A4.out).mono ?_); rintro e w' ⟨rfl, ⟨nd, rfl⟩⟩; refine ⟨_, rfl, ?_⟩))
   go_ret
   exact ⟨zz2, zz7⟩
 ·replace c5 := Bool.eq_false_iff.mpr c5; subst c5; have H1 : (if t116 = true then (some 1) else (if a0 < a1 then (some (-1)) else (if a0 > a1 then (some 1) else (some 0)))) = some r := by rw [if_neg (show ¬ (false = true) by decide)] at H; exact H
  clear H; have H := H1; clear H1
  by_cases c7 : t116 = true
  ·subst c7; have H1 : (some 1) = some r := by rw [if_pos rfl] at H; exact H
   clear H; have H := H1; clear H1; obtain rfl := Option.some.inj H
   go_enter Try.func162, Try.ntmps162
   go_wp2_with (first | ((with_reducible refine gate_callee (f := 172) rfl ?_); refine goesL_ (some 8) rfl rfl Try.func172 (by kernel_rfl) rfl #[.int .i64 a0] rfl zz8 ?_; (with_reducible refine (cmp_isNaN_int.calls a0 false _ A3.out).mono ?_); rintro e w' ⟨rfl, ⟨nd, rfl⟩⟩; refine ⟨_, rfl, ?_⟩) | ((with_reducible refine gate_callee (f := 172) rfl ?_); refine goesL_ (some 10) rfl rfl Try.func172 (by kernel_rfl) rfl #[.int .i64 a1] rfl zz8 ?_; (with_reducible refine (cmp_isNaN_int.calls a1 true _ A4.out).mono ?_); rintro e w' ⟨rfl, ⟨nd, rfl⟩⟩; refine ⟨_, rfl, ?_⟩))
   go_ret
   exact ⟨zz2, zz7⟩
  ·replace c7 := Bool.eq_false_iff.mpr c7; subst c7; have H1 : (if a0 < a1 then (some (-1)) else (if a0 > a1 then (some 1) else (some 0))) = some r := by rw [if_neg (show ¬ (false = true) by decide)] at H; exact H
   clear H; have H := H1; clear H1
   by_cases c8 : a0 < a1
   ·rw [if_pos c8] at H; have c8b0 : decide (a0 < a1) = true := decide_eq_true c8; clear c8; obtain rfl := Option.some.inj H
    go_enter Try.func162, Try.ntmps162
    go_wp2_with (first | ((with_reducible refine gate_callee (f := 172) rfl ?_); refine goesL_ (some 8) rfl rfl Try.func172 (by kernel_rfl) rfl #[.int .i64 a0] rfl zz8 ?_; (with_reducible refine (cmp_isNaN_int.calls a0 false _ A3.out).mono ?_); rintro e w' ⟨rfl, ⟨nd, rfl⟩⟩; refine ⟨_, rfl, ?_⟩) | ((with_reducible refine gate_callee (f := 172) rfl ?_); refine goesL_ (some 10) rfl rfl Try.func172 (by kernel_rfl) rfl #[.int .i64 a1] rfl zz8 ?_; (with_reducible refine (cmp_isNaN_int.calls a1 false _ A4.out).mono ?_); rintro e w' ⟨rfl, ⟨nd, rfl⟩⟩; refine ⟨_, rfl, ?_⟩))
    go_ret
    exact ⟨zz2, zz7⟩
   ·rw [if_neg c8] at H; have c8b0 : decide (a0 < a1) = false := decide_eq_false c8; clear c8
    by_cases c9 : a0 > a1
    ·rw [if_pos c9] at H; have c9b0 : decide (a1 < a0) = true := decide_eq_true c9; clear c9; obtain rfl := Option.some.inj H
     go_enter Try.func162, Try.ntmps162
     go_wp2_with (first | ((with_reducible refine gate_callee (f := 172) rfl ?_); refine goesL_ (some 8) rfl rfl Try.func172 (by kernel_rfl) rfl #[.int .i64 a0] rfl zz8 ?_; (with_reducible refine (cmp_isNaN_int.calls a0 false _ A3.out).mono ?_); rintro e w' ⟨rfl, ⟨nd, rfl⟩⟩; refine ⟨_, rfl, ?_⟩) | ((with_reducible refine gate_callee (f := 172) rfl ?_); refine goesL_ (some 10) rfl rfl Try.func172 (by kernel_rfl) rfl #[.int .i64 a1] rfl zz8 ?_; (with_reducible refine (cmp_isNaN_int.calls a1 false _ A4.out).mono ?_); rintro e w' ⟨rfl, ⟨nd, rfl⟩⟩; refine ⟨_, rfl, ?_⟩))
     go_ret
     exact ⟨zz2, zz7⟩
    ·rw [if_neg c9] at H; have c9b0 : decide (a1 < a0) = false := decide_eq_false c9; clear c9; obtain rfl := Option.some.inj H
     go_enter Try.func162, Try.ntmps162
     go_wp2_with (first | ((with_reducible refine gate_callee (f := 172) rfl ?_); refine goesL_ (some 8) rfl rfl Try.func172 (by kernel_rfl) rfl #[.int .i64 a0] rfl zz8 ?_; (with_reducible refine (cmp_isNaN_int.calls a0 false _ A3.out).mono ?_); rintro e w' ⟨rfl, ⟨nd, rfl⟩⟩; refine ⟨_, rfl, ?_⟩) | ((with_reducible refine gate_callee (f := 172) rfl ?_); refine goesL_ (some 10) rfl rfl Try.func172 (by kernel_rfl) rfl #[.int .i64 a1] rfl zz8 ?_; (with_reducible refine (cmp_isNaN_int.calls a1 false _ A4.out).mono ?_); rintro e w' ⟨rfl, ⟨nd, rfl⟩⟩; refine ⟨_, rfl, ?_⟩))
     go_ret
     exact ⟨zz2, zz7⟩
def cmp_isNaN_int64.f (a0 : Int) : Option (Bool) := some (a0 != a0)
set_option maxHeartbeats 8000000 in
set_option maxRecDepth 100000 in
theorem cmp_isNaN_int64.calls (a0 : Int) (r : Bool) (w : World) (h : cmp_isNaN_int64.f a0 = some r) :
  Calls Try.prog 167 #[.int .i64 a0] w fun e w' => e = .returned (.bool r) ∧ Drawn0 w w' := by
 have H : (some (a0 != a0)) = some r := h; clear h; obtain rfl := Option.some.inj H
 go_enter Try.func167, Try.ntmps167
 go_wp2
 go_ret
 exact ⟨zz2, zz7⟩
def cmp_Compare_int64.f (a0 : Int) (a1 : Int) : Option (Int) := (cmp_isNaN_int64.f a0).bind fun t117 => ((cmp_isNaN_int64.f a1).bind fun t118 => (if t117 = true then (if t118 = true then (some 0) else (some (-1))) else (if t118 = true then (some 1) else (if a0 < a1 then (some (-1)) else (if a0 > a1 then (some 1) else (some 0))))))
set_option maxHeartbeats 8000000 in
set_option maxRecDepth 100000 in
theorem cmp_Compare_int64.calls (a0 : Int) (a1 : Int) (r : Int) (w : World) (h : cmp_Compare_int64.f a0 a1 = some r) :
  Calls Try.prog 163 #[.int .i64 a0, .int .i64 a1] w fun e w' => e = .returned (.int .i64 r) ∧ Drawn0 w w' := by
 have H : ((cmp_isNaN_int64.f a0).bind fun t117 => ((cmp_isNaN_int64.f a1).bind fun t118 => (if t117 = true then (if t118 = true then (some 0) else (some (-1))) else (if t118 = true then (some 1) else (if a0 < a1 then (some (-1)) else (if a0 > a1 then (some 1) else (some 0))))))) = some r := h; clear h; replace H := Option.bind_eq_some_iff.mp H; obtain ⟨t117, A30, H⟩ := H; replace H : ((cmp_isNaN_int64.f a1).bind fun t118 => (if t117 = true then (if t118 = true then (some 0) else (some (-1))) else (if t118 = true then (some 1) else (if a0 < a1 then (some (-1)) else (if a0 > a1 then (some 1) else (some 0)))))) = some r := H; have A3 := Aside0.mk A30; clear A30; replace H := Option.bind_eq_some_iff.mp H; obtain ⟨t118, A40, H⟩ := H; replace H : (if t117 = true then (if t118 = true then (some 0) else (some (-1))) else (if t118 = true then (some 1) else (if a0 < a1 then (some (-1)) else (if a0 > a1 then (some 1) else (some 0))))) = some r := H; have A4 := Aside0.mk A40; clear A40
 by_cases c5 : t117 = true
 ·subst c5; have H1 : (if t118 = true then (some 0) else (some (-1))) = some r := by rw [if_pos rfl] at H; exact H
  clear H; have H := H1; clear H1
  by_cases c6 : t118 = true
  ·subst c6; have H1 : (some 0) = some r := by rw [if_pos rfl] at H; exact H
   clear H; have H := H1; clear H1; obtain rfl := Option.some.inj H
   go_enter Try.func163, Try.ntmps163
   go_wp2_with (first | ((with_reducible refine gate_callee (f := 167) rfl ?_); refine goesL_ (some 8) rfl rfl Try.func167 (by kernel_rfl) rfl #[.int .i64 a0] rfl zz8 ?_; (with_reducible refine (cmp_isNaN_int64.calls a0 true _ A3.out).mono ?_); rintro e w' ⟨rfl, ⟨nd, rfl⟩⟩; refine ⟨_, rfl, ?_⟩) | ((with_reducible refine gate_callee (f := 167) rfl ?_); refine goesL_ (some 10) rfl rfl Try.func167 (by kernel_rfl) rfl #[.int .i64 a1] rfl zz8 ?_; (with_reducible refine (cmp_isNaN_int64.calls a1 true _ A4.out).mono ?_); rintro e w' ⟨rfl, ⟨nd, rfl⟩⟩; refine ⟨_, rfl, ?_⟩))
   go_ret
   exact ⟨zz2, zz7⟩
  ·replace c6 := Bool.eq_false_iff.mpr c6; subst c6; have H1 : (some (-1)) = some r := by rw [if_neg (show ¬ (false = true) by decide)] at H; exact H
   clear H; have H := H1; clear H1; obtain rfl := Option.some.inj H
   go_enter Try.func163, Try.ntmps163
   go_wp2_with (first | ((with_reducible refine gate_callee (f := 167) rfl ?_); refine goesL_ (some 8) rfl rfl Try.func167 (by kernel_rfl) rfl #[.int .i64 a0] rfl zz8 ?_; (with_reducible refine (cmp_isNaN_int64.calls a0 true _ A3.out).mono ?_); rintro e w' ⟨rfl, ⟨nd, rfl⟩⟩; refine ⟨_, rfl, ?_⟩) | ((with_reducible refine gate_callee (f := 167) rfl ?_); refine goesL_ (some 10) rfl rfl Try.func167 (by kernel_rfl) rfl #[.int .i64 a1] rfl zz8 ?_; (with_reducible refine (cmp_isNaN_int64.calls a1 false _ A4.out).mono ?_); rintro e w' ⟨rfl, ⟨nd, rfl⟩⟩; refine ⟨_, rfl, ?_⟩))
   go_ret
   exact ⟨zz2, zz7⟩
 ·replace c5 := Bool.eq_false_iff.mpr c5; subst c5; have H1 : (if t118 = true then (some 1) else (if a0 < a1 then (some (-1)) else (if a0 > a1 then (some 1) else (some 0)))) = some r := by rw [if_neg (show ¬ (false = true) by decide)] at H; exact H
  clear H; have H := H1; clear H1
  by_cases c7 : t118 = true
  ·subst c7; have H1 : (some 1) = some r := by rw [if_pos rfl] at H; exact H
   clear H; have H := H1; clear H1; obtain rfl := Option.some.inj H
   go_enter Try.func163, Try.ntmps163
   go_wp2_with (first | ((with_reducible refine gate_callee (f := 167) rfl ?_); refine goesL_ (some 8) rfl rfl Try.func167 (by kernel_rfl) rfl #[.int .i64 a0] rfl zz8 ?_; (with_reducible refine (cmp_isNaN_int64.calls a0 false _ A3.out).mono ?_); rintro e w' ⟨rfl, ⟨nd, rfl⟩⟩; refine ⟨_, rfl, ?_⟩) | ((with_reducible refine gate_callee (f := 167) rfl ?_); refine goesL_ (some 10) rfl rfl Try.func167 (by kernel_rfl) rfl #[.int .i64 a1] rfl zz8 ?_; (with_reducible refine (cmp_isNaN_int64.calls a1 true _ A4.out).mono ?_); rintro e w' ⟨rfl, ⟨nd, rfl⟩⟩; refine ⟨_, rfl, ?_⟩))
   go_ret
   exact ⟨zz2, zz7⟩
  ·replace c7 := Bool.eq_false_iff.mpr c7; subst c7; have H1 : (if a0 < a1 then (some (-1)) else (if a0 > a1 then (some 1) else (some 0))) = some r := by rw [if_neg (show ¬ (false = true) by decide)] at H; exact H
   clear H; have H := H1; clear H1
   by_cases c8 : a0 < a1
   ·rw [if_pos c8] at H; have c8b0 : decide (a0 < a1) = true := decide_eq_true c8; clear c8; obtain rfl := Option.some.inj H
    go_enter Try.func163, Try.ntmps163
    go_wp2_with (first | ((with_reducible refine gate_callee (f := 167) rfl ?_); refine goesL_ (some 8) rfl rfl Try.func167 (by kernel_rfl) rfl #[.int .i64 a0] rfl zz8 ?_; (with_reducible refine (cmp_isNaN_int64.calls a0 false _ A3.out).mono ?_); rintro e w' ⟨rfl, ⟨nd, rfl⟩⟩; refine ⟨_, rfl, ?_⟩) | ((with_reducible refine gate_callee (f := 167) rfl ?_); refine goesL_ (some 10) rfl rfl Try.func167 (by kernel_rfl) rfl #[.int .i64 a1] rfl zz8 ?_; (with_reducible refine (cmp_isNaN_int64.calls a1 false _ A4.out).mono ?_); rintro e w' ⟨rfl, ⟨nd, rfl⟩⟩; refine ⟨_, rfl, ?_⟩))
    go_ret
    exact ⟨zz2, zz7⟩
   ·rw [if_neg c8] at H; have c8b0 : decide (a0 < a1) = false := decide_eq_false c8; clear c8
    by_cases c9 : a0 > a1
    ·rw [if_pos c9] at H; have c9b0 : decide (a1 < a0) = true := decide_eq_true c9; clear c9; obtain rfl := Option.some.inj H
     go_enter Try.func163, Try.ntmps163
     go_wp2_with (first | ((with_reducible refine gate_callee (f := 167) rfl ?_); refine goesL_ (some 8) rfl rfl Try.func167 (by kernel_rfl) rfl #[.int .i64 a0] rfl zz8 ?_; (with_reducible refine (cmp_isNaN_int64.calls a0 false _ A3.out).mono ?_); rintro e w' ⟨rfl, ⟨nd, rfl⟩⟩; refine ⟨_, rfl, ?_⟩) | ((with_reducible refine gate_callee (f := 167) rfl ?_); refine goesL_ (some 10) rfl rfl Try.func167 (by kernel_rfl) rfl #[.int .i64 a1] rfl zz8 ?_; (with_reducible refine (cmp_isNaN_int64.calls a1 false _ A4.out).mono ?_); rintro e w' ⟨rfl, ⟨nd, rfl⟩⟩; refine ⟨_, rfl, ?_⟩))
     go_ret
     exact ⟨zz2, zz7⟩
    ·rw [if_neg c9] at H; have c9b0 : decide (a1 < a0) = false := decide_eq_false c9; clear c9; obtain rfl := Option.some.inj H
     go_enter Try.func163, Try.ntmps163
     go_wp2_with (first | ((with_reducible refine gate_callee (f := 167) rfl ?_); refine goesL_ (some 8) rfl rfl Try.func167 (by kernel_rfl) rfl #[.int .i64 a0] rfl zz8 ?_; (with_reducible refine (cmp_isNaN_int64.calls a0 false _ A3.out).mono ?_); rintro e w' ⟨rfl, ⟨nd, rfl⟩⟩; refine ⟨_, rfl, ?_⟩) | ((with_reducible refine gate_callee (f := 167) rfl ?_); refine goesL_ (some 10) rfl rfl Try.func167 (by kernel_rfl) rfl #[.int .i64 a1] rfl zz8 ?_; (with_reducible refine (cmp_isNaN_int64.calls a1 false _ A4.out).mono ?_); rintro e w' ⟨rfl, ⟨nd, rfl⟩⟩; refine ⟨_, rfl, ?_⟩))
     go_ret
     exact ⟨zz2, zz7⟩
def value_Compare.f (a0_0 : Int) (a0_1 : Int) (a0_2 : ByteArray) (a1_0 : Int) (a1_1 : Int) (a1_2 : ByteArray) : Option (Int) := (value_Clean.f a0_0 a0_1 a0_2).bind fun bt121 => ((value_Clean.f a1_0 a1_1 a1_2).bind fun bt124 => (if bt121.1 = bt124.1 then (if bt121.1 = 1 then ((cmp_Compare_int64.f bt121.2.1 bt124.2.1).bind fun t128 => (some t128)) else ((cmp_Compare_string.f bt121.2.2 bt124.2.2).bind fun t129 => (some t129))) else ((cmp_Compare_int.f bt121.1 bt124.1).bind fun t127 => (some t127))))
set_option maxHeartbeats 8000000 in
set_option maxRecDepth 100000 in
theorem value_Compare.calls (a0_0 : Int) (a0_1 : Int) (a0_2 : ByteArray) (a1_0 : Int) (a1_1 : Int) (a1_2 : ByteArray) (r : Int) (w : World) (h : value_Compare.f a0_0 a0_1 a0_2 a1_0 a1_1 a1_2 = some r) :
  Calls Try.prog 137 #[.agg #[.int .i64 a0_0, .int .i64 a0_1, .string a0_2], .agg #[.int .i64 a1_0, .int .i64 a1_1, .string a1_2]] w fun e w' => e = .returned (.int .i64 r) ∧ Below w.heap.size w w' := by
 have hu23 := Try.underlying23; have HB := Aside0.mk (Below.refl w.heap.size w); have H : ((value_Clean.f a0_0 a0_1 a0_2).bind fun bt121 => ((value_Clean.f a1_0 a1_1 a1_2).bind fun bt124 => (if bt121.1 = bt124.1 then (if bt121.1 = 1 then ((cmp_Compare_int64.f bt121.2.1 bt124.2.1).bind fun t128 => (some t128)) else ((cmp_Compare_string.f bt121.2.2 bt124.2.2).bind fun t129 => (some t129))) else ((cmp_Compare_int.f bt121.1 bt124.1).bind fun t127 => (some t127))))) = some r := h; clear h; replace H := Option.bind_eq_some_iff.mp H; obtain ⟨⟨t121, t122, t123⟩, A30, H⟩ := H; replace H : ((value_Clean.f a1_0 a1_1 a1_2).bind fun bt124 => (if t121 = bt124.1 then (if t121 = 1 then ((cmp_Compare_int64.f t122 bt124.2.1).bind fun t128 => (some t128)) else ((cmp_Compare_string.f t123 bt124.2.2).bind fun t129 => (some t129))) else ((cmp_Compare_int.f t121 bt124.1).bind fun t127 => (some t127)))) = some r := H; have A3 := Aside0.mk A30; clear A30; replace H := Option.bind_eq_some_iff.mp H; obtain ⟨⟨t124, t125, t126⟩, A40, H⟩ := H; replace H : (if t121 = t124 then (if t121 = 1 then ((cmp_Compare_int64.f t122 t125).bind fun t128 => (some t128)) else ((cmp_Compare_string.f t123 t126).bind fun t129 => (some t129))) else ((cmp_Compare_int.f t121 t124).bind fun t127 => (some t127))) = some r := H; have A4 := Aside0.mk A40; clear A40
 by_cases c5 : t121 = t124
 ·rw [if_pos c5] at H; have c5b0 : (t121 == t124) = true := beq_iff_eq.mpr c5; have c5b1 : (t121 != t124) = false := bne_eq_false_iff_eq.mpr c5; clear c5
  by_cases c6 : t121 = 1
  ·rw [if_pos c6] at H; have c6b0 : (t121 == 1) = true := beq_iff_eq.mpr c6; have c6b1 : (t121 != 1) = false := bne_eq_false_iff_eq.mpr c6; clear c6; replace H := Option.bind_eq_some_iff.mp H; obtain ⟨t128, A70, H⟩ := H; replace H : (some t128) = some r := H; have A7 := Aside0.mk A70; clear A70; obtain rfl := Option.some.inj H
   go_enter Try.func137, Try.ntmps137
   try go_wp2_with (first | ((with_reducible refine gate_dst (N := 2) rfl ?_); refine box_event ?hg (N := 2) ?hd (cs := #[.int .i64 a0_0, .int .i64 a0_1, .string a0_2]) (t := 23) ?hr ?_; (case hd => rfl); (case hg => rfl); (case hr => first | (go_simp; done) | (go_simp; rfl)); intro gb100 hg w8 hbox hb; have n0_ := Aside0.mk (below_step zz0 hb); have n1_ := Aside0.mk (hbox); have n2_ := Aside0.mk ((zz1 : w.heap.size ≤ gb100)); have n3_ := Aside0.mk ((zz1 : w.heap.size ≤ gb100)); clear HB; have HB := n0_; have BK100 := n1_; have GW100 := n2_; have GE100 := n3_; clear n0_ n1_ n2_ n3_; clear hb hbox hg) | ((with_reducible refine gate_dst (N := 3) rfl ?_); refine box_event ?hg (N := 3) ?hd (cs := #[.int .i64 a1_0, .int .i64 a1_1, .string a1_2]) (t := 23) ?hr ?_; (case hd => rfl); (case hg => rfl); (case hr => first | (go_simp; done) | (go_simp; rfl)); intro gb101 hg w9 hbox hb; have n0_ := Aside0.mk (blk_below (g := gb100) (o := .cells #[.int .i64 a0_0, .int .i64 a0_1, .string a0_2] 23 (0, 0)) zz4 hb); have n1_ := Aside0.mk (below_step zz5 hb); have n2_ := Aside0.mk (hbox); have n3_ := Aside0.mk ((zz10 : w.heap.size ≤ gb101)); have n4_ := Aside0.mk ((zz10 : w.heap.size ≤ gb101)); have n5_ := Aside0.mk ((zz11 : gb100 ≠ gb101)); have n6_ := Aside0.mk ((zz12 : gb101 ≠ gb100)); clear BK100; clear HB; have BK100 := n0_; have HB := n1_; have BK101 := n2_; have GW101 := n3_; have GE101 := n4_; have NB100_101 := n5_; have NB101_100 := n6_; clear n0_ n1_ n2_ n3_ n4_ n5_ n6_; clear hb hbox hg))
   have n0_ := Aside0.mk (blk_drew BK100.out); have n1_ := Aside0.mk (blk_drew BK101.out); have n2_ := Aside0.mk (below_drew1 HB.out); clear BK100; clear BK101; clear HB; have BK100 := n0_; have BK101 := n1_; have HB := n2_; clear n0_ n1_ n2_; refine start_ (n := 6) (S := fun w' => w'.cell? ⟨gb100, 0, none⟩ = some (.int .i64 a0_0) ∧ w'.cell? ⟨gb100, 1, none⟩ = some (.int .i64 a0_1) ∧ w'.cell? ⟨gb100, 2, none⟩ = some (.string a0_2) ∧ w'.cell? ⟨gb101, 0, none⟩ = some (.int .i64 a1_0) ∧ w'.cell? ⟨gb101, 1, none⟩ = some (.int .i64 a1_1) ∧ w'.cell? ⟨gb101, 2, none⟩ = some (.string a1_2)) (ds := [4, 5]) (.replicate 6 false) (by kernel_rfl) rfl rfl ⟨cK BK100 0, cK BK100 1, cK BK100 2, cK BK101 0, cK BK101 1, cK BK101 2⟩ (fun hHeld => ?_); generalize w9.drew = w10 at BK100 BK101 HB hHeld ⊢; refine take_ (i := 0) (N := some 5) (v := ?_) (a' := ?_) (bA 6 1) rfl rfl (by kernel_rfl) (fun _ _ _ h => h) (Or.inl ⟨by rfl, ?_⟩) hHeld ?_ ?_; rotate_left
   ·rintro w' ⟨s0, s1, s2, s3, s4, s5⟩
    go_simp
    (with_reducible rfl)
   rotate_left
   ·simp only [Act.put, List.setIfInBounds_toArray, List.set_cons_zero, List.set_cons_succ, i64_w, i32_w]
    rfl
   refine take_ (i := 2) (N := some 7) (v := ?_) (a' := ?_) (bA 6 5) rfl rfl (by kernel_rfl) (fun _ _ _ h => h) (Or.inl ⟨by rfl, ?_⟩) hHeld ?_ ?_; rotate_left
   ·rintro w' ⟨s0, s1, s2, s3, s4, s5⟩
    go_simp
    (with_reducible rfl)
   rotate_left
   ·simp only [Act.put, List.setIfInBounds_toArray, List.set_cons_zero, List.set_cons_succ, i64_w, i32_w]
    rfl
   refine one_ (i := 1) (N := some 6) (bA 6 7) rfl rfl (by kernel_rfl) (by decide) (fun K hK => ?_); refine goes_ Try.func85 (by kernel_rfl) rfl #[.agg #[.int .i64 a0_0, .int .i64 a0_1, .string a0_2]] (by rfl) rfl rfl zz8 ?_; (with_reducible refine (value_Clean.calls a0_0 a0_1 a0_2 t121 t122 t123 _ A3.out).mono ?_); rintro e w11 ⟨rfl, hb⟩; refine ⟨_, rfl, ?_⟩; have n0_ := Aside0.mk (blk_below (g := gb100) (o := .cells #[.int .i64 a0_0, .int .i64 a0_1, .string a0_2] 23 (0, 0)) zz4 hb); have n1_ := Aside0.mk (blk_below (g := gb101) (o := .cells #[.int .i64 a1_0, .int .i64 a1_1, .string a1_2] 23 (0, 0)) zz13 hb); have n2_ := Aside0.mk (below_step zz14 hb); clear BK100; clear BK101; clear HB; have BK100 := n0_; have BK101 := n1_; have HB := n2_; clear n0_ n1_ n2_; (try clear hb); (try clear hb2); (try clear hk); (try clear hi); refine hK.out _ _ ⟨cK BK100 0, cK BK100 1, cK BK100 2, cK BK101 0, cK BK101 1, cK BK101 2⟩ (fun hHeld => ?_); clear hK K; refine norm_ (a' := ?_) ?_ ?_; rotate_left
   ·show Act.put _ (some 6) _ = _
    simp only [Act.put, List.setIfInBounds_toArray, List.set_cons_zero, List.set_cons_succ, i64_w, i32_w]
    rfl
   refine one_ (i := 3) (N := some 8) (bA 6 15) rfl rfl (by kernel_rfl) (by decide) (fun K hK => ?_); refine goes_ Try.func85 (by kernel_rfl) rfl #[.agg #[.int .i64 a1_0, .int .i64 a1_1, .string a1_2]] (by rfl) rfl rfl zz8 ?_; (with_reducible refine (value_Clean.calls a1_0 a1_1 a1_2 t124 t125 t126 _ A4.out).mono ?_); rintro e w12 ⟨rfl, hb⟩; refine ⟨_, rfl, ?_⟩; have n0_ := Aside0.mk (blk_below (g := gb100) (o := .cells #[.int .i64 a0_0, .int .i64 a0_1, .string a0_2] 23 (0, 0)) zz4 hb); have n1_ := Aside0.mk (blk_below (g := gb101) (o := .cells #[.int .i64 a1_0, .int .i64 a1_1, .string a1_2] 23 (0, 0)) zz13 hb); have n2_ := Aside0.mk (below_step zz14 hb); clear BK100; clear BK101; clear HB; have BK100 := n0_; have BK101 := n1_; have HB := n2_; clear n0_ n1_ n2_; (try clear hb); (try clear hb2); (try clear hk); (try clear hi); refine hK.out _ _ ⟨cK BK100 0, cK BK100 1, cK BK100 2, cK BK101 0, cK BK101 1, cK BK101 2⟩ (fun hHeld => ?_); clear hK K; refine norm_ (a' := ?_) ?_ ?_; rotate_left
   ·show Act.put _ (some 8) _ = _
    simp only [Act.put, List.setIfInBounds_toArray, List.set_cons_zero, List.set_cons_succ, i64_w, i32_w]
    rfl
   refine last_ (i := 4) (N := none) (bA 6 31) rfl rfl (by kernel_rfl) (by decide) (fun K hK => ?_); have hs13 : w12.cell? ⟨gb100, 0, none⟩ = some (.int .i64 a0_0) := cK BK100 0; have hfs13 := blk_frozen BK100.out 0; have hns13_1 := NB101_100.out; have hms13_1 := NB100_101.out; have hs14 : w12.cell? ⟨gb100, 1, none⟩ = some (.int .i64 a0_1) := cK BK100 1; have hfs14 := blk_frozen BK100.out 1; have hns14_1 := NB101_100.out; have hms14_1 := NB100_101.out; have hs15 : w12.cell? ⟨gb100, 2, none⟩ = some (.string a0_2) := cK BK100 2; have hfs15 := blk_frozen BK100.out 2; have hns15_1 := NB101_100.out; have hms15_1 := NB100_101.out; refine skip_ (w1 := ?_) (by rfl) rfl ?_ ?_; rotate_left
   ·go_simp
    rfl
   refine hK.out _ _ ?_; clear hK K; refine last_ (i := 5) (N := none) (bA 6 63) rfl rfl (by kernel_rfl) (by decide) (fun K hK => ?_); have hs16 : w12.cell? ⟨gb101, 0, none⟩ = some (.int .i64 a1_0) := cK BK101 0; have hfs16 := blk_frozen BK101.out 0; have hns16_0 := NB100_101.out; have hms16_0 := NB101_100.out; have hs17 : w12.cell? ⟨gb101, 1, none⟩ = some (.int .i64 a1_1) := cK BK101 1; have hfs17 := blk_frozen BK101.out 1; have hns17_0 := NB100_101.out; have hms17_0 := NB101_100.out; have hs18 : w12.cell? ⟨gb101, 2, none⟩ = some (.string a1_2) := cK BK101 2; have hfs18 := blk_frozen BK101.out 2; have hns18_0 := NB100_101.out; have hms18_0 := NB101_100.out; refine skip_ (w1 := ?_) (by rfl) rfl ?_ ?_; rotate_left
   ·go_simp
    rfl
   refine hK.out _ _ ?_; clear hK K; refine done_ (by kernel_rfl) ?_; have hnb19 := NB100_101.out; have hnc19 := NB101_100.out; have hcz20_0 : w12.cell? ⟨gb100, 0, none⟩ = some (.int .i64 a0_0) := cK BK100 0; have hcz20_1 : w12.cell? ⟨gb100, 1, none⟩ = some (.int .i64 a0_1) := cK BK100 1; have hcz20_2 : w12.cell? ⟨gb100, 2, none⟩ = some (.string a0_2) := cK BK100 2; have hfz20_0 := blk_frozen BK100.out 0; have hfz20_1 := blk_frozen BK100.out 1; have hfz20_2 := blk_frozen BK100.out 2; have hcz21_0 : w12.cell? ⟨gb101, 0, none⟩ = some (.int .i64 a1_0) := cK BK101 0; have hcz21_1 : w12.cell? ⟨gb101, 1, none⟩ = some (.int .i64 a1_1) := cK BK101 1; have hcz21_2 : w12.cell? ⟨gb101, 2, none⟩ = some (.string a1_2) := cK BK101 2; have hfz21_0 := blk_frozen BK101.out 0; have hfz21_1 := blk_frozen BK101.out 1; have hfz21_2 := blk_frozen BK101.out 2
   try go_wp2_with (first | ((with_reducible refine gate_callee (f := 163) rfl ?_); refine goesL_ (some 26) rfl rfl Try.func163 (by kernel_rfl) rfl #[.int .i64 t122, .int .i64 t125] rfl zz8 ?_; (with_reducible refine (cmp_Compare_int64.calls t122 t125 t128 _ A7.out).mono ?_); rintro e w' ⟨rfl, ⟨nd, rfl⟩⟩; refine ⟨_, rfl, ?_⟩))
   go_ret
   exact ⟨zz6, zz14⟩
  ·rw [if_neg c6] at H; have c6b0 : (t121 == 1) = false := beq_eq_false_iff_ne.mpr c6; have c6b1 : (t121 != 1) = true := bne_iff_ne.mpr c6; replace H := Option.bind_eq_some_iff.mp H; obtain ⟨t129, A220, H⟩ := H; replace H : (some t129) = some r := H; have A22 := Aside0.mk A220; clear A220; obtain rfl := Option.some.inj H
   go_enter Try.func137, Try.ntmps137
   try go_wp2_with (first | ((with_reducible refine gate_dst (N := 2) rfl ?_); refine box_event ?hg (N := 2) ?hd (cs := #[.int .i64 a0_0, .int .i64 a0_1, .string a0_2]) (t := 23) ?hr ?_; (case hd => rfl); (case hg => rfl); (case hr => first | (go_simp; done) | (go_simp; rfl)); intro gb100 hg w23 hbox hb; have n0_ := Aside0.mk (below_step zz0 hb); have n1_ := Aside0.mk (hbox); have n2_ := Aside0.mk ((zz1 : w.heap.size ≤ gb100)); have n3_ := Aside0.mk ((zz1 : w.heap.size ≤ gb100)); clear HB; have HB := n0_; have BK100 := n1_; have GW100 := n2_; have GE100 := n3_; clear n0_ n1_ n2_ n3_; clear hb hbox hg) | ((with_reducible refine gate_dst (N := 3) rfl ?_); refine box_event ?hg (N := 3) ?hd (cs := #[.int .i64 a1_0, .int .i64 a1_1, .string a1_2]) (t := 23) ?hr ?_; (case hd => rfl); (case hg => rfl); (case hr => first | (go_simp; done) | (go_simp; rfl)); intro gb101 hg w24 hbox hb; have n0_ := Aside0.mk (blk_below (g := gb100) (o := .cells #[.int .i64 a0_0, .int .i64 a0_1, .string a0_2] 23 (0, 0)) zz4 hb); have n1_ := Aside0.mk (below_step zz5 hb); have n2_ := Aside0.mk (hbox); have n3_ := Aside0.mk ((zz10 : w.heap.size ≤ gb101)); have n4_ := Aside0.mk ((zz10 : w.heap.size ≤ gb101)); have n5_ := Aside0.mk ((zz11 : gb100 ≠ gb101)); have n6_ := Aside0.mk ((zz12 : gb101 ≠ gb100)); clear BK100; clear HB; have BK100 := n0_; have HB := n1_; have BK101 := n2_; have GW101 := n3_; have GE101 := n4_; have NB100_101 := n5_; have NB101_100 := n6_; clear n0_ n1_ n2_ n3_ n4_ n5_ n6_; clear hb hbox hg))
   have n0_ := Aside0.mk (blk_drew BK100.out); have n1_ := Aside0.mk (blk_drew BK101.out); have n2_ := Aside0.mk (below_drew1 HB.out); clear BK100; clear BK101; clear HB; have BK100 := n0_; have BK101 := n1_; have HB := n2_; clear n0_ n1_ n2_; refine start_ (n := 6) (S := fun w' => w'.cell? ⟨gb100, 0, none⟩ = some (.int .i64 a0_0) ∧ w'.cell? ⟨gb100, 1, none⟩ = some (.int .i64 a0_1) ∧ w'.cell? ⟨gb100, 2, none⟩ = some (.string a0_2) ∧ w'.cell? ⟨gb101, 0, none⟩ = some (.int .i64 a1_0) ∧ w'.cell? ⟨gb101, 1, none⟩ = some (.int .i64 a1_1) ∧ w'.cell? ⟨gb101, 2, none⟩ = some (.string a1_2)) (ds := [4, 5]) (.replicate 6 false) (by kernel_rfl) rfl rfl ⟨cK BK100 0, cK BK100 1, cK BK100 2, cK BK101 0, cK BK101 1, cK BK101 2⟩ (fun hHeld => ?_); generalize w24.drew = w25 at BK100 BK101 HB hHeld ⊢; refine take_ (i := 0) (N := some 5) (v := ?_) (a' := ?_) (bA 6 1) rfl rfl (by kernel_rfl) (fun _ _ _ h => h) (Or.inl ⟨by rfl, ?_⟩) hHeld ?_ ?_; rotate_left
   ·rintro w' ⟨s0, s1, s2, s3, s4, s5⟩
    go_simp
    (with_reducible rfl)
   rotate_left
   ·simp only [Act.put, List.setIfInBounds_toArray, List.set_cons_zero, List.set_cons_succ, i64_w, i32_w]
    rfl
   refine take_ (i := 2) (N := some 7) (v := ?_) (a' := ?_) (bA 6 5) rfl rfl (by kernel_rfl) (fun _ _ _ h => h) (Or.inl ⟨by rfl, ?_⟩) hHeld ?_ ?_; rotate_left
   ·rintro w' ⟨s0, s1, s2, s3, s4, s5⟩
    go_simp
    (with_reducible rfl)
   rotate_left
   ·simp only [Act.put, List.setIfInBounds_toArray, List.set_cons_zero, List.set_cons_succ, i64_w, i32_w]
    rfl
   refine one_ (i := 1) (N := some 6) (bA 6 7) rfl rfl (by kernel_rfl) (by decide) (fun K hK => ?_); refine goes_ Try.func85 (by kernel_rfl) rfl #[.agg #[.int .i64 a0_0, .int .i64 a0_1, .string a0_2]] (by rfl) rfl rfl zz8 ?_; (with_reducible refine (value_Clean.calls a0_0 a0_1 a0_2 t121 t122 t123 _ A3.out).mono ?_); rintro e w26 ⟨rfl, hb⟩; refine ⟨_, rfl, ?_⟩; have n0_ := Aside0.mk (blk_below (g := gb100) (o := .cells #[.int .i64 a0_0, .int .i64 a0_1, .string a0_2] 23 (0, 0)) zz4 hb); have n1_ := Aside0.mk (blk_below (g := gb101) (o := .cells #[.int .i64 a1_0, .int .i64 a1_1, .string a1_2] 23 (0, 0)) zz13 hb); have n2_ := Aside0.mk (below_step zz14 hb); clear BK100; clear BK101; clear HB; have BK100 := n0_; have BK101 := n1_; have HB := n2_; clear n0_ n1_ n2_; (try clear hb); (try clear hb2); (try clear hk); (try clear hi); refine hK.out _ _ ⟨cK BK100 0, cK BK100 1, cK BK100 2, cK BK101 0, cK BK101 1, cK BK101 2⟩ (fun hHeld => ?_); clear hK K; refine norm_ (a' := ?_) ?_ ?_; rotate_left
   ·show Act.put _ (some 6) _ = _
    simp only [Act.put, List.setIfInBounds_toArray, List.set_cons_zero, List.set_cons_succ, i64_w, i32_w]
    rfl
   refine one_ (i := 3) (N := some 8) (bA 6 15) rfl rfl (by kernel_rfl) (by decide) (fun K hK => ?_); refine goes_ Try.func85 (by kernel_rfl) rfl #[.agg #[.int .i64 a1_0, .int .i64 a1_1, .string a1_2]] (by rfl) rfl rfl zz8 ?_; (with_reducible refine (value_Clean.calls a1_0 a1_1 a1_2 t124 t125 t126 _ A4.out).mono ?_); rintro e w27 ⟨rfl, hb⟩; refine ⟨_, rfl, ?_⟩; have n0_ := Aside0.mk (blk_below (g := gb100) (o := .cells #[.int .i64 a0_0, .int .i64 a0_1, .string a0_2] 23 (0, 0)) zz4 hb); have n1_ := Aside0.mk (blk_below (g := gb101) (o := .cells #[.int .i64 a1_0, .int .i64 a1_1, .string a1_2] 23 (0, 0)) zz13 hb); have n2_ := Aside0.mk (below_step zz14 hb); clear BK100; clear BK101; clear HB; have BK100 := n0_; have BK101 := n1_; have HB := n2_; clear n0_ n1_ n2_; (try clear hb); (try clear hb2); (try clear hk); (try clear hi); refine hK.out _ _ ⟨cK BK100 0, cK BK100 1, cK BK100 2, cK BK101 0, cK BK101 1, cK BK101 2⟩ (fun hHeld => ?_); clear hK K; refine norm_ (a' := ?_) ?_ ?_; rotate_left
   ·show Act.put _ (some 8) _ = _
    simp only [Act.put, List.setIfInBounds_toArray, List.set_cons_zero, List.set_cons_succ, i64_w, i32_w]
    rfl
   refine last_ (i := 4) (N := none) (bA 6 31) rfl rfl (by kernel_rfl) (by decide) (fun K hK => ?_); have hs28 : w27.cell? ⟨gb100, 0, none⟩ = some (.int .i64 a0_0) := cK BK100 0; have hfs28 := blk_frozen BK100.out 0; have hns28_1 := NB101_100.out; have hms28_1 := NB100_101.out; have hs29 : w27.cell? ⟨gb100, 1, none⟩ = some (.int .i64 a0_1) := cK BK100 1; have hfs29 := blk_frozen BK100.out 1; have hns29_1 := NB101_100.out; have hms29_1 := NB100_101.out; have hs30 : w27.cell? ⟨gb100, 2, none⟩ = some (.string a0_2) := cK BK100 2; have hfs30 := blk_frozen BK100.out 2; have hns30_1 := NB101_100.out; have hms30_1 := NB100_101.out; refine skip_ (w1 := ?_) (by rfl) rfl ?_ ?_; rotate_left
   ·go_simp
    rfl
   refine hK.out _ _ ?_; clear hK K; refine last_ (i := 5) (N := none) (bA 6 63) rfl rfl (by kernel_rfl) (by decide) (fun K hK => ?_); have hs31 : w27.cell? ⟨gb101, 0, none⟩ = some (.int .i64 a1_0) := cK BK101 0; have hfs31 := blk_frozen BK101.out 0; have hns31_0 := NB100_101.out; have hms31_0 := NB101_100.out; have hs32 : w27.cell? ⟨gb101, 1, none⟩ = some (.int .i64 a1_1) := cK BK101 1; have hfs32 := blk_frozen BK101.out 1; have hns32_0 := NB100_101.out; have hms32_0 := NB101_100.out; have hs33 : w27.cell? ⟨gb101, 2, none⟩ = some (.string a1_2) := cK BK101 2; have hfs33 := blk_frozen BK101.out 2; have hns33_0 := NB100_101.out; have hms33_0 := NB101_100.out; refine skip_ (w1 := ?_) (by rfl) rfl ?_ ?_; rotate_left
   ·go_simp
    rfl
   refine hK.out _ _ ?_; clear hK K; refine done_ (by kernel_rfl) ?_; have hnb34 := NB100_101.out; have hnc34 := NB101_100.out; have hcz35_0 : w27.cell? ⟨gb100, 0, none⟩ = some (.int .i64 a0_0) := cK BK100 0; have hcz35_1 : w27.cell? ⟨gb100, 1, none⟩ = some (.int .i64 a0_1) := cK BK100 1; have hcz35_2 : w27.cell? ⟨gb100, 2, none⟩ = some (.string a0_2) := cK BK100 2; have hfz35_0 := blk_frozen BK100.out 0; have hfz35_1 := blk_frozen BK100.out 1; have hfz35_2 := blk_frozen BK100.out 2; have hcz36_0 : w27.cell? ⟨gb101, 0, none⟩ = some (.int .i64 a1_0) := cK BK101 0; have hcz36_1 : w27.cell? ⟨gb101, 1, none⟩ = some (.int .i64 a1_1) := cK BK101 1; have hcz36_2 : w27.cell? ⟨gb101, 2, none⟩ = some (.string a1_2) := cK BK101 2; have hfz36_0 := blk_frozen BK101.out 0; have hfz36_1 := blk_frozen BK101.out 1; have hfz36_2 := blk_frozen BK101.out 2
   try go_wp2_with (first | ((with_reducible refine gate_callee (f := 134) rfl ?_); refine goesL_ (some 31) rfl rfl Try.func134 (by kernel_rfl) rfl #[.string t123, .string t126] rfl zz8 ?_; (with_reducible refine (cmp_Compare_string.calls t123 t126 t129 _ A22.out).mono ?_); rintro e w' ⟨rfl, ⟨nd, rfl⟩⟩; refine ⟨_, rfl, ?_⟩))
   go_ret
   exact ⟨zz6, zz14⟩
 ·rw [if_neg c5] at H; have c5b0 : (t121 == t124) = false := beq_eq_false_iff_ne.mpr c5; have c5b1 : (t121 != t124) = true := bne_iff_ne.mpr c5; replace H := Option.bind_eq_some_iff.mp H; obtain ⟨t127, A370, H⟩ := H; replace H : (some t127) = some r := H; have A37 := Aside0.mk A370; clear A370; obtain rfl := Option.some.inj H
  go_enter Try.func137, Try.ntmps137
  try go_wp2_with (first | ((with_reducible refine gate_dst (N := 2) rfl ?_); refine box_event ?hg (N := 2) ?hd (cs := #[.int .i64 a0_0, .int .i64 a0_1, .string a0_2]) (t := 23) ?hr ?_; (case hd => rfl); (case hg => rfl); (case hr => first | (go_simp; done) | (go_simp; rfl)); intro gb100 hg w38 hbox hb; have n0_ := Aside0.mk (below_step zz0 hb); have n1_ := Aside0.mk (hbox); have n2_ := Aside0.mk ((zz1 : w.heap.size ≤ gb100)); have n3_ := Aside0.mk ((zz1 : w.heap.size ≤ gb100)); clear HB; have HB := n0_; have BK100 := n1_; have GW100 := n2_; have GE100 := n3_; clear n0_ n1_ n2_ n3_; clear hb hbox hg) | ((with_reducible refine gate_dst (N := 3) rfl ?_); refine box_event ?hg (N := 3) ?hd (cs := #[.int .i64 a1_0, .int .i64 a1_1, .string a1_2]) (t := 23) ?hr ?_; (case hd => rfl); (case hg => rfl); (case hr => first | (go_simp; done) | (go_simp; rfl)); intro gb101 hg w39 hbox hb; have n0_ := Aside0.mk (blk_below (g := gb100) (o := .cells #[.int .i64 a0_0, .int .i64 a0_1, .string a0_2] 23 (0, 0)) zz4 hb); have n1_ := Aside0.mk (below_step zz5 hb); have n2_ := Aside0.mk (hbox); have n3_ := Aside0.mk ((zz10 : w.heap.size ≤ gb101)); have n4_ := Aside0.mk ((zz10 : w.heap.size ≤ gb101)); have n5_ := Aside0.mk ((zz11 : gb100 ≠ gb101)); have n6_ := Aside0.mk ((zz12 : gb101 ≠ gb100)); clear BK100; clear HB; have BK100 := n0_; have HB := n1_; have BK101 := n2_; have GW101 := n3_; have GE101 := n4_; have NB100_101 := n5_; have NB101_100 := n6_; clear n0_ n1_ n2_ n3_ n4_ n5_ n6_; clear hb hbox hg))
  have n0_ := Aside0.mk (blk_drew BK100.out); have n1_ := Aside0.mk (blk_drew BK101.out); have n2_ := Aside0.mk (below_drew1 HB.out); clear BK100; clear BK101; clear HB; have BK100 := n0_; have BK101 := n1_; have HB := n2_; clear n0_ n1_ n2_; refine start_ (n := 6) (S := fun w' => w'.cell? ⟨gb100, 0, none⟩ = some (.int .i64 a0_0) ∧ w'.cell? ⟨gb100, 1, none⟩ = some (.int .i64 a0_1) ∧ w'.cell? ⟨gb100, 2, none⟩ = some (.string a0_2) ∧ w'.cell? ⟨gb101, 0, none⟩ = some (.int .i64 a1_0) ∧ w'.cell? ⟨gb101, 1, none⟩ = some (.int .i64 a1_1) ∧ w'.cell? ⟨gb101, 2, none⟩ = some (.string a1_2)) (ds := [4, 5]) (.replicate 6 false) (by kernel_rfl) rfl rfl ⟨cK BK100 0, cK BK100 1, cK BK100 2, cK BK101 0, cK BK101 1, cK BK101 2⟩ (fun hHeld => ?_); generalize w39.drew = w40 at BK100 BK101 HB hHeld ⊢; refine take_ (i := 0) (N := some 5) (v := ?_) (a' := ?_) (bA 6 1) rfl rfl (by kernel_rfl) (fun _ _ _ h => h) (Or.inl ⟨by rfl, ?_⟩) hHeld ?_ ?_; rotate_left
  ·rintro w' ⟨s0, s1, s2, s3, s4, s5⟩
   go_simp
   (with_reducible rfl)
  rotate_left
  ·simp only [Act.put, List.setIfInBounds_toArray, List.set_cons_zero, List.set_cons_succ, i64_w, i32_w]
   rfl
  refine take_ (i := 2) (N := some 7) (v := ?_) (a' := ?_) (bA 6 5) rfl rfl (by kernel_rfl) (fun _ _ _ h => h) (Or.inl ⟨by rfl, ?_⟩) hHeld ?_ ?_; rotate_left
  ·rintro w' ⟨s0, s1, s2, s3, s4, s5⟩
   go_simp
   (with_reducible rfl)
  rotate_left
  ·simp only [Act.put, List.setIfInBounds_toArray, List.set_cons_zero, List.set_cons_succ, i64_w, i32_w]
   rfl
  refine one_ (i := 1) (N := some 6) (bA 6 7) rfl rfl (by kernel_rfl) (by decide) (fun K hK => ?_); refine goes_ Try.func85 (by kernel_rfl) rfl #[.agg #[.int .i64 a0_0, .int .i64 a0_1, .string a0_2]] (by rfl) rfl rfl zz8 ?_; (with_reducible refine (value_Clean.calls a0_0 a0_1 a0_2 t121 t122 t123 _ A3.out).mono ?_); rintro e w41 ⟨rfl, hb⟩; refine ⟨_, rfl, ?_⟩; have n0_ := Aside0.mk (blk_below (g := gb100) (o := .cells #[.int .i64 a0_0, .int .i64 a0_1, .string a0_2] 23 (0, 0)) zz4 hb); have n1_ := Aside0.mk (blk_below (g := gb101) (o := .cells #[.int .i64 a1_0, .int .i64 a1_1, .string a1_2] 23 (0, 0)) zz13 hb); have n2_ := Aside0.mk (below_step zz14 hb); clear BK100; clear BK101; clear HB; have BK100 := n0_; have BK101 := n1_; have HB := n2_; clear n0_ n1_ n2_; (try clear hb); (try clear hb2); (try clear hk); (try clear hi); refine hK.out _ _ ⟨cK BK100 0, cK BK100 1, cK BK100 2, cK BK101 0, cK BK101 1, cK BK101 2⟩ (fun hHeld => ?_); clear hK K; refine norm_ (a' := ?_) ?_ ?_; rotate_left
  ·show Act.put _ (some 6) _ = _
   simp only [Act.put, List.setIfInBounds_toArray, List.set_cons_zero, List.set_cons_succ, i64_w, i32_w]
   rfl
  refine one_ (i := 3) (N := some 8) (bA 6 15) rfl rfl (by kernel_rfl) (by decide) (fun K hK => ?_); refine goes_ Try.func85 (by kernel_rfl) rfl #[.agg #[.int .i64 a1_0, .int .i64 a1_1, .string a1_2]] (by rfl) rfl rfl zz8 ?_; (with_reducible refine (value_Clean.calls a1_0 a1_1 a1_2 t124 t125 t126 _ A4.out).mono ?_); rintro e w42 ⟨rfl, hb⟩; refine ⟨_, rfl, ?_⟩; have n0_ := Aside0.mk (blk_below (g := gb100) (o := .cells #[.int .i64 a0_0, .int .i64 a0_1, .string a0_2] 23 (0, 0)) zz4 hb); have n1_ := Aside0.mk (blk_below (g := gb101) (o := .cells #[.int .i64 a1_0, .int .i64 a1_1, .string a1_2] 23 (0, 0)) zz13 hb); have n2_ := Aside0.mk (below_step zz14 hb); clear BK100; clear BK101; clear HB; have BK100 := n0_; have BK101 := n1_; have HB := n2_; clear n0_ n1_ n2_; (try clear hb); (try clear hb2); (try clear hk); (try clear hi); refine hK.out _ _ ⟨cK BK100 0, cK BK100 1, cK BK100 2, cK BK101 0, cK BK101 1, cK BK101 2⟩ (fun hHeld => ?_); clear hK K; refine norm_ (a' := ?_) ?_ ?_; rotate_left
  ·show Act.put _ (some 8) _ = _
   simp only [Act.put, List.setIfInBounds_toArray, List.set_cons_zero, List.set_cons_succ, i64_w, i32_w]
   rfl
  refine last_ (i := 4) (N := none) (bA 6 31) rfl rfl (by kernel_rfl) (by decide) (fun K hK => ?_); have hs43 : w42.cell? ⟨gb100, 0, none⟩ = some (.int .i64 a0_0) := cK BK100 0; have hfs43 := blk_frozen BK100.out 0; have hns43_1 := NB101_100.out; have hms43_1 := NB100_101.out; have hs44 : w42.cell? ⟨gb100, 1, none⟩ = some (.int .i64 a0_1) := cK BK100 1; have hfs44 := blk_frozen BK100.out 1; have hns44_1 := NB101_100.out; have hms44_1 := NB100_101.out; have hs45 : w42.cell? ⟨gb100, 2, none⟩ = some (.string a0_2) := cK BK100 2; have hfs45 := blk_frozen BK100.out 2; have hns45_1 := NB101_100.out; have hms45_1 := NB100_101.out; refine skip_ (w1 := ?_) (by rfl) rfl ?_ ?_; rotate_left
  ·go_simp
   rfl
  refine hK.out _ _ ?_; clear hK K; refine last_ (i := 5) (N := none) (bA 6 63) rfl rfl (by kernel_rfl) (by decide) (fun K hK => ?_); have hs46 : w42.cell? ⟨gb101, 0, none⟩ = some (.int .i64 a1_0) := cK BK101 0; have hfs46 := blk_frozen BK101.out 0; have hns46_0 := NB100_101.out; have hms46_0 := NB101_100.out; have hs47 : w42.cell? ⟨gb101, 1, none⟩ = some (.int .i64 a1_1) := cK BK101 1; have hfs47 := blk_frozen BK101.out 1; have hns47_0 := NB100_101.out; have hms47_0 := NB101_100.out; have hs48 : w42.cell? ⟨gb101, 2, none⟩ = some (.string a1_2) := cK BK101 2; have hfs48 := blk_frozen BK101.out 2; have hns48_0 := NB100_101.out; have hms48_0 := NB101_100.out; refine skip_ (w1 := ?_) (by rfl) rfl ?_ ?_; rotate_left
  ·go_simp
   rfl
  refine hK.out _ _ ?_; clear hK K; refine done_ (by kernel_rfl) ?_; have hnb49 := NB100_101.out; have hnc49 := NB101_100.out; have hcz50_0 : w42.cell? ⟨gb100, 0, none⟩ = some (.int .i64 a0_0) := cK BK100 0; have hcz50_1 : w42.cell? ⟨gb100, 1, none⟩ = some (.int .i64 a0_1) := cK BK100 1; have hcz50_2 : w42.cell? ⟨gb100, 2, none⟩ = some (.string a0_2) := cK BK100 2; have hfz50_0 := blk_frozen BK100.out 0; have hfz50_1 := blk_frozen BK100.out 1; have hfz50_2 := blk_frozen BK100.out 2; have hcz51_0 : w42.cell? ⟨gb101, 0, none⟩ = some (.int .i64 a1_0) := cK BK101 0; have hcz51_1 : w42.cell? ⟨gb101, 1, none⟩ = some (.int .i64 a1_1) := cK BK101 1; have hcz51_2 : w42.cell? ⟨gb101, 2, none⟩ = some (.string a1_2) := cK BK101 2; have hfz51_0 := blk_frozen BK101.out 0; have hfz51_1 := blk_frozen BK101.out 1; have hfz51_2 := blk_frozen BK101.out 2
  try go_wp2_with (first | ((with_reducible refine gate_callee (f := 162) rfl ?_); refine goesL_ (some 18) rfl rfl Try.func162 (by kernel_rfl) rfl #[.int .i64 t121, .int .i64 t124] rfl zz8 ?_; (with_reducible refine (cmp_Compare_int.calls t121 t124 t127 _ A37.out).mono ?_); rintro e w' ⟨rfl, ⟨nd, rfl⟩⟩; refine ⟨_, rfl, ?_⟩))
  go_ret
  exact ⟨zz6, zz14⟩
def api_Value.l0 : Nat → List (S23) → List (S23) → List (S23) → Int → Int → Option (Int)
 | 0, _, _, _, _, _ => none
 | k + 1, x0, x1, x11, x12, x13 => if x13 < x12 then (if 0 ≤ x13 then (if x13 < (x11.length : Int) then (if x13 ≥ (x1.length : Int) then (some 1) else (if x13 < (x1.length : Int) then ((value_Compare.f ((rd_T23 x11 x13).f0) ((rd_T23 x11 x13).f1) ((rd_T23 x11 x13).f2) ((rd_T23 x1 x13).f0) ((rd_T23 x1 x13).f1) ((rd_T23 x1 x13).f2)).bind fun t134 => (if t134 = 0 then (api_Value.l0 k x0 x1 x11 x12 (wrap64 (x13 + 1))) else (some t134))) else (none))) else (none)) else (none)) else (if (x0.length : Int) < (x1.length : Int) then (some (-1)) else (some 0))
def api_Value.f (k : Nat) (l0 : List (S23)) (l1 : List (S23))  : Option (Int) := api_Value.l0 k l0 l1 l0 (l0.length : Int) 0
theorem api_Value.mono_l : ∀ k, (∀ y0 y1 y2 y3 y4, LeO (api_Value.l0 k y0 y1 y2 y3 y4) (api_Value.l0 (k + 1) y0 y1 y2 y3 y4))
 | 0 => fun _ _ _ _ _ r h => by simp [api_Value.l0] at h
 | k + 1 => by
  have ih0 := api_Value.mono_l k
  ·intro y0 y1 y2 y3 y4; unfold api_Value.l0
   repeat' first
   | (with_reducible exact ih0 _ _ _ _ _)
   | (with_reducible exact LeO.refl _)
   | (with_reducible exact LeO.none _)
   | (with_reducible refine LeO.ite ?_ ?_)
   | (with_reducible refine LeO.bind ?_ (fun _ => ?_))
   | exact ih0 _ _ _ _ _
   | exact LeO.none _
   | refine LeO.ite ?_ ?_
   | refine LeO.bind ?_ (fun _ => ?_)
theorem api_Value.mono : ∀ a0 a1 k, LeO (api_Value.f k a0 a1) (api_Value.f (k + 1) a0 a1) := by
 intro a0 a1 k; have ih0 := api_Value.mono_l k; unfold api_Value.f
 repeat' first
   | (with_reducible exact ih0 _ _ _ _ _)
   | (with_reducible exact LeO.refl _)
   | (with_reducible exact LeO.none _)
   | (with_reducible refine LeO.ite ?_ ?_)
   | (with_reducible refine LeO.bind ?_ (fun _ => ?_))
   | exact ih0 _ _ _ _ _
   | exact LeO.none _
   | refine LeO.ite ?_ ?_
   | refine LeO.bind ?_ (fun _ => ?_)
set_option maxHeartbeats 8000000 in
set_option maxRecDepth 100000 in
theorem api_Value.calls (k : Nat) (A0 : Option Addr) (c0 : Nat) (l0 : List (S23)) (A1 : Option Addr) (c1 : Nat) (l1 : List (S23))  (r : Int) (w : World) (hr0 : Kd.C k23 w A0 l0.length l0) (hc0 : l0.length ≤ c0) (hr1 : Kd.C k23 w A1 l1.length l1) (hc1 : l1.length ≤ c1) (h : api_Value.f k l0 l1 = some r) :
  Calls Try.prog 136 #[.slice A0 l0.length c0, .slice A1 l1.length c1, .func (.func 137) #[] #[]] w fun e w' => e = .returned (.int .i64 r) ∧ Below w.heap.size w w' := by
 have hu23 := Try.underlying23; have HR0 := Aside0.mk hr0; have HC0 := Aside0.mk hc0; clear hr0 hc0; have HR1 := Aside0.mk hr1; have HC1 := Aside0.mk hc1; clear hr1 hc1; have HB := Aside0.mk (Below.refl w.heap.size w); have H : (api_Value.l0 k l0 l1 l0 (l0.length : Int) 0) = some r := h; clear h; have H' := Aside0.mk H; clear H
 go_enter Try.func136, Try.ntmps136
 go_wp2
 go_loopg [13] k (fun kq v13 w' => ∃ (x13_1 : Int), v13 = .int .i64 x13_1 ∧ Aside0 (api_Value.l0 kq l0 l1 l0 (l0.length : Int) x13_1 = some r) ∧ Aside0 (kq ≤ k) ∧ Aside0 (Below w.heap.size w w'))
 case atStart => exact ⟨(0), zz2, H', ⟨Nat.le_refl _⟩, ⟨zz0⟩⟩
 case round =>
  clear H'; (try clear c1); (try clear p2); obtain ⟨x13_1, rfl, HA, HK1, HB⟩ := hrel
  cases gk with
  | zero => exact absurd HA.out (by simp [api_Value.l0])
  | succ k1 =>
   have H := HA.out; clear HA; simp only [api_Value.l0] at H
   by_cases c4 : x13_1 < (l0.length : Int)
   ·rw [if_pos c4] at H; have c4b0 : decide (x13_1 < (l0.length : Int)) = true := decide_eq_true c4; clear c4
    by_cases c5 : 0 ≤ x13_1
    ·rw [if_pos c5] at H; have c5b0 : decide (0 ≤ x13_1) = true := decide_eq_true c5; clear c5
     by_cases c6 : x13_1 < (l0.length : Int)
     ·rw [if_pos c6] at H; have c6b0 : decide (x13_1 < (l0.length : Int)) = true := decide_eq_true c6; clear c6
      by_cases c7 : x13_1 ≥ (l1.length : Int)
      ·rw [if_pos c7] at H; have c7b0 : decide ((l1.length : Int) ≤ x13_1) = true := decide_eq_true c7; clear c7; obtain rfl := Option.some.inj H; have p130 : 0 ≤ (x13_1 : Int) := of_decide_eq_true zz9; have q130 : x13_1 < (l0.length : Int) := of_decide_eq_true zz9; obtain ⟨ad130, e130, hx130_0, hx130_1, hx130_2⟩ := at_T23 HR0.out x13_1 p130 q130
       cases e130
       replace hx130_0 := cB HB hx130_0; replace hx130_1 := cB HB hx130_1; replace hx130_2 := cB HB hx130_2; replace p130 := eq_true p130; replace q130 := eq_true q130
       go_wp2_with (first | ((with_reducible refine gate_dst (N := 8) rfl ?_); refine box_event ?hg (N := 8) ?hd (cs := #[.int .i64 0, .int .i64 0, .string (⟨#[]⟩ : ByteArray)]) (t := 23) ?hr ?_; (case hd => rfl); (case hg => rfl); (case hr => first | (go_simp; done) | (go_simp; rfl)); intro gb100 hg w8 hbox hb; have n0_ := Aside0.mk (below_step zz0 hb); have n1_ := Aside0.mk (hbox); have n2_ := Aside0.mk ((zz1 : w.heap.size ≤ gb100)); have n3_ := Aside0.mk ((zz1 : w.heap.size ≤ gb100)); clear HB; have HB := n0_; have BK100 := n1_; have GW100 := n2_; have GE100 := n3_; clear n0_ n1_ n2_ n3_; clear hb hbox hg; have hcz9_0 : w8.cell? ⟨gb100, 0, none⟩ = some (.int .i64 0) := cK BK100 0; have hcz9_1 : w8.cell? ⟨gb100, 1, none⟩ = some (.int .i64 0) := cK BK100 1; have hcz9_2 : w8.cell? ⟨gb100, 2, none⟩ = some (.string (⟨#[]⟩ : ByteArray)) := cK BK100 2; have hfz9_0 := blk_frozen BK100.out 0; have hfz9_1 := blk_frozen BK100.out 1; have hfz9_2 := blk_frozen BK100.out 2))
       go_ret
       exact ⟨zz6, zz5⟩
      ·rw [if_neg c7] at H; have c7b0 : decide ((l1.length : Int) ≤ x13_1) = false := decide_eq_false c7; clear c7
       by_cases c10 : x13_1 < (l1.length : Int)
       ·rw [if_pos c10] at H; have c10b0 : decide (x13_1 < (l1.length : Int)) = true := decide_eq_true c10; clear c10; replace H := Option.bind_eq_some_iff.mp H; obtain ⟨t134, A110, H⟩ := H; replace H : (if t134 = 0 then (api_Value.l0 k1 l0 l1 l0 (l0.length : Int) (wrap64 (x13_1 + 1))) else (some t134)) = some r := H; have A11 := Aside0.mk A110; clear A110
        by_cases c12 : t134 = 0
        ·rw [if_pos c12] at H; have c12b0 : (t134 == 0) = true := beq_iff_eq.mpr c12; have c12b1 : (t134 != 0) = false := bne_eq_false_iff_eq.mpr c12; clear c12; have H' := Aside0.mk H; clear H; have p130 : 0 ≤ (x13_1 : Int) := of_decide_eq_true zz9; have q130 : x13_1 < (l0.length : Int) := of_decide_eq_true zz9; obtain ⟨ad130, e130, hx130_0, hx130_1, hx130_2⟩ := at_T23 HR0.out x13_1 p130 q130
         cases e130
         replace hx130_0 := cB HB hx130_0; replace hx130_1 := cB HB hx130_1; replace hx130_2 := cB HB hx130_2; replace p130 := eq_true p130; replace q130 := eq_true q130
         go_wp2_with (first | ((with_reducible refine gate_dst (N := 8) rfl ?_); refine box_event ?hg (N := 8) ?hd (cs := #[.int .i64 0, .int .i64 0, .string (⟨#[]⟩ : ByteArray)]) (t := 23) ?hr ?_; (case hd => rfl); (case hg => rfl); (case hr => first | (go_simp; done) | (go_simp; rfl)); intro gb100 hg w13 hbox hb; have n0_ := Aside0.mk (below_step zz0 hb); have n1_ := Aside0.mk (hbox); have n2_ := Aside0.mk ((zz1 : w.heap.size ≤ gb100)); have n3_ := Aside0.mk ((zz1 : w.heap.size ≤ gb100)); clear HB; have HB := n0_; have BK100 := n1_; have GW100 := n2_; have GE100 := n3_; clear n0_ n1_ n2_ n3_; clear hb hbox hg; have hcz14_0 : w13.cell? ⟨gb100, 0, none⟩ = some (.int .i64 0) := cK BK100 0; have hcz14_1 : w13.cell? ⟨gb100, 1, none⟩ = some (.int .i64 0) := cK BK100 1; have hcz14_2 : w13.cell? ⟨gb100, 2, none⟩ = some (.string (⟨#[]⟩ : ByteArray)) := cK BK100 2; have hfz14_0 := blk_frozen BK100.out 0; have hfz14_1 := blk_frozen BK100.out 1; have hfz14_2 := blk_frozen BK100.out 2; have p132 : 0 ≤ (x13_1 : Int) := of_decide_eq_true zz9; have q132 : x13_1 < (l1.length : Int) := of_decide_eq_true zz9; obtain ⟨ad132, e132, hx132_0, hx132_1, hx132_2⟩ := at_T23 HR1.out x13_1 p132 q132; cases e132; have hn132_0 : ad132.block ≠ gb100 := Nat.ne_of_lt (Nat.lt_of_lt_of_le zz15 GW100.out); have hn132_1 : ad132.block ≠ gb100 := Nat.ne_of_lt (Nat.lt_of_lt_of_le zz15 GW100.out); have hn132_2 : ad132.block ≠ gb100 := Nat.ne_of_lt (Nat.lt_of_lt_of_le zz15 GW100.out); replace hx132_0 := cB HB hx132_0; replace hx132_1 := cB HB hx132_1; replace hx132_2 := cB HB hx132_2; replace hx132_0 := (cell_far (p := ⟨gb100, 0, none⟩) zz16 (.int .i64 ((rd_T23 l0 x13_1).f0))).trans hx132_0; replace hx132_1 := (cell_far (p := ⟨gb100, 0, none⟩) zz16 (.int .i64 ((rd_T23 l0 x13_1).f0))).trans hx132_1; replace hx132_2 := (cell_far (p := ⟨gb100, 0, none⟩) zz16 (.int .i64 ((rd_T23 l0 x13_1).f0))).trans hx132_2; replace hx132_0 := (cell_far (p := ⟨gb100, 1, none⟩) zz17 (.int .i64 ((rd_T23 l0 x13_1).f1))).trans hx132_0; replace hx132_1 := (cell_far (p := ⟨gb100, 1, none⟩) zz17 (.int .i64 ((rd_T23 l0 x13_1).f1))).trans hx132_1; replace hx132_2 := (cell_far (p := ⟨gb100, 1, none⟩) zz17 (.int .i64 ((rd_T23 l0 x13_1).f1))).trans hx132_2; replace hx132_0 := (cell_far (p := ⟨gb100, 2, none⟩) zz18 (.string ((rd_T23 l0 x13_1).f2))).trans hx132_0; replace hx132_1 := (cell_far (p := ⟨gb100, 2, none⟩) zz18 (.string ((rd_T23 l0 x13_1).f2))).trans hx132_1; replace hx132_2 := (cell_far (p := ⟨gb100, 2, none⟩) zz18 (.string ((rd_T23 l0 x13_1).f2))).trans hx132_2; clear hn132_0; clear hn132_1; clear hn132_2; replace p132 := eq_true p132; replace q132 := eq_true q132) | ((with_reducible refine gate_dst (N := 9) rfl ?_); refine box_event ?hg (N := 9) ?hd (cs := #[.int .i64 0, .int .i64 0, .string (⟨#[]⟩ : ByteArray)]) (t := 23) ?hr ?_; (case hd => rfl); (case hg => rfl); (case hr => first | (go_simp; done) | (go_simp; rfl)); intro gb101 hg w15 hbox hb; have n0_ := Aside0.mk (blk_below (g := gb100) (o := .cells #[.int .i64 ((rd_T23 l0 x13_1).f0), .int .i64 ((rd_T23 l0 x13_1).f1), .string ((rd_T23 l0 x13_1).f2)] 23 (0, 0)) zz19 hb); have n1_ := Aside0.mk (below_step zz5 hb); have n2_ := Aside0.mk (hbox); have n3_ := Aside0.mk ((zz10 : w.heap.size ≤ gb101)); have n4_ := Aside0.mk ((zz10 : w.heap.size ≤ gb101)); have n5_ := Aside0.mk ((by rw [hg]; exact Nat.ne_of_lt (blk_lt (g := gb100) (o := .cells #[.int .i64 ((rd_T23 l0 x13_1).f0), .int .i64 ((rd_T23 l0 x13_1).f1), .string ((rd_T23 l0 x13_1).f2)] 23 (0, 0)) zz19) : gb100 ≠ gb101)); have n6_ := Aside0.mk ((by rw [hg]; exact Nat.ne_of_gt (blk_lt (g := gb100) (o := .cells #[.int .i64 ((rd_T23 l0 x13_1).f0), .int .i64 ((rd_T23 l0 x13_1).f1), .string ((rd_T23 l0 x13_1).f2)] 23 (0, 0)) zz19) : gb101 ≠ gb100)); clear BK100; clear HB; have BK100 := n0_; have HB := n1_; have BK101 := n2_; have GW101 := n3_; have GE101 := n4_; have NB100_101 := n5_; have NB101_100 := n6_; clear n0_ n1_ n2_ n3_ n4_ n5_ n6_; clear hb hbox hg; have hnb16 := NB101_100.out; have hnc16 := NB100_101.out; have hcz17_0 : w15.cell? ⟨gb101, 0, none⟩ = some (.int .i64 0) := cK BK101 0; have hcz17_1 : w15.cell? ⟨gb101, 1, none⟩ = some (.int .i64 0) := cK BK101 1; have hcz17_2 : w15.cell? ⟨gb101, 2, none⟩ = some (.string (⟨#[]⟩ : ByteArray)) := cK BK101 2; have hfz17_0 := blk_frozen BK101.out 0; have hfz17_1 := blk_frozen BK101.out 1; have hfz17_2 := blk_frozen BK101.out 2; have hcz18_0 : w15.cell? ⟨gb100, 0, none⟩ = some (.int .i64 ((rd_T23 l0 x13_1).f0)) := cK BK100 0; have hcz18_1 : w15.cell? ⟨gb100, 1, none⟩ = some (.int .i64 ((rd_T23 l0 x13_1).f1)) := cK BK100 1; have hcz18_2 : w15.cell? ⟨gb100, 2, none⟩ = some (.string ((rd_T23 l0 x13_1).f2)) := cK BK100 2; have hfz18_0 := blk_frozen BK100.out 0; have hfz18_1 := blk_frozen BK100.out 1; have hfz18_2 := blk_frozen BK100.out 2) | (go_at_call 137; (with_reducible refine (value_Compare.calls ((rd_T23 l0 x13_1).f0) ((rd_T23 l0 x13_1).f1) ((rd_T23 l0 x13_1).f2) ((rd_T23 l1 x13_1).f0) ((rd_T23 l1 x13_1).f1) ((rd_T23 l1 x13_1).f2) t134 _ A11.out).mono ?_); rintro e w19 ⟨rfl, hb⟩; have n0_ := Aside0.mk (blk_below (g := gb100) (o := .cells #[.int .i64 ((rd_T23 l0 x13_1).f0), .int .i64 ((rd_T23 l0 x13_1).f1), .string ((rd_T23 l0 x13_1).f2)] 23 (0, 0)) zz20 hb); have n1_ := Aside0.mk (blk_below (g := gb101) (o := .cells #[.int .i64 ((rd_T23 l1 x13_1).f0), .int .i64 ((rd_T23 l1 x13_1).f1), .string ((rd_T23 l1 x13_1).f2)] 23 (0, 0)) (by (with_reducible repeat (first | refine blk_drewN ?_ _ | refine blk_drew ?_ | refine blk_alloc ?_ _)); refine blk_put (cs := #[.int .i64 ((rd_T23 l1 x13_1).f0), .int .i64 ((rd_T23 l1 x13_1).f1), .string (⟨#[]⟩ : ByteArray)]) ?_ 2 _ rfl; (with_reducible repeat (first | refine blk_drewN ?_ _ | refine blk_drew ?_ | refine blk_alloc ?_ _)); refine blk_put (cs := #[.int .i64 ((rd_T23 l1 x13_1).f0), .int .i64 0, .string (⟨#[]⟩ : ByteArray)]) ?_ 1 _ rfl; (with_reducible repeat (first | refine blk_drewN ?_ _ | refine blk_drew ?_ | refine blk_alloc ?_ _)); refine blk_put (cs := #[.int .i64 0, .int .i64 0, .string (⟨#[]⟩ : ByteArray)]) ?_ 0 _ rfl; (with_reducible repeat (first | refine blk_drewN ?_ _ | refine blk_drew ?_ | refine blk_alloc ?_ _)); exact BK101.out) hb); have n2_ := Aside0.mk (below_step zz14 hb); clear BK100; clear BK101; clear HB; have BK100 := n0_; have BK101 := n1_; have HB := n2_; clear n0_ n1_ n2_; (try clear hb); (try clear hb2); (try clear hk); (try clear hi)))
         go_roundg k1
         case measure => have := HK1.out; omega
         case rel => exact ⟨(wrap64 (x13_1 + 1)), zz2, H', ⟨by have := HK1.out; omega⟩, ⟨zz14⟩⟩
        ·rw [if_neg c12] at H; have c12b0 : (t134 == 0) = false := beq_eq_false_iff_ne.mpr c12; have c12b1 : (t134 != 0) = true := bne_iff_ne.mpr c12; obtain rfl := Option.some.inj H; have p130 : 0 ≤ (x13_1 : Int) := of_decide_eq_true zz9; have q130 : x13_1 < (l0.length : Int) := of_decide_eq_true zz9; obtain ⟨ad130, e130, hx130_0, hx130_1, hx130_2⟩ := at_T23 HR0.out x13_1 p130 q130
         cases e130
         replace hx130_0 := cB HB hx130_0; replace hx130_1 := cB HB hx130_1; replace hx130_2 := cB HB hx130_2; replace p130 := eq_true p130; replace q130 := eq_true q130
         go_wp2_with (first | ((with_reducible refine gate_dst (N := 8) rfl ?_); refine box_event ?hg (N := 8) ?hd (cs := #[.int .i64 0, .int .i64 0, .string (⟨#[]⟩ : ByteArray)]) (t := 23) ?hr ?_; (case hd => rfl); (case hg => rfl); (case hr => first | (go_simp; done) | (go_simp; rfl)); intro gb100 hg w20 hbox hb; have n0_ := Aside0.mk (below_step zz0 hb); have n1_ := Aside0.mk (hbox); have n2_ := Aside0.mk ((zz1 : w.heap.size ≤ gb100)); have n3_ := Aside0.mk ((zz1 : w.heap.size ≤ gb100)); clear HB; have HB := n0_; have BK100 := n1_; have GW100 := n2_; have GE100 := n3_; clear n0_ n1_ n2_ n3_; clear hb hbox hg; have hcz21_0 : w20.cell? ⟨gb100, 0, none⟩ = some (.int .i64 0) := cK BK100 0; have hcz21_1 : w20.cell? ⟨gb100, 1, none⟩ = some (.int .i64 0) := cK BK100 1; have hcz21_2 : w20.cell? ⟨gb100, 2, none⟩ = some (.string (⟨#[]⟩ : ByteArray)) := cK BK100 2; have hfz21_0 := blk_frozen BK100.out 0; have hfz21_1 := blk_frozen BK100.out 1; have hfz21_2 := blk_frozen BK100.out 2; have p132 : 0 ≤ (x13_1 : Int) := of_decide_eq_true zz9; have q132 : x13_1 < (l1.length : Int) := of_decide_eq_true zz9; obtain ⟨ad132, e132, hx132_0, hx132_1, hx132_2⟩ := at_T23 HR1.out x13_1 p132 q132; cases e132; have hn132_0 : ad132.block ≠ gb100 := Nat.ne_of_lt (Nat.lt_of_lt_of_le zz15 GW100.out); have hn132_1 : ad132.block ≠ gb100 := Nat.ne_of_lt (Nat.lt_of_lt_of_le zz15 GW100.out); have hn132_2 : ad132.block ≠ gb100 := Nat.ne_of_lt (Nat.lt_of_lt_of_le zz15 GW100.out); replace hx132_0 := cB HB hx132_0; replace hx132_1 := cB HB hx132_1; replace hx132_2 := cB HB hx132_2; replace hx132_0 := (cell_far (p := ⟨gb100, 0, none⟩) zz16 (.int .i64 ((rd_T23 l0 x13_1).f0))).trans hx132_0; replace hx132_1 := (cell_far (p := ⟨gb100, 0, none⟩) zz16 (.int .i64 ((rd_T23 l0 x13_1).f0))).trans hx132_1; replace hx132_2 := (cell_far (p := ⟨gb100, 0, none⟩) zz16 (.int .i64 ((rd_T23 l0 x13_1).f0))).trans hx132_2; replace hx132_0 := (cell_far (p := ⟨gb100, 1, none⟩) zz17 (.int .i64 ((rd_T23 l0 x13_1).f1))).trans hx132_0; replace hx132_1 := (cell_far (p := ⟨gb100, 1, none⟩) zz17 (.int .i64 ((rd_T23 l0 x13_1).f1))).trans hx132_1; replace hx132_2 := (cell_far (p := ⟨gb100, 1, none⟩) zz17 (.int .i64 ((rd_T23 l0 x13_1).f1))).trans hx132_2; replace hx132_0 := (cell_far (p := ⟨gb100, 2, none⟩) zz18 (.string ((rd_T23 l0 x13_1).f2))).trans hx132_0; replace hx132_1 := (cell_far (p := ⟨gb100, 2, none⟩) zz18 (.string ((rd_T23 l0 x13_1).f2))).trans hx132_1; replace hx132_2 := (cell_far (p := ⟨gb100, 2, none⟩) zz18 (.string ((rd_T23 l0 x13_1).f2))).trans hx132_2; clear hn132_0; clear hn132_1; clear hn132_2; replace p132 := eq_true p132; replace q132 := eq_true q132) | ((with_reducible refine gate_dst (N := 9) rfl ?_); refine box_event ?hg (N := 9) ?hd (cs := #[.int .i64 0, .int .i64 0, .string (⟨#[]⟩ : ByteArray)]) (t := 23) ?hr ?_; (case hd => rfl); (case hg => rfl); (case hr => first | (go_simp; done) | (go_simp; rfl)); intro gb101 hg w22 hbox hb; have n0_ := Aside0.mk (blk_below (g := gb100) (o := .cells #[.int .i64 ((rd_T23 l0 x13_1).f0), .int .i64 ((rd_T23 l0 x13_1).f1), .string ((rd_T23 l0 x13_1).f2)] 23 (0, 0)) zz19 hb); have n1_ := Aside0.mk (below_step zz5 hb); have n2_ := Aside0.mk (hbox); have n3_ := Aside0.mk ((zz10 : w.heap.size ≤ gb101)); have n4_ := Aside0.mk ((zz10 : w.heap.size ≤ gb101)); have n5_ := Aside0.mk ((by rw [hg]; exact Nat.ne_of_lt (blk_lt (g := gb100) (o := .cells #[.int .i64 ((rd_T23 l0 x13_1).f0), .int .i64 ((rd_T23 l0 x13_1).f1), .string ((rd_T23 l0 x13_1).f2)] 23 (0, 0)) zz19) : gb100 ≠ gb101)); have n6_ := Aside0.mk ((by rw [hg]; exact Nat.ne_of_gt (blk_lt (g := gb100) (o := .cells #[.int .i64 ((rd_T23 l0 x13_1).f0), .int .i64 ((rd_T23 l0 x13_1).f1), .string ((rd_T23 l0 x13_1).f2)] 23 (0, 0)) zz19) : gb101 ≠ gb100)); clear BK100; clear HB; have BK100 := n0_; have HB := n1_; have BK101 := n2_; have GW101 := n3_; have GE101 := n4_; have NB100_101 := n5_; have NB101_100 := n6_; clear n0_ n1_ n2_ n3_ n4_ n5_ n6_; clear hb hbox hg; have hnb23 := NB101_100.out; have hnc23 := NB100_101.out; have hcz24_0 : w22.cell? ⟨gb101, 0, none⟩ = some (.int .i64 0) := cK BK101 0; have hcz24_1 : w22.cell? ⟨gb101, 1, none⟩ = some (.int .i64 0) := cK BK101 1; have hcz24_2 : w22.cell? ⟨gb101, 2, none⟩ = some (.string (⟨#[]⟩ : ByteArray)) := cK BK101 2; have hfz24_0 := blk_frozen BK101.out 0; have hfz24_1 := blk_frozen BK101.out 1; have hfz24_2 := blk_frozen BK101.out 2; have hcz25_0 : w22.cell? ⟨gb100, 0, none⟩ = some (.int .i64 ((rd_T23 l0 x13_1).f0)) := cK BK100 0; have hcz25_1 : w22.cell? ⟨gb100, 1, none⟩ = some (.int .i64 ((rd_T23 l0 x13_1).f1)) := cK BK100 1; have hcz25_2 : w22.cell? ⟨gb100, 2, none⟩ = some (.string ((rd_T23 l0 x13_1).f2)) := cK BK100 2; have hfz25_0 := blk_frozen BK100.out 0; have hfz25_1 := blk_frozen BK100.out 1; have hfz25_2 := blk_frozen BK100.out 2) | (go_at_call 137; (with_reducible refine (value_Compare.calls ((rd_T23 l0 x13_1).f0) ((rd_T23 l0 x13_1).f1) ((rd_T23 l0 x13_1).f2) ((rd_T23 l1 x13_1).f0) ((rd_T23 l1 x13_1).f1) ((rd_T23 l1 x13_1).f2) t134 _ A11.out).mono ?_); rintro e w26 ⟨rfl, hb⟩; have n0_ := Aside0.mk (blk_below (g := gb100) (o := .cells #[.int .i64 ((rd_T23 l0 x13_1).f0), .int .i64 ((rd_T23 l0 x13_1).f1), .string ((rd_T23 l0 x13_1).f2)] 23 (0, 0)) zz20 hb); have n1_ := Aside0.mk (blk_below (g := gb101) (o := .cells #[.int .i64 ((rd_T23 l1 x13_1).f0), .int .i64 ((rd_T23 l1 x13_1).f1), .string ((rd_T23 l1 x13_1).f2)] 23 (0, 0)) (by (with_reducible repeat (first | refine blk_drewN ?_ _ | refine blk_drew ?_ | refine blk_alloc ?_ _)); refine blk_put (cs := #[.int .i64 ((rd_T23 l1 x13_1).f0), .int .i64 ((rd_T23 l1 x13_1).f1), .string (⟨#[]⟩ : ByteArray)]) ?_ 2 _ rfl; (with_reducible repeat (first | refine blk_drewN ?_ _ | refine blk_drew ?_ | refine blk_alloc ?_ _)); refine blk_put (cs := #[.int .i64 ((rd_T23 l1 x13_1).f0), .int .i64 0, .string (⟨#[]⟩ : ByteArray)]) ?_ 1 _ rfl; (with_reducible repeat (first | refine blk_drewN ?_ _ | refine blk_drew ?_ | refine blk_alloc ?_ _)); refine blk_put (cs := #[.int .i64 0, .int .i64 0, .string (⟨#[]⟩ : ByteArray)]) ?_ 0 _ rfl; (with_reducible repeat (first | refine blk_drewN ?_ _ | refine blk_drew ?_ | refine blk_alloc ?_ _)); exact BK101.out) hb); have n2_ := Aside0.mk (below_step zz14 hb); clear BK100; clear BK101; clear HB; have BK100 := n0_; have BK101 := n1_; have HB := n2_; clear n0_ n1_ n2_; (try clear hb); (try clear hb2); (try clear hk); (try clear hi)))
         go_ret
         exact ⟨zz6, zz14⟩
       ·rw [if_neg c10] at H; exact absurd H (by simp)
     ·rw [if_neg c6] at H; exact absurd H (by simp)
    ·rw [if_neg c5] at H; exact absurd H (by simp)
   ·rw [if_neg c4] at H; have c4b0 : decide (x13_1 < (l0.length : Int)) = false := decide_eq_false c4; clear c4
    by_cases c27 : (l0.length : Int) < (l1.length : Int)
    ·rw [if_pos c27] at H; have c27b0 : decide ((l0.length : Int) < (l1.length : Int)) = true := decide_eq_true c27; have c27b1 : decide (l0.length < l1.length) = true := decide_eq_true (Int.ofNat_lt.mp c27); clear c27; obtain rfl := Option.some.inj H
     go_wp2
     go_ret
     exact ⟨zz6, zz0⟩
    ·rw [if_neg c27] at H; have c27b0 : decide ((l0.length : Int) < (l1.length : Int)) = false := decide_eq_false c27; have c27b1 : decide (l0.length < l1.length) = false := decide_eq_false (fun h => c27 (Int.ofNat_lt.mpr h)); clear c27; obtain rfl := Option.some.inj H
     go_wp2
     go_ret
     exact ⟨zz6, zz0⟩
def value_CompareRows.f (k : Nat) (l0 : List (S23)) (l1 : List (S23)) : Option (Int) := (api_Value.f k l0 l1).bind fun t135 => (some t135)
theorem value_CompareRows.mono : ∀ a0 a1 k, LeO (value_CompareRows.f k a0 a1) (value_CompareRows.f (k + 1) a0 a1) := by
 intro a0 a1 k; unfold value_CompareRows.f
 repeat' first
   | (with_reducible exact api_Value.mono _ _ _)
   | (with_reducible exact LeO.refl _)
   | (with_reducible exact LeO.none _)
   | (with_reducible refine LeO.ite ?_ ?_)
   | (with_reducible refine LeO.bind ?_ (fun _ => ?_))
   | exact api_Value.mono _ _ _
   | exact LeO.none _
   | refine LeO.ite ?_ ?_
   | refine LeO.bind ?_ (fun _ => ?_)
set_option maxHeartbeats 8000000 in
set_option maxRecDepth 100000 in
theorem value_CompareRows.calls (k : Nat) (A0 : Option Addr) (c0 : Nat) (l0 : List (S23)) (A1 : Option Addr) (c1 : Nat) (l1 : List (S23)) (r : Int) (w : World) (hr0 : Kd.C k23 w A0 l0.length l0) (hc0 : l0.length ≤ c0) (hr1 : Kd.C k23 w A1 l1.length l1) (hc1 : l1.length ≤ c1) (h : value_CompareRows.f k l0 l1 = some r) :
  Calls Try.prog 116 #[.slice A0 l0.length c0, .slice A1 l1.length c1] w fun e w' => e = .returned (.int .i64 r) ∧ Below w.heap.size w w' := by
 have HR0 := Aside0.mk hr0; have HC0 := Aside0.mk hc0; clear hr0 hc0; have HR1 := Aside0.mk hr1; have HC1 := Aside0.mk hc1; clear hr1 hc1; have HB := Aside0.mk (Below.refl w.heap.size w); have H : ((api_Value.f k l0 l1).bind fun t135 => (some t135)) = some r := h; clear h; replace H := Option.bind_eq_some_iff.mp H; obtain ⟨t135, A30, H⟩ := H; replace H : (some t135) = some r := H; have A3 := Aside0.mk A30; clear A30; obtain rfl := Option.some.inj H
 go_enter Try.func116, Try.ntmps116
 go_wp2_with (first | ((with_reducible refine gate_callee (f := 136) rfl ?_); refine goesL_ (some 7) rfl rfl Try.func136 (by kernel_rfl) rfl #[.slice A0 l0.length c0, .slice A1 l1.length c1, .func (.func 137) #[] #[]] rfl zz8 ?_; (with_reducible refine (api_Value.calls k _ _ l0 _ _ l1  t135 _ ?side1 ?side2 ?side3 ?side4 A3.out).mono ?_); (case side1 => repeat (first | exact HR0.out | (with_reducible refine Kd.C_alloc ?_ _) | (with_reducible refine Kd.C_drewN ?_ _) | (with_reducible refine Kd.C_drew ?_))); (case side2 => exact HC0.out); (case side3 => repeat (first | exact HR1.out | (with_reducible refine Kd.C_alloc ?_ _) | (with_reducible refine Kd.C_drewN ?_ _) | (with_reducible refine Kd.C_drew ?_))); (case side4 => exact HC1.out); rintro e w4 ⟨rfl, hb⟩; refine ⟨_, rfl, ?_⟩; have n0_ := Aside0.mk (below_step zz0 hb); clear HB; have HB := n0_; clear n0_; (try clear hb); (try clear hb2); (try clear hk); (try clear hi)))
 go_ret
 exact ⟨zz6, zz0⟩
end Go.Proofs.Ythicocmnefaioaa.QS

import Derived.Test.YthicocmnefaioaaZhq
namespace Go.Proofs.Ythicocmnefaioaa.QS
open Go.RowKit Go.Proofs.YthicocmnefaioaaW.PrintWords Go.Proofs.YthicocmnefaioaaW.PrintLast Go.Proofs.YthicocmnefaioaaW.PrintMore
open Go.Proofs.YthicocmnefaioaaW.Sq
attribute [local go_sem] max2_int min2_int max_two min_two max_three min_three max_four min_four
set_option linter.unusedVariables false
set_option linter.unusedSimpArgs false
attribute [local go_sem high] own_string_gtr
theorem info2 : (Try.prog.info? 2).map (fun i => (i.zero, i.size, i.bytes)) = some (some (.int .i64 0), 1, 8) := by kernel_rfl
theorem info3 : (Try.prog.info? 3).map (fun i => (i.zero, i.size, i.bytes)) = some (some (.int .i64 0), 1, 8) := by kernel_rfl
theorem info5 : (Try.prog.info? 5).map (fun i => (i.zero, i.size, i.bytes)) = some (some (.int .u8 0), 1, 1) := by kernel_rfl
structure S23 where
 f0 : Int
 f1 : Int
 f2 : ByteArray
def z23 : S23 := ⟨(0 : Int), (0 : Int), (⟨#[]⟩ : ByteArray)⟩
def k23 : Kd S23 := Kd.iso (Kd.pair (Kd.int .i64) (Kd.pair (Kd.int .i64) Kd.string)) (fun x : S23 => (x.f0, x.f1, x.f2))
theorem k23_open {w : World} {x : S23} {cs : List Value} (h : k23.K w x cs) : cs = [.int .i64 x.f0, .int .i64 x.f1, .string x.f2] := by
 obtain ⟨_, _, rfl, rfl, ⟨_, _, rfl, rfl, rfl⟩⟩ := h; exact rfl
theorem k23_mkM (w : World) (base : Nat) (ok : Nat → Prop) (x : S23)  : k23.M w base ok x [.int .i64 x.f0, .int .i64 x.f1, .string x.f2] := ⟨[.int .i64 x.f0], [.int .i64 x.f1, .string x.f2], rfl, rfl, ⟨[.int .i64 x.f1], [.string x.f2], rfl, rfl, rfl⟩⟩
def rd_T23 (xs : List S23) (i : Int) : S23 := xs.getD i.toNat z23
theorem at_T23 {w : World} {A : Option Addr} {n : Nat} {xs : List S23} (h : Kd.C k23 w A n xs) (i : Int) (h0 : 0 ≤ i) (h1 : i < n) : ∃ ad , A = some ad ∧ w.cell? (ad.add (i.toNat * 3)) = some (.int .i64 (rd_T23 xs i).f0) ∧ w.cell? ⟨(ad.add (i.toNat * 3)).block, (ad.add (i.toNat * 3)).off + 1, none⟩ = some (.int .i64 (rd_T23 xs i).f1) ∧ w.cell? ⟨(ad.add (i.toNat * 3)).block, (ad.add (i.toNat * 3)).off + 2, none⟩ = some (.string (rd_T23 xs i).f2) := by
 obtain ⟨ad, c, e, _, hK, hc0⟩ := Kd.C_get h z23 i h0 h1; have hc : ∀ j u, c[j]? = some u → w.cell? (ad.add (i.toNat * 3 + j)) = some u := hc0; obtain rfl := k23_open hK; exact ⟨ad, e, hc 0 _ rfl, by rw [← add_field _ _ 1 (by omega)]; exact hc 1 _ rfl, by rw [← add_field _ _ 2 (by omega)]; exact hc 2 _ rfl⟩
structure S51 where
 f0 : (List S23)
 f1 : Int
def z51 : S51 := ⟨([] : List S23), (0 : Int)⟩
def k51 : Kd S51 := Kd.iso (Kd.pair (Kd.slice 23 k23) (Kd.int .i64)) (fun x : S51 => (x.f0, x.f1))
theorem k51_open {w : World} {x : S51} {cs : List Value} (h : k51.K w x cs) : ∃ A0 c0, cs = [.slice A0 x.f0.length c0, .int .i64 x.f1] ∧ x.f0.length ≤ c0 ∧ k23.C w A0 x.f0.length x.f0 := by
 obtain ⟨_, _, rfl, ⟨A0, c0, rfl, l0, g0⟩, rfl⟩ := h; exact ⟨A0, c0, rfl, l0, g0⟩
theorem k51_mk (w : World) (x : S51) {A0 : Option Addr} {c0 : Nat} (l0 : x.f0.length ≤ c0) (g0 : k23.C w A0 x.f0.length x.f0) : k51.K w x [.slice A0 x.f0.length c0, .int .i64 x.f1] := ⟨[.slice A0 x.f0.length c0], [.int .i64 x.f1], rfl, ⟨A0, c0, rfl, l0, g0⟩, rfl⟩
theorem k51_mkF (W : World) (ok : Nat → Prop) (x : S51) {A0 : Option Addr} {c0 : Nat} (l0 : x.f0.length ≤ c0) (g0 : Kd.F k23 W ok A0 x.f0.length x.f0) : Kd.FK k51 W ok x [.slice A0 x.f0.length c0, .int .i64 x.f1] := fun W2 hW => k51_mk W2 x l0 (g0 W2 hW)
def rd_T51 (xs : List S51) (i : Int) : S51 := xs.getD i.toNat z51
theorem at_T51 {w : World} {A : Option Addr} {n : Nat} {xs : List S51} (h : Kd.C k51 w A n xs) (i : Int) (h0 : 0 ≤ i) (h1 : i < n) : ∃ ad A0 c0, A = some ad ∧ w.cell? (ad.add (i.toNat * 2)) = some (.slice A0 (rd_T51 xs i).f0.length c0) ∧ w.cell? ⟨(ad.add (i.toNat * 2)).block, (ad.add (i.toNat * 2)).off + 1, none⟩ = some (.int .i64 (rd_T51 xs i).f1) ∧ (rd_T51 xs i).f0.length ≤ c0 ∧ k23.C w A0 (rd_T51 xs i).f0.length (rd_T51 xs i).f0 := by
 obtain ⟨ad, c, e, _, hK, hc0⟩ := Kd.C_get h z51 i h0 h1; have hc : ∀ j u, c[j]? = some u → w.cell? (ad.add (i.toNat * 2 + j)) = some u := hc0; obtain ⟨A0, c0, rfl, l0, g0⟩ := k51_open hK; exact ⟨ad, A0, c0, e, hc 0 _ rfl, by rw [← add_field _ _ 1 (by omega)]; exact hc 1 _ rfl, l0, g0⟩
def value_inRange.f (a0 : Int) : Option (Bool) := if a0 ≥ (-4294967296) then (some (decide (a0 ≤ 4294967296))) else (some false)
set_option maxHeartbeats 8000000 in
set_option maxRecDepth 100000 in
theorem value_inRange.calls (a0 : Int) (r : Bool) (w : World) (h : value_inRange.f a0 = some r) :
  Calls Try.prog 99 #[.int .i64 a0] w fun e w' => e = .returned (.bool r) ∧ Drawn0 w w' := by
 have H : (if a0 ≥ (-4294967296) then (some (decide (a0 ≤ 4294967296))) else (some false)) = some r := h; clear h
 by_cases c2 : a0 ≥ (-4294967296)
 ·rw [if_pos c2] at H; have c2b0 : decide ((-4294967296) ≤ a0) = true := decide_eq_true c2; clear c2; obtain rfl := Option.some.inj H
  go_enter Try.func99, Try.ntmps99
  go_wp2
  go_ret
  exact ⟨zz0, zz1⟩
 ·rw [if_neg c2] at H; have c2b0 : decide ((-4294967296) ≤ a0) = false := decide_eq_false c2; clear c2; obtain rfl := Option.some.inj H
  go_enter Try.func99, Try.ntmps99
  go_wp2
  go_ret
  exact ⟨zz0, zz1⟩
def value_Valid.f (a0_0 : Int) (a0_1 : Int) (a0_2 : ByteArray) : Option (Bool) := if a0_0 = 0 then (if a0_1 = 0 then (some (a0_2.toList == ([] : List UInt8))) else (some false)) else (if a0_0 = 1 then ((value_inRange.f a0_1).bind fun t103 => (if t103 = true then (some (a0_2.toList == ([] : List UInt8))) else (some false))) else (if a0_0 = 2 then (if a0_1 = 0 then (some (decide ((a0_2.size : Int) ≤ 32))) else (some false)) else (some false)))
set_option maxHeartbeats 8000000 in
set_option maxRecDepth 100000 in
theorem value_Valid.calls (a0_0 : Int) (a0_1 : Int) (a0_2 : ByteArray) (r : Bool) (w : World) (h : value_Valid.f a0_0 a0_1 a0_2 = some r) :
  Calls Try.prog 69 #[.agg #[.int .i64 a0_0, .int .i64 a0_1, .string a0_2]] w fun e w' => e = .returned (.bool r) ∧ Below w.heap.size w w' := by
 have hu23 := Try.underlying23; have HB := Aside0.mk (Below.refl w.heap.size w); have H : (if a0_0 = 0 then (if a0_1 = 0 then (some (a0_2.toList == ([] : List UInt8))) else (some false)) else (if a0_0 = 1 then ((value_inRange.f a0_1).bind fun t103 => (if t103 = true then (some (a0_2.toList == ([] : List UInt8))) else (some false))) else (if a0_0 = 2 then (if a0_1 = 0 then (some (decide ((a0_2.size : Int) ≤ 32))) else (some false)) else (some false)))) = some r := h; clear h
 by_cases c2 : a0_0 = 0
 ·rw [if_pos c2] at H; have c2b0 : (a0_0 == 0) = true := beq_iff_eq.mpr c2; have c2b1 : (a0_0 != 0) = false := bne_eq_false_iff_eq.mpr c2; clear c2
  by_cases c3 : a0_1 = 0
  ·rw [if_pos c3] at H; have c3b0 : (a0_1 == 0) = true := beq_iff_eq.mpr c3; have c3b1 : (a0_1 != 0) = false := bne_eq_false_iff_eq.mpr c3; clear c3; obtain rfl := Option.some.inj H
   go_enter Try.func69, Try.ntmps69
   go_wp2_with (first | ((with_reducible refine gate_dst (N := 1) rfl ?_); (try (refine gate_guard (by rfl) ?_; dsimp only)); refine box_event ?hg (N := 1) ?hd (cs := #[.int .i64 a0_0, .int .i64 a0_1, .string a0_2]) (t := 23) ?hr ?_; (case hd => rfl); (case hg => rfl); (case hr => first | (go_simp; done) | (go_simp; rfl)); intro gb100 hg w4 hbox hb; have n0_ := Aside0.mk (below_step zz2 hb); have n1_ := Aside0.mk (hbox); have n2_ := Aside0.mk ((zz3 : w.heap.size ≤ gb100)); have n3_ := Aside0.mk ((zz3 : w.heap.size ≤ gb100)); clear HB; have HB := n0_; have BK100 := n1_; have GW100 := n2_; have GE100 := n3_; clear n0_ n1_ n2_ n3_; clear hb hbox hg; have hcz5_0 : w4.cell? ⟨gb100, 0, none⟩ = some (.int .i64 a0_0) := cK BK100 0; have hcz5_1 : w4.cell? ⟨gb100, 1, none⟩ = some (.int .i64 a0_1) := cK BK100 1; have hcz5_2 : w4.cell? ⟨gb100, 2, none⟩ = some (.string a0_2) := cK BK100 2; have hfz5_0 := blk_frozen BK100.out 0; have hfz5_1 := blk_frozen BK100.out 1; have hfz5_2 := blk_frozen BK100.out 2))
   go_ret
   exact ⟨zz4, zz5⟩
  ·rw [if_neg c3] at H; have c3b0 : (a0_1 == 0) = false := beq_eq_false_iff_ne.mpr c3; have c3b1 : (a0_1 != 0) = true := bne_iff_ne.mpr c3; obtain rfl := Option.some.inj H
   go_enter Try.func69, Try.ntmps69
   go_wp2_with (first | ((with_reducible refine gate_dst (N := 1) rfl ?_); (try (refine gate_guard (by rfl) ?_; dsimp only)); refine box_event ?hg (N := 1) ?hd (cs := #[.int .i64 a0_0, .int .i64 a0_1, .string a0_2]) (t := 23) ?hr ?_; (case hd => rfl); (case hg => rfl); (case hr => first | (go_simp; done) | (go_simp; rfl)); intro gb100 hg w6 hbox hb; have n0_ := Aside0.mk (below_step zz2 hb); have n1_ := Aside0.mk (hbox); have n2_ := Aside0.mk ((zz3 : w.heap.size ≤ gb100)); have n3_ := Aside0.mk ((zz3 : w.heap.size ≤ gb100)); clear HB; have HB := n0_; have BK100 := n1_; have GW100 := n2_; have GE100 := n3_; clear n0_ n1_ n2_ n3_; clear hb hbox hg; have hcz7_0 : w6.cell? ⟨gb100, 0, none⟩ = some (.int .i64 a0_0) := cK BK100 0; have hcz7_1 : w6.cell? ⟨gb100, 1, none⟩ = some (.int .i64 a0_1) := cK BK100 1; have hcz7_2 : w6.cell? ⟨gb100, 2, none⟩ = some (.string a0_2) := cK BK100 2; have hfz7_0 := blk_frozen BK100.out 0; have hfz7_1 := blk_frozen BK100.out 1; have hfz7_2 := blk_frozen BK100.out 2))
   go_ret
   exact ⟨zz4, zz5⟩
 ·rw [if_neg c2] at H; have c2b0 : (a0_0 == 0) = false := beq_eq_false_iff_ne.mpr c2; have c2b1 : (a0_0 != 0) = true := bne_iff_ne.mpr c2
  by_cases c8 : a0_0 = 1
  ·rw [if_pos c8] at H; have c8b0 : (a0_0 == 1) = true := beq_iff_eq.mpr c8; have c8b1 : (a0_0 != 1) = false := bne_eq_false_iff_eq.mpr c8; clear c8; replace H := Option.bind_eq_some_iff.mp H; obtain ⟨t103, A90, H⟩ := H; replace H : (if t103 = true then (some (a0_2.toList == ([] : List UInt8))) else (some false)) = some r := H; have A9 := Aside0.mk A90; clear A90
   by_cases c10 : t103 = true
   ·subst c10; have H1 : (some (a0_2.toList == ([] : List UInt8))) = some r := by rw [if_pos rfl] at H; exact H
    clear H; have H := H1; clear H1; obtain rfl := Option.some.inj H
    go_enter Try.func69, Try.ntmps69
    go_wp2_with (first | ((with_reducible refine gate_dst (N := 1) rfl ?_); (try (refine gate_guard (by rfl) ?_; dsimp only)); refine box_event ?hg (N := 1) ?hd (cs := #[.int .i64 a0_0, .int .i64 a0_1, .string a0_2]) (t := 23) ?hr ?_; (case hd => rfl); (case hg => rfl); (case hr => first | (go_simp; done) | (go_simp; rfl)); intro gb100 hg w11 hbox hb; have n0_ := Aside0.mk (below_step zz2 hb); have n1_ := Aside0.mk (hbox); have n2_ := Aside0.mk ((zz3 : w.heap.size ≤ gb100)); have n3_ := Aside0.mk ((zz3 : w.heap.size ≤ gb100)); clear HB; have HB := n0_; have BK100 := n1_; have GW100 := n2_; have GE100 := n3_; clear n0_ n1_ n2_ n3_; clear hb hbox hg; have hcz12_0 : w11.cell? ⟨gb100, 0, none⟩ = some (.int .i64 a0_0) := cK BK100 0; have hcz12_1 : w11.cell? ⟨gb100, 1, none⟩ = some (.int .i64 a0_1) := cK BK100 1; have hcz12_2 : w11.cell? ⟨gb100, 2, none⟩ = some (.string a0_2) := cK BK100 2; have hfz12_0 := blk_frozen BK100.out 0; have hfz12_1 := blk_frozen BK100.out 1; have hfz12_2 := blk_frozen BK100.out 2) | ((with_reducible refine gate_callee (f := 99) rfl ?_); refine goesL_ (some 19) rfl rfl Try.func99 (by kernel_rfl) rfl #[.int .i64 a0_1] rfl zz6 ?_; (with_reducible refine (value_inRange.calls a0_1 true _ A9.out).mono ?_); rintro e w' ⟨rfl, ⟨nd, rfl⟩⟩; refine ⟨_, rfl, ?_⟩))
    go_ret
    exact ⟨zz4, zz5⟩
   ·replace c10 := Bool.eq_false_iff.mpr c10; subst c10; have H1 : (some false) = some r := by rw [if_neg (show ¬ (false = true) by decide)] at H; exact H
    clear H; have H := H1; clear H1; obtain rfl := Option.some.inj H
    go_enter Try.func69, Try.ntmps69
    go_wp2_with (first | ((with_reducible refine gate_dst (N := 1) rfl ?_); (try (refine gate_guard (by rfl) ?_; dsimp only)); refine box_event ?hg (N := 1) ?hd (cs := #[.int .i64 a0_0, .int .i64 a0_1, .string a0_2]) (t := 23) ?hr ?_; (case hd => rfl); (case hg => rfl); (case hr => first | (go_simp; done) | (go_simp; rfl)); intro gb100 hg w13 hbox hb; have n0_ := Aside0.mk (below_step zz2 hb); have n1_ := Aside0.mk (hbox); have n2_ := Aside0.mk ((zz3 : w.heap.size ≤ gb100)); have n3_ := Aside0.mk ((zz3 : w.heap.size ≤ gb100)); clear HB; have HB := n0_; have BK100 := n1_; have GW100 := n2_; have GE100 := n3_; clear n0_ n1_ n2_ n3_; clear hb hbox hg; have hcz14_0 : w13.cell? ⟨gb100, 0, none⟩ = some (.int .i64 a0_0) := cK BK100 0; have hcz14_1 : w13.cell? ⟨gb100, 1, none⟩ = some (.int .i64 a0_1) := cK BK100 1; have hcz14_2 : w13.cell? ⟨gb100, 2, none⟩ = some (.string a0_2) := cK BK100 2; have hfz14_0 := blk_frozen BK100.out 0; have hfz14_1 := blk_frozen BK100.out 1; have hfz14_2 := blk_frozen BK100.out 2) | ((with_reducible refine gate_callee (f := 99) rfl ?_); refine goesL_ (some 19) rfl rfl Try.func99 (by kernel_rfl) rfl #[.int .i64 a0_1] rfl zz6 ?_; (with_reducible refine (value_inRange.calls a0_1 false _ A9.out).mono ?_); rintro e w' ⟨rfl, ⟨nd, rfl⟩⟩; refine ⟨_, rfl, ?_⟩))
    go_ret
    exact ⟨zz4, zz5⟩
  ·rw [if_neg c8] at H; have c8b0 : (a0_0 == 1) = false := beq_eq_false_iff_ne.mpr c8; have c8b1 : (a0_0 != 1) = true := bne_iff_ne.mpr c8
   by_cases c15 : a0_0 = 2
   ·rw [if_pos c15] at H; have c15b0 : (a0_0 == 2) = true := beq_iff_eq.mpr c15; have c15b1 : (a0_0 != 2) = false := bne_eq_false_iff_eq.mpr c15; clear c15
    by_cases c16 : a0_1 = 0
    ·rw [if_pos c16] at H; have c16b0 : (a0_1 == 0) = true := beq_iff_eq.mpr c16; have c16b1 : (a0_1 != 0) = false := bne_eq_false_iff_eq.mpr c16; clear c16; obtain rfl := Option.some.inj H
     go_enter Try.func69, Try.ntmps69
     go_wp2_with (first | ((with_reducible refine gate_dst (N := 1) rfl ?_); (try (refine gate_guard (by rfl) ?_; dsimp only)); refine box_event ?hg (N := 1) ?hd (cs := #[.int .i64 a0_0, .int .i64 a0_1, .string a0_2]) (t := 23) ?hr ?_; (case hd => rfl); (case hg => rfl); (case hr => first | (go_simp; done) | (go_simp; rfl)); intro gb100 hg w17 hbox hb; have n0_ := Aside0.mk (below_step zz2 hb); have n1_ := Aside0.mk (hbox); have n2_ := Aside0.mk ((zz3 : w.heap.size ≤ gb100)); have n3_ := Aside0.mk ((zz3 : w.heap.size ≤ gb100)); clear HB; have HB := n0_; have BK100 := n1_; have GW100 := n2_; have GE100 := n3_; clear n0_ n1_ n2_ n3_; clear hb hbox hg; have hcz18_0 : w17.cell? ⟨gb100, 0, none⟩ = some (.int .i64 a0_0) := cK BK100 0; have hcz18_1 : w17.cell? ⟨gb100, 1, none⟩ = some (.int .i64 a0_1) := cK BK100 1; have hcz18_2 : w17.cell? ⟨gb100, 2, none⟩ = some (.string a0_2) := cK BK100 2; have hfz18_0 := blk_frozen BK100.out 0; have hfz18_1 := blk_frozen BK100.out 1; have hfz18_2 := blk_frozen BK100.out 2))
     go_ret
     exact ⟨zz4, zz5⟩
    ·rw [if_neg c16] at H; have c16b0 : (a0_1 == 0) = false := beq_eq_false_iff_ne.mpr c16; have c16b1 : (a0_1 != 0) = true := bne_iff_ne.mpr c16; obtain rfl := Option.some.inj H
     go_enter Try.func69, Try.ntmps69
     go_wp2_with (first | ((with_reducible refine gate_dst (N := 1) rfl ?_); (try (refine gate_guard (by rfl) ?_; dsimp only)); refine box_event ?hg (N := 1) ?hd (cs := #[.int .i64 a0_0, .int .i64 a0_1, .string a0_2]) (t := 23) ?hr ?_; (case hd => rfl); (case hg => rfl); (case hr => first | (go_simp; done) | (go_simp; rfl)); intro gb100 hg w19 hbox hb; have n0_ := Aside0.mk (below_step zz2 hb); have n1_ := Aside0.mk (hbox); have n2_ := Aside0.mk ((zz3 : w.heap.size ≤ gb100)); have n3_ := Aside0.mk ((zz3 : w.heap.size ≤ gb100)); clear HB; have HB := n0_; have BK100 := n1_; have GW100 := n2_; have GE100 := n3_; clear n0_ n1_ n2_ n3_; clear hb hbox hg; have hcz20_0 : w19.cell? ⟨gb100, 0, none⟩ = some (.int .i64 a0_0) := cK BK100 0; have hcz20_1 : w19.cell? ⟨gb100, 1, none⟩ = some (.int .i64 a0_1) := cK BK100 1; have hcz20_2 : w19.cell? ⟨gb100, 2, none⟩ = some (.string a0_2) := cK BK100 2; have hfz20_0 := blk_frozen BK100.out 0; have hfz20_1 := blk_frozen BK100.out 1; have hfz20_2 := blk_frozen BK100.out 2))
     go_ret
     exact ⟨zz4, zz5⟩
   ·rw [if_neg c15] at H; have c15b0 : (a0_0 == 2) = false := beq_eq_false_iff_ne.mpr c15; have c15b1 : (a0_0 != 2) = true := bne_iff_ne.mpr c15; obtain rfl := Option.some.inj H
    go_enter Try.func69, Try.ntmps69
    go_wp2_with (first | ((with_reducible refine gate_dst (N := 1) rfl ?_); (try (refine gate_guard (by rfl) ?_; dsimp only)); refine box_event ?hg (N := 1) ?hd (cs := #[.int .i64 a0_0, .int .i64 a0_1, .string a0_2]) (t := 23) ?hr ?_; (case hd => rfl); (case hg => rfl); (case hr => first | (go_simp; done) | (go_simp; rfl)); intro gb100 hg w21 hbox hb; have n0_ := Aside0.mk (below_step zz2 hb); have n1_ := Aside0.mk (hbox); have n2_ := Aside0.mk ((zz3 : w.heap.size ≤ gb100)); have n3_ := Aside0.mk ((zz3 : w.heap.size ≤ gb100)); clear HB; have HB := n0_; have BK100 := n1_; have GW100 := n2_; have GE100 := n3_; clear n0_ n1_ n2_ n3_; clear hb hbox hg; have hcz22_0 : w21.cell? ⟨gb100, 0, none⟩ = some (.int .i64 a0_0) := cK BK100 0; have hcz22_1 : w21.cell? ⟨gb100, 1, none⟩ = some (.int .i64 a0_1) := cK BK100 1; have hcz22_2 : w21.cell? ⟨gb100, 2, none⟩ = some (.string a0_2) := cK BK100 2; have hfz22_0 := blk_frozen BK100.out 0; have hfz22_1 := blk_frozen BK100.out 1; have hfz22_2 := blk_frozen BK100.out 2))
    go_ret
    exact ⟨zz4, zz5⟩
def value_Clean.f (a0_0 : Int) (a0_1 : Int) (a0_2 : ByteArray) : Option (Int × Int × ByteArray) := (value_Valid.f a0_0 a0_1 a0_2).bind fun t112 => (if t112 = true then (some (a0_0, a0_1, a0_2)) else (some (0, 0, (⟨#[]⟩ : ByteArray))))
set_option maxHeartbeats 8000000 in
set_option maxRecDepth 100000 in
theorem value_Clean.calls (a0_0 : Int) (a0_1 : Int) (a0_2 : ByteArray) (r1 : Int) (r2 : Int) (r3 : ByteArray) (w : World) (h : value_Clean.f a0_0 a0_1 a0_2 = some (r1, r2, r3)) :
  Calls Try.prog 85 #[.agg #[.int .i64 a0_0, .int .i64 a0_1, .string a0_2]] w fun e w' => e = .returned (.agg #[.int .i64 r1, .int .i64 r2, .string r3]) ∧ Below w.heap.size w w' := by
 have hu23 := Try.underlying23; have HB := Aside0.mk (Below.refl w.heap.size w); have H : ((value_Valid.f a0_0 a0_1 a0_2).bind fun t112 => (if t112 = true then (some (a0_0, a0_1, a0_2)) else (some (0, 0, (⟨#[]⟩ : ByteArray))))) = some (r1, r2, r3) := h; clear h; replace H := Option.bind_eq_some_iff.mp H; obtain ⟨t112, A20, H⟩ := H; replace H : (if t112 = true then (some (a0_0, a0_1, a0_2)) else (some (0, 0, (⟨#[]⟩ : ByteArray)))) = some (r1, r2, r3) := H; have A2 := Aside0.mk A20; clear A20
 by_cases c3 : t112 = true
 ·subst c3; have H1 : (some (a0_0, a0_1, a0_2)) = some (r1, r2, r3) := by rw [if_pos rfl] at H; exact H
  clear H; have H := H1; clear H1; simp only [Option.some.injEq, Prod.mk.injEq] at H; obtain ⟨rfl, rfl, rfl⟩ := H
  go_enter Try.func85, Try.ntmps85
  go_wp2_with (first | ((with_reducible refine gate_dst (N := 1) rfl ?_); refine box_event ?hg (N := 1) ?hd (cs := #[.int .i64 a0_0, .int .i64 a0_1, .string a0_2]) (t := 23) ?hr ?_; (case hd => rfl); (case hg => rfl); (case hr => first | (go_simp; done) | (go_simp; rfl)); intro gb100 hg w4 hbox hb; have n0_ := Aside0.mk (below_step zz2 hb); have n1_ := Aside0.mk (hbox); have n2_ := Aside0.mk ((zz3 : w.heap.size ≤ gb100)); have n3_ := Aside0.mk ((zz3 : w.heap.size ≤ gb100)); clear HB; have HB := n0_; have BK100 := n1_; have GW100 := n2_; have GE100 := n3_; clear n0_ n1_ n2_ n3_; clear hb hbox hg) | ((with_reducible refine gate_dst (N := 2) rfl ?_); refine box_event ?hg (N := 2) ?hd (cs := #[.int .i64 0, .int .i64 0, .string (⟨#[]⟩ : ByteArray)]) (t := 23) ?hr ?_; (case hd => rfl); (case hg => rfl); (case hr => first | (go_simp; done) | (go_simp; rfl)); intro gb101 hg w5 hbox hb; have n0_ := Aside0.mk (blk_below (g := gb100) (o := .cells #[.int .i64 a0_0, .int .i64 a0_1, .string a0_2] 23 (0, 0)) zz7 hb); have n1_ := Aside0.mk (below_step zz5 hb); have n2_ := Aside0.mk (hbox); have n3_ := Aside0.mk ((zz8 : w.heap.size ≤ gb101)); have n4_ := Aside0.mk ((zz8 : w.heap.size ≤ gb101)); have n5_ := Aside0.mk ((zz9 : gb100 ≠ gb101)); have n6_ := Aside0.mk ((zz10 : gb101 ≠ gb100)); clear BK100; clear HB; have BK100 := n0_; have HB := n1_; have BK101 := n2_; have GW101 := n3_; have GE101 := n4_; have NB100_101 := n5_; have NB101_100 := n6_; clear n0_ n1_ n2_ n3_ n4_ n5_ n6_; clear hb hbox hg; have hnb6 := NB100_101.out; have hnc6 := NB101_100.out; have hcz7_0 : w5.cell? ⟨gb100, 0, none⟩ = some (.int .i64 a0_0) := cK BK100 0; have hcz7_1 : w5.cell? ⟨gb100, 1, none⟩ = some (.int .i64 a0_1) := cK BK100 1; have hcz7_2 : w5.cell? ⟨gb100, 2, none⟩ = some (.string a0_2) := cK BK100 2; have hfz7_0 := blk_frozen BK100.out 0; have hfz7_1 := blk_frozen BK100.out 1; have hfz7_2 := blk_frozen BK100.out 2) | ((with_reducible refine gate_callee (f := 69) rfl ?_); refine goesL_ (some 4) rfl rfl Try.func69 (by kernel_rfl) rfl #[.agg #[.int .i64 a0_0, .int .i64 a0_1, .string a0_2]] rfl zz6 ?_; (with_reducible refine (value_Valid.calls a0_0 a0_1 a0_2 true _ A2.out).mono ?_); rintro e w8 ⟨rfl, hb⟩; refine ⟨_, rfl, ?_⟩; have n0_ := Aside0.mk (blk_below (g := gb100) (o := .cells #[.int .i64 a0_0, .int .i64 a0_1, .string a0_2] 23 (0, 0)) zz7 hb); have n1_ := Aside0.mk (blk_below (g := gb101) (o := .cells #[.int .i64 0, .int .i64 0, .string (⟨#[]⟩ : ByteArray)] 23 (0, 0)) zz11 hb); have n2_ := Aside0.mk (below_step zz12 hb); clear BK100; clear BK101; clear HB; have BK100 := n0_; have BK101 := n1_; have HB := n2_; clear n0_ n1_ n2_; (try clear hb); (try clear hb2); (try clear hk); (try clear hi); have hcz9_0 : w8.cell? ⟨gb100, 0, none⟩ = some (.int .i64 a0_0) := cK BK100 0; have hcz9_1 : w8.cell? ⟨gb100, 1, none⟩ = some (.int .i64 a0_1) := cK BK100 1; have hcz9_2 : w8.cell? ⟨gb100, 2, none⟩ = some (.string a0_2) := cK BK100 2; have hfz9_0 := blk_frozen BK100.out 0; have hfz9_1 := blk_frozen BK100.out 1; have hfz9_2 := blk_frozen BK100.out 2; have hcz10_0 : w8.cell? ⟨gb101, 0, none⟩ = some (.int .i64 0) := cK BK101 0; have hcz10_1 : w8.cell? ⟨gb101, 1, none⟩ = some (.int .i64 0) := cK BK101 1; have hcz10_2 : w8.cell? ⟨gb101, 2, none⟩ = some (.string (⟨#[]⟩ : ByteArray)) := cK BK101 2; have hfz10_0 := blk_frozen BK101.out 0; have hfz10_1 := blk_frozen BK101.out 1; have hfz10_2 := blk_frozen BK101.out 2))
  refine bodyPost_ret (results_cell_row rfl _ _ gb101 23 #[.int .i64 a0_0, .int .i64 a0_1, .string a0_2] (0, 0) _ rfl (by (with_reducible repeat (first | refine blk_drewN ?_ _ | refine blk_drew ?_ | refine blk_alloc ?_ _)); refine blk_put (cs := #[.int .i64 a0_0, .int .i64 a0_1, .string (⟨#[]⟩ : ByteArray)]) ?_ 2 _ rfl; (with_reducible repeat (first | refine blk_drewN ?_ _ | refine blk_drew ?_ | refine blk_alloc ?_ _)); refine blk_put (cs := #[.int .i64 a0_0, .int .i64 0, .string (⟨#[]⟩ : ByteArray)]) ?_ 1 _ rfl; (with_reducible repeat (first | refine blk_drewN ?_ _ | refine blk_drew ?_ | refine blk_alloc ?_ _)); refine blk_put (cs := #[.int .i64 0, .int .i64 0, .string (⟨#[]⟩ : ByteArray)]) ?_ 0 _ rfl; (with_reducible repeat (first | refine blk_drewN ?_ _ | refine blk_drew ?_ | refine blk_alloc ?_ _)); exact BK101.out) Try.underlying23 rfl (by kernel_rfl)) rfl ?_; exact ⟨zz4, zz12⟩
 ·replace c3 := Bool.eq_false_iff.mpr c3; subst c3; have H1 : (some (0, 0, (⟨#[]⟩ : ByteArray))) = some (r1, r2, r3) := by rw [if_neg (show ¬ (false = true) by decide)] at H; exact H
  clear H; have H := H1; clear H1; simp only [Option.some.injEq, Prod.mk.injEq] at H; obtain ⟨rfl, rfl, rfl⟩ := H
  go_enter Try.func85, Try.ntmps85
  go_wp2_with (first | ((with_reducible refine gate_dst (N := 1) rfl ?_); refine box_event ?hg (N := 1) ?hd (cs := #[.int .i64 a0_0, .int .i64 a0_1, .string a0_2]) (t := 23) ?hr ?_; (case hd => rfl); (case hg => rfl); (case hr => first | (go_simp; done) | (go_simp; rfl)); intro gb100 hg w11 hbox hb; have n0_ := Aside0.mk (below_step zz2 hb); have n1_ := Aside0.mk (hbox); have n2_ := Aside0.mk ((zz3 : w.heap.size ≤ gb100)); have n3_ := Aside0.mk ((zz3 : w.heap.size ≤ gb100)); clear HB; have HB := n0_; have BK100 := n1_; have GW100 := n2_; have GE100 := n3_; clear n0_ n1_ n2_ n3_; clear hb hbox hg) | ((with_reducible refine gate_dst (N := 2) rfl ?_); refine box_event ?hg (N := 2) ?hd (cs := #[.int .i64 0, .int .i64 0, .string (⟨#[]⟩ : ByteArray)]) (t := 23) ?hr ?_; (case hd => rfl); (case hg => rfl); (case hr => first | (go_simp; done) | (go_simp; rfl)); intro gb101 hg w12 hbox hb; have n0_ := Aside0.mk (blk_below (g := gb100) (o := .cells #[.int .i64 a0_0, .int .i64 a0_1, .string a0_2] 23 (0, 0)) zz7 hb); have n1_ := Aside0.mk (below_step zz5 hb); have n2_ := Aside0.mk (hbox); have n3_ := Aside0.mk ((zz8 : w.heap.size ≤ gb101)); have n4_ := Aside0.mk ((zz8 : w.heap.size ≤ gb101)); have n5_ := Aside0.mk ((zz9 : gb100 ≠ gb101)); have n6_ := Aside0.mk ((zz10 : gb101 ≠ gb100)); clear BK100; clear HB; have BK100 := n0_; have HB := n1_; have BK101 := n2_; have GW101 := n3_; have GE101 := n4_; have NB100_101 := n5_; have NB101_100 := n6_; clear n0_ n1_ n2_ n3_ n4_ n5_ n6_; clear hb hbox hg; have hnb13 := NB100_101.out; have hnc13 := NB101_100.out; have hcz14_0 : w12.cell? ⟨gb100, 0, none⟩ = some (.int .i64 a0_0) := cK BK100 0; have hcz14_1 : w12.cell? ⟨gb100, 1, none⟩ = some (.int .i64 a0_1) := cK BK100 1; have hcz14_2 : w12.cell? ⟨gb100, 2, none⟩ = some (.string a0_2) := cK BK100 2; have hfz14_0 := blk_frozen BK100.out 0; have hfz14_1 := blk_frozen BK100.out 1; have hfz14_2 := blk_frozen BK100.out 2) | ((with_reducible refine gate_callee (f := 69) rfl ?_); refine goesL_ (some 4) rfl rfl Try.func69 (by kernel_rfl) rfl #[.agg #[.int .i64 a0_0, .int .i64 a0_1, .string a0_2]] rfl zz6 ?_; (with_reducible refine (value_Valid.calls a0_0 a0_1 a0_2 false _ A2.out).mono ?_); rintro e w15 ⟨rfl, hb⟩; refine ⟨_, rfl, ?_⟩; have n0_ := Aside0.mk (blk_below (g := gb100) (o := .cells #[.int .i64 a0_0, .int .i64 a0_1, .string a0_2] 23 (0, 0)) zz7 hb); have n1_ := Aside0.mk (blk_below (g := gb101) (o := .cells #[.int .i64 0, .int .i64 0, .string (⟨#[]⟩ : ByteArray)] 23 (0, 0)) zz11 hb); have n2_ := Aside0.mk (below_step zz12 hb); clear BK100; clear BK101; clear HB; have BK100 := n0_; have BK101 := n1_; have HB := n2_; clear n0_ n1_ n2_; (try clear hb); (try clear hb2); (try clear hk); (try clear hi); have hcz16_0 : w15.cell? ⟨gb101, 0, none⟩ = some (.int .i64 0) := cK BK101 0; have hcz16_1 : w15.cell? ⟨gb101, 1, none⟩ = some (.int .i64 0) := cK BK101 1; have hcz16_2 : w15.cell? ⟨gb101, 2, none⟩ = some (.string (⟨#[]⟩ : ByteArray)) := cK BK101 2; have hfz16_0 := blk_frozen BK101.out 0; have hfz16_1 := blk_frozen BK101.out 1; have hfz16_2 := blk_frozen BK101.out 2))
  refine bodyPost_ret (results_cell_row rfl _ _ gb101 23 #[.int .i64 0, .int .i64 0, .string (⟨#[]⟩ : ByteArray)] (0, 0) _ rfl (by (with_reducible repeat (first | refine blk_drewN ?_ _ | refine blk_drew ?_ | refine blk_alloc ?_ _)); refine blk_put (cs := #[.int .i64 0, .int .i64 0, .string (⟨#[]⟩ : ByteArray)]) ?_ 2 _ rfl; (with_reducible repeat (first | refine blk_drewN ?_ _ | refine blk_drew ?_ | refine blk_alloc ?_ _)); refine blk_put (cs := #[.int .i64 0, .int .i64 0, .string (⟨#[]⟩ : ByteArray)]) ?_ 1 _ rfl; (with_reducible repeat (first | refine blk_drewN ?_ _ | refine blk_drew ?_ | refine blk_alloc ?_ _)); refine blk_put (cs := #[.int .i64 0, .int .i64 0, .string (⟨#[]⟩ : ByteArray)]) ?_ 0 _ rfl; (with_reducible repeat (first | refine blk_drewN ?_ _ | refine blk_drew ?_ | refine blk_alloc ?_ _)); exact BK101.out) Try.underlying23 rfl (by kernel_rfl)) rfl ?_; exact ⟨zz4, zz12⟩
mutual
def value_EncodeRow.l0 : Nat → List Int → List (S23) → Int → Int → Option (ByteArray)
 | 0, _, _, _, _ => none
 | k + 1, x3, x10, x11, x12 => if x12 < x11 then (if 0 ≤ x12 then (if x12 < (x10.length : Int) then ((value_Clean.f ((rd_T23 x10 x12).f0) ((rd_T23 x10 x12).f1) ((rd_T23 x10 x12).f2)).bind fun bt153 => (if bt153.1 = 1 then (if x3.length < 140737488355328 then (value_EncodeRow.l1 k (x3 ++ [2]) (IntKind.u64.wrap (wrap64 (bt153.2.1 + 4294967296))) 4 x10 x11 x12) else (none)) else (if bt153.1 = 2 then (if x3.length < 140737488355328 then (if bt153.2.2.size ≤ 9223372036854775807 then (value_EncodeRow.l2 k (x3 ++ [3]) x10 x11 x12 (bytesOf bt153.2.2) ((bytesOf bt153.2.2).length : Int) 0) else (none)) else (none)) else (if x3.length < 140737488355328 then (value_EncodeRow.l0 k (x3 ++ [1]) x10 x11 (wrap64 (x12 + 1))) else (none))))) else (none)) else (none)) else (some (strOfNums x3))
def value_EncodeRow.l1 : Nat → List Int → Int → Int → List (S23) → Int → Int → Option (ByteArray)
 | 0, _, _, _, _, _, _ => none
 | k + 1, x3, x6, x7, x10, x11, x12 => if x7 ≥ 0 then (if 0 ≤ (wrap64 (8 * x7)) then (if x3.length < 140737488355328 then (value_EncodeRow.l1 k (x3 ++ [(shr .u64 x6 (wrap64 (8 * x7))) % 256]) x6 (wrap64 (x7 - 1)) x10 x11 x12) else (none)) else (none)) else (value_EncodeRow.l0 k x3 x10 x11 (wrap64 (x12 + 1)))
def value_EncodeRow.l2 : Nat → List Int → List (S23) → Int → Int → List Int → Int → Int → Option (ByteArray)
 | 0, _, _, _, _, _, _, _ => none
 | k + 1, x3, x10, x11, x12, x51, x52, x53 => if x53 < x52 then (if 0 ≤ x53 then (if x53 < (x51.length : Int) then (if x3.length < 140737488355328 then ((some (x3 ++ [rd x51 x53] : List Int)).bind fun y168 => (if (rd x51 x53) = 0 then (if y168.length < 140737488355328 then (value_EncodeRow.l2 k (y168 ++ [255]) x10 x11 x12 x51 x52 (wrap64 (x53 + 1))) else (none)) else (value_EncodeRow.l2 k y168 x10 x11 x12 x51 x52 (wrap64 (x53 + 1))))) else (none)) else (none)) else (none)) else ((some (([0, 0] : List Int) : List Int)).bind fun y174 => (if x3.length + y174.length < 140737488355328 then (value_EncodeRow.l0 k (x3 ++ y174) x10 x11 (wrap64 (x12 + 1))) else (none)))
end
def value_EncodeRow.f (k : Nat) (l0 : List (S23)) : Option (ByteArray) := value_EncodeRow.l0 k ([] : List Int) l0 (l0.length : Int) 0
theorem value_EncodeRow.mono_l : ∀ k, (∀ y0 y1 y2 y3, LeO (value_EncodeRow.l0 k y0 y1 y2 y3) (value_EncodeRow.l0 (k + 1) y0 y1 y2 y3)) ∧ (∀ y0 y1 y2 y3 y4 y5, LeO (value_EncodeRow.l1 k y0 y1 y2 y3 y4 y5) (value_EncodeRow.l1 (k + 1) y0 y1 y2 y3 y4 y5)) ∧ (∀ y0 y1 y2 y3 y4 y5 y6, LeO (value_EncodeRow.l2 k y0 y1 y2 y3 y4 y5 y6) (value_EncodeRow.l2 (k + 1) y0 y1 y2 y3 y4 y5 y6))
 | 0 => ⟨fun _ _ _ _ r h => by simp [value_EncodeRow.l0] at h, fun _ _ _ _ _ _ r h => by simp [value_EncodeRow.l1] at h, fun _ _ _ _ _ _ _ r h => by simp [value_EncodeRow.l2] at h⟩
 | k + 1 => by
  obtain ⟨ih0, ih1, ih2⟩ := value_EncodeRow.mono_l k; refine ⟨?_, ?_, ?_⟩
  ·intro y0 y1 y2 y3; unfold value_EncodeRow.l0
   repeat' first
   | (with_reducible exact ih0 _ _ _ _)
   | (with_reducible exact ih1 _ _ _ _ _ _)
   | (with_reducible exact ih2 _ _ _ _ _ _ _)
   | (with_reducible exact LeO.refl _)
   | (with_reducible exact LeO.none _)
   | (with_reducible refine LeO.ite ?_ ?_)
   | (with_reducible refine LeO.bind ?_ (fun _ => ?_))
   | exact ih0 _ _ _ _
   | exact ih1 _ _ _ _ _ _
   | exact ih2 _ _ _ _ _ _ _
   | exact LeO.none _
   | refine LeO.ite ?_ ?_
   | refine LeO.bind ?_ (fun _ => ?_)
  ·intro y0 y1 y2 y3 y4 y5; unfold value_EncodeRow.l1
   repeat' first
   | (with_reducible exact ih0 _ _ _ _)
   | (with_reducible exact ih1 _ _ _ _ _ _)
   | (with_reducible exact ih2 _ _ _ _ _ _ _)
   | (with_reducible exact LeO.refl _)
   | (with_reducible exact LeO.none _)
   | (with_reducible refine LeO.ite ?_ ?_)
   | (with_reducible refine LeO.bind ?_ (fun _ => ?_))
   | exact ih0 _ _ _ _
   | exact ih1 _ _ _ _ _ _
   | exact ih2 _ _ _ _ _ _ _
   | exact LeO.none _
   | refine LeO.ite ?_ ?_
   | refine LeO.bind ?_ (fun _ => ?_)
  ·intro y0 y1 y2 y3 y4 y5 y6; unfold value_EncodeRow.l2
   repeat' first
   | (with_reducible exact ih0 _ _ _ _)
   | (with_reducible exact ih1 _ _ _ _ _ _)
   | (with_reducible exact ih2 _ _ _ _ _ _ _)
   | (with_reducible exact LeO.refl _)
   | (with_reducible exact LeO.none _)
   | (with_reducible refine LeO.ite ?_ ?_)
   | (with_reducible refine LeO.bind ?_ (fun _ => ?_))
   | exact ih0 _ _ _ _
   | exact ih1 _ _ _ _ _ _
   | exact ih2 _ _ _ _ _ _ _
   | exact LeO.none _
   | refine LeO.ite ?_ ?_
   | refine LeO.bind ?_ (fun _ => ?_)
theorem value_EncodeRow.mono : ∀ a0 k, LeO (value_EncodeRow.f k a0) (value_EncodeRow.f (k + 1) a0) := by
 intro a0 k; obtain ⟨ih0, ih1, ih2⟩ := value_EncodeRow.mono_l k; unfold value_EncodeRow.f
 repeat' first
   | (with_reducible exact ih0 _ _ _ _)
   | (with_reducible exact ih1 _ _ _ _ _ _)
   | (with_reducible exact ih2 _ _ _ _ _ _ _)
   | (with_reducible exact LeO.refl _)
   | (with_reducible exact LeO.none _)
   | (with_reducible refine LeO.ite ?_ ?_)
   | (with_reducible refine LeO.bind ?_ (fun _ => ?_))
   | exact ih0 _ _ _ _
   | exact ih1 _ _ _ _ _ _
   | exact ih2 _ _ _ _ _ _ _
   | exact LeO.none _
   | refine LeO.ite ?_ ?_
   | refine LeO.bind ?_ (fun _ => ?_)
set_option maxHeartbeats 8000000 in
set_option maxRecDepth 100000 in
theorem value_EncodeRow.calls (k : Nat) (A0 : Option Addr) (c0 : Nat) (l0 : List (S23)) (r : ByteArray) (w : World) (hr0 : Kd.C k23 w A0 l0.length l0) (hc0 : l0.length ≤ c0) (h : value_EncodeRow.f k l0 = some r) :
  Calls Try.prog 47 #[.slice A0 l0.length c0] w fun e w' => e = .returned (.string r) ∧ Below w.heap.size w w' := by
 have hu23 := Try.underlying23; have HR0 := Aside0.mk hr0; have HC0 := Aside0.mk hc0; clear hr0 hc0; have HB := Aside0.mk (Below.refl w.heap.size w); have H : (value_EncodeRow.l0 k ([] : List Int) l0 (l0.length : Int) 0) = some r := h; clear h; have H' := Aside0.mk H; clear H
 go_enter Try.func47, Try.ntmps47
 go_wp2
 go_loopg [3, 12] k (fun kq v3 v12 w' => ∃ (x3_1 : List Int) (x12_1 : Int), v12 = .int .i64 x12_1 ∧ Aside0 (value_EncodeRow.l0 kq x3_1 l0 (l0.length : Int) x12_1 = some r) ∧ Aside0 (kq ≤ k) ∧ Aside0 (Kd.R (Kd.int .u8) 5 w' w.heap.size (fun _ => True) v3 x3_1) ∧ Aside0 (Below w.heap.size w w'))
 case atStart => exact ⟨(([] : List Int)), (0), zz0, H', ⟨Nat.le_refl _⟩, ⟨zz13⟩, ⟨zz2⟩⟩
 case round =>
  clear H'; obtain ⟨x3_1, x12_1, rfl, HA, HK1, HO_3, HB⟩ := hrel
  cases gk with
  | zero => exact absurd HA.out (by simp [value_EncodeRow.l0])
  | succ k1 =>
   have H := HA.out; clear HA; simp only [value_EncodeRow.l0] at H
   by_cases c2 : x12_1 < (l0.length : Int)
   ·rw [if_pos c2] at H; have c2b0 : decide (x12_1 < (l0.length : Int)) = true := decide_eq_true c2; clear c2
    by_cases c3 : 0 ≤ x12_1
    ·rw [if_pos c3] at H; have c3b0 : decide (0 ≤ x12_1) = true := decide_eq_true c3; clear c3
     by_cases c4 : x12_1 < (l0.length : Int)
     ·rw [if_pos c4] at H; have c4b0 : decide (x12_1 < (l0.length : Int)) = true := decide_eq_true c4; clear c4; replace H := Option.bind_eq_some_iff.mp H; obtain ⟨⟨t153, t154, t155⟩, A50, H⟩ := H; replace H : (if t153 = 1 then (if x3_1.length < 140737488355328 then (value_EncodeRow.l1 k1 (x3_1 ++ [2]) (IntKind.u64.wrap (wrap64 (t154 + 4294967296))) 4 l0 (l0.length : Int) x12_1) else (none)) else (if t153 = 2 then (if x3_1.length < 140737488355328 then (if t155.size ≤ 9223372036854775807 then (value_EncodeRow.l2 k1 (x3_1 ++ [3]) l0 (l0.length : Int) x12_1 (bytesOf t155) ((bytesOf t155).length : Int) 0) else (none)) else (none)) else (if x3_1.length < 140737488355328 then (value_EncodeRow.l0 k1 (x3_1 ++ [1]) l0 (l0.length : Int) (wrap64 (x12_1 + 1))) else (none)))) = some r := H; have A5 := Aside0.mk A50; clear A50
      by_cases c6 : t153 = 1
      ·rw [if_pos c6] at H; have c6b0 : (t153 == 1) = true := beq_iff_eq.mpr c6; have c6b1 : (t153 != 1) = false := bne_eq_false_iff_eq.mpr c6; clear c6
       by_cases c7 : x3_1.length < 140737488355328
       ·rw [if_pos c7] at H; have LMc7 := Aside0.mk c7; clear c7; obtain ⟨y156, hy156⟩ : ∃ y_ : List Int, y_ = (x3_1 ++ [2]) := ⟨_, rfl⟩; replace H : (value_EncodeRow.l1 k1 y156 (IntKind.u64.wrap (wrap64 (t154 + 4294967296))) 4 l0 (l0.length : Int) x12_1) = some r := by first | (rw [hy156]; with_reducible exact H) | (have H2_ := (Option.bind_some _ _).symm.trans H; rw [hy156]; with_reducible exact H2_) | (have H2_ := (Option.bind_some _ _).symm.trans H; with_reducible exact H2_) | with_reducible exact H | (rw [hy156]; exact H) | exact H
        have Ny156 := Aside0.mk hy156; clear hy156; have H' := Aside0.mk H; clear H; have p151 : 0 ≤ (x12_1 : Int) := of_decide_eq_true zz14; have q151 : x12_1 < (l0.length : Int) := of_decide_eq_true zz14; obtain ⟨ad151, e151, hx151_0, hx151_1, hx151_2⟩ := at_T23 HR0.out x12_1 p151 q151
        cases e151
        replace hx151_0 := cB HB hx151_0; replace hx151_1 := cB HB hx151_1; replace hx151_2 := cB HB hx151_2; replace p151 := eq_true p151; replace q151 := eq_true q151
        go_wp2_with (first | ((with_reducible refine gate_dst (N := 5) rfl ?_); refine box_event ?hg (N := 5) ?hd (cs := #[.int .i64 0, .int .i64 0, .string (⟨#[]⟩ : ByteArray)]) (t := 23) ?hr ?_; (case hd => rfl); (case hg => rfl); (case hr => first | (go_simp; done) | (go_simp; rfl)); intro gb100 hg w8 hbox hb; have n0_ := Aside0.mk (Kd.R_below zz15 hb); have n1_ := Aside0.mk (below_step zz2 hb); have n2_ := Aside0.mk (hbox); have n3_ := Aside0.mk ((zz3 : w.heap.size ≤ gb100)); have n4_ := Aside0.mk ((zz3 : w.heap.size ≤ gb100)); clear HO_3; clear HB; have HO_3 := n0_; have HB := n1_; have BK100 := n2_; have GW100 := n3_; have GE100 := n4_; clear n0_ n1_ n2_ n3_ n4_; clear hb hbox hg; have hcz9_0 : w8.cell? ⟨gb100, 0, none⟩ = some (.int .i64 0) := cK BK100 0; have hcz9_1 : w8.cell? ⟨gb100, 1, none⟩ = some (.int .i64 0) := cK BK100 1; have hcz9_2 : w8.cell? ⟨gb100, 2, none⟩ = some (.string (⟨#[]⟩ : ByteArray)) := cK BK100 2; have hfz9_0 := blk_frozen BK100.out 0; have hfz9_1 := blk_frozen BK100.out 1; have hfz9_2 := blk_frozen BK100.out 2) | ((with_reducible refine gate_callee (f := 85) rfl ?_); refine goesL_ (some 17) rfl rfl Try.func85 (by kernel_rfl) rfl #[.agg #[.int .i64 ((rd_T23 l0 x12_1).f0), .int .i64 ((rd_T23 l0 x12_1).f1), .string ((rd_T23 l0 x12_1).f2)]] rfl zz6 ?_; (with_reducible refine (value_Clean.calls ((rd_T23 l0 x12_1).f0) ((rd_T23 l0 x12_1).f1) ((rd_T23 l0 x12_1).f2) t153 t154 t155 _ A5.out).mono ?_); rintro e w10 ⟨rfl, hb⟩; refine ⟨_, rfl, ?_⟩; have n0_ := Aside0.mk (Kd.R_below zz16 hb); have n1_ := Aside0.mk (blk_below (g := gb100) (o := .cells #[.int .i64 ((rd_T23 l0 x12_1).f0), .int .i64 ((rd_T23 l0 x12_1).f1), .string ((rd_T23 l0 x12_1).f2)] 23 (0, 0)) zz17 hb); have n2_ := Aside0.mk (below_step zz5 hb); clear HO_3; clear BK100; clear HB; have HO_3 := n0_; have BK100 := n1_; have HB := n2_; clear n0_ n1_ n2_; (try clear hb); (try clear hb2); (try clear hk); (try clear hi); have hcz11_0 : w10.cell? ⟨gb100, 0, none⟩ = some (.int .i64 ((rd_T23 l0 x12_1).f0)) := cK BK100 0; have hcz11_1 : w10.cell? ⟨gb100, 1, none⟩ = some (.int .i64 ((rd_T23 l0 x12_1).f1)) := cK BK100 1; have hcz11_2 : w10.cell? ⟨gb100, 2, none⟩ = some (.string ((rd_T23 l0 x12_1).f2)) := cK BK100 2; have hfz11_0 := blk_frozen BK100.out 0; have hfz11_1 := blk_frozen BK100.out 1; have hfz11_2 := blk_frozen BK100.out 2) | ((with_reducible refine gate_builtin (b := .append) (xs := #[.tmp 25, .tmp 26]) rfl ?_); at_builtin; refine Kd.R_append (Kd.int .u8) (w0 := w) w.heap.size rfl (.tmp 25) (.tmp 26) 71 5 (.int .u8 0) 1 rfl Try.underlying71 info5 rfl (by decide) (by omega) u3 x3_1 2 [.int .u8 2] (fun _ => True) (fun _ => False) rfl zz18 ?aP (fun _ hk => hk.elim) ?aF ?aO ?aB ?aS ?aL ?_; (case aP => exact rfl); (case aB => exact zz5); (case aF => exact (fun _ _ => trivial)); (case aO => exact zz19); (case aS => exact (below_size zz5)); (case aL => have := LMc7.out; omega); intro v157 w12 ho hb hg hat; rw [← Ny156.out] at ho; have n0_ := Aside0.mk (blk_grown (g := gb100) (o := .cells #[.int .i64 t153, .int .i64 t154, .string t155] 23 (0, 0)) zz20 hg (Kd.R_ne HO_3.out BK100.out (by decide))); have n1_ := Aside0.mk (hb); have n2_ := Aside0.mk (ho); clear BK100; clear HB; clear HO_3; have BK100 := n0_; have HB := n1_; have HO101 := n2_; clear n0_ n1_ n2_; clear ho hb hg hat; have hcz13_0 : w12.cell? ⟨gb100, 0, none⟩ = some (.int .i64 t153) := cK BK100 0; have hcz13_1 : w12.cell? ⟨gb100, 1, none⟩ = some (.int .i64 t154) := cK BK100 1; have hcz13_2 : w12.cell? ⟨gb100, 2, none⟩ = some (.string t155) := cK BK100 2; have hfz13_0 := blk_frozen BK100.out 0; have hfz13_1 := blk_frozen BK100.out 1; have hfz13_2 := blk_frozen BK100.out 2))
        go_loopg [3, 7] k1 (fun kq v3 v7 w' => ∃ (x3_2 : List Int) (x7_2 : Int), v7 = .int .i64 x7_2 ∧ Aside0 (value_EncodeRow.l1 kq x3_2 (IntKind.u64.wrap (wrap64 (t154 + 4294967296))) x7_2 l0 (l0.length : Int) x12_1 = some r) ∧ Aside0 (kq ≤ k1) ∧ Aside0 (Kd.R (Kd.int .u8) 5 w' w.heap.size (fun _ => True) v3 x3_2) ∧ Aside0 (w'.heap[gb100]? = some (.cells #[.int .i64 t153, .int .i64 t154, .string t155] 23 (0, 0))) ∧ Aside0 (Below w.heap.size w w'))
        case atStart => exact ⟨(y156), (4), zz0, H', ⟨Nat.le_refl _⟩, ⟨zz21⟩, ⟨zz7⟩, ⟨zz5⟩⟩
        case round =>
         clear H'; (try clear p1); (try clear q1); (try clear hx1); (try clear c2); (try clear c2b0); (try clear p2); (try clear c3); (try clear c3b0); (try clear c4); (try clear c4b0); (try clear c6); (try clear c6b0); (try clear c6b1); (try clear p6); (try clear c7); (try clear c8); (try clear hcz11_0); (try clear hcz11_1); (try clear hcz11_2); (try clear hcz13_0); (try clear hcz13_1); (try clear hcz13_2); (try clear hcz9_0); (try clear hcz9_1); (try clear hcz9_2); (try clear hfz11_0); (try clear hfz11_1); (try clear hfz11_2); (try clear hfz13_0); (try clear hfz13_1); (try clear hfz13_2); (try clear hfz9_0); (try clear hfz9_1); (try clear hfz9_2); (try clear hx151_0); (try clear hx151_1); (try clear hx151_2); (try clear p151); (try clear q151); obtain ⟨x3_2, x7_2, rfl, HA, HK2, HO_3, BK100, HB⟩ := hrel
         cases gk with
         | zero => exact absurd HA.out (by simp [value_EncodeRow.l1])
         | succ k2 =>
          have H := HA.out; clear HA; simp only [value_EncodeRow.l1] at H
          by_cases c14 : x7_2 ≥ 0
          ·rw [if_pos c14] at H; have c14b0 : decide (0 ≤ x7_2) = true := decide_eq_true c14; clear c14; obtain ⟨ji15, hji15⟩ : ∃ j_ : Int, (wrap64 (8 * x7_2)) = j_ := ⟨_, rfl⟩; replace H : (if 0 ≤ (ji15) then (if x3_2.length < 140737488355328 then (value_EncodeRow.l1 k2 (x3_2 ++ [(shr .u64 (IntKind.u64.wrap (wrap64 (t154 + 4294967296))) (ji15)) % 256]) (IntKind.u64.wrap (wrap64 (t154 + 4294967296))) (wrap64 (x7_2 - 1)) l0 (l0.length : Int) x12_1) else (none)) else (none)) = some r := by first | (rw [hji15] at H; exact H) | (simp only [hji15] at H ⊢; exact H)
           have hji15w : (IntKind.i64.wrap (8 * x7_2)) = ji15 := (i64_w _).trans hji15
           by_cases c16 : 0 ≤ (ji15)
           ·rw [if_pos c16] at H; have c16b0 := eq_true c16; have c16b1 : decide (0 ≤ (ji15)) = true := decide_eq_true c16; clear c16; obtain ⟨ji17, hji17⟩ : ∃ j_ : Int, (shr .u64 (IntKind.u64.wrap (wrap64 (t154 + 4294967296))) (ji15)) = j_ := ⟨_, rfl⟩; replace H : (if x3_2.length < 140737488355328 then (value_EncodeRow.l1 k2 (x3_2 ++ [(ji17) % 256]) (IntKind.u64.wrap (wrap64 (t154 + 4294967296))) (wrap64 (x7_2 - 1)) l0 (l0.length : Int) x12_1) else (none)) = some r := by first | (rw [hji17] at H; exact H) | (simp only [hji17] at H ⊢; exact H)
            have hji17_ : ((IntKind.u64.wrap (wrap64 (t154 + 4294967296))) / 2 ^ min (ji15).toNat 64) = ji17 := hji17; have hji17z : (ji15) ≤ 64 → ((IntKind.u64.wrap (wrap64 (t154 + 4294967296))) / 2 ^ (ji15).toNat) = ji17 := shr_small hji17
            by_cases c18 : x3_2.length < 140737488355328
            ·rw [if_pos c18] at H; have LMc18 := Aside0.mk c18; clear c18; obtain ⟨y159, hy159⟩ : ∃ y_ : List Int, y_ = (x3_2 ++ [(ji17) % 256]) := ⟨_, rfl⟩; replace H : (value_EncodeRow.l1 k2 y159 (IntKind.u64.wrap (wrap64 (t154 + 4294967296))) (wrap64 (x7_2 - 1)) l0 (l0.length : Int) x12_1) = some r := by first | (rw [hy159]; with_reducible exact H) | (have H2_ := (Option.bind_some _ _).symm.trans H; rw [hy159]; with_reducible exact H2_) | (have H2_ := (Option.bind_some _ _).symm.trans H; with_reducible exact H2_) | with_reducible exact H | (rw [hy159]; exact H) | exact H
             have Ny159 := Aside0.mk hy159; clear hy159; have H' := Aside0.mk H; clear H
             go_wp2_with (first | ((with_reducible refine gate_builtin (b := .append) (xs := #[.tmp 36, .tmp 42]) rfl ?_); at_builtin; refine Kd.R_append (Kd.int .u8) (w0 := w) w.heap.size rfl (.tmp 36) (.tmp 42) 71 5 (.int .u8 0) 1 rfl Try.underlying71 info5 rfl (by decide) (by omega) u3 x3_2 ((ji17) % 256) [.int .u8 ((ji17) % 256)] (fun _ => True) (fun _ => False) rfl rfl ?aP (fun _ hk => hk.elim) ?aF ?aO ?aB ?aS ?aL ?_; (case aP => exact rfl); (case aB => exact zz5); (case aF => exact (fun _ _ => trivial)); (case aO => exact zz15); (case aS => exact (below_size zz5)); (case aL => have := LMc18.out; omega); intro v160 w19 ho hb hg hat; rw [← Ny159.out] at ho; have n0_ := Aside0.mk (blk_grown (g := gb100) (o := .cells #[.int .i64 t153, .int .i64 t154, .string t155] 23 (0, 0)) zz7 hg (Kd.R_ne HO_3.out BK100.out (by decide))); have n1_ := Aside0.mk (hb); have n2_ := Aside0.mk (ho); clear BK100; clear HB; clear HO_3; have BK100 := n0_; have HB := n1_; have HO102 := n2_; clear n0_ n1_ n2_; clear ho hb hg hat))
             go_roundg k2
             case measure => have := HK1.out; have := HK2.out; omega
             case rel => exact ⟨(y159), (wrap64 (x7_2 - 1)), zz0, H', ⟨zz22⟩, ⟨zz23⟩, ⟨zz7⟩, ⟨zz5⟩⟩
            ·rw [if_neg c18] at H; exact absurd H (by simp)
           ·rw [if_neg c16] at H; exact absurd H (by simp)
          ·rw [if_neg c14] at H; have c14b0 : decide (0 ≤ x7_2) = false := decide_eq_false c14; clear c14; have H' := Aside0.mk H; clear H
           go_wp2
           go_roundg k2
           case measure => have := HK1.out; have := HK2.out; omega
           case rel => exact ⟨(x3_2), (wrap64 (x12_1 + 1)), zz0, H', ⟨zz22⟩, ⟨zz15⟩, ⟨zz5⟩⟩
       ·rw [if_neg c7] at H; exact absurd H (by simp)
      ·rw [if_neg c6] at H; have c6b0 : (t153 == 1) = false := beq_eq_false_iff_ne.mpr c6; have c6b1 : (t153 != 1) = true := bne_iff_ne.mpr c6
       by_cases c20 : t153 = 2
       ·rw [if_pos c20] at H; have c20b0 : (t153 == 2) = true := beq_iff_eq.mpr c20; have c20b1 : (t153 != 2) = false := bne_eq_false_iff_eq.mpr c20; clear c20
        by_cases c21 : x3_1.length < 140737488355328
        ·rw [if_pos c21] at H; have LMc21 := Aside0.mk c21; clear c21; obtain ⟨y162, hy162⟩ : ∃ y_ : List Int, y_ = (x3_1 ++ [3]) := ⟨_, rfl⟩; replace H : (if t155.size ≤ 9223372036854775807 then (value_EncodeRow.l2 k1 y162 l0 (l0.length : Int) x12_1 (bytesOf t155) ((bytesOf t155).length : Int) 0) else (none)) = some r := by first | (rw [hy162]; with_reducible exact H) | (have H2_ := (Option.bind_some _ _).symm.trans H; rw [hy162]; with_reducible exact H2_) | (have H2_ := (Option.bind_some _ _).symm.trans H; with_reducible exact H2_) | with_reducible exact H | (rw [hy162]; exact H) | exact H
         have Ny162 := Aside0.mk hy162; clear hy162
         by_cases c22 : t155.size ≤ 9223372036854775807
         ·rw [if_pos c22] at H; have c22b0 := eq_true c22; have c22b1 : decide (t155.size ≤ 9223372036854775807) = true := decide_eq_true c22
          try have c22b2 : (9223372036854775807 < t155.size) = False := eq_false (Nat.not_lt.2 c22)
          clear c22; have H' := Aside0.mk H; clear H; have p151 : 0 ≤ (x12_1 : Int) := of_decide_eq_true zz14; have q151 : x12_1 < (l0.length : Int) := of_decide_eq_true zz14; obtain ⟨ad151, e151, hx151_0, hx151_1, hx151_2⟩ := at_T23 HR0.out x12_1 p151 q151
          cases e151
          replace hx151_0 := cB HB hx151_0; replace hx151_1 := cB HB hx151_1; replace hx151_2 := cB HB hx151_2; replace p151 := eq_true p151; replace q151 := eq_true q151
          go_wp2_with (first | ((with_reducible refine gate_dst (N := 5) rfl ?_); refine box_event ?hg (N := 5) ?hd (cs := #[.int .i64 0, .int .i64 0, .string (⟨#[]⟩ : ByteArray)]) (t := 23) ?hr ?_; (case hd => rfl); (case hg => rfl); (case hr => first | (go_simp; done) | (go_simp; rfl)); intro gb100 hg w23 hbox hb; have n0_ := Aside0.mk (Kd.R_below zz15 hb); have n1_ := Aside0.mk (below_step zz2 hb); have n2_ := Aside0.mk (hbox); have n3_ := Aside0.mk ((zz3 : w.heap.size ≤ gb100)); have n4_ := Aside0.mk ((zz3 : w.heap.size ≤ gb100)); clear HO_3; clear HB; have HO_3 := n0_; have HB := n1_; have BK100 := n2_; have GW100 := n3_; have GE100 := n4_; clear n0_ n1_ n2_ n3_ n4_; clear hb hbox hg; have hcz24_0 : w23.cell? ⟨gb100, 0, none⟩ = some (.int .i64 0) := cK BK100 0; have hcz24_1 : w23.cell? ⟨gb100, 1, none⟩ = some (.int .i64 0) := cK BK100 1; have hcz24_2 : w23.cell? ⟨gb100, 2, none⟩ = some (.string (⟨#[]⟩ : ByteArray)) := cK BK100 2; have hfz24_0 := blk_frozen BK100.out 0; have hfz24_1 := blk_frozen BK100.out 1; have hfz24_2 := blk_frozen BK100.out 2) | ((with_reducible refine gate_callee (f := 85) rfl ?_); refine goesL_ (some 17) rfl rfl Try.func85 (by kernel_rfl) rfl #[.agg #[.int .i64 ((rd_T23 l0 x12_1).f0), .int .i64 ((rd_T23 l0 x12_1).f1), .string ((rd_T23 l0 x12_1).f2)]] rfl zz6 ?_; (with_reducible refine (value_Clean.calls ((rd_T23 l0 x12_1).f0) ((rd_T23 l0 x12_1).f1) ((rd_T23 l0 x12_1).f2) t153 t154 t155 _ A5.out).mono ?_); rintro e w25 ⟨rfl, hb⟩; refine ⟨_, rfl, ?_⟩; have n0_ := Aside0.mk (Kd.R_below zz16 hb); have n1_ := Aside0.mk (blk_below (g := gb100) (o := .cells #[.int .i64 ((rd_T23 l0 x12_1).f0), .int .i64 ((rd_T23 l0 x12_1).f1), .string ((rd_T23 l0 x12_1).f2)] 23 (0, 0)) zz17 hb); have n2_ := Aside0.mk (below_step zz5 hb); clear HO_3; clear BK100; clear HB; have HO_3 := n0_; have BK100 := n1_; have HB := n2_; clear n0_ n1_ n2_; (try clear hb); (try clear hb2); (try clear hk); (try clear hi); have hcz26_0 : w25.cell? ⟨gb100, 0, none⟩ = some (.int .i64 ((rd_T23 l0 x12_1).f0)) := cK BK100 0; have hcz26_1 : w25.cell? ⟨gb100, 1, none⟩ = some (.int .i64 ((rd_T23 l0 x12_1).f1)) := cK BK100 1; have hcz26_2 : w25.cell? ⟨gb100, 2, none⟩ = some (.string ((rd_T23 l0 x12_1).f2)) := cK BK100 2; have hfz26_0 := blk_frozen BK100.out 0; have hfz26_1 := blk_frozen BK100.out 1; have hfz26_2 := blk_frozen BK100.out 2) | ((with_reducible refine gate_builtin (b := .append) (xs := #[.tmp 46, .tmp 47]) rfl ?_); at_builtin; refine Kd.R_append (Kd.int .u8) (w0 := w) w.heap.size rfl (.tmp 46) (.tmp 47) 71 5 (.int .u8 0) 1 rfl Try.underlying71 info5 rfl (by decide) (by omega) u3 x3_1 3 [.int .u8 3] (fun _ => True) (fun _ => False) rfl zz18 ?aP (fun _ hk => hk.elim) ?aF ?aO ?aB ?aS ?aL ?_; (case aP => exact rfl); (case aB => exact zz5); (case aF => exact (fun _ _ => trivial)); (case aO => exact zz19); (case aS => exact (below_size zz5)); (case aL => have := LMc21.out; omega); intro v163 w27 ho hb hg hat; rw [← Ny162.out] at ho; have n0_ := Aside0.mk (blk_grown (g := gb100) (o := .cells #[.int .i64 t153, .int .i64 t154, .string t155] 23 (0, 0)) zz20 hg (Kd.R_ne HO_3.out BK100.out (by decide))); have n1_ := Aside0.mk (hb); have n2_ := Aside0.mk (ho); clear BK100; clear HB; clear HO_3; have BK100 := n0_; have HB := n1_; have HO103 := n2_; clear n0_ n1_ n2_; clear ho hb hg hat; have hcz28_0 : w27.cell? ⟨gb100, 0, none⟩ = some (.int .i64 t153) := cK BK100 0; have hcz28_1 : w27.cell? ⟨gb100, 1, none⟩ = some (.int .i64 t154) := cK BK100 1; have hcz28_2 : w27.cell? ⟨gb100, 2, none⟩ = some (.string t155) := cK BK100 2; have hfz28_0 := blk_frozen BK100.out 0; have hfz28_1 := blk_frozen BK100.out 1; have hfz28_2 := blk_frozen BK100.out 2) | ((with_reducible refine gate_dst (N := 51) rfl ?_); refine own_conv_bytes (N := 51) ?hg ?hd 9 71 5 (.tmp 50) ?ho Try.underlying9 Try.underlying71 Try.underlying5 t155 ?hx (of_decide_eq_true zz14) (base := w.heap.size) ?hb_ ?_; (case hb_ => exact ((below_size zz5))); (case hd => rfl); (case hg => rfl); (case ho => rfl); (case hx => first | rfl | (go_simp; done) | (go_simp; rfl)); intro A166 c166 w29 hc_ hb; have n0_ := Aside0.mk (Kd.R_below zz24 hb); have n1_ := Aside0.mk (blk_below (g := gb100) (o := .cells #[.int .i64 t153, .int .i64 t154, .string t155] 23 (0, 0)) zz7 hb); have n2_ := Aside0.mk (below_step zz5 hb); clear HO103; clear BK100; clear HB; have HO103 := n0_; have BK100 := n1_; have HB := n2_; clear n0_ n1_ n2_; have HR104 := Aside0.mk hc_; have HC104 := Aside0.mk hc_.le; clear hb hc_))
          go_loopg [3, 53] k1 (fun kq v3 v53 w' => ∃ (x3_2 : List Int) (x53_2 : Int), v53 = .int .i64 x53_2 ∧ Aside0 (value_EncodeRow.l2 kq x3_2 l0 (l0.length : Int) x12_1 (bytesOf t155) ((bytesOf t155).length : Int) x53_2 = some r) ∧ Aside0 (kq ≤ k1) ∧ Aside0 (Kd.R (Kd.int .u8) 5 w' w.heap.size (fun _ => True) v3 x3_2) ∧ Aside0 (w'.heap[gb100]? = some (.cells #[.int .i64 t153, .int .i64 t154, .string t155] 23 (0, 0))) ∧ Aside0 (ConvRow w' w.heap.size A166 c166 (bytesOf t155).length (bytesOf t155)) ∧ Aside0 (Below w.heap.size w w'))
          case atStart => exact ⟨(y162), (0), zz0, H', ⟨Nat.le_refl _⟩, ⟨zz24⟩, ⟨zz7⟩, ⟨zz25⟩, ⟨zz5⟩⟩
          case round =>
           clear H'; (try clear c1); (try clear p1); (try clear q1); (try clear hx1); (try clear c2); (try clear c2b0); (try clear p2); (try clear c3); (try clear c3b0); (try clear c4); (try clear c4b0); (try clear c6); (try clear c6b0); (try clear c6b1); (try clear p6); (try clear c7); (try clear c8); (try clear c14); (try clear c14b0); (try clear p15); (try clear q15); (try clear hx15); (try clear c16); (try clear c16b0); (try clear c16b1); (try clear c18); (try clear c20); (try clear c20b0); (try clear c20b1); (try clear c21); (try clear c22); (try clear c22b0); (try clear c22b1); (try clear c22b2); (try clear hcz11_0); (try clear hcz11_1); (try clear hcz11_2); (try clear hcz13_0); (try clear hcz13_1); (try clear hcz13_2); (try clear hcz24_0); (try clear hcz24_1); (try clear hcz24_2); (try clear hcz26_0); (try clear hcz26_1); (try clear hcz26_2); (try clear hcz28_0); (try clear hcz28_1); (try clear hcz28_2); (try clear hcz9_0); (try clear hcz9_1); (try clear hcz9_2); (try clear hfz11_0); (try clear hfz11_1); (try clear hfz11_2); (try clear hfz13_0); (try clear hfz13_1); (try clear hfz13_2); (try clear hfz24_0); (try clear hfz24_1); (try clear hfz24_2); (try clear hfz26_0); (try clear hfz26_1); (try clear hfz26_2); (try clear hfz28_0); (try clear hfz28_1); (try clear hfz28_2); (try clear hfz9_0); (try clear hfz9_1); (try clear hfz9_2); (try clear hx151_0); (try clear hx151_1); (try clear hx151_2); (try clear p1); (try clear p151); (try clear p2); (try clear p6); (try clear q1); (try clear q151); obtain ⟨x3_2, x53_2, rfl, HA, HK2, HO_3, BK100, HR104, HB⟩ := hrel
           cases gk with
           | zero => exact absurd HA.out (by simp [value_EncodeRow.l2])
           | succ k2 =>
            have H := HA.out; clear HA; simp only [value_EncodeRow.l2] at H
            by_cases c30 : x53_2 < ((bytesOf t155).length : Int)
            ·rw [if_pos c30] at H; have c30b0 : decide (x53_2 < ((bytesOf t155).length : Int)) = true := decide_eq_true c30; clear c30
             by_cases c31 : 0 ≤ x53_2
             ·rw [if_pos c31] at H; have c31b0 : decide (0 ≤ x53_2) = true := decide_eq_true c31; clear c31
              by_cases c32 : x53_2 < ((bytesOf t155).length : Int)
              ·rw [if_pos c32] at H; have c32b0 : decide (x53_2 < ((bytesOf t155).length : Int)) = true := decide_eq_true c32; clear c32
               by_cases c33 : x3_2.length < 140737488355328
               ·rw [if_pos c33] at H; have LMc33 := Aside0.mk c33; clear c33; obtain ⟨y168, hy168⟩ : ∃ y_ : List Int, y_ = (x3_2 ++ [rd (bytesOf t155) x53_2]) := ⟨_, rfl⟩; replace H : (if (rd (bytesOf t155) x53_2) = 0 then (if y168.length < 140737488355328 then (value_EncodeRow.l2 k2 (y168 ++ [255]) l0 (l0.length : Int) x12_1 (bytesOf t155) ((bytesOf t155).length : Int) (wrap64 (x53_2 + 1))) else (none)) else (value_EncodeRow.l2 k2 y168 l0 (l0.length : Int) x12_1 (bytesOf t155) ((bytesOf t155).length : Int) (wrap64 (x53_2 + 1)))) = some r := by first | (rw [hy168]; with_reducible exact H) | (have H2_ := (Option.bind_some _ _).symm.trans H; rw [hy168]; with_reducible exact H2_) | (have H2_ := (Option.bind_some _ _).symm.trans H; with_reducible exact H2_) | with_reducible exact H | (rw [hy168]; exact H) | exact H
                have Ny168 := Aside0.mk hy168; clear hy168
                by_cases c34 : (rd (bytesOf t155) x53_2) = 0
                ·rw [if_pos c34] at H; have c34b0 : ((rd (bytesOf t155) x53_2) == 0) = true := beq_iff_eq.mpr c34; have c34b1 : ((rd (bytesOf t155) x53_2) != 0) = false := bne_eq_false_iff_eq.mpr c34; clear c34
                 by_cases c35 : y168.length < 140737488355328
                 ·rw [if_pos c35] at H; have LMc35 := Aside0.mk c35; clear c35; obtain ⟨y171, hy171⟩ : ∃ y_ : List Int, y_ = (y168 ++ [255]) := ⟨_, rfl⟩; replace H : (value_EncodeRow.l2 k2 y171 l0 (l0.length : Int) x12_1 (bytesOf t155) ((bytesOf t155).length : Int) (wrap64 (x53_2 + 1))) = some r := by first | (rw [hy171]; with_reducible exact H) | (have H2_ := (Option.bind_some _ _).symm.trans H; rw [hy171]; with_reducible exact H2_) | (have H2_ := (Option.bind_some _ _).symm.trans H; with_reducible exact H2_) | with_reducible exact H | (rw [hy171]; exact H) | exact H
                  have Ny171 := Aside0.mk hy171; clear hy171; have H' := Aside0.mk H; clear H; have p167 : 0 ≤ (x53_2 : Int) := of_decide_eq_true zz14; have q167 : x53_2 < ((bytesOf t155).length : Int) := of_decide_eq_true zz14; obtain ⟨ad167, e167, hx167_0⟩ := Kd.at_int (ConvRow.reads zz25) x53_2 p167 q167
                  cases e167
                  replace p167 := eq_true p167; replace q167 := eq_true q167
                  go_wp2_with (first | ((with_reducible refine gate_builtin (b := .append) (xs := #[.tmp 57, .tmp 59]) rfl ?_); at_builtin; refine Kd.R_append (Kd.int .u8) (w0 := w) w.heap.size rfl (.tmp 57) (.tmp 59) 71 5 (.int .u8 0) 1 rfl Try.underlying71 info5 rfl (by decide) (by omega) u3 x3_2 (rd (bytesOf t155) x53_2) [.int .u8 (rd (bytesOf t155) x53_2)] (fun _ => True) (fun _ => False) rfl rfl ?aP (fun _ hk => hk.elim) ?aF ?aO ?aB ?aS ?aL ?_; (case aP => exact rfl); (case aB => exact zz5); (case aF => exact (fun _ _ => trivial)); (case aO => exact zz15); (case aS => exact (below_size zz5)); (case aL => have := LMc33.out; omega); intro v169 w36 ho hb hg hat; rw [← Ny168.out] at ho; have n0_ := Aside0.mk (blk_grown (g := gb100) (o := .cells #[.int .i64 t153, .int .i64 t154, .string t155] 23 (0, 0)) zz7 hg (Kd.R_ne HO_3.out BK100.out (by decide))); have n1_ := Aside0.mk (hb); have n2_ := Aside0.mk (ConvRow.grown zz25 hg (Kd.R_typed zz15)); have n3_ := Aside0.mk (ho); clear BK100; clear HB; clear HR104; clear HO_3; have BK100 := n0_; have HB := n1_; have HR104 := n2_; have HO105 := n3_; clear n0_ n1_ n2_ n3_; clear ho hb hg hat) | ((with_reducible refine gate_builtin (b := .append) (xs := #[.tmp 63, .tmp 64]) rfl ?_); at_builtin; refine Kd.R_append (Kd.int .u8) (w0 := w) w.heap.size rfl (.tmp 63) (.tmp 64) 71 5 (.int .u8 0) 1 rfl Try.underlying71 info5 rfl (by decide) (by omega) v169 y168 255 [.int .u8 255] (fun _ => True) (fun _ => False) rfl rfl ?aP (fun _ hk => hk.elim) ?aF ?aO ?aB ?aS ?aL ?_; (case aP => exact rfl); (case aB => exact zz5); (case aF => exact (fun _ _ => trivial)); (case aO => exact zz26); (case aS => exact (below_size zz5)); (case aL => have := LMc35.out; omega); intro v172 w37 ho hb hg hat; rw [← Ny171.out] at ho; have n0_ := Aside0.mk (blk_grown (g := gb100) (o := .cells #[.int .i64 t153, .int .i64 t154, .string t155] 23 (0, 0)) zz7 hg (Kd.R_ne HO105.out BK100.out (by decide))); have n1_ := Aside0.mk (hb); have n2_ := Aside0.mk (ConvRow.grown zz25 hg (Kd.R_typed zz26)); have n3_ := Aside0.mk (ho); clear BK100; clear HB; clear HR104; clear HO105; have BK100 := n0_; have HB := n1_; have HR104 := n2_; have HO106 := n3_; clear n0_ n1_ n2_ n3_; clear ho hb hg hat))
                  go_roundg k2
                  case measure => have := HK1.out; have := HK2.out; omega
                  case rel => exact ⟨(y171), (wrap64 (x53_2 + 1)), zz0, H', ⟨zz22⟩, ⟨zz27⟩, ⟨zz7⟩, ⟨zz25⟩, ⟨zz5⟩⟩
                 ·rw [if_neg c35] at H; exact absurd H (by simp)
                ·rw [if_neg c34] at H; have c34b0 : ((rd (bytesOf t155) x53_2) == 0) = false := beq_eq_false_iff_ne.mpr c34; have c34b1 : ((rd (bytesOf t155) x53_2) != 0) = true := bne_iff_ne.mpr c34; have H' := Aside0.mk H; clear H; have p167 : 0 ≤ (x53_2 : Int) := of_decide_eq_true zz14; have q167 : x53_2 < ((bytesOf t155).length : Int) := of_decide_eq_true zz14; obtain ⟨ad167, e167, hx167_0⟩ := Kd.at_int (ConvRow.reads zz25) x53_2 p167 q167
                 cases e167
                 replace p167 := eq_true p167; replace q167 := eq_true q167
                 go_wp2_with (first | ((with_reducible refine gate_builtin (b := .append) (xs := #[.tmp 57, .tmp 59]) rfl ?_); at_builtin; refine Kd.R_append (Kd.int .u8) (w0 := w) w.heap.size rfl (.tmp 57) (.tmp 59) 71 5 (.int .u8 0) 1 rfl Try.underlying71 info5 rfl (by decide) (by omega) u3 x3_2 (rd (bytesOf t155) x53_2) [.int .u8 (rd (bytesOf t155) x53_2)] (fun _ => True) (fun _ => False) rfl rfl ?aP (fun _ hk => hk.elim) ?aF ?aO ?aB ?aS ?aL ?_; (case aP => exact rfl); (case aB => exact zz5); (case aF => exact (fun _ _ => trivial)); (case aO => exact zz15); (case aS => exact (below_size zz5)); (case aL => have := LMc33.out; omega); intro v169 w38 ho hb hg hat; rw [← Ny168.out] at ho; have n0_ := Aside0.mk (blk_grown (g := gb100) (o := .cells #[.int .i64 t153, .int .i64 t154, .string t155] 23 (0, 0)) zz7 hg (Kd.R_ne HO_3.out BK100.out (by decide))); have n1_ := Aside0.mk (hb); have n2_ := Aside0.mk (ConvRow.grown zz25 hg (Kd.R_typed zz15)); have n3_ := Aside0.mk (ho); clear BK100; clear HB; clear HR104; clear HO_3; have BK100 := n0_; have HB := n1_; have HR104 := n2_; have HO105 := n3_; clear n0_ n1_ n2_ n3_; clear ho hb hg hat))
                 go_roundg k2
                 case measure => have := HK1.out; have := HK2.out; omega
                 case rel => exact ⟨(y168), (wrap64 (x53_2 + 1)), zz0, H', ⟨zz22⟩, ⟨zz26⟩, ⟨zz7⟩, ⟨zz25⟩, ⟨zz5⟩⟩
               ·rw [if_neg c33] at H; exact absurd H (by simp)
              ·rw [if_neg c32] at H; exact absurd H (by simp)
             ·rw [if_neg c31] at H; exact absurd H (by simp)
            ·rw [if_neg c30] at H; have c30b0 : decide (x53_2 < ((bytesOf t155).length : Int)) = false := decide_eq_false c30; clear c30; obtain ⟨y174, hy174⟩ : ∃ y_ : List Int, y_ = (([0, 0] : List Int)) := ⟨_, rfl⟩; replace H : (if x3_2.length + y174.length < 140737488355328 then (value_EncodeRow.l0 k2 (x3_2 ++ y174) l0 (l0.length : Int) (wrap64 (x12_1 + 1))) else (none)) = some r := by first | (rw [hy174]; with_reducible exact H) | (have H2_ := (Option.bind_some _ _).symm.trans H; rw [hy174]; with_reducible exact H2_) | (have H2_ := (Option.bind_some _ _).symm.trans H; with_reducible exact H2_) | with_reducible exact H | (rw [hy174]; exact H) | exact H
             have Ny174 := Aside0.mk hy174; clear hy174
             by_cases c39 : x3_2.length + y174.length < 140737488355328
             ·rw [if_pos c39] at H; have LMc39 := Aside0.mk c39; clear c39; obtain ⟨y177, hy177⟩ : ∃ y_ : List Int, y_ = (x3_2 ++ y174) := ⟨_, rfl⟩; replace H : (value_EncodeRow.l0 k2 y177 l0 (l0.length : Int) (wrap64 (x12_1 + 1))) = some r := by first | (rw [hy177]; with_reducible exact H) | (have H2_ := (Option.bind_some _ _).symm.trans H; rw [hy177]; with_reducible exact H2_) | (have H2_ := (Option.bind_some _ _).symm.trans H; with_reducible exact H2_) | with_reducible exact H | (rw [hy177]; exact H) | exact H
              have Ny177 := Aside0.mk hy177; clear hy177; have H' := Aside0.mk H; clear H
              go_wp2_with (first | ((with_reducible refine gate_dst (N := 68) rfl ?_); refine Kd.R_lit (Kd.int .u8) _ 5 ?hg (N := 68) ?hd (xs := ([0, 0] : List Int)) (inner := [.int .u8 0, .int .u8 0]) (ok := fun _ => True) (okp := fun _ => True) ?hr ?hp (fun _ hk => hk) trivial (Below.refl _ _) (Nat.le_refl _) (by simp) ?_; (case hd => rfl); (case hg => rfl); (case hr => first | (go_simp; done) | (go_simp; rfl)); (case hp => exact (Reps.one (show Kd.M (Kd.int .u8) _ _ _ 0 [.int .u8 0] from rfl) (Reps.one (show Kd.M (Kd.int .u8) _ _ _ 0 [.int .u8 0] from rfl) (Reps.none _ _)))); intro v175 w40 ho41 hb hg_ hnew_; clear hg_ hnew_; (first | rw [← Ny174.out] at ho41 | (simp only [Int.reduceToNat] at ho41; rw [← Ny174.out] at ho41)); have n0_ := Aside0.mk (Kd.R_elder' zz15 (Kd.R_base ho41) hb); have n1_ := Aside0.mk (Kd.R_lower (Kd.R_new' ho41 (Kd.R_lt zz15)) (below_size zz5)); have n2_ := Aside0.mk (blk_below (g := gb100) (o := .cells #[.int .i64 t153, .int .i64 t154, .string t155] 23 (0, 0)) zz7 hb); have n3_ := Aside0.mk (ConvRow.below zz25 hb); have n4_ := Aside0.mk (below_step zz5 hb); clear HO_3; clear BK100; clear HR104; clear HB; have HO_3 := n0_; have HO107 := n1_; have BK100 := n2_; have HR104 := n3_; have HB := n4_; clear n0_ n1_ n2_ n3_ n4_; clear hb ho41; obtain ⟨Ao43, co43, eo43⟩ := Kd.R_slice HO107.out; subst eo43) | ((with_reducible refine gate_builtin (b := .append) (xs := #[.tmp 67, .tmp 68]) rfl ?_); at_builtin; refine Kd.R_append_rows (Kd.int .u8) (w0 := w) w.heap.size rfl (.tmp 67) (.tmp 68) 71 5 (.int .u8 0) 1 rfl Try.underlying71 info5 rfl (by decide) (by omega) u3 x3_2 y174 _ _ _ (fun k_ => some k_ ≠ (.slice Ao43 y174.length co43 : Value).ownBlock) (fun _ => False) rfl rfl ?aO ?aR (fun _ _ h => h) (fun _ h => h.elim) ?aF ?aB ?aS ?aL ?_; (case aR => repeat (first | exact (Kd.R_reads' HO107.out).2.2 | (with_reducible refine Kd.C_alloc ?_ _) | (with_reducible refine Kd.C_drewN ?_ _) | (with_reducible refine Kd.C_drew ?_))); (case aB => exact zz5); (case aF => exact (fun k_ hk => Kd.fresh' (Kd.R_lt (by (with_reducible repeat (first | apply Kd.R_alloc | apply Kd.R_drewN | apply Kd.R_drew)); exact HO107.out)) k_ hk)); (case aO => exact zz28); (case aS => exact (below_size zz5)); (case aL => have := LMc39.out; omega); intro v178 w42 ho hb hg hat; rw [← Ny177.out] at ho; have n0_ := Aside0.mk (blk_grown (g := gb100) (o := .cells #[.int .i64 t153, .int .i64 t154, .string t155] 23 (0, 0)) zz7 hg (Kd.R_ne HO_3.out BK100.out (by decide))); have n1_ := Aside0.mk (Kd.R_after (ok := (fun _ => True)) (by (with_reducible repeat (first | apply Kd.R_alloc | apply Kd.R_drewN | apply Kd.R_drew)); exact HO107.out) hg hat); have n2_ := Aside0.mk (hb); have n3_ := Aside0.mk (ConvRow.grown zz25 hg (Kd.R_typed zz15)); have n4_ := Aside0.mk (ho); clear BK100; clear HO107; clear HB; clear HR104; clear HO_3; have BK100 := n0_; have HO107 := n1_; have HB := n2_; have HR104 := n3_; have HO108 := n4_; clear n0_ n1_ n2_ n3_ n4_; clear ho hb hg hat))
              go_roundg k2
              case measure => have := HK1.out; have := HK2.out; omega
              case rel => exact ⟨(y177), (wrap64 (x12_1 + 1)), zz0, H', ⟨zz22⟩, ⟨by (with_reducible repeat (first | apply Kd.R_alloc | apply Kd.R_drewN | apply Kd.R_drew)); exact Kd.R_mono HO108.out (fun _ hk => trivial)⟩, ⟨zz5⟩⟩
             ·rw [if_neg c39] at H; exact absurd H (by simp)
         ·rw [if_neg c22] at H; exact absurd H (by simp)
        ·rw [if_neg c21] at H; exact absurd H (by simp)
       ·rw [if_neg c20] at H; have c20b0 : (t153 == 2) = false := beq_eq_false_iff_ne.mpr c20; have c20b1 : (t153 != 2) = true := bne_iff_ne.mpr c20
        by_cases c44 : x3_1.length < 140737488355328
        ·rw [if_pos c44] at H; have LMc44 := Aside0.mk c44; clear c44; obtain ⟨y180, hy180⟩ : ∃ y_ : List Int, y_ = (x3_1 ++ [1]) := ⟨_, rfl⟩; replace H : (value_EncodeRow.l0 k1 y180 l0 (l0.length : Int) (wrap64 (x12_1 + 1))) = some r := by first | (rw [hy180]; with_reducible exact H) | (have H2_ := (Option.bind_some _ _).symm.trans H; rw [hy180]; with_reducible exact H2_) | (have H2_ := (Option.bind_some _ _).symm.trans H; with_reducible exact H2_) | with_reducible exact H | (rw [hy180]; exact H) | exact H
         have Ny180 := Aside0.mk hy180; clear hy180; have H' := Aside0.mk H; clear H; have p151 : 0 ≤ (x12_1 : Int) := of_decide_eq_true zz14; have q151 : x12_1 < (l0.length : Int) := of_decide_eq_true zz14; obtain ⟨ad151, e151, hx151_0, hx151_1, hx151_2⟩ := at_T23 HR0.out x12_1 p151 q151
         cases e151
         replace hx151_0 := cB HB hx151_0; replace hx151_1 := cB HB hx151_1; replace hx151_2 := cB HB hx151_2; replace p151 := eq_true p151; replace q151 := eq_true q151
         go_wp2_with (first | ((with_reducible refine gate_dst (N := 5) rfl ?_); refine box_event ?hg (N := 5) ?hd (cs := #[.int .i64 0, .int .i64 0, .string (⟨#[]⟩ : ByteArray)]) (t := 23) ?hr ?_; (case hd => rfl); (case hg => rfl); (case hr => first | (go_simp; done) | (go_simp; rfl)); intro gb100 hg w45 hbox hb; have n0_ := Aside0.mk (Kd.R_below zz15 hb); have n1_ := Aside0.mk (below_step zz2 hb); have n2_ := Aside0.mk (hbox); have n3_ := Aside0.mk ((zz3 : w.heap.size ≤ gb100)); have n4_ := Aside0.mk ((zz3 : w.heap.size ≤ gb100)); clear HO_3; clear HB; have HO_3 := n0_; have HB := n1_; have BK100 := n2_; have GW100 := n3_; have GE100 := n4_; clear n0_ n1_ n2_ n3_ n4_; clear hb hbox hg; have hcz46_0 : w45.cell? ⟨gb100, 0, none⟩ = some (.int .i64 0) := cK BK100 0; have hcz46_1 : w45.cell? ⟨gb100, 1, none⟩ = some (.int .i64 0) := cK BK100 1; have hcz46_2 : w45.cell? ⟨gb100, 2, none⟩ = some (.string (⟨#[]⟩ : ByteArray)) := cK BK100 2; have hfz46_0 := blk_frozen BK100.out 0; have hfz46_1 := blk_frozen BK100.out 1; have hfz46_2 := blk_frozen BK100.out 2) | ((with_reducible refine gate_callee (f := 85) rfl ?_); refine goesL_ (some 17) rfl rfl Try.func85 (by kernel_rfl) rfl #[.agg #[.int .i64 ((rd_T23 l0 x12_1).f0), .int .i64 ((rd_T23 l0 x12_1).f1), .string ((rd_T23 l0 x12_1).f2)]] rfl zz6 ?_; (with_reducible refine (value_Clean.calls ((rd_T23 l0 x12_1).f0) ((rd_T23 l0 x12_1).f1) ((rd_T23 l0 x12_1).f2) t153 t154 t155 _ A5.out).mono ?_); rintro e w47 ⟨rfl, hb⟩; refine ⟨_, rfl, ?_⟩; have n0_ := Aside0.mk (Kd.R_below zz16 hb); have n1_ := Aside0.mk (blk_below (g := gb100) (o := .cells #[.int .i64 ((rd_T23 l0 x12_1).f0), .int .i64 ((rd_T23 l0 x12_1).f1), .string ((rd_T23 l0 x12_1).f2)] 23 (0, 0)) zz17 hb); have n2_ := Aside0.mk (below_step zz5 hb); clear HO_3; clear BK100; clear HB; have HO_3 := n0_; have BK100 := n1_; have HB := n2_; clear n0_ n1_ n2_; (try clear hb); (try clear hb2); (try clear hk); (try clear hi); have hcz48_0 : w47.cell? ⟨gb100, 0, none⟩ = some (.int .i64 ((rd_T23 l0 x12_1).f0)) := cK BK100 0; have hcz48_1 : w47.cell? ⟨gb100, 1, none⟩ = some (.int .i64 ((rd_T23 l0 x12_1).f1)) := cK BK100 1; have hcz48_2 : w47.cell? ⟨gb100, 2, none⟩ = some (.string ((rd_T23 l0 x12_1).f2)) := cK BK100 2; have hfz48_0 := blk_frozen BK100.out 0; have hfz48_1 := blk_frozen BK100.out 1; have hfz48_2 := blk_frozen BK100.out 2) | ((with_reducible refine gate_builtin (b := .append) (xs := #[.tmp 20, .tmp 21]) rfl ?_); at_builtin; refine Kd.R_append (Kd.int .u8) (w0 := w) w.heap.size rfl (.tmp 20) (.tmp 21) 71 5 (.int .u8 0) 1 rfl Try.underlying71 info5 rfl (by decide) (by omega) u3 x3_1 1 [.int .u8 1] (fun _ => True) (fun _ => False) rfl zz18 ?aP (fun _ hk => hk.elim) ?aF ?aO ?aB ?aS ?aL ?_; (case aP => exact rfl); (case aB => exact zz5); (case aF => exact (fun _ _ => trivial)); (case aO => exact zz19); (case aS => exact (below_size zz5)); (case aL => have := LMc44.out; omega); intro v181 w49 ho hb hg hat; rw [← Ny180.out] at ho; have n0_ := Aside0.mk (blk_grown (g := gb100) (o := .cells #[.int .i64 t153, .int .i64 t154, .string t155] 23 (0, 0)) zz20 hg (Kd.R_ne HO_3.out BK100.out (by decide))); have n1_ := Aside0.mk (hb); have n2_ := Aside0.mk (ho); clear BK100; clear HB; clear HO_3; have BK100 := n0_; have HB := n1_; have HO109 := n2_; clear n0_ n1_ n2_; clear ho hb hg hat))
         go_roundg k1
         case measure => have := HK1.out; omega
         case rel => exact ⟨(y180), (wrap64 (x12_1 + 1)), zz0, H', ⟨by have := HK1.out; omega⟩, ⟨by (with_reducible repeat (first | apply Kd.R_alloc | apply Kd.R_drewN | apply Kd.R_drew)); exact HO109.out⟩, ⟨zz5⟩⟩
        ·rw [if_neg c44] at H; exact absurd H (by simp)
     ·rw [if_neg c4] at H; exact absurd H (by simp)
    ·rw [if_neg c3] at H; exact absurd H (by simp)
   ·rw [if_neg c2] at H; have c2b0 : decide (x12_1 < (l0.length : Int)) = false := decide_eq_false c2; clear c2; obtain rfl := Option.some.inj H; have hcv50 := own_string (P := Try.prog) Try.underlying71 Try.underlying5 Try.underlying9 (Kd.own_of_R HO_3.out)
    go_wp2
    go_ret
    exact ⟨zz4, zz2⟩
def sketch_Hash.l0 : Nat → Int → List Int → Int → Int → Option (Int)
 | 0, _, _, _, _ => none
 | k + 1, x5, x15, x16, x17 => if x17 < x16 then (if 0 ≤ x17 then (if x17 < (x15.length : Int) then (sketch_Hash.l0 k (IntKind.u64.wrap ((Go.bits .xor .u64 x5 (IntKind.u64.wrap (rd x15 x17))) * 1099511628211)) x15 x16 (wrap64 (x17 + 1))) else (none)) else (none)) else (some x5)
def sketch_Hash.f (k : Nat) (a0_0 : Int) (a0_1 : Int) (a0_2 : ByteArray) (a1 : Int) : Option (Int) := (value_EncodeRow.f k (([(⟨a0_0, a0_1, a0_2⟩ : S23)] : List (S23)))).bind fun t187 => (if t187.size ≤ 9223372036854775807 then (if (bytesOf t187).length < 140737488355328 then ((some ((bytesOf t187) ++ [(a1) % 256] : List Int)).bind fun y190 => (sketch_Hash.l0 k 14695981039346656037 y190 (y190.length : Int) 0)) else (none)) else (none))
theorem sketch_Hash.mono_l : ∀ k, (∀ y0 y1 y2 y3, LeO (sketch_Hash.l0 k y0 y1 y2 y3) (sketch_Hash.l0 (k + 1) y0 y1 y2 y3))
 | 0 => fun _ _ _ _ r h => by simp [sketch_Hash.l0] at h
 | k + 1 => by
  have ih0 := sketch_Hash.mono_l k
  ·intro y0 y1 y2 y3; unfold sketch_Hash.l0
   repeat' first
   | (with_reducible exact ih0 _ _ _ _)
   | (with_reducible exact value_EncodeRow.mono _ _)
   | (with_reducible exact LeO.refl _)
   | (with_reducible exact LeO.none _)
   | (with_reducible refine LeO.ite ?_ ?_)
   | (with_reducible refine LeO.bind ?_ (fun _ => ?_))
   | exact ih0 _ _ _ _
   | exact value_EncodeRow.mono _ _
   | exact LeO.none _
   | refine LeO.ite ?_ ?_
   | refine LeO.bind ?_ (fun _ => ?_)
theorem sketch_Hash.mono : ∀ a0 a1 a2 a3 k, LeO (sketch_Hash.f k a0 a1 a2 a3) (sketch_Hash.f (k + 1) a0 a1 a2 a3) := by
 intro a0 a1 a2 a3 k; have ih0 := sketch_Hash.mono_l k; unfold sketch_Hash.f
 repeat' first
   | (with_reducible exact ih0 _ _ _ _)
   | (with_reducible exact value_EncodeRow.mono _ _)
   | (with_reducible exact LeO.refl _)
   | (with_reducible exact LeO.none _)
   | (with_reducible refine LeO.ite ?_ ?_)
   | (with_reducible refine LeO.bind ?_ (fun _ => ?_))
   | exact ih0 _ _ _ _
   | exact value_EncodeRow.mono _ _
   | exact LeO.none _
   | refine LeO.ite ?_ ?_
   | refine LeO.bind ?_ (fun _ => ?_)
set_option maxHeartbeats 8000000 in
set_option maxRecDepth 100000 in
theorem sketch_Hash.calls (k : Nat) (a0_0 : Int) (a0_1 : Int) (a0_2 : ByteArray) (a1 : Int) (r : Int) (w : World) (h : sketch_Hash.f k a0_0 a0_1 a0_2 a1 = some r) :
  Calls Try.prog 15 #[.agg #[.int .i64 a0_0, .int .i64 a0_1, .string a0_2], .int .i64 a1] w fun e w' => e = .returned (.int .u64 r) ∧ Below w.heap.size w w' := by
 have hu23 := Try.underlying23; have HB := Aside0.mk (Below.refl w.heap.size w); have H : ((value_EncodeRow.f k (([(⟨a0_0, a0_1, a0_2⟩ : S23)] : List (S23)))).bind fun t187 => (if t187.size ≤ 9223372036854775807 then (if (bytesOf t187).length < 140737488355328 then ((some ((bytesOf t187) ++ [(a1) % 256] : List Int)).bind fun y190 => (sketch_Hash.l0 k 14695981039346656037 y190 (y190.length : Int) 0)) else (none)) else (none))) = some r := h; clear h; obtain ⟨y184, hy184⟩ : ∃ y_ : List (S23), y_ = (([(⟨a0_0, a0_1, a0_2⟩ : S23)] : List (S23))) := ⟨_, rfl⟩; replace H : ((value_EncodeRow.f k y184).bind fun t187 => (if t187.size ≤ 9223372036854775807 then (if (bytesOf t187).length < 140737488355328 then ((some ((bytesOf t187) ++ [(a1) % 256] : List Int)).bind fun y190 => (sketch_Hash.l0 k 14695981039346656037 y190 (y190.length : Int) 0)) else (none)) else (none))) = some r := by first | (rw [hy184]; with_reducible exact H) | (have H2_ := (Option.bind_some _ _).symm.trans H; rw [hy184]; with_reducible exact H2_) | (have H2_ := (Option.bind_some _ _).symm.trans H; with_reducible exact H2_) | with_reducible exact H | (rw [hy184]; exact H) | exact H
 have Ny184 := Aside0.mk hy184; clear hy184; replace H := Option.bind_eq_some_iff.mp H; obtain ⟨t187, A30, H⟩ := H; replace H : (if t187.size ≤ 9223372036854775807 then (if (bytesOf t187).length < 140737488355328 then ((some ((bytesOf t187) ++ [(a1) % 256] : List Int)).bind fun y190 => (sketch_Hash.l0 k 14695981039346656037 y190 (y190.length : Int) 0)) else (none)) else (none)) = some r := H; have A3 := Aside0.mk A30; clear A30
 by_cases c4 : t187.size ≤ 9223372036854775807
 ·rw [if_pos c4] at H; have c4b0 := eq_true c4; have c4b1 : decide (t187.size ≤ 9223372036854775807) = true := decide_eq_true c4
  try have c4b2 : (9223372036854775807 < t187.size) = False := eq_false (Nat.not_lt.2 c4)
  clear c4
  by_cases c5 : (bytesOf t187).length < 140737488355328
  ·rw [if_pos c5] at H; have LMc5 := Aside0.mk c5; clear c5; obtain ⟨y190, hy190⟩ : ∃ y_ : List Int, y_ = ((bytesOf t187) ++ [(a1) % 256]) := ⟨_, rfl⟩; replace H : (sketch_Hash.l0 k 14695981039346656037 y190 (y190.length : Int) 0) = some r := by first | (rw [hy190]; with_reducible exact H) | (have H2_ := (Option.bind_some _ _).symm.trans H; rw [hy190]; with_reducible exact H2_) | (have H2_ := (Option.bind_some _ _).symm.trans H; with_reducible exact H2_) | with_reducible exact H | (rw [hy190]; exact H) | exact H
   have Ny190 := Aside0.mk hy190; clear hy190; have H' := Aside0.mk H; clear H
   go_enter Try.func15, Try.ntmps15
   go_wp2_with (first | ((with_reducible refine gate_dst (N := 2) rfl ?_); refine box_event ?hg (N := 2) ?hd (cs := #[.int .i64 a0_0, .int .i64 a0_1, .string a0_2]) (t := 23) ?hr ?_; (case hd => rfl); (case hg => rfl); (case hr => first | (go_simp; done) | (go_simp; rfl)); intro gb100 hg w6 hbox hb; have n0_ := Aside0.mk (below_step zz2 hb); have n1_ := Aside0.mk (hbox); have n2_ := Aside0.mk ((zz3 : w.heap.size ≤ gb100)); have n3_ := Aside0.mk ((zz3 : w.heap.size ≤ gb100)); clear HB; have HB := n0_; have BK100 := n1_; have GW100 := n2_; have GE100 := n3_; clear n0_ n1_ n2_ n3_; clear hb hbox hg; have hcz7_0 : w6.cell? ⟨gb100, 0, none⟩ = some (.int .i64 a0_0) := cK BK100 0; have hcz7_1 : w6.cell? ⟨gb100, 1, none⟩ = some (.int .i64 a0_1) := cK BK100 1; have hcz7_2 : w6.cell? ⟨gb100, 2, none⟩ = some (.string a0_2) := cK BK100 2; have hfz7_0 := blk_frozen BK100.out 0; have hfz7_1 := blk_frozen BK100.out 1; have hfz7_2 := blk_frozen BK100.out 2) | ((with_reducible refine gate_dst (N := 9) rfl ?_); refine Kd.R_lit k23 _ 23 ?hg (N := 9) ?hd (xs := ([(⟨a0_0, a0_1, a0_2⟩ : S23)] : List (S23))) (inner := [.int .i64 a0_0, .int .i64 a0_1, .string a0_2]) (ok := fun _ => True) (okp := fun _ => True) ?hr ?hp (fun _ hk => hk) trivial (Below.refl _ _) (Nat.le_refl _) (by simp) ?_; (case hd => rfl); (case hg => rfl); (case hr => first | (go_simp; done) | (go_simp; rfl)); (case hp => exact (Reps.c3 (show Kd.M k23 _ _ _ (⟨a0_0, a0_1, a0_2⟩ : S23) [.int .i64 a0_0, .int .i64 a0_1, .string a0_2] from (k23_mkM _ _ _ (⟨a0_0, a0_1, a0_2⟩ : S23) )) (Reps.none _ _))); intro v185 w8 ho9 hb hg_ hnew_; clear hg_ hnew_; (first | rw [← Ny184.out] at ho9 | (simp only [Int.reduceToNat] at ho9; rw [← Ny184.out] at ho9)); have n0_ := Aside0.mk (Kd.R_lower (Kd.R_newB ho9 (g := gb100) (o := .cells #[.int .i64 a0_0, .int .i64 a0_1, .string a0_2] 23 (0, 0)) zz7) (below_size zz5)); have n1_ := Aside0.mk (blk_below (g := gb100) (o := .cells #[.int .i64 a0_0, .int .i64 a0_1, .string a0_2] 23 (0, 0)) zz7 hb); have n2_ := Aside0.mk (below_step zz5 hb); clear BK100; clear HB; have HO101 := n0_; have BK100 := n1_; have HB := n2_; clear n0_ n1_ n2_; clear hb ho9; obtain ⟨Ao10, co10, eo10⟩ := Kd.R_slice HO101.out; subst eo10) | ((with_reducible refine gate_callee (f := 47) rfl ?_); refine goesL_ (some 10) rfl rfl Try.func47 (by kernel_rfl) rfl #[.slice Ao10 y184.length co10] rfl zz6 ?_; (with_reducible refine (value_EncodeRow.calls k _ _ y184 t187 _ ?side1 ?side2 A3.out).mono ?_); (case side1 => repeat (first | exact (Kd.R_reads' HO101.out).2.2 | (with_reducible refine Kd.C_alloc ?_ _) | (with_reducible refine Kd.C_drewN ?_ _) | (with_reducible refine Kd.C_drew ?_))); (case side2 => exact (Kd.R_reads' HO101.out).2.1); rintro e w11 ⟨rfl, hb⟩; refine ⟨_, rfl, ?_⟩; have n0_ := Aside0.mk (Kd.R_below zz21 hb); have n1_ := Aside0.mk (blk_below (g := gb100) (o := .cells #[.int .i64 a0_0, .int .i64 a0_1, .string a0_2] 23 (0, 0)) zz7 hb); have n2_ := Aside0.mk (below_step zz5 hb); clear HO101; clear BK100; clear HB; have HO101 := n0_; have BK100 := n1_; have HB := n2_; clear n0_ n1_ n2_; (try clear hb); (try clear hb2); (try clear hk); (try clear hi)) | ((with_reducible refine gate_dst (N := 11) rfl ?_); refine own_conv_bytes (N := 11) ?hg ?hd 9 71 5 (.tmp 10) ?ho Try.underlying9 Try.underlying71 Try.underlying5 t187 ?hx (of_decide_eq_true zz14) (base := w.heap.size) ?hb_ ?_; (case hb_ => exact ((below_size zz5))); (case hd => rfl); (case hg => rfl); (case ho => rfl); (case hx => first | rfl | (go_simp; done) | (go_simp; rfl)); intro A189 c189 w12 hc_ hb; have n0_ := Aside0.mk (Kd.R_below zz21 hb); have n1_ := Aside0.mk (blk_below (g := gb100) (o := .cells #[.int .i64 a0_0, .int .i64 a0_1, .string a0_2] 23 (0, 0)) zz7 hb); have n2_ := Aside0.mk (below_step zz5 hb); clear HO101; clear BK100; clear HB; have HO101 := n0_; have BK100 := n1_; have HB := n2_; clear n0_ n1_ n2_; have HR102 := Aside0.mk hc_; have HC102 := Aside0.mk hc_.le; clear hb hc_) | ((with_reducible refine gate_builtin (b := .append) (xs := #[.tmp 11, .tmp 14]) rfl ?_); at_builtin; refine own_append_conv (w0 := w) w.heap.size rfl (.tmp 11) (.tmp 14) 71 5 rfl Try.underlying71 info5 A189 c189 (bytesOf t187) ((a1) % 256) rfl rfl ?aC ?aB ?aS ?aL y190 Ny190.out ?_; (case aC => exact zz29); (case aB => exact zz5); (case aS => exact ((below_size zz5))); (case aL => have := LMc5.out; omega); intro A193 c193 w13 hc_ hr_ hb hg; have n0_ := Aside0.mk (blk_grown (g := gb100) (o := .cells #[.int .i64 a0_0, .int .i64 a0_1, .string a0_2] 23 (0, 0)) zz7 hg (ConvRow.away zz29 zz7)); have n1_ := Aside0.mk (ConvRow.R_over zz29 zz21 hg); have n2_ := Aside0.mk (hb); clear BK100; clear HO101; clear HB; clear HR102; have BK100 := n0_; have HO101 := n1_; have HB := n2_; clear n0_ n1_ n2_; have HR103 := Aside0.mk hc_; have HC103 := Aside0.mk hr_; clear hb hc_ hr_ hg))
   go_loopg [5, 17] k (fun kq v5 v17 w' => ∃ (x5_1 : Int) (x17_1 : Int), v5 = .int .u64 x5_1 ∧ v17 = .int .i64 x17_1 ∧ Aside0 (sketch_Hash.l0 kq x5_1 y190 (y190.length : Int) x17_1 = some r) ∧ Aside0 (kq ≤ k) ∧ Aside0 (w'.heap[gb100]? = some (.cells #[.int .i64 a0_0, .int .i64 a0_1, .string a0_2] 23 (0, 0))) ∧ Aside0 (Kd.C (Kd.int .u8) w' A193 y190.length y190) ∧ Aside0 (Below w.heap.size w w'))
   case atStart => exact ⟨(14695981039346656037), (0), zz0, zz0, H', ⟨Nat.le_refl _⟩, ⟨zz7⟩, ⟨zz30⟩, ⟨zz5⟩⟩
   case round =>
    clear H'; (try clear c1); (try clear p2); (try clear c3); (try clear c4); (try clear c4b0); (try clear c4b1); (try clear c4b2); (try clear c5); (try clear hcz7_0); (try clear hcz7_1); (try clear hcz7_2); (try clear hfz7_0); (try clear hfz7_1); (try clear hfz7_2); obtain ⟨x5_1, x17_1, rfl, rfl, HA, HK1, BK100, HR103, HB⟩ := hrel
    cases gk with
    | zero => exact absurd HA.out (by simp [sketch_Hash.l0])
    | succ k1 =>
     have H := HA.out; clear HA; simp only [sketch_Hash.l0] at H
     by_cases c14 : x17_1 < (y190.length : Int)
     ·rw [if_pos c14] at H; have c14b0 : decide (x17_1 < (y190.length : Int)) = true := decide_eq_true c14; clear c14
      by_cases c15 : 0 ≤ x17_1
      ·rw [if_pos c15] at H; have c15b0 : decide (0 ≤ x17_1) = true := decide_eq_true c15; clear c15
       by_cases c16 : x17_1 < (y190.length : Int)
       ·rw [if_pos c16] at H; have c16b0 : decide (x17_1 < (y190.length : Int)) = true := decide_eq_true c16; clear c16; have H' := Aside0.mk H; clear H; have p194 : 0 ≤ (x17_1 : Int) := of_decide_eq_true zz14; have q194 : x17_1 < (y190.length : Int) := of_decide_eq_true zz14; obtain ⟨ad194, e194, hx194_0⟩ := Kd.at_int zz30 x17_1 p194 q194
        cases e194
        replace p194 := eq_true p194; replace q194 := eq_true q194
        go_wp2
        go_roundg k1
        case measure => have := HK1.out; omega
        case rel => exact ⟨(IntKind.u64.wrap ((Go.bits .xor .u64 x5_1 (IntKind.u64.wrap (rd y190 x17_1))) * 1099511628211)), (wrap64 (x17_1 + 1)), zz0, zz0, H', ⟨by have := HK1.out; omega⟩, ⟨zz7⟩, ⟨zz30⟩, ⟨zz5⟩⟩
       ·rw [if_neg c16] at H; exact absurd H (by simp)
      ·rw [if_neg c15] at H; exact absurd H (by simp)
     ·rw [if_neg c14] at H; have c14b0 : decide (x17_1 < (y190.length : Int)) = false := decide_eq_false c14; clear c14; obtain rfl := Option.some.inj H
      go_wp2
      go_ret
      exact ⟨zz4, zz5⟩
  ·rw [if_neg c5] at H; exact absurd H (by simp)
 ·rw [if_neg c4] at H; exact absurd H (by simp)
mutual
def sketch_wellFormed.j0 : Nat → Bool → ByteArray → ByteArray → Int → Int → Int → Int → Option (Bool)
 | 0, _, _, _, _, _, _, _ => none
 | k + 1, x28, x102000, x102001, x102002, x102003, x102004, x102005 => if x28 = true then (some false) else (if x102003 = 0 then (sketch_wellFormed.j1 k x102003 (x102003 == 0) x102000 x102001 x102002 x102003 x102004 x102005) else (sketch_wellFormed.j1 k x102003 (x102003 == 1) x102000 x102001 x102002 x102003 x102004 x102005))
def sketch_wellFormed.j1 : Nat → Int → Bool → ByteArray → ByteArray → Int → Int → Int → Int → Option (Bool)
 | 0, _, _, _, _, _, _, _, _ => none
 | k + 1, x30, x31, x102000, x102001, x102002, x102003, x102004, x102005 => if x31 = true then (some true) else (if x30 = 2 then (some (x102005 == 1)) else (some false))
end
def sketch_wellFormed.f (k : Nat) (a0_0 : ByteArray) (a0_1 : ByteArray) (a0_2 : Int) (a0_3 : Int) (a0_4 : Int) (a0_5 : Int) : Option (Bool) := if a0_4 < 1 then (sketch_wellFormed.j0 k true a0_0 a0_1 a0_2 a0_3 a0_4 a0_5) else (if a0_4 > 1024 then (sketch_wellFormed.j0 k true a0_0 a0_1 a0_2 a0_3 a0_4 a0_5) else (if a0_5 < 1 then (sketch_wellFormed.j0 k true a0_0 a0_1 a0_2 a0_3 a0_4 a0_5) else (if a0_5 > 8 then (sketch_wellFormed.j0 k true a0_0 a0_1 a0_2 a0_3 a0_4 a0_5) else (sketch_wellFormed.j0 k (decide ((wrap64 (a0_4 * a0_5)) > 1024)) a0_0 a0_1 a0_2 a0_3 a0_4 a0_5))))
theorem sketch_wellFormed.mono_l : ∀ k, (∀ y0 y1 y2 y3 y4 y5 y6, LeO (sketch_wellFormed.j0 k y0 y1 y2 y3 y4 y5 y6) (sketch_wellFormed.j0 (k + 1) y0 y1 y2 y3 y4 y5 y6)) ∧ (∀ y0 y1 y2 y3 y4 y5 y6 y7, LeO (sketch_wellFormed.j1 k y0 y1 y2 y3 y4 y5 y6 y7) (sketch_wellFormed.j1 (k + 1) y0 y1 y2 y3 y4 y5 y6 y7))
 | 0 => ⟨fun _ _ _ _ _ _ _ r h => by simp [sketch_wellFormed.j0] at h, fun _ _ _ _ _ _ _ _ r h => by simp [sketch_wellFormed.j1] at h⟩
 | k + 1 => by
  obtain ⟨ih0, ih1⟩ := sketch_wellFormed.mono_l k; refine ⟨?_, ?_⟩
  ·intro y0 y1 y2 y3 y4 y5 y6; unfold sketch_wellFormed.j0
   repeat' first
   | (with_reducible exact ih0 _ _ _ _ _ _ _)
   | (with_reducible exact ih1 _ _ _ _ _ _ _ _)
   | (with_reducible exact LeO.refl _)
   | (with_reducible exact LeO.none _)
   | (with_reducible refine LeO.ite ?_ ?_)
   | (with_reducible refine LeO.bind ?_ (fun _ => ?_))
   | exact ih0 _ _ _ _ _ _ _
   | exact ih1 _ _ _ _ _ _ _ _
   | exact LeO.none _
   | refine LeO.ite ?_ ?_
   | refine LeO.bind ?_ (fun _ => ?_)
  ·intro y0 y1 y2 y3 y4 y5 y6 y7; unfold sketch_wellFormed.j1
   repeat' first
   | (with_reducible exact ih0 _ _ _ _ _ _ _)
   | (with_reducible exact ih1 _ _ _ _ _ _ _ _)
   | (with_reducible exact LeO.refl _)
   | (with_reducible exact LeO.none _)
   | (with_reducible refine LeO.ite ?_ ?_)
   | (with_reducible refine LeO.bind ?_ (fun _ => ?_))
   | exact ih0 _ _ _ _ _ _ _
   | exact ih1 _ _ _ _ _ _ _ _
   | exact LeO.none _
   | refine LeO.ite ?_ ?_
   | refine LeO.bind ?_ (fun _ => ?_)
theorem sketch_wellFormed.mono : ∀ a0 a1 a2 a3 a4 a5 k, LeO (sketch_wellFormed.f k a0 a1 a2 a3 a4 a5) (sketch_wellFormed.f (k + 1) a0 a1 a2 a3 a4 a5) := by
 intro a0 a1 a2 a3 a4 a5 k; obtain ⟨ih0, ih1⟩ := sketch_wellFormed.mono_l k; unfold sketch_wellFormed.f
 repeat' first
   | (with_reducible exact ih0 _ _ _ _ _ _ _)
   | (with_reducible exact ih1 _ _ _ _ _ _ _ _)
   | (with_reducible exact LeO.refl _)
   | (with_reducible exact LeO.none _)
   | (with_reducible refine LeO.ite ?_ ?_)
   | (with_reducible refine LeO.bind ?_ (fun _ => ?_))
   | exact ih0 _ _ _ _ _ _ _
   | exact ih1 _ _ _ _ _ _ _ _
   | exact LeO.none _
   | refine LeO.ite ?_ ?_
   | refine LeO.bind ?_ (fun _ => ?_)
set_option maxHeartbeats 8000000 in
set_option maxRecDepth 100000 in
theorem sketch_wellFormed.calls (k : Nat) (a0_0 : ByteArray) (a0_1 : ByteArray) (a0_2 : Int) (a0_3 : Int) (a0_4 : Int) (a0_5 : Int) (r : Bool) (w : World) (h : sketch_wellFormed.f k a0_0 a0_1 a0_2 a0_3 a0_4 a0_5 = some r) :
  Calls Try.prog 55 #[.agg #[.string a0_0, .string a0_1, .int .i64 a0_2, .int .i64 a0_3, .int .i64 a0_4, .int .i64 a0_5]] w fun e w' => e = .returned (.bool r) ∧ Below w.heap.size w w' := by
 have hu30 := Try.underlying30; have HB := Aside0.mk (Below.refl w.heap.size w); have H : (if a0_4 < 1 then (sketch_wellFormed.j0 k true a0_0 a0_1 a0_2 a0_3 a0_4 a0_5) else (if a0_4 > 1024 then (sketch_wellFormed.j0 k true a0_0 a0_1 a0_2 a0_3 a0_4 a0_5) else (if a0_5 < 1 then (sketch_wellFormed.j0 k true a0_0 a0_1 a0_2 a0_3 a0_4 a0_5) else (if a0_5 > 8 then (sketch_wellFormed.j0 k true a0_0 a0_1 a0_2 a0_3 a0_4 a0_5) else (sketch_wellFormed.j0 k (decide ((wrap64 (a0_4 * a0_5)) > 1024)) a0_0 a0_1 a0_2 a0_3 a0_4 a0_5))))) = some r := h; clear h; have HC2 := Aside0.mk H; clear H
 go_enter Try.func55, Try.ntmps55
 go_upto_region 1 with (first | ((with_reducible refine gate_dst (N := 1) rfl ?_); refine box_event ?hg (N := 1) ?hd (cs := #[.string a0_0, .string a0_1, .int .i64 a0_2, .int .i64 a0_3, .int .i64 a0_4, .int .i64 a0_5]) (t := 30) ?hr ?_; (case hd => rfl); (case hg => rfl); (case hr => first | (go_simp; done) | (go_simp; rfl)); intro gb100 hg w3 hbox hb; have n0_ := Aside0.mk (below_step zz2 hb); have n1_ := Aside0.mk (hbox); have n2_ := Aside0.mk ((zz3 : w.heap.size ≤ gb100)); have n3_ := Aside0.mk ((zz3 : w.heap.size ≤ gb100)); clear HB; have HB := n0_; have BK100 := n1_; have GW100 := n2_; have GE100 := n3_; clear n0_ n1_ n2_ n3_; clear hb hbox hg))
 (try simp only [Act.put, List.setIfInBounds_toArray, List.set_cons_zero, List.set_cons_succ])
 go_cut [28] (fun v28 wc => ∃ (kq : Nat) (x28_1 : Bool), v28 = .bool x28_1 ∧ Aside0 (sketch_wellFormed.j0 kq x28_1 a0_0 a0_1 a0_2 a0_3 a0_4 a0_5 = some r) ∧ Aside0 (kq ≤ k) ∧ Aside0 (wc.heap[gb100]? = some (.cells #[.string a0_0, .string a0_1, .int .i64 a0_2, .int .i64 a0_3, .int .i64 a0_4, .int .i64 a0_5] 30 (0, 0))) ∧ Aside0 (Below w.heap.size w wc))
 case first =>
  have H := HC2.out; clear HC2
  by_cases c4 : a0_4 < 1
  ·rw [if_pos c4] at H; have c4b0 : decide (a0_4 < 1) = true := decide_eq_true c4; clear c4; (first | rw [c4b0] | (simp only [i64_w, i32_w]; rw [c4b0]) | skip); have H' := Aside0.mk H; clear H; have hcz5_0 : w3.cell? ⟨gb100, 0, none⟩ = some (.string a0_0) := cK BK100 0; have hcz5_1 : w3.cell? ⟨gb100, 1, none⟩ = some (.string a0_1) := cK BK100 1; have hcz5_2 : w3.cell? ⟨gb100, 2, none⟩ = some (.int .i64 a0_2) := cK BK100 2; have hcz5_3 : w3.cell? ⟨gb100, 3, none⟩ = some (.int .i64 a0_3) := cK BK100 3; have hcz5_4 : w3.cell? ⟨gb100, 4, none⟩ = some (.int .i64 a0_4) := cK BK100 4; have hcz5_5 : w3.cell? ⟨gb100, 5, none⟩ = some (.int .i64 a0_5) := cK BK100 5; have hfz5_0 := blk_frozen BK100.out 0; have hfz5_1 := blk_frozen BK100.out 1; have hfz5_2 := blk_frozen BK100.out 2; have hfz5_3 := blk_frozen BK100.out 3; have hfz5_4 := blk_frozen BK100.out 4; have hfz5_5 := blk_frozen BK100.out 5
   go_wp2
   go_meet
   case rel => exact ⟨_, (true), zz0, H', ⟨zz31⟩, ⟨zz7⟩, ⟨zz5⟩⟩
  ·rw [if_neg c4] at H; have c4b0 : decide (a0_4 < 1) = false := decide_eq_false c4; clear c4; (first | rw [c4b0] | (simp only [i64_w, i32_w]; rw [c4b0]) | skip)
   by_cases c6 : a0_4 > 1024
   ·rw [if_pos c6] at H; have c6b0 : decide (1024 < a0_4) = true := decide_eq_true c6; clear c6; have H' := Aside0.mk H; clear H; have hcz7_0 : w3.cell? ⟨gb100, 0, none⟩ = some (.string a0_0) := cK BK100 0; have hcz7_1 : w3.cell? ⟨gb100, 1, none⟩ = some (.string a0_1) := cK BK100 1; have hcz7_2 : w3.cell? ⟨gb100, 2, none⟩ = some (.int .i64 a0_2) := cK BK100 2; have hcz7_3 : w3.cell? ⟨gb100, 3, none⟩ = some (.int .i64 a0_3) := cK BK100 3; have hcz7_4 : w3.cell? ⟨gb100, 4, none⟩ = some (.int .i64 a0_4) := cK BK100 4; have hcz7_5 : w3.cell? ⟨gb100, 5, none⟩ = some (.int .i64 a0_5) := cK BK100 5; have hfz7_0 := blk_frozen BK100.out 0; have hfz7_1 := blk_frozen BK100.out 1; have hfz7_2 := blk_frozen BK100.out 2; have hfz7_3 := blk_frozen BK100.out 3; have hfz7_4 := blk_frozen BK100.out 4; have hfz7_5 := blk_frozen BK100.out 5
    go_wp2
    go_meet
    case rel => exact ⟨_, (true), zz0, H', ⟨zz31⟩, ⟨zz7⟩, ⟨zz5⟩⟩
   ·rw [if_neg c6] at H; have c6b0 : decide (1024 < a0_4) = false := decide_eq_false c6; clear c6
    by_cases c8 : a0_5 < 1
    ·rw [if_pos c8] at H; have c8b0 : decide (a0_5 < 1) = true := decide_eq_true c8; clear c8; have H' := Aside0.mk H; clear H; have hcz9_0 : w3.cell? ⟨gb100, 0, none⟩ = some (.string a0_0) := cK BK100 0; have hcz9_1 : w3.cell? ⟨gb100, 1, none⟩ = some (.string a0_1) := cK BK100 1; have hcz9_2 : w3.cell? ⟨gb100, 2, none⟩ = some (.int .i64 a0_2) := cK BK100 2; have hcz9_3 : w3.cell? ⟨gb100, 3, none⟩ = some (.int .i64 a0_3) := cK BK100 3; have hcz9_4 : w3.cell? ⟨gb100, 4, none⟩ = some (.int .i64 a0_4) := cK BK100 4; have hcz9_5 : w3.cell? ⟨gb100, 5, none⟩ = some (.int .i64 a0_5) := cK BK100 5; have hfz9_0 := blk_frozen BK100.out 0; have hfz9_1 := blk_frozen BK100.out 1; have hfz9_2 := blk_frozen BK100.out 2; have hfz9_3 := blk_frozen BK100.out 3; have hfz9_4 := blk_frozen BK100.out 4; have hfz9_5 := blk_frozen BK100.out 5
     go_wp2
     go_meet
     case rel => exact ⟨_, (true), zz0, H', ⟨zz31⟩, ⟨zz7⟩, ⟨zz5⟩⟩
    ·rw [if_neg c8] at H; have c8b0 : decide (a0_5 < 1) = false := decide_eq_false c8; clear c8
     by_cases c10 : a0_5 > 8
     ·rw [if_pos c10] at H; have c10b0 : decide (8 < a0_5) = true := decide_eq_true c10; clear c10; have H' := Aside0.mk H; clear H; have hcz11_0 : w3.cell? ⟨gb100, 0, none⟩ = some (.string a0_0) := cK BK100 0; have hcz11_1 : w3.cell? ⟨gb100, 1, none⟩ = some (.string a0_1) := cK BK100 1; have hcz11_2 : w3.cell? ⟨gb100, 2, none⟩ = some (.int .i64 a0_2) := cK BK100 2; have hcz11_3 : w3.cell? ⟨gb100, 3, none⟩ = some (.int .i64 a0_3) := cK BK100 3; have hcz11_4 : w3.cell? ⟨gb100, 4, none⟩ = some (.int .i64 a0_4) := cK BK100 4; have hcz11_5 : w3.cell? ⟨gb100, 5, none⟩ = some (.int .i64 a0_5) := cK BK100 5; have hfz11_0 := blk_frozen BK100.out 0; have hfz11_1 := blk_frozen BK100.out 1; have hfz11_2 := blk_frozen BK100.out 2; have hfz11_3 := blk_frozen BK100.out 3; have hfz11_4 := blk_frozen BK100.out 4; have hfz11_5 := blk_frozen BK100.out 5
      go_wp2
      go_meet
      case rel => exact ⟨_, (true), zz0, H', ⟨zz31⟩, ⟨zz7⟩, ⟨zz5⟩⟩
     ·rw [if_neg c10] at H; have c10b0 : decide (8 < a0_5) = false := decide_eq_false c10; clear c10; have H' := Aside0.mk H; clear H; have hcz12_0 : w3.cell? ⟨gb100, 0, none⟩ = some (.string a0_0) := cK BK100 0; have hcz12_1 : w3.cell? ⟨gb100, 1, none⟩ = some (.string a0_1) := cK BK100 1; have hcz12_2 : w3.cell? ⟨gb100, 2, none⟩ = some (.int .i64 a0_2) := cK BK100 2; have hcz12_3 : w3.cell? ⟨gb100, 3, none⟩ = some (.int .i64 a0_3) := cK BK100 3; have hcz12_4 : w3.cell? ⟨gb100, 4, none⟩ = some (.int .i64 a0_4) := cK BK100 4; have hcz12_5 : w3.cell? ⟨gb100, 5, none⟩ = some (.int .i64 a0_5) := cK BK100 5; have hfz12_0 := blk_frozen BK100.out 0; have hfz12_1 := blk_frozen BK100.out 1; have hfz12_2 := blk_frozen BK100.out 2; have hfz12_3 := blk_frozen BK100.out 3; have hfz12_4 := blk_frozen BK100.out 4; have hfz12_5 := blk_frozen BK100.out 5
      go_wp2
      go_meet
      case rel => exact ⟨_, (decide ((wrap64 (a0_4 * a0_5)) > 1024)), zz0, H', ⟨zz31⟩, ⟨zz7⟩, ⟨zz5⟩⟩
 case rest =>
  clear HC2; (try clear c1); (try clear p2); (try clear c4); (try clear c4b0); (try clear c5); (try clear c6); (try clear c6b0); (try clear p6); (try clear c8); (try clear c8b0); (try clear c10); (try clear c10b0); (try clear hcz11_0); (try clear hcz11_1); (try clear hcz11_2); (try clear hcz11_3); (try clear hcz11_4); (try clear hcz11_5); (try clear hcz12_0); (try clear hcz12_1); (try clear hcz12_2); (try clear hcz12_3); (try clear hcz12_4); (try clear hcz12_5); (try clear hcz5_0); (try clear hcz5_1); (try clear hcz5_2); (try clear hcz5_3); (try clear hcz5_4); (try clear hcz5_5); (try clear hcz7_0); (try clear hcz7_1); (try clear hcz7_2); (try clear hcz7_3); (try clear hcz7_4); (try clear hcz7_5); (try clear hcz9_0); (try clear hcz9_1); (try clear hcz9_2); (try clear hcz9_3); (try clear hcz9_4); (try clear hcz9_5); (try clear hfz11_0); (try clear hfz11_1); (try clear hfz11_2); (try clear hfz11_3); (try clear hfz11_4); (try clear hfz11_5); (try clear hfz12_0); (try clear hfz12_1); (try clear hfz12_2); (try clear hfz12_3); (try clear hfz12_4); (try clear hfz12_5); (try clear hfz5_0); (try clear hfz5_1); (try clear hfz5_2); (try clear hfz5_3); (try clear hfz5_4); (try clear hfz5_5); (try clear hfz7_0); (try clear hfz7_1); (try clear hfz7_2); (try clear hfz7_3); (try clear hfz7_4); (try clear hfz7_5); (try clear hfz9_0); (try clear hfz9_1); (try clear hfz9_2); (try clear hfz9_3); (try clear hfz9_4); (try clear hfz9_5); obtain ⟨kq, x28_1, rfl, HA, HJ1, BK100, HB⟩ := hcut
  cases kq with
  | zero => exact absurd HA.out (by simp [sketch_wellFormed.j0])
  | succ kj1 =>
   have H := HA.out; clear HA; simp only [sketch_wellFormed.j0] at H
   by_cases c13 : x28_1 = true
   ·subst c13; have H1 : (some false) = some r := by rw [if_pos rfl] at H; exact H
    clear H; have H := H1; clear H1; obtain rfl := Option.some.inj H
    go_wp2
    go_ret
    exact ⟨zz4, zz5⟩
   ·replace c13 := Bool.eq_false_iff.mpr c13; subst c13; have H1 : (if a0_3 = 0 then (sketch_wellFormed.j1 kj1 a0_3 (a0_3 == 0) a0_0 a0_1 a0_2 a0_3 a0_4 a0_5) else (sketch_wellFormed.j1 kj1 a0_3 (a0_3 == 1) a0_0 a0_1 a0_2 a0_3 a0_4 a0_5)) = some r := by rw [if_neg (show ¬ (false = true) by decide)] at H; exact H
    clear H; have H := H1; clear H1; have HC14 := Aside0.mk H; clear H; have hcz15_0 : wc.cell? ⟨gb100, 0, none⟩ = some (.string a0_0) := cK BK100 0; have hcz15_1 : wc.cell? ⟨gb100, 1, none⟩ = some (.string a0_1) := cK BK100 1; have hcz15_2 : wc.cell? ⟨gb100, 2, none⟩ = some (.int .i64 a0_2) := cK BK100 2; have hcz15_3 : wc.cell? ⟨gb100, 3, none⟩ = some (.int .i64 a0_3) := cK BK100 3; have hcz15_4 : wc.cell? ⟨gb100, 4, none⟩ = some (.int .i64 a0_4) := cK BK100 4; have hcz15_5 : wc.cell? ⟨gb100, 5, none⟩ = some (.int .i64 a0_5) := cK BK100 5; have hfz15_0 := blk_frozen BK100.out 0; have hfz15_1 := blk_frozen BK100.out 1; have hfz15_2 := blk_frozen BK100.out 2; have hfz15_3 := blk_frozen BK100.out 3; have hfz15_4 := blk_frozen BK100.out 4; have hfz15_5 := blk_frozen BK100.out 5
    go_upto_if 31 with (fail)
    go_cut [31] (fun v31 wc => ∃ (kq : Nat) (x31_13 : Bool), v31 = .bool x31_13 ∧ Aside0 (sketch_wellFormed.j1 kq a0_3 x31_13 a0_0 a0_1 a0_2 a0_3 a0_4 a0_5 = some r) ∧ Aside0 (kq ≤ kj1) ∧ Aside0 (wc.heap[gb100]? = some (.cells #[.string a0_0, .string a0_1, .int .i64 a0_2, .int .i64 a0_3, .int .i64 a0_4, .int .i64 a0_5] 30 (0, 0))) ∧ Aside0 (Below w.heap.size w wc))
    case first =>
     have H := HC14.out; clear HC14
     by_cases c16 : a0_3 = 0
     ·rw [if_pos c16] at H; have c16b0 : (a0_3 == 0) = true := beq_iff_eq.mpr c16; have c16b1 : (a0_3 != 0) = false := bne_eq_false_iff_eq.mpr c16; clear c16; (first | rw [c16b0] | (simp only [i64_w, i32_w]; rw [c16b0]) | skip); have H' := Aside0.mk H; clear H
      go_wp2
      go_meet
      case rel => exact ⟨_, ((a0_3 == 0)), zz0, H', ⟨by have := HJ1.out; first | omega | exact Nat.le_refl _⟩, ⟨zz7⟩, ⟨zz5⟩⟩
     ·rw [if_neg c16] at H; have c16b0 : (a0_3 == 0) = false := beq_eq_false_iff_ne.mpr c16; have c16b1 : (a0_3 != 0) = true := bne_iff_ne.mpr c16; (first | rw [c16b0] | (simp only [i64_w, i32_w]; rw [c16b0]) | skip); have H' := Aside0.mk H; clear H
      go_wp2
      go_meet
      case rel => exact ⟨_, ((a0_3 == 1)), zz0, H', ⟨by have := HJ1.out; first | omega | exact Nat.le_refl _⟩, ⟨zz7⟩, ⟨zz5⟩⟩
    case rest =>
     clear HC14; (try clear c1); (try clear p2); (try clear c4); (try clear c4b0); (try clear c5); (try clear c6); (try clear c6b0); (try clear p6); (try clear c8); (try clear c8b0); (try clear c10); (try clear c10b0); (try clear c13); (try clear c16); (try clear c16b0); (try clear c16b1); (try clear hcz11_0); (try clear hcz11_1); (try clear hcz11_2); (try clear hcz11_3); (try clear hcz11_4); (try clear hcz11_5); (try clear hcz12_0); (try clear hcz12_1); (try clear hcz12_2); (try clear hcz12_3); (try clear hcz12_4); (try clear hcz12_5); (try clear hcz15_0); (try clear hcz15_1); (try clear hcz15_2); (try clear hcz15_3); (try clear hcz15_4); (try clear hcz15_5); (try clear hcz5_0); (try clear hcz5_1); (try clear hcz5_2); (try clear hcz5_3); (try clear hcz5_4); (try clear hcz5_5); (try clear hcz7_0); (try clear hcz7_1); (try clear hcz7_2); (try clear hcz7_3); (try clear hcz7_4); (try clear hcz7_5); (try clear hcz9_0); (try clear hcz9_1); (try clear hcz9_2); (try clear hcz9_3); (try clear hcz9_4); (try clear hcz9_5); (try clear hfz11_0); (try clear hfz11_1); (try clear hfz11_2); (try clear hfz11_3); (try clear hfz11_4); (try clear hfz11_5); (try clear hfz12_0); (try clear hfz12_1); (try clear hfz12_2); (try clear hfz12_3); (try clear hfz12_4); (try clear hfz12_5); (try clear hfz15_0); (try clear hfz15_1); (try clear hfz15_2); (try clear hfz15_3); (try clear hfz15_4); (try clear hfz15_5); (try clear hfz5_0); (try clear hfz5_1); (try clear hfz5_2); (try clear hfz5_3); (try clear hfz5_4); (try clear hfz5_5); (try clear hfz7_0); (try clear hfz7_1); (try clear hfz7_2); (try clear hfz7_3); (try clear hfz7_4); (try clear hfz7_5); (try clear hfz9_0); (try clear hfz9_1); (try clear hfz9_2); (try clear hfz9_3); (try clear hfz9_4); (try clear hfz9_5); (try clear p2); (try clear p6); obtain ⟨kq, x31_13, rfl, HA, HJ13, BK100, HB⟩ := hcut
     cases kq with
     | zero => exact absurd HA.out (by simp [sketch_wellFormed.j1])
     | succ kj13 =>
      have H := HA.out; clear HA; simp only [sketch_wellFormed.j1] at H
      by_cases c17 : x31_13 = true
      ·subst c17; have H1 : (some true) = some r := by rw [if_pos rfl] at H; exact H
       clear H; have H := H1; clear H1; obtain rfl := Option.some.inj H
       go_wp2
       go_ret
       exact ⟨zz4, zz5⟩
      ·replace c17 := Bool.eq_false_iff.mpr c17; subst c17; have H1 : (if a0_3 = 2 then (some (a0_5 == 1)) else (some false)) = some r := by rw [if_neg (show ¬ (false = true) by decide)] at H; exact H
       clear H; have H := H1; clear H1
       by_cases c18 : a0_3 = 2
       ·rw [if_pos c18] at H; have c18b0 : (a0_3 == 2) = true := beq_iff_eq.mpr c18; have c18b1 : (a0_3 != 2) = false := bne_eq_false_iff_eq.mpr c18; clear c18; obtain rfl := Option.some.inj H; have hcz19_0 : wc.cell? ⟨gb100, 0, none⟩ = some (.string a0_0) := cK BK100 0; have hcz19_1 : wc.cell? ⟨gb100, 1, none⟩ = some (.string a0_1) := cK BK100 1; have hcz19_2 : wc.cell? ⟨gb100, 2, none⟩ = some (.int .i64 a0_2) := cK BK100 2; have hcz19_3 : wc.cell? ⟨gb100, 3, none⟩ = some (.int .i64 a0_3) := cK BK100 3; have hcz19_4 : wc.cell? ⟨gb100, 4, none⟩ = some (.int .i64 a0_4) := cK BK100 4; have hcz19_5 : wc.cell? ⟨gb100, 5, none⟩ = some (.int .i64 a0_5) := cK BK100 5; have hfz19_0 := blk_frozen BK100.out 0; have hfz19_1 := blk_frozen BK100.out 1; have hfz19_2 := blk_frozen BK100.out 2; have hfz19_3 := blk_frozen BK100.out 3; have hfz19_4 := blk_frozen BK100.out 4; have hfz19_5 := blk_frozen BK100.out 5
        go_wp2
        go_ret
        exact ⟨zz4, zz5⟩
       ·rw [if_neg c18] at H; have c18b0 : (a0_3 == 2) = false := beq_eq_false_iff_ne.mpr c18; have c18b1 : (a0_3 != 2) = true := bne_iff_ne.mpr c18; obtain rfl := Option.some.inj H
        go_wp2
        go_ret
        exact ⟨zz4, zz5⟩
def value_ValidRow.l0 : Nat → List (S23) → List (S23) → Int → Int → Option (Bool)
 | 0, _, _, _, _ => none
 | k + 1, x0, x5, x6, x7 => if x7 < x6 then (if 0 ≤ x7 then (if x7 < (x5.length : Int) then ((value_Valid.f ((rd_T23 x5 x7).f0) ((rd_T23 x5 x7).f1) ((rd_T23 x5 x7).f2)).bind fun t106 => (if t106 = true then (value_ValidRow.l0 k x0 x5 x6 (wrap64 (x7 + 1))) else (some false))) else (none)) else (none)) else (some (decide ((x0.length : Int) ≤ 16)))
def value_ValidRow.f (k : Nat) (l0 : List (S23)) : Option (Bool) := value_ValidRow.l0 k l0 l0 (l0.length : Int) 0
theorem value_ValidRow.mono_l : ∀ k, (∀ y0 y1 y2 y3, LeO (value_ValidRow.l0 k y0 y1 y2 y3) (value_ValidRow.l0 (k + 1) y0 y1 y2 y3))
 | 0 => fun _ _ _ _ r h => by simp [value_ValidRow.l0] at h
 | k + 1 => by
  have ih0 := value_ValidRow.mono_l k
  ·intro y0 y1 y2 y3; unfold value_ValidRow.l0
   repeat' first
   | (with_reducible exact ih0 _ _ _ _)
   | (with_reducible exact LeO.refl _)
   | (with_reducible exact LeO.none _)
   | (with_reducible refine LeO.ite ?_ ?_)
   | (with_reducible refine LeO.bind ?_ (fun _ => ?_))
   | exact ih0 _ _ _ _
   | exact LeO.none _
   | refine LeO.ite ?_ ?_
   | refine LeO.bind ?_ (fun _ => ?_)
theorem value_ValidRow.mono : ∀ a0 k, LeO (value_ValidRow.f k a0) (value_ValidRow.f (k + 1) a0) := by
 intro a0 k; have ih0 := value_ValidRow.mono_l k; unfold value_ValidRow.f
 repeat' first
   | (with_reducible exact ih0 _ _ _ _)
   | (with_reducible exact LeO.refl _)
   | (with_reducible exact LeO.none _)
   | (with_reducible refine LeO.ite ?_ ?_)
   | (with_reducible refine LeO.bind ?_ (fun _ => ?_))
   | exact ih0 _ _ _ _
   | exact LeO.none _
   | refine LeO.ite ?_ ?_
   | refine LeO.bind ?_ (fun _ => ?_)
set_option maxHeartbeats 8000000 in
set_option maxRecDepth 100000 in
theorem value_ValidRow.calls (k : Nat) (A0 : Option Addr) (c0 : Nat) (l0 : List (S23)) (r : Bool) (w : World) (hr0 : Kd.C k23 w A0 l0.length l0) (hc0 : l0.length ≤ c0) (h : value_ValidRow.f k l0 = some r) :
  Calls Try.prog 110 #[.slice A0 l0.length c0] w fun e w' => e = .returned (.bool r) ∧ Below w.heap.size w w' := by
 have hu23 := Try.underlying23; have HR0 := Aside0.mk hr0; have HC0 := Aside0.mk hc0; clear hr0 hc0; have HB := Aside0.mk (Below.refl w.heap.size w); have H : (value_ValidRow.l0 k l0 l0 (l0.length : Int) 0) = some r := h; clear h; have H' := Aside0.mk H; clear H
 go_enter Try.func110, Try.ntmps110
 go_wp2
 go_loopg [7] k (fun kq v7 w' => ∃ (x7_1 : Int), v7 = .int .i64 x7_1 ∧ Aside0 (value_ValidRow.l0 kq l0 l0 (l0.length : Int) x7_1 = some r) ∧ Aside0 (kq ≤ k) ∧ Aside0 (Below w.heap.size w w'))
 case atStart => exact ⟨(0), zz0, H', ⟨Nat.le_refl _⟩, ⟨zz2⟩⟩
 case round =>
  clear H'; (try clear c1); obtain ⟨x7_1, rfl, HA, HK1, HB⟩ := hrel
  cases gk with
  | zero => exact absurd HA.out (by simp [value_ValidRow.l0])
  | succ k1 =>
   have H := HA.out; clear HA; simp only [value_ValidRow.l0] at H
   by_cases c2 : x7_1 < (l0.length : Int)
   ·rw [if_pos c2] at H; have c2b0 : decide (x7_1 < (l0.length : Int)) = true := decide_eq_true c2; clear c2
    by_cases c3 : 0 ≤ x7_1
    ·rw [if_pos c3] at H; have c3b0 : decide (0 ≤ x7_1) = true := decide_eq_true c3; clear c3
     by_cases c4 : x7_1 < (l0.length : Int)
     ·rw [if_pos c4] at H; have c4b0 : decide (x7_1 < (l0.length : Int)) = true := decide_eq_true c4; clear c4; replace H := Option.bind_eq_some_iff.mp H; obtain ⟨t106, A50, H⟩ := H; replace H : (if t106 = true then (value_ValidRow.l0 k1 l0 l0 (l0.length : Int) (wrap64 (x7_1 + 1))) else (some false)) = some r := H; have A5 := Aside0.mk A50; clear A50
      by_cases c6 : t106 = true
      ·subst c6; have H1 : (value_ValidRow.l0 k1 l0 l0 (l0.length : Int) (wrap64 (x7_1 + 1))) = some r := by rw [if_pos rfl] at H; exact H
       clear H; have H := H1; clear H1; have H' := Aside0.mk H; clear H; have p104 : 0 ≤ (x7_1 : Int) := of_decide_eq_true zz14; have q104 : x7_1 < (l0.length : Int) := of_decide_eq_true zz14; obtain ⟨ad104, e104, hx104_0, hx104_1, hx104_2⟩ := at_T23 HR0.out x7_1 p104 q104
       cases e104
       replace hx104_0 := cB HB hx104_0; replace hx104_1 := cB HB hx104_1; replace hx104_2 := cB HB hx104_2; replace p104 := eq_true p104; replace q104 := eq_true q104
       go_wp2_with (first | ((with_reducible refine gate_dst (N := 4) rfl ?_); refine box_event ?hg (N := 4) ?hd (cs := #[.int .i64 0, .int .i64 0, .string (⟨#[]⟩ : ByteArray)]) (t := 23) ?hr ?_; (case hd => rfl); (case hg => rfl); (case hr => first | (go_simp; done) | (go_simp; rfl)); intro gb100 hg w7 hbox hb; have n0_ := Aside0.mk (below_step zz2 hb); have n1_ := Aside0.mk (hbox); have n2_ := Aside0.mk ((zz3 : w.heap.size ≤ gb100)); have n3_ := Aside0.mk ((zz3 : w.heap.size ≤ gb100)); clear HB; have HB := n0_; have BK100 := n1_; have GW100 := n2_; have GE100 := n3_; clear n0_ n1_ n2_ n3_; clear hb hbox hg; have hcz8_0 : w7.cell? ⟨gb100, 0, none⟩ = some (.int .i64 0) := cK BK100 0; have hcz8_1 : w7.cell? ⟨gb100, 1, none⟩ = some (.int .i64 0) := cK BK100 1; have hcz8_2 : w7.cell? ⟨gb100, 2, none⟩ = some (.string (⟨#[]⟩ : ByteArray)) := cK BK100 2; have hfz8_0 := blk_frozen BK100.out 0; have hfz8_1 := blk_frozen BK100.out 1; have hfz8_2 := blk_frozen BK100.out 2) | ((with_reducible refine gate_callee (f := 69) rfl ?_); refine goesL_ (some 12) rfl rfl Try.func69 (by kernel_rfl) rfl #[.agg #[.int .i64 ((rd_T23 l0 x7_1).f0), .int .i64 ((rd_T23 l0 x7_1).f1), .string ((rd_T23 l0 x7_1).f2)]] rfl zz6 ?_; (with_reducible refine (value_Valid.calls ((rd_T23 l0 x7_1).f0) ((rd_T23 l0 x7_1).f1) ((rd_T23 l0 x7_1).f2) true _ A5.out).mono ?_); rintro e w9 ⟨rfl, hb⟩; refine ⟨_, rfl, ?_⟩; have n0_ := Aside0.mk (blk_below (g := gb100) (o := .cells #[.int .i64 ((rd_T23 l0 x7_1).f0), .int .i64 ((rd_T23 l0 x7_1).f1), .string ((rd_T23 l0 x7_1).f2)] 23 (0, 0)) (by (with_reducible repeat (first | refine blk_drewN ?_ _ | refine blk_drew ?_ | refine blk_alloc ?_ _)); refine blk_put (cs := #[.int .i64 ((rd_T23 l0 x7_1).f0), .int .i64 ((rd_T23 l0 x7_1).f1), .string (⟨#[]⟩ : ByteArray)]) ?_ 2 _ rfl; (with_reducible repeat (first | refine blk_drewN ?_ _ | refine blk_drew ?_ | refine blk_alloc ?_ _)); refine blk_put (cs := #[.int .i64 ((rd_T23 l0 x7_1).f0), .int .i64 0, .string (⟨#[]⟩ : ByteArray)]) ?_ 1 _ rfl; (with_reducible repeat (first | refine blk_drewN ?_ _ | refine blk_drew ?_ | refine blk_alloc ?_ _)); refine blk_put (cs := #[.int .i64 0, .int .i64 0, .string (⟨#[]⟩ : ByteArray)]) ?_ 0 _ rfl; (with_reducible repeat (first | refine blk_drewN ?_ _ | refine blk_drew ?_ | refine blk_alloc ?_ _)); exact BK100.out) hb); have n1_ := Aside0.mk (below_step zz5 hb); clear BK100; clear HB; have BK100 := n0_; have HB := n1_; clear n0_ n1_; (try clear hb); (try clear hb2); (try clear hk); (try clear hi)))
       go_roundg k1
       case measure => have := HK1.out; omega
       case rel => exact ⟨(wrap64 (x7_1 + 1)), zz0, H', ⟨by have := HK1.out; omega⟩, ⟨zz5⟩⟩
      ·replace c6 := Bool.eq_false_iff.mpr c6; subst c6; have H1 : (some false) = some r := by rw [if_neg (show ¬ (false = true) by decide)] at H; exact H
       clear H; have H := H1; clear H1; obtain rfl := Option.some.inj H; have p104 : 0 ≤ (x7_1 : Int) := of_decide_eq_true zz14; have q104 : x7_1 < (l0.length : Int) := of_decide_eq_true zz14; obtain ⟨ad104, e104, hx104_0, hx104_1, hx104_2⟩ := at_T23 HR0.out x7_1 p104 q104
       cases e104
       replace hx104_0 := cB HB hx104_0; replace hx104_1 := cB HB hx104_1; replace hx104_2 := cB HB hx104_2; replace p104 := eq_true p104; replace q104 := eq_true q104
       go_wp2_with (first | ((with_reducible refine gate_dst (N := 4) rfl ?_); refine box_event ?hg (N := 4) ?hd (cs := #[.int .i64 0, .int .i64 0, .string (⟨#[]⟩ : ByteArray)]) (t := 23) ?hr ?_; (case hd => rfl); (case hg => rfl); (case hr => first | (go_simp; done) | (go_simp; rfl)); intro gb100 hg w10 hbox hb; have n0_ := Aside0.mk (below_step zz2 hb); have n1_ := Aside0.mk (hbox); have n2_ := Aside0.mk ((zz3 : w.heap.size ≤ gb100)); have n3_ := Aside0.mk ((zz3 : w.heap.size ≤ gb100)); clear HB; have HB := n0_; have BK100 := n1_; have GW100 := n2_; have GE100 := n3_; clear n0_ n1_ n2_ n3_; clear hb hbox hg; have hcz11_0 : w10.cell? ⟨gb100, 0, none⟩ = some (.int .i64 0) := cK BK100 0; have hcz11_1 : w10.cell? ⟨gb100, 1, none⟩ = some (.int .i64 0) := cK BK100 1; have hcz11_2 : w10.cell? ⟨gb100, 2, none⟩ = some (.string (⟨#[]⟩ : ByteArray)) := cK BK100 2; have hfz11_0 := blk_frozen BK100.out 0; have hfz11_1 := blk_frozen BK100.out 1; have hfz11_2 := blk_frozen BK100.out 2) | ((with_reducible refine gate_callee (f := 69) rfl ?_); refine goesL_ (some 12) rfl rfl Try.func69 (by kernel_rfl) rfl #[.agg #[.int .i64 ((rd_T23 l0 x7_1).f0), .int .i64 ((rd_T23 l0 x7_1).f1), .string ((rd_T23 l0 x7_1).f2)]] rfl zz6 ?_; (with_reducible refine (value_Valid.calls ((rd_T23 l0 x7_1).f0) ((rd_T23 l0 x7_1).f1) ((rd_T23 l0 x7_1).f2) false _ A5.out).mono ?_); rintro e w12 ⟨rfl, hb⟩; refine ⟨_, rfl, ?_⟩; have n0_ := Aside0.mk (blk_below (g := gb100) (o := .cells #[.int .i64 ((rd_T23 l0 x7_1).f0), .int .i64 ((rd_T23 l0 x7_1).f1), .string ((rd_T23 l0 x7_1).f2)] 23 (0, 0)) (by (with_reducible repeat (first | refine blk_drewN ?_ _ | refine blk_drew ?_ | refine blk_alloc ?_ _)); refine blk_put (cs := #[.int .i64 ((rd_T23 l0 x7_1).f0), .int .i64 ((rd_T23 l0 x7_1).f1), .string (⟨#[]⟩ : ByteArray)]) ?_ 2 _ rfl; (with_reducible repeat (first | refine blk_drewN ?_ _ | refine blk_drew ?_ | refine blk_alloc ?_ _)); refine blk_put (cs := #[.int .i64 ((rd_T23 l0 x7_1).f0), .int .i64 0, .string (⟨#[]⟩ : ByteArray)]) ?_ 1 _ rfl; (with_reducible repeat (first | refine blk_drewN ?_ _ | refine blk_drew ?_ | refine blk_alloc ?_ _)); refine blk_put (cs := #[.int .i64 0, .int .i64 0, .string (⟨#[]⟩ : ByteArray)]) ?_ 0 _ rfl; (with_reducible repeat (first | refine blk_drewN ?_ _ | refine blk_drew ?_ | refine blk_alloc ?_ _)); exact BK100.out) hb); have n1_ := Aside0.mk (below_step zz5 hb); clear BK100; clear HB; have BK100 := n0_; have HB := n1_; clear n0_ n1_; (try clear hb); (try clear hb2); (try clear hk); (try clear hi)))
       go_ret
       exact ⟨zz4, zz5⟩
     ·rw [if_neg c4] at H; exact absurd H (by simp)
    ·rw [if_neg c3] at H; exact absurd H (by simp)
   ·rw [if_neg c2] at H; have c2b0 : decide (x7_1 < (l0.length : Int)) = false := decide_eq_false c2; clear c2; obtain rfl := Option.some.inj H
    go_wp2
    go_ret
    exact ⟨zz4, zz2⟩
def bag_countFits.f (a0 : Int) : Option (Bool) := if a0 ≥ (-262144) then (some (decide (a0 ≤ 262144))) else (some false)
set_option maxHeartbeats 8000000 in
set_option maxRecDepth 100000 in
theorem bag_countFits.calls (a0 : Int) (r : Bool) (w : World) (h : bag_countFits.f a0 = some r) :
  Calls Try.prog 135 #[.int .i64 a0] w fun e w' => e = .returned (.bool r) ∧ Drawn0 w w' := by
 have H : (if a0 ≥ (-262144) then (some (decide (a0 ≤ 262144))) else (some false)) = some r := h; clear h
 by_cases c2 : a0 ≥ (-262144)
 ·rw [if_pos c2] at H; have c2b0 : decide ((-262144) ≤ a0) = true := decide_eq_true c2; clear c2; obtain rfl := Option.some.inj H
  go_enter Try.func135, Try.ntmps135
  go_wp2
  go_ret
  exact ⟨zz0, zz1⟩
 ·rw [if_neg c2] at H; have c2b0 : decide ((-262144) ≤ a0) = false := decide_eq_false c2; clear c2; obtain rfl := Option.some.inj H
  go_enter Try.func135, Try.ntmps135
  go_wp2
  go_ret
  exact ⟨zz0, zz1⟩
def bag_entryFits.f (k : Nat) (l0_0 : List (S23)) (a0_1 : Int) : Option (Bool) := (value_ValidRow.f k l0_0).bind fun t108 => (if t108 = true then ((bag_countFits.f a0_1).bind fun t109 => (some t109)) else (some false))
theorem bag_entryFits.mono : ∀ a0 a1 k, LeO (bag_entryFits.f k a0 a1) (bag_entryFits.f (k + 1) a0 a1) := by
 intro a0 a1 k; unfold bag_entryFits.f
 repeat' first
   | (with_reducible exact value_ValidRow.mono _ _)
   | (with_reducible exact LeO.refl _)
   | (with_reducible exact LeO.none _)
   | (with_reducible refine LeO.ite ?_ ?_)
   | (with_reducible refine LeO.bind ?_ (fun _ => ?_))
   | exact value_ValidRow.mono _ _
   | exact LeO.none _
   | refine LeO.ite ?_ ?_
   | refine LeO.bind ?_ (fun _ => ?_)
set_option maxHeartbeats 8000000 in
set_option maxRecDepth 100000 in
theorem bag_entryFits.calls (k : Nat) (A0_0 : Option Addr) (c0_0 : Nat) (l0_0 : List (S23)) (a0_1 : Int) (r : Bool) (w : World) (hr0_0 : Kd.C k23 w A0_0 l0_0.length l0_0) (hc0_0 : l0_0.length ≤ c0_0) (h : bag_entryFits.f k l0_0 a0_1 = some r) :
  Calls Try.prog 115 #[.agg #[.slice A0_0 l0_0.length c0_0, .int .i64 a0_1]] w fun e w' => e = .returned (.bool r) ∧ Below w.heap.size w w' := by
 have hu51 := Try.underlying51; have HR0_0 := Aside0.mk hr0_0; have HC0_0 := Aside0.mk hc0_0; clear hr0_0 hc0_0; have HB := Aside0.mk (Below.refl w.heap.size w); have H : ((value_ValidRow.f k l0_0).bind fun t108 => (if t108 = true then ((bag_countFits.f a0_1).bind fun t109 => (some t109)) else (some false))) = some r := h; clear h; replace H := Option.bind_eq_some_iff.mp H; obtain ⟨t108, A20, H⟩ := H; replace H : (if t108 = true then ((bag_countFits.f a0_1).bind fun t109 => (some t109)) else (some false)) = some r := H; have A2 := Aside0.mk A20; clear A20
 by_cases c3 : t108 = true
 ·subst c3; have H1 : ((bag_countFits.f a0_1).bind fun t109 => (some t109)) = some r := by rw [if_pos rfl] at H; exact H
  clear H; have H := H1; clear H1; replace H := Option.bind_eq_some_iff.mp H; obtain ⟨t109, A40, H⟩ := H; replace H : (some t109) = some r := H; have A4 := Aside0.mk A40; clear A40; obtain rfl := Option.some.inj H
  go_enter Try.func115, Try.ntmps115
  go_wp2_with (first | ((with_reducible refine gate_dst (N := 1) rfl ?_); refine box_event ?hg (N := 1) ?hd (cs := #[.slice A0_0 l0_0.length c0_0, .int .i64 a0_1]) (t := 51) ?hr ?_; (case hd => rfl); (case hg => rfl); (case hr => first | (go_simp; done) | (go_simp; rfl)); intro gb100 hg w5 hbox hb; have n0_ := Aside0.mk (below_step zz2 hb); have n1_ := Aside0.mk (hbox); have n2_ := Aside0.mk ((zz3 : w.heap.size ≤ gb100)); have n3_ := Aside0.mk ((zz3 : w.heap.size ≤ gb100)); clear HB; have HB := n0_; have BK100 := n1_; have GW100 := n2_; have GE100 := n3_; clear n0_ n1_ n2_ n3_; clear hb hbox hg; have hcz6_0 : w5.cell? ⟨gb100, 0, none⟩ = some (.slice A0_0 l0_0.length c0_0) := cK BK100 0; have hcz6_1 : w5.cell? ⟨gb100, 1, none⟩ = some (.int .i64 a0_1) := cK BK100 1; have hfz6_0 := blk_frozen BK100.out 0; have hfz6_1 := blk_frozen BK100.out 1) | ((with_reducible refine gate_callee (f := 110) rfl ?_); refine goesL_ (some 5) rfl rfl Try.func110 (by kernel_rfl) rfl #[.slice A0_0 l0_0.length c0_0] rfl zz6 ?_; (with_reducible refine (value_ValidRow.calls k _ _ l0_0 true _ ?side1 ?side2 A2.out).mono ?_); (case side1 => repeat (first | exact (Kd.C_below HR0_0.out HB.out) | (with_reducible refine Kd.C_alloc ?_ _) | (with_reducible refine Kd.C_drewN ?_ _) | (with_reducible refine Kd.C_drew ?_))); (case side2 => exact HC0_0.out); rintro e w7 ⟨rfl, hb⟩; refine ⟨_, rfl, ?_⟩; have n0_ := Aside0.mk (blk_below (g := gb100) (o := .cells #[.slice A0_0 l0_0.length c0_0, .int .i64 a0_1] 51 (0, 0)) zz7 hb); have n1_ := Aside0.mk (below_step zz5 hb); clear BK100; clear HB; have BK100 := n0_; have HB := n1_; clear n0_ n1_; (try clear hb); (try clear hb2); (try clear hk); (try clear hi); have hcz8_0 : w7.cell? ⟨gb100, 0, none⟩ = some (.slice A0_0 l0_0.length c0_0) := cK BK100 0; have hcz8_1 : w7.cell? ⟨gb100, 1, none⟩ = some (.int .i64 a0_1) := cK BK100 1; have hfz8_0 := blk_frozen BK100.out 0; have hfz8_1 := blk_frozen BK100.out 1) | (go_at_call 135; (with_reducible refine (bag_countFits.calls a0_1 t109 _ A4.out).mono ?_); rintro e w' ⟨rfl, ⟨nd, rfl⟩⟩))
  go_ret
  exact ⟨zz4, zz5⟩
 ·replace c3 := Bool.eq_false_iff.mpr c3; subst c3; have H1 : (some false) = some r := by rw [if_neg (show ¬ (false = true) by decide)] at H; exact H
  clear H; have H := H1; clear H1; obtain rfl := Option.some.inj H
  go_enter Try.func115, Try.ntmps115
  go_wp2_with (first | ((with_reducible refine gate_dst (N := 1) rfl ?_); refine box_event ?hg (N := 1) ?hd (cs := #[.slice A0_0 l0_0.length c0_0, .int .i64 a0_1]) (t := 51) ?hr ?_; (case hd => rfl); (case hg => rfl); (case hr => first | (go_simp; done) | (go_simp; rfl)); intro gb100 hg w9 hbox hb; have n0_ := Aside0.mk (below_step zz2 hb); have n1_ := Aside0.mk (hbox); have n2_ := Aside0.mk ((zz3 : w.heap.size ≤ gb100)); have n3_ := Aside0.mk ((zz3 : w.heap.size ≤ gb100)); clear HB; have HB := n0_; have BK100 := n1_; have GW100 := n2_; have GE100 := n3_; clear n0_ n1_ n2_ n3_; clear hb hbox hg; have hcz10_0 : w9.cell? ⟨gb100, 0, none⟩ = some (.slice A0_0 l0_0.length c0_0) := cK BK100 0; have hcz10_1 : w9.cell? ⟨gb100, 1, none⟩ = some (.int .i64 a0_1) := cK BK100 1; have hfz10_0 := blk_frozen BK100.out 0; have hfz10_1 := blk_frozen BK100.out 1) | ((with_reducible refine gate_callee (f := 110) rfl ?_); refine goesL_ (some 5) rfl rfl Try.func110 (by kernel_rfl) rfl #[.slice A0_0 l0_0.length c0_0] rfl zz6 ?_; (with_reducible refine (value_ValidRow.calls k _ _ l0_0 false _ ?side1 ?side2 A2.out).mono ?_); (case side1 => repeat (first | exact (Kd.C_below HR0_0.out HB.out) | (with_reducible refine Kd.C_alloc ?_ _) | (with_reducible refine Kd.C_drewN ?_ _) | (with_reducible refine Kd.C_drew ?_))); (case side2 => exact HC0_0.out); rintro e w11 ⟨rfl, hb⟩; refine ⟨_, rfl, ?_⟩; have n0_ := Aside0.mk (blk_below (g := gb100) (o := .cells #[.slice A0_0 l0_0.length c0_0, .int .i64 a0_1] 51 (0, 0)) zz7 hb); have n1_ := Aside0.mk (below_step zz5 hb); clear BK100; clear HB; have BK100 := n0_; have HB := n1_; clear n0_ n1_; (try clear hb); (try clear hb2); (try clear hk); (try clear hi)))
  go_ret
  exact ⟨zz4, zz5⟩
def cmp_isNaN_string.f (a0 : ByteArray) : Option (Bool) := some (a0.toList != a0.toList)
set_option maxHeartbeats 8000000 in
set_option maxRecDepth 100000 in
theorem cmp_isNaN_string.calls (a0 : ByteArray) (r : Bool) (w : World) (h : cmp_isNaN_string.f a0 = some r) :
  Calls Try.prog 152 #[.string a0] w fun e w' => e = .returned (.bool r) ∧ Drawn0 w w' := by
 have H : (some (a0.toList != a0.toList)) = some r := h; clear h; obtain rfl := Option.some.inj H
 go_enter Try.func152, Try.ntmps152
 go_wp2
 go_ret
 exact ⟨zz0, zz1⟩
def cmp_Compare_string.f (a0 : ByteArray) (a1 : ByteArray) : Option (Int) := (cmp_isNaN_string.f a0).bind fun t113 => ((cmp_isNaN_string.f a1).bind fun t114 => (if t113 = true then (if t114 = true then (some 0) else (some (-1))) else (if t114 = true then (some 1) else (if (Op.bytesLess a0.toList a1.toList) = true then (some (-1)) else (if (Op.bytesLess a1.toList a0.toList) = true then (some 1) else (some 0))))))
set_option maxHeartbeats 8000000 in
set_option maxRecDepth 100000 in
theorem cmp_Compare_string.calls (a0 : ByteArray) (a1 : ByteArray) (r : Int) (w : World) (h : cmp_Compare_string.f a0 a1 = some r) :
  Calls Try.prog 134 #[.string a0, .string a1] w fun e w' => e = .returned (.int .i64 r) ∧ Drawn0 w w' := by
 have H : ((cmp_isNaN_string.f a0).bind fun t113 => ((cmp_isNaN_string.f a1).bind fun t114 => (if t113 = true then (if t114 = true then (some 0) else (some (-1))) else (if t114 = true then (some 1) else (if (Op.bytesLess a0.toList a1.toList) = true then (some (-1)) else (if (Op.bytesLess a1.toList a0.toList) = true then (some 1) else (some 0))))))) = some r := h; clear h; replace H := Option.bind_eq_some_iff.mp H; obtain ⟨t113, A30, H⟩ := H; replace H : ((cmp_isNaN_string.f a1).bind fun t114 => (if t113 = true then (if t114 = true then (some 0) else (some (-1))) else (if t114 = true then (some 1) else (if (Op.bytesLess a0.toList a1.toList) = true then (some (-1)) else (if (Op.bytesLess a1.toList a0.toList) = true then (some 1) else (some 0)))))) = some r := H; have A3 := Aside0.mk A30; clear A30; replace H := Option.bind_eq_some_iff.mp H; obtain ⟨t114, A40, H⟩ := H; replace H : (if t113 = true then (if t114 = true then (some 0) else (some (-1))) else (if t114 = true then (some 1) else (if (Op.bytesLess a0.toList a1.toList) = true then (some (-1)) else (if (Op.bytesLess a1.toList a0.toList) = true then (some 1) else (some 0))))) = some r := H; have A4 := Aside0.mk A40; clear A40
 by_cases c5 : t113 = true
 ·subst c5; have H1 : (if t114 = true then (some 0) else (some (-1))) = some r := by rw [if_pos rfl] at H; exact H
  clear H; have H := H1; clear H1
  by_cases c6 : t114 = true
  ·subst c6; have H1 : (some 0) = some r := by rw [if_pos rfl] at H; exact H
   clear H; have H := H1; clear H1; obtain rfl := Option.some.inj H
   go_enter Try.func134, Try.ntmps134
   go_wp2_with (first | ((with_reducible refine gate_callee (f := 152) rfl ?_); refine goesL_ (some 8) rfl rfl Try.func152 (by kernel_rfl) rfl #[.string a0] rfl zz6 ?_; (with_reducible refine (cmp_isNaN_string.calls a0 true _ A3.out).mono ?_); rintro e w' ⟨rfl, ⟨nd, rfl⟩⟩; refine ⟨_, rfl, ?_⟩) | ((with_reducible refine gate_callee (f := 152) rfl ?_); refine goesL_ (some 10) rfl rfl Try.func152 (by kernel_rfl) rfl #[.string a1] rfl zz6 ?_; (with_reducible refine (cmp_isNaN_string.calls a1 true _ A4.out).mono ?_); rintro e w' ⟨rfl, ⟨nd, rfl⟩⟩; refine ⟨_, rfl, ?_⟩))
   go_ret
   exact ⟨zz0, zz1⟩
  ·replace c6 := Bool.eq_false_iff.mpr c6; subst c6; have H1 : (some (-1)) = some r := by rw [if_neg (show ¬ (false = true) by decide)] at H; exact H
   clear H; have H := H1; clear H1; obtain rfl := Option.some.inj H
   go_enter Try.func134, Try.ntmps134
   go_wp2_with (first | ((with_reducible refine gate_callee (f := 152) rfl ?_); refine goesL_ (some 8) rfl rfl Try.func152 (by kernel_rfl) rfl #[.string a0] rfl zz6 ?_; (with_reducible refine (cmp_isNaN_string.calls a0 true _ A3.out).mono ?_); rintro e w' ⟨rfl, ⟨nd, rfl⟩⟩; refine ⟨_, rfl, ?_⟩) | ((with_reducible refine gate_callee (f := 152) rfl ?_); refine goesL_ (some 10) rfl rfl Try.func152 (by kernel_rfl) rfl #[.string a1] rfl zz6 ?_; (with_reducible refine (cmp_isNaN_string.calls a1 false _ A4.out).mono ?_); rintro e w' ⟨rfl, ⟨nd, rfl⟩⟩; refine ⟨_, rfl, ?_⟩))
   go_ret
   exact ⟨zz0, zz1⟩
 ·replace c5 := Bool.eq_false_iff.mpr c5; subst c5; have H1 : (if t114 = true then (some 1) else (if (Op.bytesLess a0.toList a1.toList) = true then (some (-1)) else (if (Op.bytesLess a1.toList a0.toList) = true then (some 1) else (some 0)))) = some r := by rw [if_neg (show ¬ (false = true) by decide)] at H; exact H
  clear H; have H := H1; clear H1
  by_cases c7 : t114 = true
  ·subst c7; have H1 : (some 1) = some r := by rw [if_pos rfl] at H; exact H
   clear H; have H := H1; clear H1; obtain rfl := Option.some.inj H
   go_enter Try.func134, Try.ntmps134
   go_wp2_with (first | ((with_reducible refine gate_callee (f := 152) rfl ?_); refine goesL_ (some 8) rfl rfl Try.func152 (by kernel_rfl) rfl #[.string a0] rfl zz6 ?_; (with_reducible refine (cmp_isNaN_string.calls a0 false _ A3.out).mono ?_); rintro e w' ⟨rfl, ⟨nd, rfl⟩⟩; refine ⟨_, rfl, ?_⟩) | ((with_reducible refine gate_callee (f := 152) rfl ?_); refine goesL_ (some 10) rfl rfl Try.func152 (by kernel_rfl) rfl #[.string a1] rfl zz6 ?_; (with_reducible refine (cmp_isNaN_string.calls a1 true _ A4.out).mono ?_); rintro e w' ⟨rfl, ⟨nd, rfl⟩⟩; refine ⟨_, rfl, ?_⟩))
   go_ret
   exact ⟨zz0, zz1⟩
  ·replace c7 := Bool.eq_false_iff.mpr c7; subst c7; have H1 : (if (Op.bytesLess a0.toList a1.toList) = true then (some (-1)) else (if (Op.bytesLess a1.toList a0.toList) = true then (some 1) else (some 0))) = some r := by rw [if_neg (show ¬ (false = true) by decide)] at H; exact H
   clear H; have H := H1; clear H1
   by_cases c8 : (Op.bytesLess a0.toList a1.toList) = true
   ·rw [if_pos c8] at H; have c8b0 : (Op.bytesLess a0.toList a1.toList) = true := c8; clear c8; obtain rfl := Option.some.inj H
    go_enter Try.func134, Try.ntmps134
    go_wp2_with (first | ((with_reducible refine gate_callee (f := 152) rfl ?_); refine goesL_ (some 8) rfl rfl Try.func152 (by kernel_rfl) rfl #[.string a0] rfl zz6 ?_; (with_reducible refine (cmp_isNaN_string.calls a0 false _ A3.out).mono ?_); rintro e w' ⟨rfl, ⟨nd, rfl⟩⟩; refine ⟨_, rfl, ?_⟩) | ((with_reducible refine gate_callee (f := 152) rfl ?_); refine goesL_ (some 10) rfl rfl Try.func152 (by kernel_rfl) rfl #[.string a1] rfl zz6 ?_; (with_reducible refine (cmp_isNaN_string.calls a1 false _ A4.out).mono ?_); rintro e w' ⟨rfl, ⟨nd, rfl⟩⟩; refine ⟨_, rfl, ?_⟩))
    go_ret
    exact ⟨zz0, zz1⟩
   ·rw [if_neg c8] at H; have c8b0 : (Op.bytesLess a0.toList a1.toList) = false := by simpa using c8
    clear c8
    by_cases c9 : (Op.bytesLess a1.toList a0.toList) = true
    ·rw [if_pos c9] at H; have c9b0 : (Op.bytesLess a1.toList a0.toList) = true := c9; clear c9; obtain rfl := Option.some.inj H
     go_enter Try.func134, Try.ntmps134
     go_wp2_with (first | ((with_reducible refine gate_callee (f := 152) rfl ?_); refine goesL_ (some 8) rfl rfl Try.func152 (by kernel_rfl) rfl #[.string a0] rfl zz6 ?_; (with_reducible refine (cmp_isNaN_string.calls a0 false _ A3.out).mono ?_); rintro e w' ⟨rfl, ⟨nd, rfl⟩⟩; refine ⟨_, rfl, ?_⟩) | ((with_reducible refine gate_callee (f := 152) rfl ?_); refine goesL_ (some 10) rfl rfl Try.func152 (by kernel_rfl) rfl #[.string a1] rfl zz6 ?_; (with_reducible refine (cmp_isNaN_string.calls a1 false _ A4.out).mono ?_); rintro e w' ⟨rfl, ⟨nd, rfl⟩⟩; refine ⟨_, rfl, ?_⟩))
     go_ret
     exact ⟨zz0, zz1⟩
    ·rw [if_neg c9] at H; have c9b0 : (Op.bytesLess a1.toList a0.toList) = false := by simpa using c9
     clear c9; obtain rfl := Option.some.inj H
     go_enter Try.func134, Try.ntmps134
     go_wp2_with (first | ((with_reducible refine gate_callee (f := 152) rfl ?_); refine goesL_ (some 8) rfl rfl Try.func152 (by kernel_rfl) rfl #[.string a0] rfl zz6 ?_; (with_reducible refine (cmp_isNaN_string.calls a0 false _ A3.out).mono ?_); rintro e w' ⟨rfl, ⟨nd, rfl⟩⟩; refine ⟨_, rfl, ?_⟩) | ((with_reducible refine gate_callee (f := 152) rfl ?_); refine goesL_ (some 10) rfl rfl Try.func152 (by kernel_rfl) rfl #[.string a1] rfl zz6 ?_; (with_reducible refine (cmp_isNaN_string.calls a1 false _ A4.out).mono ?_); rintro e w' ⟨rfl, ⟨nd, rfl⟩⟩; refine ⟨_, rfl, ?_⟩))
     go_ret
     exact ⟨zz0, zz1⟩
def cmp_isNaN_int.f (a0 : Int) : Option (Bool) := some (a0 != a0)
set_option maxHeartbeats 8000000 in
set_option maxRecDepth 100000 in
theorem cmp_isNaN_int.calls (a0 : Int) (r : Bool) (w : World) (h : cmp_isNaN_int.f a0 = some r) :
  Calls Try.prog 172 #[.int .i64 a0] w fun e w' => e = .returned (.bool r) ∧ Drawn0 w w' := by
 have H : (some (a0 != a0)) = some r := h; clear h; obtain rfl := Option.some.inj H
 go_enter Try.func172, Try.ntmps172
 go_wp2
 go_ret
 exact ⟨zz0, zz1⟩
def cmp_Compare_int.f (a0 : Int) (a1 : Int) : Option (Int) := (cmp_isNaN_int.f a0).bind fun t115 => ((cmp_isNaN_int.f a1).bind fun t116 => (if t115 = true then (if t116 = true then (some 0) else (some (-1))) else (if t116 = true then (some 1) else (if a0 < a1 then (some (-1)) else (if a0 > a1 then (some 1) else (some 0))))))
set_option maxHeartbeats 8000000 in
set_option maxRecDepth 100000 in
theorem cmp_Compare_int.calls (a0 : Int) (a1 : Int) (r : Int) (w : World) (h : cmp_Compare_int.f a0 a1 = some r) :
  Calls Try.prog 162 #[.int .i64 a0, .int .i64 a1] w fun e w' => e = .returned (.int .i64 r) ∧ Drawn0 w w' := by
 have H : ((cmp_isNaN_int.f a0).bind fun t115 => ((cmp_isNaN_int.f a1).bind fun t116 => (if t115 = true then (if t116 = true then (some 0) else (some (-1))) else (if t116 = true then (some 1) else (if a0 < a1 then (some (-1)) else (if a0 > a1 then (some 1) else (some 0))))))) = some r := h; clear h; replace H := Option.bind_eq_some_iff.mp H; obtain ⟨t115, A30, H⟩ := H; replace H : ((cmp_isNaN_int.f a1).bind fun t116 => (if t115 = true then (if t116 = true then (some 0) else (some (-1))) else (if t116 = true then (some 1) else (if a0 < a1 then (some (-1)) else (if a0 > a1 then (some 1) else (some 0)))))) = some r := H; have A3 := Aside0.mk A30; clear A30; replace H := Option.bind_eq_some_iff.mp H; obtain ⟨t116, A40, H⟩ := H; replace H : (if t115 = true then (if t116 = true then (some 0) else (some (-1))) else (if t116 = true then (some 1) else (if a0 < a1 then (some (-1)) else (if a0 > a1 then (some 1) else (some 0))))) = some r := H; have A4 := Aside0.mk A40; clear A40
 by_cases c5 : t115 = true
 ·subst c5; have H1 : (if t116 = true then (some 0) else (some (-1))) = some r := by rw [if_pos rfl] at H; exact H
  clear H; have H := H1; clear H1
  by_cases c6 : t116 = true
  ·subst c6; have H1 : (some 0) = some r := by rw [if_pos rfl] at H; exact H
   clear H; have H := H1; clear H1; obtain rfl := Option.some.inj H
   go_enter Try.func162, Try.ntmps162
   go_wp2_with (first | ((with_reducible refine gate_callee (f := 172) rfl ?_); refine goesL_ (some 8) rfl rfl Try.func172 (by kernel_rfl) rfl #[.int .i64 a0] rfl zz6 ?_; (with_reducible refine (cmp_isNaN_int.calls a0 true _ A3.out).mono ?_); rintro e w' ⟨rfl, ⟨nd, rfl⟩⟩; refine ⟨_, rfl, ?_⟩) | ((with_reducible refine gate_callee (f := 172) rfl ?_); refine goesL_ (some 10) rfl rfl Try.func172 (by kernel_rfl) rfl #[.int .i64 a1] rfl zz6 ?_; (with_reducible refine (cmp_isNaN_int.calls a1 true _ A4.out).mono ?_); rintro e w' ⟨rfl, ⟨nd, rfl⟩⟩; refine ⟨_, rfl, ?_⟩))
   go_ret
   exact ⟨zz0, zz1⟩
  ·replace c6 := Bool.eq_false_iff.mpr c6; subst c6; have H1 : (some (-1)) = some r := by rw [if_neg (show ¬ (false = true) by decide)] at H; exact H
   clear H; have H := H1; clear H1; obtain rfl := Option.some.inj H
   go_enter Try.func162, Try.ntmps162
   go_wp2_with (first | ((with_reducible refine gate_callee (f := 172) rfl ?_); refine goesL_ (some 8) rfl rfl Try.func172 (by kernel_rfl) rfl #[.int .i64 a0] rfl zz6 ?_; (with_reducible refine (cmp_isNaN_int.calls a0 true _ A3.out).mono ?_); rintro e w' ⟨rfl, ⟨nd, rfl⟩⟩; refine ⟨_, rfl, ?_⟩) | ((with_reducible refine gate_callee (f := 172) rfl ?_); refine goesL_ (some 10) rfl rfl Try.func172 (by kernel_rfl) rfl #[.int .i64 a1] rfl zz6 ?_; (with_reducible refine (cmp_isNaN_int.calls a1 false _ A4.out).mono ?_); rintro e w' ⟨rfl, ⟨nd, rfl⟩⟩; refine ⟨_, rfl, ?_⟩))
   go_ret
   exact ⟨zz0, zz1⟩
 ·replace c5 := Bool.eq_false_iff.mpr c5; subst c5; have H1 : (if t116 = true then (some 1) else (if a0 < a1 then (some (-1)) else (if a0 > a1 then (some 1) else (some 0)))) = some r := by rw [if_neg (show ¬ (false = true) by decide)] at H; exact H
  clear H; have H := H1; clear H1
  by_cases c7 : t116 = true
  ·subst c7; have H1 : (some 1) = some r := by rw [if_pos rfl] at H; exact H
   clear H; have H := H1; clear H1; obtain rfl := Option.some.inj H
   go_enter Try.func162, Try.ntmps162
   go_wp2_with (first | ((with_reducible refine gate_callee (f := 172) rfl ?_); refine goesL_ (some 8) rfl rfl Try.func172 (by kernel_rfl) rfl #[.int .i64 a0] rfl zz6 ?_; (with_reducible refine (cmp_isNaN_int.calls a0 false _ A3.out).mono ?_); rintro e w' ⟨rfl, ⟨nd, rfl⟩⟩; refine ⟨_, rfl, ?_⟩) | ((with_reducible refine gate_callee (f := 172) rfl ?_); refine goesL_ (some 10) rfl rfl Try.func172 (by kernel_rfl) rfl #[.int .i64 a1] rfl zz6 ?_; (with_reducible refine (cmp_isNaN_int.calls a1 true _ A4.out).mono ?_); rintro e w' ⟨rfl, ⟨nd, rfl⟩⟩; refine ⟨_, rfl, ?_⟩))
   go_ret
   exact ⟨zz0, zz1⟩
  ·replace c7 := Bool.eq_false_iff.mpr c7; subst c7; have H1 : (if a0 < a1 then (some (-1)) else (if a0 > a1 then (some 1) else (some 0))) = some r := by rw [if_neg (show ¬ (false = true) by decide)] at H; exact H
   clear H; have H := H1; clear H1
   by_cases c8 : a0 < a1
   ·rw [if_pos c8] at H; have c8b0 : decide (a0 < a1) = true := decide_eq_true c8; clear c8; obtain rfl := Option.some.inj H
    go_enter Try.func162, Try.ntmps162
    go_wp2_with (first | ((with_reducible refine gate_callee (f := 172) rfl ?_); refine goesL_ (some 8) rfl rfl Try.func172 (by kernel_rfl) rfl #[.int .i64 a0] rfl zz6 ?_; (with_reducible refine (cmp_isNaN_int.calls a0 false _ A3.out).mono ?_); rintro e w' ⟨rfl, ⟨nd, rfl⟩⟩; refine ⟨_, rfl, ?_⟩) | ((with_reducible refine gate_callee (f := 172) rfl ?_); refine goesL_ (some 10) rfl rfl Try.func172 (by kernel_rfl) rfl #[.int .i64 a1] rfl zz6 ?_; (with_reducible refine (cmp_isNaN_int.calls a1 false _ A4.out).mono ?_); rintro e w' ⟨rfl, ⟨nd, rfl⟩⟩; refine ⟨_, rfl, ?_⟩))
    go_ret
    exact ⟨zz0, zz1⟩
   ·rw [if_neg c8] at H; have c8b0 : decide (a0 < a1) = false := decide_eq_false c8; clear c8
    by_cases c9 : a0 > a1
    ·rw [if_pos c9] at H; have c9b0 : decide (a1 < a0) = true := decide_eq_true c9; clear c9; obtain rfl := Option.some.inj H
     go_enter Try.func162, Try.ntmps162
     go_wp2_with (first | ((with_reducible refine gate_callee (f := 172) rfl ?_); refine goesL_ (some 8) rfl rfl Try.func172 (by kernel_rfl) rfl #[.int .i64 a0] rfl zz6 ?_; (with_reducible refine (cmp_isNaN_int.calls a0 false _ A3.out).mono ?_); rintro e w' ⟨rfl, ⟨nd, rfl⟩⟩; refine ⟨_, rfl, ?_⟩) | ((with_reducible refine gate_callee (f := 172) rfl ?_); refine goesL_ (some 10) rfl rfl Try.func172 (by kernel_rfl) rfl #[.int .i64 a1] rfl zz6 ?_; (with_reducible refine (cmp_isNaN_int.calls a1 false _ A4.out).mono ?_); rintro e w' ⟨rfl, ⟨nd, rfl⟩⟩; refine ⟨_, rfl, ?_⟩))
     go_ret
     exact ⟨zz0, zz1⟩
    ·rw [if_neg c9] at H; have c9b0 : decide (a1 < a0) = false := decide_eq_false c9; clear c9; obtain rfl := Option.some.inj H
     go_enter Try.func162, Try.ntmps162
     go_wp2_with (first | ((with_reducible refine gate_callee (f := 172) rfl ?_); refine goesL_ (some 8) rfl rfl Try.func172 (by kernel_rfl) rfl #[.int .i64 a0] rfl zz6 ?_; (with_reducible refine (cmp_isNaN_int.calls a0 false _ A3.out).mono ?_); rintro e w' ⟨rfl, ⟨nd, rfl⟩⟩; refine ⟨_, rfl, ?_⟩) | ((with_reducible refine gate_callee (f := 172) rfl ?_); refine goesL_ (some 10) rfl rfl Try.func172 (by kernel_rfl) rfl #[.int .i64 a1] rfl zz6 ?_; (with_reducible refine (cmp_isNaN_int.calls a1 false _ A4.out).mono ?_); rintro e w' ⟨rfl, ⟨nd, rfl⟩⟩; refine ⟨_, rfl, ?_⟩))
     go_ret
     exact ⟨zz0, zz1⟩
def cmp_isNaN_int64.f (a0 : Int) : Option (Bool) := some (a0 != a0)
set_option maxHeartbeats 8000000 in
set_option maxRecDepth 100000 in
theorem cmp_isNaN_int64.calls (a0 : Int) (r : Bool) (w : World) (h : cmp_isNaN_int64.f a0 = some r) :
  Calls Try.prog 167 #[.int .i64 a0] w fun e w' => e = .returned (.bool r) ∧ Drawn0 w w' := by
 have H : (some (a0 != a0)) = some r := h; clear h; obtain rfl := Option.some.inj H
 go_enter Try.func167, Try.ntmps167
 go_wp2
 go_ret
 exact ⟨zz0, zz1⟩
def cmp_Compare_int64.f (a0 : Int) (a1 : Int) : Option (Int) := (cmp_isNaN_int64.f a0).bind fun t117 => ((cmp_isNaN_int64.f a1).bind fun t118 => (if t117 = true then (if t118 = true then (some 0) else (some (-1))) else (if t118 = true then (some 1) else (if a0 < a1 then (some (-1)) else (if a0 > a1 then (some 1) else (some 0))))))
set_option maxHeartbeats 8000000 in
set_option maxRecDepth 100000 in
theorem cmp_Compare_int64.calls (a0 : Int) (a1 : Int) (r : Int) (w : World) (h : cmp_Compare_int64.f a0 a1 = some r) :
  Calls Try.prog 163 #[.int .i64 a0, .int .i64 a1] w fun e w' => e = .returned (.int .i64 r) ∧ Drawn0 w w' := by
 have H : ((cmp_isNaN_int64.f a0).bind fun t117 => ((cmp_isNaN_int64.f a1).bind fun t118 => (if t117 = true then (if t118 = true then (some 0) else (some (-1))) else (if t118 = true then (some 1) else (if a0 < a1 then (some (-1)) else (if a0 > a1 then (some 1) else (some 0))))))) = some r := h; clear h; replace H := Option.bind_eq_some_iff.mp H; obtain ⟨t117, A30, H⟩ := H; replace H : ((cmp_isNaN_int64.f a1).bind fun t118 => (if t117 = true then (if t118 = true then (some 0) else (some (-1))) else (if t118 = true then (some 1) else (if a0 < a1 then (some (-1)) else (if a0 > a1 then (some 1) else (some 0)))))) = some r := H; have A3 := Aside0.mk A30; clear A30; replace H := Option.bind_eq_some_iff.mp H; obtain ⟨t118, A40, H⟩ := H; replace H : (if t117 = true then (if t118 = true then (some 0) else (some (-1))) else (if t118 = true then (some 1) else (if a0 < a1 then (some (-1)) else (if a0 > a1 then (some 1) else (some 0))))) = some r := H; have A4 := Aside0.mk A40; clear A40
 by_cases c5 : t117 = true
 ·subst c5; have H1 : (if t118 = true then (some 0) else (some (-1))) = some r := by rw [if_pos rfl] at H; exact H
  clear H; have H := H1; clear H1
  by_cases c6 : t118 = true
  ·subst c6; have H1 : (some 0) = some r := by rw [if_pos rfl] at H; exact H
   clear H; have H := H1; clear H1; obtain rfl := Option.some.inj H
   go_enter Try.func163, Try.ntmps163
   go_wp2_with (first | ((with_reducible refine gate_callee (f := 167) rfl ?_); refine goesL_ (some 8) rfl rfl Try.func167 (by kernel_rfl) rfl #[.int .i64 a0] rfl zz6 ?_; (with_reducible refine (cmp_isNaN_int64.calls a0 true _ A3.out).mono ?_); rintro e w' ⟨rfl, ⟨nd, rfl⟩⟩; refine ⟨_, rfl, ?_⟩) | ((with_reducible refine gate_callee (f := 167) rfl ?_); refine goesL_ (some 10) rfl rfl Try.func167 (by kernel_rfl) rfl #[.int .i64 a1] rfl zz6 ?_; (with_reducible refine (cmp_isNaN_int64.calls a1 true _ A4.out).mono ?_); rintro e w' ⟨rfl, ⟨nd, rfl⟩⟩; refine ⟨_, rfl, ?_⟩))
   go_ret
   exact ⟨zz0, zz1⟩
  ·replace c6 := Bool.eq_false_iff.mpr c6; subst c6; have H1 : (some (-1)) = some r := by rw [if_neg (show ¬ (false = true) by decide)] at H; exact H
   clear H; have H := H1; clear H1; obtain rfl := Option.some.inj H
   go_enter Try.func163, Try.ntmps163
   go_wp2_with (first | ((with_reducible refine gate_callee (f := 167) rfl ?_); refine goesL_ (some 8) rfl rfl Try.func167 (by kernel_rfl) rfl #[.int .i64 a0] rfl zz6 ?_; (with_reducible refine (cmp_isNaN_int64.calls a0 true _ A3.out).mono ?_); rintro e w' ⟨rfl, ⟨nd, rfl⟩⟩; refine ⟨_, rfl, ?_⟩) | ((with_reducible refine gate_callee (f := 167) rfl ?_); refine goesL_ (some 10) rfl rfl Try.func167 (by kernel_rfl) rfl #[.int .i64 a1] rfl zz6 ?_; (with_reducible refine (cmp_isNaN_int64.calls a1 false _ A4.out).mono ?_); rintro e w' ⟨rfl, ⟨nd, rfl⟩⟩; refine ⟨_, rfl, ?_⟩))
   go_ret
   exact ⟨zz0, zz1⟩
 ·replace c5 := Bool.eq_false_iff.mpr c5; subst c5; have H1 : (if t118 = true then (some 1) else (if a0 < a1 then (some (-1)) else (if a0 > a1 then (some 1) else (some 0)))) = some r := by rw [if_neg (show ¬ (false = true) by decide)] at H; exact H
  clear H; have H := H1; clear H1
  by_cases c7 : t118 = true
  ·subst c7; have H1 : (some 1) = some r := by rw [if_pos rfl] at H; exact H
   clear H; have H := H1; clear H1; obtain rfl := Option.some.inj H
   go_enter Try.func163, Try.ntmps163
   go_wp2_with (first | ((with_reducible refine gate_callee (f := 167) rfl ?_); refine goesL_ (some 8) rfl rfl Try.func167 (by kernel_rfl) rfl #[.int .i64 a0] rfl zz6 ?_; (with_reducible refine (cmp_isNaN_int64.calls a0 false _ A3.out).mono ?_); rintro e w' ⟨rfl, ⟨nd, rfl⟩⟩; refine ⟨_, rfl, ?_⟩) | ((with_reducible refine gate_callee (f := 167) rfl ?_); refine goesL_ (some 10) rfl rfl Try.func167 (by kernel_rfl) rfl #[.int .i64 a1] rfl zz6 ?_; (with_reducible refine (cmp_isNaN_int64.calls a1 true _ A4.out).mono ?_); rintro e w' ⟨rfl, ⟨nd, rfl⟩⟩; refine ⟨_, rfl, ?_⟩))
   go_ret
   exact ⟨zz0, zz1⟩
  ·replace c7 := Bool.eq_false_iff.mpr c7; subst c7; have H1 : (if a0 < a1 then (some (-1)) else (if a0 > a1 then (some 1) else (some 0))) = some r := by rw [if_neg (show ¬ (false = true) by decide)] at H; exact H
   clear H; have H := H1; clear H1
   by_cases c8 : a0 < a1
   ·rw [if_pos c8] at H; have c8b0 : decide (a0 < a1) = true := decide_eq_true c8; clear c8; obtain rfl := Option.some.inj H
    go_enter Try.func163, Try.ntmps163
    go_wp2_with (first | ((with_reducible refine gate_callee (f := 167) rfl ?_); refine goesL_ (some 8) rfl rfl Try.func167 (by kernel_rfl) rfl #[.int .i64 a0] rfl zz6 ?_; (with_reducible refine (cmp_isNaN_int64.calls a0 false _ A3.out).mono ?_); rintro e w' ⟨rfl, ⟨nd, rfl⟩⟩; refine ⟨_, rfl, ?_⟩) | ((with_reducible refine gate_callee (f := 167) rfl ?_); refine goesL_ (some 10) rfl rfl Try.func167 (by kernel_rfl) rfl #[.int .i64 a1] rfl zz6 ?_; (with_reducible refine (cmp_isNaN_int64.calls a1 false _ A4.out).mono ?_); rintro e w' ⟨rfl, ⟨nd, rfl⟩⟩; refine ⟨_, rfl, ?_⟩))
    go_ret
    exact ⟨zz0, zz1⟩
   ·rw [if_neg c8] at H; have c8b0 : decide (a0 < a1) = false := decide_eq_false c8; clear c8
    by_cases c9 : a0 > a1
    ·rw [if_pos c9] at H; have c9b0 : decide (a1 < a0) = true := decide_eq_true c9; clear c9; obtain rfl := Option.some.inj H
     go_enter Try.func163, Try.ntmps163
     go_wp2_with (first | ((with_reducible refine gate_callee (f := 167) rfl ?_); refine goesL_ (some 8) rfl rfl Try.func167 (by kernel_rfl) rfl #[.int .i64 a0] rfl zz6 ?_; (with_reducible refine (cmp_isNaN_int64.calls a0 false _ A3.out).mono ?_); rintro e w' ⟨rfl, ⟨nd, rfl⟩⟩; refine ⟨_, rfl, ?_⟩) | ((with_reducible refine gate_callee (f := 167) rfl ?_); refine goesL_ (some 10) rfl rfl Try.func167 (by kernel_rfl) rfl #[.int .i64 a1] rfl zz6 ?_; (with_reducible refine (cmp_isNaN_int64.calls a1 false _ A4.out).mono ?_); rintro e w' ⟨rfl, ⟨nd, rfl⟩⟩; refine ⟨_, rfl, ?_⟩))
     go_ret
     exact ⟨zz0, zz1⟩
    ·rw [if_neg c9] at H; have c9b0 : decide (a1 < a0) = false := decide_eq_false c9; clear c9; obtain rfl := Option.some.inj H
     go_enter Try.func163, Try.ntmps163
     go_wp2_with (first | ((with_reducible refine gate_callee (f := 167) rfl ?_); refine goesL_ (some 8) rfl rfl Try.func167 (by kernel_rfl) rfl #[.int .i64 a0] rfl zz6 ?_; (with_reducible refine (cmp_isNaN_int64.calls a0 false _ A3.out).mono ?_); rintro e w' ⟨rfl, ⟨nd, rfl⟩⟩; refine ⟨_, rfl, ?_⟩) | ((with_reducible refine gate_callee (f := 167) rfl ?_); refine goesL_ (some 10) rfl rfl Try.func167 (by kernel_rfl) rfl #[.int .i64 a1] rfl zz6 ?_; (with_reducible refine (cmp_isNaN_int64.calls a1 false _ A4.out).mono ?_); rintro e w' ⟨rfl, ⟨nd, rfl⟩⟩; refine ⟨_, rfl, ?_⟩))
     go_ret
     exact ⟨zz0, zz1⟩
end Go.Proofs.Ythicocmnefaioaa.QS

import Derived.Test.YthicocmnefaioaaZo1
namespace Go.Proofs.Ythicocmnefaioaa.QO
open Go.RowKit Go.Proofs.YthicocmnefaioaaW.dw Go.Proofs.YthicocmnefaioaaW.jA Go.Proofs.YthicocmnefaioaaW.lD
open Go.Proofs.YthicocmnefaioaaW.Sq
attribute [local go_sem] oH oF qQ qP nD nC oG oD
set_option linter.unusedVariables false
set_option linter.unusedSimpArgs false
attribute [local go_sem high] jV
def bC.bad (lim n : Int) : Bool := decide (n < 0) || decide (lim < n)
def bC.F8 (l : List Int) (j : Nat) : Bool := decide (0 ≤ l.getD j 0) && decide (l.getD j 0 < 4611686018427387904) && (decide (j = 0) || decide (l.getD (j - 1) 0 < l.getD j 0))
def bC.f (k : Nat) (aX : ByteArray) (aU : ByteArray) (aY : Int) (bJ : Int) (bI : Int) (bK : Int) (l1 : List Int) : Option Bool :=
 (bf.f k aX aU aY bJ bI bK).bind fun b => if b = true then (if bJ = 2 then some ((List.range l1.length).all (bC.F8 l1) && decide ((l1.length : Int) ≤ bI)) else some (decide ((l1.length : Int) = wrap64 (bI * bK)) && !(l1.any (bC.bad (if bJ = 1 then 1 else 1073741824))))) else some false
theorem bC.mono : ∀ a0 a1 a2 a3 a4 a5 a6 k, LeO (bC.f k a0 a1 a2 a3 a4 a5 a6) (bC.f (k + 1) a0 a1 a2 a3 a4 a5 a6) := by
 intro a0 a1 a2 a3 a4 a5 a6 k; unfold bC.f; exact LeO.bind (bf.mono _ _ _ _ _ _ _) (fun _ => LeO.refl _)
theorem bC.clo (n lim : Int) (g : Nat) (w : World) (hc : w.cell? ⟨g, 0, none⟩ = some (.int .i64 lim)) :
  Calls Try.prog 57 #[.int .i64 n, .pointer (some ⟨g, 0, none⟩)] w fun e w' => e = .returned (.bool (bC.bad lim n)) ∧ w' = w := by
 by_cases h1 : n < 0
 ·go_enter Try.func57, Try.ntmps57
  go_wp2
  go_ret
  exact ⟨by simp [bC.bad, h1], rfl⟩
 ·by_cases h2 : lim < n
  ·go_enter Try.func57, Try.ntmps57
   go_wp2
   go_ret
   exact ⟨by simp [bC.bad, h1, h2], rfl⟩
  ·go_enter Try.func57, Try.ntmps57
   go_wp2
   go_ret
   exact ⟨by simp [bC.bad, h1, h2], rfl⟩
def bC.found (l : List Int) (lim : Int) (e : Ending) : Prop := ∃ r : Int, e = .returned (.int .i64 r) ∧ decide (0 ≤ r) = l.any (bC.bad lim)
theorem bC.WG (l : List Int) (p : Int → Bool) (j : Nat) (hj : j < l.length) : (l.take (j + 1)).any p = ((l.take j).any p || p (l.getD j 0)) := by
 rw [List.take_add_one, List.getElem?_eq_getElem hj, List.getD_eq_getElem?_getD, List.getElem?_eq_getElem hj, List.any_append]; simp only [Option.toList, List.any_cons, List.any_nil, Bool.or_false, Option.getD_some]
theorem bC.NY (l : List Int) (p : Int → Bool) (j : Nat) (hj : j < l.length) (h : p (l.getD j 0) = true) : l.any p = true := by
 rw [List.any_eq_true]; refine ⟨l.getD j 0, ?_, h⟩; rw [List.getD_eq_getElem?_getD, List.getElem?_eq_getElem hj]; exact List.getElem_mem hj
set_option maxHeartbeats 1000000 in
theorem bC.idx (l : List Int) (lim : Int) (A : Option Addr) (c g : Nat) (w : World) (hr : Kd.C (Kd.int .i64) w A l.length l) (hc : w.cell? ⟨g, 0, none⟩ = some (.int .i64 lim)) :
  Calls Try.prog 91 #[.slice A l.length c, .func (.func 57) #[] #[.pointer (some ⟨g, 0, none⟩)]] w fun e w' => bC.found l lim e ∧ w' = w := by
 have HR := ah.mk hr; have hm : l.length ≤ 9223372036854775807 := (Kd.sF (d := (0 : Int)) hr).2.1; clear hr
 go_enter Try.func91, Try.ntmps91
 go_wp2
 go_loop [8] (fun v => ∃ j : Nat, j ≤ l.length ∧ v = .int .i64 j ∧ ah ((l.take j).any (bC.bad lim) = false)) (fun v => l.length - (intOf v).toNat)
 case atStart => exact ⟨0, Nat.zero_le _, rfl, ⟨by simp⟩⟩
 case round =>
  obtain ⟨j, hj, rfl, HT⟩ := hrel
  by_cases hlt : j < l.length
  ·obtain ⟨ad, rfl, hx⟩ := Kd.jM HR.out (j : Int) (by omega) (by omega); have hx' : w.cell? (ad.add j) = some (.int .i64 (rd l j)) := by simpa using hx
   clear hx
   by_cases hb : bC.bad lim (rd l j) = true
   ·go_wp2_with (go_at_call 57; refine (bC.clo _ lim g _ hc).mono ?_; rintro e w' ⟨rfl, rfl⟩)
    go_ret
    exact ⟨⟨_, rfl, by rw [bC.NY l _ j hlt (by simpa [rd] using hb)]; simp⟩, rfl⟩
   ·go_wp2_with (go_at_call 57; refine (bC.clo _ lim g _ hc).mono ?_; rintro e w' ⟨rfl, rfl⟩)
    go_round
    case rel => exact ⟨j + 1, by omega, by go_num, ⟨by rw [bC.WG l _ j hlt, HT.out]; simpa [rd] using hb⟩⟩
    case measure => simp [intOf]; omega
  ·have hje : j = l.length := by omega
   subst hje; have hd : decide ((l.length : Int) < (l.length : Int)) = false := by simp
   go_wp2
   go_ret
   exact ⟨⟨_, rfl, by have := HT.out; rw [List.take_length] at this; rw [this]; rfl⟩, rfl⟩
theorem bC.cont (l : List Int) (lim : Int) (A : Option Addr) (c g : Nat) (w : World) (hr : Kd.C (Kd.int .i64) w A l.length l) (hc : w.cell? ⟨g, 0, none⟩ = some (.int .i64 lim)) :
  Calls Try.prog 56 #[.slice A l.length c, .func (.func 57) #[] #[.pointer (some ⟨g, 0, none⟩)]] w fun e w' => e = .returned (.bool (l.any (bC.bad lim))) ∧ w' = w := by
 go_enter Try.func56, Try.ntmps56
 go_wp2_with (go_at_call 91; refine (bC.idx l lim A c g _ hr hc).mono ?_; rintro e w' ⟨⟨r, rfl, hd⟩, rfl⟩; have HD := ah.mk hd; clear hd)
 go_ret
 exact ⟨by rw [← HD.out]; rfl, rfl⟩
theorem bC.all_succ (p : Nat → Bool) (j : Nat) : (List.range (j + 1)).all p = ((List.range j).all p && p j) := by
 rw [List.range_succ, List.all_append]; simp
theorem bC.aaf (p : Nat → Bool) (n j : Nat) (hj : j < n) (h : p j = false) : (List.range n).all p = false := by
 rw [List.all_eq_false]; exact ⟨j, List.mem_range.2 hj, by simp [h]⟩
theorem bC.X9 (l : List Int) (j : Nat) (h0 : 0 < j) (h : l.getD j 0 ≤ l.getD (j - 1) 0) : bC.F8 l j = false := by
 unfold bC.F8; rw [decide_eq_false (by omega : ¬ l.getD (j - 1) 0 < l.getD j 0), decide_eq_false (by omega : ¬ j = 0), Bool.or_false, Bool.and_false]
set_option maxHeartbeats 4000000 in
set_option maxRecDepth 100000 in
theorem bC.calls (k : Nat) (aX : ByteArray) (aU : ByteArray) (aY : Int) (bJ : Int) (bI : Int) (bK : Int) (A1 : Option Addr) (c1 : Nat) (l1 : List Int) (r : Bool) (w : World) (hr1 : Kd.C (Kd.int .i64) w A1 l1.length l1) (hc1 : l1.length ≤ c1) (h : bC.f k aX aU aY bJ bI bK l1 = some r) :
  Calls Try.prog 23 #[.agg #[.string aX, .string aU, .int .i64 aY, .int .i64 bJ, .int .i64 bI, .int .i64 bK], .slice A1 l1.length c1] w fun e w' => e = .returned (.bool r) ∧ Below w.heap.size w w' := by
 have hu := Try.underlying30; obtain ⟨b, hwf, h⟩ := Option.bind_eq_some_iff.1 h; have HW := ah.mk hwf; have HR := ah.mk hr1; have hm : l1.length ≤ 9223372036854775807 := (Kd.sF (d := (0 : Int)) hr1).2.1; clear hwf hr1 hc1
 cases b with
 | false =>
  simp only [Bool.false_eq_true, if_false, Option.some.injEq] at h; subst h
  go_enter Try.func23, Try.ntmps23
  go_wp2_with (go_at_call 55; (with_reducible refine (bf.calls k aX aU aY bJ bI bK false _ HW.out).mono ?_); rintro e w1 ⟨rfl, hb⟩; have HB := ah.mk hb; clear hb)
  go_ret
  exact ⟨rfl, (bY (Below.refl _ _) _).trans (HB.out.mono (by simp))⟩
 | true =>
  simp only [if_true] at h
  by_cases h2 : bJ = 2
  ·subst h2; simp only [if_true, Option.some.injEq] at h
   go_enter Try.func23, Try.ntmps23
   go_wp2_with (go_at_call 55; (with_reducible refine (bf.calls k aX aU aY 2 bI bK true _ HW.out).mono ?_); rintro e w1 ⟨rfl, hb⟩; obtain ⟨hcell, hfroz⟩ := UD hb; have HB := ah.mk hb; clear hb)
   go_loop [16] (fun v => ∃ j : Nat, j ≤ l1.length ∧ v = .int .i64 j ∧ ah ((List.range j).all (bC.F8 l1) = true)) (fun v => l1.length - (intOf v).toNat)
   case atStart => exact ⟨0, Nat.zero_le _, rfl, ⟨by simp⟩⟩
   case round =>
    obtain ⟨j, hj, rfl, HT⟩ := hrel; have HB1 := ah.mk (aA (bY (Below.refl w.heap.size w) _) HB.out); clear HB
    by_cases hlt : j < l1.length
    ·obtain ⟨ad, rfl, hx⟩ := Kd.jM (Kd.eY HR.out HB1.out) (j : Int) (by omega) (by omega); have hx' : w1.cell? (ad.add j) = some (.int .i64 (rd l1 j)) := by simpa using hx
     clear hx; have hrd : rd l1 (j : Int) = l1.getD j 0 := by simp [rd]
     have hno : bC.F8 l1 j = false → r = false := fun hk => by rw [← h, bC.aaf _ _ j hlt hk]; rfl
     have HNO := ah.mk hno; have HD := ah.mk hrd; have H := ah.mk h; clear hno hrd h
     by_cases c1 : rd l1 j < 0
     ·go_wp2
      go_ret
      exact ⟨by rw [HNO.out (by unfold bC.F8; rw [← HD.out]; simp; omega)]; rfl, HB1.out⟩
     ·by_cases c2 : 4611686018427387904 ≤ rd l1 j
      ·go_wp2
       go_ret
       exact ⟨by rw [HNO.out (by unfold bC.F8; rw [← HD.out]; simp; omega)]; rfl, HB1.out⟩
      ·by_cases c3 : 0 < j
       ·obtain ⟨ad2, e2, hy⟩ := Kd.jM (Kd.eY HR.out HB1.out) ((j : Int) - 1) (by omega) (by omega)
        cases e2
        have hy' : w1.cell? (ad.add (j - 1)) = some (.int .i64 (rd l1 ((j : Int) - 1))) := by rw [show j - 1 = ((j : Int) - 1).toNat from by omega]; exact hy
        clear hy; have hrd2 : rd l1 ((j : Int) - 1) = l1.getD (j - 1) 0 := by simp only [rd]; congr 1; omega
        have HD2 := ah.mk hrd2; clear hrd2; have p0 : 0 ≤ (j : Int) - 1 := by omega
        have p1 : (j : Int) - 1 < l1.length := by omega
        by_cases c4 : rd l1 j ≤ rd l1 ((j : Int) - 1)
        ·go_wp2
         go_ret
         exact ⟨by rw [HNO.out (by exact bC.X9 l1 j c3 (by rw [← HD.out, ← HD2.out]; exact c4))]; rfl, HB1.out⟩
        ·go_wp2
         go_round
         case rel => exact ⟨j + 1, by omega, by go_num, ⟨by rw [bC.all_succ, HT.out]; unfold bC.F8; rw [← HD.out, ← HD2.out, decide_eq_true (by omega : 0 ≤ rd l1 (j : Int)), decide_eq_true (by omega : rd l1 (j : Int) < 4611686018427387904), decide_eq_true (by omega : rd l1 ((j : Int) - 1) < rd l1 (j : Int)), Bool.or_true]; rfl⟩⟩
         case measure => simp [intOf]; omega
       ·go_wp2
        go_round
        case rel => exact ⟨j + 1, by omega, by go_num, ⟨by rw [bC.all_succ, HT.out]; unfold bC.F8; rw [← HD.out, decide_eq_true (by omega : 0 ≤ rd l1 (j : Int)), decide_eq_true (by omega : rd l1 (j : Int) < 4611686018427387904), decide_eq_true (by omega : j = 0), Bool.true_or]; rfl⟩⟩
        case measure => simp [intOf]; omega
    ·have hje : j = l1.length := by omega
     subst hje
     go_wp2
     go_ret
     exact ⟨by rw [← h, HT.out]; rfl, HB1.out⟩
  ·rw [if_neg h2] at h; injection h with h
   by_cases h1 : bJ = 1
   ·subst h1; rw [if_pos rfl] at h; have H := ah.mk h; clear h
    by_cases hl : (l1.length : Int) = wrap64 (bI * bK)
    ·have hl1 : ((l1.length : Int) == wrap64 (bI * bK)) = true := by simpa using hl
     have HL := ah.mk hl; clear hl
     go_enter Try.func23, Try.ntmps23
     go_wp2_with (first
      | ((with_reducible refine bD (N := 2) rfl ?_); refine bq ?hg (N := 2) ?hd (cs := #[.string aX, .string aU, .int .i64 aY, .int .i64 1, .int .i64 bI, .int .i64 bK]) (t := 30) ?hr ?_; (case hd => rfl); (case hg => rfl); (case hr => first | (go_simp; done) | (go_simp; rfl)); intro gb hg w1 bF hb; have BK := ah.mk bF; have HB := ah.mk hb; have GE : ah (w.heap.size ≤ gb) := ⟨zz42⟩; clear hb bF hg; have Qy : w1.cell? ⟨gb, 0, none⟩ = some (.string aX) := cK BK 0; have Qv : w1.cell? ⟨gb, 1, none⟩ = some (.string aU) := cK BK 1; have Qs : w1.cell? ⟨gb, 2, none⟩ = some (.int .i64 aY) := cK BK 2; have Qp : w1.cell? ⟨gb, 3, none⟩ = some (.int .i64 1) := cK BK 3; have Qm : w1.cell? ⟨gb, 4, none⟩ = some (.int .i64 bI) := cK BK 4; have Qj : w1.cell? ⟨gb, 5, none⟩ = some (.int .i64 bK) := cK BK 5)
      | (go_at_call 55; (with_reducible refine (bf.calls k aX aU aY 1 bI bK true _ HW.out).mono ?_); rintro e w2 ⟨rfl, hb⟩; have n0_ := ah.mk (aI (g := gb) BK.out hb); have n1_ := ah.mk (aA HB.out hb); clear BK HB hb; have BK := n0_; have HB := n1_; clear n0_ n1_; have Qx : w2.cell? ⟨gb, 0, none⟩ = some (.string aX) := cK BK 0; have Qu : w2.cell? ⟨gb, 1, none⟩ = some (.string aU) := cK BK 1; have Qr : w2.cell? ⟨gb, 2, none⟩ = some (.int .i64 aY) := cK BK 2; have Qo : w2.cell? ⟨gb, 3, none⟩ = some (.int .i64 1) := cK BK 3; have Ql : w2.cell? ⟨gb, 4, none⟩ = some (.int .i64 bI) := cK BK 4; have Qi : w2.cell? ⟨gb, 5, none⟩ = some (.int .i64 bK) := cK BK 5)
      | ((with_reducible refine bD (N := 7) rfl ?_); refine bq ?hg (N := 7) ?hd (cs := #[.int .i64 0]) (t := 2) ?hr ?_; (case hd => rfl); (case hg => rfl); (case hr => first | (go_simp; done) | (go_simp; rfl)); intro gl hg w3 bF hb; have BL := ah.mk bF; have n0_ := ah.mk (aI (g := gb) BK.out hb); have n1_ := ah.mk (aA HB.out hb); have GL : ah (w.heap.size ≤ gl) := ⟨zz43⟩; have hne : gb ≠ gl := zz44; have hne2 : gl ≠ gb := hne.symm; clear BK HB hb bF hg; have BK := n0_; have HB := n1_; clear n0_ n1_; have Qw : w3.cell? ⟨gb, 0, none⟩ = some (.string aX) := cK BK 0; have Qt : w3.cell? ⟨gb, 1, none⟩ = some (.string aU) := cK BK 1; have Qq : w3.cell? ⟨gb, 2, none⟩ = some (.int .i64 aY) := cK BK 2; have Qn : w3.cell? ⟨gb, 3, none⟩ = some (.int .i64 1) := cK BK 3; have Qk : w3.cell? ⟨gb, 4, none⟩ = some (.int .i64 bI) := cK BK 4; have Qh : w3.cell? ⟨gb, 5, none⟩ = some (.int .i64 bK) := cK BK 5; have P9 : w3.cell? ⟨gl, 0, none⟩ = some (.int .i64 0) := cK BL 0; have PZ := aj BL.out 0)
      | (go_at_call 56; refine (bC.cont l1 1 A1 c1 gl _ (Kd.eY HR.out (bS (bS HB.out GL.out) GL.out)) (by go_simp)).mono ?_; rintro e w4 ⟨rfl, rfl⟩))
     go_ret
     exact ⟨by rw [← H.out, decide_eq_true HL.out]; rfl, bS (bS HB.out GL.out) GL.out⟩
    ·have hl1 : ((l1.length : Int) == wrap64 (bI * bK)) = false := by simpa using hl
     have HL := ah.mk hl; clear hl
     go_enter Try.func23, Try.ntmps23
     go_wp2_with (first
      | ((with_reducible refine bD (N := 2) rfl ?_); refine bq ?hg (N := 2) ?hd (cs := #[.string aX, .string aU, .int .i64 aY, .int .i64 1, .int .i64 bI, .int .i64 bK]) (t := 30) ?hr ?_; (case hd => rfl); (case hg => rfl); (case hr => first | (go_simp; done) | (go_simp; rfl)); intro gb hg w1 bF hb; have BK := ah.mk bF; have HB := ah.mk hb; have GE : ah (w.heap.size ≤ gb) := ⟨zz42⟩; clear hb bF hg; have Qy : w1.cell? ⟨gb, 0, none⟩ = some (.string aX) := cK BK 0; have Qv : w1.cell? ⟨gb, 1, none⟩ = some (.string aU) := cK BK 1; have Qs : w1.cell? ⟨gb, 2, none⟩ = some (.int .i64 aY) := cK BK 2; have Qp : w1.cell? ⟨gb, 3, none⟩ = some (.int .i64 1) := cK BK 3; have Qm : w1.cell? ⟨gb, 4, none⟩ = some (.int .i64 bI) := cK BK 4; have Qj : w1.cell? ⟨gb, 5, none⟩ = some (.int .i64 bK) := cK BK 5)
      | (go_at_call 55; (with_reducible refine (bf.calls k aX aU aY 1 bI bK true _ HW.out).mono ?_); rintro e w2 ⟨rfl, hb⟩; have n0_ := ah.mk (aI (g := gb) BK.out hb); have n1_ := ah.mk (aA HB.out hb); clear BK HB hb; have BK := n0_; have HB := n1_; clear n0_ n1_; have Qx : w2.cell? ⟨gb, 0, none⟩ = some (.string aX) := cK BK 0; have Qu : w2.cell? ⟨gb, 1, none⟩ = some (.string aU) := cK BK 1; have Qr : w2.cell? ⟨gb, 2, none⟩ = some (.int .i64 aY) := cK BK 2; have Qo : w2.cell? ⟨gb, 3, none⟩ = some (.int .i64 1) := cK BK 3; have Ql : w2.cell? ⟨gb, 4, none⟩ = some (.int .i64 bI) := cK BK 4; have Qi : w2.cell? ⟨gb, 5, none⟩ = some (.int .i64 bK) := cK BK 5)
      | ((with_reducible refine bD (N := 7) rfl ?_); refine bq ?hg (N := 7) ?hd (cs := #[.int .i64 0]) (t := 2) ?hr ?_; (case hd => rfl); (case hg => rfl); (case hr => first | (go_simp; done) | (go_simp; rfl)); intro gl hg w3 bF hb; have BL := ah.mk bF; have n0_ := ah.mk (aI (g := gb) BK.out hb); have n1_ := ah.mk (aA HB.out hb); have GL : ah (w.heap.size ≤ gl) := ⟨zz43⟩; have hne : gb ≠ gl := zz44; have hne2 : gl ≠ gb := hne.symm; clear BK HB hb bF hg; have BK := n0_; have HB := n1_; clear n0_ n1_; have Qw : w3.cell? ⟨gb, 0, none⟩ = some (.string aX) := cK BK 0; have Qt : w3.cell? ⟨gb, 1, none⟩ = some (.string aU) := cK BK 1; have Qq : w3.cell? ⟨gb, 2, none⟩ = some (.int .i64 aY) := cK BK 2; have Qn : w3.cell? ⟨gb, 3, none⟩ = some (.int .i64 1) := cK BK 3; have Qk : w3.cell? ⟨gb, 4, none⟩ = some (.int .i64 bI) := cK BK 4; have Qh : w3.cell? ⟨gb, 5, none⟩ = some (.int .i64 bK) := cK BK 5; have P9 : w3.cell? ⟨gl, 0, none⟩ = some (.int .i64 0) := cK BL 0; have PZ := aj BL.out 0))
     go_ret
     exact ⟨by rw [← H.out, decide_eq_false HL.out]; rfl, bS (bS HB.out GL.out) GL.out⟩
   ·rw [if_neg h1] at h; have hk1 : (bJ == 1) = false := by simpa using h1
    have hk2 : (bJ == 2) = false := by simpa using h2
    have H := ah.mk h; clear h h1 h2
    by_cases hl : (l1.length : Int) = wrap64 (bI * bK)
    ·have hl1 : ((l1.length : Int) == wrap64 (bI * bK)) = true := by simpa using hl
     have HL := ah.mk hl; clear hl
     go_enter Try.func23, Try.ntmps23
     go_wp2_with (first
      | ((with_reducible refine bD (N := 2) rfl ?_); refine bq ?hg (N := 2) ?hd (cs := #[.string aX, .string aU, .int .i64 aY, .int .i64 bJ, .int .i64 bI, .int .i64 bK]) (t := 30) ?hr ?_; (case hd => rfl); (case hg => rfl); (case hr => first | (go_simp; done) | (go_simp; rfl)); intro gb hg w1 bF hb; have BK := ah.mk bF; have HB := ah.mk hb; have GE : ah (w.heap.size ≤ gb) := ⟨zz42⟩; clear hb bF hg; have Qy : w1.cell? ⟨gb, 0, none⟩ = some (.string aX) := cK BK 0; have Qv : w1.cell? ⟨gb, 1, none⟩ = some (.string aU) := cK BK 1; have Qs : w1.cell? ⟨gb, 2, none⟩ = some (.int .i64 aY) := cK BK 2; have Qp : w1.cell? ⟨gb, 3, none⟩ = some (.int .i64 bJ) := cK BK 3; have Qm : w1.cell? ⟨gb, 4, none⟩ = some (.int .i64 bI) := cK BK 4; have Qj : w1.cell? ⟨gb, 5, none⟩ = some (.int .i64 bK) := cK BK 5)
      | (go_at_call 55; (with_reducible refine (bf.calls k aX aU aY bJ bI bK true _ HW.out).mono ?_); rintro e w2 ⟨rfl, hb⟩; have n0_ := ah.mk (aI (g := gb) BK.out hb); have n1_ := ah.mk (aA HB.out hb); clear BK HB hb; have BK := n0_; have HB := n1_; clear n0_ n1_; have Qx : w2.cell? ⟨gb, 0, none⟩ = some (.string aX) := cK BK 0; have Qu : w2.cell? ⟨gb, 1, none⟩ = some (.string aU) := cK BK 1; have Qr : w2.cell? ⟨gb, 2, none⟩ = some (.int .i64 aY) := cK BK 2; have Qo : w2.cell? ⟨gb, 3, none⟩ = some (.int .i64 bJ) := cK BK 3; have Ql : w2.cell? ⟨gb, 4, none⟩ = some (.int .i64 bI) := cK BK 4; have Qi : w2.cell? ⟨gb, 5, none⟩ = some (.int .i64 bK) := cK BK 5)
      | ((with_reducible refine bD (N := 7) rfl ?_); refine bq ?hg (N := 7) ?hd (cs := #[.int .i64 0]) (t := 2) ?hr ?_; (case hd => rfl); (case hg => rfl); (case hr => first | (go_simp; done) | (go_simp; rfl)); intro gl hg w3 bF hb; have BL := ah.mk bF; have n0_ := ah.mk (aI (g := gb) BK.out hb); have n1_ := ah.mk (aA HB.out hb); have GL : ah (w.heap.size ≤ gl) := ⟨zz43⟩; have hne : gb ≠ gl := zz44; have hne2 : gl ≠ gb := hne.symm; clear BK HB hb bF hg; have BK := n0_; have HB := n1_; clear n0_ n1_; have Qw : w3.cell? ⟨gb, 0, none⟩ = some (.string aX) := cK BK 0; have Qt : w3.cell? ⟨gb, 1, none⟩ = some (.string aU) := cK BK 1; have Qq : w3.cell? ⟨gb, 2, none⟩ = some (.int .i64 aY) := cK BK 2; have Qn : w3.cell? ⟨gb, 3, none⟩ = some (.int .i64 bJ) := cK BK 3; have Qk : w3.cell? ⟨gb, 4, none⟩ = some (.int .i64 bI) := cK BK 4; have Qh : w3.cell? ⟨gb, 5, none⟩ = some (.int .i64 bK) := cK BK 5; have P9 : w3.cell? ⟨gl, 0, none⟩ = some (.int .i64 0) := cK BL 0; have PZ := aj BL.out 0)
      | (go_at_call 56; refine (bC.cont l1 1073741824 A1 c1 gl _ (Kd.eY HR.out (bS HB.out GL.out)) (by go_simp)).mono ?_; rintro e w4 ⟨rfl, rfl⟩))
     go_ret
     exact ⟨by rw [← H.out, decide_eq_true HL.out]; rfl, bS HB.out GL.out⟩
    ·have hl1 : ((l1.length : Int) == wrap64 (bI * bK)) = false := by simpa using hl
     have HL := ah.mk hl; clear hl
     go_enter Try.func23, Try.ntmps23
     go_wp2_with (first
      | ((with_reducible refine bD (N := 2) rfl ?_); refine bq ?hg (N := 2) ?hd (cs := #[.string aX, .string aU, .int .i64 aY, .int .i64 bJ, .int .i64 bI, .int .i64 bK]) (t := 30) ?hr ?_; (case hd => rfl); (case hg => rfl); (case hr => first | (go_simp; done) | (go_simp; rfl)); intro gb hg w1 bF hb; have BK := ah.mk bF; have HB := ah.mk hb; have GE : ah (w.heap.size ≤ gb) := ⟨zz42⟩; clear hb bF hg; have Qy : w1.cell? ⟨gb, 0, none⟩ = some (.string aX) := cK BK 0; have Qv : w1.cell? ⟨gb, 1, none⟩ = some (.string aU) := cK BK 1; have Qs : w1.cell? ⟨gb, 2, none⟩ = some (.int .i64 aY) := cK BK 2; have Qp : w1.cell? ⟨gb, 3, none⟩ = some (.int .i64 bJ) := cK BK 3; have Qm : w1.cell? ⟨gb, 4, none⟩ = some (.int .i64 bI) := cK BK 4; have Qj : w1.cell? ⟨gb, 5, none⟩ = some (.int .i64 bK) := cK BK 5)
      | (go_at_call 55; (with_reducible refine (bf.calls k aX aU aY bJ bI bK true _ HW.out).mono ?_); rintro e w2 ⟨rfl, hb⟩; have n0_ := ah.mk (aI (g := gb) BK.out hb); have n1_ := ah.mk (aA HB.out hb); clear BK HB hb; have BK := n0_; have HB := n1_; clear n0_ n1_; have Qx : w2.cell? ⟨gb, 0, none⟩ = some (.string aX) := cK BK 0; have Qu : w2.cell? ⟨gb, 1, none⟩ = some (.string aU) := cK BK 1; have Qr : w2.cell? ⟨gb, 2, none⟩ = some (.int .i64 aY) := cK BK 2; have Qo : w2.cell? ⟨gb, 3, none⟩ = some (.int .i64 bJ) := cK BK 3; have Ql : w2.cell? ⟨gb, 4, none⟩ = some (.int .i64 bI) := cK BK 4; have Qi : w2.cell? ⟨gb, 5, none⟩ = some (.int .i64 bK) := cK BK 5)
      | ((with_reducible refine bD (N := 7) rfl ?_); refine bq ?hg (N := 7) ?hd (cs := #[.int .i64 0]) (t := 2) ?hr ?_; (case hd => rfl); (case hg => rfl); (case hr => first | (go_simp; done) | (go_simp; rfl)); intro gl hg w3 bF hb; have BL := ah.mk bF; have n0_ := ah.mk (aI (g := gb) BK.out hb); have n1_ := ah.mk (aA HB.out hb); have GL : ah (w.heap.size ≤ gl) := ⟨zz43⟩; have hne : gb ≠ gl := zz44; have hne2 : gl ≠ gb := hne.symm; clear BK HB hb bF hg; have BK := n0_; have HB := n1_; clear n0_ n1_; have Qw : w3.cell? ⟨gb, 0, none⟩ = some (.string aX) := cK BK 0; have Qt : w3.cell? ⟨gb, 1, none⟩ = some (.string aU) := cK BK 1; have Qq : w3.cell? ⟨gb, 2, none⟩ = some (.int .i64 aY) := cK BK 2; have Qn : w3.cell? ⟨gb, 3, none⟩ = some (.int .i64 bJ) := cK BK 3; have Qk : w3.cell? ⟨gb, 4, none⟩ = some (.int .i64 bI) := cK BK 4; have Qh : w3.cell? ⟨gb, 5, none⟩ = some (.int .i64 bK) := cK BK 5; have P9 : w3.cell? ⟨gl, 0, none⟩ = some (.int .i64 0) := cK BL 0; have PZ := aj BL.out 0))
     go_ret
     exact ⟨by rw [← H.out, decide_eq_false HL.out]; rfl, bS HB.out GL.out⟩
def gI.f (k : Nat) (aX : ByteArray) (aU : ByteArray) (aY : Int) (bJ : Int) (bI : Int) (bK : Int) (l1 : List Int) (eD : Int) (fq : Int) (eZ : ByteArray) (a3 : Int) : Option (Bool) := (bC.f k aX aU aY bJ bI bK l1).bind fun t238 => (if t238 = true then ((iM.f eD fq eZ).bind fun t239 => (if t239 = true then (if a3 ≥ 0 then (some (decide (a3 ≤ 262144))) else (some false)) else (some false))) else (some false))
theorem gI.mono : ∀ a0 a1 a2 a3 a4 a5 a6 a7 a8 a9 a10 k, LeO (gI.f k a0 a1 a2 a3 a4 a5 a6 a7 a8 a9 a10) (gI.f (k + 1) a0 a1 a2 a3 a4 a5 a6 a7 a8 a9 a10) := by
 intro a0 a1 a2 a3 a4 a5 a6 a7 a8 a9 a10 k; unfold gI.f
 repeat' first
   | (with_reducible exact bC.mono _ _ _ _ _ _ _ _)
   | (with_reducible exact LeO.refl _)
   | (with_reducible exact LeO.none _)
   | (with_reducible refine LeO.ite ?_ ?_)
   | (with_reducible refine LeO.bind ?_ (fun _ => ?_))
   | exact bC.mono _ _ _ _ _ _ _ _
   | exact LeO.none _
   | refine LeO.ite ?_ ?_
   | refine LeO.bind ?_ (fun _ => ?_)
set_option maxHeartbeats 8000000 in
set_option maxRecDepth 100000 in
theorem gI.calls (k : Nat) (aX : ByteArray) (aU : ByteArray) (aY : Int) (bJ : Int) (bI : Int) (bK : Int) (A1 : Option Addr) (c1 : Nat) (l1 : List Int) (eD : Int) (fq : Int) (eZ : ByteArray) (a3 : Int) (r : Bool) (w : World) (hr1 : Kd.C (Kd.int .i64) w A1 l1.length l1) (hc1 : l1.length ≤ c1) (h : gI.f k aX aU aY bJ bI bK l1 eD fq eZ a3 = some r) :
  Calls Try.prog 65 #[.agg #[.string aX, .string aU, .int .i64 aY, .int .i64 bJ, .int .i64 bI, .int .i64 bK], .slice A1 l1.length c1, .agg #[.int .i64 eD, .int .i64 fq, .string eZ], .int .i64 a3] w fun e w' => e = .returned (.bool r) ∧ Below w.heap.size w w' := by
 have D8 := Try.underlying30; have sJ := Try.underlying23; have HR1 := ah.mk hr1; have HC1 := ah.mk hc1; clear hr1 hc1; have HB := ah.mk (Below.refl w.heap.size w); have H := h; clear h
 dsimp only [gI.f] at H
 replace H := Option.bind_eq_some_iff.mp H; obtain ⟨t238, A50, H⟩ := H; have A5 := ah.mk A50; clear A50
 by_cases c6 : t238 = true
 ·subst c6; rw [if_pos rfl] at H; replace H := Option.bind_eq_some_iff.mp H; obtain ⟨t239, A70, H⟩ := H; have A7 := ah.mk A70; clear A70
  by_cases c8 : t239 = true
  ·subst c8; rw [if_pos rfl] at H
   by_cases c9 : a3 ≥ 0
   ·rw [if_pos c9] at H; have xV : decide (0 ≤ a3) = true := decide_eq_true c9; clear c9; obtain rfl := Option.some.inj H
    go_enter Try.func65, Try.ntmps65
    go_wp2_with (first | ((with_reducible refine bD (N := 4) rfl ?_); refine bq ?hg (N := 4) ?hd (cs := #[.string aX, .string aU, .int .i64 aY, .int .i64 bJ, .int .i64 bI, .int .i64 bK]) (t := 30) ?hr ?_; (case hd => rfl); (case hg => rfl); (case hr => first | (go_simp; done) | (go_simp; rfl)); intro au hg w10 bF hb; have ak := ah.mk (bF); have fO := ah.mk ((zz0 : w.heap.size ≤ au)); have fD := ah.mk ((zz0 : w.heap.size ≤ au)); replace HB := ah.mk (aA zz1 hb); clear hb bF hg) | ((with_reducible refine bD (N := 6) rfl ?_); refine bq ?hg (N := 6) ?hd (cs := #[.int .i64 eD, .int .i64 fq, .string eZ]) (t := 23) ?hr ?_; (case hd => rfl); (case hg => rfl); (case hr => first | (go_simp; done) | (go_simp; rfl)); intro ay hg w11 bF hb; have av := ah.mk (bF); have iX := ah.mk ((jK : w.heap.size ≤ ay)); have iC := ah.mk ((jK : w.heap.size ≤ ay)); replace HB := ah.mk (aA zz5 hb); have aQ := ah.mk ((zB : au ≠ ay)); have aW := ah.mk ((zA : ay ≠ au)); replace ak := ah.mk (aI (g := au) (o := .cells #[.string aX, .string aU, .int .i64 aY, .int .i64 bJ, .int .i64 bI, .int .i64 bK] 30 (0, 0)) zz4 hb); clear hb bF hg; have hnb12 := aQ.out; have hnc12 := aW.out; have rR : w11.cell? ⟨au, 0, none⟩ = some (.string aX) := cK ak 0; have rQ : w11.cell? ⟨au, 1, none⟩ = some (.string aU) := cK ak 1; have rP : w11.cell? ⟨au, 2, none⟩ = some (.int .i64 aY) := cK ak 2; have Ld : w11.cell? ⟨au, 3, none⟩ = some (.int .i64 bJ) := cK ak 3; have Lc : w11.cell? ⟨au, 4, none⟩ = some (.int .i64 bI) := cK ak 4; have Lb : w11.cell? ⟨au, 5, none⟩ = some (.int .i64 bK) := cK ak 5; have rM := aj ak.out 0; have rJ := aj ak.out 1; have rH := aj ak.out 2; have KI := aj ak.out 3; have KH := aj ak.out 4; have KG := aj ak.out 5) | ((with_reducible refine aT (f := 23) rfl ?_); refine cu (some 11) rfl rfl Try.func23 (by kernel_rfl) rfl #[.agg #[.string aX, .string aU, .int .i64 aY, .int .i64 bJ, .int .i64 bI, .int .i64 bK], .slice A1 l1.length c1] rfl zz8 ?_; (with_reducible refine (bC.calls k aX aU aY bJ bI bK _ _ l1 true _ ?bZ ?cO A5.out).mono ?_); (case bZ => repeat (first | exact (Kd.eY HR1.out HB.out) | (with_reducible refine Kd.dW ?_ _) | (with_reducible refine Kd.d9 ?_ _) | (with_reducible refine Kd.eT ?_))); (case cO => exact HC1.out); rintro e w14 ⟨rfl, hb⟩; refine ⟨_, rfl, ?_⟩; replace ak := ah.mk (aI (g := au) (o := .cells #[.string aX, .string aU, .int .i64 aY, .int .i64 bJ, .int .i64 bI, .int .i64 bK] 30 (0, 0)) zz4 hb); replace av := ah.mk (aI (g := ay) (o := .cells #[.int .i64 eD, .int .i64 fq, .string eZ] 23 (0, 0)) fK hb); replace HB := ah.mk (aA fF hb); (try clear hb); (try clear hb2); (try clear hk); (try clear hi); have La : w14.cell? ⟨ay, 0, none⟩ = some (.int .i64 eD) := cK av 0; have K9 : w14.cell? ⟨ay, 1, none⟩ = some (.int .i64 fq) := cK av 1; have K8 : w14.cell? ⟨ay, 2, none⟩ = some (.string eZ) := cK av 2; have KF := aj av.out 0; have KE := aj av.out 1; have KD := aj av.out 2) | (go_at_call 69; (with_reducible refine (iM.calls eD fq eZ true _ A7.out).mono ?_); rintro e w16 ⟨rfl, hb⟩; replace ak := ah.mk (aI (g := au) (o := .cells #[.string aX, .string aU, .int .i64 aY, .int .i64 bJ, .int .i64 bI, .int .i64 bK] 30 (0, 0)) zz4 hb); replace av := ah.mk (aI (g := ay) (o := .cells #[.int .i64 eD, .int .i64 fq, .string eZ] 23 (0, 0)) fK hb); replace HB := ah.mk (aA fF hb); (try clear hb); (try clear hb2); (try clear hk); (try clear hi)))
    go_ret
    exact ⟨zz6, fF⟩
   ·rw [if_neg c9] at H; have xV : decide (0 ≤ a3) = false := decide_eq_false c9; clear c9; obtain rfl := Option.some.inj H
    go_enter Try.func65, Try.ntmps65
    go_wp2_with (first | ((with_reducible refine bD (N := 4) rfl ?_); refine bq ?hg (N := 4) ?hd (cs := #[.string aX, .string aU, .int .i64 aY, .int .i64 bJ, .int .i64 bI, .int .i64 bK]) (t := 30) ?hr ?_; (case hd => rfl); (case hg => rfl); (case hr => first | (go_simp; done) | (go_simp; rfl)); intro au hg w17 bF hb; have ak := ah.mk (bF); have fO := ah.mk ((zz0 : w.heap.size ≤ au)); have fD := ah.mk ((zz0 : w.heap.size ≤ au)); replace HB := ah.mk (aA zz1 hb); clear hb bF hg) | ((with_reducible refine bD (N := 6) rfl ?_); refine bq ?hg (N := 6) ?hd (cs := #[.int .i64 eD, .int .i64 fq, .string eZ]) (t := 23) ?hr ?_; (case hd => rfl); (case hg => rfl); (case hr => first | (go_simp; done) | (go_simp; rfl)); intro ay hg w18 bF hb; have av := ah.mk (bF); have iX := ah.mk ((jK : w.heap.size ≤ ay)); have iC := ah.mk ((jK : w.heap.size ≤ ay)); replace HB := ah.mk (aA zz5 hb); have aQ := ah.mk ((zB : au ≠ ay)); have aW := ah.mk ((zA : ay ≠ au)); replace ak := ah.mk (aI (g := au) (o := .cells #[.string aX, .string aU, .int .i64 aY, .int .i64 bJ, .int .i64 bI, .int .i64 bK] 30 (0, 0)) zz4 hb); clear hb bF hg; have hnb19 := aQ.out; have hnc19 := aW.out; have oZ : w18.cell? ⟨au, 0, none⟩ = some (.string aX) := cK ak 0; have oW : w18.cell? ⟨au, 1, none⟩ = some (.string aU) := cK ak 1; have rO : w18.cell? ⟨au, 2, none⟩ = some (.int .i64 aY) := cK ak 2; have K4 : w18.cell? ⟨au, 3, none⟩ = some (.int .i64 bJ) := cK ak 3; have K3 : w18.cell? ⟨au, 4, none⟩ = some (.int .i64 bI) := cK ak 4; have KZ : w18.cell? ⟨au, 5, none⟩ = some (.int .i64 bK) := cK ak 5; have qx := aj ak.out 0; have oK := aj ak.out 1; have rG := aj ak.out 2; have Ky := aj ak.out 3; have Kw := aj ak.out 4; have Kv := aj ak.out 5) | ((with_reducible refine aT (f := 23) rfl ?_); refine cu (some 11) rfl rfl Try.func23 (by kernel_rfl) rfl #[.agg #[.string aX, .string aU, .int .i64 aY, .int .i64 bJ, .int .i64 bI, .int .i64 bK], .slice A1 l1.length c1] rfl zz8 ?_; (with_reducible refine (bC.calls k aX aU aY bJ bI bK _ _ l1 true _ ?bZ ?cO A5.out).mono ?_); (case bZ => repeat (first | exact (Kd.eY HR1.out HB.out) | (with_reducible refine Kd.dW ?_ _) | (with_reducible refine Kd.d9 ?_ _) | (with_reducible refine Kd.eT ?_))); (case cO => exact HC1.out); rintro e w21 ⟨rfl, hb⟩; refine ⟨_, rfl, ?_⟩; replace ak := ah.mk (aI (g := au) (o := .cells #[.string aX, .string aU, .int .i64 aY, .int .i64 bJ, .int .i64 bI, .int .i64 bK] 30 (0, 0)) zz4 hb); replace av := ah.mk (aI (g := ay) (o := .cells #[.int .i64 eD, .int .i64 fq, .string eZ] 23 (0, 0)) fK hb); replace HB := ah.mk (aA fF hb); (try clear hb); (try clear hb2); (try clear hk); (try clear hi); have Fx : w21.cell? ⟨ay, 0, none⟩ = some (.int .i64 eD) := cK av 0; have Fw : w21.cell? ⟨ay, 1, none⟩ = some (.int .i64 fq) := cK av 1; have Fv : w21.cell? ⟨ay, 2, none⟩ = some (.string eZ) := cK av 2; have ET := aj av.out 0; have ES := aj av.out 1; have ER := aj av.out 2) | (go_at_call 69; (with_reducible refine (iM.calls eD fq eZ true _ A7.out).mono ?_); rintro e w23 ⟨rfl, hb⟩; replace ak := ah.mk (aI (g := au) (o := .cells #[.string aX, .string aU, .int .i64 aY, .int .i64 bJ, .int .i64 bI, .int .i64 bK] 30 (0, 0)) zz4 hb); replace av := ah.mk (aI (g := ay) (o := .cells #[.int .i64 eD, .int .i64 fq, .string eZ] 23 (0, 0)) fK hb); replace HB := ah.mk (aA fF hb); (try clear hb); (try clear hb2); (try clear hk); (try clear hi)))
    go_ret
    exact ⟨zz6, fF⟩
  ·replace c8 := Bool.eq_false_iff.mpr c8; subst c8; rw [if_neg (show ¬ (false = true) by decide)] at H; obtain rfl := Option.some.inj H
   go_enter Try.func65, Try.ntmps65
   go_wp2_with (first | ((with_reducible refine bD (N := 4) rfl ?_); refine bq ?hg (N := 4) ?hd (cs := #[.string aX, .string aU, .int .i64 aY, .int .i64 bJ, .int .i64 bI, .int .i64 bK]) (t := 30) ?hr ?_; (case hd => rfl); (case hg => rfl); (case hr => first | (go_simp; done) | (go_simp; rfl)); intro au hg w24 bF hb; have ak := ah.mk (bF); have fO := ah.mk ((zz0 : w.heap.size ≤ au)); have fD := ah.mk ((zz0 : w.heap.size ≤ au)); replace HB := ah.mk (aA zz1 hb); clear hb bF hg) | ((with_reducible refine bD (N := 6) rfl ?_); refine bq ?hg (N := 6) ?hd (cs := #[.int .i64 eD, .int .i64 fq, .string eZ]) (t := 23) ?hr ?_; (case hd => rfl); (case hg => rfl); (case hr => first | (go_simp; done) | (go_simp; rfl)); intro ay hg w25 bF hb; have av := ah.mk (bF); have iX := ah.mk ((jK : w.heap.size ≤ ay)); have iC := ah.mk ((jK : w.heap.size ≤ ay)); replace HB := ah.mk (aA zz5 hb); have aQ := ah.mk ((zB : au ≠ ay)); have aW := ah.mk ((zA : ay ≠ au)); replace ak := ah.mk (aI (g := au) (o := .cells #[.string aX, .string aU, .int .i64 aY, .int .i64 bJ, .int .i64 bI, .int .i64 bK] 30 (0, 0)) zz4 hb); clear hb bF hg; have hnb26 := aQ.out; have hnc26 := aW.out; have yX : w25.cell? ⟨au, 0, none⟩ = some (.string aX) := cK ak 0; have yV : w25.cell? ⟨au, 1, none⟩ = some (.string aU) := cK ak 1; have yU : w25.cell? ⟨au, 2, none⟩ = some (.int .i64 aY) := cK ak 2; have KR : w25.cell? ⟨au, 3, none⟩ = some (.int .i64 bJ) := cK ak 3; have KQ : w25.cell? ⟨au, 4, none⟩ = some (.int .i64 bI) := cK ak 4; have KP : w25.cell? ⟨au, 5, none⟩ = some (.int .i64 bK) := cK ak 5; have yJ := aj ak.out 0; have yI := aj ak.out 1; have yH := aj ak.out 2; have Kl := aj ak.out 3; have Kk := aj ak.out 4; have Kj := aj ak.out 5) | ((with_reducible refine aT (f := 23) rfl ?_); refine cu (some 11) rfl rfl Try.func23 (by kernel_rfl) rfl #[.agg #[.string aX, .string aU, .int .i64 aY, .int .i64 bJ, .int .i64 bI, .int .i64 bK], .slice A1 l1.length c1] rfl zz8 ?_; (with_reducible refine (bC.calls k aX aU aY bJ bI bK _ _ l1 true _ ?bZ ?cO A5.out).mono ?_); (case bZ => repeat (first | exact (Kd.eY HR1.out HB.out) | (with_reducible refine Kd.dW ?_ _) | (with_reducible refine Kd.d9 ?_ _) | (with_reducible refine Kd.eT ?_))); (case cO => exact HC1.out); rintro e w28 ⟨rfl, hb⟩; refine ⟨_, rfl, ?_⟩; replace ak := ah.mk (aI (g := au) (o := .cells #[.string aX, .string aU, .int .i64 aY, .int .i64 bJ, .int .i64 bI, .int .i64 bK] 30 (0, 0)) zz4 hb); replace av := ah.mk (aI (g := ay) (o := .cells #[.int .i64 eD, .int .i64 fq, .string eZ] 23 (0, 0)) fK hb); replace HB := ah.mk (aA fF hb); (try clear hb); (try clear hb2); (try clear hk); (try clear hi); have Fg : w28.cell? ⟨ay, 0, none⟩ = some (.int .i64 eD) := cK av 0; have Fe : w28.cell? ⟨ay, 1, none⟩ = some (.int .i64 fq) := cK av 1; have Fb : w28.cell? ⟨ay, 2, none⟩ = some (.string eZ) := cK av 2; have EK := aj av.out 0; have EJ := aj av.out 1; have EI := aj av.out 2) | (go_at_call 69; (with_reducible refine (iM.calls eD fq eZ false _ A7.out).mono ?_); rintro e w30 ⟨rfl, hb⟩; replace ak := ah.mk (aI (g := au) (o := .cells #[.string aX, .string aU, .int .i64 aY, .int .i64 bJ, .int .i64 bI, .int .i64 bK] 30 (0, 0)) zz4 hb); replace av := ah.mk (aI (g := ay) (o := .cells #[.int .i64 eD, .int .i64 fq, .string eZ] 23 (0, 0)) fK hb); replace HB := ah.mk (aA fF hb); (try clear hb); (try clear hb2); (try clear hk); (try clear hi)))
   go_ret
   exact ⟨zz6, fF⟩
 ·replace c6 := Bool.eq_false_iff.mpr c6; subst c6; rw [if_neg (show ¬ (false = true) by decide)] at H; obtain rfl := Option.some.inj H
  go_enter Try.func65, Try.ntmps65
  go_wp2_with (first | ((with_reducible refine bD (N := 4) rfl ?_); refine bq ?hg (N := 4) ?hd (cs := #[.string aX, .string aU, .int .i64 aY, .int .i64 bJ, .int .i64 bI, .int .i64 bK]) (t := 30) ?hr ?_; (case hd => rfl); (case hg => rfl); (case hr => first | (go_simp; done) | (go_simp; rfl)); intro au hg w31 bF hb; have ak := ah.mk (bF); have fO := ah.mk ((zz0 : w.heap.size ≤ au)); have fD := ah.mk ((zz0 : w.heap.size ≤ au)); replace HB := ah.mk (aA zz1 hb); clear hb bF hg) | ((with_reducible refine bD (N := 6) rfl ?_); refine bq ?hg (N := 6) ?hd (cs := #[.int .i64 eD, .int .i64 fq, .string eZ]) (t := 23) ?hr ?_; (case hd => rfl); (case hg => rfl); (case hr => first | (go_simp; done) | (go_simp; rfl)); intro ay hg w32 bF hb; have av := ah.mk (bF); have iX := ah.mk ((jK : w.heap.size ≤ ay)); have iC := ah.mk ((jK : w.heap.size ≤ ay)); replace HB := ah.mk (aA zz5 hb); have aQ := ah.mk ((zB : au ≠ ay)); have aW := ah.mk ((zA : ay ≠ au)); replace ak := ah.mk (aI (g := au) (o := .cells #[.string aX, .string aU, .int .i64 aY, .int .i64 bJ, .int .i64 bI, .int .i64 bK] 30 (0, 0)) zz4 hb); clear hb bF hg; have hnb33 := aQ.out; have hnc33 := aW.out; have Fa : w32.cell? ⟨au, 0, none⟩ = some (.string aX) := cK ak 0; have E9 : w32.cell? ⟨au, 1, none⟩ = some (.string aU) := cK ak 1; have E8 : w32.cell? ⟨au, 2, none⟩ = some (.int .i64 aY) := cK ak 2; have KO : w32.cell? ⟨au, 3, none⟩ = some (.int .i64 bJ) := cK ak 3; have KN : w32.cell? ⟨au, 4, none⟩ = some (.int .i64 bI) := cK ak 4; have KM : w32.cell? ⟨au, 5, none⟩ = some (.int .i64 bK) := cK ak 5; have EH := aj ak.out 0; have EG := aj ak.out 1; have EF := aj ak.out 2; have Ki := aj ak.out 3; have Kh := aj ak.out 4; have Kg := aj ak.out 5) | ((with_reducible refine aT (f := 23) rfl ?_); refine cu (some 11) rfl rfl Try.func23 (by kernel_rfl) rfl #[.agg #[.string aX, .string aU, .int .i64 aY, .int .i64 bJ, .int .i64 bI, .int .i64 bK], .slice A1 l1.length c1] rfl zz8 ?_; (with_reducible refine (bC.calls k aX aU aY bJ bI bK _ _ l1 false _ ?bZ ?cO A5.out).mono ?_); (case bZ => repeat (first | exact (Kd.eY HR1.out HB.out) | (with_reducible refine Kd.dW ?_ _) | (with_reducible refine Kd.d9 ?_ _) | (with_reducible refine Kd.eT ?_))); (case cO => exact HC1.out); rintro e w35 ⟨rfl, hb⟩; refine ⟨_, rfl, ?_⟩; replace ak := ah.mk (aI (g := au) (o := .cells #[.string aX, .string aU, .int .i64 aY, .int .i64 bJ, .int .i64 bI, .int .i64 bK] 30 (0, 0)) zz4 hb); replace av := ah.mk (aI (g := ay) (o := .cells #[.int .i64 eD, .int .i64 fq, .string eZ] 23 (0, 0)) fK hb); replace HB := ah.mk (aA fF hb); (try clear hb); (try clear hb2); (try clear hk); (try clear hi)))
  go_ret
  exact ⟨zz6, fF⟩
def fT.f (l0 : List Int) : Option (List Int) := if l0.length < 17592186044416 then some l0 else none
set_option maxHeartbeats 1000000 in
theorem fT.calls (A0 : Option Addr) (c0 : Nat) (l0 : List Int) (r : List Int) (w : World) (hr0 : Kd.C (Kd.int .i64) w A0 l0.length l0) (hc0 : l0.length ≤ c0) (h : fT.f l0 = some r) :
  Calls Try.prog 66 #[.slice A0 l0.length c0] w fun e w' => ∃ v0_ : Value, e = .returned (v0_) ∧ Kd.R (Kd.int .i64) 2 w' w.heap.size (fun _ => True) v0_ r ∧ Below w.heap.size w w' := by
 unfold fT.f at h
 split at h
 ·rename_i hlim
  injection h with h; subst h; have HL := ah.mk hlim; have HR0 := ah.mk hr0; clear hlim hr0 hc0; have hq := fun (W : World) (a : Option Addr) (n c : Nat) => Lib.run_eql_slice_nil (P := Try.prog) W 31 2 a n c 0 0 Try.underlying31
  cases A0 with
  | none =>
   have hnil : l0 = [] := by
    cases l0 with
    | nil => rfl
    | cons x l =>
     obtain ⟨ad, hx, _⟩ := HR0.out.2.2 (by simp)
     cases hx
   subst hnil
   go_enter Try.func66, Try.ntmps66
   go_wp2
   go_ret
   exact ⟨_, rfl, Kd.Ho _ _ _ _ _, Below.refl _ _⟩
  | some ad =>
   go_enter Try.func66, Try.ntmps66
   go_wp2_with (first
    | ((with_reducible refine bD (N := 5) rfl ?_); refine Kd.CG (Kd.int .i64) _ 2 ?hg (N := 5) ?hd (xs := ([] : List Int)) (inner := []) (ok := fun _ => True) (okp := fun _ => True) ?hr ?hp (fun _ hk => hk) trivial (Below.refl _ _) (Nat.le_refl _) (by simp) ?_; (case hd => rfl); (case hg => rfl); (case hr => first | (go_simp; done) | (go_simp; rfl)); (case hp => exact (ig.none _ _)); intro v3 w1 ho1 hb1 hg_ lY; have HO1 := ah.mk ho1; have HB1 := ah.mk hb1; clear hg_ lY ho1 hb1)
    | ((with_reducible refine iq (b := .append) (xs := #[.tmp 5, .tmp 6]) rfl ?_); at_builtin; refine Kd.qy (Kd.int .i64) (w0 := w) w.heap.size rfl (.tmp 5) (.tmp 6) 31 2 (.int .i64 0) 8 rfl Try.underlying31 MB rfl (by decide) (by omega) v3 [] l0 _ _ _ (fun _ => True) (fun _ => False) rfl rfl ?aO ?aR (fun _ _ h => h) (fun _ h => h.elim) ?aF ?aB ?aS ?aL ?_; (case aR => exact Kd.eY HR0.out HB1.out); (case aB => exact HB1.out); (case aF => exact (fun _ _ => trivial)); (case aO => exact HO1.out); (case aS => exact HB1.out.size); (case aL => have := HL.out; simp only [List.length_nil]; omega); intro v5 w2 ho hb hg hat; rw [List.nil_append] at ho; have HO2 := ah.mk ho; have HB2 := ah.mk hb; clear ho hb hg hat))
   go_ret
   exact ⟨_, rfl, HO2.out, HB2.out⟩
 ·cases h
mutual
def dx.j0 : Nat → Int → List Int → Bool → ByteArray → ByteArray → Int → Int → Int → Int → Int → Int → ByteArray → Option (List Int × Int)
 | 0, _, _, _, _, _, _, _, _, _, _, _, _ => none
 | k + 1, x3, x10, x27, XG, XF, XE, Ro, XD, XC, XB, XA, Xz => if x27 = true then (some (x10, 0)) else (if Ro = 0 then ((bE.f k XG XF XE Ro XD XC XB XA Xz).bind fun lQ => (dx.l0 k x3 x10 lQ (lQ.length : Int) 0)) else (some (([] : List Int), 11)))
def dx.l0 : Nat → Int → List Int → List Int → Int → Int → Option (List Int × Int)
 | 0, _, _, _, _, _ => none
 | k + 1, x3, x10, x34, x35, x36 => if x36 < x35 then (if 0 ≤ x36 then (if x36 < (x34.length : Int) then (if 0 ≤ (rd x34 x36) then (if (rd x34 x36) < (x10.length : Int) then (if (rd x10 (rd x34 x36)) < x3 then (some (([] : List Int), 11)) else (dx.l0 k x3 (x10.set ((rd x34 x36) : Int).toNat (wrap64 ((rd x10 (rd x34 x36)) - x3))) x34 x35 (wrap64 (x36 + 1)))) else (none)) else (none)) else (none)) else (none)) else (some (x10, 0))
end
def dx.f (k : Nat) (aX : ByteArray) (aU : ByteArray) (aY : Int) (bJ : Int) (bI : Int) (bK : Int) (l1 : List Int) (eD : Int) (fq : Int) (eZ : ByteArray) (a3 : Int) : Option (List Int × Int) := (gI.f k aX aU aY bJ bI bK l1 eD fq eZ a3).bind fun t242 => (if t242 = true then ((fT.f l1).bind fun OQ => (if eD = 0 then (dx.j0 k a3 OQ true aX aU aY bJ bI bK eD fq eZ) else (dx.j0 k a3 OQ (a3 == 0) aX aU aY bJ bI bK eD fq eZ))) else (some (([] : List Int), 1)))
theorem dx.gM : ∀ k, (∀ y0 y1 y2 y3 y4 y5 y6 y7 y8 y9 y10 y11, LeO (dx.j0 k y0 y1 y2 y3 y4 y5 y6 y7 y8 y9 y10 y11) (dx.j0 (k + 1) y0 y1 y2 y3 y4 y5 y6 y7 y8 y9 y10 y11)) ∧ (∀ y0 y1 y2 y3 y4, LeO (dx.l0 k y0 y1 y2 y3 y4) (dx.l0 (k + 1) y0 y1 y2 y3 y4))
 | 0 => ⟨fun _ _ _ _ _ _ _ _ _ _ _ _ r h => by simp [dx.j0] at h, fun _ _ _ _ _ r h => by simp [dx.l0] at h⟩
 | k + 1 => by
  obtain ⟨ih0, ih1⟩ := dx.gM k; refine ⟨?_, ?_⟩
  ·intro y0 y1 y2 y3 y4 y5 y6 y7 y8 y9 y10 y11; unfold dx.j0
   repeat' first
   | (with_reducible exact ih0 _ _ _ _ _ _ _ _ _ _ _ _)
   | (with_reducible exact ih1 _ _ _ _ _)
   | (with_reducible exact gI.mono _ _ _ _ _ _ _ _ _ _ _ _)
   | (with_reducible exact bE.mono _ _ _ _ _ _ _ _ _ _)
   | (with_reducible exact LeO.refl _)
   | (with_reducible exact LeO.none _)
   | (with_reducible refine LeO.ite ?_ ?_)
   | (with_reducible refine LeO.bind ?_ (fun _ => ?_))
   | exact ih0 _ _ _ _ _ _ _ _ _ _ _ _
   | exact ih1 _ _ _ _ _
   | exact gI.mono _ _ _ _ _ _ _ _ _ _ _ _
   | exact bE.mono _ _ _ _ _ _ _ _ _ _
   | exact LeO.none _
   | refine LeO.ite ?_ ?_
   | refine LeO.bind ?_ (fun _ => ?_)
  ·intro y0 y1 y2 y3 y4; unfold dx.l0
   repeat' first
   | (with_reducible exact ih0 _ _ _ _ _ _ _ _ _ _ _ _)
   | (with_reducible exact ih1 _ _ _ _ _)
   | (with_reducible exact gI.mono _ _ _ _ _ _ _ _ _ _ _ _)
   | (with_reducible exact bE.mono _ _ _ _ _ _ _ _ _ _)
   | (with_reducible exact LeO.refl _)
   | (with_reducible exact LeO.none _)
   | (with_reducible refine LeO.ite ?_ ?_)
   | (with_reducible refine LeO.bind ?_ (fun _ => ?_))
   | exact ih0 _ _ _ _ _ _ _ _ _ _ _ _
   | exact ih1 _ _ _ _ _
   | exact gI.mono _ _ _ _ _ _ _ _ _ _ _ _
   | exact bE.mono _ _ _ _ _ _ _ _ _ _
   | exact LeO.none _
   | refine LeO.ite ?_ ?_
   | refine LeO.bind ?_ (fun _ => ?_)
theorem dx.mono : ∀ a0 a1 a2 a3 a4 a5 a6 a7 a8 a9 a10 k, LeO (dx.f k a0 a1 a2 a3 a4 a5 a6 a7 a8 a9 a10) (dx.f (k + 1) a0 a1 a2 a3 a4 a5 a6 a7 a8 a9 a10) := by
 intro a0 a1 a2 a3 a4 a5 a6 a7 a8 a9 a10 k; obtain ⟨ih0, ih1⟩ := dx.gM k; unfold dx.f
 repeat' first
   | (with_reducible exact ih0 _ _ _ _ _ _ _ _ _ _ _ _)
   | (with_reducible exact ih1 _ _ _ _ _)
   | (with_reducible exact gI.mono _ _ _ _ _ _ _ _ _ _ _ _)
   | (with_reducible exact bE.mono _ _ _ _ _ _ _ _ _ _)
   | (with_reducible exact LeO.refl _)
   | (with_reducible exact LeO.none _)
   | (with_reducible refine LeO.ite ?_ ?_)
   | (with_reducible refine LeO.bind ?_ (fun _ => ?_))
   | exact ih0 _ _ _ _ _ _ _ _ _ _ _ _
   | exact ih1 _ _ _ _ _
   | exact gI.mono _ _ _ _ _ _ _ _ _ _ _ _
   | exact bE.mono _ _ _ _ _ _ _ _ _ _
   | exact LeO.none _
   | refine LeO.ite ?_ ?_
   | refine LeO.bind ?_ (fun _ => ?_)
set_option maxHeartbeats 8000000 in
set_option maxRecDepth 100000 in
theorem dx.calls (k : Nat) (aX : ByteArray) (aU : ByteArray) (aY : Int) (bJ : Int) (bI : Int) (bK : Int) (A1 : Option Addr) (c1 : Nat) (l1 : List Int) (eD : Int) (fq : Int) (eZ : ByteArray) (a3 : Int) (r1 : List Int) (r2 : Int) (w : World) (hr1 : Kd.C (Kd.int .i64) w A1 l1.length l1) (hc1 : l1.length ≤ c1) (h : dx.f k aX aU aY bJ bI bK l1 eD fq eZ a3 = some (r1, r2)) :
  Calls Try.prog 29 #[.agg #[.string aX, .string aU, .int .i64 aY, .int .i64 bJ, .int .i64 bI, .int .i64 bK], .slice A1 l1.length c1, .agg #[.int .i64 eD, .int .i64 fq, .string eZ], .int .i64 a3] w fun e w' => ∃ v0_ : Value, e = .returned (.tuple #[v0_, .int .i64 r2]) ∧ Kd.R (Kd.int .i64) 2 w' w.heap.size (fun _ => True) v0_ r1 ∧ Below w.heap.size w w' := by
 have D8 := Try.underlying30; have sJ := Try.underlying23; have HR1 := ah.mk hr1; have HC1 := ah.mk hc1; clear hr1 hc1; have HB := ah.mk (Below.refl w.heap.size w); have H := h; clear h
 dsimp only [dx.f] at H
 replace H := Option.bind_eq_some_iff.mp H; obtain ⟨t242, A50, H⟩ := H; have A5 := ah.mk A50; clear A50
 by_cases c6 : t242 = true
 ·subst c6; rw [if_pos rfl] at H; replace H := Option.bind_eq_some_iff.mp H; obtain ⟨OQ, A70, H⟩ := H; have A7 := ah.mk A70; clear A70; have HC8 := ah.mk H; clear H
  go_enter Try.func29, Try.ntmps29
  go_upto_region 4 with (first | ((with_reducible refine bD (N := 4) rfl ?_); refine bq ?hg (N := 4) ?hd (cs := #[.string aX, .string aU, .int .i64 aY, .int .i64 bJ, .int .i64 bI, .int .i64 bK]) (t := 30) ?hr ?_; (case hd => rfl); (case hg => rfl); (case hr => first | (go_simp; done) | (go_simp; rfl)); intro au hg w9 bF hb; have ak := ah.mk (bF); have fO := ah.mk ((zz0 : w.heap.size ≤ au)); have fD := ah.mk ((zz0 : w.heap.size ≤ au)); replace HB := ah.mk (aA zz1 hb); clear hb bF hg) | ((with_reducible refine bD (N := 6) rfl ?_); refine bq ?hg (N := 6) ?hd (cs := #[.int .i64 eD, .int .i64 fq, .string eZ]) (t := 23) ?hr ?_; (case hd => rfl); (case hg => rfl); (case hr => first | (go_simp; done) | (go_simp; rfl)); intro ay hg w10 bF hb; have av := ah.mk (bF); have iX := ah.mk ((jK : w.heap.size ≤ ay)); have iC := ah.mk ((jK : w.heap.size ≤ ay)); replace HB := ah.mk (aA zz5 hb); have aQ := ah.mk ((zB : au ≠ ay)); have aW := ah.mk ((zA : ay ≠ au)); replace ak := ah.mk (aI (g := au) (o := .cells #[.string aX, .string aU, .int .i64 aY, .int .i64 bJ, .int .i64 bI, .int .i64 bK] 30 (0, 0)) zz4 hb); clear hb bF hg; have hnb11 := aQ.out; have hnc11 := aW.out; have nK : w10.cell? ⟨au, 0, none⟩ = some (.string aX) := cK ak 0; have nJ : w10.cell? ⟨au, 1, none⟩ = some (.string aU) := cK ak 1; have nI : w10.cell? ⟨au, 2, none⟩ = some (.int .i64 aY) := cK ak 2; have uq : w10.cell? ⟨au, 3, none⟩ = some (.int .i64 bJ) := cK ak 3; have uo : w10.cell? ⟨au, 4, none⟩ = some (.int .i64 bI) := cK ak 4; have um : w10.cell? ⟨au, 5, none⟩ = some (.int .i64 bK) := cK ak 5; have nH := aj ak.out 0; have nG := aj ak.out 1; have nE := aj ak.out 2; have uj := aj ak.out 3; have uh := aj ak.out 4; have ug := aj ak.out 5; have rR : w10.cell? ⟨ay, 0, none⟩ = some (.int .i64 eD) := cK av 0; have rQ : w10.cell? ⟨ay, 1, none⟩ = some (.int .i64 fq) := cK av 1; have rP : w10.cell? ⟨ay, 2, none⟩ = some (.string eZ) := cK av 2; have rM := aj av.out 0; have rJ := aj av.out 1; have rH := aj av.out 2) | ((with_reducible refine aT (f := 65) rfl ?_); refine cu (some 17) rfl rfl Try.func65 (by kernel_rfl) rfl #[.agg #[.string aX, .string aU, .int .i64 aY, .int .i64 bJ, .int .i64 bI, .int .i64 bK], .slice A1 l1.length c1, .agg #[.int .i64 eD, .int .i64 fq, .string eZ], .int .i64 a3] rfl zz8 ?_; (with_reducible refine (gI.calls k aX aU aY bJ bI bK _ _ l1 eD fq eZ a3 true _ ?bZ ?cO A5.out).mono ?_); (case bZ => repeat (first | exact (Kd.eY HR1.out HB.out) | (with_reducible refine Kd.dW ?_ _) | (with_reducible refine Kd.d9 ?_ _) | (with_reducible refine Kd.eT ?_))); (case cO => exact HC1.out); rintro e w14 ⟨rfl, hb⟩; refine ⟨_, rfl, ?_⟩; replace ak := ah.mk (aI (g := au) (o := .cells #[.string aX, .string aU, .int .i64 aY, .int .i64 bJ, .int .i64 bI, .int .i64 bK] 30 (0, 0)) zz4 hb); replace av := ah.mk (aI (g := ay) (o := .cells #[.int .i64 eD, .int .i64 fq, .string eZ] 23 (0, 0)) fK hb); replace HB := ah.mk (aA fF hb); (try clear hb); (try clear hb2); (try clear hk); (try clear hi)) | ((with_reducible refine aT (f := 66) rfl ?_); refine cu (some 20) rfl rfl Try.func66 (by kernel_rfl) rfl #[.slice A1 l1.length c1] rfl zz8 ?_; (with_reducible refine (fT.calls _ _ l1 OQ _ ?bZ ?cO A7.out).mono ?_); (case bZ => repeat (first | exact (Kd.eY HR1.out HB.out) | (with_reducible refine Kd.dW ?_ _) | (with_reducible refine Kd.d9 ?_ _) | (with_reducible refine Kd.eT ?_))); (case cO => exact HC1.out); rintro e w15 ⟨v244, rfl, ho0, hb⟩; refine ⟨_, rfl, ?_⟩; have iB := ah.mk (Kd.jv ho0 (bW fF)); replace ak := ah.mk (aI (g := au) (o := .cells #[.string aX, .string aU, .int .i64 aY, .int .i64 bJ, .int .i64 bI, .int .i64 bK] 30 (0, 0)) zz4 hb); replace av := ah.mk (aI (g := ay) (o := .cells #[.int .i64 eD, .int .i64 fq, .string eZ] 23 (0, 0)) fK hb); replace HB := ah.mk (aA fF hb); (try clear hb); (try clear hb2); (try clear hk); (try clear hi); (try clear ho0)))
  (try simp only [Act.put, List.setIfInBounds_toArray, List.set_cons_zero, List.set_cons_succ])
  go_cut [27] (fun v27 wc => ∃ (kq : Nat) (Rh : Bool), v27 = .bool Rh ∧ ah (dx.j0 kq a3 OQ Rh aX aU aY bJ bI bK eD fq eZ = some (r1, r2)) ∧ ah (kq ≤ k) ∧ ah (Kd.R (Kd.int .i64) 2 wc w.heap.size (fun _ => True) v244 OQ) ∧ ah (wc.heap[au]? = some (.cells #[.string aX, .string aU, .int .i64 aY, .int .i64 bJ, .int .i64 bI, .int .i64 bK] 30 (0, 0))) ∧ ah (wc.heap[ay]? = some (.cells #[.int .i64 eD, .int .i64 fq, .string eZ] 23 (0, 0))) ∧ ah (Below w.heap.size w wc))
  case first =>
   have H := HC8.out; clear HC8
   by_cases c16 : eD = 0
   ·rw [if_pos c16] at H; have l8 : (eD == 0) = true := beq_iff_eq.mpr c16; have wS : (eD != 0) = false := bne_eq_false_iff_eq.mpr c16; clear c16; (first | rw [l8] | (simp only [dJ, eu]; rw [l8]) | skip); have H' := ah.mk H; clear H; have hnb17 := aW.out; have hnc17 := aQ.out; have zk : w15.cell? ⟨ay, 0, none⟩ = some (.int .i64 eD) := cK av 0; have zi : w15.cell? ⟨ay, 1, none⟩ = some (.int .i64 fq) := cK av 1; have Cq : w15.cell? ⟨ay, 2, none⟩ = some (.string eZ) := cK av 2; have Cc := aj av.out 0; have yQ := aj av.out 1; have Cb := aj av.out 2
    go_wp2
    go_meet
    case rel => exact ⟨_, (true), zz2, H', ⟨zz3⟩, ⟨Ol⟩, ⟨zz4⟩, ⟨fK⟩, ⟨fF⟩⟩
   ·rw [if_neg c16] at H; have l8 : (eD == 0) = false := beq_eq_false_iff_ne.mpr c16; have wS : (eD != 0) = true := bne_iff_ne.mpr c16; (first | rw [l8] | (simp only [dJ, eu]; rw [l8]) | skip); have H' := ah.mk H; clear H; have hnb19 := aW.out; have hnc19 := aQ.out; have oZ : w15.cell? ⟨ay, 0, none⟩ = some (.int .i64 eD) := cK av 0; have oW : w15.cell? ⟨ay, 1, none⟩ = some (.int .i64 fq) := cK av 1; have rO : w15.cell? ⟨ay, 2, none⟩ = some (.string eZ) := cK av 2; have qx := aj av.out 0; have oK := aj av.out 1; have rG := aj av.out 2
    go_wp2
    go_meet
    case rel => exact ⟨_, ((a3 == 0)), zz2, H', ⟨zz3⟩, ⟨Ol⟩, ⟨zz4⟩, ⟨fK⟩, ⟨fF⟩⟩
  case rest =>
   clear HC8; (try clear c1); (try clear c2); (try clear p2); (try clear c6); (try clear c11); (try clear c16); (try clear l8); (try clear wS); (try clear c17); (try clear c19); (try clear nK); (try clear nJ); (try clear nI); (try clear uq); (try clear uo); (try clear um); (try clear rR); (try clear rQ); (try clear rP); (try clear zk); (try clear zi); (try clear Cq); (try clear oZ); (try clear oW); (try clear rO); (try clear nH); (try clear nG); (try clear nE); (try clear uj); (try clear uh); (try clear ug); (try clear rM); (try clear rJ); (try clear rH); (try clear Cc); (try clear yQ); (try clear Cb); (try clear qx); (try clear oK); (try clear rG); obtain ⟨kq, Rh, rfl, HA, HJ7, sU, ak, av, HB⟩ := hcut
   cases kq with
   | zero => exact absurd HA.out (by simp [dx.j0])
   | succ kj7 =>
    have H := HA.out; clear HA; simp only [dx.j0] at H
    by_cases c21 : Rh = true
    ·subst c21; rw [if_pos rfl] at H; simp only [Option.some.injEq, Prod.mk.injEq] at H; obtain ⟨rfl, rfl⟩ := H
     go_wp2
     go_ret2
     exact ⟨_, zz6, zz45, fF⟩
    ·replace c21 := Bool.eq_false_iff.mpr c21; subst c21; rw [if_neg (show ¬ (false = true) by decide)] at H
     by_cases c22 : bJ = 0
     ·rw [if_pos c22] at H; have GX : (bJ == 0) = true := beq_iff_eq.mpr c22; have Tq : (bJ != 0) = false := bne_eq_false_iff_eq.mpr c22; clear c22; replace H := Option.bind_eq_some_iff.mp H; obtain ⟨lQ, A230, H⟩ := H; have A23 := ah.mk A230; clear A230; have H' := ah.mk H; clear H; have hnb24 := aQ.out; have hnc24 := aW.out; have Ck : wc.cell? ⟨au, 0, none⟩ = some (.string aX) := cK ak 0; have Cj : wc.cell? ⟨au, 1, none⟩ = some (.string aU) := cK ak 1; have Ci : wc.cell? ⟨au, 2, none⟩ = some (.int .i64 aY) := cK ak 2; have Z4 : wc.cell? ⟨au, 3, none⟩ = some (.int .i64 bJ) := cK ak 3; have Z0 : wc.cell? ⟨au, 4, none⟩ = some (.int .i64 bI) := cK ak 4; have ZY : wc.cell? ⟨au, 5, none⟩ = some (.int .i64 bK) := cK ak 5; have BU := aj ak.out 0; have BS := aj ak.out 1; have BR := aj ak.out 2; have Zg := aj ak.out 3; have Zf := aj ak.out 4; have Ze := aj ak.out 5; have Fu : wc.cell? ⟨ay, 0, none⟩ = some (.int .i64 eD) := cK av 0; have Fq : wc.cell? ⟨ay, 1, none⟩ = some (.int .i64 fq) := cK av 1; have KS : wc.cell? ⟨ay, 2, none⟩ = some (.string eZ) := cK av 2; have EP := aj av.out 0; have EO := aj av.out 1; have Km := aj av.out 2
      go_wp2_with (first | ((with_reducible refine aT (f := 67) rfl ?_); refine cu (some 34) rfl rfl Try.func67 (by kernel_rfl) rfl #[.agg #[.string aX, .string aU, .int .i64 aY, .int .i64 bJ, .int .i64 bI, .int .i64 bK], .agg #[.int .i64 eD, .int .i64 fq, .string eZ]] rfl zz8 ?_; (with_reducible refine (bE.calls kj7 aX aU aY bJ bI bK eD fq eZ lQ _ A23.out).mono ?_); rintro e w27 ⟨v247, rfl, ho0, hb⟩; refine ⟨_, rfl, ?_⟩; replace sU := ah.mk (Kd.gT zz45 hb); have jg := ah.mk (Kd.jv ho0 (bW fF)); replace ak := ah.mk (aI (g := au) (o := .cells #[.string aX, .string aU, .int .i64 aY, .int .i64 bJ, .int .i64 bI, .int .i64 bK] 30 (0, 0)) zz4 hb); replace av := ah.mk (aI (g := ay) (o := .cells #[.int .i64 eD, .int .i64 fq, .string eZ] 23 (0, 0)) fK hb); replace HB := ah.mk (aA fF hb); (try clear hb); (try clear hb2); (try clear hk); (try clear hi); (try clear ho0); obtain ⟨Ao28, co28, eo28⟩ := Kd.gH jg.out; subst eo28))
      go_loopg [36] kj7 (fun kq v36 w' => ∃ (lX : List Int) (eP : Int), v36 = .int .i64 eP ∧ ah (dx.l0 kq a3 lX lQ (lQ.length : Int) eP = some (r1, r2)) ∧ ah (kq ≤ kj7) ∧ ah (Kd.R (Kd.int .i64) 2 w' w.heap.size (fun _ => True) v244 lX) ∧ ah (Kd.R (Kd.int .i64) 3 w' w.heap.size (fun _ => True) (.slice Ao28 lQ.length co28) lQ) ∧ ah (w'.heap[au]? = some (.cells #[.string aX, .string aU, .int .i64 aY, .int .i64 bJ, .int .i64 bI, .int .i64 bK] 30 (0, 0))) ∧ ah (w'.heap[ay]? = some (.cells #[.int .i64 eD, .int .i64 fq, .string eZ] 23 (0, 0))) ∧ ah (Below w.heap.size w w'))
      case atStart => exact ⟨(OQ), (0), zz2, H', ⟨Nat.le_refl _⟩, ⟨zz45⟩, ⟨CQ⟩, ⟨zz4⟩, ⟨fK⟩, ⟨fF⟩⟩
      case round =>
       clear H'; (try clear c1); (try clear c2); (try clear p2); (try clear c6); (try clear c11); (try clear c16); (try clear l8); (try clear wS); (try clear c17); (try clear c19); (try clear c21); (try clear c22); (try clear GX); (try clear Tq); (try clear c24); (try clear nK); (try clear nJ); (try clear nI); (try clear uq); (try clear uo); (try clear um); (try clear rR); (try clear rQ); (try clear rP); (try clear zk); (try clear zi); (try clear Cq); (try clear oZ); (try clear oW); (try clear rO); (try clear Ck); (try clear Cj); (try clear Ci); (try clear Z4); (try clear Z0); (try clear ZY); (try clear Fu); (try clear Fq); (try clear KS); (try clear nH); (try clear nG); (try clear nE); (try clear uj); (try clear uh); (try clear ug); (try clear rM); (try clear rJ); (try clear rH); (try clear Cc); (try clear yQ); (try clear Cb); (try clear qx); (try clear oK); (try clear rG); (try clear BU); (try clear BS); (try clear BR); (try clear Zg); (try clear Zf); (try clear Ze); (try clear EP); (try clear EO); (try clear Km); (try clear p2); obtain ⟨lX, eP, rfl, HA, HK2, sU, CJ, ak, av, HB⟩ := hrel
       cases gk with
       | zero => exact absurd HA.out (by simp [dx.l0])
       | succ k2 =>
        have H := HA.out; clear HA; simp only [dx.l0] at H
        by_cases c29 : eP < (lQ.length : Int)
        ·rw [if_pos c29] at H; have NM : decide (eP < (lQ.length : Int)) = true := decide_eq_true c29; clear c29
         by_cases c30 : 0 ≤ eP
         ·rw [if_pos c30] at H; have GV : decide (0 ≤ eP) = true := decide_eq_true c30; clear c30
          by_cases c31 : eP < (lQ.length : Int)
          ·rw [if_pos c31] at H; have Tp : decide (eP < (lQ.length : Int)) = true := decide_eq_true c31; clear c31
           by_cases c32 : 0 ≤ (rd lQ eP)
           ·rw [if_pos c32] at H; have Tn : decide (0 ≤ (rd lQ eP)) = true := decide_eq_true c32; clear c32
            by_cases c33 : (rd lQ eP) < (lX.length : Int)
            ·rw [if_pos c33] at H; have Tm : decide ((rd lQ eP) < (lX.length : Int)) = true := decide_eq_true c33; clear c33
             by_cases c34 : (rd lX (rd lQ eP)) < a3
             ·rw [if_pos c34] at H; have DI : decide ((rd lX (rd lQ eP)) < a3) = true := decide_eq_true c34; clear c34; simp only [Option.some.injEq, Prod.mk.injEq] at H; obtain ⟨rfl, rfl⟩ := H; have Pw : 0 ≤ (eP : Int) := of_decide_eq_true zz9; have O7 : eP < (lQ.length : Int) := of_decide_eq_true zz9; obtain ⟨ad249, e249, Yl⟩ := Kd.jM (Kd.dP CJ.out).2.2 eP Pw O7
              cases e249
              replace Pw := eq_true Pw; replace O7 := eq_true O7; obtain ⟨Ao35, co35, eo35⟩ := Kd.gH sU.out; subst eo35; have Pv : 0 ≤ ((rd lQ eP) : Int) := of_decide_eq_true zz9; have O6 : (rd lQ eP) < (lX.length : Int) := of_decide_eq_true zz9; obtain ⟨ad250, e250, RS⟩ := Kd.jM (Kd.dP sU.out).2.2 (rd lQ eP) Pv O6
              cases e250
              replace Pv := eq_true Pv; replace O6 := eq_true O6
              go_wp2
              go_ret2
              exact ⟨_, zz6, H9, fF⟩
             ·rw [if_neg c34] at H; have DI : decide ((rd lX (rd lQ eP)) < a3) = false := decide_eq_false c34; clear c34; obtain ⟨y252, M6⟩ : ∃ y_ : List Int, y_ = (lX.set ((rd lQ eP) : Int).toNat (wrap64 ((rd lX (rd lQ eP)) - a3))) := ⟨_, rfl⟩; replace H : (dx.l0 k2 a3 y252 lQ (lQ.length : Int) (wrap64 (eP + 1))) = some (r1, r2) := by first | (rw [M6]; with_reducible exact H) | (have H2_ := (Option.bind_some _ _).symm.trans H; rw [M6]; with_reducible exact H2_) | (have H2_ := (Option.bind_some _ _).symm.trans H; with_reducible exact H2_) | with_reducible exact H | (rw [M6]; exact H) | exact H
              have Ny252 := ah.mk M6; clear M6; have H' := ah.mk H; clear H; have Pw : 0 ≤ (eP : Int) := of_decide_eq_true zz9; have O7 : eP < (lQ.length : Int) := of_decide_eq_true zz9; obtain ⟨ad249, e249, Yl⟩ := Kd.jM (Kd.dP CJ.out).2.2 eP Pw O7
              cases e249
              replace Pw := eq_true Pw; replace O7 := eq_true O7; obtain ⟨Ao37, NG, NA⟩ := Kd.gH sU.out; subst NA; have Pv : 0 ≤ ((rd lQ eP) : Int) := of_decide_eq_true zz9; have O6 : (rd lQ eP) < (lX.length : Int) := of_decide_eq_true zz9; obtain ⟨ad250, e250, RS⟩ := Kd.jM (Kd.dP sU.out).2.2 (rd lQ eP) Pv O6
              cases e250
              replace Pv := eq_true Pv; replace O6 := eq_true O6; have p251 : 0 ≤ ((rd lQ eP) : Int) := of_decide_eq_true zz9; have q251 : (rd lQ eP) < (lX.length : Int) := of_decide_eq_true zz9; obtain ⟨ad251, e251, Yk⟩ := Kd.jM (Kd.dP sU.out).2.2 (rd lQ eP) p251 q251; obtain rfl : ad250 = ad251 := (by injection e251); replace p251 := eq_true p251; replace q251 := eq_true q251; have p36 : 0 ≤ ((rd lQ eP) : Int) := of_decide_eq_true zz9; have q36 : ((rd lQ eP) : Int) < ((lX.length : Int) : Int) := of_decide_eq_true zz9; obtain ⟨go36, co36, eo36, gb36, gl36, cl36, HG36⟩ := Kd.Hq sU.out (by omega); (first | cases eo36 | (injection eo36 with ea_ en_ ec_; (first | subst ea_ | (injection ea_ with ea_; subst ea_)); subst ec_; clear en_)); have GB36 := ah.mk gb36; have GG36 := ah.mk HG36; clear gb36 gl36 HG36; (first | simp only [add_plain] at RS | skip); (first | simp only [add_plain] at Yk | skip); obtain ⟨hx36_0, hf36_0⟩ := Kd.LP 0 sU.out ((rd lQ eP) : Int) p36 q36; replace p36 := eq_true p36; replace q36 := eq_true q36; have HP38 := Kd.QS sU.out ((rd lQ eP) : Int) (wrap64 ((rd lX (rd lQ eP)) - a3))
              go_wp2_with (first | ((with_reducible refine wJ (t := 2) (p := 52) rfl ?_); refine tK (t := 2) (p := 52) (v := ?vo_w39) (w1 := (wr.setCell ⟨go36, ((rd lQ eP) : Int).toNat, none⟩ (.int .i64 (wrap64 ((rd lX (rd lQ eP)) - a3))))) ?hg ?ho ?hn ?hr ?_; (case ho => rfl); (case hg => rfl); (case hn => rfl); (case hr => first | (go_simp; done) | (go_simp; rfl)); intro w39 hw; have hg : wr.grownBy w39 (some go36) := (by rw [hw]; exact HP38.2); have hp_ : Kd.R (Kd.int .i64) 2 w39 w.heap.size (fun _ => True) (.slice (some ⟨go36, 0, none⟩) lX.length NG) y252 := (by rw [hw, Ny252.out]; exact HP38.1); clear HP38; replace CJ := ah.mk (Kd.nZ (v := (.slice (some ⟨go36, 0, none⟩) lX.length NG)) Uf (Kd.rT sU.out) (by decide) hg); replace ak := ah.mk (gZ (g := au) (o := .cells #[.string aX, .string aU, .int .i64 aY, .int .i64 bJ, .int .i64 bI, .int .i64 bK] 30 (0, 0)) zz4 hg (Kd.pR sU.out ak.out (by decide))); replace av := ah.mk (gZ (g := ay) (o := .cells #[.int .i64 eD, .int .i64 fq, .string eZ] 23 (0, 0)) fK hg (Kd.pR sU.out av.out (by decide))); replace sU := ah.mk (hp_); replace HB := ah.mk ((by rw [hw]; exact bS (HB.out) GB36.out : Below w.heap.size w w39)); clear hg hw hp_))
              go_roundg k2
              case measure => have := HJ7.out; have := HK2.out; omega
              case rel => exact ⟨(y252), (wrap64 (eP + 1)), zz2, H', ⟨by have := HJ7.out; have := HK2.out; omega⟩, ⟨zz45⟩, ⟨Uf⟩, ⟨zz4⟩, ⟨fK⟩, ⟨fF⟩⟩
            ·rw [if_neg c33] at H; exact absurd H (by simp)
           ·rw [if_neg c32] at H; exact absurd H (by simp)
          ·rw [if_neg c31] at H; exact absurd H (by simp)
         ·rw [if_neg c30] at H; exact absurd H (by simp)
        ·rw [if_neg c29] at H; have NM : decide (eP < (lQ.length : Int)) = false := decide_eq_false c29; clear c29; simp only [Option.some.injEq, Prod.mk.injEq] at H; obtain ⟨rfl, rfl⟩ := H
         go_wp2
         go_ret2
         exact ⟨_, zz6, zz45, fF⟩
     ·rw [if_neg c22] at H; have GX : (bJ == 0) = false := beq_eq_false_iff_ne.mpr c22; have Tq : (bJ != 0) = true := bne_iff_ne.mpr c22; simp only [Option.some.injEq, Prod.mk.injEq] at H; obtain ⟨rfl, rfl⟩ := H; have hnb40 := aQ.out; have hnc40 := aW.out; have ZE : wc.cell? ⟨au, 0, none⟩ = some (.string aX) := cK ak 0; have ZC : wc.cell? ⟨au, 1, none⟩ = some (.string aU) := cK ak 1; have ZB : wc.cell? ⟨au, 2, none⟩ = some (.int .i64 aY) := cK ak 2; have hcz41_3 : wc.cell? ⟨au, 3, none⟩ = some (.int .i64 bJ) := cK ak 3; have hcz41_4 : wc.cell? ⟨au, 4, none⟩ = some (.int .i64 bI) := cK ak 4; have hcz41_5 : wc.cell? ⟨au, 5, none⟩ = some (.int .i64 bK) := cK ak 5; have YU := aj ak.out 0; have YT := aj ak.out 1; have YS := aj ak.out 2; have hfz41_3 := aj ak.out 3; have hfz41_4 := aj ak.out 4; have hfz41_5 := aj ak.out 5
      go_wp2
      go_ret2
      exact ⟨_, zz6, H9, fF⟩
 ·replace c6 := Bool.eq_false_iff.mpr c6; subst c6; rw [if_neg (show ¬ (false = true) by decide)] at H; simp only [Option.some.injEq, Prod.mk.injEq] at H; obtain ⟨rfl, rfl⟩ := H
  go_enter Try.func29, Try.ntmps29
  go_wp2_with (first | ((with_reducible refine bD (N := 4) rfl ?_); refine bq ?hg (N := 4) ?hd (cs := #[.string aX, .string aU, .int .i64 aY, .int .i64 bJ, .int .i64 bI, .int .i64 bK]) (t := 30) ?hr ?_; (case hd => rfl); (case hg => rfl); (case hr => first | (go_simp; done) | (go_simp; rfl)); intro au hg w42 bF hb; have ak := ah.mk (bF); have fO := ah.mk ((zz0 : w.heap.size ≤ au)); have fD := ah.mk ((zz0 : w.heap.size ≤ au)); replace HB := ah.mk (aA zz1 hb); clear hb bF hg) | ((with_reducible refine bD (N := 6) rfl ?_); refine bq ?hg (N := 6) ?hd (cs := #[.int .i64 eD, .int .i64 fq, .string eZ]) (t := 23) ?hr ?_; (case hd => rfl); (case hg => rfl); (case hr => first | (go_simp; done) | (go_simp; rfl)); intro ay hg w43 bF hb; have av := ah.mk (bF); have iX := ah.mk ((jK : w.heap.size ≤ ay)); have iC := ah.mk ((jK : w.heap.size ≤ ay)); replace HB := ah.mk (aA zz5 hb); have aQ := ah.mk ((zB : au ≠ ay)); have aW := ah.mk ((zA : ay ≠ au)); replace ak := ah.mk (aI (g := au) (o := .cells #[.string aX, .string aU, .int .i64 aY, .int .i64 bJ, .int .i64 bI, .int .i64 bK] 30 (0, 0)) zz4 hb); clear hb bF hg; have hnb44 := aQ.out; have hnc44 := aW.out; have hcz45_0 : w43.cell? ⟨au, 0, none⟩ = some (.string aX) := cK ak 0; have hcz45_1 : w43.cell? ⟨au, 1, none⟩ = some (.string aU) := cK ak 1; have hcz45_2 : w43.cell? ⟨au, 2, none⟩ = some (.int .i64 aY) := cK ak 2; have hcz45_3 : w43.cell? ⟨au, 3, none⟩ = some (.int .i64 bJ) := cK ak 3; have hcz45_4 : w43.cell? ⟨au, 4, none⟩ = some (.int .i64 bI) := cK ak 4; have hcz45_5 : w43.cell? ⟨au, 5, none⟩ = some (.int .i64 bK) := cK ak 5; have hfz45_0 := aj ak.out 0; have hfz45_1 := aj ak.out 1; have hfz45_2 := aj ak.out 2; have hfz45_3 := aj ak.out 3; have hfz45_4 := aj ak.out 4; have hfz45_5 := aj ak.out 5; have Ta : w43.cell? ⟨ay, 0, none⟩ = some (.int .i64 eD) := cK av 0; have S9 : w43.cell? ⟨ay, 1, none⟩ = some (.int .i64 fq) := cK av 1; have SY : w43.cell? ⟨ay, 2, none⟩ = some (.string eZ) := cK av 2; have SK := aj av.out 0; have SI := aj av.out 1; have SH := aj av.out 2) | ((with_reducible refine aT (f := 65) rfl ?_); refine cu (some 17) rfl rfl Try.func65 (by kernel_rfl) rfl #[.agg #[.string aX, .string aU, .int .i64 aY, .int .i64 bJ, .int .i64 bI, .int .i64 bK], .slice A1 l1.length c1, .agg #[.int .i64 eD, .int .i64 fq, .string eZ], .int .i64 a3] rfl zz8 ?_; (with_reducible refine (gI.calls k aX aU aY bJ bI bK _ _ l1 eD fq eZ a3 false _ ?bZ ?cO A5.out).mono ?_); (case bZ => repeat (first | exact (Kd.eY HR1.out HB.out) | (with_reducible refine Kd.dW ?_ _) | (with_reducible refine Kd.d9 ?_ _) | (with_reducible refine Kd.eT ?_))); (case cO => exact HC1.out); rintro e w47 ⟨rfl, hb⟩; refine ⟨_, rfl, ?_⟩; replace ak := ah.mk (aI (g := au) (o := .cells #[.string aX, .string aU, .int .i64 aY, .int .i64 bJ, .int .i64 bI, .int .i64 bK] 30 (0, 0)) zz4 hb); replace av := ah.mk (aI (g := ay) (o := .cells #[.int .i64 eD, .int .i64 fq, .string eZ] 23 (0, 0)) fK hb); replace HB := ah.mk (aA fF hb); (try clear hb); (try clear hb2); (try clear hk); (try clear hi)))
  go_ret2
  exact ⟨_, zz6, H9, fF⟩
def bits_Mul64.f (a0 : Int) (a1 : Int) : Option (Int × Int) := some (IntKind.u64.wrap ((IntKind.u64.wrap ((IntKind.u64.wrap ((a0 / 4294967296) * (a1 / 4294967296))) + ((IntKind.u64.wrap ((IntKind.u64.wrap ((a0 / 4294967296) * (Go.bits .and .u64 a1 4294967295))) + ((IntKind.u64.wrap ((Go.bits .and .u64 a0 4294967295) * (Go.bits .and .u64 a1 4294967295))) / 4294967296))) / 4294967296))) + ((IntKind.u64.wrap ((Go.bits .and .u64 (IntKind.u64.wrap ((IntKind.u64.wrap ((a0 / 4294967296) * (Go.bits .and .u64 a1 4294967295))) + ((IntKind.u64.wrap ((Go.bits .and .u64 a0 4294967295) * (Go.bits .and .u64 a1 4294967295))) / 4294967296))) 4294967295) + (IntKind.u64.wrap ((Go.bits .and .u64 a0 4294967295) * (a1 / 4294967296))))) / 4294967296)), IntKind.u64.wrap (a0 * a1))
set_option maxHeartbeats 8000000 in
set_option maxRecDepth 100000 in
theorem bits_Mul64.calls (a0 : Int) (a1 : Int) (r1 : Int) (r2 : Int) (w : World) (h : bits_Mul64.f a0 a1 = some (r1, r2)) :
  Calls Try.prog 97 #[.int .u64 a0, .int .u64 a1] w fun e w' => e = .returned (.tuple #[.int .u64 r1, .int .u64 r2]) ∧ l5 w w' := by
 have H := h; clear h
 dsimp only [bits_Mul64.f] at H
 simp only [Option.some.injEq, Prod.mk.injEq] at H; obtain ⟨rfl, rfl⟩ := H
 go_enter Try.func97, Try.ntmps97
 go_wp2
 go_ret2
 exact ⟨zz2, zz7⟩
def sP.f (a0 : Int) (a1 : Int) (a2 : Int) : Option (Int × Int) := none
theorem sP.calls (a0 : Int) (a1 : Int) (a2 : Int) (r1 : Int) (r2 : Int) (w : World) (h : sP.f a0 a1 a2 = some (r1, r2)) :
  Calls Try.prog 98 #[.int .u64 a0, .int .u64 a1, .int .u64 a2] w fun e w' => e = .returned (.tuple #[.int .u64 r1, .int .u64 r2]) ∧ l5 w w' := by
 cases h
def dB.j0 : Nat → List Int → Bool → ByteArray → ByteArray → Int → Int → Int → Int → Option (Int)
 | 0, _, _, _, _, _, _, _, _ => none
 | k + 1, x1, x23, x254000, x254001, x254002, x254003, Xy, x254005 => if x23 = true then (some (x1.length : Int)) else (if 0 ≤ (wrap64 ((x1.length : Int) - 1)) then (if (wrap64 ((x1.length : Int) - 1)) < (x1.length : Int) then ((bits_Mul64.f (IntKind.u64.wrap (wrap64 (Xy - 1))) 4611686018427387904).bind fun G9 => (if G9.1 ≥ (IntKind.u64.wrap (rd x1 (wrap64 ((x1.length : Int) - 1)))) then (some 4611686018427387904) else ((sP.f G9.1 G9.2 (IntKind.u64.wrap (rd x1 (wrap64 ((x1.length : Int) - 1))))).bind fun Wy => (some (wrap64 (mn Wy.1 4611686018427387904)))))) else (none)) else (none))
def dB.f (k : Nat) (aX : ByteArray) (aU : ByteArray) (aY : Int) (bJ : Int) (bI : Int) (bK : Int) (l1 : List Int) : Option (Int) := if (l1.length : Int) < bI then (dB.j0 k l1 true aX aU aY bJ bI bK) else (if 0 ≤ (wrap64 ((l1.length : Int) - 1)) then (if (wrap64 ((l1.length : Int) - 1)) < (l1.length : Int) then (dB.j0 k l1 ((rd l1 (wrap64 ((l1.length : Int) - 1))) == 0) aX aU aY bJ bI bK) else (none)) else (none))
theorem dB.gM : ∀ k, (∀ y0 y1 y2 y3 y4 y5 y6 y7, LeO (dB.j0 k y0 y1 y2 y3 y4 y5 y6 y7) (dB.j0 (k + 1) y0 y1 y2 y3 y4 y5 y6 y7))
 | 0 => fun _ _ _ _ _ _ _ _ r h => by simp [dB.j0] at h
 | k + 1 => by
  have ih0 := dB.gM k
  ·intro y0 y1 y2 y3 y4 y5 y6 y7; unfold dB.j0
   repeat' first
   | (with_reducible exact ih0 _ _ _ _ _ _ _ _)
   | (with_reducible exact LeO.refl _)
   | (with_reducible exact LeO.none _)
   | (with_reducible refine LeO.ite ?_ ?_)
   | (with_reducible refine LeO.bind ?_ (fun _ => ?_))
   | exact ih0 _ _ _ _ _ _ _ _
   | exact LeO.none _
   | refine LeO.ite ?_ ?_
   | refine LeO.bind ?_ (fun _ => ?_)
theorem dB.mono : ∀ a0 a1 a2 a3 a4 a5 a6 k, LeO (dB.f k a0 a1 a2 a3 a4 a5 a6) (dB.f (k + 1) a0 a1 a2 a3 a4 a5 a6) := by
 intro a0 a1 a2 a3 a4 a5 a6 k; have ih0 := dB.gM k; unfold dB.f
 repeat' first
   | (with_reducible exact ih0 _ _ _ _ _ _ _ _)
   | (with_reducible exact LeO.refl _)
   | (with_reducible exact LeO.none _)
   | (with_reducible refine LeO.ite ?_ ?_)
   | (with_reducible refine LeO.bind ?_ (fun _ => ?_))
   | exact ih0 _ _ _ _ _ _ _ _
   | exact LeO.none _
   | refine LeO.ite ?_ ?_
   | refine LeO.bind ?_ (fun _ => ?_)
set_option maxHeartbeats 8000000 in
set_option maxRecDepth 100000 in
theorem dB.calls (k : Nat) (aX : ByteArray) (aU : ByteArray) (aY : Int) (bJ : Int) (bI : Int) (bK : Int) (A1 : Option Addr) (c1 : Nat) (l1 : List Int) (r : Int) (w : World) (hr1 : Kd.C (Kd.int .i64) w A1 l1.length l1) (hc1 : l1.length ≤ c1) (h : dB.f k aX aU aY bJ bI bK l1 = some r) :
  Calls Try.prog 68 #[.agg #[.string aX, .string aU, .int .i64 aY, .int .i64 bJ, .int .i64 bI, .int .i64 bK], .slice A1 l1.length c1] w fun e w' => e = .returned (.int .i64 r) ∧ Below w.heap.size w w' := by
 have D8 := Try.underlying30; have HR1 := ah.mk hr1; have HC1 := ah.mk hc1; clear hr1 hc1; have HB := ah.mk (Below.refl w.heap.size w); have H := h; clear h
 dsimp only [dB.f] at H
 have HC3 := ah.mk H; clear H
 go_enter Try.func68, Try.ntmps68
 go_upto_region 1 with (first | ((with_reducible refine bD (N := 2) rfl ?_); (try (refine gF (by rfl) ?_; dsimp only)); refine bq ?hg (N := 2) ?hd (cs := #[.string aX, .string aU, .int .i64 aY, .int .i64 bJ, .int .i64 bI, .int .i64 bK]) (t := 30) ?hr ?_; (case hd => rfl); (case hg => rfl); (case hr => first | (go_simp; done) | (go_simp; rfl)); intro au hg w4 bF hb; have ak := ah.mk (bF); have fO := ah.mk ((zz0 : w.heap.size ≤ au)); have fD := ah.mk ((zz0 : w.heap.size ≤ au)); replace HB := ah.mk (aA zz1 hb); clear hb bF hg))
 (try simp only [Act.put, List.setIfInBounds_toArray, List.set_cons_zero, List.set_cons_succ])
 go_cut [23] (fun v23 wc => ∃ (kq : Nat) (Rp : Bool), v23 = .bool Rp ∧ ah (dB.j0 kq l1 Rp aX aU aY bJ bI bK = some r) ∧ ah (kq ≤ k) ∧ ah (wc.heap[au]? = some (.cells #[.string aX, .string aU, .int .i64 aY, .int .i64 bJ, .int .i64 bI, .int .i64 bK] 30 (0, 0))) ∧ ah (Below w.heap.size w wc))
 case first =>
  have H := HC3.out; clear HC3
  by_cases c5 : (l1.length : Int) < bI
  ·rw [if_pos c5] at H; have qd : decide ((l1.length : Int) < bI) = true := decide_eq_true c5; clear c5; (first | rw [qd] | (simp only [dJ, eu]; rw [qd]) | skip); have H' := ah.mk H; clear H; have xS : w4.cell? ⟨au, 0, none⟩ = some (.string aX) := cK ak 0; have xR : w4.cell? ⟨au, 1, none⟩ = some (.string aU) := cK ak 1; have Gs : w4.cell? ⟨au, 2, none⟩ = some (.int .i64 aY) := cK ak 2; have Gr : w4.cell? ⟨au, 3, none⟩ = some (.int .i64 bJ) := cK ak 3; have Gq : w4.cell? ⟨au, 4, none⟩ = some (.int .i64 bI) := cK ak 4; have Gp : w4.cell? ⟨au, 5, none⟩ = some (.int .i64 bK) := cK ak 5; have C9 := aj ak.out 0; have xP := aj ak.out 1; have Gn := aj ak.out 2; have Gm := aj ak.out 3; have Gl := aj ak.out 4; have Gj := aj ak.out 5
   go_wp2
   go_meet
   case rel => exact ⟨_, (true), zz2, H', ⟨zz3⟩, ⟨zz4⟩, ⟨zz5⟩⟩
  ·rw [if_neg c5] at H; have qd : decide ((l1.length : Int) < bI) = false := decide_eq_false c5; clear c5; (first | rw [qd] | (simp only [dJ, eu]; rw [qd]) | skip); obtain ⟨ji7, hji7⟩ : ∃ j_ : Int, (wrap64 ((l1.length : Int) - 1)) = j_ := ⟨_, rfl⟩; replace H : (if 0 ≤ (ji7) then (if (ji7) < (l1.length : Int) then (dB.j0 k l1 ((rd l1 (ji7)) == 0) aX aU aY bJ bI bK) else (none)) else (none)) = some r := by first | (rw [hji7] at H; exact H) | (simp only [hji7] at H ⊢; exact H)
   have hji7w : (IntKind.i64.wrap ((l1.length : Int) - 1)) = ji7 := (dJ _).trans hji7
   by_cases c8 : 0 ≤ (ji7)
   ·rw [if_pos c8] at H; have oq : decide (0 ≤ (ji7)) = true := decide_eq_true c8; clear c8
    by_cases c9 : (ji7) < (l1.length : Int)
    ·rw [if_pos c9] at H; have xV : decide ((ji7) < (l1.length : Int)) = true := decide_eq_true c9; clear c9; have H' := ah.mk H; clear H; have nY : w4.cell? ⟨au, 0, none⟩ = some (.string aX) := cK ak 0; have nX : w4.cell? ⟨au, 1, none⟩ = some (.string aU) := cK ak 1; have pF : w4.cell? ⟨au, 2, none⟩ = some (.int .i64 aY) := cK ak 2; have FE : w4.cell? ⟨au, 3, none⟩ = some (.int .i64 bJ) := cK ak 3; have FD : w4.cell? ⟨au, 4, none⟩ = some (.int .i64 bI) := cK ak 4; have FC : w4.cell? ⟨au, 5, none⟩ = some (.int .i64 bK) := cK ak 5; have nW := aj ak.out 0; have nV := aj ak.out 1; have oV := aj ak.out 2; have E5 := aj ak.out 3; have EZ := aj ak.out 4; have EY := aj ak.out 5; have p254 : 0 ≤ ((ji7) : Int) := of_decide_eq_true zz9; have q254 : (ji7) < (l1.length : Int) := of_decide_eq_true zz9; obtain ⟨ad254, e254, J6⟩ := Kd.jM HR1.out (ji7) p254 q254
     cases e254
     replace J6 := cB HB J6; replace p254 := eq_true p254; replace q254 := eq_true q254
     go_wp2
     go_meet
     case rel => exact ⟨_, (((rd l1 (ji7)) == 0)), (by first | rfl | (simp; done) | (simp only [← hji7] <;> (first | rfl | simp)) | (simp [*]; done)), H', ⟨zz3⟩, ⟨zz4⟩, ⟨zz5⟩⟩
    ·rw [if_neg c9] at H; exact absurd H (by simp)
   ·rw [if_neg c8] at H; exact absurd H (by simp)
 case rest =>
  clear HC3; (try clear c1); (try clear p2); (try clear q2); (try clear hx2); (try clear c5); (try clear qd); (try clear c6); (try clear p6); (try clear c8); (try clear oq); (try clear c9); (try clear xV); (try clear nY); (try clear nX); (try clear pF); (try clear FE); (try clear FD); (try clear FC); (try clear xS); (try clear xR); (try clear Gs); (try clear Gr); (try clear Gq); (try clear Gp); (try clear nW); (try clear nV); (try clear oV); (try clear E5); (try clear EZ); (try clear EY); (try clear C9); (try clear xP); (try clear Gn); (try clear Gm); (try clear Gl); (try clear Gj); (try clear J6); (try clear p254); (try clear q254); obtain ⟨kq, Rp, rfl, HA, HJ2, ak, HB⟩ := hcut
  cases kq with
  | zero => exact absurd HA.out (by simp [dB.j0])
  | succ kj2 =>
   have H := HA.out; clear HA; simp only [dB.j0] at H
   by_cases c11 : Rp = true
   ·subst c11; rw [if_pos rfl] at H; obtain rfl := Option.some.inj H
    go_wp2
    go_ret
    exact ⟨zz6, zz5⟩
   ·replace c11 := Bool.eq_false_iff.mpr c11; subst c11; rw [if_neg (show ¬ (false = true) by decide)] at H; obtain ⟨uX, IJ⟩ : ∃ j_ : Int, (wrap64 ((l1.length : Int) - 1)) = j_ := ⟨_, rfl⟩; replace H : (if 0 ≤ (uX) then (if (uX) < (l1.length : Int) then ((bits_Mul64.f (IntKind.u64.wrap (wrap64 (bI - 1))) 4611686018427387904).bind fun G9 => (if G9.1 ≥ (IntKind.u64.wrap (rd l1 (uX))) then (some 4611686018427387904) else ((sP.f G9.1 G9.2 (IntKind.u64.wrap (rd l1 (uX)))).bind fun Wy => (some (wrap64 (mn Wy.1 4611686018427387904)))))) else (none)) else (none)) = some r := by first | (rw [IJ] at H; exact H) | (simp only [IJ] at H ⊢; exact H)
    have hji12w : (IntKind.i64.wrap ((l1.length : Int) - 1)) = uX := (dJ _).trans IJ
    by_cases c13 : 0 ≤ (uX)
    ·rw [if_pos c13] at H; have IW : decide (0 ≤ (uX)) = true := decide_eq_true c13; clear c13
     by_cases c14 : (uX) < (l1.length : Int)
     ·rw [if_pos c14] at H; have Cx : decide ((uX) < (l1.length : Int)) = true := decide_eq_true c14; clear c14; replace H := Option.bind_eq_some_iff.mp H; obtain ⟨⟨OP, t257⟩, Oi, H⟩ := H
      try dsimp only at H
      have A15 := ah.mk Oi; clear Oi
      by_cases c16 : OP ≥ (IntKind.u64.wrap (rd l1 (uX)))
      ·rw [if_pos c16] at H; have l8 : decide ((IntKind.u64.wrap (rd l1 (uX))) ≤ OP) = true := decide_eq_true c16; clear c16; obtain rfl := Option.some.inj H; have Pt : 0 ≤ ((uX) : Int) := of_decide_eq_true zz9; have O5 : (uX) < (l1.length : Int) := of_decide_eq_true zz9; obtain ⟨ad255, e255, AV⟩ := Kd.jM HR1.out (uX) Pt O5
       cases e255
       replace AV := cB HB AV; replace Pt := eq_true Pt; replace O5 := eq_true O5; have FB : wc.cell? ⟨au, 0, none⟩ = some (.string aX) := cK ak 0; have Fz : wc.cell? ⟨au, 1, none⟩ = some (.string aU) := cK ak 1; have Fy : wc.cell? ⟨au, 2, none⟩ = some (.int .i64 aY) := cK ak 2; have K7 : wc.cell? ⟨au, 3, none⟩ = some (.int .i64 bJ) := cK ak 3; have K6 : wc.cell? ⟨au, 4, none⟩ = some (.int .i64 bI) := cK ak 4; have K5 : wc.cell? ⟨au, 5, none⟩ = some (.int .i64 bK) := cK ak 5; have EX := aj ak.out 0; have EW := aj ak.out 1; have EU := aj ak.out 2; have KC := aj ak.out 3; have KA := aj ak.out 4; have Kz := aj ak.out 5
       go_wp2_with (first | ((with_reducible refine aT (f := 97) rfl ?_); refine cu (some 38) rfl rfl Try.func97 (by kernel_rfl) rfl #[.int .u64 (IntKind.u64.wrap (wrap64 (bI - 1))), .int .u64 4611686018427387904] rfl zz8 ?_; (with_reducible refine (bits_Mul64.calls (IntKind.u64.wrap (wrap64 (bI - 1))) 4611686018427387904 OP t257 _ A15.out).mono ?_); rintro e w' ⟨rfl, ⟨nd, rfl⟩⟩; refine ⟨_, rfl, ?_⟩))
       go_ret
       exact ⟨by first | rfl | (simp [gX, gW] <;> rfl) | (simp only [← IJ]; first | rfl | (simp [gX, gW] <;> rfl)) | (simp [*, gX, gW] <;> rfl), zz5⟩
      ·rw [if_neg c16] at H; have l8 : decide ((IntKind.u64.wrap (rd l1 (uX))) ≤ OP) = false := decide_eq_false c16; clear c16; replace H := Option.bind_eq_some_iff.mp H; obtain ⟨⟨t258, t259⟩, A180, H⟩ := H
       try dsimp only at H
       have A18 := ah.mk A180; clear A180; obtain ⟨ji19, Gi⟩ : ∃ j_ : Int, (mn t258 4611686018427387904) = j_ := ⟨_, rfl⟩; replace H : (some (wrap64 (ji19))) = some r := by first | (rw [Gi] at H; exact H) | (simp only [Gi] at H ⊢; exact H)
       (try rw [Gi] at A15); (try rw [Gi] at A18); (try (have hji19h : ji19 ≤ 4611686018427387904 := by (rw [← Gi]; unfold mn; (repeat' split) <;> omega))); (try (have hji19g : ji19 ≤ 64 := by omega)); have hji19_ : (if 4611686018427387904 < t258 then 4611686018427387904 else t258) = ji19 := Gi; obtain rfl := Option.some.inj H; have Pt : 0 ≤ ((uX) : Int) := of_decide_eq_true zz9; have O5 : (uX) < (l1.length : Int) := of_decide_eq_true zz9; obtain ⟨ad255, e255, AV⟩ := Kd.jM HR1.out (uX) Pt O5
       cases e255
       replace AV := cB HB AV; replace Pt := eq_true Pt; replace O5 := eq_true O5; have oZ : wc.cell? ⟨au, 0, none⟩ = some (.string aX) := cK ak 0; have oW : wc.cell? ⟨au, 1, none⟩ = some (.string aU) := cK ak 1; have rO : wc.cell? ⟨au, 2, none⟩ = some (.int .i64 aY) := cK ak 2; have K4 : wc.cell? ⟨au, 3, none⟩ = some (.int .i64 bJ) := cK ak 3; have K3 : wc.cell? ⟨au, 4, none⟩ = some (.int .i64 bI) := cK ak 4; have KZ : wc.cell? ⟨au, 5, none⟩ = some (.int .i64 bK) := cK ak 5; have qx := aj ak.out 0; have oK := aj ak.out 1; have rG := aj ak.out 2; have Ky := aj ak.out 3; have Kw := aj ak.out 4; have Kv := aj ak.out 5
       go_wp2_with (first | ((with_reducible refine aT (f := 97) rfl ?_); refine cu (some 38) rfl rfl Try.func97 (by kernel_rfl) rfl #[.int .u64 (IntKind.u64.wrap (wrap64 (bI - 1))), .int .u64 4611686018427387904] rfl zz8 ?_; (with_reducible refine (bits_Mul64.calls (IntKind.u64.wrap (wrap64 (bI - 1))) 4611686018427387904 OP t257 _ A15.out).mono ?_); rintro e w' ⟨rfl, ⟨nd, rfl⟩⟩; refine ⟨_, rfl, ?_⟩) | ((with_reducible refine aT (f := 98) rfl ?_); refine cu (some 48) rfl rfl Try.func98 (by kernel_rfl) rfl #[.int .u64 OP, .int .u64 t257, .int .u64 (IntKind.u64.wrap (rd l1 (uX)))] rfl (by (try simp only [List.map_toArray, List.map_cons, List.map_nil]); first | done | (simp only [IJ]; rfl) | rfl | (simp only [List.length_drop, List.length_take]; rfl)) ?_; (with_reducible refine (sP.calls OP t257 (IntKind.u64.wrap (rd l1 (uX))) t258 t259 _ A18.out).mono ?_); rintro e w' ⟨rfl, ⟨nd, rfl⟩⟩; refine ⟨_, rfl, ?_⟩))
       go_ret
       exact ⟨by first | rfl | (simp [gX, gW] <;> rfl) | (simp only [← IJ, ← Gi]; first | rfl | (simp [gX, gW] <;> rfl)) | (simp [*, gX, gW] <;> rfl), zz5⟩
     ·rw [if_neg c14] at H; exact absurd H (by simp)
    ·rw [if_neg c13] at H; exact absurd H (by simp)
mutual
def bX.j0 : Nat → List Int → Bool → ByteArray → ByteArray → Int → Int → Int → Int → Int → Int → ByteArray → Option (Int)
 | 0, _, _, _, _, _, _, _, _, _, _, _ => none
 | k + 1, x1, x27, Xx, Xw, Xv, Xu, Xt, Xr, Xq, Xp, Xo => if x27 = true then (some 0) else ((bE.f k Xx Xw Xv Xu Xt Xr Xq Xp Xo).bind fun qB => (bX.l0 k x1 1073741824 qB (qB.length : Int) 0))
def bX.l0 : Nat → List Int → Int → List Int → Int → Int → Option (Int)
 | 0, _, _, _, _, _ => none
 | k + 1, x1, x7, x30, x31, x32 => if x32 < x31 then (if 0 ≤ x32 then (if x32 < (x30.length : Int) then (if 0 ≤ (rd x30 x32) then (if (rd x30 x32) < (x1.length : Int) then (bX.l0 k x1 (mn x7 (rd x1 (rd x30 x32))) x30 x31 (wrap64 (x32 + 1))) else (none)) else (none)) else (none)) else (none)) else (some x7)
end
def bX.f (k : Nat) (aX : ByteArray) (aU : ByteArray) (aY : Int) (bJ : Int) (bI : Int) (bK : Int) (l1 : List Int) (eD : Int) (fq : Int) (eZ : ByteArray) : Option (Int) := (bC.f k aX aU aY bJ bI bK l1).bind fun t262 => (if t262 = true then (if bJ = 2 then ((dB.f k aX aU aY bJ bI bK l1).bind fun t263 => (some t263)) else ((iM.f eD fq eZ).bind fun t264 => (if t264 = true then (bX.j0 k l1 (eD == 0) aX aU aY bJ bI bK eD fq eZ) else (bX.j0 k l1 true aX aU aY bJ bI bK eD fq eZ)))) else (some 0))
theorem bX.gM : ∀ k, (∀ y0 y1 y2 y3 y4 y5 y6 y7 y8 y9 y10, LeO (bX.j0 k y0 y1 y2 y3 y4 y5 y6 y7 y8 y9 y10) (bX.j0 (k + 1) y0 y1 y2 y3 y4 y5 y6 y7 y8 y9 y10)) ∧ (∀ y0 y1 y2 y3 y4, LeO (bX.l0 k y0 y1 y2 y3 y4) (bX.l0 (k + 1) y0 y1 y2 y3 y4))
 | 0 => ⟨fun _ _ _ _ _ _ _ _ _ _ _ r h => by simp [bX.j0] at h, fun _ _ _ _ _ r h => by simp [bX.l0] at h⟩
 | k + 1 => by
  obtain ⟨ih0, ih1⟩ := bX.gM k; refine ⟨?_, ?_⟩
  ·intro y0 y1 y2 y3 y4 y5 y6 y7 y8 y9 y10; unfold bX.j0
   repeat' first
   | (with_reducible exact ih0 _ _ _ _ _ _ _ _ _ _ _)
   | (with_reducible exact ih1 _ _ _ _ _)
   | (with_reducible exact bC.mono _ _ _ _ _ _ _ _)
   | (with_reducible exact dB.mono _ _ _ _ _ _ _ _)
   | (with_reducible exact bE.mono _ _ _ _ _ _ _ _ _ _)
   | (with_reducible exact LeO.refl _)
   | (with_reducible exact LeO.none _)
   | (with_reducible refine LeO.ite ?_ ?_)
   | (with_reducible refine LeO.bind ?_ (fun _ => ?_))
   | exact ih0 _ _ _ _ _ _ _ _ _ _ _
   | exact ih1 _ _ _ _ _
   | exact bC.mono _ _ _ _ _ _ _ _
   | exact dB.mono _ _ _ _ _ _ _ _
   | exact bE.mono _ _ _ _ _ _ _ _ _ _
   | exact LeO.none _
   | refine LeO.ite ?_ ?_
   | refine LeO.bind ?_ (fun _ => ?_)
  ·intro y0 y1 y2 y3 y4; unfold bX.l0
   repeat' first
   | (with_reducible exact ih0 _ _ _ _ _ _ _ _ _ _ _)
   | (with_reducible exact ih1 _ _ _ _ _)
   | (with_reducible exact bC.mono _ _ _ _ _ _ _ _)
   | (with_reducible exact dB.mono _ _ _ _ _ _ _ _)
   | (with_reducible exact bE.mono _ _ _ _ _ _ _ _ _ _)
   | (with_reducible exact LeO.refl _)
   | (with_reducible exact LeO.none _)
   | (with_reducible refine LeO.ite ?_ ?_)
   | (with_reducible refine LeO.bind ?_ (fun _ => ?_))
   | exact ih0 _ _ _ _ _ _ _ _ _ _ _
   | exact ih1 _ _ _ _ _
   | exact bC.mono _ _ _ _ _ _ _ _
   | exact dB.mono _ _ _ _ _ _ _ _
   | exact bE.mono _ _ _ _ _ _ _ _ _ _
   | exact LeO.none _
   | refine LeO.ite ?_ ?_
   | refine LeO.bind ?_ (fun _ => ?_)
theorem bX.mono : ∀ a0 a1 a2 a3 a4 a5 a6 a7 a8 a9 k, LeO (bX.f k a0 a1 a2 a3 a4 a5 a6 a7 a8 a9) (bX.f (k + 1) a0 a1 a2 a3 a4 a5 a6 a7 a8 a9) := by
 intro a0 a1 a2 a3 a4 a5 a6 a7 a8 a9 k; obtain ⟨ih0, ih1⟩ := bX.gM k; unfold bX.f
 repeat' first
   | (with_reducible exact ih0 _ _ _ _ _ _ _ _ _ _ _)
   | (with_reducible exact ih1 _ _ _ _ _)
   | (with_reducible exact bC.mono _ _ _ _ _ _ _ _)
   | (with_reducible exact dB.mono _ _ _ _ _ _ _ _)
   | (with_reducible exact bE.mono _ _ _ _ _ _ _ _ _ _)
   | (with_reducible exact LeO.refl _)
   | (with_reducible exact LeO.none _)
   | (with_reducible refine LeO.ite ?_ ?_)
   | (with_reducible refine LeO.bind ?_ (fun _ => ?_))
   | exact ih0 _ _ _ _ _ _ _ _ _ _ _
   | exact ih1 _ _ _ _ _
   | exact bC.mono _ _ _ _ _ _ _ _
   | exact dB.mono _ _ _ _ _ _ _ _
   | exact bE.mono _ _ _ _ _ _ _ _ _ _
   | exact LeO.none _
   | refine LeO.ite ?_ ?_
   | refine LeO.bind ?_ (fun _ => ?_)
set_option maxHeartbeats 8000000 in
set_option maxRecDepth 100000 in
theorem bX.calls (k : Nat) (aX : ByteArray) (aU : ByteArray) (aY : Int) (bJ : Int) (bI : Int) (bK : Int) (A1 : Option Addr) (c1 : Nat) (l1 : List Int) (eD : Int) (fq : Int) (eZ : ByteArray) (r : Int) (w : World) (hr1 : Kd.C (Kd.int .i64) w A1 l1.length l1) (hc1 : l1.length ≤ c1) (h : bX.f k aX aU aY bJ bI bK l1 eD fq eZ = some r) :
  Calls Try.prog 31 #[.agg #[.string aX, .string aU, .int .i64 aY, .int .i64 bJ, .int .i64 bI, .int .i64 bK], .slice A1 l1.length c1, .agg #[.int .i64 eD, .int .i64 fq, .string eZ]] w fun e w' => e = .returned (.int .i64 r) ∧ Below w.heap.size w w' := by
 have D8 := Try.underlying30; have sJ := Try.underlying23; have HR1 := ah.mk hr1; have HC1 := ah.mk hc1; clear hr1 hc1; have HB := ah.mk (Below.refl w.heap.size w); have H := h; clear h
 dsimp only [bX.f] at H
 replace H := Option.bind_eq_some_iff.mp H; obtain ⟨t262, A40, H⟩ := H; have A4 := ah.mk A40; clear A40
 by_cases c5 : t262 = true
 ·subst c5; rw [if_pos rfl] at H
  by_cases c6 : bJ = 2
  ·rw [if_pos c6] at H; have qD : (bJ == 2) = true := beq_iff_eq.mpr c6; have zT : (bJ != 2) = false := bne_eq_false_iff_eq.mpr c6; clear c6; replace H := Option.bind_eq_some_iff.mp H; obtain ⟨t263, A70, H⟩ := H; have A7 := ah.mk A70; clear A70; obtain rfl := Option.some.inj H
   go_enter Try.func31, Try.ntmps31
   go_wp2_with (first | ((with_reducible refine bD (N := 3) rfl ?_); refine bq ?hg (N := 3) ?hd (cs := #[.string aX, .string aU, .int .i64 aY, .int .i64 bJ, .int .i64 bI, .int .i64 bK]) (t := 30) ?hr ?_; (case hd => rfl); (case hg => rfl); (case hr => first | (go_simp; done) | (go_simp; rfl)); intro au hg w8 bF hb; have ak := ah.mk (bF); have fO := ah.mk ((zz0 : w.heap.size ≤ au)); have fD := ah.mk ((zz0 : w.heap.size ≤ au)); replace HB := ah.mk (aA zz1 hb); clear hb bF hg) | ((with_reducible refine bD (N := 5) rfl ?_); refine bq ?hg (N := 5) ?hd (cs := #[.int .i64 eD, .int .i64 fq, .string eZ]) (t := 23) ?hr ?_; (case hd => rfl); (case hg => rfl); (case hr => first | (go_simp; done) | (go_simp; rfl)); intro ay hg w9 bF hb; have av := ah.mk (bF); have iX := ah.mk ((jK : w.heap.size ≤ ay)); have iC := ah.mk ((jK : w.heap.size ≤ ay)); replace HB := ah.mk (aA zz5 hb); have aQ := ah.mk ((zB : au ≠ ay)); have aW := ah.mk ((zA : ay ≠ au)); replace ak := ah.mk (aI (g := au) (o := .cells #[.string aX, .string aU, .int .i64 aY, .int .i64 bJ, .int .i64 bI, .int .i64 bK] 30 (0, 0)) zz4 hb); clear hb bF hg; have hnb10 := aQ.out; have hnc10 := aW.out; have pE : w9.cell? ⟨au, 0, none⟩ = some (.string aX) := cK ak 0; have pz : w9.cell? ⟨au, 1, none⟩ = some (.string aU) := cK ak 1; have pq : w9.cell? ⟨au, 2, none⟩ = some (.int .i64 aY) := cK ak 2; have wB : w9.cell? ⟨au, 3, none⟩ = some (.int .i64 bJ) := cK ak 3; have wu : w9.cell? ⟨au, 4, none⟩ = some (.int .i64 bI) := cK ak 4; have wo : w9.cell? ⟨au, 5, none⟩ = some (.int .i64 bK) := cK ak 5; have oU := aj ak.out 0; have oQ := aj ak.out 1; have oP := aj ak.out 2; have wh := aj ak.out 3; have vZ := aj ak.out 4; have vY := aj ak.out 5) | ((with_reducible refine aT (f := 23) rfl ?_); refine cu (some 12) rfl rfl Try.func23 (by kernel_rfl) rfl #[.agg #[.string aX, .string aU, .int .i64 aY, .int .i64 bJ, .int .i64 bI, .int .i64 bK], .slice A1 l1.length c1] rfl zz8 ?_; (with_reducible refine (bC.calls k aX aU aY bJ bI bK _ _ l1 true _ ?bZ ?cO A4.out).mono ?_); (case bZ => repeat (first | exact (Kd.eY HR1.out HB.out) | (with_reducible refine Kd.dW ?_ _) | (with_reducible refine Kd.d9 ?_ _) | (with_reducible refine Kd.eT ?_))); (case cO => exact HC1.out); rintro e w12 ⟨rfl, hb⟩; refine ⟨_, rfl, ?_⟩; replace ak := ah.mk (aI (g := au) (o := .cells #[.string aX, .string aU, .int .i64 aY, .int .i64 bJ, .int .i64 bI, .int .i64 bK] 30 (0, 0)) zz4 hb); replace av := ah.mk (aI (g := ay) (o := .cells #[.int .i64 eD, .int .i64 fq, .string eZ] 23 (0, 0)) fK hb); replace HB := ah.mk (aA fF hb); (try clear hb); (try clear hb2); (try clear hk); (try clear hi); have rR : w12.cell? ⟨au, 0, none⟩ = some (.string aX) := cK ak 0; have rQ : w12.cell? ⟨au, 1, none⟩ = some (.string aU) := cK ak 1; have rP : w12.cell? ⟨au, 2, none⟩ = some (.int .i64 aY) := cK ak 2; have Ld : w12.cell? ⟨au, 3, none⟩ = some (.int .i64 bJ) := cK ak 3; have Lc : w12.cell? ⟨au, 4, none⟩ = some (.int .i64 bI) := cK ak 4; have Lb : w12.cell? ⟨au, 5, none⟩ = some (.int .i64 bK) := cK ak 5; have rM := aj ak.out 0; have rJ := aj ak.out 1; have rH := aj ak.out 2; have KI := aj ak.out 3; have KH := aj ak.out 4; have KG := aj ak.out 5) | ((with_reducible refine aT (f := 68) rfl ?_); refine cu (some 19) rfl rfl Try.func68 (by kernel_rfl) rfl #[.agg #[.string aX, .string aU, .int .i64 aY, .int .i64 bJ, .int .i64 bI, .int .i64 bK], .slice A1 l1.length c1] rfl zz8 ?_; (with_reducible refine (dB.calls k aX aU aY bJ bI bK _ _ l1 t263 _ ?bZ ?cO A7.out).mono ?_); (case bZ => repeat (first | exact (Kd.eY HR1.out HB.out) | (with_reducible refine Kd.dW ?_ _) | (with_reducible refine Kd.d9 ?_ _) | (with_reducible refine Kd.eT ?_))); (case cO => exact HC1.out); rintro e w14 ⟨rfl, hb⟩; refine ⟨_, rfl, ?_⟩; replace ak := ah.mk (aI (g := au) (o := .cells #[.string aX, .string aU, .int .i64 aY, .int .i64 bJ, .int .i64 bI, .int .i64 bK] 30 (0, 0)) zz4 hb); replace av := ah.mk (aI (g := ay) (o := .cells #[.int .i64 eD, .int .i64 fq, .string eZ] 23 (0, 0)) fK hb); replace HB := ah.mk (aA fF hb); (try clear hb); (try clear hb2); (try clear hk); (try clear hi)))
   go_ret
   exact ⟨zz6, fF⟩
  ·rw [if_neg c6] at H; have qD : (bJ == 2) = false := beq_eq_false_iff_ne.mpr c6; have zT : (bJ != 2) = true := bne_iff_ne.mpr c6; have HC15 := ah.mk H; clear H
   go_enter Try.func31, Try.ntmps31
   go_upto_region 5 with (first | ((with_reducible refine bD (N := 3) rfl ?_); refine bq ?hg (N := 3) ?hd (cs := #[.string aX, .string aU, .int .i64 aY, .int .i64 bJ, .int .i64 bI, .int .i64 bK]) (t := 30) ?hr ?_; (case hd => rfl); (case hg => rfl); (case hr => first | (go_simp; done) | (go_simp; rfl)); intro au hg w16 bF hb; have ak := ah.mk (bF); have fO := ah.mk ((zz0 : w.heap.size ≤ au)); have fD := ah.mk ((zz0 : w.heap.size ≤ au)); replace HB := ah.mk (aA zz1 hb); clear hb bF hg) | ((with_reducible refine bD (N := 5) rfl ?_); refine bq ?hg (N := 5) ?hd (cs := #[.int .i64 eD, .int .i64 fq, .string eZ]) (t := 23) ?hr ?_; (case hd => rfl); (case hg => rfl); (case hr => first | (go_simp; done) | (go_simp; rfl)); intro ay hg w17 bF hb; have av := ah.mk (bF); have iX := ah.mk ((jK : w.heap.size ≤ ay)); have iC := ah.mk ((jK : w.heap.size ≤ ay)); replace HB := ah.mk (aA zz5 hb); have aQ := ah.mk ((zB : au ≠ ay)); have aW := ah.mk ((zA : ay ≠ au)); replace ak := ah.mk (aI (g := au) (o := .cells #[.string aX, .string aU, .int .i64 aY, .int .i64 bJ, .int .i64 bI, .int .i64 bK] 30 (0, 0)) zz4 hb); clear hb bF hg; have hnb18 := aQ.out; have hnc18 := aW.out; have zh : w17.cell? ⟨au, 0, none⟩ = some (.string aX) := cK ak 0; have zf : w17.cell? ⟨au, 1, none⟩ = some (.string aU) := cK ak 1; have ze : w17.cell? ⟨au, 2, none⟩ = some (.int .i64 aY) := cK ak 2; have Co : w17.cell? ⟨au, 3, none⟩ = some (.int .i64 bJ) := cK ak 3; have Cn : w17.cell? ⟨au, 4, none⟩ = some (.int .i64 bI) := cK ak 4; have Cm : w17.cell? ⟨au, 5, none⟩ = some (.int .i64 bK) := cK ak 5; have yP := aj ak.out 0; have yO := aj ak.out 1; have yN := aj ak.out 2; have Ca := aj ak.out 3; have BZ := aj ak.out 4; have BX := aj ak.out 5) | ((with_reducible refine aT (f := 23) rfl ?_); refine cu (some 12) rfl rfl Try.func23 (by kernel_rfl) rfl #[.agg #[.string aX, .string aU, .int .i64 aY, .int .i64 bJ, .int .i64 bI, .int .i64 bK], .slice A1 l1.length c1] rfl zz8 ?_; (with_reducible refine (bC.calls k aX aU aY bJ bI bK _ _ l1 true _ ?bZ ?cO A4.out).mono ?_); (case bZ => repeat (first | exact (Kd.eY HR1.out HB.out) | (with_reducible refine Kd.dW ?_ _) | (with_reducible refine Kd.d9 ?_ _) | (with_reducible refine Kd.eT ?_))); (case cO => exact HC1.out); rintro e w20 ⟨rfl, hb⟩; refine ⟨_, rfl, ?_⟩; replace ak := ah.mk (aI (g := au) (o := .cells #[.string aX, .string aU, .int .i64 aY, .int .i64 bJ, .int .i64 bI, .int .i64 bK] 30 (0, 0)) zz4 hb); replace av := ah.mk (aI (g := ay) (o := .cells #[.int .i64 eD, .int .i64 fq, .string eZ] 23 (0, 0)) fK hb); replace HB := ah.mk (aA fF hb); (try clear hb); (try clear hb2); (try clear hk); (try clear hi); have za : w20.cell? ⟨au, 0, none⟩ = some (.string aX) := cK ak 0; have yZ : w20.cell? ⟨au, 1, none⟩ = some (.string aU) := cK ak 1; have yY : w20.cell? ⟨au, 2, none⟩ = some (.int .i64 aY) := cK ak 2; have KY : w20.cell? ⟨au, 3, none⟩ = some (.int .i64 bJ) := cK ak 3; have KX : w20.cell? ⟨au, 4, none⟩ = some (.int .i64 bI) := cK ak 4; have KW : w20.cell? ⟨au, 5, none⟩ = some (.int .i64 bK) := cK ak 5; have yM := aj ak.out 0; have yL := aj ak.out 1; have yK := aj ak.out 2; have Ku := aj ak.out 3; have Kt := aj ak.out 4; have Kr := aj ak.out 5))
   (try simp only [Act.put, List.setIfInBounds_toArray, List.set_cons_zero, List.set_cons_succ])
   go_cut [27] (fun v27 wc => ∃ (kq : Nat) (Jh : Bool), v27 = .bool Jh ∧ ah (bX.j0 kq l1 Jh aX aU aY bJ bI bK eD fq eZ = some r) ∧ ah (kq ≤ k) ∧ ah (wc.heap[au]? = some (.cells #[.string aX, .string aU, .int .i64 aY, .int .i64 bJ, .int .i64 bI, .int .i64 bK] 30 (0, 0))) ∧ ah (wc.heap[ay]? = some (.cells #[.int .i64 eD, .int .i64 fq, .string eZ] 23 (0, 0))) ∧ ah (Below w.heap.size w wc))
   case first =>
    have H := HC15.out; clear HC15; replace H := Option.bind_eq_some_iff.mp H; obtain ⟨t264, A220, H⟩ := H; have A22 := ah.mk A220; clear A220
    by_cases c23 : t264 = true
    ·subst c23; rw [if_pos rfl] at H; have H' := ah.mk H; clear H; have hnb24 := aW.out; have hnc24 := aQ.out; have Ck : w20.cell? ⟨ay, 0, none⟩ = some (.int .i64 eD) := cK av 0; have Cj : w20.cell? ⟨ay, 1, none⟩ = some (.int .i64 fq) := cK av 1; have Ci : w20.cell? ⟨ay, 2, none⟩ = some (.string eZ) := cK av 2; have BU := aj av.out 0; have BS := aj av.out 1; have BR := aj av.out 2
     go_wp2_with (first | ((with_reducible refine aT (f := 69) rfl ?_); refine cu (some 21) rfl rfl Try.func69 (by kernel_rfl) rfl #[.agg #[.int .i64 eD, .int .i64 fq, .string eZ]] rfl zz8 ?_; (with_reducible refine (iM.calls eD fq eZ true _ A22.out).mono ?_); rintro e w26 ⟨rfl, hb⟩; refine ⟨_, rfl, ?_⟩; replace ak := ah.mk (aI (g := au) (o := .cells #[.string aX, .string aU, .int .i64 aY, .int .i64 bJ, .int .i64 bI, .int .i64 bK] 30 (0, 0)) zz4 hb); replace av := ah.mk (aI (g := ay) (o := .cells #[.int .i64 eD, .int .i64 fq, .string eZ] 23 (0, 0)) fK hb); replace HB := ah.mk (aA fF hb); (try clear hb); (try clear hb2); (try clear hk); (try clear hi); have yX : w26.cell? ⟨ay, 0, none⟩ = some (.int .i64 eD) := cK av 0; have yV : w26.cell? ⟨ay, 1, none⟩ = some (.int .i64 fq) := cK av 1; have yU : w26.cell? ⟨ay, 2, none⟩ = some (.string eZ) := cK av 2; have yJ := aj av.out 0; have yI := aj av.out 1; have yH := aj av.out 2))
     go_meet
     case rel => exact ⟨_, ((eD == 0)), zz2, H', ⟨zz3⟩, ⟨zz4⟩, ⟨fK⟩, ⟨fF⟩⟩
    ·replace c23 := Bool.eq_false_iff.mpr c23; subst c23; rw [if_neg (show ¬ (false = true) by decide)] at H; have H' := ah.mk H; clear H; have hnb28 := aW.out; have hnc28 := aQ.out; have Fg : w20.cell? ⟨ay, 0, none⟩ = some (.int .i64 eD) := cK av 0; have Fe : w20.cell? ⟨ay, 1, none⟩ = some (.int .i64 fq) := cK av 1; have Fb : w20.cell? ⟨ay, 2, none⟩ = some (.string eZ) := cK av 2; have EK := aj av.out 0; have EJ := aj av.out 1; have EI := aj av.out 2
     go_wp2_with (first | ((with_reducible refine aT (f := 69) rfl ?_); refine cu (some 21) rfl rfl Try.func69 (by kernel_rfl) rfl #[.agg #[.int .i64 eD, .int .i64 fq, .string eZ]] rfl zz8 ?_; (with_reducible refine (iM.calls eD fq eZ false _ A22.out).mono ?_); rintro e w30 ⟨rfl, hb⟩; refine ⟨_, rfl, ?_⟩; replace ak := ah.mk (aI (g := au) (o := .cells #[.string aX, .string aU, .int .i64 aY, .int .i64 bJ, .int .i64 bI, .int .i64 bK] 30 (0, 0)) zz4 hb); replace av := ah.mk (aI (g := ay) (o := .cells #[.int .i64 eD, .int .i64 fq, .string eZ] 23 (0, 0)) fK hb); replace HB := ah.mk (aA fF hb); (try clear hb); (try clear hb2); (try clear hk); (try clear hi)))
     go_meet
     case rel => exact ⟨_, (true), zz2, H', ⟨zz3⟩, ⟨zz4⟩, ⟨fK⟩, ⟨fF⟩⟩
   case rest =>
    clear HC15; (try clear c1); (try clear c2); (try clear p2); (try clear c3); (try clear c5); (try clear c6); (try clear qD); (try clear zT); (try clear c10); (try clear c18); (try clear c23); (try clear c24); (try clear c28); (try clear pE); (try clear pz); (try clear pq); (try clear wB); (try clear wu); (try clear wo); (try clear rR); (try clear rQ); (try clear rP); (try clear Ld); (try clear Lc); (try clear Lb); (try clear zh); (try clear zf); (try clear ze); (try clear Co); (try clear Cn); (try clear Cm); (try clear za); (try clear yZ); (try clear yY); (try clear KY); (try clear KX); (try clear KW); (try clear Ck); (try clear Cj); (try clear Ci); (try clear yX); (try clear yV); (try clear yU); (try clear Fg); (try clear Fe); (try clear Fb); (try clear oU); (try clear oQ); (try clear oP); (try clear wh); (try clear vZ); (try clear vY); (try clear rM); (try clear rJ); (try clear rH); (try clear KI); (try clear KH); (try clear KG); (try clear yP); (try clear yO); (try clear yN); (try clear Ca); (try clear BZ); (try clear BX); (try clear yM); (try clear yL); (try clear yK); (try clear Ku); (try clear Kt); (try clear Kr); (try clear BU); (try clear BS); (try clear BR); (try clear yJ); (try clear yI); (try clear yH); (try clear EK); (try clear EJ); (try clear EI); obtain ⟨kq, Jh, rfl, HA, HJ14, ak, av, HB⟩ := hcut
    cases kq with
    | zero => exact absurd HA.out (by simp [bX.j0])
    | succ kj14 =>
     have H := HA.out; clear HA; simp only [bX.j0] at H
     by_cases c31 : Jh = true
     ·subst c31; rw [if_pos rfl] at H; obtain rfl := Option.some.inj H
      go_wp2
      go_ret
      exact ⟨zz6, fF⟩
     ·replace c31 := Bool.eq_false_iff.mpr c31; subst c31; rw [if_neg (show ¬ (false = true) by decide)] at H; replace H := Option.bind_eq_some_iff.mp H; obtain ⟨qB, A320, H⟩ := H; have A32 := ah.mk A320; clear A320; have H' := ah.mk H; clear H; have hnb33 := aQ.out; have hnc33 := aW.out; have Fa : wc.cell? ⟨au, 0, none⟩ = some (.string aX) := cK ak 0; have E9 : wc.cell? ⟨au, 1, none⟩ = some (.string aU) := cK ak 1; have E8 : wc.cell? ⟨au, 2, none⟩ = some (.int .i64 aY) := cK ak 2; have KO : wc.cell? ⟨au, 3, none⟩ = some (.int .i64 bJ) := cK ak 3; have KN : wc.cell? ⟨au, 4, none⟩ = some (.int .i64 bI) := cK ak 4; have KM : wc.cell? ⟨au, 5, none⟩ = some (.int .i64 bK) := cK ak 5; have EH := aj ak.out 0; have EG := aj ak.out 1; have EF := aj ak.out 2; have Ki := aj ak.out 3; have Kh := aj ak.out 4; have Kg := aj ak.out 5; have Te : wc.cell? ⟨ay, 0, none⟩ = some (.int .i64 eD) := cK av 0; have Td : wc.cell? ⟨ay, 1, none⟩ = some (.int .i64 fq) := cK av 1; have Tc : wc.cell? ⟨ay, 2, none⟩ = some (.string eZ) := cK av 2; have SQ := aj av.out 0; have SN := aj av.out 1; have SL := aj av.out 2
      go_wp2_with (first | ((with_reducible refine aT (f := 67) rfl ?_); refine cu (some 30) rfl rfl Try.func67 (by kernel_rfl) rfl #[.agg #[.string aX, .string aU, .int .i64 aY, .int .i64 bJ, .int .i64 bI, .int .i64 bK], .agg #[.int .i64 eD, .int .i64 fq, .string eZ]] rfl zz8 ?_; (with_reducible refine (bE.calls kj14 aX aU aY bJ bI bK eD fq eZ qB _ A32.out).mono ?_); rintro e w36 ⟨v266, rfl, ho0, hb⟩; refine ⟨_, rfl, ?_⟩; have iB := ah.mk (Kd.jv ho0 (bW fF)); replace ak := ah.mk (aI (g := au) (o := .cells #[.string aX, .string aU, .int .i64 aY, .int .i64 bJ, .int .i64 bI, .int .i64 bK] 30 (0, 0)) zz4 hb); replace av := ah.mk (aI (g := ay) (o := .cells #[.int .i64 eD, .int .i64 fq, .string eZ] 23 (0, 0)) fK hb); replace HB := ah.mk (aA fF hb); (try clear hb); (try clear hb2); (try clear hk); (try clear hi); (try clear ho0); obtain ⟨Ao37, NG, NA⟩ := Kd.gH iB.out; subst NA))
      go_loopg [7, 32] kj14 (fun kq v7 v32 w' => ∃ (vo : Int) (mE : Int), v7 = .int .i64 vo ∧ v32 = .int .i64 mE ∧ ah (bX.l0 kq l1 vo qB (qB.length : Int) mE = some r) ∧ ah (kq ≤ kj14) ∧ ah (Kd.R (Kd.int .i64) 3 w' w.heap.size (fun _ => True) (.slice Ao37 qB.length NG) qB) ∧ ah (w'.heap[au]? = some (.cells #[.string aX, .string aU, .int .i64 aY, .int .i64 bJ, .int .i64 bI, .int .i64 bK] 30 (0, 0))) ∧ ah (w'.heap[ay]? = some (.cells #[.int .i64 eD, .int .i64 fq, .string eZ] 23 (0, 0))) ∧ ah (Below w.heap.size w w'))
      case atStart => exact ⟨(1073741824), (0), zz2, zz2, H', ⟨Nat.le_refl _⟩, ⟨Ol⟩, ⟨zz4⟩, ⟨fK⟩, ⟨fF⟩⟩
      case round =>
       clear H'; (try clear c1); (try clear c2); (try clear p2); (try clear c3); (try clear c5); (try clear c6); (try clear qD); (try clear zT); (try clear c10); (try clear c18); (try clear c23); (try clear c24); (try clear c28); (try clear c31); (try clear c33); (try clear pE); (try clear pz); (try clear pq); (try clear wB); (try clear wu); (try clear wo); (try clear rR); (try clear rQ); (try clear rP); (try clear Ld); (try clear Lc); (try clear Lb); (try clear zh); (try clear zf); (try clear ze); (try clear Co); (try clear Cn); (try clear Cm); (try clear za); (try clear yZ); (try clear yY); (try clear KY); (try clear KX); (try clear KW); (try clear Ck); (try clear Cj); (try clear Ci); (try clear yX); (try clear yV); (try clear yU); (try clear Fg); (try clear Fe); (try clear Fb); (try clear Fa); (try clear E9); (try clear E8); (try clear KO); (try clear KN); (try clear KM); (try clear Te); (try clear Td); (try clear Tc); (try clear oU); (try clear oQ); (try clear oP); (try clear wh); (try clear vZ); (try clear vY); (try clear rM); (try clear rJ); (try clear rH); (try clear KI); (try clear KH); (try clear KG); (try clear yP); (try clear yO); (try clear yN); (try clear Ca); (try clear BZ); (try clear BX); (try clear yM); (try clear yL); (try clear yK); (try clear Ku); (try clear Kt); (try clear Kr); (try clear BU); (try clear BS); (try clear BR); (try clear yJ); (try clear yI); (try clear yH); (try clear EK); (try clear EJ); (try clear EI); (try clear EH); (try clear EG); (try clear EF); (try clear Ki); (try clear Kh); (try clear Kg); (try clear SQ); (try clear SN); (try clear SL); (try clear p2); obtain ⟨vo, mE, rfl, rfl, HA, HK2, HO_30, ak, av, HB⟩ := hrel
       cases gk with
       | zero => exact absurd HA.out (by simp [bX.l0])
       | succ k2 =>
        have H := HA.out; clear HA; simp only [bX.l0] at H
        by_cases c38 : mE < (qB.length : Int)
        ·rw [if_pos c38] at H; have c38b0 : decide (mE < (qB.length : Int)) = true := decide_eq_true c38; clear c38
         by_cases c39 : 0 ≤ mE
         ·rw [if_pos c39] at H; have c39b0 : decide (0 ≤ mE) = true := decide_eq_true c39; clear c39
          by_cases c40 : mE < (qB.length : Int)
          ·rw [if_pos c40] at H; have c40b0 : decide (mE < (qB.length : Int)) = true := decide_eq_true c40; clear c40
           by_cases c41 : 0 ≤ (rd qB mE)
           ·rw [if_pos c41] at H; have c41b0 : decide (0 ≤ (rd qB mE)) = true := decide_eq_true c41; clear c41
            by_cases c42 : (rd qB mE) < (l1.length : Int)
            ·rw [if_pos c42] at H; have c42b0 : decide ((rd qB mE) < (l1.length : Int)) = true := decide_eq_true c42; clear c42; obtain ⟨ji43, Sm⟩ : ∃ j_ : Int, (mn vo (rd l1 (rd qB mE))) = j_ := ⟨_, rfl⟩; replace H : (bX.l0 k2 l1 ji43 qB (qB.length : Int) (wrap64 (mE + 1))) = some r := by first | (rw [Sm] at H; exact H) | (simp only [Sm] at H ⊢; exact H)
             have hji43_ : (if (rd l1 (rd qB mE)) < vo then (rd l1 (rd qB mE)) else vo) = ji43 := Sm; have H' := ah.mk H; clear H; have p268 : 0 ≤ (mE : Int) := of_decide_eq_true zz9; have q268 : mE < (qB.length : Int) := of_decide_eq_true zz9; obtain ⟨ad268, e268, hx268_0⟩ := Kd.jM (Kd.dP HO_30.out).2.2 mE p268 q268
             cases e268
             replace p268 := eq_true p268; replace q268 := eq_true q268; have p269 : 0 ≤ ((rd qB mE) : Int) := of_decide_eq_true zz9; have q269 : (rd qB mE) < (l1.length : Int) := of_decide_eq_true zz9; obtain ⟨ad269, e269, RQ⟩ := Kd.jM HR1.out (rd qB mE) p269 q269
             cases e269
             replace RQ := cB HB RQ; replace p269 := eq_true p269; replace q269 := eq_true q269
             go_wp2
             go_roundg k2
             case measure => have := HJ14.out; have := HK2.out; omega
             case rel => exact ⟨(ji43), (wrap64 (mE + 1)), (by first | rfl | (simp; done) | (simp only [← Sm] <;> (first | rfl | simp)) | (simp [*]; done)), zz2, H', ⟨by have := HJ14.out; have := HK2.out; omega⟩, ⟨by (with_reducible repeat (first | apply Kd.fJ | apply Kd.fH | apply Kd.eO)); exact HO_30.out⟩, ⟨zz4⟩, ⟨fK⟩, ⟨fF⟩⟩
            ·rw [if_neg c42] at H; exact absurd H (by simp)
           ·rw [if_neg c41] at H; exact absurd H (by simp)
          ·rw [if_neg c40] at H; exact absurd H (by simp)
         ·rw [if_neg c39] at H; exact absurd H (by simp)
        ·rw [if_neg c38] at H; have c38b0 : decide (mE < (qB.length : Int)) = false := decide_eq_false c38; clear c38; obtain rfl := Option.some.inj H
         go_wp2
         go_ret
         exact ⟨zz6, fF⟩
 ·replace c5 := Bool.eq_false_iff.mpr c5; subst c5; rw [if_neg (show ¬ (false = true) by decide)] at H; obtain rfl := Option.some.inj H
  go_enter Try.func31, Try.ntmps31
  go_wp2_with (first | ((with_reducible refine bD (N := 3) rfl ?_); refine bq ?hg (N := 3) ?hd (cs := #[.string aX, .string aU, .int .i64 aY, .int .i64 bJ, .int .i64 bI, .int .i64 bK]) (t := 30) ?hr ?_; (case hd => rfl); (case hg => rfl); (case hr => first | (go_simp; done) | (go_simp; rfl)); intro au hg w44 bF hb; have ak := ah.mk (bF); have fO := ah.mk ((zz0 : w.heap.size ≤ au)); have fD := ah.mk ((zz0 : w.heap.size ≤ au)); replace HB := ah.mk (aA zz1 hb); clear hb bF hg) | ((with_reducible refine bD (N := 5) rfl ?_); refine bq ?hg (N := 5) ?hd (cs := #[.int .i64 eD, .int .i64 fq, .string eZ]) (t := 23) ?hr ?_; (case hd => rfl); (case hg => rfl); (case hr => first | (go_simp; done) | (go_simp; rfl)); intro ay hg w45 bF hb; have av := ah.mk (bF); have iX := ah.mk ((jK : w.heap.size ≤ ay)); have iC := ah.mk ((jK : w.heap.size ≤ ay)); replace HB := ah.mk (aA zz5 hb); have aQ := ah.mk ((zB : au ≠ ay)); have aW := ah.mk ((zA : ay ≠ au)); replace ak := ah.mk (aI (g := au) (o := .cells #[.string aX, .string aU, .int .i64 aY, .int .i64 bJ, .int .i64 bI, .int .i64 bK] 30 (0, 0)) zz4 hb); clear hb bF hg; have hnb46 := aQ.out; have hnc46 := aW.out; have ZA : w45.cell? ⟨au, 0, none⟩ = some (.string aX) := cK ak 0; have Zz : w45.cell? ⟨au, 1, none⟩ = some (.string aU) := cK ak 1; have Zy : w45.cell? ⟨au, 2, none⟩ = some (.int .i64 aY) := cK ak 2; have Zx : w45.cell? ⟨au, 3, none⟩ = some (.int .i64 bJ) := cK ak 3; have Zw : w45.cell? ⟨au, 4, none⟩ = some (.int .i64 bI) := cK ak 4; have Zv : w45.cell? ⟨au, 5, none⟩ = some (.int .i64 bK) := cK ak 5; have YR := aj ak.out 0; have YQ := aj ak.out 1; have YP := aj ak.out 2; have YO := aj ak.out 3; have YN := aj ak.out 4; have YM := aj ak.out 5) | ((with_reducible refine aT (f := 23) rfl ?_); refine cu (some 12) rfl rfl Try.func23 (by kernel_rfl) rfl #[.agg #[.string aX, .string aU, .int .i64 aY, .int .i64 bJ, .int .i64 bI, .int .i64 bK], .slice A1 l1.length c1] rfl zz8 ?_; (with_reducible refine (bC.calls k aX aU aY bJ bI bK _ _ l1 false _ ?bZ ?cO A4.out).mono ?_); (case bZ => repeat (first | exact (Kd.eY HR1.out HB.out) | (with_reducible refine Kd.dW ?_ _) | (with_reducible refine Kd.d9 ?_ _) | (with_reducible refine Kd.eT ?_))); (case cO => exact HC1.out); rintro e w48 ⟨rfl, hb⟩; refine ⟨_, rfl, ?_⟩; replace ak := ah.mk (aI (g := au) (o := .cells #[.string aX, .string aU, .int .i64 aY, .int .i64 bJ, .int .i64 bI, .int .i64 bK] 30 (0, 0)) zz4 hb); replace av := ah.mk (aI (g := ay) (o := .cells #[.int .i64 eD, .int .i64 fq, .string eZ] 23 (0, 0)) fK hb); replace HB := ah.mk (aA fF hb); (try clear hb); (try clear hb2); (try clear hk); (try clear hi)))
  go_ret
  exact ⟨zz6, fF⟩
def iN.f (aX : Int) (aU : Int) (aY : ByteArray) : Option (Bool) := if aX = 0 then (if aU = 0 then (some (aY.toList == ([] : List UInt8))) else (some false)) else (if aX = 1 then (if aU ≥ (-4294967296) then (if aU ≤ 4294967296 then (some (aY.toList == ([] : List UInt8))) else (some false)) else (some false)) else (if aX = 2 then (if aU = 0 then (some (decide ((aY.size : Int) ≤ 32))) else (some false)) else (some false)))
set_option maxHeartbeats 8000000 in
set_option maxRecDepth 100000 in
theorem iN.calls (aX : Int) (aU : Int) (aY : ByteArray) (r : Bool) (w : World) (h : iN.f aX aU aY = some r) :
  Calls Try.prog 111 #[.agg #[.int .i64 aX, .int .i64 aU, .string aY]] w fun e w' => e = .returned (.bool r) ∧ Below w.heap.size w w' := by
 have sJ := Try.underlying23; have HB := ah.mk (Below.refl w.heap.size w); have H := h; clear h
 dsimp only [iN.f] at H
 by_cases c2 : aX = 0
 ·rw [if_pos c2] at H; have pK : (aX == 0) = true := beq_iff_eq.mpr c2; have Dj : (aX != 0) = false := bne_eq_false_iff_eq.mpr c2; clear c2
  by_cases c3 : aU = 0
  ·rw [if_pos c3] at H; have tH : (aU == 0) = true := beq_iff_eq.mpr c3; have Ik : (aU != 0) = false := bne_eq_false_iff_eq.mpr c3; clear c3; obtain rfl := Option.some.inj H
   go_enter Try.func111, Try.ntmps111
   go_wp2_with (first | ((with_reducible refine bD (N := 1) rfl ?_); (try (refine gF (by rfl) ?_; dsimp only)); refine bq ?hg (N := 1) ?hd (cs := #[.int .i64 aX, .int .i64 aU, .string aY]) (t := 23) ?hr ?_; (case hd => rfl); (case hg => rfl); (case hr => first | (go_simp; done) | (go_simp; rfl)); intro au hg w4 bF hb; have ak := ah.mk (bF); have fO := ah.mk ((zz0 : w.heap.size ≤ au)); have fD := ah.mk ((zz0 : w.heap.size ≤ au)); replace HB := ah.mk (aA zz1 hb); clear hb bF hg; have Dh : w4.cell? ⟨au, 0, none⟩ = some (.int .i64 aX) := cK ak 0; have Dg : w4.cell? ⟨au, 1, none⟩ = some (.int .i64 aU) := cK ak 1; have Df : w4.cell? ⟨au, 2, none⟩ = some (.string aY) := cK ak 2; have Dc := aj ak.out 0; have Db := aj ak.out 1; have Da := aj ak.out 2))
   go_ret
   exact ⟨zz6, zz5⟩
  ·rw [if_neg c3] at H; have tH : (aU == 0) = false := beq_eq_false_iff_ne.mpr c3; have Ik : (aU != 0) = true := bne_iff_ne.mpr c3; obtain rfl := Option.some.inj H
   go_enter Try.func111, Try.ntmps111
   go_wp2_with (first | ((with_reducible refine bD (N := 1) rfl ?_); (try (refine gF (by rfl) ?_; dsimp only)); refine bq ?hg (N := 1) ?hd (cs := #[.int .i64 aX, .int .i64 aU, .string aY]) (t := 23) ?hr ?_; (case hd => rfl); (case hg => rfl); (case hr => first | (go_simp; done) | (go_simp; rfl)); intro au hg w6 bF hb; have ak := ah.mk (bF); have fO := ah.mk ((zz0 : w.heap.size ≤ au)); have fD := ah.mk ((zz0 : w.heap.size ≤ au)); replace HB := ah.mk (aA zz1 hb); clear hb bF hg; have uP : w6.cell? ⟨au, 0, none⟩ = some (.int .i64 aX) := cK ak 0; have uO : w6.cell? ⟨au, 1, none⟩ = some (.int .i64 aU) := cK ak 1; have xQ : w6.cell? ⟨au, 2, none⟩ = some (.string aY) := cK ak 2; have xO := aj ak.out 0; have uL := aj ak.out 1; have xM := aj ak.out 2))
   go_ret
   exact ⟨zz6, zz5⟩
 ·rw [if_neg c2] at H; have pK : (aX == 0) = false := beq_eq_false_iff_ne.mpr c2; have Dj : (aX != 0) = true := bne_iff_ne.mpr c2
  by_cases c8 : aX = 1
  ·rw [if_pos c8] at H; have oq : (aX == 1) = true := beq_iff_eq.mpr c8; have Ea : (aX != 1) = false := bne_eq_false_iff_eq.mpr c8; clear c8
   by_cases c9 : aU ≥ (-4294967296)
   ·rw [if_pos c9] at H; have xV : decide ((-4294967296) ≤ aU) = true := decide_eq_true c9; clear c9
    by_cases c10 : aU ≤ 4294967296
    ·rw [if_pos c10] at H; have wT : decide (aU ≤ 4294967296) = true := decide_eq_true c10; clear c10; obtain rfl := Option.some.inj H
     go_enter Try.func111, Try.ntmps111
     go_wp2_with (first | ((with_reducible refine bD (N := 1) rfl ?_); (try (refine gF (by rfl) ?_; dsimp only)); refine bq ?hg (N := 1) ?hd (cs := #[.int .i64 aX, .int .i64 aU, .string aY]) (t := 23) ?hr ?_; (case hd => rfl); (case hg => rfl); (case hr => first | (go_simp; done) | (go_simp; rfl)); intro au hg w11 bF hb; have ak := ah.mk (bF); have fO := ah.mk ((zz0 : w.heap.size ≤ au)); have fD := ah.mk ((zz0 : w.heap.size ≤ au)); replace HB := ah.mk (aA zz1 hb); clear hb bF hg; have nK : w11.cell? ⟨au, 0, none⟩ = some (.int .i64 aX) := cK ak 0; have nJ : w11.cell? ⟨au, 1, none⟩ = some (.int .i64 aU) := cK ak 1; have nI : w11.cell? ⟨au, 2, none⟩ = some (.string aY) := cK ak 2; have nH := aj ak.out 0; have nG := aj ak.out 1; have nE := aj ak.out 2))
     go_ret
     exact ⟨zz6, zz5⟩
    ·rw [if_neg c10] at H; have wT : decide (aU ≤ 4294967296) = false := decide_eq_false c10; clear c10; obtain rfl := Option.some.inj H
     go_enter Try.func111, Try.ntmps111
     go_wp2_with (first | ((with_reducible refine bD (N := 1) rfl ?_); (try (refine gF (by rfl) ?_; dsimp only)); refine bq ?hg (N := 1) ?hd (cs := #[.int .i64 aX, .int .i64 aU, .string aY]) (t := 23) ?hr ?_; (case hd => rfl); (case hg => rfl); (case hr => first | (go_simp; done) | (go_simp; rfl)); intro au hg w13 bF hb; have ak := ah.mk (bF); have fO := ah.mk ((zz0 : w.heap.size ≤ au)); have fD := ah.mk ((zz0 : w.heap.size ≤ au)); replace HB := ah.mk (aA zz1 hb); clear hb bF hg; have o9 : w13.cell? ⟨au, 0, none⟩ = some (.int .i64 aX) := cK ak 0; have o8 : w13.cell? ⟨au, 1, none⟩ = some (.int .i64 aU) := cK ak 1; have o7 : w13.cell? ⟨au, 2, none⟩ = some (.string aY) := cK ak 2; have oO := aj ak.out 0; have oM := aj ak.out 1; have oL := aj ak.out 2))
     go_ret
     exact ⟨zz6, zz5⟩
   ·rw [if_neg c9] at H; have xV : decide ((-4294967296) ≤ aU) = false := decide_eq_false c9; clear c9; obtain rfl := Option.some.inj H
    go_enter Try.func111, Try.ntmps111
    go_wp2_with (first | ((with_reducible refine bD (N := 1) rfl ?_); (try (refine gF (by rfl) ?_; dsimp only)); refine bq ?hg (N := 1) ?hd (cs := #[.int .i64 aX, .int .i64 aU, .string aY]) (t := 23) ?hr ?_; (case hd => rfl); (case hg => rfl); (case hr => first | (go_simp; done) | (go_simp; rfl)); intro au hg w15 bF hb; have ak := ah.mk (bF); have fO := ah.mk ((zz0 : w.heap.size ≤ au)); have fD := ah.mk ((zz0 : w.heap.size ≤ au)); replace HB := ah.mk (aA zz1 hb); clear hb bF hg; have Cu : w15.cell? ⟨au, 0, none⟩ = some (.int .i64 aX) := cK ak 0; have Ct : w15.cell? ⟨au, 1, none⟩ = some (.int .i64 aU) := cK ak 1; have Cr : w15.cell? ⟨au, 2, none⟩ = some (.string aY) := cK ak 2; have Ch := aj ak.out 0; have Cg := aj ak.out 1; have Ce := aj ak.out 2))
    go_ret
    exact ⟨zz6, zz5⟩
  ·rw [if_neg c8] at H; have oq : (aX == 1) = false := beq_eq_false_iff_ne.mpr c8; have Ea : (aX != 1) = true := bne_iff_ne.mpr c8
   by_cases c17 : aX = 2
   ·rw [if_pos c17] at H; have Wo : (aX == 2) = true := beq_iff_eq.mpr c17; have c17b1 : (aX != 2) = false := bne_eq_false_iff_eq.mpr c17; clear c17
    by_cases c18 : aU = 0
    ·rw [if_pos c18] at H; have IU : (aU == 0) = true := beq_iff_eq.mpr c18; have Wn : (aU != 0) = false := bne_eq_false_iff_eq.mpr c18; clear c18; obtain rfl := Option.some.inj H
     go_enter Try.func111, Try.ntmps111
     go_wp2_with (first | ((with_reducible refine bD (N := 1) rfl ?_); (try (refine gF (by rfl) ?_; dsimp only)); refine bq ?hg (N := 1) ?hd (cs := #[.int .i64 aX, .int .i64 aU, .string aY]) (t := 23) ?hr ?_; (case hd => rfl); (case hg => rfl); (case hr => first | (go_simp; done) | (go_simp; rfl)); intro au hg w19 bF hb; have ak := ah.mk (bF); have fO := ah.mk ((zz0 : w.heap.size ≤ au)); have fD := ah.mk ((zz0 : w.heap.size ≤ au)); replace HB := ah.mk (aA zz1 hb); clear hb bF hg; have oZ : w19.cell? ⟨au, 0, none⟩ = some (.int .i64 aX) := cK ak 0; have oW : w19.cell? ⟨au, 1, none⟩ = some (.int .i64 aU) := cK ak 1; have rO : w19.cell? ⟨au, 2, none⟩ = some (.string aY) := cK ak 2; have qx := aj ak.out 0; have oK := aj ak.out 1; have rG := aj ak.out 2))
     go_ret
     exact ⟨zz6, zz5⟩
    ·rw [if_neg c18] at H; have IU : (aU == 0) = false := beq_eq_false_iff_ne.mpr c18; have Wn : (aU != 0) = true := bne_iff_ne.mpr c18; obtain rfl := Option.some.inj H
     go_enter Try.func111, Try.ntmps111
     go_wp2_with (first | ((with_reducible refine bD (N := 1) rfl ?_); (try (refine gF (by rfl) ?_; dsimp only)); refine bq ?hg (N := 1) ?hd (cs := #[.int .i64 aX, .int .i64 aU, .string aY]) (t := 23) ?hr ?_; (case hd => rfl); (case hg => rfl); (case hr => first | (go_simp; done) | (go_simp; rfl)); intro au hg w21 bF hb; have ak := ah.mk (bF); have fO := ah.mk ((zz0 : w.heap.size ≤ au)); have fD := ah.mk ((zz0 : w.heap.size ≤ au)); replace HB := ah.mk (aA zz1 hb); clear hb bF hg; have Fx : w21.cell? ⟨au, 0, none⟩ = some (.int .i64 aX) := cK ak 0; have Fw : w21.cell? ⟨au, 1, none⟩ = some (.int .i64 aU) := cK ak 1; have Fv : w21.cell? ⟨au, 2, none⟩ = some (.string aY) := cK ak 2; have ET := aj ak.out 0; have ES := aj ak.out 1; have ER := aj ak.out 2))
     go_ret
     exact ⟨zz6, zz5⟩
   ·rw [if_neg c17] at H; have Wo : (aX == 2) = false := beq_eq_false_iff_ne.mpr c17; have c17b1 : (aX != 2) = true := bne_iff_ne.mpr c17; obtain rfl := Option.some.inj H
    go_enter Try.func111, Try.ntmps111
    go_wp2_with (first | ((with_reducible refine bD (N := 1) rfl ?_); (try (refine gF (by rfl) ?_; dsimp only)); refine bq ?hg (N := 1) ?hd (cs := #[.int .i64 aX, .int .i64 aU, .string aY]) (t := 23) ?hr ?_; (case hd => rfl); (case hg => rfl); (case hr => first | (go_simp; done) | (go_simp; rfl)); intro au hg w23 bF hb; have ak := ah.mk (bF); have fO := ah.mk ((zz0 : w.heap.size ≤ au)); have fD := ah.mk ((zz0 : w.heap.size ≤ au)); replace HB := ah.mk (aA zz1 hb); clear hb bF hg; have KV : w23.cell? ⟨au, 0, none⟩ = some (.int .i64 aX) := cK ak 0; have KU : w23.cell? ⟨au, 1, none⟩ = some (.int .i64 aU) := cK ak 1; have KT : w23.cell? ⟨au, 2, none⟩ = some (.string aY) := cK ak 2; have Kq := aj ak.out 0; have Ko := aj ak.out 1; have Kn := aj ak.out 2))
    go_ret
    exact ⟨zz6, zz5⟩
def dM.f (aX : Int) (aU : Int) (aY : ByteArray) : Option (Int × Int × ByteArray) := (iN.f aX aU aY).bind fun t273 => (if t273 = true then (some (aX, aU, aY)) else (some (0, 0, (⟨#[]⟩ : ByteArray))))
set_option maxHeartbeats 8000000 in
set_option maxRecDepth 100000 in
theorem dM.calls (aX : Int) (aU : Int) (aY : ByteArray) (r1 : Int) (r2 : Int) (r3 : ByteArray) (w : World) (h : dM.f aX aU aY = some (r1, r2, r3)) :
  Calls Try.prog 84 #[.agg #[.int .i64 aX, .int .i64 aU, .string aY]] w fun e w' => e = .returned (.agg #[.int .i64 r1, .int .i64 r2, .string r3]) ∧ Below w.heap.size w w' := by
 have sJ := Try.underlying23; have HB := ah.mk (Below.refl w.heap.size w); have H := h; clear h
 dsimp only [dM.f] at H
 replace H := Option.bind_eq_some_iff.mp H; obtain ⟨t273, A20, H⟩ := H; have A2 := ah.mk A20; clear A20
 by_cases c3 : t273 = true
 ·subst c3; rw [if_pos rfl] at H; simp only [Option.some.injEq, Prod.mk.injEq] at H; obtain ⟨rfl, rfl, rfl⟩ := H
  go_enter Try.func84, Try.ntmps84
  go_wp2_with (first | ((with_reducible refine bD (N := 1) rfl ?_); refine bq ?hg (N := 1) ?hd (cs := #[.int .i64 aX, .int .i64 aU, .string aY]) (t := 23) ?hr ?_; (case hd => rfl); (case hg => rfl); (case hr => first | (go_simp; done) | (go_simp; rfl)); intro au hg w4 bF hb; have ak := ah.mk (bF); have fO := ah.mk ((zz0 : w.heap.size ≤ au)); have fD := ah.mk ((zz0 : w.heap.size ≤ au)); replace HB := ah.mk (aA zz1 hb); clear hb bF hg) | ((with_reducible refine bD (N := 2) rfl ?_); refine bq ?hg (N := 2) ?hd (cs := #[.int .i64 0, .int .i64 0, .string (⟨#[]⟩ : ByteArray)]) (t := 23) ?hr ?_; (case hd => rfl); (case hg => rfl); (case hr => first | (go_simp; done) | (go_simp; rfl)); intro ay hg w5 bF hb; have av := ah.mk (bF); have iX := ah.mk ((jK : w.heap.size ≤ ay)); have iC := ah.mk ((jK : w.heap.size ≤ ay)); replace HB := ah.mk (aA zz5 hb); have aQ := ah.mk ((CU : au ≠ ay)); have aW := ah.mk ((CS : ay ≠ au)); replace ak := ah.mk (aI (g := au) (o := .cells #[.int .i64 aX, .int .i64 aU, .string aY] 23 (0, 0)) zz4 hb); clear hb bF hg; have hnb6 := aQ.out; have hnc6 := aW.out; have uP : w5.cell? ⟨au, 0, none⟩ = some (.int .i64 aX) := cK ak 0; have uO : w5.cell? ⟨au, 1, none⟩ = some (.int .i64 aU) := cK ak 1; have xQ : w5.cell? ⟨au, 2, none⟩ = some (.string aY) := cK ak 2; have xO := aj ak.out 0; have uL := aj ak.out 1; have xM := aj ak.out 2) | ((with_reducible refine aT (f := 111) rfl ?_); refine cu (some 4) rfl rfl Try.func111 (by kernel_rfl) rfl #[.agg #[.int .i64 aX, .int .i64 aU, .string aY]] rfl zz8 ?_; (with_reducible refine (iN.calls aX aU aY true _ A2.out).mono ?_); rintro e w8 ⟨rfl, hb⟩; refine ⟨_, rfl, ?_⟩; replace ak := ah.mk (aI (g := au) (o := .cells #[.int .i64 aX, .int .i64 aU, .string aY] 23 (0, 0)) zz4 hb); replace av := ah.mk (aI (g := ay) (o := .cells #[.int .i64 0, .int .i64 0, .string (⟨#[]⟩ : ByteArray)] 23 (0, 0)) fK hb); replace HB := ah.mk (aA fF hb); (try clear hb); (try clear hb2); (try clear hk); (try clear hi); have uN : w8.cell? ⟨au, 0, none⟩ = some (.int .i64 aX) := cK ak 0; have uM : w8.cell? ⟨au, 1, none⟩ = some (.int .i64 aU) := cK ak 1; have wm : w8.cell? ⟨au, 2, none⟩ = some (.string aY) := cK ak 2; have uK := aj ak.out 0; have uJ := aj ak.out 1; have vX := aj ak.out 2; have nY : w8.cell? ⟨ay, 0, none⟩ = some (.int .i64 0) := cK av 0; have nX : w8.cell? ⟨ay, 1, none⟩ = some (.int .i64 0) := cK av 1; have pF : w8.cell? ⟨ay, 2, none⟩ = some (.string (⟨#[]⟩ : ByteArray)) := cK av 2; have nW := aj av.out 0; have nV := aj av.out 1; have oV := aj av.out 2))
  refine bodyPost_ret (results_cell_row rfl _ _ ay 23 #[.int .i64 aX, .int .i64 aU, .string aY] (0, 0) _ rfl (by (with_reducible repeat (first | refine aM ?_ _ | refine aK ?_ | refine aJ ?_ _)); refine bU (cs := #[.int .i64 aX, .int .i64 aU, .string (⟨#[]⟩ : ByteArray)]) ?_ 2 _ rfl; (with_reducible repeat (first | refine aM ?_ _ | refine aK ?_ | refine aJ ?_ _)); refine bU (cs := #[.int .i64 aX, .int .i64 0, .string (⟨#[]⟩ : ByteArray)]) ?_ 1 _ rfl; (with_reducible repeat (first | refine aM ?_ _ | refine aK ?_ | refine aJ ?_ _)); refine bU (cs := #[.int .i64 0, .int .i64 0, .string (⟨#[]⟩ : ByteArray)]) ?_ 0 _ rfl; (with_reducible repeat (first | refine aM ?_ _ | refine aK ?_ | refine aJ ?_ _)); exact av.out) Try.underlying23 rfl (by kernel_rfl)) rfl ?_; exact ⟨zz6, fF⟩
 ·replace c3 := Bool.eq_false_iff.mpr c3; subst c3; rw [if_neg (show ¬ (false = true) by decide)] at H; simp only [Option.some.injEq, Prod.mk.injEq] at H; obtain ⟨rfl, rfl, rfl⟩ := H
  go_enter Try.func84, Try.ntmps84
  go_wp2_with (first | ((with_reducible refine bD (N := 1) rfl ?_); refine bq ?hg (N := 1) ?hd (cs := #[.int .i64 aX, .int .i64 aU, .string aY]) (t := 23) ?hr ?_; (case hd => rfl); (case hg => rfl); (case hr => first | (go_simp; done) | (go_simp; rfl)); intro au hg w11 bF hb; have ak := ah.mk (bF); have fO := ah.mk ((zz0 : w.heap.size ≤ au)); have fD := ah.mk ((zz0 : w.heap.size ≤ au)); replace HB := ah.mk (aA zz1 hb); clear hb bF hg) | ((with_reducible refine bD (N := 2) rfl ?_); refine bq ?hg (N := 2) ?hd (cs := #[.int .i64 0, .int .i64 0, .string (⟨#[]⟩ : ByteArray)]) (t := 23) ?hr ?_; (case hd => rfl); (case hg => rfl); (case hr => first | (go_simp; done) | (go_simp; rfl)); intro ay hg w12 bF hb; have av := ah.mk (bF); have iX := ah.mk ((jK : w.heap.size ≤ ay)); have iC := ah.mk ((jK : w.heap.size ≤ ay)); replace HB := ah.mk (aA zz5 hb); have aQ := ah.mk ((CU : au ≠ ay)); have aW := ah.mk ((CS : ay ≠ au)); replace ak := ah.mk (aI (g := au) (o := .cells #[.int .i64 aX, .int .i64 aU, .string aY] 23 (0, 0)) zz4 hb); clear hb bF hg; have Vt := aQ.out; have Vs := aW.out; have o9 : w12.cell? ⟨au, 0, none⟩ = some (.int .i64 aX) := cK ak 0; have o8 : w12.cell? ⟨au, 1, none⟩ = some (.int .i64 aU) := cK ak 1; have o7 : w12.cell? ⟨au, 2, none⟩ = some (.string aY) := cK ak 2; have oO := aj ak.out 0; have oM := aj ak.out 1; have oL := aj ak.out 2) | ((with_reducible refine aT (f := 111) rfl ?_); refine cu (some 4) rfl rfl Try.func111 (by kernel_rfl) rfl #[.agg #[.int .i64 aX, .int .i64 aU, .string aY]] rfl zz8 ?_; (with_reducible refine (iN.calls aX aU aY false _ A2.out).mono ?_); rintro e w15 ⟨rfl, hb⟩; refine ⟨_, rfl, ?_⟩; replace ak := ah.mk (aI (g := au) (o := .cells #[.int .i64 aX, .int .i64 aU, .string aY] 23 (0, 0)) zz4 hb); replace av := ah.mk (aI (g := ay) (o := .cells #[.int .i64 0, .int .i64 0, .string (⟨#[]⟩ : ByteArray)] 23 (0, 0)) fK hb); replace HB := ah.mk (aA fF hb); (try clear hb); (try clear hb2); (try clear hk); (try clear hi); have Cu : w15.cell? ⟨ay, 0, none⟩ = some (.int .i64 0) := cK av 0; have Ct : w15.cell? ⟨ay, 1, none⟩ = some (.int .i64 0) := cK av 1; have Cr : w15.cell? ⟨ay, 2, none⟩ = some (.string (⟨#[]⟩ : ByteArray)) := cK av 2; have Ch := aj av.out 0; have Cg := aj av.out 1; have Ce := aj av.out 2))
  refine bodyPost_ret (results_cell_row rfl _ _ ay 23 #[.int .i64 0, .int .i64 0, .string (⟨#[]⟩ : ByteArray)] (0, 0) _ rfl (by (with_reducible repeat (first | refine aM ?_ _ | refine aK ?_ | refine aJ ?_ _)); refine bU (cs := #[.int .i64 0, .int .i64 0, .string (⟨#[]⟩ : ByteArray)]) ?_ 2 _ rfl; (with_reducible repeat (first | refine aM ?_ _ | refine aK ?_ | refine aJ ?_ _)); refine bU (cs := #[.int .i64 0, .int .i64 0, .string (⟨#[]⟩ : ByteArray)]) ?_ 1 _ rfl; (with_reducible repeat (first | refine aM ?_ _ | refine aK ?_ | refine aJ ?_ _)); refine bU (cs := #[.int .i64 0, .int .i64 0, .string (⟨#[]⟩ : ByteArray)]) ?_ 0 _ rfl; (with_reducible repeat (first | refine aM ?_ _ | refine aK ?_ | refine aJ ?_ _)); exact av.out) Try.underlying23 rfl (by kernel_rfl)) rfl ?_; exact ⟨zz6, fF⟩
end Go.Proofs.Ythicocmnefaioaa.QO

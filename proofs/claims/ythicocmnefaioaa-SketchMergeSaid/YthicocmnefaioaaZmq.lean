import Derived.Below
import Derived.Deep.Draws
import Derived.Deep.AppendLies
import Derived.Maps.AppendAt
import Derived.OwnWalk
import Derived.Laws.BytesArg
import Derived.Laws.MakeOwn
import Derived.Laws.OwnMore
import Derived.Deep.OwnRows
import Derived.Tactics
import Derived.Lib.ConvBytes
import Derived.Laws.Slices
import Derived.WalkKit
import Derived.KernelRfl
import Derived.RowKit3
import Derived.Deep.LoopGhost
import Derived.Deep.QuietTactic
import Derived.BigQuiet
import Derived.WideLaws
import Derived.Deep.DeepCutAuto
import Derived.Deep.CutBlock
import Derived.Deep.RegionHeld3
import Derived.Laws.Rows
import Derived.Lib.AppendStr
import Derived.ArgAppend
import Derived.Laws.IdiomCopy
import Derived.OrdersHeld
import Derived.Laws.BitsLemmas
import Derived.RowKit
import Derived.Test.YthicocmnefaioaaProg
import Derived.Test.YthicocmnefaioaaZmw
import Derived.Test.YthicocmnefaioaaZmy
namespace Go.Proofs.YthicocmnefaioaaW.Sq
open Go.RowKit Go.Proofs.YthicocmnefaioaaW.dx Go.Proofs.YthicocmnefaioaaW.jF Go.Proofs.YthicocmnefaioaaW.lI
/-- The first n bits of a number. -/
def bA (n m : Nat) : Array Bool := ((List.range n).map m.testBit).toArray
section
variable {P : Program} {ops : Array Oper} {Q : Exit → Act → World → Prop} {md : Region.Mode} {S : World → Prop} {ds : List Nat}
theorem pV (i n : Nat) {oi : Oper} {v : Value} {fuel : Nat} {l : Array Bool} {a : Act} {w : World} (l' : Array Bool) {T : Bool × List (List Nat × List Nat)} (hT : ah (kL md ops = T)) {a' : Act}
    (h : eU P md ops Q S ds fuel l' a' w)
    (hi : ops[i]? = some oi := by rfl) (hN : oi.dst = some n := by rfl) (hc : anyT T l.toList l'.toList i = true := by kernel_rfl)
    (hQ : ∀ c a w, Q (.panic c) (a.put oi.dst v) w → Q (.panic c) a w := by exact fun _ _ _ h => h)
    (hy : Yields P ops oi v a := by refine Or.inl ⟨by rfl, ?_⟩; intro w'; go_simp; with_reducible rfl)
    (ha : a.put (some n) v = a' := by simp only [Act.put, List.setIfInBounds_toArray, List.set_cons_zero, List.set_cons_succ, dS, eP]; rfl) :
    eU P md ops Q S ds (fuel + 1) l a w := pure_ l' hi hN (WY hT.out hc) hQ hy ha h
theorem pU (i n : Nat) {oi : Oper} {fuel : Nat} {l : Array Bool} {a : Act} {w : World} (l' : Array Bool) {T : Bool × List (List Nat × List Nat)} (hT : ah (kL md ops = T)) {a' : Act}
    (h : eU P md ops Q S ds fuel l' a' w)
    (hi : ops[i]? = some oi := by rfl) (hN : oi.dst = some n := by rfl) (hc : anyT T l.toList l'.toList i = true := by kernel_rfl)
    (hQ : ∀ c a w, Q (.panic c) (a.put oi.dst undef) w → Q (.panic c) a w := by exact fun _ _ _ h => h)
    (hy : Yields P ops oi undef a := by exact Or.inr ⟨by rfl, rfl⟩)
    (ha : a.put (some n) undef = a' := by simp only [Act.put, List.setIfInBounds_toArray, List.set_cons_zero, List.set_cons_succ, dS, eP]; rfl) :
    eU P md ops Q S ds (fuel + 1) l a w := pure_ l' hi hN (WY hT.out hc) hQ hy ha h
theorem tV (i n : Nat) {oi : Oper} {v : Value} {fuel : Nat} {l : Array Bool} {a : Act} {w : World} (l' : Array Bool) {T : Bool × List (List Nat × List Nat)} {B : List Nat} (hT : ah (kL md ops = T)) (hW : ah (j5 T.2 B = true)) {a' : Act}
    (hS : S w) (hy : ∀ w, S w → (execOp a.eval oi).run P w = .ok (.value v) w) (h : eU P md ops Q S ds fuel l' a' w)
    (hi : ops[i]? = some oi := by rfl) (hN : oi.dst = some n := by rfl) (hc : Vw T B ds l.toList l'.toList i = true := by kernel_rfl)
    (hQ : ∀ c a w, Q (.panic c) (a.put oi.dst v) w → Q (.panic c) a w := by exact fun _ _ _ h => h)
    (hw : Region.wanted oi (yielded ops a.tmps) = true := by rfl)
    (ha : a.put (some n) v = a' := by simp only [Act.put, List.setIfInBounds_toArray, List.set_cons_zero, List.set_cons_succ, dS, eP]; rfl) :
    eU P md ops Q S ds (fuel + 1) l a w := pQ l' hi hN (Vv hT.out hW.out hc) hQ (Or.inl ⟨hw, hy⟩) hS ha h
theorem oN (i n : Nat) {oi : Oper} {fuel : Nat} {l : Array Bool} {a : Act} {w : World} (l' : Array Bool) {T : Bool × List (List Nat × List Nat)} (hT : ah (kL md ops = T))
    (h : ∀ K : Act → World → Prop, Shut (∀ a' w', S w' → (S w' → eU P md ops Q S ds fuel l' a' w') → K a' w') → if Region.wanted oi (yielded ops a.tmps) = true then Oper.wp P oi a w K Q else K (a.put (some n) undef) w)
    (hi : ops[i]? = some oi := by rfl) (hN : oi.dst = some n := by rfl) (hc : (yt T.2 l.toList == [i] && l.toList.set i true == l'.toList) = true := by kernel_rfl) (hd : i ∉ ds := by decide) :
    eU P md ops Q S ds (fuel + 1) l a w := wL l' hi hN (one_of hT.out hc) hd h
end
theorem cB {b W V : World} {x : Addr} {v : Value} (HB : ah (Below b.heap.size b W)) (h : b.cell? x = some v) (e : V.cell? x = W.cell? x := by rfl) : V.cell? x = some v := e.trans <| (HB.out.cell (World.block_lt_of_cell? b _ h)).trans h
theorem cK {w : World} {g : Nat} {t : TypeId} {cs : Array Value} (B : ah (w.heap[g]? = some (.cells cs t (0, 0)))) (i : Nat) {x : Option Value} (h : cs[i]? = x := by rfl) : w.cell? ⟨g, i, none⟩ = x := (jI B.out i).trans h
theorem zz0 {P : Prop} (h : P := by rw [hg]; exact (bS (by repeat (first | (with_reducible first | exact HB.out | apply dB | apply cO | apply bL) | exact HB.out)))) : P := h
theorem zz1 {P : Prop} (h : P := by repeat (first | (with_reducible first | exact HB.out | apply dB | apply cO | apply bL) | exact HB.out)) : P := h
theorem zz2 {P : Prop} (h : P := by first | rfl | (simp; done) | (simp [*]; done)) : P := h
theorem zz3 {P : Prop} (h : P := by first | omega | exact Nat.le_refl _) : P := h
theorem zz4 {P : Prop} (h : P := by (with_reducible repeat (first | refine aM ?_ _ | refine aJ ?_ | refine aI ?_ _)); exact ak.out) : P := h
theorem zz5 {P : Prop} (h : P := by repeat (first | (with_reducible first | exact HB.out | apply dB | apply cO | apply bL | refine cu ?_ fF.out) | exact HB.out)) : P := h
theorem zz6 {P : Prop} (h : P := by first | rfl | (simp [gK, gJ] <;> rfl) | (simp [*, gK, gJ] <;> rfl)) : P := h
theorem zz7 {P : Prop} (h : P := by repeat (first | exact mG.refl _ | apply mG.step)) : P := h
theorem zz8 {P : Prop} (h : P := by (try simp only [List.map_toArray, List.map_cons, List.map_nil]); first | done | rfl | (simp only [List.length_drop, List.length_take]; rfl)) : P := h
theorem zz9 {P : Prop} (h : P := by first | (with_reducible assumption) | assumption) : P := h
theorem jZ {P : Prop} (h : P := by rw [hg]; exact (bS (by repeat (first | (with_reducible first | exact HB.out | apply dB | apply cO | apply bL | refine cu ?_ fF.out) | exact HB.out)))) : P := h
theorem DL {P : Prop} (h : P := by rw [hg]; exact Nat.ne_of_lt (kr (g := au) (o := .cells #[.int .i64 aU, .int .i64 aT, .string aV] 23 (0, 0)) (by (with_reducible repeat (first | refine aM ?_ _ | refine aJ ?_ | refine aI ?_ _)); exact ak.out))) : P := h
theorem DK {P : Prop} (h : P := by rw [hg]; exact Nat.ne_of_gt (kr (g := au) (o := .cells #[.int .i64 aU, .int .i64 aT, .string aV] 23 (0, 0)) (by (with_reducible repeat (first | refine aM ?_ _ | refine aJ ?_ | refine aI ?_ _)); exact ak.out))) : P := h
theorem iJ {P : Prop} (h : P := by (with_reducible repeat (first | refine aM ?_ _ | refine aJ ?_ | refine aI ?_ _)); exact ay.out) : P := h
theorem fP {P : Prop} (h : P := by repeat (first | (with_reducible first | exact HB.out | apply dB | apply cO | apply bL | refine cu ?_ fF.out | refine cu ?_ jr.out) | exact HB.out)) : P := h
theorem UC {P : Prop} (h : P := by have := World.block_lt_of_cell? _ _ lg; first | rwa [add_block] at this | exact this) : P := h
theorem UA {P : Prop} (h : P := by first | (rw [add_block]; exact zi) | (show (Addr.add _ _).block ≠ _; rw [add_block]; exact zi) | exact zi) : P := h
theorem Uz {P : Prop} (h : P := by first | (rw [add_block]; exact zh) | (show (Addr.add _ _).block ≠ _; rw [add_block]; exact zh) | exact zh) : P := h
theorem Uy {P : Prop} (h : P := by first | (rw [add_block]; exact zf) | (show (Addr.add _ _).block ≠ _; rw [add_block]; exact zf) | exact zf) : P := h
theorem Ux {P : Prop} (h : P := by (with_reducible repeat (first | refine aM ?_ _ | refine aJ ?_ | refine aI ?_ _)); refine bZ (cs := #[.int .i64 ((aZ l0 eu).f0), .int .i64 ((aZ l0 eu).f1), .string (⟨#[]⟩ : ByteArray)]) ?_ 2 _ rfl; (with_reducible repeat (first | refine aM ?_ _ | refine aJ ?_ | refine aI ?_ _)); refine bZ (cs := #[.int .i64 ((aZ l0 eu).f0), .int .i64 0, .string (⟨#[]⟩ : ByteArray)]) ?_ 1 _ rfl; (with_reducible repeat (first | refine aM ?_ _ | refine aJ ?_ | refine aI ?_ _)); refine bZ (cs := #[.int .i64 0, .int .i64 0, .string (⟨#[]⟩ : ByteArray)]) ?_ 0 _ rfl; (with_reducible repeat (first | refine aM ?_ _ | refine aJ ?_ | refine aI ?_ _)); exact ak.out) : P := h
theorem zz20 {P : Prop} (h : P := by (with_reducible repeat (first | refine aM ?_ _ | refine aJ ?_ | refine aI ?_ _)); refine iL ?_ aQ.out _; (with_reducible repeat (first | refine aM ?_ _ | refine aJ ?_ | refine aI ?_ _)); refine iL ?_ aQ.out _; (with_reducible repeat (first | refine aM ?_ _ | refine aJ ?_ | refine aI ?_ _)); refine iL ?_ aQ.out _; (with_reducible repeat (first | refine aM ?_ _ | refine aJ ?_ | refine aI ?_ _)); exact ak.out) : P := h
theorem zz21 {P : Prop} (h : P := by (with_reducible repeat (first | refine aM ?_ _ | refine aJ ?_ | refine aI ?_ _)); refine bZ (cs := #[.slice iF ((aD l0 bT).f0).length iC, .int .i64 0]) ?_ 1 _ rfl; (with_reducible repeat (first | refine aM ?_ _ | refine aJ ?_ | refine aI ?_ _)); refine bZ (cs := #[.slice none 0 0, .int .i64 0]) ?_ 0 _ rfl; (with_reducible repeat (first | refine aM ?_ _ | refine aJ ?_ | refine aI ?_ _)); exact ay.out) : P := h
theorem xW {P : Prop} (h : P := by repeat (first | (with_reducible first | exact HB.out | apply dB | apply cO | apply bL | refine cu ?_ jr.out) | exact HB.out)) : P := h
theorem II {P : Prop} (h : P := by first | exact Kd.EF _ _ _ _ _ | exact Kd.N_nil _ _ _ _ _ | exact Kd.Il _ _ _ _ _ | exact Kd.Q_nil _ _ _ _ _ | exact Kd.S_nil _ _ _ _ _) : P := h
theorem IG {P : Prop} (h : P := by (with_reducible repeat (first | apply Kd.gu | apply Kd.fV | apply Kd.gY)); exact jy.out) : P := h
theorem zY {P : Prop} (h : P := by (with_reducible repeat (first | apply Kd.gu | apply Kd.fV | apply Kd.gY)); exact l7.out) : P := h
theorem zz26 {P : Prop} (h : P := by (with_reducible repeat (first | apply Kd.gu | apply Kd.fV | apply Kd.gY)); exact (Kd.eO (Kd.lZ (p := ⟨au, 2, none⟩) (Kd.lZ (p := ⟨au, 1, none⟩) (Kd.lZ (p := ⟨au, 0, none⟩) (Kd.mO l7.out ak.out (by decide)) (fun _ hk => hk.2) (.int .i64 ((aZ l0 fC).f0))) (fun _ hk => hk.2) (.int .i64 ((aZ l0 fC).f1))) (fun _ hk => hk.2) (.string ((aZ l0 fC).f2))) (fun _ h_ => h_.1))) : P := h
theorem zz27 {P : Prop} (h : P := by (with_reducible repeat (first | refine aM ?_ _ | refine aJ ?_ | refine aI ?_ _)); refine bZ (cs := #[.int .i64 ((aZ l0 fC).f0), .int .i64 ((aZ l0 fC).f1), .string (⟨#[]⟩ : ByteArray)]) ?_ 2 _ rfl; (with_reducible repeat (first | refine aM ?_ _ | refine aJ ?_ | refine aI ?_ _)); refine bZ (cs := #[.int .i64 ((aZ l0 fC).f0), .int .i64 0, .string (⟨#[]⟩ : ByteArray)]) ?_ 1 _ rfl; (with_reducible repeat (first | refine aM ?_ _ | refine aJ ?_ | refine aI ?_ _)); refine bZ (cs := #[.int .i64 0, .int .i64 0, .string (⟨#[]⟩ : ByteArray)]) ?_ 0 _ rfl; (with_reducible repeat (first | refine aM ?_ _ | refine aJ ?_ | refine aI ?_ _)); exact ak.out) : P := h
theorem zz28 {P : Prop} (h : P := by first | (go_simp; done) | (go_simp; rfl)) : P := h
theorem zz29 {P : Prop} (h : P := by (with_reducible repeat (first | apply Kd.gu | apply Kd.fV | apply Kd.gY)); exact Kd.eO (Kd.lZ (p := ⟨au, 2, none⟩) (Kd.lZ (p := ⟨au, 1, none⟩) (Kd.lZ (p := ⟨au, 0, none⟩) (Kd.mO l7.out ak.out (by decide)) (fun _ hk => hk.2) (.int .i64 pG)) (fun _ hk => hk.2) (.int .i64 t154)) (fun _ hk => hk.2) (.string kF)) (fun _ hk => trivial)) : P := h
theorem zz30 {P : Prop} (h : P := by (with_reducible repeat (first | refine aM ?_ _ | refine aJ ?_ | refine aI ?_ _)); refine bZ (cs := #[.int .i64 pG, .int .i64 t154, .string ((aZ l0 fC).f2)]) ?_ 2 _ rfl; (with_reducible repeat (first | refine aM ?_ _ | refine aJ ?_ | refine aI ?_ _)); refine bZ (cs := #[.int .i64 pG, .int .i64 ((aZ l0 fC).f1), .string ((aZ l0 fC).f2)]) ?_ 1 _ rfl; (with_reducible repeat (first | refine aM ?_ _ | refine aJ ?_ | refine aI ?_ _)); refine bZ (cs := #[.int .i64 ((aZ l0 fC).f0), .int .i64 ((aZ l0 fC).f1), .string ((aZ l0 fC).f2)]) ?_ 0 _ rfl; (with_reducible repeat (first | refine aM ?_ _ | refine aJ ?_ | refine aI ?_ _)); exact ak.out) : P := h
theorem N9 {P : Prop} (h : P := by have := HK1.out; have := HK2.out; omega) : P := h
theorem N8 {P : Prop} (h : P := by (with_reducible repeat (first | apply Kd.gu | apply Kd.fV | apply Kd.gY)); exact iT.out) : P := h
theorem zz33 {P : Prop} (h : P := by (with_reducible repeat (first | apply Kd.gu | apply Kd.fV | apply Kd.gY)); exact kT.out) : P := h
theorem IE {P : Prop} (h : P := by repeat (first | (with_reducible exact EG.out) | (with_reducible refine jm.alloc ?_ _) | (with_reducible refine jm.drewN ?_ _) | (with_reducible refine jm.drew ?_) | exact EG.out)) : P := h
theorem Gi {P : Prop} (h : P := by (with_reducible repeat (first | apply Kd.gu | apply Kd.fV | apply Kd.gY)); exact qz.out) : P := h
theorem Jz {P : Prop} (h : P := by (with_reducible repeat (first | apply Kd.gu | apply Kd.fV | apply Kd.gY)); exact qF.out) : P := h
theorem Uw {P : Prop} (h : P := by (with_reducible repeat (first | apply Kd.gu | apply Kd.fV | apply Kd.gY)); exact yN.out) : P := h
theorem zz38 {P : Prop} (h : P := by repeat (first | (with_reducible exact Xr.out) | (with_reducible refine jm.alloc ?_ _) | (with_reducible refine jm.drewN ?_ _) | (with_reducible refine jm.drew ?_) | exact Xr.out)) : P := h
theorem zz39 {P : Prop} (h : P := by repeat (first | (with_reducible exact Xq.out) | (with_reducible refine Kd.dF ?_ _) | (with_reducible refine Kd.dI ?_ _) | (with_reducible refine Kd.dZ ?_) | exact Xq.out)) : P := h
theorem DJ {P : Prop} (h : P := by rw [hg]; exact Nat.ne_of_lt (kr (g := au) (o := .cells #[.string aU, .string aT, .int .i64 aV, .int .i64 bH, .int .i64 bG, .int .i64 bJ] 30 (0, 0)) (by (with_reducible repeat (first | refine aM ?_ _ | refine aJ ?_ | refine aI ?_ _)); exact ak.out))) : P := h
theorem DI {P : Prop} (h : P := by rw [hg]; exact Nat.ne_of_gt (kr (g := au) (o := .cells #[.string aU, .string aT, .int .i64 aV, .int .i64 bH, .int .i64 bG, .int .i64 bJ] 30 (0, 0)) (by (with_reducible repeat (first | refine aM ?_ _ | refine aJ ?_ | refine aI ?_ _)); exact ak.out))) : P := h
theorem zz42 {P : Prop} (h : P := by (with_reducible repeat (first | apply Kd.gu | apply Kd.fV | apply Kd.gY)); exact r9.out) : P := h
theorem zz43 {P : Prop} (h : P := by repeat (first | (with_reducible first | exact HK.out | apply Kept.alloc | apply Kept.drewN | apply Kept.drew) | exact HK.out)) : P := h
theorem zz44 {P : Prop} (h : P := by (with_reducible repeat (first | apply Kd.gu | apply Kd.fV | apply Kd.gY)); exact HO1.out) : P := h
theorem Am {P : Prop} (h : P := by repeat (first | (with_reducible first | exact HK.out | apply Kept.alloc | apply Kept.drewN | apply Kept.drew | refine Kept.setCell ?_ (.inr fO.out) _ | refine Kept.setCell ?_ (.inr jD.out) _) | exact HK.out)) : P := h
theorem Ma {P : Prop} (h : P := by (with_reducible repeat (first | apply Kd.gu | apply Kd.fV | apply Kd.gY)); exact je.out) : P := h
theorem zz47 {P : Prop} (h : P := by first | exact HK.out.1 | exact (show Kept w _ (fun k_ => P1_ k_) from by repeat (first | (with_reducible first | exact HK.out | apply Kept.alloc | apply Kept.drewN | apply Kept.drew | refine Kept.setCell ?_ (.inr fO.out) _ | refine Kept.setCell ?_ (.inr jD.out) _) | exact HK.out)).1) : P := h
theorem Uv {P : Prop} (h : P := by (with_reducible repeat (first | apply Kd.gu | apply Kd.fV | apply Kd.gY)); exact Dz.out) : P := h
theorem zz49 {P : Prop} (h : P := by (with_reducible repeat (first | apply Kd.gu | apply Kd.fV | apply Kd.gY)); exact Ak.out) : P := h
theorem zz50 {P : Prop} (h : P := by repeat (first | (with_reducible first | exact HB.out | apply dB | apply cO | apply bL | refine cu ?_ fF.out | refine cu ?_ Xv.out) | exact HB.out)) : P := h
theorem Uu {P : Prop} (h : P := by (with_reducible repeat (first | apply Kd.gu | apply Kd.fV | apply Kd.gY)); exact kM.out) : P := h
theorem zz52 {P : Prop} (h : P := by rw [hg]; exact Nat.le_refl _) : P := h
theorem zz53 {P : Prop} (h : P := by rw [hg]; exact HB.out.size) : P := h
theorem zz54 {P : Prop} (h : P := by rw [hg]; exact Nat.ne_of_lt (kr BK.out)) : P := h
theorem zz55 {P : Prop} (h : P := by (with_reducible repeat (first | apply Kd.gu | apply Kd.fV | apply Kd.gY)); exact uN.out) : P := h
theorem zz56 {P : Prop} (h : P := by (with_reducible repeat (first | apply Kd.rP | apply Kd.rO | apply Kd.pz)); exact kT.out) : P := h
theorem Al {P : Prop} (h : P := by repeat (first | (with_reducible first | exact HB.out | apply dB | apply cO | apply bL | refine cu ?_ fF.out | refine cu ?_ jr.out | refine cu ?_ GE105.out) | exact HB.out)) : P := h
theorem Ut {P : Prop} (h : P := by (with_reducible repeat (first | refine aM ?_ _ | refine aJ ?_ | refine aI ?_ _)); exact jL.out) : P := h
theorem rV {P : Prop} (h : P := by repeat (first | (with_reducible first | exact HI0.out | apply aH.alloc | apply aH.drewN | apply aH.drew | apply aH.iY) | exact HI0.out)) : P := h
theorem nU {P : Prop} (h : P := by repeat (first | (with_reducible first | exact HK.out | apply bQ.set_ | apply uE | apply qI | apply wN) | exact HK.out)) : P := h
theorem ug {P : Prop} (h : P := by repeat (first | (with_reducible first | exact HB.out | apply dB | apply cO | apply bL | refine cu ?_ (aH.ge HI0.out)) | exact HB.out)) : P := h
theorem Us {P : Prop} (h : P := by rw [hg]; exact (lH (w := w) (g := g) (row := none) (by repeat (first | (with_reducible first | exact HK.out | apply bQ.set_ | apply uE | apply qI | apply wN) | exact HK.out)))) : P := h
theorem zz63 {P : Prop} (h : P := by rw [hg]; exact Nat.ne_of_lt (aH.lt (show aH w0 _ g eH jM from by repeat (first | (with_reducible first | exact HI0.out | apply aH.alloc | apply aH.drewN | apply aH.drew | apply aH.iY) | exact HI0.out)))) : P := h
theorem zz64 {P : Prop} (h : P := by rw [hg]; exact Nat.ne_of_gt (aH.lt (show aH w0 _ g eH jM from by repeat (first | (with_reducible first | exact HI0.out | apply aH.alloc | apply aH.drewN | apply aH.drew | apply aH.iY) | exact HI0.out)))) : P := h
theorem vP {P : Prop} (h : P := by (with_reducible repeat (first | apply Kd.gu | apply Kd.fV | apply Kd.gY)); exact (fG h0_)) : P := h
theorem IC {P : Prop} (h : P := by (with_reducible repeat (first | refine aM ?_ _ | refine aJ ?_ | refine aI ?_ _)); exact (gG h0_ h1_)) : P := h
theorem oG {P : Prop} (h : P := by repeat (first | (with_reducible first | exact HK.out | apply bQ.set_ | apply uE | apply qI | apply wN | refine Ba ?_ fO.out _) | exact HK.out)) : P := h
theorem zX {P : Prop} (h : P := by repeat (first | (with_reducible first | exact HB.out | apply dB | apply cO | apply bL | refine cu ?_ (aH.ge HI0.out) | refine cu ?_ fF.out) | exact HB.out)) : P := h
theorem zW {P : Prop} (h : P := by repeat (first | (with_reducible first | exact HI0.out | apply aH.alloc | apply aH.drewN | apply aH.drew | apply aH.iY | refine aH.far ?_ gQ.out _) | exact HI0.out)) : P := h
theorem zz70 {P : Prop} (h : P := by repeat (first | (with_reducible first | exact (kZ h0_) | apply aH.alloc | apply aH.drewN | apply aH.drew | apply aH.iY | refine aH.far ?_ gQ.out _) | exact (kZ h0_))) : P := h
theorem zz71 {P : Prop} (h : P := by repeat (first | (with_reducible first | exact (gI h0_ h1_) | apply aH.alloc | apply aH.drewN | apply aH.drew | apply aH.iY | refine aH.far ?_ gQ.out _) | exact (gI h0_ h1_))) : P := h
theorem zz72 {P : Prop} (h : P := by repeat (first | (with_reducible first | exact (gH h0_ h1_) | apply aH.alloc | apply aH.drewN | apply aH.drew | apply aH.iY | refine aH.far ?_ gQ.out _) | exact (gH h0_ h1_))) : P := h
theorem zz73 {P : Prop} (h : P := by repeat (first | (with_reducible first | exact (fM h0_ h1_) | apply aH.alloc | apply aH.drewN | apply aH.drew | apply aH.iY | refine aH.far ?_ gQ.out _) | exact (fM h0_ h1_))) : P := h
theorem zz74 {P : Prop} (h : P := by repeat (first | (with_reducible first | exact (dY h0_) | apply aH.alloc | apply aH.drewN | apply aH.drew | apply aH.iY | refine aH.far ?_ gQ.out _) | exact (dY h0_))) : P := h
theorem zz75 {P : Prop} (h : P := by rw [hg]; exact (lH (w := w) (g := g) (row := none) (by repeat (first | (with_reducible first | exact HK.out | apply bQ.set_ | apply uE | apply qI | apply wN | refine Ba ?_ fO.out _) | exact HK.out)))) : P := h
theorem Ur {P : Prop} (h : P := by repeat (first | (with_reducible first | exact HK.out | apply bQ.set_ | apply uE | apply qI | apply wN | refine Ba ?_ fO.out _ | refine Ba ?_ jD.out _) | exact HK.out)) : P := h
theorem zz77 {P : Prop} (h : P := by repeat (first | (with_reducible first | exact HB.out | apply dB | apply cO | apply bL | refine cu ?_ (aH.ge HI0.out) | refine cu ?_ fF.out | refine cu ?_ jr.out) | exact HB.out)) : P := h
theorem zz78 {P : Prop} (h : P := by repeat (first | (with_reducible first | exact HI0.out | apply aH.alloc | apply aH.drewN | apply aH.drew | apply aH.iY | refine aH.far ?_ gQ.out _ | refine aH.far ?_ o8.out _) | exact HI0.out)) : P := h
theorem zz79 {P : Prop} (h : P := by first | exact Kd.S_nil _ _ _ _ _ | exact Kd.N_nil _ _ _ _ _ | exact Kd.Il _ _ _ _ _ | exact Kd.Q_nil _ _ _ _ _ | exact Kd.EF _ _ _ _ _) : P := h
theorem zz80 {P : Prop} (h : P := by (with_reducible repeat (first | apply Kd.vE | apply Kd.vD | apply Kd.yM)); exact Aj.out) : P := h
theorem zz81 {P : Prop} (h : P := by (with_reducible repeat (first | apply Kd.gu | apply Kd.fV | apply Kd.gY)); exact nT.out) : P := h
theorem Gh {P : Prop} (h : P := by (with_reducible repeat (first | apply Kd.iW | apply Kd.iR | apply Kd.iQ)); exact HO0.out) : P := h
theorem uf {P : Prop} (h : P := by (with_reducible repeat (first | apply Kd.iW | apply Kd.iR | apply Kd.iQ)); exact jR.out) : P := h
theorem zz84 {P : Prop} (h : P := by have := HK1.out; first | omega | exact Nat.le_refl _) : P := h
theorem xS {P : Prop} (h : P := by (with_reducible repeat (first | apply Kd.iW | apply Kd.iR | apply Kd.iQ)); exact je.out) : P := h
theorem Gg {P : Prop} (h : P := by (with_reducible repeat (first | apply Kd.rP | apply Kd.rO | apply Kd.pz)); exact r9.out) : P := h
theorem zz87 {P : Prop} (h : P := by have := HK1.out; have := HJ2.out; first | omega | exact Nat.le_refl _) : P := h
theorem Jy {P : Prop} (h : P := by repeat (first | (with_reducible exact fD.out) | (with_reducible refine Kd.dF ?_ _) | (with_reducible refine Kd.dI ?_ _) | (with_reducible refine Kd.dZ ?_) | exact fD.out)) : P := h
theorem zz89 {P : Prop} (h : P := by repeat (first | (with_reducible exact kK.out) | (with_reducible refine Kd.dF ?_ _) | (with_reducible refine Kd.dI ?_ _) | (with_reducible refine Kd.dZ ?_) | exact kK.out)) : P := h
theorem zz90 {P : Prop} (h : P := by have := HK1.out; have := HJ2.out; have := HJ5.out; omega) : P := h
theorem zz91 {P : Prop} (h : P := by (with_reducible repeat (first | apply Kd.rP | apply Kd.rO | apply Kd.pz)); exact qz.out) : P := h
theorem zz92 {P : Prop} (h : P := by (with_reducible repeat (first | apply Kd.iW | apply Kd.iR | apply Kd.iQ)); exact kT.out) : P := h
theorem L9 {P : Prop} (h : P := by (with_reducible repeat (first | apply Kd.iW | apply Kd.iR | apply Kd.iQ)); exact kM.out) : P := h
theorem zz94 {P : Prop} (h : P := by first | exact EP | exact of_decide_eq_true (by first | (with_reducible assumption) | assumption) | (have e_ := (Kd.dL jR.out).1; omega)) : P := h
theorem zz95 {P : Prop} (h : P := by (with_reducible repeat (first | apply Kd.iW | apply Kd.iR | apply Kd.iQ)); exact zJ.out) : P := h
theorem zz96 {P : Prop} (h : P := by (with_reducible repeat (first | apply Kd.vE | apply Kd.vD | apply Kd.yM)); exact nT.out) : P := h
theorem Gf {P : Prop} (h : P := by (with_reducible repeat (first | apply Kd.iW | apply Kd.iR | apply Kd.iQ)); exact HO1.out) : P := h
theorem L8 {P : Prop} (h : P := by (with_reducible repeat (first | apply Kd.iW | apply Kd.iR | apply Kd.iQ)); exact jy.out) : P := h
theorem Uq {P : Prop} (h : P := by (with_reducible repeat (first | apply Kd.iW | apply Kd.iR | apply Kd.iQ)); exact HO2.out) : P := h
theorem Vs {P : Prop} (h : P := by (with_reducible repeat (first | apply Kd.iW | apply Kd.iR | apply Kd.iQ)); exact EW.out) : P := h
theorem Mh {P : Prop} (h : P := by (with_reducible repeat (first | apply Kd.gu | apply Kd.fV | apply Kd.gY)); exact uM.out) : P := h
theorem Vr {P : Prop} (h : P := by repeat (first | (with_reducible first | exact kI.out | apply aH.alloc | apply aH.drewN | apply aH.drew | apply aH.iY) | exact kI.out)) : P := h
theorem Mg {P : Prop} (h : P := by repeat (first | (with_reducible first | exact HB.out | apply dB | apply cO | apply bL | refine cu ?_ (aH.ge kI.out)) | exact HB.out)) : P := h
theorem Eo {P : Prop} (h : P := by (with_reducible repeat (first | apply Kd.iW | apply Kd.iR | apply Kd.iQ)); exact lD.out) : P := h
theorem En {P : Prop} (h : P := by repeat (first | (with_reducible first | exact kI.out | apply aH.alloc | apply aH.drewN | apply aH.drew | apply aH.iY | refine aH.far ?_ Ju.out _) | exact kI.out)) : P := h
theorem qD {P : Prop} (h : P := by repeat (first | (with_reducible first | exact HB.out | apply dB | apply cO | apply bL | refine cu ?_ (aH.ge kI.out) | refine cu ?_ Xw.out) | exact HB.out)) : P := h
theorem uh {P : Prop} (h : P := by (with_reducible repeat (first | refine aM ?_ _ | refine aJ ?_ | refine aI ?_ _)); exact dX.out) : P := h
theorem Mf {P : Prop} (h : P := by (with_reducible repeat (first | apply Kd.gu | apply Kd.fV | apply Kd.gY)); exact Kd.eO yN.out (fun _ hk => ⟨hk.1.2, hk.2⟩)) : P := h
theorem Me {P : Prop} (h : P := by (with_reducible repeat (first | apply Kd.gu | apply Kd.fV | apply Kd.gY)); exact Kd.eO Jv.out (fun _ hk => ⟨hk.1.2, hk.2⟩)) : P := h
theorem Md {P : Prop} (h : P := by (with_reducible repeat (first | apply Kd.gu | apply Kd.fV | apply Kd.gY)); exact Kd.eO NY.out (fun _ hk => ⟨hk.1.2, hk.2⟩)) : P := h
theorem Mc {P : Prop} (h : P := by refine Lp HBZ.out ?_; repeat (first | (with_reducible first | exact HB.out | apply dB | apply cO | apply bL | refine cu ?_ Xw.out) | exact HB.out)) : P := h
theorem Vq {P : Prop} (h : P := by (with_reducible repeat (first | apply Kd.gu | apply Kd.fV | apply Kd.gY)); exact mJ.out) : P := h
theorem Vp {P : Prop} (h : P := by (with_reducible repeat (first | apply Kd.gu | apply Kd.fV | apply Kd.gY)); exact sj.out) : P := h
theorem Vo {P : Prop} (h : P := by (with_reducible repeat (first | apply Kd.gu | apply Kd.fV | apply Kd.gY)); exact vY.out) : P := h
theorem Vn {P : Prop} (h : P := by repeat (first | (with_reducible first | exact HB.out | apply dB | apply cO | apply bL | refine cu ?_ Xw.out) | exact HB.out)) : P := h
end Go.Proofs.YthicocmnefaioaaW.Sq

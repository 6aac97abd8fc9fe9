import Derived.Below
import Derived.Deep.Draws
import Derived.Deep.AppendLies
import Derived.Maps.AppendAt
import Derived.OwnWalk
import Derived.Laws.BytesArg
import Derived.Laws.MakeOwn
import Derived.Laws.OwnMore
import Derived.Deep.OwnRows
import Derived.Tactics
import Derived.Lib.ConvBytes
import Derived.Laws.Slices
import Derived.WalkKit
import Derived.KernelRfl
import Derived.RowKit3
import Derived.Deep.LoopGhost
import Derived.Deep.QuietTactic
import Derived.BigQuiet
import Derived.WideLaws
import Derived.Deep.DeepCutAuto
import Derived.Deep.CutBlock
import Derived.Deep.RegionHeld3
import Derived.Laws.Rows
import Derived.Lib.AppendStr
import Derived.ArgAppend
import Derived.Laws.IdiomCopy
import Derived.OrdersHeld
import Derived.Laws.BitsLemmas
import Derived.RowKit
import Derived.Test.YthicocmnefaioaaProg
import Derived.Test.YthicocmnefaioaaZow
namespace Go.Proofs.YthicocmnefaioaaW.Sq
open Go.RowKit Go.Proofs.YthicocmnefaioaaW.dw Go.Proofs.YthicocmnefaioaaW.jA Go.Proofs.YthicocmnefaioaaW.lD
/-- The first n bits of a number. -/
def bA (n m : Nat) : Array Bool := ((List.range n).map m.testBit).toArray
section
variable {P : Program} {ops : Array Oper} {Q : Exit → Act → World → Prop} {md : Region.Mode} {S : World → Prop} {ds : List Nat}
theorem pV (i n : Nat) {oi : Oper} {v : Value} {fuel : Nat} {l : Array Bool} {a : Act} {w : World} (l' : Array Bool) {T : Bool × List (List Nat × List Nat)} (hT : ah (kD md ops = T)) {a' : Act}
    (h : eF P md ops Q S ds fuel l' a' w)
    (hi : ops[i]? = some oi := by rfl) (hN : oi.dst = some n := by rfl) (hc : anyT T l.toList l'.toList i = true := by kernel_rfl)
    (hQ : ∀ c a w, Q (.panic c) (a.put oi.dst v) w → Q (.panic c) a w := by exact fun _ _ _ h => h)
    (hy : Yields P ops oi v a := by refine Or.inl ⟨by rfl, ?_⟩; intro w'; go_simp; with_reducible rfl)
    (ha : a.put (some n) v = a' := by simp only [Act.put, List.setIfInBounds_toArray, List.set_cons_zero, List.set_cons_succ, dJ, eu]; rfl) :
    eF P md ops Q S ds (fuel + 1) l a w := Dv l' hi hN (WH hT.out hc) hQ hy ha h
theorem pU (i n : Nat) {oi : Oper} {fuel : Nat} {l : Array Bool} {a : Act} {w : World} (l' : Array Bool) {T : Bool × List (List Nat × List Nat)} (hT : ah (kD md ops = T)) {a' : Act}
    (h : eF P md ops Q S ds fuel l' a' w)
    (hi : ops[i]? = some oi := by rfl) (hN : oi.dst = some n := by rfl) (hc : anyT T l.toList l'.toList i = true := by kernel_rfl)
    (hQ : ∀ c a w, Q (.panic c) (a.put oi.dst undef) w → Q (.panic c) a w := by exact fun _ _ _ h => h)
    (hy : Yields P ops oi undef a := by exact Or.inr ⟨by rfl, rfl⟩)
    (ha : a.put (some n) undef = a' := by simp only [Act.put, List.setIfInBounds_toArray, List.set_cons_zero, List.set_cons_succ, dJ, eu]; rfl) :
    eF P md ops Q S ds (fuel + 1) l a w := Dv l' hi hN (WH hT.out hc) hQ hy ha h
theorem tV (i n : Nat) {oi : Oper} {v : Value} {fuel : Nat} {l : Array Bool} {a : Act} {w : World} (l' : Array Bool) {T : Bool × List (List Nat × List Nat)} {B : List Nat} (hT : ah (kD md ops = T)) (hW : ah (jS T.2 B = true)) {a' : Act}
    (hS : S w) (hy : ∀ w, S w → (execOp a.eval oi).run P w = .ok (.value v) w) (h : eF P md ops Q S ds fuel l' a' w)
    (hi : ops[i]? = some oi := by rfl) (hN : oi.dst = some n := by rfl) (hc : U6 T B ds l.toList l'.toList i = true := by kernel_rfl)
    (hQ : ∀ c a w, Q (.panic c) (a.put oi.dst v) w → Q (.panic c) a w := by exact fun _ _ _ h => h)
    (hw : Region.wanted oi (yielded ops a.tmps) = true := by rfl)
    (ha : a.put (some n) v = a' := by simp only [Act.put, List.setIfInBounds_toArray, List.set_cons_zero, List.set_cons_succ, dJ, eu]; rfl) :
    eF P md ops Q S ds (fuel + 1) l a w := nk l' hi hN (U5 hT.out hW.out hc) hQ (Or.inl ⟨hw, hy⟩) hS ha h
theorem oN (i n : Nat) {oi : Oper} {fuel : Nat} {l : Array Bool} {a : Act} {w : World} (l' : Array Bool) {T : Bool × List (List Nat × List Nat)} (hT : ah (kD md ops = T))
    (h : ∀ K : Act → World → Prop, Shut (∀ a' w', S w' → (S w' → eF P md ops Q S ds fuel l' a' w') → K a' w') → if Region.wanted oi (yielded ops a.tmps) = true then Oper.wp P oi a w K Q else K (a.put (some n) undef) w)
    (hi : ops[i]? = some oi := by rfl) (hN : oi.dst = some n := by rfl) (hc : (xH T.2 l.toList == [i] && l.toList.set i true == l'.toList) = true := by kernel_rfl) (hd : i ∉ ds := by decide) :
    eF P md ops Q S ds (fuel + 1) l a w := qO l' hi hN (Vf hT.out hc) hd h
end
theorem cB {b W V : World} {x : Addr} {v : Value} (HB : ah (Below b.heap.size b W)) (h : b.cell? x = some v) (e : V.cell? x = W.cell? x := by rfl) : V.cell? x = some v := e.trans <| (HB.out.cell (World.block_lt_of_cell? b _ h)).trans h
theorem cK {w : World} {g : Nat} {t : TypeId} {cs : Array Value} (B : ah (w.heap[g]? = some (.cells cs t (0, 0)))) (i : Nat) {x : Option Value} (h : cs[i]? = x := by rfl) : w.cell? ⟨g, i, none⟩ = x := (jD B.out i).trans h
theorem zz0 {P : Prop} (h : P := by rw [hg]; exact (bW (by repeat (first | (with_reducible first | exact HB.out | apply bY | apply bT | apply bG) | exact HB.out)))) : P := h
theorem zz1 {P : Prop} (h : P := by repeat (first | (with_reducible first | exact HB.out | apply bY | apply bT | apply bG) | exact HB.out)) : P := h
theorem zz2 {P : Prop} (h : P := by first | rfl | (simp; done) | (simp [*]; done)) : P := h
theorem zz3 {P : Prop} (h : P := by first | omega | exact Nat.le_refl _) : P := h
theorem zz4 {P : Prop} (h : P := by (with_reducible repeat (first | refine aM ?_ _ | refine aK ?_ | refine aJ ?_ _)); exact ak.out) : P := h
theorem zz5 {P : Prop} (h : P := by repeat (first | (with_reducible first | exact HB.out | apply bY | apply bT | apply bG | refine bS ?_ fD.out) | exact HB.out)) : P := h
theorem zz6 {P : Prop} (h : P := by first | rfl | (simp [gX, gW] <;> rfl) | (simp [*, gX, gW] <;> rfl)) : P := h
theorem zz7 {P : Prop} (h : P := by repeat (first | exact l5.refl _ | apply l5.step)) : P := h
theorem zz8 {P : Prop} (h : P := by (try simp only [List.map_toArray, List.map_cons, List.map_nil]); first | done | rfl | (simp only [List.length_drop, List.length_take]; rfl)) : P := h
theorem zz9 {P : Prop} (h : P := by first | (with_reducible assumption) | assumption) : P := h
theorem jK {P : Prop} (h : P := by rw [hg]; exact (bW (by repeat (first | (with_reducible first | exact HB.out | apply bY | apply bT | apply bG | refine bS ?_ fD.out) | exact HB.out)))) : P := h
theorem CU {P : Prop} (h : P := by rw [hg]; exact Nat.ne_of_lt (jL (g := au) (o := .cells #[.int .i64 aX, .int .i64 aU, .string aY] 23 (0, 0)) (by (with_reducible repeat (first | refine aM ?_ _ | refine aK ?_ | refine aJ ?_ _)); exact ak.out))) : P := h
theorem CS {P : Prop} (h : P := by rw [hg]; exact Nat.ne_of_gt (jL (g := au) (o := .cells #[.int .i64 aX, .int .i64 aU, .string aY] 23 (0, 0)) (by (with_reducible repeat (first | refine aM ?_ _ | refine aK ?_ | refine aJ ?_ _)); exact ak.out))) : P := h
theorem fK {P : Prop} (h : P := by (with_reducible repeat (first | refine aM ?_ _ | refine aK ?_ | refine aJ ?_ _)); exact av.out) : P := h
theorem fF {P : Prop} (h : P := by repeat (first | (with_reducible first | exact HB.out | apply bY | apply bT | apply bG | refine bS ?_ fD.out | refine bS ?_ iC.out) | exact HB.out)) : P := h
theorem Uk {P : Prop} (h : P := by have := World.block_lt_of_cell? _ _ kW; first | rwa [add_block] at this | exact this) : P := h
theorem Uj {P : Prop} (h : P := by first | (rw [add_block]; exact yG) | (show (Addr.add _ _).block ≠ _; rw [add_block]; exact yG) | exact yG) : P := h
theorem Ui {P : Prop} (h : P := by first | (rw [add_block]; exact yF) | (show (Addr.add _ _).block ≠ _; rw [add_block]; exact yF) | exact yF) : P := h
theorem Uh {P : Prop} (h : P := by first | (rw [add_block]; exact yE) | (show (Addr.add _ _).block ≠ _; rw [add_block]; exact yE) | exact yE) : P := h
theorem Ug {P : Prop} (h : P := by (with_reducible repeat (first | refine aM ?_ _ | refine aK ?_ | refine aJ ?_ _)); refine bU (cs := #[.int .i64 ((aN l0 dS).f0), .int .i64 ((aN l0 dS).f1), .string (⟨#[]⟩ : ByteArray)]) ?_ 2 _ rfl; (with_reducible repeat (first | refine aM ?_ _ | refine aK ?_ | refine aJ ?_ _)); refine bU (cs := #[.int .i64 ((aN l0 dS).f0), .int .i64 0, .string (⟨#[]⟩ : ByteArray)]) ?_ 1 _ rfl; (with_reducible repeat (first | refine aM ?_ _ | refine aK ?_ | refine aJ ?_ _)); refine bU (cs := #[.int .i64 0, .int .i64 0, .string (⟨#[]⟩ : ByteArray)]) ?_ 0 _ rfl; (with_reducible repeat (first | refine aM ?_ _ | refine aK ?_ | refine aJ ?_ _)); exact ak.out) : P := h
theorem zz20 {P : Prop} (h : P := by (with_reducible repeat (first | refine aM ?_ _ | refine aK ?_ | refine aJ ?_ _)); refine gU ?_ aQ.out _; (with_reducible repeat (first | refine aM ?_ _ | refine aK ?_ | refine aJ ?_ _)); refine gU ?_ aQ.out _; (with_reducible repeat (first | refine aM ?_ _ | refine aK ?_ | refine aJ ?_ _)); refine gU ?_ aQ.out _; (with_reducible repeat (first | refine aM ?_ _ | refine aK ?_ | refine aJ ?_ _)); exact ak.out) : P := h
theorem zz21 {P : Prop} (h : P := by (with_reducible repeat (first | refine aM ?_ _ | refine aK ?_ | refine aJ ?_ _)); refine bU (cs := #[.slice iD ((aH l0 bR).f0).length iy, .int .i64 0]) ?_ 1 _ rfl; (with_reducible repeat (first | refine aM ?_ _ | refine aK ?_ | refine aJ ?_ _)); refine bU (cs := #[.slice none 0 0, .int .i64 0]) ?_ 0 _ rfl; (with_reducible repeat (first | refine aM ?_ _ | refine aK ?_ | refine aJ ?_ _)); exact av.out) : P := h
theorem xg {P : Prop} (h : P := by repeat (first | (with_reducible first | exact HB.out | apply bY | apply bT | apply bG | refine bS ?_ iC.out) | exact HB.out)) : P := h
theorem H9 {P : Prop} (h : P := by first | exact Kd.Ho _ _ _ _ _ | exact Kd.N_nil _ _ _ _ _ | exact Kd.I6 _ _ _ _ _ | exact Kd.Q_nil _ _ _ _ _ | exact Kd.S_nil _ _ _ _ _) : P := h
theorem H8 {P : Prop} (h : P := by (with_reducible repeat (first | apply Kd.fJ | apply Kd.fH | apply Kd.eO)); exact om.out) : P := h
theorem zN {P : Prop} (h : P := by (with_reducible repeat (first | apply Kd.fJ | apply Kd.fH | apply Kd.eO)); exact lT.out) : P := h
theorem zz26 {P : Prop} (h : P := by (with_reducible repeat (first | apply Kd.fJ | apply Kd.fH | apply Kd.eO)); exact (Kd.dN (Kd.jh (p := ⟨au, 2, none⟩) (Kd.jh (p := ⟨au, 1, none⟩) (Kd.jh (p := ⟨au, 0, none⟩) (Kd.lJ lT.out ak.out (by decide)) (fun _ hk => hk.2) (.int .i64 ((aN l0 fE).f0))) (fun _ hk => hk.2) (.int .i64 ((aN l0 fE).f1))) (fun _ hk => hk.2) (.string ((aN l0 fE).f2))) (fun _ h_ => h_.1))) : P := h
theorem zz27 {P : Prop} (h : P := by (with_reducible repeat (first | refine aM ?_ _ | refine aK ?_ | refine aJ ?_ _)); refine bU (cs := #[.int .i64 ((aN l0 fE).f0), .int .i64 ((aN l0 fE).f1), .string (⟨#[]⟩ : ByteArray)]) ?_ 2 _ rfl; (with_reducible repeat (first | refine aM ?_ _ | refine aK ?_ | refine aJ ?_ _)); refine bU (cs := #[.int .i64 ((aN l0 fE).f0), .int .i64 0, .string (⟨#[]⟩ : ByteArray)]) ?_ 1 _ rfl; (with_reducible repeat (first | refine aM ?_ _ | refine aK ?_ | refine aJ ?_ _)); refine bU (cs := #[.int .i64 0, .int .i64 0, .string (⟨#[]⟩ : ByteArray)]) ?_ 0 _ rfl; (with_reducible repeat (first | refine aM ?_ _ | refine aK ?_ | refine aJ ?_ _)); exact ak.out) : P := h
theorem zz28 {P : Prop} (h : P := by first | (go_simp; done) | (go_simp; rfl)) : P := h
theorem zz29 {P : Prop} (h : P := by (with_reducible repeat (first | apply Kd.fJ | apply Kd.fH | apply Kd.eO)); exact Kd.dN (Kd.jh (p := ⟨au, 2, none⟩) (Kd.jh (p := ⟨au, 1, none⟩) (Kd.jh (p := ⟨au, 0, none⟩) (Kd.lJ lT.out ak.out (by decide)) (fun _ hk => hk.2) (.int .i64 oo)) (fun _ hk => hk.2) (.int .i64 t154)) (fun _ hk => hk.2) (.string kC)) (fun _ hk => trivial)) : P := h
theorem zz30 {P : Prop} (h : P := by (with_reducible repeat (first | refine aM ?_ _ | refine aK ?_ | refine aJ ?_ _)); refine bU (cs := #[.int .i64 oo, .int .i64 t154, .string ((aN l0 fE).f2)]) ?_ 2 _ rfl; (with_reducible repeat (first | refine aM ?_ _ | refine aK ?_ | refine aJ ?_ _)); refine bU (cs := #[.int .i64 oo, .int .i64 ((aN l0 fE).f1), .string ((aN l0 fE).f2)]) ?_ 1 _ rfl; (with_reducible repeat (first | refine aM ?_ _ | refine aK ?_ | refine aJ ?_ _)); refine bU (cs := #[.int .i64 ((aN l0 fE).f0), .int .i64 ((aN l0 fE).f1), .string ((aN l0 fE).f2)]) ?_ 0 _ rfl; (with_reducible repeat (first | refine aM ?_ _ | refine aK ?_ | refine aJ ?_ _)); exact ak.out) : P := h
theorem Om {P : Prop} (h : P := by have := HK1.out; have := HK2.out; omega) : P := h
theorem Ol {P : Prop} (h : P := by (with_reducible repeat (first | apply Kd.fJ | apply Kd.fH | apply Kd.eO)); exact iB.out) : P := h
theorem CQ {P : Prop} (h : P := by (with_reducible repeat (first | apply Kd.fJ | apply Kd.fH | apply Kd.eO)); exact jg.out) : P := h
theorem H7 {P : Prop} (h : P := by repeat (first | (with_reducible exact DR.out) | (with_reducible refine iZ.alloc ?_ _) | (with_reducible refine iZ.drewN ?_ _) | (with_reducible refine iZ.drew ?_) | exact DR.out)) : P := h
theorem zz35 {P : Prop} (h : P := by (with_reducible repeat (first | apply Kd.fJ | apply Kd.fH | apply Kd.eO)); exact sV.out) : P := h
theorem zz36 {P : Prop} (h : P := by (with_reducible repeat (first | apply Kd.fJ | apply Kd.fH | apply Kd.eO)); exact vk.out) : P := h
theorem zz37 {P : Prop} (h : P := by repeat (first | (with_reducible exact Xc.out) | (with_reducible refine iZ.alloc ?_ _) | (with_reducible refine iZ.drewN ?_ _) | (with_reducible refine iZ.drew ?_) | exact Xc.out)) : P := h
theorem zz38 {P : Prop} (h : P := by repeat (first | (with_reducible exact Xb.out) | (with_reducible refine Kd.dW ?_ _) | (with_reducible refine Kd.d9 ?_ _) | (with_reducible refine Kd.eT ?_) | exact Xb.out)) : P := h
theorem zB {P : Prop} (h : P := by rw [hg]; exact Nat.ne_of_lt (jL (g := au) (o := .cells #[.string aX, .string aU, .int .i64 aY, .int .i64 bJ, .int .i64 bI, .int .i64 bK] 30 (0, 0)) (by (with_reducible repeat (first | refine aM ?_ _ | refine aK ?_ | refine aJ ?_ _)); exact ak.out))) : P := h
theorem zA {P : Prop} (h : P := by rw [hg]; exact Nat.ne_of_gt (jL (g := au) (o := .cells #[.string aX, .string aU, .int .i64 aY, .int .i64 bJ, .int .i64 bI, .int .i64 bK] 30 (0, 0)) (by (with_reducible repeat (first | refine aM ?_ _ | refine aK ?_ | refine aJ ?_ _)); exact ak.out))) : P := h
theorem zz41 {P : Prop} (h : P := by (with_reducible repeat (first | apply Kd.fJ | apply Kd.fH | apply Kd.eO)); exact qL.out) : P := h
theorem zz42 {P : Prop} (h : P := by rw [hg]; exact Nat.le_refl _) : P := h
theorem zz43 {P : Prop} (h : P := by rw [hg]; exact HB.out.size) : P := h
theorem zz44 {P : Prop} (h : P := by rw [hg]; exact Nat.ne_of_lt (jL BK.out)) : P := h
theorem zz45 {P : Prop} (h : P := by (with_reducible repeat (first | apply Kd.fJ | apply Kd.fH | apply Kd.eO)); exact sU.out) : P := h
theorem Uf {P : Prop} (h : P := by (with_reducible repeat (first | apply Kd.fJ | apply Kd.fH | apply Kd.eO)); exact CJ.out) : P := h
theorem qI {P : Prop} (h : P := by repeat (first | (with_reducible first | exact HI0.out | apply aG.alloc | apply aG.drewN | apply aG.drew | apply aG.gq) | exact HI0.out)) : P := h
theorem ng {P : Prop} (h : P := by repeat (first | (with_reducible first | exact HK.out | apply bP.set_ | apply sH | apply qc | apply vS) | exact HK.out)) : P := h
theorem rZ {P : Prop} (h : P := by repeat (first | (with_reducible first | exact HB.out | apply bY | apply bT | apply bG | refine bS ?_ (aG.ge HI0.out)) | exact HB.out)) : P := h
theorem Ue {P : Prop} (h : P := by rw [hg]; exact (lC (w := w) (g := g) (row := none) (by repeat (first | (with_reducible first | exact HK.out | apply bP.set_ | apply sH | apply qc | apply vS) | exact HK.out)))) : P := h
theorem zz51 {P : Prop} (h : P := by rw [hg]; exact Nat.ne_of_lt (aG.lt (show aG w0 _ g dZ jH from by repeat (first | (with_reducible first | exact HI0.out | apply aG.alloc | apply aG.drewN | apply aG.drew | apply aG.gq) | exact HI0.out)))) : P := h
theorem zz52 {P : Prop} (h : P := by rw [hg]; exact Nat.ne_of_gt (aG.lt (show aG w0 _ g dZ jH from by repeat (first | (with_reducible first | exact HI0.out | apply aG.alloc | apply aG.drewN | apply aG.drew | apply aG.gq) | exact HI0.out)))) : P := h
theorem uS {P : Prop} (h : P := by (with_reducible repeat (first | apply Kd.fJ | apply Kd.fH | apply Kd.eO)); exact (fI h0_)) : P := h
theorem H6 {P : Prop} (h : P := by (with_reducible repeat (first | refine aM ?_ _ | refine aK ?_ | refine aJ ?_ _)); exact (gu h0_ h1_)) : P := h
theorem nQ {P : Prop} (h : P := by repeat (first | (with_reducible first | exact HK.out | apply bP.set_ | apply sH | apply qc | apply vS | refine Ar ?_ fO.out _) | exact HK.out)) : P := h
theorem zM {P : Prop} (h : P := by repeat (first | (with_reducible first | exact HB.out | apply bY | apply bT | apply bG | refine bS ?_ (aG.ge HI0.out) | refine bS ?_ fD.out) | exact HB.out)) : P := h
theorem zL {P : Prop} (h : P := by repeat (first | (with_reducible first | exact HI0.out | apply aG.alloc | apply aG.drewN | apply aG.drew | apply aG.gq | refine aG.far ?_ gK.out _) | exact HI0.out)) : P := h
theorem zz58 {P : Prop} (h : P := by repeat (first | (with_reducible first | exact (kV h0_) | apply aG.alloc | apply aG.drewN | apply aG.drew | apply aG.gq | refine aG.far ?_ gK.out _) | exact (kV h0_))) : P := h
theorem zz59 {P : Prop} (h : P := by repeat (first | (with_reducible first | exact (gB h0_ h1_) | apply aG.alloc | apply aG.drewN | apply aG.drew | apply aG.gq | refine aG.far ?_ gK.out _) | exact (gB h0_ h1_))) : P := h
theorem zz60 {P : Prop} (h : P := by repeat (first | (with_reducible first | exact (gy h0_ h1_) | apply aG.alloc | apply aG.drewN | apply aG.drew | apply aG.gq | refine aG.far ?_ gK.out _) | exact (gy h0_ h1_))) : P := h
theorem zz61 {P : Prop} (h : P := by repeat (first | (with_reducible first | exact (fP h0_ h1_) | apply aG.alloc | apply aG.drewN | apply aG.drew | apply aG.gq | refine aG.far ?_ gK.out _) | exact (fP h0_ h1_))) : P := h
theorem zz62 {P : Prop} (h : P := by repeat (first | (with_reducible first | exact (dQ h0_) | apply aG.alloc | apply aG.drewN | apply aG.drew | apply aG.gq | refine aG.far ?_ gK.out _) | exact (dQ h0_))) : P := h
theorem zz63 {P : Prop} (h : P := by rw [hg]; exact (lC (w := w) (g := g) (row := none) (by repeat (first | (with_reducible first | exact HK.out | apply bP.set_ | apply sH | apply qc | apply vS | refine Ar ?_ fO.out _) | exact HK.out)))) : P := h
theorem Ud {P : Prop} (h : P := by repeat (first | (with_reducible first | exact HK.out | apply bP.set_ | apply sH | apply qc | apply vS | refine Ar ?_ fO.out _ | refine Ar ?_ iX.out _) | exact HK.out)) : P := h
theorem zz65 {P : Prop} (h : P := by repeat (first | (with_reducible first | exact HB.out | apply bY | apply bT | apply bG | refine bS ?_ (aG.ge HI0.out) | refine bS ?_ fD.out | refine bS ?_ iC.out) | exact HB.out)) : P := h
theorem zz66 {P : Prop} (h : P := by repeat (first | (with_reducible first | exact HI0.out | apply aG.alloc | apply aG.drewN | apply aG.drew | apply aG.gq | refine aG.far ?_ gK.out _ | refine aG.far ?_ og.out _) | exact HI0.out)) : P := h
theorem zz67 {P : Prop} (h : P := by first | exact Kd.S_nil _ _ _ _ _ | exact Kd.N_nil _ _ _ _ _ | exact Kd.I6 _ _ _ _ _ | exact Kd.Q_nil _ _ _ _ _ | exact Kd.Ho _ _ _ _ _) : P := h
theorem zz68 {P : Prop} (h : P := by (with_reducible repeat (first | apply Kd.uy | apply Kd.uw | apply Kd.xZ)); exact zY.out) : P := h
theorem zz69 {P : Prop} (h : P := by (with_reducible repeat (first | apply Kd.fJ | apply Kd.fH | apply Kd.eO)); exact fu.out) : P := h
theorem Uc {P : Prop} (h : P := by (with_reducible repeat (first | apply Kd.iL | apply Kd.iH | apply Kd.gG)); exact HO0.out) : P := h
theorem uF {P : Prop} (h : P := by (with_reducible repeat (first | apply Kd.iL | apply Kd.iH | apply Kd.gG)); exact jX.out) : P := h
theorem Ub {P : Prop} (h : P := by have := HK1.out; first | omega | exact Nat.le_refl _) : P := h
theorem CP {P : Prop} (h : P := by (with_reducible repeat (first | apply Kd.iL | apply Kd.iH | apply Kd.gG)); exact jU.out) : P := h
theorem FT {P : Prop} (h : P := by (with_reducible repeat (first | apply Kd.mq | apply Kd.lU | apply Kd.ko)); exact qL.out) : P := h
theorem zz75 {P : Prop} (h : P := by have := HK1.out; have := HJ2.out; first | omega | exact Nat.le_refl _) : P := h
theorem Jb {P : Prop} (h : P := by repeat (first | (with_reducible exact iO.out) | (with_reducible refine Kd.dW ?_ _) | (with_reducible refine Kd.d9 ?_ _) | (with_reducible refine Kd.eT ?_) | exact iO.out)) : P := h
theorem zz77 {P : Prop} (h : P := by repeat (first | (with_reducible exact qA.out) | (with_reducible refine Kd.dW ?_ _) | (with_reducible refine Kd.d9 ?_ _) | (with_reducible refine Kd.eT ?_) | exact qA.out)) : P := h
theorem zz78 {P : Prop} (h : P := by have := HK1.out; have := HJ2.out; have := HJ5.out; omega) : P := h
theorem zz79 {P : Prop} (h : P := by (with_reducible repeat (first | apply Kd.mq | apply Kd.lU | apply Kd.ko)); exact jg.out) : P := h
theorem Oj {P : Prop} (h : P := by (with_reducible repeat (first | apply Kd.mq | apply Kd.lU | apply Kd.ko)); exact sV.out) : P := h
theorem zz81 {P : Prop} (h : P := by (with_reducible repeat (first | apply Kd.iL | apply Kd.iH | apply Kd.gG)); exact jg.out) : P := h
theorem zz82 {P : Prop} (h : P := by (with_reducible repeat (first | apply Kd.iL | apply Kd.iH | apply Kd.gG)); exact l9.out) : P := h
theorem zz83 {P : Prop} (h : P := by first | exact D6 | exact of_decide_eq_true (by first | (with_reducible assumption) | assumption) | (have e_ := (Kd.eH jX.out).1; omega)) : P := h
theorem zz84 {P : Prop} (h : P := by (with_reducible repeat (first | apply Kd.iL | apply Kd.iH | apply Kd.gG)); exact zw.out) : P := h
theorem zz85 {P : Prop} (h : P := by (with_reducible repeat (first | apply Kd.uy | apply Kd.uw | apply Kd.xZ)); exact fu.out) : P := h
theorem zz86 {P : Prop} (h : P := by repeat (first | (with_reducible first | exact HK.out | apply Kept.alloc | apply Kept.drewN | apply Kept.drew) | exact HK.out)) : P := h
theorem zz87 {P : Prop} (h : P := by (with_reducible repeat (first | apply Kd.fJ | apply Kd.fH | apply Kd.eO)); exact HO1.out) : P := h
theorem z8 {P : Prop} (h : P := by repeat (first | (with_reducible first | exact HK.out | apply Kept.alloc | apply Kept.drewN | apply Kept.drew | refine Kept.setCell ?_ (.inr fO.out) _ | refine Kept.setCell ?_ (.inr iX.out) _) | exact HK.out)) : P := h
theorem Mf {P : Prop} (h : P := by (with_reducible repeat (first | apply Kd.fJ | apply Kd.fH | apply Kd.eO)); exact jU.out) : P := h
theorem zz90 {P : Prop} (h : P := by first | exact HK.out.1 | exact (show Kept w _ (fun k_ => P1_ k_) from by repeat (first | (with_reducible first | exact HK.out | apply Kept.alloc | apply Kept.drewN | apply Kept.drew | refine Kept.setCell ?_ (.inr fO.out) _ | refine Kept.setCell ?_ (.inr iX.out) _) | exact HK.out)).1) : P := h
theorem zy {P : Prop} (h : P := by (with_reducible repeat (first | apply Kd.fJ | apply Kd.fH | apply Kd.eO)); exact jJ.out) : P := h
theorem zz92 {P : Prop} (h : P := by repeat (first | (with_reducible first | exact HB.out | apply bY | apply bT | apply bG | refine bS ?_ fD.out | refine bS ?_ Xg.out) | exact HB.out)) : P := h
theorem HZ {P : Prop} (h : P := by (with_reducible repeat (first | apply Kd.fJ | apply Kd.fH | apply Kd.eO)); exact l9.out) : P := h
theorem zZ {P : Prop} (h : P := by repeat (first | (with_reducible first | exact HB.out | apply bY | apply bT | apply bG | refine bS ?_ fD.out | refine bS ?_ iC.out | refine bS ?_ GE105.out) | exact HB.out)) : P := h
theorem Ua {P : Prop} (h : P := by (with_reducible repeat (first | refine aM ?_ _ | refine aK ?_ | refine aJ ?_ _)); exact jG.out) : P := h
theorem zz96 {P : Prop} (h : P := by repeat (first | (with_reducible first | exact dR.out | apply aG.alloc | apply aG.drewN | apply aG.drew | apply aG.gq) | exact dR.out)) : P := h
theorem zz97 {P : Prop} (h : P := by repeat (first | (with_reducible first | exact HB.out | apply bY | apply bT | apply bG | refine bS ?_ (aG.ge dR.out)) | exact HB.out)) : P := h
theorem zz98 {P : Prop} (h : P := by (with_reducible repeat (first | apply Kd.iL | apply Kd.iH | apply Kd.gG)); exact mF.out) : P := h
theorem zz99 {P : Prop} (h : P := by rw [hg]; exact (bW (by repeat (first | (with_reducible first | exact HB.out | apply bY | apply bT | apply bG | refine bS ?_ (aG.ge dR.out)) | exact HB.out)))) : P := h
theorem Q7 {P : Prop} (h : P := by (with_reducible repeat (first | apply Kd.iL | apply Kd.iH | apply Kd.gG)); exact (Kd.jr (Kd.wV (p := ⟨ay, 5, none⟩) (Kd.wV (p := ⟨ay, 4, none⟩) (Kd.wV (p := ⟨ay, 3, none⟩) (Kd.wV (p := ⟨ay, 2, none⟩) (Kd.wV (p := ⟨ay, 1, none⟩) (Kd.wV (p := ⟨ay, 0, none⟩) (Kd.jr mF.out (fun k_ hk => (⟨hk, hk.2⟩ : _ ∧ k_ ≠ ay))) (fun _ hk => hk.2) (.string jm)) (fun _ hk => hk.2) (.string jy)) (fun _ hk => hk.2) (.int .i64 eG)) (fun _ hk => hk.2) (.int .i64 jP)) (fun _ hk => hk.2) (.int .i64 jT)) (fun _ hk => hk.2) (.int .i64 jW)) (fun _ h_ => h_.1))) : P := h
theorem qM {P : Prop} (h : P := by repeat (first | (with_reducible first | exact HB.out | apply bY | apply bT | apply bG | refine bS ?_ (aG.ge dR.out) | refine bS ?_ iC.out) | exact HB.out)) : P := h
theorem xq {P : Prop} (h : P := by repeat (first | (with_reducible first | exact dR.out | apply aG.alloc | apply aG.drewN | apply aG.drew | apply aG.gq | refine aG.far ?_ jR.out _) | exact dR.out)) : P := h
theorem uU {P : Prop} (h : P := by (with_reducible repeat (first | apply Kd.fJ | apply Kd.fH | apply Kd.eO)); exact kH.out) : P := h
theorem xk {P : Prop} (h : P := by (with_reducible repeat (first | apply Kd.mq | apply Kd.lU | apply Kd.ko)); exact fu.out) : P := h
theorem Q6 {P : Prop} (h : P := by rw [hg]; exact (bW (by repeat (first | (with_reducible first | exact HB.out | apply bY | apply bT | apply bG | refine bS ?_ (aG.ge dR.out) | refine bS ?_ iC.out) | exact HB.out)))) : P := h
theorem U3 {P : Prop} (h : P := by (with_reducible repeat (first | refine aM ?_ _ | refine aK ?_ | refine aJ ?_ _)); refine gU ?_ gJ.out _; (with_reducible repeat (first | refine aM ?_ _ | refine aK ?_ | refine aJ ?_ _)); refine gU ?_ gJ.out _; (with_reducible repeat (first | refine aM ?_ _ | refine aK ?_ | refine aJ ?_ _)); refine gU ?_ gJ.out _; (with_reducible repeat (first | refine aM ?_ _ | refine aK ?_ | refine aJ ?_ _)); exact av.out) : P := h
theorem Ab {P : Prop} (h : P := by repeat (first | (with_reducible first | exact dR.out | apply aG.alloc | apply aG.drewN | apply aG.drew | apply aG.gq | refine aG.far ?_ jR.out _ | refine aG.far ?_ zu.out _) | exact dR.out)) : P := h
theorem uT {P : Prop} (h : P := by repeat (first | (with_reducible first | exact HB.out | apply bY | apply bT | apply bG | refine bS ?_ (aG.ge dR.out) | refine bS ?_ iC.out | refine bS ?_ GE107.out) | exact HB.out)) : P := h
theorem Ip {P : Prop} (h : P := by first | exact Kd.Aq (Kd.LV fu.out (fun _ hk => hk.2.2.2.2)) | (rw [add_block]; exact Kd.Aq (Kd.LV fu.out (fun _ hk => hk.2.2.2.2))) | (show (Addr.add _ _).block ≠ _; rw [add_block]; exact Kd.Aq (Kd.LV fu.out (fun _ hk => hk.2.2.2.2))) | (dsimp only; exact Kd.Aq (Kd.LV fu.out (fun _ hk => hk.2.2.2.2)))) : P := h
theorem Aa {P : Prop} (h : P := by first | exact Ao kX.out (fun _ hk => hk.1.2.2.2.2) | (rw [add_block]; exact Ao kX.out (fun _ hk => hk.1.2.2.2.2)) | (show (Addr.add _ _).block ≠ _; rw [add_block]; exact Ao kX.out (fun _ hk => hk.1.2.2.2.2)) | (dsimp only; exact Ao kX.out (fun _ hk => hk.1.2.2.2.2))) : P := h
theorem Q5 {P : Prop} (h : P := by (with_reducible repeat (first | refine aM ?_ _ | refine aK ?_ | refine aJ ?_ _)); exact fQ.out) : P := h
theorem Q0 {P : Prop} (h : P := by refine LG HBZ.out ?_; repeat (first | (with_reducible first | exact HB.out | apply bY | apply bT | apply bG | refine bS ?_ (aG.ge dR.out) | refine bS ?_ iC.out) | exact HB.out)) : P := h
end Go.Proofs.YthicocmnefaioaaW.Sq

import Derived.Below
import Derived.Deep.Draws
import Derived.Deep.AppendLies
import Derived.Maps.AppendAt
import Derived.OwnWalk
import Derived.Laws.BytesArg
import Derived.Laws.MakeOwn
import Derived.Laws.OwnMore
import Derived.Deep.OwnRows
import Derived.Tactics
import Derived.Lib.ConvBytes
import Derived.Laws.Slices
import Derived.WalkKit
import Derived.KernelRfl
import Derived.RowKit3
import Derived.Deep.LoopGhost
import Derived.Deep.QuietTactic
import Derived.BigQuiet
import Derived.WideLaws
import Derived.Deep.DeepCutAuto
import Derived.Deep.CutBlock
import Derived.Deep.RegionHeld3
import Derived.Laws.Rows
import Derived.Lib.AppendStr
import Derived.ArgAppend
import Derived.Laws.IdiomCopy
import Derived.RowKit
import Derived.OrdersHeld
import Derived.Laws.BitsLemmas
import Derived.Laws.StructEq
import Derived.Laws.Cover1
import Derived.WalkSpells
import Derived.SizedLaws
import Derived.ChangeSlices
set_option linter.unusedVariables false
set_option linter.unusedSimpArgs false
namespace Go.Proofs.YthicocmnefaioaaW.dw
open Go.RowKit
structure ah (p : Prop) : Prop where mk :: (out : p)
structure l5 (w w' : World) : Prop where mk :: (out : ∃ n, w' = w.drewN n)
theorem l5.refl (w : World) : l5 w w := ⟨⟨0, rfl⟩⟩
theorem l5.step {w w' : World} (h : l5 w w') (n : Nat) : l5 w (w'.drewN n) := by
  obtain ⟨m, rfl⟩ := h
  exact ⟨⟨m + n, World.drewN_drewN ..⟩⟩
def rd (xs : List Int) (i : Int) : Int := xs.getD i.toNat 0
def nums (k : IntKind) (xs : List Int) : List Value := xs.map fun x => .int k x
theorem nums_append (k : IntKind) (xs ys : List Int) : nums k (xs ++ ys) = nums k xs ++ nums k ys := by simp [nums]
theorem bY {w W : World} (h : Below w.heap.size w W) (o : Obj) : Below w.heap.size w (W.alloc o) := h.alloc h.size o
theorem wK {B : Nat} {w W : World} (h : Below B w W) : Below B w W.drew := ⟨h.os, h.tape, h.output, h.size, h.block⟩
theorem bT {B : Nat} {w W : World} (h : Below B w W) (n : Nat) : Below B w (W.drewN n) := ⟨h.os, h.tape, h.output, h.size, h.block⟩
theorem He {B : Nat} {w w1 w2 : World} (h : Below B w w1) (hB : B ≤ w1.heap.size) (k : Below w1.heap.size w1 w2) : Below B w w2 :=
  h.trans ⟨k.os, k.tape, k.output, k.size, fun i hi => k.block i (Nat.lt_of_lt_of_le hi hB)⟩
theorem F5 {B : Nat} {w w1 : World} (h : Below B w w1) (row : Option Nat) (hB : B ≤ w1.heap.size) {w2 : World} (hg : w1.grownBy w2 row) (hr : ∀ k, row = some k → B ≤ k) : Below B w w2 := h.grown hg hB hr
theorem sK {w w1 : World} (h : Below w.heap.size w w1) (row : Option Nat) : w.grownBy w1 row := ⟨h.os, h.tape, h.output, h.size, fun i hi _ => h.block i hi⟩
theorem uI {w w1 : World} (h : Below w.heap.size w w1) {a : Addr} {v : Value} (hc : w.cell? a = some v) : w1.cell? a = some v := (h.cell (World.block_lt_of_cell? w a hc)).trans hc
theorem add_plain (g j : Nat) : (⟨g, 0, none⟩ : Addr).add j = ⟨g, j, none⟩ := by unfold Addr.add; split <;> simp_all
def lZ (w : World) (k : IntKind) (A : Option Addr) (n : Nat) (xs : List Int) : Prop :=
  xs.length = n ∧ n ≤ 9223372036854775807 ∧ (0 < n → ∃ ad, A = some ad ∧ ∀ j, j < n → w.cell? (ad.add j) = some (.int k (xs.getD j 0)))
theorem lZ.at_ {w : World} {k : IntKind} {A : Option Addr} {n : Nat} {xs : List Int} (h : lZ w k A n xs) (i : Int) (h0 : 0 ≤ i) (h1 : i < n) : ∃ ad, A = some ad ∧ w.cell? (ad.add i.toNat) = some (.int k (rd xs i)) := by
  obtain ⟨ad, e, hc⟩ := h.2.2 (by omega)
  exact ⟨ad, e, hc _ (by omega)⟩
theorem X8 (W : World) (base : Nat) (e : TypeId) (size : Nat) : W.ownsRow base e size (.slice none 0 0) 0 [] := ⟨by simp, .inl ⟨rfl, rfl⟩⟩
theorem qC {w : World} {base : Nat} {e : TypeId} {size n : Nat} {v : Value} {xs : List Value} (h : w.ownsRow base e size v n xs) (k : Nat) (hk : v.ownBlock = some k) : base ≤ k := by
  rcases h.2 with ⟨rfl, _⟩ | ⟨g, cap, cur, rfl, hb, _⟩
  · simp [Value.ownBlock] at hk
  · have : g = k := by simpa [Value.ownBlock] using hk
    omega
theorem PN {w : World} {base : Nat} {e : TypeId} {size n : Nat} {v : Value} {xs : List Value} (h : w.ownsRow base e size v n xs) (k : Nat) (hk : v.ownBlock = some k) : k < w.heap.size := by
  rcases h.2 with ⟨rfl, _⟩ | ⟨g, cap, cur, rfl, hb, hh, _⟩
  · simp [Value.ownBlock] at hk
  · have : g = k := by simpa [Value.ownBlock] using hk
    subst this
    exact (Array.getElem?_eq_some_iff.1 hh).1
theorem UC {w : World} {base n : Nat} {e : TypeId} {k : IntKind} {v : Value} {xs : List Int} (h : w.ownsRow base e 1 v n (nums k xs)) : ∃ A c, v = .slice A n c ∧ lZ w k A n xs := by
  have hl : xs.length = n := by have := h.1; simp [nums] at this; exact this
  rcases Nat.eq_zero_or_pos n with h0 | h0
  · rcases h.2 with ⟨rfl, rfl⟩ | ⟨g, cap, cur, rfl, _⟩
    · exact ⟨none, 0, rfl, hl, by omega, fun hp => absurd hp (by omega)⟩
    · exact ⟨_, cap, rfl, hl, by omega, fun hp => absurd hp (by omega)⟩
  · obtain ⟨g, cap, rfl, _, _⟩ := h.form h0
    have hm : n ≤ 9223372036854775807 := by
      rcases h.2 with ⟨_, h1⟩ | ⟨g', cap', cur, he, _, _, h1, h2, _⟩
      · omega
      · simp only [maxLen] at h2
        omega
    refine ⟨_, cap, rfl, hl, hm, fun _ => ⟨_, rfl, fun j hj => h.cells (g := g) rfl j _ ?_⟩⟩
    simp [nums, List.getElem?_eq_getElem (show j < xs.length by omega), List.getD_eq_getElem?_getD]
theorem UA {w : World} {base n : Nat} {e : TypeId} {size : Nat} {v : Value} {xs : List Value} (h : w.ownsRow base e size v n xs) : ∃ A c, v = .slice A n c := by
  rcases h.2 with ⟨rfl, rfl⟩ | ⟨g, cap, cur, rfl, _⟩
  · exact ⟨none, 0, rfl⟩
  · exact ⟨_, cap, rfl⟩
theorem PL {P : Program} {w : World} {base n : Nat} {e' src dst e : TypeId} {v : Value} {xs : List Int} (hs : P.underlying src = some (.slice e)) (he : P.underlying e = some (.int .u8)) (hd : P.underlying dst = some .string)
    (h : w.ownsRow base e' 1 v n (nums .u8 xs)) : (convert src dst v).run P w = .ok (.string (strOfNums xs)) w := by
  have hl : xs.length = n := by have := h.1; simp [nums] at this; exact this
  rcases h.2 with ⟨rfl, rfl⟩ | ⟨g, cap, cur, rfl, _⟩
  · obtain rfl : xs = [] := List.eq_nil_of_length_eq_zero hl
    exact run_convert_bytes_nil w src e hs he 0 0 dst hd
  · refine run_convert_bytes_arg w src e hs he g 0 n cap xs hl (fun i hi => ?_) dst hd
    have hc := h.cells (g := g) rfl i (.int .u8 (xs.getD i 0)) (by simp [nums, List.getElem?_eq_getElem (show i < xs.length by omega), List.getD_eq_getElem?_getD])
    have ha : (⟨g, 0, none⟩ : Addr).add i = ⟨g, 0 + i, none⟩ := by unfold Addr.add; split <;> simp_all
    rwa [ha] at hc
section
variable {P : Program} {ops : Array Oper} {rest : List Oper} {o : Oper} {a : Act} {Q : Exit → Act → World → Prop}
end
section
variable {P : Program}
end
section
variable {P : Program} {ops : Array Oper} {rest : List Oper} {o : Oper} {a : Act} {Q : Exit → Act → World → Prop}
end
def bytesOf (s : ByteArray) : List Int := s.data.toList.map fun b => (b.toNat : Int)
theorem Dy (s : ByteArray) : s.data.toList.length = s.size := by rw [Array.length_toList]; rfl
theorem bytesOf_length (s : ByteArray) : (bytesOf s).length = s.size := by rw [bytesOf, List.length_map, Dy]
theorem Ms {P : Program} (src dst e : TypeId) {u : TypeDesc} (hs : P.underlying src = some u) (hd : P.underlying dst = some (.slice e)) (he : P.underlying e = some (.int .u8)) (s : ByteArray) (W : World) :
    (convert src dst (.string s)).run P W = .ok (.slice (some ⟨W.heap.size, 0, none⟩) s.size (grownCap W s.size 0 e)) (Lib.bytesWorld W e s) := Lib.run_convert_string_bytes W src dst e s hs hd he
theorem NQ (W : World) (e : TypeId) (s : ByteArray) (hs : s.size ≤ 9223372036854775807) : lZ (Lib.bytesWorld W e s) .u8 (some ⟨W.heap.size, 0, none⟩) s.size (bytesOf s) := by
  refine ⟨bytesOf_length s, hs, fun _ => ⟨_, rfl, fun j hj => ?_⟩⟩
  rw [add_plain, Lib.bytesWorld_cell W e s j hj]
  have h' : j < s.data.toList.length := by rw [Dy]; exact hj
  simp [bytesOf, List.getD_eq_getElem?_getD, List.getElem?_eq_getElem h']
theorem NR {B : Nat} {w W : World} (h : Below B w W) (hB : B ≤ W.heap.size) (e : TypeId) (s : ByteArray) : Below B w (Lib.bytesWorld W e s) :=
  h.trans ⟨rfl, rfl, rfl, by rw [Lib.bytesWorld_size]; omega, fun i hi => Lib.bytesWorld_at_old W e s i (by omega)⟩
def LeO {α : Type} (a b : Option α) : Prop := ∀ r, a = some r → b = some r
theorem LeO.refl {α : Type} (a : Option α) : LeO a a := fun _ h => h
theorem LeO.ite {α : Type} {c : Prop} [Decidable c] {a a' b b' : Option α} (h : LeO a a') (k : LeO b b') : LeO (if c then a else b) (if c then a' else b') := by
  split
  · exact h
  · exact k
theorem LeO.bind {α β : Type} {a a' : Option α} {f f' : α → Option β} (h : LeO a a') (k : ∀ x, LeO (f x) (f' x)) : LeO (a.bind f) (a'.bind f') := by
  intro r hr
  obtain ⟨x, hx, hf⟩ := Option.bind_eq_some_iff.1 hr
  exact Option.bind_eq_some_iff.2 ⟨x, h x hx, k x r hf⟩
def ig {α : Type} (R : α → List Value → Prop) (size : Nat) (ps : List α) (cs : List Value) : Prop :=
  cs.length = ps.length * size ∧ ∀ j p, ps[j]? = some p → R p ((cs.drop (j * size)).take size)
theorem ig.none {α : Type} (R : α → List Value → Prop) (size : Nat) : ig R size [] [] := ⟨by simp, fun j p h => by simp at h⟩
theorem ig.snoc {α : Type} {R : α → List Value → Prop} {size : Nat} {ps : List α} {cs c : List Value} {p : α} (h : ig R size ps cs) (hp : R p c) (hc : c.length = size) : ig R size (ps ++ [p]) (cs ++ c) := by
  refine ⟨by rw [List.length_append, h.1, hc, List.length_append, List.length_singleton, Nat.add_mul, Nat.one_mul], fun j q hq => ?_⟩
  rcases Nat.lt_or_ge j ps.length with hj | hj
  · rw [List.getElem?_append_left hj] at hq
    have h1 : j * size + size ≤ cs.length := by rw [h.1, ← Nat.succ_mul]; exact Nat.mul_le_mul_right _ hj
    have h2 := h.2 j q hq
    rw [List.drop_append_of_le_length (by omega), List.take_append_of_le_length (by rw [List.length_drop]; omega)]
    exact h2
  · have hj' : j = ps.length := by
      have := (List.getElem?_eq_some_iff.1 hq).1
      rw [List.length_append, List.length_singleton] at this
      omega
    subst hj'
    have hq' : p = q := by simpa using hq
    subst hq'
    rw [← h.1, List.drop_left, ← hc, List.take_length]
    exact hp
theorem ig.wY {α : Type} {R R' : α → List Value → Prop} {size : Nat} {ps : List α} {cs : List Value} (h : ig R size ps cs) (hR : ∀ p c, R p c → R' p c) : ig R' size ps cs := ⟨h.1, fun j p hj => hR _ _ (h.2 j p hj)⟩
def j6 {α : Type} (R : α → List Value → Prop) (size : Nat) (w : World) (A : Option Addr) (n : Nat) (ps : List α) : Prop :=
  ps.length = n ∧ n ≤ 9223372036854775807 ∧ (0 < n → ∃ ad, A = some ad ∧ ∀ j p, ps[j]? = some p → ∃ c, c.length = size ∧ R p c ∧ ∀ i u, c[i]? = some u → w.cell? (ad.add (j * size + i)) = some u)
theorem j6.get_ {α : Type} {R : α → List Value → Prop} {size : Nat} {w : World} {A : Option Addr} {n : Nat} {ps : List α} (h : j6 R size w A n ps) (d : α) (i : Int) (h0 : 0 ≤ i) (h1 : i < n) :
    ∃ ad c, A = some ad ∧ c.length = size ∧ R (ps.getD i.toNat d) c ∧ ∀ j u, c[j]? = some u → w.cell? (ad.add (i.toNat * size + j)) = some u := by
  obtain ⟨ad, e, hc⟩ := h.2.2 (by omega)
  have hl : i.toNat < ps.length := by have := h.1; omega
  obtain ⟨c, hs, hr, hcell⟩ := hc i.toNat _ (List.getElem?_eq_getElem hl)
  refine ⟨ad, c, e, hs, ?_, hcell⟩
  rw [List.getD_eq_getElem?_getD, List.getElem?_eq_getElem hl]
  exact hr
theorem j6.wY {α : Type} {R R' : α → List Value → Prop} {size : Nat} {w w1 : World} {A : Option Addr} {n : Nat} {ps : List α} (h : j6 R size w A n ps) (hb : Below w.heap.size w w1) (hR : ∀ p c, R p c → R' p c) : j6 R' size w1 A n ps :=
  ⟨h.1, h.2.1, fun hn => by
    obtain ⟨ad, e, hc⟩ := h.2.2 hn
    refine ⟨ad, e, fun j p hj => ?_⟩
    obtain ⟨c, hs, hr, hcell⟩ := hc j p hj
    exact ⟨c, hs, hR _ _ hr, fun i u hu => uI hb (hcell i u hu)⟩⟩
theorem Ii {α : Type} {R : α → List Value → Prop} {w : World} {base n size : Nat} {e : TypeId} {v : Value} {ps : List α} {cs : List Value} (h : w.ownsRow base e size v n cs) (hR : ig R size ps cs) (hn : ps.length = n) :
    ∃ A c, v = .slice A n c ∧ j6 R size w A n ps := by
  rcases Nat.eq_zero_or_pos n with h0 | h0
  · rcases h.2 with ⟨rfl, rfl⟩ | ⟨g, cap, cur, rfl, _⟩
    · exact ⟨none, 0, rfl, hn, by omega, fun hp => absurd hp (by omega)⟩
    · exact ⟨_, cap, rfl, hn, by omega, fun hp => absurd hp (by omega)⟩
  · obtain ⟨g, cap, rfl, _, _⟩ := h.form h0
    have hm : n ≤ 9223372036854775807 := by
      rcases h.2 with ⟨_, h1⟩ | ⟨g', cap', cur, he, _, _, h1, h2, _⟩
      · omega
      · simp only [maxLen] at h2
        omega
    refine ⟨_, cap, rfl, hn, hm, fun _ => ⟨_, rfl, fun j p hj => ⟨(cs.drop (j * size)).take size, ?_, hR.2 j p hj, fun i u hu => ?_⟩⟩⟩
    · have hjl := (List.getElem?_eq_some_iff.1 hj).1
      have h1 : j * size + size ≤ cs.length := by rw [hR.1, ← Nat.succ_mul]; exact Nat.mul_le_mul_right _ hjl
      rw [List.length_take, List.length_drop]
      omega
    · refine h.cells (g := g) rfl _ u ?_
      rw [List.getElem?_take] at hu
      split at hu
      · rw [List.getElem?_drop] at hu
        exact hu
      · cases hu
theorem Dk (ad : Addr) (m j : Nat) (hj : 0 < j) : ad.add (m + j) = ⟨(ad.add m).block, (ad.add m).off + j, none⟩ := by
  unfold Addr.add
  by_cases hm : m = 0
  · subst hm
    simp [Nat.ne_of_gt hj]
  · simp [hm, Nat.add_assoc]
section
variable {P : Program} {ops : Array Oper} {rest : List Oper} {o : Oper} {a : Act} {Q : Exit → Act → World → Prop}
theorem zS {w0 W : World} (base : Nat) (hgd : o.guard = none) (s x : Operand) (t e : TypeId) (z : Value) (size bytes : Nat)
    (ho : o.op = .call { callee := .builtin .append, args := #[s, x], argTypes := #[t, t] })
    (ht : P.underlying t = some (.slice e)) (hinfo : (P.info? e).map (fun i => (i.zero, i.size, i.bytes)) = some (some z, size, bytes)) (hz : z.cells.size = size) (hs0 : 0 < size) (hb0 : 0 < bytes)
    (v : Value) (n : Nat) (xs ys : List Value) (hs : a.eval s = v) (hx : a.eval x = .slice (some ⟨W.heap.size, 0, none⟩) 1 1) (hys : ys.length = size) (h1 : ∀ u ∈ ys, u.oneCell' = true)
    (HO : W.ownsRow base e size v n xs) (HB : Below base w0 W) (hbase : base ≤ W.heap.size) (hl : (n + 1) * bytes ≤ 140737488355328)
    (h : ∀ v1 w1, w1.ownsRow base e size v1 (n + 1) (xs ++ ys) → Below base w0 w1 → W.grownBy w1 v.ownBlock → (v1.ownBlock = v.ownBlock ∨ ∃ b, v1.ownBlock = some b ∧ W.heap.size ≤ b) → wpList P ops Q rest (a.put o.dst v1) w1) :
    wpList P ops Q (o :: rest) a (W.alloc (.cells ys.toArray e)) := by
  obtain ⟨i0, hi, hzz⟩ := Option.map_eq_some_iff.1 hinfo
  simp only [Prod.mk.injEq] at hzz
  obtain ⟨hz0, hz1, hz2⟩ := hzz
  have hlen : n + 1 ≤ 140737488355328 := Nat.le_trans (Nat.le_mul_of_pos_right _ hb0) hl
  refine wpList_append_own_at (W.alloc (.cells ys.toArray e)) hgd s x t ho base e i0 z size bytes ht hi hz0 hz1 hz2 hz hs0 v n xs hs (HO.alloc _) ⟨W.heap.size, 0, none⟩ 1 1 ys hx (by rw [hys]; simp)
    (by simpa using World.news_of_block (cs := ys.toArray) (t := e) (fr := (0, 0)) (heap_alloc_new W (.cells ys.toArray e))) h1 (by simp only [maxLen]; omega) hl (by simp; omega) ?_
  intro v1 w1 hown hg _ hat
  refine h v1 w1 hown ((HB.alloc hbase _).grown hg (by simp; omega) (qC HO)) (World.grownBy.trans (World.grownBy_alloc W _ _) hg) ?_
  rcases hat with hat | hat
  · exact .inl hat
  · exact .inr ⟨_, hat, by simp⟩
end
theorem own_ne {w : World} {base : Nat} {e t : TypeId} {size n g : Nat} {v : Value} {xs : List Value} {cs : Array Value} (h : w.ownsRow base e size v n xs) (hg : w.heap[g]? = some (.cells cs t (0, 0))) (hne : e ≠ t) : some g ≠ v.ownBlock := by
  rcases h.2 with ⟨rfl, _⟩ | ⟨g', cap, cur, rfl, _, hh, _⟩
  · simp [Value.ownBlock]
  · intro he
    have : g = g' := by simpa [Value.ownBlock] using he
    subst this
    rw [hg] at hh
    injection hh with hh
    injection hh with _ ht
    exact hne ht.symm
theorem LD {w : World} {g : Nat} {t : TypeId} {cs : Array Value} (h : w.heap[g]? = some (.cells cs t (0, 0))) (i : Nat) (u : Value) : (w.setCell ⟨g, i, none⟩ u).heap[g]? = some (.cells (cs.setIfInBounds i u) t (0, 0)) := by
  simp [World.setCell, Array.getElem?_modify, h]
theorem gU {w : World} {g : Nat} {t : TypeId} {cs : Array Value} (h : w.heap[g]? = some (.cells cs t (0, 0))) {p : Addr} (hp : g ≠ p.block) (u : Value) : (w.setCell p u).heap[g]? = some (.cells cs t (0, 0)) := (Below.heap_setCell w p u g hp).trans h
theorem jL {w : World} {g : Nat} {o : Obj} (h : w.heap[g]? = some o) : g < w.heap.size := (Array.getElem?_eq_some_iff.1 h).1
theorem jD {w : World} {g : Nat} {t : TypeId} {cs : Array Value} (h : w.heap[g]? = some (.cells cs t (0, 0))) (i : Nat) : w.cell? ⟨g, i, none⟩ = cs[i]? := cell_of_row w g i cs t (0, 0) h
theorem aj {w : World} {g : Nat} {t : TypeId} {cs : Array Value} (h : w.heap[g]? = some (.cells cs t (0, 0))) (i : Nat) : w.frozen? ⟨g, i, none⟩ = false := by simp [World.frozen?, h]
theorem gZ {w w1 : World} {g : Nat} {o : Obj} {row : Option Nat} (h : w.heap[g]? = some o) (hg : w.grownBy w1 row) (hne : some g ≠ row) : w1.heap[g]? = some o := (hg.block g (jL h) hne).trans h
def bP (w w' : World) (g : Nat) (row : Option Nat) : Prop := w.heap.size ≤ w'.heap.size ∧ ∀ i, i < w.heap.size → i ≠ g → some i ≠ row → w'.heap[i]? = w.heap[i]?
theorem bP.refl (w : World) (g : Nat) (row : Option Nat) : bP w w g row := ⟨Nat.le_refl _, fun _ _ _ _ => rfl⟩
theorem bP.sG {w w1 : World} {row : Option Nat} (h : w.grownBy w1 row) (g : Nat) : bP w w1 g row := ⟨h.size, fun i hi _ hr => h.block i hi hr⟩
theorem bP.of_below {w w1 : World} (h : Below w.heap.size w w1) (g : Nat) (row : Option Nat) : bP w w1 g row := ⟨h.size, fun i hi _ _ => h.block i hi⟩
theorem bP.set_ {w w1 : World} {g : Nat} {row : Option Nat} (h : bP w w1 g row) (j : Nat) (u : Value) : bP w (w1.setCell ⟨g, j, none⟩ u) g row :=
  ⟨by simpa [World.setCell] using h.1, fun i hi hg hr => (Below.heap_setCell w1 ⟨g, j, none⟩ u i hg).trans (h.2 i hi hg hr)⟩
theorem bP.trans {w w1 w2 : World} {g : Nat} {row row1 : Option Nat} (h : bP w w1 g row) (k : bP w1 w2 g row1) (hr : row1 = row ∨ ∃ b, row1 = some b ∧ w.heap.size ≤ b) : bP w w2 g row :=
  ⟨Nat.le_trans h.1 k.1, fun i hi hg hn => by
    refine (k.2 i (Nat.lt_of_lt_of_le hi h.1) hg ?_).trans (h.2 i hi hg hn)
    rcases hr with rfl | ⟨b, rfl, hb⟩
    · exact hn
    · intro e
      injection e with e
      omega⟩
theorem bP.blk {w w1 : World} {g g' : Nat} {row : Option Nat} {o : Obj} (h : bP w w1 g row) (hb : w.heap[g']? = some o) (hg : g' ≠ g) (hr : some g' ≠ row) : w1.heap[g']? = some o := (h.2 g' (jL hb) hg hr).trans hb
section
variable {P : Program} {ops : Array Oper} {o : Oper} {a : Act} {Q : Exit → Act → World → Prop} {K : Act → World → Prop}
theorem Aj {w0 W : World} (base : Nat) (hw : Region.wanted o (yielded ops a.tmps) = true) (s x : Operand) (t e : TypeId) (z : Value) (size bytes : Nat)
    (ho : o.op = .call { callee := .builtin .append, args := #[s, x], argTypes := #[t, t] })
    (ht : P.underlying t = some (.slice e)) (hinfo : (P.info? e).map (fun i => (i.zero, i.size, i.bytes)) = some (some z, size, bytes)) (hz : z.cells.size = size) (hs0 : 0 < size) (hb0 : 0 < bytes)
    (v : Value) (n : Nat) (xs ys : List Value) (hs : a.eval s = v) (hx : a.eval x = .slice (some ⟨W.heap.size, 0, none⟩) 1 1) (hys : ys.length = size) (h1 : ∀ u ∈ ys, u.oneCell' = true)
    (HO : W.ownsRow base e size v n xs) (HB : Below base w0 W) (hbase : base ≤ W.heap.size) (hl : (n + 1) * bytes ≤ 140737488355328)
    (h : ∀ v1 w1, w1.ownsRow base e size v1 (n + 1) (xs ++ ys) → Below base w0 w1 → W.grownBy w1 v.ownBlock → (v1.ownBlock = v.ownBlock ∨ ∃ b, v1.ownBlock = some b ∧ W.heap.size ≤ b) → K (a.put o.dst v1) w1) :
    if Region.wanted o (yielded ops a.tmps) = true then Oper.wp P o a (W.alloc (.cells ys.toArray e)) K Q else K (a.put o.dst undef) (W.alloc (.cells ys.toArray e)) := by
  obtain ⟨i0, hi, hzz⟩ := Option.map_eq_some_iff.1 hinfo
  simp only [Prod.mk.injEq] at hzz
  obtain ⟨hz0, hz1, hz2⟩ := hzz
  have hlen : n + 1 ≤ 140737488355328 := Nat.le_trans (Nat.le_mul_of_pos_right _ hb0) hl
  rw [if_pos hw]
  obtain ⟨v1, w1, hr, hown, hg, _, hat⟩ := run_append_own_at (P := P) (W.alloc (.cells ys.toArray e)) base t o.type e i0 z size bytes ht hi hz0 hz1 hz2 hz hs0 v n xs (HO.alloc _) ⟨W.heap.size, 0, none⟩ 1 1 ys (by rw [hys]; simp)
    (by simpa using World.news_of_block (cs := ys.toArray) (t := e) (fr := (0, 0)) (heap_alloc_new W (.cells ys.toArray e))) h1 (by simp only [maxLen]; omega) hl (by simp; omega)
  unfold Oper.wp execOp
  simp only [ho, resolve, invoke, builtin, Sem.run_bind, Sem.run_pure, Result.andThen_ok, List.map_toArray, List.map_cons, List.map_nil, hs, hx, hr]
  refine h v1 w1 hown ((HB.alloc hbase _).grown hg (by simp; omega) (qC HO)) (World.grownBy.trans (World.grownBy_alloc W _ _) hg) ?_
  rcases hat with hat | hat
  · exact .inl hat
  · exact .inr ⟨_, hat, by simp⟩
end
theorem PK {w : World} {base base' : Nat} {e : TypeId} {size n : Nat} {v : Value} {xs : List Value} (h : w.ownsRow base e size v n xs) (hb : base' ≤ base) : w.ownsRow base' e size v n xs := by
  obtain ⟨h1, h2⟩ := h
  refine ⟨h1, ?_⟩
  rcases h2 with h2 | ⟨g, cap, cur, rfl, hg, r⟩
  · exact .inl h2
  · exact .inr ⟨g, cap, cur, rfl, Nat.le_trans hb hg, r⟩
section
variable {α : Type} {enc : α → Value} {d : α}
def encs (enc : α → Value) (xs : List α) : List Value := xs.map enc
def rdOf (d : α) (xs : List α) (i : Int) : α := xs.getD i.toNat d
theorem Dx (xs : List α) : (encs enc xs).length = xs.length := by simp [encs]
theorem V9 (xs : List α) (j : Nat) (h : j < xs.length) : (encs enc xs)[j]? = some (enc (xs.getD j d)) := by
  simp [encs, List.getElem?_eq_getElem h, List.getD_eq_getElem?_getD]
def CF (enc : α → Value) (d : α) (w : World) (A : Option Addr) (n : Nat) (xs : List α) : Prop :=
  xs.length = n ∧ n ≤ 9223372036854775807 ∧ (0 < n → ∃ ad, A = some ad ∧ ∀ j, j < n → w.cell? (ad.add j) = some (enc (xs.getD j d)))
theorem CF.at_ {w : World} {A : Option Addr} {n : Nat} {xs : List α} (h : CF enc d w A n xs) (i : Int) (h0 : 0 ≤ i) (h1 : i < n) : ∃ ad, A = some ad ∧ w.cell? (ad.add i.toNat) = some (enc (rdOf d xs i)) := by
  obtain ⟨ad, e, hc⟩ := h.2.2 (by omega)
  exact ⟨ad, e, hc _ (by omega)⟩
theorem UE {W : World} {base g n cap : Nat} {e : TypeId} {xs : List α} (h : W.ownsRow base e 1 (.slice (some ⟨g, 0, none⟩) n cap) n (encs enc xs)) (i : Int) (h0 : 0 ≤ i) (h1 : i < n) :
    W.cell? ⟨g, i.toNat, none⟩ = some (enc (rdOf d xs i)) ∧ W.frozen? ⟨g, i.toNat, none⟩ = false := by
  have hl : xs.length = n := by have := h.1; simp [encs] at this; exact this
  constructor
  · have hc := h.cells (g := g) rfl i.toNat _ (V9 (d := d) xs i.toNat (by omega))
    rwa [add_plain] at hc
  · rcases h.2 with ⟨h', _⟩ | ⟨g', cap', cur, h', _, hh, _⟩
    · cases h'
    · have : g = g' := by injection h' with h'; injection h' with h'; injection h' with h'
      subst this
      simp [World.frozen?, hh]
theorem JU {W : World} {base g n cap : Nat} {e : TypeId} {xs : List α} (h : W.ownsRow base e 1 (.slice (some ⟨g, 0, none⟩) n cap) n (encs enc xs)) (i : Int) (x : α) :
    (W.setCell ⟨g, i.toNat, none⟩ (enc x)).ownsRow base e 1 (.slice (some ⟨g, 0, none⟩) n cap) n (encs enc (xs.set i.toNat x)) ∧ W.grownBy (W.setCell ⟨g, i.toNat, none⟩ (enc x)) (some g) := by
  have hs := h.stored i.toNat (enc x)
  have he : (encs enc xs).set i.toNat (enc x) = encs enc (xs.set i.toNat x) := by simp [encs, List.map_set]
  rwa [he] at hs
end
section
variable {α : Type} {P : Program} {ops : Array Oper} {rest : List Oper} {o : Oper} {a : Act} {Q : Exit → Act → World → Prop}
end
def NeRow (v v' : Value) : Prop := ∀ k, v.ownBlock = some k → v'.ownBlock ≠ some k
theorem ne_below {W w1 : World} {v1 v' : Value} {base n size n1 size1 : Nat} {e e1 : TypeId} {xs xs1 : List Value} (h1 : w1.ownsRow W.heap.size e1 size1 v1 n1 xs1) (ho : W.ownsRow base e size v' n xs) : NeRow v1 v' := by
  intro k hk hk'
  have h2 := qC h1 k hk
  have h3 := PN ho k hk'
  omega
theorem aJ {w : World} {g : Nat} {o : Obj} (h : w.heap[g]? = some o) (o' : Obj) : (w.alloc o').heap[g]? = some o := (Below.heap_alloc w o' g (jL h)).trans h
theorem aK {w : World} {g : Nat} {o : Obj} (h : w.heap[g]? = some o) : w.drew.heap[g]? = some o := h
theorem aM {w : World} {g : Nat} {o : Obj} (h : w.heap[g]? = some o) (n : Nat) : (w.drewN n).heap[g]? = some o := h
theorem aI {w w1 : World} {g : Nat} {o : Obj} (h : w.heap[g]? = some o) (hb : Below w.heap.size w w1) : w1.heap[g]? = some o := (hb.block g (jL h)).trans h
theorem TG (w : World) (o : Obj) : (w.alloc o).heap[w.heap.size]? = some o := heap_alloc_new w o
section
variable {P : Program}
end
theorem own_le {w : World} {base n m c size : Nat} {e : TypeId} {A : Option Addr} {xs : List Value} (h : w.ownsRow base e size (.slice A m c) n xs) : m ≤ c := by
  rcases h.2 with ⟨he, _⟩ | ⟨g, cap, cur, he, _, _, hnc, _⟩
  · injection he with _ h2 h3
    omega
  · injection he with _ h2 h3
    omega
def qh {α : Type} (R : α → List Value → Prop) (e : TypeId) (size : Nat) (w : World) (base : Nat) (v : Value) (ps : List α) : Prop :=
  ∃ inner, w.ownsRow base e size v ps.length inner ∧ ig R size ps inner
section
variable {α : Type} {R R' : α → List Value → Prop} {e : TypeId} {size : Nat} {w w1 : World} {base : Nat} {v : Value} {ps : List α}
theorem qh.none_ (R : α → List Value → Prop) (e : TypeId) (size : Nat) (w : World) (base : Nat) : qh R e size w base (.slice none 0 0) [] := ⟨[], X8 _ _ _ _, ig.none _ _⟩
theorem qh.wY (h : qh R e size w base v ps) (hR : ∀ p c, R p c → R' p c) : qh R' e size w base v ps := by
  obtain ⟨inner, ho, hr⟩ := h
  exact ⟨inner, ho, hr.wY hR⟩
theorem qh.reads (h : qh R e size w base v ps) : ∃ A c, v = .slice A ps.length c ∧ ps.length ≤ c ∧ j6 R size w A ps.length ps := by
  obtain ⟨inner, ho, hr⟩ := h
  obtain ⟨A, c, rfl, hrow⟩ := Ii ho hr rfl
  exact ⟨A, c, rfl, own_le ho, hrow⟩
theorem qh.Vg (h : qh R e size w base v ps) {g : Nat} {t : TypeId} {cells : Array Value} (hb : w.heap[g]? = some (.cells cells t (0, 0))) (ht : e ≠ t) : some g ≠ v.ownBlock := by
  obtain ⟨inner, ho, hr⟩ := h
  exact own_ne ho hb ht
end
section
variable {P : Program} {ops : Array Oper} {rest : List Oper} {o : Oper} {a : Act} {Q : Exit → Act → World → Prop} {α : Type} {R : α → List Value → Prop}
end
section
variable {P : Program} {ops : Array Oper} {o : Oper} {a : Act} {Q : Exit → Act → World → Prop} {K : Act → World → Prop} {α : Type} {R : α → List Value → Prop}
end
theorem j6.Vq {α : Type} {R : α → List Value → Prop} {size : Nat} {w : World} {ad : Addr} {n : Nat} {ps : List α} (h : j6 R size w (some ad) n ps) :
    ∃ inner, ig R size ps inner ∧ ∀ j u, inner[j]? = some u → w.cell? (ad.add j) = some u := by
  have key : ∀ m, m ≤ ps.length → ∃ inner, ig R size (ps.take m) inner ∧ ∀ j u, inner[j]? = some u → w.cell? (ad.add j) = some u := by
    intro m
    induction m with
    | zero => exact fun _ => ⟨[], ig.none _ _, fun j u hu => by simp at hu⟩
    | succ m ih =>
      intro hm
      obtain ⟨inner, hr, hc⟩ := ih (by omega)
      obtain ⟨ad', he, hcell⟩ := h.2.2 (by have := h.1; omega)
      injection he with he
      subst he
      obtain ⟨c, hcl, hp, hcc⟩ := hcell m _ (List.getElem?_eq_getElem (show m < ps.length by omega))
      refine ⟨inner ++ c, ?_, fun j u hu => ?_⟩
      · rw [List.take_succ_eq_append_getElem (show m < ps.length by omega)]
        exact hr.snoc hp hcl
      · have hil : inner.length = m * size := by rw [hr.1, List.length_take, Nat.min_eq_left (by omega)]
        rcases Nat.lt_or_ge j inner.length with hj | hj
        · rw [List.getElem?_append_left hj] at hu
          exact hc j u hu
        · rw [List.getElem?_append_right hj] at hu
          have := hcc (j - inner.length) u hu
          rwa [hil, Nat.add_sub_cancel' (by omega)] at this
  obtain ⟨inner, hr, hc⟩ := key ps.length (Nat.le_refl _)
  rw [List.take_length] at hr
  exact ⟨inner, hr, hc⟩
section
variable {α : Type} {P : Program}
end
section
variable {P : Program} {ops : Array Oper} {rest : List Oper} {o : Oper} {a : Act} {Q : Exit → Act → World → Prop}
end
structure Kd (α : Type) where
  sz : Nat
  E : List Nat
  K : World → α → List Value → Prop
  M : World → Nat → (Nat → Prop) → α → List Value → Prop
  nP : ∀ {w x cs}, K w x cs → cs.length = sz
  mX : ∀ {w x cs}, K w x cs → ∀ u ∈ cs, u.oneCell' = true
  mY : ∀ {w w1 : World} {x cs}, Below w.heap.size w w1 → K w x cs → K w1 x cs
  j4 : ∀ {w base ok x cs}, M w base ok x cs → K w x cs
  iU : ∀ {w base ok ok' x cs}, (∀ k, ok k → ok' k) → M w base ok x cs → M w base ok' x cs
  ku : ∀ {w : World} {base ok x cs}, M w base ok x cs → M w base (fun k => ok k ∧ base ≤ k ∧ k < w.heap.size ∧ ∃ q, q ∈ E ∧ ∃ cells, w.heap[k]? = some (.cells cells q (0, 0))) x cs
  lN : ∀ {w w1 : World} {base ok x cs}, (∀ k, ok k → w1.heap[k]? = w.heap[k]?) → M w base ok x cs → M w1 base ok x cs
  mW : ∀ {w base base' ok x cs}, base' ≤ base → M w base ok x cs → M w base' ok x cs
theorem Ve {w w1 : World} {base : Nat} {e : TypeId} {size n : Nat} {v : Value} {xs : List Value} (h : w.ownsRow base e size v n xs) (hm : ∀ k, v.ownBlock = some k → w1.heap[k]? = w.heap[k]?) : w1.ownsRow base e size v n xs := by
  obtain ⟨h1, h2⟩ := h
  refine ⟨h1, ?_⟩
  rcases h2 with h2 | ⟨g, cap, cur, rfl, hg, hh, r⟩
  · exact .inl h2
  · exact .inr ⟨g, cap, cur, rfl, hg, (hm g (by simp [Value.ownBlock])).trans hh, r⟩
theorem yC {w : World} {base : Nat} {e : TypeId} {size n : Nat} {v : Value} {xs : List Value} (h : w.ownsRow base e size v n xs) (k : Nat) (hk : v.ownBlock = some k) : ∃ cells, w.heap[k]? = some (.cells cells e (0, 0)) := by
  rcases h.2 with ⟨rfl, _⟩ | ⟨g, cap, cur, rfl, hg, hh, r⟩
  · simp [Value.ownBlock] at hk
  · have : g = k := by simpa [Value.ownBlock] using hk
    subst this
    exact ⟨cur, hh⟩
namespace Kd
def C {α : Type} (d : Kd α) (w : World) (A : Option Addr) (n : Nat) (xs : List α) : Prop := j6 (d.K w) d.sz w A n xs
def R {α : Type} (d : Kd α) (e : Nat) (w : World) (base : Nat) (ok : Nat → Prop) (v : Value) (xs : List α) : Prop :=
  (∀ k, v.ownBlock = some k → ok k) ∧ qh (d.M w base (fun k => ok k ∧ some k ≠ v.ownBlock)) e d.sz w base v xs
section
variable {α : Type} {d : Kd α} {e : Nat} {w w1 : World} {base : Nat} {ok ok' : Nat → Prop} {v : Value} {xs : List α}
theorem eY {A : Option Addr} {n : Nat} (h : d.C w A n xs) (hb : Below w.heap.size w w1) : d.C w1 A n xs := j6.wY h hb (fun _ _ hp => d.mY hb hp)
theorem Ho (d : Kd α) (e : Nat) (w : World) (base : Nat) (ok : Nat → Prop) : d.R e w base ok (.slice none 0 0) [] := ⟨fun k hk => by simp [Value.ownBlock] at hk, qh.none_ _ _ _ _ _⟩
theorem dN (h : d.R e w base ok v xs) (hok : ∀ k, ok k → ok' k) : d.R e w base ok' v xs := ⟨fun k hk => hok k (h.1 k hk), h.2.wY (fun _ _ hp => d.iU (fun k hk => ⟨hok k hk.1, hk.2⟩) hp)⟩
theorem mU (h : d.R e w base ok v xs) : d.R e w base (fun k => ok k ∧ base ≤ k ∧ k < w.heap.size ∧ ∃ q, q ∈ e :: d.E ∧ ∃ cells, w.heap[k]? = some (.cells cells q (0, 0))) v xs := by
  obtain ⟨h0, inner, ho, hr⟩ := h
  refine ⟨fun k hk => ?_, inner, ho, hr.wY (fun _ _ hp => d.iU (fun k hk => ?_) (d.ku hp))⟩
  · obtain ⟨cells, hc⟩ := yC ho k hk
    exact ⟨h0 k hk, qC ho k hk, PN ho k hk, e, List.mem_cons_self, cells, hc⟩
  · obtain ⟨⟨h1, h2⟩, h3, h4, q, hq, hc⟩ := hk
    exact ⟨⟨h1, h3, h4, q, List.mem_cons_of_mem _ hq, hc⟩, h2⟩
theorem zV (h : d.R e w base ok v xs) (hm : ∀ k, ok k → w1.heap[k]? = w.heap[k]?) : d.R e w1 base ok v xs := by
  obtain ⟨h0, inner, ho, hr⟩ := h
  exact ⟨h0, inner, Ve ho (fun k hk => hm k (h0 k hk)), hr.wY (fun _ _ hp => d.lN (fun k hk => hm k hk.1) hp)⟩
theorem jv {base' : Nat} (h : d.R e w base ok v xs) (hb : base' ≤ base) : d.R e w base' ok v xs := by
  obtain ⟨h0, inner, ho, hr⟩ := h
  exact ⟨h0, inner, PK ho hb, hr.wY (fun _ _ hp => d.mW hb hp)⟩
theorem Dl (h : d.R e w base ok v xs) (hm : ∀ k, ok k → k < w.heap.size → w1.heap[k]? = w.heap[k]?) : d.R e w1 base ok v xs :=
  dN (zV (mU h) (fun k hk => hm k hk.1 hk.2.2.1)) (fun _ hk => hk.1)
theorem QW {x : α} {cs : List Value} (h : d.M w base ok x cs) (hm : ∀ k, ok k → k < w.heap.size → w1.heap[k]? = w.heap[k]?) : d.M w1 base ok x cs :=
  d.iU (fun _ hk => hk.1) (d.lN (fun k hk => hm k hk.1 hk.2.2.1) (d.ku h))
theorem gT (h : d.R e w base ok v xs) (hb : Below w.heap.size w w1) : d.R e w1 base ok v xs := Dl h (fun k _ hk => hb.block k hk)
theorem TS {x : α} {cs : List Value} (h : d.M w base ok x cs) (hb : Below w.heap.size w w1) : d.M w1 base ok x cs := QW h (fun k _ hk => hb.block k hk)
theorem aak (h : d.R e w base ok v xs) {row : Option Nat} (hg : w.grownBy w1 row) (hok : ∀ k, ok k → some k ≠ row) : d.R e w1 base ok v xs := Dl h (fun k ho hk => hg.block k hk (hok k ho))
theorem jh (h : d.R e w base ok v xs) {p : Addr} (hok : ∀ k, ok k → k ≠ p.block) (u : Value) : d.R e (w.setCell p u) base ok v xs := Dl h (fun k ho _ => Below.heap_setCell w p u k (hok k ho))
theorem kN (h : d.R e w base ok v xs) {g : Nat} (hk : bP w w1 g none) (hok : ∀ k, ok k → k ≠ g) : d.R e w1 base ok v xs := Dl h (fun k ho hlt => hk.2 k hlt (hok k ho) (by simp))
theorem lJ (h : d.R e w base ok v xs) {g t : Nat} {cells : Array Value} (hb : w.heap[g]? = some (.cells cells t (0, 0))) (ht : ∀ q, q ∈ e :: d.E → q ≠ t) : d.R e w base (fun k => ok k ∧ k ≠ g) v xs :=
  dN (mU h) (fun k hk => ⟨hk.1, by
    obtain ⟨_, _, _, q, hq, cells', hc⟩ := hk
    rintro rfl
    rw [hc] at hb
    injection hb with hb
    injection hb with _ hb
    exact ht q hq hb⟩)
theorem LK (h : d.R e w base ok v xs) : ∃ A c, v = .slice A xs.length c ∧ xs.length ≤ c ∧ d.C w A xs.length xs := by
  obtain ⟨A, c, he, hl, hr⟩ := qh.reads h.2
  exact ⟨A, c, he, hl, hr.wY (Below.refl _ _) (fun _ _ hp => d.j4 hp)⟩
theorem gH (h : d.R e w base ok v xs) : ∃ A c, v = .slice A xs.length c := by
  obtain ⟨A, c, he, _⟩ := LK h
  exact ⟨A, c, he⟩
theorem I7 (h : d.R e w base ok v xs) : ∃ inner, w.ownsRow base e d.sz v xs.length inner := by
  obtain ⟨_, inner, ho, _⟩ := h
  exact ⟨inner, ho⟩
theorem pR (h : d.R e w base ok v xs) {g t : Nat} {cells : Array Value} (hb : w.heap[g]? = some (.cells cells t (0, 0))) (ht : e ≠ t) : some g ≠ v.ownBlock := qh.Vg h.2 hb ht
end
def scalar {α : Type} (enc : α → Value) (h1 : ∀ x, (enc x).oneCell' = true) : Kd α where
  sz := 1
  E := []
  K := fun _ x cs => cs = [enc x]
  M := fun _ _ _ x cs => cs = [enc x]
  nP := fun h => by rw [h]; rfl
  mX := fun h u hu => by
    rw [h] at hu
    rw [List.mem_singleton.1 hu]
    exact h1 _
  mY := fun _ h => h
  j4 := fun h => h
  iU := fun _ h => h
  ku := fun h => h
  lN := fun _ h => h
  mW := fun _ h => h
def int (k : IntKind) : Kd Int := scalar (Value.int k) (fun _ => rfl)
def string : Kd ByteArray := scalar Value.string (fun _ => rfl)
def slice {α : Type} (e : Nat) (d : Kd α) : Kd (List α) where
  sz := 1
  E := e :: d.E
  K := fun w xs cs => ∃ A c, cs = [.slice A xs.length c] ∧ xs.length ≤ c ∧ d.C w A xs.length xs
  M := fun w base ok xs cs => ∃ v, cs = [v] ∧ d.R e w base ok v xs
  nP := by
    rintro w x cs ⟨A, c, rfl, _⟩
    rfl
  mX := by
    rintro w x cs ⟨A, c, rfl, _⟩ u hu
    rw [List.mem_singleton.1 hu]
    rfl
  mY := by
    rintro w w1 x cs hb ⟨A, c, rfl, hl, hr⟩
    exact ⟨A, c, rfl, hl, eY hr hb⟩
  j4 := by
    rintro w base ok x cs ⟨v, rfl, h⟩
    obtain ⟨A, c, rfl, hl, hr⟩ := LK h
    exact ⟨A, c, rfl, hl, hr⟩
  iU := by
    rintro w base ok ok' x cs hok ⟨v, rfl, h⟩
    exact ⟨v, rfl, dN h hok⟩
  ku := by
    rintro w base ok x cs ⟨v, rfl, h⟩
    exact ⟨v, rfl, mU h⟩
  lN := by
    rintro w w1 base ok x cs hm ⟨v, rfl, h⟩
    exact ⟨v, rfl, zV h hm⟩
  mW := by
    rintro w base base' ok x cs hb ⟨v, rfl, h⟩
    exact ⟨v, rfl, jv h hb⟩
def pair {α β : Type} (a : Kd α) (b : Kd β) : Kd (α × β) where
  sz := a.sz + b.sz
  E := a.E ++ b.E
  K := fun w x cs => ∃ c0 c1, cs = c0 ++ c1 ∧ a.K w x.1 c0 ∧ b.K w x.2 c1
  M := fun w base ok x cs => ∃ c0 c1, cs = c0 ++ c1 ∧ a.M w base ok x.1 c0 ∧ b.M w base ok x.2 c1
  nP := by
    rintro w x cs ⟨c0, c1, rfl, h0, h1⟩
    rw [List.length_append, a.nP h0, b.nP h1]
  mX := by
    rintro w x cs ⟨c0, c1, rfl, h0, h1⟩ u hu
    rcases List.mem_append.1 hu with hu | hu
    · exact a.mX h0 u hu
    · exact b.mX h1 u hu
  mY := by
    rintro w w1 x cs hb ⟨c0, c1, rfl, h0, h1⟩
    exact ⟨c0, c1, rfl, a.mY hb h0, b.mY hb h1⟩
  j4 := by
    rintro w base ok x cs ⟨c0, c1, rfl, h0, h1⟩
    exact ⟨c0, c1, rfl, a.j4 h0, b.j4 h1⟩
  iU := by
    rintro w base ok ok' x cs hok ⟨c0, c1, rfl, h0, h1⟩
    exact ⟨c0, c1, rfl, a.iU hok h0, b.iU hok h1⟩
  ku := by
    rintro w base ok x cs ⟨c0, c1, rfl, h0, h1⟩
    refine ⟨c0, c1, rfl, a.iU ?_ (a.ku h0), b.iU ?_ (b.ku h1)⟩
    · rintro k ⟨h2, h3, h4, q, hq, hc⟩
      exact ⟨h2, h3, h4, q, List.mem_append_left _ hq, hc⟩
    · rintro k ⟨h2, h3, h4, q, hq, hc⟩
      exact ⟨h2, h3, h4, q, List.mem_append_right _ hq, hc⟩
  lN := by
    rintro w w1 base ok x cs hm ⟨c0, c1, rfl, h0, h1⟩
    exact ⟨c0, c1, rfl, a.lN hm h0, b.lN hm h1⟩
  mW := by
    rintro w base base' ok x cs hb ⟨c0, c1, rfl, h0, h1⟩
    exact ⟨c0, c1, rfl, a.mW hb h0, b.mW hb h1⟩
def iso {α β : Type} (d : Kd α) (f : β → α) : Kd β where
  sz := d.sz
  E := d.E
  K := fun w x cs => d.K w (f x) cs
  M := fun w base ok x cs => d.M w base ok (f x) cs
  nP := d.nP
  mX := d.mX
  mY := d.mY
  j4 := d.j4
  iU := d.iU
  ku := d.ku
  lN := d.lN
  mW := d.mW
def bot {α : Type} (sz : Nat) (E : List Nat) : Kd α where
  sz := sz
  E := E
  K := fun _ _ _ => False
  M := fun _ _ _ _ _ => False
  nP := fun h => h.elim
  mX := fun h => h.elim
  mY := fun _ h => h
  j4 := fun h => h
  iU := fun _ h => h
  ku := fun h => h
  lN := fun _ h => h
  mW := fun _ h => h
def upto {α : Type} (F : Kd α → Kd α) (sz : Nat) (E : List Nat) : Nat → Kd α
  | 0 => bot sz E
  | n + 1 => F (upto F sz E n)
theorem Oe {α : Type} {d : Kd α} {w : World} {A : Option Addr} {n : Nat} {xs : List α} (h : d.C w A n xs) (z : α) (i : Int) (h0 : 0 ≤ i) (h1 : i < n) :
    ∃ ad c, A = some ad ∧ c.length = d.sz ∧ d.K w (xs.getD i.toNat z) c ∧ ∀ j u, c[j]? = some u → w.cell? (ad.add (i.toNat * d.sz + j)) = some u := j6.get_ h z i h0 h1
theorem Hr {α : Type} {d : Kd α} {e base : Nat} {ok okp : Nat → Prop} {W w1 : World} {v v1 : Value} {xs : List α} {p : α} {inner cs : List Value} (h0 : ∀ k, v.ownBlock = some k → ok k) (hr : ig (d.M W base (fun k => ok k ∧ some k ≠ v.ownBlock)) d.sz xs inner) (hp : d.M W base okp p cs) (tF : ∀ k, okp k → ok k ∧ some k ≠ v.ownBlock) (hfresh : ∀ k, W.heap.size ≤ k → ok k)
    (hown : w1.ownsRow base e d.sz v1 (xs.length + 1) (inner ++ cs)) (hg : W.grownBy w1 v.ownBlock) (hat : v1.ownBlock = v.ownBlock ∨ ∃ b, v1.ownBlock = some b ∧ W.heap.size ≤ b) : d.R e w1 base ok v1 (xs ++ [p]) := by
  have hne : ∀ k, some k ≠ v.ownBlock → k < W.heap.size → some k ≠ v1.ownBlock := by
    intro k hk hlt
    rcases hat with hat | ⟨b, hb, hle⟩
    · rw [hat]; exact hk
    · rw [hb]
      intro he
      injection he with he
      omega
  have step : ∀ {q : α} {c : List Value} {o : Nat → Prop}, d.M W base o q c → (∀ k, o k → ok k ∧ some k ≠ v.ownBlock) → d.M w1 base (fun k => ok k ∧ some k ≠ v1.ownBlock) q c := by
    intro q c o hq ho
    have h1 := d.lN (w1 := w1) (fun k hk => hg.block k hk.2.2.1 (ho k hk.1).2) (d.ku hq)
    exact d.iU (fun k hk => ⟨(ho k hk.1).1, hne k (ho k hk.1).2 hk.2.2.1⟩) h1
  refine ⟨fun k hk => ?_, inner ++ cs, by rw [List.length_append, List.length_singleton]; exact hown, ?_⟩
  · rcases hat with hat | ⟨b, hb, hle⟩
    · exact h0 k (hat ▸ hk)
    · rw [hb] at hk
      injection hk with hk
      exact hfresh k (by omega)
  · exact (hr.wY (fun _ _ hq => step hq (fun _ hk => hk))).snoc (step hp tF) (d.nP (d.j4 hp))
section
variable {P : Program} {ops : Array Oper} {rest : List Oper} {o : Oper} {a : Act} {Q : Exit → Act → World → Prop} {α : Type}
theorem nS (d : Kd α) {w0 W : World} (base : Nat) (hgd : o.guard = none) (s x : Operand) (t e : TypeId) (z : Value) (bytes : Nat)
    (ho : o.op = .call { callee := .builtin .append, args := #[s, x], argTypes := #[t, t] })
    (ht : P.underlying t = some (.slice e)) (hinfo : (P.info? e).map (fun i => (i.zero, i.size, i.bytes)) = some (some z, d.sz, bytes)) (hz : z.cells.size = d.sz) (hs0 : 0 < d.sz) (hb0 : 0 < bytes)
    (v : Value) (xs : List α) (p : α) (cs : List Value) (ok okp : Nat → Prop) (hs : a.eval s = v) (hx : a.eval x = .slice (some ⟨W.heap.size, 0, none⟩) 1 1) (hp : d.M W base okp p cs) (tF : ∀ k, okp k → ok k ∧ some k ≠ v.ownBlock) (hfresh : ∀ k, W.heap.size ≤ k → ok k)
    (HO : d.R e W base ok v xs) (HB : Below base w0 W) (hbase : base ≤ W.heap.size) (hl : (xs.length + 1) * bytes ≤ 140737488355328)
    (h : ∀ v1 w1, d.R e w1 base ok v1 (xs ++ [p]) → Below base w0 w1 → W.grownBy w1 v.ownBlock → (v1.ownBlock = v.ownBlock ∨ ∃ b, v1.ownBlock = some b ∧ W.heap.size ≤ b) → wpList P ops Q rest (a.put o.dst v1) w1) :
    wpList P ops Q (o :: rest) a (W.alloc (.cells cs.toArray e)) := by
  obtain ⟨h0, inner, hown, hr⟩ := HO
  refine zS base hgd s x t e z d.sz bytes ho ht hinfo hz hs0 hb0 v xs.length inner cs hs hx (d.nP (d.j4 hp)) (d.mX (d.j4 hp)) hown HB hbase hl ?_
  intro v1 w1 hown1 hb1 hg1 hat1
  exact h v1 w1 (Hr h0 hr hp tF hfresh hown1 hg1 hat1) hb1 hg1 hat1
end
section
variable {P : Program} {ops : Array Oper} {o : Oper} {a : Act} {Q : Exit → Act → World → Prop} {Kc : Act → World → Prop} {α : Type}
theorem zJ (d : Kd α) {w0 W : World} (base : Nat) (hw : Region.wanted o (yielded ops a.tmps) = true) (s x : Operand) (t e : TypeId) (z : Value) (bytes : Nat)
    (ho : o.op = .call { callee := .builtin .append, args := #[s, x], argTypes := #[t, t] })
    (ht : P.underlying t = some (.slice e)) (hinfo : (P.info? e).map (fun i => (i.zero, i.size, i.bytes)) = some (some z, d.sz, bytes)) (hz : z.cells.size = d.sz) (hs0 : 0 < d.sz) (hb0 : 0 < bytes)
    (v : Value) (xs : List α) (p : α) (cs : List Value) (ok okp : Nat → Prop) (hs : a.eval s = v) (hx : a.eval x = .slice (some ⟨W.heap.size, 0, none⟩) 1 1) (hp : d.M W base okp p cs) (tF : ∀ k, okp k → ok k ∧ some k ≠ v.ownBlock) (hfresh : ∀ k, W.heap.size ≤ k → ok k)
    (HO : d.R e W base ok v xs) (HB : Below base w0 W) (hbase : base ≤ W.heap.size) (hl : (xs.length + 1) * bytes ≤ 140737488355328)
    (h : ∀ v1 w1, d.R e w1 base ok v1 (xs ++ [p]) → Below base w0 w1 → W.grownBy w1 v.ownBlock → (v1.ownBlock = v.ownBlock ∨ ∃ b, v1.ownBlock = some b ∧ W.heap.size ≤ b) → Kc (a.put o.dst v1) w1) :
    if Region.wanted o (yielded ops a.tmps) = true then Oper.wp P o a (W.alloc (.cells cs.toArray e)) Kc Q else Kc (a.put o.dst undef) (W.alloc (.cells cs.toArray e)) := by
  obtain ⟨h0, inner, hown, hr⟩ := HO
  refine Aj base hw s x t e z d.sz bytes ho ht hinfo hz hs0 hb0 v xs.length inner cs hs hx (d.nP (d.j4 hp)) (d.mX (d.j4 hp)) hown HB hbase hl ?_
  intro v1 w1 hown1 hb1 hg1 hat1
  exact h v1 w1 (Hr h0 hr hp tF hfresh hown1 hg1 hat1) hb1 hg1 hat1
end
theorem Ml {α : Type} {enc : α → Value} (xs : List α) : ig (fun (x : α) (cs : List Value) => cs = [enc x]) 1 xs (encs enc xs) := by
  refine ⟨by simp [encs], fun j p hj => ?_⟩
  obtain ⟨hl, hp⟩ := List.getElem?_eq_some_iff.1 hj
  have hl' : j < (encs enc xs).length := by rw [Dx]; exact hl
  rw [Nat.mul_one, List.drop_eq_getElem_cons hl']
  simp [encs, hp]
theorem N8 {α : Type} {enc : α → Value} {h1 : ∀ x, (enc x).oneCell' = true} {e : Nat} {w : World} {base : Nat} {ok : Nat → Prop} {v : Value} {xs : List α} (ho : w.ownsRow base e 1 v xs.length (encs enc xs)) (hok : ∀ k, v.ownBlock = some k → ok k) : (scalar enc h1).R e w base ok v xs := ⟨hok, encs enc xs, ho, Ml xs⟩
theorem Ap {α : Type} {enc : α → Value} {h1 : ∀ x, (enc x).oneCell' = true} {e : Nat} {w : World} {base : Nat} {ok : Nat → Prop} {v : Value} {xs : List α} (h : (scalar enc h1).R e w base ok v xs) : w.ownsRow base e 1 v xs.length (encs enc xs) := by
  obtain ⟨_, inner, ho, hr⟩ := h
  have : inner = encs enc xs := by
    apply List.ext_getElem?
    intro j
    rcases Nat.lt_or_ge j xs.length with hj | hj
    · have h2 := hr.2 j _ (List.getElem?_eq_getElem hj)
      have hl : j < inner.length := by have := hr.1; simp [scalar] at this; omega
      have h3 : (inner.drop (j * 1)).take 1 = [enc xs[j]] := h2
      rw [Nat.mul_one, List.drop_eq_getElem_cons hl] at h3
      have h4 : inner[j] = enc xs[j] := by
        have h5 := congrArg List.head? h3
        rw [List.take_succ_cons] at h5
        exact Option.some.inj h5
      rw [List.getElem?_eq_getElem hl, h4]
      simp [encs, List.getElem?_eq_getElem hj]
    · have h3 : inner.length = xs.length := by have := hr.1; simp [scalar] at this; omega
      rw [List.getElem?_eq_none (by omega), List.getElem?_eq_none (by rw [Dx]; omega)]
  rw [← this]
  exact ho
theorem sW {α : Type} {enc : α → Value} {d : α} {h1 : ∀ x, (enc x).oneCell' = true} {w : World} {A : Option Addr} {n : Nat} {xs : List α} (h : CF enc d w A n xs) : (scalar enc h1).C w A n xs := by
  refine ⟨h.1, h.2.1, fun hn => ?_⟩
  obtain ⟨ad, e, hc⟩ := h.2.2 hn
  refine ⟨ad, e, fun j p hj => ⟨[enc p], rfl, rfl, fun i u hu => ?_⟩⟩
  obtain ⟨hl, hp⟩ := List.getElem?_eq_some_iff.1 hj
  have h2 := hc j (by have := h.1; omega)
  rw [List.getD_eq_getElem?_getD, hj] at h2
  cases i with
  | zero =>
    have : enc p = u := by simpa using hu
    subst this
    simpa [scalar] using h2
  | succ i => simp at hu
theorem sF {α : Type} {enc : α → Value} {d : α} {h1 : ∀ x, (enc x).oneCell' = true} {w : World} {A : Option Addr} {n : Nat} {xs : List α} (h : (scalar enc h1).C w A n xs) : CF enc d w A n xs := by
  refine ⟨h.1, h.2.1, fun hn => ?_⟩
  obtain ⟨ad, e, hc⟩ := h.2.2 hn
  refine ⟨ad, e, fun j hj => ?_⟩
  have hl : j < xs.length := by have := h.1; omega
  obtain ⟨c, _, hK, hcell⟩ := hc j _ (List.getElem?_eq_getElem hl)
  have hK' : c = [enc xs[j]] := hK
  subst hK'
  have := hcell 0 _ rfl
  simpa [scalar, List.getD_eq_getElem?_getD, List.getElem?_eq_getElem hl] using this
end Kd
namespace Kd
section
variable {α : Type} {F : Kd α → Kd α} {sz : Nat} {E : List Nat} {hs : ∀ n, (upto F sz E n).sz = sz} {hE : ∀ n q, q ∈ (upto F sz E n).E → q ∈ E}
end
end Kd
namespace Kd
theorem FL {α : Type} {d : Kd α} {e base : Nat} {ok : Nat → Prop} {W w1 : World} {u v v1 : Value} {xs : List α} (h : d.R e W base (fun k => ok k ∧ some k ≠ v.ownBlock) u xs) (hg : W.grownBy w1 v.ownBlock) (hat : v1.ownBlock = v.ownBlock ∨ ∃ b, v1.ownBlock = some b ∧ W.heap.size ≤ b) : d.R e w1 base (fun k => ok k ∧ some k ≠ v1.ownBlock) u xs := by
  refine dN (zV (mU h) (fun k hk => hg.block k hk.2.2.1 hk.1.2)) (fun k hk => ⟨hk.1.1, ?_⟩)
  rcases hat with hat | ⟨b, hb, hle⟩
  · rw [hat]; exact hk.1.2
  · rw [hb]
    intro he
    injection he with he
    have := hk.2.2.1
    omega
end Kd
namespace Kd
section
variable {α β : Type} {d : Kd α} {d' : Kd β} {e e' : Nat} {w w1 W : World} {base b b' : Nat} {ok ok' okv oku : Nat → Prop} {v u : Value} {xs : List α} {ys : List β}
theorem eO (h : d.R e w base ok v xs) : d.R e w.drew base ok v xs := gT h (wK (Below.refl _ _))
theorem fH (h : d.R e w base ok v xs) (m : Nat) : d.R e (w.drewN m) base ok v xs := gT h (bT (Below.refl _ _) m)
theorem dW {A : Option Addr} {n : Nat} (h : d.C w A n xs) (o : Obj) : d.C (w.alloc o) A n xs := eY h (bY (Below.refl _ _) o)
theorem eT {A : Option Addr} {n : Nat} (h : d.C w A n xs) : d.C w.drew A n xs := eY h (wK (Below.refl _ _))
theorem C_nil (d : Kd α) (w : World) : d.C w none ([] : List α).length [] := ⟨rfl, by simp, fun h => absurd h (Nat.lt_irrefl 0)⟩
theorem dP {A : Option Addr} {n c : Nat} (h : d.R e w base ok (.slice A n c) xs) : n = xs.length ∧ n ≤ c ∧ d.C w A xs.length xs := by
  obtain ⟨A', c', he, hl, hr⟩ := LK h
  injection he with h1 h2 h3
  subst h1
  exact ⟨h2, by omega, hr⟩
theorem zW (h : d.R e w base ok v xs) : ∀ k, v.ownBlock = some k → k < w.heap.size := by
  obtain ⟨inner, ho⟩ := I7 h
  exact PN ho
theorem kP (h : d.R e w base ok v xs) : ∀ k, v.ownBlock = some k → base ≤ k := by
  obtain ⟨inner, ho⟩ := I7 h
  exact qC ho
theorem Hq (h : d.R e w base ok v xs) (hp : 0 < xs.length) : ∃ g cap, v = .slice (some ⟨g, 0, none⟩) xs.length cap ∧ base ≤ g ∧ g < w.heap.size ∧ ∃ cells, w.heap[g]? = some (.cells cells e (0, 0)) := by
  obtain ⟨inner, ho⟩ := I7 h
  obtain ⟨g, cap, he, hb, hl⟩ := ho.form hp
  obtain ⟨cells, hc⟩ := yC ho g (by rw [he]; simp [Value.ownBlock])
  exact ⟨g, cap, he, hb, hl, cells, hc⟩
theorem R_elder (hu : d'.R e' W b oku u ys) (h : d.R e w1 W.heap.size okv v xs) (hb : Below W.heap.size W w1) : d'.R e' w1 b (fun k => oku k ∧ some k ≠ v.ownBlock) u ys := by
  obtain ⟨inner, ho⟩ := I7 h
  exact dN (zV (mU hu) (fun k hk => hb.block k hk.2.2.1)) (fun k hk => ⟨hk.1, fun he => by have := qC ho k he.symm; have := hk.2.2.1; omega⟩)
end
section
variable {w W : World} {A : Option Addr} {n : Nat}
theorem jM {k : IntKind} {xs : List Int} (h : (Kd.int k).C w A n xs) (i : Int) (h0 : 0 ≤ i) (h1 : i < n) : ∃ ad, A = some ad ∧ w.cell? (ad.add i.toNat) = some (.int k (rd xs i)) :=
  CF.at_ (sF (enc := Value.int k) (d := (0 : Int)) (h1 := fun _ => rfl) h) i h0 h1
variable {α : Type} {enc : α → Value} {h1 : ∀ x, (enc x).oneCell' = true} {e base g cap : Nat} {ok : Nat → Prop} {xs : List α}
theorem R_cell (d : α) (h : (scalar enc h1).R e W base ok (.slice (some ⟨g, 0, none⟩) xs.length cap) xs) (i : Int) (h0 : 0 ≤ i) (hi : i < xs.length) : W.cell? ⟨g, i.toNat, none⟩ = some (enc (rdOf d xs i)) ∧ W.frozen? ⟨g, i.toNat, none⟩ = false := UE (Ap h) i h0 hi
theorem R_put (h : (scalar enc h1).R e W base ok (.slice (some ⟨g, 0, none⟩) xs.length cap) xs) (i : Int) (x : α) : (scalar enc h1).R e (W.setCell ⟨g, i.toNat, none⟩ (enc x)) base ok (.slice (some ⟨g, 0, none⟩) xs.length cap) (xs.set i.toNat x) ∧ W.grownBy (W.setCell ⟨g, i.toNat, none⟩ (enc x)) (some g) := by
  obtain ⟨ho, hg⟩ := JU (Ap h) i x
  exact ⟨N8 (by rw [List.length_set]; exact ho) h.1, hg⟩
end
section
variable {P : Program} {ops : Array Oper} {rest : List Oper} {o : Oper} {a : Act} {Q : Exit → Act → World → Prop}
theorem Di {W w1 : World} {v : Value} (hgd : o.guard = none) (hrun : (execOp a.eval o).run P W = .ok (.value v) w1) (h : wpList P ops Q rest (a.put o.dst v) w1) : wpList P ops Q (o :: rest) a W := by
  refine wpList_plain hgd fun K hK => ?_
  unfold Oper.wp
  rw [hrun]
  exact hK _ _ h
variable {α : Type}
theorem CG (d : Kd α) {w0 W : World} (base e : Nat) (hgd : o.guard = none) {N : Tmp} (_hd : o.dst = some N) {xs : List α} {inner : List Value} {ok okp : Nat → Prop}
    (hrun : (execOp a.eval o).run P W = .ok (.value (.slice (some ⟨W.heap.size, 0, none⟩) xs.length xs.length)) (W.alloc (.cells inner.toArray e)))
    (hrep : ig (d.M W base okp) d.sz xs inner) (hok : ∀ k, okp k → ok k) (hfresh : ok W.heap.size) (HB : Below base w0 W) (hbase : base ≤ W.heap.size) (hm : xs.length ≤ 9223372036854775807)
    (h : ∀ v1 w1, d.R e w1 base ok v1 xs → Below base w0 w1 → W.grownBy w1 none → (∃ b, v1.ownBlock = some b ∧ W.heap.size ≤ b) → wpList P ops Q rest (a.put o.dst v1) w1) : wpList P ops Q (o :: rest) a W := by
  refine Di hgd hrun (h _ _ ⟨fun k hk => ?_, inner, ?_, ?_⟩ (HB.alloc hbase _) (World.grownBy_alloc W _ none) ⟨W.heap.size, by simp [Value.ownBlock], Nat.le_refl _⟩)
  · have : W.heap.size = k := by simpa [Value.ownBlock] using hk
    subst this
    exact hfresh
  · have h2 := World.ownsRow_lit (base := base) (e := e) (size := d.sz) W inner.toArray xs.length hbase (by simpa [maxLen] using hm) (by simpa using hrep.1)
    simpa using h2
  · refine hrep.wY (fun p c hp => d.iU (fun k hk => ⟨hok k hk.1, fun he => ?_⟩) (TS (d.ku hp) (bY (Below.refl _ _) _)))
    have h3 : k = W.heap.size := by simpa [Value.ownBlock] using he
    have := hk.2.2.1
    omega
theorem Iy {α : Type} {R : α → List Value → Prop} {z : Value} {size : Nat} {z0 : α} (hz : z.cells.size = size) (hs : 0 < size) (h0 : R z0 z.cells.toList) (m : Nat) : ig R size (List.replicate m z0) (madeCells z.cells (m * size)).toList := by
  refine ⟨by simp [size_madeCells], fun j p hj => ?_⟩
  obtain ⟨hjl, hp⟩ := List.getElem?_eq_some_iff.1 hj
  have hjm : j < m := by simpa using hjl
  have hp' : z0 = p := by simpa using hp
  subst hp'
  have hle : j * size + size ≤ m * size := by rw [← Nat.succ_mul]; exact Nat.mul_le_mul_right _ hjm
  have : ((madeCells z.cells (m * size)).toList.drop (j * size)).take size = z.cells.toList := by
    apply List.ext_getElem
    · simp [size_madeCells, hz]
      omega
    · intro i h1 h2
      have hi : i < size := by rw [Array.length_toList, hz] at h2; exact h2
      have hmod : (j * size + i) % size = i := by
        rw [Nat.mul_comm, Nat.mul_add_mod]
        exact Nat.mod_eq_of_lt hi
      simp [madeCells, hz, hmod]
      rw [getElem!_pos z.cells i (by omega)]
  rw [this]
  exact h0
theorem R_make (d : Kd α) {w0 W : World} (base e : Nat) (hgd : o.guard = none) {N : Tmp} (hd : o.dst = some N) (t : TypeId) (x y : Operand) (ho : o.op = .makeSlice t x y) (n : Int) (hx : a.eval x = .int .i64 n) (hy : a.eval y = .int .i64 n)
    (ht : P.underlying t = some (.slice e)) (z : Value) (bytes : Nat) (hinfo : (P.info? e).map (fun i => (i.zero, i.size, i.bytes)) = some (some z, d.sz, bytes)) (hz : z.cells.size = d.sz) (hs0 : 0 < d.sz) (hb0 : 0 < bytes)
    (z0 : α) {ok okp : Nat → Prop} (hzero : d.M W base okp z0 z.cells.toList) (hok : ∀ k, okp k → ok k) (hfresh : ok W.heap.size) (h0 : 0 ≤ n) (hl : n.toNat * bytes ≤ 281474976710656) (HB : Below base w0 W) (hbase : base ≤ W.heap.size)
    (h : ∀ v1 w1, d.R e w1 base ok v1 (List.replicate n.toNat z0) → Below base w0 w1 → W.grownBy w1 none → (∃ b, v1.ownBlock = some b ∧ W.heap.size ≤ b) → wpList P ops Q rest (a.put o.dst v1) w1) : wpList P ops Q (o :: rest) a W := by
  obtain ⟨m, rfl⟩ := Int.eq_ofNat_of_zero_le h0
  simp only [Int.toNat_natCast] at hl h
  obtain ⟨i0, hi, hzz⟩ := Option.map_eq_some_iff.1 hinfo
  simp only [Prod.mk.injEq] at hzz
  obtain ⟨hz0, hz1, hz2⟩ := hzz
  have hm : m ≤ 281474976710656 := Nat.le_trans (Nat.le_mul_of_pos_right _ hb0) hl
  have hr := run_make (P := P) W t e i0 z ht hi hz0 .i64 .i64 (m : Int) (m : Int) (by omega) (by omega)
    (by
      have h3 : ((i0.bytes * m : Nat) : Int) ≤ 281474976710656 := by rw [hz2, Nat.mul_comm]; omega
      rwa [Int.natCast_mul] at h3) (by omega)
  simp only [Int.toNat_natCast] at hr
  rw [hz1] at hr
  refine CG d base e hgd hd (xs := List.replicate m z0) (inner := (madeCells z.cells (m * d.sz)).toList) (okp := okp) (ok := ok) ?_ (Iy hz hs0 hzero m) hok hfresh HB hbase (by simp; omega) h
  simp [execOp, ho, hx, hy, hr]
end
end Kd
theorem Vb {w : World} {base n m c size : Nat} {e : TypeId} {A : Option Addr} {xs : List Value} (h : w.ownsRow base e size (.slice A n c) n xs) (hm : m ≤ n) : w.ownsRow base e size (.slice A m c) m (xs.take (m * size)) := by
  obtain ⟨h1, h2⟩ := h
  refine ⟨by rw [List.length_take, h1]; exact Nat.min_eq_left (Nat.mul_le_mul_right _ hm), ?_⟩
  rcases h2 with ⟨he, h0⟩ | ⟨g, cap, cur, he, hb, hh, hnc, hcm, hcs, ht⟩
  · injection he with ha _ hc
    subst ha; subst hc
    exact .inl ⟨by rw [show m = 0 by omega], by omega⟩
  · injection he with ha _ hc
    subst ha; subst hc
    refine .inr ⟨g, c, cur, rfl, hb, hh, by omega, hcm, hcs, ?_⟩
    rw [← ht, List.take_take, Nat.min_eq_left (Nat.mul_le_mul_right _ hm)]
section
variable {P : Program}
theorem Lv (t e : TypeId) (kh : IntKind) {i : TypeInfo} (ht : P.underlying t = some (.slice e)) (hi : P.info? e = some i) (A : Option Addr) (n c : Nat) (j : Int) (h0 : 0 ≤ j) (hm : j ≤ n) (hc : n ≤ c) :
    ∀ W : World, (Instr.slice t (.slice A n c) none (some (.int kh j)) none).run P W = .ok (.slice A j.toNat c) W := by
  intro W
  have hel : P.elem t = e := by simp [Program.elem, ht]
  have hu : P.underlying t = some (.slice (P.elem t)) := by rw [hel]; exact ht
  have ha : (A.map fun x => x.add 0) = A := by cases A <;> simp [Addr.add]
  rw [run_slice_h W t A n c hu kh j h0 (by omega), hel]
  simp [sizeOf, typeInfo, hi, sliced, Result.andThen, ha]
theorem GQ (t e : TypeId) (kl : IntKind) {i : TypeInfo} (ht : P.underlying t = some (.slice e)) (hi : P.info? e = some i) (size : Nat) (hsz : i.size = size) (A : Option Addr) (n c : Nat) (j : Int) (h0 : 0 ≤ j) (hm : j ≤ n) :
    ∀ W : World, (Instr.slice t (.slice A n c) (some (.int kl j)) none none).run P W = .ok (.slice (if c = j.toNat then A else A.map (·.add (j.toNat * size))) (n - j.toNat) (c - j.toNat)) W := by
  intro W
  have hel : P.elem t = e := by simp [Program.elem, ht]
  have hu : P.underlying t = some (.slice (P.elem t)) := by rw [hel]; exact ht
  rw [run_slice_l W t A n c hu kl j h0 hm, hel]
  simp [sizeOf, typeInfo, hi, hsz, sliced, Result.andThen]
end
section
variable {w w1 : World} {base n size : Nat} {e : TypeId} {v : Value} {xs : List Value}
theorem QM (g o j : Nat) : (⟨g, o, none⟩ : Addr).add j = ⟨g, o + j, none⟩ := by unfold Addr.add; split <;> simp_all
theorem vP {g : Nat} : ∀ (vs : List Value) (o : Nat) {w : World} (k : Nat), k ≠ g → (w.setCells g o vs).heap[k]? = w.heap[k]?
  | [], _, _, _, _ => rfl
  | v :: r, o, w, k, hk => by
    rw [World.setCells, vP r (o + 1) k hk]
    exact Below.heap_setCell w ⟨g, o, none⟩ v k hk
theorem uH (g : Nat) : ∀ (vs : List Value) (o : Nat) (w : World), (w.setCells g o vs).os = w.os ∧ (w.setCells g o vs).tape = w.tape ∧ (w.setCells g o vs).output = w.output ∧ (w.setCells g o vs).heap.size = w.heap.size
  | [], _, _ => ⟨rfl, rfl, rfl, rfl⟩
  | v :: r, o, w => by
    obtain ⟨h1, h2, h3, h4⟩ := uH g r (o + 1) (w.setCell ⟨g, o, none⟩ v)
    rw [World.setCells]
    exact ⟨h1, h2, h3, by rw [h4]; simp [World.setCell]⟩
theorem vO {g : Nat} {e : TypeId} : ∀ (vs : List Value) (o : Nat) (w : World) (cur : Array Value), w.heap[g]? = some (.cells cur e (0, 0)) → o + vs.length ≤ cur.size →
    ∃ cur', (w.setCells g o vs).heap[g]? = some (.cells cur' e (0, 0)) ∧ cur'.size = cur.size ∧ cur'.toList = cur.toList.take o ++ vs ++ cur.toList.drop (o + vs.length)
  | [], o, w, cur, h, _ => ⟨cur, h, rfl, by simp⟩
  | v :: r, o, w, cur, h, hl => by
    have h2 := LD h o v
    simp only [List.length_cons] at hl
    obtain ⟨cur', h3, h4, h5⟩ := vO r (o + 1) (w.setCell ⟨g, o, none⟩ v) _ h2 (by simp; omega)
    refine ⟨cur', h3, by rw [h4]; simp, ?_⟩
    rw [h5, Array.toList_setIfInBounds]
    have ho : o < cur.toList.length := by rw [Array.length_toList]; omega
    rw [List.take_set, List.drop_set_of_lt (by omega)]
    simp only [List.length_cons]
    rw [show o + 1 + r.length = o + (r.length + 1) by omega]
    congr 1
    rw [List.take_succ_eq_append_getElem ho, List.set_append_right _ _ (by rw [List.length_take]; omega)]
    have ho' : o < cur.size := by omega
    simp [Nat.min_eq_left (Nat.le_of_lt ho')]
end
section
variable {P : Program}
end
namespace Kd
theorem Iw {α : Type} {R : α → List Value → Prop} {size m : Nat} {ps : List α} {cs : List Value} (h : ig R size ps cs) (hm : m ≤ ps.length) : ig R size (ps.take m) (cs.take (m * size)) := by
  refine ⟨by rw [List.length_take, List.length_take, h.1, Nat.min_eq_left hm, Nat.min_eq_left (Nat.mul_le_mul_right _ hm)], fun j p hj => ?_⟩
  rw [List.getElem?_take] at hj
  split at hj
  · rename_i hjm
    have := h.2 j p hj
    have hle : j * size + size ≤ m * size := by rw [← Nat.succ_mul]; exact Nat.mul_le_mul_right _ hjm
    rw [List.drop_take, List.take_take, Nat.min_eq_left (by omega)]
    exact this
  · cases hj
theorem Uw {α : Type} {R : α → List Value → Prop} {size m : Nat} {ps : List α} {cs : List Value} (h : ig R size ps cs) : ig R size (ps.drop m) (cs.drop (m * size)) := by
  refine ⟨by rw [List.length_drop, List.length_drop, h.1, Nat.sub_mul], fun j p hj => ?_⟩
  rw [List.getElem?_drop] at hj
  have := h.2 (m + j) p hj
  rw [List.drop_drop, ← Nat.add_mul]
  exact this
theorem R_take {α : Type} {d : Kd α} {e m n c : Nat} {w : World} {base : Nat} {ok : Nat → Prop} {A : Option Addr} {xs : List α} (h : d.R e w base ok (.slice A n c) xs) (hm : m ≤ xs.length) : d.R e w base ok (.slice A m c) (xs.take m) := by
  obtain ⟨h0, inner, ho, hr⟩ := h
  have hn : n = xs.length := by
    obtain ⟨A', c', he⟩ := UA ho
    injection he
  subst hn
  have hb : ∀ x y : Nat, (Value.slice A x c).ownBlock = (Value.slice A y c).ownBlock := by
    intro x y
    cases A <;> rfl
  refine ⟨fun k hk => h0 k (by rw [hb _ m]; exact hk), inner.take (m * d.sz), ?_, ?_⟩
  · rw [List.length_take, Nat.min_eq_left hm]
    exact Vb ho hm
  · rw [hb m xs.length]
    exact Iw hr hm
section
variable {α : Type} {d : Kd α} {e : Nat} {w w1 W : World} {base : Nat} {ok ok' : Nat → Prop} {v : Value} {xs : List α}
end
section
variable {P : Program} {ops : Array Oper} {rest : List Oper} {o : Oper} {a : Act} {Q' : Exit → Act → World → Prop} {Kc : Act → World → Prop} {α : Type}
end
end Kd
namespace Kd
section
variable {α : Type} {d : Kd α} {e e' : Nat} {w w1 W : World} {base : Nat} {ok : Nat → Prop} {u v : Value} {xs : List α}
theorem rT (h : d.R e w base ok v xs) : ∀ k, v.ownBlock = some k → ∃ cells, w.heap[k]? = some (.cells cells e (0, 0)) := by
  obtain ⟨inner, ho⟩ := I7 h
  exact fun k hk => yC ho k hk
theorem nZ (h : d.R e W base ok u xs) (hty : ∀ k, v.ownBlock = some k → ∃ cells, W.heap[k]? = some (.cells cells e' (0, 0))) (ht : ∀ q, q ∈ e :: d.E → q ≠ e') (hg : W.grownBy w1 v.ownBlock) : d.R e w1 base ok u xs := by
  refine dN (zV (mU h) (fun k hk => hg.block k hk.2.2.1 (fun he => ?_))) (fun _ hk => hk.1)
  obtain ⟨_, _, _, q, hq, cells, hc⟩ := hk
  obtain ⟨cells', hc'⟩ := hty k he.symm
  rw [hc] at hc'
  injection hc' with hc'
  injection hc' with _ hc'
  exact ht q hq hc'
theorem Oa (h : d.R e W base ok u xs) (hty : ∀ k, v.ownBlock = some k → ∃ cells, W.heap[k]? = some (.cells cells e' (0, 0))) (ht : ∀ q, q ∈ e :: d.E → q ≠ e') : d.R e W base (fun k => ok k ∧ some k ≠ v.ownBlock) u xs := by
  refine dN (mU h) (fun k hk => ⟨hk.1, fun he => ?_⟩)
  obtain ⟨_, _, _, q, hq, cells, hc⟩ := hk
  obtain ⟨cells', hc'⟩ := hty k he.symm
  rw [hc] at hc'
  injection hc' with hc'
  injection hc' with _ hc'
  exact ht q hq hc'
theorem pW (hu : d.R e W base ok u xs) (hbase : ∀ k, v.ownBlock = some k → W.heap.size ≤ k) (hb : Below W.heap.size W w1) : d.R e w1 base (fun k => ok k ∧ some k ≠ v.ownBlock) u xs :=
  dN (zV (mU hu) (fun k hk => hb.block k hk.2.2.1)) (fun k hk => ⟨hk.1, fun he => by have := hbase k he.symm; have := hk.2.2.1; omega⟩)
theorem wL (h : d.R e w1 W.heap.size ok v xs) (hlt : ∀ k, u.ownBlock = some k → k < W.heap.size) : d.R e w1 W.heap.size (fun k => ok k ∧ some k ≠ u.ownBlock) v xs :=
  dN (mU h) (fun k hk => ⟨hk.1, fun he => by have := hlt k he.symm; have := hk.2.1; omega⟩)
theorem fresh' (hlt : ∀ k, u.ownBlock = some k → k < W.heap.size) : ∀ k, W.heap.size ≤ k → some k ≠ u.ownBlock := fun k hk he => by have := hlt k he.symm; omega
end
end Kd
theorem Ak {α : Type} (a seg : List α) (o : Nat) (h : o + seg.length ≤ a.length) (q : Nat) :
    (a.take o ++ seg ++ a.drop (o + seg.length))[q]? = if q < o then a[q]? else if q < o + seg.length then seg[q - o]? else a[q]? := by
  have hl : (a.take o).length = o := by rw [List.length_take]; omega
  rw [List.append_assoc]
  by_cases h1 : q < o
  · rw [if_pos h1, List.getElem?_append_left (by omega), List.getElem?_take, if_pos h1]
  · rw [if_neg h1, List.getElem?_append_right (by omega), hl]
    by_cases h2 : q < o + seg.length
    · rw [if_pos h2, List.getElem?_append_left (by omega)]
    · rw [if_neg h2, List.getElem?_append_right (by omega), List.getElem?_drop]
      congr 1
      omega
namespace Kd
section
variable {α : Type} {d : Kd α} {e base g n cap : Nat} {ok okp : Nat → Prop} {W : World} {xs : List α}
theorem QU (h : d.R e W base ok (.slice (some ⟨g, 0, none⟩) n cap) xs) (z : α) (i : Int) (h0 : 0 ≤ i) (h1 : i < n) :
    ∃ c, c.length = d.sz ∧ d.M W base (fun k => ok k ∧ k ≠ g) (xs.getD i.toNat z) c ∧ (∀ j u, c[j]? = some u → W.cell? ⟨g, i.toNat * d.sz + j, none⟩ = some u) ∧ ∀ j, W.frozen? ⟨g, i.toNat * d.sz + j, none⟩ = false := by
  obtain ⟨hn, hnc, hC⟩ := dP h
  obtain ⟨_, inner, ho, hr⟩ := h
  have hil : i.toNat < xs.length := by omega
  have hseg : i.toNat * d.sz + d.sz ≤ inner.length := by rw [hr.1, ← Nat.succ_mul]; exact Nat.mul_le_mul_right _ hil
  have hM := hr.2 i.toNat _ (List.getElem?_eq_getElem hil)
  refine ⟨(inner.drop (i.toNat * d.sz)).take d.sz, by rw [List.length_take, List.length_drop]; omega, ?_, fun j u hu => ?_, fun j => ?_⟩
  · rw [List.getD_eq_getElem?_getD, List.getElem?_eq_getElem hil]
    exact d.iU (fun k hk => ⟨hk.1, fun he => hk.2 (by rw [he]; simp [Value.ownBlock])⟩) hM
  · rw [List.getElem?_take] at hu
    split at hu
    · rw [List.getElem?_drop] at hu
      have := ho.cells (g := g) (by simp [Value.ownBlock]) _ u hu
      rwa [add_plain] at this
    · cases hu
  · obtain ⟨cells, hc⟩ := yC ho g (by simp [Value.ownBlock])
    exact aj hc _
theorem R_seg (h : d.R e W base ok (.slice (some ⟨g, 0, none⟩) n cap) xs) (i : Int) (h0 : 0 ≤ i) (h1 : i < n) {c seg : List Value} {j : Nat} (hcl : c.length = d.sz) (hcc : ∀ j u, c[j]? = some u → W.cell? ⟨g, i.toNat * d.sz + j, none⟩ = some u)
    (hj : j + seg.length ≤ d.sz) {x' : α} (hM : d.M W base okp x' (c.take j ++ seg ++ c.drop (j + seg.length))) (tF : ∀ k, okp k → ok k ∧ k ≠ g) :
    d.R e (W.setCells g (i.toNat * d.sz + j) seg) base ok (.slice (some ⟨g, 0, none⟩) n cap) (xs.set i.toNat x') ∧ W.grownBy (W.setCells g (i.toNat * d.sz + j) seg) (some g) := by
  obtain ⟨hn, hnc, _⟩ := dP h
  obtain ⟨hok, inner, ho, hr⟩ := h
  have hil : i.toNat < xs.length := by omega
  have hseg : i.toNat * d.sz + d.sz ≤ inner.length := by rw [hr.1, ← Nat.succ_mul]; exact Nat.mul_le_mul_right _ hil
  have hin : inner.length = n * d.sz := by rw [hr.1, hn]
  obtain ⟨ho1, ho2⟩ := ho
  rcases ho2 with ⟨hv, _⟩ | ⟨g', cap', cur, hv, hb, hh, hnc', hcm, hcs, ht⟩
  · cases hv
  injection hv with ha _ hc
  injection ha with ha
  injection ha with hg
  subst hg; subst hc
  have hfit : i.toNat * d.sz + j + seg.length ≤ cur.size := by
    have : n * d.sz ≤ cap * d.sz := Nat.mul_le_mul_right _ hnc
    omega
  obtain ⟨cur', h3, h4, h5⟩ := vO seg (i.toNat * d.sz + j) W cur hh hfit
  obtain ⟨s1, s2, s3, s4⟩ := uH g seg (i.toNat * d.sz + j) W
  have UM : ∀ k, k ≠ g → (W.setCells g (i.toNat * d.sz + j) seg).heap[k]? = W.heap[k]? := fun k hk => vP seg _ k hk
  -- the element's cells before are what was read
  have hcin : ∀ q, q < d.sz → c[q]? = inner[i.toNat * d.sz + q]? := by
    intro q hq
    have hq' : q < c.length := by omega
    have h6 := hcc q _ (List.getElem?_eq_getElem hq')
    rw [cell_of_row W g _ cur e (0, 0) hh] at h6
    rw [List.getElem?_eq_getElem hq', ← h6, ← ht, List.getElem?_take, if_pos (by rw [← hn]; omega), Array.getElem?_toList]
  refine ⟨⟨hok, inner.take (i.toNat * d.sz + j) ++ seg ++ inner.drop (i.toNat * d.sz + j + seg.length), ⟨?_, .inr ⟨g, cap, cur', by rw [List.length_set, hn], hb, h3, by rw [List.length_set, ← hn]; exact hnc, hcm, by rw [h4, hcs], ?_⟩⟩, ?_⟩,
    ⟨s1, s2, s3, by rw [s4]; exact Nat.le_refl _, fun k _ hk => UM k (fun he => hk (by rw [he]))⟩⟩
  · rw [List.length_set]
    simp only [List.length_append, List.length_take, List.length_drop]
    rw [hr.1] at hseg ⊢
    omega
  · rw [List.length_set, ← hn]
    apply List.ext_getElem?
    intro q
    rw [List.getElem?_take, h5]
    rw [Ak cur.toList seg (i.toNat * d.sz + j) (by rw [Array.length_toList]; omega) q, Ak inner seg (i.toNat * d.sz + j) (by omega) q]
    have hcur : ∀ q, q < n * d.sz → cur.toList[q]? = inner[q]? := by
      intro q hq
      rw [← ht, List.getElem?_take, if_pos (by rw [← hn]; exact hq)]
    by_cases hq : q < n * d.sz
    · rw [if_pos hq, hcur q hq]
    · rw [if_neg hq, if_neg (by omega), if_neg (by omega), List.getElem?_eq_none (by omega)]
  · refine ⟨?_, fun m p hm => ?_⟩
    · rw [List.length_set]
      simp only [List.length_append, List.length_take, List.length_drop]
      rw [hr.1] at hseg ⊢
      omega
    · have hml : m < xs.length := by
        have := (List.getElem?_eq_some_iff.1 hm).1
        rwa [List.length_set] at this
      have hmfit : m * d.sz + d.sz ≤ inner.length := by rw [hr.1, ← Nat.succ_mul]; exact Nat.mul_le_mul_right _ hml
      have hgo : some g = (Value.slice (some ⟨g, 0, none⟩) n cap).ownBlock := by simp [Value.ownBlock]
      by_cases hmi : m = i.toNat
      · subst hmi
        rw [List.getElem?_set_self (by omega)] at hm
        injection hm with hm
        subst hm
        have hcells : ((inner.take (i.toNat * d.sz + j) ++ seg ++ inner.drop (i.toNat * d.sz + j + seg.length)).drop (i.toNat * d.sz)).take d.sz = c.take j ++ seg ++ c.drop (j + seg.length) := by
          apply List.ext_getElem?
          intro q
          rw [List.getElem?_take, List.getElem?_drop, Ak inner seg _ (by omega), Ak c seg j (by omega) q]
          by_cases hq : q < d.sz
          · rw [if_pos hq, hcin q hq]
            by_cases hq1 : q < j
            · rw [if_pos (by omega), if_pos hq1]
            · rw [if_neg (by omega), if_neg hq1]
              by_cases hq2 : q < j + seg.length
              · rw [if_pos (by omega), if_pos hq2]
                congr 1
                omega
              · rw [if_neg (by omega), if_neg hq2]
          · rw [if_neg hq, if_neg (by omega), if_neg (by omega), List.getElem?_eq_none (by omega)]
        rw [hcells]
        refine d.iU (fun k hk => ?_) (d.lN (w1 := W.setCells g (i.toNat * d.sz + j) seg) (fun k hk => UM k (tF k hk).2) hM)
        exact ⟨(tF k hk).1, fun he => (tF k hk).2 (by rw [← hgo] at he; injection he)⟩
      · rw [List.getElem?_set_ne (by omega)] at hm
        have hold := hr.2 m p hm
        have hcells : ((inner.take (i.toNat * d.sz + j) ++ seg ++ inner.drop (i.toNat * d.sz + j + seg.length)).drop (m * d.sz)).take d.sz = (inner.drop (m * d.sz)).take d.sz := by
          apply List.ext_getElem?
          intro q
          rw [List.getElem?_take, List.getElem?_take, List.getElem?_drop, List.getElem?_drop, Ak inner seg _ (by omega)]
          by_cases hq : q < d.sz
          · rw [if_pos hq, if_pos hq]
            rcases Nat.lt_or_gt_of_ne hmi with hlt | hgt
            · have : m * d.sz + d.sz ≤ i.toNat * d.sz := by rw [← Nat.succ_mul]; exact Nat.mul_le_mul_right _ hlt
              rw [if_pos (by omega)]
            · have : i.toNat * d.sz + d.sz ≤ m * d.sz := by rw [← Nat.succ_mul]; exact Nat.mul_le_mul_right _ hgt
              rw [if_neg (by omega), if_neg (by omega)]
          · rw [if_neg hq, if_neg hq]
        rw [hcells]
        refine d.lN (fun k hk => UM k (fun he => hk.2 (by rw [he]; exact hgo))) hold
end
end Kd
namespace Kd
section
variable {α : Type} {F : Kd α → Kd α} {sz : Nat} {E : List Nat} {hs : ∀ n, (upto F sz E n).sz = sz} {hE : ∀ n q, q ∈ (upto F sz E n).E → q ∈ E}
end
end Kd
namespace Kd
theorem Dr {α : Type} {R : α → List Value → Prop} {size : Nat} {ps qs : List α} {cs ds : List Value} (h : ig R size ps cs) (h' : ig R size qs ds) : ig R size (ps ++ qs) (cs ++ ds) := by
  refine ⟨by rw [List.length_append, List.length_append, h.1, h'.1, Nat.add_mul], fun j p hj => ?_⟩
  rcases Nat.lt_or_ge j ps.length with hlt | hge
  · rw [List.getElem?_append_left hlt] at hj
    have hle : j * size + size ≤ cs.length := by rw [h.1, ← Nat.succ_mul]; exact Nat.mul_le_mul_right _ hlt
    rw [List.drop_append_of_le_length (by omega), List.take_append_of_le_length (by rw [List.length_drop]; omega)]
    exact h.2 j p hj
  · rw [List.getElem?_append_right hge] at hj
    have h2 := h'.2 (j - ps.length) p hj
    have hle : ps.length * size ≤ j * size := Nat.mul_le_mul_right _ hge
    rw [List.drop_append, List.drop_eq_nil_of_le (by rw [h.1]; exact hle), List.nil_append, h.1, ← Nat.sub_mul]
    exact h2
section
variable {P : Program} {ops : Array Oper} {rest : List Oper} {o : Oper} {a : Act} {Q : Exit → Act → World → Prop} {α : Type}
theorem qy (d : Kd α) {Rr : α → List Value → Prop} {w0 W : World} (base : Nat) (hgd : o.guard = none) (s x : Operand) (t e : TypeId) (z : Value) (bytes : Nat)
    (ho : o.op = .call { callee := .builtin .append, args := #[s, x], argTypes := #[t, t] })
    (ht : P.underlying t = some (.slice e)) (hinfo : (P.info? e).map (fun i => (i.zero, i.size, i.bytes)) = some (some z, d.sz, bytes)) (hz : z.cells.size = d.sz) (hs0 : 0 < d.sz) (hb0 : 0 < bytes)
    (v : Value) (xs ys : List α) (A : Option Addr) (m c : Nat) (ok okp : Nat → Prop) (hs : a.eval s = v) (hx : a.eval x = .slice A m c)
    (HO : d.R e W base ok v xs) (HR : j6 Rr d.sz W A m ys) (hKM : ∀ x cs, Rr x cs → d.M W base okp x cs) (tF : ∀ k, okp k → ok k ∧ some k ≠ v.ownBlock) (hfresh : ∀ k, W.heap.size ≤ k → ok k)
    (HB : Below base w0 W) (hbase : base ≤ W.heap.size) (hl : (xs.length + m) * bytes ≤ 140737488355328)
    (h : ∀ v1 w1, d.R e w1 base ok v1 (xs ++ ys) → Below base w0 w1 → W.grownBy w1 v.ownBlock → (v1.ownBlock = v.ownBlock ∨ ∃ b, v1.ownBlock = some b ∧ W.heap.size ≤ b) → wpList P ops Q rest (a.put o.dst v1) w1) :
    wpList P ops Q (o :: rest) a W := by
  obtain ⟨i0, hi, hzz⟩ := Option.map_eq_some_iff.1 hinfo
  simp only [Prod.mk.injEq] at hzz
  obtain ⟨hz0, hz1, hz2⟩ := hzz
  have hm : ys.length = m := HR.1
  have hlen : xs.length + m ≤ 140737488355328 := Nat.le_trans (Nat.le_mul_of_pos_right _ hb0) hl
  obtain ⟨hok, inner, hown, hr⟩ := HO
  have hrun : ∃ v1 w1, (Builtin.append_ #[t, t] o.type #[v, .slice A m c]).run P W = .ok v1 w1 ∧ d.R e w1 base ok v1 (xs ++ ys) ∧ W.grownBy w1 v.ownBlock ∧ (v1.ownBlock = v.ownBlock ∨ ∃ b, v1.ownBlock = some b ∧ W.heap.size ≤ b) := by
    rcases A with _ | ad
    · have h0 : m = 0 := by
        rcases Nat.eq_zero_or_pos m with h0 | h0
        · exact h0
        · obtain ⟨ad, h, _⟩ := HR.2.2 h0
          cases h
      subst h0
      obtain rfl : ys = [] := List.eq_nil_of_length_eq_zero hm
      refine ⟨v, W, ?_, by rw [List.append_nil]; exact ⟨hok, inner, hown, hr⟩, World.grownBy.refl W _, .inl rfl⟩
      rcases hown.2 with ⟨rfl, hn⟩ | ⟨g, cap, cur, rfl, _, _, hnc, _⟩
      · simp [Builtin.append_, run_underlying ht, sizeOf, typeInfo, hi, Builtin.lenOf, Builtin.firstCells]
      · simp [Builtin.append_, run_underlying ht, sizeOf, typeInfo, hi, Builtin.lenOf, Builtin.firstCells, hnc, storeCells]
    · obtain ⟨news, hnr, hnc⟩ := j6.Vq HR
      have hnM : ig (d.M W base okp) d.sz ys news := hnr.wY (fun p c hp => hKM p c hp)
      have hone : ∀ u ∈ news, u.oneCell' = true := by
        intro u hu
        obtain ⟨q, hq, rfl⟩ := List.mem_iff_getElem.1 hu
        have hql : q / d.sz < ys.length := by
          rw [Nat.div_lt_iff_lt_mul hs0]
          rw [← hnM.1]
          exact hq
        have hc := hnM.2 (q / d.sz) _ (List.getElem?_eq_getElem hql)
        refine d.mX (d.j4 hc) _ ?_
        rw [List.mem_iff_getElem?]
        refine ⟨q % d.sz, ?_⟩
        rw [List.getElem?_take, if_pos (Nat.mod_lt _ hs0), List.getElem?_drop, Nat.mul_comm, Nat.div_add_mod, List.getElem?_eq_getElem hq]
      obtain ⟨v1, w1, hrun, h2, hg, _, hat⟩ := run_append_own_at (P := P) W base t o.type e i0 z d.sz bytes ht hi hz0 hz1 hz2 hz hs0 v xs.length inner hown ad m c news (by rw [hnM.1, hm]) hnc hone (by simp only [maxLen]; omega) hl hbase
      have hat' : v1.ownBlock = v.ownBlock ∨ ∃ b, v1.ownBlock = some b ∧ W.heap.size ≤ b := by
        rcases hat with hat | hat
        · exact .inl hat
        · exact .inr ⟨_, hat, Nat.le_refl _⟩
      have hne : ∀ k, some k ≠ v.ownBlock → k < W.heap.size → some k ≠ v1.ownBlock := by
        intro k hk hlt
        rcases hat' with hat | ⟨b, hb, hle⟩
        · rw [hat]; exact hk
        · rw [hb]
          intro he
          injection he with he
          omega
      have step : ∀ {q : α} {c : List Value} {o : Nat → Prop}, d.M W base o q c → (∀ k, o k → ok k ∧ some k ≠ v.ownBlock) → d.M w1 base (fun k => ok k ∧ some k ≠ v1.ownBlock) q c := by
        intro q c o hq ho
        have h1 := d.lN (w1 := w1) (fun k hk => hg.block k hk.2.2.1 (ho k hk.1).2) (d.ku hq)
        exact d.iU (fun k hk => ⟨(ho k hk.1).1, hne k (ho k hk.1).2 hk.2.2.1⟩) h1
      refine ⟨v1, w1, hrun, ⟨fun k hk => ?_, inner ++ news, by rw [List.length_append, hm]; exact h2, Dr (hr.wY (fun _ _ hq => step hq (fun _ hk => hk))) (hnM.wY (fun _ _ hq => step hq tF))⟩, hg, hat'⟩
      rcases hat' with hat | ⟨b, hb, hle⟩
      · exact hok k (hat ▸ hk)
      · rw [hb] at hk
        injection hk with hk
        exact hfresh k (by omega)
  obtain ⟨v1, w1, hr1, h1, hg, hat⟩ := hrun
  refine wpList_plain hgd fun K hK => ?_
  unfold Oper.wp execOp
  simp only [ho, resolve, invoke, builtin, Sem.run_bind, Sem.run_pure, Result.andThen_ok, List.map_toArray, List.map_cons, List.map_nil, hs, hx, hr1]
  exact hK _ _ (h v1 w1 h1 (HB.grown hg hbase (qC hown)) hg hat)
end
end Kd
namespace Kd
section
variable {P : Program} {ops : Array Oper} {rest : List Oper} {o : Oper} {a : Act} {Q : Exit → Act → World → Prop} {α : Type}
end
end Kd
theorem add_add (a : Addr) (i j : Nat) : (a.add i).add j = a.add (i + j) := by
  unfold Addr.add
  by_cases h1 : i = 0 <;> by_cases h2 : j = 0 <;> simp [h1, h2, Nat.add_assoc]
namespace Kd
section
variable {α : Type} {k : Kd α} {w : World} {A : Option Addr} {xs : List α} {m c : Nat}
theorem C_take (h : k.C w A xs.length xs) (hm : m ≤ xs.length) : k.C w A (xs.take m).length (xs.take m) := by
  have hl : (xs.take m).length = m := by rw [List.length_take]; omega
  refine ⟨rfl, by rw [hl]; have := h.2.1; omega, fun hp => ?_⟩
  obtain ⟨ad, e, hc⟩ := h.2.2 (by omega)
  refine ⟨ad, e, fun j p hj => hc j p ?_⟩
  rw [List.getElem?_take] at hj
  split at hj
  · exact hj
  · cases hj
theorem C_drop (h : k.C w A xs.length xs) (hm : m ≤ xs.length) (hc : xs.length ≤ c) : k.C w (if c = m then A else A.map (·.add (m * k.sz))) (xs.drop m).length (xs.drop m) := by
  have hl : (xs.drop m).length = xs.length - m := List.length_drop
  refine ⟨rfl, by rw [hl]; have := h.2.1; omega, fun hp => ?_⟩
  rw [hl] at hp
  obtain ⟨ad, rfl, hcell⟩ := h.2.2 (by omega)
  rw [if_neg (by omega)]
  refine ⟨ad.add (m * k.sz), rfl, fun j p hj => ?_⟩
  rw [List.getElem?_drop] at hj
  obtain ⟨cs, h1, h2, h3⟩ := hcell (m + j) p hj
  refine ⟨cs, h1, h2, fun i u hu => ?_⟩
  rw [add_add, show m * k.sz + (j * k.sz + i) = (m + j) * k.sz + i by rw [Nat.add_mul]; omega]
  exact h3 i u hu
end
end Kd
section
variable {P : Program}
end
theorem bW {w W : World} (h : Below w.heap.size w W) : w.heap.size ≤ W.heap.size := h.size
theorem aA {w W w2 : World} (h : Below w.heap.size w W) (k : Below W.heap.size W w2) : Below w.heap.size w w2 := He h h.size k
theorem lZ.nil (W : World) (k : IntKind) : lZ W k none ([] : List Int).length [] := ⟨rfl, by simp, fun h => absurd h (Nat.lt_irrefl 0)⟩
theorem lZ.ofRow {k : IntKind} {w : World} {a : Option Addr} {len cap : Nat} {zs : List Int} (h : (a = none ∧ len = 0 ∧ cap = 0 ∧ zs = []) ∨ ∃ x, a = some x ∧ len ≤ cap ∧ cap ≤ maxLen ∧ zs.length = cap ∧ (∀ i, i < zs.length → w.cell? (x.add i) = some (.int k (zs.getD i 0))) ∧ ∀ n ∈ zs, (Lit.int k n).wf = true) :
    ∃ l : List Int, len = l.length ∧ lZ w k a l.length l ∧ l.length ≤ maxLen ∧ ∀ x ∈ l, (Lit.int k x).wf = true := by
  rcases h with ⟨rfl, rfl, rfl, rfl⟩ | ⟨x, rfl, hl, hm, hz, hc, hw⟩
  · exact ⟨[], rfl, lZ.nil _ _, Nat.zero_le _, fun x hx => by simp at hx⟩
  · have e : (zs.take len).length = len := by simp; omega
    have hm' : len ≤ maxLen := Nat.le_trans hl hm
    refine ⟨zs.take len, e.symm, ⟨rfl, by rw [e]; simpa [maxLen] using hm', fun _ => ⟨x, rfl, fun j hj => ?_⟩⟩, by rw [e]; exact hm', fun y hy => hw y (List.mem_of_mem_take hy)⟩
    rw [e] at hj
    rw [hc j (by omega)]
    simp [List.getD, List.getElem?_take, hj]
theorem bS {w W : World} {g j : Nat} {v : Value} (h : Below w.heap.size w W) (hg : w.heap.size ≤ g) : Below w.heap.size w (W.setCell ⟨g, j, none⟩ v) := h.setCell hg _
theorem sH {w W : World} {g : Nat} {row : Option Nat} (h : bP w W g row) (m : Nat) : bP w (W.drewN m) g row := h
theorem add_block (a : Addr) (i : Nat) : (a.add i).block = a.block := by unfold Addr.add; split <;> rfl
theorem CB {w0 w w1 : World} {B : Nat} (h : Below w0.heap.size w0 w) (hB : w0.heap.size ≤ B) (k : Below B w w1) : Below w0.heap.size w0 w1 :=
  h.trans ⟨k.os, k.tape, k.output, k.size, fun i hi => k.block i (Nat.lt_of_lt_of_le hi hB)⟩
theorem own_base' {w : World} {base : Nat} {e : TypeId} {size n : Nat} {v : Value} {xs : List Value} (h : w.ownsRow base e size v n xs) : v.ownBlock = none ∨ ∃ b, v.ownBlock = some b ∧ base ≤ b := by
  cases hv : v.ownBlock with
  | none => exact .inl rfl
  | some b => exact .inr ⟨b, rfl, qC h b hv⟩
theorem lC {w W : World} {g : Nat} {row : Option Nat} (h : bP w W g row) : w.heap.size ≤ W.heap.size := h.1
theorem cell_far {W : World} {p a : Addr} (h : a.block ≠ p.block) (u : Value) : (W.setCell p u).cell? a = W.cell? a := by
  have := Below.heap_setCell W p u a.block h
  simp [World.cell?, this]
theorem bU {w : World} {g : Nat} {t : TypeId} {cs cs' : Array Value} (h : w.heap[g]? = some (.cells cs t (0, 0))) (i : Nat) (u : Value) (e : cs.setIfInBounds i u = cs') : (w.setCell ⟨g, i, none⟩ u).heap[g]? = some (.cells cs' t (0, 0)) := e ▸ LD h i u
theorem Ar {w W : World} {g : Nat} {row : Option Nat} (h : bP w W g row) {p : Addr} (hp : w.heap.size ≤ p.block) (u : Value) : bP w (W.setCell p u) g row :=
  ⟨by simpa [World.setCell] using h.1, fun i hi hg hr => (Below.heap_setCell W p u i (by omega)).trans (h.2 i hi hg hr)⟩
theorem Aq {W : World} {base n c : Nat} {e : TypeId} {size g : Nat} {ad : Addr} {xs : List Value} (_ : W.ownsRow base e size (.slice (some ad) n c) n xs) (hne : some g ≠ (Value.slice (some ad) n c).ownBlock) : ad.block ≠ g := by
  rintro rfl
  exact hne (by simp [Value.ownBlock])
theorem lZ.ofRowC {k : IntKind} {w : World} {a : Option Addr} {len cap : Nat} {zs : List Int} (h : (a = none ∧ len = 0 ∧ cap = 0 ∧ zs = []) ∨ ∃ x, a = some x ∧ len ≤ cap ∧ cap ≤ maxLen ∧ zs.length = cap ∧ (∀ i, i < zs.length → w.cell? (x.add i) = some (.int k (zs.getD i 0))) ∧ ∀ n ∈ zs, (Lit.int k n).wf = true) :
    ∃ l : List Int, len = l.length ∧ lZ w k a l.length l ∧ l.length ≤ maxLen ∧ (∀ x ∈ l, (Lit.int k x).wf = true) ∧ l.length ≤ cap := by
  have hl : len ≤ cap := by
    rcases h with ⟨_, rfl, rfl, _⟩ | ⟨_, _, h, _⟩
    · exact Nat.le_refl _
    · exact h
  obtain ⟨l, e, h1, h2, h3⟩ := lZ.ofRow h
  exact ⟨l, e, h1, h2, h3, e ▸ hl⟩
theorem bG {base : Nat} {w W : World} (h : Below base w W) : Below base w W.drew := h.drew
theorem qc {w W : World} {g : Nat} {row : Option Nat} (h : bP w W g row) : bP w W.drew g row := h
namespace Kd
section
variable {α β : Type} {d : Kd α} {d' : Kd β} {e e' base base' n : Nat} {ok ok' : Nat → Prop} {w W w1 W1 : World} {v u : Value} {xs : List α} {ys : List β} {A : Option Addr} {c : Nat}
theorem Aq {ad : Addr} {g : Nat} (hne : some g ≠ (Value.slice (some ad) n c).ownBlock) : ad.block ≠ g := by
  rintro rfl
  exact hne (by simp [Value.ownBlock])
theorem TP (h : d.R e w base ok v xs) : v.ownBlock = none ∨ ∃ k, v.ownBlock = some k ∧ base ≤ k := by
  obtain ⟨inner, ho⟩ := I7 h
  exact own_base' ho
end
section
variable {α : Type} {enc : α → Value} {h1 : ∀ x, (enc x).oneCell' = true} {w W : World} {A : Option Addr} {n g : Nat} {xs : List α}
end
end Kd
namespace Kd
section
variable {α : Type} {d : Kd α} {e base g : Nat} {ok : Nat → Prop} {w w1 : World} {v : Value} {xs : List α} {o : Obj}
theorem QT (h : d.R e w1 w.heap.size ok v xs) (hb : w.heap[g]? = some o) : d.R e w1 w.heap.size (fun k => ok k ∧ k ≠ g) v xs := dN (mU h) (fun k hk => ⟨hk.1, by have := jL hb; have := hk.2.1; omega⟩)
theorem GJ (hb : w.heap[g]? = some o) : ∀ k, w.heap.size ≤ k → k ≠ g := fun k hk => by have := jL hb; omega
end
end Kd
section
variable {P : Program} {ops : Array Oper} {rest : List Oper} {o : Oper} {a : Act} {Q : Exit → Act → World → Prop}
theorem bq {W : World} (hgd : o.guard = none) {N : Tmp} (_hd : o.dst = some N) {cs : Array Value} {t : TypeId}
    (hrun : (execOp a.eval o).run P W = .ok (.value (.pointer (some ⟨W.heap.size, 0, none⟩))) (W.alloc (.cells cs t (0, 0))))
    (h : ∀ g, g = W.heap.size → ∀ w1, w1.heap[g]? = some (.cells cs t (0, 0)) → Below W.heap.size W w1 → wpList P ops Q rest (a.put o.dst (.pointer (some ⟨g, 0, none⟩))) w1) : wpList P ops Q (o :: rest) a W :=
  Kd.Di hgd hrun (h _ rfl _ (TG W _) (bY (Below.refl _ _) _))
end
namespace Kd
section
variable {α : Type} {enc : α → Value} {h1 : ∀ x, (enc x).oneCell' = true} {e base g n cap : Nat} {ok : Nat → Prop} {W : World} {xs : List α}
theorem LP (d : α) (h : (scalar enc h1).R e W base ok (.slice (some ⟨g, 0, none⟩) n cap) xs) (i : Int) (h0 : 0 ≤ i) (hi : i < n) : W.cell? ⟨g, i.toNat, none⟩ = some (enc (rdOf d xs i)) ∧ W.frozen? ⟨g, i.toNat, none⟩ = false := by
  obtain ⟨rfl, _⟩ := dP h
  exact R_cell d h i h0 hi
end
end Kd
section
variable {P : Program} {ops : Array Oper} {rest : List Oper} {o : Oper} {a : Act} {Q : Exit → Act → World → Prop}
theorem tK {W w1 : World} (hgd : o.guard = none) {t : TypeId} {p : Tmp} {v : Operand} (_ho : o.op = .store t (.tmp p) v) (hN : o.dst = none)
    (hrun : (execOp a.eval o).run P W = .ok .skip w1) (h : ∀ w', w' = w1 → wpList P ops Q rest a w') : wpList P ops Q (o :: rest) a W := by
  refine wpList_plain hgd fun K hK => ?_
  unfold Oper.wp
  rw [hrun]
  show K (a.put o.dst undef) w1
  rw [hN]
  exact hK _ _ (h _ rfl)
end
namespace Kd
section
variable {α : Type} {enc : α → Value} {h1 : ∀ x, (enc x).oneCell' = true} {e base g n cap : Nat} {ok : Nat → Prop} {W : World} {xs : List α}
theorem QS (h : (scalar enc h1).R e W base ok (.slice (some ⟨g, 0, none⟩) n cap) xs) (i : Int) (x : α) : (scalar enc h1).R e (W.setCell ⟨g, i.toNat, none⟩ (enc x)) base ok (.slice (some ⟨g, 0, none⟩) n cap) (xs.set i.toNat x) ∧ W.grownBy (W.setCell ⟨g, i.toNat, none⟩ (enc x)) (some g) := by
  obtain ⟨rfl, _⟩ := dP h
  exact R_put h i x
end
end Kd
section
variable {P : Program} {ops : Array Oper} {rest : List Oper} {o : Oper} {a : Act} {Q : Exit → Act → World → Prop} {W : World}
theorem bD {N : Tmp} (_hN : o.dst = some N) (h : wpList P ops Q (o :: rest) a W) : wpList P ops Q (o :: rest) a W := h
theorem wJ {t : TypeId} {p : Tmp} {v : Operand} (_ho : o.op = .store t (.tmp p) v) (h : wpList P ops Q (o :: rest) a W) : wpList P ops Q (o :: rest) a W := h
end
section
variable {P : Program} {ops : Array Oper} {o : Oper} {a : Act} {Q : Exit → Act → World → Prop} {Kc : Act → World → Prop}
theorem GK {W w1 : World} {v : Value} (hw : Region.wanted o (yielded ops a.tmps) = true) (hrun : (execOp a.eval o).run P W = .ok (.value v) w1) (h : Kc (a.put o.dst v) w1) : if Region.wanted o (yielded ops a.tmps) = true then Oper.wp P o a W Kc Q else Kc (a.put o.dst undef) W := by
  rw [if_pos hw]
  unfold Oper.wp
  rw [hrun]
  exact h
theorem NT {W : World} (hw : Region.wanted o (yielded ops a.tmps) = true) {N : Tmp} (_hd : o.dst = some N) {cs : Array Value} {t : TypeId}
    (hrun : (execOp a.eval o).run P W = .ok (.value (.pointer (some ⟨W.heap.size, 0, none⟩))) (W.alloc (.cells cs t (0, 0))))
    (h : ∀ g, g = W.heap.size → ∀ w1, w1.heap[g]? = some (.cells cs t (0, 0)) → Below W.heap.size W w1 → Kc (a.put o.dst (.pointer (some ⟨g, 0, none⟩))) w1) : if Region.wanted o (yielded ops a.tmps) = true then Oper.wp P o a W Kc Q else Kc (a.put o.dst undef) W :=
  GK hw hrun (h _ rfl _ (TG W _) (bY (Below.refl _ _) _))
namespace Kd
variable {α : Type}
theorem zX (d : Kd α) {w0 W : World} (base e : Nat) (hw : Region.wanted o (yielded ops a.tmps) = true) {N : Tmp} (_hd : o.dst = some N) {xs : List α} {inner : List Value} {ok okp : Nat → Prop}
    (hrun : (execOp a.eval o).run P W = .ok (.value (.slice (some ⟨W.heap.size, 0, none⟩) xs.length xs.length)) (W.alloc (.cells inner.toArray e)))
    (hrep : ig (d.M W base okp) d.sz xs inner) (hok : ∀ k, okp k → ok k) (hfresh : ok W.heap.size) (HB : Below base w0 W) (hbase : base ≤ W.heap.size) (hm : xs.length ≤ 9223372036854775807)
    (h : ∀ v1 w1, d.R e w1 base ok v1 xs → Below base w0 w1 → W.grownBy w1 none → (∃ b, v1.ownBlock = some b ∧ W.heap.size ≤ b) → Kc (a.put o.dst v1) w1) : if Region.wanted o (yielded ops a.tmps) = true then Oper.wp P o a W Kc Q else Kc (a.put o.dst undef) W := by
  refine GK hw hrun (h _ _ ⟨fun k hk => ?_, inner, ?_, ?_⟩ (HB.alloc hbase _) (World.grownBy_alloc W _ none) ⟨W.heap.size, by simp [Value.ownBlock], Nat.le_refl _⟩)
  · have : W.heap.size = k := by simpa [Value.ownBlock] using hk
    subst this
    exact hfresh
  · have h2 := World.ownsRow_lit (base := base) (e := e) (size := d.sz) W inner.toArray xs.length hbase (by simpa [maxLen] using hm) (by simpa using hrep.1)
    simpa using h2
  · refine hrep.wY (fun p c hp => d.iU (fun k hk => ⟨hok k hk.1, fun he => ?_⟩) (TS (d.ku hp) (bY (Below.refl _ _) _)))
    have h3 : k = W.heap.size := by simpa [Value.ownBlock] using he
    have := hk.2.2.1
    omega
theorem N9 (d : Kd α) {w0 W : World} (base e : Nat) (hw : Region.wanted o (yielded ops a.tmps) = true) {N : Tmp} (hd : o.dst = some N) (t : TypeId) (x y : Operand) (ho : o.op = .makeSlice t x y) (n : Int) (hx : a.eval x = .int .i64 n) (hy : a.eval y = .int .i64 n)
    (ht : P.underlying t = some (.slice e)) (z : Value) (bytes : Nat) (hinfo : (P.info? e).map (fun i => (i.zero, i.size, i.bytes)) = some (some z, d.sz, bytes)) (hz : z.cells.size = d.sz) (hs0 : 0 < d.sz) (hb0 : 0 < bytes)
    (z0 : α) {ok okp : Nat → Prop} (hzero : d.M W base okp z0 z.cells.toList) (hok : ∀ k, okp k → ok k) (hfresh : ok W.heap.size) (h0 : 0 ≤ n) (hl : n.toNat * bytes ≤ 281474976710656) (HB : Below base w0 W) (hbase : base ≤ W.heap.size)
    (h : ∀ v1 w1, d.R e w1 base ok v1 (List.replicate n.toNat z0) → Below base w0 w1 → W.grownBy w1 none → (∃ b, v1.ownBlock = some b ∧ W.heap.size ≤ b) → Kc (a.put o.dst v1) w1) : if Region.wanted o (yielded ops a.tmps) = true then Oper.wp P o a W Kc Q else Kc (a.put o.dst undef) W := by
  obtain ⟨m, rfl⟩ := Int.eq_ofNat_of_zero_le h0
  simp only [Int.toNat_natCast] at hl h
  obtain ⟨i0, hi, hzz⟩ := Option.map_eq_some_iff.1 hinfo
  simp only [Prod.mk.injEq] at hzz
  obtain ⟨hz0, hz1, hz2⟩ := hzz
  have hm : m ≤ 281474976710656 := Nat.le_trans (Nat.le_mul_of_pos_right _ hb0) hl
  have hr := run_make (P := P) W t e i0 z ht hi hz0 .i64 .i64 (m : Int) (m : Int) (by omega) (by omega)
    (by
      have h3 : ((i0.bytes * m : Nat) : Int) ≤ 281474976710656 := by rw [hz2, Nat.mul_comm]; omega
      rwa [Int.natCast_mul] at h3) (by omega)
  simp only [Int.toNat_natCast] at hr
  rw [hz1] at hr
  refine zX d base e hw hd (xs := List.replicate m z0) (inner := (madeCells z.cells (m * d.sz)).toList) (okp := okp) (ok := ok) ?_ (Iy hz hs0 hzero m) hok hfresh HB hbase (by simp; omega) h
  simp [execOp, ho, hx, hy, hr]
end Kd
end
section
variable {P : Program} {tmps : Array Value} {w : World}
end
namespace Kd
section
variable {P : Program} {α : Type}
theorem LM (d : Kd α) {W : World} (base : Nat) (t ty e : TypeId) (i : TypeInfo) (ht : P.underlying t = some (.slice e)) (hi : P.info? e = some i) (hsz : i.size = d.sz)
    {g n c k : Nat} {xs : List α} {ok : Nat → Prop} (HO : d.R e W base ok (.slice (some ⟨g, 0, none⟩) n c) xs) (hk : k < n) {A : Option Addr} (hA : A = if c = k + 1 then some ⟨g, 0, none⟩ else (some (⟨g, 0, none⟩ : Addr)).map (·.add ((k + 1) * d.sz))) (c2 : Nat) :
    ∃ w1, (Builtin.append_ #[t, t] ty #[.slice (some ⟨g, 0, none⟩) k c, .slice A (n - (k + 1)) c2]).run P W = .ok (.slice (some ⟨g, 0, none⟩) (n - 1) c) w1 ∧ d.R e w1 base ok (.slice (some ⟨g, 0, none⟩) (n - 1) c) (xs.eraseIdx k) ∧ W.grownBy w1 (some g) := by
  obtain ⟨hn, hnc, _⟩ := dP HO
  obtain ⟨hok, inner, hown, hr⟩ := HO
  have hin : inner.length = n * d.sz := by rw [hr.1, hn]
  rcases hown.2 with ⟨hv, _⟩ | ⟨g', cap', cur, hv, hb, hh, _, hcm, hcs, htake⟩
  · cases hv
  injection hv with ha _ hc
  injection ha with ha
  injection ha with hg
  subst hg; subst hc
  rw [← hn] at htake
  obtain ⟨news, hnews⟩ : ∃ news, news = inner.drop ((k + 1) * d.sz) := ⟨_, rfl⟩
  have hnl : news.length = (n - (k + 1)) * d.sz := by rw [hnews, List.length_drop, hin, Nat.sub_mul]
  have hle : (k + 1) * d.sz ≤ n * d.sz := Nat.mul_le_mul_right _ hk
  have hks : (k + 1) * d.sz = k * d.sz + d.sz := Nat.succ_mul _ _
  have hnc' : n * d.sz ≤ c * d.sz := Nat.mul_le_mul_right _ hnc
  have hsub : (n - (k + 1)) * d.sz = n * d.sz - (k + 1) * d.sz := Nat.sub_mul _ _ _
  have hcur : ∀ q, q < n * d.sz → cur.toList[q]? = inner[q]? := by
    intro q hq
    rw [← htake, List.getElem?_take, if_pos hq]
  obtain ⟨a, rfl, hcell⟩ : ∃ a, A = some a ∧ ∀ j u, news[j]? = some u → W.cell? (a.add j) = some u := by
    by_cases hck : c = k + 1
    · rw [if_pos hck] at hA
      refine ⟨_, hA, fun j u hu => ?_⟩
      have h0 : news = [] := List.eq_nil_of_length_eq_zero (by rw [hnl, show n - (k + 1) = 0 by omega, Nat.zero_mul])
      rw [h0] at hu
      simp at hu
    · rw [if_neg hck, Option.map_some] at hA
      refine ⟨_, hA, fun j u hu => ?_⟩
      have hj : j < news.length := (List.getElem?_eq_some_iff.1 hu).1
      rw [add_add, QM, cell_of_row W g _ cur e (0, 0) hh, ← Array.getElem?_toList]
      rw [hnews, List.getElem?_drop] at hu
      rw [← hu, Nat.zero_add]
      exact hcur _ (by omega)
  have hone : ∀ u ∈ news, u.oneCell' = true := by
    intro u hu
    have hu' : u ∈ inner := by rw [hnews] at hu; exact List.mem_of_mem_drop hu
    obtain ⟨q, hq, rfl⟩ := List.mem_iff_getElem.1 hu'
    have hs0 : 0 < d.sz := by
      rcases Nat.eq_zero_or_pos d.sz with h | h
      · rw [h, Nat.mul_zero] at hin; omega
      · exact h
    have hql : q / d.sz < xs.length := by
      rw [Nat.div_lt_iff_lt_mul hs0, ← hr.1]
      exact hq
    refine d.mX (d.j4 (hr.2 (q / d.sz) _ (List.getElem?_eq_getElem hql))) _ ?_
    rw [List.mem_iff_getElem?]
    refine ⟨q % d.sz, ?_⟩
    rw [List.getElem?_take, if_pos (Nat.mod_lt _ hs0), List.getElem?_drop, Nat.mul_comm, Nat.div_add_mod, List.getElem?_eq_getElem hq]
  have hfit : 0 + k * d.sz + news.length ≤ cur.size := by omega
  have hrun := run_append_room_cells (P := P) (w := W) t ty e i ht hi g 0 k c a (n - (k + 1)) c2 news (by rw [hnl, hsz]) hcell hone (by omega)
    (fun j hj => by rw [hsz, cell_of_row W g _ cur e (0, 0) hh]; simp; omega) (fun j _ => aj hh _)
  rw [hsz, show k + (n - (k + 1)) = n - 1 by omega] at hrun
  obtain ⟨cur', h3, h4, h5⟩ := vO news (0 + k * d.sz) W cur hh hfit
  obtain ⟨s1, s2, s3, s4⟩ := uH g news (0 + k * d.sz) W
  have UM : ∀ k', k' ≠ g → (W.setCells g (0 + k * d.sz) news).heap[k']? = W.heap[k']? := fun k' hk' => vP news _ k' hk'
  have hgo : ∀ m, some g = (Value.slice (some ⟨g, 0, none⟩) m c).ownBlock := fun m => by simp [Value.ownBlock]
  have hel : (xs.eraseIdx k).length = n - 1 := by rw [List.length_eraseIdx_of_lt (by omega), hn]
  refine ⟨_, hrun, ⟨fun k' hk' => hok k' (by rw [← hgo] at hk' ⊢; exact hk'), inner.take (k * d.sz) ++ news, ⟨?_, .inr ⟨g, c, cur', by rw [hel], hb, h3, by rw [hel]; omega, hcm, by rw [h4, hcs], ?_⟩⟩, ?_⟩, ⟨s1, s2, s3, by rw [s4]; exact Nat.le_refl _, fun k' _ hk' => UM k' (fun he => hk' (by rw [he]))⟩⟩
  · rw [List.length_append, List.length_take, hnl, hel]
    have : (n - 1) * d.sz = n * d.sz - d.sz := by rw [Nat.sub_mul, Nat.one_mul]
    omega
  · rw [hel, h5, Nat.zero_add]
    have h6 : (n - 1) * d.sz = n * d.sz - d.sz := by rw [Nat.sub_mul, Nat.one_mul]
    have h7 : cur.toList.take (k * d.sz) = inner.take (k * d.sz) := by
      rw [← htake, List.take_take, Nat.min_eq_left (by omega)]
    rw [h7]
    exact List.take_left' (by rw [List.length_append, List.length_take, hnl]; omega)
  · rw [List.eraseIdx_eq_take_drop_succ]
    have hmv : ∀ p q, d.M W base (fun k' => ok k' ∧ some k' ≠ (Value.slice (some ⟨g, 0, none⟩) n c).ownBlock) p q → d.M (W.setCells g (0 + k * d.sz) news) base (fun k' => ok k' ∧ some k' ≠ (Value.slice (some ⟨g, 0, none⟩) (n - 1) c).ownBlock) p q := fun p q hp =>
      d.iU (fun k' hk' => ⟨hk'.1, by rw [← hgo]; rw [← hgo] at hk'; exact hk'.2⟩) (d.lN (fun k' hk' => UM k' (fun he => hk'.2 (by rw [← hgo, he]))) hp)
    subst hnews
    exact Dr ((Iw hr (by omega)).wY hmv) ((Uw hr).wY hmv)
end
section
variable {P : Program} {ops : Array Oper} {rest : List Oper} {o : Oper} {a : Act} {Q : Exit → Act → World → Prop} {Kc : Act → World → Prop} {α : Type}
theorem Im (d : Kd α) {w0 W : World} (base : Nat) (hw : Region.wanted o (yielded ops a.tmps) = true) (s x : Operand) (t e : TypeId) (ho : o.op = .call { callee := .builtin .append, args := #[s, x], argTypes := #[t, t] })
    (ht : P.underlying t = some (.slice e)) (hinfo : (P.info? e).map (·.size) = some d.sz) {g n c k m c2 : Nat} {A : Option Addr} {xs : List α} {ok : Nat → Prop}
    (hs : a.eval s = .slice (some ⟨g, 0, none⟩) k c) (hx : a.eval x = .slice A m c2) (hA : A = if c = k + 1 then some ⟨g, 0, none⟩ else (some (⟨g, 0, none⟩ : Addr)).map (·.add ((k + 1) * d.sz))) (hm : m = n - (k + 1))
    (HO : d.R e W base ok (.slice (some ⟨g, 0, none⟩) n c) xs) (hk : k < n) (HB : Below base w0 W) (hbase : base ≤ W.heap.size)
    (h : ∀ w1, d.R e w1 base ok (.slice (some ⟨g, 0, none⟩) (n - 1) c) (xs.eraseIdx k) → Below base w0 w1 → W.grownBy w1 (some g) → Kc (a.put o.dst (.slice (some ⟨g, 0, none⟩) (n - 1) c)) w1) :
    if Region.wanted o (yielded ops a.tmps) = true then Oper.wp P o a W Kc Q else Kc (a.put o.dst undef) W := by
  obtain ⟨i0, hi, hsz⟩ := Option.map_eq_some_iff.1 hinfo
  subst hm
  obtain ⟨w1, hr, h1, h2⟩ := LM (P := P) d base t o.type e i0 ht hi hsz HO hk hA c2
  rw [if_pos hw]
  unfold Oper.wp execOp
  simp only [ho, resolve, invoke, builtin, Sem.run_bind, Sem.run_pure, Result.andThen_ok, List.map_toArray, List.map_cons, List.map_nil, hs, hx, hr]
  exact h w1 h1 (HB.grown h2 hbase (fun k hk => by injection hk with hk; subst hk; exact kP HO _ (by simp [Value.ownBlock]))) h2
end
end Kd
end Go.Proofs.YthicocmnefaioaaW.dw
namespace Go.Proofs.YthicocmnefaioaaW.jA
section
variable {P : Program} {ops : Array Oper} {Q : Exit → Act → World → Prop} {md : Region.Mode} {S : World → Prop} {ds : List Nat}
def Region.qK (md : Region.Mode) (ops : Array Oper) (i : Nat) : Nat → Nat → Bool
  | 0, _ => false
  | fuel + 1, d => match ops[d]? with
    | some o => o.after.any fun e => Region.binds md e && (e.on == i || Region.qK md ops i fuel e.on)
    | none => false
def Region.Cw (md : Region.Mode) (ops : Array Oper) (listed : Array Bool) : Bool :=
  (List.range ops.size).all fun j => !listed.getD j false || match ops[j]? with
    | some o => o.after.all fun e => !Region.binds md e || listed.getD e.on false
    | none => true
def Region.lastB (md : Region.Mode) (ops : Array Oper) (listed : Array Bool) (ds : List Nat) (i : Nat) : Bool :=
  ds.all fun d => listed.getD d true || Region.qK md ops i ops.size d
def mD (md : Region.Mode) (ops : Array Oper) (listed : Array Bool) : Prop :=
  ∀ j oj, ops[j]? = some oj → listed.getD j false = true → ∀ e ∈ oj.after, Region.binds md e = true → listed.getD e.on false = true
theorem Region.Lx {listed : Array Bool} (h : Region.Cw md ops listed = true) : mD md ops listed := by
  intro j oj hj hl e he hb
  have hlt : j < ops.size := (Array.getElem?_eq_some_iff.1 hj).1
  have h1 := List.all_eq_true.1 h j (List.mem_range.2 hlt)
  simp only [hl, hj, Bool.not_true, Bool.false_or] at h1
  have h2 := Array.all_eq_true_iff_forall_mem.1 h1 e he
  simpa [hb] using h2
theorem mD.set {listed : Array Bool} {i : Nat} (h : mD md ops listed) (hi : i ∈ Region.ready md ops listed) : mD md ops (listed.setIfInBounds i true) := by
  obtain ⟨_, oi, hoi, hall⟩ := mem_ready.1 hi
  intro j oj hj hl e he hb
  by_cases hij : i = j
  · subst hij
    have : oj = oi := Option.some.inj (hj.symm.trans hoi)
    subst this
    exact getD_set_true (hall e he hb)
  · rw [getD_set_ne false hij] at hl
    exact getD_set_true (h j oj hj hl e he hb)
theorem Region.Al {listed : Array Bool} {i : Nat} (hc : mD md ops listed) : ∀ (fuel d : Nat), Region.qK md ops i fuel d = true → listed.getD d false = true → listed.getD i false = true
  | 0, _, h, _ => by simp [Region.qK] at h
  | fuel + 1, d, h, hl => by
    unfold Region.qK at h
    cases ho : ops[d]? with
    | none => rw [ho] at h; simp at h
    | some o =>
      rw [ho] at h
      obtain ⟨e, he, h1⟩ := Array.any_eq_true'.1 h
      simp only [Bool.and_eq_true, Bool.or_eq_true, beq_iff_eq] at h1
      have hle := hc d o ho hl e he h1.1
      rcases h1.2 with h2 | h2
      · rw [← h2]; exact hle
      · exact Region.Al hc fuel e.on h2 hle
theorem Region.D5 {listed : Array Bool} {i d fuel : Nat} (hc : mD md ops listed) (hr : Region.qK md ops i fuel d = true) (hun : listed.getD i true = false) : d ∉ Region.ready md ops listed := by
  intro hd
  obtain ⟨_, o, ho, hall⟩ := mem_ready.1 hd
  have hi : listed.getD i false = true := by
    cases fuel with
    | zero => simp [Region.qK] at hr
    | succ n =>
      unfold Region.qK at hr
      rw [ho] at hr
      obtain ⟨e, he, h1⟩ := Array.any_eq_true'.1 hr
      simp only [Bool.and_eq_true, Bool.or_eq_true, beq_iff_eq] at h1
      have hle := hall e he h1.1
      rcases h1.2 with h2 | h2
      · rw [← h2]; exact hle
      · exact Region.Al hc n e.on h2 hle
  rcases Nat.lt_or_ge i listed.size with h' | h'
  · simp [h'] at hun hi
    rw [hun] at hi
    cases hi
  · simp [Array.getElem?_eq_none h'] at hun
def eF (P : Program) (md : Region.Mode) (ops : Array Oper) (Q : Exit → Act → World → Prop) (S : World → Prop) (ds : List Nat) : Nat → Array Bool → Act → World → Prop
  | 0, listed, a, w => Region.ready md ops listed = [] ∧ Q .normal a w
  | fuel + 1, listed, a, w =>
    (Region.ready md ops listed = [] → Q .normal a w) ∧
    ∀ i ∈ Region.ready md ops listed, wpOp P ops Q i (fun a' w' => (i ∉ ds → S w → S w') ∧ eF P md ops Q S ds fuel (listed.setIfInBounds i true) a' w') a w
theorem zG : ∀ (fuel : Nat) (listed : Array Bool) (a : Act) (w : World), eF P md ops Q S ds fuel listed a w → wpAny P md ops Q fuel listed a w
  | 0, _, _, _, h => h
  | fuel + 1, _, _, _, h => ⟨h.1, fun i hi => wpOp_mono (fun a' w' h' => zG fuel _ a' w' h'.2) (h.2 i hi)⟩
theorem DW {i : Nat} {oi : Oper} {v : Value} (hi : ops[i]? = some oi) (hsel : ∀ (j : Nat) (o : Oper) cs b, ops[j]? = some o → o.op ≠ .select cs b)
    (hQ : ∀ c a w, Q (.panic c) (a.put oi.dst v) w → Q (.panic c) a w) (n : Nat) :
    ∀ (fuel : Nat) (listed : Array Bool) (a : Act) (w : World),
      (∀ j oj, ops[j]? = some oj → j ≠ i → listed.getD j true = false → (∀ e ∈ oj.after, Region.binds md e = true → e.on ≠ i) → oi.apart ops oj = true) →
      mD md ops listed → (∀ d ∈ ds, listed.getD d true = false → Region.qK md ops i n d = true) →
      i ∈ Region.ready md ops listed → YieldsIf P ops S oi v a → S w →
      eF P md ops Q S ds fuel (listed.setIfInBounds i true) (a.put oi.dst v) w → eF P md ops Q S ds (fuel + 1) listed a w := by
  intro fuel
  induction fuel with
  | zero =>
    intro listed a w _ _ _ hr hy hS H
    refine ⟨fun h => (by rw [h] at hr; cases hr), fun j hj => ?_⟩
    by_cases hji : j = i
    · subst hji; exact hy.wpOp hi hS ⟨fun _ h => h, H⟩
    · have := ready_mono hj hji
      rw [H.1] at this
      cases this
  | succ fuel ih =>
    intro listed a w hfree hc hd hr hy hS H
    refine ⟨fun h => (by rw [h] at hr; cases hr), fun j hj => ?_⟩
    by_cases hji : j = i
    · subst hji; exact hy.wpOp hi hS ⟨fun _ h => h, H⟩
    · have h1 := H.2 j (ready_mono hj hji)
      obtain ⟨hjun, oj, hoj, hall⟩ := mem_ready.1 hj
      have UL := (mem_ready.1 hr).1
      have hnot : ∀ e ∈ oj.after, Region.binds md e = true → e.on ≠ i := fun e he hb heq => by
        have h1 := hall e he hb
        rw [heq] at h1
        rcases Nat.lt_or_ge i listed.size with h' | h'
        · simp [h'] at UL h1; rw [UL] at h1; cases h1
        · simp [Array.getElem?_eq_none h'] at h1
      have hjd : j ∉ ds := fun hm => Region.D5 hc (hd j hm hjun) UL hj
      have h2 := wpOp_putIf hoj (hfree j oj hoj hji hjun hnot) (fun cs b => hsel i oi cs b hi) (fun cs b => hsel j oj cs b hoj) hQ hy h1
      have hfree' : ∀ k ok, ops[k]? = some ok → k ≠ i → (listed.setIfInBounds j true).getD k true = false →
          (∀ e ∈ ok.after, Region.binds md e = true → e.on ≠ i) → oi.apart ops ok = true := fun k ok hk hki hun hno => by
        refine hfree k ok hk hki ?_ hno
        by_cases hjk : j = k
        · subst hjk; exact hjun
        · rw [getD_set_ne true hjk] at hun; exact hun
      have hd' : ∀ d ∈ ds, (listed.setIfInBounds j true).getD d true = false → Region.qK md ops i n d = true := fun d hm hun => by
        refine hd d hm ?_
        by_cases hjk : j = d
        · subst hjk; exact hjun
        · rw [getD_set_ne true hjk] at hun; exact hun
      refine wpOp_mono (fun a' w' h3 => ⟨h3.2.1, ih (listed.setIfInBounds j true) a' w' hfree' (hc.set hj) hd' (ready_mono hr (Ne.symm hji)) h3.1 (h3.2.1 hjd hS) ?_⟩) h2
      rw [Array.setIfInBounds_comm _ _ hji]
      exact h3.2.2
theorem Ib {i : Nat} {oi : Oper} {v : Value} (hi : ops[i]? = some oi) (hsel : ∀ (j : Nat) (o : Oper) cs b, ops[j]? = some o → o.op ≠ .select cs b)
    (hQ : ∀ c a w, Q (.panic c) (a.put oi.dst v) w → Q (.panic c) a w) :
    ∀ (fuel : Nat) (listed : Array Bool) (a : Act) (w : World),
      (∀ j oj, ops[j]? = some oj → j ≠ i → listed.getD j true = false → (∀ e ∈ oj.after, Region.binds md e = true → e.on ≠ i) → oi.apart ops oj = true) →
      i ∈ Region.ready md ops listed → Yields P ops oi v a →
      eF P md ops Q S ds fuel (listed.setIfInBounds i true) (a.put oi.dst v) w → eF P md ops Q S ds (fuel + 1) listed a w := by
  intro fuel
  induction fuel with
  | zero =>
    intro listed a w _ hr hy H
    refine ⟨fun h => (by rw [h] at hr; cases hr), fun j hj => ?_⟩
    by_cases hji : j = i
    · subst hji; exact (hy.yieldsIf (S := fun _ => True)).wpOp hi trivial ⟨fun _ h => h, H⟩
    · have := ready_mono hj hji
      rw [H.1] at this
      cases this
  | succ fuel ih =>
    intro listed a w hfree hr hy H
    refine ⟨fun h => (by rw [h] at hr; cases hr), fun j hj => ?_⟩
    by_cases hji : j = i
    · subst hji; exact (hy.yieldsIf (S := fun _ => True)).wpOp hi trivial ⟨fun _ h => h, H⟩
    · have h1 := H.2 j (ready_mono hj hji)
      obtain ⟨hjun, oj, hoj, hall⟩ := mem_ready.1 hj
      have UL := (mem_ready.1 hr).1
      have hnot : ∀ e ∈ oj.after, Region.binds md e = true → e.on ≠ i := fun e he hb heq => by
        have h1 := hall e he hb
        rw [heq] at h1
        rcases Nat.lt_or_ge i listed.size with h' | h'
        · simp [h'] at UL h1; rw [UL] at h1; cases h1
        · simp [Array.getElem?_eq_none h'] at h1
      have h2 := wpOp_put hoj (hfree j oj hoj hji hjun hnot) (fun cs b => hsel i oi cs b hi) (fun cs b => hsel j oj cs b hoj) hQ hy h1
      have hfree' : ∀ k ok, ops[k]? = some ok → k ≠ i → (listed.setIfInBounds j true).getD k true = false →
          (∀ e ∈ ok.after, Region.binds md e = true → e.on ≠ i) → oi.apart ops ok = true := fun k ok hk hki hun hno => by
        refine hfree k ok hk hki ?_ hno
        by_cases hjk : j = k
        · subst hjk; exact hjun
        · rw [getD_set_ne true hjk] at hun; exact hun
      refine wpOp_mono (fun a' w' h3 => ⟨h3.2.1, ih (listed.setIfInBounds j true) a' w' hfree' (ready_mono hr (Ne.symm hji)) h3.1 ?_⟩) h2
      rw [Array.setIfInBounds_comm _ _ hji]
      exact h3.2.2
theorem FW {i : Nat} {oi : Oper} {v : Value} {fuel : Nat} {listed : Array Bool} {a : Act} {w : World} (hi : ops[i]? = some oi)
    (hs : Region.noSelect ops = true) (hf : Region.free md ops listed i = true) (hr : (Region.ready md ops listed).contains i = true)
    (hc : Region.Cw md ops listed = true) (hl : Region.lastB md ops listed ds i = true)
    (hQ : ∀ c a w, Q (.panic c) (a.put oi.dst v) w → Q (.panic c) a w) (hy : YieldsIf P ops S oi v a) (hS : S w)
    (h : eF P md ops Q S ds fuel (listed.setIfInBounds i true) (a.put oi.dst v) w) : eF P md ops Q S ds (fuel + 1) listed a w :=
  DW hi (Region.noSelect_spec hs) hQ ops.size fuel listed a w (Region.free_spec hi hf) (Region.Lx hc)
    (fun d hm hun => by have := List.all_eq_true.1 hl d hm; rw [hun] at this; simpa using this) (by simpa using hr) hy hS h
theorem Ic {rs : List Nat} {fuel : Nat} {listed : Array Bool} {a : Act} {w : World} (hr : Region.ready md ops listed = rs) (hne : rs ≠ [])
    (h : ∀ i ∈ rs, wpOp P ops Q i (fun a' w' => (i ∉ ds → S w → S w') ∧ eF P md ops Q S ds fuel (listed.setIfInBounds i true) a' w') a w) : eF P md ops Q S ds (fuel + 1) listed a w :=
  ⟨fun h0 => absurd (hr ▸ h0) hne, hr ▸ h⟩
theorem FX {listed : Array Bool} {a : Act} {w : World} (hr : Region.ready md ops listed = []) (h : Q .normal a w) :
    ∀ fuel, eF P md ops Q S ds fuel listed a w
  | 0 => ⟨hr, h⟩
  | _ + 1 => ⟨fun _ => h, by rw [hr]; simp⟩
theorem FV {id : Nat} {a : Act} {w : World} (hm : P.follows .mixedOrders = true)
    (h : eF P .any ops Q S ds ops.size (Array.replicate ops.size false) a { w with drawn := w.drawn + 1 }) : (Code.region id ops true).wp P Q a w :=
  wp_region_any hm (zG _ _ _ _ h)
end
section
variable {P : Program} {ops : Array Oper} {Q : Exit → Act → World → Prop} {md : Region.Mode} {S : World → Prop} {ds : List Nat}
def kR (P : Program) (md : Region.Mode) (ops : Array Oper) (Q : Exit → Act → World → Prop) (S : World → Prop) (ds : List Nat) (fuel : Nat) (listed : Array Bool) (a : Act) (w : World) (rs : List Nat) : Prop :=
  ∀ i ∈ rs, wpOp P ops Q i (fun a' w' => (i ∉ ds → S w → S w') ∧ eF P md ops Q S ds fuel (listed.setIfInBounds i true) a' w') a w
theorem kR.nil {fuel : Nat} {listed : Array Bool} {a : Act} {w : World} : kR P md ops Q S ds fuel listed a w [] := fun _ h => by cases h
theorem kR.cons {fuel : Nat} {listed : Array Bool} {a : Act} {w : World} {i : Nat} {o : Oper} {rs : List Nat} (ho : ops[i]? = some o) (hd : i ∉ ds)
    (h : ∀ K' : Act → World → Prop, Shut (∀ a w, S w → (S w → eF P md ops Q S ds fuel (listed.setIfInBounds i true) a w) → K' a w) → if Region.wanted o (yielded ops a.tmps) = true then Oper.wp P o a w K' Q else K' (a.put o.dst undef) w)
    (hs : kR P md ops Q S ds fuel listed a w rs) : kR P md ops Q S ds fuel listed a w (i :: rs) := fun j hj => by
  rcases List.mem_cons.1 hj with rfl | hj
  · exact wpOp_step ho (fun K' hK => h K' (fun a w hS hW => hK a w ⟨fun _ _ => hS, hW hS⟩))
  · exact hs j hj
theorem kR.UR {fuel : Nat} {listed : Array Bool} {a : Act} {w : World} {i : Nat} {o : Oper} {rs : List Nat} (ho : ops[i]? = some o) (hd : i ∈ ds)
    (h : ∀ K' : Act → World → Prop, Shut (∀ a w, eF P md ops Q S ds fuel (listed.setIfInBounds i true) a w → K' a w) → if Region.wanted o (yielded ops a.tmps) = true then Oper.wp P o a w K' Q else K' (a.put o.dst undef) w)
    (hs : kR P md ops Q S ds fuel listed a w rs) : kR P md ops Q S ds fuel listed a w (i :: rs) := fun j hj => by
  rcases List.mem_cons.1 hj with rfl | hj
  · exact wpOp_step ho (fun K' hK => h K' (fun a w hW => hK a w ⟨fun hn => absurd hd hn, hW⟩))
  · exact hs j hj
theorem wR {rs : List Nat} {fuel : Nat} {listed : Array Bool} {a : Act} {w : World} (hr : Region.ready md ops listed = rs) (hne : rs ≠ [])
    (h : kR P md ops Q S ds fuel listed a w rs) : eF P md ops Q S ds (fuel + 1) listed a w := Ic hr hne h
theorem jd {id n : Nat} {a : Act} {w : World} (l : Array Bool) (hm : P.follows .mixedOrders = true) (hn : ops.size = n) (hl : Array.replicate n false = l) (hS : S w.drew)
    (h : S w.drew → eF P .any ops Q S ds n l a w.drew) : (Code.region id ops true).wp P Q a w := by
  subst hn
  subst hl
  exact FV hm (h hS)
def takeB (md : Region.Mode) (ops : Array Oper) (ds : List Nat) (l l' : Array Bool) (i : Nat) : Bool :=
  Region.noSelect ops && Region.free md ops l i && (Region.ready md ops l).contains i && Region.Cw md ops l && Region.lastB md ops l ds i && (l.setIfInBounds i true == l')
theorem nk {i : Nat} {N : Option Tmp} {oi : Oper} {v : Value} {fuel : Nat} {l : Array Bool} {a : Act} {w : World} (l' : Array Bool) (hi : ops[i]? = some oi) (hN : oi.dst = N) (hc : takeB md ops ds l l' i = true)
    (hQ : ∀ c a w, Q (.panic c) (a.put oi.dst v) w → Q (.panic c) a w) (hy : YieldsIf P ops S oi v a) (hS : S w) {a' : Act} (ha : a.put N v = a')
    (h : eF P md ops Q S ds fuel l' a' w) : eF P md ops Q S ds (fuel + 1) l a w := by
  subst ha
  subst hN
  simp only [takeB, Bool.and_eq_true, beq_iff_eq] at hc
  obtain ⟨⟨⟨⟨⟨h1, h2⟩, h3⟩, h4⟩, h5⟩, h6⟩ := hc
  subst h6
  exact FW hi h1 h2 h3 h4 h5 hQ hy hS h
def anyB (md : Region.Mode) (ops : Array Oper) (l l' : Array Bool) (i : Nat) : Bool :=
  Region.noSelect ops && Region.free md ops l i && (Region.ready md ops l).contains i && (l.setIfInBounds i true == l')
theorem Dv {i : Nat} {N : Option Tmp} {oi : Oper} {v : Value} {fuel : Nat} {l : Array Bool} {a : Act} {w : World} (l' : Array Bool) (hi : ops[i]? = some oi) (hN : oi.dst = N) (hc : anyB md ops l l' i = true)
    (hQ : ∀ c a w, Q (.panic c) (a.put oi.dst v) w → Q (.panic c) a w) (hy : Yields P ops oi v a) {a' : Act} (ha : a.put N v = a')
    (h : eF P md ops Q S ds fuel l' a' w) : eF P md ops Q S ds (fuel + 1) l a w := by
  subst ha
  subst hN
  simp only [anyB, Bool.and_eq_true, beq_iff_eq] at hc
  obtain ⟨⟨⟨h1, h2⟩, h3⟩, h6⟩ := hc
  subst h6
  exact Ib hi (Region.noSelect_spec h1) hQ fuel l a w (Region.free_spec hi h2) (by simpa using h3) hy h
def CW (md : Region.Mode) (ops : Array Oper) (l l' : Array Bool) (i : Nat) : Bool := (Region.ready md ops l == [i]) && (l.setIfInBounds i true == l')
theorem qO {i : Nat} {N : Option Tmp} {oi : Oper} {fuel : Nat} {l : Array Bool} {a : Act} {w : World} (l' : Array Bool) (hi : ops[i]? = some oi) (hN : oi.dst = N) (hc : CW md ops l l' i = true) (hd : i ∉ ds)
    (h : ∀ K : Act → World → Prop, Shut (∀ a' w', S w' → (S w' → eF P md ops Q S ds fuel l' a' w') → K a' w') → if Region.wanted oi (yielded ops a.tmps) = true then Oper.wp P oi a w K Q else K (a.put N undef) w) :
    eF P md ops Q S ds (fuel + 1) l a w := by
  subst hN
  simp only [CW, Bool.and_eq_true, beq_iff_eq] at hc
  obtain ⟨h1, h2⟩ := hc
  subst h2
  exact wR h1 (by simp) (kR.cons hi hd (fun K hK => h K hK) kR.nil)
theorem pY {i : Nat} {N : Option Tmp} {oi : Oper} {fuel : Nat} {l : Array Bool} {a : Act} {w : World} (l' : Array Bool) (hi : ops[i]? = some oi) (hN : oi.dst = N) (hc : CW md ops l l' i = true) (hd : i ∈ ds)
    (h : ∀ K : Act → World → Prop, Shut (∀ a' w', eF P md ops Q S ds fuel l' a' w' → K a' w') → if Region.wanted oi (yielded ops a.tmps) = true then Oper.wp P oi a w K Q else K (a.put N undef) w) :
    eF P md ops Q S ds (fuel + 1) l a w := by
  subst hN
  simp only [CW, Bool.and_eq_true, beq_iff_eq] at hc
  obtain ⟨h1, h2⟩ := hc
  subst h2
  exact wR h1 (by simp) (kR.UR hi hd (fun K hK => h K hK) kR.nil)
theorem kJ {l : Array Bool} {a : Act} {w : World} {n : Nat} (hr : (Region.ready md ops l == []) = true) (h : Q .normal a w) : eF P md ops Q S ds n l a w := FX (by simpa using hr) h n
theorem iV {fuel : Nat} {l : Array Bool} {a a' : Act} {w : World} (ha : a = a') (h : eF P md ops Q S ds fuel l a' w) : eF P md ops Q S ds fuel l a w := by
  subst ha
  exact h
theorem call_ {oi : Oper} {N : Option Tmp} {a : Act} {w : World} {K : Act → World → Prop} (f : FuncId) (args : Array Value) (hw : Region.wanted oi (yielded ops a.tmps) = true) (hN : oi.dst = N) (hrun : (execOp a.eval oi).run P w = .ok (.enter f args) w)
    (h : Calls P f args w fun e w' => ∃ v, e = .returned v ∧ K (a.put N v) w') : if Region.wanted oi (yielded ops a.tmps) = true then Oper.wp P oi a w K Q else K (a.put N undef) w := by
  rw [if_pos hw]
  subst hN
  unfold Oper.wp
  rw [hrun, Oper.upon_enter]
  refine h.mono fun e w'' hh => ?_
  obtain ⟨v, rfl, hk⟩ := hh
  exact hk
theorem Tk {f : FuncId} {fn : Func} (hf : P.funcs[f]? = some fn) (hname : (fn.name == "runtime.NumGoroutine") = false) (hb : fn.body.isSome = true) (args : Array Value) (w : World) : (callFunc f args).run P w = .ok (.enter f args) w := by
  have h1 : fn.name ≠ "runtime.NumGoroutine" := by simpa using hname
  obtain ⟨c, hc⟩ := Option.isSome_iff_exists.1 hb
  simp [callFunc, hf, h1, hc]
theorem iT {oi : Oper} {N : Option Tmp} {a : Act} {w : World} {K : Act → World → Prop} {f : FuncId} {fn : Func} {as : Array Operand} {ts : Array TypeId} (hf : P.funcs[f]? = some fn) (hname : (fn.name == "runtime.NumGoroutine") = false) (hb : fn.body.isSome = true) (args : Array Value)
    (hw : Region.wanted oi (yielded ops a.tmps) = true) (hN : oi.dst = N) (hop : oi.op = .call { callee := .value (.func f), args := as, argTypes := ts }) (hargs : as.map a.eval = args)
    (h : Calls P f args w fun e w' => ∃ v, e = .returned v ∧ K (a.put N v) w') : if Region.wanted oi (yielded ops a.tmps) = true then Oper.wp P oi a w K Q else K (a.put N undef) w := by
  refine call_ f args hw hN ?_ h
  have he := Tk hf hname hb args w
  unfold execOp
  simp [hop, resolve, Deferred.ofValue, invoke, Act.eval, hargs, he]
theorem cu {rest : List Oper} {oi : Oper} {a : Act} {w : World} (N : Option Tmp) (hd : oi.dst = N) (hg : oi.guard = none) {f : FuncId} {fn : Func} {as : Array Operand} {ts : Array TypeId} (hf : P.funcs[f]? = some fn) (hname : (fn.name == "runtime.NumGoroutine") = false) (hb : fn.body.isSome = true) (args : Array Value)
    (hop : oi.op = .call { callee := .value (.func f), args := as, argTypes := ts }) (hargs : as.map a.eval = args)
    (h : Calls P f args w fun e w' => ∃ v, e = .returned v ∧ wpList P ops Q rest (a.put N v) w') : wpList P ops Q (oi :: rest) a w := by
  refine wpList_plain hg fun K hK => ?_
  have he := Tk hf hname hb args w
  have hrun : (execOp a.eval oi).run P w = .ok (.enter f args) w := by
    unfold execOp
    simp [hop, resolve, Deferred.ofValue, invoke, Act.eval, hargs, he]
  unfold Oper.wp
  rw [hrun, Oper.upon_enter]
  refine h.mono fun e w'' hh => ?_
  obtain ⟨v, rfl, hk⟩ := hh
  subst hd
  exact hK _ _ hk
theorem qJ {oi : Oper} {N : Option Tmp} {a : Act} {w w1 : World} {v : Value} {K : Act → World → Prop} (hw : Region.wanted oi (yielded ops a.tmps) = true) (hN : oi.dst = N) (hrun : (execOp a.eval oi).run P w = .ok (.value v) w1)
    (h : K (a.put N v) w1) : if Region.wanted oi (yielded ops a.tmps) = true then Oper.wp P oi a w K Q else K (a.put N undef) w := by
  rw [if_pos hw]
  subst hN
  unfold Oper.wp
  rw [hrun]
  exact h
theorem nR {oi : Oper} {a : Act} {w w1 : World} {K : Act → World → Prop} (hw : Region.wanted oi (yielded ops a.tmps) = true) (hN : oi.dst = none) (hrun : (execOp a.eval oi).run P w = .ok .skip w1)
    (h : K a w1) : if Region.wanted oi (yielded ops a.tmps) = true then Oper.wp P oi a w K Q else K (a.put none undef) w := by
  rw [if_pos hw]
  unfold Oper.wp
  rw [hrun]
  show K (a.put oi.dst undef) w1
  rw [hN]
  exact h
theorem dJ (n : Int) : IntKind.i64.wrap n = Go.RowKit.wrap64 n := by unfold Go.RowKit.wrap64; exact IntKind.wrap_i64 n
theorem eu (n : Int) : IntKind.i32.wrap n = Go.RowKit.wrap32 n := by unfold Go.RowKit.wrap32; exact IntKind.wrap_i32 n
end
end Go.Proofs.YthicocmnefaioaaW.jA
namespace Go.Proofs.YthicocmnefaioaaW.dw
open Go.RowKit
namespace Kd
def tag {α : Type} (f : Nat → Nat) (d : Kd α) : Kd (α × Nat) where
  sz := d.sz
  E := d.E
  K := fun w x cs => d.K w x.1 cs
  M := fun w base ok x cs => d.M w base (fun k => ok k ∧ f k = x.2) x.1 cs
  nP := fun h => d.nP h
  mX := fun h => d.mX h
  mY := fun hb h => d.mY hb h
  j4 := fun h => d.j4 h
  iU := fun hok h => d.iU (fun k hk => ⟨hok k hk.1, hk.2⟩) h
  ku := fun h => d.iU (fun _ hk => ⟨⟨hk.1.1, hk.2⟩, hk.1.2⟩) (d.ku h)
  lN := fun hm h => d.lN (fun k hk => hm k hk.1) h
  mW := fun hb h => d.mW hb h
def raw (sz : Nat) : Kd (List Value) where
  sz := sz
  E := []
  K := fun _ x cs => cs = x ∧ cs.length = sz ∧ ∀ u ∈ cs, u.oneCell' = true
  M := fun _ _ _ x cs => cs = x ∧ cs.length = sz ∧ ∀ u ∈ cs, u.oneCell' = true
  nP := fun h => h.2.1
  mX := fun h => h.2.2
  mY := fun _ h => h
  j4 := fun h => h
  iU := fun _ h => h
  ku := fun h => h
  lN := fun _ h => h
  mW := fun _ h => h
def S {α : Type} (d : Kd α) (e : Nat) (w : World) (base : Nat) (ok : Nat → Prop) (v : Value) (xs : List α) : Prop := ∃ f, (tag f d).R e w base ok v xs.zipIdx
section
variable {α β : Type} {d : Kd α} {d' : Kd β} {e e' : Nat} {w w1 W : World} {base b : Nat} {ok ok' okv oku : Nat → Prop} {u v : Value} {xs : List α} {ys : List β}
theorem xu {xs : List α} {j : Nat} {p : α} (h : xs[j]? = some p) : xs.zipIdx[j]? = some (p, j) := by rw [List.getElem?_zipIdx, h, Nat.zero_add]; rfl
theorem S_R (h : S d e w base ok v xs) : d.R e w base ok v xs := by
  obtain ⟨f, h0, inner, ho, hr⟩ := h
  rw [List.length_zipIdx] at ho
  exact ⟨h0, inner, ho, by have := hr.1; rw [List.length_zipIdx] at this; exact this, fun j p hj => d.iU (fun _ hk => hk.1) (hr.2 j (p, j) (xu hj))⟩
theorem WU {ad : Addr} {n cap : Nat} (h : d.R e w base ok (.slice (some ad) n cap) xs) : ∃ g, ad = ⟨g, 0, none⟩ := by
  obtain ⟨_, inner, ho, hr⟩ := h
  rcases ho.2 with ⟨hv, _⟩ | ⟨g, cap', cur, hv, _⟩
  · cases hv
  · injection hv with ha _ _
    injection ha with ha
    exact ⟨g, ha⟩
theorem R_getA {ad : Addr} {n cap : Nat} (h : d.R e W base ok (.slice (some ad) n cap) xs) (z : α) (i : Int) (h0 : 0 ≤ i) (h1 : i < n) :
    ∃ c, c.length = d.sz ∧ d.M W base (fun k => ok k ∧ some k ≠ (Value.slice (some ad) n cap).ownBlock) (xs.getD i.toNat z) c ∧ ∀ j u, c[j]? = some u → W.cell? (ad.add (i.toNat * d.sz + j)) = some u := by
  obtain ⟨g, rfl⟩ := WU h
  obtain ⟨c, hcl, hM, hcc, _⟩ := QU h z i h0 h1
  refine ⟨c, hcl, d.iU (fun k hk => ⟨hk.1, fun he => hk.2 (by simpa [Value.ownBlock] using he)⟩) hM, fun j u hu => ?_⟩
  rw [QM, Nat.zero_add]
  exact hcc j u hu
theorem rU (hE : d.E = []) (h : d.R e w base ok v xs) : d.R e w base (fun k => some k = v.ownBlock) v xs := by
  obtain ⟨h0, inner, ho, hr⟩ := h
  refine ⟨fun k hk => hk.symm, inner, ho, hr.wY (fun p c hp => d.iU (fun k hk => ?_) (d.ku hp))⟩
  obtain ⟨_, _, _, q, hq, _⟩ := hk
  rw [hE] at hq
  cases hq
theorem S_nil (d : Kd α) (e : Nat) (w : World) (base : Nat) (ok : Nat → Prop) : S d e w base ok (.slice none 0 0) [] := ⟨fun _ => 0, Ho _ _ _ _ _⟩
theorem uQ (h : S d e w base ok v xs) (hok : ∀ k, ok k → ok' k) : S d e w base ok' v xs := by
  obtain ⟨f, h⟩ := h
  exact ⟨f, dN h hok⟩
theorem TL (h : S d e w base ok v xs) : S d e w base (fun k => ok k ∧ base ≤ k ∧ k < w.heap.size ∧ ∃ q, q ∈ e :: d.E ∧ ∃ cells, w.heap[k]? = some (.cells cells q (0, 0))) v xs := by
  obtain ⟨f, h⟩ := h
  exact ⟨f, mU h⟩
theorem S_move (h : S d e w base ok v xs) (hm : ∀ k, ok k → w1.heap[k]? = w.heap[k]?) : S d e w1 base ok v xs := by
  obtain ⟨f, h⟩ := h
  exact ⟨f, zV h hm⟩
theorem aai {base' : Nat} (h : S d e w base ok v xs) (hb : base' ≤ base) : S d e w base' ok v xs := by
  obtain ⟨f, h⟩ := h
  exact ⟨f, jv h hb⟩
theorem WO (h : S d e w base ok v xs) (hm : ∀ k, ok k → k < w.heap.size → w1.heap[k]? = w.heap[k]?) : S d e w1 base ok v xs :=
  uQ (S_move (TL h) (fun k hk => hm k hk.1 hk.2.2.1)) (fun _ hk => hk.1)
theorem TM (h : S d e w base ok v xs) (hb : Below w.heap.size w w1) : S d e w1 base ok v xs := WO h (fun k _ hk => hb.block k hk)
theorem WQ (h : S d e w base ok v xs) {g : Nat} (hk : bP w w1 g none) (hok : ∀ k, ok k → k ≠ g) : S d e w1 base ok v xs := WO h (fun k ho hlt => hk.2 k hlt (hok k ho) (by simp))
theorem aah (h : S d e w base ok v xs) {g t : Nat} {cells : Array Value} (hb : w.heap[g]? = some (.cells cells t (0, 0))) (ht : ∀ q, q ∈ e :: d.E → q ≠ t) : S d e w base (fun k => ok k ∧ k ≠ g) v xs := by
  obtain ⟨f, h⟩ := h
  exact ⟨f, lJ h hb ht⟩
theorem LJ (h : S d e w base ok v xs) : ∀ k, v.ownBlock = some k → ∃ cells, w.heap[k]? = some (.cells cells e (0, 0)) := rT (S_R h)
theorem aaj {v1 : Value} (h : S d e W base (fun k => ok k ∧ some k ≠ v.ownBlock) u xs) (hg : W.grownBy w1 v.ownBlock) (hat : v1.ownBlock = v.ownBlock ∨ ∃ b, v1.ownBlock = some b ∧ W.heap.size ≤ b) : S d e w1 base (fun k => ok k ∧ some k ≠ v1.ownBlock) u xs := by
  obtain ⟨f, h⟩ := h
  exact ⟨f, FL h hg hat⟩
theorem R_tag {f f' : Nat → Nat} {zs : List (α × Nat)} (h : (tag f d).R e w base ok v zs) (hf : ∀ k, ok k → k < w.heap.size → f' k = f k) : (tag f' d).R e w base ok v zs := by
  obtain ⟨h0, inner, ho, hr⟩ := mU h
  exact ⟨fun k hk => (h0 k hk).1, inner, ho, hr.1, fun j p hj => d.iU (fun k hk => ⟨⟨hk.1.1.1, hk.1.2⟩, (hf k hk.1.1.1 hk.1.1.2.2.1).trans hk.2⟩) (hr.2 j p hj)⟩
end
section
variable {α β : Type} {d : Kd α} {d' : Kd β} {e e' g : Nat} {w w1 W : World} {base b : Nat} {ok ok' okv oku : Nat → Prop} {u v : Value} {xs : List α} {ys : List β}
theorem S_ne (h : S d e w base ok v xs) {t : Nat} {cells : Array Value} (hb : w.heap[g]? = some (.cells cells t (0, 0))) (ht : e ≠ t) : some g ≠ v.ownBlock := pR (S_R h) hb ht
theorem S_form (h : S d e w base ok v xs) (hp : 0 < xs.length) : ∃ g cap, v = .slice (some ⟨g, 0, none⟩) xs.length cap ∧ base ≤ g ∧ g < w.heap.size ∧ ∃ cells, w.heap[g]? = some (.cells cells e (0, 0)) := Hq (S_R h) hp
theorem TN (h : S d e w base ok v xs) : v.ownBlock = none ∨ ∃ k, v.ownBlock = some k ∧ base ≤ k := TP (S_R h)
theorem FJ (h : S d e w base ok v xs) : ∃ A c, v = .slice A xs.length c := gH (S_R h)
theorem qF {A : Option Addr} {n c : Nat} (h : S d e w base ok (.slice A n c) xs) : n = xs.length ∧ n ≤ c ∧ d.C w A xs.length xs := dP (S_R h)
theorem WR {ad : Addr} {n cap : Nat} (h : S d e W base ok (.slice (some ad) n cap) xs) (z : α) (i : Int) (h0 : 0 ≤ i) (h1 : i < n) :
    ∃ c, c.length = d.sz ∧ d.M W base (fun k => ok k ∧ some k ≠ (Value.slice (some ad) n cap).ownBlock) (xs.getD i.toNat z) c ∧ ∀ j u, c[j]? = some u → W.cell? (ad.add (i.toNat * d.sz + j)) = some u := R_getA (S_R h) z i h0 h1
theorem U4 (xs : List α) (p : α) : (xs ++ [p]).zipIdx = xs.zipIdx ++ [(p, xs.length)] := by rw [List.zipIdx_append]; simp
end
section
open Classical in
theorem S_tag {α : Type} {d : Kd α} {e base : Nat} {okv : Nat → Prop} {w : World} {v : Value} {xs : List α} (h : S d e w base okv v xs) (m : Nat) (okp : Nat → Prop) (hap : ∀ k, okp k → ¬ okv k) : ∃ f, (∀ k, okp k → f k = m) ∧ (tag f d).R e w base okv v xs.zipIdx := by
  obtain ⟨f, h⟩ := h
  exact ⟨fun k => if okp k then m else f k, fun k hk => if_pos hk, R_tag h (fun k hk _ => if_neg (fun h2 => hap k h2 hk))⟩
variable {P : Program} {ops : Array Oper} {rest : List Oper} {o : Oper} {a : Act} {Q : Exit → Act → World → Prop} {Kc : Act → World → Prop} {α : Type}
theorem WT (d : Kd α) {w0 W : World} (base : Nat) (hgd : o.guard = none) (s x : Operand) (t e : TypeId) (z : Value) (bytes : Nat)
    (ho : o.op = .call { callee := .builtin .append, args := #[s, x], argTypes := #[t, t] })
    (ht : P.underlying t = some (.slice e)) (hinfo : (P.info? e).map (fun i => (i.zero, i.size, i.bytes)) = some (some z, d.sz, bytes)) (hz : z.cells.size = d.sz) (hs0 : 0 < d.sz) (hb0 : 0 < bytes)
    (v : Value) (xs : List α) (p : α) (cs : List Value) (ok okp : Nat → Prop) (hs : a.eval s = v) (hx : a.eval x = .slice (some ⟨W.heap.size, 0, none⟩) 1 1) (hp : d.M W base okp p cs) (tF : ∀ k, okp k → ok k ∧ some k ≠ v.ownBlock) (hfresh : ∀ k, W.heap.size ≤ k → ok k)
    (HO : S d e W base (fun k => ok k ∧ ¬ okp k) v xs) (HB : Below base w0 W) (hbase : base ≤ W.heap.size) (hl : (xs.length + 1) * bytes ≤ 140737488355328)
    (h : ∀ v1 w1, S d e w1 base ok v1 (xs ++ [p]) → Below base w0 w1 → W.grownBy w1 v.ownBlock → (v1.ownBlock = v.ownBlock ∨ ∃ b, v1.ownBlock = some b ∧ W.heap.size ≤ b) → wpList P ops Q rest (a.put o.dst v1) w1) :
    wpList P ops Q (o :: rest) a (W.alloc (.cells cs.toArray e)) := by
  obtain ⟨f, hf, hR⟩ := S_tag HO xs.length okp (fun _ hk h2 => h2.2 hk)
  refine nS (tag f d) base hgd s x t e z bytes ho ht hinfo hz hs0 hb0 v xs.zipIdx (p, xs.length) cs ok okp hs hx (d.iU (fun k hk => ⟨hk, hf k hk⟩) hp) tF hfresh (dN hR (fun _ hk => hk.1)) HB hbase (by rw [List.length_zipIdx]; exact hl) ?_
  intro v1 w1 hr
  rw [← U4] at hr
  exact h v1 w1 ⟨f, hr⟩
end
def gap {α : Type} (f : Nat → Nat) (d : Kd α) (i : Nat) (c : List Value) : Kd (α × Nat) where
  sz := d.sz
  E := d.E
  K := fun w x cs => (x.2 = i → cs = c ∧ cs.length = d.sz ∧ ∀ u ∈ cs, u.oneCell' = true) ∧ (x.2 ≠ i → d.K w x.1 cs)
  M := fun w base ok x cs => (x.2 = i → cs = c ∧ cs.length = d.sz ∧ ∀ u ∈ cs, u.oneCell' = true) ∧ (x.2 ≠ i → d.M w base (fun k => ok k ∧ f k = x.2) x.1 cs)
  nP := fun {w x cs} h => by
    by_cases hx : x.2 = i
    · exact (h.1 hx).2.1
    · exact d.nP (h.2 hx)
  mX := fun {w x cs} h => by
    by_cases hx : x.2 = i
    · exact (h.1 hx).2.2
    · exact d.mX (h.2 hx)
  mY := fun hb h => ⟨h.1, fun hx => d.mY hb (h.2 hx)⟩
  j4 := fun h => ⟨h.1, fun hx => d.j4 (h.2 hx)⟩
  iU := fun hok h => ⟨h.1, fun hx => d.iU (fun k hk => ⟨hok k hk.1, hk.2⟩) (h.2 hx)⟩
  ku := fun h => ⟨h.1, fun hx => d.iU (fun _ hk => ⟨⟨hk.1.1, hk.2⟩, hk.1.2⟩) (d.ku (h.2 hx))⟩
  lN := fun hm h => ⟨h.1, fun hx => d.lN (fun k hk => hm k hk.1) (h.2 hx)⟩
  mW := fun hb h => ⟨h.1, fun hx => d.mW hb (h.2 hx)⟩
def H {α : Type} (d : Kd α) (e : Nat) (w : World) (base : Nat) (ok : Nat → Prop) (v : Value) (xs : List α) (i : Int) (oki : Nat → Prop) (c : List Value) : Prop :=
  (∀ k, oki k → ok k) ∧ ∃ f, (gap f d i.toNat c).R e w base (fun k => ok k ∧ ¬ oki k) v xs.zipIdx
section
variable {α β : Type} {d : Kd α} {e e' g n cap : Nat} {w w1 W : World} {base : Nat} {ok ok' oki okp : Nat → Prop} {u v : Value} {xs : List α} {i : Int} {c : List Value}
theorem S_lend (h : S d e W base ok (.slice (some ⟨g, 0, none⟩) n cap) xs) (z : α) (i : Int) (h0 : 0 ≤ i) (h1 : i < n) :
    ∃ (oki : Nat → Prop) (c : List Value), c.length = d.sz ∧ d.M W base oki (xs.getD i.toNat z) c ∧ (∀ j u, c[j]? = some u → W.cell? ⟨g, i.toNat * d.sz + j, none⟩ = some u) ∧ (∀ k, oki k → ok k ∧ k ≠ g) ∧ H d e W base ok (.slice (some ⟨g, 0, none⟩) n cap) xs i oki c := by
  obtain ⟨f, hR⟩ := h
  have hn := (dP hR).1
  rw [List.length_zipIdx] at hn
  have hgo : some g = (Value.slice (some ⟨g, 0, none⟩) n cap).ownBlock := by simp [Value.ownBlock]
  obtain ⟨hok0, inner, ho, hr⟩ := hR
  have hil : i.toNat < xs.length := by omega
  have hlen : inner.length = xs.length * d.sz := by have := hr.1; rw [List.length_zipIdx] at this; exact this
  have hseg : i.toNat * d.sz + d.sz ≤ inner.length := by rw [hlen, ← Nat.succ_mul]; exact Nat.mul_le_mul_right _ hil
  have hM := hr.2 i.toNat _ (xu (List.getElem?_eq_getElem hil))
  have hkg : ∀ k, some k ≠ (Value.slice (some ⟨g, 0, none⟩) n cap).ownBlock → k ≠ g := fun k hk he => hk (by rw [he]; exact hgo)
  refine ⟨fun k => (ok k ∧ k ≠ g) ∧ f k = i.toNat, (inner.drop (i.toNat * d.sz)).take d.sz, by rw [List.length_take, List.length_drop]; omega, ?_, fun j u hu => ?_, fun k hk => hk.1, fun k hk => hk.1.1, f, fun k hk => ⟨hok0 k hk, fun h2 => h2.1.2 ?_⟩, inner, ho, hr.1, fun m p hm => ?_⟩
  · rw [List.getD_eq_getElem?_getD, List.getElem?_eq_getElem hil]
    exact d.iU (fun k hk => ⟨⟨hk.1.1, hkg k hk.1.2⟩, hk.2⟩) hM
  · rw [List.getElem?_take] at hu
    split at hu
    · rw [List.getElem?_drop] at hu
      have := ho.cells (g := g) hgo.symm _ u hu
      rwa [add_plain] at this
    · cases hu
  · rw [← hgo] at hk; injection hk with hk; exact hk.symm
  · have hold := hr.2 m p hm
    have hp2 : p.2 = m := by
      rw [List.getElem?_zipIdx, Nat.zero_add] at hm
      obtain ⟨q, _, rfl⟩ := Option.map_eq_some_iff.1 hm
      rfl
    refine ⟨fun hx => ?_, fun hx => d.iU (fun k hk => ⟨⟨⟨hk.1.1, fun h2 => hx ?_⟩, hk.1.2⟩, hk.2⟩) hold⟩
    · have hmi : m = i.toNat := by omega
      subst hmi
      exact ⟨rfl, d.nP (d.j4 hM), d.mX (d.j4 hM)⟩
    · rw [← hk.2]; exact h2.2
open Classical in
theorem H_back (h : H d e w base ok v xs i oki c) {x' : α} (hM : d.M w base okp x' c) (hok : ∀ k, okp k → oki k) : S d e w base ok v (xs.set i.toNat x') := by
  obtain ⟨ho, f, h0, inner, hown, hr⟩ := h
  refine ⟨fun k => if oki k then i.toNat else f k, fun k hk => (h0 k hk).1, inner, by rw [List.length_zipIdx, List.length_set]; rw [List.length_zipIdx] at hown; exact hown, by have := hr.1; rw [List.length_zipIdx] at this; rw [List.length_zipIdx, List.length_set]; exact this, fun m p hm => ?_⟩
  rw [List.getElem?_zipIdx, Nat.zero_add] at hm
  obtain ⟨q, hq, rfl⟩ := Option.map_eq_some_iff.1 hm
  have hml : m < xs.length := by
    have := (List.getElem?_eq_some_iff.1 hq).1
    rwa [List.length_set] at this
  by_cases hmi : m = i.toNat
  · subst hmi
    rw [List.getElem?_set_self hml] at hq
    injection hq with hq
    subst hq
    have hc := ((hr.2 i.toNat _ (xu (List.getElem?_eq_getElem hml))).1 rfl).1
    show d.M w base _ x' ((inner.drop (i.toNat * d.sz)).take d.sz)
    rw [show (inner.drop (i.toNat * d.sz)).take d.sz = c from hc]
    exact d.iU (fun k hk => ⟨⟨ho k (hok k hk), fun he => (h0 k he.symm).2 (hok k hk)⟩, if_pos (hok k hk)⟩) hM
  · rw [List.getElem?_set_ne (Ne.symm hmi)] at hq
    exact d.iU (fun k hk => ⟨⟨hk.1.1.1, hk.1.2⟩, (if_neg hk.1.1.2).trans hk.2⟩) ((hr.2 m (q, m) (xu hq)).2 hmi)
theorem H_more {okg : Nat → Prop} (h : H d e w base (fun k => ok k ∧ ¬ okg k) v xs i oki c) (hg : ∀ k, okg k → ok k) : H d e w base ok v xs i (fun k => oki k ∨ okg k) c := by
  obtain ⟨ho, f, h⟩ := h
  exact ⟨fun k hk => hk.elim (fun h2 => (ho k h2).1) (hg k), f, dN h (fun k hk => ⟨hk.1.1, fun h2 => h2.elim hk.2 hk.1.2⟩)⟩
theorem WS (h : S d e W base ok (.slice (some ⟨g, 0, none⟩) n cap) xs) (z : α) (i : Int) (h0 : 0 ≤ i) (h1 : i < n) :
    ∃ (oki : Nat → Prop) (c : List Value), c.length = d.sz ∧ d.M W base oki (xs.getD i.toNat z) c ∧ (∀ j u, c[j]? = some u → W.cell? ⟨g, i.toNat * d.sz + j, none⟩ = some u) ∧ (∀ j, W.frozen? ⟨g, i.toNat * d.sz + j, none⟩ = false) ∧ (∀ k, oki k → ok k ∧ k ≠ g) ∧ H d e W base ok (.slice (some ⟨g, 0, none⟩) n cap) xs i oki c := by
  obtain ⟨_, _, _, _, hfr⟩ := QU (S_R h) z i h0 h1
  obtain ⟨oki, c, hcl, hM, hcc, hoki, hH⟩ := S_lend h z i h0 h1
  exact ⟨oki, c, hcl, hM, hcc, hfr, hoki, hH⟩
theorem H_raw (h : H d e W base ok (.slice (some ⟨g, 0, none⟩) n cap) xs i oki c) (h0 : 0 ≤ i) (h1 : i < n) :
    ∃ rows : List (List Value), rows.length = xs.length ∧ (raw d.sz).R e W base (fun _ => True) (.slice (some ⟨g, 0, none⟩) n cap) rows ∧ c.length = d.sz ∧ (∀ u ∈ c, u.oneCell' = true) ∧ (∀ j u, c[j]? = some u → W.cell? ⟨g, i.toNat * d.sz + j, none⟩ = some u) ∧
      ∀ w1 c', W.grownBy w1 (some g) → (raw d.sz).R e w1 base (fun _ => True) (.slice (some ⟨g, 0, none⟩) n cap) (rows.set i.toNat c') → H d e w1 base ok (.slice (some ⟨g, 0, none⟩) n cap) xs i oki c' := by
  obtain ⟨hoo, f, hR⟩ := h
  have hn := (dP hR).1
  rw [List.length_zipIdx] at hn
  have hgo : some g = (Value.slice (some ⟨g, 0, none⟩) n cap).ownBlock := by simp [Value.ownBlock]
  obtain ⟨hok0, inner, ho, hr⟩ := hR
  have hil : i.toNat < xs.length := by omega
  have hlen : inner.length = xs.length * d.sz := by have := hr.1; rw [List.length_zipIdx] at this; exact this
  have hkg : ∀ k, some k ≠ (Value.slice (some ⟨g, 0, none⟩) n cap).ownBlock → k ≠ g := fun k hk he => hk (by rw [he]; exact hgo)
  have hci := (hr.2 i.toNat _ (xu (List.getElem?_eq_getElem hil))).1 rfl
  rw [hci.1] at hci
  have hc := ((hr.2 i.toNat _ (xu (List.getElem?_eq_getElem hil))).1 rfl).1
  refine ⟨(List.range xs.length).map fun j => (inner.drop (j * d.sz)).take d.sz, by rw [List.length_map, List.length_range], ⟨fun _ _ => trivial, inner, ?_, ?_, fun j p hj => ?_⟩, hci.2.1, hci.2.2, fun j u hu => ?_, fun w1 c' hg hraw => ?_⟩
  · rw [List.length_map, List.length_range]; rw [List.length_zipIdx] at ho; exact ho
  · rw [List.length_map, List.length_range]; exact hlen
  · rw [List.getElem?_map] at hj
    obtain ⟨j', hj', rfl⟩ := Option.map_eq_some_iff.1 hj
    obtain ⟨hl, he⟩ := List.getElem?_eq_some_iff.1 hj'
    rw [List.getElem_range] at he
    subst he
    rw [List.length_range] at hl
    have hm := (gap f d i.toNat c).j4 (hr.2 j _ (xu (List.getElem?_eq_getElem hl)))
    exact ⟨rfl, (gap f d i.toNat c).nP hm, (gap f d i.toNat c).mX hm⟩
  · rw [← hc, List.getElem?_take] at hu
    split at hu
    · rw [List.getElem?_drop] at hu
      have := ho.cells (g := g) hgo.symm _ u hu
      rwa [add_plain] at this
    · cases hu
  · obtain ⟨_, JX, ho', hr'⟩ := hraw
    have hl' : JX.length = xs.length * d.sz := by have := hr'.1; rw [List.length_set, List.length_map, List.length_range] at this; exact this
    rw [List.length_set, List.length_map, List.length_range] at ho'
    refine ⟨hoo, f, hok0, JX, by rw [List.length_zipIdx]; exact ho', by rw [List.length_zipIdx]; exact hl', fun m p hm => ?_⟩
    rw [List.getElem?_zipIdx, Nat.zero_add] at hm
    obtain ⟨q, hq, rfl⟩ := Option.map_eq_some_iff.1 hm
    have hml : m < xs.length := (List.getElem?_eq_some_iff.1 hq).1
    have hold := hr.2 m (q, m) (xu hq)
    refine ⟨fun hx => ?_, fun hx => ?_⟩
    · have hx' : m = i.toNat := hx
      subst hx'
      exact hr'.2 i.toNat c' (List.getElem?_set_self (by rw [List.length_map, List.length_range]; exact hml))
    · have hx' : m ≠ i.toNat := hx
      have hcm := (hr'.2 m ((inner.drop (m * d.sz)).take d.sz) (by
        rw [List.getElem?_set_ne (Ne.symm hx'), List.getElem?_map, List.getElem?_eq_getElem (by rw [List.length_range]; exact hml), List.getElem_range]
        rfl)).1
      show d.M w1 base _ q ((JX.drop (m * d.sz)).take d.sz)
      rw [show (JX.drop (m * d.sz)).take d.sz = _ from hcm]
      exact d.iU (fun k hk => hk.1) (d.lN (w1 := w1) (fun k hk => hg.block k hk.2.2.1 (fun he => hkg k hk.1.1.2 (by injection he))) (d.ku (hold.2 hx)))
theorem H_seg (h : H d e W base ok (.slice (some ⟨g, 0, none⟩) n cap) xs i oki c) (h0 : 0 ≤ i) (h1 : i < n) {seg : List Value} {j : Nat} (hj : j + seg.length ≤ d.sz) (hone : ∀ q ∈ seg, q.oneCell' = true) :
    H d e (W.setCells g (i.toNat * d.sz + j) seg) base ok (.slice (some ⟨g, 0, none⟩) n cap) xs i oki (c.take j ++ seg ++ c.drop (j + seg.length)) ∧ W.grownBy (W.setCells g (i.toNat * d.sz + j) seg) (some g) := by
  obtain ⟨rows, _, hraw, hcl, hco, hcc, hback⟩ := H_raw h h0 h1
  obtain ⟨h2, h3⟩ := R_seg hraw i h0 h1 (c := c) (seg := seg) (j := j) (x' := c.take j ++ seg ++ c.drop (j + seg.length)) (okp := fun _ => False) hcl hcc hj
    ⟨rfl, by
      show (c.take j ++ seg ++ c.drop (j + seg.length)).length = d.sz
      simp only [List.length_append, List.length_take, List.length_drop]; omega, fun u hu => by
      rcases List.mem_append.1 hu with hu | hu
      · rcases List.mem_append.1 hu with hu | hu
        · exact hco u (List.mem_of_mem_take hu)
        · exact hone u hu
      · exact hco u (List.mem_of_mem_drop hu)⟩ (fun _ hk => hk.elim)
  exact ⟨hback _ _ h3 h2, h3⟩
theorem S_seg {okg : Nat → Prop} (hH : H d e W base (fun k => ok k ∧ ¬ okg k) (.slice (some ⟨g, 0, none⟩) n cap) xs i oki c) (h0 : 0 ≤ i) (h1 : i < n) {seg : List Value} {j : Nat} (hj : j + seg.length ≤ d.sz)
    {x' : α} (hM : d.M W base okp x' (c.take j ++ seg ++ c.drop (j + seg.length))) (tF : ∀ k, okp k → oki k ∨ okg k) (hg : ∀ k, okg k → ok k ∧ k ≠ g) :
    S d e (W.setCells g (i.toNat * d.sz + j) seg) base ok (.slice (some ⟨g, 0, none⟩) n cap) (xs.set i.toNat x') ∧ W.grownBy (W.setCells g (i.toNat * d.sz + j) seg) (some g) := by
  have hne : ∀ k, oki k ∨ okg k → k ≠ g := by
    intro k hk he
    subst he
    rcases hk with hk | hk
    · obtain ⟨_, f, hR⟩ := hH
      exact (hR.1 k (by simp [Value.ownBlock])).2 hk
    · exact (hg k hk).2 rfl
  obtain ⟨h2, h3⟩ := H_seg (H_more hH (fun k hk => (hg k hk).1)) h0 h1 hj (fun q hq => d.mX (d.j4 hM) q (List.mem_append_left _ (List.mem_append_right _ hq)))
  exact ⟨H_back h2 (QW hM (fun k hk hlt => h3.block k hlt (fun he => hne k (tF k hk) (by injection he)))) tF, h3⟩
end
section
variable {P : Program} {ops : Array Oper} {rest : List Oper} {o : Oper} {a : Act} {Q : Exit → Act → World → Prop} {α : Type}
end
end Kd
end Go.Proofs.YthicocmnefaioaaW.dw
namespace Go.Proofs.YthicocmnefaioaaW.dw
open Go.RowKit
section
variable {P : Program} {d : Nat} {xs ys : Array Value} {f : Field} {fs : List Field} {a b : Value} {r s : Bool} {w : World}
theorem V7 (hn : (f.name == "_") = false) (ha : (part f.type xs f.offset).run P w = .ok a w) (hb : (part f.type ys f.offset).run P w = .ok b w) (he : (Op.equalIn d f.type a b).run P w = .ok r w) : (Op.eqFields d xs ys [f]).run P w = .ok r w := by
  have hn' : f.name ≠ "_" := by simpa using hn
  simp only [Op.eqFields, if_pos hn', Sem.run_bind, ha, hb, he, Result.andThen_ok]
  cases r <;> simp
theorem Nz (hn : (f.name == "_") = false) (ha : (part f.type xs f.offset).run P w = .ok a w) (hb : (part f.type ys f.offset).run P w = .ok b w) (he : (Op.equalIn d f.type a b).run P w = .ok r w) (hr : (Op.eqFields d xs ys fs).run P w = .ok s w) : (Op.eqFields d xs ys (f :: fs)).run P w = .ok (r && s) w := by
  have hn' : f.name ≠ "_" := by simpa using hn
  rw [Op.eqFields]
  simp only [if_pos hn', Sem.run_bind, ha, hb, he, Result.andThen_ok]
  cases r
  · simp
  · simpa using hr
theorem eqA_of {t : TypeId} {fs : Array Field} (hu : P.underlying t = some (.struct fs)) (hp : P.stoodInHeld t = false) (h : (Op.eqFields d xs ys fs.toList).run P w = .ok r w) : (Op.equalIn (d + 1) t (.agg xs) (.agg ys)).run P w = .ok r w := by
  have hf : P.fieldsOf t = fs := by simp [Program.fieldsOf, hu]
  rw [run_equalIn_struct (P := P) w d t xs ys (by rw [hf]; exact hu) hp, hf]
  exact h
end
end Go.Proofs.YthicocmnefaioaaW.dw
namespace Go.Proofs.YthicocmnefaioaaW.dw
open Go.RowKit
namespace Kd
section
variable {α : Type} {n : Nat} {d : Kd α} {hs : 0 < d.sz} {w : World} {base : Nat} {ok : Nat → Prop} {xs : List α} {cs : List Value}
end
section
variable {α : Type} {n : Nat} {enc : α → Value} {h1 : ∀ x, (enc x).oneCell' = true} {hs : 0 < (scalar enc h1).sz} {w : World} {base : Nat} {ok : Nat → Prop} {xs : List α} {cs : List Value}
end
end Kd
end Go.Proofs.YthicocmnefaioaaW.dw
namespace Go.Proofs.YthicocmnefaioaaW.dw
open Go.RowKit
namespace Kd
section
variable {α : Type} {d : Kd α} {e base g n c : Nat} {ok : Nat → Prop} {w w0 W : World} {A : Option Addr} {xs : List α}
end
end Kd
end Go.Proofs.YthicocmnefaioaaW.dw
namespace Go.Proofs.YthicocmnefaioaaW.dw
open Go.RowKit
def Kept (w W : World) (S : Nat → Prop) : Prop := w.heap.size ≤ W.heap.size ∧ ∀ i, i < w.heap.size → ¬ S i → W.heap[i]? = w.heap[i]?
section
variable {w W W2 : World} {S S2 S' : Nat → Prop}
theorem Kept.refl (w : World) (S : Nat → Prop) : Kept w w S := ⟨Nat.le_refl _, fun _ _ _ => rfl⟩
theorem Kept.of_below (h : Below w.heap.size w W) (S : Nat → Prop) : Kept w W S := ⟨h.size, fun i hi _ => h.block i hi⟩
theorem Kept.mono (h : Kept w W S) (hs : ∀ k, S k → S' k) : Kept w W S' := ⟨h.1, fun i hi hn => h.2 i hi (fun hk => hn (hs i hk))⟩
theorem Kept.then_ (h : Kept w W S) (k : Kept W W2 S2) (hs : ∀ k, S2 k → S k ∨ w.heap.size ≤ k) : Kept w W2 S :=
  ⟨Nat.le_trans h.1 k.1, fun i hi hn => (k.2 i (Nat.lt_of_lt_of_le hi h.1) (fun h2 => (hs i h2).elim hn (fun h3 => by omega))).trans (h.2 i hi hn)⟩
theorem Kept.sG {row : Option Nat} (hg : W.grownBy W2 row) (h : Kept w W S) (hr : ∀ k, row = some k → S k ∨ w.heap.size ≤ k) : Kept w W2 S :=
  h.then_ (S2 := fun k => row = some k) ⟨hg.size, fun i hi hn => hg.block i hi (fun he => hn he.symm)⟩ hr
theorem Kept.below (h : Kept w W S) (hb : Below W.heap.size W W2) : Kept w W2 S := h.then_ (Kept.of_below hb (fun _ => False)) (fun _ hk => hk.elim)
theorem Kept.drew (h : Kept w W S) : Kept w W.drew S := h
theorem qE {g : Nat} {o : Obj} (hb : W.heap[g]? = some o) (hk : Kept W W2 S) (hne : ¬ S g) : W2.heap[g]? = some o := (hk.2 g (jL hb) hne).trans hb
end
namespace Kd
section
variable {α : Type} {d : Kd α} {e base n c : Nat} {ok oki S S2 : Nat → Prop} {w w0 W W1 W2 : World} {v : Value} {A : Option Addr} {xs : List α} {i : Int} {cs : List Value}
end
end Kd
end Go.Proofs.YthicocmnefaioaaW.dw
namespace Go.Proofs.YthicocmnefaioaaW.dw
open Go.RowKit
def qH (P : World → Prop) (W : World) (ok : Nat → Prop) : Prop := ∀ W' : World, (∀ k, ok k → k < W.heap.size → W'.heap[k]? = W.heap[k]?) → P W'
theorem Zn {W W1 : World} {k : Nat} (h : W1.heap[k]? = W.heap[k]?) (hlt : k < W.heap.size) : k < W1.heap.size := by
  rw [Array.getElem?_eq_getElem hlt] at h
  exact (Array.getElem?_eq_some_iff.1 h).1
namespace qH
variable {P Q : World → Prop} {W W1 : World} {ok ok' : Nat → Prop}
theorem now (h : qH P W ok) : P W := h W (fun _ _ _ => rfl)
theorem mono (h : qH P W ok) (hok : ∀ k, ok k → ok' k) : qH P W ok' := fun W' hW => h W' (fun k hk hlt => hW k (hok k hk) hlt)
theorem bound (h : qH P W ok) : qH P W (fun k => ok k ∧ k < W.heap.size) := fun W' hW => h W' (fun k hk hlt => hW k ⟨hk, hlt⟩ hlt)
theorem step (h : qH P W ok) (hm : ∀ k, ok k → k < W.heap.size → W1.heap[k]? = W.heap[k]?) : qH P W1 ok := fun W' hW => h W' (fun k hk hlt => (hW k hk (Zn (hm k hk hlt) hlt)).trans (hm k hk hlt))
theorem imp (h : qH P W ok) (hi : ∀ W', P W' → Q W') : qH Q W ok := fun W' hW => hi W' (h W' hW)
theorem old (h : qH P W ok) (hb : Below W.heap.size W W1) : qH P W1 (fun k => ok k ∧ k < W.heap.size) := (h.bound).step (fun k _ hlt => hb.block k hlt)
end qH
namespace Kd
def F {α : Type} (d : Kd α) (W : World) (ok : Nat → Prop) (A : Option Addr) (n : Nat) (xs : List α) : Prop := qH (fun W => d.C W A n xs) W ok
def FK {α : Type} (d : Kd α) (W : World) (ok : Nat → Prop) (x : α) (c : List Value) : Prop := qH (fun W => d.K W x c) W ok
section
variable {α β : Type} {d : Kd α} {e base n n' cc g N : Nat} {ok ok' okp S : Nat → Prop} {w w0 w1 W W1 : World} {A A' : Option Addr} {u v v1 : Value} {xs : List α} {xs' : List β} {d' : Kd β} {x : α} {c : List Value}
theorem TY (h : F d W ok A n xs) : d.C W A n xs := qH.now h
theorem Ma (h : F d W ok A n xs) (hok : ∀ k, ok k → ok' k) : F d W ok' A n xs := qH.mono h hok
theorem T9 (h : F d W ok A n xs) : F d W (fun k => ok k ∧ k < W.heap.size) A n xs := qH.bound h
theorem Xh (h : F d W ok A n xs) (hm : ∀ k, ok k → k < W.heap.size → W1.heap[k]? = W.heap[k]?) : F d W1 ok A n xs := qH.step h hm
theorem F_imp (h : F d W ok A n xs) (hi : ∀ W', d.C W' A n xs → d'.C W' A' n' xs') : F d' W ok A' n' xs' := qH.imp h hi
theorem Mc (h : F d W ok A n xs) (hb : Below W.heap.size W W1) : F d W1 ok A n xs := Xh h (fun k _ hlt => hb.block k hlt)
theorem F_drew (h : F d W ok A n xs) : F d W.drew ok A n xs := Mc h (wK (Below.refl _ _))
theorem aat (h : F d W ok A n xs) (m : Nat) : F d (W.drewN m) ok A n xs := Mc h (bT (Below.refl _ _) m)
theorem F_far (h : F d W ok A n xs) {p : Addr} (hok : ∀ k, ok k → k ≠ p.block) (u : Value) : F d (W.setCell p u) ok A n xs := Xh h (fun k hk _ => Below.heap_setCell W p u k (hok k hk))
theorem F_nil (d : Kd α) (W : World) (ok : Nat → Prop) : F d W ok none ([] : List α).length [] := fun W' _ => C_nil d W'
theorem F_len (h : F d W ok A n xs) : xs.length = n := (TY h).1
theorem Xk (h : F d W ok A n xs) (hbase : ∀ k, v.ownBlock = some k → W.heap.size ≤ k) (hb : Below W.heap.size W W1) : F d W1 (fun k => ok k ∧ some k ≠ v.ownBlock) A n xs :=
  Ma (qH.old h hb) (fun k hk => ⟨hk.1, fun he => by have := hbase k he.symm; have := hk.2; omega⟩)
theorem Xj (h : F d W ok A n xs) (a : Nat) (ha : W.heap.size ≤ a) : F d W (fun k => ok k ∧ k ≠ a) A n xs := Ma (T9 h) (fun k hk => ⟨hk.1, by have := hk.2; omega⟩)
theorem aau (h : F d W (fun k => ok k ∧ some k ≠ v.ownBlock) A n xs) (hg : W.grownBy W1 v.ownBlock) (hat : v1.ownBlock = v.ownBlock ∨ ∃ b, v1.ownBlock = some b ∧ W.heap.size ≤ b) : F d W1 (fun k => ok k ∧ some k ≠ v1.ownBlock) A n xs := by
  refine Ma (qH.step (T9 h) (fun k hk hlt => hg.block k hlt hk.1.2)) (fun k hk => ⟨hk.1.1, ?_⟩)
  rcases hat with hat | ⟨b, hb, hle⟩
  · rw [hat]; exact hk.1.2
  · rw [hb]
    intro he
    injection he with he
    have := hk.2
    omega
theorem R_F (h : d.R e W base ok (.slice A n cc) xs) : F d W ok A n xs := fun W' hW => by
  have h2 := dP (Dl h hW)
  rw [h2.1]
  exact h2.2.2
theorem yc (h : FK d W ok x c) : d.K W x c := qH.now h
theorem wQ (h : FK d W ok x c) (hok : ∀ k, ok k → ok' k) : FK d W ok' x c := qH.mono h hok
theorem Hy (h : FK d W ok x c) : FK d W (fun k => ok k ∧ k < W.heap.size) x c := qH.bound h
theorem FR (h : FK d W ok x c) (hm : ∀ k, ok k → k < W.heap.size → W1.heap[k]? = W.heap[k]?) : FK d W1 ok x c := qH.step h hm
theorem aav (h : d.M W base ok x c) : FK d W ok x c := fun _ hW => d.j4 (QW h hW)
theorem emptied (W : World) (g : Nat) : ∃ W' : World, (∀ k, k ≠ g → W'.heap[k]? = W.heap[k]?) ∧ ∀ a : Addr, a.block = g → W'.cell? a = none := by
  refine ⟨{ W with heap := W.heap.setIfInBounds g (.cells #[] 0) }, fun k hk => by simp [Ne.symm hk], fun a ha => ?_⟩
  subst ha
  by_cases hlt : a.block < W.heap.size
  · simp [World.cell?, hlt]
  · simp [World.cell?, hlt]
end
end Kd
end Go.Proofs.YthicocmnefaioaaW.dw
namespace Go.Proofs.YthicocmnefaioaaW.dw
open Go.RowKit
section
variable {P : Program}
end
namespace Kd
section
variable {P : Program} {ops : Array Oper} {rest : List Oper} {o : Oper} {a : Act} {Q : Exit → Act → World → Prop} {Kc : Act → World → Prop} {α : Type}
end
section
variable {α : Type} {d : Kd α} {e : Nat} {w : World} {base : Nat} {ok : Nat → Prop} {v : Value} {xs : List α}
end
section
variable {P : Program} {ops : Array Oper} {rest : List Oper} {o : Oper} {a : Act} {Q : Exit → Act → World → Prop} {Kc : Act → World → Prop} {α : Type}
end
end Kd
end Go.Proofs.YthicocmnefaioaaW.dw
namespace Go.Proofs.YthicocmnefaioaaW.dw
open Go.RowKit
namespace Kd
def chunks (sz : Nat) (n : Nat) (inner : List Value) : List (List Value) := (List.range n).map fun j => (inner.drop (j * sz)).take sz
theorem jC (sz n : Nat) (inner : List Value) : (chunks sz n inner).length = n := by simp [chunks]
theorem UZ {sz n : Nat} {inner : List Value} {j : Nat} (hj : j < n) : (chunks sz n inner)[j]? = some ((inner.drop (j * sz)).take sz) := by simp [chunks, hj]
theorem sN {sz n : Nat} {inner : List Value} {j : Nat} {c : List Value} (h : (chunks sz n inner)[j]? = some c) : c = (inner.drop (j * sz)).take sz := by
  have hj : j < n := by have := (List.getElem?_eq_some_iff.1 h).1; rwa [jC] at this
  rw [UZ hj] at h
  injection h with h
  exact h.symm
theorem Mq {α : Type} {Rr : α → List Value → Prop} {sz : Nat} {xs : List α} {inner : List Value} (h : ig Rr sz xs inner) (hR : ∀ x c, Rr x c → c.length = sz ∧ ∀ u ∈ c, u.oneCell' = true) : ig (fun x cs => cs = x ∧ cs.length = sz ∧ ∀ u ∈ cs, u.oneCell' = true) sz (chunks sz xs.length inner) inner := by
  refine ⟨by rw [jC]; exact h.1, fun j p hj => ?_⟩
  have hjl : j < xs.length := by have := (List.getElem?_eq_some_iff.1 hj).1; rwa [jC] at this
  have hp := sN hj
  exact ⟨hp.symm, hR _ _ (h.2 j _ (List.getElem?_eq_getElem hjl))⟩
section
variable {α : Type} {d : Kd α} {e base n cc g : Nat} {ok ok' okp S : Nat → Prop} {w w1 W W1 : World} {A : Option Addr} {u v v1 : Value} {xs : List α} {x : α} {c : List Value}
theorem Xi (h : F d W ok A n xs) (z : α) (i : Int) (h0 : 0 ≤ i) (h1 : i < n) :
    ∃ ad c, A = some ad ∧ c.length = d.sz ∧ FK d W ok (xs.getD i.toNat z) c ∧ (∀ j u, c[j]? = some u → W.cell? (ad.add (i.toNat * d.sz + j)) = some u) ∧ (0 < d.sz → ok ad.block) := by
  obtain ⟨ad, c, rfl, hcl, hK, hcc⟩ := Oe (TY h) z i h0 h1
  have hin : 0 < d.sz → ok ad.block := by
    intro hs
    by_cases hk : ok ad.block
    · exact hk
    · obtain ⟨W', h2, h3⟩ := emptied W ad.block
      obtain ⟨ad', c', he, hcl', _, hcc'⟩ := Oe (h W' (fun k hk' _ => h2 k (fun e => hk (e ▸ hk')))) z i h0 h1
      injection he with he
      subst he
      have h4 := hcc' 0 _ (List.getElem?_eq_getElem (by omega))
      rw [h3 _ (add_block _ _)] at h4
      cases h4
  refine ⟨ad, c, rfl, hcl, fun W' hW => ?_, hcc, hin⟩
  obtain ⟨ad', c', he, hcl', hK', hcc'⟩ := Oe (h W' hW) z i h0 h1
  injection he with he
  subst he
  have hc : c = c' := by
    apply List.ext_getElem?
    intro j
    by_cases hj : j < d.sz
    · have hb : W'.heap[ad.block]? = W.heap[ad.block]? := by
        have h5 := hcc j _ (List.getElem?_eq_getElem (by omega))
        have h6 := World.block_lt_of_cell? W _ h5
        rw [add_block] at h6
        exact hW _ (hin (by omega)) h6
      have h5 := hcc j _ (List.getElem?_eq_getElem (by omega))
      have h6 := hcc' j _ (List.getElem?_eq_getElem (by omega))
      have h7 : W'.cell? (ad.add (i.toNat * d.sz + j)) = W.cell? (ad.add (i.toNat * d.sz + j)) := by simp [World.cell?, add_block, hb]
      rw [h7, h5] at h6
      rw [List.getElem?_eq_getElem (by omega), List.getElem?_eq_getElem (by omega)]
      exact h6
    · rw [List.getElem?_eq_none (by omega), List.getElem?_eq_none (by omega)]
  rw [hc]
  exact hK'
theorem F_rows (h : F d W ok A n xs) : j6 (fun x c => FK d W ok x c) d.sz W A n xs := by
  obtain ⟨hl, hm, hn⟩ := TY h
  refine ⟨hl, hm, fun hp => ?_⟩
  obtain ⟨ad, rfl, _⟩ := hn hp
  refine ⟨ad, rfl, fun j p hj => ?_⟩
  obtain ⟨hjl, hjp⟩ := List.getElem?_eq_some_iff.1 hj
  obtain ⟨ad', c, he, hcl, hK, hcc, _⟩ := Xi h p (j : Int) (by omega) (by omega)
  injection he with he
  subst he
  simp only [Int.toNat_natCast] at hK hcc
  rw [List.getD_eq_getElem?_getD, hj] at hK
  exact ⟨c, hcl, hK, hcc⟩
def N {α : Type} (d : Kd α) (e : Nat) (w : World) (base : Nat) (ok : Nat → Prop) (v : Value) (xs : List α) : Prop :=
  (∀ k, v.ownBlock = some k → ok k) ∧ ∃ rows : List (List Value), rows.length = xs.length ∧ (raw d.sz).R e w base (fun k => some k = v.ownBlock) v rows ∧ ∀ (j : Nat) (x : α) (c : List Value), xs[j]? = some x → rows[j]? = some c → FK d w (fun k => ok k ∧ some k ≠ v.ownBlock) x c
theorem CY {sz : Nat} {rows : List (List Value)} (h : (raw sz).R e w base ok v rows) : (raw sz).R e w base (fun k => some k = v.ownBlock) v rows := rU rfl h
theorem JC {sz : Nat} {rows : List (List Value)} (h : (raw sz).R e w base ok v rows) : (raw sz).R e w base (fun _ => True) v rows := dN h (fun _ _ => trivial)
theorem R_N (h : d.R e w base ok v xs) : N d e w base ok v xs := by
  obtain ⟨h0, inner, ho, hr⟩ := h
  refine ⟨h0, chunks d.sz xs.length inner, jC _ _ _, ⟨fun k hk => hk.symm, inner, by rw [jC]; exact ho, Mq hr (fun x c hp => ⟨d.nP (d.j4 hp), d.mX (d.j4 hp)⟩)⟩, fun j x c hx hc => ?_⟩
  rw [sN hc]
  exact aav (hr.2 j x hx)
theorem N_nil (d : Kd α) (e : Nat) (w : World) (base : Nat) (ok : Nat → Prop) : N d e w base ok (.slice none 0 0) [] := R_N (Ho _ _ _ _ _)
theorem lu (h : N d e w base ok v xs) (hok : ∀ k, ok k → ok' k) : N d e w base ok' v xs := by
  obtain ⟨h0, rows, hl, hR, hf⟩ := h
  exact ⟨fun k hk => hok k (h0 k hk), rows, hl, hR, fun j x c hx hc => wQ (hf j x c hx hc) (fun k hk => ⟨hok k hk.1, hk.2⟩)⟩
theorem N_lt (h : N d e w base ok v xs) : ∀ k, v.ownBlock = some k → k < w.heap.size := by
  obtain ⟨_, rows, _, hR, _⟩ := h
  exact zW hR
theorem ny (h : N d e w base ok v xs) : ∀ k, v.ownBlock = some k → base ≤ k := by
  obtain ⟨_, rows, _, hR, _⟩ := h
  exact kP hR
theorem uz (h : N d e w base ok v xs) : ∀ k, v.ownBlock = some k → ∃ cells, w.heap[k]? = some (.cells cells e (0, 0)) := by
  obtain ⟨_, rows, _, hR, _⟩ := h
  exact rT hR
theorem U1 (h : N d e w base ok v xs) {t : Nat} {cells : Array Value} (hb : w.heap[g]? = some (.cells cells t (0, 0))) (ht : e ≠ t) : some g ≠ v.ownBlock := by
  obtain ⟨_, rows, _, hR, _⟩ := h
  exact pR hR hb ht
theorem LV (h : N d e w base ok v xs) (hok : ∀ k, ok k → k ≠ g) : some g ≠ v.ownBlock := fun he => hok g (h.1 g he.symm) rfl
theorem TQ (h : N d e w base ok v xs) : N d e w base (fun k => ok k ∧ k < w.heap.size) v xs := by
  have hlt := N_lt h
  obtain ⟨h0, rows, hl, hR, hf⟩ := h
  exact ⟨fun k hk => ⟨h0 k hk, hlt k hk⟩, rows, hl, hR, fun j x c hx hc => wQ (Hy (hf j x c hx hc)) (fun k hk => ⟨⟨hk.1.1, hk.2⟩, hk.1.2⟩)⟩
theorem wM {base' : Nat} (h : N d e w base ok v xs) (hb : base' ≤ base) : N d e w base' ok v xs := by
  obtain ⟨h0, rows, hl, hR, hf⟩ := h
  exact ⟨h0, rows, hl, jv hR hb, hf⟩
theorem LU (h : N d e w base ok v xs) (hm : ∀ k, ok k → k < w.heap.size → w1.heap[k]? = w.heap[k]?) : N d e w1 base ok v xs := by
  obtain ⟨h0, rows, hl, hR, hf⟩ := h
  exact ⟨h0, rows, hl, Dl hR (fun k hk hlt => hm k (h0 k hk.symm) hlt), fun j x c hx hc => FR (hf j x c hx hc) (fun k hk hlt => hm k hk.1 hlt)⟩
theorem rW (h : N d e w base ok v xs) (hb : Below w.heap.size w w1) : N d e w1 base ok v xs := LU h (fun k _ hk => hb.block k hk)
theorem ko (h : N d e w base ok v xs) : N d e w.drew base ok v xs := rW h (wK (Below.refl _ _))
theorem lU (h : N d e w base ok v xs) (m : Nat) : N d e (w.drewN m) base ok v xs := rW h (bT (Below.refl _ _) m)
theorem sS (h : N d e w base ok v xs) {p : Addr} (hok : ∀ k, ok k → k ≠ p.block) (u : Value) : N d e (w.setCell p u) base ok v xs := LU h (fun k ho _ => Below.heap_setCell w p u k (hok k ho))
theorem WX (h : N d e w base ok v xs) (hk : bP w w1 g none) (hok : ∀ k, ok k → k ≠ g) : N d e w1 base ok v xs := LU h (fun k ho hlt => hk.2 k hlt (hok k ho) (by simp))
theorem qG (h : N d e W base ok v xs) (hbase : ∀ k, u.ownBlock = some k → W.heap.size ≤ k) (hb : Below W.heap.size W w1) : N d e w1 base (fun k => ok k ∧ some k ≠ u.ownBlock) v xs :=
  lu (rW (TQ h) hb) (fun k hk => ⟨hk.1, fun he => by have := hbase k he.symm; have := hk.2; omega⟩)
theorem Ht (h : N d e w base ok v xs) (a : Nat) (ha : w.heap.size ≤ a) : N d e w base (fun k => ok k ∧ k ≠ a) v xs := lu (TQ h) (fun k hk => ⟨hk.1, by have := hk.2; omega⟩)
theorem rV (h : N d e w base ok v xs) : ∃ A c, v = .slice A xs.length c := by
  obtain ⟨_, rows, hl, hR, _⟩ := h
  obtain ⟨A, c, he⟩ := gH hR
  exact ⟨A, c, by rw [he, hl]⟩
theorem WY (h : N d e w base ok v xs) (hp : 0 < xs.length) : ∃ g cap, v = .slice (some ⟨g, 0, none⟩) xs.length cap ∧ base ≤ g ∧ g < w.heap.size ∧ ∃ cells, w.heap[g]? = some (.cells cells e (0, 0)) := by
  obtain ⟨_, rows, hl, hR, _⟩ := h
  rw [← hl] at hp ⊢
  exact Hq hR hp
theorem jq {n c : Nat} (h : N d e w base ok (.slice A n c) xs) : n = xs.length ∧ n ≤ c ∧ d.C w A xs.length xs := by
  obtain ⟨_, rows, hl, hR, hf⟩ := h
  obtain ⟨hn, hc, hC⟩ := dP hR
  refine ⟨by omega, hc, ?_⟩
  rw [hl] at hC
  refine ⟨rfl, hC.2.1, fun hp => ?_⟩
  obtain ⟨ad, he, hcell⟩ := hC.2.2 hp
  refine ⟨ad, he, fun j p hj => ?_⟩
  have hjl : j < rows.length := by have := (List.getElem?_eq_some_iff.1 hj).1; omega
  obtain ⟨c', hcl, hK, hcc⟩ := hcell j _ (List.getElem?_eq_getElem hjl)
  have hk := yc (hf j p _ hj (List.getElem?_eq_getElem hjl))
  refine ⟨c', hcl, ?_, hcc⟩
  rw [show c' = rows[j] from hK.1]
  exact hk
theorem N_F {n : Nat} (h : N d e w base ok (.slice A n cc) xs) : F d w ok A n xs := fun W' hW => by
  have h2 := jq (LU h hW)
  rw [h2.1]
  exact h2.2.2
theorem N_elem {n cap : Nat} (h : N d e W base ok (.slice (some ⟨g, 0, none⟩) n cap) xs) (z : α) (i : Int) (h0 : 0 ≤ i) (h1 : i < n) :
    ∃ c, c.length = d.sz ∧ FK d W (fun k => ok k ∧ k ≠ g) (xs.getD i.toNat z) c ∧ (∀ j u, c[j]? = some u → W.cell? ⟨g, i.toNat * d.sz + j, none⟩ = some u) ∧ ∀ j, W.frozen? ⟨g, i.toNat * d.sz + j, none⟩ = false := by
  obtain ⟨_, rows, hl, hR, hf⟩ := h
  have hn := (dP hR).1
  obtain ⟨c, hcl, hM, hcc, hfr⟩ := QU hR [] i h0 h1
  have hil : i.toNat < rows.length := by omega
  have hil' : i.toNat < xs.length := by omega
  have hc : c = rows[i.toNat] := by
    have h2 := hM.1
    rwa [List.getD_eq_getElem?_getD, List.getElem?_eq_getElem hil] at h2
  refine ⟨c, hcl, ?_, hcc, hfr⟩
  rw [List.getD_eq_getElem?_getD, List.getElem?_eq_getElem hil']
  exact wQ (hf _ _ _ (List.getElem?_eq_getElem hil') (by rw [hc]; exact List.getElem?_eq_getElem hil)) (fun k hk => ⟨hk.1, fun he => hk.2 (by rw [he]; simp [Value.ownBlock])⟩)
theorem Oc {ad : Addr} {n cap : Nat} (h : N d e W base ok (.slice (some ad) n cap) xs) (z : α) (i : Int) (h0 : 0 ≤ i) (h1 : i < n) :
    ∃ c, c.length = d.sz ∧ FK d W (fun k => ok k ∧ some k ≠ (Value.slice (some ad) n cap).ownBlock) (xs.getD i.toNat z) c ∧ ∀ j u, c[j]? = some u → W.cell? (ad.add (i.toNat * d.sz + j)) = some u := by
  obtain ⟨g, rfl⟩ : ∃ g, ad = ⟨g, 0, none⟩ := by
    obtain ⟨_, rows, _, hR, _⟩ := h
    exact WU hR
  obtain ⟨c, hcl, hM, hcc, _⟩ := N_elem h z i h0 h1
  refine ⟨c, hcl, wQ hM (fun k hk => ⟨hk.1, fun he => hk.2 (by simpa [Value.ownBlock] using he)⟩), fun j u hu => ?_⟩
  rw [QM, Nat.zero_add]
  exact hcc j u hu
end
end Kd
end Go.Proofs.YthicocmnefaioaaW.dw
namespace Go.Proofs.YthicocmnefaioaaW.dw
open Go.RowKit
namespace Kd
section
variable {α : Type} {d : Kd α} {W : World} {g n : Nat} {S ok : Nat → Prop} {A : Option Addr} {ad : Addr} {xs : List α}
theorem F_in (h : F d W ok A n xs) {ad : Addr} (hA : A = some ad) (hn : 0 < n) (hs : 0 < d.sz) : ok ad.block := by
  subst hA
  have hl := F_len h
  cases xs with
  | nil => simp at hl; omega
  | cons x r =>
    obtain ⟨ad', c, he, _, _, _, hin⟩ := Xi h x 0 (by omega) (by omega)
    injection he with he
    subst he
    exact hin hs
end
end Kd
end Go.Proofs.YthicocmnefaioaaW.dw
namespace Go.Proofs.YthicocmnefaioaaW.dw
open Go.RowKit
section
variable {P : Program} {ops : Array Oper} {rest : List Oper} {o : Oper} {a : Act} {Q : Exit → Act → World → Prop} {W : World}
theorem gF (hw : Region.wanted o (yielded ops a.tmps) = true) (h : wpList P ops Q ({ o with guard := none } :: rest) a W) : wpList P ops Q (o :: rest) a W := by
  have h1 : Region.wanted { o with guard := none } (yielded ops a.tmps) = true := rfl
  unfold wpList at h ⊢
  rw [if_pos h1] at h
  rw [if_pos hw]
  exact h
end
end Go.Proofs.YthicocmnefaioaaW.dw
namespace Go.Proofs.YthicocmnefaioaaW.jA
open Go.Proofs.YthicocmnefaioaaW.dw (ah)
def yD (md : Region.Mode) (o : Oper) : List Nat := (o.after.toList.filter (fun e => Region.binds md e)).map (fun e => e.on)
def LA (md : Region.Mode) (ops : Array Oper) (i : Nat) (oi : Oper) : List Nat := (List.range ops.size).filter fun j => !(j == i) && match ops[j]? with
  | some oj => !(oj.after.any (fun e => Region.binds md e && e.on == i) || oi.apart ops oj)
  | none => false
def kD (md : Region.Mode) (ops : Array Oper) : Bool × List (List Nat × List Nat) := (Region.noSelect ops, (List.range ops.size).map fun i => match ops[i]? with
  | some o => (yD md o, LA md ops i o)
  | none => ([], []))
def ql (T : List (List Nat × List Nat)) (l : List Bool) (i : Nat) : Bool := !l.getD i true && match T[i]? with
  | some r => r.1.all (fun j => l.getD j false)
  | none => false
def xH (T : List (List Nat × List Nat)) (l : List Bool) : List Nat := (List.range T.length).filter (ql T l)
def Ny (T : List (List Nat × List Nat)) (l : List Bool) (i : Nat) : Bool := match T[i]? with
  | some r => r.2.all (fun j => l.getD j true)
  | none => false
def FH (T : List (List Nat × List Nat)) (l : List Bool) : Bool := (List.range T.length).all fun j => !l.getD j false || match T[j]? with
  | some r => r.1.all (fun k => l.getD k false)
  | none => true
def CX (T : List (List Nat × List Nat)) (i : Nat) : Nat → Nat → Bool
  | 0, _ => false
  | fuel + 1, d => match T[d]? with
    | some r => r.1.any fun j => j == i || CX T i fuel j
    | none => false
def lastT (T : List (List Nat × List Nat)) (l : List Bool) (ds : List Nat) (i : Nat) : Bool := ds.all fun d => l.getD d true || CX T i T.length d
section
variable {md : Region.Mode} {ops : Array Oper} {T : Bool × List (List Nat × List Nat)} {l l' li lj lk : Array Bool} {ds : List Nat} {i j k : Nat}
theorem gd (l : Array Bool) (j : Nat) (b : Bool) : l.getD j b = l.toList.getD j b := by simp [Array.getD_eq_getD_getElem?, List.getD_eq_getElem?_getD]
theorem IE (o : Oper) (p : Nat → Bool) : o.after.all (fun e => !Region.binds md e || p e.on) = (yD md o).all p := by
  unfold yD
  rw [← Array.all_toList]
  induction o.after.toList with
  | nil => rfl
  | cons e r ih =>
    rw [List.all_cons, ih, List.filter_cons]
    cases h : Region.binds md e <;> simp
theorem UF (o : Oper) (p : Nat → Bool) : o.after.any (fun e => Region.binds md e && p e.on) = (yD md o).any p := by
  unfold yD
  rw [← Array.any_toList]
  induction o.after.toList with
  | nil => rfl
  | cons e r ih =>
    rw [List.any_cons, ih, List.filter_cons]
    cases h : Region.binds md e <;> simp
theorem tL : (kD md ops).2.length = ops.size := by simp [kD]
theorem yA {o : Oper} (h : ops[i]? = some o) : (kD md ops).2[i]? = some (yD md o, LA md ops i o) := by
  have hi := (Array.getElem?_eq_some_iff.1 h).1
  unfold kD
  rw [List.getElem?_map, List.getElem?_range hi, Option.map_some, h]
theorem yB (h : ops[i]? = none) : (kD md ops).2[i]? = none := by
  have hi : ops.size ≤ i := Array.getElem?_eq_none_iff.1 h
  exact List.getElem?_eq_none (by rw [tL]; exact hi)
theorem OV : ql (kD md ops).2 l.toList i = (!l.getD i true && ((ops[i]?).map (·.after.all fun e => !Region.binds md e || l.getD e.on false)).getD false) := by
  unfold ql
  rw [gd]
  cases h : ops[i]? with
  | none => rw [yB h]; rfl
  | some o =>
    rw [yA h]
    simp only [Option.map_some, Option.getD_some]
    rw [← IE]
    simp only [gd]
theorem ready_eq : Region.ready md ops l = xH (kD md ops).2 l.toList := by
  unfold Region.ready xH
  rw [tL]
  refine List.filter_congr (fun i _ => ?_)
  rw [OV]
theorem free_eq : Region.free md ops l i = Ny (kD md ops).2 l.toList i := by
  unfold Region.free Ny
  cases h : ops[i]? with
  | none => rw [yB h]
  | some oi =>
    rw [yA h]
    simp only [LA]
    rw [List.all_filter]
    congr 1
    funext j
    rw [gd]
    cases hj : ops[j]? with
    | none => cases (j == i) <;> cases (l.toList.getD j true) <;> simp
    | some oj =>
      cases (j == i) <;> cases (l.toList.getD j true) <;> cases (oj.after.any (fun e => Region.binds md e && e.on == i) || oi.apart ops oj) <;> simp_all
theorem UY : Region.Cw md ops l = FH (kD md ops).2 l.toList := by
  unfold Region.Cw FH
  rw [tL]
  congr 1
  funext j
  rw [gd]
  cases h : ops[j]? with
  | none => rw [yB h]
  | some o =>
    rw [yA h]
    simp only
    rw [← IE]
    simp only [gd]
theorem Mr : ∀ (fuel d : Nat), Region.qK md ops i fuel d = CX (kD md ops).2 i fuel d
  | 0, _ => rfl
  | fuel + 1, d => by
    unfold Region.qK CX
    cases h : ops[d]? with
    | none => rw [yB h]
    | some o =>
      rw [yA h]
      simp only
      rw [← UF]
      congr 1
      funext e
      rw [Mr fuel]
theorem Yb : Region.lastB md ops l ds i = lastT (kD md ops).2 l.toList ds i := by
  unfold Region.lastB lastT
  rw [tL]
  congr 1
  funext d
  rw [gd, Mr]
theorem Dt (h : ql T.2 l.toList i = true) (hT : kD md ops = T) : (Region.ready md ops l).contains i = true := by
  subst hT
  rw [ready_eq]
  unfold xH
  rw [List.contains_iff_mem, List.mem_filter, List.mem_range]
  refine ⟨?_, h⟩
  unfold ql at h
  rw [Bool.and_eq_true] at h
  cases hq : (kD md ops).2[i]? with
  | none => rw [hq] at h; simp at h
  | some r => exact (List.getElem?_eq_some_iff.1 hq).1
theorem OU (h : (l.toList.set i true == l'.toList) = true) : (l.setIfInBounds i true == l') = true := by
  rw [beq_iff_eq] at h ⊢
  apply Array.ext'
  rw [Array.toList_setIfInBounds]
  exact h
def anyT (T : Bool × List (List Nat × List Nat)) (l l' : List Bool) (i : Nat) : Bool := T.1 && Ny T.2 l i && ql T.2 l i && (l.set i true == l')
theorem WH (hT : kD md ops = T) (h : anyT T l.toList l'.toList i = true) : anyB md ops l l' i = true := by
  simp only [anyT, Bool.and_eq_true] at h
  obtain ⟨⟨⟨h1, h2⟩, h3⟩, h4⟩ := h
  have h5 := Dt h3 hT
  have h6 := OU h4
  subst hT
  simp only [anyB, Bool.and_eq_true]
  exact ⟨⟨⟨h1, by rw [free_eq]; exact h2⟩, h5⟩, h6⟩
def U7 (T : Bool × List (List Nat × List Nat)) (ds : List Nat) (l l' : List Bool) (i : Nat) : Bool := T.1 && Ny T.2 l i && ql T.2 l i && FH T.2 l && lastT T.2 l ds i && (l.set i true == l')
theorem X4 (hT : kD md ops = T) (h : U7 T ds l.toList l'.toList i = true) : takeB md ops ds l l' i = true := by
  simp only [U7, Bool.and_eq_true] at h
  obtain ⟨⟨⟨⟨⟨h1, h2⟩, h3⟩, h4⟩, h5⟩, h6⟩ := h
  have h7 := Dt h3 hT
  have h8 := OU h6
  subst hT
  simp only [takeB, Bool.and_eq_true]
  exact ⟨⟨⟨⟨⟨h1, by rw [free_eq]; exact h2⟩, h7⟩, by rw [UY]; exact h4⟩, by rw [Yb]; exact h5⟩, h8⟩
theorem Vf (hT : kD md ops = T) (h : (xH T.2 l.toList == [i] && l.toList.set i true == l'.toList) = true) : CW md ops l l' i = true := by
  simp only [Bool.and_eq_true] at h
  obtain ⟨h1, h2⟩ := h
  subst hT
  simp only [CW, Bool.and_eq_true]
  exact ⟨by rw [ready_eq]; exact h1, OU h2⟩
theorem j5 (hT : kD md ops = T) (h : (xH T.2 l.toList == []) = true) : (Region.ready md ops l == []) = true := by
  subst hT
  rw [ready_eq]
  exact h
def upM (B : List Nat) (d : Nat) : List Nat → Nat
  | [] => 0
  | n :: r => (2 ^ n ||| (if n < d then B.getD n 0 else 0)) ||| upM B d r
def jS (T : List (List Nat × List Nat)) (B : List Nat) : Bool := (List.range T.length).all fun d => match T[d]? with
  | some r => (B.getD d 0 ||| upM B d r.1) == upM B d r.1
  | none => false
theorem vG {B : List Nat} {d i : Nat} : ∀ {ns : List Nat}, (upM B d ns).testBit i = true → ∃ n ∈ ns, n = i ∨ (n < d ∧ (B.getD n 0).testBit i = true)
  | [], h => by simp [upM] at h
  | n :: r, h => by
    unfold upM at h
    rw [Nat.testBit_or, Nat.testBit_or, Bool.or_eq_true, Bool.or_eq_true] at h
    rcases h with (h | h) | h
    · rw [Nat.testBit_two_pow] at h
      exact ⟨n, List.mem_cons_self, .inl (by simpa using h)⟩
    · by_cases hn : n < d
      · rw [if_pos hn] at h
        exact ⟨n, List.mem_cons_self, .inr ⟨hn, h⟩⟩
      · rw [if_neg hn] at h
        simp at h
    · obtain ⟨m, hm, h2⟩ := vG h
      exact ⟨m, List.mem_cons_of_mem _ hm, h2⟩
theorem Iz {T : List (List Nat × List Nat)} {B : List Nat} (hB : jS T B = true) : ∀ (fuel d : Nat), d < fuel → d < T.length → (B.getD d 0).testBit i = true → CX T i fuel d = true
  | 0, d, h, _, _ => by omega
  | fuel + 1, d, h, hd, hb => by
    have h1 := List.all_eq_true.1 hB d (List.mem_range.2 hd)
    cases hr : T[d]? with
    | none => rw [hr] at h1; simp at h1
    | some r =>
      rw [hr] at h1
      simp only [beq_iff_eq] at h1
      have h2 : (upM B d r.1).testBit i = true := by rw [← h1, Nat.testBit_or, hb, Bool.true_or]
      obtain ⟨n, hn, h3⟩ := vG h2
      unfold CX
      rw [hr]
      simp only
      rw [List.any_eq_true]
      refine ⟨n, hn, ?_⟩
      rcases h3 with rfl | ⟨h4, h5⟩
      · simp
      · rw [Iz hB fuel n (by omega) (by omega) h5, Bool.or_true]
def lastW (T : List (List Nat × List Nat)) (B : List Nat) (l : List Bool) (ds : List Nat) (i : Nat) : Bool := ds.all fun d => l.getD d true || (decide (d < T.length) && (B.getD d 0).testBit i)
def U6 (T : Bool × List (List Nat × List Nat)) (B : List Nat) (ds : List Nat) (l l' : List Bool) (i : Nat) : Bool := T.1 && Ny T.2 l i && ql T.2 l i && FH T.2 l && lastW T.2 B l ds i && (l.set i true == l')
theorem U5 {B : List Nat} (hT : kD md ops = T) (hB : jS T.2 B = true) (h : U6 T B ds l.toList l'.toList i = true) : takeB md ops ds l l' i = true := by
  refine X4 hT ?_
  simp only [U6, U7, Bool.and_eq_true] at h ⊢
  obtain ⟨⟨⟨⟨⟨h1, h2⟩, h3⟩, h4⟩, h5⟩, h6⟩ := h
  refine ⟨⟨⟨⟨⟨h1, h2⟩, h3⟩, h4⟩, ?_⟩, h6⟩
  unfold lastW at h5
  unfold lastT
  rw [List.all_eq_true] at h5 ⊢
  intro d hd
  have h7 := h5 d hd
  rw [Bool.or_eq_true, Bool.and_eq_true, decide_eq_true_eq] at h7
  rcases h7 with h7 | ⟨h8, h9⟩
  · rw [h7, Bool.true_or]
  · rw [Iz hB _ d h8 h8 h9, Bool.or_true]
theorem iE {P : Program} {Q : Exit → Act → World → Prop} {S : World → Prop} {n : Nat} {a : Act} {w : World} {B : List Nat} (hT : kD md ops = T) (hB : jS T.2 B = true) (h : ah (kD md ops = T) → ah (jS T.2 B = true) → eF P md ops Q S ds n l a w) : eF P md ops Q S ds n l a w := h ⟨hT⟩ ⟨hB⟩
end
def zH : Code → Nat → Option (Array Oper)
  | .region id ops _, k => if id == k then some ops else none
  | .seq a b, k => match zH a k with
    | some o => some o
    | none => zH b k
  | .cond _ a b, k => match zH a k with
    | some o => some o
    | none => zH b k
  | .block _ c, k => zH c k
  | .loop c, k => zH c k
  | .scope c, k => zH c k
  | .rangeFunc _ _ a b, k => match zH a k with
    | some o => some o
    | none => zH b k
  | _, _ => none
def opsOf (f : Func) (k : Nat) : Array Oper := ((f.body.bind fun c => zH c k)).getD #[]
end Go.Proofs.YthicocmnefaioaaW.jA
namespace Go.Proofs.YthicocmnefaioaaW.jA
def up (b : Nat → Bool) (i : Nat) : Nat → Bool := fun j => if j = i then true else b j
theorem mK (b : Nat → Bool) (i : Nat) : up b i i = true := by simp [up]
theorem FY {b : Nat → Bool} {i j : Nat} (h : j ≠ i) : up b i j = b j := by simp [up, h]
def lof (n : Nat) (O : List Nat) (b : Nat → Bool) : List Bool := (List.range n).map fun j => if O.contains j then b j else true
def kE (a : Act) (b : Nat → Bool) : List (Nat × Tmp × Value) → Act
  | [] => a
  | e :: r => kE (if b e.1 = true then a.put (some e.2.1) e.2.2 else a) b r
section
variable {P : Program} {ops : Array Oper} {Q : Exit → Act → World → Prop} {md : Region.Mode} {T : Bool × List (List Nat × List Nat)} {B : List Nat} {O : List Nat} {b : Nat → Bool} {i j n : Nat}
theorem PO : (lof n O b).length = n := by simp [lof]
theorem Ef {d : Bool} (hj : j < n) : (lof n O b).getD j d = if O.contains j then b j else true := by
  simp [lof, List.getD_eq_getElem?_getD, hj]
theorem lof_up (hi : O.contains i = true) : (lof n O b).set i true = lof n O (up b i) := by
  apply List.ext_getElem?
  intro j
  by_cases hj : j < n
  · by_cases hij : i = j
    · subst hij
      have hl : i < (lof n O b).length := by rw [PO]; exact hj
      rw [List.getElem?_set_self hl]
      simp only [lof, List.getElem?_map, List.getElem?_range hj, Option.map_some, hi, if_true, mK]
    · rw [List.getElem?_set_ne hij]
      simp only [lof, List.getElem?_map, List.getElem?_range hj, Option.map_some]
      rw [FY (Ne.symm hij)]
  · rw [List.getElem?_eq_none (by simp [lof]; omega), List.getElem?_eq_none (by simp [lof]; omega)]
def zU (P : Program) (ops : Array Oper) (Q : Exit → Act → World → Prop) (B : List Nat) (O : List Nat) (I : (Nat → Bool) → Act → World → Prop) (i : Nat) : Prop :=
  ∀ b a w, I b a w → b i = false → (∀ j, (O.contains j && (B.getD i 0).testBit j) = true → b j = true) → (∀ d, (O.contains d && (B.getD d 0).testBit i) = true → b d = false) →
    ∃ oi, ops[i]? = some oi ∧ ∀ K : Act → World → Prop, Shut (∀ a' w', I (up b i) a' w' → K a' w') → if Region.wanted oi (yielded ops a.tmps) = true then Oper.wp P oi a w K Q else K (a.put oi.dst undef) w
theorem Iq {I : (Nat → Bool) → Act → World → Prop} : ∀ i ∈ ([] : List Nat), zU P ops Q B O I i := fun _ h => by cases h
theorem gD {I : (Nat → Bool) → Act → World → Prop} {rs : List Nat} (h : zU P ops Q B O I i) (hs : ∀ j ∈ rs, zU P ops Q B O I j) : ∀ j ∈ i :: rs, zU P ops Q B O I j := fun j hj => by
  rcases List.mem_cons.1 hj with rfl | hj
  · exact h
  · exact hs j hj
def sQ (T : List (List Nat × List Nat)) (O : List Nat) : Bool :=
  (List.range T.length).all (fun d => match T[d]? with
    | some r => (O.contains d || r.1.all fun n => !O.contains n) && r.1.all fun n => decide (n < d)
    | none => false) && O.all (fun i => decide (i < T.length)) && decide O.Nodup
theorem qg {T : List (List Nat × List Nat)} (h : sQ T O = true) {d : Nat} {r : List Nat × List Nat} (hr : T[d]? = some r) : (O.contains d = false → ∀ n ∈ r.1, O.contains n = false) ∧ ∀ n ∈ r.1, n < d := by
  simp only [sQ, Bool.and_eq_true] at h
  have h1 := List.all_eq_true.1 h.1.1 d (List.mem_range.2 (List.getElem?_eq_some_iff.1 hr).1)
  rw [hr] at h1
  simp only [Bool.and_eq_true, Bool.or_eq_true, List.all_eq_true, decide_eq_true_eq] at h1
  refine ⟨fun hd n hn => ?_, h1.2⟩
  rcases h1.1 with h2 | h2
  · rw [hd] at h2; cases h2
  · simpa using h2 n hn
theorem IZ {T : List (List Nat × List Nat)} (h : sQ T O = true) {i : Nat} (hi : i ∈ O) : i < T.length := by
  simp only [sQ, Bool.and_eq_true] at h
  simpa using List.all_eq_true.1 h.1.2 i hi
theorem LH {T : List (List Nat × List Nat)} (h : sQ T O = true) : O.Nodup := by
  simp only [sQ, Bool.and_eq_true] at h
  exact of_decide_eq_true h.2
def Closed (T : List (List Nat × List Nat)) (O : List Nat) (b : Nat → Bool) : Prop := ∀ d r, T[d]? = some r → O.contains d = true → b d = true → ∀ n ∈ r.1, O.contains n = true → b n = true
theorem NV {T : List (List Nat × List Nat)} (hw : jS T B = true) (hk : sQ T O = true) : ∀ (m d : Nat), d ≤ m → d < T.length → O.contains d = false → ∀ j, (B.getD d 0).testBit j = true → O.contains j = false := by
  intro m
  induction m with
  | zero =>
    intro d hd hl hO j hj
    have hd0 : d = 0 := by omega
    subst hd0
    have hr : T[0]? = some T[0] := List.getElem?_eq_getElem hl
    have h1 := List.all_eq_true.1 hw 0 (List.mem_range.2 hl)
    rw [hr] at h1
    simp only [beq_iff_eq] at h1
    have h2 : (upM B 0 T[0].1).testBit j = true := by rw [← h1, Nat.testBit_or, hj, Bool.true_or]
    obtain ⟨n, hn, h3⟩ := vG h2
    have := (qg hk hr).2 n hn
    omega
  | succ m ih =>
    intro d hd hl hO j hj
    have hr : T[d]? = some T[d] := List.getElem?_eq_getElem hl
    have h1 := List.all_eq_true.1 hw d (List.mem_range.2 hl)
    rw [hr] at h1
    simp only [beq_iff_eq] at h1
    have h2 : (upM B d T[d].1).testBit j = true := by rw [← h1, Nat.testBit_or, hj, Bool.true_or]
    obtain ⟨n, hn, h3⟩ := vG h2
    have hO2 := (qg hk hr).1 hO n hn
    rcases h3 with rfl | ⟨h4, h5⟩
    · exact hO2
    · exact ih n (by omega) (by omega) hO2 j h5
theorem DC {T : List (List Nat × List Nat)} (hw : jS T B = true) (hk : sQ T O = true) (hc : Closed T O b) : ∀ (m d : Nat), d ≤ m → d < T.length → O.contains d = true → b d = true → ∀ j, O.contains j = true → (B.getD d 0).testBit j = true → b j = true := by
  intro m
  induction m with
  | zero =>
    intro d hd hl hO hb j hjO hj
    have hd0 : d = 0 := by omega
    subst hd0
    have hr : T[0]? = some T[0] := List.getElem?_eq_getElem hl
    have h1 := List.all_eq_true.1 hw 0 (List.mem_range.2 hl)
    rw [hr] at h1
    simp only [beq_iff_eq] at h1
    have h2 : (upM B 0 T[0].1).testBit j = true := by rw [← h1, Nat.testBit_or, hj, Bool.true_or]
    obtain ⟨n, hn, h3⟩ := vG h2
    have := (qg hk hr).2 n hn
    omega
  | succ m ih =>
    intro d hd hl hO hb j hjO hj
    have hr : T[d]? = some T[d] := List.getElem?_eq_getElem hl
    have h1 := List.all_eq_true.1 hw d (List.mem_range.2 hl)
    rw [hr] at h1
    simp only [beq_iff_eq] at h1
    have h2 : (upM B d T[d].1).testBit j = true := by rw [← h1, Nat.testBit_or, hj, Bool.true_or]
    obtain ⟨n, hn, h3⟩ := vG h2
    rcases h3 with rfl | ⟨h4, h5⟩
    · exact hc d _ hr hO hb n hn hjO
    · cases hO2 : O.contains n with
      | true => exact ih n (by omega) (by omega) hO2 (hc d _ hr hO hb n hn hO2) j hjO h5
      | false =>
        have := NV hw hk n n (Nat.le_refl _) (by omega) hO2 j h5
        rw [hjO] at this
        cases this
theorem Mh : ∀ {O : List Nat}, O.Nodup → i ∈ O → b i = false → (O.filter fun j => !up b i j).length + 1 = (O.filter fun j => !b j).length
  | [], _, hi, _ => by cases hi
  | x :: r, hn, hi, hb => by
    rw [List.nodup_cons] at hn
    rcases List.mem_cons.1 hi with rfl | hi
    · have h1 : (r.filter fun j => !up b i j) = r.filter fun j => !b j := by
        refine List.filter_congr (fun j hj => ?_)
        rw [FY (fun e => hn.1 (by rw [← e]; exact hj))]
      rw [List.filter_cons, List.filter_cons]
      simp [mK, hb, h1]
    · have hxi : x ≠ i := fun e => hn.1 (e ▸ hi)
      have h1 := Mh hn.2 hi hb
      rw [List.filter_cons, List.filter_cons, FY hxi]
      cases hbx : b x
      · simp only [Bool.not_false, if_true, List.length_cons]
        omega
      · simpa using h1
theorem Yc (hT : kD md ops = T) (hw : jS T.2 B = true) (hk : sQ T.2 O = true) (I : (Nat → Bool) → Act → World → Prop) (hs : ∀ i ∈ O, zU P ops Q B O I i)
    (hend : ∀ b a w, (∀ j, O.contains j = true → b j = true) → I b a w → Q .normal a w) :
    ∀ (m : Nat) (b : Nat → Bool) (a : Act) (w : World), (O.filter fun j => !b j).length = m → Closed T.2 O b → I b a w → eF P md ops Q (fun _ => True) [] m (lof T.2.length O b).toArray a w := by
  subst hT
  have Ga : ∀ {b : Nat → Bool} {i : Nat}, i ∈ Region.ready md ops (lof (kD md ops).2.length O b).toArray → i < (kD md ops).2.length ∧ O.contains i = true ∧ b i = false ∧ ∀ r, (kD md ops).2[i]? = some r → ∀ n ∈ r.1, n < (kD md ops).2.length → O.contains n = true → b n = true := by
    intro b i hi
    rw [ready_eq] at hi
    unfold xH at hi
    rw [List.mem_filter, List.mem_range] at hi
    obtain ⟨hl, h1⟩ := hi
    unfold ql at h1
    rw [Bool.and_eq_true, Ef hl] at h1
    obtain ⟨h2, h3⟩ := h1
    have h4 : O.contains i = true := by
      cases h : O.contains i with
      | true => rfl
      | false => rw [h] at h2; simp at h2
    rw [h4] at h2
    refine ⟨hl, h4, by simpa using h2, fun r hr n hn hnl hO => ?_⟩
    rw [hr] at h3
    simp only [List.all_eq_true] at h3
    have h5 := h3 n hn
    rw [Ef hnl, hO] at h5
    simpa using h5
  intro m
  induction m with
  | zero =>
    intro b a w hm hc hI
    have hall : ∀ j, O.contains j = true → b j = true := by
      intro j hj
      cases hb : b j with
      | true => rfl
      | false =>
        have : j ∈ O.filter fun j => !b j := List.mem_filter.2 ⟨List.contains_iff_mem.1 hj, by simp [hb]⟩
        rw [List.eq_nil_of_length_eq_zero hm] at this
        cases this
    refine ⟨?_, hend b a w hall hI⟩
    refine List.eq_nil_iff_forall_not_mem.2 (fun i hi => ?_)
    obtain ⟨_, h1, h2, _⟩ := Ga hi
    rw [hall i h1] at h2
    cases h2
  | succ m ih =>
    intro b a w hm hc hI
    refine ⟨fun hr => ?_, fun i hi => ?_⟩
    · exfalso
      -- the smallest number that isn't listed is ready
      have hex : ∃ i, O.contains i = true ∧ b i = false := by
        cases hf : O.filter (fun j => !b j) with
        | nil => rw [hf] at hm; simp at hm
        | cons x r =>
          have hx : x ∈ O.filter (fun j => !b j) := by rw [hf]; exact List.mem_cons_self
          rw [List.mem_filter] at hx
          exact ⟨x, List.contains_iff_mem.2 hx.1, by simpa using hx.2⟩
      have hmin : ∀ k, (∃ i, i ≤ k ∧ O.contains i = true ∧ b i = false) → ∃ i, O.contains i = true ∧ b i = false ∧ ∀ j, j < i → O.contains j = true → b j = true := by
        intro k
        induction k with
        | zero =>
          rintro ⟨i, hi, h1, h2⟩
          exact ⟨i, h1, h2, fun j hj => by omega⟩
        | succ k ihk =>
          rintro ⟨i, hi, h1, h2⟩
          by_cases hlow : ∃ j, j ≤ k ∧ O.contains j = true ∧ b j = false
          · exact ihk hlow
          · refine ⟨i, h1, h2, fun j hj hO => ?_⟩
            cases hb : b j with
            | true => rfl
            | false => exact absurd ⟨j, by omega, hO, hb⟩ hlow
      obtain ⟨i0, h1, h2⟩ := hex
      obtain ⟨i, hO, hb, hlow⟩ := hmin i0 ⟨i0, Nat.le_refl _, h1, h2⟩
      have hl := IZ hk (List.contains_iff_mem.1 hO)
      have hin : i ∈ Region.ready md ops (lof (kD md ops).2.length O b).toArray := by
        rw [ready_eq]
        unfold xH
        rw [List.mem_filter, List.mem_range]
        refine ⟨hl, ?_⟩
        unfold ql
        rw [Ef hl, hO, hb]
        have hr2 : (kD md ops).2[i]? = some (kD md ops).2[i] := List.getElem?_eq_getElem hl
        rw [hr2]
        simp only [if_true, Bool.not_false, Bool.true_and, List.all_eq_true]
        intro n hn
        have hni := (qg hk hr2).2 n hn
        rw [Ef (by omega)]
        cases hOn : O.contains n with
        | true => simpa using hlow n hni hOn
        | false => simp
      rw [hr] at hin
      cases hin
    · obtain ⟨hl, hO, hb, Vr⟩ := Ga hi
      have hon : ∀ j, (O.contains j && (B.getD i 0).testBit j) = true → b j = true := by
        intro j hj
        rw [Bool.and_eq_true] at hj
        have hr2 : (kD md ops).2[i]? = some (kD md ops).2[i] := List.getElem?_eq_getElem hl
        have h1 := List.all_eq_true.1 hw i (List.mem_range.2 hl)
        rw [hr2] at h1
        simp only [beq_iff_eq] at h1
        have h2 : (upM B i (kD md ops).2[i].1).testBit j = true := by rw [← h1, Nat.testBit_or, hj.2, Bool.true_or]
        obtain ⟨n, hn, h3⟩ := vG h2
        have hni := (qg hk hr2).2 n hn
        rcases h3 with rfl | ⟨h4, h5⟩
        · exact Vr _ hr2 n hn (by omega) hj.1
        · cases hO2 : O.contains n with
          | true => exact DC hw hk hc n n (Nat.le_refl _) (by omega) hO2 (Vr _ hr2 n hn (by omega) hO2) j hj.1 h5
          | false =>
            have := NV hw hk n n (Nat.le_refl _) (by omega) hO2 j h5
            rw [hj.1] at this
            cases this
      have hoff : ∀ d, (O.contains d && (B.getD d 0).testBit i) = true → b d = false := by
        intro d hd
        rw [Bool.and_eq_true] at hd
        cases hbd : b d with
        | false => rfl
        | true =>
          have hdl := IZ hk (List.contains_iff_mem.1 hd.1)
          have := DC hw hk hc d d (Nat.le_refl _) hdl hd.1 hbd i hO hd.2
          rw [hb] at this
          cases this
      obtain ⟨oi, hoi, hK⟩ := hs i (List.contains_iff_mem.1 hO) b a w hI hb hon hoff
      refine wpOp_step hoi (fun K' hK' => hK K' (fun a' w' hI' => hK' a' w' ⟨fun _ _ => trivial, ?_⟩))
      have hset : (lof (kD md ops).2.length O b).toArray.setIfInBounds i true = (lof (kD md ops).2.length O (up b i)).toArray := by
        apply Array.ext'
        rw [Array.toList_setIfInBounds]
        exact lof_up hO
      rw [hset]
      refine ih (up b i) a' w' ?_ ?_ hI'
      · have := Mh (LH hk) (List.contains_iff_mem.1 hO) hb
        omega
      · intro d r hr hOd hbd n hn hOn
        by_cases hni : n = i
        · rw [hni, mK]
        · rw [FY hni]
          by_cases hdi : d = i
          · subst hdi
            exact Vr r hr n hn (by have := (qg hk hr).2 n hn; omega) hOn
          · rw [FY hdi] at hbd
            exact hc d r hr hOd hbd n hn hOn
theorem kS {b : Nat → Bool} {t : Tmp} : ∀ {L : List (Nat × Tmp × Value)} {a : Act}, (L.all fun e => !(e.2.1 == t)) = true → (kE a b L).tmps[t]? = a.tmps[t]?
  | [], _, _ => rfl
  | e :: r, a, h => by
    rw [List.all_cons, Bool.and_eq_true] at h
    have he : e.2.1 ≠ t := by simpa using h.1
    unfold kE
    by_cases hb : b e.1 = true
    · rw [if_pos hb, kS h.2]
      simp [Act.put, Array.getElem?_setIfInBounds_ne he]
    · rw [if_neg hb]
      exact kS h.2
theorem iJ {b : Nat → Bool} {e : Nat × Tmp × Value} : ∀ {L : List (Nat × Tmp × Value)} {a : Act} (k : Nat), L[k]? = some e → ((L.drop (k + 1)).all fun x => !(x.2.1 == e.2.1)) = true → b e.1 = true → Nat.ble (e.2.1 + 1) a.tmps.size = true → (kE a b L).tmps[e.2.1]? = some e.2.2
  | [], _, _, h, _, _, _ => by cases h
  | x :: r, a, 0, h, hd, hb, ht => by
    simp only [List.getElem?_cons_zero, Option.some.injEq] at h
    subst h
    unfold kE
    rw [if_pos hb, kS (by simpa using hd)]
    have ht2 : x.2.1 < a.tmps.size := Nat.le_of_ble_eq_true ht
    simp [Act.put, ht2]
  | x :: r, a, k + 1, h, hd, hb, ht => by
    unfold kE
    refine iJ k (by simpa using h) (by simpa using hd) hb ?_
    by_cases hx : b x.1 = true
    · rw [if_pos hx]
      simpa [Act.put] using ht
    · rw [if_neg hx]
      exact ht
theorem put_comm {a : Act} {s t : Tmp} {u v : Value} (h : s ≠ t) : (a.put (some s) u).put (some t) v = (a.put (some t) v).put (some s) u := by
  simp only [Act.put]
  rw [Array.setIfInBounds_comm _ _ h]
theorem zR {b : Nat → Bool} {t : Tmp} {v : Value} : ∀ {L : List (Nat × Tmp × Value)} {a : Act}, (L.all fun e => !(e.2.1 == t)) = true → (kE a b L).put (some t) v = kE (a.put (some t) v) b L
  | [], _, _ => rfl
  | e :: r, a, h => by
    rw [List.all_cons, Bool.and_eq_true] at h
    have he : e.2.1 ≠ t := by simpa using h.1
    unfold kE
    by_cases hb : b e.1 = true
    · rw [if_pos hb, if_pos hb, zR h.2, put_comm he]
    · rw [if_neg hb, if_neg hb]
      exact zR h.2
theorem xI {b : Nat → Bool} {i : Nat} : ∀ {L : List (Nat × Tmp × Value)} {a : Act}, (L.all fun e => !(e.1 == i)) = true → kE a (up b i) L = kE a b L
  | [], _, _ => rfl
  | e :: r, a, h => by
    rw [List.all_cons, Bool.and_eq_true] at h
    have he : e.1 ≠ i := by simpa using h.1
    unfold kE
    rw [FY he]
    exact xI h.2
theorem IB {b : Nat → Bool} {i : Nat} {t : Tmp} {v0 v : Value} : ∀ {L1 L2 : List (Nat × Tmp × Value)} {a : Act}, b i = false → ((L1 ++ L2).all fun e => !(e.1 == i) && !(e.2.1 == t)) = true →
    (kE a b (L1 ++ (i, t, v0) :: L2)).put (some t) v = kE a (up b i) (L1 ++ (i, t, v) :: L2)
  | [], L2, a, hb, h => by
    simp only [List.nil_append] at h ⊢
    have h1 : (L2.all fun e => !(e.1 == i)) = true := List.all_eq_true.2 (fun e he => by have := List.all_eq_true.1 h e he; simp only [Bool.and_eq_true] at this; exact this.1)
    have h2 : (L2.all fun e => !(e.2.1 == t)) = true := List.all_eq_true.2 (fun e he => by have := List.all_eq_true.1 h e he; simp only [Bool.and_eq_true] at this; exact this.2)
    unfold kE
    rw [if_neg (by rw [hb]; decide), if_pos (mK b i), zR h2, xI h1]
  | e :: r, L2, a, hb, h => by
    simp only [List.cons_append, List.all_cons, Bool.and_eq_true] at h
    have he : e.1 ≠ i := by simpa using h.1.1
    simp only [List.cons_append]
    unfold kE
    rw [FY he]
    exact IB hb h.2
theorem gV {b : Nat → Bool} {i : Nat} {t : Tmp} {v0 v : Value} {a : Act} {L L' : List (Nat × Tmp × Value)} (k : Nat) (hb : b i = false) (hL : L[k]? = some (i, t, v0)) (hL' : L.set k (i, t, v) = L') (hd : ((L.take k ++ L.drop (k + 1)).all fun e => !(e.1 == i) && !(e.2.1 == t)) = true) :
    (kE a b L).put (some t) v = kE a (up b i) L' := by
  have hk := (List.getElem?_eq_some_iff.1 hL).1
  have h1 : L = L.take k ++ (i, t, v0) :: L.drop (k + 1) := by
    have h2 : L[k] = (i, t, v0) := (List.getElem?_eq_some_iff.1 hL).2
    rw [← h2, List.getElem_cons_drop, List.take_append_drop]
  have h3 : L' = L.take k ++ (i, t, v) :: L.drop (k + 1) := by rw [← hL', List.set_eq_take_append_cons_drop, if_pos hk]
  rw [h3]
  conv => lhs; rw [h1]
  exact IB hb hd
theorem Du {b : Nat → Bool} {i : Nat} {L : List (Nat × Tmp × Value)} {a : Act} {v : Value} (h : (L.all fun e => !(e.1 == i)) = true) : (kE a b L).put none v = kE a (up b i) L := (xI h).symm
theorem inv_ {l : Array Bool} {fuel : Nat} {a : Act} {w : World} (O : List Nat) (I : (Nat → Bool) → Act → World → Prop) (hT : kD md ops = T) (hw : jS T.2 B = true) (hk : sQ T.2 O = true)
    (hl : (lof T.2.length O (fun _ => false) == l.toList && O.length == fuel) = true) (h0 : I (fun _ => false) a w) (hs : ∀ i ∈ O, zU P ops Q B O I i)
    (hend : ∀ b a w, (∀ j, O.contains j = true → b j = true) → I b a w → Q .normal a w) : eF P md ops Q (fun _ => True) [] fuel l a w := by
  rw [Bool.and_eq_true, beq_iff_eq, beq_iff_eq] at hl
  have h1 := Yc hT hw hk I hs hend fuel (fun _ => false) a w (by rw [← hl.2]; simp) (fun d r _ _ hb => by cases hb) h0
  have h2 : (lof T.2.length O (fun _ => false)).toArray = l := by apply Array.ext'; exact hl.1
  rw [h2] at h1
  exact h1
theorem Vp {l : Array Bool} {fuel : Nat} {a : Act} {w : World} (O : List Nat) (I : Act → (Nat → Bool) → Act → World → Prop) (hT : kD md ops = T) (hw : jS T.2 B = true) (hk : sQ T.2 O = true)
    (hl : (lof T.2.length O (fun _ => false) == l.toList && O.length == fuel) = true) (h0 : I a (fun _ => false) a w) (hs : ∀ i ∈ O, zU P ops Q B O (I a) i)
    (hend : ∀ b a' w, (∀ j, O.contains j = true → b j = true) → I a b a' w → Q .normal a' w) : eF P md ops Q (fun _ => True) [] fuel l a w := inv_ O (I a) hT hw hk hl h0 hs hend
end
end Go.Proofs.YthicocmnefaioaaW.jA
namespace Go.Proofs.YthicocmnefaioaaW.dw
open Go.RowKit
namespace Kd
section
variable {α : Type} {d : Kd α} {e base g o n cap : Nat} {ok okp : Nat → Prop} {w W : World} {v : Value} {xs : List α}
end
section
variable {α : Type} {enc : α → Value} {h1 : ∀ x, (enc x).oneCell' = true} {e base g o n cap : Nat} {ok : Nat → Prop} {W : World} {xs : List α}
end
end Kd
end Go.Proofs.YthicocmnefaioaaW.dw
namespace Go.Proofs.YthicocmnefaioaaW.dw
open Go.RowKit
namespace Kd
section
variable {α : Type} {d : Kd α} {e base n cap g : Nat} {ok ok' okp : Nat → Prop} {w w1 W : World} {v v1 : Value} {xs ys : List α}
theorem Hu {rows news : List (List Value)} (h0 : ∀ k, v.ownBlock = some k → ok k) (hl : rows.length = xs.length) (hf : ∀ (j : Nat) (x : α) (c : List Value), xs[j]? = some x → rows[j]? = some c → FK d W (fun k => ok k ∧ some k ≠ v.ownBlock) x c)
    (hl2 : news.length = ys.length) (hf2 : ∀ (j : Nat) (x : α) (c : List Value), ys[j]? = some x → news[j]? = some c → FK d W okp x c) (tF : ∀ k, okp k → ok k ∧ some k ≠ v.ownBlock) (hfresh : ∀ k, W.heap.size ≤ k → ok k)
    (hR : (raw d.sz).R e w1 base (fun _ => True) v1 (rows ++ news)) (hg : W.grownBy w1 v.ownBlock) (hat : v1.ownBlock = v.ownBlock ∨ ∃ b, v1.ownBlock = some b ∧ W.heap.size ≤ b) : N d e w1 base ok v1 (xs ++ ys) := by
  have hne : ∀ k, some k ≠ v.ownBlock → k < W.heap.size → some k ≠ v1.ownBlock := by
    intro k hk hlt
    rcases hat with hat | ⟨b, hb, hle⟩
    · rw [hat]; exact hk
    · rw [hb]
      intro he
      injection he with he
      omega
  have step : ∀ {x : α} {c : List Value} {o : Nat → Prop}, FK d W o x c → (∀ k, o k → ok k ∧ some k ≠ v.ownBlock) → FK d w1 (fun k => ok k ∧ some k ≠ v1.ownBlock) x c := by
    intro x c o hq ho
    exact wQ (FR (Hy hq) (fun k hk hlt => hg.block k hlt (ho k hk.1).2)) (fun k hk => ⟨(ho k hk.1).1, hne k (ho k hk.1).2 hk.2⟩)
  refine ⟨fun k hk => ?_, rows ++ news, by rw [List.length_append, List.length_append, hl, hl2], CY hR, fun j x c hx hc => ?_⟩
  · rcases hat with hat | ⟨b, hb, hle⟩
    · exact h0 k (hat ▸ hk)
    · rw [hb] at hk
      injection hk with hk
      exact hfresh k (by omega)
  · rcases Nat.lt_or_ge j xs.length with hlt | hge
    · rw [List.getElem?_append_left hlt] at hx
      rw [List.getElem?_append_left (by omega)] at hc
      exact step (hf j x c hx hc) (fun _ hk => hk)
    · rw [List.getElem?_append_right hge] at hx
      rw [List.getElem?_append_right (by omega), hl] at hc
      exact step (hf2 _ x c hx hc) tF
theorem FK_raw {x : α} {c : List Value} (h : FK d W ok x c) : c = c ∧ c.length = d.sz ∧ ∀ u ∈ c, u.oneCell' = true := ⟨rfl, d.nP (yc h), d.mX (yc h)⟩
theorem N_made {rows : List (List Value)} (hR : (raw d.sz).R e w1 base (fun k => k = W.heap.size) v1 rows) (hg : W.grownBy w1 none) (hat : ∃ b, v1.ownBlock = some b ∧ W.heap.size ≤ b) (hl : rows.length = xs.length) (hf : ∀ (j : Nat) (x : α) (c : List Value), xs[j]? = some x → rows[j]? = some c → FK d W okp x c)
    (hok : ∀ k, okp k → ok k) (hfresh : ok W.heap.size) : N d e w1 base ok v1 xs := by
  obtain ⟨b, hb, hle⟩ := hat
  refine ⟨fun k hk => by rw [hR.1 k hk]; exact hfresh, rows, hl, CY hR, fun j x c hx hc => ?_⟩
  refine wQ (FR (Hy (hf j x c hx hc)) (fun k hk hlt => hg.block k hlt (by simp))) (fun k hk => ⟨hok k hk.1, fun he => ?_⟩)
  rw [hb] at he
  injection he with he
  have := hk.2
  omega
theorem WZ {rows : List (List Value)} {k : Nat} (h0 : ∀ k, (Value.slice (some ⟨g, 0, none⟩) n cap).ownBlock = some k → ok k) (hl : rows.length = xs.length) (hf : ∀ (j : Nat) (x : α) (c : List Value), xs[j]? = some x → rows[j]? = some c → FK d W (fun k => ok k ∧ some k ≠ (Value.slice (some ⟨g, 0, none⟩) n cap).ownBlock) x c)
    {n' : Nat} (hR : (raw d.sz).R e w1 base (fun _ => True) (.slice (some ⟨g, 0, none⟩) n' cap) (rows.eraseIdx k)) (hg : W.grownBy w1 (some g)) : N d e w1 base ok (.slice (some ⟨g, 0, none⟩) n' cap) (xs.eraseIdx k) := by
  have hgo : ∀ m, some g = (Value.slice (some ⟨g, 0, none⟩) m cap).ownBlock := fun m => by simp [Value.ownBlock]
  refine ⟨fun b hb => h0 b (by rw [← hgo] at hb ⊢; exact hb), rows.eraseIdx k, by rw [List.length_eraseIdx, List.length_eraseIdx, hl], CY hR, fun j x c hx hc => ?_⟩
  rw [List.getElem?_eraseIdx] at hx hc
  have key : ∀ j', xs[j']? = some x → rows[j']? = some c → FK d w1 (fun k => ok k ∧ some k ≠ (Value.slice (some ⟨g, 0, none⟩) n' cap).ownBlock) x c := fun j' h1 h2 =>
    wQ (FR (hf j' x c h1 h2) (fun b hb hlt => hg.block b hlt (by rw [hgo n]; exact hb.2))) (fun b hb => ⟨hb.1, by rw [← hgo]; rw [← hgo] at hb; exact hb.2⟩)
  by_cases hjk : j < k
  · rw [if_pos hjk] at hx hc
    exact key _ hx hc
  · rw [if_neg hjk] at hx hc
    exact key _ hx hc
theorem Ux {Rr : α → List Value → Prop} {sz m : Nat} {A : Option Addr} (h : j6 Rr sz W A m ys) (hR : ∀ x c, Rr x c → c.length = sz ∧ ∀ u ∈ c, u.oneCell' = true) :
    ∃ news : List (List Value), news.length = ys.length ∧ j6 (fun x cs => cs = x ∧ cs.length = sz ∧ ∀ u ∈ cs, u.oneCell' = true) sz W A m news ∧ ∀ (j : Nat) (x : α) (c : List Value), ys[j]? = some x → news[j]? = some c → Rr x c := by
  rcases Nat.eq_zero_or_pos m with h0 | hp
  · have hy : ys = [] := List.eq_nil_of_length_eq_zero (h.1.trans h0)
    subst hy
    exact ⟨[], rfl, ⟨h0 ▸ rfl, h.2.1, fun hp => by omega⟩, fun j x c hx => by simp at hx⟩
  · obtain ⟨ad, rfl, _⟩ := h.2.2 hp
    obtain ⟨inner, hr, hc⟩ := j6.Vq h
    refine ⟨chunks sz ys.length inner, jC _ _ _, ⟨by rw [jC]; exact h.1, h.2.1, fun _ => ⟨ad, rfl, fun j p hj => ?_⟩⟩, fun j x c hx hcc => ?_⟩
    · have hjl : j < ys.length := by have := (List.getElem?_eq_some_iff.1 hj).1; rwa [jC] at this
      have hpe := sN hj
      have hq := hR _ _ (hr.2 j _ (List.getElem?_eq_getElem hjl))
      rw [← hpe] at hq
      refine ⟨p, hq.1, ⟨rfl, hq⟩, fun i u hu => ?_⟩
      have hu2 : inner[j * sz + i]? = some u := by
        rw [hpe, List.getElem?_take] at hu
        split at hu
        · rw [List.getElem?_drop] at hu
          exact hu
        · cases hu
      exact hc _ u hu2
    · rw [sN hcc]
      exact hr.2 j x hx
end
section
variable {P : Program} {ops : Array Oper} {rest : List Oper} {o : Oper} {a : Act} {Q : Exit → Act → World → Prop} {Kc : Act → World → Prop} {α : Type}
theorem Hw (d : Kd α) {w0 W : World} (base : Nat) (hgd : o.guard = none) (s x : Operand) (t e : TypeId) (z : Value) (bytes : Nat)
    (ho : o.op = .call { callee := .builtin .append, args := #[s, x], argTypes := #[t, t] })
    (ht : P.underlying t = some (.slice e)) (hinfo : (P.info? e).map (fun i => (i.zero, i.size, i.bytes)) = some (some z, d.sz, bytes)) (hz : z.cells.size = d.sz) (hs0 : 0 < d.sz) (hb0 : 0 < bytes)
    (v : Value) (xs : List α) (p : α) (cs : List Value) (ok okp : Nat → Prop) (hs : a.eval s = v) (hx : a.eval x = .slice (some ⟨W.heap.size, 0, none⟩) 1 1) (hp : FK d W okp p cs) (tF : ∀ k, okp k → ok k ∧ some k ≠ v.ownBlock) (hfresh : ∀ k, W.heap.size ≤ k → ok k)
    (HO : N d e W base ok v xs) (HB : Below base w0 W) (hbase : base ≤ W.heap.size) (hl : (xs.length + 1) * bytes ≤ 140737488355328)
    (h : ∀ v1 w1, N d e w1 base ok v1 (xs ++ [p]) → Below base w0 w1 → W.grownBy w1 v.ownBlock → (v1.ownBlock = v.ownBlock ∨ ∃ b, v1.ownBlock = some b ∧ W.heap.size ≤ b) → wpList P ops Q rest (a.put o.dst v1) w1) :
    wpList P ops Q (o :: rest) a (W.alloc (.cells cs.toArray e)) := by
  obtain ⟨h0, rows, hlr, hR, hf⟩ := HO
  refine nS (raw d.sz) base hgd s x t e z bytes ho ht hinfo hz hs0 hb0 v rows cs cs (fun _ => True) (fun _ => False) hs hx (FK_raw hp) (fun _ hk => hk.elim) (fun _ _ => trivial) (JC hR) HB hbase (by rw [hlr]; exact hl) ?_
  intro v1 w1 hr hb hg hat
  exact h v1 w1 (Hu h0 hlr hf (ys := [p]) (news := [cs]) rfl (fun j y c hy hc => by
    rcases j with _ | j
    · simp only [List.getElem?_cons_zero, Option.some.injEq] at hy hc
      rw [← hy, ← hc]; exact hp
    · simp at hy) tF hfresh hr hg hat) hb hg hat
theorem Io (d : Kd α) {w0 W : World} (base : Nat) (hgd : o.guard = none) (s x : Operand) (t e : TypeId) (z : Value) (bytes : Nat)
    (ho : o.op = .call { callee := .builtin .append, args := #[s, x], argTypes := #[t, t] })
    (ht : P.underlying t = some (.slice e)) (hinfo : (P.info? e).map (fun i => (i.zero, i.size, i.bytes)) = some (some z, d.sz, bytes)) (hz : z.cells.size = d.sz) (hs0 : 0 < d.sz) (hb0 : 0 < bytes)
    (v : Value) (xs ys : List α) (A : Option Addr) (m c : Nat) (ok okp : Nat → Prop) (hs : a.eval s = v) (hx : a.eval x = .slice A m c)
    (HO : N d e W base ok v xs) (HR : F d W okp A m ys) (tF : ∀ k, okp k → ok k ∧ some k ≠ v.ownBlock) (hfresh : ∀ k, W.heap.size ≤ k → ok k)
    (HB : Below base w0 W) (hbase : base ≤ W.heap.size) (hl : (xs.length + m) * bytes ≤ 140737488355328)
    (h : ∀ v1 w1, N d e w1 base ok v1 (xs ++ ys) → Below base w0 w1 → W.grownBy w1 v.ownBlock → (v1.ownBlock = v.ownBlock ∨ ∃ b, v1.ownBlock = some b ∧ W.heap.size ≤ b) → wpList P ops Q rest (a.put o.dst v1) w1) :
    wpList P ops Q (o :: rest) a W := by
  obtain ⟨h0, rows, hlr, hR, hf⟩ := HO
  obtain ⟨news, hnl, hnr, hnf⟩ := Ux (F_rows HR) (fun y c hk => ⟨d.nP (yc hk), d.mX (yc hk)⟩)
  refine qy (raw d.sz) base hgd s x t e z bytes ho ht hinfo hz hs0 hb0 v rows news A m c (fun _ => True) (fun _ => False) hs hx (JC hR) hnr (fun _ _ hk => hk) (fun _ hk => hk.elim) (fun _ _ => trivial) HB hbase (by rw [hlr]; exact hl) ?_
  intro v1 w1 hr hb hg hat
  exact h v1 w1 (Hu h0 hlr hf hnl hnf tF hfresh hr hg hat) hb hg hat
theorem WW (d : Kd α) {w0 W : World} (base e : Nat) (hgd : o.guard = none) {N' : Tmp} (_hd : o.dst = some N') {xs : List α} {inner : List Value} {ok okp : Nat → Prop}
    (hrun : (execOp a.eval o).run P W = .ok (.value (.slice (some ⟨W.heap.size, 0, none⟩) xs.length xs.length)) (W.alloc (.cells inner.toArray e)))
    (hrep : ig (FK d W okp) d.sz xs inner) (hok : ∀ k, okp k → ok k) (hfresh : ok W.heap.size) (HB : Below base w0 W) (hbase : base ≤ W.heap.size) (hm : xs.length ≤ 9223372036854775807)
    (h : ∀ v1 w1, N d e w1 base ok v1 xs → Below base w0 w1 → W.grownBy w1 none → (∃ b, v1.ownBlock = some b ∧ W.heap.size ≤ b) → wpList P ops Q rest (a.put o.dst v1) w1) :
    wpList P ops Q (o :: rest) a W := by
  refine CG (raw d.sz) base e hgd _hd (xs := chunks d.sz xs.length inner) (inner := inner) (ok := fun k => k = W.heap.size) (okp := fun _ => False) (by rw [jC]; exact hrun) (Mq hrep (fun y c hk => ⟨d.nP (yc hk), d.mX (yc hk)⟩)) (fun _ hk => hk.elim) rfl HB hbase (by rw [jC]; exact hm) ?_
  intro v1 w1 hr hb hg hat
  exact h v1 w1 (N_made hr hg hat (jC _ _ _) (fun j y c hy hc => by rw [sN hc]; exact hrep.2 j y hy) hok hfresh) hb hg hat
theorem zK (d : Kd α) {w0 W : World} (base : Nat) (hw : Region.wanted o (yielded ops a.tmps) = true) (s x : Operand) (t e : TypeId) (ho : o.op = .call { callee := .builtin .append, args := #[s, x], argTypes := #[t, t] })
    (ht : P.underlying t = some (.slice e)) (hinfo : (P.info? e).map (·.size) = some d.sz) {g n c k m c2 : Nat} {A : Option Addr} {xs : List α} {ok : Nat → Prop}
    (hs : a.eval s = .slice (some ⟨g, 0, none⟩) k c) (hx : a.eval x = .slice A m c2) (hA : A = if c = k + 1 then some ⟨g, 0, none⟩ else (some (⟨g, 0, none⟩ : Addr)).map (·.add ((k + 1) * d.sz))) (hm : m = n - (k + 1))
    (HO : N d e W base ok (.slice (some ⟨g, 0, none⟩) n c) xs) (hk : k < n) (HB : Below base w0 W) (hbase : base ≤ W.heap.size)
    (h : ∀ w1, N d e w1 base ok (.slice (some ⟨g, 0, none⟩) (n - 1) c) (xs.eraseIdx k) → Below base w0 w1 → W.grownBy w1 (some g) → Kc (a.put o.dst (.slice (some ⟨g, 0, none⟩) (n - 1) c)) w1) :
    if Region.wanted o (yielded ops a.tmps) = true then Oper.wp P o a W Kc Q else Kc (a.put o.dst undef) W := by
  obtain ⟨hown, rows, hl, hR, hf⟩ := HO
  exact Im (raw d.sz) base hw s x t e ho ht hinfo hs hx hA hm (JC hR) hk HB hbase (fun w1 hr hb hg => h w1 (WZ hown hl hf hr hg) hb hg)
end
end Kd
end Go.Proofs.YthicocmnefaioaaW.dw
namespace Go.Proofs.YthicocmnefaioaaW.lD
open Go.RowKit Go.Proofs.YthicocmnefaioaaW.dw
namespace Kd
open Go.Proofs.YthicocmnefaioaaW.dw.Kd
end Kd
namespace Kd
open Go.Proofs.YthicocmnefaioaaW.dw.Kd
section
variable {α : Type} {d : Kd α} {e base g N : Nat} {ok : Nat → Prop} {W w1 : World} {u v : Value} {xs : List α}
end
end Kd
theorem oH (k k' : IntKind) (x y : Int) : Builtin.max2 (.int k x) (.int k' y) = pure (.int k (if x < y then y else x)) := by simp only [Builtin.max2, gt_iff_lt]
theorem oF (k k' : IntKind) (x y : Int) : Builtin.min2 (.int k x) (.int k' y) = pure (.int k (if y < x then y else x)) := by simp only [Builtin.min2]
theorem qQ (ats : Array TypeId) (ty : TypeId) (a b : Value) : Builtin.max_ ats ty #[a, b] = (Builtin.max2 a b >>= fun s => pure s) := by simp only [Builtin.max_, List.foldlM_cons, List.foldlM_nil]
theorem qP (ats : Array TypeId) (ty : TypeId) (a b : Value) : Builtin.min_ ats ty #[a, b] = (Builtin.min2 a b >>= fun s => pure s) := by simp only [Builtin.min_, List.foldlM_cons, List.foldlM_nil]
theorem nD (ats : Array TypeId) (ty : TypeId) (a b c : Value) : Builtin.max_ ats ty #[a, b, c] = (Builtin.max2 a b >>= fun s => Builtin.max2 s c >>= fun s => pure s) := by simp only [Builtin.max_, List.foldlM_cons, List.foldlM_nil]
theorem nC (ats : Array TypeId) (ty : TypeId) (a b c : Value) : Builtin.min_ ats ty #[a, b, c] = (Builtin.min2 a b >>= fun s => Builtin.min2 s c >>= fun s => pure s) := by simp only [Builtin.min_, List.foldlM_cons, List.foldlM_nil]
theorem oG (ats : Array TypeId) (ty : TypeId) (a b c d : Value) : Builtin.max_ ats ty #[a, b, c, d] = (Builtin.max2 a b >>= fun s => Builtin.max2 s c >>= fun s => Builtin.max2 s d >>= fun s => pure s) := by simp only [Builtin.max_, List.foldlM_cons, List.foldlM_nil]
theorem oD (ats : Array TypeId) (ty : TypeId) (a b c d : Value) : Builtin.min_ ats ty #[a, b, c, d] = (Builtin.min2 a b >>= fun s => Builtin.min2 s c >>= fun s => Builtin.min2 s d >>= fun s => pure s) := by simp only [Builtin.min_, List.foldlM_cons, List.foldlM_nil]
end Go.Proofs.YthicocmnefaioaaW.lD
namespace Go.Proofs.YthicocmnefaioaaW.dw
open Go.RowKit
section
variable {P : Program} {ops : Array Oper} {rest : List Oper} {o : Oper} {a : Act} {Q : Exit → Act → World → Prop} {W : World}
theorem aT {f : FuncId} {as : Array Operand} {ts : Array TypeId} (_ho : o.op = .call { callee := .value (.func f), args := as, argTypes := ts }) (h : wpList P ops Q (o :: rest) a W) : wpList P ops Q (o :: rest) a W := h
theorem iq {b : Builtin} {xs : Array Operand} {ts : Array TypeId} (_ho : o.op = .call { callee := .builtin b, args := xs, argTypes := ts }) (h : wpList P ops Q (o :: rest) a W) : wpList P ops Q (o :: rest) a W := h
end
def mn (a b : Int) : Int := if b < a then b else a
def shl (k : IntKind) (x y : Int) : Int := k.wrap (x * 2 ^ min y.toNat k.bits)
def shr (k : IntKind) (x y : Int) : Int := x / 2 ^ min y.toNat k.bits
theorem shl_small {k : IntKind} {x y j : Int} (h : shl k x y = j) (hy : y ≤ k.bits) : k.wrap (x * 2 ^ y.toNat) = j := by rw [← h]; unfold shl; rw [Nat.min_eq_left (by omega)]
theorem Iu {k : IntKind} {x y j : Int} (h : shr k x y = j) (hy : y ≤ k.bits) : x / 2 ^ y.toNat = j := by rw [← h]; unfold shr; rw [Nat.min_eq_left (by omega)]
namespace Kd
section
variable {α : Type} {d : Kd α} {e base : Nat} {ok : Nat → Prop} {W w1 : World} {v : Value} {xs : List α}
end
section
variable {α : Type} {d : Kd α} {e base g n cap : Nat} {ok oki okp : Nat → Prop} {W : World} {xs : List α} {i : Int} {c : List Value}
end
section
variable {α : Type} {d : Kd α} {e base b b' g N : Nat} {ok ok1 : Nat → Prop} {W W2 w1 : World} {u v : Value} {xs ys : List α} {S : Nat → Prop}
theorem R_reok (hE : d.E = []) (h : d.R e W base ok1 v xs) (hok : ∀ k, v.ownBlock = some k → ok k) : d.R e W base ok v xs := dN (rU hE h) (fun k hk => hok k hk.symm)
end
end Kd
end Go.Proofs.YthicocmnefaioaaW.dw
namespace Go.Proofs.YthicocmnefaioaaW.dw
open Go.RowKit
namespace Kd
def V {α : Type} (d : Kd α) (_e : Nat) (W : World) (_base : Nat) (ok : Nat → Prop) (v : Value) (xs : List α) : Prop := ∃ A c, v = .slice A xs.length c ∧ xs.length ≤ c ∧ F d W ok A xs.length xs
section
variable {α β : Type} {d : Kd α} {e base base' n m c g N' lo hi : Nat} {ok ok' S : Nat → Prop} {w W w1 : World} {A : Option Addr} {ad : Addr} {u v v1 : Value} {xs : List α}
theorem DN (h : V d e W base ok v xs) (hF : ∀ A, F d W ok A xs.length xs → F d w1 ok' A xs.length xs) : V d e w1 base' ok' v xs := by
  obtain ⟨A, c, hv, hl, hf⟩ := h
  exact ⟨A, c, hv, hl, hF A hf⟩
theorem ou (hl : xs.length ≤ c) (hf : F d W ok A xs.length xs) : V d e W base ok (.slice A xs.length c) xs := ⟨A, c, rfl, hl, hf⟩
theorem TK (h : V d e W base ok v xs) : ∃ A c, v = .slice A xs.length c := by
  obtain ⟨A, c, hv, _⟩ := h
  exact ⟨A, c, hv⟩
theorem Il (h : V d e W base ok (.slice A n c) xs) : n = xs.length ∧ n ≤ c ∧ F d W ok A xs.length xs := by
  obtain ⟨A', c', hv, hl, hf⟩ := h
  injection hv with ha hn hc
  subst ha; subst hc
  exact ⟨hn, by rw [hn]; exact hl, hf⟩
theorem eH (h : V d e W base ok (.slice A n c) xs) : n = xs.length ∧ n ≤ c ∧ d.C W A xs.length xs := ⟨(Il h).1, (Il h).2.1, TY (Il h).2.2⟩
theorem V_F (h : V d e W base ok (.slice A n c) xs) : F d W ok A n xs := by
  obtain ⟨hn, _, hf⟩ := Il h
  rw [hn]
  exact hf
theorem I6 (d : Kd α) (e : Nat) (W : World) (base : Nat) (ok : Nat → Prop) : V d e W base ok (.slice none 0 0) [] := ⟨none, 0, rfl, Nat.le_refl _, F_nil d W ok⟩
theorem R_V (h : d.R e W base ok v xs) : V d e W base' ok v xs := by
  obtain ⟨A, c, rfl⟩ := gH h
  exact ⟨A, c, rfl, (dP h).2.1, R_F h⟩
theorem S_V (h : Kd.S d e W base ok v xs) : V d e W base' ok v xs := R_V (S_R h)
theorem N_V (h : N d e W base ok v xs) : V d e W base' ok v xs := by
  obtain ⟨A, c, rfl⟩ := rV h
  exact ⟨A, c, rfl, (jq h).2.1, N_F h⟩
theorem jr (h : V d e W base ok v xs) (hok : ∀ k, ok k → ok' k) : V d e W base ok' v xs := DN h (fun _ hf => Ma hf hok)
theorem FI (h : V d e W base ok v xs) (_ : base' ≤ base) : V d e W base' ok v xs := h
theorem nL (h : V d e W base ok v xs) (hb : Below W.heap.size W w1) : V d e w1 base ok v xs := DN h (fun _ hf => Mc hf hb)
theorem gG (h : V d e W base ok v xs) : V d e W.drew base ok v xs := DN h (fun _ hf => F_drew hf)
theorem iH (h : V d e W base ok v xs) (m : Nat) : V d e (W.drewN m) base ok v xs := DN h (fun _ hf => aat hf m)
theorem wV (h : V d e W base ok v xs) {p : Addr} (hok : ∀ k, ok k → k ≠ p.block) (u : Value) : V d e (W.setCell p u) base ok v xs := DN h (fun _ hf => F_far hf hok u)
theorem aag (h : V d e W base (fun k => ok k ∧ some k ≠ u.ownBlock) v xs) (hg : W.grownBy w1 u.ownBlock) (hat : v1.ownBlock = u.ownBlock ∨ ∃ b, v1.ownBlock = some b ∧ W.heap.size ≤ b) : V d e w1 base (fun k => ok k ∧ some k ≠ v1.ownBlock) v xs := DN h (fun _ hf => aau hf hg hat)
theorem kG (h : V d e W base (fun k => ok k ∧ some k ≠ v.ownBlock) u xs) (hg : W.grownBy w1 v.ownBlock) (hat : v1.ownBlock = v.ownBlock ∨ ∃ b, v1.ownBlock = some b ∧ W.heap.size ≤ b) : V d e w1 base (fun k => ok k ∧ some k ≠ v1.ownBlock) u xs := aag h hg hat
theorem jo (h : V d e W base ok v xs) (hbase : ∀ k, u.ownBlock = some k → W.heap.size ≤ k) (hb : Below W.heap.size W w1) : V d e w1 base (fun k => ok k ∧ some k ≠ u.ownBlock) v xs := DN h (fun _ hf => Xk hf hbase hb)
theorem NZ (h : V d e W base ok v xs) (a : Nat) (ha : W.heap.size ≤ a) : V d e W base (fun k => ok k ∧ k ≠ a) v xs := DN h (fun _ hf => Xj hf a ha)
theorem pQ (h : V d e W base ok (.slice (some ad) n c) xs) (z : α) (i : Int) (h0 : 0 ≤ i) (h1 : i < n) :
    ∃ cs, cs.length = d.sz ∧ FK d W ok (xs.getD i.toNat z) cs ∧ ∀ j u, cs[j]? = some u → W.cell? (ad.add (i.toNat * d.sz + j)) = some u := by
  obtain ⟨ad', cs, he, hcl, hK, hcc, _⟩ := Xi (V_F h) z i h0 h1
  injection he with he
  subst he
  exact ⟨cs, hcl, hK, hcc⟩
theorem QX (h : F d W ok A xs.length xs) (hm : m ≤ xs.length) : F d W ok A (xs.take m).length (xs.take m) := F_imp h (fun _ hC => C_take hC hm)
theorem Xl (h : F d W ok A xs.length xs) (hm : m ≤ xs.length) (hc : xs.length ≤ c) : F d W ok (if c = m then A else A.map (·.add (m * d.sz))) (xs.drop m).length (xs.drop m) := F_imp h (fun _ hC => C_drop hC hm hc)
theorem R_newM {M : Nat → Prop} (h : d.R e w1 W.heap.size ok v xs) (hle : w.heap.size ≤ W.heap.size) (hM : ∀ k, w.heap.size ≤ k → M k) : d.R e w1 W.heap.size (fun k => M k ∧ ok k) v xs := dN (mU h) (fun k hk => ⟨hM k (Nat.le_trans hle hk.2.1), hk.1⟩)
theorem S_newM {M : Nat → Prop} (h : Kd.S d e w1 W.heap.size ok v xs) (hle : w.heap.size ≤ W.heap.size) (hM : ∀ k, w.heap.size ≤ k → M k) : Kd.S d e w1 W.heap.size (fun k => M k ∧ ok k) v xs := uQ (TL h) (fun k hk => ⟨hM k (Nat.le_trans hle hk.2.1), hk.1⟩)
end
end Kd
end Go.Proofs.YthicocmnefaioaaW.dw
namespace Go.Proofs.YthicocmnefaioaaW.dw
open Go Go.RowKit
theorem tN : ∀ (a b : List UInt8), (!(Op.bytesLess a b || a == b)) = Op.bytesLess b a
  | [], [] => rfl
  | [], _ :: _ => by simp [Op.bytesLess]
  | _ :: _, [] => by simp [Op.bytesLess]
  | x :: a, y :: b => by
    have ih := tN a b
    by_cases h : x = y
    · subst h
      have h1 : ¬ x < x := by simp
      simp only [Op.bytesLess, h1, decide_false, Bool.false_or, beq_self_eq_true, Bool.true_and]
      rw [← ih]
      simp
    · have h2 : (x == y) = false := by simpa using h
      have h3 : (y == x) = false := by simpa using fun e => h e.symm
      have h4 : (x :: a == y :: b) = false := by simp [h]
      simp only [Op.bytesLess, h2, h3, h4, Bool.false_and, Bool.or_false]
      by_cases h5 : x < y
      · have h6 : ¬ y < x := fun h6 => absurd (UInt8.lt_trans h5 h6) (by simp)
        simp [h5, h6]
      · have h6 : y < x := by
          rcases UInt8.lt_or_lt_of_ne h with h7 | h7
          · exact absurd h7 h5
          · exact h7
        simp [h5, h6]
theorem jV (t : TypeId) (a b : ByteArray) : binOp .gtr t (.string a) (.string b) = pure (.bool (Op.bytesLess b.toList a.toList)) := by
  rw [binOp_string_gtr, tN]
theorem UD {W w1 : World} (hb : Below W.heap.size W w1) : (∀ b o, b < W.heap.size → w1.cell? ⟨b, o, none⟩ = W.cell? ⟨b, o, none⟩) ∧ (∀ b o, b < W.heap.size → w1.frozen? ⟨b, o, none⟩ = W.frozen? ⟨b, o, none⟩) :=
  ⟨fun b o h => hb.cell (p := ⟨b, o, none⟩) h, fun b o h => hb.frozen (p := ⟨b, o, none⟩) h⟩
theorem LG {w wz W : World} (hz : Below w.heap.size w wz) (h : Below wz.heap.size wz W) : Below w.heap.size w W := He hz hz.size h
structure iZ (w : World) (base : Nat) (A : Option Addr) (c n : Nat) (xs : List Int) : Prop where
  reads : (Kd.int .u8).C w A n xs
  le : n ≤ c
  blk : ∃ g cells e, A = some ⟨g, 0, none⟩ ∧ base ≤ g ∧ w.heap[g]? = some (.cells cells e (c, c + 1)) ∧ cells.size = c
theorem iZ.below {w w1 : World} {base : Nat} {A : Option Addr} {c n : Nat} {xs : List Int} (h : iZ w base A c n xs) (hb : Below w.heap.size w w1) : iZ w1 base A c n xs := by
  obtain ⟨hr, hl, g, cells, e, hA, hl2, hg, hs⟩ := h
  exact ⟨Kd.eY hr hb, hl, g, cells, e, hA, hl2, (hb.block g (Array.getElem?_eq_some_iff.1 hg).1).trans hg, hs⟩
theorem iZ.grown {w w1 : World} {base : Nat} {A : Option Addr} {c n : Nat} {xs : List Int} {row : Option Nat} {e' : Nat} (h : iZ w base A c n xs) (hg : w.grownBy w1 row) (ht : ∀ k, row = some k → ∃ cells, w.heap[k]? = some (.cells cells e' (0, 0))) : iZ w1 base A c n xs := by
  obtain ⟨hr, hl, g, cells, e, hA, hl2, hb, hs⟩ := h
  have hne : some g ≠ row := by
    intro he
    obtain ⟨c2, hc2⟩ := ht g he.symm
    rw [hb] at hc2
    injection hc2 with hc2
    injection hc2 with _ _ hf
    injection hf with h1 h2
    omega
  have hb1 : w1.heap[g]? = w.heap[g]? := hg.block g (Array.getElem?_eq_some_iff.1 hb).1 hne
  refine ⟨Kd.sW (h1 := fun _ => rfl) (d := (0 : Int)) ?_, hl, g, cells, e, hA, hl2, hb1.trans hb, hs⟩
  have h0 := Kd.sF (d := (0 : Int)) hr
  refine ⟨h0.1, h0.2.1, fun hn => ?_⟩
  obtain ⟨ad, had, hc⟩ := h0.2.2 hn
  rw [hA] at had
  injection had with had
  subst had
  refine ⟨_, hA, fun j hj => ?_⟩
  have := hc j hj
  rw [add_plain] at this ⊢
  simpa only [World.cell?, hb1] using this
theorem iZ.away {w : World} {base : Nat} {A : Option Addr} {c n : Nat} {xs : List Int} {b : Nat} {cs : Array Value} {t : TypeId} (h : iZ w base A c n xs) (hb : w.heap[b]? = some (.cells cs t (0, 0))) : some b ≠ A.map (·.block) := by
  obtain ⟨_, _, g, cells, e, hA, _, hg, _⟩ := h
  subst hA
  intro he
  injection he with he
  subst he
  rw [hb] at hg
  injection hg with hg
  injection hg with _ _ hf
  injection hf with h1 h2
  omega
theorem iZ.R_over {α : Type} {d : Kd α} {e : Nat} {w w1 : World} {base base' : Nat} {A : Option Addr} {c n : Nat} {xs : List Int} {ok : Nat → Prop} {v : Value} {ys : List α} (hc : iZ w base A c n xs) (h : d.R e w base' ok v ys) (hg : w.grownBy w1 (A.map (·.block))) : d.R e w1 base' ok v ys :=
  Kd.dN (Kd.aak (Kd.mU h) hg (fun k hk => by
    obtain ⟨_, _, _, q, _, cells, hb⟩ := hk
    exact hc.away hb)) (fun _ hk => hk.1)
section
variable {P : Program} {ops : Array Oper} {rest : List Oper} {o : Oper} {a : Act} {Q : Exit → Act → World → Prop} {W : World}
theorem xJ {N : Tmp} (hgd : o.guard = none) (_hd : o.dst = some N) (src dst e : TypeId) (x : Operand) {u : TypeDesc} (ho : o.op = .convert src dst x) (hs : P.underlying src = some u) (hdst : P.underlying dst = some (.slice e)) (he : P.underlying e = some (.int .u8)) (s : ByteArray) (hx : a.eval x = .string s) (hsz : s.size ≤ 9223372036854775807) {base : Nat} (hbase : base ≤ W.heap.size)
    (h : ∀ (A : Option Addr) (c : Nat) (w1 : World), iZ w1 base A c (bytesOf s).length (bytesOf s) → Below W.heap.size W w1 → wpList P ops Q rest (a.put o.dst (.slice A (bytesOf s).length c)) w1) : wpList P ops Q (o :: rest) a W := by
  have hr := Ms (P := P) src dst e hs hdst he s W
  have hl : (bytesOf s).length = s.size := bytesOf_length s
  have hge : s.size ≤ grownCap W s.size 0 e := grownCap_ge W _ 0 e
  have hcs : (Lib.bytesCells W e s).size = grownCap W s.size 0 e := by
    have : s.data.size = s.size := rfl
    simp only [Lib.bytesCells, Array.size_append, Array.size_map, Array.size_replicate]
    omega
  refine Kd.Di hgd (v := .slice (some ⟨W.heap.size, 0, none⟩) s.size (grownCap W s.size 0 e)) (w1 := Lib.bytesWorld W e s) ?_ ?_
  · simp [execOp, ho, hx, hr]
  · rw [← hl]
    refine h _ _ _ ?_ (NR (Below.refl _ _) (Nat.le_refl _) e s)
    have hn := Lib.bytesWorld_at_new W e s
    rw [hcs] at hn
    rw [hl]
    exact ⟨Kd.sW (h1 := fun _ => rfl) (NQ W e s hsz), hge, _, _, _, rfl, hbase, hn, hcs⟩
theorem D7 {w0 : World} (base : Nat) (hgd : o.guard = none) (s x : Operand) (t e : TypeId) (ho : o.op = .call { callee := .builtin .append, args := #[s, x], argTypes := #[t, t] })
    (ht : P.underlying t = some (.slice e)) (hinfo : (P.info? e).map (fun i => (i.zero, i.size, i.bytes)) = some (some (.int .u8 0), 1, 1))
    (A : Option Addr) (c : Nat) (xs : List Int) (y : Int) (hs : a.eval s = .slice A xs.length c) (hx : a.eval x = .slice (some ⟨W.heap.size, 0, none⟩) 1 1) (HC : iZ W base A c xs.length xs) (HB : Below base w0 W) (hbase : base ≤ W.heap.size) (hl : xs.length + 1 ≤ 140737488355328) (ys : List Int) (hys : ys = xs ++ [y])
    (h : ∀ (A1 : Option Addr) (c1 : Nat) (w1 : World), (Kd.int .u8).C w1 A1 ys.length ys → ys.length ≤ c1 → Below base w0 w1 → W.grownBy w1 (A.map (·.block)) → wpList P ops Q rest (a.put o.dst (.slice A1 ys.length c1)) w1) :
    wpList P ops Q (o :: rest) a (W.alloc (.cells #[.int .u8 y] e)) := by
  subst hys
  obtain ⟨i0, hi, hzz⟩ := Option.map_eq_some_iff.1 hinfo
  simp only [Prod.mk.injEq] at hzz
  obtain ⟨hz0, hz1, hz2⟩ := hzz
  obtain ⟨hr, hle, g, cells, e', hA, hbg, hb, hsz⟩ := HC
  subst hA
  have hglt : g < W.heap.size := (Array.getElem?_eq_some_iff.1 hb).1
  have hb' : (W.alloc (.cells #[.int .u8 y] e)).heap[g]? = some (.cells cells e' (c, c + 1)) := by
    rw [← hb]; exact (bY (Below.refl _ _) _).block g hglt
  have h0 := Kd.sF (d := (0 : Int)) (Kd.dW hr (.cells #[.int .u8 y] e))
  have holds : ∀ j u, (nums .u8 xs)[j]? = some u → (W.alloc (.cells #[.int .u8 y] e)).cell? ⟨g, 0 + j, none⟩ = some u := by
    intro j u hj
    obtain ⟨hj1, hj2⟩ := List.getElem?_eq_some_iff.1 hj
    have hj' : j < xs.length := by simpa [nums] using hj1
    obtain ⟨ad, had, hc⟩ := h0.2.2 (by omega)
    injection had with had
    subst had
    have := hc j hj'
    rw [add_plain] at this
    rw [Nat.zero_add, this, ← hj2]
    simp [nums, List.getD_eq_getElem?_getD, List.getElem?_eq_getElem hj']
  have hnew : ∀ j u, ([Value.int .u8 y] : List Value)[j]? = some u → (W.alloc (.cells #[.int .u8 y] e)).cell? ((⟨W.heap.size, 0, none⟩ : Addr).add j) = some u := by
    intro j u hj
    rw [add_plain]
    have := heap_alloc_new W (.cells #[.int .u8 y] e)
    simp only [World.cell?, this]
    simpa using hj
  have hBW : Below base w0 (W.alloc (.cells #[.int .u8 y] e)) := HB.alloc hbase _
  refine wpList_append_arg (P := P) (W.alloc (.cells #[.int .u8 y] e)) hgd s x t ho e i0 (.int .u8 0) 1 1 ht hi hz0 hz1 hz2 rfl (by omega) g 0 xs.length c (nums .u8 xs) hs (by simp [nums]) holds ⟨W.heap.size, 0, none⟩ 1 1 [.int .u8 y] hx rfl hnew (by simp [Value.oneCell']) ?_ (by simp only [maxLen]; omega) (by omega) ?_ ?_
  · intro hroom j hj
    have hj0 : j = 0 := by simpa using hj
    subst hj0
    refine ⟨?_, ?_⟩
    · simp only [World.cell?, hb']
      simp
      omega
    · simp only [World.frozen?, hb']
      simp
      omega
  · intro hroom
    have hlen : (xs ++ [y]).length = xs.length + 1 := by simp
    rw [hlen.symm] 
    refine h _ _ _ ?_ (by rw [hlen]; omega) ?_ ?_
    · refine Kd.sW (h1 := fun _ => rfl) (d := (0 : Int)) ⟨rfl, by rw [hlen]; omega, fun _ => ⟨_, rfl, fun j hj => ?_⟩⟩
      rw [add_plain]
      rw [hlen] at hj
      by_cases hj2 : j < xs.length
      · rw [World.cell?_setCells_out g _ _ _ _ (by intro _ _; left; simp; omega)]
        have := holds j _ (List.getElem?_eq_getElem (by simpa [nums] using hj2))
        rw [Nat.zero_add] at this
        rw [this]
        simp [nums, List.getD_eq_getElem?_getD, List.getElem?_append_left hj2, List.getElem?_eq_getElem hj2]
      · have hj3 : j = xs.length := by omega
        subst hj3
        have := World.cell?_setCells_in g [Value.int .u8 y] (0 + xs.length * 1) (W.alloc (.cells #[.int .u8 y] e)) (by
          intro j hj
          have hj0 : j = 0 := by simpa using hj
          subst hj0
          simp only [World.cell?, hb']
          simp
          omega) 0 (by simp)
        simp only [Nat.zero_add, Nat.mul_one, Nat.add_zero, List.getElem_cons_zero] at this
        simpa using this
    · have : ∀ (vs : List Value) (o : Nat) (w : World), Below base w0 w → Below base w0 (w.setCells g o vs) := by
        intro vs
        induction vs with
        | nil => intro o w hw; exact hw
        | cons v vs ih => intro o w hw; exact ih _ _ (hw.setCell (by simpa using hbg) _)
      exact this _ _ _ hBW
    · have hst : ∀ (vs : List Value) (o : Nat) (w : World), W.grownBy w (some g) → W.grownBy (w.setCells g o vs) (some g) := by
        intro vs
        induction vs with
        | nil => intro o w hw; exact hw
        | cons v vs ih =>
          intro o w hw
          refine ih _ _ ⟨hw.os, hw.tape, hw.output, by simpa [World.setCell] using hw.size, fun k hk hne => ?_⟩
          rw [← hw.block k hk hne]
          exact Below.heap_setCell w ⟨g, o, none⟩ v k (by intro h2; exact hne (by rw [h2]))
      exact hst _ _ _ (sK (bY (Below.refl _ _) _) _)
  · intro _ v' w' hown hgr
    have hlen : (xs ++ [y]).length = xs.length + 1 := by simp
    have hown' : w'.ownsRow (W.alloc (.cells #[.int .u8 y] e)).heap.size e 1 v' (xs.length + 1) (nums .u8 (xs ++ [y])) := by rw [nums_append]; exact hown
    obtain ⟨A1, c1, he, hrd⟩ := UC hown'
    have hc1 : xs.length + 1 ≤ c1 := by
      rcases hown'.2 with ⟨_, h2⟩ | ⟨g', cap', cur', he', _, _, h2, _⟩
      · omega
      · rw [he] at he'
        injection he' with _ _ h3
        omega
    rw [he, hlen.symm]
    refine h _ _ _ (Kd.sW (h1 := fun _ => rfl) (d := (0 : Int)) (by rw [hlen]; exact hrd)) (by rw [hlen]; exact hc1) ?_ ?_
    · exact F5 hBW none (Nat.le_trans hbase (bY (Below.refl W.heap.size W) (.cells #[.int .u8 y] e)).size) hgr (by intro k hk; cases hk)
    · have hal := sK (bY (Below.refl W.heap.size W) (.cells #[.int .u8 y] e)) (some g)
      exact ⟨hgr.os.trans hal.os, hgr.tape.trans hal.tape, hgr.output.trans hal.output, Nat.le_trans hal.size hgr.size, fun k hk hne => (hgr.block k (Nat.lt_of_lt_of_le hk hal.size) (by simp)).trans (hal.block k hk hne)⟩
end
end Go.Proofs.YthicocmnefaioaaW.dw
namespace Go.Proofs.YthicocmnefaioaaW.jA
open Go Go.RowKit Go.Proofs.YthicocmnefaioaaW.dw
section
variable {P : Program} {ops : Array Oper} {Q : Exit → Act → World → Prop}
end
end Go.Proofs.YthicocmnefaioaaW.jA
namespace Go.Proofs.YthicocmnefaioaaW.dw
open Go.RowKit
theorem Vd {n : Nat} {i : Int} (h1 : (i < (n : Int)) = True) (h2 : (0 ≤ i) = True) : 0 < n := by
  have := of_eq_true h1
  have := of_eq_true h2
  omega
theorem Ao {α : Type} {d : Kd α} {e base n c g : Nat} {ok : Nat → Prop} {W : World} {ad : Addr} {xs : List α} (h : Kd.V d e W base ok (.slice (some ad) n c) xs) (hok : ∀ k, ok k → k ≠ g)
    (hn : 0 < n := by first | omega | exact Vd (by assumption) (by assumption)) (hs : 0 < d.sz := by exact of_decide_eq_true (by kernel_rfl)) : ad.block ≠ g := hok _ (Kd.F_in (Kd.V_F h) rfl hn hs)
end Go.Proofs.YthicocmnefaioaaW.dw
namespace Go.Proofs.YthicocmnefaioaaW.dw
theorem ig.one {α : Type} {R : α → List Value → Prop} {ps : List α} {cs : List Value} {p : α} {v : Value} (hp : R p [v]) (h : ig R 1 ps cs) : ig R 1 (p :: ps) (v :: cs) := by
  refine ⟨by simp [h.1], fun j q hq => ?_⟩
  cases j with
  | zero =>
    simp only [List.getElem?_cons_zero, Option.some.injEq] at hq
    subst hq
    simpa using hp
  | succ j =>
    simp only [List.getElem?_cons_succ] at hq
    have h1 := h.2 j q hq
    simpa [Nat.mul_one] using h1
theorem ig.front {α : Type} {R : α → List Value → Prop} {size : Nat} {ps : List α} {cs c all : List Value} {p : α} (hp : R p c) (hc : c.length = size) (h : ig R size ps cs) (ha : c ++ cs = all) : ig R size (p :: ps) all := by
  subst ha
  refine ⟨by rw [List.length_append, hc, h.1, List.length_cons, Nat.succ_mul, Nat.add_comm], fun j q hq => ?_⟩
  cases j with
  | zero =>
    simp only [List.getElem?_cons_zero, Option.some.injEq] at hq
    subst hq
    rw [Nat.zero_mul, List.drop_zero, List.take_append_of_le_length (by omega), List.take_of_length_le (by omega)]
    exact hp
  | succ j =>
    simp only [List.getElem?_cons_succ] at hq
    have h1 := h.2 j q hq
    rw [Nat.succ_mul, List.drop_append, List.drop_of_length_le (by rw [hc]; exact Nat.le_add_left _ _), List.nil_append, hc, Nat.add_sub_cancel]
    exact h1
theorem ig.c2 {α : Type} {R : α → List Value → Prop} {ps : List α} {cs : List Value} {p : α} {va vb : Value} (hp : R p [va, vb]) (h : ig R 2 ps cs) : ig R 2 (p :: ps) (va :: vb :: cs) := ig.front hp rfl h rfl
theorem ig.c3 {α : Type} {R : α → List Value → Prop} {ps : List α} {cs : List Value} {p : α} {va vb vc : Value} (hp : R p [va, vb, vc]) (h : ig R 3 ps cs) : ig R 3 (p :: ps) (va :: vb :: vc :: cs) := ig.front hp rfl h rfl
end Go.Proofs.YthicocmnefaioaaW.dw
namespace Go.Proofs.YthicocmnefaioaaW.dw
open Go.ChangeShapes Go.WideShapes
theorem OT {H : Type} {enc : TypeId × Value → H} {P : Program} {W : World} {base : Nat} {spare : Nat → Bool} {held : Bool} {t e : TypeId} {k : IntKind} {a : Option Addr} {len cap : Nat} {d : DataW H} {ps : List MemPlace} {ts : List TypeId} {ds : List (DataW H)} {j : Nat}
    (hsz : (DataW.weightsEach P ts ds).all (· ≤ reachBytes) = true) (ht : ts[j]? = some t) (hd : ds[j]? = some d) (hu : P.underlying t = some (.slice e)) (he : P.underlying e = some (.int k)) (hc : P.cellsOf e = 1) {B : Nat} (hB : P.bytesOf e = B)
    (h : DataW.Trod enc P W base spare held t (.slice a len cap) d ps) : len * B ≤ 140737488351232 := by
  obtain ⟨fuel, hf⟩ := h
  rcases open_ints hu he hc hf with ⟨hcs, _⟩ | ⟨x, l, c, zs, hcs, _, hl, _, hz, hx, _, _⟩
  · simp [Value.cells] at hcs
    obtain ⟨rfl, rfl, rfl⟩ := hcs
    simp
  · simp [Value.cells] at hcs
    obtain ⟨rfl, rfl, rfl⟩ := hcs
    obtain ⟨hx, _⟩ := Prod.mk.inj hx
    subst hx
    have z := sized_slice hsz ht hd hu
    rw [hB] at z
    have hl2 : len ≤ zs.length := by
      rw [hz]
      split
      · exact hl
      · exact Nat.le_refl _
    have h1 : (lits (H := H) k (zs.take len)).length + (lits (H := H) k (zs.drop len)).length = zs.length := by
      simp [lits]
      omega
    rw [h1] at z
    exact Nat.le_trans (Nat.mul_le_mul_right _ hl2) z
end Go.Proofs.YthicocmnefaioaaW.dw

import Derived.Shelf.SlGeneric
import Derived.Ground.SlgnProg
import Derived.Shelf.SortG.Plain
import Derived.Shelf.SortG.SortNone
import Derived.Shelf.SlicesG.CompactI
import Derived.Shelf.Lays8
import Derived.Shelf.Spec.SlicesGrow
import Derived.Test.YthicocmnefaioaaProg
import Derived.Sort.Grow
import Derived.Lib.SlicesCompact
import Derived.Lib.RowBridge
import Derived.Test.YthicocmnefaioaaZow
namespace Go.Proofs
open Go.Shelf
def Try.lsort64_ren : Go.Shelf.Ren := ⟨fun | 53 => 100 | 64 => 104 | 63 => 119 | 78 => 129 | 79 => 130 | 70 => 138 | 71 => 139 | 72 => 140 | 73 => 141 | 74 => 142 | 75 => 143 | 59 => 144 | 76 => 145 | 77 => 146 | 88 => 164 | 89 => 148 | 90 => 149 | 91 => 165 | 92 => 166 | 68 => 167 | 96 => 173 | n => n, fun | 22 => 31 | 23 => 2 | 3 => 3 | 51 => 89 | 0 => 0 | 67 => 139 | 69 => 25 | 4 => 4 | 61 => 131 | 60 => 130 | 44 => 136 | 5 => 5 | 9 => 9 | 75 => 151 | 79 => 155 | 83 => 167 | 84 => 168 | n => n, fun | n => n⟩
theorem Try.lsort64 : Go.Proofs.SlLaysN.n53 Try.prog Try.lsort64_ren := {
  mixed := by kernel_rfl
  f53 := ⟨Try.f100.name, by decide, Try.func100.trans (congrArg some (by kernel_rfl))⟩
  f59 := ⟨Try.f144.name, by decide, Try.func144.trans (congrArg some (by kernel_rfl))⟩
  f63 := ⟨Try.f119.name, by decide, Try.func119.trans (congrArg some (by kernel_rfl))⟩
  f64 := Try.func104.trans (congrArg some (by kernel_rfl))
  f68 := ⟨Try.f167.name, by decide, Try.func167.trans (congrArg some (by kernel_rfl))⟩
  f70 := ⟨Try.f138.name, by decide, Try.func138.trans (congrArg some (by kernel_rfl))⟩
  f71 := ⟨Try.f139.name, by decide, Try.func139.trans (congrArg some (by kernel_rfl))⟩
  f72 := ⟨Try.f140.name, by decide, Try.func140.trans (congrArg some (by kernel_rfl))⟩
  f73 := ⟨Try.f141.name, by decide, Try.func141.trans (congrArg some (by kernel_rfl))⟩
  f74 := ⟨Try.f142.name, by decide, Try.func142.trans (congrArg some (by kernel_rfl))⟩
  f75 := ⟨Try.f143.name, by decide, Try.func143.trans (congrArg some (by kernel_rfl))⟩
  f76 := ⟨Try.f145.name, by decide, Try.func145.trans (congrArg some (by kernel_rfl))⟩
  f77 := ⟨Try.f146.name, by decide, Try.func146.trans (congrArg some (by kernel_rfl))⟩
  f78 := Try.func129.trans (congrArg some (by kernel_rfl))
  f79 := Try.func130.trans (congrArg some (by kernel_rfl))
  f88 := ⟨Try.f164.name, by decide, Try.func164.trans (congrArg some (by kernel_rfl))⟩
  f89 := Try.func148.trans (congrArg some (by kernel_rfl))
  f90 := Try.func149.trans (congrArg some (by kernel_rfl))
  f91 := ⟨Try.f165.name, by decide, Try.func165.trans (congrArg some (by kernel_rfl))⟩
  f92 := ⟨Try.f166.name, by decide, Try.func166.trans (congrArg some (by kernel_rfl))⟩
  f96 := ⟨Try.f173.name, by decide, Try.func173.trans (congrArg some (by kernel_rfl))⟩
  t0 := Try.underlying0
  a0 := Try.isAgg0
  z0 := Try.sizeOf0
  v0 := Try.zeroValue0
  t3 := Try.underlying3
  a3 := Try.isAgg3
  z3 := Try.sizeOf3
  v3 := Try.zeroValue3
  t4 := Try.underlying4
  a4 := Try.isAgg4
  z4 := Try.sizeOf4
  v4 := Try.zeroValue4
  t5 := Try.underlying5
  a5 := Try.isAgg5
  z5 := Try.sizeOf5
  v5 := Try.zeroValue5
  t9 := Try.underlying9
  a9 := Try.isAgg9
  z9 := Try.sizeOf9
  v9 := Try.zeroValue9
  t22 := Try.underlying31
  a22 := Try.isAgg31
  z22 := Try.sizeOf31
  v22 := Try.zeroValue31
  t23 := Try.underlying2
  a23 := Try.isAgg2
  z23 := Try.sizeOf2
  v23 := Try.zeroValue2
  t44 := Try.underlying136
  a44 := Try.isAgg136
  z44 := Try.sizeOf136
  v44 := Try.zeroValue136
  t51 := Try.underlying89
  a51 := Try.isAgg89
  z51 := Try.sizeOf89
  v51 := Try.zeroValue89
  t60 := Try.underlying130
  a60 := Try.isAgg130
  z60 := Try.sizeOf130
  v60 := Try.zeroValue130
  t61 := Try.underlying131
  a61 := Try.isAgg131
  z61 := Try.sizeOf131
  v61 := Try.zeroValue131
  t67 := Try.underlying139
  a67 := Try.isAgg139
  z67 := Try.sizeOf139
  v67 := Try.zeroValue139
  t69 := Try.underlying25
  a69 := Try.isAgg25
  z69 := Try.sizeOf25
  v69 := Try.zeroValue25
  t75 := Try.underlying151
  a75 := Try.isAgg151
  z75 := Try.sizeOf151
  v75 := Try.zeroValue151
  t79 := Try.underlying155
  a79 := Try.isAgg155
  z79 := Try.sizeOf155
  v79 := Try.zeroValue155
  t83 := Try.underlying167
  a83 := Try.isAgg167
  z83 := Try.sizeOf167
  v83 := Try.zeroValue167
  t84 := Try.underlying168
  a84 := Try.isAgg168
  z84 := Try.sizeOf168
  v84 := Try.zeroValue168 }
def Try.lcompact64_ren : Go.Shelf.Ren := ⟨fun | 43 => 101 | n => n, fun | 22 => 31 | 23 => 2 | 3 => 3 | 4 => 4 | 0 => 0 | n => n, fun | n => n⟩
theorem Try.lcompact64 : Go.Proofs.SlLaysN.n43 Try.prog Try.lcompact64_ren := {
  mixed := by kernel_rfl
  f43 := ⟨Try.f101.name, by decide, Try.func101.trans (congrArg some (by kernel_rfl))⟩
  t0 := Try.underlying0
  a0 := Try.isAgg0
  z0 := Try.sizeOf0
  v0 := Try.zeroValue0
  t3 := Try.underlying3
  a3 := Try.isAgg3
  z3 := Try.sizeOf3
  v3 := Try.zeroValue3
  t4 := Try.underlying4
  a4 := Try.isAgg4
  z4 := Try.sizeOf4
  v4 := Try.zeroValue4
  t22 := Try.underlying31
  a22 := Try.isAgg31
  z22 := Try.sizeOf31
  v22 := Try.zeroValue31
  t23 := Try.underlying2
  a23 := Try.isAgg2
  z23 := Try.sizeOf2
  v23 := Try.zeroValue2
  i23 := by kernel_rfl }
end Go.Proofs
namespace Go.Proofs.YthicocmnefaioaaW.dw
open Go Go.RowKit
open Go.Sort (Holds putRow grow putCells mapBlock onCells heap_grow_old size_grow size_putRow heap_ahead)
theorem Dw {k : IntKind} {e : Nat} {w : World} {base : Nat} {ok : Nat → Prop} {v : Value} {xs : List Int} (h : Kd.R (Kd.int k) e w base ok v xs) :
    (v = .slice none 0 0 ∧ xs = []) ∨ ∃ g c cur, v = .slice (some ⟨g, 0, none⟩) xs.length c ∧ base ≤ g ∧ w.heap[g]? = some (.cells cur e (0, 0)) ∧ xs.length ≤ c ∧ c ≤ maxLen ∧ cur.size = c ∧ cur.toList.take xs.length = nums k xs := by
  have ho := Kd.Ap h
  rcases ho.2 with ⟨h1, h2⟩ | ⟨g, c, cur, h1, h2, h3, h4, h5, h6, h7⟩
  · exact .inl ⟨h1, List.eq_nil_of_length_eq_zero h2⟩
  · exact .inr ⟨g, c, cur, h1, h2, h3, h4, h5, by omega, by simpa [nums, encs] using h7⟩
theorem F7 {k : IntKind} {e : Nat} {w : World} {g : Nat} {cur : Array Value} {xs : List Int} (h3 : w.heap[g]? = some (.cells cur e (0, 0))) (h7 : cur.toList.take xs.length = nums k xs) : Holds (Value.int k) w g 0 xs.toArray := by
  intro j hj
  have hj' : j < xs.length := by simpa using hj
  have hc : cur[j]? = some (.int k xs[j]) := by
    have h8 : (cur.toList.take xs.length)[j]? = (nums k xs)[j]? := by rw [h7]
    rw [List.getElem?_take, if_pos hj'] at h8
    have h9 : cur[j]? = (nums k xs)[j]? := by simpa using h8
    rw [h9]
    simp [nums, List.getElem?_eq_getElem hj']
  constructor
  · simp only [Nat.zero_add, World.cell?, h3, hc]
    simp [hj']
  · simp [World.frozen?, h3]
theorem Mt {k : IntKind} {e : Nat} {w : World} {base : Nat} {ok : Nat → Prop} {g n c : Nat} {cur : Array Value} {xs ys : List Int} (hb : base ≤ g) (hok : ok g) (h3 : w.heap[g]? = some (.cells cur e (0, 0))) (h4 : xs.length ≤ c) (h5 : c ≤ maxLen) (h6 : cur.size = c) (hl : ys.length = xs.length) (hn : n ≤ ys.length) (q : Nat) (os : Array Obj) :
    Kd.R (Kd.int k) e (grow (putRow (Value.int k) (Go.Sort.ahead w q) g 0 ys.toArray) os) base (fun k => ok k ∨ w.heap.size ≤ k) (.slice (some ⟨g, 0, none⟩) n c) (ys.take n)
    ∧ (∀ w0 : World, Below w0.heap.size w0 w → w0.heap.size ≤ g → Below w0.heap.size w0 (grow (putRow (Value.int k) (Go.Sort.ahead w q) g 0 ys.toArray) os))
    ∧ Kept w (grow (putRow (Value.int k) (Go.Sort.ahead w q) g 0 ys.toArray) os) (fun k => k = g) := by
  have hglt : g < w.heap.size := (Array.getElem?_eq_some_iff.1 h3).1
  have hold : ∀ i, i < w.heap.size → i ≠ g → (grow (putRow (Value.int k) (Go.Sort.ahead w q) g 0 ys.toArray) os).heap[i]? = w.heap[i]? := by
    intro i hi hne
    rw [heap_grow_old _ _ (by simpa using hi)]
    simp [putRow, mapBlock, Array.getElem?_modify, Ne.symm hne]
  have hnew : (grow (putRow (Value.int k) (Go.Sort.ahead w q) g 0 ys.toArray) os).heap[g]? = some (.cells (putCells (Value.int k) 0 ys.toArray cur) e (0, 0)) := by
    rw [heap_grow_old _ _ (by simpa using hglt)]
    simp [putRow, mapBlock, Array.getElem?_modify, h3, onCells]
  have hsz : (putCells (Value.int k) 0 ys.toArray cur).size = c := by simp [putCells, h6]
  refine ⟨?_, ?_, ?_⟩
  · refine Kd.N8 ?_ (fun k hk => .inl (by have : g = k := by simpa [Value.ownBlock] using hk
                                          rw [← this]; exact hok))
    refine ⟨by simp [encs], .inr ⟨g, c, _, by rw [List.length_take, Nat.min_eq_left hn], hb, hnew, by rw [List.length_take]; omega, h5, by omega, ?_⟩⟩
    apply List.ext_getElem?
    intro j
    rw [List.getElem?_take]
    by_cases hj : j < n
    · rw [if_pos (by rw [List.length_take]; omega)]
      have hjc : j < cur.size := by omega
      simp only [Array.getElem?_toList, putCells, Array.getElem?_mapIdx, Array.getElem?_eq_getElem hjc, Option.map_some, encs, List.getElem?_map, List.getElem?_take, if_pos hj]
      rw [List.getElem?_eq_getElem (show j < ys.length by omega)]
      simp [show j < ys.length by omega]
    · rw [if_neg (by rw [List.length_take]; omega)]
      simp [encs, List.getElem?_take, hj]
  · intro w0 h0 hg0
    refine ⟨h0.os, h0.tape, h0.output, ?_, fun i hi => ?_⟩
    · have := h0.size
      simp only [size_grow, size_putRow, heap_ahead]
      omega
    · rw [hold i (Nat.lt_of_lt_of_le hi h0.size) (by omega)]
      exact h0.block i hi
  · refine ⟨?_, fun i hi hne => hold i hi hne⟩
    simp only [size_grow, size_putRow, heap_ahead]
    omega
end Go.Proofs.YthicocmnefaioaaW.dw

import Derived.Test.YthicocmnefaioaaZo8
namespace Go.Proofs.Ythicocmnefaioaa.Pure
open Go.RowKit Go.Proofs.Ythicocmnefaioaa.QO Go.Proofs.YthicocmnefaioaaW.dw Go.Proofs.YthicocmnefaioaaW.jA Go.Proofs.YthicocmnefaioaaW.lD
open Go.IntWalk (wrap64_in)
def val (i : Nat) : S23 := ([⟨0, 0, ⟨#[]⟩⟩, ⟨1, 1, ⟨#[]⟩⟩, ⟨1, 2, ⟨#[]⟩⟩, ⟨1, 3, ⟨#[]⟩⟩, ⟨2, 0, ⟨#[97]⟩⟩, ⟨2, 0, ⟨#[98]⟩⟩] : List S23).getD i z23
def sgn (a b : Nat) : Int := if a < b then -1 else if a = b then 0 else 1
def row (i : Nat) : List S23 := [val (i / 6), val (i % 6)]
theorem up {α : Type} {f : Nat → Option α} (h : ∀ k, LeO (f k) (f (k + 1))) {a : Nat} {r : α} (h0 : f a = some r) : ∀ {k}, a ≤ k → f k = some r := by
  intro k hk
  obtain ⟨d, rfl⟩ := Nat.le.dest hk
  clear hk
  induction d with
  | zero => exact h0
  | succ n ih => exact h _ r ih
theorem WE {k : Nat} (hk : 200 ≤ k) : bN.f k = some true := up (f := fun k => bN.f k) bN.mono (by kernel_rfl) hk
theorem cmpP {k : Nat} (hk : 12 ≤ k) : ∀ i < 36, ∀ j < 36, dY.f k (row i) (row j) = some (sgn i j) := fun i hi j hj =>
  up (f := fun k => dY.f k (row i) (row j)) (dY.mono _ _) ((by decide +kernel : ∀ i < 36, ∀ j < 36, dY.f 12 (row i) (row j) = some (sgn i j)) i hi j hj) hk
theorem cmpR {k : Nat} (hk : 12 ≤ k) : ∀ i < 36, ∀ j < 36, aV.f k (row i) (row j) = some (sgn i j) := fun i hi j hj =>
  up (f := fun k => aV.f k (row i) (row j)) (aV.mono _ _) ((by decide +kernel : ∀ i < 36, ∀ j < 36, aV.f 12 (row i) (row j) = some (sgn i j)) i hi j hj) hk
theorem vrP {k : Nat} (hk : 5 ≤ k) : ∀ i < 36, dH.f k (row i) = some true := fun i hi =>
  up (f := fun k => dH.f k (row i)) (dH.mono _) ((by decide +kernel : ∀ i < 36, dH.f 5 (row i) = some true) i hi) hk
theorem vrR {k : Nat} (hk : 5 ≤ k) : ∀ i < 36, bQ.f k (row i) = some true := fun i hi =>
  up (f := fun k => bQ.f k (row i)) (bQ.mono _) ((by decide +kernel : ∀ i < 36, bQ.f 5 (row i) = some true) i hi) hk
theorem u64w (z : Int) : IntKind.u64.wrap z = z % 18446744073709551616 := by
  simp [IntKind.wrap, IntKind.bits, IntKind.signed]
def St (l : List Int) (s : Int) : Prop := 0 ≤ s ∧ s ≤ 4 * (l.length : Int)
theorem tO {l : List Int} {s n : Int} (k : Nat) (hl : l.length < 17592186044416) (hs : St l s) (hn : 1 ≤ n) (hn2 : n ≤ 100000) :
    ∃ x s', bg.f (k + 1) l s n = some (x, s') ∧ 0 ≤ x ∧ x < n ∧ St l s' := by
  obtain ⟨hs0, hs1⟩ := hs
  unfold bg.f
  have h4 : wrap64 (4 * (l.length : Int)) = 4 * (l.length : Int) := wrap64_in _ (by omega)
  by_cases h1 : n < 2
  · rw [if_pos h1]
    exact ⟨0, s, by simp [bg.j0], by omega, by omega, hs0, hs1⟩
  rw [if_neg h1]
  by_cases h2 : (l.length : Int) = 0
  · rw [if_pos h2]
    exact ⟨0, s, by simp [bg.j0], by omega, by omega, hs0, hs1⟩
  rw [if_neg h2, h4]
  by_cases h3 : s ≥ 4 * (l.length : Int)
  · rw [decide_eq_true h3]
    exact ⟨0, s, by simp [bg.j0], by omega, by omega, hs0, hs1⟩
  rw [decide_eq_false h3]
  have hLpos : (0 : Int) < l.length := by omega
  have m0 : 0 ≤ Int.tmod s l.length := Int.tmod_nonneg _ hs0
  have m1 : Int.tmod s l.length < l.length := Int.tmod_lt_of_pos _ hLpos
  have hw : wrap64 (s + 1) = s + 1 := wrap64_in _ (by omega)
  have fin : ∀ y : Int, 0 ≤ Int.tmod (wrap64 ((Int.tmod y n) + n)) n ∧ Int.tmod (wrap64 ((Int.tmod y n) + n)) n < n := by
    intro y
    have a1 : Int.tmod y n < n := Int.tmod_lt_of_pos _ (by omega)
    have a2 : -n < Int.tmod y n := by
      have := Int.tmod_lt_of_pos (-y) (show 0 < n by omega)
      rw [Int.neg_tmod] at this
      omega
    rw [wrap64_in _ (by omega)]
    exact ⟨Int.tmod_nonneg _ (by omega), Int.tmod_lt_of_pos _ (by omega)⟩
  simp only [bg.j0]
  rw [if_neg (by simp), if_neg h2, if_pos m0, if_pos m1, hw]
  have hn0 : ¬ n = 0 := by omega
  have hu : ∀ z : Int, 0 ≤ IntKind.u64.wrap z := by
    intro z
    rw [u64w]
    omega
  split
  · rw [if_pos (hu _)]
    exact ⟨_, _, rfl, (fin _).1, (fin _).2, by omega, by omega⟩
  · exact ⟨_, _, rfl, (fin _).1, (fin _).2, by omega, by omega⟩
theorem Uv {l : List Int} {s : Int} (k : Nat) (hl : l.length < 17592186044416) (hs : St l s) :
    ∃ c kd w d s', dz.f (k + 1) l s = some (⟨#[115]⟩, ⟨#[116, 48]⟩, c, kd, w, d, s') ∧ 0 ≤ c ∧ c ≤ 2 ∧ (kd = 0 ∨ kd = 1 ∨ kd = 2) ∧ 1 ≤ w ∧ w ≤ 64 ∧ 1 ≤ d ∧ d ≤ 3 ∧ (kd = 2 → d = 1) ∧ St l s' := by
  obtain ⟨x1, s1, e1, a1, b1, hs⟩ := tO k hl hs (n := 9) (by omega) (by omega)
  obtain ⟨x2, s2, e2, a2, b2, hs⟩ := tO k hl hs (n := 3) (by omega) (by omega)
  obtain ⟨x3, s3, e3, a3, b3, hs⟩ := tO k hl hs (n := 7) (by omega) (by omega)
  obtain ⟨x4, s4, e4, a4, b4, hs⟩ := tO k hl hs (n := 3) (by omega) (by omega)
  have hc : wrap64 (Int.tdiv x1 4) = x1 / 4 := by rw [Int.tdiv_eq_ediv_of_nonneg a1, wrap64_in _ (by omega)]
  have hd : wrap64 (1 + x4) = 1 + x4 := wrap64_in _ (by omega)
  have hw : 1 ≤ rd ([1, 2, 3, 5, 8, 16, 64] : List Int) x3 ∧ rd ([1, 2, 3, 5, 8, 16, 64] : List Int) x3 ≤ 64 := by
    have : x3 = 0 ∨ x3 = 1 ∨ x3 = 2 ∨ x3 = 3 ∨ x3 = 4 ∨ x3 = 5 ∨ x3 = 6 := by omega
    rcases this with rfl | rfl | rfl | rfl | rfl | rfl | rfl <;> decide
  unfold dz.f
  simp only [e1, e2, e3, e4, Option.bind_some]
  rw [if_pos a3, if_pos (by simpa using b3)]
  by_cases h2 : x2 = 2
  · rw [if_pos h2]
    exact ⟨_, _, _, _, _, rfl, by rw [hc]; omega, by rw [hc]; omega, by omega, hw.1, hw.2, by omega, by omega, fun _ => rfl, hs⟩
  · rw [if_neg h2]
    exact ⟨_, _, _, _, _, rfl, by rw [hc]; omega, by rw [hc]; omega, by omega, hw.1, hw.2, by rw [hd]; omega, by rw [hd]; omega, fun h => absurd h h2, hs⟩
theorem int1 : gY.f 1 = some (1, 1, ⟨#[]⟩) := by kernel_rfl
theorem int2 : gY.f 2 = some (1, 2, ⟨#[]⟩) := by kernel_rfl
theorem int3 : gY.f 3 = some (1, 3, ⟨#[]⟩) := by kernel_rfl
theorem txa : iw.f ⟨#[97]⟩ = some (2, 0, ⟨#[97]⟩) := by kernel_rfl
theorem txb : iw.f ⟨#[98]⟩ = some (2, 0, ⟨#[98]⟩) := by kernel_rfl
theorem Mk {l : List Int} {s : Int} (k : Nat) (hl : l.length < 17592186044416) (hs : St l s) :
    ∃ i s', iK.f (k + 1) l s = some ((val i).f0, (val i).f1, (val i).f2, s') ∧ i < 6 ∧ St l s' := by
  obtain ⟨x, s1, e1, a1, b1, hs⟩ := tO k hl hs (n := 6) (by omega) (by omega)
  unfold iK.f
  simp only [int1, int2, int3, txa, txb, e1, Option.bind_some]
  rw [if_pos a1, if_pos (by simpa using b1)]
  exact ⟨x.toNat, s1, rfl, by omega, hs⟩
def E (p : Nat × Int) : S51 := ⟨row p.1, p.2⟩
theorem rdE (xs : List (Nat × Int)) (i : Nat) (h : i < xs.length) : aH (xs.map E) (i : Int) = E xs[i] := by
  simp [aH, List.getD_eq_getElem?_getD, h]
theorem row_ij {i j : Nat} (h : j < 6) : row (6 * i + j) = [val i, val j] := by
  unfold row
  rw [show (6 * i + j) / 6 = i by omega, show (6 * i + j) % 6 = j by omega]
def Raw (p : Nat × Int) : Prop := p.1 < 36 ∧ -2 ≤ p.2 ∧ p.2 ≤ 3
theorem V8 {l : List Int} (hl : l.length < 17592186044416) : ∀ (m : Nat) (acc : List (Nat × Int)) (s : Int) (k : Nat), 4 * m + 5 ≤ k → acc.length + m < 1000 → St l s → (∀ p ∈ acc, Raw p) →
    ∃ (out : List (Nat × Int)) (s' : Int), bL.l0 k 2 (acc.map E) m l s = some (out.map E, s') ∧ out.length = acc.length + m ∧ (∀ p ∈ out, Raw p) ∧ St l s'
  | 0, acc, s, k, hk, hm, hs, ha => by
    obtain ⟨j, rfl⟩ : ∃ j, k = j + 1 := ⟨k - 1, by omega⟩
    refine ⟨acc, s, ?_, rfl, ha, hs⟩
    simp only [bL.l0]
    rw [if_neg (by simp)]
  | m + 1, acc, s, k, hk, hm, hs, ha => by
    obtain ⟨j, rfl⟩ : ∃ j, k = j + 4 := ⟨k - 4, by omega⟩
    obtain ⟨i1, s1, e1, a1, hs⟩ := Mk (j + 1) hl hs
    obtain ⟨i2, s2, e2, a2, hs⟩ := Mk j hl hs
    obtain ⟨j, rfl⟩ : ∃ j', j = j' + 1 := ⟨j - 1, by omega⟩
    obtain ⟨x, s3, e3, a3, b3, hs⟩ := tO j hl hs (n := 8) (by omega) (by omega)
    have hc : -2 ≤ rd ([1, 1, 1, 2, (-1), 3, (-2), 0] : List Int) x ∧ rd ([1, 1, 1, 2, (-1), 3, (-2), 0] : List Int) x ≤ 3 := by
      have : x = 0 ∨ x = 1 ∨ x = 2 ∨ x = 3 ∨ x = 4 ∨ x = 5 ∨ x = 6 ∨ x = 7 := by omega
      rcases this with rfl | rfl | rfl | rfl | rfl | rfl | rfl | rfl <;> decide
    obtain ⟨out, s', e4, h1, h2, h3⟩ := V8 hl m (acc ++ [(6 * i1 + i2, rd ([1, 1, 1, 2, (-1), 3, (-2), 0] : List Int) x)]) s3 (j + 1) (by omega) (by simp; omega) hs
      (by intro p hp; rcases List.mem_append.1 hp with hp | hp
          · exact ha p hp
          · rw [List.mem_singleton] at hp; subst hp; exact ⟨by show 6 * i1 + i2 < 36; omega, hc⟩)
    refine ⟨out, s', ?_, by rw [h1]; simp; omega, h2, h3⟩
    simp only [bL.l0]
    rw [if_pos (by omega)]
    simp only [bL.l1, e1, e2, e3, Option.bind_some]
    rw [if_pos (by omega), if_pos (by simp), if_pos (by decide +kernel), if_pos (by simp), if_neg (by decide +kernel), if_pos a3, if_pos (by simpa using b3), if_pos (by simp; omega)]
    rw [show wrap64 (((m + 1 : Nat) : Int) - 1) = (m : Int) by rw [wrap64_in _ (by omega)]; omega]
    rw [List.map_append] at e4
    simp only [List.map_cons, List.map_nil, E, row_ij a2] at e4
    exact e4
theorem QH {l : List Int} (hl : l.length < 17592186044416) {s : Int} {n : Nat} {k : Nat} (hn : n ≤ 100) (hk : 4 * n + 6 ≤ k) (hs : St l s) :
    ∃ (out : List (Nat × Int)) (s' : Int), bL.f k l s 2 n = some (out.map E, s') ∧ out.length ≤ n ∧ (∀ p ∈ out, Raw p) ∧ St l s' := by
  obtain ⟨j, rfl⟩ : ∃ j, k = j + 1 := ⟨k - 1, by omega⟩
  obtain ⟨x, s1, e1, a1, b1, hs⟩ := tO j hl hs (n := (n : Int) + 1) (by omega) (by omega)
  obtain ⟨out, s', e2, h1, h2, h3⟩ := V8 hl x.toNat [] s1 (j + 1) (by omega) (by simp; omega) hs (by simp)
  refine ⟨out, s', ?_, by simp at h1; omega, h2, h3⟩
  unfold bL.f
  rw [wrap64_in _ (by omega), e1]
  simp only [Option.bind_some]
  rw [show (x.toNat : Int) = x by omega] at e2
  exact e2
def kZ : List (Nat × Int) → List (Nat × Int) → List (Nat × Int)
  | [], ys => ys
  | x :: xs, [] => x :: xs
  | x :: xs, y :: ys => if x.1 < y.1 then x :: kZ xs (y :: ys) else if x.1 = y.1 then (if x.2 + y.2 = 0 then kZ xs ys else (x.1, x.2 + y.2) :: kZ xs ys) else y :: kZ (x :: xs) ys
  termination_by xs ys => xs.length + ys.length
def Asc : List (Nat × Int) → Prop
  | [] => True
  | x :: xs => (∀ y ∈ xs, x.1 < y.1) ∧ Asc xs
def Bnd (a b : Int) (xs : List (Nat × Int)) : Prop := ∀ p ∈ xs, p.1 < 36 ∧ a ≤ p.2 ∧ p.2 ≤ b
theorem F9 : ∀ (xs ys : List (Nat × Int)) {p : Nat × Int}, p ∈ kZ xs ys → (∃ q ∈ xs, q.1 = p.1) ∨ ∃ q ∈ ys, q.1 = p.1 := by
  intro xs ys
  induction xs, ys using kZ.induct with
  | case1 ys => intro p hp; rw [kZ] at hp; exact .inr ⟨p, hp, rfl⟩
  | case2 x xs => intro p hp; rw [kZ] at hp; exact .inl ⟨p, hp, rfl⟩
  | case3 x xs y ys h ih =>
    intro p hp
    rw [kZ, if_pos h] at hp
    rcases List.mem_cons.1 hp with rfl | hp
    · exact .inl ⟨p, by simp, rfl⟩
    · rcases ih hp with ⟨q, h1, h2⟩ | h1
      · exact .inl ⟨q, by simp [h1], h2⟩
      · exact .inr h1
  | case4 x xs y ys h h2 h3 ih =>
    intro p hp
    rw [kZ, if_neg h, if_pos h2, if_pos h3] at hp
    rcases ih hp with ⟨q, h1, h2⟩ | ⟨q, h1, h2⟩
    · exact .inl ⟨q, by simp [h1], h2⟩
    · exact .inr ⟨q, by simp [h1], h2⟩
  | case5 x xs y ys h h2 h3 ih =>
    intro p hp
    rw [kZ, if_neg h, if_pos h2, if_neg h3] at hp
    rcases List.mem_cons.1 hp with rfl | hp
    · exact .inl ⟨x, by simp, rfl⟩
    · rcases ih hp with ⟨q, h1, h2⟩ | ⟨q, h1, h2⟩
      · exact .inl ⟨q, by simp [h1], h2⟩
      · exact .inr ⟨q, by simp [h1], h2⟩
  | case6 x xs y ys h h2 ih =>
    intro p hp
    rw [kZ, if_neg h, if_neg h2] at hp
    rcases List.mem_cons.1 hp with rfl | hp
    · exact .inr ⟨p, by simp, rfl⟩
    · rcases ih hp with h1 | ⟨q, h1, h2⟩
      · exact .inl h1
      · exact .inr ⟨q, by simp [h1], h2⟩
theorem Vl : ∀ (xs ys : List (Nat × Int)), Asc xs → Asc ys → Asc (kZ xs ys) := by
  intro xs ys
  induction xs, ys using kZ.induct with
  | case1 ys => intro _ h; rw [kZ]; exact h
  | case2 x xs => intro h _; rw [kZ]; exact h
  | case3 x xs y ys h ih =>
    intro h1 h2
    rw [kZ, if_pos h]
    refine ⟨fun z hz => ?_, ih h1.2 h2⟩
    rcases F9 _ _ hz with ⟨q, hq, e⟩ | ⟨q, hq, e⟩
    · have := h1.1 q hq; omega
    · rcases List.mem_cons.1 hq with rfl | hq
      · omega
      · have := h2.1 q hq; omega
  | case4 x xs y ys h h2 h3 ih =>
    intro h4 h5
    rw [kZ, if_neg h, if_pos h2, if_pos h3]
    exact ih h4.2 h5.2
  | case5 x xs y ys h h2 h3 ih =>
    intro h4 h5
    rw [kZ, if_neg h, if_pos h2, if_neg h3]
    refine ⟨fun z hz => ?_, ih h4.2 h5.2⟩
    rcases F9 _ _ hz with ⟨q, hq, e⟩ | ⟨q, hq, e⟩
    · have := h4.1 q hq; show x.1 < z.1; omega
    · have := h5.1 q hq; show x.1 < z.1; omega
  | case6 x xs y ys h h2 ih =>
    intro h4 h5
    rw [kZ, if_neg h, if_neg h2]
    refine ⟨fun z hz => ?_, ih h4 h5.2⟩
    rcases F9 _ _ hz with ⟨q, hq, e⟩ | ⟨q, hq, e⟩
    · rcases List.mem_cons.1 hq with rfl | hq
      · omega
      · have := h4.1 q hq; omega
    · have := h5.1 q hq; omega
theorem Vk {b c : Int} : ∀ (xs ys : List (Nat × Int)), Bnd 1 b xs → Bnd 1 c ys → 0 ≤ b → 0 ≤ c → Bnd 1 (b + c) (kZ xs ys) := by
  intro xs ys
  induction xs, ys using kZ.induct with
  | case1 ys => intro _ h hb _; rw [kZ]; exact fun p hp => ⟨(h p hp).1, (h p hp).2.1, by have := (h p hp).2.2; omega⟩
  | case2 x xs => intro h _ _ hc; rw [kZ]; exact fun p hp => ⟨(h p hp).1, (h p hp).2.1, by have := (h p hp).2.2; omega⟩
  | case3 x xs y ys h ih =>
    intro h1 h2 hb hc
    rw [kZ, if_pos h]
    intro p hp
    rcases List.mem_cons.1 hp with rfl | hp
    · have := h1 p (by simp); exact ⟨this.1, this.2.1, by omega⟩
    · exact ih (fun p hp => h1 p (by simp [hp])) h2 hb hc p hp
  | case4 x xs y ys h h2 h3 ih =>
    intro h4 h5 hb hc
    rw [kZ, if_neg h, if_pos h2, if_pos h3]
    exact ih (fun p hp => h4 p (by simp [hp])) (fun p hp => h5 p (by simp [hp])) hb hc
  | case5 x xs y ys h h2 h3 ih =>
    intro h4 h5 hb hc
    rw [kZ, if_neg h, if_pos h2, if_neg h3]
    intro p hp
    rcases List.mem_cons.1 hp with rfl | hp
    · have a := h4 x (by simp); have b := h5 y (by simp); exact ⟨a.1, by show 1 ≤ x.2 + y.2; omega, by show x.2 + y.2 ≤ _; omega⟩
    · exact ih (fun p hp => h4 p (by simp [hp])) (fun p hp => h5 p (by simp [hp])) hb hc p hp
  | case6 x xs y ys h h2 ih =>
    intro h4 h5 hb hc
    rw [kZ, if_neg h, if_neg h2]
    intro p hp
    rcases List.mem_cons.1 hp with rfl | hp
    · have := h5 p (by simp); exact ⟨this.1, this.2.1, by omega⟩
    · exact ih h4 (fun p hp => h5 p (by simp [hp])) hb hc p hp
theorem Vj : ∀ (xs ys : List (Nat × Int)), (kZ xs ys).length ≤ xs.length + ys.length := by
  intro xs ys
  induction xs, ys using kZ.induct with
  | case1 ys => rw [kZ]; simp
  | case2 x xs => rw [kZ]; simp
  | case3 x xs y ys h ih => rw [kZ, if_pos h]; simp only [List.length_cons] at *; omega
  | case4 x xs y ys h h2 h3 ih => rw [kZ, if_neg h, if_pos h2, if_pos h3]; simp only [List.length_cons] at *; omega
  | case5 x xs y ys h h2 h3 ih => rw [kZ, if_neg h, if_pos h2, if_neg h3]; simp only [List.length_cons] at *; omega
  | case6 x xs y ys h h2 ih => rw [kZ, if_neg h, if_neg h2]; simp only [List.length_cons] at *; omega
theorem Mv (xs : List (Nat × Int)) : kZ xs [] = xs := by cases xs <;> rw [kZ]
theorem up1 (a : Nat) (h : a < 1000000) : wrap64 ((a : Int) + 1) = ((a + 1 : Nat) : Int) := by rw [wrap64_in _ (by omega)]; omega
def Wide (p : Nat × Int) : Prop := p.1 < 36 ∧ -100000 ≤ p.2 ∧ p.2 ≤ 100000
theorem Vi {xs ys : List (Nat × Int)} (hx : ∀ p ∈ xs, Wide p) (hy : ∀ p ∈ ys, Wide p) (hlx : xs.length < 1000) (hly : ys.length < 1000) :
    ∀ (n a b : Nat) (acc : List (Nat × Int)) (k : Nat), a ≤ xs.length → b ≤ ys.length → (xs.length - a) + (ys.length - b) = n → 3 * n + 20 ≤ k → acc.length + n < 10000 →
      aZ.l0 k (xs.map E) (ys.map E) (acc.map E) a b = some ((acc ++ kZ (xs.drop a) (ys.drop b)).map E) := by
  intro n
  induction n using Nat.strongRecOn with
  | _ n ih =>
    intro a b acc k ha hb hn hk hacc
    obtain ⟨j, rfl⟩ : ∃ j, k = j + 3 := ⟨k - 3, by omega⟩
    have takeX : ∀ (h : a < xs.length), aZ.l0 j (xs.map E) (ys.map E) (acc.map E ++ [⟨(E xs[a]).f0, (E xs[a]).f1⟩]) (wrap64 ((a : Int) + 1)) b = some ((acc ++ xs[a] :: kZ (xs.drop (a + 1)) (ys.drop b)).map E) := by
      intro h
      have := ih (n - 1) (by omega) (a + 1) b (acc ++ [xs[a]]) j (by omega) hb (by omega) (by omega) (by simp; omega)
      rw [up1 a (by omega)]
      simpa using this
    have takeY : ∀ (h : b < ys.length), aZ.l0 j (xs.map E) (ys.map E) (acc.map E ++ [⟨(E ys[b]).f0, (E ys[b]).f1⟩]) a (wrap64 ((b : Int) + 1)) = some ((acc ++ ys[b] :: kZ (xs.drop a) (ys.drop (b + 1))).map E) := by
      intro h
      have := ih (n - 1) (by omega) a (b + 1) (acc ++ [ys[b]]) j ha (by omega) (by omega) (by omega) (by simp; omega)
      rw [up1 b (by omega)]
      simpa using this
    have lx : ((xs.map E).length : Int) = xs.length := by simp
    have ly : ((ys.map E).length : Int) = ys.length := by simp
    have la : (acc.map E).length < 4398046511104 := by simp; omega
    simp only [aZ.l0, aZ.j1, aZ.j2, lx, ly]
    by_cases h1 : a < xs.length
    · rw [if_pos (by omega), if_pos trivial, if_neg (by omega)]
      rw [List.drop_eq_getElem_cons h1]
      by_cases h2 : b < ys.length
      · rw [if_neg (by omega), if_pos (by omega), if_pos (by omega), if_pos (by omega), if_pos (by omega)]
        rw [List.drop_eq_getElem_cons h2]
        rw [rdE xs a h1, rdE ys b h2]
        have wx := hx xs[a] (List.getElem_mem h1)
        have wy := hy ys[b] (List.getElem_mem h2)
        have hc := cmpR (k := j + 1) (by omega) xs[a].1 wx.1 ys[b].1 wy.1
        rw [show aV.f (j + 1) (E xs[a]).f0 (E ys[b]).f0 = some (sgn xs[a].1 ys[b].1) from hc]
        simp only [Option.bind_some]
        rw [kZ]
        unfold sgn
        by_cases c1 : xs[a].1 < ys[b].1
        · rw [if_pos c1, if_pos c1, if_pos (by decide), if_pos (by omega), if_pos (by omega), if_pos la]
          have := takeX h1
          rw [List.drop_eq_getElem_cons h2] at this
          exact this
        · rw [if_neg c1, if_neg c1]
          by_cases c2 : xs[a].1 = ys[b].1
          · rw [if_pos c2, if_pos c2, if_neg (by decide), if_neg (by decide), if_pos (by omega), if_pos (by omega), if_pos (by omega), if_pos (by omega)]
            have e1 : (E xs[a]).f1 = xs[a].2 := rfl
            have e2 : (E ys[b]).f1 = ys[b].2 := rfl
            rw [e1, e2, wrap64_in (xs[a].2 + ys[b].2) (by have := wx.2; have := wy.2; omega)]
            by_cases c3 : xs[a].2 + ys[b].2 = 0
            · rw [if_pos c3, if_pos c3, up1 a (by omega), up1 b (by omega)]
              exact ih (n - 2) (by omega) (a + 1) (b + 1) acc j (by omega) (by omega) (by omega) (by omega) (by omega)
            · rw [if_neg c3, if_neg c3, if_pos la, up1 a (by omega), up1 b (by omega)]
              have := ih (n - 2) (by omega) (a + 1) (b + 1) (acc ++ [(xs[a].1, xs[a].2 + ys[b].2)]) j (by omega) (by omega) (by omega) (by omega) (by simp; omega)
              simpa [E] using this
          · rw [if_neg c2, if_neg c2, if_neg (by decide), if_pos (by decide), if_pos (by omega), if_pos (by omega), if_pos la]
            have := takeY h2
            rw [List.drop_eq_getElem_cons h1] at this
            exact this
      · rw [if_pos (by omega), if_pos (by decide), if_pos (by omega), if_pos (by omega), if_pos la, rdE xs a h1]
        rw [List.drop_eq_nil_of_le (by omega : ys.length ≤ b), Mv]
        have := takeX h1
        rw [List.drop_eq_nil_of_le (by omega : ys.length ≤ b), Mv] at this
        exact this
    · rw [if_neg (by omega)]
      rw [List.drop_eq_nil_of_le (by omega : xs.length ≤ a)]
      by_cases h2 : b < ys.length
      · rw [if_pos (by simp; omega), if_pos (by omega), if_neg (by decide), if_pos (by decide), if_pos (by omega), if_pos (by omega), if_pos la, rdE ys b h2]
        rw [List.drop_eq_getElem_cons h2, kZ]
        have := takeY h2
        rw [List.drop_eq_nil_of_le (by omega : xs.length ≤ a), kZ] at this
        exact this
      · rw [if_neg (by simp; omega)]
        rw [List.drop_eq_nil_of_le (by omega : ys.length ≤ b), kZ]
        simp
theorem Vh {xs ys : List (Nat × Int)} {k : Nat} (hx : ∀ p ∈ xs, Wide p) (hy : ∀ p ∈ ys, Wide p) (hlx : xs.length < 1000) (hly : ys.length < 1000) (hk : 3 * (xs.length + ys.length) + 20 ≤ k) :
    aZ.f k (xs.map E) (ys.map E) = some ((kZ xs ys).map E) := by
  have := Vi hx hy hlx hly (xs.length + ys.length) 0 0 [] k (by omega) (by omega) (by omega) hk (by simp; omega)
  unfold aZ.f
  simpa using this
theorem X6 : ∀ (n : Nat) (xs : List (Nat × Int)) (k : Nat), xs.length ≤ n → n ≤ 40 → (∀ p ∈ xs, p.1 < 36 ∧ 0 ≤ p.2 ∧ p.2 ≤ 3) → 200 + n ≤ k →
    ∃ ys, dG.f k (xs.map E) = some (ys.map E) ∧ Asc ys ∧ Bnd 1 (3 * n) ys ∧ ys.length ≤ xs.length := by
  intro n
  induction n using Nat.strongRecOn with
  | _ n ih =>
    intro xs k hn h40 hx hk
    obtain ⟨j, rfl⟩ : ∃ j, k = j + 1 := ⟨k - 1, by omega⟩
    have lx : ((xs.map E).length : Int) = xs.length := by simp
    simp only [dG.f, lx]
    by_cases h0 : (xs.length : Int) = 0
    · rw [if_pos h0]
      exact ⟨[], rfl, trivial, fun _ h => absurd h (by simp), by simp⟩
    rw [if_neg h0]
    by_cases h1 : (xs.length : Int) = 1
    · rw [if_pos h1, if_pos (by omega)]
      have hlt : 0 < xs.length := by omega
      have r0 := rdE xs 0 hlt
      rw [show ((0 : Nat) : Int) = 0 from rfl] at r0
      rw [r0]
      have hm := hx xs[0] (List.getElem_mem hlt)
      by_cases h2 : (E xs[0]).f1 = 0
      · rw [if_pos h2]
        exact ⟨[], rfl, trivial, fun _ h => absurd h (by simp), by simp⟩
      · rw [if_neg h2]
        have h3 : xs[0].2 ≠ 0 := h2
        refine ⟨[xs[0]], rfl, ⟨fun _ h => absurd h (by simp), trivial⟩, fun p hp => ?_, by simp; omega⟩
        rw [List.mem_singleton] at hp
        subst hp
        exact ⟨hm.1, by omega, by omega⟩
    · rw [if_neg h1]
      have hw : wrap64 ((xs.length : Int) / 2) = ((xs.length / 2 : Nat) : Int) := by rw [wrap64_in _ (by omega)]; omega
      rw [hw, if_pos (by omega), if_pos (by omega)]
      simp only [Int.toNat_natCast]
      have m1 : xs.length / 2 < n := by omega
      obtain ⟨ys, e1, a1, b1, c1⟩ := ih (xs.length / 2) m1 (xs.take (xs.length / 2)) j (by rw [List.length_take]; omega) (by omega) (fun p hp => hx p (List.mem_of_mem_take hp)) (by omega)
      obtain ⟨zs, e2, a2, b2, c2⟩ := ih (xs.length - xs.length / 2) (by omega) (xs.drop (xs.length / 2)) j (by simp) (by omega) (fun p hp => hx p (List.mem_of_mem_drop hp)) (by omega)
      have d1 : ys.length ≤ xs.length / 2 := by simp at c1; omega
      have d2 : zs.length ≤ xs.length - xs.length / 2 := by simpa using c2
      rw [← List.map_take, ← List.map_drop, e1, e2]
      simp only [Option.bind_some]
      have hm := Vh (k := j) (xs := ys) (ys := zs) (fun p hp => ⟨(b1 p hp).1, by have := (b1 p hp).2; omega, by have := (b1 p hp).2; omega⟩) (fun p hp => ⟨(b2 p hp).1, by have := (b2 p hp).2; omega, by have := (b2 p hp).2; omega⟩) (by omega) (by omega) (by omega)
      rw [hm]
      simp only [Option.bind_some]
      refine ⟨_, rfl, Vl _ _ a1 a2, fun p hp => ?_, ?_⟩
      · have := Vk ys zs b1 b2 (by omega) (by omega) p hp
        exact ⟨this.1, this.2.1, by omega⟩
      · have := Vj ys zs
        omega
theorem lE (xs : List (Nat × Int)) : ((xs.map E).length : Int) = xs.length := by simp
theorem TH : ∀ {xs : List (Nat × Int)}, Asc xs → ∀ {i j : Nat} (hj : j < xs.length) (hij : i < j), (xs[i]'(by omega)).1 < xs[j].1
  | x :: xs, h, 0, j + 1, hj, _ => h.1 _ (List.getElem_mem _)
  | x :: xs, h, i + 1, j + 1, hj, hij => TH h.2 (by simpa using hj) (by omega)
theorem Wh {c : Int} (h1 : -262144 ≤ c) (h2 : c ≤ 262144) : fV.f c = some true := by
  unfold fV.f
  rw [if_pos h1, decide_eq_true h2]
theorem countP {c : Int} (h1 : -262144 ≤ c) (h2 : c ≤ 262144) : lM.f c = some true := by
  unfold lM.f
  rw [if_pos h1, decide_eq_true h2]
theorem aae {ys : List (Nat × Int)} (hb : Bnd 1 262144 ys) (hl : ys.length < 1000) {k : Nat} (hk : ys.length + 2 ≤ k) : fC.f k (ys.map E) = some (ys.map E, 0) := by
  unfold fC.f
  rw [lE, if_neg (by omega)]
  have : ∀ (m i k : Nat), i + m = ys.length → m + 2 ≤ k → fC.l0 k (ys.map E) i = some (ys.map E, 0) := by
    intro m
    induction m with
    | zero =>
      intro i k hi hk
      obtain ⟨j, rfl⟩ : ∃ j, k = j + 1 := ⟨k - 1, by omega⟩
      simp only [fC.l0, lE]
      rw [if_neg (by omega)]
    | succ m ih =>
      intro i k hi hk
      obtain ⟨j, rfl⟩ : ∃ j, k = j + 1 := ⟨k - 1, by omega⟩
      simp only [fC.l0, lE]
      have hlt : i < ys.length := by omega
      have b := hb ys[i] (List.getElem_mem hlt)
      rw [if_pos (by omega), if_pos (by omega), rdE ys i hlt, Wh (c := (E ys[i]).f1) (by show -262144 ≤ ys[i].2; omega) b.2.2]
      simp only [Option.bind_some, if_true]
      rw [up1 i (by omega)]
      exact ih (i + 1) j (by omega) (by omega)
  exact this ys.length 0 k (by omega) hk
theorem Ya {xs : List (Nat × Int)} (hx : ∀ p ∈ xs, p.1 < 36 ∧ 0 ≤ p.2 ∧ p.2 ≤ 3) (hl : xs.length ≤ 40) {k : Nat} (hk : 400 ≤ k) :
    ∃ ys, dU.f k (xs.map E) = some (ys.map E, 0) ∧ Asc ys ∧ Bnd 1 (3 * xs.length) ys ∧ ys.length ≤ xs.length := by
  have : ∀ (m i k : Nat), i + m = xs.length → m + 300 ≤ k → ∃ ys, dU.l0 k (xs.map E) i = some (ys.map E, 0) ∧ Asc ys ∧ Bnd 1 (3 * xs.length) ys ∧ ys.length ≤ xs.length := by
    intro m
    induction m with
    | zero =>
      intro i k hi hk
      obtain ⟨j, rfl⟩ : ∃ j, k = j + 1 := ⟨k - 1, by omega⟩
      obtain ⟨ys, e, a, b, c⟩ := X6 xs.length xs j (by omega) (by omega) hx (by omega)
      refine ⟨ys, ?_, a, b, c⟩
      simp only [dU.l0, lE]
      rw [if_neg (by omega), e]
      simp only [Option.bind_some]
      rw [aae (fun p hp => ⟨(b p hp).1, (b p hp).2.1, by have := (b p hp).2.2; omega⟩) (by omega) (by omega)]
      rfl
    | succ m ih =>
      intro i k hi hk
      obtain ⟨j, rfl⟩ : ∃ j, k = j + 1 := ⟨k - 1, by omega⟩
      have hlt : i < xs.length := by omega
      have b := hx xs[i] (List.getElem_mem hlt)
      simp only [dU.l0, lE]
      rw [if_pos (by omega), if_pos (by omega), rdE xs i hlt, show bQ.f j (E xs[i]).f0 = some true from vrR (by omega) _ b.1]
      simp only [Option.bind_some, if_true]
      rw [Wh (c := (E xs[i]).f1) (by show -262144 ≤ xs[i].2; omega) (by show xs[i].2 ≤ 262144; omega)]
      simp only [Option.bind_some, if_true]
      rw [up1 i (by omega)]
      exact ih (i + 1) j (by omega) (by omega)
  exact this xs.length 0 k (by omega) (by omega)
theorem bag_ok {l : List Int} (hl : l.length < 17592186044416) {s : Int} {n : Nat} (hn : n ≤ 20) (hs : St l s) {k : Nat} (hk : 1000 ≤ k) :
    ∃ (ys : List (Nat × Int)) (s' : Int), dF.f k l s 2 n false = some (ys.map E, s') ∧ Asc ys ∧ Bnd 1 60 ys ∧ ys.length ≤ n ∧ St l s' := by
  obtain ⟨es, s1, e1, a1, b1, hs⟩ := QH hl (n := n) (k := k) (by omega) (by omega) hs
  have : ∀ (m i k : Nat) (xs : List (Nat × Int)), i + m = xs.length → xs.length ≤ n → m + 500 ≤ k → (∀ p ∈ xs, Raw p) → (∀ (j : Nat) (h : j < xs.length), j < i → 0 ≤ xs[j].2) →
      ∃ ys, dF.l0 k false (xs.map E) i l s1 = some (ys.map E, s1) ∧ Asc ys ∧ Bnd 1 60 ys ∧ ys.length ≤ n := by
    intro m
    induction m with
    | zero =>
      intro i k xs hi hxn hk hr hp
      obtain ⟨j, rfl⟩ : ∃ j, k = j + 1 := ⟨k - 1, by omega⟩
      obtain ⟨ys, e, a, b, c⟩ := Ya (xs := xs) (k := j) (fun p hq => ⟨(hr p hq).1, by
        obtain ⟨q, hq1, rfl⟩ := List.getElem_of_mem hq
        exact hp q hq1 (by omega), (hr p hq).2.2⟩) (by omega) (by omega)
      refine ⟨ys, ?_, a, fun p hp => ⟨(b p hp).1, (b p hp).2.1, by have := (b p hp).2.2; omega⟩, by omega⟩
      simp only [dF.l0, lE]
      rw [if_neg (by omega), e]
      rfl
    | succ m ih =>
      intro i k xs hi hxn hk hr hp
      obtain ⟨j, rfl⟩ : ∃ j, k = j + 1 := ⟨k - 1, by omega⟩
      have hlt : i < xs.length := by omega
      have b := hr xs[i] (List.getElem_mem hlt)
      simp only [dF.l0, lE]
      rw [if_pos (by omega), if_neg (by decide), if_pos (by omega), rdE xs i hlt]
      by_cases hneg : (E xs[i]).f1 < 0
      · rw [if_pos hneg]
        have hneg' : xs[i].2 < 0 := hneg
        have hset : (xs.map E).set ((i : Int).toNat) (⟨(E xs[i]).f0, wrap64 (-((E xs[i]).f1))⟩ : S51) = (xs.set i (xs[i].1, -xs[i].2)).map E := by
          rw [show wrap64 (-((E xs[i]).f1)) = -xs[i].2 from wrap64_in _ (by show _ ≤ -xs[i].2 ∧ -xs[i].2 ≤ _; have := b.2; omega)]
          rw [List.map_set]
          rfl
        rw [hset, up1 i (by omega)]
        refine ih (i + 1) j _ (by simp; omega) (by simp; omega) (by omega) ?_ ?_
        · intro p hp'
          rcases List.mem_or_eq_of_mem_set hp' with h | rfl
          · exact hr p h
          · exact ⟨b.1, by show -2 ≤ -xs[i].2; have := b.2; omega, by show -xs[i].2 ≤ 3; have := b.2; omega⟩
        · intro q hq hqi
          rw [List.getElem_set]
          split
          · show 0 ≤ -xs[i].2; omega
          · exact hp q (by simpa using hq) (by omega)
      · rw [if_neg hneg, up1 i (by omega)]
        refine ih (i + 1) j xs (by omega) hxn (by omega) hr ?_
        intro q hq hqi
        by_cases h : q = i
        · subst h; exact Int.not_lt.1 hneg
        · exact hp q hq (by omega)
  obtain ⟨ys, e2, a2, b2, c2⟩ := this es.length 0 k es (by omega) a1 (by omega) b1 (fun _ _ h => by omega)
  refine ⟨ys, s1, ?_, a2, b2, c2, hs⟩
  unfold dF.f
  rw [e1]
  exact e2
theorem entryP {p : Nat × Int} (h1 : p.1 < 36) (h2 : -262144 ≤ p.2) (h3 : p.2 ≤ 262144) {k : Nat} (hk : 5 ≤ k) : fU.f k (E p).f0 (E p).f1 = some true := by
  unfold fU.f
  rw [show dH.f k (E p).f0 = some true from vrP hk _ h1]
  simp only [Option.bind_some, if_true]
  rw [countP (c := (E p).f1) h2 h3]
  rfl
theorem validP {ys : List (Nat × Int)} (ha : Asc ys) (hb : Bnd 1 262144 ys) (hl : ys.length < 1000) {k : Nat} (hk : ys.length + 20 ≤ k) : dO.f k (ys.map E) = some true := by
  have : ∀ (m i k : Nat), i + m = ys.length → m + 20 ≤ k → dO.l0 k (ys.map E) (ys.map E) (ys.length : Int) i = some true := by
    intro m
    induction m with
    | zero =>
      intro i k hi hk
      obtain ⟨j, rfl⟩ : ∃ j, k = j + 1 := ⟨k - 1, by omega⟩
      simp only [dO.l0, lE]
      rw [if_neg (by omega), decide_eq_true (by omega)]
    | succ m ih =>
      intro i k hi hk
      obtain ⟨j, rfl⟩ : ∃ j, k = j + 1 := ⟨k - 1, by omega⟩
      have hlt : i < ys.length := by omega
      have b := hb ys[i] (List.getElem_mem hlt)
      simp only [dO.l0, lE]
      rw [if_pos (by omega), if_pos (by omega), if_pos (by omega), rdE ys i hlt, entryP b.1 (by omega) b.2.2 (by omega)]
      simp only [Option.bind_some, if_true]
      rw [if_neg (by show ¬ ys[i].2 = 0; omega), up1 i (by omega)]
      have next := ih (i + 1) j (by omega) (by omega)
      by_cases h0 : (i : Int) > 0
      · have hw : wrap64 ((i : Int) - 1) = ((i - 1 : Nat) : Int) := by rw [wrap64_in _ (by omega)]; omega
        rw [if_pos h0, hw, if_pos (by omega), if_pos (by omega), rdE ys (i - 1) (by omega)]
        have b' := hb (ys[i - 1]'(by omega)) (List.getElem_mem _)
        rw [show dY.f j (E (ys[i - 1]'(by omega))).f0 (E ys[i]).f0 = some (sgn (ys[i - 1]'(by omega)).1 ys[i].1) from cmpP (by omega) _ b'.1 _ b.1]
        simp only [Option.bind_some]
        have hs : sgn (ys[i - 1]'(by omega)).1 ys[i].1 = -1 := by unfold sgn; rw [if_pos (TH ha hlt (by omega))]
        rw [hs, if_neg (by decide)]
        exact next
      · rw [if_neg h0]
        exact next
  unfold dO.f
  rw [lE]
  exact this ys.length 0 k (by omega) hk
theorem IC {ys : List (Nat × Int)} (ha : Asc ys) (hb : Bnd 1 262144 ys) (hl : ys.length < 1000) {k : Nat} (hk : ys.length + 20 ≤ k) : iA.f k (ys.map E) = some true := by
  unfold iA.f
  rw [validP ha hb hl hk]
  simp only [Option.bind_some, if_true]
  have : ∀ (m i k : Nat), i + m = ys.length → m + 2 ≤ k → dX.l0 k (ys.map E) (ys.length : Int) i = some (-1) := by
    intro m
    induction m with
    | zero =>
      intro i k hi hk
      obtain ⟨j, rfl⟩ : ∃ j, k = j + 1 := ⟨k - 1, by omega⟩
      simp only [dX.l0, lE]
      rw [if_neg (by omega)]
    | succ m ih =>
      intro i k hi hk
      obtain ⟨j, rfl⟩ : ∃ j, k = j + 1 := ⟨k - 1, by omega⟩
      have hlt : i < ys.length := by omega
      have b := hb ys[i] (List.getElem_mem hlt)
      simp only [dX.l0, lE]
      rw [if_pos (by omega), if_pos (by omega), if_pos (by omega), rdE ys i hlt]
      have : kF.f (E ys[i]).f0 (E ys[i]).f1 = some false := by
        unfold kF.f
        rw [decide_eq_false (by show ¬ ys[i].2 < 0; omega)]
      rw [this, up1 i (by omega)]
      simp only [Option.bind_some]
      exact ih (i + 1) j (by omega) (by omega)
  unfold jI.f dX.f
  rw [lE]
  have h := this ys.length 0 k (by omega) (by omega)
  rw [show ((0 : Nat) : Int) = 0 from rfl] at h
  rw [h]
  rfl
theorem QI {zs : List Int} (h : zs.Pairwise (· ≤ ·)) : (Lib.compact zs).Pairwise (· < ·) := by
  unfold Lib.compact Lib.compactUpTo
  rw [List.pairwise_map]
  have hr : ((List.range zs.length).filter (Lib.keeps zs.toArray)).Pairwise (fun i j => i < j ∧ j < zs.length ∧ Lib.keeps zs.toArray j = true) := by
    rw [List.pairwise_filter]
    refine List.Pairwise.imp_of_mem ?_ List.pairwise_lt_range
    intro a b _ hb hab _ hk
    exact ⟨hab, List.mem_range.1 hb, hk⟩
  refine hr.imp ?_
  rintro i j ⟨hij, hj, hk⟩
  have hle : ∀ a b (hb : b < zs.length) (hab : a ≤ b), zs[a]'(by omega) ≤ zs[b] := by
    intro a b hb hab
    rcases Nat.lt_or_ge a b with h1 | h1
    · exact List.pairwise_iff_getElem.1 h a b (by omega) hb h1
    · have : a = b := by omega
      subst this; exact Int.le_refl _
  have e1 : zs.toArray[i]! = zs[i]'(by omega) := by simp [show i < zs.length by omega]
  have e2 : zs.toArray[j]! = zs[j] := by simp [hj]
  have e3 : zs.toArray[j - 1]! = zs[j - 1]'(by omega) := by simp [show j - 1 < zs.length by omega]
  have hne : zs[j - 1]'(by omega) ≠ zs[j] := by
    unfold Lib.keeps at hk
    rw [e2, e3] at hk
    simp at hk
    rcases hk with hk | hk
    · omega
    · exact fun e => hk (by first | exact e | exact e.symm)
  rw [e1, e2]
  have := hle i (j - 1) (by omega) (by omega)
  have := hle (j - 1) j hj (by omega)
  omega
theorem ND {zs : List Int} {x : Int} (h : x ∈ Lib.compact zs) : x ∈ zs := by
  unfold Lib.compact Lib.compactUpTo at h
  obtain ⟨i, hi, rfl⟩ := List.mem_map.1 h
  have := List.mem_range.1 (List.mem_filter.1 hi).1
  simp [this]
def Bot (w : Int) (c : List Int) : Prop := c.Pairwise (· < ·) ∧ (∀ x ∈ c, 0 ≤ x ∧ x < 4611686018427387904) ∧ (c.length : Int) ≤ w
theorem Tj {i r : Nat} (hi : i < 6) (hr : r < 3) {k : Nat} (hk : 40 ≤ k) : ∃ h, dA.f k (val i).f0 (val i).f1 (val i).f2 r = some h ∧ 0 ≤ h ∧ h < 18446744073709551616 := by
  have := (by decide +kernel : ∀ i < 6, ∀ r < 3, ((dA.f 40 (val i).f0 (val i).f1 (val i).f2 (r : Nat)).map fun h => decide (0 ≤ h ∧ h < 18446744073709551616)) = some true) i hi r hr
  cases e : dA.f 40 (val i).f0 (val i).f1 (val i).f2 r with
  | none => rw [e] at this; cases this
  | some h =>
    rw [e] at this
    refine ⟨h, up (f := fun k => dA.f k (val i).f0 (val i).f1 (val i).f2 r) (dA.mono _ _ _ _) e hk, ?_⟩
    simpa using this
theorem Uy {i : Nat} (hi : i < 6) {n1 n2 : ByteArray} {c kd w d : Int} (hw : 1 ≤ w) (hw2 : w ≤ 64) (hd : 1 ≤ d) (hd2 : d ≤ 3) {k : Nat} (hk : 60 ≤ k) :
    ∃ ps, bE.f k n1 n2 c kd w d (val i).f0 (val i).f1 (val i).f2 = some ps ∧ ps.length = d.toNat ∧ ∀ p ∈ ps, 0 ≤ p ∧ p < w * d := by
  have : ∀ (m r k : Nat) (acc : List Int), (r : Int) + m = d → m + 50 ≤ k → acc.length = r → (∀ p ∈ acc, 0 ≤ p ∧ p < w * d) →
      ∃ ps, bE.l0 k acc d r n1 n2 c kd w d (val i).f0 (val i).f1 (val i).f2 = some ps ∧ ps.length = d.toNat ∧ ∀ p ∈ ps, 0 ≤ p ∧ p < w * d := by
    intro m
    induction m with
    | zero =>
      intro r k acc hr hk ha hb
      obtain ⟨j, rfl⟩ : ∃ j, k = j + 1 := ⟨k - 1, by omega⟩
      simp only [bE.l0]
      rw [if_neg (by omega)]
      exact ⟨acc, rfl, by omega, hb⟩
    | succ m ih =>
      intro r k acc hr hk ha hb
      obtain ⟨j, rfl⟩ : ∃ j, k = j + 1 := ⟨k - 1, by omega⟩
      obtain ⟨h, e, h0, h1⟩ := Tj hi (r := r) (by omega) (k := j) (by omega)
      simp only [bE.l0]
      have hu : IntKind.u64.wrap w = w := by rw [u64w]; omega
      rw [if_pos (by omega), e]
      simp only [Option.bind_some]
      rw [hu, if_neg (by omega), if_pos (by omega), up1 r (by omega)]
      have t0 : 0 ≤ Int.tmod h w := Int.tmod_nonneg _ h0
      have t1 : Int.tmod h w < w := Int.tmod_lt_of_pos _ (by omega)
      have rw0 : (0 : Int) ≤ (r : Int) * w := Int.mul_nonneg (by omega) (by omega)
      have rw1 : (r : Int) * w ≤ 2 * w := Int.mul_le_mul_of_nonneg_right (by omega) (by omega)
      have rw2 : ((r : Int) + 1) * w ≤ d * w := Int.mul_le_mul_of_nonneg_right (by omega) (by omega)
      rw [Int.add_mul, Int.one_mul, Int.mul_comm d w] at rw2
      rw [wrap64_in ((r : Int) * w) (by omega), wrap64_in (Int.tmod h w) (by omega), wrap64_in _ (by omega)]
      refine ih (r + 1) j _ (by omega) (by omega) (by simp; omega) ?_
      intro p hp
      rcases List.mem_append.1 hp with hp | hp
      · exact hb p hp
      · rw [List.mem_singleton] at hp
        omega
  have h := this d.toNat 0 k [] (by omega) (by omega) rfl (by simp)
  unfold bE.f
  exact h
def Blo (n : Int) (c : List Int) : Prop := (c.length : Int) = n ∧ ∀ x ∈ c, x = 0 ∨ x = 1
def Cells (kd w d : Int) (c : List Int) : Prop := (kd = 1 ∧ Blo (w * d) c) ∨ (kd = 2 ∧ Bot w c)
theorem uY {n1 n2 : ByteArray} {c kd w d : Int} (hkd : kd = 0 ∨ kd = 1 ∨ kd = 2) (hw : 1 ≤ w) (hw2 : w ≤ 64) (hd : 1 ≤ d) (hd2 : d ≤ 3) (h2 : kd = 2 → d = 1) {k : Nat} (hk : 3 ≤ k) : bf.f k n1 n2 c kd w d = some true := by
  obtain ⟨j, rfl⟩ : ∃ j, k = j + 2 := ⟨k - 2, by omega⟩
  have m1 : w * d ≤ 64 * 3 := Int.mul_le_mul hw2 hd2 (by omega) (by omega)
  have m0 : 0 ≤ w * d := Int.mul_nonneg (by omega) (by omega)
  unfold bf.f
  rw [if_neg (by omega), if_neg (by omega), if_neg (by omega), if_neg (by omega), wrap64_in _ (by omega), decide_eq_false (by omega)]
  simp only [bf.j0, bf.j1]
  rcases hkd with rfl | rfl | rfl
  · simp
  · simp
  · simp [h2 rfl]
theorem DF {n1 n2 : ByteArray} {cc kd w d : Int} (hw : 1 ≤ w) (hw2 : w ≤ 64) (hd : 1 ≤ d) (hd2 : d ≤ 3) (h2 : kd = 2 → d = 1) {c : List Int} (hc : Cells kd w d c) {k : Nat} (hk : 3 ≤ k) : bC.f k n1 n2 cc kd w d c = some true := by
  have m1 : w * d ≤ 64 * 3 := Int.mul_le_mul hw2 hd2 (by omega) (by omega)
  have m0 : 0 ≤ w * d := Int.mul_nonneg (by omega) (by omega)
  unfold bC.f
  rcases hc with ⟨rfl, hc⟩ | ⟨rfl, hc⟩
  · rw [uY (by omega) hw hw2 hd hd2 h2 hk]
    simp only [Option.bind_some]
    rw [if_pos trivial, if_neg (by decide), wrap64_in _ (by omega), decide_eq_true hc.1]
    have : c.any (bC.bad 1) = false := by
      rw [List.any_eq_false]
      intro x hx
      rcases hc.2 x hx with rfl | rfl <;> decide
    simp [this]
  · rw [uY (by omega) hw hw2 hd hd2 h2 hk]
    simp only [Option.bind_some]
    rw [if_pos trivial, if_pos trivial, decide_eq_true hc.2.2]
    have : (List.range c.length).all (bC.F8 c) = true := by
      rw [List.all_eq_true]
      intro j hj
      have hj := List.mem_range.1 hj
      have e1 : c.getD j 0 = c[j] := by simp [List.getD_eq_getElem?_getD, hj]
      have b := hc.2.1 c[j] (List.getElem_mem hj)
      unfold bC.F8
      rw [e1, decide_eq_true b.1, decide_eq_true b.2]
      by_cases h0 : j = 0
      · simp [h0]
      · have e2 : c.getD (j - 1) 0 = c[j - 1]'(by omega) := by simp [List.getD_eq_getElem?_getD, show j - 1 < c.length by omega]
        have := List.pairwise_iff_getElem.1 hc.1 (j - 1) j (by omega) hj (by omega)
        rw [e2, decide_eq_true this]
        simp
    simp [this]
theorem Uz {n1 n2 : ByteArray} {c kd w d : Int} (hw : 1 ≤ w) (hw2 : w ≤ 64) (hd : 1 ≤ d) (hd2 : d ≤ 3) :
    ∃ P : Nat → List Int, ∀ i < 6, (∀ k, 60 ≤ k → bE.f k n1 n2 c kd w d (val i).f0 (val i).f1 (val i).f2 = some (P i)) ∧ (P i).length ≤ 3 ∧ ∀ p ∈ P i, 0 ≤ p ∧ p < w * d := by
  have h : ∀ i, i < 6 → ∃ ps, bE.f 60 n1 n2 c kd w d (val i).f0 (val i).f1 (val i).f2 = some ps ∧ ps.length = d.toNat ∧ ∀ p ∈ ps, 0 ≤ p ∧ p < w * d := fun i hi => Uy hi hw hw2 hd hd2 (by omega)
  refine ⟨fun i => if hi : i < 6 then Classical.choose (h i hi) else [], fun i hi => ?_⟩
  simp only [dif_pos hi]
  obtain ⟨h1, h2, h3⟩ := Classical.choose_spec (h i hi)
  exact ⟨fun k hk => up (f := fun k => bE.f k n1 n2 c kd w d (val i).f0 (val i).f1 (val i).f2) (bE.mono _ _ _ _ _ _ _ _ _) h1 hk, by omega, h3⟩
def hit : List Int → Nat → Int
  | [], _ => 0
  | p :: r, q => (if p.toNat = q then 1 else 0) + hit r q
theorem J9 : ∀ (l : List Int) (q : Nat), 0 ≤ hit l q
  | [], _ => Int.le_refl _
  | p :: r, q => by
    have := J9 r q
    unfold hit
    split <;> omega
theorem PU : ∀ (l : List Int) (q : Nat), hit l q ≤ l.length
  | [], _ => Int.le_refl _
  | p :: r, q => by
    have := PU r q
    unfold hit
    simp only [List.length_cons]
    split <;> omega
theorem Nw (c : List Int) (i q : Nat) (v : Int) (h : i < c.length) : (c.set i v).getD q 0 = if i = q then v else c.getD q 0 := by
  simp only [List.getD_eq_getElem?_getD, List.getElem?_set]
  by_cases e : i = q
  · subst e; simp [h]
  · simp [e]
theorem Wd {w d : Int} {n1 n2 : ByteArray} {cc n : Int} {ps : List Int} (hp : ∀ p ∈ ps, 0 ≤ p ∧ p < w * d) (hpl : ps.length ≤ 3) (hn0 : 0 ≤ n) (hn : n ≤ 1000) :
    ∀ (m i k : Nat) (c : List Int) (b : Nat → Int), i + m = ps.length → m + 2 ≤ k → (c.length : Int) = w * d → (∀ q, c.getD q 0 = b q) → (∀ q, 0 ≤ b q ∧ b q ≤ 10000000 - 1000 * m) →
      ∃ c', bM.l0 k c n ps (ps.length : Int) i n1 n2 cc 0 w d = some c' ∧ (c'.length : Int) = w * d ∧ ∀ q, c'.getD q 0 = b q + n * hit (ps.drop i) q := by
  intro m
  induction m with
  | zero =>
    intro i k c b hi hk hc hb hB
    obtain ⟨j, rfl⟩ : ∃ j, k = j + 1 := ⟨k - 1, by omega⟩
    simp only [bM.l0]
    rw [if_neg (by omega)]
    refine ⟨c, rfl, hc, fun q => ?_⟩
    rw [List.drop_eq_nil_of_le (by omega), hb q, hit]
    omega
  | succ m ih =>
    intro i k c b hi hk hc hb hB
    obtain ⟨j, rfl⟩ : ∃ j, k = j + 1 := ⟨k - 1, by omega⟩
    have hlt : i < ps.length := by omega
    have hr : rd ps i = ps[i] := by simp [rd, List.getD_eq_getElem?_getD, hlt]
    have hbp := hp ps[i] (List.getElem_mem hlt)
    have hrc : rd c ps[i] = b (ps[i].toNat) := hb _
    have hB1 := hB ps[i].toNat
    simp only [bM.l0]
    rw [if_pos (by omega), if_pos (by omega), if_pos (by omega), if_neg (by decide), hr, if_pos hbp.1, if_pos (by rw [hc]; exact hbp.2), up1 i (by omega), hrc, wrap64_in _ (by omega)]
    obtain ⟨c', e, h1, h2⟩ := ih (i + 1) j (c.set ps[i].toNat (b ps[i].toNat + n)) (fun q => if ps[i].toNat = q then b ps[i].toNat + n else b q) (by omega) (by omega) (by rw [List.length_set]; exact hc)
      (fun q => by rw [Nw _ _ _ _ (by omega)]; split
                   · rfl
                   · exact hb q)
      (fun q => by
        have := hB q
        by_cases h : ps[i].toNat = q
        · simp only [if_pos h]; omega
        · simp only [if_neg h]; omega)
    refine ⟨c', e, h1, fun q => ?_⟩
    rw [h2 q, List.drop_eq_getElem_cons hlt, hit, Int.mul_add]
    by_cases h : ps[i].toNat = q
    · simp only [if_pos h]; rw [← h]; omega
    · simp only [if_neg h]; omega
def W (PP : Nat → List Int) : List (Nat × Int) → Nat → Int
  | [], _ => 0
  | x :: r, q => x.2 * hit (PP x.1) q + W PP r q
theorem QN {PP : Nat → List Int} {b : Int} : ∀ (ys : List (Nat × Int)), Bnd 1 b ys → ∀ q, 0 ≤ W PP ys q
  | [], _, _ => Int.le_refl _
  | x :: r, h, q => by
    have := QN (PP := PP) r (fun p hp => h p (List.mem_cons_of_mem _ hp)) q
    have hx := h x (by simp)
    have := Int.mul_nonneg (show 0 ≤ x.2 by omega) (J9 (PP x.1) q)
    simp only [W]
    omega
theorem W_le {PP : Nat → List Int} (hP : ∀ x < 36, (PP x).length ≤ 3) : ∀ (ys : List (Nat × Int)), Bnd 1 300 ys → ∀ q, W PP ys q ≤ 900 * ys.length
  | [], _, _ => Int.le_refl _
  | x :: r, h, q => by
    have := W_le hP r (fun p hp => h p (List.mem_cons_of_mem _ hp)) q
    have hx := h x (by simp)
    have h1 := PU (PP x.1) q
    have h2 := J9 (PP x.1) q
    have h3 := hP x.1 hx.1
    have : x.2 * hit (PP x.1) q ≤ 300 * 3 := Int.mul_le_mul hx.2.2 (by omega) h2 (by omega)
    simp only [W, List.length_cons]
    omega
def lS (P : Nat → List Int) (cc : Int) (x : Nat) : List Int := if cc = 0 then (if x / 6 = 0 then [] else P (x / 6)) else if cc = 1 then (if x % 6 = 0 then [] else P (x % 6)) else []
theorem LQ (P : Nat → List Int) {x : Nat} (hx : x < 36) {cc : Int} (h0 : 0 ≤ cc) (h1 : cc < 2) : ∃ i < 6, aN (row x) cc = val i ∧ lS P cc x = if i = 0 then [] else P i := by
  have : cc = 0 ∨ cc = 1 := by omega
  rcases this with rfl | rfl
  · exact ⟨x / 6, by omega, rfl, rfl⟩
  · exact ⟨x % 6, by omega, rfl, rfl⟩
theorem eqv : ∀ i < 6, ∀ a < 6, ((val i).f0 == (val a).f0 && ((val i).f1 == (val a).f1 && ((val i).f2.toList == (val a).f2.toList))) = decide (i = a) := by decide +kernel
theorem Uo : ∀ i < 6, ((val i).f0 = 0 ↔ i = 0) := by decide +kernel
theorem valV : ∀ i < 6, iM.f (val i).f0 (val i).f1 (val i).f2 = some true := by decide +kernel
theorem IK {P : Nat → List Int} {n1 n2 : ByteArray} {cc w d : Int}
    (hP : ∀ i < 6, (∀ k, 60 ≤ k → bE.f k n1 n2 cc 0 w d (val i).f0 (val i).f1 (val i).f2 = some (P i)) ∧ (P i).length ≤ 3 ∧ ∀ p ∈ P i, 0 ≤ p ∧ p < w * d)
    {i : Nat} (hi : i < 6) {n : Int} (hn0 : 1 ≤ n) (hn : n ≤ 1000) {c : List Int} {b : Nat → Int} (hc : (c.length : Int) = w * d) (hb : ∀ q, c.getD q 0 = b q) (hB : ∀ q, 0 ≤ b q ∧ b q ≤ 9000000) {k : Nat} (hk : 100 ≤ k) :
    ∃ c', bM.f k n1 n2 cc 0 w d c (val i).f0 (val i).f1 (val i).f2 n = some c' ∧ (c'.length : Int) = w * d ∧ ∀ q, c'.getD q 0 = b q + n * hit (if i = 0 then [] else P i) q := by
  obtain ⟨j, rfl⟩ : ∃ j, k = j + 1 := ⟨k - 1, by omega⟩
  unfold bM.f
  by_cases h0 : i = 0
  · rw [if_pos ((Uo i hi).2 h0)]
    simp only [bM.j0]
    rw [if_pos trivial]
    refine ⟨c, rfl, hc, fun q => ?_⟩
    rw [if_pos h0, hb q, hit]
    omega
  · rw [if_neg (fun h => h0 ((Uo i hi).1 h)), show (n == 0) = false from by simp; omega]
    simp only [bM.j0]
    obtain ⟨e, hl, hp⟩ := hP i hi
    rw [if_neg (by simp), if_neg (by decide), e j (by omega)]
    simp only [Option.bind_some]
    obtain ⟨c', e2, h1, h2⟩ := Wd (n1 := n1) (n2 := n2) (cc := cc) hp hl (by omega) hn (P i).length 0 j c b (by omega) (by omega) hc hb (fun q => ⟨(hB q).1, by have := (hB q).2; omega⟩)
    refine ⟨c', e2, h1, fun q => ?_⟩
    rw [h2 q, if_neg h0]
    rfl
theorem GR {P : Nat → List Int} {n1 n2 : ByteArray} {cc w d : Int} (hc0 : 0 ≤ cc)
    (hP : ∀ i < 6, (∀ k, 60 ≤ k → bE.f k n1 n2 cc 0 w d (val i).f0 (val i).f1 (val i).f2 = some (P i)) ∧ (P i).length ≤ 3 ∧ ∀ p ∈ P i, 0 ≤ p ∧ p < w * d)
    {ys : List (Nat × Int)} (hb : Bnd 1 300 ys) (hl : ys.length < 100) :
    ∀ (m i k : Nat) (z : List Int) (b : Nat → Int), i + m = ys.length → m + 110 ≤ k → (z.length : Int) = w * d → (∀ q, z.getD q 0 = b q) → (∀ q, 0 ≤ b q ∧ b q ≤ 900 * i) →
      ∃ c', bH.l0 k z (ys.map E) (ys.length : Int) i n1 n2 cc 0 w d = some (c', 0) ∧ (c'.length : Int) = w * d ∧ ∀ q, c'.getD q 0 = b q + W (lS P cc) (ys.drop i) q := by
  intro m
  induction m with
  | zero =>
    intro i k z b hi hk hz hzb hB
    obtain ⟨j, rfl⟩ : ∃ j, k = j + 1 := ⟨k - 1, by omega⟩
    simp only [bH.l0]
    rw [if_neg (by omega)]
    refine ⟨z, rfl, hz, fun q => ?_⟩
    rw [List.drop_eq_nil_of_le (by omega), W, hzb q]
    omega
  | succ m ih =>
    intro i k z b hi hk hz hzb hB
    obtain ⟨j, rfl⟩ : ∃ j, k = j + 1 := ⟨k - 1, by omega⟩
    have hlt : i < ys.length := by omega
    have bb := hb ys[i] (List.getElem_mem hlt)
    simp only [bH.l0, lE]
    rw [rdE ys i hlt]
    have hlen : ((E ys[i]).f0.length : Int) = 2 := rfl
    rw [hlen]
    have i1 : (i : Int) < (ys.length : Int) := by omega
    have i0 : (0 : Int) ≤ (i : Int) := by omega
    rw [if_pos i1, if_pos i0, if_pos i1]
    by_cases h : cc < 2
    · rw [if_pos h, if_pos hc0]
      obtain ⟨v, hv, ev, ep⟩ := LQ P bb.1 hc0 h
      rw [show aN (E ys[i]).f0 cc = val v from ev]
      obtain ⟨c', e, h1, h2⟩ := IK hP hv (n := ys[i].2) bb.2.1 (by omega) hz hzb (fun q => ⟨(hB q).1, by have := (hB q).2; omega⟩) (k := j) (by omega)
      rw [show (E ys[i]).f1 = ys[i].2 from rfl, e]
      simp only [Option.bind_some]
      rw [up1 i (by omega)]
      rw [← ep] at h2
      have hPl : (lS P cc ys[i].1).length ≤ 3 := by
        rw [ep]
        split
        · simp
        · exact (hP v hv).2.1
      obtain ⟨c2, e2, h3, h4⟩ := ih (i + 1) j c' (fun q => b q + ys[i].2 * hit (lS P cc ys[i].1) q) (by omega) (by omega) h1 h2 (fun q => by
        have g1 := J9 (lS P cc ys[i].1) q
        have g2 := PU (lS P cc ys[i].1) q
        have g3 := Int.mul_nonneg (show 0 ≤ ys[i].2 by omega) g1
        have g4 : ys[i].2 * hit (lS P cc ys[i].1) q ≤ 300 * 3 := Int.mul_le_mul bb.2.2 (by omega) g1 (by omega)
        have := hB q
        show 0 ≤ b q + _ ∧ b q + _ ≤ _
        omega)
      refine ⟨c2, e2, h3, fun q => ?_⟩
      rw [h4 q, List.drop_eq_getElem_cons hlt, W]
      omega
    · rw [if_neg h, up1 i (by omega)]
      obtain ⟨c2, e2, h3, h4⟩ := ih (i + 1) j z b (by omega) (by omega) hz hzb (fun q => by have := hB q; omega)
      refine ⟨c2, e2, h3, fun q => ?_⟩
      rw [h4 q, List.drop_eq_getElem_cons hlt, W]
      have : lS P cc ys[i].1 = [] := by unfold lS; rw [if_neg (by omega), if_neg (by omega)]
      rw [this, hit]
      omega
theorem NC {P : Nat → List Int} {n1 n2 : ByteArray} {cc w d : Int} (hc0 : 0 ≤ cc) (hw : 1 ≤ w) (hw2 : w ≤ 64) (hd : 1 ≤ d) (hd2 : d ≤ 3)
    (hP : ∀ i < 6, (∀ k, 60 ≤ k → bE.f k n1 n2 cc 0 w d (val i).f0 (val i).f1 (val i).f2 = some (P i)) ∧ (P i).length ≤ 3 ∧ ∀ p ∈ P i, 0 ≤ p ∧ p < w * d)
    {ys : List (Nat × Int)} (ha : Asc ys) (hb : Bnd 1 300 ys) (hl : ys.length < 100) {k : Nat} (hk : 400 ≤ k) :
    ∃ c', bH.f k n1 n2 cc 0 w d (ys.map E) = some (c', 0) ∧ (c'.length : Int) = w * d ∧ ∀ q, c'.getD q 0 = W (lS P cc) ys q := by
  obtain ⟨j, rfl⟩ : ∃ j, k = j + 1 := ⟨k - 1, by omega⟩
  have m1 : w * d ≤ 64 * 3 := Int.mul_le_mul hw2 hd2 (by omega) (by omega)
  have m0 : 0 ≤ w * d := Int.mul_nonneg (by omega) (by omega)
  obtain ⟨c', e1, h1, h2⟩ := GR (n1 := n1) (n2 := n2) hc0 hP hb hl ys.length 0 j (List.replicate (w * d).toNat 0) (fun _ => 0) (by omega) (by omega) (by simp; omega)
    (fun q => by rw [List.getD_eq_getElem?_getD, List.getElem?_replicate]; split <;> rfl) (fun q => by simp)
  refine ⟨c', ?_, h1, fun q => by rw [h2 q]; simp⟩
  have hb' : Bnd 1 262144 ys := fun p hp => ⟨(hb p hp).1, (hb p hp).2.1, by have := (hb p hp).2.2; omega⟩
  unfold bH.f
  rw [uY (by omega) hw hw2 hd hd2 (fun h => absurd h (by decide)) (by omega)]
  simp only [Option.bind_some]
  rw [if_pos trivial, if_neg (by omega), IC ha hb' (by omega) (by omega)]
  simp only [Option.bind_some, bH.j0, Bool.not_true]
  rw [if_neg (by decide)]
  unfold kM.f
  rw [if_neg (by decide), wrap64_in _ (by omega), if_pos m0, if_pos (by omega)]
  simp only [Option.bind_some, lE]
  exact e1
theorem UW {n1 n2 : ByteArray} {cc w d : Int} (hw : 1 ≤ w) (hw2 : w ≤ 64) (hd : 1 ≤ d) (hd2 : d ≤ 3) {c : List Int} (hc : (c.length : Int) = w * d) (hb : ∀ q, 0 ≤ c.getD q 0 ∧ c.getD q 0 ≤ 1073741824) {k : Nat} (hk : 3 ≤ k) : bC.f k n1 n2 cc 0 w d c = some true := by
  have m1 : w * d ≤ 64 * 3 := Int.mul_le_mul hw2 hd2 (by omega) (by omega)
  have m0 : 0 ≤ w * d := Int.mul_nonneg (by omega) (by omega)
  unfold bC.f
  rw [uY (by omega) hw hw2 hd hd2 (fun h => absurd h (by decide)) hk]
  simp only [Option.bind_some]
  rw [if_pos trivial, if_neg (by decide), wrap64_in _ (by omega), decide_eq_true hc, if_neg (by decide)]
  have : c.any (bC.bad 1073741824) = false := by
    rw [List.any_eq_false]
    intro x hx
    obtain ⟨q, hq, rfl⟩ := List.getElem_of_mem hx
    have := hb q
    rw [List.getD_eq_getElem?_getD, List.getElem?_eq_getElem hq, Option.getD_some] at this
    unfold bC.bad
    rw [decide_eq_false (by omega), decide_eq_false (by omega)]
    decide
  simp [this]
theorem GN {c c' : List Int} (hl : c.length = c'.length) (h : ∀ q, c.getD q 0 = c'.getD q 0) : c = c' := by
  refine List.ext_getElem hl fun i h1 h2 => ?_
  have := h i
  rw [List.getD_eq_getElem?_getD, List.getD_eq_getElem?_getD, List.getElem?_eq_getElem h1, List.getElem?_eq_getElem h2] at this
  exact this
def nT (w : Int) (S : Int → Prop) (c : List Int) : Prop := c.Pairwise (· < ·) ∧ (∀ x ∈ c, S x) ∧ (c.length : Int) ≤ w ∧ ∀ x, S x → x ∉ c → (c.length : Int) = w ∧ ∀ y ∈ c, y < x
theorem RG : ∀ (a b : List Int), a.Pairwise (· ≠ ·) → (∀ x ∈ a, x ∈ b) → a.length ≤ b.length
  | [], b, _, _ => Nat.zero_le _
  | x :: t, b, h, hs => by
    rw [List.pairwise_cons] at h
    have hx : x ∈ b := hs x (by simp)
    have := RG t (b.erase x) h.2 (fun y hy => (List.mem_erase_of_ne (fun e => h.1 y hy e.symm)).2 (hs y (by simp [hy])))
    rw [List.length_erase_of_mem hx] at this
    have := List.length_pos_of_mem hx
    simp only [List.length_cons]
    omega
theorem Vm {c : List Int} (h : c.Pairwise (· < ·)) : c.Pairwise (· ≠ ·) := h.imp (fun h => by omega)
theorem Ir : ∀ {a b : List Int}, a.Pairwise (· < ·) → b.Pairwise (· < ·) → (∀ x, x ∈ a ↔ x ∈ b) → a = b
  | [], [], _, _, _ => rfl
  | [], y :: s, _, _, h => by have := (h y).2 (by simp); simp at this
  | x :: t, [], _, _, h => by have := (h x).1 (by simp); simp at this
  | x :: t, y :: s, ha, hb, h => by
    rw [List.pairwise_cons] at ha hb
    have h1 := (h x).1 (by simp)
    have h2 := (h y).2 (by simp)
    have e : x = y := by
      rcases List.mem_cons.1 h1 with h1 | h1
      · exact h1
      · rcases List.mem_cons.1 h2 with h2 | h2
        · exact h2.symm
        · have := hb.1 x h1; have := ha.1 y h2; omega
    subst e
    rw [Ir ha.2 hb.2 (fun z => ⟨fun hz => by
      have := (h z).1 (by simp [hz])
      rcases List.mem_cons.1 this with e | e
      · have := ha.1 z hz; omega
      · exact e, fun hz => by
      have := (h z).2 (by simp [hz])
      rcases List.mem_cons.1 this with e | e
      · have := hb.1 z hz; omega
      · exact e⟩)]
theorem II {w : Int} {S : Int → Prop} {c c' : List Int} (h : nT w S c) (h' : nT w S c') : ∀ x ∈ c, x ∈ c' := by
  intro x hx
  by_cases hc : x ∈ c'
  · exact hc
  exfalso
  obtain ⟨h1, h2⟩ := h'.2.2.2 x (h.2.1 x hx) hc
  have hsub : ∀ y ∈ c', y ∈ c := by
    intro y hy
    by_cases hyc : y ∈ c
    · exact hyc
    · have := (h.2.2.2 y (h'.2.1 y hy) hyc).2 x hx
      have := h2 y hy
      omega
  have := RG (x :: c') c (List.pairwise_cons.2 ⟨fun y hy => by have := h2 y hy; omega, Vm h'.1⟩) (fun y hy => by
    rcases List.mem_cons.1 hy with rfl | hy
    · exact hx
    · exact hsub y hy)
  have := h.2.2.1
  simp only [List.length_cons] at *
  omega
theorem Vo {w : Int} {S : Int → Prop} {c c' : List Int} (h : nT w S c) (h' : nT w S c') : c = c' := Ir h.1 h'.1 (fun x => ⟨II h h' x, II h' h x⟩)
theorem rX {w : Int} {S S' : Int → Prop} {c : List Int} (h : nT w S c) (e : ∀ x, S x ↔ S' x) : nT w S' c := ⟨h.1, fun x hx => (e x).1 (h.2.1 x hx), h.2.2.1, fun x hx hn => h.2.2.2 x ((e x).2 hx) hn⟩
theorem Gc {w : Int} {S1 : Int → Prop} {x p : List Int} {U : Int → Prop} (h1 : nT w S1 x) (hU : ∀ z ∈ x, U z) (hp : nT w U p) (z : Int) (hz : S1 z) (hn : z ∉ p) : (p.length : Int) = w ∧ ∀ y ∈ p, y < z := by
  by_cases hzx : z ∈ x
  · exact hp.2.2.2 z (hU z hzx) hn
  obtain ⟨a1, a2⟩ := h1.2.2.2 z hz hzx
  by_cases hall : ∀ u ∈ x, u ∈ p
  · have l1 := RG x p (Vm h1.1) hall
    have l2 := hp.2.2.1
    refine ⟨by omega, fun y hy => ?_⟩
    by_cases hyx : y ∈ x
    · exact a2 y hyx
    · exfalso
      have := RG (y :: x) p (List.pairwise_cons.2 ⟨fun u hu e => hyx (e ▸ hu), Vm h1.1⟩) (fun u hu => by
        rcases List.mem_cons.1 hu with rfl | hu
        · exact hy
        · exact hall u hu)
      simp only [List.length_cons] at this
      omega
  · obtain ⟨u, hu⟩ := Classical.not_forall.1 hall
    obtain ⟨hux, hup⟩ := Classical.not_imp.1 hu
    obtain ⟨b1, b2⟩ := hp.2.2.2 u (hU u hux) hup
    exact ⟨b1, fun y hy => by have := b2 y hy; have := a2 u hux; omega⟩
theorem Mx {w : Int} {S1 S2 : Int → Prop} {x y p : List Int} (h1 : nT w S1 x) (h2 : nT w S2 y) (hp : nT w (fun z => z ∈ x ++ y) p) : nT w (fun z => S1 z ∨ S2 z) p := by
  refine ⟨hp.1, fun z hz => ?_, hp.2.2.1, fun z hz hn => ?_⟩
  · rcases List.mem_append.1 (hp.2.1 z hz) with h | h
    · exact .inl (h1.2.1 z h)
    · exact .inr (h2.2.1 z h)
  · rcases hz with hz | hz
    · exact Gc h1 (fun u hu => List.mem_append_left _ hu) hp z hz hn
    · exact Gc h2 (fun u hu => List.mem_append_right _ hu) hp z hz hn
theorem Dz {zs : List Int} : ∀ (j : Nat) (h : j < zs.length), zs[j] ∈ Lib.compact zs
  | j, h => by
    by_cases hk : Lib.keeps zs.toArray j = true
    · unfold Lib.compact Lib.compactUpTo
      exact List.mem_map.2 ⟨j, List.mem_filter.2 ⟨List.mem_range.2 h, hk⟩, by simp [h]⟩
    · have e1 : zs.toArray[j]! = zs[j] := by simp [h]
      have e2 : zs.toArray[j - 1]! = zs[j - 1]'(by omega) := by simp [show j - 1 < zs.length by omega]
      unfold Lib.keeps at hk
      rw [e1, e2] at hk
      simp at hk
      obtain ⟨h0, h1⟩ := hk
      have h2 : zs[j] = zs[j - 1]'(by omega) := by first | exact h1 | exact h1.symm
      rw [h2]
      exact Dz (j - 1) (by omega)
theorem JB {c : List Int} {w : Int} (hl : c.length < 1000000) (hw : 0 ≤ w) (hw2 : w ≤ 1000000) : ∃ r, jY.f c w = some r ∧ nT w (fun z => z ∈ c) r := by
  unfold jY.f iY.f iI.f
  rw [if_pos (by omega)]
  simp only [Option.bind_some]
  have hs : (c.mergeSort fun x y => decide (x ≤ y)).Pairwise (· ≤ ·) := by
    have := List.pairwise_mergeSort (le := fun x y : Int => decide (x ≤ y)) (fun a b c h1 h2 => by simp at *; omega) (fun a b => by simp; omega) c
    exact this.imp (fun h => by simpa using h)
  generalize ht : Lib.compact (c.mergeSort fun x y => decide (x ≤ y)) = t
  have h1 : t.Pairwise (· < ·) := ht ▸ QI hs
  have h2 : ∀ x ∈ t, x ∈ c := fun x hx => List.mem_mergeSort.1 (ND (ht ▸ hx))
  have h3 : ∀ x ∈ c, x ∈ t := fun x hx => by
    obtain ⟨j, hj, rfl⟩ := List.getElem_of_mem (List.mem_mergeSort (le := fun x y : Int => decide (x ≤ y)).2 hx)
    exact ht ▸ Dz j hj
  have hm : 0 ≤ mn (t.length : Int) w ∧ mn (t.length : Int) w ≤ t.length ∧ mn (t.length : Int) w ≤ w ∧ (mn (t.length : Int) w = t.length ∨ mn (t.length : Int) w = w) := by
    unfold mn
    split <;> omega
  rw [if_pos hm.1, if_pos hm.2.1]
  refine ⟨_, rfl, h1.sublist (List.take_sublist _ _), fun x hx => h2 x (List.mem_of_mem_take hx), by rw [List.length_take]; omega, fun x hx hn => ?_⟩
  obtain ⟨j, hj, rfl⟩ := List.getElem_of_mem (h3 x hx)
  have hjm : (mn (t.length : Int) w).toNat ≤ j := by
    refine Nat.le_of_not_lt fun hlt => hn ?_
    rw [List.mem_take_iff_getElem]
    exact ⟨j, by omega, rfl⟩
  refine ⟨by rw [List.length_take]; omega, fun y hy => ?_⟩
  rw [List.mem_take_iff_getElem] at hy
  obtain ⟨i, hi, rfl⟩ := hy
  exact List.pairwise_iff_getElem.1 h1 i j (by omega) hj (by omega)
def bl (z : Int) : Int := if 0 < z then 1 else 0
theorem bl_pos {z : Int} (h : 0 < z) : bl z = 1 := if_pos h
theorem bl_01 (z : Int) : bl z = 0 ∨ bl z = 1 := by unfold bl; split <;> simp
theorem U0 {w d : Int} {n1 n2 : ByteArray} {cc n x3 : Int} {ps : List Int} (hp : ∀ p ∈ ps, 0 ≤ p ∧ p < w * d) (hpl : ps.length ≤ 3) (hn0 : 1 ≤ n) :
    ∀ (m i k : Nat) (c : List Int) (b : Nat → Int), i + m = ps.length → m + 2 ≤ k → (c.length : Int) = w * d → (∀ q, c.getD q 0 = bl (b q)) → (∀ q, 0 ≤ b q) →
      ∃ c', bM.l0 k c x3 ps (ps.length : Int) i n1 n2 cc 1 w d = some c' ∧ (c'.length : Int) = w * d ∧ ∀ q, c'.getD q 0 = bl (b q + n * hit (ps.drop i) q) := by
  intro m
  induction m with
  | zero =>
    intro i k c b hi hk hc hb hB
    obtain ⟨j, rfl⟩ : ∃ j, k = j + 1 := ⟨k - 1, by omega⟩
    simp only [bM.l0]
    rw [if_neg (by omega)]
    refine ⟨c, rfl, hc, fun q => ?_⟩
    rw [List.drop_eq_nil_of_le (by omega), hb q, hit, Int.mul_zero, Int.add_zero]
  | succ m ih =>
    intro i k c b hi hk hc hb hB
    obtain ⟨j, rfl⟩ : ∃ j, k = j + 1 := ⟨k - 1, by omega⟩
    have hlt : i < ps.length := by omega
    have hr : rd ps i = ps[i] := by simp [rd, List.getD_eq_getElem?_getD, hlt]
    have hbp := hp ps[i] (List.getElem_mem hlt)
    simp only [bM.l0]
    rw [if_pos (by omega), if_pos (by omega), if_pos (by omega), if_pos trivial, hr, if_pos hbp.1, if_pos (by rw [hc]; exact hbp.2), up1 i (by omega)]
    obtain ⟨c', e, h1, h2⟩ := ih (i + 1) j (c.set ps[i].toNat 1) (fun q => if ps[i].toNat = q then b ps[i].toNat + n else b q) (by omega) (by omega) (by rw [List.length_set]; exact hc)
      (fun q => by rw [Nw _ _ _ _ (by omega)]; split
                   · exact (bl_pos (by have := hB ps[i].toNat; omega)).symm
                   · exact hb q)
      (fun q => by
        have := hB q
        have := hB ps[i].toNat
        by_cases h : ps[i].toNat = q
        · simp only [if_pos h]; omega
        · simp only [if_neg h]; omega)
    refine ⟨c', e, h1, fun q => ?_⟩
    rw [h2 q, List.drop_eq_getElem_cons hlt, hit, Int.mul_add]
    by_cases h : ps[i].toNat = q
    · simp only [if_pos h]; rw [← h]; congr 1; omega
    · simp only [if_neg h]; congr 1; omega
theorem IY {P : Nat → List Int} {n1 n2 : ByteArray} {cc w d : Int}
    (hP : ∀ i < 6, (∀ k, 60 ≤ k → bE.f k n1 n2 cc 1 w d (val i).f0 (val i).f1 (val i).f2 = some (P i)) ∧ (P i).length ≤ 3 ∧ ∀ p ∈ P i, 0 ≤ p ∧ p < w * d)
    {i : Nat} (hi : i < 6) {n : Int} (hn0 : 1 ≤ n) {c : List Int} {b : Nat → Int} (hc : (c.length : Int) = w * d) (hb : ∀ q, c.getD q 0 = bl (b q)) (hB : ∀ q, 0 ≤ b q) {k : Nat} (hk : 100 ≤ k) :
    ∃ c', bM.f k n1 n2 cc 1 w d c (val i).f0 (val i).f1 (val i).f2 n = some c' ∧ (c'.length : Int) = w * d ∧ ∀ q, c'.getD q 0 = bl (b q + n * hit (if i = 0 then [] else P i) q) := by
  obtain ⟨j, rfl⟩ : ∃ j, k = j + 1 := ⟨k - 1, by omega⟩
  unfold bM.f
  by_cases h0 : i = 0
  · rw [if_pos ((Uo i hi).2 h0)]
    simp only [bM.j0]
    rw [if_pos trivial]
    refine ⟨c, rfl, hc, fun q => ?_⟩
    rw [if_pos h0, hb q, hit, Int.mul_zero, Int.add_zero]
  · rw [if_neg (fun h => h0 ((Uo i hi).1 h)), show (n == 0) = false from by simp; omega]
    simp only [bM.j0]
    obtain ⟨e, hl, hp⟩ := hP i hi
    rw [if_neg (by simp), if_neg (by decide), e j (by omega)]
    simp only [Option.bind_some]
    obtain ⟨c', e2, h1, h2⟩ := U0 (n1 := n1) (n2 := n2) (cc := cc) (x3 := n) hp hl hn0 (P i).length 0 j c b (by omega) (by omega) hc hb hB
    refine ⟨c', e2, h1, fun q => ?_⟩
    rw [h2 q, if_neg h0]
    rfl
theorem aad : ∃ H : Nat → Int, ∀ i < 6, (∀ k, 40 ≤ k → ∃ h, dA.f k (val i).f0 (val i).f1 (val i).f2 0 = some h ∧ wrap64 (IntKind.u64.wrap (Int.tdiv h 4)) = H i) ∧ 0 ≤ H i ∧ H i < 4611686018427387904 := by
  have h : ∀ i, i < 6 → ∃ z : Int, (∃ h, dA.f 40 (val i).f0 (val i).f1 (val i).f2 0 = some h ∧ wrap64 (IntKind.u64.wrap (Int.tdiv h 4)) = z) ∧ 0 ≤ z ∧ z < 4611686018427387904 := fun i hi => by
    obtain ⟨h, e, h1, h2⟩ := Tj hi (r := 0) (by omega) (k := 40) (by omega)
    refine ⟨h / 4, ⟨h, e, ?_⟩, by omega, by omega⟩
    rw [Int.tdiv_eq_ediv_of_nonneg h1, u64w, Int.emod_eq_of_lt (by omega) (by omega), wrap64_in _ (by omega)]
  refine ⟨fun i => if hi : i < 6 then Classical.choose (h i hi) else 0, fun i hi => ?_⟩
  simp only [dif_pos hi]
  obtain ⟨⟨z, h1, h2⟩, h3⟩ := Classical.choose_spec (h i hi)
  exact ⟨fun k hk => ⟨z, up (f := fun k => dA.f k (val i).f0 (val i).f1 (val i).f2 0) (dA.mono _ _ _ _) h1 hk, h2⟩, h3⟩
def HS (H : Nat → Int) (cc : Int) (ys : List (Nat × Int)) (x : Int) : Prop := 0 < W (fun r => if x ∈ lS (fun i => [H i]) cc r then [0] else []) ys 0
theorem aao {H : Nat → Int} {cc b : Int} {p : Nat × Int} {r : List (Nat × Int)} (hp : 1 ≤ p.2) (hr : Bnd 1 b r) (x : Int) : HS H cc (p :: r) x ↔ x ∈ lS (fun i => [H i]) cc p.1 ∨ HS H cc r x := by
  have := QN (PP := fun r => if x ∈ lS (fun i => [H i]) cc r then [0] else []) r hr 0
  unfold HS
  rw [W]
  by_cases h : x ∈ lS (fun i => [H i]) cc p.1
  · simp only [if_pos h, hit]
    simp
    constructor
    · intro _; exact .inl h
    · intro _; omega
  · simp only [if_neg h, hit]
    simp [h]
theorem UH {w : Int} (hw : 1 ≤ w) (h : Int) : nT w (fun z => z = h) [h] := by
  refine ⟨by simp, by simp, by simpa using hw, ?_⟩
  rintro x rfl hn
  simp at hn
theorem TF {H : Nat → Int} {n1 n2 : ByteArray} {cc w d : Int} (hw : 1 ≤ w) (hw2 : w ≤ 64)
    (hH : ∀ i < 6, (∀ k, 40 ≤ k → ∃ h, dA.f k (val i).f0 (val i).f1 (val i).f2 0 = some h ∧ wrap64 (IntKind.u64.wrap (Int.tdiv h 4)) = H i) ∧ 0 ≤ H i ∧ H i < 4611686018427387904)
    {i : Nat} (hi : i < 6) {n : Int} (hn0 : 1 ≤ n) {c : List Int} {S : Int → Prop} (hc : nT w S c) {k : Nat} (hk : 100 ≤ k) :
    ∃ c', bM.f k n1 n2 cc 2 w d c (val i).f0 (val i).f1 (val i).f2 n = some c' ∧ nT w (fun z => S z ∨ z ∈ (if i = 0 then [] else [H i])) c' := by
  obtain ⟨j, rfl⟩ : ∃ j, k = j + 1 := ⟨k - 1, by omega⟩
  unfold bM.f
  by_cases h0 : i = 0
  · rw [if_pos ((Uo i hi).2 h0)]
    simp only [bM.j0]
    rw [if_pos trivial]
    exact ⟨c, rfl, rX hc (fun z => by simp [h0])⟩
  · rw [if_neg (fun h => h0 ((Uo i hi).1 h)), show (n == 0) = false from by simp; omega]
    simp only [bM.j0]
    obtain ⟨h, e, e2⟩ := (hH i hi).1 j (by omega)
    have hl := hc.2.2.1
    obtain ⟨r, e3, hr⟩ := JB (c := c ++ [H i]) (w := w) (by simp; omega) (by omega) (by omega)
    rw [if_neg (by simp), if_pos trivial, e]
    simp only [Option.bind_some]
    rw [if_pos (by omega), e2, e3]
    refine ⟨r, rfl, rX (Mx hc (UH hw (H i)) hr) (fun z => by simp [h0])⟩
def Spec (P : Nat → List Int) (H : Nat → Int) (cc kd w d : Int) (ys : List (Nat × Int)) (c : List Int) : Prop :=
  (kd = 0 ∧ (c.length : Int) = w * d ∧ ∀ q, c.getD q 0 = W (lS P cc) ys q) ∨ (kd = 1 ∧ (c.length : Int) = w * d ∧ ∀ q, c.getD q 0 = bl (W (lS P cc) ys q)) ∨ (kd = 2 ∧ nT w (HS H cc ys) c)
theorem X5 {P : Nat → List Int} {H : Nat → Int} {cc kd w d : Int} {ys : List (Nat × Int)} {c c' : List Int} (h : Spec P H cc kd w d ys c) (h' : Spec P H cc kd w d ys c') : c = c' := by
  rcases h with ⟨rfl, h1, h2⟩ | ⟨rfl, h1, h2⟩ | ⟨rfl, h1⟩ <;> rcases h' with ⟨h0, h3, h4⟩ | ⟨h0, h3, h4⟩ | ⟨h0, h3⟩ <;> first | (exfalso; omega) | skip
  · exact GN (by omega) (fun q => by rw [h2, h4])
  · exact GN (by omega) (fun q => by rw [h2, h4])
  · exact Vo h1 h3
theorem aal (H : Nat → Int) (P : Nat → List Int) {x : Nat} (hx : x < 36) {cc : Int} (h0 : 0 ≤ cc) (h1 : cc < 2) : ∃ i < 6, aN (row x) cc = val i ∧ lS P cc x = (if i = 0 then [] else P i) ∧ lS (fun i => [H i]) cc x = if i = 0 then [] else [H i] := by
  have : cc = 0 ∨ cc = 1 := by omega
  rcases this with rfl | rfl
  · exact ⟨x / 6, by omega, rfl, rfl, rfl⟩
  · exact ⟨x % 6, by omega, rfl, rfl, rfl⟩
theorem Cv {n1 n2 : ByteArray} {cc kd w d : Int} (hc0 : 0 ≤ cc) (G : List (Nat × Int) → List Int → Prop) {ys : List (Nat × Int)} (hl : ys.length < 100)
    (hadd : ∀ (i : Nat) (hi : i < ys.length) (z : List Int) (k : Nat), 100 ≤ k → G (ys.take i) z → if cc < 2 then ∃ v < 6, aN (row ys[i].1) cc = val v ∧ ∃ c', bM.f k n1 n2 cc kd w d z (val v).f0 (val v).f1 (val v).f2 ys[i].2 = some c' ∧ G (ys.take (i + 1)) c' else G (ys.take (i + 1)) z) :
    ∀ (m i k : Nat) (z : List Int), i + m = ys.length → m + 110 ≤ k → G (ys.take i) z →
      ∃ c', bH.l0 k z (ys.map E) (ys.length : Int) i n1 n2 cc kd w d = some (c', 0) ∧ G ys c' := by
  intro m
  induction m with
  | zero =>
    intro i k z hi hk hz
    obtain ⟨j, rfl⟩ : ∃ j, k = j + 1 := ⟨k - 1, by omega⟩
    simp only [bH.l0]
    rw [if_neg (by omega)]
    rw [List.take_of_length_le (by omega)] at hz
    exact ⟨z, rfl, hz⟩
  | succ m ih =>
    intro i k z hi hk hz
    obtain ⟨j, rfl⟩ : ∃ j, k = j + 1 := ⟨k - 1, by omega⟩
    have hlt : i < ys.length := by omega
    have ha := hadd i hlt z j (by omega) hz
    simp only [bH.l0, lE]
    rw [rdE ys i hlt]
    have hlen : ((E ys[i]).f0.length : Int) = 2 := rfl
    rw [hlen]
    have i1 : (i : Int) < (ys.length : Int) := by omega
    have i0 : (0 : Int) ≤ (i : Int) := by omega
    rw [if_pos i1, if_pos i0, if_pos i1]
    by_cases h : cc < 2
    · rw [if_pos h] at ha
      obtain ⟨v, hv, ev, c', e, h1⟩ := ha
      rw [if_pos h, if_pos hc0, show aN (E ys[i]).f0 cc = val v from ev, show (E ys[i]).f1 = ys[i].2 from rfl, e]
      simp only [Option.bind_some]
      rw [up1 i (by omega)]
      exact ih (i + 1) j c' (by omega) (by omega) h1
    · rw [if_neg h] at ha
      rw [if_neg h, up1 i (by omega)]
      exact ih (i + 1) j z (by omega) (by omega) ha
def HP (P : Nat → List Int) (n1 n2 : ByteArray) (cc kd w d : Int) : Prop := ∀ i < 6, (∀ k, 60 ≤ k → bE.f k n1 n2 cc kd w d (val i).f0 (val i).f1 (val i).f2 = some (P i)) ∧ (P i).length ≤ 3 ∧ ∀ p ∈ P i, 0 ≤ p ∧ p < w * d
def HH (H : Nat → Int) : Prop := ∀ i < 6, (∀ k, 40 ≤ k → ∃ h, dA.f k (val i).f0 (val i).f1 (val i).f2 0 = some h ∧ wrap64 (IntKind.u64.wrap (Int.tdiv h 4)) = H i) ∧ 0 ≤ H i ∧ H i < 4611686018427387904
theorem I5 (PP : Nat → List Int) (q : Nat) (x : Nat × Int) : ∀ (a : List (Nat × Int)), W PP (a ++ [x]) q = W PP a q + x.2 * hit (PP x.1) q
  | [] => by simp [W]
  | y :: r => by
    rw [List.cons_append, W, W, I5 PP q x r]
    omega
theorem NU {a b : Int} {ys : List (Nat × Int)} (h : Bnd a b ys) (i : Nat) : Bnd a b (ys.take i) := fun p hp => h p (List.mem_of_mem_take hp)
theorem W9 {H : Nat → Int} {cc b : Int} {p : Nat × Int} {a : List (Nat × Int)} (hp : 1 ≤ p.2) (ha : Bnd 1 b a) (x : Int) : HS H cc (a ++ [p]) x ↔ HS H cc a x ∨ x ∈ lS (fun i => [H i]) cc p.1 := by
  have := QN (PP := fun r => if x ∈ lS (fun i => [H i]) cc r then [0] else []) a ha 0
  unfold HS
  rw [I5]
  by_cases h : x ∈ lS (fun i => [H i]) cc p.1
  · simp only [if_pos h, hit]
    simp
    constructor
    · intro _; exact .inr h
    · intro _; omega
  · simp only [if_neg h, hit]
    simp [h]
theorem QV (P : Nat → List Int) {cc : Int} (_ : 0 ≤ cc) (h : ¬ cc < 2) (x : Nat) : lS P cc x = [] := by unfold lS; rw [if_neg (by omega), if_neg (by omega)]
theorem GZ {P : Nat → List Int} {H : Nat → Int} {n1 n2 : ByteArray} {cc kd w d : Int} (hkd : kd = 0 ∨ kd = 1 ∨ kd = 2) (hc0 : 0 ≤ cc) (hw : 1 ≤ w) (hw2 : w ≤ 64) (hd : 1 ≤ d) (hd2 : d ≤ 3) (h2 : kd = 2 → d = 1)
    (hP : HP P n1 n2 cc kd w d) (hH : HH H) {ys : List (Nat × Int)} (ha : Asc ys) (hb : Bnd 1 300 ys) (hl : ys.length < 100) {k : Nat} (hk : 400 ≤ k) :
    ∃ c', bH.f k n1 n2 cc kd w d (ys.map E) = some (c', 0) ∧ Spec P H cc kd w d ys c' := by
  by_cases hk0 : kd = 0
  · subst hk0
    obtain ⟨c', e, h1, h3⟩ := NC (n1 := n1) (n2 := n2) hc0 hw hw2 hd hd2 hP ha hb hl hk
    exact ⟨c', e, .inl ⟨rfl, h1, h3⟩⟩
  obtain ⟨j, rfl⟩ : ∃ j, k = j + 1 := ⟨k - 1, by omega⟩
  have m1 : w * d ≤ 64 * 3 := Int.mul_le_mul hw2 hd2 (by omega) (by omega)
  have m0 : 0 ≤ w * d := Int.mul_nonneg (by omega) (by omega)
  have hb' : Bnd 1 262144 ys := fun p hp => ⟨(hb p hp).1, (hb p hp).2.1, by have := (hb p hp).2.2; omega⟩
  have key : ∀ z c', kM.f n1 n2 cc kd w d = some z → bH.l0 j z (ys.map E) (ys.length : Int) 0 n1 n2 cc kd w d = some (c', 0) → bH.f (j + 1) n1 n2 cc kd w d (ys.map E) = some (c', 0) := by
    intro z c' ez e
    unfold bH.f
    rw [uY hkd hw hw2 hd hd2 h2 (by omega)]
    simp only [Option.bind_some]
    rw [if_pos trivial, if_neg (by omega), IC ha hb' (by omega) (by omega)]
    simp only [Option.bind_some, bH.j0, Bool.not_true]
    rw [if_neg (by decide), ez]
    simp only [Option.bind_some, lE]
    exact e
  by_cases hk1 : kd = 1
  · subst hk1
    have hadd : ∀ (i : Nat) (hi : i < ys.length) (z : List Int) (k : Nat), 100 ≤ k → ((z.length : Int) = w * d ∧ ∀ q, z.getD q 0 = bl (W (lS P cc) (ys.take i) q)) → if cc < 2 then ∃ v < 6, aN (row ys[i].1) cc = val v ∧ ∃ c', bM.f k n1 n2 cc 1 w d z (val v).f0 (val v).f1 (val v).f2 ys[i].2 = some c' ∧ ((c'.length : Int) = w * d ∧ ∀ q, c'.getD q 0 = bl (W (lS P cc) (ys.take (i + 1)) q)) else ((z.length : Int) = w * d ∧ ∀ q, z.getD q 0 = bl (W (lS P cc) (ys.take (i + 1)) q)) := by
      intro i hi z k hk hz
      have bb := hb ys[i] (List.getElem_mem hi)
      have ht : ∀ q, W (lS P cc) (ys.take (i + 1)) q = W (lS P cc) (ys.take i) q + ys[i].2 * hit (lS P cc ys[i].1) q := fun q => by rw [List.take_succ_eq_append_getElem hi, I5]
      split
      · rename_i h
        obtain ⟨v, hv, ev, ep⟩ := LQ P bb.1 hc0 h
        obtain ⟨c', e, h1, h3⟩ := IY hP hv (n := ys[i].2) bb.2.1 hz.1 hz.2 (fun q => QN (PP := lS P cc) _ (NU hb i) q) hk
        exact ⟨v, hv, ev, c', e, h1, fun q => by rw [h3 q, ht q, ep]⟩
      · rename_i h
        exact ⟨hz.1, fun q => by rw [hz.2 q, ht q, QV P hc0 h, hit, Int.mul_zero, Int.add_zero]⟩
    obtain ⟨c', e, h1, h3⟩ := Cv (n1 := n1) (n2 := n2) (kd := 1) (w := w) (d := d) hc0 (fun l z => (z.length : Int) = w * d ∧ ∀ q, z.getD q 0 = bl (W (lS P cc) l q)) hl hadd ys.length 0 j (List.replicate (w * d).toNat 0) (by omega) (by omega)
      ⟨by simp; omega, fun q => by rw [List.getD_eq_getElem?_getD, List.getElem?_replicate, List.take_zero, W]; split <;> rfl⟩
    refine ⟨c', key _ c' ?_ e, .inr (.inl ⟨rfl, h1, h3⟩)⟩
    unfold kM.f
    rw [if_neg (by decide), wrap64_in _ (by omega), if_pos m0, if_pos (by omega)]
  · obtain rfl : kd = 2 := by omega
    have hadd : ∀ (i : Nat) (hi : i < ys.length) (z : List Int) (k : Nat), 100 ≤ k → nT w (HS H cc (ys.take i)) z → if cc < 2 then ∃ v < 6, aN (row ys[i].1) cc = val v ∧ ∃ c', bM.f k n1 n2 cc 2 w d z (val v).f0 (val v).f1 (val v).f2 ys[i].2 = some c' ∧ nT w (HS H cc (ys.take (i + 1))) c' else nT w (HS H cc (ys.take (i + 1))) z := by
      intro i hi z k hk hz
      have bb := hb ys[i] (List.getElem_mem hi)
      have ht : ∀ x, HS H cc (ys.take (i + 1)) x ↔ HS H cc (ys.take i) x ∨ x ∈ lS (fun i => [H i]) cc ys[i].1 := fun x => by rw [List.take_succ_eq_append_getElem hi]; exact W9 bb.2.1 (NU hb i) x
      split
      · rename_i h
        obtain ⟨v, hv, ev, _, ep⟩ := aal H P bb.1 hc0 h
        obtain ⟨c', e, h1⟩ := TF (n1 := n1) (n2 := n2) (cc := cc) (d := d) hw hw2 hH hv (n := ys[i].2) bb.2.1 hz hk
        exact ⟨v, hv, ev, c', e, rX h1 (fun x => by rw [ht x, ep])⟩
      · rename_i h
        exact rX hz (fun x => by rw [ht x, QV _ hc0 h]; simp)
    obtain ⟨c', e, h1⟩ := Cv (n1 := n1) (n2 := n2) (kd := 2) (w := w) (d := d) hc0 (fun l z => nT w (HS H cc l) z) hl hadd ys.length 0 j [] (by omega) (by omega)
      ⟨List.Pairwise.nil, by simp, by simp; omega, fun x hx => by simp [HS, W] at hx⟩
    refine ⟨c', key _ c' ?_ e, .inr (.inr ⟨rfl, h1⟩)⟩
    unfold kM.f
    rw [if_pos rfl]
theorem WV {H : Nat → Int} {cc : Int} {r : Nat} (hr : r < 36) {x : Int} (h : x ∈ lS (fun i => [H i]) cc r) : ∃ i < 6, x = H i := by
  unfold lS at h
  split at h
  · split at h
    · simp at h
    · exact ⟨r / 6, by omega, by simpa using h⟩
  · split at h
    · split at h
      · simp at h
      · exact ⟨r % 6, by omega, by simpa using h⟩
    · simp at h
theorem Od {H : Nat → Int} (hH : HH H) {cc b : Int} : ∀ {ys : List (Nat × Int)}, Bnd 1 b ys → ∀ {x : Int}, HS H cc ys x → 0 ≤ x ∧ x < 4611686018427387904
  | [], _, x, h => by simp [HS, W] at h
  | p :: r, hb, x, h => by
    have hp := hb p (by simp)
    have hr : Bnd 1 b r := fun q hq => hb q (by simp [hq])
    rcases (aao hp.2.1 hr x).1 h with h | h
    · obtain ⟨i, hi, rfl⟩ := WV hp.1 h
      exact (hH i hi).2
    · exact Od hH hr h
theorem Ob {P : Nat → List Int} {n1 n2 : ByteArray} {cc kd w d : Int} (hP : HP P n1 n2 cc kd w d) : ∀ x < 36, (lS P cc x).length ≤ 3 := by
  intro x hx
  unfold lS
  split
  · split
    · simp
    · exact (hP (x / 6) (by omega)).2.1
  · split
    · split
      · simp
      · exact (hP (x % 6) (by omega)).2.1
    · simp
theorem zQ {P : Nat → List Int} {H : Nat → Int} {n1 n2 : ByteArray} {cc kd w d : Int} (hw : 1 ≤ w) (hw2 : w ≤ 64) (hd : 1 ≤ d) (hd2 : d ≤ 3) (h2 : kd = 2 → d = 1)
    (hP : HP P n1 n2 cc kd w d) (hH : HH H) {ys : List (Nat × Int)} (hb : Bnd 1 300 ys) (hl : ys.length < 100) {c : List Int} (hc : Spec P H cc kd w d ys c) {k : Nat} (hk : 3 ≤ k) : bC.f k n1 n2 cc kd w d c = some true ∧ c.length < 300 := by
  have m1 : w * d ≤ 64 * 3 := Int.mul_le_mul hw2 hd2 (by omega) (by omega)
  rcases hc with ⟨rfl, h3, h4⟩ | ⟨rfl, h3, h4⟩ | ⟨rfl, h3⟩
  · refine ⟨UW hw hw2 hd hd2 h3 (fun q => ?_) hk, by omega⟩
    rw [h4 q]
    have := QN (PP := lS P cc) ys hb q
    have := W_le (Ob hP) ys hb q
    omega
  · refine ⟨DF hw hw2 hd hd2 h2 (.inl ⟨rfl, h3, fun x hx => ?_⟩) hk, by omega⟩
    obtain ⟨q, hq, rfl⟩ := List.getElem_of_mem hx
    have := h4 q
    rw [List.getD_eq_getElem?_getD, List.getElem?_eq_getElem hq, Option.getD_some] at this
    rw [this]
    exact bl_01 _
  · have := h3.2.2.1
    exact ⟨DF hw hw2 hd hd2 h2 (.inr ⟨rfl, h3.1, fun x hx => Od hH hb (h3.2.1 x hx), h3.2.2.1⟩) hk, by omega⟩
theorem X7 (c : List Int) (hl : c.length < 1000) {k : Nat} (hk : c.length + 2 ≤ k) : eU.f k c c = some true := by
  unfold eU.f
  rw [if_pos rfl]
  have : ∀ (m i k : Nat), i + m = c.length → m + 2 ≤ k → eU.l0 k c c i = some true := by
    intro m
    induction m with
    | zero =>
      intro i k hi hk
      obtain ⟨j, rfl⟩ : ∃ j, k = j + 1 := ⟨k - 1, by omega⟩
      simp only [eU.l0]
      rw [if_neg (by omega)]
    | succ m ih =>
      intro i k hi hk
      obtain ⟨j, rfl⟩ : ∃ j, k = j + 1 := ⟨k - 1, by omega⟩
      simp only [eU.l0]
      rw [if_pos (by omega), if_pos (by omega), if_pos (by omega), if_pos trivial, up1 i (by omega)]
      exact ih (i + 1) j (by omega) (by omega)
  exact this c.length 0 k (by omega) hk
theorem U8 {P : Nat → List Int} {H : Nat → Int} {cc kd w d : Int} {a b : List (Nat × Int)} (e : ∀ PP q, W PP a q = W PP b q) {c : List Int} (h : Spec P H cc kd w d a c) : Spec P H cc kd w d b c := by
  rcases h with ⟨rfl, h3, h4⟩ | ⟨rfl, h3, h4⟩ | ⟨rfl, h3⟩
  · exact .inl ⟨rfl, h3, fun q => by rw [h4 q, e]⟩
  · exact .inr (.inl ⟨rfl, h3, fun q => by rw [h4 q, e]⟩)
  · exact .inr (.inr ⟨rfl, rX h3 (fun z => by unfold HS; rw [e])⟩)
theorem WI {P : Nat → List Int} {H : Nat → Int} {n1 n2 : ByteArray} {cc kd w d : Int} (hw : 1 ≤ w) (hw2 : w ≤ 64)
    (hP : HP P n1 n2 cc kd w d) (hH : HH H) {g : List (Nat × Int)} (hb : Bnd 1 60 g) (hl : g.length < 20) {p : Nat × Int} (hp : 1 ≤ p.2 ∧ p.2 ≤ 60) {v : Nat} (hv : v < 6) (hPv : ∀ P : Nat → List Int, lS P cc p.1 = if v = 0 then [] else P v)
    {c : List Int} (hc : Spec P H cc kd w d g c) {k : Nat} (hk : 100 ≤ k) : ∃ c', bM.f k n1 n2 cc kd w d c (val v).f0 (val v).f1 (val v).f2 p.2 = some c' ∧ Spec P H cc kd w d (g ++ [p]) c' := by
  have hb3 : Bnd 1 300 g := fun p hp => ⟨(hb p hp).1, (hb p hp).2.1, by have := (hb p hp).2.2; omega⟩
  rcases hc with ⟨rfl, h3, h4⟩ | ⟨rfl, h3, h4⟩ | ⟨rfl, h3⟩
  · obtain ⟨c', e, h5, h6⟩ := IK hP hv (n := p.2) hp.1 (by omega) h3 h4 (fun q => ⟨QN (PP := lS P cc) g hb q, by have := W_le (Ob hP) g hb3 q; omega⟩) hk
    exact ⟨c', e, .inl ⟨rfl, h5, fun q => by rw [h6 q, I5, hPv]⟩⟩
  · obtain ⟨c', e, h5, h6⟩ := IY hP hv (n := p.2) hp.1 h3 h4 (fun q => QN (PP := lS P cc) g hb q) hk
    exact ⟨c', e, .inr (.inl ⟨rfl, h5, fun q => by rw [h6 q, I5, hPv]⟩)⟩
  · obtain ⟨c', e, h5⟩ := TF (n1 := n1) (n2 := n2) (cc := cc) (d := d) hw hw2 hH hv (n := p.2) hp.1 h3 hk
    exact ⟨c', e, .inr (.inr ⟨rfl, rX h5 (fun x => by rw [W9 hp.1 hb x, hPv])⟩)⟩
theorem Og {P : Nat → List Int} {H : Nat → Int} {n1 n2 : ByteArray} {cc kd w d : Int} (hw : 1 ≤ w) (hw2 : w ≤ 64) (hd : 1 ≤ d) (hd2 : d ≤ 3) (h2 : kd = 2 → d = 1)
    (hP : HP P n1 n2 cc kd w d) (hH : HH H) {g : List (Nat × Int)} (hb : Bnd 1 60 g) (hl : g.length < 20) {p : Nat × Int} (hp : p.1 < 36 ∧ 1 ≤ p.2 ∧ p.2 ≤ 60) {v : Nat} (hv : v < 6) (hPv : ∀ P : Nat → List Int, lS P cc p.1 = if v = 0 then [] else P v)
    {c : List Int} (hc : Spec P H cc kd w d g c) {k : Nat} (hk : 100 ≤ k) : ∃ c', lK.f k n1 n2 cc kd w d c (val v).f0 (val v).f1 (val v).f2 p.2 = some (c', 0) ∧ Spec P H cc kd w d (g ++ [p]) c' := by
  have wid : ∀ {zs : List (Nat × Int)}, Bnd 1 60 zs → Bnd 1 300 zs := fun h p hp => ⟨(h p hp).1, (h p hp).2.1, by have := (h p hp).2.2; omega⟩
  have hb2 : Bnd 1 60 (g ++ [p]) := fun q hq => by
    rcases List.mem_append.1 hq with hq | hq
    · exact hb q hq
    · rw [List.mem_singleton] at hq; subst hq; exact hp
  obtain ⟨c', e, hs⟩ := WI hw hw2 hP hH hb hl hp.2 hv hPv hc hk
  obtain ⟨hv1, hl1⟩ := zQ hw hw2 hd hd2 h2 hP hH (wid hb) (by omega) hc (k := k) (by omega)
  obtain ⟨hv2, _⟩ := zQ hw hw2 hd hd2 h2 hP hH (wid hb2) (by simp; omega) hs (k := k) (by omega)
  refine ⟨c', ?_, hs⟩
  unfold lK.f gI.f
  rw [hv1]
  simp only [Option.bind_some]
  rw [if_pos trivial, valV v hv]
  simp only [Option.bind_some]
  rw [if_pos trivial, if_pos (by omega), decide_eq_true (by omega)]
  simp only [Option.bind_some]
  rw [if_pos trivial]
  unfold fT.f
  rw [if_pos (by omega)]
  simp only [Option.bind_some]
  rw [e]
  simp only [Option.bind_some]
  rw [hv2]
  rfl
theorem TJ (PP : Nat → List Int) (q : Nat) : ∀ (l : List (Nat × Int)) (i : Nat) (h : i < l.length), W PP (l.eraseIdx i) q + l[i].2 * hit (PP l[i].1) q = W PP l q
  | x :: r, 0, _ => by simp only [List.eraseIdx_cons_zero, List.getElem_cons_zero, W]; omega
  | x :: r, i + 1, h => by
    have := TJ PP q r i (by simpa using h)
    simp only [List.eraseIdx_cons_succ, List.getElem_cons_succ, W]
    omega
theorem IG (f : Nat × Int → S51) : ∀ (l : List (Nat × Int)) (i : Nat), (l.map f).eraseIdx i = (l.eraseIdx i).map f
  | [], _ => by simp
  | x :: r, 0 => by simp
  | x :: r, i + 1 => by simp [IG f r i]
theorem ord_l0 {P : Nat → List Int} {H : Nat → Int} {n1 n2 : ByteArray} {cc kd w d : Int} (hw : 1 ≤ w) (hw2 : w ≤ 64) (hd : 1 ≤ d) (hd2 : d ≤ 3) (h2 : kd = 2 → d = 1)
    (hP : HP P n1 n2 cc kd w d) (hH : HH H) (h0 : 0 ≤ cc) {b : List (Nat × Int)} {want : List Int} (hwant : Spec P H cc kd w d b want) (hwl : want.length < 300) {t : List Int} (ht : t.length < 17592186044416) :
    ∀ (m k : Nat) (g l : List (Nat × Int)) (c : List Int) (s : Int), l.length = m → 200 * m + 700 ≤ k → Bnd 1 60 g → Bnd 1 60 l → g.length + l.length ≤ 10 → (∀ PP q, W PP g q + W PP l q = W PP b q) → Spec P H cc kd w d g c → St t s →
      aD.l0 k want 0 c (l.map E) t s n1 n2 cc kd w d = some true := by
  intro m
  induction m with
  | zero =>
    intro k g l c s hm hk hg hl hgl hW hc hs
    obtain ⟨j, rfl⟩ : ∃ j, k = j + 2 := ⟨k - 2, by omega⟩
    obtain rfl := List.eq_nil_of_length_eq_zero hm
    have e : c = want := X5 (U8 (fun PP q => by have := hW PP q; rw [W] at this; omega) hc) hwant
    subst e
    simp only [aD.l0, aD.j1, lE]
    rw [if_neg (by simp), if_neg (by decide), if_pos trivial, X7 c (by omega) (by omega)]
    simp only [Option.bind_some]
    rw [if_pos trivial, WE (by omega)]
    rfl
  | succ m ih =>
    intro k g l c s hm hk hg hl hgl hW hc hs
    obtain ⟨j, rfl⟩ : ∃ j, k = j + 3 := ⟨k - 3, by omega⟩
    obtain ⟨x, s1, e1, a1, b1, hs1⟩ := tO j ht hs (n := (l.length : Int)) (by omega) (by omega)
    obtain ⟨i, rfl⟩ : ∃ i : Nat, x = i := ⟨x.toNat, by omega⟩
    have hlt : i < l.length := by omega
    have hp := hl l[i] (List.getElem_mem hlt)
    have hlen : ((E l[i]).f0.length : Int) = 2 := rfl
    have next : ∀ (c' : List Int), Spec P H cc kd w d (g ++ [l[i]]) c' → aD.l0 (j + 1) want 0 c' ((l.map E).eraseIdx i) t s1 n1 n2 cc kd w d = some true := by
      intro c' hs'
      rw [IG]
      refine ih (j + 1) (g ++ [l[i]]) (l.eraseIdx i) c' s1 ?_ (by omega) ?_ ?_ ?_ ?_ hs' hs1
      · rw [List.length_eraseIdx, if_pos hlt]; omega
      · intro q hq
        rcases List.mem_append.1 hq with hq | hq
        · exact hg q hq
        · rw [List.mem_singleton] at hq; subst hq; exact hp
      · exact fun q hq => hl q (List.mem_of_mem_eraseIdx hq)
      · rw [List.length_eraseIdx, if_pos hlt]; simp; omega
      · intro PP q
        have := TJ PP q l i hlt
        have := hW PP q
        rw [I5]
        omega
    simp only [aD.l0, aD.j1, lE]
    rw [if_pos (by omega), if_pos (by decide), e1]
    simp only [Option.bind_some]
    rw [if_pos a1, if_pos b1, rdE l i hlt, hlen]
    by_cases h : cc < 2
    · obtain ⟨v, hv, ev, _⟩ := LQ P hp.1 h0 h
      have ev2 : ∀ P : Nat → List Int, lS P cc l[i].1 = if v = 0 then [] else P v := by
        intro P'
        obtain ⟨v', hv', ev', ep'⟩ := LQ P' hp.1 h0 h
        have : v' = v := by
          have := eqv _ hv' _ hv
          rw [← ev', ev] at this
          simpa using this
        rw [ep', this]
      obtain ⟨c', ec, hs'⟩ := Og hw hw2 hd hd2 h2 hP hH hg (by omega) hp hv ev2 hc (k := j + 1) (by omega)
      rw [if_pos h, if_pos h0, show aN (E l[i]).f0 cc = val v from ev, show (E l[i]).f1 = l[i].2 from rfl, ec]
      simp only [Option.bind_some]
      rw [if_pos (by omega), up1 i (by omega), if_pos (by omega), if_pos (by omega)]
      exact next c' hs'
    · obtain ⟨c', ec, hs'⟩ := Og hw hw2 hd hd2 h2 hP hH hg (by omega) hp (v := 0) (by omega) (fun P => by rw [QV P h0 h, if_pos rfl]) hc (k := j + 1) (by omega)
      rw [if_neg h, show (E l[i]).f1 = l[i].2 from rfl, show lK.f (j + 1) n1 n2 cc kd w d c 0 0 ⟨#[]⟩ l[i].2 = some (c', 0) from ec]
      simp only [Option.bind_some]
      rw [if_pos (by omega), up1 i (by omega), if_pos (by omega), if_pos (by omega)]
      exact next c' hs'
theorem SketchOrder : aD.Pure := by
  intro l0 _ hsz _
  obtain ⟨K, hK⟩ : ∃ K : Nat, 4000 ≤ K := ⟨4000, Nat.le_refl _⟩
  refine ⟨K + 1, ?_⟩
  have hl : l0.length < 17592186044416 := by omega
  have hs : St l0 0 := ⟨by omega, by omega⟩
  obtain ⟨c, kd, w, d, s1, e1, c0, _, hkd, hw, hw2, hd, hd2, h2, hs⟩ := Uv K hl hs
  obtain ⟨b, s2, e2, ab, bb, nb, hs⟩ := bag_ok hl (n := 8) (by omega) hs (k := K + 1) (by omega)
  obtain ⟨P, hP⟩ := Uz (n1 := ⟨#[115]⟩) (n2 := ⟨#[116, 48]⟩) (c := c) (kd := kd) hw hw2 hd hd2
  obtain ⟨H, hH⟩ := aad
  have wid : ∀ {zs : List (Nat × Int)}, Bnd 1 60 zs → Bnd 1 300 zs := fun h p hp => ⟨(h p hp).1, (h p hp).2.1, by have := (h p hp).2.2; omega⟩
  have bn : ∀ z, Bnd 1 z [] := fun _ _ h => absurd h (by simp)
  obtain ⟨x, ex, sx⟩ := GZ (n1 := ⟨#[115]⟩) (n2 := ⟨#[116, 48]⟩) hkd c0 hw hw2 hd hd2 h2 hP hH ab (wid bb) (by omega) (k := K + 1) (by omega)
  obtain ⟨y, ey, sy⟩ := GZ (n1 := ⟨#[115]⟩) (n2 := ⟨#[116, 48]⟩) hkd c0 hw hw2 hd hd2 h2 hP hH (ys := []) trivial (bn _) (by simp) (k := K + 1) (by omega)
  obtain ⟨_, lx⟩ := zQ hw hw2 hd hd2 h2 hP hH (wid bb) (by omega) sx (k := K) (by omega)
  rw [List.map_nil] at ey
  unfold aD.f kg.f
  rw [if_pos hl]
  simp only [Option.bind_some]
  rw [e1]
  simp only [Option.bind_some]
  rw [show ((8 : Nat) : Int) = 8 from rfl] at e2
  rw [e2]
  simp only [Option.bind_some]
  rw [ex]
  simp only [Option.bind_some]
  rw [if_pos trivial, ey]
  simp only [Option.bind_some]
  rw [if_pos (by simp; omega), List.nil_append]
  exact ord_l0 hw hw2 hd hd2 h2 hP hH c0 sx lx hl b.length (K + 1) [] b y s2 rfl (by omega) (bn _) bb (by simp; omega) (fun PP q => by rw [W, Int.zero_add]) sy hs
end Go.Proofs.Ythicocmnefaioaa.Pure

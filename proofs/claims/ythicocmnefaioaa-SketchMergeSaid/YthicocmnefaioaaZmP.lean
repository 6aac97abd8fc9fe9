import Derived.Test.YthicocmnefaioaaZm8
namespace Go.Proofs.Ythicocmnefaioaa.Pure
open Go.RowKit Go.Proofs.Ythicocmnefaioaa.QS Go.Proofs.YthicocmnefaioaaW.dx Go.Proofs.YthicocmnefaioaaW.jF Go.Proofs.YthicocmnefaioaaW.lI
open Go.IntWalk (wrap64_in)
def val (i : Nat) : S23 := ([⟨0, 0, ⟨#[]⟩⟩, ⟨1, 1, ⟨#[]⟩⟩, ⟨1, 2, ⟨#[]⟩⟩, ⟨1, 3, ⟨#[]⟩⟩, ⟨2, 0, ⟨#[97]⟩⟩, ⟨2, 0, ⟨#[98]⟩⟩] : List S23).getD i z23
def sgn (a b : Nat) : Int := if a < b then -1 else if a = b then 0 else 1
def row (i : Nat) : List S23 := [val (i / 6), val (i % 6)]
theorem up {α : Type} {f : Nat → Option α} (h : ∀ k, LeO (f k) (f (k + 1))) {a : Nat} {r : α} (h0 : f a = some r) : ∀ {k}, a ≤ k → f k = some r := by
  intro k hk
  obtain ⟨d, rfl⟩ := Nat.le.dest hk
  clear hk
  induction d with
  | zero => exact h0
  | succ n ih => exact h _ r ih
theorem WW {k : Nat} (hk : 200 ≤ k) : bN.f k = some true := up (f := fun k => bN.f k) bN.mono (by kernel_rfl) hk
theorem cmpP {k : Nat} (hk : 12 ≤ k) : ∀ i < 36, ∀ j < 36, eG.f k (row i) (row j) = some (sgn i j) := fun i hi j hj =>
  up (f := fun k => eG.f k (row i) (row j)) (eG.mono _ _) ((by decide +kernel : ∀ i < 36, ∀ j < 36, eG.f 12 (row i) (row j) = some (sgn i j)) i hi j hj) hk
theorem cmpR {k : Nat} (hk : 12 ≤ k) : ∀ i < 36, ∀ j < 36, aK.f k (row i) (row j) = some (sgn i j) := fun i hi j hj =>
  up (f := fun k => aK.f k (row i) (row j)) (aK.mono _ _) ((by decide +kernel : ∀ i < 36, ∀ j < 36, aK.f 12 (row i) (row j) = some (sgn i j)) i hi j hj) hk
theorem vrP {k : Nat} (hk : 5 ≤ k) : ∀ i < 36, dO.f k (row i) = some true := fun i hi =>
  up (f := fun k => dO.f k (row i)) (dO.mono _) ((by decide +kernel : ∀ i < 36, dO.f 5 (row i) = some true) i hi) hk
theorem vrR {k : Nat} (hk : 5 ≤ k) : ∀ i < 36, bD.f k (row i) = some true := fun i hi =>
  up (f := fun k => bD.f k (row i)) (bD.mono _) ((by decide +kernel : ∀ i < 36, bD.f 5 (row i) = some true) i hi) hk
theorem u64w (z : Int) : IntKind.u64.wrap z = z % 18446744073709551616 := by
  simp [IntKind.wrap, IntKind.bits, IntKind.signed]
def St (l : List Int) (s : Int) : Prop := 0 ≤ s ∧ s ≤ 4 * (l.length : Int)
theorem wM {l : List Int} {s n : Int} (k : Nat) (hl : l.length < 17592186044416) (hs : St l s) (hn : 1 ≤ n) (hn2 : n ≤ 100000) :
    ∃ x s', bq.f (k + 1) l s n = some (x, s') ∧ 0 ≤ x ∧ x < n ∧ St l s' := by
  obtain ⟨hs0, hs1⟩ := hs
  unfold bq.f
  have h4 : wrap64 (4 * (l.length : Int)) = 4 * (l.length : Int) := wrap64_in _ (by omega)
  by_cases h1 : n < 2
  · rw [if_pos h1]
    exact ⟨0, s, by simp [bq.j0], by omega, by omega, hs0, hs1⟩
  rw [if_neg h1]
  by_cases h2 : (l.length : Int) = 0
  · rw [if_pos h2]
    exact ⟨0, s, by simp [bq.j0], by omega, by omega, hs0, hs1⟩
  rw [if_neg h2, h4]
  by_cases h3 : s ≥ 4 * (l.length : Int)
  · rw [decide_eq_true h3]
    exact ⟨0, s, by simp [bq.j0], by omega, by omega, hs0, hs1⟩
  rw [decide_eq_false h3]
  have hLpos : (0 : Int) < l.length := by omega
  have m0 : 0 ≤ Int.tmod s l.length := Int.tmod_nonneg _ hs0
  have m1 : Int.tmod s l.length < l.length := Int.tmod_lt_of_pos _ hLpos
  have hw : wrap64 (s + 1) = s + 1 := wrap64_in _ (by omega)
  have fin : ∀ y : Int, 0 ≤ Int.tmod (wrap64 ((Int.tmod y n) + n)) n ∧ Int.tmod (wrap64 ((Int.tmod y n) + n)) n < n := by
    intro y
    have a1 : Int.tmod y n < n := Int.tmod_lt_of_pos _ (by omega)
    have a2 : -n < Int.tmod y n := by
      have := Int.tmod_lt_of_pos (-y) (show 0 < n by omega)
      rw [Int.neg_tmod] at this
      omega
    rw [wrap64_in _ (by omega)]
    exact ⟨Int.tmod_nonneg _ (by omega), Int.tmod_lt_of_pos _ (by omega)⟩
  simp only [bq.j0]
  rw [if_neg (by simp), if_neg h2, if_pos m0, if_pos m1, hw]
  have hn0 : ¬ n = 0 := by omega
  have hu : ∀ z : Int, 0 ≤ IntKind.u64.wrap z := by
    intro z
    rw [u64w]
    omega
  split
  · rw [if_pos (hu _)]
    exact ⟨_, _, rfl, (fin _).1, (fin _).2, by omega, by omega⟩
  · exact ⟨_, _, rfl, (fin _).1, (fin _).2, by omega, by omega⟩
theorem UQ {l : List Int} {s : Int} (k : Nat) (hl : l.length < 17592186044416) (hs : St l s) :
    ∃ c kd w d s', dJ.f (k + 1) l s = some (⟨#[115]⟩, ⟨#[116, 48]⟩, c, kd, w, d, s') ∧ 0 ≤ c ∧ c ≤ 2 ∧ (kd = 0 ∨ kd = 1 ∨ kd = 2) ∧ 1 ≤ w ∧ w ≤ 64 ∧ 1 ≤ d ∧ d ≤ 3 ∧ (kd = 2 → d = 1) ∧ St l s' := by
  obtain ⟨x1, s1, e1, a1, b1, hs⟩ := wM k hl hs (n := 9) (by omega) (by omega)
  obtain ⟨x2, s2, e2, a2, b2, hs⟩ := wM k hl hs (n := 3) (by omega) (by omega)
  obtain ⟨x3, s3, e3, a3, b3, hs⟩ := wM k hl hs (n := 7) (by omega) (by omega)
  obtain ⟨x4, s4, e4, a4, b4, hs⟩ := wM k hl hs (n := 3) (by omega) (by omega)
  have hc : wrap64 (Int.tdiv x1 4) = x1 / 4 := by rw [Int.tdiv_eq_ediv_of_nonneg a1, wrap64_in _ (by omega)]
  have hd : wrap64 (1 + x4) = 1 + x4 := wrap64_in _ (by omega)
  have hw : 1 ≤ rd ([1, 2, 3, 5, 8, 16, 64] : List Int) x3 ∧ rd ([1, 2, 3, 5, 8, 16, 64] : List Int) x3 ≤ 64 := by
    have : x3 = 0 ∨ x3 = 1 ∨ x3 = 2 ∨ x3 = 3 ∨ x3 = 4 ∨ x3 = 5 ∨ x3 = 6 := by omega
    rcases this with rfl | rfl | rfl | rfl | rfl | rfl | rfl <;> decide
  unfold dJ.f
  simp only [e1, e2, e3, e4, Option.bind_some]
  rw [if_pos a3, if_pos (by simpa using b3)]
  by_cases h2 : x2 = 2
  · rw [if_pos h2]
    exact ⟨_, _, _, _, _, rfl, by rw [hc]; omega, by rw [hc]; omega, by omega, hw.1, hw.2, by omega, by omega, fun _ => rfl, hs⟩
  · rw [if_neg h2]
    exact ⟨_, _, _, _, _, rfl, by rw [hc]; omega, by rw [hc]; omega, by omega, hw.1, hw.2, by rw [hd]; omega, by rw [hd]; omega, fun h => absurd h h2, hs⟩
theorem int1 : iw.f 1 = some (1, 1, ⟨#[]⟩) := by kernel_rfl
theorem int2 : iw.f 2 = some (1, 2, ⟨#[]⟩) := by kernel_rfl
theorem int3 : iw.f 3 = some (1, 3, ⟨#[]⟩) := by kernel_rfl
theorem txa : iB.f ⟨#[97]⟩ = some (2, 0, ⟨#[97]⟩) := by kernel_rfl
theorem txb : iB.f ⟨#[98]⟩ = some (2, 0, ⟨#[98]⟩) := by kernel_rfl
theorem Ml {l : List Int} {s : Int} (k : Nat) (hl : l.length < 17592186044416) (hs : St l s) :
    ∃ i s', iP.f (k + 1) l s = some ((val i).f0, (val i).f1, (val i).f2, s') ∧ i < 6 ∧ St l s' := by
  obtain ⟨x, s1, e1, a1, b1, hs⟩ := wM k hl hs (n := 6) (by omega) (by omega)
  unfold iP.f
  simp only [int1, int2, int3, txa, txb, e1, Option.bind_some]
  rw [if_pos a1, if_pos (by simpa using b1)]
  exact ⟨x.toNat, s1, rfl, by omega, hs⟩
def E (p : Nat × Int) : S51 := ⟨row p.1, p.2⟩
theorem rdE (xs : List (Nat × Int)) (i : Nat) (h : i < xs.length) : aD (xs.map E) (i : Int) = E xs[i] := by
  simp [aD, List.getD_eq_getElem?_getD, h]
theorem row_ij {i j : Nat} (h : j < 6) : row (6 * i + j) = [val i, val j] := by
  unfold row
  rw [show (6 * i + j) / 6 = i by omega, show (6 * i + j) % 6 = j by omega]
def Raw (p : Nat × Int) : Prop := p.1 < 36 ∧ -2 ≤ p.2 ∧ p.2 ≤ 3
theorem Wt {l : List Int} (hl : l.length < 17592186044416) : ∀ (m : Nat) (acc : List (Nat × Int)) (s : Int) (k : Nat), 4 * m + 5 ≤ k → acc.length + m < 1000 → St l s → (∀ p ∈ acc, Raw p) →
    ∃ (out : List (Nat × Int)) (s' : Int), bM.l0 k 2 (acc.map E) m l s = some (out.map E, s') ∧ out.length = acc.length + m ∧ (∀ p ∈ out, Raw p) ∧ St l s'
  | 0, acc, s, k, hk, hm, hs, ha => by
    obtain ⟨j, rfl⟩ : ∃ j, k = j + 1 := ⟨k - 1, by omega⟩
    refine ⟨acc, s, ?_, rfl, ha, hs⟩
    simp only [bM.l0]
    rw [if_neg (by simp)]
  | m + 1, acc, s, k, hk, hm, hs, ha => by
    obtain ⟨j, rfl⟩ : ∃ j, k = j + 4 := ⟨k - 4, by omega⟩
    obtain ⟨i1, s1, e1, a1, hs⟩ := Ml (j + 1) hl hs
    obtain ⟨i2, s2, e2, a2, hs⟩ := Ml j hl hs
    obtain ⟨j, rfl⟩ : ∃ j', j = j' + 1 := ⟨j - 1, by omega⟩
    obtain ⟨x, s3, e3, a3, b3, hs⟩ := wM j hl hs (n := 8) (by omega) (by omega)
    have hc : -2 ≤ rd ([1, 1, 1, 2, (-1), 3, (-2), 0] : List Int) x ∧ rd ([1, 1, 1, 2, (-1), 3, (-2), 0] : List Int) x ≤ 3 := by
      have : x = 0 ∨ x = 1 ∨ x = 2 ∨ x = 3 ∨ x = 4 ∨ x = 5 ∨ x = 6 ∨ x = 7 := by omega
      rcases this with rfl | rfl | rfl | rfl | rfl | rfl | rfl | rfl <;> decide
    obtain ⟨out, s', e4, h1, h2, h3⟩ := Wt hl m (acc ++ [(6 * i1 + i2, rd ([1, 1, 1, 2, (-1), 3, (-2), 0] : List Int) x)]) s3 (j + 1) (by omega) (by simp; omega) hs
      (by intro p hp; rcases List.mem_append.1 hp with hp | hp
          · exact ha p hp
          · rw [List.mem_singleton] at hp; subst hp; exact ⟨by show 6 * i1 + i2 < 36; omega, hc⟩)
    refine ⟨out, s', ?_, by rw [h1]; simp; omega, h2, h3⟩
    simp only [bM.l0]
    rw [if_pos (by omega)]
    simp only [bM.l1, e1, e2, e3, Option.bind_some]
    rw [if_pos (by omega), if_pos (by simp), if_pos (by decide +kernel), if_pos (by simp), if_neg (by decide +kernel), if_pos a3, if_pos (by simpa using b3), if_pos (by simp; omega)]
    rw [show wrap64 (((m + 1 : Nat) : Int) - 1) = (m : Int) by rw [wrap64_in _ (by omega)]; omega]
    rw [List.map_append] at e4
    simp only [List.map_cons, List.map_nil, E, row_ij a2] at e4
    exact e4
theorem Qv {l : List Int} (hl : l.length < 17592186044416) {s : Int} {n : Nat} {k : Nat} (hn : n ≤ 100) (hk : 4 * n + 6 ≤ k) (hs : St l s) :
    ∃ (out : List (Nat × Int)) (s' : Int), bM.f k l s 2 n = some (out.map E, s') ∧ out.length ≤ n ∧ (∀ p ∈ out, Raw p) ∧ St l s' := by
  obtain ⟨j, rfl⟩ : ∃ j, k = j + 1 := ⟨k - 1, by omega⟩
  obtain ⟨x, s1, e1, a1, b1, hs⟩ := wM j hl hs (n := (n : Int) + 1) (by omega) (by omega)
  obtain ⟨out, s', e2, h1, h2, h3⟩ := Wt hl x.toNat [] s1 (j + 1) (by omega) (by simp; omega) hs (by simp)
  refine ⟨out, s', ?_, by simp at h1; omega, h2, h3⟩
  unfold bM.f
  rw [wrap64_in _ (by omega), e1]
  simp only [Option.bind_some]
  rw [show (x.toNat : Int) = x by omega] at e2
  exact e2
def jG : List (Nat × Int) → List (Nat × Int) → List (Nat × Int)
  | [], ys => ys
  | x :: xs, [] => x :: xs
  | x :: xs, y :: ys => if x.1 < y.1 then x :: jG xs (y :: ys) else if x.1 = y.1 then (if x.2 + y.2 = 0 then jG xs ys else (x.1, x.2 + y.2) :: jG xs ys) else y :: jG (x :: xs) ys
  termination_by xs ys => xs.length + ys.length
def Asc : List (Nat × Int) → Prop
  | [] => True
  | x :: xs => (∀ y ∈ xs, x.1 < y.1) ∧ Asc xs
def Bnd (a b : Int) (xs : List (Nat × Int)) : Prop := ∀ p ∈ xs, p.1 < 36 ∧ a ≤ p.2 ∧ p.2 ≤ b
theorem Gz : ∀ (xs ys : List (Nat × Int)) {p : Nat × Int}, p ∈ jG xs ys → (∃ q ∈ xs, q.1 = p.1) ∨ ∃ q ∈ ys, q.1 = p.1 := by
  intro xs ys
  induction xs, ys using jG.induct with
  | case1 ys => intro p hp; rw [jG] at hp; exact .inr ⟨p, hp, rfl⟩
  | case2 x xs => intro p hp; rw [jG] at hp; exact .inl ⟨p, hp, rfl⟩
  | case3 x xs y ys h ih =>
    intro p hp
    rw [jG, if_pos h] at hp
    rcases List.mem_cons.1 hp with rfl | hp
    · exact .inl ⟨p, by simp, rfl⟩
    · rcases ih hp with ⟨q, h1, h2⟩ | h1
      · exact .inl ⟨q, by simp [h1], h2⟩
      · exact .inr h1
  | case4 x xs y ys h h2 h3 ih =>
    intro p hp
    rw [jG, if_neg h, if_pos h2, if_pos h3] at hp
    rcases ih hp with ⟨q, h1, h2⟩ | ⟨q, h1, h2⟩
    · exact .inl ⟨q, by simp [h1], h2⟩
    · exact .inr ⟨q, by simp [h1], h2⟩
  | case5 x xs y ys h h2 h3 ih =>
    intro p hp
    rw [jG, if_neg h, if_pos h2, if_neg h3] at hp
    rcases List.mem_cons.1 hp with rfl | hp
    · exact .inl ⟨x, by simp, rfl⟩
    · rcases ih hp with ⟨q, h1, h2⟩ | ⟨q, h1, h2⟩
      · exact .inl ⟨q, by simp [h1], h2⟩
      · exact .inr ⟨q, by simp [h1], h2⟩
  | case6 x xs y ys h h2 ih =>
    intro p hp
    rw [jG, if_neg h, if_neg h2] at hp
    rcases List.mem_cons.1 hp with rfl | hp
    · exact .inr ⟨p, by simp, rfl⟩
    · rcases ih hp with h1 | ⟨q, h1, h2⟩
      · exact .inl h1
      · exact .inr ⟨q, by simp [h1], h2⟩
theorem MB : ∀ (xs ys : List (Nat × Int)), Asc xs → Asc ys → Asc (jG xs ys) := by
  intro xs ys
  induction xs, ys using jG.induct with
  | case1 ys => intro _ h; rw [jG]; exact h
  | case2 x xs => intro h _; rw [jG]; exact h
  | case3 x xs y ys h ih =>
    intro h1 h2
    rw [jG, if_pos h]
    refine ⟨fun z hz => ?_, ih h1.2 h2⟩
    rcases Gz _ _ hz with ⟨q, hq, e⟩ | ⟨q, hq, e⟩
    · have := h1.1 q hq; omega
    · rcases List.mem_cons.1 hq with rfl | hq
      · omega
      · have := h2.1 q hq; omega
  | case4 x xs y ys h h2 h3 ih =>
    intro h4 h5
    rw [jG, if_neg h, if_pos h2, if_pos h3]
    exact ih h4.2 h5.2
  | case5 x xs y ys h h2 h3 ih =>
    intro h4 h5
    rw [jG, if_neg h, if_pos h2, if_neg h3]
    refine ⟨fun z hz => ?_, ih h4.2 h5.2⟩
    rcases Gz _ _ hz with ⟨q, hq, e⟩ | ⟨q, hq, e⟩
    · have := h4.1 q hq; show x.1 < z.1; omega
    · have := h5.1 q hq; show x.1 < z.1; omega
  | case6 x xs y ys h h2 ih =>
    intro h4 h5
    rw [jG, if_neg h, if_neg h2]
    refine ⟨fun z hz => ?_, ih h4 h5.2⟩
    rcases Gz _ _ hz with ⟨q, hq, e⟩ | ⟨q, hq, e⟩
    · rcases List.mem_cons.1 hq with rfl | hq
      · omega
      · have := h4.1 q hq; omega
    · have := h5.1 q hq; omega
theorem AZ {b c : Int} : ∀ (xs ys : List (Nat × Int)), Bnd 1 b xs → Bnd 1 c ys → 0 ≤ b → 0 ≤ c → Bnd 1 (b + c) (jG xs ys) := by
  intro xs ys
  induction xs, ys using jG.induct with
  | case1 ys => intro _ h hb _; rw [jG]; exact fun p hp => ⟨(h p hp).1, (h p hp).2.1, by have := (h p hp).2.2; omega⟩
  | case2 x xs => intro h _ _ hc; rw [jG]; exact fun p hp => ⟨(h p hp).1, (h p hp).2.1, by have := (h p hp).2.2; omega⟩
  | case3 x xs y ys h ih =>
    intro h1 h2 hb hc
    rw [jG, if_pos h]
    intro p hp
    rcases List.mem_cons.1 hp with rfl | hp
    · have := h1 p (by simp); exact ⟨this.1, this.2.1, by omega⟩
    · exact ih (fun p hp => h1 p (by simp [hp])) h2 hb hc p hp
  | case4 x xs y ys h h2 h3 ih =>
    intro h4 h5 hb hc
    rw [jG, if_neg h, if_pos h2, if_pos h3]
    exact ih (fun p hp => h4 p (by simp [hp])) (fun p hp => h5 p (by simp [hp])) hb hc
  | case5 x xs y ys h h2 h3 ih =>
    intro h4 h5 hb hc
    rw [jG, if_neg h, if_pos h2, if_neg h3]
    intro p hp
    rcases List.mem_cons.1 hp with rfl | hp
    · have a := h4 x (by simp); have b := h5 y (by simp); exact ⟨a.1, by show 1 ≤ x.2 + y.2; omega, by show x.2 + y.2 ≤ _; omega⟩
    · exact ih (fun p hp => h4 p (by simp [hp])) (fun p hp => h5 p (by simp [hp])) hb hc p hp
  | case6 x xs y ys h h2 ih =>
    intro h4 h5 hb hc
    rw [jG, if_neg h, if_neg h2]
    intro p hp
    rcases List.mem_cons.1 hp with rfl | hp
    · have := h5 p (by simp); exact ⟨this.1, this.2.1, by omega⟩
    · exact ih h4 (fun p hp => h5 p (by simp [hp])) hb hc p hp
theorem AY : ∀ (xs ys : List (Nat × Int)), (jG xs ys).length ≤ xs.length + ys.length := by
  intro xs ys
  induction xs, ys using jG.induct with
  | case1 ys => rw [jG]; simp
  | case2 x xs => rw [jG]; simp
  | case3 x xs y ys h ih => rw [jG, if_pos h]; simp only [List.length_cons] at *; omega
  | case4 x xs y ys h h2 h3 ih => rw [jG, if_neg h, if_pos h2, if_pos h3]; simp only [List.length_cons] at *; omega
  | case5 x xs y ys h h2 h3 ih => rw [jG, if_neg h, if_pos h2, if_neg h3]; simp only [List.length_cons] at *; omega
  | case6 x xs y ys h h2 ih => rw [jG, if_neg h, if_neg h2]; simp only [List.length_cons] at *; omega
theorem Mx (xs : List (Nat × Int)) : jG xs [] = xs := by cases xs <;> rw [jG]
theorem up1 (a : Nat) (h : a < 1000000) : wrap64 ((a : Int) + 1) = ((a + 1 : Nat) : Int) := by rw [wrap64_in _ (by omega)]; omega
def Wide (p : Nat × Int) : Prop := p.1 < 36 ∧ -100000 ≤ p.2 ∧ p.2 ≤ 100000
theorem VE {xs ys : List (Nat × Int)} (hx : ∀ p ∈ xs, Wide p) (hy : ∀ p ∈ ys, Wide p) (hlx : xs.length < 1000) (hly : ys.length < 1000) :
    ∀ (n a b : Nat) (acc : List (Nat × Int)) (k : Nat), a ≤ xs.length → b ≤ ys.length → (xs.length - a) + (ys.length - b) = n → 3 * n + 20 ≤ k → acc.length + n < 10000 →
      aX.l0 k (xs.map E) (ys.map E) (acc.map E) a b = some ((acc ++ jG (xs.drop a) (ys.drop b)).map E) := by
  intro n
  induction n using Nat.strongRecOn with
  | _ n ih =>
    intro a b acc k ha hb hn hk hacc
    obtain ⟨j, rfl⟩ : ∃ j, k = j + 3 := ⟨k - 3, by omega⟩
    have takeX : ∀ (h : a < xs.length), aX.l0 j (xs.map E) (ys.map E) (acc.map E ++ [⟨(E xs[a]).f0, (E xs[a]).f1⟩]) (wrap64 ((a : Int) + 1)) b = some ((acc ++ xs[a] :: jG (xs.drop (a + 1)) (ys.drop b)).map E) := by
      intro h
      have := ih (n - 1) (by omega) (a + 1) b (acc ++ [xs[a]]) j (by omega) hb (by omega) (by omega) (by simp; omega)
      rw [up1 a (by omega)]
      simpa using this
    have takeY : ∀ (h : b < ys.length), aX.l0 j (xs.map E) (ys.map E) (acc.map E ++ [⟨(E ys[b]).f0, (E ys[b]).f1⟩]) a (wrap64 ((b : Int) + 1)) = some ((acc ++ ys[b] :: jG (xs.drop a) (ys.drop (b + 1))).map E) := by
      intro h
      have := ih (n - 1) (by omega) a (b + 1) (acc ++ [ys[b]]) j ha (by omega) (by omega) (by omega) (by simp; omega)
      rw [up1 b (by omega)]
      simpa using this
    have lx : ((xs.map E).length : Int) = xs.length := by simp
    have ly : ((ys.map E).length : Int) = ys.length := by simp
    have la : (acc.map E).length < 4398046511104 := by simp; omega
    simp only [aX.l0, aX.j1, aX.j2, lx, ly]
    by_cases h1 : a < xs.length
    · rw [if_pos (by omega), if_pos trivial, if_neg (by omega)]
      rw [List.drop_eq_getElem_cons h1]
      by_cases h2 : b < ys.length
      · rw [if_neg (by omega), if_pos (by omega), if_pos (by omega), if_pos (by omega), if_pos (by omega)]
        rw [List.drop_eq_getElem_cons h2]
        rw [rdE xs a h1, rdE ys b h2]
        have wx := hx xs[a] (List.getElem_mem h1)
        have wy := hy ys[b] (List.getElem_mem h2)
        have hc := cmpR (k := j + 1) (by omega) xs[a].1 wx.1 ys[b].1 wy.1
        rw [show aK.f (j + 1) (E xs[a]).f0 (E ys[b]).f0 = some (sgn xs[a].1 ys[b].1) from hc]
        simp only [Option.bind_some]
        rw [jG]
        unfold sgn
        by_cases c1 : xs[a].1 < ys[b].1
        · rw [if_pos c1, if_pos c1, if_pos (by decide), if_pos (by omega), if_pos (by omega), if_pos la]
          have := takeX h1
          rw [List.drop_eq_getElem_cons h2] at this
          exact this
        · rw [if_neg c1, if_neg c1]
          by_cases c2 : xs[a].1 = ys[b].1
          · rw [if_pos c2, if_pos c2, if_neg (by decide), if_neg (by decide), if_pos (by omega), if_pos (by omega), if_pos (by omega), if_pos (by omega)]
            have e1 : (E xs[a]).f1 = xs[a].2 := rfl
            have e2 : (E ys[b]).f1 = ys[b].2 := rfl
            rw [e1, e2, wrap64_in (xs[a].2 + ys[b].2) (by have := wx.2; have := wy.2; omega)]
            by_cases c3 : xs[a].2 + ys[b].2 = 0
            · rw [if_pos c3, if_pos c3, up1 a (by omega), up1 b (by omega)]
              exact ih (n - 2) (by omega) (a + 1) (b + 1) acc j (by omega) (by omega) (by omega) (by omega) (by omega)
            · rw [if_neg c3, if_neg c3, if_pos la, up1 a (by omega), up1 b (by omega)]
              have := ih (n - 2) (by omega) (a + 1) (b + 1) (acc ++ [(xs[a].1, xs[a].2 + ys[b].2)]) j (by omega) (by omega) (by omega) (by omega) (by simp; omega)
              simpa [E] using this
          · rw [if_neg c2, if_neg c2, if_neg (by decide), if_pos (by decide), if_pos (by omega), if_pos (by omega), if_pos la]
            have := takeY h2
            rw [List.drop_eq_getElem_cons h1] at this
            exact this
      · rw [if_pos (by omega), if_pos (by decide), if_pos (by omega), if_pos (by omega), if_pos la, rdE xs a h1]
        rw [List.drop_eq_nil_of_le (by omega : ys.length ≤ b), Mx]
        have := takeX h1
        rw [List.drop_eq_nil_of_le (by omega : ys.length ≤ b), Mx] at this
        exact this
    · rw [if_neg (by omega)]
      rw [List.drop_eq_nil_of_le (by omega : xs.length ≤ a)]
      by_cases h2 : b < ys.length
      · rw [if_pos (by simp; omega), if_pos (by omega), if_neg (by decide), if_pos (by decide), if_pos (by omega), if_pos (by omega), if_pos la, rdE ys b h2]
        rw [List.drop_eq_getElem_cons h2, jG]
        have := takeY h2
        rw [List.drop_eq_nil_of_le (by omega : xs.length ≤ a), jG] at this
        exact this
      · rw [if_neg (by simp; omega)]
        rw [List.drop_eq_nil_of_le (by omega : ys.length ≤ b), jG]
        simp
theorem Mw {xs ys : List (Nat × Int)} {k : Nat} (hx : ∀ p ∈ xs, Wide p) (hy : ∀ p ∈ ys, Wide p) (hlx : xs.length < 1000) (hly : ys.length < 1000) (hk : 3 * (xs.length + ys.length) + 20 ≤ k) :
    aX.f k (xs.map E) (ys.map E) = some ((jG xs ys).map E) := by
  have := VE hx hy hlx hly (xs.length + ys.length) 0 0 [] k (by omega) (by omega) (by omega) hk (by simp; omega)
  unfold aX.f
  simpa using this
theorem Yl : ∀ (n : Nat) (xs : List (Nat × Int)) (k : Nat), xs.length ≤ n → n ≤ 40 → (∀ p ∈ xs, p.1 < 36 ∧ 0 ≤ p.2 ∧ p.2 ≤ 3) → 200 + n ≤ k →
    ∃ ys, dN.f k (xs.map E) = some (ys.map E) ∧ Asc ys ∧ Bnd 1 (3 * n) ys ∧ ys.length ≤ xs.length := by
  intro n
  induction n using Nat.strongRecOn with
  | _ n ih =>
    intro xs k hn h40 hx hk
    obtain ⟨j, rfl⟩ : ∃ j, k = j + 1 := ⟨k - 1, by omega⟩
    have lx : ((xs.map E).length : Int) = xs.length := by simp
    simp only [dN.f, lx]
    by_cases h0 : (xs.length : Int) = 0
    · rw [if_pos h0]
      exact ⟨[], rfl, trivial, fun _ h => absurd h (by simp), by simp⟩
    rw [if_neg h0]
    by_cases h1 : (xs.length : Int) = 1
    · rw [if_pos h1, if_pos (by omega)]
      have hlt : 0 < xs.length := by omega
      have r0 := rdE xs 0 hlt
      rw [show ((0 : Nat) : Int) = 0 from rfl] at r0
      rw [r0]
      have hm := hx xs[0] (List.getElem_mem hlt)
      by_cases h2 : (E xs[0]).f1 = 0
      · rw [if_pos h2]
        exact ⟨[], rfl, trivial, fun _ h => absurd h (by simp), by simp⟩
      · rw [if_neg h2]
        have h3 : xs[0].2 ≠ 0 := h2
        refine ⟨[xs[0]], rfl, ⟨fun _ h => absurd h (by simp), trivial⟩, fun p hp => ?_, by simp; omega⟩
        rw [List.mem_singleton] at hp
        subst hp
        exact ⟨hm.1, by omega, by omega⟩
    · rw [if_neg h1]
      have hw : wrap64 ((xs.length : Int) / 2) = ((xs.length / 2 : Nat) : Int) := by rw [wrap64_in _ (by omega)]; omega
      rw [hw, if_pos (by omega), if_pos (by omega)]
      simp only [Int.toNat_natCast]
      have m1 : xs.length / 2 < n := by omega
      obtain ⟨ys, e1, a1, b1, c1⟩ := ih (xs.length / 2) m1 (xs.take (xs.length / 2)) j (by rw [List.length_take]; omega) (by omega) (fun p hp => hx p (List.mem_of_mem_take hp)) (by omega)
      obtain ⟨zs, e2, a2, b2, c2⟩ := ih (xs.length - xs.length / 2) (by omega) (xs.drop (xs.length / 2)) j (by simp) (by omega) (fun p hp => hx p (List.mem_of_mem_drop hp)) (by omega)
      have d1 : ys.length ≤ xs.length / 2 := by simp at c1; omega
      have d2 : zs.length ≤ xs.length - xs.length / 2 := by simpa using c2
      rw [← List.map_take, ← List.map_drop, e1, e2]
      simp only [Option.bind_some]
      have hm := Mw (k := j) (xs := ys) (ys := zs) (fun p hp => ⟨(b1 p hp).1, by have := (b1 p hp).2; omega, by have := (b1 p hp).2; omega⟩) (fun p hp => ⟨(b2 p hp).1, by have := (b2 p hp).2; omega, by have := (b2 p hp).2; omega⟩) (by omega) (by omega) (by omega)
      rw [hm]
      simp only [Option.bind_some]
      refine ⟨_, rfl, MB _ _ a1 a2, fun p hp => ?_, ?_⟩
      · have := AZ ys zs b1 b2 (by omega) (by omega) p hp
        exact ⟨this.1, this.2.1, by omega⟩
      · have := AY ys zs
        omega
theorem lE (xs : List (Nat × Int)) : ((xs.map E).length : Int) = xs.length := by simp
theorem Ls : ∀ {xs : List (Nat × Int)}, Asc xs → ∀ {i j : Nat} (hj : j < xs.length) (hij : i < j), (xs[i]'(by omega)).1 < xs[j].1
  | x :: xs, h, 0, j + 1, hj, _ => h.1 _ (List.getElem_mem _)
  | x :: xs, h, i + 1, j + 1, hj, hij => Ls h.2 (by simpa using hj) (by omega)
theorem Qx {c : Int} (h1 : -262144 ≤ c) (h2 : c ≤ 262144) : d9.f c = some true := by
  unfold d9.f
  rw [if_pos h1, decide_eq_true h2]
theorem countP {c : Int} (h1 : -262144 ≤ c) (h2 : c ≤ 262144) : lY.f c = some true := by
  unfold lY.f
  rw [if_pos h1, decide_eq_true h2]
theorem TN {ys : List (Nat × Int)} (hb : Bnd 1 262144 ys) (hl : ys.length < 1000) {k : Nat} (hk : ys.length + 2 ≤ k) : eX.f k (ys.map E) = some (ys.map E, 0) := by
  unfold eX.f
  rw [lE, if_neg (by omega)]
  have : ∀ (m i k : Nat), i + m = ys.length → m + 2 ≤ k → eX.l0 k (ys.map E) i = some (ys.map E, 0) := by
    intro m
    induction m with
    | zero =>
      intro i k hi hk
      obtain ⟨j, rfl⟩ : ∃ j, k = j + 1 := ⟨k - 1, by omega⟩
      simp only [eX.l0, lE]
      rw [if_neg (by omega)]
    | succ m ih =>
      intro i k hi hk
      obtain ⟨j, rfl⟩ : ∃ j, k = j + 1 := ⟨k - 1, by omega⟩
      simp only [eX.l0, lE]
      have hlt : i < ys.length := by omega
      have b := hb ys[i] (List.getElem_mem hlt)
      rw [if_pos (by omega), if_pos (by omega), rdE ys i hlt, Qx (c := (E ys[i]).f1) (by show -262144 ≤ ys[i].2; omega) b.2.2]
      simp only [Option.bind_some, if_true]
      rw [up1 i (by omega)]
      exact ih (i + 1) j (by omega) (by omega)
  exact this ys.length 0 k (by omega) hk
theorem Yq {xs : List (Nat × Int)} (hx : ∀ p ∈ xs, p.1 < 36 ∧ 0 ≤ p.2 ∧ p.2 ≤ 3) (hl : xs.length ≤ 40) {k : Nat} (hk : 400 ≤ k) :
    ∃ ys, eB.f k (xs.map E) = some (ys.map E, 0) ∧ Asc ys ∧ Bnd 1 (3 * xs.length) ys ∧ ys.length ≤ xs.length := by
  have : ∀ (m i k : Nat), i + m = xs.length → m + 300 ≤ k → ∃ ys, eB.l0 k (xs.map E) i = some (ys.map E, 0) ∧ Asc ys ∧ Bnd 1 (3 * xs.length) ys ∧ ys.length ≤ xs.length := by
    intro m
    induction m with
    | zero =>
      intro i k hi hk
      obtain ⟨j, rfl⟩ : ∃ j, k = j + 1 := ⟨k - 1, by omega⟩
      obtain ⟨ys, e, a, b, c⟩ := Yl xs.length xs j (by omega) (by omega) hx (by omega)
      refine ⟨ys, ?_, a, b, c⟩
      simp only [eB.l0, lE]
      rw [if_neg (by omega), e]
      simp only [Option.bind_some]
      rw [TN (fun p hp => ⟨(b p hp).1, (b p hp).2.1, by have := (b p hp).2.2; omega⟩) (by omega) (by omega)]
      rfl
    | succ m ih =>
      intro i k hi hk
      obtain ⟨j, rfl⟩ : ∃ j, k = j + 1 := ⟨k - 1, by omega⟩
      have hlt : i < xs.length := by omega
      have b := hx xs[i] (List.getElem_mem hlt)
      simp only [eB.l0, lE]
      rw [if_pos (by omega), if_pos (by omega), rdE xs i hlt, show bD.f j (E xs[i]).f0 = some true from vrR (by omega) _ b.1]
      simp only [Option.bind_some, if_true]
      rw [Qx (c := (E xs[i]).f1) (by show -262144 ≤ xs[i].2; omega) (by show xs[i].2 ≤ 262144; omega)]
      simp only [Option.bind_some, if_true]
      rw [up1 i (by omega)]
      exact ih (i + 1) j (by omega) (by omega)
  exact this xs.length 0 k (by omega) (by omega)
theorem WV {l : List Int} (hl : l.length < 17592186044416) {s : Int} {n : Nat} (hn : n ≤ 20) (hs : St l s) {k : Nat} (hk : 1000 ≤ k) :
    ∃ (ys : List (Nat × Int)) (s' : Int), dK.f k l s 2 n false = some (ys.map E, s') ∧ Asc ys ∧ Bnd 1 60 ys ∧ ys.length ≤ n ∧ St l s' := by
  obtain ⟨es, s1, e1, a1, b1, hs⟩ := Qv hl (n := n) (k := k) (by omega) (by omega) hs
  have : ∀ (m i k : Nat) (xs : List (Nat × Int)), i + m = xs.length → xs.length ≤ n → m + 500 ≤ k → (∀ p ∈ xs, Raw p) → (∀ (j : Nat) (h : j < xs.length), j < i → 0 ≤ xs[j].2) →
      ∃ ys, dK.l0 k false (xs.map E) i l s1 = some (ys.map E, s1) ∧ Asc ys ∧ Bnd 1 60 ys ∧ ys.length ≤ n := by
    intro m
    induction m with
    | zero =>
      intro i k xs hi hxn hk hr hp
      obtain ⟨j, rfl⟩ : ∃ j, k = j + 1 := ⟨k - 1, by omega⟩
      obtain ⟨ys, e, a, b, c⟩ := Yq (xs := xs) (k := j) (fun p hq => ⟨(hr p hq).1, by
        obtain ⟨q, hq1, rfl⟩ := List.getElem_of_mem hq
        exact hp q hq1 (by omega), (hr p hq).2.2⟩) (by omega) (by omega)
      refine ⟨ys, ?_, a, fun p hp => ⟨(b p hp).1, (b p hp).2.1, by have := (b p hp).2.2; omega⟩, by omega⟩
      simp only [dK.l0, lE]
      rw [if_neg (by omega), e]
      rfl
    | succ m ih =>
      intro i k xs hi hxn hk hr hp
      obtain ⟨j, rfl⟩ : ∃ j, k = j + 1 := ⟨k - 1, by omega⟩
      have hlt : i < xs.length := by omega
      have b := hr xs[i] (List.getElem_mem hlt)
      simp only [dK.l0, lE]
      rw [if_pos (by omega), if_neg (by decide), if_pos (by omega), rdE xs i hlt]
      by_cases hneg : (E xs[i]).f1 < 0
      · rw [if_pos hneg]
        have hneg' : xs[i].2 < 0 := hneg
        have hset : (xs.map E).set ((i : Int).toNat) (⟨(E xs[i]).f0, wrap64 (-((E xs[i]).f1))⟩ : S51) = (xs.set i (xs[i].1, -xs[i].2)).map E := by
          rw [show wrap64 (-((E xs[i]).f1)) = -xs[i].2 from wrap64_in _ (by show _ ≤ -xs[i].2 ∧ -xs[i].2 ≤ _; have := b.2; omega)]
          rw [List.map_set]
          rfl
        rw [hset, up1 i (by omega)]
        refine ih (i + 1) j _ (by simp; omega) (by simp; omega) (by omega) ?_ ?_
        · intro p hp'
          rcases List.mem_or_eq_of_mem_set hp' with h | rfl
          · exact hr p h
          · exact ⟨b.1, by show -2 ≤ -xs[i].2; have := b.2; omega, by show -xs[i].2 ≤ 3; have := b.2; omega⟩
        · intro q hq hqi
          rw [List.getElem_set]
          split
          · show 0 ≤ -xs[i].2; omega
          · exact hp q (by simpa using hq) (by omega)
      · rw [if_neg hneg, up1 i (by omega)]
        refine ih (i + 1) j xs (by omega) hxn (by omega) hr ?_
        intro q hq hqi
        by_cases h : q = i
        · subst h; exact Int.not_lt.1 hneg
        · exact hp q hq (by omega)
  obtain ⟨ys, e2, a2, b2, c2⟩ := this es.length 0 k es (by omega) a1 (by omega) b1 (fun _ _ h => by omega)
  refine ⟨ys, s1, ?_, a2, b2, c2, hs⟩
  unfold dK.f
  rw [e1]
  exact e2
theorem entryP {p : Nat × Int} (h1 : p.1 < 36) (h2 : -262144 ≤ p.2) (h3 : p.2 ≤ 262144) {k : Nat} (hk : 5 ≤ k) : fU.f k (E p).f0 (E p).f1 = some true := by
  unfold fU.f
  rw [show dO.f k (E p).f0 = some true from vrP hk _ h1]
  simp only [Option.bind_some, if_true]
  rw [countP (c := (E p).f1) h2 h3]
  rfl
theorem validP {ys : List (Nat × Int)} (ha : Asc ys) (hb : Bnd 1 262144 ys) (hl : ys.length < 1000) {k : Nat} (hk : ys.length + 20 ≤ k) : dV.f k (ys.map E) = some true := by
  have : ∀ (m i k : Nat), i + m = ys.length → m + 20 ≤ k → dV.l0 k (ys.map E) (ys.map E) (ys.length : Int) i = some true := by
    intro m
    induction m with
    | zero =>
      intro i k hi hk
      obtain ⟨j, rfl⟩ : ∃ j, k = j + 1 := ⟨k - 1, by omega⟩
      simp only [dV.l0, lE]
      rw [if_neg (by omega), decide_eq_true (by omega)]
    | succ m ih =>
      intro i k hi hk
      obtain ⟨j, rfl⟩ : ∃ j, k = j + 1 := ⟨k - 1, by omega⟩
      have hlt : i < ys.length := by omega
      have b := hb ys[i] (List.getElem_mem hlt)
      simp only [dV.l0, lE]
      rw [if_pos (by omega), if_pos (by omega), if_pos (by omega), rdE ys i hlt, entryP b.1 (by omega) b.2.2 (by omega)]
      simp only [Option.bind_some, if_true]
      rw [if_neg (by show ¬ ys[i].2 = 0; omega), up1 i (by omega)]
      have next := ih (i + 1) j (by omega) (by omega)
      by_cases h0 : (i : Int) > 0
      · have hw : wrap64 ((i : Int) - 1) = ((i - 1 : Nat) : Int) := by rw [wrap64_in _ (by omega)]; omega
        rw [if_pos h0, hw, if_pos (by omega), if_pos (by omega), rdE ys (i - 1) (by omega)]
        have b' := hb (ys[i - 1]'(by omega)) (List.getElem_mem _)
        rw [show eG.f j (E (ys[i - 1]'(by omega))).f0 (E ys[i]).f0 = some (sgn (ys[i - 1]'(by omega)).1 ys[i].1) from cmpP (by omega) _ b'.1 _ b.1]
        simp only [Option.bind_some]
        have hs : sgn (ys[i - 1]'(by omega)).1 ys[i].1 = -1 := by unfold sgn; rw [if_pos (Ls ha hlt (by omega))]
        rw [hs, if_neg (by decide)]
        exact next
      · rw [if_neg h0]
        exact next
  unfold dV.f
  rw [lE]
  exact this ys.length 0 k (by omega) hk
theorem Ja {ys : List (Nat × Int)} (ha : Asc ys) (hb : Bnd 1 262144 ys) (hl : ys.length < 1000) {k : Nat} (hk : ys.length + 20 ≤ k) : iD.f k (ys.map E) = some true := by
  unfold iD.f
  rw [validP ha hb hl hk]
  simp only [Option.bind_some, if_true]
  have : ∀ (m i k : Nat), i + m = ys.length → m + 2 ≤ k → eF.l0 k (ys.map E) (ys.length : Int) i = some (-1) := by
    intro m
    induction m with
    | zero =>
      intro i k hi hk
      obtain ⟨j, rfl⟩ : ∃ j, k = j + 1 := ⟨k - 1, by omega⟩
      simp only [eF.l0, lE]
      rw [if_neg (by omega)]
    | succ m ih =>
      intro i k hi hk
      obtain ⟨j, rfl⟩ : ∃ j, k = j + 1 := ⟨k - 1, by omega⟩
      have hlt : i < ys.length := by omega
      have b := hb ys[i] (List.getElem_mem hlt)
      simp only [eF.l0, lE]
      rw [if_pos (by omega), if_pos (by omega), if_pos (by omega), rdE ys i hlt]
      have : kH.f (E ys[i]).f0 (E ys[i]).f1 = some false := by
        unfold kH.f
        rw [decide_eq_false (by show ¬ ys[i].2 < 0; omega)]
      rw [this, up1 i (by omega)]
      simp only [Option.bind_some]
      exact ih (i + 1) j (by omega) (by omega)
  unfold jN.f eF.f
  rw [lE]
  have h := this ys.length 0 k (by omega) (by omega)
  rw [show ((0 : Nat) : Int) = 0 from rfl] at h
  rw [h]
  rfl
theorem Vu {ys : List (Nat × Int)} (ha : Asc ys) (hb : Bnd 1 262144 ys) (hl : ys.length < 1000) {k : Nat} (hk : ys.length + 20 ≤ k) : bI.f k (ys.map E) = some true := by
  have : ∀ (m i k : Nat), i + m = ys.length → m + 20 ≤ k → bI.l0 k (ys.map E) i = some true := by
    intro m
    induction m with
    | zero =>
      intro i k hi hk
      obtain ⟨j, rfl⟩ : ∃ j, k = j + 1 := ⟨k - 1, by omega⟩
      simp only [bI.l0, lE]
      rw [if_neg (by omega)]
    | succ m ih =>
      intro i k hi hk
      obtain ⟨j, rfl⟩ : ∃ j, k = j + 1 := ⟨k - 1, by omega⟩
      have hlt : i < ys.length := by omega
      have b := hb ys[i] (List.getElem_mem hlt)
      simp only [bI.l0, lE]
      rw [if_pos (by omega), if_pos (by omega), rdE ys i hlt, show bD.f j (E ys[i]).f0 = some true from vrR (by omega) _ b.1]
      simp only [Option.bind_some, if_true]
      rw [Qx (c := (E ys[i]).f1) (by show -262144 ≤ ys[i].2; omega) b.2.2]
      simp only [Option.bind_some, if_true]
      rw [if_neg (by show ¬ ys[i].2 = 0; omega), up1 i (by omega)]
      have next := ih (i + 1) j (by omega) (by omega)
      by_cases h0 : (i : Int) > 0
      · have hw : wrap64 ((i : Int) - 1) = ((i - 1 : Nat) : Int) := by rw [wrap64_in _ (by omega)]; omega
        rw [if_pos h0, hw, if_pos (by omega), if_pos (by omega), rdE ys (i - 1) (by omega)]
        have b' := hb (ys[i - 1]'(by omega)) (List.getElem_mem _)
        rw [show aK.f j (E (ys[i - 1]'(by omega))).f0 (E ys[i]).f0 = some (sgn (ys[i - 1]'(by omega)).1 ys[i].1) from cmpR (by omega) _ b'.1 _ b.1]
        simp only [Option.bind_some]
        have hs : sgn (ys[i - 1]'(by omega)).1 ys[i].1 = -1 := by unfold sgn; rw [if_pos (Ls ha hlt (by omega))]
        rw [hs, if_neg (by decide)]
        exact next
      · rw [if_neg h0]
        exact next
  unfold bI.f
  rw [lE, if_neg (by omega)]
  exact this ys.length 0 k (by omega) hk
theorem Qy {zs : List Int} (h : zs.Pairwise (· ≤ ·)) : (Lib.compact zs).Pairwise (· < ·) := by
  unfold Lib.compact Lib.compactUpTo
  rw [List.pairwise_map]
  have hr : ((List.range zs.length).filter (Lib.keeps zs.toArray)).Pairwise (fun i j => i < j ∧ j < zs.length ∧ Lib.keeps zs.toArray j = true) := by
    rw [List.pairwise_filter]
    refine List.Pairwise.imp_of_mem ?_ List.pairwise_lt_range
    intro a b _ hb hab _ hk
    exact ⟨hab, List.mem_range.1 hb, hk⟩
  refine hr.imp ?_
  rintro i j ⟨hij, hj, hk⟩
  have hle : ∀ a b (hb : b < zs.length) (hab : a ≤ b), zs[a]'(by omega) ≤ zs[b] := by
    intro a b hb hab
    rcases Nat.lt_or_ge a b with h1 | h1
    · exact List.pairwise_iff_getElem.1 h a b (by omega) hb h1
    · have : a = b := by omega
      subst this; exact Int.le_refl _
  have e1 : zs.toArray[i]! = zs[i]'(by omega) := by simp [show i < zs.length by omega]
  have e2 : zs.toArray[j]! = zs[j] := by simp [hj]
  have e3 : zs.toArray[j - 1]! = zs[j - 1]'(by omega) := by simp [show j - 1 < zs.length by omega]
  have hne : zs[j - 1]'(by omega) ≠ zs[j] := by
    unfold Lib.keeps at hk
    rw [e2, e3] at hk
    simp at hk
    rcases hk with hk | hk
    · omega
    · exact fun e => hk (by first | exact e | exact e.symm)
  rw [e1, e2]
  have := hle i (j - 1) (by omega) (by omega)
  have := hle (j - 1) j hj (by omega)
  omega
theorem Nv {zs : List Int} {x : Int} (h : x ∈ Lib.compact zs) : x ∈ zs := by
  unfold Lib.compact Lib.compactUpTo at h
  obtain ⟨i, hi, rfl⟩ := List.mem_map.1 h
  have := List.mem_range.1 (List.mem_filter.1 hi).1
  simp [this]
def Bot (w : Int) (c : List Int) : Prop := c.Pairwise (· < ·) ∧ (∀ x ∈ c, 0 ≤ x ∧ x < 4611686018427387904) ∧ (c.length : Int) ≤ w
theorem TM {i r : Nat} (hi : i < 6) (hr : r < 3) {k : Nat} (hk : 40 ≤ k) : ∃ h, dD.f k (val i).f0 (val i).f1 (val i).f2 r = some h ∧ 0 ≤ h ∧ h < 18446744073709551616 := by
  have := (by decide +kernel : ∀ i < 6, ∀ r < 3, ((dD.f 40 (val i).f0 (val i).f1 (val i).f2 (r : Nat)).map fun h => decide (0 ≤ h ∧ h < 18446744073709551616)) = some true) i hi r hr
  cases e : dD.f 40 (val i).f0 (val i).f1 (val i).f2 r with
  | none => rw [e] at this; cases this
  | some h =>
    rw [e] at this
    refine ⟨h, up (f := fun k => dD.f k (val i).f0 (val i).f1 (val i).f2 r) (dD.mono _ _ _ _) e hk, ?_⟩
    simpa using this
theorem UW {i : Nat} (hi : i < 6) {n1 n2 : ByteArray} {c kd w d : Int} (hw : 1 ≤ w) (hw2 : w ≤ 64) (hd : 1 ≤ d) (hd2 : d ≤ 3) {k : Nat} (hk : 60 ≤ k) :
    ∃ ps, bB.f k n1 n2 c kd w d (val i).f0 (val i).f1 (val i).f2 = some ps ∧ ps.length = d.toNat ∧ ∀ p ∈ ps, 0 ≤ p ∧ p < w * d := by
  have : ∀ (m r k : Nat) (acc : List Int), (r : Int) + m = d → m + 50 ≤ k → acc.length = r → (∀ p ∈ acc, 0 ≤ p ∧ p < w * d) →
      ∃ ps, bB.l0 k acc d r n1 n2 c kd w d (val i).f0 (val i).f1 (val i).f2 = some ps ∧ ps.length = d.toNat ∧ ∀ p ∈ ps, 0 ≤ p ∧ p < w * d := by
    intro m
    induction m with
    | zero =>
      intro r k acc hr hk ha hb
      obtain ⟨j, rfl⟩ : ∃ j, k = j + 1 := ⟨k - 1, by omega⟩
      simp only [bB.l0]
      rw [if_neg (by omega)]
      exact ⟨acc, rfl, by omega, hb⟩
    | succ m ih =>
      intro r k acc hr hk ha hb
      obtain ⟨j, rfl⟩ : ∃ j, k = j + 1 := ⟨k - 1, by omega⟩
      obtain ⟨h, e, h0, h1⟩ := TM hi (r := r) (by omega) (k := j) (by omega)
      simp only [bB.l0]
      have hu : IntKind.u64.wrap w = w := by rw [u64w]; omega
      rw [if_pos (by omega), e]
      simp only [Option.bind_some]
      rw [hu, if_neg (by omega), if_pos (by omega), up1 r (by omega)]
      have t0 : 0 ≤ Int.tmod h w := Int.tmod_nonneg _ h0
      have t1 : Int.tmod h w < w := Int.tmod_lt_of_pos _ (by omega)
      have rw0 : (0 : Int) ≤ (r : Int) * w := Int.mul_nonneg (by omega) (by omega)
      have rw1 : (r : Int) * w ≤ 2 * w := Int.mul_le_mul_of_nonneg_right (by omega) (by omega)
      have rw2 : ((r : Int) + 1) * w ≤ d * w := Int.mul_le_mul_of_nonneg_right (by omega) (by omega)
      rw [Int.add_mul, Int.one_mul, Int.mul_comm d w] at rw2
      rw [wrap64_in ((r : Int) * w) (by omega), wrap64_in (Int.tmod h w) (by omega), wrap64_in _ (by omega)]
      refine ih (r + 1) j _ (by omega) (by omega) (by simp; omega) ?_
      intro p hp
      rcases List.mem_append.1 hp with hp | hp
      · exact hb p hp
      · rw [List.mem_singleton] at hp
        omega
  have h := this d.toNat 0 k [] (by omega) (by omega) rfl (by simp)
  unfold bB.f
  exact h
def Blo (n : Int) (c : List Int) : Prop := (c.length : Int) = n ∧ ∀ x ∈ c, x = 0 ∨ x = 1
def Cells (kd w d : Int) (c : List Int) : Prop := (kd = 1 ∧ Blo (w * d) c) ∨ (kd = 2 ∧ Bot w c)
theorem vV {n1 n2 : ByteArray} {c kd w d : Int} (hkd : kd = 0 ∨ kd = 1 ∨ kd = 2) (hw : 1 ≤ w) (hw2 : w ≤ 64) (hd : 1 ≤ d) (hd2 : d ≤ 3) (h2 : kd = 2 → d = 1) {k : Nat} (hk : 3 ≤ k) : bg.f k n1 n2 c kd w d = some true := by
  obtain ⟨j, rfl⟩ : ∃ j, k = j + 2 := ⟨k - 2, by omega⟩
  have m1 : w * d ≤ 64 * 3 := Int.mul_le_mul hw2 hd2 (by omega) (by omega)
  have m0 : 0 ≤ w * d := Int.mul_nonneg (by omega) (by omega)
  unfold bg.f
  rw [if_neg (by omega), if_neg (by omega), if_neg (by omega), if_neg (by omega), wrap64_in _ (by omega), decide_eq_false (by omega)]
  simp only [bg.j0, bg.j1]
  rcases hkd with rfl | rfl | rfl
  · simp
  · simp
  · simp [h2 rfl]
theorem Ym (c : List Int) (hl : c.length < 1000) {k : Nat} (hk : c.length + 2 ≤ k) : dQ.f k c c = some true := by
  unfold dQ.f
  rw [if_pos rfl]
  have : ∀ (m i k : Nat), i + m = c.length → m + 2 ≤ k → dQ.l0 k c c i = some true := by
    intro m
    induction m with
    | zero =>
      intro i k hi hk
      obtain ⟨j, rfl⟩ : ∃ j, k = j + 1 := ⟨k - 1, by omega⟩
      simp only [dQ.l0]
      rw [if_neg (by omega)]
    | succ m ih =>
      intro i k hi hk
      obtain ⟨j, rfl⟩ : ∃ j, k = j + 1 := ⟨k - 1, by omega⟩
      simp only [dQ.l0]
      rw [if_pos (by omega), if_pos (by omega), if_pos (by omega), if_pos trivial, up1 i (by omega)]
      exact ih (i + 1) j (by omega) (by omega)
  exact this c.length 0 k (by omega) hk
theorem EA {n1 n2 : ByteArray} {cc kd w d : Int} (hw : 1 ≤ w) (hw2 : w ≤ 64) (hd : 1 ≤ d) (hd2 : d ≤ 3) (h2 : kd = 2 → d = 1) {c : List Int} (hc : Cells kd w d c) {k : Nat} (hk : 3 ≤ k) : bf.f k n1 n2 cc kd w d c = some true := by
  have m1 : w * d ≤ 64 * 3 := Int.mul_le_mul hw2 hd2 (by omega) (by omega)
  have m0 : 0 ≤ w * d := Int.mul_nonneg (by omega) (by omega)
  unfold bf.f
  rcases hc with ⟨rfl, hc⟩ | ⟨rfl, hc⟩
  · rw [vV (by omega) hw hw2 hd hd2 h2 hk]
    simp only [Option.bind_some]
    rw [if_pos trivial, if_neg (by decide), wrap64_in _ (by omega), decide_eq_true hc.1]
    have : c.any (bf.bad 1) = false := by
      rw [List.any_eq_false]
      intro x hx
      rcases hc.2 x hx with rfl | rfl <;> decide
    simp [this]
  · rw [vV (by omega) hw hw2 hd hd2 h2 hk]
    simp only [Option.bind_some]
    rw [if_pos trivial, if_pos trivial, decide_eq_true hc.2.2]
    have : (List.range c.length).all (bf.Gx c) = true := by
      rw [List.all_eq_true]
      intro j hj
      have hj := List.mem_range.1 hj
      have e1 : c.getD j 0 = c[j] := by simp [List.getD_eq_getElem?_getD, hj]
      have b := hc.2.1 c[j] (List.getElem_mem hj)
      unfold bf.Gx
      rw [e1, decide_eq_true b.1, decide_eq_true b.2]
      by_cases h0 : j = 0
      · simp [h0]
      · have e2 : c.getD (j - 1) 0 = c[j - 1]'(by omega) := by simp [List.getD_eq_getElem?_getD, show j - 1 < c.length by omega]
        have := List.pairwise_iff_getElem.1 hc.1 (j - 1) j (by omega) hj (by omega)
        rw [e2, decide_eq_true this]
        simp
    simp [this]
theorem UY {n1 n2 : ByteArray} {c kd w d : Int} (hw : 1 ≤ w) (hw2 : w ≤ 64) (hd : 1 ≤ d) (hd2 : d ≤ 3) :
    ∃ P : Nat → List Int, ∀ i < 6, (∀ k, 60 ≤ k → bB.f k n1 n2 c kd w d (val i).f0 (val i).f1 (val i).f2 = some (P i)) ∧ (P i).length ≤ 3 ∧ ∀ p ∈ P i, 0 ≤ p ∧ p < w * d := by
  have h : ∀ i, i < 6 → ∃ ps, bB.f 60 n1 n2 c kd w d (val i).f0 (val i).f1 (val i).f2 = some ps ∧ ps.length = d.toNat ∧ ∀ p ∈ ps, 0 ≤ p ∧ p < w * d := fun i hi => UW hi hw hw2 hd hd2 (by omega)
  refine ⟨fun i => if hi : i < 6 then Classical.choose (h i hi) else [], fun i hi => ?_⟩
  simp only [dif_pos hi]
  obtain ⟨h1, h2, h3⟩ := Classical.choose_spec (h i hi)
  exact ⟨fun k hk => up (f := fun k => bB.f k n1 n2 c kd w d (val i).f0 (val i).f1 (val i).f2) (bB.mono _ _ _ _ _ _ _ _ _) h1 hk, by omega, h3⟩
def hit : List Int → Nat → Int
  | [], _ => 0
  | p :: r, q => (if p.toNat = q then 1 else 0) + hit r q
theorem Kr : ∀ (l : List Int) (q : Nat), 0 ≤ hit l q
  | [], _ => Int.le_refl _
  | p :: r, q => by
    have := Kr r q
    unfold hit
    split <;> omega
theorem PK : ∀ (l : List Int) (q : Nat), hit l q ≤ l.length
  | [], _ => Int.le_refl _
  | p :: r, q => by
    have := PK r q
    unfold hit
    simp only [List.length_cons]
    split <;> omega
theorem Hr (c : List Int) (i q : Nat) (v : Int) (h : i < c.length) : (c.set i v).getD q 0 = if i = q then v else c.getD q 0 := by
  simp only [List.getD_eq_getElem?_getD, List.getElem?_set]
  by_cases e : i = q
  · subst e; simp [h]
  · simp [e]
theorem Wx {w d : Int} {n1 n2 : ByteArray} {cc n : Int} {ps : List Int} (hp : ∀ p ∈ ps, 0 ≤ p ∧ p < w * d) (hpl : ps.length ≤ 3) (hn0 : 0 ≤ n) (hn : n ≤ 1000) :
    ∀ (m i k : Nat) (c : List Int) (b : Nat → Int), i + m = ps.length → m + 2 ≤ k → (c.length : Int) = w * d → (∀ q, c.getD q 0 = b q) → (∀ q, 0 ≤ b q ∧ b q ≤ 10000000 - 1000 * m) →
      ∃ c', bP.l0 k c n ps (ps.length : Int) i n1 n2 cc 0 w d = some c' ∧ (c'.length : Int) = w * d ∧ ∀ q, c'.getD q 0 = b q + n * hit (ps.drop i) q := by
  intro m
  induction m with
  | zero =>
    intro i k c b hi hk hc hb hB
    obtain ⟨j, rfl⟩ : ∃ j, k = j + 1 := ⟨k - 1, by omega⟩
    simp only [bP.l0]
    rw [if_neg (by omega)]
    refine ⟨c, rfl, hc, fun q => ?_⟩
    rw [List.drop_eq_nil_of_le (by omega), hb q, hit]
    omega
  | succ m ih =>
    intro i k c b hi hk hc hb hB
    obtain ⟨j, rfl⟩ : ∃ j, k = j + 1 := ⟨k - 1, by omega⟩
    have hlt : i < ps.length := by omega
    have hr : rd ps i = ps[i] := by simp [rd, List.getD_eq_getElem?_getD, hlt]
    have hbp := hp ps[i] (List.getElem_mem hlt)
    have hrc : rd c ps[i] = b (ps[i].toNat) := hb _
    have hB1 := hB ps[i].toNat
    simp only [bP.l0]
    rw [if_pos (by omega), if_pos (by omega), if_pos (by omega), if_neg (by decide), hr, if_pos hbp.1, if_pos (by rw [hc]; exact hbp.2), up1 i (by omega), hrc, wrap64_in _ (by omega)]
    obtain ⟨c', e, h1, h2⟩ := ih (i + 1) j (c.set ps[i].toNat (b ps[i].toNat + n)) (fun q => if ps[i].toNat = q then b ps[i].toNat + n else b q) (by omega) (by omega) (by rw [List.length_set]; exact hc)
      (fun q => by rw [Hr _ _ _ _ (by omega)]; split
                   · rfl
                   · exact hb q)
      (fun q => by
        have := hB q
        by_cases h : ps[i].toNat = q
        · simp only [if_pos h]; omega
        · simp only [if_neg h]; omega)
    refine ⟨c', e, h1, fun q => ?_⟩
    rw [h2 q, List.drop_eq_getElem_cons hlt, hit, Int.mul_add]
    by_cases h : ps[i].toNat = q
    · simp only [if_pos h]; rw [← h]; omega
    · simp only [if_neg h]; omega
def W (PP : Nat → List Int) : List (Nat × Int) → Nat → Int
  | [], _ => 0
  | x :: r, q => x.2 * hit (PP x.1) q + W PP r q
theorem Ag (PP : Nat → List Int) (q : Nat) : ∀ (xs ys : List (Nat × Int)), W PP (jG xs ys) q = W PP xs q + W PP ys q := by
  intro xs ys
  induction xs, ys using jG.induct with
  | case1 ys => rw [jG]; simp [W]
  | case2 x xs => rw [jG]; simp [W]
  | case3 x xs y ys h ih => rw [jG, if_pos h]; simp only [W] at *; omega
  | case4 x xs y ys h h2 h3 ih =>
    rw [jG, if_neg h, if_pos h2, if_pos h3, ih]
    simp only [W]
    have : x.2 * hit (PP x.1) q + y.2 * hit (PP y.1) q = 0 := by rw [h2, ← Int.add_mul, h3, Int.zero_mul]
    omega
  | case5 x xs y ys h h2 h3 ih =>
    rw [jG, if_neg h, if_pos h2, if_neg h3]
    simp only [W]
    rw [ih, Int.add_mul]
    have : y.2 * hit (PP x.1) q = y.2 * hit (PP y.1) q := by rw [h2]
    omega
  | case6 x xs y ys h h2 ih => rw [jG, if_neg h, if_neg h2]; simp only [W] at *; omega
theorem Lu {PP : Nat → List Int} {b : Int} : ∀ (ys : List (Nat × Int)), Bnd 1 b ys → ∀ q, 0 ≤ W PP ys q
  | [], _, _ => Int.le_refl _
  | x :: r, h, q => by
    have := Lu (PP := PP) r (fun p hp => h p (List.mem_cons_of_mem _ hp)) q
    have hx := h x (by simp)
    have := Int.mul_nonneg (show 0 ≤ x.2 by omega) (Kr (PP x.1) q)
    simp only [W]
    omega
theorem W_le {PP : Nat → List Int} (hP : ∀ x < 36, (PP x).length ≤ 3) : ∀ (ys : List (Nat × Int)), Bnd 1 300 ys → ∀ q, W PP ys q ≤ 900 * ys.length
  | [], _, _ => Int.le_refl _
  | x :: r, h, q => by
    have := W_le hP r (fun p hp => h p (List.mem_cons_of_mem _ hp)) q
    have hx := h x (by simp)
    have h1 := PK (PP x.1) q
    have h2 := Kr (PP x.1) q
    have h3 := hP x.1 hx.1
    have : x.2 * hit (PP x.1) q ≤ 300 * 3 := Int.mul_le_mul hx.2.2 (by omega) h2 (by omega)
    simp only [W, List.length_cons]
    omega
def l6 (P : Nat → List Int) (cc : Int) (x : Nat) : List Int := if cc = 0 then (if x / 6 = 0 then [] else P (x / 6)) else if cc = 1 then (if x % 6 = 0 then [] else P (x % 6)) else []
theorem Xn (P : Nat → List Int) {x : Nat} (hx : x < 36) {cc : Int} (h0 : 0 ≤ cc) (h1 : cc < 2) : ∃ i < 6, aZ (row x) cc = val i ∧ l6 P cc x = if i = 0 then [] else P i := by
  have : cc = 0 ∨ cc = 1 := by omega
  rcases this with rfl | rfl
  · exact ⟨x / 6, by omega, rfl, rfl⟩
  · exact ⟨x % 6, by omega, rfl, rfl⟩
theorem UD : ∀ i < 6, ((val i).f0 = 0 ↔ i = 0) := by decide +kernel
theorem Vb {P : Nat → List Int} {n1 n2 : ByteArray} {cc w d : Int}
    (hP : ∀ i < 6, (∀ k, 60 ≤ k → bB.f k n1 n2 cc 0 w d (val i).f0 (val i).f1 (val i).f2 = some (P i)) ∧ (P i).length ≤ 3 ∧ ∀ p ∈ P i, 0 ≤ p ∧ p < w * d)
    {i : Nat} (hi : i < 6) {n : Int} (hn0 : 1 ≤ n) (hn : n ≤ 1000) {c : List Int} {b : Nat → Int} (hc : (c.length : Int) = w * d) (hb : ∀ q, c.getD q 0 = b q) (hB : ∀ q, 0 ≤ b q ∧ b q ≤ 9000000) {k : Nat} (hk : 100 ≤ k) :
    ∃ c', bP.f k n1 n2 cc 0 w d c (val i).f0 (val i).f1 (val i).f2 n = some c' ∧ (c'.length : Int) = w * d ∧ ∀ q, c'.getD q 0 = b q + n * hit (if i = 0 then [] else P i) q := by
  obtain ⟨j, rfl⟩ : ∃ j, k = j + 1 := ⟨k - 1, by omega⟩
  unfold bP.f
  by_cases h0 : i = 0
  · rw [if_pos ((UD i hi).2 h0)]
    simp only [bP.j0]
    rw [if_pos trivial]
    refine ⟨c, rfl, hc, fun q => ?_⟩
    rw [if_pos h0, hb q, hit]
    omega
  · rw [if_neg (fun h => h0 ((UD i hi).1 h)), show (n == 0) = false from by simp; omega]
    simp only [bP.j0]
    obtain ⟨e, hl, hp⟩ := hP i hi
    rw [if_neg (by simp), if_neg (by decide), e j (by omega)]
    simp only [Option.bind_some]
    obtain ⟨c', e2, h1, h2⟩ := Wx (n1 := n1) (n2 := n2) (cc := cc) hp hl (by omega) hn (P i).length 0 j c b (by omega) (by omega) hc hb (fun q => ⟨(hB q).1, by have := (hB q).2; omega⟩)
    refine ⟨c', e2, h1, fun q => ?_⟩
    rw [h2 q, if_neg h0]
    rfl
theorem Hy {P : Nat → List Int} {n1 n2 : ByteArray} {cc w d : Int} (hc0 : 0 ≤ cc)
    (hP : ∀ i < 6, (∀ k, 60 ≤ k → bB.f k n1 n2 cc 0 w d (val i).f0 (val i).f1 (val i).f2 = some (P i)) ∧ (P i).length ≤ 3 ∧ ∀ p ∈ P i, 0 ≤ p ∧ p < w * d)
    {ys : List (Nat × Int)} (hb : Bnd 1 300 ys) (hl : ys.length < 100) :
    ∀ (m i k : Nat) (z : List Int) (b : Nat → Int), i + m = ys.length → m + 110 ≤ k → (z.length : Int) = w * d → (∀ q, z.getD q 0 = b q) → (∀ q, 0 ≤ b q ∧ b q ≤ 900 * i) →
      ∃ c', bF.l0 k z (ys.map E) (ys.length : Int) i n1 n2 cc 0 w d = some (c', 0) ∧ (c'.length : Int) = w * d ∧ ∀ q, c'.getD q 0 = b q + W (l6 P cc) (ys.drop i) q := by
  intro m
  induction m with
  | zero =>
    intro i k z b hi hk hz hzb hB
    obtain ⟨j, rfl⟩ : ∃ j, k = j + 1 := ⟨k - 1, by omega⟩
    simp only [bF.l0]
    rw [if_neg (by omega)]
    refine ⟨z, rfl, hz, fun q => ?_⟩
    rw [List.drop_eq_nil_of_le (by omega), W, hzb q]
    omega
  | succ m ih =>
    intro i k z b hi hk hz hzb hB
    obtain ⟨j, rfl⟩ : ∃ j, k = j + 1 := ⟨k - 1, by omega⟩
    have hlt : i < ys.length := by omega
    have bb := hb ys[i] (List.getElem_mem hlt)
    simp only [bF.l0, lE]
    rw [rdE ys i hlt]
    have hlen : ((E ys[i]).f0.length : Int) = 2 := rfl
    rw [hlen]
    have i1 : (i : Int) < (ys.length : Int) := by omega
    have i0 : (0 : Int) ≤ (i : Int) := by omega
    rw [if_pos i1, if_pos i0, if_pos i1]
    by_cases h : cc < 2
    · rw [if_pos h, if_pos hc0]
      obtain ⟨v, hv, ev, ep⟩ := Xn P bb.1 hc0 h
      rw [show aZ (E ys[i]).f0 cc = val v from ev]
      obtain ⟨c', e, h1, h2⟩ := Vb hP hv (n := ys[i].2) bb.2.1 (by omega) hz hzb (fun q => ⟨(hB q).1, by have := (hB q).2; omega⟩) (k := j) (by omega)
      rw [show (E ys[i]).f1 = ys[i].2 from rfl, e]
      simp only [Option.bind_some]
      rw [up1 i (by omega)]
      rw [← ep] at h2
      have hPl : (l6 P cc ys[i].1).length ≤ 3 := by
        rw [ep]
        split
        · simp
        · exact (hP v hv).2.1
      obtain ⟨c2, e2, h3, h4⟩ := ih (i + 1) j c' (fun q => b q + ys[i].2 * hit (l6 P cc ys[i].1) q) (by omega) (by omega) h1 h2 (fun q => by
        have g1 := Kr (l6 P cc ys[i].1) q
        have g2 := PK (l6 P cc ys[i].1) q
        have g3 := Int.mul_nonneg (show 0 ≤ ys[i].2 by omega) g1
        have g4 : ys[i].2 * hit (l6 P cc ys[i].1) q ≤ 300 * 3 := Int.mul_le_mul bb.2.2 (by omega) g1 (by omega)
        have := hB q
        show 0 ≤ b q + _ ∧ b q + _ ≤ _
        omega)
      refine ⟨c2, e2, h3, fun q => ?_⟩
      rw [h4 q, List.drop_eq_getElem_cons hlt, W]
      omega
    · rw [if_neg h, up1 i (by omega)]
      obtain ⟨c2, e2, h3, h4⟩ := ih (i + 1) j z b (by omega) (by omega) hz hzb (fun q => by have := hB q; omega)
      refine ⟨c2, e2, h3, fun q => ?_⟩
      rw [h4 q, List.drop_eq_getElem_cons hlt, W]
      have : l6 P cc ys[i].1 = [] := by unfold l6; rw [if_neg (by omega), if_neg (by omega)]
      rw [this, hit]
      omega
theorem Nu {P : Nat → List Int} {n1 n2 : ByteArray} {cc w d : Int} (hc0 : 0 ≤ cc) (hw : 1 ≤ w) (hw2 : w ≤ 64) (hd : 1 ≤ d) (hd2 : d ≤ 3)
    (hP : ∀ i < 6, (∀ k, 60 ≤ k → bB.f k n1 n2 cc 0 w d (val i).f0 (val i).f1 (val i).f2 = some (P i)) ∧ (P i).length ≤ 3 ∧ ∀ p ∈ P i, 0 ≤ p ∧ p < w * d)
    {ys : List (Nat × Int)} (ha : Asc ys) (hb : Bnd 1 300 ys) (hl : ys.length < 100) {k : Nat} (hk : 400 ≤ k) :
    ∃ c', bF.f k n1 n2 cc 0 w d (ys.map E) = some (c', 0) ∧ (c'.length : Int) = w * d ∧ ∀ q, c'.getD q 0 = W (l6 P cc) ys q := by
  obtain ⟨j, rfl⟩ : ∃ j, k = j + 1 := ⟨k - 1, by omega⟩
  have m1 : w * d ≤ 64 * 3 := Int.mul_le_mul hw2 hd2 (by omega) (by omega)
  have m0 : 0 ≤ w * d := Int.mul_nonneg (by omega) (by omega)
  obtain ⟨c', e1, h1, h2⟩ := Hy (n1 := n1) (n2 := n2) hc0 hP hb hl ys.length 0 j (List.replicate (w * d).toNat 0) (fun _ => 0) (by omega) (by omega) (by simp; omega)
    (fun q => by rw [List.getD_eq_getElem?_getD, List.getElem?_replicate]; split <;> rfl) (fun q => by simp)
  refine ⟨c', ?_, h1, fun q => by rw [h2 q]; simp⟩
  have hb' : Bnd 1 262144 ys := fun p hp => ⟨(hb p hp).1, (hb p hp).2.1, by have := (hb p hp).2.2; omega⟩
  unfold bF.f
  rw [vV (by omega) hw hw2 hd hd2 (fun h => absurd h (by decide)) (by omega)]
  simp only [Option.bind_some]
  rw [if_pos trivial, if_neg (by omega), Ja ha hb' (by omega) (by omega)]
  simp only [Option.bind_some, bF.j0, Bool.not_true]
  rw [if_neg (by decide)]
  unfold kQ.f
  rw [if_neg (by decide), wrap64_in _ (by omega), if_pos m0, if_pos (by omega)]
  simp only [Option.bind_some, lE]
  exact e1
theorem UU {xs ys : List (Nat × Int)} (hx : Asc xs) (hy : Asc ys) (bx : Bnd 1 60 xs) (bY : Bnd 1 60 ys) (lx : xs.length < 50) (ly : ys.length < 50) {k : Nat} (hk : 500 ≤ k) :
    gq.f k (xs.map E) (ys.map E) = some ((jG xs ys).map E, 0) := by
  obtain ⟨j, rfl⟩ : ∃ j, k = j + 1 := ⟨k - 1, by omega⟩
  have wide : ∀ {zs : List (Nat × Int)}, Bnd 1 60 zs → ∀ p ∈ zs, Wide p := fun h p hp => ⟨(h p hp).1, by have := (h p hp).2; omega, by have := (h p hp).2; omega⟩
  have big : ∀ {zs : List (Nat × Int)}, Bnd 1 60 zs → Bnd 1 262144 zs := fun h p hp => ⟨(h p hp).1, (h p hp).2.1, by have := (h p hp).2; omega⟩
  unfold gq.f
  rw [Vu hx (big bx) (by omega) (by omega)]
  simp only [Option.bind_some]
  rw [if_pos trivial, Vu hy (big bY) (by omega) (by omega)]
  simp only [Option.bind_some, gq.j0, Bool.not_true]
  rw [if_neg (by decide), Mw (wide bx) (wide bY) (by omega) (by omega) (by omega)]
  simp only [Option.bind_some]
  have hm := AZ xs ys bx bY (by decide) (by decide)
  have hl := AY xs ys
  rw [TN (fun p hp => ⟨(hm p hp).1, (hm p hp).2.1, by have := (hm p hp).2.2; omega⟩) (by omega) (by omega)]
  rfl
theorem Vf {n1 n2 : ByteArray} {cc w d : Int} (hw : 1 ≤ w) (hw2 : w ≤ 64) (hd : 1 ≤ d) (hd2 : d ≤ 3) {c : List Int} (hc : (c.length : Int) = w * d) (hb : ∀ q, 0 ≤ c.getD q 0 ∧ c.getD q 0 ≤ 1073741824) {k : Nat} (hk : 3 ≤ k) : bf.f k n1 n2 cc 0 w d c = some true := by
  have m1 : w * d ≤ 64 * 3 := Int.mul_le_mul hw2 hd2 (by omega) (by omega)
  have m0 : 0 ≤ w * d := Int.mul_nonneg (by omega) (by omega)
  unfold bf.f
  rw [vV (by omega) hw hw2 hd hd2 (fun h => absurd h (by decide)) hk]
  simp only [Option.bind_some]
  rw [if_pos trivial, if_neg (by decide), wrap64_in _ (by omega), decide_eq_true hc, if_neg (by decide)]
  have : c.any (bf.bad 1073741824) = false := by
    rw [List.any_eq_false]
    intro x hx
    obtain ⟨q, hq, rfl⟩ := List.getElem_of_mem hx
    have := hb q
    rw [List.getD_eq_getElem?_getD, List.getElem?_eq_getElem hq, Option.getD_some] at this
    unfold bf.bad
    rw [decide_eq_false (by omega), decide_eq_false (by omega)]
    decide
  simp [this]
theorem Ae {c c' : List Int} (hl : c.length = c'.length) (h : ∀ q, c.getD q 0 = c'.getD q 0) : c = c' := by
  refine List.ext_getElem hl fun i h1 h2 => ?_
  have := h i
  rw [List.getD_eq_getElem?_getD, List.getD_eq_getElem?_getD, List.getElem?_eq_getElem h1, List.getElem?_eq_getElem h2] at this
  exact this
def oJ (w : Int) (S : Int → Prop) (c : List Int) : Prop := c.Pairwise (· < ·) ∧ (∀ x ∈ c, S x) ∧ (c.length : Int) ≤ w ∧ ∀ x, S x → x ∉ c → (c.length : Int) = w ∧ ∀ y ∈ c, y < x
theorem Ru : ∀ (a b : List Int), a.Pairwise (· ≠ ·) → (∀ x ∈ a, x ∈ b) → a.length ≤ b.length
  | [], b, _, _ => Nat.zero_le _
  | x :: t, b, h, hs => by
    rw [List.pairwise_cons] at h
    have hx : x ∈ b := hs x (by simp)
    have := Ru t (b.erase x) h.2 (fun y hy => (List.mem_erase_of_ne (fun e => h.1 y hy e.symm)).2 (hs y (by simp [hy])))
    rw [List.length_erase_of_mem hx] at this
    have := List.length_pos_of_mem hx
    simp only [List.length_cons]
    omega
theorem VF {c : List Int} (h : c.Pairwise (· < ·)) : c.Pairwise (· ≠ ·) := h.imp (fun h => by omega)
theorem I4 : ∀ {a b : List Int}, a.Pairwise (· < ·) → b.Pairwise (· < ·) → (∀ x, x ∈ a ↔ x ∈ b) → a = b
  | [], [], _, _, _ => rfl
  | [], y :: s, _, _, h => by have := (h y).2 (by simp); simp at this
  | x :: t, [], _, _, h => by have := (h x).1 (by simp); simp at this
  | x :: t, y :: s, ha, hb, h => by
    rw [List.pairwise_cons] at ha hb
    have h1 := (h x).1 (by simp)
    have h2 := (h y).2 (by simp)
    have e : x = y := by
      rcases List.mem_cons.1 h1 with h1 | h1
      · exact h1
      · rcases List.mem_cons.1 h2 with h2 | h2
        · exact h2.symm
        · have := hb.1 x h1; have := ha.1 y h2; omega
    subst e
    rw [I4 ha.2 hb.2 (fun z => ⟨fun hz => by
      have := (h z).1 (by simp [hz])
      rcases List.mem_cons.1 this with e | e
      · have := ha.1 z hz; omega
      · exact e, fun hz => by
      have := (h z).2 (by simp [hz])
      rcases List.mem_cons.1 this with e | e
      · have := hb.1 z hz; omega
      · exact e⟩)]
theorem Jd {w : Int} {S : Int → Prop} {c c' : List Int} (h : oJ w S c) (h' : oJ w S c') : ∀ x ∈ c, x ∈ c' := by
  intro x hx
  by_cases hc : x ∈ c'
  · exact hc
  exfalso
  obtain ⟨h1, h2⟩ := h'.2.2.2 x (h.2.1 x hx) hc
  have hsub : ∀ y ∈ c', y ∈ c := by
    intro y hy
    by_cases hyc : y ∈ c
    · exact hyc
    · have := (h.2.2.2 y (h'.2.1 y hy) hyc).2 x hx
      have := h2 y hy
      omega
  have := Ru (x :: c') c (List.pairwise_cons.2 ⟨fun y hy => by have := h2 y hy; omega, VF h'.1⟩) (fun y hy => by
    rcases List.mem_cons.1 hy with rfl | hy
    · exact hx
    · exact hsub y hy)
  have := h.2.2.1
  simp only [List.length_cons] at *
  omega
theorem VH {w : Int} {S : Int → Prop} {c c' : List Int} (h : oJ w S c) (h' : oJ w S c') : c = c' := I4 h.1 h'.1 (fun x => ⟨Jd h h' x, Jd h' h x⟩)
theorem tZ {w : Int} {S S' : Int → Prop} {c : List Int} (h : oJ w S c) (e : ∀ x, S x ↔ S' x) : oJ w S' c := ⟨h.1, fun x hx => (e x).1 (h.2.1 x hx), h.2.2.1, fun x hx hn => h.2.2.2 x ((e x).2 hx) hn⟩
theorem GH {w : Int} {S1 : Int → Prop} {x p : List Int} {U : Int → Prop} (h1 : oJ w S1 x) (hU : ∀ z ∈ x, U z) (hp : oJ w U p) (z : Int) (hz : S1 z) (hn : z ∉ p) : (p.length : Int) = w ∧ ∀ y ∈ p, y < z := by
  by_cases hzx : z ∈ x
  · exact hp.2.2.2 z (hU z hzx) hn
  obtain ⟨a1, a2⟩ := h1.2.2.2 z hz hzx
  by_cases hall : ∀ u ∈ x, u ∈ p
  · have l1 := Ru x p (VF h1.1) hall
    have l2 := hp.2.2.1
    refine ⟨by omega, fun y hy => ?_⟩
    by_cases hyx : y ∈ x
    · exact a2 y hyx
    · exfalso
      have := Ru (y :: x) p (List.pairwise_cons.2 ⟨fun u hu e => hyx (e ▸ hu), VF h1.1⟩) (fun u hu => by
        rcases List.mem_cons.1 hu with rfl | hu
        · exact hy
        · exact hall u hu)
      simp only [List.length_cons] at this
      omega
  · obtain ⟨u, hu⟩ := Classical.not_forall.1 hall
    obtain ⟨hux, hup⟩ := Classical.not_imp.1 hu
    obtain ⟨b1, b2⟩ := hp.2.2.2 u (hU u hux) hup
    exact ⟨b1, fun y hy => by have := b2 y hy; have := a2 u hux; omega⟩
theorem Et {w : Int} {S1 S2 : Int → Prop} {x y p : List Int} (h1 : oJ w S1 x) (h2 : oJ w S2 y) (hp : oJ w (fun z => z ∈ x ++ y) p) : oJ w (fun z => S1 z ∨ S2 z) p := by
  refine ⟨hp.1, fun z hz => ?_, hp.2.2.1, fun z hz hn => ?_⟩
  · rcases List.mem_append.1 (hp.2.1 z hz) with h | h
    · exact .inl (h1.2.1 z h)
    · exact .inr (h2.2.1 z h)
  · rcases hz with hz | hz
    · exact GH h1 (fun u hu => List.mem_append_left _ hu) hp z hz hn
    · exact GH h2 (fun u hu => List.mem_append_right _ hu) hp z hz hn
theorem Ey {zs : List Int} : ∀ (j : Nat) (h : j < zs.length), zs[j] ∈ Lib.compact zs
  | j, h => by
    by_cases hk : Lib.keeps zs.toArray j = true
    · unfold Lib.compact Lib.compactUpTo
      exact List.mem_map.2 ⟨j, List.mem_filter.2 ⟨List.mem_range.2 h, hk⟩, by simp [h]⟩
    · have e1 : zs.toArray[j]! = zs[j] := by simp [h]
      have e2 : zs.toArray[j - 1]! = zs[j - 1]'(by omega) := by simp [show j - 1 < zs.length by omega]
      unfold Lib.keeps at hk
      rw [e1, e2] at hk
      simp at hk
      obtain ⟨h0, h1⟩ := hk
      have h2 : zs[j] = zs[j - 1]'(by omega) := by first | exact h1 | exact h1.symm
      rw [h2]
      exact Ey (j - 1) (by omega)
theorem AL {c : List Int} {w : Int} (hl : c.length < 1000000) (hw : 0 ≤ w) (hw2 : w ≤ 1000000) : ∃ r, jc.f c w = some r ∧ oJ w (fun z => z ∈ c) r := by
  unfold jc.f jl.f iN.f
  rw [if_pos (by omega)]
  simp only [Option.bind_some]
  have hs : (c.mergeSort fun x y => decide (x ≤ y)).Pairwise (· ≤ ·) := by
    have := List.pairwise_mergeSort (le := fun x y : Int => decide (x ≤ y)) (fun a b c h1 h2 => by simp at *; omega) (fun a b => by simp; omega) c
    exact this.imp (fun h => by simpa using h)
  generalize ht : Lib.compact (c.mergeSort fun x y => decide (x ≤ y)) = t
  have h1 : t.Pairwise (· < ·) := ht ▸ Qy hs
  have h2 : ∀ x ∈ t, x ∈ c := fun x hx => List.mem_mergeSort.1 (Nv (ht ▸ hx))
  have h3 : ∀ x ∈ c, x ∈ t := fun x hx => by
    obtain ⟨j, hj, rfl⟩ := List.getElem_of_mem (List.mem_mergeSort (le := fun x y : Int => decide (x ≤ y)).2 hx)
    exact ht ▸ Ey j hj
  have hm : 0 ≤ mn (t.length : Int) w ∧ mn (t.length : Int) w ≤ t.length ∧ mn (t.length : Int) w ≤ w ∧ (mn (t.length : Int) w = t.length ∨ mn (t.length : Int) w = w) := by
    unfold mn
    split <;> omega
  rw [if_pos hm.1, if_pos hm.2.1]
  refine ⟨_, rfl, h1.sublist (List.take_sublist _ _), fun x hx => h2 x (List.mem_of_mem_take hx), by rw [List.length_take]; omega, fun x hx hn => ?_⟩
  obtain ⟨j, hj, rfl⟩ := List.getElem_of_mem (h3 x hx)
  have hjm : (mn (t.length : Int) w).toNat ≤ j := by
    refine Nat.le_of_not_lt fun hlt => hn ?_
    rw [List.mem_take_iff_getElem]
    exact ⟨j, by omega, rfl⟩
  refine ⟨by rw [List.length_take]; omega, fun y hy => ?_⟩
  rw [List.mem_take_iff_getElem] at hy
  obtain ⟨i, hi, rfl⟩ := hy
  exact List.pairwise_iff_getElem.1 h1 i j (by omega) hj (by omega)
def bl (z : Int) : Int := if 0 < z then 1 else 0
theorem bl_pos {z : Int} (h : 0 < z) : bl z = 1 := if_pos h
theorem bl_01 (z : Int) : bl z = 0 ∨ bl z = 1 := by unfold bl; split <;> simp
theorem Vi {w d : Int} {n1 n2 : ByteArray} {cc n x3 : Int} {ps : List Int} (hp : ∀ p ∈ ps, 0 ≤ p ∧ p < w * d) (hpl : ps.length ≤ 3) (hn0 : 1 ≤ n) :
    ∀ (m i k : Nat) (c : List Int) (b : Nat → Int), i + m = ps.length → m + 2 ≤ k → (c.length : Int) = w * d → (∀ q, c.getD q 0 = bl (b q)) → (∀ q, 0 ≤ b q) →
      ∃ c', bP.l0 k c x3 ps (ps.length : Int) i n1 n2 cc 1 w d = some c' ∧ (c'.length : Int) = w * d ∧ ∀ q, c'.getD q 0 = bl (b q + n * hit (ps.drop i) q) := by
  intro m
  induction m with
  | zero =>
    intro i k c b hi hk hc hb hB
    obtain ⟨j, rfl⟩ : ∃ j, k = j + 1 := ⟨k - 1, by omega⟩
    simp only [bP.l0]
    rw [if_neg (by omega)]
    refine ⟨c, rfl, hc, fun q => ?_⟩
    rw [List.drop_eq_nil_of_le (by omega), hb q, hit, Int.mul_zero, Int.add_zero]
  | succ m ih =>
    intro i k c b hi hk hc hb hB
    obtain ⟨j, rfl⟩ : ∃ j, k = j + 1 := ⟨k - 1, by omega⟩
    have hlt : i < ps.length := by omega
    have hr : rd ps i = ps[i] := by simp [rd, List.getD_eq_getElem?_getD, hlt]
    have hbp := hp ps[i] (List.getElem_mem hlt)
    simp only [bP.l0]
    rw [if_pos (by omega), if_pos (by omega), if_pos (by omega), if_pos trivial, hr, if_pos hbp.1, if_pos (by rw [hc]; exact hbp.2), up1 i (by omega)]
    obtain ⟨c', e, h1, h2⟩ := ih (i + 1) j (c.set ps[i].toNat 1) (fun q => if ps[i].toNat = q then b ps[i].toNat + n else b q) (by omega) (by omega) (by rw [List.length_set]; exact hc)
      (fun q => by rw [Hr _ _ _ _ (by omega)]; split
                   · exact (bl_pos (by have := hB ps[i].toNat; omega)).symm
                   · exact hb q)
      (fun q => by
        have := hB q
        have := hB ps[i].toNat
        by_cases h : ps[i].toNat = q
        · simp only [if_pos h]; omega
        · simp only [if_neg h]; omega)
    refine ⟨c', e, h1, fun q => ?_⟩
    rw [h2 q, List.drop_eq_getElem_cons hlt, hit, Int.mul_add]
    by_cases h : ps[i].toNat = q
    · simp only [if_pos h]; rw [← h]; congr 1; omega
    · simp only [if_neg h]; congr 1; omega
theorem Vj {P : Nat → List Int} {n1 n2 : ByteArray} {cc w d : Int}
    (hP : ∀ i < 6, (∀ k, 60 ≤ k → bB.f k n1 n2 cc 1 w d (val i).f0 (val i).f1 (val i).f2 = some (P i)) ∧ (P i).length ≤ 3 ∧ ∀ p ∈ P i, 0 ≤ p ∧ p < w * d)
    {i : Nat} (hi : i < 6) {n : Int} (hn0 : 1 ≤ n) {c : List Int} {b : Nat → Int} (hc : (c.length : Int) = w * d) (hb : ∀ q, c.getD q 0 = bl (b q)) (hB : ∀ q, 0 ≤ b q) {k : Nat} (hk : 100 ≤ k) :
    ∃ c', bP.f k n1 n2 cc 1 w d c (val i).f0 (val i).f1 (val i).f2 n = some c' ∧ (c'.length : Int) = w * d ∧ ∀ q, c'.getD q 0 = bl (b q + n * hit (if i = 0 then [] else P i) q) := by
  obtain ⟨j, rfl⟩ : ∃ j, k = j + 1 := ⟨k - 1, by omega⟩
  unfold bP.f
  by_cases h0 : i = 0
  · rw [if_pos ((UD i hi).2 h0)]
    simp only [bP.j0]
    rw [if_pos trivial]
    refine ⟨c, rfl, hc, fun q => ?_⟩
    rw [if_pos h0, hb q, hit, Int.mul_zero, Int.add_zero]
  · rw [if_neg (fun h => h0 ((UD i hi).1 h)), show (n == 0) = false from by simp; omega]
    simp only [bP.j0]
    obtain ⟨e, hl, hp⟩ := hP i hi
    rw [if_neg (by simp), if_neg (by decide), e j (by omega)]
    simp only [Option.bind_some]
    obtain ⟨c', e2, h1, h2⟩ := Vi (n1 := n1) (n2 := n2) (cc := cc) (x3 := n) hp hl hn0 (P i).length 0 j c b (by omega) (by omega) hc hb hB
    refine ⟨c', e2, h1, fun q => ?_⟩
    rw [h2 q, if_neg h0]
    rfl
theorem aao : ∃ H : Nat → Int, ∀ i < 6, (∀ k, 40 ≤ k → ∃ h, dD.f k (val i).f0 (val i).f1 (val i).f2 0 = some h ∧ wrap64 (IntKind.u64.wrap (Int.tdiv h 4)) = H i) ∧ 0 ≤ H i ∧ H i < 4611686018427387904 := by
  have h : ∀ i, i < 6 → ∃ z : Int, (∃ h, dD.f 40 (val i).f0 (val i).f1 (val i).f2 0 = some h ∧ wrap64 (IntKind.u64.wrap (Int.tdiv h 4)) = z) ∧ 0 ≤ z ∧ z < 4611686018427387904 := fun i hi => by
    obtain ⟨h, e, h1, h2⟩ := TM hi (r := 0) (by omega) (k := 40) (by omega)
    refine ⟨h / 4, ⟨h, e, ?_⟩, by omega, by omega⟩
    rw [Int.tdiv_eq_ediv_of_nonneg h1, u64w, Int.emod_eq_of_lt (by omega) (by omega), wrap64_in _ (by omega)]
  refine ⟨fun i => if hi : i < 6 then Classical.choose (h i hi) else 0, fun i hi => ?_⟩
  simp only [dif_pos hi]
  obtain ⟨⟨z, h1, h2⟩, h3⟩ := Classical.choose_spec (h i hi)
  exact ⟨fun k hk => ⟨z, up (f := fun k => dD.f k (val i).f0 (val i).f1 (val i).f2 0) (dD.mono _ _ _ _) h1 hk, h2⟩, h3⟩
def HS (H : Nat → Int) (cc : Int) (ys : List (Nat × Int)) (x : Int) : Prop := 0 < W (fun r => if x ∈ l6 (fun i => [H i]) cc r then [0] else []) ys 0
theorem aaB {H : Nat → Int} {cc b : Int} {p : Nat × Int} {r : List (Nat × Int)} (hp : 1 ≤ p.2) (hr : Bnd 1 b r) (x : Int) : HS H cc (p :: r) x ↔ x ∈ l6 (fun i => [H i]) cc p.1 ∨ HS H cc r x := by
  have := Lu (PP := fun r => if x ∈ l6 (fun i => [H i]) cc r then [0] else []) r hr 0
  unfold HS
  rw [W]
  by_cases h : x ∈ l6 (fun i => [H i]) cc p.1
  · simp only [if_pos h, hit]
    simp
    constructor
    · intro _; exact .inl h
    · intro _; omega
  · simp only [if_neg h, hit]
    simp [h]
theorem LD (H : Nat → Int) (cc : Int) {b c : Int} {xs ys : List (Nat × Int)} (hx : Bnd 1 b xs) (hy : Bnd 1 c ys) (x : Int) : HS H cc (jG xs ys) x ↔ HS H cc xs x ∨ HS H cc ys x := by
  unfold HS
  rw [Ag]
  have h1 := Lu (PP := fun r => if x ∈ l6 (fun i => [H i]) cc r then [0] else []) xs hx 0
  have h2 := Lu (PP := fun r => if x ∈ l6 (fun i => [H i]) cc r then [0] else []) ys hy 0
  omega
theorem U5 {w : Int} (hw : 1 ≤ w) (h : Int) : oJ w (fun z => z = h) [h] := by
  refine ⟨by simp, by simp, by simpa using hw, ?_⟩
  rintro x rfl hn
  simp at hn
theorem aap {H : Nat → Int} {n1 n2 : ByteArray} {cc w d : Int} (hw : 1 ≤ w) (hw2 : w ≤ 64)
    (hH : ∀ i < 6, (∀ k, 40 ≤ k → ∃ h, dD.f k (val i).f0 (val i).f1 (val i).f2 0 = some h ∧ wrap64 (IntKind.u64.wrap (Int.tdiv h 4)) = H i) ∧ 0 ≤ H i ∧ H i < 4611686018427387904)
    {i : Nat} (hi : i < 6) {n : Int} (hn0 : 1 ≤ n) {c : List Int} {S : Int → Prop} (hc : oJ w S c) {k : Nat} (hk : 100 ≤ k) :
    ∃ c', bP.f k n1 n2 cc 2 w d c (val i).f0 (val i).f1 (val i).f2 n = some c' ∧ oJ w (fun z => S z ∨ z ∈ (if i = 0 then [] else [H i])) c' := by
  obtain ⟨j, rfl⟩ : ∃ j, k = j + 1 := ⟨k - 1, by omega⟩
  unfold bP.f
  by_cases h0 : i = 0
  · rw [if_pos ((UD i hi).2 h0)]
    simp only [bP.j0]
    rw [if_pos trivial]
    exact ⟨c, rfl, tZ hc (fun z => by simp [h0])⟩
  · rw [if_neg (fun h => h0 ((UD i hi).1 h)), show (n == 0) = false from by simp; omega]
    simp only [bP.j0]
    obtain ⟨h, e, e2⟩ := (hH i hi).1 j (by omega)
    have hl := hc.2.2.1
    obtain ⟨r, e3, hr⟩ := AL (c := c ++ [H i]) (w := w) (by simp; omega) (by omega) (by omega)
    rw [if_neg (by simp), if_pos trivial, e]
    simp only [Option.bind_some]
    rw [if_pos (by omega), e2, e3]
    refine ⟨r, rfl, tZ (Et hc (U5 hw (H i)) hr) (fun z => by simp [h0])⟩
def Spec (P : Nat → List Int) (H : Nat → Int) (cc kd w d : Int) (ys : List (Nat × Int)) (c : List Int) : Prop :=
  (kd = 0 ∧ (c.length : Int) = w * d ∧ ∀ q, c.getD q 0 = W (l6 P cc) ys q) ∨ (kd = 1 ∧ (c.length : Int) = w * d ∧ ∀ q, c.getD q 0 = bl (W (l6 P cc) ys q)) ∨ (kd = 2 ∧ oJ w (HS H cc ys) c)
theorem Rs {P : Nat → List Int} {H : Nat → Int} {cc kd w d : Int} {ys : List (Nat × Int)} {c c' : List Int} (h : Spec P H cc kd w d ys c) (h' : Spec P H cc kd w d ys c') : c = c' := by
  rcases h with ⟨rfl, h1, h2⟩ | ⟨rfl, h1, h2⟩ | ⟨rfl, h1⟩ <;> rcases h' with ⟨h0, h3, h4⟩ | ⟨h0, h3, h4⟩ | ⟨h0, h3⟩ <;> first | (exfalso; omega) | skip
  · exact Ae (by omega) (fun q => by rw [h2, h4])
  · exact Ae (by omega) (fun q => by rw [h2, h4])
  · exact VH h1 h3
theorem aax (H : Nat → Int) (P : Nat → List Int) {x : Nat} (hx : x < 36) {cc : Int} (h0 : 0 ≤ cc) (h1 : cc < 2) : ∃ i < 6, aZ (row x) cc = val i ∧ l6 P cc x = (if i = 0 then [] else P i) ∧ l6 (fun i => [H i]) cc x = if i = 0 then [] else [H i] := by
  have : cc = 0 ∨ cc = 1 := by omega
  rcases this with rfl | rfl
  · exact ⟨x / 6, by omega, rfl, rfl, rfl⟩
  · exact ⟨x % 6, by omega, rfl, rfl, rfl⟩
theorem Dm {n1 n2 : ByteArray} {cc kd w d : Int} (hc0 : 0 ≤ cc) (G : List (Nat × Int) → List Int → Prop) {ys : List (Nat × Int)} (hl : ys.length < 100)
    (hadd : ∀ (i : Nat) (hi : i < ys.length) (z : List Int) (k : Nat), 100 ≤ k → G (ys.take i) z → if cc < 2 then ∃ v < 6, aZ (row ys[i].1) cc = val v ∧ ∃ c', bP.f k n1 n2 cc kd w d z (val v).f0 (val v).f1 (val v).f2 ys[i].2 = some c' ∧ G (ys.take (i + 1)) c' else G (ys.take (i + 1)) z) :
    ∀ (m i k : Nat) (z : List Int), i + m = ys.length → m + 110 ≤ k → G (ys.take i) z →
      ∃ c', bF.l0 k z (ys.map E) (ys.length : Int) i n1 n2 cc kd w d = some (c', 0) ∧ G ys c' := by
  intro m
  induction m with
  | zero =>
    intro i k z hi hk hz
    obtain ⟨j, rfl⟩ : ∃ j, k = j + 1 := ⟨k - 1, by omega⟩
    simp only [bF.l0]
    rw [if_neg (by omega)]
    rw [List.take_of_length_le (by omega)] at hz
    exact ⟨z, rfl, hz⟩
  | succ m ih =>
    intro i k z hi hk hz
    obtain ⟨j, rfl⟩ : ∃ j, k = j + 1 := ⟨k - 1, by omega⟩
    have hlt : i < ys.length := by omega
    have ha := hadd i hlt z j (by omega) hz
    simp only [bF.l0, lE]
    rw [rdE ys i hlt]
    have hlen : ((E ys[i]).f0.length : Int) = 2 := rfl
    rw [hlen]
    have i1 : (i : Int) < (ys.length : Int) := by omega
    have i0 : (0 : Int) ≤ (i : Int) := by omega
    rw [if_pos i1, if_pos i0, if_pos i1]
    by_cases h : cc < 2
    · rw [if_pos h] at ha
      obtain ⟨v, hv, ev, c', e, h1⟩ := ha
      rw [if_pos h, if_pos hc0, show aZ (E ys[i]).f0 cc = val v from ev, show (E ys[i]).f1 = ys[i].2 from rfl, e]
      simp only [Option.bind_some]
      rw [up1 i (by omega)]
      exact ih (i + 1) j c' (by omega) (by omega) h1
    · rw [if_neg h] at ha
      rw [if_neg h, up1 i (by omega)]
      exact ih (i + 1) j z (by omega) (by omega) ha
def HP (P : Nat → List Int) (n1 n2 : ByteArray) (cc kd w d : Int) : Prop := ∀ i < 6, (∀ k, 60 ≤ k → bB.f k n1 n2 cc kd w d (val i).f0 (val i).f1 (val i).f2 = some (P i)) ∧ (P i).length ≤ 3 ∧ ∀ p ∈ P i, 0 ≤ p ∧ p < w * d
def HH (H : Nat → Int) : Prop := ∀ i < 6, (∀ k, 40 ≤ k → ∃ h, dD.f k (val i).f0 (val i).f1 (val i).f2 0 = some h ∧ wrap64 (IntKind.u64.wrap (Int.tdiv h 4)) = H i) ∧ 0 ≤ H i ∧ H i < 4611686018427387904
theorem Xe (PP : Nat → List Int) (q : Nat) (x : Nat × Int) : ∀ (a : List (Nat × Int)), W PP (a ++ [x]) q = W PP a q + x.2 * hit (PP x.1) q
  | [] => by simp [W]
  | y :: r => by
    rw [List.cons_append, W, W, Xe PP q x r]
    omega
theorem NP {a b : Int} {ys : List (Nat × Int)} (h : Bnd a b ys) (i : Nat) : Bnd a b (ys.take i) := fun p hp => h p (List.mem_of_mem_take hp)
theorem HS_app {H : Nat → Int} {cc b : Int} {p : Nat × Int} {a : List (Nat × Int)} (hp : 1 ≤ p.2) (ha : Bnd 1 b a) (x : Int) : HS H cc (a ++ [p]) x ↔ HS H cc a x ∨ x ∈ l6 (fun i => [H i]) cc p.1 := by
  have := Lu (PP := fun r => if x ∈ l6 (fun i => [H i]) cc r then [0] else []) a ha 0
  unfold HS
  rw [Xe]
  by_cases h : x ∈ l6 (fun i => [H i]) cc p.1
  · simp only [if_pos h, hit]
    simp
    constructor
    · intro _; exact .inr h
    · intro _; omega
  · simp only [if_neg h, hit]
    simp [h]
theorem Xm (P : Nat → List Int) {cc : Int} (_ : 0 ≤ cc) (h : ¬ cc < 2) (x : Nat) : l6 P cc x = [] := by unfold l6; rw [if_neg (by omega), if_neg (by omega)]
theorem Af {P : Nat → List Int} {H : Nat → Int} {n1 n2 : ByteArray} {cc kd w d : Int} (hkd : kd = 0 ∨ kd = 1 ∨ kd = 2) (hc0 : 0 ≤ cc) (hw : 1 ≤ w) (hw2 : w ≤ 64) (hd : 1 ≤ d) (hd2 : d ≤ 3) (h2 : kd = 2 → d = 1)
    (hP : HP P n1 n2 cc kd w d) (hH : HH H) {ys : List (Nat × Int)} (ha : Asc ys) (hb : Bnd 1 300 ys) (hl : ys.length < 100) {k : Nat} (hk : 400 ≤ k) :
    ∃ c', bF.f k n1 n2 cc kd w d (ys.map E) = some (c', 0) ∧ Spec P H cc kd w d ys c' := by
  by_cases hk0 : kd = 0
  · subst hk0
    obtain ⟨c', e, h1, h3⟩ := Nu (n1 := n1) (n2 := n2) hc0 hw hw2 hd hd2 hP ha hb hl hk
    exact ⟨c', e, .inl ⟨rfl, h1, h3⟩⟩
  obtain ⟨j, rfl⟩ : ∃ j, k = j + 1 := ⟨k - 1, by omega⟩
  have m1 : w * d ≤ 64 * 3 := Int.mul_le_mul hw2 hd2 (by omega) (by omega)
  have m0 : 0 ≤ w * d := Int.mul_nonneg (by omega) (by omega)
  have hb' : Bnd 1 262144 ys := fun p hp => ⟨(hb p hp).1, (hb p hp).2.1, by have := (hb p hp).2.2; omega⟩
  have key : ∀ z c', kQ.f n1 n2 cc kd w d = some z → bF.l0 j z (ys.map E) (ys.length : Int) 0 n1 n2 cc kd w d = some (c', 0) → bF.f (j + 1) n1 n2 cc kd w d (ys.map E) = some (c', 0) := by
    intro z c' ez e
    unfold bF.f
    rw [vV hkd hw hw2 hd hd2 h2 (by omega)]
    simp only [Option.bind_some]
    rw [if_pos trivial, if_neg (by omega), Ja ha hb' (by omega) (by omega)]
    simp only [Option.bind_some, bF.j0, Bool.not_true]
    rw [if_neg (by decide), ez]
    simp only [Option.bind_some, lE]
    exact e
  by_cases hk1 : kd = 1
  · subst hk1
    have hadd : ∀ (i : Nat) (hi : i < ys.length) (z : List Int) (k : Nat), 100 ≤ k → ((z.length : Int) = w * d ∧ ∀ q, z.getD q 0 = bl (W (l6 P cc) (ys.take i) q)) → if cc < 2 then ∃ v < 6, aZ (row ys[i].1) cc = val v ∧ ∃ c', bP.f k n1 n2 cc 1 w d z (val v).f0 (val v).f1 (val v).f2 ys[i].2 = some c' ∧ ((c'.length : Int) = w * d ∧ ∀ q, c'.getD q 0 = bl (W (l6 P cc) (ys.take (i + 1)) q)) else ((z.length : Int) = w * d ∧ ∀ q, z.getD q 0 = bl (W (l6 P cc) (ys.take (i + 1)) q)) := by
      intro i hi z k hk hz
      have bb := hb ys[i] (List.getElem_mem hi)
      have ht : ∀ q, W (l6 P cc) (ys.take (i + 1)) q = W (l6 P cc) (ys.take i) q + ys[i].2 * hit (l6 P cc ys[i].1) q := fun q => by rw [List.take_succ_eq_append_getElem hi, Xe]
      split
      · rename_i h
        obtain ⟨v, hv, ev, ep⟩ := Xn P bb.1 hc0 h
        obtain ⟨c', e, h1, h3⟩ := Vj hP hv (n := ys[i].2) bb.2.1 hz.1 hz.2 (fun q => Lu (PP := l6 P cc) _ (NP hb i) q) hk
        exact ⟨v, hv, ev, c', e, h1, fun q => by rw [h3 q, ht q, ep]⟩
      · rename_i h
        exact ⟨hz.1, fun q => by rw [hz.2 q, ht q, Xm P hc0 h, hit, Int.mul_zero, Int.add_zero]⟩
    obtain ⟨c', e, h1, h3⟩ := Dm (n1 := n1) (n2 := n2) (kd := 1) (w := w) (d := d) hc0 (fun l z => (z.length : Int) = w * d ∧ ∀ q, z.getD q 0 = bl (W (l6 P cc) l q)) hl hadd ys.length 0 j (List.replicate (w * d).toNat 0) (by omega) (by omega)
      ⟨by simp; omega, fun q => by rw [List.getD_eq_getElem?_getD, List.getElem?_replicate, List.take_zero, W]; split <;> rfl⟩
    refine ⟨c', key _ c' ?_ e, .inr (.inl ⟨rfl, h1, h3⟩)⟩
    unfold kQ.f
    rw [if_neg (by decide), wrap64_in _ (by omega), if_pos m0, if_pos (by omega)]
  · obtain rfl : kd = 2 := by omega
    have hadd : ∀ (i : Nat) (hi : i < ys.length) (z : List Int) (k : Nat), 100 ≤ k → oJ w (HS H cc (ys.take i)) z → if cc < 2 then ∃ v < 6, aZ (row ys[i].1) cc = val v ∧ ∃ c', bP.f k n1 n2 cc 2 w d z (val v).f0 (val v).f1 (val v).f2 ys[i].2 = some c' ∧ oJ w (HS H cc (ys.take (i + 1))) c' else oJ w (HS H cc (ys.take (i + 1))) z := by
      intro i hi z k hk hz
      have bb := hb ys[i] (List.getElem_mem hi)
      have ht : ∀ x, HS H cc (ys.take (i + 1)) x ↔ HS H cc (ys.take i) x ∨ x ∈ l6 (fun i => [H i]) cc ys[i].1 := fun x => by rw [List.take_succ_eq_append_getElem hi]; exact HS_app bb.2.1 (NP hb i) x
      split
      · rename_i h
        obtain ⟨v, hv, ev, _, ep⟩ := aax H P bb.1 hc0 h
        obtain ⟨c', e, h1⟩ := aap (n1 := n1) (n2 := n2) (cc := cc) (d := d) hw hw2 hH hv (n := ys[i].2) bb.2.1 hz hk
        exact ⟨v, hv, ev, c', e, tZ h1 (fun x => by rw [ht x, ep])⟩
      · rename_i h
        exact tZ hz (fun x => by rw [ht x, Xm _ hc0 h]; simp)
    obtain ⟨c', e, h1⟩ := Dm (n1 := n1) (n2 := n2) (kd := 2) (w := w) (d := d) hc0 (fun l z => oJ w (HS H cc l) z) hl hadd ys.length 0 j [] (by omega) (by omega)
      ⟨List.Pairwise.nil, by simp, by simp; omega, fun x hx => by simp [HS, W] at hx⟩
    refine ⟨c', key _ c' ?_ e, .inr (.inr ⟨rfl, h1⟩)⟩
    unfold kQ.f
    rw [if_pos rfl]
theorem Xl {H : Nat → Int} {cc : Int} {r : Nat} (hr : r < 36) {x : Int} (h : x ∈ l6 (fun i => [H i]) cc r) : ∃ i < 6, x = H i := by
  unfold l6 at h
  split at h
  · split at h
    · simp at h
    · exact ⟨r / 6, by omega, by simpa using h⟩
  · split at h
    · split at h
      · simp at h
      · exact ⟨r % 6, by omega, by simpa using h⟩
    · simp at h
theorem NW {H : Nat → Int} (hH : HH H) {cc b : Int} : ∀ {ys : List (Nat × Int)}, Bnd 1 b ys → ∀ {x : Int}, HS H cc ys x → 0 ≤ x ∧ x < 4611686018427387904
  | [], _, x, h => by simp [HS, W] at h
  | p :: r, hb, x, h => by
    have hp := hb p (by simp)
    have hr : Bnd 1 b r := fun q hq => hb q (by simp [hq])
    rcases (aaB hp.2.1 hr x).1 h with h | h
    · obtain ⟨i, hi, rfl⟩ := Xl hp.1 h
      exact (hH i hi).2
    · exact NW hH hr h
theorem Iq {P : Nat → List Int} {n1 n2 : ByteArray} {cc kd w d : Int} (hP : HP P n1 n2 cc kd w d) : ∀ x < 36, (l6 P cc x).length ≤ 3 := by
  intro x hx
  unfold l6
  split
  · split
    · simp
    · exact (hP (x / 6) (by omega)).2.1
  · split
    · split
      · simp
      · exact (hP (x % 6) (by omega)).2.1
    · simp
theorem wG {P : Nat → List Int} {H : Nat → Int} {n1 n2 : ByteArray} {cc kd w d : Int} (hw : 1 ≤ w) (hw2 : w ≤ 64) (hd : 1 ≤ d) (hd2 : d ≤ 3) (h2 : kd = 2 → d = 1)
    (hP : HP P n1 n2 cc kd w d) (hH : HH H) {ys : List (Nat × Int)} (hb : Bnd 1 300 ys) (hl : ys.length < 100) {c : List Int} (hc : Spec P H cc kd w d ys c) {k : Nat} (hk : 3 ≤ k) : bf.f k n1 n2 cc kd w d c = some true ∧ c.length < 300 := by
  have m1 : w * d ≤ 64 * 3 := Int.mul_le_mul hw2 hd2 (by omega) (by omega)
  rcases hc with ⟨rfl, h3, h4⟩ | ⟨rfl, h3, h4⟩ | ⟨rfl, h3⟩
  · refine ⟨Vf hw hw2 hd hd2 h3 (fun q => ?_) hk, by omega⟩
    rw [h4 q]
    have := Lu (PP := l6 P cc) ys hb q
    have := W_le (Iq hP) ys hb q
    omega
  · refine ⟨EA hw hw2 hd hd2 h2 (.inl ⟨rfl, h3, fun x hx => ?_⟩) hk, by omega⟩
    obtain ⟨q, hq, rfl⟩ := List.getElem_of_mem hx
    have := h4 q
    rw [List.getD_eq_getElem?_getD, List.getElem?_eq_getElem hq, Option.getD_some] at this
    rw [this]
    exact bl_01 _
  · have := h3.2.2.1
    exact ⟨EA hw hw2 hd hd2 h2 (.inr ⟨rfl, h3.1, fun x hx => NW hH hb (h3.2.1 x hx), h3.2.2.1⟩) hk, by omega⟩
theorem Jc {n1 n2 : ByteArray} {cc kd w d : Int} (hkd : kd = 0 ∨ kd = 1) {x y : List Int} (hxy : x.length = y.length) (hl : y.length < 1000) (g : Int → Int → Int)
    (hg0 : kd = 0 → ∀ q, wrap64 (x.getD q 0 + y.getD q 0) = g (x.getD q 0) (y.getD q 0)) (hg1 : kd = 1 → ∀ q, mx (x.getD q 0) (y.getD q 0) = g (x.getD q 0) (y.getD q 0)) {p : List Int} (hp : p.length = x.length) (hpg : ∀ q, q < y.length → p.getD q 0 = g (x.getD q 0) (y.getD q 0))
    (hv : ∀ k, 3 ≤ k → bf.f k n1 n2 cc kd w d p = some true) :
    ∀ (m i k : Nat) (z : List Int), i + m = y.length → m + 10 ≤ k → z.length = x.length → (∀ q, z.getD q 0 = if q < i then p.getD q 0 else x.getD q 0) →
      dM.l0 k z y (y.length : Int) i n1 n2 cc kd w d = some (p, 0) := by
  intro m
  induction m with
  | zero =>
    intro i k z hi hk hz hq
    obtain ⟨j, rfl⟩ : ∃ j, k = j + 1 := ⟨k - 1, by omega⟩
    have e : z = p := Ae (by omega) (fun q => by
      rw [hq q]
      split
      · rfl
      · rw [List.getD_eq_getElem?_getD, List.getD_eq_getElem?_getD, List.getElem?_eq_none (by omega), List.getElem?_eq_none (by omega)])
    simp only [dM.l0]
    rw [if_neg (by omega), e, hv j (by omega)]
    rfl
  | succ m ih =>
    intro i k z hi hk hz hq
    obtain ⟨j, rfl⟩ : ∃ j, k = j + 1 := ⟨k - 1, by omega⟩
    have h1 : rd z i = x.getD i 0 := by
      have := hq i
      rw [if_neg (by omega)] at this
      exact this
    have h2 : rd y i = y.getD i 0 := rfl
    have next : ∀ v, v = p.getD i 0 → dM.l0 j (z.set i v) y (y.length : Int) ((i + 1 : Nat) : Int) n1 n2 cc kd w d = some (p, 0) := by
      rintro v rfl
      refine ih (i + 1) j _ (by omega) (by omega) (by simpa using hz) (fun q => ?_)
      rw [Hr _ _ _ _ (by omega)]
      by_cases h : i = q
      · subst h
        rw [if_pos rfl, if_pos (by omega)]
      · rw [if_neg h, hq q]
        by_cases h' : q < i
        · rw [if_pos h', if_pos (by omega)]
        · rw [if_neg h', if_neg (by omega)]
    simp only [dM.l0]
    rw [if_pos (by omega), if_pos (by omega), if_pos (by omega), h1, h2, up1 i (by omega)]
    rcases hkd with rfl | rfl
    · rw [if_neg (by decide), if_pos (by omega), hg0 rfl i]
      exact next _ (hpg i (by omega)).symm
    · rw [if_pos rfl, if_pos (by omega), hg1 rfl i]
      exact next _ (hpg i (by omega)).symm
theorem mx_bl {u v : Int} (h : 0 ≤ u) (h' : 0 ≤ v) : mx (bl u) (bl v) = bl (u + v) := by
  unfold mx bl
  by_cases p1 : 0 < u <;> by_cases p2 : 0 < v <;> by_cases p3 : 0 < u + v <;> simp only [p1, p2, p3, if_true, if_false] <;> first | omega | decide
theorem EX (g : Int → Int → Int) (x y : List Int) (q : Nat) : ((List.range y.length).map fun i => g (x.getD i 0) (y.getD i 0)).getD q 0 = if q < y.length then g (x.getD q 0) (y.getD q 0) else 0 := by
  rw [List.getD_eq_getElem?_getD, List.getElem?_map]
  by_cases h : q < y.length
  · rw [if_pos h, List.getElem?_range h]
    rfl
  · rw [if_neg h, List.getElem?_eq_none (by simpa using h)]
    rfl
theorem Dl {x : List Int} {q : Nat} (h : x.length ≤ q) : x.getD q 0 = 0 := by rw [List.getD_eq_getElem?_getD, List.getElem?_eq_none h]; rfl
theorem Gy {P : Nat → List Int} {H : Nat → Int} {n1 n2 : ByteArray} {cc kd w d : Int} (hw : 1 ≤ w) (hw2 : w ≤ 64) (hd : 1 ≤ d) (hd2 : d ≤ 3) (h2 : kd = 2 → d = 1)
    (hP : HP P n1 n2 cc kd w d) (hH : HH H) {a b : List (Nat × Int)} (ba : Bnd 1 60 a) (bb : Bnd 1 60 b) (la : a.length < 40) (lb : b.length < 40) {x y : List Int} (hx : Spec P H cc kd w d a x) (hy : Spec P H cc kd w d b y) {k : Nat} (hk : 1000 ≤ k) :
    ∃ p, dM.f k n1 n2 cc kd w d x y = some (p, 0) ∧ Spec P H cc kd w d (jG a b) p := by
  obtain ⟨j, rfl⟩ : ∃ j, k = j + 1 := ⟨k - 1, by omega⟩
  have wid : ∀ {zs : List (Nat × Int)}, Bnd 1 60 zs → Bnd 1 300 zs := fun h p hp => ⟨(h p hp).1, (h p hp).2.1, by have := (h p hp).2.2; omega⟩
  have hm := AZ a b ba bb (by decide) (by decide)
  have hm3 : Bnd 1 300 (jG a b) := fun p hp => ⟨(hm p hp).1, (hm p hp).2.1, by have := (hm p hp).2.2; omega⟩
  have hml := AY a b
  obtain ⟨vx, lx⟩ := wG hw hw2 hd hd2 h2 hP hH (wid ba) (by omega) hx (k := j + 1) (by omega)
  obtain ⟨vy, ly⟩ := wG hw hw2 hd hd2 h2 hP hH (wid bb) (by omega) hy (k := j + 1) (by omega)
  have vp : ∀ {p : List Int}, Spec P H cc kd w d (jG a b) p → ∀ k, 3 ≤ k → bf.f k n1 n2 cc kd w d p = some true := fun h k hk => (wG hw hw2 hd hd2 h2 hP hH hm3 (by omega) h hk).1
  unfold dM.f
  rw [vx]
  simp only [Option.bind_some]
  rw [if_pos trivial, vy]
  simp only [Option.bind_some, dM.j0, Bool.not_true]
  rw [if_neg (by decide)]
  have aW := fun q => Lu (PP := l6 P cc) a ba q
  have bW := fun q => Lu (PP := l6 P cc) b bb q
  rcases hx with ⟨rfl, h3, h4⟩ | ⟨rfl, h3, h4⟩ | ⟨rfl, h3⟩ <;> rcases hy with ⟨h0, h5, h6⟩ | ⟨h0, h5, h6⟩ | ⟨h0, h5⟩ <;> first | (exfalso; omega) | skip
  · have hxy : x.length = y.length := by omega
    have hs : Spec P H cc 0 w d (jG a b) ((List.range y.length).map fun i => x.getD i 0 + y.getD i 0) := by
      refine .inl ⟨rfl, by simp; omega, fun q => ?_⟩
      rw [EX (fun u v => u + v) x y q, Ag, ← h4 q, ← h6 q]
      split
      · rfl
      · rw [Dl (by omega), Dl (by omega)]; rfl
    rw [if_neg (by decide)]
    unfold fT.f
    rw [if_pos (by omega)]
    simp only [Option.bind_some]
    refine ⟨_, Jc (n1 := n1) (n2 := n2) (.inl rfl) hxy (by omega) (fun u v => u + v) (fun _ q => ?_) (fun h => by omega) (by simp; omega) (fun q hq => by rw [EX (fun u v => u + v) x y q, if_pos hq]) (vp hs) y.length 0 j x (by omega) (by omega) rfl (fun q => by rw [if_neg (by omega)]), hs⟩
    have := W_le (Iq hP) a (wid ba) q
    have := W_le (Iq hP) b (wid bb) q
    have := aW q
    have := bW q
    rw [h4 q, h6 q, wrap64_in _ (by omega)]
  · have hxy : x.length = y.length := by omega
    have hg : ∀ q, mx (x.getD q 0) (y.getD q 0) = bl (W (l6 P cc) (jG a b) q) := fun q => by
      rw [h4 q, h6 q, Ag]
      exact mx_bl (aW q) (bW q)
    have hs : Spec P H cc 1 w d (jG a b) ((List.range y.length).map fun i => mx (x.getD i 0) (y.getD i 0)) := by
      refine .inr (.inl ⟨rfl, by simp; omega, fun q => ?_⟩)
      rw [EX mx x y q, ← hg q]
      split
      · rfl
      · rw [Dl (by omega), Dl (by omega)]; decide
    rw [if_neg (by decide)]
    unfold fT.f
    rw [if_pos (by omega)]
    simp only [Option.bind_some]
    exact ⟨_, Jc (n1 := n1) (n2 := n2) (.inr rfl) hxy (by omega) mx (fun h => by omega) (fun _ q => rfl) (by simp; omega) (fun q hq => by rw [EX mx x y q, if_pos hq]) (vp hs) y.length 0 j x (by omega) (by omega) rfl (fun q => by rw [if_neg (by omega)]), hs⟩
  · rw [if_pos rfl]
    unfold dW.f
    rw [if_pos (by simp; omega)]
    simp only [Option.bind_some]
    obtain ⟨r, e, hr⟩ := AL (c := x ++ y) (w := w) (by simp; omega) (by omega) (by omega)
    rw [show [x, y].flatten = x ++ y by simp, e]
    exact ⟨r, rfl, .inr (.inr ⟨rfl, tZ (Et h3 h5 hr) (fun z => (LD H cc ba bb z).symm)⟩)⟩
theorem UO {P : Nat → List Int} {H : Nat → Int} {cc kd w d : Int} {a b : List (Nat × Int)} (ba : Bnd 1 60 a) (bb : Bnd 1 60 b) {c : List Int} (h : Spec P H cc kd w d (jG b a) c) : Spec P H cc kd w d (jG a b) c := by
  rcases h with ⟨rfl, h3, h4⟩ | ⟨rfl, h3, h4⟩ | ⟨rfl, h3⟩
  · exact .inl ⟨rfl, h3, fun q => by rw [h4 q, Ag, Ag]; omega⟩
  · exact .inr (.inl ⟨rfl, h3, fun q => by rw [h4 q, Ag, Ag, Int.add_comm]⟩)
  · exact .inr (.inr ⟨rfl, tZ h3 (fun z => by rw [LD H cc bb ba, LD H cc ba bb]; exact or_comm)⟩)
theorem SketchMerge : bX.Pure := by
  intro l0 _ hsz _
  obtain ⟨K, hK⟩ : ∃ K : Nat, 2000 ≤ K := ⟨2000, Nat.le_refl _⟩
  refine ⟨K + 1, ?_⟩
  have hl : l0.length < 17592186044416 := by omega
  have hs : St l0 0 := ⟨by omega, by omega⟩
  obtain ⟨c, kd, w, d, s1, e1, c0, _, hkd, hw, hw2, hd, hd2, h2, hs⟩ := UQ K hl hs
  obtain ⟨a, s2, e2, aa, ba, na, hs⟩ := WV hl (n := 8) (by omega) hs (k := K + 1) (by omega)
  obtain ⟨b, s3, e3, ab, bb, nb, hs⟩ := WV hl (n := 8) (by omega) hs (k := K + 1) (by omega)
  obtain ⟨P, hP⟩ := UY (n1 := ⟨#[115]⟩) (n2 := ⟨#[116, 48]⟩) (c := c) (kd := kd) hw hw2 hd hd2
  obtain ⟨H, hH⟩ := aao
  have wid : ∀ {zs : List (Nat × Int)}, Bnd 1 60 zs → Bnd 1 300 zs := fun h p hp => ⟨(h p hp).1, (h p hp).2.1, by have := (h p hp).2.2; omega⟩
  have hm := AZ a b ba bb (by decide) (by decide)
  have hm3 : Bnd 1 300 (jG a b) := fun p hp => ⟨(hm p hp).1, (hm p hp).2.1, by have := (hm p hp).2.2; omega⟩
  have hml := AY a b
  obtain ⟨x, ex, sx⟩ := Af (n1 := ⟨#[115]⟩) (n2 := ⟨#[116, 48]⟩) hkd c0 hw hw2 hd hd2 h2 hP hH aa (wid ba) (by omega) (k := K + 1) (by omega)
  obtain ⟨y, ey, sy⟩ := Af (n1 := ⟨#[115]⟩) (n2 := ⟨#[116, 48]⟩) hkd c0 hw hw2 hd hd2 h2 hP hH ab (wid bb) (by omega) (k := K + 1) (by omega)
  obtain ⟨z, ez, sz⟩ := Af (n1 := ⟨#[115]⟩) (n2 := ⟨#[116, 48]⟩) hkd c0 hw hw2 hd hd2 h2 hP hH (MB a b aa ab) hm3 (by omega) (k := K + 1) (by omega)
  obtain ⟨p, ep, sp⟩ := Gy (n1 := ⟨#[115]⟩) (n2 := ⟨#[116, 48]⟩) hw hw2 hd hd2 h2 hP hH ba bb (by omega) (by omega) sx sy (k := K + 1) (by omega)
  obtain ⟨q, eq, sq⟩ := Gy (n1 := ⟨#[115]⟩) (n2 := ⟨#[116, 48]⟩) hw hw2 hd hd2 h2 hP hH bb ba (by omega) (by omega) sy sx (k := K + 1) (by omega)
  obtain rfl := Rs sp sz
  obtain rfl := Rs (UO ba bb sq) sp
  obtain ⟨vz, lz⟩ := wG hw hw2 hd hd2 h2 hP hH hm3 (by omega) sz (k := K) (by omega)
  unfold bX.f kU.f
  rw [if_pos hl]
  simp only [Option.bind_some]
  rw [e1]
  simp only [Option.bind_some]
  rw [show ((8 : Nat) : Int) = 8 from rfl] at e2 e3
  rw [e2]
  simp only [Option.bind_some]
  rw [e3]
  simp only [Option.bind_some]
  rw [UU aa ab ba bb (by omega) (by omega) (by omega)]
  simp only [Option.bind_some]
  rw [ex]
  simp only [Option.bind_some]
  rw [ey]
  simp only [Option.bind_some]
  rw [ez]
  simp only [Option.bind_some]
  rw [ep]
  simp only [Option.bind_some]
  rw [eq]
  simp only [Option.bind_some]
  rw [if_pos trivial, if_pos trivial, if_pos trivial, if_pos trivial]
  simp only [bX.j0]
  rw [if_neg (by decide), Ym q (by omega) (by omega)]
  simp only [Option.bind_some]
  rw [if_pos trivial, if_pos trivial, vz]
  simp only [Option.bind_some]
  rw [if_pos trivial, WW (by omega)]
  rfl
end Go.Proofs.Ythicocmnefaioaa.Pure

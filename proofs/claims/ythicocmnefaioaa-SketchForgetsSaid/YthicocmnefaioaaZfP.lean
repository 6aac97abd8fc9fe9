import Derived.Test.YthicocmnefaioaaZf9
namespace Go.Proofs.Ythicocmnefaioaa.Pure
open Go.RowKit Go.Proofs.Ythicocmnefaioaa.QS Go.Proofs.YthicocmnefaioaaW.PrintWords Go.Proofs.YthicocmnefaioaaW.PrintLast Go.Proofs.YthicocmnefaioaaW.PrintMore
open Go.IntWalk (wrap64_in)
def val (i : Nat) : S23 := ([⟨0, 0, ⟨#[]⟩⟩, ⟨1, 1, ⟨#[]⟩⟩, ⟨1, 2, ⟨#[]⟩⟩, ⟨1, 3, ⟨#[]⟩⟩, ⟨2, 0, ⟨#[97]⟩⟩, ⟨2, 0, ⟨#[98]⟩⟩] : List S23).getD i z23
def sgn (a b : Nat) : Int := if a < b then -1 else if a = b then 0 else 1
def row (i : Nat) : List S23 := [val (i / 6), val (i % 6)]
theorem up {α : Type} {f : Nat → Option α} (h : ∀ k, LeO (f k) (f (k + 1))) {a : Nat} {r : α} (h0 : f a = some r) : ∀ {k}, a ≤ k → f k = some r := by
  intro k hk
  obtain ⟨d, rfl⟩ := Nat.le.dest hk
  clear hk
  induction d with
  | zero => exact h0
  | succ n ih => exact h _ r ih
theorem awake_ok {k : Nat} (hk : 200 ≤ k) : erasurelaw12_awake.f k = some true := up (f := fun k => erasurelaw12_awake.f k) erasurelaw12_awake.mono (by kernel_rfl) hk
theorem cmpP {k : Nat} (hk : 12 ≤ k) : ∀ i < 36, ∀ j < 36, value_CompareRows.f k (row i) (row j) = some (sgn i j) := fun i hi j hj =>
  up (f := fun k => value_CompareRows.f k (row i) (row j)) (value_CompareRows.mono _ _) ((by decide +kernel : ∀ i < 36, ∀ j < 36, value_CompareRows.f 12 (row i) (row j) = some (sgn i j)) i hi j hj) hk
theorem cmpR {k : Nat} (hk : 12 ≤ k) : ∀ i < 36, ∀ j < 36, erasureref01_CompareRows.f k (row i) (row j) = some (sgn i j) := fun i hi j hj =>
  up (f := fun k => erasureref01_CompareRows.f k (row i) (row j)) (erasureref01_CompareRows.mono _ _) ((by decide +kernel : ∀ i < 36, ∀ j < 36, erasureref01_CompareRows.f 12 (row i) (row j) = some (sgn i j)) i hi j hj) hk
theorem vrP {k : Nat} (hk : 5 ≤ k) : ∀ i < 36, value_ValidRow.f k (row i) = some true := fun i hi =>
  up (f := fun k => value_ValidRow.f k (row i)) (value_ValidRow.mono _) ((by decide +kernel : ∀ i < 36, value_ValidRow.f 5 (row i) = some true) i hi) hk
theorem vrR {k : Nat} (hk : 5 ≤ k) : ∀ i < 36, erasureref01_ValidRow.f k (row i) = some true := fun i hi =>
  up (f := fun k => erasureref01_ValidRow.f k (row i)) (erasureref01_ValidRow.mono _) ((by decide +kernel : ∀ i < 36, erasureref01_ValidRow.f 5 (row i) = some true) i hi) hk
theorem u64w (z : Int) : IntKind.u64.wrap z = z % 18446744073709551616 := by
  simp [IntKind.wrap, IntKind.bits, IntKind.signed]
def St (l : List Int) (s : Int) : Prop := 0 ≤ s ∧ s ≤ 4 * (l.length : Int)
theorem next_ok {l : List Int} {s n : Int} (k : Nat) (hl : l.length < 17592186044416) (hs : St l s) (hn : 1 ≤ n) (hn2 : n ≤ 100000) :
    ∃ x s', erasurelaw00_Tape_Next.f (k + 1) l s n = some (x, s') ∧ 0 ≤ x ∧ x < n ∧ St l s' := by
  obtain ⟨hs0, hs1⟩ := hs
  unfold erasurelaw00_Tape_Next.f
  have h4 : wrap64 (4 * (l.length : Int)) = 4 * (l.length : Int) := wrap64_in _ (by omega)
  by_cases h1 : n < 2
  · rw [if_pos h1]
    exact ⟨0, s, by simp [erasurelaw00_Tape_Next.j0], by omega, by omega, hs0, hs1⟩
  rw [if_neg h1]
  by_cases h2 : (l.length : Int) = 0
  · rw [if_pos h2]
    exact ⟨0, s, by simp [erasurelaw00_Tape_Next.j0], by omega, by omega, hs0, hs1⟩
  rw [if_neg h2, h4]
  by_cases h3 : s ≥ 4 * (l.length : Int)
  · rw [decide_eq_true h3]
    exact ⟨0, s, by simp [erasurelaw00_Tape_Next.j0], by omega, by omega, hs0, hs1⟩
  rw [decide_eq_false h3]
  have hLpos : (0 : Int) < l.length := by omega
  have m0 : 0 ≤ Int.tmod s l.length := Int.tmod_nonneg _ hs0
  have m1 : Int.tmod s l.length < l.length := Int.tmod_lt_of_pos _ hLpos
  have hw : wrap64 (s + 1) = s + 1 := wrap64_in _ (by omega)
  have fin : ∀ y : Int, 0 ≤ Int.tmod (wrap64 ((Int.tmod y n) + n)) n ∧ Int.tmod (wrap64 ((Int.tmod y n) + n)) n < n := by
    intro y
    have a1 : Int.tmod y n < n := Int.tmod_lt_of_pos _ (by omega)
    have a2 : -n < Int.tmod y n := by
      have := Int.tmod_lt_of_pos (-y) (show 0 < n by omega)
      rw [Int.neg_tmod] at this
      omega
    rw [wrap64_in _ (by omega)]
    exact ⟨Int.tmod_nonneg _ (by omega), Int.tmod_lt_of_pos _ (by omega)⟩
  simp only [erasurelaw00_Tape_Next.j0]
  rw [if_neg (by simp), if_neg h2, if_pos m0, if_pos m1, hw]
  have hn0 : ¬ n = 0 := by omega
  have hu : ∀ z : Int, 0 ≤ IntKind.u64.wrap z := by
    intro z
    rw [u64w]
    omega
  split
  · rw [if_pos (hu _)]
    exact ⟨_, _, rfl, (fin _).1, (fin _).2, by omega, by omega⟩
  · exact ⟨_, _, rfl, (fin _).1, (fin _).2, by omega, by omega⟩
theorem sketch_ok {l : List Int} {s : Int} (k : Nat) (hl : l.length < 17592186044416) (hs : St l s) :
    ∃ c kd w d s', erasurelaw00_Tape_Sketch.f (k + 1) l s = some (⟨#[115]⟩, ⟨#[116, 48]⟩, c, kd, w, d, s') ∧ 0 ≤ c ∧ c ≤ 2 ∧ (kd = 0 ∨ kd = 1 ∨ kd = 2) ∧ 1 ≤ w ∧ w ≤ 64 ∧ 1 ≤ d ∧ d ≤ 3 ∧ (kd = 2 → d = 1) ∧ St l s' := by
  obtain ⟨x1, s1, e1, a1, b1, hs⟩ := next_ok k hl hs (n := 9) (by omega) (by omega)
  obtain ⟨x2, s2, e2, a2, b2, hs⟩ := next_ok k hl hs (n := 3) (by omega) (by omega)
  obtain ⟨x3, s3, e3, a3, b3, hs⟩ := next_ok k hl hs (n := 7) (by omega) (by omega)
  obtain ⟨x4, s4, e4, a4, b4, hs⟩ := next_ok k hl hs (n := 3) (by omega) (by omega)
  have hc : wrap64 (Int.tdiv x1 4) = x1 / 4 := by rw [Int.tdiv_eq_ediv_of_nonneg a1, wrap64_in _ (by omega)]
  have hd : wrap64 (1 + x4) = 1 + x4 := wrap64_in _ (by omega)
  have hw : 1 ≤ rd ([1, 2, 3, 5, 8, 16, 64] : List Int) x3 ∧ rd ([1, 2, 3, 5, 8, 16, 64] : List Int) x3 ≤ 64 := by
    have : x3 = 0 ∨ x3 = 1 ∨ x3 = 2 ∨ x3 = 3 ∨ x3 = 4 ∨ x3 = 5 ∨ x3 = 6 := by omega
    rcases this with rfl | rfl | rfl | rfl | rfl | rfl | rfl <;> decide
  unfold erasurelaw00_Tape_Sketch.f
  simp only [e1, e2, e3, e4, Option.bind_some]
  rw [if_pos a3, if_pos (by simpa using b3)]
  by_cases h2 : x2 = 2
  · rw [if_pos h2]
    exact ⟨_, _, _, _, _, rfl, by rw [hc]; omega, by rw [hc]; omega, by omega, hw.1, hw.2, by omega, by omega, fun _ => rfl, hs⟩
  · rw [if_neg h2]
    exact ⟨_, _, _, _, _, rfl, by rw [hc]; omega, by rw [hc]; omega, by omega, hw.1, hw.2, by rw [hd]; omega, by rw [hd]; omega, fun h => absurd h h2, hs⟩
theorem int1 : erasureref01_Int.f 1 = some (1, 1, ⟨#[]⟩) := by kernel_rfl
theorem int2 : erasureref01_Int.f 2 = some (1, 2, ⟨#[]⟩) := by kernel_rfl
theorem int3 : erasureref01_Int.f 3 = some (1, 3, ⟨#[]⟩) := by kernel_rfl
theorem txa : erasureref01_Text.f ⟨#[97]⟩ = some (2, 0, ⟨#[97]⟩) := by kernel_rfl
theorem txb : erasureref01_Text.f ⟨#[98]⟩ = some (2, 0, ⟨#[98]⟩) := by kernel_rfl
theorem short_ok {l : List Int} {s : Int} (k : Nat) (hl : l.length < 17592186044416) (hs : St l s) :
    ∃ i s', erasurelaw00_Tape_short.f (k + 1) l s = some ((val i).f0, (val i).f1, (val i).f2, s') ∧ i < 6 ∧ St l s' := by
  obtain ⟨x, s1, e1, a1, b1, hs⟩ := next_ok k hl hs (n := 6) (by omega) (by omega)
  unfold erasurelaw00_Tape_short.f
  simp only [int1, int2, int3, txa, txb, e1, Option.bind_some]
  rw [if_pos a1, if_pos (by simpa using b1)]
  exact ⟨x.toNat, s1, rfl, by omega, hs⟩
def E (p : Nat × Int) : S51 := ⟨row p.1, p.2⟩
theorem rdE (xs : List (Nat × Int)) (i : Nat) (h : i < xs.length) : rd_T51 (xs.map E) (i : Int) = E xs[i] := by
  simp [rd_T51, List.getD_eq_getElem?_getD, h]
theorem row_ij {i j : Nat} (h : j < 6) : row (6 * i + j) = [val i, val j] := by
  unfold row
  rw [show (6 * i + j) / 6 = i by omega, show (6 * i + j) % 6 = j by omega]
def Raw (p : Nat × Int) : Prop := p.1 < 36 ∧ -2 ≤ p.2 ∧ p.2 ≤ 3
theorem ent_l0 {l : List Int} (hl : l.length < 17592186044416) : ∀ (m : Nat) (acc : List (Nat × Int)) (s : Int) (k : Nat), 4 * m + 5 ≤ k → acc.length + m < 1000 → St l s → (∀ p ∈ acc, Raw p) →
    ∃ (out : List (Nat × Int)) (s' : Int), erasurelaw00_Tape_Entries.l0 k 2 (acc.map E) m l s = some (out.map E, s') ∧ out.length = acc.length + m ∧ (∀ p ∈ out, Raw p) ∧ St l s'
  | 0, acc, s, k, hk, hm, hs, ha => by
    obtain ⟨j, rfl⟩ : ∃ j, k = j + 1 := ⟨k - 1, by omega⟩
    refine ⟨acc, s, ?_, rfl, ha, hs⟩
    simp only [erasurelaw00_Tape_Entries.l0]
    rw [if_neg (by simp)]
  | m + 1, acc, s, k, hk, hm, hs, ha => by
    obtain ⟨j, rfl⟩ : ∃ j, k = j + 4 := ⟨k - 4, by omega⟩
    obtain ⟨i1, s1, e1, a1, hs⟩ := short_ok (j + 1) hl hs
    obtain ⟨i2, s2, e2, a2, hs⟩ := short_ok j hl hs
    obtain ⟨j, rfl⟩ : ∃ j', j = j' + 1 := ⟨j - 1, by omega⟩
    obtain ⟨x, s3, e3, a3, b3, hs⟩ := next_ok j hl hs (n := 8) (by omega) (by omega)
    have hc : -2 ≤ rd ([1, 1, 1, 2, (-1), 3, (-2), 0] : List Int) x ∧ rd ([1, 1, 1, 2, (-1), 3, (-2), 0] : List Int) x ≤ 3 := by
      have : x = 0 ∨ x = 1 ∨ x = 2 ∨ x = 3 ∨ x = 4 ∨ x = 5 ∨ x = 6 ∨ x = 7 := by omega
      rcases this with rfl | rfl | rfl | rfl | rfl | rfl | rfl | rfl <;> decide
    obtain ⟨out, s', e4, h1, h2, h3⟩ := ent_l0 hl m (acc ++ [(6 * i1 + i2, rd ([1, 1, 1, 2, (-1), 3, (-2), 0] : List Int) x)]) s3 (j + 1) (by omega) (by simp; omega) hs
      (by intro p hp; rcases List.mem_append.1 hp with hp | hp
          · exact ha p hp
          · rw [List.mem_singleton] at hp; subst hp; exact ⟨by show 6 * i1 + i2 < 36; omega, hc⟩)
    refine ⟨out, s', ?_, by rw [h1]; simp; omega, h2, h3⟩
    simp only [erasurelaw00_Tape_Entries.l0]
    rw [if_pos (by omega)]
    simp only [erasurelaw00_Tape_Entries.l1, e1, e2, e3, Option.bind_some]
    rw [if_pos (by omega), if_pos (by simp), if_pos (by decide +kernel), if_pos (by simp), if_neg (by decide +kernel), if_pos a3, if_pos (by simpa using b3), if_pos (by simp; omega)]
    rw [show wrap64 (((m + 1 : Nat) : Int) - 1) = (m : Int) by rw [wrap64_in _ (by omega)]; omega]
    rw [List.map_append] at e4
    simp only [List.map_cons, List.map_nil, E, row_ij a2] at e4
    exact e4
theorem entries_ok {l : List Int} (hl : l.length < 17592186044416) {s : Int} {n : Nat} {k : Nat} (hn : n ≤ 100) (hk : 4 * n + 6 ≤ k) (hs : St l s) :
    ∃ (out : List (Nat × Int)) (s' : Int), erasurelaw00_Tape_Entries.f k l s 2 n = some (out.map E, s') ∧ out.length ≤ n ∧ (∀ p ∈ out, Raw p) ∧ St l s' := by
  obtain ⟨j, rfl⟩ : ∃ j, k = j + 1 := ⟨k - 1, by omega⟩
  obtain ⟨x, s1, e1, a1, b1, hs⟩ := next_ok j hl hs (n := (n : Int) + 1) (by omega) (by omega)
  obtain ⟨out, s', e2, h1, h2, h3⟩ := ent_l0 hl x.toNat [] s1 (j + 1) (by omega) (by simp; omega) hs (by simp)
  refine ⟨out, s', ?_, by simp at h1; omega, h2, h3⟩
  unfold erasurelaw00_Tape_Entries.f
  rw [wrap64_in _ (by omega), e1]
  simp only [Option.bind_some]
  rw [show (x.toNat : Int) = x by omega] at e2
  exact e2
def merg : List (Nat × Int) → List (Nat × Int) → List (Nat × Int)
  | [], ys => ys
  | x :: xs, [] => x :: xs
  | x :: xs, y :: ys => if x.1 < y.1 then x :: merg xs (y :: ys) else if x.1 = y.1 then (if x.2 + y.2 = 0 then merg xs ys else (x.1, x.2 + y.2) :: merg xs ys) else y :: merg (x :: xs) ys
  termination_by xs ys => xs.length + ys.length
def Asc : List (Nat × Int) → Prop
  | [] => True
  | x :: xs => (∀ y ∈ xs, x.1 < y.1) ∧ Asc xs
def Bnd (a b : Int) (xs : List (Nat × Int)) : Prop := ∀ p ∈ xs, p.1 < 36 ∧ a ≤ p.2 ∧ p.2 ≤ b
theorem merg_mem : ∀ (xs ys : List (Nat × Int)) {p : Nat × Int}, p ∈ merg xs ys → (∃ q ∈ xs, q.1 = p.1) ∨ ∃ q ∈ ys, q.1 = p.1 := by
  intro xs ys
  induction xs, ys using merg.induct with
  | case1 ys => intro p hp; rw [merg] at hp; exact .inr ⟨p, hp, rfl⟩
  | case2 x xs => intro p hp; rw [merg] at hp; exact .inl ⟨p, hp, rfl⟩
  | case3 x xs y ys h ih =>
    intro p hp
    rw [merg, if_pos h] at hp
    rcases List.mem_cons.1 hp with rfl | hp
    · exact .inl ⟨p, by simp, rfl⟩
    · rcases ih hp with ⟨q, h1, h2⟩ | h1
      · exact .inl ⟨q, by simp [h1], h2⟩
      · exact .inr h1
  | case4 x xs y ys h h2 h3 ih =>
    intro p hp
    rw [merg, if_neg h, if_pos h2, if_pos h3] at hp
    rcases ih hp with ⟨q, h1, h2⟩ | ⟨q, h1, h2⟩
    · exact .inl ⟨q, by simp [h1], h2⟩
    · exact .inr ⟨q, by simp [h1], h2⟩
  | case5 x xs y ys h h2 h3 ih =>
    intro p hp
    rw [merg, if_neg h, if_pos h2, if_neg h3] at hp
    rcases List.mem_cons.1 hp with rfl | hp
    · exact .inl ⟨x, by simp, rfl⟩
    · rcases ih hp with ⟨q, h1, h2⟩ | ⟨q, h1, h2⟩
      · exact .inl ⟨q, by simp [h1], h2⟩
      · exact .inr ⟨q, by simp [h1], h2⟩
  | case6 x xs y ys h h2 ih =>
    intro p hp
    rw [merg, if_neg h, if_neg h2] at hp
    rcases List.mem_cons.1 hp with rfl | hp
    · exact .inr ⟨p, by simp, rfl⟩
    · rcases ih hp with h1 | ⟨q, h1, h2⟩
      · exact .inl h1
      · exact .inr ⟨q, by simp [h1], h2⟩
theorem merg_asc : ∀ (xs ys : List (Nat × Int)), Asc xs → Asc ys → Asc (merg xs ys) := by
  intro xs ys
  induction xs, ys using merg.induct with
  | case1 ys => intro _ h; rw [merg]; exact h
  | case2 x xs => intro h _; rw [merg]; exact h
  | case3 x xs y ys h ih =>
    intro h1 h2
    rw [merg, if_pos h]
    refine ⟨fun z hz => ?_, ih h1.2 h2⟩
    rcases merg_mem _ _ hz with ⟨q, hq, e⟩ | ⟨q, hq, e⟩
    · have := h1.1 q hq; omega
    · rcases List.mem_cons.1 hq with rfl | hq
      · omega
      · have := h2.1 q hq; omega
  | case4 x xs y ys h h2 h3 ih =>
    intro h4 h5
    rw [merg, if_neg h, if_pos h2, if_pos h3]
    exact ih h4.2 h5.2
  | case5 x xs y ys h h2 h3 ih =>
    intro h4 h5
    rw [merg, if_neg h, if_pos h2, if_neg h3]
    refine ⟨fun z hz => ?_, ih h4.2 h5.2⟩
    rcases merg_mem _ _ hz with ⟨q, hq, e⟩ | ⟨q, hq, e⟩
    · have := h4.1 q hq; show x.1 < z.1; omega
    · have := h5.1 q hq; show x.1 < z.1; omega
  | case6 x xs y ys h h2 ih =>
    intro h4 h5
    rw [merg, if_neg h, if_neg h2]
    refine ⟨fun z hz => ?_, ih h4 h5.2⟩
    rcases merg_mem _ _ hz with ⟨q, hq, e⟩ | ⟨q, hq, e⟩
    · rcases List.mem_cons.1 hq with rfl | hq
      · omega
      · have := h4.1 q hq; omega
    · have := h5.1 q hq; omega
theorem merg_bnd {b c : Int} : ∀ (xs ys : List (Nat × Int)), Bnd 1 b xs → Bnd 1 c ys → 0 ≤ b → 0 ≤ c → Bnd 1 (b + c) (merg xs ys) := by
  intro xs ys
  induction xs, ys using merg.induct with
  | case1 ys => intro _ h hb _; rw [merg]; exact fun p hp => ⟨(h p hp).1, (h p hp).2.1, by have := (h p hp).2.2; omega⟩
  | case2 x xs => intro h _ _ hc; rw [merg]; exact fun p hp => ⟨(h p hp).1, (h p hp).2.1, by have := (h p hp).2.2; omega⟩
  | case3 x xs y ys h ih =>
    intro h1 h2 hb hc
    rw [merg, if_pos h]
    intro p hp
    rcases List.mem_cons.1 hp with rfl | hp
    · have := h1 p (by simp); exact ⟨this.1, this.2.1, by omega⟩
    · exact ih (fun p hp => h1 p (by simp [hp])) h2 hb hc p hp
  | case4 x xs y ys h h2 h3 ih =>
    intro h4 h5 hb hc
    rw [merg, if_neg h, if_pos h2, if_pos h3]
    exact ih (fun p hp => h4 p (by simp [hp])) (fun p hp => h5 p (by simp [hp])) hb hc
  | case5 x xs y ys h h2 h3 ih =>
    intro h4 h5 hb hc
    rw [merg, if_neg h, if_pos h2, if_neg h3]
    intro p hp
    rcases List.mem_cons.1 hp with rfl | hp
    · have a := h4 x (by simp); have b := h5 y (by simp); exact ⟨a.1, by show 1 ≤ x.2 + y.2; omega, by show x.2 + y.2 ≤ _; omega⟩
    · exact ih (fun p hp => h4 p (by simp [hp])) (fun p hp => h5 p (by simp [hp])) hb hc p hp
  | case6 x xs y ys h h2 ih =>
    intro h4 h5 hb hc
    rw [merg, if_neg h, if_neg h2]
    intro p hp
    rcases List.mem_cons.1 hp with rfl | hp
    · have := h5 p (by simp); exact ⟨this.1, this.2.1, by omega⟩
    · exact ih h4 (fun p hp => h5 p (by simp [hp])) hb hc p hp
theorem merg_len : ∀ (xs ys : List (Nat × Int)), (merg xs ys).length ≤ xs.length + ys.length := by
  intro xs ys
  induction xs, ys using merg.induct with
  | case1 ys => rw [merg]; simp
  | case2 x xs => rw [merg]; simp
  | case3 x xs y ys h ih => rw [merg, if_pos h]; simp only [List.length_cons] at *; omega
  | case4 x xs y ys h h2 h3 ih => rw [merg, if_neg h, if_pos h2, if_pos h3]; simp only [List.length_cons] at *; omega
  | case5 x xs y ys h h2 h3 ih => rw [merg, if_neg h, if_pos h2, if_neg h3]; simp only [List.length_cons] at *; omega
  | case6 x xs y ys h h2 ih => rw [merg, if_neg h, if_neg h2]; simp only [List.length_cons] at *; omega
theorem merg_nil (xs : List (Nat × Int)) : merg xs [] = xs := by cases xs <;> rw [merg]
theorem up1 (a : Nat) (h : a < 1000000) : wrap64 ((a : Int) + 1) = ((a + 1 : Nat) : Int) := by rw [wrap64_in _ (by omega)]; omega
def Wide (p : Nat × Int) : Prop := p.1 < 36 ∧ -100000 ≤ p.2 ∧ p.2 ≤ 100000
theorem merge_l0 {xs ys : List (Nat × Int)} (hx : ∀ p ∈ xs, Wide p) (hy : ∀ p ∈ ys, Wide p) (hlx : xs.length < 1000) (hly : ys.length < 1000) :
    ∀ (n a b : Nat) (acc : List (Nat × Int)) (k : Nat), a ≤ xs.length → b ≤ ys.length → (xs.length - a) + (ys.length - b) = n → 3 * n + 20 ≤ k → acc.length + n < 10000 →
      erasureref06_merge.l0 k (xs.map E) (ys.map E) (acc.map E) a b = some ((acc ++ merg (xs.drop a) (ys.drop b)).map E) := by
  intro n
  induction n using Nat.strongRecOn with
  | _ n ih =>
    intro a b acc k ha hb hn hk hacc
    obtain ⟨j, rfl⟩ : ∃ j, k = j + 3 := ⟨k - 3, by omega⟩
    have takeX : ∀ (h : a < xs.length), erasureref06_merge.l0 j (xs.map E) (ys.map E) (acc.map E ++ [⟨(E xs[a]).f0, (E xs[a]).f1⟩]) (wrap64 ((a : Int) + 1)) b = some ((acc ++ xs[a] :: merg (xs.drop (a + 1)) (ys.drop b)).map E) := by
      intro h
      have := ih (n - 1) (by omega) (a + 1) b (acc ++ [xs[a]]) j (by omega) hb (by omega) (by omega) (by simp; omega)
      rw [up1 a (by omega)]
      simpa using this
    have takeY : ∀ (h : b < ys.length), erasureref06_merge.l0 j (xs.map E) (ys.map E) (acc.map E ++ [⟨(E ys[b]).f0, (E ys[b]).f1⟩]) a (wrap64 ((b : Int) + 1)) = some ((acc ++ ys[b] :: merg (xs.drop a) (ys.drop (b + 1))).map E) := by
      intro h
      have := ih (n - 1) (by omega) a (b + 1) (acc ++ [ys[b]]) j ha (by omega) (by omega) (by omega) (by simp; omega)
      rw [up1 b (by omega)]
      simpa using this
    have lx : ((xs.map E).length : Int) = xs.length := by simp
    have ly : ((ys.map E).length : Int) = ys.length := by simp
    have la : (acc.map E).length < 4398046511104 := by simp; omega
    simp only [erasureref06_merge.l0, erasureref06_merge.j1, erasureref06_merge.j2, lx, ly]
    by_cases h1 : a < xs.length
    · rw [if_pos (by omega), if_pos trivial, if_neg (by omega)]
      rw [List.drop_eq_getElem_cons h1]
      by_cases h2 : b < ys.length
      · rw [if_neg (by omega), if_pos (by omega), if_pos (by omega), if_pos (by omega), if_pos (by omega)]
        rw [List.drop_eq_getElem_cons h2]
        rw [rdE xs a h1, rdE ys b h2]
        have wx := hx xs[a] (List.getElem_mem h1)
        have wy := hy ys[b] (List.getElem_mem h2)
        have hc := cmpR (k := j + 1) (by omega) xs[a].1 wx.1 ys[b].1 wy.1
        rw [show erasureref01_CompareRows.f (j + 1) (E xs[a]).f0 (E ys[b]).f0 = some (sgn xs[a].1 ys[b].1) from hc]
        simp only [Option.bind_some]
        rw [merg]
        unfold sgn
        by_cases c1 : xs[a].1 < ys[b].1
        · rw [if_pos c1, if_pos c1, if_pos (by decide), if_pos (by omega), if_pos (by omega), if_pos la]
          have := takeX h1
          rw [List.drop_eq_getElem_cons h2] at this
          exact this
        · rw [if_neg c1, if_neg c1]
          by_cases c2 : xs[a].1 = ys[b].1
          · rw [if_pos c2, if_pos c2, if_neg (by decide), if_neg (by decide), if_pos (by omega), if_pos (by omega), if_pos (by omega), if_pos (by omega)]
            have e1 : (E xs[a]).f1 = xs[a].2 := rfl
            have e2 : (E ys[b]).f1 = ys[b].2 := rfl
            rw [e1, e2, wrap64_in (xs[a].2 + ys[b].2) (by have := wx.2; have := wy.2; omega)]
            by_cases c3 : xs[a].2 + ys[b].2 = 0
            · rw [if_pos c3, if_pos c3, up1 a (by omega), up1 b (by omega)]
              exact ih (n - 2) (by omega) (a + 1) (b + 1) acc j (by omega) (by omega) (by omega) (by omega) (by omega)
            · rw [if_neg c3, if_neg c3, if_pos la, up1 a (by omega), up1 b (by omega)]
              have := ih (n - 2) (by omega) (a + 1) (b + 1) (acc ++ [(xs[a].1, xs[a].2 + ys[b].2)]) j (by omega) (by omega) (by omega) (by omega) (by simp; omega)
              simpa [E] using this
          · rw [if_neg c2, if_neg c2, if_neg (by decide), if_pos (by decide), if_pos (by omega), if_pos (by omega), if_pos la]
            have := takeY h2
            rw [List.drop_eq_getElem_cons h1] at this
            exact this
      · rw [if_pos (by omega), if_pos (by decide), if_pos (by omega), if_pos (by omega), if_pos la, rdE xs a h1]
        rw [List.drop_eq_nil_of_le (by omega : ys.length ≤ b), merg_nil]
        have := takeX h1
        rw [List.drop_eq_nil_of_le (by omega : ys.length ≤ b), merg_nil] at this
        exact this
    · rw [if_neg (by omega)]
      rw [List.drop_eq_nil_of_le (by omega : xs.length ≤ a)]
      by_cases h2 : b < ys.length
      · rw [if_pos (by simp; omega), if_pos (by omega), if_neg (by decide), if_pos (by decide), if_pos (by omega), if_pos (by omega), if_pos la, rdE ys b h2]
        rw [List.drop_eq_getElem_cons h2, merg]
        have := takeY h2
        rw [List.drop_eq_nil_of_le (by omega : xs.length ≤ a), merg] at this
        exact this
      · rw [if_neg (by simp; omega)]
        rw [List.drop_eq_nil_of_le (by omega : ys.length ≤ b), merg]
        simp
theorem merge_ok {xs ys : List (Nat × Int)} {k : Nat} (hx : ∀ p ∈ xs, Wide p) (hy : ∀ p ∈ ys, Wide p) (hlx : xs.length < 1000) (hly : ys.length < 1000) (hk : 3 * (xs.length + ys.length) + 20 ≤ k) :
    erasureref06_merge.f k (xs.map E) (ys.map E) = some ((merg xs ys).map E) := by
  have := merge_l0 hx hy hlx hly (xs.length + ys.length) 0 0 [] k (by omega) (by omega) (by omega) hk (by simp; omega)
  unfold erasureref06_merge.f
  simpa using this
theorem sort_ok : ∀ (n : Nat) (xs : List (Nat × Int)) (k : Nat), xs.length ≤ n → n ≤ 40 → (∀ p ∈ xs, p.1 < 36 ∧ 0 ≤ p.2 ∧ p.2 ≤ 3) → 200 + n ≤ k →
    ∃ ys, erasureref06_sort.f k (xs.map E) = some (ys.map E) ∧ Asc ys ∧ Bnd 1 (3 * n) ys ∧ ys.length ≤ xs.length := by
  intro n
  induction n using Nat.strongRecOn with
  | _ n ih =>
    intro xs k hn h40 hx hk
    obtain ⟨j, rfl⟩ : ∃ j, k = j + 1 := ⟨k - 1, by omega⟩
    have lx : ((xs.map E).length : Int) = xs.length := by simp
    simp only [erasureref06_sort.f, lx]
    by_cases h0 : (xs.length : Int) = 0
    · rw [if_pos h0]
      exact ⟨[], rfl, trivial, fun _ h => absurd h (by simp), by simp⟩
    rw [if_neg h0]
    by_cases h1 : (xs.length : Int) = 1
    · rw [if_pos h1, if_pos (by omega)]
      have hlt : 0 < xs.length := by omega
      have r0 := rdE xs 0 hlt
      rw [show ((0 : Nat) : Int) = 0 from rfl] at r0
      rw [r0]
      have hm := hx xs[0] (List.getElem_mem hlt)
      by_cases h2 : (E xs[0]).f1 = 0
      · rw [if_pos h2]
        exact ⟨[], rfl, trivial, fun _ h => absurd h (by simp), by simp⟩
      · rw [if_neg h2]
        have h3 : xs[0].2 ≠ 0 := h2
        refine ⟨[xs[0]], rfl, ⟨fun _ h => absurd h (by simp), trivial⟩, fun p hp => ?_, by simp; omega⟩
        rw [List.mem_singleton] at hp
        subst hp
        exact ⟨hm.1, by omega, by omega⟩
    · rw [if_neg h1]
      have hw : wrap64 ((xs.length : Int) / 2) = ((xs.length / 2 : Nat) : Int) := by rw [wrap64_in _ (by omega)]; omega
      rw [hw, if_pos (by omega), if_pos (by omega)]
      simp only [Int.toNat_natCast]
      have m1 : xs.length / 2 < n := by omega
      obtain ⟨ys, e1, a1, b1, c1⟩ := ih (xs.length / 2) m1 (xs.take (xs.length / 2)) j (by rw [List.length_take]; omega) (by omega) (fun p hp => hx p (List.mem_of_mem_take hp)) (by omega)
      obtain ⟨zs, e2, a2, b2, c2⟩ := ih (xs.length - xs.length / 2) (by omega) (xs.drop (xs.length / 2)) j (by simp) (by omega) (fun p hp => hx p (List.mem_of_mem_drop hp)) (by omega)
      have d1 : ys.length ≤ xs.length / 2 := by simp at c1; omega
      have d2 : zs.length ≤ xs.length - xs.length / 2 := by simpa using c2
      rw [← List.map_take, ← List.map_drop, e1, e2]
      simp only [Option.bind_some]
      have hm := merge_ok (k := j) (xs := ys) (ys := zs) (fun p hp => ⟨(b1 p hp).1, by have := (b1 p hp).2; omega, by have := (b1 p hp).2; omega⟩) (fun p hp => ⟨(b2 p hp).1, by have := (b2 p hp).2; omega, by have := (b2 p hp).2; omega⟩) (by omega) (by omega) (by omega)
      rw [hm]
      simp only [Option.bind_some]
      refine ⟨_, rfl, merg_asc _ _ a1 a2, fun p hp => ?_, ?_⟩
      · have := merg_bnd ys zs b1 b2 (by omega) (by omega) p hp
        exact ⟨this.1, this.2.1, by omega⟩
      · have := merg_len ys zs
        omega
theorem lE (xs : List (Nat × Int)) : ((xs.map E).length : Int) = xs.length := by simp
theorem asc_get : ∀ {xs : List (Nat × Int)}, Asc xs → ∀ {i j : Nat} (hj : j < xs.length) (hij : i < j), (xs[i]'(by omega)).1 < xs[j].1
  | x :: xs, h, 0, j + 1, hj, _ => h.1 _ (List.getElem_mem _)
  | x :: xs, h, i + 1, j + 1, hj, hij => asc_get h.2 (by simpa using hj) (by omega)
theorem countR {c : Int} (h1 : -262144 ≤ c) (h2 : c ≤ 262144) : erasureref06_countOK.f c = some true := by
  unfold erasureref06_countOK.f
  rw [if_pos h1, decide_eq_true h2]
theorem countP {c : Int} (h1 : -262144 ≤ c) (h2 : c ≤ 262144) : bag_countFits.f c = some true := by
  unfold bag_countFits.f
  rw [if_pos h1, decide_eq_true h2]
theorem fits_ok {ys : List (Nat × Int)} (hb : Bnd 1 262144 ys) (hl : ys.length < 1000) {k : Nat} (hk : ys.length + 2 ≤ k) : erasureref06_fits.f k (ys.map E) = some (ys.map E, 0) := by
  unfold erasureref06_fits.f
  rw [lE, if_neg (by omega)]
  have : ∀ (m i k : Nat), i + m = ys.length → m + 2 ≤ k → erasureref06_fits.l0 k (ys.map E) i = some (ys.map E, 0) := by
    intro m
    induction m with
    | zero =>
      intro i k hi hk
      obtain ⟨j, rfl⟩ : ∃ j, k = j + 1 := ⟨k - 1, by omega⟩
      simp only [erasureref06_fits.l0, lE]
      rw [if_neg (by omega)]
    | succ m ih =>
      intro i k hi hk
      obtain ⟨j, rfl⟩ : ∃ j, k = j + 1 := ⟨k - 1, by omega⟩
      simp only [erasureref06_fits.l0, lE]
      have hlt : i < ys.length := by omega
      have b := hb ys[i] (List.getElem_mem hlt)
      rw [if_pos (by omega), if_pos (by omega), rdE ys i hlt, countR (c := (E ys[i]).f1) (by show -262144 ≤ ys[i].2; omega) b.2.2]
      simp only [Option.bind_some, if_true]
      rw [up1 i (by omega)]
      exact ih (i + 1) j (by omega) (by omega)
  exact this ys.length 0 k (by omega) hk
theorem norm_ok {xs : List (Nat × Int)} (hx : ∀ p ∈ xs, p.1 < 36 ∧ 0 ≤ p.2 ∧ p.2 ≤ 3) (hl : xs.length ≤ 40) {k : Nat} (hk : 400 ≤ k) :
    ∃ ys, erasureref06_Normalize.f k (xs.map E) = some (ys.map E, 0) ∧ Asc ys ∧ Bnd 1 (3 * xs.length) ys ∧ ys.length ≤ xs.length := by
  have : ∀ (m i k : Nat), i + m = xs.length → m + 300 ≤ k → ∃ ys, erasureref06_Normalize.l0 k (xs.map E) i = some (ys.map E, 0) ∧ Asc ys ∧ Bnd 1 (3 * xs.length) ys ∧ ys.length ≤ xs.length := by
    intro m
    induction m with
    | zero =>
      intro i k hi hk
      obtain ⟨j, rfl⟩ : ∃ j, k = j + 1 := ⟨k - 1, by omega⟩
      obtain ⟨ys, e, a, b, c⟩ := sort_ok xs.length xs j (by omega) (by omega) hx (by omega)
      refine ⟨ys, ?_, a, b, c⟩
      simp only [erasureref06_Normalize.l0, lE]
      rw [if_neg (by omega), e]
      simp only [Option.bind_some]
      rw [fits_ok (fun p hp => ⟨(b p hp).1, (b p hp).2.1, by have := (b p hp).2.2; omega⟩) (by omega) (by omega)]
      rfl
    | succ m ih =>
      intro i k hi hk
      obtain ⟨j, rfl⟩ : ∃ j, k = j + 1 := ⟨k - 1, by omega⟩
      have hlt : i < xs.length := by omega
      have b := hx xs[i] (List.getElem_mem hlt)
      simp only [erasureref06_Normalize.l0, lE]
      rw [if_pos (by omega), if_pos (by omega), rdE xs i hlt, show erasureref01_ValidRow.f j (E xs[i]).f0 = some true from vrR (by omega) _ b.1]
      simp only [Option.bind_some, if_true]
      rw [countR (c := (E xs[i]).f1) (by show -262144 ≤ xs[i].2; omega) (by show xs[i].2 ≤ 262144; omega)]
      simp only [Option.bind_some, if_true]
      rw [up1 i (by omega)]
      exact ih (i + 1) j (by omega) (by omega)
  exact this xs.length 0 k (by omega) (by omega)
theorem bag_ok {l : List Int} (hl : l.length < 17592186044416) {s : Int} {n : Nat} (hn : n ≤ 20) (hs : St l s) {k : Nat} (hk : 1000 ≤ k) :
    ∃ (ys : List (Nat × Int)) (s' : Int), erasurelaw00_Tape_Bag.f k l s 2 n false = some (ys.map E, s') ∧ Asc ys ∧ Bnd 1 60 ys ∧ ys.length ≤ n ∧ St l s' := by
  obtain ⟨es, s1, e1, a1, b1, hs⟩ := entries_ok hl (n := n) (k := k) (by omega) (by omega) hs
  have : ∀ (m i k : Nat) (xs : List (Nat × Int)), i + m = xs.length → xs.length ≤ n → m + 500 ≤ k → (∀ p ∈ xs, Raw p) → (∀ (j : Nat) (h : j < xs.length), j < i → 0 ≤ xs[j].2) →
      ∃ ys, erasurelaw00_Tape_Bag.l0 k false (xs.map E) i l s1 = some (ys.map E, s1) ∧ Asc ys ∧ Bnd 1 60 ys ∧ ys.length ≤ n := by
    intro m
    induction m with
    | zero =>
      intro i k xs hi hxn hk hr hp
      obtain ⟨j, rfl⟩ : ∃ j, k = j + 1 := ⟨k - 1, by omega⟩
      obtain ⟨ys, e, a, b, c⟩ := norm_ok (xs := xs) (k := j) (fun p hq => ⟨(hr p hq).1, by
        obtain ⟨q, hq1, rfl⟩ := List.getElem_of_mem hq
        exact hp q hq1 (by omega), (hr p hq).2.2⟩) (by omega) (by omega)
      refine ⟨ys, ?_, a, fun p hp => ⟨(b p hp).1, (b p hp).2.1, by have := (b p hp).2.2; omega⟩, by omega⟩
      simp only [erasurelaw00_Tape_Bag.l0, lE]
      rw [if_neg (by omega), e]
      rfl
    | succ m ih =>
      intro i k xs hi hxn hk hr hp
      obtain ⟨j, rfl⟩ : ∃ j, k = j + 1 := ⟨k - 1, by omega⟩
      have hlt : i < xs.length := by omega
      have b := hr xs[i] (List.getElem_mem hlt)
      simp only [erasurelaw00_Tape_Bag.l0, lE]
      rw [if_pos (by omega), if_neg (by decide), if_pos (by omega), rdE xs i hlt]
      by_cases hneg : (E xs[i]).f1 < 0
      · rw [if_pos hneg]
        have hneg' : xs[i].2 < 0 := hneg
        have hset : (xs.map E).set ((i : Int).toNat) (⟨(E xs[i]).f0, wrap64 (-((E xs[i]).f1))⟩ : S51) = (xs.set i (xs[i].1, -xs[i].2)).map E := by
          rw [show wrap64 (-((E xs[i]).f1)) = -xs[i].2 from wrap64_in _ (by show _ ≤ -xs[i].2 ∧ -xs[i].2 ≤ _; have := b.2; omega)]
          rw [List.map_set]
          rfl
        rw [hset, up1 i (by omega)]
        refine ih (i + 1) j _ (by simp; omega) (by simp; omega) (by omega) ?_ ?_
        · intro p hp'
          rcases List.mem_or_eq_of_mem_set hp' with h | rfl
          · exact hr p h
          · exact ⟨b.1, by show -2 ≤ -xs[i].2; have := b.2; omega, by show -xs[i].2 ≤ 3; have := b.2; omega⟩
        · intro q hq hqi
          rw [List.getElem_set]
          split
          · show 0 ≤ -xs[i].2; omega
          · exact hp q (by simpa using hq) (by omega)
      · rw [if_neg hneg, up1 i (by omega)]
        refine ih (i + 1) j xs (by omega) hxn (by omega) hr ?_
        intro q hq hqi
        by_cases h : q = i
        · subst h; exact Int.not_lt.1 hneg
        · exact hp q hq (by omega)
  obtain ⟨ys, e2, a2, b2, c2⟩ := this es.length 0 k es (by omega) a1 (by omega) b1 (fun _ _ h => by omega)
  refine ⟨ys, s1, ?_, a2, b2, c2, hs⟩
  unfold erasurelaw00_Tape_Bag.f
  rw [e1]
  exact e2
theorem entryP {p : Nat × Int} (h1 : p.1 < 36) (h2 : -262144 ≤ p.2) (h3 : p.2 ≤ 262144) {k : Nat} (hk : 5 ≤ k) : bag_entryFits.f k (E p).f0 (E p).f1 = some true := by
  unfold bag_entryFits.f
  rw [show value_ValidRow.f k (E p).f0 = some true from vrP hk _ h1]
  simp only [Option.bind_some, if_true]
  rw [countP (c := (E p).f1) h2 h3]
  rfl
theorem validP {ys : List (Nat × Int)} (ha : Asc ys) (hb : Bnd 1 262144 ys) (hl : ys.length < 1000) {k : Nat} (hk : ys.length + 20 ≤ k) : bag_Valid.f k (ys.map E) = some true := by
  have : ∀ (m i k : Nat), i + m = ys.length → m + 20 ≤ k → bag_Valid.l0 k (ys.map E) (ys.map E) (ys.length : Int) i = some true := by
    intro m
    induction m with
    | zero =>
      intro i k hi hk
      obtain ⟨j, rfl⟩ : ∃ j, k = j + 1 := ⟨k - 1, by omega⟩
      simp only [bag_Valid.l0, lE]
      rw [if_neg (by omega), decide_eq_true (by omega)]
    | succ m ih =>
      intro i k hi hk
      obtain ⟨j, rfl⟩ : ∃ j, k = j + 1 := ⟨k - 1, by omega⟩
      have hlt : i < ys.length := by omega
      have b := hb ys[i] (List.getElem_mem hlt)
      simp only [bag_Valid.l0, lE]
      rw [if_pos (by omega), if_pos (by omega), if_pos (by omega), rdE ys i hlt, entryP b.1 (by omega) b.2.2 (by omega)]
      simp only [Option.bind_some, if_true]
      rw [if_neg (by show ¬ ys[i].2 = 0; omega), up1 i (by omega)]
      have next := ih (i + 1) j (by omega) (by omega)
      by_cases h0 : (i : Int) > 0
      · have hw : wrap64 ((i : Int) - 1) = ((i - 1 : Nat) : Int) := by rw [wrap64_in _ (by omega)]; omega
        rw [if_pos h0, hw, if_pos (by omega), if_pos (by omega), rdE ys (i - 1) (by omega)]
        have b' := hb (ys[i - 1]'(by omega)) (List.getElem_mem _)
        rw [show value_CompareRows.f j (E (ys[i - 1]'(by omega))).f0 (E ys[i]).f0 = some (sgn (ys[i - 1]'(by omega)).1 ys[i].1) from cmpP (by omega) _ b'.1 _ b.1]
        simp only [Option.bind_some]
        have hs : sgn (ys[i - 1]'(by omega)).1 ys[i].1 = -1 := by unfold sgn; rw [if_pos (asc_get ha hlt (by omega))]
        rw [hs, if_neg (by decide)]
        exact next
      · rw [if_neg h0]
        exact next
  unfold bag_Valid.f
  rw [lE]
  exact this ys.length 0 k (by omega) hk
theorem positiveP {ys : List (Nat × Int)} (ha : Asc ys) (hb : Bnd 1 262144 ys) (hl : ys.length < 1000) {k : Nat} (hk : ys.length + 20 ≤ k) : bag_Positive.f k (ys.map E) = some true := by
  unfold bag_Positive.f
  rw [validP ha hb hl hk]
  simp only [Option.bind_some, if_true]
  have : ∀ (m i k : Nat), i + m = ys.length → m + 2 ≤ k → api_Entry_117.l0 k (ys.map E) (ys.length : Int) i = some (-1) := by
    intro m
    induction m with
    | zero =>
      intro i k hi hk
      obtain ⟨j, rfl⟩ : ∃ j, k = j + 1 := ⟨k - 1, by omega⟩
      simp only [api_Entry_117.l0, lE]
      rw [if_neg (by omega)]
    | succ m ih =>
      intro i k hi hk
      obtain ⟨j, rfl⟩ : ∃ j, k = j + 1 := ⟨k - 1, by omega⟩
      have hlt : i < ys.length := by omega
      have b := hb ys[i] (List.getElem_mem hlt)
      simp only [api_Entry_117.l0, lE]
      rw [if_pos (by omega), if_pos (by omega), if_pos (by omega), rdE ys i hlt]
      have : bag_Positive_1.f (E ys[i]).f0 (E ys[i]).f1 = some false := by
        unfold bag_Positive_1.f
        rw [decide_eq_false (by show ¬ ys[i].2 < 0; omega)]
      rw [this, up1 i (by omega)]
      simp only [Option.bind_some]
      exact ih (i + 1) j (by omega) (by omega)
  unfold api_Entry_95.f api_Entry_117.f
  rw [lE]
  have h := this ys.length 0 k (by omega) (by omega)
  rw [show ((0 : Nat) : Int) = 0 from rfl] at h
  rw [h]
  rfl
theorem validR {ys : List (Nat × Int)} (ha : Asc ys) (hb : Bnd 1 262144 ys) (hl : ys.length < 1000) {k : Nat} (hk : ys.length + 20 ≤ k) : erasureref06_Valid.f k (ys.map E) = some true := by
  have : ∀ (m i k : Nat), i + m = ys.length → m + 20 ≤ k → erasureref06_Valid.l0 k (ys.map E) i = some true := by
    intro m
    induction m with
    | zero =>
      intro i k hi hk
      obtain ⟨j, rfl⟩ : ∃ j, k = j + 1 := ⟨k - 1, by omega⟩
      simp only [erasureref06_Valid.l0, lE]
      rw [if_neg (by omega)]
    | succ m ih =>
      intro i k hi hk
      obtain ⟨j, rfl⟩ : ∃ j, k = j + 1 := ⟨k - 1, by omega⟩
      have hlt : i < ys.length := by omega
      have b := hb ys[i] (List.getElem_mem hlt)
      simp only [erasureref06_Valid.l0, lE]
      rw [if_pos (by omega), if_pos (by omega), rdE ys i hlt, show erasureref01_ValidRow.f j (E ys[i]).f0 = some true from vrR (by omega) _ b.1]
      simp only [Option.bind_some, if_true]
      rw [countR (c := (E ys[i]).f1) (by show -262144 ≤ ys[i].2; omega) b.2.2]
      simp only [Option.bind_some, if_true]
      rw [if_neg (by show ¬ ys[i].2 = 0; omega), up1 i (by omega)]
      have next := ih (i + 1) j (by omega) (by omega)
      by_cases h0 : (i : Int) > 0
      · have hw : wrap64 ((i : Int) - 1) = ((i - 1 : Nat) : Int) := by rw [wrap64_in _ (by omega)]; omega
        rw [if_pos h0, hw, if_pos (by omega), if_pos (by omega), rdE ys (i - 1) (by omega)]
        have b' := hb (ys[i - 1]'(by omega)) (List.getElem_mem _)
        rw [show erasureref01_CompareRows.f j (E (ys[i - 1]'(by omega))).f0 (E ys[i]).f0 = some (sgn (ys[i - 1]'(by omega)).1 ys[i].1) from cmpR (by omega) _ b'.1 _ b.1]
        simp only [Option.bind_some]
        have hs : sgn (ys[i - 1]'(by omega)).1 ys[i].1 = -1 := by unfold sgn; rw [if_pos (asc_get ha hlt (by omega))]
        rw [hs, if_neg (by decide)]
        exact next
      · rw [if_neg h0]
        exact next
  unfold erasureref06_Valid.f
  rw [lE, if_neg (by omega)]
  exact this ys.length 0 k (by omega) hk
theorem hash_ok {i r : Nat} (hi : i < 6) (hr : r < 3) {k : Nat} (hk : 40 ≤ k) : ∃ h, sketch_Hash.f k (val i).f0 (val i).f1 (val i).f2 r = some h ∧ 0 ≤ h ∧ h < 18446744073709551616 := by
  have := (by decide +kernel : ∀ i < 6, ∀ r < 3, ((sketch_Hash.f 40 (val i).f0 (val i).f1 (val i).f2 (r : Nat)).map fun h => decide (0 ≤ h ∧ h < 18446744073709551616)) = some true) i hi r hr
  cases e : sketch_Hash.f 40 (val i).f0 (val i).f1 (val i).f2 r with
  | none => rw [e] at this; cases this
  | some h =>
    rw [e] at this
    refine ⟨h, up (f := fun k => sketch_Hash.f k (val i).f0 (val i).f1 (val i).f2 r) (sketch_Hash.mono _ _ _ _) e hk, ?_⟩
    simpa using this
theorem places_ok {i : Nat} (hi : i < 6) {n1 n2 : ByteArray} {c kd w d : Int} (hw : 1 ≤ w) (hw2 : w ≤ 64) (hd : 1 ≤ d) (hd2 : d ≤ 3) {k : Nat} (hk : 60 ≤ k) :
    ∃ ps, sketch_places.f k n1 n2 c kd w d (val i).f0 (val i).f1 (val i).f2 = some ps ∧ ps.length = d.toNat ∧ ∀ p ∈ ps, 0 ≤ p ∧ p < w * d := by
  have : ∀ (m r k : Nat) (acc : List Int), (r : Int) + m = d → m + 50 ≤ k → acc.length = r → (∀ p ∈ acc, 0 ≤ p ∧ p < w * d) →
      ∃ ps, sketch_places.l0 k acc d r n1 n2 c kd w d (val i).f0 (val i).f1 (val i).f2 = some ps ∧ ps.length = d.toNat ∧ ∀ p ∈ ps, 0 ≤ p ∧ p < w * d := by
    intro m
    induction m with
    | zero =>
      intro r k acc hr hk ha hb
      obtain ⟨j, rfl⟩ : ∃ j, k = j + 1 := ⟨k - 1, by omega⟩
      simp only [sketch_places.l0]
      rw [if_neg (by omega)]
      exact ⟨acc, rfl, by omega, hb⟩
    | succ m ih =>
      intro r k acc hr hk ha hb
      obtain ⟨j, rfl⟩ : ∃ j, k = j + 1 := ⟨k - 1, by omega⟩
      obtain ⟨h, e, h0, h1⟩ := hash_ok hi (r := r) (by omega) (k := j) (by omega)
      simp only [sketch_places.l0]
      have hu : IntKind.u64.wrap w = w := by rw [u64w]; omega
      rw [if_pos (by omega), e]
      simp only [Option.bind_some]
      rw [hu, if_neg (by omega), if_pos (by omega), up1 r (by omega)]
      have t0 : 0 ≤ Int.tmod h w := Int.tmod_nonneg _ h0
      have t1 : Int.tmod h w < w := Int.tmod_lt_of_pos _ (by omega)
      have rw0 : (0 : Int) ≤ (r : Int) * w := Int.mul_nonneg (by omega) (by omega)
      have rw1 : (r : Int) * w ≤ 2 * w := Int.mul_le_mul_of_nonneg_right (by omega) (by omega)
      have rw2 : ((r : Int) + 1) * w ≤ d * w := Int.mul_le_mul_of_nonneg_right (by omega) (by omega)
      rw [Int.add_mul, Int.one_mul, Int.mul_comm d w] at rw2
      rw [wrap64_in ((r : Int) * w) (by omega), wrap64_in (Int.tmod h w) (by omega), wrap64_in _ (by omega)]
      refine ih (r + 1) j _ (by omega) (by omega) (by simp; omega) ?_
      intro p hp
      rcases List.mem_append.1 hp with hp | hp
      · exact hb p hp
      · rw [List.mem_singleton] at hp
        omega
  have h := this d.toNat 0 k [] (by omega) (by omega) rfl (by simp)
  unfold sketch_places.f
  exact h
theorem formed_ok {n1 n2 : ByteArray} {c kd w d : Int} (hkd : kd = 0 ∨ kd = 1 ∨ kd = 2) (hw : 1 ≤ w) (hw2 : w ≤ 64) (hd : 1 ≤ d) (hd2 : d ≤ 3) (h2 : kd = 2 → d = 1) {k : Nat} (hk : 3 ≤ k) : sketch_wellFormed.f k n1 n2 c kd w d = some true := by
  obtain ⟨j, rfl⟩ : ∃ j, k = j + 2 := ⟨k - 2, by omega⟩
  have m1 : w * d ≤ 64 * 3 := Int.mul_le_mul hw2 hd2 (by omega) (by omega)
  have m0 : 0 ≤ w * d := Int.mul_nonneg (by omega) (by omega)
  unfold sketch_wellFormed.f
  rw [if_neg (by omega), if_neg (by omega), if_neg (by omega), if_neg (by omega), wrap64_in _ (by omega), decide_eq_false (by omega)]
  simp only [sketch_wellFormed.j0, sketch_wellFormed.j1]
  rcases hkd with rfl | rfl | rfl
  · simp
  · simp
  · simp [h2 rfl]
theorem same_ok (c : List Int) (hl : c.length < 1000) {k : Nat} (hk : c.length + 2 ≤ k) : erasureref12_Same.f k c c = some true := by
  unfold erasureref12_Same.f
  rw [if_pos rfl]
  have : ∀ (m i k : Nat), i + m = c.length → m + 2 ≤ k → erasureref12_Same.l0 k c c i = some true := by
    intro m
    induction m with
    | zero =>
      intro i k hi hk
      obtain ⟨j, rfl⟩ : ∃ j, k = j + 1 := ⟨k - 1, by omega⟩
      simp only [erasureref12_Same.l0]
      rw [if_neg (by omega)]
    | succ m ih =>
      intro i k hi hk
      obtain ⟨j, rfl⟩ : ∃ j, k = j + 1 := ⟨k - 1, by omega⟩
      simp only [erasureref12_Same.l0]
      rw [if_pos (by omega), if_pos (by omega), if_pos (by omega), if_pos trivial, up1 i (by omega)]
      exact ih (i + 1) j (by omega) (by omega)
  exact this c.length 0 k (by omega) hk
theorem placesAll {n1 n2 : ByteArray} {c kd w d : Int} (hw : 1 ≤ w) (hw2 : w ≤ 64) (hd : 1 ≤ d) (hd2 : d ≤ 3) :
    ∃ P : Nat → List Int, ∀ i < 6, (∀ k, 60 ≤ k → sketch_places.f k n1 n2 c kd w d (val i).f0 (val i).f1 (val i).f2 = some (P i)) ∧ (P i).length ≤ 3 ∧ ∀ p ∈ P i, 0 ≤ p ∧ p < w * d := by
  have h : ∀ i, i < 6 → ∃ ps, sketch_places.f 60 n1 n2 c kd w d (val i).f0 (val i).f1 (val i).f2 = some ps ∧ ps.length = d.toNat ∧ ∀ p ∈ ps, 0 ≤ p ∧ p < w * d := fun i hi => places_ok hi hw hw2 hd hd2 (by omega)
  refine ⟨fun i => if hi : i < 6 then Classical.choose (h i hi) else [], fun i hi => ?_⟩
  simp only [dif_pos hi]
  obtain ⟨h1, h2, h3⟩ := Classical.choose_spec (h i hi)
  exact ⟨fun k hk => up (f := fun k => sketch_places.f k n1 n2 c kd w d (val i).f0 (val i).f1 (val i).f2) (sketch_places.mono _ _ _ _ _ _ _ _ _) h1 hk, by omega, h3⟩
def hit : List Int → Nat → Int
  | [], _ => 0
  | p :: r, q => (if p.toNat = q then 1 else 0) + hit r q
theorem hit_nn : ∀ (l : List Int) (q : Nat), 0 ≤ hit l q
  | [], _ => Int.le_refl _
  | p :: r, q => by
    have := hit_nn r q
    unfold hit
    split <;> omega
theorem hit_le : ∀ (l : List Int) (q : Nat), hit l q ≤ l.length
  | [], _ => Int.le_refl _
  | p :: r, q => by
    have := hit_le r q
    unfold hit
    simp only [List.length_cons]
    split <;> omega
theorem getD_set (c : List Int) (i q : Nat) (v : Int) (h : i < c.length) : (c.set i v).getD q 0 = if i = q then v else c.getD q 0 := by
  simp only [List.getD_eq_getElem?_getD, List.getElem?_set]
  by_cases e : i = q
  · subst e; simp [h]
  · simp [e]
theorem count_l0 {w d : Int} {n1 n2 : ByteArray} {cc n : Int} {ps : List Int} (hp : ∀ p ∈ ps, 0 ≤ p ∧ p < w * d) (hpl : ps.length ≤ 3) (hn0 : 0 ≤ n) (hn : n ≤ 1000) :
    ∀ (m i k : Nat) (c : List Int) (b : Nat → Int), i + m = ps.length → m + 2 ≤ k → (c.length : Int) = w * d → (∀ q, c.getD q 0 = b q) → (∀ q, 0 ≤ b q ∧ b q ≤ 10000000 - 1000 * m) →
      ∃ c', sketch_add.l0 k c n ps (ps.length : Int) i n1 n2 cc 0 w d = some c' ∧ (c'.length : Int) = w * d ∧ ∀ q, c'.getD q 0 = b q + n * hit (ps.drop i) q := by
  intro m
  induction m with
  | zero =>
    intro i k c b hi hk hc hb hB
    obtain ⟨j, rfl⟩ : ∃ j, k = j + 1 := ⟨k - 1, by omega⟩
    simp only [sketch_add.l0]
    rw [if_neg (by omega)]
    refine ⟨c, rfl, hc, fun q => ?_⟩
    rw [List.drop_eq_nil_of_le (by omega), hb q, hit]
    omega
  | succ m ih =>
    intro i k c b hi hk hc hb hB
    obtain ⟨j, rfl⟩ : ∃ j, k = j + 1 := ⟨k - 1, by omega⟩
    have hlt : i < ps.length := by omega
    have hr : rd ps i = ps[i] := by simp [rd, List.getD_eq_getElem?_getD, hlt]
    have hbp := hp ps[i] (List.getElem_mem hlt)
    have hrc : rd c ps[i] = b (ps[i].toNat) := hb _
    have hB1 := hB ps[i].toNat
    simp only [sketch_add.l0]
    rw [if_pos (by omega), if_pos (by omega), if_pos (by omega), if_neg (by decide), hr, if_pos hbp.1, if_pos (by rw [hc]; exact hbp.2), up1 i (by omega), hrc, wrap64_in _ (by omega)]
    obtain ⟨c', e, h1, h2⟩ := ih (i + 1) j (c.set ps[i].toNat (b ps[i].toNat + n)) (fun q => if ps[i].toNat = q then b ps[i].toNat + n else b q) (by omega) (by omega) (by rw [List.length_set]; exact hc)
      (fun q => by rw [getD_set _ _ _ _ (by omega)]; split
                   · rfl
                   · exact hb q)
      (fun q => by
        have := hB q
        by_cases h : ps[i].toNat = q
        · simp only [if_pos h]; omega
        · simp only [if_neg h]; omega)
    refine ⟨c', e, h1, fun q => ?_⟩
    rw [h2 q, List.drop_eq_getElem_cons hlt, hit, Int.mul_add]
    by_cases h : ps[i].toNat = q
    · simp only [if_pos h]; rw [← h]; omega
    · simp only [if_neg h]; omega
def W (PP : Nat → List Int) : List (Nat × Int) → Nat → Int
  | [], _ => 0
  | x :: r, q => x.2 * hit (PP x.1) q + W PP r q
theorem W_merg (PP : Nat → List Int) (q : Nat) : ∀ (xs ys : List (Nat × Int)), W PP (merg xs ys) q = W PP xs q + W PP ys q := by
  intro xs ys
  induction xs, ys using merg.induct with
  | case1 ys => rw [merg]; simp [W]
  | case2 x xs => rw [merg]; simp [W]
  | case3 x xs y ys h ih => rw [merg, if_pos h]; simp only [W] at *; omega
  | case4 x xs y ys h h2 h3 ih =>
    rw [merg, if_neg h, if_pos h2, if_pos h3, ih]
    simp only [W]
    have : x.2 * hit (PP x.1) q + y.2 * hit (PP y.1) q = 0 := by rw [h2, ← Int.add_mul, h3, Int.zero_mul]
    omega
  | case5 x xs y ys h h2 h3 ih =>
    rw [merg, if_neg h, if_pos h2, if_neg h3]
    simp only [W]
    rw [ih, Int.add_mul]
    have : y.2 * hit (PP x.1) q = y.2 * hit (PP y.1) q := by rw [h2]
    omega
  | case6 x xs y ys h h2 ih => rw [merg, if_neg h, if_neg h2]; simp only [W] at *; omega
theorem W_nn {PP : Nat → List Int} {b : Int} : ∀ (ys : List (Nat × Int)), Bnd 1 b ys → ∀ q, 0 ≤ W PP ys q
  | [], _, _ => Int.le_refl _
  | x :: r, h, q => by
    have := W_nn (PP := PP) r (fun p hp => h p (List.mem_cons_of_mem _ hp)) q
    have hx := h x (by simp)
    have := Int.mul_nonneg (show 0 ≤ x.2 by omega) (hit_nn (PP x.1) q)
    simp only [W]
    omega
theorem W_le {PP : Nat → List Int} (hP : ∀ x < 36, (PP x).length ≤ 3) : ∀ (ys : List (Nat × Int)), Bnd 1 300 ys → ∀ q, W PP ys q ≤ 900 * ys.length
  | [], _, _ => Int.le_refl _
  | x :: r, h, q => by
    have := W_le hP r (fun p hp => h p (List.mem_cons_of_mem _ hp)) q
    have hx := h x (by simp)
    have h1 := hit_le (PP x.1) q
    have h2 := hit_nn (PP x.1) q
    have h3 := hP x.1 hx.1
    have : x.2 * hit (PP x.1) q ≤ 300 * 3 := Int.mul_le_mul hx.2.2 (by omega) h2 (by omega)
    simp only [W, List.length_cons]
    omega
def PPof (P : Nat → List Int) (cc : Int) (x : Nat) : List Int := if cc = 0 then (if x / 6 = 0 then [] else P (x / 6)) else if cc = 1 then (if x % 6 = 0 then [] else P (x % 6)) else []
theorem PP_col (P : Nat → List Int) {x : Nat} (hx : x < 36) {cc : Int} (h0 : 0 ≤ cc) (h1 : cc < 2) : ∃ i < 6, rd_T23 (row x) cc = val i ∧ PPof P cc x = if i = 0 then [] else P i := by
  have : cc = 0 ∨ cc = 1 := by omega
  rcases this with rfl | rfl
  · exact ⟨x / 6, by omega, rfl, rfl⟩
  · exact ⟨x % 6, by omega, rfl, rfl⟩
theorem val0 : ∀ i < 6, ((val i).f0 = 0 ↔ i = 0) := by decide +kernel
theorem valV : ∀ i < 6, value_Valid.f (val i).f0 (val i).f1 (val i).f2 = some true := by decide +kernel
theorem count_add {P : Nat → List Int} {n1 n2 : ByteArray} {cc w d : Int}
    (hP : ∀ i < 6, (∀ k, 60 ≤ k → sketch_places.f k n1 n2 cc 0 w d (val i).f0 (val i).f1 (val i).f2 = some (P i)) ∧ (P i).length ≤ 3 ∧ ∀ p ∈ P i, 0 ≤ p ∧ p < w * d)
    {i : Nat} (hi : i < 6) {n : Int} (hn0 : 1 ≤ n) (hn : n ≤ 1000) {c : List Int} {b : Nat → Int} (hc : (c.length : Int) = w * d) (hb : ∀ q, c.getD q 0 = b q) (hB : ∀ q, 0 ≤ b q ∧ b q ≤ 9000000) {k : Nat} (hk : 100 ≤ k) :
    ∃ c', sketch_add.f k n1 n2 cc 0 w d c (val i).f0 (val i).f1 (val i).f2 n = some c' ∧ (c'.length : Int) = w * d ∧ ∀ q, c'.getD q 0 = b q + n * hit (if i = 0 then [] else P i) q := by
  obtain ⟨j, rfl⟩ : ∃ j, k = j + 1 := ⟨k - 1, by omega⟩
  unfold sketch_add.f
  by_cases h0 : i = 0
  · rw [if_pos ((val0 i hi).2 h0)]
    simp only [sketch_add.j0]
    rw [if_pos trivial]
    refine ⟨c, rfl, hc, fun q => ?_⟩
    rw [if_pos h0, hb q, hit]
    omega
  · rw [if_neg (fun h => h0 ((val0 i hi).1 h)), show (n == 0) = false from by simp; omega]
    simp only [sketch_add.j0]
    obtain ⟨e, hl, hp⟩ := hP i hi
    rw [if_neg (by simp), if_neg (by decide), e j (by omega)]
    simp only [Option.bind_some]
    obtain ⟨c', e2, h1, h2⟩ := count_l0 (n1 := n1) (n2 := n2) (cc := cc) hp hl (by omega) hn (P i).length 0 j c b (by omega) (by omega) hc hb (fun q => ⟨(hB q).1, by have := (hB q).2; omega⟩)
    refine ⟨c', e2, h1, fun q => ?_⟩
    rw [h2 q, if_neg h0]
    rfl
theorem count_build_l0 {P : Nat → List Int} {n1 n2 : ByteArray} {cc w d : Int} (hc0 : 0 ≤ cc)
    (hP : ∀ i < 6, (∀ k, 60 ≤ k → sketch_places.f k n1 n2 cc 0 w d (val i).f0 (val i).f1 (val i).f2 = some (P i)) ∧ (P i).length ≤ 3 ∧ ∀ p ∈ P i, 0 ≤ p ∧ p < w * d)
    {ys : List (Nat × Int)} (hb : Bnd 1 300 ys) (hl : ys.length < 100) :
    ∀ (m i k : Nat) (z : List Int) (b : Nat → Int), i + m = ys.length → m + 110 ≤ k → (z.length : Int) = w * d → (∀ q, z.getD q 0 = b q) → (∀ q, 0 ≤ b q ∧ b q ≤ 900 * i) →
      ∃ c', sketch_Build.l0 k z (ys.map E) (ys.length : Int) i n1 n2 cc 0 w d = some (c', 0) ∧ (c'.length : Int) = w * d ∧ ∀ q, c'.getD q 0 = b q + W (PPof P cc) (ys.drop i) q := by
  intro m
  induction m with
  | zero =>
    intro i k z b hi hk hz hzb hB
    obtain ⟨j, rfl⟩ : ∃ j, k = j + 1 := ⟨k - 1, by omega⟩
    simp only [sketch_Build.l0]
    rw [if_neg (by omega)]
    refine ⟨z, rfl, hz, fun q => ?_⟩
    rw [List.drop_eq_nil_of_le (by omega), W, hzb q]
    omega
  | succ m ih =>
    intro i k z b hi hk hz hzb hB
    obtain ⟨j, rfl⟩ : ∃ j, k = j + 1 := ⟨k - 1, by omega⟩
    have hlt : i < ys.length := by omega
    have bb := hb ys[i] (List.getElem_mem hlt)
    simp only [sketch_Build.l0, lE]
    rw [rdE ys i hlt]
    have hlen : ((E ys[i]).f0.length : Int) = 2 := rfl
    rw [hlen]
    have i1 : (i : Int) < (ys.length : Int) := by omega
    have i0 : (0 : Int) ≤ (i : Int) := by omega
    rw [if_pos i1, if_pos i0, if_pos i1]
    by_cases h : cc < 2
    · rw [if_pos h, if_pos hc0]
      obtain ⟨v, hv, ev, ep⟩ := PP_col P bb.1 hc0 h
      rw [show rd_T23 (E ys[i]).f0 cc = val v from ev]
      obtain ⟨c', e, h1, h2⟩ := count_add hP hv (n := ys[i].2) bb.2.1 (by omega) hz hzb (fun q => ⟨(hB q).1, by have := (hB q).2; omega⟩) (k := j) (by omega)
      rw [show (E ys[i]).f1 = ys[i].2 from rfl, e]
      simp only [Option.bind_some]
      rw [up1 i (by omega)]
      rw [← ep] at h2
      have hPl : (PPof P cc ys[i].1).length ≤ 3 := by
        rw [ep]
        split
        · simp
        · exact (hP v hv).2.1
      obtain ⟨c2, e2, h3, h4⟩ := ih (i + 1) j c' (fun q => b q + ys[i].2 * hit (PPof P cc ys[i].1) q) (by omega) (by omega) h1 h2 (fun q => by
        have g1 := hit_nn (PPof P cc ys[i].1) q
        have g2 := hit_le (PPof P cc ys[i].1) q
        have g3 := Int.mul_nonneg (show 0 ≤ ys[i].2 by omega) g1
        have g4 : ys[i].2 * hit (PPof P cc ys[i].1) q ≤ 300 * 3 := Int.mul_le_mul bb.2.2 (by omega) g1 (by omega)
        have := hB q
        show 0 ≤ b q + _ ∧ b q + _ ≤ _
        omega)
      refine ⟨c2, e2, h3, fun q => ?_⟩
      rw [h4 q, List.drop_eq_getElem_cons hlt, W]
      omega
    · rw [if_neg h, up1 i (by omega)]
      obtain ⟨c2, e2, h3, h4⟩ := ih (i + 1) j z b (by omega) (by omega) hz hzb (fun q => by have := hB q; omega)
      refine ⟨c2, e2, h3, fun q => ?_⟩
      rw [h4 q, List.drop_eq_getElem_cons hlt, W]
      have : PPof P cc ys[i].1 = [] := by unfold PPof; rw [if_neg (by omega), if_neg (by omega)]
      rw [this, hit]
      omega
theorem count_build {P : Nat → List Int} {n1 n2 : ByteArray} {cc w d : Int} (hc0 : 0 ≤ cc) (hw : 1 ≤ w) (hw2 : w ≤ 64) (hd : 1 ≤ d) (hd2 : d ≤ 3)
    (hP : ∀ i < 6, (∀ k, 60 ≤ k → sketch_places.f k n1 n2 cc 0 w d (val i).f0 (val i).f1 (val i).f2 = some (P i)) ∧ (P i).length ≤ 3 ∧ ∀ p ∈ P i, 0 ≤ p ∧ p < w * d)
    {ys : List (Nat × Int)} (ha : Asc ys) (hb : Bnd 1 300 ys) (hl : ys.length < 100) {k : Nat} (hk : 400 ≤ k) :
    ∃ c', sketch_Build.f k n1 n2 cc 0 w d (ys.map E) = some (c', 0) ∧ (c'.length : Int) = w * d ∧ ∀ q, c'.getD q 0 = W (PPof P cc) ys q := by
  obtain ⟨j, rfl⟩ : ∃ j, k = j + 1 := ⟨k - 1, by omega⟩
  have m1 : w * d ≤ 64 * 3 := Int.mul_le_mul hw2 hd2 (by omega) (by omega)
  have m0 : 0 ≤ w * d := Int.mul_nonneg (by omega) (by omega)
  obtain ⟨c', e1, h1, h2⟩ := count_build_l0 (n1 := n1) (n2 := n2) hc0 hP hb hl ys.length 0 j (List.replicate (w * d).toNat 0) (fun _ => 0) (by omega) (by omega) (by simp; omega)
    (fun q => by rw [List.getD_eq_getElem?_getD, List.getElem?_replicate]; split <;> rfl) (fun q => by simp)
  refine ⟨c', ?_, h1, fun q => by rw [h2 q]; simp⟩
  have hb' : Bnd 1 262144 ys := fun p hp => ⟨(hb p hp).1, (hb p hp).2.1, by have := (hb p hp).2.2; omega⟩
  unfold sketch_Build.f
  rw [formed_ok (by omega) hw hw2 hd hd2 (fun h => absurd h (by decide)) (by omega)]
  simp only [Option.bind_some]
  rw [if_pos trivial, if_neg (by omega), positiveP ha hb' (by omega) (by omega)]
  simp only [Option.bind_some, sketch_Build.j0, Bool.not_true]
  rw [if_neg (by decide)]
  unfold sketch_empty.f
  rw [if_neg (by decide), wrap64_in _ (by omega), if_pos m0, if_pos (by omega)]
  simp only [Option.bind_some, lE]
  exact e1
theorem refadd_ok {xs ys : List (Nat × Int)} (hx : Asc xs) (hy : Asc ys) (bx : Bnd 1 60 xs) (bY : Bnd 1 60 ys) (lx : xs.length < 50) (ly : ys.length < 50) {k : Nat} (hk : 500 ≤ k) :
    erasureref06_Add.f k (xs.map E) (ys.map E) = some ((merg xs ys).map E, 0) := by
  obtain ⟨j, rfl⟩ : ∃ j, k = j + 1 := ⟨k - 1, by omega⟩
  have wide : ∀ {zs : List (Nat × Int)}, Bnd 1 60 zs → ∀ p ∈ zs, Wide p := fun h p hp => ⟨(h p hp).1, by have := (h p hp).2; omega, by have := (h p hp).2; omega⟩
  have big : ∀ {zs : List (Nat × Int)}, Bnd 1 60 zs → Bnd 1 262144 zs := fun h p hp => ⟨(h p hp).1, (h p hp).2.1, by have := (h p hp).2; omega⟩
  unfold erasureref06_Add.f
  rw [validR hx (big bx) (by omega) (by omega)]
  simp only [Option.bind_some]
  rw [if_pos trivial, validR hy (big bY) (by omega) (by omega)]
  simp only [Option.bind_some, erasureref06_Add.j0, Bool.not_true]
  rw [if_neg (by decide), merge_ok (wide bx) (wide bY) (by omega) (by omega) (by omega)]
  simp only [Option.bind_some]
  have hm := merg_bnd xs ys bx bY (by decide) (by decide)
  have hl := merg_len xs ys
  rw [fits_ok (fun p hp => ⟨(hm p hp).1, (hm p hp).2.1, by have := (hm p hp).2.2; omega⟩) (by omega) (by omega)]
  rfl
theorem rem_l0 {w d n : Int} {ps : List Int} (hp : ∀ p ∈ ps, 0 ≤ p ∧ p < w * d) (hpl : ps.length ≤ 3) (hn0 : 0 ≤ n) (hn : n ≤ 1000) :
    ∀ (m i k : Nat) (c : List Int) (b : Nat → Int), i + m = ps.length → m + 2 ≤ k → (c.length : Int) = w * d → (∀ q, c.getD q 0 = b q + n * hit (ps.drop i) q) → (∀ q, 0 ≤ b q ∧ b q ≤ 10000000) →
      ∃ c', sketch_Remove.l0 k n c ps (ps.length : Int) i = some (c', 0) ∧ (c'.length : Int) = w * d ∧ ∀ q, c'.getD q 0 = b q := by
  intro m
  induction m with
  | zero =>
    intro i k c b hi hk hc hb hB
    obtain ⟨j, rfl⟩ : ∃ j, k = j + 1 := ⟨k - 1, by omega⟩
    simp only [sketch_Remove.l0]
    rw [if_neg (by omega)]
    refine ⟨c, rfl, hc, fun q => ?_⟩
    rw [hb q, List.drop_eq_nil_of_le (by omega), hit]
    omega
  | succ m ih =>
    intro i k c b hi hk hc hb hB
    obtain ⟨j, rfl⟩ : ∃ j, k = j + 1 := ⟨k - 1, by omega⟩
    have hlt : i < ps.length := by omega
    have hr : rd ps i = ps[i] := by simp [rd, List.getD_eq_getElem?_getD, hlt]
    have hbp := hp ps[i] (List.getElem_mem hlt)
    have hd : ∀ q, hit (ps.drop i) q = (if ps[i].toNat = q then 1 else 0) + hit (ps.drop (i + 1)) q := fun q => by rw [List.drop_eq_getElem_cons hlt, hit]
    have hrc : rd c ps[i] = b ps[i].toNat + n * (1 + hit (ps.drop (i + 1)) ps[i].toNat) := by
      have := hb ps[i].toNat
      rw [hd, if_pos rfl] at this
      exact this
    rw [Int.mul_add, Int.mul_one] at hrc
    have h1 := hit_nn (ps.drop (i + 1)) ps[i].toNat
    have h2 := hit_le (ps.drop (i + 1)) ps[i].toNat
    have h3 : ((ps.drop (i + 1)).length : Int) ≤ 3 := by rw [List.length_drop]; omega
    have h4 := Int.mul_nonneg hn0 h1
    have h5 : n * hit (ps.drop (i + 1)) ps[i].toNat ≤ 1000 * 3 := Int.mul_le_mul hn (by omega) h1 (by omega)
    have h6 := hB ps[i].toNat
    simp only [sketch_Remove.l0]
    rw [if_pos (by omega), if_pos (by omega), if_pos (by omega), hr, if_pos hbp.1, if_pos (by rw [hc]; exact hbp.2), hrc, if_neg (by omega), up1 i (by omega), wrap64_in _ (by omega)]
    refine ih (i + 1) j _ b (by omega) (by omega) (by rw [List.length_set]; exact hc) (fun q => ?_) hB
    rw [getD_set _ _ _ _ (by omega)]
    by_cases h : ps[i].toNat = q
    · rw [if_pos h, ← h]; omega
    · rw [if_neg h, hb q, hd q, if_neg h, Int.zero_add]
theorem cnt_valid {n1 n2 : ByteArray} {cc w d : Int} (hw : 1 ≤ w) (hw2 : w ≤ 64) (hd : 1 ≤ d) (hd2 : d ≤ 3) {c : List Int} (hc : (c.length : Int) = w * d) (hb : ∀ q, 0 ≤ c.getD q 0 ∧ c.getD q 0 ≤ 1073741824) {k : Nat} (hk : 3 ≤ k) : sketch_Valid.f k n1 n2 cc 0 w d c = some true := by
  have m1 : w * d ≤ 64 * 3 := Int.mul_le_mul hw2 hd2 (by omega) (by omega)
  have m0 : 0 ≤ w * d := Int.mul_nonneg (by omega) (by omega)
  unfold sketch_Valid.f
  rw [formed_ok (by omega) hw hw2 hd hd2 (fun h => absurd h (by decide)) hk]
  simp only [Option.bind_some]
  rw [if_pos trivial, if_neg (by decide), wrap64_in _ (by omega), decide_eq_true hc, if_neg (by decide)]
  have : c.any (sketch_Valid.bad 1073741824) = false := by
    rw [List.any_eq_false]
    intro x hx
    obtain ⟨q, hq, rfl⟩ := List.getElem_of_mem hx
    have := hb q
    rw [List.getD_eq_getElem?_getD, List.getElem?_eq_getElem hq, Option.getD_some] at this
    unfold sketch_Valid.bad
    rw [decide_eq_false (by omega), decide_eq_false (by omega)]
    decide
  simp [this]
theorem remove_ok {P : Nat → List Int} {n1 n2 : ByteArray} {cc w d : Int} (hw : 1 ≤ w) (hw2 : w ≤ 64) (hd : 1 ≤ d) (hd2 : d ≤ 3)
    (hP : ∀ i < 6, (∀ k, 60 ≤ k → sketch_places.f k n1 n2 cc 0 w d (val i).f0 (val i).f1 (val i).f2 = some (P i)) ∧ (P i).length ≤ 3 ∧ ∀ p ∈ P i, 0 ≤ p ∧ p < w * d)
    {i : Nat} (hi : i < 6) {n : Int} (hn0 : 1 ≤ n) (hn : n ≤ 1000) {c : List Int} {b : Nat → Int} (hc : (c.length : Int) = w * d) (hb : ∀ q, c.getD q 0 = b q + n * hit (if i = 0 then [] else P i) q) (hB : ∀ q, 0 ≤ b q ∧ b q ≤ 10000000) {k : Nat} (hk : 100 ≤ k) :
    ∃ c', sketch_Remove.f k n1 n2 cc 0 w d c (val i).f0 (val i).f1 (val i).f2 n = some (c', 0) ∧ (c'.length : Int) = w * d ∧ ∀ q, c'.getD q 0 = b q := by
  obtain ⟨j, rfl⟩ : ∃ j, k = j + 1 := ⟨k - 1, by omega⟩
  have m1 : w * d ≤ 64 * 3 := Int.mul_le_mul hw2 hd2 (by omega) (by omega)
  have hcb : ∀ q, 0 ≤ c.getD q 0 ∧ c.getD q 0 ≤ 1073741824 := fun q => by
    have g1 := hit_nn (if i = 0 then [] else P i) q
    have g2 := hit_le (if i = 0 then [] else P i) q
    have g0 : ((if i = 0 then [] else P i).length : Int) ≤ 3 := by
      split
      · simp
      · have := (hP i hi).2.1; omega
    have g3 := Int.mul_nonneg (show 0 ≤ n by omega) g1
    have g4 : n * hit (if i = 0 then [] else P i) q ≤ 1000 * 3 := Int.mul_le_mul hn (by omega) g1 (by omega)
    have := hB q
    rw [hb q]
    omega
  have hfit : sketch_fits.f (j + 1) n1 n2 cc 0 w d c (val i).f0 (val i).f1 (val i).f2 n = some true := by
    unfold sketch_fits.f
    rw [cnt_valid hw hw2 hd hd2 hc hcb (by omega)]
    simp only [Option.bind_some]
    rw [if_pos trivial, valV i hi]
    simp only [Option.bind_some]
    rw [if_pos trivial, if_pos (by omega), decide_eq_true (by omega)]
  unfold sketch_Remove.f
  rw [hfit]
  simp only [Option.bind_some]
  rw [if_pos trivial]
  unfold slices_Clone_int64_int64.f
  rw [if_pos (by omega)]
  simp only [Option.bind_some]
  by_cases h0 : i = 0
  · rw [if_pos ((val0 i hi).2 h0)]
    simp only [sketch_Remove.j0]
    rw [if_pos trivial]
    refine ⟨c, rfl, hc, fun q => ?_⟩
    rw [hb q, if_pos h0, hit]
    omega
  · rw [if_neg (fun h => h0 ((val0 i hi).1 h)), show (n == 0) = false from by simp; omega]
    simp only [sketch_Remove.j0]
    obtain ⟨e, hl, hp⟩ := hP i hi
    rw [if_neg (by simp), if_pos trivial, e j (by omega)]
    simp only [Option.bind_some]
    exact rem_l0 hp hl (by omega) hn (P i).length 0 j c b (by omega) (by omega) hc (fun q => by rw [hb q, if_neg h0]; rfl) hB
theorem eq_of_getD {c c' : List Int} (hl : c.length = c'.length) (h : ∀ q, c.getD q 0 = c'.getD q 0) : c = c' := by
  refine List.ext_getElem hl fun i h1 h2 => ?_
  have := h i
  rw [List.getD_eq_getElem?_getD, List.getD_eq_getElem?_getD, List.getElem?_eq_getElem h1, List.getElem?_eq_getElem h2] at this
  exact this
theorem forgets_l0 {P : Nat → List Int} {n1 n2 : ByteArray} {cc w d : Int} (hc0 : 0 ≤ cc) (hw : 1 ≤ w) (hw2 : w ≤ 64) (hd : 1 ≤ d) (hd2 : d ≤ 3)
    (hP : ∀ i < 6, (∀ k, 60 ≤ k → sketch_places.f k n1 n2 cc 0 w d (val i).f0 (val i).f1 (val i).f2 = some (P i)) ∧ (P i).length ≤ 3 ∧ ∀ p ∈ P i, 0 ≤ p ∧ p < w * d)
    {a g : List (Nat × Int)} (aa : Asc a) (ba : Bnd 1 300 a) (bg : Bnd 1 300 g) (la : a.length < 50) (lg : g.length < 50) :
    ∀ (m i k : Nat) (c : List Int), i + m = g.length → 2 * m + 700 ≤ k → (c.length : Int) = w * d → (∀ q, c.getD q 0 = W (PPof P cc) a q + W (PPof P cc) (g.drop i) q) →
      erasurelaw12_SketchForgets.l0 k (a.map E) (g.map E) c 0 i n1 n2 cc 0 w d = some true := by
  have m1 : w * d ≤ 64 * 3 := Int.mul_le_mul hw2 hd2 (by omega) (by omega)
  have m0 : 0 ≤ w * d := Int.mul_nonneg (by omega) (by omega)
  have hPP : ∀ x < 36, (PPof P cc x).length ≤ 3 := by
    intro x hx
    unfold PPof
    split
    · split
      · simp
      · exact (hP (x / 6) (by omega)).2.1
    · split
      · split
        · simp
        · exact (hP (x % 6) (by omega)).2.1
      · simp
  intro m
  induction m with
  | zero =>
    intro i k c hi hk hc hb
    obtain ⟨j, rfl⟩ : ∃ j, k = j + 2 := ⟨k - 2, by omega⟩
    simp only [erasurelaw12_SketchForgets.l0, erasurelaw12_SketchForgets.j1, lE]
    rw [if_neg (by omega), if_neg (by decide)]
    obtain ⟨c', e, h1, h2⟩ := count_build (n1 := n1) (n2 := n2) hc0 hw hw2 hd hd2 hP aa ba (by omega) (k := j) (by omega)
    have hcc : c = c' := eq_of_getD (by omega) (fun q => by rw [hb q, h2 q, List.drop_eq_nil_of_le (by omega), W]; omega)
    subst hcc
    rw [e]
    simp only [Option.bind_some]
    rw [if_pos trivial, if_pos trivial, same_ok c (by omega) (by omega)]
    simp only [Option.bind_some]
    rw [if_pos trivial, wrap64_in _ (by omega), if_pos hc, awake_ok (by omega)]
    rfl
  | succ m ih =>
    intro i k c hi hk hc hb
    obtain ⟨j, rfl⟩ : ∃ j, k = j + 2 := ⟨k - 2, by omega⟩
    have hlt : i < g.length := by omega
    have b := bg g[i] (List.getElem_mem hlt)
    have i1 : (i : Int) < (g.length : Int) := by omega
    have i0 : (0 : Int) ≤ (i : Int) := by omega
    have hlen : ((E g[i]).f0.length : Int) = 2 := rfl
    have hW : ∀ q, W (PPof P cc) (g.drop i) q = g[i].2 * hit (PPof P cc g[i].1) q + W (PPof P cc) (g.drop (i + 1)) q := fun q => by rw [List.drop_eq_getElem_cons hlt, W]
    have bd : Bnd 1 300 (g.drop (i + 1)) := fun p hp => bg p (List.mem_of_mem_drop hp)
    have hB : ∀ q, 0 ≤ W (PPof P cc) a q + W (PPof P cc) (g.drop (i + 1)) q ∧ W (PPof P cc) a q + W (PPof P cc) (g.drop (i + 1)) q ≤ 10000000 := fun q => by
      have t1 := W_nn (PP := PPof P cc) a ba q
      have t2 := W_nn (PP := PPof P cc) _ bd q
      have t3 := W_le hPP a ba q
      have t4 := W_le hPP _ bd q
      rw [List.length_drop] at t4
      omega
    simp only [erasurelaw12_SketchForgets.l0, erasurelaw12_SketchForgets.j1, lE]
    rw [if_pos i1, if_pos (by decide), if_pos i0, if_pos i1, rdE g i hlt, hlen]
    by_cases h : cc < 2
    · rw [if_pos h, if_pos hc0]
      obtain ⟨v, hv, ev, ep⟩ := PP_col P b.1 hc0 h
      rw [show rd_T23 (E g[i]).f0 cc = val v from ev]
      obtain ⟨c', e, h1, h2⟩ := remove_ok hw hw2 hd hd2 hP hv (n := g[i].2) b.2.1 (by omega) hc (b := fun q => W (PPof P cc) a q + W (PPof P cc) (g.drop (i + 1)) q) (fun q => by rw [hb q, hW q, ep]; omega) hB (k := j) (by omega)
      rw [show (E g[i]).f1 = g[i].2 from rfl, e]
      simp only [Option.bind_some]
      rw [up1 i (by omega)]
      exact ih (i + 1) j c' (by omega) (by omega) h1 h2
    · rw [if_neg h]
      have hnil : PPof P cc g[i].1 = [] := by unfold PPof; rw [if_neg (by omega), if_neg (by omega)]
      obtain ⟨c', e, h1, h2⟩ := remove_ok hw hw2 hd hd2 hP (i := 0) (by omega) (n := g[i].2) b.2.1 (by omega) hc (b := fun q => W (PPof P cc) a q + W (PPof P cc) (g.drop (i + 1)) q) (fun q => by rw [hb q, hW q, hnil, if_pos rfl]; omega) hB (k := j) (by omega)
      rw [show (E g[i]).f1 = g[i].2 from rfl]
      rw [show sketch_Remove.f j n1 n2 cc 0 w d c 0 0 ⟨#[]⟩ g[i].2 = some (c', 0) from e]
      simp only [Option.bind_some]
      rw [up1 i (by omega)]
      exact ih (i + 1) j c' (by omega) (by omega) h1 h2
theorem SketchForgets : erasurelaw12_SketchForgets.Pure := by
  intro l0 _ hsz _
  obtain ⟨K, hK⟩ : ∃ K : Nat, 2000 ≤ K := ⟨2000, Nat.le_refl _⟩
  refine ⟨K + 1, ?_⟩
  have hl : l0.length < 17592186044416 := by omega
  have hs : St l0 0 := ⟨by omega, by omega⟩
  obtain ⟨c, kd, w, d, s1, e1, c0, _, hkd, hw, hw2, hd, hd2, h2, hs⟩ := sketch_ok K hl hs
  obtain ⟨a, s2, e2, aa, ba, na, hs⟩ := bag_ok hl (n := 8) (by omega) hs (k := K + 1) (by omega)
  obtain ⟨g, s3, e3, ag, bg, ng, hs⟩ := bag_ok hl (n := 6) (by omega) hs (k := K + 1) (by omega)
  obtain ⟨P, hP⟩ := placesAll (n1 := ⟨#[115]⟩) (n2 := ⟨#[116, 48]⟩) (c := c) (kd := 0) hw hw2 hd hd2
  have wid : ∀ {zs : List (Nat × Int)}, Bnd 1 60 zs → Bnd 1 300 zs := fun h p hp => ⟨(h p hp).1, (h p hp).2.1, by have := (h p hp).2.2; omega⟩
  have hm := merg_bnd a g ba bg (by decide) (by decide)
  have hml := merg_len a g
  obtain ⟨z, ez, hz1, hz2⟩ := count_build (n1 := ⟨#[115]⟩) (n2 := ⟨#[116, 48]⟩) c0 hw hw2 hd hd2 hP (merg_asc a g aa ag) (fun p hp => ⟨(hm p hp).1, (hm p hp).2.1, by have := (hm p hp).2.2; omega⟩) (by omega) (k := K + 1) (by omega)
  unfold erasurelaw12_SketchForgets.f erasurelaw00_New.f
  rw [if_pos hl]
  simp only [Option.bind_some]
  rw [e1]
  simp only [Option.bind_some]
  rw [show ((8 : Nat) : Int) = 8 from rfl] at e2
  rw [show ((6 : Nat) : Int) = 6 from rfl] at e3
  rw [e2]
  simp only [Option.bind_some]
  rw [e3]
  simp only [Option.bind_some]
  rw [refadd_ok aa ag ba bg (by omega) (by omega) (by omega)]
  simp only [Option.bind_some]
  rw [ez]
  simp only [Option.bind_some]
  exact forgets_l0 c0 hw hw2 hd hd2 hP aa (wid ba) (wid bg) (by omega) (by omega) g.length 0 (K + 1) z (by omega) (by omega) hz1 (fun q => by rw [hz2 q, W_merg]; rfl)
end Go.Proofs.Ythicocmnefaioaa.Pure

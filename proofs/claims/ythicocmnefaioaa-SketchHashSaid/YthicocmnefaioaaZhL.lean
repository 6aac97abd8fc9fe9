import Derived.Test.YthicocmnefaioaaRows
import Derived.Test.YthicocmnefaioaaZh5
import Derived.Test.YthicocmnefaioaaZhP
import Derived.WalkKit
import Derived.ProofKit
import Derived.OpenShut
import Derived.ShutString
import Derived.ChangeOld
import Derived.Below
import Derived.SizedLaws
namespace Go.Proofs.Ythicocmnefaioaa.sketchHash
open Go.ChangeShapes Go.WideShapes Go.ChangeAt Go.RowKit
open Go.ChangeMaps (open_string shut_string)
set_option linter.unusedVariables false
theorem own : ownKnob Try.prog.godebug = none := by kernel_rfl
theorem laidOut : laidOutB Try.prog = true := by kernel_rfl
theorem cells2 : Try.prog.cellsOf 2 = 1 := by kernel_rfl
theorem cells3 : Try.prog.cellsOf 3 = 1 := by kernel_rfl
theorem cells9 : Try.prog.cellsOf 9 = 1 := by kernel_rfl
theorem cells23 : Try.prog.cellsOf 23 = 3 := by kernel_rfl
def Asked : Prop := ∀ (a0 a1 : Int) (a2 : ByteArray) (a3 : Int), (Lit.int .i64 a0).wf = true → (Lit.int .i64 a1).wf = true → a2.size ≤ maxLen → (Lit.int .i64 a3).wf = true → ∃ k, QS.erasurelaw12_SketchHash.f k a0 a1 a2 a3 = some true
set_option maxRecDepth 100000 in
theorem val_open {H : Type} {enc : TypeId × Value → H} {W : World} {b0 : Nat} {v : Value} {d : DataW H} {p : List MemPlace} (hv : Value.okWide Try.prog W .any b0 23 v) (h : DataW.Trod enc Try.prog W 0 (fun _ => true) true 23 v d p) :
    ∃ (a b : Int) (c : ByteArray), v = .agg #[.int .i64 a, .int .i64 b, .string c] ∧ (Lit.int .i64 a).wf = true ∧ (Lit.int .i64 b).wf = true ∧ c.size ≤ maxLen := by
  obtain ⟨cs, rfl, hsz⟩ := okWide_struct Try.underlying23 hv
  rw [cells23] at hsz
  obtain ⟨l⟩ := cs
  match l, hsz with
  | [c0, c1, c2], _ =>
  obtain ⟨fuel, hf⟩ := h
  obtain ⟨xs, n, _, _, _, hlen, hq⟩ := DataW.trod_struct Try.underlying23 hf
  match xs, hlen with
  | [y0, y1, y2], _ =>
  have hy0 := hq 0 _ rfl
  have hy1 := hq 1 _ rfl
  have hy2 := hq 2 _ rfl
  obtain ⟨a, e0, _, wa⟩ := DataW.trod_int Try.underlying3 hy0
  obtain ⟨b, e1, _, wb⟩ := DataW.trod_int Try.underlying2 hy1
  obtain ⟨c, e2, _, wc⟩ := DataW.trod_string Try.underlying9 hy2
  simp [Value.cells, cells2, cells3, cells9] at e0 e1 e2
  subst e0 e1 e2
  exact ⟨a, b, c, rfl, wa, wb, wc⟩
set_option maxRecDepth 100000 in
theorem lifted (HP : Asked) (os : Os) (started : os.Started) (H : Type) (enc : TypeId × Value → H) :
    ReturnsInHanded {} Try.checked os 3 .any (Rows.sketchHashSpec.pre6 enc Try.prog Try.f3 Rows.sketchHashRow.domain false) (Rows.sketchHashSpec.post enc Try.prog Try.f3 false true false false) := by
  refine returnsInHanded_of_change_sized (C := Try.checked) own started (by kernel_rfl) Try.func3
    (ChangeSpec.witness6 (enc := enc) (C := Try.checked) false ⟨#[], #[.agg #[.int .i64 0, .int .i64 0, .string ByteArray.empty], .int .i64 0], []⟩ 8 (by kernel_rfl) (by kernel_rfl) (by kernel_rfl) (by kernel_rfl)) ?_
  intro W base args ds gs before hval0 hW hcnd hsz0 _
  have hval : ∀ (j : Nat) t v, Try.f3.params[j]? = some t → args[j]? = some v → Value.okWide Try.prog W .any base t v := hval0
  have hW' := hW
  obtain ⟨p, q, hA0, hV, rfl, hfz, hnd⟩ := hW
  have hA : DataW.TrodAll enc Try.prog W 0 (fun _ => true) true Try.f3.params.toList args.toList ds p := hA0
  rw [Try.params3] at hA hval
  obtain ⟨v0, vs0, d0, ds0, p0, q0, hargs, rfl, rfl, h0, r0⟩ := trodAll_cons hA
  obtain ⟨v1, vs1, d1, ds1, p1, q1, rfl, rfl, rfl, h1, r1⟩ := trodAll_cons r0
  obtain ⟨rfl, rfl, rfl⟩ := trodAll_nil r1
  obtain rfl : args = #[v0, v1] := by cases args; simp_all
  obtain ⟨rfl, rfl⟩ := trodVars_none hV
  obtain ⟨a, b, c, rfl, wa, wb, wc⟩ := val_open (hval 0 23 v0 rfl rfl) h0
  have k0 := h0
  have lt0 : ∀ x ∈ p0, x.block < W.heap.size := by obtain ⟨m, hm⟩ := k0; exact DataW.trod_lt m _ _ _ hm
  obtain ⟨a1, rfl, rfl, rfl, w1⟩ := open_int Try.underlying3 (hval 1 3 v1 rfl rfl) h1
  clear hA0 hval0 hsz0
  obtain ⟨k, hk⟩ := HP a b c a1 wa wb wc w1
  refine (QS.erasurelaw12_SketchHash.calls k a b c a1 true W hk).mono fun e W' ⟨he, bel⟩ => ?_
  subst he
  exact ⟨_, rfl, _, _, _, [], _, [], hW', trodAll_mk1 (shut_bool Try.underlying4 _), (trodAll_cons_mk (Below.trod laidOut (by kernel_rfl) (of_decide_eq_true (by kernel_rfl)) k0 bel lt0) (trodAll_cons_mk (shut_int Try.underlying3 w1) trodAll_mk0)), rfl, bel.frame _, fun h => by cases h⟩
theorem over (HP : Asked) : Rows.sketchHashRow.holds Try.pinned (OpenSpec.ofChange Rows.sketchHashSpec) :=
  OpenClaim.holds_of_wide 3 Try.f3 rfl rfl rfl rfl rfl rfl rfl ⟨rfl, rfl, rfl, rfl, rfl⟩ rfl rfl rfl rfl rfl (by kernel_rfl) Try.func3 (by kernel_rfl)
    (of_decide_eq_true (by kernel_rfl)) (by unfold Func.isWrapper; first | (rw [if_pos (by decide +kernel)]; kernel_rfl) | (rw [if_neg (by decide +kernel)]; exact ⟨rfl, rfl⟩))
    (fun os started H enc _ => lifted HP os started H enc)
theorem proved : Rows.SketchHashSaid := over fun a0 a1 a2 a3 _ _ _ _ => Pure.SketchHash a0 a1 a2 a3
#print axioms proved
end Go.Proofs.Ythicocmnefaioaa.sketchHash
namespace Go.Proofs.Ythicocmnefaioaa
/-- The row, under a short name, for the claim. -/
theorem sketchHash_holds : Rows.SketchHashSaid := sketchHash.proved
end Go.Proofs.Ythicocmnefaioaa

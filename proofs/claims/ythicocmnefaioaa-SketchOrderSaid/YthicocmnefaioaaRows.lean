/-
  No cell of these rows narrows 'for every input' (looked for: loops, veiled, ifaces, maps, wideKeys, modest, calm, conditions, laid).
  DERIVED. THE GIVEN ROWS OF THIS SEAT. 11 by the template 'for every input the law returns true; each argument reads behind the call as it read before'; 0 by the template 'total and deterministic' (their statements: YthicocmnefaioaaTotals.lean).
  GIVEN WITH THE SEED: the statements are not yours to turn. If you find one false, say at which input.
  Laid BY PROGRAM, IN A SANDBOX (cutbox-rows.mjs): the forced cells as the released guide's own fill.sh prints them over the translation 2545bb7112f2455a… (all of the seat's roots in one cut). By AI agents, Wed Nov 11 2026. No macro, syntax, notation, axiom, sorry.
-/
import Derived.Test.YthicocmnefaioaaChecked
import GoSem.Claim
import GoSem.ClaimJoined
import GoSem.ClaimMapViews
import Derived.JoinedTies
import Derived.KernelRfl
namespace Go.Proofs.Ythicocmnefaioaa
/- THE CELL 'sum', in the pinned program and in every row, IS THE sha256 OF THE DUMP (.gsa) THAT YthicocmnefaioaaProg.lean LOADS. Nothing in Lean hashes anything: it is a label: what it is worth is what the hold of that sum in a sandbox is worth. -/
noncomputable def Try.pinned : Pinned := { name := "ythicocmnefaioaa", sum := "2545bb7112f2455a8266b9a363c1aaa772a0e48b2f8360cfd7995122368bd0f7", checked := Try.checked }
namespace Rows
def none {H : Type} : Left H := { results := [], args := [] }

/-- 'erasurelaw12.SketchHash': WHATEVER THE INPUT: true; the input reads as it did. -/
def sketchHashSpec : ChangeSpec := { name := "sketchHash", fn := fun _ => fun
  | [d1, d2] => { results := [.lit (.bool true)], args := [d1, d2] }
  | _ => none }
def sketchHashRow : OpenClaim := { program := "ythicocmnefaioaa", sum := "2545bb7112f2455a8266b9a363c1aaa772a0e48b2f8360cfd7995122368bd0f7", func := "erasure/erasurelaw12.SketchHash", spec := "sketchHash", unfollowed := true, recurses := true, named := ["math/bits.divideError", "math/bits.overflowError"], apart := false }
def SketchHashSaid : Prop := sketchHashRow.holds Try.pinned (OpenSpec.ofChange sketchHashSpec)

/-- ITS FALSE NEIGHBOUR: 'it returns false'. Refute it at one input. -/
def sketchHashWrong : ChangeSpec := { name := "sketchHash", fn := fun _ => fun
  | [d1, d2] => { results := [.lit (.bool false)], args := [d1, d2] }
  | _ => none }
def SketchHashWrongFalsely : Prop := sketchHashRow.holds Try.pinned (OpenSpec.ofChange sketchHashWrong)

/-- 'erasurelaw12.SketchValid': WHATEVER THE INPUT: true; the input reads as it did. -/
def sketchValidSpec : ChangeSpec := { name := "sketchValid", fn := fun _ => fun
  | [d1, d2, d3] => { results := [.lit (.bool true)], args := [d1, d2, d3] }
  | _ => none }
def sketchValidRow : OpenClaim := { program := "ythicocmnefaioaa", sum := "2545bb7112f2455a8266b9a363c1aaa772a0e48b2f8360cfd7995122368bd0f7", func := "erasure/erasurelaw12.SketchValid", spec := "sketchValid", unfollowed := true, recurses := true, named := ["math/bits.divideError", "math/bits.overflowError"], apart := false }
def SketchValidSaid : Prop := sketchValidRow.holds Try.pinned (OpenSpec.ofChange sketchValidSpec)

/-- ITS FALSE NEIGHBOUR: 'it returns false'. Refute it at one input. -/
def sketchValidWrong : ChangeSpec := { name := "sketchValid", fn := fun _ => fun
  | [d1, d2, d3] => { results := [.lit (.bool false)], args := [d1, d2, d3] }
  | _ => none }
def SketchValidWrongFalsely : Prop := sketchValidRow.holds Try.pinned (OpenSpec.ofChange sketchValidWrong)

/-- 'erasurelaw12.SketchBuild': WHATEVER THE INPUT: true; the input reads as it did. -/
def sketchBuildSpec : ChangeSpec := { name := "sketchBuild", fn := fun _ => fun
  | [d] => { results := [.lit (.bool true)], args := [d] }
  | _ => none }
def sketchBuildRow : OpenClaim := { program := "ythicocmnefaioaa", sum := "2545bb7112f2455a8266b9a363c1aaa772a0e48b2f8360cfd7995122368bd0f7", func := "erasure/erasurelaw12.SketchBuild", spec := "sketchBuild", unfollowed := true, recurses := true, named := ["math/bits.divideError", "math/bits.overflowError"], apart := false }
def SketchBuildSaid : Prop := sketchBuildRow.holds Try.pinned (OpenSpec.ofChange sketchBuildSpec)

/-- ITS FALSE NEIGHBOUR: 'it returns false'. Refute it at one input. -/
def sketchBuildWrong : ChangeSpec := { name := "sketchBuild", fn := fun _ => fun
  | [d] => { results := [.lit (.bool false)], args := [d] }
  | _ => none }
def SketchBuildWrongFalsely : Prop := sketchBuildRow.holds Try.pinned (OpenSpec.ofChange sketchBuildWrong)

/-- 'erasurelaw12.SketchForgets': WHATEVER THE INPUT: true; the input reads as it did. -/
def sketchForgetsSpec : ChangeSpec := { name := "sketchForgets", fn := fun _ => fun
  | [d] => { results := [.lit (.bool true)], args := [d] }
  | _ => none }
def sketchForgetsRow : OpenClaim := { program := "ythicocmnefaioaa", sum := "2545bb7112f2455a8266b9a363c1aaa772a0e48b2f8360cfd7995122368bd0f7", func := "erasure/erasurelaw12.SketchForgets", spec := "sketchForgets", unfollowed := true, recurses := true, named := ["math/bits.divideError", "math/bits.overflowError"], apart := false }
def SketchForgetsSaid : Prop := sketchForgetsRow.holds Try.pinned (OpenSpec.ofChange sketchForgetsSpec)

/-- ITS FALSE NEIGHBOUR: 'it returns false'. Refute it at one input. -/
def sketchForgetsWrong : ChangeSpec := { name := "sketchForgets", fn := fun _ => fun
  | [d] => { results := [.lit (.bool false)], args := [d] }
  | _ => none }
def SketchForgetsWrongFalsely : Prop := sketchForgetsRow.holds Try.pinned (OpenSpec.ofChange sketchForgetsWrong)

/-- 'erasurelaw12.SketchBounds': WHATEVER THE INPUT: true; the input reads as it did. -/
def sketchBoundsSpec : ChangeSpec := { name := "sketchBounds", fn := fun _ => fun
  | [d] => { results := [.lit (.bool true)], args := [d] }
  | _ => none }
def sketchBoundsRow : OpenClaim := { program := "ythicocmnefaioaa", sum := "2545bb7112f2455a8266b9a363c1aaa772a0e48b2f8360cfd7995122368bd0f7", func := "erasure/erasurelaw12.SketchBounds", spec := "sketchBounds", unfollowed := true, recurses := true, named := ["math/bits.divideError", "math/bits.overflowError"], apart := false }
def SketchBoundsSaid : Prop := sketchBoundsRow.holds Try.pinned (OpenSpec.ofChange sketchBoundsSpec)

/-- ITS FALSE NEIGHBOUR: 'it returns false'. Refute it at one input. -/
def sketchBoundsWrong : ChangeSpec := { name := "sketchBounds", fn := fun _ => fun
  | [d] => { results := [.lit (.bool false)], args := [d] }
  | _ => none }
def SketchBoundsWrongFalsely : Prop := sketchBoundsRow.holds Try.pinned (OpenSpec.ofChange sketchBoundsWrong)

/-- 'erasurelaw12.SketchSupport': WHATEVER THE INPUT: true; the input reads as it did. -/
def sketchSupportSpec : ChangeSpec := { name := "sketchSupport", fn := fun _ => fun
  | [d] => { results := [.lit (.bool true)], args := [d] }
  | _ => none }
def sketchSupportRow : OpenClaim := { program := "ythicocmnefaioaa", sum := "2545bb7112f2455a8266b9a363c1aaa772a0e48b2f8360cfd7995122368bd0f7", func := "erasure/erasurelaw12.SketchSupport", spec := "sketchSupport", unfollowed := true, recurses := true, named := ["math/bits.divideError", "math/bits.overflowError"], apart := false }
def SketchSupportSaid : Prop := sketchSupportRow.holds Try.pinned (OpenSpec.ofChange sketchSupportSpec)

/-- ITS FALSE NEIGHBOUR: 'it returns false'. Refute it at one input. -/
def sketchSupportWrong : ChangeSpec := { name := "sketchSupport", fn := fun _ => fun
  | [d] => { results := [.lit (.bool false)], args := [d] }
  | _ => none }
def SketchSupportWrongFalsely : Prop := sketchSupportRow.holds Try.pinned (OpenSpec.ofChange sketchSupportWrong)

/-- 'erasurelaw12.SketchOrder': WHATEVER THE INPUT: true; the input reads as it did. -/
def sketchOrderSpec : ChangeSpec := { name := "sketchOrder", fn := fun _ => fun
  | [d] => { results := [.lit (.bool true)], args := [d] }
  | _ => none }
def sketchOrderRow : OpenClaim := { program := "ythicocmnefaioaa", sum := "2545bb7112f2455a8266b9a363c1aaa772a0e48b2f8360cfd7995122368bd0f7", func := "erasure/erasurelaw12.SketchOrder", spec := "sketchOrder", unfollowed := true, recurses := true, named := ["math/bits.divideError", "math/bits.overflowError"], apart := false }
def SketchOrderSaid : Prop := sketchOrderRow.holds Try.pinned (OpenSpec.ofChange sketchOrderSpec)

/-- ITS FALSE NEIGHBOUR: 'it returns false'. Refute it at one input. -/
def sketchOrderWrong : ChangeSpec := { name := "sketchOrder", fn := fun _ => fun
  | [d] => { results := [.lit (.bool false)], args := [d] }
  | _ => none }
def SketchOrderWrongFalsely : Prop := sketchOrderRow.holds Try.pinned (OpenSpec.ofChange sketchOrderWrong)

/-- 'erasurelaw12.SketchMerge': WHATEVER THE INPUT: true; the input reads as it did. -/
def sketchMergeSpec : ChangeSpec := { name := "sketchMerge", fn := fun _ => fun
  | [d] => { results := [.lit (.bool true)], args := [d] }
  | _ => none }
def sketchMergeRow : OpenClaim := { program := "ythicocmnefaioaa", sum := "2545bb7112f2455a8266b9a363c1aaa772a0e48b2f8360cfd7995122368bd0f7", func := "erasure/erasurelaw12.SketchMerge", spec := "sketchMerge", unfollowed := true, recurses := true, named := ["math/bits.divideError", "math/bits.overflowError"], apart := false }
def SketchMergeSaid : Prop := sketchMergeRow.holds Try.pinned (OpenSpec.ofChange sketchMergeSpec)

/-- ITS FALSE NEIGHBOUR: 'it returns false'. Refute it at one input. -/
def sketchMergeWrong : ChangeSpec := { name := "sketchMerge", fn := fun _ => fun
  | [d] => { results := [.lit (.bool false)], args := [d] }
  | _ => none }
def SketchMergeWrongFalsely : Prop := sketchMergeRow.holds Try.pinned (OpenSpec.ofChange sketchMergeWrong)

/-- 'erasurelaw13.IndexWords': WHATEVER THE INPUT: true; the input reads as it did. -/
def indexWordsSpec : ChangeSpec := { name := "indexWords", fn := fun _ => fun
  | [d] => { results := [.lit (.bool true)], args := [d] }
  | _ => none }
def indexWordsRow : OpenClaim := { program := "ythicocmnefaioaa", sum := "2545bb7112f2455a8266b9a363c1aaa772a0e48b2f8360cfd7995122368bd0f7", func := "erasure/erasurelaw13.IndexWords", spec := "indexWords", unfollowed := true, recurses := true, apart := false }
def IndexWordsSaid : Prop := indexWordsRow.holds Try.pinned (OpenSpec.ofChange indexWordsSpec)

/-- ITS FALSE NEIGHBOUR: 'it returns false'. Refute it at one input. -/
def indexWordsWrong : ChangeSpec := { name := "indexWords", fn := fun _ => fun
  | [d] => { results := [.lit (.bool false)], args := [d] }
  | _ => none }
def IndexWordsWrongFalsely : Prop := indexWordsRow.holds Try.pinned (OpenSpec.ofChange indexWordsWrong)

/-- 'erasurelaw13.IndexBuild': WHATEVER THE INPUT: true; the input reads as it did. -/
def indexBuildSpec : ChangeSpec := { name := "indexBuild", fn := fun _ => fun
  | [d1, d2] => { results := [.lit (.bool true)], args := [d1, d2] }
  | _ => none }
def indexBuildRow : OpenClaim := { program := "ythicocmnefaioaa", sum := "2545bb7112f2455a8266b9a363c1aaa772a0e48b2f8360cfd7995122368bd0f7", func := "erasure/erasurelaw13.IndexBuild", spec := "indexBuild", unfollowed := true, recurses := true, apart := false }
def IndexBuildSaid : Prop := indexBuildRow.holds Try.pinned (OpenSpec.ofChange indexBuildSpec)

/-- ITS FALSE NEIGHBOUR: 'it returns false'. Refute it at one input. -/
def indexBuildWrong : ChangeSpec := { name := "indexBuild", fn := fun _ => fun
  | [d1, d2] => { results := [.lit (.bool false)], args := [d1, d2] }
  | _ => none }
def IndexBuildWrongFalsely : Prop := indexBuildRow.holds Try.pinned (OpenSpec.ofChange indexBuildWrong)

/-- 'erasurelaw13.IndexFinds': WHATEVER THE INPUT: true; the input reads as it did. -/
def indexFindsSpec : ChangeSpec := { name := "indexFinds", fn := fun _ => fun
  | [d] => { results := [.lit (.bool true)], args := [d] }
  | _ => none }
def indexFindsRow : OpenClaim := { program := "ythicocmnefaioaa", sum := "2545bb7112f2455a8266b9a363c1aaa772a0e48b2f8360cfd7995122368bd0f7", func := "erasure/erasurelaw13.IndexFinds", spec := "indexFinds", unfollowed := true, recurses := true, apart := false }
def IndexFindsSaid : Prop := indexFindsRow.holds Try.pinned (OpenSpec.ofChange indexFindsSpec)

/-- ITS FALSE NEIGHBOUR: 'it returns false'. Refute it at one input. -/
def indexFindsWrong : ChangeSpec := { name := "indexFinds", fn := fun _ => fun
  | [d] => { results := [.lit (.bool false)], args := [d] }
  | _ => none }
def IndexFindsWrongFalsely : Prop := indexFindsRow.holds Try.pinned (OpenSpec.ofChange indexFindsWrong)

/- THE SECOND FORM. 'bulk': how many values and letters a reading holds, each counted each time it is reached (what is shared counts as often as it is met; a slice's spare places count too). A statement '..UptoSaid' is the law's where the arguments, and the package variables that the reading takes, are together of bulk at most 1048576: NARROWER than '..Said'. Prove '..Said' where nothing that the law and all that it calls make is longer than what came in: it says more and counts as full. Else prove '..UptoSaid'. A law counts once. -/
mutual
def uptoBulk {H : Type} : DataW H → Nat
  | .lit (.string bytes) => bytes.length + 1
  | .lit _ => 1
  | .nil => 1
  | .ptr d => uptoBulk d + 1
  | .slice elems spare => uptoBulkAll elems + uptoBulkAll spare + 1
  | .agg parts => uptoBulkAll parts + 1
  | .iface _ d => uptoBulk d + 1
  | .map entries => uptoBulkEntries entries + 1
  | .held _ => 1
def uptoBulkAll {H : Type} : List (DataW H) → Nat
  | [] => 0
  | d :: r => uptoBulk d + uptoBulkAll r
def uptoBulkEntries {H : Type} : List (Lit × DataW H) → Nat
  | [] => 0
  | x :: r => uptoBulkEntry x + uptoBulkEntries r
def uptoBulkEntry {H : Type} : Lit × DataW H → Nat
  | (.string bytes, d) => bytes.length + uptoBulk d + 1
  | (_, d) => uptoBulk d + 1
 end
def uptoSmall : (H : Type) → List (DataW H) → Bool := fun _ ds => decide (uptoBulkAll ds ≤ 1048576)
def OpenSpec.upto (s : _root_.Go.ChangeSpec) : _root_.Go.OpenSpec := { _root_.Go.OpenSpec.ofChange s with cond := some uptoSmall }

/-- 'erasurelaw12.SketchHash', WHERE WHAT IT READS IS OF BULK AT MOST 1048576: true; the input reads as it did. -/
def sketchHashUptoRow : OpenClaim := { program := "ythicocmnefaioaa", sum := "2545bb7112f2455a8266b9a363c1aaa772a0e48b2f8360cfd7995122368bd0f7", func := "erasure/erasurelaw12.SketchHash", spec := "sketchHash", unfollowed := true, recurses := true, named := ["math/bits.divideError", "math/bits.overflowError"], apart := false, narrowed := true }
def SketchHashUptoSaid : Prop := sketchHashUptoRow.holds Try.pinned (OpenSpec.upto sketchHashSpec)

/-- 'erasurelaw12.SketchValid', WHERE WHAT IT READS IS OF BULK AT MOST 1048576: true; the input reads as it did. -/
def sketchValidUptoRow : OpenClaim := { program := "ythicocmnefaioaa", sum := "2545bb7112f2455a8266b9a363c1aaa772a0e48b2f8360cfd7995122368bd0f7", func := "erasure/erasurelaw12.SketchValid", spec := "sketchValid", unfollowed := true, recurses := true, named := ["math/bits.divideError", "math/bits.overflowError"], apart := false, narrowed := true }
def SketchValidUptoSaid : Prop := sketchValidUptoRow.holds Try.pinned (OpenSpec.upto sketchValidSpec)

/-- 'erasurelaw12.SketchBuild', WHERE WHAT IT READS IS OF BULK AT MOST 1048576: true; the input reads as it did. -/
def sketchBuildUptoRow : OpenClaim := { program := "ythicocmnefaioaa", sum := "2545bb7112f2455a8266b9a363c1aaa772a0e48b2f8360cfd7995122368bd0f7", func := "erasure/erasurelaw12.SketchBuild", spec := "sketchBuild", unfollowed := true, recurses := true, named := ["math/bits.divideError", "math/bits.overflowError"], apart := false, narrowed := true }
def SketchBuildUptoSaid : Prop := sketchBuildUptoRow.holds Try.pinned (OpenSpec.upto sketchBuildSpec)

/-- 'erasurelaw12.SketchForgets', WHERE WHAT IT READS IS OF BULK AT MOST 1048576: true; the input reads as it did. -/
def sketchForgetsUptoRow : OpenClaim := { program := "ythicocmnefaioaa", sum := "2545bb7112f2455a8266b9a363c1aaa772a0e48b2f8360cfd7995122368bd0f7", func := "erasure/erasurelaw12.SketchForgets", spec := "sketchForgets", unfollowed := true, recurses := true, named := ["math/bits.divideError", "math/bits.overflowError"], apart := false, narrowed := true }
def SketchForgetsUptoSaid : Prop := sketchForgetsUptoRow.holds Try.pinned (OpenSpec.upto sketchForgetsSpec)

/-- 'erasurelaw12.SketchBounds', WHERE WHAT IT READS IS OF BULK AT MOST 1048576: true; the input reads as it did. -/
def sketchBoundsUptoRow : OpenClaim := { program := "ythicocmnefaioaa", sum := "2545bb7112f2455a8266b9a363c1aaa772a0e48b2f8360cfd7995122368bd0f7", func := "erasure/erasurelaw12.SketchBounds", spec := "sketchBounds", unfollowed := true, recurses := true, named := ["math/bits.divideError", "math/bits.overflowError"], apart := false, narrowed := true }
def SketchBoundsUptoSaid : Prop := sketchBoundsUptoRow.holds Try.pinned (OpenSpec.upto sketchBoundsSpec)

/-- 'erasurelaw12.SketchSupport', WHERE WHAT IT READS IS OF BULK AT MOST 1048576: true; the input reads as it did. -/
def sketchSupportUptoRow : OpenClaim := { program := "ythicocmnefaioaa", sum := "2545bb7112f2455a8266b9a363c1aaa772a0e48b2f8360cfd7995122368bd0f7", func := "erasure/erasurelaw12.SketchSupport", spec := "sketchSupport", unfollowed := true, recurses := true, named := ["math/bits.divideError", "math/bits.overflowError"], apart := false, narrowed := true }
def SketchSupportUptoSaid : Prop := sketchSupportUptoRow.holds Try.pinned (OpenSpec.upto sketchSupportSpec)

/-- 'erasurelaw12.SketchOrder', WHERE WHAT IT READS IS OF BULK AT MOST 1048576: true; the input reads as it did. -/
def sketchOrderUptoRow : OpenClaim := { program := "ythicocmnefaioaa", sum := "2545bb7112f2455a8266b9a363c1aaa772a0e48b2f8360cfd7995122368bd0f7", func := "erasure/erasurelaw12.SketchOrder", spec := "sketchOrder", unfollowed := true, recurses := true, named := ["math/bits.divideError", "math/bits.overflowError"], apart := false, narrowed := true }
def SketchOrderUptoSaid : Prop := sketchOrderUptoRow.holds Try.pinned (OpenSpec.upto sketchOrderSpec)

/-- 'erasurelaw12.SketchMerge', WHERE WHAT IT READS IS OF BULK AT MOST 1048576: true; the input reads as it did. -/
def sketchMergeUptoRow : OpenClaim := { program := "ythicocmnefaioaa", sum := "2545bb7112f2455a8266b9a363c1aaa772a0e48b2f8360cfd7995122368bd0f7", func := "erasure/erasurelaw12.SketchMerge", spec := "sketchMerge", unfollowed := true, recurses := true, named := ["math/bits.divideError", "math/bits.overflowError"], apart := false, narrowed := true }
def SketchMergeUptoSaid : Prop := sketchMergeUptoRow.holds Try.pinned (OpenSpec.upto sketchMergeSpec)

/-- 'erasurelaw13.IndexWords', WHERE WHAT IT READS IS OF BULK AT MOST 1048576: true; the input reads as it did. -/
def indexWordsUptoRow : OpenClaim := { program := "ythicocmnefaioaa", sum := "2545bb7112f2455a8266b9a363c1aaa772a0e48b2f8360cfd7995122368bd0f7", func := "erasure/erasurelaw13.IndexWords", spec := "indexWords", unfollowed := true, recurses := true, apart := false, narrowed := true }
def IndexWordsUptoSaid : Prop := indexWordsUptoRow.holds Try.pinned (OpenSpec.upto indexWordsSpec)

/-- 'erasurelaw13.IndexBuild', WHERE WHAT IT READS IS OF BULK AT MOST 1048576: true; the input reads as it did. -/
def indexBuildUptoRow : OpenClaim := { program := "ythicocmnefaioaa", sum := "2545bb7112f2455a8266b9a363c1aaa772a0e48b2f8360cfd7995122368bd0f7", func := "erasure/erasurelaw13.IndexBuild", spec := "indexBuild", unfollowed := true, recurses := true, apart := false, narrowed := true }
def IndexBuildUptoSaid : Prop := indexBuildUptoRow.holds Try.pinned (OpenSpec.upto indexBuildSpec)

/-- 'erasurelaw13.IndexFinds', WHERE WHAT IT READS IS OF BULK AT MOST 1048576: true; the input reads as it did. -/
def indexFindsUptoRow : OpenClaim := { program := "ythicocmnefaioaa", sum := "2545bb7112f2455a8266b9a363c1aaa772a0e48b2f8360cfd7995122368bd0f7", func := "erasure/erasurelaw13.IndexFinds", spec := "indexFinds", unfollowed := true, recurses := true, apart := false, narrowed := true }
def IndexFindsUptoSaid : Prop := indexFindsUptoRow.holds Try.pinned (OpenSpec.upto indexFindsSpec)

end Rows
end Go.Proofs.Ythicocmnefaioaa

/-
  No cell of these rows narrows 'for every input' (looked for: loops, veiled, ifaces, maps, wideKeys, modest, calm, conditions, laid).
  DERIVED. THE GIVEN ROWS OF THIS SEAT. 4 by the template 'for every input the law returns true; each argument reads behind the call as it read before'; 0 by the template 'total and deterministic' (their statements: YtnaiebnnogkbnaaGreatTotals.lean).
  GIVEN WITH THE SEED: the statements are not yours to turn. If you find one false, say at which input.
  Laid BY PROGRAM, IN A SANDBOX (cutbox-rows.mjs): the forced cells as the released guide's own fill.sh prints them over the translation 5ae4f4ddf68fee62… (all of the seat's roots in one cut). By AI agents, Wed Nov 11 2026. No macro, syntax, notation, axiom, sorry.
-/
import Derived.Test.YtnaiebnnogkbnaaGreatChecked
import GoSem.Claim
import GoSem.ClaimJoined
import GoSem.ClaimMapViews
import Derived.JoinedTies
import Derived.KernelRfl
namespace Go.Proofs.YtnaiebnnogkbnaaGreat
/- THE CELL 'sum', in the pinned program and in every row, IS THE sha256 OF THE DUMP (.gsa) THAT YtnaiebnnogkbnaaGreatProg.lean LOADS. Nothing in Lean hashes anything: it is a label: what it is worth is what the hold of that sum in a sandbox is worth. -/
noncomputable def Tryz.pinned : Pinned := { name := "ytnaiebnnogkbnaagreat", sum := "5ae4f4ddf68fee629d5128cd63f123d49622769e3f3e1438f0e0f2a4006aea60", checked := Tryz.checked }
namespace Rows
def none {H : Type} : Left H := { results := [], args := [] }

/-- 'herdsmanlaw16.InjectAsks': WHATEVER THE INPUT: true; the input reads as it did. -/
def injectAsksSpec : ChangeSpec := { name := "injectAsks", fn := fun _ => fun
  | [d1, d2, d3, d4, d5, d6] => { results := [.lit (.bool true)], args := [d1, d2, d3, d4, d5, d6] }
  | _ => none }
def injectAsksRow : OpenClaim := { program := "ytnaiebnnogkbnaagreat", sum := "5ae4f4ddf68fee629d5128cd63f123d49622769e3f3e1438f0e0f2a4006aea60", func := "herdsman/herdsmanlaw16.InjectAsks", spec := "injectAsks", unfollowed := true, recurses := true, apart := false }
def InjectAsksSaid : Prop := injectAsksRow.holds Tryz.pinned (OpenSpec.ofChange injectAsksSpec)

/-- ITS FALSE NEIGHBOUR: 'it returns false'. Refute it at one input. -/
def injectAsksWrong : ChangeSpec := { name := "injectAsks", fn := fun _ => fun
  | [d1, d2, d3, d4, d5, d6] => { results := [.lit (.bool false)], args := [d1, d2, d3, d4, d5, d6] }
  | _ => none }
def InjectAsksWrongFalsely : Prop := injectAsksRow.holds Tryz.pinned (OpenSpec.ofChange injectAsksWrong)

/-- 'herdsmanlaw16.InjectSides': WHATEVER THE INPUT: true; the input reads as it did. -/
def injectSidesSpec : ChangeSpec := { name := "injectSides", fn := fun _ => fun
  | [d1, d2, d3, d4, d5] => { results := [.lit (.bool true)], args := [d1, d2, d3, d4, d5] }
  | _ => none }
def injectSidesRow : OpenClaim := { program := "ytnaiebnnogkbnaagreat", sum := "5ae4f4ddf68fee629d5128cd63f123d49622769e3f3e1438f0e0f2a4006aea60", func := "herdsman/herdsmanlaw16.InjectSides", spec := "injectSides", unfollowed := true, recurses := true, apart := false }
def InjectSidesSaid : Prop := injectSidesRow.holds Tryz.pinned (OpenSpec.ofChange injectSidesSpec)

/-- ITS FALSE NEIGHBOUR: 'it returns false'. Refute it at one input. -/
def injectSidesWrong : ChangeSpec := { name := "injectSides", fn := fun _ => fun
  | [d1, d2, d3, d4, d5] => { results := [.lit (.bool false)], args := [d1, d2, d3, d4, d5] }
  | _ => none }
def InjectSidesWrongFalsely : Prop := injectSidesRow.holds Tryz.pinned (OpenSpec.ofChange injectSidesWrong)

/-- 'herdsmanlaw16.InjectElder': WHATEVER THE INPUT: true; the input reads as it did. -/
def injectElderSpec : ChangeSpec := { name := "injectElder", fn := fun _ => fun
  | [d1, d2, d3, d4, d5, d6] => { results := [.lit (.bool true)], args := [d1, d2, d3, d4, d5, d6] }
  | _ => none }
def injectElderRow : OpenClaim := { program := "ytnaiebnnogkbnaagreat", sum := "5ae4f4ddf68fee629d5128cd63f123d49622769e3f3e1438f0e0f2a4006aea60", func := "herdsman/herdsmanlaw16.InjectElder", spec := "injectElder", unfollowed := true, recurses := true, apart := false }
def InjectElderSaid : Prop := injectElderRow.holds Tryz.pinned (OpenSpec.ofChange injectElderSpec)

/-- ITS FALSE NEIGHBOUR: 'it returns false'. Refute it at one input. -/
def injectElderWrong : ChangeSpec := { name := "injectElder", fn := fun _ => fun
  | [d1, d2, d3, d4, d5, d6] => { results := [.lit (.bool false)], args := [d1, d2, d3, d4, d5, d6] }
  | _ => none }
def InjectElderWrongFalsely : Prop := injectElderRow.holds Tryz.pinned (OpenSpec.ofChange injectElderWrong)

/-- 'herdsmanlaw16.InjectFields': WHATEVER THE INPUT: true; the input reads as it did. -/
def injectFieldsSpec : ChangeSpec := { name := "injectFields", fn := fun _ => fun
  | [d1, d2, d3, d4, d5] => { results := [.lit (.bool true)], args := [d1, d2, d3, d4, d5] }
  | _ => none }
def injectFieldsRow : OpenClaim := { program := "ytnaiebnnogkbnaagreat", sum := "5ae4f4ddf68fee629d5128cd63f123d49622769e3f3e1438f0e0f2a4006aea60", func := "herdsman/herdsmanlaw16.InjectFields", spec := "injectFields", unfollowed := true, recurses := true, apart := false }
def InjectFieldsSaid : Prop := injectFieldsRow.holds Tryz.pinned (OpenSpec.ofChange injectFieldsSpec)

/-- ITS FALSE NEIGHBOUR: 'it returns false'. Refute it at one input. -/
def injectFieldsWrong : ChangeSpec := { name := "injectFields", fn := fun _ => fun
  | [d1, d2, d3, d4, d5] => { results := [.lit (.bool false)], args := [d1, d2, d3, d4, d5] }
  | _ => none }
def InjectFieldsWrongFalsely : Prop := injectFieldsRow.holds Tryz.pinned (OpenSpec.ofChange injectFieldsWrong)

/- THE SECOND FORM. 'bulk': how many values and letters a reading holds, each counted each time it is reached (what is shared counts as often as it is met; a slice's spare places count too). A statement '..UptoSaid' is the law's where the arguments, and the package variables that the reading takes, are together of bulk at most 1048576: NARROWER than '..Said'. Prove '..Said' where nothing that the law and all that it calls make is longer than what came in: it says more and counts as full. Else prove '..UptoSaid'. A law counts once. -/
mutual
def uptoBulk {H : Type} : DataW H → Nat
  | .lit (.string bytes) => bytes.length + 1
  | .lit _ => 1
  | .nil => 1
  | .ptr d => uptoBulk d + 1
  | .slice elems spare => uptoBulkAll elems + uptoBulkAll spare + 1
  | .agg parts => uptoBulkAll parts + 1
  | .iface _ d => uptoBulk d + 1
  | .map entries => uptoBulkEntries entries + 1
  | .held _ => 1
def uptoBulkAll {H : Type} : List (DataW H) → Nat
  | [] => 0
  | d :: r => uptoBulk d + uptoBulkAll r
def uptoBulkEntries {H : Type} : List (Lit × DataW H) → Nat
  | [] => 0
  | x :: r => uptoBulkEntry x + uptoBulkEntries r
def uptoBulkEntry {H : Type} : Lit × DataW H → Nat
  | (.string bytes, d) => bytes.length + uptoBulk d + 1
  | (_, d) => uptoBulk d + 1
 end
def uptoSmall : (H : Type) → List (DataW H) → Bool := fun _ ds => decide (uptoBulkAll ds ≤ 1048576)
def OpenSpec.upto (s : _root_.Go.ChangeSpec) : _root_.Go.OpenSpec := { _root_.Go.OpenSpec.ofChange s with cond := some uptoSmall }

/-- 'herdsmanlaw16.InjectAsks', WHERE WHAT IT READS IS OF BULK AT MOST 1048576: true; the input reads as it did. -/
def injectAsksUptoRow : OpenClaim := { program := "ytnaiebnnogkbnaagreat", sum := "5ae4f4ddf68fee629d5128cd63f123d49622769e3f3e1438f0e0f2a4006aea60", func := "herdsman/herdsmanlaw16.InjectAsks", spec := "injectAsks", unfollowed := true, recurses := true, apart := false, narrowed := true }
def InjectAsksUptoSaid : Prop := injectAsksUptoRow.holds Tryz.pinned (OpenSpec.upto injectAsksSpec)

/-- 'herdsmanlaw16.InjectSides', WHERE WHAT IT READS IS OF BULK AT MOST 1048576: true; the input reads as it did. -/
def injectSidesUptoRow : OpenClaim := { program := "ytnaiebnnogkbnaagreat", sum := "5ae4f4ddf68fee629d5128cd63f123d49622769e3f3e1438f0e0f2a4006aea60", func := "herdsman/herdsmanlaw16.InjectSides", spec := "injectSides", unfollowed := true, recurses := true, apart := false, narrowed := true }
def InjectSidesUptoSaid : Prop := injectSidesUptoRow.holds Tryz.pinned (OpenSpec.upto injectSidesSpec)

/-- 'herdsmanlaw16.InjectElder', WHERE WHAT IT READS IS OF BULK AT MOST 1048576: true; the input reads as it did. -/
def injectElderUptoRow : OpenClaim := { program := "ytnaiebnnogkbnaagreat", sum := "5ae4f4ddf68fee629d5128cd63f123d49622769e3f3e1438f0e0f2a4006aea60", func := "herdsman/herdsmanlaw16.InjectElder", spec := "injectElder", unfollowed := true, recurses := true, apart := false, narrowed := true }
def InjectElderUptoSaid : Prop := injectElderUptoRow.holds Tryz.pinned (OpenSpec.upto injectElderSpec)

/-- 'herdsmanlaw16.InjectFields', WHERE WHAT IT READS IS OF BULK AT MOST 1048576: true; the input reads as it did. -/
def injectFieldsUptoRow : OpenClaim := { program := "ytnaiebnnogkbnaagreat", sum := "5ae4f4ddf68fee629d5128cd63f123d49622769e3f3e1438f0e0f2a4006aea60", func := "herdsman/herdsmanlaw16.InjectFields", spec := "injectFields", unfollowed := true, recurses := true, apart := false, narrowed := true }
def InjectFieldsUptoSaid : Prop := injectFieldsUptoRow.holds Tryz.pinned (OpenSpec.upto injectFieldsSpec)

end Rows
end Go.Proofs.YtnaiebnnogkbnaaGreat

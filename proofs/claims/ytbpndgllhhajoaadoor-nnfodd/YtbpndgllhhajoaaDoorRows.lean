/-
  NARROWER THAN 'FOR EVERY INPUT', by the rows' own cells (each row's printed sentence says how): NbaMakes: laid · NbaAccepts: laid · NnfOdd: laid · NnfTwice: laid.
  DERIVED. THE GIVEN ROWS OF THIS SEAT. 4 by the template 'for every input the law returns true; each argument reads behind the call as it read before'; 0 by the template 'total and deterministic' (their statements: YtbpndgllhhajoaaDoorTotals.lean).
  GIVEN WITH THE SEED: the statements are not yours to turn. If you find one false, say at which input.
  Laid BY PROGRAM, IN A SANDBOX (cutbox-rows.mjs): the forced cells as the released guide's own fill.sh prints them over the translation 2884993c2642ad5e… (all of the seat's roots in one cut). By AI agents, Wed Nov 11 2026. No macro, syntax, notation, axiom, sorry.
-/
import Derived.Test.YtbpndgllhhajoaaDoorChecked
import GoSem.Claim
import GoSem.ClaimJoined
import GoSem.ClaimMapViews
import Derived.JoinedTies
import Derived.KernelRfl
namespace Go.Proofs.YtbpndgllhhajoaaDoor
/- THE CELL 'sum', in the pinned program and in every row, IS THE sha256 OF THE DUMP (.gsa) THAT YtbpndgllhhajoaaDoorProg.lean LOADS. Nothing in Lean hashes anything: it is a label: what it is worth is what the hold of that sum in a sandbox is worth. -/
noncomputable def Tryd.pinned : Pinned := { name := "ytbpndgllhhajoaadoor", sum := "2884993c2642ad5e7e7f9220945d532948630ca0fd5a677f01d6f643916cd3da", checked := Tryd.checked }
namespace Rows
def none {H : Type} : Left H := { results := [], args := [] }

/- WHAT THE LISTED PACKAGE-LEVEL VARIABLES READ AS WHEN THE CALL BEGINS. Each datum BY PROGRAM (the guide's laid-datum.mjs) off the statement by which the dump's own 'gosem.cut.vars' lays the variable. In a bare row this is a premise. The card (YtbpndgllhhajoaaDoorCards.lean) ties it to the program's text. -/
def laid_errors_errorType {H : Type} : DataW H := .iface "internal/reflectlite.rtype" (.agg [.ptr (.lit (.string [101, 114, 114, 111, 114]))])

/-- 'sortilegelaw17.NbaMakes': WHATEVER THE INPUT: true; the input reads as it did. -/
def nbaMakesSpec : ChangeSpec := { name := "nbaMakes", fn := fun _ => fun
  | [d1, d2] => { results := [.lit (.bool true)], args := [d1, d2] }
  | _ => none }
def nbaMakesRow : OpenClaim := { program := "ytbpndgllhhajoaadoor", sum := "2884993c2642ad5e7e7f9220945d532948630ca0fd5a677f01d6f643916cd3da", func := "sortilege/sortilegelaw17.NbaMakes", spec := "nbaMakes", inPlace := ["internal/reflectlite.ValueOf", "(internal/reflectlite.Value).Type", "(internal/reflectlite.Value).IsNil", "internal/reflectlite.TypeOf", "(internal/reflectlite.Value).Elem", "(internal/reflectlite.Value).Set"], unfollowed := true, recurses := true, named := ["errors.errorType"], plainKeys := false, apart := false, laid := [("errors.errorType", laid_errors_errorType)] }
def NbaMakesSaid : Prop := nbaMakesRow.holds Tryd.pinned (OpenSpec.ofChange nbaMakesSpec)

/-- ITS FALSE NEIGHBOUR: 'it returns false'. Refute it at one input. -/
def nbaMakesWrong : ChangeSpec := { name := "nbaMakes", fn := fun _ => fun
  | [d1, d2] => { results := [.lit (.bool false)], args := [d1, d2] }
  | _ => none }
def NbaMakesWrongFalsely : Prop := nbaMakesRow.holds Tryd.pinned (OpenSpec.ofChange nbaMakesWrong)

/-- 'sortilegelaw17.NbaAccepts': WHATEVER THE INPUT: true; the input reads as it did. -/
def nbaAcceptsSpec : ChangeSpec := { name := "nbaAccepts", fn := fun _ => fun
  | [d1, d2, d3, d4] => { results := [.lit (.bool true)], args := [d1, d2, d3, d4] }
  | _ => none }
def nbaAcceptsRow : OpenClaim := { program := "ytbpndgllhhajoaadoor", sum := "2884993c2642ad5e7e7f9220945d532948630ca0fd5a677f01d6f643916cd3da", func := "sortilege/sortilegelaw17.NbaAccepts", spec := "nbaAccepts", inPlace := ["internal/reflectlite.ValueOf", "(internal/reflectlite.Value).Type", "(internal/reflectlite.Value).IsNil", "internal/reflectlite.TypeOf", "(internal/reflectlite.Value).Elem", "(internal/reflectlite.Value).Set"], unfollowed := true, recurses := true, named := ["errors.errorType"], plainKeys := false, apart := false, laid := [("errors.errorType", laid_errors_errorType)] }
def NbaAcceptsSaid : Prop := nbaAcceptsRow.holds Tryd.pinned (OpenSpec.ofChange nbaAcceptsSpec)

/-- ITS FALSE NEIGHBOUR: 'it returns false'. Refute it at one input. -/
def nbaAcceptsWrong : ChangeSpec := { name := "nbaAccepts", fn := fun _ => fun
  | [d1, d2, d3, d4] => { results := [.lit (.bool false)], args := [d1, d2, d3, d4] }
  | _ => none }
def NbaAcceptsWrongFalsely : Prop := nbaAcceptsRow.holds Tryd.pinned (OpenSpec.ofChange nbaAcceptsWrong)

/-- 'sortilegelaw15.NnfOdd': WHATEVER THE INPUT: true; the input reads as it did. -/
def nnfOddSpec : ChangeSpec := { name := "nnfOdd", fn := fun _ => fun
  | [d1, d2, d3] => { results := [.lit (.bool true)], args := [d1, d2, d3] }
  | _ => none }
def nnfOddRow : OpenClaim := { program := "ytbpndgllhhajoaadoor", sum := "2884993c2642ad5e7e7f9220945d532948630ca0fd5a677f01d6f643916cd3da", func := "sortilege/sortilegelaw15.NnfOdd", spec := "nnfOdd", inPlace := ["internal/bytealg.IndexByteString", "internal/bytealg.IndexString", "internal/reflectlite.ValueOf", "(internal/reflectlite.Value).Type", "(internal/reflectlite.Value).IsNil", "internal/reflectlite.TypeOf", "(internal/reflectlite.Value).Elem", "(internal/reflectlite.Value).Set"], unfollowed := true, recurses := true, named := ["internal/bytealg.MaxLen", "errors.errorType"], plainKeys := false, apart := false, laid := [("errors.errorType", laid_errors_errorType)] }
def NnfOddSaid : Prop := nnfOddRow.holds Tryd.pinned (OpenSpec.ofChange nnfOddSpec)

/-- ITS FALSE NEIGHBOUR: 'it returns false'. Refute it at one input. -/
def nnfOddWrong : ChangeSpec := { name := "nnfOdd", fn := fun _ => fun
  | [d1, d2, d3] => { results := [.lit (.bool false)], args := [d1, d2, d3] }
  | _ => none }
def NnfOddWrongFalsely : Prop := nnfOddRow.holds Tryd.pinned (OpenSpec.ofChange nnfOddWrong)

/-- 'sortilegelaw15.NnfTwice': WHATEVER THE INPUT: true; the input reads as it did. -/
def nnfTwiceSpec : ChangeSpec := { name := "nnfTwice", fn := fun _ => fun
  | [d] => { results := [.lit (.bool true)], args := [d] }
  | _ => none }
def nnfTwiceRow : OpenClaim := { program := "ytbpndgllhhajoaadoor", sum := "2884993c2642ad5e7e7f9220945d532948630ca0fd5a677f01d6f643916cd3da", func := "sortilege/sortilegelaw15.NnfTwice", spec := "nnfTwice", inPlace := ["internal/bytealg.IndexByteString", "internal/bytealg.IndexString", "internal/reflectlite.ValueOf", "(internal/reflectlite.Value).Type", "(internal/reflectlite.Value).IsNil", "internal/reflectlite.TypeOf", "(internal/reflectlite.Value).Elem", "(internal/reflectlite.Value).Set"], unfollowed := true, recurses := true, named := ["internal/bytealg.MaxLen", "errors.errorType"], plainKeys := false, apart := false, laid := [("errors.errorType", laid_errors_errorType)] }
def NnfTwiceSaid : Prop := nnfTwiceRow.holds Tryd.pinned (OpenSpec.ofChange nnfTwiceSpec)

/-- ITS FALSE NEIGHBOUR: 'it returns false'. Refute it at one input. -/
def nnfTwiceWrong : ChangeSpec := { name := "nnfTwice", fn := fun _ => fun
  | [d] => { results := [.lit (.bool false)], args := [d] }
  | _ => none }
def NnfTwiceWrongFalsely : Prop := nnfTwiceRow.holds Tryd.pinned (OpenSpec.ofChange nnfTwiceWrong)

/- THE SECOND FORM. 'bulk': how many values and letters a reading holds, each counted each time it is reached (what is shared counts as often as it is met; a slice's spare places count too). A statement '..UptoSaid' is the law's where the arguments, and the package variables that the reading takes, are together of bulk at most 1048576: NARROWER than '..Said'. Prove '..Said' where nothing that the law and all that it calls make is longer than what came in: it says more and counts as full. Else prove '..UptoSaid'. A law counts once. -/
mutual
def uptoBulk {H : Type} : DataW H → Nat
  | .lit (.string bytes) => bytes.length + 1
  | .lit _ => 1
  | .nil => 1
  | .ptr d => uptoBulk d + 1
  | .slice elems spare => uptoBulkAll elems + uptoBulkAll spare + 1
  | .agg parts => uptoBulkAll parts + 1
  | .iface _ d => uptoBulk d + 1
  | .map entries => uptoBulkEntries entries + 1
  | .held _ => 1
def uptoBulkAll {H : Type} : List (DataW H) → Nat
  | [] => 0
  | d :: r => uptoBulk d + uptoBulkAll r
def uptoBulkEntries {H : Type} : List (Lit × DataW H) → Nat
  | [] => 0
  | x :: r => uptoBulkEntry x + uptoBulkEntries r
def uptoBulkEntry {H : Type} : Lit × DataW H → Nat
  | (.string bytes, d) => bytes.length + uptoBulk d + 1
  | (_, d) => uptoBulk d + 1
 end
def uptoSmall : (H : Type) → List (DataW H) → Bool := fun _ ds => decide (uptoBulkAll ds ≤ 1048576)
def OpenSpec.upto (s : _root_.Go.ChangeSpec) : _root_.Go.OpenSpec := { _root_.Go.OpenSpec.ofChange s with cond := some uptoSmall }

/-- 'sortilegelaw17.NbaMakes', WHERE WHAT IT READS IS OF BULK AT MOST 1048576: true; the input reads as it did. -/
def nbaMakesUptoRow : OpenClaim := { program := "ytbpndgllhhajoaadoor", sum := "2884993c2642ad5e7e7f9220945d532948630ca0fd5a677f01d6f643916cd3da", func := "sortilege/sortilegelaw17.NbaMakes", spec := "nbaMakes", inPlace := ["internal/reflectlite.ValueOf", "(internal/reflectlite.Value).Type", "(internal/reflectlite.Value).IsNil", "internal/reflectlite.TypeOf", "(internal/reflectlite.Value).Elem", "(internal/reflectlite.Value).Set"], unfollowed := true, recurses := true, named := ["errors.errorType"], plainKeys := false, apart := false, laid := [("errors.errorType", laid_errors_errorType)], narrowed := true }
def NbaMakesUptoSaid : Prop := nbaMakesUptoRow.holds Tryd.pinned (OpenSpec.upto nbaMakesSpec)

/-- 'sortilegelaw17.NbaAccepts', WHERE WHAT IT READS IS OF BULK AT MOST 1048576: true; the input reads as it did. -/
def nbaAcceptsUptoRow : OpenClaim := { program := "ytbpndgllhhajoaadoor", sum := "2884993c2642ad5e7e7f9220945d532948630ca0fd5a677f01d6f643916cd3da", func := "sortilege/sortilegelaw17.NbaAccepts", spec := "nbaAccepts", inPlace := ["internal/reflectlite.ValueOf", "(internal/reflectlite.Value).Type", "(internal/reflectlite.Value).IsNil", "internal/reflectlite.TypeOf", "(internal/reflectlite.Value).Elem", "(internal/reflectlite.Value).Set"], unfollowed := true, recurses := true, named := ["errors.errorType"], plainKeys := false, apart := false, laid := [("errors.errorType", laid_errors_errorType)], narrowed := true }
def NbaAcceptsUptoSaid : Prop := nbaAcceptsUptoRow.holds Tryd.pinned (OpenSpec.upto nbaAcceptsSpec)

/-- 'sortilegelaw15.NnfOdd', WHERE WHAT IT READS IS OF BULK AT MOST 1048576: true; the input reads as it did. -/
def nnfOddUptoRow : OpenClaim := { program := "ytbpndgllhhajoaadoor", sum := "2884993c2642ad5e7e7f9220945d532948630ca0fd5a677f01d6f643916cd3da", func := "sortilege/sortilegelaw15.NnfOdd", spec := "nnfOdd", inPlace := ["internal/bytealg.IndexByteString", "internal/bytealg.IndexString", "internal/reflectlite.ValueOf", "(internal/reflectlite.Value).Type", "(internal/reflectlite.Value).IsNil", "internal/reflectlite.TypeOf", "(internal/reflectlite.Value).Elem", "(internal/reflectlite.Value).Set"], unfollowed := true, recurses := true, named := ["internal/bytealg.MaxLen", "errors.errorType"], plainKeys := false, apart := false, laid := [("errors.errorType", laid_errors_errorType)], narrowed := true }
def NnfOddUptoSaid : Prop := nnfOddUptoRow.holds Tryd.pinned (OpenSpec.upto nnfOddSpec)

/-- 'sortilegelaw15.NnfTwice', WHERE WHAT IT READS IS OF BULK AT MOST 1048576: true; the input reads as it did. -/
def nnfTwiceUptoRow : OpenClaim := { program := "ytbpndgllhhajoaadoor", sum := "2884993c2642ad5e7e7f9220945d532948630ca0fd5a677f01d6f643916cd3da", func := "sortilege/sortilegelaw15.NnfTwice", spec := "nnfTwice", inPlace := ["internal/bytealg.IndexByteString", "internal/bytealg.IndexString", "internal/reflectlite.ValueOf", "(internal/reflectlite.Value).Type", "(internal/reflectlite.Value).IsNil", "internal/reflectlite.TypeOf", "(internal/reflectlite.Value).Elem", "(internal/reflectlite.Value).Set"], unfollowed := true, recurses := true, named := ["internal/bytealg.MaxLen", "errors.errorType"], plainKeys := false, apart := false, laid := [("errors.errorType", laid_errors_errorType)], narrowed := true }
def NnfTwiceUptoSaid : Prop := nnfTwiceUptoRow.holds Tryd.pinned (OpenSpec.upto nnfTwiceSpec)

end Rows
end Go.Proofs.YtbpndgllhhajoaaDoor

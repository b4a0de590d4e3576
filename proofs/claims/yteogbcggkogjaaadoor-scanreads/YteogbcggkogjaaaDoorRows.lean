/-
  NARROWER THAN 'FOR EVERY INPUT', by the rows' own cells (each row's printed sentence says how): ScanTells: laid · ScanPlaces: laid · ScanJoins: laid · ScanNames: laid · ScanNil: laid · ScanReads: laid.
  DERIVED. THE GIVEN ROWS OF THIS SEAT. 6 by the template 'for every input the law returns true; each argument reads behind the call as it read before'; 0 by the template 'total and deterministic' (their statements: YteogbcggkogjaaaDoorTotals.lean).
  GIVEN WITH THE SEED: the statements are not yours to turn. If you find one false, say at which input.
  Laid BY PROGRAM, IN A SANDBOX (cutbox-rows.mjs): the forced cells as the released guide's own fill.sh prints them over the translation d5922295a59ec23a… (all of the seat's roots in one cut). By AI agents, Wed Nov 11 2026. No macro, syntax, notation, axiom, sorry.
-/
import Derived.Test.YteogbcggkogjaaaDoorChecked
import GoSem.Claim
import GoSem.ClaimJoined
import GoSem.ClaimMapViews
import Derived.JoinedTies
import Derived.KernelRfl
namespace Go.Proofs.YteogbcggkogjaaaDoor
/- THE CELL 'sum', in the pinned program and in every row, IS THE sha256 OF THE DUMP (.gsa) THAT YteogbcggkogjaaaDoorProg.lean LOADS. Nothing in Lean hashes anything: it is a label: what it is worth is what the hold of that sum in a sandbox is worth. -/
noncomputable def Tryd.pinned : Pinned := { name := "yteogbcggkogjaaadoor", sum := "d5922295a59ec23a27e5836a6ab682af679199095c7fdcfd22abee55ec5bcfc8", checked := Tryd.checked }
namespace Rows
def none {H : Type} : Left H := { results := [], args := [] }

/- WHAT THE LISTED PACKAGE-LEVEL VARIABLES READ AS WHEN THE CALL BEGINS. Each datum BY PROGRAM (the guide's laid-datum.mjs) off the statement by which the dump's own 'gosem.cut.vars' lays the variable. In a bare row this is a premise. The card (YteogbcggkogjaaaDoorCards.lean) ties it to the program's text. -/
def laid_errors_errorType {H : Type} : DataW H := .iface "internal/reflectlite.rtype" (.agg [.ptr (.lit (.string [101, 114, 114, 111, 114]))])

/-- 'sortilegelaw04.ScanTells': WHATEVER THE INPUT: true; the input reads as it did. -/
def scanTellsSpec : ChangeSpec := { name := "scanTells", fn := fun _ => fun
  | [d] => { results := [.lit (.bool true)], args := [d] }
  | _ => none }
def scanTellsRow : OpenClaim := { program := "yteogbcggkogjaaadoor", sum := "d5922295a59ec23a27e5836a6ab682af679199095c7fdcfd22abee55ec5bcfc8", func := "sortilege/sortilegelaw04.ScanTells", spec := "scanTells", inPlace := ["internal/bytealg.IndexByteString", "internal/bytealg.IndexString", "internal/reflectlite.ValueOf", "(internal/reflectlite.Value).Type", "(internal/reflectlite.Value).IsNil", "internal/reflectlite.TypeOf", "(internal/reflectlite.Value).Elem", "(internal/reflectlite.Value).Set"], unfollowed := true, recurses := true, named := ["internal/bytealg.MaxLen", "errors.errorType"], apart := false, laid := [("errors.errorType", laid_errors_errorType)] }
def ScanTellsSaid : Prop := scanTellsRow.holds Tryd.pinned (OpenSpec.ofChange scanTellsSpec)

/-- ITS FALSE NEIGHBOUR: 'it returns false'. Refute it at one input. -/
def scanTellsWrong : ChangeSpec := { name := "scanTells", fn := fun _ => fun
  | [d] => { results := [.lit (.bool false)], args := [d] }
  | _ => none }
def ScanTellsWrongFalsely : Prop := scanTellsRow.holds Tryd.pinned (OpenSpec.ofChange scanTellsWrong)

/-- 'sortilegelaw04.ScanPlaces': WHATEVER THE INPUT: true; the input reads as it did. -/
def scanPlacesSpec : ChangeSpec := { name := "scanPlaces", fn := fun _ => fun
  | [d] => { results := [.lit (.bool true)], args := [d] }
  | _ => none }
def scanPlacesRow : OpenClaim := { program := "yteogbcggkogjaaadoor", sum := "d5922295a59ec23a27e5836a6ab682af679199095c7fdcfd22abee55ec5bcfc8", func := "sortilege/sortilegelaw04.ScanPlaces", spec := "scanPlaces", inPlace := ["internal/bytealg.IndexByteString", "internal/bytealg.IndexString", "internal/reflectlite.ValueOf", "(internal/reflectlite.Value).Type", "(internal/reflectlite.Value).IsNil", "internal/reflectlite.TypeOf", "(internal/reflectlite.Value).Elem", "(internal/reflectlite.Value).Set"], unfollowed := true, recurses := true, named := ["internal/bytealg.MaxLen", "errors.errorType"], apart := false, laid := [("errors.errorType", laid_errors_errorType)] }
def ScanPlacesSaid : Prop := scanPlacesRow.holds Tryd.pinned (OpenSpec.ofChange scanPlacesSpec)

/-- ITS FALSE NEIGHBOUR: 'it returns false'. Refute it at one input. -/
def scanPlacesWrong : ChangeSpec := { name := "scanPlaces", fn := fun _ => fun
  | [d] => { results := [.lit (.bool false)], args := [d] }
  | _ => none }
def ScanPlacesWrongFalsely : Prop := scanPlacesRow.holds Tryd.pinned (OpenSpec.ofChange scanPlacesWrong)

/-- 'sortilegelaw04.ScanJoins': WHATEVER THE INPUT: true; the input reads as it did. -/
def scanJoinsSpec : ChangeSpec := { name := "scanJoins", fn := fun _ => fun
  | [d1, d2] => { results := [.lit (.bool true)], args := [d1, d2] }
  | _ => none }
def scanJoinsRow : OpenClaim := { program := "yteogbcggkogjaaadoor", sum := "d5922295a59ec23a27e5836a6ab682af679199095c7fdcfd22abee55ec5bcfc8", func := "sortilege/sortilegelaw04.ScanJoins", spec := "scanJoins", inPlace := ["internal/bytealg.IndexByteString", "internal/bytealg.IndexString", "internal/reflectlite.ValueOf", "(internal/reflectlite.Value).Type", "(internal/reflectlite.Value).IsNil", "internal/reflectlite.TypeOf", "(internal/reflectlite.Value).Elem", "(internal/reflectlite.Value).Set"], unfollowed := true, recurses := true, named := ["internal/bytealg.MaxLen", "errors.errorType"], apart := false, laid := [("errors.errorType", laid_errors_errorType)] }
def ScanJoinsSaid : Prop := scanJoinsRow.holds Tryd.pinned (OpenSpec.ofChange scanJoinsSpec)

/-- ITS FALSE NEIGHBOUR: 'it returns false'. Refute it at one input. -/
def scanJoinsWrong : ChangeSpec := { name := "scanJoins", fn := fun _ => fun
  | [d1, d2] => { results := [.lit (.bool false)], args := [d1, d2] }
  | _ => none }
def ScanJoinsWrongFalsely : Prop := scanJoinsRow.holds Tryd.pinned (OpenSpec.ofChange scanJoinsWrong)

/-- 'sortilegelaw04.ScanNames': WHATEVER THE INPUT: true; the input reads as it did. -/
def scanNamesSpec : ChangeSpec := { name := "scanNames", fn := fun _ => fun
  | [d1, d2] => { results := [.lit (.bool true)], args := [d1, d2] }
  | _ => none }
def scanNamesRow : OpenClaim := { program := "yteogbcggkogjaaadoor", sum := "d5922295a59ec23a27e5836a6ab682af679199095c7fdcfd22abee55ec5bcfc8", func := "sortilege/sortilegelaw04.ScanNames", spec := "scanNames", inPlace := ["internal/bytealg.IndexByteString", "internal/bytealg.IndexString", "internal/reflectlite.ValueOf", "(internal/reflectlite.Value).Type", "(internal/reflectlite.Value).IsNil", "internal/reflectlite.TypeOf", "(internal/reflectlite.Value).Elem", "(internal/reflectlite.Value).Set"], unfollowed := true, recurses := true, named := ["internal/bytealg.MaxLen", "errors.errorType"], apart := false, laid := [("errors.errorType", laid_errors_errorType)] }
def ScanNamesSaid : Prop := scanNamesRow.holds Tryd.pinned (OpenSpec.ofChange scanNamesSpec)

/-- ITS FALSE NEIGHBOUR: 'it returns false'. Refute it at one input. -/
def scanNamesWrong : ChangeSpec := { name := "scanNames", fn := fun _ => fun
  | [d1, d2] => { results := [.lit (.bool false)], args := [d1, d2] }
  | _ => none }
def ScanNamesWrongFalsely : Prop := scanNamesRow.holds Tryd.pinned (OpenSpec.ofChange scanNamesWrong)

/-- 'sortilegelaw04.ScanNil': WHATEVER THE INPUT: true; the input reads as it did. -/
def scanNilSpec : ChangeSpec := { name := "scanNil", fn := fun _ => fun
  | [d] => { results := [.lit (.bool true)], args := [d] }
  | _ => none }
def scanNilRow : OpenClaim := { program := "yteogbcggkogjaaadoor", sum := "d5922295a59ec23a27e5836a6ab682af679199095c7fdcfd22abee55ec5bcfc8", func := "sortilege/sortilegelaw04.ScanNil", spec := "scanNil", inPlace := ["internal/bytealg.IndexByteString", "internal/bytealg.IndexString", "internal/reflectlite.ValueOf", "(internal/reflectlite.Value).Type", "(internal/reflectlite.Value).IsNil", "internal/reflectlite.TypeOf", "(internal/reflectlite.Value).Elem", "(internal/reflectlite.Value).Set"], unfollowed := true, recurses := true, named := ["internal/bytealg.MaxLen", "errors.errorType"], apart := false, laid := [("errors.errorType", laid_errors_errorType)] }
def ScanNilSaid : Prop := scanNilRow.holds Tryd.pinned (OpenSpec.ofChange scanNilSpec)

/-- ITS FALSE NEIGHBOUR: 'it returns false'. Refute it at one input. -/
def scanNilWrong : ChangeSpec := { name := "scanNil", fn := fun _ => fun
  | [d] => { results := [.lit (.bool false)], args := [d] }
  | _ => none }
def ScanNilWrongFalsely : Prop := scanNilRow.holds Tryd.pinned (OpenSpec.ofChange scanNilWrong)

/-- 'sortilegelaw04.ScanReads': WHATEVER THE INPUT: true; the input reads as it did. -/
def scanReadsSpec : ChangeSpec := { name := "scanReads", fn := fun _ => fun
  | [d1, d2] => { results := [.lit (.bool true)], args := [d1, d2] }
  | _ => none }
def scanReadsRow : OpenClaim := { program := "yteogbcggkogjaaadoor", sum := "d5922295a59ec23a27e5836a6ab682af679199095c7fdcfd22abee55ec5bcfc8", func := "sortilege/sortilegelaw04.ScanReads", spec := "scanReads", inPlace := ["internal/bytealg.IndexByteString", "internal/bytealg.IndexString", "internal/reflectlite.ValueOf", "(internal/reflectlite.Value).Type", "(internal/reflectlite.Value).IsNil", "internal/reflectlite.TypeOf", "(internal/reflectlite.Value).Elem", "(internal/reflectlite.Value).Set"], unfollowed := true, recurses := true, named := ["internal/bytealg.MaxLen", "errors.errorType"], apart := false, laid := [("errors.errorType", laid_errors_errorType)] }
def ScanReadsSaid : Prop := scanReadsRow.holds Tryd.pinned (OpenSpec.ofChange scanReadsSpec)

/-- ITS FALSE NEIGHBOUR: 'it returns false'. Refute it at one input. -/
def scanReadsWrong : ChangeSpec := { name := "scanReads", fn := fun _ => fun
  | [d1, d2] => { results := [.lit (.bool false)], args := [d1, d2] }
  | _ => none }
def ScanReadsWrongFalsely : Prop := scanReadsRow.holds Tryd.pinned (OpenSpec.ofChange scanReadsWrong)

/- THE SECOND FORM. 'bulk': how many values and letters a reading holds, each counted each time it is reached (what is shared counts as often as it is met; a slice's spare places count too). A statement '..UptoSaid' is the law's where the arguments, and the package variables that the reading takes, are together of bulk at most 1048576: NARROWER than '..Said'. Prove '..Said' where nothing that the law and all that it calls make is longer than what came in: it says more and counts as full. Else prove '..UptoSaid'. A law counts once. -/
mutual
def uptoBulk {H : Type} : DataW H → Nat
  | .lit (.string bytes) => bytes.length + 1
  | .lit _ => 1
  | .nil => 1
  | .ptr d => uptoBulk d + 1
  | .slice elems spare => uptoBulkAll elems + uptoBulkAll spare + 1
  | .agg parts => uptoBulkAll parts + 1
  | .iface _ d => uptoBulk d + 1
  | .map entries => uptoBulkEntries entries + 1
  | .held _ => 1
def uptoBulkAll {H : Type} : List (DataW H) → Nat
  | [] => 0
  | d :: r => uptoBulk d + uptoBulkAll r
def uptoBulkEntries {H : Type} : List (Lit × DataW H) → Nat
  | [] => 0
  | x :: r => uptoBulkEntry x + uptoBulkEntries r
def uptoBulkEntry {H : Type} : Lit × DataW H → Nat
  | (.string bytes, d) => bytes.length + uptoBulk d + 1
  | (_, d) => uptoBulk d + 1
 end
def uptoSmall : (H : Type) → List (DataW H) → Bool := fun _ ds => decide (uptoBulkAll ds ≤ 1048576)
def OpenSpec.upto (s : _root_.Go.ChangeSpec) : _root_.Go.OpenSpec := { _root_.Go.OpenSpec.ofChange s with cond := some uptoSmall }

/-- 'sortilegelaw04.ScanTells', WHERE WHAT IT READS IS OF BULK AT MOST 1048576: true; the input reads as it did. -/
def scanTellsUptoRow : OpenClaim := { program := "yteogbcggkogjaaadoor", sum := "d5922295a59ec23a27e5836a6ab682af679199095c7fdcfd22abee55ec5bcfc8", func := "sortilege/sortilegelaw04.ScanTells", spec := "scanTells", inPlace := ["internal/bytealg.IndexByteString", "internal/bytealg.IndexString", "internal/reflectlite.ValueOf", "(internal/reflectlite.Value).Type", "(internal/reflectlite.Value).IsNil", "internal/reflectlite.TypeOf", "(internal/reflectlite.Value).Elem", "(internal/reflectlite.Value).Set"], unfollowed := true, recurses := true, named := ["internal/bytealg.MaxLen", "errors.errorType"], apart := false, laid := [("errors.errorType", laid_errors_errorType)], narrowed := true }
def ScanTellsUptoSaid : Prop := scanTellsUptoRow.holds Tryd.pinned (OpenSpec.upto scanTellsSpec)

/-- 'sortilegelaw04.ScanPlaces', WHERE WHAT IT READS IS OF BULK AT MOST 1048576: true; the input reads as it did. -/
def scanPlacesUptoRow : OpenClaim := { program := "yteogbcggkogjaaadoor", sum := "d5922295a59ec23a27e5836a6ab682af679199095c7fdcfd22abee55ec5bcfc8", func := "sortilege/sortilegelaw04.ScanPlaces", spec := "scanPlaces", inPlace := ["internal/bytealg.IndexByteString", "internal/bytealg.IndexString", "internal/reflectlite.ValueOf", "(internal/reflectlite.Value).Type", "(internal/reflectlite.Value).IsNil", "internal/reflectlite.TypeOf", "(internal/reflectlite.Value).Elem", "(internal/reflectlite.Value).Set"], unfollowed := true, recurses := true, named := ["internal/bytealg.MaxLen", "errors.errorType"], apart := false, laid := [("errors.errorType", laid_errors_errorType)], narrowed := true }
def ScanPlacesUptoSaid : Prop := scanPlacesUptoRow.holds Tryd.pinned (OpenSpec.upto scanPlacesSpec)

/-- 'sortilegelaw04.ScanJoins', WHERE WHAT IT READS IS OF BULK AT MOST 1048576: true; the input reads as it did. -/
def scanJoinsUptoRow : OpenClaim := { program := "yteogbcggkogjaaadoor", sum := "d5922295a59ec23a27e5836a6ab682af679199095c7fdcfd22abee55ec5bcfc8", func := "sortilege/sortilegelaw04.ScanJoins", spec := "scanJoins", inPlace := ["internal/bytealg.IndexByteString", "internal/bytealg.IndexString", "internal/reflectlite.ValueOf", "(internal/reflectlite.Value).Type", "(internal/reflectlite.Value).IsNil", "internal/reflectlite.TypeOf", "(internal/reflectlite.Value).Elem", "(internal/reflectlite.Value).Set"], unfollowed := true, recurses := true, named := ["internal/bytealg.MaxLen", "errors.errorType"], apart := false, laid := [("errors.errorType", laid_errors_errorType)], narrowed := true }
def ScanJoinsUptoSaid : Prop := scanJoinsUptoRow.holds Tryd.pinned (OpenSpec.upto scanJoinsSpec)

/-- 'sortilegelaw04.ScanNames', WHERE WHAT IT READS IS OF BULK AT MOST 1048576: true; the input reads as it did. -/
def scanNamesUptoRow : OpenClaim := { program := "yteogbcggkogjaaadoor", sum := "d5922295a59ec23a27e5836a6ab682af679199095c7fdcfd22abee55ec5bcfc8", func := "sortilege/sortilegelaw04.ScanNames", spec := "scanNames", inPlace := ["internal/bytealg.IndexByteString", "internal/bytealg.IndexString", "internal/reflectlite.ValueOf", "(internal/reflectlite.Value).Type", "(internal/reflectlite.Value).IsNil", "internal/reflectlite.TypeOf", "(internal/reflectlite.Value).Elem", "(internal/reflectlite.Value).Set"], unfollowed := true, recurses := true, named := ["internal/bytealg.MaxLen", "errors.errorType"], apart := false, laid := [("errors.errorType", laid_errors_errorType)], narrowed := true }
def ScanNamesUptoSaid : Prop := scanNamesUptoRow.holds Tryd.pinned (OpenSpec.upto scanNamesSpec)

/-- 'sortilegelaw04.ScanNil', WHERE WHAT IT READS IS OF BULK AT MOST 1048576: true; the input reads as it did. -/
def scanNilUptoRow : OpenClaim := { program := "yteogbcggkogjaaadoor", sum := "d5922295a59ec23a27e5836a6ab682af679199095c7fdcfd22abee55ec5bcfc8", func := "sortilege/sortilegelaw04.ScanNil", spec := "scanNil", inPlace := ["internal/bytealg.IndexByteString", "internal/bytealg.IndexString", "internal/reflectlite.ValueOf", "(internal/reflectlite.Value).Type", "(internal/reflectlite.Value).IsNil", "internal/reflectlite.TypeOf", "(internal/reflectlite.Value).Elem", "(internal/reflectlite.Value).Set"], unfollowed := true, recurses := true, named := ["internal/bytealg.MaxLen", "errors.errorType"], apart := false, laid := [("errors.errorType", laid_errors_errorType)], narrowed := true }
def ScanNilUptoSaid : Prop := scanNilUptoRow.holds Tryd.pinned (OpenSpec.upto scanNilSpec)

/-- 'sortilegelaw04.ScanReads', WHERE WHAT IT READS IS OF BULK AT MOST 1048576: true; the input reads as it did. -/
def scanReadsUptoRow : OpenClaim := { program := "yteogbcggkogjaaadoor", sum := "d5922295a59ec23a27e5836a6ab682af679199095c7fdcfd22abee55ec5bcfc8", func := "sortilege/sortilegelaw04.ScanReads", spec := "scanReads", inPlace := ["internal/bytealg.IndexByteString", "internal/bytealg.IndexString", "internal/reflectlite.ValueOf", "(internal/reflectlite.Value).Type", "(internal/reflectlite.Value).IsNil", "internal/reflectlite.TypeOf", "(internal/reflectlite.Value).Elem", "(internal/reflectlite.Value).Set"], unfollowed := true, recurses := true, named := ["internal/bytealg.MaxLen", "errors.errorType"], apart := false, laid := [("errors.errorType", laid_errors_errorType)], narrowed := true }
def ScanReadsUptoSaid : Prop := scanReadsUptoRow.holds Tryd.pinned (OpenSpec.upto scanReadsSpec)

end Rows
end Go.Proofs.YteogbcggkogjaaaDoor

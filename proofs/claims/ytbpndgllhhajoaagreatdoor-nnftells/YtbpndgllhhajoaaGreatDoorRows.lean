/-
  NARROWER THAN 'FOR EVERY INPUT', by the rows' own cells (each row's printed sentence says how): LassoHolds: laid · LassoTurns: laid · LassoSteps: laid · LassoShifts: laid · LassoLetters: laid · NnfTells: laid.
  DERIVED. THE GIVEN ROWS OF THIS SEAT. 6 by the template 'for every input the law returns true; each argument reads behind the call as it read before'; 0 by the template 'total and deterministic' (their statements: YtbpndgllhhajoaaGreatDoorTotals.lean).
  GIVEN WITH THE SEED: the statements are not yours to turn. If you find one false, say at which input.
  Laid BY PROGRAM, IN A SANDBOX (cutbox-rows.mjs): the forced cells as the released guide's own fill.sh prints them over the translation 9853f9e8d4bb4351… (all of the seat's roots in one cut). By AI agents, Wed Nov 11 2026. No macro, syntax, notation, axiom, sorry.
-/
import Derived.Test.YtbpndgllhhajoaaGreatDoorChecked
import GoSem.Claim
import GoSem.ClaimJoined
import GoSem.ClaimMapViews
import Derived.JoinedTies
import Derived.KernelRfl
namespace Go.Proofs.YtbpndgllhhajoaaGreatDoor
/- THE CELL 'sum', in the pinned program and in every row, IS THE sha256 OF THE DUMP (.gsa) THAT YtbpndgllhhajoaaGreatDoorProg.lean LOADS. Nothing in Lean hashes anything: it is a label: what it is worth is what the hold of that sum in a sandbox is worth. -/
noncomputable def Tryz.pinned : Pinned := { name := "ytbpndgllhhajoaagreatdoor", sum := "9853f9e8d4bb435106047940bba1aac80bfc7b32f8d6aa993f8ffcbb532ad1b4", checked := Tryz.checked }
namespace Rows
def none {H : Type} : Left H := { results := [], args := [] }

/- WHAT THE LISTED PACKAGE-LEVEL VARIABLES READ AS WHEN THE CALL BEGINS. Each datum BY PROGRAM (the guide's laid-datum.mjs) off the statement by which the dump's own 'gosem.cut.vars' lays the variable. In a bare row this is a premise. The card (YtbpndgllhhajoaaGreatDoorCards.lean) ties it to the program's text. -/
def laid_errors_errorType {H : Type} : DataW H := .iface "internal/reflectlite.rtype" (.agg [.ptr (.lit (.string [101, 114, 114, 111, 114]))])

/-- 'sortilegelaw14.LassoHolds': WHATEVER THE INPUT: true; the input reads as it did. -/
def lassoHoldsSpec : ChangeSpec := { name := "lassoHolds", fn := fun _ => fun
  | [d1, d2, d3, d4] => { results := [.lit (.bool true)], args := [d1, d2, d3, d4] }
  | _ => none }
def lassoHoldsRow : OpenClaim := { program := "ytbpndgllhhajoaagreatdoor", sum := "9853f9e8d4bb435106047940bba1aac80bfc7b32f8d6aa993f8ffcbb532ad1b4", func := "sortilege/sortilegelaw14.LassoHolds", spec := "lassoHolds", inPlace := ["internal/bytealg.IndexByteString", "internal/bytealg.IndexString", "internal/reflectlite.ValueOf", "(internal/reflectlite.Value).Type", "(internal/reflectlite.Value).IsNil", "internal/reflectlite.TypeOf", "(internal/reflectlite.Value).Elem", "(internal/reflectlite.Value).Set"], unfollowed := true, recurses := true, named := ["internal/bytealg.MaxLen", "errors.errorType"], apart := false, laid := [("errors.errorType", laid_errors_errorType)] }
def LassoHoldsSaid : Prop := lassoHoldsRow.holds Tryz.pinned (OpenSpec.ofChange lassoHoldsSpec)

/-- ITS FALSE NEIGHBOUR: 'it returns false'. Refute it at one input. -/
def lassoHoldsWrong : ChangeSpec := { name := "lassoHolds", fn := fun _ => fun
  | [d1, d2, d3, d4] => { results := [.lit (.bool false)], args := [d1, d2, d3, d4] }
  | _ => none }
def LassoHoldsWrongFalsely : Prop := lassoHoldsRow.holds Tryz.pinned (OpenSpec.ofChange lassoHoldsWrong)

/-- 'sortilegelaw14.LassoTurns': WHATEVER THE INPUT: true; the input reads as it did. -/
def lassoTurnsSpec : ChangeSpec := { name := "lassoTurns", fn := fun _ => fun
  | [d1, d2, d3] => { results := [.lit (.bool true)], args := [d1, d2, d3] }
  | _ => none }
def lassoTurnsRow : OpenClaim := { program := "ytbpndgllhhajoaagreatdoor", sum := "9853f9e8d4bb435106047940bba1aac80bfc7b32f8d6aa993f8ffcbb532ad1b4", func := "sortilege/sortilegelaw14.LassoTurns", spec := "lassoTurns", inPlace := ["internal/bytealg.IndexByteString", "internal/bytealg.IndexString", "internal/reflectlite.ValueOf", "(internal/reflectlite.Value).Type", "(internal/reflectlite.Value).IsNil", "internal/reflectlite.TypeOf", "(internal/reflectlite.Value).Elem", "(internal/reflectlite.Value).Set"], unfollowed := true, recurses := true, named := ["internal/bytealg.MaxLen", "errors.errorType"], apart := false, laid := [("errors.errorType", laid_errors_errorType)] }
def LassoTurnsSaid : Prop := lassoTurnsRow.holds Tryz.pinned (OpenSpec.ofChange lassoTurnsSpec)

/-- ITS FALSE NEIGHBOUR: 'it returns false'. Refute it at one input. -/
def lassoTurnsWrong : ChangeSpec := { name := "lassoTurns", fn := fun _ => fun
  | [d1, d2, d3] => { results := [.lit (.bool false)], args := [d1, d2, d3] }
  | _ => none }
def LassoTurnsWrongFalsely : Prop := lassoTurnsRow.holds Tryz.pinned (OpenSpec.ofChange lassoTurnsWrong)

/-- 'sortilegelaw14.LassoSteps': WHATEVER THE INPUT: true; the input reads as it did. -/
def lassoStepsSpec : ChangeSpec := { name := "lassoSteps", fn := fun _ => fun
  | [d1, d2, d3, d4] => { results := [.lit (.bool true)], args := [d1, d2, d3, d4] }
  | _ => none }
def lassoStepsRow : OpenClaim := { program := "ytbpndgllhhajoaagreatdoor", sum := "9853f9e8d4bb435106047940bba1aac80bfc7b32f8d6aa993f8ffcbb532ad1b4", func := "sortilege/sortilegelaw14.LassoSteps", spec := "lassoSteps", inPlace := ["internal/bytealg.IndexByteString", "internal/bytealg.IndexString", "internal/reflectlite.ValueOf", "(internal/reflectlite.Value).Type", "(internal/reflectlite.Value).IsNil", "internal/reflectlite.TypeOf", "(internal/reflectlite.Value).Elem", "(internal/reflectlite.Value).Set"], unfollowed := true, recurses := true, named := ["internal/bytealg.MaxLen", "errors.errorType"], apart := false, laid := [("errors.errorType", laid_errors_errorType)] }
def LassoStepsSaid : Prop := lassoStepsRow.holds Tryz.pinned (OpenSpec.ofChange lassoStepsSpec)

/-- ITS FALSE NEIGHBOUR: 'it returns false'. Refute it at one input. -/
def lassoStepsWrong : ChangeSpec := { name := "lassoSteps", fn := fun _ => fun
  | [d1, d2, d3, d4] => { results := [.lit (.bool false)], args := [d1, d2, d3, d4] }
  | _ => none }
def LassoStepsWrongFalsely : Prop := lassoStepsRow.holds Tryz.pinned (OpenSpec.ofChange lassoStepsWrong)

/-- 'sortilegelaw14.LassoShifts': WHATEVER THE INPUT: true; the input reads as it did. -/
def lassoShiftsSpec : ChangeSpec := { name := "lassoShifts", fn := fun _ => fun
  | [d1, d2, d3, d4] => { results := [.lit (.bool true)], args := [d1, d2, d3, d4] }
  | _ => none }
def lassoShiftsRow : OpenClaim := { program := "ytbpndgllhhajoaagreatdoor", sum := "9853f9e8d4bb435106047940bba1aac80bfc7b32f8d6aa993f8ffcbb532ad1b4", func := "sortilege/sortilegelaw14.LassoShifts", spec := "lassoShifts", inPlace := ["internal/bytealg.IndexByteString", "internal/bytealg.IndexString", "internal/reflectlite.ValueOf", "(internal/reflectlite.Value).Type", "(internal/reflectlite.Value).IsNil", "internal/reflectlite.TypeOf", "(internal/reflectlite.Value).Elem", "(internal/reflectlite.Value).Set"], unfollowed := true, recurses := true, named := ["internal/bytealg.MaxLen", "errors.errorType"], apart := false, laid := [("errors.errorType", laid_errors_errorType)] }
def LassoShiftsSaid : Prop := lassoShiftsRow.holds Tryz.pinned (OpenSpec.ofChange lassoShiftsSpec)

/-- ITS FALSE NEIGHBOUR: 'it returns false'. Refute it at one input. -/
def lassoShiftsWrong : ChangeSpec := { name := "lassoShifts", fn := fun _ => fun
  | [d1, d2, d3, d4] => { results := [.lit (.bool false)], args := [d1, d2, d3, d4] }
  | _ => none }
def LassoShiftsWrongFalsely : Prop := lassoShiftsRow.holds Tryz.pinned (OpenSpec.ofChange lassoShiftsWrong)

/-- 'sortilegelaw14.LassoLetters': WHATEVER THE INPUT: true; the input reads as it did. -/
def lassoLettersSpec : ChangeSpec := { name := "lassoLetters", fn := fun _ => fun
  | [d1, d2, d3] => { results := [.lit (.bool true)], args := [d1, d2, d3] }
  | _ => none }
def lassoLettersRow : OpenClaim := { program := "ytbpndgllhhajoaagreatdoor", sum := "9853f9e8d4bb435106047940bba1aac80bfc7b32f8d6aa993f8ffcbb532ad1b4", func := "sortilege/sortilegelaw14.LassoLetters", spec := "lassoLetters", inPlace := ["internal/bytealg.IndexByteString", "internal/bytealg.IndexString", "internal/reflectlite.ValueOf", "(internal/reflectlite.Value).Type", "(internal/reflectlite.Value).IsNil", "internal/reflectlite.TypeOf", "(internal/reflectlite.Value).Elem", "(internal/reflectlite.Value).Set"], unfollowed := true, recurses := true, named := ["internal/bytealg.MaxLen", "errors.errorType"], apart := false, laid := [("errors.errorType", laid_errors_errorType)] }
def LassoLettersSaid : Prop := lassoLettersRow.holds Tryz.pinned (OpenSpec.ofChange lassoLettersSpec)

/-- ITS FALSE NEIGHBOUR: 'it returns false'. Refute it at one input. -/
def lassoLettersWrong : ChangeSpec := { name := "lassoLetters", fn := fun _ => fun
  | [d1, d2, d3] => { results := [.lit (.bool false)], args := [d1, d2, d3] }
  | _ => none }
def LassoLettersWrongFalsely : Prop := lassoLettersRow.holds Tryz.pinned (OpenSpec.ofChange lassoLettersWrong)

/-- 'sortilegelaw15.NnfTells': WHATEVER THE INPUT: true; the input reads as it did. -/
def nnfTellsSpec : ChangeSpec := { name := "nnfTells", fn := fun _ => fun
  | [d1, d2] => { results := [.lit (.bool true)], args := [d1, d2] }
  | _ => none }
def nnfTellsRow : OpenClaim := { program := "ytbpndgllhhajoaagreatdoor", sum := "9853f9e8d4bb435106047940bba1aac80bfc7b32f8d6aa993f8ffcbb532ad1b4", func := "sortilege/sortilegelaw15.NnfTells", spec := "nnfTells", inPlace := ["internal/bytealg.IndexByteString", "internal/bytealg.IndexString", "internal/reflectlite.ValueOf", "(internal/reflectlite.Value).Type", "(internal/reflectlite.Value).IsNil", "internal/reflectlite.TypeOf", "(internal/reflectlite.Value).Elem", "(internal/reflectlite.Value).Set"], unfollowed := true, recurses := true, named := ["internal/bytealg.MaxLen", "errors.errorType"], apart := false, laid := [("errors.errorType", laid_errors_errorType)] }
def NnfTellsSaid : Prop := nnfTellsRow.holds Tryz.pinned (OpenSpec.ofChange nnfTellsSpec)

/-- ITS FALSE NEIGHBOUR: 'it returns false'. Refute it at one input. -/
def nnfTellsWrong : ChangeSpec := { name := "nnfTells", fn := fun _ => fun
  | [d1, d2] => { results := [.lit (.bool false)], args := [d1, d2] }
  | _ => none }
def NnfTellsWrongFalsely : Prop := nnfTellsRow.holds Tryz.pinned (OpenSpec.ofChange nnfTellsWrong)

/- THE SECOND FORM. 'bulk': how many values and letters a reading holds, each counted each time it is reached (what is shared counts as often as it is met; a slice's spare places count too). A statement '..UptoSaid' is the law's where the arguments, and the package variables that the reading takes, are together of bulk at most 1048576: NARROWER than '..Said'. Prove '..Said' where nothing that the law and all that it calls make is longer than what came in: it says more and counts as full. Else prove '..UptoSaid'. A law counts once. -/
mutual
def uptoBulk {H : Type} : DataW H → Nat
  | .lit (.string bytes) => bytes.length + 1
  | .lit _ => 1
  | .nil => 1
  | .ptr d => uptoBulk d + 1
  | .slice elems spare => uptoBulkAll elems + uptoBulkAll spare + 1
  | .agg parts => uptoBulkAll parts + 1
  | .iface _ d => uptoBulk d + 1
  | .map entries => uptoBulkEntries entries + 1
  | .held _ => 1
def uptoBulkAll {H : Type} : List (DataW H) → Nat
  | [] => 0
  | d :: r => uptoBulk d + uptoBulkAll r
def uptoBulkEntries {H : Type} : List (Lit × DataW H) → Nat
  | [] => 0
  | x :: r => uptoBulkEntry x + uptoBulkEntries r
def uptoBulkEntry {H : Type} : Lit × DataW H → Nat
  | (.string bytes, d) => bytes.length + uptoBulk d + 1
  | (_, d) => uptoBulk d + 1
 end
def uptoSmall : (H : Type) → List (DataW H) → Bool := fun _ ds => decide (uptoBulkAll ds ≤ 1048576)
def OpenSpec.upto (s : _root_.Go.ChangeSpec) : _root_.Go.OpenSpec := { _root_.Go.OpenSpec.ofChange s with cond := some uptoSmall }

/-- 'sortilegelaw14.LassoHolds', WHERE WHAT IT READS IS OF BULK AT MOST 1048576: true; the input reads as it did. -/
def lassoHoldsUptoRow : OpenClaim := { program := "ytbpndgllhhajoaagreatdoor", sum := "9853f9e8d4bb435106047940bba1aac80bfc7b32f8d6aa993f8ffcbb532ad1b4", func := "sortilege/sortilegelaw14.LassoHolds", spec := "lassoHolds", inPlace := ["internal/bytealg.IndexByteString", "internal/bytealg.IndexString", "internal/reflectlite.ValueOf", "(internal/reflectlite.Value).Type", "(internal/reflectlite.Value).IsNil", "internal/reflectlite.TypeOf", "(internal/reflectlite.Value).Elem", "(internal/reflectlite.Value).Set"], unfollowed := true, recurses := true, named := ["internal/bytealg.MaxLen", "errors.errorType"], apart := false, laid := [("errors.errorType", laid_errors_errorType)], narrowed := true }
def LassoHoldsUptoSaid : Prop := lassoHoldsUptoRow.holds Tryz.pinned (OpenSpec.upto lassoHoldsSpec)

/-- 'sortilegelaw14.LassoTurns', WHERE WHAT IT READS IS OF BULK AT MOST 1048576: true; the input reads as it did. -/
def lassoTurnsUptoRow : OpenClaim := { program := "ytbpndgllhhajoaagreatdoor", sum := "9853f9e8d4bb435106047940bba1aac80bfc7b32f8d6aa993f8ffcbb532ad1b4", func := "sortilege/sortilegelaw14.LassoTurns", spec := "lassoTurns", inPlace := ["internal/bytealg.IndexByteString", "internal/bytealg.IndexString", "internal/reflectlite.ValueOf", "(internal/reflectlite.Value).Type", "(internal/reflectlite.Value).IsNil", "internal/reflectlite.TypeOf", "(internal/reflectlite.Value).Elem", "(internal/reflectlite.Value).Set"], unfollowed := true, recurses := true, named := ["internal/bytealg.MaxLen", "errors.errorType"], apart := false, laid := [("errors.errorType", laid_errors_errorType)], narrowed := true }
def LassoTurnsUptoSaid : Prop := lassoTurnsUptoRow.holds Tryz.pinned (OpenSpec.upto lassoTurnsSpec)

/-- 'sortilegelaw14.LassoSteps', WHERE WHAT IT READS IS OF BULK AT MOST 1048576: true; the input reads as it did. -/
def lassoStepsUptoRow : OpenClaim := { program := "ytbpndgllhhajoaagreatdoor", sum := "9853f9e8d4bb435106047940bba1aac80bfc7b32f8d6aa993f8ffcbb532ad1b4", func := "sortilege/sortilegelaw14.LassoSteps", spec := "lassoSteps", inPlace := ["internal/bytealg.IndexByteString", "internal/bytealg.IndexString", "internal/reflectlite.ValueOf", "(internal/reflectlite.Value).Type", "(internal/reflectlite.Value).IsNil", "internal/reflectlite.TypeOf", "(internal/reflectlite.Value).Elem", "(internal/reflectlite.Value).Set"], unfollowed := true, recurses := true, named := ["internal/bytealg.MaxLen", "errors.errorType"], apart := false, laid := [("errors.errorType", laid_errors_errorType)], narrowed := true }
def LassoStepsUptoSaid : Prop := lassoStepsUptoRow.holds Tryz.pinned (OpenSpec.upto lassoStepsSpec)

/-- 'sortilegelaw14.LassoShifts', WHERE WHAT IT READS IS OF BULK AT MOST 1048576: true; the input reads as it did. -/
def lassoShiftsUptoRow : OpenClaim := { program := "ytbpndgllhhajoaagreatdoor", sum := "9853f9e8d4bb435106047940bba1aac80bfc7b32f8d6aa993f8ffcbb532ad1b4", func := "sortilege/sortilegelaw14.LassoShifts", spec := "lassoShifts", inPlace := ["internal/bytealg.IndexByteString", "internal/bytealg.IndexString", "internal/reflectlite.ValueOf", "(internal/reflectlite.Value).Type", "(internal/reflectlite.Value).IsNil", "internal/reflectlite.TypeOf", "(internal/reflectlite.Value).Elem", "(internal/reflectlite.Value).Set"], unfollowed := true, recurses := true, named := ["internal/bytealg.MaxLen", "errors.errorType"], apart := false, laid := [("errors.errorType", laid_errors_errorType)], narrowed := true }
def LassoShiftsUptoSaid : Prop := lassoShiftsUptoRow.holds Tryz.pinned (OpenSpec.upto lassoShiftsSpec)

/-- 'sortilegelaw14.LassoLetters', WHERE WHAT IT READS IS OF BULK AT MOST 1048576: true; the input reads as it did. -/
def lassoLettersUptoRow : OpenClaim := { program := "ytbpndgllhhajoaagreatdoor", sum := "9853f9e8d4bb435106047940bba1aac80bfc7b32f8d6aa993f8ffcbb532ad1b4", func := "sortilege/sortilegelaw14.LassoLetters", spec := "lassoLetters", inPlace := ["internal/bytealg.IndexByteString", "internal/bytealg.IndexString", "internal/reflectlite.ValueOf", "(internal/reflectlite.Value).Type", "(internal/reflectlite.Value).IsNil", "internal/reflectlite.TypeOf", "(internal/reflectlite.Value).Elem", "(internal/reflectlite.Value).Set"], unfollowed := true, recurses := true, named := ["internal/bytealg.MaxLen", "errors.errorType"], apart := false, laid := [("errors.errorType", laid_errors_errorType)], narrowed := true }
def LassoLettersUptoSaid : Prop := lassoLettersUptoRow.holds Tryz.pinned (OpenSpec.upto lassoLettersSpec)

/-- 'sortilegelaw15.NnfTells', WHERE WHAT IT READS IS OF BULK AT MOST 1048576: true; the input reads as it did. -/
def nnfTellsUptoRow : OpenClaim := { program := "ytbpndgllhhajoaagreatdoor", sum := "9853f9e8d4bb435106047940bba1aac80bfc7b32f8d6aa993f8ffcbb532ad1b4", func := "sortilege/sortilegelaw15.NnfTells", spec := "nnfTells", inPlace := ["internal/bytealg.IndexByteString", "internal/bytealg.IndexString", "internal/reflectlite.ValueOf", "(internal/reflectlite.Value).Type", "(internal/reflectlite.Value).IsNil", "internal/reflectlite.TypeOf", "(internal/reflectlite.Value).Elem", "(internal/reflectlite.Value).Set"], unfollowed := true, recurses := true, named := ["internal/bytealg.MaxLen", "errors.errorType"], apart := false, laid := [("errors.errorType", laid_errors_errorType)], narrowed := true }
def NnfTellsUptoSaid : Prop := nnfTellsUptoRow.holds Tryz.pinned (OpenSpec.upto nnfTellsSpec)

end Rows
end Go.Proofs.YtbpndgllhhajoaaGreatDoor

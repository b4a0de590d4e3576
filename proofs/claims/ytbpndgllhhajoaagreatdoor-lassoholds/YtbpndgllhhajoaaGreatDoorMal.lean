/- slices.Clone of integers (after the kit's proof of the same): its contract. -/
import Derived.Test.YtbpndgllhhajoaaGreatDoorMak
import Derived.Deep.LoopGhost
import Derived.Lib.Walk
import Derived.Lib.SliceRun
set_option linter.unusedVariables false
set_option linter.unusedSimpArgs false
set_option maxRecDepth 100000
namespace Go.Sc
open Go Go.Cm
def intsB:List D→Bool
 |[]=>true
 |x::r=>match x with|.int .i64 _=>intsB r|_=>false
end Go.Sc
namespace Go.Sd
open Go Go.Proofs Go.RowKit Go.Lib Go.Cm
def cClone {β:Type} (args:List TV) (k:List TV→List TV→Option β):Option β:=
 match args with
 |[.d true 0 (.sl 0 xs)]=>chkK (Go.Sc.intsB xs=true∧xs.length≤big) (k [.d false 0 (.sl 0 xs)] [])
 |_=>none
def WS:Env:=(W2.add 49 io0 cClone)
end Go.Sd

/- The scan laws' seat: contracts of the reader's functions where the reader is nil. -/
import Derived.Test.YteogbcggkogjaaaDoorSa
import Derived.Test.YteogbcggkogjaaaDoorSh
set_option linter.unusedVariables false
set_option linter.unusedSimpArgs false
namespace Go.Sd
open Go Go.Cm Go.Proofs Go.Sc
set_option maxRecDepth 100000

def tok0D : D := .ag [.int .i64 0, .str ⟨#[]⟩, .int .i64 0]
def cPeekN {β : Type} (args : List TV) (k : List TV → List TV → Option β) : Option β :=
  match args with
  | [.d true 0 .nilp] => k [.d false 4 tok0D] []
  | _ => none
def cIsN {β : Type} (args : List TV) (k : List TV → List TV → Option β) : Option β :=
  match args with
  | [.d true 0 .nilp, .d true 0 (.str s)] => k [.d false 0 (.bool false)] []
  | _ => none
def cBadN {β : Type} (args : List TV) (k : List TV → List TV → Option β) : Option β :=
  match args with
  | [.d true 0 .nilp] => k [.d false 0 (noD 3)] []
  | _ => none
def cWantN {β : Type} (args : List TV) (k : List TV → List TV → Option β) : Option β :=
  match args with
  | [.d true 0 .nilp, .d true 0 (.str s)] => k [.d false 0 (noD 3)] []
  | _ => none
def cNameN {β : Type} (args : List TV) (k : List TV → List TV → Option β) : Option β :=
  match args with
  | [.d true 0 .nilp] => k [.d false 0 (.str ⟨#[]⟩), .d false 0 (noD 3)] []
  | _ => none
def cNumberN {β : Type} (args : List TV) (k : List TV → List TV → Option β) : Option β :=
  match args with
  | [.d true 0 .nilp] => k [.d false 0 (.int .i64 0), .d false 0 (noD 3)] []
  | _ => none
def N1 : Env := E30.add 17 io0 cPeekN
def N2 : Env := N1.add 18 io0 cPeekN
def N3 : Env := N2.add 19 io0 cIsN
def N4 : Env := N3.add 20 io0 cIsN
def N5 : Env := N4.add 29 io0 cBadN
def N6 : Env := N5.add 21 io0 cWantN
def N7 : Env := N6.add 15 io0 cNameN
def N8 : Env := N7.add 16 io0 cNumberN
end Go.Sd

namespace Go.Sd
open Go Go.Cm Go.Proofs Go.Sc
set_option maxRecDepth 100000
namespace G17
/- rounds of the search: 1 -/
noncomputable def X : Fx := ⟨Tryd.prog, E30, 4, 1⟩
theorem start {β : Type}  (k : List TV → List TV → Option β) : evalF Tryd.prog E30 Tryd.f17 [TV.d true (0 : Nat) D.nilp] k =
    k [TV.d false (4 : Nat) (D.ag [D.int IntKind.i64 (0 : Int), D.str { data := #[] }, D.int IntKind.i64 (0 : Int)])] [] := by kernel_rfl
end G17

namespace G18
/- rounds of the search: 1 -/
noncomputable def X : Fx := ⟨Tryd.prog, N1, 4, 1⟩
theorem start {β : Type}  (k : List TV → List TV → Option β) : evalF Tryd.prog N1 Tryd.f18 [TV.d true (0 : Nat) D.nilp] k =
    k [TV.d false (4 : Nat) (D.ag [D.int IntKind.i64 (0 : Int), D.str { data := #[] }, D.int IntKind.i64 (0 : Int)])] [] := by kernel_rfl
end G18

namespace G19
/- rounds of the search: 1 -/
noncomputable def X : Fx := ⟨Tryd.prog, N2, 16, 2⟩
theorem start {β : Type} (s : ByteArray) (k : List TV → List TV → Option β) : evalF Tryd.prog N2 Tryd.f19 [TV.d true (0 : Nat) D.nilp, TV.d true (0 : Nat) (D.str s)] k =
    k [TV.d false (0 : Nat) (D.bool false)] [] := by kernel_rfl
end G19

namespace G20
/- rounds of the search: 1 -/
noncomputable def X : Fx := ⟨Tryd.prog, N3, 16, 2⟩
theorem start {β : Type} (s : ByteArray) (k : List TV → List TV → Option β) : evalF Tryd.prog N3 Tryd.f20 [TV.d true (0 : Nat) D.nilp, TV.d true (0 : Nat) (D.str s)] k =
    k [TV.d false (0 : Nat) (D.bool false)] [] := by kernel_rfl
end G20

namespace G29
/- rounds of the search: 1 -/
noncomputable def X : Fx := ⟨Tryd.prog, N4, 4, 1⟩
theorem start {β : Type}  (k : List TV → List TV → Option β) : evalF Tryd.prog N4 Tryd.f29 [TV.d true (0 : Nat) D.nilp] k =
    k [TV.d false (0 : Nat) (D.ifc (55 : Nat) (D.int IntKind.i64 (3 : Int)))] [] := by kernel_rfl
end G29

namespace G21
/- rounds of the search: 1 -/
noncomputable def X : Fx := ⟨Tryd.prog, N5, 16, 2⟩
theorem start {β : Type} (s : ByteArray) (k : List TV → List TV → Option β) : evalF Tryd.prog N5 Tryd.f21 [TV.d true (0 : Nat) D.nilp, TV.d true (0 : Nat) (D.str s)] k =
    k [TV.d false (0 : Nat) (D.ifc (55 : Nat) (D.int IntKind.i64 (3 : Int)))] [] := by kernel_rfl
end G21

namespace G15
/- rounds of the search: 1 -/
noncomputable def X : Fx := ⟨Tryd.prog, N6, 12, 1⟩
theorem start {β : Type}  (k : List TV → List TV → Option β) : evalF Tryd.prog N6 Tryd.f15 [TV.d true (0 : Nat) D.nilp] k =
    k [TV.d false (0 : Nat) (D.str { data := #[] }), TV.d false (0 : Nat) (D.ifc (55 : Nat) (D.int IntKind.i64 (3 : Int)))] [] := by kernel_rfl
end G15

namespace G16
/- rounds of the search: 1 -/
noncomputable def X : Fx := ⟨Tryd.prog, N7, 12, 1⟩
theorem start {β : Type}  (k : List TV → List TV → Option β) : evalF Tryd.prog N7 Tryd.f16 [TV.d true (0 : Nat) D.nilp] k =
    k [TV.d false (0 : Nat) (D.int IntKind.i64 (0 : Int)), TV.d false (0 : Nat) (D.ifc (55 : Nat) (D.int IntKind.i64 (3 : Int)))] [] := by kernel_rfl
end G16

namespace F7
/- rounds of the search: 1 -/
noncomputable def X : Fx := ⟨Tryd.prog, N8, 4, 1⟩
theorem start {β : Type} (s : ByteArray) (k : List TV → List TV → Option β) : evalF Tryd.prog N8 Tryd.f7 [TV.d true (0 : Nat) (D.str s)] k =
    k [TV.d false (0 : Nat) (D.bool true)] [] := by kernel_rfl
end F7


end Go.Sd

namespace Go.Sd
open Go Go.Cm Go.Proofs Go.Sc
set_option maxRecDepth 100000

theorem envN1 : EnvOk glS Tryd.prog N1 := env30.fn mixed Tryd.func17 (by kernel_rfl) fun β args k r hr => by
  unfold cPeekN at hr
  split at hr
  · exact ⟨_, _, hr, fun q => by rw [G17.start]; rfl⟩
  · cases hr
theorem envN2 : EnvOk glS Tryd.prog N2 := envN1.fn mixed Tryd.func18 (by kernel_rfl) fun β args k r hr => by
  unfold cPeekN at hr
  split at hr
  · exact ⟨_, _, hr, fun q => by rw [G18.start]; rfl⟩
  · cases hr
theorem envN3 : EnvOk glS Tryd.prog N3 := envN2.fn mixed Tryd.func19 (by kernel_rfl) fun β args k r hr => by
  unfold cIsN at hr
  split at hr
  · exact ⟨_, _, hr, fun q => by rw [G19.start]⟩
  · cases hr
theorem envN4 : EnvOk glS Tryd.prog N4 := envN3.fn mixed Tryd.func20 (by kernel_rfl) fun β args k r hr => by
  unfold cIsN at hr
  split at hr
  · exact ⟨_, _, hr, fun q => by rw [G20.start]⟩
  · cases hr
theorem envN5 : EnvOk glS Tryd.prog N5 := envN4.fn mixed Tryd.func29 (by kernel_rfl) fun β args k r hr => by
  unfold cBadN at hr
  split at hr
  · exact ⟨_, _, hr, fun q => by rw [G29.start]; rfl⟩
  · cases hr
theorem envN6 : EnvOk glS Tryd.prog N6 := envN5.fn mixed Tryd.func21 (by kernel_rfl) fun β args k r hr => by
  unfold cWantN at hr
  split at hr
  · exact ⟨_, _, hr, fun q => by rw [G21.start]; rfl⟩
  · cases hr
theorem envN7 : EnvOk glS Tryd.prog N7 := envN6.fn mixed Tryd.func15 (by kernel_rfl) fun β args k r hr => by
  unfold cNameN at hr
  split at hr
  · exact ⟨_, _, hr, fun q => by rw [G15.start]; rfl⟩
  · cases hr
theorem envN8 : EnvOk glS Tryd.prog N8 := envN7.fn mixed Tryd.func16 (by kernel_rfl) fun β args k r hr => by
  unfold cNumberN at hr
  split at hr
  · exact ⟨_, _, hr, fun q => by rw [G16.start]; rfl⟩
  · cases hr
theorem valid_nil (s : ByteArray) : Valid glS Tryd.prog 7 [.d true 0 (.str s)] [.d false 0 (.bool true)] [] := valid_of envN8 mixed Tryd.func7 (by kernel_rfl) (F7.start s _)
end Go.Sd

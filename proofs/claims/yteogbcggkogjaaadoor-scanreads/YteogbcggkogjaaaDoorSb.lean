/- Made by a program of the session's own (tools/gen_scan.py): what the functions of the scan laws come to, segment by segment. -/
import Derived.Test.YteogbcggkogjaaaDoorSa
set_option linter.unusedVariables false
set_option linter.unusedSimpArgs false
namespace Go.Sd
open Go Go.Cm Go.Proofs Go.Sc
set_option maxRecDepth 100000
namespace F51
/- rounds of the search: 1 -/
noncomputable def X : Fx := ⟨Tryd.prog, E0, 16, 2⟩
theorem start {β : Type} (s : ByteArray) (c : Int) (k : List TV → List TV → Option β) : evalF Tryd.prog E0 Tryd.f51 [TV.d true (0 : Nat) (D.str s), TV.d true (0 : Nat) (D.int IntKind.u8 c)] k =
    k [TV.d false (0 : Nat) (D.int IntKind.i64 (idxS s c))] [] := by kernel_rfl
end F51

namespace F46
/- rounds of the search: 1 -/
noncomputable def X : Fx := ⟨Tryd.prog, E1, 16, 2⟩
theorem start {β : Type} (s : ByteArray) (c : Int) (k : List TV → List TV → Option β) : evalF Tryd.prog E1 Tryd.f46 [TV.d true (0 : Nat) (D.str s), TV.d true (0 : Nat) (D.int IntKind.u8 c)] k =
    k [TV.d false (0 : Nat) (D.int IntKind.i64 (idxS s c))] [] := by kernel_rfl
end F46

namespace F44
/- rounds of the search: 1 -/
noncomputable def X : Fx := ⟨Tryd.prog, E2, 16, 2⟩
theorem start {β : Type} (s : ByteArray) (p : ByteArray) (k : List TV → List TV → Option β) : evalF Tryd.prog E2 Tryd.f44 [TV.d true (0 : Nat) (D.str s), TV.d true (0 : Nat) (D.str p)] k =
    if decide ((↑(ByteArray.size s) : Int) ≥ (↑(ByteArray.size p) : Int)) = true then
    if (0 : Int) ≤ (↑(ByteArray.size p) : Int) ∧ (↑(ByteArray.size p) : Int) ≤ (↑(ByteArray.size s) : Int) ∧ (0 : Int) ≤ (0 : Int) ∧ (0 : Int) ≤ (↑(ByteArray.size p) : Int) then
      k [TV.d false (0 : Nat) (D.bool (ByteArray.toList (ByteArray.extract s (0 : Nat) (Int.toNat (↑(ByteArray.size p) : Int))) == ByteArray.toList p))] []
    else none
  else k [TV.d false (0 : Nat) (D.bool false)] [] := by kernel_rfl
end F44

namespace F31
/- rounds of the search: 1 -/
noncomputable def X : Fx := ⟨Tryd.prog, E3, 16, 2⟩
theorem start {β : Type} (s : ByteArray) (p : ByteArray) (k : List TV → List TV → Option β) : evalF Tryd.prog E3 Tryd.f31 [TV.d true (0 : Nat) (D.str s), TV.d true (0 : Nat) (D.str p)] k =
    k [TV.d false (0 : Nat) (D.bool (hasP s p))] [] := by kernel_rfl
end F31

namespace F50
/- rounds of the search: 1 -/
noncomputable def X : Fx := ⟨Tryd.prog, E4, 16, 2⟩
theorem start {β : Type} (s : ByteArray) (p : ByteArray) (k : List TV → List TV → Option β) : evalF Tryd.prog E4 Tryd.f50 [TV.d true (0 : Nat) (D.str s), TV.d true (0 : Nat) (D.str p)] k =
    if ((↑(ByteArray.size p) : Int) == (0 : Int)) = true then k [TV.d false (0 : Nat) (D.int IntKind.i64 (0 : Int))] []
  else
    if (ByteArray.toList p == ByteArray.toList s) = true then k [TV.d false (0 : Nat) (D.int IntKind.i64 (0 : Int))] []
    else
      if ((↑(ByteArray.size p) : Int) == (1 : Int)) = true then
        match p[(0 : Nat)]? with
        | some c10 => k [TV.d false (0 : Nat) (D.int IntKind.i64 (idxS s (↑(UInt8.toNat c10) : Int)))] []
        | none => none
      else if decide ((↑(ByteArray.size p) : Int) ≥ (↑(ByteArray.size s) : Int)) = true then k [TV.d false (0 : Nat) (D.int IntKind.i64 (-1 : Int))] [] else none := by kernel_rfl
end F50

namespace F45
/- rounds of the search: 1 -/
noncomputable def X : Fx := ⟨Tryd.prog, E5, 112, 2⟩
theorem start {β : Type} (s : ByteArray) (p : ByteArray) (k : List TV → List TV → Option β) : evalF Tryd.prog E5 Tryd.f45 [TV.d true (0 : Nat) (D.str s), TV.d true (0 : Nat) (D.str p)] k =
    match ByteArray.toList p with
  | [c2] =>
    if decide (indexS s c2 ≥ (0 : Int)) = true then
      if (0 : Int) ≤ indexS s c2 ∧ indexS s c2 ≤ (↑(ByteArray.size s) : Int) ∧ (0 : Int) ≤ (0 : Int) ∧ (0 : Int) ≤ indexS s c2 then
        if
            (0 : Int) ≤ (↑(ByteArray.size s) : Int) ∧
              (↑(ByteArray.size s) : Int) ≤ (↑(ByteArray.size s) : Int) ∧
                (0 : Int) ≤ IntKind.wrap IntKind.i64 (indexS s c2 + (↑(ByteArray.size p) : Int)) ∧ IntKind.wrap IntKind.i64 (indexS s c2 + (↑(ByteArray.size p) : Int)) ≤ (↑(ByteArray.size s) : Int) then
          k
            [TV.d false (0 : Nat) (D.str (ByteArray.extract s (0 : Nat) (Int.toNat (indexS s c2)))),
              TV.d false (0 : Nat) (D.str (ByteArray.extract s (Int.toNat (IntKind.wrap IntKind.i64 (indexS s c2 + (↑(ByteArray.size p) : Int)))) (Int.toNat (↑(ByteArray.size s) : Int)))),
              TV.d false (0 : Nat) (D.bool true)]
            []
        else none
      else none
    else k [TV.d false (0 : Nat) (D.str s), TV.d false (0 : Nat) (D.str (ByteArray.mk #[])), TV.d false (0 : Nat) (D.bool false)] []
  | x => none := by kernel_rfl
end F45

namespace F32
/- rounds of the search: 1 -/
noncomputable def X : Fx := ⟨Tryd.prog, E6, 112, 2⟩
theorem start {β : Type} (s : ByteArray) (p : ByteArray) (k : List TV → List TV → Option β) : evalF Tryd.prog E6 Tryd.f32 [TV.d true (0 : Nat) (D.str s), TV.d true (0 : Nat) (D.str p)] k =
    match ByteArray.toList p with
  | [c2] =>
    if small s then
      match Nat.ble (ByteArray.size s) (Int.toNat (indexS s c2)) || decide (indexS s c2 < (0 : Int)) with
      | true => k [TV.d false (0 : Nat) (D.str s), TV.d false (0 : Nat) (D.str (ByteArray.mk #[])), TV.d false (0 : Nat) (D.bool false)] []
      | false =>
        k
          [TV.d false (0 : Nat) (D.str (ByteArray.extract s (0 : Nat) (Int.toNat (indexS s c2)))), TV.d false (0 : Nat) (D.str (ByteArray.extract s (Int.toNat (indexS s c2) + (1 : Nat)) (ByteArray.size s))),
            TV.d false (0 : Nat) (D.bool true)]
          []
    else none
  | x => none := by kernel_rfl
end F32

namespace F33
/- rounds of the search: 1 -/
noncomputable def X : Fx := ⟨Tryd.prog, E7, 4, 1⟩
theorem start {β : Type} (c : Int) (k : List TV → List TV → Option β) : evalF Tryd.prog E7 Tryd.f33 [TV.d true (0 : Nat) (D.int IntKind.u8 c)] k =
    if decide (c ≥ (97 : Int)) = true then
    if decide (c ≤ (122 : Int)) = true then k [TV.d false (0 : Nat) (D.int IntKind.i64 (1 : Int))] []
    else
      if decide (c ≥ (65 : Int)) = true then
        if decide (c ≤ (90 : Int)) = true then k [TV.d false (0 : Nat) (D.int IntKind.i64 (1 : Int))] []
        else
          if (c == (95 : Int)) = true then k [TV.d false (0 : Nat) (D.int IntKind.i64 (1 : Int))] []
          else
            if decide (c ≥ (48 : Int)) = true then
              if decide (c ≤ (57 : Int)) = true then k [TV.d false (0 : Nat) (D.int IntKind.i64 (2 : Int))] []
              else
                if (c == (34 : Int)) = true then k [TV.d false (0 : Nat) (D.int IntKind.i64 (3 : Int))] []
                else
                  if
                      decide
                          (idxS
                              (ByteArray.mk
                                #[(45 : UInt8), (60 : UInt8), (62 : UInt8), (33 : UInt8), (61 : UInt8), (46 : UInt8), (91 : UInt8), (93 : UInt8), (40 : UInt8), (41 : UInt8), (58 : UInt8), (59 : UInt8), (44 : UInt8),
                                  (43 : UInt8), (42 : UInt8), (38 : UInt8), (124 : UInt8), (63 : UInt8), (39 : UInt8)])
                              c ≥
                            (0 : Int)) =
                        true then
                    k [TV.d false (0 : Nat) (D.int IntKind.i64 (4 : Int))] []
                  else k [TV.d false (0 : Nat) (D.int IntKind.i64 (-1 : Int))] []
            else
              if (c == (34 : Int)) = true then k [TV.d false (0 : Nat) (D.int IntKind.i64 (3 : Int))] []
              else
                if
                    decide
                        (idxS
                            (ByteArray.mk
                              #[(45 : UInt8), (60 : UInt8), (62 : UInt8), (33 : UInt8), (61 : UInt8), (46 : UInt8), (91 : UInt8), (93 : UInt8), (40 : UInt8), (41 : UInt8), (58 : UInt8), (59 : UInt8), (44 : UInt8),
                                (43 : UInt8), (42 : UInt8), (38 : UInt8), (124 : UInt8), (63 : UInt8), (39 : UInt8)])
                            c ≥
                          (0 : Int)) =
                      true then
                  k [TV.d false (0 : Nat) (D.int IntKind.i64 (4 : Int))] []
                else k [TV.d false (0 : Nat) (D.int IntKind.i64 (-1 : Int))] []
      else
        if (c == (95 : Int)) = true then k [TV.d false (0 : Nat) (D.int IntKind.i64 (1 : Int))] []
        else
          if decide (c ≥ (48 : Int)) = true then
            if decide (c ≤ (57 : Int)) = true then k [TV.d false (0 : Nat) (D.int IntKind.i64 (2 : Int))] []
            else
              if (c == (34 : Int)) = true then k [TV.d false (0 : Nat) (D.int IntKind.i64 (3 : Int))] []
              else
                if
                    decide
                        (idxS
                            (ByteArray.mk
                              #[(45 : UInt8), (60 : UInt8), (62 : UInt8), (33 : UInt8), (61 : UInt8), (46 : UInt8), (91 : UInt8), (93 : UInt8), (40 : UInt8), (41 : UInt8), (58 : UInt8), (59 : UInt8), (44 : UInt8),
                                (43 : UInt8), (42 : UInt8), (38 : UInt8), (124 : UInt8), (63 : UInt8), (39 : UInt8)])
                            c ≥
                          (0 : Int)) =
                      true then
                  k [TV.d false (0 : Nat) (D.int IntKind.i64 (4 : Int))] []
                else k [TV.d false (0 : Nat) (D.int IntKind.i64 (-1 : Int))] []
          else
            if (c == (34 : Int)) = true then k [TV.d false (0 : Nat) (D.int IntKind.i64 (3 : Int))] []
            else
              if
                  decide
                      (idxS
                          (ByteArray.mk
                            #[(45 : UInt8), (60 : UInt8), (62 : UInt8), (33 : UInt8), (61 : UInt8), (46 : UInt8), (91 : UInt8), (93 : UInt8), (40 : UInt8), (41 : UInt8), (58 : UInt8), (59 : UInt8), (44 : UInt8),
                              (43 : UInt8), (42 : UInt8), (38 : UInt8), (124 : UInt8), (63 : UInt8), (39 : UInt8)])
                          c ≥
                        (0 : Int)) =
                    true then
                k [TV.d false (0 : Nat) (D.int IntKind.i64 (4 : Int))] []
              else k [TV.d false (0 : Nat) (D.int IntKind.i64 (-1 : Int))] []
  else
    if decide (c ≥ (65 : Int)) = true then
      if decide (c ≤ (90 : Int)) = true then k [TV.d false (0 : Nat) (D.int IntKind.i64 (1 : Int))] []
      else
        if (c == (95 : Int)) = true then k [TV.d false (0 : Nat) (D.int IntKind.i64 (1 : Int))] []
        else
          if decide (c ≥ (48 : Int)) = true then
            if decide (c ≤ (57 : Int)) = true then k [TV.d false (0 : Nat) (D.int IntKind.i64 (2 : Int))] []
            else
              if (c == (34 : Int)) = true then k [TV.d false (0 : Nat) (D.int IntKind.i64 (3 : Int))] []
              else
                if
                    decide
                        (idxS
                            (ByteArray.mk
                              #[(45 : UInt8), (60 : UInt8), (62 : UInt8), (33 : UInt8), (61 : UInt8), (46 : UInt8), (91 : UInt8), (93 : UInt8), (40 : UInt8), (41 : UInt8), (58 : UInt8), (59 : UInt8), (44 : UInt8),
                                (43 : UInt8), (42 : UInt8), (38 : UInt8), (124 : UInt8), (63 : UInt8), (39 : UInt8)])
                            c ≥
                          (0 : Int)) =
                      true then
                  k [TV.d false (0 : Nat) (D.int IntKind.i64 (4 : Int))] []
                else k [TV.d false (0 : Nat) (D.int IntKind.i64 (-1 : Int))] []
          else
            if (c == (34 : Int)) = true then k [TV.d false (0 : Nat) (D.int IntKind.i64 (3 : Int))] []
            else
              if
                  decide
                      (idxS
                          (ByteArray.mk
                            #[(45 : UInt8), (60 : UInt8), (62 : UInt8), (33 : UInt8), (61 : UInt8), (46 : UInt8), (91 : UInt8), (93 : UInt8), (40 : UInt8), (41 : UInt8), (58 : UInt8), (59 : UInt8), (44 : UInt8),
                              (43 : UInt8), (42 : UInt8), (38 : UInt8), (124 : UInt8), (63 : UInt8), (39 : UInt8)])
                          c ≥
                        (0 : Int)) =
                    true then
                k [TV.d false (0 : Nat) (D.int IntKind.i64 (4 : Int))] []
              else k [TV.d false (0 : Nat) (D.int IntKind.i64 (-1 : Int))] []
    else
      if (c == (95 : Int)) = true then k [TV.d false (0 : Nat) (D.int IntKind.i64 (1 : Int))] []
      else
        if decide (c ≥ (48 : Int)) = true then
          if decide (c ≤ (57 : Int)) = true then k [TV.d false (0 : Nat) (D.int IntKind.i64 (2 : Int))] []
          else
            if (c == (34 : Int)) = true then k [TV.d false (0 : Nat) (D.int IntKind.i64 (3 : Int))] []
            else
              if
                  decide
                      (idxS
                          (ByteArray.mk
                            #[(45 : UInt8), (60 : UInt8), (62 : UInt8), (33 : UInt8), (61 : UInt8), (46 : UInt8), (91 : UInt8), (93 : UInt8), (40 : UInt8), (41 : UInt8), (58 : UInt8), (59 : UInt8), (44 : UInt8),
                              (43 : UInt8), (42 : UInt8), (38 : UInt8), (124 : UInt8), (63 : UInt8), (39 : UInt8)])
                          c ≥
                        (0 : Int)) =
                    true then
                k [TV.d false (0 : Nat) (D.int IntKind.i64 (4 : Int))] []
              else k [TV.d false (0 : Nat) (D.int IntKind.i64 (-1 : Int))] []
        else
          if (c == (34 : Int)) = true then k [TV.d false (0 : Nat) (D.int IntKind.i64 (3 : Int))] []
          else
            if
                decide
                    (idxS
                        (ByteArray.mk
                          #[(45 : UInt8), (60 : UInt8), (62 : UInt8), (33 : UInt8), (61 : UInt8), (46 : UInt8), (91 : UInt8), (93 : UInt8), (40 : UInt8), (41 : UInt8), (58 : UInt8), (59 : UInt8), (44 : UInt8),
                            (43 : UInt8), (42 : UInt8), (38 : UInt8), (124 : UInt8), (63 : UInt8), (39 : UInt8)])
                        c ≥
                      (0 : Int)) =
                  true then
              k [TV.d false (0 : Nat) (D.int IntKind.i64 (4 : Int))] []
            else k [TV.d false (0 : Nat) (D.int IntKind.i64 (-1 : Int))] [] := by kernel_rfl
end F33

namespace F35
/- rounds of the search: 1 -/
noncomputable def X : Fx := ⟨Tryd.prog, E8, 4, 1⟩
theorem start {β : Type} (c : Int) (k : List TV → List TV → Option β) : evalF Tryd.prog E8 Tryd.f35 [TV.d true (0 : Nat) (D.int IntKind.i64 c)] k =
    if (c == (1 : Int)) = true then k [TV.d false (0 : Nat) (D.bool true)] [] else k [TV.d false (0 : Nat) (D.bool (c == (2 : Int)))] [] := by kernel_rfl
end F35

namespace F36
/- rounds of the search: 1 -/
noncomputable def X : Fx := ⟨Tryd.prog, E8b, 4, 1⟩
theorem start {β : Type} (c : Int) (k : List TV → List TV → Option β) : evalF Tryd.prog E8b Tryd.f36 [TV.d true (0 : Nat) (D.int IntKind.i64 c)] k =
    k [TV.d false (0 : Nat) (D.bool (c == (2 : Int)))] [] := by kernel_rfl
end F36

namespace F34a
/- rounds of the search: 3 -/
noncomputable def X : Fx := ⟨Tryd.prog, E9, 64, 3⟩
def s0 (s : ByteArray) (a : Int) (x9 : Int) : S := ⟨Tm.mk (27 : Nat)
    [((0 : Nat), V.d true (0 : Nat) (D.str s)), ((1 : Nat), V.d true (0 : Nat) (D.int IntKind.i64 a)), ((2 : Nat), V.d true (0 : Nat) (D.fn (35 : Nat) [])), ((7 : Nat), V.d false (0 : Nat) (D.int IntKind.i64 x9))], []⟩
def e0x0 (x20 : Int) : S := ⟨Tm.mk (27 : Nat) [((7 : Nat), V.d false (0 : Nat) (D.int IntKind.i64 x20))], []⟩
noncomputable abbrev L0 : S → Option (S ⊕ (Ex × S)) := roundK X [((0 : Nat), (128 : Nat))] (sub [(1 : Nat), (1 : Nat), (0 : Nat), (0 : Nat), (0 : Nat)] (body Tryd.f34))
theorem start {β : Type} (s : ByteArray) (a : Int) (k : List TV → List TV → Option β) : evalF Tryd.prog E9 Tryd.f34 [TV.d true (0 : Nat) (D.str s), TV.d true (0 : Nat) (D.int IntKind.i64 a), TV.d true (0 : Nat) (D.fn (35 : FuncId) [])] k =
    goLp X [((0 : Nat), (128 : Nat))] (sub [(1 : Nat), (1 : Nat), (0 : Nat), (0 : Nat), (0 : Nat)] (body Tryd.f34))
    [Kf.block (0 : Nat) (128 : Nat), Kf.seq [] (sub [(1 : Nat), (1 : Nat), (1 : Nat)] (body Tryd.f34)) (64 : Nat)]
    (finK Tryd.prog Tryd.f34 [TV.d true (0 : Nat) (D.str s), TV.d true (0 : Nat) (D.int IntKind.i64 a), TV.d true (0 : Nat) (D.fn (35 : FuncId) [])] k) (s0 s a (0 : Int)) := by kernel_rfl
theorem round0 (s : ByteArray) (a : Int) (x9 : Int) : roundK X [((0 : Nat), (128 : Nat))] (sub [(1 : Nat), (1 : Nat), (0 : Nat), (0 : Nat), (0 : Nat)] (body Tryd.f34)) (s0 s a x9) =
    if decide (IntKind.wrap IntKind.i64 (a + x9) < (↑(ByteArray.size s) : Int)) = true then
    if (0 : Int) ≤ IntKind.wrap IntKind.i64 (a + x9) then
      match s[Int.toNat (IntKind.wrap IntKind.i64 (a + x9))]? with
      | some c25 =>
        if (0 : Int) ≤ (↑(UInt8.toNat c25) : Int) ∧ (↑(UInt8.toNat c25) : Int) < (256 : Int) then
          if may1 (kindI (↑(UInt8.toNat c25) : Int)) = true then some (Sum.inl (s0 s a (IntKind.wrap IntKind.i64 (x9 + (1 : Int))))) else some (Sum.inr (Ex.exit (0 : Nat), e0x0 x9))
        else none
      | none => none
    else none
  else some (Sum.inr (Ex.exit (0 : Nat), e0x0 x9)) := by kernel_rfl
theorem behind0x0 {β : Type} (s : ByteArray) (a : Int) (x20 : Int) (k : List TV → List TV → Option β) : applyK X (finK Tryd.prog Tryd.f34 [TV.d true (0 : Nat) (D.str s), TV.d true (0 : Nat) (D.int IntKind.i64 a), TV.d true (0 : Nat) (D.fn (35 : FuncId) [])] k)
    [Kf.block (0 : Nat) (128 : Nat), Kf.seq [] (sub [(1 : Nat), (1 : Nat), (1 : Nat)] (body Tryd.f34)) (64 : Nat)] (Ex.exit (0 : Nat)) (e0x0 x20) =
    k [TV.d false (0 : Nat) (D.int IntKind.i64 x20)] [] := by kernel_rfl
end F34a

namespace F34b
/- rounds of the search: 3 -/
noncomputable def X : Fx := ⟨Tryd.prog, E9, 64, 3⟩
def s0 (s : ByteArray) (a : Int) (x9 : Int) : S := ⟨Tm.mk (27 : Nat)
    [((0 : Nat), V.d true (0 : Nat) (D.str s)), ((1 : Nat), V.d true (0 : Nat) (D.int IntKind.i64 a)), ((2 : Nat), V.d true (0 : Nat) (D.fn (36 : Nat) [])), ((7 : Nat), V.d false (0 : Nat) (D.int IntKind.i64 x9))], []⟩
def e0x0 (x20 : Int) : S := ⟨Tm.mk (27 : Nat) [((7 : Nat), V.d false (0 : Nat) (D.int IntKind.i64 x20))], []⟩
noncomputable abbrev L0 : S → Option (S ⊕ (Ex × S)) := roundK X [((0 : Nat), (128 : Nat))] (sub [(1 : Nat), (1 : Nat), (0 : Nat), (0 : Nat), (0 : Nat)] (body Tryd.f34))
theorem start {β : Type} (s : ByteArray) (a : Int) (k : List TV → List TV → Option β) : evalF Tryd.prog E9 Tryd.f34 [TV.d true (0 : Nat) (D.str s), TV.d true (0 : Nat) (D.int IntKind.i64 a), TV.d true (0 : Nat) (D.fn (36 : FuncId) [])] k =
    goLp X [((0 : Nat), (128 : Nat))] (sub [(1 : Nat), (1 : Nat), (0 : Nat), (0 : Nat), (0 : Nat)] (body Tryd.f34))
    [Kf.block (0 : Nat) (128 : Nat), Kf.seq [] (sub [(1 : Nat), (1 : Nat), (1 : Nat)] (body Tryd.f34)) (64 : Nat)]
    (finK Tryd.prog Tryd.f34 [TV.d true (0 : Nat) (D.str s), TV.d true (0 : Nat) (D.int IntKind.i64 a), TV.d true (0 : Nat) (D.fn (36 : FuncId) [])] k) (s0 s a (0 : Int)) := by kernel_rfl
theorem round0 (s : ByteArray) (a : Int) (x9 : Int) : roundK X [((0 : Nat), (128 : Nat))] (sub [(1 : Nat), (1 : Nat), (0 : Nat), (0 : Nat), (0 : Nat)] (body Tryd.f34)) (s0 s a x9) =
    if decide (IntKind.wrap IntKind.i64 (a + x9) < (↑(ByteArray.size s) : Int)) = true then
    if (0 : Int) ≤ IntKind.wrap IntKind.i64 (a + x9) then
      match s[Int.toNat (IntKind.wrap IntKind.i64 (a + x9))]? with
      | some c25 =>
        if (0 : Int) ≤ (↑(UInt8.toNat c25) : Int) ∧ (↑(UInt8.toNat c25) : Int) < (256 : Int) then
          if may2 (kindI (↑(UInt8.toNat c25) : Int)) = true then some (Sum.inl (s0 s a (IntKind.wrap IntKind.i64 (x9 + (1 : Int))))) else some (Sum.inr (Ex.exit (0 : Nat), e0x0 x9))
        else none
      | none => none
    else none
  else some (Sum.inr (Ex.exit (0 : Nat), e0x0 x9)) := by kernel_rfl
theorem behind0x0 {β : Type} (s : ByteArray) (a : Int) (x20 : Int) (k : List TV → List TV → Option β) : applyK X (finK Tryd.prog Tryd.f34 [TV.d true (0 : Nat) (D.str s), TV.d true (0 : Nat) (D.int IntKind.i64 a), TV.d true (0 : Nat) (D.fn (36 : FuncId) [])] k)
    [Kf.block (0 : Nat) (128 : Nat), Kf.seq [] (sub [(1 : Nat), (1 : Nat), (1 : Nat)] (body Tryd.f34)) (64 : Nat)] (Ex.exit (0 : Nat)) (e0x0 x20) =
    k [TV.d false (0 : Nat) (D.int IntKind.i64 x20)] [] := by kernel_rfl
end F34b

namespace F30
/- rounds of the search: 3 -/
noncomputable def X : Fx := ⟨Tryd.prog, E10, 12, 1⟩
def s0 (s : ByteArray) (x15 : Int) (x16 : Int) : S := ⟨Tm.mk (28 : Nat)
    [((0 : Nat), V.d true (0 : Nat) (D.str s)), ((4 : Nat), V.d false (0 : Nat) (D.int IntKind.i64 x15)), ((8 : Nat), V.d false (0 : Nat) (D.int IntKind.i64 (↑(ByteArray.size s) : Int))),
      ((9 : Nat), V.d false (0 : Nat) (D.int IntKind.i64 x16))], []⟩
def e0r  : S := ⟨Tm.mk (28 : Nat) [((2 : Nat), V.d false (0 : Nat) (D.int IntKind.i64 (0 : Int))), ((3 : Nat), V.d false (0 : Nat) (D.bool false))], []⟩
def e0x0 (x33 : Int) : S := ⟨Tm.mk (28 : Nat) [((4 : Nat), V.d false (0 : Nat) (D.int IntKind.i64 x33))], []⟩
noncomputable abbrev L0 : S → Option (S ⊕ (Ex × S)) := roundK X [((0 : Nat), (16 : Nat))] (sub [(1 : Nat), (1 : Nat), (0 : Nat), (1 : Nat), (0 : Nat), (0 : Nat)] (body Tryd.f30))
theorem start {β : Type} (s : ByteArray) (k : List TV → List TV → Option β) : evalF Tryd.prog E10 Tryd.f30 [TV.d true (0 : Nat) (D.str s)] k =
    goLp X [((0 : Nat), (16 : Nat))] (sub [(1 : Nat), (1 : Nat), (0 : Nat), (1 : Nat), (0 : Nat), (0 : Nat)] (body Tryd.f30))
    [Kf.block (0 : Nat) (16 : Nat), Kf.seq [] (sub [(1 : Nat), (1 : Nat), (1 : Nat)] (body Tryd.f30)) (12 : Nat)] (finK Tryd.prog Tryd.f30 [TV.d true (0 : Nat) (D.str s)] k) (s0 s (0 : Int) (0 : Int)) := by kernel_rfl
theorem round0 (s : ByteArray) (x15 : Int) (x16 : Int) : roundK X [((0 : Nat), (16 : Nat))] (sub [(1 : Nat), (1 : Nat), (0 : Nat), (1 : Nat), (0 : Nat), (0 : Nat)] (body Tryd.f30)) (s0 s x15 x16) =
    if decide (x16 < (↑(ByteArray.size s) : Int)) = true then
    if (0 : Int) ≤ x16 then
      match s[Int.toNat x16]? with
      | some c42 =>
        if
            decide
                (x15 >
                  IntKind.wrap IntKind.i64 (Int.tdiv (IntKind.wrap IntKind.i64 ((9223372036854775807 : Int) - IntKind.wrap IntKind.i64 (IntKind.wrap IntKind.u8 ((↑(UInt8.toNat c42) : Int) - (48 : Int))))) (10 : Int))) =
              true then
          some (Sum.inr (Ex.ret, e0r))
        else
          some
            (Sum.inl
              (s0 s (IntKind.wrap IntKind.i64 (IntKind.wrap IntKind.i64 ((10 : Int) * x15) + IntKind.wrap IntKind.i64 (IntKind.wrap IntKind.u8 ((↑(UInt8.toNat c42) : Int) - (48 : Int)))))
                (IntKind.wrap IntKind.i64 (x16 + (1 : Int)))))
      | none => none
    else none
  else some (Sum.inr (Ex.exit (0 : Nat), e0x0 x15)) := by kernel_rfl
theorem behind0r {β : Type} (s : ByteArray) (k : List TV → List TV → Option β) : applyK X (finK Tryd.prog Tryd.f30 [TV.d true (0 : Nat) (D.str s)] k) [Kf.block (0 : Nat) (16 : Nat), Kf.seq [] (sub [(1 : Nat), (1 : Nat), (1 : Nat)] (body Tryd.f30)) (12 : Nat)] Ex.ret e0r =
    k [TV.d false (0 : Nat) (D.int IntKind.i64 (0 : Int)), TV.d false (0 : Nat) (D.bool false)] [] := by kernel_rfl
theorem behind0x0 {β : Type} (s : ByteArray) (x33 : Int) (k : List TV → List TV → Option β) : applyK X (finK Tryd.prog Tryd.f30 [TV.d true (0 : Nat) (D.str s)] k) [Kf.block (0 : Nat) (16 : Nat), Kf.seq [] (sub [(1 : Nat), (1 : Nat), (1 : Nat)] (body Tryd.f30)) (12 : Nat)] (Ex.exit (0 : Nat)) (e0x0 x33) =
    k [TV.d false (0 : Nat) (D.int IntKind.i64 x33), TV.d false (0 : Nat) (D.bool true)] [] := by kernel_rfl
end F30

namespace F38
/- rounds of the search: 2 -/
noncomputable def X : Fx := ⟨Tryd.prog, E11, 4, 1⟩
def s0 (s : ByteArray) (x22 : Int) : S := ⟨Tm.mk (31 : Nat)
    [((0 : Nat), V.d true (0 : Nat) (D.str s)), ((3 : Nat), V.d false (0 : Nat) (D.int IntKind.i64 (idxS (ByteArray.extract s (1 : Nat) (Int.toNat (↑(ByteArray.size s) : Int))) (34 : Int)))),
      ((4 : Nat), V.d false (0 : Nat) (D.int IntKind.i64 x22))], []⟩
def e0r  : S := ⟨Tm.mk (31 : Nat) [((2 : Nat), V.d false (0 : Nat) (D.int IntKind.i64 (0 : Int)))], []⟩
def e0x0 (s : ByteArray) : S := ⟨Tm.mk (31 : Nat) [((3 : Nat), V.d false (0 : Nat) (D.int IntKind.i64 (idxS (ByteArray.extract s (1 : Nat) (Int.toNat (↑(ByteArray.size s) : Int))) (34 : Int))))], []⟩
noncomputable abbrev L0 : S → Option (S ⊕ (Ex × S)) := roundK X [((0 : Nat), (8 : Nat))] (sub [(1 : Nat), (1 : Nat), (1 : Nat), (0 : Nat), (1 : Nat), (0 : Nat), (0 : Nat)] (body Tryd.f38))
theorem start {β : Type} (s : ByteArray) (k : List TV → List TV → Option β) : evalF Tryd.prog E11 Tryd.f38 [TV.d true (0 : Nat) (D.str s)] k =
    if (0 : Int) ≤ (↑(ByteArray.size s) : Int) ∧ (↑(ByteArray.size s) : Int) ≤ (↑(ByteArray.size s) : Int) ∧ (0 : Int) ≤ (1 : Int) ∧ (1 : Int) ≤ (↑(ByteArray.size s) : Int) then
    if decide (idxS (ByteArray.extract s (1 : Nat) (Int.toNat (↑(ByteArray.size s) : Int))) (34 : Int) < (1 : Int)) = true then k [TV.d false (0 : Nat) (D.int IntKind.i64 (0 : Int))] []
    else
      if decide (idxS (ByteArray.extract s (1 : Nat) (Int.toNat (↑(ByteArray.size s) : Int))) (34 : Int) > (32 : Int)) = true then k [TV.d false (0 : Nat) (D.int IntKind.i64 (0 : Int))] []
      else
        goLp X [((0 : Nat), (8 : Nat))] (sub [(1 : Nat), (1 : Nat), (1 : Nat), (0 : Nat), (1 : Nat), (0 : Nat), (0 : Nat)] (body Tryd.f38))
          [Kf.block (0 : Nat) (8 : Nat), Kf.seq [] (sub [(1 : Nat), (1 : Nat), (1 : Nat), (1 : Nat)] (body Tryd.f38)) (4 : Nat)] (finK Tryd.prog Tryd.f38 [TV.d true (0 : Nat) (D.str s)] k) (s0 s (1 : Int))
  else none := by kernel_rfl
theorem round0 (s : ByteArray) (x22 : Int) : roundK X [((0 : Nat), (8 : Nat))] (sub [(1 : Nat), (1 : Nat), (1 : Nat), (0 : Nat), (1 : Nat), (0 : Nat), (0 : Nat)] (body Tryd.f38)) (s0 s x22) =
    if decide (x22 ≤ idxS (ByteArray.extract s (1 : Nat) (Int.toNat (↑(ByteArray.size s) : Int))) (34 : Int)) = true then
    if (0 : Int) ≤ x22 then
      match s[Int.toNat x22]? with
      | some c35 =>
        if decide ((↑(UInt8.toNat c35) : Int) < (32 : Int)) = true then some (Sum.inr (Ex.ret, e0r))
        else
          if (0 : Int) ≤ x22 then
            match s[Int.toNat x22]? with
            | some c38 => if decide ((↑(UInt8.toNat c38) : Int) > (126 : Int)) = true then some (Sum.inr (Ex.ret, e0r)) else some (Sum.inl (s0 s (IntKind.wrap IntKind.i64 (x22 + (1 : Int)))))
            | none => none
          else none
      | none => none
    else none
  else some (Sum.inr (Ex.exit (0 : Nat), e0x0 s)) := by kernel_rfl
theorem behind0r {β : Type} (s : ByteArray) (k : List TV → List TV → Option β) : applyK X (finK Tryd.prog Tryd.f38 [TV.d true (0 : Nat) (D.str s)] k) [Kf.block (0 : Nat) (8 : Nat), Kf.seq [] (sub [(1 : Nat), (1 : Nat), (1 : Nat), (1 : Nat)] (body Tryd.f38)) (4 : Nat)] Ex.ret e0r =
    k [TV.d false (0 : Nat) (D.int IntKind.i64 (0 : Int))] [] := by kernel_rfl
theorem behind0x0 {β : Type} (s : ByteArray) (k : List TV → List TV → Option β) : applyK X (finK Tryd.prog Tryd.f38 [TV.d true (0 : Nat) (D.str s)] k) [Kf.block (0 : Nat) (8 : Nat), Kf.seq [] (sub [(1 : Nat), (1 : Nat), (1 : Nat), (1 : Nat)] (body Tryd.f38)) (4 : Nat)] (Ex.exit (0 : Nat)) (e0x0 s) =
    k [TV.d false (0 : Nat) (D.int IntKind.i64 (IntKind.wrap IntKind.i64 (idxS (ByteArray.extract s (1 : Nat) (Int.toNat (↑(ByteArray.size s) : Int))) (34 : Int) + (2 : Int))))] [] := by kernel_rfl
end F38

namespace F39
/- rounds of the search: 2 -/
noncomputable def X : Fx := ⟨Tryd.prog, E12, 4, 1⟩
def s0 (s : ByteArray) (x9 : Int) : S := ⟨Tm.mk (18 : Nat)
    [((0 : Nat), V.d true (0 : Nat) (D.str s)),
      ((5 : Nat),
        V.ag
          [V.d false (0 : Nat) (D.str (ByteArray.mk #[(45 : UInt8), (62 : UInt8)])), V.d false (0 : Nat) (D.str (ByteArray.mk #[(60 : UInt8), (61 : UInt8)])),
            V.d false (0 : Nat) (D.str (ByteArray.mk #[(62 : UInt8), (61 : UInt8)])), V.d false (0 : Nat) (D.str (ByteArray.mk #[(33 : UInt8), (61 : UInt8)])),
            V.d false (0 : Nat) (D.str (ByteArray.mk #[(61 : UInt8), (62 : UInt8)])), V.d false (0 : Nat) (D.str (ByteArray.mk #[(46 : UInt8), (46 : UInt8)]))]),
      ((6 : Nat), V.d false (0 : Nat) (D.int IntKind.i64 x9))], []⟩
def e0r  : S := ⟨Tm.mk (18 : Nat) [((2 : Nat), V.d false (0 : Nat) (D.int IntKind.i64 (2 : Int)))], []⟩
def e0x0 (s : ByteArray) : S := ⟨Tm.mk (18 : Nat) [((0 : Nat), V.d true (0 : Nat) (D.str s))], []⟩
noncomputable abbrev L0 : S → Option (S ⊕ (Ex × S)) := roundK X [((0 : Nat), (1 : Nat))] (sub [(1 : Nat), (0 : Nat), (1 : Nat), (0 : Nat), (0 : Nat)] (body Tryd.f39))
theorem start {β : Type} (s : ByteArray) (k : List TV → List TV → Option β) : evalF Tryd.prog E12 Tryd.f39 [TV.d true (0 : Nat) (D.str s)] k =
    goLp X [((0 : Nat), (1 : Nat))] (sub [(1 : Nat), (0 : Nat), (1 : Nat), (0 : Nat), (0 : Nat)] (body Tryd.f39)) [Kf.block (0 : Nat) (1 : Nat), Kf.seq [] (sub [(1 : Nat), (1 : Nat)] (body Tryd.f39)) (4 : Nat)]
    (finK Tryd.prog Tryd.f39 [TV.d true (0 : Nat) (D.str s)] k) (s0 s (0 : Int)) := by kernel_rfl
theorem round0_0 (s : ByteArray) : roundK X [((0 : Nat), (1 : Nat))] (sub [(1 : Nat), (0 : Nat), (1 : Nat), (0 : Nat), (0 : Nat)] (body Tryd.f39)) (s0 s (0 : Int)) =
    if hasP s (ByteArray.mk #[(45 : UInt8), (62 : UInt8)]) = true then some (Sum.inr (Ex.ret, e0r)) else some (Sum.inl (s0 s (1 : Int))) := by kernel_rfl
theorem round0_1 (s : ByteArray) : roundK X [((0 : Nat), (1 : Nat))] (sub [(1 : Nat), (0 : Nat), (1 : Nat), (0 : Nat), (0 : Nat)] (body Tryd.f39)) (s0 s (1 : Int)) =
    if hasP s (ByteArray.mk #[(60 : UInt8), (61 : UInt8)]) = true then some (Sum.inr (Ex.ret, e0r)) else some (Sum.inl (s0 s (2 : Int))) := by kernel_rfl
theorem round0_2 (s : ByteArray) : roundK X [((0 : Nat), (1 : Nat))] (sub [(1 : Nat), (0 : Nat), (1 : Nat), (0 : Nat), (0 : Nat)] (body Tryd.f39)) (s0 s (2 : Int)) =
    if hasP s (ByteArray.mk #[(62 : UInt8), (61 : UInt8)]) = true then some (Sum.inr (Ex.ret, e0r)) else some (Sum.inl (s0 s (3 : Int))) := by kernel_rfl
theorem round0_3 (s : ByteArray) : roundK X [((0 : Nat), (1 : Nat))] (sub [(1 : Nat), (0 : Nat), (1 : Nat), (0 : Nat), (0 : Nat)] (body Tryd.f39)) (s0 s (3 : Int)) =
    if hasP s (ByteArray.mk #[(33 : UInt8), (61 : UInt8)]) = true then some (Sum.inr (Ex.ret, e0r)) else some (Sum.inl (s0 s (4 : Int))) := by kernel_rfl
theorem round0_4 (s : ByteArray) : roundK X [((0 : Nat), (1 : Nat))] (sub [(1 : Nat), (0 : Nat), (1 : Nat), (0 : Nat), (0 : Nat)] (body Tryd.f39)) (s0 s (4 : Int)) =
    if hasP s (ByteArray.mk #[(61 : UInt8), (62 : UInt8)]) = true then some (Sum.inr (Ex.ret, e0r)) else some (Sum.inl (s0 s (5 : Int))) := by kernel_rfl
theorem round0_5 (s : ByteArray) : roundK X [((0 : Nat), (1 : Nat))] (sub [(1 : Nat), (0 : Nat), (1 : Nat), (0 : Nat), (0 : Nat)] (body Tryd.f39)) (s0 s (5 : Int)) =
    if hasP s (ByteArray.mk #[(46 : UInt8), (46 : UInt8)]) = true then some (Sum.inr (Ex.ret, e0r)) else some (Sum.inl (s0 s (6 : Int))) := by kernel_rfl
theorem round0_6 (s : ByteArray) : roundK X [((0 : Nat), (1 : Nat))] (sub [(1 : Nat), (0 : Nat), (1 : Nat), (0 : Nat), (0 : Nat)] (body Tryd.f39)) (s0 s (6 : Int)) =
    some (Sum.inr (Ex.exit (0 : Nat), e0x0 s)) := by kernel_rfl
theorem behind0r {β : Type} (s : ByteArray) (k : List TV → List TV → Option β) : applyK X (finK Tryd.prog Tryd.f39 [TV.d true (0 : Nat) (D.str s)] k) [Kf.block (0 : Nat) (1 : Nat), Kf.seq [] (sub [(1 : Nat), (1 : Nat)] (body Tryd.f39)) (4 : Nat)] Ex.ret e0r =
    k [TV.d false (0 : Nat) (D.int IntKind.i64 (2 : Int))] [] := by kernel_rfl
theorem behind0x0 {β : Type} (s : ByteArray) (k : List TV → List TV → Option β) : applyK X (finK Tryd.prog Tryd.f39 [TV.d true (0 : Nat) (D.str s)] k) [Kf.block (0 : Nat) (1 : Nat), Kf.seq [] (sub [(1 : Nat), (1 : Nat)] (body Tryd.f39)) (4 : Nat)] (Ex.exit (0 : Nat)) (e0x0 s) =
    match s[(0 : Nat)]? with
  | some c99 => if ((↑(UInt8.toNat c99) : Int) == (46 : Int)) = true then k [TV.d false (0 : Nat) (D.int IntKind.i64 (0 : Int))] [] else k [TV.d false (0 : Nat) (D.int IntKind.i64 (1 : Int))] []
  | none => none := by kernel_rfl
end F39

namespace F23
/- rounds of the search: 3 -/
noncomputable def X : Fx := ⟨Tryd.prog, E13, 16, 2⟩
def s0 (s : ByteArray) (a : Int) (x35 : Bool) (x36 : Int) : S := ⟨Tm.mk (53 : Nat) [((0 : Nat), V.d true (0 : Nat) (D.str s)), ((1 : Nat), V.d true (0 : Nat) (D.int IntKind.i64 a)), ((5 : Nat), V.d x35 (0 : Nat) (D.int IntKind.i64 x36))], []⟩
def e0x0 (a : Int) (x74 : Bool) (x75 : Int) : S := ⟨Tm.mk (53 : Nat) [((1 : Nat), V.d true (0 : Nat) (D.int IntKind.i64 a)), ((5 : Nat), V.d x74 (0 : Nat) (D.int IntKind.i64 x75))], []⟩
def j0 (s : ByteArray) (a : Int) (x22 : Bool) (x54 : Bool) (x55 : Int) : S := ⟨Tm.mk (53 : Nat) [((0 : Nat), V.d true (0 : Nat) (D.str s)), ((1 : Nat), V.d true (0 : Nat) (D.int IntKind.i64 a)), ((5 : Nat), V.d x54 (0 : Nat) (D.int IntKind.i64 x55)), ((14 : Nat), V.d false (0 : Nat) (D.bool x22))], []⟩
noncomputable abbrev L0 : S → Option (S ⊕ (Ex × S)) := roundK X [((0 : Nat), (34 : Nat))] (sub [(1 : Nat), (1 : Nat), (0 : Nat), (0 : Nat), (0 : Nat)] (body Tryd.f23))
theorem start {β : Type} (s : ByteArray) (a : Int) (k : List TV → List TV → Option β) : evalF Tryd.prog E13 Tryd.f23 [TV.d true (0 : Nat) (D.str s), TV.d true (0 : Nat) (D.int IntKind.i64 a)] k =
    goLp X [((0 : Nat), (34 : Nat))] (sub [(1 : Nat), (1 : Nat), (0 : Nat), (0 : Nat), (0 : Nat)] (body Tryd.f23)) [Kf.block (0 : Nat) (34 : Nat), Kf.seq [] (sub [(1 : Nat), (1 : Nat), (1 : Nat)] (body Tryd.f23)) (16 : Nat)]
    (finK Tryd.prog Tryd.f23 [TV.d true (0 : Nat) (D.str s), TV.d true (0 : Nat) (D.int IntKind.i64 a)] k) (s0 s a true a) := by kernel_rfl
theorem round0 (s : ByteArray) (a : Int) (x35 : Bool) (x36 : Int) : roundK X [((0 : Nat), (34 : Nat))] (sub [(1 : Nat), (1 : Nat), (0 : Nat), (0 : Nat), (0 : Nat)] (body Tryd.f23)) (s0 s a x35 x36) =
    if decide (x36 < (↑(ByteArray.size s) : Int)) = true then
    if (0 : Int) ≤ x36 then
      match s[Int.toNat x36]? with
      | some c91 =>
        if ((↑(UInt8.toNat c91) : Int) == (32 : Int)) = true then
          applyK X (finR X [((0 : Nat), (34 : Nat))] (sub [(1 : Nat), (1 : Nat), (0 : Nat), (0 : Nat), (0 : Nat)] (body Tryd.f23)))
            [Kf.seq [((2 : Nat), (34 : Nat)), ((1 : Nat), (35 : Nat)), ((0 : Nat), (34 : Nat))]
                (sub [(1 : Nat), (1 : Nat), (0 : Nat), (0 : Nat), (0 : Nat), (1 : Nat), (0 : Nat), (0 : Nat), (0 : Nat), (1 : Nat)] (body Tryd.f23)) (34 : Nat),
              Kf.block (2 : Nat) (34 : Nat),
              Kf.seq [((1 : Nat), (35 : Nat)), ((0 : Nat), (34 : Nat))] (sub [(1 : Nat), (1 : Nat), (0 : Nat), (0 : Nat), (0 : Nat), (1 : Nat), (0 : Nat), (1 : Nat)] (body Tryd.f23)) (35 : Nat),
              Kf.block (1 : Nat) (35 : Nat)]
            Ex.norm (j0 s a ((↑(UInt8.toNat c91) : Int) == (32 : Int)) x35 x36)
        else
          if (0 : Int) ≤ x36 then
            match s[Int.toNat x36]? with
            | some c94 =>
              if ((↑(UInt8.toNat c94) : Int) == (9 : Int)) = true then
                applyK X (finR X [((0 : Nat), (34 : Nat))] (sub [(1 : Nat), (1 : Nat), (0 : Nat), (0 : Nat), (0 : Nat)] (body Tryd.f23)))
                  [Kf.seq [((2 : Nat), (34 : Nat)), ((1 : Nat), (35 : Nat)), ((0 : Nat), (34 : Nat))]
                      (sub [(1 : Nat), (1 : Nat), (0 : Nat), (0 : Nat), (0 : Nat), (1 : Nat), (0 : Nat), (0 : Nat), (0 : Nat), (1 : Nat)] (body Tryd.f23)) (34 : Nat),
                    Kf.block (2 : Nat) (34 : Nat),
                    Kf.seq [((1 : Nat), (35 : Nat)), ((0 : Nat), (34 : Nat))] (sub [(1 : Nat), (1 : Nat), (0 : Nat), (0 : Nat), (0 : Nat), (1 : Nat), (0 : Nat), (1 : Nat)] (body Tryd.f23)) (35 : Nat),
                    Kf.block (1 : Nat) (35 : Nat)]
                  Ex.norm (j0 s a ((↑(UInt8.toNat c94) : Int) == (9 : Int)) x35 x36)
              else
                if (0 : Int) ≤ x36 then
                  match s[Int.toNat x36]? with
                  | some c97 =>
                    if ((↑(UInt8.toNat c97) : Int) == (10 : Int)) = true then
                      applyK X (finR X [((0 : Nat), (34 : Nat))] (sub [(1 : Nat), (1 : Nat), (0 : Nat), (0 : Nat), (0 : Nat)] (body Tryd.f23)))
                        [Kf.seq [((2 : Nat), (34 : Nat)), ((1 : Nat), (35 : Nat)), ((0 : Nat), (34 : Nat))]
                            (sub [(1 : Nat), (1 : Nat), (0 : Nat), (0 : Nat), (0 : Nat), (1 : Nat), (0 : Nat), (0 : Nat), (0 : Nat), (1 : Nat)] (body Tryd.f23)) (34 : Nat),
                          Kf.block (2 : Nat) (34 : Nat),
                          Kf.seq [((1 : Nat), (35 : Nat)), ((0 : Nat), (34 : Nat))] (sub [(1 : Nat), (1 : Nat), (0 : Nat), (0 : Nat), (0 : Nat), (1 : Nat), (0 : Nat), (1 : Nat)] (body Tryd.f23)) (35 : Nat),
                          Kf.block (1 : Nat) (35 : Nat)]
                        Ex.norm (j0 s a ((↑(UInt8.toNat c97) : Int) == (10 : Int)) x35 x36)
                    else
                      if (0 : Int) ≤ x36 then
                        match s[Int.toNat x36]? with
                        | some c100 =>
                          applyK X (finR X [((0 : Nat), (34 : Nat))] (sub [(1 : Nat), (1 : Nat), (0 : Nat), (0 : Nat), (0 : Nat)] (body Tryd.f23)))
                            [Kf.seq [((2 : Nat), (34 : Nat)), ((1 : Nat), (35 : Nat)), ((0 : Nat), (34 : Nat))]
                                (sub [(1 : Nat), (1 : Nat), (0 : Nat), (0 : Nat), (0 : Nat), (1 : Nat), (0 : Nat), (0 : Nat), (0 : Nat), (1 : Nat)] (body Tryd.f23)) (34 : Nat),
                              Kf.block (2 : Nat) (34 : Nat),
                              Kf.seq [((1 : Nat), (35 : Nat)), ((0 : Nat), (34 : Nat))] (sub [(1 : Nat), (1 : Nat), (0 : Nat), (0 : Nat), (0 : Nat), (1 : Nat), (0 : Nat), (1 : Nat)] (body Tryd.f23)) (35 : Nat),
                              Kf.block (1 : Nat) (35 : Nat)]
                            Ex.norm (j0 s a ((↑(UInt8.toNat c100) : Int) == (13 : Int)) x35 x36)
                        | none => none
                      else none
                  | none => none
                else none
            | none => none
          else none
      | none => none
    else none
  else some (Sum.inr (Ex.exit (0 : Nat), e0x0 a x35 x36)) := by kernel_rfl
theorem behind0x0 {β : Type} (s : ByteArray) (a : Int) (x74 : Bool) (x75 : Int) (k : List TV → List TV → Option β) : applyK X (finK Tryd.prog Tryd.f23 [TV.d true (0 : Nat) (D.str s), TV.d true (0 : Nat) (D.int IntKind.i64 a)] k)
    [Kf.block (0 : Nat) (34 : Nat), Kf.seq [] (sub [(1 : Nat), (1 : Nat), (1 : Nat)] (body Tryd.f23)) (16 : Nat)] (Ex.exit (0 : Nat)) (e0x0 a x74 x75) =
    k [TV.d false (0 : Nat) (D.int IntKind.i64 (IntKind.wrap IntKind.i64 (x75 - a)))] [] := by kernel_rfl
theorem j0_eq (s : ByteArray) (a : Int) (x22 : Bool) (x54 : Bool) (x55 : Int) : applyK X (finR X [((0 : Nat), (34 : Nat))] (sub [(1 : Nat), (1 : Nat), (0 : Nat), (0 : Nat), (0 : Nat)] (body Tryd.f23)))
    [Kf.seq [((2 : Nat), (34 : Nat)), ((1 : Nat), (35 : Nat)), ((0 : Nat), (34 : Nat))] (sub [(1 : Nat), (1 : Nat), (0 : Nat), (0 : Nat), (0 : Nat), (1 : Nat), (0 : Nat), (0 : Nat), (0 : Nat), (1 : Nat)] (body Tryd.f23))
        (34 : Nat),
      Kf.block (2 : Nat) (34 : Nat), Kf.seq [((1 : Nat), (35 : Nat)), ((0 : Nat), (34 : Nat))] (sub [(1 : Nat), (1 : Nat), (0 : Nat), (0 : Nat), (0 : Nat), (1 : Nat), (0 : Nat), (1 : Nat)] (body Tryd.f23)) (35 : Nat),
      Kf.block (1 : Nat) (35 : Nat)]
    Ex.norm (j0 s a x22 x54 x55) =
    if x22 = true then some (Sum.inl (s0 s a false (IntKind.wrap IntKind.i64 (x55 + (1 : Int)))))
  else
    if (0 : Int) ≤ (↑(ByteArray.size s) : Int) ∧ (↑(ByteArray.size s) : Int) ≤ (↑(ByteArray.size s) : Int) ∧ (0 : Int) ≤ x55 ∧ x55 ≤ (↑(ByteArray.size s) : Int) then
      if hasP (ByteArray.extract s (Int.toNat x55) (Int.toNat (↑(ByteArray.size s) : Int))) (ByteArray.mk #[(47 : UInt8), (47 : UInt8)]) = true then
        if (0 : Int) ≤ (↑(ByteArray.size s) : Int) ∧ (↑(ByteArray.size s) : Int) ≤ (↑(ByteArray.size s) : Int) ∧ (0 : Int) ≤ x55 ∧ x55 ≤ (↑(ByteArray.size s) : Int) then
          if small (ByteArray.extract s (Int.toNat x55) (Int.toNat (↑(ByteArray.size s) : Int))) then
            match
              Nat.ble (ByteArray.size (ByteArray.extract s (Int.toNat x55) (Int.toNat (↑(ByteArray.size s) : Int))))
                  (Int.toNat (indexS (ByteArray.extract s (Int.toNat x55) (Int.toNat (↑(ByteArray.size s) : Int))) (UInt8.ofNat (nat_lit 10)))) ||
                decide (indexS (ByteArray.extract s (Int.toNat x55) (Int.toNat (↑(ByteArray.size s) : Int))) (UInt8.ofNat (nat_lit 10)) < (0 : Int)) with
            | true => some (Sum.inl (s0 s a false (IntKind.wrap IntKind.i64 (x55 + (↑(ByteArray.size (ByteArray.extract s (Int.toNat x55) (Int.toNat (↑(ByteArray.size s) : Int)))) : Int)))))
            | false =>
              some
                (Sum.inl
                  (s0 s a false
                    (IntKind.wrap IntKind.i64
                      (x55 +
                        (↑(ByteArray.size
                              (ByteArray.extract (ByteArray.extract s (Int.toNat x55) (Int.toNat (↑(ByteArray.size s) : Int))) (0 : Nat)
                                (Int.toNat (indexS (ByteArray.extract s (Int.toNat x55) (Int.toNat (↑(ByteArray.size s) : Int))) (UInt8.ofNat (nat_lit 10)))))) :
                          Int)))))
          else none
        else none
      else some (Sum.inr (Ex.exit (0 : Nat), e0x0 a x54 x55))
    else none := by kernel_rfl
end F23

namespace F37
/- rounds of the search: 1 -/
noncomputable def X : Fx := ⟨Tryd.prog, E14, 16, 2⟩
theorem start {β : Type} (p : Int) (n : Int) (k : List TV → List TV → Option β) : evalF Tryd.prog E14 Tryd.f37 [TV.d true (0 : Nat) (D.int IntKind.i64 p), TV.d true (0 : Nat) (D.ifc (55 : TypeId) (D.int IntKind.i64 n))] k =
    k [TV.d true (0 : Nat) (D.ifc (63 : Nat) (D.pt (3 : Nat) (D.ag [D.int IntKind.i64 p, D.ifc (55 : Nat) (D.int IntKind.i64 n)])))] [] := by kernel_rfl
end F37

namespace F24
/- rounds of the search: 1 -/
noncomputable def X : Fx := ⟨Tryd.prog, E15, 112, 2⟩
theorem start {β : Type} (s : ByteArray) (a : Int) (k : List TV → List TV → Option β) : evalF Tryd.prog E15 Tryd.f24 [TV.d true (0 : Nat) (D.str s), TV.d true (0 : Nat) (D.int IntKind.i64 a)] k =
    if (0 : Int) ≤ a then
    match s[Int.toNat a]? with
    | some c2 =>
      if (0 : Int) ≤ (↑(UInt8.toNat c2) : Int) ∧ (↑(UInt8.toNat c2) : Int) < (256 : Int) then
        if (kindI (↑(UInt8.toNat c2) : Int) == (1 : Int)) = true then
          if inS s a then
            if ((↑(runL may1 (List.drop (Int.toNat a) (ByteArray.toList s))) : Int) == (0 : Int)) = true then
              k
                [TV.d false (4 : Nat) (D.ag [D.int IntKind.i64 (0 : Int), D.str (ByteArray.mk #[]), D.int IntKind.i64 (0 : Int)]), TV.d false (0 : Nat) (D.int IntKind.i64 (0 : Int)),
                  TV.d false (0 : Nat) (D.ifc (63 : Nat) (D.pt (3 : Nat) (D.ag [D.int IntKind.i64 a, D.ifc (55 : Nat) (D.int IntKind.i64 (20 : Int))])))]
                []
            else
              if
                  (0 : Int) ≤ IntKind.wrap IntKind.i64 (a + (↑(runL may1 (List.drop (Int.toNat a) (ByteArray.toList s))) : Int)) ∧
                    IntKind.wrap IntKind.i64 (a + (↑(runL may1 (List.drop (Int.toNat a) (ByteArray.toList s))) : Int)) ≤ (↑(ByteArray.size s) : Int) ∧
                      (0 : Int) ≤ a ∧ a ≤ IntKind.wrap IntKind.i64 (a + (↑(runL may1 (List.drop (Int.toNat a) (ByteArray.toList s))) : Int)) then
                k
                  [TV.d true (4 : Nat)
                      (D.ag
                        [D.int IntKind.i64 (kindI (↑(UInt8.toNat c2) : Int)),
                          D.str (ByteArray.extract s (Int.toNat a) (Int.toNat (IntKind.wrap IntKind.i64 (a + (↑(runL may1 (List.drop (Int.toNat a) (ByteArray.toList s))) : Int))))), D.int IntKind.i64 a]),
                    TV.d false (0 : Nat) (D.int IntKind.i64 (↑(runL may1 (List.drop (Int.toNat a) (ByteArray.toList s))) : Int)), TV.d false (0 : Nat) D.nili]
                  []
              else none
          else none
        else
          if (kindI (↑(UInt8.toNat c2) : Int) == (2 : Int)) = true then
            if inS s a then
              if
                  (0 : Int) ≤ IntKind.wrap IntKind.i64 (a + (↑(runL may2 (List.drop (Int.toNat a) (ByteArray.toList s))) : Int)) ∧
                    IntKind.wrap IntKind.i64 (a + (↑(runL may2 (List.drop (Int.toNat a) (ByteArray.toList s))) : Int)) ≤ (↑(ByteArray.size s) : Int) ∧
                      (0 : Int) ≤ a ∧ a ≤ IntKind.wrap IntKind.i64 (a + (↑(runL may2 (List.drop (Int.toNat a) (ByteArray.toList s))) : Int)) then
                if
                    small (ByteArray.extract s (Int.toNat a) (Int.toNat (IntKind.wrap IntKind.i64 (a + (↑(runL may2 (List.drop (Int.toNat a) (ByteArray.toList s))) : Int))))) ∧
                      digitsL (ByteArray.toList (ByteArray.extract s (Int.toNat a) (Int.toNat (IntKind.wrap IntKind.i64 (a + (↑(runL may2 (List.drop (Int.toNat a) (ByteArray.toList s))) : Int)))))) then
                  match valI (ByteArray.toList (ByteArray.extract s (Int.toNat a) (Int.toNat (IntKind.wrap IntKind.i64 (a + (↑(runL may2 (List.drop (Int.toNat a) (ByteArray.toList s))) : Int)))))) (0 : Int) with
                  | some n17 =>
                    if ((↑(runL may2 (List.drop (Int.toNat a) (ByteArray.toList s))) : Int) == (0 : Int)) = true then
                      k
                        [TV.d false (4 : Nat) (D.ag [D.int IntKind.i64 (0 : Int), D.str (ByteArray.mk #[]), D.int IntKind.i64 (0 : Int)]), TV.d false (0 : Nat) (D.int IntKind.i64 (0 : Int)),
                          TV.d false (0 : Nat) (D.ifc (63 : Nat) (D.pt (3 : Nat) (D.ag [D.int IntKind.i64 a, D.ifc (55 : Nat) (D.int IntKind.i64 (20 : Int))])))]
                        []
                    else
                      if
                          (0 : Int) ≤ IntKind.wrap IntKind.i64 (a + (↑(runL may2 (List.drop (Int.toNat a) (ByteArray.toList s))) : Int)) ∧
                            IntKind.wrap IntKind.i64 (a + (↑(runL may2 (List.drop (Int.toNat a) (ByteArray.toList s))) : Int)) ≤ (↑(ByteArray.size s) : Int) ∧
                              (0 : Int) ≤ a ∧ a ≤ IntKind.wrap IntKind.i64 (a + (↑(runL may2 (List.drop (Int.toNat a) (ByteArray.toList s))) : Int)) then
                        k
                          [TV.d true (4 : Nat)
                              (D.ag
                                [D.int IntKind.i64 (kindI (↑(UInt8.toNat c2) : Int)),
                                  D.str (ByteArray.extract s (Int.toNat a) (Int.toNat (IntKind.wrap IntKind.i64 (a + (↑(runL may2 (List.drop (Int.toNat a) (ByteArray.toList s))) : Int))))), D.int IntKind.i64 a]),
                            TV.d false (0 : Nat) (D.int IntKind.i64 (↑(runL may2 (List.drop (Int.toNat a) (ByteArray.toList s))) : Int)), TV.d false (0 : Nat) D.nili]
                          []
                      else none
                  | none =>
                    k
                      [TV.d false (4 : Nat) (D.ag [D.int IntKind.i64 (0 : Int), D.str (ByteArray.mk #[]), D.int IntKind.i64 (0 : Int)]), TV.d false (0 : Nat) (D.int IntKind.i64 (0 : Int)),
                        TV.d false (0 : Nat) (D.ifc (63 : Nat) (D.pt (3 : Nat) (D.ag [D.int IntKind.i64 a, D.ifc (55 : Nat) (D.int IntKind.i64 (10 : Int))])))]
                      []
                else none
              else none
            else none
          else
            if (kindI (↑(UInt8.toNat c2) : Int) == (3 : Int)) = true then
              if (0 : Int) ≤ (↑(ByteArray.size s) : Int) ∧ (↑(ByteArray.size s) : Int) ≤ (↑(ByteArray.size s) : Int) ∧ (0 : Int) ≤ a ∧ a ≤ (↑(ByteArray.size s) : Int) then
                if small (ByteArray.extract s (Int.toNat a) (Int.toNat (↑(ByteArray.size s) : Int))) ∧ (0 : Nat) < ByteArray.size (ByteArray.extract s (Int.toNat a) (Int.toNat (↑(ByteArray.size s) : Int))) then
                  if decide ((↑(quotedL (ByteArray.toList (ByteArray.extract s (Int.toNat a) (Int.toNat (↑(ByteArray.size s) : Int))))) : Int) > (0 : Int)) = true then
                    if
                        (0 : Int) ≤ IntKind.wrap IntKind.i64 (IntKind.wrap IntKind.i64 (a + (↑(quotedL (ByteArray.toList (ByteArray.extract s (Int.toNat a) (Int.toNat (↑(ByteArray.size s) : Int))))) : Int)) - (1 : Int)) ∧
                          IntKind.wrap IntKind.i64 (IntKind.wrap IntKind.i64 (a + (↑(quotedL (ByteArray.toList (ByteArray.extract s (Int.toNat a) (Int.toNat (↑(ByteArray.size s) : Int))))) : Int)) - (1 : Int)) ≤
                              (↑(ByteArray.size s) : Int) ∧
                            (0 : Int) ≤ IntKind.wrap IntKind.i64 (a + (1 : Int)) ∧
                              IntKind.wrap IntKind.i64 (a + (1 : Int)) ≤
                                IntKind.wrap IntKind.i64 (IntKind.wrap IntKind.i64 (a + (↑(quotedL (ByteArray.toList (ByteArray.extract s (Int.toNat a) (Int.toNat (↑(ByteArray.size s) : Int))))) : Int)) - (1 : Int)) then
                      k
                        [TV.d true (4 : Nat)
                            (D.ag
                              [D.int IntKind.i64 (kindI (↑(UInt8.toNat c2) : Int)),
                                D.str
                                  (ByteArray.extract s (Int.toNat (IntKind.wrap IntKind.i64 (a + (1 : Int))))
                                    (Int.toNat
                                      (IntKind.wrap IntKind.i64
                                        (IntKind.wrap IntKind.i64 (a + (↑(quotedL (ByteArray.toList (ByteArray.extract s (Int.toNat a) (Int.toNat (↑(ByteArray.size s) : Int))))) : Int)) - (1 : Int))))),
                                D.int IntKind.i64 a]),
                          TV.d false (0 : Nat) (D.int IntKind.i64 (↑(quotedL (ByteArray.toList (ByteArray.extract s (Int.toNat a) (Int.toNat (↑(ByteArray.size s) : Int))))) : Int)), TV.d false (0 : Nat) D.nili]
                        []
                    else none
                  else
                    if ((↑(quotedL (ByteArray.toList (ByteArray.extract s (Int.toNat a) (Int.toNat (↑(ByteArray.size s) : Int))))) : Int) == (0 : Int)) = true then
                      k
                        [TV.d false (4 : Nat) (D.ag [D.int IntKind.i64 (0 : Int), D.str (ByteArray.mk #[]), D.int IntKind.i64 (0 : Int)]), TV.d false (0 : Nat) (D.int IntKind.i64 (0 : Int)),
                          TV.d false (0 : Nat) (D.ifc (63 : Nat) (D.pt (3 : Nat) (D.ag [D.int IntKind.i64 a, D.ifc (55 : Nat) (D.int IntKind.i64 (20 : Int))])))]
                        []
                    else
                      if
                          (0 : Int) ≤ IntKind.wrap IntKind.i64 (a + (↑(quotedL (ByteArray.toList (ByteArray.extract s (Int.toNat a) (Int.toNat (↑(ByteArray.size s) : Int))))) : Int)) ∧
                            IntKind.wrap IntKind.i64 (a + (↑(quotedL (ByteArray.toList (ByteArray.extract s (Int.toNat a) (Int.toNat (↑(ByteArray.size s) : Int))))) : Int)) ≤ (↑(ByteArray.size s) : Int) ∧
                              (0 : Int) ≤ a ∧ a ≤ IntKind.wrap IntKind.i64 (a + (↑(quotedL (ByteArray.toList (ByteArray.extract s (Int.toNat a) (Int.toNat (↑(ByteArray.size s) : Int))))) : Int)) then
                        k
                          [TV.d true (4 : Nat)
                              (D.ag
                                [D.int IntKind.i64 (kindI (↑(UInt8.toNat c2) : Int)),
                                  D.str
                                    (ByteArray.extract s (Int.toNat a)
                                      (Int.toNat (IntKind.wrap IntKind.i64 (a + (↑(quotedL (ByteArray.toList (ByteArray.extract s (Int.toNat a) (Int.toNat (↑(ByteArray.size s) : Int))))) : Int))))),
                                  D.int IntKind.i64 a]),
                            TV.d false (0 : Nat) (D.int IntKind.i64 (↑(quotedL (ByteArray.toList (ByteArray.extract s (Int.toNat a) (Int.toNat (↑(ByteArray.size s) : Int))))) : Int)), TV.d false (0 : Nat) D.nili]
                          []
                      else none
                else none
              else none
            else
              if (kindI (↑(UInt8.toNat c2) : Int) == (4 : Int)) = true then
                if (0 : Int) ≤ (↑(ByteArray.size s) : Int) ∧ (↑(ByteArray.size s) : Int) ≤ (↑(ByteArray.size s) : Int) ∧ (0 : Int) ≤ a ∧ a ≤ (↑(ByteArray.size s) : Int) then
                  if (0 : Nat) < ByteArray.size (ByteArray.extract s (Int.toNat a) (Int.toNat (↑(ByteArray.size s) : Int))) then
                    if ((↑(markL (ByteArray.toList (ByteArray.extract s (Int.toNat a) (Int.toNat (↑(ByteArray.size s) : Int))))) : Int) == (0 : Int)) = true then
                      k
                        [TV.d false (4 : Nat) (D.ag [D.int IntKind.i64 (0 : Int), D.str (ByteArray.mk #[]), D.int IntKind.i64 (0 : Int)]), TV.d false (0 : Nat) (D.int IntKind.i64 (0 : Int)),
                          TV.d false (0 : Nat) (D.ifc (63 : Nat) (D.pt (3 : Nat) (D.ag [D.int IntKind.i64 a, D.ifc (55 : Nat) (D.int IntKind.i64 (20 : Int))])))]
                        []
                    else
                      if
                          (0 : Int) ≤ IntKind.wrap IntKind.i64 (a + (↑(markL (ByteArray.toList (ByteArray.extract s (Int.toNat a) (Int.toNat (↑(ByteArray.size s) : Int))))) : Int)) ∧
                            IntKind.wrap IntKind.i64 (a + (↑(markL (ByteArray.toList (ByteArray.extract s (Int.toNat a) (Int.toNat (↑(ByteArray.size s) : Int))))) : Int)) ≤ (↑(ByteArray.size s) : Int) ∧
                              (0 : Int) ≤ a ∧ a ≤ IntKind.wrap IntKind.i64 (a + (↑(markL (ByteArray.toList (ByteArray.extract s (Int.toNat a) (Int.toNat (↑(ByteArray.size s) : Int))))) : Int)) then
                        k
                          [TV.d true (4 : Nat)
                              (D.ag
                                [D.int IntKind.i64 (kindI (↑(UInt8.toNat c2) : Int)),
                                  D.str
                                    (ByteArray.extract s (Int.toNat a)
                                      (Int.toNat (IntKind.wrap IntKind.i64 (a + (↑(markL (ByteArray.toList (ByteArray.extract s (Int.toNat a) (Int.toNat (↑(ByteArray.size s) : Int))))) : Int))))),
                                  D.int IntKind.i64 a]),
                            TV.d false (0 : Nat) (D.int IntKind.i64 (↑(markL (ByteArray.toList (ByteArray.extract s (Int.toNat a) (Int.toNat (↑(ByteArray.size s) : Int))))) : Int)), TV.d false (0 : Nat) D.nili]
                          []
                      else none
                  else none
                else none
              else
                k
                  [TV.d false (4 : Nat) (D.ag [D.int IntKind.i64 (0 : Int), D.str (ByteArray.mk #[]), D.int IntKind.i64 (0 : Int)]), TV.d false (0 : Nat) (D.int IntKind.i64 (0 : Int)),
                    TV.d false (0 : Nat) (D.ifc (63 : Nat) (D.pt (3 : Nat) (D.ag [D.int IntKind.i64 a, D.ifc (55 : Nat) (D.int IntKind.i64 (20 : Int))])))]
                  []
      else none
    | none => none
  else none := by kernel_rfl
end F24

namespace F10
/- rounds of the search: 3 -/
noncomputable def X : Fx := ⟨Tryd.prog, E16, 12, 1⟩
def s0 (s : ByteArray) (x25 : List D) (x26 : Int) : S := ⟨Tm.mk (47 : Nat) [((0 : Nat), V.d true (0 : Nat) (D.str s)), ((4 : Nat), V.own false (4 : Nat) x25), ((5 : Nat), V.d false (0 : Nat) (D.int IntKind.i64 x26))], []⟩
def e0r (x53 : Int) (x54 : Int) : S := ⟨Tm.mk (47 : Nat) [((2 : Nat), V.own false (4 : Nat) []), ((3 : Nat), V.d false (0 : Nat) (D.ifc (63 : Nat) (D.pt (3 : Nat) (D.ag [D.int IntKind.i64 x53, D.ifc (55 : Nat) (D.int IntKind.i64 x54)]))))], []⟩
def e0x0 (s : ByteArray) (x55 : List D) : S := ⟨Tm.mk (47 : Nat) [((0 : Nat), V.d true (0 : Nat) (D.str s)), ((4 : Nat), V.own false (4 : Nat) x55)], []⟩
noncomputable abbrev L0 : S → Option (S ⊕ (Ex × S)) := roundK X [((0 : Nat), (17 : Nat))] (sub [(1 : Nat), (1 : Nat), (1 : Nat), (1 : Nat), (0 : Nat), (0 : Nat), (0 : Nat)] (body Tryd.f10))
theorem start {β : Type} (s : ByteArray) (k : List TV → List TV → Option β) : evalF Tryd.prog E16 Tryd.f10 [TV.d true (0 : Nat) (D.str s)] k =
    if decide ((↑(ByteArray.size s) : Int) > (65536 : Int)) = true then k [TV.own false (4 : Nat) [], TV.d false (0 : Nat) (D.ifc (55 : Nat) (D.int IntKind.i64 (2 : Int)))] []
  else
    if inS s (0 : Int) then
      goLp X [((0 : Nat), (17 : Nat))] (sub [(1 : Nat), (1 : Nat), (1 : Nat), (1 : Nat), (0 : Nat), (0 : Nat), (0 : Nat)] (body Tryd.f10))
        [Kf.block (0 : Nat) (17 : Nat), Kf.seq [] (sub [(1 : Nat), (1 : Nat), (1 : Nat), (1 : Nat), (1 : Nat)] (body Tryd.f10)) (12 : Nat)] (finK Tryd.prog Tryd.f10 [TV.d true (0 : Nat) (D.str s)] k)
        (s0 s [] (↑(blankL (List.drop (0 : Nat) (ByteArray.toList s))) : Int))
    else none := by kernel_rfl
theorem round0 (s : ByteArray) (x25 : List D) (x26 : Int) : roundK X [((0 : Nat), (17 : Nat))] (sub [(1 : Nat), (1 : Nat), (1 : Nat), (1 : Nat), (0 : Nat), (0 : Nat), (0 : Nat)] (body Tryd.f10)) (s0 s x25 x26) =
    if decide (x26 < (↑(ByteArray.size s) : Int)) = true then
    if inS s x26 ∧ x26 < (↑(ByteArray.size s) : Int) then
      match oneL (List.drop (Int.toNat x26) (ByteArray.toList s)) with
      | Sum.inl n66 => some (Sum.inr (Ex.ret, e0r x26 n66))
      | Sum.inr (c70, t71, n72) =>
        if List.length x25 + (1 : Nat) ≤ (34359738368 : Nat) then
          if inS s (IntKind.wrap IntKind.i64 (x26 + (↑n72 : Int))) then
            some
              (Sum.inl
                (s0 s (x25 ++ [D.ag [D.int IntKind.i64 c70, D.str (B t71), D.int IntKind.i64 x26]])
                  (IntKind.wrap IntKind.i64 (IntKind.wrap IntKind.i64 (x26 + (↑n72 : Int)) + (↑(blankL (List.drop (Int.toNat (IntKind.wrap IntKind.i64 (x26 + (↑n72 : Int)))) (ByteArray.toList s))) : Int)))))
          else none
        else none
    else none
  else some (Sum.inr (Ex.exit (0 : Nat), e0x0 s x25)) := by kernel_rfl
theorem behind0r {β : Type} (s : ByteArray) (x53 : Int) (x54 : Int) (k : List TV → List TV → Option β) : applyK X (finK Tryd.prog Tryd.f10 [TV.d true (0 : Nat) (D.str s)] k) [Kf.block (0 : Nat) (17 : Nat), Kf.seq [] (sub [(1 : Nat), (1 : Nat), (1 : Nat), (1 : Nat), (1 : Nat)] (body Tryd.f10)) (12 : Nat)] Ex.ret
    (e0r x53 x54) =
    k [TV.own false (4 : Nat) [], TV.d false (0 : Nat) (D.ifc (63 : Nat) (D.pt (3 : Nat) (D.ag [D.int IntKind.i64 x53, D.ifc (55 : Nat) (D.int IntKind.i64 x54)])))] [] := by kernel_rfl
theorem behind0x0 {β : Type} (s : ByteArray) (x55 : List D) (k : List TV → List TV → Option β) : applyK X (finK Tryd.prog Tryd.f10 [TV.d true (0 : Nat) (D.str s)] k) [Kf.block (0 : Nat) (17 : Nat), Kf.seq [] (sub [(1 : Nat), (1 : Nat), (1 : Nat), (1 : Nat), (1 : Nat)] (body Tryd.f10)) (12 : Nat)] (Ex.exit (0 : Nat))
    (e0x0 s x55) =
    if List.length x55 + (1 : Nat) ≤ (34359738368 : Nat) then
    k [TV.own false (4 : Nat) (x55 ++ [D.ag [D.int IntKind.i64 (0 : Int), D.str (ByteArray.mk #[]), D.int IntKind.i64 (↑(ByteArray.size s) : Int)]]), TV.d false (0 : Nat) D.nili] []
  else none := by kernel_rfl
end F10


end Go.Sd

namespace Go.Sd
open Go Go.Cm Go.Proofs Go.Sc
set_option maxRecDepth 100000
namespace F14
/- rounds of the search: 1 -/
noncomputable def X : Fx := ⟨Tryd.prog, E17, 12, 1⟩
theorem start {β : Type} (s : ByteArray) (k : List TV → List TV → Option β) : evalF Tryd.prog E17 Tryd.f14 [TV.d true (0 : Nat) (D.str s)] k =
    match Nat.ble (ByteArray.size s) (65536 : Nat) with
  | false => k [TV.d false (0 : Nat) D.nilp, TV.d false (0 : Nat) (D.ifc (55 : Nat) (D.int IntKind.i64 (2 : Int)))] []
  | true =>
    match tokS (ByteArray.toList s) with
    | Sum.inl (n7, p8) => k [TV.d false (0 : Nat) D.nilp, TV.d false (0 : Nat) (D.ifc (63 : Nat) (D.pt (3 : Nat) (D.ag [D.int IntKind.i64 (↑p8 : Int), D.ifc (55 : Nat) (D.int IntKind.i64 n7)])))] []
    | Sum.inr l12 => k [TV.ob true [TV.own false (4 : Nat) (List.map tokT l12), TV.d false (0 : Nat) (D.int IntKind.i64 (0 : Int))], TV.d false (0 : Nat) D.nili] [] := by kernel_rfl
end F14

namespace F17
/- rounds of the search: 1 -/
noncomputable def X : Fx := ⟨Tryd.prog, E18, 4, 1⟩
theorem start {β : Type} (xs : List D) (a : Int) (k : List TV → List TV → Option β) : evalF Tryd.prog E18 Tryd.f17 [TV.ob true [TV.own true (4 : Nat) xs, TV.d false (0 : Nat) (D.int IntKind.i64 a)]] k =
    if (0 : Int) ≤ a ∧ a < (↑(List.length xs) : Int) then
    match xs[Int.toNat a]? with
    | some x4 =>
      match x4 with
      | D.ag xs5 =>
        match xs5 with
        | x6 :: r7 =>
          match x6 with
          | D.int j8 m9 =>
            if j8 = IntKind.i64 then
              match r7 with
              | x10 :: r11 =>
                match x10 with
                | D.str s12 =>
                  match r11 with
                  | x13 :: r14 =>
                    match x13 with
                    | D.int j15 m16 =>
                      if j15 = IntKind.i64 then
                        match r14 with
                        | [] => k [TV.d true (4 : Nat) (D.ag [D.int IntKind.i64 m9, D.str s12, D.int IntKind.i64 m16])] [TV.ob true [TV.own true (4 : Nat) xs, TV.d false (0 : Nat) (D.int IntKind.i64 a)]]
                        | x => none
                      else none
                    | x => none
                  | [] => none
                | x => none
              | [] => none
            else none
          | x => none
        | [] => none
      | x => none
    | none => none
  else none := by kernel_rfl
end F17

namespace F18
/- rounds of the search: 1 -/
noncomputable def X : Fx := ⟨Tryd.prog, E19, 4, 1⟩
theorem start {β : Type} (xs : List D) (a : Int) (k : List TV → List TV → Option β) : evalF Tryd.prog E19 Tryd.f18 [TV.ob true [TV.own true (4 : Nat) xs, TV.d false (0 : Nat) (D.int IntKind.i64 a)]] k =
    if (0 : Int) ≤ a then
    match xs[Int.toNat a]? with
    | some (D.ag [D.int IntKind.i64 c2, D.str t3, D.int IntKind.i64 p4]) =>
      if (!c2 == (0 : Int)) = true then
        k [TV.d true (4 : Nat) (D.ag [D.int IntKind.i64 c2, D.str t3, D.int IntKind.i64 p4])] [TV.ob true [TV.own true (4 : Nat) xs, TV.d false (0 : Nat) (D.int IntKind.i64 (IntKind.wrap IntKind.i64 (a + (1 : Int))))]]
      else k [TV.d true (4 : Nat) (D.ag [D.int IntKind.i64 c2, D.str t3, D.int IntKind.i64 p4])] [TV.ob true [TV.own true (4 : Nat) xs, TV.d false (0 : Nat) (D.int IntKind.i64 a)]]
    | x => none
  else none := by kernel_rfl
end F18

namespace F19
/- rounds of the search: 1 -/
noncomputable def X : Fx := ⟨Tryd.prog, E20, 16, 2⟩
theorem start {β : Type} (xs : List D) (a : Int) (s : ByteArray) (k : List TV → List TV → Option β) : evalF Tryd.prog E20 Tryd.f19 [TV.ob true [TV.own true (4 : Nat) xs, TV.d false (0 : Nat) (D.int IntKind.i64 a)], TV.d true (0 : Nat) (D.str s)] k =
    if (0 : Int) ≤ a then
    match xs[Int.toNat a]? with
    | some (D.ag [D.int IntKind.i64 c2, D.str t3, D.int IntKind.i64 p4]) =>
      if (c2 == (1 : Int)) = true then k [TV.d false (0 : Nat) (D.bool (ByteArray.toList t3 == ByteArray.toList s))] [TV.ob true [TV.own true (4 : Nat) xs, TV.d false (0 : Nat) (D.int IntKind.i64 a)]]
      else
        if (c2 == (4 : Int)) = true then k [TV.d false (0 : Nat) (D.bool (ByteArray.toList t3 == ByteArray.toList s))] [TV.ob true [TV.own true (4 : Nat) xs, TV.d false (0 : Nat) (D.int IntKind.i64 a)]]
        else k [TV.d false (0 : Nat) (D.bool false)] [TV.ob true [TV.own true (4 : Nat) xs, TV.d false (0 : Nat) (D.int IntKind.i64 a)]]
    | x => none
  else none := by kernel_rfl
end F19

namespace F20
/- rounds of the search: 1 -/
noncomputable def X : Fx := ⟨Tryd.prog, E21, 16, 2⟩
theorem start {β : Type} (xs : List D) (a : Int) (s : ByteArray) (k : List TV → List TV → Option β) : evalF Tryd.prog E21 Tryd.f20 [TV.ob true [TV.own true (4 : Nat) xs, TV.d false (0 : Nat) (D.int IntKind.i64 a)], TV.d true (0 : Nat) (D.str s)] k =
    if (0 : Int) ≤ a then
    match xs[Int.toNat a]? with
    | some (D.ag [D.int IntKind.i64 c2, D.str t3, D.int IntKind.i64 n4]) =>
      if ((c2 == (1 : Int) || c2 == (4 : Int)) && ByteArray.toList t3 == ByteArray.toList s) = true then
        if (0 : Int) ≤ a ∧ a < (34359738368 : Int) then
          match xs[Int.toNat a]? with
          | some (D.ag [D.int IntKind.i64 c8, D.str t9, D.int IntKind.i64 p10]) =>
            if (!c8 == (0 : Int)) = true then
              k [TV.d false (0 : Nat) (D.bool ((c2 == (1 : Int) || c2 == (4 : Int)) && ByteArray.toList t3 == ByteArray.toList s))]
                [TV.ob true [TV.own true (4 : Nat) xs, TV.d false (0 : Nat) (D.int IntKind.i64 (a + (1 : Int)))]]
            else k [TV.d false (0 : Nat) (D.bool ((c2 == (1 : Int) || c2 == (4 : Int)) && ByteArray.toList t3 == ByteArray.toList s))] [TV.ob true [TV.own true (4 : Nat) xs, TV.d false (0 : Nat) (D.int IntKind.i64 a)]]
          | x => none
        else none
      else k [TV.d false (0 : Nat) (D.bool ((c2 == (1 : Int) || c2 == (4 : Int)) && ByteArray.toList t3 == ByteArray.toList s))] [TV.ob true [TV.own true (4 : Nat) xs, TV.d false (0 : Nat) (D.int IntKind.i64 a)]]
    | x => none
  else none := by kernel_rfl
end F20

namespace F29
/- rounds of the search: 1 -/
noncomputable def X : Fx := ⟨Tryd.prog, E22, 4, 1⟩
theorem start {β : Type} (xs : List D) (a : Int) (k : List TV → List TV → Option β) : evalF Tryd.prog E22 Tryd.f29 [TV.ob true [TV.own true (4 : Nat) xs, TV.d false (0 : Nat) (D.int IntKind.i64 a)]] k =
    if (0 : Int) ≤ a then
    match xs[Int.toNat a]? with
    | some (D.ag [D.int IntKind.i64 c4, D.str t5, D.int IntKind.i64 p6]) =>
      k [TV.d false (0 : Nat) (D.ifc (63 : Nat) (D.pt (3 : Nat) (D.ag [D.int IntKind.i64 p6, D.ifc (55 : Nat) (D.int IntKind.i64 (20 : Int))])))]
        [TV.ob true [TV.own true (4 : Nat) xs, TV.d false (0 : Nat) (D.int IntKind.i64 a)]]
    | x => none
  else none := by kernel_rfl
end F29

namespace F21
/- rounds of the search: 1 -/
noncomputable def X : Fx := ⟨Tryd.prog, E23, 16, 2⟩
theorem start {β : Type} (xs : List D) (a : Int) (s : ByteArray) (k : List TV → List TV → Option β) : evalF Tryd.prog E23 Tryd.f21 [TV.ob true [TV.own true (4 : Nat) xs, TV.d false (0 : Nat) (D.int IntKind.i64 a)], TV.d true (0 : Nat) (D.str s)] k =
    if (0 : Int) ≤ a ∧ a < (34359738368 : Int) then
    match xs[Int.toNat a]? with
    | some (D.ag [D.int IntKind.i64 c2, D.str t3, D.int IntKind.i64 n4]) =>
      if ((c2 == (1 : Int) || c2 == (4 : Int)) && ByteArray.toList t3 == ByteArray.toList s) = true then
        k [TV.d false (0 : Nat) D.nili] [TV.ob true [TV.own true (4 : Nat) xs, TV.d false (0 : Nat) (D.int IntKind.i64 (a + (1 : Int)))]]
      else
        if (0 : Int) ≤ a then
          match xs[Int.toNat a]? with
          | some (D.ag [D.int IntKind.i64 n9, D.str s10, D.int IntKind.i64 p11]) =>
            k [TV.d false (0 : Nat) (D.ifc (63 : Nat) (D.pt (3 : Nat) (D.ag [D.int IntKind.i64 p11, D.ifc (55 : Nat) (D.int IntKind.i64 (20 : Int))])))]
              [TV.ob true [TV.own true (4 : Nat) xs, TV.d false (0 : Nat) (D.int IntKind.i64 a)]]
          | x => none
        else none
    | x => none
  else none := by kernel_rfl
end F21

namespace F15
/- rounds of the search: 1 -/
noncomputable def X : Fx := ⟨Tryd.prog, E24, 12, 1⟩
theorem start {β : Type} (xs : List D) (a : Int) (k : List TV → List TV → Option β) : evalF Tryd.prog E24 Tryd.f15 [TV.ob true [TV.own true (4 : Nat) xs, TV.d false (0 : Nat) (D.int IntKind.i64 a)]] k =
    if (0 : Int) ≤ a then
    match xs[Int.toNat a]? with
    | some (D.ag [D.int IntKind.i64 c2, D.str t3, D.int IntKind.i64 p4]) =>
      if (!c2 == (1 : Int)) = true then
        if (0 : Int) ≤ a then
          match xs[Int.toNat a]? with
          | some (D.ag [D.int IntKind.i64 n7, D.str s8, D.int IntKind.i64 p9]) =>
            k [TV.d false (0 : Nat) (D.str (ByteArray.mk #[])), TV.d false (0 : Nat) (D.ifc (63 : Nat) (D.pt (3 : Nat) (D.ag [D.int IntKind.i64 p9, D.ifc (55 : Nat) (D.int IntKind.i64 (20 : Int))])))]
              [TV.ob true [TV.own true (4 : Nat) xs, TV.d false (0 : Nat) (D.int IntKind.i64 a)]]
          | x => none
        else none
      else
        if (0 : Int) ≤ a ∧ a < (34359738368 : Int) then
          match xs[Int.toNat a]? with
          | some (D.ag [D.int IntKind.i64 c11, D.str t12, D.int IntKind.i64 p13]) =>
            if (!c11 == (0 : Int)) = true then k [TV.d false (0 : Nat) (D.str t12), TV.d false (0 : Nat) D.nili] [TV.ob true [TV.own true (4 : Nat) xs, TV.d false (0 : Nat) (D.int IntKind.i64 (a + (1 : Int)))]]
            else k [TV.d false (0 : Nat) (D.str t12), TV.d false (0 : Nat) D.nili] [TV.ob true [TV.own true (4 : Nat) xs, TV.d false (0 : Nat) (D.int IntKind.i64 a)]]
          | x => none
        else none
    | x => none
  else none := by kernel_rfl
end F15

namespace F16
/- rounds of the search: 1 -/
noncomputable def X : Fx := ⟨Tryd.prog, E24b, 12, 1⟩
theorem start {β : Type} (xs : List D) (a : Int) (k : List TV → List TV → Option β) : evalF Tryd.prog E24b Tryd.f16 [TV.ob true [TV.own true (4 : Nat) xs, TV.d false (0 : Nat) (D.int IntKind.i64 a)]] k =
    if (0 : Int) ≤ a then
    match xs[Int.toNat a]? with
    | some (D.ag [D.int IntKind.i64 c2, D.str t3, D.int IntKind.i64 p4]) =>
      if (!c2 == (2 : Int)) = true then
        if (0 : Int) ≤ a then
          match xs[Int.toNat a]? with
          | some (D.ag [D.int IntKind.i64 n7, D.str s8, D.int IntKind.i64 p9]) =>
            k [TV.d false (0 : Nat) (D.int IntKind.i64 (0 : Int)), TV.d false (0 : Nat) (D.ifc (63 : Nat) (D.pt (3 : Nat) (D.ag [D.int IntKind.i64 p9, D.ifc (55 : Nat) (D.int IntKind.i64 (20 : Int))])))]
              [TV.ob true [TV.own true (4 : Nat) xs, TV.d false (0 : Nat) (D.int IntKind.i64 a)]]
          | x => none
        else none
      else
        if (0 : Int) ≤ a ∧ a < (34359738368 : Int) then
          match xs[Int.toNat a]? with
          | some (D.ag [D.int IntKind.i64 c11, D.str t12, D.int IntKind.i64 p13]) =>
            if (!c11 == (0 : Int)) = true then
              if small t12 ∧ digitsL (ByteArray.toList t12) then
                match valI (ByteArray.toList t12) (0 : Int) with
                | some n14 => k [TV.d false (0 : Nat) (D.int IntKind.i64 n14), TV.d false (0 : Nat) D.nili] [TV.ob true [TV.own true (4 : Nat) xs, TV.d false (0 : Nat) (D.int IntKind.i64 (a + (1 : Int)))]]
                | none => k [TV.d false (0 : Nat) (D.int IntKind.i64 (0 : Int)), TV.d false (0 : Nat) D.nili] [TV.ob true [TV.own true (4 : Nat) xs, TV.d false (0 : Nat) (D.int IntKind.i64 (a + (1 : Int)))]]
              else none
            else
              if small t12 ∧ digitsL (ByteArray.toList t12) then
                match valI (ByteArray.toList t12) (0 : Int) with
                | some n18 => k [TV.d false (0 : Nat) (D.int IntKind.i64 n18), TV.d false (0 : Nat) D.nili] [TV.ob true [TV.own true (4 : Nat) xs, TV.d false (0 : Nat) (D.int IntKind.i64 a)]]
                | none => k [TV.d false (0 : Nat) (D.int IntKind.i64 (0 : Int)), TV.d false (0 : Nat) D.nili] [TV.ob true [TV.own true (4 : Nat) xs, TV.d false (0 : Nat) (D.int IntKind.i64 a)]]
              else none
          | x => none
        else none
    | x => none
  else none := by kernel_rfl
end F16


end Go.Sd

/- Made by a program of the session's own (tools/gen_scan.py): what the functions of the scan laws come to, segment by segment. -/
import Derived.Test.YteogbcggkogjaaaDoorSa
set_option linter.unusedVariables false
set_option linter.unusedSimpArgs false
namespace Go.Sd
open Go Go.Cm Go.Proofs Go.Sc
set_option maxRecDepth 100000
namespace F25
/- rounds of the search: 1 -/
noncomputable def X : Fx := ⟨Tryd.prog, E25, 4, 1⟩
theorem start {β : Type} (c : Int) (k : List TV → List TV → Option β) : evalF Tryd.prog E25 Tryd.f25 [TV.d true (0 : Nat) (D.int IntKind.u8 c)] k =
    if (c == (95 : Int)) = true then k [TV.d false (0 : Nat) (D.bool true)] []
  else
    if decide (c ≥ (65 : Int)) = true then
      if decide (c ≤ (90 : Int)) = true then k [TV.d false (0 : Nat) (D.bool true)] []
      else if decide (c ≥ (97 : Int)) = true then k [TV.d false (0 : Nat) (D.bool (decide (c ≤ (122 : Int))))] [] else k [TV.d false (0 : Nat) (D.bool false)] []
    else if decide (c ≥ (97 : Int)) = true then k [TV.d false (0 : Nat) (D.bool (decide (c ≤ (122 : Int))))] [] else k [TV.d false (0 : Nat) (D.bool false)] [] := by kernel_rfl
end F25

namespace F26
/- rounds of the search: 1 -/
noncomputable def X : Fx := ⟨Tryd.prog, E25b, 4, 1⟩
theorem start {β : Type} (c : Int) (k : List TV → List TV → Option β) : evalF Tryd.prog E25b Tryd.f26 [TV.d true (0 : Nat) (D.int IntKind.u8 c)] k =
    if decide (c ≥ (48 : Int)) = true then k [TV.d false (0 : Nat) (D.bool (decide (c ≤ (57 : Int))))] [] else k [TV.d false (0 : Nat) (D.bool false)] [] := by kernel_rfl
end F26

namespace F22
/- rounds of the search: 3 -/
noncomputable def X : Fx := ⟨Tryd.prog, E26, 12, 1⟩
def s0 (s : ByteArray) (x12 : Int) (x13 : Int) : S := ⟨Tm.mk (26 : Nat) [((0 : Nat), V.d true (0 : Nat) (D.str s)), ((4 : Nat), V.d false (0 : Nat) (D.int IntKind.u64 x12)), ((5 : Nat), V.d false (0 : Nat) (D.int IntKind.i64 x13))], []⟩
def e0x0 (x30 : Int) : S := ⟨Tm.mk (26 : Nat) [((4 : Nat), V.d false (0 : Nat) (D.int IntKind.u64 x30))], []⟩
def e0r  : S := ⟨Tm.mk (26 : Nat) [((2 : Nat), V.d false (0 : Nat) (D.int IntKind.i64 (0 : Int))), ((3 : Nat), V.d false (0 : Nat) (D.bool false))], []⟩
noncomputable abbrev L0 : S → Option (S ⊕ (Ex × S)) := roundK X [((0 : Nat), (16 : Nat))] (sub [(1 : Nat), (1 : Nat), (0 : Nat), (1 : Nat), (0 : Nat), (0 : Nat)] (body Tryd.f22))
theorem start {β : Type} (s : ByteArray) (k : List TV → List TV → Option β) : evalF Tryd.prog E26 Tryd.f22 [TV.d true (0 : Nat) (D.str s)] k =
    goLp X [((0 : Nat), (16 : Nat))] (sub [(1 : Nat), (1 : Nat), (0 : Nat), (1 : Nat), (0 : Nat), (0 : Nat)] (body Tryd.f22))
    [Kf.block (0 : Nat) (16 : Nat), Kf.seq [] (sub [(1 : Nat), (1 : Nat), (1 : Nat)] (body Tryd.f22)) (12 : Nat)] (finK Tryd.prog Tryd.f22 [TV.d true (0 : Nat) (D.str s)] k) (s0 s (0 : Int) (0 : Int)) := by kernel_rfl
theorem round0 (s : ByteArray) (x12 : Int) (x13 : Int) : roundK X [((0 : Nat), (16 : Nat))] (sub [(1 : Nat), (1 : Nat), (0 : Nat), (1 : Nat), (0 : Nat), (0 : Nat)] (body Tryd.f22)) (s0 s x12 x13) =
    if decide (x13 < (↑(ByteArray.size s) : Int)) = true then
    if decide (x12 ≥ (1152921504606846976 : Int)) = true then some (Sum.inr (Ex.ret, e0r))
    else
      if (0 : Int) ≤ x13 then
        match s[Int.toNat x13]? with
        | some c44 =>
          some
            (Sum.inl
              (s0 s (IntKind.wrap IntKind.u64 (IntKind.wrap IntKind.u64 (x12 * (10 : Int)) + IntKind.wrap IntKind.u64 (IntKind.wrap IntKind.u8 ((↑(UInt8.toNat c44) : Int) - (48 : Int)))))
                (IntKind.wrap IntKind.i64 (x13 + (1 : Int)))))
        | none => none
      else none
  else some (Sum.inr (Ex.exit (0 : Nat), e0x0 x12)) := by kernel_rfl
theorem behind0x0 {β : Type} (s : ByteArray) (x30 : Int) (k : List TV → List TV → Option β) : applyK X (finK Tryd.prog Tryd.f22 [TV.d true (0 : Nat) (D.str s)] k) [Kf.block (0 : Nat) (16 : Nat), Kf.seq [] (sub [(1 : Nat), (1 : Nat), (1 : Nat)] (body Tryd.f22)) (12 : Nat)] (Ex.exit (0 : Nat)) (e0x0 x30) =
    if decide (x30 ≥ (9223372036854775808 : Int)) = true then k [TV.d false (0 : Nat) (D.int IntKind.i64 (0 : Int)), TV.d false (0 : Nat) (D.bool false)] []
  else k [TV.d false (0 : Nat) (D.int IntKind.i64 (IntKind.wrap IntKind.i64 x30)), TV.d false (0 : Nat) (D.bool true)] [] := by kernel_rfl
theorem behind0r {β : Type} (s : ByteArray) (k : List TV → List TV → Option β) : applyK X (finK Tryd.prog Tryd.f22 [TV.d true (0 : Nat) (D.str s)] k) [Kf.block (0 : Nat) (16 : Nat), Kf.seq [] (sub [(1 : Nat), (1 : Nat), (1 : Nat)] (body Tryd.f22)) (12 : Nat)] Ex.ret e0r =
    k [TV.d false (0 : Nat) (D.int IntKind.i64 (0 : Int)), TV.d false (0 : Nat) (D.bool false)] [] := by kernel_rfl
end F22

namespace F27
/- rounds of the search: 3 -/
noncomputable def X : Fx := ⟨Tryd.prog, E26b, 16, 2⟩
def s0 (s : ByteArray) (a : Int) (x11 : Int) : S := ⟨Tm.mk (45 : Nat)
    [((0 : Nat), V.d true (0 : Nat) (D.str s)), ((1 : Nat), V.d true (0 : Nat) (D.int IntKind.i64 a)),
      ((5 : Nat),
        V.own false (0 : Nat)
          [D.str (ByteArray.mk #[(45 : UInt8), (62 : UInt8)]), D.str (ByteArray.mk #[(60 : UInt8), (61 : UInt8)]), D.str (ByteArray.mk #[(62 : UInt8), (61 : UInt8)]), D.str (ByteArray.mk #[(33 : UInt8), (61 : UInt8)]),
            D.str (ByteArray.mk #[(61 : UInt8), (62 : UInt8)]), D.str (ByteArray.mk #[(46 : UInt8), (46 : UInt8)]), D.str (ByteArray.mk #[(91 : UInt8)]), D.str (ByteArray.mk #[(93 : UInt8)]),
            D.str (ByteArray.mk #[(40 : UInt8)]), D.str (ByteArray.mk #[(41 : UInt8)]), D.str (ByteArray.mk #[(58 : UInt8)]), D.str (ByteArray.mk #[(59 : UInt8)]), D.str (ByteArray.mk #[(44 : UInt8)]),
            D.str (ByteArray.mk #[(43 : UInt8)]), D.str (ByteArray.mk #[(45 : UInt8)]), D.str (ByteArray.mk #[(42 : UInt8)]), D.str (ByteArray.mk #[(38 : UInt8)]), D.str (ByteArray.mk #[(124 : UInt8)]),
            D.str (ByteArray.mk #[(33 : UInt8)]), D.str (ByteArray.mk #[(61 : UInt8)]), D.str (ByteArray.mk #[(60 : UInt8)]), D.str (ByteArray.mk #[(62 : UInt8)]), D.str (ByteArray.mk #[(63 : UInt8)]),
            D.str (ByteArray.mk #[(39 : UInt8)])]),
      ((6 : Nat), V.d false (0 : Nat) (D.int IntKind.i64 x11))], []⟩
def e0r (x47 : ByteArray) : S := ⟨Tm.mk (45 : Nat) [((4 : Nat), V.d false (0 : Nat) (D.str x47))], []⟩
def e0x0  : S := ⟨Tm.mk (45 : Nat) [], []⟩
noncomputable abbrev L0 : S → Option (S ⊕ (Ex × S)) := roundK X [((0 : Nat), (0 : Nat))] (sub [(1 : Nat), (1 : Nat), (0 : Nat), (1 : Nat), (0 : Nat), (0 : Nat)] (body Tryd.f27))
theorem start {β : Type} (s : ByteArray) (a : Int) (k : List TV → List TV → Option β) : evalF Tryd.prog E26b Tryd.f27 [TV.d true (0 : Nat) (D.str s), TV.d true (0 : Nat) (D.int IntKind.i64 a)] k =
    goLp X [((0 : Nat), (0 : Nat))] (sub [(1 : Nat), (1 : Nat), (0 : Nat), (1 : Nat), (0 : Nat), (0 : Nat)] (body Tryd.f27))
    [Kf.block (0 : Nat) (0 : Nat), Kf.seq [] (sub [(1 : Nat), (1 : Nat), (1 : Nat)] (body Tryd.f27)) (16 : Nat)] (finK Tryd.prog Tryd.f27 [TV.d true (0 : Nat) (D.str s), TV.d true (0 : Nat) (D.int IntKind.i64 a)] k)
    (s0 s a (0 : Int)) := by kernel_rfl
theorem round0 (s : ByteArray) (a : Int) (x11 : Int) : roundK X [((0 : Nat), (0 : Nat))] (sub [(1 : Nat), (1 : Nat), (0 : Nat), (1 : Nat), (0 : Nat), (0 : Nat)] (body Tryd.f27)) (s0 s a x11) =
    if decide (x11 < (24 : Int)) = true then
    if (0 : Int) ≤ x11 ∧ x11 < (24 : Int) then
      match
        [D.str (ByteArray.mk #[(45 : UInt8), (62 : UInt8)]), D.str (ByteArray.mk #[(60 : UInt8), (61 : UInt8)]), D.str (ByteArray.mk #[(62 : UInt8), (61 : UInt8)]), D.str (ByteArray.mk #[(33 : UInt8), (61 : UInt8)]),
            D.str (ByteArray.mk #[(61 : UInt8), (62 : UInt8)]), D.str (ByteArray.mk #[(46 : UInt8), (46 : UInt8)]), D.str (ByteArray.mk #[(91 : UInt8)]), D.str (ByteArray.mk #[(93 : UInt8)]),
            D.str (ByteArray.mk #[(40 : UInt8)]), D.str (ByteArray.mk #[(41 : UInt8)]), D.str (ByteArray.mk #[(58 : UInt8)]), D.str (ByteArray.mk #[(59 : UInt8)]), D.str (ByteArray.mk #[(44 : UInt8)]),
            D.str (ByteArray.mk #[(43 : UInt8)]), D.str (ByteArray.mk #[(45 : UInt8)]), D.str (ByteArray.mk #[(42 : UInt8)]), D.str (ByteArray.mk #[(38 : UInt8)]), D.str (ByteArray.mk #[(124 : UInt8)]),
            D.str (ByteArray.mk #[(33 : UInt8)]), D.str (ByteArray.mk #[(61 : UInt8)]), D.str (ByteArray.mk #[(60 : UInt8)]), D.str (ByteArray.mk #[(62 : UInt8)]), D.str (ByteArray.mk #[(63 : UInt8)]),
            D.str (ByteArray.mk #[(39 : UInt8)])][Int.toNat x11]? with
      | some x55 =>
        match x55 with
        | D.str s56 =>
          if decide (IntKind.wrap IntKind.i64 (a + (↑(ByteArray.size s56) : Int)) ≤ (↑(ByteArray.size s) : Int)) = true then
            if (0 : Int) ≤ x11 ∧ x11 < (24 : Int) then
              match
                [D.str (ByteArray.mk #[(45 : UInt8), (62 : UInt8)]), D.str (ByteArray.mk #[(60 : UInt8), (61 : UInt8)]), D.str (ByteArray.mk #[(62 : UInt8), (61 : UInt8)]),
                    D.str (ByteArray.mk #[(33 : UInt8), (61 : UInt8)]), D.str (ByteArray.mk #[(61 : UInt8), (62 : UInt8)]), D.str (ByteArray.mk #[(46 : UInt8), (46 : UInt8)]), D.str (ByteArray.mk #[(91 : UInt8)]),
                    D.str (ByteArray.mk #[(93 : UInt8)]), D.str (ByteArray.mk #[(40 : UInt8)]), D.str (ByteArray.mk #[(41 : UInt8)]), D.str (ByteArray.mk #[(58 : UInt8)]), D.str (ByteArray.mk #[(59 : UInt8)]),
                    D.str (ByteArray.mk #[(44 : UInt8)]), D.str (ByteArray.mk #[(43 : UInt8)]), D.str (ByteArray.mk #[(45 : UInt8)]), D.str (ByteArray.mk #[(42 : UInt8)]), D.str (ByteArray.mk #[(38 : UInt8)]),
                    D.str (ByteArray.mk #[(124 : UInt8)]), D.str (ByteArray.mk #[(33 : UInt8)]), D.str (ByteArray.mk #[(61 : UInt8)]), D.str (ByteArray.mk #[(60 : UInt8)]), D.str (ByteArray.mk #[(62 : UInt8)]),
                    D.str (ByteArray.mk #[(63 : UInt8)]), D.str (ByteArray.mk #[(39 : UInt8)])][Int.toNat x11]? with
              | some x57 =>
                match x57 with
                | D.str s58 =>
                  if
                      (0 : Int) ≤ IntKind.wrap IntKind.i64 (a + (↑(ByteArray.size s58) : Int)) ∧
                        IntKind.wrap IntKind.i64 (a + (↑(ByteArray.size s58) : Int)) ≤ (↑(ByteArray.size s) : Int) ∧ (0 : Int) ≤ a ∧ a ≤ IntKind.wrap IntKind.i64 (a + (↑(ByteArray.size s58) : Int)) then
                    if (0 : Int) ≤ x11 ∧ x11 < (24 : Int) then
                      match
                        [D.str (ByteArray.mk #[(45 : UInt8), (62 : UInt8)]), D.str (ByteArray.mk #[(60 : UInt8), (61 : UInt8)]), D.str (ByteArray.mk #[(62 : UInt8), (61 : UInt8)]),
                            D.str (ByteArray.mk #[(33 : UInt8), (61 : UInt8)]), D.str (ByteArray.mk #[(61 : UInt8), (62 : UInt8)]), D.str (ByteArray.mk #[(46 : UInt8), (46 : UInt8)]), D.str (ByteArray.mk #[(91 : UInt8)]),
                            D.str (ByteArray.mk #[(93 : UInt8)]), D.str (ByteArray.mk #[(40 : UInt8)]), D.str (ByteArray.mk #[(41 : UInt8)]), D.str (ByteArray.mk #[(58 : UInt8)]), D.str (ByteArray.mk #[(59 : UInt8)]),
                            D.str (ByteArray.mk #[(44 : UInt8)]), D.str (ByteArray.mk #[(43 : UInt8)]), D.str (ByteArray.mk #[(45 : UInt8)]), D.str (ByteArray.mk #[(42 : UInt8)]), D.str (ByteArray.mk #[(38 : UInt8)]),
                            D.str (ByteArray.mk #[(124 : UInt8)]), D.str (ByteArray.mk #[(33 : UInt8)]), D.str (ByteArray.mk #[(61 : UInt8)]), D.str (ByteArray.mk #[(60 : UInt8)]), D.str (ByteArray.mk #[(62 : UInt8)]),
                            D.str (ByteArray.mk #[(63 : UInt8)]), D.str (ByteArray.mk #[(39 : UInt8)])][Int.toNat x11]? with
                      | some x59 =>
                        match x59 with
                        | D.str s60 =>
                          if (ByteArray.toList (ByteArray.extract s (Int.toNat a) (Int.toNat (IntKind.wrap IntKind.i64 (a + (↑(ByteArray.size s58) : Int))))) == ByteArray.toList s60) = true then
                            if (0 : Int) ≤ x11 ∧ x11 < (24 : Int) then
                              match
                                [D.str (ByteArray.mk #[(45 : UInt8), (62 : UInt8)]), D.str (ByteArray.mk #[(60 : UInt8), (61 : UInt8)]), D.str (ByteArray.mk #[(62 : UInt8), (61 : UInt8)]),
                                    D.str (ByteArray.mk #[(33 : UInt8), (61 : UInt8)]), D.str (ByteArray.mk #[(61 : UInt8), (62 : UInt8)]), D.str (ByteArray.mk #[(46 : UInt8), (46 : UInt8)]),
                                    D.str (ByteArray.mk #[(91 : UInt8)]), D.str (ByteArray.mk #[(93 : UInt8)]), D.str (ByteArray.mk #[(40 : UInt8)]), D.str (ByteArray.mk #[(41 : UInt8)]),
                                    D.str (ByteArray.mk #[(58 : UInt8)]), D.str (ByteArray.mk #[(59 : UInt8)]), D.str (ByteArray.mk #[(44 : UInt8)]), D.str (ByteArray.mk #[(43 : UInt8)]),
                                    D.str (ByteArray.mk #[(45 : UInt8)]), D.str (ByteArray.mk #[(42 : UInt8)]), D.str (ByteArray.mk #[(38 : UInt8)]), D.str (ByteArray.mk #[(124 : UInt8)]),
                                    D.str (ByteArray.mk #[(33 : UInt8)]), D.str (ByteArray.mk #[(61 : UInt8)]), D.str (ByteArray.mk #[(60 : UInt8)]), D.str (ByteArray.mk #[(62 : UInt8)]),
                                    D.str (ByteArray.mk #[(63 : UInt8)]), D.str (ByteArray.mk #[(39 : UInt8)])][Int.toNat x11]? with
                              | some x63 =>
                                match x63 with
                                | D.str s64 => some (Sum.inr (Ex.ret, e0r s64))
                                | x => none
                              | none => none
                            else none
                          else some (Sum.inl (s0 s a (IntKind.wrap IntKind.i64 (x11 + (1 : Int)))))
                        | x => none
                      | none => none
                    else none
                  else none
                | x => none
              | none => none
            else none
          else some (Sum.inl (s0 s a (IntKind.wrap IntKind.i64 (x11 + (1 : Int)))))
        | x => none
      | none => none
    else none
  else some (Sum.inr (Ex.exit (0 : Nat), e0x0)) := by kernel_rfl
theorem behind0r {β : Type} (s : ByteArray) (a : Int) (x47 : ByteArray) (k : List TV → List TV → Option β) : applyK X (finK Tryd.prog Tryd.f27 [TV.d true (0 : Nat) (D.str s), TV.d true (0 : Nat) (D.int IntKind.i64 a)] k) [Kf.block (0 : Nat) (0 : Nat), Kf.seq [] (sub [(1 : Nat), (1 : Nat), (1 : Nat)] (body Tryd.f27)) (16 : Nat)]
    Ex.ret (e0r x47) =
    k [TV.d false (0 : Nat) (D.str x47)] [] := by kernel_rfl
theorem behind0x0 {β : Type} (s : ByteArray) (a : Int) (k : List TV → List TV → Option β) : applyK X (finK Tryd.prog Tryd.f27 [TV.d true (0 : Nat) (D.str s), TV.d true (0 : Nat) (D.int IntKind.i64 a)] k) [Kf.block (0 : Nat) (0 : Nat), Kf.seq [] (sub [(1 : Nat), (1 : Nat), (1 : Nat)] (body Tryd.f27)) (16 : Nat)]
    (Ex.exit (0 : Nat)) e0x0 =
    k [TV.d false (0 : Nat) (D.str (ByteArray.mk #[]))] [] := by kernel_rfl
end F27

namespace F11
/- rounds of the search: 4 -/
noncomputable def X : Fx := ⟨Tryd.prog, E27, 28, 1⟩
def s0 (s : ByteArray) (x43 : Int) (x44 : List D) : S := ⟨Tm.mk (219 : Nat) [((0 : Nat), V.d true (0 : Nat) (D.str s)), ((5 : Nat), V.own false (4 : Nat) x44), ((6 : Nat), V.d false (0 : Nat) (D.int IntKind.i64 x43))], []⟩
def s1 (s : ByteArray) (x52 : Int) (x148 : List D) : S := ⟨Tm.mk (219 : Nat) [((0 : Nat), V.d true (0 : Nat) (D.str s)), ((5 : Nat), V.own false (4 : Nat) x148), ((6 : Nat), V.d false (0 : Nat) (D.int IntKind.i64 x52))], []⟩
def s2 (s : ByteArray) (x65 : Int) (x239 : List D) (x240 : Int) : S := ⟨Tm.mk (219 : Nat) [((0 : Nat), V.d true (0 : Nat) (D.str s)), ((5 : Nat), V.own false (4 : Nat) x239), ((6 : Nat), V.d false (0 : Nat) (D.int IntKind.i64 x240)), ((8 : Nat), V.d false (0 : Nat) (D.int IntKind.i64 x65))], []⟩
def s3 (s : ByteArray) (x73 : Int) (x243 : List D) (x244 : Int) : S := ⟨Tm.mk (219 : Nat) [((0 : Nat), V.d true (0 : Nat) (D.str s)), ((5 : Nat), V.own false (4 : Nat) x243), ((6 : Nat), V.d false (0 : Nat) (D.int IntKind.i64 x244)), ((8 : Nat), V.d false (0 : Nat) (D.int IntKind.i64 x73))], []⟩
def s4 (s : ByteArray) (x89 : Int) (x248 : List D) (x249 : Int) : S := ⟨Tm.mk (219 : Nat) [((0 : Nat), V.d true (0 : Nat) (D.str s)), ((5 : Nat), V.own false (4 : Nat) x248), ((6 : Nat), V.d false (0 : Nat) (D.int IntKind.i64 x249)), ((8 : Nat), V.d false (0 : Nat) (D.int IntKind.i64 x89))], []⟩
def e0r (x163 : Int) (x289 : Int) : S := ⟨Tm.mk (219 : Nat) [((2 : Nat), V.own false (4 : Nat) []), ((3 : Nat), V.d false (0 : Nat) (D.int IntKind.i64 x163)), ((4 : Nat), V.d false (0 : Nat) (D.int IntKind.i64 x289))], []⟩
def e0x0 (s : ByteArray) (x162 : List D) : S := ⟨Tm.mk (219 : Nat) [((0 : Nat), V.d true (0 : Nat) (D.str s)), ((5 : Nat), V.own false (4 : Nat) x162)], []⟩
def e1x2 (s : ByteArray) (x171 : List D) (x172 : Int) : S := ⟨Tm.mk (219 : Nat) [((0 : Nat), V.d true (0 : Nat) (D.str s)), ((5 : Nat), V.own false (4 : Nat) x171), ((6 : Nat), V.d false (0 : Nat) (D.int IntKind.i64 x172))], []⟩
def e2x5 (s : ByteArray) (x185 : Int) (x309 : List D) (x310 : Int) : S := ⟨Tm.mk (219 : Nat) [((0 : Nat), V.d true (0 : Nat) (D.str s)), ((5 : Nat), V.own false (4 : Nat) x309), ((6 : Nat), V.d false (0 : Nat) (D.int IntKind.i64 x310)), ((8 : Nat), V.d false (0 : Nat) (D.int IntKind.i64 x185))], []⟩
def e3x7 (s : ByteArray) (x193 : Int) (x318 : List D) (x319 : Int) : S := ⟨Tm.mk (219 : Nat) [((0 : Nat), V.d true (0 : Nat) (D.str s)), ((5 : Nat), V.own false (4 : Nat) x318), ((6 : Nat), V.d false (0 : Nat) (D.int IntKind.i64 x319)), ((8 : Nat), V.d false (0 : Nat) (D.int IntKind.i64 x193))], []⟩
def e4x9 (s : ByteArray) (x209 : Int) (x335 : List D) (x336 : Int) : S := ⟨Tm.mk (219 : Nat) [((0 : Nat), V.d true (0 : Nat) (D.str s)), ((5 : Nat), V.own false (4 : Nat) x335), ((6 : Nat), V.d false (0 : Nat) (D.int IntKind.i64 x336)), ((8 : Nat), V.d false (0 : Nat) (D.int IntKind.i64 x209))], []⟩
def j0 (s : ByteArray) (x149 : List D) (x150 : Int) (x151 : Int) : S := ⟨Tm.mk (219 : Nat) [((0 : Nat), V.d true (0 : Nat) (D.str s)), ((5 : Nat), V.own false (4 : Nat) x149), ((6 : Nat), V.d false (0 : Nat) (D.int IntKind.i64 x150)), ((7 : Nat), V.d false (0 : Nat) (D.int IntKind.u8 x151))], []⟩
noncomputable abbrev L0 : S → Option (S ⊕ (Ex × S)) := roundK X [((0 : Nat), (33 : Nat))] (sub [(1 : Nat), (1 : Nat), (1 : Nat), (1 : Nat), (0 : Nat), (0 : Nat), (0 : Nat)] (body Tryd.f11))
noncomputable abbrev L1 : S → Option (S ⊕ (Ex × S)) := roundK X [((2 : Nat), (97 : Nat)), ((1 : Nat), (97 : Nat)), ((0 : Nat), (33 : Nat))]
    (sub [(1 : Nat), (1 : Nat), (1 : Nat), (1 : Nat), (0 : Nat), (0 : Nat), (0 : Nat), (1 : Nat), (0 : Nat), (1 : Nat), (1 : Nat), (0 : Nat), (1 : Nat), (0 : Nat), (0 : Nat), (0 : Nat), (0 : Nat)] (body Tryd.f11))
noncomputable abbrev L2 : S → Option (S ⊕ (Ex × S)) := roundK X [((5 : Nat), (353 : Nat)), ((4 : Nat), (289 : Nat)), ((1 : Nat), (97 : Nat)), ((0 : Nat), (33 : Nat))]
    (sub
      [(1 : Nat), (1 : Nat), (1 : Nat), (1 : Nat), (0 : Nat), (0 : Nat), (0 : Nat), (1 : Nat), (0 : Nat), (1 : Nat), (1 : Nat), (1 : Nat), (1 : Nat), (0 : Nat), (0 : Nat), (1 : Nat), (0 : Nat), (0 : Nat), (0 : Nat),
        (0 : Nat)]
      (body Tryd.f11))
noncomputable abbrev L3 : S → Option (S ⊕ (Ex × S)) := roundK X [((7 : Nat), (353 : Nat)), ((4 : Nat), (289 : Nat)), ((1 : Nat), (97 : Nat)), ((0 : Nat), (33 : Nat))]
    (sub
      [(1 : Nat), (1 : Nat), (1 : Nat), (1 : Nat), (0 : Nat), (0 : Nat), (0 : Nat), (1 : Nat), (0 : Nat), (1 : Nat), (1 : Nat), (1 : Nat), (1 : Nat), (0 : Nat), (0 : Nat), (1 : Nat), (1 : Nat), (1 : Nat), (0 : Nat),
        (0 : Nat), (0 : Nat), (0 : Nat)]
      (body Tryd.f11))
noncomputable abbrev L4 : S → Option (S ⊕ (Ex × S)) := roundK X [((9 : Nat), (353 : Nat)), ((4 : Nat), (289 : Nat)), ((1 : Nat), (97 : Nat)), ((0 : Nat), (33 : Nat))]
    (sub
      [(1 : Nat), (1 : Nat), (1 : Nat), (1 : Nat), (0 : Nat), (0 : Nat), (0 : Nat), (1 : Nat), (0 : Nat), (1 : Nat), (1 : Nat), (1 : Nat), (1 : Nat), (0 : Nat), (0 : Nat), (1 : Nat), (1 : Nat), (1 : Nat), (1 : Nat),
        (1 : Nat), (0 : Nat), (1 : Nat), (0 : Nat), (0 : Nat), (0 : Nat)]
      (body Tryd.f11))
theorem start {β : Type} (s : ByteArray) (k : List TV → List TV → Option β) : evalF Tryd.prog E27 Tryd.f11 [TV.d true (0 : Nat) (D.str s)] k =
    if decide ((↑(ByteArray.size s) : Int) > (65536 : Int)) = true then k [TV.own false (4 : Nat) [], TV.d false (0 : Nat) (D.int IntKind.i64 (2 : Int)), TV.d false (0 : Nat) (D.int IntKind.i64 (-1 : Int))] []
  else
    goLp X [((0 : Nat), (33 : Nat))] (sub [(1 : Nat), (1 : Nat), (1 : Nat), (1 : Nat), (0 : Nat), (0 : Nat), (0 : Nat)] (body Tryd.f11))
      [Kf.block (0 : Nat) (33 : Nat), Kf.seq [] (sub [(1 : Nat), (1 : Nat), (1 : Nat), (1 : Nat), (1 : Nat)] (body Tryd.f11)) (28 : Nat)] (finK Tryd.prog Tryd.f11 [TV.d true (0 : Nat) (D.str s)] k) (s0 s (0 : Int) []) := by kernel_rfl
theorem round0 (s : ByteArray) (x43 : Int) (x44 : List D) : roundK X [((0 : Nat), (33 : Nat))] (sub [(1 : Nat), (1 : Nat), (1 : Nat), (1 : Nat), (0 : Nat), (0 : Nat), (0 : Nat)] (body Tryd.f11)) (s0 s x43 x44) =
    if decide (x43 < (↑(ByteArray.size s) : Int)) = true then
    if (0 : Int) ≤ x43 then
      match s[Int.toNat x43]? with
      | some c387 =>
        if ((↑(UInt8.toNat c387) : Int) == (32 : Int)) = true then some (Sum.inl (s0 s (IntKind.wrap IntKind.i64 (x43 + (1 : Int))) x44))
        else
          if ((↑(UInt8.toNat c387) : Int) == (9 : Int)) = true then some (Sum.inl (s0 s (IntKind.wrap IntKind.i64 (x43 + (1 : Int))) x44))
          else
            if ((↑(UInt8.toNat c387) : Int) == (10 : Int)) = true then some (Sum.inl (s0 s (IntKind.wrap IntKind.i64 (x43 + (1 : Int))) x44))
            else
              if ((↑(UInt8.toNat c387) : Int) == (13 : Int)) = true then some (Sum.inl (s0 s (IntKind.wrap IntKind.i64 (x43 + (1 : Int))) x44))
              else
                if ((↑(UInt8.toNat c387) : Int) == (47 : Int)) = true then
                  if decide (IntKind.wrap IntKind.i64 (x43 + (1 : Int)) < (↑(ByteArray.size s) : Int)) = true then
                    if (0 : Int) ≤ IntKind.wrap IntKind.i64 (x43 + (1 : Int)) then
                      match s[Int.toNat (IntKind.wrap IntKind.i64 (x43 + (1 : Int)))]? with
                      | some c398 =>
                        if ((↑(UInt8.toNat c398) : Int) == (47 : Int)) = true then
                          goLp X [((2 : Nat), (97 : Nat)), ((1 : Nat), (97 : Nat)), ((0 : Nat), (33 : Nat))]
                            (sub [(1 : Nat), (1 : Nat), (1 : Nat), (1 : Nat), (0 : Nat), (0 : Nat), (0 : Nat), (1 : Nat), (0 : Nat), (1 : Nat), (1 : Nat), (0 : Nat), (1 : Nat), (0 : Nat), (0 : Nat), (0 : Nat), (0 : Nat)]
                              (body Tryd.f11))
                            [Kf.block (2 : Nat) (97 : Nat),
                              Kf.seq [((1 : Nat), (97 : Nat)), ((0 : Nat), (33 : Nat))]
                                (sub [(1 : Nat), (1 : Nat), (1 : Nat), (1 : Nat), (0 : Nat), (0 : Nat), (0 : Nat), (1 : Nat), (0 : Nat), (1 : Nat), (1 : Nat), (0 : Nat), (1 : Nat), (0 : Nat), (1 : Nat)] (body Tryd.f11))
                                (225 : Nat),
                              Kf.cond (225 : Nat),
                              Kf.seq [((1 : Nat), (97 : Nat)), ((0 : Nat), (33 : Nat))]
                                (sub [(1 : Nat), (1 : Nat), (1 : Nat), (1 : Nat), (0 : Nat), (0 : Nat), (0 : Nat), (1 : Nat), (0 : Nat), (1 : Nat), (1 : Nat), (1 : Nat)] (body Tryd.f11)) (97 : Nat),
                              Kf.block (1 : Nat) (97 : Nat)]
                            (finR X [((0 : Nat), (33 : Nat))] (sub [(1 : Nat), (1 : Nat), (1 : Nat), (1 : Nat), (0 : Nat), (0 : Nat), (0 : Nat)] (body Tryd.f11))) (s1 s x43 x44)
                        else
                          applyK X (finR X [((0 : Nat), (33 : Nat))] (sub [(1 : Nat), (1 : Nat), (1 : Nat), (1 : Nat), (0 : Nat), (0 : Nat), (0 : Nat)] (body Tryd.f11)))
                            [Kf.seq [((1 : Nat), (97 : Nat)), ((0 : Nat), (33 : Nat))]
                                (sub [(1 : Nat), (1 : Nat), (1 : Nat), (1 : Nat), (0 : Nat), (0 : Nat), (0 : Nat), (1 : Nat), (0 : Nat), (1 : Nat), (1 : Nat), (1 : Nat)] (body Tryd.f11)) (97 : Nat),
                              Kf.block (1 : Nat) (97 : Nat)]
                            Ex.norm (j0 s x44 x43 (↑(UInt8.toNat c387) : Int))
                      | none => none
                    else none
                  else
                    applyK X (finR X [((0 : Nat), (33 : Nat))] (sub [(1 : Nat), (1 : Nat), (1 : Nat), (1 : Nat), (0 : Nat), (0 : Nat), (0 : Nat)] (body Tryd.f11)))
                      [Kf.seq [((1 : Nat), (97 : Nat)), ((0 : Nat), (33 : Nat))]
                          (sub [(1 : Nat), (1 : Nat), (1 : Nat), (1 : Nat), (0 : Nat), (0 : Nat), (0 : Nat), (1 : Nat), (0 : Nat), (1 : Nat), (1 : Nat), (1 : Nat)] (body Tryd.f11)) (97 : Nat),
                        Kf.block (1 : Nat) (97 : Nat)]
                      Ex.norm (j0 s x44 x43 (↑(UInt8.toNat c387) : Int))
                else
                  applyK X (finR X [((0 : Nat), (33 : Nat))] (sub [(1 : Nat), (1 : Nat), (1 : Nat), (1 : Nat), (0 : Nat), (0 : Nat), (0 : Nat)] (body Tryd.f11)))
                    [Kf.seq [((1 : Nat), (97 : Nat)), ((0 : Nat), (33 : Nat))]
                        (sub [(1 : Nat), (1 : Nat), (1 : Nat), (1 : Nat), (0 : Nat), (0 : Nat), (0 : Nat), (1 : Nat), (0 : Nat), (1 : Nat), (1 : Nat), (1 : Nat)] (body Tryd.f11)) (97 : Nat),
                      Kf.block (1 : Nat) (97 : Nat)]
                    Ex.norm (j0 s x44 x43 (↑(UInt8.toNat c387) : Int))
      | none => none
    else none
  else some (Sum.inr (Ex.exit (0 : Nat), e0x0 s x44)) := by kernel_rfl
theorem round1 (s : ByteArray) (x52 : Int) (x148 : List D) : roundK X [((2 : Nat), (97 : Nat)), ((1 : Nat), (97 : Nat)), ((0 : Nat), (33 : Nat))]
    (sub [(1 : Nat), (1 : Nat), (1 : Nat), (1 : Nat), (0 : Nat), (0 : Nat), (0 : Nat), (1 : Nat), (0 : Nat), (1 : Nat), (1 : Nat), (0 : Nat), (1 : Nat), (0 : Nat), (0 : Nat), (0 : Nat), (0 : Nat)] (body Tryd.f11))
    (s1 s x52 x148) =
    if decide (x52 < (↑(ByteArray.size s) : Int)) = true then
    if (0 : Int) ≤ x52 then
      match s[Int.toNat x52]? with
      | some c411 => if (!(↑(UInt8.toNat c411) : Int) == (10 : Int)) = true then some (Sum.inl (s1 s (IntKind.wrap IntKind.i64 (x52 + (1 : Int))) x148)) else some (Sum.inr (Ex.exit (2 : Nat), e1x2 s x148 x52))
      | none => none
    else none
  else some (Sum.inr (Ex.exit (2 : Nat), e1x2 s x148 x52)) := by kernel_rfl
theorem round2 (s : ByteArray) (x65 : Int) (x239 : List D) (x240 : Int) : roundK X [((5 : Nat), (353 : Nat)), ((4 : Nat), (289 : Nat)), ((1 : Nat), (97 : Nat)), ((0 : Nat), (33 : Nat))]
    (sub
      [(1 : Nat), (1 : Nat), (1 : Nat), (1 : Nat), (0 : Nat), (0 : Nat), (0 : Nat), (1 : Nat), (0 : Nat), (1 : Nat), (1 : Nat), (1 : Nat), (1 : Nat), (0 : Nat), (0 : Nat), (1 : Nat), (0 : Nat), (0 : Nat), (0 : Nat),
        (0 : Nat)]
      (body Tryd.f11))
    (s2 s x65 x239 x240) =
    if decide (x65 < (↑(ByteArray.size s) : Int)) = true then
    if (0 : Int) ≤ x65 then
      match s[Int.toNat x65]? with
      | some c418 =>
        if letB (↑(UInt8.toNat c418) : Int) = true then some (Sum.inl (s2 s (IntKind.wrap IntKind.i64 (x65 + (1 : Int))) x239 x240))
        else
          if (0 : Int) ≤ x65 then
            match s[Int.toNat x65]? with
            | some c421 => if figB (↑(UInt8.toNat c421) : Int) = true then some (Sum.inl (s2 s (IntKind.wrap IntKind.i64 (x65 + (1 : Int))) x239 x240)) else some (Sum.inr (Ex.exit (5 : Nat), e2x5 s x65 x239 x240))
            | none => none
          else none
      | none => none
    else none
  else some (Sum.inr (Ex.exit (5 : Nat), e2x5 s x65 x239 x240)) := by kernel_rfl
theorem round3 (s : ByteArray) (x73 : Int) (x243 : List D) (x244 : Int) : roundK X [((7 : Nat), (353 : Nat)), ((4 : Nat), (289 : Nat)), ((1 : Nat), (97 : Nat)), ((0 : Nat), (33 : Nat))]
    (sub
      [(1 : Nat), (1 : Nat), (1 : Nat), (1 : Nat), (0 : Nat), (0 : Nat), (0 : Nat), (1 : Nat), (0 : Nat), (1 : Nat), (1 : Nat), (1 : Nat), (1 : Nat), (0 : Nat), (0 : Nat), (1 : Nat), (1 : Nat), (1 : Nat), (0 : Nat),
        (0 : Nat), (0 : Nat), (0 : Nat)]
      (body Tryd.f11))
    (s3 s x73 x243 x244) =
    if decide (x73 < (↑(ByteArray.size s) : Int)) = true then
    if (0 : Int) ≤ x73 then
      match s[Int.toNat x73]? with
      | some c430 => if figB (↑(UInt8.toNat c430) : Int) = true then some (Sum.inl (s3 s (IntKind.wrap IntKind.i64 (x73 + (1 : Int))) x243 x244)) else some (Sum.inr (Ex.exit (7 : Nat), e3x7 s x73 x243 x244))
      | none => none
    else none
  else some (Sum.inr (Ex.exit (7 : Nat), e3x7 s x73 x243 x244)) := by kernel_rfl
theorem round4 (s : ByteArray) (x89 : Int) (x248 : List D) (x249 : Int) : roundK X [((9 : Nat), (353 : Nat)), ((4 : Nat), (289 : Nat)), ((1 : Nat), (97 : Nat)), ((0 : Nat), (33 : Nat))]
    (sub
      [(1 : Nat), (1 : Nat), (1 : Nat), (1 : Nat), (0 : Nat), (0 : Nat), (0 : Nat), (1 : Nat), (0 : Nat), (1 : Nat), (1 : Nat), (1 : Nat), (1 : Nat), (0 : Nat), (0 : Nat), (1 : Nat), (1 : Nat), (1 : Nat), (1 : Nat),
        (1 : Nat), (0 : Nat), (1 : Nat), (0 : Nat), (0 : Nat), (0 : Nat)]
      (body Tryd.f11))
    (s4 s x89 x248 x249) =
    if decide (x89 < (↑(ByteArray.size s) : Int)) = true then
    if (0 : Int) ≤ x89 then
      match s[Int.toNat x89]? with
      | some c437 =>
        if (!(↑(UInt8.toNat c437) : Int) == (34 : Int)) = true then
          if (0 : Int) ≤ x89 then
            match s[Int.toNat x89]? with
            | some c438 =>
              if decide ((↑(UInt8.toNat c438) : Int) ≥ (32 : Int)) = true then
                if (0 : Int) ≤ x89 then
                  match s[Int.toNat x89]? with
                  | some c439 =>
                    if decide ((↑(UInt8.toNat c439) : Int) ≤ (126 : Int)) = true then some (Sum.inl (s4 s (IntKind.wrap IntKind.i64 (x89 + (1 : Int))) x248 x249))
                    else some (Sum.inr (Ex.exit (9 : Nat), e4x9 s x89 x248 x249))
                  | none => none
                else none
              else some (Sum.inr (Ex.exit (9 : Nat), e4x9 s x89 x248 x249))
            | none => none
          else none
        else some (Sum.inr (Ex.exit (9 : Nat), e4x9 s x89 x248 x249))
      | none => none
    else none
  else some (Sum.inr (Ex.exit (9 : Nat), e4x9 s x89 x248 x249)) := by kernel_rfl
theorem behind0r {β : Type} (s : ByteArray) (x163 : Int) (x289 : Int) (k : List TV → List TV → Option β) : applyK X (finK Tryd.prog Tryd.f11 [TV.d true (0 : Nat) (D.str s)] k) [Kf.block (0 : Nat) (33 : Nat), Kf.seq [] (sub [(1 : Nat), (1 : Nat), (1 : Nat), (1 : Nat), (1 : Nat)] (body Tryd.f11)) (28 : Nat)] Ex.ret
    (e0r x163 x289) =
    k [TV.own false (4 : Nat) [], TV.d false (0 : Nat) (D.int IntKind.i64 x163), TV.d false (0 : Nat) (D.int IntKind.i64 x289)] [] := by kernel_rfl
theorem behind0x0 {β : Type} (s : ByteArray) (x162 : List D) (k : List TV → List TV → Option β) : applyK X (finK Tryd.prog Tryd.f11 [TV.d true (0 : Nat) (D.str s)] k) [Kf.block (0 : Nat) (33 : Nat), Kf.seq [] (sub [(1 : Nat), (1 : Nat), (1 : Nat), (1 : Nat), (1 : Nat)] (body Tryd.f11)) (28 : Nat)] (Ex.exit (0 : Nat))
    (e0x0 s x162) =
    if List.length x162 + (1 : Nat) ≤ (34359738368 : Nat) then
    k
      [TV.own false (4 : Nat) (x162 ++ [D.ag [D.int IntKind.i64 (0 : Int), D.str (ByteArray.mk #[]), D.int IntKind.i64 (↑(ByteArray.size s) : Int)]]), TV.d false (0 : Nat) (D.int IntKind.i64 (0 : Int)),
        TV.d false (0 : Nat) (D.int IntKind.i64 (-1 : Int))]
      []
  else none := by kernel_rfl
theorem behind1x2 (s : ByteArray) (x171 : List D) (x172 : Int) : applyK X (finR X [((0 : Nat), (33 : Nat))] (sub [(1 : Nat), (1 : Nat), (1 : Nat), (1 : Nat), (0 : Nat), (0 : Nat), (0 : Nat)] (body Tryd.f11)))
    [Kf.block (2 : Nat) (97 : Nat),
      Kf.seq [((1 : Nat), (97 : Nat)), ((0 : Nat), (33 : Nat))]
        (sub [(1 : Nat), (1 : Nat), (1 : Nat), (1 : Nat), (0 : Nat), (0 : Nat), (0 : Nat), (1 : Nat), (0 : Nat), (1 : Nat), (1 : Nat), (0 : Nat), (1 : Nat), (0 : Nat), (1 : Nat)] (body Tryd.f11)) (225 : Nat),
      Kf.cond (225 : Nat),
      Kf.seq [((1 : Nat), (97 : Nat)), ((0 : Nat), (33 : Nat))] (sub [(1 : Nat), (1 : Nat), (1 : Nat), (1 : Nat), (0 : Nat), (0 : Nat), (0 : Nat), (1 : Nat), (0 : Nat), (1 : Nat), (1 : Nat), (1 : Nat)] (body Tryd.f11))
        (97 : Nat),
      Kf.block (1 : Nat) (97 : Nat)]
    (Ex.exit (2 : Nat)) (e1x2 s x171 x172) =
    some (Sum.inl (s0 s x172 x171)) := by kernel_rfl
theorem behind2x5 (s : ByteArray) (x185 : Int) (x309 : List D) (x310 : Int) : applyK X (finR X [((0 : Nat), (33 : Nat))] (sub [(1 : Nat), (1 : Nat), (1 : Nat), (1 : Nat), (0 : Nat), (0 : Nat), (0 : Nat)] (body Tryd.f11)))
    [Kf.block (5 : Nat) (353 : Nat),
      Kf.seq [((4 : Nat), (289 : Nat)), ((1 : Nat), (97 : Nat)), ((0 : Nat), (33 : Nat))]
        (sub [(1 : Nat), (1 : Nat), (1 : Nat), (1 : Nat), (0 : Nat), (0 : Nat), (0 : Nat), (1 : Nat), (0 : Nat), (1 : Nat), (1 : Nat), (1 : Nat), (1 : Nat), (0 : Nat), (0 : Nat), (1 : Nat), (0 : Nat), (1 : Nat)]
          (body Tryd.f11))
        (289 : Nat),
      Kf.cond (289 : Nat), Kf.block (4 : Nat) (289 : Nat),
      Kf.seq [((1 : Nat), (97 : Nat)), ((0 : Nat), (33 : Nat))]
        (sub [(1 : Nat), (1 : Nat), (1 : Nat), (1 : Nat), (0 : Nat), (0 : Nat), (0 : Nat), (1 : Nat), (0 : Nat), (1 : Nat), (1 : Nat), (1 : Nat), (1 : Nat), (1 : Nat)] (body Tryd.f11)) (97 : Nat),
      Kf.block (1 : Nat) (97 : Nat)]
    (Ex.exit (5 : Nat)) (e2x5 s x185 x309 x310) =
    if (0 : Int) ≤ x185 ∧ x185 ≤ (↑(ByteArray.size s) : Int) ∧ (0 : Int) ≤ x310 ∧ x310 ≤ x185 then
    if List.length x309 + (1 : Nat) ≤ (34359738368 : Nat) then
      some (Sum.inl (s0 s x185 (x309 ++ [D.ag [D.int IntKind.i64 (1 : Int), D.str (ByteArray.extract s (Int.toNat x310) (Int.toNat x185)), D.int IntKind.i64 x310]])))
    else none
  else none := by kernel_rfl
theorem behind3x7 (s : ByteArray) (x193 : Int) (x318 : List D) (x319 : Int) : applyK X (finR X [((0 : Nat), (33 : Nat))] (sub [(1 : Nat), (1 : Nat), (1 : Nat), (1 : Nat), (0 : Nat), (0 : Nat), (0 : Nat)] (body Tryd.f11)))
    [Kf.block (7 : Nat) (353 : Nat),
      Kf.seq [((4 : Nat), (289 : Nat)), ((1 : Nat), (97 : Nat)), ((0 : Nat), (33 : Nat))]
        (sub
          [(1 : Nat), (1 : Nat), (1 : Nat), (1 : Nat), (0 : Nat), (0 : Nat), (0 : Nat), (1 : Nat), (0 : Nat), (1 : Nat), (1 : Nat), (1 : Nat), (1 : Nat), (0 : Nat), (0 : Nat), (1 : Nat), (1 : Nat), (1 : Nat), (0 : Nat),
            (1 : Nat)]
          (body Tryd.f11))
        (289 : Nat),
      Kf.cond (289 : Nat), Kf.cond (289 : Nat), Kf.block (4 : Nat) (289 : Nat),
      Kf.seq [((1 : Nat), (97 : Nat)), ((0 : Nat), (33 : Nat))]
        (sub [(1 : Nat), (1 : Nat), (1 : Nat), (1 : Nat), (0 : Nat), (0 : Nat), (0 : Nat), (1 : Nat), (0 : Nat), (1 : Nat), (1 : Nat), (1 : Nat), (1 : Nat), (1 : Nat)] (body Tryd.f11)) (97 : Nat),
      Kf.block (1 : Nat) (97 : Nat)]
    (Ex.exit (7 : Nat)) (e3x7 s x193 x318 x319) =
    if (0 : Int) ≤ x193 ∧ x193 ≤ (↑(ByteArray.size s) : Int) ∧ (0 : Int) ≤ x319 ∧ x319 ≤ x193 then
    if small (ByteArray.extract s (Int.toNat x319) (Int.toNat x193)) then
      match valU (ByteArray.toList (ByteArray.extract s (Int.toNat x319) (Int.toNat x193))) (0 : Nat) with
      | some n455 =>
        if (0 : Int) ≤ x193 ∧ x193 ≤ (↑(ByteArray.size s) : Int) ∧ (0 : Int) ≤ x319 ∧ x319 ≤ x193 then
          if List.length x318 + (1 : Nat) ≤ (34359738368 : Nat) then
            some (Sum.inl (s0 s x193 (x318 ++ [D.ag [D.int IntKind.i64 (2 : Int), D.str (ByteArray.extract s (Int.toNat x319) (Int.toNat x193)), D.int IntKind.i64 x319]])))
          else none
        else none
      | none => some (Sum.inr (Ex.ret, e0r (10 : Int) x319))
    else none
  else none := by kernel_rfl
theorem behind4x9 (s : ByteArray) (x209 : Int) (x335 : List D) (x336 : Int) : applyK X (finR X [((0 : Nat), (33 : Nat))] (sub [(1 : Nat), (1 : Nat), (1 : Nat), (1 : Nat), (0 : Nat), (0 : Nat), (0 : Nat)] (body Tryd.f11)))
    [Kf.block (9 : Nat) (353 : Nat),
      Kf.seq [((4 : Nat), (289 : Nat)), ((1 : Nat), (97 : Nat)), ((0 : Nat), (33 : Nat))]
        (sub
          [(1 : Nat), (1 : Nat), (1 : Nat), (1 : Nat), (0 : Nat), (0 : Nat), (0 : Nat), (1 : Nat), (0 : Nat), (1 : Nat), (1 : Nat), (1 : Nat), (1 : Nat), (0 : Nat), (0 : Nat), (1 : Nat), (1 : Nat), (1 : Nat), (1 : Nat),
            (1 : Nat), (0 : Nat), (1 : Nat), (1 : Nat)]
          (body Tryd.f11))
        (289 : Nat),
      Kf.cond (289 : Nat), Kf.cond (289 : Nat), Kf.cond (289 : Nat), Kf.block (4 : Nat) (289 : Nat),
      Kf.seq [((1 : Nat), (97 : Nat)), ((0 : Nat), (33 : Nat))]
        (sub [(1 : Nat), (1 : Nat), (1 : Nat), (1 : Nat), (0 : Nat), (0 : Nat), (0 : Nat), (1 : Nat), (0 : Nat), (1 : Nat), (1 : Nat), (1 : Nat), (1 : Nat), (1 : Nat)] (body Tryd.f11)) (97 : Nat),
      Kf.block (1 : Nat) (97 : Nat)]
    (Ex.exit (9 : Nat)) (e4x9 s x209 x335 x336) =
    if decide (x209 ≥ (↑(ByteArray.size s) : Int)) = true then some (Sum.inr (Ex.ret, e0r (20 : Int) x336))
  else
    if (0 : Int) ≤ x209 then
      match s[Int.toNat x209]? with
      | some c467 =>
        if (!(↑(UInt8.toNat c467) : Int) == (34 : Int)) = true then some (Sum.inr (Ex.ret, e0r (20 : Int) x336))
        else
          if decide (IntKind.wrap IntKind.i64 (x209 - x336) < (2 : Int)) = true then some (Sum.inr (Ex.ret, e0r (20 : Int) x336))
          else
            if decide (IntKind.wrap IntKind.i64 (x209 - x336) > (33 : Int)) = true then some (Sum.inr (Ex.ret, e0r (20 : Int) x336))
            else
              if (0 : Int) ≤ x209 ∧ x209 ≤ (↑(ByteArray.size s) : Int) ∧ (0 : Int) ≤ IntKind.wrap IntKind.i64 (x336 + (1 : Int)) ∧ IntKind.wrap IntKind.i64 (x336 + (1 : Int)) ≤ x209 then
                if List.length x335 + (1 : Nat) ≤ (34359738368 : Nat) then
                  some
                    (Sum.inl
                      (s0 s (IntKind.wrap IntKind.i64 (x209 + (1 : Int)))
                        (x335 ++ [D.ag [D.int IntKind.i64 (3 : Int), D.str (ByteArray.extract s (Int.toNat (IntKind.wrap IntKind.i64 (x336 + (1 : Int)))) (Int.toNat x209)), D.int IntKind.i64 x336]])))
                else none
              else none
      | none => none
    else none := by kernel_rfl
theorem j0_eq (s : ByteArray) (x149 : List D) (x150 : Int) (x151 : Int) : applyK X (finR X [((0 : Nat), (33 : Nat))] (sub [(1 : Nat), (1 : Nat), (1 : Nat), (1 : Nat), (0 : Nat), (0 : Nat), (0 : Nat)] (body Tryd.f11)))
    [Kf.seq [((1 : Nat), (97 : Nat)), ((0 : Nat), (33 : Nat))] (sub [(1 : Nat), (1 : Nat), (1 : Nat), (1 : Nat), (0 : Nat), (0 : Nat), (0 : Nat), (1 : Nat), (0 : Nat), (1 : Nat), (1 : Nat), (1 : Nat)] (body Tryd.f11))
        (97 : Nat),
      Kf.block (1 : Nat) (97 : Nat)]
    Ex.norm (j0 s x149 x150 x151) =
    if letB x151 = true then
    goLp X [((5 : Nat), (353 : Nat)), ((4 : Nat), (289 : Nat)), ((1 : Nat), (97 : Nat)), ((0 : Nat), (33 : Nat))]
      (sub
        [(1 : Nat), (1 : Nat), (1 : Nat), (1 : Nat), (0 : Nat), (0 : Nat), (0 : Nat), (1 : Nat), (0 : Nat), (1 : Nat), (1 : Nat), (1 : Nat), (1 : Nat), (0 : Nat), (0 : Nat), (1 : Nat), (0 : Nat), (0 : Nat), (0 : Nat),
          (0 : Nat)]
        (body Tryd.f11))
      [Kf.block (5 : Nat) (353 : Nat),
        Kf.seq [((4 : Nat), (289 : Nat)), ((1 : Nat), (97 : Nat)), ((0 : Nat), (33 : Nat))]
          (sub [(1 : Nat), (1 : Nat), (1 : Nat), (1 : Nat), (0 : Nat), (0 : Nat), (0 : Nat), (1 : Nat), (0 : Nat), (1 : Nat), (1 : Nat), (1 : Nat), (1 : Nat), (0 : Nat), (0 : Nat), (1 : Nat), (0 : Nat), (1 : Nat)]
            (body Tryd.f11))
          (289 : Nat),
        Kf.cond (289 : Nat), Kf.block (4 : Nat) (289 : Nat),
        Kf.seq [((1 : Nat), (97 : Nat)), ((0 : Nat), (33 : Nat))]
          (sub [(1 : Nat), (1 : Nat), (1 : Nat), (1 : Nat), (0 : Nat), (0 : Nat), (0 : Nat), (1 : Nat), (0 : Nat), (1 : Nat), (1 : Nat), (1 : Nat), (1 : Nat), (1 : Nat)] (body Tryd.f11)) (97 : Nat),
        Kf.block (1 : Nat) (97 : Nat)]
      (finR X [((0 : Nat), (33 : Nat))] (sub [(1 : Nat), (1 : Nat), (1 : Nat), (1 : Nat), (0 : Nat), (0 : Nat), (0 : Nat)] (body Tryd.f11))) (s2 s x150 x149 x150)
  else
    if figB x151 = true then
      goLp X [((7 : Nat), (353 : Nat)), ((4 : Nat), (289 : Nat)), ((1 : Nat), (97 : Nat)), ((0 : Nat), (33 : Nat))]
        (sub
          [(1 : Nat), (1 : Nat), (1 : Nat), (1 : Nat), (0 : Nat), (0 : Nat), (0 : Nat), (1 : Nat), (0 : Nat), (1 : Nat), (1 : Nat), (1 : Nat), (1 : Nat), (0 : Nat), (0 : Nat), (1 : Nat), (1 : Nat), (1 : Nat), (0 : Nat),
            (0 : Nat), (0 : Nat), (0 : Nat)]
          (body Tryd.f11))
        [Kf.block (7 : Nat) (353 : Nat),
          Kf.seq [((4 : Nat), (289 : Nat)), ((1 : Nat), (97 : Nat)), ((0 : Nat), (33 : Nat))]
            (sub
              [(1 : Nat), (1 : Nat), (1 : Nat), (1 : Nat), (0 : Nat), (0 : Nat), (0 : Nat), (1 : Nat), (0 : Nat), (1 : Nat), (1 : Nat), (1 : Nat), (1 : Nat), (0 : Nat), (0 : Nat), (1 : Nat), (1 : Nat), (1 : Nat),
                (0 : Nat), (1 : Nat)]
              (body Tryd.f11))
            (289 : Nat),
          Kf.cond (289 : Nat), Kf.cond (289 : Nat), Kf.block (4 : Nat) (289 : Nat),
          Kf.seq [((1 : Nat), (97 : Nat)), ((0 : Nat), (33 : Nat))]
            (sub [(1 : Nat), (1 : Nat), (1 : Nat), (1 : Nat), (0 : Nat), (0 : Nat), (0 : Nat), (1 : Nat), (0 : Nat), (1 : Nat), (1 : Nat), (1 : Nat), (1 : Nat), (1 : Nat)] (body Tryd.f11)) (97 : Nat),
          Kf.block (1 : Nat) (97 : Nat)]
        (finR X [((0 : Nat), (33 : Nat))] (sub [(1 : Nat), (1 : Nat), (1 : Nat), (1 : Nat), (0 : Nat), (0 : Nat), (0 : Nat)] (body Tryd.f11))) (s3 s x150 x149 x150)
    else
      if (x151 == (34 : Int)) = true then
        goLp X [((9 : Nat), (353 : Nat)), ((4 : Nat), (289 : Nat)), ((1 : Nat), (97 : Nat)), ((0 : Nat), (33 : Nat))]
          (sub
            [(1 : Nat), (1 : Nat), (1 : Nat), (1 : Nat), (0 : Nat), (0 : Nat), (0 : Nat), (1 : Nat), (0 : Nat), (1 : Nat), (1 : Nat), (1 : Nat), (1 : Nat), (0 : Nat), (0 : Nat), (1 : Nat), (1 : Nat), (1 : Nat), (1 : Nat),
              (1 : Nat), (0 : Nat), (1 : Nat), (0 : Nat), (0 : Nat), (0 : Nat)]
            (body Tryd.f11))
          [Kf.block (9 : Nat) (353 : Nat),
            Kf.seq [((4 : Nat), (289 : Nat)), ((1 : Nat), (97 : Nat)), ((0 : Nat), (33 : Nat))]
              (sub
                [(1 : Nat), (1 : Nat), (1 : Nat), (1 : Nat), (0 : Nat), (0 : Nat), (0 : Nat), (1 : Nat), (0 : Nat), (1 : Nat), (1 : Nat), (1 : Nat), (1 : Nat), (0 : Nat), (0 : Nat), (1 : Nat), (1 : Nat), (1 : Nat),
                  (1 : Nat), (1 : Nat), (0 : Nat), (1 : Nat), (1 : Nat)]
                (body Tryd.f11))
              (289 : Nat),
            Kf.cond (289 : Nat), Kf.cond (289 : Nat), Kf.cond (289 : Nat), Kf.block (4 : Nat) (289 : Nat),
            Kf.seq [((1 : Nat), (97 : Nat)), ((0 : Nat), (33 : Nat))]
              (sub [(1 : Nat), (1 : Nat), (1 : Nat), (1 : Nat), (0 : Nat), (0 : Nat), (0 : Nat), (1 : Nat), (0 : Nat), (1 : Nat), (1 : Nat), (1 : Nat), (1 : Nat), (1 : Nat)] (body Tryd.f11)) (97 : Nat),
            Kf.block (1 : Nat) (97 : Nat)]
          (finR X [((0 : Nat), (33 : Nat))] (sub [(1 : Nat), (1 : Nat), (1 : Nat), (1 : Nat), (0 : Nat), (0 : Nat), (0 : Nat)] (body Tryd.f11))) (s4 s (IntKind.wrap IntKind.i64 (x150 + (1 : Int))) x149 x150)
      else
        if inS s x150 then
          if (ByteArray.toList (B (signL (List.drop (Int.toNat x150) (ByteArray.toList s)))) == []) = true then some (Sum.inr (Ex.ret, e0r (20 : Int) x150))
          else
            if List.length x149 + (1 : Nat) ≤ (34359738368 : Nat) then
              some
                (Sum.inl
                  (s0 s (IntKind.wrap IntKind.i64 (x150 + (↑(ByteArray.size (B (signL (List.drop (Int.toNat x150) (ByteArray.toList s))))) : Int)))
                    (x149 ++ [D.ag [D.int IntKind.i64 (4 : Int), D.str (B (signL (List.drop (Int.toNat x150) (ByteArray.toList s)))), D.int IntKind.i64 x150]])))
            else none
        else none := by kernel_rfl
end F11

namespace F9
/- rounds of the search: 1 -/
noncomputable def X : Fx := ⟨Tryd.prog, E29, 1, 0⟩
theorem start {β : Type}  (k : List TV → List TV → Option β) : evalF Tryd.prog E29 Tryd.f9 [] k =
    match tokS [(120 : UInt8), (39 : UInt8), (61 : UInt8), (120 : UInt8), (43 : UInt8), (49 : UInt8)] with
  | Sum.inl (n2, p3) =>
    match tokS [(97 : UInt8), (32 : UInt8), (36 : UInt8)] with
    | Sum.inl (n5, p6) => k [TV.d false (0 : Nat) (D.bool false)] []
    | Sum.inr l8 => k [TV.d false (0 : Nat) (D.bool false)] []
  | Sum.inr l10 =>
    match tokS [(97 : UInt8), (32 : UInt8), (36 : UInt8)] with
    | Sum.inl (n12, p13) =>
      if ((↑(List.length (List.map tokT l10)) : Int) == (7 : Int)) = true then
        if (0 : Int) ≤ (1 : Int) ∧ (1 : Int) < (↑(List.length (List.map tokT l10)) : Int) then
          match (List.map tokT l10)[(1 : Nat)]? with
          | some x15 =>
            match
              match x15 with
              | D.ag xs => xs[(1 : Nat)]?
              | x => none with
            | some y16 =>
              match y16 with
              | D.str s17 =>
                if (ByteArray.toList s17 == [(39 : UInt8)]) = true then
                  if (0 : Int) ≤ (5 : Int) ∧ (5 : Int) < (↑(List.length (List.map tokT l10)) : Int) then
                    match (List.map tokT l10)[(5 : Nat)]? with
                    | some x18 =>
                      match
                        match x18 with
                        | D.ag xs => xs[(0 : Nat)]?
                        | x => none with
                      | some y19 =>
                        match y19 with
                        | D.int j20 m21 =>
                          if j20 = IntKind.i64 then
                            if (m21 == (2 : Int)) = true then
                              if (0 : Int) ≤ (6 : Int) ∧ (6 : Int) < (↑(List.length (List.map tokT l10)) : Int) then
                                match (List.map tokT l10)[(6 : Nat)]? with
                                | some x22 =>
                                  match
                                    match x22 with
                                    | D.ag xs => xs[(2 : Nat)]?
                                    | x => none with
                                  | some y23 =>
                                    match y23 with
                                    | D.int j24 m25 =>
                                      if j24 = IntKind.i64 then
                                        if (m25 == (6 : Int)) = true then if (n12 == (20 : Int)) = true then k [TV.d false (0 : Nat) (D.bool ((↑p13 : Int) == (2 : Int)))] [] else k [TV.d false (0 : Nat) (D.bool false)] []
                                        else k [TV.d false (0 : Nat) (D.bool false)] []
                                      else none
                                    | x => none
                                  | none => none
                                | none => none
                              else none
                            else k [TV.d false (0 : Nat) (D.bool false)] []
                          else none
                        | x => none
                      | none => none
                    | none => none
                  else none
                else k [TV.d false (0 : Nat) (D.bool false)] []
              | x => none
            | none => none
          | none => none
        else none
      else k [TV.d false (0 : Nat) (D.bool false)] []
    | Sum.inr l26 =>
      if ((↑(List.length (List.map tokT l10)) : Int) == (7 : Int)) = true then
        if (0 : Int) ≤ (1 : Int) ∧ (1 : Int) < (↑(List.length (List.map tokT l10)) : Int) then
          match (List.map tokT l10)[(1 : Nat)]? with
          | some x28 =>
            match
              match x28 with
              | D.ag xs => xs[(1 : Nat)]?
              | x => none with
            | some y29 =>
              match y29 with
              | D.str s30 =>
                if (ByteArray.toList s30 == [(39 : UInt8)]) = true then
                  if (0 : Int) ≤ (5 : Int) ∧ (5 : Int) < (↑(List.length (List.map tokT l10)) : Int) then
                    match (List.map tokT l10)[(5 : Nat)]? with
                    | some x31 =>
                      match
                        match x31 with
                        | D.ag xs => xs[(0 : Nat)]?
                        | x => none with
                      | some y32 =>
                        match y32 with
                        | D.int j33 m34 =>
                          if j33 = IntKind.i64 then
                            if (m34 == (2 : Int)) = true then
                              if (0 : Int) ≤ (6 : Int) ∧ (6 : Int) < (↑(List.length (List.map tokT l10)) : Int) then
                                match (List.map tokT l10)[(6 : Nat)]? with
                                | some x35 =>
                                  match
                                    match x35 with
                                    | D.ag xs => xs[(2 : Nat)]?
                                    | x => none with
                                  | some y36 =>
                                    match y36 with
                                    | D.int j37 m38 => if j37 = IntKind.i64 then if (m38 == (6 : Int)) = true then k [TV.d false (0 : Nat) (D.bool false)] [] else k [TV.d false (0 : Nat) (D.bool false)] [] else none
                                    | x => none
                                  | none => none
                                | none => none
                              else none
                            else k [TV.d false (0 : Nat) (D.bool false)] []
                          else none
                        | x => none
                      | none => none
                    | none => none
                  else none
                else k [TV.d false (0 : Nat) (D.bool false)] []
              | x => none
            | none => none
          | none => none
        else none
      else k [TV.d false (0 : Nat) (D.bool false)] [] := by kernel_rfl
end F9


end Go.Sd

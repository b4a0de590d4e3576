/- Made by a program of the session's own (tools/gen_scan.py): what the functions of the scan laws come to, segment by segment. -/
import Derived.Test.YteogbcggkogjaaaDoorSa
set_option linter.unusedVariables false
set_option linter.unusedSimpArgs false
namespace Go.Sd
open Go Go.Cm Go.Proofs Go.Sc
set_option maxRecDepth 100000
namespace F4
/- rounds of the search: 3 -/
noncomputable def X : Fx := ⟨Tryd.prog, E30, 4, 1⟩
def s0 (s : ByteArray) (x79 : Int) (x80 : ByteArray) (x81 : Int) (x130 : List D) : S := ⟨tmS 141 [(0, V.d true (0 : Nat) (D.str s)), (3, V.own false (4 : Nat) x130), (5, V.d false (0 : Nat) (D.int IntKind.i64 x79)), (6, V.d false (0 : Nat) (D.str x80)), (7, V.d false (0 : Nat) (D.int IntKind.i64 x81))], []⟩
def s1 (x233 : Int) (x253 : List D) (x254 : List D) : S := ⟨tmS 141 [(3, V.own false (4 : Nat) x253), (10, V.own false (4 : Nat) x254), (12, V.d false (0 : Nat) (D.int IntKind.i64 x233))], []⟩
def e0r  : S := ⟨tmS 141 [(2, V.d false (0 : Nat) (D.bool false))], []⟩
def e0x0 (x183 : List D) (x184 : ByteArray) : S := ⟨tmS 141 [(3, V.own false (4 : Nat) x183), (6, V.d false (0 : Nat) (D.str x184))], []⟩
def e1r  : S := ⟨tmS 141 [(2, V.d false (0 : Nat) (D.bool false))], []⟩
def e1x2  : S := ⟨tmS 141 [], []⟩
def j0 (s : ByteArray) (x152 : List D) (x153 : Int) (x154 : ByteArray) (x155 : Int) (x156 : ByteArray) (x157 : Int) (x158 : ByteArray) (x159 : Int) : S := ⟨tmS 141 [(0, V.d true (0 : Nat) (D.str s)), (3, V.own false (4 : Nat) x152), (5, V.d false (0 : Nat) (D.int IntKind.i64 x153)), (6, V.d false (0 : Nat) (D.str x154)), (7, V.d false (0 : Nat) (D.int IntKind.i64 x155)), (8, V.rp (9 : Nat) (0 : Nat)), (9, V.d false (0 : Nat) (D.str x156))], [((9 : Nat), true, [V.d false (0 : Nat) (D.int IntKind.i64 x157), V.d false (0 : Nat) (D.str x158), V.d false (0 : Nat) (D.int IntKind.i64 x159)])]⟩
noncomputable abbrev L0 : S → Option (S ⊕ (Ex × S)) := roundK X [((0 : Nat), (72 : Nat))] (sub [(1 : Nat), (1 : Nat), (1 : Nat), (1 : Nat), (1 : Nat), (1 : Nat), (1 : Nat), (0 : Nat), (1 : Nat), (0 : Nat), (0 : Nat)] (body Tryd.f4))
noncomputable abbrev L1 : S → Option (S ⊕ (Ex × S)) := roundK X [((2 : Nat), (0 : Nat))] (sub [(1 : Nat), (1 : Nat), (1 : Nat), (1 : Nat), (1 : Nat), (1 : Nat), (1 : Nat), (1 : Nat), (1 : Nat), (1 : Nat), (1 : Nat), (0 : Nat), (1 : Nat), (0 : Nat), (0 : Nat)] (body Tryd.f4))
theorem start {β : Type} (s : ByteArray) (k : List TV → List TV → Option β) : evalF Tryd.prog E30 Tryd.f4 [TV.d true (0 : Nat) (D.str s)] k =
    if decide ((↑(ByteArray.size s) : Int) > (3000 : Int)) = true then k [TV.d false (0 : Nat) (D.bool true)] []
  else
    match Nat.ble (ByteArray.size s) (65536 : Nat) with
    | false => k [TV.d false (0 : Nat) (D.bool true)] []
    | true =>
      match tokS (ByteArray.toList s) with
      | Sum.inl (n280, p281) => k [TV.d false (0 : Nat) (D.bool true)] []
      | Sum.inr l285 =>
        goLp X [((0 : Nat), (72 : Nat))] (sub [(1 : Nat), (1 : Nat), (1 : Nat), (1 : Nat), (1 : Nat), (1 : Nat), (1 : Nat), (0 : Nat), (1 : Nat), (0 : Nat), (0 : Nat)] (body Tryd.f4))
          [Kf.block (0 : Nat) (72 : Nat), Kf.seq [] (sub [(1 : Nat), (1 : Nat), (1 : Nat), (1 : Nat), (1 : Nat), (1 : Nat), (1 : Nat), (1 : Nat)] (body Tryd.f4)) (4 : Nat)]
          (finK Tryd.prog Tryd.f4 [TV.d true (0 : Nat) (D.str s)] k) (s0 s (0 : Int) { data := #[] } (0 : Int) (List.map tokT l285)) := by kernel_rfl
theorem round0 (s : ByteArray) (x79 : Int) (x80 : ByteArray) (x81 : Int) (x130 : List D) : roundK X [((0 : Nat), (72 : Nat))] (sub [(1 : Nat), (1 : Nat), (1 : Nat), (1 : Nat), (1 : Nat), (1 : Nat), (1 : Nat), (0 : Nat), (1 : Nat), (0 : Nat), (0 : Nat)] (body Tryd.f4)) (s0 s x79 x80 x81 x130) =
    if decide (x81 < (↑(List.length x130) : Int)) = true then
    if (0 : Int) ≤ x81 ∧ x81 < (↑(List.length x130) : Int) then
      match x130[Int.toNat x81]? with
      | some x294 =>
        match x294 with
        | D.ag xs295 =>
          match xs295 with
          | x296 :: r297 =>
            match x296 with
            | D.int j298 m299 =>
              if j298 = IntKind.i64 then
                match r297 with
                | x300 :: r301 =>
                  match x300 with
                  | D.str s302 =>
                    match r301 with
                    | x303 :: r304 =>
                      match x303 with
                      | D.int j305 m306 =>
                        if j305 = IntKind.i64 then
                          match r304 with
                          | [] =>
                            if (m299 == (3 : Int)) = true then
                              if (1 : Nat) + ByteArray.size s302 ≤ (9223372036854775807 : Nat) then
                                if ByteArray.size ({ data := #[(34 : UInt8)] } ++ s302) + (1 : Nat) ≤ (9223372036854775807 : Nat) then
                                  applyK X (finR X [((0 : Nat), (72 : Nat))] (sub [(1 : Nat), (1 : Nat), (1 : Nat), (1 : Nat), (1 : Nat), (1 : Nat), (1 : Nat), (0 : Nat), (1 : Nat), (0 : Nat), (0 : Nat)] (body Tryd.f4)))
                                    [Kf.seq [((1 : Nat), (233 : Nat)), ((0 : Nat), (72 : Nat))]
                                        (sub
                                          [(1 : Nat), (1 : Nat), (1 : Nat), (1 : Nat), (1 : Nat), (1 : Nat), (1 : Nat), (0 : Nat), (1 : Nat), (0 : Nat), (0 : Nat), (1 : Nat), (0 : Nat), (0 : Nat), (1 : Nat), (1 : Nat),
                                            (1 : Nat)]
                                          (body Tryd.f4))
                                        (233 : Nat),
                                      Kf.block (1 : Nat) (233 : Nat),
                                      Kf.seq [((0 : Nat), (72 : Nat))]
                                        (sub [(1 : Nat), (1 : Nat), (1 : Nat), (1 : Nat), (1 : Nat), (1 : Nat), (1 : Nat), (0 : Nat), (1 : Nat), (0 : Nat), (0 : Nat), (1 : Nat), (1 : Nat)] (body Tryd.f4)) (233 : Nat)]
                                    Ex.norm (j0 s x130 x79 x80 x81 ({ data := #[(34 : UInt8)] } ++ s302 ++ { data := #[(34 : UInt8)] }) m299 s302 m306)
                                else none
                              else none
                            else
                              applyK X (finR X [((0 : Nat), (72 : Nat))] (sub [(1 : Nat), (1 : Nat), (1 : Nat), (1 : Nat), (1 : Nat), (1 : Nat), (1 : Nat), (0 : Nat), (1 : Nat), (0 : Nat), (0 : Nat)] (body Tryd.f4)))
                                [Kf.seq [((1 : Nat), (233 : Nat)), ((0 : Nat), (72 : Nat))]
                                    (sub
                                      [(1 : Nat), (1 : Nat), (1 : Nat), (1 : Nat), (1 : Nat), (1 : Nat), (1 : Nat), (0 : Nat), (1 : Nat), (0 : Nat), (0 : Nat), (1 : Nat), (0 : Nat), (0 : Nat), (1 : Nat), (1 : Nat),
                                        (1 : Nat)]
                                      (body Tryd.f4))
                                    (233 : Nat),
                                  Kf.block (1 : Nat) (233 : Nat),
                                  Kf.seq [((0 : Nat), (72 : Nat))]
                                    (sub [(1 : Nat), (1 : Nat), (1 : Nat), (1 : Nat), (1 : Nat), (1 : Nat), (1 : Nat), (0 : Nat), (1 : Nat), (0 : Nat), (0 : Nat), (1 : Nat), (1 : Nat)] (body Tryd.f4)) (233 : Nat)]
                                Ex.norm (j0 s x130 x79 x80 x81 s302 m299 s302 m306)
                          | x => none
                        else none
                      | x => none
                    | [] => none
                  | x => none
                | [] => none
              else none
            | x => none
          | [] => none
        | x => none
      | none => none
    else none
  else some (Sum.inr (Ex.exit (0 : Nat), e0x0 x130 x80)) := by kernel_rfl
theorem round1 (x233 : Int) (x253 : List D) (x254 : List D) : roundK X [((2 : Nat), (0 : Nat))] (sub [(1 : Nat), (1 : Nat), (1 : Nat), (1 : Nat), (1 : Nat), (1 : Nat), (1 : Nat), (1 : Nat), (1 : Nat), (1 : Nat), (1 : Nat), (0 : Nat), (1 : Nat), (0 : Nat), (0 : Nat)] (body Tryd.f4))
    (s1 x233 x253 x254) =
    if decide (x233 < (↑(List.length x253) : Int)) = true then
    if (0 : Int) ≤ x233 ∧ x233 < (↑(List.length x254) : Int) then
      match x254[Int.toNat x233]? with
      | some x338 =>
        match
          match x338 with
          | D.ag xs => xs[(0 : Nat)]?
          | x => none with
        | some y339 =>
          match y339 with
          | D.int j340 m341 =>
            if j340 = IntKind.i64 then
              if (0 : Int) ≤ x233 ∧ x233 < (↑(List.length x253) : Int) then
                match x253[Int.toNat x233]? with
                | some x342 =>
                  match
                    match x342 with
                    | D.ag xs => xs[(0 : Nat)]?
                    | x => none with
                  | some y343 =>
                    match y343 with
                    | D.int j344 m345 =>
                      if j344 = IntKind.i64 then
                        if (!m341 == m345) = true then some (Sum.inr (Ex.ret, e1r))
                        else
                          if (0 : Int) ≤ x233 ∧ x233 < (↑(List.length x254) : Int) then
                            match x254[Int.toNat x233]? with
                            | some x348 =>
                              match
                                match x348 with
                                | D.ag xs => xs[(1 : Nat)]?
                                | x => none with
                              | some y349 =>
                                match y349 with
                                | D.str s350 =>
                                  if (0 : Int) ≤ x233 ∧ x233 < (↑(List.length x253) : Int) then
                                    match x253[Int.toNat x233]? with
                                    | some x351 =>
                                      match
                                        match x351 with
                                        | D.ag xs => xs[(1 : Nat)]?
                                        | x => none with
                                      | some y352 =>
                                        match y352 with
                                        | D.str s353 =>
                                          if (!ByteArray.toList s350 == ByteArray.toList s353) = true then some (Sum.inr (Ex.ret, e1r)) else some (Sum.inl (s1 (IntKind.wrap IntKind.i64 (x233 + (1 : Int))) x253 x254))
                                        | x => none
                                      | none => none
                                    | none => none
                                  else none
                                | x => none
                              | none => none
                            | none => none
                          else none
                      else none
                    | x => none
                  | none => none
                | none => none
              else none
            else none
          | x => none
        | none => none
      | none => none
    else none
  else some (Sum.inr (Ex.exit (2 : Nat), e1x2)) := by kernel_rfl
theorem behind0r {β : Type} (s : ByteArray) (k : List TV → List TV → Option β) : applyK X (finK Tryd.prog Tryd.f4 [TV.d true (0 : Nat) (D.str s)] k)
    [Kf.block (0 : Nat) (72 : Nat), Kf.seq [] (sub [(1 : Nat), (1 : Nat), (1 : Nat), (1 : Nat), (1 : Nat), (1 : Nat), (1 : Nat), (1 : Nat)] (body Tryd.f4)) (4 : Nat)] Ex.ret e0r =
    k [TV.d false (0 : Nat) (D.bool false)] [] := by kernel_rfl
theorem behind0x0 {β : Type} (s : ByteArray) (x183 : List D) (x184 : ByteArray) (k : List TV → List TV → Option β) : applyK X (finK Tryd.prog Tryd.f4 [TV.d true (0 : Nat) (D.str s)] k)
    [Kf.block (0 : Nat) (72 : Nat), Kf.seq [] (sub [(1 : Nat), (1 : Nat), (1 : Nat), (1 : Nat), (1 : Nat), (1 : Nat), (1 : Nat), (1 : Nat)] (body Tryd.f4)) (4 : Nat)] (Ex.exit (0 : Nat)) (e0x0 x183 x184) =
    if decide ((↑(ByteArray.size x184) : Int) > (65536 : Int)) = true then k [TV.d false (0 : Nat) (D.bool true)] []
  else
    match Nat.ble (ByteArray.size x184) (65536 : Nat) with
    | false => k [TV.d false (0 : Nat) (D.bool false)] []
    | true =>
      match tokS (ByteArray.toList x184) with
      | Sum.inl (n392, p393) => k [TV.d false (0 : Nat) (D.bool false)] []
      | Sum.inr l397 =>
        if (!(↑(List.length (List.map tokT l397)) : Int) == (↑(List.length x183) : Int)) = true then k [TV.d false (0 : Nat) (D.bool false)] []
        else
          goLp X [((2 : Nat), (0 : Nat))]
            (sub [(1 : Nat), (1 : Nat), (1 : Nat), (1 : Nat), (1 : Nat), (1 : Nat), (1 : Nat), (1 : Nat), (1 : Nat), (1 : Nat), (1 : Nat), (0 : Nat), (1 : Nat), (0 : Nat), (0 : Nat)] (body Tryd.f4))
            [Kf.block (2 : Nat) (0 : Nat), Kf.seq [] (sub [(1 : Nat), (1 : Nat), (1 : Nat), (1 : Nat), (1 : Nat), (1 : Nat), (1 : Nat), (1 : Nat), (1 : Nat), (1 : Nat), (1 : Nat), (1 : Nat)] (body Tryd.f4)) (4 : Nat)]
            (finK Tryd.prog Tryd.f4 [TV.d true (0 : Nat) (D.str s)] k) (s1 (0 : Int) x183 (List.map tokT l397)) := by kernel_rfl
theorem behind1r {β : Type} (s : ByteArray) (k : List TV → List TV → Option β) : applyK X (finK Tryd.prog Tryd.f4 [TV.d true (0 : Nat) (D.str s)] k)
    [Kf.block (2 : Nat) (0 : Nat), Kf.seq [] (sub [(1 : Nat), (1 : Nat), (1 : Nat), (1 : Nat), (1 : Nat), (1 : Nat), (1 : Nat), (1 : Nat), (1 : Nat), (1 : Nat), (1 : Nat), (1 : Nat)] (body Tryd.f4)) (4 : Nat)] Ex.ret e1r =
    k [TV.d false (0 : Nat) (D.bool false)] [] := by kernel_rfl
theorem behind1x2 {β : Type} (s : ByteArray) (k : List TV → List TV → Option β) : applyK X (finK Tryd.prog Tryd.f4 [TV.d true (0 : Nat) (D.str s)] k)
    [Kf.block (2 : Nat) (0 : Nat), Kf.seq [] (sub [(1 : Nat), (1 : Nat), (1 : Nat), (1 : Nat), (1 : Nat), (1 : Nat), (1 : Nat), (1 : Nat), (1 : Nat), (1 : Nat), (1 : Nat), (1 : Nat)] (body Tryd.f4)) (4 : Nat)]
    (Ex.exit (2 : Nat)) e1x2 =
    k [TV.d false (0 : Nat) (D.bool true)] [] := by kernel_rfl
theorem j0_eq (s : ByteArray) (x152 : List D) (x153 : Int) (x154 : ByteArray) (x155 : Int) (x156 : ByteArray) (x157 : Int) (x158 : ByteArray) (x159 : Int) : applyK X (finR X [((0 : Nat), (72 : Nat))] (sub [(1 : Nat), (1 : Nat), (1 : Nat), (1 : Nat), (1 : Nat), (1 : Nat), (1 : Nat), (0 : Nat), (1 : Nat), (0 : Nat), (0 : Nat)] (body Tryd.f4)))
    [Kf.seq [((1 : Nat), (233 : Nat)), ((0 : Nat), (72 : Nat))]
        (sub [(1 : Nat), (1 : Nat), (1 : Nat), (1 : Nat), (1 : Nat), (1 : Nat), (1 : Nat), (0 : Nat), (1 : Nat), (0 : Nat), (0 : Nat), (1 : Nat), (0 : Nat), (0 : Nat), (1 : Nat), (1 : Nat), (1 : Nat)] (body Tryd.f4))
        (233 : Nat),
      Kf.block (1 : Nat) (233 : Nat),
      Kf.seq [((0 : Nat), (72 : Nat))] (sub [(1 : Nat), (1 : Nat), (1 : Nat), (1 : Nat), (1 : Nat), (1 : Nat), (1 : Nat), (0 : Nat), (1 : Nat), (0 : Nat), (0 : Nat), (1 : Nat), (1 : Nat)] (body Tryd.f4)) (233 : Nat)]
    Ex.norm (j0 s x152 x153 x154 x155 x156 x157 x158 x159) =
    if decide (x159 < x153) = true then some (Sum.inr (Ex.ret, e0r))
  else
    if decide (IntKind.wrap IntKind.i64 (x159 + (↑(ByteArray.size x156) : Int)) > (↑(ByteArray.size s) : Int)) = true then some (Sum.inr (Ex.ret, e0r))
    else
      if
          (0 : Int) ≤ IntKind.wrap IntKind.i64 (x159 + (↑(ByteArray.size x156) : Int)) ∧
            IntKind.wrap IntKind.i64 (x159 + (↑(ByteArray.size x156) : Int)) ≤ (↑(ByteArray.size s) : Int) ∧ (0 : Int) ≤ x159 ∧ x159 ≤ IntKind.wrap IntKind.i64 (x159 + (↑(ByteArray.size x156) : Int)) then
        if (!ByteArray.toList (ByteArray.extract s (Int.toNat x159) (Int.toNat (IntKind.wrap IntKind.i64 (x159 + (↑(ByteArray.size x156) : Int))))) == ByteArray.toList x156) = true then some (Sum.inr (Ex.ret, e0r))
        else
          if (!(x157 == (0 : Int)) == (x155 == IntKind.wrap IntKind.i64 ((↑(List.length x152) : Int) - (1 : Int)))) = true then some (Sum.inr (Ex.ret, e0r))
          else
            if ByteArray.size x154 + (1 : Nat) ≤ (9223372036854775807 : Nat) then
              if ByteArray.size (x154 ++ { data := #[(32 : UInt8)] }) + ByteArray.size x156 ≤ (9223372036854775807 : Nat) then
                if ByteArray.size (x154 ++ { data := #[(32 : UInt8)] } ++ x156) + (6 : Nat) ≤ (9223372036854775807 : Nat) then
                  some
                    (Sum.inl
                      (s0 s (IntKind.wrap IntKind.i64 (x159 + (↑(ByteArray.size x156) : Int)))
                        (x154 ++ { data := #[(32 : UInt8)] } ++ x156 ++ { data := #[(32 : UInt8), (47 : UInt8), (47 : UInt8), (32 : UInt8), (120 : UInt8), (10 : UInt8)] }) (IntKind.wrap IntKind.i64 (x155 + (1 : Int)))
                        x152))
                else none
              else none
            else none
      else none := by kernel_rfl
end F4


end Go.Sd

namespace Go.Sd
open Go Go.Cm Go.Proofs Go.Sc
set_option maxRecDepth 100000
namespace F6
/- rounds of the search: 4 -/
noncomputable def X : Fx := ⟨Tryd.prog, E30, 16, 2⟩
def s0 (s : ByteArray) (n : Int) (x68 : ByteArray) (x69 : Int) : S := ⟨tmS 119 [(0, V.d true (0 : Nat) (D.str s)), (1, V.d true (0 : Nat) (D.int IntKind.u32 n)), (5, V.d false (0 : Nat) (D.str x68)), (6, V.d false (0 : Nat) (D.int IntKind.i64 x69))], []⟩
def s1 (n : Int) (x145 : ByteArray) (x146 : Bool) (x147 : Int) (x150 : ByteArray) : S := ⟨tmS 119 [(1, V.d true (0 : Nat) (D.int IntKind.u32 n)), (5, V.d false (0 : Nat) (D.str x150)), (8, V.d false (0 : Nat) (D.str x145)), (9, V.d x146 (0 : Nat) (D.int IntKind.u32 x147))], []⟩
def e0x0 (n : Int) (x140 : ByteArray) : S := ⟨tmS 119 [(1, V.d true (0 : Nat) (D.int IntKind.u32 n)), (5, V.d false (0 : Nat) (D.str x140))], []⟩
def e1x2 (n : Int) (x253 : ByteArray) (x254 : ByteArray) : S := ⟨tmS 119 [(1, V.d true (0 : Nat) (D.int IntKind.u32 n)), (5, V.d false (0 : Nat) (D.str x253)), (8, V.d false (0 : Nat) (D.str x254))], []⟩
noncomputable abbrev L0 : S → Option (S ⊕ (Ex × S)) := roundK X [((0 : Nat), (34 : Nat))] (sub [(1 : Nat), (1 : Nat), (1 : Nat), (1 : Nat), (0 : Nat), (1 : Nat), (0 : Nat), (0 : Nat)] (body Tryd.f6))
noncomputable abbrev L1 : S → Option (S ⊕ (Ex × S)) := roundK X [((2 : Nat), (290 : Nat))] (sub [(1 : Nat), (1 : Nat), (1 : Nat), (1 : Nat), (1 : Nat), (1 : Nat), (0 : Nat), (1 : Nat), (0 : Nat), (0 : Nat)] (body Tryd.f6))
theorem start {β : Type} (s : ByteArray) (n : Int) (k : List TV → List TV → Option β) : evalF Tryd.prog E30 Tryd.f6 [TV.d true (0 : Nat) (D.str s), TV.d true (0 : Nat) (D.int IntKind.u32 n)] k =
    if decide ((↑(ByteArray.size s) : Int) > (200 : Int)) = true then k [TV.d false (0 : Nat) (D.bool true)] []
  else
    goLp X [((0 : Nat), (34 : Nat))] (sub [(1 : Nat), (1 : Nat), (1 : Nat), (1 : Nat), (0 : Nat), (1 : Nat), (0 : Nat), (0 : Nat)] (body Tryd.f6))
      [Kf.block (0 : Nat) (34 : Nat), Kf.seq [] (sub [(1 : Nat), (1 : Nat), (1 : Nat), (1 : Nat), (1 : Nat)] (body Tryd.f6)) (16 : Nat)]
      (finK Tryd.prog Tryd.f6 [TV.d true (0 : Nat) (D.str s), TV.d true (0 : Nat) (D.int IntKind.u32 n)] k) (s0 s n { data := #[(97 : UInt8)] } (0 : Int)) := by kernel_rfl
theorem round0 (s : ByteArray) (n : Int) (x68 : ByteArray) (x69 : Int) : roundK X [((0 : Nat), (34 : Nat))] (sub [(1 : Nat), (1 : Nat), (1 : Nat), (1 : Nat), (0 : Nat), (1 : Nat), (0 : Nat), (0 : Nat)] (body Tryd.f6)) (s0 s n x68 x69) =
    if decide (x69 < (↑(ByteArray.size s) : Int)) = true then
    if (0 : Int) ≤ x69 then
      match s[Int.toNat x69]? with
      | some c303 =>
        if decide ((↑(UInt8.toNat c303) : Int) ≥ (97 : Int)) = true then
          if decide ((↑(UInt8.toNat c303) : Int) ≤ (122 : Int)) = true then
            if (0 : Int) ≤ IntKind.wrap IntKind.i64 (x69 + (1 : Int)) ∧ IntKind.wrap IntKind.i64 (x69 + (1 : Int)) ≤ (↑(ByteArray.size s) : Int) ∧ (0 : Int) ≤ x69 ∧ x69 ≤ IntKind.wrap IntKind.i64 (x69 + (1 : Int)) then
              if ByteArray.size x68 + ByteArray.size (ByteArray.extract s (Int.toNat x69) (Int.toNat (IntKind.wrap IntKind.i64 (x69 + (1 : Int))))) ≤ (9223372036854775807 : Nat) then
                some (Sum.inl (s0 s n (x68 ++ ByteArray.extract s (Int.toNat x69) (Int.toNat (IntKind.wrap IntKind.i64 (x69 + (1 : Int))))) (IntKind.wrap IntKind.i64 (x69 + (1 : Int)))))
              else none
            else none
          else
            if decide ((↑(UInt8.toNat c303) : Int) ≥ (65 : Int)) = true then
              if decide ((↑(UInt8.toNat c303) : Int) ≤ (90 : Int)) = true then
                if (0 : Int) ≤ IntKind.wrap IntKind.i64 (x69 + (1 : Int)) ∧ IntKind.wrap IntKind.i64 (x69 + (1 : Int)) ≤ (↑(ByteArray.size s) : Int) ∧ (0 : Int) ≤ x69 ∧ x69 ≤ IntKind.wrap IntKind.i64 (x69 + (1 : Int)) then
                  if ByteArray.size x68 + ByteArray.size (ByteArray.extract s (Int.toNat x69) (Int.toNat (IntKind.wrap IntKind.i64 (x69 + (1 : Int))))) ≤ (9223372036854775807 : Nat) then
                    some (Sum.inl (s0 s n (x68 ++ ByteArray.extract s (Int.toNat x69) (Int.toNat (IntKind.wrap IntKind.i64 (x69 + (1 : Int))))) (IntKind.wrap IntKind.i64 (x69 + (1 : Int)))))
                  else none
                else none
              else
                if decide ((↑(UInt8.toNat c303) : Int) ≥ (48 : Int)) = true then
                  if decide ((↑(UInt8.toNat c303) : Int) ≤ (57 : Int)) = true then
                    if
                        (0 : Int) ≤ IntKind.wrap IntKind.i64 (x69 + (1 : Int)) ∧
                          IntKind.wrap IntKind.i64 (x69 + (1 : Int)) ≤ (↑(ByteArray.size s) : Int) ∧ (0 : Int) ≤ x69 ∧ x69 ≤ IntKind.wrap IntKind.i64 (x69 + (1 : Int)) then
                      if ByteArray.size x68 + ByteArray.size (ByteArray.extract s (Int.toNat x69) (Int.toNat (IntKind.wrap IntKind.i64 (x69 + (1 : Int))))) ≤ (9223372036854775807 : Nat) then
                        some (Sum.inl (s0 s n (x68 ++ ByteArray.extract s (Int.toNat x69) (Int.toNat (IntKind.wrap IntKind.i64 (x69 + (1 : Int))))) (IntKind.wrap IntKind.i64 (x69 + (1 : Int)))))
                      else none
                    else none
                  else
                    if ((↑(UInt8.toNat c303) : Int) == (95 : Int)) = true then
                      if
                          (0 : Int) ≤ IntKind.wrap IntKind.i64 (x69 + (1 : Int)) ∧
                            IntKind.wrap IntKind.i64 (x69 + (1 : Int)) ≤ (↑(ByteArray.size s) : Int) ∧ (0 : Int) ≤ x69 ∧ x69 ≤ IntKind.wrap IntKind.i64 (x69 + (1 : Int)) then
                        if ByteArray.size x68 + ByteArray.size (ByteArray.extract s (Int.toNat x69) (Int.toNat (IntKind.wrap IntKind.i64 (x69 + (1 : Int))))) ≤ (9223372036854775807 : Nat) then
                          some (Sum.inl (s0 s n (x68 ++ ByteArray.extract s (Int.toNat x69) (Int.toNat (IntKind.wrap IntKind.i64 (x69 + (1 : Int))))) (IntKind.wrap IntKind.i64 (x69 + (1 : Int)))))
                        else none
                      else none
                    else some (Sum.inl (s0 s n x68 (IntKind.wrap IntKind.i64 (x69 + (1 : Int)))))
                else
                  if ((↑(UInt8.toNat c303) : Int) == (95 : Int)) = true then
                    if
                        (0 : Int) ≤ IntKind.wrap IntKind.i64 (x69 + (1 : Int)) ∧
                          IntKind.wrap IntKind.i64 (x69 + (1 : Int)) ≤ (↑(ByteArray.size s) : Int) ∧ (0 : Int) ≤ x69 ∧ x69 ≤ IntKind.wrap IntKind.i64 (x69 + (1 : Int)) then
                      if ByteArray.size x68 + ByteArray.size (ByteArray.extract s (Int.toNat x69) (Int.toNat (IntKind.wrap IntKind.i64 (x69 + (1 : Int))))) ≤ (9223372036854775807 : Nat) then
                        some (Sum.inl (s0 s n (x68 ++ ByteArray.extract s (Int.toNat x69) (Int.toNat (IntKind.wrap IntKind.i64 (x69 + (1 : Int))))) (IntKind.wrap IntKind.i64 (x69 + (1 : Int)))))
                      else none
                    else none
                  else some (Sum.inl (s0 s n x68 (IntKind.wrap IntKind.i64 (x69 + (1 : Int)))))
            else
              if decide ((↑(UInt8.toNat c303) : Int) ≥ (48 : Int)) = true then
                if decide ((↑(UInt8.toNat c303) : Int) ≤ (57 : Int)) = true then
                  if
                      (0 : Int) ≤ IntKind.wrap IntKind.i64 (x69 + (1 : Int)) ∧
                        IntKind.wrap IntKind.i64 (x69 + (1 : Int)) ≤ (↑(ByteArray.size s) : Int) ∧ (0 : Int) ≤ x69 ∧ x69 ≤ IntKind.wrap IntKind.i64 (x69 + (1 : Int)) then
                    if ByteArray.size x68 + ByteArray.size (ByteArray.extract s (Int.toNat x69) (Int.toNat (IntKind.wrap IntKind.i64 (x69 + (1 : Int))))) ≤ (9223372036854775807 : Nat) then
                      some (Sum.inl (s0 s n (x68 ++ ByteArray.extract s (Int.toNat x69) (Int.toNat (IntKind.wrap IntKind.i64 (x69 + (1 : Int))))) (IntKind.wrap IntKind.i64 (x69 + (1 : Int)))))
                    else none
                  else none
                else
                  if ((↑(UInt8.toNat c303) : Int) == (95 : Int)) = true then
                    if
                        (0 : Int) ≤ IntKind.wrap IntKind.i64 (x69 + (1 : Int)) ∧
                          IntKind.wrap IntKind.i64 (x69 + (1 : Int)) ≤ (↑(ByteArray.size s) : Int) ∧ (0 : Int) ≤ x69 ∧ x69 ≤ IntKind.wrap IntKind.i64 (x69 + (1 : Int)) then
                      if ByteArray.size x68 + ByteArray.size (ByteArray.extract s (Int.toNat x69) (Int.toNat (IntKind.wrap IntKind.i64 (x69 + (1 : Int))))) ≤ (9223372036854775807 : Nat) then
                        some (Sum.inl (s0 s n (x68 ++ ByteArray.extract s (Int.toNat x69) (Int.toNat (IntKind.wrap IntKind.i64 (x69 + (1 : Int))))) (IntKind.wrap IntKind.i64 (x69 + (1 : Int)))))
                      else none
                    else none
                  else some (Sum.inl (s0 s n x68 (IntKind.wrap IntKind.i64 (x69 + (1 : Int)))))
              else
                if ((↑(UInt8.toNat c303) : Int) == (95 : Int)) = true then
                  if
                      (0 : Int) ≤ IntKind.wrap IntKind.i64 (x69 + (1 : Int)) ∧
                        IntKind.wrap IntKind.i64 (x69 + (1 : Int)) ≤ (↑(ByteArray.size s) : Int) ∧ (0 : Int) ≤ x69 ∧ x69 ≤ IntKind.wrap IntKind.i64 (x69 + (1 : Int)) then
                    if ByteArray.size x68 + ByteArray.size (ByteArray.extract s (Int.toNat x69) (Int.toNat (IntKind.wrap IntKind.i64 (x69 + (1 : Int))))) ≤ (9223372036854775807 : Nat) then
                      some (Sum.inl (s0 s n (x68 ++ ByteArray.extract s (Int.toNat x69) (Int.toNat (IntKind.wrap IntKind.i64 (x69 + (1 : Int))))) (IntKind.wrap IntKind.i64 (x69 + (1 : Int)))))
                    else none
                  else none
                else some (Sum.inl (s0 s n x68 (IntKind.wrap IntKind.i64 (x69 + (1 : Int)))))
        else
          if decide ((↑(UInt8.toNat c303) : Int) ≥ (65 : Int)) = true then
            if decide ((↑(UInt8.toNat c303) : Int) ≤ (90 : Int)) = true then
              if (0 : Int) ≤ IntKind.wrap IntKind.i64 (x69 + (1 : Int)) ∧ IntKind.wrap IntKind.i64 (x69 + (1 : Int)) ≤ (↑(ByteArray.size s) : Int) ∧ (0 : Int) ≤ x69 ∧ x69 ≤ IntKind.wrap IntKind.i64 (x69 + (1 : Int)) then
                if ByteArray.size x68 + ByteArray.size (ByteArray.extract s (Int.toNat x69) (Int.toNat (IntKind.wrap IntKind.i64 (x69 + (1 : Int))))) ≤ (9223372036854775807 : Nat) then
                  some (Sum.inl (s0 s n (x68 ++ ByteArray.extract s (Int.toNat x69) (Int.toNat (IntKind.wrap IntKind.i64 (x69 + (1 : Int))))) (IntKind.wrap IntKind.i64 (x69 + (1 : Int)))))
                else none
              else none
            else
              if decide ((↑(UInt8.toNat c303) : Int) ≥ (48 : Int)) = true then
                if decide ((↑(UInt8.toNat c303) : Int) ≤ (57 : Int)) = true then
                  if
                      (0 : Int) ≤ IntKind.wrap IntKind.i64 (x69 + (1 : Int)) ∧
                        IntKind.wrap IntKind.i64 (x69 + (1 : Int)) ≤ (↑(ByteArray.size s) : Int) ∧ (0 : Int) ≤ x69 ∧ x69 ≤ IntKind.wrap IntKind.i64 (x69 + (1 : Int)) then
                    if ByteArray.size x68 + ByteArray.size (ByteArray.extract s (Int.toNat x69) (Int.toNat (IntKind.wrap IntKind.i64 (x69 + (1 : Int))))) ≤ (9223372036854775807 : Nat) then
                      some (Sum.inl (s0 s n (x68 ++ ByteArray.extract s (Int.toNat x69) (Int.toNat (IntKind.wrap IntKind.i64 (x69 + (1 : Int))))) (IntKind.wrap IntKind.i64 (x69 + (1 : Int)))))
                    else none
                  else none
                else
                  if ((↑(UInt8.toNat c303) : Int) == (95 : Int)) = true then
                    if
                        (0 : Int) ≤ IntKind.wrap IntKind.i64 (x69 + (1 : Int)) ∧
                          IntKind.wrap IntKind.i64 (x69 + (1 : Int)) ≤ (↑(ByteArray.size s) : Int) ∧ (0 : Int) ≤ x69 ∧ x69 ≤ IntKind.wrap IntKind.i64 (x69 + (1 : Int)) then
                      if ByteArray.size x68 + ByteArray.size (ByteArray.extract s (Int.toNat x69) (Int.toNat (IntKind.wrap IntKind.i64 (x69 + (1 : Int))))) ≤ (9223372036854775807 : Nat) then
                        some (Sum.inl (s0 s n (x68 ++ ByteArray.extract s (Int.toNat x69) (Int.toNat (IntKind.wrap IntKind.i64 (x69 + (1 : Int))))) (IntKind.wrap IntKind.i64 (x69 + (1 : Int)))))
                      else none
                    else none
                  else some (Sum.inl (s0 s n x68 (IntKind.wrap IntKind.i64 (x69 + (1 : Int)))))
              else
                if ((↑(UInt8.toNat c303) : Int) == (95 : Int)) = true then
                  if
                      (0 : Int) ≤ IntKind.wrap IntKind.i64 (x69 + (1 : Int)) ∧
                        IntKind.wrap IntKind.i64 (x69 + (1 : Int)) ≤ (↑(ByteArray.size s) : Int) ∧ (0 : Int) ≤ x69 ∧ x69 ≤ IntKind.wrap IntKind.i64 (x69 + (1 : Int)) then
                    if ByteArray.size x68 + ByteArray.size (ByteArray.extract s (Int.toNat x69) (Int.toNat (IntKind.wrap IntKind.i64 (x69 + (1 : Int))))) ≤ (9223372036854775807 : Nat) then
                      some (Sum.inl (s0 s n (x68 ++ ByteArray.extract s (Int.toNat x69) (Int.toNat (IntKind.wrap IntKind.i64 (x69 + (1 : Int))))) (IntKind.wrap IntKind.i64 (x69 + (1 : Int)))))
                    else none
                  else none
                else some (Sum.inl (s0 s n x68 (IntKind.wrap IntKind.i64 (x69 + (1 : Int)))))
          else
            if decide ((↑(UInt8.toNat c303) : Int) ≥ (48 : Int)) = true then
              if decide ((↑(UInt8.toNat c303) : Int) ≤ (57 : Int)) = true then
                if (0 : Int) ≤ IntKind.wrap IntKind.i64 (x69 + (1 : Int)) ∧ IntKind.wrap IntKind.i64 (x69 + (1 : Int)) ≤ (↑(ByteArray.size s) : Int) ∧ (0 : Int) ≤ x69 ∧ x69 ≤ IntKind.wrap IntKind.i64 (x69 + (1 : Int)) then
                  if ByteArray.size x68 + ByteArray.size (ByteArray.extract s (Int.toNat x69) (Int.toNat (IntKind.wrap IntKind.i64 (x69 + (1 : Int))))) ≤ (9223372036854775807 : Nat) then
                    some (Sum.inl (s0 s n (x68 ++ ByteArray.extract s (Int.toNat x69) (Int.toNat (IntKind.wrap IntKind.i64 (x69 + (1 : Int))))) (IntKind.wrap IntKind.i64 (x69 + (1 : Int)))))
                  else none
                else none
              else
                if ((↑(UInt8.toNat c303) : Int) == (95 : Int)) = true then
                  if
                      (0 : Int) ≤ IntKind.wrap IntKind.i64 (x69 + (1 : Int)) ∧
                        IntKind.wrap IntKind.i64 (x69 + (1 : Int)) ≤ (↑(ByteArray.size s) : Int) ∧ (0 : Int) ≤ x69 ∧ x69 ≤ IntKind.wrap IntKind.i64 (x69 + (1 : Int)) then
                    if ByteArray.size x68 + ByteArray.size (ByteArray.extract s (Int.toNat x69) (Int.toNat (IntKind.wrap IntKind.i64 (x69 + (1 : Int))))) ≤ (9223372036854775807 : Nat) then
                      some (Sum.inl (s0 s n (x68 ++ ByteArray.extract s (Int.toNat x69) (Int.toNat (IntKind.wrap IntKind.i64 (x69 + (1 : Int))))) (IntKind.wrap IntKind.i64 (x69 + (1 : Int)))))
                    else none
                  else none
                else some (Sum.inl (s0 s n x68 (IntKind.wrap IntKind.i64 (x69 + (1 : Int)))))
            else
              if ((↑(UInt8.toNat c303) : Int) == (95 : Int)) = true then
                if (0 : Int) ≤ IntKind.wrap IntKind.i64 (x69 + (1 : Int)) ∧ IntKind.wrap IntKind.i64 (x69 + (1 : Int)) ≤ (↑(ByteArray.size s) : Int) ∧ (0 : Int) ≤ x69 ∧ x69 ≤ IntKind.wrap IntKind.i64 (x69 + (1 : Int)) then
                  if ByteArray.size x68 + ByteArray.size (ByteArray.extract s (Int.toNat x69) (Int.toNat (IntKind.wrap IntKind.i64 (x69 + (1 : Int))))) ≤ (9223372036854775807 : Nat) then
                    some (Sum.inl (s0 s n (x68 ++ ByteArray.extract s (Int.toNat x69) (Int.toNat (IntKind.wrap IntKind.i64 (x69 + (1 : Int))))) (IntKind.wrap IntKind.i64 (x69 + (1 : Int)))))
                  else none
                else none
              else some (Sum.inl (s0 s n x68 (IntKind.wrap IntKind.i64 (x69 + (1 : Int)))))
      | none => none
    else none
  else some (Sum.inr (Ex.exit (0 : Nat), e0x0 n x68)) := by kernel_rfl
theorem round1 (n : Int) (x145 : ByteArray) (x146 : Bool) (x147 : Int) (x150 : ByteArray) : roundK X [((2 : Nat), (290 : Nat))] (sub [(1 : Nat), (1 : Nat), (1 : Nat), (1 : Nat), (1 : Nat), (1 : Nat), (0 : Nat), (1 : Nat), (0 : Nat), (0 : Nat)] (body Tryd.f6)) (s1 n x145 x146 x147 x150) =
    if ByteArray.size { data := #[UInt8.ofNat (Int.toNat (IntKind.wrap IntKind.u8 (IntKind.wrap IntKind.u32 ((48 : Int) + Int.tmod x147 (10 : Int)))))] } + ByteArray.size x145 ≤ (9223372036854775807 : Nat) then
    if decide (x147 < (10 : Int)) = true then
      some (Sum.inr (Ex.exit (2 : Nat), e1x2 n x150 ({ data := #[UInt8.ofNat (Int.toNat (IntKind.wrap IntKind.u8 (IntKind.wrap IntKind.u32 ((48 : Int) + Int.tmod x147 (10 : Int)))))] } ++ x145)))
    else
      some
        (Sum.inl
          (s1 n ({ data := #[UInt8.ofNat (Int.toNat (IntKind.wrap IntKind.u8 (IntKind.wrap IntKind.u32 ((48 : Int) + Int.tmod x147 (10 : Int)))))] } ++ x145) false (IntKind.wrap IntKind.u32 (Int.tdiv x147 (10 : Int)))
            x150))
  else none := by kernel_rfl
theorem behind0x0 {β : Type} (s : ByteArray) (n : Int) (x140 : ByteArray) (k : List TV → List TV → Option β) : applyK X (finK Tryd.prog Tryd.f6 [TV.d true (0 : Nat) (D.str s), TV.d true (0 : Nat) (D.int IntKind.u32 n)] k)
    [Kf.block (0 : Nat) (34 : Nat), Kf.seq [] (sub [(1 : Nat), (1 : Nat), (1 : Nat), (1 : Nat), (1 : Nat)] (body Tryd.f6)) (16 : Nat)] (Ex.exit (0 : Nat)) (e0x0 n x140) =
    goLp X [((2 : Nat), (290 : Nat))] (sub [(1 : Nat), (1 : Nat), (1 : Nat), (1 : Nat), (1 : Nat), (1 : Nat), (0 : Nat), (1 : Nat), (0 : Nat), (0 : Nat)] (body Tryd.f6))
    [Kf.block (2 : Nat) (290 : Nat), Kf.seq [] (sub [(1 : Nat), (1 : Nat), (1 : Nat), (1 : Nat), (1 : Nat), (1 : Nat), (1 : Nat)] (body Tryd.f6)) (16 : Nat)]
    (finK Tryd.prog Tryd.f6 [TV.d true (0 : Nat) (D.str s), TV.d true (0 : Nat) (D.int IntKind.u32 n)] k) (s1 n { data := #[] } true n x140) := by kernel_rfl
theorem behind1x2 {β : Type} (s : ByteArray) (n : Int) (x253 : ByteArray) (x254 : ByteArray) (k : List TV → List TV → Option β) : applyK X (finK Tryd.prog Tryd.f6 [TV.d true (0 : Nat) (D.str s), TV.d true (0 : Nat) (D.int IntKind.u32 n)] k)
    [Kf.block (2 : Nat) (290 : Nat), Kf.seq [] (sub [(1 : Nat), (1 : Nat), (1 : Nat), (1 : Nat), (1 : Nat), (1 : Nat), (1 : Nat)] (body Tryd.f6)) (16 : Nat)] (Ex.exit (2 : Nat)) (e1x2 n x253 x254) =
    if ByteArray.size x253 + (1 : Nat) ≤ (9223372036854775807 : Nat) then
    if ByteArray.size (x253 ++ { data := #[(32 : UInt8)] }) + ByteArray.size x254 ≤ (9223372036854775807 : Nat) then
      match Nat.ble (ByteArray.size (x253 ++ { data := #[(32 : UInt8)] } ++ x254)) (65536 : Nat) with
      | false => k [TV.d false (0 : Nat) (D.bool false)] []
      | true =>
        match tokS (ByteArray.toList (x253 ++ { data := #[(32 : UInt8)] } ++ x254)) with
        | Sum.inl (n372, p373) => k [TV.d false (0 : Nat) (D.bool false)] []
        | Sum.inr l377 =>
          match (List.map tokT l377)[(0 : Nat)]? with
          | some (D.ag [D.int IntKind.i64 c381, D.str t382, D.int IntKind.i64 p383]) =>
            if (c381 == (1 : Int)) = true then
              match (List.map tokT l377)[(1 : Nat)]? with
              | some (D.ag [D.int IntKind.i64 c385, D.str t386, D.int IntKind.i64 p387]) =>
                if (c385 == (2 : Int)) = true then
                  if small t386 ∧ digitsL (ByteArray.toList t386) then
                    match valI (ByteArray.toList t386) (0 : Int) with
                    | some n388 =>
                      if (ByteArray.toList t382 == ByteArray.toList x253) = true then
                        if (n388 == IntKind.wrap IntKind.i64 n) = true then
                          match (List.map tokT l377)[(2 : Nat)]? with
                          | some (D.ag [D.int IntKind.i64 c390, D.str t391, D.int IntKind.i64 p392]) => k [TV.d false (0 : Nat) (D.bool (c390 == (0 : Int)))] []
                          | x => none
                        else k [TV.d false (0 : Nat) (D.bool false)] []
                      else k [TV.d false (0 : Nat) (D.bool false)] []
                    | none => none
                  else none
                else k [TV.d false (0 : Nat) (D.bool false)] []
              | x => none
            else
              match (List.map tokT l377)[(0 : Nat)]? with
              | some (D.ag [D.int IntKind.i64 c395, D.str t396, D.int IntKind.i64 p397]) =>
                if (c395 == (2 : Int)) = true then
                  if small t396 ∧ digitsL (ByteArray.toList t396) then
                    match valI (ByteArray.toList t396) (0 : Int) with
                    | some n398 => k [TV.d false (0 : Nat) (D.bool false)] []
                    | none => none
                  else none
                else k [TV.d false (0 : Nat) (D.bool false)] []
              | x => none
          | x => none
    else none
  else none := by kernel_rfl
end F6


end Go.Sd

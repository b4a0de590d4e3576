/- Made by a program of the session's own (tools/gen_scan.py): what the functions of the scan laws come to, segment by segment. -/
import Derived.Test.YteogbcggkogjaaaDoorSa
set_option linter.unusedVariables false
set_option linter.unusedSimpArgs false
namespace Go.Sd
open Go Go.Cm Go.Proofs Go.Sc
set_option maxRecDepth 100000
namespace F4
/- rounds of the search: 3 -/
noncomputable def X : Fx := ⟨Tryd.prog, E30, 4, 1⟩
def s0 (s : ByteArray) (x79 : Int) (x80 : ByteArray) (x81 : Int) (x130 : List D) : S := ⟨tmS 141 [(0, V.d true (0 : Nat) (D.str s)), (3, V.own false (4 : Nat) x130), (5, V.d false (0 : Nat) (D.int IntKind.i64 x79)), (6, V.d false (0 : Nat) (D.str x80)), (7, V.d false (0 : Nat) (D.int IntKind.i64 x81))], []⟩
def s1 (x233 : Int) (x253 : List D) (x254 : List D) : S := ⟨tmS 141 [(3, V.own false (4 : Nat) x253), (10, V.own false (4 : Nat) x254), (12, V.d false (0 : Nat) (D.int IntKind.i64 x233))], []⟩
def e0r  : S := ⟨tmS 141 [(2, V.d false (0 : Nat) (D.bool false))], []⟩
def e0x0 (x183 : List D) (x184 : ByteArray) : S := ⟨tmS 141 [(3, V.own false (4 : Nat) x183), (6, V.d false (0 : Nat) (D.str x184))], []⟩
def e1r  : S := ⟨tmS 141 [(2, V.d false (0 : Nat) (D.bool false))], []⟩
def e1x2  : S := ⟨tmS 141 [], []⟩
def j0 (s : ByteArray) (x152 : List D) (x153 : Int) (x154 : ByteArray) (x155 : Int) (x156 : ByteArray) (x157 : Int) (x158 : ByteArray) (x159 : Int) : S := ⟨tmS 141 [(0, V.d true (0 : Nat) (D.str s)), (3, V.own false (4 : Nat) x152), (5, V.d false (0 : Nat) (D.int IntKind.i64 x153)), (6, V.d false (0 : Nat) (D.str x154)), (7, V.d false (0 : Nat) (D.int IntKind.i64 x155)), (8, V.rp (9 : Nat) (0 : Nat)), (9, V.d false (0 : Nat) (D.str x156))], [((9 : Nat), true, [V.d false (0 : Nat) (D.int IntKind.i64 x157), V.d false (0 : Nat) (D.str x158), V.d false (0 : Nat) (D.int IntKind.i64 x159)])]⟩
noncomputable abbrev L0 : S → Option (S ⊕ (Ex × S)) := roundK X [((0 : Nat), (72 : Nat))] (sub [(1 : Nat), (1 : Nat), (1 : Nat), (1 : Nat), (1 : Nat), (1 : Nat), (1 : Nat), (0 : Nat), (1 : Nat), (0 : Nat), (0 : Nat)] (body Tryd.f4))
noncomputable abbrev L1 : S → Option (S ⊕ (Ex × S)) := roundK X [((2 : Nat), (0 : Nat))] (sub [(1 : Nat), (1 : Nat), (1 : Nat), (1 : Nat), (1 : Nat), (1 : Nat), (1 : Nat), (1 : Nat), (1 : Nat), (1 : Nat), (1 : Nat), (0 : Nat), (1 : Nat), (0 : Nat), (0 : Nat)] (body Tryd.f4))
theorem start {β : Type} (s : ByteArray) (k : List TV → List TV → Option β) : evalF Tryd.prog E30 Tryd.f4 [TV.d true (0 : Nat) (D.str s)] k =
    if decide ((↑(ByteArray.size s) : Int) > (3000 : Int)) = true then k [TV.d false (0 : Nat) (D.bool true)] []
  else
    match Nat.ble (ByteArray.size s) (65536 : Nat) with
    | false => k [TV.d false (0 : Nat) (D.bool true)] []
    | true =>
      match tokS (ByteArray.toList s) with
      | Sum.inl (n280, p281) => k [TV.d false (0 : Nat) (D.bool true)] []
      | Sum.inr l285 =>
        goLp X [((0 : Nat), (72 : Nat))] (sub [(1 : Nat), (1 : Nat), (1 : Nat), (1 : Nat), (1 : Nat), (1 : Nat), (1 : Nat), (0 : Nat), (1 : Nat), (0 : Nat), (0 : Nat)] (body Tryd.f4))
          [Kf.block (0 : Nat) (72 : Nat), Kf.seq [] (sub [(1 : Nat), (1 : Nat), (1 : Nat), (1 : Nat), (1 : Nat), (1 : Nat), (1 : Nat), (1 : Nat)] (body Tryd.f4)) (4 : Nat)]
          (finK Tryd.prog Tryd.f4 [TV.d true (0 : Nat) (D.str s)] k) (s0 s (0 : Int) { data := #[] } (0 : Int) (List.map tokT l285)) := by kernel_rfl
theorem round0 (s : ByteArray) (x79 : Int) (x80 : ByteArray) (x81 : Int) (x130 : List D) : roundK X [((0 : Nat), (72 : Nat))] (sub [(1 : Nat), (1 : Nat), (1 : Nat), (1 : Nat), (1 : Nat), (1 : Nat), (1 : Nat), (0 : Nat), (1 : Nat), (0 : Nat), (0 : Nat)] (body Tryd.f4)) (s0 s x79 x80 x81 x130) =
    if decide (x81 < (↑(List.length x130) : Int)) = true then
    if (0 : Int) ≤ x81 ∧ x81 < (↑(List.length x130) : Int) then
      match x130[Int.toNat x81]? with
      | some x294 =>
        match x294 with
        | D.ag xs295 =>
          match xs295 with
          | x296 :: r297 =>
            match x296 with
            | D.int j298 m299 =>
              if j298 = IntKind.i64 then
                match r297 with
                | x300 :: r301 =>
                  match x300 with
                  | D.str s302 =>
                    match r301 with
                    | x303 :: r304 =>
                      match x303 with
                      | D.int j305 m306 =>
                        if j305 = IntKind.i64 then
                          match r304 with
                          | [] =>
                            if (m299 == (3 : Int)) = true then
                              if (1 : Nat) + ByteArray.size s302 ≤ (9223372036854775807 : Nat) then
                                if ByteArray.size ({ data := #[(34 : UInt8)] } ++ s302) + (1 : Nat) ≤ (9223372036854775807 : Nat) then
                                  applyK X (finR X [((0 : Nat), (72 : Nat))] (sub [(1 : Nat), (1 : Nat), (1 : Nat), (1 : Nat), (1 : Nat), (1 : Nat), (1 : Nat), (0 : Nat), (1 : Nat), (0 : Nat), (0 : Nat)] (body Tryd.f4)))
                                    [Kf.seq [((1 : Nat), (233 : Nat)), ((0 : Nat), (72 : Nat))]
                                        (sub
                                          [(1 : Nat), (1 : Nat), (1 : Nat), (1 : Nat), (1 : Nat), (1 : Nat), (1 : Nat), (0 : Nat), (1 : Nat), (0 : Nat), (0 : Nat), (1 : Nat), (0 : Nat), (0 : Nat), (1 : Nat), (1 : Nat),
                                            (1 : Nat)]
                                          (body Tryd.f4))
                                        (233 : Nat),
                                      Kf.block (1 : Nat) (233 : Nat),
                                      Kf.seq [((0 : Nat), (72 : Nat))]
                                        (sub [(1 : Nat), (1 : Nat), (1 : Nat), (1 : Nat), (1 : Nat), (1 : Nat), (1 : Nat), (0 : Nat), (1 : Nat), (0 : Nat), (0 : Nat), (1 : Nat), (1 : Nat)] (body Tryd.f4)) (233 : Nat)]
                                    Ex.norm (j0 s x130 x79 x80 x81 ({ data := #[(34 : UInt8)] } ++ s302 ++ { data := #[(34 : UInt8)] }) m299 s302 m306)
                                else none
                              else none
                            else
                              applyK X (finR X [((0 : Nat), (72 : Nat))] (sub [(1 : Nat), (1 : Nat), (1 : Nat), (1 : Nat), (1 : Nat), (1 : Nat), (1 : Nat), (0 : Nat), (1 : Nat), (0 : Nat), (0 : Nat)] (body Tryd.f4)))
                                [Kf.seq [((1 : Nat), (233 : Nat)), ((0 : Nat), (72 : Nat))]
                                    (sub
                                      [(1 : Nat), (1 : Nat), (1 : Nat), (1 : Nat), (1 : Nat), (1 : Nat), (1 : Nat), (0 : Nat), (1 : Nat), (0 : Nat), (0 : Nat), (1 : Nat), (0 : Nat), (0 : Nat), (1 : Nat), (1 : Nat),
                                        (1 : Nat)]
                                      (body Tryd.f4))
                                    (233 : Nat),
                                  Kf.block (1 : Nat) (233 : Nat),
                                  Kf.seq [((0 : Nat), (72 : Nat))]
                                    (sub [(1 : Nat), (1 : Nat), (1 : Nat), (1 : Nat), (1 : Nat), (1 : Nat), (1 : Nat), (0 : Nat), (1 : Nat), (0 : Nat), (0 : Nat), (1 : Nat), (1 : Nat)] (body Tryd.f4)) (233 : Nat)]
                                Ex.norm (j0 s x130 x79 x80 x81 s302 m299 s302 m306)
                          | x => none
                        else none
                      | x => none
                    | [] => none
                  | x => none
                | [] => none
              else none
            | x => none
          | [] => none
        | x => none
      | none => none
    else none
  else some (Sum.inr (Ex.exit (0 : Nat), e0x0 x130 x80)) := by kernel_rfl
theorem round1 (x233 : Int) (x253 : List D) (x254 : List D) : roundK X [((2 : Nat), (0 : Nat))] (sub [(1 : Nat), (1 : Nat), (1 : Nat), (1 : Nat), (1 : Nat), (1 : Nat), (1 : Nat), (1 : Nat), (1 : Nat), (1 : Nat), (1 : Nat), (0 : Nat), (1 : Nat), (0 : Nat), (0 : Nat)] (body Tryd.f4))
    (s1 x233 x253 x254) =
    if decide (x233 < (↑(List.length x253) : Int)) = true then
    if (0 : Int) ≤ x233 ∧ x233 < (↑(List.length x254) : Int) then
      match x254[Int.toNat x233]? with
      | some x338 =>
        match
          match x338 with
          | D.ag xs => xs[(0 : Nat)]?
          | x => none with
        | some y339 =>
          match y339 with
          | D.int j340 m341 =>
            if j340 = IntKind.i64 then
              if (0 : Int) ≤ x233 ∧ x233 < (↑(List.length x253) : Int) then
                match x253[Int.toNat x233]? with
                | some x342 =>
                  match
                    match x342 with
                    | D.ag xs => xs[(0 : Nat)]?
                    | x => none with
                  | some y343 =>
                    match y343 with
                    | D.int j344 m345 =>
                      if j344 = IntKind.i64 then
                        if (!m341 == m345) = true then some (Sum.inr (Ex.ret, e1r))
                        else
                          if (0 : Int) ≤ x233 ∧ x233 < (↑(List.length x254) : Int) then
                            match x254[Int.toNat x233]? with
                            | some x348 =>
                              match
                                match x348 with
                                | D.ag xs => xs[(1 : Nat)]?
                                | x => none with
                              | some y349 =>
                                match y349 with
                                | D.str s350 =>
                                  if (0 : Int) ≤ x233 ∧ x233 < (↑(List.length x253) : Int) then
                                    match x253[Int.toNat x233]? with
                                    | some x351 =>
                                      match
                                        match x351 with
                                        | D.ag xs => xs[(1 : Nat)]?
                                        | x => none with
                                      | some y352 =>
                                        match y352 with
                                        | D.str s353 =>
                                          if (!ByteArray.toList s350 == ByteArray.toList s353) = true then some (Sum.inr (Ex.ret, e1r)) else some (Sum.inl (s1 (IntKind.wrap IntKind.i64 (x233 + (1 : Int))) x253 x254))
                                        | x => none
                                      | none => none
                                    | none => none
                                  else none
                                | x => none
                              | none => none
                            | none => none
                          else none
                      else none
                    | x => none
                  | none => none
                | none => none
              else none
            else none
          | x => none
        | none => none
      | none => none
    else none
  else some (Sum.inr (Ex.exit (2 : Nat), e1x2)) := by kernel_rfl
theorem behind0r {β : Type} (s : ByteArray) (k : List TV → List TV → Option β) : applyK X (finK Tryd.prog Tryd.f4 [TV.d true (0 : Nat) (D.str s)] k)
    [Kf.block (0 : Nat) (72 : Nat), Kf.seq [] (sub [(1 : Nat), (1 : Nat), (1 : Nat), (1 : Nat), (1 : Nat), (1 : Nat), (1 : Nat), (1 : Nat)] (body Tryd.f4)) (4 : Nat)] Ex.ret e0r =
    k [TV.d false (0 : Nat) (D.bool false)] [] := by kernel_rfl
theorem behind0x0 {β : Type} (s : ByteArray) (x183 : List D) (x184 : ByteArray) (k : List TV → List TV → Option β) : applyK X (finK Tryd.prog Tryd.f4 [TV.d true (0 : Nat) (D.str s)] k)
    [Kf.block (0 : Nat) (72 : Nat), Kf.seq [] (sub [(1 : Nat), (1 : Nat), (1 : Nat), (1 : Nat), (1 : Nat), (1 : Nat), (1 : Nat), (1 : Nat)] (body Tryd.f4)) (4 : Nat)] (Ex.exit (0 : Nat)) (e0x0 x183 x184) =
    if decide ((↑(ByteArray.size x184) : Int) > (65536 : Int)) = true then k [TV.d false (0 : Nat) (D.bool true)] []
  else
    match Nat.ble (ByteArray.size x184) (65536 : Nat) with
    | false => k [TV.d false (0 : Nat) (D.bool false)] []
    | true =>
      match tokS (ByteArray.toList x184) with
      | Sum.inl (n392, p393) => k [TV.d false (0 : Nat) (D.bool false)] []
      | Sum.inr l397 =>
        if (!(↑(List.length (List.map tokT l397)) : Int) == (↑(List.length x183) : Int)) = true then k [TV.d false (0 : Nat) (D.bool false)] []
        else
          goLp X [((2 : Nat), (0 : Nat))]
            (sub [(1 : Nat), (1 : Nat), (1 : Nat), (1 : Nat), (1 : Nat), (1 : Nat), (1 : Nat), (1 : Nat), (1 : Nat), (1 : Nat), (1 : Nat), (0 : Nat), (1 : Nat), (0 : Nat), (0 : Nat)] (body Tryd.f4))
            [Kf.block (2 : Nat) (0 : Nat), Kf.seq [] (sub [(1 : Nat), (1 : Nat), (1 : Nat), (1 : Nat), (1 : Nat), (1 : Nat), (1 : Nat), (1 : Nat), (1 : Nat), (1 : Nat), (1 : Nat), (1 : Nat)] (body Tryd.f4)) (4 : Nat)]
            (finK Tryd.prog Tryd.f4 [TV.d true (0 : Nat) (D.str s)] k) (s1 (0 : Int) x183 (List.map tokT l397)) := by kernel_rfl
theorem behind1r {β : Type} (s : ByteArray) (k : List TV → List TV → Option β) : applyK X (finK Tryd.prog Tryd.f4 [TV.d true (0 : Nat) (D.str s)] k)
    [Kf.block (2 : Nat) (0 : Nat), Kf.seq [] (sub [(1 : Nat), (1 : Nat), (1 : Nat), (1 : Nat), (1 : Nat), (1 : Nat), (1 : Nat), (1 : Nat), (1 : Nat), (1 : Nat), (1 : Nat), (1 : Nat)] (body Tryd.f4)) (4 : Nat)] Ex.ret e1r =
    k [TV.d false (0 : Nat) (D.bool false)] [] := by kernel_rfl
theorem behind1x2 {β : Type} (s : ByteArray) (k : List TV → List TV → Option β) : applyK X (finK Tryd.prog Tryd.f4 [TV.d true (0 : Nat) (D.str s)] k)
    [Kf.block (2 : Nat) (0 : Nat), Kf.seq [] (sub [(1 : Nat), (1 : Nat), (1 : Nat), (1 : Nat), (1 : Nat), (1 : Nat), (1 : Nat), (1 : Nat), (1 : Nat), (1 : Nat), (1 : Nat), (1 : Nat)] (body Tryd.f4)) (4 : Nat)]
    (Ex.exit (2 : Nat)) e1x2 =
    k [TV.d false (0 : Nat) (D.bool true)] [] := by kernel_rfl
theorem j0_eq (s : ByteArray) (x152 : List D) (x153 : Int) (x154 : ByteArray) (x155 : Int) (x156 : ByteArray) (x157 : Int) (x158 : ByteArray) (x159 : Int) : applyK X (finR X [((0 : Nat), (72 : Nat))] (sub [(1 : Nat), (1 : Nat), (1 : Nat), (1 : Nat), (1 : Nat), (1 : Nat), (1 : Nat), (0 : Nat), (1 : Nat), (0 : Nat), (0 : Nat)] (body Tryd.f4)))
    [Kf.seq [((1 : Nat), (233 : Nat)), ((0 : Nat), (72 : Nat))]
        (sub [(1 : Nat), (1 : Nat), (1 : Nat), (1 : Nat), (1 : Nat), (1 : Nat), (1 : Nat), (0 : Nat), (1 : Nat), (0 : Nat), (0 : Nat), (1 : Nat), (0 : Nat), (0 : Nat), (1 : Nat), (1 : Nat), (1 : Nat)] (body Tryd.f4))
        (233 : Nat),
      Kf.block (1 : Nat) (233 : Nat),
      Kf.seq [((0 : Nat), (72 : Nat))] (sub [(1 : Nat), (1 : Nat), (1 : Nat), (1 : Nat), (1 : Nat), (1 : Nat), (1 : Nat), (0 : Nat), (1 : Nat), (0 : Nat), (0 : Nat), (1 : Nat), (1 : Nat)] (body Tryd.f4)) (233 : Nat)]
    Ex.norm (j0 s x152 x153 x154 x155 x156 x157 x158 x159) =
    if decide (x159 < x153) = true then some (Sum.inr (Ex.ret, e0r))
  else
    if decide (IntKind.wrap IntKind.i64 (x159 + (↑(ByteArray.size x156) : Int)) > (↑(ByteArray.size s) : Int)) = true then some (Sum.inr (Ex.ret, e0r))
    else
      if
          (0 : Int) ≤ IntKind.wrap IntKind.i64 (x159 + (↑(ByteArray.size x156) : Int)) ∧
            IntKind.wrap IntKind.i64 (x159 + (↑(ByteArray.size x156) : Int)) ≤ (↑(ByteArray.size s) : Int) ∧ (0 : Int) ≤ x159 ∧ x159 ≤ IntKind.wrap IntKind.i64 (x159 + (↑(ByteArray.size x156) : Int)) then
        if (!ByteArray.toList (ByteArray.extract s (Int.toNat x159) (Int.toNat (IntKind.wrap IntKind.i64 (x159 + (↑(ByteArray.size x156) : Int))))) == ByteArray.toList x156) = true then some (Sum.inr (Ex.ret, e0r))
        else
          if (!(x157 == (0 : Int)) == (x155 == IntKind.wrap IntKind.i64 ((↑(List.length x152) : Int) - (1 : Int)))) = true then some (Sum.inr (Ex.ret, e0r))
          else
            if ByteArray.size x154 + (1 : Nat) ≤ (9223372036854775807 : Nat) then
              if ByteArray.size (x154 ++ { data := #[(32 : UInt8)] }) + ByteArray.size x156 ≤ (9223372036854775807 : Nat) then
                if ByteArray.size (x154 ++ { data := #[(32 : UInt8)] } ++ x156) + (6 : Nat) ≤ (9223372036854775807 : Nat) then
                  some
                    (Sum.inl
                      (s0 s (IntKind.wrap IntKind.i64 (x159 + (↑(ByteArray.size x156) : Int)))
                        (x154 ++ { data := #[(32 : UInt8)] } ++ x156 ++ { data := #[(32 : UInt8), (47 : UInt8), (47 : UInt8), (32 : UInt8), (120 : UInt8), (10 : UInt8)] }) (IntKind.wrap IntKind.i64 (x155 + (1 : Int)))
                        x152))
                else none
              else none
            else none
      else none := by kernel_rfl
end F4


end Go.Sd

namespace Go.Sd
open Go Go.Cm Go.Proofs Go.Sc
set_option maxRecDepth 100000
namespace F5
/- rounds of the search: 3 -/
noncomputable def X : Fx := ⟨Tryd.prog, E30, 16, 2⟩
def s0 (s : ByteArray) (x352 : Int) (x544 : List D) (x545 : List D) (x546 : List D) : S := ⟨tmS 125 [(0, V.d true (0 : Nat) (D.str s)), (5, V.own false (4 : Nat) x544), (7, V.own false (4 : Nat) x545), (9, V.own false (4 : Nat) x546), (11, V.d false (0 : Nat) (D.int IntKind.i64 x352))], []⟩
def e0r  : S := ⟨tmS 125 [(4, V.d false (0 : Nat) (D.bool false))], []⟩
def e0x0  : S := ⟨tmS 125 [], []⟩
noncomputable abbrev L0 : S → Option (S ⊕ (Ex × S)) := roundK X [((0 : Nat), (0 : Nat))] (sub [(1 : Nat), (1 : Nat), (1 : Nat), (1 : Nat), (1 : Nat), (1 : Nat), (1 : Nat), (1 : Nat), (1 : Nat), (0 : Nat), (1 : Nat), (0 : Nat), (0 : Nat)] (body Tryd.f5))
theorem start {β : Type} (s : ByteArray) (t : ByteArray) (k : List TV → List TV → Option β) : evalF Tryd.prog E30 Tryd.f5 [TV.d true (0 : Nat) (D.str s), TV.d true (0 : Nat) (D.str t)] k =
    if decide (IntKind.wrap IntKind.i64 ((↑(ByteArray.size s) : Int) + (↑(ByteArray.size t) : Int)) > (3000 : Int)) = true then k [TV.d false (0 : Nat) (D.bool true)] []
  else
    match Nat.ble (ByteArray.size s) (65536 : Nat) with
    | false =>
      match Nat.ble (ByteArray.size t) (65536 : Nat) with
      | false =>
        if ByteArray.size s + (1 : Nat) ≤ (9223372036854775807 : Nat) then
          if ByteArray.size (s ++ { data := #[(10 : UInt8)] }) + ByteArray.size t ≤ (9223372036854775807 : Nat) then
            match Nat.ble (ByteArray.size (s ++ { data := #[(10 : UInt8)] } ++ t)) (65536 : Nat) with
            | false => k [TV.d false (0 : Nat) (D.bool true)] []
            | true =>
              match tokS (ByteArray.toList (s ++ { data := #[(10 : UInt8)] } ++ t)) with
              | Sum.inl (n726, p727) => if (n726 == (2 : Int)) = true then k [TV.d false (0 : Nat) (D.bool ((↑p727 : Int) == (-1 : Int)))] [] else k [TV.d false (0 : Nat) (D.bool false)] []
              | Sum.inr l731 => k [TV.d false (0 : Nat) (D.bool false)] []
          else none
        else none
      | true =>
        match tokS (ByteArray.toList t) with
        | Sum.inl (n736, p737) =>
          if ByteArray.size s + (1 : Nat) ≤ (9223372036854775807 : Nat) then
            if ByteArray.size (s ++ { data := #[(10 : UInt8)] }) + ByteArray.size t ≤ (9223372036854775807 : Nat) then
              match Nat.ble (ByteArray.size (s ++ { data := #[(10 : UInt8)] } ++ t)) (65536 : Nat) with
              | false => k [TV.d false (0 : Nat) (D.bool true)] []
              | true =>
                match tokS (ByteArray.toList (s ++ { data := #[(10 : UInt8)] } ++ t)) with
                | Sum.inl (n744, p745) => if (n744 == (2 : Int)) = true then k [TV.d false (0 : Nat) (D.bool ((↑p745 : Int) == (-1 : Int)))] [] else k [TV.d false (0 : Nat) (D.bool false)] []
                | Sum.inr l749 => k [TV.d false (0 : Nat) (D.bool false)] []
            else none
          else none
        | Sum.inr l753 =>
          if ByteArray.size s + (1 : Nat) ≤ (9223372036854775807 : Nat) then
            if ByteArray.size (s ++ { data := #[(10 : UInt8)] }) + ByteArray.size t ≤ (9223372036854775807 : Nat) then
              match Nat.ble (ByteArray.size (s ++ { data := #[(10 : UInt8)] } ++ t)) (65536 : Nat) with
              | false => k [TV.d false (0 : Nat) (D.bool true)] []
              | true =>
                match tokS (ByteArray.toList (s ++ { data := #[(10 : UInt8)] } ++ t)) with
                | Sum.inl (n760, p761) => if (n760 == (2 : Int)) = true then k [TV.d false (0 : Nat) (D.bool ((↑p761 : Int) == (-1 : Int)))] [] else k [TV.d false (0 : Nat) (D.bool false)] []
                | Sum.inr l765 => k [TV.d false (0 : Nat) (D.bool false)] []
            else none
          else none
    | true =>
      match tokS (ByteArray.toList s) with
      | Sum.inl (n770, p771) =>
        match Nat.ble (ByteArray.size t) (65536 : Nat) with
        | false =>
          if ByteArray.size s + (1 : Nat) ≤ (9223372036854775807 : Nat) then
            if ByteArray.size (s ++ { data := #[(10 : UInt8)] }) + ByteArray.size t ≤ (9223372036854775807 : Nat) then
              match Nat.ble (ByteArray.size (s ++ { data := #[(10 : UInt8)] } ++ t)) (65536 : Nat) with
              | false => if ((2 : Int) == n770) = true then k [TV.d false (0 : Nat) (D.bool ((-1 : Int) == (↑p771 : Int)))] [] else k [TV.d false (0 : Nat) (D.bool false)] []
              | true =>
                match tokS (ByteArray.toList (s ++ { data := #[(10 : UInt8)] } ++ t)) with
                | Sum.inl (n780, p781) => if (n780 == n770) = true then k [TV.d false (0 : Nat) (D.bool ((↑p781 : Int) == (↑p771 : Int)))] [] else k [TV.d false (0 : Nat) (D.bool false)] []
                | Sum.inr l785 => if ((0 : Int) == n770) = true then k [TV.d false (0 : Nat) (D.bool ((-1 : Int) == (↑p771 : Int)))] [] else k [TV.d false (0 : Nat) (D.bool false)] []
            else none
          else none
        | true =>
          match tokS (ByteArray.toList t) with
          | Sum.inl (n790, p791) =>
            if ByteArray.size s + (1 : Nat) ≤ (9223372036854775807 : Nat) then
              if ByteArray.size (s ++ { data := #[(10 : UInt8)] }) + ByteArray.size t ≤ (9223372036854775807 : Nat) then
                match Nat.ble (ByteArray.size (s ++ { data := #[(10 : UInt8)] } ++ t)) (65536 : Nat) with
                | false => if ((2 : Int) == n770) = true then k [TV.d false (0 : Nat) (D.bool ((-1 : Int) == (↑p771 : Int)))] [] else k [TV.d false (0 : Nat) (D.bool false)] []
                | true =>
                  match tokS (ByteArray.toList (s ++ { data := #[(10 : UInt8)] } ++ t)) with
                  | Sum.inl (n798, p799) => if (n798 == n770) = true then k [TV.d false (0 : Nat) (D.bool ((↑p799 : Int) == (↑p771 : Int)))] [] else k [TV.d false (0 : Nat) (D.bool false)] []
                  | Sum.inr l803 => if ((0 : Int) == n770) = true then k [TV.d false (0 : Nat) (D.bool ((-1 : Int) == (↑p771 : Int)))] [] else k [TV.d false (0 : Nat) (D.bool false)] []
              else none
            else none
          | Sum.inr l807 =>
            if ByteArray.size s + (1 : Nat) ≤ (9223372036854775807 : Nat) then
              if ByteArray.size (s ++ { data := #[(10 : UInt8)] }) + ByteArray.size t ≤ (9223372036854775807 : Nat) then
                match Nat.ble (ByteArray.size (s ++ { data := #[(10 : UInt8)] } ++ t)) (65536 : Nat) with
                | false => if ((2 : Int) == n770) = true then k [TV.d false (0 : Nat) (D.bool ((-1 : Int) == (↑p771 : Int)))] [] else k [TV.d false (0 : Nat) (D.bool false)] []
                | true =>
                  match tokS (ByteArray.toList (s ++ { data := #[(10 : UInt8)] } ++ t)) with
                  | Sum.inl (n814, p815) => if (n814 == n770) = true then k [TV.d false (0 : Nat) (D.bool ((↑p815 : Int) == (↑p771 : Int)))] [] else k [TV.d false (0 : Nat) (D.bool false)] []
                  | Sum.inr l819 => if ((0 : Int) == n770) = true then k [TV.d false (0 : Nat) (D.bool ((-1 : Int) == (↑p771 : Int)))] [] else k [TV.d false (0 : Nat) (D.bool false)] []
              else none
            else none
      | Sum.inr l823 =>
        match Nat.ble (ByteArray.size t) (65536 : Nat) with
        | false =>
          if ByteArray.size s + (1 : Nat) ≤ (9223372036854775807 : Nat) then
            if ByteArray.size (s ++ { data := #[(10 : UInt8)] }) + ByteArray.size t ≤ (9223372036854775807 : Nat) then
              match Nat.ble (ByteArray.size (s ++ { data := #[(10 : UInt8)] } ++ t)) (65536 : Nat) with
              | false => k [TV.d false (0 : Nat) (D.bool ((-1 : Int) == IntKind.wrap IntKind.i64 (IntKind.wrap IntKind.i64 ((-1 : Int) + (↑(ByteArray.size s) : Int)) + (1 : Int))))] []
              | true =>
                match tokS (ByteArray.toList (s ++ { data := #[(10 : UInt8)] } ++ t)) with
                | Sum.inl (n834, p835) =>
                  if (n834 == (2 : Int)) = true then k [TV.d false (0 : Nat) (D.bool ((↑p835 : Int) == IntKind.wrap IntKind.i64 (IntKind.wrap IntKind.i64 ((-1 : Int) + (↑(ByteArray.size s) : Int)) + (1 : Int))))] []
                  else k [TV.d false (0 : Nat) (D.bool false)] []
                | Sum.inr l841 => k [TV.d false (0 : Nat) (D.bool false)] []
            else none
          else none
        | true =>
          match tokS (ByteArray.toList t) with
          | Sum.inl (n848, p849) =>
            if ByteArray.size s + (1 : Nat) ≤ (9223372036854775807 : Nat) then
              if ByteArray.size (s ++ { data := #[(10 : UInt8)] }) + ByteArray.size t ≤ (9223372036854775807 : Nat) then
                match Nat.ble (ByteArray.size (s ++ { data := #[(10 : UInt8)] } ++ t)) (65536 : Nat) with
                | false =>
                  if ((2 : Int) == n848) = true then k [TV.d false (0 : Nat) (D.bool ((-1 : Int) == IntKind.wrap IntKind.i64 (IntKind.wrap IntKind.i64 ((↑p849 : Int) + (↑(ByteArray.size s) : Int)) + (1 : Int))))] []
                  else k [TV.d false (0 : Nat) (D.bool false)] []
                | true =>
                  match tokS (ByteArray.toList (s ++ { data := #[(10 : UInt8)] } ++ t)) with
                  | Sum.inl (n858, p859) =>
                    if (n858 == n848) = true then k [TV.d false (0 : Nat) (D.bool ((↑p859 : Int) == IntKind.wrap IntKind.i64 (IntKind.wrap IntKind.i64 ((↑p849 : Int) + (↑(ByteArray.size s) : Int)) + (1 : Int))))] []
                    else k [TV.d false (0 : Nat) (D.bool false)] []
                  | Sum.inr l865 =>
                    if ((0 : Int) == n848) = true then k [TV.d false (0 : Nat) (D.bool ((-1 : Int) == IntKind.wrap IntKind.i64 (IntKind.wrap IntKind.i64 ((↑p849 : Int) + (↑(ByteArray.size s) : Int)) + (1 : Int))))] []
                    else k [TV.d false (0 : Nat) (D.bool false)] []
              else none
            else none
          | Sum.inr l871 =>
            if ByteArray.size s + (1 : Nat) ≤ (9223372036854775807 : Nat) then
              if ByteArray.size (s ++ { data := #[(10 : UInt8)] }) + ByteArray.size t ≤ (9223372036854775807 : Nat) then
                match Nat.ble (ByteArray.size (s ++ { data := #[(10 : UInt8)] } ++ t)) (65536 : Nat) with
                | false => k [TV.d false (0 : Nat) (D.bool false)] []
                | true =>
                  match tokS (ByteArray.toList (s ++ { data := #[(10 : UInt8)] } ++ t)) with
                  | Sum.inl (n882, p883) => k [TV.d false (0 : Nat) (D.bool false)] []
                  | Sum.inr l891 =>
                    if
                        (!(↑(List.length (List.map tokT l891)) : Int) ==
                              IntKind.wrap IntKind.i64 (IntKind.wrap IntKind.i64 ((↑(List.length (List.map tokT l823)) : Int) + (↑(List.length (List.map tokT l871)) : Int)) - (1 : Int))) =
                          true then
                      k [TV.d false (0 : Nat) (D.bool false)] []
                    else
                      goLp X [((0 : Nat), (0 : Nat))] (sub [(1 : Nat), (1 : Nat), (1 : Nat), (1 : Nat), (1 : Nat), (1 : Nat), (1 : Nat), (1 : Nat), (1 : Nat), (0 : Nat), (1 : Nat), (0 : Nat), (0 : Nat)] (body Tryd.f5))
                        [Kf.block (0 : Nat) (0 : Nat), Kf.seq [] (sub [(1 : Nat), (1 : Nat), (1 : Nat), (1 : Nat), (1 : Nat), (1 : Nat), (1 : Nat), (1 : Nat), (1 : Nat), (1 : Nat)] (body Tryd.f5)) (16 : Nat)]
                        (finK Tryd.prog Tryd.f5 [TV.d true (0 : Nat) (D.str s), TV.d true (0 : Nat) (D.str t)] k) (s0 s (0 : Int) (List.map tokT l823) (List.map tokT l871) (List.map tokT l891))
              else none
            else none := by kernel_rfl
theorem round0 (s : ByteArray) (x352 : Int) (x544 : List D) (x545 : List D) (x546 : List D) : roundK X [((0 : Nat), (0 : Nat))] (sub [(1 : Nat), (1 : Nat), (1 : Nat), (1 : Nat), (1 : Nat), (1 : Nat), (1 : Nat), (1 : Nat), (1 : Nat), (0 : Nat), (1 : Nat), (0 : Nat), (0 : Nat)] (body Tryd.f5))
    (s0 s x352 x544 x545 x546) =
    if decide (x352 < (↑(List.length x546) : Int)) = true then
    if decide (x352 < IntKind.wrap IntKind.i64 ((↑(List.length x544) : Int) - (1 : Int))) = true then
      if (0 : Int) ≤ x352 ∧ x352 < (↑(List.length x546) : Int) then
        match x546[Int.toNat x352]? with
        | some x905 =>
          match x905 with
          | D.ag xs906 =>
            match xs906 with
            | x907 :: r908 =>
              match x907 with
              | D.int j909 m910 =>
                if j909 = IntKind.i64 then
                  match r908 with
                  | x911 :: r912 =>
                    match x911 with
                    | D.str s913 =>
                      match r912 with
                      | x914 :: r915 =>
                        match x914 with
                        | D.int j916 m917 =>
                          if j916 = IntKind.i64 then
                            match r915 with
                            | [] =>
                              if (0 : Int) ≤ x352 ∧ x352 < (↑(List.length x544) : Int) then
                                match x544[Int.toNat x352]? with
                                | some x919 =>
                                  match x919 with
                                  | D.ag xs920 =>
                                    match xs920 with
                                    | x921 :: r922 =>
                                      match x921 with
                                      | D.int j923 m924 =>
                                        if j923 = IntKind.i64 then
                                          match r922 with
                                          | x925 :: r926 =>
                                            match x925 with
                                            | D.str s927 =>
                                              match r926 with
                                              | x928 :: r929 =>
                                                match x928 with
                                                | D.int j930 m931 =>
                                                  if j930 = IntKind.i64 then
                                                    match r929 with
                                                    | [] =>
                                                      if (!(m910 == m924 && (ByteArray.toList s913 == ByteArray.toList s927 && (m917 == m931 && true)))) = true then some (Sum.inr (Ex.ret, e0r))
                                                      else some (Sum.inl (s0 s (IntKind.wrap IntKind.i64 (x352 + (1 : Int))) x544 x545 x546))
                                                    | x => none
                                                  else none
                                                | x => none
                                              | [] => none
                                            | x => none
                                          | [] => none
                                        else none
                                      | x => none
                                    | [] => none
                                  | x => none
                                | none => none
                              else none
                            | x => none
                          else none
                        | x => none
                      | [] => none
                    | x => none
                  | [] => none
                else none
              | x => none
            | [] => none
          | x => none
        | none => none
      else none
    else
      if
          (0 : Int) ≤ IntKind.wrap IntKind.i64 (IntKind.wrap IntKind.i64 (x352 - (↑(List.length x544) : Int)) + (1 : Int)) ∧
            IntKind.wrap IntKind.i64 (IntKind.wrap IntKind.i64 (x352 - (↑(List.length x544) : Int)) + (1 : Int)) < (↑(List.length x545) : Int) then
        match x545[Int.toNat (IntKind.wrap IntKind.i64 (IntKind.wrap IntKind.i64 (x352 - (↑(List.length x544) : Int)) + (1 : Int)))]? with
        | some x937 =>
          match x937 with
          | D.ag xs938 =>
            match xs938 with
            | x939 :: r940 =>
              match x939 with
              | D.int j941 m942 =>
                if j941 = IntKind.i64 then
                  match r940 with
                  | x943 :: r944 =>
                    match x943 with
                    | D.str s945 =>
                      match r944 with
                      | x946 :: r947 =>
                        match x946 with
                        | D.int j948 m949 =>
                          if j948 = IntKind.i64 then
                            match r947 with
                            | [] =>
                              if (0 : Int) ≤ x352 ∧ x352 < (↑(List.length x546) : Int) then
                                match x546[Int.toNat x352]? with
                                | some x953 =>
                                  match x953 with
                                  | D.ag xs954 =>
                                    match xs954 with
                                    | x955 :: r956 =>
                                      match x955 with
                                      | D.int j957 m958 =>
                                        if j957 = IntKind.i64 then
                                          match r956 with
                                          | x959 :: r960 =>
                                            match x959 with
                                            | D.str s961 =>
                                              match r960 with
                                              | x962 :: r963 =>
                                                match x962 with
                                                | D.int j964 m965 =>
                                                  if j964 = IntKind.i64 then
                                                    match r963 with
                                                    | [] =>
                                                      if
                                                          (!(m958 == m942 &&
                                                                (ByteArray.toList s961 == ByteArray.toList s945 &&
                                                                  (m965 == IntKind.wrap IntKind.i64 (IntKind.wrap IntKind.i64 (m949 + (↑(ByteArray.size s) : Int)) + (1 : Int)) && true)))) =
                                                            true then
                                                        some (Sum.inr (Ex.ret, e0r))
                                                      else some (Sum.inl (s0 s (IntKind.wrap IntKind.i64 (x352 + (1 : Int))) x544 x545 x546))
                                                    | x => none
                                                  else none
                                                | x => none
                                              | [] => none
                                            | x => none
                                          | [] => none
                                        else none
                                      | x => none
                                    | [] => none
                                  | x => none
                                | none => none
                              else none
                            | x => none
                          else none
                        | x => none
                      | [] => none
                    | x => none
                  | [] => none
                else none
              | x => none
            | [] => none
          | x => none
        | none => none
      else none
  else some (Sum.inr (Ex.exit (0 : Nat), e0x0)) := by kernel_rfl
theorem behind0r {β : Type} (s : ByteArray) (t : ByteArray) (k : List TV → List TV → Option β) : applyK X (finK Tryd.prog Tryd.f5 [TV.d true (0 : Nat) (D.str s), TV.d true (0 : Nat) (D.str t)] k)
    [Kf.block (0 : Nat) (0 : Nat), Kf.seq [] (sub [(1 : Nat), (1 : Nat), (1 : Nat), (1 : Nat), (1 : Nat), (1 : Nat), (1 : Nat), (1 : Nat), (1 : Nat), (1 : Nat)] (body Tryd.f5)) (16 : Nat)] Ex.ret e0r =
    k [TV.d false (0 : Nat) (D.bool false)] [] := by kernel_rfl
theorem behind0x0 {β : Type} (s : ByteArray) (t : ByteArray) (k : List TV → List TV → Option β) : applyK X (finK Tryd.prog Tryd.f5 [TV.d true (0 : Nat) (D.str s), TV.d true (0 : Nat) (D.str t)] k)
    [Kf.block (0 : Nat) (0 : Nat), Kf.seq [] (sub [(1 : Nat), (1 : Nat), (1 : Nat), (1 : Nat), (1 : Nat), (1 : Nat), (1 : Nat), (1 : Nat), (1 : Nat), (1 : Nat)] (body Tryd.f5)) (16 : Nat)] (Ex.exit (0 : Nat)) e0x0 =
    k [TV.d false (0 : Nat) (D.bool true)] [] := by kernel_rfl
end F5


end Go.Sd

/- Made by a program of the session's own (tools/gen_scan.py): what the functions of the scan laws come to, segment by segment. -/
import Derived.Test.YteogbcggkogjaaaDoorSa
set_option linter.unusedVariables false
set_option linter.unusedSimpArgs false
namespace Go.Sd
open Go Go.Cm Go.Proofs Go.Sc
set_option maxRecDepth 100000
namespace F3
/- rounds of the search: 2 -/
noncomputable def X : Fx := ⟨Tryd.prog, E30, 4, 1⟩
def s0 (x58 : List D) (x76 : List D) (x163 : Int) : S := ⟨Tm.mk (62 : Nat) [((3 : Nat), V.own false (4 : Nat) x76), ((5 : Nat), V.own false (4 : Nat) x58), ((8 : Nat), V.d false (0 : Nat) (D.int IntKind.i64 x163))], []⟩
def e0r  : S := ⟨Tm.mk (62 : Nat) [((2 : Nat), V.d false (0 : Nat) (D.bool false))], []⟩
def e0x0  : S := ⟨Tm.mk (62 : Nat) [], []⟩
def j0 (s : ByteArray) : S := ⟨Tm.mk (62 : Nat) [((0 : Nat), V.d true (0 : Nat) (D.str s))], []⟩
noncomputable abbrev L0 : S → Option (S ⊕ (Ex × S)) := roundK X [((0 : Nat), (0 : Nat))] (sub [(1 : Nat), (1 : Nat), (1 : Nat), (1 : Nat), (1 : Nat), (1 : Nat), (0 : Nat), (1 : Nat), (0 : Nat), (0 : Nat)] (body Tryd.f3))
theorem start {β : Type} (s : ByteArray) (k : List TV → List TV → Option β) : evalF Tryd.prog E30 Tryd.f3 [TV.d true (0 : Nat) (D.str s)] k =
    if decide ((↑(ByteArray.size s) : Int) > (3000 : Int)) = true then
    if decide ((↑(ByteArray.size s) : Int) ≤ (65536 : Int)) = true then k [TV.d false (0 : Nat) (D.bool true)] []
    else applyK X (finK Tryd.prog Tryd.f3 [TV.d true (0 : Nat) (D.str s)] k) [Kf.seq [] (sub [(1 : Nat), (1 : Nat), (1 : Nat)] (body Tryd.f3)) (4 : Nat)] Ex.norm (j0 s)
  else applyK X (finK Tryd.prog Tryd.f3 [TV.d true (0 : Nat) (D.str s)] k) [Kf.seq [] (sub [(1 : Nat), (1 : Nat), (1 : Nat)] (body Tryd.f3)) (4 : Nat)] Ex.norm (j0 s) := by kernel_rfl
theorem round0 (x58 : List D) (x76 : List D) (x163 : Int) : roundK X [((0 : Nat), (0 : Nat))] (sub [(1 : Nat), (1 : Nat), (1 : Nat), (1 : Nat), (1 : Nat), (1 : Nat), (0 : Nat), (1 : Nat), (0 : Nat), (0 : Nat)] (body Tryd.f3)) (s0 x58 x76 x163) =
    if decide (x163 < (↑(List.length x76) : Int)) = true then
    if (0 : Int) ≤ x163 ∧ x163 < (↑(List.length x76) : Int) then
      match x76[Int.toNat x163]? with
      | some x249 =>
        match x249 with
        | D.ag xs250 =>
          match xs250 with
          | x251 :: r252 =>
            match x251 with
            | D.int j253 m254 =>
              if j253 = IntKind.i64 then
                match r252 with
                | x255 :: r256 =>
                  match x255 with
                  | D.str s257 =>
                    match r256 with
                    | x258 :: r259 =>
                      match x258 with
                      | D.int j260 m261 =>
                        if j260 = IntKind.i64 then
                          match r259 with
                          | [] =>
                            if (0 : Int) ≤ x163 ∧ x163 < (↑(List.length x58) : Int) then
                              match x58[Int.toNat x163]? with
                              | some x263 =>
                                match x263 with
                                | D.ag xs264 =>
                                  match xs264 with
                                  | x265 :: r266 =>
                                    match x265 with
                                    | D.int j267 m268 =>
                                      if j267 = IntKind.i64 then
                                        match r266 with
                                        | x269 :: r270 =>
                                          match x269 with
                                          | D.str s271 =>
                                            match r270 with
                                            | x272 :: r273 =>
                                              match x272 with
                                              | D.int j274 m275 =>
                                                if j274 = IntKind.i64 then
                                                  match r273 with
                                                  | [] =>
                                                    if (!(m254 == m268 && (ByteArray.toList s257 == ByteArray.toList s271 && (m261 == m275 && true)))) = true then some (Sum.inr (Ex.ret, e0r))
                                                    else some (Sum.inl (s0 x58 x76 (IntKind.wrap IntKind.i64 (x163 + (1 : Int)))))
                                                  | x => none
                                                else none
                                              | x => none
                                            | [] => none
                                          | x => none
                                        | [] => none
                                      else none
                                    | x => none
                                  | [] => none
                                | x => none
                              | none => none
                            else none
                          | x => none
                        else none
                      | x => none
                    | [] => none
                  | x => none
                | [] => none
              else none
            | x => none
          | [] => none
        | x => none
      | none => none
    else none
  else some (Sum.inr (Ex.exit (0 : Nat), e0x0)) := by kernel_rfl
theorem behind0r {β : Type} (s : ByteArray) (k : List TV → List TV → Option β) : applyK X (finK Tryd.prog Tryd.f3 [TV.d true (0 : Nat) (D.str s)] k) [Kf.block (0 : Nat) (0 : Nat), Kf.seq [] (sub [(1 : Nat), (1 : Nat), (1 : Nat), (1 : Nat), (1 : Nat), (1 : Nat), (1 : Nat)] (body Tryd.f3)) (4 : Nat)]
    Ex.ret e0r =
    k [TV.d false (0 : Nat) (D.bool false)] [] := by kernel_rfl
theorem behind0x0 {β : Type} (s : ByteArray) (k : List TV → List TV → Option β) : applyK X (finK Tryd.prog Tryd.f3 [TV.d true (0 : Nat) (D.str s)] k) [Kf.block (0 : Nat) (0 : Nat), Kf.seq [] (sub [(1 : Nat), (1 : Nat), (1 : Nat), (1 : Nat), (1 : Nat), (1 : Nat), (1 : Nat)] (body Tryd.f3)) (4 : Nat)]
    (Ex.exit (0 : Nat)) e0x0 =
    k [TV.d false (0 : Nat) (D.bool true)] [] := by kernel_rfl
theorem j0_eq {β : Type} (s : ByteArray) (k : List TV → List TV → Option β) : applyK X (finK Tryd.prog Tryd.f3 [TV.d true (0 : Nat) (D.str s)] k) [Kf.seq [] (sub [(1 : Nat), (1 : Nat), (1 : Nat)] (body Tryd.f3)) (4 : Nat)] Ex.norm (j0 s) =
    match Nat.ble (ByteArray.size s) (65536 : Nat) with
  | false =>
    match Nat.ble (ByteArray.size s) (65536 : Nat) with
    | false =>
      goLp X [((0 : Nat), (0 : Nat))] (sub [(1 : Nat), (1 : Nat), (1 : Nat), (1 : Nat), (1 : Nat), (1 : Nat), (0 : Nat), (1 : Nat), (0 : Nat), (0 : Nat)] (body Tryd.f3))
        [Kf.block (0 : Nat) (0 : Nat), Kf.seq [] (sub [(1 : Nat), (1 : Nat), (1 : Nat), (1 : Nat), (1 : Nat), (1 : Nat), (1 : Nat)] (body Tryd.f3)) (4 : Nat)] (finK Tryd.prog Tryd.f3 [TV.d true (0 : Nat) (D.str s)] k)
        (s0 [] [] (0 : Int))
    | true =>
      match tokS (ByteArray.toList s) with
      | Sum.inl (n335, p336) =>
        if (!(2 : Int) == n335) = true then k [TV.d false (0 : Nat) (D.bool false)] []
        else
          if (!(-1 : Int) == (↑p336 : Int)) = true then k [TV.d false (0 : Nat) (D.bool false)] []
          else
            goLp X [((0 : Nat), (0 : Nat))] (sub [(1 : Nat), (1 : Nat), (1 : Nat), (1 : Nat), (1 : Nat), (1 : Nat), (0 : Nat), (1 : Nat), (0 : Nat), (0 : Nat)] (body Tryd.f3))
              [Kf.block (0 : Nat) (0 : Nat), Kf.seq [] (sub [(1 : Nat), (1 : Nat), (1 : Nat), (1 : Nat), (1 : Nat), (1 : Nat), (1 : Nat)] (body Tryd.f3)) (4 : Nat)]
              (finK Tryd.prog Tryd.f3 [TV.d true (0 : Nat) (D.str s)] k) (s0 [] [] (0 : Int))
      | Sum.inr l344 => k [TV.d false (0 : Nat) (D.bool false)] []
  | true =>
    match tokS (ByteArray.toList s) with
    | Sum.inl (n349, p350) =>
      match Nat.ble (ByteArray.size s) (65536 : Nat) with
      | false =>
        if (!n349 == (2 : Int)) = true then k [TV.d false (0 : Nat) (D.bool false)] []
        else
          if (!(↑p350 : Int) == (-1 : Int)) = true then k [TV.d false (0 : Nat) (D.bool false)] []
          else
            goLp X [((0 : Nat), (0 : Nat))] (sub [(1 : Nat), (1 : Nat), (1 : Nat), (1 : Nat), (1 : Nat), (1 : Nat), (0 : Nat), (1 : Nat), (0 : Nat), (0 : Nat)] (body Tryd.f3))
              [Kf.block (0 : Nat) (0 : Nat), Kf.seq [] (sub [(1 : Nat), (1 : Nat), (1 : Nat), (1 : Nat), (1 : Nat), (1 : Nat), (1 : Nat)] (body Tryd.f3)) (4 : Nat)]
              (finK Tryd.prog Tryd.f3 [TV.d true (0 : Nat) (D.str s)] k) (s0 [] [] (0 : Int))
      | true =>
        match tokS (ByteArray.toList s) with
        | Sum.inl (n361, p362) =>
          if (!n349 == n361) = true then k [TV.d false (0 : Nat) (D.bool false)] []
          else
            if (!(↑p350 : Int) == (↑p362 : Int)) = true then k [TV.d false (0 : Nat) (D.bool false)] []
            else
              goLp X [((0 : Nat), (0 : Nat))] (sub [(1 : Nat), (1 : Nat), (1 : Nat), (1 : Nat), (1 : Nat), (1 : Nat), (0 : Nat), (1 : Nat), (0 : Nat), (0 : Nat)] (body Tryd.f3))
                [Kf.block (0 : Nat) (0 : Nat), Kf.seq [] (sub [(1 : Nat), (1 : Nat), (1 : Nat), (1 : Nat), (1 : Nat), (1 : Nat), (1 : Nat)] (body Tryd.f3)) (4 : Nat)]
                (finK Tryd.prog Tryd.f3 [TV.d true (0 : Nat) (D.str s)] k) (s0 [] [] (0 : Int))
        | Sum.inr l370 =>
          if (!n349 == (0 : Int)) = true then k [TV.d false (0 : Nat) (D.bool false)] []
          else
            if (!(↑p350 : Int) == (-1 : Int)) = true then k [TV.d false (0 : Nat) (D.bool false)] []
            else
              if (!(0 : Int) == (↑(List.length (List.map tokT l370)) : Int)) = true then k [TV.d false (0 : Nat) (D.bool false)] []
              else
                goLp X [((0 : Nat), (0 : Nat))] (sub [(1 : Nat), (1 : Nat), (1 : Nat), (1 : Nat), (1 : Nat), (1 : Nat), (0 : Nat), (1 : Nat), (0 : Nat), (0 : Nat)] (body Tryd.f3))
                  [Kf.block (0 : Nat) (0 : Nat), Kf.seq [] (sub [(1 : Nat), (1 : Nat), (1 : Nat), (1 : Nat), (1 : Nat), (1 : Nat), (1 : Nat)] (body Tryd.f3)) (4 : Nat)]
                  (finK Tryd.prog Tryd.f3 [TV.d true (0 : Nat) (D.str s)] k) (s0 (List.map tokT l370) [] (0 : Int))
    | Sum.inr l379 =>
      match Nat.ble (ByteArray.size s) (65536 : Nat) with
      | false => k [TV.d false (0 : Nat) (D.bool false)] []
      | true =>
        match tokS (ByteArray.toList s) with
        | Sum.inl (n386, p387) =>
          if (!(0 : Int) == n386) = true then k [TV.d false (0 : Nat) (D.bool false)] []
          else
            if (!(-1 : Int) == (↑p387 : Int)) = true then k [TV.d false (0 : Nat) (D.bool false)] []
            else
              if (!(↑(List.length (List.map tokT l379)) : Int) == (0 : Int)) = true then k [TV.d false (0 : Nat) (D.bool false)] []
              else
                goLp X [((0 : Nat), (0 : Nat))] (sub [(1 : Nat), (1 : Nat), (1 : Nat), (1 : Nat), (1 : Nat), (1 : Nat), (0 : Nat), (1 : Nat), (0 : Nat), (0 : Nat)] (body Tryd.f3))
                  [Kf.block (0 : Nat) (0 : Nat), Kf.seq [] (sub [(1 : Nat), (1 : Nat), (1 : Nat), (1 : Nat), (1 : Nat), (1 : Nat), (1 : Nat)] (body Tryd.f3)) (4 : Nat)]
                  (finK Tryd.prog Tryd.f3 [TV.d true (0 : Nat) (D.str s)] k) (s0 [] (List.map tokT l379) (0 : Int))
        | Sum.inr l396 =>
          if (!(↑(List.length (List.map tokT l379)) : Int) == (↑(List.length (List.map tokT l396)) : Int)) = true then k [TV.d false (0 : Nat) (D.bool false)] []
          else
            goLp X [((0 : Nat), (0 : Nat))] (sub [(1 : Nat), (1 : Nat), (1 : Nat), (1 : Nat), (1 : Nat), (1 : Nat), (0 : Nat), (1 : Nat), (0 : Nat), (0 : Nat)] (body Tryd.f3))
              [Kf.block (0 : Nat) (0 : Nat), Kf.seq [] (sub [(1 : Nat), (1 : Nat), (1 : Nat), (1 : Nat), (1 : Nat), (1 : Nat), (1 : Nat)] (body Tryd.f3)) (4 : Nat)]
              (finK Tryd.prog Tryd.f3 [TV.d true (0 : Nat) (D.str s)] k) (s0 (List.map tokT l396) (List.map tokT l379) (0 : Int)) := by kernel_rfl
end F3


end Go.Sd

/- Made by a program of the session's own (tools/gen_scan.py): what the functions of the scan laws come to, segment by segment. -/
import Derived.Test.YteogbcggkogjaaaDoorSa
import Derived.Test.YteogbcggkogjaaaDoorSh
set_option linter.unusedVariables false
set_option linter.unusedSimpArgs false
namespace Go.Sd
open Go Go.Cm Go.Proofs Go.Sc
set_option maxRecDepth 100000
namespace F4
/- rounds of the search: 3 -/
noncomputable def X : Fx := ⟨Tryd.prog, E30, 4, 1⟩
def s0 (s : ByteArray) (x79 : Int) (x80 : ByteArray) (x81 : Int) (x130 : List D) : S := ⟨tmS 141 [(0, V.d true (0 : Nat) (D.str s)), (3, V.own false (4 : Nat) x130), (5, V.d false (0 : Nat) (D.int IntKind.i64 x79)), (6, V.d false (0 : Nat) (D.str x80)), (7, V.d false (0 : Nat) (D.int IntKind.i64 x81))], []⟩
def s1 (x233 : Int) (x253 : List D) (x254 : List D) : S := ⟨tmS 141 [(3, V.own false (4 : Nat) x253), (10, V.own false (4 : Nat) x254), (12, V.d false (0 : Nat) (D.int IntKind.i64 x233))], []⟩
def e0r  : S := ⟨tmS 141 [(2, V.d false (0 : Nat) (D.bool false))], []⟩
def e0x0 (x183 : List D) (x184 : ByteArray) : S := ⟨tmS 141 [(3, V.own false (4 : Nat) x183), (6, V.d false (0 : Nat) (D.str x184))], []⟩
def e1r  : S := ⟨tmS 141 [(2, V.d false (0 : Nat) (D.bool false))], []⟩
def e1x2  : S := ⟨tmS 141 [], []⟩
def j0 (s : ByteArray) (x152 : List D) (x153 : Int) (x154 : ByteArray) (x155 : Int) (x156 : ByteArray) (x157 : Int) (x158 : ByteArray) (x159 : Int) : S := ⟨tmS 141 [(0, V.d true (0 : Nat) (D.str s)), (3, V.own false (4 : Nat) x152), (5, V.d false (0 : Nat) (D.int IntKind.i64 x153)), (6, V.d false (0 : Nat) (D.str x154)), (7, V.d false (0 : Nat) (D.int IntKind.i64 x155)), (8, V.rp (9 : Nat) (0 : Nat)), (9, V.d false (0 : Nat) (D.str x156))], [((9 : Nat), true, [V.d false (0 : Nat) (D.int IntKind.i64 x157), V.d false (0 : Nat) (D.str x158), V.d false (0 : Nat) (D.int IntKind.i64 x159)])]⟩
noncomputable abbrev L0 : S → Option (S ⊕ (Ex × S)) := roundK X [((0 : Nat), (72 : Nat))] (sub [(1 : Nat), (1 : Nat), (1 : Nat), (1 : Nat), (1 : Nat), (1 : Nat), (1 : Nat), (0 : Nat), (1 : Nat), (0 : Nat), (0 : Nat)] (body Tryd.f4))
noncomputable abbrev L1 : S → Option (S ⊕ (Ex × S)) := roundK X [((2 : Nat), (0 : Nat))] (sub [(1 : Nat), (1 : Nat), (1 : Nat), (1 : Nat), (1 : Nat), (1 : Nat), (1 : Nat), (1 : Nat), (1 : Nat), (1 : Nat), (1 : Nat), (0 : Nat), (1 : Nat), (0 : Nat), (0 : Nat)] (body Tryd.f4))
theorem start {β : Type} (s : ByteArray) (k : List TV → List TV → Option β) : evalF Tryd.prog E30 Tryd.f4 [TV.d true (0 : Nat) (D.str s)] k =
    if decide ((↑(ByteArray.size s) : Int) > (3000 : Int)) = true then k [TV.d false (0 : Nat) (D.bool true)] []
  else
    match Nat.ble (ByteArray.size s) (65536 : Nat) with
    | false => k [TV.d false (0 : Nat) (D.bool true)] []
    | true =>
      match tokS (ByteArray.toList s) with
      | Sum.inl (n280, p281) => k [TV.d false (0 : Nat) (D.bool true)] []
      | Sum.inr l285 =>
        goLp X [((0 : Nat), (72 : Nat))] (sub [(1 : Nat), (1 : Nat), (1 : Nat), (1 : Nat), (1 : Nat), (1 : Nat), (1 : Nat), (0 : Nat), (1 : Nat), (0 : Nat), (0 : Nat)] (body Tryd.f4))
          [Kf.block (0 : Nat) (72 : Nat), Kf.seq [] (sub [(1 : Nat), (1 : Nat), (1 : Nat), (1 : Nat), (1 : Nat), (1 : Nat), (1 : Nat), (1 : Nat)] (body Tryd.f4)) (4 : Nat)]
          (finK Tryd.prog Tryd.f4 [TV.d true (0 : Nat) (D.str s)] k) (s0 s (0 : Int) { data := #[] } (0 : Int) (List.map tokT l285)) := by kernel_rfl
theorem round0 (s : ByteArray) (x79 : Int) (x80 : ByteArray) (x81 : Int) (x130 : List D) : roundK X [((0 : Nat), (72 : Nat))] (sub [(1 : Nat), (1 : Nat), (1 : Nat), (1 : Nat), (1 : Nat), (1 : Nat), (1 : Nat), (0 : Nat), (1 : Nat), (0 : Nat), (0 : Nat)] (body Tryd.f4)) (s0 s x79 x80 x81 x130) =
    if decide (x81 < (↑(List.length x130) : Int)) = true then
    if (0 : Int) ≤ x81 ∧ x81 < (↑(List.length x130) : Int) then
      match x130[Int.toNat x81]? with
      | some x294 =>
        match x294 with
        | D.ag xs295 =>
          match xs295 with
          | x296 :: r297 =>
            match x296 with
            | D.int j298 m299 =>
              if j298 = IntKind.i64 then
                match r297 with
                | x300 :: r301 =>
                  match x300 with
                  | D.str s302 =>
                    match r301 with
                    | x303 :: r304 =>
                      match x303 with
                      | D.int j305 m306 =>
                        if j305 = IntKind.i64 then
                          match r304 with
                          | [] =>
                            if (m299 == (3 : Int)) = true then
                              if (1 : Nat) + ByteArray.size s302 ≤ (9223372036854775807 : Nat) then
                                if ByteArray.size ({ data := #[(34 : UInt8)] } ++ s302) + (1 : Nat) ≤ (9223372036854775807 : Nat) then
                                  applyK X (finR X [((0 : Nat), (72 : Nat))] (sub [(1 : Nat), (1 : Nat), (1 : Nat), (1 : Nat), (1 : Nat), (1 : Nat), (1 : Nat), (0 : Nat), (1 : Nat), (0 : Nat), (0 : Nat)] (body Tryd.f4)))
                                    [Kf.seq [((1 : Nat), (233 : Nat)), ((0 : Nat), (72 : Nat))]
                                        (sub
                                          [(1 : Nat), (1 : Nat), (1 : Nat), (1 : Nat), (1 : Nat), (1 : Nat), (1 : Nat), (0 : Nat), (1 : Nat), (0 : Nat), (0 : Nat), (1 : Nat), (0 : Nat), (0 : Nat), (1 : Nat), (1 : Nat),
                                            (1 : Nat)]
                                          (body Tryd.f4))
                                        (233 : Nat),
                                      Kf.block (1 : Nat) (233 : Nat),
                                      Kf.seq [((0 : Nat), (72 : Nat))]
                                        (sub [(1 : Nat), (1 : Nat), (1 : Nat), (1 : Nat), (1 : Nat), (1 : Nat), (1 : Nat), (0 : Nat), (1 : Nat), (0 : Nat), (0 : Nat), (1 : Nat), (1 : Nat)] (body Tryd.f4)) (233 : Nat)]
                                    Ex.norm (j0 s x130 x79 x80 x81 ({ data := #[(34 : UInt8)] } ++ s302 ++ { data := #[(34 : UInt8)] }) m299 s302 m306)
                                else none
                              else none
                            else
                              applyK X (finR X [((0 : Nat), (72 : Nat))] (sub [(1 : Nat), (1 : Nat), (1 : Nat), (1 : Nat), (1 : Nat), (1 : Nat), (1 : Nat), (0 : Nat), (1 : Nat), (0 : Nat), (0 : Nat)] (body Tryd.f4)))
                                [Kf.seq [((1 : Nat), (233 : Nat)), ((0 : Nat), (72 : Nat))]
                                    (sub
                                      [(1 : Nat), (1 : Nat), (1 : Nat), (1 : Nat), (1 : Nat), (1 : Nat), (1 : Nat), (0 : Nat), (1 : Nat), (0 : Nat), (0 : Nat), (1 : Nat), (0 : Nat), (0 : Nat), (1 : Nat), (1 : Nat),
                                        (1 : Nat)]
                                      (body Tryd.f4))
                                    (233 : Nat),
                                  Kf.block (1 : Nat) (233 : Nat),
                                  Kf.seq [((0 : Nat), (72 : Nat))]
                                    (sub [(1 : Nat), (1 : Nat), (1 : Nat), (1 : Nat), (1 : Nat), (1 : Nat), (1 : Nat), (0 : Nat), (1 : Nat), (0 : Nat), (0 : Nat), (1 : Nat), (1 : Nat)] (body Tryd.f4)) (233 : Nat)]
                                Ex.norm (j0 s x130 x79 x80 x81 s302 m299 s302 m306)
                          | x => none
                        else none
                      | x => none
                    | [] => none
                  | x => none
                | [] => none
              else none
            | x => none
          | [] => none
        | x => none
      | none => none
    else none
  else some (Sum.inr (Ex.exit (0 : Nat), e0x0 x130 x80)) := by kernel_rfl
theorem round1 (x233 : Int) (x253 : List D) (x254 : List D) : roundK X [((2 : Nat), (0 : Nat))] (sub [(1 : Nat), (1 : Nat), (1 : Nat), (1 : Nat), (1 : Nat), (1 : Nat), (1 : Nat), (1 : Nat), (1 : Nat), (1 : Nat), (1 : Nat), (0 : Nat), (1 : Nat), (0 : Nat), (0 : Nat)] (body Tryd.f4))
    (s1 x233 x253 x254) =
    if decide (x233 < (↑(List.length x253) : Int)) = true then
    if (0 : Int) ≤ x233 ∧ x233 < (↑(List.length x254) : Int) then
      match x254[Int.toNat x233]? with
      | some x338 =>
        match
          match x338 with
          | D.ag xs => xs[(0 : Nat)]?
          | x => none with
        | some y339 =>
          match y339 with
          | D.int j340 m341 =>
            if j340 = IntKind.i64 then
              if (0 : Int) ≤ x233 ∧ x233 < (↑(List.length x253) : Int) then
                match x253[Int.toNat x233]? with
                | some x342 =>
                  match
                    match x342 with
                    | D.ag xs => xs[(0 : Nat)]?
                    | x => none with
                  | some y343 =>
                    match y343 with
                    | D.int j344 m345 =>
                      if j344 = IntKind.i64 then
                        if (!m341 == m345) = true then some (Sum.inr (Ex.ret, e1r))
                        else
                          if (0 : Int) ≤ x233 ∧ x233 < (↑(List.length x254) : Int) then
                            match x254[Int.toNat x233]? with
                            | some x348 =>
                              match
                                match x348 with
                                | D.ag xs => xs[(1 : Nat)]?
                                | x => none with
                              | some y349 =>
                                match y349 with
                                | D.str s350 =>
                                  if (0 : Int) ≤ x233 ∧ x233 < (↑(List.length x253) : Int) then
                                    match x253[Int.toNat x233]? with
                                    | some x351 =>
                                      match
                                        match x351 with
                                        | D.ag xs => xs[(1 : Nat)]?
                                        | x => none with
                                      | some y352 =>
                                        match y352 with
                                        | D.str s353 =>
                                          if (!ByteArray.toList s350 == ByteArray.toList s353) = true then some (Sum.inr (Ex.ret, e1r)) else some (Sum.inl (s1 (IntKind.wrap IntKind.i64 (x233 + (1 : Int))) x253 x254))
                                        | x => none
                                      | none => none
                                    | none => none
                                  else none
                                | x => none
                              | none => none
                            | none => none
                          else none
                      else none
                    | x => none
                  | none => none
                | none => none
              else none
            else none
          | x => none
        | none => none
      | none => none
    else none
  else some (Sum.inr (Ex.exit (2 : Nat), e1x2)) := by kernel_rfl
theorem behind0r {β : Type} (s : ByteArray) (k : List TV → List TV → Option β) : applyK X (finK Tryd.prog Tryd.f4 [TV.d true (0 : Nat) (D.str s)] k)
    [Kf.block (0 : Nat) (72 : Nat), Kf.seq [] (sub [(1 : Nat), (1 : Nat), (1 : Nat), (1 : Nat), (1 : Nat), (1 : Nat), (1 : Nat), (1 : Nat)] (body Tryd.f4)) (4 : Nat)] Ex.ret e0r =
    k [TV.d false (0 : Nat) (D.bool false)] [] := by kernel_rfl
theorem behind0x0 {β : Type} (s : ByteArray) (x183 : List D) (x184 : ByteArray) (k : List TV → List TV → Option β) : applyK X (finK Tryd.prog Tryd.f4 [TV.d true (0 : Nat) (D.str s)] k)
    [Kf.block (0 : Nat) (72 : Nat), Kf.seq [] (sub [(1 : Nat), (1 : Nat), (1 : Nat), (1 : Nat), (1 : Nat), (1 : Nat), (1 : Nat), (1 : Nat)] (body Tryd.f4)) (4 : Nat)] (Ex.exit (0 : Nat)) (e0x0 x183 x184) =
    if decide ((↑(ByteArray.size x184) : Int) > (65536 : Int)) = true then k [TV.d false (0 : Nat) (D.bool true)] []
  else
    match Nat.ble (ByteArray.size x184) (65536 : Nat) with
    | false => k [TV.d false (0 : Nat) (D.bool false)] []
    | true =>
      match tokS (ByteArray.toList x184) with
      | Sum.inl (n392, p393) => k [TV.d false (0 : Nat) (D.bool false)] []
      | Sum.inr l397 =>
        if (!(↑(List.length (List.map tokT l397)) : Int) == (↑(List.length x183) : Int)) = true then k [TV.d false (0 : Nat) (D.bool false)] []
        else
          goLp X [((2 : Nat), (0 : Nat))]
            (sub [(1 : Nat), (1 : Nat), (1 : Nat), (1 : Nat), (1 : Nat), (1 : Nat), (1 : Nat), (1 : Nat), (1 : Nat), (1 : Nat), (1 : Nat), (0 : Nat), (1 : Nat), (0 : Nat), (0 : Nat)] (body Tryd.f4))
            [Kf.block (2 : Nat) (0 : Nat), Kf.seq [] (sub [(1 : Nat), (1 : Nat), (1 : Nat), (1 : Nat), (1 : Nat), (1 : Nat), (1 : Nat), (1 : Nat), (1 : Nat), (1 : Nat), (1 : Nat), (1 : Nat)] (body Tryd.f4)) (4 : Nat)]
            (finK Tryd.prog Tryd.f4 [TV.d true (0 : Nat) (D.str s)] k) (s1 (0 : Int) x183 (List.map tokT l397)) := by kernel_rfl
theorem behind1r {β : Type} (s : ByteArray) (k : List TV → List TV → Option β) : applyK X (finK Tryd.prog Tryd.f4 [TV.d true (0 : Nat) (D.str s)] k)
    [Kf.block (2 : Nat) (0 : Nat), Kf.seq [] (sub [(1 : Nat), (1 : Nat), (1 : Nat), (1 : Nat), (1 : Nat), (1 : Nat), (1 : Nat), (1 : Nat), (1 : Nat), (1 : Nat), (1 : Nat), (1 : Nat)] (body Tryd.f4)) (4 : Nat)] Ex.ret e1r =
    k [TV.d false (0 : Nat) (D.bool false)] [] := by kernel_rfl
theorem behind1x2 {β : Type} (s : ByteArray) (k : List TV → List TV → Option β) : applyK X (finK Tryd.prog Tryd.f4 [TV.d true (0 : Nat) (D.str s)] k)
    [Kf.block (2 : Nat) (0 : Nat), Kf.seq [] (sub [(1 : Nat), (1 : Nat), (1 : Nat), (1 : Nat), (1 : Nat), (1 : Nat), (1 : Nat), (1 : Nat), (1 : Nat), (1 : Nat), (1 : Nat), (1 : Nat)] (body Tryd.f4)) (4 : Nat)]
    (Ex.exit (2 : Nat)) e1x2 =
    k [TV.d false (0 : Nat) (D.bool true)] [] := by kernel_rfl
theorem j0_eq (s : ByteArray) (x152 : List D) (x153 : Int) (x154 : ByteArray) (x155 : Int) (x156 : ByteArray) (x157 : Int) (x158 : ByteArray) (x159 : Int) : applyK X (finR X [((0 : Nat), (72 : Nat))] (sub [(1 : Nat), (1 : Nat), (1 : Nat), (1 : Nat), (1 : Nat), (1 : Nat), (1 : Nat), (0 : Nat), (1 : Nat), (0 : Nat), (0 : Nat)] (body Tryd.f4)))
    [Kf.seq [((1 : Nat), (233 : Nat)), ((0 : Nat), (72 : Nat))]
        (sub [(1 : Nat), (1 : Nat), (1 : Nat), (1 : Nat), (1 : Nat), (1 : Nat), (1 : Nat), (0 : Nat), (1 : Nat), (0 : Nat), (0 : Nat), (1 : Nat), (0 : Nat), (0 : Nat), (1 : Nat), (1 : Nat), (1 : Nat)] (body Tryd.f4))
        (233 : Nat),
      Kf.block (1 : Nat) (233 : Nat),
      Kf.seq [((0 : Nat), (72 : Nat))] (sub [(1 : Nat), (1 : Nat), (1 : Nat), (1 : Nat), (1 : Nat), (1 : Nat), (1 : Nat), (0 : Nat), (1 : Nat), (0 : Nat), (0 : Nat), (1 : Nat), (1 : Nat)] (body Tryd.f4)) (233 : Nat)]
    Ex.norm (j0 s x152 x153 x154 x155 x156 x157 x158 x159) =
    if decide (x159 < x153) = true then some (Sum.inr (Ex.ret, e0r))
  else
    if decide (IntKind.wrap IntKind.i64 (x159 + (↑(ByteArray.size x156) : Int)) > (↑(ByteArray.size s) : Int)) = true then some (Sum.inr (Ex.ret, e0r))
    else
      if
          (0 : Int) ≤ IntKind.wrap IntKind.i64 (x159 + (↑(ByteArray.size x156) : Int)) ∧
            IntKind.wrap IntKind.i64 (x159 + (↑(ByteArray.size x156) : Int)) ≤ (↑(ByteArray.size s) : Int) ∧ (0 : Int) ≤ x159 ∧ x159 ≤ IntKind.wrap IntKind.i64 (x159 + (↑(ByteArray.size x156) : Int)) then
        if (!ByteArray.toList (ByteArray.extract s (Int.toNat x159) (Int.toNat (IntKind.wrap IntKind.i64 (x159 + (↑(ByteArray.size x156) : Int))))) == ByteArray.toList x156) = true then some (Sum.inr (Ex.ret, e0r))
        else
          if (!(x157 == (0 : Int)) == (x155 == IntKind.wrap IntKind.i64 ((↑(List.length x152) : Int) - (1 : Int)))) = true then some (Sum.inr (Ex.ret, e0r))
          else
            if ByteArray.size x154 + (1 : Nat) ≤ (9223372036854775807 : Nat) then
              if ByteArray.size (x154 ++ { data := #[(32 : UInt8)] }) + ByteArray.size x156 ≤ (9223372036854775807 : Nat) then
                if ByteArray.size (x154 ++ { data := #[(32 : UInt8)] } ++ x156) + (6 : Nat) ≤ (9223372036854775807 : Nat) then
                  some
                    (Sum.inl
                      (s0 s (IntKind.wrap IntKind.i64 (x159 + (↑(ByteArray.size x156) : Int)))
                        (x154 ++ { data := #[(32 : UInt8)] } ++ x156 ++ { data := #[(32 : UInt8), (47 : UInt8), (47 : UInt8), (32 : UInt8), (120 : UInt8), (10 : UInt8)] }) (IntKind.wrap IntKind.i64 (x155 + (1 : Int)))
                        x152))
                else none
              else none
            else none
      else none := by kernel_rfl
end F4


end Go.Sd

namespace Go.Sd
open Go Go.Cm Go.Proofs Go.Sc
set_option maxRecDepth 100000

/-- A token's bytes in the text. -/
def rawT (x : Tok) : T8 := if x.1 = 3 then 34 :: (x.2.1 ++ [34]) else x.2.1
/-- Tokens lie one behind the other, are what stands there, and would be the same with a blank behind each. -/
def Good (L : T8) : Nat → List Tok → Prop
  | _, [] => False
  | p, x :: r => match r with
    | [] => x = (0, [], L.length) ∧ p ≤ L.length
    | y :: r => p ≤ x.2.2 ∧ x.1 ≠ 0 ∧ 1 ≤ (rawT x).length ∧ x.2.2 + (rawT x).length ≤ L.length ∧ (L.drop x.2.2).take (rawT x).length = rawT x ∧
      (∀ rest, oneL (rawT x ++ 32 :: rest) = .inr (x.1, x.2.1, (rawT x).length)) ∧ Good L (x.2.2 + (rawT x).length) (y :: r)
theorem takeWhile_stop {p : UInt8 → Bool} {l : T8} {c : UInt8} (hc : p c = false) (rest : T8) : ((l.takeWhile p) ++ c :: rest).takeWhile p = l.takeWhile p := by
  induction l with
  | nil => simp [hc]
  | cons b l ih =>
    rw [List.takeWhile_cons]
    split
    · rename_i h
      rw [List.cons_append, List.takeWhile_cons, if_pos h, ih]
    · simp [hc]
theorem runL_take (p : Int → Bool) (l : T8) : l.take (runL p l) = l.takeWhile fun c => p (kindI c.toNat) := by
  unfold runL
  exact (List.prefix_iff_eq_take.1 (List.takeWhile_prefix _)).symm
theorem runL_again (p : Int → Bool) (l : T8) (hp : p (-1) = false) (rest : T8) : runL p (l.take (runL p l) ++ 32 :: rest) = runL p l := by
  rw [runL_take]
  show ((l.takeWhile (fun c => p (kindI c.toNat)) ++ 32 :: rest).takeWhile (fun c => p (kindI c.toNat))).length = runL p l
  rw [takeWhile_stop (p := fun c => p (kindI c.toNat)) (c := 32) (by
    have : kindI ((32 : UInt8).toNat : Int) = -1 := by decide
    simp only [this]; exact hp)]
  rfl
theorem byte34 {c : UInt8} (h : kindI c.toNat = 3) : c = 34 := by
  have := (quo_kind c).2 h
  have k : ((c.toNat : Int) == 34) = (c == 34) := byte_eq c 34 (by omega)
  rw [k] at this
  exact eq_of_beq this
theorem takeWhile_len_lt {p : UInt8 → Bool} : ∀ {l : T8}, (l.takeWhile p).length < l.length → ∃ c, l[(l.takeWhile p).length]? = some c ∧ p c = false
  | [], h => by simp at h
  | b :: l, h => by
    rw [List.takeWhile_cons] at h ⊢
    split
    · rename_i hb
      rw [if_pos hb] at h
      obtain ⟨c, h1, h2⟩ := takeWhile_len_lt (p := p) (l := l) (by simpa using h)
      exact ⟨c, by simpa using h1, h2⟩
    · rename_i hb
      exact ⟨b, by simp, by simpa using hb⟩
theorem take_takeWhile {p : UInt8 → Bool} (l : T8) : l.take (l.takeWhile p).length = l.takeWhile p := (List.prefix_iff_eq_take.1 (List.takeWhile_prefix _)).symm
/-- What a label is made of. -/
theorem quoted_raw {l r : T8} (h : l = 34 :: r) (hq : 0 < quotedL l) : l.take (quotedL l) = 34 :: ((l.drop 1).take (quotedL l - 2) ++ [34]) ∧
    ∀ rest, quotedL ((34 :: ((l.drop 1).take (quotedL l - 2) ++ [34])) ++ rest) = quotedL l := by
  subst h
  have hz : ∀ r : T8, quotedL (34 :: r) = if r.length ≤ (r.takeWhile fun c => c != 34).length then 0 else
    if (r.takeWhile fun c => c != 34).length < 1 ∨ 32 < (r.takeWhile fun c => c != 34).length then 0 else
    if (r.take (r.takeWhile fun c => c != 34).length).all okQ = true then (r.takeWhile fun c => c != 34).length + 2 else 0 := fun _ => rfl
  have hv : quotedL (34 :: r) = (r.takeWhile fun c => c != 34).length + 2 ∧ (r.takeWhile fun c => c != 34).length < r.length ∧ 1 ≤ (r.takeWhile fun c => c != 34).length ∧ (r.takeWhile fun c => c != 34).length ≤ 32 ∧
      (r.take (r.takeWhile fun c => c != 34).length).all okQ = true := by
    rw [hz] at hq ⊢
    split
    · rename_i h1; rw [if_pos h1] at hq; omega
    · rename_i h1
      rw [if_neg h1] at hq
      split
      · rename_i h2; rw [if_pos h2] at hq; omega
      · rename_i h2
        rw [if_neg h2] at hq
        split
        · rename_i h3; exact ⟨rfl, by omega, by omega, by omega, h3⟩
        · rename_i h3; rw [if_neg h3] at hq; omega
  obtain ⟨e, h1, h2, h3, h4⟩ := hv
  obtain ⟨c, hc, hcn⟩ := takeWhile_len_lt h1
  have hc34 : c = 34 := by simpa using hcn
  subst hc34
  rw [e]
  simp only [List.drop_succ_cons, List.drop_zero, Nat.add_sub_cancel]
  have ht := take_takeWhile (p := fun c => c != 34) r
  constructor
  · rw [List.take_succ_cons, List.take_add_one, hc]
    rfl
  · intro rest
    have hw : ((r.take (r.takeWhile fun c => c != 34).length ++ [34]) ++ rest).takeWhile (fun c => c != 34) = r.takeWhile fun c => c != 34 := by
      rw [ht, List.append_assoc]
      exact takeWhile_stop (by decide) rest
    rw [List.cons_append, hz, hw]
    have hl : (r.take (r.takeWhile fun c => c != 34).length ++ [34] ++ rest).length = (r.takeWhile fun c => c != 34).length + 1 + rest.length := by
      simp [ht]; omega
    have htk : (r.take (r.takeWhile fun c => c != 34).length ++ [34] ++ rest).take (r.takeWhile fun c => c != 34).length = r.take (r.takeWhile fun c => c != 34).length := by
      rw [List.append_assoc]
      have : (r.take (r.takeWhile fun c => c != 34).length).length = (r.takeWhile fun c => c != 34).length := by rw [ht]
      exact List.take_left' this
    rw [hl, htk, if_neg (by omega), if_neg (by omega), if_pos h4]
theorem mark_again {l r : T8} {c : UInt8} (h : l = c :: r) (hm : markL l ≠ 0) (rest : T8) : markL (l.take (markL l) ++ 32 :: rest) = markL l := by
  unfold markL at hm ⊢
  by_cases h1 : marks.any (·.isPrefixOf l) = true
  · simp only [if_pos h1]
    have h2 := h1
    rw [List.any_eq_true] at h2
    obtain ⟨m, hm1, hp⟩ := h2
    rw [List.isPrefixOf_iff_prefix] at hp
    have hml : m.length = 2 := by
      simp only [marks, List.mem_cons, List.not_mem_nil, or_false] at hm1
      rcases hm1 with rfl | rfl | rfl | rfl | rfl | rfl <;> rfl
    have ht : l.take 2 = m := by
      have := List.prefix_iff_eq_take.1 hp
      rw [hml] at this
      exact this.symm
    rw [if_pos (List.any_eq_true.2 ⟨m, hm1, by rw [ht, List.isPrefixOf_iff_prefix]; exact List.prefix_append _ _⟩)]
  · simp only [if_neg h1] at hm ⊢
    by_cases h46 : l.head? = some 46
    · rw [if_pos h46] at hm; exact (hm rfl).elim
    · simp only [if_neg h46]
      rw [h, List.head?_cons] at h46
      have e : (c :: r).take 1 ++ 32 :: rest = c :: 32 :: rest := rfl
      rw [h, e]
      have hno : ¬ marks.any (·.isPrefixOf (c :: 32 :: rest)) = true := by
        rw [List.any_eq_true]
        rintro ⟨m, hm1, hp⟩
        simp only [marks, List.mem_cons, List.not_mem_nil, or_false] at hm1
        rcases hm1 with rfl | rfl | rfl | rfl | rfl | rfl <;> simp [List.isPrefixOf] at hp
      rw [if_neg hno, if_neg (by simpa using h46)]
theorem oneL_again {l : T8} {k : Int} {t : T8} {m : Nat} (p : Nat) (h : oneL l = .inr (k, t, m)) : k ≠ 0 ∧ l.take m = rawT (k, t, p) ∧ (rawT (k, t, p)).length = m ∧
    ∀ rest, oneL (rawT (k, t, p) ++ 32 :: rest) = .inr (k, t, m) := by
  have hlen := oneL_len h
  cases l with
  | nil => simp [oneL] at h
  | cons c r =>
    have fin : ∀ {k : Int} {t : T8} {m : Nat}, m ≤ (c :: r).length → (c :: r).take m = rawT (k, t, p) → (rawT (k, t, p)).length = m := fun hm e => by rw [← e, List.length_take]; omega
    rw [oneL_eq rfl] at h
    by_cases k1 : kindI c.toNat = 1
    · rw [if_pos k1] at h
      simp only [Sum.inr.injEq, Prod.mk.injEq] at h
      obtain ⟨rfl, rfl, rfl⟩ := h
      have hr : (c :: r).take (runL may1 (c :: r)) = rawT (1, (c :: r).take (runL may1 (c :: r)), p) := rfl
      refine ⟨by decide, hr, fin hlen.2 hr, fun rest => ?_⟩
      have ha := runL_again may1 (c :: r) rfl rest
      show oneL ((c :: r).take (runL may1 (c :: r)) ++ 32 :: rest) = _
      obtain ⟨n, hn⟩ : ∃ n, runL may1 (c :: r) = n + 1 := ⟨runL may1 (c :: r) - 1, by omega⟩
      have e : (c :: r).take (runL may1 (c :: r)) ++ 32 :: rest = c :: (r.take n ++ 32 :: rest) := by rw [hn]; rfl
      rw [oneL_eq e, if_pos k1, ha, List.take_left' (by rw [List.length_take]; omega)]
    rw [if_neg k1] at h
    by_cases k2 : kindI c.toNat = 2
    · rw [if_pos k2] at h
      split at h
      · rename_i hv
        simp only [Sum.inr.injEq, Prod.mk.injEq] at h
        obtain ⟨rfl, rfl, rfl⟩ := h
        have hr : (c :: r).take (runL may2 (c :: r)) = rawT (2, (c :: r).take (runL may2 (c :: r)), p) := rfl
        refine ⟨by decide, hr, fin hlen.2 hr, fun rest => ?_⟩
        have ha := runL_again may2 (c :: r) rfl rest
        show oneL ((c :: r).take (runL may2 (c :: r)) ++ 32 :: rest) = _
        obtain ⟨n, hn⟩ : ∃ n, runL may2 (c :: r) = n + 1 := ⟨runL may2 (c :: r) - 1, by omega⟩
        have e : (c :: r).take (runL may2 (c :: r)) ++ 32 :: rest = c :: (r.take n ++ 32 :: rest) := by rw [hn]; rfl
        rw [oneL_eq e, if_neg k1, if_pos k2, ha, List.take_left' (by rw [List.length_take]; omega), if_pos hv]
      · cases h
    rw [if_neg k2] at h
    by_cases k3 : kindI c.toNat = 3
    · have h34 := byte34 k3
      subst h34
      rw [if_pos k3] at h
      split at h
      · rename_i hq
        simp only [Sum.inr.injEq, Prod.mk.injEq] at h
        obtain ⟨rfl, rfl, rfl⟩ := h
        obtain ⟨q1, q2⟩ := quoted_raw rfl hq
        have hr : (34 :: r).take (quotedL (34 :: r)) = rawT (3, ((34 :: r).drop 1).take (quotedL (34 :: r) - 2), p) := by rw [q1]; rfl
        have hl := fin hlen.2 hr
        refine ⟨by decide, hr, hl, fun rest => ?_⟩
        have q3 := q2 (32 :: rest)
        have e : rawT (3, ((34 :: r).drop 1).take (quotedL (34 :: r) - 2), p) ++ 32 :: rest = 34 :: ((((34 :: r).drop 1).take (quotedL (34 :: r) - 2) ++ [34]) ++ 32 :: rest) := rfl
        rw [oneL_eq e, if_neg k1, if_neg k2, if_pos k3]
        have e2 : rawT (3, ((34 :: r).drop 1).take (quotedL (34 :: r) - 2), p) ++ 32 :: rest = (34 :: (((34 :: r).drop 1).take (quotedL (34 :: r) - 2) ++ [34])) ++ 32 :: rest := rfl
        rw [e2, q3, if_pos hq]
        have hlen2 : (((34 :: r).drop 1).take (quotedL (34 :: r) - 2)).length = quotedL (34 :: r) - 2 := by
          have := hl
          simp only [rawT, if_true, List.length_cons, List.length_append, List.length_nil] at this
          omega
        congr 3
        rw [List.cons_append, List.drop_succ_cons, List.drop_zero, List.append_assoc, List.take_left' hlen2]
      · cases h
    rw [if_neg k3] at h
    by_cases k4 : kindI c.toNat = 4
    · rw [if_pos k4] at h
      split at h
      · cases h
      · rename_i hm
        simp only [Sum.inr.injEq, Prod.mk.injEq] at h
        obtain ⟨rfl, rfl, rfl⟩ := h
        have hr : (c :: r).take (markL (c :: r)) = rawT (4, (c :: r).take (markL (c :: r)), p) := rfl
        refine ⟨by decide, hr, fin hlen.2 hr, fun rest => ?_⟩
        have ha := mark_again rfl hm rest
        show oneL ((c :: r).take (markL (c :: r)) ++ 32 :: rest) = _
        obtain ⟨n, hn⟩ : ∃ n, markL (c :: r) = n + 1 := ⟨markL (c :: r) - 1, by omega⟩
        have e : (c :: r).take (markL (c :: r)) ++ 32 :: rest = c :: (r.take n ++ 32 :: rest) := by rw [hn]; rfl
        rw [oneL_eq e, if_neg k1, if_neg k2, if_neg k3, if_pos k4, ha, if_neg hm, List.take_left' (by rw [List.length_take]; omega)]
    · rw [if_neg k4] at h; cases h
end Go.Sd

namespace Go.Sd
open Go Go.Cm Go.Proofs Go.Sc
set_option maxRecDepth 100000

theorem blankL_one {l : T8} {x : Int × T8 × Nat} (h : oneL l = .inr x) : blankL l = 0 := by
  cases l with
  | nil => simp [oneL] at h
  | cons c r =>
    have hk : kindI c.toNat ≠ -1 := by
      intro hk
      rw [oneL_eq rfl, hk] at h
      simp at h
    refine blankL_no c r ?_ ?_
    · cases hw : isWs c with
      | false => rfl
      | true =>
        simp only [isWs, Bool.or_eq_true, beq_iff_eq] at hw
        rcases hw with ((rfl | rfl) | rfl) | rfl <;> exact (hk (by decide)).elim
    · cases hp : List.isPrefixOf [47, 47] (c :: r) with
      | false => rfl
      | true =>
        have : c = 47 := by
          rw [List.isPrefixOf_iff_prefix] at hp
          obtain ⟨t, ht⟩ := hp
          simp at ht
          exact ht.1.symm
        subst this
        exact (hk (by decide)).elim
theorem toksL_good (L : T8) : ∀ (n : Nat) (p q : Nat) (ts : List Tok), q ≤ p → p ≤ L.length → toksL n (L.drop p) p = .inr ts → Good L q ts
  | 0, p, q, ts, _, _, h => by simp [toksL] at h
  | n + 1, p, q, ts, hq, hp, h => by
    rcases Nat.lt_or_ge p L.length with hlt | hge
    · obtain ⟨c, hc, hd⟩ := drop_at hlt
      have ht : toksL (n + 1) (L.drop p) p = (match oneL (L.drop p) with
            | .inl e => .inl (e, p)
            | .inr (k, t, m) => match toksL n (((L.drop p).drop m).drop (blankL ((L.drop p).drop m))) (p + m + blankL ((L.drop p).drop m)) with
              | .inl e => .inl e
              | .inr r => .inr ((k, t, p) :: r)) := by
            rw [hd]; rfl
      rw [ht] at h
      cases ho : oneL (L.drop p) with
      | inl e => rw [ho] at h; cases h
      | inr x =>
        obtain ⟨k, t, m⟩ := x
        rw [ho] at h
        simp only at h
        obtain ⟨m1, m2⟩ := oneL_len ho
        rw [List.length_drop] at m2
        have hb := blankL_le _ ((L.drop p).drop m) (Nat.le_refl _)
        have e0 : (L.drop p).drop m = L.drop (p + m) := List.drop_drop
        rw [e0, List.length_drop] at hb
        rw [e0, List.drop_drop] at h
        cases hk : toksL n (L.drop (p + m + blankL (L.drop (p + m)))) (p + m + blankL (L.drop (p + m))) with
        | inl e => rw [hk] at h; cases h
        | inr us =>
          rw [hk] at h
          simp only [Sum.inr.injEq] at h
          subst h
          obtain ⟨o1, o2, o3, o4⟩ := oneL_again p ho
          have hg := toksL_good L n (p + m + blankL (L.drop (p + m))) (p + m) us (by omega) (by omega) hk
          cases us with
          | nil => exact hg.elim
          | cons y us =>
            refine ⟨hq, o1, by rw [o3]; omega, by rw [o3]; simp only; omega, by rw [o3]; exact o2, fun rest => by rw [o3]; exact o4 rest, ?_⟩
            rw [o3]; exact hg
    · have : p = L.length := by omega
      subst this
      rw [List.drop_length] at h
      simp only [toksL, Sum.inr.injEq] at h
      subst h
      exact ⟨rfl, hq⟩

/-- The wide text. -/
def wideL (ts : List Tok) : T8 := ts.flatMap fun x => 32 :: (rawT x ++ [32, 47, 47, 32, 120, 10])
theorem wideL_cons (x : Tok) (r : List Tok) : wideL (x :: r) = 32 :: (rawT x ++ 32 :: ([47, 47, 32, 120, 10] ++ wideL r)) := by
  simp [wideL]
theorem blankL_gap (l : T8) : blankL (32 :: ([47, 47, 32, 120, 10] ++ l)) = 6 + blankL l := by
  have e : (32 :: ([47, 47, 32, 120, 10] ++ l) : T8) = 32 :: 47 :: 47 :: 32 :: 120 :: 10 :: l := rfl
  have h := blankL_line (32 :: 120 :: 10 :: l)
  have hl : lineL (47 :: 47 :: 32 :: 120 :: 10 :: l) = 4 := by
    rw [lineL_cons, if_neg (by decide), lineL_cons, if_neg (by decide), lineL_cons, if_neg (by decide), lineL_cons, if_neg (by decide), lineL_cons, if_pos rfl]
  rw [hl] at h
  rw [e, blankL_ws _ _ rfl, h, List.drop_succ_cons, List.drop_succ_cons, List.drop_succ_cons, List.drop_succ_cons, List.drop_zero]
  have h10 : blankL (10 :: l) = 1 + blankL l := blankL_ws _ _ rfl
  omega
theorem wide_toks (L : T8) : ∀ (r : List Tok) (x : Tok) (p : Nat), Good L p (x :: r) → ∀ (n q : Nat), (wideL (x :: r)).length < n →
    ∃ us, toksL n ((wideL (x :: r)).drop (blankL (wideL (x :: r)))) q = .inr us ∧ us.map (fun x => (x.1, x.2.1)) = (x :: r).map fun x => (x.1, x.2.1)
  | [], x, p, hg, n, q, hn => by
    obtain ⟨rfl, _⟩ := hg
    obtain ⟨m, rfl⟩ : ∃ m, n = m + 1 := ⟨n - 1, by omega⟩
    have e : wideL [(0, [], L.length)] = 32 :: (32 :: ([47, 47, 32, 120, 10] ++ [])) := rfl
    rw [e, blankL_ws _ _ rfl, blankL_gap, blankL_nil]
    exact ⟨[(0, [], q)], rfl, rfl⟩
  | y :: r, x, p, hg, n, q, hn => by
    obtain ⟨g1, g2, g3, g4, g5, g6, g7⟩ := hg
    rw [wideL_cons] at hn ⊢
    have ho := g6 ([47, 47, 32, 120, 10] ++ wideL (y :: r))
    obtain ⟨m, rfl⟩ : ∃ m, n = m + 1 := ⟨n - 1, by omega⟩
    rw [blankL_ws _ _ rfl, blankL_one ho, List.drop_succ_cons, List.drop_zero]
    have hne : ∃ c t, rawT x ++ 32 :: ([47, 47, 32, 120, 10] ++ wideL (y :: r)) = c :: t := by
      cases hx : rawT x with
      | nil => rw [hx] at g3; simp at g3
      | cons c t => exact ⟨c, _, rfl⟩
    obtain ⟨c, t, hct⟩ := hne
    have ht : ∀ (q : Nat) (l : T8), l = c :: t → toksL (m + 1) l q = (match oneL l with
            | .inl e => .inl (e, q)
            | .inr (k, t, i) => match toksL m ((l.drop i).drop (blankL (l.drop i))) (q + i + blankL (l.drop i)) with
              | .inl e => .inl e
              | .inr r => .inr ((k, t, q) :: r)) := fun q l hl => by rw [hl]; rfl
    rw [ht q _ hct, ho]
    simp only [List.drop_left, blankL_gap]
    have hdr : ∀ b, (32 :: ([47, 47, 32, 120, 10] ++ wideL (y :: r))).drop (6 + b) = (wideL (y :: r)).drop b := fun b => by
      rw [← List.drop_drop]; rfl
    rw [hdr]
    obtain ⟨us, h1, h2⟩ := wide_toks L r y _ g7 m (q + (rawT x).length + (6 + blankL (wideL (y :: r)))) (by simp at hn; omega)
    rw [h1]
    exact ⟨_, rfl, by rw [List.map_cons, h2]; rfl⟩

theorem B_app (a b : T8) : B a ++ B b = B (a ++ b) := by
  apply ByteArray.ext
  simp [B, ByteArray.data_append]
theorem places_round (L : T8) (hL : L.length ≤ 3000) (x : Tok) (p : Nat) (w : T8) (pre r : List Tok) (hp : p ≤ x.2.2) (hle : x.2.2 + (rawT x).length ≤ L.length)
    (hcut : (L.drop x.2.2).take (rawT x).length = rawT x) (hw : w.length ≤ 20000000) (hpre : pre.length ≤ 4000) (hr : r.length ≤ 4000) (hend : x.1 = 0 ↔ r = []) :
    F4.L0 (F4.s0 (B L) p (B w) pre.length ((pre ++ x :: r).map tokT)) =
    some (.inl (F4.s0 (B L) ((x.2.2 + (rawT x).length : Nat)) (B (w ++ (32 :: (rawT x ++ [32, 47, 47, 32, 120, 10])))) ((pre.length + 1 : Nat)) ((pre ++ x :: r).map tokT))) := by
  refine (F4.round0 _ _ _ _ _).trans ?_
  obtain ⟨k, t, pos⟩ := x
  have hg : ((pre ++ (k, t, pos) :: r).map tokT)[pre.length]? = some (tokT (k, t, pos)) := by simp
  rw [List.length_map, if_pos (by simp; omega), if_pos (by simp; omega), Int.toNat_natCast, hg]
  simp only [tokT, if_true]
  simp only at hp hle hcut hend
  have fin : applyK F4.X (finR F4.X [(0, 72)] (sub [1, 1, 1, 1, 1, 1, 1, 0, 1, 0, 0] (body Tryd.f4)))
      [Kf.seq [(1, 233), (0, 72)] (sub [1, 1, 1, 1, 1, 1, 1, 0, 1, 0, 0, 1, 0, 0, 1, 1, 1] (body Tryd.f4)) 233, Kf.block 1 233,
        Kf.seq [(0, 72)] (sub [1, 1, 1, 1, 1, 1, 1, 0, 1, 0, 0, 1, 1] (body Tryd.f4)) 233]
      Ex.norm (F4.j0 (B L) ((pre ++ (k, t, pos) :: r).map tokT) p (B w) pre.length (B (rawT (k, t, pos))) k (B t) pos) =
      some (.inl (F4.s0 (B L) ((pos + (rawT (k, t, pos)).length : Nat)) (B (w ++ (32 :: (rawT (k, t, pos) ++ [32, 47, 47, 32, 120, 10])))) ((pre.length + 1 : Nat)) ((pre ++ (k, t, pos) :: r).map tokT))) := by
    rw [F4.j0_eq]
    generalize rawT (k, t, pos) = z at *
    have w0 : IntKind.wrap .i64 ((pos : Int) + (z.length : Int)) = ((pos + z.length : Nat) : Int) := by rw [wrap_id (by omega) (by omega)]; omega
    have e32 : (⟨#[32]⟩ : ByteArray) = B [32] := rfl
    have e6 : (⟨#[32, 47, 47, 32, 120, 10]⟩ : ByteArray) = B [32, 47, 47, 32, 120, 10] := rfl
    rw [e32, e6]
    simp only [B_app, B_size, w0, Int.toNat_natCast, B_cut, B_list, show pos + z.length - pos = z.length by omega, hcut]
    rw [if_neg (by simp; omega), if_neg (by simp; omega), if_pos (by omega), if_neg (by simp)]
    have w1' : IntKind.wrap .i64 (((((pre ++ (k, t, pos) :: r).map tokT).length : Nat) : Int) - 1) = ((pre.length + r.length : Nat) : Int) := by
      rw [wrap_id (by simp; omega) (by simp; omega)]; simp; omega
    rw [w1', w1 (n := 0) (by omega)]
    have hz : ((k == 0) == ((pre.length : Int) == ((pre.length + r.length : Nat) : Int))) = true := by
      rw [beq_iff_eq, Bool.eq_iff_iff]
      simp only [beq_iff_eq]
      rw [hend]
      constructor
      · intro h; subst h; simp
      · intro h; exact List.eq_nil_of_length_eq_zero (by omega)
    rw [hz, if_neg (by simp), if_pos (by simp; omega), if_pos (by simp; omega), if_pos (by simp; omega)]
    try simp
  by_cases h3 : k = 3
  · have hz : rawT (k, t, pos) = 34 :: (t ++ [34]) := by simp [rawT, h3]
    have e34 : (⟨#[34]⟩ : ByteArray) = B [34] := rfl
    have hle2 := hle
    rw [hz] at hle2
    simp at hle2
    rw [if_pos (by simp [h3]), e34]
    simp only [B_app, B_size]
    rw [if_pos (by omega), if_pos (by simp; omega)]
    rw [hz] at fin ⊢
    rw [← fin]; rfl
  · have hz : rawT (k, t, pos) = t := by simp [rawT, h3]
    rw [if_neg (by simp [h3])]
    rw [hz] at fin ⊢
    exact fin
theorem places_loop (L : T8) (hL : L.length ≤ 3000) : ∀ (r : List Tok) (x : Tok) (p : Nat) (w : T8) (pre : List Tok), Good L p (x :: r) → pre.length + r.length ≤ 3500 → w.length ≤ pre.length * 4000 →
    Lp F4.L0 (F4.s0 (B L) p (B w) pre.length ((pre ++ x :: r).map tokT)) = some (.exit 0, F4.e0x0 ((pre ++ x :: r).map tokT) (B (w ++ wideL (x :: r))))
  | [], x, p, w, pre, hg, hn, hw => by
    obtain ⟨rfl, g2⟩ := hg
    have h1 := places_round L hL (0, [], L.length) p w pre [] g2 (by simp [rawT]) (by simp [rawT]) (by omega) (by omega) (by simp) (by simp)
    refine Lp_step h1 ?_
    have hr := F4.round0 (B L) ((L.length + (rawT (0, [], L.length)).length : Nat)) (B (w ++ (32 :: (rawT (0, [], L.length) ++ [32, 47, 47, 32, 120, 10])))) ((pre.length + 1 : Nat)) ((pre ++ [(0, [], L.length)]).map tokT)
    rw [List.length_map, if_neg (by simp)] at hr
    rw [Lp_exit hr]
    simp [wideL]
  | y :: r, x, p, w, pre, hg, hn, hw => by
    obtain ⟨g1, g2, g3, g4, g5, g6, g7⟩ := hg
    have h1 := places_round L hL x p w pre (y :: r) g1 g4 g5 (by omega) (by omega) (by simp at hn ⊢; omega) (by simp [g2])
    have ih := places_loop L hL r y _ (w ++ (32 :: (rawT x ++ [32, 47, 47, 32, 120, 10]))) (pre ++ [x]) g7 (by simp at hn ⊢; omega) (by simp; omega)
    refine Lp_step h1 ?_
    rw [List.append_assoc, List.singleton_append, List.length_append, List.length_singleton] at ih
    rw [ih, List.append_assoc]
    simp [wideL]
theorem same_loop (ts us : List Tok) (hs : us.map (fun x => (x.1, x.2.1)) = ts.map fun x => (x.1, x.2.1)) : ∀ (n i : Nat), i + n = ts.length → ts.length ≤ 70000 →
    Lp F4.L1 (F4.s1 i (ts.map tokT) (us.map tokT)) = some (.exit 2, F4.e1x2)
  | 0, i, h, hl => by
    have hr := F4.round1 i (ts.map tokT) (us.map tokT)
    rw [List.length_map, if_neg (by simp; omega)] at hr
    exact Lp_exit hr
  | n + 1, i, h, hl => by
    have hr := F4.round1 i (ts.map tokT) (us.map tokT)
    have hlen : us.length = ts.length := by have := congrArg List.length hs; simpa using this
    have hi : i < ts.length := by omega
    have hi2 : i < us.length := by omega
    have hg : (ts.map tokT)[i]? = some (tokT ts[i]) := by rw [List.getElem?_map, List.getElem?_eq_getElem hi]; rfl
    have hg2 : (us.map tokT)[i]? = some (tokT us[i]) := by rw [List.getElem?_map, List.getElem?_eq_getElem hi2]; rfl
    have he : (us[i].1, us[i].2.1) = (ts[i].1, ts[i].2.1) := by
      have := congrArg (fun l => l[i]?) hs
      simp only [List.getElem?_map, List.getElem?_eq_getElem hi, List.getElem?_eq_getElem hi2, Option.map_some, Option.some.injEq] at this
      exact this
    simp only [Prod.mk.injEq] at he
    have hb : (0 : Int) ≤ (i : Int) ∧ (i : Int) < (ts.length : Int) := by omega
    have hb2 : (0 : Int) ≤ (i : Int) ∧ (i : Int) < (us.length : Int) := by omega
    rw [List.length_map, List.length_map, if_pos (by simp; omega), if_pos hb2, Int.toNat_natCast, hg, hg2, w1 (n := 0) (by omega)] at hr
    simp only [tokT, if_pos hb, if_pos hb2] at hr
    simp [he.1, he.2] at hr
    exact Lp_step hr (same_loop ts us hs n (i + 1) (by omega) hl)
theorem places (s : ByteArray) {γ : Type} (q : List TV → List TV → Option γ) : evalF Tryd.prog E30 Tryd.f4 [.d true 0 (.str s)] q = q [.d false 0 (.bool true)] [] := by
  rw [F4.start]
  rw [B_of s]
  generalize s.data.toList = L
  rw [B_size, B_list]
  by_cases hL : L.length ≤ 3000
  · rw [if_neg (by simp; omega)]
    have hble : Nat.ble L.length 65536 = true := Nat.ble_eq_true_of_le (by omega)
    rw [hble]
    simp only
    cases ht : tokS L with
    | inl e => rfl
    | inr ts =>
      simp only
      have hgood : Good L 0 ts := toksL_good L (L.length + 1) (blankL L) 0 ts (by omega) (blankL_le _ L (Nat.le_refl _)) ht
      obtain ⟨us, e1, e2, _⟩ := tokS_last (by omega) ht
      have hlen : ts.length ≤ L.length + 1 := by rw [e1]; simp; omega
      cases ts with
      | nil => exact hgood.elim
      | cons x r =>
        have hl := places_loop L hL r x 0 [] [] hgood (by simp at hlen ⊢; omega) (by simp)
        rw [List.nil_append, List.nil_append, List.length_nil, show ((0 : Nat) : Int) = 0 from rfl] at hl
        have hB : (B [] : ByteArray) = ⟨#[]⟩ := rfl
        rw [hB] at hl
        rw [goLp_of hl, F4.behind0x0, B_size, B_list]
        by_cases hw : (wideL (x :: r)).length ≤ 65536
        · rw [if_neg (by simp; omega), Nat.ble_eq_true_of_le hw]
          obtain ⟨vs, h1, h2⟩ := wide_toks L r x 0 hgood ((wideL (x :: r)).length + 1) (blankL (wideL (x :: r))) (by omega)
          have ht2 : tokS (wideL (x :: r)) = .inr vs := h1
          rw [ht2]
          simp only [List.length_map]
          have hlv : vs.length = (x :: r).length := by have := congrArg List.length h2; simpa using this
          rw [hlv, if_neg (by simp)]
          have := same_loop (x :: r) vs h2 (x :: r).length 0 (by omega) (by omega)
          rw [show ((0 : Nat) : Int) = 0 from rfl] at this
          rw [goLp_of this, F4.behind1x2]
        · rw [if_pos (by simp; omega)]
  · rw [if_pos (by simp; omega)]
theorem valid_places (s : ByteArray) : Valid glS Tryd.prog 4 [.d true 0 (.str s)] [.d false 0 (.bool true)] [] := valid_of env30 mixed Tryd.func4 (by kernel_rfl) (places s _)
end Go.Sd

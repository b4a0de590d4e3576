/- Made by a program of the session's own (tools/gen_scan.py): what the functions of the scan laws come to, segment by segment. -/
import Derived.Test.YteogbcggkogjaaaDoorSa
import Derived.Test.YteogbcggkogjaaaDoorSh
set_option linter.unusedVariables false
set_option linter.unusedSimpArgs false
namespace Go.Sd
open Go Go.Cm Go.Proofs Go.Sc
set_option maxRecDepth 100000
namespace F8
/- rounds of the search: 3 -/
noncomputable def X : Fx := ⟨Tryd.prog, E30, 16, 2⟩
def s0 (l : List D) (x76 : List D) (x449 : Int) (x450 : Int) (x451 : Int) (x769 : List D) : S := ⟨Tm.mk (244 : Nat)
    [((1 : Nat), V.d true (0 : Nat) (D.sl (3 : Nat) l)), ((5 : Nat), V.rp (1099511767040 : Nat) (0 : Nat)), ((7 : Nat), V.own false (4 : Nat) x76), ((10 : Nat), V.d false (0 : Nat) (D.int IntKind.i64 x449)),
      ((11 : Nat), V.d false (0 : Nat) (D.int IntKind.i64 x450))], [((1099511767040 : Nat), true, [V.own false (4 : Nat) x769, V.d false (0 : Nat) (D.int IntKind.i64 x451)])]⟩
def e0r  : S := ⟨Tm.mk (244 : Nat) [((4 : Nat), V.d false (0 : Nat) (D.bool false))], []⟩
def e0x0  : S := ⟨Tm.mk (244 : Nat) [], []⟩
def j0 (l : List D) (x76 : List D) (x354 : Bool) (x804 : Int) (x805 : Int) (x806 : List D) (x807 : Int) (x808 : Int) (x809 : ByteArray) (x810 : Int) : S := ⟨Tm.mk (244 : Nat)
    [((1 : Nat), V.d true (0 : Nat) (D.sl (3 : Nat) l)), ((5 : Nat), V.rp (1099511767040 : Nat) (0 : Nat)), ((7 : Nat), V.own false (4 : Nat) x76), ((10 : Nat), V.d false (0 : Nat) (D.int IntKind.i64 x804)),
      ((11 : Nat), V.d false (0 : Nat) (D.int IntKind.i64 x805)), ((12 : Nat), V.rp (13 : Nat) (0 : Nat)), ((13 : Nat), V.d false (0 : Nat) (D.bool x354))], [((1099511767040 : Nat), true, [V.own false (4 : Nat) x806, V.d false (0 : Nat) (D.int IntKind.i64 x807)]),
    ((13 : Nat), true, [V.d false (0 : Nat) (D.int IntKind.i64 x808), V.d false (0 : Nat) (D.str x809), V.d false (0 : Nat) (D.int IntKind.i64 x810)])]⟩
noncomputable abbrev L0 : S → Option (S ⊕ (Ex × S)) := roundK X [((0 : Nat), (0 : Nat))] (sub [(1 : Nat), (1 : Nat), (1 : Nat), (1 : Nat), (1 : Nat), (1 : Nat), (1 : Nat), (1 : Nat), (0 : Nat), (1 : Nat), (0 : Nat), (0 : Nat)] (body Tryd.f8))
noncomputable abbrev G0 {β : Type} (s : ByteArray) (l : List D) (k : List TV → List TV → Option β) : S → Option β := goLp X [((0 : Nat), (0 : Nat))] (sub [(1 : Nat), (1 : Nat), (1 : Nat), (1 : Nat), (1 : Nat), (1 : Nat), (1 : Nat), (1 : Nat), (0 : Nat), (1 : Nat), (0 : Nat), (0 : Nat)] (body Tryd.f8))
    [Kf.block (0 : Nat) (0 : Nat), Kf.seq [] (sub [(1 : Nat), (1 : Nat), (1 : Nat), (1 : Nat), (1 : Nat), (1 : Nat), (1 : Nat), (1 : Nat), (1 : Nat)] (body Tryd.f8)) (16 : Nat)]
    (finK Tryd.prog Tryd.f8 [TV.d true (0 : Nat) (D.str s), TV.d true (0 : Nat) (D.sl (3 : Nat) l)] k)
noncomputable abbrev J0 : S → Option (S ⊕ (Ex × S)) := applyK X (finR X [((0 : Nat), (0 : Nat))] (sub [(1 : Nat), (1 : Nat), (1 : Nat), (1 : Nat), (1 : Nat), (1 : Nat), (1 : Nat), (1 : Nat), (0 : Nat), (1 : Nat), (0 : Nat), (0 : Nat)] (body Tryd.f8)))
    [Kf.seq [((1 : Nat), (3234 : Nat)), ((0 : Nat), (0 : Nat))]
        (sub [(1 : Nat), (1 : Nat), (1 : Nat), (1 : Nat), (1 : Nat), (1 : Nat), (1 : Nat), (1 : Nat), (0 : Nat), (1 : Nat), (0 : Nat), (0 : Nat), (1 : Nat), (0 : Nat), (0 : Nat), (1 : Nat), (1 : Nat), (1 : Nat)]
          (body Tryd.f8))
        (3234 : Nat),
      Kf.block (1 : Nat) (3234 : Nat),
      Kf.seq [((0 : Nat), (0 : Nat))] (sub [(1 : Nat), (1 : Nat), (1 : Nat), (1 : Nat), (1 : Nat), (1 : Nat), (1 : Nat), (1 : Nat), (0 : Nat), (1 : Nat), (0 : Nat), (0 : Nat), (1 : Nat), (1 : Nat)] (body Tryd.f8))
        (3234 : Nat)]
    Ex.norm
theorem start {β : Type} (s : ByteArray) (l : List D) (k : List TV → List TV → Option β) : evalF Tryd.prog E30 Tryd.f8 [TV.d true (0 : Nat) (D.str s), TV.d true (0 : Nat) (D.sl (3 : Nat) l)] k =
    if decide ((↑(ByteArray.size s) : Int) > (3000 : Int)) = true then k [TV.d false (0 : Nat) (D.bool true)] []
  else
    if decide ((↑(List.length l) : Int) > (200 : Int)) = true then k [TV.d false (0 : Nat) (D.bool true)] []
    else
      match Nat.ble (ByteArray.size s) (65536 : Nat) with
      | false =>
        match Nat.ble (ByteArray.size s) (65536 : Nat) with
        | false => k [TV.d false (0 : Nat) (D.bool true)] []
        | true =>
          match tokS (ByteArray.toList s) with
          | Sum.inl (n1172, p1173) => if (!n1172 == (0 : Int)) = true then k [TV.d false (0 : Nat) (D.bool ((2 : Int) == n1172))] [] else k [TV.d false (0 : Nat) (D.bool false)] []
          | Sum.inr l1180 => k [TV.d false (0 : Nat) (D.bool false)] []
      | true =>
        match tokS (ByteArray.toList s) with
        | Sum.inl (n1187, p1188) =>
          match Nat.ble (ByteArray.size s) (65536 : Nat) with
          | false => k [TV.d false (0 : Nat) (D.bool (n1187 == (2 : Int)))] []
          | true =>
            match tokS (ByteArray.toList s) with
            | Sum.inl (n1195, p1196) => if (!n1195 == (0 : Int)) = true then k [TV.d false (0 : Nat) (D.bool (n1187 == n1195))] [] else k [TV.d false (0 : Nat) (D.bool false)] []
            | Sum.inr l1203 => k [TV.d false (0 : Nat) (D.bool false)] []
        | Sum.inr l1209 =>
          match Nat.ble (ByteArray.size s) (65536 : Nat) with
          | false => k [TV.d false (0 : Nat) (D.bool false)] []
          | true =>
            match tokS (ByteArray.toList s) with
            | Sum.inl (n1216, p1217) => if (!n1216 == (0 : Int)) = true then k [TV.d false (0 : Nat) (D.bool false)] [] else G0 s l k (s0 l [] (0 : Int) (0 : Int) (0 : Int) (List.map tokT l1209))
            | Sum.inr l1225 => G0 s l k (s0 l (List.map tokT l1225) (0 : Int) (0 : Int) (0 : Int) (List.map tokT l1209)) := by kernel_rfl
theorem round0 (l : List D) (x76 : List D) (x449 : Int) (x450 : Int) (x451 : Int) (x769 : List D) : roundK X [((0 : Nat), (0 : Nat))] (sub [(1 : Nat), (1 : Nat), (1 : Nat), (1 : Nat), (1 : Nat), (1 : Nat), (1 : Nat), (1 : Nat), (0 : Nat), (1 : Nat), (0 : Nat), (0 : Nat)] (body Tryd.f8)) (s0 l x76 x449 x450 x451 x769) =
    if decide (x450 < (↑(List.length l) : Int)) = true then
    if (0 : Int) ≤ x449 ∧ x449 < (↑(List.length x76) : Int) then
      match x76[Int.toNat x449]? with
      | some x1235 =>
        match x1235 with
        | D.ag xs1236 =>
          match xs1236 with
          | x1237 :: r1238 =>
            match x1237 with
            | D.int j1239 m1240 =>
              if j1239 = IntKind.i64 then
                match r1238 with
                | x1241 :: r1242 =>
                  match x1241 with
                  | D.str s1243 =>
                    match r1242 with
                    | x1244 :: r1245 =>
                      match x1244 with
                      | D.int j1246 m1247 =>
                        if j1246 = IntKind.i64 then
                          match r1245 with
                          | [] =>
                            if (0 : Int) ≤ x451 then
                              match x769[Int.toNat x451]? with
                              | some (D.ag [D.int IntKind.i64 c1250, D.str t1251, D.int IntKind.i64 p1252]) =>
                                if (!(c1250 == m1240 && (ByteArray.toList t1251 == ByteArray.toList s1243 && (p1252 == m1247 && true)))) = true then some (Sum.inr (Ex.ret, e0r))
                                else
                                  if (m1240 == (1 : Int)) = true then
                                    if (0 : Int) ≤ x450 then
                                      match l[Int.toNat x450]? with
                                      | some x1256 =>
                                        match
                                          match x1256 with
                                          | D.ag xs => xs[(1 : Nat)]?
                                          | x => none with
                                        | some y1257 =>
                                          match y1257 with
                                          | D.str s1258 => J0 (j0 l x76 (ByteArray.toList s1243 == ByteArray.toList s1258) x449 x450 x769 x451 m1240 s1243 m1247)
                                          | x => none
                                        | none => none
                                      | none => none
                                    else none
                                  else
                                    if (m1240 == (4 : Int)) = true then
                                      if (0 : Int) ≤ x450 then
                                        match l[Int.toNat x450]? with
                                        | some x1259 =>
                                          match
                                            match x1259 with
                                            | D.ag xs => xs[(1 : Nat)]?
                                            | x => none with
                                          | some y1260 =>
                                            match y1260 with
                                            | D.str s1261 => J0 (j0 l x76 (ByteArray.toList s1243 == ByteArray.toList s1261) x449 x450 x769 x451 m1240 s1243 m1247)
                                            | x => none
                                          | none => none
                                        | none => none
                                      else none
                                    else J0 (j0 l x76 false x449 x450 x769 x451 m1240 s1243 m1247)
                              | x => none
                            else none
                          | x => none
                        else none
                      | x => none
                    | [] => none
                  | x => none
                | [] => none
              else none
            | x => none
          | [] => none
        | x => none
      | none => none
    else none
  else some (Sum.inr (Ex.exit (0 : Nat), e0x0)) := by kernel_rfl
theorem behind0r {β : Type} (s : ByteArray) (l : List D) (k : List TV → List TV → Option β) (s__ : S) (h__ : Lp L0 s__ = some (Ex.ret, e0r)) : G0 s l k s__ =
    k [TV.d false (0 : Nat) (D.bool false)] [] := (goLp_of h__).trans (by kernel_rfl)
theorem behind0x0 {β : Type} (s : ByteArray) (l : List D) (k : List TV → List TV → Option β) (s__ : S) (h__ : Lp L0 s__ = some (Ex.exit (0 : Nat), e0x0)) : G0 s l k s__ =
    k [TV.d false (0 : Nat) (D.bool true)] [] := (goLp_of h__).trans (by kernel_rfl)
theorem j0_eq (l : List D) (x76 : List D) (x354 : Bool) (x804 : Int) (x805 : Int) (x806 : List D) (x807 : Int) (x808 : Int) (x809 : ByteArray) (x810 : Int) : J0 (j0 l x76 x354 x804 x805 x806 x807 x808 x809 x810) =
    if (0 : Int) ≤ x805 then
    match l[Int.toNat x805]? with
    | some x1359 =>
      match
        match x1359 with
        | D.ag xs => xs[(0 : Nat)]?
        | x => none with
      | some y1360 =>
        match y1360 with
        | D.int j1361 m1362 =>
          if j1361 = IntKind.i64 then
            if (m1362 == (0 : Int)) = true then
              if (0 : Int) ≤ x807 ∧ x807 < (34359738368 : Int) then
                match x806[Int.toNat x807]? with
                | some (D.ag [D.int IntKind.i64 c1367, D.str t1368, D.int IntKind.i64 p1369]) =>
                  if (!c1367 == (0 : Int)) = true then
                    if (!(c1367 == x808 && (ByteArray.toList t1368 == ByteArray.toList x809 && (p1369 == x810 && true)))) = true then some (Sum.inr (Ex.ret, e0r))
                    else
                      if (!x808 == (0 : Int)) = true then some (Sum.inl (s0 l x76 (IntKind.wrap IntKind.i64 (x804 + (1 : Int))) (IntKind.wrap IntKind.i64 (x805 + (1 : Int))) (x807 + (1 : Int)) x806))
                      else some (Sum.inl (s0 l x76 x804 (IntKind.wrap IntKind.i64 (x805 + (1 : Int))) (x807 + (1 : Int)) x806))
                  else
                    if (!(c1367 == x808 && (ByteArray.toList t1368 == ByteArray.toList x809 && (p1369 == x810 && true)))) = true then some (Sum.inr (Ex.ret, e0r))
                    else
                      if (!x808 == (0 : Int)) = true then some (Sum.inl (s0 l x76 (IntKind.wrap IntKind.i64 (x804 + (1 : Int))) (IntKind.wrap IntKind.i64 (x805 + (1 : Int))) x807 x806))
                      else some (Sum.inl (s0 l x76 x804 (IntKind.wrap IntKind.i64 (x805 + (1 : Int))) x807 x806))
                | x => none
              else none
            else
              if (m1362 == (1 : Int)) = true then
                if (0 : Int) ≤ x805 then
                  match l[Int.toNat x805]? with
                  | some x1387 =>
                    match
                      match x1387 with
                      | D.ag xs => xs[(1 : Nat)]?
                      | x => none with
                    | some y1388 =>
                      match y1388 with
                      | D.str s1389 =>
                        if (0 : Int) ≤ x807 then
                          match x806[Int.toNat x807]? with
                          | some (D.ag [D.int IntKind.i64 c1390, D.str t1391, D.int IntKind.i64 n1392]) =>
                            if (!((c1390 == (1 : Int) || c1390 == (4 : Int)) && ByteArray.toList t1391 == ByteArray.toList s1389) == x354) = true then some (Sum.inr (Ex.ret, e0r))
                            else some (Sum.inl (s0 l x76 x804 (IntKind.wrap IntKind.i64 (x805 + (1 : Int))) x807 x806))
                          | x => none
                        else none
                      | x => none
                    | none => none
                  | none => none
                else none
              else
                if (m1362 == (2 : Int)) = true then
                  if (0 : Int) ≤ x805 then
                    match l[Int.toNat x805]? with
                    | some x1402 =>
                      match
                        match x1402 with
                        | D.ag xs => xs[(1 : Nat)]?
                        | x => none with
                      | some y1403 =>
                        match y1403 with
                        | D.str s1404 =>
                          if (0 : Int) ≤ x807 ∧ x807 < (34359738368 : Int) then
                            match x806[Int.toNat x807]? with
                            | some (D.ag [D.int IntKind.i64 c1405, D.str t1406, D.int IntKind.i64 n1407]) =>
                              if ((c1405 == (1 : Int) || c1405 == (4 : Int)) && ByteArray.toList t1406 == ByteArray.toList s1404) = true then
                                if (!true == x354) = true then some (Sum.inr (Ex.ret, e0r))
                                else
                                  if x354 = true then some (Sum.inl (s0 l x76 (IntKind.wrap IntKind.i64 (x804 + (1 : Int))) (IntKind.wrap IntKind.i64 (x805 + (1 : Int))) (x807 + (1 : Int)) x806))
                                  else some (Sum.inl (s0 l x76 x804 (IntKind.wrap IntKind.i64 (x805 + (1 : Int))) (x807 + (1 : Int)) x806))
                              else
                                if (!false == x354) = true then some (Sum.inr (Ex.ret, e0r))
                                else
                                  if x354 = true then some (Sum.inl (s0 l x76 (IntKind.wrap IntKind.i64 (x804 + (1 : Int))) (IntKind.wrap IntKind.i64 (x805 + (1 : Int))) x807 x806))
                                  else some (Sum.inl (s0 l x76 x804 (IntKind.wrap IntKind.i64 (x805 + (1 : Int))) x807 x806))
                            | x => none
                          else none
                        | x => none
                      | none => none
                    | none => none
                  else none
                else
                  if (m1362 == (3 : Int)) = true then
                    if (0 : Int) ≤ x805 then
                      match l[Int.toNat x805]? with
                      | some x1426 =>
                        match
                          match x1426 with
                          | D.ag xs => xs[(1 : Nat)]?
                          | x => none with
                        | some y1427 =>
                          match y1427 with
                          | D.str s1428 =>
                            if (0 : Int) ≤ x807 ∧ x807 < (34359738368 : Int) then
                              match x806[Int.toNat x807]? with
                              | some (D.ag [D.int IntKind.i64 c1429, D.str t1430, D.int IntKind.i64 p1431]) =>
                                if ((c1429 == (1 : Int) || c1429 == (4 : Int)) && ByteArray.toList t1430 == ByteArray.toList s1428) = true then
                                  if (!true == x354) = true then some (Sum.inr (Ex.ret, e0r))
                                  else
                                    if (!x354) = true then some (Sum.inr (Ex.ret, e0r))
                                    else
                                      if x354 = true then some (Sum.inl (s0 l x76 (IntKind.wrap IntKind.i64 (x804 + (1 : Int))) (IntKind.wrap IntKind.i64 (x805 + (1 : Int))) (x807 + (1 : Int)) x806))
                                      else some (Sum.inl (s0 l x76 x804 (IntKind.wrap IntKind.i64 (x805 + (1 : Int))) (x807 + (1 : Int)) x806))
                                else
                                  if (!false == x354) = true then some (Sum.inr (Ex.ret, e0r))
                                  else
                                    if (!x354) = true then
                                      if (!p1431 == x810) = true then some (Sum.inr (Ex.ret, e0r))
                                      else
                                        if x354 = true then some (Sum.inl (s0 l x76 (IntKind.wrap IntKind.i64 (x804 + (1 : Int))) (IntKind.wrap IntKind.i64 (x805 + (1 : Int))) x807 x806))
                                        else some (Sum.inl (s0 l x76 x804 (IntKind.wrap IntKind.i64 (x805 + (1 : Int))) x807 x806))
                                    else
                                      if x354 = true then some (Sum.inl (s0 l x76 (IntKind.wrap IntKind.i64 (x804 + (1 : Int))) (IntKind.wrap IntKind.i64 (x805 + (1 : Int))) x807 x806))
                                      else some (Sum.inl (s0 l x76 x804 (IntKind.wrap IntKind.i64 (x805 + (1 : Int))) x807 x806))
                              | x => none
                            else none
                          | x => none
                        | none => none
                      | none => none
                    else none
                  else
                    if (m1362 == (4 : Int)) = true then
                      if (0 : Int) ≤ x807 ∧ x807 < (34359738368 : Int) then
                        match x806[Int.toNat x807]? with
                        | some (D.ag [D.int IntKind.i64 c1463, D.str t1464, D.int IntKind.i64 p1465]) =>
                          if (c1463 == (1 : Int)) = true then
                            if (x808 == (1 : Int)) = true then
                              if (!ByteArray.toList t1464 == ByteArray.toList x809) = true then some (Sum.inr (Ex.ret, e0r))
                              else
                                if (!x808 == (1 : Int)) = true then if (!ByteArray.toList t1464 == []) = true then some (Sum.inr (Ex.ret, e0r)) else some (Sum.inr (Ex.ret, e0r))
                                else
                                  if (x808 == (1 : Int)) = true then some (Sum.inl (s0 l x76 (IntKind.wrap IntKind.i64 (x804 + (1 : Int))) (IntKind.wrap IntKind.i64 (x805 + (1 : Int))) (x807 + (1 : Int)) x806))
                                  else some (Sum.inl (s0 l x76 x804 (IntKind.wrap IntKind.i64 (x805 + (1 : Int))) (x807 + (1 : Int)) x806))
                            else
                              if (!x808 == (1 : Int)) = true then if (!ByteArray.toList t1464 == []) = true then some (Sum.inr (Ex.ret, e0r)) else some (Sum.inr (Ex.ret, e0r))
                              else
                                if (x808 == (1 : Int)) = true then some (Sum.inl (s0 l x76 (IntKind.wrap IntKind.i64 (x804 + (1 : Int))) (IntKind.wrap IntKind.i64 (x805 + (1 : Int))) (x807 + (1 : Int)) x806))
                                else some (Sum.inl (s0 l x76 x804 (IntKind.wrap IntKind.i64 (x805 + (1 : Int))) (x807 + (1 : Int)) x806))
                          else
                            if (x808 == (1 : Int)) = true then if (![] == ByteArray.toList x809) = true then some (Sum.inr (Ex.ret, e0r)) else some (Sum.inr (Ex.ret, e0r))
                            else
                              if (!x808 == (1 : Int)) = true then
                                if (!p1465 == x810) = true then some (Sum.inr (Ex.ret, e0r))
                                else
                                  if (x808 == (1 : Int)) = true then some (Sum.inl (s0 l x76 (IntKind.wrap IntKind.i64 (x804 + (1 : Int))) (IntKind.wrap IntKind.i64 (x805 + (1 : Int))) x807 x806))
                                  else some (Sum.inl (s0 l x76 x804 (IntKind.wrap IntKind.i64 (x805 + (1 : Int))) x807 x806))
                              else
                                if (x808 == (1 : Int)) = true then some (Sum.inl (s0 l x76 (IntKind.wrap IntKind.i64 (x804 + (1 : Int))) (IntKind.wrap IntKind.i64 (x805 + (1 : Int))) x807 x806))
                                else some (Sum.inl (s0 l x76 x804 (IntKind.wrap IntKind.i64 (x805 + (1 : Int))) x807 x806))
                        | x => none
                      else none
                    else
                      if (m1362 == (5 : Int)) = true then
                        if (0 : Int) ≤ x807 ∧ x807 < (34359738368 : Int) then
                          match x806[Int.toNat x807]? with
                          | some (D.ag [D.int IntKind.i64 c1511, D.str t1512, D.int IntKind.i64 p1513]) =>
                            if (c1511 == (2 : Int)) = true then
                              if small t1512 ∧ digitsL (ByteArray.toList t1512) then
                                match valI (ByteArray.toList t1512) (0 : Int) with
                                | some n1514 =>
                                  if small x809 then
                                    match valU (ByteArray.toList x809) (0 : Nat) with
                                    | some n1516 =>
                                      if (x808 == (2 : Int)) = true then
                                        if (!n1514 == n1516) = true then some (Sum.inr (Ex.ret, e0r))
                                        else
                                          if (!x808 == (2 : Int)) = true then if (!n1514 == (0 : Int)) = true then some (Sum.inr (Ex.ret, e0r)) else some (Sum.inr (Ex.ret, e0r))
                                          else
                                            if (x808 == (2 : Int)) = true then some (Sum.inl (s0 l x76 (IntKind.wrap IntKind.i64 (x804 + (1 : Int))) (IntKind.wrap IntKind.i64 (x805 + (1 : Int))) (x807 + (1 : Int)) x806))
                                            else some (Sum.inl (s0 l x76 x804 (IntKind.wrap IntKind.i64 (x805 + (1 : Int))) (x807 + (1 : Int)) x806))
                                      else
                                        if (!x808 == (2 : Int)) = true then if (!n1514 == (0 : Int)) = true then some (Sum.inr (Ex.ret, e0r)) else some (Sum.inr (Ex.ret, e0r))
                                        else
                                          if (x808 == (2 : Int)) = true then some (Sum.inl (s0 l x76 (IntKind.wrap IntKind.i64 (x804 + (1 : Int))) (IntKind.wrap IntKind.i64 (x805 + (1 : Int))) (x807 + (1 : Int)) x806))
                                          else some (Sum.inl (s0 l x76 x804 (IntKind.wrap IntKind.i64 (x805 + (1 : Int))) (x807 + (1 : Int)) x806))
                                    | none =>
                                      if (x808 == (2 : Int)) = true then
                                        if (!n1514 == (0 : Int)) = true then some (Sum.inr (Ex.ret, e0r))
                                        else
                                          if (!x808 == (2 : Int)) = true then if (!n1514 == (0 : Int)) = true then some (Sum.inr (Ex.ret, e0r)) else some (Sum.inr (Ex.ret, e0r))
                                          else
                                            if (x808 == (2 : Int)) = true then some (Sum.inl (s0 l x76 (IntKind.wrap IntKind.i64 (x804 + (1 : Int))) (IntKind.wrap IntKind.i64 (x805 + (1 : Int))) (x807 + (1 : Int)) x806))
                                            else some (Sum.inl (s0 l x76 x804 (IntKind.wrap IntKind.i64 (x805 + (1 : Int))) (x807 + (1 : Int)) x806))
                                      else
                                        if (!x808 == (2 : Int)) = true then if (!n1514 == (0 : Int)) = true then some (Sum.inr (Ex.ret, e0r)) else some (Sum.inr (Ex.ret, e0r))
                                        else
                                          if (x808 == (2 : Int)) = true then some (Sum.inl (s0 l x76 (IntKind.wrap IntKind.i64 (x804 + (1 : Int))) (IntKind.wrap IntKind.i64 (x805 + (1 : Int))) (x807 + (1 : Int)) x806))
                                          else some (Sum.inl (s0 l x76 x804 (IntKind.wrap IntKind.i64 (x805 + (1 : Int))) (x807 + (1 : Int)) x806))
                                  else none
                                | none => none
                              else none
                            else
                              if small x809 then
                                match valU (ByteArray.toList x809) (0 : Nat) with
                                | some n1565 =>
                                  if (x808 == (2 : Int)) = true then if (!(0 : Int) == n1565) = true then some (Sum.inr (Ex.ret, e0r)) else some (Sum.inr (Ex.ret, e0r))
                                  else
                                    if (!x808 == (2 : Int)) = true then
                                      if (!p1513 == x810) = true then some (Sum.inr (Ex.ret, e0r))
                                      else
                                        if (x808 == (2 : Int)) = true then some (Sum.inl (s0 l x76 (IntKind.wrap IntKind.i64 (x804 + (1 : Int))) (IntKind.wrap IntKind.i64 (x805 + (1 : Int))) x807 x806))
                                        else some (Sum.inl (s0 l x76 x804 (IntKind.wrap IntKind.i64 (x805 + (1 : Int))) x807 x806))
                                    else
                                      if (x808 == (2 : Int)) = true then some (Sum.inl (s0 l x76 (IntKind.wrap IntKind.i64 (x804 + (1 : Int))) (IntKind.wrap IntKind.i64 (x805 + (1 : Int))) x807 x806))
                                      else some (Sum.inl (s0 l x76 x804 (IntKind.wrap IntKind.i64 (x805 + (1 : Int))) x807 x806))
                                | none =>
                                  if (x808 == (2 : Int)) = true then some (Sum.inr (Ex.ret, e0r))
                                  else
                                    if (!x808 == (2 : Int)) = true then
                                      if (!p1513 == x810) = true then some (Sum.inr (Ex.ret, e0r))
                                      else
                                        if (x808 == (2 : Int)) = true then some (Sum.inl (s0 l x76 (IntKind.wrap IntKind.i64 (x804 + (1 : Int))) (IntKind.wrap IntKind.i64 (x805 + (1 : Int))) x807 x806))
                                        else some (Sum.inl (s0 l x76 x804 (IntKind.wrap IntKind.i64 (x805 + (1 : Int))) x807 x806))
                                    else
                                      if (x808 == (2 : Int)) = true then some (Sum.inl (s0 l x76 (IntKind.wrap IntKind.i64 (x804 + (1 : Int))) (IntKind.wrap IntKind.i64 (x805 + (1 : Int))) x807 x806))
                                      else some (Sum.inl (s0 l x76 x804 (IntKind.wrap IntKind.i64 (x805 + (1 : Int))) x807 x806))
                              else none
                          | x => none
                        else none
                      else some (Sum.inl (s0 l x76 x804 (IntKind.wrap IntKind.i64 (x805 + (1 : Int))) x807 x806))
          else none
        | x => none
      | none => none
    | none => none
  else none := by kernel_rfl
end F8


end Go.Sd

namespace Go.Sd
open Go Go.Cm Go.Proofs Go.Sc
set_option maxRecDepth 100000

/-- An act, as it comes in. -/
def actD (x : Int × ByteArray) : D := .ag [.int .i64 x.1, .str x.2]
/-- What a token of a text is like: the last one alone is of the kind 0; a number's text is one. -/
def TokAt (n i : Nat) (x : Tok) : Prop := (x.1 ≠ 0 → i + 1 < n) ∧ (x.1 = 2 → digitsL x.2.1 ∧ ∃ v, valI x.2.1 0 = some v ∧ valU x.2.1 0 = some v) ∧ small (B x.2.1)

theorem one_num {l : T8} {k : Int} {t : T8} {m : Nat} (h : oneL l = .inr (k, t, m)) : k ≠ 0 ∧ (k = 2 → digitsL t ∧ (valI t 0).isSome = true) ∧ t.length ≤ l.length := by
  cases l with
  | nil => simp [oneL] at h
  | cons c r =>
    rw [oneL_eq rfl] at h
    split at h
    · cases h
      exact ⟨by decide, fun e => by simp at e, by simp; omega⟩
    · split at h
      · split at h
        · rename_i hv
          cases h
          exact ⟨by decide, fun _ => ⟨digits_run _, hv⟩, by simp; omega⟩
        · cases h
      · split at h
        · split at h
          · cases h
            exact ⟨by decide, fun e => by simp at e, by simp; omega⟩
          · cases h
        · split at h
          · split at h
            · cases h
            · cases h
              exact ⟨by decide, fun e => by simp at e, by simp; omega⟩
          · cases h
theorem one_err {l : T8} {e : Int} (h : oneL l = .inl e) : e ≠ 0 := by
  cases l with
  | nil => simp [oneL] at h; rw [← h]; decide
  | cons c r =>
    rw [oneL_eq rfl] at h
    split at h
    · cases h
    · split at h
      · split at h
        · cases h
        · cases h; decide
      · split at h
        · split at h
          · cases h
          · cases h; decide
        · split at h
          · split at h
            · cases h; decide
            · cases h
          · cases h; decide
theorem toks_err : ∀ (n : Nat) (l : T8) (p : Nat) (e : Int × Nat), toksL n l p = .inl e → e.1 ≠ 0
  | 0, l, p, e, h => by simp [toksL] at h; rw [← h]; simp
  | n + 1, l, p, e, h => by
    cases l with
    | nil => simp [toksL] at h
    | cons c r =>
      simp only [toksL] at h
      split at h
      · rename_i e' he
        cases h
        exact one_err he
      · split at h
        · rename_i e' he
          cases h
          exact toks_err n _ _ _ he
        · cases h
theorem toks_at (N : Nat) (hN : N ≤ 65536) : ∀ (n : Nat) (l : T8) (p : Nat) (ts : List Tok), l.length ≤ N → toksL n l p = .inr ts → ∀ i x, ts[i]? = some x → TokAt ts.length i x
  | 0, l, p, ts, _, h, _, _, _ => by simp [toksL] at h
  | n + 1, l, p, ts, hl, h, i, x, hx => by
    cases l with
    | nil =>
      simp [toksL] at h
      subst h
      cases i with
      | zero =>
        simp at hx; subst hx
        exact ⟨fun e => (e rfl).elim, fun e => by simp at e, by simp [small, B_size]⟩
      | succ i => simp at hx
    | cons c r =>
      simp only [toksL] at h
      split at h
      · cases h
      · rename_i k t m ho
        split at h
        · cases h
        · rename_i r' hr
          cases h
          obtain ⟨h1, h2, h3⟩ := one_num ho
          have ih := toks_at N hN n _ _ r' (by simp at hl ⊢; omega) hr
          cases i with
          | zero =>
            simp at hx; subst hx
            refine ⟨fun _ => ?_, fun e => ?_, ?_⟩
            · cases r' with
              | nil =>
                exfalso
                cases n with
                | zero => simp [toksL] at hr
                | succ n =>
                  cases hd : List.drop (blankL (List.drop m (c :: r))) (List.drop m (c :: r)) with
                  | nil => rw [hd] at hr; simp [toksL] at hr
                  | cons c' r'' =>
                    rw [hd] at hr
                    simp only [toksL] at hr
                    split at hr
                    · cases hr
                    · split at hr <;> cases hr
              | cons y r'' => simp
            · obtain ⟨h4, h5⟩ := h2 e
              obtain ⟨v, hv⟩ := Option.isSome_iff_exists.1 h5
              exact ⟨h4, v, hv, by rw [valU_digits t 0 h4 (by omega)]; exact hv⟩
            · unfold small; rw [B_size]; simp at hl h3 ⊢; omega
          | succ i =>
            simp at hx
            obtain ⟨g1, g2, g3⟩ := ih i x hx
            exact ⟨fun e => by have := g1 e; simp; omega, g2, g3⟩

theorem wr (n : Nat) (h : n ≤ 1152921504606846976) : IntKind.wrap .i64 ((n : Int) + 1) = ((n + 1 : Nat) : Int) := by
  rw [w1 (n := 0) (by omega)]

/-- A round: one act. -/
theorem reads_round (acts : List (Int × ByteArray)) (ts : List Tok) (hts : ∀ i x, ts[i]? = some x → TokAt ts.length i x) (hlen : ts.length ≤ 65537) (hal : acts.length ≤ 200) (i a : Nat) (hi : i < acts.length) (ha : a < ts.length) :
    ∃ a', a' < ts.length ∧ F8.L0 (F8.s0 (acts.map actD) (ts.map tokT) a i a (ts.map tokT)) = some (.inl (F8.s0 (acts.map actD) (ts.map tokT) a' (i + 1 : Nat) a' (ts.map tokT))) := by
  obtain ⟨⟨c, t, p⟩, hx⟩ : ∃ x, ts[a]? = some x := ⟨_, List.getElem?_eq_getElem ha⟩
  obtain ⟨⟨q, u⟩, hy⟩ : ∃ x, acts[i]? = some x := ⟨_, List.getElem?_eq_getElem hi⟩
  obtain ⟨f1, f2, f3⟩ := hts a _ hx
  simp only at f1 f2 f3
  have hg : (ts.map tokT)[a]? = some (.ag [.int .i64 c, .str (B t), .int .i64 p]) := by rw [List.getElem?_map, hx]; rfl
  have hact : (acts.map actD)[i]? = some (.ag [.int .i64 q, .str u]) := by rw [List.getElem?_map, hy]; rfl
  have hwi : IntKind.wrap .i64 ((i : Int) + 1) = ((i + 1 : Nat) : Int) := w1 (n := 0) (by omega)
  have hwa : IntKind.wrap .i64 ((a : Int) + 1) = ((a + 1 : Nat) : Int) := w1 (n := 0) (by omega)
  have hwb : (a : Int) + 1 = ((a + 1 : Nat) : Int) := by omega
  have h0 : (0 : Int) ≤ (a : Int) := by omega
  have h1 : (0 : Int) ≤ (i : Int) := by omega
  have h2 : (a : Int) < (ts.length : Int) := by omega
  have h3 : (i : Int) < (acts.length : Int) := by omega
  have h4 : (a : Int) < 34359738368 := by omega
  have fin : ∀ b : Bool, b = ((c == 1 || c == 4) && t == u.toList) → ∃ a', a' < ts.length ∧ F8.J0 (F8.j0 (acts.map actD) (ts.map tokT) b a i (ts.map tokT) a c (B t) p) = some (.inl (F8.s0 (acts.map actD) (ts.map tokT) a' (i + 1 : Nat) a' (ts.map tokT))) := by
    intro b hb
    rw [F8.j0_eq]
    simp only [Int.toNat_natCast, hact, hg, h0, h1, h4, if_true, true_and, and_true, List.getElem?_cons_zero, List.getElem?_cons_succ, B_list, hwi, hwa]
    rw [hwb]
    by_cases q0 : q = 0
    · subst q0
      by_cases hc : c = 0
      · subst hc; exact ⟨a, ha, by simp⟩
      · exact ⟨a + 1, f1 hc, by simp [hc]⟩
    by_cases q1 : q = 1
    · subst q1
      exact ⟨a, ha, by simp [hb]⟩
    by_cases q2 : q = 2
    · subst q2
      cases b with
      | true => exact ⟨a + 1, f1 (by rintro rfl; simp at hb), by simp [← hb]⟩
      | false => exact ⟨a, ha, by simp [← hb]⟩
    by_cases q3 : q = 3
    · subst q3
      cases b with
      | true => exact ⟨a + 1, f1 (by rintro rfl; simp at hb), by simp [← hb]⟩
      | false => exact ⟨a, ha, by simp [← hb]⟩
    by_cases q4 : q = 4
    · subst q4
      by_cases hc : c = 1
      · subst hc; exact ⟨a + 1, f1 (by decide), by simp⟩
      · exact ⟨a, ha, by simp [hc]⟩
    by_cases q5 : q = 5
    · subst q5
      by_cases hc : c = 2
      · subst hc
        obtain ⟨g1, v, g2, g3⟩ := f2 rfl
        exact ⟨a + 1, f1 (by decide), by simp [f3, g1, g2, g3]⟩
      · refine ⟨a, ha, ?_⟩
        cases hv : valU t 0 <;> simp [hc, f3, hv]
    exact ⟨a, ha, by simp [q0, q1, q2, q3, q4, q5]⟩
  have hr := F8.round0 (acts.map actD) (ts.map tokT) a i a (ts.map tokT)
  simp only [Int.toNat_natCast, List.length_map, hact, hg, h0, h1, h2, h3, if_true, true_and, and_true, List.getElem?_cons_zero, List.getElem?_cons_succ, B_list, decide_true, beq_self_eq_true, Bool.and_true, Bool.not_true, Bool.false_eq_true, if_false] at hr
  by_cases c1 : c = 1
  · subst c1
    obtain ⟨a', k1, k2⟩ := fin (t == u.toList) (by simp)
    simp only [beq_self_eq_true, if_true] at hr
    exact ⟨a', k1, hr.trans k2⟩
  · by_cases c4 : c = 4
    · subst c4
      obtain ⟨a', k1, k2⟩ := fin (t == u.toList) (by simp)
      simp only [show ((4 : Int) == 1) = false from rfl, beq_self_eq_true, if_true, Bool.false_eq_true, if_false] at hr
      exact ⟨a', k1, hr.trans k2⟩
    · obtain ⟨a', k1, k2⟩ := fin false (by simp [c1, c4])
      simp only [beq_false_of_ne c1, beq_false_of_ne c4, Bool.false_eq_true, if_false] at hr
      exact ⟨a', k1, hr.trans k2⟩

theorem reads_loop (acts : List (Int × ByteArray)) (ts : List Tok) (hts : ∀ i x, ts[i]? = some x → TokAt ts.length i x) (hlen : ts.length ≤ 65537) (hal : acts.length ≤ 200) : ∀ (n i a : Nat), i + n = acts.length → a < ts.length →
    Lp F8.L0 (F8.s0 (acts.map actD) (ts.map tokT) a i a (ts.map tokT)) = some (.exit 0, F8.e0x0)
  | 0, i, a, h, ha => by
    have hr := F8.round0 (acts.map actD) (ts.map tokT) a i a (ts.map tokT)
    rw [List.length_map, if_neg (by simp; omega)] at hr
    exact Lp_exit hr
  | n + 1, i, a, h, ha => by
    obtain ⟨a', h1, h2⟩ := reads_round acts ts hts hlen hal i a (by omega) ha
    exact Lp_step h2 (reads_loop acts ts hts hlen hal n (i + 1) a' (by omega) h1)

theorem reads (s : ByteArray) (acts : List (Int × ByteArray)) {γ : Type} (q : List TV → List TV → Option γ) : evalF Tryd.prog E30 Tryd.f8 [.d true 0 (.str s), .d true 0 (.sl 3 (acts.map actD))] q = q [.d false 0 (.bool true)] [] := by
  rw [F8.start]
  by_cases hs : s.size ≤ 3000
  · rw [if_neg (by simp; omega), List.length_map]
    by_cases hl : acts.length ≤ 200
    · rw [if_neg (by simp; omega), Nat.ble_eq_true_of_le (show s.size ≤ 65536 by omega)]
      have e : s.toList.length = s.size := by rw [ByteArray.toList_eq]; exact Array.length_toList
      cases ht : tokS s.toList with
      | inl e =>
        obtain ⟨n, p⟩ := e
        have hn : n ≠ 0 := toks_err _ _ _ _ ht
        simp [hn]
      | inr ts =>
        simp only
        obtain ⟨us, e1, e2, _⟩ := tokS_last (by omega) ht
        have hlen : ts.length ≤ 65537 := by rw [e1]; simp; omega
        have h0 : 0 < ts.length := by rw [e1]; simp
        have hts := toks_at 65536 (Nat.le_refl _) _ _ _ ts (by simp; omega) ht
        have hl := reads_loop acts ts hts hlen hl acts.length 0 0 (by omega) h0
        rw [show ((0 : Nat) : Int) = 0 from rfl] at hl
        exact F8.behind0x0 s (acts.map actD) q _ hl
    · rw [if_pos (by simp; omega)]
  · rw [if_pos (by simp; omega)]
theorem valid_reads (s : ByteArray) (acts : List (Int × ByteArray)) : Valid glS Tryd.prog 8 [.d true 0 (.str s), .d true 0 (.sl 3 (acts.map actD))] [.d false 0 (.bool true)] [] := valid_of env30 mixed Tryd.func8 (by kernel_rfl) (reads s acts _)
end Go.Sd

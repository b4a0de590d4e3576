/- Made by a program of the session's own (tools/gen_scan.py): what functions come to, segment by segment. -/
import Derived.Test.YtbpndgllhhajoaaGreatDoorPa
set_option linter.unusedVariables false
set_option linter.unusedSimpArgs false
namespace Go.Sd
open Go Go.Cm Go.Proofs Go.Sc
set_option maxRecDepth 100000
namespace A57
/- rounds of the search: 1 -/
noncomputable def X : Fx := ⟨Tryz.prog, Q0, 16, 2⟩
theorem start {β : Type} (xs : List D) (a : Int) (d : Int) (n : Int) (k : List TV → List TV → Option β) : evalF Tryz.prog Q0 Tryz.f42
   [.ob true [.ob true [.own true 4 xs, .d false 0 (.int .i64 a)], .d false 0 (.int .i64 d)], .d true 0 (.ifc (84 : TypeId) (.int .i64 n))] k =
   if (0 : Int) ≤ a then
   match xs[Int.toNat a]? with
   | some (.ag [D.int .i64 c2, D.str t3, D.int .i64 p4]) =>
    k [.d true 0 (.ifc 114 (.pt 3 (.ag [D.int .i64 p4, D.ifc 84 (.int .i64 n)])))]
     [.ob true [.ob true [.own true 4 xs, .d false 0 (.int .i64 a)], .d false 0 (.int .i64 d)]]
   | x => none
  else none := by kernel_rfl
end A57

namespace A107
/- rounds of the search: 1 -/
noncomputable def X : Fx := ⟨Tryz.prog, Q1, 64, 3⟩
theorem start {β : Type} (s : ByteArray) (o : ByteArray) (nm : ByteArray) (o2 : ByteArray) (nm2 : ByteArray) (ks : List D) (ks2 : List D) (p : Int) (p2 : Int) (k : List TV → List TV → Option β) : evalF Tryz.prog Q1 Tryz.f94
   [.d true 0 (.str s), .d true 5 (.ag [D.str o, D.str nm, D.sl 5 ks, D.int .i64 p]), .d true 5 (.ag [D.str o2, D.str nm2, D.sl 5 ks2, D.int .i64 p2])] k =
   k
   [.d true 5
     (.ag
      [D.str s, D.str (ByteArray.mk #[]), D.sl 5 [D.ag [D.str o, D.str nm, D.sl 5 ks, D.int .i64 p], D.ag [D.str o2, D.str nm2, D.sl 5 ks2, D.int .i64 p2]], D.int .i64 p])]
   [] := by kernel_rfl
end A107


end Go.Sd

namespace Go.Sd
open Go Go.Cm Go.Proofs Go.Sc
set_option maxRecDepth 100000
namespace B108
  section
  variable (B : Bd)
/- rounds of the search: 1 -/
noncomputable def X : Fx := ⟨Tryz.prog, QP B, 48, 2⟩
theorem start {β : Type} (xs : List D) (a : Int) (d : Int) (lv : Int) (k : List TV → List TV → Option β) : evalF Tryz.prog (QP B) Tryz.f95 [.ob true [.ob true [.own true 4 xs, .d false 0 (.int .i64 a)], .d false 0 (.int .i64 d)], .d true 0 (.int .i64 lv)] k =
   if decide (lv > d) = true then
   if (0 : Int) ≤ a then
    match xs[Int.toNat a]? with
    | some (.ag [D.int .i64 n4, D.str s5, D.int .i64 p6]) =>
     k
      [.d false 5 (.ag [D.str (ByteArray.mk #[]), D.str (ByteArray.mk #[]), D.sl 5 [], D.int .i64 0]),
       .d true 0 (.ifc 114 (.pt 3 (.ag [D.int .i64 p6, D.ifc 84 (.int .i64 21)])))]
      [.ob true [.ob true [.own true 4 xs, .d false 0 (.int .i64 a)], .d false 0 (.int .i64 d)]]
    | x => none
   else none
  else
   if (0 : Int) ≤ a then
    match xs[Int.toNat a]? with
    | some (.ag [D.int .i64 c8, D.str t9, D.int .i64 p10]) =>
     if (c8 == (3 : Int)) = true then
      if (0 : Int) ≤ a ∧ a < (34359738368 : Int) then
       match xs[Int.toNat a]? with
       | some (.ag [D.int .i64 c14, D.str t15, D.int .i64 p16]) =>
        if (!c14 == (0 : Int)) = true then
         k
          [.d true 5 (.ag [D.str (ByteArray.mk #[108, 97, 98, 101, 108]), D.str t9, D.sl 5 [], D.int .i64 p10]),
           .d false 0 D.nili]
          [.ob true [.ob true [.own true 4 xs, .d false 0 (.int .i64 (a + (1 : Int)))], .d false 0 (.int .i64 d)]]
        else
         k
          [.d true 5 (.ag [D.str (ByteArray.mk #[108, 97, 98, 101, 108]), D.str t9, D.sl 5 [], D.int .i64 p10]),
           .d false 0 D.nili]
          [.ob true [.ob true [.own true 4 xs, .d false 0 (.int .i64 a)], .d false 0 (.int .i64 d)]]
       | x => none
      else none
     else
      if (0 : Int) ≤ a then
       match xs[Int.toNat a]? with
       | some (.ag [D.int .i64 c20, D.str t21, D.int .i64 n22]) =>
        if ((c20 == (1 : Int) || c20 == (4 : Int)) && ByteArray.toList t21 == [116, 114, 117, 101]) = true then
         if ((c20 == (1 : Int) || c20 == (4 : Int)) && ByteArray.toList t21 == [116, 114, 117, 101]) = true then
          if (0 : Int) ≤ a ∧ a < (34359738368 : Int) then
           match xs[Int.toNat a]? with
           | some (.ag [D.int .i64 c26, D.str t27, D.int .i64 p28]) =>
            if (!c26 == (0 : Int)) = true then
             k [.d true 5 (.ag [D.str t9, D.str (ByteArray.mk #[]), D.sl 5 [], D.int .i64 p10]), .d false 0 D.nili]
              [.ob true [.ob true [.own true 4 xs, .d false 0 (.int .i64 (a + (1 : Int)))], .d false 0 (.int .i64 d)]]
            else
             k [.d true 5 (.ag [D.str t9, D.str (ByteArray.mk #[]), D.sl 5 [], D.int .i64 p10]), .d false 0 D.nili]
              [.ob true [.ob true [.own true 4 xs, .d false 0 (.int .i64 a)], .d false 0 (.int .i64 d)]]
           | x => none
          else none
         else
          if (0 : Int) ≤ a then
           match xs[Int.toNat a]? with
           | some (.ag [D.int .i64 c32, D.str t33, D.int .i64 n34]) =>
            if ((c32 == (1 : Int) || c32 == (4 : Int)) && ByteArray.toList t33 == [33]) = true then
             if ((c32 == (1 : Int) || c32 == (4 : Int)) && ByteArray.toList t33 == [33]) = true then
              if (0 : Int) ≤ a ∧ a < (34359738368 : Int) then
               match xs[Int.toNat a]? with
               | some (.ag [D.int .i64 c38, D.str t39, D.int .i64 p40]) =>
                if (!c38 == (0 : Int)) = true then
                 if okP xs (a + (1 : Int)) d (IntKind.wrap .i64 (lv + (1 : Int))) B.ns then
                  match pSingle xs (Int.toNat (d + (1 : Int) - IntKind.wrap .i64 (lv + (1 : Int)))) (a + (1 : Int)) with
                  | PR.ok op42 nm43 ks44 p45 a46 =>
                   k
                    [.d true 5 (.ag [D.str t9, D.str (ByteArray.mk #[]), D.sl 5 [D.ag [D.str op42, D.str nm43, D.sl 5 ks44, D.int .i64 p45]], D.int .i64 p10]),
                     .d false 0 D.nili]
                    [.ob true [.ob true [.own true 4 xs, .d false 0 (.int .i64 a46)], .d false 0 (.int .i64 d)]]
                  | PR.syn p50 a51 =>
                   k
                    [.d false 5 (.ag [D.str (ByteArray.mk #[]), D.str (ByteArray.mk #[]), D.sl 5 [], D.int .i64 0]),
                     .d false 0 (.ifc 114 (.pt 3 (.ag [D.int .i64 p50, D.ifc 84 (.int .i64 20)])))]
                    [.ob true [.ob true [.own true 4 xs, .d false 0 (.int .i64 a51)], .d false 0 (.int .i64 d)]]
                  | PR.deep p55 a56 =>
                   k
                    [.d false 5 (.ag [D.str (ByteArray.mk #[]), D.str (ByteArray.mk #[]), D.sl 5 [], D.int .i64 0]),
                     .d true 0 (.ifc 114 (.pt 3 (.ag [D.int .i64 p55, D.ifc 84 (.int .i64 21)])))]
                    [.ob true [.ob true [.own true 4 xs, .d false 0 (.int .i64 a56)], .d false 0 (.int .i64 d)]]
                  | PR.no => none
                 else none
                else
                 if okP xs a d (IntKind.wrap .i64 (lv + (1 : Int))) B.ns then
                  match pSingle xs (Int.toNat (d + (1 : Int) - IntKind.wrap .i64 (lv + (1 : Int)))) a with
                  | PR.ok op61 nm62 ks63 p64 a65 =>
                   k
                    [.d true 5 (.ag [D.str t9, D.str (ByteArray.mk #[]), D.sl 5 [D.ag [D.str op61, D.str nm62, D.sl 5 ks63, D.int .i64 p64]], D.int .i64 p10]),
                     .d false 0 D.nili]
                    [.ob true [.ob true [.own true 4 xs, .d false 0 (.int .i64 a65)], .d false 0 (.int .i64 d)]]
                  | PR.syn p69 a70 =>
                   k
                    [.d false 5 (.ag [D.str (ByteArray.mk #[]), D.str (ByteArray.mk #[]), D.sl 5 [], D.int .i64 0]),
                     .d false 0 (.ifc 114 (.pt 3 (.ag [D.int .i64 p69, D.ifc 84 (.int .i64 20)])))]
                    [.ob true [.ob true [.own true 4 xs, .d false 0 (.int .i64 a70)], .d false 0 (.int .i64 d)]]
                  | PR.deep p74 a75 =>
                   k
                    [.d false 5 (.ag [D.str (ByteArray.mk #[]), D.str (ByteArray.mk #[]), D.sl 5 [], D.int .i64 0]),
                     .d true 0 (.ifc 114 (.pt 3 (.ag [D.int .i64 p74, D.ifc 84 (.int .i64 21)])))]
                    [.ob true [.ob true [.own true 4 xs, .d false 0 (.int .i64 a75)], .d false 0 (.int .i64 d)]]
                  | PR.no => none
                 else none
               | x => none
              else none
             else
              if (0 : Int) ≤ a ∧ a < (34359738368 : Int) then
               match xs[Int.toNat a]? with
               | some (.ag [D.int .i64 c80, D.str t81, D.int .i64 p82]) =>
                if ((c80 == (1 : Int) || c80 == (4 : Int)) && ByteArray.toList t81 == [40]) = true then
                 if okP xs (a + (1 : Int)) d (IntKind.wrap .i64 (lv + (1 : Int))) B.ni then
                  match pImply xs (Int.toNat (d + (1 : Int) - IntKind.wrap .i64 (lv + (1 : Int)))) (a + (1 : Int)) with
                  | PR.ok op86 nm87 ks88 p89 a90 =>
                   if (0 : Int) ≤ a90 ∧ a90 < (34359738368 : Int) then
                    match xs[Int.toNat a90]? with
                    | some (.ag [D.int .i64 c94, D.str t95, D.int .i64 p96]) =>
                     if ((c94 == (1 : Int) || c94 == (4 : Int)) && ByteArray.toList t95 == [41]) = true then
                      k [.d true 5 (.ag [D.str op86, D.str nm87, D.sl 5 ks88, D.int .i64 p10]), .d false 0 D.nili]
                       [.ob true [.ob true [.own true 4 xs, .d false 0 (.int .i64 (a90 + (1 : Int)))], .d false 0 (.int .i64 d)]]
                     else
                      k
                       [.d false 5 (.ag [D.str (ByteArray.mk #[]), D.str (ByteArray.mk #[]), D.sl 5 [], D.int .i64 0]),
                        .d false 0 (.ifc 114 (.pt 3 (.ag [D.int .i64 p96, D.ifc 84 (.int .i64 20)])))]
                       [.ob true [.ob true [.own true 4 xs, .d false 0 (.int .i64 a90)], .d false 0 (.int .i64 d)]]
                    | x => none
                   else none
                  | PR.syn p104 a105 =>
                   k
                    [.d false 5 (.ag [D.str (ByteArray.mk #[]), D.str (ByteArray.mk #[]), D.sl 5 [], D.int .i64 0]),
                     .d false 0 (.ifc 114 (.pt 3 (.ag [D.int .i64 p104, D.ifc 84 (.int .i64 20)])))]
                    [.ob true [.ob true [.own true 4 xs, .d false 0 (.int .i64 a105)], .d false 0 (.int .i64 d)]]
                  | PR.deep p109 a110 =>
                   k
                    [.d false 5 (.ag [D.str (ByteArray.mk #[]), D.str (ByteArray.mk #[]), D.sl 5 [], D.int .i64 0]),
                     .d true 0 (.ifc 114 (.pt 3 (.ag [D.int .i64 p109, D.ifc 84 (.int .i64 21)])))]
                    [.ob true [.ob true [.own true 4 xs, .d false 0 (.int .i64 a110)], .d false 0 (.int .i64 d)]]
                  | PR.no => none
                 else none
                else
                 k
                  [.d false 5 (.ag [D.str (ByteArray.mk #[]), D.str (ByteArray.mk #[]), D.sl 5 [], D.int .i64 0]),
                   .d false 0 (.ifc 114 (.pt 3 (.ag [D.int .i64 p82, D.ifc 84 (.int .i64 20)])))]
                  [.ob true [.ob true [.own true 4 xs, .d false 0 (.int .i64 a)], .d false 0 (.int .i64 d)]]
               | x => none
              else none
            else
             if (0 : Int) ≤ a then
              match xs[Int.toNat a]? with
              | some (.ag [D.int .i64 c118, D.str t119, D.int .i64 n120]) =>
               if ((c118 == (1 : Int) || c118 == (4 : Int)) && ByteArray.toList t119 == [88]) = true then
                if ((c118 == (1 : Int) || c118 == (4 : Int)) && ByteArray.toList t119 == [88]) = true then
                 if (0 : Int) ≤ a ∧ a < (34359738368 : Int) then
                  match xs[Int.toNat a]? with
                  | some (.ag [D.int .i64 c124, D.str t125, D.int .i64 p126]) =>
                   if (!c124 == (0 : Int)) = true then
                    if okP xs (a + (1 : Int)) d (IntKind.wrap .i64 (lv + (1 : Int))) B.ns then
                     match pSingle xs (Int.toNat (d + (1 : Int) - IntKind.wrap .i64 (lv + (1 : Int)))) (a + (1 : Int)) with
                     | PR.ok op128 nm129 ks130 p131 a132 =>
                      k
                       [.d true 5
                         (.ag [D.str t9, D.str (ByteArray.mk #[]), D.sl 5 [D.ag [D.str op128, D.str nm129, D.sl 5 ks130, D.int .i64 p131]], D.int .i64 p10]),
                        .d false 0 D.nili]
                       [.ob true [.ob true [.own true 4 xs, .d false 0 (.int .i64 a132)], .d false 0 (.int .i64 d)]]
                     | PR.syn p136 a137 =>
                      k
                       [.d false 5 (.ag [D.str (ByteArray.mk #[]), D.str (ByteArray.mk #[]), D.sl 5 [], D.int .i64 0]),
                        .d false 0 (.ifc 114 (.pt 3 (.ag [D.int .i64 p136, D.ifc 84 (.int .i64 20)])))]
                       [.ob true [.ob true [.own true 4 xs, .d false 0 (.int .i64 a137)], .d false 0 (.int .i64 d)]]
                     | PR.deep p141 a142 =>
                      k
                       [.d false 5 (.ag [D.str (ByteArray.mk #[]), D.str (ByteArray.mk #[]), D.sl 5 [], D.int .i64 0]),
                        .d true 0 (.ifc 114 (.pt 3 (.ag [D.int .i64 p141, D.ifc 84 (.int .i64 21)])))]
                       [.ob true [.ob true [.own true 4 xs, .d false 0 (.int .i64 a142)], .d false 0 (.int .i64 d)]]
                     | PR.no => none
                    else none
                   else
                    if okP xs a d (IntKind.wrap .i64 (lv + (1 : Int))) B.ns then
                     match pSingle xs (Int.toNat (d + (1 : Int) - IntKind.wrap .i64 (lv + (1 : Int)))) a with
                     | PR.ok op147 nm148 ks149 p150 a151 =>
                      k
                       [.d true 5
                         (.ag [D.str t9, D.str (ByteArray.mk #[]), D.sl 5 [D.ag [D.str op147, D.str nm148, D.sl 5 ks149, D.int .i64 p150]], D.int .i64 p10]),
                        .d false 0 D.nili]
                       [.ob true [.ob true [.own true 4 xs, .d false 0 (.int .i64 a151)], .d false 0 (.int .i64 d)]]
                     | PR.syn p155 a156 =>
                      k
                       [.d false 5 (.ag [D.str (ByteArray.mk #[]), D.str (ByteArray.mk #[]), D.sl 5 [], D.int .i64 0]),
                        .d false 0 (.ifc 114 (.pt 3 (.ag [D.int .i64 p155, D.ifc 84 (.int .i64 20)])))]
                       [.ob true [.ob true [.own true 4 xs, .d false 0 (.int .i64 a156)], .d false 0 (.int .i64 d)]]
                     | PR.deep p160 a161 =>
                      k
                       [.d false 5 (.ag [D.str (ByteArray.mk #[]), D.str (ByteArray.mk #[]), D.sl 5 [], D.int .i64 0]),
                        .d true 0 (.ifc 114 (.pt 3 (.ag [D.int .i64 p160, D.ifc 84 (.int .i64 21)])))]
                       [.ob true [.ob true [.own true 4 xs, .d false 0 (.int .i64 a161)], .d false 0 (.int .i64 d)]]
                     | PR.no => none
                    else none
                  | x => none
                 else none
                else
                 if (0 : Int) ≤ a ∧ a < (34359738368 : Int) then
                  match xs[Int.toNat a]? with
                  | some (.ag [D.int .i64 c166, D.str t167, D.int .i64 p168]) =>
                   if ((c166 == (1 : Int) || c166 == (4 : Int)) && ByteArray.toList t167 == [40]) = true then
                    if okP xs (a + (1 : Int)) d (IntKind.wrap .i64 (lv + (1 : Int))) B.ni then
                     match pImply xs (Int.toNat (d + (1 : Int) - IntKind.wrap .i64 (lv + (1 : Int)))) (a + (1 : Int)) with
                     | PR.ok op172 nm173 ks174 p175 a176 =>
                      if (0 : Int) ≤ a176 ∧ a176 < (34359738368 : Int) then
                       match xs[Int.toNat a176]? with
                       | some (.ag [D.int .i64 c180, D.str t181, D.int .i64 p182]) =>
                        if ((c180 == (1 : Int) || c180 == (4 : Int)) && ByteArray.toList t181 == [41]) = true then
                         k [.d true 5 (.ag [D.str op172, D.str nm173, D.sl 5 ks174, D.int .i64 p10]), .d false 0 D.nili]
                          [.ob true [.ob true [.own true 4 xs, .d false 0 (.int .i64 (a176 + (1 : Int)))], .d false 0 (.int .i64 d)]]
                        else
                         k
                          [.d false 5 (.ag [D.str (ByteArray.mk #[]), D.str (ByteArray.mk #[]), D.sl 5 [], D.int .i64 0]),
                           .d false 0 (.ifc 114 (.pt 3 (.ag [D.int .i64 p182, D.ifc 84 (.int .i64 20)])))]
                          [.ob true [.ob true [.own true 4 xs, .d false 0 (.int .i64 a176)], .d false 0 (.int .i64 d)]]
                       | x => none
                      else none
                     | PR.syn p190 a191 =>
                      k
                       [.d false 5 (.ag [D.str (ByteArray.mk #[]), D.str (ByteArray.mk #[]), D.sl 5 [], D.int .i64 0]),
                        .d false 0 (.ifc 114 (.pt 3 (.ag [D.int .i64 p190, D.ifc 84 (.int .i64 20)])))]
                       [.ob true [.ob true [.own true 4 xs, .d false 0 (.int .i64 a191)], .d false 0 (.int .i64 d)]]
                     | PR.deep p195 a196 =>
                      k
                       [.d false 5 (.ag [D.str (ByteArray.mk #[]), D.str (ByteArray.mk #[]), D.sl 5 [], D.int .i64 0]),
                        .d true 0 (.ifc 114 (.pt 3 (.ag [D.int .i64 p195, D.ifc 84 (.int .i64 21)])))]
                       [.ob true [.ob true [.own true 4 xs, .d false 0 (.int .i64 a196)], .d false 0 (.int .i64 d)]]
                     | PR.no => none
                    else none
                   else
                    k
                     [.d false 5 (.ag [D.str (ByteArray.mk #[]), D.str (ByteArray.mk #[]), D.sl 5 [], D.int .i64 0]),
                      .d false 0 (.ifc 114 (.pt 3 (.ag [D.int .i64 p168, D.ifc 84 (.int .i64 20)])))]
                     [.ob true [.ob true [.own true 4 xs, .d false 0 (.int .i64 a)], .d false 0 (.int .i64 d)]]
                  | x => none
                 else none
               else
                if (0 : Int) ≤ a then
                 match xs[Int.toNat a]? with
                 | some (.ag [D.int .i64 c204, D.str t205, D.int .i64 n206]) =>
                  if ((c204 == (1 : Int) || c204 == (4 : Int)) && ByteArray.toList t205 == [70]) = true then
                   if ((c204 == (1 : Int) || c204 == (4 : Int)) && ByteArray.toList t205 == [70]) = true then
                    if (0 : Int) ≤ a ∧ a < (34359738368 : Int) then
                     match xs[Int.toNat a]? with
                     | some (.ag [D.int .i64 c210, D.str t211, D.int .i64 p212]) =>
                      if (!c210 == (0 : Int)) = true then
                       if okP xs (a + (1 : Int)) d (IntKind.wrap .i64 (lv + (1 : Int))) B.ns then
                        match pSingle xs (Int.toNat (d + (1 : Int) - IntKind.wrap .i64 (lv + (1 : Int)))) (a + (1 : Int)) with
                        | PR.ok op214 nm215 ks216 p217 a218 =>
                         k
                          [.d true 5
                            (.ag [D.str t9, D.str (ByteArray.mk #[]), D.sl 5 [D.ag [D.str op214, D.str nm215, D.sl 5 ks216, D.int .i64 p217]], D.int .i64 p10]),
                           .d false 0 D.nili]
                          [.ob true [.ob true [.own true 4 xs, .d false 0 (.int .i64 a218)], .d false 0 (.int .i64 d)]]
                        | PR.syn p222 a223 =>
                         k
                          [.d false 5 (.ag [D.str (ByteArray.mk #[]), D.str (ByteArray.mk #[]), D.sl 5 [], D.int .i64 0]),
                           .d false 0 (.ifc 114 (.pt 3 (.ag [D.int .i64 p222, D.ifc 84 (.int .i64 20)])))]
                          [.ob true [.ob true [.own true 4 xs, .d false 0 (.int .i64 a223)], .d false 0 (.int .i64 d)]]
                        | PR.deep p227 a228 =>
                         k
                          [.d false 5 (.ag [D.str (ByteArray.mk #[]), D.str (ByteArray.mk #[]), D.sl 5 [], D.int .i64 0]),
                           .d true 0 (.ifc 114 (.pt 3 (.ag [D.int .i64 p227, D.ifc 84 (.int .i64 21)])))]
                          [.ob true [.ob true [.own true 4 xs, .d false 0 (.int .i64 a228)], .d false 0 (.int .i64 d)]]
                        | PR.no => none
                       else none
                      else
                       if okP xs a d (IntKind.wrap .i64 (lv + (1 : Int))) B.ns then
                        match pSingle xs (Int.toNat (d + (1 : Int) - IntKind.wrap .i64 (lv + (1 : Int)))) a with
                        | PR.ok op233 nm234 ks235 p236 a237 =>
                         k
                          [.d true 5
                            (.ag [D.str t9, D.str (ByteArray.mk #[]), D.sl 5 [D.ag [D.str op233, D.str nm234, D.sl 5 ks235, D.int .i64 p236]], D.int .i64 p10]),
                           .d false 0 D.nili]
                          [.ob true [.ob true [.own true 4 xs, .d false 0 (.int .i64 a237)], .d false 0 (.int .i64 d)]]
                        | PR.syn p241 a242 =>
                         k
                          [.d false 5 (.ag [D.str (ByteArray.mk #[]), D.str (ByteArray.mk #[]), D.sl 5 [], D.int .i64 0]),
                           .d false 0 (.ifc 114 (.pt 3 (.ag [D.int .i64 p241, D.ifc 84 (.int .i64 20)])))]
                          [.ob true [.ob true [.own true 4 xs, .d false 0 (.int .i64 a242)], .d false 0 (.int .i64 d)]]
                        | PR.deep p246 a247 =>
                         k
                          [.d false 5 (.ag [D.str (ByteArray.mk #[]), D.str (ByteArray.mk #[]), D.sl 5 [], D.int .i64 0]),
                           .d true 0 (.ifc 114 (.pt 3 (.ag [D.int .i64 p246, D.ifc 84 (.int .i64 21)])))]
                          [.ob true [.ob true [.own true 4 xs, .d false 0 (.int .i64 a247)], .d false 0 (.int .i64 d)]]
                        | PR.no => none
                       else none
                     | x => none
                    else none
                   else
                    if (0 : Int) ≤ a ∧ a < (34359738368 : Int) then
                     match xs[Int.toNat a]? with
                     | some (.ag [D.int .i64 c252, D.str t253, D.int .i64 p254]) =>
                      if ((c252 == (1 : Int) || c252 == (4 : Int)) && ByteArray.toList t253 == [40]) = true then
                       if okP xs (a + (1 : Int)) d (IntKind.wrap .i64 (lv + (1 : Int))) B.ni then
                        match pImply xs (Int.toNat (d + (1 : Int) - IntKind.wrap .i64 (lv + (1 : Int)))) (a + (1 : Int)) with
                        | PR.ok op258 nm259 ks260 p261 a262 =>
                         if (0 : Int) ≤ a262 ∧ a262 < (34359738368 : Int) then
                          match xs[Int.toNat a262]? with
                          | some (.ag [D.int .i64 c266, D.str t267, D.int .i64 p268]) =>
                           if ((c266 == (1 : Int) || c266 == (4 : Int)) && ByteArray.toList t267 == [41]) = true then
                            k [.d true 5 (.ag [D.str op258, D.str nm259, D.sl 5 ks260, D.int .i64 p10]), .d false 0 D.nili]
                             [.ob true [.ob true [.own true 4 xs, .d false 0 (.int .i64 (a262 + (1 : Int)))], .d false 0 (.int .i64 d)]]
                           else
                            k
                             [.d false 5 (.ag [D.str (ByteArray.mk #[]), D.str (ByteArray.mk #[]), D.sl 5 [], D.int .i64 0]),
                              .d false 0 (.ifc 114 (.pt 3 (.ag [D.int .i64 p268, D.ifc 84 (.int .i64 20)])))]
                             [.ob true [.ob true [.own true 4 xs, .d false 0 (.int .i64 a262)], .d false 0 (.int .i64 d)]]
                          | x => none
                         else none
                        | PR.syn p276 a277 =>
                         k
                          [.d false 5 (.ag [D.str (ByteArray.mk #[]), D.str (ByteArray.mk #[]), D.sl 5 [], D.int .i64 0]),
                           .d false 0 (.ifc 114 (.pt 3 (.ag [D.int .i64 p276, D.ifc 84 (.int .i64 20)])))]
                          [.ob true [.ob true [.own true 4 xs, .d false 0 (.int .i64 a277)], .d false 0 (.int .i64 d)]]
                        | PR.deep p281 a282 =>
                         k
                          [.d false 5 (.ag [D.str (ByteArray.mk #[]), D.str (ByteArray.mk #[]), D.sl 5 [], D.int .i64 0]),
                           .d true 0 (.ifc 114 (.pt 3 (.ag [D.int .i64 p281, D.ifc 84 (.int .i64 21)])))]
                          [.ob true [.ob true [.own true 4 xs, .d false 0 (.int .i64 a282)], .d false 0 (.int .i64 d)]]
                        | PR.no => none
                       else none
                      else
                       k
                        [.d false 5 (.ag [D.str (ByteArray.mk #[]), D.str (ByteArray.mk #[]), D.sl 5 [], D.int .i64 0]),
                         .d false 0 (.ifc 114 (.pt 3 (.ag [D.int .i64 p254, D.ifc 84 (.int .i64 20)])))]
                        [.ob true [.ob true [.own true 4 xs, .d false 0 (.int .i64 a)], .d false 0 (.int .i64 d)]]
                     | x => none
                    else none
                  else
                   if (0 : Int) ≤ a then
                    match xs[Int.toNat a]? with
                    | some (.ag [D.int .i64 c290, D.str t291, D.int .i64 n292]) =>
                     if ((c290 == (1 : Int) || c290 == (4 : Int)) && ByteArray.toList t291 == [71]) = true then
                      if (0 : Int) ≤ a ∧ a < (34359738368 : Int) then
                       match xs[Int.toNat a]? with
                       | some (.ag [D.int .i64 c295, D.str t296, D.int .i64 p297]) =>
                        if (!c295 == (0 : Int)) = true then
                         if okP xs (a + (1 : Int)) d (IntKind.wrap .i64 (lv + (1 : Int))) B.ns then
                          match pSingle xs (Int.toNat (d + (1 : Int) - IntKind.wrap .i64 (lv + (1 : Int)))) (a + (1 : Int)) with
                          | PR.ok op299 nm300 ks301 p302 a303 =>
                           k
                            [.d true 5
                              (.ag [D.str t9, D.str (ByteArray.mk #[]), D.sl 5 [D.ag [D.str op299, D.str nm300, D.sl 5 ks301, D.int .i64 p302]], D.int .i64 p10]),
                             .d false 0 D.nili]
                            [.ob true [.ob true [.own true 4 xs, .d false 0 (.int .i64 a303)], .d false 0 (.int .i64 d)]]
                          | PR.syn p307 a308 =>
                           k
                            [.d false 5 (.ag [D.str (ByteArray.mk #[]), D.str (ByteArray.mk #[]), D.sl 5 [], D.int .i64 0]),
                             .d false 0 (.ifc 114 (.pt 3 (.ag [D.int .i64 p307, D.ifc 84 (.int .i64 20)])))]
                            [.ob true [.ob true [.own true 4 xs, .d false 0 (.int .i64 a308)], .d false 0 (.int .i64 d)]]
                          | PR.deep p312 a313 =>
                           k
                            [.d false 5 (.ag [D.str (ByteArray.mk #[]), D.str (ByteArray.mk #[]), D.sl 5 [], D.int .i64 0]),
                             .d true 0 (.ifc 114 (.pt 3 (.ag [D.int .i64 p312, D.ifc 84 (.int .i64 21)])))]
                            [.ob true [.ob true [.own true 4 xs, .d false 0 (.int .i64 a313)], .d false 0 (.int .i64 d)]]
                          | PR.no => none
                         else none
                        else
                         if okP xs a d (IntKind.wrap .i64 (lv + (1 : Int))) B.ns then
                          match pSingle xs (Int.toNat (d + (1 : Int) - IntKind.wrap .i64 (lv + (1 : Int)))) a with
                          | PR.ok op318 nm319 ks320 p321 a322 =>
                           k
                            [.d true 5
                              (.ag [D.str t9, D.str (ByteArray.mk #[]), D.sl 5 [D.ag [D.str op318, D.str nm319, D.sl 5 ks320, D.int .i64 p321]], D.int .i64 p10]),
                             .d false 0 D.nili]
                            [.ob true [.ob true [.own true 4 xs, .d false 0 (.int .i64 a322)], .d false 0 (.int .i64 d)]]
                          | PR.syn p326 a327 =>
                           k
                            [.d false 5 (.ag [D.str (ByteArray.mk #[]), D.str (ByteArray.mk #[]), D.sl 5 [], D.int .i64 0]),
                             .d false 0 (.ifc 114 (.pt 3 (.ag [D.int .i64 p326, D.ifc 84 (.int .i64 20)])))]
                            [.ob true [.ob true [.own true 4 xs, .d false 0 (.int .i64 a327)], .d false 0 (.int .i64 d)]]
                          | PR.deep p331 a332 =>
                           k
                            [.d false 5 (.ag [D.str (ByteArray.mk #[]), D.str (ByteArray.mk #[]), D.sl 5 [], D.int .i64 0]),
                             .d true 0 (.ifc 114 (.pt 3 (.ag [D.int .i64 p331, D.ifc 84 (.int .i64 21)])))]
                            [.ob true [.ob true [.own true 4 xs, .d false 0 (.int .i64 a332)], .d false 0 (.int .i64 d)]]
                          | PR.no => none
                         else none
                       | x => none
                      else none
                     else
                      if (0 : Int) ≤ a ∧ a < (34359738368 : Int) then
                       match xs[Int.toNat a]? with
                       | some (.ag [D.int .i64 c337, D.str t338, D.int .i64 p339]) =>
                        if ((c337 == (1 : Int) || c337 == (4 : Int)) && ByteArray.toList t338 == [40]) = true then
                         if okP xs (a + (1 : Int)) d (IntKind.wrap .i64 (lv + (1 : Int))) B.ni then
                          match pImply xs (Int.toNat (d + (1 : Int) - IntKind.wrap .i64 (lv + (1 : Int)))) (a + (1 : Int)) with
                          | PR.ok op343 nm344 ks345 p346 a347 =>
                           if (0 : Int) ≤ a347 ∧ a347 < (34359738368 : Int) then
                            match xs[Int.toNat a347]? with
                            | some (.ag [D.int .i64 c351, D.str t352, D.int .i64 p353]) =>
                             if ((c351 == (1 : Int) || c351 == (4 : Int)) && ByteArray.toList t352 == [41]) = true then
                              k [.d true 5 (.ag [D.str op343, D.str nm344, D.sl 5 ks345, D.int .i64 p10]), .d false 0 D.nili]
                               [.ob true [.ob true [.own true 4 xs, .d false 0 (.int .i64 (a347 + (1 : Int)))], .d false 0 (.int .i64 d)]]
                             else
                              k
                               [.d false 5 (.ag [D.str (ByteArray.mk #[]), D.str (ByteArray.mk #[]), D.sl 5 [], D.int .i64 0]),
                                .d false 0 (.ifc 114 (.pt 3 (.ag [D.int .i64 p353, D.ifc 84 (.int .i64 20)])))]
                               [.ob true [.ob true [.own true 4 xs, .d false 0 (.int .i64 a347)], .d false 0 (.int .i64 d)]]
                            | x => none
                           else none
                          | PR.syn p361 a362 =>
                           k
                            [.d false 5 (.ag [D.str (ByteArray.mk #[]), D.str (ByteArray.mk #[]), D.sl 5 [], D.int .i64 0]),
                             .d false 0 (.ifc 114 (.pt 3 (.ag [D.int .i64 p361, D.ifc 84 (.int .i64 20)])))]
                            [.ob true [.ob true [.own true 4 xs, .d false 0 (.int .i64 a362)], .d false 0 (.int .i64 d)]]
                          | PR.deep p366 a367 =>
                           k
                            [.d false 5 (.ag [D.str (ByteArray.mk #[]), D.str (ByteArray.mk #[]), D.sl 5 [], D.int .i64 0]),
                             .d true 0 (.ifc 114 (.pt 3 (.ag [D.int .i64 p366, D.ifc 84 (.int .i64 21)])))]
                            [.ob true [.ob true [.own true 4 xs, .d false 0 (.int .i64 a367)], .d false 0 (.int .i64 d)]]
                          | PR.no => none
                         else none
                        else
                         k
                          [.d false 5 (.ag [D.str (ByteArray.mk #[]), D.str (ByteArray.mk #[]), D.sl 5 [], D.int .i64 0]),
                           .d false 0 (.ifc 114 (.pt 3 (.ag [D.int .i64 p339, D.ifc 84 (.int .i64 20)])))]
                          [.ob true [.ob true [.own true 4 xs, .d false 0 (.int .i64 a)], .d false 0 (.int .i64 d)]]
                       | x => none
                      else none
                    | x => none
                   else none
                 | x => none
                else none
              | x => none
             else none
           | x => none
          else none
        else
         if (0 : Int) ≤ a then
          match xs[Int.toNat a]? with
          | some (.ag [D.int .i64 c375, D.str t376, D.int .i64 n377]) =>
           if ((c375 == (1 : Int) || c375 == (4 : Int)) && ByteArray.toList t376 == [102, 97, 108, 115, 101]) = true then
            if (0 : Int) ≤ a ∧ a < (34359738368 : Int) then
             match xs[Int.toNat a]? with
             | some (.ag [D.int .i64 c380, D.str t381, D.int .i64 p382]) =>
              if (!c380 == (0 : Int)) = true then
               k [.d true 5 (.ag [D.str t9, D.str (ByteArray.mk #[]), D.sl 5 [], D.int .i64 p10]), .d false 0 D.nili]
                [.ob true [.ob true [.own true 4 xs, .d false 0 (.int .i64 (a + (1 : Int)))], .d false 0 (.int .i64 d)]]
              else
               k [.d true 5 (.ag [D.str t9, D.str (ByteArray.mk #[]), D.sl 5 [], D.int .i64 p10]), .d false 0 D.nili]
                [.ob true [.ob true [.own true 4 xs, .d false 0 (.int .i64 a)], .d false 0 (.int .i64 d)]]
             | x => none
            else none
           else
            if (0 : Int) ≤ a then
             match xs[Int.toNat a]? with
             | some (.ag [D.int .i64 c386, D.str t387, D.int .i64 n388]) =>
              if ((c386 == (1 : Int) || c386 == (4 : Int)) && ByteArray.toList t387 == [33]) = true then
               if ((c386 == (1 : Int) || c386 == (4 : Int)) && ByteArray.toList t387 == [33]) = true then
                if (0 : Int) ≤ a ∧ a < (34359738368 : Int) then
                 match xs[Int.toNat a]? with
                 | some (.ag [D.int .i64 c392, D.str t393, D.int .i64 p394]) =>
                  if (!c392 == (0 : Int)) = true then
                   if okP xs (a + (1 : Int)) d (IntKind.wrap .i64 (lv + (1 : Int))) B.ns then
                    match pSingle xs (Int.toNat (d + (1 : Int) - IntKind.wrap .i64 (lv + (1 : Int)))) (a + (1 : Int)) with
                    | PR.ok op396 nm397 ks398 p399 a400 =>
                     k
                      [.d true 5
                        (.ag [D.str t9, D.str (ByteArray.mk #[]), D.sl 5 [D.ag [D.str op396, D.str nm397, D.sl 5 ks398, D.int .i64 p399]], D.int .i64 p10]),
                       .d false 0 D.nili]
                      [.ob true [.ob true [.own true 4 xs, .d false 0 (.int .i64 a400)], .d false 0 (.int .i64 d)]]
                    | PR.syn p404 a405 =>
                     k
                      [.d false 5 (.ag [D.str (ByteArray.mk #[]), D.str (ByteArray.mk #[]), D.sl 5 [], D.int .i64 0]),
                       .d false 0 (.ifc 114 (.pt 3 (.ag [D.int .i64 p404, D.ifc 84 (.int .i64 20)])))]
                      [.ob true [.ob true [.own true 4 xs, .d false 0 (.int .i64 a405)], .d false 0 (.int .i64 d)]]
                    | PR.deep p409 a410 =>
                     k
                      [.d false 5 (.ag [D.str (ByteArray.mk #[]), D.str (ByteArray.mk #[]), D.sl 5 [], D.int .i64 0]),
                       .d true 0 (.ifc 114 (.pt 3 (.ag [D.int .i64 p409, D.ifc 84 (.int .i64 21)])))]
                      [.ob true [.ob true [.own true 4 xs, .d false 0 (.int .i64 a410)], .d false 0 (.int .i64 d)]]
                    | PR.no => none
                   else none
                  else
                   if okP xs a d (IntKind.wrap .i64 (lv + (1 : Int))) B.ns then
                    match pSingle xs (Int.toNat (d + (1 : Int) - IntKind.wrap .i64 (lv + (1 : Int)))) a with
                    | PR.ok op415 nm416 ks417 p418 a419 =>
                     k
                      [.d true 5
                        (.ag [D.str t9, D.str (ByteArray.mk #[]), D.sl 5 [D.ag [D.str op415, D.str nm416, D.sl 5 ks417, D.int .i64 p418]], D.int .i64 p10]),
                       .d false 0 D.nili]
                      [.ob true [.ob true [.own true 4 xs, .d false 0 (.int .i64 a419)], .d false 0 (.int .i64 d)]]
                    | PR.syn p423 a424 =>
                     k
                      [.d false 5 (.ag [D.str (ByteArray.mk #[]), D.str (ByteArray.mk #[]), D.sl 5 [], D.int .i64 0]),
                       .d false 0 (.ifc 114 (.pt 3 (.ag [D.int .i64 p423, D.ifc 84 (.int .i64 20)])))]
                      [.ob true [.ob true [.own true 4 xs, .d false 0 (.int .i64 a424)], .d false 0 (.int .i64 d)]]
                    | PR.deep p428 a429 =>
                     k
                      [.d false 5 (.ag [D.str (ByteArray.mk #[]), D.str (ByteArray.mk #[]), D.sl 5 [], D.int .i64 0]),
                       .d true 0 (.ifc 114 (.pt 3 (.ag [D.int .i64 p428, D.ifc 84 (.int .i64 21)])))]
                      [.ob true [.ob true [.own true 4 xs, .d false 0 (.int .i64 a429)], .d false 0 (.int .i64 d)]]
                    | PR.no => none
                   else none
                 | x => none
                else none
               else
                if (0 : Int) ≤ a ∧ a < (34359738368 : Int) then
                 match xs[Int.toNat a]? with
                 | some (.ag [D.int .i64 c434, D.str t435, D.int .i64 p436]) =>
                  if ((c434 == (1 : Int) || c434 == (4 : Int)) && ByteArray.toList t435 == [40]) = true then
                   if okP xs (a + (1 : Int)) d (IntKind.wrap .i64 (lv + (1 : Int))) B.ni then
                    match pImply xs (Int.toNat (d + (1 : Int) - IntKind.wrap .i64 (lv + (1 : Int)))) (a + (1 : Int)) with
                    | PR.ok op440 nm441 ks442 p443 a444 =>
                     if (0 : Int) ≤ a444 ∧ a444 < (34359738368 : Int) then
                      match xs[Int.toNat a444]? with
                      | some (.ag [D.int .i64 c448, D.str t449, D.int .i64 p450]) =>
                       if ((c448 == (1 : Int) || c448 == (4 : Int)) && ByteArray.toList t449 == [41]) = true then
                        k [.d true 5 (.ag [D.str op440, D.str nm441, D.sl 5 ks442, D.int .i64 p10]), .d false 0 D.nili]
                         [.ob true [.ob true [.own true 4 xs, .d false 0 (.int .i64 (a444 + (1 : Int)))], .d false 0 (.int .i64 d)]]
                       else
                        k
                         [.d false 5 (.ag [D.str (ByteArray.mk #[]), D.str (ByteArray.mk #[]), D.sl 5 [], D.int .i64 0]),
                          .d false 0 (.ifc 114 (.pt 3 (.ag [D.int .i64 p450, D.ifc 84 (.int .i64 20)])))]
                         [.ob true [.ob true [.own true 4 xs, .d false 0 (.int .i64 a444)], .d false 0 (.int .i64 d)]]
                      | x => none
                     else none
                    | PR.syn p458 a459 =>
                     k
                      [.d false 5 (.ag [D.str (ByteArray.mk #[]), D.str (ByteArray.mk #[]), D.sl 5 [], D.int .i64 0]),
                       .d false 0 (.ifc 114 (.pt 3 (.ag [D.int .i64 p458, D.ifc 84 (.int .i64 20)])))]
                      [.ob true [.ob true [.own true 4 xs, .d false 0 (.int .i64 a459)], .d false 0 (.int .i64 d)]]
                    | PR.deep p463 a464 =>
                     k
                      [.d false 5 (.ag [D.str (ByteArray.mk #[]), D.str (ByteArray.mk #[]), D.sl 5 [], D.int .i64 0]),
                       .d true 0 (.ifc 114 (.pt 3 (.ag [D.int .i64 p463, D.ifc 84 (.int .i64 21)])))]
                      [.ob true [.ob true [.own true 4 xs, .d false 0 (.int .i64 a464)], .d false 0 (.int .i64 d)]]
                    | PR.no => none
                   else none
                  else
                   k
                    [.d false 5 (.ag [D.str (ByteArray.mk #[]), D.str (ByteArray.mk #[]), D.sl 5 [], D.int .i64 0]),
                     .d false 0 (.ifc 114 (.pt 3 (.ag [D.int .i64 p436, D.ifc 84 (.int .i64 20)])))]
                    [.ob true [.ob true [.own true 4 xs, .d false 0 (.int .i64 a)], .d false 0 (.int .i64 d)]]
                 | x => none
                else none
              else
               if (0 : Int) ≤ a then
                match xs[Int.toNat a]? with
                | some (.ag [D.int .i64 c472, D.str t473, D.int .i64 n474]) =>
                 if ((c472 == (1 : Int) || c472 == (4 : Int)) && ByteArray.toList t473 == [88]) = true then
                  if ((c472 == (1 : Int) || c472 == (4 : Int)) && ByteArray.toList t473 == [88]) = true then
                   if (0 : Int) ≤ a ∧ a < (34359738368 : Int) then
                    match xs[Int.toNat a]? with
                    | some (.ag [D.int .i64 c478, D.str t479, D.int .i64 p480]) =>
                     if (!c478 == (0 : Int)) = true then
                      if okP xs (a + (1 : Int)) d (IntKind.wrap .i64 (lv + (1 : Int))) B.ns then
                       match pSingle xs (Int.toNat (d + (1 : Int) - IntKind.wrap .i64 (lv + (1 : Int)))) (a + (1 : Int)) with
                       | PR.ok op482 nm483 ks484 p485 a486 =>
                        k
                         [.d true 5
                           (.ag [D.str t9, D.str (ByteArray.mk #[]), D.sl 5 [D.ag [D.str op482, D.str nm483, D.sl 5 ks484, D.int .i64 p485]], D.int .i64 p10]),
                          .d false 0 D.nili]
                         [.ob true [.ob true [.own true 4 xs, .d false 0 (.int .i64 a486)], .d false 0 (.int .i64 d)]]
                       | PR.syn p490 a491 =>
                        k
                         [.d false 5 (.ag [D.str (ByteArray.mk #[]), D.str (ByteArray.mk #[]), D.sl 5 [], D.int .i64 0]),
                          .d false 0 (.ifc 114 (.pt 3 (.ag [D.int .i64 p490, D.ifc 84 (.int .i64 20)])))]
                         [.ob true [.ob true [.own true 4 xs, .d false 0 (.int .i64 a491)], .d false 0 (.int .i64 d)]]
                       | PR.deep p495 a496 =>
                        k
                         [.d false 5 (.ag [D.str (ByteArray.mk #[]), D.str (ByteArray.mk #[]), D.sl 5 [], D.int .i64 0]),
                          .d true 0 (.ifc 114 (.pt 3 (.ag [D.int .i64 p495, D.ifc 84 (.int .i64 21)])))]
                         [.ob true [.ob true [.own true 4 xs, .d false 0 (.int .i64 a496)], .d false 0 (.int .i64 d)]]
                       | PR.no => none
                      else none
                     else
                      if okP xs a d (IntKind.wrap .i64 (lv + (1 : Int))) B.ns then
                       match pSingle xs (Int.toNat (d + (1 : Int) - IntKind.wrap .i64 (lv + (1 : Int)))) a with
                       | PR.ok op501 nm502 ks503 p504 a505 =>
                        k
                         [.d true 5
                           (.ag [D.str t9, D.str (ByteArray.mk #[]), D.sl 5 [D.ag [D.str op501, D.str nm502, D.sl 5 ks503, D.int .i64 p504]], D.int .i64 p10]),
                          .d false 0 D.nili]
                         [.ob true [.ob true [.own true 4 xs, .d false 0 (.int .i64 a505)], .d false 0 (.int .i64 d)]]
                       | PR.syn p509 a510 =>
                        k
                         [.d false 5 (.ag [D.str (ByteArray.mk #[]), D.str (ByteArray.mk #[]), D.sl 5 [], D.int .i64 0]),
                          .d false 0 (.ifc 114 (.pt 3 (.ag [D.int .i64 p509, D.ifc 84 (.int .i64 20)])))]
                         [.ob true [.ob true [.own true 4 xs, .d false 0 (.int .i64 a510)], .d false 0 (.int .i64 d)]]
                       | PR.deep p514 a515 =>
                        k
                         [.d false 5 (.ag [D.str (ByteArray.mk #[]), D.str (ByteArray.mk #[]), D.sl 5 [], D.int .i64 0]),
                          .d true 0 (.ifc 114 (.pt 3 (.ag [D.int .i64 p514, D.ifc 84 (.int .i64 21)])))]
                         [.ob true [.ob true [.own true 4 xs, .d false 0 (.int .i64 a515)], .d false 0 (.int .i64 d)]]
                       | PR.no => none
                      else none
                    | x => none
                   else none
                  else
                   if (0 : Int) ≤ a ∧ a < (34359738368 : Int) then
                    match xs[Int.toNat a]? with
                    | some (.ag [D.int .i64 c520, D.str t521, D.int .i64 p522]) =>
                     if ((c520 == (1 : Int) || c520 == (4 : Int)) && ByteArray.toList t521 == [40]) = true then
                      if okP xs (a + (1 : Int)) d (IntKind.wrap .i64 (lv + (1 : Int))) B.ni then
                       match pImply xs (Int.toNat (d + (1 : Int) - IntKind.wrap .i64 (lv + (1 : Int)))) (a + (1 : Int)) with
                       | PR.ok op526 nm527 ks528 p529 a530 =>
                        if (0 : Int) ≤ a530 ∧ a530 < (34359738368 : Int) then
                         match xs[Int.toNat a530]? with
                         | some (.ag [D.int .i64 c534, D.str t535, D.int .i64 p536]) =>
                          if ((c534 == (1 : Int) || c534 == (4 : Int)) && ByteArray.toList t535 == [41]) = true then
                           k [.d true 5 (.ag [D.str op526, D.str nm527, D.sl 5 ks528, D.int .i64 p10]), .d false 0 D.nili]
                            [.ob true [.ob true [.own true 4 xs, .d false 0 (.int .i64 (a530 + (1 : Int)))], .d false 0 (.int .i64 d)]]
                          else
                           k
                            [.d false 5 (.ag [D.str (ByteArray.mk #[]), D.str (ByteArray.mk #[]), D.sl 5 [], D.int .i64 0]),
                             .d false 0 (.ifc 114 (.pt 3 (.ag [D.int .i64 p536, D.ifc 84 (.int .i64 20)])))]
                            [.ob true [.ob true [.own true 4 xs, .d false 0 (.int .i64 a530)], .d false 0 (.int .i64 d)]]
                         | x => none
                        else none
                       | PR.syn p544 a545 =>
                        k
                         [.d false 5 (.ag [D.str (ByteArray.mk #[]), D.str (ByteArray.mk #[]), D.sl 5 [], D.int .i64 0]),
                          .d false 0 (.ifc 114 (.pt 3 (.ag [D.int .i64 p544, D.ifc 84 (.int .i64 20)])))]
                         [.ob true [.ob true [.own true 4 xs, .d false 0 (.int .i64 a545)], .d false 0 (.int .i64 d)]]
                       | PR.deep p549 a550 =>
                        k
                         [.d false 5 (.ag [D.str (ByteArray.mk #[]), D.str (ByteArray.mk #[]), D.sl 5 [], D.int .i64 0]),
                          .d true 0 (.ifc 114 (.pt 3 (.ag [D.int .i64 p549, D.ifc 84 (.int .i64 21)])))]
                         [.ob true [.ob true [.own true 4 xs, .d false 0 (.int .i64 a550)], .d false 0 (.int .i64 d)]]
                       | PR.no => none
                      else none
                     else
                      k
                       [.d false 5 (.ag [D.str (ByteArray.mk #[]), D.str (ByteArray.mk #[]), D.sl 5 [], D.int .i64 0]),
                        .d false 0 (.ifc 114 (.pt 3 (.ag [D.int .i64 p522, D.ifc 84 (.int .i64 20)])))]
                       [.ob true [.ob true [.own true 4 xs, .d false 0 (.int .i64 a)], .d false 0 (.int .i64 d)]]
                    | x => none
                   else none
                 else
                  if (0 : Int) ≤ a then
                   match xs[Int.toNat a]? with
                   | some (.ag [D.int .i64 c558, D.str t559, D.int .i64 n560]) =>
                    if ((c558 == (1 : Int) || c558 == (4 : Int)) && ByteArray.toList t559 == [70]) = true then
                     if ((c558 == (1 : Int) || c558 == (4 : Int)) && ByteArray.toList t559 == [70]) = true then
                      if (0 : Int) ≤ a ∧ a < (34359738368 : Int) then
                       match xs[Int.toNat a]? with
                       | some (.ag [D.int .i64 c564, D.str t565, D.int .i64 p566]) =>
                        if (!c564 == (0 : Int)) = true then
                         if okP xs (a + (1 : Int)) d (IntKind.wrap .i64 (lv + (1 : Int))) B.ns then
                          match pSingle xs (Int.toNat (d + (1 : Int) - IntKind.wrap .i64 (lv + (1 : Int)))) (a + (1 : Int)) with
                          | PR.ok op568 nm569 ks570 p571 a572 =>
                           k
                            [.d true 5
                              (.ag [D.str t9, D.str (ByteArray.mk #[]), D.sl 5 [D.ag [D.str op568, D.str nm569, D.sl 5 ks570, D.int .i64 p571]], D.int .i64 p10]),
                             .d false 0 D.nili]
                            [.ob true [.ob true [.own true 4 xs, .d false 0 (.int .i64 a572)], .d false 0 (.int .i64 d)]]
                          | PR.syn p576 a577 =>
                           k
                            [.d false 5 (.ag [D.str (ByteArray.mk #[]), D.str (ByteArray.mk #[]), D.sl 5 [], D.int .i64 0]),
                             .d false 0 (.ifc 114 (.pt 3 (.ag [D.int .i64 p576, D.ifc 84 (.int .i64 20)])))]
                            [.ob true [.ob true [.own true 4 xs, .d false 0 (.int .i64 a577)], .d false 0 (.int .i64 d)]]
                          | PR.deep p581 a582 =>
                           k
                            [.d false 5 (.ag [D.str (ByteArray.mk #[]), D.str (ByteArray.mk #[]), D.sl 5 [], D.int .i64 0]),
                             .d true 0 (.ifc 114 (.pt 3 (.ag [D.int .i64 p581, D.ifc 84 (.int .i64 21)])))]
                            [.ob true [.ob true [.own true 4 xs, .d false 0 (.int .i64 a582)], .d false 0 (.int .i64 d)]]
                          | PR.no => none
                         else none
                        else
                         if okP xs a d (IntKind.wrap .i64 (lv + (1 : Int))) B.ns then
                          match pSingle xs (Int.toNat (d + (1 : Int) - IntKind.wrap .i64 (lv + (1 : Int)))) a with
                          | PR.ok op587 nm588 ks589 p590 a591 =>
                           k
                            [.d true 5
                              (.ag [D.str t9, D.str (ByteArray.mk #[]), D.sl 5 [D.ag [D.str op587, D.str nm588, D.sl 5 ks589, D.int .i64 p590]], D.int .i64 p10]),
                             .d false 0 D.nili]
                            [.ob true [.ob true [.own true 4 xs, .d false 0 (.int .i64 a591)], .d false 0 (.int .i64 d)]]
                          | PR.syn p595 a596 =>
                           k
                            [.d false 5 (.ag [D.str (ByteArray.mk #[]), D.str (ByteArray.mk #[]), D.sl 5 [], D.int .i64 0]),
                             .d false 0 (.ifc 114 (.pt 3 (.ag [D.int .i64 p595, D.ifc 84 (.int .i64 20)])))]
                            [.ob true [.ob true [.own true 4 xs, .d false 0 (.int .i64 a596)], .d false 0 (.int .i64 d)]]
                          | PR.deep p600 a601 =>
                           k
                            [.d false 5 (.ag [D.str (ByteArray.mk #[]), D.str (ByteArray.mk #[]), D.sl 5 [], D.int .i64 0]),
                             .d true 0 (.ifc 114 (.pt 3 (.ag [D.int .i64 p600, D.ifc 84 (.int .i64 21)])))]
                            [.ob true [.ob true [.own true 4 xs, .d false 0 (.int .i64 a601)], .d false 0 (.int .i64 d)]]
                          | PR.no => none
                         else none
                       | x => none
                      else none
                     else
                      if (0 : Int) ≤ a ∧ a < (34359738368 : Int) then
                       match xs[Int.toNat a]? with
                       | some (.ag [D.int .i64 c606, D.str t607, D.int .i64 p608]) =>
                        if ((c606 == (1 : Int) || c606 == (4 : Int)) && ByteArray.toList t607 == [40]) = true then
                         if okP xs (a + (1 : Int)) d (IntKind.wrap .i64 (lv + (1 : Int))) B.ni then
                          match pImply xs (Int.toNat (d + (1 : Int) - IntKind.wrap .i64 (lv + (1 : Int)))) (a + (1 : Int)) with
                          | PR.ok op612 nm613 ks614 p615 a616 =>
                           if (0 : Int) ≤ a616 ∧ a616 < (34359738368 : Int) then
                            match xs[Int.toNat a616]? with
                            | some (.ag [D.int .i64 c620, D.str t621, D.int .i64 p622]) =>
                             if ((c620 == (1 : Int) || c620 == (4 : Int)) && ByteArray.toList t621 == [41]) = true then
                              k [.d true 5 (.ag [D.str op612, D.str nm613, D.sl 5 ks614, D.int .i64 p10]), .d false 0 D.nili]
                               [.ob true [.ob true [.own true 4 xs, .d false 0 (.int .i64 (a616 + (1 : Int)))], .d false 0 (.int .i64 d)]]
                             else
                              k
                               [.d false 5 (.ag [D.str (ByteArray.mk #[]), D.str (ByteArray.mk #[]), D.sl 5 [], D.int .i64 0]),
                                .d false 0 (.ifc 114 (.pt 3 (.ag [D.int .i64 p622, D.ifc 84 (.int .i64 20)])))]
                               [.ob true [.ob true [.own true 4 xs, .d false 0 (.int .i64 a616)], .d false 0 (.int .i64 d)]]
                            | x => none
                           else none
                          | PR.syn p630 a631 =>
                           k
                            [.d false 5 (.ag [D.str (ByteArray.mk #[]), D.str (ByteArray.mk #[]), D.sl 5 [], D.int .i64 0]),
                             .d false 0 (.ifc 114 (.pt 3 (.ag [D.int .i64 p630, D.ifc 84 (.int .i64 20)])))]
                            [.ob true [.ob true [.own true 4 xs, .d false 0 (.int .i64 a631)], .d false 0 (.int .i64 d)]]
                          | PR.deep p635 a636 =>
                           k
                            [.d false 5 (.ag [D.str (ByteArray.mk #[]), D.str (ByteArray.mk #[]), D.sl 5 [], D.int .i64 0]),
                             .d true 0 (.ifc 114 (.pt 3 (.ag [D.int .i64 p635, D.ifc 84 (.int .i64 21)])))]
                            [.ob true [.ob true [.own true 4 xs, .d false 0 (.int .i64 a636)], .d false 0 (.int .i64 d)]]
                          | PR.no => none
                         else none
                        else
                         k
                          [.d false 5 (.ag [D.str (ByteArray.mk #[]), D.str (ByteArray.mk #[]), D.sl 5 [], D.int .i64 0]),
                           .d false 0 (.ifc 114 (.pt 3 (.ag [D.int .i64 p608, D.ifc 84 (.int .i64 20)])))]
                          [.ob true [.ob true [.own true 4 xs, .d false 0 (.int .i64 a)], .d false 0 (.int .i64 d)]]
                       | x => none
                      else none
                    else
                     if (0 : Int) ≤ a then
                      match xs[Int.toNat a]? with
                      | some (.ag [D.int .i64 c644, D.str t645, D.int .i64 n646]) =>
                       if ((c644 == (1 : Int) || c644 == (4 : Int)) && ByteArray.toList t645 == [71]) = true then
                        if (0 : Int) ≤ a ∧ a < (34359738368 : Int) then
                         match xs[Int.toNat a]? with
                         | some (.ag [D.int .i64 c649, D.str t650, D.int .i64 p651]) =>
                          if (!c649 == (0 : Int)) = true then
                           if okP xs (a + (1 : Int)) d (IntKind.wrap .i64 (lv + (1 : Int))) B.ns then
                            match pSingle xs (Int.toNat (d + (1 : Int) - IntKind.wrap .i64 (lv + (1 : Int)))) (a + (1 : Int)) with
                            | PR.ok op653 nm654 ks655 p656 a657 =>
                             k
                              [.d true 5
                                (.ag
                                 [D.str t9, D.str (ByteArray.mk #[]), D.sl 5 [D.ag [D.str op653, D.str nm654, D.sl 5 ks655, D.int .i64 p656]], D.int .i64 p10]),
                               .d false 0 D.nili]
                              [.ob true [.ob true [.own true 4 xs, .d false 0 (.int .i64 a657)], .d false 0 (.int .i64 d)]]
                            | PR.syn p661 a662 =>
                             k
                              [.d false 5 (.ag [D.str (ByteArray.mk #[]), D.str (ByteArray.mk #[]), D.sl 5 [], D.int .i64 0]),
                               .d false 0 (.ifc 114 (.pt 3 (.ag [D.int .i64 p661, D.ifc 84 (.int .i64 20)])))]
                              [.ob true [.ob true [.own true 4 xs, .d false 0 (.int .i64 a662)], .d false 0 (.int .i64 d)]]
                            | PR.deep p666 a667 =>
                             k
                              [.d false 5 (.ag [D.str (ByteArray.mk #[]), D.str (ByteArray.mk #[]), D.sl 5 [], D.int .i64 0]),
                               .d true 0 (.ifc 114 (.pt 3 (.ag [D.int .i64 p666, D.ifc 84 (.int .i64 21)])))]
                              [.ob true [.ob true [.own true 4 xs, .d false 0 (.int .i64 a667)], .d false 0 (.int .i64 d)]]
                            | PR.no => none
                           else none
                          else
                           if okP xs a d (IntKind.wrap .i64 (lv + (1 : Int))) B.ns then
                            match pSingle xs (Int.toNat (d + (1 : Int) - IntKind.wrap .i64 (lv + (1 : Int)))) a with
                            | PR.ok op672 nm673 ks674 p675 a676 =>
                             k
                              [.d true 5
                                (.ag
                                 [D.str t9, D.str (ByteArray.mk #[]), D.sl 5 [D.ag [D.str op672, D.str nm673, D.sl 5 ks674, D.int .i64 p675]], D.int .i64 p10]),
                               .d false 0 D.nili]
                              [.ob true [.ob true [.own true 4 xs, .d false 0 (.int .i64 a676)], .d false 0 (.int .i64 d)]]
                            | PR.syn p680 a681 =>
                             k
                              [.d false 5 (.ag [D.str (ByteArray.mk #[]), D.str (ByteArray.mk #[]), D.sl 5 [], D.int .i64 0]),
                               .d false 0 (.ifc 114 (.pt 3 (.ag [D.int .i64 p680, D.ifc 84 (.int .i64 20)])))]
                              [.ob true [.ob true [.own true 4 xs, .d false 0 (.int .i64 a681)], .d false 0 (.int .i64 d)]]
                            | PR.deep p685 a686 =>
                             k
                              [.d false 5 (.ag [D.str (ByteArray.mk #[]), D.str (ByteArray.mk #[]), D.sl 5 [], D.int .i64 0]),
                               .d true 0 (.ifc 114 (.pt 3 (.ag [D.int .i64 p685, D.ifc 84 (.int .i64 21)])))]
                              [.ob true [.ob true [.own true 4 xs, .d false 0 (.int .i64 a686)], .d false 0 (.int .i64 d)]]
                            | PR.no => none
                           else none
                         | x => none
                        else none
                       else
                        if (0 : Int) ≤ a ∧ a < (34359738368 : Int) then
                         match xs[Int.toNat a]? with
                         | some (.ag [D.int .i64 c691, D.str t692, D.int .i64 p693]) =>
                          if ((c691 == (1 : Int) || c691 == (4 : Int)) && ByteArray.toList t692 == [40]) = true then
                           if okP xs (a + (1 : Int)) d (IntKind.wrap .i64 (lv + (1 : Int))) B.ni then
                            match pImply xs (Int.toNat (d + (1 : Int) - IntKind.wrap .i64 (lv + (1 : Int)))) (a + (1 : Int)) with
                            | PR.ok op697 nm698 ks699 p700 a701 =>
                             if (0 : Int) ≤ a701 ∧ a701 < (34359738368 : Int) then
                              match xs[Int.toNat a701]? with
                              | some (.ag [D.int .i64 c705, D.str t706, D.int .i64 p707]) =>
                               if ((c705 == (1 : Int) || c705 == (4 : Int)) && ByteArray.toList t706 == [41]) = true then
                                k [.d true 5 (.ag [D.str op697, D.str nm698, D.sl 5 ks699, D.int .i64 p10]), .d false 0 D.nili]
                                 [.ob true [.ob true [.own true 4 xs, .d false 0 (.int .i64 (a701 + (1 : Int)))], .d false 0 (.int .i64 d)]]
                               else
                                k
                                 [.d false 5 (.ag [D.str (ByteArray.mk #[]), D.str (ByteArray.mk #[]), D.sl 5 [], D.int .i64 0]),
                                  .d false 0 (.ifc 114 (.pt 3 (.ag [D.int .i64 p707, D.ifc 84 (.int .i64 20)])))]
                                 [.ob true [.ob true [.own true 4 xs, .d false 0 (.int .i64 a701)], .d false 0 (.int .i64 d)]]
                              | x => none
                             else none
                            | PR.syn p715 a716 =>
                             k
                              [.d false 5 (.ag [D.str (ByteArray.mk #[]), D.str (ByteArray.mk #[]), D.sl 5 [], D.int .i64 0]),
                               .d false 0 (.ifc 114 (.pt 3 (.ag [D.int .i64 p715, D.ifc 84 (.int .i64 20)])))]
                              [.ob true [.ob true [.own true 4 xs, .d false 0 (.int .i64 a716)], .d false 0 (.int .i64 d)]]
                            | PR.deep p720 a721 =>
                             k
                              [.d false 5 (.ag [D.str (ByteArray.mk #[]), D.str (ByteArray.mk #[]), D.sl 5 [], D.int .i64 0]),
                               .d true 0 (.ifc 114 (.pt 3 (.ag [D.int .i64 p720, D.ifc 84 (.int .i64 21)])))]
                              [.ob true [.ob true [.own true 4 xs, .d false 0 (.int .i64 a721)], .d false 0 (.int .i64 d)]]
                            | PR.no => none
                           else none
                          else
                           k
                            [.d false 5 (.ag [D.str (ByteArray.mk #[]), D.str (ByteArray.mk #[]), D.sl 5 [], D.int .i64 0]),
                             .d false 0 (.ifc 114 (.pt 3 (.ag [D.int .i64 p693, D.ifc 84 (.int .i64 20)])))]
                            [.ob true [.ob true [.own true 4 xs, .d false 0 (.int .i64 a)], .d false 0 (.int .i64 d)]]
                         | x => none
                        else none
                      | x => none
                     else none
                   | x => none
                  else none
                | x => none
               else none
             | x => none
            else none
          | x => none
         else none
       | x => none
      else none
    | x => none
   else none := by kernel_rfl
end
end B108

namespace B80
  section
  variable (B : Bd)
/- rounds of the search: 1 -/
noncomputable def X : Fx := ⟨Tryz.prog, QP B, 48, 2⟩
theorem start {β : Type} (xs : List D) (a : Int) (d : Int) (lv : Int) (k : List TV → List TV → Option β) : evalF Tryz.prog (QP B) Tryz.f64 [.ob true [.ob true [.own true 4 xs, .d false 0 (.int .i64 a)], .d false 0 (.int .i64 d)], .d true 0 (.int .i64 lv)] k =
   if decide (lv > d) = true then
   if (0 : Int) ≤ a then
    match xs[Int.toNat a]? with
    | some (.ag [D.int .i64 n4, D.str s5, D.int .i64 p6]) =>
     k
      [.d false 5 (.ag [D.str (ByteArray.mk #[]), D.str (ByteArray.mk #[]), D.sl 5 [], D.int .i64 0]),
       .d true 0 (.ifc 114 (.pt 3 (.ag [D.int .i64 p6, D.ifc 84 (.int .i64 21)])))]
      [.ob true [.ob true [.own true 4 xs, .d false 0 (.int .i64 a)], .d false 0 (.int .i64 d)]]
    | x => none
   else none
  else
   if okP xs a d lv B.ns then
    match pSingle xs (Int.toNat (d + (1 : Int) - lv)) a with
    | PR.ok op8 nm9 ks10 p11 a12 =>
     if okP xs a12 d (lv + (1 : Int)) B.nru then
      match pRight xs (Int.toNat (d - lv)) true op8 nm9 ks10 p11 [ByteArray.mk #[85], ByteArray.mk #[87], ByteArray.mk #[82]] a12 with
      | PR.ok op16 nm17 ks18 p19 a20 =>
       k [.d true 5 (.ag [D.str op16, D.str nm17, D.sl 5 ks18, D.int .i64 p19]), .d false 0 D.nili]
        [.ob true [.ob true [.own true 4 xs, .d false 0 (.int .i64 a20)], .d false 0 (.int .i64 d)]]
      | PR.syn p21 a22 =>
       k
        [.d false 5 (.ag [D.str (ByteArray.mk #[]), D.str (ByteArray.mk #[]), D.sl 5 [], D.int .i64 0]),
         .d false 0 (.ifc 114 (.pt 3 (.ag [D.int .i64 p21, D.ifc 84 (.int .i64 20)])))]
        [.ob true [.ob true [.own true 4 xs, .d false 0 (.int .i64 a22)], .d false 0 (.int .i64 d)]]
      | PR.deep p23 a24 =>
       k
        [.d false 5 (.ag [D.str (ByteArray.mk #[]), D.str (ByteArray.mk #[]), D.sl 5 [], D.int .i64 0]),
         .d true 0 (.ifc 114 (.pt 3 (.ag [D.int .i64 p23, D.ifc 84 (.int .i64 21)])))]
        [.ob true [.ob true [.own true 4 xs, .d false 0 (.int .i64 a24)], .d false 0 (.int .i64 d)]]
      | PR.no => none
     else none
    | PR.syn p25 a26 =>
     k
      [.d false 5 (.ag [D.str (ByteArray.mk #[]), D.str (ByteArray.mk #[]), D.sl 5 [], D.int .i64 0]),
       .d false 0 (.ifc 114 (.pt 3 (.ag [D.int .i64 p25, D.ifc 84 (.int .i64 20)])))]
      [.ob true [.ob true [.own true 4 xs, .d false 0 (.int .i64 a26)], .d false 0 (.int .i64 d)]]
    | PR.deep p30 a31 =>
     k
      [.d false 5 (.ag [D.str (ByteArray.mk #[]), D.str (ByteArray.mk #[]), D.sl 5 [], D.int .i64 0]),
       .d true 0 (.ifc 114 (.pt 3 (.ag [D.int .i64 p30, D.ifc 84 (.int .i64 21)])))]
      [.ob true [.ob true [.own true 4 xs, .d false 0 (.int .i64 a31)], .d false 0 (.int .i64 d)]]
    | PR.no => none
   else none := by kernel_rfl
end
end B80

namespace B79
  section
  variable (B : Bd)
/- rounds of the search: 1 -/
noncomputable def X : Fx := ⟨Tryz.prog, QP B, 24, 2⟩
theorem start {β : Type} (xs : List D) (a : Int) (d : Int) (lv : Int) (k : List TV → List TV → Option β) : evalF Tryz.prog (QP B) Tryz.f63
   [.d true 0 (.int .i64 lv), .cpo true (.ob true [.ob true [.own true 4 xs, .d false 0 (.int .i64 a)], .d false 0 (.int .i64 d)])] k =
   if okP xs a d lv B.ncu then
   match pChain xs (ByteArray.mk #[38]) (Int.toNat (d + (1 : Int) - lv)) true a with
   | PR.ok op2 nm3 ks4 p5 a6 =>
    k [.d true 5 (.ag [D.str op2, D.str nm3, D.sl 5 ks4, D.int .i64 p5]), .d false 0 D.nili]
     [.cpo true (.ob true [.ob true [.own true 4 xs, .d false 0 (.int .i64 a6)], .d false 0 (.int .i64 d)])]
   | PR.syn p7 a8 =>
    k
     [.d false 5 (.ag [D.str (ByteArray.mk #[]), D.str (ByteArray.mk #[]), D.sl 5 [], D.int .i64 0]),
      .d false 0 (.ifc 114 (.pt 3 (.ag [D.int .i64 p7, D.ifc 84 (.int .i64 20)])))]
     [.cpo true (.ob true [.ob true [.own true 4 xs, .d false 0 (.int .i64 a8)], .d false 0 (.int .i64 d)])]
   | PR.deep p9 a10 =>
    k
     [.d false 5 (.ag [D.str (ByteArray.mk #[]), D.str (ByteArray.mk #[]), D.sl 5 [], D.int .i64 0]),
      .d true 0 (.ifc 114 (.pt 3 (.ag [D.int .i64 p9, D.ifc 84 (.int .i64 21)])))]
     [.cpo true (.ob true [.ob true [.own true 4 xs, .d false 0 (.int .i64 a10)], .d false 0 (.int .i64 d)])]
   | PR.no => none
  else none := by kernel_rfl
end
end B79

namespace B55
  section
  variable (B : Bd)
/- rounds of the search: 1 -/
noncomputable def X : Fx := ⟨Tryz.prog, QP B, 48, 2⟩
theorem start {β : Type} (xs : List D) (a : Int) (d : Int) (lv : Int) (k : List TV → List TV → Option β) : evalF Tryz.prog (QP B) Tryz.f40 [.ob true [.ob true [.own true 4 xs, .d false 0 (.int .i64 a)], .d false 0 (.int .i64 d)], .d true 0 (.int .i64 lv)] k =
   if decide (lv > d) = true then
   if (0 : Int) ≤ a then
    match xs[Int.toNat a]? with
    | some (.ag [D.int .i64 n4, D.str s5, D.int .i64 p6]) =>
     k
      [.d false 5 (.ag [D.str (ByteArray.mk #[]), D.str (ByteArray.mk #[]), D.sl 5 [], D.int .i64 0]),
       .d true 0 (.ifc 114 (.pt 3 (.ag [D.int .i64 p6, D.ifc 84 (.int .i64 21)])))]
      [.ob true [.ob true [.own true 4 xs, .d false 0 (.int .i64 a)], .d false 0 (.int .i64 d)]]
    | x => none
   else none
  else
   if okP xs a d lv B.nck then
    match pChain xs (ByteArray.mk #[124]) (Int.toNat (d + (1 : Int) - lv)) false a with
    | PR.ok op8 nm9 ks10 p11 a12 =>
     if okP xs a12 d (lv + (1 : Int)) B.nri then
      match pRight xs (Int.toNat (d - lv)) false op8 nm9 ks10 p11 [ByteArray.mk #[61, 62]] a12 with
      | PR.ok op16 nm17 ks18 p19 a20 =>
       k [.d true 5 (.ag [D.str op16, D.str nm17, D.sl 5 ks18, D.int .i64 p19]), .d false 0 D.nili]
        [.ob true [.ob true [.own true 4 xs, .d false 0 (.int .i64 a20)], .d false 0 (.int .i64 d)]]
      | PR.syn p21 a22 =>
       k
        [.d false 5 (.ag [D.str (ByteArray.mk #[]), D.str (ByteArray.mk #[]), D.sl 5 [], D.int .i64 0]),
         .d false 0 (.ifc 114 (.pt 3 (.ag [D.int .i64 p21, D.ifc 84 (.int .i64 20)])))]
        [.ob true [.ob true [.own true 4 xs, .d false 0 (.int .i64 a22)], .d false 0 (.int .i64 d)]]
      | PR.deep p23 a24 =>
       k
        [.d false 5 (.ag [D.str (ByteArray.mk #[]), D.str (ByteArray.mk #[]), D.sl 5 [], D.int .i64 0]),
         .d true 0 (.ifc 114 (.pt 3 (.ag [D.int .i64 p23, D.ifc 84 (.int .i64 21)])))]
        [.ob true [.ob true [.own true 4 xs, .d false 0 (.int .i64 a24)], .d false 0 (.int .i64 d)]]
      | PR.no => none
     else none
    | PR.syn p25 a26 =>
     k
      [.d false 5 (.ag [D.str (ByteArray.mk #[]), D.str (ByteArray.mk #[]), D.sl 5 [], D.int .i64 0]),
       .d false 0 (.ifc 114 (.pt 3 (.ag [D.int .i64 p25, D.ifc 84 (.int .i64 20)])))]
      [.ob true [.ob true [.own true 4 xs, .d false 0 (.int .i64 a26)], .d false 0 (.int .i64 d)]]
    | PR.deep p30 a31 =>
     k
      [.d false 5 (.ag [D.str (ByteArray.mk #[]), D.str (ByteArray.mk #[]), D.sl 5 [], D.int .i64 0]),
       .d true 0 (.ifc 114 (.pt 3 (.ag [D.int .i64 p30, D.ifc 84 (.int .i64 21)])))]
      [.ob true [.ob true [.own true 4 xs, .d false 0 (.int .i64 a31)], .d false 0 (.int .i64 d)]]
    | PR.no => none
   else none := by kernel_rfl
end
end B55


end Go.Sd

namespace Go.Sd
open Go Go.Cm Go.Proofs Go.Sc
set_option maxRecDepth 100000
namespace C78u
  section
  variable (B : Bd)
/- rounds of the search: 3 -/
noncomputable def X : Fx := ⟨Tryz.prog, QP B, 768, 4⟩
def s0 (xs : List D) (d : Int) (lv : Int) (s : ByteArray) (x9 : D) (x10 : Bool) (x11 : ByteArray) (x12 : Bool) (x13 : ByteArray) (x14 : Bool) (x15 : List D) (x16 : Bool) (x17 : Int) (x18 : Int) (x25 : Bool) : S := ⟨Tm.mk 46
   [(0, .rp 1 0), (1, .d true 0 (.str s)), (2, .d true 0 (.int .i64 lv)), (3, .fb 64 [.rp 1 0]),
    (8, .rp 9 0), (10, .rp 11 0), (11, .d x25 0 x9)], [(1, true, [.rp 69632 0, .d false 0 (.int .i64 d)]),
   (9, true, [.d false 0 (.str (ByteArray.mk #[])), .d false 0 (.str (ByteArray.mk #[])), .own false 5 [], .d false 0 (.int .i64 0)]),
   (11, true, [.d x10 0 (.str x11), .d x12 0 (.str x13), .d x14 0 (.sl 5 x15), .d x16 0 (.int .i64 x17)]),
   (69632, true, [.own true 4 xs, .d false 0 (.int .i64 x18)]), (2305843009213693952, true, [.rp 1 0])]⟩
def e0x0 (xs : List D) (d : Int) (x134 : ByteArray) (x135 : ByteArray) (x136 : List D) (x137 : Int) (x138 : Int) : S := ⟨Tm.mk 46 [(8, .rp 9 0), (10, .rp 11 0), (11, .d false 0 D.nili)], [(1, true, [.rp 69632 0, .d false 0 (.int .i64 d)]),
   (9, true, [.d false 0 (.str (ByteArray.mk #[])), .d false 0 (.str (ByteArray.mk #[])), .own false 5 [], .d false 0 (.int .i64 0)]),
   (11, true, [.d true 0 (.str x134), .d true 0 (.str x135), .d true 0 (.sl 5 x136), .d true 0 (.int .i64 x137)]),
   (69632, true, [.own true 4 xs, .d false 0 (.int .i64 x138)]), (2305843009213693952, true, [.rp 1 0])]⟩
def e0x0_1 (xs : List D) (d : Int) (x21 : Bool) (x22 : Int) (x23 : Int) (x24 : Int) (x68 : Bool) (x69 : ByteArray) (x70 : Bool) (x71 : ByteArray) (x72 : Bool) (x73 : List D) (x74 : Bool) (x75 : Int) : S := ⟨Tm.mk 46
   [(8, .rp 9 0), (10, .rp 11 0),
    (11, .d x21 0 (.ifc 114 (.pt 3 (.ag [D.int .i64 x22, D.ifc 84 (.int .i64 x23)]))))], [(1, true, [.rp 69632 0, .d false 0 (.int .i64 d)]),
   (9, true, [.d false 0 (.str (ByteArray.mk #[])), .d false 0 (.str (ByteArray.mk #[])), .own false 5 [], .d false 0 (.int .i64 0)]),
   (11, true, [.d x68 0 (.str x69), .d x70 0 (.str x71), .d x72 0 (.sl 5 x73), .d x74 0 (.int .i64 x75)]),
   (69632, true, [.own true 4 xs, .d false 0 (.int .i64 x24)]), (2305843009213693952, true, [.rp 1 0])]⟩
noncomputable abbrev L0 : S → Option (S ⊕ (Ex × S)) := roundK (X B) [(0, 3328)] (sub [1, 1, 0, 0, 0] (body Tryz.f62))
theorem start {β : Type} (xs : List D) (a : Int) (d : Int) (lv : Int) (s : ByteArray) (k : List TV → List TV → Option β) : evalF Tryz.prog (QP B) Tryz.f62
   [.ob true [.ob true [.own true 4 xs, .d false 0 (.int .i64 a)], .d false 0 (.int .i64 d)], .d true 0 (.str s), .d true 0 (.int .i64 lv),
    .fc true true (64 : FuncId) [(0, false)]]
   k =
   if okP xs a d lv B.nu then
   match pUntl xs (Int.toNat (d + (1 : Int) - lv)) a with
   | PR.ok op149 nm150 ks151 p152 a153 =>
    goLp (X B) [(0, 3328)] (sub [1, 1, 0, 0, 0] (body Tryz.f62))
     [Kf.block 0 3328, Kf.seq [] (sub [1, 1, 1] (body Tryz.f62)) 768]
     (finK Tryz.prog Tryz.f62
      [.ob true [.ob true [.own true 4 xs, .d false 0 (.int .i64 a)], .d false 0 (.int .i64 d)], .d true 0 (.str s),
       .d true 0 (.int .i64 lv), .fc true true (64 : FuncId) [(0, false)]]
      k)
     (s0 xs d lv s D.nili true op149 true nm150 true ks151 true p152 a153 false)
   | PR.syn p154 a155 =>
    goLp (X B) [(0, 3328)] (sub [1, 1, 0, 0, 0] (body Tryz.f62))
     [Kf.block 0 3328, Kf.seq [] (sub [1, 1, 1] (body Tryz.f62)) 768]
     (finK Tryz.prog Tryz.f62
      [.ob true [.ob true [.own true 4 xs, .d false 0 (.int .i64 a)], .d false 0 (.int .i64 d)], .d true 0 (.str s),
       .d true 0 (.int .i64 lv), .fc true true (64 : FuncId) [(0, false)]]
      k)
     (s0 xs d lv s (.ifc 114 (.pt 3 (.ag [D.int .i64 p154, D.ifc 84 (.int .i64 20)]))) false (ByteArray.mk #[]) false (ByteArray.mk #[]) false [] false (0 : Int) a155
      false)
   | PR.deep p156 a157 =>
    goLp (X B) [(0, 3328)] (sub [1, 1, 0, 0, 0] (body Tryz.f62))
     [Kf.block 0 3328, Kf.seq [] (sub [1, 1, 1] (body Tryz.f62)) 768]
     (finK Tryz.prog Tryz.f62
      [.ob true [.ob true [.own true 4 xs, .d false 0 (.int .i64 a)], .d false 0 (.int .i64 d)], .d true 0 (.str s),
       .d true 0 (.int .i64 lv), .fc true true (64 : FuncId) [(0, false)]]
      k)
     (s0 xs d lv s (.ifc 114 (.pt 3 (.ag [D.int .i64 p156, D.ifc 84 (.int .i64 21)]))) false (ByteArray.mk #[]) false (ByteArray.mk #[]) false [] false (0 : Int) a157
      true)
   | PR.no => none
  else none := by kernel_rfl
theorem round0_0 (xs : List D) (d : Int) (lv : Int) (s : ByteArray) (x64 : ByteArray) (x65 : ByteArray) (x66 : List D) (x67 : Int) (x91 : Int) : roundK (X B) [(0, 3328)] (sub [1, 1, 0, 0, 0] (body Tryz.f62)) (s0 xs d lv s D.nili true x64 true x65 true x66 true x91 x67 false) =
   if (0 : Int) ≤ x67 ∧ x67 < (34359738368 : Int) then
   match xs[Int.toNat x67]? with
   | some (.ag [D.int .i64 c159, D.str t160, D.int .i64 n161]) =>
    if ((c159 == (1 : Int) || c159 == (4 : Int)) && ByteArray.toList t160 == ByteArray.toList s) = true then
     if okP xs (x67 + (1 : Int)) d lv B.nu then
      match pUntl xs (Int.toNat (d + (1 : Int) - lv)) (x67 + (1 : Int)) with
      | PR.ok op165 nm166 ks167 p168 a169 => some (Sum.inl (s0 xs d lv s D.nili true s true (ByteArray.mk #[]) true [fmD x64 x65 x66 x91, fmD op165 nm166 ks167 p168] true x91 a169 false))
      | PR.syn p173 a174 =>
       some (Sum.inl (s0 xs d lv s (.ifc 114 (.pt 3 (.ag [D.int .i64 p173, D.ifc 84 (.int .i64 20)]))) true x64 true x65 true x66 true x91 a174 false))
      | PR.deep p177 a178 =>
       some (Sum.inl (s0 xs d lv s (.ifc 114 (.pt 3 (.ag [D.int .i64 p177, D.ifc 84 (.int .i64 21)]))) true x64 true x65 true x66 true x91 a178 true))
      | PR.no => none
     else none
    else some (Sum.inr (Ex.exit 0, e0x0 xs d x64 x65 x66 x91 x67))
   | x => none
  else none := by kernel_rfl
theorem round0_1 (xs : List D) (d : Int) (lv : Int) (s : ByteArray) (x21 : Bool) (x22 : Int) (x23 : Int) (x24 : Int) (x68 : Bool) (x69 : ByteArray) (x70 : Bool) (x71 : ByteArray) (x72 : Bool) (x73 : List D) (x74 : Bool) (x75 : Int) : roundK (X B) [(0, 3328)] (sub [1, 1, 0, 0, 0] (body Tryz.f62))
   (s0 xs d lv s (.ifc 114 (.pt 3 (.ag [D.int .i64 x22, D.ifc 84 (.int .i64 x23)]))) x68 x69 x70 x71 x72 x73 x74 x75 x24 x21) =
   some (Sum.inr (Ex.exit 0, e0x0_1 xs d x21 x22 x23 x24 x68 x69 x70 x71 x72 x73 x74 x75)) := by kernel_rfl
theorem behind0x0 {β : Type} (a : Int) (lv : Int) (s : ByteArray) (xs : List D) (d : Int) (x134 : ByteArray) (x135 : ByteArray) (x136 : List D) (x137 : Int) (x138 : Int) (k : List TV → List TV → Option β) : applyK (X B)
   (finK Tryz.prog Tryz.f62
    [.ob true [.ob true [.own true 4 xs, .d false 0 (.int .i64 a)], .d false 0 (.int .i64 d)], .d true 0 (.str s), .d true 0 (.int .i64 lv),
     .fc true true (64 : FuncId) [(0, false)]]
    k)
   [Kf.block 0 3328, Kf.seq [] (sub [1, 1, 1] (body Tryz.f62)) 768] (Ex.exit 0) (e0x0 xs d x134 x135 x136 x137 x138) =
   k [.d true 5 (.ag [D.str x134, D.str x135, D.sl 5 x136, D.int .i64 x137]), .d false 0 D.nili]
   [.ob true [.ob true [.own true 4 xs, .d false 0 (.int .i64 x138)], .d false 0 (.int .i64 d)]] := by kernel_rfl
theorem behind0x0_1 {β : Type} (a : Int) (lv : Int) (s : ByteArray) (xs : List D) (d : Int) (x21 : Bool) (x22 : Int) (x23 : Int) (x24 : Int) (x68 : Bool) (x69 : ByteArray) (x70 : Bool) (x71 : ByteArray) (x72 : Bool) (x73 : List D) (x74 : Bool) (x75 : Int) (k : List TV → List TV → Option β) : applyK (X B)
   (finK Tryz.prog Tryz.f62
    [.ob true [.ob true [.own true 4 xs, .d false 0 (.int .i64 a)], .d false 0 (.int .i64 d)], .d true 0 (.str s), .d true 0 (.int .i64 lv),
     .fc true true (64 : FuncId) [(0, false)]]
    k)
   [Kf.block 0 3328, Kf.seq [] (sub [1, 1, 1] (body Tryz.f62)) 768] (Ex.exit 0) (e0x0_1 xs d x21 x22 x23 x24 x68 x69 x70 x71 x72 x73 x74 x75) =
   k
   [.d false 5 (.ag [D.str (ByteArray.mk #[]), D.str (ByteArray.mk #[]), D.sl 5 [], D.int .i64 0]),
    .d x21 0 (.ifc 114 (.pt 3 (.ag [D.int .i64 x22, D.ifc 84 (.int .i64 x23)])))]
   [.ob true [.ob true [.own true 4 xs, .d false 0 (.int .i64 x24)], .d false 0 (.int .i64 d)]] := by kernel_rfl
end
end C78u

namespace C78k
  section
  variable (B : Bd)
/- rounds of the search: 3 -/
noncomputable def X : Fx := ⟨Tryz.prog, QP B, 768, 4⟩
def s0 (xs : List D) (d : Int) (lv : Int) (s : ByteArray) (x9 : D) (x10 : Bool) (x11 : ByteArray) (x12 : Bool) (x13 : ByteArray) (x14 : Bool) (x15 : List D) (x16 : Bool) (x17 : Int) (x18 : Int) (x25 : Bool) : S := ⟨Tm.mk 46
   [(0, .rp 1 0), (1, .d true 0 (.str s)), (2, .d true 0 (.int .i64 lv)), (3, .fn 63 [.cp true (.rp 1 0)]),
    (8, .rp 9 0), (10, .rp 11 0), (11, .d x25 0 x9)], [(1, true, [.rp 69632 0, .d false 0 (.int .i64 d)]),
   (9, true, [.d false 0 (.str (ByteArray.mk #[])), .d false 0 (.str (ByteArray.mk #[])), .own false 5 [], .d false 0 (.int .i64 0)]),
   (11, true, [.d x10 0 (.str x11), .d x12 0 (.str x13), .d x14 0 (.sl 5 x15), .d x16 0 (.int .i64 x17)]),
   (69632, true, [.own true 4 xs, .d false 0 (.int .i64 x18)]), (2305843009213693952, true, [.rp 1 0])]⟩
def e0x0 (xs : List D) (d : Int) (x134 : ByteArray) (x135 : ByteArray) (x136 : List D) (x137 : Int) (x138 : Int) : S := ⟨Tm.mk 46 [(8, .rp 9 0), (10, .rp 11 0), (11, .d false 0 D.nili)], [(1, true, [.rp 69632 0, .d false 0 (.int .i64 d)]),
   (9, true, [.d false 0 (.str (ByteArray.mk #[])), .d false 0 (.str (ByteArray.mk #[])), .own false 5 [], .d false 0 (.int .i64 0)]),
   (11, true, [.d true 0 (.str x134), .d true 0 (.str x135), .d true 0 (.sl 5 x136), .d true 0 (.int .i64 x137)]),
   (69632, true, [.own true 4 xs, .d false 0 (.int .i64 x138)]), (2305843009213693952, true, [.rp 1 0])]⟩
def e0x0_1 (xs : List D) (d : Int) (x21 : Bool) (x22 : Int) (x23 : Int) (x24 : Int) (x68 : Bool) (x69 : ByteArray) (x70 : Bool) (x71 : ByteArray) (x72 : Bool) (x73 : List D) (x74 : Bool) (x75 : Int) : S := ⟨Tm.mk 46
   [(8, .rp 9 0), (10, .rp 11 0),
    (11, .d x21 0 (.ifc 114 (.pt 3 (.ag [D.int .i64 x22, D.ifc 84 (.int .i64 x23)]))))], [(1, true, [.rp 69632 0, .d false 0 (.int .i64 d)]),
   (9, true, [.d false 0 (.str (ByteArray.mk #[])), .d false 0 (.str (ByteArray.mk #[])), .own false 5 [], .d false 0 (.int .i64 0)]),
   (11, true, [.d x68 0 (.str x69), .d x70 0 (.str x71), .d x72 0 (.sl 5 x73), .d x74 0 (.int .i64 x75)]),
   (69632, true, [.own true 4 xs, .d false 0 (.int .i64 x24)]), (2305843009213693952, true, [.rp 1 0])]⟩
noncomputable abbrev L0 : S → Option (S ⊕ (Ex × S)) := roundK (X B) [(0, 3328)] (sub [1, 1, 0, 0, 0] (body Tryz.f62))
theorem start {β : Type} (xs : List D) (a : Int) (d : Int) (lv : Int) (s : ByteArray) (k : List TV → List TV → Option β) : evalF Tryz.prog (QP B) Tryz.f62
   [.ob true [.ob true [.own true 4 xs, .d false 0 (.int .i64 a)], .d false 0 (.int .i64 d)], .d true 0 (.str s), .d true 0 (.int .i64 lv),
    .fc true false (63 : FuncId) [(0, true)]]
   k =
   if okP xs a d lv B.nk then
   match pK xs (Int.toNat (d + (1 : Int) - lv)) a with
   | PR.ok op149 nm150 ks151 p152 a153 =>
    goLp (X B) [(0, 3328)] (sub [1, 1, 0, 0, 0] (body Tryz.f62))
     [Kf.block 0 3328, Kf.seq [] (sub [1, 1, 1] (body Tryz.f62)) 768]
     (finK Tryz.prog Tryz.f62
      [.ob true [.ob true [.own true 4 xs, .d false 0 (.int .i64 a)], .d false 0 (.int .i64 d)], .d true 0 (.str s),
       .d true 0 (.int .i64 lv), .fc true false (63 : FuncId) [(0, true)]]
      k)
     (s0 xs d lv s D.nili true op149 true nm150 true ks151 true p152 a153 false)
   | PR.syn p154 a155 =>
    goLp (X B) [(0, 3328)] (sub [1, 1, 0, 0, 0] (body Tryz.f62))
     [Kf.block 0 3328, Kf.seq [] (sub [1, 1, 1] (body Tryz.f62)) 768]
     (finK Tryz.prog Tryz.f62
      [.ob true [.ob true [.own true 4 xs, .d false 0 (.int .i64 a)], .d false 0 (.int .i64 d)], .d true 0 (.str s),
       .d true 0 (.int .i64 lv), .fc true false (63 : FuncId) [(0, true)]]
      k)
     (s0 xs d lv s (.ifc 114 (.pt 3 (.ag [D.int .i64 p154, D.ifc 84 (.int .i64 20)]))) false (ByteArray.mk #[]) false (ByteArray.mk #[]) false [] false (0 : Int) a155
      false)
   | PR.deep p156 a157 =>
    goLp (X B) [(0, 3328)] (sub [1, 1, 0, 0, 0] (body Tryz.f62))
     [Kf.block 0 3328, Kf.seq [] (sub [1, 1, 1] (body Tryz.f62)) 768]
     (finK Tryz.prog Tryz.f62
      [.ob true [.ob true [.own true 4 xs, .d false 0 (.int .i64 a)], .d false 0 (.int .i64 d)], .d true 0 (.str s),
       .d true 0 (.int .i64 lv), .fc true false (63 : FuncId) [(0, true)]]
      k)
     (s0 xs d lv s (.ifc 114 (.pt 3 (.ag [D.int .i64 p156, D.ifc 84 (.int .i64 21)]))) false (ByteArray.mk #[]) false (ByteArray.mk #[]) false [] false (0 : Int) a157
      true)
   | PR.no => none
  else none := by kernel_rfl
theorem round0_0 (xs : List D) (d : Int) (lv : Int) (s : ByteArray) (x64 : ByteArray) (x65 : ByteArray) (x66 : List D) (x67 : Int) (x91 : Int) : roundK (X B) [(0, 3328)] (sub [1, 1, 0, 0, 0] (body Tryz.f62)) (s0 xs d lv s D.nili true x64 true x65 true x66 true x91 x67 false) =
   if (0 : Int) ≤ x67 ∧ x67 < (34359738368 : Int) then
   match xs[Int.toNat x67]? with
   | some (.ag [D.int .i64 c159, D.str t160, D.int .i64 n161]) =>
    if ((c159 == (1 : Int) || c159 == (4 : Int)) && ByteArray.toList t160 == ByteArray.toList s) = true then
     if okP xs (x67 + (1 : Int)) d lv B.nk then
      match pK xs (Int.toNat (d + (1 : Int) - lv)) (x67 + (1 : Int)) with
      | PR.ok op165 nm166 ks167 p168 a169 => some (Sum.inl (s0 xs d lv s D.nili true s true (ByteArray.mk #[]) true [fmD x64 x65 x66 x91, fmD op165 nm166 ks167 p168] true x91 a169 false))
      | PR.syn p173 a174 =>
       some (Sum.inl (s0 xs d lv s (.ifc 114 (.pt 3 (.ag [D.int .i64 p173, D.ifc 84 (.int .i64 20)]))) true x64 true x65 true x66 true x91 a174 false))
      | PR.deep p177 a178 =>
       some (Sum.inl (s0 xs d lv s (.ifc 114 (.pt 3 (.ag [D.int .i64 p177, D.ifc 84 (.int .i64 21)]))) true x64 true x65 true x66 true x91 a178 true))
      | PR.no => none
     else none
    else some (Sum.inr (Ex.exit 0, e0x0 xs d x64 x65 x66 x91 x67))
   | x => none
  else none := by kernel_rfl
theorem round0_1 (xs : List D) (d : Int) (lv : Int) (s : ByteArray) (x21 : Bool) (x22 : Int) (x23 : Int) (x24 : Int) (x68 : Bool) (x69 : ByteArray) (x70 : Bool) (x71 : ByteArray) (x72 : Bool) (x73 : List D) (x74 : Bool) (x75 : Int) : roundK (X B) [(0, 3328)] (sub [1, 1, 0, 0, 0] (body Tryz.f62))
   (s0 xs d lv s (.ifc 114 (.pt 3 (.ag [D.int .i64 x22, D.ifc 84 (.int .i64 x23)]))) x68 x69 x70 x71 x72 x73 x74 x75 x24 x21) =
   some (Sum.inr (Ex.exit 0, e0x0_1 xs d x21 x22 x23 x24 x68 x69 x70 x71 x72 x73 x74 x75)) := by kernel_rfl
theorem behind0x0 {β : Type} (a : Int) (lv : Int) (s : ByteArray) (xs : List D) (d : Int) (x134 : ByteArray) (x135 : ByteArray) (x136 : List D) (x137 : Int) (x138 : Int) (k : List TV → List TV → Option β) : applyK (X B)
   (finK Tryz.prog Tryz.f62
    [.ob true [.ob true [.own true 4 xs, .d false 0 (.int .i64 a)], .d false 0 (.int .i64 d)], .d true 0 (.str s), .d true 0 (.int .i64 lv),
     .fc true false (63 : FuncId) [(0, true)]]
    k)
   [Kf.block 0 3328, Kf.seq [] (sub [1, 1, 1] (body Tryz.f62)) 768] (Ex.exit 0) (e0x0 xs d x134 x135 x136 x137 x138) =
   k [.d true 5 (.ag [D.str x134, D.str x135, D.sl 5 x136, D.int .i64 x137]), .d false 0 D.nili]
   [.ob true [.ob true [.own true 4 xs, .d false 0 (.int .i64 x138)], .d false 0 (.int .i64 d)]] := by kernel_rfl
theorem behind0x0_1 {β : Type} (a : Int) (lv : Int) (s : ByteArray) (xs : List D) (d : Int) (x21 : Bool) (x22 : Int) (x23 : Int) (x24 : Int) (x68 : Bool) (x69 : ByteArray) (x70 : Bool) (x71 : ByteArray) (x72 : Bool) (x73 : List D) (x74 : Bool) (x75 : Int) (k : List TV → List TV → Option β) : applyK (X B)
   (finK Tryz.prog Tryz.f62
    [.ob true [.ob true [.own true 4 xs, .d false 0 (.int .i64 a)], .d false 0 (.int .i64 d)], .d true 0 (.str s), .d true 0 (.int .i64 lv),
     .fc true false (63 : FuncId) [(0, true)]]
    k)
   [Kf.block 0 3328, Kf.seq [] (sub [1, 1, 1] (body Tryz.f62)) 768] (Ex.exit 0) (e0x0_1 xs d x21 x22 x23 x24 x68 x69 x70 x71 x72 x73 x74 x75) =
   k
   [.d false 5 (.ag [D.str (ByteArray.mk #[]), D.str (ByteArray.mk #[]), D.sl 5 [], D.int .i64 0]),
    .d x21 0 (.ifc 114 (.pt 3 (.ag [D.int .i64 x22, D.ifc 84 (.int .i64 x23)])))]
   [.ob true [.ob true [.own true 4 xs, .d false 0 (.int .i64 x24)], .d false 0 (.int .i64 d)]] := by kernel_rfl
end
end C78k


end Go.Sd

namespace Go.Sd
open Go Go.Cm Go.Proofs Go.Sc
set_option maxRecDepth 100000
namespace D81u
  section
  variable (B : Bd)
/- rounds of the search: 3 -/
noncomputable def X : Fx := ⟨Tryz.prog, QP B, 3072, 5⟩
def s0 (xs : List D) (a : Int) (d : Int) (lv : Int) (o : ByteArray) (nm : ByteArray) (ks : List D) (p : Int) (s1 : ByteArray) (s2 : ByteArray) (s3 : ByteArray) (x50 : Int) : S := ⟨Tm.mk 45
   [(0, .rp 1 0), (1, .d true 0 (.int .i64 lv)), (3, .fb 64 [.rp 1 0]), (7, .rp 8 0),
    (10, .rp 11 0), (16, .d true 0 (.sl 0 [D.str s1, D.str s2, D.str s3])), (17, .d false 0 (.int .i64 3)),
    (18, .d false 0 (.int .i64 x50))], [(1, true, [.rp 69632 0, .d false 0 (.int .i64 d)]),
   (8, true, [.d true 0 (.str o), .d true 0 (.str nm), .d true 0 (.sl 5 ks), .d true 0 (.int .i64 p)]),
   (11, true, [.d false 0 (.str (ByteArray.mk #[])), .d false 0 (.str (ByteArray.mk #[])), .own false 5 [], .d false 0 (.int .i64 0)]),
   (69632, true, [.own true 4 xs, .d false 0 (.int .i64 a)]), (2305843009213693952, true, [.rp 1 0])]⟩
def e0r (xs : List D) (d : Int) (p : Int) (x102 : ByteArray) (x103 : List D) (x104 : Int) : S := ⟨Tm.mk 45 [(10, .rp 11 0), (11, .d false 0 D.nili)], [(1, true, [.rp 69632 0, .d false 0 (.int .i64 d)]),
   (11, true, [.d true 0 (.str x102), .d true 0 (.str (ByteArray.mk #[])), .d true 0 (.sl 5 x103), .d true 0 (.int .i64 p)]),
   (69632, true, [.own true 4 xs, .d false 0 (.int .i64 x104)]), (2305843009213693952, true, [.rp 1 0])]⟩
def e0r_1 (xs : List D) (d : Int) (x45 : Bool) (x46 : Int) (x47 : Int) (x48 : Int) : S := ⟨Tm.mk 45 [(10, .rp 11 0), (11, .d x45 0 (.ifc 114 (.pt 3 (.ag [D.int .i64 x46, D.ifc 84 (.int .i64 x47)]))))], [(1, true, [.rp 69632 0, .d false 0 (.int .i64 d)]),
   (11, true, [.d false 0 (.str (ByteArray.mk #[])), .d false 0 (.str (ByteArray.mk #[])), .own false 5 [], .d false 0 (.int .i64 0)]),
   (69632, true, [.own true 4 xs, .d false 0 (.int .i64 x48)]), (2305843009213693952, true, [.rp 1 0])]⟩
def e0x0 (xs : List D) (a : Int) (d : Int) (o : ByteArray) (nm : ByteArray) (ks : List D) (p : Int) : S := ⟨Tm.mk 45 [(7, .rp 8 0), (10, .rp 11 0)], [(1, true, [.rp 69632 0, .d false 0 (.int .i64 d)]),
   (8, true, [.d true 0 (.str o), .d true 0 (.str nm), .d true 0 (.sl 5 ks), .d true 0 (.int .i64 p)]),
   (11, true, [.d false 0 (.str (ByteArray.mk #[])), .d false 0 (.str (ByteArray.mk #[])), .own false 5 [], .d false 0 (.int .i64 0)]),
   (69632, true, [.own true 4 xs, .d false 0 (.int .i64 a)]), (2305843009213693952, true, [.rp 1 0])]⟩
noncomputable abbrev L0 : S → Option (S ⊕ (Ex × S)) := roundK (X B) [(0, 1152)] (sub [1, 0, 1, 0, 0] (body Tryz.f65))
theorem start {β : Type} (xs : List D) (a : Int) (d : Int) (lv : Int) (o : ByteArray) (nm : ByteArray) (ks : List D) (p : Int) (s1 : ByteArray) (s2 : ByteArray) (s3 : ByteArray) (k : List TV → List TV → Option β) : evalF Tryz.prog (QP B) Tryz.f65
   [.ob true [.ob true [.own true 4 xs, .d false 0 (.int .i64 a)], .d false 0 (.int .i64 d)], .d true 0 (.int .i64 lv),
    .d true 5 (.ag [D.str o, D.str nm, D.sl 5 ks, D.int .i64 p]), .fc true true (64 : FuncId) [(0, false)], .d true 0 (.sl 0 [D.str s1, D.str s2, D.str s3])]
   k =
   goLp (X B) [(0, 1152)] (sub [1, 0, 1, 0, 0] (body Tryz.f65)) [Kf.block 0 1152, Kf.seq [] (sub [1, 1] (body Tryz.f65)) 3072]
   (finK Tryz.prog Tryz.f65
    [.ob true [.ob true [.own true 4 xs, .d false 0 (.int .i64 a)], .d false 0 (.int .i64 d)], .d true 0 (.int .i64 lv),
     .d true 5 (.ag [D.str o, D.str nm, D.sl 5 ks, D.int .i64 p]), .fc true true (64 : FuncId) [(0, false)], .d true 0 (.sl 0 [D.str s1, D.str s2, D.str s3])]
    k)
   (s0 xs a d lv o nm ks p s1 s2 s3 (0 : Int)) := by kernel_rfl
theorem round0_0 (xs : List D) (a : Int) (d : Int) (lv : Int) (o : ByteArray) (nm : ByteArray) (ks : List D) (p : Int) (s1 : ByteArray) (s2 : ByteArray) (s3 : ByteArray) (x49 : Int) : roundK (X B) [(0, 1152)] (sub [1, 0, 1, 0, 0] (body Tryz.f65)) (s0 xs a d lv o nm ks p s1 s2 s3 x49) =
   if decide (x49 < (3 : Int)) = true then
   if (0 : Int) ≤ x49 then
    match [D.str s1, D.str s2, D.str s3][Int.toNat x49]? with
    | some x111 =>
     match x111 with
     | D.str s112 =>
      if (0 : Int) ≤ a ∧ a < (34359738368 : Int) then
       match xs[Int.toNat a]? with
       | some (.ag [D.int .i64 c114, D.str t115, D.int .i64 n116]) =>
        if ((c114 == (1 : Int) || c114 == (4 : Int)) && ByteArray.toList t115 == ByteArray.toList s112) = true then
         if okP xs (a + (1 : Int)) d (IntKind.wrap .i64 (lv + (1 : Int))) B.nu then
          match pUntl xs (Int.toNat (d + (1 : Int) - IntKind.wrap .i64 (lv + (1 : Int)))) (a + (1 : Int)) with
          | PR.ok op119 nm120 ks121 p122 a123 => some (Sum.inr (Ex.ret, e0r xs d p s112 [fmD o nm ks p, fmD op119 nm120 ks121 p122] a123))
          | PR.syn p127 a128 => some (Sum.inr (Ex.ret, e0r_1 xs d false p127 (20 : Int) a128))
          | PR.deep p132 a133 => some (Sum.inr (Ex.ret, e0r_1 xs d true p132 (21 : Int) a133))
          | PR.no => none
         else none
        else some (Sum.inl (s0 xs a d lv o nm ks p s1 s2 s3 (IntKind.wrap .i64 (x49 + (1 : Int)))))
       | x => none
      else none
     | x => none
    | none => none
   else none
  else some (Sum.inr (Ex.exit 0, e0x0 xs a d o nm ks p)) := by kernel_rfl
theorem behind0r {β : Type} (a : Int) (lv : Int) (o : ByteArray) (nm : ByteArray) (ks : List D) (s1 : ByteArray) (s2 : ByteArray) (s3 : ByteArray) (xs : List D) (d : Int) (p : Int) (x102 : ByteArray) (x103 : List D) (x104 : Int) (k : List TV → List TV → Option β) : applyK (X B)
   (finK Tryz.prog Tryz.f65
    [.ob true [.ob true [.own true 4 xs, .d false 0 (.int .i64 a)], .d false 0 (.int .i64 d)], .d true 0 (.int .i64 lv),
     .d true 5 (.ag [D.str o, D.str nm, D.sl 5 ks, D.int .i64 p]), .fc true true (64 : FuncId) [(0, false)], .d true 0 (.sl 0 [D.str s1, D.str s2, D.str s3])]
    k)
   [Kf.block 0 1152, Kf.seq [] (sub [1, 1] (body Tryz.f65)) 3072] Ex.ret (e0r xs d p x102 x103 x104) =
   k [.d true 5 (.ag [D.str x102, D.str (ByteArray.mk #[]), D.sl 5 x103, D.int .i64 p]), .d false 0 D.nili]
   [.ob true [.ob true [.own true 4 xs, .d false 0 (.int .i64 x104)], .d false 0 (.int .i64 d)]] := by kernel_rfl
theorem behind0r_1 {β : Type} (a : Int) (lv : Int) (o : ByteArray) (nm : ByteArray) (ks : List D) (p : Int) (s1 : ByteArray) (s2 : ByteArray) (s3 : ByteArray) (xs : List D) (d : Int) (x45 : Bool) (x46 : Int) (x47 : Int) (x48 : Int) (k : List TV → List TV → Option β) : applyK (X B)
   (finK Tryz.prog Tryz.f65
    [.ob true [.ob true [.own true 4 xs, .d false 0 (.int .i64 a)], .d false 0 (.int .i64 d)], .d true 0 (.int .i64 lv),
     .d true 5 (.ag [D.str o, D.str nm, D.sl 5 ks, D.int .i64 p]), .fc true true (64 : FuncId) [(0, false)], .d true 0 (.sl 0 [D.str s1, D.str s2, D.str s3])]
    k)
   [Kf.block 0 1152, Kf.seq [] (sub [1, 1] (body Tryz.f65)) 3072] Ex.ret (e0r_1 xs d x45 x46 x47 x48) =
   k
   [.d false 5 (.ag [D.str (ByteArray.mk #[]), D.str (ByteArray.mk #[]), D.sl 5 [], D.int .i64 0]),
    .d x45 0 (.ifc 114 (.pt 3 (.ag [D.int .i64 x46, D.ifc 84 (.int .i64 x47)])))]
   [.ob true [.ob true [.own true 4 xs, .d false 0 (.int .i64 x48)], .d false 0 (.int .i64 d)]] := by kernel_rfl
theorem behind0x0 {β : Type} (lv : Int) (s1 : ByteArray) (s2 : ByteArray) (s3 : ByteArray) (xs : List D) (a : Int) (d : Int) (o : ByteArray) (nm : ByteArray) (ks : List D) (p : Int) (k : List TV → List TV → Option β) : applyK (X B)
   (finK Tryz.prog Tryz.f65
    [.ob true [.ob true [.own true 4 xs, .d false 0 (.int .i64 a)], .d false 0 (.int .i64 d)], .d true 0 (.int .i64 lv),
     .d true 5 (.ag [D.str o, D.str nm, D.sl 5 ks, D.int .i64 p]), .fc true true (64 : FuncId) [(0, false)], .d true 0 (.sl 0 [D.str s1, D.str s2, D.str s3])]
    k)
   [Kf.block 0 1152, Kf.seq [] (sub [1, 1] (body Tryz.f65)) 3072] (Ex.exit 0) (e0x0 xs a d o nm ks p) =
   k [.d true 5 (.ag [D.str o, D.str nm, D.sl 5 ks, D.int .i64 p]), .d false 0 D.nili]
   [.ob true [.ob true [.own true 4 xs, .d false 0 (.int .i64 a)], .d false 0 (.int .i64 d)]] := by kernel_rfl
end
end D81u

namespace D81i
  section
  variable (B : Bd)
/- rounds of the search: 3 -/
noncomputable def X : Fx := ⟨Tryz.prog, QP B, 3072, 5⟩
def s0 (xs : List D) (a : Int) (d : Int) (lv : Int) (o : ByteArray) (nm : ByteArray) (ks : List D) (p : Int) (s1 : ByteArray) (x50 : Int) : S := ⟨Tm.mk 45
   [(0, .rp 1 0), (1, .d true 0 (.int .i64 lv)), (3, .fb 40 [.rp 1 0]), (7, .rp 8 0),
    (10, .rp 11 0), (16, .d true 0 (.sl 0 [D.str s1])), (17, .d false 0 (.int .i64 1)),
    (18, .d false 0 (.int .i64 x50))], [(1, true, [.rp 69632 0, .d false 0 (.int .i64 d)]),
   (8, true, [.d true 0 (.str o), .d true 0 (.str nm), .d true 0 (.sl 5 ks), .d true 0 (.int .i64 p)]),
   (11, true, [.d false 0 (.str (ByteArray.mk #[])), .d false 0 (.str (ByteArray.mk #[])), .own false 5 [], .d false 0 (.int .i64 0)]),
   (69632, true, [.own true 4 xs, .d false 0 (.int .i64 a)]), (2305843009213693952, true, [.rp 1 0])]⟩
def e0r (xs : List D) (d : Int) (p : Int) (x102 : ByteArray) (x103 : List D) (x104 : Int) : S := ⟨Tm.mk 45 [(10, .rp 11 0), (11, .d false 0 D.nili)], [(1, true, [.rp 69632 0, .d false 0 (.int .i64 d)]),
   (11, true, [.d true 0 (.str x102), .d true 0 (.str (ByteArray.mk #[])), .d true 0 (.sl 5 x103), .d true 0 (.int .i64 p)]),
   (69632, true, [.own true 4 xs, .d false 0 (.int .i64 x104)]), (2305843009213693952, true, [.rp 1 0])]⟩
def e0r_1 (xs : List D) (d : Int) (x45 : Bool) (x46 : Int) (x47 : Int) (x48 : Int) : S := ⟨Tm.mk 45 [(10, .rp 11 0), (11, .d x45 0 (.ifc 114 (.pt 3 (.ag [D.int .i64 x46, D.ifc 84 (.int .i64 x47)]))))], [(1, true, [.rp 69632 0, .d false 0 (.int .i64 d)]),
   (11, true, [.d false 0 (.str (ByteArray.mk #[])), .d false 0 (.str (ByteArray.mk #[])), .own false 5 [], .d false 0 (.int .i64 0)]),
   (69632, true, [.own true 4 xs, .d false 0 (.int .i64 x48)]), (2305843009213693952, true, [.rp 1 0])]⟩
def e0x0 (xs : List D) (a : Int) (d : Int) (o : ByteArray) (nm : ByteArray) (ks : List D) (p : Int) : S := ⟨Tm.mk 45 [(7, .rp 8 0), (10, .rp 11 0)], [(1, true, [.rp 69632 0, .d false 0 (.int .i64 d)]),
   (8, true, [.d true 0 (.str o), .d true 0 (.str nm), .d true 0 (.sl 5 ks), .d true 0 (.int .i64 p)]),
   (11, true, [.d false 0 (.str (ByteArray.mk #[])), .d false 0 (.str (ByteArray.mk #[])), .own false 5 [], .d false 0 (.int .i64 0)]),
   (69632, true, [.own true 4 xs, .d false 0 (.int .i64 a)]), (2305843009213693952, true, [.rp 1 0])]⟩
noncomputable abbrev L0 : S → Option (S ⊕ (Ex × S)) := roundK (X B) [(0, 1152)] (sub [1, 0, 1, 0, 0] (body Tryz.f65))
theorem start {β : Type} (xs : List D) (a : Int) (d : Int) (lv : Int) (o : ByteArray) (nm : ByteArray) (ks : List D) (p : Int) (s1 : ByteArray) (k : List TV → List TV → Option β) : evalF Tryz.prog (QP B) Tryz.f65
   [.ob true [.ob true [.own true 4 xs, .d false 0 (.int .i64 a)], .d false 0 (.int .i64 d)], .d true 0 (.int .i64 lv),
    .d true 5 (.ag [D.str o, D.str nm, D.sl 5 ks, D.int .i64 p]), .fc true true (40 : FuncId) [(0, false)], .d true 0 (.sl 0 [D.str s1])]
   k =
   goLp (X B) [(0, 1152)] (sub [1, 0, 1, 0, 0] (body Tryz.f65)) [Kf.block 0 1152, Kf.seq [] (sub [1, 1] (body Tryz.f65)) 3072]
   (finK Tryz.prog Tryz.f65
    [.ob true [.ob true [.own true 4 xs, .d false 0 (.int .i64 a)], .d false 0 (.int .i64 d)], .d true 0 (.int .i64 lv),
     .d true 5 (.ag [D.str o, D.str nm, D.sl 5 ks, D.int .i64 p]), .fc true true (40 : FuncId) [(0, false)], .d true 0 (.sl 0 [D.str s1])]
    k)
   (s0 xs a d lv o nm ks p s1 (0 : Int)) := by kernel_rfl
theorem round0_0 (xs : List D) (a : Int) (d : Int) (lv : Int) (o : ByteArray) (nm : ByteArray) (ks : List D) (p : Int) (s1 : ByteArray) (x49 : Int) : roundK (X B) [(0, 1152)] (sub [1, 0, 1, 0, 0] (body Tryz.f65)) (s0 xs a d lv o nm ks p s1 x49) =
   if decide (x49 < (1 : Int)) = true then
   if (0 : Int) ≤ x49 then
    match [D.str s1][Int.toNat x49]? with
    | some x111 =>
     match x111 with
     | D.str s112 =>
      if (0 : Int) ≤ a ∧ a < (34359738368 : Int) then
       match xs[Int.toNat a]? with
       | some (.ag [D.int .i64 c114, D.str t115, D.int .i64 n116]) =>
        if ((c114 == (1 : Int) || c114 == (4 : Int)) && ByteArray.toList t115 == ByteArray.toList s112) = true then
         if okP xs (a + (1 : Int)) d (IntKind.wrap .i64 (lv + (1 : Int))) B.ni then
          match pImply xs (Int.toNat (d + (1 : Int) - IntKind.wrap .i64 (lv + (1 : Int)))) (a + (1 : Int)) with
          | PR.ok op119 nm120 ks121 p122 a123 => some (Sum.inr (Ex.ret, e0r xs d p s112 [fmD o nm ks p, fmD op119 nm120 ks121 p122] a123))
          | PR.syn p127 a128 => some (Sum.inr (Ex.ret, e0r_1 xs d false p127 (20 : Int) a128))
          | PR.deep p132 a133 => some (Sum.inr (Ex.ret, e0r_1 xs d true p132 (21 : Int) a133))
          | PR.no => none
         else none
        else some (Sum.inl (s0 xs a d lv o nm ks p s1 (IntKind.wrap .i64 (x49 + (1 : Int)))))
       | x => none
      else none
     | x => none
    | none => none
   else none
  else some (Sum.inr (Ex.exit 0, e0x0 xs a d o nm ks p)) := by kernel_rfl
theorem behind0r {β : Type} (a : Int) (lv : Int) (o : ByteArray) (nm : ByteArray) (ks : List D) (s1 : ByteArray) (xs : List D) (d : Int) (p : Int) (x102 : ByteArray) (x103 : List D) (x104 : Int) (k : List TV → List TV → Option β) : applyK (X B)
   (finK Tryz.prog Tryz.f65
    [.ob true [.ob true [.own true 4 xs, .d false 0 (.int .i64 a)], .d false 0 (.int .i64 d)], .d true 0 (.int .i64 lv),
     .d true 5 (.ag [D.str o, D.str nm, D.sl 5 ks, D.int .i64 p]), .fc true true (40 : FuncId) [(0, false)], .d true 0 (.sl 0 [D.str s1])]
    k)
   [Kf.block 0 1152, Kf.seq [] (sub [1, 1] (body Tryz.f65)) 3072] Ex.ret (e0r xs d p x102 x103 x104) =
   k [.d true 5 (.ag [D.str x102, D.str (ByteArray.mk #[]), D.sl 5 x103, D.int .i64 p]), .d false 0 D.nili]
   [.ob true [.ob true [.own true 4 xs, .d false 0 (.int .i64 x104)], .d false 0 (.int .i64 d)]] := by kernel_rfl
theorem behind0r_1 {β : Type} (a : Int) (lv : Int) (o : ByteArray) (nm : ByteArray) (ks : List D) (p : Int) (s1 : ByteArray) (xs : List D) (d : Int) (x45 : Bool) (x46 : Int) (x47 : Int) (x48 : Int) (k : List TV → List TV → Option β) : applyK (X B)
   (finK Tryz.prog Tryz.f65
    [.ob true [.ob true [.own true 4 xs, .d false 0 (.int .i64 a)], .d false 0 (.int .i64 d)], .d true 0 (.int .i64 lv),
     .d true 5 (.ag [D.str o, D.str nm, D.sl 5 ks, D.int .i64 p]), .fc true true (40 : FuncId) [(0, false)], .d true 0 (.sl 0 [D.str s1])]
    k)
   [Kf.block 0 1152, Kf.seq [] (sub [1, 1] (body Tryz.f65)) 3072] Ex.ret (e0r_1 xs d x45 x46 x47 x48) =
   k
   [.d false 5 (.ag [D.str (ByteArray.mk #[]), D.str (ByteArray.mk #[]), D.sl 5 [], D.int .i64 0]),
    .d x45 0 (.ifc 114 (.pt 3 (.ag [D.int .i64 x46, D.ifc 84 (.int .i64 x47)])))]
   [.ob true [.ob true [.own true 4 xs, .d false 0 (.int .i64 x48)], .d false 0 (.int .i64 d)]] := by kernel_rfl
theorem behind0x0 {β : Type} (lv : Int) (s1 : ByteArray) (xs : List D) (a : Int) (d : Int) (o : ByteArray) (nm : ByteArray) (ks : List D) (p : Int) (k : List TV → List TV → Option β) : applyK (X B)
   (finK Tryz.prog Tryz.f65
    [.ob true [.ob true [.own true 4 xs, .d false 0 (.int .i64 a)], .d false 0 (.int .i64 d)], .d true 0 (.int .i64 lv),
     .d true 5 (.ag [D.str o, D.str nm, D.sl 5 ks, D.int .i64 p]), .fc true true (40 : FuncId) [(0, false)], .d true 0 (.sl 0 [D.str s1])]
    k)
   [Kf.block 0 1152, Kf.seq [] (sub [1, 1] (body Tryz.f65)) 3072] (Ex.exit 0) (e0x0 xs a d o nm ks p) =
   k [.d true 5 (.ag [D.str o, D.str nm, D.sl 5 ks, D.int .i64 p]), .d false 0 D.nili]
   [.ob true [.ob true [.own true 4 xs, .d false 0 (.int .i64 a)], .d false 0 (.int .i64 d)]] := by kernel_rfl
end
end D81i


end Go.Sd

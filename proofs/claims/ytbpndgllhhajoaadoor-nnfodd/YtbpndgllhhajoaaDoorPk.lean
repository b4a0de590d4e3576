/- NnfOdd: contracts in short. -/
import Derived.Test.YtbpndgllhhajoaaDoorPi
import Derived.Test.YtbpndgllhhajoaaDoorPh
set_option linter.unusedVariables false
set_option linter.unusedSimpArgs false
namespace Go.Sd
open Go Go.Cm Go.Proofs Go.Sc
set_option maxRecDepth 100000
def cNormO {β : Type} (args : List TV) (k : List TV → List TV → Option β) : Option β :=
  match args with
  | [.d true 5 x, .d true 0 (.bool not)] => match ofD x with
    | some f => chkK (f.sm = true ∧ f.dep ≤ 1073741824) (match normE f not with
      | some (.inl e) => k [.d false 5 zF, .d false 0 (noD e)] []
      | some (.inr (.mk o n ks p)) => k [.d true 5 (fmD o n (Fm.dL ks) p), .d false 0 .nili] []
      | none => none)
    | none => none
  | _ => none
def cSimpO {β : Type} (args : List TV) (k : List TV → List TV → Option β) : Option β :=
  match args with
  | [.d true 5 x] => match ofD x with
    | some f => chkK (f.sm = true) (match simpE f with
      | .inl e => k [.d false 5 zF, .d false 0 (noD e)] []
      | .inr (.mk o n ks p) => k [.d true 5 (fmD o n (Fm.dL ks) p), .d false 0 .nili] [])
    | none => none
  | _ => none
def RO : Env := (R19.add 27 io0 cNormO).add 28 io0 cSimpO
end Go.Sd

namespace Go.Sd
open Go Go.Cm Go.Proofs Go.Sc
set_option maxRecDepth 100000
namespace T5
/- rounds of the search: 3 -/
noncomputable def X : Fx := ⟨Tryd.prog, RO, 64, 3⟩
def s0 (op : ByteArray) (nm : ByteArray) (ks : List D) (x56 : Bool) (x57 : Int) (x58 : List D) : S := ⟨Tm.mk 200
   [(0, .d true 0 (.str op)), (2, .d true 0 (.sl 0 ks)), (7, .rp 8 0), (8, .d false 0 (.bool x56)),
    (9, .d false 0 (.int .i64 x57))], [(8, true, [.d true 0 (.str op), .d true 0 (.str nm), .own false 5 x58, .d false 0 (.int .i64 0)])]⟩
def e0r  : S := ⟨Tm.mk 200 [(6, .d false 0 (.bool true))], []⟩
def e0x0 (op : ByteArray) (nm : ByteArray) (x212 : Bool) (x213 : List D) : S := ⟨Tm.mk 200 [(0, .d true 0 (.str op)), (7, .rp 8 0), (8, .d false 0 (.bool x212))], [(8, true, [.d true 0 (.str op), .d true 0 (.str nm), .own false 5 x213, .d false 0 (.int .i64 0)])]⟩
def j0 (op : ByteArray) (nm : ByteArray) (x87 : Bool) (x216 : Bool) (x217 : List D) : S := ⟨Tm.mk 200 [(0, .d true 0 (.str op)), (7, .rp 8 0), (8, .d false 0 (.bool x216)), (13, .d false 0 (.bool x87))], [(8, true, [.d true 0 (.str op), .d true 0 (.str nm), .own false 5 x217, .d false 0 (.int .i64 0)])]⟩
noncomputable abbrev L0 : S → Option (S ⊕ (Ex × S)) := roundK X [(0, 385)] (sub [1, 1, 1, 1, 1, 0, 1, 0, 0] (body Tryd.f5))
noncomputable abbrev G0 {β : Type} (op : ByteArray) (nm : ByteArray) (ks : List D) (k : List TV → List TV → Option β) : S → Option β := goLp X [(0, 385)] (sub [1, 1, 1, 1, 1, 0, 1, 0, 0] (body Tryd.f5))
   [Kf.block 0 385, Kf.seq [] (sub [1, 1, 1, 1, 1, 1] (body Tryd.f5)) 64]
   (finK Tryd.prog Tryd.f5 [.d true 0 (.str op), .d true 0 (.str nm), .d true 0 (.sl 0 ks)] k)
noncomputable abbrev J0 {β : Type} (op : ByteArray) (nm : ByteArray) (ks : List D) (k : List TV → List TV → Option β) : S → Option β := applyK X (finK Tryd.prog Tryd.f5 [.d true 0 (.str op), .d true 0 (.str nm), .d true 0 (.sl 0 ks)] k)
   [Kf.seq [] (sub [1, 1, 1, 1, 1, 1, 1, 1] (body Tryd.f5)) 64] Ex.norm
theorem start {β : Type} (op : ByteArray) (nm : ByteArray) (ks : List D) (k : List TV → List TV → Option β) : evalF Tryd.prog RO Tryd.f5 [.d true 0 (.str op), .d true 0 (.str nm), .d true 0 (.sl 0 ks)] k =
   if decide ((↑(List.length ks) : Int) > (4 : Int)) = true then k [.d false 0 (.bool true)] [] else G0 op nm ks k (s0 op nm ks true (0 : Int) []) := by kernel_rfl
theorem round0 (op : ByteArray) (nm : ByteArray) (ks : List D) (x56 : Bool) (x57 : Int) (x58 : List D) : roundK X [(0, 385)] (sub [1, 1, 1, 1, 1, 0, 1, 0, 0] (body Tryd.f5)) (s0 op nm ks x56 x57 x58) =
   if decide (x57 < (↑(List.length ks) : Int)) = true then
   if (0 : Int) ≤ x57 then
    match ks[Int.toNat x57]? with
    | some x766 =>
     match x766 with
     | D.str s767 =>
      if decide ((↑(ByteArray.size s767) : Int) > (100 : Int)) = true then some (Sum.inr (Ex.ret, e0r))
      else
       if (0 : Int) ≤ x57 then
        match ks[Int.toNat x57]? with
        | some x771 =>
         match x771 with
         | D.str s772 =>
          match parseP s772 (64 : Int) with
          | PA.ok op773 nm774 ks775 p776 =>
           if List.length x58 + 1 ≤ 34359738368 then
            if x56 = true then
             match ofD (.ag [D.str op773, D.str nm774, D.sl 5 ks775, D.int .i64 p776]) with
             | some f781 =>
              if bd none f781 then some (Sum.inl (s0 op nm ks (isF f781) (IntKind.wrap IntKind.i64 (x57 + (1 : Int))) (x58 ++ [D.ag [D.str op773, D.str nm774, D.sl 5 ks775, D.int .i64 p776]])))
              else none
             | none => none
            else some (Sum.inl (s0 op nm ks false (IntKind.wrap IntKind.i64 (x57 + (1 : Int))) (x58 ++ [D.ag [D.str op773, D.str nm774, D.sl 5 ks775, D.int .i64 p776]])))
           else none
          | PA.no n784 => some (Sum.inl (s0 op nm ks x56 (IntKind.wrap IntKind.i64 (x57 + (1 : Int))) x58))
          | PA.er p788 n789 => some (Sum.inl (s0 op nm ks x56 (IntKind.wrap IntKind.i64 (x57 + (1 : Int))) x58))
          | PA.bad => none
         | x => none
        | none => none
       else none
     | x => none
    | none => none
   else none
  else some (Sum.inr (Ex.exit 0, e0x0 op nm x56 x58)) := by kernel_rfl
theorem behind0r {β : Type} (op : ByteArray) (nm : ByteArray) (ks : List D) (k : List TV → List TV → Option β) (s__ : S) (h__ : Lp L0 s__ = some (Ex.ret, e0r)) : G0 op nm ks k s__ =
   k [.d false 0 (.bool true)] [] := (goLp_of h__).trans (by kernel_rfl)
theorem j0_eq {β : Type} (ks : List D) (op : ByteArray) (nm : ByteArray) (x87 : Bool) (x216 : Bool) (x217 : List D) (k : List TV → List TV → Option β) : J0 op nm ks k (j0 op nm x87 x216 x217) =
   match ofD (.ag [D.str op, D.str nm, D.sl 5 x217, D.int .i64 0]) with
  | some f814 =>
   if Fm.sm f814 = true ∧ Fm.dep f814 ≤ 1073741824 then
    match normE f814 false with
    | some (Sum.inl e815) =>
     if (!x87 == false) = true then
      if (!e815 == (2 : Int)) = true then k [.d false 0 (.bool false)] []
      else
       if (!e815 == (1 : Int)) = true then
        if (!e815 == (2 : Int)) = true then k [.d false 0 (.bool false)] []
        else
         if x87 = true then
          if x216 = true then
           if (!ByteArray.toList op == [61, 62]) = true then
            if (!ByteArray.toList op == [87]) = true then
             if (!ByteArray.toList op == [70]) = true then
              if (!ByteArray.toList op == [71]) = true then
               if (!ByteArray.toList op == [33]) = true then
                match ofD (.ag [D.str op, D.str nm, D.sl 5 x217, D.int .i64 0]) with
                | some f823 =>
                 if Fm.sm f823 = true then
                  match simpE f823 with
                  | Sum.inl e824 =>
                   match ofD (.ag [D.str op, D.str nm, D.sl 5 x217, D.int .i64 0]) with
                   | some f826 => if bd none f826 then if (isF f826 == true) = true then k [.d false 0 (.bool false)] [] else k [.d false 0 (.bool false)] [] else none
                   | none => none
                  | Sum.inr (Fm.mk o827 n828 ks829 p830) =>
                   match ofD (.ag [D.str op, D.str nm, D.sl 5 x217, D.int .i64 0]) with
                   | some f832 => if bd none f832 then if (isF f832 == true) = true then k [.d false 0 (.bool true)] [] else k [.d false 0 (.bool false)] [] else none
                   | none => none
                 else none
                | none => none
               else
                if (0 : Int) ≤ (0 : Int) ∧ (0 : Int) < (↑(List.length x217) : Int) then
                 match x217[0]? with
                 | some x833 =>
                  match
                   match x833 with
                   | D.ag xs => xs[0]?
                   | x => none with
                  | some y834 =>
                   match y834 with
                   | D.str s835 =>
                    match ofD (.ag [D.str op, D.str nm, D.sl 5 x217, D.int .i64 0]) with
                    | some f837 =>
                     if Fm.sm f837 = true then
                      match simpE f837 with
                      | Sum.inl e838 =>
                       match ofD (.ag [D.str op, D.str nm, D.sl 5 x217, D.int .i64 0]) with
                       | some f840 =>
                        if bd none f840 then
                         if (isF f840 == (ByteArray.toList s835 == [108, 97, 98, 101, 108])) = true then
                          k [.d false 0 (.bool (false == (ByteArray.toList s835 == [108, 97, 98, 101, 108])))] []
                         else k [.d false 0 (.bool false)] []
                        else none
                       | none => none
                      | Sum.inr (Fm.mk o841 n842 ks843 p844) =>
                       match ofD (.ag [D.str op, D.str nm, D.sl 5 x217, D.int .i64 0]) with
                       | some f846 =>
                        if bd none f846 then
                         if (isF f846 == (ByteArray.toList s835 == [108, 97, 98, 101, 108])) = true then
                          k [.d false 0 (.bool (true == (ByteArray.toList s835 == [108, 97, 98, 101, 108])))] []
                         else k [.d false 0 (.bool false)] []
                        else none
                       | none => none
                     else none
                    | none => none
                   | x => none
                  | none => none
                 | none => none
                else none
              else
               match ofD (.ag [D.str op, D.str nm, D.sl 5 x217, D.int .i64 0]) with
               | some f848 =>
                if Fm.sm f848 = true then
                 match simpE f848 with
                 | Sum.inl e849 =>
                  match ofD (.ag [D.str op, D.str nm, D.sl 5 x217, D.int .i64 0]) with
                  | some f851 => if bd none f851 then if (isF f851 == false) = true then k [.d false 0 (.bool true)] [] else k [.d false 0 (.bool false)] [] else none
                  | none => none
                 | Sum.inr (Fm.mk o852 n853 ks854 p855) =>
                  match ofD (.ag [D.str op, D.str nm, D.sl 5 x217, D.int .i64 0]) with
                  | some f857 => if bd none f857 then if (isF f857 == false) = true then k [.d false 0 (.bool false)] [] else k [.d false 0 (.bool false)] [] else none
                  | none => none
                else none
               | none => none
             else
              match ofD (.ag [D.str op, D.str nm, D.sl 5 x217, D.int .i64 0]) with
              | some f859 =>
               if Fm.sm f859 = true then
                match simpE f859 with
                | Sum.inl e860 =>
                 match ofD (.ag [D.str op, D.str nm, D.sl 5 x217, D.int .i64 0]) with
                 | some f862 => if bd none f862 then if (isF f862 == false) = true then k [.d false 0 (.bool true)] [] else k [.d false 0 (.bool false)] [] else none
                 | none => none
                | Sum.inr (Fm.mk o863 n864 ks865 p866) =>
                 match ofD (.ag [D.str op, D.str nm, D.sl 5 x217, D.int .i64 0]) with
                 | some f868 => if bd none f868 then if (isF f868 == false) = true then k [.d false 0 (.bool false)] [] else k [.d false 0 (.bool false)] [] else none
                 | none => none
               else none
              | none => none
            else
             match ofD (.ag [D.str op, D.str nm, D.sl 5 x217, D.int .i64 0]) with
             | some f870 =>
              if Fm.sm f870 = true then
               match simpE f870 with
               | Sum.inl e871 =>
                match ofD (.ag [D.str op, D.str nm, D.sl 5 x217, D.int .i64 0]) with
                | some f873 => if bd none f873 then if (isF f873 == false) = true then k [.d false 0 (.bool true)] [] else k [.d false 0 (.bool false)] [] else none
                | none => none
               | Sum.inr (Fm.mk o874 n875 ks876 p877) =>
                match ofD (.ag [D.str op, D.str nm, D.sl 5 x217, D.int .i64 0]) with
                | some f879 => if bd none f879 then if (isF f879 == false) = true then k [.d false 0 (.bool false)] [] else k [.d false 0 (.bool false)] [] else none
                | none => none
              else none
             | none => none
           else
            match ofD (.ag [D.str op, D.str nm, D.sl 5 x217, D.int .i64 0]) with
            | some f881 =>
             if Fm.sm f881 = true then
              match simpE f881 with
              | Sum.inl e882 =>
               match ofD (.ag [D.str op, D.str nm, D.sl 5 x217, D.int .i64 0]) with
               | some f884 => if bd none f884 then if (isF f884 == false) = true then k [.d false 0 (.bool true)] [] else k [.d false 0 (.bool false)] [] else none
               | none => none
              | Sum.inr (Fm.mk o885 n886 ks887 p888) =>
               match ofD (.ag [D.str op, D.str nm, D.sl 5 x217, D.int .i64 0]) with
               | some f890 => if bd none f890 then if (isF f890 == false) = true then k [.d false 0 (.bool false)] [] else k [.d false 0 (.bool false)] [] else none
               | none => none
             else none
            | none => none
          else
           match ofD (.ag [D.str op, D.str nm, D.sl 5 x217, D.int .i64 0]) with
           | some f892 =>
            if Fm.sm f892 = true then
             match simpE f892 with
             | Sum.inl e893 =>
              match ofD (.ag [D.str op, D.str nm, D.sl 5 x217, D.int .i64 0]) with
              | some f895 => if bd none f895 then if (isF f895 == false) = true then k [.d false 0 (.bool true)] [] else k [.d false 0 (.bool false)] [] else none
              | none => none
             | Sum.inr (Fm.mk o896 n897 ks898 p899) =>
              match ofD (.ag [D.str op, D.str nm, D.sl 5 x217, D.int .i64 0]) with
              | some f901 => if bd none f901 then if (isF f901 == false) = true then k [.d false 0 (.bool false)] [] else k [.d false 0 (.bool false)] [] else none
              | none => none
            else none
           | none => none
         else
          match ofD (.ag [D.str op, D.str nm, D.sl 5 x217, D.int .i64 0]) with
          | some f903 =>
           if Fm.sm f903 = true then
            match simpE f903 with
            | Sum.inl e904 =>
             match ofD (.ag [D.str op, D.str nm, D.sl 5 x217, D.int .i64 0]) with
             | some f906 => if bd none f906 then if (isF f906 == false) = true then k [.d false 0 (.bool true)] [] else k [.d false 0 (.bool false)] [] else none
             | none => none
            | Sum.inr (Fm.mk o907 n908 ks909 p910) =>
             match ofD (.ag [D.str op, D.str nm, D.sl 5 x217, D.int .i64 0]) with
             | some f912 => if bd none f912 then if (isF f912 == false) = true then k [.d false 0 (.bool false)] [] else k [.d false 0 (.bool false)] [] else none
             | none => none
           else none
          | none => none
       else
        if x87 = true then
         if x216 = true then
          if (!ByteArray.toList op == [61, 62]) = true then
           if (!ByteArray.toList op == [87]) = true then
            if (!ByteArray.toList op == [70]) = true then
             if (!ByteArray.toList op == [71]) = true then
              if (!ByteArray.toList op == [33]) = true then
               match ofD (.ag [D.str op, D.str nm, D.sl 5 x217, D.int .i64 0]) with
               | some f916 =>
                if Fm.sm f916 = true then
                 match simpE f916 with
                 | Sum.inl e917 =>
                  match ofD (.ag [D.str op, D.str nm, D.sl 5 x217, D.int .i64 0]) with
                  | some f919 => if bd none f919 then if (isF f919 == true) = true then k [.d false 0 (.bool false)] [] else k [.d false 0 (.bool false)] [] else none
                  | none => none
                 | Sum.inr (Fm.mk o920 n921 ks922 p923) =>
                  match ofD (.ag [D.str op, D.str nm, D.sl 5 x217, D.int .i64 0]) with
                  | some f925 => if bd none f925 then if (isF f925 == true) = true then k [.d false 0 (.bool true)] [] else k [.d false 0 (.bool false)] [] else none
                  | none => none
                else none
               | none => none
              else
               if (0 : Int) ≤ (0 : Int) ∧ (0 : Int) < (↑(List.length x217) : Int) then
                match x217[0]? with
                | some x926 =>
                 match
                  match x926 with
                  | D.ag xs => xs[0]?
                  | x => none with
                 | some y927 =>
                  match y927 with
                  | D.str s928 =>
                   match ofD (.ag [D.str op, D.str nm, D.sl 5 x217, D.int .i64 0]) with
                   | some f930 =>
                    if Fm.sm f930 = true then
                     match simpE f930 with
                     | Sum.inl e931 =>
                      match ofD (.ag [D.str op, D.str nm, D.sl 5 x217, D.int .i64 0]) with
                      | some f933 =>
                       if bd none f933 then
                        if (isF f933 == (ByteArray.toList s928 == [108, 97, 98, 101, 108])) = true then
                         k [.d false 0 (.bool (false == (ByteArray.toList s928 == [108, 97, 98, 101, 108])))] []
                        else k [.d false 0 (.bool false)] []
                       else none
                      | none => none
                     | Sum.inr (Fm.mk o934 n935 ks936 p937) =>
                      match ofD (.ag [D.str op, D.str nm, D.sl 5 x217, D.int .i64 0]) with
                      | some f939 =>
                       if bd none f939 then
                        if (isF f939 == (ByteArray.toList s928 == [108, 97, 98, 101, 108])) = true then
                         k [.d false 0 (.bool (true == (ByteArray.toList s928 == [108, 97, 98, 101, 108])))] []
                        else k [.d false 0 (.bool false)] []
                       else none
                      | none => none
                    else none
                   | none => none
                  | x => none
                 | none => none
                | none => none
               else none
             else
              match ofD (.ag [D.str op, D.str nm, D.sl 5 x217, D.int .i64 0]) with
              | some f941 =>
               if Fm.sm f941 = true then
                match simpE f941 with
                | Sum.inl e942 =>
                 match ofD (.ag [D.str op, D.str nm, D.sl 5 x217, D.int .i64 0]) with
                 | some f944 => if bd none f944 then if (isF f944 == false) = true then k [.d false 0 (.bool true)] [] else k [.d false 0 (.bool false)] [] else none
                 | none => none
                | Sum.inr (Fm.mk o945 n946 ks947 p948) =>
                 match ofD (.ag [D.str op, D.str nm, D.sl 5 x217, D.int .i64 0]) with
                 | some f950 => if bd none f950 then if (isF f950 == false) = true then k [.d false 0 (.bool false)] [] else k [.d false 0 (.bool false)] [] else none
                 | none => none
               else none
              | none => none
            else
             match ofD (.ag [D.str op, D.str nm, D.sl 5 x217, D.int .i64 0]) with
             | some f952 =>
              if Fm.sm f952 = true then
               match simpE f952 with
               | Sum.inl e953 =>
                match ofD (.ag [D.str op, D.str nm, D.sl 5 x217, D.int .i64 0]) with
                | some f955 => if bd none f955 then if (isF f955 == false) = true then k [.d false 0 (.bool true)] [] else k [.d false 0 (.bool false)] [] else none
                | none => none
               | Sum.inr (Fm.mk o956 n957 ks958 p959) =>
                match ofD (.ag [D.str op, D.str nm, D.sl 5 x217, D.int .i64 0]) with
                | some f961 => if bd none f961 then if (isF f961 == false) = true then k [.d false 0 (.bool false)] [] else k [.d false 0 (.bool false)] [] else none
                | none => none
              else none
             | none => none
           else
            match ofD (.ag [D.str op, D.str nm, D.sl 5 x217, D.int .i64 0]) with
            | some f963 =>
             if Fm.sm f963 = true then
              match simpE f963 with
              | Sum.inl e964 =>
               match ofD (.ag [D.str op, D.str nm, D.sl 5 x217, D.int .i64 0]) with
               | some f966 => if bd none f966 then if (isF f966 == false) = true then k [.d false 0 (.bool true)] [] else k [.d false 0 (.bool false)] [] else none
               | none => none
              | Sum.inr (Fm.mk o967 n968 ks969 p970) =>
               match ofD (.ag [D.str op, D.str nm, D.sl 5 x217, D.int .i64 0]) with
               | some f972 => if bd none f972 then if (isF f972 == false) = true then k [.d false 0 (.bool false)] [] else k [.d false 0 (.bool false)] [] else none
               | none => none
             else none
            | none => none
          else
           match ofD (.ag [D.str op, D.str nm, D.sl 5 x217, D.int .i64 0]) with
           | some f974 =>
            if Fm.sm f974 = true then
             match simpE f974 with
             | Sum.inl e975 =>
              match ofD (.ag [D.str op, D.str nm, D.sl 5 x217, D.int .i64 0]) with
              | some f977 => if bd none f977 then if (isF f977 == false) = true then k [.d false 0 (.bool true)] [] else k [.d false 0 (.bool false)] [] else none
              | none => none
             | Sum.inr (Fm.mk o978 n979 ks980 p981) =>
              match ofD (.ag [D.str op, D.str nm, D.sl 5 x217, D.int .i64 0]) with
              | some f983 => if bd none f983 then if (isF f983 == false) = true then k [.d false 0 (.bool false)] [] else k [.d false 0 (.bool false)] [] else none
              | none => none
            else none
           | none => none
         else
          match ofD (.ag [D.str op, D.str nm, D.sl 5 x217, D.int .i64 0]) with
          | some f985 =>
           if Fm.sm f985 = true then
            match simpE f985 with
            | Sum.inl e986 =>
             match ofD (.ag [D.str op, D.str nm, D.sl 5 x217, D.int .i64 0]) with
             | some f988 => if bd none f988 then if (isF f988 == false) = true then k [.d false 0 (.bool true)] [] else k [.d false 0 (.bool false)] [] else none
             | none => none
            | Sum.inr (Fm.mk o989 n990 ks991 p992) =>
             match ofD (.ag [D.str op, D.str nm, D.sl 5 x217, D.int .i64 0]) with
             | some f994 => if bd none f994 then if (isF f994 == false) = true then k [.d false 0 (.bool false)] [] else k [.d false 0 (.bool false)] [] else none
             | none => none
           else none
          | none => none
        else
         match ofD (.ag [D.str op, D.str nm, D.sl 5 x217, D.int .i64 0]) with
         | some f996 =>
          if Fm.sm f996 = true then
           match simpE f996 with
           | Sum.inl e997 =>
            match ofD (.ag [D.str op, D.str nm, D.sl 5 x217, D.int .i64 0]) with
            | some f999 => if bd none f999 then if (isF f999 == false) = true then k [.d false 0 (.bool true)] [] else k [.d false 0 (.bool false)] [] else none
            | none => none
           | Sum.inr (Fm.mk o1000 n1001 ks1002 p1003) =>
            match ofD (.ag [D.str op, D.str nm, D.sl 5 x217, D.int .i64 0]) with
            | some f1005 => if bd none f1005 then if (isF f1005 == false) = true then k [.d false 0 (.bool false)] [] else k [.d false 0 (.bool false)] [] else none
            | none => none
          else none
         | none => none
     else
      if (!e815 == (1 : Int)) = true then
       if (!e815 == (2 : Int)) = true then k [.d false 0 (.bool false)] []
       else
        if x87 = true then
         if x216 = true then
          if (!ByteArray.toList op == [61, 62]) = true then
           if (!ByteArray.toList op == [87]) = true then
            if (!ByteArray.toList op == [70]) = true then
             if (!ByteArray.toList op == [71]) = true then
              if (!ByteArray.toList op == [33]) = true then
               match ofD (.ag [D.str op, D.str nm, D.sl 5 x217, D.int .i64 0]) with
               | some f1010 =>
                if Fm.sm f1010 = true then
                 match simpE f1010 with
                 | Sum.inl e1011 =>
                  match ofD (.ag [D.str op, D.str nm, D.sl 5 x217, D.int .i64 0]) with
                  | some f1013 => if bd none f1013 then if (isF f1013 == true) = true then k [.d false 0 (.bool false)] [] else k [.d false 0 (.bool false)] [] else none
                  | none => none
                 | Sum.inr (Fm.mk o1014 n1015 ks1016 p1017) =>
                  match ofD (.ag [D.str op, D.str nm, D.sl 5 x217, D.int .i64 0]) with
                  | some f1019 => if bd none f1019 then if (isF f1019 == true) = true then k [.d false 0 (.bool true)] [] else k [.d false 0 (.bool false)] [] else none
                  | none => none
                else none
               | none => none
              else
               if (0 : Int) ≤ (0 : Int) ∧ (0 : Int) < (↑(List.length x217) : Int) then
                match x217[0]? with
                | some x1020 =>
                 match
                  match x1020 with
                  | D.ag xs => xs[0]?
                  | x => none with
                 | some y1021 =>
                  match y1021 with
                  | D.str s1022 =>
                   match ofD (.ag [D.str op, D.str nm, D.sl 5 x217, D.int .i64 0]) with
                   | some f1024 =>
                    if Fm.sm f1024 = true then
                     match simpE f1024 with
                     | Sum.inl e1025 =>
                      match ofD (.ag [D.str op, D.str nm, D.sl 5 x217, D.int .i64 0]) with
                      | some f1027 =>
                       if bd none f1027 then
                        if (isF f1027 == (ByteArray.toList s1022 == [108, 97, 98, 101, 108])) = true then
                         k [.d false 0 (.bool (false == (ByteArray.toList s1022 == [108, 97, 98, 101, 108])))] []
                        else k [.d false 0 (.bool false)] []
                       else none
                      | none => none
                     | Sum.inr (Fm.mk o1028 n1029 ks1030 p1031) =>
                      match ofD (.ag [D.str op, D.str nm, D.sl 5 x217, D.int .i64 0]) with
                      | some f1033 =>
                       if bd none f1033 then
                        if (isF f1033 == (ByteArray.toList s1022 == [108, 97, 98, 101, 108])) = true then
                         k [.d false 0 (.bool (true == (ByteArray.toList s1022 == [108, 97, 98, 101, 108])))] []
                        else k [.d false 0 (.bool false)] []
                       else none
                      | none => none
                    else none
                   | none => none
                  | x => none
                 | none => none
                | none => none
               else none
             else
              match ofD (.ag [D.str op, D.str nm, D.sl 5 x217, D.int .i64 0]) with
              | some f1035 =>
               if Fm.sm f1035 = true then
                match simpE f1035 with
                | Sum.inl e1036 =>
                 match ofD (.ag [D.str op, D.str nm, D.sl 5 x217, D.int .i64 0]) with
                 | some f1038 => if bd none f1038 then if (isF f1038 == false) = true then k [.d false 0 (.bool true)] [] else k [.d false 0 (.bool false)] [] else none
                 | none => none
                | Sum.inr (Fm.mk o1039 n1040 ks1041 p1042) =>
                 match ofD (.ag [D.str op, D.str nm, D.sl 5 x217, D.int .i64 0]) with
                 | some f1044 => if bd none f1044 then if (isF f1044 == false) = true then k [.d false 0 (.bool false)] [] else k [.d false 0 (.bool false)] [] else none
                 | none => none
               else none
              | none => none
            else
             match ofD (.ag [D.str op, D.str nm, D.sl 5 x217, D.int .i64 0]) with
             | some f1046 =>
              if Fm.sm f1046 = true then
               match simpE f1046 with
               | Sum.inl e1047 =>
                match ofD (.ag [D.str op, D.str nm, D.sl 5 x217, D.int .i64 0]) with
                | some f1049 => if bd none f1049 then if (isF f1049 == false) = true then k [.d false 0 (.bool true)] [] else k [.d false 0 (.bool false)] [] else none
                | none => none
               | Sum.inr (Fm.mk o1050 n1051 ks1052 p1053) =>
                match ofD (.ag [D.str op, D.str nm, D.sl 5 x217, D.int .i64 0]) with
                | some f1055 => if bd none f1055 then if (isF f1055 == false) = true then k [.d false 0 (.bool false)] [] else k [.d false 0 (.bool false)] [] else none
                | none => none
              else none
             | none => none
           else
            match ofD (.ag [D.str op, D.str nm, D.sl 5 x217, D.int .i64 0]) with
            | some f1057 =>
             if Fm.sm f1057 = true then
              match simpE f1057 with
              | Sum.inl e1058 =>
               match ofD (.ag [D.str op, D.str nm, D.sl 5 x217, D.int .i64 0]) with
               | some f1060 => if bd none f1060 then if (isF f1060 == false) = true then k [.d false 0 (.bool true)] [] else k [.d false 0 (.bool false)] [] else none
               | none => none
              | Sum.inr (Fm.mk o1061 n1062 ks1063 p1064) =>
               match ofD (.ag [D.str op, D.str nm, D.sl 5 x217, D.int .i64 0]) with
               | some f1066 => if bd none f1066 then if (isF f1066 == false) = true then k [.d false 0 (.bool false)] [] else k [.d false 0 (.bool false)] [] else none
               | none => none
             else none
            | none => none
          else
           match ofD (.ag [D.str op, D.str nm, D.sl 5 x217, D.int .i64 0]) with
           | some f1068 =>
            if Fm.sm f1068 = true then
             match simpE f1068 with
             | Sum.inl e1069 =>
              match ofD (.ag [D.str op, D.str nm, D.sl 5 x217, D.int .i64 0]) with
              | some f1071 => if bd none f1071 then if (isF f1071 == false) = true then k [.d false 0 (.bool true)] [] else k [.d false 0 (.bool false)] [] else none
              | none => none
             | Sum.inr (Fm.mk o1072 n1073 ks1074 p1075) =>
              match ofD (.ag [D.str op, D.str nm, D.sl 5 x217, D.int .i64 0]) with
              | some f1077 => if bd none f1077 then if (isF f1077 == false) = true then k [.d false 0 (.bool false)] [] else k [.d false 0 (.bool false)] [] else none
              | none => none
            else none
           | none => none
         else
          match ofD (.ag [D.str op, D.str nm, D.sl 5 x217, D.int .i64 0]) with
          | some f1079 =>
           if Fm.sm f1079 = true then
            match simpE f1079 with
            | Sum.inl e1080 =>
             match ofD (.ag [D.str op, D.str nm, D.sl 5 x217, D.int .i64 0]) with
             | some f1082 => if bd none f1082 then if (isF f1082 == false) = true then k [.d false 0 (.bool true)] [] else k [.d false 0 (.bool false)] [] else none
             | none => none
            | Sum.inr (Fm.mk o1083 n1084 ks1085 p1086) =>
             match ofD (.ag [D.str op, D.str nm, D.sl 5 x217, D.int .i64 0]) with
             | some f1088 => if bd none f1088 then if (isF f1088 == false) = true then k [.d false 0 (.bool false)] [] else k [.d false 0 (.bool false)] [] else none
             | none => none
           else none
          | none => none
        else
         match ofD (.ag [D.str op, D.str nm, D.sl 5 x217, D.int .i64 0]) with
         | some f1090 =>
          if Fm.sm f1090 = true then
           match simpE f1090 with
           | Sum.inl e1091 =>
            match ofD (.ag [D.str op, D.str nm, D.sl 5 x217, D.int .i64 0]) with
            | some f1093 => if bd none f1093 then if (isF f1093 == false) = true then k [.d false 0 (.bool true)] [] else k [.d false 0 (.bool false)] [] else none
            | none => none
           | Sum.inr (Fm.mk o1094 n1095 ks1096 p1097) =>
            match ofD (.ag [D.str op, D.str nm, D.sl 5 x217, D.int .i64 0]) with
            | some f1099 => if bd none f1099 then if (isF f1099 == false) = true then k [.d false 0 (.bool false)] [] else k [.d false 0 (.bool false)] [] else none
            | none => none
          else none
         | none => none
      else
       if x87 = true then
        if x216 = true then
         if (!ByteArray.toList op == [61, 62]) = true then
          if (!ByteArray.toList op == [87]) = true then
           if (!ByteArray.toList op == [70]) = true then
            if (!ByteArray.toList op == [71]) = true then
             if (!ByteArray.toList op == [33]) = true then
              match ofD (.ag [D.str op, D.str nm, D.sl 5 x217, D.int .i64 0]) with
              | some f1103 =>
               if Fm.sm f1103 = true then
                match simpE f1103 with
                | Sum.inl e1104 =>
                 match ofD (.ag [D.str op, D.str nm, D.sl 5 x217, D.int .i64 0]) with
                 | some f1106 => if bd none f1106 then if (isF f1106 == true) = true then k [.d false 0 (.bool false)] [] else k [.d false 0 (.bool false)] [] else none
                 | none => none
                | Sum.inr (Fm.mk o1107 n1108 ks1109 p1110) =>
                 match ofD (.ag [D.str op, D.str nm, D.sl 5 x217, D.int .i64 0]) with
                 | some f1112 => if bd none f1112 then if (isF f1112 == true) = true then k [.d false 0 (.bool true)] [] else k [.d false 0 (.bool false)] [] else none
                 | none => none
               else none
              | none => none
             else
              if (0 : Int) ≤ (0 : Int) ∧ (0 : Int) < (↑(List.length x217) : Int) then
               match x217[0]? with
               | some x1113 =>
                match
                 match x1113 with
                 | D.ag xs => xs[0]?
                 | x => none with
                | some y1114 =>
                 match y1114 with
                 | D.str s1115 =>
                  match ofD (.ag [D.str op, D.str nm, D.sl 5 x217, D.int .i64 0]) with
                  | some f1117 =>
                   if Fm.sm f1117 = true then
                    match simpE f1117 with
                    | Sum.inl e1118 =>
                     match ofD (.ag [D.str op, D.str nm, D.sl 5 x217, D.int .i64 0]) with
                     | some f1120 =>
                      if bd none f1120 then
                       if (isF f1120 == (ByteArray.toList s1115 == [108, 97, 98, 101, 108])) = true then
                        k [.d false 0 (.bool (false == (ByteArray.toList s1115 == [108, 97, 98, 101, 108])))] []
                       else k [.d false 0 (.bool false)] []
                      else none
                     | none => none
                    | Sum.inr (Fm.mk o1121 n1122 ks1123 p1124) =>
                     match ofD (.ag [D.str op, D.str nm, D.sl 5 x217, D.int .i64 0]) with
                     | some f1126 =>
                      if bd none f1126 then
                       if (isF f1126 == (ByteArray.toList s1115 == [108, 97, 98, 101, 108])) = true then
                        k [.d false 0 (.bool (true == (ByteArray.toList s1115 == [108, 97, 98, 101, 108])))] []
                       else k [.d false 0 (.bool false)] []
                      else none
                     | none => none
                   else none
                  | none => none
                 | x => none
                | none => none
               | none => none
              else none
            else
             match ofD (.ag [D.str op, D.str nm, D.sl 5 x217, D.int .i64 0]) with
             | some f1128 =>
              if Fm.sm f1128 = true then
               match simpE f1128 with
               | Sum.inl e1129 =>
                match ofD (.ag [D.str op, D.str nm, D.sl 5 x217, D.int .i64 0]) with
                | some f1131 => if bd none f1131 then if (isF f1131 == false) = true then k [.d false 0 (.bool true)] [] else k [.d false 0 (.bool false)] [] else none
                | none => none
               | Sum.inr (Fm.mk o1132 n1133 ks1134 p1135) =>
                match ofD (.ag [D.str op, D.str nm, D.sl 5 x217, D.int .i64 0]) with
                | some f1137 => if bd none f1137 then if (isF f1137 == false) = true then k [.d false 0 (.bool false)] [] else k [.d false 0 (.bool false)] [] else none
                | none => none
              else none
             | none => none
           else
            match ofD (.ag [D.str op, D.str nm, D.sl 5 x217, D.int .i64 0]) with
            | some f1139 =>
             if Fm.sm f1139 = true then
              match simpE f1139 with
              | Sum.inl e1140 =>
               match ofD (.ag [D.str op, D.str nm, D.sl 5 x217, D.int .i64 0]) with
               | some f1142 => if bd none f1142 then if (isF f1142 == false) = true then k [.d false 0 (.bool true)] [] else k [.d false 0 (.bool false)] [] else none
               | none => none
              | Sum.inr (Fm.mk o1143 n1144 ks1145 p1146) =>
               match ofD (.ag [D.str op, D.str nm, D.sl 5 x217, D.int .i64 0]) with
               | some f1148 => if bd none f1148 then if (isF f1148 == false) = true then k [.d false 0 (.bool false)] [] else k [.d false 0 (.bool false)] [] else none
               | none => none
             else none
            | none => none
          else
           match ofD (.ag [D.str op, D.str nm, D.sl 5 x217, D.int .i64 0]) with
           | some f1150 =>
            if Fm.sm f1150 = true then
             match simpE f1150 with
             | Sum.inl e1151 =>
              match ofD (.ag [D.str op, D.str nm, D.sl 5 x217, D.int .i64 0]) with
              | some f1153 => if bd none f1153 then if (isF f1153 == false) = true then k [.d false 0 (.bool true)] [] else k [.d false 0 (.bool false)] [] else none
              | none => none
             | Sum.inr (Fm.mk o1154 n1155 ks1156 p1157) =>
              match ofD (.ag [D.str op, D.str nm, D.sl 5 x217, D.int .i64 0]) with
              | some f1159 => if bd none f1159 then if (isF f1159 == false) = true then k [.d false 0 (.bool false)] [] else k [.d false 0 (.bool false)] [] else none
              | none => none
            else none
           | none => none
         else
          match ofD (.ag [D.str op, D.str nm, D.sl 5 x217, D.int .i64 0]) with
          | some f1161 =>
           if Fm.sm f1161 = true then
            match simpE f1161 with
            | Sum.inl e1162 =>
             match ofD (.ag [D.str op, D.str nm, D.sl 5 x217, D.int .i64 0]) with
             | some f1164 => if bd none f1164 then if (isF f1164 == false) = true then k [.d false 0 (.bool true)] [] else k [.d false 0 (.bool false)] [] else none
             | none => none
            | Sum.inr (Fm.mk o1165 n1166 ks1167 p1168) =>
             match ofD (.ag [D.str op, D.str nm, D.sl 5 x217, D.int .i64 0]) with
             | some f1170 => if bd none f1170 then if (isF f1170 == false) = true then k [.d false 0 (.bool false)] [] else k [.d false 0 (.bool false)] [] else none
             | none => none
           else none
          | none => none
        else
         match ofD (.ag [D.str op, D.str nm, D.sl 5 x217, D.int .i64 0]) with
         | some f1172 =>
          if Fm.sm f1172 = true then
           match simpE f1172 with
           | Sum.inl e1173 =>
            match ofD (.ag [D.str op, D.str nm, D.sl 5 x217, D.int .i64 0]) with
            | some f1175 => if bd none f1175 then if (isF f1175 == false) = true then k [.d false 0 (.bool true)] [] else k [.d false 0 (.bool false)] [] else none
            | none => none
           | Sum.inr (Fm.mk o1176 n1177 ks1178 p1179) =>
            match ofD (.ag [D.str op, D.str nm, D.sl 5 x217, D.int .i64 0]) with
            | some f1181 => if bd none f1181 then if (isF f1181 == false) = true then k [.d false 0 (.bool false)] [] else k [.d false 0 (.bool false)] [] else none
            | none => none
          else none
         | none => none
       else
        match ofD (.ag [D.str op, D.str nm, D.sl 5 x217, D.int .i64 0]) with
        | some f1183 =>
         if Fm.sm f1183 = true then
          match simpE f1183 with
          | Sum.inl e1184 =>
           match ofD (.ag [D.str op, D.str nm, D.sl 5 x217, D.int .i64 0]) with
           | some f1186 => if bd none f1186 then if (isF f1186 == false) = true then k [.d false 0 (.bool true)] [] else k [.d false 0 (.bool false)] [] else none
           | none => none
          | Sum.inr (Fm.mk o1187 n1188 ks1189 p1190) =>
           match ofD (.ag [D.str op, D.str nm, D.sl 5 x217, D.int .i64 0]) with
           | some f1192 => if bd none f1192 then if (isF f1192 == false) = true then k [.d false 0 (.bool false)] [] else k [.d false 0 (.bool false)] [] else none
           | none => none
         else none
        | none => none
    | some (Sum.inr (Fm.mk o1193 n1194 ks1195 p1196)) =>
     if (!x87 == true) = true then k [.d false 0 (.bool false)] []
     else
      if x87 = true then
       if x216 = true then
        if (!ByteArray.toList op == [61, 62]) = true then
         if (!ByteArray.toList op == [87]) = true then
          if (!ByteArray.toList op == [70]) = true then
           if (!ByteArray.toList op == [71]) = true then
            if (!ByteArray.toList op == [33]) = true then
             match ofD (.ag [D.str op, D.str nm, D.sl 5 x217, D.int .i64 0]) with
             | some f1203 =>
              if Fm.sm f1203 = true then
               match simpE f1203 with
               | Sum.inl e1204 =>
                match ofD (.ag [D.str op, D.str nm, D.sl 5 x217, D.int .i64 0]) with
                | some f1206 => if bd none f1206 then if (isF f1206 == true) = true then k [.d false 0 (.bool false)] [] else k [.d false 0 (.bool false)] [] else none
                | none => none
               | Sum.inr (Fm.mk o1207 n1208 ks1209 p1210) =>
                match ofD (.ag [D.str op, D.str nm, D.sl 5 x217, D.int .i64 0]) with
                | some f1212 => if bd none f1212 then if (isF f1212 == true) = true then k [.d false 0 (.bool true)] [] else k [.d false 0 (.bool false)] [] else none
                | none => none
              else none
             | none => none
            else
             match x217[0]? with
             | some x1213 =>
              match
               match x1213 with
               | D.ag xs => xs[0]?
               | x => none with
              | some y1214 =>
               match y1214 with
               | D.str s1215 =>
                match ofD (.ag [D.str op, D.str nm, D.sl 5 x217, D.int .i64 0]) with
                | some f1217 =>
                 if Fm.sm f1217 = true then
                  match simpE f1217 with
                  | Sum.inl e1218 =>
                   match ofD (.ag [D.str op, D.str nm, D.sl 5 x217, D.int .i64 0]) with
                   | some f1220 =>
                    if bd none f1220 then
                     if (isF f1220 == (ByteArray.toList s1215 == [108, 97, 98, 101, 108])) = true then
                      k [.d false 0 (.bool (false == (ByteArray.toList s1215 == [108, 97, 98, 101, 108])))] []
                     else k [.d false 0 (.bool false)] []
                    else none
                   | none => none
                  | Sum.inr (Fm.mk o1221 n1222 ks1223 p1224) =>
                   match ofD (.ag [D.str op, D.str nm, D.sl 5 x217, D.int .i64 0]) with
                   | some f1226 =>
                    if bd none f1226 then
                     if (isF f1226 == (ByteArray.toList s1215 == [108, 97, 98, 101, 108])) = true then
                      k [.d false 0 (.bool (true == (ByteArray.toList s1215 == [108, 97, 98, 101, 108])))] []
                     else k [.d false 0 (.bool false)] []
                    else none
                   | none => none
                 else none
                | none => none
               | x => none
              | none => none
             | none => none
           else
            match ofD (.ag [D.str op, D.str nm, D.sl 5 x217, D.int .i64 0]) with
            | some f1228 =>
             if Fm.sm f1228 = true then
              match simpE f1228 with
              | Sum.inl e1229 =>
               match ofD (.ag [D.str op, D.str nm, D.sl 5 x217, D.int .i64 0]) with
               | some f1231 => if bd none f1231 then if (isF f1231 == false) = true then k [.d false 0 (.bool true)] [] else k [.d false 0 (.bool false)] [] else none
               | none => none
              | Sum.inr (Fm.mk o1232 n1233 ks1234 p1235) =>
               match ofD (.ag [D.str op, D.str nm, D.sl 5 x217, D.int .i64 0]) with
               | some f1237 => if bd none f1237 then if (isF f1237 == false) = true then k [.d false 0 (.bool false)] [] else k [.d false 0 (.bool false)] [] else none
               | none => none
             else none
            | none => none
          else
           match ofD (.ag [D.str op, D.str nm, D.sl 5 x217, D.int .i64 0]) with
           | some f1239 =>
            if Fm.sm f1239 = true then
             match simpE f1239 with
             | Sum.inl e1240 =>
              match ofD (.ag [D.str op, D.str nm, D.sl 5 x217, D.int .i64 0]) with
              | some f1242 => if bd none f1242 then if (isF f1242 == false) = true then k [.d false 0 (.bool true)] [] else k [.d false 0 (.bool false)] [] else none
              | none => none
             | Sum.inr (Fm.mk o1243 n1244 ks1245 p1246) =>
              match ofD (.ag [D.str op, D.str nm, D.sl 5 x217, D.int .i64 0]) with
              | some f1248 => if bd none f1248 then if (isF f1248 == false) = true then k [.d false 0 (.bool false)] [] else k [.d false 0 (.bool false)] [] else none
              | none => none
            else none
           | none => none
         else
          match ofD (.ag [D.str op, D.str nm, D.sl 5 x217, D.int .i64 0]) with
          | some f1250 =>
           if Fm.sm f1250 = true then
            match simpE f1250 with
            | Sum.inl e1251 =>
             match ofD (.ag [D.str op, D.str nm, D.sl 5 x217, D.int .i64 0]) with
             | some f1253 => if bd none f1253 then if (isF f1253 == false) = true then k [.d false 0 (.bool true)] [] else k [.d false 0 (.bool false)] [] else none
             | none => none
            | Sum.inr (Fm.mk o1254 n1255 ks1256 p1257) =>
             match ofD (.ag [D.str op, D.str nm, D.sl 5 x217, D.int .i64 0]) with
             | some f1259 => if bd none f1259 then if (isF f1259 == false) = true then k [.d false 0 (.bool false)] [] else k [.d false 0 (.bool false)] [] else none
             | none => none
           else none
          | none => none
        else
         match ofD (.ag [D.str op, D.str nm, D.sl 5 x217, D.int .i64 0]) with
         | some f1261 =>
          if Fm.sm f1261 = true then
           match simpE f1261 with
           | Sum.inl e1262 =>
            match ofD (.ag [D.str op, D.str nm, D.sl 5 x217, D.int .i64 0]) with
            | some f1264 => if bd none f1264 then if (isF f1264 == false) = true then k [.d false 0 (.bool true)] [] else k [.d false 0 (.bool false)] [] else none
            | none => none
           | Sum.inr (Fm.mk o1265 n1266 ks1267 p1268) =>
            match ofD (.ag [D.str op, D.str nm, D.sl 5 x217, D.int .i64 0]) with
            | some f1270 => if bd none f1270 then if (isF f1270 == false) = true then k [.d false 0 (.bool false)] [] else k [.d false 0 (.bool false)] [] else none
            | none => none
          else none
         | none => none
       else
        match ofD (.ag [D.str op, D.str nm, D.sl 5 x217, D.int .i64 0]) with
        | some f1272 =>
         if Fm.sm f1272 = true then
          match simpE f1272 with
          | Sum.inl e1273 =>
           match ofD (.ag [D.str op, D.str nm, D.sl 5 x217, D.int .i64 0]) with
           | some f1275 => if bd none f1275 then if (isF f1275 == false) = true then k [.d false 0 (.bool true)] [] else k [.d false 0 (.bool false)] [] else none
           | none => none
          | Sum.inr (Fm.mk o1276 n1277 ks1278 p1279) =>
           match ofD (.ag [D.str op, D.str nm, D.sl 5 x217, D.int .i64 0]) with
           | some f1281 => if bd none f1281 then if (isF f1281 == false) = true then k [.d false 0 (.bool false)] [] else k [.d false 0 (.bool false)] [] else none
           | none => none
         else none
        | none => none
      else
       match ofD (.ag [D.str op, D.str nm, D.sl 5 x217, D.int .i64 0]) with
       | some f1283 =>
        if Fm.sm f1283 = true then
         match simpE f1283 with
         | Sum.inl e1284 =>
          match ofD (.ag [D.str op, D.str nm, D.sl 5 x217, D.int .i64 0]) with
          | some f1286 => if bd none f1286 then if (isF f1286 == false) = true then k [.d false 0 (.bool true)] [] else k [.d false 0 (.bool false)] [] else none
          | none => none
         | Sum.inr (Fm.mk o1287 n1288 ks1289 p1290) =>
          match ofD (.ag [D.str op, D.str nm, D.sl 5 x217, D.int .i64 0]) with
          | some f1292 => if bd none f1292 then if (isF f1292 == false) = true then k [.d false 0 (.bool false)] [] else k [.d false 0 (.bool false)] [] else none
          | none => none
        else none
       | none => none
    | none => none
   else none
  | none => none := by kernel_rfl
end T5


end Go.Sd

namespace Go.Sd
open Go Go.Cm Go.Proofs Go.Sc
set_option maxRecDepth 100000
theorem normE_eq {β : Type} (x : D) (n : Bool) (k : List TV → List TV → Option β) {r : β} (h : cNormO [.d true 5 x, .d true 0 (.bool n)] k = some r) : cNormal [.d true 5 x, .d true 0 (.bool n)] k = some r := by
  simp only [cNormO] at h
  simp only [cNormal]
  split at h
  · rename_i f hf
    simp only [hf]
    unfold chkK at h ⊢
    split at h
    · rename_i h0
      rw [if_pos h0]
      unfold normE at h
      cases hF : formF f with
      | false => simp only [hF] at h ⊢; exact h
      | true =>
        simp only [hF] at h ⊢
        by_cases hs : sizeF f > 4096
        · simp only [if_pos hs] at h ⊢; exact h
        · simp only [if_neg hs] at h ⊢
          cases hm : makeF f n 4096 with
          | none => simp only [hm] at h; cases h
          | some v =>
            obtain ⟨⟨o, n2, ks, p⟩, l⟩ := v
            simp only [hm] at h
            simp only [ansN]
            by_cases hl : l < 0
            · simp only [if_pos hl] at h ⊢; exact h
            · simp only [if_neg hl] at h ⊢; exact h
    · cases h
  · cases h
theorem simpE_eq {β : Type} (x : D) (k : List TV → List TV → Option β) {r : β} (h : cSimpO [.d true 5 x] k = some r) : cSimple [.d true 5 x] k = some r := by
  simp only [cSimpO] at h
  simp only [cSimple]
  split at h
  · rename_i f hf
    simp only [hf]
    unfold chkK at h ⊢
    split at h
    · rename_i h0
      rw [if_pos h0]
      unfold simpE at h
      cases hF : isF f with
      | false => simp only [hF] at h ⊢; exact h
      | true =>
        simp only [hF] at h ⊢
        by_cases hs : sizeF f > 4096
        · simp only [if_pos hs] at h ⊢; exact h
        · simp only [if_neg hs] at h ⊢
          cases hm : simpleF f with
          | mk o n ks p => simp only [hm] at h; simp only [ansE]; exact h
    · cases h
  · cases h
theorem env_ro : EnvOk glS Tryd.prog RO := by
  refine EnvOk.add (EnvOk.add envr19 fun β args k r hr => ?_) fun β args k r hr => ?_
  · refine envr18 β 27 _ k r ?_
    show cNormal args k = some r
    have h2 := hr
    unfold cNormO at hr
    split at hr
    · exact normE_eq _ _ _ h2
    · cases hr
  · refine envr18 β 28 _ k r ?_
    show cSimple args k = some r
    have h2 := hr
    unfold cSimpO at hr
    split at hr
    · exact simpE_eq _ _ h2
    · cases hr
def KOk (fs : List Fm) : Prop := ∀ f ∈ fs, ∃ t, f.abs = some t ∧ t.sz ≤ 101
theorem isL_snoc : ∀ (fs : List Fm) (f : Fm), isL (fs ++ [f]) = (isL fs && isF f)
  | [], f => by simp [isL]
  | g :: gs, f => by simp only [List.cons_append, isL, isL_snoc gs f, Bool.and_assoc]
theorem wi4 {n : Nat} (h : n ≤ 4) : IntKind.wrap .i64 ((n : Int) + 1) = ((n + 1 : Nat) : Int) := by rw [wrap_id (by omega) (by omega)]; omega
theorem odd_loop (op nm : ByteArray) (ss : List ByteArray) (hl : ss.length ≤ 4) : ∀ (n i : Nat) (fs : List Fm), i + n = ss.length → KOk fs → fs.length ≤ i →
    Lp T5.L0 (T5.s0 op nm (ss.map .str) (isL fs) i (Fm.dL fs)) = some (.ret, T5.e0r) ∨
    ∃ gs, KOk gs ∧ gs.length ≤ 4 ∧ Lp T5.L0 (T5.s0 op nm (ss.map .str) (isL fs) i (Fm.dL fs)) = some (.exit 0, T5.e0x0 op nm (isL gs) (Fm.dL gs))
  | 0, i, fs, h, hk, hf => by
    have hr := T5.round0 op nm (ss.map .str) (isL fs) i (Fm.dL fs)
    rw [List.length_map, if_neg (by simp; omega)] at hr
    exact .inr ⟨fs, hk, by omega, Lp_exit hr⟩
  | n + 1, i, fs, h, hk, hf => by
    have hr := T5.round0 op nm (ss.map .str) (isL fs) i (Fm.dL fs)
    have hi : i < ss.length := by omega
    have hg : (ss.map D.str)[i]? = some (.str ss[i]) := by rw [List.getElem?_map, List.getElem?_eq_getElem hi]; rfl
    rw [List.length_map, if_pos (by simp; omega), if_pos (by omega), Int.toNat_natCast, hg] at hr
    simp only [if_pos (show (0 : Int) ≤ (i : Int) by omega), wi4 (show i ≤ 4 by omega)] at hr
    by_cases hz : (ss[i].size : Int) > 100
    · rw [if_pos (by simpa using hz)] at hr
      exact .inl (Lp_exit hr)
    · rw [if_neg (by simpa using hz)] at hr
      cases hp : parseP ss[i] 64 with
      | bad => exact (parse_bad _ _ hp).elim
      | no e =>
        simp only [hp] at hr
        rcases odd_loop op nm ss hl n (i + 1) fs (by omega) hk (by omega) with h1 | ⟨gs, g1, g2, g3⟩
        · exact .inl (Lp_step hr h1)
        · exact .inr ⟨gs, g1, g2, Lp_step hr g3⟩
      | er p e =>
        simp only [hp] at hr
        rcases odd_loop op nm ss hl n (i + 1) fs (by omega) hk (by omega) with h1 | ⟨gs, g1, g2, g3⟩
        · exact .inl (Lp_step hr h1)
        · exact .inr ⟨gs, g1, g2, Lp_step hr g3⟩
      | ok o2 n2 k2 p2 =>
        obtain ⟨f, t, h1, h2, h3, h4⟩ := parse_ok hp
        have hd := d_ofD _ _ h1
        simp only [fmD] at h1 hd
        have hb : bd none f := ⟨sm_abs f t h2, trivial⟩
        simp only [hp, h1, if_pos hb, dL_len, if_pos (show fs.length + 1 ≤ 34359738368 by omega)] at hr
        have hk2 : KOk (fs ++ [f]) := fun g hg => by
          rcases List.mem_append.1 hg with hg | hg
          · exact hk g hg
          · rw [List.mem_singleton.1 hg]; exact ⟨t, h2, by omega⟩
        have ih := odd_loop op nm ss hl n (i + 1) (fs ++ [f]) (by omega) hk2 (by simp; omega)
        have ed : Fm.dL (fs ++ [f]) = Fm.dL fs ++ [D.ag [D.str o2, D.str n2, D.sl 5 k2, D.int .i64 p2]] := by rw [dL_append, hd]; rfl
        rw [isL_snoc, ed] at ih
        cases hb : isL fs with
        | true =>
          rw [hb] at ih hr
          simp only [if_true, Bool.true_and] at hr ih
          rcases ih with h1 | ⟨gs, g1, g2, g3⟩
          · exact .inl (Lp_step hr h1)
          · exact .inr ⟨gs, g1, g2, Lp_step hr g3⟩
        | false =>
          rw [hb] at ih hr
          simp only [Bool.false_eq_true, if_false, Bool.false_and] at hr ih
          rcases ih with h1 | ⟨gs, g1, g2, g3⟩
          · exact .inl (Lp_step hr h1)
          · exact .inr ⟨gs, g1, g2, Lp_step hr g3⟩
end Go.Sd

namespace Go.Sd
open Go Go.Cm Go.Proofs Go.Sc
set_option maxRecDepth 100000
noncomputable abbrev BH {β : Type} (op nm : ByteArray) (ks : List D) (k : List TV → List TV → Option β) (b : Bool) (xs : List D) : Option β :=
  applyK T5.X (finK Tryd.prog Tryd.f5 [TV.d true 0 (.str op), TV.d true 0 (.str nm), TV.d true 0 (.sl 0 ks)] k) [Kf.block 0 385, Kf.seq [] (sub [1, 1, 1, 1, 1, 1] (body Tryd.f5)) 64] (Ex.exit 0) (T5.e0x0 op nm b xs)
section
variable {β : Type} (op nm : ByteArray) (ks : List D) (k : List TV → List TV → Option β) (b : Bool) (x y z : D) (r : List D)
theorem bh0 : BH op nm ks k b [] =
    if (op.toList == [116, 114, 117, 101]) = true then T5.J0 op nm ks k (T5.j0 op nm true b []) else if (op.toList == [102, 97, 108, 115, 101]) = true then T5.J0 op nm ks k (T5.j0 op nm true b [])
    else if (op.toList == [108, 97, 98, 101, 108]) = true then T5.J0 op nm ks k (T5.j0 op nm true b []) else T5.J0 op nm ks k (T5.j0 op nm false b []) := by kernel_rfl
theorem bh1 : BH op nm ks k b [x] =
    if (op.toList == [33]) = true then T5.J0 op nm ks k (T5.j0 op nm true b [x]) else if (op.toList == [88]) = true then T5.J0 op nm ks k (T5.j0 op nm true b [x])
    else if (op.toList == [70]) = true then T5.J0 op nm ks k (T5.j0 op nm true b [x]) else if (op.toList == [71]) = true then T5.J0 op nm ks k (T5.j0 op nm true b [x]) else T5.J0 op nm ks k (T5.j0 op nm false b [x]) := by kernel_rfl
theorem bh2 : BH op nm ks k b [x, y] =
    if (op.toList == [38]) = true then T5.J0 op nm ks k (T5.j0 op nm true b [x, y]) else if (op.toList == [124]) = true then T5.J0 op nm ks k (T5.j0 op nm true b [x, y])
    else if (op.toList == [61, 62]) = true then T5.J0 op nm ks k (T5.j0 op nm true b [x, y]) else if (op.toList == [85]) = true then T5.J0 op nm ks k (T5.j0 op nm true b [x, y])
    else if (op.toList == [87]) = true then T5.J0 op nm ks k (T5.j0 op nm true b [x, y]) else T5.J0 op nm ks k (T5.j0 op nm (op.toList == [82]) b [x, y]) := by kernel_rfl
theorem bh3 : BH op nm ks k b (x :: y :: z :: r) = T5.J0 op nm ks k (T5.j0 op nm false b (x :: y :: z :: r)) := by kernel_rfl
end
theorem kidsN_no {op : ByteArray} (h : kidsN op = -1) : op.toList ≠ oTrue ∧ op.toList ≠ oFalse ∧ op.toList ≠ oLabel ∧ (∀ o : U1, op.toList ≠ o.s) ∧ ∀ o : B2, op.toList ≠ o.s := by
  refine ⟨fun e => ?_, fun e => ?_, fun e => ?_, fun o e => ?_, fun o e => ?_⟩
  · unfold kidsN at h; rw [e] at h; exact absurd h (by decide)
  · unfold kidsN at h; rw [e] at h; exact absurd h (by decide)
  · unfold kidsN at h; rw [e] at h; exact absurd h (by decide)
  · rw [kidsN_u op o e] at h; cases h
  · rw [kidsN_b op o e] at h; cases h
theorem is_eq {β : Type} (op nm : ByteArray) (ks : List D) (k : List TV → List TV → Option β) (b : Bool) (fs : List Fm) (hf : formL fs = true) :
    BH op nm ks k b (Fm.dL fs) = T5.J0 op nm ks k (T5.j0 op nm (formF (.mk op nm fs 0)) b (Fm.dL fs)) := by
  have e : formF (.mk op nm fs 0) = (kidsN op == (fs.length : Int)) := by simp only [formF, hf, Bool.and_true]
  rw [e]
  match fs with
  | [] =>
    refine (bh0 op nm ks k b).trans ?_
    rcases kidsN_all op with ⟨h, e | e | e⟩ | ⟨h, o, e⟩ | ⟨h, o, e⟩ | h
    · rw [h, e]; rfl
    · rw [h, e]; rfl
    · rw [h, e]; rfl
    · rw [h, e]; cases o <;> rfl
    · rw [h, e]; cases o <;> rfl
    · obtain ⟨h1, h2, h3, h4, h5⟩ := kidsN_no h
      rw [if_neg (by simpa [oTrue] using h1), if_neg (by simpa [oFalse] using h2), if_neg (by simpa [oLabel] using h3), h]; rfl
  | [f] =>
    refine (bh1 op nm ks k b _).trans ?_
    rcases kidsN_all op with ⟨h, e | e | e⟩ | ⟨h, o, e⟩ | ⟨h, o, e⟩ | h
    · rw [h, e]; rfl
    · rw [h, e]; rfl
    · rw [h, e]; rfl
    · rw [h, e]; cases o <;> rfl
    · rw [h, e]; cases o <;> rfl
    · obtain ⟨h1, h2, h3, h4, h5⟩ := kidsN_no h
      rw [if_neg (by simpa [U1.s] using h4 .no), if_neg (by simpa [U1.s] using h4 .X), if_neg (by simpa [U1.s] using h4 .F), if_neg (by simpa [U1.s] using h4 .G), h]; rfl
  | [f, g] =>
    refine (bh2 op nm ks k b _ _).trans ?_
    rcases kidsN_all op with ⟨h, e | e | e⟩ | ⟨h, o, e⟩ | ⟨h, o, e⟩ | h
    · rw [h, e]; rfl
    · rw [h, e]; rfl
    · rw [h, e]; rfl
    · rw [h, e]; cases o <;> rfl
    · rw [h, e]; cases o <;> rfl
    · obtain ⟨h1, h2, h3, h4, h5⟩ := kidsN_no h
      rw [if_neg (by simpa [B2.s] using h5 .and), if_neg (by simpa [B2.s] using h5 .or), if_neg (by simpa [B2.s] using h5 .imp), if_neg (by simpa [B2.s] using h5 .U), if_neg (by simpa [B2.s] using h5 .W), h,
        show (op.toList == [82]) = false from by simpa [B2.s] using h5 .R]
      rfl
  | f :: g :: i :: r =>
    refine (bh3 op nm ks k b _ _ _ _).trans ?_
    have hk := kidsN_le op
    have : (kidsN op == ((f :: g :: i :: r).length : Int)) = false := by simp; omega
    rw [this]; rfl
theorem kok_form : ∀ {fs : List Fm}, KOk fs → formL fs = true ∧ Fm.smL fs = true ∧ Fm.depL fs ≤ 101 ∧ ∀ n : Int, 1 ≤ n → n + 101 * fs.length ≤ 4096 → sizeL fs n ≤ n + 101 * fs.length
  | [], _ => ⟨rfl, rfl, by simp [Fm.depL], fun n _ _ => by simp [sizeL]⟩
  | f :: fs, h => by
    obtain ⟨t, h1, h2⟩ := h f (.head _)
    obtain ⟨k1, k2, k3, k4⟩ := kok_form fun g hg => h g (.tail _ hg)
    have hd := dep_sz f t h1
    have hs := size_abs t f h1
    refine ⟨by simp only [formL, formF_abs t f h1, k1, Bool.and_true], by simp only [Fm.smL, sm_abs f t h1, k2, Bool.and_true], by simp only [Fm.depL]; omega, fun n hn hm => ?_⟩
    simp only [List.length_cons] at hm ⊢
    simp only [sizeL, hs]
    rw [if_pos (by omega)]
    have := k4 (min (n + min (t.sz : Int) 4097) 4097) (by omega) (by omega)
    omega
theorem odd_end {β : Type} (op nm : ByteArray) (ks : List D) (k : List TV → List TV → Option β) (fs : List Fm) (hk : KOk fs) (hl : fs.length ≤ 4) :
    T5.J0 op nm ks k (T5.j0 op nm (formF (.mk op nm fs 0)) (isL fs) (Fm.dL fs)) = k [.d false 0 (.bool true)] [] := by
  obtain ⟨k1, k2, k3, k4⟩ := kok_form hk
  have hof := ofD_d (.mk op nm fs 0)
  simp only [Fm.d] at hof
  have hsm : Fm.sm (.mk op nm fs 0) = true := by simp only [Fm.sm, k2, Bool.and_true, Nat.ble_eq]; omega
  have hd : Fm.sm (.mk op nm fs 0) = true ∧ Fm.dep (.mk op nm fs 0) ≤ 1073741824 := ⟨hsm, by simp only [Fm.dep]; omega⟩
  have hb : bd none (.mk op nm fs 0) := ⟨hsm, trivial⟩
  have hz : ¬ sizeF (.mk op nm fs 0) > 4096 := by
    have := k4 1 (by omega) (by omega)
    simp only [sizeF]; omega
  rw [T5.j0_eq]
  simp only [hof, if_pos hd, if_pos hsm, if_pos hb]
  cases hF : formF (.mk op nm fs 0) with
  | false =>
    have hI : isF (.mk op nm fs 0) = false := by
      cases h : isF (.mk op nm fs 0) with
      | false => rfl
      | true => rw [isF_form _ h] at hF; cases hF
    simp only [normE, simpE, hF, hI]
    rfl
  | true =>
    obtain ⟨t, ht⟩ := abs_formF _ hF
    have hn : normE (.mk op nm fs 0) false = some (.inl 2) ∨ ∃ x, normE (.mk op nm fs 0) false = some (.inr x) := by
      have hm := makeF_nf t _ ht false 4096
      simp only [normE, hF, if_neg hz]
      by_cases h : ((t.nf false).sz : Int) ≤ 4096
      · rw [hm.1 h]
        simp only
        rw [if_neg (by omega)]
        exact .inr ⟨_, rfl⟩
      · obtain ⟨x, l', e, hl'⟩ := hm.2 (by omega)
        rw [e]
        simp only [if_pos hl']
        exact .inl trivial
    cases hI : isF (.mk op nm fs 0) with
    | true =>
      have hs : simpE (.mk op nm fs 0) = .inr (simpleF (.mk op nm fs 0)) := by simp only [simpE, hI, if_neg hz]
      cases hsf : simpleF (.mk op nm fs 0) with
      | mk o2 n2 q2 p2 =>
      rw [hsf] at hs
      have h2 := hI
      unfold isF at h2
      cases e1 : (op.toList == [70]) with
      | true => simp only [e1, if_true] at h2; cases h2
      | false =>
      cases e2 : (op.toList == [71]) with
      | true => simp only [e1, e2, if_true, Bool.false_eq_true, if_false] at h2
      | false =>
      cases e3 : (op.toList == [87]) with
      | true => simp only [e1, e2, e3, if_true, Bool.false_eq_true, if_false] at h2
      | false =>
      cases e4 : (op.toList == [61, 62]) with
      | true => simp only [e1, e2, e3, e4, if_true, Bool.false_eq_true, if_false] at h2
      | false =>
      cases e5 : (op.toList == [33]) with
      | true =>
        simp only [e1, e2, e3, e4, e5, if_true, Bool.false_eq_true, if_false] at h2
        split at h2
        · rename_i o3 n3 k3 p3
          simp only [Bool.and_eq_true, List.isEmpty_iff] at h2
          obtain ⟨h3, rfl⟩ := h2
          have hl2 : isL [Fm.mk o3 n3 [] p3] = true := by
            have := (isF_abs (.lab n3) (.mk o3 n3 [] p3) (by simp only [Fm.abs, eq_of_beq h3]; rfl))
            simp only [isL, this]; rfl
          simp only [Fm.dL, Fm.d] at hs ⊢
          rcases hn with hn | ⟨⟨o4, n4, k4, p4⟩, hn⟩
          · simp only [hn, hs, hI, hl2, h3, e1, e2, e3, e4, e5, List.getElem?_cons_zero, List.length_cons, List.length_nil, if_pos (show (0 : Int) ≤ 0 ∧ (0 : Int) < ((0 + 1 : Nat) : Int) by omega)]; rfl
          · simp only [hn, hs, hI, hl2, h3, e1, e2, e3, e4, e5, List.getElem?_cons_zero, List.length_cons, List.length_nil, if_pos (show (0 : Int) ≤ 0 ∧ (0 : Int) < ((0 + 1 : Nat) : Int) by omega)]; rfl
        · cases h2
      | false =>
        simp only [e1, e2, e3, e4, e5, Bool.false_eq_true, if_false, Bool.and_eq_true] at h2
        rcases hn with hn | ⟨⟨o4, n4, k4, p4⟩, hn⟩
        · simp only [hn, hs, hI, h2.2, e1, e2, e3, e4, e5]; rfl
        · simp only [hn, hs, hI, h2.2, e1, e2, e3, e4, e5]; rfl
    | false =>
      have hs : simpE (.mk op nm fs 0) = .inl 1 := by simp only [simpE, hI]
      cases hl3 : isL fs with
      | false =>
        rcases hn with hn | ⟨⟨o4, n4, k4, p4⟩, hn⟩
        · simp only [hn, hs, hI, hl3]; rfl
        · simp only [hn, hs, hI, hl3]; rfl
      | true =>
      cases e4 : (op.toList == [61, 62]) with
      | true =>
        rcases hn with hn | ⟨⟨o4, n4, k4, p4⟩, hn⟩
        · simp only [hn, hs, hI, e4]; rfl
        · simp only [hn, hs, hI, e4]; rfl
      | false =>
      cases e3 : (op.toList == [87]) with
      | true =>
        rcases hn with hn | ⟨⟨o4, n4, k4, p4⟩, hn⟩
        · simp only [hn, hs, hI, e4, e3]; rfl
        · simp only [hn, hs, hI, e4, e3]; rfl
      | false =>
      cases e1 : (op.toList == [70]) with
      | true =>
        rcases hn with hn | ⟨⟨o4, n4, k4, p4⟩, hn⟩
        · simp only [hn, hs, hI, e4, e3, e1]; rfl
        · simp only [hn, hs, hI, e4, e3, e1]; rfl
      | false =>
      cases e2 : (op.toList == [71]) with
      | true =>
        rcases hn with hn | ⟨⟨o4, n4, k4, p4⟩, hn⟩
        · simp only [hn, hs, hI, e4, e3, e1, e2]; rfl
        · simp only [hn, hs, hI, e4, e3, e1, e2]; rfl
      | false =>
      have h2 := hI
      unfold isF at h2
      cases e5 : (op.toList == [33]) with
      | false =>
        simp only [e1, e2, e3, e4, e5, Bool.false_eq_true, if_false, hl3, Bool.and_true] at h2
        simp only [formF, k1, Bool.and_true, h2] at hF
        cases hF
      | true =>
        simp only [e1, e2, e3, e4, e5, if_true, Bool.false_eq_true, if_false] at h2
        have hk1 : kidsN op = 1 := kidsN_u op .no (eq_of_beq e5)
        simp only [formF, k1, Bool.and_true, hk1, beq_iff_eq] at hF
        match fs, hF with
        | [.mk o3 n3 k3 p3], _ =>
          simp only at h2
          have h3 : (o3.toList == [108, 97, 98, 101, 108]) = false := by
            cases h3 : (o3.toList == [108, 97, 98, 101, 108]) with
            | false => rfl
            | true =>
              obtain ⟨u, hu, _⟩ := hk _ (.head _)
              have : k3 = [] := by
                rcases abs_inv hu with ⟨_, _, _, e, _⟩ | ⟨_, _, _, _, o, _, e, e6, _⟩ | ⟨_, _, _, _, _, o, _, _, e, e6, _⟩
                · cases e; rfl
                · cases e; rw [e6] at h3; cases o <;> cases h3
                · cases e; rw [e6] at h3; cases o <;> cases h3
              subst this
              rw [h3] at h2; cases h2
          simp only [Fm.dL, Fm.d] at hs ⊢
          rcases hn with hn | ⟨⟨o4, n4, k4, p4⟩, hn⟩
          · simp only [hn, hs, hI, h3, e1, e2, e3, e4, e5, List.getElem?_cons_zero, List.length_cons, List.length_nil, if_pos (show (0 : Int) ≤ 0 ∧ (0 : Int) < ((0 + 1 : Nat) : Int) by omega)]; rfl
          · simp only [hn, hs, hI, h3, e1, e2, e3, e4, e5, List.getElem?_cons_zero, List.length_cons, List.length_nil, if_pos (show (0 : Int) ≤ 0 ∧ (0 : Int) < ((0 + 1 : Nat) : Int) by omega)]; rfl
        | [], h => simp at h
        | _ :: _ :: _, h => simp at h; omega
theorem ev_odd (op nm : ByteArray) (ss : List ByteArray) {γ : Type} (q : List TV → List TV → Option γ) :
    evalF Tryd.prog RO Tryd.f5 [.d true 0 (.str op), .d true 0 (.str nm), .d true 0 (.sl 0 (ss.map .str))] q = q [.d false 0 (.bool true)] [] := by
  rw [T5.start, List.length_map]
  by_cases hl : (ss.length : Int) > 4
  · rw [if_pos (by simpa using hl)]
  · rw [if_neg (by simpa using hl)]
    rcases odd_loop op nm ss (by omega) ss.length 0 [] (by omega) (fun f h => by cases h) (by simp) with h | ⟨gs, g1, g2, h⟩
    · exact T5.behind0r op nm (ss.map .str) q _ h
    · refine (goLp_of h).trans ?_
      exact (is_eq op nm (ss.map .str) q (isL gs) gs (kok_form g1).1).trans (odd_end op nm _ q gs g1 g2)
end Go.Sd

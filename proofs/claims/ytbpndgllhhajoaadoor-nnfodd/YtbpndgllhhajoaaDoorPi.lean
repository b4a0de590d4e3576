/- Normal, Simple, alive: contracts' functions. -/
import Derived.Test.YtbpndgllhhajoaaDoorPg
import Derived.Test.YtbpndgllhhajoaaDoorPh
set_option linter.unusedVariables false
set_option linter.unusedSimpArgs false
namespace Go.Sd
open Go Go.Cm Go.Proofs Go.Sc
set_option maxRecDepth 100000
def ansN {β : Type} (k : List TV → List TV → Option β) : Option (Fm × Int) → Option β
  | some (.mk o n ks p, l) => if l < 0 then k [.d false 5 zF, .d false 0 (noD 2)] [] else k [.d true 5 (fmD o n (Fm.dL ks) p), .d false 0 .nili] []
  | none => none
def cNormal {β : Type} (args : List TV) (k : List TV → List TV → Option β) : Option β :=
  match args with
  | [.d true 5 x, .d true 0 (.bool not)] => match ofD x with
    | some f => chkK (f.sm = true ∧ f.dep ≤ 1073741824) (match formF f with
      | false => k [.d false 5 zF, .d false 0 (noD 1)] []
      | true => if sizeF f > 4096 then k [.d false 5 zF, .d false 0 (noD 2)] [] else ansN k (makeF f not 4096))
    | none => none
  | _ => none
def ansE {β : Type} (k : List TV → List TV → Option β) : Fm → Option β
  | .mk o n ks p => k [.d true 5 (fmD o n (Fm.dL ks) p), .d false 0 .nili] []
def cSimple {β : Type} (args : List TV) (k : List TV → List TV → Option β) : Option β :=
  match args with
  | [.d true 5 x] => match ofD x with
    | some f => chkK (f.sm = true) (match isF f with
      | false => k [.d false 5 zF, .d false 0 (noD 1)] []
      | true => if sizeF f > 4096 then k [.d false 5 zF, .d false 0 (noD 2)] [] else ansE k (simpleF f))
    | none => none
  | _ => none
def R17 : Env := (R16 none).add 27 io0 cNormal
def R18 : Env := R17.add 28 io0 cSimple
def cAlive15 {β : Type} (args : List TV) (k : List TV → List TV → Option β) : Option β :=
  match args with
  | [] => k [.d false 0 (.bool true)] []
  | _ => none
def R19 : Env := R18.add 24 io0 cAlive15
end Go.Sd

namespace Go.Sd
open Go Go.Cm Go.Proofs Go.Sc
set_option maxRecDepth 100000
namespace T27
/- rounds of the search: 1 -/
noncomputable def X : Fx := ⟨Tryd.prog, R16 none, 48, 2⟩
theorem start {β : Type} (op : ByteArray) (nm : ByteArray) (ks : List D) (p : Int) (t : Bool) (k : List TV → List TV → Option β) : evalF Tryd.prog (R16 none) Tryd.f27 [.d true 5 (.ag [D.str op, D.str nm, D.sl 5 ks, D.int .i64 p]), .d true 0 (.bool t)] k =
   match ofD (.ag [D.str op, D.str nm, D.sl 5 ks, D.int .i64 p]) with
  | some f2 =>
   if bd none f2 then
    if (!formF f2) = true then
     k [.d false 5 (.ag [D.str (ByteArray.mk #[]), D.str (ByteArray.mk #[]), D.sl 5 [], D.int .i64 0]), .d false 0 (.ifc 77 (.int .i64 1))] []
    else
     match ofD (.ag [D.str op, D.str nm, D.sl 5 ks, D.int .i64 p]) with
     | some f6 =>
      if bd none f6 then
       if decide (sizeF f6 > (4096 : Int)) = true then
        k [.d false 5 (.ag [D.str (ByteArray.mk #[]), D.str (ByteArray.mk #[]), D.sl 5 [], D.int .i64 0]), .d false 0 (.ifc 77 (.int .i64 2))] []
       else
        match ofD (.ag [D.str op, D.str nm, D.sl 5 ks, D.int .i64 p]) with
        | some f11 =>
         if mok (-17179869184 : Int) none f11 (4096 : Int) then
          match makeF f11 t (4096 : Int) with
          | some (Fm.mk o12 n13 ks14 p15, l16) =>
           if decide (l16 < (0 : Int)) = true then
            k
             [.d false 5 (.ag [D.str (ByteArray.mk #[]), D.str (ByteArray.mk #[]), D.sl 5 [], D.int .i64 0]),
              .d false 0 (.ifc 77 (.int .i64 2))]
             []
           else k [.d true 5 (.ag [D.str o12, D.str n13, D.sl 5 (Fm.dL ks14), D.int .i64 p15]), .d false 0 D.nili] []
          | none => none
         else none
        | none => none
      else none
     | none => none
   else none
  | none => none := by kernel_rfl
end T27

namespace T28
/- rounds of the search: 1 -/
noncomputable def X : Fx := ⟨Tryd.prog, R17, 12, 1⟩
theorem start {β : Type} (op : ByteArray) (nm : ByteArray) (ks : List D) (p : Int) (k : List TV → List TV → Option β) : evalF Tryd.prog R17 Tryd.f28 [.d true 5 (.ag [D.str op, D.str nm, D.sl 5 ks, D.int .i64 p])] k =
   match ofD (.ag [D.str op, D.str nm, D.sl 5 ks, D.int .i64 p]) with
  | some f2 =>
   if bd none f2 then
    if (!isF f2) = true then
     k [.d false 5 (.ag [D.str (ByteArray.mk #[]), D.str (ByteArray.mk #[]), D.sl 5 [], D.int .i64 0]), .d false 0 (.ifc 77 (.int .i64 1))] []
    else
     match ofD (.ag [D.str op, D.str nm, D.sl 5 ks, D.int .i64 p]) with
     | some f6 =>
      if bd none f6 then
       if decide (sizeF f6 > (4096 : Int)) = true then
        k [.d false 5 (.ag [D.str (ByteArray.mk #[]), D.str (ByteArray.mk #[]), D.sl 5 [], D.int .i64 0]), .d false 0 (.ifc 77 (.int .i64 2))] []
       else
        match ofD (.ag [D.str op, D.str nm, D.sl 5 ks, D.int .i64 p]) with
        | some f10 =>
         if bd none f10 then
          match simpleF f10 with
          | Fm.mk o11 n12 ks13 p14 => k [.d true 5 (.ag [D.str o11, D.str n12, D.sl 5 (Fm.dL ks13), D.int .i64 p14]), .d false 0 D.nili] []
         else none
        | none => none
      else none
     | none => none
   else none
  | none => none := by kernel_rfl
end T28


end Go.Sd

namespace Go.Sd
open Go Go.Cm Go.Proofs Go.Sc
set_option maxRecDepth 100000
theorem envr17 : EnvOk glS Tryd.prog R17 := envr16.fn mixed Tryd.func27 (by kernel_rfl) fun β args k r hr => by
  unfold cNormal at hr
  split at hr
  · rename_i x not
    split at hr
    · rename_i f hf
      unfold chkK at hr
      split at hr
      · rename_i h0
        rw [d_ofD _ _ hf]
        cases f with
        | mk op nm ks p =>
          have hof := ofD_d (.mk op nm ks p)
          simp only [Fm.d] at hof
          have st : ∀ {γ : Type} (q : List TV → List TV → Option γ), evalF Tryd.prog (R16 none) Tryd.f27 [.d true 5 (Fm.mk op nm ks p).d, .d true 0 (.bool not)] q = _ := fun q => T27.start op nm (Fm.dL ks) p not q
          have hb : bd none (.mk op nm ks p) := ⟨h0.1, trivial⟩
          have hm : mok (-17179869184) none (.mk op nm ks p) 4096 := ⟨hb, h0.2, by omega, by omega⟩
          simp only [hof, if_pos hb, if_pos hm] at st
          cases hF : formF (.mk op nm ks p) with
          | false =>
            simp only [hF] at st hr
            exact ⟨_, _, hr, fun q => by rw [st]; rfl⟩
          | true =>
            simp only [hF] at st hr
            by_cases hs : sizeF (.mk op nm ks p) > 4096
            · rw [if_pos hs] at hr
              simp only [decide_eq_true hs] at st
              exact ⟨_, _, hr, fun q => by rw [st]; rfl⟩
            · rw [if_neg hs] at hr
              simp only [decide_eq_false hs] at st
              cases hk : makeF (.mk op nm ks p) not 4096 with
              | none => rw [hk] at hr; cases hr
              | some v =>
                obtain ⟨⟨o, n, k2, p2⟩, l⟩ := v
                rw [hk] at hr
                simp only [hk] at st
                simp only [ansN] at hr
                by_cases hl : l < 0
                · rw [if_pos hl] at hr
                  simp only [decide_eq_true hl] at st
                  exact ⟨_, _, hr, fun q => by rw [st]; rfl⟩
                · rw [if_neg hl] at hr
                  simp only [decide_eq_false hl] at st
                  exact ⟨_, _, hr, fun q => by rw [st]; rfl⟩
      · cases hr
    · cases hr
  · cases hr
theorem envr18 : EnvOk glS Tryd.prog R18 := envr17.fn mixed Tryd.func28 (by kernel_rfl) fun β args k r hr => by
  unfold cSimple at hr
  split at hr
  · rename_i x
    split at hr
    · rename_i f hf
      unfold chkK at hr
      split at hr
      · rename_i h0
        rw [d_ofD _ _ hf]
        cases f with
        | mk op nm ks p =>
          have hof := ofD_d (.mk op nm ks p)
          simp only [Fm.d] at hof
          have st : ∀ {γ : Type} (q : List TV → List TV → Option γ), evalF Tryd.prog R17 Tryd.f28 [.d true 5 (Fm.mk op nm ks p).d] q = _ := fun q => T28.start op nm (Fm.dL ks) p q
          have hb : bd none (.mk op nm ks p) := ⟨h0, trivial⟩
          simp only [hof, if_pos hb] at st
          cases hF : isF (.mk op nm ks p) with
          | false =>
            simp only [hF] at st hr
            exact ⟨_, _, hr, fun q => by rw [st]; rfl⟩
          | true =>
            simp only [hF] at st hr
            by_cases hs : sizeF (.mk op nm ks p) > 4096
            · rw [if_pos hs] at hr
              simp only [decide_eq_true hs] at st
              exact ⟨_, _, hr, fun q => by rw [st]; rfl⟩
            · rw [if_neg hs] at hr
              simp only [decide_eq_false hs] at st
              cases hk : simpleF (.mk op nm ks p) with
              | mk o n k2 p2 =>
                rw [hk] at hr
                simp only [hk] at st
                simp only [ansE] at hr
                exact ⟨_, _, hr, fun q => by rw [st]; rfl⟩
      · cases hr
    · cases hr
  · cases hr
end Go.Sd

namespace Go.Sd
open Go Go.Cm Go.Proofs Go.Sc
set_option maxRecDepth 100000
def prD (t : Pr) : D := .ag [.str t.opb, .str t.nmb, .sl 5 t.ksd, .int .i64 0]
def exL : T8 := [71, 32, 40, 34, 97, 34, 32, 61, 62, 32, 70, 32, 34, 98, 34, 41]
def exP : T8 := [102, 97, 108, 115, 101, 32, 82, 32, 40, 33, 34, 97, 34, 32, 124, 32, 116, 114, 117, 101, 32, 85, 32, 34, 98, 34, 41]
def exF : D := .ag [.str ⟨#[71]⟩, .str ⟨#[]⟩, .sl 5 [.ag [.str ⟨#[61, 62]⟩, .str ⟨#[]⟩, .sl 5 [.ag [.str ⟨#[108, 97, 98, 101, 108]⟩, .str ⟨#[97]⟩, .sl 5 [], .int .i64 3],
  .ag [.str ⟨#[70]⟩, .str ⟨#[]⟩, .sl 5 [.ag [.str ⟨#[108, 97, 98, 101, 108]⟩, .str ⟨#[98]⟩, .sl 5 [], .int .i64 12]], .int .i64 10]], .int .i64 2]], .int .i64 0]
def cParseA {β : Type} (args : List TV) (k : List TV → List TV → Option β) : Option β :=
  match args with
  | [.d true 0 (.str s), .d true 0 (.int .i64 d)] => if (s.toList == exL) = true then (if d = 9 then k [.d false 5 exF, .d false 0 .nili] [] else none) else none
  | _ => none
def normT (t : Pr) (n : Bool) : Prop := t.sz ≤ 4096 ∧ (t.nf n).sz ≤ 4096
instance (t : Pr) (n : Bool) : Decidable (normT t n) := by unfold normT; infer_instance
def cNormA {β : Type} (args : List TV) (k : List TV → List TV → Option β) : Option β :=
  match args with
  | [.d true 5 x, .d true 0 (.bool n)] => match x with
    | .ag (.str o :: _) => if (o.toList == []) = true then (match ofD x with
        | some f => chkK (f.sm = true ∧ f.dep ≤ 1073741824 ∧ formF f = false) (k [.d false 5 zF, .d false 0 (noD 1)] [])
        | none => none)
      else (match absD x with | some t => chkK (normT t n) (k [.d true 5 (prD (t.nf n)), .d false 0 .nili] []) | none => none)
    | _ => none
  | _ => none
def cPrintA {β : Type} (args : List TV) (k : List TV → List TV → Option β) : Option β :=
  match args with
  | [.d true 5 x] => match ofD x with
    | some f => chkK ((printF f).toList = exP) (k [.d false 0 (.str ⟨exP.toArray⟩)] [])
    | none => none
  | _ => none
def RAl : Env := ((R18.add 25 io0 cParseA).add 27 io0 cNormA).add 53 io0 cPrintA
def cNormT {β : Type} (args : List TV) (k : List TV → List TV → Option β) : Option β :=
  match args with
  | [.d true 5 x, .d true 0 (.bool n)] => match absD x with
    | some t => chkK (t.sz ≤ 5000) (if normT t n then k [.d true 5 (prD (t.nf n)), .d false 0 .nili] [] else k [.d false 5 zF, .d false 0 (noD 2)] [])
    | none => none
  | _ => none
def okT (t : Pr) : Prop := t.ok = true ∧ t.sz ≤ 4096
instance (t : Pr) : Decidable (okT t) := by unfold okT; infer_instance
def cSimpT {β : Type} (args : List TV) (k : List TV → List TV → Option β) : Option β :=
  match args with
  | [.d true 5 x] => match ofD x with
    | some f => match absD x with
      | some t => chkK (okT t ∧ sameF f t.fm = true) (k [.d true 5 (prD t.simp), .d false 0 .nili] [])
      | none => none
    | none => none
  | _ => none
def RT' : Env := (((R18.add 24 io0 cAlive15).add 27 io0 cNormT).add 28 io0 cSimpT)
end Go.Sd

namespace Go.Sd
open Go Go.Cm Go.Proofs Go.Sc
set_option maxRecDepth 100000
namespace T24
/- rounds of the search: 1 -/
noncomputable def X : Fx := ⟨Tryd.prog, RAl, 1, 0⟩
theorem start {β : Type}  (k : List TV → List TV → Option β) : evalF Tryd.prog RAl Tryd.f24 [] k =
   match
   absD
    (.ag
     [D.str (ByteArray.mk #[71]), D.str (ByteArray.mk #[]),
      D.sl 5
       [D.ag
         [D.str (ByteArray.mk #[61, 62]), D.str (ByteArray.mk #[]),
          D.sl 5
           [D.ag [D.str (ByteArray.mk #[108, 97, 98, 101, 108]), D.str (ByteArray.mk #[97]), D.sl 5 [], D.int .i64 3],
            D.ag
             [D.str (ByteArray.mk #[70]), D.str (ByteArray.mk #[]),
              D.sl 5
               [D.ag [D.str (ByteArray.mk #[108, 97, 98, 101, 108]), D.str (ByteArray.mk #[98]), D.sl 5 [], D.int .i64 12]],
              D.int .i64 10]],
          D.int .i64 2]],
      D.int .i64 0]) with
  | some t3 =>
   if Pr.sz t3 ≤ 4096 ∧ Pr.sz (Pr.nf t3 false) ≤ 4096 then
    match ofD (.ag [D.str (ByteArray.mk #[]), D.str (ByteArray.mk #[]), D.sl 5 [], D.int .i64 0]) with
    | some f5 =>
     if Fm.sm f5 = true ∧ Fm.dep f5 ≤ 1073741824 ∧ formF f5 = false then
      match ofD (.ag [D.str (Pr.opb (Pr.nf t3 false)), D.str (Pr.nmb (Pr.nf t3 false)), D.sl 5 (Pr.ksd (Pr.nf t3 false)), D.int .i64 0]) with
      | some f7 =>
       if
         ByteArray.toList (printF f7) =
          [102, 97, 108, 115, 101, 32, 82, 32, 40, 33, 34, 97, 34, 32,
           124, 32, 116, 114, 117, 101, 32, 85, 32, 34, 98, 34, 41] then
        match ofD (.ag [D.str (Pr.opb (Pr.nf t3 false)), D.str (Pr.nmb (Pr.nf t3 false)), D.sl 5 (Pr.ksd (Pr.nf t3 false)), D.int .i64 0]) with
        | some f8 =>
         if bd none f8 then
          if isF f8 = true then
           match
            ofD
             (.ag
              [D.str (ByteArray.mk #[71]), D.str (ByteArray.mk #[]),
               D.sl 5
                [D.ag
                  [D.str (ByteArray.mk #[61, 62]), D.str (ByteArray.mk #[]),
                   D.sl 5
                    [D.ag
                      [D.str (ByteArray.mk #[108, 97, 98, 101, 108]), D.str (ByteArray.mk #[97]), D.sl 5 [],
                       D.int .i64 3],
                     D.ag
                      [D.str (ByteArray.mk #[70]), D.str (ByteArray.mk #[]),
                       D.sl 5
                        [D.ag
                          [D.str (ByteArray.mk #[108, 97, 98, 101, 108]), D.str (ByteArray.mk #[98]), D.sl 5 [],
                           D.int .i64 12]],
                       D.int .i64 10]],
                   D.int .i64 2]],
               D.int .i64 0]) with
           | some f9 => if bd none f9 then if (!isF f9) = true then k [.d false 0 (.bool true)] [] else k [.d false 0 (.bool false)] [] else none
           | none => none
          else k [.d false 0 (.bool false)] []
         else none
        | none => none
       else none
      | none => none
     else none
    | none => none
   else none
  | none => none := by kernel_rfl
end T24


end Go.Sd

namespace Go.Sd
open Go Go.Cm Go.Proofs Go.Sc
set_option maxRecDepth 100000
namespace T6
/- rounds of the search: 1 -/
noncomputable def X : Fx := ⟨Tryd.prog, RT', 4, 1⟩
theorem start {β : Type} (s : ByteArray) (k : List TV → List TV → Option β) : evalF Tryd.prog RT' Tryd.f6 [.d true 0 (.str s)] k =
   if decide ((↑(ByteArray.size s) : Int) > (200 : Int)) = true then k [.d false 0 (.bool true)] []
  else
   match parseP s (64 : Int) with
   | PA.ok op7 nm8 ks9 p10 =>
    match absD (.ag [D.str op7, D.str nm8, D.sl 5 ks9, D.int .i64 p10]) with
    | some t14 =>
     if Pr.sz t14 ≤ 5000 then
      if Pr.sz t14 ≤ 4096 ∧ Pr.sz (Pr.nf t14 false) ≤ 4096 then
       match absD (.ag [D.str (Pr.opb (Pr.nf t14 false)), D.str (Pr.nmb (Pr.nf t14 false)), D.sl 5 (Pr.ksd (Pr.nf t14 false)), D.int .i64 0]) with
       | some t18 =>
        if Pr.sz t18 ≤ 5000 then
         if Pr.sz t18 ≤ 4096 ∧ Pr.sz (Pr.nf t18 false) ≤ 4096 then
          match absD (.ag [D.str (Pr.opb (Pr.nf t14 false)), D.str (Pr.nmb (Pr.nf t14 false)), D.sl 5 (Pr.ksd (Pr.nf t14 false)), D.int .i64 0]) with
          | some t20 =>
           if Pr.sz t20 ≤ 5000 then
            if Pr.sz t20 ≤ 4096 ∧ Pr.sz (Pr.nf t20 true) ≤ 4096 then
             match ofD (.ag [D.str (Pr.opb (Pr.nf t14 false)), D.str (Pr.nmb (Pr.nf t14 false)), D.sl 5 (Pr.ksd (Pr.nf t14 false)), D.int .i64 0]) with
             | some f22 =>
              match ofD (.ag [D.str (Pr.opb (Pr.nf t18 false)), D.str (Pr.nmb (Pr.nf t18 false)), D.sl 5 (Pr.ksd (Pr.nf t18 false)), D.int .i64 0]) with
              | some g23 =>
               if bd none f22 then
                if (!sameF f22 g23) = true then k [.d false 0 (.bool false)] []
                else
                 match ofD (.ag [D.str (Pr.opb (Pr.nf t14 false)), D.str (Pr.nmb (Pr.nf t14 false)), D.sl 5 (Pr.ksd (Pr.nf t14 false)), D.int .i64 0]) with
                 | some f27 =>
                  match absD (.ag [D.str (Pr.opb (Pr.nf t14 false)), D.str (Pr.nmb (Pr.nf t14 false)), D.sl 5 (Pr.ksd (Pr.nf t14 false)), D.int .i64 0]) with
                  | some t28 =>
                   if (Pr.ok t28 = true ∧ Pr.sz t28 ≤ 4096) ∧ sameF f27 (Pr.fm t28) = true then
                    match ofD (.ag [D.str (Pr.opb (Pr.simp t28)), D.str (Pr.nmb (Pr.simp t28)), D.sl 5 (Pr.ksd (Pr.simp t28)), D.int .i64 0]) with
                    | some f30 =>
                     match absD (.ag [D.str (Pr.opb (Pr.simp t28)), D.str (Pr.nmb (Pr.simp t28)), D.sl 5 (Pr.ksd (Pr.simp t28)), D.int .i64 0]) with
                     | some t31 =>
                      if (Pr.ok t31 = true ∧ Pr.sz t31 ≤ 4096) ∧ sameF f30 (Pr.fm t31) = true then
                       match ofD (.ag [D.str (Pr.opb (Pr.simp t28)), D.str (Pr.nmb (Pr.simp t28)), D.sl 5 (Pr.ksd (Pr.simp t28)), D.int .i64 0]) with
                       | some f33 =>
                        match ofD (.ag [D.str (Pr.opb (Pr.simp t31)), D.str (Pr.nmb (Pr.simp t31)), D.sl 5 (Pr.ksd (Pr.simp t31)), D.int .i64 0]) with
                        | some g34 =>
                         if bd none f33 then
                          if (!sameF f33 g34) = true then k [.d false 0 (.bool false)] []
                          else
                           match absD (.ag [D.str (Pr.opb (Pr.nf t20 true)), D.str (Pr.nmb (Pr.nf t20 true)), D.sl 5 (Pr.ksd (Pr.nf t20 true)), D.int .i64 0]) with
                           | some t40 =>
                            if Pr.sz t40 ≤ 5000 then
                             if Pr.sz t40 ≤ 4096 ∧ Pr.sz (Pr.nf t40 true) ≤ 4096 then
                              match ofD (.ag [D.str (Pr.opb (Pr.nf t40 true)), D.str (Pr.nmb (Pr.nf t40 true)), D.sl 5 (Pr.ksd (Pr.nf t40 true)), D.int .i64 0]) with
                              | some f42 =>
                               match ofD (.ag [D.str (Pr.opb (Pr.nf t14 false)), D.str (Pr.nmb (Pr.nf t14 false)), D.sl 5 (Pr.ksd (Pr.nf t14 false)), D.int .i64 0]) with
                               | some g43 => if bd none f42 then k [.d false 0 (.bool (sameF f42 g43))] [] else none
                               | none => none
                              | none => none
                             else k [.d false 0 (.bool false)] []
                            else none
                           | none => none
                         else none
                        | none => none
                       | none => none
                      else none
                     | none => none
                    | none => none
                   else none
                  | none => none
                 | none => none
               else none
              | none => none
             | none => none
            else
             match ofD (.ag [D.str (Pr.opb (Pr.nf t14 false)), D.str (Pr.nmb (Pr.nf t14 false)), D.sl 5 (Pr.ksd (Pr.nf t14 false)), D.int .i64 0]) with
             | some f46 =>
              match ofD (.ag [D.str (Pr.opb (Pr.nf t18 false)), D.str (Pr.nmb (Pr.nf t18 false)), D.sl 5 (Pr.ksd (Pr.nf t18 false)), D.int .i64 0]) with
              | some g47 =>
               if bd none f46 then
                if (!sameF f46 g47) = true then k [.d false 0 (.bool false)] []
                else
                 match ofD (.ag [D.str (Pr.opb (Pr.nf t14 false)), D.str (Pr.nmb (Pr.nf t14 false)), D.sl 5 (Pr.ksd (Pr.nf t14 false)), D.int .i64 0]) with
                 | some f51 =>
                  match absD (.ag [D.str (Pr.opb (Pr.nf t14 false)), D.str (Pr.nmb (Pr.nf t14 false)), D.sl 5 (Pr.ksd (Pr.nf t14 false)), D.int .i64 0]) with
                  | some t52 =>
                   if (Pr.ok t52 = true ∧ Pr.sz t52 ≤ 4096) ∧ sameF f51 (Pr.fm t52) = true then
                    match ofD (.ag [D.str (Pr.opb (Pr.simp t52)), D.str (Pr.nmb (Pr.simp t52)), D.sl 5 (Pr.ksd (Pr.simp t52)), D.int .i64 0]) with
                    | some f54 =>
                     match absD (.ag [D.str (Pr.opb (Pr.simp t52)), D.str (Pr.nmb (Pr.simp t52)), D.sl 5 (Pr.ksd (Pr.simp t52)), D.int .i64 0]) with
                     | some t55 =>
                      if (Pr.ok t55 = true ∧ Pr.sz t55 ≤ 4096) ∧ sameF f54 (Pr.fm t55) = true then
                       match ofD (.ag [D.str (Pr.opb (Pr.simp t52)), D.str (Pr.nmb (Pr.simp t52)), D.sl 5 (Pr.ksd (Pr.simp t52)), D.int .i64 0]) with
                       | some f57 =>
                        match ofD (.ag [D.str (Pr.opb (Pr.simp t55)), D.str (Pr.nmb (Pr.simp t55)), D.sl 5 (Pr.ksd (Pr.simp t55)), D.int .i64 0]) with
                        | some g58 => if bd none f57 then if (!sameF f57 g58) = true then k [.d false 0 (.bool false)] [] else k [.d false 0 (.bool true)] [] else none
                        | none => none
                       | none => none
                      else none
                     | none => none
                    | none => none
                   else none
                  | none => none
                 | none => none
               else none
              | none => none
             | none => none
           else none
          | none => none
         else
          match absD (.ag [D.str (Pr.opb (Pr.nf t14 false)), D.str (Pr.nmb (Pr.nf t14 false)), D.sl 5 (Pr.ksd (Pr.nf t14 false)), D.int .i64 0]) with
          | some t65 =>
           if Pr.sz t65 ≤ 5000 then if Pr.sz t65 ≤ 4096 ∧ Pr.sz (Pr.nf t65 true) ≤ 4096 then k [.d false 0 (.bool false)] [] else k [.d false 0 (.bool false)] []
           else none
          | none => none
        else none
       | none => none
      else k [.d false 0 (.bool true)] []
     else none
    | none => none
   | PA.no n75 => k [.d false 0 (.bool true)] []
   | PA.er p79 n80 => k [.d false 0 (.bool true)] []
   | PA.bad => none := by kernel_rfl
end T6


end Go.Sd

namespace Go.Sd
open Go Go.Cm Go.Proofs Go.Sc
set_option maxRecDepth 100000
theorem ansN_pr {β : Type} (k : List TV → List TV → Option β) (t : Pr) {l : Int} (hl : ¬ l < 0) : ansN k (some (t.fm, l)) = k [.d true 5 (prD t), .d false 0 .nili] [] := by
  have e := pr_d t
  cases hf : t.fm with
  | mk o n ks p =>
    rw [hf] at e
    simp only [ansN, if_neg hl]
    rw [show fmD o n (Fm.dL ks) p = (Fm.mk o n ks p).d from rfl, ← e]
    rfl
theorem ansE_pr {β : Type} (k : List TV → List TV → Option β) (t : Pr) : ansE k t.fm = k [.d true 5 (prD t), .d false 0 .nili] [] := by
  have e := pr_d t
  cases hf : t.fm with
  | mk o n ks p =>
    rw [hf] at e
    simp only [ansE]
    rw [show fmD o n (Fm.dL ks) p = (Fm.mk o n ks p).d from rfl, ← e]
    rfl
theorem norm_ok {β : Type} {x : D} {t : Pr} {n : Bool} (hx : absD x = some t) (h : normT t n) (k : List TV → List TV → Option β) :
    cNormal [.d true 5 x, .d true 0 (.bool n)] k = k [.d true 5 (prD (t.nf n)), .d false 0 .nili] [] := by
  obtain ⟨f, hf, ha⟩ := absD_out hx
  have hs := size_abs t f ha
  have hd := dep_sz f t ha
  simp only [cNormal, hf, chkK]
  rw [if_pos ⟨sm_abs f t ha, by have := h.1; omega⟩, formF_abs t f ha]
  simp only
  rw [if_neg (by rw [hs]; have := h.1; omega), (makeF_nf t f ha n 4096).1 (by have := h.2; omega)]
  exact ansN_pr k _ (by have := h.2; omega)
theorem norm_long {β : Type} {x : D} {t : Pr} {n : Bool} (hx : absD x = some t) (hz : t.sz ≤ 5000) (h : ¬ normT t n) (k : List TV → List TV → Option β) :
    cNormal [.d true 5 x, .d true 0 (.bool n)] k = k [.d false 5 zF, .d false 0 (noD 2)] [] := by
  obtain ⟨f, hf, ha⟩ := absD_out hx
  have hs := size_abs t f ha
  have hd := dep_sz f t ha
  simp only [cNormal, hf, chkK]
  rw [if_pos ⟨sm_abs f t ha, by omega⟩, formF_abs t f ha]
  simp only
  by_cases h1 : t.sz ≤ 4096
  · rw [if_neg (by rw [hs]; omega)]
    have h2 : ¬ (t.nf n).sz ≤ 4096 := fun h2 => h ⟨h1, h2⟩
    obtain ⟨x, l', e, hl⟩ := (makeF_nf t f ha n 4096).2 (by omega)
    rw [e]
    obtain ⟨o, n2, ks, p⟩ := x
    simp only [ansN, if_pos hl]
  · rw [if_pos (by rw [hs]; omega)]
theorem norm_no {β : Type} {x : D} {f : Fm} {n : Bool} (hf : ofD x = some f) (h1 : f.sm = true) (h2 : f.dep ≤ 1073741824) (h3 : formF f = false) (k : List TV → List TV → Option β) :
    cNormal [.d true 5 x, .d true 0 (.bool n)] k = k [.d false 5 zF, .d false 0 (noD 1)] [] := by
  simp only [cNormal, hf, chkK, h3]
  rw [if_pos ⟨h1, h2⟩]
theorem simp_okT {β : Type} {x : D} {f : Fm} {t : Pr} (hf : ofD x = some f) (hx : absD x = some t) (h : okT t) (hs : sameF f t.fm = true) (k : List TV → List TV → Option β) :
    cSimple [.d true 5 x] k = k [.d true 5 (prD t.simp), .d false 0 .nili] [] := by
  obtain ⟨f', hf', ha⟩ := absD_out hx
  rw [hf] at hf'; cases hf'
  simp only [cSimple, hf, chkK]
  rw [if_pos (sm_abs f t ha), isF_abs t f ha, h.1]
  simp only
  rw [if_neg (by rw [size_abs t f ha]; have := h.2; omega), simple_same f t.fm hs, simple_fm]
  exact ansE_pr k _
theorem env_al : EnvOk glS Tryd.prog RAl := by
  refine EnvOk.add (EnvOk.add (EnvOk.add envr18 fun β args k r hr => ?_) fun β args k r hr => ?_) fun β args k r hr => ?_
  · unfold cParseA at hr
    split at hr
    · rename_i s d
      split at hr
      · rename_i h
        split at hr
        · rename_i hd
          subst hd
          refine envr18 β 25 _ k r ?_
          show cParse [.d true 0 (.str s), .d true 0 (.int .i64 9)] k = some r
          have es : s = ⟨exL.toArray⟩ := toList_inj ((eq_of_beq h).trans (B_lit _).symm)
          rw [es]
          have e : parseP ⟨exL.toArray⟩ 9 = .ok ⟨#[71]⟩ ⟨#[]⟩ [.ag [.str ⟨#[61, 62]⟩, .str ⟨#[]⟩, .sl 5 [.ag [.str ⟨#[108, 97, 98, 101, 108]⟩, .str ⟨#[97]⟩, .sl 5 [], .int .i64 3],
            .ag [.str ⟨#[70]⟩, .str ⟨#[]⟩, .sl 5 [.ag [.str ⟨#[108, 97, 98, 101, 108]⟩, .str ⟨#[98]⟩, .sl 5 [], .int .i64 12]], .int .i64 10]], .int .i64 2]] 0 := by kernel_rfl
          simp only [cParse, e]
          exact hr
        · cases hr
      · cases hr
    · cases hr
  · refine envr18 β 27 _ k r ?_
    show cNormal args k = some r
    unfold cNormA at hr
    split at hr
    · split at hr
      · rename_i n o xs
        split at hr
        · split at hr
          · rename_i f hf
            unfold chkK at hr
            split at hr
            · rename_i h0
              rw [norm_no hf h0.1 h0.2.1 h0.2.2]; exact hr
            · cases hr
          · cases hr
        · split at hr
          · rename_i t ht
            unfold chkK at hr
            split at hr
            · rename_i h0
              rw [norm_ok ht h0]; exact hr
            · cases hr
          · cases hr
      · cases hr
    · cases hr
  · refine envr18 β 53 _ k r ?_
    show cPrint none args k = some r
    unfold cPrintA at hr
    split at hr
    · split at hr
      · rename_i f hf
        unfold chkK at hr
        split at hr
        · rename_i h0
          have e : printF f = ⟨exP.toArray⟩ := toList_inj (h0.trans (B_lit _).symm)
          simp only [cPrint, hf, chkK]
          rw [if_pos ⟨trivial, by rw [e]; decide⟩, e]
          exact hr
        · cases hr
      · cases hr
    · cases hr
def exT : Pr := .un .G (.bi .imp (.lab ⟨#[97]⟩) (.un .F (.lab ⟨#[98]⟩)))
theorem envr19 : EnvOk glS Tryd.prog (R18.add 24 io0 cAlive15) := by
  refine envr18.add fun β args k r hr => ?_
  unfold cAlive15 at hr
  split at hr
  · refine ⟨_, _, hr, valid_of env_al mixed Tryd.func24 (by kernel_rfl) ?_⟩
    rw [T24.start]
    have e1 : absD exF = some exT := by kernel_rfl
    have e2 : (∃ f, ofD exF = some f ∧ bd none f ∧ isF f = false) := by
      obtain ⟨f, hf, ha⟩ := absD_out e1
      exact ⟨f, hf, ⟨sm_abs _ _ ha, trivial⟩, (isF_abs _ _ ha).trans rfl⟩
    obtain ⟨f, hf, hb, hi⟩ := e2
    unfold exF at e1 hf
    have ez : ofD (D.ag [D.str ⟨#[]⟩, D.str ⟨#[]⟩, D.sl 5 [], D.int .i64 0]) = some zeroF := rfl
    have e3 : formF zeroF = false := by kernel_rfl
    have e4 : (printF (exT.nf false).fm).toList = exP := by kernel_rfl
    have e5 : isF (exT.nf false).fm = true := (isF_abs _ _ (abs_fm _)).trans rfl
    unfold exP at e4
    have e6 : exT.sz ≤ 4096 ∧ (exT.nf false).sz ≤ 4096 := by decide
    have e7 : Fm.sm zeroF = true ∧ Fm.dep zeroF ≤ 1073741824 ∧ formF zeroF = false := ⟨rfl, by decide, e3⟩
    have e8 : bd none (exT.nf false).fm := ⟨fm_sm _, trivial⟩
    simp only [e1, hf, ez, if_pos e6, if_pos e7, ofD_pr, e4, if_pos e8, e5, if_pos hb, hi, if_true, Bool.not_false]
  · cases hr
theorem env_rt : EnvOk glS Tryd.prog RT' := by
  refine EnvOk.add (EnvOk.add envr19 fun β args k r hr => ?_) fun β args k r hr => ?_
  · refine envr18 β 27 _ k r ?_
    show cNormal args k = some r
    unfold cNormT at hr
    split at hr
    · split at hr
      · rename_i t ht
        unfold chkK at hr
        split at hr
        · rename_i hz
          split at hr
          · rename_i h0
            rw [norm_ok ht h0]; exact hr
          · rename_i h0
            rw [norm_long ht hz h0]; exact hr
        · cases hr
      · cases hr
    · cases hr
  · refine envr18 β 28 _ k r ?_
    show cSimple args k = some r
    unfold cSimpT at hr
    split at hr
    · split at hr
      · rename_i f hf
        split at hr
        · rename_i t ht
          unfold chkK at hr
          split at hr
          · rename_i h0
            rw [simp_okT hf ht h0.1 h0.2]; exact hr
          · cases hr
        · cases hr
      · cases hr
    · cases hr
theorem parse_abs {s : ByteArray} {d : Int} {op nm : ByteArray} {ks : List D} {p : Int} (h : parseP s d = .ok op nm ks p) : ∃ t, absD (.ag [.str op, .str nm, .sl 5 ks, .int .i64 p]) = some t ∧ t.sz ≤ s.size + 1 := by
  obtain ⟨f, t, h1, h2, h3, h4⟩ := parse_ok h
  exact ⟨t, absD_of h1 h2, h4⟩
theorem ev_twice (s : ByteArray) {γ : Type} (q : List TV → List TV → Option γ) : evalF Tryd.prog RT' Tryd.f6 [.d true 0 (.str s)] q = q [.d false 0 (.bool true)] [] := by
  rw [T6.start]
  by_cases hs : (s.size : Int) > 200
  · rw [if_pos (by simpa using hs)]
  · rw [if_neg (by simpa using hs)]
    cases hp : parseP s 64 with
    | no n => rfl
    | er p n => rfl
    | bad => exact (parse_bad _ _ hp).elim
    | ok op nm ks p =>
      obtain ⟨t, h1, h2⟩ := parse_abs hp
      have hz : t.sz ≤ 5000 := by omega
      simp only [h1, if_pos hz, absD_pr, ofD_pr]
      by_cases h3 : t.sz ≤ 4096 ∧ (t.nf false).sz ≤ 4096
      · rw [if_pos h3]
        have hok := Pr.nf_ok t false
        have hid := Pr.nf_id _ hok
        have hz2 : (t.nf false).sz ≤ 5000 := by omega
        have hsm : ∀ u : Pr, bd none u.fm := fun u => ⟨fm_sm u, trivial⟩
        have so := simp_ok _ hok
        have ss := simp_sz (t.nf false)
        have o1 : ((t.nf false).ok = true ∧ (t.nf false).sz ≤ 4096) ∧ sameF (t.nf false).fm (t.nf false).fm = true := ⟨⟨hok, h3.2⟩, same_refl _⟩
        have o2 : ((t.nf false).simp.ok = true ∧ (t.nf false).simp.sz ≤ 4096) ∧ sameF (t.nf false).simp.fm (t.nf false).simp.fm = true := ⟨⟨so, by omega⟩, same_refl _⟩
        rw [if_pos hz2, hid, if_pos ⟨h3.2, h3.2⟩, if_pos hz2]
        simp only [if_pos (hsm _), same_refl, Bool.not_true, Bool.false_eq_true, if_false, simp_simp, hok, so, h3.2, (show (t.nf false).simp.sz ≤ 4096 by omega), and_self, if_true]
        by_cases h4 : ((t.nf false).nf true).sz ≤ 4096
        · simp only [h4, true_and, if_true, Pr.nf_nf _ hok, h3.2, and_self, (show ((t.nf false).nf true).sz ≤ 5000 by omega), same_refl]
        · simp only [h4, and_false, if_false]
      · rw [if_neg h3]
end Go.Sd

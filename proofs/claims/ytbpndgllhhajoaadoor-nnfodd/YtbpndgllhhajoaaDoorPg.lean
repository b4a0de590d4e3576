/- The simpler form, and printing, purely. -/
import Derived.Test.YtbpndgllhhajoaaDoorPf
import Derived.Test.YtbpndgllhhajoaaDoorMd
set_option linter.unusedVariables false
set_option linter.unusedSimpArgs false
namespace Go.Sc
open Go Go.Cm

def Fm.op : Fm → ByteArray
  | .mk o _ _ _ => o
def bTrue : ByteArray := ⟨#[116, 114, 117, 101]⟩
def bFalse : ByteArray := ⟨#[102, 97, 108, 115, 101]⟩
def sameE (x a b : Fm) : Fm := match sameF a b with | true => a | false => x
def pairAnd (u z : ByteArray) (x a b : Fm) : Fm :=
  if (a.op.toList == u.toList) = true then b else if (b.op.toList == u.toList) = true then a
  else if (a.op.toList == z.toList) = true then nd z [] else if (b.op.toList == z.toList) = true then nd z [] else sameE x a b
def pairU (u : ByteArray) (x a b : Fm) : Fm :=
  if constB b.op = true then b else if (a.op.toList == u.toList) = true then b else sameE x a b
def pairF (x a b : Fm) : Fm :=
  if (x.op.toList == [124]) = true then pairAnd bFalse bTrue x a b
  else if (x.op.toList == [38]) = true then pairAnd bTrue bFalse x a b
  else if (x.op.toList == [85]) = true then pairU bFalse x a b
  else if (x.op.toList == [82]) = true then pairU bTrue x a b
  else sameE x a b
def endS (op nm : ByteArray) (ks : List Fm) : Fm :=
  match ks with
  | [k] => if (op.toList == [88]) = true then (if constB k.op = true then k else .mk op nm ks 0) else .mk op nm ks 0
  | [a, b] => pairF (.mk op nm ks 0) a b
  | _ => .mk op nm ks 0
mutual
def simpleF : Fm → Fm
  | .mk op nm ks _ => endS op nm (simpleL ks)
def simpleL : List Fm → List Fm
  | [] => []
  | f :: fs => simpleF f :: simpleL fs
end
def bindsN (op : ByteArray) : Int :=
  if (op.toList == [61, 62]) = true then 1 else if (op.toList == [124]) = true then 2 else if (op.toList == [38]) = true then 3
  else if (op.toList == [85]) = true then 4 else if (op.toList == [87]) = true then 4 else if (op.toList == [82]) = true then 4
  else if (op.toList == [33]) = true then 5 else if (op.toList == [88]) = true then 5 else if (op.toList == [70]) = true then 5 else if (op.toList == [71]) = true then 5 else 6
def parB (b : Int) (t : Int) (s : ByteArray) : ByteArray := if b < t then (⟨#[40]⟩ : ByteArray) ++ s ++ ⟨#[41]⟩ else s
def prB (op nm : ByteArray) (l r : Int → ByteArray) : ByteArray :=
  if bindsN op = 6 then (if (op.toList == [108, 97, 98, 101, 108]) = true then (⟨#[34]⟩ : ByteArray) ++ nm ++ ⟨#[34]⟩ else op)
  else if bindsN op = 5 then (if (op.toList == [33]) = true then (⟨#[33]⟩ : ByteArray) ++ l 5 else op ++ ⟨#[32]⟩ ++ l 5)
  else if bindsN op = 1 ∨ bindsN op = 4 then l (bindsN op + 1) ++ ⟨#[32]⟩ ++ op ++ ⟨#[32]⟩ ++ r (bindsN op)
  else l (bindsN op) ++ ⟨#[32]⟩ ++ op ++ ⟨#[32]⟩ ++ r (bindsN op + 1)
def printF : Fm → ByteArray
  | .mk op nm ks _ => match ks with
    | [] => prB op nm (fun _ => ⟨#[]⟩) (fun _ => ⟨#[]⟩)
    | [a] => prB op nm (fun t => parB (bindsN a.op) t (printF a)) (fun _ => ⟨#[]⟩)
    | a :: b :: _ => prB op nm (fun t => parB (bindsN a.op) t (printF a)) (fun t => parB (bindsN b.op) t (printF b))
def kidP (f : Fm) (i t : Int) : ByteArray :=
  match f with
  | .mk _ _ ks _ => match ks[i.toNat]? with
    | some g => parB (bindsN g.op) t (printF g)
    | none => ⟨#[]⟩
end Go.Sc

namespace Go.Sc
open Go Go.Cm

theorem sm_nd (z : ByteArray) : (nd z []).sm = true := rfl
theorem sm_sameE {x a b : Fm} (hx : x.sm = true) (ha : a.sm = true) : (sameE x a b).sm = true := by
  unfold sameE; split <;> assumption
theorem sm_pair {x a b : Fm} (hx : x.sm = true) (ha : a.sm = true) (hb : b.sm = true) : (pairF x a b).sm = true := by
  have e := sm_sameE (x := x) (a := a) (b := b) hx ha
  unfold pairF pairAnd pairU
  repeat' split
  all_goals first | exact hb | exact ha | exact sm_nd _ | exact e
theorem sm_mk {op nm : ByteArray} {ks : List Fm} {p : Int} (h1 : ks.length ≤ 4096) (h2 : Fm.smL ks = true) : (Fm.mk op nm ks p).sm = true := by
  simp only [Fm.sm, h2, Bool.and_true, Nat.ble_eq]; exact h1
theorem sm_endS {op nm : ByteArray} {ks : List Fm} (h1 : ks.length ≤ 4096) (h2 : Fm.smL ks = true) : (endS op nm ks).sm = true := by
  have hm := sm_mk (op := op) (nm := nm) (p := 0) h1 h2
  unfold endS
  split
  · rename_i k
    have hk := sm_mem h2 (show k ∈ [k] from .head _)
    split
    · split
      · exact hk
      · exact hm
    · exact hm
  · rename_i a b
    exact sm_pair hm (sm_mem h2 (.head _)) (sm_mem h2 (.tail _ (.head _)))
  · exact hm
theorem simpleL_len : ∀ fs : List Fm, (simpleL fs).length = fs.length
  | [] => rfl
  | f :: fs => by simp only [simpleL, List.length_cons, simpleL_len fs]
mutual
theorem sm_simple : ∀ f : Fm, f.sm = true → (simpleF f).sm = true
  | .mk op nm ks p, h => by
    simp only [Fm.sm, Bool.and_eq_true, Nat.ble_eq] at h
    simp only [simpleF]
    exact sm_endS (by rw [simpleL_len]; exact h.1) (sm_simpleL ks h.2)
theorem sm_simpleL : ∀ fs : List Fm, Fm.smL fs = true → Fm.smL (simpleL fs) = true
  | [], _ => rfl
  | f :: fs, h => by
    simp only [Fm.smL, Bool.and_eq_true] at h
    simp only [simpleL, Fm.smL, sm_simple f h.1, sm_simpleL fs h.2, Bool.and_true]
end
theorem dL_append (us vs : List Fm) : Fm.dL (us ++ vs) = Fm.dL us ++ Fm.dL vs := by simp only [dL_eq, List.map_append]
end Go.Sc

namespace Go.Sc
open Go Go.Cm
def dEl : Option Fm → Int → ByteArray
  | some g, t => parB (bindsN g.op) t (printF g)
  | none, _ => ⟨#[]⟩
theorem kidP_eq (op nm : ByteArray) (ks : List Fm) (p i t : Int) : kidP (.mk op nm ks p) i t = dEl ks[i.toNat]? t := by
  unfold kidP dEl
  simp only
  split <;> rename_i h <;> simp only [h]
theorem print_eq (op nm : ByteArray) (ks : List Fm) (p : Int) : printF (.mk op nm ks p) = prB op nm (kidP (.mk op nm ks p) 0) (kidP (.mk op nm ks p) 1) := by
  have h : kidP (.mk op nm ks p) = fun i t => dEl ks[i.toNat]? t := by funext i t; exact kidP_eq ..
  rw [h]
  match ks with
  | [] => rfl
  | [a] => unfold printF; rfl
  | a :: b :: r => unfold printF; rfl
theorem binds_le (op : ByteArray) : 1 ≤ bindsN op ∧ bindsN op ≤ 6 := by
  unfold bindsN
  have i : ∀ (c : Prop) [Decidable c] (a b : Int), (1 ≤ a ∧ a ≤ 6) → (1 ≤ b ∧ b ≤ 6) → 1 ≤ (if c then a else b) ∧ (if c then a else b) ≤ 6 := fun c _ a b h k => by split <;> assumption
  repeat' apply i
  all_goals omega
end Go.Sc

namespace Go.Sd
open Go Go.Cm Go.Proofs Go.Sc
set_option maxRecDepth 100000
def ansF {β : Type} (t : Bool) (k : List TV → List TV → Option β) : Fm → Option β
  | .mk o n ks p => k [.d t 5 (fmD o n (Fm.dL ks) p)] []
def cPair {β : Type} (args : List TV) (k : List TV → List TV → Option β) : Option β :=
  match args with
  | [.d true 5 x, .d true 5 y, .d true 5 z] => match ofD x with
    | some f => match ofD y with
      | some a => match ofD z with
        | some b => chkK (bd none a) (ansF true k (pairF f a b))
        | none => none
      | none => none
    | none => none
  | _ => none
def R13 : Env := R12.add 90 io0 cPair
def cSimp {β : Type} (b : Option Nat) (args : List TV) (k : List TV → List TV → Option β) : Option β :=
  match args with
  | [.d true 5 x] => match ofD x with
    | some f => chkK (bd b f) (ansF true k (simpleF f))
    | none => none
  | _ => none
def R14 (b : Option Nat) : Env := R13.add 62 io0 (cSimp b)
def cBinds {β : Type} (args : List TV) (k : List TV → List TV → Option β) : Option β :=
  match args with
  | [.d true 0 (.str op)] => k [.d false 0 (.int .i64 (bindsN op))] []
  | _ => none
def R15 : Env := (R14 none).add 75 io0 cBinds
def cPrint {β : Type} (b : Option Nat) (args : List TV) (k : List TV → List TV → Option β) : Option β :=
  match args with
  | [.d true 5 x] => match ofD x with
    | some f => chkK (ltB b (2 * f.dep + 1) ∧ (printF f).size ≤ 9223372036854775807) (k [.d false 0 (.str (printF f))] [])
    | none => none
  | _ => none
def cKid {β : Type} (b : Option Nat) (args : List TV) (k : List TV → List TV → Option β) : Option β :=
  match args with
  | [.d true 5 x, .d true 0 (.int .i64 i), .d true 0 (.int .i64 t)] => match ofD x with
    | some f => chkK (0 ≤ i ∧ ltB b (2 * f.dep) ∧ (kidP f i t).size ≤ 9223372036854775807) (k [.d false 0 (.str (kidP f i t))] [])
    | none => none
  | _ => none
def R16 (b : Option Nat) : Env := (R15.add 53 io0 (cPrint b)).add 76 io0 (cKid b)
end Go.Sd

namespace Go.Sd
open Go Go.Cm Go.Proofs Go.Sc
set_option maxRecDepth 100000
namespace T90
/- rounds of the search: 1 -/
noncomputable def X : Fx := ⟨Tryd.prog, R12, 64, 3⟩
theorem start {β : Type} (op : ByteArray) (nm : ByteArray) (ks : List D) (p : Int) (o2 : ByteArray) (n2 : ByteArray) (k2 : List D) (p2 : Int) (o3 : ByteArray) (n3 : ByteArray) (k3 : List D) (p3 : Int) (k : List TV → List TV → Option β) : evalF Tryd.prog R12 Tryd.f90
   [.d true 5 (.ag [D.str op, D.str nm, D.sl 5 ks, D.int .i64 p]), .d true 5 (.ag [D.str o2, D.str n2, D.sl 5 k2, D.int .i64 p2]),
    .d true 5 (.ag [D.str o3, D.str n3, D.sl 5 k3, D.int .i64 p3])]
   k =
   if (ByteArray.toList op == [124]) = true then
   if (ByteArray.toList o2 == [102, 97, 108, 115, 101]) = true then k [.d true 5 (.ag [D.str o3, D.str n3, D.sl 5 k3, D.int .i64 p3])] []
   else
    if (ByteArray.toList o3 == [102, 97, 108, 115, 101]) = true then k [.d true 5 (.ag [D.str o2, D.str n2, D.sl 5 k2, D.int .i64 p2])] []
    else
     if (ByteArray.toList o2 == [116, 114, 117, 101]) = true then
      k [.d false 5 (.ag [D.str (ByteArray.mk #[116, 114, 117, 101]), D.str (ByteArray.mk #[]), D.sl 5 [], D.int .i64 0])] []
     else
      if (ByteArray.toList o3 == [116, 114, 117, 101]) = true then
       k [.d false 5 (.ag [D.str (ByteArray.mk #[116, 114, 117, 101]), D.str (ByteArray.mk #[]), D.sl 5 [], D.int .i64 0])] []
      else
       match ofD (.ag [D.str o2, D.str n2, D.sl 5 k2, D.int .i64 p2]) with
       | some f18 =>
        match ofD (.ag [D.str o3, D.str n3, D.sl 5 k3, D.int .i64 p3]) with
        | some g19 =>
         if bd none f18 then
          if sameF f18 g19 = true then k [.d true 5 (.ag [D.str o2, D.str n2, D.sl 5 k2, D.int .i64 p2])] []
          else k [.d true 5 (.ag [D.str op, D.str nm, D.sl 5 ks, D.int .i64 p])] []
         else none
        | none => none
       | none => none
  else
   if (ByteArray.toList op == [38]) = true then
    if (ByteArray.toList o2 == [116, 114, 117, 101]) = true then k [.d true 5 (.ag [D.str o3, D.str n3, D.sl 5 k3, D.int .i64 p3])] []
    else
     if (ByteArray.toList o3 == [116, 114, 117, 101]) = true then k [.d true 5 (.ag [D.str o2, D.str n2, D.sl 5 k2, D.int .i64 p2])] []
     else
      if (ByteArray.toList o2 == [102, 97, 108, 115, 101]) = true then
       k [.d false 5 (.ag [D.str (ByteArray.mk #[102, 97, 108, 115, 101]), D.str (ByteArray.mk #[]), D.sl 5 [], D.int .i64 0])] []
      else
       if (ByteArray.toList o3 == [102, 97, 108, 115, 101]) = true then
        k [.d false 5 (.ag [D.str (ByteArray.mk #[102, 97, 108, 115, 101]), D.str (ByteArray.mk #[]), D.sl 5 [], D.int .i64 0])] []
       else
        match ofD (.ag [D.str o2, D.str n2, D.sl 5 k2, D.int .i64 p2]) with
        | some f37 =>
         match ofD (.ag [D.str o3, D.str n3, D.sl 5 k3, D.int .i64 p3]) with
         | some g38 =>
          if bd none f37 then
           if sameF f37 g38 = true then k [.d true 5 (.ag [D.str o2, D.str n2, D.sl 5 k2, D.int .i64 p2])] []
           else k [.d true 5 (.ag [D.str op, D.str nm, D.sl 5 ks, D.int .i64 p])] []
          else none
         | none => none
        | none => none
   else
    if (ByteArray.toList op == [85]) = true then
     if constB o3 = true then k [.d true 5 (.ag [D.str o3, D.str n3, D.sl 5 k3, D.int .i64 p3])] []
     else
      if (ByteArray.toList o2 == [102, 97, 108, 115, 101]) = true then k [.d true 5 (.ag [D.str o3, D.str n3, D.sl 5 k3, D.int .i64 p3])] []
      else
       match ofD (.ag [D.str o2, D.str n2, D.sl 5 k2, D.int .i64 p2]) with
       | some f51 =>
        match ofD (.ag [D.str o3, D.str n3, D.sl 5 k3, D.int .i64 p3]) with
        | some g52 =>
         if bd none f51 then
          if sameF f51 g52 = true then k [.d true 5 (.ag [D.str o2, D.str n2, D.sl 5 k2, D.int .i64 p2])] []
          else k [.d true 5 (.ag [D.str op, D.str nm, D.sl 5 ks, D.int .i64 p])] []
         else none
        | none => none
       | none => none
    else
     if (ByteArray.toList op == [82]) = true then
      if constB o3 = true then k [.d true 5 (.ag [D.str o3, D.str n3, D.sl 5 k3, D.int .i64 p3])] []
      else
       if (ByteArray.toList o2 == [116, 114, 117, 101]) = true then k [.d true 5 (.ag [D.str o3, D.str n3, D.sl 5 k3, D.int .i64 p3])] []
       else
        match ofD (.ag [D.str o2, D.str n2, D.sl 5 k2, D.int .i64 p2]) with
        | some f64 =>
         match ofD (.ag [D.str o3, D.str n3, D.sl 5 k3, D.int .i64 p3]) with
         | some g65 =>
          if bd none f64 then
           if sameF f64 g65 = true then k [.d true 5 (.ag [D.str o2, D.str n2, D.sl 5 k2, D.int .i64 p2])] []
           else k [.d true 5 (.ag [D.str op, D.str nm, D.sl 5 ks, D.int .i64 p])] []
          else none
         | none => none
        | none => none
     else
      match ofD (.ag [D.str o2, D.str n2, D.sl 5 k2, D.int .i64 p2]) with
      | some f70 =>
       match ofD (.ag [D.str o3, D.str n3, D.sl 5 k3, D.int .i64 p3]) with
       | some g71 =>
        if bd none f70 then
         if sameF f70 g71 = true then k [.d true 5 (.ag [D.str o2, D.str n2, D.sl 5 k2, D.int .i64 p2])] []
         else k [.d true 5 (.ag [D.str op, D.str nm, D.sl 5 ks, D.int .i64 p])] []
        else none
       | none => none
      | none => none := by kernel_rfl
end T90


end Go.Sd

namespace Go.Sd
open Go Go.Cm Go.Proofs Go.Sc
set_option maxRecDepth 100000
namespace T62
  section
  variable (b : Option Nat)
/- rounds of the search: 3 -/
noncomputable def X : Fx := ⟨Tryd.prog, R14 b, 4, 1⟩
def s0 (op : ByteArray) (nm : ByteArray) (ks : List D) (x67 : Int) (x68 : List D) (x69 : Bool) : S := ⟨Tm.mk 58
   [(2, .rp 3 0), (3, .rp 4 0), (12, .d true 0 (.sl 5 ks)), (13, .d false 0 (.int .i64 (↑(List.length ks) : Int))),
    (14, .d false 0 (.int .i64 x67))], [(3, true, [.d false 0 (.str (ByteArray.mk #[])), .d false 0 (.str (ByteArray.mk #[])), .own false 5 [], .d false 0 (.int .i64 0)]),
   (4, true, [.d true 0 (.str op), .d true 0 (.str nm), .own x69 5 x68, .d false 0 (.int .i64 0)])]⟩
def e0x0 (op : ByteArray) (nm : ByteArray) (x140 : List D) (x141 : Bool) : S := ⟨Tm.mk 58 [(2, .rp 3 0), (3, .rp 4 0)], [(3, true, [.d false 0 (.str (ByteArray.mk #[])), .d false 0 (.str (ByteArray.mk #[])), .own false 5 [], .d false 0 (.int .i64 0)]),
   (4, true, [.d true 0 (.str op), .d true 0 (.str nm), .own x141 5 x140, .d false 0 (.int .i64 0)])]⟩
noncomputable abbrev L0 : S → Option (S ⊕ (Ex × S)) := roundK (X b) [(0, 12)] (sub [1, 1, 0, 1, 0, 0] (body Tryd.f62))
theorem start {β : Type} (op : ByteArray) (nm : ByteArray) (ks : List D) (p : Int) (k : List TV → List TV → Option β) : evalF Tryd.prog (R14 b) Tryd.f62 [.d true 5 (.ag [D.str op, D.str nm, D.sl 5 ks, D.int .i64 p])] k =
   goLp (X b) [(0, 12)] (sub [1, 1, 0, 1, 0, 0] (body Tryd.f62))
   [Kf.block 0 12, Kf.seq [] (sub [1, 1, 1] (body Tryd.f62)) 4]
   (finK Tryd.prog Tryd.f62 [.d true 5 (.ag [D.str op, D.str nm, D.sl 5 ks, D.int .i64 p])] k) (s0 op nm ks (0 : Int) [] false) := by kernel_rfl
theorem round0_0 (op : ByteArray) (nm : ByteArray) (ks : List D) (x64 : Int) (x65 : List D) (x66 : Bool) : roundK (X b) [(0, 12)] (sub [1, 1, 0, 1, 0, 0] (body Tryd.f62)) (s0 op nm ks x64 x65 x66) =
   if decide (x64 < (↑(List.length ks) : Int)) = true then
   if (0 : Int) ≤ x64 then
    match ks[Int.toNat x64]? with
    | some x236 =>
     match x236 with
     | D.ag xs237 =>
      match xs237 with
      | x238 :: r239 =>
       match x238 with
       | D.str s240 =>
        match r239 with
        | x241 :: r242 =>
         match x241 with
         | D.str s243 =>
          match r242 with
          | x244 :: r245 =>
           match x244 with
           | D.sl sh246 xs247 =>
            if sh246 = 5 then
             match r245 with
             | x248 :: r249 =>
              match x248 with
              | D.int j250 m251 =>
               if j250 = IntKind.i64 then
                match r249 with
                | [] =>
                 match ofD (.ag [D.str s240, D.str s243, D.sl 5 xs247, D.int .i64 m251]) with
                 | some f254 =>
                  if bd b f254 then
                   match simpleF f254 with
                   | Fm.mk o255 n256 ks257 p258 =>
                    if List.length x65 + 1 ≤ 34359738368 then
                     some (Sum.inl (s0 op nm ks (IntKind.wrap IntKind.i64 (x64 + (1 : Int))) (x65 ++ [fmD o255 n256 (Fm.dL ks257) p258]) (x66 || true)))
                    else none
                  else none
                 | none => none
                | x => none
               else none
              | x => none
             | [] => none
            else none
           | x => none
          | [] => none
         | x => none
        | [] => none
       | x => none
      | [] => none
     | x => none
    | none => none
   else none
  else some (Sum.inr (Ex.exit 0, e0x0 op nm x65 x66)) := by kernel_rfl
theorem behind0x0 {β : Type} (ks : List D) (p : Int) (op : ByteArray) (nm : ByteArray) (x140 : List D) (x141 : Bool) (k : List TV → List TV → Option β) : applyK (X b) (finK Tryd.prog Tryd.f62 [.d true 5 (.ag [D.str op, D.str nm, D.sl 5 ks, D.int .i64 p])] k)
   [Kf.block 0 12, Kf.seq [] (sub [1, 1, 1] (body Tryd.f62)) 4] (Ex.exit 0) (e0x0 op nm x140 x141) =
   if ((↑(List.length x140) : Int) == (1 : Int)) = true then
   if (ByteArray.toList op == [88]) = true then
    if (0 : Int) ≤ (0 : Int) ∧ (0 : Int) < (↑(List.length x140) : Int) then
     match x140[0]? with
     | some x298 =>
      match x298 with
      | D.ag xs299 =>
       match xs299 with
       | x300 :: r301 =>
        match x300 with
        | D.str s302 =>
         match r301 with
         | x303 :: r304 =>
          match x303 with
          | D.str s305 =>
           match r304 with
           | x306 :: r307 =>
            match x306 with
            | D.sl sh308 xs309 =>
             if sh308 = 5 then
              match r307 with
              | x310 :: r311 =>
               match x310 with
               | D.int j312 m313 =>
                if j312 = IntKind.i64 then
                 match r311 with
                 | [] =>
                  if constB s302 = true then
                   if (0 : Int) ≤ (0 : Int) ∧ (0 : Int) < (↑(List.length x140) : Int) then
                    match x140[0]? with
                    | some x317 =>
                     match x317 with
                     | D.ag xs318 =>
                      match xs318 with
                      | x319 :: r320 =>
                       match x319 with
                       | D.str s321 =>
                        match r320 with
                        | x322 :: r323 =>
                         match x322 with
                         | D.str s324 =>
                          match r323 with
                          | x325 :: r326 =>
                           match x325 with
                           | D.sl sh327 xs328 =>
                            if sh327 = 5 then
                             match r326 with
                             | x329 :: r330 =>
                              match x329 with
                              | D.int j331 m332 =>
                               if j331 = IntKind.i64 then
                                match r330 with
                                | [] => k [.d (x141 || (x141 || (x141 || (x141 || false)))) 5 (.ag [D.str s321, D.str s324, D.sl 5 xs328, D.int .i64 m332])] []
                                | x => none
                               else none
                              | x => none
                             | [] => none
                            else none
                           | x => none
                          | [] => none
                         | x => none
                        | [] => none
                       | x => none
                      | [] => none
                     | x => none
                    | none => none
                   else none
                  else k [.d true 5 (.ag [D.str op, D.str nm, D.sl 5 x140, D.int .i64 0])] []
                 | x => none
                else none
               | x => none
              | [] => none
             else none
            | x => none
           | [] => none
          | x => none
         | [] => none
        | x => none
       | [] => none
      | x => none
     | none => none
    else none
   else k [.d true 5 (.ag [D.str op, D.str nm, D.sl 5 x140, D.int .i64 0])] []
  else
   if ((↑(List.length x140) : Int) == (2 : Int)) = true then
    if (0 : Int) ≤ (1 : Int) ∧ (1 : Int) < (↑(List.length x140) : Int) then
     match x140[1]? with
     | some x340 =>
      match x340 with
      | D.ag xs341 =>
       match xs341 with
       | x342 :: r343 =>
        match x342 with
        | D.str s344 =>
         match r343 with
         | x345 :: r346 =>
          match x345 with
          | D.str s347 =>
           match r346 with
           | x348 :: r349 =>
            match x348 with
            | D.sl sh350 xs351 =>
             if sh350 = 5 then
              match r349 with
              | x352 :: r353 =>
               match x352 with
               | D.int j354 m355 =>
                if j354 = IntKind.i64 then
                 match r353 with
                 | [] =>
                  if (0 : Int) ≤ (0 : Int) ∧ (0 : Int) < (↑(List.length x140) : Int) then
                   match x140[0]? with
                   | some x357 =>
                    match x357 with
                    | D.ag xs358 =>
                     match xs358 with
                     | x359 :: r360 =>
                      match x359 with
                      | D.str s361 =>
                       match r360 with
                       | x362 :: r363 =>
                        match x362 with
                        | D.str s364 =>
                         match r363 with
                         | x365 :: r366 =>
                          match x365 with
                          | D.sl sh367 xs368 =>
                           if sh367 = 5 then
                            match r366 with
                            | x369 :: r370 =>
                             match x369 with
                             | D.int j371 m372 =>
                              if j371 = IntKind.i64 then
                               match r370 with
                               | [] =>
                                match ofD (.ag [D.str op, D.str nm, D.sl 5 x140, D.int .i64 0]) with
                                | some f374 =>
                                 match ofD (.ag [D.str s361, D.str s364, D.sl 5 xs368, D.int .i64 m372]) with
                                 | some a375 =>
                                  match ofD (.ag [D.str s344, D.str s347, D.sl 5 xs351, D.int .i64 m355]) with
                                  | some b376 =>
                                   if bd none a375 then
                                    match pairF f374 a375 b376 with
                                    | Fm.mk o377 n378 ks379 p380 => k [.d true 5 (.ag [D.str o377, D.str n378, D.sl 5 (Fm.dL ks379), D.int .i64 p380])] []
                                   else none
                                  | none => none
                                 | none => none
                                | none => none
                               | x => none
                              else none
                             | x => none
                            | [] => none
                           else none
                          | x => none
                         | [] => none
                        | x => none
                       | [] => none
                      | x => none
                     | [] => none
                    | x => none
                   | none => none
                  else none
                 | x => none
                else none
               | x => none
              | [] => none
             else none
            | x => none
           | [] => none
          | x => none
         | [] => none
        | x => none
       | [] => none
      | x => none
     | none => none
    else none
   else k [.d true 5 (.ag [D.str op, D.str nm, D.sl 5 x140, D.int .i64 0])] [] := by kernel_rfl
end
end T62


end Go.Sd

namespace Go.Sd
open Go Go.Cm Go.Proofs Go.Sc
set_option maxRecDepth 100000
namespace T75
/- rounds of the search: 1 -/
noncomputable def X : Fx := ⟨Tryd.prog, R14 none, 4, 1⟩
theorem start {β : Type} (op : ByteArray) (k : List TV → List TV → Option β) : evalF Tryd.prog (R14 none) Tryd.f75 [.d true 0 (.str op)] k =
   if (ByteArray.toList op == [61, 62]) = true then k [.d false 0 (.int .i64 1)] []
  else
   if (ByteArray.toList op == [124]) = true then k [.d false 0 (.int .i64 2)] []
   else
    if (ByteArray.toList op == [38]) = true then k [.d false 0 (.int .i64 3)] []
    else
     if (ByteArray.toList op == [85]) = true then
      if (ByteArray.toList op == [85]) = true then k [.d false 0 (.int .i64 4)] []
      else
       if (ByteArray.toList op == [33]) = true then k [.d false 0 (.int .i64 5)] []
       else
        if (ByteArray.toList op == [88]) = true then
         if (ByteArray.toList op == [88]) = true then k [.d false 0 (.int .i64 5)] [] else k [.d false 0 (.int .i64 6)] []
        else
         if (ByteArray.toList op == [70]) = true then
          if (ByteArray.toList op == [70]) = true then k [.d false 0 (.int .i64 5)] [] else k [.d false 0 (.int .i64 6)] []
         else if (ByteArray.toList op == [71]) = true then k [.d false 0 (.int .i64 5)] [] else k [.d false 0 (.int .i64 6)] []
     else
      if (ByteArray.toList op == [87]) = true then
       if (ByteArray.toList op == [87]) = true then k [.d false 0 (.int .i64 4)] []
       else
        if (ByteArray.toList op == [33]) = true then k [.d false 0 (.int .i64 5)] []
        else
         if (ByteArray.toList op == [88]) = true then
          if (ByteArray.toList op == [88]) = true then k [.d false 0 (.int .i64 5)] [] else k [.d false 0 (.int .i64 6)] []
         else
          if (ByteArray.toList op == [70]) = true then
           if (ByteArray.toList op == [70]) = true then k [.d false 0 (.int .i64 5)] [] else k [.d false 0 (.int .i64 6)] []
          else if (ByteArray.toList op == [71]) = true then k [.d false 0 (.int .i64 5)] [] else k [.d false 0 (.int .i64 6)] []
      else
       if (ByteArray.toList op == [82]) = true then k [.d false 0 (.int .i64 4)] []
       else
        if (ByteArray.toList op == [33]) = true then k [.d false 0 (.int .i64 5)] []
        else
         if (ByteArray.toList op == [88]) = true then
          if (ByteArray.toList op == [88]) = true then k [.d false 0 (.int .i64 5)] [] else k [.d false 0 (.int .i64 6)] []
         else
          if (ByteArray.toList op == [70]) = true then
           if (ByteArray.toList op == [70]) = true then k [.d false 0 (.int .i64 5)] [] else k [.d false 0 (.int .i64 6)] []
          else if (ByteArray.toList op == [71]) = true then k [.d false 0 (.int .i64 5)] [] else k [.d false 0 (.int .i64 6)] [] := by kernel_rfl
end T75


end Go.Sd

namespace Go.Sd
open Go Go.Cm Go.Proofs Go.Sc
set_option maxRecDepth 100000
namespace T53
  section
  variable (b : Option Nat)
/- rounds of the search: 1 -/
noncomputable def X : Fx := ⟨Tryd.prog, R16 b, 4, 1⟩
theorem start {β : Type} (op : ByteArray) (nm : ByteArray) (ks : List D) (p : Int) (k : List TV → List TV → Option β) : evalF Tryd.prog (R16 b) Tryd.f53 [.d true 5 (.ag [D.str op, D.str nm, D.sl 5 ks, D.int .i64 p])] k =
   if (bindsN op == (6 : Int)) = true then
   if (ByteArray.toList op == [108, 97, 98, 101, 108]) = true then
    if 1 + ByteArray.size nm ≤ 9223372036854775807 then
     if ByteArray.size (ByteArray.mk #[34] ++ nm) + 1 ≤ 9223372036854775807 then k [.d false 0 (.str (ByteArray.mk #[34] ++ nm ++ ByteArray.mk #[34]))] []
     else none
    else none
   else k [.d false 0 (.str op)] []
  else
   if (bindsN op == (5 : Int)) = true then
    if (ByteArray.toList op == [33]) = true then
     match ofD (.ag [D.str op, D.str nm, D.sl 5 ks, D.int .i64 p]) with
     | some f15 =>
      if (0 : Int) ≤ (0 : Int) ∧ ltB b (2 * Fm.dep f15) ∧ ByteArray.size (kidP f15 (0 : Int) (5 : Int)) ≤ 9223372036854775807 then
       if 1 + ByteArray.size (kidP f15 (0 : Int) (5 : Int)) ≤ 9223372036854775807 then k [.d false 0 (.str (ByteArray.mk #[33] ++ kidP f15 (0 : Int) (5 : Int)))] [] else none
      else none
     | none => none
    else
     if ByteArray.size op + 1 ≤ 9223372036854775807 then
      match ofD (.ag [D.str op, D.str nm, D.sl 5 ks, D.int .i64 p]) with
      | some f17 =>
       if (0 : Int) ≤ (0 : Int) ∧ ltB b (2 * Fm.dep f17) ∧ ByteArray.size (kidP f17 (0 : Int) (5 : Int)) ≤ 9223372036854775807 then
        if ByteArray.size (op ++ ByteArray.mk #[32]) + ByteArray.size (kidP f17 (0 : Int) (5 : Int)) ≤ 9223372036854775807 then
         k [.d false 0 (.str (op ++ ByteArray.mk #[32] ++ kidP f17 (0 : Int) (5 : Int)))] []
        else none
       else none
      | none => none
     else none
   else
    if (bindsN op == (1 : Int)) = true then
     if (bindsN op == (1 : Int)) = true then
      match ofD (.ag [D.str op, D.str nm, D.sl 5 ks, D.int .i64 p]) with
      | some f23 =>
       if (0 : Int) ≤ (0 : Int) ∧ ltB b (2 * Fm.dep f23) ∧ ByteArray.size (kidP f23 (0 : Int) (IntKind.wrap IntKind.i64 (bindsN op + (1 : Int)))) ≤ 9223372036854775807 then
        if ByteArray.size (kidP f23 (0 : Int) (IntKind.wrap IntKind.i64 (bindsN op + (1 : Int)))) + 1 ≤ 9223372036854775807 then
         if ByteArray.size (kidP f23 (0 : Int) (IntKind.wrap IntKind.i64 (bindsN op + (1 : Int))) ++ ByteArray.mk #[32]) + ByteArray.size op ≤ 9223372036854775807 then
          if ByteArray.size (kidP f23 (0 : Int) (IntKind.wrap IntKind.i64 (bindsN op + (1 : Int))) ++ ByteArray.mk #[32] ++ op) + 1 ≤ 9223372036854775807 then
           match ofD (.ag [D.str op, D.str nm, D.sl 5 ks, D.int .i64 p]) with
           | some f24 =>
            if (0 : Int) ≤ (1 : Int) ∧ ltB b (2 * Fm.dep f24) ∧ ByteArray.size (kidP f24 (1 : Int) (bindsN op)) ≤ 9223372036854775807 then
             if
               ByteArray.size (kidP f23 (0 : Int) (IntKind.wrap IntKind.i64 (bindsN op + (1 : Int))) ++ ByteArray.mk #[32] ++ op ++ ByteArray.mk #[32]) +
                 ByteArray.size (kidP f24 (1 : Int) (bindsN op)) ≤
                9223372036854775807 then
              k
               [.d false 0
                 (.str (kidP f23 (0 : Int) (IntKind.wrap IntKind.i64 (bindsN op + (1 : Int))) ++ ByteArray.mk #[32] ++ op ++ ByteArray.mk #[32] ++ kidP f24 (1 : Int) (bindsN op)))]
               []
             else none
            else none
           | none => none
          else none
         else none
        else none
       else none
      | none => none
     else
      match ofD (.ag [D.str op, D.str nm, D.sl 5 ks, D.int .i64 p]) with
      | some f26 =>
       if (0 : Int) ≤ (0 : Int) ∧ ltB b (2 * Fm.dep f26) ∧ ByteArray.size (kidP f26 (0 : Int) (bindsN op)) ≤ 9223372036854775807 then
        if ByteArray.size (kidP f26 (0 : Int) (bindsN op)) + 1 ≤ 9223372036854775807 then
         if ByteArray.size (kidP f26 (0 : Int) (bindsN op) ++ ByteArray.mk #[32]) + ByteArray.size op ≤ 9223372036854775807 then
          if ByteArray.size (kidP f26 (0 : Int) (bindsN op) ++ ByteArray.mk #[32] ++ op) + 1 ≤ 9223372036854775807 then
           match ofD (.ag [D.str op, D.str nm, D.sl 5 ks, D.int .i64 p]) with
           | some f27 =>
            if (0 : Int) ≤ (1 : Int) ∧ ltB b (2 * Fm.dep f27) ∧ ByteArray.size (kidP f27 (1 : Int) (IntKind.wrap IntKind.i64 (bindsN op + (1 : Int)))) ≤ 9223372036854775807 then
             if
               ByteArray.size (kidP f26 (0 : Int) (bindsN op) ++ ByteArray.mk #[32] ++ op ++ ByteArray.mk #[32]) +
                 ByteArray.size (kidP f27 (1 : Int) (IntKind.wrap IntKind.i64 (bindsN op + (1 : Int)))) ≤
                9223372036854775807 then
              k
               [.d false 0
                 (.str (kidP f26 (0 : Int) (bindsN op) ++ ByteArray.mk #[32] ++ op ++ ByteArray.mk #[32] ++ kidP f27 (1 : Int) (IntKind.wrap IntKind.i64 (bindsN op + (1 : Int)))))]
               []
             else none
            else none
           | none => none
          else none
         else none
        else none
       else none
      | none => none
    else
     if (bindsN op == (4 : Int)) = true then
      match ofD (.ag [D.str op, D.str nm, D.sl 5 ks, D.int .i64 p]) with
      | some f32 =>
       if (0 : Int) ≤ (0 : Int) ∧ ltB b (2 * Fm.dep f32) ∧ ByteArray.size (kidP f32 (0 : Int) (IntKind.wrap IntKind.i64 (bindsN op + (1 : Int)))) ≤ 9223372036854775807 then
        if ByteArray.size (kidP f32 (0 : Int) (IntKind.wrap IntKind.i64 (bindsN op + (1 : Int)))) + 1 ≤ 9223372036854775807 then
         if ByteArray.size (kidP f32 (0 : Int) (IntKind.wrap IntKind.i64 (bindsN op + (1 : Int))) ++ ByteArray.mk #[32]) + ByteArray.size op ≤ 9223372036854775807 then
          if ByteArray.size (kidP f32 (0 : Int) (IntKind.wrap IntKind.i64 (bindsN op + (1 : Int))) ++ ByteArray.mk #[32] ++ op) + 1 ≤ 9223372036854775807 then
           match ofD (.ag [D.str op, D.str nm, D.sl 5 ks, D.int .i64 p]) with
           | some f33 =>
            if (0 : Int) ≤ (1 : Int) ∧ ltB b (2 * Fm.dep f33) ∧ ByteArray.size (kidP f33 (1 : Int) (bindsN op)) ≤ 9223372036854775807 then
             if
               ByteArray.size (kidP f32 (0 : Int) (IntKind.wrap IntKind.i64 (bindsN op + (1 : Int))) ++ ByteArray.mk #[32] ++ op ++ ByteArray.mk #[32]) +
                 ByteArray.size (kidP f33 (1 : Int) (bindsN op)) ≤
                9223372036854775807 then
              k
               [.d false 0
                 (.str (kidP f32 (0 : Int) (IntKind.wrap IntKind.i64 (bindsN op + (1 : Int))) ++ ByteArray.mk #[32] ++ op ++ ByteArray.mk #[32] ++ kidP f33 (1 : Int) (bindsN op)))]
               []
             else none
            else none
           | none => none
          else none
         else none
        else none
       else none
      | none => none
     else
      match ofD (.ag [D.str op, D.str nm, D.sl 5 ks, D.int .i64 p]) with
      | some f35 =>
       if (0 : Int) ≤ (0 : Int) ∧ ltB b (2 * Fm.dep f35) ∧ ByteArray.size (kidP f35 (0 : Int) (bindsN op)) ≤ 9223372036854775807 then
        if ByteArray.size (kidP f35 (0 : Int) (bindsN op)) + 1 ≤ 9223372036854775807 then
         if ByteArray.size (kidP f35 (0 : Int) (bindsN op) ++ ByteArray.mk #[32]) + ByteArray.size op ≤ 9223372036854775807 then
          if ByteArray.size (kidP f35 (0 : Int) (bindsN op) ++ ByteArray.mk #[32] ++ op) + 1 ≤ 9223372036854775807 then
           match ofD (.ag [D.str op, D.str nm, D.sl 5 ks, D.int .i64 p]) with
           | some f36 =>
            if (0 : Int) ≤ (1 : Int) ∧ ltB b (2 * Fm.dep f36) ∧ ByteArray.size (kidP f36 (1 : Int) (IntKind.wrap IntKind.i64 (bindsN op + (1 : Int)))) ≤ 9223372036854775807 then
             if
               ByteArray.size (kidP f35 (0 : Int) (bindsN op) ++ ByteArray.mk #[32] ++ op ++ ByteArray.mk #[32]) +
                 ByteArray.size (kidP f36 (1 : Int) (IntKind.wrap IntKind.i64 (bindsN op + (1 : Int)))) ≤
                9223372036854775807 then
              k
               [.d false 0
                 (.str (kidP f35 (0 : Int) (bindsN op) ++ ByteArray.mk #[32] ++ op ++ ByteArray.mk #[32] ++ kidP f36 (1 : Int) (IntKind.wrap IntKind.i64 (bindsN op + (1 : Int)))))]
               []
             else none
            else none
           | none => none
          else none
         else none
        else none
       else none
      | none => none := by kernel_rfl
end
end T53

namespace T76
  section
  variable (b : Option Nat)
/- rounds of the search: 1 -/
noncomputable def X : Fx := ⟨Tryd.prog, R16 b, 64, 3⟩
theorem start {β : Type} (op : ByteArray) (nm : ByteArray) (ks : List D) (p : Int) (i : Int) (t : Int) (k : List TV → List TV → Option β) : evalF Tryd.prog (R16 b) Tryd.f76 [.d true 5 (.ag [D.str op, D.str nm, D.sl 5 ks, D.int .i64 p]), .d true 0 (.int .i64 i), .d true 0 (.int .i64 t)] k =
   if decide (i ≥ (↑(List.length ks) : Int)) = true then k [.d false 0 (.str (ByteArray.mk #[]))] []
  else
   if (0 : Int) ≤ i then
    match ks[Int.toNat i]? with
    | some x5 =>
     match x5 with
     | D.ag xs6 =>
      match xs6 with
      | x7 :: r8 =>
       match x7 with
       | D.str s9 =>
        match r8 with
        | x10 :: r11 =>
         match x10 with
         | D.str s12 =>
          match r11 with
          | x13 :: r14 =>
           match x13 with
           | D.sl sh15 xs16 =>
            if sh15 = 5 then
             match r14 with
             | x17 :: r18 =>
              match x17 with
              | D.int j19 m20 =>
               if j19 = IntKind.i64 then
                match r18 with
                | [] =>
                 match ofD (.ag [D.str s9, D.str s12, D.sl 5 xs16, D.int .i64 m20]) with
                 | some f22 =>
                  if ltB b (2 * Fm.dep f22 + 1) ∧ ByteArray.size (printF f22) ≤ 9223372036854775807 then
                   if (0 : Int) ≤ i then
                    match ks[Int.toNat i]? with
                    | some x24 =>
                     match
                      match x24 with
                      | D.ag xs => xs[0]?
                      | x => none with
                     | some y25 =>
                      match y25 with
                      | D.str s26 =>
                       if decide (bindsN s26 < t) = true then
                        if 1 + ByteArray.size (printF f22) ≤ 9223372036854775807 then
                         if ByteArray.size (ByteArray.mk #[40] ++ printF f22) + 1 ≤ 9223372036854775807 then
                          k [.d false 0 (.str (ByteArray.mk #[40] ++ printF f22 ++ ByteArray.mk #[41]))] []
                         else none
                        else none
                       else k [.d false 0 (.str (printF f22))] []
                      | x => none
                     | none => none
                    | none => none
                   else none
                  else none
                 | none => none
                | x => none
               else none
              | x => none
             | [] => none
            else none
           | x => none
          | [] => none
         | x => none
        | [] => none
       | x => none
      | [] => none
     | x => none
    | none => none
   else none := by kernel_rfl
end
end T76


end Go.Sd

namespace Go.Sd
open Go Go.Cm Go.Proofs Go.Sc
set_option maxRecDepth 100000

theorem ansF_out {β : Type} {k : List TV → List TV → Option β} {x : Fm} {r : β} (h : ansF true k x = some r) :
    ∃ y, k [.d true 5 y] [] = some r ∧ ∀ (t : Bool) {γ : Type} (q : List TV → List TV → Option γ), ansF t q x = q [.d t 5 y] [] := by
  obtain ⟨o, n, ks, p⟩ := x
  exact ⟨_, h, fun t {γ} q => rfl⟩
theorem ev_pair (f a b : Fm) (h : bd none a) : ∃ s : Bool, ∀ {γ : Type} (q : List TV → List TV → Option γ), evalF Tryd.prog R12 Tryd.f90 [.d true 5 f.d, .d true 5 a.d, .d true 5 b.d] q = ansF s q (pairF f a b) := by
  cases f with
  | mk op nm ks p =>
  cases a with
  | mk o2 n2 k2 p2 =>
  cases b with
  | mk o3 n3 k3 p3 =>
    have h1 := ofD_d (.mk o2 n2 k2 p2)
    have h2 := ofD_d (.mk o3 n3 k3 p3)
    simp only [Fm.d] at h1 h2
    have st : ∀ {γ : Type} (q : List TV → List TV → Option γ), evalF Tryd.prog R12 Tryd.f90 [.d true 5 (Fm.mk op nm ks p).d, .d true 5 (Fm.mk o2 n2 k2 p2).d, .d true 5 (Fm.mk o3 n3 k3 p3).d] q = _ :=
      fun q => T90.start op nm (Fm.dL ks) p o2 n2 (Fm.dL k2) p2 o3 n3 (Fm.dL k3) p3 q
    simp only [h1, h2, if_pos h] at st
    have l1 : bTrue.toList = [116, 114, 117, 101] := B_list _
    have l2 : bFalse.toList = [102, 97, 108, 115, 101] := B_list _
    have same : ∀ {γ : Type} (q : List TV → List TV → Option γ), (if sameF (.mk o2 n2 k2 p2) (.mk o3 n3 k3 p3) = true then q [.d true 5 (.ag [.str o2, .str n2, .sl 5 (Fm.dL k2), .int .i64 p2])] [] else q [.d true 5 (.ag [.str op, .str nm, .sl 5 (Fm.dL ks), .int .i64 p])] [])
        = ansF true q (sameE (.mk op nm ks p) (.mk o2 n2 k2 p2) (.mk o3 n3 k3 p3)) := fun q => by
      unfold sameE
      cases sameF (.mk o2 n2 k2 p2) (.mk o3 n3 k3 p3) <;> rfl
    unfold pairF pairAnd pairU constB
    simp only [Fm.op, l1, l2]
    cases g1 : (op.toList == [124]) with
    | true =>
      simp only [g1, if_true] at st ⊢
      cases g2 : (o2.toList == [102, 97, 108, 115, 101]) with
      | true => exact ⟨true, fun q => by simp only [g2, if_true] at st; rw [st]; rfl⟩
      | false =>
      simp only [g2, Bool.false_eq_true, if_false] at st ⊢
      cases g3 : (o3.toList == [102, 97, 108, 115, 101]) with
      | true => exact ⟨true, fun q => by simp only [g3, if_true] at st; rw [st]; rfl⟩
      | false =>
      simp only [g3, Bool.false_eq_true, if_false] at st ⊢
      cases g4 : (o2.toList == [116, 114, 117, 101]) with
      | true => exact ⟨false, fun q => by simp only [g4, if_true] at st; rw [st]; rfl⟩
      | false =>
      simp only [g4, Bool.false_eq_true, if_false] at st ⊢
      cases g5 : (o3.toList == [116, 114, 117, 101]) with
      | true => exact ⟨false, fun q => by simp only [g5, if_true] at st; rw [st]; rfl⟩
      | false =>
      simp only [g5, Bool.false_eq_true, if_false] at st ⊢
      exact ⟨true, fun q => by rw [st]; exact same q⟩
    | false =>
    simp only [g1, Bool.false_eq_true, if_false] at st ⊢
    cases g0 : (op.toList == [38]) with
    | true =>
      simp only [g0, if_true] at st ⊢
      cases g4 : (o2.toList == [116, 114, 117, 101]) with
      | true => exact ⟨true, fun q => by simp only [g4, if_true] at st; rw [st]; rfl⟩
      | false =>
      simp only [g4, Bool.false_eq_true, if_false] at st ⊢
      cases g5 : (o3.toList == [116, 114, 117, 101]) with
      | true => exact ⟨true, fun q => by simp only [g5, if_true] at st; rw [st]; rfl⟩
      | false =>
      simp only [g5, Bool.false_eq_true, if_false] at st ⊢
      cases g2 : (o2.toList == [102, 97, 108, 115, 101]) with
      | true => exact ⟨false, fun q => by simp only [g2, if_true] at st; rw [st]; rfl⟩
      | false =>
      simp only [g2, Bool.false_eq_true, if_false] at st ⊢
      cases g3 : (o3.toList == [102, 97, 108, 115, 101]) with
      | true => exact ⟨false, fun q => by simp only [g3, if_true] at st; rw [st]; rfl⟩
      | false =>
      simp only [g3, Bool.false_eq_true, if_false] at st ⊢
      exact ⟨true, fun q => by rw [st]; exact same q⟩
    | false =>
    simp only [g0, Bool.false_eq_true, if_false] at st ⊢
    cases g6 : (op.toList == [85]) with
    | true =>
      simp only [g6, if_true] at st ⊢
      cases g5 : (o3.toList == [116, 114, 117, 101]) <;> cases g3 : (o3.toList == [102, 97, 108, 115, 101]) <;> cases g2 : (o2.toList == [102, 97, 108, 115, 101]) <;>
        (simp only [g5, g3, g2, constB, Bool.true_or, Bool.or_true, Bool.or_false, Bool.false_or, if_true, Bool.false_eq_true, if_false] at st ⊢; refine ⟨true, fun q => ?_⟩; rw [st]; first | rfl | exact same q)
    | false =>
    simp only [g6, Bool.false_eq_true, if_false] at st ⊢
    cases g7 : (op.toList == [82]) with
    | true =>
      simp only [g7, if_true] at st ⊢
      cases g5 : (o3.toList == [116, 114, 117, 101]) <;> cases g3 : (o3.toList == [102, 97, 108, 115, 101]) <;> cases g4 : (o2.toList == [116, 114, 117, 101]) <;>
        (simp only [g5, g3, g4, constB, Bool.true_or, Bool.or_true, Bool.or_false, Bool.false_or, if_true, Bool.false_eq_true, if_false] at st ⊢; refine ⟨true, fun q => ?_⟩; rw [st]; first | rfl | exact same q)
    | false =>
    simp only [g7, Bool.false_eq_true, if_false] at st ⊢
    exact ⟨true, fun q => by rw [st]; exact same q⟩
theorem envr13 : EnvOk glS Tryd.prog R13 := envr12.add fun β args k r hr => by
  unfold cPair at hr
  split at hr
  · rename_i x y z
    split at hr
    · rename_i f hf
      split at hr
      · rename_i a ha
        split at hr
        · rename_i b hb
          unfold chkK at hr
          split at hr
          · rename_i h0
            rw [d_ofD _ _ hf, d_ofD _ _ ha, d_ofD _ _ hb]
            obtain ⟨y, h1, h2⟩ := ansF_out hr
            obtain ⟨s, hs⟩ := ev_pair f a b h0
            exact ⟨_, _, h1, valid_up (valid_of envr12 mixed Tryd.func90 (by kernel_rfl) ((hs _).trans (h2 s _)))⟩
          · cases hr
        · cases hr
      · cases hr
    · cases hr
  · cases hr
end Go.Sd

namespace Go.Sd
open Go Go.Cm Go.Proofs Go.Sc
set_option maxRecDepth 100000

theorem simple_loop {b : Option Nat} {op nm : ByteArray} {fs : List Fm} (hl : fs.length ≤ 4096) (hb : ∀ f ∈ fs, bd b f) : ∀ (gs : List Fm) (i : Nat) (done : List Fm) (t : Bool), fs.drop i = gs → i ≤ fs.length → done.length = i →
    ∃ t', Lp (T62.L0 b) (T62.s0 op nm (Fm.dL fs) i (Fm.dL done) t) = some (.exit 0, T62.e0x0 op nm (Fm.dL (done ++ simpleL gs)) t')
  | [], i, done, t, hi, hle, hd => by
    have hr := T62.round0_0 b op nm (Fm.dL fs) i (Fm.dL done) t
    have : fs.length ≤ i := by have := congrArg List.length hi; simp at this; omega
    rw [dL_len, if_neg (by simp; omega)] at hr
    refine ⟨t, ?_⟩
    simp only [simpleL, List.append_nil]
    exact Lp_exit hr
  | f :: gs, i, done, t, hi, hle, hd => by
    have hr := T62.round0_0 b op nm (Fm.dL fs) i (Fm.dL done) t
    obtain ⟨hlt, hf, hfs⟩ := drop_split hi
    rw [dL_len, if_pos (by simp; omega), if_pos (by omega), Int.toNat_natCast, dL_get hlt, hf] at hr
    have hm : f ∈ fs := hf ▸ List.getElem_mem hlt
    have hbf := hb f hm
    cases f with
    | mk o n ks p =>
      have hof := ofD_d (.mk o n ks p)
      simp only [Fm.d] at hr hof
      simp only [hof, if_true, if_pos hbf, wi (show i ≤ 4096 by omega), dL_len, if_pos (show done.length + 1 ≤ 34359738368 by omega)] at hr
      simp only [simpleL]
      cases hs : simpleF (.mk o n ks p) with
      | mk o2 n2 k2 p2 =>
        rw [hs] at hr
        obtain ⟨t', h⟩ := simple_loop hl hb gs (i + 1) (done ++ [.mk o2 n2 k2 p2]) (t || true) hfs (by omega) (by simp [hd])
        refine ⟨t', ?_⟩
        rw [dL_append] at h
        have e : done ++ Fm.mk o2 n2 k2 p2 :: simpleL gs = (done ++ [.mk o2 n2 k2 p2]) ++ simpleL gs := by simp
        rw [e]
        exact Lp_step hr h
theorem simple_end {b : Option Nat} {ks0 : List D} {p0 : Int} {op nm : ByteArray} {rs : List Fm} {t : Bool} (hl : rs.length ≤ 4096) (hs : Fm.smL rs = true) :
    ∃ s : Bool, ∀ {γ : Type} (q : List TV → List TV → Option γ), applyK (T62.X b) (finK Tryd.prog Tryd.f62 [TV.d true (5 : Nat) (D.ag [D.str op, D.str nm, D.sl (5 : Nat) ks0, D.int IntKind.i64 p0])] q)
      [Kf.block (0 : Nat) (12 : Nat), Kf.seq [] (sub [(1 : Nat), (1 : Nat), (1 : Nat)] (body Tryd.f62)) (4 : Nat)] (Ex.exit (0 : Nat)) (T62.e0x0 op nm (Fm.dL rs) t) = ansF s q (endS op nm rs) := by
  cases rs with
  | nil =>
    refine ⟨true, fun q => (T62.behind0x0 b ks0 p0 op nm _ t q).trans ?_⟩
    simp only [dL_len, List.length_nil, show (((0 : Nat) : Int) == 1) = false from rfl, show (((0 : Nat) : Int) == 2) = false from rfl, Bool.false_eq_true, if_false]
    rfl
  | cons f1 r1 =>
  cases r1 with
  | nil =>
    cases f1 with
    | mk o n ks p =>
      unfold endS
      simp only
      cases h : (op.toList == [88]) with
      | false =>
        refine ⟨true, fun q => (T62.behind0x0 b ks0 p0 op nm _ t q).trans ?_⟩
        simp only [dL_len, List.length_cons, List.length_nil, show (((0 + 1 : Nat) : Int) == 1) = true from rfl, if_true, h, Bool.false_eq_true, if_false]
        rfl
      | true =>
        rw [if_pos rfl]
        rcases Bool.eq_false_or_eq_true (constB (Fm.mk o n ks p).op) with hc | hc
        · rw [if_pos hc]
          replace hc : constB o = true := hc
          refine ⟨t || (t || (t || (t || false))), fun q => (T62.behind0x0 b ks0 p0 op nm _ t q).trans ?_⟩
          simp only [dL_len, List.length_cons, List.length_nil, show (((0 + 1 : Nat) : Int) == 1) = true from rfl, if_true, h, if_pos (show (0 : Int) ≤ 0 ∧ (0 : Int) < ((0 + 1 : Nat) : Int) by omega), Fm.dL, Fm.d, List.getElem?_cons_zero, hc]
          rfl
        · rw [if_neg (by rw [hc]; decide)]
          replace hc : constB o = false := hc
          refine ⟨true, fun q => (T62.behind0x0 b ks0 p0 op nm _ t q).trans ?_⟩
          simp only [dL_len, List.length_cons, List.length_nil, show (((0 + 1 : Nat) : Int) == 1) = true from rfl, if_true, h, if_pos (show (0 : Int) ≤ 0 ∧ (0 : Int) < ((0 + 1 : Nat) : Int) by omega), Fm.dL, Fm.d, List.getElem?_cons_zero, hc, Bool.false_eq_true, if_false]
          rfl
  | cons f2 r2 =>
  cases r2 with
  | nil =>
    cases f1 with
    | mk o n ks p =>
    cases f2 with
    | mk o2 n2 ks2 p2 =>
      have h1 := ofD_d (.mk o n ks p)
      have h2 := ofD_d (.mk o2 n2 ks2 p2)
      have h3 := ofD_d (.mk op nm [.mk o n ks p, .mk o2 n2 ks2 p2] 0)
      simp only [Fm.d, Fm.dL] at h1 h2 h3
      have hb : bd none (.mk o n ks p) := ⟨sm_mem hs (.head _), trivial⟩
      refine ⟨true, fun q => (T62.behind0x0 b ks0 p0 op nm _ t q).trans ?_⟩
      simp only [dL_len, List.length_cons, List.length_nil, show (((0 + 1 + 1 : Nat) : Int) == 1) = false from rfl, show (((0 + 1 + 1 : Nat) : Int) == 2) = true from rfl, Bool.false_eq_true, if_false, if_true,
        if_pos (show (0 : Int) ≤ 1 ∧ (1 : Int) < ((0 + 1 + 1 : Nat) : Int) by omega), if_pos (show (0 : Int) ≤ 0 ∧ (0 : Int) < ((0 + 1 + 1 : Nat) : Int) by omega), Fm.dL, Fm.d, List.getElem?_cons_zero, List.getElem?_cons_succ, h1, h2, h3, if_pos hb]
      unfold endS
      simp only
      cases pairF (.mk op nm [.mk o n ks p, .mk o2 n2 ks2 p2] 0) (.mk o n ks p) (.mk o2 n2 ks2 p2) with
      | mk a b c d => rfl
  | cons f3 r =>
    have e1 : ((((f1 :: f2 :: f3 :: r).length : Nat) : Int) == 1) = false := by simp; omega
    have e2 : ((((f1 :: f2 :: f3 :: r).length : Nat) : Int) == 2) = false := by simp; omega
    refine ⟨true, fun q => (T62.behind0x0 b ks0 p0 op nm _ t q).trans ?_⟩
    simp only [dL_len, e1, e2, Bool.false_eq_true, if_false]
    rfl
theorem ev_simple {b : Option Nat} {f : Fm} (hs : f.sm = true) (hb : ∀ n, b = some n → f.dep ≤ n) :
    ∃ s : Bool, ∀ {γ : Type} (q : List TV → List TV → Option γ), evalF Tryd.prog (R14 b) Tryd.f62 [.d true 5 f.d] q = ansF s q (simpleF f) := by
  cases f with
  | mk op nm ks p =>
    obtain ⟨h1, h2⟩ := bd_kids hs hb
    obtain ⟨t, h⟩ := simple_loop (b := b) (op := op) (nm := nm) h1 h2 ks 0 [] false rfl (by omega) rfl
    rw [List.nil_append] at h
    simp only [Fm.sm, Bool.and_eq_true] at hs
    obtain ⟨s, hs2⟩ := simple_end (b := b) (ks0 := Fm.dL ks) (p0 := p) (op := op) (nm := nm) (rs := simpleL ks) (t := t) (by rw [simpleL_len]; exact h1) (sm_simpleL ks hs.2)
    refine ⟨s, fun q => ?_⟩
    refine (T62.start b op nm (Fm.dL ks) p q).trans ?_
    refine (goLp_of h).trans ?_
    rw [simpleF]
    exact hs2 q
theorem envr14 : EnvOk glS Tryd.prog (R14 none) := by
  have key : ∀ n, EnvOk glS Tryd.prog (R14 (some n)) := by
    intro n
    induction n with
    | zero =>
      refine envr13.add fun β args k r hr => ?_
      unfold cSimp at hr
      split at hr
      · split at hr
        · unfold chkK at hr
          split at hr
          · rename_i h; have := h.2; simp only at this; omega
          · cases hr
        · cases hr
      · cases hr
    | succ n ih =>
      refine envr13.add fun β args k r hr => ?_
      unfold cSimp at hr
      split at hr
      · rename_i x
        split at hr
        · rename_i f hf
          unfold chkK at hr
          split at hr
          · rename_i h
            rw [d_ofD _ _ hf]
            obtain ⟨y, h1, h2⟩ := ansF_out hr
            obtain ⟨s, h3⟩ := ev_simple (b := some n) h.1 (fun m hm => by cases hm; have := h.2; simp only at this; omega)
            exact ⟨_, _, h1, valid_up (valid_of ih mixed Tryd.func62 (by kernel_rfl) ((h3 _).trans (h2 s _)))⟩
          · cases hr
        · cases hr
      · cases hr
  refine EnvOk.lim key fun β g args k r hr => ?_
  simp only [R14, Env.add] at hr ⊢
  cases hg : Nat.beq g 62 with
  | false => simp only [hg] at hr ⊢; exact ⟨0, hr⟩
  | true =>
    simp only [hg] at hr ⊢
    unfold cSimp at hr ⊢
    split at hr
    · split at hr
      · rename_i f hf
        unfold chkK at hr
        split at hr
        · rename_i h
          exact ⟨f.dep + 1, by simp only [hf, chkK]; rw [if_pos (bd_at h)]; exact hr⟩
        · cases hr
      · cases hr
    · cases hr
end Go.Sd

namespace Go.Sd
open Go Go.Cm Go.Proofs Go.Sc
set_option maxRecDepth 100000
theorem envr15 : EnvOk glS Tryd.prog R15 := envr14.fn mixed Tryd.func75 (by kernel_rfl) fun β args k r hr => by
  unfold cBinds at hr
  split at hr
  · rename_i op
    refine ⟨_, _, hr, fun q => (T75.start op q).trans ?_⟩
    unfold bindsN
    by_cases h0 : op.toList = [61, 62]
    · simp only [h0]; rfl
    have g0 : (op.toList == [61, 62]) = false := beq_false_of_ne h0
    by_cases h1 : op.toList = [124]
    · simp only [h1]; rfl
    have g1 : (op.toList == [124]) = false := beq_false_of_ne h1
    by_cases h2 : op.toList = [38]
    · simp only [h2]; rfl
    have g2 : (op.toList == [38]) = false := beq_false_of_ne h2
    by_cases h3 : op.toList = [85]
    · simp only [h3]; rfl
    have g3 : (op.toList == [85]) = false := beq_false_of_ne h3
    by_cases h4 : op.toList = [87]
    · simp only [h4]; rfl
    have g4 : (op.toList == [87]) = false := beq_false_of_ne h4
    by_cases h5 : op.toList = [82]
    · simp only [h5]; rfl
    have g5 : (op.toList == [82]) = false := beq_false_of_ne h5
    by_cases h6 : op.toList = [33]
    · simp only [h6]; rfl
    have g6 : (op.toList == [33]) = false := beq_false_of_ne h6
    by_cases h7 : op.toList = [88]
    · simp only [h7]; rfl
    have g7 : (op.toList == [88]) = false := beq_false_of_ne h7
    by_cases h8 : op.toList = [70]
    · simp only [h8]; rfl
    have g8 : (op.toList == [70]) = false := beq_false_of_ne h8
    by_cases h9 : op.toList = [71]
    · simp only [h9]; rfl
    have g9 : (op.toList == [71]) = false := beq_false_of_ne h9
    simp only [g0, g1, g2, g3, g4, g5, g6, g7, g8, g9, Bool.false_eq_true, if_false]
  · cases hr
theorem size_B (l : T8) : (⟨l.toArray⟩ : ByteArray).size = l.length := rfl
theorem ev_print {b : Option Nat} (f : Fm) (hb : ltB b (2 * f.dep)) (hz : (printF f).size ≤ 9223372036854775807) {γ : Type} (q : List TV → List TV → Option γ) :
    evalF Tryd.prog (R16 b) Tryd.f53 [.d true 5 f.d] q = q [.d false 0 (.str (printF f))] [] := by
  cases f with
  | mk op nm ks p =>
    refine (T53.start b op nm (Fm.dL ks) p q).trans ?_
    have hof := ofD_d (.mk op nm ks p)
    simp only [Fm.d] at hof
    obtain ⟨hl1, hl2⟩ := binds_le op
    have hw : IntKind.wrap .i64 (bindsN op + 1) = bindsN op + 1 := wrap_id (by omega) (by omega)
    rw [print_eq] at hz ⊢
    simp only [hof, hw]
    generalize kidP (.mk op nm ks p) = K at hz ⊢
    have z0 : (⟨#[34]⟩ : ByteArray).size = 1 := rfl
    have z1 : (⟨#[33]⟩ : ByteArray).size = 1 := rfl
    have z2 : (⟨#[32]⟩ : ByteArray).size = 1 := rfl
    unfold prB at hz ⊢
    by_cases h6 : bindsN op = 6
    · rw [if_pos h6] at hz ⊢
      rw [if_pos (by simpa using h6)]
      split
      · rename_i h
        rw [if_pos h] at hz
        rw [ByteArray.size_append, ByteArray.size_append, z0] at hz
        rw [if_pos (by omega), if_pos (by rw [ByteArray.size_append, z0]; omega)]
      · rfl
    rw [if_neg h6] at hz ⊢
    rw [if_neg (by simpa using h6)]
    by_cases h5 : bindsN op = 5
    · rw [if_pos h5] at hz ⊢
      rw [if_pos (by simpa using h5)]
      split
      · rename_i h
        rw [if_pos h] at hz
        rw [ByteArray.size_append, z1] at hz
        rw [if_pos ⟨by omega, hb, by omega⟩, if_pos (by omega)]
      · rename_i h
        rw [if_neg h] at hz
        rw [ByteArray.size_append, ByteArray.size_append, z2] at hz
        rw [if_pos (by omega), if_pos ⟨by omega, hb, by omega⟩, if_pos (by rw [ByteArray.size_append, z2]; omega)]
    rw [if_neg h5] at hz ⊢
    rw [if_neg (by simpa using h5)]
    by_cases h1 : bindsN op = 1
    · rw [if_pos (show bindsN op = 1 ∨ bindsN op = 4 from .inl h1)] at hz ⊢
      rw [if_pos (by simpa using h1), if_pos (by simpa using h1)]
      rw [ByteArray.size_append, ByteArray.size_append, ByteArray.size_append, ByteArray.size_append, z2] at hz
      rw [if_pos ⟨by omega, hb, by omega⟩, if_pos (by omega), if_pos (by rw [ByteArray.size_append, z2]; omega), if_pos (by rw [ByteArray.size_append, ByteArray.size_append, z2]; omega), if_pos ⟨by omega, hb, by omega⟩,
        if_pos (by rw [ByteArray.size_append, ByteArray.size_append, ByteArray.size_append, z2]; omega)]
    rw [if_neg (by simpa using h1)]
    by_cases h4 : bindsN op = 4
    · rw [if_pos (show bindsN op = 1 ∨ bindsN op = 4 from .inr h4)] at hz ⊢
      rw [if_pos (by simpa using h4)]
      rw [ByteArray.size_append, ByteArray.size_append, ByteArray.size_append, ByteArray.size_append, z2] at hz
      rw [if_pos ⟨by omega, hb, by omega⟩, if_pos (by omega), if_pos (by rw [ByteArray.size_append, z2]; omega), if_pos (by rw [ByteArray.size_append, ByteArray.size_append, z2]; omega), if_pos ⟨by omega, hb, by omega⟩,
        if_pos (by rw [ByteArray.size_append, ByteArray.size_append, ByteArray.size_append, z2]; omega)]
    rw [if_neg (by simpa using h4)]
    rw [if_neg (show ¬ (bindsN op = 1 ∨ bindsN op = 4) by rintro (h | h); exact h1 h; exact h4 h)] at hz ⊢
    rw [ByteArray.size_append, ByteArray.size_append, ByteArray.size_append, ByteArray.size_append, z2] at hz
    rw [if_pos ⟨by omega, hb, by omega⟩, if_pos (by omega), if_pos (by rw [ByteArray.size_append, z2]; omega), if_pos (by rw [ByteArray.size_append, ByteArray.size_append, z2]; omega), if_pos ⟨by omega, hb, by omega⟩,
      if_pos (by rw [ByteArray.size_append, ByteArray.size_append, ByteArray.size_append, z2]; omega)]
theorem ev_kid {b : Option Nat} (f : Fm) (i t : Int) (hi : 0 ≤ i) (hb : ∀ n, b = some n → 2 * f.dep ≤ n) (hz : (kidP f i t).size ≤ 9223372036854775807) {γ : Type} (q : List TV → List TV → Option γ) :
    evalF Tryd.prog (R16 b) Tryd.f76 [.d true 5 f.d, .d true 0 (.int .i64 i), .d true 0 (.int .i64 t)] q = q [.d false 0 (.str (kidP f i t))] [] := by
  cases f with
  | mk op nm ks p =>
    refine (T76.start b op nm (Fm.dL ks) p i t q).trans ?_
    rw [kidP_eq] at hz ⊢
    rw [dL_len]
    by_cases hlt : i < ks.length
    · rw [if_neg (by simpa using hlt), if_pos hi]
      have hln : i.toNat < ks.length := by omega
      rw [dL_get hln]
      rw [List.getElem?_eq_getElem hln] at hz ⊢
      have hm : ks[i.toNat] ∈ ks := List.getElem_mem hln
      have hd := dep_mem hm
      cases hg : ks[i.toNat] with
      | mk o2 n2 k2 p2 =>
        have hof := ofD_d (.mk o2 n2 k2 p2)
        rw [hg] at hz hd
        simp only [Fm.dep] at hd
        simp only [Fm.d] at hof ⊢
        simp only [hof, if_true]
        have hb2 : ltB b (2 * (Fm.mk o2 n2 k2 p2).dep + 1) := by
          cases b with
          | none => trivial
          | some n => have := hb n rfl; simp only [Fm.dep] at this ⊢; show _ < n; omega
        simp only [dEl, Fm.op] at hz ⊢
        by_cases ht : bindsN o2 < t
        · have e : ∀ s, parB (bindsN o2) t s = (⟨#[40]⟩ : ByteArray) ++ s ++ ⟨#[41]⟩ := fun s => by unfold parB; split; rfl; contradiction
          simp only [e] at hz ⊢
          have z0 : (⟨#[40]⟩ : ByteArray).size = 1 := rfl
          have z1 : (⟨#[41]⟩ : ByteArray).size = 1 := rfl
          rw [ByteArray.size_append, ByteArray.size_append, z0, z1] at hz
          rw [if_pos ⟨hb2, by omega⟩, if_pos hi]
          simp only [List.getElem?_cons_zero]
          rw [if_pos (by simpa using ht), if_pos (by omega), if_pos (by rw [ByteArray.size_append, z0]; omega)]
        · have e : ∀ s, parB (bindsN o2) t s = s := fun s => by unfold parB; split; contradiction; rfl
          simp only [e] at hz ⊢
          rw [if_pos ⟨hb2, hz⟩, if_pos hi]
          simp only [List.getElem?_cons_zero]
          rw [if_neg (by simpa using ht)]
    · rw [if_pos (by simpa using hlt), List.getElem?_eq_none (by omega)]
      rfl
theorem envr16 : EnvOk glS Tryd.prog (R16 none) := by
  refine EnvOk.rec2 (fun b {β} args k => cPrint b args k) (fun b {β} args k => cKid b args k) envr15 ?_ ?_ ?_ ?_ ?_ ?_
  · intro β args k r h
    unfold cPrint at h
    split at h
    · split at h
      · unfold chkK at h; split at h
        · rename_i h0; exact not_ltB_zero h0.1
        · cases h
      · cases h
    · cases h
  · intro β args k r h
    unfold cKid at h
    split at h
    · split at h
      · unfold chkK at h; split at h
        · rename_i h0; exact not_ltB_zero h0.2.1
        · cases h
      · cases h
    · cases h
  · intro n ih β args k r h
    unfold cPrint at h
    split at h
    · split at h
      · rename_i f hf
        unfold chkK at h; split at h
        · rename_i h0
          rw [d_ofD _ _ hf]
          exact ⟨_, _, h, valid_of ih mixed Tryd.func53 (by kernel_rfl) (ev_print f (by have : _ < n + 1 := h0.1; show _ < n; omega) h0.2 _)⟩
        · cases h
      · cases h
    · cases h
  · intro n ih β args k r h
    unfold cKid at h
    split at h
    · split at h
      · rename_i f hf
        unfold chkK at h; split at h
        · rename_i h0
          rw [d_ofD _ _ hf]
          exact ⟨_, _, h, valid_of ih mixed Tryd.func76 (by kernel_rfl) (ev_kid f _ _ h0.1 (fun m hm => by cases hm; have : _ < n + 1 := h0.2.1; omega) h0.2.2 _)⟩
        · cases h
      · cases h
    · cases h
  · intro β args k r h
    unfold cPrint at h ⊢
    split at h
    · split at h
      · rename_i f hf
        unfold chkK at h; split at h
        · rename_i h0
          exact ⟨_, by simp only [hf, chkK]; rw [if_pos ⟨Nat.lt_succ_self _, h0.2⟩]; exact h⟩
        · cases h
      · cases h
    · cases h
  · intro β args k r h
    unfold cKid at h ⊢
    split at h
    · split at h
      · rename_i f hf
        unfold chkK at h; split at h
        · rename_i h0
          exact ⟨_, by simp only [hf, chkK]; rw [if_pos ⟨h0.1, Nat.lt_succ_self _, h0.2.2⟩]; exact h⟩
        · cases h
      · cases h
    · cases h
end Go.Sd

/- The normal form of formulas, purely (the package nnf). -/
import Derived.Test.YtbpndgllhhajoaaGreatDoorPd
set_option linter.unusedVariables false
set_option linter.unusedSimpArgs false
namespace Go.Sc
open Go Go.Cm

def oTrue : T8 := [116, 114, 117, 101]
def oFalse : T8 := [102, 97, 108, 115, 101]
def oLabel : T8 := [108, 97, 98, 101, 108]
def kidsN (op : ByteArray) : Int :=
  if (op.toList == [116, 114, 117, 101]) = true then 0 else if (op.toList == [102, 97, 108, 115, 101]) = true then 0 else if (op.toList == [108, 97, 98, 101, 108]) = true then 0
  else if (op.toList == [33]) = true then 1 else if (op.toList == [88]) = true then 1 else if (op.toList == [70]) = true then 1 else if (op.toList == [71]) = true then 1
  else if (op.toList == [38]) = true then 2 else if (op.toList == [124]) = true then 2 else if (op.toList == [61, 62]) = true then 2
  else if (op.toList == [85]) = true then 2 else if (op.toList == [87]) = true then 2 else if (op.toList == [82]) = true then 2 else -1
def dualB (op : ByteArray) : ByteArray :=
  if (op.toList == [116, 114, 117, 101]) = true then ⟨#[102, 97, 108, 115, 101]⟩ else if (op.toList == [102, 97, 108, 115, 101]) = true then ⟨#[116, 114, 117, 101]⟩
  else if (op.toList == [38]) = true then ⟨#[124]⟩ else if (op.toList == [124]) = true then ⟨#[38]⟩
  else if (op.toList == [85]) = true then ⟨#[82]⟩ else if (op.toList == [82]) = true then ⟨#[85]⟩ else op
def constB (op : ByteArray) : Bool := op.toList == [116, 114, 117, 101] || op.toList == [102, 97, 108, 115, 101]
mutual
def formF : Fm → Bool
  | .mk op _ ks _ => kidsN op == (ks.length : Int) && formL ks
def formL : List Fm → Bool
  | [] => true
  | f :: fs => formF f && formL fs
end
mutual
def isF : Fm → Bool
  | .mk op _ ks _ =>
    if (op.toList == [70]) = true then false else if (op.toList == [71]) = true then false else if (op.toList == [87]) = true then false else if (op.toList == [61, 62]) = true then false
    else if (op.toList == [33]) = true then (match ks with | [.mk o2 _ k2 _] => o2.toList == [108, 97, 98, 101, 108] && k2.isEmpty | _ => false)
    else kidsN op == (ks.length : Int) && isL ks
def isL : List Fm → Bool
  | [] => true
  | f :: fs => isF f && isL fs
end
end Go.Sc

namespace Go.Sc
open Go Go.Cm

def zeroF : Fm := .mk ⟨#[]⟩ ⟨#[]⟩ [] 0
def nd (op : ByteArray) (ks : List Fm) : Fm := .mk op ⟨#[]⟩ ks 0
def labF (nm : ByteArray) : Fm := .mk ⟨#[108, 97, 98, 101, 108]⟩ nm [] 0
def opN (op : ByteArray) (not : Bool) : ByteArray := match not with | true => dualB op | false => op
def both4 (op : ByteArray) : Bool := op.toList == [38] || op.toList == [124] || op.toList == [85] || op.toList == [82]
def makeF : Fm → Bool → Int → Option (Fm × Int)
  | .mk op nm ks p, not, l =>
    if l - 1 < 0 then some (zeroF, l - 1)
    else if (op.toList == [108, 97, 98, 101, 108]) = true then (match not with
      | true => if l - 1 - 1 < 0 then some (labF nm, l - 1 - 1) else some (nd ⟨#[33]⟩ [labF nm], l - 1 - 1)
      | false => some (labF nm, l - 1))
    else if (op.toList == [33]) = true then (match ks with | k :: _ => makeF k (!not) (l - 1 + 1) | [] => none)
    else if (op.toList == [88]) = true then (match ks with | k :: _ => (match makeF k not (l - 1) with | some (x, l2) => some (nd ⟨#[88]⟩ [x], l2) | none => none) | [] => none)
    else if both4 op = true then (match ks with
      | a :: b :: _ => (match makeF a not (l - 1) with | some (x, l2) => (match makeF b not l2 with | some (y, l3) => some (nd (opN op not) [x, y], l3) | none => none) | none => none)
      | _ => none)
    else if (op.toList == [61, 62]) = true then (match not with
      | true => (match ks with
        | a :: b :: _ => (match makeF a false (l - 1) with | some (x, l2) => (match makeF b true l2 with | some (y, l3) => some (nd ⟨#[38]⟩ [x, y], l3) | none => none) | none => none)
        | _ => none)
      | false => (match ks with
        | a :: b :: _ => (match makeF a true (l - 1) with | some (x, l2) => (match makeF b false l2 with | some (y, l3) => some (nd ⟨#[124]⟩ [x, y], l3) | none => none) | none => none)
        | _ => none))
    else if (op.toList == [70] || op.toList == [71]) = true then (match ks with
      | k :: _ => (match makeF k not (l - 1 - 1) with
        | some (x, l2) => (match (op.toList == [70]) != not with
          | true => some (nd ⟨#[85]⟩ [nd ⟨#[116, 114, 117, 101]⟩ [], x], l2)
          | false => some (nd ⟨#[82]⟩ [nd ⟨#[102, 97, 108, 115, 101]⟩ [], x], l2))
        | none => none)
      | [] => none)
    else if (op.toList == [87]) = true then (match ks with
      | a :: b :: _ => (match makeF b not (l - 1 - 1) with
        | some (g, l2) => (match makeF a not l2 with
          | some (x, l3) => (match makeF b not l3 with
            | some (y, l4) => (match not with
              | true => some (nd ⟨#[85]⟩ [g, nd ⟨#[38]⟩ [x, y]], l4)
              | false => some (nd ⟨#[82]⟩ [g, nd ⟨#[124]⟩ [x, y]], l4))
            | none => none)
          | none => none)
        | none => none)
      | _ => none)
    else some (nd (opN op not) [], l - 1)
def bothF (op : ByteArray) (f : Fm) (i j : Bool) (l : Int) : Option (Fm × Int) :=
  match f with
  | .mk _ _ ks _ => match ks with
    | a :: b :: _ => (match makeF a i l with | some (x, l2) => (match makeF b j l2 with | some (y, l3) => some (nd op [x, y], l3) | none => none) | none => none)
    | _ => none
def everF (f : Fm) (not : Bool) (l : Int) : Option (Fm × Int) :=
  match f with
  | .mk op _ ks _ => match ks with
    | k :: _ => (match makeF k not (l - 1) with
      | some (x, l2) => (match (op.toList == [70]) != not with
        | true => some (nd ⟨#[85]⟩ [nd ⟨#[116, 114, 117, 101]⟩ [], x], l2)
        | false => some (nd ⟨#[82]⟩ [nd ⟨#[102, 97, 108, 115, 101]⟩ [], x], l2))
      | none => none)
    | [] => none
def weakF (f : Fm) (not : Bool) (l : Int) : Option (Fm × Int) :=
  match f with
  | .mk op _ ks _ => match ks with
    | a :: b :: _ => (match makeF b not (l - 1) with
      | some (g, l2) => (match makeF a not l2 with
        | some (x, l3) => (match makeF b not l3 with
          | some (y, l4) => (match not with
            | true => some (nd ⟨#[85]⟩ [g, nd ⟨#[38]⟩ [x, y]], l4)
            | false => some (nd ⟨#[82]⟩ [g, nd ⟨#[124]⟩ [x, y]], l4))
          | none => none)
        | none => none)
      | none => none)
    | _ => none
def mok (lo : Int) (b : Option Nat) (f : Fm) (l : Int) : Prop := bd b f ∧ f.dep ≤ 1073741824 ∧ lo ≤ l ∧ l ≤ 17179869184
instance (lo : Int) (b : Option Nat) (f : Fm) (l : Int) : Decidable (mok lo b f l) := by unfold mok; infer_instance
end Go.Sc

namespace Go.Sc
open Go Go.Cm

def Lft (d : Nat) (l l' : Int) : Prop := l' ≤ l ∧ (l ≤ 0 → l' = l - 1) ∧ (0 ≤ l → -(4 * d : Int) ≤ l')
end Go.Sc

namespace Go.Sc
open Go Go.Cm

def Fm.op : Fm → ByteArray
  | .mk o _ _ _ => o
def bTrue : ByteArray := ⟨#[116, 114, 117, 101]⟩
def bFalse : ByteArray := ⟨#[102, 97, 108, 115, 101]⟩
def sameE (x a b : Fm) : Fm := match sameF a b with | true => a | false => x
def pairAnd (u z : ByteArray) (x a b : Fm) : Fm :=
  if (a.op.toList == u.toList) = true then b else if (b.op.toList == u.toList) = true then a
  else if (a.op.toList == z.toList) = true then nd z [] else if (b.op.toList == z.toList) = true then nd z [] else sameE x a b
def pairU (u : ByteArray) (x a b : Fm) : Fm :=
  if constB b.op = true then b else if (a.op.toList == u.toList) = true then b else sameE x a b
def pairF (x a b : Fm) : Fm :=
  if (x.op.toList == [124]) = true then pairAnd bFalse bTrue x a b
  else if (x.op.toList == [38]) = true then pairAnd bTrue bFalse x a b
  else if (x.op.toList == [85]) = true then pairU bFalse x a b
  else if (x.op.toList == [82]) = true then pairU bTrue x a b
  else sameE x a b
def endS (op nm : ByteArray) (ks : List Fm) : Fm :=
  match ks with
  | [k] => if (op.toList == [88]) = true then (if constB k.op = true then k else .mk op nm ks 0) else .mk op nm ks 0
  | [a, b] => pairF (.mk op nm ks 0) a b
  | _ => .mk op nm ks 0
mutual
def simpleF : Fm → Fm
  | .mk op nm ks _ => endS op nm (simpleL ks)
def simpleL : List Fm → List Fm
  | [] => []
  | f :: fs => simpleF f :: simpleL fs
end
def bindsN (op : ByteArray) : Int :=
  if (op.toList == [61, 62]) = true then 1 else if (op.toList == [124]) = true then 2 else if (op.toList == [38]) = true then 3
  else if (op.toList == [85]) = true then 4 else if (op.toList == [87]) = true then 4 else if (op.toList == [82]) = true then 4
  else if (op.toList == [33]) = true then 5 else if (op.toList == [88]) = true then 5 else if (op.toList == [70]) = true then 5 else if (op.toList == [71]) = true then 5 else 6
def parB (b : Int) (t : Int) (s : ByteArray) : ByteArray := if b < t then (⟨#[40]⟩ : ByteArray) ++ s ++ ⟨#[41]⟩ else s
def prB (op nm : ByteArray) (l r : Int → ByteArray) : ByteArray :=
  if bindsN op = 6 then (if (op.toList == [108, 97, 98, 101, 108]) = true then (⟨#[34]⟩ : ByteArray) ++ nm ++ ⟨#[34]⟩ else op)
  else if bindsN op = 5 then (if (op.toList == [33]) = true then (⟨#[33]⟩ : ByteArray) ++ l 5 else op ++ ⟨#[32]⟩ ++ l 5)
  else if bindsN op = 1 ∨ bindsN op = 4 then l (bindsN op + 1) ++ ⟨#[32]⟩ ++ op ++ ⟨#[32]⟩ ++ r (bindsN op)
  else l (bindsN op) ++ ⟨#[32]⟩ ++ op ++ ⟨#[32]⟩ ++ r (bindsN op + 1)
def printF : Fm → ByteArray
  | .mk op nm ks _ => match ks with
    | [] => prB op nm (fun _ => ⟨#[]⟩) (fun _ => ⟨#[]⟩)
    | [a] => prB op nm (fun t => parB (bindsN a.op) t (printF a)) (fun _ => ⟨#[]⟩)
    | a :: b :: _ => prB op nm (fun t => parB (bindsN a.op) t (printF a)) (fun t => parB (bindsN b.op) t (printF b))
def kidP (f : Fm) (i t : Int) : ByteArray :=
  match f with
  | .mk _ _ ks _ => match ks[i.toNat]? with
    | some g => parB (bindsN g.op) t (printF g)
    | none => ⟨#[]⟩
end Go.Sc

namespace Go.Sc
open Go Go.Cm

end Go.Sc

namespace Go.Sc
open Go Go.Cm

inductive U1 where
  | no | X | F | G
  deriving DecidableEq
inductive B2 where
  | and | or | imp | U | W | R
  deriving DecidableEq
inductive Pr where
  | tt | ff
  | lab (s : ByteArray)
  | un (o : U1) (a : Pr)
  | bi (o : B2) (a b : Pr)
  deriving DecidableEq
def U1.b : U1 → ByteArray
  | .no => ⟨#[33]⟩ | .X => ⟨#[88]⟩ | .F => ⟨#[70]⟩ | .G => ⟨#[71]⟩
def B2.b : B2 → ByteArray
  | .and => ⟨#[38]⟩ | .or => ⟨#[124]⟩ | .imp => ⟨#[61, 62]⟩ | .U => ⟨#[85]⟩ | .W => ⟨#[87]⟩ | .R => ⟨#[82]⟩
def U1.s : U1 → T8
  | .no => [33] | .X => [88] | .F => [70] | .G => [71]
def B2.s : B2 → T8
  | .and => [38] | .or => [124] | .imp => [61, 62] | .U => [85] | .W => [87] | .R => [82]
def u1? (l : T8) : Option U1 := if l == [33] then some .no else if l == [88] then some .X else if l == [70] then some .F else if l == [71] then some .G else none
def b2? (l : T8) : Option B2 := if l == [38] then some .and else if l == [124] then some .or else if l == [61, 62] then some .imp else if l == [85] then some .U else if l == [87] then some .W else if l == [82] then some .R else none
def u1A (l : T8) (x : Option Pr) : Option Pr := match u1? l, x with | some o, some x => some (.un o x) | _, _ => none
def b2A (l : T8) (x y : Option Pr) : Option Pr := match b2? l, x, y with | some o, some x, some y => some (.bi o x y) | _, _, _ => none
def Fm.abs : Fm → Option Pr
  | .mk op nm ks _ => match ks with
    | [] => if op.toList == oTrue then some .tt else if op.toList == oFalse then some .ff else if op.toList == oLabel then some (.lab nm) else none
    | [a] => u1A op.toList a.abs
    | [a, b] => b2A op.toList a.abs b.abs
    | _ => none
def Pr.fm : Pr → Fm
  | .tt => nd bTrue []
  | .ff => nd bFalse []
  | .lab s => labF s
  | .un o a => nd o.b [a.fm]
  | .bi o a b => nd o.b [a.fm, b.fm]
end Go.Sc

namespace Go.Sc
open Go Go.Cm

def B2.dual : B2 → B2
  | .and => .or | .or => .and | .U => .R | .R => .U | o => o
def B2.nt (o : B2) (n : Bool) : B2 := match n with | true => o.dual | false => o
def Pr.nf : Pr → Bool → Pr
  | .tt, n => match n with | true => .ff | false => .tt
  | .ff, n => match n with | true => .tt | false => .ff
  | .lab s, n => match n with | true => .un .no (.lab s) | false => .lab s
  | .un .no a, n => a.nf (!n)
  | .un .X a, n => .un .X (a.nf n)
  | .un .F a, n => match n with | true => .bi .R .ff (a.nf n) | false => .bi .U .tt (a.nf n)
  | .un .G a, n => match n with | true => .bi .U .tt (a.nf n) | false => .bi .R .ff (a.nf n)
  | .bi .imp a b, n => match n with | true => .bi .and (a.nf false) (b.nf true) | false => .bi .or (a.nf true) (b.nf false)
  | .bi .W a b, n => match n with | true => .bi .U (b.nf n) (.bi .and (a.nf n) (b.nf n)) | false => .bi .R (b.nf n) (.bi .or (a.nf n) (b.nf n))
  | .bi o a b, n => .bi (o.nt n) (a.nf n) (b.nf n)
def Pr.sz : Pr → Nat
  | .un _ a => a.sz + 1
  | .bi _ a b => a.sz + b.sz + 1
  | _ => 1
def Pr.ok : Pr → Bool
  | .un .no (.lab _) => true
  | .un .X a => a.ok
  | .un _ _ => false
  | .bi .imp _ _ => false
  | .bi .W _ _ => false
  | .bi _ a b => a.ok && b.ok
  | _ => true
def MK (t : Pr) (n : Bool) (l : Int) (r : Option (Fm × Int)) : Prop :=
  (((t.nf n).sz : Int) ≤ l → r = some ((t.nf n).fm, l - (t.nf n).sz)) ∧ (l < ((t.nf n).sz : Int) → ∃ x l', r = some (x, l') ∧ l' < 0)
end Go.Sc

namespace Go.Sc
open Go Go.Cm

def prPair (o : B2) (a b : Pr) : Pr :=
  let e := if a = b then a else .bi o a b
  match o with
  | .and => if a = .tt then b else if b = .tt then a else if a = .ff then .ff else if b = .ff then .ff else e
  | .or => if a = .ff then b else if b = .ff then a else if a = .tt then .tt else if b = .tt then .tt else e
  | .U => if b = .tt ∨ b = .ff then b else if a = .ff then b else e
  | .R => if b = .tt ∨ b = .ff then b else if a = .tt then b else e
  | _ => e
def prX (o : U1) (a : Pr) : Pr := if o = .X ∧ (a = .tt ∨ a = .ff) then a else .un o a
def Pr.simp : Pr → Pr
  | .un o a => prX o a.simp
  | .bi o a b => prPair o a.simp b.simp
  | t => t
end Go.Sc

namespace Go.Sc
open Go Go.Cm

def Rd (a b : Int) (op nm : ByteArray) (ks : List D) (p : Int) : Prop :=
  ∃ f t, ofD (fmD op nm ks p) = some f ∧ Fm.abs f = some t ∧ sameF f t.fm = true ∧ (t.sz : Int) ≤ b - a
def Good (a : Int) : PR → Prop
  | .ok op nm ks p b => Rd a b op nm ks p
  | _ => True
end Go.Sc

namespace Go.Sc
open Go Go.Cm

theorem toksL_last : ∀ (n : Nat) (l : T8) (p : Nat) (r : List Tok), toksL n l p = .inr r → ∃ us q, r = us ++ [(0, [], q)]
  | 0, l, p, r, h => by simp [toksL] at h
  | n + 1, l, p, r, h => by
    unfold toksL at h
    simp only at h
    split at h
    · cases h; exact ⟨[], p, rfl⟩
    · split at h
      · cases h
      · split at h
        · cases h
        · rename_i r' e
          cases h
          obtain ⟨us, q, rfl⟩ := toksL_last n _ _ _ e
          exact ⟨_ :: us, q, rfl⟩
structure Ends (xs : List D) : Prop where
  tk : ∀ a : Int, 0 ≤ a → a < xs.length → ∃ c t p, Go.Sc.tk xs a = some (c, t, p)
  last : ∀ (a c : Int) (t : ByteArray) (p : Int), 0 ≤ a → Go.Sc.tk xs a = some (c, t, p) → c ≠ 0 → a + 1 < xs.length
theorem ends_tok {l : T8} {ts : List Tok} (h : tokS l = .inr ts) : Ends (ts.map tokT) ∧ 0 < ts.length := by
  obtain ⟨us, q, rfl⟩ := toksL_last _ _ _ _ h
  have hg : ∀ a : Int, 0 ≤ a → a < ((us ++ [((0 : Int), ([] : T8), q)]).map tokT).length → ∃ h : a.toNat < (us ++ [((0 : Int), ([] : T8), q)]).length,
      tk ((us ++ [((0 : Int), ([] : T8), q)]).map tokT) a = some (((us ++ [((0 : Int), ([] : T8), q)])[a.toNat]).1, B ((us ++ [((0 : Int), ([] : T8), q)])[a.toNat]).2.1, (((us ++ [((0 : Int), ([] : T8), q)])[a.toNat]).2.2 : Int)) := fun a h0 h1 => by
    rw [List.length_map] at h1
    have hlt : a.toNat < (us ++ [((0 : Int), ([] : T8), q)]).length := by omega
    refine ⟨hlt, ?_⟩
    unfold tk
    rw [List.getElem?_map, List.getElem?_eq_getElem hlt]
    rfl
  refine ⟨⟨fun a h0 h1 => ?_, fun a c t p h0 hk hc => ?_⟩, by simp⟩
  · obtain ⟨_, e⟩ := hg a h0 h1
    exact ⟨_, _, _, e⟩
  · have h1 := tk_lt hk h0
    obtain ⟨hlt, e⟩ := hg a h0 h1
    rw [hk] at e
    simp only [Option.some.injEq, Prod.mk.injEq] at e
    rw [List.length_map] at h1 ⊢
    rcases Int.lt_or_le (a + 1) ((us ++ [((0 : Int), ([] : T8), q)]).length : Nat) with h | h
    · exact h
    · exfalso
      apply hc
      rw [e.1, List.getElem_append_right (by simp at h ⊢; omega)]
      simp
def In (xs : List D) (a : Int) : Prop := 0 ≤ a ∧ a < xs.length
def NB (xs : List D) : PR → Prop
  | .ok _ _ _ _ b => In xs b
  | .no => False
  | _ => True
theorem isT_nz {c : Int} {t s : ByteArray} (h : isT c t s = true) : c ≠ 0 := by
  unfold isT at h
  simp only [Bool.and_eq_true, Bool.or_eq_true, beq_iff_eq] at h
  omega
variable {xs : List D}
theorem nb_deep (hx : Ends xs) {a : Int} (ha : In xs a) : NB xs (deepP xs a) := by
  obtain ⟨c, t, p, e⟩ := hx.tk a ha.1 ha.2
  simp only [deepP, e, NB]
theorem nb_chainL (hx : Ends xs) (op : ByteArray) (one : Int → PR) (h1 : ∀ a, In xs a → NB xs (one a)) (h2 : ∀ a, Adv a (one a)) : ∀ (n : Nat) (q nm : ByteArray) (ks : List D) (p a : Int), In xs a → (xs.length : Int) - a < n → NB xs (chainL xs op one n q nm ks p a)
  | 0, _, _, _, _, a, ha, hn => by have := ha.2; omega
  | n + 1, q, nm, ks, p, a, ha, hn => by
    obtain ⟨c, t, p2, e⟩ := hx.tk a ha.1 ha.2
    unfold chainL
    simp only [e]
    split
    · rename_i ht
      have hin : In xs (a + 1) := ⟨by have := ha.1; omega, hx.last a c t p2 ha.1 e (isT_nz ht)⟩
      have g1 := h1 (a + 1) hin
      have g2 := h2 (a + 1)
      split
      · rename_i e; rw [e] at g1 g2
        simp only [Adv] at g2
        exact nb_chainL hx op one h1 h2 n _ _ _ _ _ g1 (by omega)
      · trivial
      · trivial
      · rename_i e; rw [e] at g1; exact g1.elim
    · exact ha
theorem nb_chainP (hx : Ends xs) (op : ByteArray) (one : Int → PR) (h1 : ∀ a, In xs a → NB xs (one a)) (h2 : ∀ a, Adv a (one a)) (a : Int) (ha : In xs a) : NB xs (chainP xs op one a) := by
  have g1 := h1 a ha
  unfold chainP
  split
  · rename_i e; rw [e] at g1
    exact nb_chainL hx op one h1 h2 _ _ _ _ _ _ g1 (by have := g1.1; omega)
  · trivial
  · trivial
  · rename_i e; rw [e] at g1; exact g1.elim
theorem nb_rightP (hx : Ends xs) (one : Int → PR) (h1 : ∀ a, In xs a → NB xs (one a)) (o nm : ByteArray) (ks : List D) (p : Int) : ∀ (ops : List ByteArray) (a : Int), In xs a → NB xs (rightP xs one o nm ks p ops a)
  | [], a, h => h
  | op :: ops, a, ha => by
    obtain ⟨c, t, p2, e⟩ := hx.tk a ha.1 ha.2
    unfold rightP
    simp only [e]
    split
    · rename_i ht
      have hin : In xs (a + 1) := ⟨by have := ha.1; omega, hx.last a c t p2 ha.1 e (isT_nz ht)⟩
      have g1 := h1 (a + 1) hin
      split
      · rename_i e; rw [e] at g1; exact g1
      · trivial
      · trivial
      · rename_i e; rw [e] at g1; exact g1.elim
    · exact nb_rightP hx one h1 o nm ks p ops a ha
theorem nb_singleP (hx : Ends xs) (P : PF) (h1 : ∀ a, In xs a → NB xs (P.single a)) (h2 : ∀ a, In xs a → NB xs (P.imply a)) (a : Int) (ha : In xs a) : NB xs (singleP xs P a) := by
  obtain ⟨c, t, p, e⟩ := hx.tk a ha.1 ha.2
  have nx : c ≠ 0 → In xs (a + 1) := fun h => ⟨by have := ha.1; omega, hx.last a c t p ha.1 e h⟩
  unfold singleP
  simp only [e]
  split
  · rename_i h; exact nx (by omega)
  · split
    · rename_i h
      exact nx (by rcases h with h | h <;> exact isT_nz h)
    · split
      · rename_i h
        have g := h1 (a + 1) (nx (by rcases h with h | h | h | h <;> exact isT_nz h))
        split
        · rename_i e; rw [e] at g; exact g
        · trivial
        · trivial
        · rename_i e; rw [e] at g; exact g.elim
      · split
        · rename_i h
          have g := h2 (a + 1) (nx (isT_nz h))
          split
          · rename_i b e2; rw [e2] at g
            obtain ⟨c2, t2, q2, e3⟩ := hx.tk _ g.1 g.2
            simp only [e3]
            split
            · rename_i h3
              exact ⟨by have := g.1; omega, hx.last _ _ _ _ g.1 e3 (isT_nz h3)⟩
            · trivial
          · trivial
          · trivial
          · rename_i e; rw [e] at g; exact g.elim
        · trivial
theorem nb_untlP (hx : Ends xs) (s u : Int → PR) (h1 : ∀ a, In xs a → NB xs (s a)) (h2 : ∀ a, In xs a → NB xs (u a)) (a : Int) (ha : In xs a) : NB xs (untlP xs s u a) := by
  have g := h1 a ha
  unfold untlP
  split
  · rename_i e; rw [e] at g; exact nb_rightP hx u h2 _ _ _ _ _ _ g
  · trivial
  · trivial
  · rename_i e; rw [e] at g; exact g.elim
theorem nb_implyP (hx : Ends xs) (u i : Int → PR) (h1 : ∀ a, In xs a → NB xs (u a)) (h1' : ∀ a, Adv a (u a)) (h2 : ∀ a, In xs a → NB xs (i a)) (a : Int) (ha : In xs a) : NB xs (implyP xs u i a) := by
  have g := nb_chainP hx ⟨#[124]⟩ (kP xs u) (fun a ha => nb_chainP hx ⟨#[38]⟩ u h1 h1' a ha) (fun a => adv_chainP xs ⟨#[38]⟩ u h1' a) a ha
  unfold implyP
  split
  · rename_i e; rw [e] at g; exact nb_rightP hx i h2 _ _ _ _ _ _ g
  · trivial
  · trivial
  · rename_i e; rw [e] at g; exact g.elim
theorem nb_pf (hx : Ends xs) : ∀ n : Nat, (∀ a, In xs a → NB xs ((pf xs n).single a)) ∧ (∀ a, In xs a → NB xs ((pf xs n).untl a)) ∧ ∀ a, In xs a → NB xs ((pf xs n).imply a)
  | 0 => ⟨fun a => nb_deep hx, fun a => nb_deep hx, fun a => nb_deep hx⟩
  | n + 1 => by
    obtain ⟨h1, h2, h3⟩ := nb_pf hx n
    obtain ⟨a1, a2, a3⟩ := adv_pf xs (n + 1)
    have s := nb_singleP hx (pf xs n) h1 h3
    have u := nb_untlP hx _ _ s h2
    exact ⟨s, u, nb_implyP hx _ _ u a2 h3⟩
theorem parse_bad (s : ByteArray) (d : Int) : parseP s d ≠ .bad := by
  unfold parseP
  split
  · exact fun h => by cases h
  · split
    · exact fun h => by cases h
    · split
      · exact fun h => by cases h
      · rename_i l hl
        obtain ⟨hx, h0⟩ := ends_tok hl
        have g := (nb_pf hx d.toNat).2.2 0 ⟨by omega, by rw [List.length_map]; omega⟩
        change NB _ (pImply (l.map tokT) d.toNat 0) at g
        unfold endP
        split
        · rename_i e; rw [e] at g
          obtain ⟨c, t, q, e2⟩ := hx.tk _ g.1 g.2
          rw [e2]
          simp only
          split <;> exact fun h => by cases h
        · exact fun h => by cases h
        · exact fun h => by cases h
        · rename_i e; rw [e] at g; exact g.elim
end Go.Sc

namespace Go.Sc
open Go Go.Cm

def finB (p q : Nat → Bool) (e : Bool) : Nat → Nat → Bool
  | 0, _ => e
  | r + 1, i => p i || (q i && finB p q e r (i + 1))
def nxN (n bk i : Nat) : Nat := if i + 1 < n then i + 1 else bk
def posN (n bk : Nat) : Nat → Nat
  | 0 => 0
  | k + 1 => nxN n bk (posN n bk k)
section
variable {n bk : Nat} {p q : Nat → Bool}
def edgeB (p q : Nat → Bool) (n bk : Nat) (t : Bool) : Bool := finB p q t (n - bk) bk
def walkB (p q : Nat → Bool) (n bk : Nat) (t : Bool) (i : Nat) : Bool := finB p q (edgeB p q n bk t) (n - i) i
def UntP (P Q : Nat → Prop) (k : Nat) : Prop := ∃ d, P (k + d) ∧ ∀ j, j < d → Q (k + j)
end
def Pr.sat (lb : ByteArray → Nat → Prop) : Pr → Nat → Prop
  | .tt, _ => True
  | .ff, _ => False
  | .lab s, k => lb s k
  | .un .no a, k => ¬ a.sat lb k
  | .un .X a, k => a.sat lb (k + 1)
  | .un .F a, k => ∃ d, a.sat lb (k + d)
  | .un .G a, k => ∀ d, a.sat lb (k + d)
  | .bi .and a b, k => a.sat lb k ∧ b.sat lb k
  | .bi .or a b, k => a.sat lb k ∨ b.sat lb k
  | .bi .imp a b, k => a.sat lb k → b.sat lb k
  | .bi .U a b, k => UntP (b.sat lb) (a.sat lb) k
  | .bi .W a b, k => UntP (b.sat lb) (a.sat lb) k ∨ ∀ d, a.sat lb (k + d)
  | .bi .R a b, k => UntP (fun i => b.sat lb i ∧ a.sat lb i) (b.sat lb) k ∨ ∀ d, b.sat lb (k + d)
def Pr.labs (ok : ByteArray → Prop) : Pr → Prop
  | .tt => True
  | .ff => True
  | .lab s => ok s
  | .un _ a => a.labs ok
  | .bi _ a b => a.labs ok ∧ b.labs ok
end Go.Sc

/- Formulas by their operations. -/
import Derived.Test.YtbpndgllhhajoaaDoorPg
import Derived.Test.YtbpndgllhhajoaaDoorMd
set_option linter.unusedVariables false
set_option linter.unusedSimpArgs false
namespace Go.Sc
open Go Go.Cm

inductive U1 where
  | no | X | F | G
  deriving DecidableEq
inductive B2 where
  | and | or | imp | U | W | R
  deriving DecidableEq
inductive Pr where
  | tt | ff
  | lab (s : ByteArray)
  | un (o : U1) (a : Pr)
  | bi (o : B2) (a b : Pr)
  deriving DecidableEq
def U1.b : U1 → ByteArray
  | .no => ⟨#[33]⟩ | .X => ⟨#[88]⟩ | .F => ⟨#[70]⟩ | .G => ⟨#[71]⟩
def B2.b : B2 → ByteArray
  | .and => ⟨#[38]⟩ | .or => ⟨#[124]⟩ | .imp => ⟨#[61, 62]⟩ | .U => ⟨#[85]⟩ | .W => ⟨#[87]⟩ | .R => ⟨#[82]⟩
def U1.s : U1 → T8
  | .no => [33] | .X => [88] | .F => [70] | .G => [71]
def B2.s : B2 → T8
  | .and => [38] | .or => [124] | .imp => [61, 62] | .U => [85] | .W => [87] | .R => [82]
def u1? (l : T8) : Option U1 := if l == [33] then some .no else if l == [88] then some .X else if l == [70] then some .F else if l == [71] then some .G else none
def b2? (l : T8) : Option B2 := if l == [38] then some .and else if l == [124] then some .or else if l == [61, 62] then some .imp else if l == [85] then some .U else if l == [87] then some .W else if l == [82] then some .R else none
def u1A (l : T8) (x : Option Pr) : Option Pr := match u1? l, x with | some o, some x => some (.un o x) | _, _ => none
def b2A (l : T8) (x y : Option Pr) : Option Pr := match b2? l, x, y with | some o, some x, some y => some (.bi o x y) | _, _, _ => none
def Fm.abs : Fm → Option Pr
  | .mk op nm ks _ => match ks with
    | [] => if op.toList == oTrue then some .tt else if op.toList == oFalse then some .ff else if op.toList == oLabel then some (.lab nm) else none
    | [a] => u1A op.toList a.abs
    | [a, b] => b2A op.toList a.abs b.abs
    | _ => none
def Pr.fm : Pr → Fm
  | .tt => nd bTrue []
  | .ff => nd bFalse []
  | .lab s => labF s
  | .un o a => nd o.b [a.fm]
  | .bi o a b => nd o.b [a.fm, b.fm]
theorem B_lit (l : T8) : ByteArray.toList ⟨l.toArray⟩ = l := by rw [ByteArray.toList_eq]
theorem U1.b_s (o : U1) : o.b.toList = o.s := by cases o <;> exact B_lit _
theorem B2.b_s (o : B2) : o.b.toList = o.s := by cases o <;> exact B_lit _
theorem u1_s {l : T8} {o : U1} (h : u1? l = some o) : l = o.s := by
  unfold u1? at h
  repeat' split at h
  all_goals first | (cases h; done) | (rename_i e; cases h; exact eq_of_beq e)
theorem b2_s {l : T8} {o : B2} (h : b2? l = some o) : l = o.s := by
  unfold b2? at h
  repeat' split at h
  all_goals first | (cases h; done) | (rename_i e; cases h; exact eq_of_beq e)
theorem u1_of (o : U1) : u1? o.s = some o := by cases o <;> rfl
theorem b2_of (o : B2) : b2? o.s = some o := by cases o <;> rfl
theorem u1A_some {l : T8} {x : Option Pr} {t : Pr} (h : u1A l x = some t) : ∃ o a, l = U1.s o ∧ x = some a ∧ t = .un o a := by
  unfold u1A at h
  cases e : u1? l with
  | none => simp [e] at h
  | some o =>
    cases x with
    | none => simp [e] at h
    | some a => simp only [e, Option.some.injEq] at h; exact ⟨o, a, u1_s e, rfl, h.symm⟩
theorem b2A_some {l : T8} {x y : Option Pr} {t : Pr} (h : b2A l x y = some t) : ∃ o a b, l = B2.s o ∧ x = some a ∧ y = some b ∧ t = .bi o a b := by
  unfold b2A at h
  cases e : b2? l with
  | none => simp [e] at h
  | some o =>
    cases x with
    | none => simp [e] at h
    | some a =>
      cases y with
      | none => simp [e] at h
      | some b => simp only [e, Option.some.injEq] at h; exact ⟨o, a, b, b2_s e, rfl, rfl, h.symm⟩
theorem abs_inv {f : Fm} {t : Pr} (h : f.abs = some t) :
    (∃ op nm p, f = .mk op nm [] p ∧ ((op.toList = oTrue ∧ t = .tt) ∨ (op.toList = oFalse ∧ t = .ff) ∨ (op.toList = oLabel ∧ t = .lab nm))) ∨
    (∃ op nm a p o x, f = .mk op nm [a] p ∧ op.toList = U1.s o ∧ a.abs = some x ∧ t = .un o x) ∨
    (∃ op nm a b p o x y, f = .mk op nm [a, b] p ∧ op.toList = B2.s o ∧ a.abs = some x ∧ b.abs = some y ∧ t = .bi o x y) := by
  cases f with
  | mk op nm ks p =>
    unfold Fm.abs at h
    split at h
    · left
      refine ⟨op, nm, p, rfl, ?_⟩
      repeat' split at h
      · rename_i e; cases h; exact .inl ⟨by simpa using e, rfl⟩
      · rename_i e; cases h; exact .inr (.inl ⟨by simpa using e, rfl⟩)
      · rename_i e; cases h; exact .inr (.inr ⟨by simpa using e, rfl⟩)
      · cases h
    · rename_i a
      obtain ⟨o, x, h1, h2, h3⟩ := u1A_some h
      exact .inr (.inl ⟨op, nm, a, p, o, x, rfl, h1, h2, h3⟩)
    · rename_i a b
      obtain ⟨o, x, y, h1, h2, h3, h4⟩ := b2A_some h
      exact .inr (.inr ⟨op, nm, a, b, p, o, x, y, rfl, h1, h2, h3, h4⟩)
    · cases h
theorem abs_fm : ∀ t : Pr, t.fm.abs = some t
  | .tt => by simp only [Pr.fm, nd, bTrue, Fm.abs, show ByteArray.toList ⟨#[116, 114, 117, 101]⟩ = oTrue from B_lit oTrue]; rfl
  | .ff => by simp only [Pr.fm, nd, bFalse, Fm.abs, show ByteArray.toList ⟨#[102, 97, 108, 115, 101]⟩ = oFalse from B_lit oFalse]; rfl
  | .lab s => by
    simp only [Pr.fm, labF, Fm.abs, show ByteArray.toList ⟨#[108, 97, 98, 101, 108]⟩ = oLabel from B_lit oLabel]; rfl
  | .un o a => by
    simp only [Pr.fm, nd, Fm.abs, u1A, U1.b_s, u1_of, abs_fm a]
  | .bi o a b => by
    simp only [Pr.fm, nd, Fm.abs, b2A, B2.b_s, b2_of, abs_fm a, abs_fm b]
theorem kidsN_u (op : ByteArray) (o : U1) (h : op.toList = o.s) : kidsN op = 1 := by unfold kidsN; rw [h]; cases o <;> rfl
theorem kidsN_b (op : ByteArray) (o : B2) (h : op.toList = o.s) : kidsN op = 2 := by unfold kidsN; rw [h]; cases o <;> rfl
theorem formF_abs : ∀ (t : Pr) (f : Fm), f.abs = some t → formF f = true
  | t, f, h => by
    rcases abs_inv h with ⟨op, nm, p, rfl, h1⟩ | ⟨op, nm, a, p, o, x, rfl, h1, h2, rfl⟩ | ⟨op, nm, a, b, p, o, x, y, rfl, h1, h2, h3, rfl⟩
    · simp only [formF, formL, Bool.and_true]
      unfold kidsN
      rcases h1 with ⟨h1, rfl⟩ | ⟨h1, rfl⟩ | ⟨h1, rfl⟩ <;> rw [h1] <;> rfl
    · simp only [formF, formL, formF_abs x a h2, kidsN_u op o h1]; rfl
    · simp only [formF, formL, formF_abs x a h2, formF_abs y b h3, kidsN_b op o h1]; rfl
theorem kidsN_all (op : ByteArray) : (kidsN op = 0 ∧ (op.toList = oTrue ∨ op.toList = oFalse ∨ op.toList = oLabel)) ∨ (kidsN op = 1 ∧ ∃ o : U1, op.toList = o.s) ∨ (kidsN op = 2 ∧ ∃ o : B2, op.toList = o.s) ∨ kidsN op = -1 := by
  unfold kidsN
  by_cases h0 : (op.toList == [116, 114, 117, 101]) = true
  · exact .inl ⟨if_pos h0, .inl (eq_of_beq h0)⟩
  rw [if_neg h0]
  by_cases h1 : (op.toList == [102, 97, 108, 115, 101]) = true
  · exact .inl ⟨if_pos h1, .inr (.inl (eq_of_beq h1))⟩
  rw [if_neg h1]
  by_cases h2 : (op.toList == [108, 97, 98, 101, 108]) = true
  · exact .inl ⟨if_pos h2, .inr (.inr (eq_of_beq h2))⟩
  rw [if_neg h2]
  by_cases h3 : (op.toList == [33]) = true
  · exact .inr (.inl ⟨if_pos h3, .no, eq_of_beq h3⟩)
  rw [if_neg h3]
  by_cases h4 : (op.toList == [88]) = true
  · exact .inr (.inl ⟨if_pos h4, .X, eq_of_beq h4⟩)
  rw [if_neg h4]
  by_cases h5 : (op.toList == [70]) = true
  · exact .inr (.inl ⟨if_pos h5, .F, eq_of_beq h5⟩)
  rw [if_neg h5]
  by_cases h6 : (op.toList == [71]) = true
  · exact .inr (.inl ⟨if_pos h6, .G, eq_of_beq h6⟩)
  rw [if_neg h6]
  by_cases h7 : (op.toList == [38]) = true
  · exact .inr (.inr (.inl ⟨if_pos h7, .and, eq_of_beq h7⟩))
  rw [if_neg h7]
  by_cases h8 : (op.toList == [124]) = true
  · exact .inr (.inr (.inl ⟨if_pos h8, .or, eq_of_beq h8⟩))
  rw [if_neg h8]
  by_cases h9 : (op.toList == [61, 62]) = true
  · exact .inr (.inr (.inl ⟨if_pos h9, .imp, eq_of_beq h9⟩))
  rw [if_neg h9]
  by_cases h10 : (op.toList == [85]) = true
  · exact .inr (.inr (.inl ⟨if_pos h10, .U, eq_of_beq h10⟩))
  rw [if_neg h10]
  by_cases h11 : (op.toList == [87]) = true
  · exact .inr (.inr (.inl ⟨if_pos h11, .W, eq_of_beq h11⟩))
  rw [if_neg h11]
  by_cases h12 : (op.toList == [82]) = true
  · exact .inr (.inr (.inl ⟨if_pos h12, .R, eq_of_beq h12⟩))
  rw [if_neg h12]
  exact .inr (.inr (.inr rfl))
theorem kidsN_0 {op : ByteArray} (h : kidsN op = 0) : op.toList = oTrue ∨ op.toList = oFalse ∨ op.toList = oLabel := by
  rcases kidsN_all op with ⟨_, e⟩ | ⟨e, _⟩ | ⟨e, _⟩ | e
  · exact e
  all_goals rw [h] at e; cases e
theorem kidsN_1 {op : ByteArray} (h : kidsN op = 1) : ∃ o : U1, op.toList = o.s := by
  rcases kidsN_all op with ⟨e, _⟩ | ⟨_, e⟩ | ⟨e, _⟩ | e
  · rw [h] at e; cases e
  · exact e
  all_goals rw [h] at e; cases e
theorem kidsN_2 {op : ByteArray} (h : kidsN op = 2) : ∃ o : B2, op.toList = o.s := by
  rcases kidsN_all op with ⟨e, _⟩ | ⟨e, _⟩ | ⟨_, e⟩ | e
  · rw [h] at e; cases e
  · rw [h] at e; cases e
  · exact e
  · rw [h] at e; cases e
theorem kidsN_le (op : ByteArray) : kidsN op ≤ 2 := by
  rcases kidsN_all op with ⟨e, _⟩ | ⟨e, _⟩ | ⟨e, _⟩ | e <;> rw [e] <;> decide
theorem abs_formF : ∀ (f : Fm), formF f = true → ∃ t, f.abs = some t
  | .mk op nm ks p, h => by
    simp only [formF, Bool.and_eq_true, beq_iff_eq] at h
    have hk := kidsN_le op
    match ks, h with
    | [], h =>
      rcases kidsN_0 h.1 with e | e | e
      · exact ⟨.tt, by simp only [Fm.abs, e]; rfl⟩
      · exact ⟨.ff, by simp only [Fm.abs, e]; rfl⟩
      · exact ⟨.lab nm, by simp only [Fm.abs, e]; rfl⟩
    | [a], h =>
      obtain ⟨o, e⟩ := kidsN_1 (op := op) (by rw [h.1]; rfl)
      simp only [formL, Bool.and_true] at h
      obtain ⟨t, ht⟩ := abs_formF a h.2
      exact ⟨.un o t, by simp only [Fm.abs, u1A, e, u1_of, ht]⟩
    | [a, b], h =>
      obtain ⟨o, e⟩ := kidsN_2 (op := op) (by rw [h.1]; rfl)
      simp only [formL, Bool.and_true, Bool.and_eq_true] at h
      obtain ⟨t, ht⟩ := abs_formF a h.2.1
      obtain ⟨u, hu⟩ := abs_formF b h.2.2
      exact ⟨.bi o t u, by simp only [Fm.abs, b2A, e, b2_of, ht, hu]⟩
    | a :: b :: c :: r, h =>
      exfalso
      have := h.1
      simp only [List.length_cons] at this
      omega
end Go.Sc

namespace Go.Sc
open Go Go.Cm

def B2.dual : B2 → B2
  | .and => .or | .or => .and | .U => .R | .R => .U | o => o
def B2.nt (o : B2) (n : Bool) : B2 := match n with | true => o.dual | false => o
def Pr.nf : Pr → Bool → Pr
  | .tt, n => match n with | true => .ff | false => .tt
  | .ff, n => match n with | true => .tt | false => .ff
  | .lab s, n => match n with | true => .un .no (.lab s) | false => .lab s
  | .un .no a, n => a.nf (!n)
  | .un .X a, n => .un .X (a.nf n)
  | .un .F a, n => match n with | true => .bi .R .ff (a.nf n) | false => .bi .U .tt (a.nf n)
  | .un .G a, n => match n with | true => .bi .U .tt (a.nf n) | false => .bi .R .ff (a.nf n)
  | .bi .imp a b, n => match n with | true => .bi .and (a.nf false) (b.nf true) | false => .bi .or (a.nf true) (b.nf false)
  | .bi .W a b, n => match n with | true => .bi .U (b.nf n) (.bi .and (a.nf n) (b.nf n)) | false => .bi .R (b.nf n) (.bi .or (a.nf n) (b.nf n))
  | .bi o a b, n => .bi (o.nt n) (a.nf n) (b.nf n)
def Pr.sz : Pr → Nat
  | .un _ a => a.sz + 1
  | .bi _ a b => a.sz + b.sz + 1
  | _ => 1
theorem Pr.sz_pos (t : Pr) : 1 ≤ t.sz := by cases t <;> simp only [Pr.sz] <;> omega
def Pr.ok : Pr → Bool
  | .un .no (.lab _) => true
  | .un .X a => a.ok
  | .un _ _ => false
  | .bi .imp _ _ => false
  | .bi .W _ _ => false
  | .bi _ a b => a.ok && b.ok
  | _ => true
theorem Pr.nf_ok : ∀ (t : Pr) (n : Bool), (t.nf n).ok = true
  | .tt, n => by cases n <;> rfl
  | .ff, n => by cases n <;> rfl
  | .lab s, n => by cases n <;> rfl
  | .un .no a, n => by simp only [Pr.nf]; exact nf_ok a _
  | .un .X a, n => by simp only [Pr.nf, Pr.ok]; exact nf_ok a _
  | .un .F a, n => by cases n <;> simp only [Pr.nf, Pr.ok, nf_ok a, Bool.and_true]
  | .un .G a, n => by cases n <;> simp only [Pr.nf, Pr.ok, nf_ok a, Bool.and_true]
  | .bi .imp a b, n => by cases n <;> simp only [Pr.nf, Pr.ok, nf_ok a, nf_ok b, Bool.and_true]
  | .bi .W a b, n => by cases n <;> simp only [Pr.nf, Pr.ok, nf_ok a, nf_ok b, Bool.and_true]
  | .bi .and a b, n => by cases n <;> simp only [Pr.nf, B2.nt, B2.dual, Pr.ok, nf_ok a, nf_ok b, Bool.and_true]
  | .bi .or a b, n => by cases n <;> simp only [Pr.nf, B2.nt, B2.dual, Pr.ok, nf_ok a, nf_ok b, Bool.and_true]
  | .bi .U a b, n => by cases n <;> simp only [Pr.nf, B2.nt, B2.dual, Pr.ok, nf_ok a, nf_ok b, Bool.and_true]
  | .bi .R a b, n => by cases n <;> simp only [Pr.nf, B2.nt, B2.dual, Pr.ok, nf_ok a, nf_ok b, Bool.and_true]
theorem Pr.nf_id : ∀ (t : Pr), t.ok = true → t.nf false = t
  | .tt, _ => rfl
  | .ff, _ => rfl
  | .lab s, _ => rfl
  | .un .no (.lab s), _ => rfl
  | .un .X a, h => by simp only [Pr.nf, nf_id a h]
  | .un .no (.un _ _), h => by simp [Pr.ok] at h
  | .un .no (.bi _ _ _), h => by simp [Pr.ok] at h
  | .un .no .tt, h => by simp [Pr.ok] at h
  | .un .no .ff, h => by simp [Pr.ok] at h
  | .un .F a, h => by simp [Pr.ok] at h
  | .un .G a, h => by simp [Pr.ok] at h
  | .bi .imp a b, h => by simp [Pr.ok] at h
  | .bi .W a b, h => by simp [Pr.ok] at h
  | .bi .and a b, h => by simp only [Pr.ok, Bool.and_eq_true] at h; simp only [Pr.nf, B2.nt, nf_id a h.1, nf_id b h.2]
  | .bi .or a b, h => by simp only [Pr.ok, Bool.and_eq_true] at h; simp only [Pr.nf, B2.nt, nf_id a h.1, nf_id b h.2]
  | .bi .U a b, h => by simp only [Pr.ok, Bool.and_eq_true] at h; simp only [Pr.nf, B2.nt, nf_id a h.1, nf_id b h.2]
  | .bi .R a b, h => by simp only [Pr.ok, Bool.and_eq_true] at h; simp only [Pr.nf, B2.nt, nf_id a h.1, nf_id b h.2]
theorem Pr.nf_nf : ∀ (t : Pr), t.ok = true → (t.nf true).nf true = t
  | .tt, _ => rfl
  | .ff, _ => rfl
  | .lab s, _ => rfl
  | .un .no (.lab s), _ => rfl
  | .un .X a, h => by simp only [Pr.nf, nf_nf a h]
  | .un .no (.un _ _), h => by simp [Pr.ok] at h
  | .un .no (.bi _ _ _), h => by simp [Pr.ok] at h
  | .un .no .tt, h => by simp [Pr.ok] at h
  | .un .no .ff, h => by simp [Pr.ok] at h
  | .un .F a, h => by simp [Pr.ok] at h
  | .un .G a, h => by simp [Pr.ok] at h
  | .bi .imp a b, h => by simp [Pr.ok] at h
  | .bi .W a b, h => by simp [Pr.ok] at h
  | .bi .and a b, h => by simp only [Pr.ok, Bool.and_eq_true] at h; simp only [Pr.nf, B2.nt, B2.dual, nf_nf a h.1, nf_nf b h.2]
  | .bi .or a b, h => by simp only [Pr.ok, Bool.and_eq_true] at h; simp only [Pr.nf, B2.nt, B2.dual, nf_nf a h.1, nf_nf b h.2]
  | .bi .U a b, h => by simp only [Pr.ok, Bool.and_eq_true] at h; simp only [Pr.nf, B2.nt, B2.dual, nf_nf a h.1, nf_nf b h.2]
  | .bi .R a b, h => by simp only [Pr.ok, Bool.and_eq_true] at h; simp only [Pr.nf, B2.nt, B2.dual, nf_nf a h.1, nf_nf b h.2]

def MK (t : Pr) (n : Bool) (l : Int) (r : Option (Fm × Int)) : Prop :=
  (((t.nf n).sz : Int) ≤ l → r = some ((t.nf n).fm, l - (t.nf n).sz)) ∧ (l < ((t.nf n).sz : Int) → ∃ x l', r = some (x, l') ∧ l' < 0)
theorem mk_neg {t : Pr} {n : Bool} {l : Int} (h : l - 1 < 0) : MK t n l (some (zeroF, l - 1)) :=
  ⟨fun h1 => by have := (t.nf n).sz_pos; omega, fun _ => ⟨_, _, rfl, h⟩⟩
theorem mk_two {a b : Fm} {x y : Pr} {i j : Bool} {l : Int} {c : Fm → Fm → Fm} (ha : ∀ n l, MK x n l (makeF a n l)) (hb : ∀ n l, MK y n l (makeF b n l)) :
    (((x.nf i).sz + (y.nf j).sz : Nat) ≤ l → (match makeF a i l with | some (u, l2) => (match makeF b j l2 with | some (v, l3) => some (c u v, l3) | none => none) | none => none) = some (c (x.nf i).fm (y.nf j).fm, l - ((x.nf i).sz + (y.nf j).sz : Nat))) ∧
    (l < ((x.nf i).sz + (y.nf j).sz : Nat) → ∃ z l', (match makeF a i l with | some (u, l2) => (match makeF b j l2 with | some (v, l3) => some (c u v, l3) | none => none) | none => none) = some (z, l') ∧ l' < 0) := by
  have h1 := ha i l
  have hp := (y.nf j).sz_pos
  refine ⟨fun h => ?_, fun h => ?_⟩
  · rw [h1.1 (by omega)]
    simp only
    rw [(hb j _).1 (by omega)]
    simp only [Option.some.injEq, Prod.mk.injEq, true_and]
    omega
  · by_cases hx : ((x.nf i).sz : Int) ≤ l
    · rw [h1.1 hx]
      simp only
      obtain ⟨z, l', e, hl⟩ := (hb j (l - (x.nf i).sz)).2 (by omega)
      rw [e]
      exact ⟨_, _, rfl, hl⟩
    · obtain ⟨z, l', e, hl⟩ := h1.2 (by omega)
      rw [e]
      simp only
      obtain ⟨z2, l2, e2, hl2⟩ := (hb j l').2 (by omega)
      rw [e2]
      exact ⟨_, _, rfl, hl2⟩
end Go.Sc

namespace Go.Sc
open Go Go.Cm

theorem B_toList (op : ByteArray) : (⟨op.toList.toArray⟩ : ByteArray) = op := by
  cases op; rw [ByteArray.toList_eq]
theorem mk_cast {t : Pr} {n : Bool} {l : Int} {r r' : Option (Fm × Int)} (h : MK t n l r) (e : r' = r) : MK t n l r' := e ▸ h
theorem makeF_nf : ∀ (t : Pr) (f : Fm), f.abs = some t → ∀ (n : Bool) (l : Int), MK t n l (makeF f n l)
  | t, f, h, n, l => by
    rcases abs_inv h with ⟨op, nm, p, rfl, h1⟩ | ⟨op, nm, a, p, o, x, rfl, h1, h2, rfl⟩ | ⟨op, nm, a, b, p, o, x, y, rfl, h1, h2, h3, rfl⟩
    all_goals
      unfold makeF
      by_cases hl : l - 1 < 0
      · rw [if_pos hl]; exact mk_neg hl
      rw [if_neg hl]
      unfold both4
    · have leaf : ∀ (u : Pr) (m : ByteArray), u.sz = 1 → nd m [] = u.fm → t.nf n = u → MK t n l (some (nd m [], l - 1)) := fun u m e1 e2 e3 => by
        unfold MK
        rw [e3, e1]
        exact ⟨fun _ => by rw [e2]; rfl, fun h => by omega⟩
      have bt : (⟨#[102, 97, 108, 115, 101]⟩ : ByteArray) = bFalse := rfl
      rcases h1 with ⟨h1, rfl⟩ | ⟨h1, rfl⟩ | ⟨h1, rfl⟩ <;> rw [h1]
      · rw [if_neg (show ¬ (oTrue == [108, 97, 98, 101, 108]) = true by decide)]
        rw [if_neg (show ¬ (oTrue == [33]) = true by decide)]
        rw [if_neg (show ¬ (oTrue == [88]) = true by decide)]
        rw [if_neg (show ¬ (oTrue == [38] || oTrue == [124] || oTrue == [85] || oTrue == [82]) = true by decide)]
        rw [if_neg (show ¬ (oTrue == [61, 62]) = true by decide)]
        rw [if_neg (show ¬ (oTrue == [70] || oTrue == [71]) = true by decide)]
        rw [if_neg (show ¬ (oTrue == [87]) = true by decide)]
        cases n with
        | true =>
          have e : opN op true = bFalse := by
            unfold opN dualB; simp only [h1]; rfl
          rw [e]; exact leaf .ff _ rfl rfl rfl
        | false =>
          have e : opN op false = bTrue := by
            show op = _; rw [← B_toList op, h1]; rfl
          rw [e]; exact leaf .tt _ rfl rfl rfl
      · rw [if_neg (show ¬ (oFalse == [108, 97, 98, 101, 108]) = true by decide)]
        rw [if_neg (show ¬ (oFalse == [33]) = true by decide)]
        rw [if_neg (show ¬ (oFalse == [88]) = true by decide)]
        rw [if_neg (show ¬ (oFalse == [38] || oFalse == [124] || oFalse == [85] || oFalse == [82]) = true by decide)]
        rw [if_neg (show ¬ (oFalse == [61, 62]) = true by decide)]
        rw [if_neg (show ¬ (oFalse == [70] || oFalse == [71]) = true by decide)]
        rw [if_neg (show ¬ (oFalse == [87]) = true by decide)]
        cases n with
        | true =>
          have e : opN op true = bTrue := by
            unfold opN dualB; simp only [h1]; rfl
          rw [e]; exact leaf .tt _ rfl rfl rfl
        | false =>
          have e : opN op false = bFalse := by
            show op = _; rw [← B_toList op, h1]; rfl
          rw [e]; exact leaf .ff _ rfl rfl rfl
      · rw [if_pos (show (oLabel == [108, 97, 98, 101, 108]) = true by decide)]
        cases n with
        | true =>
          simp only
          by_cases h2 : l - 1 - 1 < 0
          · rw [if_pos h2]
            exact ⟨fun h => by simp only [Pr.nf, Pr.sz] at h; omega, fun _ => ⟨_, _, rfl, h2⟩⟩
          · rw [if_neg h2]
            refine ⟨fun h => ?_, fun h => by simp only [Pr.nf, Pr.sz] at h; omega⟩
            simp only [Pr.nf, Pr.sz, Pr.fm, U1.b, Option.some.injEq, Prod.mk.injEq, true_and]
            omega
        | false =>
          refine ⟨fun h => ?_, fun h => by simp only [Pr.nf, Pr.sz] at h; omega⟩
          simp only [Pr.nf, Pr.sz, Pr.fm, Option.some.injEq, Prod.mk.injEq, true_and]
          omega
    · have ih := makeF_nf x a h2
      rw [h1]
      cases o
      · rw [if_neg (show ¬ (U1.no.s == [108, 97, 98, 101, 108]) = true by decide)]
        rw [if_pos (show (U1.no.s == [33]) = true by decide)]
        rw [show l - 1 + 1 = l by omega]
        exact ih (!n) l
      · rw [if_neg (show ¬ (U1.X.s == [108, 97, 98, 101, 108]) = true by decide)]
        rw [if_neg (show ¬ (U1.X.s == [33]) = true by decide)]
        rw [if_pos (show (U1.X.s == [88]) = true by decide)]
        have h := ih n (l - 1)
        refine ⟨fun hs => ?_, fun hs => ?_⟩
        · simp only [Pr.nf, Pr.sz] at hs ⊢
          rw [h.1 (by omega)]
          simp only [Pr.fm, U1.b, Option.some.injEq, Prod.mk.injEq, true_and]
          omega
        · simp only [Pr.nf, Pr.sz] at hs
          obtain ⟨z, l', e, hl'⟩ := h.2 (by omega)
          simp only [e]
          exact ⟨_, _, rfl, hl'⟩
      · rw [if_neg (show ¬ (U1.F.s == [108, 97, 98, 101, 108]) = true by decide)]
        rw [if_neg (show ¬ (U1.F.s == [33]) = true by decide)]
        rw [if_neg (show ¬ (U1.F.s == [88]) = true by decide)]
        rw [if_neg (show ¬ (U1.F.s == [38] || U1.F.s == [124] || U1.F.s == [85] || U1.F.s == [82]) = true by decide)]
        rw [if_neg (show ¬ (U1.F.s == [61, 62]) = true by decide)]
        rw [if_pos (show (U1.F.s == [70] || U1.F.s == [71]) = true by decide)]
        have h := ih n (l - 1 - 1)
        cases n with
        | true =>
          refine ⟨fun hs => ?_, fun hs => ?_⟩
          · simp only [Pr.nf, Pr.sz] at hs ⊢
            rw [h.1 (by omega)]
            simp only [show ((U1.F.s == [70]) != true) = false from by decide, Pr.fm, B2.b, bTrue, bFalse, Option.some.injEq, Prod.mk.injEq, true_and]
            omega
          · simp only [Pr.nf, Pr.sz] at hs
            obtain ⟨z, l', e, hl'⟩ := h.2 (by omega)
            simp only [e]
            exact ⟨_, _, rfl, hl'⟩
        | false =>
          refine ⟨fun hs => ?_, fun hs => ?_⟩
          · simp only [Pr.nf, Pr.sz] at hs ⊢
            rw [h.1 (by omega)]
            simp only [show ((U1.F.s == [70]) != false) = true from by decide, Pr.fm, B2.b, bTrue, bFalse, Option.some.injEq, Prod.mk.injEq, true_and]
            omega
          · simp only [Pr.nf, Pr.sz] at hs
            obtain ⟨z, l', e, hl'⟩ := h.2 (by omega)
            simp only [e]
            exact ⟨_, _, rfl, hl'⟩
      · rw [if_neg (show ¬ (U1.G.s == [108, 97, 98, 101, 108]) = true by decide)]
        rw [if_neg (show ¬ (U1.G.s == [33]) = true by decide)]
        rw [if_neg (show ¬ (U1.G.s == [88]) = true by decide)]
        rw [if_neg (show ¬ (U1.G.s == [38] || U1.G.s == [124] || U1.G.s == [85] || U1.G.s == [82]) = true by decide)]
        rw [if_neg (show ¬ (U1.G.s == [61, 62]) = true by decide)]
        rw [if_pos (show (U1.G.s == [70] || U1.G.s == [71]) = true by decide)]
        have h := ih n (l - 1 - 1)
        cases n with
        | true =>
          refine ⟨fun hs => ?_, fun hs => ?_⟩
          · simp only [Pr.nf, Pr.sz] at hs ⊢
            rw [h.1 (by omega)]
            simp only [show ((U1.G.s == [70]) != true) = true from by decide, Pr.fm, B2.b, bTrue, bFalse, Option.some.injEq, Prod.mk.injEq, true_and]
            omega
          · simp only [Pr.nf, Pr.sz] at hs
            obtain ⟨z, l', e, hl'⟩ := h.2 (by omega)
            simp only [e]
            exact ⟨_, _, rfl, hl'⟩
        | false =>
          refine ⟨fun hs => ?_, fun hs => ?_⟩
          · simp only [Pr.nf, Pr.sz] at hs ⊢
            rw [h.1 (by omega)]
            simp only [show ((U1.G.s == [70]) != false) = false from by decide, Pr.fm, B2.b, bTrue, bFalse, Option.some.injEq, Prod.mk.injEq, true_and]
            omega
          · simp only [Pr.nf, Pr.sz] at hs
            obtain ⟨z, l', e, hl'⟩ := h.2 (by omega)
            simp only [e]
            exact ⟨_, _, rfl, hl'⟩
    · have iha := makeF_nf x a h2
      have ihb := makeF_nf y b h3
      rw [h1]
      cases o
      · rw [if_neg (show ¬ (B2.and.s == [108, 97, 98, 101, 108]) = true by decide)]
        rw [if_neg (show ¬ (B2.and.s == [33]) = true by decide)]
        rw [if_neg (show ¬ (B2.and.s == [88]) = true by decide)]
        rw [if_pos (show (B2.and.s == [38] || B2.and.s == [124] || B2.and.s == [85] || B2.and.s == [82]) = true by decide)]
        cases n with
        | true =>
          have e : opN op true = B2.or.b := by unfold opN dualB; simp only [h1]; rfl
          rw [e]
          obtain ⟨c1, c2⟩ := mk_two (c := fun u v => nd B2.or.b [u, v]) iha ihb (i := true) (j := true) (l := l - 1)
          refine ⟨fun hs => ?_, fun hs => ?_⟩
          · simp only [Pr.nf, B2.nt, B2.dual, Pr.sz] at hs
            refine (c1 (by omega)).trans ?_
            simp only [Pr.nf, B2.nt, B2.dual, Pr.sz, Pr.fm, B2.b, Option.some.injEq, Prod.mk.injEq, true_and]
            omega
          · simp only [Pr.nf, B2.nt, B2.dual, Pr.sz] at hs
            exact c2 (by omega)
        | false =>
          have e : opN op false = B2.and.b := by show op = _; rw [← B_toList op, h1]; rfl
          rw [e]
          obtain ⟨c1, c2⟩ := mk_two (c := fun u v => nd B2.and.b [u, v]) iha ihb (i := false) (j := false) (l := l - 1)
          refine ⟨fun hs => ?_, fun hs => ?_⟩
          · simp only [Pr.nf, B2.nt, B2.dual, Pr.sz] at hs
            refine (c1 (by omega)).trans ?_
            simp only [Pr.nf, B2.nt, B2.dual, Pr.sz, Pr.fm, B2.b, Option.some.injEq, Prod.mk.injEq, true_and]
            omega
          · simp only [Pr.nf, B2.nt, B2.dual, Pr.sz] at hs
            exact c2 (by omega)
      · rw [if_neg (show ¬ (B2.or.s == [108, 97, 98, 101, 108]) = true by decide)]
        rw [if_neg (show ¬ (B2.or.s == [33]) = true by decide)]
        rw [if_neg (show ¬ (B2.or.s == [88]) = true by decide)]
        rw [if_pos (show (B2.or.s == [38] || B2.or.s == [124] || B2.or.s == [85] || B2.or.s == [82]) = true by decide)]
        cases n with
        | true =>
          have e : opN op true = B2.and.b := by unfold opN dualB; simp only [h1]; rfl
          rw [e]
          obtain ⟨c1, c2⟩ := mk_two (c := fun u v => nd B2.and.b [u, v]) iha ihb (i := true) (j := true) (l := l - 1)
          refine ⟨fun hs => ?_, fun hs => ?_⟩
          · simp only [Pr.nf, B2.nt, B2.dual, Pr.sz] at hs
            refine (c1 (by omega)).trans ?_
            simp only [Pr.nf, B2.nt, B2.dual, Pr.sz, Pr.fm, B2.b, Option.some.injEq, Prod.mk.injEq, true_and]
            omega
          · simp only [Pr.nf, B2.nt, B2.dual, Pr.sz] at hs
            exact c2 (by omega)
        | false =>
          have e : opN op false = B2.or.b := by show op = _; rw [← B_toList op, h1]; rfl
          rw [e]
          obtain ⟨c1, c2⟩ := mk_two (c := fun u v => nd B2.or.b [u, v]) iha ihb (i := false) (j := false) (l := l - 1)
          refine ⟨fun hs => ?_, fun hs => ?_⟩
          · simp only [Pr.nf, B2.nt, B2.dual, Pr.sz] at hs
            refine (c1 (by omega)).trans ?_
            simp only [Pr.nf, B2.nt, B2.dual, Pr.sz, Pr.fm, B2.b, Option.some.injEq, Prod.mk.injEq, true_and]
            omega
          · simp only [Pr.nf, B2.nt, B2.dual, Pr.sz] at hs
            exact c2 (by omega)
      · rw [if_neg (show ¬ (B2.imp.s == [108, 97, 98, 101, 108]) = true by decide)]
        rw [if_neg (show ¬ (B2.imp.s == [33]) = true by decide)]
        rw [if_neg (show ¬ (B2.imp.s == [88]) = true by decide)]
        rw [if_neg (show ¬ (B2.imp.s == [38] || B2.imp.s == [124] || B2.imp.s == [85] || B2.imp.s == [82]) = true by decide)]
        rw [if_pos (show (B2.imp.s == [61, 62]) = true by decide)]
        cases n with
        | true =>
          obtain ⟨c1, c2⟩ := mk_two (c := fun u v => nd ⟨#[38]⟩ [u, v]) iha ihb (i := false) (j := true) (l := l - 1)
          refine ⟨fun hs => ?_, fun hs => ?_⟩
          · simp only [Pr.nf, B2.nt, B2.dual, Pr.sz] at hs
            refine (c1 (by omega)).trans ?_
            simp only [Pr.nf, B2.nt, B2.dual, Pr.sz, Pr.fm, B2.b, Option.some.injEq, Prod.mk.injEq, true_and]
            omega
          · simp only [Pr.nf, B2.nt, B2.dual, Pr.sz] at hs
            exact c2 (by omega)
        | false =>
          obtain ⟨c1, c2⟩ := mk_two (c := fun u v => nd ⟨#[124]⟩ [u, v]) iha ihb (i := true) (j := false) (l := l - 1)
          refine ⟨fun hs => ?_, fun hs => ?_⟩
          · simp only [Pr.nf, B2.nt, B2.dual, Pr.sz] at hs
            refine (c1 (by omega)).trans ?_
            simp only [Pr.nf, B2.nt, B2.dual, Pr.sz, Pr.fm, B2.b, Option.some.injEq, Prod.mk.injEq, true_and]
            omega
          · simp only [Pr.nf, B2.nt, B2.dual, Pr.sz] at hs
            exact c2 (by omega)
      · rw [if_neg (show ¬ (B2.U.s == [108, 97, 98, 101, 108]) = true by decide)]
        rw [if_neg (show ¬ (B2.U.s == [33]) = true by decide)]
        rw [if_neg (show ¬ (B2.U.s == [88]) = true by decide)]
        rw [if_pos (show (B2.U.s == [38] || B2.U.s == [124] || B2.U.s == [85] || B2.U.s == [82]) = true by decide)]
        cases n with
        | true =>
          have e : opN op true = B2.R.b := by unfold opN dualB; simp only [h1]; rfl
          rw [e]
          obtain ⟨c1, c2⟩ := mk_two (c := fun u v => nd B2.R.b [u, v]) iha ihb (i := true) (j := true) (l := l - 1)
          refine ⟨fun hs => ?_, fun hs => ?_⟩
          · simp only [Pr.nf, B2.nt, B2.dual, Pr.sz] at hs
            refine (c1 (by omega)).trans ?_
            simp only [Pr.nf, B2.nt, B2.dual, Pr.sz, Pr.fm, B2.b, Option.some.injEq, Prod.mk.injEq, true_and]
            omega
          · simp only [Pr.nf, B2.nt, B2.dual, Pr.sz] at hs
            exact c2 (by omega)
        | false =>
          have e : opN op false = B2.U.b := by show op = _; rw [← B_toList op, h1]; rfl
          rw [e]
          obtain ⟨c1, c2⟩ := mk_two (c := fun u v => nd B2.U.b [u, v]) iha ihb (i := false) (j := false) (l := l - 1)
          refine ⟨fun hs => ?_, fun hs => ?_⟩
          · simp only [Pr.nf, B2.nt, B2.dual, Pr.sz] at hs
            refine (c1 (by omega)).trans ?_
            simp only [Pr.nf, B2.nt, B2.dual, Pr.sz, Pr.fm, B2.b, Option.some.injEq, Prod.mk.injEq, true_and]
            omega
          · simp only [Pr.nf, B2.nt, B2.dual, Pr.sz] at hs
            exact c2 (by omega)
      · rw [if_neg (show ¬ (B2.W.s == [108, 97, 98, 101, 108]) = true by decide)]
        rw [if_neg (show ¬ (B2.W.s == [33]) = true by decide)]
        rw [if_neg (show ¬ (B2.W.s == [88]) = true by decide)]
        rw [if_neg (show ¬ (B2.W.s == [38] || B2.W.s == [124] || B2.W.s == [85] || B2.W.s == [82]) = true by decide)]
        rw [if_neg (show ¬ (B2.W.s == [61, 62]) = true by decide)]
        rw [if_neg (show ¬ (B2.W.s == [70] || B2.W.s == [71]) = true by decide)]
        rw [if_pos (show (B2.W.s == [87]) = true by decide)]
        have hb := ihb n (l - 1 - 1)
        have pa := (x.nf n).sz_pos
        have pb := (y.nf n).sz_pos
        refine ⟨fun hs => ?_, fun hs => ?_⟩
        · have hs' : ((y.nf n).sz + ((x.nf n).sz + (y.nf n).sz + 1) + 1 : Nat) ≤ l := by cases n <;> simpa only [Pr.nf, Pr.sz] using hs
          simp only
          rw [hb.1 (by omega)]
          simp only
          rw [(iha n _).1 (by omega)]
          simp only
          rw [(ihb n _).1 (by omega)]
          cases n <;> (simp only [Pr.nf, Pr.sz, Pr.fm, B2.b, Option.some.injEq, Prod.mk.injEq, true_and]; omega)
        · have hs' : l < ((y.nf n).sz + ((x.nf n).sz + (y.nf n).sz + 1) + 1 : Nat) := by cases n <;> simpa only [Pr.nf, Pr.sz] using hs
          have key : ∀ (g : Fm) (l2 : Int), (l2 < ((x.nf n).sz + (y.nf n).sz : Nat)) → ∃ z l', (match makeF a n l2 with
            | some (u, l3) => (match makeF b n l3 with
              | some (v, l4) => (match n with
                | true => some (nd ⟨#[85]⟩ [g, nd ⟨#[38]⟩ [u, v]], l4)
                | false => some (nd ⟨#[82]⟩ [g, nd ⟨#[124]⟩ [u, v]], l4))
              | none => none)
            | none => none) = some (z, l') ∧ l' < 0 := fun g l2 h2 => by
            by_cases hx : ((x.nf n).sz : Int) ≤ l2
            · rw [(iha n l2).1 hx]
              simp only
              obtain ⟨z, l', e, hl⟩ := (ihb n (l2 - (x.nf n).sz)).2 (by omega)
              rw [e]
              cases n <;> exact ⟨_, _, rfl, hl⟩
            · obtain ⟨z, l', e, hl⟩ := (iha n l2).2 (by omega)
              rw [e]
              simp only
              obtain ⟨z2, l3, e2, hl2⟩ := (ihb n l').2 (by omega)
              rw [e2]
              cases n <;> exact ⟨_, _, rfl, hl2⟩
          by_cases hg : ((y.nf n).sz : Int) ≤ l - 1 - 1
          · simp only
            rw [hb.1 hg]
            refine key _ _ ?_; omega
          · obtain ⟨z, l', e, hl'⟩ := hb.2 (by omega)
            simp only
            rw [e]
            refine key _ _ ?_; omega
      · rw [if_neg (show ¬ (B2.R.s == [108, 97, 98, 101, 108]) = true by decide)]
        rw [if_neg (show ¬ (B2.R.s == [33]) = true by decide)]
        rw [if_neg (show ¬ (B2.R.s == [88]) = true by decide)]
        rw [if_pos (show (B2.R.s == [38] || B2.R.s == [124] || B2.R.s == [85] || B2.R.s == [82]) = true by decide)]
        cases n with
        | true =>
          have e : opN op true = B2.U.b := by unfold opN dualB; simp only [h1]; rfl
          rw [e]
          obtain ⟨c1, c2⟩ := mk_two (c := fun u v => nd B2.U.b [u, v]) iha ihb (i := true) (j := true) (l := l - 1)
          refine ⟨fun hs => ?_, fun hs => ?_⟩
          · simp only [Pr.nf, B2.nt, B2.dual, Pr.sz] at hs
            refine (c1 (by omega)).trans ?_
            simp only [Pr.nf, B2.nt, B2.dual, Pr.sz, Pr.fm, B2.b, Option.some.injEq, Prod.mk.injEq, true_and]
            omega
          · simp only [Pr.nf, B2.nt, B2.dual, Pr.sz] at hs
            exact c2 (by omega)
        | false =>
          have e : opN op false = B2.R.b := by show op = _; rw [← B_toList op, h1]; rfl
          rw [e]
          obtain ⟨c1, c2⟩ := mk_two (c := fun u v => nd B2.R.b [u, v]) iha ihb (i := false) (j := false) (l := l - 1)
          refine ⟨fun hs => ?_, fun hs => ?_⟩
          · simp only [Pr.nf, B2.nt, B2.dual, Pr.sz] at hs
            refine (c1 (by omega)).trans ?_
            simp only [Pr.nf, B2.nt, B2.dual, Pr.sz, Pr.fm, B2.b, Option.some.injEq, Prod.mk.injEq, true_and]
            omega
          · simp only [Pr.nf, B2.nt, B2.dual, Pr.sz] at hs
            exact c2 (by omega)
  termination_by t => SizeOf.sizeOf t
end Go.Sc

namespace Go.Sc
open Go Go.Cm

theorem isF_abs : ∀ (t : Pr) (f : Fm), f.abs = some t → isF f = t.ok
  | t, f, h => by
    rcases abs_inv h with ⟨op, nm, p, rfl, h1⟩ | ⟨op, nm, a, p, o, x, rfl, h1, h2, rfl⟩ | ⟨op, nm, a, b, p, o, x, y, rfl, h1, h2, h3, rfl⟩
    · rcases h1 with ⟨h1, rfl⟩ | ⟨h1, rfl⟩ | ⟨h1, rfl⟩
      all_goals
        unfold isF kidsN
        rw [h1]
        rfl
    · have ih := isF_abs x a h2
      have hk := kidsN_u op o h1
      unfold isF
      rw [h1, hk]
      cases o
      · rw [if_neg (by decide), if_neg (by decide), if_neg (by decide), if_neg (by decide), if_pos (by decide)]
        rcases abs_inv h2 with ⟨op, nm, p, rfl, h1⟩ | ⟨op, nm, a, p, o, x, rfl, h1, h2, rfl⟩ | ⟨op, nm, a, b, p, o, x, y, rfl, h1, h2, h3, rfl⟩
        · rcases h1 with ⟨h1, rfl⟩ | ⟨h1, rfl⟩ | ⟨h1, rfl⟩ <;> simp only [h1] <;> rfl
        · simp only [List.isEmpty_cons, Bool.and_false]; rfl
        · simp only [List.isEmpty_cons, Bool.and_false]; rfl
      · rw [if_neg (by decide), if_neg (by decide), if_neg (by decide), if_neg (by decide), if_neg (by decide)]
        simp only [isL, ih, Bool.and_true, Pr.ok]
        rfl
      · rw [if_pos (by decide)]; rfl
      · rw [if_neg (by decide), if_pos (by decide)]; rfl
    · have iha := isF_abs x a h2
      have ihb := isF_abs y b h3
      have hk := kidsN_b op o h1
      unfold isF
      rw [h1, hk]
      cases o
      case imp => rw [if_neg (by decide), if_neg (by decide), if_neg (by decide), if_pos (by decide)]; rfl
      case W => rw [if_neg (by decide), if_neg (by decide), if_pos (by decide)]; rfl
      all_goals
        rw [if_neg (by decide), if_neg (by decide), if_neg (by decide), if_neg (by decide), if_neg (by decide)]
        simp only [isL, iha, ihb, Bool.and_true, Pr.ok]
        exact Bool.true_and _
  termination_by t => SizeOf.sizeOf t
theorem isF_form : ∀ (f : Fm), isF f = true → formF f = true
  | .mk op nm ks p, h => by
    unfold isF at h
    split at h
    · cases h
    split at h
    · cases h
    split at h
    · cases h
    split at h
    · cases h
    split at h
    · rename_i e
      split at h
      · rename_i o2 n2 k2 p2
        simp only [Bool.and_eq_true, List.isEmpty_iff] at h
        obtain ⟨h1, rfl⟩ := h
        exact formF_abs (.un .no (.lab n2)) _ (by
          simp only [Fm.abs, u1A, eq_of_beq e, eq_of_beq h1]; rfl)
      · cases h
    · simp only [Bool.and_eq_true, beq_iff_eq] at h
      simp only [formF, Bool.and_eq_true, beq_iff_eq]
      exact ⟨h.1, all ks h.2⟩
  where all : ∀ (ks : List Fm), isL ks = true → formL ks = true
  | [], _ => rfl
  | f :: fs, h => by
    simp only [isL, Bool.and_eq_true] at h
    simp only [formL, isF_form f h.1, all fs h.2, Bool.and_true]
theorem size_abs : ∀ (t : Pr) (f : Fm), f.abs = some t → sizeF f = min (t.sz : Int) 4097
  | t, f, h => by
    rcases abs_inv h with ⟨op, nm, p, rfl, h1⟩ | ⟨op, nm, a, p, o, x, rfl, h1, h2, rfl⟩ | ⟨op, nm, a, b, p, o, x, y, rfl, h1, h2, h3, rfl⟩
    · rcases h1 with ⟨h1, rfl⟩ | ⟨h1, rfl⟩ | ⟨h1, rfl⟩ <;> rfl
    · have ih := size_abs x a h2
      simp only [sizeF, sizeL, ih, Pr.sz]
      rw [if_pos (by omega)]
      omega
    · have iha := size_abs x a h2
      have ihb := size_abs y b h3
      simp only [sizeF, sizeL, iha, ihb, Pr.sz]
      rw [if_pos (show (1 : Int) ≤ 4096 by omega)]
      split <;> omega
  termination_by t => SizeOf.sizeOf t
mutual
theorem same_refl : ∀ f : Fm, sameF f f = true
  | .mk op nm ks p => by simp only [sameF, beq_self_eq_true, same_reflL ks, Bool.and_true]
theorem same_reflL : ∀ fs : List Fm, sameL fs fs = true
  | [] => rfl
  | f :: fs => by simp only [sameL, same_refl f, same_reflL fs, Bool.and_true]
end
theorem toList_inj {a b : ByteArray} (h : a.toList = b.toList) : a = b := by
  rw [← B_toList a, ← B_toList b, h]
theorem same_abs : ∀ (f g : Fm), sameF f g = true → f.abs = g.abs
  | .mk o1 n1 k1 p1, .mk o2 n2 k2 p2, h => by
    simp only [sameF, Bool.and_eq_true, beq_iff_eq] at h
    obtain ⟨⟨h1, h2⟩, h3⟩ := h
    have h2' := toList_inj h2
    match k1, k2, h3 with
    | [], [], h3 => simp only [Fm.abs, h1, h2']
    | [a], [b], h3 =>
      simp only [sameL, Bool.and_true] at h3
      simp only [Fm.abs, h1, same_abs a b h3]
    | [a, c], [b, d], h3 =>
      simp only [sameL, Bool.and_true, Bool.and_eq_true] at h3
      simp only [Fm.abs, h1, same_abs a b h3.1, same_abs c d h3.2]
    | a :: b :: c :: r, d :: e :: f :: s, h3 => simp only [Fm.abs]
    | [], _ :: _, h3 => simp [sameL] at h3
    | _ :: _, [], h3 => simp [sameL] at h3
    | [_], _ :: _ :: _, h3 => simp [sameL] at h3
    | _ :: _ :: _, [_], h3 => simp [sameL] at h3
    | [_, _], _ :: _ :: _ :: _, h3 => simp [sameL] at h3
    | _ :: _ :: _ :: _, [_, _], h3 => simp [sameL] at h3
theorem same_fm (a b : Pr) : sameF a.fm b.fm = decide (a = b) := by
  by_cases h : a = b
  · subst h; simp [same_refl]
  · cases e : sameF a.fm b.fm with
    | false => simp [h]
    | true =>
      have := same_abs _ _ e
      rw [abs_fm, abs_fm] at this
      exact (h (Option.some.inj this)).elim
def prPair (o : B2) (a b : Pr) : Pr :=
  let e := if a = b then a else .bi o a b
  match o with
  | .and => if a = .tt then b else if b = .tt then a else if a = .ff then .ff else if b = .ff then .ff else e
  | .or => if a = .ff then b else if b = .ff then a else if a = .tt then .tt else if b = .tt then .tt else e
  | .U => if b = .tt ∨ b = .ff then b else if a = .ff then b else e
  | .R => if b = .tt ∨ b = .ff then b else if a = .tt then b else e
  | _ => e
def prX (o : U1) (a : Pr) : Pr := if o = .X ∧ (a = .tt ∨ a = .ff) then a else .un o a
def Pr.simp : Pr → Pr
  | .un o a => prX o a.simp
  | .bi o a b => prPair o a.simp b.simp
  | t => t
theorem op_T (a : Pr) : (a.fm.op.toList == oTrue) = decide (a = .tt) := by
  cases a with
  | tt => simp [Pr.fm, nd, Fm.op, bTrue, oTrue, B_lit]
  | ff => simp [Pr.fm, nd, Fm.op, bFalse, oTrue, B_lit]
  | lab s => simp [Pr.fm, labF, Fm.op, oTrue, B_lit]
  | un o a => cases o <;> simp [Pr.fm, nd, Fm.op, oTrue, U1.b_s, U1.s]
  | bi o a b => cases o <;> simp [Pr.fm, nd, Fm.op, oTrue, B2.b_s, B2.s]
theorem op_F (a : Pr) : (a.fm.op.toList == oFalse) = decide (a = .ff) := by
  cases a with
  | tt => simp [Pr.fm, nd, Fm.op, bTrue, oFalse, B_lit]
  | ff => simp [Pr.fm, nd, Fm.op, bFalse, oFalse, B_lit]
  | lab s => simp [Pr.fm, labF, Fm.op, oFalse, B_lit]
  | un o a => cases o <;> simp [Pr.fm, nd, Fm.op, oFalse, U1.b_s, U1.s]
  | bi o a b => cases o <;> simp [Pr.fm, nd, Fm.op, oFalse, B2.b_s, B2.s]
theorem constB_fm (a : Pr) : constB a.fm.op = decide (a = .tt ∨ a = .ff) := by
  have h1 := op_T a
  have h2 := op_F a
  unfold oTrue at h1
  unfold oFalse at h2
  unfold constB
  rw [h1, h2]
  by_cases ha : a = .tt <;> by_cases hb : a = .ff <;> simp [ha, hb]
theorem sameE_fm (o : B2) (a b : Pr) : sameE (Pr.bi o a b).fm a.fm b.fm = (if a = b then a else .bi o a b : Pr).fm := by
  unfold sameE
  rw [same_fm]
  by_cases h : a = b <;> simp [h]
theorem pair_fm (o : B2) (a b : Pr) : pairF (Pr.bi o a b).fm a.fm b.fm = (prPair o a b).fm := by
  have e := sameE_fm o a b
  have bt : bTrue.toList = oTrue := B_lit _
  have bf : bFalse.toList = oFalse := B_lit _
  unfold pairF pairAnd pairU
  rw [bt, bf, op_T, op_T, op_F, op_F, constB_fm, show (Pr.bi o a b).fm.op.toList = o.s from B2.b_s o, e]
  cases o
  case and =>
    rw [if_neg (show ¬ (B2.and.s == [124]) = true by decide), if_pos (show (B2.and.s == [38]) = true by decide)]
    unfold prPair
    simp only [decide_eq_true_eq]
    repeat' split
    all_goals first | rfl | exact e
  case or =>
    rw [if_pos (show (B2.or.s == [124]) = true by decide)]
    unfold prPair
    simp only [decide_eq_true_eq]
    repeat' split
    all_goals first | rfl | exact e
  case U =>
    rw [if_neg (show ¬ (B2.U.s == [124]) = true by decide), if_neg (show ¬ (B2.U.s == [38]) = true by decide), if_pos (show (B2.U.s == [85]) = true by decide)]
    unfold prPair
    simp only [decide_eq_true_eq]
    repeat' split
    all_goals first | rfl | exact e
  case R =>
    rw [if_neg (show ¬ (B2.R.s == [124]) = true by decide), if_neg (show ¬ (B2.R.s == [38]) = true by decide), if_neg (show ¬ (B2.R.s == [85]) = true by decide), if_pos (show (B2.R.s == [82]) = true by decide)]
    unfold prPair
    simp only [decide_eq_true_eq]
    repeat' split
    all_goals first | rfl | exact e
  case imp => rfl
  case W => rfl
theorem simple_fm : ∀ t : Pr, simpleF t.fm = t.simp.fm
  | .tt => rfl
  | .ff => rfl
  | .lab s => rfl
  | .un o a => by
    simp only [Pr.fm, nd, simpleF, simpleL, simple_fm a, Pr.simp, endS, prX, U1.b_s, constB_fm, decide_eq_true_eq]
    cases o
    case X =>
      rw [if_pos (show (U1.X.s == [88]) = true by decide)]
      by_cases h : a.simp = .tt ∨ a.simp = .ff
      · rw [if_pos h, if_pos ⟨rfl, h⟩]
      · rw [if_neg h, if_neg (fun k => h k.2)]; rfl
    all_goals
      rw [if_neg (by decide), if_neg (by simp)]; rfl
  | .bi o a b => by
    simp only [Pr.fm, nd, simpleF, simpleL, simple_fm a, simple_fm b, Pr.simp, endS]
    exact pair_fm o a.simp b.simp
theorem prPair_cases (o : B2) (a b : Pr) : prPair o a b = a ∨ prPair o a b = b ∨ prPair o a b = .tt ∨ prPair o a b = .ff ∨ prPair o a b = .bi o a b := by
  unfold prPair
  cases o <;> simp only <;> repeat' split
  all_goals simp
theorem simp_simp : ∀ t : Pr, t.simp.simp = t.simp
  | .tt => rfl
  | .ff => rfl
  | .lab s => rfl
  | .un o a => by
    simp only [Pr.simp]
    unfold prX
    split
    · exact simp_simp a
    · rename_i h
      simp only [Pr.simp, simp_simp a]
      unfold prX
      rw [if_neg h]
  | .bi o a b => by
    simp only [Pr.simp]
    rcases prPair_cases o a.simp b.simp with h | h | h | h | h <;> rw [h]
    · exact simp_simp a
    · exact simp_simp b
    · rfl
    · rfl
    · simp only [Pr.simp, simp_simp a, simp_simp b, h]
theorem simp_sz : ∀ t : Pr, t.simp.sz ≤ t.sz
  | .tt => Nat.le_refl _
  | .ff => Nat.le_refl _
  | .lab s => Nat.le_refl _
  | .un o a => by
    have := simp_sz a
    simp only [Pr.simp, Pr.sz]
    unfold prX
    split <;> (try simp only [Pr.sz]) <;> omega
  | .bi o a b => by
    have := simp_sz a
    have := simp_sz b
    simp only [Pr.simp, Pr.sz]
    rcases prPair_cases o a.simp b.simp with h | h | h | h | h <;> rw [h] <;> (try simp only [Pr.sz]) <;> omega
theorem ok_bi {o : B2} {a b : Pr} (h : (Pr.bi o a b).ok = true) : a.ok = true ∧ b.ok = true ∧ ∀ c d : Pr, c.ok = true → d.ok = true → (Pr.bi o c d).ok = true := by
  cases o <;> simp only [Pr.ok, Bool.and_eq_true, Bool.false_eq_true] at h
  all_goals exact ⟨h.1, h.2, fun c d hc hd => by simp only [Pr.ok, hc, hd, Bool.and_true]⟩
theorem simp_ok : ∀ t : Pr, t.ok = true → t.simp.ok = true
  | .tt, _ => rfl
  | .ff, _ => rfl
  | .lab s, _ => rfl
  | .un .X a, h => by
    have := simp_ok a h
    simp only [Pr.simp]
    unfold prX
    split <;> simpa only [Pr.ok] using this
  | .un .no (.lab s), _ => rfl
  | .un .no (.un _ _), h => by simp [Pr.ok] at h
  | .un .no (.bi _ _ _), h => by simp [Pr.ok] at h
  | .un .no .tt, h => by simp [Pr.ok] at h
  | .un .no .ff, h => by simp [Pr.ok] at h
  | .un .F a, h => by simp [Pr.ok] at h
  | .un .G a, h => by simp [Pr.ok] at h
  | .bi o a b, h => by
    obtain ⟨h1, h2, h3⟩ := ok_bi h
    simp only [Pr.simp]
    rcases prPair_cases o a.simp b.simp with e | e | e | e | e <;> rw [e]
    · exact simp_ok a h1
    · exact simp_ok b h2
    · rfl
    · rfl
    · exact h3 _ _ (simp_ok a h1) (simp_ok b h2)
end Go.Sc

namespace Go.Sc
open Go Go.Cm

def Rd (a b : Int) (op nm : ByteArray) (ks : List D) (p : Int) : Prop :=
  ∃ f t, ofD (fmD op nm ks p) = some f ∧ Fm.abs f = some t ∧ sameF f t.fm = true ∧ (t.sz : Int) ≤ b - a
def Good (a : Int) : PR → Prop
  | .ok op nm ks p b => Rd a b op nm ks p
  | _ => True
theorem good_deep (xs : List D) (a c : Int) : Good c (deepP xs a) := by unfold deepP; split <;> trivial
theorem ofD_mk {op nm : ByteArray} {ks : List D} {p : Int} {f : Fm} (h : ofD (fmD op nm ks p) = some f) : ∃ fs, ofDL ks = some fs ∧ f = .mk op nm fs p := by
  simp only [fmD, ofD] at h
  split at h
  · rename_i fs e; cases h; exact ⟨fs, e, rfl⟩
  · cases h
theorem rd_pos {a b : Int} {op nm : ByteArray} {ks : List D} {p : Int} (q : Int) (h : Rd a b op nm ks p) : Rd a b op nm ks q := by
  obtain ⟨f, t, h1, h2, h3, h4⟩ := h
  obtain ⟨fs, e, rfl⟩ := ofD_mk h1
  refine ⟨.mk op nm fs q, t, by simp only [fmD, ofD, e], ?_, ?_, h4⟩
  · rw [← h2]; unfold Fm.abs; rfl
  · cases ht : t.fm with
    | mk o n k r => rw [ht] at h3; simpa only [sameF] using h3
theorem rd_two {a b c : Int} {op o1 n1 o2 n2 : ByteArray} {k1 k2 : List D} {p1 p2 : Int} {o : B2} (ho : op.toList = o.s) (h : Rd a b o1 n1 k1 p1) (k : Rd (b + 1) c o2 n2 k2 p2) (p : Int) :
    Rd a c op ⟨#[]⟩ [fmD o1 n1 k1 p1, fmD o2 n2 k2 p2] p := by
  obtain ⟨f, t, h1, h2, h3, h4⟩ := h
  obtain ⟨g, u, k1, k2, k3, k4⟩ := k
  refine ⟨.mk op ⟨#[]⟩ [f, g] p, .bi o t u, ?_, ?_, ?_, ?_⟩
  · simp only [fmD] at h1 k1 ⊢
    simp only [ofD, ofDL] at h1 k1 ⊢
    simp only [h1, k1]
  · simp only [Fm.abs, b2A, ho, b2_of, h2, k2]
  · simp only [Pr.fm, nd, sameF, sameL, h3, k3, ho, B2.b_s, beq_self_eq_true, Bool.and_true]
  · simp only [Pr.sz]; omega
theorem rd_one {a c : Int} {op o2 n2 : ByteArray} {k2 : List D} {p2 : Int} {o : U1} (ho : op.toList = o.s) (k : Rd (a + 1) c o2 n2 k2 p2) (p : Int) : Rd a c op ⟨#[]⟩ [fmD o2 n2 k2 p2] p := by
  obtain ⟨g, u, k1, k2, k3, k4⟩ := k
  refine ⟨.mk op ⟨#[]⟩ [g] p, .un o u, ?_, ?_, ?_, ?_⟩
  · simp only [fmD] at k1 ⊢
    simp only [ofD, ofDL] at k1 ⊢
    simp only [k1]
  · simp only [Fm.abs, u1A, ho, u1_of, k2]
  · simp only [Pr.fm, nd, sameF, sameL, k3, ho, U1.b_s, beq_self_eq_true, Bool.and_true]
  · simp only [Pr.sz]; omega
theorem isT_s {c : Int} {t s : ByteArray} (h : isT c t s = true) : t.toList = s.toList := by
  unfold isT at h
  simp only [Bool.and_eq_true, beq_iff_eq] at h
  exact h.2
theorem good_chainL (xs : List D) (op : ByteArray) (o : B2) (ho : op.toList = o.s) (one : Int → PR) (h1 : ∀ a, Good a (one a)) : ∀ (n : Nat) (q nm : ByteArray) (ks : List D) (p a b : Int), Rd b a q nm ks p → Good b (chainL xs op one n q nm ks p a)
  | 0, _, _, _, _, _, _, _ => trivial
  | n + 1, q, nm, ks, p, a, b, hb => by
    unfold chainL
    split
    · trivial
    · split
      · have := h1 (a + 1)
        split
        · rename_i e; rw [e] at this
          exact good_chainL xs op o ho one h1 n _ _ _ _ _ _ (rd_two ho hb this _)
        all_goals trivial
      · exact hb
theorem good_chainP (xs : List D) (op : ByteArray) (o : B2) (ho : op.toList = o.s) (one : Int → PR) (h1 : ∀ a, Good a (one a)) (a : Int) : Good a (chainP xs op one a) := by
  have := h1 a
  unfold chainP
  split
  · rename_i e; rw [e] at this
    exact good_chainL xs op o ho one h1 _ _ _ _ _ _ _ this
  all_goals trivial
theorem good_rightP (xs : List D) (one : Int → PR) (h1 : ∀ a, Good a (one a)) (o nm : ByteArray) (ks : List D) (p : Int) : ∀ (ops : List ByteArray) (a b : Int), (∀ op ∈ ops, ∃ o : B2, op.toList = o.s) → Rd b a o nm ks p → Good b (rightP xs one o nm ks p ops a)
  | [], a, b, _, h => h
  | op :: ops, a, b, ho, h => by
    unfold rightP
    split
    · trivial
    · split
      · have := h1 (a + 1)
        obtain ⟨q, hq⟩ := ho op (.head _)
        split
        · rename_i e; rw [e] at this
          exact rd_two hq h this _
        all_goals trivial
      · exact good_rightP xs one h1 o nm ks p ops a b (fun x hx => ho x (.tail _ hx)) h
theorem good_singleP (xs : List D) (P : PF) (h1 : ∀ a, Good a (P.single a)) (h2 : ∀ a, Good a (P.imply a)) (a : Int) : Good a (singleP xs P a) := by
  have l0 : (⟨#[108, 97, 98, 101, 108]⟩ : ByteArray).toList = oLabel := B_lit oLabel
  unfold singleP
  split
  · trivial
  · rename_i c t p hk
    split
    · refine ⟨.mk ⟨#[108, 97, 98, 101, 108]⟩ t [] p, .lab t, rfl, ?_, ?_, by simp only [Pr.sz]; omega⟩
      · simp only [Fm.abs, l0]; rfl
      · simp only [Pr.fm, labF, sameF, sameL, beq_self_eq_true, Bool.and_true]
    · split
      · rename_i h
        rcases h with h | h
        · have e := isT_s h
          rw [B_lit [116, 114, 117, 101]] at e
          refine ⟨.mk t ⟨#[]⟩ [] p, .tt, rfl, ?_, ?_, by simp only [Pr.sz]; omega⟩
          · simp only [Fm.abs, e]; rfl
          · simp only [Pr.fm, nd, bTrue, sameF, sameL, e, B_lit [116, 114, 117, 101], beq_self_eq_true, Bool.and_true]
        · have e := isT_s h
          rw [B_lit [102, 97, 108, 115, 101]] at e
          refine ⟨.mk t ⟨#[]⟩ [] p, .ff, rfl, ?_, ?_, by simp only [Pr.sz]; omega⟩
          · simp only [Fm.abs, e]; rfl
          · simp only [Pr.fm, nd, bFalse, sameF, sameL, e, B_lit [102, 97, 108, 115, 101], beq_self_eq_true, Bool.and_true]
      · split
        · rename_i h
          have ho : ∃ o : U1, t.toList = o.s := by
            rcases h with h | h | h | h
            · exact ⟨.no, (isT_s h).trans (B_lit _)⟩
            · exact ⟨.X, (isT_s h).trans (B_lit _)⟩
            · exact ⟨.F, (isT_s h).trans (B_lit _)⟩
            · exact ⟨.G, (isT_s h).trans (B_lit _)⟩
          obtain ⟨o, ho⟩ := ho
          have := h1 (a + 1)
          split
          · rename_i e; rw [e] at this
            exact rd_one ho this _
          all_goals trivial
        · split
          · have := h2 (a + 1)
            split
            · rename_i e; rw [e] at this
              split
              · trivial
              · split
                · obtain ⟨f, t, r1, r2, r3, r4⟩ := rd_pos p this
                  exact ⟨f, t, r1, r2, r3, by omega⟩
                · trivial
            all_goals trivial
          · trivial
theorem good_untlP (xs : List D) (s u : Int → PR) (h1 : ∀ a, Good a (s a)) (h2 : ∀ a, Good a (u a)) (a : Int) : Good a (untlP xs s u a) := by
  have := h1 a
  unfold untlP
  split
  · rename_i e; rw [e] at this
    refine good_rightP xs u h2 _ _ _ _ _ _ _ (fun op ho => ?_) this
    simp only [List.mem_cons, List.not_mem_nil, or_false] at ho
    rcases ho with rfl | rfl | rfl
    · exact ⟨.U, B_lit _⟩
    · exact ⟨.W, B_lit _⟩
    · exact ⟨.R, B_lit _⟩
  all_goals trivial
theorem good_implyP (xs : List D) (u i : Int → PR) (h1 : ∀ a, Good a (u a)) (h2 : ∀ a, Good a (i a)) (a : Int) : Good a (implyP xs u i a) := by
  have := good_chainP xs ⟨#[124]⟩ .or (B_lit _) (kP xs u) (fun a => good_chainP xs ⟨#[38]⟩ .and (B_lit _) u h1 a) a
  unfold implyP
  split
  · rename_i e; rw [e] at this
    refine good_rightP xs i h2 _ _ _ _ _ _ _ (fun op ho => ?_) this
    simp only [List.mem_cons, List.not_mem_nil, or_false] at ho
    subst ho
    exact ⟨.imp, B_lit _⟩
  all_goals trivial
theorem good_pf (xs : List D) : ∀ n : Nat, (∀ a, Good a ((pf xs n).single a)) ∧ (∀ a, Good a ((pf xs n).untl a)) ∧ ∀ a, Good a ((pf xs n).imply a)
  | 0 => ⟨fun a => good_deep xs a a, fun a => good_deep xs a a, fun a => good_deep xs a a⟩
  | n + 1 => by
    obtain ⟨h1, h2, h3⟩ := good_pf xs n
    have s := good_singleP xs (pf xs n) h1 h3
    have u := good_untlP xs _ _ s h2
    exact ⟨s, u, good_implyP xs _ _ u h3⟩
theorem good_imply (xs : List D) (n : Nat) (a : Int) : Good a (pImply xs n a) := (good_pf xs n).2.2 a
theorem toksL_len : ∀ (n : Nat) (l : T8) (p : Nat) (r : List Tok), toksL n l p = .inr r → r.length ≤ n
  | 0, l, p, r, h => by simp [toksL] at h
  | n + 1, l, p, r, h => by
    unfold toksL at h
    simp only at h
    split at h
    · cases h; simp
    · split at h
      · cases h
      · split at h
        · cases h
        · rename_i r' e
          cases h
          have := toksL_len n _ _ _ e
          simp only [List.length_cons]; omega
theorem parse_ok {s : ByteArray} {d : Int} {op nm : ByteArray} {ks : List D} {p : Int} (h : parseP s d = .ok op nm ks p) :
    ∃ f t, ofD (fmD op nm ks p) = some f ∧ Fm.abs f = some t ∧ sameF f t.fm = true ∧ t.sz ≤ s.size + 1 := by
  unfold parseP at h
  split at h
  · cases h
  · split at h
    · cases h
    · rename_i hb
      split at h
      · cases h
      · rename_i l hl
        have hg := good_imply (l.map tokT) d.toNat 0
        have ha := adv_imply (l.map tokT) d.toNat 0
        unfold endP at h
        cases hp : pImply (l.map tokT) d.toNat 0 with
        | ok o n k q a =>
          rw [hp] at h hg ha
          simp only [Adv] at ha
          simp only at h
          split at h
          · rename_i c t q2 hk
            split at h
            · cases h
              obtain ⟨f, t, r1, r2, r3, r4⟩ := hg
              have := tk_lt hk (by omega)
              have hn : l.length ≤ s.size + 1 := by
                rw [Nat.ble_eq] at hb
                have e : s.toList.length = s.size := by rw [ByteArray.toList_eq]; exact Array.length_toList
                have := toksL_len _ _ _ _ hl
                omega
              rw [List.length_map] at this
              exact ⟨f, t, r1, r2, r3, by omega⟩
            · cases h
          · cases h
        | syn => rw [hp] at h; cases h
        | deep => rw [hp] at h; cases h
        | no => rw [hp] at h; cases h
mutual
theorem sm_abs : ∀ (f : Fm) (t : Pr), f.abs = some t → f.sm = true
  | .mk op nm ks p, t, h => by
    match ks, h with
    | [], h => rfl
    | [a], h =>
      simp only [Fm.abs] at h
      obtain ⟨_, x, _, h2, _⟩ := u1A_some h
      simp only [Fm.sm, Fm.smL, sm_abs a x h2]; rfl
    | [a, b], h =>
      simp only [Fm.abs] at h
      obtain ⟨_, x, y, _, h2, h3, _⟩ := b2A_some h
      simp only [Fm.sm, Fm.smL, sm_abs a x h2, sm_abs b y h3]; rfl
    | _ :: _ :: _ :: _, h => simp [Fm.abs] at h
end
theorem dep_sz : ∀ (f : Fm) (t : Pr), f.abs = some t → f.dep ≤ t.sz
  | .mk op nm ks p, t, h => by
    match ks, h with
    | [], h => have := t.sz_pos; simp only [Fm.dep, Fm.depL]; omega
    | [a], h =>
      simp only [Fm.abs] at h
      obtain ⟨_, x, _, h2, rfl⟩ := u1A_some h
      have := dep_sz a x h2
      simp only [Fm.dep, Fm.depL, Pr.sz]; omega
    | [a, b], h =>
      simp only [Fm.abs] at h
      obtain ⟨_, x, y, _, h2, h3, rfl⟩ := b2A_some h
      have := dep_sz a x h2
      have := dep_sz b y h3
      simp only [Fm.dep, Fm.depL, Pr.sz]; omega
    | _ :: _ :: _ :: _, h => simp [Fm.abs] at h
end Go.Sc

namespace Go.Sc
open Go Go.Cm
def absD (x : D) : Option Pr := match ofD x with | some f => f.abs | none => none
def Pr.opb : Pr → ByteArray
  | .tt => bTrue | .ff => bFalse | .lab _ => ⟨#[108, 97, 98, 101, 108]⟩ | .un o _ => o.b | .bi o _ _ => o.b
def Pr.nmb : Pr → ByteArray
  | .lab s => s | _ => ⟨#[]⟩
def Pr.ksd : Pr → List D
  | .un _ a => [a.fm.d] | .bi _ a b => [a.fm.d, b.fm.d] | _ => []
theorem pr_d (t : Pr) : D.ag [.str t.opb, .str t.nmb, .sl 5 t.ksd, .int .i64 0] = t.fm.d := by cases t <;> rfl
theorem ofD_pr (t : Pr) : ofD (.ag [.str t.opb, .str t.nmb, .sl 5 t.ksd, .int .i64 0]) = some t.fm := by rw [pr_d, ofD_d]
theorem absD_pr (t : Pr) : absD (.ag [.str t.opb, .str t.nmb, .sl 5 t.ksd, .int .i64 0]) = some t := by unfold absD; rw [ofD_pr]; exact abs_fm t
theorem absD_of {x : D} {f : Fm} {t : Pr} (h : ofD x = some f) (k : f.abs = some t) : absD x = some t := by unfold absD; rw [h]; exact k
theorem absD_out {x : D} {t : Pr} (h : absD x = some t) : ∃ f, ofD x = some f ∧ f.abs = some t := by
  unfold absD at h
  split at h
  · rename_i f hf; exact ⟨f, hf, h⟩
  · cases h
theorem fm_sm (t : Pr) : t.fm.sm = true := sm_abs _ t (abs_fm t)
mutual
theorem simple_same : ∀ f g : Fm, sameF f g = true → simpleF f = simpleF g
  | .mk o1 n1 k1 p1, .mk o2 n2 k2 p2, h => by
    simp only [sameF, Bool.and_eq_true, beq_iff_eq] at h
    obtain ⟨⟨h1, h2⟩, h3⟩ := h
    simp only [simpleF, toList_inj h1, toList_inj h2, simple_sameL k1 k2 h3]
theorem simple_sameL : ∀ fs gs : List Fm, sameL fs gs = true → simpleL fs = simpleL gs
  | [], [], _ => rfl
  | f :: fs, g :: gs, h => by
    simp only [sameL, Bool.and_eq_true] at h
    simp only [simpleL, simple_same f g h.1, simple_sameL fs gs h.2]
  | [], _ :: _, h => by simp [sameL] at h
  | _ :: _, [], h => by simp [sameL] at h
end
end Go.Sc

namespace Go.Sc
open Go Go.Cm

theorem toksL_last : ∀ (n : Nat) (l : T8) (p : Nat) (r : List Tok), toksL n l p = .inr r → ∃ us q, r = us ++ [(0, [], q)]
  | 0, l, p, r, h => by simp [toksL] at h
  | n + 1, l, p, r, h => by
    unfold toksL at h
    simp only at h
    split at h
    · cases h; exact ⟨[], p, rfl⟩
    · split at h
      · cases h
      · split at h
        · cases h
        · rename_i r' e
          cases h
          obtain ⟨us, q, rfl⟩ := toksL_last n _ _ _ e
          exact ⟨_ :: us, q, rfl⟩
structure Ends (xs : List D) : Prop where
  tk : ∀ a : Int, 0 ≤ a → a < xs.length → ∃ c t p, Go.Sc.tk xs a = some (c, t, p)
  last : ∀ (a c : Int) (t : ByteArray) (p : Int), 0 ≤ a → Go.Sc.tk xs a = some (c, t, p) → c ≠ 0 → a + 1 < xs.length
theorem ends_tok {l : T8} {ts : List Tok} (h : tokS l = .inr ts) : Ends (ts.map tokT) ∧ 0 < ts.length := by
  obtain ⟨us, q, rfl⟩ := toksL_last _ _ _ _ h
  have hg : ∀ a : Int, 0 ≤ a → a < ((us ++ [((0 : Int), ([] : T8), q)]).map tokT).length → ∃ h : a.toNat < (us ++ [((0 : Int), ([] : T8), q)]).length,
      tk ((us ++ [((0 : Int), ([] : T8), q)]).map tokT) a = some (((us ++ [((0 : Int), ([] : T8), q)])[a.toNat]).1, B ((us ++ [((0 : Int), ([] : T8), q)])[a.toNat]).2.1, (((us ++ [((0 : Int), ([] : T8), q)])[a.toNat]).2.2 : Int)) := fun a h0 h1 => by
    rw [List.length_map] at h1
    have hlt : a.toNat < (us ++ [((0 : Int), ([] : T8), q)]).length := by omega
    refine ⟨hlt, ?_⟩
    unfold tk
    rw [List.getElem?_map, List.getElem?_eq_getElem hlt]
    rfl
  refine ⟨⟨fun a h0 h1 => ?_, fun a c t p h0 hk hc => ?_⟩, by simp⟩
  · obtain ⟨_, e⟩ := hg a h0 h1
    exact ⟨_, _, _, e⟩
  · have h1 := tk_lt hk h0
    obtain ⟨hlt, e⟩ := hg a h0 h1
    rw [hk] at e
    simp only [Option.some.injEq, Prod.mk.injEq] at e
    rw [List.length_map] at h1 ⊢
    rcases Int.lt_or_le (a + 1) ((us ++ [((0 : Int), ([] : T8), q)]).length : Nat) with h | h
    · exact h
    · exfalso
      apply hc
      rw [e.1, List.getElem_append_right (by simp at h ⊢; omega)]
      simp
def In (xs : List D) (a : Int) : Prop := 0 ≤ a ∧ a < xs.length
def NB (xs : List D) : PR → Prop
  | .ok _ _ _ _ b => In xs b
  | .no => False
  | _ => True
theorem isT_nz {c : Int} {t s : ByteArray} (h : isT c t s = true) : c ≠ 0 := by
  unfold isT at h
  simp only [Bool.and_eq_true, Bool.or_eq_true, beq_iff_eq] at h
  omega
variable {xs : List D}
theorem nb_deep (hx : Ends xs) {a : Int} (ha : In xs a) : NB xs (deepP xs a) := by
  obtain ⟨c, t, p, e⟩ := hx.tk a ha.1 ha.2
  simp only [deepP, e, NB]
theorem nb_chainL (hx : Ends xs) (op : ByteArray) (one : Int → PR) (h1 : ∀ a, In xs a → NB xs (one a)) (h2 : ∀ a, Adv a (one a)) : ∀ (n : Nat) (q nm : ByteArray) (ks : List D) (p a : Int), In xs a → (xs.length : Int) - a < n → NB xs (chainL xs op one n q nm ks p a)
  | 0, _, _, _, _, a, ha, hn => by have := ha.2; omega
  | n + 1, q, nm, ks, p, a, ha, hn => by
    obtain ⟨c, t, p2, e⟩ := hx.tk a ha.1 ha.2
    unfold chainL
    simp only [e]
    split
    · rename_i ht
      have hin : In xs (a + 1) := ⟨by have := ha.1; omega, hx.last a c t p2 ha.1 e (isT_nz ht)⟩
      have g1 := h1 (a + 1) hin
      have g2 := h2 (a + 1)
      split
      · rename_i e; rw [e] at g1 g2
        simp only [Adv] at g2
        exact nb_chainL hx op one h1 h2 n _ _ _ _ _ g1 (by omega)
      · trivial
      · trivial
      · rename_i e; rw [e] at g1; exact g1.elim
    · exact ha
theorem nb_chainP (hx : Ends xs) (op : ByteArray) (one : Int → PR) (h1 : ∀ a, In xs a → NB xs (one a)) (h2 : ∀ a, Adv a (one a)) (a : Int) (ha : In xs a) : NB xs (chainP xs op one a) := by
  have g1 := h1 a ha
  unfold chainP
  split
  · rename_i e; rw [e] at g1
    exact nb_chainL hx op one h1 h2 _ _ _ _ _ _ g1 (by have := g1.1; omega)
  · trivial
  · trivial
  · rename_i e; rw [e] at g1; exact g1.elim
theorem nb_rightP (hx : Ends xs) (one : Int → PR) (h1 : ∀ a, In xs a → NB xs (one a)) (o nm : ByteArray) (ks : List D) (p : Int) : ∀ (ops : List ByteArray) (a : Int), In xs a → NB xs (rightP xs one o nm ks p ops a)
  | [], a, h => h
  | op :: ops, a, ha => by
    obtain ⟨c, t, p2, e⟩ := hx.tk a ha.1 ha.2
    unfold rightP
    simp only [e]
    split
    · rename_i ht
      have hin : In xs (a + 1) := ⟨by have := ha.1; omega, hx.last a c t p2 ha.1 e (isT_nz ht)⟩
      have g1 := h1 (a + 1) hin
      split
      · rename_i e; rw [e] at g1; exact g1
      · trivial
      · trivial
      · rename_i e; rw [e] at g1; exact g1.elim
    · exact nb_rightP hx one h1 o nm ks p ops a ha
theorem nb_singleP (hx : Ends xs) (P : PF) (h1 : ∀ a, In xs a → NB xs (P.single a)) (h2 : ∀ a, In xs a → NB xs (P.imply a)) (a : Int) (ha : In xs a) : NB xs (singleP xs P a) := by
  obtain ⟨c, t, p, e⟩ := hx.tk a ha.1 ha.2
  have nx : c ≠ 0 → In xs (a + 1) := fun h => ⟨by have := ha.1; omega, hx.last a c t p ha.1 e h⟩
  unfold singleP
  simp only [e]
  split
  · rename_i h; exact nx (by omega)
  · split
    · rename_i h
      exact nx (by rcases h with h | h <;> exact isT_nz h)
    · split
      · rename_i h
        have g := h1 (a + 1) (nx (by rcases h with h | h | h | h <;> exact isT_nz h))
        split
        · rename_i e; rw [e] at g; exact g
        · trivial
        · trivial
        · rename_i e; rw [e] at g; exact g.elim
      · split
        · rename_i h
          have g := h2 (a + 1) (nx (isT_nz h))
          split
          · rename_i b e2; rw [e2] at g
            obtain ⟨c2, t2, q2, e3⟩ := hx.tk _ g.1 g.2
            simp only [e3]
            split
            · rename_i h3
              exact ⟨by have := g.1; omega, hx.last _ _ _ _ g.1 e3 (isT_nz h3)⟩
            · trivial
          · trivial
          · trivial
          · rename_i e; rw [e] at g; exact g.elim
        · trivial
theorem nb_untlP (hx : Ends xs) (s u : Int → PR) (h1 : ∀ a, In xs a → NB xs (s a)) (h2 : ∀ a, In xs a → NB xs (u a)) (a : Int) (ha : In xs a) : NB xs (untlP xs s u a) := by
  have g := h1 a ha
  unfold untlP
  split
  · rename_i e; rw [e] at g; exact nb_rightP hx u h2 _ _ _ _ _ _ g
  · trivial
  · trivial
  · rename_i e; rw [e] at g; exact g.elim
theorem nb_implyP (hx : Ends xs) (u i : Int → PR) (h1 : ∀ a, In xs a → NB xs (u a)) (h1' : ∀ a, Adv a (u a)) (h2 : ∀ a, In xs a → NB xs (i a)) (a : Int) (ha : In xs a) : NB xs (implyP xs u i a) := by
  have g := nb_chainP hx ⟨#[124]⟩ (kP xs u) (fun a ha => nb_chainP hx ⟨#[38]⟩ u h1 h1' a ha) (fun a => adv_chainP xs ⟨#[38]⟩ u h1' a) a ha
  unfold implyP
  split
  · rename_i e; rw [e] at g; exact nb_rightP hx i h2 _ _ _ _ _ _ g
  · trivial
  · trivial
  · rename_i e; rw [e] at g; exact g.elim
theorem nb_pf (hx : Ends xs) : ∀ n : Nat, (∀ a, In xs a → NB xs ((pf xs n).single a)) ∧ (∀ a, In xs a → NB xs ((pf xs n).untl a)) ∧ ∀ a, In xs a → NB xs ((pf xs n).imply a)
  | 0 => ⟨fun a => nb_deep hx, fun a => nb_deep hx, fun a => nb_deep hx⟩
  | n + 1 => by
    obtain ⟨h1, h2, h3⟩ := nb_pf hx n
    obtain ⟨a1, a2, a3⟩ := adv_pf xs (n + 1)
    have s := nb_singleP hx (pf xs n) h1 h3
    have u := nb_untlP hx _ _ s h2
    exact ⟨s, u, nb_implyP hx _ _ u a2 h3⟩
theorem parse_bad (s : ByteArray) (d : Int) : parseP s d ≠ .bad := by
  unfold parseP
  split
  · exact fun h => by cases h
  · split
    · exact fun h => by cases h
    · split
      · exact fun h => by cases h
      · rename_i l hl
        obtain ⟨hx, h0⟩ := ends_tok hl
        have g := (nb_pf hx d.toNat).2.2 0 ⟨by omega, by rw [List.length_map]; omega⟩
        change NB _ (pImply (l.map tokT) d.toNat 0) at g
        unfold endP
        split
        · rename_i e; rw [e] at g
          obtain ⟨c, t, q, e2⟩ := hx.tk _ g.1 g.2
          rw [e2]
          simp only
          split <;> exact fun h => by cases h
        · exact fun h => by cases h
        · exact fun h => by cases h
        · rename_i e; rw [e] at g; exact g.elim
end Go.Sc

namespace Go.Sc
open Go Go.Cm
def normE (f : Fm) (not : Bool) : Option (Int ⊕ Fm) :=
  match formF f with
  | false => some (.inl 1)
  | true => if sizeF f > 4096 then some (.inl 2) else match makeF f not 4096 with
    | some (x, l) => if l < 0 then some (.inl 2) else some (.inr x)
    | none => none
def simpE (f : Fm) : Int ⊕ Fm :=
  match isF f with
  | false => .inl 1
  | true => if sizeF f > 4096 then .inl 2 else .inr (simpleF f)
end Go.Sc

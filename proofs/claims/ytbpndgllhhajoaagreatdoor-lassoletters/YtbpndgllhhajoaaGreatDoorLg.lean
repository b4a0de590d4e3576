/- LassoSteps and its like, plainly: a letter further on; what U, W, R, F, G say now and from the next place on. -/
import Derived.Test.YtbpndgllhhajoaaGreatDoorLe
import Derived.Test.YtbpndgllhhajoaaGreatDoorLf
set_option linter.unusedVariables false
set_option linter.unusedSimpArgs false
namespace Go.Sc
open Go Go.Cm Go.Proofs

def U8D (l : List D) : Prop := ∀ d ∈ l, ∃ m : Int, d = .int .u8 m ∧ 0 ≤ m ∧ m < 256
theorem aD_tl (x : D) (l : List D) (i : Nat) : aD (x :: l) (i + 1) = aD l i := by unfold aD; rw [List.getElem?_cons_succ]
section
variable (lb : ByteArray → Nat → Prop) (a b : Pr) (k : Nat)
end
structure Fa (x : D) (t : Pr) : Prop where
  fm : ∃ f, ofD x = some f ∧ f.abs = some t
  lab : t.labs (lbOk namesD)
structure Wo (st lp : List D) : Prop where
  hs : LW st
  hl : LW lp
  ne : lp ≠ []
  len : st.length + lp.length ≤ 64
open Classical in
noncomputable def HB (t : Pr) (L : Nat → Int) (k : Nat) : Bool := decide (t.sat (lbAt namesD L) k)
end Go.Sc

namespace Go.Sc
open Go Go.Cm Go.Proofs
end Go.Sc

namespace Go.Sd
open Go Go.Cm Go.Proofs Go.Sc
set_option maxRecDepth 100000
namespace V27
/- rounds of the search: 1 -/
noncomputable def X : Fx := ⟨Tryz.prog, WS, 16, 2⟩
theorem start {β : Type} (st : List D) (lp : List D) (i : Int) (k : List TV → List TV → Option β) : evalF Tryz.prog WS Tryz.f27 [.d true 3 (D.ag [D.sl 0 st, D.sl 0 lp]), .d true 0 (D.int .i64 i)] k =
   if decide (i < (↑(List.length st) : Int)) = true then
   if (0 : Int) ≤ i then
    match st[Int.toNat i]? with
    | some x4 =>
     match x4 with
     | D.int j5 m6 => if j5 = IntKind.i64 then k [.d false 0 (D.int .i64 m6)] [] else none
     | x => none
    | none => none
   else none
  else
   if (↑(List.length lp) : Int) ≠ (0 : Int) then
    if (0 : Int) ≤ Int.tmod (IntKind.wrap .i64 (i - (↑(List.length st) : Int))) (↑(List.length lp) : Int) then
     match lp[Int.toNat (Int.tmod (IntKind.wrap .i64 (i - (↑(List.length st) : Int))) (↑(List.length lp) : Int))]? with
     | some x8 =>
      match x8 with
      | D.int j9 m10 => if j9 = IntKind.i64 then k [.d false 0 (D.int .i64 m10)] [] else none
      | x => none
     | none => none
    else none
   else none := by kernel_rfl
end V27

namespace V28
/- rounds of the search: 2 -/
noncomputable def X : Fx := ⟨Tryz.prog, WS, 16, 2⟩
def s0 (xs : List D) (ys : List D) (x27 : Int) : S := ⟨Tm.mk 26 [(0, .d true 0 (D.sl 0 xs)), (1, .d true 0 (D.sl 0 ys)), (5, .d false 0 (D.int .i64 x27))], []⟩
def e0r  : S := ⟨Tm.mk 26 [(4, .d false 0 (D.bool false))], []⟩
def e0x0  : S := ⟨Tm.mk 26 [], []⟩
noncomputable abbrev L0 : S → Option (S ⊕ (Ex × S)) := roundK X [(0, 0)] (sub [1, 1, 0, 1, 0, 0] (body Tryz.f28))
theorem start {β : Type} (xs : List D) (ys : List D) (k : List TV → List TV → Option β) : evalF Tryz.prog WS Tryz.f28 [.d true 0 (D.sl 0 xs), .d true 0 (D.sl 0 ys)] k =
   if (!(↑(List.length xs) : Int) == (↑(List.length ys) : Int)) = true then k [.d false 0 (D.bool false)] []
  else
   goLp X [(0, 0)] (sub [1, 1, 0, 1, 0, 0] (body Tryz.f28))
    [Kf.block 0 0, Kf.seq [] (sub [1, 1, 1] (body Tryz.f28)) 16]
    (finK Tryz.prog Tryz.f28 [.d true 0 (D.sl 0 xs), .d true 0 (D.sl 0 ys)] k) (s0 xs ys (0 : Int)) := by kernel_rfl
theorem round0 (xs : List D) (ys : List D) (x27 : Int) : roundK X [(0, 0)] (sub [1, 1, 0, 1, 0, 0] (body Tryz.f28)) (s0 xs ys x27) =
   if decide (x27 < (↑(List.length xs) : Int)) = true then
   if (0 : Int) ≤ x27 then
    match xs[Int.toNat x27]? with
    | some x37 =>
     match x37 with
     | D.int j38 m39 =>
      if j38 = IntKind.i64 then
       if (0 : Int) ≤ x27 then
        match ys[Int.toNat x27]? with
        | some x40 =>
         match x40 with
         | D.int j41 m42 => if j41 = IntKind.i64 then if (!m39 == m42) = true then some (Sum.inr (Ex.ret, e0r)) else some (Sum.inl (s0 xs ys (IntKind.wrap .i64 (x27 + (1 : Int))))) else none
         | x => none
        | none => none
       else none
      else none
     | x => none
    | none => none
   else none
  else some (Sum.inr (Ex.exit 0, e0x0)) := by kernel_rfl
theorem behind0x0 {β : Type} (xs : List D) (ys : List D) (k : List TV → List TV → Option β) : applyK X (finK Tryz.prog Tryz.f28 [.d true 0 (D.sl 0 xs), .d true 0 (D.sl 0 ys)] k)
   [Kf.block 0 0, Kf.seq [] (sub [1, 1, 1] (body Tryz.f28)) 16] (Ex.exit 0) e0x0 =
   k [.d false 0 (D.bool true)] [] := by kernel_rfl
end V28


end Go.Sd

set_option maxRecDepth 100000
namespace Go.Sc
open Go Go.Cm
def letR (st lp : List D) (i : Int) : Option Int := if i < st.length then iAt st i else if lp.length = 0 then none else iAt lp (Int.tmod (i - st.length) lp.length)
def eqI (xs ys : List D) : Prop := xs = ys ∧ intsB xs = true ∧ xs.length ≤ big
noncomputable instance (xs ys : List D) : Decidable (eqI xs ys) := Classical.propDecidable _
end Go.Sc
namespace Go.Sd
open Go Go.Cm Go.Proofs Go.Sc
def cLetR {β : Type} (args : List TV) (k : List TV → List TV → Option β) : Option β :=
  match args with
  | [.d true 3 (.ag [.sl 0 st, .sl 0 lp]), .d true 0 (.int .i64 i)] => match letR st lp i with
    | some m => chkK (0 ≤ i ∧ i ≤ 9223372036854775807 ∧ st.length + lp.length ≤ big) (k [.d false 0 (.int .i64 m)] [])
    | none => none
  | _ => none
noncomputable def cIntsEq {β : Type} (args : List TV) (k : List TV → List TV → Option β) : Option β :=
  match args with
  | [.d true 0 (.sl 0 xs), .d true 0 (.sl 0 ys)] => if eqI xs ys then k [.d false 0 (.bool true)] [] else none
  | _ => none
theorem vcLetR : VC 27 cLetR := by
  intro β args k r hr
  change cLetR args k = some r at hr
  have hbig : big = 34359738368 := rfl
  unfold cLetR at hr
  split at hr
  · rename_i st lp i
    split at hr
    · rename_i m hl
      obtain ⟨⟨h0, h1, h2⟩, hr⟩ := chkK_ok hr
      refine ⟨_, _, hr, valid_of envws mixed Tryz.func27 (by kernel_rfl) ?_⟩
      rw [V27.start]
      unfold letR at hl
      split at hl
      · rename_i hi
        obtain ⟨_, e⟩ := iAt_ok hl
        rw [if_pos (by simpa using hi), if_pos h0, e]
        simp
      · rename_i hi
        rw [if_neg (by simpa using hi)]
        split at hl
        · cases hl
        · rename_i h
          rw [if_pos (show ((lp.length : Int)) ≠ 0 by omega), wrap_id (by omega) (by omega)]
          obtain ⟨h5, e⟩ := iAt_ok hl
          rw [if_pos h5, e]
          simp
    · cases hr
  · cases hr
theorem ints_loop {xs : List D} (hn : xs.length ≤ 34359738368) : ∀ (r : List D) (i : Nat), xs.drop i = r → intsB r = true → Lp V28.L0 (V28.s0 xs xs i) = some (.exit 0, V28.e0x0)
  | [], i, hd, h => by
    have hr := V28.round0 xs xs i
    have : xs.length ≤ i := by have := congrArg List.length hd; simp at this; omega
    rw [if_neg (by simp; omega)] at hr
    exact Lp_exit hr
  | x :: r, i, hd, h => by
    have hr := V28.round0 xs xs i
    have hlt : i < xs.length := by
      rcases Nat.lt_or_ge i xs.length with h | h
      · exact h
      · rw [List.drop_eq_nil_of_le h] at hd; cases hd
    have hc := List.drop_eq_getElem_cons hlt
    rw [hd] at hc
    unfold intsB at h
    split at h
    · rename_i v
      have hx : xs[i]? = some (.int .i64 v) := by rw [List.getElem?_eq_getElem hlt, ← (List.cons.inj hc).1]
      rw [if_pos (by simp; omega), if_pos (by omega), Int.toNat_natCast, hx] at hr
      simp only [if_true] at hr
      rw [if_pos (by omega), if_neg (by simp), wrap_id (by omega) (by omega)] at hr
      exact Lp_step hr (ints_loop hn r (i + 1) (List.cons.inj hc).2.symm h)
    · cases h
theorem vcIntsEq : VC 28 cIntsEq := by
  intro β args k r hr
  change cIntsEq args k = some r at hr
  have hbig : big = 34359738368 := rfl
  unfold cIntsEq at hr
  split at hr
  · rename_i xs ys
    split at hr
    · rename_i hc
      obtain ⟨rfl, h1, h2⟩ := hc
      refine ⟨_, _, hr, valid_of envws mixed Tryz.func28 (by kernel_rfl) ?_⟩
      have hl : Lp V28.L0 (V28.s0 xs xs 0) = _ := ints_loop (by omega) xs 0 rfl h1
      rw [V28.start, if_neg (by simp), goLp_of hl, V28.behind0x0]
    · cases hr
  · cases hr
noncomputable def WR : Env := ((((Env.none.add 9 io0 cTrue).add 25 io0 cShiftS).add 26 io0 cLetterS).add 27 io0 cLetR).add 28 io0 cIntsEq
theorem envwr : EnvOk glS Tryz.prog WR := ((((EnvOk.none.add vcAlive).add vcShift).add vcLetter).add vcLetR).add vcIntsEq
end Go.Sd

namespace Go.Sc
open Go Go.Cm Go.Proofs
theorem ints_at : ∀ {l : List D}, intsB l = true → ∀ i, i < l.length → ∃ v, l[i]? = some (.int .i64 v)
  | x :: r, h, i, hi => by
    unfold intsB at h
    split at h
    · rename_i v
      cases i with
      | zero => exact ⟨v, rfl⟩
      | succ i => rw [List.getElem?_cons_succ]; exact ints_at h i (by simpa using hi)
    · cases h
theorem iAt_some {l : List D} (h : intsB l = true) {i : Nat} (hi : i < l.length) : iAt l (i : Int) = some (aD l i) := by
  obtain ⟨v, e⟩ := ints_at h i hi
  unfold iAt aD
  rw [if_pos (by omega), Int.toNat_natCast, e]
theorem letrB_nat {st lp : List D} (h1 : intsB st = true) (h2 : intsB lp = true) (k : Nat) (h : k < st.length ∨ lp ≠ []) :
    letrB st lp (k : Int) = some (if k < st.length then aD st k else aD lp ((k - st.length) % lp.length), true) := by
  unfold letrB
  rw [if_neg (by omega)]
  by_cases hk : k < st.length
  · rw [if_pos (by omega), if_pos hk, iAt_some h1 hk]; rfl
  · have hl := h.resolve_left hk
    have hp : 0 < lp.length := List.length_pos_iff.2 hl
    rw [if_neg (by omega), if_neg hk, if_neg (by omega)]
    have e : Int.tmod ((k : Int) - st.length) lp.length = (((k - st.length) % lp.length : Nat) : Int) := by
      rw [show (k : Int) - (st.length : Int) = ((k - st.length : Nat) : Int) by omega]
      exact Int.ofNat_tmod _ _ |>.symm
    rw [e, iAt_some h2 (Nat.mod_lt _ hp)]; rfl
theorem letrB_none {st : List D} (k : Nat) (h : ¬ k < st.length) : letrB st [] (k : Int) = some (0, false) := by
  unfold letrB
  rw [if_neg (by omega), if_neg (by omega)]
  rfl
theorem letR_eq {st lp : List D} {i m : Int} (h0 : 0 ≤ i) (h : letrB st lp i = some (m, true)) : letR st lp i = some m := by
  unfold letrB at h
  unfold letR
  rw [if_neg (by omega)] at h
  split at h
  · rename_i hi
    rw [if_pos hi]
    cases e : iAt st i with
    | none => rw [e] at h; cases h
    | some v => rw [e] at h; cases h; rfl
  · rename_i hi
    rw [if_neg hi]
    split at h
    · cases h
    · rename_i hl
      rw [if_neg hl]
      cases e : iAt lp (Int.tmod (i - st.length) lp.length) with
      | none => rw [e] at h; cases h
      | some v => rw [e] at h; cases h; rfl
theorem rot_at (x : D) (lr : List D) (j : Nat) : aD (lr ++ [x]) (j % (lr.length + 1)) = aD (x :: lr) ((j + 1) % (lr.length + 1)) := by
  have hm : j % (lr.length + 1) < lr.length + 1 := Nat.mod_lt _ (by omega)
  by_cases h : j % (lr.length + 1) < lr.length
  · have : (j + 1) % (lr.length + 1) = j % (lr.length + 1) + 1 := by
      rw [Nat.add_mod]
      by_cases h1 : lr.length = 0
      · omega
      · rw [Nat.mod_eq_of_lt (show 1 < lr.length + 1 by omega), Nat.mod_eq_of_lt (by omega)]
    rw [this, aD_tl, aD_app_l h]
  · have he : j % (lr.length + 1) = lr.length := by omega
    have : (j + 1) % (lr.length + 1) = 0 := by
      rw [Nat.add_mod, he]
      by_cases h1 : lr.length = 0
      · rw [h1]
      · rw [Nat.mod_eq_of_lt (show 1 < lr.length + 1 by omega), Nat.mod_self]
    rw [this, he, aD_app_r (Nat.le_refl _)]
    simp [aD]
theorem letrB_shift {st lp : List D} (h1 : intsB st = true) (h2 : intsB lp = true) (k : Nat) : letrB st lp ((k + 1 : Nat) : Int) = letrB (shStem st) (shLoop st lp) (k : Int) := by
  cases st with
  | cons x st =>
    have hs : intsB st = true := by
      have := intsB_drop 1 _ h1
      simpa using this
    show letrB (x :: st) lp ((k + 1 : Nat) : Int) = letrB st lp (k : Int)
    by_cases hl : lp = []
    · subst hl
      by_cases hk : k < st.length
      · rw [letrB_nat h1 rfl _ (.inl (by simp; omega)), letrB_nat hs rfl _ (.inl hk), if_pos (by simp; omega), if_pos hk, aD_tl]
      · rw [letrB_none _ (by simp; omega), letrB_none _ hk]
    · rw [letrB_nat h1 h2 _ (.inr hl), letrB_nat hs h2 _ (.inr hl)]
      by_cases hk : k < st.length
      · rw [if_pos (by simp; omega), if_pos hk, aD_tl]
      · rw [if_neg (by simp; omega), if_neg hk, List.length_cons, show k + 1 - (st.length + 1) = k - st.length by omega]
  | nil =>
    cases lp with
    | nil => rfl
    | cons x lr =>
      have hr : intsB (lr ++ [x]) = true := by
        have : ∀ (l : List D), intsB l = true → intsB [x] = true → intsB (l ++ [x]) = true := by
          intro l
          induction l with
          | nil => exact fun _ h => h
          | cons y l ih =>
            intro ha hb
            unfold intsB at ha
            split at ha
            · simp only [List.cons_append, intsB]; exact ih ha hb
            · cases ha
        refine this lr (by simpa using intsB_drop 1 _ h2) ?_
        unfold intsB at h2
        split at h2
        · rfl
        · cases h2
      show letrB [] (x :: lr) ((k + 1 : Nat) : Int) = letrB [] (lr ++ [x]) (k : Int)
      rw [letrB_nat rfl h2 _ (.inr (by simp)), letrB_nat rfl hr _ (.inr (by simp))]
      simp only [List.length_nil, Nat.not_lt_zero, if_false, Nat.sub_zero, List.length_cons, List.length_append, Nat.zero_add]
      rw [rot_at]
theorem shLoop_len (st lp : List D) : (shLoop st lp).length = lp.length := by
  cases st with
  | cons => rfl
  | nil => cases lp <;> simp [shLoop]
theorem letrB_any {st lp : List D} (h1 : intsB st = true) (h2 : intsB lp = true) (k : Nat) : ∃ m b, letrB st lp (k : Int) = some (m, b) := by
  by_cases hk : k < st.length
  · exact ⟨_, _, letrB_nat h1 h2 k (.inl hk)⟩
  · by_cases hl : lp = []
    · subst hl; exact ⟨_, _, letrB_none k hk⟩
    · exact ⟨_, _, letrB_nat h1 h2 k (.inr hl)⟩
end Go.Sc

namespace Go.Sd
open Go Go.Cm Go.Proofs Go.Sc
set_option maxRecDepth 100000
namespace Q7L
/- rounds of the search: 3 -/
noncomputable def X : Fx := ⟨Tryz.prog, WR, 64, 3⟩
def s0 (st : List D) (lp : List D) (i : Int) (x40 : Int) (x58 : Int) (x59 : Bool) : S := ⟨Tm.mk 103
   [(0, .d true 0 (D.sl 0 st)), (1, .d true 0 (D.sl 0 lp)), (2, .d true 0 (D.int .i64 i)), (7, .rp 8 0),
    (8, .d false 0 (D.int .i64 x58)), (9, .d false 0 (D.bool x59)), (10, .rp 11 0), (11, .d false 0 (D.int .i64 x40))], [(8, true, [.d true 0 (D.sl 0 st), .d true 0 (D.sl 0 lp)]),
   (11, true, [.d true 0 (D.sl 0 (shStem st)), .d true 0 (D.sl 0 (shLoop st lp))])]⟩
def e0r  : S := ⟨Tm.mk 103 [(6, .d false 0 (D.bool false))], []⟩
def e0x0 (st : List D) (lp : List D) (i : Int) (x58 : Int) (x59 : Bool) : S := ⟨Tm.mk 103
   [(0, .d true 0 (D.sl 0 st)), (1, .d true 0 (D.sl 0 lp)), (2, .d true 0 (D.int .i64 i)), (7, .rp 8 0),
    (8, .d false 0 (D.int .i64 x58)), (9, .d false 0 (D.bool x59)), (10, .rp 11 0)], [(8, true, [.d true 0 (D.sl 0 st), .d true 0 (D.sl 0 lp)]),
   (11, true, [.d true 0 (D.sl 0 (shStem st)), .d true 0 (D.sl 0 (shLoop st lp))])]⟩
noncomputable abbrev L0 : S → Option (S ⊕ (Ex × S)) := roundK X [(0, 1927)] (sub [1, 1, 1, 1, 1, 1, 1, 0, 1, 0, 0] (body Tryz.f7))
theorem start {β : Type} (st : List D) (lp : List D) (i : Int) (k : List TV → List TV → Option β) : evalF Tryz.prog WR Tryz.f7 [.d true 0 (D.sl 0 st), .d true 0 (D.sl 0 lp), .d true 0 (D.int .i64 i)] k =
   if decide (IntKind.wrap .i64 ((↑(List.length st) : Int) + (↑(List.length lp) : Int)) > (100 : Int)) = true then k [.d false 0 (D.bool true)] []
  else
   match letrB st lp i with
   | some (m93, b94) =>
    if i ≤ (9223372036854775807 : Int) ∧ List.length st + List.length lp ≤ 34359738368 then
     if decide (i < (0 : Int)) = true then if (m93 == (0 : Int)) = true then k [.d false 0 (D.bool !b94)] [] else k [.d false 0 (D.bool false)] []
     else
      if decide (i ≥ (↑(List.length st) : Int)) = true then
       if ((↑(List.length lp) : Int) == (0 : Int)) = true then if (m93 == (0 : Int)) = true then k [.d false 0 (D.bool !b94)] [] else k [.d false 0 (D.bool false)] []
       else
        if intsB st = true ∧ intsB lp = true ∧ List.length st + List.length lp ≤ 34359738368 then
         goLp X [(0, 1927)] (sub [1, 1, 1, 1, 1, 1, 1, 0, 1, 0, 0] (body Tryz.f7))
          [Kf.block 0 1927, Kf.seq [] (sub [1, 1, 1, 1, 1, 1, 1, 1] (body Tryz.f7)) 64]
          (finK Tryz.prog Tryz.f7 [.d true 0 (D.sl 0 st), .d true 0 (D.sl 0 lp), .d true 0 (D.int .i64 i)] k) (s0 st lp i (0 : Int) m93 b94)
        else none
      else
       if intsB st = true ∧ intsB lp = true ∧ List.length st + List.length lp ≤ 34359738368 then
        goLp X [(0, 1927)] (sub [1, 1, 1, 1, 1, 1, 1, 0, 1, 0, 0] (body Tryz.f7))
         [Kf.block 0 1927, Kf.seq [] (sub [1, 1, 1, 1, 1, 1, 1, 1] (body Tryz.f7)) 64]
         (finK Tryz.prog Tryz.f7 [.d true 0 (D.sl 0 st), .d true 0 (D.sl 0 lp), .d true 0 (D.int .i64 i)] k) (s0 st lp i (0 : Int) m93 b94)
       else none
    else none
   | none => none := by kernel_rfl
theorem round0 (st : List D) (lp : List D) (i : Int) (x40 : Int) (x58 : Int) (x59 : Bool) : roundK X [(0, 1927)] (sub [1, 1, 1, 1, 1, 1, 1, 0, 1, 0, 0] (body Tryz.f7)) (s0 st lp i x40 x58 x59) =
   if decide (x40 < (20 : Int)) = true then
   match letrB st lp (IntKind.wrap .i64 (x40 + (1 : Int))) with
   | some (m108, b109) =>
    if IntKind.wrap .i64 (x40 + (1 : Int)) ≤ (9223372036854775807 : Int) ∧ List.length st + List.length lp ≤ 34359738368 then
     match letrB (shStem st) (shLoop st lp) x40 with
     | some (m111, b112) =>
      if x40 ≤ (9223372036854775807 : Int) ∧ List.length (shStem st) + List.length (shLoop st lp) ≤ 34359738368 then
       if (!m108 == m111) = true then some (Sum.inr (Ex.ret, e0r)) else if (!b109 == b112) = true then some (Sum.inr (Ex.ret, e0r)) else some (Sum.inl (s0 st lp i (IntKind.wrap .i64 (x40 + (1 : Int))) x58 x59))
      else none
     | none => none
    else none
   | none => none
  else some (Sum.inr (Ex.exit 0, e0x0 st lp i x58 x59)) := by kernel_rfl
theorem behind0x0 {β : Type} (st : List D) (lp : List D) (i : Int) (x58 : Int) (x59 : Bool) (k : List TV → List TV → Option β) : applyK X (finK Tryz.prog Tryz.f7 [.d true 0 (D.sl 0 st), .d true 0 (D.sl 0 lp), .d true 0 (D.int .i64 i)] k)
   [Kf.block 0 1927, Kf.seq [] (sub [1, 1, 1, 1, 1, 1, 1, 1] (body Tryz.f7)) 64] (Ex.exit 0) (e0x0 st lp i x58 x59) =
   if x59 = true then
   match letR st lp i with
   | some m126 =>
    if (0 : Int) ≤ i ∧ i ≤ (9223372036854775807 : Int) ∧ List.length st + List.length lp ≤ 34359738368 then
     if (x58 == m126) = true then
      if ((↑(List.length (shLoop st lp)) : Int) == (↑(List.length lp) : Int)) = true then if eqI lp lp then k [.d false 0 (D.bool true)] [] else none else k [.d false 0 (D.bool false)] []
     else k [.d false 0 (D.bool false)] []
    else none
   | none => none
  else k [.d false 0 (D.bool false)] [] := by kernel_rfl
end Q7L


end Go.Sd

set_option maxRecDepth 100000
namespace Go.Sd
open Go Go.Cm Go.Proofs Go.Sc
theorem letters_loop {st lp : List D} {i c : Int} {o : Bool} (h1 : intsB st = true) (h2 : intsB lp = true) (hn : st.length + lp.length ≤ 100) : ∀ (m k : Nat), k + m = 20 → Lp Q7L.L0 (Q7L.s0 st lp i k c o) = some (.exit 0, Q7L.e0x0 st lp i c o)
  | 0, k, hk => by
    have hr := Q7L.round0 st lp i k c o
    rw [if_neg (by rw [decide_eq_true_eq]; omega)] at hr
    exact Lp_exit hr
  | m + 1, k, hk => by
    have hr := Q7L.round0 st lp i k c o
    obtain ⟨v, b, e⟩ := letrB_any h1 h2 (k + 1)
    have e2 := letrB_shift h1 h2 k
    rw [e] at e2
    have hw : IntKind.wrap .i64 ((k : Int) + 1) = ((k + 1 : Nat) : Int) := by rw [wrap_id (by omega) (by omega)]; omega
    have hs : (shStem st).length ≤ st.length := by unfold shStem; simp
    have hl := shLoop_len st lp
    rw [if_pos (by rw [decide_eq_true_eq]; omega), hw, e, ← e2] at hr
    simp only at hr
    rw [if_pos (by constructor <;> omega), if_pos (by constructor <;> omega), if_neg (by simp), if_neg (by simp)] at hr
    exact Lp_step hr (letters_loop h1 h2 hn m (k + 1) (by omega))
theorem ev_letters (st lp : List D) (i : Int) (h1 : intsB st = true) (h2 : intsB lp = true) (hst : st.length ≤ 4611686018427387903) (hlp : lp.length ≤ 4611686018427387903) (hi : i ≤ 9223372036854775807) {γ : Type} (q : List TV → List TV → Option γ) :
    evalF Tryz.prog WR Tryz.f7 [.d true 0 (.sl 0 st), .d true 0 (.sl 0 lp), .d true 0 (.int .i64 i)] q = q [.d false 0 (.bool true)] [] := by
  rw [Q7L.start]
  by_cases hlen : decide (IntKind.wrap .i64 ((st.length : Int) + (lp.length : Int)) > 100) = true
  · rw [if_pos hlen]
  rw [if_neg hlen]
  rw [wrap_id (by omega) (by omega), decide_eq_true_eq] at hlen
  have hbig : st.length + lp.length ≤ 100 := by omega
  have c1 : i ≤ 9223372036854775807 ∧ st.length + lp.length ≤ 34359738368 := ⟨hi, by omega⟩
  have c2 : intsB st = true ∧ intsB lp = true ∧ st.length + lp.length ≤ 34359738368 := ⟨h1, h2, by omega⟩
  by_cases h0 : i < 0
  · have e : letrB st lp i = some (0, false) := by unfold letrB; rw [if_pos h0]
    rw [e]
    simp only
    rw [if_pos c1, if_pos (by rw [decide_eq_true_eq]; exact h0)]
    rfl
  · obtain ⟨k, rfl⟩ : ∃ k : Nat, i = k := ⟨i.toNat, by omega⟩
    by_cases hn : ¬ k < st.length ∧ lp = []
    · obtain ⟨hk, rfl⟩ := hn
      rw [letrB_none k hk]
      simp only
      rw [if_pos c1, if_neg (by rw [decide_eq_true_eq]; omega), if_pos (by rw [decide_eq_true_eq]; omega)]
      rfl
    · have hok : k < st.length ∨ lp ≠ [] := by
        by_cases hk : k < st.length
        · exact .inl hk
        · exact .inr fun e => hn ⟨hk, e⟩
      obtain ⟨m, e⟩ : ∃ m, letrB st lp (k : Int) = some (m, true) := ⟨_, letrB_nat h1 h2 k hok⟩
      have hl : Lp Q7L.L0 (Q7L.s0 st lp k (0 : Nat) m true) = _ := letters_loop (c := m) (o := true) h1 h2 hbig 20 0 rfl
      have fin := (goLp_of hl).trans (Q7L.behind0x0 st lp k m true q)
      have er := letR_eq (by omega) e
      have heq : eqI lp lp := ⟨rfl, h2, by have : big = 34359738368 := rfl; omega⟩
      have hsame : (((shLoop st lp).length : Int) == (lp.length : Int)) = true := by rw [shLoop_len, beq_self_eq_true]
      rw [if_pos rfl, er] at fin
      simp only at fin
      rw [if_pos ⟨by omega, c1⟩, if_pos (beq_self_eq_true _), if_pos hsame, if_pos heq] at fin
      rw [e]
      simp only
      rw [if_pos c1, if_neg (by rw [decide_eq_true_eq]; omega)]
      by_cases hk : k < st.length
      · rw [if_neg (by rw [decide_eq_true_eq]; omega), if_pos c2]
        exact fin
      · have hp : 0 < lp.length := List.length_pos_iff.2 (hok.resolve_left hk)
        rw [if_pos (by rw [decide_eq_true_eq]; omega), if_neg (by rw [beq_iff_eq]; omega), if_pos c2]
        exact fin
theorem valid_letters {st lp : List D} {i : Int} (h1 : intsB st = true) (h2 : intsB lp = true) (hst : st.length ≤ 4611686018427387903) (hlp : lp.length ≤ 4611686018427387903) (hi : i ≤ 9223372036854775807) :
    Valid glS Tryz.prog 7 [.d true 0 (.sl 0 st), .d true 0 (.sl 0 lp), .d true 0 (.int .i64 i)] [.d false 0 (.bool true)] [] :=
  valid_of envwr mixed Tryz.func7 (by kernel_rfl) (ev_letters st lp i h1 h2 hst hlp hi _)
end Go.Sd

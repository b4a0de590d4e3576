/- LassoSteps and its like, plainly: a letter further on; what U, W, R, F, G say now and from the next place on. -/
import Derived.Test.YtbpndgllhhajoaaGreatDoorLe
import Derived.Test.YtbpndgllhhajoaaGreatDoorLf
import Derived.Test.YtbpndgllhhajoaaGreatDoorPe
set_option linter.unusedVariables false
set_option linter.unusedSimpArgs false
namespace Go.Sc
open Go Go.Cm Go.Proofs

theorem LW.ints : ∀ {l : List D}, LW l → intsB l = true
  | [], _ => rfl
  | x :: r, h => by
    obtain ⟨v, e, _⟩ := h x (.head _)
    have := LW.ints h.tl
    subst e
    exact this
theorem LW.dropN {l : List D} (h : LW l) (n : Nat) : LW (l.drop n) := fun d hd => h d (List.mem_of_mem_drop hd)
theorem LW.takeN {l : List D} (h : LW l) (n : Nat) : LW (l.take n) := fun d hd => h d (List.mem_of_mem_take hd)
def U8D (l : List D) : Prop := ∀ d ∈ l, ∃ m : Int, d = .int .u8 m ∧ 0 ≤ m ∧ m < 256
theorem lett_ok : ∀ {l : List D}, U8D l → ∃ x, lettS l = some x ∧ LW x ∧ x.length = l.length
  | [], _ => ⟨[], rfl, (fun d hd => by cases hd), rfl⟩
  | d :: r, h => by
    obtain ⟨m, e, h0, h1⟩ := h d (.head _)
    subst e
    obtain ⟨x, e, hx, hl⟩ := lett_ok (l := r) fun d hd => h d (.tail _ hd)
    have hw : IntKind.wrap .i64 m = m := Go.Sd.wrap_id (by omega) (by omega)
    refine ⟨.int .i64 (Int.tmod m 8) :: x, by simp only [lettS, e, hw], fun d hd => ?_, by simp [hl]⟩
    rcases List.mem_cons.1 hd with rfl | hd
    · exact ⟨_, rfl, Int.tmod_nonneg _ h0, Int.tmod_lt_of_pos _ (by decide)⟩
    · exact hx d hd
theorem loopOf_ok {y : List D} (h : LW y) : LW (loopOf y) ∧ loopOf y ≠ [] ∧ (loopOf y).length ≤ max y.length 1 := by
  unfold loopOf
  split
  · exact ⟨lw_zero, by simp, by simp⟩
  · rename_i h1
    exact ⟨h, h1, by omega⟩
theorem word_ok {a b : List D} (ha : U8D a) (hb : U8D b) : ∃ x y, lettS (a.take 8) = some x ∧ lettS (b.take 8) = some y ∧ LW x ∧ LW (loopOf y) ∧ loopOf y ≠ [] ∧ x.length ≤ 8 ∧ (loopOf y).length ≤ 8 := by
  obtain ⟨x, e1, h1, l1⟩ := lett_ok (l := a.take 8) fun d hd => ha d (List.mem_of_mem_take hd)
  obtain ⟨y, e2, h2, l2⟩ := lett_ok (l := b.take 8) fun d hd => hb d (List.mem_of_mem_take hd)
  obtain ⟨h3, h4, h5⟩ := loopOf_ok h2
  rw [List.length_take] at l1 l2
  exact ⟨x, y, e1, e2, h1, h3, h4, by omega, by omega⟩

theorem aD_tl (x : D) (l : List D) (i : Nat) : aD (x :: l) (i + 1) = aD l i := by unfold aD; rw [List.getElem?_cons_succ]
theorem strm_shift {st lp : List D} (hl : lp ≠ []) : strm (shStem st) (shLoop st lp) = fun k => strm st lp (k + 1) := by
  funext k
  cases st with
  | cons x st =>
    unfold strm shStem shLoop
    simp only [List.drop_succ_cons, List.drop_zero, List.length_cons, List.cons_append, posN]
    have hp : 0 < lp.length := List.length_pos_iff.2 hl
    have h := pos_bisim (n := st.length + 1 + lp.length) (bk := st.length + 1) (n' := st.length + lp.length) (bk' := st.length)
      (R := fun p p' => nxN (st.length + 1 + lp.length) (st.length + 1) p = p' + 1 ∧ p' < st.length + lp.length) (by unfold nxN; rw [if_pos (by omega)]; exact ⟨rfl, by omega⟩) (fun p p' h => by
        obtain ⟨h1, h2⟩ := h
        rw [h1]
        unfold nxN
        by_cases h : p' + 1 < st.length + lp.length
        · rw [if_pos (by omega), if_pos h]; exact ⟨rfl, h⟩
        · rw [if_neg (by omega), if_neg h]; exact ⟨rfl, by omega⟩) k
    rw [h.1, aD_tl]
  | nil =>
    cases lp with
    | nil => exact (hl rfl).elim
    | cons x lp =>
      unfold strm shStem shLoop
      simp only [List.drop_nil, List.drop_succ_cons, List.drop_zero, List.take_succ_cons, List.take_zero, List.length_nil, Nat.zero_add, List.nil_append, List.length_append, List.length_cons, posN]
      have h := pos_bisim (n := lp.length + 1) (bk := 0) (n' := lp.length + 1) (bk' := 0)
        (R := fun p p' => nxN (lp.length + 1) 0 p = (if p' < lp.length then p' + 1 else 0) ∧ p' ≤ lp.length) (by unfold nxN; exact ⟨by simp, by omega⟩) (fun p p' h => by
          obtain ⟨h1, h2⟩ := h
          rw [h1]
          unfold nxN
          by_cases h : p' < lp.length
          · rw [if_pos h, if_pos (show p' + 1 < lp.length + 1 by omega)]
            exact ⟨by by_cases h3 : p' + 1 < lp.length
                      · rw [if_pos (by omega), if_pos h3]
                      · rw [if_neg (by omega), if_neg h3], by omega⟩
          · rw [if_neg h, if_neg (show ¬ (p' + 1 < lp.length + 1) by omega)]
            exact ⟨by by_cases h3 : 0 < lp.length
                      · rw [if_pos (by omega), if_pos h3]
                      · rw [if_neg (by omega), if_neg h3], by omega⟩) k
      rw [h.1]
      by_cases h3 : posN (lp.length + 1) 0 k < lp.length
      · rw [if_pos h3, aD_app_l h3, aD_tl]
      · rw [if_neg h3, show posN (lp.length + 1) 0 k = lp.length by omega, aD_app_r (Nat.le_refl _)]
        simp [aD]
theorem shift_lw {st lp : List D} (h1 : LW st) (h2 : LW lp) (h3 : lp ≠ []) : LW (shStem st) ∧ LW (shLoop st lp) ∧ shLoop st lp ≠ [] ∧ (shStem st).length + (shLoop st lp).length ≤ st.length + lp.length := by
  cases st with
  | cons x st => exact ⟨h1.tl, h2, h3, by simp [shStem, shLoop]⟩
  | nil =>
    refine ⟨fun d hd => by simp [shStem] at hd, (h2.dropN 1).app (h2.takeN 1), ?_, ?_⟩
    · cases lp with
      | nil => exact (h3 rfl).elim
      | cons x lp => simp [shLoop]
    · simp [shStem, shLoop]; omega
theorem sat_shift (lb : ByteArray → Nat → Prop) : ∀ (t : Pr) (k : Nat), t.sat (fun s k => lb s (k + 1)) k ↔ t.sat lb (k + 1)
  | .tt, k => Iff.rfl
  | .ff, k => Iff.rfl
  | .lab s, k => Iff.rfl
  | .un .no a, k => by simp only [Pr.sat, sat_shift lb a]
  | .un .X a, k => by simp only [Pr.sat, sat_shift lb a]
  | .un .F a, k => by simp only [Pr.sat, sat_shift lb a, Nat.add_right_comm k _ 1]
  | .un .G a, k => by simp only [Pr.sat, sat_shift lb a, Nat.add_right_comm k _ 1]
  | .bi .and a b, k => by simp only [Pr.sat, sat_shift lb a, sat_shift lb b]
  | .bi .or a b, k => by simp only [Pr.sat, sat_shift lb a, sat_shift lb b]
  | .bi .imp a b, k => by simp only [Pr.sat, sat_shift lb a, sat_shift lb b]
  | .bi .U a b, k => by simp only [Pr.sat, UntP, sat_shift lb a, sat_shift lb b, Nat.add_right_comm k _ 1]
  | .bi .W a b, k => by simp only [Pr.sat, UntP, sat_shift lb a, sat_shift lb b, Nat.add_right_comm k _ 1]
  | .bi .R a b, k => by simp only [Pr.sat, UntP, sat_shift lb a, sat_shift lb b, Nat.add_right_comm k _ 1]

theorem untP_step (P Q : Nat → Prop) (k : Nat) : UntP P Q k ↔ P k ∨ (Q k ∧ UntP P Q (k + 1)) := by
  constructor
  · rintro ⟨d, h1, h2⟩
    cases d with
    | zero => exact .inl h1
    | succ d => exact .inr ⟨h2 0 (by omega), d, by rw [show k + 1 + d = k + (d + 1) by omega]; exact h1, fun j hj => by rw [show k + 1 + j = k + (j + 1) by omega]; exact h2 (j + 1) (by omega)⟩
  · rintro (h | ⟨h, d, h1, h2⟩)
    · exact ⟨0, h, fun j hj => absurd hj (Nat.not_lt_zero _)⟩
    · refine ⟨d + 1, by rw [show k + (d + 1) = k + 1 + d by omega]; exact h1, fun j hj => ?_⟩
      cases j with
      | zero => exact h
      | succ j => rw [show k + (j + 1) = k + 1 + j by omega]; exact h2 j (by omega)
theorem all_step (Q : Nat → Prop) (k : Nat) : (∀ d, Q (k + d)) ↔ Q k ∧ ∀ d, Q (k + 1 + d) := by
  constructor
  · exact fun h => ⟨h 0, fun d => by rw [show k + 1 + d = k + (d + 1) by omega]; exact h _⟩
  · rintro ⟨h, h1⟩ d
    cases d with
    | zero => exact h
    | succ d => rw [show k + (d + 1) = k + 1 + d by omega]; exact h1 d
section
variable (lb : ByteArray → Nat → Prop) (a b : Pr) (k : Nat)
theorem sat_U : (Pr.bi .U a b).sat lb k ↔ b.sat lb k ∨ (a.sat lb k ∧ (Pr.bi .U a b).sat lb (k + 1)) := by simp only [Pr.sat]; exact untP_step _ _ k
theorem sat_W : (Pr.bi .W a b).sat lb k ↔ b.sat lb k ∨ (a.sat lb k ∧ (Pr.bi .W a b).sat lb (k + 1)) := by
  simp only [Pr.sat]
  rw [untP_step, all_step]
  constructor
  · rintro ((h | ⟨h, h1⟩) | ⟨h, h1⟩)
    · exact .inl h
    · exact .inr ⟨h, .inl h1⟩
    · exact .inr ⟨h, .inr h1⟩
  · rintro (h | ⟨h, h1 | h1⟩)
    · exact .inl (.inl h)
    · exact .inl (.inr ⟨h, h1⟩)
    · exact .inr ⟨h, h1⟩
theorem sat_R : (Pr.bi .R a b).sat lb k ↔ b.sat lb k ∧ (a.sat lb k ∨ (Pr.bi .R a b).sat lb (k + 1)) := by
  simp only [Pr.sat]
  rw [untP_step, all_step]
  constructor
  · rintro ((⟨h, h'⟩ | ⟨h, h1⟩) | ⟨h, h1⟩)
    · exact ⟨h, .inl h'⟩
    · exact ⟨h, .inr (.inl h1)⟩
    · exact ⟨h, .inr (.inr h1)⟩
  · rintro ⟨h, h' | h1 | h1⟩
    · exact .inl (.inl ⟨h, h'⟩)
    · exact .inl (.inr ⟨h, h1⟩)
    · exact .inr ⟨h, h1⟩
theorem sat_UW (h : (Pr.bi .U a b).sat lb k) : (Pr.bi .W a b).sat lb k := by
  simp only [Pr.sat] at h ⊢
  exact .inl h
end
theorem fm_two {x y : D} {f g : Fm} {t u : Pr} {ob nm : ByteArray} {p : Int} (o : B2) (ho : ob.toList = o.s) (hf : ofD x = some f) (ha : f.abs = some t) (hg : ofD y = some g) (hb : g.abs = some u) :
    ∃ h, ofD (.ag [.str ob, .str nm, .sl 5 [x, y], .int .i64 p]) = some h ∧ h.abs = some (.bi o t u) :=
  ⟨.mk ob nm [f, g] p, by simp only [ofD, ofDL, hf, hg], by simp only [Fm.abs, b2A, ho, b2_of, ha, hb]⟩
theorem fm_one {x : D} {f : Fm} {t : Pr} {ob nm : ByteArray} {p : Int} (o : U1) (ho : ob.toList = o.s) (hf : ofD x = some f) (ha : f.abs = some t) :
    ∃ h, ofD (.ag [.str ob, .str nm, .sl 5 [x], .int .i64 p]) = some h ∧ h.abs = some (.un o t) :=
  ⟨.mk ob nm [f] p, by simp only [ofD, ofDL, hf], by simp only [Fm.abs, u1A, ho, u1_of, ha]⟩
theorem isFm_of {x : D} {f : Fm} (h : ofD x = some f) : isFm x = true := by unfold isFm; rw [h]; rfl
structure Fa (x : D) (t : Pr) : Prop where
  fm : ∃ f, ofD x = some f ∧ f.abs = some t
  lab : t.labs (lbOk namesD)
theorem Fa.two {x y : D} {t u : Pr} {ob nm : ByteArray} {p : Int} (h : Fa x t) (k : Fa y u) (o : B2) (ho : ob.toList = o.s) : Fa (.ag [.str ob, .str nm, .sl 5 [x, y], .int .i64 p]) (.bi o t u) := by
  obtain ⟨f, h1, h2⟩ := h.fm
  obtain ⟨g, k1, k2⟩ := k.fm
  exact ⟨fm_two o ho h1 h2 k1 k2, h.lab, k.lab⟩
theorem Fa.one {x : D} {t : Pr} {ob nm : ByteArray} {p : Int} (h : Fa x t) (o : U1) (ho : ob.toList = o.s) : Fa (.ag [.str ob, .str nm, .sl 5 [x], .int .i64 p]) (.un o t) := by
  obtain ⟨f, h1, h2⟩ := h.fm
  exact ⟨fm_one o ho h1 h2, h.lab⟩
theorem Fa.is {x : D} {t : Pr} (h : Fa x t) : isFm x = true := by obtain ⟨f, h1, _⟩ := h.fm; exact isFm_of h1
structure Wo (st lp : List D) : Prop where
  hs : LW st
  hl : LW lp
  ne : lp ≠ []
  len : st.length + lp.length ≤ 64
open Classical in
noncomputable def HB (t : Pr) (L : Nat → Int) (k : Nat) : Bool := decide (t.sat (lbAt namesD L) k)
open Classical in
theorem HB_iff {t : Pr} {L : Nat → Int} {k : Nat} : HB t L k = true ↔ t.sat (lbAt namesD L) k := by unfold HB; exact decide_eq_true_iff
theorem Fa.hold {x : D} {t : Pr} {st lp : List D} (h : Fa x t) (w : Wo st lp) (hz : t.sz ≤ 4096) : holdX Tryz.prog x namesD st lp = some (HB t (strm st lp) 0) := by
  obtain ⟨f, h1, h2⟩ := h.fm
  rw [holdX_of h1 h2 hz h.lab w.hs w.hl w.ne w.len]; rfl
theorem Wo.shift {st lp : List D} (w : Wo st lp) : Wo (shStem st) (shLoop st lp) := by
  obtain ⟨h1, h2, h3, h4⟩ := shift_lw w.hs w.hl w.ne
  exact ⟨h1, h2, h3, by have := w.len; omega⟩
theorem HB_shift (t : Pr) (L : Nat → Int) (k : Nat) : HB t (fun k => L (k + 1)) k = HB t L (k + 1) := by
  rw [Bool.eq_iff_iff, HB_iff, HB_iff]
  exact sat_shift (lbAt namesD L) t k
theorem Fa.hold_shift {x : D} {t : Pr} {st lp : List D} (h : Fa x t) (w : Wo st lp) (hz : t.sz ≤ 4096) : holdX Tryz.prog x namesD (shStem st) (shLoop st lp) = some (HB t (strm st lp) 1) := by
  rw [h.hold w.shift hz, strm_shift w.ne, HB_shift]
theorem HB_U (a b : Pr) (L : Nat → Int) (k : Nat) : HB (.bi .U a b) L k = (HB b L k || (HB a L k && HB (.bi .U a b) L (k + 1))) := by
  rw [Bool.eq_iff_iff, Bool.or_eq_true, Bool.and_eq_true]; simp only [HB_iff]; exact sat_U _ _ _ _
theorem HB_W (a b : Pr) (L : Nat → Int) (k : Nat) : HB (.bi .W a b) L k = (HB b L k || (HB a L k && HB (.bi .W a b) L (k + 1))) := by
  rw [Bool.eq_iff_iff, Bool.or_eq_true, Bool.and_eq_true]; simp only [HB_iff]; exact sat_W _ _ _ _
theorem HB_R (a b : Pr) (L : Nat → Int) (k : Nat) : HB (.bi .R a b) L k = (HB b L k && (HB a L k || HB (.bi .R a b) L (k + 1))) := by
  rw [Bool.eq_iff_iff, Bool.and_eq_true, Bool.or_eq_true]; simp only [HB_iff]; exact sat_R _ _ _ _
theorem HB_UW (a b : Pr) (L : Nat → Int) (k : Nat) (h : HB (.bi .U a b) L k = true) : HB (.bi .W a b) L k = true := by
  rw [HB_iff] at h ⊢; exact sat_UW _ _ _ _ h
theorem parse_fm {s : ByteArray} {d : Int} {op nm : ByteArray} {ks : List D} {p : Int} (h : parseP s d = .ok op nm ks p) (hs : s.size ≤ 200) : ∃ f t, ofD (.ag [.str op, .str nm, .sl 5 ks, .int .i64 p]) = some f ∧ f.abs = some t ∧ t.sz ≤ 201 := by
  obtain ⟨f, t, h1, h2, _, h4⟩ := parse_ok h
  exact ⟨f, t, h1, h2, by omega⟩
end Go.Sc

namespace Go.Sd
open Go Go.Cm Go.Proofs Go.Sc
set_option maxRecDepth 100000
namespace Q5S
/- rounds of the search: 1 -/
noncomputable def X : Fx := ⟨Tryz.prog, WZ, 256, 4⟩
theorem start {β : Type} (s : ByteArray) (t : ByteArray) (a : List D) (b : List D) (k : List TV → List TV → Option β) : evalF Tryz.prog WZ Tryz.f5 [.d true 0 (D.str s), .d true 0 (D.str t), .d true 0 (D.sl 0 a), .d true 0 (D.sl 0 b)] k =
   if decide (IntKind.wrap .i64 ((↑(ByteArray.size s) : Int) + (↑(ByteArray.size t) : Int)) > (200 : Int)) = true then k [.d false 0 (D.bool true)] []
  else
   match parseP s (60 : Int) with
   | PA.ok op7 nm8 ks9 p10 =>
    match parseP t (60 : Int) with
    | PA.ok op12 nm13 ks14 p15 =>
     match otherX Tryz.prog (D.ag [D.str op7, D.str nm8, D.sl 5 ks9, D.int .i64 p10]) with
     | some b17 =>
      if b17 = true then k [.d false 0 (D.bool true)] []
      else
       match otherX Tryz.prog (D.ag [D.str op12, D.str nm13, D.sl 5 ks14, D.int .i64 p15]) with
       | some b20 =>
        if b20 = true then k [.d false 0 (D.bool true)] []
        else
         match lettS (List.take 8 a), lettS (List.take 8 b) with
         | some x24, some y25 =>
          match
           holdX Tryz.prog (D.ag [D.str op7, D.str nm8, D.sl 5 ks9, D.int .i64 p10])
            [D.str (ByteArray.mk #[97]), D.str (ByteArray.mk #[98]), D.str (ByteArray.mk #[103, 111, 97, 108])] x24 (loopOf y25) with
          | some b27 =>
           match
            holdX Tryz.prog (D.ag [D.str op12, D.str nm13, D.sl 5 ks14, D.int .i64 p15])
             [D.str (ByteArray.mk #[97]), D.str (ByteArray.mk #[98]), D.str (ByteArray.mk #[103, 111, 97, 108])] x24 (loopOf y25) with
           | some b29 =>
            if isFm (D.ag [D.str op7, D.str nm8, D.sl 5 ks9, D.int .i64 p10]) = true then
             if isFm (D.ag [D.str op12, D.str nm13, D.sl 5 ks14, D.int .i64 p15]) = true then
              match
               holdX Tryz.prog
                (D.ag
                 [D.str (ByteArray.mk #[85]), D.str (ByteArray.mk #[]),
                  D.sl 5 [D.ag [D.str op7, D.str nm8, D.sl 5 ks9, D.int .i64 p10], D.ag [D.str op12, D.str nm13, D.sl 5 ks14, D.int .i64 p15]],
                  D.int .i64 0])
                [D.str (ByteArray.mk #[97]), D.str (ByteArray.mk #[98]), D.str (ByteArray.mk #[103, 111, 97, 108])] x24 (loopOf y25) with
              | some b31 =>
               if isFm (D.ag [D.str op7, D.str nm8, D.sl 5 ks9, D.int .i64 p10]) = true then
                if isFm (D.ag [D.str op12, D.str nm13, D.sl 5 ks14, D.int .i64 p15]) = true then
                 match
                  holdX Tryz.prog
                   (D.ag
                    [D.str (ByteArray.mk #[87]), D.str (ByteArray.mk #[]),
                     D.sl 5 [D.ag [D.str op7, D.str nm8, D.sl 5 ks9, D.int .i64 p10], D.ag [D.str op12, D.str nm13, D.sl 5 ks14, D.int .i64 p15]],
                     D.int .i64 0])
                   [D.str (ByteArray.mk #[97]), D.str (ByteArray.mk #[98]), D.str (ByteArray.mk #[103, 111, 97, 108])] x24 (loopOf y25) with
                 | some b33 =>
                  if isFm (D.ag [D.str op7, D.str nm8, D.sl 5 ks9, D.int .i64 p10]) = true then
                   if isFm (D.ag [D.str op12, D.str nm13, D.sl 5 ks14, D.int .i64 p15]) = true then
                    match
                     holdX Tryz.prog
                      (D.ag
                       [D.str (ByteArray.mk #[82]), D.str (ByteArray.mk #[]),
                        D.sl 5 [D.ag [D.str op7, D.str nm8, D.sl 5 ks9, D.int .i64 p10], D.ag [D.str op12, D.str nm13, D.sl 5 ks14, D.int .i64 p15]],
                        D.int .i64 0])
                      [D.str (ByteArray.mk #[97]), D.str (ByteArray.mk #[98]), D.str (ByteArray.mk #[103, 111, 97, 108])] x24
                      (loopOf y25) with
                    | some b35 =>
                     if intsB x24 = true ∧ intsB (loopOf y25) = true ∧ List.length x24 + List.length (loopOf y25) ≤ 34359738368 then
                      if isFm (D.ag [D.str op7, D.str nm8, D.sl 5 ks9, D.int .i64 p10]) = true then
                       if isFm (D.ag [D.str op12, D.str nm13, D.sl 5 ks14, D.int .i64 p15]) = true then
                        match
                         holdX Tryz.prog
                          (D.ag
                           [D.str (ByteArray.mk #[85]), D.str (ByteArray.mk #[]),
                            D.sl 5 [D.ag [D.str op7, D.str nm8, D.sl 5 ks9, D.int .i64 p10], D.ag [D.str op12, D.str nm13, D.sl 5 ks14, D.int .i64 p15]],
                            D.int .i64 0])
                          [D.str (ByteArray.mk #[97]), D.str (ByteArray.mk #[98]), D.str (ByteArray.mk #[103, 111, 97, 108])] (shStem x24)
                          (shLoop x24 (loopOf y25)) with
                        | some b38 =>
                         if isFm (D.ag [D.str op7, D.str nm8, D.sl 5 ks9, D.int .i64 p10]) = true then
                          if isFm (D.ag [D.str op12, D.str nm13, D.sl 5 ks14, D.int .i64 p15]) = true then
                           match
                            holdX Tryz.prog
                             (D.ag
                              [D.str (ByteArray.mk #[87]), D.str (ByteArray.mk #[]),
                               D.sl 5
                                [D.ag [D.str op7, D.str nm8, D.sl 5 ks9, D.int .i64 p10], D.ag [D.str op12, D.str nm13, D.sl 5 ks14, D.int .i64 p15]],
                               D.int .i64 0])
                             [D.str (ByteArray.mk #[97]), D.str (ByteArray.mk #[98]), D.str (ByteArray.mk #[103, 111, 97, 108])]
                             (shStem x24) (shLoop x24 (loopOf y25)) with
                           | some b40 =>
                            if isFm (D.ag [D.str op7, D.str nm8, D.sl 5 ks9, D.int .i64 p10]) = true then
                             if isFm (D.ag [D.str op12, D.str nm13, D.sl 5 ks14, D.int .i64 p15]) = true then
                              match
                               holdX Tryz.prog
                                (D.ag
                                 [D.str (ByteArray.mk #[82]), D.str (ByteArray.mk #[]),
                                  D.sl 5
                                   [D.ag [D.str op7, D.str nm8, D.sl 5 ks9, D.int .i64 p10], D.ag [D.str op12, D.str nm13, D.sl 5 ks14, D.int .i64 p15]],
                                  D.int .i64 0])
                                [D.str (ByteArray.mk #[97]), D.str (ByteArray.mk #[98]), D.str (ByteArray.mk #[103, 111, 97, 108])]
                                (shStem x24) (shLoop x24 (loopOf y25)) with
                              | some b42 =>
                               if b29 = true then
                                if (b31 == true) = true then
                                 if b29 = true then
                                  if (b33 == true) = true then
                                   if b29 = true then
                                    if b27 = true then
                                     if (b35 == true) = true then if (!b31) = true then k [.d false 0 (D.bool true)] [] else k [.d false 0 (D.bool b33)] []
                                     else k [.d false 0 (D.bool false)] []
                                    else
                                     if (b35 == b42) = true then if (!b31) = true then k [.d false 0 (D.bool true)] [] else k [.d false 0 (D.bool b33)] []
                                     else k [.d false 0 (D.bool false)] []
                                   else
                                    if (b35 == false) = true then if (!b31) = true then k [.d false 0 (D.bool true)] [] else k [.d false 0 (D.bool b33)] []
                                    else k [.d false 0 (D.bool false)] []
                                  else k [.d false 0 (D.bool false)] []
                                 else
                                  if b27 = true then
                                   if (b33 == b40) = true then
                                    if b29 = true then
                                     if b27 = true then
                                      if (b35 == true) = true then if (!b31) = true then k [.d false 0 (D.bool true)] [] else k [.d false 0 (D.bool b33)] []
                                      else k [.d false 0 (D.bool false)] []
                                     else
                                      if (b35 == b42) = true then if (!b31) = true then k [.d false 0 (D.bool true)] [] else k [.d false 0 (D.bool b33)] []
                                      else k [.d false 0 (D.bool false)] []
                                    else
                                     if (b35 == false) = true then if (!b31) = true then k [.d false 0 (D.bool true)] [] else k [.d false 0 (D.bool b33)] []
                                     else k [.d false 0 (D.bool false)] []
                                   else k [.d false 0 (D.bool false)] []
                                  else
                                   if (b33 == false) = true then
                                    if b29 = true then
                                     if b27 = true then
                                      if (b35 == true) = true then if (!b31) = true then k [.d false 0 (D.bool true)] [] else k [.d false 0 (D.bool b33)] []
                                      else k [.d false 0 (D.bool false)] []
                                     else
                                      if (b35 == b42) = true then if (!b31) = true then k [.d false 0 (D.bool true)] [] else k [.d false 0 (D.bool b33)] []
                                      else k [.d false 0 (D.bool false)] []
                                    else
                                     if (b35 == false) = true then if (!b31) = true then k [.d false 0 (D.bool true)] [] else k [.d false 0 (D.bool b33)] []
                                     else k [.d false 0 (D.bool false)] []
                                   else k [.d false 0 (D.bool false)] []
                                else k [.d false 0 (D.bool false)] []
                               else
                                if b27 = true then
                                 if (b31 == b38) = true then
                                  if b29 = true then
                                   if (b33 == true) = true then
                                    if b29 = true then
                                     if b27 = true then
                                      if (b35 == true) = true then if (!b31) = true then k [.d false 0 (D.bool true)] [] else k [.d false 0 (D.bool b33)] []
                                      else k [.d false 0 (D.bool false)] []
                                     else
                                      if (b35 == b42) = true then if (!b31) = true then k [.d false 0 (D.bool true)] [] else k [.d false 0 (D.bool b33)] []
                                      else k [.d false 0 (D.bool false)] []
                                    else
                                     if (b35 == false) = true then if (!b31) = true then k [.d false 0 (D.bool true)] [] else k [.d false 0 (D.bool b33)] []
                                     else k [.d false 0 (D.bool false)] []
                                   else k [.d false 0 (D.bool false)] []
                                  else
                                   if b27 = true then
                                    if (b33 == b40) = true then
                                     if b29 = true then
                                      if b27 = true then
                                       if (b35 == true) = true then if (!b31) = true then k [.d false 0 (D.bool true)] [] else k [.d false 0 (D.bool b33)] []
                                       else k [.d false 0 (D.bool false)] []
                                      else
                                       if (b35 == b42) = true then if (!b31) = true then k [.d false 0 (D.bool true)] [] else k [.d false 0 (D.bool b33)] []
                                       else k [.d false 0 (D.bool false)] []
                                     else
                                      if (b35 == false) = true then if (!b31) = true then k [.d false 0 (D.bool true)] [] else k [.d false 0 (D.bool b33)] []
                                      else k [.d false 0 (D.bool false)] []
                                    else k [.d false 0 (D.bool false)] []
                                   else
                                    if (b33 == false) = true then
                                     if b29 = true then
                                      if b27 = true then
                                       if (b35 == true) = true then if (!b31) = true then k [.d false 0 (D.bool true)] [] else k [.d false 0 (D.bool b33)] []
                                       else k [.d false 0 (D.bool false)] []
                                      else
                                       if (b35 == b42) = true then if (!b31) = true then k [.d false 0 (D.bool true)] [] else k [.d false 0 (D.bool b33)] []
                                       else k [.d false 0 (D.bool false)] []
                                     else
                                      if (b35 == false) = true then if (!b31) = true then k [.d false 0 (D.bool true)] [] else k [.d false 0 (D.bool b33)] []
                                      else k [.d false 0 (D.bool false)] []
                                    else k [.d false 0 (D.bool false)] []
                                 else k [.d false 0 (D.bool false)] []
                                else
                                 if (b31 == false) = true then
                                  if b29 = true then
                                   if (b33 == true) = true then
                                    if b29 = true then
                                     if b27 = true then
                                      if (b35 == true) = true then if (!b31) = true then k [.d false 0 (D.bool true)] [] else k [.d false 0 (D.bool b33)] []
                                      else k [.d false 0 (D.bool false)] []
                                     else
                                      if (b35 == b42) = true then if (!b31) = true then k [.d false 0 (D.bool true)] [] else k [.d false 0 (D.bool b33)] []
                                      else k [.d false 0 (D.bool false)] []
                                    else
                                     if (b35 == false) = true then if (!b31) = true then k [.d false 0 (D.bool true)] [] else k [.d false 0 (D.bool b33)] []
                                     else k [.d false 0 (D.bool false)] []
                                   else k [.d false 0 (D.bool false)] []
                                  else
                                   if b27 = true then
                                    if (b33 == b40) = true then
                                     if b29 = true then
                                      if b27 = true then
                                       if (b35 == true) = true then if (!b31) = true then k [.d false 0 (D.bool true)] [] else k [.d false 0 (D.bool b33)] []
                                       else k [.d false 0 (D.bool false)] []
                                      else
                                       if (b35 == b42) = true then if (!b31) = true then k [.d false 0 (D.bool true)] [] else k [.d false 0 (D.bool b33)] []
                                       else k [.d false 0 (D.bool false)] []
                                     else
                                      if (b35 == false) = true then if (!b31) = true then k [.d false 0 (D.bool true)] [] else k [.d false 0 (D.bool b33)] []
                                      else k [.d false 0 (D.bool false)] []
                                    else k [.d false 0 (D.bool false)] []
                                   else
                                    if (b33 == false) = true then
                                     if b29 = true then
                                      if b27 = true then
                                       if (b35 == true) = true then if (!b31) = true then k [.d false 0 (D.bool true)] [] else k [.d false 0 (D.bool b33)] []
                                       else k [.d false 0 (D.bool false)] []
                                      else
                                       if (b35 == b42) = true then if (!b31) = true then k [.d false 0 (D.bool true)] [] else k [.d false 0 (D.bool b33)] []
                                       else k [.d false 0 (D.bool false)] []
                                     else
                                      if (b35 == false) = true then if (!b31) = true then k [.d false 0 (D.bool true)] [] else k [.d false 0 (D.bool b33)] []
                                      else k [.d false 0 (D.bool false)] []
                                    else k [.d false 0 (D.bool false)] []
                                 else k [.d false 0 (D.bool false)] []
                              | none => none
                             else none
                            else none
                           | none => none
                          else none
                         else none
                        | none => none
                       else none
                      else none
                     else none
                    | none => none
                   else none
                  else none
                 | none => none
                else none
               else none
              | none => none
             else none
            else none
           | none => none
          | none => none
         | x, x_1 => none
       | none => none
     | none => none
    | PA.no n44 => k [.d false 0 (D.bool true)] []
    | PA.er p48 n49 => k [.d false 0 (D.bool true)] []
    | PA.bad => none
   | PA.no n53 =>
    match parseP t (60 : Int) with
    | PA.ok op55 nm56 ks57 p58 => k [.d false 0 (D.bool true)] []
    | PA.no n62 => k [.d false 0 (D.bool true)] []
    | PA.er p66 n67 => k [.d false 0 (D.bool true)] []
    | PA.bad => none
   | PA.er p71 n72 =>
    match parseP t (60 : Int) with
    | PA.ok op74 nm75 ks76 p77 => k [.d false 0 (D.bool true)] []
    | PA.no n81 => k [.d false 0 (D.bool true)] []
    | PA.er p85 n86 => k [.d false 0 (D.bool true)] []
    | PA.bad => none
   | PA.bad => none := by kernel_rfl
end Q5S


end Go.Sd

set_option maxRecDepth 100000
namespace Go.Sd
open Go Go.Cm Go.Proofs Go.Sc
theorem parse_len {s : ByteArray} {d : Int} {op nm : ByteArray} {ks : List D} {p : Int} (h : parseP s d = .ok op nm ks p) : s.size ≤ 65536 := by
  unfold parseP at h
  split at h
  · cases h
  · split at h
    · cases h
    · rename_i hb
      rwa [Nat.ble_eq] at hb
theorem sum_len {s t : ByteArray} (h1 : s.size ≤ 65536) (h2 : t.size ≤ 65536) (h : ¬ decide (IntKind.wrap .i64 ((s.size : Int) + (t.size : Int)) > 200) = true) : s.size + t.size ≤ 200 := by
  rw [wrap_id (by omega) (by omega), decide_eq_true_eq] at h
  omega
theorem ev_steps (s t : ByteArray) (a b : List D) (ha : U8D a) (hb : U8D b) {γ : Type} (q : List TV → List TV → Option γ) :
    evalF Tryz.prog WZ Tryz.f5 [.d true 0 (.str s), .d true 0 (.str t), .d true 0 (.sl 0 a), .d true 0 (.sl 0 b)] q = q [.d false 0 (.bool true)] [] := by
  rw [Q5S.start]
  by_cases hlen : decide (IntKind.wrap .i64 ((s.size : Int) + (t.size : Int)) > 200) = true
  · rw [if_pos hlen]
  rw [if_neg hlen]
  cases h1 : parseP s 60 with
  | bad => exact (parse_bad s 60 h1).elim
  | no n =>
    cases h2 : parseP t 60 with
    | bad => exact (parse_bad t 60 h2).elim
    | _ => rfl
  | er p n =>
    cases h2 : parseP t 60 with
    | bad => exact (parse_bad t 60 h2).elim
    | _ => rfl
  | ok op nm ks p =>
    cases h2 : parseP t 60 with
    | bad => exact (parse_bad t 60 h2).elim
    | no n => rfl
    | er p n => rfl
    | ok op2 nm2 ks2 p2 =>
      have hle := sum_len (parse_len h1) (parse_len h2) hlen
      obtain ⟨f, u, hf, hu, zu⟩ := parse_fm h1 (by omega)
      obtain ⟨g, v, hg, hv, zv⟩ := parse_fm h2 (by omega)
      obtain ⟨o1, e1⟩ := otherX_of hf hu (by omega)
      obtain ⟨o2, e2⟩ := otherX_of hg hv (by omega)
      simp only [e1, e2]
      cases o1 with
      | true => rfl
      | false =>
        cases o2 with
        | true => rfl
        | false =>
          have F1 : Fa _ u := ⟨⟨f, hf, hu⟩, otherX_labs hf hu e1⟩
          have F2 : Fa _ v := ⟨⟨g, hg, hv⟩, otherX_labs hg hv e2⟩
          obtain ⟨x, y, ex, ey, hx, hy, hne, lx, ly⟩ := word_ok ha hb
          have W : Wo x (loopOf y) := ⟨hx, hy, hne, by omega⟩
          have FU := F1.two F2 (ob := ⟨#[85]⟩) (nm := ⟨#[]⟩) (p := 0) .U (B_lit [85])
          have FW := F1.two F2 (ob := ⟨#[87]⟩) (nm := ⟨#[]⟩) (p := 0) .W (B_lit [87])
          have FR := F1.two F2 (ob := ⟨#[82]⟩) (nm := ⟨#[]⟩) (p := 0) .R (B_lit [82])
          have i1 := F1.is
          have i2 := F2.is
          have z : ∀ o : B2, (Pr.bi o u v).sz ≤ 4096 := fun o => by simp only [Pr.sz]; omega
          have a1 := F1.hold W (by omega)
          have a2 := F2.hold W (by omega)
          have a3 := FU.hold W (z _)
          have a4 := FW.hold W (z _)
          have a5 := FR.hold W (z _)
          have a6 := FU.hold_shift W (z _)
          have a7 := FW.hold_shift W (z _)
          have a8 := FR.hold_shift W (z _)
          unfold namesD at a1 a2 a3 a4 a5 a6 a7 a8
          have hi : intsB x = true ∧ intsB (loopOf y) = true ∧ x.length + (loopOf y).length ≤ 34359738368 := ⟨hx.ints, hy.ints, by omega⟩
          simp only [ex, ey, a1, a2, i1, i2, a3, a4, a5, if_pos hi, a6, a7, a8, Bool.false_eq_true, if_false, if_true]
          have r1 := HB_U u v (strm x (loopOf y)) 0
          have r2 := HB_W u v (strm x (loopOf y)) 0
          have r3 := HB_R u v (strm x (loopOf y)) 0
          have r4 := HB_UW u v (strm x (loopOf y)) 0
          rw [Nat.zero_add] at r1 r2 r3
          rw [r1, r2] at r4
          rw [r1, r2, r3]
          revert r4
          clear r1 r2 r3 a1 a2 a3 a4 a5 a6 a7 a8
          generalize HB u (strm x (loopOf y)) 0 = A
          generalize HB v (strm x (loopOf y)) 0 = B
          generalize HB (.bi .U u v) (strm x (loopOf y)) 1 = U
          generalize HB (.bi .W u v) (strm x (loopOf y)) 1 = V
          generalize HB (.bi .R u v) (strm x (loopOf y)) 1 = R
          intro r4
          cases A <;> cases B <;> cases U <;> cases V <;> cases R <;> first | rfl | (simp at r4)
theorem valid_steps (s t : ByteArray) {a b : List D} (ha : U8D a) (hb : U8D b) : Valid glS Tryz.prog 5 [.d true 0 (.str s), .d true 0 (.str t), .d true 0 (.sl 0 a), .d true 0 (.sl 0 b)] [.d false 0 (.bool true)] [] :=
  valid_of envwz mixed Tryz.func5 (by kernel_rfl) (ev_steps s t a b ha hb _)
end Go.Sd

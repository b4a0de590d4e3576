/- The scan laws' seat: plain lemmas on the places and the texts of tokens. -/
import Derived.Test.YteogbcggkogjaaaDoorSh
import Derived.Test.YteogbcggkogjaaaDoorSj
set_option linter.unusedVariables false
set_option linter.unusedSimpArgs false
namespace Go.Sd
open Go Go.Cm Go.Proofs Go.Sc
set_option maxRecDepth 100000

/-- A token's bytes in the text. -/
def rawT (x : Tok) : T8 := if x.1 = 3 then 34 :: (x.2.1 ++ [34]) else x.2.1
/-- Tokens lie one behind the other, are what stands there, and would be the same with a blank behind each. -/
def Good (L : T8) : Nat → List Tok → Prop
  | _, [] => False
  | p, x :: r => match r with
    | [] => x = (0, [], L.length) ∧ p ≤ L.length
    | y :: r => p ≤ x.2.2 ∧ x.1 ≠ 0 ∧ 1 ≤ (rawT x).length ∧ x.2.2 + (rawT x).length ≤ L.length ∧ (L.drop x.2.2).take (rawT x).length = rawT x ∧
      (∀ rest, oneL (rawT x ++ 32 :: rest) = .inr (x.1, x.2.1, (rawT x).length)) ∧ Good L (x.2.2 + (rawT x).length) (y :: r)
theorem takeWhile_stop {p : UInt8 → Bool} {l : T8} {c : UInt8} (hc : p c = false) (rest : T8) : ((l.takeWhile p) ++ c :: rest).takeWhile p = l.takeWhile p := by
  induction l with
  | nil => simp [hc]
  | cons b l ih =>
    rw [List.takeWhile_cons]
    split
    · rename_i h
      rw [List.cons_append, List.takeWhile_cons, if_pos h, ih]
    · simp [hc]
theorem runL_take (p : Int → Bool) (l : T8) : l.take (runL p l) = l.takeWhile fun c => p (kindI c.toNat) := by
  unfold runL
  exact (List.prefix_iff_eq_take.1 (List.takeWhile_prefix _)).symm
theorem runL_again (p : Int → Bool) (l : T8) (hp : p (-1) = false) (rest : T8) : runL p (l.take (runL p l) ++ 32 :: rest) = runL p l := by
  rw [runL_take]
  show ((l.takeWhile (fun c => p (kindI c.toNat)) ++ 32 :: rest).takeWhile (fun c => p (kindI c.toNat))).length = runL p l
  rw [takeWhile_stop (p := fun c => p (kindI c.toNat)) (c := 32) (by
    have : kindI ((32 : UInt8).toNat : Int) = -1 := by decide
    simp only [this]; exact hp)]
  rfl
theorem byte34 {c : UInt8} (h : kindI c.toNat = 3) : c = 34 := by
  have := (quo_kind c).2 h
  have k : ((c.toNat : Int) == 34) = (c == 34) := byte_eq c 34 (by omega)
  rw [k] at this
  exact eq_of_beq this
theorem takeWhile_len_lt {p : UInt8 → Bool} : ∀ {l : T8}, (l.takeWhile p).length < l.length → ∃ c, l[(l.takeWhile p).length]? = some c ∧ p c = false
  | [], h => by simp at h
  | b :: l, h => by
    rw [List.takeWhile_cons] at h ⊢
    split
    · rename_i hb
      rw [if_pos hb] at h
      obtain ⟨c, h1, h2⟩ := takeWhile_len_lt (p := p) (l := l) (by simpa using h)
      exact ⟨c, by simpa using h1, h2⟩
    · rename_i hb
      exact ⟨b, by simp, by simpa using hb⟩
theorem take_takeWhile {p : UInt8 → Bool} (l : T8) : l.take (l.takeWhile p).length = l.takeWhile p := (List.prefix_iff_eq_take.1 (List.takeWhile_prefix _)).symm
/-- What a label is made of. -/
theorem quoted_raw {l r : T8} (h : l = 34 :: r) (hq : 0 < quotedL l) : l.take (quotedL l) = 34 :: ((l.drop 1).take (quotedL l - 2) ++ [34]) ∧
    ∀ rest, quotedL ((34 :: ((l.drop 1).take (quotedL l - 2) ++ [34])) ++ rest) = quotedL l := by
  subst h
  have hz : ∀ r : T8, quotedL (34 :: r) = if r.length ≤ (r.takeWhile fun c => c != 34).length then 0 else
    if (r.takeWhile fun c => c != 34).length < 1 ∨ 32 < (r.takeWhile fun c => c != 34).length then 0 else
    if (r.take (r.takeWhile fun c => c != 34).length).all okQ = true then (r.takeWhile fun c => c != 34).length + 2 else 0 := fun _ => rfl
  have hv : quotedL (34 :: r) = (r.takeWhile fun c => c != 34).length + 2 ∧ (r.takeWhile fun c => c != 34).length < r.length ∧ 1 ≤ (r.takeWhile fun c => c != 34).length ∧ (r.takeWhile fun c => c != 34).length ≤ 32 ∧
      (r.take (r.takeWhile fun c => c != 34).length).all okQ = true := by
    rw [hz] at hq ⊢
    split
    · rename_i h1; rw [if_pos h1] at hq; omega
    · rename_i h1
      rw [if_neg h1] at hq
      split
      · rename_i h2; rw [if_pos h2] at hq; omega
      · rename_i h2
        rw [if_neg h2] at hq
        split
        · rename_i h3; exact ⟨rfl, by omega, by omega, by omega, h3⟩
        · rename_i h3; rw [if_neg h3] at hq; omega
  obtain ⟨e, h1, h2, h3, h4⟩ := hv
  obtain ⟨c, hc, hcn⟩ := takeWhile_len_lt h1
  have hc34 : c = 34 := by simpa using hcn
  subst hc34
  rw [e]
  simp only [List.drop_succ_cons, List.drop_zero, Nat.add_sub_cancel]
  have ht := take_takeWhile (p := fun c => c != 34) r
  constructor
  · rw [List.take_succ_cons, List.take_add_one, hc]
    rfl
  · intro rest
    have hw : ((r.take (r.takeWhile fun c => c != 34).length ++ [34]) ++ rest).takeWhile (fun c => c != 34) = r.takeWhile fun c => c != 34 := by
      rw [ht, List.append_assoc]
      exact takeWhile_stop (by decide) rest
    rw [List.cons_append, hz, hw]
    have hl : (r.take (r.takeWhile fun c => c != 34).length ++ [34] ++ rest).length = (r.takeWhile fun c => c != 34).length + 1 + rest.length := by
      simp [ht]; omega
    have htk : (r.take (r.takeWhile fun c => c != 34).length ++ [34] ++ rest).take (r.takeWhile fun c => c != 34).length = r.take (r.takeWhile fun c => c != 34).length := by
      rw [List.append_assoc]
      have : (r.take (r.takeWhile fun c => c != 34).length).length = (r.takeWhile fun c => c != 34).length := by rw [ht]
      exact List.take_left' this
    rw [hl, htk, if_neg (by omega), if_neg (by omega), if_pos h4]
theorem mark_again {l r : T8} {c : UInt8} (h : l = c :: r) (hm : markL l ≠ 0) (rest : T8) : markL (l.take (markL l) ++ 32 :: rest) = markL l := by
  unfold markL at hm ⊢
  by_cases h1 : marks.any (·.isPrefixOf l) = true
  · simp only [if_pos h1]
    have h2 := h1
    rw [List.any_eq_true] at h2
    obtain ⟨m, hm1, hp⟩ := h2
    rw [List.isPrefixOf_iff_prefix] at hp
    have hml : m.length = 2 := by
      simp only [marks, List.mem_cons, List.not_mem_nil, or_false] at hm1
      rcases hm1 with rfl | rfl | rfl | rfl | rfl | rfl <;> rfl
    have ht : l.take 2 = m := by
      have := List.prefix_iff_eq_take.1 hp
      rw [hml] at this
      exact this.symm
    rw [if_pos (List.any_eq_true.2 ⟨m, hm1, by rw [ht, List.isPrefixOf_iff_prefix]; exact List.prefix_append _ _⟩)]
  · simp only [if_neg h1] at hm ⊢
    by_cases h46 : l.head? = some 46
    · rw [if_pos h46] at hm; exact (hm rfl).elim
    · simp only [if_neg h46]
      rw [h, List.head?_cons] at h46
      have e : (c :: r).take 1 ++ 32 :: rest = c :: 32 :: rest := rfl
      rw [h, e]
      have hno : ¬ marks.any (·.isPrefixOf (c :: 32 :: rest)) = true := by
        rw [List.any_eq_true]
        rintro ⟨m, hm1, hp⟩
        simp only [marks, List.mem_cons, List.not_mem_nil, or_false] at hm1
        rcases hm1 with rfl | rfl | rfl | rfl | rfl | rfl <;> simp [List.isPrefixOf] at hp
      rw [if_neg hno, if_neg (by simpa using h46)]
theorem oneL_again {l : T8} {k : Int} {t : T8} {m : Nat} (p : Nat) (h : oneL l = .inr (k, t, m)) : k ≠ 0 ∧ l.take m = rawT (k, t, p) ∧ (rawT (k, t, p)).length = m ∧
    ∀ rest, oneL (rawT (k, t, p) ++ 32 :: rest) = .inr (k, t, m) := by
  have hlen := oneL_len h
  cases l with
  | nil => simp [oneL] at h
  | cons c r =>
    have fin : ∀ {k : Int} {t : T8} {m : Nat}, m ≤ (c :: r).length → (c :: r).take m = rawT (k, t, p) → (rawT (k, t, p)).length = m := fun hm e => by rw [← e, List.length_take]; omega
    rw [oneL_eq rfl] at h
    by_cases k1 : kindI c.toNat = 1
    · rw [if_pos k1] at h
      simp only [Sum.inr.injEq, Prod.mk.injEq] at h
      obtain ⟨rfl, rfl, rfl⟩ := h
      have hr : (c :: r).take (runL may1 (c :: r)) = rawT (1, (c :: r).take (runL may1 (c :: r)), p) := rfl
      refine ⟨by decide, hr, fin hlen.2 hr, fun rest => ?_⟩
      have ha := runL_again may1 (c :: r) rfl rest
      show oneL ((c :: r).take (runL may1 (c :: r)) ++ 32 :: rest) = _
      obtain ⟨n, hn⟩ : ∃ n, runL may1 (c :: r) = n + 1 := ⟨runL may1 (c :: r) - 1, by omega⟩
      have e : (c :: r).take (runL may1 (c :: r)) ++ 32 :: rest = c :: (r.take n ++ 32 :: rest) := by rw [hn]; rfl
      rw [oneL_eq e, if_pos k1, ha, List.take_left' (by rw [List.length_take]; omega)]
    rw [if_neg k1] at h
    by_cases k2 : kindI c.toNat = 2
    · rw [if_pos k2] at h
      split at h
      · rename_i hv
        simp only [Sum.inr.injEq, Prod.mk.injEq] at h
        obtain ⟨rfl, rfl, rfl⟩ := h
        have hr : (c :: r).take (runL may2 (c :: r)) = rawT (2, (c :: r).take (runL may2 (c :: r)), p) := rfl
        refine ⟨by decide, hr, fin hlen.2 hr, fun rest => ?_⟩
        have ha := runL_again may2 (c :: r) rfl rest
        show oneL ((c :: r).take (runL may2 (c :: r)) ++ 32 :: rest) = _
        obtain ⟨n, hn⟩ : ∃ n, runL may2 (c :: r) = n + 1 := ⟨runL may2 (c :: r) - 1, by omega⟩
        have e : (c :: r).take (runL may2 (c :: r)) ++ 32 :: rest = c :: (r.take n ++ 32 :: rest) := by rw [hn]; rfl
        rw [oneL_eq e, if_neg k1, if_pos k2, ha, List.take_left' (by rw [List.length_take]; omega), if_pos hv]
      · cases h
    rw [if_neg k2] at h
    by_cases k3 : kindI c.toNat = 3
    · have h34 := byte34 k3
      subst h34
      rw [if_pos k3] at h
      split at h
      · rename_i hq
        simp only [Sum.inr.injEq, Prod.mk.injEq] at h
        obtain ⟨rfl, rfl, rfl⟩ := h
        obtain ⟨q1, q2⟩ := quoted_raw rfl hq
        have hr : (34 :: r).take (quotedL (34 :: r)) = rawT (3, ((34 :: r).drop 1).take (quotedL (34 :: r) - 2), p) := by rw [q1]; rfl
        have hl := fin hlen.2 hr
        refine ⟨by decide, hr, hl, fun rest => ?_⟩
        have q3 := q2 (32 :: rest)
        have e : rawT (3, ((34 :: r).drop 1).take (quotedL (34 :: r) - 2), p) ++ 32 :: rest = 34 :: ((((34 :: r).drop 1).take (quotedL (34 :: r) - 2) ++ [34]) ++ 32 :: rest) := rfl
        rw [oneL_eq e, if_neg k1, if_neg k2, if_pos k3]
        have e2 : rawT (3, ((34 :: r).drop 1).take (quotedL (34 :: r) - 2), p) ++ 32 :: rest = (34 :: (((34 :: r).drop 1).take (quotedL (34 :: r) - 2) ++ [34])) ++ 32 :: rest := rfl
        rw [e2, q3, if_pos hq]
        have hlen2 : (((34 :: r).drop 1).take (quotedL (34 :: r) - 2)).length = quotedL (34 :: r) - 2 := by
          have := hl
          simp only [rawT, if_true, List.length_cons, List.length_append, List.length_nil] at this
          omega
        congr 3
        rw [List.cons_append, List.drop_succ_cons, List.drop_zero, List.append_assoc, List.take_left' hlen2]
      · cases h
    rw [if_neg k3] at h
    by_cases k4 : kindI c.toNat = 4
    · rw [if_pos k4] at h
      split at h
      · cases h
      · rename_i hm
        simp only [Sum.inr.injEq, Prod.mk.injEq] at h
        obtain ⟨rfl, rfl, rfl⟩ := h
        have hr : (c :: r).take (markL (c :: r)) = rawT (4, (c :: r).take (markL (c :: r)), p) := rfl
        refine ⟨by decide, hr, fin hlen.2 hr, fun rest => ?_⟩
        have ha := mark_again rfl hm rest
        show oneL ((c :: r).take (markL (c :: r)) ++ 32 :: rest) = _
        obtain ⟨n, hn⟩ : ∃ n, markL (c :: r) = n + 1 := ⟨markL (c :: r) - 1, by omega⟩
        have e : (c :: r).take (markL (c :: r)) ++ 32 :: rest = c :: (r.take n ++ 32 :: rest) := by rw [hn]; rfl
        rw [oneL_eq e, if_neg k1, if_neg k2, if_neg k3, if_pos k4, ha, if_neg hm, List.take_left' (by rw [List.length_take]; omega)]
    · rw [if_neg k4] at h; cases h
end Go.Sd

namespace Go.Sd
open Go Go.Cm Go.Proofs Go.Sc
set_option maxRecDepth 100000

theorem blankL_one {l : T8} {x : Int × T8 × Nat} (h : oneL l = .inr x) : blankL l = 0 := by
  cases l with
  | nil => simp [oneL] at h
  | cons c r =>
    have hk : kindI c.toNat ≠ -1 := by
      intro hk
      rw [oneL_eq rfl, hk] at h
      simp at h
    refine blankL_no c r ?_ ?_
    · cases hw : isWs c with
      | false => rfl
      | true =>
        simp only [isWs, Bool.or_eq_true, beq_iff_eq] at hw
        rcases hw with ((rfl | rfl) | rfl) | rfl <;> exact (hk (by decide)).elim
    · cases hp : List.isPrefixOf [47, 47] (c :: r) with
      | false => rfl
      | true =>
        have : c = 47 := by
          rw [List.isPrefixOf_iff_prefix] at hp
          obtain ⟨t, ht⟩ := hp
          simp at ht
          exact ht.1.symm
        subst this
        exact (hk (by decide)).elim
theorem toksL_good (L : T8) : ∀ (n : Nat) (p q : Nat) (ts : List Tok), q ≤ p → p ≤ L.length → toksL n (L.drop p) p = .inr ts → Good L q ts
  | 0, p, q, ts, _, _, h => by simp [toksL] at h
  | n + 1, p, q, ts, hq, hp, h => by
    rcases Nat.lt_or_ge p L.length with hlt | hge
    · obtain ⟨c, hc, hd⟩ := drop_at hlt
      have ht : toksL (n + 1) (L.drop p) p = (match oneL (L.drop p) with
            | .inl e => .inl (e, p)
            | .inr (k, t, m) => match toksL n (((L.drop p).drop m).drop (blankL ((L.drop p).drop m))) (p + m + blankL ((L.drop p).drop m)) with
              | .inl e => .inl e
              | .inr r => .inr ((k, t, p) :: r)) := by
            rw [hd]; rfl
      rw [ht] at h
      cases ho : oneL (L.drop p) with
      | inl e => rw [ho] at h; cases h
      | inr x =>
        obtain ⟨k, t, m⟩ := x
        rw [ho] at h
        simp only at h
        obtain ⟨m1, m2⟩ := oneL_len ho
        rw [List.length_drop] at m2
        have hb := blankL_le _ ((L.drop p).drop m) (Nat.le_refl _)
        have e0 : (L.drop p).drop m = L.drop (p + m) := List.drop_drop
        rw [e0, List.length_drop] at hb
        rw [e0, List.drop_drop] at h
        cases hk : toksL n (L.drop (p + m + blankL (L.drop (p + m)))) (p + m + blankL (L.drop (p + m))) with
        | inl e => rw [hk] at h; cases h
        | inr us =>
          rw [hk] at h
          simp only [Sum.inr.injEq] at h
          subst h
          obtain ⟨o1, o2, o3, o4⟩ := oneL_again p ho
          have hg := toksL_good L n (p + m + blankL (L.drop (p + m))) (p + m) us (by omega) (by omega) hk
          cases us with
          | nil => exact hg.elim
          | cons y us =>
            refine ⟨hq, o1, by rw [o3]; omega, by rw [o3]; simp only; omega, by rw [o3]; exact o2, fun rest => by rw [o3]; exact o4 rest, ?_⟩
            rw [o3]; exact hg
    · have : p = L.length := by omega
      subst this
      rw [List.drop_length] at h
      simp only [toksL, Sum.inr.injEq] at h
      subst h
      exact ⟨rfl, hq⟩

/-- The wide text. -/
def wideL (ts : List Tok) : T8 := ts.flatMap fun x => 32 :: (rawT x ++ [32, 47, 47, 32, 120, 10])
theorem wideL_cons (x : Tok) (r : List Tok) : wideL (x :: r) = 32 :: (rawT x ++ 32 :: ([47, 47, 32, 120, 10] ++ wideL r)) := by
  simp [wideL]
theorem blankL_gap (l : T8) : blankL (32 :: ([47, 47, 32, 120, 10] ++ l)) = 6 + blankL l := by
  have e : (32 :: ([47, 47, 32, 120, 10] ++ l) : T8) = 32 :: 47 :: 47 :: 32 :: 120 :: 10 :: l := rfl
  have h := blankL_line (32 :: 120 :: 10 :: l)
  have hl : lineL (47 :: 47 :: 32 :: 120 :: 10 :: l) = 4 := by
    rw [lineL_cons, if_neg (by decide), lineL_cons, if_neg (by decide), lineL_cons, if_neg (by decide), lineL_cons, if_neg (by decide), lineL_cons, if_pos rfl]
  rw [hl] at h
  rw [e, blankL_ws _ _ rfl, h, List.drop_succ_cons, List.drop_succ_cons, List.drop_succ_cons, List.drop_succ_cons, List.drop_zero]
  have h10 : blankL (10 :: l) = 1 + blankL l := blankL_ws _ _ rfl
  omega
theorem wide_toks (L : T8) : ∀ (r : List Tok) (x : Tok) (p : Nat), Good L p (x :: r) → ∀ (n q : Nat), (wideL (x :: r)).length < n →
    ∃ us, toksL n ((wideL (x :: r)).drop (blankL (wideL (x :: r)))) q = .inr us ∧ us.map (fun x => (x.1, x.2.1)) = (x :: r).map fun x => (x.1, x.2.1)
  | [], x, p, hg, n, q, hn => by
    obtain ⟨rfl, _⟩ := hg
    obtain ⟨m, rfl⟩ : ∃ m, n = m + 1 := ⟨n - 1, by omega⟩
    have e : wideL [(0, [], L.length)] = 32 :: (32 :: ([47, 47, 32, 120, 10] ++ [])) := rfl
    rw [e, blankL_ws _ _ rfl, blankL_gap, blankL_nil]
    exact ⟨[(0, [], q)], rfl, rfl⟩
  | y :: r, x, p, hg, n, q, hn => by
    obtain ⟨g1, g2, g3, g4, g5, g6, g7⟩ := hg
    rw [wideL_cons] at hn ⊢
    have ho := g6 ([47, 47, 32, 120, 10] ++ wideL (y :: r))
    obtain ⟨m, rfl⟩ : ∃ m, n = m + 1 := ⟨n - 1, by omega⟩
    rw [blankL_ws _ _ rfl, blankL_one ho, List.drop_succ_cons, List.drop_zero]
    have hne : ∃ c t, rawT x ++ 32 :: ([47, 47, 32, 120, 10] ++ wideL (y :: r)) = c :: t := by
      cases hx : rawT x with
      | nil => rw [hx] at g3; simp at g3
      | cons c t => exact ⟨c, _, rfl⟩
    obtain ⟨c, t, hct⟩ := hne
    have ht : ∀ (q : Nat) (l : T8), l = c :: t → toksL (m + 1) l q = (match oneL l with
            | .inl e => .inl (e, q)
            | .inr (k, t, i) => match toksL m ((l.drop i).drop (blankL (l.drop i))) (q + i + blankL (l.drop i)) with
              | .inl e => .inl e
              | .inr r => .inr ((k, t, q) :: r)) := fun q l hl => by rw [hl]; rfl
    rw [ht q _ hct, ho]
    simp only [List.drop_left, blankL_gap]
    have hdr : ∀ b, (32 :: ([47, 47, 32, 120, 10] ++ wideL (y :: r))).drop (6 + b) = (wideL (y :: r)).drop b := fun b => by
      rw [← List.drop_drop]; rfl
    rw [hdr]
    obtain ⟨us, h1, h2⟩ := wide_toks L r y _ g7 m (q + (rawT x).length + (6 + blankL (wideL (y :: r)))) (by simp at hn; omega)
    rw [h1]
    exact ⟨_, rfl, by rw [List.map_cons, h2]; rfl⟩

theorem B_app (a b : T8) : B a ++ B b = B (a ++ b) := by
  apply ByteArray.ext
  simp [B, ByteArray.data_append]
theorem places_round (L : T8) (hL : L.length ≤ 3000) (x : Tok) (p : Nat) (w : T8) (pre r : List Tok) (hp : p ≤ x.2.2) (hle : x.2.2 + (rawT x).length ≤ L.length)
    (hcut : (L.drop x.2.2).take (rawT x).length = rawT x) (hw : w.length ≤ 20000000) (hpre : pre.length ≤ 4000) (hr : r.length ≤ 4000) (hend : x.1 = 0 ↔ r = []) :
    F4.L0 (F4.s0 (B L) p (B w) pre.length ((pre ++ x :: r).map tokT)) =
    some (.inl (F4.s0 (B L) ((x.2.2 + (rawT x).length : Nat)) (B (w ++ (32 :: (rawT x ++ [32, 47, 47, 32, 120, 10])))) ((pre.length + 1 : Nat)) ((pre ++ x :: r).map tokT))) := by
  refine (F4.round0 _ _ _ _ _).trans ?_
  obtain ⟨k, t, pos⟩ := x
  have hg : ((pre ++ (k, t, pos) :: r).map tokT)[pre.length]? = some (tokT (k, t, pos)) := by simp
  rw [List.length_map, if_pos (by simp; omega), if_pos (by simp; omega), Int.toNat_natCast, hg]
  simp only [tokT, if_true]
  simp only at hp hle hcut hend
  have fin : applyK F4.X (finR F4.X [(0, 72)] (sub [1, 1, 1, 1, 1, 1, 1, 0, 1, 0, 0] (body Tryd.f4)))
      [Kf.seq [(1, 233), (0, 72)] (sub [1, 1, 1, 1, 1, 1, 1, 0, 1, 0, 0, 1, 0, 0, 1, 1, 1] (body Tryd.f4)) 233, Kf.block 1 233,
        Kf.seq [(0, 72)] (sub [1, 1, 1, 1, 1, 1, 1, 0, 1, 0, 0, 1, 1] (body Tryd.f4)) 233]
      Ex.norm (F4.j0 (B L) ((pre ++ (k, t, pos) :: r).map tokT) p (B w) pre.length (B (rawT (k, t, pos))) k (B t) pos) =
      some (.inl (F4.s0 (B L) ((pos + (rawT (k, t, pos)).length : Nat)) (B (w ++ (32 :: (rawT (k, t, pos) ++ [32, 47, 47, 32, 120, 10])))) ((pre.length + 1 : Nat)) ((pre ++ (k, t, pos) :: r).map tokT))) := by
    rw [F4.j0_eq]
    generalize rawT (k, t, pos) = z at *
    have w0 : IntKind.wrap .i64 ((pos : Int) + (z.length : Int)) = ((pos + z.length : Nat) : Int) := by rw [wrap_id (by omega) (by omega)]; omega
    have e32 : (⟨#[32]⟩ : ByteArray) = B [32] := rfl
    have e6 : (⟨#[32, 47, 47, 32, 120, 10]⟩ : ByteArray) = B [32, 47, 47, 32, 120, 10] := rfl
    rw [e32, e6]
    simp only [B_app, B_size, w0, Int.toNat_natCast, B_cut, B_list, show pos + z.length - pos = z.length by omega, hcut]
    rw [if_neg (by simp; omega), if_neg (by simp; omega), if_pos (by omega), if_neg (by simp)]
    have w1' : IntKind.wrap .i64 (((((pre ++ (k, t, pos) :: r).map tokT).length : Nat) : Int) - 1) = ((pre.length + r.length : Nat) : Int) := by
      rw [wrap_id (by simp; omega) (by simp; omega)]; simp; omega
    rw [w1', w1 (n := 0) (by omega)]
    have hz : ((k == 0) == ((pre.length : Int) == ((pre.length + r.length : Nat) : Int))) = true := by
      rw [beq_iff_eq, Bool.eq_iff_iff]
      simp only [beq_iff_eq]
      rw [hend]
      constructor
      · intro h; subst h; simp
      · intro h; exact List.eq_nil_of_length_eq_zero (by omega)
    rw [hz, if_neg (by simp), if_pos (by simp; omega), if_pos (by simp; omega), if_pos (by simp; omega)]
    try simp
  by_cases h3 : k = 3
  · have hz : rawT (k, t, pos) = 34 :: (t ++ [34]) := by simp [rawT, h3]
    have e34 : (⟨#[34]⟩ : ByteArray) = B [34] := rfl
    have hle2 := hle
    rw [hz] at hle2
    simp at hle2
    rw [if_pos (by simp [h3]), e34]
    simp only [B_app, B_size]
    rw [if_pos (by omega), if_pos (by simp; omega)]
    rw [hz] at fin ⊢
    rw [← fin]; rfl
  · have hz : rawT (k, t, pos) = t := by simp [rawT, h3]
    rw [if_neg (by simp [h3])]
    rw [hz] at fin ⊢
    exact fin
theorem places_loop (L : T8) (hL : L.length ≤ 3000) : ∀ (r : List Tok) (x : Tok) (p : Nat) (w : T8) (pre : List Tok), Good L p (x :: r) → pre.length + r.length ≤ 3500 → w.length ≤ pre.length * 4000 →
    Lp F4.L0 (F4.s0 (B L) p (B w) pre.length ((pre ++ x :: r).map tokT)) = some (.exit 0, F4.e0x0 ((pre ++ x :: r).map tokT) (B (w ++ wideL (x :: r))))
  | [], x, p, w, pre, hg, hn, hw => by
    obtain ⟨rfl, g2⟩ := hg
    have h1 := places_round L hL (0, [], L.length) p w pre [] g2 (by simp [rawT]) (by simp [rawT]) (by omega) (by omega) (by simp) (by simp)
    refine Lp_step h1 ?_
    have hr := F4.round0 (B L) ((L.length + (rawT (0, [], L.length)).length : Nat)) (B (w ++ (32 :: (rawT (0, [], L.length) ++ [32, 47, 47, 32, 120, 10])))) ((pre.length + 1 : Nat)) ((pre ++ [(0, [], L.length)]).map tokT)
    rw [List.length_map, if_neg (by simp)] at hr
    rw [Lp_exit hr]
    simp [wideL]
  | y :: r, x, p, w, pre, hg, hn, hw => by
    obtain ⟨g1, g2, g3, g4, g5, g6, g7⟩ := hg
    have h1 := places_round L hL x p w pre (y :: r) g1 g4 g5 (by omega) (by omega) (by simp at hn ⊢; omega) (by simp [g2])
    have ih := places_loop L hL r y _ (w ++ (32 :: (rawT x ++ [32, 47, 47, 32, 120, 10]))) (pre ++ [x]) g7 (by simp at hn ⊢; omega) (by simp; omega)
    refine Lp_step h1 ?_
    rw [List.append_assoc, List.singleton_append, List.length_append, List.length_singleton] at ih
    rw [ih, List.append_assoc]
    simp [wideL]
theorem same_loop (ts us : List Tok) (hs : us.map (fun x => (x.1, x.2.1)) = ts.map fun x => (x.1, x.2.1)) : ∀ (n i : Nat), i + n = ts.length → ts.length ≤ 70000 →
    Lp F4.L1 (F4.s1 i (ts.map tokT) (us.map tokT)) = some (.exit 2, F4.e1x2)
  | 0, i, h, hl => by
    have hr := F4.round1 i (ts.map tokT) (us.map tokT)
    rw [List.length_map, if_neg (by simp; omega)] at hr
    exact Lp_exit hr
  | n + 1, i, h, hl => by
    have hr := F4.round1 i (ts.map tokT) (us.map tokT)
    have hlen : us.length = ts.length := by have := congrArg List.length hs; simpa using this
    have hi : i < ts.length := by omega
    have hi2 : i < us.length := by omega
    have hg : (ts.map tokT)[i]? = some (tokT ts[i]) := by rw [List.getElem?_map, List.getElem?_eq_getElem hi]; rfl
    have hg2 : (us.map tokT)[i]? = some (tokT us[i]) := by rw [List.getElem?_map, List.getElem?_eq_getElem hi2]; rfl
    have he : (us[i].1, us[i].2.1) = (ts[i].1, ts[i].2.1) := by
      have := congrArg (fun l => l[i]?) hs
      simp only [List.getElem?_map, List.getElem?_eq_getElem hi, List.getElem?_eq_getElem hi2, Option.map_some, Option.some.injEq] at this
      exact this
    simp only [Prod.mk.injEq] at he
    have hb : (0 : Int) ≤ (i : Int) ∧ (i : Int) < (ts.length : Int) := by omega
    have hb2 : (0 : Int) ≤ (i : Int) ∧ (i : Int) < (us.length : Int) := by omega
    rw [List.length_map, List.length_map, if_pos (by simp; omega), if_pos hb2, Int.toNat_natCast, hg, hg2, w1 (n := 0) (by omega)] at hr
    simp only [tokT, if_pos hb, if_pos hb2] at hr
    simp [he.1, he.2] at hr
    exact Lp_step hr (same_loop ts us hs n (i + 1) (by omega) hl)
theorem places (s : ByteArray) {γ : Type} (q : List TV → List TV → Option γ) : evalF Tryd.prog E30 Tryd.f4 [.d true 0 (.str s)] q = q [.d false 0 (.bool true)] [] := by
  rw [F4.start]
  rw [B_of s]
  generalize s.data.toList = L
  rw [B_size, B_list]
  by_cases hL : L.length ≤ 3000
  · rw [if_neg (by simp; omega)]
    have hble : Nat.ble L.length 65536 = true := Nat.ble_eq_true_of_le (by omega)
    rw [hble]
    simp only
    cases ht : tokS L with
    | inl e => rfl
    | inr ts =>
      simp only
      have hgood : Good L 0 ts := toksL_good L (L.length + 1) (blankL L) 0 ts (by omega) (blankL_le _ L (Nat.le_refl _)) ht
      obtain ⟨us, e1, e2, _⟩ := tokS_last (by omega) ht
      have hlen : ts.length ≤ L.length + 1 := by rw [e1]; simp; omega
      cases ts with
      | nil => exact hgood.elim
      | cons x r =>
        have hl := places_loop L hL r x 0 [] [] hgood (by simp at hlen ⊢; omega) (by simp)
        rw [List.nil_append, List.nil_append, List.length_nil, show ((0 : Nat) : Int) = 0 from rfl] at hl
        have hB : (B [] : ByteArray) = ⟨#[]⟩ := rfl
        rw [hB] at hl
        rw [goLp_of hl, F4.behind0x0, B_size, B_list]
        by_cases hw : (wideL (x :: r)).length ≤ 65536
        · rw [if_neg (by simp; omega), Nat.ble_eq_true_of_le hw]
          obtain ⟨vs, h1, h2⟩ := wide_toks L r x 0 hgood ((wideL (x :: r)).length + 1) (blankL (wideL (x :: r))) (by omega)
          have ht2 : tokS (wideL (x :: r)) = .inr vs := h1
          rw [ht2]
          simp only [List.length_map]
          have hlv : vs.length = (x :: r).length := by have := congrArg List.length h2; simpa using this
          rw [hlv, if_neg (by simp)]
          have := same_loop (x :: r) vs h2 (x :: r).length 0 (by omega) (by omega)
          rw [show ((0 : Nat) : Int) = 0 from rfl] at this
          rw [goLp_of this, F4.behind1x2]
        · rw [if_pos (by simp; omega)]
  · rw [if_pos (by simp; omega)]
theorem valid_places (s : ByteArray) : Valid glS Tryd.prog 4 [.d true 0 (.str s)] [.d false 0 (.bool true)] [] := valid_of env30 mixed Tryd.func4 (by kernel_rfl) (places s _)
end Go.Sd

namespace Go.Sd
open Go Go.Cm Go.Proofs Go.Sc
set_option maxRecDepth 100000

theorem runL_join (p : Int → Bool) (hp : p (-1) = false) (l rest : T8) : runL p (l ++ 10 :: rest) = runL p l := by
  induction l with
  | nil =>
    show runL p (10 :: rest) = _
    have : kindI ((10 : UInt8).toNat : Int) = -1 := by decide
    rw [runL_cons, this, hp]; rfl
  | cons c r ih => rw [List.cons_append, runL_cons, runL_cons, ih]
theorem takeQ_join : ∀ (l rest : T8), (l.takeWhile (fun c => c != 34)).length < l.length → (l ++ 10 :: rest).takeWhile (fun c => c != 34) = l.takeWhile fun c => c != 34
  | [], rest, h => by simp at h
  | c :: r, rest, h => by
    rw [List.cons_append, List.takeWhile_cons, List.takeWhile_cons]
    by_cases hc : (c != 34) = true
    · rw [if_pos hc, if_pos hc, takeQ_join r rest (by rw [List.takeWhile_cons, if_pos hc] at h; simpa using h)]
    · rw [if_neg hc, if_neg hc]
theorem takeQ_all : ∀ (l rest : T8), l.length ≤ (l.takeWhile (fun c => c != 34)).length → ∃ m, ((l ++ 10 :: rest).takeWhile (fun c => c != 34)) = l ++ 10 :: m
  | [], rest, h => ⟨rest.takeWhile (fun c => c != 34), by rw [List.nil_append, List.takeWhile_cons, if_pos (by decide)]; rfl⟩
  | c :: r, rest, h => by
    rw [List.takeWhile_cons] at h
    by_cases hc : (c != 34) = true
    · rw [if_pos hc] at h
      obtain ⟨m, hm⟩ := takeQ_all r rest (by simpa using h)
      exact ⟨m, by rw [List.cons_append, List.takeWhile_cons, if_pos hc, hm]; rfl⟩
    · rw [if_neg hc] at h; simp at h
theorem quotedL_cons (c : UInt8) (r : T8) : quotedL (c :: r) = if r.length ≤ (r.takeWhile fun c => c != 34).length then 0 else
    if (r.takeWhile fun c => c != 34).length < 1 ∨ 32 < (r.takeWhile fun c => c != 34).length then 0 else
    if (r.take (r.takeWhile fun c => c != 34).length).all okQ = true then (r.takeWhile fun c => c != 34).length + 2 else 0 := rfl
theorem quotedL_join (c : UInt8) (r rest : T8) : quotedL ((c :: r) ++ 10 :: rest) = quotedL (c :: r) := by
  rw [List.cons_append, quotedL_cons, quotedL_cons]
  by_cases h : r.length ≤ (r.takeWhile fun c => c != 34).length
  · rw [if_pos h]
    obtain ⟨m, hm⟩ := takeQ_all r rest h
    have ht := take_takeWhile (p := fun c => c != 34) (r ++ 10 :: rest)
    rw [ht, hm]
    split
    · rfl
    · split
      · rfl
      · rw [if_neg]
        rw [List.all_append, List.all_cons, show okQ 10 = false by decide]
        simp
  · rw [if_neg h]
    have h' : (r.takeWhile fun c => c != 34).length < r.length := by omega
    rw [takeQ_join r rest h', if_neg (by simp; omega), List.take_append_of_le_length (by omega)]
theorem marks_join (c : UInt8) (r rest : T8) : marks.any (·.isPrefixOf ((c :: r) ++ 10 :: rest)) = marks.any (·.isPrefixOf (c :: r)) := by
  cases r with
  | nil => simp [marks, List.isPrefixOf]
  | cons d r => simp [marks, List.isPrefixOf]
theorem markL_join (c : UInt8) (r rest : T8) : markL ((c :: r) ++ 10 :: rest) = markL (c :: r) := by
  unfold markL
  rw [marks_join]
  rfl
theorem take_join {l rest : T8} {n : Nat} (h : n ≤ l.length) : (l ++ rest).take n = l.take n := List.take_append_of_le_length h
/-- A line's end behind a text changes nothing of its first token. -/
theorem oneL_join (c : UInt8) (r rest : T8) : oneL ((c :: r) ++ 10 :: rest) = oneL (c :: r) := by
  have e : (c :: r) ++ 10 :: rest = c :: (r ++ 10 :: rest) := rfl
  rw [oneL_eq e, oneL_eq rfl, runL_join _ rfl, runL_join _ rfl, quotedL_join, markL_join, take_join (runL_le may1 _), take_join (runL_le may2 _), take_join (markL_le (c :: r) (by simp))]
  have : ((c :: r ++ 10 :: rest).drop 1).take (quotedL (c :: r) - 2) = ((c :: r).drop 1).take (quotedL (c :: r) - 2) := by
    have := quotedL_le (c :: r)
    show (r ++ 10 :: rest).take _ = r.take _
    exact take_join (by simp at this; omega)
  rw [this]
theorem lineL_join : ∀ (l rest : T8), lineL (l ++ 10 :: rest) = lineL l
  | [], rest => by rw [List.nil_append, lineL_cons, if_pos rfl]; rfl
  | c :: r, rest => by rw [List.cons_append, lineL_cons, lineL_cons, lineL_join r rest]
theorem blankL_join (R : T8) : ∀ (n : Nat) (l : T8), l.length ≤ n → blankL (l ++ 10 :: R) = if blankL l = l.length then l.length + 1 + blankL R else blankL l
  | n, [], _ => by
    rw [List.nil_append, blankL_ws _ _ rfl, blankL_nil]; simp
  | 0, c :: r, h => by simp at h
  | n + 1, c :: r, h => by
    by_cases h1 : isWs c = true
    · rw [List.cons_append, blankL_ws _ _ h1, blankL_ws _ _ h1, blankL_join R n r (by simpa using h)]
      by_cases hb : blankL r = r.length
      · rw [if_pos hb, if_pos (by simp; omega)]; simp; omega
      · rw [if_neg hb, if_neg (by simp; omega)]
    · rw [Bool.not_eq_true] at h1
      have hle := blankL_le _ (c :: r) (Nat.le_refl _)
      by_cases h2 : List.isPrefixOf [47, 47] (c :: r) = true
      · rw [List.isPrefixOf_iff_prefix] at h2
        obtain ⟨q, hq⟩ := h2
        have hq : c :: r = 47 :: 47 :: q := hq.symm
        rw [hq] at h ⊢
        have e : (47 :: 47 :: q) ++ 10 :: R = 47 :: 47 :: (q ++ 10 :: R) := rfl
        have h3 : lineL (47 :: 47 :: q) = lineL q + 2 := by rw [lineL_cons, if_neg (by decide), lineL_cons, if_neg (by decide)]
        have h4 : lineL (47 :: 47 :: (q ++ 10 :: R)) = lineL (47 :: 47 :: q) := by rw [← e, lineL_join]
        have hl := lineL_le (47 :: 47 :: q)
        rw [e, blankL_line, h4, ← e, List.drop_append_of_le_length hl, blankL_line q]
        have ih := blankL_join R n ((47 :: 47 :: q : T8).drop (lineL (47 :: 47 :: q))) (by rw [List.length_drop]; omega)
        rw [ih, List.length_drop]
        split
        · rw [if_pos (by omega)]; omega
        · rw [if_neg (by omega)]
      · rw [Bool.not_eq_true] at h2
        have h3 : List.isPrefixOf [47, 47] (c :: (r ++ 10 :: R)) = false := by
          cases r with
          | nil => simp [List.isPrefixOf]
          | cons d r => simpa [List.isPrefixOf] using h2
        rw [List.cons_append, blankL_no _ _ h1 h2, blankL_no _ _ h1 h3, if_neg (by simp)]

def shiftT (d : Nat) (x : Tok) : Tok := (x.1, x.2.1, x.2.2 + d)
theorem toksL_step {n p : Nat} {l r : T8} {c : UInt8} (h : l = c :: r) : toksL (n + 1) l p = (match oneL l with
    | .inl e => .inl (e, p)
    | .inr (k, t, m) => match toksL n ((l.drop m).drop (blankL (l.drop m))) (p + m + blankL (l.drop m)) with
      | .inl e => .inl e
      | .inr r => .inr ((k, t, p) :: r)) := by subst h; rfl
theorem toksL_shift (d : Nat) : ∀ (n : Nat) (l : T8) (p : Nat), toksL n l (p + d) = match toksL n l p with
    | .inl (e, q) => .inl (e, q + d)
    | .inr ts => .inr (ts.map (shiftT d))
  | 0, l, p => rfl
  | n + 1, [], p => rfl
  | n + 1, c :: r, p => by
    rw [toksL_step rfl, toksL_step rfl]
    cases oneL (c :: r) with
    | inl e => rfl
    | inr x =>
      obtain ⟨k, t, m⟩ := x
      simp only
      have := toksL_shift d n (((c :: r).drop m).drop (blankL ((c :: r).drop m))) (p + m + blankL ((c :: r).drop m))
      rw [show p + d + m + blankL ((c :: r).drop m) = p + m + blankL ((c :: r).drop m) + d by omega, this]
      split
      · rename_i h; split at h <;> rename_i h2 <;> simp_all
      · rename_i h; split at h <;> rename_i h2 <;> simp_all [shiftT]
theorem toksL_pos : ∀ (n : Nat) (l : T8) (p : Nat), match toksL n l p with
    | .inl (e, q) => q ≤ p + l.length
    | .inr ts => ts ≠ [] ∧ ∀ x ∈ ts, x.2.2 ≤ p + l.length
  | 0, l, p => by simp [toksL]
  | n + 1, [], p => by simp [toksL]
  | n + 1, c :: r, p => by
    rw [toksL_step rfl]
    cases ho : oneL (c :: r) with
    | inl e => simp
    | inr x =>
      obtain ⟨k, t, m⟩ := x
      simp only
      obtain ⟨m1, m2⟩ := oneL_len ho
      have hb := blankL_le _ ((c :: r).drop m) (Nat.le_refl _)
      have ih := toksL_pos n (((c :: r).drop m).drop (blankL ((c :: r).drop m))) (p + m + blankL ((c :: r).drop m))
      rw [List.length_drop] at hb ih
      rw [List.length_drop] at ih
      cases hk : toksL n (((c :: r).drop m).drop (blankL ((c :: r).drop m))) (p + m + blankL ((c :: r).drop m)) with
      | inl e =>
        rw [hk] at ih
        obtain ⟨e, q⟩ := e
        simp only at ih ⊢
        omega
      | inr ts =>
        rw [hk] at ih
        simp only at ih ⊢
        refine ⟨by simp, fun x hx => ?_⟩
        rcases List.mem_cons.1 hx with rfl | hx
        · simp
        · have := ih.2 x hx; omega
def tok0 (N : Nat) (l : T8) (p : Nat) : (Int × Nat) ⊕ List Tok := toksL N (l.drop (blankL l)) (p + blankL l)
def joinT (a b : (Int × Nat) ⊕ List Tok) : (Int × Nat) ⊕ List Tok :=
  match a with
  | .inl e => .inl e
  | .inr ts => match b with
    | .inl e => .inl e
    | .inr us => .inr (ts.dropLast ++ us)
theorem toksL_nil (n p : Nat) : toksL (n + 1) [] p = .inr [(0, [], p)] := rfl
theorem joinT_one (x : Tok) (b : (Int × Nat) ⊕ List Tok) : joinT (.inr [x]) b = b := by cases b <;> rfl
theorem toks_join (R : T8) (N : Nat) : ∀ (k : Nat) (l : T8) (p : Nat), l.length ≤ k → l.length + 1 + R.length < N → tok0 N (l ++ 10 :: R) p = joinT (tok0 N l p) (tok0 N R (p + (l.length + 1))) := by
  intro k
  induction k with
  | zero =>
    intro l p hk hN
    obtain rfl := List.eq_nil_of_length_eq_zero (Nat.le_zero.1 hk)
    obtain ⟨M, rfl⟩ : ∃ M, N = M + 1 := ⟨N - 1, by omega⟩
    unfold tok0
    rw [blankL_join R 0 [] (by simp), blankL_nil]
    simp only [List.length_nil, if_true, List.drop_nil, toksL_nil, joinT_one, List.nil_append, Nat.zero_add]
    rw [Nat.add_comm 1, List.drop_succ_cons, show p + (blankL R + 1) = p + 1 + blankL R by omega]
  | succ k ih =>
    intro l p hk hN
    obtain ⟨M, rfl⟩ : ∃ M, N = M + 1 := ⟨N - 1, by omega⟩
    have hle := blankL_le _ l (Nat.le_refl _)
    have hj := blankL_join R l.length l (Nat.le_refl _)
    by_cases hb : blankL l = l.length
    · rw [if_pos hb] at hj
      unfold tok0
      rw [hj, hb]
      have e1 : (l ++ 10 :: R).drop (l.length + 1 + blankL R) = R.drop (blankL R) := by
        rw [← List.drop_drop, List.drop_append, show l.length + 1 - l.length = 1 by omega, show l.drop (l.length + 1) = [] from List.drop_eq_nil_of_le (by omega)]; rfl
      rw [e1, List.drop_length]
      rw [toksL_nil, joinT_one, show p + (l.length + 1 + blankL R) = p + (l.length + 1) + blankL R by omega]
    · rw [if_neg hb] at hj
      unfold tok0
      rw [hj, List.drop_append_of_le_length hle]
      cases hd : l.drop (blankL l) with
      | nil =>
        have : (l.drop (blankL l)).length = 0 := by rw [hd]; rfl
        rw [List.length_drop] at this; omega
      | cons c r =>
        have hlen : (c :: r).length = l.length - blankL l := by rw [← hd, List.length_drop]
        have e : (c :: r) ++ 10 :: R = c :: (r ++ 10 :: R) := rfl
        rw [toksL_step e, toksL_step (rfl : c :: r = c :: r), oneL_join]
        cases ho : oneL (c :: r) with
        | inl e => rfl
        | inr x =>
          obtain ⟨kk, t, m⟩ := x
          obtain ⟨m1, m2⟩ := oneL_len ho
          simp only
          rw [List.drop_append_of_le_length m2]
          have h1 : ((c :: r).drop m).length = (c :: r).length - m := List.length_drop
          have := ih ((c :: r).drop m) (p + blankL l + m) (by omega) (by omega)
          have hlR : ((c :: r).drop m ++ 10 :: R).length = ((c :: r).drop m).length + 1 + R.length := by simp; omega
          have b1 := blankL_le _ ((c :: r).drop m ++ 10 :: R) (Nat.le_refl _)
          have b2 := blankL_le _ ((c :: r).drop m) (Nat.le_refl _)
          have f1 := toksL_fuel M (M + 1) (((c :: r).drop m ++ 10 :: R).drop (blankL ((c :: r).drop m ++ 10 :: R))) (p + blankL l + m + blankL ((c :: r).drop m ++ 10 :: R)) (by rw [List.length_drop]; omega) (by rw [List.length_drop]; omega)
          have f2 := toksL_fuel M (M + 1) (((c :: r).drop m).drop (blankL ((c :: r).drop m))) (p + blankL l + m + blankL ((c :: r).drop m)) (by rw [List.length_drop]; omega) (by rw [List.length_drop]; omega)
          unfold tok0 at this
          rw [f1, f2, this]
          have e3 : p + blankL l + m + (((c :: r).drop m).length + 1) = p + (l.length + 1) := by omega
          rw [e3]
          have hne := toksL_pos (M + 1) (((c :: r).drop m).drop (blankL ((c :: r).drop m))) (p + blankL l + m + blankL ((c :: r).drop m))
          cases ha : toksL (M + 1) (((c :: r).drop m).drop (blankL ((c :: r).drop m))) (p + blankL l + m + blankL ((c :: r).drop m)) with
          | inl e => rfl
          | inr ts =>
            rw [ha] at hne
            cases hc : toksL (M + 1) (R.drop (blankL R)) (p + (l.length + 1) + blankL R) with
            | inl e => rfl
            | inr us =>
              simp only [joinT]
              cases ts with
              | nil => exact (hne.1 rfl).elim
              | cons y ts => rfl
theorem tok0_S (N : Nat) (l : T8) (h : l.length < N) : tok0 N l 0 = tokS l := by
  unfold tok0 tokS
  rw [Nat.zero_add]
  exact toksL_fuel _ _ _ _ (by rw [List.length_drop]; omega) (by rw [List.length_drop]; omega)
/-- The tokens of two texts on lines of their own. -/
theorem tokS_join (L R : T8) : tokS (L ++ 10 :: R) = match tokS L with
    | .inl e => .inl e
    | .inr ts => match tokS R with
      | .inl (e, q) => .inl (e, q + (L.length + 1))
      | .inr us => .inr (ts.dropLast ++ us.map (shiftT (L.length + 1))) := by
  have h := toks_join R (L.length + R.length + 2) L.length L 0 (Nat.le_refl _) (by omega)
  rw [tok0_S _ _ (by simp; omega), tok0_S _ _ (by omega)] at h
  have h2 : tok0 (L.length + R.length + 2) R (0 + (L.length + 1)) = match tokS R with
      | .inl (e, q) => .inl (e, q + (L.length + 1))
      | .inr us => .inr (us.map (shiftT (L.length + 1))) := by
    have := toksL_shift (L.length + 1) (L.length + R.length + 2) (R.drop (blankL R)) (0 + blankL R)
    have h3 := tok0_S (L.length + R.length + 2) R (by omega)
    unfold tok0 at h3
    rw [h3] at this
    unfold tok0
    rw [show 0 + (L.length + 1) + blankL R = 0 + blankL R + (L.length + 1) by omega]
    exact this
  rw [h, h2]
  cases tokS L with
  | inl e => rfl
  | inr ts =>
    cases tokS R with
    | inl e => rfl
    | inr us => rfl
theorem tokS_pos (L : T8) : match tokS L with
    | .inl (e, q) => q ≤ L.length
    | .inr ts => ts ≠ [] ∧ ∀ x ∈ ts, x.2.2 ≤ L.length := by
  have h := toksL_pos (L.length + 1) (L.drop (blankL L)) (blankL L)
  have hb := blankL_le _ L (Nat.le_refl _)
  rw [List.length_drop, show blankL L + (L.length - blankL L) = L.length by omega] at h
  exact h
end Go.Sd

namespace Go.Sd
open Go Go.Cm Go.Proofs Go.Sc
set_option maxRecDepth 100000

theorem joins_loop (L : T8) (hL : L.length ≤ 3000) (zs : List Tok) (x0 : Tok) (us : List Tok) (ha : zs.length ≤ 3000) (hu : us.length ≤ 4000) (hp : ∀ x ∈ us, x.2.2 ≤ 3000) :
    ∀ (n i : Nat), i + n = zs.length + us.length →
    Lp F5.L0 (F5.s0 (B L) i ((zs ++ [x0]).map tokT) (us.map tokT) ((zs ++ us.map (shiftT (L.length + 1))).map tokT)) = some (.exit 0, F5.e0x0)
  | 0, i, h => by
    have hr := F5.round0 (B L) i ((zs ++ [x0]).map tokT) (us.map tokT) ((zs ++ us.map (shiftT (L.length + 1))).map tokT)
    rw [if_neg (by simp; omega)] at hr
    exact Lp_exit hr
  | n + 1, i, h => by
    have hr := F5.round0 (B L) i ((zs ++ [x0]).map tokT) (us.map tokT) ((zs ++ us.map (shiftT (L.length + 1))).map tokT)
    have hx : (((zs ++ [x0]).map tokT).length : Int) = ((zs.length + 1 : Nat) : Int) := by simp
    have hz : (((zs ++ us.map (shiftT (L.length + 1))).map tokT).length : Int) = ((zs.length + us.length : Nat) : Int) := by simp
    have hy : ((us.map tokT).length : Int) = (us.length : Int) := by simp
    have ih := joins_loop L hL zs x0 us ha hu hp n (i + 1) (by omega)
    have w0 : IntKind.wrap .i64 (((zs.length + 1 : Nat) : Int) - 1) = (zs.length : Int) := by rw [wrap_id (by omega) (by omega)]; omega
    rw [hx, hz, hy, if_pos (by simp; omega), w0, w1 (n := 0) (by omega)] at hr
    by_cases hi : i < zs.length
    · have hg1 : ((zs ++ [x0]).map tokT)[i]? = some (tokT zs[i]) := by
        rw [List.getElem?_map, List.getElem?_append_left hi, List.getElem?_eq_getElem hi]; rfl
      have hg2 : ((zs ++ us.map (shiftT (L.length + 1))).map tokT)[i]? = some (tokT zs[i]) := by
        rw [List.getElem?_map, List.getElem?_append_left hi, List.getElem?_eq_getElem hi]; rfl
      have hb1 : (0 : Int) ≤ (i : Int) ∧ (i : Int) < ((zs.length + 1 : Nat) : Int) := by omega
      have hb2 : (0 : Int) ≤ (i : Int) ∧ (i : Int) < ((zs.length + us.length : Nat) : Int) := by omega
      rw [if_pos (by simp; omega), if_pos hb2, Int.toNat_natCast, hg2] at hr
      simp only [tokT, if_true, if_pos hb1] at hg1 hr
      rw [hg1] at hr
      simp only [BEq.rfl, Bool.and_true, Bool.not_true, Bool.false_eq_true, if_false] at hr
      exact Lp_step hr ih
    · have hj : i - zs.length < us.length := by omega
      have w2 : IntKind.wrap .i64 (IntKind.wrap .i64 ((i : Int) - ((zs.length + 1 : Nat) : Int)) + 1) = ((i - zs.length : Nat) : Int) := by
        rw [wrap_id (n := (i : Int) - ((zs.length + 1 : Nat) : Int)) (by omega) (by omega), wrap_id (by omega) (by omega)]; omega
      have hg1 : (us.map tokT)[i - zs.length]? = some (tokT us[i - zs.length]) := by
        rw [List.getElem?_map, List.getElem?_eq_getElem hj]; rfl
      have hg2 : ((zs ++ us.map (shiftT (L.length + 1))).map tokT)[i]? = some (tokT (shiftT (L.length + 1) us[i - zs.length])) := by
        rw [List.getElem?_map, List.getElem?_append_right (by omega), List.getElem?_map, List.getElem?_eq_getElem hj]; rfl
      have hq := hp us[i - zs.length] (List.getElem_mem hj)
      have hb1 : (0 : Int) ≤ ((i - zs.length : Nat) : Int) ∧ ((i - zs.length : Nat) : Int) < (us.length : Int) := by omega
      have hb2 : (0 : Int) ≤ (i : Int) ∧ (i : Int) < ((zs.length + us.length : Nat) : Int) := by omega
      rw [if_neg (by simp; omega), w2, if_pos hb1, Int.toNat_natCast, hg1] at hr
      simp only [tokT, if_true, if_pos hb2, Int.toNat_natCast, B_size] at hg2 hr
      rw [hg2] at hr
      simp only [shiftT] at hr
      have w3 : IntKind.wrap .i64 (IntKind.wrap .i64 ((us[i - zs.length].2.2 : Int) + (L.length : Int)) + 1) = ((us[i - zs.length].2.2 + (L.length + 1) : Nat) : Int) := by
        rw [wrap_id (n := (us[i - zs.length].2.2 : Int) + (L.length : Int)) (by omega) (by omega), wrap_id (by omega) (by omega)]; omega
      rw [w3] at hr
      simp only [BEq.rfl, Bool.and_true, Bool.not_true, Bool.false_eq_true, if_false] at hr
      exact Lp_step hr ih
theorem joins (s t : ByteArray) (hs : s.size ≤ 140737488351232) (ht : t.size ≤ 140737488351232) {γ : Type} (q : List TV → List TV → Option γ) :
    evalF Tryd.prog E30 Tryd.f5 [.d true 0 (.str s), .d true 0 (.str t)] q = q [.d false 0 (.bool true)] [] := by
  rw [F5.start]
  rw [B_of s, B_of t] at *
  generalize s.data.toList = L at *
  generalize t.data.toList = R at *
  have e10 : (⟨#[10]⟩ : ByteArray) = B [10] := rfl
  rw [e10]
  rw [B_size] at hs ht
  simp only [B_app, B_size, B_list]
  have w0 : IntKind.wrap .i64 ((L.length : Int) + (R.length : Int)) = ((L.length + R.length : Nat) : Int) := by rw [wrap_id (by omega) (by omega)]; omega
  rw [w0]
  by_cases h3 : L.length + R.length ≤ 3000
  · rw [if_neg (by simp; omega)]
    have hl : (L ++ [10]).length = L.length + 1 := by simp
    have hlr : (L ++ 10 :: R).length = L.length + 1 + R.length := by simp; omega
    have ea : L ++ [10] ++ R = L ++ 10 :: R := by simp
    have hj := tokS_join L R
    have pa := tokS_pos L
    have pb := tokS_pos R
    simp only [ea]
    simp only [hlr, hl, Nat.ble_eq_true_of_le (show L.length ≤ 65536 by omega), Nat.ble_eq_true_of_le (show R.length ≤ 65536 by omega), Nat.ble_eq_true_of_le (show L.length + 1 + R.length ≤ 65536 by omega),
      if_pos (show L.length + 1 ≤ 9223372036854775807 by omega), if_pos (show L.length + 1 + R.length ≤ 9223372036854775807 by omega)]
    cases ha : tokS L with
    | inl e =>
      obtain ⟨n, p⟩ := e
      rw [ha] at hj
      simp only at hj ⊢
      rw [hj]
      cases hb : tokS R with
      | inl e => simp
      | inr us => simp
    | inr ts =>
      rw [ha] at hj pa
      simp only at hj pa ⊢
      cases hb : tokS R with
      | inl e =>
        obtain ⟨n, p⟩ := e
        rw [hb] at hj pb
        simp only at hj pb ⊢
        rw [hj]
        have w3 : IntKind.wrap .i64 (IntKind.wrap .i64 ((p : Int) + (L.length : Int)) + 1) = ((p + (L.length + 1) : Nat) : Int) := by
          rw [wrap_id (n := (p : Int) + (L.length : Int)) (by omega) (by omega), wrap_id (by omega) (by omega)]; omega
        simp [w3]
      | inr us =>
        rw [hb] at hj pb
        simp only at hj pb ⊢
        rw [hj]
        simp only
        obtain ⟨zs, e1, e2, _⟩ := tokS_last (by omega) ha
        obtain ⟨bs, e3, e4, _⟩ := tokS_last (by omega) hb
        subst e1
        rw [List.dropLast_concat]
        have hu : us.length ≤ 4000 := by rw [e3]; simp; omega
        have hlp := joins_loop L (by omega) zs (0, [], L.length) us (by omega) hu (fun x hx => by have := pb.2 x hx; omega) (zs.length + us.length) 0 (by omega)
        have w4 : IntKind.wrap .i64 (IntKind.wrap .i64 ((((zs ++ [((0 : Int), ([] : T8), L.length)]).map tokT).length : Int) + ((us.map tokT).length : Int)) - 1) = ((zs.length + us.length : Nat) : Int) := by
          rw [List.length_map, List.length_map, List.length_append, List.length_singleton]
          rw [wrap_id (n := ((zs.length + 1 : Nat) : Int) + (us.length : Int)) (by omega) (by omega), wrap_id (by omega) (by omega)]; omega
        rw [w4, if_neg (by simp)]
        rw [show ((0 : Nat) : Int) = 0 from rfl] at hlp
        rw [goLp_of hlp, F5.behind0x0]
  · rw [if_pos (by simp; omega)]
theorem valid_joins (s t : ByteArray) (hs : s.size ≤ 140737488351232) (ht : t.size ≤ 140737488351232) : Valid glS Tryd.prog 5 [.d true 0 (.str s), .d true 0 (.str t)] [.d false 0 (.bool true)] [] :=
  valid_of env30 mixed Tryd.func5 (by kernel_rfl) (joins s t hs ht _)
end Go.Sd

/- The scan laws' seat: plain lemmas on the places and the texts of tokens. -/
import Derived.Test.YteogbcggkogjaaaDoorSh
import Derived.Test.YteogbcggkogjaaaDoorSj
set_option linter.unusedVariables false
set_option linter.unusedSimpArgs false
namespace Go.Sd
open Go Go.Cm Go.Proofs Go.Sc
set_option maxRecDepth 100000

/-- A token's bytes in the text. -/
def rawT (x : Tok) : T8 := if x.1 = 3 then 34 :: (x.2.1 ++ [34]) else x.2.1
/-- Tokens lie one behind the other, are what stands there, and would be the same with a blank behind each. -/
def Good (L : T8) : Nat → List Tok → Prop
  | _, [] => False
  | p, x :: r => match r with
    | [] => x = (0, [], L.length) ∧ p ≤ L.length
    | y :: r => p ≤ x.2.2 ∧ x.1 ≠ 0 ∧ 1 ≤ (rawT x).length ∧ x.2.2 + (rawT x).length ≤ L.length ∧ (L.drop x.2.2).take (rawT x).length = rawT x ∧
      (∀ rest, oneL (rawT x ++ 32 :: rest) = .inr (x.1, x.2.1, (rawT x).length)) ∧ Good L (x.2.2 + (rawT x).length) (y :: r)
theorem takeWhile_stop {p : UInt8 → Bool} {l : T8} {c : UInt8} (hc : p c = false) (rest : T8) : ((l.takeWhile p) ++ c :: rest).takeWhile p = l.takeWhile p := by
  induction l with
  | nil => simp [hc]
  | cons b l ih =>
    rw [List.takeWhile_cons]
    split
    · rename_i h
      rw [List.cons_append, List.takeWhile_cons, if_pos h, ih]
    · simp [hc]
theorem runL_take (p : Int → Bool) (l : T8) : l.take (runL p l) = l.takeWhile fun c => p (kindI c.toNat) := by
  unfold runL
  exact (List.prefix_iff_eq_take.1 (List.takeWhile_prefix _)).symm
theorem runL_again (p : Int → Bool) (l : T8) (hp : p (-1) = false) (rest : T8) : runL p (l.take (runL p l) ++ 32 :: rest) = runL p l := by
  rw [runL_take]
  show ((l.takeWhile (fun c => p (kindI c.toNat)) ++ 32 :: rest).takeWhile (fun c => p (kindI c.toNat))).length = runL p l
  rw [takeWhile_stop (p := fun c => p (kindI c.toNat)) (c := 32) (by
    have : kindI ((32 : UInt8).toNat : Int) = -1 := by decide
    simp only [this]; exact hp)]
  rfl
theorem byte34 {c : UInt8} (h : kindI c.toNat = 3) : c = 34 := by
  have := (quo_kind c).2 h
  have k : ((c.toNat : Int) == 34) = (c == 34) := byte_eq c 34 (by omega)
  rw [k] at this
  exact eq_of_beq this
theorem takeWhile_len_lt {p : UInt8 → Bool} : ∀ {l : T8}, (l.takeWhile p).length < l.length → ∃ c, l[(l.takeWhile p).length]? = some c ∧ p c = false
  | [], h => by simp at h
  | b :: l, h => by
    rw [List.takeWhile_cons] at h ⊢
    split
    · rename_i hb
      rw [if_pos hb] at h
      obtain ⟨c, h1, h2⟩ := takeWhile_len_lt (p := p) (l := l) (by simpa using h)
      exact ⟨c, by simpa using h1, h2⟩
    · rename_i hb
      exact ⟨b, by simp, by simpa using hb⟩
theorem take_takeWhile {p : UInt8 → Bool} (l : T8) : l.take (l.takeWhile p).length = l.takeWhile p := (List.prefix_iff_eq_take.1 (List.takeWhile_prefix _)).symm
/-- What a label is made of. -/
theorem quoted_raw {l r : T8} (h : l = 34 :: r) (hq : 0 < quotedL l) : l.take (quotedL l) = 34 :: ((l.drop 1).take (quotedL l - 2) ++ [34]) ∧
    ∀ rest, quotedL ((34 :: ((l.drop 1).take (quotedL l - 2) ++ [34])) ++ rest) = quotedL l := by
  subst h
  have hz : ∀ r : T8, quotedL (34 :: r) = if r.length ≤ (r.takeWhile fun c => c != 34).length then 0 else
    if (r.takeWhile fun c => c != 34).length < 1 ∨ 32 < (r.takeWhile fun c => c != 34).length then 0 else
    if (r.take (r.takeWhile fun c => c != 34).length).all okQ = true then (r.takeWhile fun c => c != 34).length + 2 else 0 := fun _ => rfl
  have hv : quotedL (34 :: r) = (r.takeWhile fun c => c != 34).length + 2 ∧ (r.takeWhile fun c => c != 34).length < r.length ∧ 1 ≤ (r.takeWhile fun c => c != 34).length ∧ (r.takeWhile fun c => c != 34).length ≤ 32 ∧
      (r.take (r.takeWhile fun c => c != 34).length).all okQ = true := by
    rw [hz] at hq ⊢
    split
    · rename_i h1; rw [if_pos h1] at hq; omega
    · rename_i h1
      rw [if_neg h1] at hq
      split
      · rename_i h2; rw [if_pos h2] at hq; omega
      · rename_i h2
        rw [if_neg h2] at hq
        split
        · rename_i h3; exact ⟨rfl, by omega, by omega, by omega, h3⟩
        · rename_i h3; rw [if_neg h3] at hq; omega
  obtain ⟨e, h1, h2, h3, h4⟩ := hv
  obtain ⟨c, hc, hcn⟩ := takeWhile_len_lt h1
  have hc34 : c = 34 := by simpa using hcn
  subst hc34
  rw [e]
  simp only [List.drop_succ_cons, List.drop_zero, Nat.add_sub_cancel]
  have ht := take_takeWhile (p := fun c => c != 34) r
  constructor
  · rw [List.take_succ_cons, List.take_add_one, hc]
    rfl
  · intro rest
    have hw : ((r.take (r.takeWhile fun c => c != 34).length ++ [34]) ++ rest).takeWhile (fun c => c != 34) = r.takeWhile fun c => c != 34 := by
      rw [ht, List.append_assoc]
      exact takeWhile_stop (by decide) rest
    rw [List.cons_append, hz, hw]
    have hl : (r.take (r.takeWhile fun c => c != 34).length ++ [34] ++ rest).length = (r.takeWhile fun c => c != 34).length + 1 + rest.length := by
      simp [ht]; omega
    have htk : (r.take (r.takeWhile fun c => c != 34).length ++ [34] ++ rest).take (r.takeWhile fun c => c != 34).length = r.take (r.takeWhile fun c => c != 34).length := by
      rw [List.append_assoc]
      have : (r.take (r.takeWhile fun c => c != 34).length).length = (r.takeWhile fun c => c != 34).length := by rw [ht]
      exact List.take_left' this
    rw [hl, htk, if_neg (by omega), if_neg (by omega), if_pos h4]
theorem mark_again {l r : T8} {c : UInt8} (h : l = c :: r) (hm : markL l ≠ 0) (rest : T8) : markL (l.take (markL l) ++ 32 :: rest) = markL l := by
  unfold markL at hm ⊢
  by_cases h1 : marks.any (·.isPrefixOf l) = true
  · simp only [if_pos h1]
    have h2 := h1
    rw [List.any_eq_true] at h2
    obtain ⟨m, hm1, hp⟩ := h2
    rw [List.isPrefixOf_iff_prefix] at hp
    have hml : m.length = 2 := by
      simp only [marks, List.mem_cons, List.not_mem_nil, or_false] at hm1
      rcases hm1 with rfl | rfl | rfl | rfl | rfl | rfl <;> rfl
    have ht : l.take 2 = m := by
      have := List.prefix_iff_eq_take.1 hp
      rw [hml] at this
      exact this.symm
    rw [if_pos (List.any_eq_true.2 ⟨m, hm1, by rw [ht, List.isPrefixOf_iff_prefix]; exact List.prefix_append _ _⟩)]
  · simp only [if_neg h1] at hm ⊢
    by_cases h46 : l.head? = some 46
    · rw [if_pos h46] at hm; exact (hm rfl).elim
    · simp only [if_neg h46]
      rw [h, List.head?_cons] at h46
      have e : (c :: r).take 1 ++ 32 :: rest = c :: 32 :: rest := rfl
      rw [h, e]
      have hno : ¬ marks.any (·.isPrefixOf (c :: 32 :: rest)) = true := by
        rw [List.any_eq_true]
        rintro ⟨m, hm1, hp⟩
        simp only [marks, List.mem_cons, List.not_mem_nil, or_false] at hm1
        rcases hm1 with rfl | rfl | rfl | rfl | rfl | rfl <;> simp [List.isPrefixOf] at hp
      rw [if_neg hno, if_neg (by simpa using h46)]
theorem oneL_again {l : T8} {k : Int} {t : T8} {m : Nat} (p : Nat) (h : oneL l = .inr (k, t, m)) : k ≠ 0 ∧ l.take m = rawT (k, t, p) ∧ (rawT (k, t, p)).length = m ∧
    ∀ rest, oneL (rawT (k, t, p) ++ 32 :: rest) = .inr (k, t, m) := by
  have hlen := oneL_len h
  cases l with
  | nil => simp [oneL] at h
  | cons c r =>
    have fin : ∀ {k : Int} {t : T8} {m : Nat}, m ≤ (c :: r).length → (c :: r).take m = rawT (k, t, p) → (rawT (k, t, p)).length = m := fun hm e => by rw [← e, List.length_take]; omega
    rw [oneL_eq rfl] at h
    by_cases k1 : kindI c.toNat = 1
    · rw [if_pos k1] at h
      simp only [Sum.inr.injEq, Prod.mk.injEq] at h
      obtain ⟨rfl, rfl, rfl⟩ := h
      have hr : (c :: r).take (runL may1 (c :: r)) = rawT (1, (c :: r).take (runL may1 (c :: r)), p) := rfl
      refine ⟨by decide, hr, fin hlen.2 hr, fun rest => ?_⟩
      have ha := runL_again may1 (c :: r) rfl rest
      show oneL ((c :: r).take (runL may1 (c :: r)) ++ 32 :: rest) = _
      obtain ⟨n, hn⟩ : ∃ n, runL may1 (c :: r) = n + 1 := ⟨runL may1 (c :: r) - 1, by omega⟩
      have e : (c :: r).take (runL may1 (c :: r)) ++ 32 :: rest = c :: (r.take n ++ 32 :: rest) := by rw [hn]; rfl
      rw [oneL_eq e, if_pos k1, ha, List.take_left' (by rw [List.length_take]; omega)]
    rw [if_neg k1] at h
    by_cases k2 : kindI c.toNat = 2
    · rw [if_pos k2] at h
      split at h
      · rename_i hv
        simp only [Sum.inr.injEq, Prod.mk.injEq] at h
        obtain ⟨rfl, rfl, rfl⟩ := h
        have hr : (c :: r).take (runL may2 (c :: r)) = rawT (2, (c :: r).take (runL may2 (c :: r)), p) := rfl
        refine ⟨by decide, hr, fin hlen.2 hr, fun rest => ?_⟩
        have ha := runL_again may2 (c :: r) rfl rest
        show oneL ((c :: r).take (runL may2 (c :: r)) ++ 32 :: rest) = _
        obtain ⟨n, hn⟩ : ∃ n, runL may2 (c :: r) = n + 1 := ⟨runL may2 (c :: r) - 1, by omega⟩
        have e : (c :: r).take (runL may2 (c :: r)) ++ 32 :: rest = c :: (r.take n ++ 32 :: rest) := by rw [hn]; rfl
        rw [oneL_eq e, if_neg k1, if_pos k2, ha, List.take_left' (by rw [List.length_take]; omega), if_pos hv]
      · cases h
    rw [if_neg k2] at h
    by_cases k3 : kindI c.toNat = 3
    · have h34 := byte34 k3
      subst h34
      rw [if_pos k3] at h
      split at h
      · rename_i hq
        simp only [Sum.inr.injEq, Prod.mk.injEq] at h
        obtain ⟨rfl, rfl, rfl⟩ := h
        obtain ⟨q1, q2⟩ := quoted_raw rfl hq
        have hr : (34 :: r).take (quotedL (34 :: r)) = rawT (3, ((34 :: r).drop 1).take (quotedL (34 :: r) - 2), p) := by rw [q1]; rfl
        have hl := fin hlen.2 hr
        refine ⟨by decide, hr, hl, fun rest => ?_⟩
        have q3 := q2 (32 :: rest)
        have e : rawT (3, ((34 :: r).drop 1).take (quotedL (34 :: r) - 2), p) ++ 32 :: rest = 34 :: ((((34 :: r).drop 1).take (quotedL (34 :: r) - 2) ++ [34]) ++ 32 :: rest) := rfl
        rw [oneL_eq e, if_neg k1, if_neg k2, if_pos k3]
        have e2 : rawT (3, ((34 :: r).drop 1).take (quotedL (34 :: r) - 2), p) ++ 32 :: rest = (34 :: (((34 :: r).drop 1).take (quotedL (34 :: r) - 2) ++ [34])) ++ 32 :: rest := rfl
        rw [e2, q3, if_pos hq]
        have hlen2 : (((34 :: r).drop 1).take (quotedL (34 :: r) - 2)).length = quotedL (34 :: r) - 2 := by
          have := hl
          simp only [rawT, if_true, List.length_cons, List.length_append, List.length_nil] at this
          omega
        congr 3
        rw [List.cons_append, List.drop_succ_cons, List.drop_zero, List.append_assoc, List.take_left' hlen2]
      · cases h
    rw [if_neg k3] at h
    by_cases k4 : kindI c.toNat = 4
    · rw [if_pos k4] at h
      split at h
      · cases h
      · rename_i hm
        simp only [Sum.inr.injEq, Prod.mk.injEq] at h
        obtain ⟨rfl, rfl, rfl⟩ := h
        have hr : (c :: r).take (markL (c :: r)) = rawT (4, (c :: r).take (markL (c :: r)), p) := rfl
        refine ⟨by decide, hr, fin hlen.2 hr, fun rest => ?_⟩
        have ha := mark_again rfl hm rest
        show oneL ((c :: r).take (markL (c :: r)) ++ 32 :: rest) = _
        obtain ⟨n, hn⟩ : ∃ n, markL (c :: r) = n + 1 := ⟨markL (c :: r) - 1, by omega⟩
        have e : (c :: r).take (markL (c :: r)) ++ 32 :: rest = c :: (r.take n ++ 32 :: rest) := by rw [hn]; rfl
        rw [oneL_eq e, if_neg k1, if_neg k2, if_neg k3, if_pos k4, ha, if_neg hm, List.take_left' (by rw [List.length_take]; omega)]
    · rw [if_neg k4] at h; cases h
end Go.Sd

namespace Go.Sd
open Go Go.Cm Go.Proofs Go.Sc
set_option maxRecDepth 100000

theorem blankL_one {l : T8} {x : Int × T8 × Nat} (h : oneL l = .inr x) : blankL l = 0 := by
  cases l with
  | nil => simp [oneL] at h
  | cons c r =>
    have hk : kindI c.toNat ≠ -1 := by
      intro hk
      rw [oneL_eq rfl, hk] at h
      simp at h
    refine blankL_no c r ?_ ?_
    · cases hw : isWs c with
      | false => rfl
      | true =>
        simp only [isWs, Bool.or_eq_true, beq_iff_eq] at hw
        rcases hw with ((rfl | rfl) | rfl) | rfl <;> exact (hk (by decide)).elim
    · cases hp : List.isPrefixOf [47, 47] (c :: r) with
      | false => rfl
      | true =>
        have : c = 47 := by
          rw [List.isPrefixOf_iff_prefix] at hp
          obtain ⟨t, ht⟩ := hp
          simp at ht
          exact ht.1.symm
        subst this
        exact (hk (by decide)).elim
theorem toksL_good (L : T8) : ∀ (n : Nat) (p q : Nat) (ts : List Tok), q ≤ p → p ≤ L.length → toksL n (L.drop p) p = .inr ts → Good L q ts
  | 0, p, q, ts, _, _, h => by simp [toksL] at h
  | n + 1, p, q, ts, hq, hp, h => by
    rcases Nat.lt_or_ge p L.length with hlt | hge
    · obtain ⟨c, hc, hd⟩ := drop_at hlt
      have ht : toksL (n + 1) (L.drop p) p = (match oneL (L.drop p) with
            | .inl e => .inl (e, p)
            | .inr (k, t, m) => match toksL n (((L.drop p).drop m).drop (blankL ((L.drop p).drop m))) (p + m + blankL ((L.drop p).drop m)) with
              | .inl e => .inl e
              | .inr r => .inr ((k, t, p) :: r)) := by
            rw [hd]; rfl
      rw [ht] at h
      cases ho : oneL (L.drop p) with
      | inl e => rw [ho] at h; cases h
      | inr x =>
        obtain ⟨k, t, m⟩ := x
        rw [ho] at h
        simp only at h
        obtain ⟨m1, m2⟩ := oneL_len ho
        rw [List.length_drop] at m2
        have hb := blankL_le _ ((L.drop p).drop m) (Nat.le_refl _)
        have e0 : (L.drop p).drop m = L.drop (p + m) := List.drop_drop
        rw [e0, List.length_drop] at hb
        rw [e0, List.drop_drop] at h
        cases hk : toksL n (L.drop (p + m + blankL (L.drop (p + m)))) (p + m + blankL (L.drop (p + m))) with
        | inl e => rw [hk] at h; cases h
        | inr us =>
          rw [hk] at h
          simp only [Sum.inr.injEq] at h
          subst h
          obtain ⟨o1, o2, o3, o4⟩ := oneL_again p ho
          have hg := toksL_good L n (p + m + blankL (L.drop (p + m))) (p + m) us (by omega) (by omega) hk
          cases us with
          | nil => exact hg.elim
          | cons y us =>
            refine ⟨hq, o1, by rw [o3]; omega, by rw [o3]; simp only; omega, by rw [o3]; exact o2, fun rest => by rw [o3]; exact o4 rest, ?_⟩
            rw [o3]; exact hg
    · have : p = L.length := by omega
      subst this
      rw [List.drop_length] at h
      simp only [toksL, Sum.inr.injEq] at h
      subst h
      exact ⟨rfl, hq⟩

/-- The wide text. -/
def wideL (ts : List Tok) : T8 := ts.flatMap fun x => 32 :: (rawT x ++ [32, 47, 47, 32, 120, 10])
theorem wideL_cons (x : Tok) (r : List Tok) : wideL (x :: r) = 32 :: (rawT x ++ 32 :: ([47, 47, 32, 120, 10] ++ wideL r)) := by
  simp [wideL]
theorem blankL_gap (l : T8) : blankL (32 :: ([47, 47, 32, 120, 10] ++ l)) = 6 + blankL l := by
  have e : (32 :: ([47, 47, 32, 120, 10] ++ l) : T8) = 32 :: 47 :: 47 :: 32 :: 120 :: 10 :: l := rfl
  have h := blankL_line (32 :: 120 :: 10 :: l)
  have hl : lineL (47 :: 47 :: 32 :: 120 :: 10 :: l) = 4 := by
    rw [lineL_cons, if_neg (by decide), lineL_cons, if_neg (by decide), lineL_cons, if_neg (by decide), lineL_cons, if_neg (by decide), lineL_cons, if_pos rfl]
  rw [hl] at h
  rw [e, blankL_ws _ _ rfl, h, List.drop_succ_cons, List.drop_succ_cons, List.drop_succ_cons, List.drop_succ_cons, List.drop_zero]
  have h10 : blankL (10 :: l) = 1 + blankL l := blankL_ws _ _ rfl
  omega
theorem wide_toks (L : T8) : ∀ (r : List Tok) (x : Tok) (p : Nat), Good L p (x :: r) → ∀ (n q : Nat), (wideL (x :: r)).length < n →
    ∃ us, toksL n ((wideL (x :: r)).drop (blankL (wideL (x :: r)))) q = .inr us ∧ us.map (fun x => (x.1, x.2.1)) = (x :: r).map fun x => (x.1, x.2.1)
  | [], x, p, hg, n, q, hn => by
    obtain ⟨rfl, _⟩ := hg
    obtain ⟨m, rfl⟩ : ∃ m, n = m + 1 := ⟨n - 1, by omega⟩
    have e : wideL [(0, [], L.length)] = 32 :: (32 :: ([47, 47, 32, 120, 10] ++ [])) := rfl
    rw [e, blankL_ws _ _ rfl, blankL_gap, blankL_nil]
    exact ⟨[(0, [], q)], rfl, rfl⟩
  | y :: r, x, p, hg, n, q, hn => by
    obtain ⟨g1, g2, g3, g4, g5, g6, g7⟩ := hg
    rw [wideL_cons] at hn ⊢
    have ho := g6 ([47, 47, 32, 120, 10] ++ wideL (y :: r))
    obtain ⟨m, rfl⟩ : ∃ m, n = m + 1 := ⟨n - 1, by omega⟩
    rw [blankL_ws _ _ rfl, blankL_one ho, List.drop_succ_cons, List.drop_zero]
    have hne : ∃ c t, rawT x ++ 32 :: ([47, 47, 32, 120, 10] ++ wideL (y :: r)) = c :: t := by
      cases hx : rawT x with
      | nil => rw [hx] at g3; simp at g3
      | cons c t => exact ⟨c, _, rfl⟩
    obtain ⟨c, t, hct⟩ := hne
    have ht : ∀ (q : Nat) (l : T8), l = c :: t → toksL (m + 1) l q = (match oneL l with
            | .inl e => .inl (e, q)
            | .inr (k, t, i) => match toksL m ((l.drop i).drop (blankL (l.drop i))) (q + i + blankL (l.drop i)) with
              | .inl e => .inl e
              | .inr r => .inr ((k, t, q) :: r)) := fun q l hl => by rw [hl]; rfl
    rw [ht q _ hct, ho]
    simp only [List.drop_left, blankL_gap]
    have hdr : ∀ b, (32 :: ([47, 47, 32, 120, 10] ++ wideL (y :: r))).drop (6 + b) = (wideL (y :: r)).drop b := fun b => by
      rw [← List.drop_drop]; rfl
    rw [hdr]
    obtain ⟨us, h1, h2⟩ := wide_toks L r y _ g7 m (q + (rawT x).length + (6 + blankL (wideL (y :: r)))) (by simp at hn; omega)
    rw [h1]
    exact ⟨_, rfl, by rw [List.map_cons, h2]; rfl⟩

theorem B_app (a b : T8) : B a ++ B b = B (a ++ b) := by
  apply ByteArray.ext
  simp [B, ByteArray.data_append]
theorem places_round (L : T8) (hL : L.length ≤ 3000) (x : Tok) (p : Nat) (w : T8) (pre r : List Tok) (hp : p ≤ x.2.2) (hle : x.2.2 + (rawT x).length ≤ L.length)
    (hcut : (L.drop x.2.2).take (rawT x).length = rawT x) (hw : w.length ≤ 20000000) (hpre : pre.length ≤ 4000) (hr : r.length ≤ 4000) (hend : x.1 = 0 ↔ r = []) :
    F4.L0 (F4.s0 (B L) p (B w) pre.length ((pre ++ x :: r).map tokT)) =
    some (.inl (F4.s0 (B L) ((x.2.2 + (rawT x).length : Nat)) (B (w ++ (32 :: (rawT x ++ [32, 47, 47, 32, 120, 10])))) ((pre.length + 1 : Nat)) ((pre ++ x :: r).map tokT))) := by
  refine (F4.round0 _ _ _ _ _).trans ?_
  obtain ⟨k, t, pos⟩ := x
  have hg : ((pre ++ (k, t, pos) :: r).map tokT)[pre.length]? = some (tokT (k, t, pos)) := by simp
  rw [List.length_map, if_pos (by simp; omega), if_pos (by simp; omega), Int.toNat_natCast, hg]
  simp only [tokT, if_true]
  simp only at hp hle hcut hend
  have fin : applyK F4.X (finR F4.X [(0, 72)] (sub [1, 1, 1, 1, 1, 1, 1, 0, 1, 0, 0] (body Tryd.f4)))
      [Kf.seq [(1, 233), (0, 72)] (sub [1, 1, 1, 1, 1, 1, 1, 0, 1, 0, 0, 1, 0, 0, 1, 1, 1] (body Tryd.f4)) 233, Kf.block 1 233,
        Kf.seq [(0, 72)] (sub [1, 1, 1, 1, 1, 1, 1, 0, 1, 0, 0, 1, 1] (body Tryd.f4)) 233]
      Ex.norm (F4.j0 (B L) ((pre ++ (k, t, pos) :: r).map tokT) p (B w) pre.length (B (rawT (k, t, pos))) k (B t) pos) =
      some (.inl (F4.s0 (B L) ((pos + (rawT (k, t, pos)).length : Nat)) (B (w ++ (32 :: (rawT (k, t, pos) ++ [32, 47, 47, 32, 120, 10])))) ((pre.length + 1 : Nat)) ((pre ++ (k, t, pos) :: r).map tokT))) := by
    rw [F4.j0_eq]
    generalize rawT (k, t, pos) = z at *
    have w0 : IntKind.wrap .i64 ((pos : Int) + (z.length : Int)) = ((pos + z.length : Nat) : Int) := by rw [wrap_id (by omega) (by omega)]; omega
    have e32 : (⟨#[32]⟩ : ByteArray) = B [32] := rfl
    have e6 : (⟨#[32, 47, 47, 32, 120, 10]⟩ : ByteArray) = B [32, 47, 47, 32, 120, 10] := rfl
    rw [e32, e6]
    simp only [B_app, B_size, w0, Int.toNat_natCast, B_cut, B_list, show pos + z.length - pos = z.length by omega, hcut]
    rw [if_neg (by simp; omega), if_neg (by simp; omega), if_pos (by omega), if_neg (by simp)]
    have w1' : IntKind.wrap .i64 (((((pre ++ (k, t, pos) :: r).map tokT).length : Nat) : Int) - 1) = ((pre.length + r.length : Nat) : Int) := by
      rw [wrap_id (by simp; omega) (by simp; omega)]; simp; omega
    rw [w1', w1 (n := 0) (by omega)]
    have hz : ((k == 0) == ((pre.length : Int) == ((pre.length + r.length : Nat) : Int))) = true := by
      rw [beq_iff_eq, Bool.eq_iff_iff]
      simp only [beq_iff_eq]
      rw [hend]
      constructor
      · intro h; subst h; simp
      · intro h; exact List.eq_nil_of_length_eq_zero (by omega)
    rw [hz, if_neg (by simp), if_pos (by simp; omega), if_pos (by simp; omega), if_pos (by simp; omega)]
    try simp
  by_cases h3 : k = 3
  · have hz : rawT (k, t, pos) = 34 :: (t ++ [34]) := by simp [rawT, h3]
    have e34 : (⟨#[34]⟩ : ByteArray) = B [34] := rfl
    have hle2 := hle
    rw [hz] at hle2
    simp at hle2
    rw [if_pos (by simp [h3]), e34]
    simp only [B_app, B_size]
    rw [if_pos (by omega), if_pos (by simp; omega)]
    rw [hz] at fin ⊢
    rw [← fin]; rfl
  · have hz : rawT (k, t, pos) = t := by simp [rawT, h3]
    rw [if_neg (by simp [h3])]
    rw [hz] at fin ⊢
    exact fin
theorem places_loop (L : T8) (hL : L.length ≤ 3000) : ∀ (r : List Tok) (x : Tok) (p : Nat) (w : T8) (pre : List Tok), Good L p (x :: r) → pre.length + r.length ≤ 3500 → w.length ≤ pre.length * 4000 →
    Lp F4.L0 (F4.s0 (B L) p (B w) pre.length ((pre ++ x :: r).map tokT)) = some (.exit 0, F4.e0x0 ((pre ++ x :: r).map tokT) (B (w ++ wideL (x :: r))))
  | [], x, p, w, pre, hg, hn, hw => by
    obtain ⟨rfl, g2⟩ := hg
    have h1 := places_round L hL (0, [], L.length) p w pre [] g2 (by simp [rawT]) (by simp [rawT]) (by omega) (by omega) (by simp) (by simp)
    refine Lp_step h1 ?_
    have hr := F4.round0 (B L) ((L.length + (rawT (0, [], L.length)).length : Nat)) (B (w ++ (32 :: (rawT (0, [], L.length) ++ [32, 47, 47, 32, 120, 10])))) ((pre.length + 1 : Nat)) ((pre ++ [(0, [], L.length)]).map tokT)
    rw [List.length_map, if_neg (by simp)] at hr
    rw [Lp_exit hr]
    simp [wideL]
  | y :: r, x, p, w, pre, hg, hn, hw => by
    obtain ⟨g1, g2, g3, g4, g5, g6, g7⟩ := hg
    have h1 := places_round L hL x p w pre (y :: r) g1 g4 g5 (by omega) (by omega) (by simp at hn ⊢; omega) (by simp [g2])
    have ih := places_loop L hL r y _ (w ++ (32 :: (rawT x ++ [32, 47, 47, 32, 120, 10]))) (pre ++ [x]) g7 (by simp at hn ⊢; omega) (by simp; omega)
    refine Lp_step h1 ?_
    rw [List.append_assoc, List.singleton_append, List.length_append, List.length_singleton] at ih
    rw [ih, List.append_assoc]
    simp [wideL]
theorem same_loop (ts us : List Tok) (hs : us.map (fun x => (x.1, x.2.1)) = ts.map fun x => (x.1, x.2.1)) : ∀ (n i : Nat), i + n = ts.length → ts.length ≤ 70000 →
    Lp F4.L1 (F4.s1 i (ts.map tokT) (us.map tokT)) = some (.exit 2, F4.e1x2)
  | 0, i, h, hl => by
    have hr := F4.round1 i (ts.map tokT) (us.map tokT)
    rw [List.length_map, if_neg (by simp; omega)] at hr
    exact Lp_exit hr
  | n + 1, i, h, hl => by
    have hr := F4.round1 i (ts.map tokT) (us.map tokT)
    have hlen : us.length = ts.length := by have := congrArg List.length hs; simpa using this
    have hi : i < ts.length := by omega
    have hi2 : i < us.length := by omega
    have hg : (ts.map tokT)[i]? = some (tokT ts[i]) := by rw [List.getElem?_map, List.getElem?_eq_getElem hi]; rfl
    have hg2 : (us.map tokT)[i]? = some (tokT us[i]) := by rw [List.getElem?_map, List.getElem?_eq_getElem hi2]; rfl
    have he : (us[i].1, us[i].2.1) = (ts[i].1, ts[i].2.1) := by
      have := congrArg (fun l => l[i]?) hs
      simp only [List.getElem?_map, List.getElem?_eq_getElem hi, List.getElem?_eq_getElem hi2, Option.map_some, Option.some.injEq] at this
      exact this
    simp only [Prod.mk.injEq] at he
    have hb : (0 : Int) ≤ (i : Int) ∧ (i : Int) < (ts.length : Int) := by omega
    have hb2 : (0 : Int) ≤ (i : Int) ∧ (i : Int) < (us.length : Int) := by omega
    rw [List.length_map, List.length_map, if_pos (by simp; omega), if_pos hb2, Int.toNat_natCast, hg, hg2, w1 (n := 0) (by omega)] at hr
    simp only [tokT, if_pos hb, if_pos hb2] at hr
    simp [he.1, he.2] at hr
    exact Lp_step hr (same_loop ts us hs n (i + 1) (by omega) hl)
theorem places (s : ByteArray) {γ : Type} (q : List TV → List TV → Option γ) : evalF Tryd.prog E30 Tryd.f4 [.d true 0 (.str s)] q = q [.d false 0 (.bool true)] [] := by
  rw [F4.start]
  rw [B_of s]
  generalize s.data.toList = L
  rw [B_size, B_list]
  by_cases hL : L.length ≤ 3000
  · rw [if_neg (by simp; omega)]
    have hble : Nat.ble L.length 65536 = true := Nat.ble_eq_true_of_le (by omega)
    rw [hble]
    simp only
    cases ht : tokS L with
    | inl e => rfl
    | inr ts =>
      simp only
      have hgood : Good L 0 ts := toksL_good L (L.length + 1) (blankL L) 0 ts (by omega) (blankL_le _ L (Nat.le_refl _)) ht
      obtain ⟨us, e1, e2, _⟩ := tokS_last (by omega) ht
      have hlen : ts.length ≤ L.length + 1 := by rw [e1]; simp; omega
      cases ts with
      | nil => exact hgood.elim
      | cons x r =>
        have hl := places_loop L hL r x 0 [] [] hgood (by simp at hlen ⊢; omega) (by simp)
        rw [List.nil_append, List.nil_append, List.length_nil, show ((0 : Nat) : Int) = 0 from rfl] at hl
        have hB : (B [] : ByteArray) = ⟨#[]⟩ := rfl
        rw [hB] at hl
        rw [goLp_of hl, F4.behind0x0, B_size, B_list]
        by_cases hw : (wideL (x :: r)).length ≤ 65536
        · rw [if_neg (by simp; omega), Nat.ble_eq_true_of_le hw]
          obtain ⟨vs, h1, h2⟩ := wide_toks L r x 0 hgood ((wideL (x :: r)).length + 1) (blankL (wideL (x :: r))) (by omega)
          have ht2 : tokS (wideL (x :: r)) = .inr vs := h1
          rw [ht2]
          simp only [List.length_map]
          have hlv : vs.length = (x :: r).length := by have := congrArg List.length h2; simpa using this
          rw [hlv, if_neg (by simp)]
          have := same_loop (x :: r) vs h2 (x :: r).length 0 (by omega) (by omega)
          rw [show ((0 : Nat) : Int) = 0 from rfl] at this
          rw [goLp_of this, F4.behind1x2]
        · rw [if_pos (by simp; omega)]
  · rw [if_pos (by simp; omega)]
theorem valid_places (s : ByteArray) : Valid glS Tryd.prog 4 [.d true 0 (.str s)] [.d false 0 (.bool true)] [] := valid_of env30 mixed Tryd.func4 (by kernel_rfl) (places s _)
end Go.Sd

namespace Go.Sd
open Go Go.Cm Go.Proofs Go.Sc
set_option maxRecDepth 100000

def isW (c : UInt8) : Bool := may1 (kindI c.toNat)
theorem isW_iff (c : UInt8) : isW c = true ↔ (97 ≤ (c.toNat : Int) ∧ (c.toNat : Int) ≤ 122) ∨ (65 ≤ (c.toNat : Int) ∧ (c.toNat : Int) ≤ 90) ∨ (48 ≤ (c.toNat : Int) ∧ (c.toNat : Int) ≤ 57) ∨ (c.toNat : Int) = 95 := by
  have hm : isW c = true ↔ (letB (c.toNat : Int) = true ∨ figB (c.toNat : Int) = true) := by
    unfold isW
    rw [letB_kind, figB_kind]; simp [may1]
  rw [hm]
  simp only [letB, figB, Bool.or_eq_true, beq_iff_eq, decide_eq_true_eq]
  omega
theorem names_round (L : T8) (hL : L.length ≤ 200) (n : Int) (w : T8) (hw : w.length ≤ 1000) (i : Nat) (hi : i < L.length) (c : UInt8) (hc : L[i]? = some c) (hd : L.drop i = c :: L.drop (i + 1)) :
    F6.L0 (F6.s0 (B L) n (B w) i) = some (.inl (F6.s0 (B L) n (B (if isW c = true then w ++ [c] else w)) ((i + 1 : Nat)))) := by
  refine (F6.round0 _ _ _ _).trans ?_
  have ex : (B L).extract i (i + 1) = B [c] := by rw [B_cut, show i + 1 - i = 1 by omega, hd]; rfl
  rw [B_size, if_pos (by simp; omega), if_pos (by omega), Int.toNat_natCast, B_get, hc, w1 (n := 0) (by omega)]
  simp only [Int.toNat_natCast, ex, B_size, B_app, List.length_singleton]
  have hq : (0 : Int) ≤ ((i + 1 : Nat) : Int) ∧ ((i + 1 : Nat) : Int) ≤ (L.length : Int) ∧ (0 : Int) ≤ (i : Int) ∧ (i : Int) ≤ ((i + 1 : Nat) : Int) := by omega
  simp only [if_pos hq, if_pos (show w.length + 1 ≤ 9223372036854775807 by omega)]
  have hiff := isW_iff c
  by_cases hW : isW c = true
  · rw [if_pos hW]
    rw [hiff] at hW
    simp only [decide_eq_true_eq, beq_iff_eq]
    repeat' split
    all_goals first
      | rfl
      | (exfalso; omega)
  · rw [if_neg hW]
    rw [hiff] at hW
    simp only [decide_eq_true_eq, beq_iff_eq]
    repeat' split
    all_goals first
      | rfl
      | (exfalso; omega)
theorem names_loop (L : T8) (hL : L.length ≤ 200) (n : Int) : ∀ (k i : Nat) (w : T8), i + k = L.length → w.length ≤ i + 1 →
    Lp F6.L0 (F6.s0 (B L) n (B w) i) = some (.exit 0, F6.e0x0 n (B (w ++ (L.drop i).filter isW)))
  | 0, i, w, h, hw => by
    have hr := F6.round0 (B L) n (B w) i
    rw [B_size, if_neg (by simp; omega)] at hr
    rw [List.drop_eq_nil_of_le (by omega), List.filter_nil, List.append_nil]
    exact Lp_exit hr
  | k + 1, i, w, h, hw => by
    obtain ⟨c, hc, hd⟩ := drop_at (L := L) (i := i) (by omega)
    have hr := names_round L hL n w (by omega) i (by omega) c hc hd
    have ih := names_loop L hL n k (i + 1) (if isW c = true then w ++ [c] else w) (by omega) (by split <;> (try simp) <;> omega)
    refine Lp_step hr ?_
    rw [ih, hd, List.filter_cons]
    by_cases hW : isW c = true
    · rw [if_pos hW, if_pos hW, List.append_assoc]; rfl
    · rw [if_neg hW, if_neg hW]

/-- A number's digits. -/
def decL : Nat → Nat → T8
  | 0, k => [UInt8.ofNat (48 + k % 10)]
  | f + 1, k => if k < 10 then [UInt8.ofNat (48 + k % 10)] else decL f (k / 10) ++ [UInt8.ofNat (48 + k % 10)]
theorem dig_nat (k : Nat) : (UInt8.ofNat (48 + k % 10)).toNat = 48 + k % 10 := by
  rw [UInt8.toNat_ofNat']; omega
theorem decL_digits : ∀ (f k : Nat), digitsL (decL f k)
  | 0, k => by intro c hc; simp only [decL, List.mem_singleton] at hc; subst hc; rw [dig_nat]; omega
  | f + 1, k => by
    intro c hc
    simp only [decL] at hc
    split at hc
    · simp only [List.mem_singleton] at hc; subst hc; rw [dig_nat]; omega
    · rw [List.mem_append, List.mem_singleton] at hc
      rcases hc with hc | rfl
      · exact decL_digits f (k / 10) c hc
      · rw [dig_nat]; omega
theorem decL_len : ∀ (f k : Nat), 1 ≤ (decL f k).length ∧ (decL f k).length ≤ f + 1
  | 0, k => by simp [decL]
  | f + 1, k => by
    simp only [decL]
    split
    · simp
    · have := decL_len f (k / 10)
      simp; omega
theorem valI_app : ∀ (l : T8) (c : UInt8) (n : Int), valI (l ++ [c]) n = match valI l n with | some m => valI [c] m | none => none
  | [], c, n => rfl
  | x :: r, c, n => by
    rw [List.cons_append]
    simp only [valI]
    split
    · rfl
    · rw [valI_app r c]; rfl
theorem valI_one (k : Nat) (m : Nat) (hm : m ≤ 1000000000) : valI [UInt8.ofNat (48 + k % 10)] m = some ((10 * m + k % 10 : Nat) : Int) := by
  simp only [valI]
  rw [dig_nat, Int.tdiv_eq_ediv_of_nonneg (by omega), if_neg (by omega)]
  congr 1
  omega
theorem decL_val : ∀ (f k : Nat), k < 10 ^ (f + 1) → k ≤ 4294967295 → valI (decL f k) 0 = some (k : Int)
  | 0, k, h, h2 => by
    have h : k < 10 := by simpa using h
    simp only [decL]
    have := valI_one k 0 (by omega)
    rw [show ((0 : Nat) : Int) = 0 from rfl] at this
    rw [this]; congr 1; omega
  | f + 1, k, h, h2 => by
    simp only [decL]
    split
    · have := valI_one k 0 (by omega)
      rw [show ((0 : Nat) : Int) = 0 from rfl] at this
      rw [this]; congr 1; omega
    · have hk : k / 10 < 10 ^ (f + 1) := by
        rw [Nat.pow_succ] at h
        exact Nat.div_lt_of_lt_mul (by omega)
      rw [valI_app, decL_val f (k / 10) hk (by omega)]
      simp only
      rw [valI_one k (k / 10) (by omega)]
      congr 1; omega
theorem wrap_u32 {n : Int} (h1 : 0 ≤ n) (h2 : n < 4294967296) : IntKind.wrap .u32 n = n := by
  have e : (2 : Int) ^ (IntKind.bits .u32) = 4294967296 := rfl
  have e2 : IntKind.signed .u32 = false := rfl
  simp only [IntKind.wrap, e, e2, Bool.false_and, Bool.false_eq_true, if_false]
  omega
theorem byte_of (k : Nat) : UInt8.ofNat (Int.toNat (IntKind.wrap .u8 (IntKind.wrap .u32 (48 + Int.tmod (k : Int) 10)))) = UInt8.ofNat (48 + k % 10) := by
  rw [Int.tmod_eq_emod_of_nonneg (by omega), wrap_u32 (by omega) (by omega), wrap_u8 (by omega) (by omega)]
  congr 1
theorem digs_loop (n : Int) (x : ByteArray) : ∀ (f k : Nat) (ds : T8) (b : Bool), k < 10 ^ (f + 1) → k ≤ 4294967295 → ds.length + f ≤ 100 →
    Lp F6.L1 (F6.s1 n (B ds) b k x) = some (.exit 2, F6.e1x2 n x (B (decL f k ++ ds)))
  | f, k, ds, b, h, h2, h3 => by
    have hr := F6.round1 n (B ds) b k x
    rw [byte_of] at hr
    have e1 : (⟨#[UInt8.ofNat (48 + k % 10)]⟩ : ByteArray) = B [UInt8.ofNat (48 + k % 10)] := rfl
    rw [e1, B_app, B_size, B_size, if_pos (by simp; omega)] at hr
    by_cases hk : k < 10
    · rw [if_pos (by simp; omega)] at hr
      have : decL f k = [UInt8.ofNat (48 + k % 10)] := by cases f <;> simp [decL, hk]
      rw [this]
      exact Lp_exit hr
    · rw [if_neg (by simp; omega)] at hr
      have w : IntKind.wrap .u32 (Int.tdiv (k : Int) 10) = ((k / 10 : Nat) : Int) := by
        rw [Int.tdiv_eq_ediv_of_nonneg (by omega), wrap_u32 (by omega) (by omega)]; omega
      rw [w] at hr
      cases f with
      | zero => simp at h; omega
      | succ f =>
        have hk2 : k / 10 < 10 ^ (f + 1) := by
          rw [Nat.pow_succ] at h
          exact Nat.div_lt_of_lt_mul (by omega)
        have ih := digs_loop n x f (k / 10) ([UInt8.ofNat (48 + k % 10)] ++ ds) false hk2 (by omega) (by simp; omega)
        refine Lp_step hr (ih.trans ?_)
        simp only [decL, if_neg hk, List.append_assoc]

theorem takeWhile_every {p : UInt8 → Bool} : ∀ (l : T8), (∀ c ∈ l, p c = true) → ∀ (r : T8), (∀ c ∈ r.head?, p c = false) → (l ++ r).takeWhile p = l
  | [], _, [], _ => rfl
  | [], _, c :: r, h => by
    rw [List.nil_append, List.takeWhile_cons, if_neg (by simpa using h c rfl)]
  | x :: l, h, r, h2 => by
    rw [List.cons_append, List.takeWhile_cons, if_pos (h x (.head _)), takeWhile_every l (fun c hc => h c (.tail _ hc)) r h2]
theorem names_toks (w ds : T8) (hw : ∀ c ∈ w, isW c = true) (hd : digitsL ds) (hl : 1 ≤ ds.length) (m : Int) (hv : valI ds 0 = some m) :
    tokS (97 :: w ++ 32 :: ds) = .inr [(1, 97 :: w, 0), (2, ds, w.length + 2), (0, [], w.length + 2 + ds.length)] := by
  have b0 : blankL (97 :: w ++ 32 :: ds) = 0 := blank0 _ _ rfl rfl
  have r1 : runL may1 (97 :: w ++ 32 :: ds) = w.length + 1 := by
    unfold runL
    rw [takeWhile_every (97 :: w) (fun c hc => by
      rcases List.mem_cons.1 hc with rfl | hc
      · decide
      · exact hw c hc) (32 :: ds) (fun c hc => by simp at hc; subst hc; decide)]
    rfl
  have o1 : oneL (97 :: w ++ 32 :: ds) = .inr (1, 97 :: w, w.length + 1) := by
    rw [oneL_eq (show 97 :: w ++ 32 :: ds = 97 :: (w ++ 32 :: ds) from rfl), if_pos (by decide), r1]
    have : (97 :: w ++ 32 :: ds).take (w.length + 1) = 97 :: w := List.take_left' (by simp)
    rw [this]
  have d1 : (97 :: w ++ 32 :: ds).drop (w.length + 1) = 32 :: ds := List.drop_left' (by simp)
  cases hds : ds with
  | nil => rw [hds] at hl; simp at hl
  | cons c r =>
    rw [← hds]
    have hc := hd c (by rw [hds]; exact .head _)
    have hk2 : kindI c.toNat = 2 := (figB_kind c).1 (by unfold figB; simp; omega)
    have hnw : isWs c = false := by
      cases hh : isWs c with
      | false => rfl
      | true =>
        simp only [isWs, Bool.or_eq_true, beq_iff_eq] at hh
        rcases hh with ((rfl | rfl) | rfl) | rfl <;> (exfalso; revert hc; decide)
    have hns : (c == 47) = false := by
      cases hh : (c == 47) with
      | false => rfl
      | true => rw [beq_iff_eq] at hh; subst hh; exfalso; revert hc; decide
    have b1 : blankL (32 :: ds) = 1 := by rw [blankL_ws _ _ rfl, hds, blank0 c r hnw hns]
    have r2 : runL may2 ds = ds.length := by
      unfold runL
      have := takeWhile_every (p := fun c => may2 (kindI c.toNat)) ds (fun x hx => by
        have hx := hd x hx
        have : kindI x.toNat = 2 := (figB_kind x).1 (by unfold figB; simp; omega)
        simp [this, may2]) [] (by simp)
      rw [List.append_nil] at this
      rw [this]
    have o2 : oneL ds = .inr (2, ds, ds.length) := by
      rw [oneL_eq hds, if_neg (by rw [hk2]; decide), if_pos hk2, r2, List.take_length, hv]
      rfl
    unfold tokS
    rw [b0, List.drop_zero]
    have e0 : (97 :: w ++ 32 :: ds : T8) = 97 :: (w ++ 32 :: ds) := rfl
    obtain ⟨N, hN⟩ : ∃ N, (97 :: w ++ 32 :: ds).length = N + 2 := ⟨(97 :: w ++ 32 :: ds).length - 2, by simp; omega⟩
    have st : ∀ {n p : Nat} {l r : T8} {c : UInt8}, l = c :: r → toksL (n + 1) l p = (match oneL l with
      | .inl e => .inl (e, p)
      | .inr (k, t, m) => match toksL n ((l.drop m).drop (blankL (l.drop m))) (p + m + blankL (l.drop m)) with
        | .inl e => .inl e
        | .inr r => .inr ((k, t, p) :: r)) := fun h => by subst h; rfl
    rw [hN, st e0, o1]
    simp only [d1, b1, List.drop_succ_cons, List.drop_zero]
    rw [st hds, o2]
    simp only [List.drop_length, blankL_nil, List.drop_nil]
    have : toksL (N + 1) [] (0 + (w.length + 1) + 1 + ds.length + 0) = .inr [(0, [], w.length + 2 + ds.length)] := by
      show (Sum.inr [_] : (Int × Nat) ⊕ List Tok) = _
      congr 4; omega
    rw [this]
    simp only
    congr 3
    congr 2
    omega
theorem names (s : ByteArray) (k : Nat) (hk : k ≤ 4294967295) {γ : Type} (q : List TV → List TV → Option γ) :
    evalF Tryd.prog E30 Tryd.f6 [.d true 0 (.str s), .d true 0 (.int .u32 k)] q = q [.d false 0 (.bool true)] [] := by
  rw [F6.start]
  rw [B_of s]
  generalize s.data.toList = L
  rw [B_size]
  by_cases hL : L.length ≤ 200
  · rw [if_neg (by simp; omega)]
    have e97 : (⟨#[97]⟩ : ByteArray) = B [97] := rfl
    have h0 := names_loop L hL k L.length 0 [97] (by omega) (by simp)
    rw [show ((0 : Nat) : Int) = 0 from rfl, List.drop_zero] at h0
    rw [e97, goLp_of h0, F6.behind0x0]
    have e0 : (⟨#[]⟩ : ByteArray) = B [] := rfl
    have h1 := digs_loop k (B ([97] ++ L.filter isW)) 9 k [] true (by omega) hk (by simp)
    rw [e0, goLp_of h1, F6.behind1x2, List.append_nil]
    have e32 : (⟨#[32]⟩ : ByteArray) = B [32] := rfl
    have hf := List.length_filter_le isW L
    have hdl := decL_len 9 k
    have hv := decL_val 9 k (by omega) hk
    have ht := names_toks (L.filter isW) (decL 9 k) (fun c hc => (List.mem_filter.1 hc).2) (decL_digits 9 k) hdl.1 k hv
    have ea : ([97] ++ L.filter isW) ++ [32] ++ decL 9 k = 97 :: L.filter isW ++ 32 :: decL 9 k := by simp
    rw [e32]
    simp only [B_app, B_size, B_list, ea]
    rw [if_pos (by simp; omega), if_pos (by simp; omega), Nat.ble_eq_true_of_le (by simp; omega), ht]
    have hsm : small (B (decL 9 k)) ∧ digitsL (decL 9 k) := ⟨by unfold small; rw [B_size]; omega, decL_digits 9 k⟩
    have hw : IntKind.wrap .i64 (k : Int) = k := wrap_id (by omega) (by omega)
    simp [tokT, B_list, hsm, hv, hw]
  · rw [if_pos (by simp; omega)]
theorem valid_names (s : ByteArray) (k : Nat) (hk : k ≤ 4294967295) : Valid glS Tryd.prog 6 [.d true 0 (.str s), .d true 0 (.int .u32 k)] [.d false 0 (.bool true)] [] :=
  valid_of env30 mixed Tryd.func6 (by kernel_rfl) (names s k hk _)
end Go.Sd

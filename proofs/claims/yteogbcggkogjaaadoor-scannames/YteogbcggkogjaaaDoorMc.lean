/- The clean machine, part 24: calls. -/
import Derived.Test.YteogbcggkogjaaaDoorMb
import Derived.Orders
import Derived.Laws.Externs
set_option linter.unusedVariables false
set_option linter.unusedSimpArgs false
namespace Go.Cm
section
variable {w0 : World} {M0 : Io} {L L' : Lay} {s s' : S} {tmps tmps' : List Value} {w w' : World} {β : Type} {P : Program}

/-- What may be leant on when a call begins, and when it ends. -/
def Fin (w : World) (M : List Nat) (g : Nat → Prop) : Fr := fun t b => b < w.heap.size ∧ b ∉ M ∧ t = true ∧ g b
def Fout (w w' : World) (M M' : List Nat) (g : Nat → Prop) : Fr := fun t b => b < w'.heap.size ∧ b ∉ M' ∧ ((t = true ∧ g b) ∨ w.heap.size ≤ b ∨ b ∈ M)
structure Back (w w' : World) (M : List Nat) (g : Nat → Prop) (args : List TV) (us : List Value) (res outs : List TV) (rs : List Value) (M' : List Nat) : Prop where
  len : rs.length = res.length
  rt : RTs (hp w') (Fout w w' M M' g) (res ++ outs) (rs ++ ioVals args us) M'
  nodup : M'.Nodup
  mem : ∀ b ∈ M', b ∈ M ∨ (w.heap.size ≤ b ∧ b < w'.heap.size)
  size : w.heap.size ≤ w'.heap.size
  old : ∀ b, b < w.heap.size → b ∉ M → w'.heap[b]? = w.heap[b]?
  os : w'.os = w.os
  tape : w'.tape = w.tape
  output : w'.output = w.output
/-- A call, be the function one with a body or one that the model sets down. -/
def Runs (P : Program) (f : FuncId) (args : Array Value) (w : World) (R : Ending → World → Prop) : Prop :=
  match (callFunc f args).run P w with
  | .ok (.enter g as) w' => Calls P g as w' R
  | .ok (.value v) w' => R (.returned v) w'
  | _ => False
theorem Runs.mono {f : FuncId} {args : Array Value} {R R' : Ending → World → Prop} (h : Runs P f args w R) (hr : ∀ e w', R e w' → R' e w') : Runs P f args w R' := by
  unfold Runs at *
  split at h
  · exact Calls.mono h hr
  · exact hr _ _ h
  · exact h.elim
theorem Runs.of_calls {f : FuncId} {fn : Func} {args : Array Value} {R : Ending → World → Prop} (hf : P.funcs[f]? = some fn) (hn : (fn.name == "runtime.NumGoroutine") = false) (hb : fn.body.isSome = true)
    (h : Calls P f args w R) : Runs P f args w R := by
  have hb' : fn.body.isNone = false := by cases hx : fn.body <;> simp [hx] at hb ⊢
  have : (callFunc f args).run P w = .ok (.enter f args) w := by
    simp only [callFunc, Sem.run_bind, run_program, Result.andThen, hf, hn, hb', Bool.false_eq_true, if_false, Sem.run_pure]
  unfold Runs
  rw [this]
  exact h
/-- What package-level variables hold: of blocks that nobody writes. -/
structure Gl where
  G : World → Prop
  bs : Nat → Prop
  lt : ∀ w b, G w → bs b → b < w.heap.size
  stays : ∀ w w', (∀ b, bs b → w'.heap[b]? = w.heap[b]?) → G w → G w'
def Gl.none : Gl := ⟨fun _ => True, fun _ => False, fun _ _ _ h => h.elim, fun _ _ _ h => h⟩
def GlOk (gl : Gl) (w : World) (m : Nat → Prop) : Prop := gl.G w ∧ ∀ b, gl.bs b → ¬ m b
/-- Called with these, the function answers so, and hands these back. -/
def Valid (gl : Gl) (P : Program) (f : FuncId) (args res outs : List TV) : Prop :=
  ∀ (w : World) (us : List Value) (M : List Nat) (g : Nat → Prop), GlOk gl w (fun b => b ∈ M) → RTs (hp w) (Fin w M g) args us M → M.Nodup →
    Runs P f us.toArray w fun e w' => ∃ rs M', e = .returned (outVal rs) ∧ Back w w' M g args us res outs rs M'
/-- What is known of functions is so. -/
def EnvOk (gl : Gl) (P : Program) (E : Env) : Prop :=
  ∀ (β : Type) (f : FuncId) (args : List TV) (k : List TV → List TV → Option β) (r : β), E.c f args k = some r → ∃ res outs, k res outs = some r ∧ Valid gl P f args res outs
structure EnvAt (gl : Gl) (P : Program) (E : Env) (w0 : World) (M0 : Io) : Prop where
  env : EnvOk gl P E
  glo : GlOk gl w0 M0.m
theorem Rel.glo {gl : Gl} (R : Rel w0 M0 L s tmps w) (h : GlOk gl w0 M0.m) (ks : List Key) : GlOk gl w (fun b => b ∈ blks L ks) := by
  refine ⟨gl.stays w0 w (fun b hb => R.old b (gl.lt _ _ h.1 hb) (h.2 b hb)) h.1, fun b hb hm => ?_⟩
  obtain ⟨k, _, hd, e1, e2⟩ := mem_blks.1 hm
  have := gl.lt _ _ h.1 hb
  have := (R.own k hd e1).2
  rw [e2] at this
  rcases this with h1 | h1
  · exact h.2 b hb h1
  · omega

theorem argEs_vals (io : Nat → Bool) : ∀ (j : Nat) (vs : List V) (Ts : List TypeId), (argEs io j vs Ts).map (·.2.1) = vs
  | _, [], _ => rfl
  | j, v :: vs, Ts => by simp [argEs, argEs_vals io (j + 1) vs Ts.tail]
theorem anyTainted_append : ∀ (a b : List TV), anyTainted (a ++ b) = (anyTainted a || anyTainted b)
  | [], b => by simp [anyTainted]
  | x :: xs, b => by simp [anyTainted, anyTainted_append xs b, Bool.or_assoc]
theorem withBitL_append (u : Bool) : ∀ (a b : List TV), TV.withBitL u (a ++ b) = TV.withBitL u a ++ TV.withBitL u b
  | [], b => by simp [TV.withBitL]
  | x :: xs, b => by simp [TV.withBitL, withBitL_append u xs b]
theorem withBitL_length (u : Bool) : ∀ (a : List TV), (TV.withBitL u a).length = a.length
  | [] => rfl
  | x :: xs => by simp [TV.withBitL, withBitL_length u xs]
theorem blks_congr {ks : List Key} (h : ∀ k ∈ ks, L'.k k = L.k k) : blks L' ks = blks L ks := by
  induction ks with
  | nil => rfl
  | cons k ks ih =>
    simp only [blks, List.filterMap_cons, h k (.head _)]
    have := ih fun k hk => h k (.tail _ hk)
    simp only [blks] at this
    rw [this]

theorem callK_ok {gl : Gl} {E : Env} (hE : EnvAt gl P E w0 M0) (R : Rel w0 M0 L s tmps w) {vs : List V} {us : List Value} (hv : RWL L (hp w) (Fz w0 M0 L w) vs us) {f : FuncId} {Ts : List TypeId} {dst : Option Tmp} {k : S → Option β} {r : β}
    (h : callK P E s dst f vs Ts k = some r) :
    Runs P f us.toArray w fun e w' => ∃ v L' s', e = .returned v ∧ Rel w0 M0 L' s' (putT tmps dst v) w' ∧ k s' = some r := by
  unfold callK at h
  have hrws : RWs L (hp w) (Fz w0 M0 L w) (argEs (E.io f) 0 vs Ts) us := RWs.of_rwl (by rw [argEs_vals]; exact hv)
  obtain ⟨u, tvs, ks, s1, L1, Hd, h1⟩ := hand_ok R hrws h
  obtain ⟨res, outs, h2, hval⟩ := hE.env _ _ _ _ _ h1
  have hargs : RTs (hp w) (Fin w (blks L1 ks) (Fz w0 M0 L1 w u)) (tvs.map TV.arg) us (blks L1 ks) := by
    refine RTs.arg (F := Fz w0 M0 L1 w) (b := u) (G := Fin w (blks L1 ks) (Fz w0 M0 L1 w u) true) (fun c hc => ⟨hc.1, fun hm => ?_, rfl, hc⟩) (fun t c hc ht => ?_) rfl tvs us _ Hd.bits Hd.rt
    · obtain ⟨k', _, h', e1, e2⟩ := mem_blks.1 hm
      exact hc.2.1 k' h' e1 e2
    · cases t with
      | true => rw [ht rfl]; exact hc
      | false => simpa using hc.or u
  have hsame := blks_congr Hd.same
  refine (hval w us (blks L1 ks) (Fz w0 M0 L1 w u) (Hd.rel.glo hE.glo ks) hargs Hd.nodup).mono fun e w' => ?_
  rintro ⟨rs, M', rfl, B⟩
  have hk0 : ∀ j, Key.ob j ∈ ks → j ≠ 0 := by
    intro j hj
    rcases Hd.keys _ hj with ⟨j', agg, cells, e, hf, hlt⟩ | ⟨_, _, _, _, _, e, _⟩
    · cases e; exact (Hd.rel.rows _ _ _ hf hlt).1
    · cases e
  have hk1 : ∀ j o, Key.pl j o ∈ ks → (∃ e ∈ argEs (E.io f) 0 vs Ts, e.1 = true ∧ e.2.1 = .bf j o) ∨ Key.ob j ∈ ks := by
    intro j o hj
    rcases Hd.keys _ hj with ⟨_, _, _, e, _⟩ | ⟨_, _, _, _, _, e, _, h3⟩
    · cases e
    · cases e; exact h3
  have hio := Hd.io
  cases ht : (anyTainted res || anyTainted outs) with
  | false =>
    rw [ht] at h2
    simp only at h2
    have C : Came w0 M0 L w w' ks M' (res ++ outs) (rs ++ pick (argEs (E.io f) 0 vs Ts) us) := by
      refine ⟨?_, B.nodup, fun b hb => by rw [← hsame]; exact B.mem b hb, B.size, fun b hb hn => B.old b hb (by rw [hsame]; exact hn), B.os, B.tape, B.output⟩
      rw [← hio]
      refine RTs.untaint (F := Fout w w' (blks L1 ks) M' (Fz w0 M0 L1 w u)) (fun c hc => ⟨hc.1, hc.2.1, ?_⟩) _ _ _ (by rw [anyTainted_append]; exact ht) B.rt
      rcases hc.2.2 with h | h | h
      · cases h.1
      · exact .inr (.inl h)
      · exact .inr (.inr (hsame ▸ h))
    obtain ⟨s', L', R', hk⟩ := afterK_ok R (RWs.length hrws) hrws.trues hk0 hk1 B.len C h2
    exact ⟨_, L', s', rfl, R', hk⟩
  | true =>
    rw [ht] at h2
    simp only at h2
    have C : Came w0 M0 L1 w w' ks M' (TV.withBitL u res ++ TV.withBitL u outs) (rs ++ pick (argEs (E.io f) 0 vs Ts) us) := by
      refine ⟨?_, B.nodup, B.mem, B.size, B.old, B.os, B.tape, B.output⟩
      rw [← hio, ← withBitL_append]
      refine RTs.withBit (F := Fout w w' (blks L1 ks) M' (Fz w0 M0 L1 w u)) (fun t c hc => ⟨hc.1, hc.2.1, ?_⟩) _ _ _ B.rt
      rcases hc.2.2 with h | h | h
      · rw [h.1, Bool.true_and]; exact .inl h.2
      · exact .inr (.inl h)
      · exact .inr (.inr h)
    obtain ⟨s', L', R', hk⟩ := afterK_ok Hd.rel (RWs.length hrws) Hd.trues hk0 hk1 (by rw [withBitL_length]; exact B.len) C h2
    exact ⟨_, L', s', rfl, R', hk⟩
end
end Go.Cm

namespace Go.Cm
section
variable {w0 : World} {M0 : Io} {L L' : Lay} {s s' : S} {tmps tmps' : List Value} {w w' : World} {β : Type} {P : Program} {a : Act} {Q : Exit → Act → World → Prop}

theorem RW.not_own {H : Hp} {F : Fr} {v : V} {u : Value} (h : RW L H F v u) : ∀ t sh xs, v ≠ .own t sh xs := by
  rintro t sh xs rfl; simp [RW] at h
theorem Rel.putD (R : Rel w0 M0 L s tmps w) {dst : Option Tmp} {v : V} {u : Value} (h : RW L (hp w) (Fz w0 M0 L w) v u) : Rel w0 M0 L (s.put dst v) (putT tmps dst u) w := by
  cases dst with
  | none => exact R
  | some t =>
    have : s.put (some t) v = s.putRow 0 t v := lay_else h.not_own
    rw [this]; exact R.put h
theorem put_tmps (a : Act) (dst : Option Tmp) (u : Value) : (a.put dst u).tmps.toList = putT a.tmps.toList dst u := by
  cases dst with
  | none => rfl
  | some t => simp [Act.put, putT]
theorem put_defers (a : Act) (dst : Option Tmp) (u : Value) : (a.put dst u).defers = a.defers := by cases dst <;> rfl

theorem openA_ok {T : TypeId} {x : D} {k : D → Option β} {r : β} (h : openA P T x k = some r) : k x = some r := by
  unfold openA at h
  split at h
  · split at h
    · split at h
      · rename_i e; subst e; exact h
      · cases h
    · cases h
  · split at h
    · exact h
    · cases h
  · split at h
    · exact h
    · cases h
  · split at h
    · split at h
      · split at h
        · rename_i e; subst e; exact h
        · cases h
      · cases h
    · exact h
  · split at h
    · split at h
      · exact h
      · split at h
        · rename_i e; subst e; exact h
        · cases h
      · cases h
    · exact h
  · split at h
    · exact h
    · exact h
    · cases h
  · exact h
theorem openC_ok : ∀ {Ts : List TypeId} {xs : List D} {k : List D → Option β} {r : β}, openC P Ts xs k = some r → k xs = some r
  | [], xs, k, r, h => by
    simp only [openC] at h
    split at h
    · exact h
    · cases h
  | T :: Ts, xs, k, r, h => by
    simp only [openC] at h
    split at h
    · rename_i x r'
      exact openC_ok (k := fun ys => k (x :: ys)) (openA_ok h)
    · cases h
theorem openK_ok {T : TypeId} {v : V} {k : V → Option β} {r : β} (h : openK P T v k = some r) : k v = some r := by
  unfold openK at h
  split at h
  · split at h
    · split at h
      · exact openC_ok h
      · cases h
    · exact h
    · exact openA_ok h
  · exact h
theorem atoms_ok {H : Hp} {F : Fr} : ∀ {vs : List V} {us ws : List Value}, RWL L H F vs us → vs.mapM atomOf = some ws → ws = us
  | [], us, ws, h, e => by simp only [RWL] at h; subst h; simpa using e.symm
  | v :: vs, us, ws, h, e => by
    simp only [RWL] at h
    obtain ⟨u, rest, rfl, h1, h2⟩ := h
    simp only [List.mapM_cons, Option.pure_def, Option.bind_eq_bind, Option.bind_eq_some_iff] at e
    obtain ⟨x, hx, ys, hys, e⟩ := e
    cases e
    rw [atomOf_ok hx h1, atoms_ok h2 hys]
theorem minMaxK_ok {H : Hp} {F : Fr} {b : Builtin} {ats : List TypeId} {T : TypeId} {vs : List V} {us : List Value} (hv : RWL L H F vs us) {k : V → Option β} {r : β} (h : minMaxK P b ats T vs k = some r) :
    ∃ v u, RW L H F v u ∧ k v = some r ∧ ∀ w, (match b with | .min => Builtin.min_ ats.toArray T us.toArray | .max => Builtin.max_ ats.toArray T us.toArray | _ => stuck "").run P w = .ok u w := by
  unfold minMaxK at h
  split at h
  · rename_i ws hw
    have := atoms_ok hv hw
    subst this
    split at h
    · exact atomK_ok h
    · exact atomK_ok h
    · cases h
  · cases h

/-- The value of an operation that leaves the memory as it is. -/
theorem quiet_ok {E : Env} {o : Oper} (hq : quiet o.op = true) (R : Rel w0 M0 L s a.tmps.toList w) {k : S → Option β} {r : β} (h : stepK P E o s k = some r) :
    ∃ u s' L', (execOp a.eval o).run P w = .ok (.value u) w ∧ Rel w0 M0 L' s' (putT a.tmps.toList o.dst u) w ∧ k s' = some r := by
  obtain ⟨dst, op, type, pos, after, guard⟩ := o
  have done : ∀ {v : V} {u : Value}, RW L (hp w) (Fz w0 M0 L w) v u → k (s.put dst v) = some r → (execOp a.eval ⟨dst, op, type, pos, after, guard⟩).run P w = .ok (.value u) w →
      ∃ u s' L', (execOp a.eval ⟨dst, op, type, pos, after, guard⟩).run P w = .ok (.value u) w ∧ Rel w0 M0 L' s' (putT a.tmps.toList dst u) w ∧ k s' = some r :=
    fun hv hk hrun => ⟨_, _, L, hrun, R.putD hv, hk⟩
  have vrun : ∀ {x : Sem Value} {u : Value}, x.run P w = .ok u w → (do pure (Next.value (← x)) : Sem Next).run P w = .ok (.value u) w := by
    intro x u hx
    simp only [Sem.run_bind, hx, Result.andThen, Sem.run_pure]
  cases op <;> simp only [quiet, Bool.false_eq_true] at hq <;> simp only [stepK] at h
  case move x =>
    obtain ⟨v, hv, h⟩ := rdK_ok R rfl h
    exact done hv h rfl
  case assign x =>
    obtain ⟨v, hv, h1⟩ := rdK_ok R rfl h
    clear h
    cases dst with
    | none => simp at h1
    | some t =>
      simp only at h1
      split at h1
      · rename_i v0 hv0
        obtain ⟨v', s', hk, hs⟩ := sinkK_ok R hv h1
        obtain ⟨L', R', _⟩ := hs _ w (.tm t (tm_lt R hv0))
        exact ⟨_, _, L', rfl, R', hk⟩
      · cases h1
  case pick c x y =>
    obtain ⟨vc, hvc, h1⟩ := rdK_ok R rfl h
    obtain ⟨vx, hvx, h2⟩ := rdK_ok R rfl h1
    obtain ⟨vy, hvy, h3⟩ := rdK_ok R rfl h2
    clear h h1 h2
    have h := h3
    clear h3
    split at h
    · rename_i t sh b
      simp only [RW, RA] at hvc
      have hrun : (execOp a.eval ⟨dst, .pick c x y, type, pos, after, guard⟩).run P w = .ok (.value (if b = true then a.eval x else a.eval y)) w := by
        simp only [execOp, hvc.2, asBool, Sem.run_bind, Sem.run_pure, Result.andThen]
      split at h
      · rename_i ta sa ba tb sb bb
        simp only [RW, RA] at hvx hvy
        refine done (v := .d (ta || tb) 0 (.bool (if b = true then ba else bb))) ?_ h hrun
        simp only [RW, RA, hvx.2, hvy.2]
        exact ⟨rfl, by split <;> rfl⟩
      · split at h
        · rename_i hb
          refine done hvx h (hrun.trans ?_)
          rw [if_pos hb]
        · rename_i hb
          refine done hvy h (hrun.trans ?_)
          rw [if_neg hb]
    · cases h
  case load T x =>
    obtain ⟨vx, hvx, h⟩ := rdK_ok R rfl h
    obtain ⟨v, u, hv, hk, hrun⟩ := loadK_ok R hvx h
    have hk := openK_ok hk
    exact done hv hk (vrun hrun)
  case nilCheck x =>
    obtain ⟨vx, hvx, h⟩ := rdK_ok R rfl h
    split at h
    · refine done hvx h ?_
      simp only [RW] at hvx
      obtain ⟨hd, _, e⟩ := hvx
      simp only [execOp, e, Sem.run_pure]
    · refine done hvx h ?_
      simp only [RW] at hvx
      obtain ⟨hd, _, _, e⟩ := hvx
      simp only [execOp, e, Sem.run_pure]
    · refine done hvx h ?_
      simp only [RW, RA] at hvx
      obtain ⟨_, ad, _, e, _⟩ := hvx
      simp only [execOp, e, Sem.run_pure]
    · cases h
  case binOp op T x y T2 =>
    obtain ⟨vx, hvx, h⟩ := rdK_ok R rfl h
    obtain ⟨vy, hvy, h⟩ := rdK_ok R rfl h
    obtain ⟨v, u, hv, hk, hrun⟩ := binK_ok R hvx hvy h
    exact done hv hk (vrun hrun)
  case unOp op T x =>
    obtain ⟨vx, hvx, h⟩ := rdK_ok R rfl h
    split at h
    · rename_i ux hux
      obtain ⟨v, u, hv, hk, hrun⟩ := atomK_ok h
      have := atomOf_ok hux hvx
      exact done hv hk (vrun (by rw [this]; exact hrun w))
    · cases h
  case convert S D x =>
    obtain ⟨vx, hvx, h⟩ := rdK_ok R rfl h
    obtain ⟨v, u, hv, hk, hrun⟩ := convK_ok R hvx h
    exact done hv hk (vrun hrun)
  case slice T x lo hi mx =>
    cases mx with
    | some m => simp at h
    | none =>
      simp only at h
      obtain ⟨vx, hvx, h⟩ := rdK_ok R rfl h
      cases lo with
      | none =>
        cases hi with
        | none =>
          obtain ⟨v, u, hv, hk, hrun⟩ := sliceK_ok R hvx (lo := none) (hi := none) (ulo := none) (uhi := none) trivial trivial h
          exact done hv hk (vrun hrun)
        | some hi =>
          obtain ⟨vh, hvh, h⟩ := rdK_ok R rfl h
          obtain ⟨v, u, hv, hk, hrun⟩ := sliceK_ok R hvx (lo := none) (hi := some vh) (ulo := none) (uhi := some (a.eval hi)) trivial hvh h
          exact done hv hk (vrun hrun)
      | some lo =>
        cases hi with
        | none =>
          obtain ⟨vl, hvl, h⟩ := rdK_ok R rfl h
          obtain ⟨v, u, hv, hk, hrun⟩ := sliceK_ok R hvx (lo := some vl) (hi := none) (ulo := some (a.eval lo)) (uhi := none) hvl trivial h
          exact done hv hk (vrun hrun)
        | some hi =>
          obtain ⟨vl, hvl, h⟩ := rdK_ok R rfl h
          obtain ⟨vh, hvh, h⟩ := rdK_ok R rfl h
          obtain ⟨v, u, hv, hk, hrun⟩ := sliceK_ok R hvx (lo := some vl) (hi := some vh) (ulo := some (a.eval lo)) (uhi := some (a.eval hi)) hvl hvh h
          exact done hv hk (vrun hrun)
  case fieldAddr T x f =>
    obtain ⟨vx, hvx, h⟩ := rdK_ok R rfl h
    obtain ⟨v, u, hv, hk, hrun⟩ := fieldAddrK_ok R hvx h
    exact done hv hk (vrun hrun)
  case field T x f =>
    obtain ⟨vx, hvx, h⟩ := rdK_ok R rfl h
    obtain ⟨v, u, hv, hk, hrun⟩ := fieldK_ok R hvx h
    have hk := openK_ok hk
    exact done hv hk (vrun hrun)
  case indexAddr T x ix =>
    obtain ⟨vx, hvx, h⟩ := rdK_ok R rfl h
    obtain ⟨vi, hvi, h⟩ := rdK_ok R rfl h
    obtain ⟨v, u, hv, hk, hrun⟩ := indexAddrK_ok R hvx hvi h
    exact done hv hk (vrun hrun)
  case index T x ix =>
    obtain ⟨vx, hvx, h⟩ := rdK_ok R rfl h
    obtain ⟨vi, hvi, h⟩ := rdK_ok R rfl h
    obtain ⟨v, u, hv, hk, hrun⟩ := indexK_ok R hvx hvi h
    have hk := openK_ok hk
    exact done hv hk (vrun hrun)
  case extract x ix =>
    obtain ⟨vx, hvx, h1⟩ := rdK_ok R rfl h
    clear h
    have h := h1
    clear h1
    split at h
    · rename_i vs
      simp only [RW] at hvx
      obtain ⟨us, e, hr⟩ := hvx
      split at h
      · rename_i v hv
        obtain ⟨u, hu, hr'⟩ := RWL.get hr hv
        refine done hr' h (vrun ?_)
        rw [e]
        simp [Instr.extract, hu]
      · cases h
    · cases h
  case build T parts =>
    obtain ⟨vs, hvs, h1⟩ := rdsK_ok R rfl h
    have hlen := RWL.length hvs
    simp only [List.length_map] at hlen
    obtain ⟨v, u, hv, hk, hrun⟩ := buildK_ok R (T := T) (parts := (parts.toList.map (·.1)).zip vs) (ps := parts.toList.map fun p => (p.1, a.eval p.2))
      (by rw [List.map_fst_zip (by simp [hlen]), List.map_map]; rfl)
      (by rw [List.map_snd_zip (by simp [hlen]), List.map_map]; rw [List.map_map] at hvs; exact hvs) h1
    refine done hv hk (vrun ?_)
    rw [← hrun]
    congr 2
    apply Array.ext'
    simp
  case makeFunc fn first captured =>
    cases fn with
    | func f =>
      simp only at h
      split at h
      · rename_i hf
        obtain ⟨vs, hvs, h1⟩ := rdsK_ok R rfl h
        have : first = #[] := by apply Array.ext'; simpa using hf
        subst this
        refine done (v := .fn f vs) (u := .func (.func f) #[] (captured.map a.eval)) ?_ h1 (vrun (by simp [Instr.makeFunc]))
        simp only [RW]
        exact ⟨captured.toList.map a.eval, by congr 1; apply Array.ext'; simp, hvs⟩
      · cases h
    | _ => simp at h
  case call c =>
    obtain ⟨callee, args, argTypes⟩ := c
    cases callee <;> simp only [Bool.false_eq_true] at hq
    rename_i b
    have ar : ∀ {α γ : Type} {f : α → γ} {xs : Array α} {l : List α}, xs.toList = l → xs.map f = (l.map f).toArray := by
      intro α γ f xs l hx; rw [← hx]; apply Array.ext'; simp
    cases b <;> simp only [Bool.false_eq_true] at hq <;> simp only at h
    case len =>
      split at h
      · rename_i x hx
        split at h
        · rename_i T hT
          obtain ⟨vx, hvx, h1⟩ := rdK_ok R rfl h
          obtain ⟨v, u, hv, hk, hrun⟩ := lenK_ok R hvx (ty := type) h1
          have e2 : argTypes = #[T] := by apply Array.ext'; simpa using hT
          subst e2
          refine done hv hk ?_
          simp only [execOp, resolve, invoke, builtin, Sem.run_bind, Sem.run_pure, Result.andThen, ar hx]
          have hl : (List.map a.eval [x]).toArray = #[a.eval x] := rfl
          rw [hl, hrun]
        · cases h
      · cases h
    case min =>
      obtain ⟨vs, hvs, h1⟩ := rdsK_ok R rfl h
      obtain ⟨v, u, hv, hk, hrun⟩ := minMaxK_ok (L := L) (H := hp w) (F := Fz w0 M0 L w) hvs h1
      refine done hv hk ?_
      simp only [execOp, resolve, invoke, builtin, Sem.run_bind, Sem.run_pure, Result.andThen, ar (f := a.eval) (xs := args) rfl]
      rw [hrun w]
    case max =>
      obtain ⟨vs, hvs, h1⟩ := rdsK_ok R rfl h
      obtain ⟨v, u, hv, hk, hrun⟩ := minMaxK_ok (L := L) (H := hp w) (F := Fz w0 M0 L w) hvs h1
      refine done hv hk ?_
      simp only [execOp, resolve, invoke, builtin, Sem.run_bind, Sem.run_pure, Result.andThen, ar (f := a.eval) (xs := args) rfl]
      rw [hrun w]
end
end Go.Cm

namespace Go.Cm
section
variable {w0 : World} {M0 : Io} {L L' : Lay} {s s' : S} {tmps tmps' : List Value} {w w' : World} {β : Type} {P : Program} {a : Act} {Q : Exit → Act → World → Prop}

/-- Behind an operation. -/
def Next' (w0 : World) (M0 : Io) (a : Act) (k : S → Option β) (r : β) : Act → World → Prop :=
  fun a' w' => ∃ s' L', Rel w0 M0 L' s' a'.tmps.toList w' ∧ a'.defers = a.defers ∧ k s' = some r

theorem wp_value {o : Oper} {u : Value} {k : S → Option β} {r : β} (hrun : (execOp a.eval o).run P w = .ok (.value u) w') {L'} (R : Rel w0 M0 L' s' (putT a.tmps.toList o.dst u) w') (hk : k s' = some r) :
    o.wp P a w (Next' w0 M0 a k r) Q := by
  unfold Oper.wp
  rw [hrun, Oper.upon_value]
  exact ⟨s', L', by rw [put_tmps]; exact R, put_defers a o.dst u, hk⟩

theorem stepK_ok {gl : Gl} {E : Env} (hE : EnvAt gl P E w0 M0) {o : Oper} (R : Rel w0 M0 L s a.tmps.toList w) {k : S → Option β} {r : β} (h : stepK P E o s k = some r) :
    o.wp P a w (Next' w0 M0 a k r) Q := by
  cases hq : quiet o.op with
  | true =>
    obtain ⟨u, s', L', hrun, R', hk⟩ := quiet_ok hq R h
    exact wp_value hrun R' hk
  | false =>
    obtain ⟨dst, op, type, pos, after, guard⟩ := o
    have vrun : ∀ {x : Sem Value} {u : Value} {w' : World}, x.run P w = .ok u w' → (do pure (Next.value (← x)) : Sem Next).run P w = .ok (.value u) w' := by
      intro x u w' hx
      simp only [Sem.run_bind, hx, Result.andThen, Sem.run_pure]
    cases op <;> simp only [quiet, Bool.true_eq_false] at hq <;> simp only [stepK] at h <;> try (exact absurd h (by simp))
    case alloc T =>
      obtain ⟨t, z, s1, L', hd, hlt, hzs, R', hk, hz, _⟩ := allocK_ok R h
      subst hd
      refine wp_value (u := .pointer (some ⟨w.heap.size, 0, none⟩)) (vrun ?_) R' hk
      simp only [Instr.alloc, Sem.run_bind, hz, Result.andThen, newVar, newRow, run_newObj, Sem.run_pure]
    case box T x =>
      obtain ⟨v, hv, h1⟩ := rdK_ok R rfl h
      obtain ⟨t, s', L', w', hd, R', hk, hrun⟩ := boxK_ok R hv h1
      subst hd
      exact wp_value (vrun hrun) R' hk
    case buildSlice T len parts =>
      obtain ⟨vs, hvs, h1⟩ := rdsK_ok R rfl h
      have hlen := RWL.length hvs
      simp only [List.length_map] at hlen
      obtain ⟨t, u, s', L', w', hd, R', hk, hrun⟩ := buildSliceK_ok R (T := T) (len := len) (parts := (parts.toList.map (·.1)).zip vs) (ps := parts.toList.map fun p => (p.1, a.eval p.2))
        (by rw [List.map_fst_zip (by simp [hlen]), List.map_map]; rfl)
        (by rw [List.map_snd_zip (by simp [hlen]), List.map_map]; rw [List.map_map] at hvs; exact hvs) h1
      subst hd
      refine wp_value (vrun ?_) R' hk
      rw [← hrun]
      congr 2
      apply Array.ext'
      simp
    case store T x y =>
      obtain ⟨vx, hvx, h1⟩ := rdK_ok R rfl h
      obtain ⟨vy, hvy, h2⟩ := rdK_ok R rfl h1
      obtain ⟨s', L', w', R', hk, hrun⟩ := storeK_ok R hvx hvy h2
      have hrun2 : (execOp a.eval ⟨dst, .store T x y, type, pos, after, guard⟩).run P w = .ok .skip w' := by
        simp only [execOp, Sem.run_bind, hrun, Result.andThen, Sem.run_pure]
      unfold Oper.wp
      rw [hrun2, Oper.upon_skip]
      have hu : RW L' (hp w') (Fz w0 M0 L' w') (.tup []) undef := by
        simp only [RW]
        exact ⟨[], rfl, by simp [RWL]⟩
      exact ⟨_, L', by rw [put_tmps]; exact R'.putD hu, put_defers a dst undef, hk⟩
    case makeInterface T x =>
      obtain ⟨v, hv, h1⟩ := rdK_ok R rfl h
      clear h
      split at h1
      · cases h1
      · rename_i desc hno hu
        obtain ⟨t, sh, y, s1, L1, R1, S1, K1, le1, hsh, hra, hk⟩ := packK_ok R (retype_rw hv) h1
        refine wp_value (u := .iface T (a.eval x)) (vrun ?_) (R1.putD ?_) hk
        · simp only [Instr.makeInterface, Sem.run_bind, run_underlying hu, Result.andThen]
          first | rfl | (split; exact (hno _ rfl).elim; rfl)
        · simp only [RW, RA]
          exact ⟨rfl, _, rfl, hra⟩
      · cases h1
    case makeSlice T l c =>
      obtain ⟨vl, hvl, h1⟩ := rdK_ok R rfl h
      obtain ⟨vc, hvc, h2⟩ := rdK_ok R rfl h1
      obtain ⟨t, u, s', L', w', hd, R', hk, hrun⟩ := makeSliceK_ok R hvl hvc h2
      subst hd
      exact wp_value (vrun hrun) R' hk
    case call c =>
      obtain ⟨callee, args, argTypes⟩ := c
      cases callee with
      | invoke recv name => simp at h
      | builtin b =>
        cases b <;> simp only [Bool.true_eq_false] at hq <;> simp only at h <;> try (exact absurd h (by simp))
        split at h
        · rename_i x y hxy
          split at h
          · rename_i T U hT
            split at h
            · rename_i hTU
              rw [beq_true] at hTU
              subst hTU
              obtain ⟨vx, hvx, h1⟩ := rdK_ok R rfl h
              obtain ⟨vy, hvy, h2⟩ := rdK_ok R rfl h1
              obtain ⟨t, u, s', L', w', hd, R', hk, hrun⟩ := appendK_ok (ty := type) R hvx hvy h2
              subst hd
              have e1 : args = #[x, y] := by apply Array.ext'; simpa using hxy
              have e2 : argTypes = #[T, T] := by apply Array.ext'; simpa using hT
              subst e1; subst e2
              refine wp_value ?_ R' hk
              simp only [execOp, resolve, invoke, builtin, Sem.run_bind, Sem.run_pure, Result.andThen]
              have hl : Array.map a.eval #[x, y] = #[a.eval x, a.eval y] := by simp
              rw [hl, hrun]
            · cases h
          · cases h
        · cases h
      | value f =>
        obtain ⟨vf, hvf, h1⟩ := rdK_ok R rfl h
        obtain ⟨vs, hvs, h2⟩ := rdsK_ok R rfl h1
        clear h h1
        have fin : ∀ (g : FuncId) (caps : List V) (us : List Value), a.eval f = .func (.func g) #[] us.toArray → RWL L (hp w) (Fz w0 M0 L w) caps us → callK P E s dst g (vs ++ caps) argTypes.toList k = some r →
            Oper.wp P ⟨dst, .call ⟨.value f, args, argTypes⟩, type, pos, after, guard⟩ a w (Next' w0 M0 a k r) Q := by
          intro g caps us he hcaps hcall
          have hr := callK_ok hE R (RWL.append hvs hcaps) hcall
          have hex : (execOp a.eval ⟨dst, .call ⟨.value f, args, argTypes⟩, type, pos, after, guard⟩).run P w = (callFunc g (args.toList.map a.eval ++ us).toArray).run P w := by
            simp only [execOp, resolve, Deferred.ofValue, he, invoke, Sem.run_bind, Sem.run_pure, Result.andThen]
            congr 2
            apply Array.ext'
            simp
          unfold Oper.wp
          rw [hex]
          unfold Runs at hr
          generalize (callFunc g (args.toList.map a.eval ++ us).toArray).run P w = res at hr
          split at hr
          · rw [Oper.upon_enter]
            refine Calls.mono hr fun e w' => ?_
            rintro ⟨v, L', s', rfl, R', hk⟩
            exact ⟨s', L', by rw [put_tmps]; exact R', put_defers a dst v, hk⟩
          · obtain ⟨v, L', s', e, R', hk⟩ := hr
            cases e
            rw [Oper.upon_value]
            exact ⟨s', L', by rw [put_tmps]; exact R', put_defers a dst _, hk⟩
          · exact hr.elim
        split at h2
        · rename_i g caps
          simp only [RW] at hvf
          obtain ⟨us, e, hr⟩ := hvf
          exact fin g caps us e hr h2
        · rename_i t sh g caps
          simp only [RW, RA] at hvf
          obtain ⟨_, us, e, hr⟩ := hvf
          refine fin g _ us e (RWL.mk (by simp [RL.length hr]) fun i x u hx hu => ?_) h2
          simp only [List.getElem?_map, Option.map_eq_some_iff] at hx
          obtain ⟨y, hy, rfl⟩ := hx
          obtain ⟨u', hu', hra⟩ := RL.get hr hy
          rw [hu] at hu'; cases hu'
          simp only [RW]
          exact ⟨trivial, hra⟩
        · cases h2
end
end Go.Cm

namespace Go.Cm
section
variable {w0 : World} {M0 : Io} {L L' : Lay} {s s' : S} {tmps tmps' : List Value} {w w' : World} {β : Type} {P : Program} {a : Act} {Q : Exit → Act → World → Prop}

/-- A temporary is told in other words. -/
theorem Rel.retell (R : Rel w0 M0 L s tmps w) {t : Nat} {v : V} {u : Value} (hu : tmps[t]? = some u) (h : RW L (hp w) (Fz w0 M0 L w) v u) : Rel w0 M0 L (s.put (some t) v) tmps w := by
  have := R.putD (dst := some t) h
  simp only [putT] at this
  have e : tmps.set t u = tmps := by
    apply List.ext_getElem?
    intro j
    rw [List.getElem?_set]
    split
    · rename_i e; subst e
      split
      · exact hu.symm
      · rename_i hlt; rw [List.getElem?_eq_none (by omega)] at hu; cases hu
    · rfl
  rw [e] at this
  exact this
theorem undef_rw {H : Hp} {F : Fr} : RW L H F (.tup []) undef := by simp only [RW]; exact ⟨[], rfl, by simp [RWL]⟩
theorem Next'.weak {k k' : S → Option β} {r : β} {a a' : Act} (hd : a.defers = a'.defers) (h : Next' w0 M0 a k r a' w) (e : k = k') : Next' w0 M0 a k' r a' w := by subst e; exact h

/-- What the guard of an operation says, and how the state says it. -/
theorem guard_ok {ops : Array Oper} {E : Env} {o : Oper} (R : Rel w0 M0 L s a.tmps.toList w) {K : S → Option β} {r : β}
    (h : (match o.guard with
      | none => stepK P E o s K
      | some (j, want) => match dstOf ops j with
        | some t => match s.tm[t]? with
          | some (.d _ _ (.bool b)) => match want with
            | true => if b = true then stepK P E o (s.put (some t) (.d false 0 (.bool true))) K
                else K ((s.put (some t) (.d false 0 (.bool false))).put o.dst (.tup []))
            | false => if b = true then K ((s.put (some t) (.d false 0 (.bool true))).put o.dst (.tup []))
                else stepK P E o (s.put (some t) (.d false 0 (.bool false))) K
          | some (.tup []) => K (s.put o.dst (.tup []))
          | _ => none
        | none => none) = some r) :
    (Region.wanted o (yielded ops a.tmps) = true ∧ ∃ s1 L1, Rel w0 M0 L1 s1 a.tmps.toList w ∧ stepK P E o s1 K = some r) ∨
    (Region.wanted o (yielded ops a.tmps) = false ∧ ∃ s1 L1, Rel w0 M0 L1 s1 (putT a.tmps.toList o.dst undef) w ∧ K s1 = some r) := by
  split at h
  · rename_i hg
    exact .inl ⟨by simp [Region.wanted, hg], s, L, R, h⟩
  · rename_i j want hg
    split at h
    · rename_i t ht
      have hy : ∀ v, s.tm[t]? = some v → ∃ u, a.tmps.toList[t]? = some u ∧ RV L (hp w) (Fz w0 M0 L w) 0 t v u ∧ yielded ops a.tmps j = (match u with | .bool b => some b | _ => none) := by
        intro v hv
        obtain ⟨u, hu, hr⟩ := R.val 0 t v hv
        have hu' : a.tmps.toList[t]? = some u := hu
        refine ⟨u, hu', hr, ?_⟩
        have h1 : (ops[j]?).bind (·.dst) = some t := ht
        have h2 : a.tmps[t]? = some u := by simpa using hu'
        simp only [yielded, h1, Option.bind_some, h2]
        cases u <;> rfl
      have skip : ∀ {s1 : S}, Rel w0 M0 L s1 a.tmps.toList w → Rel w0 M0 L (s1.put o.dst (.tup [])) (putT a.tmps.toList o.dst undef) w := fun R1 => R1.putD undef_rw
      split at h
      · rename_i t0 sh0 b hv
        obtain ⟨u, hu, hr, hyl⟩ := hy _ hv
        simp only [RV, RW, RA] at hr
        obtain ⟨_, rfl⟩ := hr
        have hrw : ∀ c, b = c → RW L (hp w) (Fz w0 M0 L w) (.d false 0 (.bool c)) (.bool b) := fun c e => by subst e; simp only [RW, RA]; exact ⟨rfl, trivial⟩
        have hw : Region.wanted o (yielded ops a.tmps) = (b == want) := by
          simp only [Region.wanted, hg, hyl]
          cases b <;> cases want <;> rfl
        split at h
        · split at h
          · rename_i hb
            exact .inl ⟨by rw [hw, hb]; rfl, _, L, R.retell hu (hrw true hb), h⟩
          · rename_i hb
            have hb' : b = false := by simpa using hb
            exact .inr ⟨by rw [hw, hb']; rfl, _, L, skip (R.retell hu (hrw false hb')), h⟩
        · split at h
          · rename_i hb
            exact .inr ⟨by rw [hw, hb]; rfl, _, L, skip (R.retell hu (hrw true hb)), h⟩
          · rename_i hb
            have hb' : b = false := by simpa using hb
            exact .inl ⟨by rw [hw, hb']; rfl, _, L, R.retell hu (hrw false hb'), h⟩
      · rename_i hv
        obtain ⟨u, hu, hr, hyl⟩ := hy _ hv
        simp only [RV, RW] at hr
        obtain ⟨us, rfl, hus⟩ := hr
        have hw : Region.wanted o (yielded ops a.tmps) = false := by
          simp only [Region.wanted, hg, hyl]; rfl
        exact .inr ⟨hw, _, L, skip R, h⟩
      · cases h
    · cases h

theorem opsK_eq {E : Env} {ops : Array Oper} {o : Oper} {rest : List Oper} {s : S} {k : S → Option β} :
    opsK P E ops (o :: rest) s k = (match o.guard with
      | none => stepK P E o s (fun s => opsK P E ops rest s k)
      | some (j, want) => match dstOf ops j with
        | some t => match s.tm[t]? with
          | some (.d _ _ (.bool b)) => match want with
            | true => if b = true then stepK P E o (s.put (some t) (.d false 0 (.bool true))) (fun s => opsK P E ops rest s k)
                else (fun s => opsK P E ops rest s k) ((s.put (some t) (.d false 0 (.bool false))).put o.dst (.tup []))
            | false => if b = true then (fun s => opsK P E ops rest s k) ((s.put (some t) (.d false 0 (.bool true))).put o.dst (.tup []))
                else stepK P E o (s.put (some t) (.d false 0 (.bool false))) (fun s => opsK P E ops rest s k)
          | some (.tup []) => (fun s => opsK P E ops rest s k) (s.put o.dst (.tup []))
          | _ => none
        | none => none) := rfl

theorem opsK_ok {gl : Gl} {E : Env} (hE : EnvAt gl P E w0 M0) {ops : Array Oper} {k : S → Option β} {r : β} : ∀ (l : List Oper) (n : Nat) (a : Act) (L : Lay) (s : S) (w : World), ops.toList.drop n = l → Rel w0 M0 L s a.tmps.toList w → opsK P E ops l s k = some r →
    (∀ a' w', Next' w0 M0 a k r a' w' → Q .normal a' w') → wpOps P ops Q (List.range' n l.length) a w
  | [], n, a, L, s, w, hl, R, h, hQ => hQ a w ⟨s, L, R, rfl, h⟩
  | o :: rest, n, a, L, s, w, hl, R, h, hQ => by
    have hlt : n < ops.toList.length := by
      by_cases hlt : n < ops.toList.length
      · exact hlt
      · rw [List.drop_eq_nil_of_le (by omega)] at hl; cases hl
    rw [List.drop_eq_getElem_cons hlt] at hl
    injection hl with h1 h2
    have ho : ops[n]? = some o := by rw [← h1]; simp at hlt; simp [hlt]
    rw [opsK_eq] at h
    simp only [List.length_cons, List.range'_succ, wpOps, ho]
    rcases guard_ok R h with ⟨hw, s1, L1, R1, hs⟩ | ⟨hw, s1, L1, R1, hs⟩
    · rw [hw, if_pos rfl]
      refine .inl (Oper.wp_mono (fun a' w' => ?_) (stepK_ok hE (Q := Q) R1 hs))
      rintro ⟨s', L', R', hd, hk⟩
      refine opsK_ok hE rest (n + 1) a' L' s' w' h2 R' hk fun a'' w'' => ?_
      rintro ⟨s2, L2, R2, hd2, hk2⟩
      exact hQ a'' w'' ⟨s2, L2, R2, hd2.trans hd, hk2⟩
    · rw [hw, if_neg (by simp)]
      refine opsK_ok hE rest (n + 1) _ L1 s1 w h2 (by rw [put_tmps]; exact R1) hs fun a'' w'' => ?_
      rintro ⟨s2, L2, R2, hd2, hk2⟩
      exact hQ a'' w'' ⟨s2, L2, R2, hd2.trans (put_defers _ _ _), hk2⟩
end
end Go.Cm

namespace Go.Cm
section
variable {w0 : World} {M0 : Io} {L L' : Lay} {s s' : S} {w w' : World} {β : Type} {P : Program} {a : Act} {Q : Exit → Act → World → Prop} {ops : Array Oper}

/-- What is yet to come up. -/
def cnt (l : Array Bool) : Nat := l.toList.count false
theorem count_set : ∀ (l : List Bool) (i : Nat), l[i]? = some false → (l.set i true).count false + 1 = l.count false
  | [], i, h => by simp at h
  | x :: xs, 0, h => by simp at h; subst h; simp
  | x :: xs, i + 1, h => by
    have := count_set xs i (by simpa using h)
    simp only [List.set_cons_succ, List.count_cons]
    omega
theorem cnt_set {l : Array Bool} {i : Nat} (h : l[i]? = some false) : cnt (l.setIfInBounds i true) + 1 = cnt l := by
  unfold cnt
  rw [Array.toList_setIfInBounds]
  exact count_set _ i (by simpa using h)
def firstN (N n : Nat) : Array Bool := ((List.range N).map fun i => decide (i < n)).toArray
theorem firstN_get {N n i : Nat} (h : i < N) : (firstN N n)[i]? = some (decide (i < n)) := by simp [firstN, h]
theorem firstN_size (N n : Nat) : (firstN N n).size = N := by simp [firstN]
theorem firstN_zero (N : Nat) : Array.replicate N false = firstN N 0 := by
  apply Array.ext'
  apply List.ext_getElem?
  intro i
  by_cases h : i < N
  · rw [Array.getElem?_toList, Array.getElem?_toList, firstN_get h]; simp [h]
  · simp [firstN, h]

/-- Quiet operations, one behind the other. -/
def runFrom (ops : Array Oper) (U : Nat → Value) : Nat → Nat → Act → Act
  | _, 0, a => a
  | n, c + 1, a => runFrom ops U (n + 1) c (a.put (dstOf ops n) (U n))
theorem put_size (a : Act) (d : Option Tmp) (u : Value) : (a.put d u).tmps.size = a.tmps.size := by cases d <;> simp [Act.put]
theorem runFrom_size (U : Nat → Value) : ∀ (c n : Nat) (a : Act), (runFrom ops U n c a).tmps.size = a.tmps.size ∧ (runFrom ops U n c a).defers = a.defers
  | 0, n, a => ⟨rfl, rfl⟩
  | c + 1, n, a => by
    simp only [runFrom]
    obtain ⟨h1, h2⟩ := runFrom_size U c (n + 1) (a.put (dstOf ops n) (U n))
    exact ⟨h1.trans (put_size _ _ _), h2.trans (put_defers _ _ _)⟩
theorem put_get_ne {a : Act} {d : Option Tmp} {u : Value} {t : Tmp} (h : d ≠ some t) : (a.put d u).tmps[t]? = a.tmps[t]? := by
  cases d with
  | none => rfl
  | some e =>
    have : e ≠ t := fun h' => h (by rw [h'])
    simp [Act.put, Array.getElem?_setIfInBounds_ne this]
theorem put_get_eq {a : Act} {u : Value} {t : Tmp} (h : t < a.tmps.size) : (a.put (some t) u).tmps[t]? = some u := by simp [Act.put, h]
theorem runFrom_other (U : Nat → Value) {t : Tmp} : ∀ (c n : Nat) (a : Act), (∀ i, n ≤ i → i < n + c → dstOf ops i ≠ some t) → (runFrom ops U n c a).tmps[t]? = a.tmps[t]?
  | 0, n, a, _ => rfl
  | c + 1, n, a, h => by
    simp only [runFrom]
    rw [runFrom_other U c (n + 1) _ (fun i h1 h2 => h i (by omega) (by omega)), put_get_ne (h n (Nat.le_refl _) (by omega))]
theorem runFrom_dst (U : Nat → Value) {t : Tmp} {i : Nat} (hd : dstOf ops i = some t) : ∀ (c n : Nat) (a : Act), n ≤ i → i < n + c → (∀ j, i < j → j < n + c → dstOf ops j ≠ some t) → t < a.tmps.size → (runFrom ops U n c a).tmps[t]? = some (U i)
  | 0, n, a, h1, h2, _, _ => by omega
  | c + 1, n, a, h1, h2, h3, h4 => by
    simp only [runFrom]
    by_cases he : i = n
    · subst he
      rw [runFrom_other U c (i + 1) _ (fun j g1 g2 => h3 j (by omega) (by omega)), hd, put_get_eq h4]
    · exact runFrom_dst U hd c (n + 1) _ (by omega) (by omega) (fun j g1 g2 => h3 j g1 (by omega)) (by rw [put_size]; exact h4)

/-- What an operation that leaves the memory as it is comes to. -/
def Fact (P : Program) (ops : Array Oper) (w : World) (o : Oper) (a : Act) (u : Value) : Prop :=
  (Region.wanted o (yielded ops a.tmps) = true ∧ (execOp a.eval o).run P w = .ok (.value u) w) ∨ (Region.wanted o (yielded ops a.tmps) = false ∧ u = undef)
theorem Fact.wp {i : Nat} {o : Oper} {u : Value} (hi : ops[i]? = some o) (h : Fact P ops w o a u) {K : Act → World → Prop} (hk : K (a.put (dstOf ops i) u) w) : wpOp P ops Q i K a w := by
  have hd : dstOf ops i = o.dst := by simp [dstOf, hi]
  rw [hd] at hk
  unfold wpOp
  simp only [hi]
  rcases h with ⟨hw, hr⟩ | ⟨hw, rfl⟩
  · rw [hw, if_pos rfl]
    refine .inl ?_
    unfold Oper.wp
    rw [hr, Oper.upon_value]
    exact hk
  · rw [hw, if_neg (by simp)]; exact hk
theorem looksAt_eq (o : Oper) : o.looksAt ops = looks ops o := by
  unfold Oper.looksAt looks dstOf
  rfl
theorem Fact.congr {o : Oper} {a a' : Act} {u : Value} (hs : ∀ cs b, o.op ≠ .select cs b) (h : ∀ t ∈ looks ops o, a'.tmps[t]? = a.tmps[t]?) (f : Fact P ops w o a u) : Fact P ops w o a' u := by
  have he : execOp a'.eval o = execOp a.eval o := execOp_congr o hs fun x hx => by
    cases x with
    | tmp t =>
      have := h t (by
        unfold looks
        refine List.mem_append_left _ (List.mem_filterMap.2 ⟨.tmp t, by simpa using hx, rfl⟩))
      simp only [Act.eval, Array.getD_eq_getD_getElem?, this]
    | _ => rfl
  have hw : Region.wanted o (yielded ops a'.tmps) = Region.wanted o (yielded ops a.tmps) := by
    unfold Region.wanted
    cases hg : o.guard with
    | none => rfl
    | some gw =>
      obtain ⟨g, want⟩ := gw
      have hy : yielded ops a'.tmps g = yielded ops a.tmps g := by
        unfold yielded
        cases ht : (ops[g]?).bind (·.dst) with
        | none => rfl
        | some t =>
          have := h t (by
            unfold looks dstOf
            refine List.mem_append_right _ ?_
            simp [hg, ht])
          simp only [Option.bind_some, this]
      simp only [hy]
  unfold Fact
  rw [he, hw]
  exact f

/-- A run of quiet operations in the text's order. -/
theorem quietRun {E : Env} {k : S → Option β} {r : β} {rest : List Oper} : ∀ (l : List Oper) (n : Nat) (a : Act) (L : Lay) (s : S), ops.toList.drop n = l ++ rest → (∀ o ∈ l, quiet o.op = true) → Rel w0 M0 L s a.tmps.toList w →
    opsK P E ops (l ++ rest) s k = some r → ∃ U : Nat → Value, (∀ j o, n ≤ j → j < n + l.length → ops[j]? = some o → Fact P ops w o (runFrom ops U n (j - n) a) (U j)) ∧
      ∃ s' L', Rel w0 M0 L' s' (runFrom ops U n l.length a).tmps.toList w ∧ opsK P E ops rest s' k = some r
  | [], n, a, L, s, hl, hq, R, h => ⟨fun _ => undef, fun j o h1 h2 => by simp at h2; omega, s, L, R, h⟩
  | o :: l, n, a, L, s, hl, hq, R, h => by
    have hlt : n < ops.toList.length := by
      by_cases hlt : n < ops.toList.length
      · exact hlt
      · rw [List.drop_eq_nil_of_le (by omega)] at hl; cases hl
    rw [List.drop_eq_getElem_cons hlt] at hl
    simp only [List.cons_append] at hl h
    injection hl with h1 h2
    have ho : ops[n]? = some o := by rw [← h1]; simp at hlt; simp [hlt]
    have hd : dstOf ops n = o.dst := by simp [dstOf, ho]
    rw [opsK_eq] at h
    have main : ∃ u s1 L1, Fact P ops w o a u ∧ Rel w0 M0 L1 s1 (putT a.tmps.toList o.dst u) w ∧ opsK P E ops (l ++ rest) s1 k = some r := by
      rcases guard_ok R h with ⟨hw, s1, L1, R1, hs⟩ | ⟨hw, s1, L1, R1, hs⟩
      · obtain ⟨u, s2, L2, hrun, R2, hk⟩ := quiet_ok (hq o (.head _)) R1 hs
        exact ⟨u, s2, L2, .inl ⟨hw, hrun⟩, R2, hk⟩
      · exact ⟨undef, s1, L1, .inr ⟨hw, rfl⟩, R1, hs⟩
    obtain ⟨u, s1, L1, hf, R1, hk⟩ := main
    rw [← put_tmps, ← hd] at R1
    obtain ⟨U, hU, s', L', R', hk'⟩ := quietRun l (n + 1) (a.put (dstOf ops n) u) L1 s1 h2 (fun x hx => hq x (.tail _ hx)) R1 hk
    have hcongr : ∀ (c n' : Nat) (b : Act), n < n' → runFrom ops (fun j => if j = n then u else U j) n' c b = runFrom ops U n' c b := by
      intro c
      induction c with
      | zero => intro n' b _; rfl
      | succ c ih => intro n' b hn; simp only [runFrom]; rw [ih (n' + 1) _ (by omega), if_neg (by omega)]
    refine ⟨fun j => if j = n then u else U j, fun j o' g1 g2 g3 => ?_, s', L', ?_, hk'⟩
    · by_cases he : j = n
      · subst he
        rw [ho] at g3; cases g3
        simp only [Nat.sub_self, runFrom, if_true]; exact hf
      · obtain ⟨c, rfl⟩ : ∃ c, j = n + 1 + c := ⟨j - (n + 1), by omega⟩
        have := hU (n + 1 + c) o' (by omega) (by simp only [List.length_cons] at g2; omega) g3
        rw [show n + 1 + c - n = c + 1 by omega]
        simp only [runFrom, if_true, if_neg he]
        rw [hcongr c (n + 1) _ (by omega)]
        rwa [show n + 1 + c - (n + 1) = c by omega] at this
    · simp only [List.length_cons, runFrom, if_true]
      rw [hcongr _ _ _ (by omega)]
      exact R'
end
end Go.Cm

namespace Go.Cm
section
variable {w0 : World} {M0 : Io} {L L' : Lay} {s s' : S} {w w' : World} {β : Type} {P : Program} {a : Act} {Q : Exit → Act → World → Prop} {ops : Array Oper}

theorem boundTo_spec {o : Oper} {i : Nat} (h : boundTo o i = true) : ∃ e ∈ o.after, Region.binds .any e = true ∧ e.on = i := by
  simp only [boundTo, List.any_eq_true, Bool.and_eq_true, beq_true] at h
  obtain ⟨e, he, h1, h2⟩ := h
  exact ⟨e, by simpa using he, h1, h2⟩
theorem getD_of {l : Array Bool} {i : Nat} {b d : Bool} (h : l[i]? = some b) : l.getD i d = b := by simp [Array.getD_eq_getD_getElem?, h]

/-- How far a run of quiet operations has come. -/
structure Inv (ops : Array Oper) (U : Nat → Value) (n m : Nat) (a : Act) (l : Array Bool) (a' : Act) : Prop where
  size : l.size = ops.size
  lo : ∀ i, i < n → i < ops.size → l[i]? = some true
  hi : ∀ i, m ≤ i → i < ops.size → l[i]? = some false
  defers : a'.defers = a.defers
  tsize : a'.tmps.size = a.tmps.size
  yes : ∀ i t, n ≤ i → i < m → dstOf ops i = some t → l[i]? = some true → t < a.tmps.size → a'.tmps[t]? = some (U i)
  no : ∀ t, (∀ i, n ≤ i → i < m → dstOf ops i = some t → l[i]? = some false) → a'.tmps[t]? = a.tmps[t]?

structure SegOk (ops : Array Oper) (n m : Nat) : Prop where
  le : n ≤ m
  top : m ≤ ops.size
  dst : ∀ i j t, n ≤ i → i < m → n ≤ j → j < m → dstOf ops i = some t → dstOf ops j = some t → i = j
  look : ∀ i j o t, n ≤ i → i < m → n ≤ j → j < m → ops[j]? = some o → dstOf ops i = some t → t ∈ looks ops o → (i < j ∧ boundTo o i = true) ∨ i = j
  edge : ∀ j o, n ≤ j → j < m → ops[j]? = some o → ∀ e ∈ o.after, Region.binds .any e = true → e.on < j
  bar : ∀ j o, m ≤ j → j < ops.size → ops[j]? = some o → (∀ i, n ≤ i → i < m → boundTo o i = true) ∨ ∃ i, m ≤ i ∧ i < j ∧ boundTo o i = true
  sel : ∀ j o, n ≤ j → j < m → ops[j]? = some o → ∀ cs b, o.op ≠ .select cs b

theorem segDone {n m : Nat} {U : Nat → Value} (G : SegOk ops n m) {l : Array Bool} {a' : Act} (I : Inv ops U n m a l a') (hall : ∀ i, n ≤ i → i < m → l[i]? = some true) :
    l = firstN ops.size m ∧ a' = runFrom ops U n (m - n) a := by
  have hle := G.le
  have htop := G.top
  constructor
  · apply Array.ext'
    apply List.ext_getElem?
    intro i
    rw [Array.getElem?_toList, Array.getElem?_toList]
    by_cases hi : i < ops.size
    · rw [firstN_get hi]
      by_cases h1 : i < n
      · rw [I.lo i h1 hi]; simp; omega
      · by_cases h2 : i < m
        · rw [hall i (by omega) h2]; simp [h2]
        · rw [I.hi i (by omega) hi]; simp [h2]
    · rw [Array.getElem?_eq_none (by rw [I.size]; omega), Array.getElem?_eq_none (by rw [firstN_size]; omega)]
  · have hs := runFrom_size (ops := ops) U (m - n) n a
    obtain ⟨t1, d1⟩ := a'
    have ht : (Act.mk t1 d1).tmps = (runFrom ops U n (m - n) a).tmps := by
      apply Array.ext'
      apply List.ext_getElem?
      intro t
      rw [Array.getElem?_toList, Array.getElem?_toList]
      by_cases hlt : t < a.tmps.size
      · by_cases hx : ∃ i, n ≤ i ∧ i < m ∧ dstOf ops i = some t
        · obtain ⟨i, h1, h2, h3⟩ := hx
          rw [I.yes i t h1 h2 h3 (hall i h1 h2) hlt]
          exact (runFrom_dst U h3 (m - n) n a h1 (by omega) (fun j g1 g2 e => by have := G.dst i j t h1 h2 (by omega) (by omega) h3 e; omega) hlt).symm
        · have hx' : ∀ i, n ≤ i → i < m → dstOf ops i ≠ some t := fun i h1 h2 e => hx ⟨i, h1, h2, e⟩
          rw [I.no t (fun i h1 h2 e => (hx' i h1 h2 e).elim)]
          exact (runFrom_other U (m - n) n a (fun i h1 h2 => hx' i h1 (by omega))).symm
      · rw [Array.getElem?_eq_none (by rw [I.tsize]; omega), Array.getElem?_eq_none (by rw [hs.1]; omega)]
    have hd : d1 = (runFrom ops U n (m - n) a).defers := I.defers.trans hs.2.symm
    generalize runFrom ops U n (m - n) a = b at *
    obtain ⟨t2, d2⟩ := b
    simp only at ht hd
    rw [ht, hd]

theorem segAny {n m : Nat} {U : Nat → Value} (G : SegOk ops n m) (hf : ∀ j o, n ≤ j → j < m → ops[j]? = some o → Fact P ops w o (runFrom ops U n (j - n) a) (U j))
    (K : wpAny P .any ops Q (cnt (firstN ops.size m)) (firstN ops.size m) (runFrom ops U n (m - n) a) w) :
    ∀ (c : Nat) (l : Array Bool) (a' : Act), Inv ops U n m a l a' → cnt l = c → wpAny P .any ops Q c l a' w := by
  intro c
  induction c with
  | zero =>
    intro l a' I hc
    have htop := G.top
    have hall : ∀ i, n ≤ i → i < m → l[i]? = some true := by
      intro i h1 h2
      have hlt : i < l.size := by rw [I.size]; omega
      cases hb : l[i]? with
      | none => rw [Array.getElem?_eq_none_iff] at hb; omega
      | some b =>
        cases b with
        | true => rfl
        | false => have := cnt_set hb; omega
    obtain ⟨rfl, rfl⟩ := segDone G I hall
    rw [hc] at K
    exact K
  | succ c ih =>
    intro l a' I hc
    have htop := G.top
    by_cases hall : ∀ i, n ≤ i → i < m → l[i]? = some true
    · obtain ⟨rfl, rfl⟩ := segDone G I hall
      rw [hc] at K
      exact K
    · -- the least that has not come up is ready
      have hex : ∃ i, n ≤ i ∧ i < m ∧ l[i]? = some false := by
        apply Classical.byContradiction
        intro hno
        refine hall fun i h1 h2 => ?_
        have hlt : i < l.size := by rw [I.size]; omega
        cases hb : l[i]? with
        | none => rw [Array.getElem?_eq_none_iff] at hb; omega
        | some b =>
          cases b with
          | true => rfl
          | false => exact (hno ⟨i, h1, h2, hb⟩).elim
      have hleast : ∃ i, (n ≤ i ∧ i < m ∧ l[i]? = some false) ∧ ∀ j, j < i → n ≤ j → l[j]? = some true := by
        obtain ⟨i, hi⟩ := hex
        induction i using Nat.strongRecOn with
        | _ i ih2 =>
          by_cases h : ∃ j, j < i ∧ n ≤ j ∧ l[j]? = some false
          · obtain ⟨j, h1, h2, h3⟩ := h
            exact ih2 j h1 ⟨h2, by omega, h3⟩
          · refine ⟨i, hi, fun j h1 h2 => ?_⟩
            have hlt : j < l.size := by rw [I.size]; omega
            cases hb : l[j]? with
            | none => rw [Array.getElem?_eq_none_iff] at hb; omega
            | some b =>
              cases b with
              | true => rfl
              | false => exact (h ⟨j, h1, h2, hb⟩).elim
      obtain ⟨i0, ⟨g1, g2, g3⟩, g4⟩ := hleast
      obtain ⟨o0, ho0⟩ : ∃ o, ops[i0]? = some o := ⟨_, Array.getElem?_eq_getElem (by omega)⟩
      have hready : i0 ∈ Region.ready .any ops l := by
        rw [mem_ready]
        refine ⟨getD_of g3, o0, ho0, fun e he hb => ?_⟩
        have hlt := G.edge i0 o0 g1 g2 ho0 e he hb
        by_cases hn : e.on < n
        · exact getD_of (I.lo _ hn (by omega))
        · exact getD_of (g4 _ hlt (by omega))
      refine ⟨fun h => (by rw [h] at hready; cases hready), fun i hi => ?_⟩
      obtain ⟨h0, o, ho, hafter⟩ := mem_ready.1 hi
      have hiN : i < ops.size := (Array.getElem?_eq_some_iff.1 ho).1
      have hil : l[i]? = some false := by
        have hlt : i < l.size := by rw [I.size]; exact hiN
        rw [Array.getElem?_eq_getElem hlt]
        simp only [Array.getD_eq_getD_getElem?, Array.getElem?_eq_getElem hlt, Option.getD_some] at h0
        rw [h0]
      have hlisted : ∀ j, boundTo o j = true → l[j]? = some true := by
        intro j hb
        obtain ⟨e, he, hbi, rfl⟩ := boundTo_spec hb
        have := hafter e he hbi
        cases hx : l[e.on]? with
        | none => simp [Array.getD_eq_getD_getElem?, hx] at this
        | some b => simp [Array.getD_eq_getD_getElem?, hx] at this; rw [this]
      have hin : n ≤ i := by
        apply Classical.byContradiction
        intro h
        have := I.lo i (by omega) hiN
        rw [hil] at this; cases this
      have him : i < m := by
        apply Classical.byContradiction
        intro h
        rcases G.bar i o (by omega) hiN ho with hb | ⟨j, h1, h2, hb⟩
        · have := hlisted i0 (hb i0 g1 g2); rw [g3] at this; cases this
        · have := hlisted j hb; rw [I.hi j h1 (by omega)] at this; cases this
      have hsz := runFrom_size (ops := ops) U (i - n) n a
      have hfact : Fact P ops w o a' (U i) := by
        refine Fact.congr (G.sel i o hin him ho) (fun t ht => ?_) (hf i o hin him ho)
        by_cases hlt : t < a.tmps.size
        · by_cases hx : ∃ j, n ≤ j ∧ j < m ∧ dstOf ops j = some t
          · obtain ⟨j, j1, j2, j3⟩ := hx
            rcases G.look j i o t j1 j2 hin him ho j3 ht with ⟨hji, hb⟩ | hji
            · rw [I.yes j t j1 j2 j3 (hlisted j hb) hlt]
              exact (runFrom_dst U j3 (i - n) n a j1 (by omega) (fun q q1 q2 e => by have := G.dst j q t j1 j2 (by omega) (by omega) j3 e; omega) hlt).symm
            · rw [I.no t (fun q q1 q2 e => by have := G.dst j q t j1 j2 q1 q2 j3 e; rw [← this, hji]; exact hil)]
              exact (runFrom_other U (i - n) n a (fun q q1 q2 e => by have := G.dst j q t j1 j2 q1 (by omega) j3 e; omega)).symm
          · rw [I.no t (fun q q1 q2 e => (hx ⟨q, q1, q2, e⟩).elim)]
            exact (runFrom_other U (i - n) n a (fun q q1 q2 e => hx ⟨q, q1, by omega, e⟩)).symm
        · rw [Array.getElem?_eq_none (by rw [I.tsize]; exact Nat.le_of_not_lt hlt), Array.getElem?_eq_none (by rw [hsz.1]; exact Nat.le_of_not_lt hlt)]
      refine hfact.wp ho ?_
      refine ih _ _ ⟨?_, ?_, ?_, ?_, ?_, ?_, ?_⟩ (by have := cnt_set hil; omega)
      · simp [I.size]
      · intro j h1 h2; rw [Array.getElem?_setIfInBounds_ne (by omega)]; exact I.lo j h1 h2
      · intro j h1 h2; rw [Array.getElem?_setIfInBounds_ne (by omega)]; exact I.hi j h1 h2
      · rw [put_defers]; exact I.defers
      · rw [put_size]; exact I.tsize
      · intro j t h1 h2 h3 h4 h5
        by_cases he : i = j
        · subst he; rw [h3, put_get_eq (by rw [I.tsize]; exact h5)]
        · rw [Array.getElem?_setIfInBounds_ne he] at h4
          rw [put_get_ne (fun e => he (G.dst i j t hin him h1 h2 e h3))]
          exact I.yes j t h1 h2 h3 h4 h5
      · intro t h
        have hne : dstOf ops i ≠ some t := fun e => by
          have := h i hin him e
          have hlt : i < l.size := by rw [I.size]; exact hiN
          simp [hlt] at this
        rw [put_get_ne hne]
        refine I.no t fun j h1 h2 h3 => ?_
        have := h j h1 h2 h3
        by_cases he : i = j
        · subst he; exact (hne h3).elim
        · rwa [Array.getElem?_setIfInBounds_ne he] at this
end
end Go.Cm

namespace Go.Cm
section
variable {w0 : World} {M0 : Io} {L L' : Lay} {s s' : S} {w w' : World} {β : Type} {P : Program} {a : Act} {Q : Exit → Act → World → Prop} {ops : Array Oper}

theorem any_beq {d : Nat} {l : List Tmp} : (l.any (Nat.beq d)) = true ↔ d ∈ l := memb_iff (i := d) (l := l)
theorem okFrom_spec {i : Nat} {x : Oper} : ∀ (l : List Oper) (j : Nat), okFrom ops i x j l = true → ∀ q y, l[q]? = some y → okPair ops i x (j + q) y = true
  | [], j, h, q, y, hy => by simp at hy
  | z :: l, j, h, q, y, hy => by
    simp only [okFrom, Bool.and_eq_true] at h
    cases q with
    | zero => simp at hy; subst hy; exact h.1
    | succ q =>
      have := okFrom_spec l (j + 1) h.2 q y (by simpa using hy)
      rwa [show j + (q + 1) = j + 1 + q by omega]
theorem okDraw_spec : ∀ (l : List Oper) (i : Nat), okDraw ops i l = true → (∀ q x, l[q]? = some x → ∀ e ∈ x.after, Region.binds .any e = true → e.on < i + q) ∧ ∀ q p x y, l[q]? = some x → l[p]? = some y → q < p → okPair ops (i + q) x (i + p) y = true
  | [], i, h => ⟨fun q x hx => by simp at hx, fun q p x y hx => by simp at hx⟩
  | z :: l, i, h => by
    simp only [okDraw, Bool.and_eq_true, List.all_eq_true, Bool.or_eq_true, Bool.not_eq_true', Nat.blt_eq] at h
    obtain ⟨⟨h1, h2⟩, h3⟩ := h
    obtain ⟨k1, k2⟩ := okDraw_spec l (i + 1) h3
    refine ⟨fun q x hx e he hb => ?_, fun q p x y hx hy hqp => ?_⟩
    · cases q with
      | zero =>
        simp at hx; subst hx
        rcases h1 e (by simpa using he) with h | h
        · rw [h] at hb; cases hb
        · simpa using h
      | succ q => have := k1 q x (by simpa using hx) e he hb; omega
    · cases p with
      | zero => omega
      | succ p =>
        cases q with
        | zero =>
          simp at hx; subst hx
          have := okFrom_spec l (i + 1) h2 p y (by simpa using hy)
          rwa [show i + 1 + p = i + (p + 1) by omega] at this
        | succ q =>
          have := k2 q p x y (by simpa using hx) (by simpa using hy) (by omega)
          rwa [show i + 1 + q = i + (q + 1) by omega, show i + 1 + p = i + (p + 1) by omega] at this
structure PairOk (ops : Array Oper) (i : Nat) (x y : Oper) : Prop where
  dst : ∀ t, x.dst = some t → y.dst ≠ some t
  back : ∀ t, y.dst = some t → t ∉ looks ops x
  ord : boundTo y i = true ∨ (quiet x.op = true ∧ quiet y.op = true ∧ ∀ t, x.dst = some t → t ∉ looks ops y)
theorem okPair_spec {i j : Nat} {x y : Oper} (h : okPair ops i x j y = true) : PairOk ops i x y := by
  simp only [okPair, Bool.and_eq_true, Bool.or_eq_true] at h
  obtain ⟨⟨h1, h2⟩, h3⟩ := h
  refine ⟨fun t ht hy => ?_, fun t ht hm => ?_, h3.imp id fun h => ⟨h.1.1, h.1.2, fun t ht hm => ?_⟩⟩
  · rw [ht, hy] at h1; simp at h1
  · rw [ht] at h2
    simp only [Bool.not_eq_true'] at h2
    rw [any_beq.2 hm] at h2; cases h2
  · have h4 := h.2
    rw [ht] at h4
    simp only [Bool.not_eq_true'] at h4
    rw [any_beq.2 hm] at h4; cases h4

theorem takeWhile_all {α : Type} (p : α → Bool) : ∀ (l : List α), ∀ x ∈ l.takeWhile p, p x = true
  | [], x, h => by simp at h
  | y :: l, x, h => by
    rw [List.takeWhile_cons] at h
    split at h
    · rename_i hp
      rcases List.mem_cons.1 h with rfl | h
      · exact hp
      · exact takeWhile_all p l x h
    · cases h
theorem quiet_sel {o : Oper} (h : quiet o.op = true) : ∀ cs b, o.op ≠ .select cs b := by
  intro cs b e; rw [e] at h; simp [quiet] at h
theorem firstN_set {N n : Nat} (h : n < N) : (firstN N n).setIfInBounds n true = firstN N (n + 1) := by
  apply Array.ext'
  apply List.ext_getElem?
  intro i
  rw [Array.getElem?_toList, Array.getElem?_toList]
  by_cases hi : i < N
  · rw [firstN_get hi]
    by_cases e : n = i
    · subst e; simp [firstN_size, h]
    · rw [Array.getElem?_setIfInBounds_ne e, firstN_get hi]
      congr 1
      exact decide_eq_decide.2 (by omega)
  · rw [Array.getElem?_eq_none (by simp [firstN_size]; omega), Array.getElem?_eq_none (by rw [firstN_size]; omega)]

theorem drawAny {gl : Gl} {E : Env} (hE : EnvAt gl P E w0 M0) {k : S → Option β} {r : β} (hok : okDraw ops 0 ops.toList = true) :
    ∀ (c n : Nat) (a : Act) (L : Lay) (s : S) (w : World), ops.size - n = c → n ≤ ops.size → Rel w0 M0 L s a.tmps.toList w → opsK P E ops (ops.toList.drop n) s k = some r → (∀ a' w', Next' w0 M0 a k r a' w' → Q .normal a' w') →
      wpAny P .any ops Q (cnt (firstN ops.size n)) (firstN ops.size n) a w := by
  obtain ⟨hedge, hpair⟩ := okDraw_spec ops.toList 0 hok
  have edge : ∀ i o, ops[i]? = some o → ∀ e ∈ o.after, Region.binds .any e = true → e.on < i := fun i o ho e he hb => by
    have := hedge i o (by simpa using ho) e he hb; omega
  have pair : ∀ i j x y, ops[i]? = some x → ops[j]? = some y → i < j → PairOk ops i x y := fun i j x y hx hy hij => by
    have := hpair i j x y (by simpa using hx) (by simpa using hy) hij
    rw [Nat.zero_add, Nat.zero_add] at this
    exact okPair_spec this
  have dOf : ∀ i o t, ops[i]? = some o → dstOf ops i = some t → o.dst = some t := fun i o t ho hd => by simpa [dstOf, ho] using hd
  intro c
  induction c using Nat.strongRecOn with
  | _ c ih =>
    intro n a L s w hc hn R h hQ
    by_cases hN : n = ops.size
    · -- all have come up
      subst hN
      have hnil : ops.toList.drop ops.size = [] := List.drop_eq_nil_of_le (by simp)
      rw [hnil] at h
      refine wpAny_done ?_ (hQ a w ⟨s, L, R, rfl, h⟩) _
      rw [List.eq_nil_iff_forall_not_mem]
      intro i hi
      obtain ⟨h0, o, ho, _⟩ := mem_ready.1 hi
      have hiN := (Array.getElem?_eq_some_iff.1 ho).1
      rw [getD_of (firstN_get hiN)] at h0
      simp at h0; omega
    · have hlt : n < ops.size := by omega
      obtain ⟨o, ho⟩ : ∃ o, ops[n]? = some o := ⟨_, Array.getElem?_eq_getElem hlt⟩
      have hdrop : ops.toList.drop n = o :: ops.toList.drop (n + 1) := by
        rw [List.drop_eq_getElem_cons (by simpa using hlt)]
        congr 1
        have := Array.getElem?_eq_getElem hlt
        rw [ho] at this
        simpa using (Option.some.inj this).symm
      cases hq : quiet o.op with
      | false =>
        -- one that stands alone
        have hcnt := cnt_set (l := firstN ops.size n) (i := n) (by rw [firstN_get hlt]; simp)
        rw [firstN_set hlt] at hcnt
        rw [← hcnt]
        have hready : ∀ i, i ∈ Region.ready .any ops (firstN ops.size n) ↔ i = n := by
          intro i
          rw [mem_ready]
          constructor
          · rintro ⟨h0, o', ho', hall⟩
            have hiN := (Array.getElem?_eq_some_iff.1 ho').1
            rw [getD_of (firstN_get hiN)] at h0
            have hni : n ≤ i := by simpa using h0
            apply Classical.byContradiction
            intro hne
            rcases (pair n i o o' ho ho' (by omega)).ord with hb | ⟨hb, _⟩
            · obtain ⟨e, he, hbi, e1⟩ := boundTo_spec hb
              have := hall e he hbi
              rw [e1, getD_of (firstN_get hlt)] at this
              simp at this
            · rw [hq] at hb; cases hb
          · rintro rfl
            refine ⟨by rw [getD_of (firstN_get hlt)]; simp, o, ho, fun e he hb => ?_⟩
            have h1 := edge i o ho e he hb
            rw [getD_of (firstN_get (by omega))]; simpa using h1
        refine ⟨fun h0 => ?_, fun i hi => ?_⟩
        · have := (hready n).2 rfl; rw [h0] at this; cases this
        · obtain rfl := (hready i).1 hi
          rw [firstN_set hlt]
          rw [hdrop, opsK_eq] at h
          unfold wpOp
          simp only [ho]
          rcases guard_ok R h with ⟨hw, s1, L1, R1, hs⟩ | ⟨hw, s1, L1, R1, hs⟩
          · rw [hw, if_pos rfl]
            refine .inl (Oper.wp_mono (fun a' w' => ?_) (stepK_ok hE (Q := Q) R1 hs))
            rintro ⟨s', L', R', hd, hk⟩
            refine ih (ops.size - (i + 1)) (by omega) (i + 1) a' L' s' w' rfl (by omega) R' hk fun a'' w'' => ?_
            rintro ⟨s2, L2, R2, hd2, hk2⟩
            exact hQ a'' w'' ⟨s2, L2, R2, hd2.trans hd, hk2⟩
          · rw [hw, if_neg (by simp)]
            refine ih (ops.size - (i + 1)) (by omega) (i + 1) _ L1 s1 w rfl (by omega) (by rw [put_tmps]; exact R1) hs fun a'' w'' => ?_
            rintro ⟨s2, L2, R2, hd2, hk2⟩
            exact hQ a'' w'' ⟨s2, L2, R2, hd2.trans (put_defers _ _ _), hk2⟩
      | true =>
        -- a run of quiet ones
        have hsplit : (ops.toList.drop n).takeWhile (fun o => quiet o.op) ++ (ops.toList.drop n).dropWhile (fun o => quiet o.op) = ops.toList.drop n := List.takeWhile_append_dropWhile
        generalize hl1 : (ops.toList.drop n).takeWhile (fun o => quiet o.op) = l1 at hsplit
        generalize hl2 : (ops.toList.drop n).dropWhile (fun o => quiet o.op) = l2 at hsplit
        have hpos : 0 < l1.length := by rw [← hl1, hdrop, List.takeWhile_cons, hq]; simp
        have hlen : l1.length + l2.length = ops.size - n := by
          have := congrArg List.length hsplit
          simpa using this
        have hquiet : ∀ x ∈ l1, quiet x.op = true := by
          intro x hx
          rw [← hl1] at hx
          exact takeWhile_all _ _ x hx
        have hget : ∀ j x, n ≤ j → j < n + l1.length → ops[j]? = some x → quiet x.op = true := by
          intro j x h1 h2 hx
          refine hquiet x (List.mem_of_getElem? (i := j - n) ?_)
          have e : (ops.toList.drop n)[j - n]? = some x := by
            rw [List.getElem?_drop, show n + (j - n) = j by omega]; simpa using hx
          rw [← hsplit, List.getElem?_append_left (by omega)] at e
          exact e
        have hrest : ops.toList.drop (n + l1.length) = l2 := by
          rw [← List.drop_drop, ← hsplit, List.drop_left]
        have hloud : ∀ x, ops[n + l1.length]? = some x → quiet x.op = false := by
          intro x hx
          have hm := (Array.getElem?_eq_some_iff.1 hx).1
          have e : l2[0]? = some x := by
            rw [← hrest, List.getElem?_drop, Nat.add_zero]; simpa using hx
          have := List.head?_dropWhile_not (fun o : Oper => quiet o.op) (ops.toList.drop n)
          rw [hl2, List.head?_eq_getElem?, e] at this
          simpa using this
        rw [← hsplit] at h
        obtain ⟨U, hU, s', L', R', hk⟩ := quietRun l1 n a L s hsplit.symm hquiet R h
        have G : SegOk ops n (n + l1.length) := by
          refine ⟨by omega, by omega, ?_, ?_, ?_, ?_, ?_⟩
          · intro i j t h1 h2 h3 h4 h5 h6
            obtain ⟨x, hx⟩ : ∃ o, ops[i]? = some o := ⟨_, Array.getElem?_eq_getElem (by omega)⟩
            obtain ⟨y, hy⟩ : ∃ o, ops[j]? = some o := ⟨_, Array.getElem?_eq_getElem (by omega)⟩
            rcases Nat.lt_trichotomy i j with h | h | h
            · exact ((pair i j x y hx hy h).dst t (dOf i x t hx h5) (dOf j y t hy h6)).elim
            · exact h
            · exact ((pair j i y x hy hx h).dst t (dOf j y t hy h6) (dOf i x t hx h5)).elim
          · intro i j y t h1 h2 h3 h4 hy h5 h6
            obtain ⟨x, hx⟩ : ∃ o, ops[i]? = some o := ⟨_, Array.getElem?_eq_getElem (by omega)⟩
            rcases Nat.lt_trichotomy i j with h | h | h
            · rcases (pair i j x y hx hy h).ord with hb | ⟨_, _, hb⟩
              · exact .inl ⟨h, hb⟩
              · exact (hb t (dOf i x t hx h5) h6).elim
            · exact .inr h
            · exact ((pair j i y x hy hx h).back t (dOf i x t hx h5) h6).elim
          · exact fun j o _ _ ho => edge j o ho
          · intro j y h1 h2 hy
            obtain ⟨z, hz⟩ : ∃ o, ops[n + l1.length]? = some o := ⟨_, Array.getElem?_eq_getElem (by omega)⟩
            have hzl := hloud z hz
            by_cases he : j = n + l1.length
            · subst he
              rw [hy] at hz; cases hz
              refine .inl fun i g1 g2 => ?_
              obtain ⟨x, hx⟩ : ∃ o, ops[i]? = some o := ⟨_, Array.getElem?_eq_getElem (by omega)⟩
              rcases (pair i _ x y hx hy (by omega)).ord with hb | ⟨_, hb, _⟩
              · exact hb
              · rw [hzl] at hb; cases hb
            · refine .inr ⟨n + l1.length, Nat.le_refl _, by omega, ?_⟩
              rcases (pair _ j z y hz hy (by omega)).ord with hb | ⟨hb, _⟩
              · exact hb
              · rw [hzl] at hb; cases hb
          · exact fun j o h1 h2 ho => quiet_sel (hget j o h1 h2 ho)
        refine segAny G (fun j o h1 h2 ho => hU j o h1 h2 ho) ?_ _ _ a ⟨firstN_size _ _, fun i h1 h2 => by rw [firstN_get h2]; simp [h1], fun i h1 h2 => by rw [firstN_get h2]; simp; omega, rfl, rfl, ?_, fun _ _ => rfl⟩ rfl
        · rw [show n + l1.length - n = l1.length by omega]
          refine ih (ops.size - (n + l1.length)) (by omega) (n + l1.length) _ L' s' w rfl (by omega) R' (by rw [hrest]; exact hk) fun a'' w'' => ?_
          rintro ⟨s2, L2, R2, hd2, hk2⟩
          exact hQ a'' w'' ⟨s2, L2, R2, hd2.trans (runFrom_size U _ _ _).2, hk2⟩
        · intro i t h1 h2 h3 h4 h5
          rw [firstN_get (by omega)] at h4
          simp at h4; omega
end
end Go.Cm

namespace Go.Cm
section
variable {w0 : World} {M0 : Io} {L L' : Lay} {s s' : S} {tmps : List Value} {w w' : World} {β : Type} {P : Program} {a : Act} {Q : Exit → Act → World → Prop}

theorem keepTm_get (m : Nat) : ∀ (l : List V) (i j : Nat), (keepTm m i l)[j]? = none ∨ ∃ v, l[j]? = some v ∧ ((keepTm m i l)[j]? = some v ∨ (keepTm m i l)[j]? = some .undef)
  | [], i, j => .inl (by simp [keepTm])
  | v :: vs, i, j => by
    cases j with
    | zero =>
      right
      refine ⟨v, rfl, ?_⟩
      simp only [keepTm]
      cases m.testBit i <;> simp
    | succ j => simpa [keepTm] using keepTm_get m vs (i + 1) j
theorem keepTm_length (m : Nat) : ∀ (l : List V) (i : Nat), (keepTm m i l).length = l.length
  | [], i => rfl
  | v :: vs, i => by simp [keepTm, keepTm_length m vs (i + 1)]
theorem find_filterId (p : Nat → Bool) (a : Nat) : ∀ l : List (Nat × Bool × List V), S.find a (l.filter fun r => p r.1) = if p a = true then S.find a l else none
  | [] => by simp [S.find]
  | r :: rs => by
    have ih := find_filterId p a rs
    cases hp : p r.1 with
    | true =>
      rw [List.filter_cons_of_pos (by simp [hp]), S.find, ih]
      cases h : Nat.beq r.1 a with
      | true => rw [beq_true] at h; subst h; simp only [S.find, Nat.beq_refl, hp, if_true]
      | false => simp only [S.find, h]
    | false =>
      rw [List.filter_cons_of_neg (by simp [hp]), ih]
      by_cases ha : p a = true
      · rw [if_pos ha, if_pos ha, S.find, (beq_false r.1 a).2 (fun e => by rw [e, ha] at hp; cases hp)]
      · rw [if_neg ha, if_neg ha]
theorem Rel.keep (R : Rel w0 M0 L s tmps w) (pin m : Nat) : Rel w0 M0 L (s.keep pin m) tmps w := by
  have hf : ∀ i r, S.find i (s.keep pin m).ob = some r → S.find i s.ob = some r := by
    intro i r h
    simp only [S.keep] at h
    rw [find_filterId (fun j => Nat.ble j pin || Nat.ble PR j || V.menRL true j (keepTm m 0 s.tm) || s.ob.any fun q => !Nat.beq q.1 j && V.menRL true j q.2.2)] at h
    split at h
    · exact h
    · cases h
  refine R.same (by simp only [S.keep, keepTm_length]; exact R.tlen) (fun i o v hv => ?_) (fun i agg cells h => ⟨cells, hf i _ h, rfl⟩)
  cases i with
  | zero =>
    have hv' : (keepTm m 0 s.tm)[o]? = some v := hv
    rcases keepTm_get m s.tm 0 o with h | ⟨v0, h1, h2⟩
    · rw [h] at hv'; cases hv'
    · refine .inr ⟨v0, h1, ?_, rfl⟩
      rcases h2 with h2 | h2 <;> rw [h2] at hv' <;> cases hv'
      · exact .inl rfl
      · exact .inr rfl
  | succ i =>
    obtain ⟨agg, cells, h1, h2⟩ := S.find_of_cell hv
    have := hf _ _ h1
    exact .inr ⟨v, by simp [S.cell, S.row, this, h2], .inl rfl, rfl⟩

theorem Lp.of_some {σ α : Type} {f : σ → Option (σ ⊕ α)} {s : σ} {r : α} (h : Lp f s = some r) : ∃ n, Lp.iter f n s = some r := by
  unfold Lp at h
  split at h
  · rename_i hx
    cases h
    exact ⟨_, Classical.choose_spec (Classical.choose_spec hx)⟩
  · cases h
theorem Lp.iter_add {σ α : Type} {f : σ → Option (σ ⊕ α)} : ∀ (n m : Nat) (s : σ) (r : α), Lp.iter f n s = some r → Lp.iter f (n + m) s = some r
  | 0, m, s, r, h => by simp [Lp.iter] at h
  | n + 1, m, s, r, h => by
    rw [show n + 1 + m = (n + m) + 1 by omega]
    simp only [Lp.iter] at h ⊢
    cases hf : f s with
    | none => rw [hf] at h; cases h
    | some x =>
      rw [hf] at h
      cases x with
      | inl s' => exact Lp.iter_add n m s' r h
      | inr r' => exact h
theorem Lp.eq_of {σ α : Type} {f : σ → Option (σ ⊕ α)} {n : Nat} {s : σ} {r : α} (h : Lp.iter f n s = some r) : Lp f s = some r := by
  have hx : ∃ n r, Lp.iter f n s = some r := ⟨n, r, h⟩
  unfold Lp
  rw [dif_pos hx]
  have h2 := Classical.choose_spec (Classical.choose_spec hx)
  have a := Lp.iter_add _ (Classical.choose hx) _ _ h
  have b := Lp.iter_add _ n _ _ h2
  rw [Nat.add_comm] at b
  rw [a] at b
  exact b.symm ▸ rfl

/-- A loop by counted rounds. -/
theorem wp_rounds {c : Code} (I : Nat → Act → World → Prop) {n : Nat} (h0 : I n a w)
    (round : ∀ n a w, I n a w → c.wp P (Exit.then (fun a' w' => ∃ m, m < n ∧ I m a' w') Q) a w) : (Code.loop c).wp P Q a w := by
  have least : ∀ a w, (∃ n, I n a w) → ∃ n, I n a w ∧ ∀ m, I m a w → n ≤ m := by
    rintro a w ⟨n, hn⟩
    induction n using Nat.strongRecOn with
    | _ n ih =>
      by_cases h : ∃ m, m < n ∧ I m a w
      · obtain ⟨m, h1, h2⟩ := h; exact ih m h1 h2
      · exact ⟨n, hn, fun m hm => Nat.le_of_not_lt fun hlt => h ⟨m, hlt, hm⟩⟩
  open Classical in
  refine wp_loop (fun a w => ∃ n, I n a w) (fun a w => if h : ∃ n, I n a w then Classical.choose (least a w h) else 0) ⟨n, h0⟩ fun a w hI => ?_
  have hc := Classical.choose_spec (least a w hI)
  refine wp_mono (round _ a w hc.1) fun e a' w' => ?_
  cases e with
  | normal =>
    rintro ⟨m, hlt, hm⟩
    refine ⟨⟨m, hm⟩, ?_⟩
    rw [dif_pos hI, dif_pos ⟨m, hm⟩]
    have h2 := Classical.choose_spec (least a' w' ⟨m, hm⟩)
    exact Nat.lt_of_le_of_lt (h2.2 m hm) hlt
  | _ => exact id
end
end Go.Cm

namespace Go.Cm
section
variable {w0 : World} {M0 : Io} {L L' : Lay} {s s' : S} {tmps : List Value} {w w' : World} {β : Type} {P : Program} {a : Act} {Q : Exit → Act → World → Prop}

/-- Behind code. -/
def Post (w0 : World) (M0 : Io) (a0 : Act) (k : Ex → S → Option β) (r : β) : Exit → Act → World → Prop
  | .normal, a', w' => ∃ s' L', Rel w0 M0 L' s' a'.tmps.toList w' ∧ a'.defers = a0.defers ∧ k .norm s' = some r
  | .exit id, a', w' => ∃ s' L', Rel w0 M0 L' s' a'.tmps.toList w' ∧ a'.defers = a0.defers ∧ k (.exit id) s' = some r
  | .ret, a', w' => ∃ s' L', Rel w0 M0 L' s' a'.tmps.toList w' ∧ a'.defers = a0.defers ∧ k .ret s' = some r
  | _, _, _ => False

theorem evalK_ok {gl : Gl} {X : Fx} (hE : EnvAt gl X.P X.E w0 M0) (hm : X.P.follows .mixedOrders = true) : ∀ (c : Code) (β : Type) (xs : List (Nat × Nat)) (out : Nat) (s : S) (k : Ex → S → Option β) (r : β) (a : Act) (w : World) (L : Lay),
    Rel w0 M0 L s a.tmps.toList w → evalK X xs c out s k = some r → c.wp X.P (Post w0 M0 a k r) a w := by
  intro c
  induction c with
  | skip => exact fun β xs out s k r a w L R h => wp_skip ⟨s, L, R, rfl, by simpa only [evalK] using h⟩
  | exit id => exact fun β xs out s k r a w L R h => wp_exit ⟨s, L, R, rfl, by simpa only [evalK] using h⟩
  | ret => exact fun β xs out s k r a w L R h => wp_ret ⟨s, L, R, rfl, by simpa only [evalK] using h⟩
  | region id ops draw =>
    intro β xs out s k r a w L R h
    simp only [evalK] at h
    cases draw with
    | false =>
      simp only at h
      refine wp_region ?_
      have := opsK_ok (Q := Post w0 M0 a k r) hE ops.toList 0 a L s w (by simp) R h (fun a' w' h => h)
      rwa [Array.length_toList, ← List.range_eq_range'] at this
    | true =>
      simp only at h
      split at h
      · rename_i hok
        refine wp_region_any hm ?_
        have := drawAny (Q := Post w0 M0 a k r) hE hok ops.size 0 a L s { w with drawn := w.drawn + 1 } (by omega) (by omega) (R.drew _) (by simpa using h) (fun a' w' h => h)
        rw [firstN_zero]
        have hc : cnt (firstN ops.size 0) = ops.size := by
          rw [← firstN_zero]; simp [cnt]
        rwa [hc] at this
      · cases h
  | seq x y ihx ihy =>
    intro β xs out s k r a w L R h
    simp only [evalK] at h
    refine wp_seq (wp_mono (ihx β _ _ s _ r a w L R h) fun e a' w' => ?_)
    cases e with
    | normal =>
      rintro ⟨s', L', R', hd, hk⟩
      refine wp_mono (ihy β _ _ s' _ r a' w' L' R' hk) fun e a'' w'' => ?_
      cases e <;> simp only [Post] <;> first | exact id | (rintro ⟨s2, L2, R2, hd2, hk2⟩; exact ⟨s2, L2, R2, hd2.trans hd, hk2⟩)
    | exit id => exact fun h => h
    | ret => exact fun h => h
    | _ => exact fun h => h
  | cond c x y ihx ihy =>
    intro β xs out s k r a w L R h
    simp only [evalK] at h
    obtain ⟨v, hv, h1⟩ := rdK_ok R rfl h
    clear h
    split at h1
    · rename_i t sh b
      simp only [RW, RA] at hv
      have fin : ∀ e a' w', Post w0 M0 a (fun ex s => match ex with | .norm => k .norm (s.keep X.pin out) | ex => k ex s) r e a' w' → Post w0 M0 a k r e a' w' := by
        intro e a' w'
        cases e with
        | normal => rintro ⟨s', L', R', hd, hk⟩; exact ⟨_, L', R'.keep _ _, hd, hk⟩
        | exit id => exact fun h => h
        | ret => exact fun h => h
        | _ => exact fun h => h
      refine wp_cond_split hv.2 (fun ht => ?_) (fun hf => ?_)
      · rw [if_pos ht] at h1
        exact wp_mono (ihx β _ _ s _ r a w L R h1) fin
      · rw [if_neg (by rw [hf]; simp)] at h1
        exact wp_mono (ihy β _ _ s _ r a w L R h1) fin
    · cases h1
  | block id b ih =>
    intro β xs out s k r a w L R h
    simp only [evalK] at h
    refine wp_block (wp_mono (ih β _ _ s _ r a w L R h) fun e a' w' => ?_)
    cases e with
    | normal => rintro ⟨s', L', R', hd, hk⟩; exact ⟨_, L', R'.keep _ _, hd, hk⟩
    | exit j =>
      rintro ⟨s', L', R', hd, hk⟩
      simp only [Exit.inBlock]
      simp only at hk
      split at hk
      · rename_i hj
        rw [beq_true] at hj
        rw [if_pos hj]
        exact ⟨_, L', R'.keep _ _, hd, hk⟩
      · rename_i hj
        rw [beq_false] at hj
        rw [if_neg hj]
        exact ⟨s', L', R', hd, hk⟩
    | ret => exact fun h => h
    | _ => exact fun h => h
  | loop b ih =>
    intro β xs out s k r a w L R h
    simp only [evalK] at h
    split at h
    · rename_i ex s2 hlp
      obtain ⟨n, hn⟩ := Lp.of_some hlp
      refine wp_rounds (fun n a' w' => ∃ s' L', Rel w0 M0 L' s' a'.tmps.toList w' ∧ a'.defers = a.defers ∧ Lp.iter _ n s' = some (ex, s2)) ⟨_, L, R.keep _ _, rfl, hn⟩ ?_
      rintro n a1 w1 ⟨s1, L1, R1, hd1, hi⟩
      cases n with
      | zero => simp [Lp.iter] at hi
      | succ n =>
        simp only [Lp.iter] at hi
        split at hi
        · rename_i s3 hf
          refine wp_mono (ih _ _ _ s1 _ _ a1 w1 L1 R1 hf) fun e a' w' => ?_
          cases e with
          | normal =>
            rintro ⟨s', L', R', hd, hk⟩
            simp only [Option.some.injEq, Sum.inl.injEq] at hk
            subst hk
            exact ⟨n, Nat.lt_succ_self n, _, L', R'.keep _ _, hd.trans hd1, hi⟩
          | exit id => rintro ⟨s', L', R', hd, hk⟩; simp at hk
          | ret => rintro ⟨s', L', R', hd, hk⟩; simp at hk
          | _ => exact fun h => h
        · rename_i res hf
          cases hi
          refine wp_mono (ih _ _ _ s1 _ _ a1 w1 L1 R1 hf) fun e a' w' => ?_
          cases e with
          | normal => rintro ⟨s', L', R', hd, hk⟩; simp at hk
          | exit id =>
            rintro ⟨s', L', R', hd, hk⟩
            simp only [Option.some.injEq, Sum.inr.injEq, Prod.mk.injEq] at hk
            obtain ⟨rfl, rfl⟩ := hk
            exact ⟨_, L', R'.keep _ _, hd.trans hd1, h⟩
          | ret =>
            rintro ⟨s', L', R', hd, hk⟩
            simp only [Option.some.injEq, Sum.inr.injEq, Prod.mk.injEq] at hk
            obtain ⟨rfl, rfl⟩ := hk
            exact ⟨_, L', R'.keep _ _, hd.trans hd1, h⟩
          | _ => exact fun h => h
        · cases hi
    · cases h
  | _ => intro β xs out s k r a w L R h; simp [evalK] at h
end
end Go.Cm

namespace Go.Cm
section
variable {w0 : World} {M0 : Io} {L L' : Lay} {s s' : S} {tmps : List Value} {w w' : World} {β : Type} {P : Program} {a : Act} {H : Hp} {F : Fr}

/-- What a lay must hold for the arguments. -/
structure Begins (L' : Lay) (KH : List (Key × Hdr)) (j : Nat) (rows : Rows) : Prop where
  has : ∀ kh ∈ KH, L'.k kh.1 = some kh.2
  no : ∀ k : Key, k.row ∈ ids rows → (∀ kh ∈ KH, kh.1 ≠ k) → L'.k k = none
  own : ∀ i, j ≤ i → (∀ kh ∈ KH, kh.1 ≠ .pl (PR + i) 0) → L'.k (.pl (PR + i) 0) = none
/-- What came in to be written, at the row that stands for it. -/
def OwnFact (L' : Lay) (H : Hp) (F : Fr) (j : Nat) (us : List Value) (r : Nat × Bool × List V) : Prop :=
  ∃ i v u, j ≤ i ∧ r = (PR + i, true, [v]) ∧ us[i - j]? = some u ∧ RV L' H F (PR + i) 0 v u

theorem startK_ok : ∀ (xs : List TV) (j : Nat) (us : List Value) (M : List Nat) (vs : List V) (rows owns : Rows), RTs H F xs us M → startK j xs = some (vs, rows, owns) →
    ∃ KH : List (Key × Hdr), KH.map (·.2.block) = M ∧ (∀ kh ∈ KH, kh.1.row ∈ ids rows ∨ ∃ i, j ≤ i ∧ kh.1 = .pl (PR + i) 0) ∧ vs.length = us.length ∧
      ((ids rows).Nodup → (∀ r ∈ rows, r.1 < PS) → (KH.map (·.1)).Nodup ∧ ∀ L', Begins L' KH j rows → RWL L' H F vs us ∧ (∀ r ∈ rows, RowFact L' H F r) ∧ ∀ r ∈ owns, OwnFact L' H F j us r)
  | [], j, us, M, vs, rows, owns, hr, h => by
    simp only [startK] at h
    cases h
    simp only [RTs] at hr
    obtain ⟨rfl, rfl⟩ := hr
    exact ⟨[], rfl, by simp, rfl, fun _ _ => ⟨by simp, fun L' _ => ⟨by simp [RWL], by simp, by simp⟩⟩⟩
  | x :: xs, j, us, M, vs, rows, owns, hr, h => by
    simp only [RTs] at hr
    obtain ⟨u, rest, M1, M2, rfl, rfl, h1, h2⟩ := hr
    simp only [startK] at h
    split at h
    · cases h
    · rename_i vs' rows' owns' hs
      obtain ⟨K2, e2, k2, l2, f2⟩ := startK_ok xs (j + 1) rest M2 vs' rows' owns' h2 hs
      have shift : ∀ {u : Value} {r : Nat × Bool × List V} {L' : Lay}, OwnFact L' H F (j + 1) rest r → OwnFact L' H F j (u :: rest) r := by
        rintro u r L' ⟨i, v, u', h1, h2, h3, h5⟩
        refine ⟨i, v, u', by omega, h2, ?_, h5⟩
        rw [show i - j = (i - (j + 1)) + 1 by omega]; simpa using h3
      split at h
      · -- data
        rename_i t sh y
        cases h
        simp only [RT] at h1
        obtain ⟨rfl, g1, g2⟩ := h1
        refine ⟨K2, by simpa using e2, fun kh hkh => (k2 kh hkh).imp id fun ⟨i, hi, e⟩ => ⟨i, by omega, e⟩, by simp [l2], fun hn hlt => ?_⟩
        obtain ⟨d2, g⟩ := f2 hn hlt
        refine ⟨d2, fun L' B => ?_⟩
        obtain ⟨q1, q2, q3⟩ := g L' ⟨B.has, B.no, fun i hi hno => B.own i (by omega) hno⟩
        exact ⟨by simp only [RWL]; exact ⟨u, rest, rfl, by simp only [RW]; exact ⟨g1, g2⟩, q1⟩, q2, fun r hr => shift (q3 r hr)⟩
      · -- a slice
        rename_i t sh ys
        cases h
        simp only [RT] at h1
        obtain ⟨hs, h1⟩ := h1
        have hne : ∀ kh ∈ K2, (∀ r ∈ rows, r.1 < PS) → kh.1 ≠ .pl (PR + j) 0 := by
          intro kh hkh hlt e
          rcases k2 kh hkh with h | ⟨i, hi, e'⟩
          · rw [e] at h
            obtain ⟨r, hr, e2⟩ := List.mem_map.1 h
            have := hlt r hr
            simp only [Key.row] at e2
            rw [e2] at this
            simp [PR, PS] at this; omega
          · rw [e] at e'; injection e' with e' _; omega
        rcases h1 with ⟨rfl, rfl, rfl⟩ | ⟨hd, rfl, g1, g2, g3, rfl⟩
        · refine ⟨K2, by simpa using e2, fun kh hkh => (k2 kh hkh).imp id fun ⟨i, hi, e⟩ => ⟨i, by omega, e⟩, by simp [l2], fun hn hlt => ?_⟩
          obtain ⟨d2, g⟩ := f2 hn hlt
          refine ⟨d2, fun L' B => ?_⟩
          obtain ⟨q1, q2, q3⟩ := g L' ⟨B.has, B.no, fun i hi hno => B.own i (by omega) hno⟩
          have hk := B.own j (Nat.le_refl _) (fun kh hkh => hne kh hkh hlt)
          have hrw : RW L' H F (.bf (PR + j) 0) (.slice none 0 0) := by simp only [RW]; rw [hk]; exact trivial
          refine ⟨by simp only [RWL]; exact ⟨_, rest, rfl, hrw, q1⟩, q2, fun r hr => ?_⟩
          rcases List.mem_cons.1 hr with rfl | hr
          · exact ⟨j, .own t sh [], .slice none 0 0, Nat.le_refl _, rfl, by simp, by simp, by rw [hk]; exact ⟨rfl, rfl⟩⟩
          · exact shift (q3 r hr)
        · refine ⟨(.pl (PR + j) 0, hd) :: K2, by simp [e2], fun kh hkh => ?_, by simp [l2], fun hn hlt => ?_⟩
          · rcases List.mem_cons.1 hkh with rfl | hkh
            · exact .inr ⟨j, Nat.le_refl _, rfl⟩
            · exact (k2 kh hkh).imp id fun ⟨i, hi, e⟩ => ⟨i, by omega, e⟩
          obtain ⟨d2, g⟩ := f2 hn hlt
          refine ⟨by
            simp only [List.map_cons, List.nodup_cons]
            refine ⟨fun hm => ?_, d2⟩
            obtain ⟨kh, m, e⟩ := List.mem_map.1 hm
            exact hne kh m hlt e, fun L' B => ?_⟩
          obtain ⟨q1, q2, q3⟩ := g L' ⟨fun kh hkh => B.has kh (.tail _ hkh), fun k hk hno => B.no k hk fun kh hkh e => by
              rcases List.mem_cons.1 hkh with rfl | hkh
              · rw [← e] at hk
                obtain ⟨r, hr, e2⟩ := List.mem_map.1 hk
                have := hlt r hr
                simp only [Key.row] at e2
                rw [e2] at this
                simp [PR, PS] at this; omega
              · exact hno kh hkh e, fun i hi hno => B.own i (by omega) fun kh hkh e => by
              rcases List.mem_cons.1 hkh with rfl | hkh
              · injection e with e _; omega
              · exact hno kh hkh e⟩
          have hk := B.has (.pl (PR + j) 0, hd) (.head _)
          simp only at hk
          have hrw : RW L' H F (.bf (PR + j) 0) (.slice (some ⟨hd.block, hd.off, none⟩) ys.length hd.cap) := by simp only [RW]; rw [hk]; simp only; rw [g1]
          refine ⟨by simp only [RWL]; exact ⟨_, rest, rfl, hrw, q1⟩, q2, fun r hr => ?_⟩
          rcases List.mem_cons.1 hr with rfl | hr
          · refine ⟨j, .own t sh ys, .slice (some ⟨hd.block, hd.off, none⟩) ys.length hd.cap, Nat.le_refl _, rfl, by simp, hs, ?_⟩
            rw [hk]; exact ⟨rfl, g1, g2, g3⟩
          · exact shift (q3 r hr)
      · -- an object
        rename_i agg cells
        split at h
        · rename_i cs below htk
          cases h
          simp only [RT] at h1
          obtain ⟨b, arr, ety, Ms, rfl, g1, rfl, g2⟩ := h1
          obtain ⟨K1, e1, k1, l1, f1⟩ := (takes_ok deep).1 (j + 1) 0 cells arr.toList Ms cs below g2 htk
          have hids : ids ((j + 1, agg, cs) :: below ++ rows') = (j + 1) :: (ids below ++ ids rows') := by simp [ids]
          refine ⟨(.ob (j + 1), ⟨b, 0, 0, 0, 0⟩) :: (K1 ++ K2), by simp [e1, e2], fun kh hkh => ?_, by simp [l2], fun hn hlt => ?_⟩
          · rw [hids]
            rcases List.mem_cons.1 hkh with rfl | hkh
            · exact .inl (.head _)
            · rcases List.mem_append.1 hkh with hkh | hkh
              · rcases keysIn_row (k1 kh hkh) with h | h
                · rw [h]; exact .inl (.head _)
                · exact .inl (.tail _ (List.mem_append_left _ h))
              · rcases k2 kh hkh with h | ⟨i, hi, e⟩
                · exact .inl (.tail _ (List.mem_append_right _ h))
                · exact .inr ⟨i, by omega, e⟩
          · rw [hids, List.nodup_cons, List.nodup_append] at hn
            simp only [List.mem_append, not_or] at hn
            obtain ⟨⟨n1, n2⟩, n3, n4, n5⟩ := hn
            obtain ⟨d1, f1⟩ := f1 n3 n1
            obtain ⟨d2, f2⟩ := f2 n4 (fun r hr => hlt r (List.mem_append_right _ hr))
            have hidlt : ∀ i ∈ (j + 1) :: (ids below ++ ids rows'), i < PS := by
              intro i hi
              rw [← hids] at hi
              obtain ⟨r, hr, e⟩ := List.mem_map.1 hi
              rw [← e]; exact hlt r hr
            have krow : ∀ kh ∈ K1, kh.1.row = j + 1 ∨ kh.1.row ∈ ids below := fun kh hkh => keysIn_row (k1 kh hkh)
            have krow1 : ∀ kh ∈ K1, kh.1.row ∈ (j + 1) :: ids below := fun kh hkh => by
              rcases krow kh hkh with h | h
              · rw [h]; exact .head _
              · exact .tail _ h
            have apart : ∀ k : Key, k.row ∈ (j + 1) :: ids below → ∀ kh ∈ K2, kh.1 ≠ k := by
              intro k hk kh hkh e
              have hkl : k.row < PS := hidlt _ (by rcases List.mem_cons.1 hk with h | h; rw [h]; exact .head _; exact .tail _ (List.mem_append_left _ h))
              rcases k2 kh hkh with h | ⟨i, hi, e'⟩
              · rw [e] at h
                rcases List.mem_cons.1 hk with h' | h'
                · rw [h'] at h; exact n2 h
                · exact n5 _ h' _ h rfl
              · rw [e] at e'; rw [e'] at hkl; simp [Key.row, PR, PS] at hkl; omega
            have hob : ∀ kh ∈ K1, kh.1 ≠ .ob (j + 1) := fun kh hkh => keysIn_ne n1 (k1 kh hkh)
            refine ⟨?_, fun L' B => ?_⟩
            · simp only [List.map_cons, List.nodup_cons, List.map_append, List.mem_append, not_or, List.nodup_append]
              refine ⟨⟨fun hm => ?_, fun hm => ?_⟩, d1, d2, fun k hk k' hk' e => ?_⟩
              · obtain ⟨kh, m, e⟩ := List.mem_map.1 hm; exact hob kh m e
              · obtain ⟨kh, m, e⟩ := List.mem_map.1 hm; exact apart _ (by exact .head _) kh m e
              · subst e
                obtain ⟨kh, m1, e1⟩ := List.mem_map.1 hk
                obtain ⟨kh', m2, e2⟩ := List.mem_map.1 hk'
                exact apart k (by rw [← e1]; exact krow1 kh m1) kh' m2 e2
            · have hno := B.no
              rw [hids] at hno
              obtain ⟨q1, q2⟩ := f1 L' ⟨fun kh hkh => B.has kh (.tail _ (List.mem_append_left _ hkh)), fun k hk hn => by
                have hr := keysIn_row hk
                have hr' : k.row ∈ (j + 1) :: ids below := by
                  rcases hr with h | h
                  · rw [h]; exact .head _
                  · exact .tail _ h
                refine hno k (by rcases List.mem_cons.1 hr' with h | h; rw [h]; exact .head _; exact .tail _ (List.mem_append_left _ h)) fun kh hkh e => ?_
                rcases List.mem_cons.1 hkh with rfl | hkh
                · exact keysIn_ne n1 hk e.symm
                · rcases List.mem_append.1 hkh with hkh | hkh
                  · exact hn kh hkh e
                  · exact apart k hr' kh hkh e⟩
              obtain ⟨q3, q4, q5⟩ := f2 L' ⟨fun kh hkh => B.has kh (.tail _ (List.mem_append_right _ hkh)), fun k hk hn => hno k (.tail _ (List.mem_append_right _ hk)) fun kh hkh e => by
                rcases List.mem_cons.1 hkh with rfl | hkh
                · rw [← e] at hk; exact n2 hk
                · rcases List.mem_append.1 hkh with hkh | hkh
                  · rw [← e] at hk
                    rcases krow kh hkh with h | h
                    · rw [h] at hk; exact n2 hk
                    · exact n5 _ h _ hk rfl
                  · exact hn kh hkh e, fun i hi hn => B.own i (by omega) fun kh hkh e => by
                rcases List.mem_cons.1 hkh with rfl | hkh
                · cases e
                · rcases List.mem_append.1 hkh with hkh | hkh
                  · have h1 := krow1 kh hkh
                    rw [e] at h1
                    have := hidlt (Key.pl (PR + i) 0).row (by rcases List.mem_cons.1 h1 with h | h; rw [h]; exact .head _; exact .tail _ (List.mem_append_left _ h))
                    simp [Key.row, PR, PS] at this; omega
                  · exact hn kh hkh e⟩
              have hk := B.has (.ob (j + 1), ⟨b, 0, 0, 0, 0⟩) (.head _)
              simp only at hk
              refine ⟨?_, fun r hr => ?_, fun r hr => ?_⟩
              · simp only [RWL]
                exact ⟨_, rest, rfl, by simp only [RW]; exact ⟨_, hk, rfl⟩, q3⟩
              · rcases List.mem_cons.1 hr with rfl | hr
                · exact ⟨_, arr, ety, hk, g1, by rw [l1, ← RTs.length g2, Array.length_toList], fun q v hv => by
                    obtain ⟨u, h1, h2⟩ := q1 q v hv
                    rw [Nat.zero_add] at h2
                    exact ⟨u, by simpa using h1, h2⟩⟩
                · rcases List.mem_append.1 hr with h | h
                  · exact q2 r h
                  · exact q4 r h
              · rcases List.mem_cons.1 hr with rfl | hr
                · exact ⟨j, .rp (j + 1) 0, _, Nat.le_refl _, rfl, by simp; rfl, by simp only [RV, RW]; exact ⟨_, hk, rfl⟩⟩
                · exact shift (q5 r hr)
        · cases h
end
end Go.Cm

namespace Go.Cm
section
variable {w0 : World} {M0 : Io} {L L' : Lay} {s s' : S} {tmps : List Value} {w w' : World} {β : Type} {P : Program} {a : Act} {H : Hp} {F F' : Fr}

theorem RWL.mono' (hF : ∀ t b, F t b → F' t b) : ∀ {vs : List V} {us : List Value}, RWL L H F vs us → RWL L H F' vs us := fun {vs us} h =>
  RWL.mono (B := fun _ => False) (fun _ _ => rfl) (fun t b hb => ⟨hF t b hb, rfl⟩) vs us (by
    have key : ∀ vs : List V, V.offL (fun _ => False) vs := fun vs => by
      induction vs with
      | nil => simp [V.offL]
      | cons v vs ih => exact ⟨v.off_none, ih⟩
    exact key vs) h

/-- The lay of a function's first state. -/
def firstL (KH : List (Key × Hdr)) (us : List Value) : Lay := ⟨fun k => look k KH, fun i => (us[i - PR]?).toList⟩

theorem start_rel {xs : List TV} {us : List Value} {M : List Nat} {g : Nat → Prop} {vs : List V} {rows owns : Rows} (hr : RTs (hp w) (Fin w M g) xs us M) (hM : M.Nodup) (hs : startK 0 xs = some (vs, rows, owns))
    (hn : (ids rows).Nodup) (hi : ∀ r ∈ rows, r.1 ≠ 0 ∧ r.1 < PS) (n : Nat) :
    ∃ L, Rel w ⟨fun b => b ∈ M, g, fun i => (us[i - PR]?).toList⟩ L ⟨vs ++ List.replicate (n - vs.length) (.tup []), rows ++ owns⟩ (us ++ List.replicate (n - us.length) undef) w ∧ (∀ k h, L.k k = some h → h.block ∈ M) := by
  obtain ⟨KH, e1, k1, l1, f1⟩ := startK_ok xs 0 us M vs rows owns hr hs
  obtain ⟨d1, f1⟩ := f1 hn (fun r hr => (hi r hr).2)
  have hblk : ∀ k h, (firstL KH us).k k = some h → h.block ∈ M := fun k h hk => by
    rw [← e1]; exact List.mem_map.2 ⟨_, look_mem hk, rfl⟩
  obtain ⟨q1, q2, q3⟩ := f1 (firstL KH us) ⟨fun kh hkh => look_of d1 kh hkh, fun k _ hno => by
      cases h : look k KH with
      | none => exact h
      | some h' => exact (hno _ (look_mem h) rfl).elim, fun i _ hno => by
      cases h : look (.pl (PR + i) 0) KH with
      | none => exact h
      | some h' => exact (hno _ (look_mem h) rfl).elim⟩
  have hF : ∀ t b, Fin w M g t b → Fz w ⟨fun b => b ∈ M, g, fun i => (us[i - PR]?).toList⟩ (firstL KH us) w t b := fun t b hb =>
    ⟨hb.1, fun k h hk e => hb.2.1 (e ▸ hblk k h hk), .inl ⟨hb.2.2.1, hb.2.2.2⟩⟩
  refine ⟨firstL KH us, ⟨?_, ?_, ?_, ?_, ?_, Nat.le_refl _, fun _ _ _ => rfl, rfl, rfl, rfl, fun _ _ => rfl⟩, hblk⟩
  · intro k k' h h' hk hk' e
    have := block_inj (by rw [e1]; exact hM) _ (look_mem hk) _ (look_mem hk') e
    cases this; rfl
  · intro k h hk
    have hm := hblk k h hk
    obtain ⟨o, ho⟩ := RTs.mem hr _ hm
    exact ⟨(Array.getElem?_eq_some_iff.1 ho).1, .inl hm⟩
  · simp [l1]
  · intro i o v hv
    cases i with
    | zero =>
      have hv' : (vs ++ List.replicate (n - vs.length) (V.tup []))[o]? = some v := hv
      by_cases ho : o < vs.length
      · rw [List.getElem?_append_left ho] at hv'
        obtain ⟨u, hu, hr⟩ := RWL.get (RWL.mono' hF q1) hv'
        exact ⟨u, by simp only [uAt]; rw [List.getElem?_append_left (by omega)]; exact hu, .of_rw hr⟩
      · rw [List.getElem?_append_right (by omega), List.getElem?_replicate] at hv'
        split at hv'
        · rename_i hlt
          cases hv'
          refine ⟨undef, ?_, .of_rw undef_rw⟩
          simp only [uAt]
          rw [List.getElem?_append_right (by omega), List.getElem?_replicate, if_pos (by omega)]
        · cases hv'
    | succ i =>
      obtain ⟨agg, cells, hf, ho⟩ := S.find_of_cell hv
      rw [S.find_append] at hf
      cases hfr : S.find (i + 1) rows with
      | some r' =>
        rw [hfr] at hf
        cases hf
        have hm := S.find_mem hfr
        obtain ⟨h, cs, e, g1, g2, g3, g4⟩ := q2 _ hm
        obtain ⟨u, hu, hr⟩ := g4 o v ho
        exact ⟨u, by rw [uAt_obj (hi _ hm).2 (by simp) g1 g2]; exact hu, hr.mono' hF⟩
      | none =>
        rw [hfr] at hf
        have hm := S.find_mem hf
        obtain ⟨j, v0, u, _, e, h1, h2⟩ := q3 _ hm
        simp only [Prod.mk.injEq] at e
        obtain ⟨e1, _, e3⟩ := e
        subst e3
        cases o with
        | succ o => simp at ho
        | zero =>
          simp at ho
          subst ho
          refine ⟨u, ?_, ?_⟩
          · rw [uAt_ps (by rw [e1]; simp [PR, PS]; omega), e1]
            simp only [firstL, Nat.add_sub_cancel_left]
            simp only [Nat.sub_zero] at h1
            rw [h1]; rfl
          · rw [e1]; exact h2.mono' hF
  · intro i agg cells hf hlt
    simp only at hf
    rw [S.find_append] at hf
    cases hfr : S.find i rows with
    | some r' =>
      rw [hfr] at hf
      cases hf
      have hm := S.find_mem hfr
      obtain ⟨h, cs, e, g1, g2, g3, g4⟩ := q2 _ hm
      exact ⟨(hi _ hm).1, h, cs, e, g1, g2, g3⟩
    | none =>
      rw [hfr] at hf
      have hm := S.find_mem hf
      obtain ⟨j, v0, u, _, e, _⟩ := q3 _ hm
      simp only [Prod.mk.injEq] at e
      rw [e.1] at hlt
      simp [PR, PS] at hlt; omega
end
end Go.Cm

namespace Go.Cm
section
variable {w0 : World} {M0 : Io} {L L' : Lay} {s s' : S} {tmps : List Value} {w w' : World} {β : Type} {P : Program} {a : Act}

/-- One result. -/
def resOne (tmps : Array Value) : ResultVar → Sem Value
  | .tmp t => pure (tmps.getD t undef)
  | .cell a t => do loadVar t (← asAddr (tmps.getD a undef))
theorem results_eq (fn : Func) (tmps : Array Value) : results fn tmps = (do
    let vs ← fn.results.mapM (resOne tmps)
    pure (if h : vs.size = 1 then vs[0] else .tuple vs)) := by
  unfold results
  congr 1
theorem asAddr_load {T : TypeId} {ua u : Value} {w w' : World} (h : (Instr.loadAt T ua).run P w = .ok u w') : (do loadVar T (← asAddr ua) : Sem Value).run P w = .ok u w' := by
  unfold Instr.loadAt Instr.sureAddr at h
  cases ua with
  | pointer ad => cases ad with
    | some ad => simpa [asAddr] using h
    | none => simp [stuck] at h
  | _ => simp [stuck] at h
theorem eval_getD {t : Tmp} : a.eval (.tmp t) = a.tmps.getD t undef := rfl
theorem resVs_ok (R : Rel w0 M0 L s a.tmps.toList w) : ∀ (rs : List ResultVar) (Ts : List TypeId) (k : List (Bool × V × TypeId) → Option β) (r : β), resVs P rs Ts s k = some r →
    ∃ es us, RWs L (hp w) (Fz w0 M0 L w) es us ∧ (rs.mapM (resOne a.tmps)).run P w = .ok us w ∧ k es = some r
  | [], Ts, k, r, h => ⟨[], [], by simp [RWs], by simp, by simpa [resVs] using h⟩
  | x :: rs, [], k, r, h => by simp [resVs] at h
  | x :: rs, T :: Ts, k, r, h => by
    simp only [resVs] at h
    cases x with
    | tmp t =>
      simp only at h
      obtain ⟨v, hv, h1⟩ := rdK_ok R rfl h
      obtain ⟨es, us, h2, h3, h4⟩ := resVs_ok R rs Ts _ r h1
      refine ⟨_, a.eval (.tmp t) :: us, ?_, ?_, h4⟩
      · simp only [RWs]; exact ⟨_, _, rfl, hv, h2⟩
      · simp only [List.mapM_cons, resOne, Sem.run_bind, Sem.run_pure, Result.andThen, h3]; rfl
    | cell t U =>
      simp only at h
      obtain ⟨v, hv, h1⟩ := rdK_ok R rfl h
      obtain ⟨v2, u2, hv2, h1, hl⟩ := loadK_ok R hv h1
      obtain ⟨es, us, h2, h3, h4⟩ := resVs_ok R rs Ts _ r h1
      refine ⟨_, u2 :: us, ?_, ?_, h4⟩
      · simp only [RWs]; exact ⟨_, _, rfl, hv2, h2⟩
      · have := asAddr_load hl
        rw [eval_getD] at this
        have h5 : (resOne a.tmps (.cell t U)).run P w = .ok u2 w := this
        simp only [List.mapM_cons, Sem.run_bind, h5, Sem.run_pure, Result.andThen, h3]
theorem outVal_eq (us : List Value) : (if h : us.toArray.size = 1 then us.toArray[0] else .tuple us.toArray) = outVal us := by
  unfold outVal
  match us with
  | [] => rfl
  | [v] => rfl
  | v :: v' :: us => rw [dif_neg (by simp)]
theorem results_ok {fn : Func} {us : List Value} (h : (fn.results.toList.mapM (resOne a.tmps)).run P w = .ok us w) : (results fn a.tmps).run P w = .ok (outVal us) w := by
  rw [results_eq, Array.mapM_eq_mapM_toList, ← outVal_eq, ← bind_pure_comp]
  simp only [Sem.run_bind, h, Result.andThen, Sem.run_pure]

/-- What came in to be written is what it was. -/
theorem outEs_ok (R : Rel w0 M0 L s tmps w) : ∀ (xs : List TV) (us : List Value) (j : Nat), us.length = xs.length → (∀ i u, us[i]? = some u → M0.ps (PR + (j + i)) = [u]) →
    RWs L (hp w) (Fz w0 M0 L w) (outEs s j xs) (ioVals xs us)
  | [], us, j, hl, hp => by cases us with | nil => simp [outEs, ioVals, RWs] | cons => simp at hl
  | x :: xs, [], j, hl, hp => by simp at hl
  | x :: xs, u :: us, j, hl, hp => by
    have ih := outEs_ok R xs us (j + 1) (by simpa using hl) (fun i u h => by
      have := hp (i + 1) u (by simpa using h)
      rwa [show j + (i + 1) = j + 1 + i by omega] at this)
    have hu : RW L (Cm.hp w) (Fz w0 M0 L w) (outV s j) u := by
      unfold outV
      cases hc : s.cell (PR + j) 0 with
      | none => simp [RW]
      | some v =>
        obtain ⟨u', h1, h2⟩ := R.val _ _ _ hc
        rw [uAt_ps (by simp [PR, PS]; omega), R.pins _ (by omega)] at h1
        have h3 := hp 0 u (by simp)
        rw [Nat.add_zero] at h3
        rw [h3] at h1
        simp at h1
        subst h1
        exact borrow_rw h2
    cases x with
    | d => simpa [outEs, ioVals] using ih
    | own => simp only [outEs, ioVals, RWs]; exact ⟨_, _, rfl, hu, ih⟩
    | ob => simp only [outEs, ioVals, RWs]; exact ⟨_, _, rfl, hu, ih⟩
theorem RWs.append {H : Hp} {F : Fr} : ∀ {es fs : List (Bool × V × TypeId)} {us vs : List Value}, RWs L H F es us → RWs L H F fs vs → RWs L H F (es ++ fs) (us ++ vs)
  | [], fs, us, vs, h, k => by simp only [RWs] at h; subst h; exact k
  | e :: es, fs, us, vs, h, k => by
    simp only [RWs, List.cons_append] at h ⊢
    obtain ⟨u, rest, rfl, h1, h2⟩ := h
    exact ⟨u, rest ++ vs, rfl, h1, RWs.append h2 k⟩
theorem nodupN_nodup : ∀ {l : List Nat}, nodupN l = true → l.Nodup := fun h => nodupN_ok h

/-- A function's contract. -/
theorem valid_of {gl : Gl} {E : Env} {f : FuncId} {fn : Func} {args res outs : List TV} (hE : EnvOk gl P E) (hm : P.follows .mixedOrders = true) (hf : P.funcs[f]? = some fn) (hn : (fn.name == "runtime.NumGoroutine") = false)
    (h : evalF P E fn args (fun a b => some (a, b)) = some (res, outs)) : Valid gl P f args res outs := by
  intro w us M g hG hr hM
  unfold evalF at h
  split at h
  · rename_i c vs rows owns hb hs
    split at h
    · rename_i hok
      simp only [Bool.and_eq_true, List.all_eq_true, Nat.blt_eq] at hok
      have hlen := RTs.length hr
      obtain ⟨L, R, hL⟩ := start_rel (w := w) (g := g) hr hM hs (nodupN_nodup hok.1) (fun r hr => ⟨by have := hok.2 r hr; omega, (hok.2 r hr).2⟩) fn.ntmps
      refine Runs.of_calls hf hn (by rw [hb]; rfl) (calls_of_wp hf hb ?_)
      have R0 : Rel w ⟨fun b => b ∈ M, g, fun i => (us[i - PR]?).toList⟩ L ⟨vs ++ List.replicate (fn.ntmps - vs.length) (.tup []), rows ++ owns⟩
          ({ tmps := us.toArray ++ Array.replicate (fn.ntmps - us.toArray.size) undef, defers := [] } : Act).tmps.toList w := by
        simpa using R
      refine wp_mono (evalK_ok (X := ⟨P, E, retBits fn.results.toList, args.length⟩) (M0 := ⟨fun b => b ∈ M, g, fun i => (us[i - PR]?).toList⟩) ⟨hE, hG⟩ hm c _ _ _ _ _ _ _ w L R0 h) fun e a' w' => ?_
      -- behind the body
      have fin : ∀ (s' : S) (L' : Lay), Rel w ⟨fun b => b ∈ M, g, fun i => (us[i - PR]?).toList⟩ L' s' a'.tmps.toList w' →
          resVs P fn.results.toList fn.resultTypes.toList s' (fun es => handK P (es ++ outEs s' 0 args) s' fun _ tvs _ _ => some (tvs.take es.length, tvs.drop es.length)) = some (res, outs) →
          ∃ v, (results fn a'.tmps).run P w' = .ok v w' ∧ ∃ rs M', Ending.returned v = .returned (outVal rs) ∧ Back w w' M g args us res outs rs M' := by
        intro s' L' R' hk
        obtain ⟨es, rs, h1, h2, h3⟩ := resVs_ok R' _ _ _ _ hk
        refine ⟨outVal rs, results_ok h2, rs, ?_⟩
        have h4 := outEs_ok R' args us 0 hlen (fun i u hu => by simp [hu])
        obtain ⟨u, tvs, ks, s1, L1, Hd, h5⟩ := hand_ok R' (RWs.append h1 h4) h3
        simp only [Option.some.injEq, Prod.mk.injEq] at h5
        obtain ⟨rfl, rfl⟩ := h5
        have hes := RWs.length h1
        refine ⟨blks L1 ks, rfl, ?_⟩
        have hl2 := Hd.len
        rw [List.length_append] at hl2
        have R1 := Hd.rel
        have hM' : ∀ b ∈ blks L1 ks, ∃ k h, L1.k k = some h ∧ h.block = b := fun b hb => by
          obtain ⟨k, _, h, e1, e2⟩ := mem_blks.1 hb
          exact ⟨k, h, e1, e2⟩
        refine ⟨by rw [List.length_take]; omega, ?_, Hd.nodup, fun b hb => ?_, R1.size, fun b hb hn => R1.old b hb hn, R1.os, R1.tape, R1.output⟩
        · rw [List.take_append_drop]
          refine RTs.mono (fun t b hb => ⟨⟨hb.1, fun hm => ?_, hb.2.2⟩, rfl⟩) _ _ _ (fun _ _ => rfl) Hd.rt
          obtain ⟨k, h, e1, e2⟩ := hM' b hm
          exact hb.2.1 k h e1 e2
        · obtain ⟨k, h, e1, e2⟩ := hM' b hb
          have := R1.own k h e1
          rw [e2] at this
          rcases this.2 with h | h
          · exact .inl h
          · exact .inr ⟨h, this.1⟩
      cases e with
      | normal => rintro ⟨s', L', R', hd, hk⟩; exact ⟨hd, fin s' L' R' hk⟩
      | ret => rintro ⟨s', L', R', hd, hk⟩; exact ⟨hd, fin s' L' R' hk⟩
      | exit id => rintro ⟨s', L', R', hd, hk⟩; simp at hk
      | _ => exact fun h => h.elim
    · cases h
  · cases h
end
end Go.Cm

namespace Go.Cm
section
variable {β : Type}
/-- A round of a loop. -/
noncomputable def roundK (X : Fx) (xs : List (Nat × Nat)) (b : Code) (s : S) : Option (S ⊕ (Ex × S)) :=
  evalK X xs b (live X.ret xs b 0) s fun ex s => match ex with
    | .norm => some (.inl (s.keep X.pin (live X.ret xs b 0)))
    | .exit id => some (.inr (.exit id, s.keep X.pin (exitBits xs id)))
    | .ret => some (.inr (.ret, s.keep X.pin X.ret))
/-- What is still to be done behind a piece of code. -/
inductive Kf where
  | seq (xs : List (Nat × Nat)) (b : Code) (out : Nat)
  | cond (out : Nat)
  | block (id out : Nat)
noncomputable def applyK (X : Fx) (fin : Ex → S → Option β) : List Kf → Ex → S → Option β
  | [], ex, s => fin ex s
  | .seq xs b out :: st, ex, s => match ex with | .norm => evalK X xs b out s (applyK X fin st) | ex => applyK X fin st ex s
  | .cond out :: st, ex, s => match ex with | .norm => applyK X fin st .norm (s.keep X.pin out) | ex => applyK X fin st ex s
  | .block id out :: st, ex, s => match ex with
    | .norm => applyK X fin st .norm (s.keep X.pin out)
    | .exit j => match Nat.beq j id with | true => applyK X fin st .norm (s.keep X.pin out) | false => applyK X fin st (.exit j) s
    | .ret => applyK X fin st .ret s
/-- A loop, and what is to be done behind it. -/
noncomputable def goLp (X : Fx) (xs : List (Nat × Nat)) (b : Code) (st : List Kf) (fin : Ex → S → Option β) (s : S) : Option β :=
  match Lp (roundK X xs b) s with
  | some (ex, s) => applyK X fin st ex s
  | none => none
/-- The end of a function. -/
noncomputable def finK (P : Program) (fn : Func) (args : List TV) (k : List TV → List TV → Option β) (ex : Ex) (s : S) : Option β :=
  match ex with
  | .exit _ => none
  | _ => resVs P fn.results.toList fn.resultTypes.toList s fun es => handK P (es ++ outEs s 0 args) s fun _ tvs _ _ => k (tvs.take es.length) (tvs.drop es.length)
/-- The end of a round. -/
def finR (X : Fx) (xs : List (Nat × Nat)) (b : Code) (ex : Ex) (s : S) : Option (S ⊕ (Ex × S)) :=
  match ex with
  | .norm => some (.inl (s.keep X.pin (live X.ret xs b 0)))
  | .exit id => some (.inr (.exit id, s.keep X.pin (exitBits xs id)))
  | .ret => some (.inr (.ret, s.keep X.pin X.ret))

theorem goLp_of {X : Fx} {xs : List (Nat × Nat)} {b : Code} {st : List Kf} {fin : Ex → S → Option β} {s : S} {ex : Ex} {s' : S} (h : Lp (roundK X xs b) s = some (ex, s')) : goLp X xs b st fin s = applyK X fin st ex s' := by
  unfold goLp; rw [h]
theorem Lp_step {σ α : Type} {f : σ → Option (σ ⊕ α)} {s s' : σ} (h : f s = some (.inl s')) {r : α} (h2 : Lp f s' = some r) : Lp f s = some r := by
  obtain ⟨n, hn⟩ := Lp.of_some h2
  exact Lp.eq_of (n := n + 1) (by simp only [Lp.iter, h, hn])
theorem Lp_exit {σ α : Type} {f : σ → Option (σ ⊕ α)} {s : σ} {r : α} (h : f s = some (.inr r)) : Lp f s = some r := Lp.eq_of (n := 1) (by simp only [Lp.iter, h])

/-- A part of code. -/
def sub : List Nat → Code → Code
  | [], c => c
  | i :: p, c => match c with
    | .seq a b => match i with | 0 => sub p a | _ => sub p b
    | .cond _ a b => match i with | 0 => sub p a | _ => sub p b
    | .block _ b => sub p b
    | .loop b => sub p b
    | c => c
def body (fn : Func) : Code := match fn.body with | some c => c | none => .skip
/-- Temporaries: those that are named, the others void. -/
def tmS (n : Nat) : List (Nat × V) → List V
  | [] => List.replicate n .undef
  | (t, v) :: r => (tmS n r).set t v

/-- A function is added to those that are known. -/
def Env.add (E : Env) (f : FuncId) (io : Nat → Bool) (c : {β : Type} → List TV → (List TV → List TV → Option β) → Option β) : Env :=
  ⟨fun g args k => match Nat.beq g f with | true => c args k | false => E.c g args k, fun g => match Nat.beq g f with | true => io | false => E.io g⟩
def Env.none : Env := ⟨fun _ _ _ => Option.none, fun _ _ => false⟩
theorem EnvOk.none {gl : Gl} {P : Program} : EnvOk gl P Env.none := fun _ _ _ _ _ h => by simp [Env.none] at h
theorem EnvOk.add {gl : Gl} {P : Program} {E : Env} {f : FuncId} {io : Nat → Bool} {c : {β : Type} → List TV → (List TV → List TV → Option β) → Option β} (h : EnvOk gl P E)
    (hc : ∀ (β : Type) (args : List TV) (k : List TV → List TV → Option β) (r : β), c args k = some r → ∃ res outs, k res outs = some r ∧ Valid gl P f args res outs) : EnvOk gl P (E.add f io c) := by
  intro β g args k r hr
  simp only [Env.add] at hr
  split at hr
  · rename_i e
    rw [beq_true] at e
    subst e
    exact hc β args k r hr
  · exact h β g args k r hr
end
end Go.Cm

namespace Go.Cm
section
variable {gl : Gl} {P : Program} {E : Env}

/-- A value of no memory. -/
inductive Atom : D → Value → Prop where
  | int (k : IntKind) (n : Int) : Atom (.int k n) (.int k n)
  | bool (b : Bool) : Atom (.bool b) (.bool b)
  | str (s : ByteArray) : Atom (.str s) (.string s)
inductive Atoms : List TV → List Value → Prop where
  | nil : Atoms [] []
  | cons {t : Bool} {x : D} {u : Value} {xs : List TV} {us : List Value} : Atom x u → Atoms xs us → Atoms (.d t 0 x :: xs) (u :: us)
theorem Atom.ra {x : D} {u : Value} (h : Atom x u) {H : Hp} {F : Nat → Prop} : RA H F x u ∧ x.shape = 0 := by cases h <;> simp [RA, D.shape]
theorem Atom.eq {x : D} {u v : Value} (h : Atom x u) {H : Hp} {F : Nat → Prop} (k : RA H F x v) : v = u := by cases h <;> simpa [RA] using k
theorem Atoms.rt {xs : List TV} {us : List Value} (h : Atoms xs us) {H : Hp} {F : Fr} : RTs H F xs us [] := by
  induction h with
  | nil => simp [RTs]
  | cons h _ ih => simp only [RTs]; exact ⟨_, _, [], [], rfl, rfl, by simp only [RT]; exact ⟨trivial, (h.ra (H := H) (F := F true)).2, h.ra.1⟩, ih⟩
theorem Atoms.eq {xs : List TV} {us : List Value} (h : Atoms xs us) {H : Hp} {F : Fr} {vs : List Value} {M : List Nat} (k : RTs H F xs vs M) : vs = us ∧ M = [] := by
  induction h generalizing vs M with
  | nil => simpa only [RTs] using k
  | cons h _ ih =>
    simp only [RTs] at k
    obtain ⟨u, rest, M1, M2, rfl, rfl, h1, h2⟩ := k
    obtain ⟨rfl, rfl⟩ := ih h2
    simp only [RT] at h1
    exact ⟨by rw [h.eq h1.2.2], by simp [h1.1]⟩
theorem Atoms.io {xs : List TV} {us : List Value} (h : Atoms xs us) : ioVals xs us = [] := by
  induction h with
  | nil => rfl
  | cons _ _ ih => simpa [ioVals] using ih
/-- A function of atoms that the model sets down. -/
theorem valid_set {f : FuncId} {args res : List TV} {us rs : List Value} (ha : Atoms args us) (hr : Atoms res rs) (h : ∀ w, (callFunc f us.toArray).run P w = .ok (.value (outVal rs)) w) : Valid gl P f args res [] := by
  intro w vs M g hG hrt hM
  obtain ⟨rfl, rfl⟩ := ha.eq hrt
  unfold Runs
  rw [h w]
  refine ⟨rs, [], rfl, ⟨RTs.length (hr.rt (H := hp w) (F := Fin w [] g)), ?_, List.nodup_nil, by simp, Nat.le_refl _, fun _ _ _ => rfl, rfl, rfl, rfl⟩⟩
  rw [List.append_nil, ha.io, List.append_nil]
  exact hr.rt

/-- A contract by its one evaluation. -/
theorem EnvOk.fn {f : FuncId} {fn : Func} {io : Nat → Bool} {c : {β : Type} → List TV → (List TV → List TV → Option β) → Option β} (h : EnvOk gl P E)
    (hm : P.follows .mixedOrders = true) (hf : P.funcs[f]? = some fn) (hn : (fn.name == "runtime.NumGoroutine") = false)
    (hc : ∀ (β : Type) (args : List TV) (k : List TV → List TV → Option β) (r : β), c args k = some r → ∃ res outs, k res outs = some r ∧ ∀ {γ : Type} (q : List TV → List TV → Option γ), evalF P E fn args q = q res outs) :
    EnvOk gl P (E.add f io c) :=
  h.add fun β args k r hr => by
    obtain ⟨res, outs, h1, h2⟩ := hc β args k r hr
    exact ⟨res, outs, h1, valid_of h hm hf hn (h2 _)⟩
end
end Go.Cm

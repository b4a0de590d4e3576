/- slices.Clone of integers (after the kit's proof of the same): its contract. -/
import Derived.Test.YtbpndgllhhajoaaGreatDoorLd
import Derived.Deep.LoopGhost
import Derived.Lib.Walk
import Derived.Lib.SliceRun
set_option linter.unusedVariables false
set_option linter.unusedSimpArgs false
set_option maxRecDepth 100000
namespace Go.Sc
open Go Go.Cm
def intsB : List D → Bool
  | [] => true
  | x :: r => match x with | .int .i64 _ => intsB r | _ => false
end Go.Sc
namespace Go.Sd
open Go Go.Proofs Go.RowKit Go.Lib Go.Cm
theorem info3 : ∃ i0, Tryz.prog.info? 3 = some i0 ∧ i0.zero = some (.int .i64 0) ∧ i0.size = 1 ∧ i0.bytes = 8 := ⟨(Tryz.prog.info? 3).get (by kernel_rfl), (Option.some_get _).symm, by kernel_rfl, by kernel_rfl, by kernel_rfl⟩
theorem clone_nil (w : World) : Calls Tryz.prog 49 #[.slice none 0 0] w fun e w' => e = .returned (.slice none 0 0) ∧ w' = w := by
  have q22 : ∀ (w : World) (a : Option Addr) (n c n' c' : Nat), (binOp .eql 23 (.slice a n c) (.slice none n' c')).run Tryz.prog w = .ok (.bool a.isNone) w := fun w a n c n' c' => Lib.run_eql_slice_nil w _ _ a n c n' c' Tryz.underlying23
  go_enter Tryz.func49, Tryz.ntmps49
  go_wp2
  go_ret
  exact ⟨rfl, rfl⟩
set_option maxHeartbeats 2000000 in
theorem clone_some (ad : Addr) (n c : Nat) (news : List Value) (w : World) (hl : news.length = n) (hbig : n ≤ 34359738368) (hc : ∀ (j : Nat) u, news[j]? = some u → ad.block < w.heap.size ∧ w.cell? (ad.add j) = some u) (h1 : ∀ u ∈ news, u.oneCell' = true) :
    Calls Tryz.prog 49 #[.slice (some ad) n c] w fun e w' => ∃ v', e = .returned v' ∧ w'.ownsRow w.heap.size 3 1 v' n news ∧ v' ≠ .slice none 0 0 ∧ Below w.heap.size w w' := by
  obtain ⟨i0, hi, hz0, hz1, hz2⟩ := info3
  have q22 : ∀ (w : World) (a : Option Addr) (n c n' c' : Nat), (binOp .eql 23 (.slice a n c) (.slice none n' c')).run Tryz.prog w = .ok (.bool a.isNone) w := fun w a n c n' c' => Lib.run_eql_slice_nil w _ _ a n c n' c' Tryz.underlying23
  have u22 : ∀ w, Sem.run Tryz.prog (underlying 23) w = .ok (TypeDesc.slice 3) w := run_underlying Tryz.underlying23
  have A : Aside (∀ (j : Nat) u, news[j]? = some u → ad.block < w.heap.size ∧ w.cell? (ad.add j) = some u) := hc
  clear hc
  go_enter Tryz.func49, Tryz.ntmps49
  go_wp2_with (at_builtin; refine wpList_append_own _ rfl _ _ 23 rfl w.heap.size 3 i0 (.int .i64 0) 1 8 Tryz.underlying23 hi hz0 hz1 hz2 rfl (by decide) _ _ _ rfl (World.ownsRow_made w #[] 0 (Nat.le_refl _) (Nat.zero_le _) rfl) ad n c news rfl ?qc1 ?qc2 ?qc3 ?qc4 ?qc5 ?qc6 ?_)
  case qc1 => omega
  case qc2 =>
    intro j u hj
    exact Lib.cell?_alloc_some _ (A.out j u hj).2
  case qc3 => exact h1
  case qc4 => unfold maxLen; omega
  case qc5 => omega
  case qc6 => simp
  intro v' w1 hown hgrow hnil
  go_wp2
  go_ret
  refine ⟨v', rfl, by simpa using hown, ?_, ?_⟩
  · first | exact hnil | (intro e; exact absurd (hnil.1 e).1 (by simp))
  · exact ((Below.refl _ w).alloc (Nat.le_refl _) _).grown hgrow (by simp) (by intro k hk; simp [Value.ownBlock] at hk; omega)
theorem rf_ints {H H' : Hp} {F F' : Nat → Prop} : ∀ {xs : List D} {us : List Value}, Go.Sc.intsB xs = true → RF H F xs us → us.length = xs.length ∧ (∀ u ∈ us, u.oneCell' = true) ∧ RF H' F' xs us ∧ ∀ x ∈ xs, x.shape = 0
  | [], us, _, h => by
    simp only [RF] at h
    subst h
    exact ⟨rfl, by simp, by simp [RF], by simp⟩
  | x :: xs, us, hi, h => by
    simp only [RF] at h
    obtain ⟨u, rest, rfl, hu, hr⟩ := h
    unfold Go.Sc.intsB at hi
    split at hi
    · rename_i v
      simp only [RA] at hu
      subst hu
      obtain ⟨h1, h2, h3, h4⟩ := rf_ints (H' := H') (F' := F') hi hr
      refine ⟨by simp [Value.cells, h1], ?_, ?_, ?_⟩
      · intro u hu
        simp only [Value.cells, List.cons_append, List.nil_append, List.mem_cons] at hu
        rcases hu with rfl | hu
        · rfl
        · exact h2 u hu
      · simp only [RF]
        exact ⟨_, rest, rfl, by simp [RA], h3⟩
      · intro y hy
        rcases List.mem_cons.1 hy with rfl | hy
        · rfl
        · exact h4 y hy
    · cases hi
theorem valid_clone {xs : List D} (hi : Go.Sc.intsB xs = true) (hn : xs.length ≤ 34359738368) : Valid glS Tryz.prog 49 [.d true 0 (.sl 0 xs)] [.d false 0 (.sl 0 xs)] [] := by
  intro w us M g hG hr _ hM
  simp only [RTs, RT, RA] at hr
  obtain ⟨u, rest, M1, M2, rfl, rfl, ⟨rfl, _, a, c, rfl, hc, hnil, hsh, vs, hrf, hlies⟩, rfl, rfl⟩ := hr
  obtain ⟨h1, h2, _, _⟩ := rf_ints (H' := hp w) (F' := fun _ => True) hi hrf
  cases a with
  | none =>
    obtain rfl := hnil rfl
    have hx : xs = [] := by
      cases xs with
      | nil => rfl
      | cons x xs => simp at hc
    subst hx
    refine Runs.of_calls Tryz.func49 (by kernel_rfl) (by kernel_rfl) ((clone_nil w).mono fun e w' => ?_)
    rintro ⟨rfl, rfl⟩
    refine ⟨[.slice none 0 0], [], rfl, ⟨rfl, ?_, List.nodup_nil, by simp, Nat.le_refl _, fun b hb _ => rfl, rfl, rfl, rfl⟩⟩
    have hra : ∀ (H : Hp) (F : Nat → Prop), RA H F (.sl 0 []) (.slice none 0 0) := fun H F => by
      rw [RA]
      exact ⟨none, 0, rfl, by simp, fun _ => rfl, by simp, [], by simp [RF], by simp⟩
    simp only [ioVals, List.append_nil, RTs]
    refine ⟨_, _, [], [], rfl, rfl, ?_, by simp⟩
    rw [RT]
    exact ⟨rfl, rfl, hra _ _⟩
  | some ad =>
    have hcells : ∀ (j : Nat) u, vs[j]? = some u → ad.block < w.heap.size ∧ w.cell? (ad.add j) = some u := by
      intro j u hj
      have hne : xs ≠ [] := by
        rintro rfl
        simp at h1
        subst h1
        simp at hj
      obtain ⟨ad', e, hF, hL⟩ := hlies hne
      cases e
      obtain ⟨hs, cs, ty, fr, hh, hcs⟩ := hL
      have hh' : w.heap[ad.block]? = some (.cells cs ty fr) := hh
      refine ⟨(Array.getElem?_eq_some_iff.1 hh').1, ?_⟩
      obtain ⟨bl, off, sp⟩ := ad
      simp only at hs hh'
      subst hs
      have e : (Addr.add ⟨bl, off, none⟩ j) = ⟨bl, off + j, none⟩ := by
        unfold Addr.add
        split
        · rename_i h; subst h; rfl
        · rfl
      rw [e]
      simp only [World.cell?, hh']
      exact hcs j u hj
    refine Runs.of_calls Tryz.func49 (by kernel_rfl) (by kernel_rfl) ((clone_some ad xs.length c vs w h1 hn hcells h2).mono fun e w' => ?_)
    rintro ⟨v', rfl, hown, hne, hb⟩
    refine ⟨[v'], [], rfl, ⟨rfl, ?_, List.nodup_nil, by simp, hb.size, fun b hb' _ => hb.block b hb', hb.os, hb.tape, hb.output⟩⟩
    obtain ⟨hl, hown⟩ := hown
    rcases hown with ⟨rfl, _⟩ | ⟨gb, cap, cur, rfl, hg1, hg2, hg3, hg4, hg5, hg6⟩
    · exact (hne rfl).elim
    · have hra : RA (hp w') (Fout w w' [] [] g false) (.sl 0 xs) (.slice (some ⟨gb, 0, none⟩) xs.length cap) := by
        obtain ⟨_, _, h3, h4⟩ := rf_ints (H' := hp w') (F' := Fout w w' [] [] g false) hi hrf
        rw [RA]
        refine ⟨_, cap, rfl, hg3, (fun e => by cases e), h4, vs, h3, fun _ => ⟨_, rfl, ⟨(Array.getElem?_eq_some_iff.1 hg2).1, by simp, .inr (.inl hg1)⟩, rfl, cur, 3, (0, 0), hg2, fun j u hj => ?_⟩⟩
        rw [← hg6, List.getElem?_take] at hj
        split at hj
        · rw [Nat.zero_add, ← Array.getElem?_toList]; exact hj
        · cases hj
      simp only [ioVals, List.append_nil, RTs]
      refine ⟨_, _, [], [], rfl, rfl, ?_, by simp⟩
      rw [RT]
      exact ⟨rfl, rfl, hra⟩
def cClone {β : Type} (args : List TV) (k : List TV → List TV → Option β) : Option β :=
  match args with
  | [.d true 0 (.sl 0 xs)] => chkK (Go.Sc.intsB xs = true ∧ xs.length ≤ big) (k [.d false 0 (.sl 0 xs)] [])
  | _ => none
theorem vcClone : VC 49 cClone := by
  intro β args k r hr
  change cClone args k = some r at hr
  unfold cClone at hr
  split at hr
  · rename_i xs
    obtain ⟨⟨h0, h1⟩, hr⟩ := chkK_ok hr
    exact ⟨_, _, hr, valid_clone h0 h1⟩
  · cases hr
def WS : Env := (W2.add 49 io0 cClone)
theorem envws : EnvOk glS Tryz.prog WS := envw2.add vcClone
end Go.Sd

namespace Go.Sd
open Go Go.Cm Go.Proofs Go.Sc
set_option maxRecDepth 100000
namespace V25
/- rounds of the search: 1 -/
noncomputable def X : Fx := ⟨Tryz.prog, WS, 4, 1⟩
theorem start {β : Type} (st : List D) (lp : List D) (k : List TV → List TV → Option β) : evalF Tryz.prog WS Tryz.f25 [.d true 3 (D.ag [D.sl 0 st, D.sl 0 lp])] k =
   if decide ((↑(List.length st) : Int) > (0 : Int)) = true then
   if (0 : Int) ≤ (↑(List.length st) : Int) ∧ (↑(List.length st) : Int) ≤ (↑(List.length st) : Int) ∧ (0 : Int) ≤ (1 : Int) ∧ (1 : Int) ≤ (↑(List.length st) : Int) then
    if
      intsB (List.take (Int.toNat (↑(List.length st) : Int) - 1) (List.drop 1 st)) = true ∧
       List.length (List.take (Int.toNat (↑(List.length st) : Int) - 1) (List.drop 1 st)) ≤ 34359738368 then
     if intsB lp = true ∧ List.length lp ≤ 34359738368 then
      k [.d false 3 (D.ag [D.sl 0 (List.take (Int.toNat (↑(List.length st) : Int) - 1) (List.drop 1 st)), D.sl 0 lp])] []
     else none
    else none
   else none
  else
   if decide ((↑(List.length lp) : Int) > (0 : Int)) = true then
    if (0 : Int) ≤ (1 : Int) ∧ (1 : Int) ≤ (↑(List.length lp) : Int) ∧ (0 : Int) ≤ (0 : Int) ∧ (0 : Int) ≤ (1 : Int) then
     if (0 : Int) ≤ (↑(List.length lp) : Int) ∧ (↑(List.length lp) : Int) ≤ (↑(List.length lp) : Int) ∧ (0 : Int) ≤ (1 : Int) ∧ (1 : Int) ≤ (↑(List.length lp) : Int) then
      if List.length (List.take (Int.toNat (↑(List.length lp) : Int) - 1) (List.drop 1 lp)) + List.length (List.take 1 (List.drop 0 lp)) ≤ 34359738368 then
       k [.d true 3 (D.ag [D.sl 0 [], D.sl 0 (List.take (Int.toNat (↑(List.length lp) : Int) - 1) (List.drop 1 lp) ++ List.take 1 (List.drop 0 lp))])] []
      else none
     else none
    else none
   else k [.d false 3 (D.ag [D.sl 0 [], D.sl 0 []])] [] := by kernel_rfl
end V25

namespace V26
/- rounds of the search: 1 -/
noncomputable def X : Fx := ⟨Tryz.prog, WS, 48, 2⟩
theorem start {β : Type} (st : List D) (lp : List D) (i : Int) (k : List TV → List TV → Option β) : evalF Tryz.prog WS Tryz.f26 [.d true 3 (D.ag [D.sl 0 st, D.sl 0 lp]), .d true 0 (D.int .i64 i)] k =
   if decide (i < (0 : Int)) = true then k [.d false 0 (D.int .i64 0), .d false 0 (D.bool false)] []
  else
   if decide (i < (↑(List.length st) : Int)) = true then
    if (0 : Int) ≤ i then
     match st[Int.toNat i]? with
     | some x7 =>
      match x7 with
      | D.int j8 m9 => if j8 = IntKind.i64 then k [.d false 0 (D.int .i64 m9), .d false 0 (D.bool true)] [] else none
      | x => none
     | none => none
    else none
   else
    if ((↑(List.length lp) : Int) == (0 : Int)) = true then k [.d false 0 (D.int .i64 0), .d false 0 (D.bool false)] []
    else
     if (↑(List.length lp) : Int) ≠ (0 : Int) then
      if (0 : Int) ≤ Int.tmod (IntKind.wrap .i64 (i - (↑(List.length st) : Int))) (↑(List.length lp) : Int) then
       match lp[Int.toNat (Int.tmod (IntKind.wrap .i64 (i - (↑(List.length st) : Int))) (↑(List.length lp) : Int))]? with
       | some x14 =>
        match x14 with
        | D.int j15 m16 => if j15 = IntKind.i64 then k [.d false 0 (D.int .i64 m16), .d false 0 (D.bool true)] [] else none
        | x => none
       | none => none
      else none
     else none := by kernel_rfl
end V26


end Go.Sd

namespace Go.Sd
open Go Go.Cm Go.Proofs Go.Sc
set_option maxRecDepth 100000
namespace Q9A
/- rounds of the search: 1 -/
noncomputable def X : Fx := ⟨Tryz.prog, WQ, 1, 0⟩
theorem start {β : Type}  (k : List TV → List TV → Option β) : evalF Tryz.prog WQ Tryz.f9 [] k =
   match parseP (ByteArray.mk #[71, 32, 70, 32, 34, 97, 34]) (9 : Int) with
  | PA.ok op2 nm3 ks4 p5 =>
   match holdX Tryz.prog (D.ag [D.str op2, D.str nm3, D.sl 5 ks4, D.int .i64 p5]) [D.str (ByteArray.mk #[97])] [] [D.int .i64 0, D.int .i64 1] with
   | some b7 =>
    match holdX Tryz.prog (D.ag [D.str op2, D.str nm3, D.sl 5 ks4, D.int .i64 p5]) [D.str (ByteArray.mk #[97])] [D.int .i64 1] [D.int .i64 0] with
    | some b9 =>
     if b7 = true then
      if (!b9) = true then
       match checkS Tryz.prog [] [] [] with
       | some true => k [.d false 0 (D.bool false)] []
       | some false => k [.d false 0 (D.bool true)] []
       | none => none
      else k [.d false 0 (D.bool false)] []
     else k [.d false 0 (D.bool false)] []
    | none => none
   | none => none
  | PA.no n13 =>
   match
    holdX Tryz.prog (D.ag [D.str (ByteArray.mk #[]), D.str (ByteArray.mk #[]), D.sl 5 [], D.int .i64 0]) [D.str (ByteArray.mk #[97])] []
     [D.int .i64 0, D.int .i64 1] with
   | some b15 =>
    match
     holdX Tryz.prog (D.ag [D.str (ByteArray.mk #[]), D.str (ByteArray.mk #[]), D.sl 5 [], D.int .i64 0]) [D.str (ByteArray.mk #[97])] [D.int .i64 1]
      [D.int .i64 0] with
    | some b17 => k [.d false 0 (D.bool false)] []
    | none => none
   | none => none
  | PA.er p19 n20 =>
   match
    holdX Tryz.prog (D.ag [D.str (ByteArray.mk #[]), D.str (ByteArray.mk #[]), D.sl 5 [], D.int .i64 0]) [D.str (ByteArray.mk #[97])] []
     [D.int .i64 0, D.int .i64 1] with
   | some b22 =>
    match
     holdX Tryz.prog (D.ag [D.str (ByteArray.mk #[]), D.str (ByteArray.mk #[]), D.sl 5 [], D.int .i64 0]) [D.str (ByteArray.mk #[97])] [D.int .i64 1]
      [D.int .i64 0] with
    | some b24 => k [.d false 0 (D.bool false)] []
    | none => none
   | none => none
  | PA.bad => none := by kernel_rfl
end Q9A


end Go.Sd

set_option maxRecDepth 100000
namespace Go.Sd
open Go Go.Cm Go.Proofs Go.Sc
theorem vcParse : VC 10 cParse := fun β args k r hr => envq5 β 10 args k r hr
theorem vcNum : VC 16 cNum := fun β args k r hr => envq0 β 16 args k r hr
theorem vcCheck : VC 38 cCheck := fun β args k r hr => envw11 β 38 args k r hr
theorem envwq : EnvOk glS Tryz.prog WQ := (((EnvOk.none.add vcParse).add vcHoldX).add vcCheck).add vcNum
def gfa : D := .ag [.str ⟨#[71]⟩, .str ⟨#[]⟩, .sl 5 [.ag [.str ⟨#[70]⟩, .str ⟨#[]⟩, .sl 5 [.ag [.str ⟨#[108, 97, 98, 101, 108]⟩, .str ⟨#[97]⟩, .sl 5 [], .int .i64 4]], .int .i64 2]], .int .i64 0]
theorem hold_a : holdX Tryz.prog gfa [.str ⟨#[97]⟩] [] [.int .i64 0, .int .i64 1] = some true := by kernel_rfl
theorem hold_b : holdX Tryz.prog gfa [.str ⟨#[97]⟩] [.int .i64 1] [.int .i64 0] = some false := by kernel_rfl
theorem check_0 : checkS Tryz.prog [] [] [] = some false := by kernel_rfl
theorem ev_alive {β : Type} (k : List TV → List TV → Option β) : evalF Tryz.prog WQ Tryz.f9 [] k = k [.d false 0 (.bool true)] [] := by
  rw [Q9A.start, show parseP ⟨#[71, 32, 70, 32, 34, 97, 34]⟩ 9 = .ok ⟨#[71]⟩ ⟨#[]⟩ [.ag [.str ⟨#[70]⟩, .str ⟨#[]⟩, .sl 5 [.ag [.str ⟨#[108, 97, 98, 101, 108]⟩, .str ⟨#[97]⟩, .sl 5 [], .int .i64 4]], .int .i64 2]] 0 from by kernel_rfl]
  simp only
  have ha := hold_a
  have hb := hold_b
  unfold gfa at ha hb
  rw [ha, hb, check_0]
  rfl
theorem vcAlive : VC 9 cTrue := by
  intro β args k r hr
  change cTrue args k = some r at hr
  unfold cTrue at hr
  split at hr
  · exact ⟨_, _, hr, valid_of envwq mixed Tryz.func9 (by kernel_rfl) (ev_alive _)⟩
  · cases hr
end Go.Sd

set_option maxRecDepth 100000
namespace Go.Sc
open Go Go.Cm
def shStem (st : List D) : List D := st.drop 1
def shLoop (st lp : List D) : List D := match st with | [] => lp.drop 1 ++ lp.take 1 | _ => lp
theorem intsB_drop : ∀ (n : Nat) (l : List D), intsB l = true → intsB (l.drop n) = true
  | 0, l, h => h
  | n + 1, [], h => rfl
  | n + 1, x :: r, h => by
    unfold intsB at h
    split at h
    · exact intsB_drop n r h
    · cases h
def letrB (st lp : List D) (i : Int) : Option (Int × Bool) :=
  if i < 0 then some (0, false)
  else if i < st.length then (iAt st i).map (·, true)
  else if lp.length = 0 then some (0, false)
  else (iAt lp (Int.tmod (i - st.length) lp.length)).map (·, true)
end Go.Sc
namespace Go.Sd
open Go Go.Cm Go.Proofs Go.Sc
theorem valid_any {f : FuncId} {args : List TV} {sh : Nat} {x : D} (h : Valid glS Tryz.prog f args [.d false sh x] []) : Valid glS Tryz.prog f args [.d true sh x] [] := by
  intro w us M g hG hr ha hM
  have := h w us M g hG hr ha hM
  refine Runs.mono this fun e w' => ?_
  rintro ⟨rs, M', rfl, B⟩
  refine ⟨rs, M', rfl, { B with len := B.len, rt := ?_ }⟩
  have hrt := B.rt
  rw [List.append_nil] at hrt ⊢
  simp only [RTs] at hrt ⊢
  obtain ⟨u, rest, M1, M2, e1, e2, h1, h2⟩ := hrt
  refine ⟨u, rest, M1, M2, e1, e2, ?_, h2⟩
  rw [RT] at h1 ⊢
  exact ⟨h1.1, h1.2.1, RA.mono (fun b hb => ⟨⟨hb.1, hb.2.1, by rcases hb.2.2 with ⟨h, _⟩ | h; cases h; exact .inr h⟩, rfl⟩) _ _ h1.2.2⟩
def cShiftS {β : Type} (args : List TV) (k : List TV → List TV → Option β) : Option β :=
  match args with
  | [.d true 3 (.ag [.sl 0 st, .sl 0 lp])] => chkK (intsB st = true ∧ intsB lp = true ∧ st.length + lp.length ≤ big) (k [.d true 3 (.ag [.sl 0 (shStem st), .sl 0 (shLoop st lp)])] [])
  | _ => none
def cLetterS {β : Type} (args : List TV) (k : List TV → List TV → Option β) : Option β :=
  match args with
  | [.d true 3 (.ag [.sl 0 st, .sl 0 lp]), .d true 0 (.int .i64 i)] => match letrB st lp i with
    | some (m, b) => chkK (i ≤ 9223372036854775807 ∧ st.length + lp.length ≤ big) (k [.d false 0 (.int .i64 m), .d false 0 (.bool b)] [])
    | none => none
  | _ => none
theorem take_all {l : List D} {n : Nat} (h : l.length ≤ n) : l.take n = l := List.take_of_length_le h
theorem vcShift : VC 25 cShiftS := by
  intro β args k r hr
  change cShiftS args k = some r at hr
  have hbig : big = 34359738368 := rfl
  unfold cShiftS at hr
  split at hr
  · rename_i st lp
    obtain ⟨⟨h0, h1, h2⟩, hr⟩ := chkK_ok hr
    cases st with
    | cons x st =>
      refine ⟨_, _, hr, valid_any (valid_of envws mixed Tryz.func25 (by kernel_rfl) ?_)⟩
      have hd := intsB_drop 1 _ h0
      rw [V25.start, if_pos (by rw [decide_eq_true_eq]; simp only [List.length_cons]; omega), if_pos (by simp only [List.length_cons]; omega), take_all (by simp), if_pos ⟨hd, by simp at h2 ⊢; omega⟩, if_pos ⟨h1, by omega⟩]
      rfl
    | nil =>
      cases lp with
      | cons x lp =>
        refine ⟨_, _, hr, valid_of envws mixed Tryz.func25 (by kernel_rfl) ?_⟩
        rw [V25.start, if_neg (by simp), if_pos (by rw [decide_eq_true_eq]; simp only [List.length_cons]; omega), if_pos (by simp only [List.length_cons]; omega), if_pos (by simp only [List.length_cons]; omega), take_all (by simp), if_pos (by simp at h2 ⊢; omega)]
        rfl
      | nil =>
        refine ⟨_, _, hr, valid_any (valid_of envws mixed Tryz.func25 (by kernel_rfl) ?_)⟩
        rw [V25.start, if_neg (by simp), if_neg (by simp)]
        rfl
  · cases hr
theorem vcLetter : VC 26 cLetterS := by
  intro β args k r hr
  change cLetterS args k = some r at hr
  have hbig : big = 34359738368 := rfl
  unfold cLetterS at hr
  split at hr
  · rename_i st lp i
    split at hr
    · rename_i m b hl
      obtain ⟨⟨h0, h1⟩, hr⟩ := chkK_ok hr
      refine ⟨_, _, hr, valid_of envws mixed Tryz.func26 (by kernel_rfl) ?_⟩
      rw [V26.start]
      unfold letrB at hl
      split at hl
      · rename_i hi
        cases hl
        rw [if_pos (by simpa using hi)]
      · rename_i hi
        rw [if_neg (by simpa using hi)]
        split at hl
        · rename_i hs
          rw [if_pos (by simpa using hs), if_pos (by omega)]
          cases hx : iAt st i with
          | none => rw [hx] at hl; cases hl
          | some v =>
            rw [hx] at hl
            cases hl
            obtain ⟨_, e⟩ := iAt_ok hx
            rw [e]
            simp
        · rename_i hs
          rw [if_neg (by simpa using hs)]
          split at hl
          · rename_i h
            cases hl
            rw [if_pos (by simp [h])]
          · rename_i h
            rw [if_neg (by rw [beq_iff_eq]; omega), if_pos (show ((lp.length : Int)) ≠ 0 by omega), wrap_id (by omega) (by omega)]
            cases hx : iAt lp (Int.tmod (i - st.length) lp.length) with
            | none => rw [hx] at hl; cases hl
            | some v =>
              rw [hx] at hl
              cases hl
              obtain ⟨h5, e⟩ := iAt_ok hx
              rw [if_pos h5, e]
              simp
    · cases hr
  · cases hr
noncomputable def WZ : Env := (WY.add 25 io0 cShiftS).add 26 io0 cLetterS
end Go.Sd

/- Proved: called with any two lists of integers and any number, LassoLetters of sortilegelaw14 answers true and leaves them as they were (the tied card; the one listed variable, errors.errorType, is tied to the program). No condition. -/
import Derived.Test.YtbpndgllhhajoaaGreatDoorSg
import Derived.Test.YtbpndgllhhajoaaGreatDoorRows
import Derived.ChangeSame
import Derived.ChangeVars
import Derived.ChangeMaps5
import Derived.JoinedOf
import Derived.RowKit
import Derived.RowKitTokens
import Derived.LaidLaws
import Derived.LaidHandle
import Derived.Stop.Joined
import Derived.SevenTiedAt
import Derived.Test.YtbpndgllhhajoaaGreatDoorMd
import Derived.Test.YtbpndgllhhajoaaGreatDoorLg
import Derived.ChangeArms
import Derived.SizedLaws
import Derived.Test.YtbpndgllhhajoaaGreatDoorCards
import Derived.Test.YtbpndgllhhajoaaGreatDoorTie
set_option linter.unusedVariables false
set_option linter.unusedSimpArgs false
namespace Go.Sd
open Go Go.Proofs Go.RowKit Go.ChangeShapes Go.WideShapes Go.Cm
open Go.Proofs.YtbpndgllhhajoaaGreatDoor (Rows.laid_errors_errorType)
set_option maxRecDepth 100000

theorem own : ownKnob Tryz.prog.godebug = none := by kernel_rfl
theorem etG : Tryz.prog.globalNamed "errors.errorType" = some 0 := by kernel_rfl
theorem rtT : (Tryz.prog.cutTypes.find? (·.1 == "internal/reflectlite.rtype")).map (·.2) = some 156 := by kernel_rfl
theorem oneRow : ((List.range 218).filter fun t => Tryz.prog.rowNamed t [101, 114, 114, 111, 114]) = [29] := by kernel_rfl
theorem tsize : Tryz.prog.types.size = 218 := by kernel_rfl
def laidL {H : Type} : List (String × DataW H) := [("errors.errorType", Go.Proofs.YtbpndgllhhajoaaGreatDoor.Rows.laid_errors_errorType)]

theorem handle_of_laid {W : World} (h : laidMetH Tryz.prog [("errors.errorType", Go.Proofs.YtbpndgllhhajoaaGreatDoor.Rows.laid_errors_errorType)] W) : GG W := by
  have h' : laidMet Tryz.prog [] W ∧ handlesMet Tryz.prog [("errors.errorType", Go.Proofs.YtbpndgllhhajoaaGreatDoor.Rows.laid_errors_errorType)] W := h
  obtain ⟨name, u, ty, e1, e2, e3, e4, e5⟩ := h'.2 _ (List.mem_singleton.2 rfl)
  have en : name = [101, 114, 114, 111, 114] := (Option.some.inj e1).symm
  subst en
  obtain rfl := Option.some.inj (rtT.symm.trans e2)
  have hm : ty ∈ (List.range 218).filter fun t => Tryz.prog.rowNamed t [101, 114, 114, 111, 114] := List.mem_filter.2 ⟨List.mem_range.2 (by rw [← tsize]; exact e3), e4⟩
  rw [oneRow] at hm
  obtain rfl := List.mem_singleton.1 hm
  have hh : typeHandle Tryz.prog 29 = .pointer (some ⟨2, 29, none⟩) := by kernel_rfl
  rw [hh] at e5
  simpa using World.var?_cell etG e5 0

noncomputable def laidWorld (os : Os) : World :=
  let w0 := World.holding Tryz.prog os ⟨#[], #[], []⟩
  { w0 with heap := w0.heap.modify 0 fun
      | .cells _ t frozen => .cells #[.iface 156 (.agg #[.pointer (some ⟨2, 29, none⟩)])] t frozen
      | o => o }
theorem laidWorld_met (os : Os) (args : Array Value) : laidMetH Tryz.prog [("errors.errorType", Go.Proofs.YtbpndgllhhajoaaGreatDoor.Rows.laid_errors_errorType)] ((laidWorld os).forCall (fun _ _ => 0) ⟨#[], args, []⟩).memory :=
  laidMetH_of_parts (laidMet_nil _ _) (by kernel_rfl)

end Go.Sd

namespace Go.Sd
open Go Go.Cm Go.Sc Go.Proofs Go.RowKit Go.ChangeMaps
theorem i64_of : ∀ (xs : List D), (∀ x ∈ xs, x.shape = (Sc.int .i64).sh ∧ Fits (.int .i64) x.cells) → intsB xs = true
  | [], _ => rfl
  | x :: xs, h => by
    obtain ⟨hs, hf⟩ := h x (.head _)
    obtain ⟨n, e, hw⟩ := hf.of_int hs
    subst e
    exact i64_of xs fun y hy => h y (.tail _ hy)
theorem i64_le {n : Int} (h : (Lit.int .i64 n).wf = true) : n ≤ 9223372036854775807 := by
  have h2 : IntKind.i64.max = 9223372036854775807 := by decide
  simp only [Lit.wf, h2, Bool.and_eq_true, decide_eq_true_eq] at h
  exact h.2
theorem sl_len {H : Type} {enc : TypeId × Value → H} {P : Program} {W : World} {base : Nat} {sp : Nat → Bool} {held : Bool} {t e : TypeId} {v : Value} {d : DataW H} {ps : List MemPlace} {F : Nat → Prop} {Hh : Hp} {sh : Nat} {xs : List D} {ts : List TypeId} {ds : List (DataW H)} {j : Nat}
    (hu : P.underlying t = some (.slice e)) (hb : P.bytesOf e = 8) (hd : DataW.Trod enc P W base sp held t v d ps) (hr : RA Hh F (.sl sh xs) v)
    (hw : (DataW.weightsEach P ts ds).all (· ≤ reachBytes) = true) (ht : ts[j]? = some t) (hj : ds[j]? = some d) : xs.length ≤ 4611686018427387903 := by
  rw [RA] at hr
  obtain ⟨a, c, rfl, _⟩ := hr
  obtain ⟨fuel, hf⟩ := hd
  rcases DataW.trod_slice hu hf with ⟨h1, _⟩ | ⟨a', len, cap, elems, rest, n, _, h1, h2, _, _, _, h3, _⟩
  · simp [Value.cells] at h1
    omega
  · simp [Value.cells] at h1
    have hd : d = .slice (elems.map (·.1)) (rest.map (·.1)) := (Prod.mk.inj h2).1
    subst hd
    have := sized_slice hw ht hj hu
    rw [hb, List.length_map, h3] at this
    have h47 : reachBytes < 2 ^ 47 := reachBytes_lt
    have e1 : len = xs.length := h1.2.1.symm
    omega
end Go.Sd

namespace Go.Proofs.YtbpndgllhhajoaaGreatDoor
open Go Go.Proofs Go.RowKit Go.ChangeShapes Go.WideShapes Go.Cm Go.Sd Go.ChangeMaps
set_option maxRecDepth 100000
theorem lassoLetters_lifted (os : Os) (started : os.Started) (H : Type) (enc : TypeId × Value → H) :
    ReturnsInHanded {} Tryz.checked os 7 .any (fun w args => (Rows.lassoLettersSpec.pre enc Tryz.prog Tryz.f7 [] false w args ∧ laidMetH Tryz.prog [("errors.errorType", Rows.laid_errors_errorType)] w) ∧ sizedMet enc Tryz.prog Tryz.f7 (OpenSpec.ofChange Rows.lassoLettersSpec) false w args)
      (Rows.lassoLettersSpec.post enc Tryz.prog Tryz.f7 false true false false) := by
  refine returnsInHanded_of_change_and (C := Tryz.checked) (X := fun w _ => laidMetH Tryz.prog [("errors.errorType", Rows.laid_errors_errorType)] w) (fun _ _ _ hh h => h.of_heap hh) own started (by kernel_rfl) Tryz.func7
    (ChangeSpec.witness_at (enc := enc) (C := Tryz.checked) (os := os) (X := fun w _ => laidMetH Tryz.prog [("errors.errorType", Rows.laid_errors_errorType)] w) false (laidWorld os) #[.slice none 0 0, .slice none 0 0, .int .i64 0] 8 rfl (by kernel_rfl) (by kernel_rfl) (by kernel_rfl) (by kernel_rfl) (by kernel_rfl) (laidWorld_met os _)) ?_
  intro W base args ds gs before hval0 hW _ hsz hL _
  have hval : ∀ (j : Nat) t v, Tryz.f7.params[j]? = some t → args[j]? = some v → Value.okWide Tryz.prog W .any base t v := hval0
  have hW' := hW
  obtain ⟨p, q, hA0, hV0, rfl, hfz, hnd⟩ := hW
  have hA : DataW.TrodAll enc Tryz.prog W 0 (fun _ => true) true Tryz.f7.params.toList args.toList ds p := hA0
  have hV : DataW.TrodVars enc Tryz.prog W (fun _ => true) [] gs q := hV0
  rw [Tryz.params7] at hA hval
  obtain ⟨v0, v1, v2, d0, d1, d2, p0, p1, p2, rfl, rfl, rfl, h0, h1, h2⟩ := trodAll_three hA
  have hval0 := hval 0 23 v0 rfl rfl
  have hval1 := hval 1 23 v1 rfl rfl
  have hval2 := hval 2 3 v2 rfl rfl
  have k0 := h0
  obtain ⟨y0, hra0, hsh0, hy0⟩ := open_in (τ := .sl (.int .i64)) (by kernel_rfl) hval0 h0
  obtain ⟨xs0, rfl, hm0, hx0⟩ := hy0.of_sl hsh0
  have hu0 := i64_of xs0 hx0
  have k1 := h1
  obtain ⟨y1, hra1, hsh1, hy1⟩ := open_in (τ := .sl (.int .i64)) (by kernel_rfl) hval1 h1
  obtain ⟨xs1, rfl, hm1, hx1⟩ := hy1.of_sl hsh1
  have hu1 := i64_of xs1 hx1
  have k2 := h2
  obtain ⟨y2, hra2, hsh2, hy2⟩ := open_in (τ := .int .i64) (by kernel_rfl) hval2 h2
  obtain ⟨n2, rfl, hw2⟩ := hy2.of_int hsh2
  have hg := handle_of_laid hL
  obtain ⟨rfl, rfl⟩ : gs = [] ∧ q = [] := by
    cases gs with
    | nil => exact ⟨rfl, hV⟩
    | cons g r => exact absurd hV (by intro h; cases h)
  have hl0 := sl_len (P := Tryz.prog) (t := 23) (e := 3) (ts := Tryz.f7.params.toList ++ _) (ds := [d0, d1, d2] ++ []) (j := 0) Tryz.underlying23 (by kernel_rfl) k0 hra0 hsz rfl rfl
  have hl1 := sl_len (P := Tryz.prog) (t := 23) (e := 3) (ts := Tryz.f7.params.toList ++ _) (ds := [d0, d1, d2] ++ []) (j := 1) Tryz.underlying23 (by kernel_rfl) k1 hra1 hsz rfl rfl
  refine (calls_true' Tryz.func7 (by kernel_rfl) (by kernel_rfl) (valid_letters hu0 hu1 hl0 hl1 (i64_le hw2)) (us := [v0, v1, v2]) hg (.cons hra0 rfl (.cons hra1 rfl (.cons hra2 rfl .nil)))).mono fun e W' => ?_
  rintro ⟨rfl, hb⟩
  refine ⟨_, rfl, _, _, _, [], p0 ++ (p1 ++ (p2)), [], hW', ?_, ?_, ?_, hb.frame _, fun h => by cases h⟩
  · exact trodAll_mk1 (shut_bool Tryz.underlying4 true)
  · exact trodAll_mk3 (shut_arg (by kernel_rfl) (by kernel_rfl) (of_decide_eq_true (by kernel_rfl)) k0 hb) (shut_arg (by kernel_rfl) (by kernel_rfl) (of_decide_eq_true (by kernel_rfl)) k1 hb) (shut_arg (by kernel_rfl) (by kernel_rfl) (of_decide_eq_true (by kernel_rfl)) k2 hb)
  · rfl
theorem lassoLetters_holds : Rows.LassoLettersSaid :=
  OpenClaim.holds_of_wide 7 Tryz.f7 rfl rfl rfl rfl rfl rfl rfl ⟨rfl, rfl, rfl, rfl, rfl⟩ rfl rfl rfl rfl rfl (by kernel_rfl) Tryz.func7 (by kernel_rfl)
    (of_decide_eq_true (by kernel_rfl)) (by unfold Func.isWrapper; rw [if_neg (of_decide_eq_false (by kernel_rfl))]; exact ⟨rfl, rfl⟩)
    (fun os started H enc _ => lassoLetters_lifted os started H enc)
theorem lassoLetters_card : Rows.LassoLettersCardSaid :=
  Claim7.holds_tied_plain_at .later [] [.handle] true (true, "b16199796a24610a5929d46b794cca21706d7ff648807601172cb92c266d29e9") true
    lassoLetters_holds (fun _ h => by cases h) (by kernel_rfl) (fun _ h => by cases h) lassoLetters_row_tie rfl ⟨rfl, rfl⟩ (by kernel_rfl) rfl
    (fun f fn hf hfn => by
      obtain rfl : f = 7 := Option.some.inj ((show Tryz.prog.funcNamed "sortilege/sortilegelaw14.LassoLetters" = some 7 by kernel_rfl).symm.trans hf) |>.symm
      obtain rfl : fn = Tryz.f7 := (Option.some.inj (Tryz.func7.symm.trans hfn)).symm
      exact ⟨by kernel_rfl, fun j t ht => by
        rw [Tryz.params7] at ht
        have h3 : t = 3 ∨ t = 23 := by
          rcases j with _ | _ | _ | j
          · exact .inr (by simpa using ht.symm)
          · exact .inr (by simpa using ht.symm)
          · exact .inl (by simpa using ht.symm)
          · simp at ht
        rcases h3 with rfl | rfl
        · exact (show Tryz.prog.wantsStandIn 3 = false by kernel_rfl)
        · exact (show Tryz.prog.wantsStandIn 23 = false by kernel_rfl)⟩)
    (by kernel_rfl)
#print axioms lassoLetters_card
end Go.Proofs.YtbpndgllhhajoaaGreatDoor

/- Proved: called with any two texts and any two lists of bytes, LassoSteps of sortilegelaw14 answers true and leaves them as they were (the tied card; the one listed variable, errors.errorType, is tied to the program). No condition. -/
import Derived.Test.YtbpndgllhhajoaaGreatDoorSg
import Derived.Test.YtbpndgllhhajoaaGreatDoorRows
import Derived.ChangeSame
import Derived.ChangeVars
import Derived.ChangeMaps5
import Derived.JoinedOf
import Derived.RowKit
import Derived.RowKitTokens
import Derived.LaidLaws
import Derived.LaidHandle
import Derived.Stop.Joined
import Derived.SevenTiedAt
import Derived.Test.YtbpndgllhhajoaaGreatDoorMd
import Derived.Test.YtbpndgllhhajoaaGreatDoorLg
import Derived.Test.YtbpndgllhhajoaaGreatDoorCards
import Derived.Test.YtbpndgllhhajoaaGreatDoorTie
set_option linter.unusedVariables false
set_option linter.unusedSimpArgs false
namespace Go.Sd
open Go Go.Proofs Go.RowKit Go.ChangeShapes Go.WideShapes Go.Cm
open Go.Proofs.YtbpndgllhhajoaaGreatDoor (Rows.laid_errors_errorType)
set_option maxRecDepth 100000

theorem own : ownKnob Tryz.prog.godebug = none := by kernel_rfl
theorem etG : Tryz.prog.globalNamed "errors.errorType" = some 0 := by kernel_rfl
theorem rtT : (Tryz.prog.cutTypes.find? (·.1 == "internal/reflectlite.rtype")).map (·.2) = some 156 := by kernel_rfl
theorem oneRow : ((List.range 218).filter fun t => Tryz.prog.rowNamed t [101, 114, 114, 111, 114]) = [29] := by kernel_rfl
theorem tsize : Tryz.prog.types.size = 218 := by kernel_rfl
def laidL {H : Type} : List (String × DataW H) := [("errors.errorType", Go.Proofs.YtbpndgllhhajoaaGreatDoor.Rows.laid_errors_errorType)]

theorem handle_of_laid {W : World} (h : laidMetH Tryz.prog [("errors.errorType", Go.Proofs.YtbpndgllhhajoaaGreatDoor.Rows.laid_errors_errorType)] W) : GG W := by
  have h' : laidMet Tryz.prog [] W ∧ handlesMet Tryz.prog [("errors.errorType", Go.Proofs.YtbpndgllhhajoaaGreatDoor.Rows.laid_errors_errorType)] W := h
  obtain ⟨name, u, ty, e1, e2, e3, e4, e5⟩ := h'.2 _ (List.mem_singleton.2 rfl)
  have en : name = [101, 114, 114, 111, 114] := (Option.some.inj e1).symm
  subst en
  obtain rfl := Option.some.inj (rtT.symm.trans e2)
  have hm : ty ∈ (List.range 218).filter fun t => Tryz.prog.rowNamed t [101, 114, 114, 111, 114] := List.mem_filter.2 ⟨List.mem_range.2 (by rw [← tsize]; exact e3), e4⟩
  rw [oneRow] at hm
  obtain rfl := List.mem_singleton.1 hm
  have hh : typeHandle Tryz.prog 29 = .pointer (some ⟨2, 29, none⟩) := by kernel_rfl
  rw [hh] at e5
  simpa using World.var?_cell etG e5 0

noncomputable def laidWorld (os : Os) : World :=
  let w0 := World.holding Tryz.prog os ⟨#[], #[], []⟩
  { w0 with heap := w0.heap.modify 0 fun
      | .cells _ t frozen => .cells #[.iface 156 (.agg #[.pointer (some ⟨2, 29, none⟩)])] t frozen
      | o => o }
theorem laidWorld_met (os : Os) (args : Array Value) : laidMetH Tryz.prog [("errors.errorType", Go.Proofs.YtbpndgllhhajoaaGreatDoor.Rows.laid_errors_errorType)] ((laidWorld os).forCall (fun _ _ => 0) ⟨#[], args, []⟩).memory :=
  laidMetH_of_parts (laidMet_nil _ _) (by kernel_rfl)

theorem calls_of_runs {f : FuncId} {fn : Func} {args : Array Value} {w : World} {R : Ending → World → Prop} (hf : Tryz.prog.funcs[f]? = some fn) (hn : (fn.name == "runtime.NumGoroutine") = false) (hb : fn.body.isSome = true)
    (h : Runs Tryz.prog f args w R) : Calls Tryz.prog f args w R := by
  have hb' : fn.body.isNone = false := by cases hx : fn.body <;> simp [hx] at hb ⊢
  have e : (callFunc f args).run Tryz.prog w = .ok (.enter f args) w := by
    simp only [callFunc, Sem.run_bind, run_program, Result.andThen, hf, hn, hb', Bool.false_eq_true, if_false, Sem.run_pure]
  unfold Runs at h
  rw [e] at h
  exact h
theorem keptBut_of {w w' : World} {may : MemPlace → Prop} (hos : w'.os = w.os) (ho : w'.output = w.output) (h : ∀ b, b < w.heap.size → w'.heap[b]? = w.heap[b]?) : w.keptBut w' may := by
  refine ⟨hos, ho, fun i hi => ?_⟩
  rw [h i hi]
  split
  · rename_i a b c d e f h1 h2
    have := h1.symm.trans h2
    cases this
    exact ⟨rfl, rfl, rfl, fun _ _ => rfl⟩
  · rename_i a b c d h1 h2
    have := h1.symm.trans h2
    cases this
    exact .inr ⟨rfl, rfl⟩
  · rfl
theorem calls_true {f : FuncId} {fn : Func} {args : List TV} {us : List Value} (hf : Tryz.prog.funcs[f]? = some fn) (hn : (fn.name == "runtime.NumGoroutine") = false) (hb : fn.body.isSome = true)
    (hv : Valid glS Tryz.prog f args [.d false 0 (.bool true)] []) {W : World} (hG : GG W) (hr : RTs (hp W) (Fin W [] (fun _ => True)) args us []) (ha : Als (hp W) (Fin W [] (fun _ => True)) args us) :
    Calls Tryz.prog f us.toArray W fun e W' => e = .returned (.bool true) ∧ W'.os = W.os ∧ W'.output = W.output ∧ ∀ b, b < W.heap.size → W'.heap[b]? = W.heap[b]? := by
  have h := hv W us [] (fun _ => True) ⟨hG, fun _ _ => by simp⟩ hr ha List.nodup_nil
  refine (calls_of_runs hf hn hb h).mono fun e W' => ?_
  rintro ⟨rs, M', rfl, B⟩
  have hl := B.len
  have hrt := B.rt
  match rs, hl with
  | [r], _ =>
    rw [List.append_nil, List.cons_append, RTs] at hrt
    obtain ⟨u, rest, M1, M2, e1, _, h1, _⟩ := hrt
    simp only [RT, RA] at h1
    cases e1
    rw [h1.2.2]
    exact ⟨rfl, B.os, B.output, fun b hb => B.old b hb (by simp)⟩
end Go.Sd

namespace Go.Sd
open Go Go.Cm Go.Sc
theorem u8_of : ∀ (xs : List D), (∀ x ∈ xs, x.shape = (Sc.int .u8).sh ∧ Fits (.int .u8) x.cells) → U8D xs
  | [], _ => fun d hd => by cases hd
  | x :: xs, h => fun d hd => by
    rcases List.mem_cons.1 hd with rfl | hd
    · obtain ⟨hs, hf⟩ := h _ (.head _)
      obtain ⟨n, e, hw⟩ := hf.of_int hs
      refine ⟨n, e, ?_⟩
      have h1 : IntKind.u8.min = 0 := by decide
      have h2 : IntKind.u8.max = 255 := by decide
      simp only [Lit.wf, h1, h2, Bool.and_eq_true, decide_eq_true_eq] at hw
      omega
    · exact u8_of xs (fun y hy => h y (.tail _ hy)) d hd
end Go.Sd

namespace Go.Proofs.YtbpndgllhhajoaaGreatDoor
open Go Go.Proofs Go.RowKit Go.ChangeShapes Go.WideShapes Go.Cm Go.Sd Go.ChangeMaps
set_option maxRecDepth 100000
theorem lassoSteps_lifted (os : Os) (started : os.Started) (H : Type) (enc : TypeId × Value → H) :
    ReturnsInHanded {} Tryz.checked os 5 .any (fun w args => (Rows.lassoStepsSpec.pre enc Tryz.prog Tryz.f5 [] false w args ∧ laidMetH Tryz.prog [("errors.errorType", Rows.laid_errors_errorType)] w) ∧ sizedMet enc Tryz.prog Tryz.f5 (OpenSpec.ofChange Rows.lassoStepsSpec) false w args)
      (Rows.lassoStepsSpec.post enc Tryz.prog Tryz.f5 false true false false) := by
  refine returnsInHanded_of_change_and (C := Tryz.checked) (X := fun w _ => laidMetH Tryz.prog [("errors.errorType", Rows.laid_errors_errorType)] w) (fun _ _ _ hh h => h.of_heap hh) own started (by kernel_rfl) Tryz.func5
    (ChangeSpec.witness_at (enc := enc) (C := Tryz.checked) (os := os) (X := fun w _ => laidMetH Tryz.prog [("errors.errorType", Rows.laid_errors_errorType)] w) false (laidWorld os) #[.string ⟨#[]⟩, .string ⟨#[]⟩, .slice none 0 0, .slice none 0 0] 8 rfl (by kernel_rfl) (by kernel_rfl) (by kernel_rfl) (by kernel_rfl) (by kernel_rfl) (laidWorld_met os _)) ?_
  intro W base args ds gs before hval0 hW _ hsz hL _
  have hval : ∀ (j : Nat) t v, Tryz.f5.params[j]? = some t → args[j]? = some v → Value.okWide Tryz.prog W .any base t v := hval0
  have hW' := hW
  obtain ⟨p, q, hA0, hV0, rfl, hfz, hnd⟩ := hW
  have hA : DataW.TrodAll enc Tryz.prog W 0 (fun _ => true) true Tryz.f5.params.toList args.toList ds p := hA0
  have hV : DataW.TrodVars enc Tryz.prog W (fun _ => true) [] gs q := hV0
  rw [Tryz.params5] at hA hval
  obtain ⟨v0, v1, v2, v3, d0, d1, d2, d3, p0, p1, p2, p3, rfl, rfl, rfl, h0, h1, h2, h3⟩ := trodAll_four hA
  have hval0 := hval 0 9 v0 rfl rfl
  have hval1 := hval 1 9 v1 rfl rfl
  have hval2 := hval 2 50 v2 rfl rfl
  have hval3 := hval 3 50 v3 rfl rfl
  obtain ⟨s0, rfl, rfl, rfl, hs0⟩ := open_string Tryz.underlying9 hval0 h0
  obtain ⟨s1, rfl, rfl, rfl, hs1⟩ := open_string Tryz.underlying9 hval1 h1
  have k2 := h2
  obtain ⟨y2, hra2, hsh2, hy2⟩ := open_in (τ := .sl (.int .u8)) (by kernel_rfl) hval2 h2
  obtain ⟨xs2, rfl, _, hx2⟩ := hy2.of_sl hsh2
  have hu2 := u8_of xs2 hx2
  have k3 := h3
  obtain ⟨y3, hra3, hsh3, hy3⟩ := open_in (τ := .sl (.int .u8)) (by kernel_rfl) hval3 h3
  obtain ⟨xs3, rfl, _, hx3⟩ := hy3.of_sl hsh3
  have hu3 := u8_of xs3 hx3
  have hg := handle_of_laid hL
  obtain ⟨rfl, rfl⟩ : gs = [] ∧ q = [] := by
    cases gs with
    | nil => exact ⟨rfl, hV⟩
    | cons g r => exact absurd hV (by intro h; cases h)
  refine (calls_true' Tryz.func5 (by kernel_rfl) (by kernel_rfl) (valid_steps s0 s1 hu2 hu3) (us := [.string s0, .string s1, v2, v3]) hg (.cons (x := .str s0) (by simp [RA]) rfl (.cons (x := .str s1) (by simp [RA]) rfl (.cons hra2 rfl (.cons hra3 rfl .nil))))).mono fun e W' => ?_
  rintro ⟨rfl, hb⟩
  refine ⟨_, rfl, _, _, _, [], [] ++ [] ++ p2 ++ p3, [], hW', ?_, ?_, ?_, hb.frame _, fun h => by cases h⟩
  · exact trodAll_mk1 (shut_bool Tryz.underlying4 true)
  · exact trodAll_mk4 (shut_string Tryz.underlying9 hs0) (shut_string Tryz.underlying9 hs1) (shut_arg (by kernel_rfl) (by kernel_rfl) (of_decide_eq_true (by kernel_rfl)) k2 hb) (shut_arg (by kernel_rfl) (by kernel_rfl) (of_decide_eq_true (by kernel_rfl)) k3 hb)
  · rfl
theorem lassoSteps_holds : Rows.LassoStepsSaid :=
  OpenClaim.holds_of_wide 5 Tryz.f5 rfl rfl rfl rfl rfl rfl rfl ⟨rfl, rfl, rfl, rfl, rfl⟩ rfl rfl rfl rfl rfl (by kernel_rfl) Tryz.func5 (by kernel_rfl)
    (of_decide_eq_true (by kernel_rfl)) (by unfold Func.isWrapper; rw [if_neg (of_decide_eq_false (by kernel_rfl))]; exact ⟨rfl, rfl⟩)
    (fun os started H enc _ => lassoSteps_lifted os started H enc)
theorem lassoSteps_card : Rows.LassoStepsCardSaid :=
  Claim7.holds_tied_plain_at .later [] [.handle] true (true, "b16199796a24610a5929d46b794cca21706d7ff648807601172cb92c266d29e9") true
    lassoSteps_holds (fun _ h => by cases h) (by kernel_rfl) (fun _ h => by cases h) lassoSteps_row_tie rfl ⟨rfl, rfl⟩ (by kernel_rfl) rfl
    (fun f fn hf hfn => by
      obtain rfl : f = 5 := Option.some.inj ((show Tryz.prog.funcNamed "sortilege/sortilegelaw14.LassoSteps" = some 5 by kernel_rfl).symm.trans hf) |>.symm
      obtain rfl : fn = Tryz.f5 := (Option.some.inj (Tryz.func5.symm.trans hfn)).symm
      exact ⟨by kernel_rfl, fun j t ht => by
        rw [Tryz.params5] at ht
        have h3 : t = 9 ∨ t = 50 := by
          rcases j with _ | _ | _ | _ | j
          · exact .inl (by simpa using ht.symm)
          · exact .inl (by simpa using ht.symm)
          · exact .inr (by simpa using ht.symm)
          · exact .inr (by simpa using ht.symm)
          · simp at ht
        rcases h3 with rfl | rfl
        · exact (show Tryz.prog.wantsStandIn 9 = false by kernel_rfl)
        · exact (show Tryz.prog.wantsStandIn 50 = false by kernel_rfl)⟩)
    (by kernel_rfl)
#print axioms lassoSteps_card
end Go.Proofs.YtbpndgllhhajoaaGreatDoor

/- Proved: called with any text, any list of texts and any two lists of integers, LassoHolds of sortilegelaw14 answers true and leaves them as they were (the tied card; the one listed variable, errors.errorType, is tied to the program). No condition. -/
import Derived.Test.YtbpndgllhhajoaaGreatDoorMaf
import Derived.Test.YtbpndgllhhajoaaGreatDoorMan
import Derived.Test.YtbpndgllhhajoaaGreatDoorMao
import Derived.Test.YtbpndgllhhajoaaGreatDoorMag
import Derived.Test.YtbpndgllhhajoaaGreatDoorCards
import Derived.Test.YtbpndgllhhajoaaGreatDoorTie
set_option linter.unusedVariables false
set_option linter.unusedSimpArgs false
namespace Go.Proofs.YtbpndgllhhajoaaGreatDoor
open Go Go.Proofs Go.RowKit Go.ChangeShapes Go.WideShapes Go.Cm Go.Sd Go.ChangeMaps
set_option maxRecDepth 100000
theorem lassoHolds_lifted (os:Os) (started:os.Started) (H:Type) (enc:TypeId×Value→H):
  ReturnsInHanded {} Tryz.checked os 3 .any (fun w args=>(Rows.lassoHoldsSpec.pre enc Tryz.prog Tryz.f3 [] false w args∧laidMetH Tryz.prog [("errors.errorType",Rows.laid_errors_errorType)] w)∧sizedMet enc Tryz.prog Tryz.f3 (OpenSpec.ofChange Rows.lassoHoldsSpec) false w args)
   (Rows.lassoHoldsSpec.post enc Tryz.prog Tryz.f3 false true false false):=by
 refine returnsInHanded_of_change_and (C:=Tryz.checked) (X:=fun w _=>laidMetH Tryz.prog [("errors.errorType",Rows.laid_errors_errorType)] w) (fun _ _ _ hh h=>h.of_heap hh) own started (by kernel_rfl) Tryz.func3
  (ChangeSpec.witness_at (enc:=enc) (C:=Tryz.checked) (os:=os) (X:=fun w _=>laidMetH Tryz.prog [("errors.errorType",Rows.laid_errors_errorType)] w) false (laidWorld os) #[.string ⟨#[]⟩,.slice none 0 0,.slice none 0 0,.slice none 0 0] 8 rfl (by kernel_rfl) (by kernel_rfl) (by kernel_rfl) (by kernel_rfl) (by kernel_rfl) (laidWorld_met os _)) ?_
 intro W base args ds gs before hval0 hW _ hsz hL _
 have hval:∀(j:Nat) t v,Tryz.f3.params[j]? =some t→args[j]? =some v→Value.okWide Tryz.prog W .any base t v:=hval0
 have hW':=hW
 obtain⟨p,q,hA0,hV0,rfl,hfz,hnd⟩:=hW
 have hA:DataW.TrodAll enc Tryz.prog W 0 (fun _=>true) true Tryz.f3.params.toList args.toList ds p:=hA0
 have hV:DataW.TrodVars enc Tryz.prog W (fun _=>true) [] gs q:=hV0
 rw[Tryz.params3]at hA hval
 obtain⟨v0,v1,v2,v3,d0,d1,d2,d3,p0,p1,p2,p3,rfl,rfl,rfl,h0,h1,h2,h3⟩:=trodAll_four hA
 have hval0:=hval 0 9 v0 rfl rfl
 have hval1:=hval 1 22 v1 rfl rfl
 have hval2:=hval 2 23 v2 rfl rfl
 have hval3:=hval 3 23 v3 rfl rfl
 obtain⟨s0,rfl,rfl,rfl,hs0⟩:=open_string Tryz.underlying9 hval0 h0
 have k1:=h1
 obtain⟨y1,hra1,hsh1,hy1⟩:=open_in (τ:=.sl .str) (by kernel_rfl) hval1 h1
 obtain⟨xs1,rfl,hm1,hx1⟩:=hy1.of_sl hsh1
 have hu1:=strs_of xs1 hx1
 have k2:=h2
 obtain⟨y2,hra2,hsh2,hy2⟩:=open_in (τ:=.sl (.int .i64)) (by kernel_rfl) hval2 h2
 obtain⟨xs2,rfl,hm2,hx2⟩:=hy2.of_sl hsh2
 have hu2:=i64_of xs2 hx2
 have k3:=h3
 obtain⟨y3,hra3,hsh3,hy3⟩:=open_in (τ:=.sl (.int .i64)) (by kernel_rfl) hval3 h3
 obtain⟨xs3,rfl,hm3,hx3⟩:=hy3.of_sl hsh3
 have hu3:=i64_of xs3 hx3
 have hg:=handle_of_laid hL
 obtain⟨rfl,rfl⟩:gs=[]∧q=[]:=by
  cases gs with
  |nil=>exact⟨rfl,hV⟩
  |cons g r=>exact absurd hV (by intro h;cases h)
 have hl0:=sl_len (P:=Tryz.prog) (t:=23) (e:=3) (ts:=Tryz.f3.params.toList++_) (ds:=[.lit (.string s0.data.toList),d1,d2,d3]++[]) (j:=2) Tryz.underlying23 (by kernel_rfl) k2 hra2 hsz rfl rfl
 have hl1:=sl_len (P:=Tryz.prog) (t:=23) (e:=3) (ts:=Tryz.f3.params.toList++_) (ds:=[.lit (.string s0.data.toList),d1,d2,d3]++[]) (j:=3) Tryz.underlying23 (by kernel_rfl) k3 hra3 hsz rfl rfl
 refine(calls_true' Tryz.func3 (by kernel_rfl) (by kernel_rfl) (valid_holds s0 hu1 hu2 hu3 hl0 hl1) (us:=[.string s0,v1,v2,v3]) hg (.cons (x:=.str s0) (by simp[RA]) rfl (.cons hra1 rfl (.cons hra2 rfl (.cons hra3 rfl .nil))))).mono fun e W'=>?_
 rintro⟨rfl,hb⟩
 refine⟨_,rfl,_,_,_,[],[]++(p1++(p2++(p3))),[],hW',?_,?_,?_,hb.frame _,fun h=>by cases h⟩
 ·exact trodAll_mk1 (shut_bool Tryz.underlying4 true)
 ·exact trodAll_mk4 (shut_string Tryz.underlying9 hs0) (shut_arg (by kernel_rfl) (by kernel_rfl) (of_decide_eq_true (by kernel_rfl)) k1 hb) (shut_arg (by kernel_rfl) (by kernel_rfl) (of_decide_eq_true (by kernel_rfl)) k2 hb) (shut_arg (by kernel_rfl) (by kernel_rfl) (of_decide_eq_true (by kernel_rfl)) k3 hb)
 ·rfl
theorem lassoHolds_holds:Rows.LassoHoldsSaid:=
 OpenClaim.holds_of_wide 3 Tryz.f3 rfl rfl rfl rfl rfl rfl rfl ⟨rfl,rfl,rfl,rfl,rfl⟩ rfl rfl rfl rfl rfl (by kernel_rfl) Tryz.func3 (by kernel_rfl)
  (of_decide_eq_true (by kernel_rfl)) (by unfold Func.isWrapper;rw[if_neg (of_decide_eq_false (by kernel_rfl))];exact⟨rfl,rfl⟩)
  (fun os started H enc _=>lassoHolds_lifted os started H enc)
theorem lassoHolds_card:Rows.LassoHoldsCardSaid:=
 Claim7.holds_tied_plain_at .later [] [.handle] true (true, "b16199796a24610a5929d46b794cca21706d7ff648807601172cb92c266d29e9") true
  lassoHolds_holds (fun _ h=>by cases h) (by kernel_rfl) (fun _ h=>by cases h) lassoHolds_row_tie rfl ⟨rfl,rfl⟩ (by kernel_rfl) rfl
  (fun f fn hf hfn=>by
   obtain rfl:f=3:=Option.some.inj ((show Tryz.prog.funcNamed "sortilege/sortilegelaw14.LassoHolds" =some 3 by kernel_rfl).symm.trans hf) |>.symm
   obtain rfl:fn=Tryz.f3:=(Option.some.inj (Tryz.func3.symm.trans hfn)).symm
   exact⟨by kernel_rfl,fun j t ht=>by
    rw[Tryz.params3]at ht
    have h3:t=9∨t=22∨t=23:=by
     rcases j with _|_|_|_|j
     ·exact .inl (by simpa using ht.symm)
     ·exact .inr (.inl (by simpa using ht.symm))
     ·exact .inr (.inr (by simpa using ht.symm))
     ·exact .inr (.inr (by simpa using ht.symm))
     ·simp at ht
    rcases h3 with rfl|rfl|rfl
    ·exact(show Tryz.prog.wantsStandIn 9=false by kernel_rfl)
    ·exact(show Tryz.prog.wantsStandIn 22=false by kernel_rfl)
    ·exact(show Tryz.prog.wantsStandIn 23=false by kernel_rfl)⟩)
  (by kernel_rfl)
#print axioms lassoHolds_card
end Go.Proofs.YtbpndgllhhajoaaGreatDoor

/- Proved: called with any text and either Boolean, NnfTells of sortilegelaw15 answers true and leaves them as they were (the tied card; the one listed variable, errors.errorType, is tied to the program). No condition. -/
import Derived.Test.YtbpndgllhhajoaaGreatDoorMaf
import Derived.Test.YtbpndgllhhajoaaGreatDoorMal
import Derived.Test.YtbpndgllhhajoaaGreatDoorCards
import Derived.Test.YtbpndgllhhajoaaGreatDoorTie
set_option linter.unusedVariables false
set_option linter.unusedSimpArgs false
namespace Go.Proofs.YtbpndgllhhajoaaGreatDoor
open Go Go.Proofs Go.RowKit Go.ChangeShapes Go.WideShapes Go.Cm Go.Sd Go.ChangeMaps
set_option maxRecDepth 100000
theorem nnfTells_lifted (os:Os) (started:os.Started) (H:Type) (enc:TypeId×Value→H):
  ReturnsInHanded {} Tryz.checked os 8 .any (fun w args=>(Rows.nnfTellsSpec.pre enc Tryz.prog Tryz.f8 [] false w args∧laidMetH Tryz.prog [("errors.errorType",Rows.laid_errors_errorType)] w)∧sizedMet enc Tryz.prog Tryz.f8 (OpenSpec.ofChange Rows.nnfTellsSpec) false w args)
   (Rows.nnfTellsSpec.post enc Tryz.prog Tryz.f8 false true false false):=by
 refine returnsInHanded_of_change_and (C:=Tryz.checked) (X:=fun w _=>laidMetH Tryz.prog [("errors.errorType",Rows.laid_errors_errorType)] w) (fun _ _ _ hh h=>h.of_heap hh) own started (by kernel_rfl) Tryz.func8
  (ChangeSpec.witness_at (enc:=enc) (C:=Tryz.checked) (os:=os) (X:=fun w _=>laidMetH Tryz.prog [("errors.errorType",Rows.laid_errors_errorType)] w) false (laidWorld os) #[.string ⟨#[]⟩,.bool false] 8 rfl (by kernel_rfl) (by kernel_rfl) (by kernel_rfl) (by kernel_rfl) (by kernel_rfl) (laidWorld_met os _)) ?_
 intro W base args ds gs before hval0 hW _ hsz hL _
 have hval:∀(j:Nat) t v,Tryz.f8.params[j]? =some t→args[j]? =some v→Value.okWide Tryz.prog W .any base t v:=hval0
 have hW':=hW
 obtain⟨p,q,hA0,hV0,rfl,hfz,hnd⟩:=hW
 have hA:DataW.TrodAll enc Tryz.prog W 0 (fun _=>true) true Tryz.f8.params.toList args.toList ds p:=hA0
 have hV:DataW.TrodVars enc Tryz.prog W (fun _=>true) [] gs q:=hV0
 rw[Tryz.params8]at hA hval
 obtain⟨v0,v1,d0,d1,p0,p1,rfl,rfl,rfl,h0,h1⟩:=trodAll_two hA
 have hval0:=hval 0 9 v0 rfl rfl
 have hval1:=hval 1 4 v1 rfl rfl
 obtain⟨s0,rfl,rfl,rfl,hs0⟩:=open_string Tryz.underlying9 hval0 h0
 have k1:=h1
 obtain⟨y1,hra1,hsh1,hy1⟩:=open_in (τ:=.bool) (by kernel_rfl) hval1 h1
 obtain⟨n1,rfl⟩:=hy1.of_bool hsh1
 have hg:=handle_of_laid hL
 obtain⟨rfl,rfl⟩:gs=[]∧q=[]:=by
  cases gs with
  |nil=>exact⟨rfl,hV⟩
  |cons g r=>exact absurd hV (by intro h;cases h)
 refine(calls_true' Tryz.func8 (by kernel_rfl) (by kernel_rfl) (nnfTells_valid s0 n1) (us:=[.string s0,v1]) hg (.cons (x:=.str s0) (by simp[RA]) rfl (.cons hra1 rfl .nil))).mono fun e W'=>?_
 rintro⟨rfl,hb⟩
 refine⟨_,rfl,_,_,_,[],[]++(p1),[],hW',?_,?_,?_,hb.frame _,fun h=>by cases h⟩
 ·exact trodAll_mk1 (shut_bool Tryz.underlying4 true)
 ·exact trodAll_mk2 (shut_string Tryz.underlying9 hs0) (shut_arg (by kernel_rfl) (by kernel_rfl) (of_decide_eq_true (by kernel_rfl)) k1 hb)
 ·rfl
theorem nnfTells_holds:Rows.NnfTellsSaid:=
 OpenClaim.holds_of_wide 8 Tryz.f8 rfl rfl rfl rfl rfl rfl rfl ⟨rfl,rfl,rfl,rfl,rfl⟩ rfl rfl rfl rfl rfl (by kernel_rfl) Tryz.func8 (by kernel_rfl)
  (of_decide_eq_true (by kernel_rfl)) (by unfold Func.isWrapper;rw[if_neg (of_decide_eq_false (by kernel_rfl))];exact⟨rfl,rfl⟩)
  (fun os started H enc _=>nnfTells_lifted os started H enc)
theorem nnfTells_card:Rows.NnfTellsCardSaid:=
 Claim7.holds_tied_plain_at .later [] [.handle] true (true, "b16199796a24610a5929d46b794cca21706d7ff648807601172cb92c266d29e9") true
  nnfTells_holds (fun _ h=>by cases h) (by kernel_rfl) (fun _ h=>by cases h) nnfTells_row_tie rfl ⟨rfl,rfl⟩ (by kernel_rfl) rfl
  (fun f fn hf hfn=>by
   obtain rfl:f=8:=Option.some.inj ((show Tryz.prog.funcNamed "sortilege/sortilegelaw15.NnfTells" =some 8 by kernel_rfl).symm.trans hf) |>.symm
   obtain rfl:fn=Tryz.f8:=(Option.some.inj (Tryz.func8.symm.trans hfn)).symm
   exact⟨by kernel_rfl,fun j t ht=>by
    rw[Tryz.params8]at ht
    have h3:t=4∨t=9:=by
     rcases j with _|_|j
     ·exact .inr (by simpa using ht.symm)
     ·exact .inl (by simpa using ht.symm)
     ·simp at ht
    rcases h3 with rfl|rfl
    ·exact(show Tryz.prog.wantsStandIn 4=false by kernel_rfl)
    ·exact(show Tryz.prog.wantsStandIn 9=false by kernel_rfl)⟩)
  (by kernel_rfl)
#print axioms nnfTells_card
end Go.Proofs.YtbpndgllhhajoaaGreatDoor

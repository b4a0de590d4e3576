/- Proved: called with any text and any two lists of bytes, LassoTurns of sortilegelaw14 answers true and leaves them as they were (the tied card; the one listed variable, errors.errorType, is tied to the program). No condition. -/
import Derived.Test.YtbpndgllhhajoaaGreatDoorSg
import Derived.Test.YtbpndgllhhajoaaGreatDoorRows
import Derived.ChangeSame
import Derived.ChangeVars
import Derived.ChangeMaps5
import Derived.JoinedOf
import Derived.RowKit
import Derived.RowKitTokens
import Derived.LaidLaws
import Derived.LaidHandle
import Derived.Stop.Joined
import Derived.SevenTiedAt
import Derived.Test.YtbpndgllhhajoaaGreatDoorMd
import Derived.Test.YtbpndgllhhajoaaGreatDoorLf
import Derived.Test.YtbpndgllhhajoaaGreatDoorLg
import Derived.Test.YtbpndgllhhajoaaGreatDoorCards
import Derived.Test.YtbpndgllhhajoaaGreatDoorTie
set_option linter.unusedVariables false
set_option linter.unusedSimpArgs false
namespace Go.Sd
open Go Go.Proofs Go.RowKit Go.ChangeShapes Go.WideShapes Go.Cm
open Go.Proofs.YtbpndgllhhajoaaGreatDoor (Rows.laid_errors_errorType)
set_option maxRecDepth 100000
theorem own:ownKnob Tryz.prog.godebug=none:=by kernel_rfl
theorem etG:Tryz.prog.globalNamed "errors.errorType" =some 0:=by kernel_rfl
theorem rtT:(Tryz.prog.cutTypes.find? (·.1== "internal/reflectlite.rtype")).map (·.2)=some 156:=by kernel_rfl
theorem oneRow:((List.range 218).filter fun t=>Tryz.prog.rowNamed t [101,114,114,111,114])=[29]:=by kernel_rfl
theorem tsize:Tryz.prog.types.size=218:=by kernel_rfl
theorem handle_of_laid {W:World} (h:laidMetH Tryz.prog [("errors.errorType",Go.Proofs.YtbpndgllhhajoaaGreatDoor.Rows.laid_errors_errorType)] W):GG W:=by
 have h':laidMet Tryz.prog [] W∧handlesMet Tryz.prog [("errors.errorType",Go.Proofs.YtbpndgllhhajoaaGreatDoor.Rows.laid_errors_errorType)] W:=h
 obtain⟨name,u,ty,e1,e2,e3,e4,e5⟩:=h'.2 _ (List.mem_singleton.2 rfl)
 have en:name=[101,114,114,111,114]:=(Option.some.inj e1).symm
 subst en
 obtain rfl:=Option.some.inj (rtT.symm.trans e2)
 have hm:ty∈(List.range 218).filter fun t=>Tryz.prog.rowNamed t [101,114,114,111,114]:=List.mem_filter.2 ⟨List.mem_range.2 (by rw[←tsize];exact e3),e4⟩
 rw[oneRow]at hm
 obtain rfl:=List.mem_singleton.1 hm
 have hh:typeHandle Tryz.prog 29=.pointer (some ⟨2,29,none⟩):=by kernel_rfl
 rw[hh]at e5
 simpa using World.var?_cell etG e5 0
noncomputable def laidWorld (os:Os):World:=
 let w0:=World.holding Tryz.prog os ⟨#[], #[],[]⟩
 {w0 with heap:=w0.heap.modify 0 fun
   |.cells _ t frozen=>.cells #[.iface 156 (.agg #[.pointer (some ⟨2,29,none⟩)])] t frozen
   |o=>o }
theorem laidWorld_met (os:Os) (args:Array Value):laidMetH Tryz.prog [("errors.errorType",Go.Proofs.YtbpndgllhhajoaaGreatDoor.Rows.laid_errors_errorType)] ((laidWorld os).forCall (fun _ _=>0) ⟨#[],args,[]⟩).memory:=
 laidMetH_of_parts (laidMet_nil _ _) (by kernel_rfl)
end Go.Sd
namespace Go.Sd
open Go Go.Cm Go.Sc
theorem u8_of:∀(xs:List D),(∀x∈xs,x.shape=(Sc.int .u8).sh∧Fits (.int .u8) x.cells)→U8D xs
 |[],_=>fun d hd=>by cases hd
 |x::xs,h=>fun d hd=>by
  rcases List.mem_cons.1 hd with rfl|hd
  ·obtain⟨hs,hf⟩:=h _ (.head _)
   obtain⟨n,e,hw⟩:=hf.of_int hs
   refine⟨n,e,?_⟩
   have h1:IntKind.u8.min=0:=by decide
   have h2:IntKind.u8.max=255:=by decide
   simp only[Lit.wf,h1,h2,Bool.and_eq_true,decide_eq_true_eq]at hw
   omega
  ·exact u8_of xs (fun y hy=>h y (.tail _ hy)) d hd
end Go.Sd
namespace Go.Proofs.YtbpndgllhhajoaaGreatDoor
open Go Go.Proofs Go.RowKit Go.ChangeShapes Go.WideShapes Go.Cm Go.Sd Go.ChangeMaps
set_option maxRecDepth 100000
theorem lassoTurns_lifted (os:Os) (started:os.Started) (H:Type) (enc:TypeId×Value→H):
  ReturnsInHanded {} Tryz.checked os 4 .any (fun w args=>(Rows.lassoTurnsSpec.pre enc Tryz.prog Tryz.f4 [] false w args∧laidMetH Tryz.prog [("errors.errorType",Rows.laid_errors_errorType)] w)∧sizedMet enc Tryz.prog Tryz.f4 (OpenSpec.ofChange Rows.lassoTurnsSpec) false w args)
   (Rows.lassoTurnsSpec.post enc Tryz.prog Tryz.f4 false true false false):=by
 refine returnsInHanded_of_change_and (C:=Tryz.checked) (X:=fun w _=>laidMetH Tryz.prog [("errors.errorType",Rows.laid_errors_errorType)] w) (fun _ _ _ hh h=>h.of_heap hh) own started (by kernel_rfl) Tryz.func4
  (ChangeSpec.witness_at (enc:=enc) (C:=Tryz.checked) (os:=os) (X:=fun w _=>laidMetH Tryz.prog [("errors.errorType",Rows.laid_errors_errorType)] w) false (laidWorld os) #[.string ⟨#[]⟩,.slice none 0 0,.slice none 0 0] 8 rfl (by kernel_rfl) (by kernel_rfl) (by kernel_rfl) (by kernel_rfl) (by kernel_rfl) (laidWorld_met os _)) ?_
 intro W base args ds gs before hval0 hW _ hsz hL _
 have hval:∀(j:Nat) t v,Tryz.f4.params[j]? =some t→args[j]? =some v→Value.okWide Tryz.prog W .any base t v:=hval0
 have hW':=hW
 obtain⟨p,q,hA0,hV0,rfl,hfz,hnd⟩:=hW
 have hA:DataW.TrodAll enc Tryz.prog W 0 (fun _=>true) true Tryz.f4.params.toList args.toList ds p:=hA0
 have hV:DataW.TrodVars enc Tryz.prog W (fun _=>true) [] gs q:=hV0
 rw[Tryz.params4]at hA hval
 obtain⟨v0,v1,v2,d0,d1,d2,p0,p1,p2,rfl,rfl,rfl,h0,h1,h2⟩:=trodAll_three hA
 have hval0:=hval 0 9 v0 rfl rfl
 have hval1:=hval 1 50 v1 rfl rfl
 have hval2:=hval 2 50 v2 rfl rfl
 obtain⟨s0,rfl,rfl,rfl,hs0⟩:=open_string Tryz.underlying9 hval0 h0
 have k1:=h1
 obtain⟨y1,hra1,hsh1,hy1⟩:=open_in (τ:=.sl (.int .u8)) (by kernel_rfl) hval1 h1
 obtain⟨xs1,rfl,_,hx1⟩:=hy1.of_sl hsh1
 have hu1:=u8_of xs1 hx1
 have k2:=h2
 obtain⟨y2,hra2,hsh2,hy2⟩:=open_in (τ:=.sl (.int .u8)) (by kernel_rfl) hval2 h2
 obtain⟨xs2,rfl,_,hx2⟩:=hy2.of_sl hsh2
 have hu2:=u8_of xs2 hx2
 have hg:=handle_of_laid hL
 obtain⟨rfl,rfl⟩:gs=[]∧q=[]:=by
  cases gs with
  |nil=>exact⟨rfl,hV⟩
  |cons g r=>exact absurd hV (by intro h;cases h)
 refine(calls_true' Tryz.func4 (by kernel_rfl) (by kernel_rfl) (valid_turns s0 hu1 hu2) (us:=[.string s0,v1,v2]) hg (.cons (x:=.str s0) (by simp[RA]) rfl (.cons hra1 rfl (.cons hra2 rfl .nil)))).mono fun e W'=>?_
 rintro⟨rfl,hb⟩
 refine⟨_,rfl,_,_,_,[],[]++(p1++(p2)),[],hW',?_,?_,?_,hb.frame _,fun h=>by cases h⟩
 ·exact trodAll_mk1 (shut_bool Tryz.underlying4 true)
 ·exact trodAll_mk3 (shut_string Tryz.underlying9 hs0) (shut_arg (by kernel_rfl) (by kernel_rfl) (of_decide_eq_true (by kernel_rfl)) k1 hb) (shut_arg (by kernel_rfl) (by kernel_rfl) (of_decide_eq_true (by kernel_rfl)) k2 hb)
 ·rfl
theorem lassoTurns_holds:Rows.LassoTurnsSaid:=
 OpenClaim.holds_of_wide 4 Tryz.f4 rfl rfl rfl rfl rfl rfl rfl ⟨rfl,rfl,rfl,rfl,rfl⟩ rfl rfl rfl rfl rfl (by kernel_rfl) Tryz.func4 (by kernel_rfl)
  (of_decide_eq_true (by kernel_rfl)) (by unfold Func.isWrapper;rw[if_neg (of_decide_eq_false (by kernel_rfl))];exact⟨rfl,rfl⟩)
  (fun os started H enc _=>lassoTurns_lifted os started H enc)
theorem lassoTurns_card:Rows.LassoTurnsCardSaid:=
 Claim7.holds_tied_plain_at .later [] [.handle] true (true, "b16199796a24610a5929d46b794cca21706d7ff648807601172cb92c266d29e9") true
  lassoTurns_holds (fun _ h=>by cases h) (by kernel_rfl) (fun _ h=>by cases h) lassoTurns_row_tie rfl ⟨rfl,rfl⟩ (by kernel_rfl) rfl
  (fun f fn hf hfn=>by
   obtain rfl:f=4:=Option.some.inj ((show Tryz.prog.funcNamed "sortilege/sortilegelaw14.LassoTurns" =some 4 by kernel_rfl).symm.trans hf) |>.symm
   obtain rfl:fn=Tryz.f4:=(Option.some.inj (Tryz.func4.symm.trans hfn)).symm
   exact⟨by kernel_rfl,fun j t ht=>by
    rw[Tryz.params4]at ht
    have h3:t=9∨t=50:=by
     rcases j with _|_|_|j
     ·exact .inl (by simpa using ht.symm)
     ·exact .inr (by simpa using ht.symm)
     ·exact .inr (by simpa using ht.symm)
     ·simp at ht
    rcases h3 with rfl|rfl
    ·exact(show Tryz.prog.wantsStandIn 9=false by kernel_rfl)
    ·exact(show Tryz.prog.wantsStandIn 50=false by kernel_rfl)⟩)
  (by kernel_rfl)
#print axioms lassoTurns_card
end Go.Proofs.YtbpndgllhhajoaaGreatDoor

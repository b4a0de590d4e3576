/- Lasso: Truths, Holds: contracts. -/
import Derived.Test.YtbpndgllhhajoaaGreatDoorLc
import Derived.Test.YtbpndgllhhajoaaGreatDoorPd
set_option linter.unusedVariables false
set_option linter.unusedSimpArgs false
namespace Go.Sc
open Go Go.Cm
noncomputable def truthsT (P:Program) (f:Fm) (ns st lp:List D):Option (Int ⊕ List Bool):=
 match checkS P ns st lp with
 |none=>none
 |some false=>some (.inl 1)
 |some true=>
  if sizeF f>4096 then some (.inl 1)
  else if lformF f=true then truthF ns (st++lp) st.length f else some (.inl 1)
end Go.Sc
namespace Go.Sd
open Go Go.Cm Go.Proofs Go.Sc
noncomputable def cTruthsT {β:Type} (args:List TV) (k:List TV→List TV→Option β):Option β:=
 match args with
 |[.d true 5 x,.d true 0 (.sl 0 ns),.d true 3 (.ag [.sl 0 st,.sl 0 lp])]=>match ofD x with
  |some f=>chkK (bd none f∧ns.length≤big∧st.length+lp.length≤big) (ansL k (truthsT Tryz.prog f ns st lp))
  |none=>none
 |_=>none
noncomputable def WT:Env:=((((Env.none.add 38 io0 cCheck).add 43 io0 (cSize none)).add 44 io0 (cLF none)).add 45 io0 cConcat).add 46 io0 (cTruths none)
noncomputable def cHoldsT {β:Type} (args:List TV) (k:List TV→List TV→Option β):Option β:=
 match args with
 |[.d true 5 x,.d true 0 (.sl 0 ns),.d true 3 (.ag [.sl 0 st,.sl 0 lp])]=>match ofD x with
  |some f=>chkK (bd none f∧ns.length≤big∧st.length+lp.length≤big) (match truthsT Tryz.prog f ns st lp with
   |some (.inl e)=>k [.d false 0 (.bool false),.d false 0 (.ifc 84 (.int .i64 e))] []
   |some (.inr (b::_))=>k [.d false 0 (.bool b),.d false 0 .nili] []
   |_=>none)
  |none=>none
 |_=>none
noncomputable def WU:Env:=WT.add 13 io0 cTruthsT
noncomputable def WV:Env:=WU.add 18 io0 cHoldsT
end Go.Sd
namespace Go.Sd
open Go Go.Cm Go.Proofs Go.Sc
set_option maxRecDepth 100000
namespace V13
noncomputable def X:Fx:=⟨Tryz.prog,WT,192,3⟩
theorem start {β:Type} (op:ByteArray) (nm:ByteArray) (ks:List D) (p:Int) (ns:List D) (st:List D) (lp:List D) (k:List TV→List TV→Option β):evalF Tryz.prog WT Tryz.f13 [.d true 5 (D.ag [D.str op,D.str nm,D.sl 5 ks,D.int .i64 p]),.d true 0 (D.sl 0 ns),.d true 3 (D.ag [D.sl 0 st,D.sl 0 lp])] k=if ns.length≤34359738368∧st.length+lp.length≤34359738368 then match checkS Tryz.prog ns st lp with
   |some true=>match ofD (D.ag [D.str op,D.str nm,D.sl 5 ks,D.int .i64 p])with
    |some f3=>if bd none f3 then if decide (sizeF f3>4096)=true then k [.own false 0 [],.d false 0 (D.ifc 84 (D.int .i64 1))] []else match ofD (D.ag [D.str op,D.str nm,D.sl 5 ks,D.int .i64 p])with
     |some f6=>if bd none f6 then if(!lformF f6)=true then k [.own false 0 [],.d false 0 (D.ifc 84 (D.int .i64 1))] []else if st.length+lp.length≤34359738368 then match ofD (D.ag [D.str op,D.str nm,D.sl 5 ks,D.int .i64 p])with
      |some f11=>if bd none f11∧List.length (st++lp)≤34359738368∧ns.length≤34359738368 then match truthF ns (st++lp) (st.length:Int) f11 with
       |some (Sum.inl e12)=>k [.own false 0 [],.d false 0 (D.ifc 84 (D.int .i64 e12))] []
       |some (Sum.inr bs13)=>k [.own false 0 (bD bs13),.d false 0 D.nili] []
       |none=>none else none
      |none=>none else none else none
     |none=>none else none
    |none=>none
   |some false=>k [.own false 0 [],.d false 0 (D.ifc 84 (D.int .i64 1))] []
   |none=>none else none:=by kernel_rfl
end V13
namespace V18
noncomputable def X:Fx:=⟨Tryz.prog,WU,192,3⟩
theorem start {β:Type} (op:ByteArray) (nm:ByteArray) (ks:List D) (p:Int) (ns:List D) (st:List D) (lp:List D) (k:List TV→List TV→Option β):evalF Tryz.prog WU Tryz.f18 [.d true 5 (D.ag [D.str op,D.str nm,D.sl 5 ks,D.int .i64 p]),.d true 0 (D.sl 0 ns),.d true 3 (D.ag [D.sl 0 st,D.sl 0 lp])] k=match ofD (D.ag [D.str op,D.str nm,D.sl 5 ks,D.int .i64 p])with
   |some f2=>if bd none f2∧ns.length≤34359738368∧st.length+lp.length≤34359738368 then match truthsT Tryz.prog f2 ns st lp with
    |some (Sum.inl e3)=>k [.d false 0 (D.bool false),.d false 0 (D.ifc 84 (D.int .i64 e3))] []
    |some (Sum.inr bs7)=>if(0:Int)≤0∧(0:Int)<(↑(List.length (bD bs7)):Int)then match(bD bs7)[0]? with
     |some x11=>match x11 with
      |D.bool b12=>k [.d false 0 (D.bool b12),.d false 0 D.nili] []
      |x=>none
     |none=>none else none
    |none=>none else none
   |none=>none:=by kernel_rfl
end V18
end Go.Sd
set_option maxRecDepth 100000
namespace Go.Sd
open Go Go.Cm Go.Proofs Go.Sc
theorem envwt:EnvOk glS Tryz.prog WT:=
 ((((EnvOk.none.add fun β args k r hr=>envw11 β 38 args k r hr).add fun β args k r hr=>envr1 β 43 args k r hr).add vcForm).add fun β args k r hr=>envw2 β 45 args k r hr).add fun β args k r hr=>envw9 β 46 args k r hr
theorem envwu:EnvOk glS Tryz.prog WU:=envwt.fn mixed Tryz.func13 (by kernel_rfl) fun β args k r hr=>by
 have hbig:big=34359738368:=rfl
 unfold cTruthsT at hr
 split at hr
 ·rename_i x ns st lp
  split at hr
  ·rename_i f hf
   obtain⟨⟨h0,h1,h2⟩,hr⟩:=chkK_ok hr
   rw[hbig]at h1 h2
   obtain⟨res,outs,h3,h4⟩:=ansL_out hr
   refine⟨res,outs,h3,fun q=>?_⟩
   rw[←h4 q,d_ofD _ _ hf]
   have hl:(st++lp).length≤34359738368:=by rw[List.length_append];exact h2
   cases f with
   |mk op nm ks p=>
    have hof:=ofD_d (.mk op nm ks p)
    simp only[Fm.d]at hof ⊢
    have ha:bd none (.mk op nm ks p)∧(st++lp).length≤34359738368∧ns.length≤34359738368:=⟨h0,hl,h1⟩
    rw[V13.start,if_pos ⟨h1,h2⟩]
    simp only[hof,if_pos h0,if_pos h2,if_pos ha]
    unfold truthsT
    cases checkS Tryz.prog ns st lp with
    |none=>rfl
    |some b=>
     cases b with
     |false=>rfl
     |true=>
      simp only
      by_cases hs:sizeF (.mk op nm ks p)>4096
      ·rw[if_pos (by simpa using hs),if_pos hs];rfl
      ·rw[if_neg (by simpa using hs),if_neg hs]
       by_cases hfm:lformF (.mk op nm ks p)=true
       ·rw[if_neg (by simp[hfm]),if_pos hfm]
        generalize truthF ns (st++lp) (st.length:Int) (.mk op nm ks p)=z
        rcases z with _|_|_<;>rfl
       ·rw[if_pos (by simpa using hfm),if_neg hfm];rfl
  ·cases hr
 ·cases hr
theorem envwv:EnvOk glS Tryz.prog WV:=envwu.fn mixed Tryz.func18 (by kernel_rfl) fun β args k r hr=>by
 have hbig:big=34359738368:=rfl
 unfold cHoldsT at hr
 split at hr
 ·rename_i x ns st lp
  split at hr
  ·rename_i f hf
   obtain⟨⟨h0,h1,h2⟩,hr⟩:=chkK_ok hr
   rw[hbig]at h1 h2
   rw[d_ofD _ _ hf]
   cases f with
   |mk op nm ks p=>
    have hof:=ofD_d (.mk op nm ks p)
    simp only[Fm.d]at hof ⊢
    have ha:bd none (.mk op nm ks p)∧ns.length≤34359738368∧st.length+lp.length≤34359738368:=⟨h0,h1,h2⟩
    have st0:∀{γ:Type} (q:List TV→List TV→Option γ),_=_:=fun q=>V18.start op nm (Fm.dL ks) p ns st lp q
    simp only[hof,if_pos ha]at st0
    split at hr
    ·rename_i e he
     simp only[he]at st0
     exact⟨_,_,hr,fun q=>st0 q⟩
    ·rename_i b bs he
     simp only[he]at st0
     refine⟨_,_,hr,fun q=>?_⟩
     rw[st0,if_pos (by simp[bD])]
     rfl
    ·cases hr
  ·cases hr
 ·cases hr
end Go.Sd
namespace Go.Sd
open Go Go.Cm Go.Proofs Go.Sc
def cNames {β:Type} (args:List TV) (k:List TV→List TV→Option β):Option β:=
 match args with
 |[]=>k [.own false 0 [.str ⟨#[97]⟩,.str ⟨#[98]⟩,.str ⟨#[103,111,97,108]⟩]] []
 |_=>none
noncomputable def WX:Env:=WV.add 21 io0 cNames
end Go.Sd
namespace Go.Sd
open Go Go.Cm Go.Proofs Go.Sc
set_option maxRecDepth 100000
namespace V21
theorem start {β:Type} (k:List TV→List TV→Option β):evalF Tryz.prog WV Tryz.f21 [] k=k [.own false 0 [D.str (ByteArray.mk #[97]),D.str (ByteArray.mk #[98]),D.str (ByteArray.mk #[103,111,97,108])]] []:=by kernel_rfl
end V21
namespace V22
theorem start {β:Type} (o:ByteArray) (op:ByteArray) (nm:ByteArray) (ks:List D) (p:Int) (k:List TV→List TV→Option β):evalF Tryz.prog WV Tryz.f22 [.d true 0 (D.str o),.d true 5 (D.ag [D.str op,D.str nm,D.sl 5 ks,D.int .i64 p])] k=k [.d true 5 (D.ag [D.str o,D.str (ByteArray.mk #[]),D.sl 5 [D.ag [D.str op,D.str nm,D.sl 5 ks,D.int .i64 p]],D.int .i64 0])] []:=by kernel_rfl
end V22
namespace V24
theorem start {β:Type} (o:ByteArray) (op:ByteArray) (nm:ByteArray) (ks:List D) (p:Int) (op2:ByteArray) (nm2:ByteArray) (ks2:List D) (p2:Int) (k:List TV→List TV→Option β):evalF Tryz.prog WV Tryz.f24 [.d true 0 (D.str o),.d true 5 (D.ag [D.str op,D.str nm,D.sl 5 ks,D.int .i64 p]),.d true 5 (D.ag [D.str op2,D.str nm2,D.sl 5 ks2,D.int .i64 p2])] k=k [.d true 5 (D.ag [D.str o,D.str (ByteArray.mk #[]),D.sl 5 [D.ag [D.str op,D.str nm,D.sl 5 ks,D.int .i64 p],D.ag [D.str op2,D.str nm2,D.sl 5 ks2,D.int .i64 p2]],D.int .i64 0])] []:=by kernel_rfl
end V24
namespace V20
noncomputable def X:Fx:=⟨Tryz.prog,WV,64,3⟩
def s0 (a:List D) (b:List D) (x16:Int) (x17:List D):S:=⟨Tm.mk 66 [(0,.d true 0 (D.sl 0 a)),(1,.d true 0 (D.sl 0 b)),(2,.d true 0 (D.int .i64 3)),(6,.rp 7 0),(7,.rp 8 0),(8,.d false 0 (D.int .i64 x16))],[(7,true,[.own false 0 [],.own false 0 []]),(8,true,[.own false 0 x17,.own false 0 []])]⟩
def s1 (b:List D) (x49:Int) (x50:List D) (x52:List D):S:=⟨Tm.mk 66 [(1,.d true 0 (D.sl 0 b)),(2,.d true 0 (D.int .i64 3)),(6,.rp 7 0),(7,.rp 8 0),(9,.d false 0 (D.int .i64 x49))],[(7,true,[.own false 0 [],.own false 0 []]),(8,true,[.own false 0 x52,.own false 0 x50])]⟩
def e0x0 (b:List D) (x35:List D):S:=⟨Tm.mk 66 [(1,.d true 0 (D.sl 0 b)),(2,.d true 0 (D.int .i64 3)),(6,.rp 7 0),(7,.rp 8 0)],[(7,true,[.own false 0 [],.own false 0 []]),(8,true,[.own false 0 x35,.own false 0 []])]⟩
def e1x2 (x86:List D) (x87:List D):S:=⟨Tm.mk 66 [(6,.rp 7 0),(7,.rp 8 0)],[(7,true,[.own false 0 [],.own false 0 []]),(8,true,[.own false 0 x86,.own false 0 x87])]⟩
noncomputable abbrev L0:S→Option (S ⊕ (Ex×S)):=roundK X [(0,198)] (sub [1,1,0,1,0,0] (body Tryz.f20))
noncomputable abbrev L1:S→Option (S ⊕ (Ex×S)):=roundK X [(2,192)] (sub [1,1,1,0,1,0,0] (body Tryz.f20))
theorem start {β:Type} (a:List D) (b:List D) (k:List TV→List TV→Option β):evalF Tryz.prog WV Tryz.f20 [.d true 0 (D.sl 0 a),.d true 0 (D.sl 0 b),.d true 0 (D.int .i64 3)] k=goLp X [(0,198)] (sub [1,1,0,1,0,0] (body Tryz.f20)) [Kf.block 0 198,Kf.seq [] (sub [1,1,1] (body Tryz.f20)) 64] (finK Tryz.prog Tryz.f20 [.d true 0 (D.sl 0 a),.d true 0 (D.sl 0 b),.d true 0 (D.int .i64 3)] k) (s0 a b (0:Int) []):=by kernel_rfl
theorem round0 (a:List D) (b:List D) (x16:Int) (x17:List D):roundK X [(0,198)] (sub [1,1,0,1,0,0] (body Tryz.f20)) (s0 a b x16 x17)=if decide (x16<(a.length:Int))=true then if decide (x16<8)=true then if 0≤x16 then match a[x16.toNat]? with
   |some x100=>match x100 with
    |D.int j101 m102=>if j101=IntKind.u8 then if x17.length+1≤34359738368 then some (Sum.inl (s0 a b (IntKind.wrap .i64 (x16+1)) (x17++[D.int .i64 (Int.tmod (IntKind.wrap .i64 m102) (8:Int))])))else none else none
    |x=>none
   |none=>none else none else some (Sum.inr (Ex.exit 0,e0x0 b x17))else some (Sum.inr (Ex.exit 0,e0x0 b x17)):=by kernel_rfl
theorem round1 (b:List D) (x49:Int) (x50:List D) (x52:List D):roundK X [(2,192)] (sub [1,1,1,0,1,0,0] (body Tryz.f20)) (s1 b x49 x50 x52)=if decide (x49<(b.length:Int))=true then if decide (x49<8)=true then if 0≤x49 then match b[x49.toNat]? with
   |some x113=>match x113 with
    |D.int j114 m115=>if j114=IntKind.u8 then if x50.length+1≤34359738368 then some (Sum.inl (s1 b (IntKind.wrap .i64 (x49+1)) (x50++[D.int .i64 (Int.tmod (IntKind.wrap .i64 m115) (8:Int))]) x52))else none else none
    |x=>none
   |none=>none else none else some (Sum.inr (Ex.exit 2,e1x2 x52 x50))else some (Sum.inr (Ex.exit 2,e1x2 x52 x50)):=by kernel_rfl
theorem behind0x0 {β:Type} (a:List D) (b:List D) (x35:List D) (k:List TV→List TV→Option β):applyK X (finK Tryz.prog Tryz.f20 [.d true 0 (D.sl 0 a),.d true 0 (D.sl 0 b),.d true 0 (D.int .i64 3)] k) [Kf.block 0 198,Kf.seq [] (sub [1,1,1] (body Tryz.f20)) 64] (Ex.exit 0) (e0x0 b x35)=goLp X [(2,192)] (sub [1,1,1,0,1,0,0] (body Tryz.f20)) [Kf.block 2 192,Kf.seq [] (sub [1,1,1,1] (body Tryz.f20)) 64] (finK Tryz.prog Tryz.f20 [.d true 0 (D.sl 0 a),.d true 0 (D.sl 0 b),.d true 0 (D.int .i64 3)] k) (s1 b (0:Int) [] x35):=by kernel_rfl
theorem behind1x2 {β:Type} (a:List D) (b:List D) (x86:List D) (x87:List D) (k:List TV→List TV→Option β):applyK X (finK Tryz.prog Tryz.f20 [.d true 0 (D.sl 0 a),.d true 0 (D.sl 0 b),.d true 0 (D.int .i64 3)] k) [Kf.block 2 192,Kf.seq [] (sub [1,1,1,1] (body Tryz.f20)) 64] (Ex.exit 2) (e1x2 x86 x87)=if((x87.length:Int)==0)=true then k [.d false 3 (D.ag [D.sl 0 x86,D.sl 0 [D.int .i64 0]])] []else k [.d false 3 (D.ag [D.sl 0 x86,D.sl 0 x87])] []:=by kernel_rfl
end V20
namespace V19
noncomputable def X:Fx:=⟨Tryz.prog,WX,4,1⟩
def j0 (op:ByteArray) (nm:ByteArray) (ks:List D) (p:Int) (e2238:Int):S:=⟨Tm.mk 15 [(0,.d true 5 (D.ag [D.str op,D.str nm,D.sl 5 ks,D.int .i64 p])),(1,.rp 2 0),(2,.d false 0 (D.bool false)),(3,.d false 0 (D.bool false)),(4,.d false 0 (D.ifc 84 (D.int .i64 e2238))),(5,.tup [.d false 0 (D.bool false),.d false 0 (D.ifc 84 (D.int .i64 e2238))]),(6,.ag [.d true 0 (D.str op),.d true 0 (D.str nm),.d true 0 (D.sl 5 ks),.d true 0 (D.int .i64 p)]),(7,.bf 1152921504606846983 0),(8,.own false 0 [D.int .i64 0]),(9,.ag [.nils 0,.bf 0 8]),(10,.tup [.d false 0 (D.bool false),.d false 0 (D.ifc 84 (D.int .i64 e2238))]),(11,.d false 0 (D.bool false)),(12,.d false 0 (D.ifc 84 (D.int .i64 e2238)))],[(2,true,[.d true 0 (D.str op),.d true 0 (D.str nm),.d true 0 (D.sl 5 ks),.d true 0 (D.int .i64 p)]),(1152921504606846983,true,[.own false 0 [D.str (ByteArray.mk #[97]),D.str (ByteArray.mk #[98]),D.str (ByteArray.mk #[103,111,97,108])]]),(1152921504606846986,true,[.d false 0 (D.bool false),.d false 0 (D.ifc 84 (D.int .i64 e2238))])]⟩
def j1 (op:ByteArray) (nm:ByteArray) (ks:List D) (p:Int) (b2339:Bool):S:=⟨Tm.mk 15 [(0,.d true 5 (D.ag [D.str op,D.str nm,D.sl 5 ks,D.int .i64 p])),(1,.rp 2 0),(2,.d false 0 (D.bool false)),(3,.d false 0 (D.bool b2339)),(4,.d false 0 D.nili),(5,.tup [.d false 0 (D.bool b2339),.d false 0 D.nili]),(6,.ag [.d true 0 (D.str op),.d true 0 (D.str nm),.d true 0 (D.sl 5 ks),.d true 0 (D.int .i64 p)]),(7,.bf 1152921504606846983 0),(8,.own false 0 [D.int .i64 0]),(9,.ag [.nils 0,.bf 0 8]),(10,.tup [.d false 0 (D.bool b2339),.d false 0 D.nili]),(11,.d false 0 (D.bool b2339)),(12,.d false 0 D.nili)],[(2,true,[.d true 0 (D.str op),.d true 0 (D.str nm),.d true 0 (D.sl 5 ks),.d true 0 (D.int .i64 p)]),(1152921504606846983,true,[.own false 0 [D.str (ByteArray.mk #[97]),D.str (ByteArray.mk #[98]),D.str (ByteArray.mk #[103,111,97,108])]]),(1152921504606846986,true,[.d false 0 (D.bool b2339),.d false 0 D.nili])]⟩
noncomputable abbrev J0 {β:Type} (op:ByteArray) (nm:ByteArray) (ks:List D) (p:Int) (k:List TV→List TV→Option β):S→Option β:=applyK X (finK Tryz.prog Tryz.f19 [.d true 5 (D.ag [D.str op,D.str nm,D.sl 5 ks,D.int .i64 p])] k) [Kf.seq [] (sub [1,1] (body Tryz.f19)) 4] Ex.norm
noncomputable abbrev J1 {β:Type} (op:ByteArray) (nm:ByteArray) (ks:List D) (p:Int) (k:List TV→List TV→Option β):S→Option β:=applyK X (finK Tryz.prog Tryz.f19 [.d true 5 (D.ag [D.str op,D.str nm,D.sl 5 ks,D.int .i64 p])] k) [Kf.seq [] (sub [1,1] (body Tryz.f19)) 4] Ex.norm
noncomputable def R0:Array Oper:=regOps (sub [1,0] (body Tryz.f19))
def B0:List Nat:=[0,0,0,4,15,31,63,63,127,511]
noncomputable def z0_0 (op:ByteArray) (nm:ByteArray) (ks:List D) (p:Int) (e8:Int):S:=⟨Tm.mk 15 [(0,.d true 5 (D.ag [D.str op,D.str nm,D.sl 5 ks,D.int .i64 p])),(1,.rp 2 0),(2,.d false 0 (D.bool false)),(6,.ag [.d true 0 (D.str op),.d true 0 (D.str nm),.d true 0 (D.sl 5 ks),.d true 0 (D.int .i64 p)]),(7,.bf 1152921504606846983 0),(8,.own false 0 [D.int .i64 0]),(9,.ag [.nils 0,.bf 0 8]),(10,.tup [.d false 0 (D.bool false),.d false 0 (D.ifc 84 (D.int .i64 e8))])],[(2,true,[.d true 0 (D.str op),.d true 0 (D.str nm),.d true 0 (D.sl 5 ks),.d true 0 (D.int .i64 p)]),(1152921504606846983,true,[.own false 0 [D.str (ByteArray.mk #[97]),D.str (ByteArray.mk #[98]),D.str (ByteArray.mk #[103,111,97,108])]]),(1152921504606846986,true,[.d false 0 (D.bool false),.d false 0 (D.ifc 84 (D.int .i64 e8))])]⟩
noncomputable def z0_1 (op:ByteArray) (nm:ByteArray) (ks:List D) (p:Int) (b14:Bool):S:=⟨Tm.mk 15 [(0,.d true 5 (D.ag [D.str op,D.str nm,D.sl 5 ks,D.int .i64 p])),(1,.rp 2 0),(2,.d false 0 (D.bool false)),(6,.ag [.d true 0 (D.str op),.d true 0 (D.str nm),.d true 0 (D.sl 5 ks),.d true 0 (D.int .i64 p)]),(7,.bf 1152921504606846983 0),(8,.own false 0 [D.int .i64 0]),(9,.ag [.nils 0,.bf 0 8]),(10,.tup [.d false 0 (D.bool b14),.d false 0 D.nili])],[(2,true,[.d true 0 (D.str op),.d true 0 (D.str nm),.d true 0 (D.sl 5 ks),.d true 0 (D.int .i64 p)]),(1152921504606846983,true,[.own false 0 [D.str (ByteArray.mk #[97]),D.str (ByteArray.mk #[98]),D.str (ByteArray.mk #[103,111,97,108])]]),(1152921504606846986,true,[.d false 0 (D.bool b14),.d false 0 D.nili])]⟩
noncomputable def z0_6 (op:ByteArray) (nm:ByteArray) (ks:List D) (p:Int):S:=⟨Tm.mk 15 [(0,.d true 5 (D.ag [D.str op,D.str nm,D.sl 5 ks,D.int .i64 p])),(1,.rp 2 0),(2,.d false 0 (D.bool false))],[(2,true,[.d true 0 (D.str op),.d true 0 (D.str nm),.d true 0 (D.sl 5 ks),.d true 0 (D.int .i64 p)])]⟩
noncomputable def y0_0 (op:ByteArray) (nm:ByteArray) (ks:List D) (p:Int) (e2254:Int):S:=⟨Tm.mk 15 [(0,.d true 5 (D.ag [D.str op,D.str nm,D.sl 5 ks,D.int .i64 p])),(1,.rp 2 0),(2,.d false 0 (D.bool false)),(3,.d false 0 (D.bool false)),(4,.d false 0 (D.ifc 84 (D.int .i64 e2254))),(5,.tup [.d false 0 (D.bool false),.d false 0 (D.ifc 84 (D.int .i64 e2254))]),(6,.ag [.d true 0 (D.str op),.d true 0 (D.str nm),.d true 0 (D.sl 5 ks),.d true 0 (D.int .i64 p)]),(7,.bf 1152921504606846983 0),(8,.own false 0 [D.int .i64 0]),(9,.ag [.nils 0,.bf 0 8]),(10,.tup [.d false 0 (D.bool false),.d false 0 (D.ifc 84 (D.int .i64 e2254))]),(11,.d false 0 (D.bool false)),(12,.d false 0 (D.ifc 84 (D.int .i64 e2254)))],[(2,true,[.d true 0 (D.str op),.d true 0 (D.str nm),.d true 0 (D.sl 5 ks),.d true 0 (D.int .i64 p)]),(1152921504606846983,true,[.own false 0 [D.str (ByteArray.mk #[97]),D.str (ByteArray.mk #[98]),D.str (ByteArray.mk #[103,111,97,108])]]),(1152921504606846986,true,[.d false 0 (D.bool false),.d false 0 (D.ifc 84 (D.int .i64 e2254))])]⟩
noncomputable def y0_1 (op:ByteArray) (nm:ByteArray) (ks:List D) (p:Int) (b2355:Bool):S:=⟨Tm.mk 15 [(0,.d true 5 (D.ag [D.str op,D.str nm,D.sl 5 ks,D.int .i64 p])),(1,.rp 2 0),(2,.d false 0 (D.bool false)),(3,.d false 0 (D.bool b2355)),(4,.d false 0 D.nili),(5,.tup [.d false 0 (D.bool b2355),.d false 0 D.nili]),(6,.ag [.d true 0 (D.str op),.d true 0 (D.str nm),.d true 0 (D.sl 5 ks),.d true 0 (D.int .i64 p)]),(7,.bf 1152921504606846983 0),(8,.own false 0 [D.int .i64 0]),(9,.ag [.nils 0,.bf 0 8]),(10,.tup [.d false 0 (D.bool b2355),.d false 0 D.nili]),(11,.d false 0 (D.bool b2355)),(12,.d false 0 D.nili)],[(2,true,[.d true 0 (D.str op),.d true 0 (D.str nm),.d true 0 (D.sl 5 ks),.d true 0 (D.int .i64 p)]),(1152921504606846983,true,[.own false 0 [D.str (ByteArray.mk #[97]),D.str (ByteArray.mk #[98]),D.str (ByteArray.mk #[103,111,97,108])]]),(1152921504606846986,true,[.d false 0 (D.bool b2355),.d false 0 D.nili])]⟩
noncomputable def u0_0 (op:ByteArray) (nm:ByteArray) (ks:List D) (p:Int):List (Nat×V):=[(0,.d true 5 (D.ag [D.str op,D.str nm,D.sl 5 ks,D.int .i64 p])),(1,.rp 2 0),(2,.d false 0 (D.bool false)),(6,.ag [.d true 0 (D.str op),.d true 0 (D.str nm),.d true 0 (D.sl 5 ks),.d true 0 (D.int .i64 p)]),(7,.bf 1152921504606846983 0),(8,.own false 0 [D.int .i64 0]),(9,.ag [.nils 0,.bf 0 8])]
noncomputable def v0_0 (op:ByteArray) (nm:ByteArray) (ks:List D) (p:Int):List (Nat×Bool×List V):=[(2,true,[.d true 0 (D.str op),.d true 0 (D.str nm),.d true 0 (D.sl 5 ks),.d true 0 (D.int .i64 p)]),(1152921504606846983,true,[.own false 0 [D.str (ByteArray.mk #[97]),D.str (ByteArray.mk #[98]),D.str (ByteArray.mk #[103,111,97,108])]])]
noncomputable def z0_2 (op:ByteArray) (nm:ByteArray) (ks:List D) (p:Int):S:=⟨Tm.mk 15 (selT (u0_0 op nm ks p) 1365 []),selR (v0_0 op nm ks p) 5 []⟩
noncomputable def z0_3 (op:ByteArray) (nm:ByteArray) (ks:List D) (p:Int):S:=⟨Tm.mk 15 (selT (u0_0 op nm ks p) 341 []),selR (v0_0 op nm ks p) 5 []⟩
noncomputable def z0_4 (op:ByteArray) (nm:ByteArray) (ks:List D) (p:Int):S:=⟨Tm.mk 15 (selT (u0_0 op nm ks p) 5461 []),selR (v0_0 op nm ks p) 5 []⟩
noncomputable def z0_5 (op:ByteArray) (nm:ByteArray) (ks:List D) (p:Int):S:=⟨Tm.mk 15 (selT (u0_0 op nm ks p) 1109 []),selR (v0_0 op nm ks p) 1 []⟩
def a0_0:List Nat:=[0,1,2,3,4]
def a0_4:List Nat:=[0,1,2,3]
  section
  variable {β:Type} (op:ByteArray) (nm:ByteArray) (ks:List D) (p:Int) (e8:Int) (b14:Bool) (kont1:S→Option β)
theorem n0_0:regA Tryz.prog WX R0 B0 6 a0_0 (z0_0 op nm ks p e8) kont1=kont1 (y0_0 op nm ks p e8):=by
   kernel_rfl
theorem n0_1:regA Tryz.prog WX R0 B0 6 a0_0 (z0_1 op nm ks p b14) kont1=kont1 (y0_1 op nm ks p b14):=by
   kernel_rfl
noncomputable def t0_0:Option β:=match ofD (D.ag [D.str op,D.str nm,D.sl 5 ks,D.int .i64 p])with
   |some f21=>if bd none f21∧3≤34359738368∧1≤34359738368 then match truthsT Tryz.prog f21 [D.str (ByteArray.mk #[97]),D.str (ByteArray.mk #[98]),D.str (ByteArray.mk #[103,111,97,108])] [] [D.int .i64 0]with
    |some (Sum.inl e22)=>kont1 (y0_0 op nm ks p e22)
    |some (Sum.inr (b23::tail24))=>kont1 (y0_1 op nm ks p b23)
    |x=>none else none
   |none=>none
theorem n0_2:regA Tryz.prog WX R0 B0 8 [0,1,2] (z0_2 op nm ks p) kont1=t0_0 op nm ks p kont1:=by
   refine(show _=match ofD (D.ag [D.str op,D.str nm,D.sl 5 ks,D.int .i64 p])with
  |some f7=>
   if bd none f7∧3≤34359738368∧1≤34359738368 then
    match
     truthsT Tryz.prog f7 [D.str (ByteArray.mk #[97]),D.str (ByteArray.mk #[98]),D.str (ByteArray.mk #[103,111,97,108])] []
      [D.int .i64 0]with
    |some (Sum.inl e8)=>regA Tryz.prog WX R0 B0 6 a0_0 (z0_0 op nm ks p e8) kont1
    |some (Sum.inr (b14::tail15))=>regA Tryz.prog WX R0 B0 6 a0_0 (z0_1 op nm ks p b14) kont1
    |x=>none
   else none
  |none=>none from by kernel_rfl).trans ?_
   first|(simp only[n0_0,n0_1];done)|(simp only[n0_0,n0_1];rfl)|simp only[n0_0,n0_1,t0_0]
theorem n0_3:regA Tryz.prog WX R0 B0 9 [0,1] (z0_3 op nm ks p) kont1=t0_0 op nm ks p kont1:=by
   refine(show _=regA Tryz.prog WX R0 B0 8 [0,1,2] (z0_2 op nm ks p) kont1 from by kernel_rfl).trans ?_
   first|(simp only[n0_2];done)|(simp only[n0_2];rfl)|simp only[n0_2,t0_0]
theorem n0_4:regA Tryz.prog WX R0 B0 7 a0_4 (z0_4 op nm ks p) kont1=t0_0 op nm ks p kont1:=by
   refine(show _=match ofD (D.ag [D.str op,D.str nm,D.sl 5 ks,D.int .i64 p])with
  |some f29=>
   if bd none f29∧3≤34359738368∧1≤34359738368 then
    match
     truthsT Tryz.prog f29 [D.str (ByteArray.mk #[97]),D.str (ByteArray.mk #[98]),D.str (ByteArray.mk #[103,111,97,108])] []
      [D.int .i64 0]with
    |some (Sum.inl e30)=>regA Tryz.prog WX R0 B0 6 a0_0 (z0_0 op nm ks p e30) kont1
    |some (Sum.inr (b31::tail32))=>regA Tryz.prog WX R0 B0 6 a0_0 (z0_1 op nm ks p b31) kont1
    |x=>none
   else none
  |none=>none from by kernel_rfl).trans ?_
   first|(simp only[n0_0,n0_1];done)|(simp only[n0_0,n0_1];rfl)|simp only[n0_0,n0_1,t0_0]
theorem n0_5:regA Tryz.prog WX R0 B0 9 [0,2] (z0_5 op nm ks p) kont1=t0_0 op nm ks p kont1:=by
   refine(show _=regA Tryz.prog WX R0 B0 7 a0_4 (z0_4 op nm ks p) kont1 from by kernel_rfl).trans ?_
   first|(simp only[n0_4];done)|(simp only[n0_4];rfl)|simp only[n0_4,t0_0]
theorem n0_6:regA Tryz.prog WX R0 B0 11 [] (z0_6 op nm ks p) kont1=t0_0 op nm ks p kont1:=by
   refine(show _=meet (regA Tryz.prog WX R0 B0 9 [0,1] (z0_3 op nm ks p) kont1) (regA Tryz.prog WX R0 B0 9 [0,2] (z0_5 op nm ks p) kont1)from by kernel_rfl).trans ?_
   first|(simp only[n0_3,n0_5,Go.Sc.meet_self];done)|(simp only[n0_3,n0_5,Go.Sc.meet_self];rfl)|simp only[n0_3,n0_5,Go.Sc.meet_self,t0_0]
end
theorem reg0 {β:Type} (op:ByteArray) (nm:ByteArray) (ks:List D) (p:Int) (kont1:S→Option β):regH Tryz.prog WX R0 (z0_6 op nm ks p) kont1=match ofD (D.ag [D.str op,D.str nm,D.sl 5 ks,D.int .i64 p])with
   |some f21=>if bd none f21∧3≤34359738368∧1≤34359738368 then match truthsT Tryz.prog f21 [D.str (ByteArray.mk #[97]),D.str (ByteArray.mk #[98]),D.str (ByteArray.mk #[103,111,97,108])] [] [D.int .i64 0]with
    |some (Sum.inl e22)=>kont1 (y0_0 op nm ks p e22)
    |some (Sum.inr (b23::tail24))=>kont1 (y0_1 op nm ks p b23)
    |x=>none else none
   |none=>none:=(show _=regA Tryz.prog WX R0 B0 11 [] (z0_6 op nm ks p) kont1 from by kernel_rfl).trans (n0_6 ..)
theorem start {β:Type} (op:ByteArray) (nm:ByteArray) (ks:List D) (p:Int) (k:List TV→List TV→Option β):evalF Tryz.prog WX Tryz.f19 [.d true 5 (D.ag [D.str op,D.str nm,D.sl 5 ks,D.int .i64 p])] k=regH Tryz.prog WX R0 (z0_6 op nm ks p) fun s50 ↦ J0 op nm ks p k s50:=by kernel_rfl
theorem j0_eq {β:Type} (op:ByteArray) (nm:ByteArray) (ks:List D) (p:Int) (e2238:Int) (k:List TV→List TV→Option β):J0 op nm ks p k (j0 op nm ks p e2238)=k [.d false 0 (D.bool true)] []:=by kernel_rfl
theorem j1_eq {β:Type} (op:ByteArray) (nm:ByteArray) (ks:List D) (p:Int) (b2339:Bool) (k:List TV→List TV→Option β):J0 op nm ks p k (j1 op nm ks p b2339)=k [.d false 0 (D.bool false)] []:=by kernel_rfl
end V19
end Go.Sd
namespace Go.Sc
open Go Go.Cm
def lettS:List D→Option (List D)
 |[]=>some []
 |x::r=>match x with
  |.int .u8 m=>match lettS r with
   |some l=>some (.int .i64 (Int.tmod (IntKind.wrap .i64 m) 8)::l)
   |none=>none
  |_=>none
def loopOf (l:List D):List D:=match l with|[]=>[.int .i64 0]|_=>l
def namesD:List D:=[.str ⟨#[97]⟩,.str ⟨#[98]⟩,.str ⟨#[103,111,97,108]⟩]
noncomputable def holdN (P:Program) (ns:List D) (f:Fm) (st lp:List D):Option (Int ⊕ Bool):=
 match truthsT P f ns st lp with
 |some (.inl e)=>some (.inl e)
 |some (.inr (b::_))=>some (.inr b)
 |_=>none
end Go.Sc
namespace Go.Sd
open Go Go.Cm Go.Proofs Go.Sc
def cTrue {β:Type} (args:List TV) (k:List TV→List TV→Option β):Option β:=
 match args with
 |[]=>k [.d false 0 (.bool true)] []
 |_=>none
def cWordS {β:Type} (args:List TV) (k:List TV→List TV→Option β):Option β:=
 match args with
 |[.d true 0 (.sl 0 a),.d true 0 (.sl 0 b),.d true 0 (.int .i64 3)]=>match lettS (a.take 8),lettS (b.take 8)with
  |some x,some y=>k [.d false 3 (.ag [.sl 0 x,.sl 0 (loopOf y)])] []
  |_,_=>none
 |_=>none
noncomputable def cHoldN {β:Type} (args:List TV) (k:List TV→List TV→Option β):Option β:=
 match args with
 |[.d true 5 x,.d true 0 (.sl 0 ns),.d true 3 (.ag [.sl 0 st,.sl 0 lp])]=>match ofD x with
  |some f=>chkK (bd none f∧ns.length≤big∧st.length+lp.length≤big) (match holdN Tryz.prog ns f st lp with
   |some (.inl e)=>k [.d false 0 (.bool false),.d false 0 (.ifc 84 (.int .i64 e))] []
   |some (.inr b)=>k [.d false 0 (.bool b),.d false 0 .nili] []
   |none=>none)
  |none=>none
 |_=>none
noncomputable def cOtherN {β:Type} (args:List TV) (k:List TV→List TV→Option β):Option β:=
 match args with
 |[.d true 5 x]=>match ofD x with
  |some f=>chkK (bd none f) (match holdN Tryz.prog namesD f [] [.int .i64 0]with
   |some (.inl e)=>k [.d false 0 (.bool true)] []
   |some (.inr b)=>k [.d false 0 (.bool false)] []
   |none=>none)
  |none=>none
 |_=>none
def cFm1 {β:Type} (args:List TV) (k:List TV→List TV→Option β):Option β:=
 match args with
 |[.d true 0 (.str o),.d true 5 x]=>match ofD x with
  |some f=>k [.d true 5 (fmD o ⟨#[]⟩ [f.d] 0)] []
  |none=>none
 |_=>none
def cFmNot {β:Type} (args:List TV) (k:List TV→List TV→Option β):Option β:=
 match args with
 |[.d true 5 x]=>match ofD x with
  |some f=>k [.d true 5 (fmD ⟨#[33]⟩ ⟨#[]⟩ [f.d] 0)] []
  |none=>none
 |_=>none
def cFm2 {β:Type} (args:List TV) (k:List TV→List TV→Option β):Option β:=
 match args with
 |[.d true 0 (.str o),.d true 5 x,.d true 5 y]=>match ofD x,ofD y with
  |some f,some g=>k [.d true 5 (fmD o ⟨#[]⟩ [f.d,g.d] 0)] []
  |_,_=>none
 |_=>none
end Go.Sd
set_option maxRecDepth 100000
namespace Go.Sd
open Go Go.Cm Go.Proofs Go.Sc
theorem envwx:EnvOk glS Tryz.prog WX:=envwv.fn mixed Tryz.func21 (by kernel_rfl) fun β args k r hr=>by
 unfold cNames at hr
 split at hr
 ·exact⟨_,_,hr,fun q=>V21.start q⟩
 ·cases hr
theorem vcFm1:VC 22 cFm1:=by
 intro β args k r hr
 change cFm1 args k=some r at hr
 unfold cFm1 at hr
 split at hr
 ·rename_i o x
  split at hr
  ·rename_i f hf
   rw[d_ofD _ _ hf]
   cases f with
   |mk op nm ks p=>
    simp only[Fm.d]at hr ⊢
    exact⟨_,_,hr,valid_of envwv mixed Tryz.func22 (by kernel_rfl) (V22.start o op nm (Fm.dL ks) p _)⟩
  ·cases hr
 ·cases hr
theorem vcFm2:VC 24 cFm2:=by
 intro β args k r hr
 change cFm2 args k=some r at hr
 unfold cFm2 at hr
 split at hr
 ·rename_i o x y
  split at hr
  ·rename_i f g hf hg
   rw[d_ofD _ _ hf,d_ofD _ _ hg]
   cases f with
   |mk op nm ks p=>
    cases g with
    |mk op2 nm2 ks2 p2=>
     simp only[Fm.d]at hr ⊢
     exact⟨_,_,hr,valid_of envwv mixed Tryz.func24 (by kernel_rfl) (V24.start o op nm (Fm.dL ks) p op2 nm2 (Fm.dL ks2) p2 _)⟩
  ·cases hr
 ·cases hr
theorem word_a {a b:List D}:∀(r:List D) (i:Nat) (acc x:List D),(a.take 8).drop i=r→acc.length=i→i≤8→i≤a.length→lettS r=some x→
  Lp V20.L0 (V20.s0 a b i acc)=some (.exit 0,V20.e0x0 b (acc++x))
 |[],i,acc,x,hd,ha,h8,hle,h=>by
  simp only[lettS,Option.some.injEq]at h
  subst h
  have hr:=V20.round0 a b i acc
  have hlen:(a.take 8).length≤i:=by have:=congrArg List.length hd;simp at this;rw[List.length_take];omega
  rw[List.length_take]at hlen
  rw[List.append_nil]
  by_cases h1:(i:Int)<(a.length:Int)
  ·rw[if_pos (by simpa using h1),if_neg (by simp;omega)]at hr
   exact Lp_exit hr
  ·rw[if_neg (by simpa using h1)]at hr
   exact Lp_exit hr
 |d::r,i,acc,x,hd,ha,h8,hle,h=>by
  have hr:=V20.round0 a b i acc
  have hlt:i<(a.take 8).length:=by
   rcases Nat.lt_or_ge i (a.take 8).length with h|h
   ·exact h
   ·rw[List.drop_eq_nil_of_le h]at hd;cases hd
  have hc:=List.drop_eq_getElem_cons hlt
  rw[hd]at hc
  have h2:=hlt
  rw[List.length_take]at h2
  have hx:a[i]? =some d:=by
   have e:(a.take 8)[i]? =some d:=by rw[List.getElem?_eq_getElem hlt, ←(List.cons.inj hc).1]
   rw[List.getElem?_take]at e
   split at e
   ·exact e
   ·cases e
  rw[if_pos (by simp;omega),if_pos (by simp;omega),if_pos (by omega),Int.toNat_natCast,hx]at hr
  simp only[lettS]at h
  split at h
  ·rename_i m
   split at h
   ·rename_i l hl
    cases h
    simp only[if_true]at hr
    rw[if_pos (by omega),wrap_id (by omega) (by omega)]at hr
    have ih:=word_a (a:=a) (b:=b) r (i+1) (acc++[.int .i64 (Int.tmod (IntKind.wrap .i64 m) 8)]) l (List.cons.inj hc).2.symm (by simp[ha]) (by omega) (by omega) hl
    rw[List.append_assoc]at ih
    exact Lp_step hr ih
   ·cases h
  ·cases h
theorem word_b {b w:List D}:∀(r:List D) (i:Nat) (acc x:List D),(b.take 8).drop i=r→acc.length=i→i≤8→i≤b.length→lettS r=some x→
  Lp V20.L1 (V20.s1 b i acc w)=some (.exit 2,V20.e1x2 w (acc++x))
 |[],i,acc,x,hd,ha,h8,hle,h=>by
  simp only[lettS,Option.some.injEq]at h
  subst h
  have hr:=V20.round1 b i acc w
  have hlen:(b.take 8).length≤i:=by have:=congrArg List.length hd;simp at this;rw[List.length_take];omega
  rw[List.length_take]at hlen
  rw[List.append_nil]
  by_cases h1:(i:Int)<(b.length:Int)
  ·rw[if_pos (by simpa using h1),if_neg (by simp;omega)]at hr
   exact Lp_exit hr
  ·rw[if_neg (by simpa using h1)]at hr
   exact Lp_exit hr
 |d::r,i,acc,x,hd,ha,h8,hle,h=>by
  have hr:=V20.round1 b i acc w
  have hlt:i<(b.take 8).length:=by
   rcases Nat.lt_or_ge i (b.take 8).length with h|h
   ·exact h
   ·rw[List.drop_eq_nil_of_le h]at hd;cases hd
  have hc:=List.drop_eq_getElem_cons hlt
  rw[hd]at hc
  have h2:=hlt
  rw[List.length_take]at h2
  have hx:b[i]? =some d:=by
   have e:(b.take 8)[i]? =some d:=by rw[List.getElem?_eq_getElem hlt, ←(List.cons.inj hc).1]
   rw[List.getElem?_take]at e
   split at e
   ·exact e
   ·cases e
  rw[if_pos (by simp;omega),if_pos (by simp;omega),if_pos (by omega),Int.toNat_natCast,hx]at hr
  simp only[lettS]at h
  split at h
  ·rename_i m
   split at h
   ·rename_i l hl
    cases h
    simp only[if_true]at hr
    rw[if_pos (by omega),wrap_id (by omega) (by omega)]at hr
    have ih:=word_b (b:=b) (w:=w) r (i+1) (acc++[.int .i64 (Int.tmod (IntKind.wrap .i64 m) 8)]) l (List.cons.inj hc).2.symm (by simp[ha]) (by omega) (by omega) hl
    rw[List.append_assoc]at ih
    exact Lp_step hr ih
   ·cases h
  ·cases h
theorem vcWord:VC 20 cWordS:=by
 intro β args k r hr
 change cWordS args k=some r at hr
 unfold cWordS at hr
 split at hr
 ·rename_i a b
  split at hr
  ·rename_i x y hx hy
   refine⟨_,_,hr,valid_of envwv mixed Tryz.func20 (by kernel_rfl) ?_⟩
   have h1:Lp V20.L0 (V20.s0 a b 0 [])=_:=word_a (a:=a) (b:=b) (a.take 8) 0 [] x rfl rfl (by omega) (by omega) hx
   have h2:Lp V20.L1 (V20.s1 b 0 [] x)=_:=word_b (b:=b) (w:=x) (b.take 8) 0 [] y rfl rfl (by omega) (by omega) hy
   rw[V20.start,goLp_of h1,List.nil_append,V20.behind0x0,goLp_of h2,List.nil_append,V20.behind1x2]
   cases y with
   |nil=>rfl
   |cons d l=>rfl
  ·cases hr
 ·cases hr
theorem vcHoldN:VC 18 cHoldN:=by
 intro β args k r hr
 change cHoldN args k=some r at hr
 have hbig:big=34359738368:=rfl
 unfold cHoldN at hr
 split at hr
 ·rename_i x ns st lp
  split at hr
  ·rename_i f hf
   obtain⟨⟨h0,h2,h1⟩,hr⟩:=chkK_ok hr
   suffices hh:cHoldsT [.d true 5 x,.d true 0 (.sl 0 ns),.d true 3 (.ag [.sl 0 st,.sl 0 lp])] k=some r from envwv β 18 _ k r hh
   unfold cHoldsT
   simp only[hf]
   unfold chkK
   rw[if_pos ⟨h0,h2,h1⟩]
   unfold holdN at hr
   split at hr
   ·rename_i e he
    split at he
    ·rename_i e' he'
     cases he
     first|(simp only[he'];exact hr)|exact hr
    ·cases he
    ·cases he
   ·rename_i b he
    split at he
    ·cases he
    ·rename_i b' l he'
     cases he
     first|(simp only[he'];exact hr)|exact hr
    ·cases he
   ·cases hr
  ·cases hr
 ·cases hr
theorem vcOther:VC 19 cOtherN:=by
 intro β args k r hr
 change cOtherN args k=some r at hr
 unfold cOtherN at hr
 split at hr
 ·rename_i x
  split at hr
  ·rename_i f hf
   obtain⟨h0,hr⟩:=chkK_ok hr
   rw[d_ofD _ _ hf]
   cases f with
   |mk op nm ks p=>
    have hof:=ofD_d (.mk op nm ks p)
    simp only[Fm.d]at hof ⊢
    have ha:bd none (.mk op nm ks p)∧3≤34359738368∧1≤34359738368:=⟨h0,by decide,by decide⟩
    have st0:∀{γ:Type} (q:List TV→List TV→Option γ),_=_:=fun q=>(V19.start op nm (Fm.dL ks) p q).trans (V19.reg0 op nm (Fm.dL ks) p _)
    have hJ0:∀{γ:Type} (q:List TV→List TV→Option γ) (e:Int),V19.J0 op nm (Fm.dL ks) p q (V19.y0_0 op nm (Fm.dL ks) p e)=q [.d false 0 (.bool true)] []:=fun q e=>V19.j0_eq op nm (Fm.dL ks) p e q
    have hJ1:∀{γ:Type} (q:List TV→List TV→Option γ) (b:Bool),V19.J0 op nm (Fm.dL ks) p q (V19.y0_1 op nm (Fm.dL ks) p b)=q [.d false 0 (.bool false)] []:=fun q b=>V19.j1_eq op nm (Fm.dL ks) p b q
    simp only[hof,if_pos ha,hJ0,hJ1]at st0
    unfold holdN namesD at hr
    split at hr
    ·rename_i e he
     split at he
     ·rename_i e' he'
      cases he
      simp only[he']at st0
      exact⟨_,_,hr,valid_of envwx mixed Tryz.func19 (by kernel_rfl) (st0 _)⟩
     ·cases he
     ·cases he
    ·rename_i b he
     split at he
     ·cases he
     ·rename_i b' l he'
      cases he
      simp only[he']at st0
      exact⟨_,_,hr,valid_of envwx mixed Tryz.func19 (by kernel_rfl) (st0 _)⟩
     ·cases he
    ·cases hr
  ·cases hr
 ·cases hr
end Go.Sd
namespace Go.Sd
open Go Go.Cm Go.Proofs Go.Sc
def WN:Env:=Env.none.add 22 io0 cFm1
theorem envwn:EnvOk glS Tryz.prog WN:=EnvOk.none.add vcFm1
end Go.Sd
namespace Go.Sd
open Go Go.Cm Go.Proofs Go.Sc
set_option maxRecDepth 100000
namespace V23
noncomputable def X:Fx:=⟨Tryz.prog,WN,4,1⟩
theorem start {β:Type} (op:ByteArray) (nm:ByteArray) (ks:List D) (p:Int) (k:List TV→List TV→Option β):evalF Tryz.prog WN Tryz.f23 [.d true 5 (D.ag [D.str op,D.str nm,D.sl 5 ks,D.int .i64 p])] k=match ofD (D.ag [D.str op,D.str nm,D.sl 5 ks,D.int .i64 p])with
   |some f2=>k [.d true 5 (D.ag [D.str (ByteArray.mk #[33]),D.str (ByteArray.mk #[]),D.sl 5 [Fm.d f2],D.int .i64 0])] []
   |none=>none:=by kernel_rfl
end V23
end Go.Sd
set_option maxRecDepth 100000
namespace Go.Sd
open Go Go.Cm Go.Proofs Go.Sc
theorem vcFmNot:VC 23 cFmNot:=by
 intro β args k r hr
 change cFmNot args k=some r at hr
 unfold cFmNot at hr
 split at hr
 ·rename_i x
  split at hr
  ·rename_i f hf
   rw[d_ofD _ _ hf]
   cases f with
   |mk op nm ks p=>
    have hof:=ofD_d (.mk op nm ks p)
    simp only[Fm.d]at hr hof ⊢
    refine⟨_,_,hr,valid_of envwn mixed Tryz.func23 (by kernel_rfl) ?_⟩
    rw[V23.start]
    simp only[hof,Fm.d]
    rfl
  ·cases hr
 ·cases hr
end Go.Sd
namespace Go.Sc
open Go Go.Cm
noncomputable def holdX (P:Program) (x:D) (ns st lp:List D):Option Bool:=
 match ofD x with
 |some f=>if bd none f∧ns.length≤big∧st.length+lp.length≤big then(match holdN P ns f st lp with|some (.inr b)=>some b|_=>none)else none
 |none=>none
noncomputable def otherX (P:Program) (x:D):Option Bool:=
 match ofD x with
 |some f=>if bd none f then(match holdN P namesD f [] [.int .i64 0]with|some (.inl _)=>some true|some (.inr _)=>some false|none=>none)else none
 |none=>none
def isFm (x:D):Bool:=(ofD x).isSome
end Go.Sc
namespace Go.Sd
open Go Go.Cm Go.Proofs Go.Sc
noncomputable def cHoldX {β:Type} (args:List TV) (k:List TV→List TV→Option β):Option β:=
 match args with
 |[.d true 5 x,.d true 0 (.sl 0 ns),.d true 3 (.ag [.sl 0 st,.sl 0 lp])]=>match holdX Tryz.prog x ns st lp with
  |some b=>k [.d false 0 (.bool b),.d false 0 .nili] []
  |none=>none
 |_=>none
noncomputable def cOtherX {β:Type} (args:List TV) (k:List TV→List TV→Option β):Option β:=
 match args with
 |[.d true 5 x]=>match otherX Tryz.prog x with
  |some b=>k [.d false 0 (.bool b)] []
  |none=>none
 |_=>none
def cFm1X {β:Type} (args:List TV) (k:List TV→List TV→Option β):Option β:=
 match args with
 |[.d true 0 (.str o),.d true 5 x]=>if isFm x=true then k [.d true 5 (fmD o ⟨#[]⟩ [x] 0)] []else none
 |_=>none
def cFmNotX {β:Type} (args:List TV) (k:List TV→List TV→Option β):Option β:=
 match args with
 |[.d true 5 x]=>if isFm x=true then k [.d true 5 (fmD ⟨#[33]⟩ ⟨#[]⟩ [x] 0)] []else none
 |_=>none
def cFm2X {β:Type} (args:List TV) (k:List TV→List TV→Option β):Option β:=
 match args with
 |[.d true 0 (.str o),.d true 5 x,.d true 5 y]=>if isFm x=true then(if isFm y=true then k [.d true 5 (fmD o ⟨#[]⟩ [x,y] 0)] []else none)else none
 |_=>none
theorem vcHoldX:VC 18 cHoldX:=by
 intro β args k r hr
 change cHoldX args k=some r at hr
 unfold cHoldX at hr
 split at hr
 ·rename_i x ns st lp
  split at hr
  ·rename_i b hb
   refine vcHoldN β _ k r ?_
   show cHoldN [.d true 5 x,.d true 0 (.sl 0 ns),.d true 3 (.ag [.sl 0 st,.sl 0 lp])] k=some r
   unfold holdX at hb
   split at hb
   ·rename_i f hf
    split at hb
    ·rename_i hc
     unfold cHoldN chkK
     simp only[hf]
     rw[if_pos hc]
     split at hb
     ·rename_i b' he
      cases hb
      first|(simp only[he];exact hr)|exact hr
     ·cases hb
    ·cases hb
   ·cases hb
  ·cases hr
 ·cases hr
theorem vcOtherX:VC 19 cOtherX:=by
 intro β args k r hr
 change cOtherX args k=some r at hr
 unfold cOtherX at hr
 split at hr
 ·rename_i x
  split at hr
  ·rename_i b hb
   refine vcOther β _ k r ?_
   show cOtherN [.d true 5 x] k=some r
   unfold otherX at hb
   split at hb
   ·rename_i f hf
    split at hb
    ·rename_i hc
     unfold cOtherN chkK
     simp only[hf]
     rw[if_pos hc]
     split at hb
     ·rename_i e he
      cases hb
      first|(simp only[he];exact hr)|exact hr
     ·rename_i e he
      cases hb
      first|(simp only[he];exact hr)|exact hr
     ·cases hb
    ·cases hb
   ·cases hb
  ·cases hr
 ·cases hr
theorem isFm_d {x:D} (h:isFm x=true):∃f,ofD x=some f∧x=f.d:=by
 unfold isFm at h
 cases e:ofD x with
 |none=>rw[e]at h;cases h
 |some f=>exact⟨f,rfl,d_ofD _ _ e⟩
theorem vcFm1X:VC 22 cFm1X:=by
 intro β args k r hr
 change cFm1X args k=some r at hr
 unfold cFm1X at hr
 split at hr
 ·rename_i o x
  split at hr
  ·rename_i h
   obtain⟨f,hf,e⟩:=isFm_d h
   refine vcFm1 β _ k r ?_
   show cFm1 [.d true 0 (.str o),.d true 5 x] k=some r
   unfold cFm1
   simp only[hf]
   rw[←e];exact hr
  ·cases hr
 ·cases hr
theorem vcFmNotX:VC 23 cFmNotX:=by
 intro β args k r hr
 change cFmNotX args k=some r at hr
 unfold cFmNotX at hr
 split at hr
 ·rename_i x
  split at hr
  ·rename_i h
   obtain⟨f,hf,e⟩:=isFm_d h
   refine vcFmNot β _ k r ?_
   show cFmNot [.d true 5 x] k=some r
   unfold cFmNot
   simp only[hf]
   rw[←e];exact hr
  ·cases hr
 ·cases hr
theorem vcFm2X:VC 24 cFm2X:=by
 intro β args k r hr
 change cFm2X args k=some r at hr
 unfold cFm2X at hr
 split at hr
 ·rename_i o x y
  split at hr
  ·rename_i h
   split at hr
   ·rename_i h'
    obtain⟨f,hf,e⟩:=isFm_d h
    obtain⟨g,hg,e'⟩:=isFm_d h'
    refine vcFm2 β _ k r ?_
    show cFm2 [.d true 0 (.str o),.d true 5 x,.d true 5 y] k=some r
    unfold cFm2
    simp only[hf,hg]
    rw[←e, ←e'];exact hr
   ·cases hr
  ·cases hr
 ·cases hr
noncomputable def WY:Env:=((((((((Env.none.add 9 io0 cTrue).add 10 io0 cParse).add 18 io0 cHoldX).add 19 io0 cOtherX).add 20 io0 cWordS).add 21 io0 cNames).add 22 io0 cFm1X).add 23 io0 cFmNotX).add 24 io0 cFm2X
noncomputable def WQ:Env:=(((Env.none.add 10 io0 cParse).add 18 io0 cHoldX).add 38 io0 cCheck).add 16 io0 cNum
end Go.Sd
namespace Go.Cm
open Go
def cutN:Nat→Code→Code
 |0,_=>.skip
 |n+1,c=>match c with
  |.seq a b=>.seq a (cutN n b)
  |c=>c
def restN:Nat→Code→Code
 |0,c=>c
 |n+1,c=>match c with
  |.seq _ b=>restN n b
  |_=>.skip
def spineB:Nat→Code→Bool
 |0,_=>true
 |n+1,c=>match c with
  |.seq _ b=>spineB n b
  |_=>false
theorem live_cut {ret:Nat} {xs:List (Nat×Nat)} {out:Nat}:∀(n:Nat) (c:Code),spineB n c=true→live ret xs (cutN n c) (live ret xs (restN n c) out)=live ret xs c out
 |0,c,_=>by simp only[cutN,restN,live]
 |n+1,.seq a b,h=>by
  simp only[cutN,restN,live]
  rw[live_cut n b h]
theorem evalK_cut {β:Type} (X:Fx) (xs:List (Nat×Nat)):∀(n:Nat) (c:Code) (out:Nat) (s:S) (k:Ex→S→Option β),spineB n c=true→
  evalK X xs c out s k=evalK X xs (cutN n c) (live X.ret xs (restN n c) out) s (fun ex s=>match ex with|.norm=>evalK X xs (restN n c) out s k|ex=>k ex s)
 |0,c,out,s,k,_=>by
  rw[cutN,restN,evalK]
 |n+1,.seq a b,out,s,k,h=>by
  have ih:=evalK_cut (β:=β) X xs n b
  rw[cutN,restN,evalK,evalK]
  rw[live_cut n b h]
  congr 1
  funext ex s
  cases ex with
  |norm=>exact ih out _ k h
  |exit j=>rfl
  |ret=>rfl
end Go.Cm

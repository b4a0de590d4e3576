/- Lasso: Truths, Holds. -/
import Derived.Test.YtbpndgllhhajoaaGreatDoorMaj
set_option linter.unusedVariables false
set_option linter.unusedSimpArgs false
set_option maxRecDepth 100000
namespace Go.Sd
open Go Go.Cm Go.Proofs Go.Sc
theorem envwt:EnvOk glS Tryz.prog WT:=
 ((((EnvOk.none.add fun β args k r hr=>envw11 β 38 args k r hr).add fun β args k r hr=>envr1 β 43 args k r hr).add vcForm).add fun β args k r hr=>envw2 β 45 args k r hr).add fun β args k r hr=>envw9 β 46 args k r hr
theorem envwu:EnvOk glS Tryz.prog WU:=envwt.fn mixed Tryz.func13 (by kernel_rfl) fun β args k r hr=>by
 have hbig:big=34359738368:=rfl
 unfold cTruthsT at hr
 split at hr
 ·rename_i x ns st lp
  split at hr
  ·rename_i f hf
   obtain⟨⟨h0,h1,h2⟩,hr⟩:=chkK_ok hr
   rw[hbig]at h1 h2
   obtain⟨res,outs,h3,h4⟩:=ansL_out hr
   refine⟨res,outs,h3,fun q=>?_⟩
   rw[←h4 q,d_ofD _ _ hf]
   have hl:(st++lp).length≤34359738368:=by rw[List.length_append];exact h2
   cases f with
   |mk op nm ks p=>
    have hof:=ofD_d (.mk op nm ks p)
    simp only[Fm.d]at hof ⊢
    have ha:bd none (.mk op nm ks p)∧(st++lp).length≤34359738368∧ns.length≤34359738368:=⟨h0,hl,h1⟩
    rw[V13.start,if_pos ⟨h1,h2⟩]
    simp only[hof,if_pos h0,if_pos h2,if_pos ha]
    unfold truthsT
    cases checkS Tryz.prog ns st lp with
    |none=>rfl
    |some b=>
     cases b with
     |false=>rfl
     |true=>
      simp only
      by_cases hs:sizeF (.mk op nm ks p)>4096
      ·rw[if_pos (by simpa using hs),if_pos hs];rfl
      ·rw[if_neg (by simpa using hs),if_neg hs]
       by_cases hfm:lformF (.mk op nm ks p)=true
       ·rw[if_neg (by simp[hfm]),if_pos hfm]
        generalize truthF ns (st++lp) (st.length:Int) (.mk op nm ks p)=z
        rcases z with _|_|_<;>rfl
       ·rw[if_pos (by simpa using hfm),if_neg hfm];rfl
  ·cases hr
 ·cases hr
theorem envwv:EnvOk glS Tryz.prog WV:=envwu.fn mixed Tryz.func18 (by kernel_rfl) fun β args k r hr=>by
 have hbig:big=34359738368:=rfl
 unfold cHoldsT at hr
 split at hr
 ·rename_i x ns st lp
  split at hr
  ·rename_i f hf
   obtain⟨⟨h0,h1,h2⟩,hr⟩:=chkK_ok hr
   rw[hbig]at h1 h2
   rw[d_ofD _ _ hf]
   cases f with
   |mk op nm ks p=>
    have hof:=ofD_d (.mk op nm ks p)
    simp only[Fm.d]at hof ⊢
    have ha:bd none (.mk op nm ks p)∧ns.length≤34359738368∧st.length+lp.length≤34359738368:=⟨h0,h1,h2⟩
    have st0:∀{γ:Type} (q:List TV→List TV→Option γ),_=_:=fun q=>V18.start op nm (Fm.dL ks) p ns st lp q
    simp only[hof,if_pos ha]at st0
    split at hr
    ·rename_i e he
     simp only[he]at st0
     exact⟨_,_,hr,fun q=>st0 q⟩
    ·rename_i b bs he
     simp only[he]at st0
     refine⟨_,_,hr,fun q=>?_⟩
     rw[st0,if_pos (by simp[bD])]
     rfl
    ·cases hr
  ·cases hr
 ·cases hr
end Go.Sd
namespace Go.Sd
open Go Go.Cm Go.Proofs Go.Sc
def cNames {β:Type} (args:List TV) (k:List TV→List TV→Option β):Option β:=
 match args with
 |[]=>k [.own false 0 [.str ⟨#[97]⟩,.str ⟨#[98]⟩,.str ⟨#[103,111,97,108]⟩]] []
 |_=>none
noncomputable def WX:Env:=WV.add 21 io0 cNames
end Go.Sd
namespace Go.Sd
open Go Go.Cm Go.Proofs Go.Sc
set_option maxRecDepth 100000
namespace V21
noncomputable def X:Fx:=⟨Tryz.prog,WV,1,0⟩
end V21
namespace V22
noncomputable def X:Fx:=⟨Tryz.prog,WV,16,2⟩
end V22
namespace V24
noncomputable def X:Fx:=⟨Tryz.prog,WV,64,3⟩
end V24
namespace V20
noncomputable def X:Fx:=⟨Tryz.prog,WV,64,3⟩
def s0 (a:List D) (b:List D) (x16:Int) (x17:List D):S:=⟨Tm.mk 66 [(0,.d true 0 (D.sl 0 a)),(1,.d true 0 (D.sl 0 b)),(2,.d true 0 (D.int .i64 3)),(6,.rp 7 0),(7,.rp 8 0),(8,.d false 0 (D.int .i64 x16))],[(7,true,[.own false 0 [],.own false 0 []]),(8,true,[.own false 0 x17,.own false 0 []])]⟩
def s1 (b:List D) (x49:Int) (x50:List D) (x52:List D):S:=⟨Tm.mk 66 [(1,.d true 0 (D.sl 0 b)),(2,.d true 0 (D.int .i64 3)),(6,.rp 7 0),(7,.rp 8 0),(9,.d false 0 (D.int .i64 x49))],[(7,true,[.own false 0 [],.own false 0 []]),(8,true,[.own false 0 x52,.own false 0 x50])]⟩
def e0x0 (b:List D) (x35:List D):S:=⟨Tm.mk 66 [(1,.d true 0 (D.sl 0 b)),(2,.d true 0 (D.int .i64 3)),(6,.rp 7 0),(7,.rp 8 0)],[(7,true,[.own false 0 [],.own false 0 []]),(8,true,[.own false 0 x35,.own false 0 []])]⟩
def e1x2 (x86:List D) (x87:List D):S:=⟨Tm.mk 66 [(6,.rp 7 0),(7,.rp 8 0)],[(7,true,[.own false 0 [],.own false 0 []]),(8,true,[.own false 0 x86,.own false 0 x87])]⟩
noncomputable abbrev L0:S→Option (S ⊕ (Ex×S)):=roundK X [(0,198)] (sub [1,1,0,1,0,0] (body Tryz.f20))
noncomputable abbrev L1:S→Option (S ⊕ (Ex×S)):=roundK X [(2,192)] (sub [1,1,1,0,1,0,0] (body Tryz.f20))
end V20
namespace V19
noncomputable def X:Fx:=⟨Tryz.prog,WX,4,1⟩
def j0 (op:ByteArray) (nm:ByteArray) (ks:List D) (p:Int) (e2238:Int):S:=⟨Tm.mk 15 [(0,.d true 5 (D.ag [D.str op,D.str nm,D.sl 5 ks,D.int .i64 p])),(1,.rp 2 0),(2,.d false 0 (D.bool false)),(3,.d false 0 (D.bool false)),(4,.d false 0 (D.ifc 84 (D.int .i64 e2238))),(5,.tup [.d false 0 (D.bool false),.d false 0 (D.ifc 84 (D.int .i64 e2238))]),(6,.ag [.d true 0 (D.str op),.d true 0 (D.str nm),.d true 0 (D.sl 5 ks),.d true 0 (D.int .i64 p)]),(7,.bf 1152921504606846983 0),(8,.own false 0 [D.int .i64 0]),(9,.ag [.nils 0,.bf 0 8]),(10,.tup [.d false 0 (D.bool false),.d false 0 (D.ifc 84 (D.int .i64 e2238))]),(11,.d false 0 (D.bool false)),(12,.d false 0 (D.ifc 84 (D.int .i64 e2238)))],[(2,true,[.d true 0 (D.str op),.d true 0 (D.str nm),.d true 0 (D.sl 5 ks),.d true 0 (D.int .i64 p)]),(1152921504606846983,true,[.own false 0 [D.str (ByteArray.mk #[97]),D.str (ByteArray.mk #[98]),D.str (ByteArray.mk #[103,111,97,108])]]),(1152921504606846986,true,[.d false 0 (D.bool false),.d false 0 (D.ifc 84 (D.int .i64 e2238))])]⟩
def j1 (op:ByteArray) (nm:ByteArray) (ks:List D) (p:Int) (b2339:Bool):S:=⟨Tm.mk 15 [(0,.d true 5 (D.ag [D.str op,D.str nm,D.sl 5 ks,D.int .i64 p])),(1,.rp 2 0),(2,.d false 0 (D.bool false)),(3,.d false 0 (D.bool b2339)),(4,.d false 0 D.nili),(5,.tup [.d false 0 (D.bool b2339),.d false 0 D.nili]),(6,.ag [.d true 0 (D.str op),.d true 0 (D.str nm),.d true 0 (D.sl 5 ks),.d true 0 (D.int .i64 p)]),(7,.bf 1152921504606846983 0),(8,.own false 0 [D.int .i64 0]),(9,.ag [.nils 0,.bf 0 8]),(10,.tup [.d false 0 (D.bool b2339),.d false 0 D.nili]),(11,.d false 0 (D.bool b2339)),(12,.d false 0 D.nili)],[(2,true,[.d true 0 (D.str op),.d true 0 (D.str nm),.d true 0 (D.sl 5 ks),.d true 0 (D.int .i64 p)]),(1152921504606846983,true,[.own false 0 [D.str (ByteArray.mk #[97]),D.str (ByteArray.mk #[98]),D.str (ByteArray.mk #[103,111,97,108])]]),(1152921504606846986,true,[.d false 0 (D.bool b2339),.d false 0 D.nili])]⟩
noncomputable abbrev J0 {β:Type} (op:ByteArray) (nm:ByteArray) (ks:List D) (p:Int) (k:List TV→List TV→Option β):S→Option β:=applyK X (finK Tryz.prog Tryz.f19 [.d true 5 (D.ag [D.str op,D.str nm,D.sl 5 ks,D.int .i64 p])] k) [Kf.seq [] (sub [1,1] (body Tryz.f19)) 4] Ex.norm
noncomputable abbrev J1 {β:Type} (op:ByteArray) (nm:ByteArray) (ks:List D) (p:Int) (k:List TV→List TV→Option β):S→Option β:=applyK X (finK Tryz.prog Tryz.f19 [.d true 5 (D.ag [D.str op,D.str nm,D.sl 5 ks,D.int .i64 p])] k) [Kf.seq [] (sub [1,1] (body Tryz.f19)) 4] Ex.norm
noncomputable def R0:Array Oper:=regOps (sub [1,0] (body Tryz.f19))
def B0:List Nat:=[0,0,0,4,15,31,63,63,127,511]
noncomputable def z0_0 (op:ByteArray) (nm:ByteArray) (ks:List D) (p:Int) (e8:Int):S:=⟨Tm.mk 15 [(0,.d true 5 (D.ag [D.str op,D.str nm,D.sl 5 ks,D.int .i64 p])),(1,.rp 2 0),(2,.d false 0 (D.bool false)),(6,.ag [.d true 0 (D.str op),.d true 0 (D.str nm),.d true 0 (D.sl 5 ks),.d true 0 (D.int .i64 p)]),(7,.bf 1152921504606846983 0),(8,.own false 0 [D.int .i64 0]),(9,.ag [.nils 0,.bf 0 8]),(10,.tup [.d false 0 (D.bool false),.d false 0 (D.ifc 84 (D.int .i64 e8))])],[(2,true,[.d true 0 (D.str op),.d true 0 (D.str nm),.d true 0 (D.sl 5 ks),.d true 0 (D.int .i64 p)]),(1152921504606846983,true,[.own false 0 [D.str (ByteArray.mk #[97]),D.str (ByteArray.mk #[98]),D.str (ByteArray.mk #[103,111,97,108])]]),(1152921504606846986,true,[.d false 0 (D.bool false),.d false 0 (D.ifc 84 (D.int .i64 e8))])]⟩
noncomputable def z0_1 (op:ByteArray) (nm:ByteArray) (ks:List D) (p:Int) (b14:Bool):S:=⟨Tm.mk 15 [(0,.d true 5 (D.ag [D.str op,D.str nm,D.sl 5 ks,D.int .i64 p])),(1,.rp 2 0),(2,.d false 0 (D.bool false)),(6,.ag [.d true 0 (D.str op),.d true 0 (D.str nm),.d true 0 (D.sl 5 ks),.d true 0 (D.int .i64 p)]),(7,.bf 1152921504606846983 0),(8,.own false 0 [D.int .i64 0]),(9,.ag [.nils 0,.bf 0 8]),(10,.tup [.d false 0 (D.bool b14),.d false 0 D.nili])],[(2,true,[.d true 0 (D.str op),.d true 0 (D.str nm),.d true 0 (D.sl 5 ks),.d true 0 (D.int .i64 p)]),(1152921504606846983,true,[.own false 0 [D.str (ByteArray.mk #[97]),D.str (ByteArray.mk #[98]),D.str (ByteArray.mk #[103,111,97,108])]]),(1152921504606846986,true,[.d false 0 (D.bool b14),.d false 0 D.nili])]⟩
noncomputable def z0_6 (op:ByteArray) (nm:ByteArray) (ks:List D) (p:Int):S:=⟨Tm.mk 15 [(0,.d true 5 (D.ag [D.str op,D.str nm,D.sl 5 ks,D.int .i64 p])),(1,.rp 2 0),(2,.d false 0 (D.bool false))],[(2,true,[.d true 0 (D.str op),.d true 0 (D.str nm),.d true 0 (D.sl 5 ks),.d true 0 (D.int .i64 p)])]⟩
noncomputable def y0_0 (op:ByteArray) (nm:ByteArray) (ks:List D) (p:Int) (e2254:Int):S:=⟨Tm.mk 15 [(0,.d true 5 (D.ag [D.str op,D.str nm,D.sl 5 ks,D.int .i64 p])),(1,.rp 2 0),(2,.d false 0 (D.bool false)),(3,.d false 0 (D.bool false)),(4,.d false 0 (D.ifc 84 (D.int .i64 e2254))),(5,.tup [.d false 0 (D.bool false),.d false 0 (D.ifc 84 (D.int .i64 e2254))]),(6,.ag [.d true 0 (D.str op),.d true 0 (D.str nm),.d true 0 (D.sl 5 ks),.d true 0 (D.int .i64 p)]),(7,.bf 1152921504606846983 0),(8,.own false 0 [D.int .i64 0]),(9,.ag [.nils 0,.bf 0 8]),(10,.tup [.d false 0 (D.bool false),.d false 0 (D.ifc 84 (D.int .i64 e2254))]),(11,.d false 0 (D.bool false)),(12,.d false 0 (D.ifc 84 (D.int .i64 e2254)))],[(2,true,[.d true 0 (D.str op),.d true 0 (D.str nm),.d true 0 (D.sl 5 ks),.d true 0 (D.int .i64 p)]),(1152921504606846983,true,[.own false 0 [D.str (ByteArray.mk #[97]),D.str (ByteArray.mk #[98]),D.str (ByteArray.mk #[103,111,97,108])]]),(1152921504606846986,true,[.d false 0 (D.bool false),.d false 0 (D.ifc 84 (D.int .i64 e2254))])]⟩
noncomputable def y0_1 (op:ByteArray) (nm:ByteArray) (ks:List D) (p:Int) (b2355:Bool):S:=⟨Tm.mk 15 [(0,.d true 5 (D.ag [D.str op,D.str nm,D.sl 5 ks,D.int .i64 p])),(1,.rp 2 0),(2,.d false 0 (D.bool false)),(3,.d false 0 (D.bool b2355)),(4,.d false 0 D.nili),(5,.tup [.d false 0 (D.bool b2355),.d false 0 D.nili]),(6,.ag [.d true 0 (D.str op),.d true 0 (D.str nm),.d true 0 (D.sl 5 ks),.d true 0 (D.int .i64 p)]),(7,.bf 1152921504606846983 0),(8,.own false 0 [D.int .i64 0]),(9,.ag [.nils 0,.bf 0 8]),(10,.tup [.d false 0 (D.bool b2355),.d false 0 D.nili]),(11,.d false 0 (D.bool b2355)),(12,.d false 0 D.nili)],[(2,true,[.d true 0 (D.str op),.d true 0 (D.str nm),.d true 0 (D.sl 5 ks),.d true 0 (D.int .i64 p)]),(1152921504606846983,true,[.own false 0 [D.str (ByteArray.mk #[97]),D.str (ByteArray.mk #[98]),D.str (ByteArray.mk #[103,111,97,108])]]),(1152921504606846986,true,[.d false 0 (D.bool b2355),.d false 0 D.nili])]⟩
noncomputable def u0_0 (op:ByteArray) (nm:ByteArray) (ks:List D) (p:Int):List (Nat×V):=[(0,.d true 5 (D.ag [D.str op,D.str nm,D.sl 5 ks,D.int .i64 p])),(1,.rp 2 0),(2,.d false 0 (D.bool false)),(6,.ag [.d true 0 (D.str op),.d true 0 (D.str nm),.d true 0 (D.sl 5 ks),.d true 0 (D.int .i64 p)]),(7,.bf 1152921504606846983 0),(8,.own false 0 [D.int .i64 0]),(9,.ag [.nils 0,.bf 0 8])]
noncomputable def v0_0 (op:ByteArray) (nm:ByteArray) (ks:List D) (p:Int):List (Nat×Bool×List V):=[(2,true,[.d true 0 (D.str op),.d true 0 (D.str nm),.d true 0 (D.sl 5 ks),.d true 0 (D.int .i64 p)]),(1152921504606846983,true,[.own false 0 [D.str (ByteArray.mk #[97]),D.str (ByteArray.mk #[98]),D.str (ByteArray.mk #[103,111,97,108])]])]
noncomputable def z0_2 (op:ByteArray) (nm:ByteArray) (ks:List D) (p:Int):S:=⟨Tm.mk 15 (selT (u0_0 op nm ks p) 1365 []),selR (v0_0 op nm ks p) 5 []⟩
noncomputable def z0_3 (op:ByteArray) (nm:ByteArray) (ks:List D) (p:Int):S:=⟨Tm.mk 15 (selT (u0_0 op nm ks p) 341 []),selR (v0_0 op nm ks p) 5 []⟩
noncomputable def z0_4 (op:ByteArray) (nm:ByteArray) (ks:List D) (p:Int):S:=⟨Tm.mk 15 (selT (u0_0 op nm ks p) 5461 []),selR (v0_0 op nm ks p) 5 []⟩
noncomputable def z0_5 (op:ByteArray) (nm:ByteArray) (ks:List D) (p:Int):S:=⟨Tm.mk 15 (selT (u0_0 op nm ks p) 1109 []),selR (v0_0 op nm ks p) 1 []⟩
def a0_0:List Nat:=[0,1,2,3,4]
def a0_4:List Nat:=[0,1,2,3]
  section
  variable {β:Type} (op:ByteArray) (nm:ByteArray) (ks:List D) (p:Int) (e8:Int) (b14:Bool) (kont1:S→Option β)
noncomputable def t0_0:Option β:=match ofD (D.ag [D.str op,D.str nm,D.sl 5 ks,D.int .i64 p])with
   |some f21=>if bd none f21∧3≤34359738368∧1≤34359738368 then match truthsT Tryz.prog f21 [D.str (ByteArray.mk #[97]),D.str (ByteArray.mk #[98]),D.str (ByteArray.mk #[103,111,97,108])] [] [D.int .i64 0]with
    |some (Sum.inl e22)=>kont1 (y0_0 op nm ks p e22)
    |some (Sum.inr (b23::tail24))=>kont1 (y0_1 op nm ks p b23)
    |x=>none else none
   |none=>none
end
end V19
end Go.Sd
namespace Go.Sc
open Go Go.Cm
def lettS:List D→Option (List D)
 |[]=>some []
 |x::r=>match x with
  |.int .u8 m=>match lettS r with
   |some l=>some (.int .i64 (Int.tmod (IntKind.wrap .i64 m) 8)::l)
   |none=>none
  |_=>none
def loopOf (l:List D):List D:=match l with|[]=>[.int .i64 0]|_=>l
def namesD:List D:=[.str ⟨#[97]⟩,.str ⟨#[98]⟩,.str ⟨#[103,111,97,108]⟩]
noncomputable def holdN (P:Program) (ns:List D) (f:Fm) (st lp:List D):Option (Int ⊕ Bool):=
 match truthsT P f ns st lp with
 |some (.inl e)=>some (.inl e)
 |some (.inr (b::_))=>some (.inr b)
 |_=>none
end Go.Sc
namespace Go.Sd
open Go Go.Cm Go.Proofs Go.Sc
def cTrue {β:Type} (args:List TV) (k:List TV→List TV→Option β):Option β:=
 match args with
 |[]=>k [.d false 0 (.bool true)] []
 |_=>none
def cWordS {β:Type} (args:List TV) (k:List TV→List TV→Option β):Option β:=
 match args with
 |[.d true 0 (.sl 0 a),.d true 0 (.sl 0 b),.d true 0 (.int .i64 3)]=>match lettS (a.take 8),lettS (b.take 8)with
  |some x,some y=>k [.d false 3 (.ag [.sl 0 x,.sl 0 (loopOf y)])] []
  |_,_=>none
 |_=>none
noncomputable def cHoldN {β:Type} (args:List TV) (k:List TV→List TV→Option β):Option β:=
 match args with
 |[.d true 5 x,.d true 0 (.sl 0 ns),.d true 3 (.ag [.sl 0 st,.sl 0 lp])]=>match ofD x with
  |some f=>chkK (bd none f∧ns.length≤big∧st.length+lp.length≤big) (match holdN Tryz.prog ns f st lp with
   |some (.inl e)=>k [.d false 0 (.bool false),.d false 0 (.ifc 84 (.int .i64 e))] []
   |some (.inr b)=>k [.d false 0 (.bool b),.d false 0 .nili] []
   |none=>none)
  |none=>none
 |_=>none
def cFm1 {β:Type} (args:List TV) (k:List TV→List TV→Option β):Option β:=
 match args with
 |[.d true 0 (.str o),.d true 5 x]=>match ofD x with
  |some f=>k [.d true 5 (fmD o ⟨#[]⟩ [f.d] 0)] []
  |none=>none
 |_=>none
end Go.Sd
set_option maxRecDepth 100000
namespace Go.Sd
open Go Go.Cm Go.Proofs Go.Sc
theorem vcHoldN:VC 18 cHoldN:=by
 intro β args k r hr
 change cHoldN args k=some r at hr
 have hbig:big=34359738368:=rfl
 unfold cHoldN at hr
 split at hr
 ·rename_i x ns st lp
  split at hr
  ·rename_i f hf
   obtain⟨⟨h0,h2,h1⟩,hr⟩:=chkK_ok hr
   suffices hh:cHoldsT [.d true 5 x,.d true 0 (.sl 0 ns),.d true 3 (.ag [.sl 0 st,.sl 0 lp])] k=some r from envwv β 18 _ k r hh
   unfold cHoldsT
   simp only[hf]
   unfold chkK
   rw[if_pos ⟨h0,h2,h1⟩]
   unfold holdN at hr
   split at hr
   ·rename_i e he
    split at he
    ·rename_i e' he'
     cases he
     first|(simp only[he'];exact hr)|exact hr
    ·cases he
    ·cases he
   ·rename_i b he
    split at he
    ·cases he
    ·rename_i b' l he'
     cases he
     first|(simp only[he'];exact hr)|exact hr
    ·cases he
   ·cases hr
  ·cases hr
 ·cases hr
end Go.Sd

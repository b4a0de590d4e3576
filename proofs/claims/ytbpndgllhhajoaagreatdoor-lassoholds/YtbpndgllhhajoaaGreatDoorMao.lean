/- The clean machine, part 56: regions of many orders, step by step. -/
import Derived.Test.YtbpndgllhhajoaaGreatDoorMai
import Derived.Test.YtbpndgllhhajoaaGreatDoorMam
import Derived.Test.YtbpndgllhhajoaaGreatDoorMag
set_option linter.unusedVariables false
set_option linter.unusedSimpArgs false
namespace Go.Cm
end Go.Cm
set_option maxRecDepth 100000
namespace Go.Sc
open Go Go.Cm
mutual
def smallF:Fm→Nat→Bool
 |.mk _ _ ks _,n=>match n with|0=>false|n+1=>smallL ks n
def smallL:List Fm→Nat→Bool
 |[],_=>true
 |f::fs,n=>smallF f n&&smallL fs n
end
def toX (b:Option Nat) (x:D):Bool:=match ofD x with|some f=>decide (bd b f)|none=>false
def smallX (b:Option Nat) (x:D) (n:Int):Option Bool:=match ofD x with|some f=>if bd b f∧0≤n∧n≤64 then some (smallF f n.toNat)else none|none=>none
def strsB:List D→Bool
 |[]=>true
 |x::r=>match x with|.str _=>strsB r|_=>false
def atX (ns:List D) (s:ByteArray):Option Int:=if strsB ns=true∧ns.length≤big then idxN s ns 0 else none
open Classical in
noncomputable def formX (b:Option Nat) (x:D) (ns:List D):Option Int:=
 match ofD x with
 |some f=>match f.abs with
  |some t=>if bd b f∧strsB ns=true∧ns.length≤big then some (if t.labs (lbOk ns)then 0 else 30)else none
  |none=>none
 |none=>none
noncomputable def rightX (P:Program) (ns st lp:List D):Option Bool:=if strsB ns=true∧ns.length≤big∧st.length+lp.length≤big then checkS P ns st lp else none
open Classical in
noncomputable def satX (P:Program) (b:Option Nat) (x:D) (ns st lp:List D) (i:Int):Option Bool:=
 match ofD x with
 |some f=>match f.abs with
  |some t=>if bd b f∧strsB ns=true∧checkS P ns st lp=some true∧t.labs (lbOk ns)∧0≤i∧i≤1000 then some (decide (t.sat (lbAt ns (strm st lp)) i.toNat))else none
  |none=>none
 |none=>none
def letD (st lp:List D) (i:Int):Option Int:=if i<st.length then iAt st i else if lp.length=0 then none else iAt lp (Int.tmod (i - st.length) lp.length)
end Go.Sc
namespace Go.Sd
open Go Go.Cm Go.Proofs Go.Sc
def cTo {β:Type} (b:Option Nat) (args:List TV) (k:List TV→List TV→Option β):Option β:=
 match args with
 |[.d true 5 x]=>if toX b x=true then k [.d true 5 x] []else none
 |_=>none
def cSmall {β:Type} (b:Option Nat) (args:List TV) (k:List TV→List TV→Option β):Option β:=
 match args with
 |[.d true 5 x,.d true 0 (.int .i64 n)]=>match smallX b x n with|some v=>k [.d false 0 (.bool v)] []|none=>none
 |_=>none
def cAtN {β:Type} (args:List TV) (k:List TV→List TV→Option β):Option β:=
 match args with
 |[.d true 0 (.sl 0 ns),.d true 0 (.str s)]=>match atX ns s with|some v=>k [.d false 0 (.int .i64 v)] []|none=>none
 |_=>none
noncomputable def cForm {β:Type} (b:Option Nat) (args:List TV) (k:List TV→List TV→Option β):Option β:=
 match args with
 |[.d true 5 x,.d true 0 (.sl 0 ns)]=>match formX b x ns with|some v=>k [.d false 0 (.int .i64 v)] []|none=>none
 |_=>none
noncomputable def cRightX {β:Type} (args:List TV) (k:List TV→List TV→Option β):Option β:=
 match args with
 |[.d true 0 (.sl 0 ns),.d true 3 (.ag [.sl 0 st,.sl 0 lp])]=>match rightX Tryz.prog ns st lp with|some v=>k [.d false 0 (.bool v)] []|none=>none
 |_=>none
noncomputable def cSat {β:Type} (b:Option Nat) (args:List TV) (k:List TV→List TV→Option β):Option β:=
 match args with
 |[.d true 5 x,.d true 0 (.sl 0 ns),.d true 3 (.ag [.sl 0 st,.sl 0 lp]),.d true 0 (.int .i64 i)]=>match satX Tryz.prog b x ns st lp i with|some v=>k [.d false 0 (.bool v)] []|none=>none
 |_=>none
def cLetD {β:Type} (args:List TV) (k:List TV→List TV→Option β):Option β:=
 match args with
 |[.d true 3 (.ag [.sl 0 st,.sl 0 lp]),.d true 0 (.int .i64 i)]=>match letD st lp i with
  |some m=>chkK (0≤i∧i≤9223372036854775807∧st.length+lp.length≤big) (k [.d false 0 (.int .i64 m)] [])
  |none=>none
 |_=>none
def WTo (b:Option Nat):Env:=Env.none.add 11 io0 (cTo b)
def WSm (b:Option Nat):Env:=Env.none.add 12 io0 (cSmall b)
def WAt:Env:=Env.none.add 47 io0 cAtN
noncomputable def WFo (b:Option Nat):Env:=WAt.add 15 io0 (cForm b)
def WLt:Env:=Env.none.add 27 io0 cLetD
noncomputable def WSa (b:Option Nat):Env:=((Env.none.add 47 io0 cAtN).add 27 io0 cLetD).add 17 io0 (cSat b)
end Go.Sd
namespace Go.Sd
open Go Go.Cm Go.Sc Go.Proofs
theorem strs_of:∀(xs:List D),(∀x∈xs,x.shape=Sc.str.sh∧Fits .str x.cells)→strsB xs=true
 |[],_=>rfl
 |x::xs,h=>by
  obtain⟨hs,hf⟩:=h x (.head _)
  obtain⟨s,e,_⟩:=hf.of_str hs
  subst e
  exact strs_of xs fun y hy=>h y (.tail _ hy)
end Go.Sd
namespace Go.Sd
open Go Go.Cm Go.Proofs Go.Sc
set_option maxRecDepth 100000
namespace K11
  section
  variable (b:Option Nat)
noncomputable def X:Fx:=⟨Tryz.prog,WTo b,4,1⟩
noncomputable def s0 (op:ByteArray) (nm:ByteArray) (ks:List D) (p:Int) (x55:Int) (x56:List D) (x57:Bool):S:=⟨Tm.mk 31 [(1,.rp 2 0),(2,.rp 3 0),(3,.rp 4 0),(4,.d false 0 (D.int .i64 x55))],[(2,true,[.d true 0 (D.str op),.d true 0 (D.str nm),.d true 0 (D.sl 5 ks),.d true 0 (D.int .i64 p)]),(3,true,[.d false 0 (D.str (ByteArray.mk #[])),.d false 0 (D.str (ByteArray.mk #[])),.own false 5 [],.d false 0 (D.int .i64 0)]),(4,true,[.d true 0 (D.str op),.d true 0 (D.str nm),.own x57 5 x56,.d true 0 (D.int .i64 p)])]⟩
noncomputable def e0x0 (op:ByteArray) (nm:ByteArray) (p:Int) (x111:List D) (x112:Bool):S:=⟨Tm.mk 31 [(2,.rp 3 0),(3,.rp 4 0)],[(3,true,[.d false 0 (D.str (ByteArray.mk #[])),.d false 0 (D.str (ByteArray.mk #[])),.own false 5 [],.d false 0 (D.int .i64 0)]),(4,true,[.d true 0 (D.str op),.d true 0 (D.str nm),.own x112 5 x111,.d true 0 (D.int .i64 p)])]⟩
noncomputable abbrev L0:S→Option (S ⊕ (Ex×S)):=roundK (X b) [(0,12)] (sub [1,1,0,1,0,0] (body Tryz.f11))
theorem start {β:Type} (op:ByteArray) (nm:ByteArray) (ks:List D) (p:Int) (k:List TV→List TV→Option β):evalF Tryz.prog (WTo b) Tryz.f11 [.d true 5 (D.ag [D.str op,D.str nm,D.sl 5 ks,D.int .i64 p])] k=goLp (X b) [(0,12)] (sub [1,1,0,1,0,0] (body Tryz.f11)) [Kf.block 0 12,Kf.seq [] (sub [1,1,1] (body Tryz.f11)) 4] (finK Tryz.prog Tryz.f11 [.d true 5 (D.ag [D.str op,D.str nm,D.sl 5 ks,D.int .i64 p])] k) (s0 op nm ks p (0:Int) [] false):=by kernel_rfl
theorem round0_0 (op:ByteArray) (nm:ByteArray) (ks:List D) (p:Int) (x52:Int) (x53:List D) (x54:Bool):roundK (X b) [(0,12)] (sub [1,1,0,1,0,0] (body Tryz.f11)) (s0 op nm ks p x52 x53 x54)=if decide (x52<(ks.length:Int))=true then if 0≤x52 then match ks[x52.toNat]? with
   |some x120=>match x120 with
    |D.ag xs121=>match xs121 with
     |x122::r123=>match x122 with
      |D.str s124=>match r123 with
       |x125::r126=>match x125 with
        |D.str s127=>match r126 with
         |x128::r129=>match x128 with
          |D.sl sh130 xs131=>if sh130=5 then match r129 with
           |x132::r133=>match x132 with
            |D.int j134 m135=>if j134=IntKind.i64 then match r133 with
             |[]=>if toX b (D.ag [D.str s124,D.str s127,D.sl 5 xs131,D.int .i64 m135])=true then if x53.length+1≤34359738368 then some (Sum.inl (s0 op nm ks p (IntKind.wrap .i64 (x52+1)) (x53++[D.ag [D.str s124,D.str s127,D.sl 5 xs131,D.int .i64 m135]]) (x54||true)))else none else none
             |x=>none else none
            |x=>none
           |[]=>none else none
          |x=>none
         |[]=>none
        |x=>none
       |[]=>none
      |x=>none
     |[]=>none
    |x=>none
   |none=>none else none else some (Sum.inr (Ex.exit 0,e0x0 op nm p x53 x54)):=by kernel_rfl
theorem behind0x0 {β:Type} (ks:List D) (op:ByteArray) (nm:ByteArray) (p:Int) (x111:List D) (x112:Bool) (k:List TV→List TV→Option β):applyK (X b) (finK Tryz.prog Tryz.f11 [.d true 5 (D.ag [D.str op,D.str nm,D.sl 5 ks,D.int .i64 p])] k) [Kf.block 0 12,Kf.seq [] (sub [1,1,1] (body Tryz.f11)) 4] (Ex.exit 0) (e0x0 op nm p x111 x112)=k [.d true 5 (D.ag [D.str op,D.str nm,D.sl 5 x111,D.int .i64 p])] []:=by kernel_rfl
end
end K11
namespace K12
  section
  variable (b:Option Nat)
noncomputable def X:Fx:=⟨Tryz.prog,WSm b,16,2⟩
noncomputable def s0 (op:ByteArray) (nm:ByteArray) (ks:List D) (p:Int) (n:Int) (x60:Int):S:=⟨Tm.mk 24 [(1,.d true 0 (D.int .i64 n)),(2,.rp 3 0),(5,.d false 0 (D.int .i64 x60))],[(3,true,[.d true 0 (D.str op),.d true 0 (D.str nm),.d true 0 (D.sl 5 ks),.d true 0 (D.int .i64 p)])]⟩
noncomputable def e0r:S:=⟨Tm.mk 24 [(4,.d false 0 (D.bool false))],[]⟩
noncomputable def e0x0:S:=⟨Tm.mk 24 [],[]⟩
noncomputable abbrev L0:S→Option (S ⊕ (Ex×S)):=roundK (X b) [(0,0)] (sub [1,1,0,1,0,0] (body Tryz.f12))
theorem start {β:Type} (op:ByteArray) (nm:ByteArray) (ks:List D) (p:Int) (n:Int) (k:List TV→List TV→Option β):evalF Tryz.prog (WSm b) Tryz.f12 [.d true 5 (D.ag [D.str op,D.str nm,D.sl 5 ks,D.int .i64 p]),.d true 0 (D.int .i64 n)] k=if(n==0)=true then k [.d false 0 (D.bool false)] []else goLp (X b) [(0,0)] (sub [1,1,0,1,0,0] (body Tryz.f12)) [Kf.block 0 0,Kf.seq [] (sub [1,1,1] (body Tryz.f12)) 16] (finK Tryz.prog Tryz.f12 [.d true 5 (D.ag [D.str op,D.str nm,D.sl 5 ks,D.int .i64 p]),.d true 0 (D.int .i64 n)] k) (s0 op nm ks p n (0:Int)):=by kernel_rfl
theorem round0_0 (op:ByteArray) (nm:ByteArray) (ks:List D) (p:Int) (n:Int) (x59:Int):roundK (X b) [(0,0)] (sub [1,1,0,1,0,0] (body Tryz.f12)) (s0 op nm ks p n x59)=if decide (x59<(ks.length:Int))=true then if 0≤x59 then match ks[x59.toNat]? with
   |some x70=>match x70 with
    |D.ag xs71=>match xs71 with
     |x72::r73=>match x72 with
      |D.str s74=>match r73 with
       |x75::r76=>match x75 with
        |D.str s77=>match r76 with
         |x78::r79=>match x78 with
          |D.sl sh80 xs81=>if sh80=5 then match r79 with
           |x82::r83=>match x82 with
            |D.int j84 m85=>if j84=IntKind.i64 then match r83 with
             |[]=>match smallX b (D.ag [D.str s74,D.str s77,D.sl 5 xs81,D.int .i64 m85]) (IntKind.wrap .i64 (n - 1))with
              |some v87=>if(!v87)=true then some (Sum.inr (Ex.ret,e0r))else some (Sum.inl (s0 op nm ks p n (IntKind.wrap .i64 (x59+1))))
              |none=>none
             |x=>none else none
            |x=>none
           |[]=>none else none
          |x=>none
         |[]=>none
        |x=>none
       |[]=>none
      |x=>none
     |[]=>none
    |x=>none
   |none=>none else none else some (Sum.inr (Ex.exit 0,e0x0)):=by kernel_rfl
theorem behind0r {β:Type} (op:ByteArray) (nm:ByteArray) (ks:List D) (p:Int) (n:Int) (k:List TV→List TV→Option β):applyK (X b) (finK Tryz.prog Tryz.f12 [.d true 5 (D.ag [D.str op,D.str nm,D.sl 5 ks,D.int .i64 p]),.d true 0 (D.int .i64 n)] k) [Kf.block 0 0,Kf.seq [] (sub [1,1,1] (body Tryz.f12)) 16] Ex.ret e0r=k [.d false 0 (D.bool false)] []:=by kernel_rfl
theorem behind0x0 {β:Type} (op:ByteArray) (nm:ByteArray) (ks:List D) (p:Int) (n:Int) (k:List TV→List TV→Option β):applyK (X b) (finK Tryz.prog Tryz.f12 [.d true 5 (D.ag [D.str op,D.str nm,D.sl 5 ks,D.int .i64 p]),.d true 0 (D.int .i64 n)] k) [Kf.block 0 0,Kf.seq [] (sub [1,1,1] (body Tryz.f12)) 16] (Ex.exit 0) e0x0=k [.d false 0 (D.bool true)] []:=by kernel_rfl
end
end K12
namespace K15
  section
  variable (b:Option Nat)
noncomputable def X:Fx:=⟨Tryz.prog,WFo b,16,2⟩
noncomputable def s0 (op:ByteArray) (nm:ByteArray) (ks:List D) (p:Int) (ns:List D) (x20:Int) (x108:Int):S:=⟨Tm.mk 70 [(1,.d true 0 (D.sl 0 ns)),(2,.rp 3 0),(5,.d false 0 (D.int .i64 x20)),(6,.d false 0 (D.int .i64 x108))],[(3,true,[.d true 0 (D.str op),.d true 0 (D.str nm),.d true 0 (D.sl 5 ks),.d true 0 (D.int .i64 p)])]⟩
noncomputable def s1 (op:ByteArray) (nm:ByteArray) (ks:List D) (p:Int) (ns:List D) (x19:Int) (x268:Int):S:=⟨Tm.mk 70 [(1,.d true 0 (D.sl 0 ns)),(2,.rp 3 0),(5,.d false 0 (D.int .i64 x19)),(7,.d false 0 (D.int .i64 x268))],[(3,true,[.d true 0 (D.str op),.d true 0 (D.str nm),.d true 0 (D.sl 5 ks),.d true 0 (D.int .i64 p)])]⟩
noncomputable def e0r:S:=⟨Tm.mk 70 [(4,.d false 0 (D.int .i64 1))],[]⟩
noncomputable def e0x1 (op:ByteArray) (nm:ByteArray) (ks:List D) (p:Int) (ns:List D) (x19:Int):S:=⟨Tm.mk 70 [(1,.d true 0 (D.sl 0 ns)),(2,.rp 3 0),(5,.d false 0 (D.int .i64 x19))],[(3,true,[.d true 0 (D.str op),.d true 0 (D.str nm),.d true 0 (D.sl 5 ks),.d true 0 (D.int .i64 p)])]⟩
noncomputable def e1r (x434:Int):S:=⟨Tm.mk 70 [(4,.d false 0 (D.int .i64 x434))],[]⟩
noncomputable def e1x3 (op:ByteArray) (nm:ByteArray) (ks:List D) (p:Int) (ns:List D):S:=⟨Tm.mk 70 [(1,.d true 0 (D.sl 0 ns)),(2,.rp 3 0)],[(3,true,[.d true 0 (D.str op),.d true 0 (D.str nm),.d true 0 (D.sl 5 ks),.d true 0 (D.int .i64 p)])]⟩
noncomputable def j0 (op:ByteArray) (nm:ByteArray) (ks:List D) (p:Int) (ns:List D) (x37:Bool):S:=⟨Tm.mk 70 [(1,.d true 0 (D.sl 0 ns)),(2,.rp 3 0),(5,.d false 0 (D.int .i64 (-1:Int))),(20,.d false 0 (D.bool x37))],[(3,true,[.d true 0 (D.str op),.d true 0 (D.str nm),.d true 0 (D.sl 5 ks),.d true 0 (D.int .i64 p)])]⟩
noncomputable def j1 (op:ByteArray) (nm:ByteArray) (ks:List D) (p:Int) (ns:List D) (x47:Bool):S:=⟨Tm.mk 70 [(1,.d true 0 (D.sl 0 ns)),(2,.rp 3 0),(5,.d false 0 (D.int .i64 (-1:Int))),(10,.d true 0 (D.str op)),(15,.d false 0 (D.bool x47))],[(3,true,[.d true 0 (D.str op),.d true 0 (D.str nm),.d true 0 (D.sl 5 ks),.d true 0 (D.int .i64 p)])]⟩
noncomputable def j2 (op:ByteArray) (nm:ByteArray) (ks:List D) (p:Int) (ns:List D) (x52:Bool):S:=⟨Tm.mk 70 [(1,.d true 0 (D.sl 0 ns)),(2,.rp 3 0),(5,.d false 0 (D.int .i64 (-1:Int))),(10,.d true 0 (D.str op)),(11,.d false 0 (D.bool x52))],[(3,true,[.d true 0 (D.str op),.d true 0 (D.str nm),.d true 0 (D.sl 5 ks),.d true 0 (D.int .i64 p)])]⟩
noncomputable abbrev L0:S→Option (S ⊕ (Ex×S)):=roundK (X b) [(1,38)] (sub [1,1,1,1,0,1,0,0] (body Tryz.f15))
noncomputable abbrev L1:S→Option (S ⊕ (Ex×S)):=roundK (X b) [(3,6)] (sub [1,1,1,1,1,0,1,0,0] (body Tryz.f15))
noncomputable abbrev G0 {β:Type} (op:ByteArray) (nm:ByteArray) (ks:List D) (p:Int) (ns:List D) (k:List TV→List TV→Option β):S→Option β:=goLp (X b) [(1,38)] (sub [1,1,1,1,0,1,0,0] (body Tryz.f15)) [Kf.block 1 38,Kf.seq [] (sub [1,1,1,1,1] (body Tryz.f15)) 16] (finK Tryz.prog Tryz.f15 [.d true 5 (D.ag [D.str op,D.str nm,D.sl 5 ks,D.int .i64 p]),.d true 0 (D.sl 0 ns)] k)
noncomputable abbrev G1 {β:Type} (op:ByteArray) (nm:ByteArray) (ks:List D) (p:Int) (ns:List D) (k:List TV→List TV→Option β):S→Option β:=goLp (X b) [(3,6)] (sub [1,1,1,1,1,0,1,0,0] (body Tryz.f15)) [Kf.block 3 6,Kf.seq [] (sub [1,1,1,1,1,1] (body Tryz.f15)) 16] (finK Tryz.prog Tryz.f15 [.d true 5 (D.ag [D.str op,D.str nm,D.sl 5 ks,D.int .i64 p]),.d true 0 (D.sl 0 ns)] k)
noncomputable abbrev J0 {β:Type} (op:ByteArray) (nm:ByteArray) (ks:List D) (p:Int) (ns:List D) (k:List TV→List TV→Option β):S→Option β:=applyK (X b) (finK Tryz.prog Tryz.f15 [.d true 5 (D.ag [D.str op,D.str nm,D.sl 5 ks,D.int .i64 p]),.d true 0 (D.sl 0 ns)] k) [Kf.seq [(0,38)] (sub [1,1,0,1,0,1,1,1,1,1] (body Tryz.f15)) 38,Kf.cond 38,Kf.cond 38,Kf.block 0 38,Kf.seq [] (sub [1,1,1] (body Tryz.f15)) 16] Ex.norm
noncomputable abbrev J1 {β:Type} (op:ByteArray) (nm:ByteArray) (ks:List D) (p:Int) (ns:List D) (k:List TV→List TV→Option β):S→Option β:=applyK (X b) (finK Tryz.prog Tryz.f15 [.d true 5 (D.ag [D.str op,D.str nm,D.sl 5 ks,D.int .i64 p]),.d true 0 (D.sl 0 ns)] k) [Kf.seq [(0,38)] (sub [1,1,0,1,0,1,1,1] (body Tryz.f15)) 38,Kf.cond 38,Kf.block 0 38,Kf.seq [] (sub [1,1,1] (body Tryz.f15)) 16] Ex.norm
noncomputable abbrev J2 {β:Type} (op:ByteArray) (nm:ByteArray) (ks:List D) (p:Int) (ns:List D) (k:List TV→List TV→Option β):S→Option β:=applyK (X b) (finK Tryz.prog Tryz.f15 [.d true 5 (D.ag [D.str op,D.str nm,D.sl 5 ks,D.int .i64 p]),.d true 0 (D.sl 0 ns)] k) [Kf.seq [(0,38)] (sub [1,1,0,1,0,1] (body Tryz.f15)) 38,Kf.block 0 38,Kf.seq [] (sub [1,1,1] (body Tryz.f15)) 16] Ex.norm
theorem start {β:Type} (op:ByteArray) (nm:ByteArray) (ks:List D) (p:Int) (ns:List D) (k:List TV→List TV→Option β):evalF Tryz.prog (WFo b) Tryz.f15 [.d true 5 (D.ag [D.str op,D.str nm,D.sl 5 ks,D.int .i64 p]),.d true 0 (D.sl 0 ns)] k=if(op.toList==[116,114,117,101])=true then J2 b op nm ks p ns k (j2 op nm ks p ns (op.toList==[116,114,117,101]))else if(op.toList==[102,97,108,115,101])=true then J2 b op nm ks p ns k (j2 op nm ks p ns (op.toList==[102,97,108,115,101]))else J2 b op nm ks p ns k (j2 op nm ks p ns (op.toList==[108,97,98,101,108])):=by kernel_rfl
theorem round0_0 (op:ByteArray) (nm:ByteArray) (ks:List D) (p:Int) (ns:List D) (x19:Int) (x107:Int):roundK (X b) [(1,38)] (sub [1,1,1,1,0,1,0,0] (body Tryz.f15)) (s0 op nm ks p ns x19 x107)=if decide (x107<x19)=true then if 0≤x107 then match ks[x107.toNat]? with
   |some x494=>match x494 with
    |D.ag xs495=>match xs495 with
     |x496::r497=>match x496 with
      |D.str s498=>match r497 with
       |x499::r500=>match x499 with
        |D.str s501=>match r500 with
         |x502::r503=>match x502 with
          |D.sl sh504 xs505=>if sh504=5 then match r503 with
           |x506::r507=>match x506 with
            |D.int j508 m509=>if j508=IntKind.i64 then match r507 with
             |[]=>match formX b (D.ag [D.str s498,D.str s501,D.sl 5 xs505,D.int .i64 m509]) ns with
              |some v511=>if(v511==1)=true then some (Sum.inr (Ex.ret,e0r))else some (Sum.inl (s0 op nm ks p ns x19 (IntKind.wrap .i64 (x107+1))))
              |none=>none
             |x=>none else none
            |x=>none
           |[]=>none else none
          |x=>none
         |[]=>none
        |x=>none
       |[]=>none
      |x=>none
     |[]=>none
    |x=>none
   |none=>none else none else some (Sum.inr (Ex.exit 1,e0x1 op nm ks p ns x19)):=by kernel_rfl
theorem round1_0 (op:ByteArray) (nm:ByteArray) (ks:List D) (p:Int) (ns:List D) (x19:Int) (x267:Int):roundK (X b) [(3,6)] (sub [1,1,1,1,1,0,1,0,0] (body Tryz.f15)) (s1 op nm ks p ns x19 x267)=if decide (x267<x19)=true then if 0≤x267 then match ks[x267.toNat]? with
   |some x548=>match x548 with
    |D.ag xs549=>match xs549 with
     |x550::r551=>match x550 with
      |D.str s552=>match r551 with
       |x553::r554=>match x553 with
        |D.str s555=>match r554 with
         |x556::r557=>match x556 with
          |D.sl sh558 xs559=>if sh558=5 then match r557 with
           |x560::r561=>match x560 with
            |D.int j562 m563=>if j562=IntKind.i64 then match r561 with
             |[]=>match formX b (D.ag [D.str s552,D.str s555,D.sl 5 xs559,D.int .i64 m563]) ns with
              |some v565=>if(!v565==0)=true then some (Sum.inr (Ex.ret,e1r v565))else some (Sum.inl (s1 op nm ks p ns x19 (IntKind.wrap .i64 (x267+1))))
              |none=>none
             |x=>none else none
            |x=>none
           |[]=>none else none
          |x=>none
         |[]=>none
        |x=>none
       |[]=>none
      |x=>none
     |[]=>none
    |x=>none
   |none=>none else none else some (Sum.inr (Ex.exit 3,e1x3 op nm ks p ns)):=by kernel_rfl
theorem behind0x1 {β:Type} (op:ByteArray) (nm:ByteArray) (ks:List D) (p:Int) (ns:List D) (x19:Int) (k:List TV→List TV→Option β) (s__:S) (h__:Lp (L0 b) s__=some (Ex.exit 1,e0x1 op nm ks p ns x19)):G0 b op nm ks p ns k s__=G1 b op nm ks p ns k (s1 op nm ks p ns x19 (0:Int)):=(goLp_of h__).trans (by kernel_rfl)
theorem behind1r {β:Type} (op:ByteArray) (nm:ByteArray) (ks:List D) (p:Int) (ns:List D) (x434:Int) (k:List TV→List TV→Option β) (s__:S) (h__:Lp (L1 b) s__=some (Ex.ret,e1r x434)):G1 b op nm ks p ns k s__=k [.d false 0 (D.int .i64 x434)] []:=(goLp_of h__).trans (by kernel_rfl)
theorem behind1x3 {β:Type} (op:ByteArray) (nm:ByteArray) (ks:List D) (p:Int) (ns:List D) (k:List TV→List TV→Option β) (s__:S) (h__:Lp (L1 b) s__=some (Ex.exit 3,e1x3 op nm ks p ns)):G1 b op nm ks p ns k s__=if(op.toList==[108,97,98,101,108])=true then match atX ns nm with
   |some v602=>if decide (v602<0)=true then k [.d false 0 (D.int .i64 30)] []else k [.d false 0 (D.int .i64 0)] []
   |none=>none else k [.d false 0 (D.int .i64 0)] []:=(goLp_of h__).trans (by kernel_rfl)
theorem j0_eq {β:Type} (op:ByteArray) (nm:ByteArray) (ks:List D) (p:Int) (ns:List D) (x37:Bool) (k:List TV→List TV→Option β):J0 b op nm ks p ns k (j0 op nm ks p ns x37)=if x37=true then if(!(2:Int)==(ks.length:Int))=true then k [.d false 0 (D.int .i64 1)] []else G0 b op nm ks p ns k (s0 op nm ks p ns (2:Int) (0:Int))else if(!(-1:Int)==(ks.length:Int))=true then k [.d false 0 (D.int .i64 1)] []else G0 b op nm ks p ns k (s0 op nm ks p ns (-1:Int) (0:Int)):=by kernel_rfl
theorem j1_eq {β:Type} (op:ByteArray) (nm:ByteArray) (ks:List D) (p:Int) (ns:List D) (x47:Bool) (k:List TV→List TV→Option β):J1 b op nm ks p ns k (j1 op nm ks p ns x47)=if x47=true then if(!(1:Int)==(ks.length:Int))=true then k [.d false 0 (D.int .i64 1)] []else G0 b op nm ks p ns k (s0 op nm ks p ns (1:Int) (0:Int))else if(op.toList==[38])=true then J0 b op nm ks p ns k (j0 op nm ks p ns (op.toList==[38]))else if(op.toList==[124])=true then J0 b op nm ks p ns k (j0 op nm ks p ns (op.toList==[124]))else if(op.toList==[61,62])=true then J0 b op nm ks p ns k (j0 op nm ks p ns (op.toList==[61,62]))else if(op.toList==[85])=true then J0 b op nm ks p ns k (j0 op nm ks p ns (op.toList==[85]))else if(op.toList==[87])=true then J0 b op nm ks p ns k (j0 op nm ks p ns (op.toList==[87]))else J0 b op nm ks p ns k (j0 op nm ks p ns (op.toList==[82])):=by kernel_rfl
theorem j2_eq {β:Type} (op:ByteArray) (nm:ByteArray) (ks:List D) (p:Int) (ns:List D) (x52:Bool) (k:List TV→List TV→Option β):J2 b op nm ks p ns k (j2 op nm ks p ns x52)=if x52=true then if(!(0:Int)==(ks.length:Int))=true then k [.d false 0 (D.int .i64 1)] []else G0 b op nm ks p ns k (s0 op nm ks p ns (0:Int) (0:Int))else if(op.toList==[33])=true then J1 b op nm ks p ns k (j1 op nm ks p ns (op.toList==[33]))else if(op.toList==[88])=true then J1 b op nm ks p ns k (j1 op nm ks p ns (op.toList==[88]))else if(op.toList==[70])=true then J1 b op nm ks p ns k (j1 op nm ks p ns (op.toList==[70]))else J1 b op nm ks p ns k (j1 op nm ks p ns (op.toList==[71])):=by kernel_rfl
end
end K15
namespace K17
  section
  variable (b:Option Nat)
noncomputable def X:Fx:=⟨Tryz.prog,WSa b,256,4⟩
noncomputable def s0 (x202:Int) (x203:Int):S:=⟨Tm.mk 238 [(10,.d false 0 (D.int .i64 x202)),(11,.d false 0 (D.int .i64 x203))],[]⟩
noncomputable def s1 (op:ByteArray) (nm:ByteArray) (ks:List D) (p:Int) (ns:List D) (st:List D) (lp:List D) (x368:Bool) (x369:Int) (x448:Int):S:=⟨Tm.mk 238 [(1,.d true 0 (D.sl 0 ns)),(3,.d x368 0 (D.int .i64 x369)),(4,.rp 5 0),(6,.rp 7 0),(9,.d false 0 (D.int .i64 (IntKind.wrap .i64 ((st.length:Int)+(lp.length:Int))))),(12,.d false 0 (D.int .i64 x448))],[(5,true,[.d true 0 (D.str op),.d true 0 (D.str nm),.d true 0 (D.sl 5 ks),.d true 0 (D.int .i64 p)]),(7,true,[.d true 0 (D.sl 0 st),.d true 0 (D.sl 0 lp)])]⟩
noncomputable def s2 (op:ByteArray) (nm:ByteArray) (ks:List D) (p:Int) (ns:List D) (st:List D) (lp:List D) (x375:Bool) (x376:Int) (x504:Int):S:=⟨Tm.mk 238 [(1,.d true 0 (D.sl 0 ns)),(3,.d x375 0 (D.int .i64 x376)),(4,.rp 5 0),(6,.rp 7 0),(9,.d false 0 (D.int .i64 (IntKind.wrap .i64 ((st.length:Int)+(lp.length:Int))))),(13,.d false 0 (D.int .i64 x504))],[(5,true,[.d true 0 (D.str op),.d true 0 (D.str nm),.d true 0 (D.sl 5 ks),.d true 0 (D.int .i64 p)]),(7,true,[.d true 0 (D.sl 0 st),.d true 0 (D.sl 0 lp)])]⟩
noncomputable def s3 (op:ByteArray) (nm:ByteArray) (ks:List D) (p:Int) (ns:List D) (st:List D) (lp:List D) (x382:Bool) (x383:Int) (x612:Int):S:=⟨Tm.mk 238 [(1,.d true 0 (D.sl 0 ns)),(3,.d x382 0 (D.int .i64 x383)),(4,.rp 5 0),(6,.rp 7 0),(9,.d false 0 (D.int .i64 (IntKind.wrap .i64 ((st.length:Int)+(lp.length:Int))))),(14,.d false 0 (D.int .i64 x612))],[(5,true,[.d true 0 (D.str op),.d true 0 (D.str nm),.d true 0 (D.sl 5 ks),.d true 0 (D.int .i64 p)]),(7,true,[.d true 0 (D.sl 0 st),.d true 0 (D.sl 0 lp)])]⟩
noncomputable def s4 (op:ByteArray) (nm:ByteArray) (ks:List D) (p:Int) (ns:List D) (st:List D) (lp:List D) (x387:Bool) (x388:Int) (x720:Int):S:=⟨Tm.mk 238 [(1,.d true 0 (D.sl 0 ns)),(3,.d x387 0 (D.int .i64 x388)),(4,.rp 5 0),(6,.rp 7 0),(9,.d false 0 (D.int .i64 (IntKind.wrap .i64 ((st.length:Int)+(lp.length:Int))))),(15,.d false 0 (D.int .i64 x720))],[(5,true,[.d true 0 (D.str op),.d true 0 (D.str nm),.d true 0 (D.sl 5 ks),.d true 0 (D.int .i64 p)]),(7,true,[.d true 0 (D.sl 0 st),.d true 0 (D.sl 0 lp)])]⟩
noncomputable def e0x1 (x200:Int):S:=⟨Tm.mk 238 [(10,.d false 0 (D.int .i64 x200))],[]⟩
noncomputable def e1r:S:=⟨Tm.mk 238 [(8,.d false 0 (D.bool true))],[]⟩
noncomputable def e1x3:S:=⟨Tm.mk 238 [],[]⟩
noncomputable def e2r:S:=⟨Tm.mk 238 [(8,.d false 0 (D.bool false))],[]⟩
noncomputable def e2x5:S:=⟨Tm.mk 238 [],[]⟩
noncomputable def e3r (x610:Bool):S:=⟨Tm.mk 238 [(8,.d false 0 (D.bool x610))],[]⟩
noncomputable def e3x7:S:=⟨Tm.mk 238 [],[]⟩
noncomputable def e4r (x718:Bool):S:=⟨Tm.mk 238 [(8,.d false 0 (D.bool x718))],[]⟩
noncomputable def e4x9 (op:ByteArray) (nm:ByteArray) (ks:List D) (p:Int):S:=⟨Tm.mk 238 [(4,.rp 5 0)],[(5,true,[.d true 0 (D.str op),.d true 0 (D.str nm),.d true 0 (D.sl 5 ks),.d true 0 (D.int .i64 p)])]⟩
noncomputable abbrev L0:S→Option (S ⊕ (Ex×S)):=roundK (X b) [(1,1024),(0,602)] (sub [1,1,1,0,1,0,1,1,1,1,1,0,1,0,1,0,0] (body Tryz.f17))
noncomputable abbrev L1:S→Option (S ⊕ (Ex×S)):=roundK (X b) [(3,0),(0,602)] (sub [1,1,1,0,1,0,1,1,1,1,1,1,1,1,1,1,1,1,1,1,1,1,1,0,0,1,0,0] (body Tryz.f17))
noncomputable abbrev L2:S→Option (S ⊕ (Ex×S)):=roundK (X b) [(5,0),(0,602)] (sub [1,1,1,0,1,0,1,1,1,1,1,1,1,1,1,1,1,1,1,1,1,1,1,1,1,0,0,1,0,0] (body Tryz.f17))
noncomputable abbrev L3:S→Option (S ⊕ (Ex×S)):=roundK (X b) [(7,0),(0,602)] (sub [1,1,1,0,1,0,1,1,1,1,1,1,1,1,1,1,1,1,1,1,1,1,1,1,1,1,1,0,0,1,0,0] (body Tryz.f17))
noncomputable abbrev L4:S→Option (S ⊕ (Ex×S)):=roundK (X b) [(9,16)] (sub [1,1,1,1,0,1,0,0] (body Tryz.f17))
noncomputable abbrev G0 {β:Type} (op:ByteArray) (nm:ByteArray) (ks:List D) (p:Int) (ns:List D) (st:List D) (lp:List D) (i:Int) (k:List TV→List TV→Option β):S→Option β:=goLp (X b) [(1,1024),(0,602)] (sub [1,1,1,0,1,0,1,1,1,1,1,0,1,0,1,0,0] (body Tryz.f17)) [Kf.block 1 1024,Kf.seq [(0,602)] (sub [1,1,1,0,1,0,1,1,1,1,1,0,1,1] (body Tryz.f17)) 602,Kf.cond 602,Kf.cond 602,Kf.cond 602,Kf.block 0 602,Kf.seq [] (sub [1,1,1,1] (body Tryz.f17)) 256] (finK Tryz.prog Tryz.f17 [.d true 5 (D.ag [D.str op,D.str nm,D.sl 5 ks,D.int .i64 p]),.d true 0 (D.sl 0 ns),.d true 3 (D.ag [D.sl 0 st,D.sl 0 lp]),.d true 0 (D.int .i64 i)] k)
noncomputable abbrev G1 {β:Type} (op:ByteArray) (nm:ByteArray) (ks:List D) (p:Int) (ns:List D) (st:List D) (lp:List D) (i:Int) (k:List TV→List TV→Option β):S→Option β:=goLp (X b) [(3,0),(0,602)] (sub [1,1,1,0,1,0,1,1,1,1,1,1,1,1,1,1,1,1,1,1,1,1,1,0,0,1,0,0] (body Tryz.f17)) [Kf.block 3 0,Kf.seq [(0,602)] (sub [1,1,1,0,1,0,1,1,1,1,1,1,1,1,1,1,1,1,1,1,1,1,1,0,1] (body Tryz.f17)) 602,Kf.cond 602,Kf.cond 602,Kf.cond 602,Kf.cond 602,Kf.cond 602,Kf.cond 602,Kf.cond 602,Kf.cond 602,Kf.cond 602,Kf.block 0 602,Kf.seq [] (sub [1,1,1,1] (body Tryz.f17)) 256] (finK Tryz.prog Tryz.f17 [.d true 5 (D.ag [D.str op,D.str nm,D.sl 5 ks,D.int .i64 p]),.d true 0 (D.sl 0 ns),.d true 3 (D.ag [D.sl 0 st,D.sl 0 lp]),.d true 0 (D.int .i64 i)] k)
noncomputable abbrev G2 {β:Type} (op:ByteArray) (nm:ByteArray) (ks:List D) (p:Int) (ns:List D) (st:List D) (lp:List D) (i:Int) (k:List TV→List TV→Option β):S→Option β:=goLp (X b) [(5,0),(0,602)] (sub [1,1,1,0,1,0,1,1,1,1,1,1,1,1,1,1,1,1,1,1,1,1,1,1,1,0,0,1,0,0] (body Tryz.f17)) [Kf.block 5 0,Kf.seq [(0,602)] (sub [1,1,1,0,1,0,1,1,1,1,1,1,1,1,1,1,1,1,1,1,1,1,1,1,1,0,1] (body Tryz.f17)) 602,Kf.cond 602,Kf.cond 602,Kf.cond 602,Kf.cond 602,Kf.cond 602,Kf.cond 602,Kf.cond 602,Kf.cond 602,Kf.cond 602,Kf.cond 602,Kf.block 0 602,Kf.seq [] (sub [1,1,1,1] (body Tryz.f17)) 256] (finK Tryz.prog Tryz.f17 [.d true 5 (D.ag [D.str op,D.str nm,D.sl 5 ks,D.int .i64 p]),.d true 0 (D.sl 0 ns),.d true 3 (D.ag [D.sl 0 st,D.sl 0 lp]),.d true 0 (D.int .i64 i)] k)
noncomputable abbrev G3 {β:Type} (op:ByteArray) (nm:ByteArray) (ks:List D) (p:Int) (ns:List D) (st:List D) (lp:List D) (i:Int) (k:List TV→List TV→Option β):S→Option β:=goLp (X b) [(7,0),(0,602)] (sub [1,1,1,0,1,0,1,1,1,1,1,1,1,1,1,1,1,1,1,1,1,1,1,1,1,1,1,0,0,1,0,0] (body Tryz.f17)) [Kf.block 7 0,Kf.seq [(0,602)] (sub [1,1,1,0,1,0,1,1,1,1,1,1,1,1,1,1,1,1,1,1,1,1,1,1,1,1,1,0,1] (body Tryz.f17)) 602,Kf.cond 602,Kf.cond 602,Kf.cond 602,Kf.cond 602,Kf.cond 602,Kf.cond 602,Kf.cond 602,Kf.cond 602,Kf.cond 602,Kf.cond 602,Kf.cond 602,Kf.block 0 602,Kf.seq [] (sub [1,1,1,1] (body Tryz.f17)) 256] (finK Tryz.prog Tryz.f17 [.d true 5 (D.ag [D.str op,D.str nm,D.sl 5 ks,D.int .i64 p]),.d true 0 (D.sl 0 ns),.d true 3 (D.ag [D.sl 0 st,D.sl 0 lp]),.d true 0 (D.int .i64 i)] k)
noncomputable abbrev G4 {β:Type} (op:ByteArray) (nm:ByteArray) (ks:List D) (p:Int) (ns:List D) (st:List D) (lp:List D) (i:Int) (k:List TV→List TV→Option β):S→Option β:=goLp (X b) [(9,16)] (sub [1,1,1,1,0,1,0,0] (body Tryz.f17)) [Kf.block 9 16,Kf.seq [] (sub [1,1,1,1,1] (body Tryz.f17)) 256] (finK Tryz.prog Tryz.f17 [.d true 5 (D.ag [D.str op,D.str nm,D.sl 5 ks,D.int .i64 p]),.d true 0 (D.sl 0 ns),.d true 3 (D.ag [D.sl 0 st,D.sl 0 lp]),.d true 0 (D.int .i64 i)] k)
theorem start {β:Type} (op:ByteArray) (nm:ByteArray) (ks:List D) (p:Int) (ns:List D) (st:List D) (lp:List D) (i:Int) (k:List TV→List TV→Option β):evalF Tryz.prog (WSa b) Tryz.f17 [.d true 5 (D.ag [D.str op,D.str nm,D.sl 5 ks,D.int .i64 p]),.d true 0 (D.sl 0 ns),.d true 3 (D.ag [D.sl 0 st,D.sl 0 lp]),.d true 0 (D.int .i64 i)] k=if decide (i≥IntKind.wrap .i64 ((st.length:Int)+(lp.length:Int)))=true then if(lp.length:Int)≠(0:Int)then if(op.toList==[116,114,117,101])=true then k [.d false 0 (D.bool true)] []else if(op.toList==[102,97,108,115,101])=true then k [.d false 0 (D.bool false)] []else if(op.toList==[108,97,98,101,108])=true then match letD st lp (IntKind.wrap .i64 ((st.length:Int)+Int.tmod (IntKind.wrap .i64 (i - (st.length:Int))) (lp.length:Int)))with
   |some m741=>if 0≤IntKind.wrap .i64 ((st.length:Int)+Int.tmod (IntKind.wrap .i64 (i - (st.length:Int))) (lp.length:Int))∧IntKind.wrap .i64 ((st.length:Int)+Int.tmod (IntKind.wrap .i64 (i - (st.length:Int))) (lp.length:Int))≤9223372036854775807∧st.length+lp.length≤34359738368 then match atX ns nm with
    |some v743=>G0 b op nm ks p ns st lp i k (s0 m741 v743)
    |none=>none else none
   |none=>none else if(op.toList==[33])=true then match ks[0]? with
    |some x747=>match x747 with
     |D.ag xs748=>match xs748 with
      |x749::r750=>match x749 with
       |D.str s751=>match r750 with
        |x752::r753=>match x752 with
         |D.str s754=>match r753 with
          |x755::r756=>match x755 with
           |D.sl sh757 xs758=>if sh757=5 then match r756 with
            |x759::r760=>match x759 with
             |D.int j761 m762=>if j761=IntKind.i64 then match r760 with
              |[]=>match satX Tryz.prog b (D.ag [D.str s751,D.str s754,D.sl 5 xs758,D.int .i64 m762]) ns st lp (IntKind.wrap .i64 ((st.length:Int)+Int.tmod (IntKind.wrap .i64 (i - (st.length:Int))) (lp.length:Int)))with
               |some v764=>k [.d false 0 (D.bool !v764)] []
               |none=>none
              |x=>none else none
             |x=>none
            |[]=>none else none
           |x=>none
          |[]=>none
         |x=>none
        |[]=>none
       |x=>none
      |[]=>none
     |x=>none
    |none=>none else if(op.toList==[38])=true then match ks[0]? with
     |some x768=>match x768 with
      |D.ag xs769=>match xs769 with
       |x770::r771=>match x770 with
        |D.str s772=>match r771 with
         |x773::r774=>match x773 with
          |D.str s775=>match r774 with
           |x776::r777=>match x776 with
            |D.sl sh778 xs779=>if sh778=5 then match r777 with
             |x780::r781=>match x780 with
              |D.int j782 m783=>if j782=IntKind.i64 then match r781 with
               |[]=>match satX Tryz.prog b (D.ag [D.str s772,D.str s775,D.sl 5 xs779,D.int .i64 m783]) ns st lp (IntKind.wrap .i64 ((st.length:Int)+Int.tmod (IntKind.wrap .i64 (i - (st.length:Int))) (lp.length:Int)))with
                |some v785=>if v785=true then match ks[1]? with
                 |some x786=>match x786 with
                  |D.ag xs787=>match xs787 with
                   |x788::r789=>match x788 with
                    |D.str s790=>match r789 with
                     |x791::r792=>match x791 with
                      |D.str s793=>match r792 with
                       |x794::r795=>match x794 with
                        |D.sl sh796 xs797=>if sh796=5 then match r795 with
                         |x798::r799=>match x798 with
                          |D.int j800 m801=>if j800=IntKind.i64 then match r799 with
                           |[]=>match satX Tryz.prog b (D.ag [D.str s790,D.str s793,D.sl 5 xs797,D.int .i64 m801]) ns st lp (IntKind.wrap .i64 ((st.length:Int)+Int.tmod (IntKind.wrap .i64 (i - (st.length:Int))) (lp.length:Int)))with
                            |some v803=>k [.d false 0 (D.bool v803)] []
                            |none=>none
                           |x=>none else none
                          |x=>none
                         |[]=>none else none
                        |x=>none
                       |[]=>none
                      |x=>none
                     |[]=>none
                    |x=>none
                   |[]=>none
                  |x=>none
                 |none=>none else k [.d false 0 (D.bool false)] []
                |none=>none
               |x=>none else none
              |x=>none
             |[]=>none else none
            |x=>none
           |[]=>none
          |x=>none
         |[]=>none
        |x=>none
       |[]=>none
      |x=>none
     |none=>none else if(op.toList==[124])=true then match ks[0]? with
      |some x807=>match x807 with
       |D.ag xs808=>match xs808 with
        |x809::r810=>match x809 with
         |D.str s811=>match r810 with
          |x812::r813=>match x812 with
           |D.str s814=>match r813 with
            |x815::r816=>match x815 with
             |D.sl sh817 xs818=>if sh817=5 then match r816 with
              |x819::r820=>match x819 with
               |D.int j821 m822=>if j821=IntKind.i64 then match r820 with
                |[]=>match satX Tryz.prog b (D.ag [D.str s811,D.str s814,D.sl 5 xs818,D.int .i64 m822]) ns st lp (IntKind.wrap .i64 ((st.length:Int)+Int.tmod (IntKind.wrap .i64 (i - (st.length:Int))) (lp.length:Int)))with
                 |some v824=>if v824=true then k [.d false 0 (D.bool true)] []else match ks[1]? with
                  |some x825=>match x825 with
                   |D.ag xs826=>match xs826 with
                    |x827::r828=>match x827 with
                     |D.str s829=>match r828 with
                      |x830::r831=>match x830 with
                       |D.str s832=>match r831 with
                        |x833::r834=>match x833 with
                         |D.sl sh835 xs836=>if sh835=5 then match r834 with
                          |x837::r838=>match x837 with
                           |D.int j839 m840=>if j839=IntKind.i64 then match r838 with
                            |[]=>match satX Tryz.prog b (D.ag [D.str s829,D.str s832,D.sl 5 xs836,D.int .i64 m840]) ns st lp (IntKind.wrap .i64 ((st.length:Int)+Int.tmod (IntKind.wrap .i64 (i - (st.length:Int))) (lp.length:Int)))with
                             |some v842=>k [.d false 0 (D.bool v842)] []
                             |none=>none
                            |x=>none else none
                           |x=>none
                          |[]=>none else none
                         |x=>none
                        |[]=>none
                       |x=>none
                      |[]=>none
                     |x=>none
                    |[]=>none
                   |x=>none
                  |none=>none
                 |none=>none
                |x=>none else none
               |x=>none
              |[]=>none else none
             |x=>none
            |[]=>none
           |x=>none
          |[]=>none
         |x=>none
        |[]=>none
       |x=>none
      |none=>none else if(op.toList==[61,62])=true then match ks[0]? with
       |some x846=>match x846 with
        |D.ag xs847=>match xs847 with
         |x848::r849=>match x848 with
          |D.str s850=>match r849 with
           |x851::r852=>match x851 with
            |D.str s853=>match r852 with
             |x854::r855=>match x854 with
              |D.sl sh856 xs857=>if sh856=5 then match r855 with
               |x858::r859=>match x858 with
                |D.int j860 m861=>if j860=IntKind.i64 then match r859 with
                 |[]=>match satX Tryz.prog b (D.ag [D.str s850,D.str s853,D.sl 5 xs857,D.int .i64 m861]) ns st lp (IntKind.wrap .i64 ((st.length:Int)+Int.tmod (IntKind.wrap .i64 (i - (st.length:Int))) (lp.length:Int)))with
                  |some v863=>if(!v863)=true then k [.d false 0 (D.bool true)] []else match ks[1]? with
                   |some x864=>match x864 with
                    |D.ag xs865=>match xs865 with
                     |x866::r867=>match x866 with
                      |D.str s868=>match r867 with
                       |x869::r870=>match x869 with
                        |D.str s871=>match r870 with
                         |x872::r873=>match x872 with
                          |D.sl sh874 xs875=>if sh874=5 then match r873 with
                           |x876::r877=>match x876 with
                            |D.int j878 m879=>if j878=IntKind.i64 then match r877 with
                             |[]=>match satX Tryz.prog b (D.ag [D.str s868,D.str s871,D.sl 5 xs875,D.int .i64 m879]) ns st lp (IntKind.wrap .i64 ((st.length:Int)+Int.tmod (IntKind.wrap .i64 (i - (st.length:Int))) (lp.length:Int)))with
                              |some v881=>k [.d false 0 (D.bool v881)] []
                              |none=>none
                             |x=>none else none
                            |x=>none
                           |[]=>none else none
                          |x=>none
                         |[]=>none
                        |x=>none
                       |[]=>none
                      |x=>none
                     |[]=>none
                    |x=>none
                   |none=>none
                  |none=>none
                 |x=>none else none
                |x=>none
               |[]=>none else none
              |x=>none
             |[]=>none
            |x=>none
           |[]=>none
          |x=>none
         |[]=>none
        |x=>none
       |none=>none else if(op.toList==[88])=true then match ks[0]? with
        |some x885=>match x885 with
         |D.ag xs886=>match xs886 with
          |x887::r888=>match x887 with
           |D.str s889=>match r888 with
            |x890::r891=>match x890 with
             |D.str s892=>match r891 with
              |x893::r894=>match x893 with
               |D.sl sh895 xs896=>if sh895=5 then match r894 with
                |x897::r898=>match x897 with
                 |D.int j899 m900=>if j899=IntKind.i64 then match r898 with
                  |[]=>match satX Tryz.prog b (D.ag [D.str s889,D.str s892,D.sl 5 xs896,D.int .i64 m900]) ns st lp (IntKind.wrap .i64 (IntKind.wrap .i64 ((st.length:Int)+Int.tmod (IntKind.wrap .i64 (i - (st.length:Int))) (lp.length:Int))+1))with
                   |some v902=>k [.d false 0 (D.bool v902)] []
                   |none=>none
                  |x=>none else none
                 |x=>none
                |[]=>none else none
               |x=>none
              |[]=>none
             |x=>none
            |[]=>none
           |x=>none
          |[]=>none
         |x=>none
        |none=>none else if(op.toList==[70])=true then G1 b op nm ks p ns st lp i k (s1 op nm ks p ns st lp false (IntKind.wrap .i64 ((st.length:Int)+Int.tmod (IntKind.wrap .i64 (i - (st.length:Int))) (lp.length:Int))) (0:Int))else if(op.toList==[71])=true then G2 b op nm ks p ns st lp i k (s2 op nm ks p ns st lp false (IntKind.wrap .i64 ((st.length:Int)+Int.tmod (IntKind.wrap .i64 (i - (st.length:Int))) (lp.length:Int))) (0:Int))else if(op.toList==[82])=true then G3 b op nm ks p ns st lp i k (s3 op nm ks p ns st lp false (IntKind.wrap .i64 ((st.length:Int)+Int.tmod (IntKind.wrap .i64 (i - (st.length:Int))) (lp.length:Int))) (0:Int))else G4 b op nm ks p ns st lp i k (s4 op nm ks p ns st lp false (IntKind.wrap .i64 ((st.length:Int)+Int.tmod (IntKind.wrap .i64 (i - (st.length:Int))) (lp.length:Int))) (0:Int))else none else if(op.toList==[116,114,117,101])=true then k [.d false 0 (D.bool true)] []else if(op.toList==[102,97,108,115,101])=true then k [.d false 0 (D.bool false)] []else if(op.toList==[108,97,98,101,108])=true then match letD st lp i with
   |some m923=>if 0≤i∧i≤9223372036854775807∧st.length+lp.length≤34359738368 then match atX ns nm with
    |some v925=>G0 b op nm ks p ns st lp i k (s0 m923 v925)
    |none=>none else none
   |none=>none else if(op.toList==[33])=true then match ks[0]? with
    |some x929=>match x929 with
     |D.ag xs930=>match xs930 with
      |x931::r932=>match x931 with
       |D.str s933=>match r932 with
        |x934::r935=>match x934 with
         |D.str s936=>match r935 with
          |x937::r938=>match x937 with
           |D.sl sh939 xs940=>if sh939=5 then match r938 with
            |x941::r942=>match x941 with
             |D.int j943 m944=>if j943=IntKind.i64 then match r942 with
              |[]=>match satX Tryz.prog b (D.ag [D.str s933,D.str s936,D.sl 5 xs940,D.int .i64 m944]) ns st lp i with
               |some v946=>k [.d false 0 (D.bool !v946)] []
               |none=>none
              |x=>none else none
             |x=>none
            |[]=>none else none
           |x=>none
          |[]=>none
         |x=>none
        |[]=>none
       |x=>none
      |[]=>none
     |x=>none
    |none=>none else if(op.toList==[38])=true then match ks[0]? with
     |some x950=>match x950 with
      |D.ag xs951=>match xs951 with
       |x952::r953=>match x952 with
        |D.str s954=>match r953 with
         |x955::r956=>match x955 with
          |D.str s957=>match r956 with
           |x958::r959=>match x958 with
            |D.sl sh960 xs961=>if sh960=5 then match r959 with
             |x962::r963=>match x962 with
              |D.int j964 m965=>if j964=IntKind.i64 then match r963 with
               |[]=>match satX Tryz.prog b (D.ag [D.str s954,D.str s957,D.sl 5 xs961,D.int .i64 m965]) ns st lp i with
                |some v967=>if v967=true then match ks[1]? with
                 |some x968=>match x968 with
                  |D.ag xs969=>match xs969 with
                   |x970::r971=>match x970 with
                    |D.str s972=>match r971 with
                     |x973::r974=>match x973 with
                      |D.str s975=>match r974 with
                       |x976::r977=>match x976 with
                        |D.sl sh978 xs979=>if sh978=5 then match r977 with
                         |x980::r981=>match x980 with
                          |D.int j982 m983=>if j982=IntKind.i64 then match r981 with
                           |[]=>match satX Tryz.prog b (D.ag [D.str s972,D.str s975,D.sl 5 xs979,D.int .i64 m983]) ns st lp i with
                            |some v985=>k [.d false 0 (D.bool v985)] []
                            |none=>none
                           |x=>none else none
                          |x=>none
                         |[]=>none else none
                        |x=>none
                       |[]=>none
                      |x=>none
                     |[]=>none
                    |x=>none
                   |[]=>none
                  |x=>none
                 |none=>none else k [.d false 0 (D.bool false)] []
                |none=>none
               |x=>none else none
              |x=>none
             |[]=>none else none
            |x=>none
           |[]=>none
          |x=>none
         |[]=>none
        |x=>none
       |[]=>none
      |x=>none
     |none=>none else if(op.toList==[124])=true then match ks[0]? with
      |some x989=>match x989 with
       |D.ag xs990=>match xs990 with
        |x991::r992=>match x991 with
         |D.str s993=>match r992 with
          |x994::r995=>match x994 with
           |D.str s996=>match r995 with
            |x997::r998=>match x997 with
             |D.sl sh999 xs1000=>if sh999=5 then match r998 with
              |x1001::r1002=>match x1001 with
               |D.int j1003 m1004=>if j1003=IntKind.i64 then match r1002 with
                |[]=>match satX Tryz.prog b (D.ag [D.str s993,D.str s996,D.sl 5 xs1000,D.int .i64 m1004]) ns st lp i with
                 |some v1006=>if v1006=true then k [.d false 0 (D.bool true)] []else match ks[1]? with
                  |some x1007=>match x1007 with
                   |D.ag xs1008=>match xs1008 with
                    |x1009::r1010=>match x1009 with
                     |D.str s1011=>match r1010 with
                      |x1012::r1013=>match x1012 with
                       |D.str s1014=>match r1013 with
                        |x1015::r1016=>match x1015 with
                         |D.sl sh1017 xs1018=>if sh1017=5 then match r1016 with
                          |x1019::r1020=>match x1019 with
                           |D.int j1021 m1022=>if j1021=IntKind.i64 then match r1020 with
                            |[]=>match satX Tryz.prog b (D.ag [D.str s1011,D.str s1014,D.sl 5 xs1018,D.int .i64 m1022]) ns st lp i with
                             |some v1024=>k [.d false 0 (D.bool v1024)] []
                             |none=>none
                            |x=>none else none
                           |x=>none
                          |[]=>none else none
                         |x=>none
                        |[]=>none
                       |x=>none
                      |[]=>none
                     |x=>none
                    |[]=>none
                   |x=>none
                  |none=>none
                 |none=>none
                |x=>none else none
               |x=>none
              |[]=>none else none
             |x=>none
            |[]=>none
           |x=>none
          |[]=>none
         |x=>none
        |[]=>none
       |x=>none
      |none=>none else if(op.toList==[61,62])=true then match ks[0]? with
       |some x1028=>match x1028 with
        |D.ag xs1029=>match xs1029 with
         |x1030::r1031=>match x1030 with
          |D.str s1032=>match r1031 with
           |x1033::r1034=>match x1033 with
            |D.str s1035=>match r1034 with
             |x1036::r1037=>match x1036 with
              |D.sl sh1038 xs1039=>if sh1038=5 then match r1037 with
               |x1040::r1041=>match x1040 with
                |D.int j1042 m1043=>if j1042=IntKind.i64 then match r1041 with
                 |[]=>match satX Tryz.prog b (D.ag [D.str s1032,D.str s1035,D.sl 5 xs1039,D.int .i64 m1043]) ns st lp i with
                  |some v1045=>if(!v1045)=true then k [.d false 0 (D.bool true)] []else match ks[1]? with
                   |some x1046=>match x1046 with
                    |D.ag xs1047=>match xs1047 with
                     |x1048::r1049=>match x1048 with
                      |D.str s1050=>match r1049 with
                       |x1051::r1052=>match x1051 with
                        |D.str s1053=>match r1052 with
                         |x1054::r1055=>match x1054 with
                          |D.sl sh1056 xs1057=>if sh1056=5 then match r1055 with
                           |x1058::r1059=>match x1058 with
                            |D.int j1060 m1061=>if j1060=IntKind.i64 then match r1059 with
                             |[]=>match satX Tryz.prog b (D.ag [D.str s1050,D.str s1053,D.sl 5 xs1057,D.int .i64 m1061]) ns st lp i with
                              |some v1063=>k [.d false 0 (D.bool v1063)] []
                              |none=>none
                             |x=>none else none
                            |x=>none
                           |[]=>none else none
                          |x=>none
                         |[]=>none
                        |x=>none
                       |[]=>none
                      |x=>none
                     |[]=>none
                    |x=>none
                   |none=>none
                  |none=>none
                 |x=>none else none
                |x=>none
               |[]=>none else none
              |x=>none
             |[]=>none
            |x=>none
           |[]=>none
          |x=>none
         |[]=>none
        |x=>none
       |none=>none else if(op.toList==[88])=true then match ks[0]? with
        |some x1067=>match x1067 with
         |D.ag xs1068=>match xs1068 with
          |x1069::r1070=>match x1069 with
           |D.str s1071=>match r1070 with
            |x1072::r1073=>match x1072 with
             |D.str s1074=>match r1073 with
              |x1075::r1076=>match x1075 with
               |D.sl sh1077 xs1078=>if sh1077=5 then match r1076 with
                |x1079::r1080=>match x1079 with
                 |D.int j1081 m1082=>if j1081=IntKind.i64 then match r1080 with
                  |[]=>match satX Tryz.prog b (D.ag [D.str s1071,D.str s1074,D.sl 5 xs1078,D.int .i64 m1082]) ns st lp (IntKind.wrap .i64 (i+1))with
                   |some v1084=>k [.d false 0 (D.bool v1084)] []
                   |none=>none
                  |x=>none else none
                 |x=>none
                |[]=>none else none
               |x=>none
              |[]=>none
             |x=>none
            |[]=>none
           |x=>none
          |[]=>none
         |x=>none
        |none=>none else if(op.toList==[70])=true then G1 b op nm ks p ns st lp i k (s1 op nm ks p ns st lp true i (0:Int))else if(op.toList==[71])=true then G2 b op nm ks p ns st lp i k (s2 op nm ks p ns st lp true i (0:Int))else if(op.toList==[82])=true then G3 b op nm ks p ns st lp i k (s3 op nm ks p ns st lp true i (0:Int))else G4 b op nm ks p ns st lp i k (s4 op nm ks p ns st lp true i (0:Int)):=by kernel_rfl
theorem round0_0 (x200:Int) (x201:Int):roundK (X b) [(1,1024),(0,602)] (sub [1,1,1,0,1,0,1,1,1,1,1,0,1,0,1,0,0] (body Tryz.f17)) (s0 x200 x201)=if decide (x201>0)=true then some (Sum.inl (s0 (IntKind.wrap .i64 (Int.tdiv x200 (2:Int))) (IntKind.wrap .i64 (x201 - 1))))else some (Sum.inr (Ex.exit 1,e0x1 x200)):=by kernel_rfl
theorem round1_0 (op:ByteArray) (nm:ByteArray) (ks:List D) (p:Int) (ns:List D) (st:List D) (lp:List D) (x366:Bool) (x367:Int) (x447:Int):roundK (X b) [(3,0),(0,602)] (sub [1,1,1,0,1,0,1,1,1,1,1,1,1,1,1,1,1,1,1,1,1,1,1,0,0,1,0,0] (body Tryz.f17)) (s1 op nm ks p ns st lp x366 x367 x447)=if decide (x447<IntKind.wrap .i64 ((st.length:Int)+(lp.length:Int)))=true then match ks[0]? with
   |some x1102=>match x1102 with
    |D.ag xs1103=>match xs1103 with
     |x1104::r1105=>match x1104 with
      |D.str s1106=>match r1105 with
       |x1107::r1108=>match x1107 with
        |D.str s1109=>match r1108 with
         |x1110::r1111=>match x1110 with
          |D.sl sh1112 xs1113=>if sh1112=5 then match r1111 with
           |x1114::r1115=>match x1114 with
            |D.int j1116 m1117=>if j1116=IntKind.i64 then match r1115 with
             |[]=>match satX Tryz.prog b (D.ag [D.str s1106,D.str s1109,D.sl 5 xs1113,D.int .i64 m1117]) ns st lp (IntKind.wrap .i64 (x367+x447))with
              |some v1119=>if v1119=true then some (Sum.inr (Ex.ret,e1r))else some (Sum.inl (s1 op nm ks p ns st lp x366 x367 (IntKind.wrap .i64 (x447+1))))
              |none=>none
             |x=>none else none
            |x=>none
           |[]=>none else none
          |x=>none
         |[]=>none
        |x=>none
       |[]=>none
      |x=>none
     |[]=>none
    |x=>none
   |none=>none else some (Sum.inr (Ex.exit 3,e1x3)):=by kernel_rfl
theorem round2_0 (op:ByteArray) (nm:ByteArray) (ks:List D) (p:Int) (ns:List D) (st:List D) (lp:List D) (x373:Bool) (x374:Int) (x503:Int):roundK (X b) [(5,0),(0,602)] (sub [1,1,1,0,1,0,1,1,1,1,1,1,1,1,1,1,1,1,1,1,1,1,1,1,1,0,0,1,0,0] (body Tryz.f17)) (s2 op nm ks p ns st lp x373 x374 x503)=if decide (x503<IntKind.wrap .i64 ((st.length:Int)+(lp.length:Int)))=true then match ks[0]? with
   |some x1156=>match x1156 with
    |D.ag xs1157=>match xs1157 with
     |x1158::r1159=>match x1158 with
      |D.str s1160=>match r1159 with
       |x1161::r1162=>match x1161 with
        |D.str s1163=>match r1162 with
         |x1164::r1165=>match x1164 with
          |D.sl sh1166 xs1167=>if sh1166=5 then match r1165 with
           |x1168::r1169=>match x1168 with
            |D.int j1170 m1171=>if j1170=IntKind.i64 then match r1169 with
             |[]=>match satX Tryz.prog b (D.ag [D.str s1160,D.str s1163,D.sl 5 xs1167,D.int .i64 m1171]) ns st lp (IntKind.wrap .i64 (x374+x503))with
              |some v1173=>if(!v1173)=true then some (Sum.inr (Ex.ret,e2r))else some (Sum.inl (s2 op nm ks p ns st lp x373 x374 (IntKind.wrap .i64 (x503+1))))
              |none=>none
             |x=>none else none
            |x=>none
           |[]=>none else none
          |x=>none
         |[]=>none
        |x=>none
       |[]=>none
      |x=>none
     |[]=>none
    |x=>none
   |none=>none else some (Sum.inr (Ex.exit 5,e2x5)):=by kernel_rfl
theorem round3_0 (op:ByteArray) (nm:ByteArray) (ks:List D) (p:Int) (ns:List D) (st:List D) (lp:List D) (x380:Bool) (x381:Int) (x611:Int):roundK (X b) [(7,0),(0,602)] (sub [1,1,1,0,1,0,1,1,1,1,1,1,1,1,1,1,1,1,1,1,1,1,1,1,1,1,1,0,0,1,0,0] (body Tryz.f17)) (s3 op nm ks p ns st lp x380 x381 x611)=if decide (x611<IntKind.wrap .i64 ((st.length:Int)+(lp.length:Int)))=true then match ks[1]? with
   |some x1210=>match x1210 with
    |D.ag xs1211=>match xs1211 with
     |x1212::r1213=>match x1212 with
      |D.str s1214=>match r1213 with
       |x1215::r1216=>match x1215 with
        |D.str s1217=>match r1216 with
         |x1218::r1219=>match x1218 with
          |D.sl sh1220 xs1221=>if sh1220=5 then match r1219 with
           |x1222::r1223=>match x1222 with
            |D.int j1224 m1225=>if j1224=IntKind.i64 then match r1223 with
             |[]=>match satX Tryz.prog b (D.ag [D.str s1214,D.str s1217,D.sl 5 xs1221,D.int .i64 m1225]) ns st lp (IntKind.wrap .i64 (x381+x611))with
              |some v1227=>if(!v1227)=true then some (Sum.inr (Ex.ret,e3r false))else match ks[0]? with
               |some x1231=>match x1231 with
                |D.ag xs1232=>match xs1232 with
                 |x1233::r1234=>match x1233 with
                  |D.str s1235=>match r1234 with
                   |x1236::r1237=>match x1236 with
                    |D.str s1238=>match r1237 with
                     |x1239::r1240=>match x1239 with
                      |D.sl sh1241 xs1242=>if sh1241=5 then match r1240 with
                       |x1243::r1244=>match x1243 with
                        |D.int j1245 m1246=>if j1245=IntKind.i64 then match r1244 with
                         |[]=>match satX Tryz.prog b (D.ag [D.str s1235,D.str s1238,D.sl 5 xs1242,D.int .i64 m1246]) ns st lp (IntKind.wrap .i64 (x381+x611))with
                          |some v1248=>if v1248=true then some (Sum.inr (Ex.ret,e3r true))else some (Sum.inl (s3 op nm ks p ns st lp x380 x381 (IntKind.wrap .i64 (x611+1))))
                          |none=>none
                         |x=>none else none
                        |x=>none
                       |[]=>none else none
                      |x=>none
                     |[]=>none
                    |x=>none
                   |[]=>none
                  |x=>none
                 |[]=>none
                |x=>none
               |none=>none
              |none=>none
             |x=>none else none
            |x=>none
           |[]=>none else none
          |x=>none
         |[]=>none
        |x=>none
       |[]=>none
      |x=>none
     |[]=>none
    |x=>none
   |none=>none else some (Sum.inr (Ex.exit 7,e3x7)):=by kernel_rfl
theorem round4_0 (op:ByteArray) (nm:ByteArray) (ks:List D) (p:Int) (ns:List D) (st:List D) (lp:List D) (x385:Bool) (x386:Int) (x719:Int):roundK (X b) [(9,16)] (sub [1,1,1,1,0,1,0,0] (body Tryz.f17)) (s4 op nm ks p ns st lp x385 x386 x719)=if decide (x719<IntKind.wrap .i64 ((st.length:Int)+(lp.length:Int)))=true then match ks[1]? with
   |some x1315=>match x1315 with
    |D.ag xs1316=>match xs1316 with
     |x1317::r1318=>match x1317 with
      |D.str s1319=>match r1318 with
       |x1320::r1321=>match x1320 with
        |D.str s1322=>match r1321 with
         |x1323::r1324=>match x1323 with
          |D.sl sh1325 xs1326=>if sh1325=5 then match r1324 with
           |x1327::r1328=>match x1327 with
            |D.int j1329 m1330=>if j1329=IntKind.i64 then match r1328 with
             |[]=>match satX Tryz.prog b (D.ag [D.str s1319,D.str s1322,D.sl 5 xs1326,D.int .i64 m1330]) ns st lp (IntKind.wrap .i64 (x386+x719))with
              |some v1332=>if v1332=true then some (Sum.inr (Ex.ret,e4r true))else match ks[0]? with
               |some x1336=>match x1336 with
                |D.ag xs1337=>match xs1337 with
                 |x1338::r1339=>match x1338 with
                  |D.str s1340=>match r1339 with
                   |x1341::r1342=>match x1341 with
                    |D.str s1343=>match r1342 with
                     |x1344::r1345=>match x1344 with
                      |D.sl sh1346 xs1347=>if sh1346=5 then match r1345 with
                       |x1348::r1349=>match x1348 with
                        |D.int j1350 m1351=>if j1350=IntKind.i64 then match r1349 with
                         |[]=>match satX Tryz.prog b (D.ag [D.str s1340,D.str s1343,D.sl 5 xs1347,D.int .i64 m1351]) ns st lp (IntKind.wrap .i64 (x386+x719))with
                          |some v1353=>if(!v1353)=true then some (Sum.inr (Ex.ret,e4r false))else some (Sum.inl (s4 op nm ks p ns st lp x385 x386 (IntKind.wrap .i64 (x719+1))))
                          |none=>none
                         |x=>none else none
                        |x=>none
                       |[]=>none else none
                      |x=>none
                     |[]=>none
                    |x=>none
                   |[]=>none
                  |x=>none
                 |[]=>none
                |x=>none
               |none=>none
              |none=>none
             |x=>none else none
            |x=>none
           |[]=>none else none
          |x=>none
         |[]=>none
        |x=>none
       |[]=>none
      |x=>none
     |[]=>none
    |x=>none
   |none=>none else some (Sum.inr (Ex.exit 9,e4x9 op nm ks p)):=by kernel_rfl
theorem behind0x1 {β:Type} (op:ByteArray) (nm:ByteArray) (ks:List D) (p:Int) (ns:List D) (st:List D) (lp:List D) (i:Int) (x200:Int) (k:List TV→List TV→Option β) (s__:S) (h__:Lp (L0 b) s__=some (Ex.exit 1,e0x1 x200)):G0 b op nm ks p ns st lp i k s__=k [.d false 0 (D.bool (Int.tmod x200 (2:Int)==1))] []:=(goLp_of h__).trans (by kernel_rfl)
theorem behind1r {β:Type} (op:ByteArray) (nm:ByteArray) (ks:List D) (p:Int) (ns:List D) (st:List D) (lp:List D) (i:Int) (k:List TV→List TV→Option β) (s__:S) (h__:Lp (L1 b) s__=some (Ex.ret,e1r)):G1 b op nm ks p ns st lp i k s__=k [.d false 0 (D.bool true)] []:=(goLp_of h__).trans (by kernel_rfl)
theorem behind1x3 {β:Type} (op:ByteArray) (nm:ByteArray) (ks:List D) (p:Int) (ns:List D) (st:List D) (lp:List D) (i:Int) (k:List TV→List TV→Option β) (s__:S) (h__:Lp (L1 b) s__=some (Ex.exit 3,e1x3)):G1 b op nm ks p ns st lp i k s__=k [.d false 0 (D.bool false)] []:=(goLp_of h__).trans (by kernel_rfl)
theorem behind2r {β:Type} (op:ByteArray) (nm:ByteArray) (ks:List D) (p:Int) (ns:List D) (st:List D) (lp:List D) (i:Int) (k:List TV→List TV→Option β) (s__:S) (h__:Lp (L2 b) s__=some (Ex.ret,e2r)):G2 b op nm ks p ns st lp i k s__=k [.d false 0 (D.bool false)] []:=(goLp_of h__).trans (by kernel_rfl)
theorem behind2x5 {β:Type} (op:ByteArray) (nm:ByteArray) (ks:List D) (p:Int) (ns:List D) (st:List D) (lp:List D) (i:Int) (k:List TV→List TV→Option β) (s__:S) (h__:Lp (L2 b) s__=some (Ex.exit 5,e2x5)):G2 b op nm ks p ns st lp i k s__=k [.d false 0 (D.bool true)] []:=(goLp_of h__).trans (by kernel_rfl)
theorem behind3r {β:Type} (op:ByteArray) (nm:ByteArray) (ks:List D) (p:Int) (ns:List D) (st:List D) (lp:List D) (i:Int) (x610:Bool) (k:List TV→List TV→Option β) (s__:S) (h__:Lp (L3 b) s__=some (Ex.ret,e3r x610)):G3 b op nm ks p ns st lp i k s__=k [.d false 0 (D.bool x610)] []:=(goLp_of h__).trans (by kernel_rfl)
theorem behind3x7 {β:Type} (op:ByteArray) (nm:ByteArray) (ks:List D) (p:Int) (ns:List D) (st:List D) (lp:List D) (i:Int) (k:List TV→List TV→Option β) (s__:S) (h__:Lp (L3 b) s__=some (Ex.exit 7,e3x7)):G3 b op nm ks p ns st lp i k s__=k [.d false 0 (D.bool true)] []:=(goLp_of h__).trans (by kernel_rfl)
theorem behind4r {β:Type} (op:ByteArray) (nm:ByteArray) (ks:List D) (p:Int) (ns:List D) (st:List D) (lp:List D) (i:Int) (x718:Bool) (k:List TV→List TV→Option β) (s__:S) (h__:Lp (L4 b) s__=some (Ex.ret,e4r x718)):G4 b op nm ks p ns st lp i k s__=k [.d false 0 (D.bool x718)] []:=(goLp_of h__).trans (by kernel_rfl)
theorem behind4x9 {β:Type} (ns:List D) (st:List D) (lp:List D) (i:Int) (op:ByteArray) (nm:ByteArray) (ks:List D) (p:Int) (k:List TV→List TV→Option β) (s__:S) (h__:Lp (L4 b) s__=some (Ex.exit 9,e4x9 op nm ks p)):G4 b op nm ks p ns st lp i k s__=k [.d false 0 (D.bool (op.toList==[87]))] []:=(goLp_of h__).trans (by kernel_rfl)
end
end K17
end Go.Sd
set_option maxRecDepth 100000
namespace Go.Sd
open Go Go.Cm Go.Proofs Go.Sc
theorem toX_d {b:Option Nat} {f:Fm} (h:bd b f):toX b f.d=true:=by unfold toX;rw[ofD_d];simp[h]
theorem toX_some {b:Option Nat} {x:D} (h:toX b x=true):∃f,ofD x=some f∧bd b f:=by
 unfold toX at h
 split at h
 ·rename_i f hf;exact⟨f,hf,of_decide_eq_true h⟩
 ·cases h
theorem drop_get {α:Type} {fs gs:List α} {f:α} {i:Nat} (h:fs.drop i=f::gs):∃hlt:i<fs.length,fs[i]=f∧fs.drop (i+1)=gs:=by
 have hlt:i<fs.length:=by
  rcases Nat.lt_or_ge i fs.length with h'|h'
  ·exact h'
  ·rw[List.drop_eq_nil_of_le h']at h;cases h
 have hc:=List.drop_eq_getElem_cons hlt
 rw[h]at hc
 exact⟨hlt,(List.cons.inj hc).1.symm,(List.cons.inj hc).2.symm⟩
theorem drop_end {α:Type} {fs:List α} {i:Nat} (h:fs.drop i=[]):fs.length≤i:=by have:=congrArg List.length h;simp at this;omega
theorem to_loop {b:Option Nat} {op nm:ByteArray} {p:Int} {fs:List Fm} (hl:fs.length≤4096) (hb:∀f∈fs,bd b f):∀(gs:List Fm) (i:Nat) (acc:List D) (t:Bool),fs.drop i=gs→acc.length=i→
  ∃u,Lp (K11.L0 b) (K11.s0 op nm (Fm.dL fs) p i acc t)=some (.exit 0,K11.e0x0 op nm p (acc++Fm.dL gs) u)
 |[],i,acc,t,hi,ha=>by
  have hr:=K11.round0_0 b op nm (Fm.dL fs) p i acc t
  have:=drop_end hi
  rw[dL_len,if_neg (by simp;omega)]at hr
  simp only[Fm.dL,List.append_nil]
  exact⟨_,Lp_exit hr⟩
 |f::gs,i,acc,t,hi,ha=>by
  have hr:=K11.round0_0 b op nm (Fm.dL fs) p i acc t
  obtain⟨hlt,hf,hgs⟩:=drop_get hi
  rw[dL_len,if_pos (by simp;omega),if_pos (by omega),Int.toNat_natCast,dL_get hlt,hf]at hr
  have hx:=toX_d (hb f (hf▸List.getElem_mem hlt))
  obtain⟨u,ih⟩:=to_loop (op:=op) (nm:=nm) (p:=p) hl hb gs (i+1) (acc++[f.d]) (t||true) hgs (by simp[ha])
  rw[List.append_assoc]at ih
  refine⟨u,?_⟩
  cases f with
  |mk o n ks q=>
   simp only[Fm.d]at hr hx ih
   simp only[if_true,hx,if_pos (show acc.length+1≤34359738368 by omega),wrap_id (show -9223372036854775808≤(i:Int)+1 by omega) (by omega)]at hr
   simp only[Fm.dL,Fm.d]
   exact Lp_step hr ih
theorem bd_kids {b:Option Nat} {op nm:ByteArray} {ks:List Fm} {p:Int} (hs:(Fm.mk op nm ks p).sm=true) (hb:∀n,b=some n→(Fm.mk op nm ks p).dep≤n):ks.length≤4096∧∀g∈ks,bd b g:=by
 simp only[Fm.sm,Bool.and_eq_true,Nat.ble_eq]at hs
 refine⟨hs.1,fun g hg=>bd_none ⟨sm_mem hs.2 hg,trivial⟩ fun n hn=>?_⟩
 have h1:=hb n hn
 have h2:=dep_mem hg
 simp only[Fm.dep]at h1
 omega
theorem bd_succ {n:Nat} {f:Fm} (h:bd (some (n+1)) f):f.sm=true∧∀m,some n=some m→f.dep≤m:=⟨h.1,fun m hm=>by cases hm;have:=h.2;simp only at this;omega⟩
theorem bd_zero {f:Fm} (h:bd (some 0) f):False:=by have:=h.2;simp only at this;omega
theorem vcTo:VC 11 (cTo none):=fun β args k r hr=>by
 have h:EnvOk glS Tryz.prog (WTo none):=by
  refine EnvOk.rec1 (fun b {β} args k=>cTo b args k) EnvOk.none ?_ ?_ ?_
  ·intro β args k r hr
   unfold cTo at hr
   split at hr
   ·split at hr
    ·rename_i hx;obtain⟨f,_,hb⟩:=toX_some hx;exact bd_zero hb
    ·cases hr
   ·cases hr
  ·intro n ih β args k r hr
   unfold cTo at hr
   split at hr
   ·rename_i x
    split at hr
    ·rename_i hx
     obtain⟨f,hf,hb⟩:=toX_some hx
     rw[d_ofD _ _ hf]at hr ⊢
     refine⟨_,_,hr,valid_of ih mixed Tryz.func11 (by kernel_rfl) ?_⟩
     cases f with
     |mk op nm ks p=>
      obtain⟨h1,h2⟩:=bd_succ hb
      obtain⟨h3,h4⟩:=bd_kids h1 h2
      obtain⟨u,h⟩:=to_loop (op:=op) (nm:=nm) (p:=p) h3 h4 ks 0 [] false rfl rfl
      have h':Lp (K11.L0 (some n)) (K11.s0 op nm (Fm.dL ks) p 0 [] false)=_:=h
      simp only[Fm.d]
      have st:=K11.start (some n) op nm (Fm.dL ks) p (fun a b=>some (a,b))
      refine st.trans ?_
      rw[goLp_of h',K11.behind0x0]
      rfl
    ·cases hr
   ·cases hr
  ·intro β args k r hr
   unfold cTo at hr
   split at hr
   ·split at hr
    ·rename_i hx
     obtain⟨f,hf,hb⟩:=toX_some hx
     refine⟨f.dep+1,?_⟩
     rw[d_ofD _ _ hf]at hr ⊢
     show(if toX (some (f.dep+1)) f.d=true then _ else _)=_
     rw[if_pos (toX_d (bd_at hb))]
     exact hr
    ·cases hr
   ·cases hr
 exact h β 11 args k r hr
theorem smallX_d {b:Option Nat} {f:Fm} {n:Int} (h:bd b f) (h0:0≤n) (h1:n≤64):smallX b f.d n=some (smallF f n.toNat):=by unfold smallX;rw[ofD_d];exact if_pos ⟨h,h0,h1⟩
theorem smallX_some {b:Option Nat} {x:D} {n:Int} {v:Bool} (h:smallX b x n=some v):∃f,ofD x=some f∧bd b f∧0≤n∧n≤64∧v=smallF f n.toNat:=by
 unfold smallX at h
 split at h
 ·rename_i f hf
  split at h
  ·rename_i hc;cases h;exact⟨f,hf,hc.1,hc.2.1,hc.2.2,rfl⟩
  ·cases h
 ·cases h
theorem small_loop {b:Option Nat} {op nm:ByteArray} {p:Int} {m:Nat} {n':Int} {fs:List Fm} (hm:m+1≤64) (hn:n'=(m:Int)+1) (hl:fs.length≤4096) (hb:∀f∈fs,bd b f):∀(gs:List Fm) (i:Nat),fs.drop i=gs→
  ∀v,smallL gs m=v→Lp (K12.L0 b) (K12.s0 op nm (Fm.dL fs) p n' i)=some (match v with|true=>(.exit 0,K12.e0x0)|false=>(.ret,K12.e0r))
 |[],i,hi,v,hv=>by
  subst hv
  have hr:=K12.round0_0 b op nm (Fm.dL fs) p n' i
  have:=drop_end hi
  rw[dL_len,if_neg (by simp;omega)]at hr
  exact Lp_exit hr
 |f::gs,i,hi,v,hv=>by
  have hr:=K12.round0_0 b op nm (Fm.dL fs) p n' i
  obtain⟨hlt,hf,hgs⟩:=drop_get hi
  rw[dL_len,if_pos (by simp;omega),if_pos (by omega),Int.toNat_natCast,dL_get hlt,hf]at hr
  have hw:IntKind.wrap .i64 (n' - 1)=(m:Int):=by rw[wrap_id (by omega) (by omega)];omega
  have hx:=smallX_d (n:=(m:Int)) (hb f (hf▸List.getElem_mem hlt)) (by omega) (by omega)
  rw[Int.toNat_natCast]at hx
  have ih:=small_loop (op:=op) (nm:=nm) (p:=p) hm hn hl hb gs (i+1) hgs
  simp only[smallL]at hv
  cases f with
  |mk o n ks q=>
   simp only[Fm.d]at hr hx
   simp only[if_true,hw,hx,wrap_id (show -9223372036854775808≤(i:Int)+1 by omega) (by omega)]at hr
   cases hw:smallF (.mk o n ks q) m with
   |true=>rw[hw]at hr hv;exact Lp_step hr (ih v (by simpa using hv))
   |false=>rw[hw]at hr hv;subst hv;exact Lp_exit hr
theorem vcSmall:VC 12 (cSmall none):=fun β args k r hr=>by
 have h:EnvOk glS Tryz.prog (WSm none):=by
  refine EnvOk.rec1 (fun b {β} args k=>cSmall b args k) EnvOk.none ?_ ?_ ?_
  ·intro β args k r hr
   unfold cSmall at hr
   split at hr
   ·split at hr
    ·rename_i hx;obtain⟨f,_,hb,_⟩:=smallX_some hx;exact bd_zero hb
    ·cases hr
   ·cases hr
  ·intro n ih β args k r hr
   unfold cSmall at hr
   split at hr
   ·rename_i x m
    split at hr
    ·rename_i v hx
     obtain⟨f,hf,hb,h0,h1,rfl⟩:=smallX_some hx
     rw[d_ofD _ _ hf]
     refine⟨_,_,hr,valid_of ih mixed Tryz.func12 (by kernel_rfl) ?_⟩
     cases f with
     |mk op nm ks p=>
      obtain⟨h5,h2⟩:=bd_succ hb
      obtain⟨h3,h4⟩:=bd_kids h5 h2
      simp only[Fm.d]
      refine(K12.start (some n) op nm (Fm.dL ks) p m (fun a b=>some (a,b))).trans ?_
      obtain⟨j,rfl⟩:∃j:Nat,m=j:=⟨m.toNat,by omega⟩
      rw[Int.toNat_natCast]
      cases j with
      |zero=>rfl
      |succ j=>
       have h:=small_loop (op:=op) (nm:=nm) (p:=p) (m:=j) (n':=((j+1:Nat):Int)) (by omega) (by omega) h3 h4 ks 0 rfl _ rfl
       have h':Lp (K12.L0 (some n)) (K12.s0 op nm (Fm.dL ks) p (j+1:Nat) 0)=_:=h
       rw[if_neg (by rw[beq_iff_eq];omega)]
       simp only[smallF]
       cases hv:smallL ks j with
       |true=>rw[hv]at h';rw[goLp_of h',K12.behind0x0]
       |false=>rw[hv]at h';rw[goLp_of h',K12.behind0r]
    ·cases hr
   ·cases hr
  ·intro β args k r hr
   unfold cSmall at hr
   split at hr
   ·split at hr
    ·rename_i v hx
     obtain⟨f,hf,hb,h0,h1,rfl⟩:=smallX_some hx
     refine⟨f.dep+1,?_⟩
     rw[d_ofD _ _ hf]
     simp only[cSmall,smallX_d (bd_at hb) h0 h1]
     exact hr
    ·cases hr
   ·cases hr
 exact h β 12 args k r hr
end Go.Sd
namespace Go.Sd
open Go Go.Cm Go.Proofs Go.Sc
set_option maxRecDepth 100000
namespace K27
theorem start {β:Type} (st:List D) (lp:List D) (i:Int) (k:List TV→List TV→Option β):evalF Tryz.prog Env.none Tryz.f27 [.d true 3 (D.ag [D.sl 0 st,D.sl 0 lp]),.d true 0 (D.int .i64 i)] k=if decide (i<(st.length:Int))=true then if 0≤i then match st[i.toNat]? with
   |some x4=>match x4 with
    |D.int j5 m6=>if j5=IntKind.i64 then k [.d false 0 (D.int .i64 m6)] []else none
    |x=>none
   |none=>none else none else if(lp.length:Int)≠(0:Int)then if 0≤Int.tmod (IntKind.wrap .i64 (i - (st.length:Int))) (lp.length:Int)then match lp[Int.toNat (Int.tmod (IntKind.wrap .i64 (i - (st.length:Int))) (lp.length:Int))]? with
    |some x8=>match x8 with
     |D.int j9 m10=>if j9=IntKind.i64 then k [.d false 0 (D.int .i64 m10)] []else none
     |x=>none
    |none=>none else none else none:=by kernel_rfl
end K27
namespace K47
noncomputable def X:Fx:=⟨Tryz.prog,Env.none,16,2⟩
noncomputable def s0 (ns:List D) (s:ByteArray) (x14:Int):S:=⟨Tm.mk 19 [(0,.d true 0 (D.sl 0 ns)),(1,.d true 0 (D.str s)),(5,.d false 0 (D.int .i64 x14))],[]⟩
noncomputable def e0r (x30:Int):S:=⟨Tm.mk 19 [(4,.d false 0 (D.int .i64 x30))],[]⟩
noncomputable def e0x0:S:=⟨Tm.mk 19 [],[]⟩
noncomputable abbrev L0:S→Option (S ⊕ (Ex×S)):=roundK X [(0,0)] (sub [1,0,1,0,0] (body Tryz.f47))
theorem start {β:Type} (ns:List D) (s:ByteArray) (k:List TV→List TV→Option β):evalF Tryz.prog Env.none Tryz.f47 [.d true 0 (D.sl 0 ns),.d true 0 (D.str s)] k=goLp X [(0,0)] (sub [1,0,1,0,0] (body Tryz.f47)) [Kf.block 0 0,Kf.seq [] (sub [1,1] (body Tryz.f47)) 16] (finK Tryz.prog Tryz.f47 [.d true 0 (D.sl 0 ns),.d true 0 (D.str s)] k) (s0 ns s (0:Int)):=by kernel_rfl
theorem round0 (ns:List D) (s:ByteArray) (x14:Int):roundK X [(0,0)] (sub [1,0,1,0,0] (body Tryz.f47)) (s0 ns s x14)=if decide (x14<(ns.length:Int))=true then if 0≤x14 then match ns[x14.toNat]? with
   |some x37=>match x37 with
    |D.str s38=>if(s38.toList==s.toList)=true then some (Sum.inr (Ex.ret,e0r x14))else some (Sum.inl (s0 ns s (IntKind.wrap .i64 (x14+1))))
    |x=>none
   |none=>none else none else some (Sum.inr (Ex.exit 0,e0x0)):=by kernel_rfl
theorem behind0r {β:Type} (ns:List D) (s:ByteArray) (x30:Int) (k:List TV→List TV→Option β):applyK X (finK Tryz.prog Tryz.f47 [.d true 0 (D.sl 0 ns),.d true 0 (D.str s)] k) [Kf.block 0 0,Kf.seq [] (sub [1,1] (body Tryz.f47)) 16] Ex.ret (e0r x30)=k [.d false 0 (D.int .i64 x30)] []:=by kernel_rfl
theorem behind0x0 {β:Type} (ns:List D) (s:ByteArray) (k:List TV→List TV→Option β):applyK X (finK Tryz.prog Tryz.f47 [.d true 0 (D.sl 0 ns),.d true 0 (D.str s)] k) [Kf.block 0 0,Kf.seq [] (sub [1,1] (body Tryz.f47)) 16] (Ex.exit 0) e0x0=k [.d false 0 (D.int .i64 (-1:Int))] []:=by kernel_rfl
end K47
namespace K14
noncomputable def X:Fx:=⟨Tryz.prog,WLt,16,2⟩
noncomputable def s0 (ns:List D) (st:List D) (lp:List D) (x32:Int) (x33:Int):S:=⟨Tm.mk 72 [(0,.d true 0 (D.sl 0 ns)),(3,.rp 4 0),(5,.d false 0 (D.int .i64 x32)),(6,.d false 0 (D.int .i64 x33))],[(4,true,[.d true 0 (D.sl 0 st),.d true 0 (D.sl 0 lp)])]⟩
noncomputable def s1 (ns:List D) (st:List D) (lp:List D) (x66:Int) (x67:Int) (x87:Int):S:=⟨Tm.mk 72 [(0,.d true 0 (D.sl 0 ns)),(3,.rp 4 0),(5,.d false 0 (D.int .i64 x66)),(6,.d false 0 (D.int .i64 x67)),(7,.d false 0 (D.int .i64 x87))],[(4,true,[.d true 0 (D.sl 0 st),.d true 0 (D.sl 0 lp)])]⟩
noncomputable def s2 (st:List D) (lp:List D) (x48:Int) (x103:Int):S:=⟨Tm.mk 72 [(3,.rp 4 0),(5,.d false 0 (D.int .i64 x103)),(8,.d false 0 (D.int .i64 x48))],[(4,true,[.d true 0 (D.sl 0 st),.d true 0 (D.sl 0 lp)])]⟩
noncomputable def e0x0 (st:List D) (lp:List D) (x68:Int):S:=⟨Tm.mk 72 [(3,.rp 4 0),(5,.d false 0 (D.int .i64 x68))],[(4,true,[.d true 0 (D.sl 0 st),.d true 0 (D.sl 0 lp)])]⟩
noncomputable def e1x2 (ns:List D) (st:List D) (lp:List D) (x88:Int) (x89:Int):S:=⟨Tm.mk 72 [(0,.d true 0 (D.sl 0 ns)),(3,.rp 4 0),(5,.d false 0 (D.int .i64 x88)),(6,.d false 0 (D.int .i64 x89))],[(4,true,[.d true 0 (D.sl 0 st),.d true 0 (D.sl 0 lp)])]⟩
noncomputable def e2r:S:=⟨Tm.mk 72 [(4,.d false 0 (D.bool false))],[]⟩
noncomputable def e2x4:S:=⟨Tm.mk 72 [],[]⟩
noncomputable def e1r:S:=⟨Tm.mk 72 [(4,.d false 0 (D.bool false))],[]⟩
noncomputable def e0r:S:=⟨Tm.mk 72 [(4,.d false 0 (D.bool false))],[]⟩
noncomputable abbrev L0:S→Option (S ⊕ (Ex×S)):=roundK X [(0,40)] (sub [1,1,1,0,1,0,0] (body Tryz.f14))
noncomputable abbrev L1:S→Option (S ⊕ (Ex×S)):=roundK X [(2,105),(1,105),(0,40)] (sub [1,1,1,0,1,0,0,1,0,0,1,1,0,0] (body Tryz.f14))
noncomputable abbrev L2:S→Option (S ⊕ (Ex×S)):=roundK X [(4,0)] (sub [1,1,1,1,0,1,0,0] (body Tryz.f14))
noncomputable abbrev G0 {β:Type} (ns:List D) (st:List D) (lp:List D) (k:List TV→List TV→Option β):S→Option β:=goLp X [(0,40)] (sub [1,1,1,0,1,0,0] (body Tryz.f14)) [Kf.block 0 40,Kf.seq [] (sub [1,1,1,1] (body Tryz.f14)) 16] (finK Tryz.prog Tryz.f14 [.d true 0 (D.sl 0 ns),.d true 3 (D.ag [D.sl 0 st,D.sl 0 lp])] k)
noncomputable abbrev G1:S→Option (S ⊕ (Ex×S)):=goLp X [(2,105),(1,105),(0,40)] (sub [1,1,1,0,1,0,0,1,0,0,1,1,0,0] (body Tryz.f14)) [Kf.block 2 105,Kf.block 1 105,Kf.seq [(0,40)] (sub [1,1,1,0,1,0,0,1,1] (body Tryz.f14)) 105] (finR X [(0,40)] (sub [1,1,1,0,1,0,0] (body Tryz.f14)))
noncomputable abbrev G2 {β:Type} (ns:List D) (st:List D) (lp:List D) (k:List TV→List TV→Option β):S→Option β:=goLp X [(4,0)] (sub [1,1,1,1,0,1,0,0] (body Tryz.f14)) [Kf.block 4 0,Kf.seq [] (sub [1,1,1,1,1] (body Tryz.f14)) 16] (finK Tryz.prog Tryz.f14 [.d true 0 (D.sl 0 ns),.d true 3 (D.ag [D.sl 0 st,D.sl 0 lp])] k)
theorem start {β:Type} (ns:List D) (st:List D) (lp:List D) (k:List TV→List TV→Option β):evalF Tryz.prog WLt Tryz.f14 [.d true 0 (D.sl 0 ns),.d true 3 (D.ag [D.sl 0 st,D.sl 0 lp])] k=if decide ((ns.length:Int)>6)=true then k [.d false 0 (D.bool false)] []else if((lp.length:Int)==0)=true then k [.d false 0 (D.bool false)] []else if decide (IntKind.wrap .i64 ((st.length:Int)+(lp.length:Int))>64)=true then k [.d false 0 (D.bool false)] []else G0 ns st lp k (s0 ns st lp (1:Int) (0:Int)):=by kernel_rfl
theorem round0 (ns:List D) (st:List D) (lp:List D) (x32:Int) (x33:Int):roundK X [(0,40)] (sub [1,1,1,0,1,0,0] (body Tryz.f14)) (s0 ns st lp x32 x33)=if decide (x33<(ns.length:Int))=true then G1 (s1 ns st lp (IntKind.wrap .i64 ((2:Int)*x32)) x33 (0:Int))else some (Sum.inr (Ex.exit 0,e0x0 st lp x32)):=by kernel_rfl
theorem round1 (ns:List D) (st:List D) (lp:List D) (x66:Int) (x67:Int) (x87:Int):roundK X [(2,105),(1,105),(0,40)] (sub [1,1,1,0,1,0,0,1,0,0,1,1,0,0] (body Tryz.f14)) (s1 ns st lp x66 x67 x87)=if decide (x87<x67)=true then if 0≤x67 then match ns[x67.toNat]? with
   |some x170=>match x170 with
    |D.str s171=>if 0≤x87 then match ns[x87.toNat]? with
     |some x172=>match x172 with
      |D.str s173=>if(s171.toList==s173.toList)=true then some (Sum.inr (Ex.ret,e1r))else some (Sum.inl (s1 ns st lp x66 x67 (IntKind.wrap .i64 (x87+1))))
      |x=>none
     |none=>none else none
    |x=>none
   |none=>none else none else some (Sum.inr (Ex.exit 2,e1x2 ns st lp x66 x67)):=by kernel_rfl
theorem round2 (st:List D) (lp:List D) (x48:Int) (x103:Int):roundK X [(4,0)] (sub [1,1,1,1,0,1,0,0] (body Tryz.f14)) (s2 st lp x48 x103)=if decide (x48<IntKind.wrap .i64 ((st.length:Int)+(lp.length:Int)))=true then match letD st lp x48 with
   |some m188=>if 0≤x48∧x48≤9223372036854775807∧st.length+lp.length≤34359738368 then if decide (m188<0)=true then some (Sum.inr (Ex.ret,e2r))else if decide (m188≥x103)=true then some (Sum.inr (Ex.ret,e2r))else some (Sum.inl (s2 st lp (IntKind.wrap .i64 (x48+1)) x103))else none
   |none=>none else some (Sum.inr (Ex.exit 4,e2x4)):=by kernel_rfl
theorem behind0x0 {β:Type} (ns:List D) (st:List D) (lp:List D) (x68:Int) (k:List TV→List TV→Option β) (s__:S) (h__:Lp L0 s__=some (Ex.exit 0,e0x0 st lp x68)):G0 ns st lp k s__=G2 ns st lp k (s2 st lp (0:Int) x68):=(goLp_of h__).trans (by kernel_rfl)
theorem behind1x2 (ns:List D) (st:List D) (lp:List D) (x88:Int) (x89:Int) (s__:S) (h__:Lp L1 s__=some (Ex.exit 2,e1x2 ns st lp x88 x89)):G1 s__=some (Sum.inl (s0 ns st lp x88 (IntKind.wrap .i64 (x89+1)))):=(goLp_of h__).trans (by kernel_rfl)
theorem behind2r {β:Type} (ns:List D) (st:List D) (lp:List D) (k:List TV→List TV→Option β) (s__:S) (h__:Lp L2 s__=some (Ex.ret,e2r)):G2 ns st lp k s__=k [.d false 0 (D.bool false)] []:=(goLp_of h__).trans (by kernel_rfl)
theorem behind2x4 {β:Type} (ns:List D) (st:List D) (lp:List D) (k:List TV→List TV→Option β) (s__:S) (h__:Lp L2 s__=some (Ex.exit 4,e2x4)):G2 ns st lp k s__=k [.d false 0 (D.bool true)] []:=(goLp_of h__).trans (by kernel_rfl)
theorem behind1r (s__:S) (h__:Lp L1 s__=some (Ex.ret,e1r)):G1 s__=some (Sum.inr (Ex.ret,e0r)):=(goLp_of h__).trans (by kernel_rfl)
theorem behind0r {β:Type} (ns:List D) (st:List D) (lp:List D) (k:List TV→List TV→Option β) (s__:S) (h__:Lp L0 s__=some (Ex.ret,e0r)):G0 ns st lp k s__=k [.d false 0 (D.bool false)] []:=(goLp_of h__).trans (by kernel_rfl)
end K14
end Go.Sd
set_option maxRecDepth 100000
namespace Go.Sd
open Go Go.Cm Go.Proofs Go.Sc
theorem vcLetD:VC 27 cLetD:=by
 intro β args k r hr
 change cLetD args k=some r at hr
 have hbig:big=34359738368:=rfl
 unfold cLetD at hr
 split at hr
 ·rename_i st lp i
  split at hr
  ·rename_i m hl
   obtain⟨⟨h0,h1,h2⟩,hr⟩:=chkK_ok hr
   refine⟨_,_,hr,valid_of EnvOk.none mixed Tryz.func27 (by kernel_rfl) ?_⟩
   rw[K27.start]
   unfold letD at hl
   split at hl
   ·rename_i hi
    obtain⟨_,e⟩:=iAt_ok hl
    rw[if_pos (by simpa using hi),if_pos h0,e]
    simp
   ·rename_i hi
    rw[if_neg (by simpa using hi)]
    split at hl
    ·cases hl
    ·rename_i h
     rw[if_pos (show((lp.length:Int))≠0 by omega),wrap_id (by omega) (by omega)]
     obtain⟨h5,e⟩:=iAt_ok hl
     rw[if_pos h5,e]
     simp
  ·cases hr
 ·cases hr
theorem at_loop {ns:List D} {s:ByteArray} (hn:ns.length≤34359738368):∀(r:List D) (i:Nat) (v:Int),ns.drop i=r→idxN s r i=some v→
  (v= -1∧Lp K47.L0 (K47.s0 ns s i)=some (.exit 0,K47.e0x0))∨(0≤v∧Lp K47.L0 (K47.s0 ns s i)=some (.ret,K47.e0r v))
 |[],i,v,hd,h=>by
  simp only[idxN,Option.some.injEq]at h
  subst h
  have hr:=K47.round0 ns s i
  have:ns.length≤i:=by have:=congrArg List.length hd;simp at this;omega
  rw[if_neg (by simp;omega)]at hr
  exact .inl ⟨rfl,Lp_exit hr⟩
 |x::r,i,v,hd,h=>by
  have hr:=K47.round0 ns s i
  have hlt:i<ns.length:=by
   rcases Nat.lt_or_ge i ns.length with h|h
   ·exact h
   ·rw[List.drop_eq_nil_of_le h]at hd;cases hd
  have hc:=List.drop_eq_getElem_cons hlt
  rw[hd]at hc
  have hx:ns[i]? =some x:=by rw[List.getElem?_eq_getElem hlt, ←(List.cons.inj hc).1]
  rw[if_pos (by simp;omega),if_pos (by omega),Int.toNat_natCast,hx]at hr
  simp only[idxN]at h
  split at h
  ·rename_i t
   simp only at hr
   split at h
   ·rename_i he
    cases h
    rw[if_pos he]at hr
    exact .inr ⟨by omega,Lp_exit hr⟩
   ·rename_i he
    rw[if_neg he,wrap_id (by omega) (by omega)]at hr
    rcases at_loop hn r (i+1) v (List.cons.inj hc).2.symm h with⟨h1,h3⟩|⟨h1,h3⟩
    ·exact .inl ⟨h1,Lp_step hr h3⟩
    ·exact .inr ⟨h1,Lp_step hr h3⟩
  ·cases h
theorem vcAtN:VC 47 cAtN:=by
 intro β args k r hr
 change cAtN args k=some r at hr
 have hbig:big=34359738368:=rfl
 unfold cAtN at hr
 split at hr
 ·rename_i ns s
  split at hr
  ·rename_i v hv
   unfold atX at hv
   split at hv
   ·rename_i hc
    refine⟨_,_,hr,valid_of EnvOk.none mixed Tryz.func47 (by kernel_rfl) ?_⟩
    rw[K47.start]
    rcases at_loop (by omega) ns 0 v rfl hv with⟨rfl,h⟩|⟨_,h⟩
    ·have h':Lp K47.L0 (K47.s0 ns s 0)=_:=h
     rw[goLp_of h',K47.behind0x0]
    ·have h':Lp K47.L0 (K47.s0 ns s 0)=_:=h
     rw[goLp_of h',K47.behind0r]
   ·cases hv
  ·cases hr
 ·cases hr
end Go.Sd
set_option maxRecDepth 100000
namespace Go.Sc
open Go Go.Cm
open Classical in
noncomputable def lab30 (ns:List D) (t:Pr):Int:=if t.labs (lbOk ns)then 0 else 30
theorem lab30_yes {ns:List D} {t:Pr} (h:t.labs (lbOk ns)):lab30 ns t=0:=if_pos h
theorem lab30_no {ns:List D} {t:Pr} (h:¬t.labs (lbOk ns)):lab30 ns t=30:=if_neg h
open Classical in
theorem formX_d {b:Option Nat} {f:Fm} {t:Pr} {ns:List D} (h:bd b f) (ha:f.abs=some t) (hs:strsB ns=true) (hn:ns.length≤big):formX b f.d ns=some (lab30 ns t):=by
 unfold formX;rw[ofD_d];simp only[ha];exact if_pos ⟨h,hs,hn⟩
open Classical in
theorem formX_some {b:Option Nat} {x:D} {ns:List D} {v:Int} (h:formX b x ns=some v):∃f t,ofD x=some f∧f.abs=some t∧bd b f∧strsB ns=true∧ns.length≤big∧v=lab30 ns t:=by
 unfold formX at h
 split at h
 ·rename_i f hf
  split at h
  ·rename_i t ht
   split at h
   ·rename_i hc;cases h;exact⟨f,t,hf,ht,hc.1,hc.2.1,hc.2.2,rfl⟩
   ·cases h
  ·cases h
 ·cases h
theorem strs_any {ns:List D} (h:strsB ns=true):∀d∈ns,∃u,d=.str u:=by
 induction ns with
 |nil=>intro d hd;cases hd
 |cons x r ih=>
  unfold strsB at h
  split at h
  ·intro d hd
   rcases List.mem_cons.1 hd with rfl|hd
   ·exact⟨_,rfl⟩
   ·exact ih h d hd
  ·cases h
def labsA (ok:ByteArray→Prop):List Fm→Prop
 |[]=>True
 |f::fs=>(∃t,f.abs=some t∧t.labs ok)∧labsA ok fs
end Go.Sc
namespace Go.Sd
open Go Go.Cm Go.Proofs Go.Sc
theorem form_loop0 {b:Option Nat} {op nm:ByteArray} {p:Int} {ns:List D} {fs:List Fm} (hs:strsB ns=true) (hn:ns.length≤big) (hl:fs.length≤4096) (hb:∀f∈fs,bd b f) (ha:∀f∈fs,∃t,f.abs=some t):
  ∀(gs:List Fm) (i:Nat),fs.drop i=gs→Lp (K15.L0 b) (K15.s0 op nm (Fm.dL fs) p ns fs.length i)=some (.exit 1,K15.e0x1 op nm (Fm.dL fs) p ns fs.length)
 |[],i,hi=>by
  have hr:=K15.round0_0 b op nm (Fm.dL fs) p ns fs.length i
  have:=drop_end hi
  rw[if_neg (by simp;omega)]at hr
  exact Lp_exit hr
 |f::gs,i,hi=>by
  have hr:=K15.round0_0 b op nm (Fm.dL fs) p ns fs.length i
  obtain⟨hlt,hf,hgs⟩:=drop_get hi
  rw[if_pos (by simp;omega),if_pos (by omega),Int.toNat_natCast,dL_get hlt,hf]at hr
  have hm:f∈fs:=hf▸List.getElem_mem hlt
  obtain⟨t,ht⟩:=ha f hm
  have hx:=formX_d (hb f hm) ht hs hn
  have ih:=form_loop0 (op:=op) (nm:=nm) (p:=p) hs hn hl hb ha gs (i+1) hgs
  have hv1:¬(lab30 ns t==1)=true:=by
   rw[beq_iff_eq]
   by_cases h:t.labs (lbOk ns)
   ·rw[lab30_yes h];decide
   ·rw[lab30_no h];decide
  cases f with
  |mk o n ks q=>
   simp only[Fm.d]at hr hx
   simp only[if_true,hx,if_neg hv1,wrap_id (show -9223372036854775808≤(i:Int)+1 by omega) (by omega)]at hr
   exact Lp_step hr ih
open Classical in
theorem form_loop1 {b:Option Nat} {op nm:ByteArray} {p:Int} {ns:List D} {fs:List Fm} (hs:strsB ns=true) (hn:ns.length≤big) (hl:fs.length≤4096) (hb:∀f∈fs,bd b f) (ha:∀f∈fs,∃t,f.abs=some t):
  ∀(gs:List Fm) (i:Nat),fs.drop i=gs→Lp (K15.L1 b) (K15.s1 op nm (Fm.dL fs) p ns fs.length i)=some (if labsA (lbOk ns) gs then(.exit 3,K15.e1x3 op nm (Fm.dL fs) p ns)else(.ret,K15.e1r 30))
 |[],i,hi=>by
  have hr:=K15.round1_0 b op nm (Fm.dL fs) p ns fs.length i
  have:=drop_end hi
  rw[if_neg (by simp;omega)]at hr
  rw[if_pos (show labsA (lbOk ns) []from trivial)]
  exact Lp_exit hr
 |f::gs,i,hi=>by
  have hr:=K15.round1_0 b op nm (Fm.dL fs) p ns fs.length i
  obtain⟨hlt,hf,hgs⟩:=drop_get hi
  rw[if_pos (by simp;omega),if_pos (by omega),Int.toNat_natCast,dL_get hlt,hf]at hr
  have hm:f∈fs:=hf▸List.getElem_mem hlt
  obtain⟨t,ht⟩:=ha f hm
  have hx:=formX_d (hb f hm) ht hs hn
  have ih:=form_loop1 (op:=op) (nm:=nm) (p:=p) hs hn hl hb ha gs (i+1) hgs
  by_cases hlab:t.labs (lbOk ns)
  ·rw[lab30_yes hlab]at hx
   have e:labsA (lbOk ns) (f::gs)↔labsA (lbOk ns) gs:=⟨fun h=>h.2,fun h=>⟨⟨t,ht,hlab⟩,h⟩⟩
   simp only[e]
   cases f with
   |mk o n ks q=>
    simp only[Fm.d]at hr hx
    simp only[if_true,hx,wrap_id (show -9223372036854775808≤(i:Int)+1 by omega) (by omega)]at hr
    rw[if_neg (by decide)]at hr
    exact Lp_step hr ih
  ·rw[lab30_no hlab]at hx
   have e:¬labsA (lbOk ns) (f::gs):=fun h=>by
    obtain⟨⟨t',ht',hl'⟩,_⟩:=h
    rw[ht]at ht';cases ht';exact hlab hl'
   rw[if_neg e]
   cases f with
   |mk o n ks q=>
    simp only[Fm.d]at hr hx
    simp only[if_true,hx]at hr
    rw[if_pos (by decide)]at hr
    exact Lp_exit hr
open Classical in
theorem ev_form15 {b:Option Nat} {f:Fm} {t:Pr} {ns:List D} (ha:f.abs=some t) (hsm:f.sm=true) (hb:∀n,b=some n→f.dep≤n) (hs:strsB ns=true) (hn:ns.length≤big) {γ:Type} (q:List TV→List TV→Option γ):
  evalF Tryz.prog (WFo b) Tryz.f15 [.d true 5 f.d,.d true 0 (.sl 0 ns)] q=q [.d false 0 (.int .i64 (lab30 ns t))] []:=by
 have key:∀(op nm:ByteArray) (ks:List Fm) (p:Int),f=.mk op nm ks p→ks.length≤4096→(∀g∈ks,bd b g)→(∀g∈ks,∃t,g.abs=some t)→((op.toList==[108,97,98,101,108])=true→ks=[]∧t=.lab nm)→(¬(op.toList==[108,97,98,101,108])=true→(t.labs (lbOk ns)↔labsA (lbOk ns) ks))→
   K15.G0 b op nm (Fm.dL ks) p ns q (K15.s0 op nm (Fm.dL ks) p ns ks.length 0)=q [.d false 0 (.int .i64 (lab30 ns t))] []:=by
  intro op nm ks p e hl hbk hak h1 h2
  have l0:Lp (K15.L0 b) (K15.s0 op nm (Fm.dL ks) p ns ks.length 0)=_:=form_loop0 hs hn hl hbk hak ks 0 rfl
  have l1:Lp (K15.L1 b) (K15.s1 op nm (Fm.dL ks) p ns ks.length 0)=_:=form_loop1 hs hn hl hbk hak ks 0 rfl
  rw[K15.behind0x1 b op nm (Fm.dL ks) p ns _ q _ l0]
  by_cases c:(op.toList==[108,97,98,101,108])=true
  ·obtain⟨rfl,rfl⟩:=h1 c
   rw[if_pos (show labsA (lbOk ns) []from trivial)]at l1
   rw[K15.behind1x3 b op nm (Fm.dL []) p ns q _ l1,if_pos c]
   obtain⟨i,hi⟩:=idxN_any nm ns 0 (strs_any hs)
   unfold atX
   rw[if_pos ⟨hs,hn⟩,hi]
   by_cases h0:0≤i
   ·rw[lab30_yes (show Pr.labs (lbOk ns) (.lab nm)from⟨i,h0,hi⟩)];exact if_neg (by rw[decide_eq_true_eq];omega)
   ·rw[lab30_no (fun h=>by obtain⟨j,hj,e⟩:=h;rw[hi]at e;cases e;exact h0 hj)];exact if_pos (by rw[decide_eq_true_eq];omega)
  ·by_cases hL:labsA (lbOk ns) ks
   ·rw[if_pos hL]at l1
    rw[K15.behind1x3 b op nm (Fm.dL ks) p ns q _ l1,if_neg c,lab30_yes ((h2 c).2 hL)]
   ·rw[if_neg hL]at l1
    rw[K15.behind1r b op nm (Fm.dL ks) p ns 30 q _ l1,lab30_no (fun h=>hL ((h2 c).1 h))]
 rcases abs_inv ha with⟨op,nm,p,rfl,h1⟩|⟨op,nm,a,p,o,x,rfl,h1,h2,rfl⟩|⟨op,nm,a,c,p,o,x,y,rfl,h1,h2,h3,rfl⟩
 ·have kk:=key op nm [] p rfl (by simp) (fun g hg=>by cases hg) (fun g hg=>by cases hg)
  show evalF Tryz.prog (WFo b) Tryz.f15 [.d true 5 (.ag [.str op,.str nm,.sl 5 [],.int .i64 p]),.d true 0 (.sl 0 ns)] q=_
  rw[K15.start]
  rcases h1 with⟨h1,rfl⟩|⟨h1,rfl⟩|⟨h1,rfl⟩
  ·have kk:=kk (fun h=>absurd (h1▸h) (by decide)) (fun _=>Iff.rfl)
   rw[if_pos (by rw[h1];decide),K15.j2_eq,if_pos (by rw[h1];decide),if_neg (by decide)]
   exact kk
  ·have kk:=kk (fun h=>absurd (h1▸h) (by decide)) (fun _=>Iff.rfl)
   rw[if_neg (by rw[h1];decide),if_pos (by rw[h1];decide),K15.j2_eq,if_pos (by rw[h1];decide),if_neg (by decide)]
   exact kk
  ·have kk:=kk (fun h=>⟨rfl,rfl⟩) (fun h=>absurd (show(op.toList==[108,97,98,101,108])=true by rw[h1];decide) h)
   rw[if_neg (by rw[h1];decide),if_neg (by rw[h1];decide),K15.j2_eq,if_pos (by rw[h1];decide),if_neg (by decide)]
   exact kk
 ·obtain⟨k1,k2⟩:=bd_kids hsm hb
  have kk:=key op nm [a] p rfl (by simp) k2 (fun g hg=>by rw[List.mem_singleton.1 hg];exact⟨x,h2⟩) (fun h=>absurd (h1▸h) (by cases o<;>decide))
   (fun _=>⟨fun h=>⟨⟨x,h2,h⟩,trivial⟩,fun h=>by obtain⟨⟨x',e,h⟩,_⟩:=h;rw[h2]at e;cases e;exact h⟩)
  show evalF Tryz.prog (WFo b) Tryz.f15 [.d true 5 (.ag [.str op,.str nm,.sl 5 [a.d],.int .i64 p]),.d true 0 (.sl 0 ns)] q=_
  rw[K15.start]
  have u:∀l:T8,(U1.s o==l)=(op.toList==l):=fun l=>by rw[h1]
  simp only[←u]
  cases o<;>(rw[if_neg (by decide),if_neg (by decide),K15.j2_eq,if_neg (by decide)];simp only[←u];repeat (first|rw[if_neg (by decide)]|rw[if_pos (by decide)]))<;>(rw[K15.j1_eq];repeat (first|rw[if_pos (by decide)]|rw[if_neg (by decide)]))<;>exact kk
 ·obtain⟨k1,k2⟩:=bd_kids hsm hb
  have kk:=key op nm [a,c] p rfl (by simp) k2 (fun g hg=>by simp only[List.mem_cons,List.not_mem_nil,or_false]at hg;rcases hg with rfl|rfl;exact⟨x,h2⟩;exact⟨y,h3⟩) (fun h=>absurd (h1▸h) (by cases o<;>decide))
   (fun _=>⟨fun h=>⟨⟨x,h2,h.1⟩,⟨y,h3,h.2⟩,trivial⟩,fun h=>by obtain⟨⟨x',e,h⟩,⟨y',e',h'⟩,_⟩:=h;rw[h2]at e;rw[h3]at e';cases e;cases e';exact⟨h,h'⟩⟩)
  show evalF Tryz.prog (WFo b) Tryz.f15 [.d true 5 (.ag [.str op,.str nm,.sl 5 [a.d,c.d],.int .i64 p]),.d true 0 (.sl 0 ns)] q=_
  rw[K15.start]
  have u:∀l:T8,(B2.s o==l)=(op.toList==l):=fun l=>by rw[h1]
  simp only[←u]
  cases o<;>(rw[if_neg (by decide),if_neg (by decide),K15.j2_eq,if_neg (by decide)];simp only[←u];repeat (first|rw[if_neg (by decide)]|rw[if_pos (by decide)]))<;>(rw[K15.j1_eq,if_neg (by decide)];simp only[←u];repeat (first|rw[if_neg (by decide)]|rw[if_pos (by decide)]))<;>(rw[K15.j0_eq];repeat (first|rw[if_pos (by decide)]|rw[if_neg (by decide)]))<;>exact kk
theorem vcForm15:VC 15 (cForm none):=fun β args k r hr=>by
 have h:EnvOk glS Tryz.prog (WFo none):=by
  refine EnvOk.rec1 (fun b {β} args k=>cForm b args k) (EnvOk.none.add vcAtN) ?_ ?_ ?_
  ·intro β args k r hr
   unfold cForm at hr
   split at hr
   ·split at hr
    ·rename_i hx;obtain⟨f,t,_,_,hb,_⟩:=formX_some hx;exact bd_zero hb
    ·cases hr
   ·cases hr
  ·intro n ih β args k r hr
   unfold cForm at hr
   split at hr
   ·rename_i x ns
    split at hr
    ·rename_i v hx
     obtain⟨f,t,hf,ha,hb,hs,hn,rfl⟩:=formX_some hx
     rw[d_ofD _ _ hf]
     obtain⟨h1,h2⟩:=bd_succ hb
     exact⟨_,_,hr,valid_of ih mixed Tryz.func15 (by kernel_rfl) (ev_form15 ha h1 h2 hs hn _)⟩
    ·cases hr
   ·cases hr
  ·intro β args k r hr
   unfold cForm at hr
   split at hr
   ·split at hr
    ·rename_i v hx
     obtain⟨f,t,hf,ha,hb,hs,hn,rfl⟩:=formX_some hx
     refine⟨f.dep+1,?_⟩
     rw[d_ofD _ _ hf]
     simp only[cForm,formX_d (bd_at hb) ha hs hn]
     exact hr
    ·cases hr
   ·cases hr
 exact h β 15 args k r hr
end Go.Sd
set_option maxRecDepth 100000
namespace Go.Sc
open Go Go.Cm
noncomputable def hR (P:Program) (x:D) (ns st lp:List D):Option (Int ⊕ Bool):=
 match ofD x with
 |some f=>if bd none f∧ns.length≤big∧st.length+lp.length≤big then holdN P ns f st lp else none
 |none=>none
noncomputable def hB (P:Program) (x:D) (ns st lp:List D):Bool:=match hR P x ns st lp with|some (.inr b)=>b|_=>false
noncomputable def hE (P:Program) (x:D) (ns st lp:List D):D:=match hR P x ns st lp with|some (.inl e)=>.ifc 84 (.int .i64 e)|_=>.nili
def hOk (P:Program) (x:D) (ns st lp:List D):Prop:=(hR P x ns st lp).isSome=true
noncomputable instance (P:Program) (x:D) (ns st lp:List D):Decidable (hOk P x ns st lp):=Classical.propDecidable _
end Go.Sc
namespace Go.Sd
open Go Go.Cm Go.Proofs Go.Sc
noncomputable def cHoldR {β:Type} (args:List TV) (k:List TV→List TV→Option β):Option β:=
 match args with
 |[.d true 5 x,.d true 0 (.sl 0 ns),.d true 3 (.ag [.sl 0 st,.sl 0 lp])]=>if hOk Tryz.prog x ns st lp then k [.d false 0 (.bool (hB Tryz.prog x ns st lp)),.d false 0 (hE Tryz.prog x ns st lp)] []else none
 |_=>none
theorem vcHoldR:VC 18 cHoldR:=by
 intro β args k r hr
 change cHoldR args k=some r at hr
 unfold cHoldR at hr
 split at hr
 ·rename_i x ns st lp
  split at hr
  ·rename_i ho
   refine vcHoldN β _ k r ?_
   show cHoldN [.d true 5 x,.d true 0 (.sl 0 ns),.d true 3 (.ag [.sl 0 st,.sl 0 lp])] k=some r
   unfold hOk at ho
   unfold hB hE at hr
   unfold hR at ho hr
   split at ho
   ·rename_i f hf
    simp only[hf]at hr
    split at ho
    ·rename_i hc
     simp only[if_pos hc]at hr
     unfold cHoldN chkK
     simp only[hf]
     rw[if_pos hc]
     cases he:holdN Tryz.prog ns f st lp with
     |none=>rw[he]at ho;cases ho
     |some v=>
      rw[he]at hr
      cases v with
      |inl e=>exact hr
      |inr b=>exact hr
    ·cases ho
   ·cases ho
  ·cases hr
 ·cases hr
end Go.Sd
namespace Go.Sc
open Go Go.Cm Go.Proofs
section
variable (a b:Pr) (L:Nat→Int) (k:Nat)
end
end Go.Sc
namespace Go.Sc
open Go Go.Cm Go.Proofs
structure Fb (x:D) (t:Pr):Prop where
 fm:∃f,ofD x=some f∧f.abs=some t
end Go.Sc
set_option maxRecDepth 100000
namespace Go.Sc
open Go Go.Cm Go.Proofs
def isIn (s:ByteArray) (ds:List ByteArray):Bool:=ds.any fun d=>s.toList==d.toList
def goodS:List ByteArray→List ByteArray→Bool
 |_,[]=>true
 |ds,s::r=> !(isIn s ds)&&goodS (ds++[s]) r
def entD (s:ByteArray):D:=.ag [.str s,.bool true]
theorem find_ent (s:ByteArray):∀(ds:List ByteArray) (i:Nat),(isIn s ds=false∧findM Tryz.prog 9 (.str s) (ds.map entD) i=some none)∨
  (isIn s ds=true∧∃j d v,ds[j]? =some d∧s.toList=d.toList∧findM Tryz.prog 9 (.str s) (ds.map entD) i=some (some (i+j,v)))
 |[],i=>.inl ⟨rfl,rfl⟩
 |d::ds,i=>by
  have hu:eqAtom Tryz.prog 9 (.str s) (.str d)=some (s.toList==d.toList):=by unfold eqAtom;rw[Tryz.underlying9]
  simp only[List.map_cons,entD,findM,hu,isIn,List.any_cons]
  cases h:(s.toList==d.toList)with
  |true=>exact .inr ⟨rfl,0,d,_,rfl,by simpa using h,rfl⟩
  |false=>
   rcases find_ent s ds (i+1)with⟨h1,h2⟩|⟨h1,j,e,v,h2,h3,h4⟩
   ·exact .inl ⟨by simpa[isIn]using h1,h2⟩
   ·exact .inr ⟨by simpa[isIn]using h1,j+1,e,v,h2,h3,by rw[show i+(j+1)=i+1+j by omega];exact h4⟩
theorem seen_good:∀(us ds:List ByteArray),∃m,seenM Tryz.prog (us.map .str) (ds.map entD)=some m∧m.length≤ds.length+us.length∧(m.length=ds.length+us.length↔goodS ds us=true)
 |[],ds=>⟨_,rfl,by simp,by simp[goodS]⟩
 |s::r,ds=>by
  simp only[List.map_cons,seenM]
  rcases find_ent s ds 0 with⟨h1,h2⟩|⟨h1,j,d,v,h3,h4,h2⟩
  ·rw[h2]
   simp only[updM]
   obtain⟨m,e1,e2,e3⟩:=seen_good r (ds++[s])
   rw[List.map_append]at e1
   refine⟨m,e1,by simp at e2 ⊢;omega,?_⟩
   simp only[goodS,h1,Bool.not_false,Bool.true_and, ←e3]
   simp;omega
  ·rw[h2]
   simp only[updM,Nat.zero_add]
   obtain⟨m,e1,e2,e3⟩:=seen_good r (ds.set j s)
   rw[List.map_set]at e1
   refine⟨m,e1,by simp at e2 ⊢;omega,?_⟩
   simp only[goodS,h1,Bool.not_true,Bool.false_and,Bool.false_eq_true,iff_false]
   simp at e2 ⊢;omega
theorem strs_map:∀{ns:List D},strsB ns=true→∃us:List ByteArray,ns=us.map .str
 |[],_=>⟨[],rfl⟩
 |x::r,h=>by
  unfold strsB at h
  split at h
  ·rename_i s
   obtain⟨us,rfl⟩:=strs_map h
   exact⟨s::us,rfl⟩
  ·cases h
def okW (us:List ByteArray) (st lp:List D):Option Bool:=
 if us.length>6 then some false else if goodS [] us=false then some false else if lp.length=0 then some false else if(st++lp).length>64 then some false else(anyBad us.length (st++lp)).map (!·)
theorem checkS_okW (us:List ByteArray) (st lp:List D):checkS Tryz.prog (us.map .str) st lp=okW us st lp:=by
 obtain⟨m,e1,e2,e3⟩:=seen_good us []
 unfold checkS okW
 rw[show([]:List D)=([]:List ByteArray).map entD from rfl,e1]
 simp only[List.length_map]
 split
 ·rfl
 ·cases hg:goodS [] us with
  |true=>rw[if_neg (show ¬(m.length≠us.length)by have:=e3.2 hg;simp at this;omega),if_neg (show ¬(true=false)by decide)]
  |false=>rw[if_pos (show m.length≠us.length by intro h;rw[e3.1 (by simpa using h)]at hg;cases hg),if_pos rfl]
end Go.Sc
namespace Go.Sd
open Go Go.Cm Go.Proofs Go.Sc
theorem right_in {us:List ByteArray} {st lp:List D} {M:Int} {i:Nat} {s:ByteArray} (hs:us[i]? =some s) (hn:us.length≤6):∀(n k:Nat),n+k=i→
  Lp K14.L1 (K14.s1 (us.map .str) st lp M i k)=some (match isIn s ((us.take i).drop k)with|true=>(.ret,K14.e1r)|false=>(.exit 2,K14.e1x2 (us.map .str) st lp M i))
 |0,k,hk=>by
  have hr:=K14.round1 (us.map .str) st lp M i k
  rw[if_neg (by rw[decide_eq_true_eq];omega)]at hr
  rw[List.drop_eq_nil_of_le (by simp;omega)]
  exact Lp_exit hr
 |n+1,k,hk=>by
  have hr:=K14.round1 (us.map .str) st lp M i k
  have hi:=(List.getElem?_eq_some_iff.1 hs).1
  have hlt:k<us.length:=by omega
  rw[if_pos (by rw[decide_eq_true_eq];omega),if_pos (by omega),Int.toNat_natCast,List.getElem?_map,hs]at hr
  simp only[Option.map_some]at hr
  rw[if_pos (by omega),Int.toNat_natCast,List.getElem?_map,List.getElem?_eq_getElem hlt]at hr
  simp only[Option.map_some]at hr
  have hc:(us.take i).drop k=us[k]::(us.take i).drop (k+1):=by
   have hl:k<(us.take i).length:=by rw[List.length_take];omega
   rw[List.drop_eq_getElem_cons hl]
   congr 1
   rw[List.getElem_take]
  rw[hc]
  simp only[isIn,List.any_cons]
  cases h:(s.toList==us[k].toList)with
  |true=>
   rw[if_pos h]at hr
   exact Lp_exit hr
  |false=>
   rw[if_neg (by simp[h]),wrap_id (by omega) (by omega)]at hr
   exact Lp_step hr (right_in hs hn n (k+1) (by omega))
theorem right_out {us:List ByteArray} {st lp:List D} (hn:us.length≤6):∀(n i:Nat) (M:Nat),n+i=us.length→M≤2 ^ i→
  Lp K14.L0 (K14.s0 (us.map .str) st lp M i)=some (match goodS (us.take i) (us.drop i)with|false=>(.ret,K14.e0r)|true=>(.exit 0,K14.e0x0 st lp ((M*2 ^ n:Nat):Int)))
 |0,i,M,hk,hM=>by
  have hr:=K14.round0 (us.map .str) st lp M i
  rw[if_neg (by rw[decide_eq_true_eq,List.length_map];omega)]at hr
  rw[List.drop_eq_nil_of_le (by omega)]
  simp only[goodS,Nat.pow_zero,Nat.mul_one]
  exact Lp_exit hr
 |n+1,i,M,hk,hM=>by
  have hr:=K14.round0 (us.map .str) st lp M i
  have hlt:i<us.length:=by omega
  have hp:(2:Nat) ^ i≤2 ^ 6:=Nat.pow_le_pow_right (by decide) (by omega)
  have hw:IntKind.wrap .i64 (2*(M:Int))=((2*M:Nat):Int):=by rw[wrap_id (by omega) (by omega)];omega
  rw[if_pos (by rw[decide_eq_true_eq,List.length_map];omega),hw]at hr
  have hin:Lp K14.L1 (K14.s1 (us.map .str) st lp ((2*M:Nat):Int) i 0)=_:=right_in (st:=st) (lp:=lp) (M:=((2*M:Nat):Int)) (List.getElem?_eq_getElem hlt) hn i 0 rfl
  rw[List.drop_zero]at hin
  rw[List.drop_eq_getElem_cons hlt]
  simp only[goodS]
  cases h:isIn us[i] (us.take i)with
  |true=>
   rw[h]at hin
   rw[K14.behind1r _ hin]at hr
   exact Lp_exit hr
  |false=>
   rw[h]at hin
   rw[K14.behind1x2 (us.map .str) st lp _ _ _ hin,wrap_id (by omega) (by omega)]at hr
   have ih:=right_out (st:=st) (lp:=lp) hn n (i+1) (2*M) (by omega) (by rw[Nat.pow_succ];omega)
   rw[show us.take (i+1)=us.take i++[us[i]]from by rw[List.take_add_one,List.getElem?_eq_getElem hlt];rfl,show 2*M*2 ^ n=M*2 ^ (n+1)from by rw[Nat.pow_succ,Nat.mul_comm 2 M,Nat.mul_assoc,Nat.mul_comm 2]]at ih
   exact Lp_step hr ih
theorem badI_iff {n:Nat} (hn:n≤6) (v:Int):badI n v=(decide (v<0)||decide (v≥((2 ^ n:Nat):Int))):=by
 have h:n=0∨n=1∨n=2∨n=3∨n=4∨n=5∨n=6:=by omega
 unfold badI
 rcases h with rfl|rfl|rfl|rfl|rfl|rfl|rfl
 ·rw[show IntKind.wrap .i64 (1*2 ^ min 0 64)=((2 ^ 0:Nat):Int)from by decide]
 ·rw[show IntKind.wrap .i64 (1*2 ^ min 1 64)=((2 ^ 1:Nat):Int)from by decide]
 ·rw[show IntKind.wrap .i64 (1*2 ^ min 2 64)=((2 ^ 2:Nat):Int)from by decide]
 ·rw[show IntKind.wrap .i64 (1*2 ^ min 3 64)=((2 ^ 3:Nat):Int)from by decide]
 ·rw[show IntKind.wrap .i64 (1*2 ^ min 4 64)=((2 ^ 4:Nat):Int)from by decide]
 ·rw[show IntKind.wrap .i64 (1*2 ^ min 5 64)=((2 ^ 5:Nat):Int)from by decide]
 ·rw[show IntKind.wrap .i64 (1*2 ^ min 6 64)=((2 ^ 6:Nat):Int)from by decide]
theorem right_fin {st lp:List D} {n:Nat} (hn:n≤6) (hl:lp.length≠0) (hb:(st++lp).length≤64):∀(r:List D) (i:Nat) (v:Bool),(st++lp).drop i=r→anyBad n r=some v→
  Lp K14.L2 (K14.s2 st lp i ((2 ^ n:Nat):Int))=some (match v with|true=>(.ret,K14.e2r)|false=>(.exit 4,K14.e2x4))
 |[],i,v,hd,h=>by
  simp only[anyBad,Option.some.injEq]at h
  subst h
  have hr:=K14.round2 st lp i ((2 ^ n:Nat):Int)
  have:(st++lp).length≤i:=by have:=congrArg List.length hd;simp at this ⊢;omega
  rw[List.length_append]at this hb
  rw[if_neg (by rw[decide_eq_true_eq,wrap_id (by omega) (by omega)];omega)]at hr
  exact Lp_exit hr
 |x::r,i,v,hd,h=>by
  have hr:=K14.round2 st lp i ((2 ^ n:Nat):Int)
  have hlt:i<(st++lp).length:=by
   rcases Nat.lt_or_ge i (st++lp).length with h|h
   ·exact h
   ·rw[List.drop_eq_nil_of_le h]at hd;cases hd
  have hc:=List.drop_eq_getElem_cons hlt
  rw[hd]at hc
  have hx:(st++lp)[i]? =some x:=by rw[List.getElem?_eq_getElem hlt, ←(List.cons.inj hc).1]
  simp only[anyBad]at h
  split at h
  ·rename_i m
   have hlet:letD st lp i=some m:=by
    unfold letD
    rw[List.length_append]at hlt hb
    by_cases hs:i<st.length
    ·rw[if_pos (by omega)]
     unfold iAt
     rw[List.getElem?_append_left hs]at hx
     rw[if_pos (by omega),Int.toNat_natCast,hx]
    ·rw[if_neg (by omega),if_neg hl]
     rw[List.getElem?_append_right (by omega)]at hx
     have e:Int.tmod ((i:Int) - st.length) lp.length=((i - st.length:Nat):Int):=by
      rw[show(i:Int) - (st.length:Int)=((i - st.length:Nat):Int)by omega]
      exact Int.tmod_eq_of_lt (by omega) (by omega)
     unfold iAt
     rw[e,if_pos (by omega),Int.toNat_natCast,hx]
   rw[List.length_append]at hb hlt
   rw[if_pos (by rw[decide_eq_true_eq,wrap_id (by omega) (by omega)];omega),hlet]at hr
   simp only at hr
   rw[if_pos ⟨by omega,by omega,by omega⟩]at hr
   rw[badI_iff hn]at h
   by_cases c1:m<0
   ·rw[if_pos (by simpa using c1)]at hr
    rw[if_pos (by simp[c1])]at h
    cases h
    exact Lp_exit hr
   ·rw[if_neg (by simpa using c1)]at hr
    by_cases c2:m≥((2 ^ n:Nat):Int)
    ·rw[if_pos (by rw[decide_eq_true_eq];exact c2)]at hr
     rw[if_pos (by rw[Bool.or_eq_true];exact .inr (by rw[decide_eq_true_eq];exact c2))]at h
     cases h
     exact Lp_exit hr
    ·rw[if_neg (by rw[decide_eq_true_eq];exact c2),wrap_id (by omega) (by omega)]at hr
     rw[if_neg (by rw[Bool.or_eq_true,decide_eq_true_eq,decide_eq_true_eq];rintro(h|h);exact c1 h;exact c2 h)]at h
     exact Lp_step hr (right_fin hn hl (by rw[List.length_append];exact hb) r (i+1) v (List.cons.inj hc).2.symm h)
  ·cases h
theorem vcRightX:VC 14 cRightX:=by
 intro β args k r hr
 change cRightX args k=some r at hr
 have hbig:big=34359738368:=rfl
 unfold cRightX at hr
 split at hr
 ·rename_i ns st lp
  split at hr
  ·rename_i v hv
   unfold rightX at hv
   split at hv
   ·rename_i hc
    obtain⟨hc1,hc2,hc3⟩:=hc
    obtain⟨us,rfl⟩:=strs_map hc1
    rw[checkS_okW]at hv
    refine⟨_,_,hr,valid_of (E:=WLt) (EnvOk.none.add (io:=io0) vcLetD) mixed Tryz.func14 (by kernel_rfl) ?_⟩
    refine(K14.start (us.map .str) st lp fun a b=>some (a,b)).trans ?_
    rw[List.length_map]at hc2 ⊢
    unfold okW at hv
    by_cases c1:us.length>6
    ·rw[if_pos c1]at hv;cases hv
     rw[if_pos (by rw[decide_eq_true_eq];omega)]
    ·rw[if_neg c1]at hv
     rw[if_neg (by rw[decide_eq_true_eq];omega)]
     have lo:Lp K14.L0 (K14.s0 (us.map .str) st lp 1 0)=_:=right_out (st:=st) (lp:=lp) (us:=us) (by omega) us.length 0 1 rfl (by decide)
     rw[List.take_zero,List.drop_zero,Nat.one_mul]at lo
     by_cases c3:lp.length=0
     ·rw[if_pos (by simpa using c3)]
      rw[show v=false from by split at hv<;>cases hv<;>rfl]
     ·rw[if_neg (by simpa using c3)]
      have hw:IntKind.wrap .i64 ((st.length:Int)+(lp.length:Int))=(st.length:Int)+lp.length:=wrap_id (by omega) (by omega)
      by_cases c4:(st++lp).length>64
      ·rw[if_pos (by rw[decide_eq_true_eq,hw];rw[List.length_append]at c4;omega)]
       rw[show v=false from by split at hv<;>cases hv<;>rfl]
      ·rw[if_neg (by rw[decide_eq_true_eq,hw];rw[List.length_append]at c4;omega)]
       cases hg:goodS [] us with
       |false=>
        rw[hg]at hv lo
        rw[if_pos rfl]at hv;cases hv
        rw[K14.behind0r _ _ _ _ _ lo]
       |true=>
        rw[hg]at hv lo
        rw[if_neg (by decide),if_neg c3,if_neg c4]at hv
        rw[K14.behind0x0 _ _ _ _ _ _ lo]
        cases hb:anyBad us.length (st++lp)with
        |none=>rw[hb]at hv;cases hv
        |some b=>
         rw[hb]at hv
         obtain rfl:v= !b:=(Option.some.inj hv).symm
         have lf:Lp K14.L2 (K14.s2 st lp 0 ((2 ^ us.length:Nat):Int))=_:=right_fin (by omega) c3 (by omega) (st++lp) 0 b rfl hb
         cases b with
         |true=>exact K14.behind2r _ _ _ _ _ lf
         |false=>exact K14.behind2x4 _ _ _ _ _ lf
   ·cases hv
  ·cases hr
 ·cases hr
end Go.Sd
namespace Go.Sc
open Go Go.Cm Go.Proofs
theorem sat_congr {lb:ByteArray→Nat→Prop}:∀(t:Pr) (k k':Nat),(∀d s,lb s (k+d)↔lb s (k'+d))→(t.sat lb k↔t.sat lb k')
 |.tt,k,k',h=>Iff.rfl
 |.ff,k,k',h=>Iff.rfl
 |.lab s,k,k',h=>h 0 s
 |.un .no a,k,k',h=>not_congr (sat_congr a k k' h)
 |.un .X a,k,k',h=>sat_congr a (k+1) (k'+1) fun d s=>by have:=h (1+d) s;rw[←Nat.add_assoc, ←Nat.add_assoc]at this;exact this
 |.un .F a,k,k',h=>by
  simp only[Pr.sat]
  exact exists_congr fun e=>sat_congr a (k+e) (k'+e) fun d s=>by rw[Nat.add_assoc,Nat.add_assoc];exact h (e+d) s
 |.un .G a,k,k',h=>by
  simp only[Pr.sat]
  exact forall_congr' fun e=>sat_congr a (k+e) (k'+e) fun d s=>by rw[Nat.add_assoc,Nat.add_assoc];exact h (e+d) s
 |.bi .and a b,k,k',h=>and_congr (sat_congr a k k' h) (sat_congr b k k' h)
 |.bi .or a b,k,k',h=>or_congr (sat_congr a k k' h) (sat_congr b k k' h)
 |.bi .imp a b,k,k',h=>imp_congr (sat_congr a k k' h) (sat_congr b k k' h)
 |.bi .U a b,k,k',h=>by
  have ha:∀e,a.sat lb (k+e)↔a.sat lb (k'+e):=fun e=>sat_congr a (k+e) (k'+e) fun d s=>by rw[Nat.add_assoc,Nat.add_assoc];exact h (e+d) s
  have hb:∀e,b.sat lb (k+e)↔b.sat lb (k'+e):=fun e=>sat_congr b (k+e) (k'+e) fun d s=>by rw[Nat.add_assoc,Nat.add_assoc];exact h (e+d) s
  simp only[Pr.sat,UntP,ha,hb]
 |.bi .W a b,k,k',h=>by
  have ha:∀e,a.sat lb (k+e)↔a.sat lb (k'+e):=fun e=>sat_congr a (k+e) (k'+e) fun d s=>by rw[Nat.add_assoc,Nat.add_assoc];exact h (e+d) s
  have hb:∀e,b.sat lb (k+e)↔b.sat lb (k'+e):=fun e=>sat_congr b (k+e) (k'+e) fun d s=>by rw[Nat.add_assoc,Nat.add_assoc];exact h (e+d) s
  simp only[Pr.sat,UntP,ha,hb]
 |.bi .R a b,k,k',h=>by
  have ha:∀e,a.sat lb (k+e)↔a.sat lb (k'+e):=fun e=>sat_congr a (k+e) (k'+e) fun d s=>by rw[Nat.add_assoc,Nat.add_assoc];exact h (e+d) s
  have hb:∀e,b.sat lb (k+e)↔b.sat lb (k'+e):=fun e=>sat_congr b (k+e) (k'+e) fun d s=>by rw[Nat.add_assoc,Nat.add_assoc];exact h (e+d) s
  simp only[Pr.sat,UntP,ha,hb]
theorem posN_eq {n bk:Nat} (h:bk<n):∀k,posN n bk k=if k<n then k else bk+(k - bk) % (n - bk)
 |0=>by rw[posN,if_pos (by omega)]
 |k+1=>by
  rw[posN,posN_eq h k]
  unfold nxN
  by_cases c:k<n
  ·rw[if_pos c]
   by_cases c2:k+1<n
   ·rw[if_pos c2,if_pos c2]
   ·rw[if_neg c2,if_neg c2,show k+1 - bk=n - bk by omega,Nat.mod_self,Nat.add_zero]
  ·rw[if_neg c,if_neg (show ¬k+1<n by omega)]
   have hm:=Nat.mod_lt (k - bk) (show 0<n - bk by omega)
   rw[show k+1 - bk=(k - bk)+1 by omega,Nat.add_mod]
   by_cases c2:(k - bk) % (n - bk)+1<n - bk
   ·rw[if_pos (by omega)]
    by_cases c3:n - bk=1
    ·omega
    ·rw[Nat.mod_eq_of_lt (show 1<n - bk by omega),Nat.mod_eq_of_lt c2];omega
   ·rw[if_neg (by omega)]
    by_cases c3:n - bk=1
    ·rw[c3];simp[Nat.mod_one]
    ·rw[Nat.mod_eq_of_lt (show 1<n - bk by omega),show(k - bk) % (n - bk)+1=n - bk by omega,Nat.mod_self];omega
theorem posN_add {n bk:Nat} {k k':Nat} (h:posN n bk k=posN n bk k'):∀d,posN n bk (k+d)=posN n bk (k'+d)
 |0=>h
 |d+1=>by rw[←Nat.add_assoc, ←Nat.add_assoc,posN,posN,posN_add h d]
section
variable {ns st lp:List D}
theorem sat_pos (t:Pr) {k k':Nat} (h:posN (st.length+lp.length) st.length k=posN (st.length+lp.length) st.length k'):t.sat (lbAt ns (strm st lp)) k↔t.sat (lbAt ns (strm st lp)) k':=
 sat_congr t k k' fun d s=>by
  have e:=posN_add h d
  unfold lbAt strm
  rw[e]
theorem sat_norm (t:Pr) (hl:lp.length≠0) {k:Nat} (h:st.length+lp.length≤k):t.sat (lbAt ns (strm st lp)) (st.length+(k - st.length) % lp.length)↔t.sat (lbAt ns (strm st lp)) k:=by
 have hm:=Nat.mod_lt (k - st.length) (show 0<lp.length by omega)
 refine sat_pos t ?_
 rw[posN_eq (by omega),posN_eq (by omega),if_pos (by omega),if_neg (by omega),show st.length+lp.length - st.length=lp.length by omega]
theorem within {p:Nat→Prop} (hp:∀k k',posN (st.length+lp.length) st.length k=posN (st.length+lp.length) st.length k'→p k→p k') (hl:lp.length≠0) {i:Nat} (hi:i<st.length+lp.length) (d:Nat) (hd:p (i+d)):
  ∃d',d'<st.length+lp.length∧d'≤d∧p (i+d'):=by
 by_cases c:d<st.length+lp.length
 ·exact⟨d,c,Nat.le_refl _,hd⟩
 ·have hq:=posN_eq (n:=st.length+lp.length) (bk:=st.length) (by omega) (i+d)
  rw[if_neg (by omega),show st.length+lp.length - st.length=lp.length by omega]at hq
  have hm:=Nat.mod_lt (i+d - st.length) (show 0<lp.length by omega)
  generalize hr:(i+d - st.length) % lp.length=r at hq hm
  by_cases c2:i≤st.length+r
  ·refine⟨st.length+r - i,by omega,by omega,hp _ _ ?_ hd⟩
   rw[hq,posN_eq (by omega),if_pos (by omega)];omega
  ·refine⟨st.length+r+lp.length - i,by omega,by omega,hp _ _ ?_ hd⟩
   rw[hq,posN_eq (by omega),if_neg (by omega),show st.length+lp.length - st.length=lp.length by omega,show i+(st.length+r+lp.length - i) - st.length=r+lp.length by omega,Nat.add_mod_right,Nat.mod_eq_of_lt hm]
end
def scanW (P Q:Nat→Bool) (e:Bool):Nat→Nat→Bool
 |0,_=>e
 |m+1,k=>match P k with
  |true=>true
  |false=>match Q k with
   |true=>scanW P Q e m (k+1)
   |false=>false
theorem scanW_true (P Q:Nat→Bool) (e:Bool):∀(m k:Nat),scanW P Q e m k=true↔(∃d,d<m∧P (k+d)=true∧∀j,j<d→Q (k+j)=true)∨(e=true∧∀j,j<m→Q (k+j)=true)
 |0,k=>by
  simp only[scanW]
  constructor
  ·exact fun h=>.inr ⟨h,fun j hj=>absurd hj (Nat.not_lt_zero _)⟩
  ·rintro(⟨d,h,_⟩|⟨h,_⟩)
   ·exact absurd h (Nat.not_lt_zero _)
   ·exact h
 |m+1,k=>by
  simp only[scanW]
  cases hP:P k with
  |true=>exact⟨fun _=>.inl ⟨0,by omega,hP,fun j hj=>absurd hj (Nat.not_lt_zero _)⟩,fun _=>rfl⟩
  |false=>
   cases hQ:Q k with
   |true=>
    simp only
    rw[scanW_true P Q e m (k+1)]
    constructor
    ·rintro(⟨d,h1,h2,h3⟩|⟨h1,h2⟩)
     ·refine .inl ⟨d+1,by omega,by rw[show k+(d+1)=k+1+d by omega];exact h2,fun j hj=>?_⟩
      cases j with
      |zero=>exact hQ
      |succ j=>rw[show k+(j+1)=k+1+j by omega];exact h3 j (by omega)
     ·refine .inr ⟨h1,fun j hj=>?_⟩
      cases j with
      |zero=>exact hQ
      |succ j=>rw[show k+(j+1)=k+1+j by omega];exact h2 j (by omega)
    ·rintro(⟨d,h1,h2,h3⟩|⟨h1,h2⟩)
     ·cases d with
      |zero=>rw[Nat.add_zero,hP]at h2;cases h2
      |succ d=>exact .inl ⟨d,by omega,by rw[show k+1+d=k+(d+1)by omega];exact h2,fun j hj=>by rw[show k+1+j=k+(j+1)by omega];exact h3 (j+1) (by omega)⟩
     ·exact .inr ⟨h1,fun j hj=>by rw[show k+1+j=k+(j+1)by omega];exact h2 (j+1) (by omega)⟩
   |false=>
    constructor
    ·exact fun h=>by cases h
    ·rintro(⟨d,h1,h2,h3⟩|⟨h1,h2⟩)
     ·cases d with
      |zero=>rw[Nat.add_zero,hP]at h2;cases h2
      |succ d=>have:=h3 0 (by omega);rw[Nat.add_zero,hQ]at this;cases this
     ·have:=h2 0 (by omega);rw[Nat.add_zero,hQ]at this;cases this
end Go.Sc
set_option maxRecDepth 100000
namespace Go.Sc
open Go Go.Cm Go.Proofs
open Classical in
noncomputable def sB (ns st lp:List D) (t:Pr) (k:Nat):Bool:=decide (t.sat (lbAt ns (strm st lp)) k)
open Classical in
theorem sB_iff {ns st lp:List D} {t:Pr} {k:Nat}:sB ns st lp t k=true↔t.sat (lbAt ns (strm st lp)) k:=by unfold sB;exact decide_eq_true_iff
theorem sB_eq {ns st lp:List D} {t:Pr} {k:Nat} {b:Bool} (h:b=true↔t.sat (lbAt ns (strm st lp)) k):b=sB ns st lp t k:=by rw[Bool.eq_iff_iff,h,sB_iff]
structure Cx (ns st lp:List D):Prop where
 hs:strsB ns=true
 hc:checkS Tryz.prog ns st lp=some true
 ne:lp.length≠0
 len:st.length+lp.length≤64
 nam:ns.length≤6
 lets:∀i,i<st.length+lp.length→∃v:Int,(st++lp)[i]? =some (.int .i64 v)∧0≤v∧v<64
theorem anyBad_at {n:Nat} (hn:n≤6):∀(l:List D),anyBad n l=some false→∀i,i<l.length→∃v:Int,l[i]? =some (.int .i64 v)∧0≤v∧v<64
 |[],_,i,hi=>absurd hi (Nat.not_lt_zero _)
 |x::r,h,i,hi=>by
  simp only[anyBad]at h
  split at h
  ·rename_i m
   split at h
   ·cases h
   ·rename_i hb
    cases i with
    |zero=>
     rw[Go.Sd.badI_iff hn,Bool.or_eq_true,decide_eq_true_eq,decide_eq_true_eq]at hb
     have hp:(2:Nat) ^ n≤2 ^ 6:=Nat.pow_le_pow_right (by decide) hn
     exact⟨m,rfl,by omega,by omega⟩
    |succ i=>rw[List.getElem?_cons_succ];exact anyBad_at hn r h i (by simpa using hi)
  ·cases h
theorem cx_of {ns st lp:List D} (hs:strsB ns=true) (hc:checkS Tryz.prog ns st lp=some true):Cx ns st lp:=by
 obtain⟨us,rfl⟩:=strs_map hs
 have h:=hc
 rw[checkS_okW]at h
 unfold okW at h
 split at h
 ·cases h
 ·rename_i h1
  split at h
  ·cases h
  ·split at h
   ·cases h
   ·rename_i h3
    split at h
    ·cases h
    ·rename_i h4
     cases hb:anyBad us.length (st++lp)with
     |none=>rw[hb]at h;cases h
     |some b=>
      cases b with
      |true=>rw[hb]at h;cases h
      |false=>
       rw[List.length_append]at h4
       exact⟨hs,hc,h3,by omega,by rw[List.length_map];omega,fun i hi=>anyBad_at (by omega) _ hb i (by rw[List.length_append];exact hi)⟩
structure Kd (b:Option Nat) (ns:List D) (f:Fm) (t:Pr):Prop where
 bd:bd b f
 abs:f.abs=some t
 labs:t.labs (lbOk ns)
theorem satX_k {b:Option Nat} {ns st lp:List D} {f:Fm} {t:Pr} (c:Cx ns st lp) (k:Kd b ns f t) {j:Nat} (hj:j≤1000):satX Tryz.prog b f.d ns st lp (j:Int)=some (sB ns st lp t j):=by
 unfold satX
 rw[ofD_d]
 simp only[k.abs]
 rw[if_pos ⟨k.bd,c.hs,c.hc,k.labs,by omega,by omega⟩]
 rfl
theorem satX_some {b:Option Nat} {x:D} {ns st lp:List D} {i:Int} {v:Bool} (h:satX Tryz.prog b x ns st lp i=some v):
  ∃f t,ofD x=some f∧Kd b ns f t∧Cx ns st lp∧0≤i∧i≤1000∧v=sB ns st lp t i.toNat:=by
 unfold satX at h
 split at h
 ·rename_i f hf
  split at h
  ·rename_i t ht
   split at h
   ·rename_i hc
    cases h
    exact⟨f,t,hf,⟨hc.1,ht,hc.2.2.2.1⟩,cx_of hc.2.1 hc.2.2.1,hc.2.2.2.2.1,hc.2.2.2.2.2,rfl⟩
   ·cases h
  ·cases h
 ·cases h
section
variable {ns st lp:List D}
theorem sat_inv (t:Pr):∀k k',posN (st.length+lp.length) st.length k=posN (st.length+lp.length) st.length k'→t.sat (lbAt ns (strm st lp)) k→t.sat (lbAt ns (strm st lp)) k':=fun k k' h=>(sat_pos t h).1
theorem scan_until (c:Cx ns st lp) {p q:Nat→Prop} {P Q:Nat→Bool} (hp:∀k k',posN (st.length+lp.length) st.length k=posN (st.length+lp.length) st.length k'→p k→p k')
  (hq:∀k k',posN (st.length+lp.length) st.length k=posN (st.length+lp.length) st.length k'→q k→q k') (hP:∀k,P k=true↔p k) (hQ:∀k,Q k=true↔q k) {i:Nat} (hi:i<st.length+lp.length) (e:Bool):
  scanW P Q e (st.length+lp.length) i=true↔UntP p q i∨(e=true∧∀d,q (i+d)):=by
 rw[scanW_true]
 simp only[hP,hQ]
 constructor
 ·rintro(⟨d,h1,h2,h3⟩|⟨h1,h2⟩)
  ·exact .inl ⟨d,h2,h3⟩
  ·refine .inr ⟨h1,fun d=>Classical.byContradiction fun hn=>?_⟩
   obtain⟨d',g1,_,g3⟩:=within (p:=fun k=>¬q k) (fun k k' hk h h'=>h (hq k' k hk.symm h')) c.ne hi d hn
   exact g3 (h2 d' g1)
 ·rintro(⟨d,h1,h2⟩|⟨h1,h2⟩)
  ·obtain⟨d',g1,g2,g3⟩:=within hp c.ne hi d h1
   exact .inl ⟨d',g1,g3,fun j hj=>h2 j (by omega)⟩
  ·exact .inr ⟨h1,fun j _=>h2 j⟩
end
def halve:Nat→Int→Int
 |0,c=>c
 |n+1,c=>halve n (Int.tdiv c 2)
theorem bits_all:((List.range 64).all fun m=>(List.range 6).all fun i=>bitA (m:Int) (i:Int)==(Int.tmod (halve i (m:Int)) 2==1))=true:=by kernel_rfl
theorem bit_eq {m i:Int} (h0:0≤m) (h1:m<64) (h2:0≤i) (h3:i<6):bitA m i=(Int.tmod (halve i.toNat m) 2==1):=by
 have h:=List.all_eq_true.1 (List.all_eq_true.1 bits_all m.toNat (List.mem_range.2 (by omega))) i.toNat (List.mem_range.2 (by omega))
 rw[beq_iff_eq,Int.toNat_of_nonneg h0,Int.toNat_of_nonneg h2]at h
 exact h
theorem idxN_lt (s:ByteArray):∀(ns:List D) (k:Nat) (v:Int),idxN s ns k=some v→v<((k+ns.length:Nat):Int)
 |[],k,v,h=>by simp only[idxN,Option.some.injEq]at h;subst h;omega
 |x::r,k,v,h=>by
  simp only[idxN]at h
  split at h
  ·split at h
   ·cases h;simp only[List.length_cons];omega
   ·have:=idxN_lt s r (k+1) v h;simp only[List.length_cons];omega
  ·cases h
end Go.Sc
namespace Go.Sd
open Go Go.Cm Go.Proofs Go.Sc
theorem half_loop {b:Option Nat}:∀(n:Nat) (c:Int),0≤c→c<64→n≤6→Lp (K17.L0 b) (K17.s0 c n)=some (.exit 1,K17.e0x1 (halve n c))
 |0,c,h0,h1,h2=>by
  have hr:=K17.round0_0 b c 0
  rw[if_neg (by decide)]at hr
  exact Lp_exit hr
 |n+1,c,h0,h1,h2=>by
  have hr:=K17.round0_0 b c ((n+1:Nat):Int)
  have h3:0≤Int.tdiv c 2∧Int.tdiv c 2<64:=by
   obtain⟨m,rfl⟩:∃m:Nat,c=m:=⟨c.toNat,by omega⟩
   rw[show(2:Int)=((2:Nat):Int)from rfl, ←Int.ofNat_tdiv]
   omega
  rw[if_pos (by rw[decide_eq_true_eq];omega),wrap_id (by omega) (by omega),wrap_id (by omega) (by omega),show((n+1:Nat):Int) - 1=(n:Int)by omega]at hr
  exact Lp_step hr (half_loop n _ h3.1 h3.2 (by omega))
section
variable {b:Option Nat} {op nm:ByteArray} {p:Int} {ns st lp:List D} {x y:Pr} {f g:Fm} {t:Bool} {j:Nat}
theorem wr_len (c:Cx ns st lp):IntKind.wrap .i64 ((st.length:Int)+(lp.length:Int))=((st.length+lp.length:Nat):Int):=by have:=c.len;rw[wrap_id (by omega) (by omega)];omega
theorem F_loop (c:Cx ns st lp) (k1:Kd b ns f x) (hj:j≤128):∀(m k:Nat),m+k=st.length+lp.length→
  Lp (K17.L1 b) (K17.s1 op nm [f.d] p ns st lp t j k)=some (match scanW (sB ns st lp x) (fun _=>true) false m (j+k)with|true=>(.ret,K17.e1r)|false=>(.exit 3,K17.e1x3))
 |0,k,h=>by
  have hr:=K17.round1_0 b op nm [f.d] p ns st lp t j k
  rw[wr_len c,if_neg (by rw[decide_eq_true_eq];omega)]at hr
  exact Lp_exit hr
 |m+1,k,h=>by
  have hr:=K17.round1_0 b op nm [f.d] p ns st lp t j k
  have hl:=c.len
  have hx:=satX_k c k1 (j:=j+k) (by omega)
  rw[wr_len c,if_pos (by rw[decide_eq_true_eq];omega),List.getElem?_cons_zero,wrap_id (show -9223372036854775808≤(j:Int)+(k:Int)by omega) (by omega),show(j:Int)+(k:Int)=((j+k:Nat):Int)by omega]at hr
  have ih:=F_loop c k1 hj m (k+1) (by omega)
  rw[←Nat.add_assoc]at ih
  simp only[scanW]
  cases f with
  |mk o n ks q=>
   simp only[Fm.d]at hr hx ih ⊢
   simp only[if_true,hx,wrap_id (show -9223372036854775808≤(k:Int)+1 by omega) (by omega)]at hr
   cases hs:sB ns st lp x (j+k)with
   |true=>rw[hs]at hr;exact Lp_exit hr
   |false=>rw[hs]at hr;exact Lp_step hr ih
theorem G_loop (c:Cx ns st lp) (k1:Kd b ns f x) (hj:j≤128):∀(m k:Nat),m+k=st.length+lp.length→
  Lp (K17.L2 b) (K17.s2 op nm [f.d] p ns st lp t j k)=some (match scanW (fun _=>false) (sB ns st lp x) true m (j+k)with|false=>(.ret,K17.e2r)|true=>(.exit 5,K17.e2x5))
 |0,k,h=>by
  have hr:=K17.round2_0 b op nm [f.d] p ns st lp t j k
  rw[wr_len c,if_neg (by rw[decide_eq_true_eq];omega)]at hr
  exact Lp_exit hr
 |m+1,k,h=>by
  have hr:=K17.round2_0 b op nm [f.d] p ns st lp t j k
  have hl:=c.len
  have hx:=satX_k c k1 (j:=j+k) (by omega)
  rw[wr_len c,if_pos (by rw[decide_eq_true_eq];omega),List.getElem?_cons_zero,wrap_id (show -9223372036854775808≤(j:Int)+(k:Int)by omega) (by omega),show(j:Int)+(k:Int)=((j+k:Nat):Int)by omega]at hr
  have ih:=G_loop c k1 hj m (k+1) (by omega)
  rw[←Nat.add_assoc]at ih
  simp only[scanW]
  cases f with
  |mk o n ks q=>
   simp only[Fm.d]at hr hx ih ⊢
   simp only[if_true,hx,wrap_id (show -9223372036854775808≤(k:Int)+1 by omega) (by omega)]at hr
   cases hs:sB ns st lp x (j+k)with
   |true=>rw[hs]at hr;exact Lp_step hr ih
   |false=>rw[hs]at hr;exact Lp_exit hr
theorem R_loop (c:Cx ns st lp) (k1:Kd b ns f x) (k2:Kd b ns g y) (hj:j≤128):∀(m k:Nat),m+k=st.length+lp.length→
  Lp (K17.L3 b) (K17.s3 op nm [f.d,g.d] p ns st lp t j k)=some (match scanW (fun i=>sB ns st lp y i&&sB ns st lp x i) (sB ns st lp y) true m (j+k),scanW (fun i=>sB ns st lp y i&&sB ns st lp x i) (sB ns st lp y) false m (j+k)with|false,_=>(.ret,K17.e3r false)|true,true=>(.ret,K17.e3r true)|true,false=>(.exit 7,K17.e3x7))
 |0,k,h=>by
  have hr:=K17.round3_0 b op nm [f.d,g.d] p ns st lp t j k
  rw[wr_len c,if_neg (by rw[decide_eq_true_eq];omega)]at hr
  exact Lp_exit hr
 |m+1,k,h=>by
  have hr:=K17.round3_0 b op nm [f.d,g.d] p ns st lp t j k
  have hl:=c.len
  have hx:=satX_k c k1 (j:=j+k) (by omega)
  have hy:=satX_k c k2 (j:=j+k) (by omega)
  rw[wr_len c,if_pos (by rw[decide_eq_true_eq];omega),List.getElem?_cons_zero,List.getElem?_cons_succ,List.getElem?_cons_zero,wrap_id (show -9223372036854775808≤(j:Int)+(k:Int)by omega) (by omega),show(j:Int)+(k:Int)=((j+k:Nat):Int)by omega]at hr
  have ih:=R_loop c k1 k2 hj m (k+1) (by omega)
  rw[←Nat.add_assoc]at ih
  simp only[scanW]
  cases f with
  |mk o n ks q=>
   cases g with
   |mk o2 n2 ks2 q2=>
    simp only[Fm.d]at hr hx hy ih ⊢
    simp only[if_true,hx,hy,wrap_id (show -9223372036854775808≤(k:Int)+1 by omega) (by omega)]at hr
    cases hs:sB ns st lp y (j+k)with
    |true=>
     rw[hs]at hr
     cases hs2:sB ns st lp x (j+k)with
     |true=>rw[hs2]at hr;exact Lp_exit hr
     |false=>rw[hs2]at hr;exact Lp_step hr ih
    |false=>rw[hs]at hr;exact Lp_exit hr
theorem U_loop (c:Cx ns st lp) (k1:Kd b ns f x) (k2:Kd b ns g y) (hj:j≤128):∀(m k:Nat),m+k=st.length+lp.length→
  Lp (K17.L4 b) (K17.s4 op nm [f.d,g.d] p ns st lp t j k)=some (match scanW (sB ns st lp y) (sB ns st lp x) true m (j+k),scanW (sB ns st lp y) (sB ns st lp x) false m (j+k)with|false,_=>(.ret,K17.e4r false)|true,true=>(.ret,K17.e4r true)|true,false=>(.exit 9,K17.e4x9 op nm [f.d,g.d] p))
 |0,k,h=>by
  have hr:=K17.round4_0 b op nm [f.d,g.d] p ns st lp t j k
  rw[wr_len c,if_neg (by rw[decide_eq_true_eq];omega)]at hr
  exact Lp_exit hr
 |m+1,k,h=>by
  have hr:=K17.round4_0 b op nm [f.d,g.d] p ns st lp t j k
  have hl:=c.len
  have hx:=satX_k c k1 (j:=j+k) (by omega)
  have hy:=satX_k c k2 (j:=j+k) (by omega)
  rw[wr_len c,if_pos (by rw[decide_eq_true_eq];omega),List.getElem?_cons_zero,List.getElem?_cons_succ,List.getElem?_cons_zero,wrap_id (show -9223372036854775808≤(j:Int)+(k:Int)by omega) (by omega),show(j:Int)+(k:Int)=((j+k:Nat):Int)by omega]at hr
  have ih:=U_loop c k1 k2 hj m (k+1) (by omega)
  rw[←Nat.add_assoc]at ih
  simp only[scanW]
  cases f with
  |mk o n ks q=>
   cases g with
   |mk o2 n2 ks2 q2=>
    simp only[Fm.d]at hr hx hy ih ⊢
    simp only[if_true,hx,hy,wrap_id (show -9223372036854775808≤(k:Int)+1 by omega) (by omega)]at hr
    cases hs:sB ns st lp y (j+k)with
    |true=>rw[hs]at hr;exact Lp_exit hr
    |false=>
     rw[hs]at hr
     cases hs2:sB ns st lp x (j+k)with
     |true=>rw[hs2]at hr;exact Lp_step hr ih
     |false=>rw[hs2]at hr;exact Lp_exit hr
end
end Go.Sd
set_option maxRecDepth 100000
namespace Go.Sc
open Go Go.Cm Go.Proofs
section
variable {ns st lp:List D} {x y:Pr} {k:Nat}
theorem sB_tt:sB ns st lp .tt k=true:=sB_iff.2 trivial
theorem sB_ff:sB ns st lp .ff k=false:=by rw[←Bool.not_eq_true,sB_iff];exact fun h=>h
theorem sB_no:sB ns st lp (.un .no x) k= !sB ns st lp x k:=by rw[Bool.eq_iff_iff,Bool.not_eq_true', ←Bool.not_eq_true,sB_iff,sB_iff];exact Iff.rfl
theorem sB_X:sB ns st lp (.un .X x) k=sB ns st lp x (k+1):=by rw[Bool.eq_iff_iff,sB_iff,sB_iff];exact Iff.rfl
theorem sB_and:sB ns st lp (.bi .and x y) k=(sB ns st lp x k&&sB ns st lp y k):=by rw[Bool.eq_iff_iff,Bool.and_eq_true,sB_iff,sB_iff,sB_iff];exact Iff.rfl
theorem sB_or:sB ns st lp (.bi .or x y) k=(sB ns st lp x k||sB ns st lp y k):=by rw[Bool.eq_iff_iff,Bool.or_eq_true,sB_iff,sB_iff,sB_iff];exact Iff.rfl
theorem sB_imp:sB ns st lp (.bi .imp x y) k=(!sB ns st lp x k||sB ns st lp y k):=by
 rw[Bool.eq_iff_iff,Bool.or_eq_true,Bool.not_eq_true', ←Bool.not_eq_true,sB_iff,sB_iff,sB_iff]
 simp only[Pr.sat]
 exact⟨fun h=>Classical.byCases (fun hx=>.inr (h hx)) .inl,fun h hx=>h.resolve_left fun hn=>hn hx⟩
theorem sB_F (c:Cx ns st lp) (h:k<st.length+lp.length):sB ns st lp (.un .F x) k=scanW (sB ns st lp x) (fun _=>true) false (st.length+lp.length) k:=by
 rw[Bool.eq_iff_iff,sB_iff,scan_until c (sat_inv x) (q:=fun _=>True) (fun _ _ _ h=>h) (fun k=>sB_iff) (fun k=>by simp) h false]
 simp only[Pr.sat,UntP]
 exact⟨fun⟨d,hd⟩=>.inl ⟨d,hd,fun _ _=>trivial⟩,fun h=>by rcases h with⟨d,hd,_⟩|⟨h,_⟩;exact⟨d,hd⟩;cases h⟩
theorem sB_G (c:Cx ns st lp) (h:k<st.length+lp.length):sB ns st lp (.un .G x) k=scanW (fun _=>false) (sB ns st lp x) true (st.length+lp.length) k:=by
 rw[Bool.eq_iff_iff,sB_iff,scan_until c (p:=fun _=>False) (fun _ _ _ h=>h) (sat_inv x) (fun k=>by simp) (fun k=>sB_iff) h true]
 simp only[Pr.sat,UntP]
 exact⟨fun h=>.inr ⟨trivial,h⟩,fun h=>by rcases h with⟨d,hd,_⟩|⟨_,h⟩;exact hd.elim;exact h⟩
theorem sB_U (c:Cx ns st lp) (h:k<st.length+lp.length):sB ns st lp (.bi .U x y) k=scanW (sB ns st lp y) (sB ns st lp x) false (st.length+lp.length) k:=by
 rw[Bool.eq_iff_iff,sB_iff,scan_until c (sat_inv y) (sat_inv x) (fun k=>sB_iff) (fun k=>sB_iff) h false]
 simp only[Pr.sat]
 exact⟨fun h=>.inl h,fun h=>by rcases h with h|⟨h,_⟩;exact h;cases h⟩
theorem sB_W (c:Cx ns st lp) (h:k<st.length+lp.length):sB ns st lp (.bi .W x y) k=scanW (sB ns st lp y) (sB ns st lp x) true (st.length+lp.length) k:=by
 rw[Bool.eq_iff_iff,sB_iff,scan_until c (sat_inv y) (sat_inv x) (fun k=>sB_iff) (fun k=>sB_iff) h true]
 simp only[Pr.sat]
 exact⟨fun h=>h.imp id fun h=>⟨trivial,h⟩,fun h=>h.imp id fun h=>h.2⟩
theorem sB_R (c:Cx ns st lp) (h:k<st.length+lp.length):sB ns st lp (.bi .R x y) k=scanW (fun i=>sB ns st lp y i&&sB ns st lp x i) (sB ns st lp y) true (st.length+lp.length) k:=by
 rw[Bool.eq_iff_iff,sB_iff,scan_until c (p:=fun i=>y.sat (lbAt ns (strm st lp)) i∧x.sat (lbAt ns (strm st lp)) i) (fun k k' h hp=>⟨sat_inv y k k' h hp.1,sat_inv x k k' h hp.2⟩) (sat_inv y) (fun k=>by rw[Bool.and_eq_true,sB_iff,sB_iff]) (fun k=>sB_iff) h true]
 simp only[Pr.sat]
 exact⟨fun h=>h.imp id fun h=>⟨trivial,h⟩,fun h=>h.imp id fun h=>h.2⟩
theorem scan_mono {P Q:Nat→Bool}:∀(m k:Nat),scanW P Q false m k=true→scanW P Q true m k=true:=fun m k h=>by
 rw[scanW_true]at h ⊢
 rcases h with h|⟨h,_⟩
 ·exact .inl h
 ·cases h
theorem letD_at (c:Cx ns st lp) (h:k<st.length+lp.length):∃v:Int,letD st lp (k:Int)=some v∧0≤v∧v<64∧strm st lp k=v:=by
 obtain⟨v,h1,h2,h3⟩:=c.lets k h
 have hl:=c.ne
 refine⟨v,?_,h2,h3,?_⟩
 ·unfold letD
  by_cases hs:k<st.length
  ·rw[if_pos (by omega)]
   unfold iAt
   rw[List.getElem?_append_left hs]at h1
   rw[if_pos (by omega),Int.toNat_natCast,h1]
  ·rw[if_neg (by omega),if_neg hl]
   rw[List.getElem?_append_right (by omega)]at h1
   have e:Int.tmod ((k:Int) - st.length) lp.length=((k - st.length:Nat):Int):=by
    rw[show(k:Int) - (st.length:Int)=((k - st.length:Nat):Int)by omega]
    exact Int.tmod_eq_of_lt (by omega) (by omega)
   unfold iAt
   rw[e,if_pos (by omega),Int.toNat_natCast,h1]
 ·unfold strm
  rw[posN_eq (by omega),if_pos h]
  unfold aD
  rw[h1]
end
end Go.Sc
namespace Go.Sd
open Go Go.Cm Go.Proofs Go.Sc
theorem ev_lab {b:Option Nat} {op nm:ByteArray} {p:Int} {ns st lp:List D} {i j:Nat} (c:Cx ns st lp) (hl:lbOk ns nm) (hj:j<st.length+lp.length) {γ:Type} (q:List TV→List TV→Option γ):
  ∃v m,atX ns nm=some v∧letD st lp (j:Int)=some m∧K17.G0 b op nm [] p ns st lp (i:Int) q (K17.s0 m v)=q [.d false 0 (.bool (sB ns st lp (.lab nm) j))] []:=by
 obtain⟨v,h0,hv⟩:=hl
 obtain⟨m,e1,e2,e3,e4⟩:=letD_at c hj
 have hb:=idxN_lt nm ns 0 v hv
 have hn:=c.nam
 refine⟨v,m,by unfold atX;rw[if_pos ⟨c.hs,by have:big=34359738368:=rfl;omega⟩];exact hv,e1,?_⟩
 obtain⟨n,rfl⟩:∃n:Nat,v=n:=⟨v.toNat,by omega⟩
 have hL:=half_loop (b:=b) n m e2 e3 (by omega)
 rw[K17.behind0x1 b op nm [] p ns st lp i _ q _ hL]
 have e:sB ns st lp (.lab nm) j=(Int.tmod (halve n m) 2==1):=by
  have hbit:=bit_eq e2 e3 h0 (by omega)
  rw[Int.toNat_natCast]at hbit
  rw[←hbit,Bool.eq_iff_iff,sB_iff]
  simp only[Pr.sat,lbAt,e4]
  constructor
  ·rintro⟨u,_,hu,h⟩
   rw[hv]at hu;cases hu;exact h
  ·exact fun h=>⟨(n:Int),h0,hv,h⟩
 rw[e]
theorem ev_sat {b:Option Nat} {f:Fm} {t:Pr} {ns st lp:List D} {i:Nat} (c:Cx ns st lp) (ha:f.abs=some t) (hsm:f.sm=true) (hb:∀n,b=some n→f.dep≤n) (hl:t.labs (lbOk ns)) (hi:i≤1000) {γ:Type} (q:List TV→List TV→Option γ):
  evalF Tryz.prog (WSa b) Tryz.f17 [.d true 5 f.d,.d true 0 (.sl 0 ns),.d true 3 (.ag [.sl 0 st,.sl 0 lp]),.d true 0 (.int .i64 i)] q=q [.d false 0 (.bool (sB ns st lp t i))] []:=by
 have hlen:=c.len
 have hne:=c.ne
 have hw:=wr_len c
 have hN:st.length+lp.length≤i→IntKind.wrap .i64 ((st.length:Int)+Int.tmod (IntKind.wrap .i64 ((i:Int) - (st.length:Int))) (lp.length:Int))=((st.length+(i - st.length) % lp.length:Nat):Int)∧
   st.length+(i - st.length) % lp.length<st.length+lp.length∧∀t,sB ns st lp t i=sB ns st lp t (st.length+(i - st.length) % lp.length):=fun h=>by
  have hm:=Nat.mod_lt (i - st.length) (show 0<lp.length by omega)
  have e:Int.tmod ((i:Int) - st.length) lp.length=(((i - st.length) % lp.length:Nat):Int):=by
   rw[show(i:Int) - (st.length:Int)=((i - st.length:Nat):Int)by omega]
   exact(Int.ofNat_tmod _ _).symm
  refine⟨?_,by omega,fun t=>?_⟩
  ·rw[wrap_id (show -9223372036854775808≤(i:Int) - st.length by omega) (by omega),e,wrap_id (by omega) (by omega)];omega
  ·rw[Bool.eq_iff_iff,sB_iff,sB_iff];exact(sat_norm t hne h).symm
 have kid:∀{op nm:ByteArray} {ks:List Fm} {p:Int} {g:Fm} {x:Pr},f=.mk op nm ks p→g∈ks→g.abs=some x→x.labs (lbOk ns)→Kd b ns g x:=fun{op nm ks p g x} e hg h1 h2=>by
  subst e
  exact⟨(bd_kids hsm hb).2 g hg,h1,h2⟩
 rcases abs_inv ha with⟨op,nm,p,rfl,h1⟩|⟨op,nm,a,p,o,x,rfl,h1,h2,rfl⟩|⟨op,nm,a,d,p,o,x,y,rfl,h1,h2,h3,rfl⟩
 ·show evalF Tryz.prog (WSa b) Tryz.f17 [.d true 5 (.ag [.str op,.str nm,.sl 5 [],.int .i64 p]),.d true 0 (.sl 0 ns),.d true 3 (.ag [.sl 0 st,.sl 0 lp]),.d true 0 (.int .i64 i)] q=_
  rw[K17.start]
  rw[hw]
  have fin:∀j:Nat,j<st.length+lp.length→(∀t,sB ns st lp t i=sB ns st lp t j)→
    (if(op.toList==[116,114,117,101])=true then q [.d false 0 (.bool true)] []
    else if(op.toList==[102,97,108,115,101])=true then q [.d false 0 (.bool false)] []
    else if(op.toList==[108,97,98,101,108])=true then(match letD st lp (j:Int)with
     |some m=>if 0≤(j:Int)∧(j:Int)≤9223372036854775807∧st.length+lp.length≤34359738368 then(match atX ns nm with
      |some v=>K17.G0 b op nm [] p ns st lp (i:Int) q (K17.s0 m v)
      |none=>none)else none
     |none=>none)else none)=q [.d false 0 (.bool (sB ns st lp t i))] []:=by
   intro j hj hs
   rcases h1 with⟨h1,rfl⟩|⟨h1,rfl⟩|⟨h1,rfl⟩
   ·rw[if_pos (by rw[h1];decide),sB_tt]
   ·rw[if_neg (by rw[h1];decide),if_pos (by rw[h1];decide),sB_ff]
   ·obtain⟨v,m,e1,e2,e3⟩:=ev_lab (b:=b) (op:=op) (p:=p) (i:=i) c hl hj q
    rw[if_neg (by rw[h1];decide),if_neg (by rw[h1];decide),if_pos (by rw[h1];decide),e2]
    simp only
    rw[if_pos ⟨by omega,by omega,by omega⟩,e1]
    simp only
    rw[e3,hs]
  by_cases hc:st.length+lp.length≤i
  ·obtain⟨g1,g2,g3⟩:=hN hc
   rw[if_pos (by rw[decide_eq_true_eq];omega),if_pos (by omega),g1, ←fin _ g2 g3]
   rcases h1 with⟨h1,_⟩|⟨h1,_⟩|⟨h1,_⟩
   ·rw[if_pos (by rw[h1];decide),if_pos (by rw[h1];decide)]
   ·rw[if_neg (by rw[h1];decide),if_pos (by rw[h1];decide),if_neg (by rw[h1];decide),if_pos (by rw[h1];decide)]
   ·rw[if_neg (by rw[h1];decide),if_neg (by rw[h1];decide),if_pos (by rw[h1];decide),if_neg (by rw[h1];decide),if_neg (by rw[h1];decide),if_pos (by rw[h1];decide)]
    all_goals rfl
  ·rw[if_neg (by rw[decide_eq_true_eq];omega), ←fin i (by omega) (fun _=>rfl)]
   rcases h1 with⟨h1,_⟩|⟨h1,_⟩|⟨h1,_⟩
   ·rw[if_pos (by rw[h1];decide),if_pos (by rw[h1];decide)]
   ·rw[if_neg (by rw[h1];decide),if_pos (by rw[h1];decide),if_neg (by rw[h1];decide),if_pos (by rw[h1];decide)]
   ·rw[if_neg (by rw[h1];decide),if_neg (by rw[h1];decide),if_pos (by rw[h1];decide),if_neg (by rw[h1];decide),if_neg (by rw[h1];decide),if_pos (by rw[h1];decide)]
    all_goals rfl
 ·have ka:=kid rfl (.head _) h2 hl
  show evalF Tryz.prog (WSa b) Tryz.f17 [.d true 5 (.ag [.str op,.str nm,.sl 5 [a.d],.int .i64 p]),.d true 0 (.sl 0 ns),.d true 3 (.ag [.sl 0 st,.sl 0 lp]),.d true 0 (.int .i64 i)] q=_
  rw[K17.start]
  rw[hw]
  have u:∀l:T8,(U1.s o==l)=(op.toList==l):=fun l=>by rw[h1]
  by_cases hc:st.length+lp.length≤i
  ·obtain⟨g1,g2,g3⟩:=hN hc
   rw[if_pos (by rw[decide_eq_true_eq];omega),if_pos (by omega),g1,g3]
   generalize st.length+(i - st.length) % lp.length=j at g1 g2 g3
   have hx:=satX_k c ka (j:=j) (by omega)
   have hx':=satX_k c ka (j:=j+1) (by omega)
   have hj:IntKind.wrap .i64 ((j:Int)+1)=((j+1:Nat):Int):=by rw[wrap_id (by omega) (by omega)];omega
   have lF:Lp (K17.L1 b) (K17.s1 op nm [a.d] p ns st lp false j 0)=_:=F_loop (op:=op) (nm:=nm) (p:=p) (t:=false) c ka (j:=j) (by omega) (st.length+lp.length) 0 rfl
   have lG:Lp (K17.L2 b) (K17.s2 op nm [a.d] p ns st lp false j 0)=_:=G_loop (op:=op) (nm:=nm) (p:=p) (t:=false) c ka (j:=j) (by omega) (st.length+lp.length) 0 rfl
   rw[Nat.add_zero]at lF lG
   cases a with
   |mk o1 n1 k1 p1=>
    simp only[Fm.d]at hx hx' lF lG ⊢
    simp only[←u]
    cases o with
    |no=>rw[if_neg (by decide),if_neg (by decide),if_neg (by decide),if_pos (by decide)];simp only[List.getElem?_cons_zero,if_true,hx,sB_no]
    |X=>rw[if_neg (by decide),if_neg (by decide),if_neg (by decide),if_neg (by decide),if_neg (by decide),if_neg (by decide),if_neg (by decide),if_pos (by decide)];simp only[List.getElem?_cons_zero,if_true,hj,hx',sB_X]
    |F=>
     rw[if_neg (by decide),if_neg (by decide),if_neg (by decide),if_neg (by decide),if_neg (by decide),if_neg (by decide),if_neg (by decide),if_neg (by decide),if_pos (by decide),sB_F c g2]
     cases hv:scanW (sB ns st lp x) (fun _=>true) false (st.length+lp.length) j with
     |true=>rw[hv]at lF;exact K17.behind1r b op nm _ p ns st lp i q _ lF
     |false=>rw[hv]at lF;exact K17.behind1x3 b op nm _ p ns st lp i q _ lF
    |G=>
     rw[if_neg (by decide),if_neg (by decide),if_neg (by decide),if_neg (by decide),if_neg (by decide),if_neg (by decide),if_neg (by decide),if_neg (by decide),if_neg (by decide),if_pos (by decide),sB_G c g2]
     cases hv:scanW (fun _=>false) (sB ns st lp x) true (st.length+lp.length) j with
     |true=>rw[hv]at lG;exact K17.behind2x5 b op nm _ p ns st lp i q _ lG
     |false=>rw[hv]at lG;exact K17.behind2r b op nm _ p ns st lp i q _ lG
  ·have g2:i<st.length+lp.length:=by omega
   rw[if_neg (by rw[decide_eq_true_eq];omega)]
   have hx:=satX_k c ka (j:=i) (by omega)
   have hx':=satX_k c ka (j:=i+1) (by omega)
   have hj:IntKind.wrap .i64 ((i:Int)+1)=((i+1:Nat):Int):=by rw[wrap_id (by omega) (by omega)];omega
   have lF:Lp (K17.L1 b) (K17.s1 op nm [a.d] p ns st lp true i 0)=_:=F_loop (op:=op) (nm:=nm) (p:=p) (t:=true) c ka (j:=i) (by omega) (st.length+lp.length) 0 rfl
   have lG:Lp (K17.L2 b) (K17.s2 op nm [a.d] p ns st lp true i 0)=_:=G_loop (op:=op) (nm:=nm) (p:=p) (t:=true) c ka (j:=i) (by omega) (st.length+lp.length) 0 rfl
   rw[Nat.add_zero]at lF lG
   cases a with
   |mk o1 n1 k1 p1=>
    simp only[Fm.d]at hx hx' lF lG ⊢
    simp only[←u]
    cases o with
    |no=>rw[if_neg (by decide),if_neg (by decide),if_neg (by decide),if_pos (by decide)];simp only[List.getElem?_cons_zero,if_true,hx,sB_no]
    |X=>rw[if_neg (by decide),if_neg (by decide),if_neg (by decide),if_neg (by decide),if_neg (by decide),if_neg (by decide),if_neg (by decide),if_pos (by decide)];simp only[List.getElem?_cons_zero,if_true,hj,hx',sB_X]
    |F=>
     rw[if_neg (by decide),if_neg (by decide),if_neg (by decide),if_neg (by decide),if_neg (by decide),if_neg (by decide),if_neg (by decide),if_neg (by decide),if_pos (by decide),sB_F c g2]
     cases hv:scanW (sB ns st lp x) (fun _=>true) false (st.length+lp.length) i with
     |true=>rw[hv]at lF;exact K17.behind1r b op nm _ p ns st lp i q _ lF
     |false=>rw[hv]at lF;exact K17.behind1x3 b op nm _ p ns st lp i q _ lF
    |G=>
     rw[if_neg (by decide),if_neg (by decide),if_neg (by decide),if_neg (by decide),if_neg (by decide),if_neg (by decide),if_neg (by decide),if_neg (by decide),if_neg (by decide),if_pos (by decide),sB_G c g2]
     cases hv:scanW (fun _=>false) (sB ns st lp x) true (st.length+lp.length) i with
     |true=>rw[hv]at lG;exact K17.behind2x5 b op nm _ p ns st lp i q _ lG
     |false=>rw[hv]at lG;exact K17.behind2r b op nm _ p ns st lp i q _ lG
 ·have ka:=kid rfl (.head _) h2 hl.1
  have kd:=kid rfl (.tail _ (.head _)) h3 hl.2
  show evalF Tryz.prog (WSa b) Tryz.f17 [.d true 5 (.ag [.str op,.str nm,.sl 5 [a.d,d.d],.int .i64 p]),.d true 0 (.sl 0 ns),.d true 3 (.ag [.sl 0 st,.sl 0 lp]),.d true 0 (.int .i64 i)] q=_
  rw[K17.start]
  rw[hw]
  have u:∀l:T8,(B2.s o==l)=(op.toList==l):=fun l=>by rw[h1]
  by_cases hc:st.length+lp.length≤i
  ·obtain⟨g1,g2,g3⟩:=hN hc
   rw[if_pos (by rw[decide_eq_true_eq];omega),if_pos (by omega),g1,g3]
   generalize st.length+(i - st.length) % lp.length=j at g1 g2 g3
   have hx:=satX_k c ka (j:=j) (by omega)
   have hy:=satX_k c kd (j:=j) (by omega)
   have lR:Lp (K17.L3 b) (K17.s3 op nm [a.d,d.d] p ns st lp false j 0)=_:=R_loop (op:=op) (nm:=nm) (p:=p) (t:=false) c ka kd (j:=j) (by omega) (st.length+lp.length) 0 rfl
   have lU:Lp (K17.L4 b) (K17.s4 op nm [a.d,d.d] p ns st lp false j 0)=_:=U_loop (op:=op) (nm:=nm) (p:=p) (t:=false) c ka kd (j:=j) (by omega) (st.length+lp.length) 0 rfl
   rw[Nat.add_zero]at lR lU
   cases a with
   |mk o1 n1 k1 p1=>
    cases d with
    |mk o2 n2 k2 p2=>
     simp only[Fm.d]at hx hy lR lU ⊢
     simp only[←u]
     cases o with
     |and=>
      rw[if_neg (by decide),if_neg (by decide),if_neg (by decide),if_neg (by decide),if_pos (by decide),sB_and]
      simp only[List.getElem?_cons_zero,List.getElem?_cons_succ,if_true,hx,hy]
      cases sB ns st lp x j<;>rfl
     |or=>
      rw[if_neg (by decide),if_neg (by decide),if_neg (by decide),if_neg (by decide),if_neg (by decide),if_pos (by decide),sB_or]
      simp only[List.getElem?_cons_zero,List.getElem?_cons_succ,if_true,hx,hy]
      cases sB ns st lp x j<;>rfl
     |imp=>
      rw[if_neg (by decide),if_neg (by decide),if_neg (by decide),if_neg (by decide),if_neg (by decide),if_neg (by decide),if_pos (by decide),sB_imp]
      simp only[List.getElem?_cons_zero,List.getElem?_cons_succ,if_true,hx,hy]
      cases sB ns st lp x j<;>rfl
     |U=>
      rw[if_neg (by decide),if_neg (by decide),if_neg (by decide),if_neg (by decide),if_neg (by decide),if_neg (by decide),if_neg (by decide),if_neg (by decide),if_neg (by decide),if_neg (by decide),if_neg (by decide),sB_U c g2]
      cases hv:scanW (sB ns st lp y) (sB ns st lp x) true (st.length+lp.length) j with
      |true=>
       cases hv2:scanW (sB ns st lp y) (sB ns st lp x) false (st.length+lp.length) j with
       |true=>rw[hv,hv2]at lU;exact K17.behind4r b op nm _ p ns st lp i _ q _ lU
       |false=>rw[hv,hv2]at lU;exact(K17.behind4x9 b ns st lp i op nm _ p q _ lU).trans (by rw[←u];rfl)
      |false=>
       have hv2:scanW (sB ns st lp y) (sB ns st lp x) false (st.length+lp.length) j=false:=by
        rw[←Bool.not_eq_true];intro h;rw[scan_mono _ _ h]at hv;cases hv
       rw[hv]at lU;rw[hv2];exact K17.behind4r b op nm _ p ns st lp i _ q _ lU
     |W=>
      rw[if_neg (by decide),if_neg (by decide),if_neg (by decide),if_neg (by decide),if_neg (by decide),if_neg (by decide),if_neg (by decide),if_neg (by decide),if_neg (by decide),if_neg (by decide),if_neg (by decide),sB_W c g2]
      cases hv:scanW (sB ns st lp y) (sB ns st lp x) true (st.length+lp.length) j with
      |true=>
       cases hv2:scanW (sB ns st lp y) (sB ns st lp x) false (st.length+lp.length) j with
       |true=>rw[hv,hv2]at lU;exact K17.behind4r b op nm _ p ns st lp i _ q _ lU
       |false=>rw[hv,hv2]at lU;exact(K17.behind4x9 b ns st lp i op nm _ p q _ lU).trans (by rw[←u];rfl)
      |false=>rw[hv]at lU;exact K17.behind4r b op nm _ p ns st lp i _ q _ lU
     |R=>
      rw[if_neg (by decide),if_neg (by decide),if_neg (by decide),if_neg (by decide),if_neg (by decide),if_neg (by decide),if_neg (by decide),if_neg (by decide),if_neg (by decide),if_neg (by decide),if_pos (by decide),sB_R c g2]
      cases hv:scanW (fun i=>sB ns st lp y i&&sB ns st lp x i) (sB ns st lp y) true (st.length+lp.length) j with
      |true=>
       cases hv2:scanW (fun i=>sB ns st lp y i&&sB ns st lp x i) (sB ns st lp y) false (st.length+lp.length) j with
       |true=>rw[hv,hv2]at lR;exact K17.behind3r b op nm _ p ns st lp i _ q _ lR
       |false=>rw[hv,hv2]at lR;exact K17.behind3x7 b op nm _ p ns st lp i q _ lR
      |false=>rw[hv]at lR;exact K17.behind3r b op nm _ p ns st lp i _ q _ lR
  ·have g2:i<st.length+lp.length:=by omega
   rw[if_neg (by rw[decide_eq_true_eq];omega)]
   have hx:=satX_k c ka (j:=i) (by omega)
   have hy:=satX_k c kd (j:=i) (by omega)
   have lR:Lp (K17.L3 b) (K17.s3 op nm [a.d,d.d] p ns st lp true i 0)=_:=R_loop (op:=op) (nm:=nm) (p:=p) (t:=true) c ka kd (j:=i) (by omega) (st.length+lp.length) 0 rfl
   have lU:Lp (K17.L4 b) (K17.s4 op nm [a.d,d.d] p ns st lp true i 0)=_:=U_loop (op:=op) (nm:=nm) (p:=p) (t:=true) c ka kd (j:=i) (by omega) (st.length+lp.length) 0 rfl
   rw[Nat.add_zero]at lR lU
   cases a with
   |mk o1 n1 k1 p1=>
    cases d with
    |mk o2 n2 k2 p2=>
     simp only[Fm.d]at hx hy lR lU ⊢
     simp only[←u]
     cases o with
     |and=>
      rw[if_neg (by decide),if_neg (by decide),if_neg (by decide),if_neg (by decide),if_pos (by decide),sB_and]
      simp only[List.getElem?_cons_zero,List.getElem?_cons_succ,if_true,hx,hy]
      cases sB ns st lp x i<;>rfl
     |or=>
      rw[if_neg (by decide),if_neg (by decide),if_neg (by decide),if_neg (by decide),if_neg (by decide),if_pos (by decide),sB_or]
      simp only[List.getElem?_cons_zero,List.getElem?_cons_succ,if_true,hx,hy]
      cases sB ns st lp x i<;>rfl
     |imp=>
      rw[if_neg (by decide),if_neg (by decide),if_neg (by decide),if_neg (by decide),if_neg (by decide),if_neg (by decide),if_pos (by decide),sB_imp]
      simp only[List.getElem?_cons_zero,List.getElem?_cons_succ,if_true,hx,hy]
      cases sB ns st lp x i<;>rfl
     |U=>
      rw[if_neg (by decide),if_neg (by decide),if_neg (by decide),if_neg (by decide),if_neg (by decide),if_neg (by decide),if_neg (by decide),if_neg (by decide),if_neg (by decide),if_neg (by decide),if_neg (by decide),sB_U c g2]
      cases hv:scanW (sB ns st lp y) (sB ns st lp x) true (st.length+lp.length) i with
      |true=>
       cases hv2:scanW (sB ns st lp y) (sB ns st lp x) false (st.length+lp.length) i with
       |true=>rw[hv,hv2]at lU;exact K17.behind4r b op nm _ p ns st lp i _ q _ lU
       |false=>rw[hv,hv2]at lU;exact(K17.behind4x9 b ns st lp i op nm _ p q _ lU).trans (by rw[←u];rfl)
      |false=>
       have hv2:scanW (sB ns st lp y) (sB ns st lp x) false (st.length+lp.length) i=false:=by
        rw[←Bool.not_eq_true];intro h;rw[scan_mono _ _ h]at hv;cases hv
       rw[hv]at lU;rw[hv2];exact K17.behind4r b op nm _ p ns st lp i _ q _ lU
     |W=>
      rw[if_neg (by decide),if_neg (by decide),if_neg (by decide),if_neg (by decide),if_neg (by decide),if_neg (by decide),if_neg (by decide),if_neg (by decide),if_neg (by decide),if_neg (by decide),if_neg (by decide),sB_W c g2]
      cases hv:scanW (sB ns st lp y) (sB ns st lp x) true (st.length+lp.length) i with
      |true=>
       cases hv2:scanW (sB ns st lp y) (sB ns st lp x) false (st.length+lp.length) i with
       |true=>rw[hv,hv2]at lU;exact K17.behind4r b op nm _ p ns st lp i _ q _ lU
       |false=>rw[hv,hv2]at lU;exact(K17.behind4x9 b ns st lp i op nm _ p q _ lU).trans (by rw[←u];rfl)
      |false=>rw[hv]at lU;exact K17.behind4r b op nm _ p ns st lp i _ q _ lU
     |R=>
      rw[if_neg (by decide),if_neg (by decide),if_neg (by decide),if_neg (by decide),if_neg (by decide),if_neg (by decide),if_neg (by decide),if_neg (by decide),if_neg (by decide),if_neg (by decide),if_pos (by decide),sB_R c g2]
      cases hv:scanW (fun i=>sB ns st lp y i&&sB ns st lp x i) (sB ns st lp y) true (st.length+lp.length) i with
      |true=>
       cases hv2:scanW (fun i=>sB ns st lp y i&&sB ns st lp x i) (sB ns st lp y) false (st.length+lp.length) i with
       |true=>rw[hv,hv2]at lR;exact K17.behind3r b op nm _ p ns st lp i _ q _ lR
       |false=>rw[hv,hv2]at lR;exact K17.behind3x7 b op nm _ p ns st lp i q _ lR
      |false=>rw[hv]at lR;exact K17.behind3r b op nm _ p ns st lp i _ q _ lR
theorem vcSat:VC 17 (cSat none):=fun β args k r hr=>by
 have h:EnvOk glS Tryz.prog (WSa none):=by
  refine EnvOk.rec1 (fun b {β} args k=>cSat b args k) ((EnvOk.none.add vcAtN).add vcLetD) ?_ ?_ ?_
  ·intro β args k r hr
   unfold cSat at hr
   split at hr
   ·split at hr
    ·rename_i hx;obtain⟨f,t,_,hk,_⟩:=satX_some hx;exact bd_zero hk.bd
    ·cases hr
   ·cases hr
  ·intro n ih β args k r hr
   unfold cSat at hr
   split at hr
   ·rename_i x ns st lp i
    split at hr
    ·rename_i v hx
     obtain⟨f,t,hf,hk,c,h0,h1,rfl⟩:=satX_some hx
     rw[d_ofD _ _ hf]
     obtain⟨j,rfl⟩:∃j:Nat,i=j:=⟨i.toNat,by omega⟩
     obtain⟨h3,h4⟩:=bd_succ hk.bd
     exact⟨_,_,hr,valid_of ih mixed Tryz.func17 (by kernel_rfl) (ev_sat c hk.abs h3 h4 hk.labs (by omega) _)⟩
    ·cases hr
   ·cases hr
  ·intro β args k r hr
   unfold cSat at hr
   split at hr
   ·split at hr
    ·rename_i v hx
     obtain⟨f,t,hf,hk,c,h0,h1,rfl⟩:=satX_some hx
     refine⟨f.dep+1,?_⟩
     rw[d_ofD _ _ hf]
     rename_i i _
     obtain⟨j,rfl⟩:∃j:Nat,i=j:=⟨i.toNat,by omega⟩
     simp only[cSat,satX_k c ⟨bd_at hk.bd,hk.abs,hk.labs⟩ (show j≤1000 by omega)]
     exact hr
    ·cases hr
   ·cases hr
 exact h β 17 args k r hr
end Go.Sd
set_option maxRecDepth 100000
namespace Go.Sc
open Go Go.Cm
noncomputable def trR (P:Program) (x:D) (ns st lp:List D):Option (Int ⊕ List Bool):=
 match ofD x with
 |some f=>if bd none f∧ns.length≤big∧st.length+lp.length≤big then truthsT P f ns st lp else none
 |none=>none
end Go.Sc
namespace Go.Sd
open Go Go.Cm Go.Proofs Go.Sc
noncomputable def cTrR {β:Type} (args:List TV) (k:List TV→List TV→Option β):Option β:=
 match args with
 |[.d true 5 x,.d true 0 (.sl 0 ns),.d true 3 (.ag [.sl 0 st,.sl 0 lp])]=>ansL k (trR Tryz.prog x ns st lp)
 |_=>none
theorem vcTrR:VC 13 cTrR:=by
 intro β args k r hr
 change cTrR args k=some r at hr
 unfold cTrR at hr
 split at hr
 ·rename_i x ns st lp
  refine envwu β 13 _ k r ?_
  show cTruthsT [.d true 5 x,.d true 0 (.sl 0 ns),.d true 3 (.ag [.sl 0 st,.sl 0 lp])] k=some r
  unfold trR at hr
  unfold cTruthsT chkK
  split at hr
  ·rename_i f hf
   simp only[hf]
   split at hr
   ·rename_i hc
    rw[if_pos hc]
    exact hr
   ·cases hr
  ·cases hr
 ·cases hr
noncomputable def WH3:Env:=(((((((((Env.none.add 9 io0 cTrue).add 10 io0 cParse).add 11 io0 (cTo none)).add 12 io0 (cSmall none)).add 13 io0 cTrR).add 14 io0 cRightX).add 15 io0 (cForm none)).add 16 io0 cNum).add 17 io0 (cSat none)).add 18 io0 cHoldR
theorem envwh3:EnvOk glS Tryz.prog WH3:=(((((((((EnvOk.none.add vcAlive).add vcParse).add vcTo).add vcSmall).add vcTrR).add vcRightX).add vcForm15).add vcNum).add vcSat).add vcHoldR
end Go.Sd
namespace Go.Sd
open Go Go.Cm Go.Proofs Go.Sc
set_option maxRecDepth 100000
namespace Q3L
noncomputable def X:Fx:=⟨Tryz.prog,WH3,256,4⟩
noncomputable def s0 (ns:List D) (st:List D) (lp:List D) (x68:List D) (x138:Int) (x191:ByteArray) (x192:ByteArray) (x193:List D) (x194:Int) (x195:ByteArray) (x196:ByteArray) (x197:List D) (x198:Int):S:=⟨Tm.mk 139 [(1,.d true 0 (D.sl 0 ns)),(9,.rp 10 0),(11,.rp 12 0),(12,.rp 13 0),(13,.own false 0 x68),(16,.d false 0 (D.int .i64 x138))],[(10,true,[.d false 0 (D.str x191),.d false 0 (D.str x192),.d false 0 (D.sl 5 x193),.d false 0 (D.int .i64 x194)]),(12,true,[.d false 0 (D.str x195),.d false 0 (D.str x196),.d false 0 (D.sl 5 x197),.d false 0 (D.int .i64 x198)]),(13,true,[.d true 0 (D.sl 0 st),.d true 0 (D.sl 0 lp)])]⟩
noncomputable def e0r:S:=⟨Tm.mk 139 [(8,.d false 0 (D.bool false))],[]⟩
noncomputable def e0x0 (ns:List D) (st:List D) (lp:List D) (x68:List D) (x288:ByteArray) (x289:ByteArray) (x290:List D) (x291:Int):S:=⟨Tm.mk 139 [(1,.d true 0 (D.sl 0 ns)),(9,.rp 10 0),(12,.rp 13 0),(13,.own false 0 x68)],[(10,true,[.d false 0 (D.str x288),.d false 0 (D.str x289),.d false 0 (D.sl 5 x290),.d false 0 (D.int .i64 x291)]),(13,true,[.d true 0 (D.sl 0 st),.d true 0 (D.sl 0 lp)])]⟩
noncomputable abbrev L0:S→Option (S ⊕ (Ex×S)):=roundK X [(0,12802)] (sub [1,1,1,1,1,1,1,1,1,1,1,1,1,0,1,0,0] (body Tryz.f3))
noncomputable abbrev G0 {β:Type} (s:ByteArray) (ns:List D) (st:List D) (lp:List D) (k:List TV→List TV→Option β):S→Option β:=goLp X [(0,12802)] (sub [1,1,1,1,1,1,1,1,1,1,1,1,1,0,1,0,0] (body Tryz.f3)) [Kf.block 0 12802,Kf.seq [] (sub [1,1,1,1,1,1,1,1,1,1,1,1,1,1] (body Tryz.f3)) 256] (finK Tryz.prog Tryz.f3 [.d true 0 (D.str s),.d true 0 (D.sl 0 ns),.d true 0 (D.sl 0 st),.d true 0 (D.sl 0 lp)] k)
theorem start {β:Type} (s:ByteArray) (ns:List D) (st:List D) (lp:List D) (k:List TV→List TV→Option β):evalF Tryz.prog WH3 Tryz.f3 [.d true 0 (D.str s),.d true 0 (D.sl 0 ns),.d true 0 (D.sl 0 st),.d true 0 (D.sl 0 lp)] k=if decide ((↑(ByteArray.size s):Int)>200)=true then k [.d false 0 (D.bool true)] []else if decide ((ns.length:Int)>20)=true then k [.d false 0 (D.bool true)] []else if decide (IntKind.wrap .i64 ((st.length:Int)+(lp.length:Int))>80)=true then k [.d false 0 (D.bool true)] []else match parseP s (64:Int)with
   |PA.ok op307 nm308 ks309 p310=>if toX none (D.ag [D.str op307,D.str nm308,D.sl 5 ks309,D.int .i64 p310])=true then match smallX none (D.ag [D.str op307,D.str nm308,D.sl 5 ks309,D.int .i64 p310]) (5:Int)with
    |some v315=>if(!v315)=true then k [.d false 0 (D.bool true)] []else if decide (IntKind.wrap .i64 ((st.length:Int)+(lp.length:Int))>10)=true then if decide (IntKind.wrap .i64 ((st.length:Int)+(lp.length:Int))≤64)=true then k [.d false 0 (D.bool true)] []else match trR Tryz.prog (D.ag [D.str op307,D.str nm308,D.sl 5 ks309,D.int .i64 p310]) ns st lp with
     |some (Sum.inl e322)=>match rightX Tryz.prog ns st lp with
      |some v325=>if(!v325)=true then if(!e322==1)=true then if(e322==1)=true then k [.d false 0 (D.bool true)] []else k [.d false 0 (D.bool false)] []else if(e322==1)=true then k [.d false 0 (D.bool true)] []else k [.d false 0 (D.bool false)] []else match formX none (D.ag [D.str op307,D.str nm308,D.sl 5 ks309,D.int .i64 p310]) ns with
       |some v334=>if(!e322==v334)=true then if(e322==v334)=true then k [.d false 0 (D.bool true)] []else k [.d false 0 (D.bool false)] []else if(!v334==0)=true then if(e322==v334)=true then k [.d false 0 (D.bool true)] []else k [.d false 0 (D.bool false)] []else if(!0==IntKind.wrap .i64 ((st.length:Int)+(lp.length:Int)))=true then k [.d false 0 (D.bool false)] []else G0 s ns st lp k (s0 ns st lp [] (0:Int) op307 nm308 ks309 p310 op307 nm308 ks309 p310)
       |none=>none
      |none=>none
     |some (Sum.inr bs344)=>match rightX Tryz.prog ns st lp with
      |some v347=>if(!v347)=true then k [.d false 0 (D.bool false)] []else match formX none (D.ag [D.str op307,D.str nm308,D.sl 5 ks309,D.int .i64 p310]) ns with
       |some v354=>if(!0==v354)=true then if(0==v354)=true then k [.d false 0 (D.bool ((↑(List.length (bD bs344)):Int)==0))] []else k [.d false 0 (D.bool false)] []else if(!v354==0)=true then if(0==v354)=true then k [.d false 0 (D.bool ((↑(List.length (bD bs344)):Int)==0))] []else k [.d false 0 (D.bool false)] []else if(!(↑(List.length (bD bs344)):Int)==IntKind.wrap .i64 ((st.length:Int)+(lp.length:Int)))=true then k [.d false 0 (D.bool false)] []else G0 s ns st lp k (s0 ns st lp (bD bs344) (0:Int) op307 nm308 ks309 p310 op307 nm308 ks309 p310)
       |none=>none
      |none=>none
     |none=>none else match trR Tryz.prog (D.ag [D.str op307,D.str nm308,D.sl 5 ks309,D.int .i64 p310]) ns st lp with
     |some (Sum.inl e367)=>match rightX Tryz.prog ns st lp with
      |some v370=>if(!v370)=true then if(!e367==1)=true then if(e367==1)=true then k [.d false 0 (D.bool true)] []else k [.d false 0 (D.bool false)] []else if(e367==1)=true then k [.d false 0 (D.bool true)] []else k [.d false 0 (D.bool false)] []else match formX none (D.ag [D.str op307,D.str nm308,D.sl 5 ks309,D.int .i64 p310]) ns with
       |some v379=>if(!e367==v379)=true then if(e367==v379)=true then k [.d false 0 (D.bool true)] []else k [.d false 0 (D.bool false)] []else if(!v379==0)=true then if(e367==v379)=true then k [.d false 0 (D.bool true)] []else k [.d false 0 (D.bool false)] []else if(!0==IntKind.wrap .i64 ((st.length:Int)+(lp.length:Int)))=true then k [.d false 0 (D.bool false)] []else G0 s ns st lp k (s0 ns st lp [] (0:Int) op307 nm308 ks309 p310 op307 nm308 ks309 p310)
       |none=>none
      |none=>none
     |some (Sum.inr bs389)=>match rightX Tryz.prog ns st lp with
      |some v392=>if(!v392)=true then k [.d false 0 (D.bool false)] []else match formX none (D.ag [D.str op307,D.str nm308,D.sl 5 ks309,D.int .i64 p310]) ns with
       |some v399=>if(!0==v399)=true then if(0==v399)=true then k [.d false 0 (D.bool ((↑(List.length (bD bs389)):Int)==0))] []else k [.d false 0 (D.bool false)] []else if(!v399==0)=true then if(0==v399)=true then k [.d false 0 (D.bool ((↑(List.length (bD bs389)):Int)==0))] []else k [.d false 0 (D.bool false)] []else if(!(↑(List.length (bD bs389)):Int)==IntKind.wrap .i64 ((st.length:Int)+(lp.length:Int)))=true then k [.d false 0 (D.bool false)] []else G0 s ns st lp k (s0 ns st lp (bD bs389) (0:Int) op307 nm308 ks309 p310 op307 nm308 ks309 p310)
       |none=>none
      |none=>none
     |none=>none
    |none=>none else none
   |PA.no n409=>k [.d false 0 (D.bool true)] []
   |PA.er p413 n414=>k [.d false 0 (D.bool true)] []
   |PA.bad=>none:=by kernel_rfl
theorem round0 (ns:List D) (st:List D) (lp:List D) (x68:List D) (x138:Int) (x191:ByteArray) (x192:ByteArray) (x193:List D) (x194:Int) (x195:ByteArray) (x196:ByteArray) (x197:List D) (x198:Int):roundK X [(0,12802)] (sub [1,1,1,1,1,1,1,1,1,1,1,1,1,0,1,0,0] (body Tryz.f3)) (s0 ns st lp x68 x138 x191 x192 x193 x194 x195 x196 x197 x198)=if decide (x138<(x68.length:Int))=true then if 0≤x138∧x138<(x68.length:Int)then match x68[x138.toNat]? with
   |some x421=>match x421 with
    |D.bool b422=>match satX Tryz.prog none (D.ag [D.str x195,D.str x196,D.sl 5 x197,D.int .i64 x198]) ns st lp x138 with
     |some v423=>if(!b422==v423)=true then some (Sum.inr (Ex.ret,e0r))else some (Sum.inl (s0 ns st lp x68 (IntKind.wrap .i64 (x138+1)) x191 x192 x193 x194 x195 x196 x197 x198))
     |none=>none
    |x=>none
   |none=>none else none else some (Sum.inr (Ex.exit 0,e0x0 ns st lp x68 x191 x192 x193 x194)):=by kernel_rfl
theorem behind0x0 {β:Type} (s:ByteArray) (ns:List D) (st:List D) (lp:List D) (x68:List D) (x288:ByteArray) (x289:ByteArray) (x290:List D) (x291:Int) (k:List TV→List TV→Option β) (s__:S) (h__:Lp L0 s__=some (Ex.exit 0,e0x0 ns st lp x68 x288 x289 x290 x291)):G0 s ns st lp k s__=if hOk Tryz.prog (D.ag [D.str x288,D.str x289,D.sl 5 x290,D.int .i64 x291]) ns st lp then if ifcB (hE Tryz.prog (D.ag [D.str x288,D.str x289,D.sl 5 x290,D.int .i64 x291]) ns st lp)=true then if isNil (hE Tryz.prog (D.ag [D.str x288,D.str x289,D.sl 5 x290,D.int .i64 x291]) ns st lp)=true then if(0:Int)≤0∧(0:Int)<(x68.length:Int)then match x68[0]? with
   |some x435=>match x435 with
    |D.bool b436=>k [.d false 0 (D.bool (hB Tryz.prog (D.ag [D.str x288,D.str x289,D.sl 5 x290,D.int .i64 x291]) ns st lp==b436))] []
    |x=>none
   |none=>none else none else k [.d false 0 (D.bool false)] []else none else none:=(goLp_of h__).trans (by kernel_rfl)
end Q3L
end Go.Sd
namespace Go.Sd
open Go Go.Cm Go.Proofs Go.Sc
set_option maxRecDepth 100000
namespace Q5S
noncomputable def X:Fx:=⟨Tryz.prog,WZ,256,4⟩
end Q5S
end Go.Sd
namespace Go.Sc
open Go Go.Cm
theorem toksL_last:∀(n:Nat) (l:T8) (p:Nat) (r:List Tok),toksL n l p=.inr r→∃us q,r=us++[(0,[],q)]
 |0,l,p,r,h=>by simp[toksL]at h
 |n+1,l,p,r,h=>by
  unfold toksL at h
  simp only at h
  split at h
  ·cases h;exact⟨[],p,rfl⟩
  ·split at h
   ·cases h
   ·split at h
    ·cases h
    ·rename_i r' e
     cases h
     obtain⟨us,q,rfl⟩:=toksL_last n _ _ _ e
     exact⟨_::us,q,rfl⟩
structure Ends (xs:List D):Prop where
 tk:∀a:Int,0≤a→a<xs.length→∃c t p,Go.Sc.tk xs a=some (c,t,p)
 last:∀(a c:Int) (t:ByteArray) (p:Int),0≤a→Go.Sc.tk xs a=some (c,t,p)→c≠0→a+1<xs.length
theorem ends_tok {l:T8} {ts:List Tok} (h:tokS l=.inr ts):Ends (ts.map tokT)∧0<ts.length:=by
 obtain⟨us,q,rfl⟩:=toksL_last _ _ _ _ h
 have hg:∀a:Int,0≤a→a<((us++[((0:Int),([]:T8),q)]).map tokT).length→∃h:a.toNat<(us++[((0:Int),([]:T8),q)]).length,
   tk ((us++[((0:Int),([]:T8),q)]).map tokT) a=some (((us++[((0:Int),([]:T8),q)])[a.toNat]).1,B ((us++[((0:Int),([]:T8),q)])[a.toNat]).2.1,(((us++[((0:Int),([]:T8),q)])[a.toNat]).2.2:Int)):=fun a h0 h1=>by
  rw[List.length_map]at h1
  have hlt:a.toNat<(us++[((0:Int),([]:T8),q)]).length:=by omega
  refine⟨hlt,?_⟩
  unfold tk
  rw[List.getElem?_map,List.getElem?_eq_getElem hlt]
  rfl
 refine⟨⟨fun a h0 h1=>?_,fun a c t p h0 hk hc=>?_⟩,by simp⟩
 ·obtain⟨_,e⟩:=hg a h0 h1
  exact⟨_,_,_,e⟩
 ·have h1:=tk_lt hk h0
  obtain⟨hlt,e⟩:=hg a h0 h1
  rw[hk]at e
  simp only[Option.some.injEq,Prod.mk.injEq]at e
  rw[List.length_map]at h1 ⊢
  rcases Int.lt_or_le (a+1) ((us++[((0:Int),([]:T8),q)]).length:Nat)with h|h
  ·exact h
  ·exfalso
   apply hc
   rw[e.1,List.getElem_append_right (by simp at h ⊢;omega)]
   simp
def In (xs:List D) (a:Int):Prop:=0≤a∧a<xs.length
def NB (xs:List D):PR→Prop
 |.ok _ _ _ _ b=>In xs b
 |.no=>False
 |_=>True
theorem isT_nz {c:Int} {t s:ByteArray} (h:isT c t s=true):c≠0:=by
 unfold isT at h
 simp only[Bool.and_eq_true,Bool.or_eq_true,beq_iff_eq]at h
 omega
variable {xs:List D}
theorem nb_deep (hx:Ends xs) {a:Int} (ha:In xs a):NB xs (deepP xs a):=by
 obtain⟨c,t,p,e⟩:=hx.tk a ha.1 ha.2
 simp only[deepP,e,NB]
theorem nb_chainL (hx:Ends xs) (op:ByteArray) (one:Int→PR) (h1:∀a,In xs a→NB xs (one a)) (h2:∀a,Adv a (one a)):∀(n:Nat) (q nm:ByteArray) (ks:List D) (p a:Int),In xs a→(xs.length:Int) - a<n→NB xs (chainL xs op one n q nm ks p a)
 |0,_,_,_,_,a,ha,hn=>by have:=ha.2;omega
 |n+1,q,nm,ks,p,a,ha,hn=>by
  obtain⟨c,t,p2,e⟩:=hx.tk a ha.1 ha.2
  unfold chainL
  simp only[e]
  split
  ·rename_i ht
   have hin:In xs (a+1):=⟨by have:=ha.1;omega,hx.last a c t p2 ha.1 e (isT_nz ht)⟩
   have g1:=h1 (a+1) hin
   have g2:=h2 (a+1)
   split
   ·rename_i e;rw[e]at g1 g2
    simp only[Adv]at g2
    exact nb_chainL hx op one h1 h2 n _ _ _ _ _ g1 (by omega)
   ·trivial
   ·trivial
   ·rename_i e;rw[e]at g1;exact g1.elim
  ·exact ha
theorem nb_chainP (hx:Ends xs) (op:ByteArray) (one:Int→PR) (h1:∀a,In xs a→NB xs (one a)) (h2:∀a,Adv a (one a)) (a:Int) (ha:In xs a):NB xs (chainP xs op one a):=by
 have g1:=h1 a ha
 unfold chainP
 split
 ·rename_i e;rw[e]at g1
  exact nb_chainL hx op one h1 h2 _ _ _ _ _ _ g1 (by have:=g1.1;omega)
 ·trivial
 ·trivial
 ·rename_i e;rw[e]at g1;exact g1.elim
theorem nb_rightP (hx:Ends xs) (one:Int→PR) (h1:∀a,In xs a→NB xs (one a)) (o nm:ByteArray) (ks:List D) (p:Int):∀(ops:List ByteArray) (a:Int),In xs a→NB xs (rightP xs one o nm ks p ops a)
 |[],a,h=>h
 |op::ops,a,ha=>by
  obtain⟨c,t,p2,e⟩:=hx.tk a ha.1 ha.2
  unfold rightP
  simp only[e]
  split
  ·rename_i ht
   have hin:In xs (a+1):=⟨by have:=ha.1;omega,hx.last a c t p2 ha.1 e (isT_nz ht)⟩
   have g1:=h1 (a+1) hin
   split
   ·rename_i e;rw[e]at g1;exact g1
   ·trivial
   ·trivial
   ·rename_i e;rw[e]at g1;exact g1.elim
  ·exact nb_rightP hx one h1 o nm ks p ops a ha
theorem nb_singleP (hx:Ends xs) (P:PF) (h1:∀a,In xs a→NB xs (P.single a)) (h2:∀a,In xs a→NB xs (P.imply a)) (a:Int) (ha:In xs a):NB xs (singleP xs P a):=by
 obtain⟨c,t,p,e⟩:=hx.tk a ha.1 ha.2
 have nx:c≠0→In xs (a+1):=fun h=>⟨by have:=ha.1;omega,hx.last a c t p ha.1 e h⟩
 unfold singleP
 simp only[e]
 split
 ·rename_i h;exact nx (by omega)
 ·split
  ·rename_i h
   exact nx (by rcases h with h|h<;>exact isT_nz h)
  ·split
   ·rename_i h
    have g:=h1 (a+1) (nx (by rcases h with h|h|h|h<;>exact isT_nz h))
    split
    ·rename_i e;rw[e]at g;exact g
    ·trivial
    ·trivial
    ·rename_i e;rw[e]at g;exact g.elim
   ·split
    ·rename_i h
     have g:=h2 (a+1) (nx (isT_nz h))
     split
     ·rename_i b e2;rw[e2]at g
      obtain⟨c2,t2,q2,e3⟩:=hx.tk _ g.1 g.2
      simp only[e3]
      split
      ·rename_i h3
       exact⟨by have:=g.1;omega,hx.last _ _ _ _ g.1 e3 (isT_nz h3)⟩
      ·trivial
     ·trivial
     ·trivial
     ·rename_i e;rw[e]at g;exact g.elim
    ·trivial
theorem nb_untlP (hx:Ends xs) (s u:Int→PR) (h1:∀a,In xs a→NB xs (s a)) (h2:∀a,In xs a→NB xs (u a)) (a:Int) (ha:In xs a):NB xs (untlP xs s u a):=by
 have g:=h1 a ha
 unfold untlP
 split
 ·rename_i e;rw[e]at g;exact nb_rightP hx u h2 _ _ _ _ _ _ g
 ·trivial
 ·trivial
 ·rename_i e;rw[e]at g;exact g.elim
theorem nb_implyP (hx:Ends xs) (u i:Int→PR) (h1:∀a,In xs a→NB xs (u a)) (h1':∀a,Adv a (u a)) (h2:∀a,In xs a→NB xs (i a)) (a:Int) (ha:In xs a):NB xs (implyP xs u i a):=by
 have g:=nb_chainP hx ⟨#[124]⟩ (kP xs u) (fun a ha=>nb_chainP hx ⟨#[38]⟩ u h1 h1' a ha) (fun a=>adv_chainP xs ⟨#[38]⟩ u h1' a) a ha
 unfold implyP
 split
 ·rename_i e;rw[e]at g;exact nb_rightP hx i h2 _ _ _ _ _ _ g
 ·trivial
 ·trivial
 ·rename_i e;rw[e]at g;exact g.elim
theorem nb_pf (hx:Ends xs):∀n:Nat,(∀a,In xs a→NB xs ((pf xs n).single a))∧(∀a,In xs a→NB xs ((pf xs n).untl a))∧∀a,In xs a→NB xs ((pf xs n).imply a)
 |0=>⟨fun a=>nb_deep hx,fun a=>nb_deep hx,fun a=>nb_deep hx⟩
 |n+1=>by
  obtain⟨h1,h2,h3⟩:=nb_pf hx n
  obtain⟨a1,a2,a3⟩:=adv_pf xs (n+1)
  have s:=nb_singleP hx (pf xs n) h1 h3
  have u:=nb_untlP hx _ _ s h2
  exact⟨s,u,nb_implyP hx _ _ u a2 h3⟩
theorem parse_bad (s:ByteArray) (d:Int):parseP s d≠.bad:=by
 unfold parseP
 split
 ·exact fun h=>by cases h
 ·split
  ·exact fun h=>by cases h
  ·split
   ·exact fun h=>by cases h
   ·rename_i l hl
    obtain⟨hx,h0⟩:=ends_tok hl
    have g:=(nb_pf hx d.toNat).2.2 0 ⟨by omega,by rw[List.length_map];omega⟩
    change NB _ (pImply (l.map tokT) d.toNat 0)at g
    unfold endP
    split
    ·rename_i e;rw[e]at g
     obtain⟨c,t,q,e2⟩:=hx.tk _ g.1 g.2
     rw[e2]
     simp only
     split<;>exact fun h=>by cases h
    ·exact fun h=>by cases h
    ·exact fun h=>by cases h
    ·rename_i e;rw[e]at g;exact g.elim
end Go.Sc
set_option maxRecDepth 100000
namespace Go.Sd
open Go Go.Cm Go.Proofs Go.Sc
end Go.Sd
set_option maxRecDepth 100000
namespace Go.Sc
open Go Go.Cm Go.Proofs
theorem map_inl {α:Type} {x:Option α} {e:Int} (h:x.map (Sum.inr (α:=Int))=some (.inl e)):False:=by cases x<;>cases h
theorem truth_err {ns al:List D} {bk:Int}:∀(t:Pr) (f:Fm) (e:Int),f.abs=some t→truthF ns al bk f=some (.inl e)→e=30
 |t,f,e,h,hl=>by
  rcases abs_inv h with⟨op,nm,p,rfl,h1⟩|⟨op,nm,b,p,o,x,rfl,h1,h2,rfl⟩|⟨op,nm,b,c,p,o,x,y,rfl,h1,h2,h3,rfl⟩
  ·simp only[truthF,truthL]at hl
   rcases h1 with⟨h1,rfl⟩|⟨h1,rfl⟩|⟨h1,rfl⟩
   ·rw[h1,if_pos (by decide)]at hl;cases hl
   ·rw[h1,if_pos (by decide)]at hl;cases hl
   ·rw[h1,if_neg (by decide),if_pos (by decide)]at hl
    unfold labelB at hl
    split at hl
    ·split at hl
     ·cases hl;rfl
     ·exact(map_inl hl).elim
    ·cases hl
  ·simp only[truthF,truthL]at hl
   cases e1:truthF ns al bk b with
   |none=>rw[e1]at hl;cases hl
   |some r=>
    cases r with
    |inl v=>rw[e1]at hl;injection hl with hl;injection hl with hl;subst hl;exact truth_err x b _ h2 e1
    |inr m=>
     rw[e1]at hl
     simp only[oneB]at hl
     split at hl
     ·cases hl
     ·have u:∀l:T8,(op.toList==l)=(U1.s o==l):=fun l=>by rw[h1]
      simp only[u]at hl
      cases o with
      |no=>rw[if_pos (by decide)]at hl;exact(map_inl hl).elim
      |X=>rw[if_neg (by decide),if_pos (by decide)]at hl;exact(map_inl hl).elim
      |F=>rw[if_neg (by decide),if_neg (by decide),if_pos (by decide)]at hl;exact(map_inl hl).elim
      |G=>rw[if_neg (by decide),if_neg (by decide),if_neg (by decide),if_pos (by decide)]at hl;exact(map_inl hl).elim
  ·simp only[truthF,truthL]at hl
   cases e1:truthF ns al bk b with
   |none=>rw[e1]at hl;cases hl
   |some r=>
    cases r with
    |inl v=>rw[e1]at hl;injection hl with hl;injection hl with hl;subst hl;exact truth_err x b _ h2 e1
    |inr m=>
     cases e2:truthF ns al bk c with
     |none=>rw[e1,e2]at hl;cases hl
     |some r=>
      cases r with
      |inl v=>rw[e1,e2]at hl;injection hl with hl;injection hl with hl;subst hl;exact truth_err y c _ h3 e2
      |inr m'=>
       rw[e1,e2]at hl
       simp only[twoB]at hl
       have u:∀l:T8,(op.toList==l)=(B2.s o==l):=fun l=>by rw[h1]
       simp only[u]at hl
       cases o with
       |and=>rw[if_pos (by decide)]at hl;exact(map_inl hl).elim
       |or=>rw[if_neg (by decide),if_pos (by decide)]at hl;exact(map_inl hl).elim
       |imp=>rw[if_neg (by decide),if_neg (by decide),if_pos (by decide)]at hl;exact(map_inl hl).elim
       |U=>rw[if_neg (by decide),if_neg (by decide),if_neg (by decide),if_pos (by decide)]at hl;exact(map_inl hl).elim
       |W=>
        rw[if_neg (by decide),if_neg (by decide),if_neg (by decide),if_neg (by decide),if_pos (by decide)]at hl
        split at hl
        ·split at hl
         ·exact(map_inl hl).elim
         ·cases hl
        ·cases hl
       |R=>rw[if_neg (by decide),if_neg (by decide),if_neg (by decide),if_neg (by decide),if_neg (by decide),if_pos (by decide)]at hl;exact(map_inl hl).elim
theorem anyBad_ints (n:Nat):∀{l:List D},intsB l=true→∃b,anyBad n l=some b
 |[],_=>⟨_,rfl⟩
 |x::r,h=>by
  unfold intsB at h
  split at h
  ·simp only[anyBad]
   split
   ·exact⟨_,rfl⟩
   ·exact anyBad_ints n h
  ·cases h
theorem intsB_app:∀{a b:List D},intsB a=true→intsB b=true→intsB (a++b)=true
 |[],b,_,h=>h
 |x::a,b,h,k=>by
  unfold intsB at h
  split at h
  ·show intsB (a++b)=true
   exact intsB_app h k
  ·cases h
theorem check_any {ns st lp:List D} (hs:strsB ns=true) (h1:intsB st=true) (h2:intsB lp=true):∃b,checkS Tryz.prog ns st lp=some b:=by
 obtain⟨us,rfl⟩:=strs_map hs
 rw[checkS_okW]
 unfold okW
 obtain⟨b,e⟩:=anyBad_ints us.length (intsB_app h1 h2)
 rw[e]
 split
 ·exact⟨_,rfl⟩
 ·split
  ·exact⟨_,rfl⟩
  ·split
   ·exact⟨_,rfl⟩
   ·split<;>exact⟨_,rfl⟩
theorem Cx.wd {ns st lp:List D} (c:Cx ns st lp):Wd (st++lp) (st.length+lp.length) st.length (aD (st++lp)) where
 len:=List.length_append
 bk:=by have:=c.ne;omega
 big:=by have:=c.len;omega
 at':=fun i hi=>by
  obtain⟨v,h,_⟩:=c.lets i hi
  rw[h];unfold aD;rw[h]
end Go.Sc
namespace Go.Sd
open Go Go.Cm Go.Proofs Go.Sc
theorem holds_loop {ns st lp:List D} {f:Fm} {t:Pr} {l:List Bool} {o1 n1:ByteArray} {k1:List D} {p1:Int} {op nm:ByteArray} {ks:List Fm} {p:Int} (c:Cx ns st lp) (e:f=.mk op nm ks p) (k:Kd none ns f t) (hl:l.length=st.length+lp.length) (hg:∀i,i<st.length+lp.length→l.getD i false=sB ns st lp t i):
  ∀(n i:Nat),n+i=st.length+lp.length→Lp Q3L.L0 (Q3L.s0 ns st lp (bD l) i o1 n1 k1 p1 op nm (Fm.dL ks) p)=some (.exit 0,Q3L.e0x0 ns st lp (bD l) o1 n1 k1 p1)
 |0,i,h=>by
  have hr:=Q3L.round0 ns st lp (bD l) i o1 n1 k1 p1 op nm (Fm.dL ks) p
  have hb:(bD l).length=l.length:=by simp[bD]
  rw[if_neg (by rw[decide_eq_true_eq,hb];omega)]at hr
  exact Lp_exit hr
 |n+1,i,h=>by
  have hr:=Q3L.round0 ns st lp (bD l) i o1 n1 k1 p1 op nm (Fm.dL ks) p
  have hb:(bD l).length=l.length:=by simp[bD]
  have hlen:=c.len
  have hi:i<l.length:=by omega
  have hx:=satX_k c k (j:=i) (by omega)
  have hgi:=hg i (by omega)
  rw[List.getD_eq_getElem?_getD,List.getElem?_eq_getElem hi]at hgi
  subst e
  simp only[Fm.d]at hx
  rw[if_pos (by rw[decide_eq_true_eq,hb];omega),if_pos ⟨by omega,by rw[hb];omega⟩,Int.toNat_natCast]at hr
  simp only[show(bD l)[i]? =some (.bool l[i])from by simp[bD,hi],hx]at hr
  rw[if_neg (by rw[←hgi];simp),wrap_id (by omega) (by omega)]at hr
  exact Lp_step hr (holds_loop c rfl k hl hg n (i+1) (by omega))
theorem ev_holds (s:ByteArray) (ns st lp:List D) (hs:strsB ns=true) (h1:intsB st=true) (h2:intsB lp=true) (l1:st.length≤4611686018427387903) (l2:lp.length≤4611686018427387903) {γ:Type} (q:List TV→List TV→Option γ):
  evalF Tryz.prog WH3 Tryz.f3 [.d true 0 (.str s),.d true 0 (.sl 0 ns),.d true 0 (.sl 0 st),.d true 0 (.sl 0 lp)] q=q [.d false 0 (.bool true)] []:=by
 have hbig:big=34359738368:=rfl
 have hw:IntKind.wrap .i64 ((st.length:Int)+(lp.length:Int))=((st.length+lp.length:Nat):Int):=by rw[wrap_id (by omega) (by omega)];omega
 rw[Q3L.start,hw]
 by_cases c1:decide ((s.size:Int)>200)=true
 ·rw[if_pos c1]
 rw[if_neg c1]
 by_cases c2:decide ((ns.length:Int)>20)=true
 ·rw[if_pos c2]
 rw[if_neg c2]
 by_cases c3:decide (((st.length+lp.length:Nat):Int)>80)=true
 ·rw[if_pos c3]
 rw[if_neg c3]
 rw[decide_eq_true_eq]at c1 c2 c3
 cases hp:parseP s 64 with
 |bad=>exact(parse_bad s 64 hp).elim
 |no n=>rfl
 |er p n=>rfl
 |ok op nm ks p=>
  obtain⟨f,t,hf,ha,zu⟩:=parse_fm hp (by omega)
  have hsm:=sm_abs f t ha
  have hbd:bd none f:=⟨hsm,trivial⟩
  have hx:D.ag [.str op,.str nm,.sl 5 ks,.int .i64 p]=f.d:=d_ofD _ _ hf
  have e1:=toX_d hbd
  have e2:=smallX_d (n:=5) hbd (by decide) (by decide)
  simp only[hx,e1,e2,if_true]
  cases smallF f (Int.toNat 5)with
  |false=>rfl
  |true=>
   rw[if_neg (by decide)]
   obtain⟨v,hc⟩:=check_any hs h1 h2
   have e3:rightX Tryz.prog ns st lp=some v:=by unfold rightX;rw[if_pos ⟨hs,by omega,by omega⟩];exact hc
   have e4:=formX_d (b:=none) hbd ha hs (show ns.length≤big by omega)
   have e5:trR Tryz.prog f.d ns st lp=truthsT Tryz.prog f ns st lp:=by unfold trR;rw[ofD_d];exact if_pos ⟨hbd,by omega,by omega⟩
   rw[e3,e5]
   simp only[e4]
   cases v with
   |false=>
    have e6:truthsT Tryz.prog f ns st lp=some (.inl 1):=by unfold truthsT;rw[hc]
    rw[e6]
    by_cases d1:decide (((st.length+lp.length:Nat):Int)>10)=true
    ·rw[if_pos d1]
     by_cases d2:decide (((st.length+lp.length:Nat):Int)≤64)=true
     ·rw[if_pos d2]
     ·rw[if_neg d2];rfl
    ·rw[if_neg d1];rfl
   |true=>
    have c:=cx_of hs hc
    have hz:truthsT Tryz.prog f ns st lp=truthF ns (st++lp) st.length f:=by
     unfold truthsT
     rw[hc]
     simp only
     rw[if_neg (by rw[size_abs t f ha];omega),if_pos (lform_abs t f ha)]
    rw[hz]
    have main:(match truthF ns (st++lp) st.length f with
     |some (Sum.inl e322)=>if(!e322==lab30 ns t)=true then if(e322==lab30 ns t)=true then q [.d false 0 (.bool true)] []else q [.d false 0 (.bool false)] []
       else if(!lab30 ns t==0)=true then if(e322==lab30 ns t)=true then q [.d false 0 (.bool true)] []else q [.d false 0 (.bool false)] []
       else if(!0==((st.length+lp.length:Nat):Int))=true then q [.d false 0 (.bool false)] []
       else Q3L.G0 s ns st lp q (Q3L.s0 ns st lp [] 0 op nm ks p op nm ks p)
     |some (Sum.inr bs)=>if(!0==lab30 ns t)=true then if(0==lab30 ns t)=true then q [.d false 0 (.bool (((bD bs).length:Int)==0))] []else q [.d false 0 (.bool false)] []
       else if(!lab30 ns t==0)=true then if(0==lab30 ns t)=true then q [.d false 0 (.bool (((bD bs).length:Int)==0))] []else q [.d false 0 (.bool false)] []
       else if(!((bD bs).length:Int)==((st.length+lp.length:Nat):Int))=true then q [.d false 0 (.bool false)] []
       else Q3L.G0 s ns st lp q (Q3L.s0 ns st lp (bD bs) 0 op nm ks p op nm ks p)
     |none=>none)=q [.d false 0 (.bool true)] []:=by
     by_cases hl:t.labs (lbOk ns)
     ·rw[lab30_yes hl]
      obtain⟨l,g,g1,g2,g3⟩:=truth_sat c.wd t f ha hl
      rw[g1]
      simp only
      have hb:(bD l).length=st.length+lp.length:=by simp[bD,g2.len]
      rw[if_neg (by decide),if_neg (by decide),if_neg (by rw[hb];simp)]
      have hg:∀i,i<st.length+lp.length→l.getD i false=sB ns st lp t i:=fun i hi=>by
       rw[g2.at' i hi]
       have hpos:posN (st.length+lp.length) st.length i=i:=by rw[posN_eq c.wd.bk,if_pos hi]
       have:=g3 i
       rw[hpos]at this
       exact sB_eq this
      have hk:Kd none ns f t:=⟨hbd,ha,hl⟩
      obtain⟨fs,hfs⟩:∃fs,ofDL ks=some fs∧f=.mk op nm fs p:=by
       simp only[ofD]at hf
       split at hf
       ·rename_i fs e;cases hf;exact⟨fs,e,rfl⟩
       ·cases hf
      have hks:ks=Fm.dL fs:=dL_ofDL _ _ hfs.1
      subst hks
      have L:=holds_loop (o1:=op) (n1:=nm) (k1:=Fm.dL fs) (p1:=p) c hfs.2 hk g2.len hg (st.length+lp.length) 0 rfl
      have L':Lp Q3L.L0 (Q3L.s0 ns st lp (bD l) 0 op nm (Fm.dL fs) p op nm (Fm.dL fs) p)=_:=L
      rw[Q3L.behind0x0 s ns st lp _ op nm _ p q _ L',hx]
      have hn:0<st.length+lp.length:=by have:=c.ne;omega
      cases l with
      |nil=>have:=g2.len;simp at this;omega
      |cons b0 l0=>
       have hR:hR Tryz.prog f.d ns st lp=some (.inr b0):=by
        unfold Go.Sc.hR
        rw[ofD_d]
        simp only
        rw[if_pos ⟨hbd,by omega,by omega⟩]
        unfold holdN
        rw[hz,g1]
       have o1:hOk Tryz.prog f.d ns st lp:=by unfold hOk;rw[hR];rfl
       have o2:hE Tryz.prog f.d ns st lp=.nili:=by unfold hE;rw[hR]
       have o3:hB Tryz.prog f.d ns st lp=b0:=by unfold hB;rw[hR]
       rw[if_pos o1,o2,o3,if_pos (show ifcB .nili=true from rfl),if_pos (show isNil .nili=true from rfl),if_pos (by rw[hb];omega)]
       simp[bD]
     ·rw[lab30_no hl]
      obtain⟨r,er⟩:=truth_any c.wd (strs_any hs) t f ha
      rw[er]
      cases r with
      |inr l=>exact(hl (truth_labs _ t f _ ha er)).elim
      |inl e=>
       have:=truth_err t f e ha er
       subst this
       rfl
    by_cases d1:decide (((st.length+lp.length:Nat):Int)>10)=true
    ·rw[if_pos d1]
     by_cases d2:decide (((st.length+lp.length:Nat):Int)≤64)=true
     ·rw[if_pos d2]
     ·rw[if_neg d2];exact main
    ·rw[if_neg d1];exact main
theorem valid_holds (s:ByteArray) {ns st lp:List D} (hs:strsB ns=true) (h1:intsB st=true) (h2:intsB lp=true) (l1:st.length≤4611686018427387903) (l2:lp.length≤4611686018427387903):
  Valid glS Tryz.prog 3 [.d true 0 (.str s),.d true 0 (.sl 0 ns),.d true 0 (.sl 0 st),.d true 0 (.sl 0 lp)] [.d false 0 (.bool true)] []:=
 valid_of envwh3 mixed Tryz.func3 (by kernel_rfl) (ev_holds s ns st lp hs h1 h2 l1 l2 _)
end Go.Sd
